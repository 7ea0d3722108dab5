/- SetupBlocks: the walk of chapter 14's law on ports and blocks. No condition. -/
import Derived.Test.YtoapbppjkidgiaaSetup6
namespace Go.Proofs.Ytoapbppjkidgiaa.Setup
open Go.RowKit Go.Proofs.YtoapbppjkidgiaaW.PrintWords Go.Proofs.YtoapbppjkidgiaaW.PrintLast Go.Proofs.YtoapbppjkidgiaaW.PrintMore Tape
set_option linter.unusedVariables false
set_option linter.unusedSimpArgs false
theorem exec_load_row {P : Program} {o : Oper} {ρ : Operand → Value} {w : World} (ty : TypeId) (x : Operand) (ho : o.op = .load ty x)
    (g : Nat) (hx : ρ x = .pointer (some ⟨g, 0, none⟩)) (t : TypeId) (cs : Array Value) (fr : Nat × Nat) (d : TypeDesc) (hg : w.heap[g]? = some (.cells cs t fr))
    (hu : P.underlying ty = some d) (hd : (match d with | .struct _ | .array _ _ => true | _ => false) = true) (hi : (P.info? ty).map (·.size) = some cs.size) :
    Sem.run P (execOp ρ o) w = .ok (.value (.agg cs)) w := by
  unfold execOp
  simp only [ho, hx, Instr.loadAt, Instr.sureAddr, Sem.run_bind, Sem.run_pure, Result.andThen_ok, run_loadVar_row w g t ty cs fr d hg hu hd hi]
theorem port_facts {C : Cfg} {p : Int} (h : C.inPort p = true) : C.good = true ∧ C.inBlock (C.blockOf p) = true ∧ C.firstOf (C.blockOf p) ≤ p ∧ p - C.firstOf (C.blockOf p) < C.block ∧ 0 ≤ C.blockOf p ∧ C.blockOf p < C.count ∧ 0 ≤ C.firstOf (C.blockOf p) ∧ p ≤ 65535 := by
  have h0 := h
  unfold Cfg.inPort at h0
  simp only [Bool.and_eq_true] at h0
  obtain ⟨hg, hb⟩ := h0
  obtain ⟨p1, p2⟩ := btw_true hb
  have g := good_facts hg
  obtain ⟨c1, c2, c3⟩ := count_good hg
  have hbl := g.block
  have hlow := g.low
  have hhigh := g.high
  have e1 : C.blockOf p = (p - C.low) / C.block := by unfold Cfg.blockOf; rw [if_pos h]
  have m1 := Int.emod_add_mul_ediv (p - C.low) C.block
  have m2 := Int.emod_nonneg (p - C.low) (show C.block ≠ 0 by omega)
  have m3 := Int.emod_lt_of_pos (p - C.low) (show 0 < C.block by omega)
  have q0 : 0 ≤ (p - C.low) / C.block := Int.ediv_nonneg (by omega) (by omega)
  have q1 : (p - C.low) / C.block < C.count := by
    refine Int.ediv_lt_of_lt_mul (by omega) ?_
    rw [c2]
    omega
  have e2 : C.inBlock (C.blockOf p) = true := by
    rw [e1]
    unfold Cfg.inBlock btw
    simp only [Bool.and_eq_true, decide_eq_true_eq]
    omega
  have e3 : C.firstOf (C.blockOf p) = C.low + (p - C.low) / C.block * C.block := by
    unfold Cfg.firstOf
    rw [if_pos e2, e1]
  have e4 : (p - C.low) / C.block * C.block = C.block * ((p - C.low) / C.block) := Int.mul_comm _ _
  have e5 : 0 ≤ C.block * ((p - C.low) / C.block) := Int.mul_nonneg (by omega) q0
  refine ⟨hg, e2, ?_, ?_, by rw [e1]; exact q0, by rw [e1]; exact q1, ?_, by omega⟩
  all_goals (rw [e3, e4]; omega)
set_option maxHeartbeats 8000000 in
set_option maxRecDepth 100000 in
theorem blocks_calls (w : World) (cs : Array Value) (C : Cfg) (p : Int) (h : IsCfg w cs C) (hp : i64 p) :
    Calls Try.prog 8 #[.agg cs, .int .i64 p] w fun e w' => e = .returned (.bool true) ∧ Below w.heap.size w w' := by
  have HC := Aside0.mk h
  have HK := Aside0.mk (heap_alloc_new w (.cells cs 41))
  have HB := Aside0.mk (below_alloc (Below.refl _ w) (.cells cs 41))
  obtain ⟨hfit, A, c, hcs, hlc, hrd⟩ := h
  have HCS := Aside0.mk hcs
  have hlm : C.outer.length ≤ 9223372036854775807 := hrd.2.1
  have HP := Aside0.mk hp
  clear hfit hrd hcs hp
  go_enter Try.func8, Try.ntmps8
  go_wp2_with fail
  refine (awake_calls _).mono ?_
  rintro e w1 ⟨rfl, hb⟩
  have HB1 := Aside0.mk (below_then HB.out (by simp) hb)
  have HK1 := Aside0.mk (blk_below HK.out hb)
  have k3 : w1.cell? ⟨w.heap.size, 3, none⟩ = some (.slice A C.outer.length c) := (blk_cell HK1.out 3).trans (by rw [HCS.out]; rfl)
  clear hb
  by_cases hlen : (1000 : Int) < C.outer.length
  · go_wp2_with fail
    go_ret
    exact ⟨rfl, HB1.out⟩
  · go_wp2_with (first
      | ((with_reducible refine gate_dst (N := 18) rfl ?_); refine wpList_load_row rfl 41 (.tmp 2) rfl w.heap.size rfl 41 cs (0, 0) _ HK1.out Try.underlying41 rfl HC.out.info ?_))
    refine (check_calls _ cs C (HC.out.below HB1.out)).mono ?_
    rintro e w2 ⟨rfl, hb⟩
    have HB2 := Aside0.mk (below_then HB1.out HB1.out.size hb)
    have HK2 := Aside0.mk (blk_below HK1.out hb)
    clear hb k3
    cases hg : C.good with
    | false =>
      have he : errOf C.chk = 1 := by
        unfold errOf
        rw [if_neg]
        intro h0
        unfold Cfg.good at hg
        rw [h0] at hg
        cases hg
      rw [he]
      clear he
      go_wp2_with (first
        | ((with_reducible refine gate_dst (N := 24) rfl ?_); refine wpList_load_row rfl 41 (.tmp 2) rfl w.heap.size rfl 41 cs (0, 0) _ HK2.out Try.underlying41 rfl HC.out.info ?_))
      refine (count_calls _ cs C (HC.out.below HB2.out)).mono ?_
      rintro e w3 ⟨he, hb⟩
      have e0 : C.count = 0 := by unfold Cfg.count; rw [hg]; rfl
      rw [e0] at he
      subst he
      have HB3 := Aside0.mk (below_then HB2.out HB2.out.size hb)
      have HK3 := Aside0.mk (blk_below HK2.out hb)
      clear hb e0
      go_wp2_with (first
        | ((with_reducible refine gate_dst (N := 28) rfl ?_); refine gate_guard (by rfl) ?_; refine wpList_load_row rfl 41 (.tmp 2) rfl w.heap.size rfl 41 cs (0, 0) _ HK3.out Try.underlying41 rfl HC.out.info ?_))
      refine (sub_calls _ cs C _ (HC.out.below HB3.out) (by unfold u32; omega)).mono ?_
      rintro e w4 ⟨he, hb⟩
      have e0 : C.sub (p % 4294967296) = false := by unfold Cfg.sub; rw [hg]; rfl
      rw [e0] at he
      subst he
      have HB4 := Aside0.mk (below_then HB3.out HB3.out.size hb)
      clear hb e0
      go_wp2
      go_ret
      exact ⟨rfl, HB4.out⟩
    | true =>
      have he : errOf C.chk = 0 := by
        unfold Cfg.good at hg
        have : C.chk = 0 := by simpa using hg
        rw [this]; rfl
      rw [he]
      clear he
      go_wp2_with (first
        | ((with_reducible refine gate_dst (N := 35) rfl ?_); refine wpList_load_row rfl 41 (.tmp 2) rfl w.heap.size rfl 41 cs (0, 0) _ HK2.out Try.underlying41 rfl HC.out.info ?_))
      refine (block_calls _ cs C p (HC.out.below HB2.out) HP.out).mono ?_
      rintro e w3 ⟨rfl, hb⟩
      have HB3 := Aside0.mk (below_then HB2.out HB2.out.size hb)
      have HK3 := Aside0.mk (blk_below HK2.out hb)
      clear hb
      cases hin : C.inPort p with
      | false =>
        have k4 := cfg_cell HC.out HK3.out 4 _ (fun _ _ => rfl)
        have k5 := cfg_cell HC.out HK3.out 5 _ (fun _ _ => rfl)
        have hbt : btw p C.low C.high = false := by
          unfold Cfg.inPort at hin
          rw [hg] at hin
          simpa using hin
        by_cases hpl : p < C.low
        · clear hbt
          go_wp2
          go_ret
          exact ⟨rfl, HB3.out⟩
        · have hph : C.high < p := by
            unfold btw at hbt
            simp only [Bool.and_eq_false_iff, decide_eq_false_iff_not] at hbt
            omega
          clear hbt
          go_wp2
          go_ret
          exact ⟨rfl, HB3.out⟩
      | true =>
        obtain ⟨_, f1, f2, f3, f4, f5, f6, f7⟩ := port_facts hin
        have hcb : C.count * C.block = C.high - C.low + 1 := (count_good hg).2.1
        have g1 := (good_facts hg).low
        have g2 := (good_facts hg).lh
        have g3 := (good_facts hg).high
        have c1 := (count_good hg).1
        have c2 := (count_good hg).2.2
        have HCB := Aside0.mk hcb
        clear hcb
        go_wp2_with (first
          | ((with_reducible refine gate_dst (N := 53) rfl ?_); refine wpList_load_row rfl 41 (.tmp 2) rfl w.heap.size rfl 41 cs (0, 0) _ HK3.out Try.underlying41 rfl HC.out.info ?_))
        refine (first_calls _ cs C (C.blockOf p) (HC.out.below HB3.out)).mono ?_
        rintro e w4 ⟨he, hb⟩
        rw [f1] at he
        subst he
        have HB4 := Aside0.mk (below_then HB3.out HB3.out.size hb)
        have HK4 := Aside0.mk (blk_below HK3.out hb)
        clear hb f1
        generalize C.firstOf (C.blockOf p) = F at *
        generalize C.blockOf p = b at *
        go_wp2_with fail
        have d1 : decide (F ≤ p) = true := decide_eq_true f2
        have d2 : decide (p - F < C.block) = true := decide_eq_true f3
        have d3 : decide (0 ≤ b) = true := decide_eq_true f4
        have d4 : decide (b < C.count) = true := decide_eq_true f5
        have s1 : wrap64 (p - F) = p - F := by unfold wrap64; omega
        have s2 : IntKind.i64.wrap (p - F) = p - F := by rw [i64_w]; exact s1
        have s3 : wrap64 (C.high - C.low) = C.high - C.low := by unfold wrap64; omega
        have s4 : IntKind.i64.wrap (C.high - C.low) = C.high - C.low := by rw [i64_w]; exact s3
        have s5 : wrap64 (C.high - C.low + 1) = C.high - C.low + 1 := by unfold wrap64; omega
        have s6 : IntKind.i64.wrap (C.high - C.low + 1) = C.high - C.low + 1 := by rw [i64_w]; exact s5
        have s7 : wrap64 (C.count * C.block) = C.high - C.low + 1 := by rw [HCB.out]; exact s5
        have s8 : IntKind.i64.wrap (C.count * C.block) = C.high - C.low + 1 := by rw [i64_w]; exact s7
        refine start_ (n := 39) (S := fun w' => w'.heap[w.heap.size]? = some (.cells cs 41 (0, 0)) ∧ w'.cell? ⟨w.heap.size, 4, none⟩ = some (.int .i64 C.low) ∧ w'.cell? ⟨w.heap.size, 5, none⟩ = some (.int .i64 C.high) ∧ w'.cell? ⟨w.heap.size, 6, none⟩ = some (.int .i64 C.block)) (ds := []) #[false, false, false, false, false, false, false, false, false, false, false, false, false, false, false, false, false, false, false, false, false, false, false, false, false, false, false, false, false, false, false, false, false, false, false, false, false, false, false] (by kernel_rfl) rfl rfl ⟨HK4.out, cfg_cell HC.out HK4.out 4 _ (fun _ _ => rfl), cfg_cell HC.out HK4.out 5 _ (fun _ _ => rfl), cfg_cell HC.out HK4.out 6 _ (fun _ _ => rfl)⟩ (fun hHeld => ?_)
        refine pure_ (i := 0) (N := some 58) (v := ?_) (a' := ?_) #[true, false, false, false, false, false, false, false, false, false, false, false, false, false, false, false, false, false, false, false, false, false, false, false, false, false, false, false, false, false, false, false, false, false, false, false, false, false, false] rfl rfl (by kernel_rfl) (fun _ _ _ h => h) (Or.inl ⟨by rfl, ?_⟩) ?_ ?_
        rotate_left
        · intro w'
          go_simp
          with_reducible rfl
        rotate_left
        · simp only [Act.put, List.setIfInBounds_toArray, List.set_cons_zero, List.set_cons_succ, i64_w, i32_w]
          rfl
        refine pure_ (i := 1) (N := some 59) (v := ?_) (a' := ?_) #[true, true, false, false, false, false, false, false, false, false, false, false, false, false, false, false, false, false, false, false, false, false, false, false, false, false, false, false, false, false, false, false, false, false, false, false, false, false, false] rfl rfl (by kernel_rfl) (fun _ _ _ h => h) (Or.inl ⟨by rfl, ?_⟩) ?_ ?_
        rotate_left
        · intro w'
          go_simp
          with_reducible rfl
        rotate_left
        · simp only [Act.put, List.setIfInBounds_toArray, List.set_cons_zero, List.set_cons_succ, i64_w, i32_w]
          rfl
        refine pure_ (i := 2) (N := some 60) (v := ?_) (a' := ?_) #[true, true, true, false, false, false, false, false, false, false, false, false, false, false, false, false, false, false, false, false, false, false, false, false, false, false, false, false, false, false, false, false, false, false, false, false, false, false, false] rfl rfl (by kernel_rfl) (fun _ _ _ h => h) (Or.inl ⟨by rfl, ?_⟩) ?_ ?_
        rotate_left
        · intro w'
          go_simp
          with_reducible rfl
        rotate_left
        · simp only [Act.put, List.setIfInBounds_toArray, List.set_cons_zero, List.set_cons_succ, i64_w, i32_w]
          rfl
        refine pure_ (i := 3) (N := some 61) (v := ?_) (a' := ?_) #[true, true, true, true, false, false, false, false, false, false, false, false, false, false, false, false, false, false, false, false, false, false, false, false, false, false, false, false, false, false, false, false, false, false, false, false, false, false, false] rfl rfl (by kernel_rfl) (fun _ _ _ h => h) (Or.inl ⟨by rfl, ?_⟩) ?_ ?_
        rotate_left
        · intro w'
          go_simp
          with_reducible rfl
        rotate_left
        · simp only [Act.put, List.setIfInBounds_toArray, List.set_cons_zero, List.set_cons_succ, i64_w, i32_w]
          rfl
        refine pure_ (i := 4) (N := some 62) (v := ?_) (a' := ?_) #[true, true, true, true, true, false, false, false, false, false, false, false, false, false, false, false, false, false, false, false, false, false, false, false, false, false, false, false, false, false, false, false, false, false, false, false, false, false, false] rfl rfl (by kernel_rfl) (fun _ _ _ h => h) (Or.inl ⟨by rfl, ?_⟩) ?_ ?_
        rotate_left
        · intro w'
          go_simp
          with_reducible rfl
        rotate_left
        · simp only [Act.put, List.setIfInBounds_toArray, List.set_cons_zero, List.set_cons_succ, i64_w, i32_w]
          rfl
        refine pure_ (i := 5) (N := some 63) (v := ?_) (a' := ?_) #[true, true, true, true, true, true, false, false, false, false, false, false, false, false, false, false, false, false, false, false, false, false, false, false, false, false, false, false, false, false, false, false, false, false, false, false, false, false, false] rfl rfl (by kernel_rfl) (fun _ _ _ h => h) (Or.inl ⟨by rfl, ?_⟩) ?_ ?_
        rotate_left
        · intro w'
          go_simp
          with_reducible rfl
        rotate_left
        · simp only [Act.put, List.setIfInBounds_toArray, List.set_cons_zero, List.set_cons_succ, i64_w, i32_w]
          rfl
        refine pure_ (i := 6) (N := some 64) (v := ?_) (a' := ?_) #[true, true, true, true, true, true, true, false, false, false, false, false, false, false, false, false, false, false, false, false, false, false, false, false, false, false, false, false, false, false, false, false, false, false, false, false, false, false, false] rfl rfl (by kernel_rfl) (fun _ _ _ h => h) (Or.inl ⟨by rfl, ?_⟩) ?_ ?_
        rotate_left
        · intro w'
          go_simp
          with_reducible rfl
        rotate_left
        · simp only [Act.put, List.setIfInBounds_toArray, List.set_cons_zero, List.set_cons_succ, i64_w, i32_w]
          rfl
        refine pure_ (i := 7) (N := some 65) (v := ?_) (a' := ?_) #[true, true, true, true, true, true, true, true, false, false, false, false, false, false, false, false, false, false, false, false, false, false, false, false, false, false, false, false, false, false, false, false, false, false, false, false, false, false, false] rfl rfl (by kernel_rfl) (fun _ _ _ h => h) (Or.inl ⟨by rfl, ?_⟩) ?_ ?_
        rotate_left
        · intro w'
          go_simp
          with_reducible rfl
        rotate_left
        · simp only [Act.put, List.setIfInBounds_toArray, List.set_cons_zero, List.set_cons_succ, i64_w, i32_w]
          rfl
        refine pure_ (i := 8) (N := some 66) (v := ?_) (a' := ?_) #[true, true, true, true, true, true, true, true, true, false, false, false, false, false, false, false, false, false, false, false, false, false, false, false, false, false, false, false, false, false, false, false, false, false, false, false, false, false, false] rfl rfl (by kernel_rfl) (fun _ _ _ h => h) (Or.inl ⟨by rfl, ?_⟩) ?_ ?_
        rotate_left
        · intro w'
          go_simp
          with_reducible rfl
        rotate_left
        · simp only [Act.put, List.setIfInBounds_toArray, List.set_cons_zero, List.set_cons_succ, i64_w, i32_w]
          rfl
        refine pure_ (i := 9) (N := some 67) (v := ?_) (a' := ?_) #[true, true, true, true, true, true, true, true, true, true, false, false, false, false, false, false, false, false, false, false, false, false, false, false, false, false, false, false, false, false, false, false, false, false, false, false, false, false, false] rfl rfl (by kernel_rfl) (fun _ _ _ h => h) (Or.inl ⟨by rfl, ?_⟩) ?_ ?_
        rotate_left
        · intro w'
          go_simp
          with_reducible rfl
        rotate_left
        · simp only [Act.put, List.setIfInBounds_toArray, List.set_cons_zero, List.set_cons_succ, i64_w, i32_w]
          rfl
        refine pure_ (i := 10) (N := some 68) (v := ?_) (a' := ?_) #[true, true, true, true, true, true, true, true, true, true, true, false, false, false, false, false, false, false, false, false, false, false, false, false, false, false, false, false, false, false, false, false, false, false, false, false, false, false, false] rfl rfl (by kernel_rfl) (fun _ _ _ h => h) (Or.inl ⟨by rfl, ?_⟩) ?_ ?_
        rotate_left
        · intro w'
          go_simp
          with_reducible rfl
        rotate_left
        · simp only [Act.put, List.setIfInBounds_toArray, List.set_cons_zero, List.set_cons_succ, i64_w, i32_w]
          rfl
        refine take_ (i := 11) (N := some 69) (v := ?_) (a' := ?_) #[true, true, true, true, true, true, true, true, true, true, true, true, false, false, false, false, false, false, false, false, false, false, false, false, false, false, false, false, false, false, false, false, false, false, false, false, false, false, false] rfl rfl (by kernel_rfl) (fun _ _ _ h => h) (Or.inl ⟨by rfl, ?_⟩) hHeld ?_ ?_
        rotate_left
        · rintro w' ⟨s0, s1, s2, s3⟩
          go_simp
          with_reducible rfl
        rotate_left
        · simp only [Act.put, List.setIfInBounds_toArray, List.set_cons_zero, List.set_cons_succ, i64_w, i32_w]
          rfl
        refine pure_ (i := 12) (N := some 70) (v := ?_) (a' := ?_) #[true, true, true, true, true, true, true, true, true, true, true, true, true, false, false, false, false, false, false, false, false, false, false, false, false, false, false, false, false, false, false, false, false, false, false, false, false, false, false] rfl rfl (by kernel_rfl) (fun _ _ _ h => h) (Or.inl ⟨by rfl, ?_⟩) ?_ ?_
        rotate_left
        · intro w'
          go_simp
          with_reducible rfl
        rotate_left
        · simp only [Act.put, List.setIfInBounds_toArray, List.set_cons_zero, List.set_cons_succ, i64_w, i32_w]
          rfl
        refine pure_ (i := 13) (N := some 71) (v := ?_) (a' := ?_) #[true, true, true, true, true, true, true, true, true, true, true, true, true, true, false, false, false, false, false, false, false, false, false, false, false, false, false, false, false, false, false, false, false, false, false, false, false, false, false] rfl rfl (by kernel_rfl) (fun _ _ _ h => h) (Or.inl ⟨by rfl, ?_⟩) ?_ ?_
        rotate_left
        · intro w'
          go_simp
          with_reducible rfl
        rotate_left
        · simp only [Act.put, List.setIfInBounds_toArray, List.set_cons_zero, List.set_cons_succ, i64_w, i32_w]
          rfl
        refine pure_ (i := 14) (N := some 72) (v := ?_) (a' := ?_) #[true, true, true, true, true, true, true, true, true, true, true, true, true, true, true, false, false, false, false, false, false, false, false, false, false, false, false, false, false, false, false, false, false, false, false, false, false, false, false] rfl rfl (by kernel_rfl) (fun _ _ _ h => h) (Or.inl ⟨by rfl, ?_⟩) ?_ ?_
        rotate_left
        · intro w'
          go_simp
          with_reducible rfl
        rotate_left
        · simp only [Act.put, List.setIfInBounds_toArray, List.set_cons_zero, List.set_cons_succ, i64_w, i32_w]
          rfl
        refine pure_ (i := 15) (N := some 73) (v := ?_) (a' := ?_) #[true, true, true, true, true, true, true, true, true, true, true, true, true, true, true, true, false, false, false, false, false, false, false, false, false, false, false, false, false, false, false, false, false, false, false, false, false, false, false] rfl rfl (by kernel_rfl) (fun _ _ _ h => h) (Or.inl ⟨by rfl, ?_⟩) ?_ ?_
        rotate_left
        · intro w'
          go_simp
          with_reducible rfl
        rotate_left
        · simp only [Act.put, List.setIfInBounds_toArray, List.set_cons_zero, List.set_cons_succ, i64_w, i32_w]
          rfl
        refine pure_ (i := 16) (N := some 74) (v := ?_) (a' := ?_) #[true, true, true, true, true, true, true, true, true, true, true, true, true, true, true, true, true, false, false, false, false, false, false, false, false, false, false, false, false, false, false, false, false, false, false, false, false, false, false] rfl rfl (by kernel_rfl) (fun _ _ _ h => h) (Or.inl ⟨by rfl, ?_⟩) ?_ ?_
        rotate_left
        · intro w'
          go_simp
          with_reducible rfl
        rotate_left
        · simp only [Act.put, List.setIfInBounds_toArray, List.set_cons_zero, List.set_cons_succ, i64_w, i32_w]
          rfl
        refine pure_ (i := 17) (N := some 75) (v := ?_) (a' := ?_) #[true, true, true, true, true, true, true, true, true, true, true, true, true, true, true, true, true, true, false, false, false, false, false, false, false, false, false, false, false, false, false, false, false, false, false, false, false, false, false] rfl rfl (by kernel_rfl) (fun _ _ _ h => h) (Or.inl ⟨by rfl, ?_⟩) ?_ ?_
        rotate_left
        · intro w'
          go_simp
          with_reducible rfl
        rotate_left
        · simp only [Act.put, List.setIfInBounds_toArray, List.set_cons_zero, List.set_cons_succ, i64_w, i32_w]
          rfl
        refine pure_ (i := 18) (N := some 76) (v := ?_) (a' := ?_) #[true, true, true, true, true, true, true, true, true, true, true, true, true, true, true, true, true, true, true, false, false, false, false, false, false, false, false, false, false, false, false, false, false, false, false, false, false, false, false] rfl rfl (by kernel_rfl) (fun _ _ _ h => h) (Or.inl ⟨by rfl, ?_⟩) ?_ ?_
        rotate_left
        · intro w'
          go_simp
          with_reducible rfl
        rotate_left
        · simp only [Act.put, List.setIfInBounds_toArray, List.set_cons_zero, List.set_cons_succ, i64_w, i32_w]
          rfl
        refine pure_ (i := 19) (N := some 77) (v := ?_) (a' := ?_) #[true, true, true, true, true, true, true, true, true, true, true, true, true, true, true, true, true, true, true, true, false, false, false, false, false, false, false, false, false, false, false, false, false, false, false, false, false, false, false] rfl rfl (by kernel_rfl) (fun _ _ _ h => h) (Or.inl ⟨by rfl, ?_⟩) ?_ ?_
        rotate_left
        · intro w'
          go_simp
          with_reducible rfl
        rotate_left
        · simp only [Act.put, List.setIfInBounds_toArray, List.set_cons_zero, List.set_cons_succ, i64_w, i32_w]
          rfl
        refine one_ (i := 20) (N := some 78) #[true, true, true, true, true, true, true, true, true, true, true, true, true, true, true, true, true, true, true, true, true, false, false, false, false, false, false, false, false, false, false, false, false, false, false, false, false, false, false] rfl rfl (by kernel_rfl) (by decide) (fun K hK => ?_)
        refine value_ (w1 := _) (v := .agg cs) (by rfl) rfl (exec_load_row 41 (.tmp 2) rfl w.heap.size rfl 41 cs (0, 0) _ hHeld.1 Try.underlying41 rfl HC.out.info) ?_
        have K5 := Aside0.mk hHeld.1
        refine hK.out _ _ ⟨K5.out, cfg_cell HC.out K5.out 4 _ (fun _ _ => rfl), cfg_cell HC.out K5.out 5 _ (fun _ _ => rfl), cfg_cell HC.out K5.out 6 _ (fun _ _ => rfl)⟩ (fun hHeld => ?_)
        clear hK K
        refine norm_ (a' := ?_) ?_ ?_
        rotate_left
        · show Act.put _ (some 78) _ = _
          simp only [Act.put, List.setIfInBounds_toArray, List.set_cons_zero, List.set_cons_succ, i64_w, i32_w]
          rfl
        refine one_ (i := 21) (N := some 79) #[true, true, true, true, true, true, true, true, true, true, true, true, true, true, true, true, true, true, true, true, true, true, false, false, false, false, false, false, false, false, false, false, false, false, false, false, false, false, false] rfl rfl (by kernel_rfl) (by decide) (fun K hK => ?_)
        refine goes_ Try.func27 (by kernel_rfl) rfl #[.agg cs] (by rfl) rfl rfl (by simp only [List.map_toArray, List.map_cons, List.map_nil]; rfl) ?_
        with_reducible refine (count_calls _ cs C (HC.out.below (below_drew HB4.out))).mono ?_
        rintro e w5 ⟨rfl, hb⟩
        refine ⟨_, rfl, ?_⟩
        have HB5 := Aside0.mk (below_then (below_drew HB4.out) HB4.out.size hb)
        have HK5 := Aside0.mk (blk_below (w := w4.drew) HK4.out hb)
        clear hb
        refine hK.out _ _ ⟨HK5.out, cfg_cell HC.out HK5.out 4 _ (fun _ _ => rfl), cfg_cell HC.out HK5.out 5 _ (fun _ _ => rfl), cfg_cell HC.out HK5.out 6 _ (fun _ _ => rfl)⟩ (fun hHeld => ?_)
        clear hK K
        refine norm_ (a' := ?_) ?_ ?_
        rotate_left
        · show Act.put _ (some 79) _ = _
          simp only [Act.put, List.setIfInBounds_toArray, List.set_cons_zero, List.set_cons_succ, i64_w, i32_w]
          rfl
        refine pure_ (i := 22) (N := some 80) (v := ?_) (a' := ?_) #[true, true, true, true, true, true, true, true, true, true, true, true, true, true, true, true, true, true, true, true, true, true, true, false, false, false, false, false, false, false, false, false, false, false, false, false, false, false, false] rfl rfl (by kernel_rfl) (fun _ _ _ h => h) (Or.inl ⟨by rfl, ?_⟩) ?_ ?_
        rotate_left
        · intro w'
          go_simp
          with_reducible rfl
        rotate_left
        · simp only [Act.put, List.setIfInBounds_toArray, List.set_cons_zero, List.set_cons_succ, i64_w, i32_w]
          rfl
        refine pure_ (i := 23) (N := some 81) (v := ?_) (a' := ?_) #[true, true, true, true, true, true, true, true, true, true, true, true, true, true, true, true, true, true, true, true, true, true, true, true, false, false, false, false, false, false, false, false, false, false, false, false, false, false, false] rfl rfl (by kernel_rfl) (fun _ _ _ h => h) (Or.inl ⟨by rfl, ?_⟩) ?_ ?_
        rotate_left
        · intro w'
          go_simp
          with_reducible rfl
        rotate_left
        · simp only [Act.put, List.setIfInBounds_toArray, List.set_cons_zero, List.set_cons_succ, i64_w, i32_w]
          rfl
        refine pure_ (i := 24) (N := some 82) (v := ?_) (a' := ?_) #[true, true, true, true, true, true, true, true, true, true, true, true, true, true, true, true, true, true, true, true, true, true, true, true, true, false, false, false, false, false, false, false, false, false, false, false, false, false, false] rfl rfl (by kernel_rfl) (fun _ _ _ h => h) (Or.inl ⟨by rfl, ?_⟩) ?_ ?_
        rotate_left
        · intro w'
          go_simp
          with_reducible rfl
        rotate_left
        · simp only [Act.put, List.setIfInBounds_toArray, List.set_cons_zero, List.set_cons_succ, i64_w, i32_w]
          rfl
        refine pure_ (i := 25) (N := some 83) (v := ?_) (a' := ?_) #[true, true, true, true, true, true, true, true, true, true, true, true, true, true, true, true, true, true, true, true, true, true, true, true, true, true, false, false, false, false, false, false, false, false, false, false, false, false, false] rfl rfl (by kernel_rfl) (fun _ _ _ h => h) (Or.inl ⟨by rfl, ?_⟩) ?_ ?_
        rotate_left
        · intro w'
          go_simp
          with_reducible rfl
        rotate_left
        · simp only [Act.put, List.setIfInBounds_toArray, List.set_cons_zero, List.set_cons_succ, i64_w, i32_w]
          rfl
        refine pure_ (i := 27) (N := some 85) (v := ?_) (a' := ?_) #[true, true, true, true, true, true, true, true, true, true, true, true, true, true, true, true, true, true, true, true, true, true, true, true, true, true, false, true, false, false, false, false, false, false, false, false, false, false, false] rfl rfl (by kernel_rfl) (fun _ _ _ h => h) (Or.inl ⟨by rfl, ?_⟩) ?_ ?_
        rotate_left
        · intro w'
          go_simp
          with_reducible rfl
        rotate_left
        · simp only [Act.put, List.setIfInBounds_toArray, List.set_cons_zero, List.set_cons_succ, i64_w, i32_w]
          rfl
        refine pure_ (i := 33) (N := some 91) (v := ?_) (a' := ?_) #[true, true, true, true, true, true, true, true, true, true, true, true, true, true, true, true, true, true, true, true, true, true, true, true, true, true, false, true, false, false, false, false, false, true, false, false, false, false, false] rfl rfl (by kernel_rfl) (fun _ _ _ h => h) (Or.inl ⟨by rfl, ?_⟩) ?_ ?_
        rotate_left
        · intro w'
          go_simp
          with_reducible rfl
        rotate_left
        · simp only [Act.put, List.setIfInBounds_toArray, List.set_cons_zero, List.set_cons_succ, i64_w, i32_w]
          rfl
        refine take_ (i := 26) (N := some 84) (v := ?_) (a' := ?_) #[true, true, true, true, true, true, true, true, true, true, true, true, true, true, true, true, true, true, true, true, true, true, true, true, true, true, true, true, false, false, false, false, false, true, false, false, false, false, false] rfl rfl (by kernel_rfl) (fun _ _ _ h => h) (Or.inl ⟨by rfl, ?_⟩) hHeld ?_ ?_
        rotate_left
        · rintro w' ⟨s0, s1, s2, s3⟩
          go_simp
          with_reducible rfl
        rotate_left
        · simp only [Act.put, List.setIfInBounds_toArray, List.set_cons_zero, List.set_cons_succ, i64_w, i32_w]
          rfl
        refine take_ (i := 28) (N := some 86) (v := ?_) (a' := ?_) #[true, true, true, true, true, true, true, true, true, true, true, true, true, true, true, true, true, true, true, true, true, true, true, true, true, true, true, true, true, false, false, false, false, true, false, false, false, false, false] rfl rfl (by kernel_rfl) (fun _ _ _ h => h) (Or.inl ⟨by rfl, ?_⟩) hHeld ?_ ?_
        rotate_left
        · rintro w' ⟨s0, s1, s2, s3⟩
          go_simp
          with_reducible rfl
        rotate_left
        · simp only [Act.put, List.setIfInBounds_toArray, List.set_cons_zero, List.set_cons_succ, i64_w, i32_w]
          rfl
        refine pure_ (i := 29) (N := some 87) (v := ?_) (a' := ?_) #[true, true, true, true, true, true, true, true, true, true, true, true, true, true, true, true, true, true, true, true, true, true, true, true, true, true, true, true, true, true, false, false, false, true, false, false, false, false, false] rfl rfl (by kernel_rfl) (fun _ _ _ h => h) (Or.inl ⟨by rfl, ?_⟩) ?_ ?_
        rotate_left
        · intro w'
          go_simp
          with_reducible rfl
        rotate_left
        · simp only [Act.put, List.setIfInBounds_toArray, List.set_cons_zero, List.set_cons_succ, i64_w, i32_w]
          rfl
        refine pure_ (i := 30) (N := some 88) (v := ?_) (a' := ?_) #[true, true, true, true, true, true, true, true, true, true, true, true, true, true, true, true, true, true, true, true, true, true, true, true, true, true, true, true, true, true, true, false, false, true, false, false, false, false, false] rfl rfl (by kernel_rfl) (fun _ _ _ h => h) (Or.inl ⟨by rfl, ?_⟩) ?_ ?_
        rotate_left
        · intro w'
          go_simp
          with_reducible rfl
        rotate_left
        · simp only [Act.put, List.setIfInBounds_toArray, List.set_cons_zero, List.set_cons_succ, i64_w, i32_w]
          rfl
        refine take_ (i := 34) (N := some 92) (v := ?_) (a' := ?_) #[true, true, true, true, true, true, true, true, true, true, true, true, true, true, true, true, true, true, true, true, true, true, true, true, true, true, true, true, true, true, true, false, false, true, true, false, false, false, false] rfl rfl (by kernel_rfl) (fun _ _ _ h => h) (Or.inl ⟨by rfl, ?_⟩) hHeld ?_ ?_
        rotate_left
        · rintro w' ⟨s0, s1, s2, s3⟩
          go_simp
          with_reducible rfl
        rotate_left
        · simp only [Act.put, List.setIfInBounds_toArray, List.set_cons_zero, List.set_cons_succ, i64_w, i32_w]
          rfl
        refine one_ (i := 31) (N := some 89) #[true, true, true, true, true, true, true, true, true, true, true, true, true, true, true, true, true, true, true, true, true, true, true, true, true, true, true, true, true, true, true, true, false, true, true, false, false, false, false] rfl rfl (by kernel_rfl) (by decide) (fun K hK => ?_)
        refine value_ (w1 := _) (v := .agg cs) (by rfl) rfl (exec_load_row 41 (.tmp 2) rfl w.heap.size rfl 41 cs (0, 0) _ hHeld.1 Try.underlying41 rfl HC.out.info) ?_
        have K6 := Aside0.mk hHeld.1
        refine hK.out _ _ ⟨K6.out, cfg_cell HC.out K6.out 4 _ (fun _ _ => rfl), cfg_cell HC.out K6.out 5 _ (fun _ _ => rfl), cfg_cell HC.out K6.out 6 _ (fun _ _ => rfl)⟩ (fun hHeld => ?_)
        clear hK K
        refine norm_ (a' := ?_) ?_ ?_
        rotate_left
        · show Act.put _ (some 89) _ = _
          simp only [Act.put, List.setIfInBounds_toArray, List.set_cons_zero, List.set_cons_succ, i64_w, i32_w]
          rfl
        refine one_ (i := 32) (N := some 90) #[true, true, true, true, true, true, true, true, true, true, true, true, true, true, true, true, true, true, true, true, true, true, true, true, true, true, true, true, true, true, true, true, true, true, true, false, false, false, false] rfl rfl (by kernel_rfl) (by decide) (fun K hK => ?_)
        refine goes_ Try.func27 (by kernel_rfl) rfl #[.agg cs] (by rfl) rfl rfl (by simp only [List.map_toArray, List.map_cons, List.map_nil]; rfl) ?_
        with_reducible refine (count_calls _ cs C (HC.out.below HB5.out)).mono ?_
        rintro e w6 ⟨rfl, hb⟩
        refine ⟨_, rfl, ?_⟩
        have HB6 := Aside0.mk (below_then HB5.out HB5.out.size hb)
        have HK6 := Aside0.mk (blk_below HK5.out hb)
        clear hb
        refine hK.out _ _ ⟨HK6.out, cfg_cell HC.out HK6.out 4 _ (fun _ _ => rfl), cfg_cell HC.out HK6.out 5 _ (fun _ _ => rfl), cfg_cell HC.out HK6.out 6 _ (fun _ _ => rfl)⟩ (fun hHeld => ?_)
        clear hK K
        refine norm_ (a' := ?_) ?_ ?_
        rotate_left
        · show Act.put _ (some 90) _ = _
          simp only [Act.put, List.setIfInBounds_toArray, List.set_cons_zero, List.set_cons_succ, i64_w, i32_w]
          rfl
        refine pure_ (i := 35) (N := some 93) (v := ?_) (a' := ?_) #[true, true, true, true, true, true, true, true, true, true, true, true, true, true, true, true, true, true, true, true, true, true, true, true, true, true, true, true, true, true, true, true, true, true, true, true, false, false, false] rfl rfl (by kernel_rfl) (fun _ _ _ h => h) (Or.inl ⟨by rfl, ?_⟩) ?_ ?_
        rotate_left
        · intro w'
          go_simp
          with_reducible rfl
        rotate_left
        · simp only [Act.put, List.setIfInBounds_toArray, List.set_cons_zero, List.set_cons_succ, i64_w, i32_w]
          rfl
        refine pure_ (i := 36) (N := some 94) (v := ?_) (a' := ?_) #[true, true, true, true, true, true, true, true, true, true, true, true, true, true, true, true, true, true, true, true, true, true, true, true, true, true, true, true, true, true, true, true, true, true, true, true, true, false, false] rfl rfl (by kernel_rfl) (fun _ _ _ h => h) (Or.inl ⟨by rfl, ?_⟩) ?_ ?_
        rotate_left
        · intro w'
          go_simp
          with_reducible rfl
        rotate_left
        · simp only [Act.put, List.setIfInBounds_toArray, List.set_cons_zero, List.set_cons_succ, i64_w, i32_w]
          rfl
        refine pure_ (i := 37) (N := some 95) (v := ?_) (a' := ?_) #[true, true, true, true, true, true, true, true, true, true, true, true, true, true, true, true, true, true, true, true, true, true, true, true, true, true, true, true, true, true, true, true, true, true, true, true, true, true, false] rfl rfl (by kernel_rfl) (fun _ _ _ h => h) (Or.inl ⟨by rfl, ?_⟩) ?_ ?_
        rotate_left
        · intro w'
          go_simp
          with_reducible rfl
        rotate_left
        · simp only [Act.put, List.setIfInBounds_toArray, List.set_cons_zero, List.set_cons_succ, i64_w, i32_w]
          rfl
        refine pure_ (i := 38) (N := some 4) (v := ?_) (a' := ?_) #[true, true, true, true, true, true, true, true, true, true, true, true, true, true, true, true, true, true, true, true, true, true, true, true, true, true, true, true, true, true, true, true, true, true, true, true, true, true, true] rfl rfl (by kernel_rfl) (fun _ _ _ h => h) (Or.inl ⟨by rfl, ?_⟩) ?_ ?_
        rotate_left
        · intro w'
          go_simp
          with_reducible rfl
        rotate_left
        · simp only [Act.put, List.setIfInBounds_toArray, List.set_cons_zero, List.set_cons_succ, i64_w, i32_w]
          rfl
        refine done_ (by kernel_rfl) ?_
        go_wp2
        go_ret
        exact ⟨by simp [*], HB6.out⟩
theorem u32_wf {x : Int} (h : (Lit.int .u32 x).wf = true) : u32 x := by
  simp only [Lit.wf, Bool.and_eq_true, decide_eq_true_eq] at h
  have hmin : IntKind.u32.min = 0 := rfl
  have hmax : IntKind.u32.max = 4294967295 := rfl
  unfold u32
  omega
theorem i64_wf {x : Int} (h : (Lit.int .i64 x).wf = true) : i64 x := by
  simp only [Lit.wf, Bool.and_eq_true, decide_eq_true_eq] at h
  have hmin : IntKind.i64.min = -9223372036854775808 := rfl
  have hmax : IntKind.i64.max = 9223372036854775807 := rfl
  unfold i64
  omega
end Go.Proofs.Ytoapbppjkidgiaa.Setup
