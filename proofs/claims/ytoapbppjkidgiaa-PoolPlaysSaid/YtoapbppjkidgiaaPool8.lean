/- Pool8: Pick, which block is chosen. Conditions: the pool, the tape are ones that New made; the tape may be nil. -/
import Derived.Test.YtoapbppjkidgiaaPool7
namespace Go.Proofs.Ytoapbppjkidgiaa.Pool
open Go.RowKit Go.Proofs.YtoapbppjkidgiaaW.PrintWords Go.Proofs.YtoapbppjkidgiaaW.PrintLast Go.Proofs.YtoapbppjkidgiaaW.PrintMore Tape Setup
set_option linter.unusedVariables false
set_option linter.unusedSimpArgs false
set_option maxRecDepth 100000
theorem draw_n (w : World) (a : Option Nat) (l : List Int) (n : Nat) (h : TapeO w a l) :
    Calls Try.prog 18 #[tapeV a, .int .i64 n] w fun e w' => e = .returned (.int .i64 (dn l n : Nat)) ∧ TapeO w' a (rs l n) ∧ StepO a w w' := by
  refine (draw_o w a l n h).mono ?_
  rintro e w' ⟨rfl, h1, h2⟩
  exact ⟨by rw [dn_eq], h1, h2⟩
theorem Nums.cell0 {n₀ : Nat} {w : World} {b n c : Nat} {l : List Nat} (h : Nums n₀ w (.slice (some ⟨b, 0, none⟩) n c) l) {j x : Nat} (hj : l[j]? = some x) : w.cell? ⟨b, j, none⟩ = some (.int .i64 (x : Int)) := by
  rw [← add_plain]
  exact h.cell hj
def PickOk (g ga : Nat) (gs : Nat → Nat) (k N : Nat) (hold : Int) (m : Nat → Nat → Blk) (i now : Int) (a : Option Nat) (l : List Int) (w : World) : Prop :=
  Calls Try.prog 40 #[.pointer (some ⟨g, 0, none⟩), .int .i64 i, .int .i64 now, tapeV a] w fun e w' =>
    e = .returned (.tuple #[.int .i64 (pkA k N m i now l : Nat), .int .i64 (pkB k N m i now l : Nat), .int .i64 (pkErr k N m i now)]) ∧ TapeO w' a (pkL k N m i now l) ∧ StepO a w w'
set_option maxHeartbeats 2000000 in
theorem pick_bad
  (w : World) (g ga : Nat) (gs : Nat → Nat) (k N : Nat) (hold : Int) (m : Nat → Nat → Blk) (i now : Int) (a : Option Nat) (l : List Int) (h : PoolSt w g ga gs k N hold m) (ht : TapeO w a l) (em : mayAsk k i now = false) : PickOk g ga gs k N hold m i now a l w := by
  have e1 : pkErr k N m i now = 1 := by unfold pkErr; rw [em]; rfl
  have e2 : pkA k N m i now l = 0 := by unfold pkA; rw [em]; rfl
  have e3 : pkB k N m i now l = 0 := by unfold pkB; rw [em]; rfl
  have e4 : pkL k N m i now l = l := by unfold pkL; rw [em]; rfl
  unfold PickOk
  rw [e1, e2, e3, e4]
  have EM := em
  clear e1 e2 e3 e4 em
  obtain ⟨c, hh⟩ := h.head
  have h1 : w.cell? ⟨g, 1, none⟩ = some (.slice (some ⟨ga, 0, none⟩) k c) := (blk_cell hh 1).trans rfl
  have hk := h.nk
  have HP := Aside0.mk h
  have HT := Aside0.mk ht
  clear h hh ht
  by_cases t1 : i < -1
  · have t1b : decide (i < -1) = true := decide_eq_true t1
    go_enter Try.func40, Try.ntmps40
    go_wp2_with (first
      | (go_at_call 69; refine (made_calls _ _ _ _ _ _ _ _ HP.out).mono ?_; rintro e w' ⟨rfl, hw⟩; obtain rfl := hw.symm)
      | (go_at_call 71; refine (may_calls _ _).mono ?_; rintro e w' ⟨rfl, hw⟩; obtain rfl := hw.symm))
    go_ret3
    exact ⟨rfl, HT.out, StepO.refl _ _⟩
  · have t1b : decide (i < -1) = false := decide_eq_false t1
    by_cases t2 : (k : Int) ≤ i
    · have t2b : decide ((k : Int) ≤ i) = true := decide_eq_true t2
      have t2c : decide (i ≥ (k : Int)) = true := decide_eq_true t2
      go_enter Try.func40, Try.ntmps40
      go_wp2_with (first
        | (go_at_call 69; refine (made_calls _ _ _ _ _ _ _ _ HP.out).mono ?_; rintro e w' ⟨rfl, hw⟩; obtain rfl := hw.symm)
        | (go_at_call 71; refine (may_calls _ _).mono ?_; rintro e w' ⟨rfl, hw⟩; obtain rfl := hw.symm))
      go_ret3
      exact ⟨rfl, HT.out, StepO.refl _ _⟩
    · have t2b : decide ((k : Int) ≤ i) = false := decide_eq_false t2
      have t2c : decide (i ≥ (k : Int)) = false := decide_eq_false t2
      have hg : good now = false := by
        cases hg : good now with
        | false => rfl
        | true => unfold mayAsk at EM; rw [hg, decide_eq_true (show -1 ≤ i by omega), decide_eq_true (show i < (k : Int) by omega)] at EM; cases EM
      clear EM
      go_enter Try.func40, Try.ntmps40
      go_wp2_with (first
        | (go_at_call 69; refine (made_calls _ _ _ _ _ _ _ _ HP.out).mono ?_; rintro e w' ⟨rfl, hw⟩; obtain rfl := hw.symm)
        | (go_at_call 71; refine (may_calls _ _).mono ?_; rintro e w' ⟨rfl, hw⟩; obtain rfl := hw.symm))
      go_ret3
      exact ⟨rfl, HT.out, StepO.refl _ _⟩
set_option maxHeartbeats 4000000 in
theorem pick_one
  (w : World) (g ga : Nat) (gs : Nat → Nat) (k N : Nat) (hold : Int) (m : Nat → Nat → Blk) (x : Nat) (now : Int) (a : Option Nat) (l : List Int) (h : PoolSt w g ga gs k N hold m) (ht : TapeO w a l) (em : mayAsk k x now = true) : PickOk g ga gs k N hold m x now a l w := by
  have hma := em
  unfold mayAsk at hma
  simp only [Bool.and_eq_true, decide_eq_true_eq] at hma
  obtain ⟨⟨hm1, hm2⟩, hg⟩ := hma
  obtain ⟨c, hh⟩ := h.head
  have h1 : w.cell? ⟨g, 1, none⟩ = some (.slice (some ⟨ga, 0, none⟩) k c) := (blk_cell hh 1).trans rfl
  have hk := h.nk
  have hN := h.nN
  have HP := Aside0.mk h
  have HT := Aside0.mk ht
  clear h hh ht
  have hx : x < k := by omega
  have hx1 : ¬ ((x : Int) < 0) := by omega
  have t1b : decide ((x : Int) < -1) = false := decide_eq_false (by omega)
  have t2b : decide ((k : Int) ≤ (x : Int)) = false := decide_eq_false (by omega)
  have t2c : decide ((x : Int) ≥ (k : Int)) = false := decide_eq_false (by omega)
  have t3b : decide ((x : Int) < 0) = false := decide_eq_false hx1
  obtain ⟨F, hF⟩ : ∃ F, F = frees (m x) now N := ⟨_, rfl⟩
  have hp0 : (0 : Int) ≤ (x : Int) := by omega
  have e0 : pkAny k N m x now = decide (0 < F.length) := by unfold pkAny; rw [if_pos hp0, hF]; rfl
  have HF := Aside0.mk hF
  clear hF
  have HA := Aside0.mk (below_alloc (Below.refl _ w) (.cells #[.int .i64 (x : Int)] 3))
  by_cases hl : F.length = 0
  · have e1 : pkErr k N m x now = 6 := by unfold pkErr; rw [em, e0, hl]; rfl
    have e2 : pkA k N m x now l = 0 := by unfold pkA; rw [em, e0, hl]; rfl
    have e3 : pkB k N m x now l = 0 := by unfold pkB; rw [em, e0, hl]; rfl
    have e4 : pkL k N m x now l = l := by unfold pkL; rw [em, e0, hl]; rfl
    unfold PickOk
    rw [e1, e2, e3, e4]
    clear e0 e1 e2 e3 e4 em hm1 hm2
    go_enter Try.func40, Try.ntmps40
    go_wp2_with (first
      | (go_at_call 69; refine (made_calls _ _ _ _ _ _ _ _ HP.out).mono ?_; rintro e w' ⟨rfl, hw⟩; obtain rfl := hw.symm)
      | (go_at_call 71; refine (may_calls _ _).mono ?_; rintro e w' ⟨rfl, hw⟩; obtain rfl := hw.symm))
    refine (list_calls _ g ga gs k N hold m x now (HP.out.below HA.out) hx).mono ?_
    rintro e w1 ⟨v1, rfl, hv1, hb1⟩
    rw [← HF.out] at hv1
    obtain ⟨ad1, cc1, rfl⟩ := hv1.len
    have HB1 := Aside0.mk (below_then HA.out (by simp) hb1)
    clear hb1 hv1
    have hl1 : ((F.length : Int) == 0) = true := by rw [hl]; rfl
    go_wp2
    go_ret3
    obtain ⟨q1, q2⟩ := HT.out.below HB1.out
    exact ⟨rfl, q1, q2⟩
  · have hlp : 0 < F.length := by omega
    have hd := dn_lt l hlp
    obtain ⟨X, hX⟩ : ∃ X, F[dn l F.length]? = some X := ⟨_, List.getElem?_eq_getElem hd⟩
    have ey : (mayAsk k x now && pkAny k N m x now) = true := by rw [em, e0, decide_eq_true hlp]; rfl
    have eI : pkI k N m x now l = x := by unfold pkI; rw [if_pos hp0]; rfl
    have eT : pkT k N m x now l = l := by unfold pkT; rw [if_pos hp0]
    have e1 : pkErr k N m x now = 0 := by unfold pkErr; rw [em, e0, decide_eq_true hlp]; rfl
    have e2 : pkA k N m x now l = x := by unfold pkA; rw [if_pos ey, eI]
    have e3 : pkB k N m x now l = X := by unfold pkB; rw [if_pos ey, eI, eT, ← HF.out, List.getD_eq_getElem?_getD, hX]; rfl
    have e4 : pkL k N m x now l = rs l F.length := by unfold pkL; rw [if_pos ey, eI, eT, ← HF.out]
    unfold PickOk
    rw [e1, e2, e3, e4]
    clear e0 e1 e2 e3 e4 ey eI eT em hm1 hm2
    have HFX := Aside0.mk hX
    obtain ⟨l1, hl1⟩ : ∃ y, y = l := ⟨_, rfl⟩
    subst hl1
    have hl1 : ((F.length : Int) == 0) = false := beq_eq_false_iff_ne.2 (by omega)
    have hdx : (0 : Int) ≤ (dn l1 F.length : Int) ∧ (dn l1 F.length : Int) < (F.length : Int) := by omega
    clear hX
    go_enter Try.func40, Try.ntmps40
    go_wp2_with (first
      | (go_at_call 69; refine (made_calls _ _ _ _ _ _ _ _ HP.out).mono ?_; rintro e w' ⟨rfl, hw⟩; obtain rfl := hw.symm)
      | (go_at_call 71; refine (may_calls _ _).mono ?_; rintro e w' ⟨rfl, hw⟩; obtain rfl := hw.symm))
    refine (list_calls _ g ga gs k N hold m x now (HP.out.below HA.out) hx).mono ?_
    rintro e w1 ⟨v1, rfl, hv1, hb1⟩
    rw [← HF.out] at hv1
    obtain ⟨ad1, cc1, rfl⟩ := hv1.len
    have HB1 := Aside0.mk (below_then HA.out (by simp) hb1)
    clear hb1 hv1
    go_wp2_with fail
    refine (list_calls _ g ga gs k N hold m x now (HP.out.below HB1.out) hx).mono ?_
    rintro e w2 ⟨v2, rfl, hv2, hb2⟩
    rw [← HF.out] at hv2
    obtain ⟨b, cc2, rfl⟩ := hv2.at hlp
    have HB2 := Aside0.mk (below_then HB1.out HB1.out.size hb2)
    have HTS := Aside0.mk (HT.out.below HB2.out)
    have HTD := Aside0.mk (HTS.out.1.drew).1
    have HV2 := Aside0.mk (Nums.below hv2 (below_drew (Below.refl _ w2)))
    have HPN : Aside0 (∀ p, a = some p → p < w1.heap.size) := ⟨fun p e => by subst e; have := TapeSt.lt' HT.out; have := HB1.out.size; omega⟩
    have HCX := Aside0.mk (HV2.out.cell0 HFX.out)
    clear hb2 hv2
    go_wp2_with fail
    refine start_ (n := 11) (S := fun w' => w'.cell? ⟨b, dn l1 F.length, none⟩ = some (.int .i64 (X : Nat))) (ds := []) #[false, false, false, false, false, false, false, false, false, false, false] (by kernel_rfl) rfl rfl (HCX.out) (fun hHeld => ?_)
    refine pure_ (i := 0) (N := some 78) (v := ?_) (a' := ?_) #[true, false, false, false, false, false, false, false, false, false, false] rfl rfl (by kernel_rfl) (fun _ _ _ h => h) (Or.inl ⟨by rfl, ?_⟩) ?_ ?_
    rotate_left
    · intro w'
      go_simp
      with_reducible rfl
    rotate_left
    · simp only [Act.put, List.setIfInBounds_toArray, List.set_cons_zero, List.set_cons_succ, i64_w, i32_w]
      rfl
    refine pure_ (i := 1) (N := some 79) (v := ?_) (a' := ?_) #[true, true, false, false, false, false, false, false, false, false, false] rfl rfl (by kernel_rfl) (fun _ _ _ h => h) (Or.inl ⟨by rfl, ?_⟩) ?_ ?_
    rotate_left
    · intro w'
      go_simp
      with_reducible rfl
    rotate_left
    · simp only [Act.put, List.setIfInBounds_toArray, List.set_cons_zero, List.set_cons_succ, i64_w, i32_w]
      rfl
    refine pure_ (i := 2) (N := some 80) (v := ?_) (a' := ?_) #[true, true, true, false, false, false, false, false, false, false, false] rfl rfl (by kernel_rfl) (fun _ _ _ h => h) (Or.inl ⟨by rfl, ?_⟩) ?_ ?_
    rotate_left
    · intro w'
      go_simp
      with_reducible rfl
    rotate_left
    · simp only [Act.put, List.setIfInBounds_toArray, List.set_cons_zero, List.set_cons_succ, i64_w, i32_w]
      rfl
    refine pure_ (i := 3) (N := some 81) (v := ?_) (a' := ?_) #[true, true, true, true, false, false, false, false, false, false, false] rfl rfl (by kernel_rfl) (fun _ _ _ h => h) (Or.inl ⟨by rfl, ?_⟩) ?_ ?_
    rotate_left
    · intro w'
      go_simp
      with_reducible rfl
    rotate_left
    · simp only [Act.put, List.setIfInBounds_toArray, List.set_cons_zero, List.set_cons_succ, i64_w, i32_w]
      rfl
    refine pure_ (i := 4) (N := some 82) (v := ?_) (a' := ?_) #[true, true, true, true, true, false, false, false, false, false, false] rfl rfl (by kernel_rfl) (fun _ _ _ h => h) (Or.inl ⟨by rfl, ?_⟩) ?_ ?_
    rotate_left
    · intro w'
      go_simp
      with_reducible rfl
    rotate_left
    · simp only [Act.put, List.setIfInBounds_toArray, List.set_cons_zero, List.set_cons_succ, i64_w, i32_w]
      rfl
    refine one_ (i := 5) (N := some 83) #[true, true, true, true, true, true, false, false, false, false, false] rfl rfl (by kernel_rfl) (by decide) (fun K hK => ?_)
    refine goes_ Try.func18 (by kernel_rfl) rfl #[tapeV a, .int .i64 F.length] (by rfl) rfl rfl (by simp only [List.map_toArray, List.map_cons, List.map_nil]; rfl) ?_
    with_reducible refine (draw_n _ a l1 F.length HTD.out).mono ?_
    rintro e w5 ⟨rfl, ht5, hs5⟩
    refine ⟨_, rfl, ?_⟩
    have HT5 := Aside0.mk ht5
    have HS5 := Aside0.mk hs5
    have HV5 := Aside0.mk (HV2.out.stepO hs5 HPN.out)
    clear ht5 hs5
    refine hK.out _ _ (HV5.out.cell0 HFX.out) (fun hHeld => ?_)
    clear hK K
    refine norm_ (a' := ?_) ?_ ?_
    rotate_left
    · show Act.put _ (some 83) _ = _
      simp only [Act.put, List.setIfInBounds_toArray, List.set_cons_zero, List.set_cons_succ, i64_w, i32_w]
      rfl
    refine pure_ (i := 6) (N := some 84) (v := ?_) (a' := ?_) #[true, true, true, true, true, true, true, false, false, false, false] rfl rfl (by kernel_rfl) (fun _ _ _ h => h) (Or.inl ⟨by rfl, ?_⟩) ?_ ?_
    rotate_left
    · intro w'
      go_simp
      with_reducible rfl
    rotate_left
    · simp only [Act.put, List.setIfInBounds_toArray, List.set_cons_zero, List.set_cons_succ, i64_w, i32_w]
      rfl
    refine pure_ (i := 8) (N := some 8) (v := ?_) (a' := ?_) #[true, true, true, true, true, true, true, false, true, false, false] rfl rfl (by kernel_rfl) (fun _ _ _ h => h) (Or.inl ⟨by rfl, ?_⟩) ?_ ?_
    rotate_left
    · intro w'
      go_simp
      with_reducible rfl
    rotate_left
    · simp only [Act.put, List.setIfInBounds_toArray, List.set_cons_zero, List.set_cons_succ, i64_w, i32_w]
      rfl
    refine take_ (i := 7) (N := some 85) (v := ?_) (a' := ?_) #[true, true, true, true, true, true, true, true, true, false, false] rfl rfl (by kernel_rfl) (fun _ _ _ h => h) (Or.inl ⟨by rfl, ?_⟩) hHeld ?_ ?_
    rotate_left
    · intro w' s0
      go_simp
      with_reducible rfl
    rotate_left
    · simp only [Act.put, List.setIfInBounds_toArray, List.set_cons_zero, List.set_cons_succ, i64_w, i32_w]
      rfl
    refine pure_ (i := 9) (N := some 9) (v := ?_) (a' := ?_) #[true, true, true, true, true, true, true, true, true, true, false] rfl rfl (by kernel_rfl) (fun _ _ _ h => h) (Or.inl ⟨by rfl, ?_⟩) ?_ ?_
    rotate_left
    · intro w'
      go_simp
      with_reducible rfl
    rotate_left
    · simp only [Act.put, List.setIfInBounds_toArray, List.set_cons_zero, List.set_cons_succ, i64_w, i32_w]
      rfl
    refine pure_ (i := 10) (N := some 10) (v := ?_) (a' := ?_) #[true, true, true, true, true, true, true, true, true, true, true] rfl rfl (by kernel_rfl) (fun _ _ _ h => h) (Or.inl ⟨by rfl, ?_⟩) ?_ ?_
    rotate_left
    · intro w'
      go_simp
      with_reducible rfl
    rotate_left
    · simp only [Act.put, List.setIfInBounds_toArray, List.set_cons_zero, List.set_cons_succ, i64_w, i32_w]
      rfl
    refine done_ (by kernel_rfl) ?_
    go_wp2
    go_ret3
    exact ⟨rfl, HT5.out, HTS.out.2.trans ((HTS.out.1.drew).2.trans HS5.out)⟩
set_option maxHeartbeats 8000000 in
theorem pick_any
  (w : World) (g ga : Nat) (gs : Nat → Nat) (k N : Nat) (hold : Int) (m : Nat → Nat → Blk) (now : Int) (a : Option Nat) (l : List Int) (h : PoolSt w g ga gs k N hold m) (ht : TapeO w a l) (em : mayAsk k (-1) now = true) : PickOk g ga gs k N hold m (-1) now a l w := by
  have hma := em
  unfold mayAsk at hma
  simp only [Bool.and_eq_true, decide_eq_true_eq] at hma
  obtain ⟨⟨hm1, hm2⟩, hg⟩ := hma
  obtain ⟨c, hh⟩ := h.head
  have h1 : w.cell? ⟨g, 1, none⟩ = some (.slice (some ⟨ga, 0, none⟩) k c) := (blk_cell hh 1).trans rfl
  have hk := h.nk
  have hN := h.nN
  have HP := Aside0.mk h
  have HT := Aside0.mk ht
  clear h hh ht
  obtain ⟨i0, hi, hz0, hz1, hz2⟩ := info_parts Blk.info3
  have t2b : decide ((k : Int) ≤ -1) = false := decide_eq_false (by omega)
  have t2c : decide ((-1 : Int) ≥ (k : Int)) = false := decide_eq_false (by omega)
  have h1b : (w.alloc (.cells #[.int .i64 (-1)] 3)).cell? ⟨g, 1, none⟩ = some (.slice (some ⟨ga, 0, none⟩) k c) := (World.cell?_of_block (a := ⟨g, 1, none⟩) (Below.heap_alloc w _ g (World.block_lt_of_cell? _ _ h1))).trans h1
  have EM := Aside0.mk em
  clear hm1 hm2 em
  unfold PickOk
  go_enter Try.func40, Try.ntmps40
  go_wp2_with (first
      | (go_at_call 69; refine (made_calls _ _ _ _ _ _ _ _ HP.out).mono ?_; rintro e w' ⟨rfl, hw⟩; obtain rfl := hw.symm)
      | (go_at_call 71; refine (may_calls _ _).mono ?_; rintro e w' ⟨rfl, hw⟩; obtain rfl := hw.symm))
  clear h1 h1b t2b t2c
  go_loopw [11, 42] (fun v x wr => ∃ j : Nat, j ≤ k ∧ x = .int .i64 j ∧ Nums w.heap.size wr v (adrs m now N j) ∧ Below w.heap.size w wr) (fun _ x _ => k - (intOf x).toNat)
  case atStart => exact ⟨0, Nat.zero_le _, rfl, ⟨World.ownsRow_nil _ _ _ _, by simp [adrs]⟩, (Below.refl _ w).alloc (Nat.le_refl _) _⟩
  case round =>
    obtain ⟨j, hj, rfl, hv, hB⟩ := hrel
    have HB := Aside0.mk hB
    have HV := Aside0.mk hv
    by_cases hlt : j < k
    · have hal := adrs_len m now N j
      have e2 : adrs m now N (j + 1) = if 0 < (frees (m j) now N).length then adrs m now N j ++ [j] else adrs m now N j := rfl
      obtain ⟨F, hF⟩ : ∃ F, F = frees (m j) now N := ⟨_, rfl⟩
      rw [← hF] at e2
      have HF := Aside0.mk hF
      clear hF hv hB
      go_wp2_with fail
      refine (list_calls _ g ga gs k N hold m j now (HP.out.below HB.out) hlt).mono ?_
      rintro e w2 ⟨v2, rfl, hv2, hb2⟩
      rw [← HF.out] at hv2
      obtain ⟨ad2, cc2, rfl⟩ := hv2.len
      have HV2 := Aside0.mk (HV.out.below hb2)
      have HB2 := Aside0.mk (below_then HB.out HB.out.size hb2)
      clear hv2 hb2
      by_cases hp : 0 < F.length
      · have p1 : decide (0 < F.length) = true := decide_eq_true hp
        have p2 : decide ((0 : Int) < (F.length : Int)) = true := decide_eq_true (by omega)
        have p3 : decide ((F.length : Int) > 0) = true := decide_eq_true (by omega)
        rw [if_pos hp] at e2
        have HE := Aside0.mk e2
        clear e2
        go_wp2_with (at_builtin; go_loud (refine wpList_append_own _ rfl _ _ 31 rfl w.heap.size 3 i0 (.int .i64 0) 1 8 Try.underlying31 hi hz0 hz1 hz2 rfl (by decide) _ (adrs m now N j).length ((adrs m now N j).map (fun x : Nat => Value.int .i64 (x : Int))) rfl (HV2.out.1.alloc _) ⟨w2.heap.size, 0, none⟩ 1 1 [.int .i64 (j : Int)] rfl rfl (cell_one_new _ _ _) (by simp [Value.oneCell']) (by unfold maxLen; omega) (by omega) (by rw [World.size_alloc]; have := HB2.out.size; omega) ?_; intro v' w3 hown' hgrow _))
        have hB3 : Below w.heap.size w w3 := Below.own (HB2.out.alloc HB2.out.size _) (by rw [World.size_alloc]; have := HB2.out.size; omega) (HV2.out.1.alloc _) hgrow
        go_roundw
        case rel =>
          refine ⟨j + 1, by omega, by go_num, ?_, hB3⟩
          rw [HE.out]
          refine ⟨?_, ?_⟩
          · rw [List.length_append, List.map_append]
            exact hown'
          · obtain ⟨g', cap', rfl⟩ := ownsRow_succ hown'
            simp
        case measure => simp [intOf]; omega
      · have p1 : decide (0 < F.length) = false := decide_eq_false hp
        have p2 : decide ((0 : Int) < (F.length : Int)) = false := decide_eq_false (by omega)
        have p3 : decide ((F.length : Int) > 0) = false := decide_eq_false (by omega)
        rw [if_neg hp] at e2
        have HE := Aside0.mk e2
        clear e2
        go_wp2
        go_roundw
        case rel => exact ⟨j + 1, by omega, by go_num, by rw [HE.out]; exact HV2.out, HB2.out⟩
        case measure => simp [intOf]; omega
    · obtain rfl : j = k := by omega
      have hal := adrs_len m now N j
      obtain ⟨A, hA⟩ : ∃ A, A = adrs m now N j := ⟨_, rfl⟩
      have e0 : pkAny j N m (-1) now = decide (0 < A.length) := by unfold pkAny; rw [if_neg (by decide), hA]
      rw [← hA] at HV hv hal
      have HAA := Aside0.mk hA
      clear hA hv hB
      by_cases hl : A.length = 0
      · have e1 : pkErr j N m (-1) now = 6 := by unfold pkErr; rw [EM.out, e0, hl]; rfl
        have e2 : pkA j N m (-1) now l = 0 := by unfold pkA; rw [EM.out, e0, hl]; rfl
        have e3 : pkB j N m (-1) now l = 0 := by unfold pkB; rw [EM.out, e0, hl]; rfl
        have e4 : pkL j N m (-1) now l = l := by unfold pkL; rw [EM.out, e0, hl]; rfl
        have HE := Aside0.mk (And.intro e1 (And.intro e2 (And.intro e3 e4)))
        clear e0 e1 e2 e3 e4
        obtain ⟨ad3, cc3, rfl⟩ := HV.out.len
        have hl1 : ((A.length : Int) == 0) = true := by rw [hl]; rfl
        go_wp2
        go_ret3
        obtain ⟨q1, q2⟩ := HT.out.below HB.out
        rw [HE.out.1, HE.out.2.1, HE.out.2.2.1, HE.out.2.2.2]
        exact ⟨rfl, q1, q2⟩
      · have hlp : 0 < A.length := by omega
        have hd0 := dn_lt l hlp
        obtain ⟨y, hy⟩ : ∃ y, A[dn l A.length]? = some y := ⟨_, List.getElem?_eq_getElem hd0⟩
        have hyA : y ∈ adrs m now N j := by rw [← HAA.out]; exact List.mem_of_getElem? hy
        obtain ⟨hyk, hyF⟩ := adrs_mem m now N hyA
        obtain ⟨F, hF⟩ : ∃ F, F = frees (m y) now N := ⟨_, rfl⟩
        rw [← hF] at hyF
        obtain ⟨l1, hl1⟩ : ∃ z, z = rs l A.length := ⟨_, rfl⟩
        have hd := dn_lt l1 hyF
        obtain ⟨X, hX⟩ : ∃ X, F[dn l1 F.length]? = some X := ⟨_, List.getElem?_eq_getElem hd⟩
        have ey : (mayAsk j (-1) now && pkAny j N m (-1) now) = true := by rw [EM.out, e0, decide_eq_true hlp]; rfl
        have eI : pkI j N m (-1) now l = y := by unfold pkI; rw [if_neg (by decide), ← HAA.out, List.getD_eq_getElem?_getD, hy]; rfl
        have eT : pkT j N m (-1) now l = l1 := by unfold pkT; rw [if_neg (by decide), ← HAA.out, hl1]
        have e1 : pkErr j N m (-1) now = 0 := by unfold pkErr; rw [EM.out, e0, decide_eq_true hlp]; rfl
        have e2 : pkA j N m (-1) now l = y := by unfold pkA; rw [if_pos ey, eI]
        have e3 : pkB j N m (-1) now l = X := by unfold pkB; rw [if_pos ey, eI, eT, ← hF, List.getD_eq_getElem?_getD, hX]; rfl
        have e4 : pkL j N m (-1) now l = rs l1 F.length := by unfold pkL; rw [if_pos ey, eI, eT, ← hF]
        have HE := Aside0.mk (And.intro e1 (And.intro e2 (And.intro e3 e4)))
        have HFX := Aside0.mk hX
        have HF := Aside0.mk hF
        have HL1 := Aside0.mk hl1
        have HY := Aside0.mk hy
        clear e0 e1 e2 e3 e4 ey eI eT hX hF hl1 hy hyA
        obtain ⟨b0, cc0, rfl⟩ := HV.out.at hlp
        have hl2 : ((A.length : Int) == 0) = false := beq_eq_false_iff_ne.2 (by omega)
        have hdy : (0 : Int) ≤ (dn l A.length : Int) ∧ (dn l A.length : Int) < (A.length : Int) := by omega
        have hdx : (0 : Int) ≤ (dn l1 F.length : Int) ∧ (dn l1 F.length : Int) < (F.length : Int) := by omega
        have HTB := Aside0.mk (HT.out.below HB.out)
        have HPW : Aside0 (∀ p, a = some p → p < w.heap.size) := ⟨fun p e => by subst e; exact TapeSt.lt' HT.out⟩
        go_wp2_with (go_at_call 18; refine (draw_n _ a l A.length HTB.out.1).mono ?_; rintro e w4 ⟨rfl, ht4, hs4⟩; have HT4 := Aside0.mk ht4; have HS4 := Aside0.mk (HTB.out.2.trans hs4); have hc4 := (HV.out.stepO hs4 HPW.out).cell0 HY.out; have hc5 := (HV.out.stepO hs4 HPW.out).cell HY.out; clear ht4 hs4)
        rw [← HL1.out] at HT4
        refine (list_calls _ g ga gs j N hold m y now (HP.out.stepO HT.out HS4.out) hyk).mono ?_
        rintro e w2 ⟨v2, rfl, hv2, hb2⟩
        rw [← HF.out] at hv2
        obtain ⟨b, cc2, rfl⟩ := hv2.at hyF
        have HTS := Aside0.mk (HT4.out.below hb2)
        have HTD := Aside0.mk (HTS.out.1.drew).1
        have HV2 := Aside0.mk (Nums.below hv2 (below_drew (Below.refl _ w2)))
        have HPN : Aside0 (∀ p, a = some p → p < w4.heap.size) := ⟨fun p e => by subst e; have := TapeSt.lt' HT.out; have := HS4.out.size; omega⟩
        have HCX := Aside0.mk (HV2.out.cell0 HFX.out)
        clear hb2 hv2 hc4 hc5
        go_wp2_with fail
        refine start_ (n := 11) (S := fun w' => w'.cell? ⟨b, dn l1 F.length, none⟩ = some (.int .i64 (X : Nat))) (ds := []) #[false, false, false, false, false, false, false, false, false, false, false] (by kernel_rfl) rfl rfl (HCX.out) (fun hHeld => ?_)
        refine pure_ (i := 0) (N := some 78) (v := ?_) (a' := ?_) #[true, false, false, false, false, false, false, false, false, false, false] rfl rfl (by kernel_rfl) (fun _ _ _ h => h) (Or.inl ⟨by rfl, ?_⟩) ?_ ?_
        rotate_left
        · intro w'
          go_simp
          with_reducible rfl
        rotate_left
        · simp only [Act.put, List.setIfInBounds_toArray, List.set_cons_zero, List.set_cons_succ, i64_w, i32_w]
          rfl
        refine pure_ (i := 1) (N := some 79) (v := ?_) (a' := ?_) #[true, true, false, false, false, false, false, false, false, false, false] rfl rfl (by kernel_rfl) (fun _ _ _ h => h) (Or.inl ⟨by rfl, ?_⟩) ?_ ?_
        rotate_left
        · intro w'
          go_simp
          with_reducible rfl
        rotate_left
        · simp only [Act.put, List.setIfInBounds_toArray, List.set_cons_zero, List.set_cons_succ, i64_w, i32_w]
          rfl
        refine pure_ (i := 2) (N := some 80) (v := ?_) (a' := ?_) #[true, true, true, false, false, false, false, false, false, false, false] rfl rfl (by kernel_rfl) (fun _ _ _ h => h) (Or.inl ⟨by rfl, ?_⟩) ?_ ?_
        rotate_left
        · intro w'
          go_simp
          with_reducible rfl
        rotate_left
        · simp only [Act.put, List.setIfInBounds_toArray, List.set_cons_zero, List.set_cons_succ, i64_w, i32_w]
          rfl
        refine pure_ (i := 3) (N := some 81) (v := ?_) (a' := ?_) #[true, true, true, true, false, false, false, false, false, false, false] rfl rfl (by kernel_rfl) (fun _ _ _ h => h) (Or.inl ⟨by rfl, ?_⟩) ?_ ?_
        rotate_left
        · intro w'
          go_simp
          with_reducible rfl
        rotate_left
        · simp only [Act.put, List.setIfInBounds_toArray, List.set_cons_zero, List.set_cons_succ, i64_w, i32_w]
          rfl
        refine pure_ (i := 4) (N := some 82) (v := ?_) (a' := ?_) #[true, true, true, true, true, false, false, false, false, false, false] rfl rfl (by kernel_rfl) (fun _ _ _ h => h) (Or.inl ⟨by rfl, ?_⟩) ?_ ?_
        rotate_left
        · intro w'
          go_simp
          with_reducible rfl
        rotate_left
        · simp only [Act.put, List.setIfInBounds_toArray, List.set_cons_zero, List.set_cons_succ, i64_w, i32_w]
          rfl
        refine one_ (i := 5) (N := some 83) #[true, true, true, true, true, true, false, false, false, false, false] rfl rfl (by kernel_rfl) (by decide) (fun K hK => ?_)
        refine goes_ Try.func18 (by kernel_rfl) rfl #[tapeV a, .int .i64 F.length] (by rfl) rfl rfl (by simp only [List.map_toArray, List.map_cons, List.map_nil]; rfl) ?_
        with_reducible refine (draw_n _ a l1 F.length HTD.out).mono ?_
        rintro e w5 ⟨rfl, ht5, hs5⟩
        refine ⟨_, rfl, ?_⟩
        have HT5 := Aside0.mk ht5
        have HS5 := Aside0.mk hs5
        have HV5 := Aside0.mk (HV2.out.stepO hs5 HPN.out)
        clear ht5 hs5
        refine hK.out _ _ (HV5.out.cell0 HFX.out) (fun hHeld => ?_)
        clear hK K
        refine norm_ (a' := ?_) ?_ ?_
        rotate_left
        · show Act.put _ (some 83) _ = _
          simp only [Act.put, List.setIfInBounds_toArray, List.set_cons_zero, List.set_cons_succ, i64_w, i32_w]
          rfl
        refine pure_ (i := 6) (N := some 84) (v := ?_) (a' := ?_) #[true, true, true, true, true, true, true, false, false, false, false] rfl rfl (by kernel_rfl) (fun _ _ _ h => h) (Or.inl ⟨by rfl, ?_⟩) ?_ ?_
        rotate_left
        · intro w'
          go_simp
          with_reducible rfl
        rotate_left
        · simp only [Act.put, List.setIfInBounds_toArray, List.set_cons_zero, List.set_cons_succ, i64_w, i32_w]
          rfl
        refine pure_ (i := 8) (N := some 8) (v := ?_) (a' := ?_) #[true, true, true, true, true, true, true, false, true, false, false] rfl rfl (by kernel_rfl) (fun _ _ _ h => h) (Or.inl ⟨by rfl, ?_⟩) ?_ ?_
        rotate_left
        · intro w'
          go_simp
          with_reducible rfl
        rotate_left
        · simp only [Act.put, List.setIfInBounds_toArray, List.set_cons_zero, List.set_cons_succ, i64_w, i32_w]
          rfl
        refine take_ (i := 7) (N := some 85) (v := ?_) (a' := ?_) #[true, true, true, true, true, true, true, true, true, false, false] rfl rfl (by kernel_rfl) (fun _ _ _ h => h) (Or.inl ⟨by rfl, ?_⟩) hHeld ?_ ?_
        rotate_left
        · intro w' s0
          go_simp
          with_reducible rfl
        rotate_left
        · simp only [Act.put, List.setIfInBounds_toArray, List.set_cons_zero, List.set_cons_succ, i64_w, i32_w]
          rfl
        refine pure_ (i := 9) (N := some 9) (v := ?_) (a' := ?_) #[true, true, true, true, true, true, true, true, true, true, false] rfl rfl (by kernel_rfl) (fun _ _ _ h => h) (Or.inl ⟨by rfl, ?_⟩) ?_ ?_
        rotate_left
        · intro w'
          go_simp
          with_reducible rfl
        rotate_left
        · simp only [Act.put, List.setIfInBounds_toArray, List.set_cons_zero, List.set_cons_succ, i64_w, i32_w]
          rfl
        refine pure_ (i := 10) (N := some 10) (v := ?_) (a' := ?_) #[true, true, true, true, true, true, true, true, true, true, true] rfl rfl (by kernel_rfl) (fun _ _ _ h => h) (Or.inl ⟨by rfl, ?_⟩) ?_ ?_
        rotate_left
        · intro w'
          go_simp
          with_reducible rfl
        rotate_left
        · simp only [Act.put, List.setIfInBounds_toArray, List.set_cons_zero, List.set_cons_succ, i64_w, i32_w]
          rfl
        refine done_ (by kernel_rfl) ?_
        go_wp2
        go_ret3
        rw [HE.out.1, HE.out.2.1, HE.out.2.2.1, HE.out.2.2.2]
        exact ⟨rfl, HT5.out, HS4.out.trans (HTS.out.2.trans ((HTS.out.1.drew).2.trans HS5.out))⟩
theorem pick_calls (w : World) (g ga : Nat) (gs : Nat → Nat) (k N : Nat) (hold : Int) (m : Nat → Nat → Blk) (i now : Int) (a : Option Nat) (l : List Int) (h : PoolSt w g ga gs k N hold m) (ht : TapeO w a l) : PickOk g ga gs k N hold m i now a l w := by
  cases em : mayAsk k i now with
  | false => exact pick_bad w g ga gs k N hold m i now a l h ht em
  | true =>
    have hma := em
    unfold mayAsk at hma
    simp only [Bool.and_eq_true, decide_eq_true_eq] at hma
    by_cases hi : 0 ≤ i
    · obtain ⟨x, rfl⟩ := Int.eq_ofNat_of_zero_le hi
      exact pick_one w g ga gs k N hold m x now a l h ht em
    · obtain rfl : i = -1 := by omega
      exact pick_any w g ga gs k N hold m now a l h ht em
end Go.Proofs.Ytoapbppjkidgiaa.Pool
