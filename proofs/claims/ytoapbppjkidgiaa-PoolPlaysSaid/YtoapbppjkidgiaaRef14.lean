/- Ref14: the reference's tests of a configuration. Conditions: the configuration's cells are as api.Config says. -/
import Derived.Test.YtoapbppjkidgiaaSetup6
namespace Go.Proofs.Ytoapbppjkidgiaa.Setup
open Go.RowKit Go.Proofs.YtoapbppjkidgiaaW.PrintWords Go.Proofs.YtoapbppjkidgiaaW.PrintLast Go.Proofs.YtoapbppjkidgiaaW.PrintMore Tape
set_option linter.unusedVariables false
set_option linter.unusedSimpArgs false
set_option maxHeartbeats 1000000 in
theorem rbetween_calls (w : World) (x lo hi : Int) (b : Bool) (hb : btw x lo hi = b) :
    Calls Try.prog 60 #[.int .i64 x, .int .i64 lo, .int .i64 hi] w fun e w' => e = .returned (.bool b) ∧ w' = w := by
  subst hb
  unfold btw
  by_cases h1 : lo ≤ x
  · have h2 : decide (lo ≤ x) = true := decide_eq_true h1
    go_enter Try.func60, Try.ntmps60
    go_wp2
    go_ret
    exact ⟨by simp [h1], rfl⟩
  · have h2 : decide (lo ≤ x) = false := decide_eq_false h1
    go_enter Try.func60, Try.ntmps60
    go_wp2
    go_ret
    exact ⟨by simp [h1], rfl⟩
set_option maxHeartbeats 1000000 in
theorem rplain_calls (w : World) (a : Int) (ha : u32 a) (b : Bool) (hb : uni a = b) :
    Calls Try.prog 61 #[.int .u32 a] w fun e w' => e = .returned (.bool b) ∧ w' = w := by
  subst hb
  unfold uni
  unfold u32 at ha
  obtain ⟨h0, h3⟩ := ha
  by_cases h1 : 1 ≤ a / 16777216
  · have h2 : decide (1 ≤ a / 16777216) = true := decide_eq_true h1
    go_enter Try.func61, Try.ntmps61
    go_wp2
    go_ret
    exact ⟨by simp [h1], rfl⟩
  · have h2 : decide (1 ≤ a / 16777216) = false := decide_eq_false h1
    go_enter Try.func61, Try.ntmps61
    go_wp2
    go_ret
    exact ⟨by simp [h1], rfl⟩
set_option maxHeartbeats 1000000 in
theorem rtop_calls (w : World) (C : Cfg) (a : Int) (hi : u32 C.inside) (ha : u32 a) (hb : 8 ≤ C.bits ∧ C.bits ≤ 30) :
    Calls Try.prog 97 #[.int .u32 C.inside, .int .u32 a, .int .i64 C.bits] w fun e w' => e = .returned (.bool (C.within a)) ∧ w' = w := by
  obtain ⟨hb0, hb1⟩ := hb
  unfold u32 at hi ha
  obtain ⟨s, hs⟩ : ∃ s, s = 32 - C.bits := ⟨_, rfl⟩
  have hs0 : 0 ≤ s := by omega
  have hs1 : s ≤ 32 := by omega
  have hw1 : wrap64 (32 - C.bits) = s := by unfold wrap64; omega
  have hw2 : IntKind.i64.wrap (32 - C.bits) = s := by rw [i64_w]; exact hw1
  have hw3 : IntKind.u64.wrap s = s := by
    show s % 18446744073709551616 = s
    omega
  have t1 : decide (C.bits ≤ 0) = false := decide_eq_false (by omega)
  have t2 : decide (32 ≤ C.bits) = false := decide_eq_false (by omega)
  have t3 : decide (C.bits ≥ 32) = false := decide_eq_false (by omega)
  have HS := Aside0.mk hs
  clear hs
  go_enter Try.func97, Try.ntmps97
  go_wp2
  go_ret
  refine ⟨?_, rfl⟩
  have e : C.within a = (a / 2 ^ s.toNat == C.inside / 2 ^ s.toNat) := by unfold Cfg.within; rw [HS.out]
  rw [e, Bool.beq_comm]
  first | rfl | (congr 2)
set_option maxHeartbeats 1000000 in
theorem rwithin_cfg (w : World) (cs : Array Value) (C : Cfg) (a : Int) (b : Bool) (h : IsCfg w cs C) (ha : u32 a) (hb : 8 ≤ C.bits ∧ C.bits ≤ 30) (hv : C.within a = b) :
    Calls Try.prog 62 #[.agg cs, .int .u32 a] w fun e w' => e = .returned (.bool b) ∧ Below w.heap.size w w' := by
  subst hv
  have HK := heap_alloc_new w (.cells cs 41)
  have h0 := cfg_cell h HK 0 _ (fun _ _ => rfl)
  have h1 := cfg_cell h HK 1 _ (fun _ _ => rfl)
  have HF := Aside0.mk h.fits
  have HA := Aside0.mk ha
  have HBITS := Aside0.mk hb
  clear h HK ha hb
  go_enter Try.func62, Try.ntmps62
  go_wp2_with (go_at_call 97; refine (rtop_calls _ C a HF.out.inside HA.out HBITS.out).mono ?_; rintro e w' ⟨rfl, rfl⟩)
  go_ret
  exact ⟨rfl, below_alloc (Below.refl _ _) _⟩
def pow16 (n : Int) : Bool := n == 16 || n == 32 || n == 64 || n == 128 || n == 256 || n == 512 || n == 1024 || n == 2048
set_option maxHeartbeats 4000000 in
theorem rblock_calls (w : World) (n : Int) (b : Bool) (hb : pow16 n = b) :
    Calls Try.prog 64 #[.int .i64 n] w fun e w' => e = .returned (.bool b) ∧ w' = w := by
  subst hb
  go_enter Try.func64, Try.ntmps64
  go_wp2_with fail
  refine wp_loop_rounds 10 ?_
  cases h16 : n == 16 with
  | true =>
    rw [rounds_succ]
    go_wp2
    go_ret
    exact ⟨by unfold pow16; simp only [h16]; rfl, rfl⟩
  | false =>
    rw [rounds_succ]
    go_wp2
    cases h32 : n == 32 with
    | true =>
      rw [rounds_succ]
      go_wp2
      go_ret
      exact ⟨by unfold pow16; simp only [h16, h32]; rfl, rfl⟩
    | false =>
      rw [rounds_succ]
      go_wp2
      cases h64 : n == 64 with
      | true =>
        rw [rounds_succ]
        go_wp2
        go_ret
        exact ⟨by unfold pow16; simp only [h16, h32, h64]; rfl, rfl⟩
      | false =>
        rw [rounds_succ]
        go_wp2
        cases h128 : n == 128 with
        | true =>
          rw [rounds_succ]
          go_wp2
          go_ret
          exact ⟨by unfold pow16; simp only [h16, h32, h64, h128]; rfl, rfl⟩
        | false =>
          rw [rounds_succ]
          go_wp2
          cases h256 : n == 256 with
          | true =>
            rw [rounds_succ]
            go_wp2
            go_ret
            exact ⟨by unfold pow16; simp only [h16, h32, h64, h128, h256]; rfl, rfl⟩
          | false =>
            rw [rounds_succ]
            go_wp2
            cases h512 : n == 512 with
            | true =>
              rw [rounds_succ]
              go_wp2
              go_ret
              exact ⟨by unfold pow16; simp only [h16, h32, h64, h128, h256, h512]; rfl, rfl⟩
            | false =>
              rw [rounds_succ]
              go_wp2
              cases h1024 : n == 1024 with
              | true =>
                rw [rounds_succ]
                go_wp2
                go_ret
                exact ⟨by unfold pow16; simp only [h16, h32, h64, h128, h256, h512, h1024]; rfl, rfl⟩
              | false =>
                rw [rounds_succ]
                go_wp2
                cases h2048 : n == 2048 with
                | true =>
                  rw [rounds_succ]
                  go_wp2
                  go_ret
                  exact ⟨by unfold pow16; simp only [h16, h32, h64, h128, h256, h512, h1024, h2048]; rfl, rfl⟩
                | false =>
                  rw [rounds_succ]
                  go_wp2
                  rw [rounds_succ]
                  go_wp2
                  go_ret
                  exact ⟨by unfold pow16; simp only [h16, h32, h64, h128, h256, h512, h1024, h2048]; rfl, rfl⟩
theorem pow16_fin : ∀ k : Fin 2049, pow16 (k.val : Int) = (btw (k.val : Int) 16 2048 && Go.bits .and .i64 (k.val : Int) ((k.val : Int) - 1) == 0) := by decide +kernel
theorem pow16_eq (n : Int) : pow16 n = (btw n 16 2048 && Go.bits .and .i64 n (n - 1) == 0) := by
  by_cases h : 0 ≤ n ∧ n ≤ 2048
  · have := pow16_fin ⟨n.toNat, by omega⟩
    rw [show ((n.toNat : Nat) : Int) = n by omega] at this
    exact this
  · have h1 : btw n 16 2048 = false := by
      unfold btw
      rw [← Bool.decide_and]; exact decide_eq_false (by omega)
    rw [h1]
    unfold pow16
    simp only [Bool.false_and, Bool.or_eq_false_iff, beq_eq_false_iff_ne, ne_eq]
    omega
set_option maxHeartbeats 4000000 in
set_option maxRecDepth 100000 in
theorem routside_cfg (w : World) (cs : Array Value) (C : Cfg) (b : Bool) (h : IsCfg w cs C) (hb : 8 ≤ C.bits ∧ C.bits ≤ 30) (hv : C.outs = b) :
    Calls Try.prog 63 #[.agg cs] w fun e w' => e = .returned (.bool b) ∧ Below w.heap.size w w' := by
  subst hv
  have HK := Aside0.mk (heap_alloc_new w (.cells cs 41))
  have HC := Aside0.mk h
  obtain ⟨hfit, A, c, hcs, hlc, hrd⟩ := h
  have HR := Aside0.mk hrd
  have HF := Aside0.mk hfit
  have HBITS := Aside0.mk hb
  have hlm : C.outer.length ≤ 9223372036854775807 := hrd.2.1
  have h3 : (w.alloc (.cells cs 41)).cell? ⟨w.heap.size, 3, none⟩ = some (.slice A C.outer.length c) := by
    rw [blk_cell HK.out, hcs]; rfl
  have HCS := Aside0.mk hcs
  have HB0 := Aside0.mk (below_alloc (Below.refl _ w) (.cells cs 41))
  clear hfit hrd hb hcs
  by_cases hl : (1 : Int) ≤ C.outer.length ∧ (C.outer.length : Int) ≤ 8
  · have hlt : btw (C.outer.length : Int) 1 8 = true := by
      unfold btw
      rw [← Bool.decide_and]; exact decide_eq_true hl
    obtain ⟨hl1, hl8⟩ := hl
    go_enter Try.func63, Try.ntmps63
    go_wp2_with (go_at_call 60; refine (rbetween_calls _ _ _ _ _ rfl).mono ?_; rintro e w' ⟨rfl, rfl⟩)
    obtain ⟨w1, hw1⟩ : ∃ x, x = w.alloc (.cells cs 41) := ⟨_, rfl⟩
    rw [← hw1] at h3 ⊢
    have HB1 : Aside0 (Below w.heap.size w w1) := ⟨hw1 ▸ HB0.out⟩
    have HK1 : Aside0 (w1.heap[w.heap.size]? = some (.cells cs 41 (0, 0))) := ⟨hw1 ▸ HK.out⟩
    clear hw1 HK HB0
    go_loopw [3] (fun i wr => ∃ k : Nat, i = .int .i64 k ∧ k ≤ C.outer.length ∧ (∀ j, j < k → C.okAt j = true) ∧ Below w.heap.size w wr ∧ wr.heap[w.heap.size]? = some (.cells cs 41 (0, 0))) (fun i _ => C.outer.length - (intOf i).toNat)
    case atStart => exact ⟨0, rfl, by omega, fun j hj => absurd hj (by omega), HB1.out, HK1.out⟩
    case round =>
      obtain ⟨k, rfl, hk, hok, hbw, hkw⟩ := hrel
      have HOK := Aside0.mk hok
      have HBW := Aside0.mk hbw
      have HKW := Aside0.mk hkw
      have h3w : wr.cell? ⟨w.heap.size, 3, none⟩ = some (.slice A C.outer.length c) := (blk_cell hkw 3).trans (by rw [HCS.out]; rfl)
      clear hok hbw hkw HB1 HK1 h3
      by_cases hkl : k < C.outer.length
      · obtain ⟨ad, hA⟩ := C_some HR.out (by omega)
        subst hA
        obtain ⟨x, hxk⟩ : ∃ x, C.outer[k]? = some x := ⟨_, List.getElem?_eq_getElem hkl⟩
        have HCELL0 := Aside0.mk (C_cell HR.out k x hxk)
        have HCELL : Aside0 (wr.cell? (ad.add k) = some (.int .u32 x)) := ⟨(HBW.out.cell (World.block_lt_of_cell? _ _ HCELL0.out)).trans HCELL0.out⟩
        have HE3 : Aside0 (cs[3]? = some (.slice (some ad) C.outer.length c)) := ⟨by rw [HCS.out]; rfl⟩
        have HH3 := Aside0.mk h3w
        have hidx : (0 : Int) ≤ (k : Int) ∧ (k : Int) < (C.outer.length : Int) := by omega
        have HX32 := Aside0.mk (HF.out.outer x (List.mem_of_getElem? hxk))
        have HPARTS := Aside0.mk (okAt_parts hxk)
        have HXK := Aside0.mk hxk
        clear hxk
        go_wp2_with fail
        cases hu : uni x with
        | false =>
          have HU := Aside0.mk hu
          clear hu
          refine start_ (n := 16) (S := fun w' => w'.heap[w.heap.size]? = some (.cells cs 41 (0, 0)) ∧ w'.cell? ⟨w.heap.size, 3, none⟩ = some (.slice (some ad) C.outer.length c) ∧ w'.cell? (ad.add k) = some (.int .u32 x)) (ds := []) #[false, false, false, false, false, false, false, false, false, false, false, false, false, false, false, false] (by kernel_rfl) rfl rfl ⟨HKW.out, HH3.out, HCELL.out⟩ (fun hHeld => ?_)
          refine pure_ (i := 0) (N := some 17) (v := ?_) (a' := ?_) #[true, false, false, false, false, false, false, false, false, false, false, false, false, false, false, false] rfl rfl (by kernel_rfl) (fun _ _ _ h => h) (Or.inl ⟨by rfl, ?_⟩) ?_ ?_
          rotate_left
          · intro w'
            go_simp
            with_reducible rfl
          rotate_left
          · simp only [Act.put, List.setIfInBounds_toArray, List.set_cons_zero, List.set_cons_succ, i64_w, i32_w]
            rfl
          refine pure_ (i := 2) (N := some 19) (v := ?_) (a' := ?_) #[true, false, true, false, false, false, false, false, false, false, false, false, false, false, false, false] rfl rfl (by kernel_rfl) (fun _ _ _ h => h) (Or.inl ⟨by rfl, ?_⟩) ?_ ?_
          rotate_left
          · intro w'
            go_simp
            with_reducible rfl
          rotate_left
          · simp only [Act.put, List.setIfInBounds_toArray, List.set_cons_zero, List.set_cons_succ, i64_w, i32_w]
            rfl
          refine take_ (i := 1) (N := some 18) (v := ?_) (a' := ?_) #[true, true, true, false, false, false, false, false, false, false, false, false, false, false, false, false] rfl rfl (by kernel_rfl) (fun _ _ _ h => h) (Or.inl ⟨by rfl, ?_⟩) hHeld ?_ ?_
          rotate_left
          · rintro w' ⟨s0, s1, s2⟩
            go_simp
            with_reducible rfl
          rotate_left
          · simp only [Act.put, List.setIfInBounds_toArray, List.set_cons_zero, List.set_cons_succ, i64_w, i32_w]
            rfl
          refine pure_ (i := 3) (N := some 20) (v := ?_) (a' := ?_) #[true, true, true, true, false, false, false, false, false, false, false, false, false, false, false, false] rfl rfl (by kernel_rfl) (fun _ _ _ h => h) (Or.inl ⟨by rfl, ?_⟩) ?_ ?_
          rotate_left
          · intro w'
            go_simp
            with_reducible rfl
          rotate_left
          · simp only [Act.put, List.setIfInBounds_toArray, List.set_cons_zero, List.set_cons_succ, i64_w, i32_w]
            rfl
          refine take_ (i := 4) (N := some 21) (v := ?_) (a' := ?_) #[true, true, true, true, true, false, false, false, false, false, false, false, false, false, false, false] rfl rfl (by kernel_rfl) (fun _ _ _ h => h) (Or.inl ⟨by rfl, ?_⟩) hHeld ?_ ?_
          rotate_left
          · rintro w' ⟨s0, s1, s2⟩
            go_simp
            with_reducible rfl
          rotate_left
          · simp only [Act.put, List.setIfInBounds_toArray, List.set_cons_zero, List.set_cons_succ, i64_w, i32_w]
            rfl
          refine one_ (i := 5) (N := some 22) #[true, true, true, true, true, true, false, false, false, false, false, false, false, false, false, false] rfl rfl (by kernel_rfl) (by decide) (fun K hK => ?_)
          refine goes_ Try.func61 (by kernel_rfl) rfl #[.int .u32 x] (by rfl) rfl rfl (by simp only [List.map_toArray, List.map_cons, List.map_nil]; rfl) ?_
          with_reducible refine (rplain_calls _ x HX32.out false HU.out).mono ?_
          rintro e w4 ⟨rfl, rfl⟩
          refine ⟨_, rfl, ?_⟩
          refine hK.out _ _ ⟨HKW.out, HH3.out, HCELL.out⟩ (fun hHeld => ?_)
          clear hK K
          refine norm_ (a' := ?_) ?_ ?_
          rotate_left
          · show Act.put _ (some 22) _ = _
            simp only [Act.put, List.setIfInBounds_toArray, List.set_cons_zero, List.set_cons_succ, i64_w, i32_w]
            rfl
          refine pure_ (i := 6) (N := some 23) (v := ?_) (a' := ?_) #[true, true, true, true, true, true, true, false, false, false, false, false, false, false, false, false] rfl rfl (by kernel_rfl) (fun _ _ _ h => h) (Or.inl ⟨by rfl, ?_⟩) ?_ ?_
          rotate_left
          · intro w'
            go_simp
            with_reducible rfl
          rotate_left
          · simp only [Act.put, List.setIfInBounds_toArray, List.set_cons_zero, List.set_cons_succ, i64_w, i32_w]
            rfl
          refine pure_ (i := 7) (N := some 24) (v := ?_) (a' := ?_) #[true, true, true, true, true, true, true, true, false, false, false, false, false, false, false, false] rfl rfl (by kernel_rfl) (fun _ _ _ h => h) (Or.inl ⟨by rfl, ?_⟩) ?_ ?_
          rotate_left
          · intro w'
            go_simp
            with_reducible rfl
          rotate_left
          · simp only [Act.put, List.setIfInBounds_toArray, List.set_cons_zero, List.set_cons_succ, i64_w, i32_w]
            rfl
          refine pure_ (i := 8) (N := some 25) (v := undef) (a' := ?_) #[true, true, true, true, true, true, true, true, true, false, false, false, false, false, false, false] rfl rfl (by kernel_rfl) (fun _ _ _ h => h) (Or.inr ⟨by rfl, rfl⟩) ?_ ?_
          rotate_left
          · simp only [Act.put, List.setIfInBounds_toArray, List.set_cons_zero, List.set_cons_succ, i64_w, i32_w]
            rfl
          refine pure_ (i := 9) (N := some 26) (v := undef) (a' := ?_) #[true, true, true, true, true, true, true, true, true, true, false, false, false, false, false, false] rfl rfl (by kernel_rfl) (fun _ _ _ h => h) (Or.inr ⟨by rfl, rfl⟩) ?_ ?_
          rotate_left
          · simp only [Act.put, List.setIfInBounds_toArray, List.set_cons_zero, List.set_cons_succ, i64_w, i32_w]
            rfl
          refine pure_ (i := 10) (N := some 27) (v := undef) (a' := ?_) #[true, true, true, true, true, true, true, true, true, true, true, false, false, false, false, false] rfl rfl (by kernel_rfl) (fun _ _ _ h => h) (Or.inr ⟨by rfl, rfl⟩) ?_ ?_
          rotate_left
          · simp only [Act.put, List.setIfInBounds_toArray, List.set_cons_zero, List.set_cons_succ, i64_w, i32_w]
            rfl
          refine pure_ (i := 11) (N := some 28) (v := undef) (a' := ?_) #[true, true, true, true, true, true, true, true, true, true, true, true, false, false, false, false] rfl rfl (by kernel_rfl) (fun _ _ _ h => h) (Or.inr ⟨by rfl, rfl⟩) ?_ ?_
          rotate_left
          · simp only [Act.put, List.setIfInBounds_toArray, List.set_cons_zero, List.set_cons_succ, i64_w, i32_w]
            rfl
          refine pure_ (i := 12) (N := some 29) (v := undef) (a' := ?_) #[true, true, true, true, true, true, true, true, true, true, true, true, true, false, false, false] rfl rfl (by kernel_rfl) (fun _ _ _ h => h) (Or.inr ⟨by rfl, rfl⟩) ?_ ?_
          rotate_left
          · simp only [Act.put, List.setIfInBounds_toArray, List.set_cons_zero, List.set_cons_succ, i64_w, i32_w]
            rfl
          refine pure_ (i := 13) (N := some 30) (v := undef) (a' := ?_) #[true, true, true, true, true, true, true, true, true, true, true, true, true, true, false, false] rfl rfl (by kernel_rfl) (fun _ _ _ h => h) (Or.inr ⟨by rfl, rfl⟩) ?_ ?_
          rotate_left
          · simp only [Act.put, List.setIfInBounds_toArray, List.set_cons_zero, List.set_cons_succ, i64_w, i32_w]
            rfl
          refine pure_ (i := 14) (N := some 31) (v := undef) (a' := ?_) #[true, true, true, true, true, true, true, true, true, true, true, true, true, true, true, false] rfl rfl (by kernel_rfl) (fun _ _ _ h => h) (Or.inr ⟨by rfl, rfl⟩) ?_ ?_
          rotate_left
          · simp only [Act.put, List.setIfInBounds_toArray, List.set_cons_zero, List.set_cons_succ, i64_w, i32_w]
            rfl
          refine pure_ (i := 15) (N := some 32) (v := ?_) (a' := ?_) #[true, true, true, true, true, true, true, true, true, true, true, true, true, true, true, true] rfl rfl (by kernel_rfl) (fun _ _ _ h => h) (Or.inl ⟨by rfl, ?_⟩) ?_ ?_
          rotate_left
          · intro w'
            go_simp
            with_reducible rfl
          rotate_left
          · simp only [Act.put, List.setIfInBounds_toArray, List.set_cons_zero, List.set_cons_succ, i64_w, i32_w]
            rfl
          refine done_ (by kernel_rfl) ?_
          go_wp2
          go_ret
          refine ⟨?_, below_drew HBW.out⟩
          rw [outs_false hkl (by rw [HPARTS.out, HU.out]; simp)]
          rfl
        | true =>
          have HU := Aside0.mk hu
          clear hu
          cases hw : C.within x with
          | true =>
            have HW := Aside0.mk hw
            clear hw
            refine start_ (n := 16) (S := fun w' => w'.heap[w.heap.size]? = some (.cells cs 41 (0, 0)) ∧ w'.cell? ⟨w.heap.size, 3, none⟩ = some (.slice (some ad) C.outer.length c) ∧ w'.cell? (ad.add k) = some (.int .u32 x)) (ds := []) #[false, false, false, false, false, false, false, false, false, false, false, false, false, false, false, false] (by kernel_rfl) rfl rfl ⟨HKW.out, HH3.out, HCELL.out⟩ (fun hHeld => ?_)
            refine pure_ (i := 0) (N := some 17) (v := ?_) (a' := ?_) #[true, false, false, false, false, false, false, false, false, false, false, false, false, false, false, false] rfl rfl (by kernel_rfl) (fun _ _ _ h => h) (Or.inl ⟨by rfl, ?_⟩) ?_ ?_
            rotate_left
            · intro w'
              go_simp
              with_reducible rfl
            rotate_left
            · simp only [Act.put, List.setIfInBounds_toArray, List.set_cons_zero, List.set_cons_succ, i64_w, i32_w]
              rfl
            refine pure_ (i := 2) (N := some 19) (v := ?_) (a' := ?_) #[true, false, true, false, false, false, false, false, false, false, false, false, false, false, false, false] rfl rfl (by kernel_rfl) (fun _ _ _ h => h) (Or.inl ⟨by rfl, ?_⟩) ?_ ?_
            rotate_left
            · intro w'
              go_simp
              with_reducible rfl
            rotate_left
            · simp only [Act.put, List.setIfInBounds_toArray, List.set_cons_zero, List.set_cons_succ, i64_w, i32_w]
              rfl
            refine take_ (i := 1) (N := some 18) (v := ?_) (a' := ?_) #[true, true, true, false, false, false, false, false, false, false, false, false, false, false, false, false] rfl rfl (by kernel_rfl) (fun _ _ _ h => h) (Or.inl ⟨by rfl, ?_⟩) hHeld ?_ ?_
            rotate_left
            · rintro w' ⟨s0, s1, s2⟩
              go_simp
              with_reducible rfl
            rotate_left
            · simp only [Act.put, List.setIfInBounds_toArray, List.set_cons_zero, List.set_cons_succ, i64_w, i32_w]
              rfl
            refine pure_ (i := 3) (N := some 20) (v := ?_) (a' := ?_) #[true, true, true, true, false, false, false, false, false, false, false, false, false, false, false, false] rfl rfl (by kernel_rfl) (fun _ _ _ h => h) (Or.inl ⟨by rfl, ?_⟩) ?_ ?_
            rotate_left
            · intro w'
              go_simp
              with_reducible rfl
            rotate_left
            · simp only [Act.put, List.setIfInBounds_toArray, List.set_cons_zero, List.set_cons_succ, i64_w, i32_w]
              rfl
            refine take_ (i := 4) (N := some 21) (v := ?_) (a' := ?_) #[true, true, true, true, true, false, false, false, false, false, false, false, false, false, false, false] rfl rfl (by kernel_rfl) (fun _ _ _ h => h) (Or.inl ⟨by rfl, ?_⟩) hHeld ?_ ?_
            rotate_left
            · rintro w' ⟨s0, s1, s2⟩
              go_simp
              with_reducible rfl
            rotate_left
            · simp only [Act.put, List.setIfInBounds_toArray, List.set_cons_zero, List.set_cons_succ, i64_w, i32_w]
              rfl
            refine one_ (i := 5) (N := some 22) #[true, true, true, true, true, true, false, false, false, false, false, false, false, false, false, false] rfl rfl (by kernel_rfl) (by decide) (fun K hK => ?_)
            refine goes_ Try.func61 (by kernel_rfl) rfl #[.int .u32 x] (by rfl) rfl rfl (by simp only [List.map_toArray, List.map_cons, List.map_nil]; rfl) ?_
            with_reducible refine (rplain_calls _ x HX32.out true HU.out).mono ?_
            rintro e w4 ⟨rfl, rfl⟩
            refine ⟨_, rfl, ?_⟩
            refine hK.out _ _ ⟨HKW.out, HH3.out, HCELL.out⟩ (fun hHeld => ?_)
            clear hK K
            refine norm_ (a' := ?_) ?_ ?_
            rotate_left
            · show Act.put _ (some 22) _ = _
              simp only [Act.put, List.setIfInBounds_toArray, List.set_cons_zero, List.set_cons_succ, i64_w, i32_w]
              rfl
            refine pure_ (i := 6) (N := some 23) (v := ?_) (a' := ?_) #[true, true, true, true, true, true, true, false, false, false, false, false, false, false, false, false] rfl rfl (by kernel_rfl) (fun _ _ _ h => h) (Or.inl ⟨by rfl, ?_⟩) ?_ ?_
            rotate_left
            · intro w'
              go_simp
              with_reducible rfl
            rotate_left
            · simp only [Act.put, List.setIfInBounds_toArray, List.set_cons_zero, List.set_cons_succ, i64_w, i32_w]
              rfl
            refine pure_ (i := 7) (N := some 24) (v := ?_) (a' := ?_) #[true, true, true, true, true, true, true, true, false, false, false, false, false, false, false, false] rfl rfl (by kernel_rfl) (fun _ _ _ h => h) (Or.inl ⟨by rfl, ?_⟩) ?_ ?_
            rotate_left
            · intro w'
              go_simp
              with_reducible rfl
            rotate_left
            · simp only [Act.put, List.setIfInBounds_toArray, List.set_cons_zero, List.set_cons_succ, i64_w, i32_w]
              rfl
            refine pure_ (i := 9) (N := some 26) (v := ?_) (a' := ?_) #[true, true, true, true, true, true, true, true, false, true, false, false, false, false, false, false] rfl rfl (by kernel_rfl) (fun _ _ _ h => h) (Or.inl ⟨by rfl, ?_⟩) ?_ ?_
            rotate_left
            · intro w'
              go_simp
              with_reducible rfl
            rotate_left
            · simp only [Act.put, List.setIfInBounds_toArray, List.set_cons_zero, List.set_cons_succ, i64_w, i32_w]
              rfl
            refine pure_ (i := 11) (N := some 28) (v := ?_) (a' := ?_) #[true, true, true, true, true, true, true, true, false, true, false, true, false, false, false, false] rfl rfl (by kernel_rfl) (fun _ _ _ h => h) (Or.inl ⟨by rfl, ?_⟩) ?_ ?_
            rotate_left
            · intro w'
              go_simp
              with_reducible rfl
            rotate_left
            · simp only [Act.put, List.setIfInBounds_toArray, List.set_cons_zero, List.set_cons_succ, i64_w, i32_w]
              rfl
            refine take_ (i := 10) (N := some 27) (v := ?_) (a' := ?_) #[true, true, true, true, true, true, true, true, false, true, true, true, false, false, false, false] rfl rfl (by kernel_rfl) (fun _ _ _ h => h) (Or.inl ⟨by rfl, ?_⟩) hHeld ?_ ?_
            rotate_left
            · rintro w' ⟨s0, s1, s2⟩
              go_simp
              with_reducible rfl
            rotate_left
            · simp only [Act.put, List.setIfInBounds_toArray, List.set_cons_zero, List.set_cons_succ, i64_w, i32_w]
              rfl
            refine pure_ (i := 12) (N := some 29) (v := ?_) (a' := ?_) #[true, true, true, true, true, true, true, true, false, true, true, true, true, false, false, false] rfl rfl (by kernel_rfl) (fun _ _ _ h => h) (Or.inl ⟨by rfl, ?_⟩) ?_ ?_
            rotate_left
            · intro w'
              go_simp
              with_reducible rfl
            rotate_left
            · simp only [Act.put, List.setIfInBounds_toArray, List.set_cons_zero, List.set_cons_succ, i64_w, i32_w]
              rfl
            refine take_ (i := 13) (N := some 30) (v := ?_) (a' := ?_) #[true, true, true, true, true, true, true, true, false, true, true, true, true, true, false, false] rfl rfl (by kernel_rfl) (fun _ _ _ h => h) (Or.inl ⟨by rfl, ?_⟩) hHeld ?_ ?_
            rotate_left
            · rintro w' ⟨s0, s1, s2⟩
              go_simp
              with_reducible rfl
            rotate_left
            · simp only [Act.put, List.setIfInBounds_toArray, List.set_cons_zero, List.set_cons_succ, i64_w, i32_w]
              rfl
            refine one_ (i := 8) (N := some 25) #[true, true, true, true, true, true, true, true, true, true, true, true, true, true, false, false] rfl rfl (by kernel_rfl) (by decide) (fun K hK => ?_)
            refine value_ (w1 := _) (v := .agg cs) (by rfl) rfl (exec_load_row 41 (.tmp 1) rfl w.heap.size rfl 41 cs (0, 0) _ hHeld.1 Try.underlying41 rfl HC.out.info) ?_
            refine hK.out _ _ ⟨HKW.out, HH3.out, HCELL.out⟩ (fun hHeld => ?_)
            clear hK K
            refine norm_ (a' := ?_) ?_ ?_
            rotate_left
            · show Act.put _ (some 25) _ = _
              simp only [Act.put, List.setIfInBounds_toArray, List.set_cons_zero, List.set_cons_succ, i64_w, i32_w]
              rfl
            refine one_ (i := 14) (N := some 31) #[true, true, true, true, true, true, true, true, true, true, true, true, true, true, true, false] rfl rfl (by kernel_rfl) (by decide) (fun K hK => ?_)
            refine goes_ Try.func62 (by kernel_rfl) rfl #[.agg cs, .int .u32 x] (by rfl) rfl rfl (by simp only [List.map_toArray, List.map_cons, List.map_nil]; rfl) ?_
            with_reducible refine (rwithin_cfg _ cs C x true (HC.out.below (below_drew HBW.out)) HX32.out HBITS.out HW.out).mono ?_
            rintro e w5 ⟨rfl, hb5⟩
            refine ⟨_, rfl, ?_⟩
            have HB5 := Aside0.mk (below_then (below_drew HBW.out) HBW.out.size hb5)
            have HK5 := Aside0.mk (blk_below (w := wr.drew) HKW.out hb5)
            clear hb5
            refine hK.out _ _ ⟨HK5.out, (blk_cell HK5.out 3).trans HE3.out, (HB5.out.cell (World.block_lt_of_cell? _ _ HCELL0.out)).trans HCELL0.out⟩ (fun hHeld => ?_)
            clear hK K
            refine norm_ (a' := ?_) ?_ ?_
            rotate_left
            · show Act.put _ (some 31) _ = _
              simp only [Act.put, List.setIfInBounds_toArray, List.set_cons_zero, List.set_cons_succ, i64_w, i32_w]
              rfl
            refine pure_ (i := 15) (N := some 32) (v := ?_) (a' := ?_) #[true, true, true, true, true, true, true, true, true, true, true, true, true, true, true, true] rfl rfl (by kernel_rfl) (fun _ _ _ h => h) (Or.inl ⟨by rfl, ?_⟩) ?_ ?_
            rotate_left
            · intro w'
              go_simp
              with_reducible rfl
            rotate_left
            · simp only [Act.put, List.setIfInBounds_toArray, List.set_cons_zero, List.set_cons_succ, i64_w, i32_w]
              rfl
            refine done_ (by kernel_rfl) ?_
            go_wp2
            go_ret
            refine ⟨?_, HB5.out⟩
            rw [outs_false hkl (by rw [HPARTS.out, HW.out]; simp)]
            rfl
          | false =>
            have HW := Aside0.mk hw
            clear hw
            refine start_ (n := 16) (S := fun w' => w'.heap[w.heap.size]? = some (.cells cs 41 (0, 0)) ∧ w'.cell? ⟨w.heap.size, 3, none⟩ = some (.slice (some ad) C.outer.length c) ∧ w'.cell? (ad.add k) = some (.int .u32 x)) (ds := []) #[false, false, false, false, false, false, false, false, false, false, false, false, false, false, false, false] (by kernel_rfl) rfl rfl ⟨HKW.out, HH3.out, HCELL.out⟩ (fun hHeld => ?_)
            refine pure_ (i := 0) (N := some 17) (v := ?_) (a' := ?_) #[true, false, false, false, false, false, false, false, false, false, false, false, false, false, false, false] rfl rfl (by kernel_rfl) (fun _ _ _ h => h) (Or.inl ⟨by rfl, ?_⟩) ?_ ?_
            rotate_left
            · intro w'
              go_simp
              with_reducible rfl
            rotate_left
            · simp only [Act.put, List.setIfInBounds_toArray, List.set_cons_zero, List.set_cons_succ, i64_w, i32_w]
              rfl
            refine pure_ (i := 2) (N := some 19) (v := ?_) (a' := ?_) #[true, false, true, false, false, false, false, false, false, false, false, false, false, false, false, false] rfl rfl (by kernel_rfl) (fun _ _ _ h => h) (Or.inl ⟨by rfl, ?_⟩) ?_ ?_
            rotate_left
            · intro w'
              go_simp
              with_reducible rfl
            rotate_left
            · simp only [Act.put, List.setIfInBounds_toArray, List.set_cons_zero, List.set_cons_succ, i64_w, i32_w]
              rfl
            refine take_ (i := 1) (N := some 18) (v := ?_) (a' := ?_) #[true, true, true, false, false, false, false, false, false, false, false, false, false, false, false, false] rfl rfl (by kernel_rfl) (fun _ _ _ h => h) (Or.inl ⟨by rfl, ?_⟩) hHeld ?_ ?_
            rotate_left
            · rintro w' ⟨s0, s1, s2⟩
              go_simp
              with_reducible rfl
            rotate_left
            · simp only [Act.put, List.setIfInBounds_toArray, List.set_cons_zero, List.set_cons_succ, i64_w, i32_w]
              rfl
            refine pure_ (i := 3) (N := some 20) (v := ?_) (a' := ?_) #[true, true, true, true, false, false, false, false, false, false, false, false, false, false, false, false] rfl rfl (by kernel_rfl) (fun _ _ _ h => h) (Or.inl ⟨by rfl, ?_⟩) ?_ ?_
            rotate_left
            · intro w'
              go_simp
              with_reducible rfl
            rotate_left
            · simp only [Act.put, List.setIfInBounds_toArray, List.set_cons_zero, List.set_cons_succ, i64_w, i32_w]
              rfl
            refine take_ (i := 4) (N := some 21) (v := ?_) (a' := ?_) #[true, true, true, true, true, false, false, false, false, false, false, false, false, false, false, false] rfl rfl (by kernel_rfl) (fun _ _ _ h => h) (Or.inl ⟨by rfl, ?_⟩) hHeld ?_ ?_
            rotate_left
            · rintro w' ⟨s0, s1, s2⟩
              go_simp
              with_reducible rfl
            rotate_left
            · simp only [Act.put, List.setIfInBounds_toArray, List.set_cons_zero, List.set_cons_succ, i64_w, i32_w]
              rfl
            refine one_ (i := 5) (N := some 22) #[true, true, true, true, true, true, false, false, false, false, false, false, false, false, false, false] rfl rfl (by kernel_rfl) (by decide) (fun K hK => ?_)
            refine goes_ Try.func61 (by kernel_rfl) rfl #[.int .u32 x] (by rfl) rfl rfl (by simp only [List.map_toArray, List.map_cons, List.map_nil]; rfl) ?_
            with_reducible refine (rplain_calls _ x HX32.out true HU.out).mono ?_
            rintro e w4 ⟨rfl, rfl⟩
            refine ⟨_, rfl, ?_⟩
            refine hK.out _ _ ⟨HKW.out, HH3.out, HCELL.out⟩ (fun hHeld => ?_)
            clear hK K
            refine norm_ (a' := ?_) ?_ ?_
            rotate_left
            · show Act.put _ (some 22) _ = _
              simp only [Act.put, List.setIfInBounds_toArray, List.set_cons_zero, List.set_cons_succ, i64_w, i32_w]
              rfl
            refine pure_ (i := 6) (N := some 23) (v := ?_) (a' := ?_) #[true, true, true, true, true, true, true, false, false, false, false, false, false, false, false, false] rfl rfl (by kernel_rfl) (fun _ _ _ h => h) (Or.inl ⟨by rfl, ?_⟩) ?_ ?_
            rotate_left
            · intro w'
              go_simp
              with_reducible rfl
            rotate_left
            · simp only [Act.put, List.setIfInBounds_toArray, List.set_cons_zero, List.set_cons_succ, i64_w, i32_w]
              rfl
            refine pure_ (i := 7) (N := some 24) (v := ?_) (a' := ?_) #[true, true, true, true, true, true, true, true, false, false, false, false, false, false, false, false] rfl rfl (by kernel_rfl) (fun _ _ _ h => h) (Or.inl ⟨by rfl, ?_⟩) ?_ ?_
            rotate_left
            · intro w'
              go_simp
              with_reducible rfl
            rotate_left
            · simp only [Act.put, List.setIfInBounds_toArray, List.set_cons_zero, List.set_cons_succ, i64_w, i32_w]
              rfl
            refine pure_ (i := 9) (N := some 26) (v := ?_) (a' := ?_) #[true, true, true, true, true, true, true, true, false, true, false, false, false, false, false, false] rfl rfl (by kernel_rfl) (fun _ _ _ h => h) (Or.inl ⟨by rfl, ?_⟩) ?_ ?_
            rotate_left
            · intro w'
              go_simp
              with_reducible rfl
            rotate_left
            · simp only [Act.put, List.setIfInBounds_toArray, List.set_cons_zero, List.set_cons_succ, i64_w, i32_w]
              rfl
            refine pure_ (i := 11) (N := some 28) (v := ?_) (a' := ?_) #[true, true, true, true, true, true, true, true, false, true, false, true, false, false, false, false] rfl rfl (by kernel_rfl) (fun _ _ _ h => h) (Or.inl ⟨by rfl, ?_⟩) ?_ ?_
            rotate_left
            · intro w'
              go_simp
              with_reducible rfl
            rotate_left
            · simp only [Act.put, List.setIfInBounds_toArray, List.set_cons_zero, List.set_cons_succ, i64_w, i32_w]
              rfl
            refine take_ (i := 10) (N := some 27) (v := ?_) (a' := ?_) #[true, true, true, true, true, true, true, true, false, true, true, true, false, false, false, false] rfl rfl (by kernel_rfl) (fun _ _ _ h => h) (Or.inl ⟨by rfl, ?_⟩) hHeld ?_ ?_
            rotate_left
            · rintro w' ⟨s0, s1, s2⟩
              go_simp
              with_reducible rfl
            rotate_left
            · simp only [Act.put, List.setIfInBounds_toArray, List.set_cons_zero, List.set_cons_succ, i64_w, i32_w]
              rfl
            refine pure_ (i := 12) (N := some 29) (v := ?_) (a' := ?_) #[true, true, true, true, true, true, true, true, false, true, true, true, true, false, false, false] rfl rfl (by kernel_rfl) (fun _ _ _ h => h) (Or.inl ⟨by rfl, ?_⟩) ?_ ?_
            rotate_left
            · intro w'
              go_simp
              with_reducible rfl
            rotate_left
            · simp only [Act.put, List.setIfInBounds_toArray, List.set_cons_zero, List.set_cons_succ, i64_w, i32_w]
              rfl
            refine take_ (i := 13) (N := some 30) (v := ?_) (a' := ?_) #[true, true, true, true, true, true, true, true, false, true, true, true, true, true, false, false] rfl rfl (by kernel_rfl) (fun _ _ _ h => h) (Or.inl ⟨by rfl, ?_⟩) hHeld ?_ ?_
            rotate_left
            · rintro w' ⟨s0, s1, s2⟩
              go_simp
              with_reducible rfl
            rotate_left
            · simp only [Act.put, List.setIfInBounds_toArray, List.set_cons_zero, List.set_cons_succ, i64_w, i32_w]
              rfl
            refine one_ (i := 8) (N := some 25) #[true, true, true, true, true, true, true, true, true, true, true, true, true, true, false, false] rfl rfl (by kernel_rfl) (by decide) (fun K hK => ?_)
            refine value_ (w1 := _) (v := .agg cs) (by rfl) rfl (exec_load_row 41 (.tmp 1) rfl w.heap.size rfl 41 cs (0, 0) _ hHeld.1 Try.underlying41 rfl HC.out.info) ?_
            refine hK.out _ _ ⟨HKW.out, HH3.out, HCELL.out⟩ (fun hHeld => ?_)
            clear hK K
            refine norm_ (a' := ?_) ?_ ?_
            rotate_left
            · show Act.put _ (some 25) _ = _
              simp only [Act.put, List.setIfInBounds_toArray, List.set_cons_zero, List.set_cons_succ, i64_w, i32_w]
              rfl
            refine one_ (i := 14) (N := some 31) #[true, true, true, true, true, true, true, true, true, true, true, true, true, true, true, false] rfl rfl (by kernel_rfl) (by decide) (fun K hK => ?_)
            refine goes_ Try.func62 (by kernel_rfl) rfl #[.agg cs, .int .u32 x] (by rfl) rfl rfl (by simp only [List.map_toArray, List.map_cons, List.map_nil]; rfl) ?_
            with_reducible refine (rwithin_cfg _ cs C x false (HC.out.below (below_drew HBW.out)) HX32.out HBITS.out HW.out).mono ?_
            rintro e w5 ⟨rfl, hb5⟩
            refine ⟨_, rfl, ?_⟩
            have HB5 := Aside0.mk (below_then (below_drew HBW.out) HBW.out.size hb5)
            have HK5 := Aside0.mk (blk_below (w := wr.drew) HKW.out hb5)
            clear hb5
            refine hK.out _ _ ⟨HK5.out, (blk_cell HK5.out 3).trans HE3.out, (HB5.out.cell (World.block_lt_of_cell? _ _ HCELL0.out)).trans HCELL0.out⟩ (fun hHeld => ?_)
            clear hK K
            refine norm_ (a' := ?_) ?_ ?_
            rotate_left
            · show Act.put _ (some 31) _ = _
              simp only [Act.put, List.setIfInBounds_toArray, List.set_cons_zero, List.set_cons_succ, i64_w, i32_w]
              rfl
            refine pure_ (i := 15) (N := some 32) (v := ?_) (a' := ?_) #[true, true, true, true, true, true, true, true, true, true, true, true, true, true, true, true] rfl rfl (by kernel_rfl) (fun _ _ _ h => h) (Or.inl ⟨by rfl, ?_⟩) ?_ ?_
            rotate_left
            · intro w'
              go_simp
              with_reducible rfl
            rotate_left
            · simp only [Act.put, List.setIfInBounds_toArray, List.set_cons_zero, List.set_cons_succ, i64_w, i32_w]
              rfl
            refine done_ (by kernel_rfl) ?_
            clear h3w HH3 HCELL
            go_wp2_with fail
            go_loopw [4] (fun i wi => ∃ j : Nat, i = .int .i64 j ∧ j ≤ k ∧ (∀ m y, m < j → C.outer[m]? = some y → y ≠ x) ∧ Below w.heap.size w wi ∧ wi.heap[w.heap.size]? = some (.cells cs 41 (0, 0))) (fun i _ => k - (intOf i).toNat)
            case atStart => exact ⟨0, rfl, by omega, fun m y hm => absurd hm (by omega), HB5.out, HK5.out⟩
            case round =>
              rename World => wi
              obtain ⟨j, rfl, hj, hno, hbi, hki⟩ := hrel
              have HNO := Aside0.mk hno
              have HBI := Aside0.mk hbi
              have HKI := Aside0.mk hki
              clear hno hbi hki
              by_cases hjk : j < k
              · obtain ⟨y, hyj⟩ : ∃ y, C.outer[j]? = some y := ⟨_, List.getElem?_eq_getElem (by omega)⟩
                have hcy0 := C_cell HR.out j y hyj
                have HCY : Aside0 (wi.cell? (ad.add j) = some (.int .u32 y)) := ⟨(HBI.out.cell (World.block_lt_of_cell? _ _ hcy0)).trans hcy0⟩
                have hidy : (0 : Int) ≤ (j : Int) ∧ (j : Int) < (k : Int) := by omega
                have hidz : (0 : Int) ≤ (j : Int) ∧ (j : Int) < (C.outer.length : Int) := by omega
                have HYJ := Aside0.mk hyj
                clear hyj hcy0
                go_wp2_with fail
                refine start_ (n := 11) (S := fun w' => w'.cell? ⟨w.heap.size, 3, none⟩ = some (.slice (some ad) C.outer.length c) ∧ w'.cell? (ad.add j) = some (.int .u32 y) ∧ w'.cell? (ad.add k) = some (.int .u32 x)) (ds := []) #[false, false, false, false, false, false, false, false, false, false, false] (by kernel_rfl) rfl rfl ⟨(blk_cell HKI.out 3).trans HE3.out, HCY.out, (HBI.out.cell (World.block_lt_of_cell? _ _ HCELL0.out)).trans HCELL0.out⟩ (fun hHeld => ?_)
                refine pure_ (i := 0) (N := some 38) (v := ?_) (a' := ?_) #[true, false, false, false, false, false, false, false, false, false, false] rfl rfl (by kernel_rfl) (fun _ _ _ h => h) (Or.inl ⟨by rfl, ?_⟩) ?_ ?_
                rotate_left
                · intro w'
                  go_simp
                  with_reducible rfl
                rotate_left
                · simp only [Act.put, List.setIfInBounds_toArray, List.set_cons_zero, List.set_cons_succ, i64_w, i32_w]
                  rfl
                refine pure_ (i := 2) (N := some 40) (v := ?_) (a' := ?_) #[true, false, true, false, false, false, false, false, false, false, false] rfl rfl (by kernel_rfl) (fun _ _ _ h => h) (Or.inl ⟨by rfl, ?_⟩) ?_ ?_
                rotate_left
                · intro w'
                  go_simp
                  with_reducible rfl
                rotate_left
                · simp only [Act.put, List.setIfInBounds_toArray, List.set_cons_zero, List.set_cons_succ, i64_w, i32_w]
                  rfl
                refine pure_ (i := 5) (N := some 43) (v := ?_) (a' := ?_) #[true, false, true, false, false, true, false, false, false, false, false] rfl rfl (by kernel_rfl) (fun _ _ _ h => h) (Or.inl ⟨by rfl, ?_⟩) ?_ ?_
                rotate_left
                · intro w'
                  go_simp
                  with_reducible rfl
                rotate_left
                · simp only [Act.put, List.setIfInBounds_toArray, List.set_cons_zero, List.set_cons_succ, i64_w, i32_w]
                  rfl
                refine pure_ (i := 7) (N := some 45) (v := ?_) (a' := ?_) #[true, false, true, false, false, true, false, true, false, false, false] rfl rfl (by kernel_rfl) (fun _ _ _ h => h) (Or.inl ⟨by rfl, ?_⟩) ?_ ?_
                rotate_left
                · intro w'
                  go_simp
                  with_reducible rfl
                rotate_left
                · simp only [Act.put, List.setIfInBounds_toArray, List.set_cons_zero, List.set_cons_succ, i64_w, i32_w]
                  rfl
                refine take_ (i := 1) (N := some 39) (v := ?_) (a' := ?_) #[true, true, true, false, false, true, false, true, false, false, false] rfl rfl (by kernel_rfl) (fun _ _ _ h => h) (Or.inl ⟨by rfl, ?_⟩) hHeld ?_ ?_
                rotate_left
                · rintro w' ⟨s0, s1, s2⟩
                  go_simp
                  with_reducible rfl
                rotate_left
                · simp only [Act.put, List.setIfInBounds_toArray, List.set_cons_zero, List.set_cons_succ, i64_w, i32_w]
                  rfl
                refine pure_ (i := 3) (N := some 41) (v := ?_) (a' := ?_) #[true, true, true, true, false, true, false, true, false, false, false] rfl rfl (by kernel_rfl) (fun _ _ _ h => h) (Or.inl ⟨by rfl, ?_⟩) ?_ ?_
                rotate_left
                · intro w'
                  go_simp
                  with_reducible rfl
                rotate_left
                · simp only [Act.put, List.setIfInBounds_toArray, List.set_cons_zero, List.set_cons_succ, i64_w, i32_w]
                  rfl
                refine take_ (i := 4) (N := some 42) (v := ?_) (a' := ?_) #[true, true, true, true, true, true, false, true, false, false, false] rfl rfl (by kernel_rfl) (fun _ _ _ h => h) (Or.inl ⟨by rfl, ?_⟩) hHeld ?_ ?_
                rotate_left
                · rintro w' ⟨s0, s1, s2⟩
                  go_simp
                  with_reducible rfl
                rotate_left
                · simp only [Act.put, List.setIfInBounds_toArray, List.set_cons_zero, List.set_cons_succ, i64_w, i32_w]
                  rfl
                refine take_ (i := 6) (N := some 44) (v := ?_) (a' := ?_) #[true, true, true, true, true, true, true, true, false, false, false] rfl rfl (by kernel_rfl) (fun _ _ _ h => h) (Or.inl ⟨by rfl, ?_⟩) hHeld ?_ ?_
                rotate_left
                · rintro w' ⟨s0, s1, s2⟩
                  go_simp
                  with_reducible rfl
                rotate_left
                · simp only [Act.put, List.setIfInBounds_toArray, List.set_cons_zero, List.set_cons_succ, i64_w, i32_w]
                  rfl
                refine pure_ (i := 8) (N := some 46) (v := ?_) (a' := ?_) #[true, true, true, true, true, true, true, true, true, false, false] rfl rfl (by kernel_rfl) (fun _ _ _ h => h) (Or.inl ⟨by rfl, ?_⟩) ?_ ?_
                rotate_left
                · intro w'
                  go_simp
                  with_reducible rfl
                rotate_left
                · simp only [Act.put, List.setIfInBounds_toArray, List.set_cons_zero, List.set_cons_succ, i64_w, i32_w]
                  rfl
                refine take_ (i := 9) (N := some 47) (v := ?_) (a' := ?_) #[true, true, true, true, true, true, true, true, true, true, false] rfl rfl (by kernel_rfl) (fun _ _ _ h => h) (Or.inl ⟨by rfl, ?_⟩) hHeld ?_ ?_
                rotate_left
                · rintro w' ⟨s0, s1, s2⟩
                  go_simp
                  with_reducible rfl
                rotate_left
                · simp only [Act.put, List.setIfInBounds_toArray, List.set_cons_zero, List.set_cons_succ, i64_w, i32_w]
                  rfl
                refine pure_ (i := 10) (N := some 48) (v := ?_) (a' := ?_) #[true, true, true, true, true, true, true, true, true, true, true] rfl rfl (by kernel_rfl) (fun _ _ _ h => h) (Or.inl ⟨by rfl, ?_⟩) ?_ ?_
                rotate_left
                · intro w'
                  go_simp
                  with_reducible rfl
                rotate_left
                · simp only [Act.put, List.setIfInBounds_toArray, List.set_cons_zero, List.set_cons_succ, i64_w, i32_w]
                  rfl
                refine done_ (by kernel_rfl) ?_
                by_cases hyx : y = x
                · have hyb : (y == x) = true := by rw [hyx]; exact beq_self_eq_true x
                  have HYX := Aside0.mk hyx
                  clear hyx
                  go_wp2
                  go_ret
                  refine ⟨?_, below_drew HBI.out⟩
                  have hin : (C.outer.take k).contains x = true := by
                    rw [List.contains_iff_mem]
                    have h1 : (C.outer.take k)[j]? = some x := by
                      rw [List.getElem?_take_of_lt hjk, HYJ.out, HYX.out]
                    exact List.mem_of_getElem? h1
                  rw [outs_false hkl (by rw [HPARTS.out, hin]; simp)]
                  rfl
                · have hyb : (y == x) = false := beq_eq_false_iff_ne.2 hyx
                  have HYX := Aside0.mk hyx
                  clear hyx
                  go_wp2
                  go_roundw
                  case rel =>
                    refine ⟨j + 1, by go_num, by omega, fun m z hm hz => ?_, below_drew HBI.out, HKI.out⟩
                    by_cases hmj : m = j
                    · subst hmj
                      rw [HYJ.out] at hz
                      exact Option.some.inj hz ▸ HYX.out
                    · exact HNO.out m z (by omega) hz
                  case measure => simp [intOf]; omega
              · obtain rfl : j = k := by omega
                go_wp2
                go_roundw
                case rel =>
                  refine ⟨j + 1, by go_num, by omega, fun m hm => ?_, HBI.out, HKI.out⟩
                  by_cases hmj : m = j
                  · subst hmj
                    rw [HPARTS.out, HW.out, HU.out]
                    have hnin : (C.outer.take m).contains x = false := by
                      refine Bool.eq_false_iff.2 (fun hc => ?_)
                      rw [List.contains_iff_mem] at hc
                      obtain ⟨i, hi⟩ := List.getElem?_of_mem hc
                      have hlt := (List.getElem?_eq_some_iff.1 hi).1
                      have hlt2 : i < m := by
                        have : (C.outer.take m).length ≤ m := List.length_take_le _ _
                        omega
                      rw [List.getElem?_take_of_lt hlt2] at hi
                      exact HNO.out i x hlt2 hi rfl
                    rw [hnin]; rfl
                  · exact HOK.out m (by omega)
                case measure => simp [intOf]; omega
      · obtain rfl : k = C.outer.length := by omega
        go_wp2
        go_ret
        refine ⟨?_, HBW.out⟩
        rw [outs_true hl1 hl8 HOK.out]
        try rfl
  · have hlf : (decide ((1 : Int) ≤ C.outer.length) && decide ((C.outer.length : Int) ≤ 8)) = false := by
      rw [← Bool.decide_and]; exact decide_eq_false hl
    have hlf2 : btw (C.outer.length : Int) 1 8 = false := hlf
    go_enter Try.func63, Try.ntmps63
    go_wp2_with (go_at_call 60; refine (rbetween_calls _ _ _ _ _ rfl).mono ?_; rintro e w' ⟨rfl, rfl⟩)
    all_goals
      go_ret
      refine ⟨?_, HB0.out⟩
      have e : C.outs = false := by unfold Cfg.outs; rw [hlf]; rfl
      rw [e]
      try rfl
end Go.Proofs.Ytoapbppjkidgiaa.Setup
