-- PRINTED BY print.sh 35421559b90ae4d0a3588c463048766b98c2df88dd9212a6774a882060cdf62d: not written by this session
import Derived.Test.YthdhdfhjimmkkaaPConnKnownx0
import Derived.Test.YthdhdfhjimmkkaaPConnKnownx1
namespace Go.Proofs.Ythdhdfhjimmkkaa.PConnKnown
open Go.RowKit Go.Proofs.YthdhdfhjimmkkaaW.PrintWords Go.Proofs.YthdhdfhjimmkkaaW.PrintLast Go.Proofs.YthdhdfhjimmkkaaW.PrintMore
attribute [local go_sem] max2_int min2_int max_two min_two max_three min_three max_four min_four   -- for this text's walks alone
set_option linter.unusedVariables false
set_option linter.unusedSimpArgs false

attribute [local go_sem high] eqA36
/-! ### conn_either: function 16 -/
def conn_either.f (a0 : Bool) (a1 : Int) (a2 : Int) : Option (Int) := if a0 = true then (some a1) else (some a2)
set_option maxHeartbeats 8000000 in
set_option maxRecDepth 100000 in
theorem conn_either.calls (a0 : Bool) (a1 : Int) (a2 : Int) (r : Int) (w : World) (h : conn_either.f a0 a1 a2 = some r) :
    Calls Try.prog 16 #[.bool a0, .int .i64 a1, .int .i64 a2] w fun e w' => e = .returned (.int .i64 r) ∧ Drawn0 w w' := by
  have H : (if a0 = true then (some a1) else (some a2)) = some r := h
  clear h
  by_cases c4 : a0 = true
  · subst c4
    have H1 : (some a1) = some r := by rw [if_pos rfl] at H; exact H
    clear H
    have H := H1
    clear H1
    obtain rfl := Option.some.inj H
    go_enter Try.func16, Try.ntmps16
    go_wp2
    go_ret
    exact ⟨by first | rfl | (simp; done) | (simp [*]; done), by repeat (first | exact Drawn0.refl _ | apply Drawn0.step)⟩
  · replace c4 := Bool.eq_false_iff.mpr c4
    subst c4
    have H1 : (some a2) = some r := by rw [if_neg (show ¬ (false = true) by decide)] at H; exact H
    clear H
    have H := H1
    clear H1
    obtain rfl := Option.some.inj H
    go_enter Try.func16, Try.ntmps16
    go_wp2
    go_ret
    exact ⟨by first | rfl | (simp; done) | (simp [*]; done), by repeat (first | exact Drawn0.refl _ | apply Drawn0.step)⟩

/-! ### conn_begins: function 13 -/
def conn_begins.j0 : Nat → Bool → Int → Bool → Option (Int × Bool)
  | 0, _, _, _ => none
  | k + 1, x11, x102000, x102001 => if x11 = true then (some (4, true)) else (if x102000 = 0 then ((conn_either.f x102001 2 3).bind fun t102 => (some (t102, true))) else (if x102000 = 1 then ((conn_either.f x102001 2 3).bind fun t103 => (some (t103, true))) else (if x102000 = 7 then ((conn_either.f x102001 2 3).bind fun t104 => (some (t104, true))) else (if x102000 = 8 then ((conn_either.f x102001 2 3).bind fun t105 => (some (t105, true))) else (some (0, false))))))
def conn_begins.f (k : Nat) (a0_0 : Int) (a0_1 : Bool) : Option (Int × Bool) := if (a0_0 == 2 && (!a0_1)) = true then (conn_begins.j0 k true a0_0 a0_1) else (conn_begins.j0 k (a0_0 == 3 && (a0_1)) a0_0 a0_1)
theorem conn_begins.mono_l : ∀ k, (∀ y0 y1 y2, LeO (conn_begins.j0 k y0 y1 y2) (conn_begins.j0 (k + 1) y0 y1 y2))
  | 0 => fun _ _ _ r h => by simp [conn_begins.j0] at h
  | k + 1 => by
    have ih0 := conn_begins.mono_l k
    · intro y0 y1 y2
      unfold conn_begins.j0
      repeat' first
      | (with_reducible exact ih0 _ _ _)
      | (with_reducible exact LeO.refl _)
      | (with_reducible exact LeO.none _)
      | (with_reducible refine LeO.ite ?_ ?_)
      | (with_reducible refine LeO.bind ?_ (fun _ => ?_))
      | exact ih0 _ _ _
      | exact LeO.none _
      | refine LeO.ite ?_ ?_
      | refine LeO.bind ?_ (fun _ => ?_)
theorem conn_begins.mono : ∀ a0 a1 k, LeO (conn_begins.f k a0 a1) (conn_begins.f (k + 1) a0 a1) := by
  intro a0 a1 k
  have ih0 := conn_begins.mono_l k
  unfold conn_begins.f
  repeat' first
      | (with_reducible exact ih0 _ _ _)
      | (with_reducible exact LeO.refl _)
      | (with_reducible exact LeO.none _)
      | (with_reducible refine LeO.ite ?_ ?_)
      | (with_reducible refine LeO.bind ?_ (fun _ => ?_))
      | exact ih0 _ _ _
      | exact LeO.none _
      | refine LeO.ite ?_ ?_
      | refine LeO.bind ?_ (fun _ => ?_)
set_option maxHeartbeats 8000000 in
set_option maxRecDepth 100000 in
theorem conn_begins.calls (k : Nat) (a0_0 : Int) (a0_1 : Bool) (r1 : Int) (r2 : Bool) (w : World) (h : conn_begins.f k a0_0 a0_1 = some (r1, r2)) :
    Calls Try.prog 13 #[.agg #[.int .i64 a0_0, .bool a0_1]] w fun e w' => e = .returned (.tuple #[.int .i64 r1, .bool r2]) ∧ Below w.heap.size w w' := by
  have hu36 := Try.underlying36
  have HB := Aside0.mk (Below.refl w.heap.size w)
  have H : (if (a0_0 == 2 && (!a0_1)) = true then (conn_begins.j0 k true a0_0 a0_1) else (conn_begins.j0 k (a0_0 == 3 && (a0_1)) a0_0 a0_1)) = some (r1, r2) := h
  clear h
  have HC2 := Aside0.mk H
  clear H
  go_enter Try.func13, Try.ntmps13
  go_upto_region 1 with (first | ((with_reducible refine gate_dst (N := 1) rfl ?_); refine box_event ?hg (N := 1) ?hd (cs := #[.int .i64 a0_0, .bool a0_1]) (t := 36) ?hr ?_; (case hd => rfl); (case hg => rfl); (case hr => first | (go_simp; done) | (go_simp; rfl)); intro gb101 hg w3 hbox hb; have n0_ := Aside0.mk (below_step (by repeat (first | (with_reducible first | exact HB.out | apply below_alloc | apply pw_below_drewN | apply below_drew1) | exact HB.out)) hb); have n1_ := Aside0.mk (hbox); have n2_ := Aside0.mk ((by rw [hg]; exact (below_size (by repeat (first | (with_reducible first | exact HB.out | apply below_alloc | apply pw_below_drewN | apply below_drew1) | exact HB.out))) : w.heap.size ≤ gb101)); have n3_ := Aside0.mk ((by rw [hg]; exact (below_size (by repeat (first | (with_reducible first | exact HB.out | apply below_alloc | apply pw_below_drewN | apply below_drew1) | exact HB.out))) : w.heap.size ≤ gb101)); clear HB; have HB := n0_; have BK101 := n1_; have GW101 := n2_; have GE101 := n3_; clear n0_ n1_ n2_ n3_; clear hb hbox hg))
  (try simp only [Act.put, List.setIfInBounds_toArray, List.set_cons_zero, List.set_cons_succ])
  go_cut [11] (fun v11 wc => ∃ (kq : Nat) (x11_1 : Bool), v11 = .bool x11_1 ∧ Aside0 (conn_begins.j0 kq x11_1 a0_0 a0_1 = some (r1, r2)) ∧ Aside0 (kq ≤ k) ∧ Aside0 (wc.heap[gb101]? = some (.cells #[.int .i64 a0_0, .bool a0_1] 36 (0, 0))) ∧ Aside0 (Below w.heap.size w wc))
  case first =>
    have H := HC2.out
    clear HC2
    by_cases c4 : (a0_0 == 2 && (!a0_1)) = true
    · rw [if_pos c4] at H
      have c4b0 : (a0_0 == 2 && (!a0_1)) = true := c4
      (try (have c4b1 : decide (a0_0 = 2 && (!a0_1)) = true := by simpa using c4))
      (try (have c4b2 : (a0_0 == 2 && (!a0_1)) = true := by simpa using c4))
      clear c4
      (first | rw [c4b0] | (simp only [i64_w, i32_w]; rw [c4b0]) | skip)
      have H' := Aside0.mk H
      clear H
      have hcz5_0 : w3.cell? ⟨gb101, 0, none⟩ = some (.int .i64 a0_0) := (blk_cell BK101.out 0).trans rfl
      have hcz5_1 : w3.cell? ⟨gb101, 1, none⟩ = some (.bool a0_1) := (blk_cell BK101.out 1).trans rfl
      have hfz5_0 := blk_frozen BK101.out 0
      have hfz5_1 := blk_frozen BK101.out 1
      go_wp2
      go_meet
      case rel => exact ⟨_, (true), (by first | rfl | (simp; done) | (simp [*]; done)), H', ⟨by first | omega | exact Nat.le_refl _⟩, ⟨by (with_reducible repeat (first | refine blk_drewN ?_ _ | refine blk_drew ?_ | refine blk_alloc ?_ _)); exact BK101.out⟩, ⟨by repeat (first | (with_reducible first | exact HB.out | apply below_alloc | apply pw_below_drewN | apply below_drew1 | refine below_set ?_ GE101.out) | exact HB.out)⟩⟩
    · rw [if_neg c4] at H
      have c4b0 : (a0_0 == 2 && (!a0_1)) = false := by simpa using c4
      (try (have c4b1 : decide (a0_0 = 2 && (!a0_1)) = false := by simpa using c4))
      (try (have c4b2 : (a0_0 == 2 && (!a0_1)) = false := by simpa using c4))
      (try (have c4b3 : ¬ (a0_0 = 2 && (!a0_1)) := by simpa using c4))
      clear c4
      (first | rw [c4b0] | (simp only [i64_w, i32_w]; rw [c4b0]) | skip)
      have H' := Aside0.mk H
      clear H
      have hcz6_0 : w3.cell? ⟨gb101, 0, none⟩ = some (.int .i64 a0_0) := (blk_cell BK101.out 0).trans rfl
      have hcz6_1 : w3.cell? ⟨gb101, 1, none⟩ = some (.bool a0_1) := (blk_cell BK101.out 1).trans rfl
      have hfz6_0 := blk_frozen BK101.out 0
      have hfz6_1 := blk_frozen BK101.out 1
      go_wp2
      go_meet
      case rel => exact ⟨_, ((a0_0 == 3 && (a0_1))), (by first | rfl | (simp; done) | (simp [*]; done)), H', ⟨by first | omega | exact Nat.le_refl _⟩, ⟨by (with_reducible repeat (first | refine blk_drewN ?_ _ | refine blk_drew ?_ | refine blk_alloc ?_ _)); exact BK101.out⟩, ⟨by repeat (first | (with_reducible first | exact HB.out | apply below_alloc | apply pw_below_drewN | apply below_drew1 | refine below_set ?_ GE101.out) | exact HB.out)⟩⟩
  case rest =>
    clear HC2
    try clear c1
    try clear p2
    try clear c4
    try clear c4b0
    try clear c4b1
    try clear c4b2
    try clear hcz5_0
    try clear hcz5_1
    try clear hcz6_0
    try clear hcz6_1
    try clear hfz5_0
    try clear hfz5_1
    try clear hfz6_0
    try clear hfz6_1
    obtain ⟨kq, x11_1, rfl, HA, HJ1, BK101, HB⟩ := hcut
    cases kq with
    | zero => exact absurd HA.out (by simp [conn_begins.j0])
    | succ kj1 =>
      have H := HA.out
      clear HA
      simp only [conn_begins.j0] at H
      by_cases c7 : x11_1 = true
      · subst c7
        have H1 : (some (4, true)) = some (r1, r2) := by rw [if_pos rfl] at H; exact H
        clear H
        have H := H1
        clear H1
        simp only [Option.some.injEq, Prod.mk.injEq] at H
        obtain ⟨rfl, rfl⟩ := H
        go_wp2
        go_ret2
        exact ⟨by first | rfl | (simp [errW_none, errW_some] <;> rfl) | (simp [*, errW_none, errW_some] <;> rfl), by repeat (first | (with_reducible first | exact HB.out | apply below_alloc | apply pw_below_drewN | apply below_drew1 | refine below_set ?_ GE101.out) | exact HB.out)⟩
      · replace c7 := Bool.eq_false_iff.mpr c7
        subst c7
        have H1 : (if a0_0 = 0 then ((conn_either.f a0_1 2 3).bind fun t102 => (some (t102, true))) else (if a0_0 = 1 then ((conn_either.f a0_1 2 3).bind fun t103 => (some (t103, true))) else (if a0_0 = 7 then ((conn_either.f a0_1 2 3).bind fun t104 => (some (t104, true))) else (if a0_0 = 8 then ((conn_either.f a0_1 2 3).bind fun t105 => (some (t105, true))) else (some (0, false)))))) = some (r1, r2) := by rw [if_neg (show ¬ (false = true) by decide)] at H; exact H
        clear H
        have H := H1
        clear H1
        by_cases c8 : a0_0 = 0
        · rw [if_pos c8] at H
          have c8b0 : (a0_0 == 0) = true := beq_iff_eq.mpr c8
          have c8b1 : (a0_0 != 0) = false := bne_eq_false_iff_eq.mpr c8
          clear c8
          replace H := Option.bind_eq_some_iff.mp H
          obtain ⟨t102, A90, H⟩ := H
          replace H : (some (t102, true)) = some (r1, r2) := H
          have A9 := Aside0.mk A90
          clear A90
          simp only [Option.some.injEq, Prod.mk.injEq] at H
          obtain ⟨rfl, rfl⟩ := H
          have hcz10_0 : wc.cell? ⟨gb101, 0, none⟩ = some (.int .i64 a0_0) := (blk_cell BK101.out 0).trans rfl
          have hcz10_1 : wc.cell? ⟨gb101, 1, none⟩ = some (.bool a0_1) := (blk_cell BK101.out 1).trans rfl
          have hfz10_0 := blk_frozen BK101.out 0
          have hfz10_1 := blk_frozen BK101.out 1
          go_wp2_with (first | ((with_reducible refine gate_callee (f := 16) rfl ?_); refine goesL_ (some 21) rfl rfl Try.func16 (by kernel_rfl) rfl #[.bool a0_1, .int .i64 2, .int .i64 3] rfl (by (try simp only [List.map_toArray, List.map_cons, List.map_nil]); first | done | rfl | (simp only [List.length_drop, List.length_take]; rfl)) ?_; (with_reducible refine (conn_either.calls a0_1 2 3 t102 _ A9.out).mono ?_); rintro e w' ⟨rfl, ⟨nd, rfl⟩⟩; refine ⟨_, rfl, ?_⟩))
          go_ret2
          exact ⟨by first | rfl | (simp [errW_none, errW_some] <;> rfl) | (simp [*, errW_none, errW_some] <;> rfl), by repeat (first | (with_reducible first | exact HB.out | apply below_alloc | apply pw_below_drewN | apply below_drew1 | refine below_set ?_ GE101.out) | exact HB.out)⟩
        · rw [if_neg c8] at H
          have c8b0 : (a0_0 == 0) = false := beq_eq_false_iff_ne.mpr c8
          have c8b1 : (a0_0 != 0) = true := bne_iff_ne.mpr c8
          by_cases c11 : a0_0 = 1
          · rw [if_pos c11] at H
            have c11b0 : (a0_0 == 1) = true := beq_iff_eq.mpr c11
            have c11b1 : (a0_0 != 1) = false := bne_eq_false_iff_eq.mpr c11
            clear c11
            replace H := Option.bind_eq_some_iff.mp H
            obtain ⟨t103, A120, H⟩ := H
            replace H : (some (t103, true)) = some (r1, r2) := H
            have A12 := Aside0.mk A120
            clear A120
            simp only [Option.some.injEq, Prod.mk.injEq] at H
            obtain ⟨rfl, rfl⟩ := H
            have hcz13_0 : wc.cell? ⟨gb101, 0, none⟩ = some (.int .i64 a0_0) := (blk_cell BK101.out 0).trans rfl
            have hcz13_1 : wc.cell? ⟨gb101, 1, none⟩ = some (.bool a0_1) := (blk_cell BK101.out 1).trans rfl
            have hfz13_0 := blk_frozen BK101.out 0
            have hfz13_1 := blk_frozen BK101.out 1
            go_wp2_with (first | ((with_reducible refine gate_callee (f := 16) rfl ?_); refine goesL_ (some 21) rfl rfl Try.func16 (by kernel_rfl) rfl #[.bool a0_1, .int .i64 2, .int .i64 3] rfl (by (try simp only [List.map_toArray, List.map_cons, List.map_nil]); first | done | rfl | (simp only [List.length_drop, List.length_take]; rfl)) ?_; (with_reducible refine (conn_either.calls a0_1 2 3 t103 _ A12.out).mono ?_); rintro e w' ⟨rfl, ⟨nd, rfl⟩⟩; refine ⟨_, rfl, ?_⟩))
            go_ret2
            exact ⟨by first | rfl | (simp [errW_none, errW_some] <;> rfl) | (simp [*, errW_none, errW_some] <;> rfl), by repeat (first | (with_reducible first | exact HB.out | apply below_alloc | apply pw_below_drewN | apply below_drew1 | refine below_set ?_ GE101.out) | exact HB.out)⟩
          · rw [if_neg c11] at H
            have c11b0 : (a0_0 == 1) = false := beq_eq_false_iff_ne.mpr c11
            have c11b1 : (a0_0 != 1) = true := bne_iff_ne.mpr c11
            by_cases c14 : a0_0 = 7
            · rw [if_pos c14] at H
              have c14b0 : (a0_0 == 7) = true := beq_iff_eq.mpr c14
              have c14b1 : (a0_0 != 7) = false := bne_eq_false_iff_eq.mpr c14
              clear c14
              replace H := Option.bind_eq_some_iff.mp H
              obtain ⟨t104, A150, H⟩ := H
              replace H : (some (t104, true)) = some (r1, r2) := H
              have A15 := Aside0.mk A150
              clear A150
              simp only [Option.some.injEq, Prod.mk.injEq] at H
              obtain ⟨rfl, rfl⟩ := H
              have hcz16_0 : wc.cell? ⟨gb101, 0, none⟩ = some (.int .i64 a0_0) := (blk_cell BK101.out 0).trans rfl
              have hcz16_1 : wc.cell? ⟨gb101, 1, none⟩ = some (.bool a0_1) := (blk_cell BK101.out 1).trans rfl
              have hfz16_0 := blk_frozen BK101.out 0
              have hfz16_1 := blk_frozen BK101.out 1
              go_wp2_with (first | ((with_reducible refine gate_callee (f := 16) rfl ?_); refine goesL_ (some 21) rfl rfl Try.func16 (by kernel_rfl) rfl #[.bool a0_1, .int .i64 2, .int .i64 3] rfl (by (try simp only [List.map_toArray, List.map_cons, List.map_nil]); first | done | rfl | (simp only [List.length_drop, List.length_take]; rfl)) ?_; (with_reducible refine (conn_either.calls a0_1 2 3 t104 _ A15.out).mono ?_); rintro e w' ⟨rfl, ⟨nd, rfl⟩⟩; refine ⟨_, rfl, ?_⟩))
              go_ret2
              exact ⟨by first | rfl | (simp [errW_none, errW_some] <;> rfl) | (simp [*, errW_none, errW_some] <;> rfl), by repeat (first | (with_reducible first | exact HB.out | apply below_alloc | apply pw_below_drewN | apply below_drew1 | refine below_set ?_ GE101.out) | exact HB.out)⟩
            · rw [if_neg c14] at H
              have c14b0 : (a0_0 == 7) = false := beq_eq_false_iff_ne.mpr c14
              have c14b1 : (a0_0 != 7) = true := bne_iff_ne.mpr c14
              by_cases c17 : a0_0 = 8
              · rw [if_pos c17] at H
                have c17b0 : (a0_0 == 8) = true := beq_iff_eq.mpr c17
                have c17b1 : (a0_0 != 8) = false := bne_eq_false_iff_eq.mpr c17
                clear c17
                replace H := Option.bind_eq_some_iff.mp H
                obtain ⟨t105, A180, H⟩ := H
                replace H : (some (t105, true)) = some (r1, r2) := H
                have A18 := Aside0.mk A180
                clear A180
                simp only [Option.some.injEq, Prod.mk.injEq] at H
                obtain ⟨rfl, rfl⟩ := H
                have hcz19_0 : wc.cell? ⟨gb101, 0, none⟩ = some (.int .i64 a0_0) := (blk_cell BK101.out 0).trans rfl
                have hcz19_1 : wc.cell? ⟨gb101, 1, none⟩ = some (.bool a0_1) := (blk_cell BK101.out 1).trans rfl
                have hfz19_0 := blk_frozen BK101.out 0
                have hfz19_1 := blk_frozen BK101.out 1
                go_wp2_with (first | ((with_reducible refine gate_callee (f := 16) rfl ?_); refine goesL_ (some 21) rfl rfl Try.func16 (by kernel_rfl) rfl #[.bool a0_1, .int .i64 2, .int .i64 3] rfl (by (try simp only [List.map_toArray, List.map_cons, List.map_nil]); first | done | rfl | (simp only [List.length_drop, List.length_take]; rfl)) ?_; (with_reducible refine (conn_either.calls a0_1 2 3 t105 _ A18.out).mono ?_); rintro e w' ⟨rfl, ⟨nd, rfl⟩⟩; refine ⟨_, rfl, ?_⟩))
                go_ret2
                exact ⟨by first | rfl | (simp [errW_none, errW_some] <;> rfl) | (simp [*, errW_none, errW_some] <;> rfl), by repeat (first | (with_reducible first | exact HB.out | apply below_alloc | apply pw_below_drewN | apply below_drew1 | refine below_set ?_ GE101.out) | exact HB.out)⟩
              · rw [if_neg c17] at H
                have c17b0 : (a0_0 == 8) = false := beq_eq_false_iff_ne.mpr c17
                have c17b1 : (a0_0 != 8) = true := bne_iff_ne.mpr c17
                simp only [Option.some.injEq, Prod.mk.injEq] at H
                obtain ⟨rfl, rfl⟩ := H
                have hcz20_0 : wc.cell? ⟨gb101, 0, none⟩ = some (.int .i64 a0_0) := (blk_cell BK101.out 0).trans rfl
                have hcz20_1 : wc.cell? ⟨gb101, 1, none⟩ = some (.bool a0_1) := (blk_cell BK101.out 1).trans rfl
                have hfz20_0 := blk_frozen BK101.out 0
                have hfz20_1 := blk_frozen BK101.out 1
                go_wp2
                go_ret2
                exact ⟨by first | rfl | (simp [errW_none, errW_some] <;> rfl) | (simp [*, errW_none, errW_some] <;> rfl), by repeat (first | (with_reducible first | exact HB.out | apply below_alloc | apply pw_below_drewN | apply below_drew1 | refine below_set ?_ GE101.out) | exact HB.out)⟩

/-! ### conn_ends: function 14 -/
def conn_ends.j0 : Nat → Bool → Int → Bool → Option (Int × Bool)
  | 0, _, _, _ => none
  | k + 1, x11, x107000, x107001 => if x11 = true then (some (7, true)) else (if x107000 = 0 then ((conn_either.f x107001 5 6).bind fun t107 => (some (t107, true))) else (if x107000 = 1 then ((conn_either.f x107001 5 6).bind fun t108 => (some (t108, true))) else (if x107000 = 2 then ((conn_either.f x107001 5 6).bind fun t109 => (some (t109, true))) else (if x107000 = 3 then ((conn_either.f x107001 5 6).bind fun t110 => (some (t110, true))) else (if x107000 = 4 then ((conn_either.f x107001 5 6).bind fun t111 => (some (t111, true))) else (some (0, false)))))))
def conn_ends.f (k : Nat) (a0_0 : Int) (a0_1 : Bool) : Option (Int × Bool) := if (a0_0 == 5 && (!a0_1)) = true then (conn_ends.j0 k true a0_0 a0_1) else (conn_ends.j0 k (a0_0 == 6 && (a0_1)) a0_0 a0_1)
theorem conn_ends.mono_l : ∀ k, (∀ y0 y1 y2, LeO (conn_ends.j0 k y0 y1 y2) (conn_ends.j0 (k + 1) y0 y1 y2))
  | 0 => fun _ _ _ r h => by simp [conn_ends.j0] at h
  | k + 1 => by
    have ih0 := conn_ends.mono_l k
    · intro y0 y1 y2
      unfold conn_ends.j0
      repeat' first
      | (with_reducible exact ih0 _ _ _)
      | (with_reducible exact LeO.refl _)
      | (with_reducible exact LeO.none _)
      | (with_reducible refine LeO.ite ?_ ?_)
      | (with_reducible refine LeO.bind ?_ (fun _ => ?_))
      | exact ih0 _ _ _
      | exact LeO.none _
      | refine LeO.ite ?_ ?_
      | refine LeO.bind ?_ (fun _ => ?_)
theorem conn_ends.mono : ∀ a0 a1 k, LeO (conn_ends.f k a0 a1) (conn_ends.f (k + 1) a0 a1) := by
  intro a0 a1 k
  have ih0 := conn_ends.mono_l k
  unfold conn_ends.f
  repeat' first
      | (with_reducible exact ih0 _ _ _)
      | (with_reducible exact LeO.refl _)
      | (with_reducible exact LeO.none _)
      | (with_reducible refine LeO.ite ?_ ?_)
      | (with_reducible refine LeO.bind ?_ (fun _ => ?_))
      | exact ih0 _ _ _
      | exact LeO.none _
      | refine LeO.ite ?_ ?_
      | refine LeO.bind ?_ (fun _ => ?_)
set_option maxHeartbeats 8000000 in
set_option maxRecDepth 100000 in
theorem conn_ends.calls (k : Nat) (a0_0 : Int) (a0_1 : Bool) (r1 : Int) (r2 : Bool) (w : World) (h : conn_ends.f k a0_0 a0_1 = some (r1, r2)) :
    Calls Try.prog 14 #[.agg #[.int .i64 a0_0, .bool a0_1]] w fun e w' => e = .returned (.tuple #[.int .i64 r1, .bool r2]) ∧ Below w.heap.size w w' := by
  have hu36 := Try.underlying36
  have HB := Aside0.mk (Below.refl w.heap.size w)
  have H : (if (a0_0 == 5 && (!a0_1)) = true then (conn_ends.j0 k true a0_0 a0_1) else (conn_ends.j0 k (a0_0 == 6 && (a0_1)) a0_0 a0_1)) = some (r1, r2) := h
  clear h
  have HC2 := Aside0.mk H
  clear H
  go_enter Try.func14, Try.ntmps14
  go_upto_region 1 with (first | ((with_reducible refine gate_dst (N := 1) rfl ?_); refine box_event ?hg (N := 1) ?hd (cs := #[.int .i64 a0_0, .bool a0_1]) (t := 36) ?hr ?_; (case hd => rfl); (case hg => rfl); (case hr => first | (go_simp; done) | (go_simp; rfl)); intro gb106 hg w3 hbox hb; have n0_ := Aside0.mk (below_step (by repeat (first | (with_reducible first | exact HB.out | apply below_alloc | apply pw_below_drewN | apply below_drew1) | exact HB.out)) hb); have n1_ := Aside0.mk (hbox); have n2_ := Aside0.mk ((by rw [hg]; exact (below_size (by repeat (first | (with_reducible first | exact HB.out | apply below_alloc | apply pw_below_drewN | apply below_drew1) | exact HB.out))) : w.heap.size ≤ gb106)); have n3_ := Aside0.mk ((by rw [hg]; exact (below_size (by repeat (first | (with_reducible first | exact HB.out | apply below_alloc | apply pw_below_drewN | apply below_drew1) | exact HB.out))) : w.heap.size ≤ gb106)); clear HB; have HB := n0_; have BK106 := n1_; have GW106 := n2_; have GE106 := n3_; clear n0_ n1_ n2_ n3_; clear hb hbox hg))
  (try simp only [Act.put, List.setIfInBounds_toArray, List.set_cons_zero, List.set_cons_succ])
  go_cut [11] (fun v11 wc => ∃ (kq : Nat) (x11_1 : Bool), v11 = .bool x11_1 ∧ Aside0 (conn_ends.j0 kq x11_1 a0_0 a0_1 = some (r1, r2)) ∧ Aside0 (kq ≤ k) ∧ Aside0 (wc.heap[gb106]? = some (.cells #[.int .i64 a0_0, .bool a0_1] 36 (0, 0))) ∧ Aside0 (Below w.heap.size w wc))
  case first =>
    have H := HC2.out
    clear HC2
    by_cases c4 : (a0_0 == 5 && (!a0_1)) = true
    · rw [if_pos c4] at H
      have c4b0 : (a0_0 == 5 && (!a0_1)) = true := c4
      (try (have c4b1 : decide (a0_0 = 5 && (!a0_1)) = true := by simpa using c4))
      (try (have c4b2 : (a0_0 == 5 && (!a0_1)) = true := by simpa using c4))
      clear c4
      (first | rw [c4b0] | (simp only [i64_w, i32_w]; rw [c4b0]) | skip)
      have H' := Aside0.mk H
      clear H
      have hcz5_0 : w3.cell? ⟨gb106, 0, none⟩ = some (.int .i64 a0_0) := (blk_cell BK106.out 0).trans rfl
      have hcz5_1 : w3.cell? ⟨gb106, 1, none⟩ = some (.bool a0_1) := (blk_cell BK106.out 1).trans rfl
      have hfz5_0 := blk_frozen BK106.out 0
      have hfz5_1 := blk_frozen BK106.out 1
      go_wp2
      go_meet
      case rel => exact ⟨_, (true), (by first | rfl | (simp; done) | (simp [*]; done)), H', ⟨by first | omega | exact Nat.le_refl _⟩, ⟨by (with_reducible repeat (first | refine blk_drewN ?_ _ | refine blk_drew ?_ | refine blk_alloc ?_ _)); exact BK106.out⟩, ⟨by repeat (first | (with_reducible first | exact HB.out | apply below_alloc | apply pw_below_drewN | apply below_drew1 | refine below_set ?_ GE106.out) | exact HB.out)⟩⟩
    · rw [if_neg c4] at H
      have c4b0 : (a0_0 == 5 && (!a0_1)) = false := by simpa using c4
      (try (have c4b1 : decide (a0_0 = 5 && (!a0_1)) = false := by simpa using c4))
      (try (have c4b2 : (a0_0 == 5 && (!a0_1)) = false := by simpa using c4))
      (try (have c4b3 : ¬ (a0_0 = 5 && (!a0_1)) := by simpa using c4))
      clear c4
      (first | rw [c4b0] | (simp only [i64_w, i32_w]; rw [c4b0]) | skip)
      have H' := Aside0.mk H
      clear H
      have hcz6_0 : w3.cell? ⟨gb106, 0, none⟩ = some (.int .i64 a0_0) := (blk_cell BK106.out 0).trans rfl
      have hcz6_1 : w3.cell? ⟨gb106, 1, none⟩ = some (.bool a0_1) := (blk_cell BK106.out 1).trans rfl
      have hfz6_0 := blk_frozen BK106.out 0
      have hfz6_1 := blk_frozen BK106.out 1
      go_wp2
      go_meet
      case rel => exact ⟨_, ((a0_0 == 6 && (a0_1))), (by first | rfl | (simp; done) | (simp [*]; done)), H', ⟨by first | omega | exact Nat.le_refl _⟩, ⟨by (with_reducible repeat (first | refine blk_drewN ?_ _ | refine blk_drew ?_ | refine blk_alloc ?_ _)); exact BK106.out⟩, ⟨by repeat (first | (with_reducible first | exact HB.out | apply below_alloc | apply pw_below_drewN | apply below_drew1 | refine below_set ?_ GE106.out) | exact HB.out)⟩⟩
  case rest =>
    clear HC2
    try clear c1
    try clear p2
    try clear c4
    try clear c4b0
    try clear c4b1
    try clear c4b2
    try clear hcz5_0
    try clear hcz5_1
    try clear hcz6_0
    try clear hcz6_1
    try clear hfz5_0
    try clear hfz5_1
    try clear hfz6_0
    try clear hfz6_1
    obtain ⟨kq, x11_1, rfl, HA, HJ1, BK106, HB⟩ := hcut
    cases kq with
    | zero => exact absurd HA.out (by simp [conn_ends.j0])
    | succ kj1 =>
      have H := HA.out
      clear HA
      simp only [conn_ends.j0] at H
      by_cases c7 : x11_1 = true
      · subst c7
        have H1 : (some (7, true)) = some (r1, r2) := by rw [if_pos rfl] at H; exact H
        clear H
        have H := H1
        clear H1
        simp only [Option.some.injEq, Prod.mk.injEq] at H
        obtain ⟨rfl, rfl⟩ := H
        go_wp2
        go_ret2
        exact ⟨by first | rfl | (simp [errW_none, errW_some] <;> rfl) | (simp [*, errW_none, errW_some] <;> rfl), by repeat (first | (with_reducible first | exact HB.out | apply below_alloc | apply pw_below_drewN | apply below_drew1 | refine below_set ?_ GE106.out) | exact HB.out)⟩
      · replace c7 := Bool.eq_false_iff.mpr c7
        subst c7
        have H1 : (if a0_0 = 0 then ((conn_either.f a0_1 5 6).bind fun t107 => (some (t107, true))) else (if a0_0 = 1 then ((conn_either.f a0_1 5 6).bind fun t108 => (some (t108, true))) else (if a0_0 = 2 then ((conn_either.f a0_1 5 6).bind fun t109 => (some (t109, true))) else (if a0_0 = 3 then ((conn_either.f a0_1 5 6).bind fun t110 => (some (t110, true))) else (if a0_0 = 4 then ((conn_either.f a0_1 5 6).bind fun t111 => (some (t111, true))) else (some (0, false))))))) = some (r1, r2) := by rw [if_neg (show ¬ (false = true) by decide)] at H; exact H
        clear H
        have H := H1
        clear H1
        by_cases c8 : a0_0 = 0
        · rw [if_pos c8] at H
          have c8b0 : (a0_0 == 0) = true := beq_iff_eq.mpr c8
          have c8b1 : (a0_0 != 0) = false := bne_eq_false_iff_eq.mpr c8
          clear c8
          replace H := Option.bind_eq_some_iff.mp H
          obtain ⟨t107, A90, H⟩ := H
          replace H : (some (t107, true)) = some (r1, r2) := H
          have A9 := Aside0.mk A90
          clear A90
          simp only [Option.some.injEq, Prod.mk.injEq] at H
          obtain ⟨rfl, rfl⟩ := H
          have hcz10_0 : wc.cell? ⟨gb106, 0, none⟩ = some (.int .i64 a0_0) := (blk_cell BK106.out 0).trans rfl
          have hcz10_1 : wc.cell? ⟨gb106, 1, none⟩ = some (.bool a0_1) := (blk_cell BK106.out 1).trans rfl
          have hfz10_0 := blk_frozen BK106.out 0
          have hfz10_1 := blk_frozen BK106.out 1
          go_wp2_with (first | ((with_reducible refine gate_callee (f := 16) rfl ?_); refine goesL_ (some 22) rfl rfl Try.func16 (by kernel_rfl) rfl #[.bool a0_1, .int .i64 5, .int .i64 6] rfl (by (try simp only [List.map_toArray, List.map_cons, List.map_nil]); first | done | rfl | (simp only [List.length_drop, List.length_take]; rfl)) ?_; (with_reducible refine (conn_either.calls a0_1 5 6 t107 _ A9.out).mono ?_); rintro e w' ⟨rfl, ⟨nd, rfl⟩⟩; refine ⟨_, rfl, ?_⟩))
          go_ret2
          exact ⟨by first | rfl | (simp [errW_none, errW_some] <;> rfl) | (simp [*, errW_none, errW_some] <;> rfl), by repeat (first | (with_reducible first | exact HB.out | apply below_alloc | apply pw_below_drewN | apply below_drew1 | refine below_set ?_ GE106.out) | exact HB.out)⟩
        · rw [if_neg c8] at H
          have c8b0 : (a0_0 == 0) = false := beq_eq_false_iff_ne.mpr c8
          have c8b1 : (a0_0 != 0) = true := bne_iff_ne.mpr c8
          by_cases c11 : a0_0 = 1
          · rw [if_pos c11] at H
            have c11b0 : (a0_0 == 1) = true := beq_iff_eq.mpr c11
            have c11b1 : (a0_0 != 1) = false := bne_eq_false_iff_eq.mpr c11
            clear c11
            replace H := Option.bind_eq_some_iff.mp H
            obtain ⟨t108, A120, H⟩ := H
            replace H : (some (t108, true)) = some (r1, r2) := H
            have A12 := Aside0.mk A120
            clear A120
            simp only [Option.some.injEq, Prod.mk.injEq] at H
            obtain ⟨rfl, rfl⟩ := H
            have hcz13_0 : wc.cell? ⟨gb106, 0, none⟩ = some (.int .i64 a0_0) := (blk_cell BK106.out 0).trans rfl
            have hcz13_1 : wc.cell? ⟨gb106, 1, none⟩ = some (.bool a0_1) := (blk_cell BK106.out 1).trans rfl
            have hfz13_0 := blk_frozen BK106.out 0
            have hfz13_1 := blk_frozen BK106.out 1
            go_wp2_with (first | ((with_reducible refine gate_callee (f := 16) rfl ?_); refine goesL_ (some 22) rfl rfl Try.func16 (by kernel_rfl) rfl #[.bool a0_1, .int .i64 5, .int .i64 6] rfl (by (try simp only [List.map_toArray, List.map_cons, List.map_nil]); first | done | rfl | (simp only [List.length_drop, List.length_take]; rfl)) ?_; (with_reducible refine (conn_either.calls a0_1 5 6 t108 _ A12.out).mono ?_); rintro e w' ⟨rfl, ⟨nd, rfl⟩⟩; refine ⟨_, rfl, ?_⟩))
            go_ret2
            exact ⟨by first | rfl | (simp [errW_none, errW_some] <;> rfl) | (simp [*, errW_none, errW_some] <;> rfl), by repeat (first | (with_reducible first | exact HB.out | apply below_alloc | apply pw_below_drewN | apply below_drew1 | refine below_set ?_ GE106.out) | exact HB.out)⟩
          · rw [if_neg c11] at H
            have c11b0 : (a0_0 == 1) = false := beq_eq_false_iff_ne.mpr c11
            have c11b1 : (a0_0 != 1) = true := bne_iff_ne.mpr c11
            by_cases c14 : a0_0 = 2
            · rw [if_pos c14] at H
              have c14b0 : (a0_0 == 2) = true := beq_iff_eq.mpr c14
              have c14b1 : (a0_0 != 2) = false := bne_eq_false_iff_eq.mpr c14
              clear c14
              replace H := Option.bind_eq_some_iff.mp H
              obtain ⟨t109, A150, H⟩ := H
              replace H : (some (t109, true)) = some (r1, r2) := H
              have A15 := Aside0.mk A150
              clear A150
              simp only [Option.some.injEq, Prod.mk.injEq] at H
              obtain ⟨rfl, rfl⟩ := H
              have hcz16_0 : wc.cell? ⟨gb106, 0, none⟩ = some (.int .i64 a0_0) := (blk_cell BK106.out 0).trans rfl
              have hcz16_1 : wc.cell? ⟨gb106, 1, none⟩ = some (.bool a0_1) := (blk_cell BK106.out 1).trans rfl
              have hfz16_0 := blk_frozen BK106.out 0
              have hfz16_1 := blk_frozen BK106.out 1
              go_wp2_with (first | ((with_reducible refine gate_callee (f := 16) rfl ?_); refine goesL_ (some 22) rfl rfl Try.func16 (by kernel_rfl) rfl #[.bool a0_1, .int .i64 5, .int .i64 6] rfl (by (try simp only [List.map_toArray, List.map_cons, List.map_nil]); first | done | rfl | (simp only [List.length_drop, List.length_take]; rfl)) ?_; (with_reducible refine (conn_either.calls a0_1 5 6 t109 _ A15.out).mono ?_); rintro e w' ⟨rfl, ⟨nd, rfl⟩⟩; refine ⟨_, rfl, ?_⟩))
              go_ret2
              exact ⟨by first | rfl | (simp [errW_none, errW_some] <;> rfl) | (simp [*, errW_none, errW_some] <;> rfl), by repeat (first | (with_reducible first | exact HB.out | apply below_alloc | apply pw_below_drewN | apply below_drew1 | refine below_set ?_ GE106.out) | exact HB.out)⟩
            · rw [if_neg c14] at H
              have c14b0 : (a0_0 == 2) = false := beq_eq_false_iff_ne.mpr c14
              have c14b1 : (a0_0 != 2) = true := bne_iff_ne.mpr c14
              by_cases c17 : a0_0 = 3
              · rw [if_pos c17] at H
                have c17b0 : (a0_0 == 3) = true := beq_iff_eq.mpr c17
                have c17b1 : (a0_0 != 3) = false := bne_eq_false_iff_eq.mpr c17
                clear c17
                replace H := Option.bind_eq_some_iff.mp H
                obtain ⟨t110, A180, H⟩ := H
                replace H : (some (t110, true)) = some (r1, r2) := H
                have A18 := Aside0.mk A180
                clear A180
                simp only [Option.some.injEq, Prod.mk.injEq] at H
                obtain ⟨rfl, rfl⟩ := H
                have hcz19_0 : wc.cell? ⟨gb106, 0, none⟩ = some (.int .i64 a0_0) := (blk_cell BK106.out 0).trans rfl
                have hcz19_1 : wc.cell? ⟨gb106, 1, none⟩ = some (.bool a0_1) := (blk_cell BK106.out 1).trans rfl
                have hfz19_0 := blk_frozen BK106.out 0
                have hfz19_1 := blk_frozen BK106.out 1
                go_wp2_with (first | ((with_reducible refine gate_callee (f := 16) rfl ?_); refine goesL_ (some 22) rfl rfl Try.func16 (by kernel_rfl) rfl #[.bool a0_1, .int .i64 5, .int .i64 6] rfl (by (try simp only [List.map_toArray, List.map_cons, List.map_nil]); first | done | rfl | (simp only [List.length_drop, List.length_take]; rfl)) ?_; (with_reducible refine (conn_either.calls a0_1 5 6 t110 _ A18.out).mono ?_); rintro e w' ⟨rfl, ⟨nd, rfl⟩⟩; refine ⟨_, rfl, ?_⟩))
                go_ret2
                exact ⟨by first | rfl | (simp [errW_none, errW_some] <;> rfl) | (simp [*, errW_none, errW_some] <;> rfl), by repeat (first | (with_reducible first | exact HB.out | apply below_alloc | apply pw_below_drewN | apply below_drew1 | refine below_set ?_ GE106.out) | exact HB.out)⟩
              · rw [if_neg c17] at H
                have c17b0 : (a0_0 == 3) = false := beq_eq_false_iff_ne.mpr c17
                have c17b1 : (a0_0 != 3) = true := bne_iff_ne.mpr c17
                by_cases c20 : a0_0 = 4
                · rw [if_pos c20] at H
                  have c20b0 : (a0_0 == 4) = true := beq_iff_eq.mpr c20
                  have c20b1 : (a0_0 != 4) = false := bne_eq_false_iff_eq.mpr c20
                  clear c20
                  replace H := Option.bind_eq_some_iff.mp H
                  obtain ⟨t111, A210, H⟩ := H
                  replace H : (some (t111, true)) = some (r1, r2) := H
                  have A21 := Aside0.mk A210
                  clear A210
                  simp only [Option.some.injEq, Prod.mk.injEq] at H
                  obtain ⟨rfl, rfl⟩ := H
                  have hcz22_0 : wc.cell? ⟨gb106, 0, none⟩ = some (.int .i64 a0_0) := (blk_cell BK106.out 0).trans rfl
                  have hcz22_1 : wc.cell? ⟨gb106, 1, none⟩ = some (.bool a0_1) := (blk_cell BK106.out 1).trans rfl
                  have hfz22_0 := blk_frozen BK106.out 0
                  have hfz22_1 := blk_frozen BK106.out 1
                  go_wp2_with (first | ((with_reducible refine gate_callee (f := 16) rfl ?_); refine goesL_ (some 22) rfl rfl Try.func16 (by kernel_rfl) rfl #[.bool a0_1, .int .i64 5, .int .i64 6] rfl (by (try simp only [List.map_toArray, List.map_cons, List.map_nil]); first | done | rfl | (simp only [List.length_drop, List.length_take]; rfl)) ?_; (with_reducible refine (conn_either.calls a0_1 5 6 t111 _ A21.out).mono ?_); rintro e w' ⟨rfl, ⟨nd, rfl⟩⟩; refine ⟨_, rfl, ?_⟩))
                  go_ret2
                  exact ⟨by first | rfl | (simp [errW_none, errW_some] <;> rfl) | (simp [*, errW_none, errW_some] <;> rfl), by repeat (first | (with_reducible first | exact HB.out | apply below_alloc | apply pw_below_drewN | apply below_drew1 | refine below_set ?_ GE106.out) | exact HB.out)⟩
                · rw [if_neg c20] at H
                  have c20b0 : (a0_0 == 4) = false := beq_eq_false_iff_ne.mpr c20
                  have c20b1 : (a0_0 != 4) = true := bne_iff_ne.mpr c20
                  simp only [Option.some.injEq, Prod.mk.injEq] at H
                  obtain ⟨rfl, rfl⟩ := H
                  have hcz23_0 : wc.cell? ⟨gb106, 0, none⟩ = some (.int .i64 a0_0) := (blk_cell BK106.out 0).trans rfl
                  have hcz23_1 : wc.cell? ⟨gb106, 1, none⟩ = some (.bool a0_1) := (blk_cell BK106.out 1).trans rfl
                  have hfz23_0 := blk_frozen BK106.out 0
                  have hfz23_1 := blk_frozen BK106.out 1
                  go_wp2
                  go_ret2
                  exact ⟨by first | rfl | (simp [errW_none, errW_some] <;> rfl) | (simp [*, errW_none, errW_some] <;> rfl), by repeat (first | (with_reducible first | exact HB.out | apply below_alloc | apply pw_below_drewN | apply below_drew1 | refine below_set ?_ GE106.out) | exact HB.out)⟩

/-! ### conn_Next: function 9 -/
mutual
def conn_Next.j0 : Nat → Int → Bool → Int → Bool → Option (Int)
  | 0, _, _, _, _ => none
  | k + 1, x0, x1, x2, x17 => if x17 = true then (conn_Next.j1 k 0 x1 x2) else (conn_Next.j1 k x0 x1 x2)
def conn_Next.j1 : Nat → Int → Bool → Int → Option (Int)
  | 0, _, _, _ => none
  | k + 1, x0, x1, x2 => if (Go.bits .and .i64 x2 4) = 0 then (if (Go.bits .and .i64 x2 2) = 0 then (conn_Next.j2 k x0 x2 x0 x1) else ((conn_begins.f k x0 x1).bind fun bt113 => (if bt113.2 = true then (some bt113.1) else (conn_Next.j2 k x0 x2 x0 x1)))) else (some 8)
def conn_Next.j2 : Nat → Int → Int → Int → Bool → Option (Int)
  | 0, _, _, _, _ => none
  | k + 1, x0, x2, x113000, x113001 => if (Go.bits .and .i64 x2 1) = 0 then (if (Go.bits .and .i64 x2 3) = 0 then (if x0 = 0 then (some 1) else (some x0)) else (some x0)) else ((conn_ends.f k x113000 x113001).bind fun bt115 => (if bt115.2 = true then (some bt115.1) else (if (Go.bits .and .i64 x2 3) = 0 then (if x0 = 0 then (some 1) else (some x0)) else (some x0))))
end
def conn_Next.f (k : Nat) (a0 : Int) (a1 : Bool) (a2 : Int) : Option (Int) := if a0 < 0 then (conn_Next.j0 k a0 a1 a2 true) else (conn_Next.j0 k a0 a1 a2 (decide (a0 > 8)))
theorem conn_Next.mono_l : ∀ k, (∀ y0 y1 y2 y3, LeO (conn_Next.j0 k y0 y1 y2 y3) (conn_Next.j0 (k + 1) y0 y1 y2 y3)) ∧ (∀ y0 y1 y2, LeO (conn_Next.j1 k y0 y1 y2) (conn_Next.j1 (k + 1) y0 y1 y2)) ∧ (∀ y0 y1 y2 y3, LeO (conn_Next.j2 k y0 y1 y2 y3) (conn_Next.j2 (k + 1) y0 y1 y2 y3))
  | 0 => ⟨fun _ _ _ _ r h => by simp [conn_Next.j0] at h, fun _ _ _ r h => by simp [conn_Next.j1] at h, fun _ _ _ _ r h => by simp [conn_Next.j2] at h⟩
  | k + 1 => by
    obtain ⟨ih0, ih1, ih2⟩ := conn_Next.mono_l k
    refine ⟨?_, ?_, ?_⟩
    · intro y0 y1 y2 y3
      unfold conn_Next.j0
      repeat' first
      | (with_reducible exact ih0 _ _ _ _)
      | (with_reducible exact ih1 _ _ _)
      | (with_reducible exact ih2 _ _ _ _)
      | (with_reducible exact conn_begins.mono _ _ _)
      | (with_reducible exact conn_ends.mono _ _ _)
      | (with_reducible exact LeO.refl _)
      | (with_reducible exact LeO.none _)
      | (with_reducible refine LeO.ite ?_ ?_)
      | (with_reducible refine LeO.bind ?_ (fun _ => ?_))
      | exact ih0 _ _ _ _
      | exact ih1 _ _ _
      | exact ih2 _ _ _ _
      | exact conn_begins.mono _ _ _
      | exact conn_ends.mono _ _ _
      | exact LeO.none _
      | refine LeO.ite ?_ ?_
      | refine LeO.bind ?_ (fun _ => ?_)
    · intro y0 y1 y2
      unfold conn_Next.j1
      repeat' first
      | (with_reducible exact ih0 _ _ _ _)
      | (with_reducible exact ih1 _ _ _)
      | (with_reducible exact ih2 _ _ _ _)
      | (with_reducible exact conn_begins.mono _ _ _)
      | (with_reducible exact conn_ends.mono _ _ _)
      | (with_reducible exact LeO.refl _)
      | (with_reducible exact LeO.none _)
      | (with_reducible refine LeO.ite ?_ ?_)
      | (with_reducible refine LeO.bind ?_ (fun _ => ?_))
      | exact ih0 _ _ _ _
      | exact ih1 _ _ _
      | exact ih2 _ _ _ _
      | exact conn_begins.mono _ _ _
      | exact conn_ends.mono _ _ _
      | exact LeO.none _
      | refine LeO.ite ?_ ?_
      | refine LeO.bind ?_ (fun _ => ?_)
    · intro y0 y1 y2 y3
      unfold conn_Next.j2
      repeat' first
      | (with_reducible exact ih0 _ _ _ _)
      | (with_reducible exact ih1 _ _ _)
      | (with_reducible exact ih2 _ _ _ _)
      | (with_reducible exact conn_begins.mono _ _ _)
      | (with_reducible exact conn_ends.mono _ _ _)
      | (with_reducible exact LeO.refl _)
      | (with_reducible exact LeO.none _)
      | (with_reducible refine LeO.ite ?_ ?_)
      | (with_reducible refine LeO.bind ?_ (fun _ => ?_))
      | exact ih0 _ _ _ _
      | exact ih1 _ _ _
      | exact ih2 _ _ _ _
      | exact conn_begins.mono _ _ _
      | exact conn_ends.mono _ _ _
      | exact LeO.none _
      | refine LeO.ite ?_ ?_
      | refine LeO.bind ?_ (fun _ => ?_)
theorem conn_Next.mono : ∀ a0 a1 a2 k, LeO (conn_Next.f k a0 a1 a2) (conn_Next.f (k + 1) a0 a1 a2) := by
  intro a0 a1 a2 k
  obtain ⟨ih0, ih1, ih2⟩ := conn_Next.mono_l k
  unfold conn_Next.f
  repeat' first
      | (with_reducible exact ih0 _ _ _ _)
      | (with_reducible exact ih1 _ _ _)
      | (with_reducible exact ih2 _ _ _ _)
      | (with_reducible exact conn_begins.mono _ _ _)
      | (with_reducible exact conn_ends.mono _ _ _)
      | (with_reducible exact LeO.refl _)
      | (with_reducible exact LeO.none _)
      | (with_reducible refine LeO.ite ?_ ?_)
      | (with_reducible refine LeO.bind ?_ (fun _ => ?_))
      | exact ih0 _ _ _ _
      | exact ih1 _ _ _
      | exact ih2 _ _ _ _
      | exact conn_begins.mono _ _ _
      | exact conn_ends.mono _ _ _
      | exact LeO.none _
      | refine LeO.ite ?_ ?_
      | refine LeO.bind ?_ (fun _ => ?_)
set_option maxHeartbeats 8000000 in
set_option maxRecDepth 100000 in
theorem conn_Next.calls (k : Nat) (a0 : Int) (a1 : Bool) (a2 : Int) (r : Int) (w : World) (h : conn_Next.f k a0 a1 a2 = some r) :
    Calls Try.prog 9 #[.int .i64 a0, .bool a1, .int .i64 a2] w fun e w' => e = .returned (.int .i64 r) ∧ Below w.heap.size w w' := by
  have hu36 := Try.underlying36
  have HB := Aside0.mk (Below.refl w.heap.size w)
  have H : (if a0 < 0 then (conn_Next.j0 k a0 a1 a2 true) else (conn_Next.j0 k a0 a1 a2 (decide (a0 > 8)))) = some r := h
  clear h
  have HC4 := Aside0.mk H
  clear H
  go_enter Try.func9, Try.ntmps9
  go_upto_region 1 with (fail)
  go_cut [17] (fun v17 wc => ∃ (kq : Nat) (x17_3 : Bool), v17 = .bool x17_3 ∧ Aside0 (conn_Next.j0 kq a0 a1 a2 x17_3 = some r) ∧ Aside0 (kq ≤ k) ∧ Aside0 (Below w.heap.size w wc))
  case first =>
    have H := HC4.out
    clear HC4
    by_cases c5 : a0 < 0
    · rw [if_pos c5] at H
      have c5b0 : decide (a0 < 0) = true := decide_eq_true c5
      clear c5
      (first | rw [c5b0] | (simp only [i64_w, i32_w]; rw [c5b0]) | skip)
      have H' := Aside0.mk H
      clear H
      go_wp2
      go_meet
      case rel => exact ⟨_, (true), (by first | rfl | (simp; done) | (simp [*]; done)), H', ⟨by first | omega | exact Nat.le_refl _⟩, ⟨by repeat (first | (with_reducible first | exact HB.out | apply below_alloc | apply pw_below_drewN | apply below_drew1) | exact HB.out)⟩⟩
    · rw [if_neg c5] at H
      have c5b0 : decide (a0 < 0) = false := decide_eq_false c5
      clear c5
      (first | rw [c5b0] | (simp only [i64_w, i32_w]; rw [c5b0]) | skip)
      have H' := Aside0.mk H
      clear H
      go_wp2
      go_meet
      case rel => exact ⟨_, (decide (a0 > 8)), (by first | rfl | (simp; done) | (simp [*]; done)), H', ⟨by first | omega | exact Nat.le_refl _⟩, ⟨by repeat (first | (with_reducible first | exact HB.out | apply below_alloc | apply pw_below_drewN | apply below_drew1) | exact HB.out)⟩⟩
  case rest =>
    clear HC4
    try clear p2
    try clear c5
    try clear c5b0
    obtain ⟨kq, x17_3, rfl, HA, HJ3, HB⟩ := hcut
    cases kq with
    | zero => exact absurd HA.out (by simp [conn_Next.j0])
    | succ kj3 =>
      have H := HA.out
      clear HA
      simp only [conn_Next.j0] at H
      have HC6 := Aside0.mk H
      clear H
      go_upto_if 17 with (fail)
      go_cut [0] (fun v0 wc => ∃ (kq : Nat) (x0_5 : Int), v0 = .int .i64 x0_5 ∧ Aside0 (conn_Next.j1 kq x0_5 a1 a2 = some r) ∧ Aside0 (kq ≤ kj3) ∧ Aside0 (Below w.heap.size w wc))
      case first =>
        have H := HC6.out
        clear HC6
        by_cases c7 : x17_3 = true
        · subst c7
          have H1 : (conn_Next.j1 kj3 0 a1 a2) = some r := by rw [if_pos rfl] at H; exact H
          clear H
          have H := H1
          clear H1
          have H' := Aside0.mk H
          clear H
          go_wp2
          go_meet
          case rel => exact ⟨_, (0), (by first | rfl | (simp; done) | (simp [*]; done)), H', ⟨by have := HJ3.out; first | omega | exact Nat.le_refl _⟩, ⟨by repeat (first | (with_reducible first | exact HB.out | apply below_alloc | apply pw_below_drewN | apply below_drew1) | exact HB.out)⟩⟩
        · replace c7 := Bool.eq_false_iff.mpr c7
          subst c7
          have H1 : (conn_Next.j1 kj3 a0 a1 a2) = some r := by rw [if_neg (show ¬ (false = true) by decide)] at H; exact H
          clear H
          have H := H1
          clear H1
          have H' := Aside0.mk H
          clear H
          go_wp2
          go_meet
          case rel => exact ⟨_, (a0), (by first | rfl | (simp; done) | (simp [*]; done)), H', ⟨by have := HJ3.out; first | omega | exact Nat.le_refl _⟩, ⟨by repeat (first | (with_reducible first | exact HB.out | apply below_alloc | apply pw_below_drewN | apply below_drew1) | exact HB.out)⟩⟩
      case rest =>
        clear HC6
        try clear p2
        try clear c5
        try clear c5b0
        try clear c7
        try clear p2
        obtain ⟨kq, x0_5, rfl, HA, HJ5, HB⟩ := hcut
        cases kq with
        | zero => exact absurd HA.out (by simp [conn_Next.j1])
        | succ kj5 =>
          have H := HA.out
          clear HA
          simp only [conn_Next.j1] at H
          by_cases c8 : (Go.bits .and .i64 a2 4) = 0
          · rw [if_pos c8] at H
            have c8b0 : ((Go.bits .and .i64 a2 4) == 0) = true := beq_iff_eq.mpr c8
            have c8b1 : ((Go.bits .and .i64 a2 4) != 0) = false := bne_eq_false_iff_eq.mpr c8
            clear c8
            have HC9 := Aside0.mk H
            clear H
            go_upto_if 26 with (first | ((with_reducible refine gate_dst (N := 7) rfl ?_); refine box_event ?hg (N := 7) ?hd (cs := #[.int .i64 0, .bool false]) (t := 36) ?hr ?_; (case hd => rfl); (case hg => rfl); (case hr => first | (go_simp; done) | (go_simp; rfl)); intro gb112 hg w10 hbox hb; have n0_ := Aside0.mk (below_step (by repeat (first | (with_reducible first | exact HB.out | apply below_alloc | apply pw_below_drewN | apply below_drew1) | exact HB.out)) hb); have n1_ := Aside0.mk (hbox); have n2_ := Aside0.mk ((by rw [hg]; exact (below_size (by repeat (first | (with_reducible first | exact HB.out | apply below_alloc | apply pw_below_drewN | apply below_drew1) | exact HB.out))) : w.heap.size ≤ gb112)); have n3_ := Aside0.mk ((by rw [hg]; exact (below_size (by repeat (first | (with_reducible first | exact HB.out | apply below_alloc | apply pw_below_drewN | apply below_drew1) | exact HB.out))) : w.heap.size ≤ gb112)); clear HB; have HB := n0_; have BK112 := n1_; have GW112 := n2_; have GE112 := n3_; clear n0_ n1_ n2_ n3_; clear hb hbox hg; have hcz11_0 : w10.cell? ⟨gb112, 0, none⟩ = some (.int .i64 0) := (blk_cell BK112.out 0).trans rfl; have hcz11_1 : w10.cell? ⟨gb112, 1, none⟩ = some (.bool false) := (blk_cell BK112.out 1).trans rfl; have hfz11_0 := blk_frozen BK112.out 0; have hfz11_1 := blk_frozen BK112.out 1))
            (try simp only [Act.put, List.setIfInBounds_toArray, List.set_cons_zero, List.set_cons_succ])
            go_cut [] (fun wc => ∃ (kq : Nat), Aside0 (conn_Next.j2 kq x0_5 a2 x0_5 a1 = some r) ∧ Aside0 (kq ≤ kj5) ∧ Aside0 (wc.heap[gb112]? = some (.cells #[.int .i64 x0_5, .bool a1] 36 (0, 0))) ∧ Aside0 (Below w.heap.size w wc))
            case first =>
              have H := HC9.out
              clear HC9
              by_cases c12 : (Go.bits .and .i64 a2 2) = 0
              · rw [if_pos c12] at H
                have c12b0 : ((Go.bits .and .i64 a2 2) == 0) = true := beq_iff_eq.mpr c12
                have c12b1 : ((Go.bits .and .i64 a2 2) != 0) = false := bne_eq_false_iff_eq.mpr c12
                clear c12
                (first | rw [c12b0] | (simp only [i64_w, i32_w]; rw [c12b0]) | skip)
                have H' := Aside0.mk H
                clear H
                go_wp2
                go_meet
                case rel => exact ⟨_, H', ⟨by have := HJ3.out; have := HJ5.out; first | omega | exact Nat.le_refl _⟩, ⟨by (with_reducible repeat (first | refine blk_drewN ?_ _ | refine blk_drew ?_ | refine blk_alloc ?_ _)); refine blk_put (cs := #[.int .i64 x0_5, .bool false]) ?_ 1 _ rfl; (with_reducible repeat (first | refine blk_drewN ?_ _ | refine blk_drew ?_ | refine blk_alloc ?_ _)); refine blk_put (cs := #[.int .i64 0, .bool false]) ?_ 0 _ rfl; (with_reducible repeat (first | refine blk_drewN ?_ _ | refine blk_drew ?_ | refine blk_alloc ?_ _)); exact BK112.out⟩, ⟨by repeat (first | (with_reducible first | exact HB.out | apply below_alloc | apply pw_below_drewN | apply below_drew1 | refine below_set ?_ GE112.out) | exact HB.out)⟩⟩
              · rw [if_neg c12] at H
                have c12b0 : ((Go.bits .and .i64 a2 2) == 0) = false := beq_eq_false_iff_ne.mpr c12
                have c12b1 : ((Go.bits .and .i64 a2 2) != 0) = true := bne_iff_ne.mpr c12
                (first | rw [c12b0] | (simp only [i64_w, i32_w]; rw [c12b0]) | skip)
                replace H := Option.bind_eq_some_iff.mp H
                obtain ⟨⟨t113, t114⟩, A130, H⟩ := H
                replace H : (if t114 = true then (some t113) else (conn_Next.j2 kj5 x0_5 a2 x0_5 a1)) = some r := H
                have A13 := Aside0.mk A130
                clear A130
                by_cases c14 : t114 = true
                · subst c14
                  have H1 : (some t113) = some r := by rw [if_pos rfl] at H; exact H
                  clear H
                  have H := H1
                  clear H1
                  obtain rfl := Option.some.inj H
                  have hcz15_0 : w10.cell? ⟨gb112, 0, none⟩ = some (.int .i64 0) := (blk_cell BK112.out 0).trans rfl
                  have hcz15_1 : w10.cell? ⟨gb112, 1, none⟩ = some (.bool false) := (blk_cell BK112.out 1).trans rfl
                  have hfz15_0 := blk_frozen BK112.out 0
                  have hfz15_1 := blk_frozen BK112.out 1
                  go_wp2_with (first | ((with_reducible refine gate_callee (f := 13) rfl ?_); refine goesL_ (some 29) rfl rfl Try.func13 (by kernel_rfl) rfl #[.agg #[.int .i64 x0_5, .bool a1]] rfl (by (try simp only [List.map_toArray, List.map_cons, List.map_nil]); first | done | rfl | (simp only [List.length_drop, List.length_take]; rfl)) ?_; (with_reducible refine (conn_begins.calls kj5 x0_5 a1 t113 true _ A13.out).mono ?_); rintro e w16 ⟨rfl, hb⟩; refine ⟨_, rfl, ?_⟩; have n0_ := Aside0.mk (blk_below (g := gb112) (o := .cells #[.int .i64 x0_5, .bool a1] 36 (0, 0)) (by (with_reducible repeat (first | refine blk_drewN ?_ _ | refine blk_drew ?_ | refine blk_alloc ?_ _)); refine blk_put (cs := #[.int .i64 x0_5, .bool false]) ?_ 1 _ rfl; (with_reducible repeat (first | refine blk_drewN ?_ _ | refine blk_drew ?_ | refine blk_alloc ?_ _)); refine blk_put (cs := #[.int .i64 0, .bool false]) ?_ 0 _ rfl; (with_reducible repeat (first | refine blk_drewN ?_ _ | refine blk_drew ?_ | refine blk_alloc ?_ _)); exact BK112.out) hb); have n1_ := Aside0.mk (below_step (by repeat (first | (with_reducible first | exact HB.out | apply below_alloc | apply pw_below_drewN | apply below_drew1 | refine below_set ?_ GE112.out) | exact HB.out)) hb); clear BK112; clear HB; have BK112 := n0_; have HB := n1_; clear n0_ n1_; (try clear hb); (try clear hb2); (try clear hk); (try clear hi)))
                  go_ret
                  exact ⟨by first | rfl | (simp [errW_none, errW_some] <;> rfl) | (simp [*, errW_none, errW_some] <;> rfl), by repeat (first | (with_reducible first | exact HB.out | apply below_alloc | apply pw_below_drewN | apply below_drew1 | refine below_set ?_ GE112.out) | exact HB.out)⟩
                · replace c14 := Bool.eq_false_iff.mpr c14
                  subst c14
                  have H1 : (conn_Next.j2 kj5 x0_5 a2 x0_5 a1) = some r := by rw [if_neg (show ¬ (false = true) by decide)] at H; exact H
                  clear H
                  have H := H1
                  clear H1
                  have H' := Aside0.mk H
                  clear H
                  have hcz17_0 : w10.cell? ⟨gb112, 0, none⟩ = some (.int .i64 0) := (blk_cell BK112.out 0).trans rfl
                  have hcz17_1 : w10.cell? ⟨gb112, 1, none⟩ = some (.bool false) := (blk_cell BK112.out 1).trans rfl
                  have hfz17_0 := blk_frozen BK112.out 0
                  have hfz17_1 := blk_frozen BK112.out 1
                  go_wp2_with (first | ((with_reducible refine gate_callee (f := 13) rfl ?_); refine goesL_ (some 29) rfl rfl Try.func13 (by kernel_rfl) rfl #[.agg #[.int .i64 x0_5, .bool a1]] rfl (by (try simp only [List.map_toArray, List.map_cons, List.map_nil]); first | done | rfl | (simp only [List.length_drop, List.length_take]; rfl)) ?_; (with_reducible refine (conn_begins.calls kj5 x0_5 a1 t113 false _ A13.out).mono ?_); rintro e w18 ⟨rfl, hb⟩; refine ⟨_, rfl, ?_⟩; have n0_ := Aside0.mk (blk_below (g := gb112) (o := .cells #[.int .i64 x0_5, .bool a1] 36 (0, 0)) (by (with_reducible repeat (first | refine blk_drewN ?_ _ | refine blk_drew ?_ | refine blk_alloc ?_ _)); refine blk_put (cs := #[.int .i64 x0_5, .bool false]) ?_ 1 _ rfl; (with_reducible repeat (first | refine blk_drewN ?_ _ | refine blk_drew ?_ | refine blk_alloc ?_ _)); refine blk_put (cs := #[.int .i64 0, .bool false]) ?_ 0 _ rfl; (with_reducible repeat (first | refine blk_drewN ?_ _ | refine blk_drew ?_ | refine blk_alloc ?_ _)); exact BK112.out) hb); have n1_ := Aside0.mk (below_step (by repeat (first | (with_reducible first | exact HB.out | apply below_alloc | apply pw_below_drewN | apply below_drew1 | refine below_set ?_ GE112.out) | exact HB.out)) hb); clear BK112; clear HB; have BK112 := n0_; have HB := n1_; clear n0_ n1_; (try clear hb); (try clear hb2); (try clear hk); (try clear hi)))
                  go_meet
                  case rel => exact ⟨_, H', ⟨by have := HJ3.out; have := HJ5.out; first | omega | exact Nat.le_refl _⟩, ⟨by (with_reducible repeat (first | refine blk_drewN ?_ _ | refine blk_drew ?_ | refine blk_alloc ?_ _)); exact BK112.out⟩, ⟨by repeat (first | (with_reducible first | exact HB.out | apply below_alloc | apply pw_below_drewN | apply below_drew1 | refine below_set ?_ GE112.out) | exact HB.out)⟩⟩
            case rest =>
              clear HC9
              try clear c1
              try clear p2
              try clear c5
              try clear c5b0
              try clear c7
              try clear c8
              try clear c8b0
              try clear c8b1
              try clear c9
              try clear c12
              try clear c12b0
              try clear c12b1
              try clear c13
              try clear c14
              try clear hcz11_0
              try clear hcz11_1
              try clear hcz15_0
              try clear hcz15_1
              try clear hcz17_0
              try clear hcz17_1
              try clear hfz11_0
              try clear hfz11_1
              try clear hfz15_0
              try clear hfz15_1
              try clear hfz17_0
              try clear hfz17_1
              try clear p2
              obtain ⟨kq, HA, HJ8, BK112, HB⟩ := hcut
              cases kq with
              | zero => exact absurd HA.out (by simp [conn_Next.j2])
              | succ kj8 =>
                have H := HA.out
                clear HA
                simp only [conn_Next.j2] at H
                by_cases c19 : (Go.bits .and .i64 a2 1) = 0
                · rw [if_pos c19] at H
                  have c19b0 : ((Go.bits .and .i64 a2 1) == 0) = true := beq_iff_eq.mpr c19
                  have c19b1 : ((Go.bits .and .i64 a2 1) != 0) = false := bne_eq_false_iff_eq.mpr c19
                  clear c19
                  by_cases c20 : (Go.bits .and .i64 a2 3) = 0
                  · rw [if_pos c20] at H
                    have c20b0 : ((Go.bits .and .i64 a2 3) == 0) = true := beq_iff_eq.mpr c20
                    have c20b1 : ((Go.bits .and .i64 a2 3) != 0) = false := bne_eq_false_iff_eq.mpr c20
                    clear c20
                    by_cases c21 : x0_5 = 0
                    · rw [if_pos c21] at H
                      have c21b0 : (x0_5 == 0) = true := beq_iff_eq.mpr c21
                      have c21b1 : (x0_5 != 0) = false := bne_eq_false_iff_eq.mpr c21
                      clear c21
                      obtain rfl := Option.some.inj H
                      go_wp2
                      go_ret
                      exact ⟨by first | rfl | (simp [errW_none, errW_some] <;> rfl) | (simp [*, errW_none, errW_some] <;> rfl), by repeat (first | (with_reducible first | exact HB.out | apply below_alloc | apply pw_below_drewN | apply below_drew1 | refine below_set ?_ GE112.out) | exact HB.out)⟩
                    · rw [if_neg c21] at H
                      have c21b0 : (x0_5 == 0) = false := beq_eq_false_iff_ne.mpr c21
                      have c21b1 : (x0_5 != 0) = true := bne_iff_ne.mpr c21
                      obtain rfl := Option.some.inj H
                      go_wp2
                      go_ret
                      exact ⟨by first | rfl | (simp [errW_none, errW_some] <;> rfl) | (simp [*, errW_none, errW_some] <;> rfl), by repeat (first | (with_reducible first | exact HB.out | apply below_alloc | apply pw_below_drewN | apply below_drew1 | refine below_set ?_ GE112.out) | exact HB.out)⟩
                  · rw [if_neg c20] at H
                    have c20b0 : ((Go.bits .and .i64 a2 3) == 0) = false := beq_eq_false_iff_ne.mpr c20
                    have c20b1 : ((Go.bits .and .i64 a2 3) != 0) = true := bne_iff_ne.mpr c20
                    obtain rfl := Option.some.inj H
                    go_wp2
                    go_ret
                    exact ⟨by first | rfl | (simp [errW_none, errW_some] <;> rfl) | (simp [*, errW_none, errW_some] <;> rfl), by repeat (first | (with_reducible first | exact HB.out | apply below_alloc | apply pw_below_drewN | apply below_drew1 | refine below_set ?_ GE112.out) | exact HB.out)⟩
                · rw [if_neg c19] at H
                  have c19b0 : ((Go.bits .and .i64 a2 1) == 0) = false := beq_eq_false_iff_ne.mpr c19
                  have c19b1 : ((Go.bits .and .i64 a2 1) != 0) = true := bne_iff_ne.mpr c19
                  replace H := Option.bind_eq_some_iff.mp H
                  obtain ⟨⟨t115, t116⟩, A220, H⟩ := H
                  replace H : (if t116 = true then (some t115) else (if (Go.bits .and .i64 a2 3) = 0 then (if x0_5 = 0 then (some 1) else (some x0_5)) else (some x0_5))) = some r := H
                  have A22 := Aside0.mk A220
                  clear A220
                  by_cases c23 : t116 = true
                  · subst c23
                    have H1 : (some t115) = some r := by rw [if_pos rfl] at H; exact H
                    clear H
                    have H := H1
                    clear H1
                    obtain rfl := Option.some.inj H
                    have hcz24_0 : wc.cell? ⟨gb112, 0, none⟩ = some (.int .i64 x0_5) := (blk_cell BK112.out 0).trans rfl
                    have hcz24_1 : wc.cell? ⟨gb112, 1, none⟩ = some (.bool a1) := (blk_cell BK112.out 1).trans rfl
                    have hfz24_0 := blk_frozen BK112.out 0
                    have hfz24_1 := blk_frozen BK112.out 1
                    go_wp2_with (first | ((with_reducible refine gate_callee (f := 14) rfl ?_); refine goesL_ (some 39) rfl rfl Try.func14 (by kernel_rfl) rfl #[.agg #[.int .i64 x0_5, .bool a1]] rfl (by (try simp only [List.map_toArray, List.map_cons, List.map_nil]); first | done | rfl | (simp only [List.length_drop, List.length_take]; rfl)) ?_; (with_reducible refine (conn_ends.calls kj8 x0_5 a1 t115 true _ A22.out).mono ?_); rintro e w25 ⟨rfl, hb⟩; refine ⟨_, rfl, ?_⟩; have n0_ := Aside0.mk (blk_below (g := gb112) (o := .cells #[.int .i64 x0_5, .bool a1] 36 (0, 0)) (by (with_reducible repeat (first | refine blk_drewN ?_ _ | refine blk_drew ?_ | refine blk_alloc ?_ _)); exact BK112.out) hb); have n1_ := Aside0.mk (below_step (by repeat (first | (with_reducible first | exact HB.out | apply below_alloc | apply pw_below_drewN | apply below_drew1 | refine below_set ?_ GE112.out) | exact HB.out)) hb); clear BK112; clear HB; have BK112 := n0_; have HB := n1_; clear n0_ n1_; (try clear hb); (try clear hb2); (try clear hk); (try clear hi)))
                    go_ret
                    exact ⟨by first | rfl | (simp [errW_none, errW_some] <;> rfl) | (simp [*, errW_none, errW_some] <;> rfl), by repeat (first | (with_reducible first | exact HB.out | apply below_alloc | apply pw_below_drewN | apply below_drew1 | refine below_set ?_ GE112.out) | exact HB.out)⟩
                  · replace c23 := Bool.eq_false_iff.mpr c23
                    subst c23
                    have H1 : (if (Go.bits .and .i64 a2 3) = 0 then (if x0_5 = 0 then (some 1) else (some x0_5)) else (some x0_5)) = some r := by rw [if_neg (show ¬ (false = true) by decide)] at H; exact H
                    clear H
                    have H := H1
                    clear H1
                    by_cases c26 : (Go.bits .and .i64 a2 3) = 0
                    · rw [if_pos c26] at H
                      have c26b0 : ((Go.bits .and .i64 a2 3) == 0) = true := beq_iff_eq.mpr c26
                      have c26b1 : ((Go.bits .and .i64 a2 3) != 0) = false := bne_eq_false_iff_eq.mpr c26
                      clear c26
                      by_cases c27 : x0_5 = 0
                      · rw [if_pos c27] at H
                        have c27b0 : (x0_5 == 0) = true := beq_iff_eq.mpr c27
                        have c27b1 : (x0_5 != 0) = false := bne_eq_false_iff_eq.mpr c27
                        clear c27
                        obtain rfl := Option.some.inj H
                        have hcz28_0 : wc.cell? ⟨gb112, 0, none⟩ = some (.int .i64 x0_5) := (blk_cell BK112.out 0).trans rfl
                        have hcz28_1 : wc.cell? ⟨gb112, 1, none⟩ = some (.bool a1) := (blk_cell BK112.out 1).trans rfl
                        have hfz28_0 := blk_frozen BK112.out 0
                        have hfz28_1 := blk_frozen BK112.out 1
                        go_wp2_with (first | ((with_reducible refine gate_callee (f := 14) rfl ?_); refine goesL_ (some 39) rfl rfl Try.func14 (by kernel_rfl) rfl #[.agg #[.int .i64 x0_5, .bool a1]] rfl (by (try simp only [List.map_toArray, List.map_cons, List.map_nil]); first | done | rfl | (simp only [List.length_drop, List.length_take]; rfl)) ?_; (with_reducible refine (conn_ends.calls kj8 x0_5 a1 t115 false _ A22.out).mono ?_); rintro e w29 ⟨rfl, hb⟩; refine ⟨_, rfl, ?_⟩; have n0_ := Aside0.mk (blk_below (g := gb112) (o := .cells #[.int .i64 x0_5, .bool a1] 36 (0, 0)) (by (with_reducible repeat (first | refine blk_drewN ?_ _ | refine blk_drew ?_ | refine blk_alloc ?_ _)); exact BK112.out) hb); have n1_ := Aside0.mk (below_step (by repeat (first | (with_reducible first | exact HB.out | apply below_alloc | apply pw_below_drewN | apply below_drew1 | refine below_set ?_ GE112.out) | exact HB.out)) hb); clear BK112; clear HB; have BK112 := n0_; have HB := n1_; clear n0_ n1_; (try clear hb); (try clear hb2); (try clear hk); (try clear hi)))
                        go_ret
                        exact ⟨by first | rfl | (simp [errW_none, errW_some] <;> rfl) | (simp [*, errW_none, errW_some] <;> rfl), by repeat (first | (with_reducible first | exact HB.out | apply below_alloc | apply pw_below_drewN | apply below_drew1 | refine below_set ?_ GE112.out) | exact HB.out)⟩
                      · rw [if_neg c27] at H
                        have c27b0 : (x0_5 == 0) = false := beq_eq_false_iff_ne.mpr c27
                        have c27b1 : (x0_5 != 0) = true := bne_iff_ne.mpr c27
                        obtain rfl := Option.some.inj H
                        have hcz30_0 : wc.cell? ⟨gb112, 0, none⟩ = some (.int .i64 x0_5) := (blk_cell BK112.out 0).trans rfl
                        have hcz30_1 : wc.cell? ⟨gb112, 1, none⟩ = some (.bool a1) := (blk_cell BK112.out 1).trans rfl
                        have hfz30_0 := blk_frozen BK112.out 0
                        have hfz30_1 := blk_frozen BK112.out 1
                        go_wp2_with (first | ((with_reducible refine gate_callee (f := 14) rfl ?_); refine goesL_ (some 39) rfl rfl Try.func14 (by kernel_rfl) rfl #[.agg #[.int .i64 x0_5, .bool a1]] rfl (by (try simp only [List.map_toArray, List.map_cons, List.map_nil]); first | done | rfl | (simp only [List.length_drop, List.length_take]; rfl)) ?_; (with_reducible refine (conn_ends.calls kj8 x0_5 a1 t115 false _ A22.out).mono ?_); rintro e w31 ⟨rfl, hb⟩; refine ⟨_, rfl, ?_⟩; have n0_ := Aside0.mk (blk_below (g := gb112) (o := .cells #[.int .i64 x0_5, .bool a1] 36 (0, 0)) (by (with_reducible repeat (first | refine blk_drewN ?_ _ | refine blk_drew ?_ | refine blk_alloc ?_ _)); exact BK112.out) hb); have n1_ := Aside0.mk (below_step (by repeat (first | (with_reducible first | exact HB.out | apply below_alloc | apply pw_below_drewN | apply below_drew1 | refine below_set ?_ GE112.out) | exact HB.out)) hb); clear BK112; clear HB; have BK112 := n0_; have HB := n1_; clear n0_ n1_; (try clear hb); (try clear hb2); (try clear hk); (try clear hi)))
                        go_ret
                        exact ⟨by first | rfl | (simp [errW_none, errW_some] <;> rfl) | (simp [*, errW_none, errW_some] <;> rfl), by repeat (first | (with_reducible first | exact HB.out | apply below_alloc | apply pw_below_drewN | apply below_drew1 | refine below_set ?_ GE112.out) | exact HB.out)⟩
                    · rw [if_neg c26] at H
                      have c26b0 : ((Go.bits .and .i64 a2 3) == 0) = false := beq_eq_false_iff_ne.mpr c26
                      have c26b1 : ((Go.bits .and .i64 a2 3) != 0) = true := bne_iff_ne.mpr c26
                      obtain rfl := Option.some.inj H
                      have hcz32_0 : wc.cell? ⟨gb112, 0, none⟩ = some (.int .i64 x0_5) := (blk_cell BK112.out 0).trans rfl
                      have hcz32_1 : wc.cell? ⟨gb112, 1, none⟩ = some (.bool a1) := (blk_cell BK112.out 1).trans rfl
                      have hfz32_0 := blk_frozen BK112.out 0
                      have hfz32_1 := blk_frozen BK112.out 1
                      go_wp2_with (first | ((with_reducible refine gate_callee (f := 14) rfl ?_); refine goesL_ (some 39) rfl rfl Try.func14 (by kernel_rfl) rfl #[.agg #[.int .i64 x0_5, .bool a1]] rfl (by (try simp only [List.map_toArray, List.map_cons, List.map_nil]); first | done | rfl | (simp only [List.length_drop, List.length_take]; rfl)) ?_; (with_reducible refine (conn_ends.calls kj8 x0_5 a1 t115 false _ A22.out).mono ?_); rintro e w33 ⟨rfl, hb⟩; refine ⟨_, rfl, ?_⟩; have n0_ := Aside0.mk (blk_below (g := gb112) (o := .cells #[.int .i64 x0_5, .bool a1] 36 (0, 0)) (by (with_reducible repeat (first | refine blk_drewN ?_ _ | refine blk_drew ?_ | refine blk_alloc ?_ _)); exact BK112.out) hb); have n1_ := Aside0.mk (below_step (by repeat (first | (with_reducible first | exact HB.out | apply below_alloc | apply pw_below_drewN | apply below_drew1 | refine below_set ?_ GE112.out) | exact HB.out)) hb); clear BK112; clear HB; have BK112 := n0_; have HB := n1_; clear n0_ n1_; (try clear hb); (try clear hb2); (try clear hk); (try clear hi)))
                      go_ret
                      exact ⟨by first | rfl | (simp [errW_none, errW_some] <;> rfl) | (simp [*, errW_none, errW_some] <;> rfl), by repeat (first | (with_reducible first | exact HB.out | apply below_alloc | apply pw_below_drewN | apply below_drew1 | refine below_set ?_ GE112.out) | exact HB.out)⟩
          · rw [if_neg c8] at H
            have c8b0 : ((Go.bits .and .i64 a2 4) == 0) = false := beq_eq_false_iff_ne.mpr c8
            have c8b1 : ((Go.bits .and .i64 a2 4) != 0) = true := bne_iff_ne.mpr c8
            obtain rfl := Option.some.inj H
            go_wp2_with (first | ((with_reducible refine gate_dst (N := 7) rfl ?_); refine box_event ?hg (N := 7) ?hd (cs := #[.int .i64 0, .bool false]) (t := 36) ?hr ?_; (case hd => rfl); (case hg => rfl); (case hr => first | (go_simp; done) | (go_simp; rfl)); intro gb112 hg w34 hbox hb; have n0_ := Aside0.mk (below_step (by repeat (first | (with_reducible first | exact HB.out | apply below_alloc | apply pw_below_drewN | apply below_drew1) | exact HB.out)) hb); have n1_ := Aside0.mk (hbox); have n2_ := Aside0.mk ((by rw [hg]; exact (below_size (by repeat (first | (with_reducible first | exact HB.out | apply below_alloc | apply pw_below_drewN | apply below_drew1) | exact HB.out))) : w.heap.size ≤ gb112)); have n3_ := Aside0.mk ((by rw [hg]; exact (below_size (by repeat (first | (with_reducible first | exact HB.out | apply below_alloc | apply pw_below_drewN | apply below_drew1) | exact HB.out))) : w.heap.size ≤ gb112)); clear HB; have HB := n0_; have BK112 := n1_; have GW112 := n2_; have GE112 := n3_; clear n0_ n1_ n2_ n3_; clear hb hbox hg; have hcz35_0 : w34.cell? ⟨gb112, 0, none⟩ = some (.int .i64 0) := (blk_cell BK112.out 0).trans rfl; have hcz35_1 : w34.cell? ⟨gb112, 1, none⟩ = some (.bool false) := (blk_cell BK112.out 1).trans rfl; have hfz35_0 := blk_frozen BK112.out 0; have hfz35_1 := blk_frozen BK112.out 1))
            go_ret
            exact ⟨by first | rfl | (simp [errW_none, errW_some] <;> rfl) | (simp [*, errW_none, errW_some] <;> rfl), by repeat (first | (with_reducible first | exact HB.out | apply below_alloc | apply pw_below_drewN | apply below_drew1 | refine below_set ?_ GE112.out) | exact HB.out)⟩

end Go.Proofs.Ythdhdfhjimmkkaa.PConnKnown
