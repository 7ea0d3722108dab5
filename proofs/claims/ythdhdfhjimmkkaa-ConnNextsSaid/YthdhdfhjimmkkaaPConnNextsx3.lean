-- PRINTED BY print.sh 35421559b90ae4d0a3588c463048766b98c2df88dd9212a6774a882060cdf62d: not written by this session
import Derived.Test.YthdhdfhjimmkkaaPConnNextsx0
import Derived.Test.YthdhdfhjimmkkaaPConnNextsx2
namespace Go.Proofs.Ythdhdfhjimmkkaa.PConnNexts
open Go.RowKit Go.Proofs.YthdhdfhjimmkkaaW.PrintWords Go.Proofs.YthdhdfhjimmkkaaW.PrintLast Go.Proofs.YthdhdfhjimmkkaaW.PrintMore
attribute [local go_sem] max2_int min2_int max_two min_two max_three min_three max_four min_four   -- for this text's walks alone
set_option linter.unusedVariables false
set_option linter.unusedSimpArgs false

/-! ### bailiwicklaw20_awake: function 8 -/
def bailiwicklaw20_awake.f (k : Nat)  : Option (Bool) := (conn_Next.f k 0 true 2).bind fun t117 => ((conn_Next.f k t117 false 18).bind fun t118 => ((conn_Next.f k t118 true 17).bind fun t119 => (if t117 = 2 then (if t118 = 4 then (if t119 = 5 then ((conn_Next.f k t119 false 1).bind fun t120 => (some (t120 == 7))) else (some false)) else (some false)) else (some false))))
theorem bailiwicklaw20_awake.mono : ∀ k, LeO (bailiwicklaw20_awake.f k ) (bailiwicklaw20_awake.f (k + 1) ) := by
  intro  k
  unfold bailiwicklaw20_awake.f
  repeat' first
      | (with_reducible exact conn_Next.mono _ _ _ _)
      | (with_reducible exact LeO.refl _)
      | (with_reducible exact LeO.none _)
      | (with_reducible refine LeO.ite ?_ ?_)
      | (with_reducible refine LeO.bind ?_ (fun _ => ?_))
      | exact conn_Next.mono _ _ _ _
      | exact LeO.none _
      | refine LeO.ite ?_ ?_
      | refine LeO.bind ?_ (fun _ => ?_)
set_option maxHeartbeats 8000000 in
set_option maxRecDepth 100000 in
theorem bailiwicklaw20_awake.calls (k : Nat)  (r : Bool) (w : World) (h : bailiwicklaw20_awake.f k  = some r) :
    Calls Try.prog 8 #[] w fun e w' => e = .returned (.bool r) ∧ Below w.heap.size w w' := by
  have HB := Aside0.mk (Below.refl w.heap.size w)
  have H : ((conn_Next.f k 0 true 2).bind fun t117 => ((conn_Next.f k t117 false 18).bind fun t118 => ((conn_Next.f k t118 true 17).bind fun t119 => (if t117 = 2 then (if t118 = 4 then (if t119 = 5 then ((conn_Next.f k t119 false 1).bind fun t120 => (some (t120 == 7))) else (some false)) else (some false)) else (some false))))) = some r := h
  clear h
  replace H := Option.bind_eq_some_iff.mp H
  obtain ⟨t117, A10, H⟩ := H
  replace H : ((conn_Next.f k t117 false 18).bind fun t118 => ((conn_Next.f k t118 true 17).bind fun t119 => (if t117 = 2 then (if t118 = 4 then (if t119 = 5 then ((conn_Next.f k t119 false 1).bind fun t120 => (some (t120 == 7))) else (some false)) else (some false)) else (some false)))) = some r := H
  have A1 := Aside0.mk A10
  clear A10
  replace H := Option.bind_eq_some_iff.mp H
  obtain ⟨t118, A20, H⟩ := H
  replace H : ((conn_Next.f k t118 true 17).bind fun t119 => (if t117 = 2 then (if t118 = 4 then (if t119 = 5 then ((conn_Next.f k t119 false 1).bind fun t120 => (some (t120 == 7))) else (some false)) else (some false)) else (some false))) = some r := H
  have A2 := Aside0.mk A20
  clear A20
  replace H := Option.bind_eq_some_iff.mp H
  obtain ⟨t119, A30, H⟩ := H
  replace H : (if t117 = 2 then (if t118 = 4 then (if t119 = 5 then ((conn_Next.f k t119 false 1).bind fun t120 => (some (t120 == 7))) else (some false)) else (some false)) else (some false)) = some r := H
  have A3 := Aside0.mk A30
  clear A30
  by_cases c4 : t117 = 2
  · rw [if_pos c4] at H
    have c4b0 : (t117 == 2) = true := beq_iff_eq.mpr c4
    have c4b1 : (t117 != 2) = false := bne_eq_false_iff_eq.mpr c4
    clear c4
    by_cases c5 : t118 = 4
    · rw [if_pos c5] at H
      have c5b0 : (t118 == 4) = true := beq_iff_eq.mpr c5
      have c5b1 : (t118 != 4) = false := bne_eq_false_iff_eq.mpr c5
      clear c5
      by_cases c6 : t119 = 5
      · rw [if_pos c6] at H
        have c6b0 : (t119 == 5) = true := beq_iff_eq.mpr c6
        have c6b1 : (t119 != 5) = false := bne_eq_false_iff_eq.mpr c6
        clear c6
        replace H := Option.bind_eq_some_iff.mp H
        obtain ⟨t120, A70, H⟩ := H
        replace H : (some (t120 == 7)) = some r := H
        have A7 := Aside0.mk A70
        clear A70
        obtain rfl := Option.some.inj H
        go_enter Try.func8, Try.ntmps8
        go_wp2_with (first | ((with_reducible refine gate_callee (f := 9) rfl ?_); refine goesL_ (some 4) rfl rfl Try.func9 (by kernel_rfl) rfl #[.int .i64 0, .bool true, .int .i64 2] rfl (by (try simp only [List.map_toArray, List.map_cons, List.map_nil]); first | done | rfl | (simp only [List.length_drop, List.length_take]; rfl)) ?_; (with_reducible refine (conn_Next.calls k 0 true 2 t117 _ A1.out).mono ?_); rintro e w8 ⟨rfl, hb⟩; refine ⟨_, rfl, ?_⟩; have n0_ := Aside0.mk (below_step (by repeat (first | (with_reducible first | exact HB.out | apply below_alloc | apply pw_below_drewN | apply below_drew1) | exact HB.out)) hb); clear HB; have HB := n0_; clear n0_; (try clear hb); (try clear hb2); (try clear hk); (try clear hi)) | ((with_reducible refine gate_callee (f := 9) rfl ?_); refine goesL_ (some 6) rfl rfl Try.func9 (by kernel_rfl) rfl #[.int .i64 t117, .bool false, .int .i64 18] rfl (by (try simp only [List.map_toArray, List.map_cons, List.map_nil]); first | done | rfl | (simp only [List.length_drop, List.length_take]; rfl)) ?_; (with_reducible refine (conn_Next.calls k t117 false 18 t118 _ A2.out).mono ?_); rintro e w9 ⟨rfl, hb⟩; refine ⟨_, rfl, ?_⟩; have n0_ := Aside0.mk (below_step (by repeat (first | (with_reducible first | exact HB.out | apply below_alloc | apply pw_below_drewN | apply below_drew1) | exact HB.out)) hb); clear HB; have HB := n0_; clear n0_; (try clear hb); (try clear hb2); (try clear hk); (try clear hi)) | ((with_reducible refine gate_callee (f := 9) rfl ?_); refine goesL_ (some 8) rfl rfl Try.func9 (by kernel_rfl) rfl #[.int .i64 t118, .bool true, .int .i64 17] rfl (by (try simp only [List.map_toArray, List.map_cons, List.map_nil]); first | done | rfl | (simp only [List.length_drop, List.length_take]; rfl)) ?_; (with_reducible refine (conn_Next.calls k t118 true 17 t119 _ A3.out).mono ?_); rintro e w10 ⟨rfl, hb⟩; refine ⟨_, rfl, ?_⟩; have n0_ := Aside0.mk (below_step (by repeat (first | (with_reducible first | exact HB.out | apply below_alloc | apply pw_below_drewN | apply below_drew1) | exact HB.out)) hb); clear HB; have HB := n0_; clear n0_; (try clear hb); (try clear hb2); (try clear hk); (try clear hi)) | (go_at_call 9; (with_reducible refine (conn_Next.calls k t119 false 1 t120 _ A7.out).mono ?_); rintro e w11 ⟨rfl, hb⟩; have n0_ := Aside0.mk (below_step (by repeat (first | (with_reducible first | exact HB.out | apply below_alloc | apply pw_below_drewN | apply below_drew1) | exact HB.out)) hb); clear HB; have HB := n0_; clear n0_; (try clear hb); (try clear hb2); (try clear hk); (try clear hi)))
        go_ret
        exact ⟨by first | rfl | (simp [errW_none, errW_some] <;> rfl) | (simp [*, errW_none, errW_some] <;> rfl), by repeat (first | (with_reducible first | exact HB.out | apply below_alloc | apply pw_below_drewN | apply below_drew1) | exact HB.out)⟩
      · rw [if_neg c6] at H
        have c6b0 : (t119 == 5) = false := beq_eq_false_iff_ne.mpr c6
        have c6b1 : (t119 != 5) = true := bne_iff_ne.mpr c6
        obtain rfl := Option.some.inj H
        go_enter Try.func8, Try.ntmps8
        go_wp2_with (first | ((with_reducible refine gate_callee (f := 9) rfl ?_); refine goesL_ (some 4) rfl rfl Try.func9 (by kernel_rfl) rfl #[.int .i64 0, .bool true, .int .i64 2] rfl (by (try simp only [List.map_toArray, List.map_cons, List.map_nil]); first | done | rfl | (simp only [List.length_drop, List.length_take]; rfl)) ?_; (with_reducible refine (conn_Next.calls k 0 true 2 t117 _ A1.out).mono ?_); rintro e w12 ⟨rfl, hb⟩; refine ⟨_, rfl, ?_⟩; have n0_ := Aside0.mk (below_step (by repeat (first | (with_reducible first | exact HB.out | apply below_alloc | apply pw_below_drewN | apply below_drew1) | exact HB.out)) hb); clear HB; have HB := n0_; clear n0_; (try clear hb); (try clear hb2); (try clear hk); (try clear hi)) | ((with_reducible refine gate_callee (f := 9) rfl ?_); refine goesL_ (some 6) rfl rfl Try.func9 (by kernel_rfl) rfl #[.int .i64 t117, .bool false, .int .i64 18] rfl (by (try simp only [List.map_toArray, List.map_cons, List.map_nil]); first | done | rfl | (simp only [List.length_drop, List.length_take]; rfl)) ?_; (with_reducible refine (conn_Next.calls k t117 false 18 t118 _ A2.out).mono ?_); rintro e w13 ⟨rfl, hb⟩; refine ⟨_, rfl, ?_⟩; have n0_ := Aside0.mk (below_step (by repeat (first | (with_reducible first | exact HB.out | apply below_alloc | apply pw_below_drewN | apply below_drew1) | exact HB.out)) hb); clear HB; have HB := n0_; clear n0_; (try clear hb); (try clear hb2); (try clear hk); (try clear hi)) | ((with_reducible refine gate_callee (f := 9) rfl ?_); refine goesL_ (some 8) rfl rfl Try.func9 (by kernel_rfl) rfl #[.int .i64 t118, .bool true, .int .i64 17] rfl (by (try simp only [List.map_toArray, List.map_cons, List.map_nil]); first | done | rfl | (simp only [List.length_drop, List.length_take]; rfl)) ?_; (with_reducible refine (conn_Next.calls k t118 true 17 t119 _ A3.out).mono ?_); rintro e w14 ⟨rfl, hb⟩; refine ⟨_, rfl, ?_⟩; have n0_ := Aside0.mk (below_step (by repeat (first | (with_reducible first | exact HB.out | apply below_alloc | apply pw_below_drewN | apply below_drew1) | exact HB.out)) hb); clear HB; have HB := n0_; clear n0_; (try clear hb); (try clear hb2); (try clear hk); (try clear hi)))
        go_ret
        exact ⟨by first | rfl | (simp [errW_none, errW_some] <;> rfl) | (simp [*, errW_none, errW_some] <;> rfl), by repeat (first | (with_reducible first | exact HB.out | apply below_alloc | apply pw_below_drewN | apply below_drew1) | exact HB.out)⟩
    · rw [if_neg c5] at H
      have c5b0 : (t118 == 4) = false := beq_eq_false_iff_ne.mpr c5
      have c5b1 : (t118 != 4) = true := bne_iff_ne.mpr c5
      obtain rfl := Option.some.inj H
      go_enter Try.func8, Try.ntmps8
      go_wp2_with (first | ((with_reducible refine gate_callee (f := 9) rfl ?_); refine goesL_ (some 4) rfl rfl Try.func9 (by kernel_rfl) rfl #[.int .i64 0, .bool true, .int .i64 2] rfl (by (try simp only [List.map_toArray, List.map_cons, List.map_nil]); first | done | rfl | (simp only [List.length_drop, List.length_take]; rfl)) ?_; (with_reducible refine (conn_Next.calls k 0 true 2 t117 _ A1.out).mono ?_); rintro e w15 ⟨rfl, hb⟩; refine ⟨_, rfl, ?_⟩; have n0_ := Aside0.mk (below_step (by repeat (first | (with_reducible first | exact HB.out | apply below_alloc | apply pw_below_drewN | apply below_drew1) | exact HB.out)) hb); clear HB; have HB := n0_; clear n0_; (try clear hb); (try clear hb2); (try clear hk); (try clear hi)) | ((with_reducible refine gate_callee (f := 9) rfl ?_); refine goesL_ (some 6) rfl rfl Try.func9 (by kernel_rfl) rfl #[.int .i64 t117, .bool false, .int .i64 18] rfl (by (try simp only [List.map_toArray, List.map_cons, List.map_nil]); first | done | rfl | (simp only [List.length_drop, List.length_take]; rfl)) ?_; (with_reducible refine (conn_Next.calls k t117 false 18 t118 _ A2.out).mono ?_); rintro e w16 ⟨rfl, hb⟩; refine ⟨_, rfl, ?_⟩; have n0_ := Aside0.mk (below_step (by repeat (first | (with_reducible first | exact HB.out | apply below_alloc | apply pw_below_drewN | apply below_drew1) | exact HB.out)) hb); clear HB; have HB := n0_; clear n0_; (try clear hb); (try clear hb2); (try clear hk); (try clear hi)) | ((with_reducible refine gate_callee (f := 9) rfl ?_); refine goesL_ (some 8) rfl rfl Try.func9 (by kernel_rfl) rfl #[.int .i64 t118, .bool true, .int .i64 17] rfl (by (try simp only [List.map_toArray, List.map_cons, List.map_nil]); first | done | rfl | (simp only [List.length_drop, List.length_take]; rfl)) ?_; (with_reducible refine (conn_Next.calls k t118 true 17 t119 _ A3.out).mono ?_); rintro e w17 ⟨rfl, hb⟩; refine ⟨_, rfl, ?_⟩; have n0_ := Aside0.mk (below_step (by repeat (first | (with_reducible first | exact HB.out | apply below_alloc | apply pw_below_drewN | apply below_drew1) | exact HB.out)) hb); clear HB; have HB := n0_; clear n0_; (try clear hb); (try clear hb2); (try clear hk); (try clear hi)))
      go_ret
      exact ⟨by first | rfl | (simp [errW_none, errW_some] <;> rfl) | (simp [*, errW_none, errW_some] <;> rfl), by repeat (first | (with_reducible first | exact HB.out | apply below_alloc | apply pw_below_drewN | apply below_drew1) | exact HB.out)⟩
  · rw [if_neg c4] at H
    have c4b0 : (t117 == 2) = false := beq_eq_false_iff_ne.mpr c4
    have c4b1 : (t117 != 2) = true := bne_iff_ne.mpr c4
    obtain rfl := Option.some.inj H
    go_enter Try.func8, Try.ntmps8
    go_wp2_with (first | ((with_reducible refine gate_callee (f := 9) rfl ?_); refine goesL_ (some 4) rfl rfl Try.func9 (by kernel_rfl) rfl #[.int .i64 0, .bool true, .int .i64 2] rfl (by (try simp only [List.map_toArray, List.map_cons, List.map_nil]); first | done | rfl | (simp only [List.length_drop, List.length_take]; rfl)) ?_; (with_reducible refine (conn_Next.calls k 0 true 2 t117 _ A1.out).mono ?_); rintro e w18 ⟨rfl, hb⟩; refine ⟨_, rfl, ?_⟩; have n0_ := Aside0.mk (below_step (by repeat (first | (with_reducible first | exact HB.out | apply below_alloc | apply pw_below_drewN | apply below_drew1) | exact HB.out)) hb); clear HB; have HB := n0_; clear n0_; (try clear hb); (try clear hb2); (try clear hk); (try clear hi)) | ((with_reducible refine gate_callee (f := 9) rfl ?_); refine goesL_ (some 6) rfl rfl Try.func9 (by kernel_rfl) rfl #[.int .i64 t117, .bool false, .int .i64 18] rfl (by (try simp only [List.map_toArray, List.map_cons, List.map_nil]); first | done | rfl | (simp only [List.length_drop, List.length_take]; rfl)) ?_; (with_reducible refine (conn_Next.calls k t117 false 18 t118 _ A2.out).mono ?_); rintro e w19 ⟨rfl, hb⟩; refine ⟨_, rfl, ?_⟩; have n0_ := Aside0.mk (below_step (by repeat (first | (with_reducible first | exact HB.out | apply below_alloc | apply pw_below_drewN | apply below_drew1) | exact HB.out)) hb); clear HB; have HB := n0_; clear n0_; (try clear hb); (try clear hb2); (try clear hk); (try clear hi)) | ((with_reducible refine gate_callee (f := 9) rfl ?_); refine goesL_ (some 8) rfl rfl Try.func9 (by kernel_rfl) rfl #[.int .i64 t118, .bool true, .int .i64 17] rfl (by (try simp only [List.map_toArray, List.map_cons, List.map_nil]); first | done | rfl | (simp only [List.length_drop, List.length_take]; rfl)) ?_; (with_reducible refine (conn_Next.calls k t118 true 17 t119 _ A3.out).mono ?_); rintro e w20 ⟨rfl, hb⟩; refine ⟨_, rfl, ?_⟩; have n0_ := Aside0.mk (below_step (by repeat (first | (with_reducible first | exact HB.out | apply below_alloc | apply pw_below_drewN | apply below_drew1) | exact HB.out)) hb); clear HB; have HB := n0_; clear n0_; (try clear hb); (try clear hb2); (try clear hk); (try clear hi)))
    go_ret
    exact ⟨by first | rfl | (simp [errW_none, errW_some] <;> rfl) | (simp [*, errW_none, errW_some] <;> rfl), by repeat (first | (with_reducible first | exact HB.out | apply below_alloc | apply pw_below_drewN | apply below_drew1) | exact HB.out)⟩

/-! ### bailiwickref18_side: function 15 -/
def bailiwickref18_side.f (a0 : Bool) (a1 : Int) (a2 : Int) : Option (Int) := if a0 = true then (some a1) else (some a2)
set_option maxHeartbeats 8000000 in
set_option maxRecDepth 100000 in
theorem bailiwickref18_side.calls (a0 : Bool) (a1 : Int) (a2 : Int) (r : Int) (w : World) (h : bailiwickref18_side.f a0 a1 a2 = some r) :
    Calls Try.prog 15 #[.bool a0, .int .i64 a1, .int .i64 a2] w fun e w' => e = .returned (.int .i64 r) ∧ Drawn0 w w' := by
  have H : (if a0 = true then (some a1) else (some a2)) = some r := h
  clear h
  by_cases c4 : a0 = true
  · subst c4
    have H1 : (some a1) = some r := by rw [if_pos rfl] at H; exact H
    clear H
    have H := H1
    clear H1
    obtain rfl := Option.some.inj H
    go_enter Try.func15, Try.ntmps15
    go_wp2
    go_ret
    exact ⟨by first | rfl | (simp; done) | (simp [*]; done), by repeat (first | exact Drawn0.refl _ | apply Drawn0.step)⟩
  · replace c4 := Bool.eq_false_iff.mpr c4
    subst c4
    have H1 : (some a2) = some r := by rw [if_neg (show ¬ (false = true) by decide)] at H; exact H
    clear H
    have H := H1
    clear H1
    obtain rfl := Option.some.inj H
    go_enter Try.func15, Try.ntmps15
    go_wp2
    go_ret
    exact ⟨by first | rfl | (simp; done) | (simp [*]; done), by repeat (first | exact Drawn0.refl _ | apply Drawn0.step)⟩

/-! ### bailiwickref18_Next: function 10 -/
mutual
def bailiwickref18_Next.j0 : Nat → Int → Bool → Int → Bool → Option (Int)
  | 0, _, _, _, _ => none
  | k + 1, x0, x1, x2, x12 => if x12 = true then (bailiwickref18_Next.j1 k 0 x1 x2) else (bailiwickref18_Next.j1 k x0 x1 x2)
def bailiwickref18_Next.j1 : Nat → Int → Bool → Int → Option (Int)
  | 0, _, _, _ => none
  | k + 1, x0, x1, x2 => if (Go.bits .and .i64 x2 4) = 0 then (if (Go.bits .and .i64 x2 2) = 0 then (bailiwickref18_Next.j2 k x0 x1 x2) else ((bailiwickref18_side.f x1 3 2).bind fun t121 => (if x0 = t121 then (some 4) else (if x0 ≤ 1 then ((bailiwickref18_side.f x1 2 3).bind fun t122 => (some t122)) else (if x0 ≥ 7 then ((bailiwickref18_side.f x1 2 3).bind fun t123 => (some t123)) else (bailiwickref18_Next.j2 k x0 x1 x2)))))) else (some 8)
def bailiwickref18_Next.j2 : Nat → Int → Bool → Int → Option (Int)
  | 0, _, _, _ => none
  | k + 1, x0, x1, x2 => if (Go.bits .and .i64 x2 1) = 0 then (if (Go.bits .and .i64 x2 7) = 0 then (if x0 = 0 then (some 1) else (some x0)) else (some x0)) else ((bailiwickref18_side.f x1 6 5).bind fun t124 => (if x0 = t124 then (some 7) else (if x0 ≤ 4 then ((bailiwickref18_side.f x1 5 6).bind fun t125 => (some t125)) else (if (Go.bits .and .i64 x2 7) = 0 then (if x0 = 0 then (some 1) else (some x0)) else (some x0)))))
end
def bailiwickref18_Next.f (k : Nat) (a0 : Int) (a1 : Bool) (a2 : Int) : Option (Int) := if a0 < 0 then (bailiwickref18_Next.j0 k a0 a1 a2 true) else (bailiwickref18_Next.j0 k a0 a1 a2 (decide (a0 > 8)))
theorem bailiwickref18_Next.mono_l : ∀ k, (∀ y0 y1 y2 y3, LeO (bailiwickref18_Next.j0 k y0 y1 y2 y3) (bailiwickref18_Next.j0 (k + 1) y0 y1 y2 y3)) ∧ (∀ y0 y1 y2, LeO (bailiwickref18_Next.j1 k y0 y1 y2) (bailiwickref18_Next.j1 (k + 1) y0 y1 y2)) ∧ (∀ y0 y1 y2, LeO (bailiwickref18_Next.j2 k y0 y1 y2) (bailiwickref18_Next.j2 (k + 1) y0 y1 y2))
  | 0 => ⟨fun _ _ _ _ r h => by simp [bailiwickref18_Next.j0] at h, fun _ _ _ r h => by simp [bailiwickref18_Next.j1] at h, fun _ _ _ r h => by simp [bailiwickref18_Next.j2] at h⟩
  | k + 1 => by
    obtain ⟨ih0, ih1, ih2⟩ := bailiwickref18_Next.mono_l k
    refine ⟨?_, ?_, ?_⟩
    · intro y0 y1 y2 y3
      unfold bailiwickref18_Next.j0
      repeat' first
      | (with_reducible exact ih0 _ _ _ _)
      | (with_reducible exact ih1 _ _ _)
      | (with_reducible exact ih2 _ _ _)
      | (with_reducible exact LeO.refl _)
      | (with_reducible exact LeO.none _)
      | (with_reducible refine LeO.ite ?_ ?_)
      | (with_reducible refine LeO.bind ?_ (fun _ => ?_))
      | exact ih0 _ _ _ _
      | exact ih1 _ _ _
      | exact ih2 _ _ _
      | exact LeO.none _
      | refine LeO.ite ?_ ?_
      | refine LeO.bind ?_ (fun _ => ?_)
    · intro y0 y1 y2
      unfold bailiwickref18_Next.j1
      repeat' first
      | (with_reducible exact ih0 _ _ _ _)
      | (with_reducible exact ih1 _ _ _)
      | (with_reducible exact ih2 _ _ _)
      | (with_reducible exact LeO.refl _)
      | (with_reducible exact LeO.none _)
      | (with_reducible refine LeO.ite ?_ ?_)
      | (with_reducible refine LeO.bind ?_ (fun _ => ?_))
      | exact ih0 _ _ _ _
      | exact ih1 _ _ _
      | exact ih2 _ _ _
      | exact LeO.none _
      | refine LeO.ite ?_ ?_
      | refine LeO.bind ?_ (fun _ => ?_)
    · intro y0 y1 y2
      unfold bailiwickref18_Next.j2
      repeat' first
      | (with_reducible exact ih0 _ _ _ _)
      | (with_reducible exact ih1 _ _ _)
      | (with_reducible exact ih2 _ _ _)
      | (with_reducible exact LeO.refl _)
      | (with_reducible exact LeO.none _)
      | (with_reducible refine LeO.ite ?_ ?_)
      | (with_reducible refine LeO.bind ?_ (fun _ => ?_))
      | exact ih0 _ _ _ _
      | exact ih1 _ _ _
      | exact ih2 _ _ _
      | exact LeO.none _
      | refine LeO.ite ?_ ?_
      | refine LeO.bind ?_ (fun _ => ?_)
theorem bailiwickref18_Next.mono : ∀ a0 a1 a2 k, LeO (bailiwickref18_Next.f k a0 a1 a2) (bailiwickref18_Next.f (k + 1) a0 a1 a2) := by
  intro a0 a1 a2 k
  obtain ⟨ih0, ih1, ih2⟩ := bailiwickref18_Next.mono_l k
  unfold bailiwickref18_Next.f
  repeat' first
      | (with_reducible exact ih0 _ _ _ _)
      | (with_reducible exact ih1 _ _ _)
      | (with_reducible exact ih2 _ _ _)
      | (with_reducible exact LeO.refl _)
      | (with_reducible exact LeO.none _)
      | (with_reducible refine LeO.ite ?_ ?_)
      | (with_reducible refine LeO.bind ?_ (fun _ => ?_))
      | exact ih0 _ _ _ _
      | exact ih1 _ _ _
      | exact ih2 _ _ _
      | exact LeO.none _
      | refine LeO.ite ?_ ?_
      | refine LeO.bind ?_ (fun _ => ?_)
set_option maxHeartbeats 8000000 in
set_option maxRecDepth 100000 in
theorem bailiwickref18_Next.calls (k : Nat) (a0 : Int) (a1 : Bool) (a2 : Int) (r : Int) (w : World) (h : bailiwickref18_Next.f k a0 a1 a2 = some r) :
    Calls Try.prog 10 #[.int .i64 a0, .bool a1, .int .i64 a2] w fun e w' => e = .returned (.int .i64 r) ∧ Drawn0 w w' := by
  have H : (if a0 < 0 then (bailiwickref18_Next.j0 k a0 a1 a2 true) else (bailiwickref18_Next.j0 k a0 a1 a2 (decide (a0 > 8)))) = some r := h
  clear h
  have HC4 := Aside0.mk H
  clear H
  go_enter Try.func10, Try.ntmps10
  go_upto_region 1 with (fail)
  go_cut [12] (fun v12 wc => ∃ (kq : Nat) (x12_3 : Bool), v12 = .bool x12_3 ∧ Aside0 (bailiwickref18_Next.j0 kq a0 a1 a2 x12_3 = some r) ∧ Aside0 (kq ≤ k) ∧ Drawn0 w wc)
  case first =>
    have H := HC4.out
    clear HC4
    by_cases c5 : a0 < 0
    · rw [if_pos c5] at H
      have c5b0 : decide (a0 < 0) = true := decide_eq_true c5
      clear c5
      (first | rw [c5b0] | (simp only [i64_w, i32_w]; rw [c5b0]) | skip)
      have H' := Aside0.mk H
      clear H
      go_wp2
      go_meet
      case rel => exact ⟨_, (true), (by first | rfl | (simp; done) | (simp [*]; done)), H', ⟨by first | omega | exact Nat.le_refl _⟩, by repeat (first | exact Drawn0.refl _ | apply Drawn0.step)⟩
    · rw [if_neg c5] at H
      have c5b0 : decide (a0 < 0) = false := decide_eq_false c5
      clear c5
      (first | rw [c5b0] | (simp only [i64_w, i32_w]; rw [c5b0]) | skip)
      have H' := Aside0.mk H
      clear H
      go_wp2
      go_meet
      case rel => exact ⟨_, (decide (a0 > 8)), (by first | rfl | (simp; done) | (simp [*]; done)), H', ⟨by first | omega | exact Nat.le_refl _⟩, by repeat (first | exact Drawn0.refl _ | apply Drawn0.step)⟩
  case rest =>
    clear HC4
    try clear c1
    try clear p2
    try clear c5
    try clear c5b0
    obtain ⟨kq, x12_3, rfl, HA, HJ3, ⟨mc3, rfl⟩⟩ := hcut
    cases kq with
    | zero => exact absurd HA.out (by simp [bailiwickref18_Next.j0])
    | succ kj3 =>
      have H := HA.out
      clear HA
      simp only [bailiwickref18_Next.j0] at H
      have HC6 := Aside0.mk H
      clear H
      go_upto_if 12 with (fail)
      go_cut [0] (fun v0 wc => ∃ (kq : Nat) (x0_5 : Int), v0 = .int .i64 x0_5 ∧ Aside0 (bailiwickref18_Next.j1 kq x0_5 a1 a2 = some r) ∧ Aside0 (kq ≤ kj3) ∧ Drawn0 w wc)
      case first =>
        have H := HC6.out
        clear HC6
        by_cases c7 : x12_3 = true
        · subst c7
          have H1 : (bailiwickref18_Next.j1 kj3 0 a1 a2) = some r := by rw [if_pos rfl] at H; exact H
          clear H
          have H := H1
          clear H1
          have H' := Aside0.mk H
          clear H
          go_wp2
          go_meet
          case rel => exact ⟨_, (0), (by first | rfl | (simp; done) | (simp [*]; done)), H', ⟨by have := HJ3.out; first | omega | exact Nat.le_refl _⟩, by repeat (first | exact Drawn0.refl _ | apply Drawn0.step)⟩
        · replace c7 := Bool.eq_false_iff.mpr c7
          subst c7
          have H1 : (bailiwickref18_Next.j1 kj3 a0 a1 a2) = some r := by rw [if_neg (show ¬ (false = true) by decide)] at H; exact H
          clear H
          have H := H1
          clear H1
          have H' := Aside0.mk H
          clear H
          go_wp2
          go_meet
          case rel => exact ⟨_, (a0), (by first | rfl | (simp; done) | (simp [*]; done)), H', ⟨by have := HJ3.out; first | omega | exact Nat.le_refl _⟩, by repeat (first | exact Drawn0.refl _ | apply Drawn0.step)⟩
      case rest =>
        clear HC6
        try clear c1
        try clear p2
        try clear c3
        try clear c5
        try clear c5b0
        try clear c7
        try clear p2
        obtain ⟨kq, x0_5, rfl, HA, HJ5, ⟨mc5, rfl⟩⟩ := hcut
        cases kq with
        | zero => exact absurd HA.out (by simp [bailiwickref18_Next.j1])
        | succ kj5 =>
          have H := HA.out
          clear HA
          simp only [bailiwickref18_Next.j1] at H
          by_cases c8 : (Go.bits .and .i64 a2 4) = 0
          · rw [if_pos c8] at H
            have c8b0 : ((Go.bits .and .i64 a2 4) == 0) = true := beq_iff_eq.mpr c8
            have c8b1 : ((Go.bits .and .i64 a2 4) != 0) = false := bne_eq_false_iff_eq.mpr c8
            clear c8
            have HC9 := Aside0.mk H
            clear H
            go_upto_if 18 with (fail)
            go_cut [] (fun wc => ∃ (kq : Nat), Aside0 (bailiwickref18_Next.j2 kq x0_5 a1 a2 = some r) ∧ Aside0 (kq ≤ kj5) ∧ Drawn0 w wc)
            case first =>
              have H := HC9.out
              clear HC9
              by_cases c10 : (Go.bits .and .i64 a2 2) = 0
              · rw [if_pos c10] at H
                have c10b0 : ((Go.bits .and .i64 a2 2) == 0) = true := beq_iff_eq.mpr c10
                have c10b1 : ((Go.bits .and .i64 a2 2) != 0) = false := bne_eq_false_iff_eq.mpr c10
                clear c10
                (first | rw [c10b0] | (simp only [i64_w, i32_w]; rw [c10b0]) | skip)
                have H' := Aside0.mk H
                clear H
                go_wp2
                go_meet
                case rel => exact ⟨_, H', ⟨by have := HJ3.out; have := HJ5.out; first | omega | exact Nat.le_refl _⟩, by repeat (first | exact Drawn0.refl _ | apply Drawn0.step)⟩
              · rw [if_neg c10] at H
                have c10b0 : ((Go.bits .and .i64 a2 2) == 0) = false := beq_eq_false_iff_ne.mpr c10
                have c10b1 : ((Go.bits .and .i64 a2 2) != 0) = true := bne_iff_ne.mpr c10
                (first | rw [c10b0] | (simp only [i64_w, i32_w]; rw [c10b0]) | skip)
                replace H := Option.bind_eq_some_iff.mp H
                obtain ⟨t121, A110, H⟩ := H
                replace H : (if x0_5 = t121 then (some 4) else (if x0_5 ≤ 1 then ((bailiwickref18_side.f a1 2 3).bind fun t122 => (some t122)) else (if x0_5 ≥ 7 then ((bailiwickref18_side.f a1 2 3).bind fun t123 => (some t123)) else (bailiwickref18_Next.j2 kj5 x0_5 a1 a2)))) = some r := H
                have A11 := Aside0.mk A110
                clear A110
                by_cases c12 : x0_5 = t121
                · rw [if_pos c12] at H
                  have c12b0 : (x0_5 == t121) = true := beq_iff_eq.mpr c12
                  have c12b1 : (x0_5 != t121) = false := bne_eq_false_iff_eq.mpr c12
                  clear c12
                  obtain rfl := Option.some.inj H
                  go_wp2_with (first | ((with_reducible refine gate_callee (f := 15) rfl ?_); refine goesL_ (some 21) rfl rfl Try.func15 (by kernel_rfl) rfl #[.bool a1, .int .i64 3, .int .i64 2] rfl (by (try simp only [List.map_toArray, List.map_cons, List.map_nil]); first | done | rfl | (simp only [List.length_drop, List.length_take]; rfl)) ?_; (with_reducible refine (bailiwickref18_side.calls a1 3 2 t121 _ A11.out).mono ?_); rintro e w' ⟨rfl, ⟨nd, rfl⟩⟩; refine ⟨_, rfl, ?_⟩))
                  go_ret
                  exact ⟨by first | rfl | (simp; done) | (simp [*]; done), by repeat (first | exact Drawn0.refl _ | apply Drawn0.step)⟩
                · rw [if_neg c12] at H
                  have c12b0 : (x0_5 == t121) = false := beq_eq_false_iff_ne.mpr c12
                  have c12b1 : (x0_5 != t121) = true := bne_iff_ne.mpr c12
                  by_cases c13 : x0_5 ≤ 1
                  · rw [if_pos c13] at H
                    have c13b0 : decide (x0_5 ≤ 1) = true := decide_eq_true c13
                    clear c13
                    replace H := Option.bind_eq_some_iff.mp H
                    obtain ⟨t122, A140, H⟩ := H
                    replace H : (some t122) = some r := H
                    have A14 := Aside0.mk A140
                    clear A140
                    obtain rfl := Option.some.inj H
                    go_wp2_with (first | ((with_reducible refine gate_callee (f := 15) rfl ?_); refine goesL_ (some 21) rfl rfl Try.func15 (by kernel_rfl) rfl #[.bool a1, .int .i64 3, .int .i64 2] rfl (by (try simp only [List.map_toArray, List.map_cons, List.map_nil]); first | done | rfl | (simp only [List.length_drop, List.length_take]; rfl)) ?_; (with_reducible refine (bailiwickref18_side.calls a1 3 2 t121 _ A11.out).mono ?_); rintro e w' ⟨rfl, ⟨nd, rfl⟩⟩; refine ⟨_, rfl, ?_⟩) | ((with_reducible refine gate_callee (f := 15) rfl ?_); refine goesL_ (some 30) rfl rfl Try.func15 (by kernel_rfl) rfl #[.bool a1, .int .i64 2, .int .i64 3] rfl (by (try simp only [List.map_toArray, List.map_cons, List.map_nil]); first | done | rfl | (simp only [List.length_drop, List.length_take]; rfl)) ?_; (with_reducible refine (bailiwickref18_side.calls a1 2 3 t122 _ A14.out).mono ?_); rintro e w' ⟨rfl, ⟨nd, rfl⟩⟩; refine ⟨_, rfl, ?_⟩))
                    go_ret
                    exact ⟨by first | rfl | (simp; done) | (simp [*]; done), by repeat (first | exact Drawn0.refl _ | apply Drawn0.step)⟩
                  · rw [if_neg c13] at H
                    have c13b0 : decide (x0_5 ≤ 1) = false := decide_eq_false c13
                    clear c13
                    by_cases c15 : x0_5 ≥ 7
                    · rw [if_pos c15] at H
                      have c15b0 : decide (7 ≤ x0_5) = true := decide_eq_true c15
                      clear c15
                      replace H := Option.bind_eq_some_iff.mp H
                      obtain ⟨t123, A160, H⟩ := H
                      replace H : (some t123) = some r := H
                      have A16 := Aside0.mk A160
                      clear A160
                      obtain rfl := Option.some.inj H
                      go_wp2_with (first | ((with_reducible refine gate_callee (f := 15) rfl ?_); refine goesL_ (some 21) rfl rfl Try.func15 (by kernel_rfl) rfl #[.bool a1, .int .i64 3, .int .i64 2] rfl (by (try simp only [List.map_toArray, List.map_cons, List.map_nil]); first | done | rfl | (simp only [List.length_drop, List.length_take]; rfl)) ?_; (with_reducible refine (bailiwickref18_side.calls a1 3 2 t121 _ A11.out).mono ?_); rintro e w' ⟨rfl, ⟨nd, rfl⟩⟩; refine ⟨_, rfl, ?_⟩) | ((with_reducible refine gate_callee (f := 15) rfl ?_); refine goesL_ (some 30) rfl rfl Try.func15 (by kernel_rfl) rfl #[.bool a1, .int .i64 2, .int .i64 3] rfl (by (try simp only [List.map_toArray, List.map_cons, List.map_nil]); first | done | rfl | (simp only [List.length_drop, List.length_take]; rfl)) ?_; (with_reducible refine (bailiwickref18_side.calls a1 2 3 t123 _ A16.out).mono ?_); rintro e w' ⟨rfl, ⟨nd, rfl⟩⟩; refine ⟨_, rfl, ?_⟩))
                      go_ret
                      exact ⟨by first | rfl | (simp; done) | (simp [*]; done), by repeat (first | exact Drawn0.refl _ | apply Drawn0.step)⟩
                    · rw [if_neg c15] at H
                      have c15b0 : decide (7 ≤ x0_5) = false := decide_eq_false c15
                      clear c15
                      have H' := Aside0.mk H
                      clear H
                      go_wp2_with (first | ((with_reducible refine gate_callee (f := 15) rfl ?_); refine goesL_ (some 21) rfl rfl Try.func15 (by kernel_rfl) rfl #[.bool a1, .int .i64 3, .int .i64 2] rfl (by (try simp only [List.map_toArray, List.map_cons, List.map_nil]); first | done | rfl | (simp only [List.length_drop, List.length_take]; rfl)) ?_; (with_reducible refine (bailiwickref18_side.calls a1 3 2 t121 _ A11.out).mono ?_); rintro e w' ⟨rfl, ⟨nd, rfl⟩⟩; refine ⟨_, rfl, ?_⟩))
                      go_meet
                      case rel => exact ⟨_, H', ⟨by have := HJ3.out; have := HJ5.out; first | omega | exact Nat.le_refl _⟩, by repeat (first | exact Drawn0.refl _ | apply Drawn0.step)⟩
            case rest =>
              clear HC9
              try clear c1
              try clear p2
              try clear c3
              try clear c5
              try clear c5b0
              try clear c7
              try clear c8
              try clear c8b0
              try clear c8b1
              try clear c10
              try clear c10b0
              try clear c10b1
              try clear c12
              try clear c12b0
              try clear c12b1
              try clear c13
              try clear c13b0
              try clear c15
              try clear c15b0
              try clear p2
              obtain ⟨kq, HA, HJ8, ⟨mc8, rfl⟩⟩ := hcut
              cases kq with
              | zero => exact absurd HA.out (by simp [bailiwickref18_Next.j2])
              | succ kj8 =>
                have H := HA.out
                clear HA
                simp only [bailiwickref18_Next.j2] at H
                by_cases c17 : (Go.bits .and .i64 a2 1) = 0
                · rw [if_pos c17] at H
                  have c17b0 : ((Go.bits .and .i64 a2 1) == 0) = true := beq_iff_eq.mpr c17
                  have c17b1 : ((Go.bits .and .i64 a2 1) != 0) = false := bne_eq_false_iff_eq.mpr c17
                  clear c17
                  by_cases c18 : (Go.bits .and .i64 a2 7) = 0
                  · rw [if_pos c18] at H
                    have c18b0 : ((Go.bits .and .i64 a2 7) == 0) = true := beq_iff_eq.mpr c18
                    have c18b1 : ((Go.bits .and .i64 a2 7) != 0) = false := bne_eq_false_iff_eq.mpr c18
                    clear c18
                    by_cases c19 : x0_5 = 0
                    · rw [if_pos c19] at H
                      have c19b0 : (x0_5 == 0) = true := beq_iff_eq.mpr c19
                      have c19b1 : (x0_5 != 0) = false := bne_eq_false_iff_eq.mpr c19
                      clear c19
                      obtain rfl := Option.some.inj H
                      go_wp2
                      go_ret
                      exact ⟨by first | rfl | (simp; done) | (simp [*]; done), by repeat (first | exact Drawn0.refl _ | apply Drawn0.step)⟩
                    · rw [if_neg c19] at H
                      have c19b0 : (x0_5 == 0) = false := beq_eq_false_iff_ne.mpr c19
                      have c19b1 : (x0_5 != 0) = true := bne_iff_ne.mpr c19
                      obtain rfl := Option.some.inj H
                      go_wp2
                      go_ret
                      exact ⟨by first | rfl | (simp; done) | (simp [*]; done), by repeat (first | exact Drawn0.refl _ | apply Drawn0.step)⟩
                  · rw [if_neg c18] at H
                    have c18b0 : ((Go.bits .and .i64 a2 7) == 0) = false := beq_eq_false_iff_ne.mpr c18
                    have c18b1 : ((Go.bits .and .i64 a2 7) != 0) = true := bne_iff_ne.mpr c18
                    obtain rfl := Option.some.inj H
                    go_wp2
                    go_ret
                    exact ⟨by first | rfl | (simp; done) | (simp [*]; done), by repeat (first | exact Drawn0.refl _ | apply Drawn0.step)⟩
                · rw [if_neg c17] at H
                  have c17b0 : ((Go.bits .and .i64 a2 1) == 0) = false := beq_eq_false_iff_ne.mpr c17
                  have c17b1 : ((Go.bits .and .i64 a2 1) != 0) = true := bne_iff_ne.mpr c17
                  replace H := Option.bind_eq_some_iff.mp H
                  obtain ⟨t124, A200, H⟩ := H
                  replace H : (if x0_5 = t124 then (some 7) else (if x0_5 ≤ 4 then ((bailiwickref18_side.f a1 5 6).bind fun t125 => (some t125)) else (if (Go.bits .and .i64 a2 7) = 0 then (if x0_5 = 0 then (some 1) else (some x0_5)) else (some x0_5)))) = some r := H
                  have A20 := Aside0.mk A200
                  clear A200
                  by_cases c21 : x0_5 = t124
                  · rw [if_pos c21] at H
                    have c21b0 : (x0_5 == t124) = true := beq_iff_eq.mpr c21
                    have c21b1 : (x0_5 != t124) = false := bne_eq_false_iff_eq.mpr c21
                    clear c21
                    obtain rfl := Option.some.inj H
                    go_wp2_with (first | ((with_reducible refine gate_callee (f := 15) rfl ?_); refine goesL_ (some 36) rfl rfl Try.func15 (by kernel_rfl) rfl #[.bool a1, .int .i64 6, .int .i64 5] rfl (by (try simp only [List.map_toArray, List.map_cons, List.map_nil]); first | done | rfl | (simp only [List.length_drop, List.length_take]; rfl)) ?_; (with_reducible refine (bailiwickref18_side.calls a1 6 5 t124 _ A20.out).mono ?_); rintro e w' ⟨rfl, ⟨nd, rfl⟩⟩; refine ⟨_, rfl, ?_⟩))
                    go_ret
                    exact ⟨by first | rfl | (simp; done) | (simp [*]; done), by repeat (first | exact Drawn0.refl _ | apply Drawn0.step)⟩
                  · rw [if_neg c21] at H
                    have c21b0 : (x0_5 == t124) = false := beq_eq_false_iff_ne.mpr c21
                    have c21b1 : (x0_5 != t124) = true := bne_iff_ne.mpr c21
                    by_cases c22 : x0_5 ≤ 4
                    · rw [if_pos c22] at H
                      have c22b0 : decide (x0_5 ≤ 4) = true := decide_eq_true c22
                      clear c22
                      replace H := Option.bind_eq_some_iff.mp H
                      obtain ⟨t125, A230, H⟩ := H
                      replace H : (some t125) = some r := H
                      have A23 := Aside0.mk A230
                      clear A230
                      obtain rfl := Option.some.inj H
                      go_wp2_with (first | ((with_reducible refine gate_callee (f := 15) rfl ?_); refine goesL_ (some 36) rfl rfl Try.func15 (by kernel_rfl) rfl #[.bool a1, .int .i64 6, .int .i64 5] rfl (by (try simp only [List.map_toArray, List.map_cons, List.map_nil]); first | done | rfl | (simp only [List.length_drop, List.length_take]; rfl)) ?_; (with_reducible refine (bailiwickref18_side.calls a1 6 5 t124 _ A20.out).mono ?_); rintro e w' ⟨rfl, ⟨nd, rfl⟩⟩; refine ⟨_, rfl, ?_⟩) | ((with_reducible refine gate_callee (f := 15) rfl ?_); refine goesL_ (some 41) rfl rfl Try.func15 (by kernel_rfl) rfl #[.bool a1, .int .i64 5, .int .i64 6] rfl (by (try simp only [List.map_toArray, List.map_cons, List.map_nil]); first | done | rfl | (simp only [List.length_drop, List.length_take]; rfl)) ?_; (with_reducible refine (bailiwickref18_side.calls a1 5 6 t125 _ A23.out).mono ?_); rintro e w' ⟨rfl, ⟨nd, rfl⟩⟩; refine ⟨_, rfl, ?_⟩))
                      go_ret
                      exact ⟨by first | rfl | (simp; done) | (simp [*]; done), by repeat (first | exact Drawn0.refl _ | apply Drawn0.step)⟩
                    · rw [if_neg c22] at H
                      have c22b0 : decide (x0_5 ≤ 4) = false := decide_eq_false c22
                      clear c22
                      by_cases c24 : (Go.bits .and .i64 a2 7) = 0
                      · rw [if_pos c24] at H
                        have c24b0 : ((Go.bits .and .i64 a2 7) == 0) = true := beq_iff_eq.mpr c24
                        have c24b1 : ((Go.bits .and .i64 a2 7) != 0) = false := bne_eq_false_iff_eq.mpr c24
                        clear c24
                        by_cases c25 : x0_5 = 0
                        · rw [if_pos c25] at H
                          have c25b0 : (x0_5 == 0) = true := beq_iff_eq.mpr c25
                          have c25b1 : (x0_5 != 0) = false := bne_eq_false_iff_eq.mpr c25
                          clear c25
                          obtain rfl := Option.some.inj H
                          go_wp2_with (first | ((with_reducible refine gate_callee (f := 15) rfl ?_); refine goesL_ (some 36) rfl rfl Try.func15 (by kernel_rfl) rfl #[.bool a1, .int .i64 6, .int .i64 5] rfl (by (try simp only [List.map_toArray, List.map_cons, List.map_nil]); first | done | rfl | (simp only [List.length_drop, List.length_take]; rfl)) ?_; (with_reducible refine (bailiwickref18_side.calls a1 6 5 t124 _ A20.out).mono ?_); rintro e w' ⟨rfl, ⟨nd, rfl⟩⟩; refine ⟨_, rfl, ?_⟩))
                          go_ret
                          exact ⟨by first | rfl | (simp; done) | (simp [*]; done), by repeat (first | exact Drawn0.refl _ | apply Drawn0.step)⟩
                        · rw [if_neg c25] at H
                          have c25b0 : (x0_5 == 0) = false := beq_eq_false_iff_ne.mpr c25
                          have c25b1 : (x0_5 != 0) = true := bne_iff_ne.mpr c25
                          obtain rfl := Option.some.inj H
                          go_wp2_with (first | ((with_reducible refine gate_callee (f := 15) rfl ?_); refine goesL_ (some 36) rfl rfl Try.func15 (by kernel_rfl) rfl #[.bool a1, .int .i64 6, .int .i64 5] rfl (by (try simp only [List.map_toArray, List.map_cons, List.map_nil]); first | done | rfl | (simp only [List.length_drop, List.length_take]; rfl)) ?_; (with_reducible refine (bailiwickref18_side.calls a1 6 5 t124 _ A20.out).mono ?_); rintro e w' ⟨rfl, ⟨nd, rfl⟩⟩; refine ⟨_, rfl, ?_⟩))
                          go_ret
                          exact ⟨by first | rfl | (simp; done) | (simp [*]; done), by repeat (first | exact Drawn0.refl _ | apply Drawn0.step)⟩
                      · rw [if_neg c24] at H
                        have c24b0 : ((Go.bits .and .i64 a2 7) == 0) = false := beq_eq_false_iff_ne.mpr c24
                        have c24b1 : ((Go.bits .and .i64 a2 7) != 0) = true := bne_iff_ne.mpr c24
                        obtain rfl := Option.some.inj H
                        go_wp2_with (first | ((with_reducible refine gate_callee (f := 15) rfl ?_); refine goesL_ (some 36) rfl rfl Try.func15 (by kernel_rfl) rfl #[.bool a1, .int .i64 6, .int .i64 5] rfl (by (try simp only [List.map_toArray, List.map_cons, List.map_nil]); first | done | rfl | (simp only [List.length_drop, List.length_take]; rfl)) ?_; (with_reducible refine (bailiwickref18_side.calls a1 6 5 t124 _ A20.out).mono ?_); rintro e w' ⟨rfl, ⟨nd, rfl⟩⟩; refine ⟨_, rfl, ?_⟩))
                        go_ret
                        exact ⟨by first | rfl | (simp; done) | (simp [*]; done), by repeat (first | exact Drawn0.refl _ | apply Drawn0.step)⟩
          · rw [if_neg c8] at H
            have c8b0 : ((Go.bits .and .i64 a2 4) == 0) = false := beq_eq_false_iff_ne.mpr c8
            have c8b1 : ((Go.bits .and .i64 a2 4) != 0) = true := bne_iff_ne.mpr c8
            obtain rfl := Option.some.inj H
            go_wp2
            go_ret
            exact ⟨by first | rfl | (simp; done) | (simp [*]; done), by repeat (first | exact Drawn0.refl _ | apply Drawn0.step)⟩

/-! ### bailiwicklaw20_ConnNexts: function 4 -/
def bailiwicklaw20_ConnNexts.f (k : Nat) (a0 : Int) (a1 : Bool) (a2 : Int) : Option (Bool) := (bailiwicklaw20_awake.f k).bind fun t126 => (if t126 = true then ((conn_Next.f k a0 a1 a2).bind fun t127 => ((bailiwickref18_Next.f k a0 a1 a2).bind fun t128 => (some (t127 == t128)))) else (some false))
theorem bailiwicklaw20_ConnNexts.mono : ∀ a0 a1 a2 k, LeO (bailiwicklaw20_ConnNexts.f k a0 a1 a2) (bailiwicklaw20_ConnNexts.f (k + 1) a0 a1 a2) := by
  intro a0 a1 a2 k
  unfold bailiwicklaw20_ConnNexts.f
  repeat' first
      | (with_reducible exact bailiwicklaw20_awake.mono _)
      | (with_reducible exact bailiwickref18_Next.mono _ _ _ _)
      | (with_reducible exact conn_Next.mono _ _ _ _)
      | (with_reducible exact LeO.refl _)
      | (with_reducible exact LeO.none _)
      | (with_reducible refine LeO.ite ?_ ?_)
      | (with_reducible refine LeO.bind ?_ (fun _ => ?_))
      | exact bailiwicklaw20_awake.mono _
      | exact bailiwickref18_Next.mono _ _ _ _
      | exact conn_Next.mono _ _ _ _
      | exact LeO.none _
      | refine LeO.ite ?_ ?_
      | refine LeO.bind ?_ (fun _ => ?_)
set_option maxHeartbeats 8000000 in
set_option maxRecDepth 100000 in
theorem bailiwicklaw20_ConnNexts.calls (k : Nat) (a0 : Int) (a1 : Bool) (a2 : Int) (r : Bool) (w : World) (h : bailiwicklaw20_ConnNexts.f k a0 a1 a2 = some r) :
    Calls Try.prog 4 #[.int .i64 a0, .bool a1, .int .i64 a2] w fun e w' => e = .returned (.bool r) ∧ Below w.heap.size w w' := by
  have HB := Aside0.mk (Below.refl w.heap.size w)
  have H : ((bailiwicklaw20_awake.f k).bind fun t126 => (if t126 = true then ((conn_Next.f k a0 a1 a2).bind fun t127 => ((bailiwickref18_Next.f k a0 a1 a2).bind fun t128 => (some (t127 == t128)))) else (some false))) = some r := h
  clear h
  replace H := Option.bind_eq_some_iff.mp H
  obtain ⟨t126, A40, H⟩ := H
  replace H : (if t126 = true then ((conn_Next.f k a0 a1 a2).bind fun t127 => ((bailiwickref18_Next.f k a0 a1 a2).bind fun t128 => (some (t127 == t128)))) else (some false)) = some r := H
  have A4 := Aside0.mk A40
  clear A40
  by_cases c5 : t126 = true
  · subst c5
    have H1 : ((conn_Next.f k a0 a1 a2).bind fun t127 => ((bailiwickref18_Next.f k a0 a1 a2).bind fun t128 => (some (t127 == t128)))) = some r := by rw [if_pos rfl] at H; exact H
    clear H
    have H := H1
    clear H1
    replace H := Option.bind_eq_some_iff.mp H
    obtain ⟨t127, A60, H⟩ := H
    replace H : ((bailiwickref18_Next.f k a0 a1 a2).bind fun t128 => (some (t127 == t128))) = some r := H
    have A6 := Aside0.mk A60
    clear A60
    replace H := Option.bind_eq_some_iff.mp H
    obtain ⟨t128, A70, H⟩ := H
    replace H : (some (t127 == t128)) = some r := H
    have A7 := Aside0.mk A70
    clear A70
    obtain rfl := Option.some.inj H
    go_enter Try.func4, Try.ntmps4
    go_wp2_with (first | ((with_reducible refine gate_callee (f := 8) rfl ?_); refine goesL_ (some 7) rfl rfl Try.func8 (by kernel_rfl) rfl #[] rfl (by (try simp only [List.map_toArray, List.map_cons, List.map_nil]); first | done | rfl | (simp only [List.length_drop, List.length_take]; rfl)) ?_; (with_reducible refine (bailiwicklaw20_awake.calls k  true _ A4.out).mono ?_); rintro e w8 ⟨rfl, hb⟩; refine ⟨_, rfl, ?_⟩; have n0_ := Aside0.mk (below_step (by repeat (first | (with_reducible first | exact HB.out | apply below_alloc | apply pw_below_drewN | apply below_drew1) | exact HB.out)) hb); clear HB; have HB := n0_; clear n0_; (try clear hb); (try clear hb2); (try clear hk); (try clear hi)) | ((with_reducible refine gate_callee (f := 9) rfl ?_); refine goesL_ (some 12) rfl rfl Try.func9 (by kernel_rfl) rfl #[.int .i64 a0, .bool a1, .int .i64 a2] rfl (by (try simp only [List.map_toArray, List.map_cons, List.map_nil]); first | done | rfl | (simp only [List.length_drop, List.length_take]; rfl)) ?_; (with_reducible refine (conn_Next.calls k a0 a1 a2 t127 _ A6.out).mono ?_); rintro e w9 ⟨rfl, hb⟩; refine ⟨_, rfl, ?_⟩; have n0_ := Aside0.mk (below_step (by repeat (first | (with_reducible first | exact HB.out | apply below_alloc | apply pw_below_drewN | apply below_drew1) | exact HB.out)) hb); clear HB; have HB := n0_; clear n0_; (try clear hb); (try clear hb2); (try clear hk); (try clear hi)) | ((with_reducible refine gate_callee (f := 10) rfl ?_); refine goesL_ (some 16) rfl rfl Try.func10 (by kernel_rfl) rfl #[.int .i64 a0, .bool a1, .int .i64 a2] rfl (by (try simp only [List.map_toArray, List.map_cons, List.map_nil]); first | done | rfl | (simp only [List.length_drop, List.length_take]; rfl)) ?_; (with_reducible refine (bailiwickref18_Next.calls k a0 a1 a2 t128 _ A7.out).mono ?_); rintro e w' ⟨rfl, ⟨nd, rfl⟩⟩; refine ⟨_, rfl, ?_⟩))
    go_ret
    exact ⟨by first | rfl | (simp [errW_none, errW_some] <;> rfl) | (simp [*, errW_none, errW_some] <;> rfl), by repeat (first | (with_reducible first | exact HB.out | apply below_alloc | apply pw_below_drewN | apply below_drew1) | exact HB.out)⟩
  · replace c5 := Bool.eq_false_iff.mpr c5
    subst c5
    have H1 : (some false) = some r := by rw [if_neg (show ¬ (false = true) by decide)] at H; exact H
    clear H
    have H := H1
    clear H1
    obtain rfl := Option.some.inj H
    go_enter Try.func4, Try.ntmps4
    go_wp2_with (first | ((with_reducible refine gate_callee (f := 8) rfl ?_); refine goesL_ (some 7) rfl rfl Try.func8 (by kernel_rfl) rfl #[] rfl (by (try simp only [List.map_toArray, List.map_cons, List.map_nil]); first | done | rfl | (simp only [List.length_drop, List.length_take]; rfl)) ?_; (with_reducible refine (bailiwicklaw20_awake.calls k  false _ A4.out).mono ?_); rintro e w10 ⟨rfl, hb⟩; refine ⟨_, rfl, ?_⟩; have n0_ := Aside0.mk (below_step (by repeat (first | (with_reducible first | exact HB.out | apply below_alloc | apply pw_below_drewN | apply below_drew1) | exact HB.out)) hb); clear HB; have HB := n0_; clear n0_; (try clear hb); (try clear hb2); (try clear hk); (try clear hi)))
    go_ret
    exact ⟨by first | rfl | (simp [errW_none, errW_some] <;> rfl) | (simp [*, errW_none, errW_some] <;> rfl), by repeat (first | (with_reducible first | exact HB.out | apply below_alloc | apply pw_below_drewN | apply below_drew1) | exact HB.out)⟩

/-- THE ONE PURE STATEMENT of bailiwicklaw20_ConnNexts: yours. -/
def bailiwicklaw20_ConnNexts.Pure : Prop := ∀ (a0 : Int) (a1 : Bool) (a2 : Int), (Lit.int .i64 a0).wf = true → (Lit.int .i64 a2).wf = true → ∃ k, bailiwicklaw20_ConnNexts.f k a0 a1 a2 = some true
theorem bailiwicklaw20_ConnNexts.walk (P : bailiwicklaw20_ConnNexts.Pure) (a0 : Int) (a1 : Bool) (a2 : Int) (w : World) (w0 : (Lit.int .i64 a0).wf = true) (w2 : (Lit.int .i64 a2).wf = true) :
    Calls Try.prog 4 #[.int .i64 a0, .bool a1, .int .i64 a2] w fun e w' => e = .returned (.bool true) ∧ Below w.heap.size w w' := by
  obtain ⟨k, h⟩ := P a0 a1 a2 w0 w2
  refine (bailiwicklaw20_ConnNexts.calls k a0 a1 a2 true w h).mono ?_
  rintro e w' ⟨rfl, hd⟩
  exact ⟨rfl, hd⟩

end Go.Proofs.Ythdhdfhjimmkkaa.PConnNexts
