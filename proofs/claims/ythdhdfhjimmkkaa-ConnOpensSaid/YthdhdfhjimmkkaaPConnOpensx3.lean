-- PRINTED BY print.sh 35421559b90ae4d0a3588c463048766b98c2df88dd9212a6774a882060cdf62d: not written by this session
import Derived.Test.YthdhdfhjimmkkaaPConnOpensx0
import Derived.Test.YthdhdfhjimmkkaaPConnOpensx2
namespace Go.Proofs.Ythdhdfhjimmkkaa.PConnOpens
open Go.RowKit Go.Proofs.YthdhdfhjimmkkaaW.PrintWords Go.Proofs.YthdhdfhjimmkkaaW.PrintLast Go.Proofs.YthdhdfhjimmkkaaW.PrintMore
attribute [local go_sem] max2_int min2_int max_two min_two max_three min_three max_four min_four   -- for this text's walks alone
set_option linter.unusedVariables false
set_option linter.unusedSimpArgs false

/-! ### bailiwicklaw20_awake: function 8 -/
def bailiwicklaw20_awake.f (k : Nat)  : Option (Bool) := (conn_Next.f k 0 true 2).bind fun t117 => ((conn_Next.f k t117 false 18).bind fun t118 => ((conn_Next.f k t118 true 17).bind fun t119 => (if t117 = 2 then (if t118 = 4 then (if t119 = 5 then ((conn_Next.f k t119 false 1).bind fun t120 => (some (t120 == 7))) else (some false)) else (some false)) else (some false))))
theorem bailiwicklaw20_awake.mono : ∀ k, LeO (bailiwicklaw20_awake.f k ) (bailiwicklaw20_awake.f (k + 1) ) := by
  intro  k
  unfold bailiwicklaw20_awake.f
  repeat' first
      | (with_reducible exact conn_Next.mono _ _ _ _)
      | (with_reducible exact LeO.refl _)
      | (with_reducible exact LeO.none _)
      | (with_reducible refine LeO.ite ?_ ?_)
      | (with_reducible refine LeO.bind ?_ (fun _ => ?_))
      | exact conn_Next.mono _ _ _ _
      | exact LeO.none _
      | refine LeO.ite ?_ ?_
      | refine LeO.bind ?_ (fun _ => ?_)
set_option maxHeartbeats 8000000 in
set_option maxRecDepth 100000 in
theorem bailiwicklaw20_awake.calls (k : Nat)  (r : Bool) (w : World) (h : bailiwicklaw20_awake.f k  = some r) :
    Calls Try.prog 8 #[] w fun e w' => e = .returned (.bool r) ∧ Below w.heap.size w w' := by
  have HB := Aside0.mk (Below.refl w.heap.size w)
  have H : ((conn_Next.f k 0 true 2).bind fun t117 => ((conn_Next.f k t117 false 18).bind fun t118 => ((conn_Next.f k t118 true 17).bind fun t119 => (if t117 = 2 then (if t118 = 4 then (if t119 = 5 then ((conn_Next.f k t119 false 1).bind fun t120 => (some (t120 == 7))) else (some false)) else (some false)) else (some false))))) = some r := h
  clear h
  replace H := Option.bind_eq_some_iff.mp H
  obtain ⟨t117, A10, H⟩ := H
  replace H : ((conn_Next.f k t117 false 18).bind fun t118 => ((conn_Next.f k t118 true 17).bind fun t119 => (if t117 = 2 then (if t118 = 4 then (if t119 = 5 then ((conn_Next.f k t119 false 1).bind fun t120 => (some (t120 == 7))) else (some false)) else (some false)) else (some false)))) = some r := H
  have A1 := Aside0.mk A10
  clear A10
  replace H := Option.bind_eq_some_iff.mp H
  obtain ⟨t118, A20, H⟩ := H
  replace H : ((conn_Next.f k t118 true 17).bind fun t119 => (if t117 = 2 then (if t118 = 4 then (if t119 = 5 then ((conn_Next.f k t119 false 1).bind fun t120 => (some (t120 == 7))) else (some false)) else (some false)) else (some false))) = some r := H
  have A2 := Aside0.mk A20
  clear A20
  replace H := Option.bind_eq_some_iff.mp H
  obtain ⟨t119, A30, H⟩ := H
  replace H : (if t117 = 2 then (if t118 = 4 then (if t119 = 5 then ((conn_Next.f k t119 false 1).bind fun t120 => (some (t120 == 7))) else (some false)) else (some false)) else (some false)) = some r := H
  have A3 := Aside0.mk A30
  clear A30
  by_cases c4 : t117 = 2
  · rw [if_pos c4] at H
    have c4b0 : (t117 == 2) = true := beq_iff_eq.mpr c4
    have c4b1 : (t117 != 2) = false := bne_eq_false_iff_eq.mpr c4
    clear c4
    by_cases c5 : t118 = 4
    · rw [if_pos c5] at H
      have c5b0 : (t118 == 4) = true := beq_iff_eq.mpr c5
      have c5b1 : (t118 != 4) = false := bne_eq_false_iff_eq.mpr c5
      clear c5
      by_cases c6 : t119 = 5
      · rw [if_pos c6] at H
        have c6b0 : (t119 == 5) = true := beq_iff_eq.mpr c6
        have c6b1 : (t119 != 5) = false := bne_eq_false_iff_eq.mpr c6
        clear c6
        replace H := Option.bind_eq_some_iff.mp H
        obtain ⟨t120, A70, H⟩ := H
        replace H : (some (t120 == 7)) = some r := H
        have A7 := Aside0.mk A70
        clear A70
        obtain rfl := Option.some.inj H
        go_enter Try.func8, Try.ntmps8
        go_wp2_with (first | ((with_reducible refine gate_callee (f := 9) rfl ?_); refine goesL_ (some 4) rfl rfl Try.func9 (by kernel_rfl) rfl #[.int .i64 0, .bool true, .int .i64 2] rfl (by (try simp only [List.map_toArray, List.map_cons, List.map_nil]); first | done | rfl | (simp only [List.length_drop, List.length_take]; rfl)) ?_; (with_reducible refine (conn_Next.calls k 0 true 2 t117 _ A1.out).mono ?_); rintro e w8 ⟨rfl, hb⟩; refine ⟨_, rfl, ?_⟩; have n0_ := Aside0.mk (below_step (by repeat (first | (with_reducible first | exact HB.out | apply below_alloc | apply pw_below_drewN | apply below_drew1) | exact HB.out)) hb); clear HB; have HB := n0_; clear n0_; (try clear hb); (try clear hb2); (try clear hk); (try clear hi)) | ((with_reducible refine gate_callee (f := 9) rfl ?_); refine goesL_ (some 6) rfl rfl Try.func9 (by kernel_rfl) rfl #[.int .i64 t117, .bool false, .int .i64 18] rfl (by (try simp only [List.map_toArray, List.map_cons, List.map_nil]); first | done | rfl | (simp only [List.length_drop, List.length_take]; rfl)) ?_; (with_reducible refine (conn_Next.calls k t117 false 18 t118 _ A2.out).mono ?_); rintro e w9 ⟨rfl, hb⟩; refine ⟨_, rfl, ?_⟩; have n0_ := Aside0.mk (below_step (by repeat (first | (with_reducible first | exact HB.out | apply below_alloc | apply pw_below_drewN | apply below_drew1) | exact HB.out)) hb); clear HB; have HB := n0_; clear n0_; (try clear hb); (try clear hb2); (try clear hk); (try clear hi)) | ((with_reducible refine gate_callee (f := 9) rfl ?_); refine goesL_ (some 8) rfl rfl Try.func9 (by kernel_rfl) rfl #[.int .i64 t118, .bool true, .int .i64 17] rfl (by (try simp only [List.map_toArray, List.map_cons, List.map_nil]); first | done | rfl | (simp only [List.length_drop, List.length_take]; rfl)) ?_; (with_reducible refine (conn_Next.calls k t118 true 17 t119 _ A3.out).mono ?_); rintro e w10 ⟨rfl, hb⟩; refine ⟨_, rfl, ?_⟩; have n0_ := Aside0.mk (below_step (by repeat (first | (with_reducible first | exact HB.out | apply below_alloc | apply pw_below_drewN | apply below_drew1) | exact HB.out)) hb); clear HB; have HB := n0_; clear n0_; (try clear hb); (try clear hb2); (try clear hk); (try clear hi)) | (go_at_call 9; (with_reducible refine (conn_Next.calls k t119 false 1 t120 _ A7.out).mono ?_); rintro e w11 ⟨rfl, hb⟩; have n0_ := Aside0.mk (below_step (by repeat (first | (with_reducible first | exact HB.out | apply below_alloc | apply pw_below_drewN | apply below_drew1) | exact HB.out)) hb); clear HB; have HB := n0_; clear n0_; (try clear hb); (try clear hb2); (try clear hk); (try clear hi)))
        go_ret
        exact ⟨by first | rfl | (simp [errW_none, errW_some] <;> rfl) | (simp [*, errW_none, errW_some] <;> rfl), by repeat (first | (with_reducible first | exact HB.out | apply below_alloc | apply pw_below_drewN | apply below_drew1) | exact HB.out)⟩
      · rw [if_neg c6] at H
        have c6b0 : (t119 == 5) = false := beq_eq_false_iff_ne.mpr c6
        have c6b1 : (t119 != 5) = true := bne_iff_ne.mpr c6
        obtain rfl := Option.some.inj H
        go_enter Try.func8, Try.ntmps8
        go_wp2_with (first | ((with_reducible refine gate_callee (f := 9) rfl ?_); refine goesL_ (some 4) rfl rfl Try.func9 (by kernel_rfl) rfl #[.int .i64 0, .bool true, .int .i64 2] rfl (by (try simp only [List.map_toArray, List.map_cons, List.map_nil]); first | done | rfl | (simp only [List.length_drop, List.length_take]; rfl)) ?_; (with_reducible refine (conn_Next.calls k 0 true 2 t117 _ A1.out).mono ?_); rintro e w12 ⟨rfl, hb⟩; refine ⟨_, rfl, ?_⟩; have n0_ := Aside0.mk (below_step (by repeat (first | (with_reducible first | exact HB.out | apply below_alloc | apply pw_below_drewN | apply below_drew1) | exact HB.out)) hb); clear HB; have HB := n0_; clear n0_; (try clear hb); (try clear hb2); (try clear hk); (try clear hi)) | ((with_reducible refine gate_callee (f := 9) rfl ?_); refine goesL_ (some 6) rfl rfl Try.func9 (by kernel_rfl) rfl #[.int .i64 t117, .bool false, .int .i64 18] rfl (by (try simp only [List.map_toArray, List.map_cons, List.map_nil]); first | done | rfl | (simp only [List.length_drop, List.length_take]; rfl)) ?_; (with_reducible refine (conn_Next.calls k t117 false 18 t118 _ A2.out).mono ?_); rintro e w13 ⟨rfl, hb⟩; refine ⟨_, rfl, ?_⟩; have n0_ := Aside0.mk (below_step (by repeat (first | (with_reducible first | exact HB.out | apply below_alloc | apply pw_below_drewN | apply below_drew1) | exact HB.out)) hb); clear HB; have HB := n0_; clear n0_; (try clear hb); (try clear hb2); (try clear hk); (try clear hi)) | ((with_reducible refine gate_callee (f := 9) rfl ?_); refine goesL_ (some 8) rfl rfl Try.func9 (by kernel_rfl) rfl #[.int .i64 t118, .bool true, .int .i64 17] rfl (by (try simp only [List.map_toArray, List.map_cons, List.map_nil]); first | done | rfl | (simp only [List.length_drop, List.length_take]; rfl)) ?_; (with_reducible refine (conn_Next.calls k t118 true 17 t119 _ A3.out).mono ?_); rintro e w14 ⟨rfl, hb⟩; refine ⟨_, rfl, ?_⟩; have n0_ := Aside0.mk (below_step (by repeat (first | (with_reducible first | exact HB.out | apply below_alloc | apply pw_below_drewN | apply below_drew1) | exact HB.out)) hb); clear HB; have HB := n0_; clear n0_; (try clear hb); (try clear hb2); (try clear hk); (try clear hi)))
        go_ret
        exact ⟨by first | rfl | (simp [errW_none, errW_some] <;> rfl) | (simp [*, errW_none, errW_some] <;> rfl), by repeat (first | (with_reducible first | exact HB.out | apply below_alloc | apply pw_below_drewN | apply below_drew1) | exact HB.out)⟩
    · rw [if_neg c5] at H
      have c5b0 : (t118 == 4) = false := beq_eq_false_iff_ne.mpr c5
      have c5b1 : (t118 != 4) = true := bne_iff_ne.mpr c5
      obtain rfl := Option.some.inj H
      go_enter Try.func8, Try.ntmps8
      go_wp2_with (first | ((with_reducible refine gate_callee (f := 9) rfl ?_); refine goesL_ (some 4) rfl rfl Try.func9 (by kernel_rfl) rfl #[.int .i64 0, .bool true, .int .i64 2] rfl (by (try simp only [List.map_toArray, List.map_cons, List.map_nil]); first | done | rfl | (simp only [List.length_drop, List.length_take]; rfl)) ?_; (with_reducible refine (conn_Next.calls k 0 true 2 t117 _ A1.out).mono ?_); rintro e w15 ⟨rfl, hb⟩; refine ⟨_, rfl, ?_⟩; have n0_ := Aside0.mk (below_step (by repeat (first | (with_reducible first | exact HB.out | apply below_alloc | apply pw_below_drewN | apply below_drew1) | exact HB.out)) hb); clear HB; have HB := n0_; clear n0_; (try clear hb); (try clear hb2); (try clear hk); (try clear hi)) | ((with_reducible refine gate_callee (f := 9) rfl ?_); refine goesL_ (some 6) rfl rfl Try.func9 (by kernel_rfl) rfl #[.int .i64 t117, .bool false, .int .i64 18] rfl (by (try simp only [List.map_toArray, List.map_cons, List.map_nil]); first | done | rfl | (simp only [List.length_drop, List.length_take]; rfl)) ?_; (with_reducible refine (conn_Next.calls k t117 false 18 t118 _ A2.out).mono ?_); rintro e w16 ⟨rfl, hb⟩; refine ⟨_, rfl, ?_⟩; have n0_ := Aside0.mk (below_step (by repeat (first | (with_reducible first | exact HB.out | apply below_alloc | apply pw_below_drewN | apply below_drew1) | exact HB.out)) hb); clear HB; have HB := n0_; clear n0_; (try clear hb); (try clear hb2); (try clear hk); (try clear hi)) | ((with_reducible refine gate_callee (f := 9) rfl ?_); refine goesL_ (some 8) rfl rfl Try.func9 (by kernel_rfl) rfl #[.int .i64 t118, .bool true, .int .i64 17] rfl (by (try simp only [List.map_toArray, List.map_cons, List.map_nil]); first | done | rfl | (simp only [List.length_drop, List.length_take]; rfl)) ?_; (with_reducible refine (conn_Next.calls k t118 true 17 t119 _ A3.out).mono ?_); rintro e w17 ⟨rfl, hb⟩; refine ⟨_, rfl, ?_⟩; have n0_ := Aside0.mk (below_step (by repeat (first | (with_reducible first | exact HB.out | apply below_alloc | apply pw_below_drewN | apply below_drew1) | exact HB.out)) hb); clear HB; have HB := n0_; clear n0_; (try clear hb); (try clear hb2); (try clear hk); (try clear hi)))
      go_ret
      exact ⟨by first | rfl | (simp [errW_none, errW_some] <;> rfl) | (simp [*, errW_none, errW_some] <;> rfl), by repeat (first | (with_reducible first | exact HB.out | apply below_alloc | apply pw_below_drewN | apply below_drew1) | exact HB.out)⟩
  · rw [if_neg c4] at H
    have c4b0 : (t117 == 2) = false := beq_eq_false_iff_ne.mpr c4
    have c4b1 : (t117 != 2) = true := bne_iff_ne.mpr c4
    obtain rfl := Option.some.inj H
    go_enter Try.func8, Try.ntmps8
    go_wp2_with (first | ((with_reducible refine gate_callee (f := 9) rfl ?_); refine goesL_ (some 4) rfl rfl Try.func9 (by kernel_rfl) rfl #[.int .i64 0, .bool true, .int .i64 2] rfl (by (try simp only [List.map_toArray, List.map_cons, List.map_nil]); first | done | rfl | (simp only [List.length_drop, List.length_take]; rfl)) ?_; (with_reducible refine (conn_Next.calls k 0 true 2 t117 _ A1.out).mono ?_); rintro e w18 ⟨rfl, hb⟩; refine ⟨_, rfl, ?_⟩; have n0_ := Aside0.mk (below_step (by repeat (first | (with_reducible first | exact HB.out | apply below_alloc | apply pw_below_drewN | apply below_drew1) | exact HB.out)) hb); clear HB; have HB := n0_; clear n0_; (try clear hb); (try clear hb2); (try clear hk); (try clear hi)) | ((with_reducible refine gate_callee (f := 9) rfl ?_); refine goesL_ (some 6) rfl rfl Try.func9 (by kernel_rfl) rfl #[.int .i64 t117, .bool false, .int .i64 18] rfl (by (try simp only [List.map_toArray, List.map_cons, List.map_nil]); first | done | rfl | (simp only [List.length_drop, List.length_take]; rfl)) ?_; (with_reducible refine (conn_Next.calls k t117 false 18 t118 _ A2.out).mono ?_); rintro e w19 ⟨rfl, hb⟩; refine ⟨_, rfl, ?_⟩; have n0_ := Aside0.mk (below_step (by repeat (first | (with_reducible first | exact HB.out | apply below_alloc | apply pw_below_drewN | apply below_drew1) | exact HB.out)) hb); clear HB; have HB := n0_; clear n0_; (try clear hb); (try clear hb2); (try clear hk); (try clear hi)) | ((with_reducible refine gate_callee (f := 9) rfl ?_); refine goesL_ (some 8) rfl rfl Try.func9 (by kernel_rfl) rfl #[.int .i64 t118, .bool true, .int .i64 17] rfl (by (try simp only [List.map_toArray, List.map_cons, List.map_nil]); first | done | rfl | (simp only [List.length_drop, List.length_take]; rfl)) ?_; (with_reducible refine (conn_Next.calls k t118 true 17 t119 _ A3.out).mono ?_); rintro e w20 ⟨rfl, hb⟩; refine ⟨_, rfl, ?_⟩; have n0_ := Aside0.mk (below_step (by repeat (first | (with_reducible first | exact HB.out | apply below_alloc | apply pw_below_drewN | apply below_drew1) | exact HB.out)) hb); clear HB; have HB := n0_; clear n0_; (try clear hb); (try clear hb2); (try clear hk); (try clear hi)))
    go_ret
    exact ⟨by first | rfl | (simp [errW_none, errW_some] <;> rfl) | (simp [*, errW_none, errW_some] <;> rfl), by repeat (first | (with_reducible first | exact HB.out | apply below_alloc | apply pw_below_drewN | apply below_drew1) | exact HB.out)⟩

/-! ### bailiwicklaw20_ConnOpens: function 5 -/
mutual
def bailiwicklaw20_ConnOpens.j0 : Nat → List Bool → List Int → Bool → Option (Bool)
  | 0, _, _, _ => none
  | k + 1, x0, x1, x18 => if x18 = true then (some true) else (bailiwicklaw20_ConnOpens.l0 k x0 x1 0 0)
def bailiwicklaw20_ConnOpens.l0 : Nat → List Bool → List Int → Int → Int → Option (Bool)
  | 0, _, _, _, _ => none
  | k + 1, x0, x1, x5, x6 => if x6 < (x0.length : Int) then (bailiwicklaw20_ConnOpens.j2 k x0 x1 x5 x6 (decide (x6 < (x1.length : Int)))) else (bailiwicklaw20_ConnOpens.j2 k x0 x1 x5 x6 false)
def bailiwicklaw20_ConnOpens.j2 : Nat → List Bool → List Int → Int → Int → Bool → Option (Bool)
  | 0, _, _, _, _, _ => none
  | k + 1, x0, x1, x5, x6, x28 => if x28 = true then (if 0 ≤ x6 then (if x6 < (x1.length : Int) then (if x6 < (x0.length : Int) then ((conn_Next.f k x5 (rdOf false x0 x6) (wrap64 (rd x1 x6))).bind fun t124 => (if t124 = 4 then (if x5 = 4 then (bailiwicklaw20_ConnOpens.j3 k x0 x1 x5 x6 (wrap64 (rd x1 x6)) t124 false) else (if (Go.bits .and .i64 (wrap64 (rd x1 x6)) 2) = 0 then (bailiwicklaw20_ConnOpens.j3 k x0 x1 x5 x6 (wrap64 (rd x1 x6)) t124 true) else (if (Go.bits .and .i64 (wrap64 (rd x1 x6)) 4) = 0 then (if x5 = 2 then (bailiwicklaw20_ConnOpens.j3 k x0 x1 x5 x6 (wrap64 (rd x1 x6)) t124 ((x5 == 2) == (rdOf false x0 x6))) else (if x5 = 3 then (bailiwicklaw20_ConnOpens.j3 k x0 x1 x5 x6 (wrap64 (rd x1 x6)) t124 ((x5 == 2) == (rdOf false x0 x6))) else (bailiwicklaw20_ConnOpens.j3 k x0 x1 x5 x6 (wrap64 (rd x1 x6)) t124 true))) else (bailiwicklaw20_ConnOpens.j3 k x0 x1 x5 x6 (wrap64 (rd x1 x6)) t124 true)))) else (bailiwicklaw20_ConnOpens.j3 k x0 x1 x5 x6 (wrap64 (rd x1 x6)) t124 false))) else (none)) else (none)) else (none)) else (some true)
def bailiwicklaw20_ConnOpens.j3 : Nat → List Bool → List Int → Int → Int → Int → Int → Bool → Option (Bool)
  | 0, _, _, _, _, _, _, _ => none
  | k + 1, x0, x1, x5, x6, x7, x8, x75 => if x75 = true then (some false) else (if x5 = 4 then (if x8 = 4 then (bailiwicklaw20_ConnOpens.j4 k x0 x1 x6 x7 x8 false) else (bailiwicklaw20_ConnOpens.j4 k x0 x1 x6 x7 x8 ((Go.bits .and .i64 x7 5) == 0))) else (bailiwicklaw20_ConnOpens.j4 k x0 x1 x6 x7 x8 false))
def bailiwicklaw20_ConnOpens.j4 : Nat → List Bool → List Int → Int → Int → Int → Bool → Option (Bool)
  | 0, _, _, _, _, _, _ => none
  | k + 1, x0, x1, x6, x7, x8, x86 => if x86 = true then (some false) else (if (Go.bits .and .i64 x7 4) = 0 then (if x8 < 0 then (some false) else (if x8 > 8 then (some false) else (bailiwicklaw20_ConnOpens.l0 k x0 x1 x8 (wrap64 (x6 + 1))))) else (if x8 = 8 then (if x8 < 0 then (some false) else (if x8 > 8 then (some false) else (bailiwicklaw20_ConnOpens.l0 k x0 x1 x8 (wrap64 (x6 + 1))))) else (some false)))
end
def bailiwicklaw20_ConnOpens.f (k : Nat) (l0 : List Bool) (l1 : List Int) : Option (Bool) := (bailiwicklaw20_awake.f k).bind fun t121 => (if t121 = true then (if (l0.length : Int) > 1000 then (bailiwicklaw20_ConnOpens.j0 k l0 l1 true) else (bailiwicklaw20_ConnOpens.j0 k l0 l1 (decide ((l1.length : Int) > 1000)))) else (some false))
theorem bailiwicklaw20_ConnOpens.mono_l : ∀ k, (∀ y0 y1 y2, LeO (bailiwicklaw20_ConnOpens.j0 k y0 y1 y2) (bailiwicklaw20_ConnOpens.j0 (k + 1) y0 y1 y2)) ∧ (∀ y0 y1 y2 y3, LeO (bailiwicklaw20_ConnOpens.l0 k y0 y1 y2 y3) (bailiwicklaw20_ConnOpens.l0 (k + 1) y0 y1 y2 y3)) ∧ (∀ y0 y1 y2 y3 y4, LeO (bailiwicklaw20_ConnOpens.j2 k y0 y1 y2 y3 y4) (bailiwicklaw20_ConnOpens.j2 (k + 1) y0 y1 y2 y3 y4)) ∧ (∀ y0 y1 y2 y3 y4 y5 y6, LeO (bailiwicklaw20_ConnOpens.j3 k y0 y1 y2 y3 y4 y5 y6) (bailiwicklaw20_ConnOpens.j3 (k + 1) y0 y1 y2 y3 y4 y5 y6)) ∧ (∀ y0 y1 y2 y3 y4 y5, LeO (bailiwicklaw20_ConnOpens.j4 k y0 y1 y2 y3 y4 y5) (bailiwicklaw20_ConnOpens.j4 (k + 1) y0 y1 y2 y3 y4 y5))
  | 0 => ⟨fun _ _ _ r h => by simp [bailiwicklaw20_ConnOpens.j0] at h, fun _ _ _ _ r h => by simp [bailiwicklaw20_ConnOpens.l0] at h, fun _ _ _ _ _ r h => by simp [bailiwicklaw20_ConnOpens.j2] at h, fun _ _ _ _ _ _ _ r h => by simp [bailiwicklaw20_ConnOpens.j3] at h, fun _ _ _ _ _ _ r h => by simp [bailiwicklaw20_ConnOpens.j4] at h⟩
  | k + 1 => by
    obtain ⟨ih0, ih1, ih2, ih3, ih4⟩ := bailiwicklaw20_ConnOpens.mono_l k
    refine ⟨?_, ?_, ?_, ?_, ?_⟩
    · intro y0 y1 y2
      unfold bailiwicklaw20_ConnOpens.j0
      repeat' first
      | (with_reducible exact ih0 _ _ _)
      | (with_reducible exact ih1 _ _ _ _)
      | (with_reducible exact ih2 _ _ _ _ _)
      | (with_reducible exact ih3 _ _ _ _ _ _ _)
      | (with_reducible exact ih4 _ _ _ _ _ _)
      | (with_reducible exact bailiwicklaw20_awake.mono _)
      | (with_reducible exact conn_Next.mono _ _ _ _)
      | (with_reducible exact LeO.refl _)
      | (with_reducible exact LeO.none _)
      | (with_reducible refine LeO.ite ?_ ?_)
      | (with_reducible refine LeO.bind ?_ (fun _ => ?_))
      | exact ih0 _ _ _
      | exact ih1 _ _ _ _
      | exact ih2 _ _ _ _ _
      | exact ih3 _ _ _ _ _ _ _
      | exact ih4 _ _ _ _ _ _
      | exact bailiwicklaw20_awake.mono _
      | exact conn_Next.mono _ _ _ _
      | exact LeO.none _
      | refine LeO.ite ?_ ?_
      | refine LeO.bind ?_ (fun _ => ?_)
    · intro y0 y1 y2 y3
      unfold bailiwicklaw20_ConnOpens.l0
      repeat' first
      | (with_reducible exact ih0 _ _ _)
      | (with_reducible exact ih1 _ _ _ _)
      | (with_reducible exact ih2 _ _ _ _ _)
      | (with_reducible exact ih3 _ _ _ _ _ _ _)
      | (with_reducible exact ih4 _ _ _ _ _ _)
      | (with_reducible exact bailiwicklaw20_awake.mono _)
      | (with_reducible exact conn_Next.mono _ _ _ _)
      | (with_reducible exact LeO.refl _)
      | (with_reducible exact LeO.none _)
      | (with_reducible refine LeO.ite ?_ ?_)
      | (with_reducible refine LeO.bind ?_ (fun _ => ?_))
      | exact ih0 _ _ _
      | exact ih1 _ _ _ _
      | exact ih2 _ _ _ _ _
      | exact ih3 _ _ _ _ _ _ _
      | exact ih4 _ _ _ _ _ _
      | exact bailiwicklaw20_awake.mono _
      | exact conn_Next.mono _ _ _ _
      | exact LeO.none _
      | refine LeO.ite ?_ ?_
      | refine LeO.bind ?_ (fun _ => ?_)
    · intro y0 y1 y2 y3 y4
      unfold bailiwicklaw20_ConnOpens.j2
      repeat' first
      | (with_reducible exact ih0 _ _ _)
      | (with_reducible exact ih1 _ _ _ _)
      | (with_reducible exact ih2 _ _ _ _ _)
      | (with_reducible exact ih3 _ _ _ _ _ _ _)
      | (with_reducible exact ih4 _ _ _ _ _ _)
      | (with_reducible exact bailiwicklaw20_awake.mono _)
      | (with_reducible exact conn_Next.mono _ _ _ _)
      | (with_reducible exact LeO.refl _)
      | (with_reducible exact LeO.none _)
      | (with_reducible refine LeO.ite ?_ ?_)
      | (with_reducible refine LeO.bind ?_ (fun _ => ?_))
      | exact ih0 _ _ _
      | exact ih1 _ _ _ _
      | exact ih2 _ _ _ _ _
      | exact ih3 _ _ _ _ _ _ _
      | exact ih4 _ _ _ _ _ _
      | exact bailiwicklaw20_awake.mono _
      | exact conn_Next.mono _ _ _ _
      | exact LeO.none _
      | refine LeO.ite ?_ ?_
      | refine LeO.bind ?_ (fun _ => ?_)
    · intro y0 y1 y2 y3 y4 y5 y6
      unfold bailiwicklaw20_ConnOpens.j3
      repeat' first
      | (with_reducible exact ih0 _ _ _)
      | (with_reducible exact ih1 _ _ _ _)
      | (with_reducible exact ih2 _ _ _ _ _)
      | (with_reducible exact ih3 _ _ _ _ _ _ _)
      | (with_reducible exact ih4 _ _ _ _ _ _)
      | (with_reducible exact bailiwicklaw20_awake.mono _)
      | (with_reducible exact conn_Next.mono _ _ _ _)
      | (with_reducible exact LeO.refl _)
      | (with_reducible exact LeO.none _)
      | (with_reducible refine LeO.ite ?_ ?_)
      | (with_reducible refine LeO.bind ?_ (fun _ => ?_))
      | exact ih0 _ _ _
      | exact ih1 _ _ _ _
      | exact ih2 _ _ _ _ _
      | exact ih3 _ _ _ _ _ _ _
      | exact ih4 _ _ _ _ _ _
      | exact bailiwicklaw20_awake.mono _
      | exact conn_Next.mono _ _ _ _
      | exact LeO.none _
      | refine LeO.ite ?_ ?_
      | refine LeO.bind ?_ (fun _ => ?_)
    · intro y0 y1 y2 y3 y4 y5
      unfold bailiwicklaw20_ConnOpens.j4
      repeat' first
      | (with_reducible exact ih0 _ _ _)
      | (with_reducible exact ih1 _ _ _ _)
      | (with_reducible exact ih2 _ _ _ _ _)
      | (with_reducible exact ih3 _ _ _ _ _ _ _)
      | (with_reducible exact ih4 _ _ _ _ _ _)
      | (with_reducible exact bailiwicklaw20_awake.mono _)
      | (with_reducible exact conn_Next.mono _ _ _ _)
      | (with_reducible exact LeO.refl _)
      | (with_reducible exact LeO.none _)
      | (with_reducible refine LeO.ite ?_ ?_)
      | (with_reducible refine LeO.bind ?_ (fun _ => ?_))
      | exact ih0 _ _ _
      | exact ih1 _ _ _ _
      | exact ih2 _ _ _ _ _
      | exact ih3 _ _ _ _ _ _ _
      | exact ih4 _ _ _ _ _ _
      | exact bailiwicklaw20_awake.mono _
      | exact conn_Next.mono _ _ _ _
      | exact LeO.none _
      | refine LeO.ite ?_ ?_
      | refine LeO.bind ?_ (fun _ => ?_)
theorem bailiwicklaw20_ConnOpens.mono : ∀ a0 a1 k, LeO (bailiwicklaw20_ConnOpens.f k a0 a1) (bailiwicklaw20_ConnOpens.f (k + 1) a0 a1) := by
  intro a0 a1 k
  obtain ⟨ih0, ih1, ih2, ih3, ih4⟩ := bailiwicklaw20_ConnOpens.mono_l k
  unfold bailiwicklaw20_ConnOpens.f
  repeat' first
      | (with_reducible exact ih0 _ _ _)
      | (with_reducible exact ih1 _ _ _ _)
      | (with_reducible exact ih2 _ _ _ _ _)
      | (with_reducible exact ih3 _ _ _ _ _ _ _)
      | (with_reducible exact ih4 _ _ _ _ _ _)
      | (with_reducible exact bailiwicklaw20_awake.mono _)
      | (with_reducible exact conn_Next.mono _ _ _ _)
      | (with_reducible exact LeO.refl _)
      | (with_reducible exact LeO.none _)
      | (with_reducible refine LeO.ite ?_ ?_)
      | (with_reducible refine LeO.bind ?_ (fun _ => ?_))
      | exact ih0 _ _ _
      | exact ih1 _ _ _ _
      | exact ih2 _ _ _ _ _
      | exact ih3 _ _ _ _ _ _ _
      | exact ih4 _ _ _ _ _ _
      | exact bailiwicklaw20_awake.mono _
      | exact conn_Next.mono _ _ _ _
      | exact LeO.none _
      | refine LeO.ite ?_ ?_
      | refine LeO.bind ?_ (fun _ => ?_)
set_option maxHeartbeats 8000000 in
set_option maxRecDepth 100000 in
theorem bailiwicklaw20_ConnOpens.calls (k : Nat) (A0 : Option Addr) (c0 : Nat) (l0 : List Bool) (A1 : Option Addr) (c1 : Nat) (l1 : List Int) (r : Bool) (w : World) (hr0 : Kd.C Kd.bool w A0 l0.length l0) (hc0 : l0.length ≤ c0) (hr1 : Kd.C (Kd.int .u8) w A1 l1.length l1) (hc1 : l1.length ≤ c1) (h : bailiwicklaw20_ConnOpens.f k l0 l1 = some r) :
    Calls Try.prog 5 #[.slice A0 l0.length c0, .slice A1 l1.length c1] w fun e w' => e = .returned (.bool r) ∧ Below w.heap.size w w' := by
  have HR0 := Aside0.mk hr0
  have HC0 := Aside0.mk hc0
  clear hr0 hc0
  have HR1 := Aside0.mk hr1
  have HC1 := Aside0.mk hc1
  clear hr1 hc1
  have HB := Aside0.mk (Below.refl w.heap.size w)
  have H : ((bailiwicklaw20_awake.f k).bind fun t121 => (if t121 = true then (if (l0.length : Int) > 1000 then (bailiwicklaw20_ConnOpens.j0 k l0 l1 true) else (bailiwicklaw20_ConnOpens.j0 k l0 l1 (decide ((l1.length : Int) > 1000)))) else (some false))) = some r := h
  clear h
  replace H := Option.bind_eq_some_iff.mp H
  obtain ⟨t121, A30, H⟩ := H
  replace H : (if t121 = true then (if (l0.length : Int) > 1000 then (bailiwicklaw20_ConnOpens.j0 k l0 l1 true) else (bailiwicklaw20_ConnOpens.j0 k l0 l1 (decide ((l1.length : Int) > 1000)))) else (some false)) = some r := H
  have A3 := Aside0.mk A30
  clear A30
  by_cases c4 : t121 = true
  · subst c4
    have H1 : (if (l0.length : Int) > 1000 then (bailiwicklaw20_ConnOpens.j0 k l0 l1 true) else (bailiwicklaw20_ConnOpens.j0 k l0 l1 (decide ((l1.length : Int) > 1000)))) = some r := by rw [if_pos rfl] at H; exact H
    clear H
    have H := H1
    clear H1
    have HC5 := Aside0.mk H
    clear H
    go_enter Try.func5, Try.ntmps5
    go_upto_region 3 with (first | ((with_reducible refine gate_callee (f := 8) rfl ?_); refine goesL_ (some 9) rfl rfl Try.func8 (by kernel_rfl) rfl #[] rfl (by (try simp only [List.map_toArray, List.map_cons, List.map_nil]); first | done | rfl | (simp only [List.length_drop, List.length_take]; rfl)) ?_; (with_reducible refine (bailiwicklaw20_awake.calls k  true _ A3.out).mono ?_); rintro e w6 ⟨rfl, hb⟩; refine ⟨_, rfl, ?_⟩; have n0_ := Aside0.mk (below_step (by repeat (first | (with_reducible first | exact HB.out | apply below_alloc | apply pw_below_drewN | apply below_drew1) | exact HB.out)) hb); clear HB; have HB := n0_; clear n0_; (try clear hb); (try clear hb2); (try clear hk); (try clear hi)))
    (try simp only [Act.put, List.setIfInBounds_toArray, List.set_cons_zero, List.set_cons_succ])
    go_cut [18] (fun v18 wc => ∃ (kq : Nat) (x18_4 : Bool), v18 = .bool x18_4 ∧ Aside0 (bailiwicklaw20_ConnOpens.j0 kq l0 l1 x18_4 = some r) ∧ Aside0 (kq ≤ k) ∧ Aside0 (Below w.heap.size w wc))
    case first =>
      have H := HC5.out
      clear HC5
      by_cases c7 : (l0.length : Int) > 1000
      · rw [if_pos c7] at H
        have c7b0 : decide (1000 < (l0.length : Int)) = true := decide_eq_true c7
        have c7b1 : decide (1000 < l0.length) = true := decide_eq_true (by omega)
        clear c7
        (first | rw [c7b0] | (simp only [i64_w, i32_w]; rw [c7b0]) | skip)
        have H' := Aside0.mk H
        clear H
        go_wp2
        go_meet
        case rel => exact ⟨_, (true), (by first | rfl | (simp; done) | (simp [*]; done)), H', ⟨by first | omega | exact Nat.le_refl _⟩, ⟨by repeat (first | (with_reducible first | exact HB.out | apply below_alloc | apply pw_below_drewN | apply below_drew1) | exact HB.out)⟩⟩
      · rw [if_neg c7] at H
        have c7b0 : decide (1000 < (l0.length : Int)) = false := decide_eq_false c7
        have c7b1 : decide (1000 < l0.length) = false := decide_eq_false (by omega)
        clear c7
        (first | rw [c7b0] | (simp only [i64_w, i32_w]; rw [c7b0]) | skip)
        have H' := Aside0.mk H
        clear H
        go_wp2
        go_meet
        case rel => exact ⟨_, (decide ((l1.length : Int) > 1000)), (by first | rfl | (simp; done) | (simp [*]; done)), H', ⟨by first | omega | exact Nat.le_refl _⟩, ⟨by repeat (first | (with_reducible first | exact HB.out | apply below_alloc | apply pw_below_drewN | apply below_drew1) | exact HB.out)⟩⟩
    case rest =>
      clear HC5
      try clear c1
      try clear p2
      try clear c4
      try clear c5
      try clear c7
      try clear c7b0
      try clear c7b1
      obtain ⟨kq, x18_4, rfl, HA, HJ4, HB⟩ := hcut
      cases kq with
      | zero => exact absurd HA.out (by simp [bailiwicklaw20_ConnOpens.j0])
      | succ kj4 =>
        have H := HA.out
        clear HA
        simp only [bailiwicklaw20_ConnOpens.j0] at H
        by_cases c8 : x18_4 = true
        · subst c8
          have H1 : (some true) = some r := by rw [if_pos rfl] at H; exact H
          clear H
          have H := H1
          clear H1
          obtain rfl := Option.some.inj H
          go_wp2
          go_ret
          exact ⟨by first | rfl | (simp [errW_none, errW_some] <;> rfl) | (simp [*, errW_none, errW_some] <;> rfl), by repeat (first | (with_reducible first | exact HB.out | apply below_alloc | apply pw_below_drewN | apply below_drew1) | exact HB.out)⟩
        · replace c8 := Bool.eq_false_iff.mpr c8
          subst c8
          have H1 : (bailiwicklaw20_ConnOpens.l0 kj4 l0 l1 0 0) = some r := by rw [if_neg (show ¬ (false = true) by decide)] at H; exact H
          clear H
          have H := H1
          clear H1
          have H' := Aside0.mk H
          clear H
          go_wp2
          go_loopg [5, 6] kj4 (fun kq v5 v6 w' => ∃ (x5_2 : Int) (x6_2 : Int), v5 = .int .i64 x5_2 ∧ v6 = .int .i64 x6_2 ∧ Aside0 (bailiwicklaw20_ConnOpens.l0 kq l0 l1 x5_2 x6_2 = some r) ∧ Aside0 (kq ≤ kj4) ∧ Aside0 (Below w.heap.size w w'))
          case atStart => exact ⟨(0), (0), (by first | rfl | (simp; done) | (simp [*]; done)), (by first | rfl | (simp; done) | (simp [*]; done)), H', ⟨Nat.le_refl _⟩, ⟨by repeat (first | (with_reducible first | exact HB.out | apply below_alloc | apply pw_below_drewN | apply below_drew1) | exact HB.out)⟩⟩
          case round =>
            clear H'
            try clear c1
            try clear p2
            try clear c4
            try clear c5
            try clear c7
            try clear c7b0
            try clear c7b1
            try clear c8
            try clear p2
            obtain ⟨x5_2, x6_2, rfl, rfl, HA, HK2, HB⟩ := hrel
            cases gk with
            | zero => exact absurd HA.out (by simp [bailiwicklaw20_ConnOpens.l0])
            | succ k2 =>
              have H := HA.out
              clear HA
              simp only [bailiwicklaw20_ConnOpens.l0] at H
              have HC9 := Aside0.mk H
              clear H
              go_upto_region 7 with (fail)
              go_cut [28] (fun v28 wc => ∃ (kq : Nat) (x28_8 : Bool), v28 = .bool x28_8 ∧ Aside0 (bailiwicklaw20_ConnOpens.j2 kq l0 l1 x5_2 x6_2 x28_8 = some r) ∧ Aside0 (kq ≤ k2) ∧ Aside0 (Below w.heap.size w wc))
              case first =>
                have H := HC9.out
                clear HC9
                by_cases c10 : x6_2 < (l0.length : Int)
                · rw [if_pos c10] at H
                  have c10b0 : decide (x6_2 < (l0.length : Int)) = true := decide_eq_true c10
                  clear c10
                  (first | rw [c10b0] | (simp only [i64_w, i32_w]; rw [c10b0]) | skip)
                  have H' := Aside0.mk H
                  clear H
                  go_wp2
                  go_meet
                  case rel => exact ⟨_, (decide (x6_2 < (l1.length : Int))), (by first | rfl | (simp; done) | (simp [*]; done)), H', ⟨by have := HJ4.out; have := HK2.out; first | omega | exact Nat.le_refl _⟩, ⟨by repeat (first | (with_reducible first | exact HB.out | apply below_alloc | apply pw_below_drewN | apply below_drew1) | exact HB.out)⟩⟩
                · rw [if_neg c10] at H
                  have c10b0 : decide (x6_2 < (l0.length : Int)) = false := decide_eq_false c10
                  clear c10
                  (first | rw [c10b0] | (simp only [i64_w, i32_w]; rw [c10b0]) | skip)
                  have H' := Aside0.mk H
                  clear H
                  go_wp2
                  go_meet
                  case rel => exact ⟨_, (false), (by first | rfl | (simp; done) | (simp [*]; done)), H', ⟨by have := HJ4.out; have := HK2.out; first | omega | exact Nat.le_refl _⟩, ⟨by repeat (first | (with_reducible first | exact HB.out | apply below_alloc | apply pw_below_drewN | apply below_drew1) | exact HB.out)⟩⟩
              case rest =>
                clear HC9
                try clear c1
                try clear p2
                try clear c4
                try clear c5
                try clear c7
                try clear c7b0
                try clear c7b1
                try clear c8
                try clear c10
                try clear c10b0
                try clear p2
                obtain ⟨kq, x28_8, rfl, HA, HJ8, HB⟩ := hcut
                cases kq with
                | zero => exact absurd HA.out (by simp [bailiwicklaw20_ConnOpens.j2])
                | succ kj8 =>
                  have H := HA.out
                  clear HA
                  simp only [bailiwicklaw20_ConnOpens.j2] at H
                  by_cases c11 : x28_8 = true
                  · subst c11
                    have H1 : (if 0 ≤ x6_2 then (if x6_2 < (l1.length : Int) then (if x6_2 < (l0.length : Int) then ((conn_Next.f kj8 x5_2 (rdOf false l0 x6_2) (wrap64 (rd l1 x6_2))).bind fun t124 => (if t124 = 4 then (if x5_2 = 4 then (bailiwicklaw20_ConnOpens.j3 kj8 l0 l1 x5_2 x6_2 (wrap64 (rd l1 x6_2)) t124 false) else (if (Go.bits .and .i64 (wrap64 (rd l1 x6_2)) 2) = 0 then (bailiwicklaw20_ConnOpens.j3 kj8 l0 l1 x5_2 x6_2 (wrap64 (rd l1 x6_2)) t124 true) else (if (Go.bits .and .i64 (wrap64 (rd l1 x6_2)) 4) = 0 then (if x5_2 = 2 then (bailiwicklaw20_ConnOpens.j3 kj8 l0 l1 x5_2 x6_2 (wrap64 (rd l1 x6_2)) t124 ((x5_2 == 2) == (rdOf false l0 x6_2))) else (if x5_2 = 3 then (bailiwicklaw20_ConnOpens.j3 kj8 l0 l1 x5_2 x6_2 (wrap64 (rd l1 x6_2)) t124 ((x5_2 == 2) == (rdOf false l0 x6_2))) else (bailiwicklaw20_ConnOpens.j3 kj8 l0 l1 x5_2 x6_2 (wrap64 (rd l1 x6_2)) t124 true))) else (bailiwicklaw20_ConnOpens.j3 kj8 l0 l1 x5_2 x6_2 (wrap64 (rd l1 x6_2)) t124 true)))) else (bailiwicklaw20_ConnOpens.j3 kj8 l0 l1 x5_2 x6_2 (wrap64 (rd l1 x6_2)) t124 false))) else (none)) else (none)) else (none)) = some r := by rw [if_pos rfl] at H; exact H
                    clear H
                    have H := H1
                    clear H1
                    by_cases c12 : 0 ≤ x6_2
                    · rw [if_pos c12] at H
                      have c12b0 : decide (0 ≤ x6_2) = true := decide_eq_true c12
                      clear c12
                      by_cases c13 : x6_2 < (l1.length : Int)
                      · rw [if_pos c13] at H
                        have c13b0 : decide (x6_2 < (l1.length : Int)) = true := decide_eq_true c13
                        clear c13
                        by_cases c14 : x6_2 < (l0.length : Int)
                        · rw [if_pos c14] at H
                          have c14b0 : decide (x6_2 < (l0.length : Int)) = true := decide_eq_true c14
                          clear c14
                          replace H := Option.bind_eq_some_iff.mp H
                          obtain ⟨t124, A150, H⟩ := H
                          replace H : (if t124 = 4 then (if x5_2 = 4 then (bailiwicklaw20_ConnOpens.j3 kj8 l0 l1 x5_2 x6_2 (wrap64 (rd l1 x6_2)) t124 false) else (if (Go.bits .and .i64 (wrap64 (rd l1 x6_2)) 2) = 0 then (bailiwicklaw20_ConnOpens.j3 kj8 l0 l1 x5_2 x6_2 (wrap64 (rd l1 x6_2)) t124 true) else (if (Go.bits .and .i64 (wrap64 (rd l1 x6_2)) 4) = 0 then (if x5_2 = 2 then (bailiwicklaw20_ConnOpens.j3 kj8 l0 l1 x5_2 x6_2 (wrap64 (rd l1 x6_2)) t124 ((x5_2 == 2) == (rdOf false l0 x6_2))) else (if x5_2 = 3 then (bailiwicklaw20_ConnOpens.j3 kj8 l0 l1 x5_2 x6_2 (wrap64 (rd l1 x6_2)) t124 ((x5_2 == 2) == (rdOf false l0 x6_2))) else (bailiwicklaw20_ConnOpens.j3 kj8 l0 l1 x5_2 x6_2 (wrap64 (rd l1 x6_2)) t124 true))) else (bailiwicklaw20_ConnOpens.j3 kj8 l0 l1 x5_2 x6_2 (wrap64 (rd l1 x6_2)) t124 true)))) else (bailiwicklaw20_ConnOpens.j3 kj8 l0 l1 x5_2 x6_2 (wrap64 (rd l1 x6_2)) t124 false)) = some r := H
                          have A15 := Aside0.mk A150
                          clear A150
                          have HC16 := Aside0.mk H
                          clear H
                          have p122 : 0 ≤ (x6_2 : Int) := of_decide_eq_true (by first | (with_reducible assumption) | assumption)
                          have q122 : x6_2 < (l1.length : Int) := of_decide_eq_true (by first | (with_reducible assumption) | assumption)
                          obtain ⟨ad122, e122, hx122_0⟩ := Kd.at_int HR1.out x6_2 p122 q122
                          cases e122
                          replace hx122_0 := (HB.out.cell (World.block_lt_of_cell? w _ hx122_0)).trans hx122_0
                          replace p122 := eq_true p122
                          replace q122 := eq_true q122
                          have p123 : 0 ≤ (x6_2 : Int) := of_decide_eq_true (by first | (with_reducible assumption) | assumption)
                          have q123 : x6_2 < (l0.length : Int) := of_decide_eq_true (by first | (with_reducible assumption) | assumption)
                          obtain ⟨ad123, e123, hx123_0⟩ := Kd.at_bool HR0.out x6_2 p123 q123
                          cases e123
                          replace hx123_0 := (HB.out.cell (World.block_lt_of_cell? w _ hx123_0)).trans hx123_0
                          replace p123 := eq_true p123
                          replace q123 := eq_true q123
                          go_upto_region 11 with (first | ((with_reducible refine gate_callee (f := 9) rfl ?_); refine goesL_ (some 42) rfl rfl Try.func9 (by kernel_rfl) rfl #[.int .i64 x5_2, .bool (rdOf false l0 x6_2), .int .i64 (wrap64 (rd l1 x6_2))] rfl (by (try simp only [List.map_toArray, List.map_cons, List.map_nil]); first | done | rfl | (simp only [List.length_drop, List.length_take]; rfl)) ?_; (with_reducible refine (conn_Next.calls kj8 x5_2 (rdOf false l0 x6_2) (wrap64 (rd l1 x6_2)) t124 _ A15.out).mono ?_); rintro e w17 ⟨rfl, hb⟩; refine ⟨_, rfl, ?_⟩; have n0_ := Aside0.mk (below_step (by repeat (first | (with_reducible first | exact HB.out | apply below_alloc | apply pw_below_drewN | apply below_drew1) | exact HB.out)) hb); clear HB; have HB := n0_; clear n0_; (try clear hb); (try clear hb2); (try clear hk); (try clear hi)))
                          (try simp only [Act.put, List.setIfInBounds_toArray, List.set_cons_zero, List.set_cons_succ])
                          go_cut [75] (fun v75 wc => ∃ (kq : Nat) (x75_15 : Bool), v75 = .bool x75_15 ∧ Aside0 (bailiwicklaw20_ConnOpens.j3 kq l0 l1 x5_2 x6_2 (wrap64 (rd l1 x6_2)) t124 x75_15 = some r) ∧ Aside0 (kq ≤ kj8) ∧ Aside0 (Below w.heap.size w wc))
                          case first =>
                            have H := HC16.out
                            clear HC16
                            by_cases c18 : t124 = 4
                            · rw [if_pos c18] at H
                              have c18b0 : (t124 == 4) = true := beq_iff_eq.mpr c18
                              have c18b1 : (t124 != 4) = false := bne_eq_false_iff_eq.mpr c18
                              clear c18
                              (first | rw [c18b0] | (simp only [i64_w, i32_w]; rw [c18b0]) | skip)
                              by_cases c19 : x5_2 = 4
                              · rw [if_pos c19] at H
                                have c19b0 : (x5_2 == 4) = true := beq_iff_eq.mpr c19
                                have c19b1 : (x5_2 != 4) = false := bne_eq_false_iff_eq.mpr c19
                                clear c19
                                have H' := Aside0.mk H
                                clear H
                                go_wp2
                                go_meet
                                case rel => exact ⟨_, (false), (by first | rfl | (simp; done) | (simp [*]; done)), H', ⟨by have := HJ4.out; have := HK2.out; have := HJ8.out; first | omega | exact Nat.le_refl _⟩, ⟨by repeat (first | (with_reducible first | exact HB.out | apply below_alloc | apply pw_below_drewN | apply below_drew1) | exact HB.out)⟩⟩
                              · rw [if_neg c19] at H
                                have c19b0 : (x5_2 == 4) = false := beq_eq_false_iff_ne.mpr c19
                                have c19b1 : (x5_2 != 4) = true := bne_iff_ne.mpr c19
                                by_cases c20 : (Go.bits .and .i64 (wrap64 (rd l1 x6_2)) 2) = 0
                                · rw [if_pos c20] at H
                                  have c20b0 : ((Go.bits .and .i64 (wrap64 (rd l1 x6_2)) 2) == 0) = true := beq_iff_eq.mpr c20
                                  have c20b1 : ((Go.bits .and .i64 (wrap64 (rd l1 x6_2)) 2) != 0) = false := bne_eq_false_iff_eq.mpr c20
                                  clear c20
                                  have H' := Aside0.mk H
                                  clear H
                                  go_wp2
                                  go_meet
                                  case rel => exact ⟨_, (true), (by first | rfl | (simp; done) | (simp [*]; done)), H', ⟨by have := HJ4.out; have := HK2.out; have := HJ8.out; first | omega | exact Nat.le_refl _⟩, ⟨by repeat (first | (with_reducible first | exact HB.out | apply below_alloc | apply pw_below_drewN | apply below_drew1) | exact HB.out)⟩⟩
                                · rw [if_neg c20] at H
                                  have c20b0 : ((Go.bits .and .i64 (wrap64 (rd l1 x6_2)) 2) == 0) = false := beq_eq_false_iff_ne.mpr c20
                                  have c20b1 : ((Go.bits .and .i64 (wrap64 (rd l1 x6_2)) 2) != 0) = true := bne_iff_ne.mpr c20
                                  by_cases c21 : (Go.bits .and .i64 (wrap64 (rd l1 x6_2)) 4) = 0
                                  · rw [if_pos c21] at H
                                    have c21b0 : ((Go.bits .and .i64 (wrap64 (rd l1 x6_2)) 4) == 0) = true := beq_iff_eq.mpr c21
                                    have c21b1 : ((Go.bits .and .i64 (wrap64 (rd l1 x6_2)) 4) != 0) = false := bne_eq_false_iff_eq.mpr c21
                                    clear c21
                                    by_cases c22 : x5_2 = 2
                                    · rw [if_pos c22] at H
                                      have c22b0 : (x5_2 == 2) = true := beq_iff_eq.mpr c22
                                      have c22b1 : (x5_2 != 2) = false := bne_eq_false_iff_eq.mpr c22
                                      clear c22
                                      have H' := Aside0.mk H
                                      clear H
                                      have p125 : 0 ≤ (x6_2 : Int) := of_decide_eq_true (by first | (with_reducible assumption) | assumption)
                                      have q125 : x6_2 < (l0.length : Int) := of_decide_eq_true (by first | (with_reducible assumption) | assumption)
                                      obtain ⟨ad125, e125, hx125_0⟩ := Kd.at_bool HR0.out x6_2 p125 q125
                                      obtain rfl : ad123 = ad125 := (by injection e125)
                                      replace hx125_0 := (HB.out.cell (World.block_lt_of_cell? w _ hx125_0)).trans hx125_0
                                      replace p125 := eq_true p125
                                      replace q125 := eq_true q125
                                      go_wp2
                                      go_meet
                                      case rel => exact ⟨_, (((x5_2 == 2) == (rdOf false l0 x6_2))), (by first | rfl | (simp; done) | (simp [*]; done)), H', ⟨by have := HJ4.out; have := HK2.out; have := HJ8.out; first | omega | exact Nat.le_refl _⟩, ⟨by repeat (first | (with_reducible first | exact HB.out | apply below_alloc | apply pw_below_drewN | apply below_drew1) | exact HB.out)⟩⟩
                                    · rw [if_neg c22] at H
                                      have c22b0 : (x5_2 == 2) = false := beq_eq_false_iff_ne.mpr c22
                                      have c22b1 : (x5_2 != 2) = true := bne_iff_ne.mpr c22
                                      by_cases c23 : x5_2 = 3
                                      · rw [if_pos c23] at H
                                        have c23b0 : (x5_2 == 3) = true := beq_iff_eq.mpr c23
                                        have c23b1 : (x5_2 != 3) = false := bne_eq_false_iff_eq.mpr c23
                                        clear c23
                                        have H' := Aside0.mk H
                                        clear H
                                        have p126 : 0 ≤ (x6_2 : Int) := of_decide_eq_true (by first | (with_reducible assumption) | assumption)
                                        have q126 : x6_2 < (l0.length : Int) := of_decide_eq_true (by first | (with_reducible assumption) | assumption)
                                        obtain ⟨ad126, e126, hx126_0⟩ := Kd.at_bool HR0.out x6_2 p126 q126
                                        obtain rfl : ad123 = ad126 := (by injection e126)
                                        replace hx126_0 := (HB.out.cell (World.block_lt_of_cell? w _ hx126_0)).trans hx126_0
                                        replace p126 := eq_true p126
                                        replace q126 := eq_true q126
                                        go_wp2
                                        go_meet
                                        case rel => exact ⟨_, (((x5_2 == 2) == (rdOf false l0 x6_2))), (by first | rfl | (simp; done) | (simp [*]; done)), H', ⟨by have := HJ4.out; have := HK2.out; have := HJ8.out; first | omega | exact Nat.le_refl _⟩, ⟨by repeat (first | (with_reducible first | exact HB.out | apply below_alloc | apply pw_below_drewN | apply below_drew1) | exact HB.out)⟩⟩
                                      · rw [if_neg c23] at H
                                        have c23b0 : (x5_2 == 3) = false := beq_eq_false_iff_ne.mpr c23
                                        have c23b1 : (x5_2 != 3) = true := bne_iff_ne.mpr c23
                                        have H' := Aside0.mk H
                                        clear H
                                        go_wp2
                                        go_meet
                                        case rel => exact ⟨_, (true), (by first | rfl | (simp; done) | (simp [*]; done)), H', ⟨by have := HJ4.out; have := HK2.out; have := HJ8.out; first | omega | exact Nat.le_refl _⟩, ⟨by repeat (first | (with_reducible first | exact HB.out | apply below_alloc | apply pw_below_drewN | apply below_drew1) | exact HB.out)⟩⟩
                                  · rw [if_neg c21] at H
                                    have c21b0 : ((Go.bits .and .i64 (wrap64 (rd l1 x6_2)) 4) == 0) = false := beq_eq_false_iff_ne.mpr c21
                                    have c21b1 : ((Go.bits .and .i64 (wrap64 (rd l1 x6_2)) 4) != 0) = true := bne_iff_ne.mpr c21
                                    have H' := Aside0.mk H
                                    clear H
                                    go_wp2
                                    go_meet
                                    case rel => exact ⟨_, (true), (by first | rfl | (simp; done) | (simp [*]; done)), H', ⟨by have := HJ4.out; have := HK2.out; have := HJ8.out; first | omega | exact Nat.le_refl _⟩, ⟨by repeat (first | (with_reducible first | exact HB.out | apply below_alloc | apply pw_below_drewN | apply below_drew1) | exact HB.out)⟩⟩
                            · rw [if_neg c18] at H
                              have c18b0 : (t124 == 4) = false := beq_eq_false_iff_ne.mpr c18
                              have c18b1 : (t124 != 4) = true := bne_iff_ne.mpr c18
                              (first | rw [c18b0] | (simp only [i64_w, i32_w]; rw [c18b0]) | skip)
                              have H' := Aside0.mk H
                              clear H
                              go_wp2
                              go_meet
                              case rel => exact ⟨_, (false), (by first | rfl | (simp; done) | (simp [*]; done)), H', ⟨by have := HJ4.out; have := HK2.out; have := HJ8.out; first | omega | exact Nat.le_refl _⟩, ⟨by repeat (first | (with_reducible first | exact HB.out | apply below_alloc | apply pw_below_drewN | apply below_drew1) | exact HB.out)⟩⟩
                          case rest =>
                            clear HC16
                            try clear c1
                            try clear p1
                            try clear q1
                            try clear hx1
                            try clear c2
                            try clear p2
                            try clear c4
                            try clear c5
                            try clear p6
                            try clear c7
                            try clear c7b0
                            try clear c7b1
                            try clear c8
                            try clear c9
                            try clear c10
                            try clear c10b0
                            try clear c11
                            try clear c12
                            try clear c12b0
                            try clear p12
                            try clear q12
                            try clear hx12
                            try clear c13
                            try clear c13b0
                            try clear c14
                            try clear c14b0
                            try clear c18
                            try clear c18b0
                            try clear c18b1
                            try clear c19
                            try clear c19b0
                            try clear c19b1
                            try clear c20
                            try clear c20b0
                            try clear c20b1
                            try clear c21
                            try clear c21b0
                            try clear c21b1
                            try clear c22
                            try clear c22b0
                            try clear c22b1
                            try clear c23
                            try clear c23b0
                            try clear c23b1
                            try clear hx122_0
                            try clear hx123_0
                            try clear hx125_0
                            try clear hx126_0
                            try clear p122
                            try clear p123
                            try clear p125
                            try clear p126
                            try clear p2
                            try clear q122
                            try clear q123
                            try clear q125
                            try clear q126
                            obtain ⟨kq, x75_15, rfl, HA, HJ15, HB⟩ := hcut
                            cases kq with
                            | zero => exact absurd HA.out (by simp [bailiwicklaw20_ConnOpens.j3])
                            | succ kj15 =>
                              have H := HA.out
                              clear HA
                              simp only [bailiwicklaw20_ConnOpens.j3] at H
                              by_cases c24 : x75_15 = true
                              · subst c24
                                have H1 : (some false) = some r := by rw [if_pos rfl] at H; exact H
                                clear H
                                have H := H1
                                clear H1
                                obtain rfl := Option.some.inj H
                                go_wp2
                                go_ret
                                exact ⟨by first | rfl | (simp [errW_none, errW_some] <;> rfl) | (simp [*, errW_none, errW_some] <;> rfl), by repeat (first | (with_reducible first | exact HB.out | apply below_alloc | apply pw_below_drewN | apply below_drew1) | exact HB.out)⟩
                              · replace c24 := Bool.eq_false_iff.mpr c24
                                subst c24
                                have H1 : (if x5_2 = 4 then (if t124 = 4 then (bailiwicklaw20_ConnOpens.j4 kj15 l0 l1 x6_2 (wrap64 (rd l1 x6_2)) t124 false) else (bailiwicklaw20_ConnOpens.j4 kj15 l0 l1 x6_2 (wrap64 (rd l1 x6_2)) t124 ((Go.bits .and .i64 (wrap64 (rd l1 x6_2)) 5) == 0))) else (bailiwicklaw20_ConnOpens.j4 kj15 l0 l1 x6_2 (wrap64 (rd l1 x6_2)) t124 false)) = some r := by rw [if_neg (show ¬ (false = true) by decide)] at H; exact H
                                clear H
                                have H := H1
                                clear H1
                                have HC25 := Aside0.mk H
                                clear H
                                go_upto_region 13 with (fail)
                                go_cut [86] (fun v86 wc => ∃ (kq : Nat) (x86_24 : Bool), v86 = .bool x86_24 ∧ Aside0 (bailiwicklaw20_ConnOpens.j4 kq l0 l1 x6_2 (wrap64 (rd l1 x6_2)) t124 x86_24 = some r) ∧ Aside0 (kq ≤ kj15) ∧ Aside0 (Below w.heap.size w wc))
                                case first =>
                                  have H := HC25.out
                                  clear HC25
                                  by_cases c26 : x5_2 = 4
                                  · rw [if_pos c26] at H
                                    have c26b0 : (x5_2 == 4) = true := beq_iff_eq.mpr c26
                                    have c26b1 : (x5_2 != 4) = false := bne_eq_false_iff_eq.mpr c26
                                    clear c26
                                    (first | rw [c26b0] | (simp only [i64_w, i32_w]; rw [c26b0]) | skip)
                                    by_cases c27 : t124 = 4
                                    · rw [if_pos c27] at H
                                      have c27b0 : (t124 == 4) = true := beq_iff_eq.mpr c27
                                      have c27b1 : (t124 != 4) = false := bne_eq_false_iff_eq.mpr c27
                                      clear c27
                                      have H' := Aside0.mk H
                                      clear H
                                      go_wp2
                                      go_meet
                                      case rel => exact ⟨_, (false), (by first | rfl | (simp; done) | (simp [*]; done)), H', ⟨by have := HJ4.out; have := HK2.out; have := HJ8.out; have := HJ15.out; first | omega | exact Nat.le_refl _⟩, ⟨by repeat (first | (with_reducible first | exact HB.out | apply below_alloc | apply pw_below_drewN | apply below_drew1) | exact HB.out)⟩⟩
                                    · rw [if_neg c27] at H
                                      have c27b0 : (t124 == 4) = false := beq_eq_false_iff_ne.mpr c27
                                      have c27b1 : (t124 != 4) = true := bne_iff_ne.mpr c27
                                      have H' := Aside0.mk H
                                      clear H
                                      go_wp2
                                      go_meet
                                      case rel => exact ⟨_, (((Go.bits .and .i64 (wrap64 (rd l1 x6_2)) 5) == 0)), (by first | rfl | (simp; done) | (simp [*]; done)), H', ⟨by have := HJ4.out; have := HK2.out; have := HJ8.out; have := HJ15.out; first | omega | exact Nat.le_refl _⟩, ⟨by repeat (first | (with_reducible first | exact HB.out | apply below_alloc | apply pw_below_drewN | apply below_drew1) | exact HB.out)⟩⟩
                                  · rw [if_neg c26] at H
                                    have c26b0 : (x5_2 == 4) = false := beq_eq_false_iff_ne.mpr c26
                                    have c26b1 : (x5_2 != 4) = true := bne_iff_ne.mpr c26
                                    (first | rw [c26b0] | (simp only [i64_w, i32_w]; rw [c26b0]) | skip)
                                    have H' := Aside0.mk H
                                    clear H
                                    go_wp2
                                    go_meet
                                    case rel => exact ⟨_, (false), (by first | rfl | (simp; done) | (simp [*]; done)), H', ⟨by have := HJ4.out; have := HK2.out; have := HJ8.out; have := HJ15.out; first | omega | exact Nat.le_refl _⟩, ⟨by repeat (first | (with_reducible first | exact HB.out | apply below_alloc | apply pw_below_drewN | apply below_drew1) | exact HB.out)⟩⟩
                                case rest =>
                                  clear HC25
                                  try clear c1
                                  try clear p1
                                  try clear q1
                                  try clear hx1
                                  try clear c2
                                  try clear p2
                                  try clear c4
                                  try clear c5
                                  try clear p6
                                  try clear c7
                                  try clear c7b0
                                  try clear c7b1
                                  try clear c8
                                  try clear c9
                                  try clear c10
                                  try clear c10b0
                                  try clear c11
                                  try clear c12
                                  try clear c12b0
                                  try clear p12
                                  try clear q12
                                  try clear hx12
                                  try clear c13
                                  try clear c13b0
                                  try clear c14
                                  try clear c14b0
                                  try clear c18
                                  try clear c18b0
                                  try clear c18b1
                                  try clear c19
                                  try clear c19b0
                                  try clear c19b1
                                  try clear c20
                                  try clear c20b0
                                  try clear c20b1
                                  try clear c21
                                  try clear c21b0
                                  try clear c21b1
                                  try clear c22
                                  try clear c22b0
                                  try clear c22b1
                                  try clear c23
                                  try clear c23b0
                                  try clear c23b1
                                  try clear c24
                                  try clear c26
                                  try clear c26b0
                                  try clear c26b1
                                  try clear c27
                                  try clear c27b0
                                  try clear c27b1
                                  try clear hx122_0
                                  try clear hx123_0
                                  try clear hx125_0
                                  try clear hx126_0
                                  try clear p1
                                  try clear p12
                                  try clear p122
                                  try clear p123
                                  try clear p125
                                  try clear p126
                                  try clear p2
                                  try clear p6
                                  try clear q1
                                  try clear q12
                                  try clear q122
                                  try clear q123
                                  try clear q125
                                  try clear q126
                                  obtain ⟨kq, x86_24, rfl, HA, HJ24, HB⟩ := hcut
                                  cases kq with
                                  | zero => exact absurd HA.out (by simp [bailiwicklaw20_ConnOpens.j4])
                                  | succ kj24 =>
                                    have H := HA.out
                                    clear HA
                                    simp only [bailiwicklaw20_ConnOpens.j4] at H
                                    by_cases c28 : x86_24 = true
                                    · subst c28
                                      have H1 : (some false) = some r := by rw [if_pos rfl] at H; exact H
                                      clear H
                                      have H := H1
                                      clear H1
                                      obtain rfl := Option.some.inj H
                                      go_wp2
                                      go_ret
                                      exact ⟨by first | rfl | (simp [errW_none, errW_some] <;> rfl) | (simp [*, errW_none, errW_some] <;> rfl), by repeat (first | (with_reducible first | exact HB.out | apply below_alloc | apply pw_below_drewN | apply below_drew1) | exact HB.out)⟩
                                    · replace c28 := Bool.eq_false_iff.mpr c28
                                      subst c28
                                      have H1 : (if (Go.bits .and .i64 (wrap64 (rd l1 x6_2)) 4) = 0 then (if t124 < 0 then (some false) else (if t124 > 8 then (some false) else (bailiwicklaw20_ConnOpens.l0 kj24 l0 l1 t124 (wrap64 (x6_2 + 1))))) else (if t124 = 8 then (if t124 < 0 then (some false) else (if t124 > 8 then (some false) else (bailiwicklaw20_ConnOpens.l0 kj24 l0 l1 t124 (wrap64 (x6_2 + 1))))) else (some false))) = some r := by rw [if_neg (show ¬ (false = true) by decide)] at H; exact H
                                      clear H
                                      have H := H1
                                      clear H1
                                      by_cases c29 : (Go.bits .and .i64 (wrap64 (rd l1 x6_2)) 4) = 0
                                      · rw [if_pos c29] at H
                                        have c29b0 : ((Go.bits .and .i64 (wrap64 (rd l1 x6_2)) 4) == 0) = true := beq_iff_eq.mpr c29
                                        have c29b1 : ((Go.bits .and .i64 (wrap64 (rd l1 x6_2)) 4) != 0) = false := bne_eq_false_iff_eq.mpr c29
                                        clear c29
                                        by_cases c30 : t124 < 0
                                        · rw [if_pos c30] at H
                                          have c30b0 : decide (t124 < 0) = true := decide_eq_true c30
                                          clear c30
                                          obtain rfl := Option.some.inj H
                                          go_wp2
                                          go_ret
                                          exact ⟨by first | rfl | (simp [errW_none, errW_some] <;> rfl) | (simp [*, errW_none, errW_some] <;> rfl), by repeat (first | (with_reducible first | exact HB.out | apply below_alloc | apply pw_below_drewN | apply below_drew1) | exact HB.out)⟩
                                        · rw [if_neg c30] at H
                                          have c30b0 : decide (t124 < 0) = false := decide_eq_false c30
                                          clear c30
                                          by_cases c31 : t124 > 8
                                          · rw [if_pos c31] at H
                                            have c31b0 : decide (8 < t124) = true := decide_eq_true c31
                                            clear c31
                                            obtain rfl := Option.some.inj H
                                            go_wp2
                                            go_ret
                                            exact ⟨by first | rfl | (simp [errW_none, errW_some] <;> rfl) | (simp [*, errW_none, errW_some] <;> rfl), by repeat (first | (with_reducible first | exact HB.out | apply below_alloc | apply pw_below_drewN | apply below_drew1) | exact HB.out)⟩
                                          · rw [if_neg c31] at H
                                            have c31b0 : decide (8 < t124) = false := decide_eq_false c31
                                            clear c31
                                            have H' := Aside0.mk H
                                            clear H
                                            go_wp2
                                            go_roundg kj24
                                            case measure => have := HJ4.out; have := HK2.out; have := HJ8.out; have := HJ15.out; have := HJ24.out; omega
                                            case rel => exact ⟨(t124), (wrap64 (x6_2 + 1)), (by first | rfl | (simp; done) | (simp [*]; done)), (by first | rfl | (simp; done) | (simp [*]; done)), H', ⟨by have := HJ4.out; have := HK2.out; have := HJ8.out; have := HJ15.out; have := HJ24.out; omega⟩, ⟨by repeat (first | (with_reducible first | exact HB.out | apply below_alloc | apply pw_below_drewN | apply below_drew1) | exact HB.out)⟩⟩
                                      · rw [if_neg c29] at H
                                        have c29b0 : ((Go.bits .and .i64 (wrap64 (rd l1 x6_2)) 4) == 0) = false := beq_eq_false_iff_ne.mpr c29
                                        have c29b1 : ((Go.bits .and .i64 (wrap64 (rd l1 x6_2)) 4) != 0) = true := bne_iff_ne.mpr c29
                                        by_cases c32 : t124 = 8
                                        · rw [if_pos c32] at H
                                          have c32b0 : (t124 == 8) = true := beq_iff_eq.mpr c32
                                          have c32b1 : (t124 != 8) = false := bne_eq_false_iff_eq.mpr c32
                                          clear c32
                                          by_cases c33 : t124 < 0
                                          · rw [if_pos c33] at H
                                            have c33b0 : decide (t124 < 0) = true := decide_eq_true c33
                                            clear c33
                                            obtain rfl := Option.some.inj H
                                            go_wp2
                                            go_ret
                                            exact ⟨by first | rfl | (simp [errW_none, errW_some] <;> rfl) | (simp [*, errW_none, errW_some] <;> rfl), by repeat (first | (with_reducible first | exact HB.out | apply below_alloc | apply pw_below_drewN | apply below_drew1) | exact HB.out)⟩
                                          · rw [if_neg c33] at H
                                            have c33b0 : decide (t124 < 0) = false := decide_eq_false c33
                                            clear c33
                                            by_cases c34 : t124 > 8
                                            · rw [if_pos c34] at H
                                              have c34b0 : decide (8 < t124) = true := decide_eq_true c34
                                              clear c34
                                              obtain rfl := Option.some.inj H
                                              go_wp2
                                              go_ret
                                              exact ⟨by first | rfl | (simp [errW_none, errW_some] <;> rfl) | (simp [*, errW_none, errW_some] <;> rfl), by repeat (first | (with_reducible first | exact HB.out | apply below_alloc | apply pw_below_drewN | apply below_drew1) | exact HB.out)⟩
                                            · rw [if_neg c34] at H
                                              have c34b0 : decide (8 < t124) = false := decide_eq_false c34
                                              clear c34
                                              have H' := Aside0.mk H
                                              clear H
                                              go_wp2
                                              go_roundg kj24
                                              case measure => have := HJ4.out; have := HK2.out; have := HJ8.out; have := HJ15.out; have := HJ24.out; omega
                                              case rel => exact ⟨(t124), (wrap64 (x6_2 + 1)), (by first | rfl | (simp; done) | (simp [*]; done)), (by first | rfl | (simp; done) | (simp [*]; done)), H', ⟨by have := HJ4.out; have := HK2.out; have := HJ8.out; have := HJ15.out; have := HJ24.out; omega⟩, ⟨by repeat (first | (with_reducible first | exact HB.out | apply below_alloc | apply pw_below_drewN | apply below_drew1) | exact HB.out)⟩⟩
                                        · rw [if_neg c32] at H
                                          have c32b0 : (t124 == 8) = false := beq_eq_false_iff_ne.mpr c32
                                          have c32b1 : (t124 != 8) = true := bne_iff_ne.mpr c32
                                          obtain rfl := Option.some.inj H
                                          go_wp2
                                          go_ret
                                          exact ⟨by first | rfl | (simp [errW_none, errW_some] <;> rfl) | (simp [*, errW_none, errW_some] <;> rfl), by repeat (first | (with_reducible first | exact HB.out | apply below_alloc | apply pw_below_drewN | apply below_drew1) | exact HB.out)⟩
                        · rw [if_neg c14] at H
                          exact absurd H (by simp)
                      · rw [if_neg c13] at H
                        exact absurd H (by simp)
                    · rw [if_neg c12] at H
                      exact absurd H (by simp)
                  · replace c11 := Bool.eq_false_iff.mpr c11
                    subst c11
                    have H1 : (some true) = some r := by rw [if_neg (show ¬ (false = true) by decide)] at H; exact H
                    clear H
                    have H := H1
                    clear H1
                    obtain rfl := Option.some.inj H
                    go_wp2
                    go_ret
                    exact ⟨by first | rfl | (simp [errW_none, errW_some] <;> rfl) | (simp [*, errW_none, errW_some] <;> rfl), by repeat (first | (with_reducible first | exact HB.out | apply below_alloc | apply pw_below_drewN | apply below_drew1) | exact HB.out)⟩
  · replace c4 := Bool.eq_false_iff.mpr c4
    subst c4
    have H1 : (some false) = some r := by rw [if_neg (show ¬ (false = true) by decide)] at H; exact H
    clear H
    have H := H1
    clear H1
    obtain rfl := Option.some.inj H
    go_enter Try.func5, Try.ntmps5
    go_wp2_with (first | ((with_reducible refine gate_callee (f := 8) rfl ?_); refine goesL_ (some 9) rfl rfl Try.func8 (by kernel_rfl) rfl #[] rfl (by (try simp only [List.map_toArray, List.map_cons, List.map_nil]); first | done | rfl | (simp only [List.length_drop, List.length_take]; rfl)) ?_; (with_reducible refine (bailiwicklaw20_awake.calls k  false _ A3.out).mono ?_); rintro e w35 ⟨rfl, hb⟩; refine ⟨_, rfl, ?_⟩; have n0_ := Aside0.mk (below_step (by repeat (first | (with_reducible first | exact HB.out | apply below_alloc | apply pw_below_drewN | apply below_drew1) | exact HB.out)) hb); clear HB; have HB := n0_; clear n0_; (try clear hb); (try clear hb2); (try clear hk); (try clear hi)))
    go_ret
    exact ⟨by first | rfl | (simp [errW_none, errW_some] <;> rfl) | (simp [*, errW_none, errW_some] <;> rfl), by repeat (first | (with_reducible first | exact HB.out | apply below_alloc | apply pw_below_drewN | apply below_drew1) | exact HB.out)⟩

end Go.Proofs.Ythdhdfhjimmkkaa.PConnOpens
