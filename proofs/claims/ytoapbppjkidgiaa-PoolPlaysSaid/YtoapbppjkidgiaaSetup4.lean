/- Setup4: a block's first port, an outer address's place. Conditions: the configuration's cells are as api.Config says. -/
import Derived.Test.YtoapbppjkidgiaaSetup3
namespace Go.Proofs.Ytoapbppjkidgiaa.Setup
open Go.RowKit Go.Proofs.YtoapbppjkidgiaaW.PrintWords Go.Proofs.YtoapbppjkidgiaaW.PrintLast Go.Proofs.YtoapbppjkidgiaaW.PrintMore Tape
set_option linter.unusedVariables false
set_option linter.unusedSimpArgs false
theorem count_in (C : Cfg) : 0 ≤ C.count ∧ C.count ≤ 4032 := by
  cases hg : C.good with
  | false => unfold Cfg.count; rw [hg]; simp
  | true => have := count_good hg; omega
theorem inBlock_facts {C : Cfg} {n : Int} (h : C.inBlock n = true) : C.good = true ∧ 0 ≤ n ∧ n < C.count ∧ 0 ≤ n * C.block ∧ n * C.block + C.block ≤ C.high - C.low + 1 := by
  obtain ⟨h0, h1⟩ := btw_true h
  have hg : C.good = true := by
    cases hg : C.good with
    | true => rfl
    | false =>
      unfold Cfg.count at h1
      rw [hg] at h1
      simp at h1
      omega
  obtain ⟨c1, c2, c3⟩ := count_good hg
  have g := good_facts hg
  have hb := g.block
  refine ⟨hg, h0, by omega, Int.mul_nonneg h0 (by omega), ?_⟩
  have h2 : n * C.block ≤ (C.count - 1) * C.block := Int.mul_le_mul_of_nonneg_right h1 (by omega)
  rw [Int.sub_mul] at h2
  omega
set_option maxHeartbeats 1000000 in
theorem first_calls (w : World) (cs : Array Value) (C : Cfg) (n : Int) (h : IsCfg w cs C) :
    Calls Try.prog 26 #[.agg cs, .int .i64 n] w fun e w' => e = .returned (.tuple #[.int .i64 (C.firstOf n), .bool (C.inBlock n)]) ∧ Below w.heap.size w w' := by
  have HC := Aside0.mk h
  have HK := Aside0.mk (heap_alloc_new w (.cells cs 41))
  clear h
  obtain ⟨c0, c1⟩ := count_in C
  cases hb : btw n 0 (C.count - 1) with
  | false =>
    have e1 : C.inBlock n = false := hb
    have e2 : C.firstOf n = 0 := by unfold Cfg.firstOf; rw [e1]; rfl
    rw [e1, e2]
    clear e1 e2
    go_enter Try.func26, Try.ntmps26
    go_wp2_with (first
      | ((with_reducible refine gate_dst (N := 7) rfl ?_); refine wpList_load_row rfl 41 (.tmp 2) rfl w.heap.size rfl 41 cs (0, 0) _ HK.out Try.underlying41 rfl HC.out.info ?_)
      | (go_at_call 27; refine (count_calls _ cs C (HC.out.below (below_alloc (Below.refl _ _) _))).mono ?_; rintro e w' ⟨rfl, hb⟩; have HB := Aside0.mk (below_then (below_alloc (Below.refl _ w) (.cells cs 41)) (by simp) hb); clear hb)
      | (go_at_call 66; refine (btw_calls _ _ _ _).mono ?_; rintro e w2 ⟨rfl, rfl⟩))
    go_ret2
    exact ⟨rfl, HB.out⟩
  | true =>
    obtain ⟨hg, n0, n1, n2, n3⟩ := inBlock_facts (C := C) (n := n) hb
    have g := good_facts hg
    have g1 := g.low
    have g3 := g.high
    have g4 := g.block.1
    have m1 : n * C.block ≤ 65535 := by omega
    have m2 : 0 ≤ C.low + n * C.block := by omega
    have m3 : C.low + n * C.block ≤ 65535 := by omega
    have e1 : C.inBlock n = true := hb
    have e2 : C.firstOf n = C.low + n * C.block := by unfold Cfg.firstOf; rw [if_pos e1]
    rw [e1, e2]
    clear e1 e2 g n3 hg
    go_enter Try.func26, Try.ntmps26
    go_wp2_with (first
      | ((with_reducible refine gate_dst (N := 7) rfl ?_); refine wpList_load_row rfl 41 (.tmp 2) rfl w.heap.size rfl 41 cs (0, 0) _ HK.out Try.underlying41 rfl HC.out.info ?_)
      | (go_at_call 27; refine (count_calls _ cs C (HC.out.below (below_alloc (Below.refl _ _) _))).mono ?_; rintro e w' ⟨rfl, hb⟩; have HB := Aside0.mk (below_then (below_alloc (Below.refl _ w) (.cells cs 41)) (by simp) hb); have HK2 := Aside0.mk (blk_below HK.out hb); have k4 := cfg_cell HC.out HK2.out 4 _ (fun _ _ => rfl); have k6 := cfg_cell HC.out HK2.out 6 _ (fun _ _ => rfl); clear hb)
      | (go_at_call 66; refine (btw_calls _ _ _ _).mono ?_; rintro e w2 ⟨rfl, rfl⟩))
    go_ret2
    exact ⟨rfl, HB.out⟩
/-- where a is first in a list. -/
def placeIn (a : Int) : List Int → Option Nat
  | [] => none
  | x :: l => if x = a then some 0 else (placeIn a l).map (· + 1)
theorem placeIn_some {a : Int} {l : List Int} {k : Nat} (hk : l[k]? = some a) (h : ∀ j y, j < k → l[j]? = some y → y ≠ a) : placeIn a l = some k := by
  induction l generalizing k with
  | nil => simp at hk
  | cons x l ih =>
    unfold placeIn
    by_cases hx : x = a
    · rw [if_pos hx]
      cases k with
      | zero => rfl
      | succ k => exact absurd hx (h 0 x (by omega) rfl)
    · rw [if_neg hx]
      cases k with
      | zero => simp at hk; exact absurd hk hx
      | succ k =>
        rw [ih (by simpa using hk) (fun j y hj hy => h (j + 1) y (by omega) (by simpa using hy))]
        rfl
theorem placeIn_none {a : Int} {l : List Int} (h : ∀ (j : Nat) (y : Int), l[j]? = some y → y ≠ a) : placeIn a l = none := by
  induction l with
  | nil => rfl
  | cons x l ih =>
    unfold placeIn
    rw [if_neg (h 0 x rfl), ih (fun j y hy => h (j + 1) y (by simpa using hy))]
    rfl
def Cfg.has (C : Cfg) (a : Int) : Bool := C.good && (placeIn a C.outer).isSome
def Cfg.indexOf (C : Cfg) (a : Int) : Int := if C.has a then (((placeIn a C.outer).getD 0 : Nat) : Int) else 0
theorem index_found {C : Cfg} {a : Int} {k : Nat} (hg : C.good = true) (hk : C.outer[k]? = some a) (h : ∀ j y, j < k → C.outer[j]? = some y → y ≠ a) : C.has a = true ∧ C.indexOf a = k := by
  have e := placeIn_some hk h
  have e1 : C.has a = true := by unfold Cfg.has; rw [hg, e]; rfl
  refine ⟨e1, ?_⟩
  unfold Cfg.indexOf
  rw [if_pos e1, e]; rfl
theorem index_none {C : Cfg} {a : Int} (h : C.good = false ∨ ∀ (j : Nat) (y : Int), C.outer[j]? = some y → y ≠ a) : C.has a = false ∧ C.indexOf a = 0 := by
  have e1 : C.has a = false := by
    unfold Cfg.has
    rcases h with h | h
    · rw [h]; rfl
    · rw [placeIn_none h]; simp
  refine ⟨e1, ?_⟩
  unfold Cfg.indexOf
  rw [e1]; rfl
set_option maxHeartbeats 1000000 in
theorem index_calls (w : World) (cs : Array Value) (C : Cfg) (a : Int) (h : IsCfg w cs C) :
    Calls Try.prog 29 #[.agg cs, .int .u32 a] w fun e w' => e = .returned (.tuple #[.int .i64 (C.indexOf a), .bool (C.has a)]) ∧ Below w.heap.size w w' := by
  have HC := Aside0.mk h
  have HK := Aside0.mk (heap_alloc_new w (.cells cs 41))
  cases hg : C.good with
  | false =>
    obtain ⟨e1, e2⟩ := index_none (C := C) (a := a) (.inl hg)
    rw [e1, e2]
    clear e1 e2 h
    go_enter Try.func29, Try.ntmps29
    go_wp2_with (first
      | ((with_reducible refine gate_dst (N := 8) rfl ?_); refine wpList_load_row rfl 41 (.tmp 2) rfl w.heap.size rfl 41 cs (0, 0) _ HK.out Try.underlying41 rfl HC.out.info ?_)
      | (go_at_call 65; refine (good_calls _ cs C (HC.out.below (below_alloc (Below.refl _ _) _))).mono ?_; rintro e w' ⟨rfl, hb⟩; have HB := Aside0.mk (below_then (below_alloc (Below.refl _ w) (.cells cs 41)) (by simp) hb); clear hb))
    go_ret2
    exact ⟨rfl, HB.out⟩
  | true =>
    obtain ⟨hfit, A, c, hcs, hlc, hrd⟩ := h
    have HR := Aside0.mk hrd
    have HCS := Aside0.mk hcs
    have HG := Aside0.mk hg
    have hlm : C.outer.length ≤ 9223372036854775807 := hrd.2.1
    clear hfit hrd hcs
    go_enter Try.func29, Try.ntmps29
    go_wp2_with (first
      | ((with_reducible refine gate_dst (N := 8) rfl ?_); refine wpList_load_row rfl 41 (.tmp 2) rfl w.heap.size rfl 41 cs (0, 0) _ HK.out Try.underlying41 rfl HC.out.info ?_)
      | (go_at_call 65; refine (good_calls _ cs C (HC.out.below (below_alloc (Below.refl _ _) _))).mono ?_; rintro e w1 ⟨rfl, hb⟩; have HB := Aside0.mk (below_then (below_alloc (Below.refl _ w) (.cells cs 41)) (by simp) hb); have HK2 := Aside0.mk (blk_below HK.out hb); have k3 : w1.cell? ⟨w.heap.size, 3, none⟩ = some (.slice A C.outer.length c) := (blk_cell HK2.out 3).trans (by rw [HCS.out]; rfl); clear hb))
    go_loop [14] (fun i => ∃ k : Nat, i = .int .i64 k ∧ k ≤ C.outer.length ∧ (∀ j y, j < k → C.outer[j]? = some y → y ≠ a)) (fun i => C.outer.length - (intOf i).toNat)
    case atStart => exact ⟨0, rfl, by omega, fun m y hm => absurd hm (by omega)⟩
    case round =>
      obtain ⟨k, rfl, hk, hno⟩ := hrel
      have HNO := Aside0.mk hno
      clear hno
      by_cases hkl : k < C.outer.length
      · obtain ⟨ad, hA⟩ := C_some HR.out (by omega)
        subst hA
        obtain ⟨x, hxk⟩ : ∃ x, C.outer[k]? = some x := ⟨_, List.getElem?_eq_getElem hkl⟩
        have hcell0 := C_cell HR.out k x hxk
        have hcell : w1.cell? (ad.add k) = some (.int .u32 x) := (HB.out.cell (World.block_lt_of_cell? _ _ hcell0)).trans hcell0
        have hidx : (0 : Int) ≤ (k : Int) ∧ (k : Int) < (C.outer.length : Int) := by omega
        have HXK := Aside0.mk hxk
        clear hxk hcell0
        by_cases hxa : x = a
        · have hxb : (x == a) = true := by rw [hxa]; exact beq_self_eq_true a
          have HXA := Aside0.mk hxa
          clear hxa
          go_wp2
          go_ret2
          obtain ⟨e1, e2⟩ := index_found (a := a) (k := k) HG.out (by rw [HXK.out, HXA.out]) HNO.out
          refine ⟨?_, HB.out⟩
          rw [e1, e2]
          rfl
        · have hxb : (x == a) = false := beq_eq_false_iff_ne.2 hxa
          have HXA := Aside0.mk hxa
          clear hxa
          go_wp2
          go_round
          case rel =>
            refine ⟨k + 1, by go_num, by omega, fun m z hm hz => ?_⟩
            by_cases hmj : m = k
            · subst hmj
              rw [HXK.out] at hz
              exact Option.some.inj hz ▸ HXA.out
            · exact HNO.out m z (by omega) hz
          case measure => simp [intOf]; omega
      · obtain rfl : k = C.outer.length := by omega
        go_wp2
        go_ret2
        obtain ⟨e1, e2⟩ := index_none (C := C) (a := a) (.inr (fun j y hy => HNO.out j y (List.getElem?_eq_some_iff.1 hy).1 hy))
        refine ⟨?_, HB.out⟩
        rw [e1, e2]
        rfl
end Go.Proofs.Ytoapbppjkidgiaa.Setup
