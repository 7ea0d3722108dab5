/- Pool7: a tape that may be nil, and the pool beside it. Conditions: the pool, the tape are ones that New made. -/
import Derived.Test.YtoapbppjkidgiaaPool6
import Derived.Test.YtoapbppjkidgiaaTapeStep
namespace Go.Proofs.Ytoapbppjkidgiaa.Pool
open Go.RowKit Go.Proofs.YtoapbppjkidgiaaW.PrintWords Go.Proofs.YtoapbppjkidgiaaW.PrintLast Go.Proofs.YtoapbppjkidgiaaW.PrintMore Tape Setup
set_option linter.unusedVariables false
set_option linter.unusedSimpArgs false
set_option maxRecDepth 100000
/-- a tape, or none. -/
def TapeO (w : World) : Option Nat → List Int → Prop
  | none, l => l = []
  | some p, l => TapeSt w p l
def tapeV (a : Option Nat) : Value := .pointer (a.map fun p => ⟨p, 0, none⟩)
def StepO : Option Nat → World → World → Prop
  | none, w, w' => Below w.heap.size w w'
  | some p, w, w' => Step p w w'
theorem StepO.refl (a : Option Nat) (w : World) : StepO a w w := by
  cases a with
  | none => exact Below.refl _ _
  | some p => exact Step.refl p w
theorem StepO.size {a : Option Nat} {w w' : World} (h : StepO a w w') : w.heap.size ≤ w'.heap.size := by
  cases a with
  | none => exact Below.size h
  | some p => exact h.1.size
theorem StepO.trans {a : Option Nat} {x y z : World} (h : StepO a x y) (k : StepO a y z) : StepO a x z := by
  cases a with
  | none => exact below_then h (Below.size h) k
  | some p => exact Step.trans h k
theorem StepO.block {a : Option Nat} {w w' : World} (h : StepO a w w') {x : Nat} (hx : x < w.heap.size) (hn : some x ≠ a) : w'.heap[x]? = w.heap[x]? := by
  cases a with
  | none => exact Below.block h x hx
  | some p => exact h.1.block x hx hn
theorem TapeSt.lt' {w : World} {p : Nat} {l : List Int} (h : TapeSt w p l) : p < w.heap.size := by
  obtain ⟨A, c, h1, _⟩ := h
  exact blk_lt h1
theorem TapeO.below {a : Option Nat} {w w' : World} {l : List Int} (h : TapeO w a l) (hb : Below w.heap.size w w') : TapeO w' a l ∧ StepO a w w' := by
  cases a with
  | none => exact ⟨h, hb⟩
  | some p =>
    have hp := TapeSt.lt' h
    have hc : Chg w w' (fun _ => False) := ⟨hb.os, hb.tape, hb.output, hb.size, fun k hk _ => hb.block k hk⟩
    obtain ⟨h1, h2⟩ := TapeSt.keep h hc id (fun _ _ => id)
    exact ⟨h1, ⟨hb.os, hb.tape, hb.output, hb.size, fun k hk _ => hb.block k hk⟩, fun b hb2 => .inl (h2 b hb2)⟩
theorem TapeO.drew {a : Option Nat} {w : World} {l : List Int} (h : TapeO w a l) : TapeO w.drew a l ∧ StepO a w w.drew := h.below (below_drew (Below.refl _ w))
theorem draw_o (w : World) (a : Option Nat) (l : List Int) (n : Int) (h : TapeO w a l) :
    Calls Try.prog 18 #[tapeV a, .int .i64 n] w fun e w' => e = .returned (.int .i64 (dr l n)) ∧ TapeO w' a (rs l n) ∧ StepO a w w' := by
  cases a with
  | none =>
    obtain rfl : l = [] := h
    refine (draw_nil w n).mono ?_
    rintro e w' ⟨rfl, rfl⟩
    have e1 : dr [] n = 0 := by unfold dr; split <;> rfl
    have e2 : rs [] n = [] := by unfold rs; split <;> rfl
    rw [e1, e2]
    exact ⟨rfl, rfl, Below.refl _ _⟩
  | some p => exact draw_step w p l n h
/-- the drawn number as a natural one. -/
def dn (l : List Int) (n : Nat) : Nat := (dr l n).toNat
theorem dn_eq (l : List Int) (n : Nat) : dr l n = (dn l n : Int) := by
  have := (dr_in l n).1
  unfold dn
  omega
theorem dn_lt (l : List Int) {n : Nat} (h : 0 < n) : dn l n < n := by
  have h1 := (dr_in l n).2.1 (by omega)
  have := dn_eq l n
  omega
theorem PoolSt.tape_ne {w : World} {g ga : Nat} {gs : Nat → Nat} {k N : Nat} {hold : Int} {m : Nat → Nat → Blk} (h : PoolSt w g ga gs k N hold m) {p : Nat} {l : List Int} (ht : TapeSt w p l) : g ≠ p ∧ ga ≠ p ∧ ∀ i, i < k → gs i ≠ p := by
  obtain ⟨A, c, hb, _⟩ := ht
  obtain ⟨c1, hh⟩ := h.head
  refine ⟨blk_ne hh hb (by decide), ?_, fun i hi => ?_⟩
  · rintro rfl
    obtain ⟨c2, hr⟩ := h.row 0 h.nk.1
    rw [blk_cell hb] at hr
    simp at hr
  · obtain ⟨L, hL, _⟩ := h.blk i hi
    exact blk_ne hL hb (by decide)
theorem PoolSt.stepO {w w' : World} {g ga : Nat} {gs : Nat → Nat} {k N : Nat} {hold : Int} {m : Nat → Nat → Blk} (h : PoolSt w g ga gs k N hold m) {a : Option Nat} {l : List Int} (ht : TapeO w a l) (hs : StepO a w w') : PoolSt w' g ga gs k N hold m := by
  cases a with
  | none => exact h.below hs
  | some p =>
    obtain ⟨h1, h2, h3⟩ := h.tape_ne ht
    refine h.keep (fun x hx hx2 => hs.1.block x hx (fun e => ?_))
    cases e
    rcases hx2 with rfl | rfl | ⟨i, hi, rfl⟩
    · exact h1 rfl
    · exact h2 rfl
    · exact h3 i hi rfl
theorem Nums.grown {n₀ : Nat} {w w' : World} {v : Value} {l : List Nat} {row : Option Nat} (h : Nums n₀ w v l) (hg : w.grownBy w' row) (hr : ∀ r, row = some r → r < n₀) : Nums n₀ w' v l := by
  refine ⟨h.1.kept hg ?_, h.2⟩
  rcases h.1.2 with ⟨rfl, _⟩ | ⟨g, cap, cur, rfl, hb, _⟩
  · exact .inl rfl
  · exact .inr (fun e => by have := hr g e.symm; omega)
theorem Nums.below {n₀ : Nat} {w w' : World} {v : Value} {l : List Nat} (h : Nums n₀ w v l) (hb : Below w.heap.size w w') : Nums n₀ w' v l := h.grown (Below.grownBy hb) (fun r e => by cases e)
theorem Nums.stepO {n₀ : Nat} {w w' : World} {v : Value} {l : List Nat} (h : Nums n₀ w v l) {a : Option Nat} (hs : StepO a w w') (hp : ∀ p, a = some p → p < n₀) : Nums n₀ w' v l := by
  cases a with
  | none => exact h.below hs
  | some p => exact h.grown hs.1 (fun r e => hp r e)
theorem Nums.lower {n₀ n₁ : Nat} {w : World} {v : Value} {l : List Nat} (h : Nums n₀ w v l) (hn : n₁ ≤ n₀) : Nums n₁ w v l := by
  obtain ⟨⟨h0, h1⟩, h2⟩ := h
  refine ⟨⟨h0, ?_⟩, h2⟩
  rcases h1 with h1 | ⟨g, cap, cur, e, hb, rest⟩
  · exact .inl h1
  · exact .inr ⟨g, cap, cur, e, by omega, rest⟩
/-- where a filled slice lies. -/
theorem Nums.at {n₀ : Nat} {w : World} {v : Value} {l : List Nat} (h : Nums n₀ w v l) (hl : 0 < l.length) : ∃ b c, v = .slice (some ⟨b, 0, none⟩) l.length c := by
  rcases h.1.2 with ⟨_, e⟩ | ⟨g, cap, cur, rfl, _⟩
  · omega
  · exact ⟨g, cap, rfl⟩
theorem Nums.cell {n₀ : Nat} {w : World} {b n c : Nat} {l : List Nat} (h : Nums n₀ w (.slice (some ⟨b, 0, none⟩) n c) l) {j x : Nat} (hj : l[j]? = some x) : w.cell? ((⟨b, 0, none⟩ : Addr).add j) = some (.int .i64 (x : Int)) := by
  rcases h.1.2 with ⟨e, _⟩ | ⟨g, cap, cur, e, hb, hg, _, _, _, ht⟩
  · cases e
  · cases e
    have hlt : j < l.length := (List.getElem?_eq_some_iff.1 hj).1
    rw [add_plain, blk_cell hg, ← Array.getElem?_toList]
    have e1 : (cur.toList.take (l.length * 1))[j]? = cur.toList[j]? := by rw [List.getElem?_take, if_pos (by omega)]
    rw [← e1, ht, List.getElem?_map, hj]
    rfl
/-- the addresses, of the first j, that have a free block. -/
def adrs (m : Nat → Nat → Blk) (now : Int) (N : Nat) : Nat → List Nat
  | 0 => []
  | j + 1 => if 0 < (frees (m j) now N).length then adrs m now N j ++ [j] else adrs m now N j
theorem adrs_len (m : Nat → Nat → Blk) (now : Int) (N j : Nat) : (adrs m now N j).length ≤ j := by
  induction j with
  | zero => exact Nat.le_refl _
  | succ j ih =>
    unfold adrs
    split
    · rw [List.length_append]; simpa using ih
    · omega
theorem adrs_mem (m : Nat → Nat → Blk) (now : Int) (N : Nat) {j x : Nat} (h : x ∈ adrs m now N j) : x < j ∧ 0 < (frees (m x) now N).length := by
  induction j with
  | zero => cases h
  | succ j ih =>
    unfold adrs at h
    split at h
    · rename_i hp
      rcases List.mem_append.1 h with h1 | h1
      · have := ih h1; exact ⟨by omega, this.2⟩
      · obtain rfl : x = j := by simpa using h1
        exact ⟨by omega, hp⟩
    · have := ih h; exact ⟨by omega, this.2⟩
theorem frees_mem {m : Nat → Blk} {now : Int} {N x : Nat} (h : x ∈ frees m now N) : x < N ∧ fr (m x) now = true := by
  unfold frees at h
  have := List.mem_filter.1 h
  exact ⟨List.mem_range.1 this.1, this.2⟩
/-- the address that Pick takes. -/
def pkI (k N : Nat) (m : Nat → Nat → Blk) (i now : Int) (l : List Int) : Nat :=
  if 0 ≤ i then i.toNat else (adrs m now N k).getD (dn l (adrs m now N k).length) 0
def pkT (k N : Nat) (m : Nat → Nat → Blk) (i now : Int) (l : List Int) : List Int :=
  if 0 ≤ i then l else rs l (adrs m now N k).length
/-- is there a free block? -/
def pkAny (k N : Nat) (m : Nat → Nat → Blk) (i now : Int) : Bool :=
  if 0 ≤ i then decide (0 < (frees (m i.toNat) now N).length) else decide (0 < (adrs m now N k).length)
def pkErr (k N : Nat) (m : Nat → Nat → Blk) (i now : Int) : Int := if mayAsk k i now then (if pkAny k N m i now then 0 else 6) else 1
def pkA (k N : Nat) (m : Nat → Nat → Blk) (i now : Int) (l : List Int) : Nat := if mayAsk k i now && pkAny k N m i now then pkI k N m i now l else 0
def pkB (k N : Nat) (m : Nat → Nat → Blk) (i now : Int) (l : List Int) : Nat :=
  if mayAsk k i now && pkAny k N m i now then
    (frees (m (pkI k N m i now l)) now N).getD (dn (pkT k N m i now l) (frees (m (pkI k N m i now l)) now N).length) 0 else 0
def pkL (k N : Nat) (m : Nat → Nat → Blk) (i now : Int) (l : List Int) : List Int :=
  if mayAsk k i now && pkAny k N m i now then rs (pkT k N m i now l) (frees (m (pkI k N m i now l)) now N).length else l
/-- what is picked is there and free. -/
theorem pick_free {k N : Nat} {m : Nat → Nat → Blk} {i now : Int} {l : List Int} (h : (mayAsk k i now && pkAny k N m i now) = true) :
    pkA k N m i now l < k ∧ pkB k N m i now l < N ∧ fr (m (pkA k N m i now l) (pkB k N m i now l)) now = true ∧ (0 ≤ i → (pkA k N m i now l : Int) = i) := by
  have hI : pkI k N m i now l < k ∧ 0 < (frees (m (pkI k N m i now l)) now N).length := by
    rw [Bool.and_eq_true] at h
    obtain ⟨h1, h2⟩ := h
    unfold mayAsk at h1
    simp only [Bool.and_eq_true, decide_eq_true_eq] at h1
    unfold pkAny at h2
    unfold pkI
    by_cases hi : 0 ≤ i
    · rw [if_pos hi] at h2 ⊢
      exact ⟨by omega, of_decide_eq_true h2⟩
    · rw [if_neg hi] at h2 ⊢
      have hl := of_decide_eq_true h2
      have hd := dn_lt l hl
      refine adrs_mem m now N ?_
      rw [List.getD_eq_getElem?_getD, List.getElem?_eq_getElem hd]
      exact List.getElem_mem hd
  have hB : pkB k N m i now l ∈ frees (m (pkI k N m i now l)) now N := by
    unfold pkB
    rw [if_pos h]
    have hd := dn_lt (pkT k N m i now l) hI.2
    rw [List.getD_eq_getElem?_getD, List.getElem?_eq_getElem hd]
    exact List.getElem_mem hd
  have hA : pkA k N m i now l = pkI k N m i now l := by unfold pkA; rw [if_pos h]
  rw [hA]
  obtain ⟨b1, b2⟩ := frees_mem hB
  refine ⟨hI.1, b1, b2, fun hi => ?_⟩
  unfold pkI
  rw [if_pos hi]
  omega
end Go.Proofs.Ytoapbppjkidgiaa.Pool
