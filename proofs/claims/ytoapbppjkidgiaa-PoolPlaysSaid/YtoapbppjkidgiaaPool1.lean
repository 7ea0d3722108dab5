/- Pool1: package pool's memory, and the small functions made, at, may. Conditions: the pool is one that New made. -/
import Derived.Test.YtoapbppjkidgiaaSetup6
import Derived.Deep.MidRow
import Derived.WalkSpells
namespace Go.Proofs.Ytoapbppjkidgiaa.Pool
open Go.RowKit Go.Proofs.YtoapbppjkidgiaaW.PrintWords Go.Proofs.YtoapbppjkidgiaaW.PrintLast Go.Proofs.YtoapbppjkidgiaaW.PrintMore Tape Setup
set_option linter.unusedVariables false
set_option linter.unusedSimpArgs false
set_option maxRecDepth 100000
/-- A block: what it is, whose, the end of its rest. -/
structure Blk where
  is : Int
  sub : Int
  rest : Int
/-- N blocks lie in the cells L. -/
def Lay (L : Array Value) (N : Nat) (m : Nat → Blk) : Prop :=
  ∀ j, j < N → L[j * 3]? = some (.int .i64 (m j).is) ∧ L[j * 3 + 1]? = some (.int .u32 (m j).sub) ∧ L[j * 3 + 2]? = some (.int .i64 (m j).rest)
/-- A pool at g: k addresses of N blocks each. -/
structure PoolSt (w : World) (g ga : Nat) (gs : Nat → Nat) (k N : Nat) (hold : Int) (m : Nat → Nat → Blk) : Prop where
  head : ∃ c, w.heap[g]? = some (.cells #[.int .i64 hold, .slice (some ⟨ga, 0, none⟩) k c] 100 (0, 0))
  row : ∀ i, i < k → ∃ c, w.cell? ⟨ga, i, none⟩ = some (.slice (some ⟨gs i, 0, none⟩) N c)
  blk : ∀ i, i < k → ∃ L, w.heap[gs i]? = some (.cells L 97 (0, 0)) ∧ Lay L N (m i)
  inj : ∀ i j, i < k → j < k → gs i = gs j → i = j
  ne : ∀ i, i < k → gs i ≠ g ∧ gs i ≠ ga
  nk : 1 ≤ k ∧ k ≤ 8
  nN : 1 ≤ N ∧ N ≤ 4032
  nh : 1 ≤ hold ∧ hold ≤ 1048576
theorem PoolSt.keep {w w' : World} {g ga : Nat} {gs : Nat → Nat} {k N : Nat} {hold : Int} {m : Nat → Nat → Blk} (h : PoolSt w g ga gs k N hold m) (hb : ∀ x, x < w.heap.size → (x = g ∨ x = ga ∨ ∃ i, i < k ∧ x = gs i) → w'.heap[x]? = w.heap[x]?) : PoolSt w' g ga gs k N hold m := by
  obtain ⟨⟨c, hh⟩, hr, hbk, hi, hn, h1, h2, h3⟩ := h
  refine ⟨⟨c, (hb g (blk_lt hh) (.inl rfl)).trans hh⟩, fun i hi => ?_, fun i hi => ?_, hi, hn, h1, h2, h3⟩
  · obtain ⟨c, hc⟩ := hr i hi
    refine ⟨c, ?_⟩
    have hlt := World.block_lt_of_cell? _ _ hc
    have := hb ga hlt (.inr (.inl rfl))
    unfold World.cell? at hc ⊢
    rw [this]; exact hc
  · obtain ⟨L, hL, hl⟩ := hbk i hi
    exact ⟨L, (hb _ (blk_lt hL) (.inr (.inr ⟨i, hi, rfl⟩))).trans hL, hl⟩
theorem PoolSt.below {w w' : World} {g ga : Nat} {gs : Nat → Nat} {k N : Nat} {hold : Int} {m : Nat → Nat → Blk} (h : PoolSt w g ga gs k N hold m) (hb : Below w.heap.size w w') : PoolSt w' g ga gs k N hold m :=
  h.keep (fun x hx _ => hb.block x hx)
set_option maxHeartbeats 1000000 in
theorem made_calls (w : World) (g ga : Nat) (gs : Nat → Nat) (k N : Nat) (hold : Int) (m : Nat → Nat → Blk) (h : PoolSt w g ga gs k N hold m) :
    Calls Try.prog 69 #[.pointer (some ⟨g, 0, none⟩)] w fun e w' => e = .returned (.bool true) ∧ w' = w := by
  obtain ⟨c, hh⟩ := h.head
  have h1 : w.cell? ⟨g, 1, none⟩ = some (.slice (some ⟨ga, 0, none⟩) k c) := (blk_cell hh 1).trans rfl
  clear hh h
  have hu := fun W => run_neq_slice_nil_any (P := Try.prog) W 98 104 (some ⟨ga, 0, none⟩) k c 0 0 Try.underlying98
  go_enter Try.func69, Try.ntmps69
  go_wp2
  go_ret
  exact ⟨rfl, rfl⟩
/-- a time that may be. -/
def good (t : Int) : Bool := decide (0 ≤ t) && decide (t ≤ 1099511627776)
set_option maxHeartbeats 1000000 in
theorem may_calls (w : World) (t : Int) :
    Calls Try.prog 71 #[.int .i64 t] w fun e w' => e = .returned (.bool (good t)) ∧ w' = w := by
  unfold good
  by_cases h1 : 0 ≤ t
  · have h2 : decide (0 ≤ t) = true := decide_eq_true h1
    go_enter Try.func71, Try.ntmps71
    go_wp2
    go_ret
    exact ⟨by simp [h1], rfl⟩
  · have h2 : decide (0 ≤ t) = false := decide_eq_false h1
    go_enter Try.func71, Try.ntmps71
    go_wp2
    go_ret
    exact ⟨by simp [h1], rfl⟩
/-- is there such a block? -/
def isIn (k N : Nat) (i n : Int) : Bool := decide (0 ≤ i) && decide (i < k) && decide (0 ≤ n) && decide (n < N)
set_option maxHeartbeats 2000000 in
theorem at_none (w : World) (g ga : Nat) (gs : Nat → Nat) (k N : Nat) (hold : Int) (m : Nat → Nat → Blk) (i n : Int) (h : PoolSt w g ga gs k N hold m) (hi : isIn k N i n = false) :
    Calls Try.prog 70 #[.pointer (some ⟨g, 0, none⟩), .int .i64 i, .int .i64 n] w fun e w' => e = .returned (.pointer none) ∧ w' = w := by
  obtain ⟨c, hh⟩ := h.head
  have h1 : w.cell? ⟨g, 1, none⟩ = some (.slice (some ⟨ga, 0, none⟩) k c) := (blk_cell hh 1).trans rfl
  have hk := h.nk
  have hN := h.nN
  clear hh
  by_cases t1 : i < 0
  · have t1b : decide (i < 0) = true := decide_eq_true t1
    clear h
    go_enter Try.func70, Try.ntmps70
    go_wp2
    go_ret
    exact ⟨rfl, rfl⟩
  · have t1b : decide (i < 0) = false := decide_eq_false t1
    by_cases t2 : i ≥ (k : Int)
    · have t2b : decide (i ≥ (k : Int)) = true := decide_eq_true t2
      have t2c : decide ((k : Int) ≤ i) = true := decide_eq_true t2
      clear h
      go_enter Try.func70, Try.ntmps70
      go_wp2
      go_ret
      exact ⟨rfl, rfl⟩
    · have t2b : decide (i ≥ (k : Int)) = false := decide_eq_false t2
      have t2c : decide ((k : Int) ≤ i) = false := decide_eq_false t2
      by_cases t3 : n < 0
      · have t3b : decide (n < 0) = true := decide_eq_true t3
        clear h
        go_enter Try.func70, Try.ntmps70
        go_wp2
        go_ret
        exact ⟨rfl, rfl⟩
      · have t3b : decide (n < 0) = false := decide_eq_false t3
        obtain ⟨a, rfl⟩ := Int.eq_ofNat_of_zero_le (show 0 ≤ i by omega)
        obtain ⟨c1, hr⟩ := h.row a (by omega)
        have hidx : (0 : Int) ≤ (a : Int) ∧ (a : Int) < (k : Int) := by omega
        have hrd : w.cell? ((⟨ga, 0, none⟩ : Addr).add a) = some (.slice (some ⟨gs a, 0, none⟩) N c1) := by rw [add_plain]; exact hr
        have t4 : n ≥ (N : Int) := by
          unfold isIn at hi
          rw [Bool.and_eq_false_iff, Bool.and_eq_false_iff, Bool.and_eq_false_iff] at hi
          simp only [decide_eq_false_iff_not] at hi
          omega
        have t4b : decide (n ≥ (N : Int)) = true := decide_eq_true t4
        have t4c : decide ((N : Int) ≤ n) = true := decide_eq_true t4
        clear h hi
        go_enter Try.func70, Try.ntmps70
        go_wp2
        go_ret
        exact ⟨rfl, rfl⟩
set_option maxHeartbeats 2000000 in
theorem at_some (w : World) (g ga : Nat) (gs : Nat → Nat) (k N : Nat) (hold : Int) (m : Nat → Nat → Blk) (a b : Nat) (h : PoolSt w g ga gs k N hold m) (ha : a < k) (hb : b < N) :
    Calls Try.prog 70 #[.pointer (some ⟨g, 0, none⟩), .int .i64 a, .int .i64 b] w fun e w' => e = .returned (.pointer (some ⟨gs a, b * 3, none⟩)) ∧ w' = w := by
  obtain ⟨c, hh⟩ := h.head
  have h1 : w.cell? ⟨g, 1, none⟩ = some (.slice (some ⟨ga, 0, none⟩) k c) := (blk_cell hh 1).trans rfl
  have hk := h.nk
  have hN := h.nN
  obtain ⟨c1, hr⟩ := h.row a ha
  have hidx : (0 : Int) ≤ (a : Int) ∧ (a : Int) < (k : Int) := by omega
  have hidy : (0 : Int) ≤ (b : Int) ∧ (b : Int) < (N : Int) := by omega
  have hrd : w.cell? ((⟨ga, 0, none⟩ : Addr).add a) = some (.slice (some ⟨gs a, 0, none⟩) N c1) := by rw [add_plain]; exact hr
  clear h hh
  go_enter Try.func70, Try.ntmps70
  go_wp2
  go_ret
  exact ⟨by rw [← add_plain]; rfl, rfl⟩
end Go.Proofs.Ytoapbppjkidgiaa.Pool
