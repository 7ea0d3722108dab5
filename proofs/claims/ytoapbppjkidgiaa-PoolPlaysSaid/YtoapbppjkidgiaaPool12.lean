/- Pool12: PoolPicks, of any shape and bytes. Conditions: the numbers are of their kinds. -/
import Derived.Test.YtoapbppjkidgiaaPool10
import Derived.Test.YtoapbppjkidgiaaTapePlays
namespace Go.Proofs.Ytoapbppjkidgiaa.Pool
open Go.RowKit Go.Proofs.YtoapbppjkidgiaaW.PrintWords Go.Proofs.YtoapbppjkidgiaaW.PrintLast Go.Proofs.YtoapbppjkidgiaaW.PrintMore Tape Setup
set_option linter.unusedVariables false
set_option linter.unusedSimpArgs false
set_option maxRecDepth 100000
theorem frees_upd {m m' : Nat → Blk} {now : Int} {y : Nat} (h : ∀ j, j ≠ y → m' j = m j) (h1 : fr (m y) now = true) (h2 : fr (m' y) now = false) (n : Nat) :
    (frees m' now n).length + (if y < n then 1 else 0) = (frees m now n).length := by
  induction n with
  | zero => rfl
  | succ n ih =>
    rw [frees_succ, frees_succ]
    by_cases e : n = y
    · subst e
      rw [h1, h2, if_pos rfl, if_neg (by decide), List.length_append, if_pos (Nat.lt_succ_self n)]
      rw [if_neg (Nat.lt_irrefl n)] at ih
      simp only [List.length_cons, List.length_nil]
      omega
    · rw [h n e]
      split <;> split at ih <;> rename_i h3 h4
      · rw [if_pos (by omega)]; simp only [List.length_append, List.length_cons, List.length_nil]; omega
      · rw [if_neg (by omega)]; simp only [List.length_append, List.length_cons, List.length_nil]; omega
      · rw [if_pos (by omega)]; omega
      · rw [if_neg (by omega)]; omega
theorem heldsRow_upd {m m' : Nat → Nat → Blk} {s : Int} {x y : Nat} (h : ∀ j, j ≠ y → m' x j = m x j) (h1 : ((m x y).is == s) = false) (h2 : ((m' x y).is == s) = true) (n : Nat) :
    (heldsRow m' s x n).length = (heldsRow m s x n).length + (if y < n then 1 else 0) := by
  induction n with
  | zero => rfl
  | succ n ih =>
    unfold heldsRow
    by_cases e : n = y
    · subst e
      rw [h1, h2, if_pos rfl, if_neg (by decide), List.length_append, if_pos (Nat.lt_succ_self n)]
      rw [if_neg (Nat.lt_irrefl n)] at ih
      simp only [List.length_cons, List.length_nil]
      omega
    · rw [h n e]
      split <;> split at ih <;> rename_i h3 h4
      · rw [if_pos (by omega)]; simp only [List.length_append, List.length_cons, List.length_nil]; omega
      · rw [if_neg (by omega)]; simp only [List.length_append, List.length_cons, List.length_nil]; omega
      · rw [if_pos (by omega)]; omega
      · rw [if_neg (by omega)]; omega
theorem heldsRow_same {m m' : Nat → Nat → Blk} {s : Int} {x : Nat} (h : ∀ j, m' x j = m x j) (n : Nat) : heldsRow m' s x n = heldsRow m s x n := by
  induction n with
  | zero => rfl
  | succ n ih => unfold heldsRow; rw [h n, ih]
theorem sumFr_upd {m m' : Nat → Nat → Blk} {now : Int} {N x y : Nat} (h : ∀ i j, ¬ (i = x ∧ j = y) → m' i j = m i j) (hy : y < N) (h1 : fr (m x y) now = true) (h2 : fr (m' x y) now = false) (k : Nat) :
    sumFr m' now N k + (if x < k then 1 else 0) = sumFr m now N k := by
  induction k with
  | zero => rfl
  | succ k ih =>
    unfold sumFr
    by_cases e : k = x
    · subst e
      have := frees_upd (m := m k) (m' := m' k) (fun j hj => h k j (fun e => hj e.2)) h1 h2 N
      rw [if_pos hy] at this
      rw [if_neg (Nat.lt_irrefl k)] at ih
      rw [if_pos (Nat.lt_succ_self k)]
      omega
    · have : frees (m' k) now N = frees (m k) now N := by
        have e2 : m' k = m k := funext (fun j => h k j (fun e3 => e e3.1))
        rw [e2]
      rw [this]
      split at ih
      · rw [if_pos (by omega)]; omega
      · rw [if_neg (by omega)]; omega
theorem helds_upd {m m' : Nat → Nat → Blk} {s : Int} {N x y : Nat} (h : ∀ i j, ¬ (i = x ∧ j = y) → m' i j = m i j) (hy : y < N) (h1 : ((m x y).is == s) = false) (h2 : ((m' x y).is == s) = true) (k : Nat) :
    (helds m' N s k).length = (helds m N s k).length + (if x < k then 1 else 0) := by
  induction k with
  | zero => rfl
  | succ k ih =>
    unfold helds
    rw [List.length_append, List.length_append]
    by_cases e : k = x
    · subst e
      have := heldsRow_upd (m := m) (m' := m') (x := k) (fun j hj => h k j (fun e => hj e.2)) h1 h2 N
      rw [if_pos hy] at this
      rw [if_neg (Nat.lt_irrefl k)] at ih
      rw [if_pos (Nat.lt_succ_self k)]
      omega
    · rw [heldsRow_same (fun j => h k j (fun e3 => e e3.1)) N]
      split at ih
      · rw [if_pos (by omega)]; omega
      · rw [if_neg (by omega)]; omega
theorem adrs_sum (m : Nat → Nat → Blk) (now : Int) (N k : Nat) : (0 < (adrs m now N k).length ↔ 0 < sumFr m now N k) := by
  induction k with
  | zero => exact Iff.rfl
  | succ k ih =>
    unfold adrs sumFr
    split
    · rw [List.length_append]; simp only [List.length_cons, List.length_nil]; omega
    · omega
theorem frees_new (now : Int) (hn : -9223372036854775808 ≤ now) (n : Nat) : (frees (fun _ => m0) now n).length = n := by
  induction n with
  | zero => rfl
  | succ n ih =>
    rw [frees_succ, if_pos (by unfold fr m0; rw [decide_eq_true hn]; rfl), List.length_append, ih]
    rfl
theorem sumFr_new (now : Int) (hn : -9223372036854775808 ≤ now) (N k : Nat) : sumFr (fun _ _ => m0) now N k = k * N := by
  induction k with
  | zero => simp [sumFr]
  | succ k ih => unfold sumFr; rw [ih, frees_new now hn, Nat.succ_mul]
theorem heldsRow_new (s : Int) (hs : (0 == s) = false) (i n : Nat) : heldsRow (fun _ _ => m0) s i n = [] := by
  induction n with
  | zero => rfl
  | succ n ih => unfold heldsRow; rw [show ((m0).is == s) = false from hs, ih]; rfl
theorem helds_new (s : Int) (hs : (0 == s) = false) (N k : Nat) : helds (fun _ _ => m0) N s k = [] := by
  induction k with
  | zero => rfl
  | succ k ih => unfold helds; rw [ih, heldsRow_new s hs]; rfl
/-- the tape's bytes lie in none of the pool's blocks. -/
def Away (w : World) (p : Nat) (gs : Nat → Nat) (k : Nat) : Prop := ∀ x, Arr w p x → ∀ i, i < k → x ≠ gs i
theorem Away.step {w w' : World} {p : Nat} {gs : Nat → Nat} {k : Nat} (h : Away w p gs k) (hs : Step p w w') (hg : ∀ i, i < k → gs i < w.heap.size) : Away w' p gs k := by
  intro x hx i hi e
  rcases hs.2 x hx with h1 | ⟨h1, _⟩
  · exact h x h1 i hi e
  · have := hg i hi
    omega
theorem PoolSt.lts {w : World} {g ga : Nat} {gs : Nat → Nat} {k N : Nat} {hold : Int} {m : Nat → Nat → Blk} (h : PoolSt w g ga gs k N hold m) : ∀ i, i < k → gs i < w.heap.size := fun i hi => by
  obtain ⟨L, hL, _⟩ := h.blk i hi
  exact blk_lt hL
theorem tape_chg {w w' : World} {p : Nat} {l : List Int} {g ga : Nat} {gs : Nat → Nat} {k N : Nat} {hold : Int} {m : Nat → Nat → Blk} (hp : PoolSt w g ga gs k N hold m) (h : TapeSt w p l) (ha : Away w p gs k) (hc : PoolChg gs k w w') : TapeSt w' p l ∧ Away w' p gs k := by
  obtain ⟨h1, h2⟩ := TapeSt.keep h hc (fun ⟨i, hi, e⟩ => (hp.tape_ne h).2.2 i hi e.symm) (fun b hb ⟨i, hi, e⟩ => ha b hb i hi e)
  exact ⟨h1, fun x hx => ha x (h2 x hx)⟩
end Go.Proofs.Ytoapbppjkidgiaa.Pool
