/- RefPool1: the reference's pool in memory; is, Good, free. Conditions: the pool is one that NewPool made. -/
import Derived.Test.YtoapbppjkidgiaaPool10
import Derived.Test.YtoapbppjkidgiaaTapePlays
namespace Go.Proofs.Ytoapbppjkidgiaa.Pool
open Go.RowKit Go.Proofs.YtoapbppjkidgiaaW.PrintWords Go.Proofs.YtoapbppjkidgiaaW.PrintLast Go.Proofs.YtoapbppjkidgiaaW.PrintMore Tape Setup
set_option linter.unusedVariables false
set_option linter.unusedSimpArgs false
set_option maxRecDepth 100000
/-- The reference's pool at q: its k * N cells at qb, one address behind the other. -/
structure RefP (w : World) (q qb : Nat) (k N : Nat) (hold : Int) (m : Nat → Nat → Blk) : Prop where
  head : ∃ cs, w.heap[q]? = some (.cells cs 108 (0, 0)) ∧ cs[10]? = some (.int .i64 hold) ∧ (∃ A c, cs[3]? = some (.slice A k c)) ∧ cs[18]? = some (.int .i64 N) ∧ ∃ c, cs[19]? = some (.slice (some ⟨qb, 0, none⟩) (k * N) c)
  blk : ∃ L, w.heap[qb]? = some (.cells L 112 (0, 0)) ∧ Lay L (k * N) (fun j => m (j / N) (j % N))
  nk : 1 ≤ k ∧ k ≤ 8
  nN : 1 ≤ N ∧ N ≤ 4032
  nh : 1 ≤ hold ∧ hold ≤ 1048576
theorem RefP.keep {w w' : World} {q qb : Nat} {k N : Nat} {hold : Int} {m : Nat → Nat → Blk} (h : RefP w q qb k N hold m) (hb : ∀ x, x < w.heap.size → (x = q ∨ x = qb) → w'.heap[x]? = w.heap[x]?) : RefP w' q qb k N hold m := by
  obtain ⟨⟨cs, hh, rest⟩, ⟨L, hL, hl⟩, h1, h2, h3⟩ := h
  exact ⟨⟨cs, (hb q (blk_lt hh) (.inl rfl)).trans hh, rest⟩, ⟨L, (hb qb (blk_lt hL) (.inr rfl)).trans hL, hl⟩, h1, h2, h3⟩
theorem RefP.below {w w' : World} {q qb : Nat} {k N : Nat} {hold : Int} {m : Nat → Nat → Blk} (h : RefP w q qb k N hold m) (hb : Below w.heap.size w w') : RefP w' q qb k N hold m := h.keep (fun x hx _ => hb.block x hx)
theorem RefP.drew {w : World} {q qb : Nat} {k N : Nat} {hold : Int} {m : Nat → Nat → Blk} (h : RefP w q qb k N hold m) : RefP w.drew q qb k N hold m := h.keep (fun x hx _ => rfl)
/-- the facts that the walks read. -/
theorem RefP.facts {w : World} {q qb : Nat} {k N : Nat} {hold : Int} {m : Nat → Nat → Blk} (h : RefP w q qb k N hold m) :
    w.cell? ⟨q, 10, none⟩ = some (.int .i64 hold) ∧ (∃ A c, w.cell? ⟨q, 3, none⟩ = some (.slice A k c)) ∧ w.cell? ⟨q, 18, none⟩ = some (.int .i64 N) ∧ ∃ c, w.cell? ⟨q, 19, none⟩ = some (.slice (some ⟨qb, 0, none⟩) (k * N : Nat) c) := by
  obtain ⟨⟨cs, hh, h10, ⟨A, c, h3⟩, h18, ⟨c2, h19⟩⟩, _⟩ := h
  exact ⟨(blk_cell hh _).trans h10, ⟨A, c, (blk_cell hh _).trans h3⟩, (blk_cell hh _).trans h18, c2, (blk_cell hh _).trans h19⟩
theorem RefP.cells {w : World} {q qb : Nat} {k N : Nat} {hold : Int} {m : Nat → Nat → Blk} (h : RefP w q qb k N hold m) {a b x : Nat} (ha : a < k) (hb : b < N) (hx : x = a * N + b) :
    x < k * N ∧ w.cell? ⟨qb, x * 3, none⟩ = some (.int .i64 (m a b).is) ∧ w.cell? ⟨qb, x * 3 + 1, none⟩ = some (.int .u32 (m a b).sub) ∧ w.cell? ⟨qb, x * 3 + 2, none⟩ = some (.int .i64 (m a b).rest) ∧ ∀ o, w.frozen? ⟨qb, o, none⟩ = false := by
  obtain ⟨L, hL, hl⟩ := h.blk
  have hlt : x < k * N := by
    rw [hx]
    calc a * N + b < a * N + N := by omega
      _ = (a + 1) * N := by rw [Nat.succ_mul]
      _ ≤ k * N := Nat.mul_le_mul_right N ha
  obtain ⟨h0, h1, h2⟩ := hl x hlt
  have e1 : x / N = a := by rw [hx, Nat.add_comm, Nat.add_mul_div_right _ _ (by omega), Nat.div_eq_of_lt hb]; omega
  have e2 : x % N = b := by rw [hx, Nat.add_comm, Nat.add_mul_mod_self_right, Nat.mod_eq_of_lt hb]
  simp only [e1, e2] at h0 h1 h2
  exact ⟨hlt, (blk_cell hL _).trans h0, (blk_cell hL _).trans h1, (blk_cell hL _).trans h2, fun o => blk_frozen hL o⟩
theorem cell_al {w : World} {p : Addr} {v : Value} (o : Obj) (h : w.cell? p = some v) : (w.alloc o).cell? p = some v := (World.cell?_of_block (Below.heap_alloc w o _ (World.block_lt_of_cell? _ _ h))).trans h
theorem good12_calls (w : World) (t : Int) : Calls Try.prog 78 #[.int .i64 t] w fun e w' => e = .returned (.bool (good t)) ∧ w' = w := by
  unfold good
  by_cases h1 : 0 ≤ t
  · have h2 : decide (0 ≤ t) = true := decide_eq_true h1
    have h3 : decide (t ≥ 0) = true := decide_eq_true h1
    go_enter Try.func78, Try.ntmps78
    go_wp2
    go_ret
    exact ⟨by simp [h1], rfl⟩
  · have h2 : decide (0 ≤ t) = false := decide_eq_false h1
    have h3 : decide (t ≥ 0) = false := decide_eq_false h1
    go_enter Try.func78, Try.ntmps78
    go_wp2
    go_ret
    exact ⟨by simp [h1], rfl⟩
set_option maxHeartbeats 2000000 in
theorem ris_calls (w : World) (q qb : Nat) (k N : Nat) (hold : Int) (m : Nat → Nat → Blk) (i n : Int) (h : RefP w q qb k N hold m) :
    Calls Try.prog 77 #[.pointer (some ⟨q, 0, none⟩), .int .i64 i, .int .i64 n] w fun e w' => e = .returned (.bool (isIn k N i n)) ∧ w' = w := by
  obtain ⟨_, ⟨A, c, f3⟩, f18, _⟩ := h.facts
  clear h
  unfold isIn
  by_cases t1 : 0 ≤ i
  · have t1b : decide (0 ≤ i) = true := decide_eq_true t1
    have t1c : decide (i ≥ 0) = true := decide_eq_true t1
    by_cases t2 : i < (k : Int)
    · have t2b : decide (i < (k : Int)) = true := decide_eq_true t2
      by_cases t3 : 0 ≤ n
      · have t3b : decide (0 ≤ n) = true := decide_eq_true t3
        have t3c : decide (n ≥ 0) = true := decide_eq_true t3
        go_enter Try.func77, Try.ntmps77
        go_wp2
        go_ret
        first | exact ⟨rfl, rfl⟩ | exact ⟨by simp [t1b, t2b, t3b], rfl⟩
      · have t3b : decide (0 ≤ n) = false := decide_eq_false t3
        have t3c : decide (n ≥ 0) = false := decide_eq_false t3
        go_enter Try.func77, Try.ntmps77
        go_wp2
        go_ret
        first | exact ⟨rfl, rfl⟩ | exact ⟨by rw [t1b, t2b, t3b]; rfl, rfl⟩
    · have t2b : decide (i < (k : Int)) = false := decide_eq_false t2
      go_enter Try.func77, Try.ntmps77
      go_wp2
      go_ret
      first | exact ⟨rfl, rfl⟩ | exact ⟨by rw [t1b, t2b]; rfl, rfl⟩
  · have t1b : decide (0 ≤ i) = false := decide_eq_false t1
    have t1c : decide (i ≥ 0) = false := decide_eq_false t1
    go_enter Try.func77, Try.ntmps77
    go_wp2
    go_ret
    first | exact ⟨rfl, rfl⟩ | exact ⟨by rw [t1b]; rfl, rfl⟩
set_option maxHeartbeats 4000000 in
theorem rfree_calls (w : World) (q qb : Nat) (k N : Nat) (hold : Int) (m : Nat → Nat → Blk) (a b : Nat) (now : Int) (h : RefP w q qb k N hold m) (ha : a < k) (hb : b < N) :
    Calls Try.prog 80 #[.pointer (some ⟨q, 0, none⟩), .int .i64 a, .int .i64 b, .int .i64 now] w fun e w' => e = .returned (.bool (fr (m a b) now)) ∧ Below w.heap.size w w' := by
  obtain ⟨_, _, f18, c, f19⟩ := h.drew.facts
  obtain ⟨r, hr⟩ : ∃ r, r = a * N := ⟨_, rfl⟩
  obtain ⟨x, hx⟩ : ∃ x, x = a * N + b := ⟨_, rfl⟩
  obtain ⟨hlt, c0, c1, c2, _⟩ := h.drew.cells ha hb hx
  have hk := h.nk
  have hN := h.nN
  have hkN : k * N ≤ 8 * 4032 := Nat.mul_le_mul hk.2 hN.2
  obtain ⟨K, hK⟩ : ∃ K, K = k * N := ⟨_, rfl⟩
  rw [← hK] at f19 hlt hkN
  have m1 : (a : Int) * (N : Int) = (r : Int) := by rw [hr]; simp
  have hxr : x = r + b := by rw [hx, hr]
  have hw1 : wrap64 ((a : Int) * (N : Int)) = (r : Int) := by rw [m1]; unfold wrap64; omega
  have hw2 : wrap64 ((r : Int) + (b : Int)) = (x : Int) := by unfold wrap64; omega
  have hidx : (0 : Int) ≤ (x : Int) ∧ (x : Int) < (K : Int) := ⟨Int.natCast_nonneg x, Int.ofNat_lt.2 hlt⟩
  have F18 := Aside0.mk f18
  have F19 := Aside0.mk f19
  have C0 := Aside0.mk c0
  have C1 := Aside0.mk c1
  have C2 := Aside0.mk c2
  clear f18 f19 c0 c1 c2 hr hx hK hkN h m1 hxr
  go_enter Try.func80, Try.ntmps80
  go_wp2_with fail
  refine start_ (n := 16) (S := fun w' => w'.cell? ⟨q, 19, none⟩ = some (.slice (some ⟨qb, 0, none⟩) K c) ∧ w'.cell? ⟨q, 18, none⟩ = some (.int .i64 N) ∧ w'.cell? ⟨qb, x * 3, none⟩ = some (.int .i64 (m a b).is) ∧ w'.cell? ⟨qb, x * 3 + 1, none⟩ = some (.int .u32 (m a b).sub) ∧ w'.cell? ⟨qb, x * 3 + 2, none⟩ = some (.int .i64 (m a b).rest)) (ds := [15]) #[false, false, false, false, false, false, false, false, false, false, false, false, false, false, false, false] (by kernel_rfl) rfl rfl ⟨F19.out, F18.out, C0.out, C1.out, C2.out⟩ (fun hHeld => ?_)
  refine pure_ (i := 0) (N := some 10) (v := ?_) (a' := ?_) #[true, false, false, false, false, false, false, false, false, false, false, false, false, false, false, false] rfl rfl (by kernel_rfl) (fun _ _ _ h => h) (Or.inl ⟨by rfl, ?_⟩) ?_ ?_
  rotate_left
  · intro w'
    go_simp
    with_reducible rfl
  rotate_left
  · simp only [Act.put, List.setIfInBounds_toArray, List.set_cons_zero, List.set_cons_succ, i64_w, i32_w]
    rfl
  refine pure_ (i := 1) (N := some 11) (v := ?_) (a' := ?_) #[true, true, false, false, false, false, false, false, false, false, false, false, false, false, false, false] rfl rfl (by kernel_rfl) (fun _ _ _ h => h) (Or.inl ⟨by rfl, ?_⟩) ?_ ?_
  rotate_left
  · intro w'
    go_simp
    with_reducible rfl
  rotate_left
  · simp only [Act.put, List.setIfInBounds_toArray, List.set_cons_zero, List.set_cons_succ, i64_w, i32_w]
    rfl
  refine pure_ (i := 2) (N := some 12) (v := ?_) (a' := ?_) #[true, true, true, false, false, false, false, false, false, false, false, false, false, false, false, false] rfl rfl (by kernel_rfl) (fun _ _ _ h => h) (Or.inl ⟨by rfl, ?_⟩) ?_ ?_
  rotate_left
  · intro w'
    go_simp
    with_reducible rfl
  rotate_left
  · simp only [Act.put, List.setIfInBounds_toArray, List.set_cons_zero, List.set_cons_succ, i64_w, i32_w]
    rfl
  refine pure_ (i := 4) (N := some 14) (v := ?_) (a' := ?_) #[true, true, true, false, true, false, false, false, false, false, false, false, false, false, false, false] rfl rfl (by kernel_rfl) (fun _ _ _ h => h) (Or.inl ⟨by rfl, ?_⟩) ?_ ?_
  rotate_left
  · intro w'
    go_simp
    with_reducible rfl
  rotate_left
  · simp only [Act.put, List.setIfInBounds_toArray, List.set_cons_zero, List.set_cons_succ, i64_w, i32_w]
    rfl
  refine pure_ (i := 5) (N := some 15) (v := ?_) (a' := ?_) #[true, true, true, false, true, true, false, false, false, false, false, false, false, false, false, false] rfl rfl (by kernel_rfl) (fun _ _ _ h => h) (Or.inl ⟨by rfl, ?_⟩) ?_ ?_
  rotate_left
  · intro w'
    go_simp
    with_reducible rfl
  rotate_left
  · simp only [Act.put, List.setIfInBounds_toArray, List.set_cons_zero, List.set_cons_succ, i64_w, i32_w]
    rfl
  refine pure_ (i := 6) (N := some 16) (v := ?_) (a' := ?_) #[true, true, true, false, true, true, true, false, false, false, false, false, false, false, false, false] rfl rfl (by kernel_rfl) (fun _ _ _ h => h) (Or.inl ⟨by rfl, ?_⟩) ?_ ?_
  rotate_left
  · intro w'
    go_simp
    with_reducible rfl
  rotate_left
  · simp only [Act.put, List.setIfInBounds_toArray, List.set_cons_zero, List.set_cons_succ, i64_w, i32_w]
    rfl
  refine pure_ (i := 7) (N := some 17) (v := ?_) (a' := ?_) #[true, true, true, false, true, true, true, true, false, false, false, false, false, false, false, false] rfl rfl (by kernel_rfl) (fun _ _ _ h => h) (Or.inl ⟨by rfl, ?_⟩) ?_ ?_
  rotate_left
  · intro w'
    go_simp
    with_reducible rfl
  rotate_left
  · simp only [Act.put, List.setIfInBounds_toArray, List.set_cons_zero, List.set_cons_succ, i64_w, i32_w]
    rfl
  refine pure_ (i := 10) (N := some 20) (v := ?_) (a' := ?_) #[true, true, true, false, true, true, true, true, false, false, true, false, false, false, false, false] rfl rfl (by kernel_rfl) (fun _ _ _ h => h) (Or.inl ⟨by rfl, ?_⟩) ?_ ?_
  rotate_left
  · intro w'
    go_simp
    with_reducible rfl
  rotate_left
  · simp only [Act.put, List.setIfInBounds_toArray, List.set_cons_zero, List.set_cons_succ, i64_w, i32_w]
    rfl
  refine take_ (i := 3) (N := some 13) (v := ?_) (a' := ?_) #[true, true, true, true, true, true, true, true, false, false, true, false, false, false, false, false] rfl rfl (by kernel_rfl) (fun _ _ _ h => h) (Or.inl ⟨by rfl, ?_⟩) hHeld ?_ ?_
  rotate_left
  · rintro w' ⟨s0, s1, s2, s3, s4⟩
    go_simp
    with_reducible rfl
  rotate_left
  · simp only [Act.put, List.setIfInBounds_toArray, List.set_cons_zero, List.set_cons_succ, i64_w, i32_w]
    rfl
  refine take_ (i := 8) (N := some 18) (v := ?_) (a' := ?_) #[true, true, true, true, true, true, true, true, true, false, true, false, false, false, false, false] rfl rfl (by kernel_rfl) (fun _ _ _ h => h) (Or.inl ⟨by rfl, ?_⟩) hHeld ?_ ?_
  rotate_left
  · rintro w' ⟨s0, s1, s2, s3, s4⟩
    go_simp
    with_reducible rfl
  rotate_left
  · simp only [Act.put, List.setIfInBounds_toArray, List.set_cons_zero, List.set_cons_succ, i64_w, i32_w]
    rfl
  refine pure_ (i := 9) (N := some 19) (v := ?_) (a' := ?_) #[true, true, true, true, true, true, true, true, true, true, true, false, false, false, false, false] rfl rfl (by kernel_rfl) (fun _ _ _ h => h) (Or.inl ⟨by rfl, ?_⟩) ?_ ?_
  rotate_left
  · intro w'
    go_simp
    with_reducible rfl
  rotate_left
  · simp only [Act.put, List.setIfInBounds_toArray, List.set_cons_zero, List.set_cons_succ, i64_w, i32_w]
    rfl
  refine pure_ (i := 11) (N := some 21) (v := ?_) (a' := ?_) #[true, true, true, true, true, true, true, true, true, true, true, true, false, false, false, false] rfl rfl (by kernel_rfl) (fun _ _ _ h => h) (Or.inl ⟨by rfl, ?_⟩) ?_ ?_
  rotate_left
  · intro w'
    go_simp
    with_reducible rfl
  rotate_left
  · simp only [Act.put, List.setIfInBounds_toArray, List.set_cons_zero, List.set_cons_succ, i64_w, i32_w]
    rfl
  refine pure_ (i := 12) (N := some 22) (v := ?_) (a' := ?_) #[true, true, true, true, true, true, true, true, true, true, true, true, true, false, false, false] rfl rfl (by kernel_rfl) (fun _ _ _ h => h) (Or.inl ⟨by rfl, ?_⟩) ?_ ?_
  rotate_left
  · intro w'
    go_simp
    with_reducible rfl
  rotate_left
  · simp only [Act.put, List.setIfInBounds_toArray, List.set_cons_zero, List.set_cons_succ, i64_w, i32_w]
    rfl
  refine take_ (i := 13) (N := some 23) (v := ?_) (a' := ?_) #[true, true, true, true, true, true, true, true, true, true, true, true, true, true, false, false] rfl rfl (by kernel_rfl) (fun _ _ _ h => h) (Or.inl ⟨by rfl, ?_⟩) hHeld ?_ ?_
  rotate_left
  · rintro w' ⟨s0, s1, s2, s3, s4⟩
    go_simp
    with_reducible rfl
  rotate_left
  · simp only [Act.put, List.setIfInBounds_toArray, List.set_cons_zero, List.set_cons_succ, i64_w, i32_w]
    rfl
  refine one_ (i := 14) (N := some 9) #[true, true, true, true, true, true, true, true, true, true, true, true, true, true, true, false] rfl rfl (by kernel_rfl) (by decide) (fun K hK => ?_)
  refine value_ (w1 := ?_) (v := ?_) (by rfl) rfl ?_ ?_
  rotate_left 2
  · go_simp
    constructor
    · rfl
    · rfl
  refine hK.out _ _ ⟨cell_al _ F19.out, cell_al _ F18.out, cell_al _ C0.out, cell_al _ C1.out, cell_al _ C2.out⟩ (fun hHeld => ?_)
  clear hK K
  refine norm_ (a' := ?_) ?_ ?_
  rotate_left
  · show Act.put _ (some 9) _ = _
    simp only [Act.put, List.setIfInBounds_toArray, List.set_cons_zero, List.set_cons_succ, i64_w, i32_w]
    rfl
  refine last_ (i := 15) (N := none) #[true, true, true, true, true, true, true, true, true, true, true, true, true, true, true, true] rfl rfl (by kernel_rfl) (by decide) (fun K hK => ?_)
  refine skip_ (w1 := ?_) (by rfl) rfl ?_ ?_
  rotate_left
  · go_simp
    rfl
  refine hK.out _ _ ?_
  clear hK K
  refine done_ (by kernel_rfl) ?_
  have HB := Aside0.mk (below_drew (below_alloc (Below.refl _ w) (.cells #[.int .i64 (m a b).is, .int .u32 (m a b).sub, .int .i64 (m a b).rest] 112)))
  cases t0 : ((m a b).is == 0) with
  | true =>
    by_cases t1 : (m a b).rest ≤ now
    · have t1b : decide ((m a b).rest ≤ now) = true := decide_eq_true t1
      have t1c : decide (now ≥ (m a b).rest) = true := decide_eq_true t1
      have ef : fr (m a b) now = true := by unfold fr; rw [t0, t1b]; rfl
      have EF := Aside0.mk ef
      clear ef
      go_wp2
      go_ret
      exact ⟨by rw [EF.out]; rfl, HB.out⟩
    · have t1b : decide ((m a b).rest ≤ now) = false := decide_eq_false t1
      have t1c : decide (now ≥ (m a b).rest) = false := decide_eq_false t1
      have ef : fr (m a b) now = false := by unfold fr; rw [t0, t1b]; rfl
      have EF := Aside0.mk ef
      clear ef
      go_wp2
      go_ret
      exact ⟨by rw [EF.out]; rfl, HB.out⟩
  | false =>
    have ef : fr (m a b) now = false := by unfold fr; rw [t0]; rfl
    have EF := Aside0.mk ef
    clear ef
    go_wp2
    go_ret
    exact ⟨by rw [EF.out]; rfl, HB.out⟩
end Go.Proofs.Ytoapbppjkidgiaa.Pool
