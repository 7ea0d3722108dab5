/- Pool4: Free, how many blocks are free. Conditions: the pool is one that New made. -/
import Derived.Test.YtoapbppjkidgiaaPool3
namespace Go.Proofs.Ytoapbppjkidgiaa.Pool
open Go.RowKit Go.Proofs.YtoapbppjkidgiaaW.PrintWords Go.Proofs.YtoapbppjkidgiaaW.PrintLast Go.Proofs.YtoapbppjkidgiaaW.PrintMore Tape Setup
set_option linter.unusedVariables false
set_option linter.unusedSimpArgs false
set_option maxRecDepth 100000
theorem Nums.len {n₀ : Nat} {w : World} {v : Value} {l : List Nat} (h : Nums n₀ w v l) : ∃ ad c, v = .slice ad l.length c := by
  rcases h.1.2 with ⟨rfl, h0⟩ | ⟨g, cap, cur, rfl, _⟩
  · exact ⟨none, 0, by rw [h0]⟩
  · exact ⟨_, _, rfl⟩
/-- how many of the first k addresses' blocks are free. -/
def sumFr (m : Nat → Nat → Blk) (now : Int) (N : Nat) : Nat → Nat
  | 0 => 0
  | j + 1 => sumFr m now N j + (frees (m j) now N).length
theorem sumFr_le (m : Nat → Nat → Blk) (now : Int) (N j : Nat) : sumFr m now N j ≤ j * N := by
  induction j with
  | zero => exact Nat.zero_le _
  | succ j ih =>
    have := frees_len (m j) now N
    unfold sumFr
    rw [Nat.succ_mul]
    omega
/-- may Free, Pick be asked so? -/
def mayAsk (k : Nat) (i now : Int) : Bool := decide (-1 ≤ i) && decide (i < k) && good now
def nFree (k N : Nat) (m : Nat → Nat → Blk) (i now : Int) : Int :=
  if mayAsk k i now then (if 0 ≤ i then (((frees (m i.toNat) now N).length : Nat) : Int) else ((sumFr m now N k : Nat) : Int)) else 0
set_option maxHeartbeats 4000000 in
theorem free_calls (w : World) (g ga : Nat) (gs : Nat → Nat) (k N : Nat) (hold : Int) (m : Nat → Nat → Blk) (i now : Int) (h : PoolSt w g ga gs k N hold m) :
    Calls Try.prog 43 #[.pointer (some ⟨g, 0, none⟩), .int .i64 i, .int .i64 now] w fun e w' =>
      e = .returned (.int .i64 (nFree k N m i now)) ∧ Below w.heap.size w w' := by
  obtain ⟨c, hh⟩ := h.head
  have h1 : w.cell? ⟨g, 1, none⟩ = some (.slice (some ⟨ga, 0, none⟩) k c) := (blk_cell hh 1).trans rfl
  have hk := h.nk
  have hN := h.nN
  have HP := Aside0.mk h
  clear h hh
  by_cases t1 : i < -1
  · have t1b : decide (i < -1) = true := decide_eq_true t1
    have e1 : nFree k N m i now = 0 := by unfold nFree mayAsk; rw [decide_eq_false (show ¬ -1 ≤ i by omega)]; rfl
    rw [e1]
    clear e1
    go_enter Try.func43, Try.ntmps43
    go_wp2_with (go_at_call 69; refine (made_calls _ _ _ _ _ _ _ _ HP.out).mono ?_; rintro e w' ⟨rfl, hw⟩; obtain rfl := hw.symm)
    go_ret
    exact ⟨rfl, Below.refl _ _⟩
  · have t1b : decide (i < -1) = false := decide_eq_false t1
    by_cases t2 : (k : Int) ≤ i
    · have t2b : decide ((k : Int) ≤ i) = true := decide_eq_true t2
      have t2c : decide (i ≥ (k : Int)) = true := decide_eq_true t2
      have e1 : nFree k N m i now = 0 := by unfold nFree mayAsk; rw [decide_eq_false (show ¬ i < (k : Int) by omega), Bool.and_false]; rfl
      rw [e1]
      clear e1
      go_enter Try.func43, Try.ntmps43
      go_wp2_with (go_at_call 69; refine (made_calls _ _ _ _ _ _ _ _ HP.out).mono ?_; rintro e w' ⟨rfl, hw⟩; obtain rfl := hw.symm)
      go_ret
      exact ⟨rfl, Below.refl _ _⟩
    · have t2b : decide ((k : Int) ≤ i) = false := decide_eq_false t2
      have t2c : decide (i ≥ (k : Int)) = false := decide_eq_false t2
      cases hg : good now with
      | false =>
        have e1 : nFree k N m i now = 0 := by unfold nFree mayAsk; rw [hg, Bool.and_false]; rfl
        rw [e1]
        clear e1
        go_enter Try.func43, Try.ntmps43
        go_wp2_with (first
          | (go_at_call 69; refine (made_calls _ _ _ _ _ _ _ _ HP.out).mono ?_; rintro e w' ⟨rfl, hw⟩; obtain rfl := hw.symm)
          | (go_at_call 71; refine (may_calls _ _).mono ?_; rintro e w' ⟨rfl, hw⟩; obtain rfl := hw.symm))
        go_ret
        exact ⟨rfl, Below.refl _ _⟩
      | true =>
        have em : mayAsk k i now = true := by unfold mayAsk; rw [hg, decide_eq_true (show -1 ≤ i by omega), decide_eq_true (show i < (k : Int) by omega)]; rfl
        by_cases t3 : 0 ≤ i
        · obtain ⟨a, rfl⟩ := Int.eq_ofNat_of_zero_le t3
          have e1 : nFree k N m a now = ((frees (m a) now N).length : Int) := by unfold nFree; rw [em, if_pos rfl, if_pos t3]; rfl
          rw [e1]
          clear e1 em
          go_enter Try.func43, Try.ntmps43
          go_wp2_with (first
            | (go_at_call 69; refine (made_calls _ _ _ _ _ _ _ _ HP.out).mono ?_; rintro e w' ⟨rfl, hw⟩; obtain rfl := hw.symm)
            | (go_at_call 71; refine (may_calls _ _).mono ?_; rintro e w' ⟨rfl, hw⟩; obtain rfl := hw.symm)
            | (go_at_call 72; refine (list_calls _ _ _ _ _ _ _ _ a now HP.out (by omega)).mono ?_; rintro e w2 ⟨v, rfl, hv, hb⟩; obtain ⟨ad, cc, rfl⟩ := hv.len))
          go_ret
          exact ⟨rfl, hb⟩
        · have t3b : decide (0 ≤ i) = false := decide_eq_false t3
          have t3c : decide (i ≥ 0) = false := decide_eq_false t3
          have e1 : nFree k N m i now = (sumFr m now N k : Int) := by unfold nFree; rw [em, if_pos rfl, if_neg t3]
          rw [e1]
          clear e1 em
          go_enter Try.func43, Try.ntmps43
          go_wp2_with (first
            | (go_at_call 69; refine (made_calls _ _ _ _ _ _ _ _ HP.out).mono ?_; rintro e w' ⟨rfl, hw⟩; obtain rfl := hw.symm)
            | (go_at_call 71; refine (may_calls _ _).mono ?_; rintro e w' ⟨rfl, hw⟩; obtain rfl := hw.symm))
          clear h1
          go_loopw [7, 42] (fun s x wr => ∃ j : Nat, j ≤ k ∧ s = .int .i64 (sumFr m now N j) ∧ x = .int .i64 j ∧ Below w.heap.size w wr) (fun _ x _ => k - (intOf x).toNat)
          case atStart => exact ⟨0, Nat.zero_le _, rfl, rfl, Below.refl _ _⟩
          case round =>
            obtain ⟨j, hj, rfl, rfl, hB⟩ := hrel
            by_cases hlt : j < k
            · have hs := sumFr_le m now N j
              have hl := frees_len (m j) now N
              have hjN : j * N ≤ 8 * 4032 := Nat.mul_le_mul (by omega) hN.2
              have HPr := Aside0.mk (HP.out.below hB)
              have HB := Aside0.mk hB
              have e2 : sumFr m now N (j + 1) = sumFr m now N j + (frees (m j) now N).length := rfl
              have hw1 : wrap64 ((sumFr m now N j : Int) + ((frees (m j) now N).length : Int)) = (sumFr m now N (j + 1) : Int) := by rw [e2]; unfold wrap64; omega
              clear hB
              go_wp2_with (go_at_call 72; refine (list_calls _ _ _ _ _ _ _ _ j now HPr.out hlt).mono ?_; rintro e w2 ⟨v, rfl, hv, hb⟩; obtain ⟨ad, cc, rfl⟩ := hv.len)
              go_roundw
              case rel => exact ⟨j + 1, by omega, by rw [e2]; rfl, by go_num, below_then HB.out HB.out.size hb⟩
              case measure => simp [intOf]; omega
            · obtain rfl : j = k := by omega
              go_wp2
              go_ret
              exact ⟨rfl, hB⟩
end Go.Proofs.Ytoapbppjkidgiaa.Pool
