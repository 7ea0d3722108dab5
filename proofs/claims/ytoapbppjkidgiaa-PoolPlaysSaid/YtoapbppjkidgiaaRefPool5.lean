/- RefPool5: the reference pool's Free. Conditions: the pool is one that NewPool made. -/
import Derived.Test.YtoapbppjkidgiaaRefPool3
import Derived.Test.YtoapbppjkidgiaaPool8
namespace Go.Proofs.Ytoapbppjkidgiaa.Pool
open Go.RowKit Go.Proofs.YtoapbppjkidgiaaW.PrintWords Go.Proofs.YtoapbppjkidgiaaW.PrintLast Go.Proofs.YtoapbppjkidgiaaW.PrintMore Tape Setup
set_option linter.unusedVariables false
set_option linter.unusedSimpArgs false
set_option maxRecDepth 100000
def sel (i : Int) (x : Nat) : Bool := i == -1 || i == (x : Int)
/-- the free blocks of those of the first x addresses that are asked of. -/
def cnt (m : Nat → Nat → Blk) (now : Int) (N : Nat) (i : Int) : Nat → Nat
  | 0 => 0
  | x + 1 => cnt m now N i x + if sel i x then (frees (m x) now N).length else 0
theorem cnt_le (m : Nat → Nat → Blk) (now : Int) (N : Nat) (i : Int) (x : Nat) : cnt m now N i x ≤ x * N := by
  induction x with
  | zero => exact Nat.zero_le _
  | succ x ih =>
    have := frees_len (m x) now N
    unfold cnt
    rw [Nat.succ_mul]
    split <;> omega
theorem cnt_all (m : Nat → Nat → Blk) (now : Int) (N x : Nat) : cnt m now N (-1) x = sumFr m now N x := by
  induction x with
  | zero => rfl
  | succ x ih => unfold cnt sumFr; rw [ih, if_pos (show sel (-1) x = true from rfl)]
theorem cnt_one (m : Nat → Nat → Blk) (now : Int) (N a x : Nat) : cnt m now N a x = if a < x then (frees (m a) now N).length else 0 := by
  induction x with
  | zero => rfl
  | succ x ih =>
    unfold cnt
    rw [ih]
    have e1 : ((a : Int) == -1) = false := beq_eq_false_iff_ne.2 (by omega)
    unfold sel
    rw [e1, Bool.false_or]
    by_cases e : a = x
    · subst e
      rw [if_neg (Nat.lt_irrefl a), if_pos (Nat.lt_succ_self a), if_pos (beq_self_eq_true _)]
      omega
    · have e2 : ((a : Int) == (x : Int)) = false := beq_eq_false_iff_ne.2 (by omega)
      rw [e2]
      simp only [Bool.false_eq_true, if_false, Nat.add_zero]
      by_cases h : a < x
      · rw [if_pos h, if_pos (by omega)]
      · rw [if_neg h, if_neg (by omega)]
theorem cnt_free {k N : Nat} {m : Nat → Nat → Blk} {i now : Int} (h : mayAsk k i now = true) : nFree k N m i now = (cnt m now N i k : Nat) := by
  have h2 := h
  unfold mayAsk at h2
  simp only [Bool.and_eq_true, decide_eq_true_eq] at h2
  unfold nFree
  rw [if_pos h]
  by_cases hi : 0 ≤ i
  · obtain ⟨a, rfl⟩ := Int.eq_ofNat_of_zero_le hi
    rw [if_pos hi]
    show _ = ((cnt m now N (a : Int) k : Nat) : Int)
    rw [cnt_one, if_pos (by omega)]
    rfl
  · rw [if_neg hi, show i = -1 by omega, cnt_all]
set_option maxHeartbeats 8000000 in
theorem rfr_calls (w : World) (q qb : Nat) (k N : Nat) (hold : Int) (m : Nat → Nat → Blk) (i now : Int) (h : RefP w q qb k N hold m) :
    Calls Try.prog 79 #[.pointer (some ⟨q, 0, none⟩), .int .i64 i, .int .i64 now] w fun e w' =>
      e = .returned (.int .i64 (nFree k N m i now)) ∧ Below w.heap.size w w' := by
  obtain ⟨_, ⟨A, c, f3⟩, f18, _⟩ := h.facts
  have hk := h.nk
  have hN := h.nN
  have HR := Aside0.mk h
  clear h
  by_cases t1 : i < -1
  · have t1b : decide (i < -1) = true := decide_eq_true t1
    have e1 : nFree k N m i now = 0 := by unfold nFree mayAsk; rw [decide_eq_false (show ¬ -1 ≤ i by omega)]; rfl
    rw [e1]
    clear e1
    go_enter Try.func79, Try.ntmps79
    go_wp2
    go_ret
    exact ⟨rfl, Below.refl _ _⟩
  · have t1b : decide (i < -1) = false := decide_eq_false t1
    by_cases t2 : (k : Int) ≤ i
    · have t2b : decide ((k : Int) ≤ i) = true := decide_eq_true t2
      have t2c : decide (i ≥ (k : Int)) = true := decide_eq_true t2
      have e1 : nFree k N m i now = 0 := by unfold nFree mayAsk; rw [decide_eq_false (show ¬ i < (k : Int) by omega), Bool.and_false]; rfl
      rw [e1]
      clear e1
      go_enter Try.func79, Try.ntmps79
      go_wp2
      go_ret
      exact ⟨rfl, Below.refl _ _⟩
    · have t2b : decide ((k : Int) ≤ i) = false := decide_eq_false t2
      have t2c : decide (i ≥ (k : Int)) = false := decide_eq_false t2
      cases hg : good now with
      | false =>
        have e1 : nFree k N m i now = 0 := by unfold nFree mayAsk; rw [hg, Bool.and_false]; rfl
        rw [e1]
        clear e1
        go_enter Try.func79, Try.ntmps79
        go_wp2_with (go_at_call 78; refine (good12_calls _ _).mono ?_; rintro e w' ⟨rfl, hw⟩; obtain rfl := hw.symm)
        go_ret
        exact ⟨rfl, Below.refl _ _⟩
      | true =>
        have em : mayAsk k i now = true := by unfold mayAsk; rw [hg, decide_eq_true (show -1 ≤ i by omega), decide_eq_true (show i < (k : Int) by omega)]; rfl
        rw [cnt_free em]
        clear em
        go_enter Try.func79, Try.ntmps79
        go_wp2_with (go_at_call 78; refine (good12_calls _ _).mono ?_; rintro e w' ⟨rfl, hw⟩; obtain rfl := hw.symm)
        clear f3 f18
        go_loopw [7, 8] (fun s x wr => ∃ j : Nat, j ≤ k ∧ x = .int .i64 j ∧ s = .int .i64 (cnt m now N i j : Nat) ∧ Below w.heap.size w wr) (fun _ x _ => k - (intOf x).toNat)
        case atStart => exact ⟨0, Nat.zero_le _, rfl, rfl, Below.refl _ _⟩
        case round =>
          obtain ⟨j, hj, rfl, rfl, hB⟩ := hrel
          have HB := Aside0.mk hB
          obtain ⟨_, ⟨A2, c2, f3⟩, f18, _⟩ := (HR.out.below hB).facts
          have hle := cnt_le m now N i j
          have hjN : j * N ≤ 8 * 4032 := Nat.mul_le_mul (by omega) hN.2
          clear hB
          by_cases hlt : j < k
          · have e2 : cnt m now N i (j + 1) = cnt m now N i j + if sel i j then (frees (m j) now N).length else 0 := rfl
            have HE2 := Aside0.mk e2
            clear e2
            go_wp2_with fail
            clear f3 f18
            go_loopw [7, 9] (fun s x wi => ∃ b : Nat, b ≤ N ∧ x = .int .i64 b ∧ s = .int .i64 ((cnt m now N i j + if sel i j then (frees (m j) now b).length else 0 : Nat) : Int) ∧ Below w.heap.size w wi) (fun _ x _ => N - (intOf x).toNat)
            case atStart => exact ⟨0, Nat.zero_le _, rfl, by cases sel i j <;> rfl, HB.out⟩
            case round =>
              rename World => wi
              obtain ⟨b, hb, rfl, rfl, hB⟩ := hrel
              have HBI := Aside0.mk hB
              have HRI := Aside0.mk (HR.out.below hB)
              obtain ⟨_, _, f18, _⟩ := HRI.out.facts
              clear hB
              by_cases hltb : b < N
              · have hfl := frees_len (m j) now b
                have e3 : frees (m j) now (b + 1) = if fr (m j b) now then frees (m j) now b ++ [b] else frees (m j) now b := frees_succ _ _ _
                cases hs : sel i j with
                | false =>
                  have s1 : (i == -1) = false := by unfold sel at hs; exact (Bool.or_eq_false_iff.1 hs).1
                  have s2 : (i == (j : Int)) = false := by unfold sel at hs; exact (Bool.or_eq_false_iff.1 hs).2
                  have HS := Aside0.mk hs
                  clear hs e3
                  go_wp2
                  go_roundw
                  case rel => exact ⟨b + 1, by omega, by go_num, rfl, HBI.out⟩
                  case measure => simp [intOf]; omega
                | true =>
                  have HS := Aside0.mk hs
                  have HE3 := Aside0.mk e3
                  have free := Aside0.mk (rfree_calls wi q qb k N hold m j b now HRI.out hlt hltb)
                  cases s1 : (i == -1) with
                  | true =>
                    clear hs e3
                    go_wp2_with fail
                    refine free.out.mono ?_
                    rintro e w5 ⟨rfl, hb5⟩
                    have HB5 := Aside0.mk (below_then HBI.out HBI.out.size hb5)
                    clear hb5
                    cases hf : fr (m j b) now with
                    | true =>
                      rw [hf, if_pos rfl] at HE3
                      go_wp2
                      go_roundw
                      case rel => exact ⟨b + 1, by omega, by go_num, by rw [HE3.out]; exact congrArg (Value.int .i64) (by simp <;> omega), HB5.out⟩
                      case measure => simp [intOf]; omega
                    | false =>
                      rw [hf] at HE3
                      go_wp2
                      go_roundw
                      case rel => exact ⟨b + 1, by omega, by go_num, by rw [HE3.out]; rfl, HB5.out⟩
                      case measure => simp [intOf]; omega
                  | false =>
                    have s2 : (i == (j : Int)) = true := by unfold sel at hs; rw [s1] at hs; exact hs
                    clear hs e3
                    go_wp2_with fail
                    refine free.out.mono ?_
                    rintro e w5 ⟨rfl, hb5⟩
                    have HB5 := Aside0.mk (below_then HBI.out HBI.out.size hb5)
                    clear hb5
                    cases hf : fr (m j b) now with
                    | true =>
                      rw [hf, if_pos rfl] at HE3
                      go_wp2
                      go_roundw
                      case rel => exact ⟨b + 1, by omega, by go_num, by rw [HE3.out]; exact congrArg (Value.int .i64) (by simp <;> omega), HB5.out⟩
                      case measure => simp [intOf]; omega
                    | false =>
                      rw [hf] at HE3
                      go_wp2
                      go_roundw
                      case rel => exact ⟨b + 1, by omega, by go_num, by rw [HE3.out]; rfl, HB5.out⟩
                      case measure => simp [intOf]; omega
              · obtain rfl : b = N := by omega
                go_wp2
                go_roundw
                case rel => exact ⟨j + 1, by omega, by go_num, by rw [HE2.out], HBI.out⟩
                case measure => simp [intOf]; omega
          · obtain rfl : j = k := by omega
            go_wp2
            go_ret
            exact ⟨rfl, HB.out⟩
end Go.Proofs.Ytoapbppjkidgiaa.Pool
