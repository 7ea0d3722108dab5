/- ConnLives: of any configuration and state the life that the program tells is the reference's. No condition. -/
import Derived.Test.YthdhdfhjimmkkaaLivesWalk
import Derived.Laws.BitsLemmas
namespace Go.Proofs.Ythdhdfhjimmkkaa.Pure
open Go.RowKit Go.Proofs.Ythdhdfhjimmkkaa.PConnKnown Go.Proofs.Ythdhdfhjimmkkaa.Lives Go.Proofs.YthdhdfhjimmkkaaW.PrintWords Go.Proofs.YthdhdfhjimmkkaaW.PrintLast

/- Plain facts on the flags of a segment: what `x & c` is for a small constant c. -/
theorem bits8 (x : Int) (c : Nat) (hc : c < 8) : Go.bits .and .i64 x (c : Int) = ((((x % 8).toNat) &&& c : Nat) : Int) := by
  have h64 : IntKind.i64.bits = 64 := rfl
  have hc' : (BitVec.ofInt IntKind.i64.bits (c : Int)).toNat = c := by
    rw [BitVec.ofInt_natCast, BitVec.toNat_ofNat]
    exact Nat.mod_eq_of_lt (by rw [h64]; omega)
  have hle : ∀ n : Nat, (n &&& c) < 8 := fun n => Nat.lt_of_le_of_lt Nat.and_le_right hc
  have hx : (BitVec.ofInt IntKind.i64.bits x).toNat = (x % 18446744073709551616).toNat := by
    rw [BitVec.toNat_ofInt, h64]; rfl
  unfold Go.bits
  simp only [BitVec.toNat_and, hc', hx]
  have hn : ∀ n : Nat, n &&& c = (n % 8) &&& c := by
    intro n
    have h7 : c = 7 &&& c := by
      have := Nat.and_two_pow_sub_one_eq_mod c 3
      rw [Nat.and_comm]; simp at this; omega
    have h8 := Nat.and_two_pow_sub_one_eq_mod n 3
    simp at h8
    rw [← h8, Nat.and_assoc, ← h7]
  rw [hn]
  have he : (x % 18446744073709551616).toNat % 8 = (x % 8).toNat := by omega
  rw [he]
  have := hle (x % 8).toNat
  rw [IntKind.wrap_i64]; omega

/-- the state that counts. -/
def st (s : Int) : Int := if s < 0 then 0 else if s > 8 then 0 else s
theorem st_in (s : Int) : 0 ≤ st s ∧ st s ≤ 8 := by unfold st; split <;> (try split) <;> omega
theorem next_st (k : Nat) (s : Int) (o : Bool) (f : Int) : conn_Next.f (k + 1) s o f = conn_Next.j1 k (st s) o f := by
  unfold conn_Next.f st
  split
  · simp [conn_Next.j0]
  · split
    · rename_i h; simp [conn_Next.j0, h]
    · rename_i h; simp [conn_Next.j0, h]
theorem nine (P : Int → Prop) (h0 : P 0) (h1 : P 1) (h2 : P 2) (h3 : P 3) (h4 : P 4) (h5 : P 5) (h6 : P 6) (h7 : P 7) (h8 : P 8) (s : Int) (hs : 0 ≤ s ∧ s ≤ 8) : P s := by
  obtain rfl | rfl | rfl | rfl | rfl | rfl | rfl | rfl | rfl : s = 0 ∨ s = 1 ∨ s = 2 ∨ s = 3 ∨ s = 4 ∨ s = 5 ∨ s = 6 ∨ s = 7 ∨ s = 8 := by omega
  all_goals assumption
theorem eight (f : Int) : (f % 8).toNat = 0 ∨ (f % 8).toNat = 1 ∨ (f % 8).toNat = 2 ∨ (f % 8).toNat = 3 ∨ (f % 8).toNat = 4 ∨ (f % 8).toNat = 5 ∨ (f % 8).toNat = 6 ∨ (f % 8).toNat = 7 := by omega

/-- what comes, as a table of numbers: by the flags' lowest three bits. -/
def nx (s : Nat) (o : Bool) (f : Nat) : Int :=
  if f &&& 4 ≠ 0 then 8
  else if f &&& 2 ≠ 0 ∧ ((s = 2 ∧ o = false) ∨ (s = 3 ∧ o = true)) then 4
  else if f &&& 2 ≠ 0 ∧ (s = 0 ∨ s = 1 ∨ s = 7 ∨ s = 8) then (if o then 2 else 3)
  else if f &&& 1 ≠ 0 ∧ ((s = 5 ∧ o = false) ∨ (s = 6 ∧ o = true)) then 7
  else if f &&& 1 ≠ 0 ∧ s ≤ 4 then (if o then 5 else 6)
  else if f &&& 3 = 0 ∧ s = 0 then 1
  else s
theorem flags (f : Int) : Go.bits .and .i64 f 1 = (((f % 8).toNat &&& 1 : Nat) : Int) ∧ Go.bits .and .i64 f 2 = (((f % 8).toNat &&& 2 : Nat) : Int) ∧
    Go.bits .and .i64 f 3 = (((f % 8).toNat &&& 3 : Nat) : Int) ∧ Go.bits .and .i64 f 4 = (((f % 8).toNat &&& 4 : Nat) : Int) ∧
    Go.bits .and .i64 f 5 = (((f % 8).toNat &&& 5 : Nat) : Int) ∧ Go.bits .and .i64 f 7 = (((f % 8).toNat &&& 7 : Nat) : Int) :=
  ⟨bits8 f 1 (by decide), bits8 f 2 (by decide), bits8 f 3 (by decide), bits8 f 4 (by decide), bits8 f 5 (by decide), bits8 f 7 (by decide)⟩
set_option maxHeartbeats 4000000 in
theorem next_nx (s : Int) (o : Bool) (f : Int) : conn_Next.f 6 s o f = some (nx (st s).toNat o (f % 8).toNat) := by
  rw [next_st]
  obtain ⟨b1, b2, b3, b4, _, _⟩ := flags f
  have h := eight f
  generalize (f % 8).toNat = g at *
  refine nine (fun s => conn_Next.j1 5 s o f = some (nx s.toNat o g)) ?_ ?_ ?_ ?_ ?_ ?_ ?_ ?_ ?_ (st s) (st_in s)
  all_goals
    rcases h with rfl | rfl | rfl | rfl | rfl | rfl | rfl | rfl <;> cases o <;>
      simp only [conn_Next.j1, conn_Next.j2, conn_begins.f, conn_begins.j0, conn_ends.f, conn_ends.j0, conn_either.f, b1, b2, b3, b4] <;> rfl
theorem awake_true : bailiwicklaw20_awake.f 6 = some true := by
  unfold bailiwicklaw20_awake.f
  simp only [next_nx, Option.bind_some]
  decide

theorem ConnLives_calls (a0_0 : Int) (a0_1 : Int) (a0_2 : Int) (A0_3 : Option Addr) (c0_3 : Nat) (l0_3 : List Int) (a0_4 : Int) (a0_5 : Int) (a0_6 : Int) (a0_7 : Int) (a0_8 : Int) (a0_9 : Int) (a0_10 : Int) (a0_11 : Int) (a0_12 : Int) (a0_13 : Int) (a0_14 : Int) (a0_15 : Int) (a0_16 : Int) (a0_17 : Bool) (a1 : Int) (w : World) (hr : Kd.C (Kd.int .u32) w A0_3 l0_3.length l0_3) (hc : l0_3.length ≤ c0_3) :
    Calls Try.prog 7 #[.agg #[.int .u32 a0_0, .int .i64 a0_1, .int .u32 a0_2, .slice A0_3 l0_3.length c0_3, .int .i64 a0_4, .int .i64 a0_5, .int .i64 a0_6, .int .i64 a0_7, .int .i64 a0_8, .int .i64 a0_9, .int .i64 a0_10, .int .i64 a0_11, .int .i64 a0_12, .int .i64 a0_13, .int .i64 a0_14, .int .i64 a0_15, .int .i64 a0_16, .bool a0_17], .int .i64 a1] w fun e w' => e = .returned (.bool true) ∧ Below w.heap.size w w' := by
  by_cases h : (l0_3.length : Int) > 1000
  · exact lives_long 6 a0_0 a0_1 a0_2 A0_3 c0_3 l0_3 a0_4 a0_5 a0_6 a0_7 a0_8 a0_9 a0_10 a0_11 a0_12 a0_13 a0_14 a0_15 a0_16 a0_17 a1 w hr hc awake_true h
  · have e : (if a1 = 4 then a0_13 else a0_14) = (if a1 = 4 then a0_13 else a0_14) := rfl
    refine (lives_short 6 a0_0 a0_1 a0_2 A0_3 c0_3 l0_3 a0_4 a0_5 a0_6 a0_7 a0_8 a0_9 a0_10 a0_11 a0_12 a0_13 a0_14 a0_15 a0_16 a0_17 a1 w hr hc awake_true h (if a1 = 4 then a0_13 else a0_14) (if a1 = 4 then a0_13 else a0_14) ?_ ?_).mono ?_
    · unfold conn_Life.f; split <;> rfl
    · unfold bailiwickref18_Life.f; split <;> rfl
    · rintro e w' ⟨rfl, hb⟩
      exact ⟨by simp, hb⟩

end Go.Proofs.Ythdhdfhjimmkkaa.Pure
