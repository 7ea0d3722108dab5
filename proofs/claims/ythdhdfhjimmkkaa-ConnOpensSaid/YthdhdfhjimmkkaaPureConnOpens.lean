/- ConnOpens: along any sides and flags a session opens by a SYN from each side and is left by RST or FIN alone. No condition. -/
import Derived.Test.YthdhdfhjimmkkaaPConnOpensx3
import Derived.Laws.BitsLemmas
namespace Go.Proofs.Ythdhdfhjimmkkaa.Pure
open Go.RowKit Go.Proofs.Ythdhdfhjimmkkaa.PConnOpens Go.Proofs.YthdhdfhjimmkkaaW.PrintWords Go.Proofs.YthdhdfhjimmkkaaW.PrintLast

/- Plain facts on the flags of a segment: what `x & c` is for a small constant c. -/
theorem bits8 (x : Int) (c : Nat) (hc : c < 8) : Go.bits .and .i64 x (c : Int) = ((((x % 8).toNat) &&& c : Nat) : Int) := by
  have h64 : IntKind.i64.bits = 64 := rfl
  have hc' : (BitVec.ofInt IntKind.i64.bits (c : Int)).toNat = c := by
    rw [BitVec.ofInt_natCast, BitVec.toNat_ofNat]
    exact Nat.mod_eq_of_lt (by rw [h64]; omega)
  have hle : ∀ n : Nat, (n &&& c) < 8 := fun n => Nat.lt_of_le_of_lt Nat.and_le_right hc
  have hx : (BitVec.ofInt IntKind.i64.bits x).toNat = (x % 18446744073709551616).toNat := by
    rw [BitVec.toNat_ofInt, h64]; rfl
  unfold Go.bits
  simp only [BitVec.toNat_and, hc', hx]
  have hn : ∀ n : Nat, n &&& c = (n % 8) &&& c := by
    intro n
    have h7 : c = 7 &&& c := by
      have := Nat.and_two_pow_sub_one_eq_mod c 3
      rw [Nat.and_comm]; simp at this; omega
    have h8 := Nat.and_two_pow_sub_one_eq_mod n 3
    simp at h8
    rw [← h8, Nat.and_assoc, ← h7]
  rw [hn]
  have he : (x % 18446744073709551616).toNat % 8 = (x % 8).toNat := by omega
  rw [he]
  have := hle (x % 8).toNat
  rw [IntKind.wrap_i64]; omega

/-- the state that counts. -/
def st (s : Int) : Int := if s < 0 then 0 else if s > 8 then 0 else s
theorem st_in (s : Int) : 0 ≤ st s ∧ st s ≤ 8 := by unfold st; split <;> (try split) <;> omega
theorem next_st (k : Nat) (s : Int) (o : Bool) (f : Int) : conn_Next.f (k + 1) s o f = conn_Next.j1 k (st s) o f := by
  unfold conn_Next.f st
  split
  · simp [conn_Next.j0]
  · split
    · rename_i h; simp [conn_Next.j0, h]
    · rename_i h; simp [conn_Next.j0, h]
theorem nine (P : Int → Prop) (h0 : P 0) (h1 : P 1) (h2 : P 2) (h3 : P 3) (h4 : P 4) (h5 : P 5) (h6 : P 6) (h7 : P 7) (h8 : P 8) (s : Int) (hs : 0 ≤ s ∧ s ≤ 8) : P s := by
  obtain rfl | rfl | rfl | rfl | rfl | rfl | rfl | rfl | rfl : s = 0 ∨ s = 1 ∨ s = 2 ∨ s = 3 ∨ s = 4 ∨ s = 5 ∨ s = 6 ∨ s = 7 ∨ s = 8 := by omega
  all_goals assumption
theorem eight (f : Int) : (f % 8).toNat = 0 ∨ (f % 8).toNat = 1 ∨ (f % 8).toNat = 2 ∨ (f % 8).toNat = 3 ∨ (f % 8).toNat = 4 ∨ (f % 8).toNat = 5 ∨ (f % 8).toNat = 6 ∨ (f % 8).toNat = 7 := by omega

/-- what comes, as a table of numbers: by the flags' lowest three bits. -/
def nx (s : Nat) (o : Bool) (f : Nat) : Int :=
  if f &&& 4 ≠ 0 then 8
  else if f &&& 2 ≠ 0 ∧ ((s = 2 ∧ o = false) ∨ (s = 3 ∧ o = true)) then 4
  else if f &&& 2 ≠ 0 ∧ (s = 0 ∨ s = 1 ∨ s = 7 ∨ s = 8) then (if o then 2 else 3)
  else if f &&& 1 ≠ 0 ∧ ((s = 5 ∧ o = false) ∨ (s = 6 ∧ o = true)) then 7
  else if f &&& 1 ≠ 0 ∧ s ≤ 4 then (if o then 5 else 6)
  else if f &&& 3 = 0 ∧ s = 0 then 1
  else s
theorem flags (f : Int) : Go.bits .and .i64 f 1 = (((f % 8).toNat &&& 1 : Nat) : Int) ∧ Go.bits .and .i64 f 2 = (((f % 8).toNat &&& 2 : Nat) : Int) ∧
    Go.bits .and .i64 f 3 = (((f % 8).toNat &&& 3 : Nat) : Int) ∧ Go.bits .and .i64 f 4 = (((f % 8).toNat &&& 4 : Nat) : Int) ∧
    Go.bits .and .i64 f 5 = (((f % 8).toNat &&& 5 : Nat) : Int) ∧ Go.bits .and .i64 f 7 = (((f % 8).toNat &&& 7 : Nat) : Int) :=
  ⟨bits8 f 1 (by decide), bits8 f 2 (by decide), bits8 f 3 (by decide), bits8 f 4 (by decide), bits8 f 5 (by decide), bits8 f 7 (by decide)⟩
set_option maxHeartbeats 4000000 in
theorem next_nx (s : Int) (o : Bool) (f : Int) : conn_Next.f 6 s o f = some (nx (st s).toNat o (f % 8).toNat) := by
  rw [next_st]
  obtain ⟨b1, b2, b3, b4, _, _⟩ := flags f
  have h := eight f
  generalize (f % 8).toNat = g at *
  refine nine (fun s => conn_Next.j1 5 s o f = some (nx s.toNat o g)) ?_ ?_ ?_ ?_ ?_ ?_ ?_ ?_ ?_ (st s) (st_in s)
  all_goals
    rcases h with rfl | rfl | rfl | rfl | rfl | rfl | rfl | rfl <;> cases o <;>
      simp only [conn_Next.j1, conn_Next.j2, conn_begins.f, conn_begins.j0, conn_ends.f, conn_ends.j0, conn_either.f, b1, b2, b3, b4] <;> rfl
theorem awake_true : bailiwicklaw20_awake.f 6 = some true := by
  unfold bailiwicklaw20_awake.f
  simp only [next_nx, Option.bind_some]
  decide


theorem next_any (k : Nat) (s : Int) (o : Bool) (f : Int) : conn_Next.f (k + 6) s o f = some (nx (st s).toNat o (f % 8).toNat) := by
  induction k with
  | zero => exact next_nx s o f
  | succ k ih => exact conn_Next.mono _ _ _ _ _ ih
theorem awake_any (k : Nat) : bailiwicklaw20_awake.f (k + 6) = some true := by
  induction k with
  | zero => exact awake_true
  | succ k ih => exact bailiwicklaw20_awake.mono _ _ ih
/-- what one round asks of what comes. -/
def okRound (s t : Int) (o : Bool) (g : Nat) : Prop :=
  0 ≤ t ∧ t ≤ 8 ∧ (g &&& 4 ≠ 0 → t = 8) ∧ (t = 4 → s ≠ 4 → g &&& 2 ≠ 0 ∧ g &&& 4 = 0 ∧ (s = 2 ∧ o = false ∨ s = 3 ∧ o = true)) ∧ (s = 4 → t ≠ 4 → g &&& 5 ≠ 0)
instance (s t : Int) (o : Bool) (g : Nat) : Decidable (okRound s t o g) := by unfold okRound; infer_instance
theorem round_ok (s : Int) (hs : 0 ≤ s ∧ s ≤ 8) (o : Bool) (g : Nat) (hg : g < 8) : okRound s (nx (st s).toNat o g) o g := by
  have h : ∀ g : Fin 8, ∀ o : Bool, ∀ s : Fin 9, okRound (s.val : Int) (nx (st (s.val : Int)).toNat o g.val) o g.val := by decide +kernel
  have := h ⟨g, hg⟩ o ⟨s.toNat, by omega⟩
  simp only [Int.toNat_of_nonneg hs.1] at this
  exact this
theorem wrap_small {i : Int} (h0 : 0 ≤ i) (h : i < 9223372036854775807) : wrap64 (i + 1) = i + 1 := by unfold wrap64; omega
theorem loop_true (sides : List Bool) (fl : List Int) (hl : fl.length ≤ maxLen) (d : Nat) : ∀ (k : Nat) (s i : Int), 0 ≤ s → s ≤ 8 → 0 ≤ i → (fl.length : Int) - i ≤ d → 4 * d + 20 < k → bailiwicklaw20_ConnOpens.l0 k sides fl s i = some true := by
  unfold maxLen at hl
  induction d with
  | zero =>
    intro k s i hs0 hs8 hi hd hk
    obtain ⟨k, rfl⟩ : ∃ m, k = m + 2 := ⟨k - 2, by omega⟩
    simp only [bailiwicklaw20_ConnOpens.l0]
    have : decide (i < (fl.length : Int)) = false := decide_eq_false (by omega)
    rw [this]
    split <;> simp [bailiwicklaw20_ConnOpens.j2]
  | succ d ih =>
    intro k s i hs0 hs8 hi hd hk
    obtain ⟨k, rfl⟩ : ∃ m, k = m + 10 := ⟨k - 10, by omega⟩
    have next : ∀ t : Int, 0 ≤ t → t ≤ 8 → i < fl.length → bailiwicklaw20_ConnOpens.l0 (k + 6) sides fl t (wrap64 (i + 1)) = some true := by
      intro t h0 h8 hlt
      rw [wrap_small hi (by omega)]
      exact ih _ _ _ h0 h8 (by omega) (by omega) (by omega)
    by_cases h1 : i < (sides.length : Int)
    · by_cases h2 : i < (fl.length : Int)
      · simp only [bailiwicklaw20_ConnOpens.l0]
        rw [if_pos h1, decide_eq_true h2]
        simp only [bailiwicklaw20_ConnOpens.j2, if_true]
        rw [if_pos hi, if_pos h2, if_pos h1]
        rw [show k + 8 = (k + 2) + 6 from rfl, next_any]
        simp only [Option.bind_some]
        have ok := round_ok s ⟨hs0, hs8⟩ (rdOf false sides i) ((wrap64 (rd fl i)) % 8).toNat (by omega)
        obtain ⟨b1, b2, b3, b4, b5, b7⟩ := flags (wrap64 (rd fl i))
        generalize wrap64 (rd fl i) = f at *
        generalize rdOf false sides i = o at *
        generalize (f % 8).toNat = g at *
        generalize nx (st s).toNat o g = t at *
        obtain ⟨t0, t8, q1, q2, q3⟩ := ok
        have n4 : ∀ m : Nat, ((m : Int) = 0) = (m = 0) := fun m => by simp
        have last : bailiwicklaw20_ConnOpens.j3 (k + 8) sides fl s i f t false = some true := by
          have e4 : ∀ b : Bool, b = false → bailiwicklaw20_ConnOpens.j4 (k + 7) sides fl i f t b = some true := by
            rintro b rfl
            simp only [bailiwicklaw20_ConnOpens.j4, b4, n4]
            rw [if_neg (by decide)]
            have h0 : ¬ t < 0 := by omega
            have h8 : ¬ t > 8 := by omega
            by_cases g4 : g &&& 4 = 0
            · rw [if_pos g4, if_neg h0, if_neg h8, next t t0 t8 h2]
            · rw [if_neg g4, if_pos (q1 g4), if_neg h0, if_neg h8, next t t0 t8 h2]
          simp only [bailiwicklaw20_ConnOpens.j3, b5]
          rw [if_neg (by decide)]
          by_cases s4 : s = 4
          · rw [if_pos s4]
            by_cases t4 : t = 4
            · rw [if_pos t4]; exact e4 _ rfl
            · rw [if_neg t4]
              refine e4 _ ?_
              have := q3 s4 t4
              simpa using this
          · rw [if_neg s4]; exact e4 _ rfl
        by_cases t4 : t = 4
        · rw [if_pos t4]
          by_cases s4 : s = 4
          · rw [if_pos s4]; exact last
          · rw [if_neg s4]
            obtain ⟨g2, g4, hh⟩ := q2 t4 s4
            rw [b2, b4, if_neg (by simpa using g2), if_pos (by simpa using g4)]
            rcases hh with ⟨rfl, rfl⟩ | ⟨rfl, rfl⟩
            · simpa using last
            · simpa using last
        · rw [if_neg t4]; exact last
      · simp only [bailiwicklaw20_ConnOpens.l0]
        rw [if_pos h1, decide_eq_false h2]
        simp [bailiwicklaw20_ConnOpens.j2]
    · simp only [bailiwicklaw20_ConnOpens.l0]
      rw [if_neg h1]
      simp [bailiwicklaw20_ConnOpens.j2]
theorem ConnOpens_calls (A0 : Option Addr) (c0 : Nat) (l0 : List Bool) (A1 : Option Addr) (c1 : Nat) (l1 : List Int) (w : World) (hr0 : Kd.C Kd.bool w A0 l0.length l0) (hc0 : l0.length ≤ c0) (hr1 : Kd.C (Kd.int .u8) w A1 l1.length l1) (hc1 : l1.length ≤ c1) (hm : l1.length ≤ maxLen) :
    Calls Try.prog 5 #[.slice A0 l0.length c0, .slice A1 l1.length c1] w fun e w' => e = .returned (.bool true) ∧ Below w.heap.size w w' := by
  refine bailiwicklaw20_ConnOpens.calls (4 * l1.length + 40) A0 c0 l0 A1 c1 l1 true w hr0 hc0 hr1 hc1 ?_
  unfold bailiwicklaw20_ConnOpens.f
  rw [show 4 * l1.length + 40 = (4 * l1.length + 34) + 6 from rfl, awake_any]
  simp only [Option.bind_some, if_true]
  have e : ∀ b, bailiwicklaw20_ConnOpens.j0 (4 * l1.length + 34 + 6) l0 l1 b = some true := by
    intro b
    rw [show 4 * l1.length + 34 + 6 = (4 * l1.length + 39) + 1 from rfl]
    simp only [bailiwicklaw20_ConnOpens.j0]
    cases b
    · simp only [Bool.false_eq_true, if_false]
      exact loop_true l0 l1 hm l1.length _ 0 0 (by omega) (by omega) (by omega) (by omega) (by omega)
    · rfl
  split <;> exact e _

end Go.Proofs.Ythdhdfhjimmkkaa.Pure
