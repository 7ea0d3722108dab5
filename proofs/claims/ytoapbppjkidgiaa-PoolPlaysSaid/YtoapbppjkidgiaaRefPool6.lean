/- RefPool6: the reference pool's In; the comparison of two lists of blocks. Conditions: the pool is one that NewPool made. -/
import Derived.Test.YtoapbppjkidgiaaRefPool3
import Derived.Test.YtoapbppjkidgiaaPool8
namespace Go.Proofs.Ytoapbppjkidgiaa.Pool
open Go.RowKit Go.Proofs.YtoapbppjkidgiaaW.PrintWords Go.Proofs.YtoapbppjkidgiaaW.PrintLast Go.Proofs.YtoapbppjkidgiaaW.PrintMore Tape Setup
set_option linter.unusedVariables false
set_option linter.unusedSimpArgs false
set_option maxRecDepth 100000
/-- the first j cells that are s, one address behind the other. -/
def heldsF (m : Nat → Nat → Blk) (N : Nat) (s : Int) : Nat → List (Int × Nat × Nat)
  | 0 => []
  | j + 1 => if (m (j / N) (j % N)).is == s then heldsF m N s j ++ [((m (j / N) (j % N)).sub, j / N, j % N)] else heldsF m N s j
theorem heldsF_len (m : Nat → Nat → Blk) (N : Nat) (s : Int) (j : Nat) : (heldsF m N s j).length ≤ j := by
  induction j with
  | zero => exact Nat.le_refl _
  | succ j ih =>
    unfold heldsF
    split
    · rw [List.length_append]; simpa using ih
    · omega
theorem heldsF_row (m : Nat → Nat → Blk) {N : Nat} (hN : 1 ≤ N) (s : Int) (i : Nat) : ∀ t, t ≤ N → heldsF m N s (i * N + t) = helds m N s i ++ heldsRow m s i t := by
  have step : ∀ i, heldsF m N s (i * N) = helds m N s i → ∀ t, t ≤ N → heldsF m N s (i * N + t) = helds m N s i ++ heldsRow m s i t := by
    intro i h0 t
    induction t with
    | zero => intro _; rw [Nat.add_zero, h0]; exact (List.append_nil _).symm
    | succ t ih =>
      intro ht
      have e1 : (i * N + t) / N = i := by rw [Nat.add_comm, Nat.add_mul_div_right _ _ (by omega), Nat.div_eq_of_lt (by omega)]; omega
      have e2 : (i * N + t) % N = t := by rw [Nat.add_comm, Nat.add_mul_mod_self_right, Nat.mod_eq_of_lt (by omega)]
      rw [← Nat.add_assoc]
      unfold heldsF heldsRow
      rw [e1, e2, ih (by omega)]
      split
      · rw [List.append_assoc]
      · rfl
  have base : ∀ i, heldsF m N s (i * N) = helds m N s i := by
    intro i
    induction i with
    | zero => rw [Nat.zero_mul]; rfl
    | succ i ih => rw [Nat.succ_mul, step i ih N (Nat.le_refl _)]; rfl
  exact step i (base i)
theorem heldsF_all (m : Nat → Nat → Blk) {N : Nat} (hN : 1 ≤ N) (s : Int) (k : Nat) : heldsF m N s (k * N) = helds m N s k := by
  have := heldsF_row m hN s k 0 (Nat.zero_le _)
  rw [Nat.add_zero] at this
  rw [this]
  exact List.append_nil _
theorem RefP.flat {w : World} {q qb : Nat} {k N : Nat} {hold : Int} {m : Nat → Nat → Blk} (h : RefP w q qb k N hold m) {j : Nat} (hj : j < k * N) :
    w.cell? ⟨qb, j * 3, none⟩ = some (.int .i64 (m (j / N) (j % N)).is) ∧ w.cell? ⟨qb, j * 3 + 1, none⟩ = some (.int .u32 (m (j / N) (j % N)).sub) := by
  obtain ⟨L, hL, hl⟩ := h.blk
  obtain ⟨h0, h1, _⟩ := hl j hj
  exact ⟨(blk_cell hL _).trans h0, (blk_cell hL _).trans h1⟩
/-- a slice of the reference's blocks. -/
def Helds2 (n₀ : Nat) (w : World) (v : Value) (l : List (Int × Nat × Nat)) : Prop := w.ownsRow n₀ 124 3 v l.length (flat3 l)
theorem Helds2.len {n₀ : Nat} {w : World} {v : Value} {l : List (Int × Nat × Nat)} (h : Helds2 n₀ w v l) : ∃ ad c, v = .slice ad l.length c := by
  rcases h.2 with ⟨rfl, h0⟩ | ⟨g, cap, cur, rfl, _⟩
  · exact ⟨none, 0, by rw [h0]⟩
  · exact ⟨_, _, rfl⟩
theorem Held2.info : (Try.prog.info? 124).map (fun i => (i.zero, i.size, i.bytes)) = some (some (.agg #[.int .u32 0, .int .i64 0, .int .i64 0]), 3, 24) := by kernel_rfl
set_option maxHeartbeats 8000000 in
theorem rin_calls (w : World) (q qb : Nat) (k N : Nat) (hold : Int) (m : Nat → Nat → Blk) (s : Int) (h : RefP w q qb k N hold m) :
    Calls Try.prog 84 #[.pointer (some ⟨q, 0, none⟩), .int .i64 s] w fun e w' =>
      ∃ v, e = .returned v ∧ Helds2 w.heap.size w' v (helds m N s k) ∧ Below w.heap.size w w' := by
  have hk := h.nk
  have hN := h.nN
  obtain ⟨kn, hkn⟩ : ∃ K, K = k * N := ⟨_, rfl⟩
  have hKb : kn ≤ 8 * 4032 := by rw [hkn]; exact Nat.mul_le_mul hk.2 hN.2
  have HALL := Aside0.mk (heldsF_all m hN.1 s k)
  rw [← hkn] at HALL
  have HKN := Aside0.mk hkn
  have HR := Aside0.mk h
  clear h hkn
  go_enter Try.func84, Try.ntmps84
  go_wp2_with fail
  go_loopw [5, 6] (fun v x wr => ∃ j : Nat, j ≤ kn ∧ x = .int .i64 j ∧ Helds2 w.heap.size wr v (heldsF m N s j) ∧ Below w.heap.size w wr) (fun _ x _ => kn - (intOf x).toNat)
  case atStart => exact ⟨0, Nat.zero_le _, rfl, World.ownsRow_nil _ _ _ _, Below.refl _ _⟩
  case round =>
    obtain ⟨j, hj, rfl, hv, hB⟩ := hrel
    have HRR := Aside0.mk (HR.out.below hB)
    obtain ⟨_, _, f18, c, f19⟩ := HRR.out.facts
    rw [← HKN.out] at f19
    have HV := Aside0.mk hv
    have HB := Aside0.mk hB
    by_cases hlt : j < kn
    · obtain ⟨c0, c1⟩ := HRR.out.flat (show j < k * N by rw [← HKN.out]; exact hlt)
      have hln := heldsF_len m N s j
      have e2 : heldsF m N s (j + 1) = if (m (j / N) (j % N)).is == s then heldsF m N s j ++ [((m (j / N) (j % N)).sub, j / N, j % N)] else heldsF m N s j := rfl
      have HE2 := Aside0.mk e2
      have HLN := Aside0.mk hln
      have hN0 : ¬ N = 0 := by omega
      obtain ⟨y, hy⟩ : ∃ y, y = j / N := ⟨_, rfl⟩
      obtain ⟨z, hz⟩ : ∃ z, z = j % N := ⟨_, rfl⟩
      have hyb : y ≤ 8 * 4032 := by rw [hy]; exact Nat.le_trans (Nat.div_le_self _ _) (by omega)
      have hq : IntKind.i64.wrap ((j : Int) / (N : Int)) = (y : Int) := by
        rw [show (j : Int) / (N : Int) = ((j / N : Nat) : Int) from rfl, ← hy, i64_w]
        clear hy hz HE2 e2 HLN c0 c1
        unfold wrap64
        omega
      have hr : (j : Int).tmod (N : Int) = (z : Int) := by rw [hz]; rfl
      rw [← hy, ← hz] at HE2 c0 c1
      clear hv hB e2 hln hy hz
      have F18 := Aside0.mk f18
      have F19 := Aside0.mk f19
      have C1 := Aside0.mk c1
      cases t0 : ((m y z).is == s) with
      | false =>
        rw [t0] at HE2
        go_wp2
        go_roundw
        case rel => exact ⟨j + 1, by omega, by go_num, by rw [HE2.out]; exact HV.out, HB.out⟩
        case measure => simp [intOf]; omega
      | true =>
        rw [t0, if_pos rfl] at HE2
        go_wp2_with fail
        clear f18 f19 c0 c1
        refine start_ (n := 25) (S := fun w' => w'.cell? ⟨q, 19, none⟩ = some (.slice (some ⟨qb, 0, none⟩) kn c) ∧ w'.cell? ⟨q, 18, none⟩ = some (.int .i64 N) ∧ w'.cell? ⟨qb, j * 3 + 1, none⟩ = some (.int .u32 (m y z).sub)) (ds := [22, 23]) #[false, false, false, false, false, false, false, false, false, false, false, false, false, false, false, false, false, false, false, false, false, false, false, false, false] (by kernel_rfl) rfl rfl ⟨F19.out, F18.out, C1.out⟩ (fun hHeld => ?_)
        refine pure_ (i := 0) (N := some 26) (v := ?_) (a' := ?_) #[true, false, false, false, false, false, false, false, false, false, false, false, false, false, false, false, false, false, false, false, false, false, false, false, false] rfl rfl (by kernel_rfl) (fun _ _ _ h => h) (Or.inl ⟨by rfl, ?_⟩) ?_ ?_
        rotate_left
        · intro w'
          go_simp
          with_reducible rfl
        rotate_left
        · simp only [Act.put, List.setIfInBounds_toArray, List.set_cons_zero, List.set_cons_succ, i64_w, i32_w]
          rfl
        refine pure_ (i := 1) (N := some 27) (v := ?_) (a' := ?_) #[true, true, false, false, false, false, false, false, false, false, false, false, false, false, false, false, false, false, false, false, false, false, false, false, false] rfl rfl (by kernel_rfl) (fun _ _ _ h => h) (Or.inl ⟨by rfl, ?_⟩) ?_ ?_
        rotate_left
        · intro w'
          go_simp
          with_reducible rfl
        rotate_left
        · simp only [Act.put, List.setIfInBounds_toArray, List.set_cons_zero, List.set_cons_succ, i64_w, i32_w]
          rfl
        refine pure_ (i := 2) (N := some 28) (v := ?_) (a' := ?_) #[true, true, true, false, false, false, false, false, false, false, false, false, false, false, false, false, false, false, false, false, false, false, false, false, false] rfl rfl (by kernel_rfl) (fun _ _ _ h => h) (Or.inl ⟨by rfl, ?_⟩) ?_ ?_
        rotate_left
        · intro w'
          go_simp
          with_reducible rfl
        rotate_left
        · simp only [Act.put, List.setIfInBounds_toArray, List.set_cons_zero, List.set_cons_succ, i64_w, i32_w]
          rfl
        refine pure_ (i := 3) (N := some 29) (v := ?_) (a' := ?_) #[true, true, true, true, false, false, false, false, false, false, false, false, false, false, false, false, false, false, false, false, false, false, false, false, false] rfl rfl (by kernel_rfl) (fun _ _ _ h => h) (Or.inl ⟨by rfl, ?_⟩) ?_ ?_
        rotate_left
        · intro w'
          go_simp
          with_reducible rfl
        rotate_left
        · simp only [Act.put, List.setIfInBounds_toArray, List.set_cons_zero, List.set_cons_succ, i64_w, i32_w]
          rfl
        refine pure_ (i := 5) (N := some 31) (v := ?_) (a' := ?_) #[true, true, true, true, false, true, false, false, false, false, false, false, false, false, false, false, false, false, false, false, false, false, false, false, false] rfl rfl (by kernel_rfl) (fun _ _ _ h => h) (Or.inl ⟨by rfl, ?_⟩) ?_ ?_
        rotate_left
        · intro w'
          go_simp
          with_reducible rfl
        rotate_left
        · simp only [Act.put, List.setIfInBounds_toArray, List.set_cons_zero, List.set_cons_succ, i64_w, i32_w]
          rfl
        refine pure_ (i := 9) (N := some 35) (v := ?_) (a' := ?_) #[true, true, true, true, false, true, false, false, false, true, false, false, false, false, false, false, false, false, false, false, false, false, false, false, false] rfl rfl (by kernel_rfl) (fun _ _ _ h => h) (Or.inl ⟨by rfl, ?_⟩) ?_ ?_
        rotate_left
        · intro w'
          go_simp
          with_reducible rfl
        rotate_left
        · simp only [Act.put, List.setIfInBounds_toArray, List.set_cons_zero, List.set_cons_succ, i64_w, i32_w]
          rfl
        refine pure_ (i := 10) (N := some 36) (v := ?_) (a' := ?_) #[true, true, true, true, false, true, false, false, false, true, true, false, false, false, false, false, false, false, false, false, false, false, false, false, false] rfl rfl (by kernel_rfl) (fun _ _ _ h => h) (Or.inl ⟨by rfl, ?_⟩) ?_ ?_
        rotate_left
        · intro w'
          go_simp
          with_reducible rfl
        rotate_left
        · simp only [Act.put, List.setIfInBounds_toArray, List.set_cons_zero, List.set_cons_succ, i64_w, i32_w]
          rfl
        refine pure_ (i := 11) (N := some 37) (v := ?_) (a' := ?_) #[true, true, true, true, false, true, false, false, false, true, true, true, false, false, false, false, false, false, false, false, false, false, false, false, false] rfl rfl (by kernel_rfl) (fun _ _ _ h => h) (Or.inl ⟨by rfl, ?_⟩) ?_ ?_
        rotate_left
        · intro w'
          go_simp
          with_reducible rfl
        rotate_left
        · simp only [Act.put, List.setIfInBounds_toArray, List.set_cons_zero, List.set_cons_succ, i64_w, i32_w]
          rfl
        refine pure_ (i := 12) (N := some 38) (v := ?_) (a' := ?_) #[true, true, true, true, false, true, false, false, false, true, true, true, true, false, false, false, false, false, false, false, false, false, false, false, false] rfl rfl (by kernel_rfl) (fun _ _ _ h => h) (Or.inl ⟨by rfl, ?_⟩) ?_ ?_
        rotate_left
        · intro w'
          go_simp
          with_reducible rfl
        rotate_left
        · simp only [Act.put, List.setIfInBounds_toArray, List.set_cons_zero, List.set_cons_succ, i64_w, i32_w]
          rfl
        refine pure_ (i := 15) (N := some 41) (v := ?_) (a' := ?_) #[true, true, true, true, false, true, false, false, false, true, true, true, true, false, false, true, false, false, false, false, false, false, false, false, false] rfl rfl (by kernel_rfl) (fun _ _ _ h => h) (Or.inl ⟨by rfl, ?_⟩) ?_ ?_
        rotate_left
        · intro w'
          go_simp
          with_reducible rfl
        rotate_left
        · simp only [Act.put, List.setIfInBounds_toArray, List.set_cons_zero, List.set_cons_succ, i64_w, i32_w]
          rfl
        refine pure_ (i := 16) (N := some 42) (v := ?_) (a' := ?_) #[true, true, true, true, false, true, false, false, false, true, true, true, true, false, false, true, true, false, false, false, false, false, false, false, false] rfl rfl (by kernel_rfl) (fun _ _ _ h => h) (Or.inl ⟨by rfl, ?_⟩) ?_ ?_
        rotate_left
        · intro w'
          go_simp
          with_reducible rfl
        rotate_left
        · simp only [Act.put, List.setIfInBounds_toArray, List.set_cons_zero, List.set_cons_succ, i64_w, i32_w]
          rfl
        refine pure_ (i := 17) (N := some 43) (v := ?_) (a' := ?_) #[true, true, true, true, false, true, false, false, false, true, true, true, true, false, false, true, true, true, false, false, false, false, false, false, false] rfl rfl (by kernel_rfl) (fun _ _ _ h => h) (Or.inl ⟨by rfl, ?_⟩) ?_ ?_
        rotate_left
        · intro w'
          go_simp
          with_reducible rfl
        rotate_left
        · simp only [Act.put, List.setIfInBounds_toArray, List.set_cons_zero, List.set_cons_succ, i64_w, i32_w]
          rfl
        refine pure_ (i := 18) (N := some 44) (v := ?_) (a' := ?_) #[true, true, true, true, false, true, false, false, false, true, true, true, true, false, false, true, true, true, true, false, false, false, false, false, false] rfl rfl (by kernel_rfl) (fun _ _ _ h => h) (Or.inl ⟨by rfl, ?_⟩) ?_ ?_
        rotate_left
        · intro w'
          go_simp
          with_reducible rfl
        rotate_left
        · simp only [Act.put, List.setIfInBounds_toArray, List.set_cons_zero, List.set_cons_succ, i64_w, i32_w]
          rfl
        refine take_ (i := 4) (N := some 30) (v := ?_) (a' := ?_) #[true, true, true, true, true, true, false, false, false, true, true, true, true, false, false, true, true, true, true, false, false, false, false, false, false] rfl rfl (by kernel_rfl) (fun _ _ _ h => h) (Or.inl ⟨by rfl, ?_⟩) hHeld ?_ ?_
        rotate_left
        · rintro w' ⟨s0, s1, s2⟩
          go_simp
          with_reducible rfl
        rotate_left
        · simp only [Act.put, List.setIfInBounds_toArray, List.set_cons_zero, List.set_cons_succ, i64_w, i32_w]
          rfl
        refine pure_ (i := 6) (N := some 32) (v := ?_) (a' := ?_) #[true, true, true, true, true, true, true, false, false, true, true, true, true, false, false, true, true, true, true, false, false, false, false, false, false] rfl rfl (by kernel_rfl) (fun _ _ _ h => h) (Or.inl ⟨by rfl, ?_⟩) ?_ ?_
        rotate_left
        · intro w'
          go_simp
          with_reducible rfl
        rotate_left
        · simp only [Act.put, List.setIfInBounds_toArray, List.set_cons_zero, List.set_cons_succ, i64_w, i32_w]
          rfl
        refine pure_ (i := 7) (N := some 33) (v := ?_) (a' := ?_) #[true, true, true, true, true, true, true, true, false, true, true, true, true, false, false, true, true, true, true, false, false, false, false, false, false] rfl rfl (by kernel_rfl) (fun _ _ _ h => h) (Or.inl ⟨by rfl, ?_⟩) ?_ ?_
        rotate_left
        · intro w'
          go_simp
          with_reducible rfl
        rotate_left
        · simp only [Act.put, List.setIfInBounds_toArray, List.set_cons_zero, List.set_cons_succ, i64_w, i32_w]
          rfl
        refine take_ (i := 8) (N := some 34) (v := ?_) (a' := ?_) #[true, true, true, true, true, true, true, true, true, true, true, true, true, false, false, true, true, true, true, false, false, false, false, false, false] rfl rfl (by kernel_rfl) (fun _ _ _ h => h) (Or.inl ⟨by rfl, ?_⟩) hHeld ?_ ?_
        rotate_left
        · rintro w' ⟨s0, s1, s2⟩
          go_simp
          with_reducible rfl
        rotate_left
        · simp only [Act.put, List.setIfInBounds_toArray, List.set_cons_zero, List.set_cons_succ, i64_w, i32_w]
          rfl
        refine take_ (i := 13) (N := some 39) (v := ?_) (a' := ?_) #[true, true, true, true, true, true, true, true, true, true, true, true, true, true, false, true, true, true, true, false, false, false, false, false, false] rfl rfl (by kernel_rfl) (fun _ _ _ h => h) (Or.inl ⟨by rfl, ?_⟩) hHeld ?_ ?_
        rotate_left
        · rintro w' ⟨s0, s1, s2⟩
          go_simp
          with_reducible rfl
        rotate_left
        · simp only [Act.put, List.setIfInBounds_toArray, List.set_cons_zero, List.set_cons_succ, i64_w, i32_w]
          rfl
        refine pure_ (i := 14) (N := some 40) (v := ?_) (a' := ?_) #[true, true, true, true, true, true, true, true, true, true, true, true, true, true, true, true, true, true, true, false, false, false, false, false, false] rfl rfl (by kernel_rfl) (fun _ _ _ h => h) (Or.inl ⟨by rfl, ?_⟩) ?_ ?_
        rotate_left
        · intro w'
          go_simp
          with_reducible rfl
        rotate_left
        · simp only [Act.put, List.setIfInBounds_toArray, List.set_cons_zero, List.set_cons_succ, i64_w, i32_w]
          rfl
        refine take_ (i := 19) (N := some 45) (v := ?_) (a' := ?_) #[true, true, true, true, true, true, true, true, true, true, true, true, true, true, true, true, true, true, true, true, false, false, false, false, false] rfl rfl (by kernel_rfl) (fun _ _ _ h => h) (Or.inl ⟨by rfl, ?_⟩) hHeld ?_ ?_
        rotate_left
        · rintro w' ⟨s0, s1, s2⟩
          go_simp
          with_reducible rfl
        rotate_left
        · simp only [Act.put, List.setIfInBounds_toArray, List.set_cons_zero, List.set_cons_succ, i64_w, i32_w]
          rfl
        refine pure_ (i := 20) (N := some 46) (v := ?_) (a' := ?_) #[true, true, true, true, true, true, true, true, true, true, true, true, true, true, true, true, true, true, true, true, true, false, false, false, false] rfl rfl (by kernel_rfl) (fun _ _ _ h => h) (Or.inl ⟨by rfl, ?_⟩) ?_ ?_
        rotate_left
        · intro w'
          go_simp
          with_reducible rfl
        rotate_left
        · simp only [Act.put, List.setIfInBounds_toArray, List.set_cons_zero, List.set_cons_succ, i64_w, i32_w]
          rfl
        refine pure_ (i := 21) (N := some 47) (v := ?_) (a' := ?_) #[true, true, true, true, true, true, true, true, true, true, true, true, true, true, true, true, true, true, true, true, true, true, false, false, false] rfl rfl (by kernel_rfl) (fun _ _ _ h => h) (Or.inl ⟨by rfl, ?_⟩) ?_ ?_
        rotate_left
        · intro w'
          go_simp
          with_reducible rfl
        rotate_left
        · simp only [Act.put, List.setIfInBounds_toArray, List.set_cons_zero, List.set_cons_succ, i64_w, i32_w]
          rfl
        refine last_ (i := 22) (N := some 48) #[true, true, true, true, true, true, true, true, true, true, true, true, true, true, true, true, true, true, true, true, true, true, true, false, false] rfl rfl (by kernel_rfl) (by decide) (fun K hK => ?_)
        refine value_ (w1 := ?_) (v := ?_) (by rfl) rfl ?_ ?_
        rotate_left 2
        · go_simp
          constructor
          · rfl
          · rfl
        refine hK.out _ _ ?_
        clear hK K
        refine norm_ (a' := ?_) ?_ ?_
        rotate_left
        · show Act.put _ (some 48) _ = _
          simp only [Act.put, List.setIfInBounds_toArray, List.set_cons_zero, List.set_cons_succ, i64_w, i32_w]
          rfl
        refine last_ (i := 23) (N := some 49) #[true, true, true, true, true, true, true, true, true, true, true, true, true, true, true, true, true, true, true, true, true, true, true, true, false] rfl rfl (by kernel_rfl) (by decide) (fun K hK => ?_)
        refine step_append_cells (W := wr.drew) w.heap.size (by rfl) (.tmp 26) (.tmp 48) 117 124 _ 3 24 rfl Try.underlying117 Held2.info rfl (by decide) (by decide) _ (heldsF m N s j).length (flat3 (heldsF m N s j)) [.int .u32 (m y z).sub, .int .i64 (y : Int), .int .i64 (z : Int)] rfl rfl rfl (by simp [Value.oneCell']) HV.out HB.out.drew HB.out.size (by have := HLN.out; omega) ?_
        intro v5 w5 hown5 hbel5 _ _
        have HO5 := Aside0.mk hown5
        have HB5 := Aside0.mk hbel5
        clear hown5 hbel5
        refine hK.out _ _ ?_
        clear hK K
        refine norm_ (a' := ?_) ?_ ?_
        rotate_left
        · show Act.put _ (some 49) _ = _
          simp only [Act.put, List.setIfInBounds_toArray, List.set_cons_zero, List.set_cons_succ, i64_w, i32_w]
          rfl
        refine pure_ (i := 24) (N := some 5) (v := ?_) (a' := ?_) #[true, true, true, true, true, true, true, true, true, true, true, true, true, true, true, true, true, true, true, true, true, true, true, true, true] rfl rfl (by kernel_rfl) (fun _ _ _ h => h) (Or.inl ⟨by rfl, ?_⟩) ?_ ?_
        rotate_left
        · intro w'
          go_simp
          with_reducible rfl
        rotate_left
        · simp only [Act.put, List.setIfInBounds_toArray, List.set_cons_zero, List.set_cons_succ, i64_w, i32_w]
          rfl
        refine done_ (by kernel_rfl) ?_
        go_wp2
        go_roundw
        case rel =>
          refine ⟨j + 1, by omega, by go_num, ?_, HB5.out⟩
          rw [HE2.out]
          unfold Helds2
          rw [flat3_snoc, List.length_append]
          exact HO5.out
        case measure => simp [intOf]; omega
    · obtain rfl : j = kn := by omega
      obtain ⟨ad, cc, rfl⟩ := HV.out.len
      clear hv hB
      rw [HALL.out] at HV ⊢
      go_wp2
      go_ret
      exact ⟨_, rfl, HV.out, HB.out⟩
end Go.Proofs.Ytoapbppjkidgiaa.Pool
