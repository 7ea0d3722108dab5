/- Pool5: those, All, Owed: the blocks that are held, owed. Conditions: the pool is one that New made. -/
import Derived.Test.YtoapbppjkidgiaaPool4
namespace Go.Proofs.Ytoapbppjkidgiaa.Pool
open Go.RowKit Go.Proofs.YtoapbppjkidgiaaW.PrintWords Go.Proofs.YtoapbppjkidgiaaW.PrintLast Go.Proofs.YtoapbppjkidgiaaW.PrintMore Tape Setup
set_option linter.unusedVariables false
set_option linter.unusedSimpArgs false
set_option maxRecDepth 100000
/-- the first n blocks of address i that are s. -/
def heldsRow (m : Nat → Nat → Blk) (s : Int) (i : Nat) : Nat → List (Int × Nat × Nat)
  | 0 => []
  | n + 1 => if (m i n).is == s then heldsRow m s i n ++ [((m i n).sub, i, n)] else heldsRow m s i n
def helds (m : Nat → Nat → Blk) (N : Nat) (s : Int) : Nat → List (Int × Nat × Nat)
  | 0 => []
  | i + 1 => helds m N s i ++ heldsRow m s i N
theorem heldsRow_len (m : Nat → Nat → Blk) (s : Int) (i n : Nat) : (heldsRow m s i n).length ≤ n := by
  induction n with
  | zero => exact Nat.le_refl _
  | succ n ih =>
    unfold heldsRow
    split
    · rw [List.length_append]; simpa using ih
    · omega
theorem helds_len (m : Nat → Nat → Blk) (N : Nat) (s : Int) (i : Nat) : (helds m N s i).length ≤ i * N := by
  induction i with
  | zero => exact Nat.zero_le _
  | succ i ih =>
    have := heldsRow_len m s i N
    unfold helds
    rw [List.length_append, Nat.succ_mul]
    omega
def flat3 (l : List (Int × Nat × Nat)) : List Value := l.flatMap (fun x => [.int .u32 x.1, .int .i64 (x.2.1 : Int), .int .i64 (x.2.2 : Int)])
theorem flat3_snoc (l : List (Int × Nat × Nat)) (x : Int × Nat × Nat) : flat3 (l ++ [x]) = flat3 l ++ [.int .u32 x.1, .int .i64 (x.2.1 : Int), .int .i64 (x.2.2 : Int)] := by simp [flat3]
/-- a slice of such blocks. -/
def Helds (n₀ : Nat) (w : World) (v : Value) (l : List (Int × Nat × Nat)) : Prop := w.ownsRow n₀ 123 3 v l.length (flat3 l)
theorem Helds.len {n₀ : Nat} {w : World} {v : Value} {l : List (Int × Nat × Nat)} (h : Helds n₀ w v l) : ∃ ad c, v = .slice ad l.length c := by
  rcases h.2 with ⟨rfl, h0⟩ | ⟨g, cap, cur, rfl, _⟩
  · exact ⟨none, 0, by rw [h0]⟩
  · exact ⟨_, _, rfl⟩
theorem Held.info : (Try.prog.info? 123).map (fun i => (i.zero, i.size, i.bytes)) = some (some (.agg #[.int .u32 0, .int .i64 0, .int .i64 0]), 3, 24) := by kernel_rfl
theorem cells_three_new (w : World) (b : Nat) (h : w.heap.size = b) (x y z : Value) (t : TypeId) : ∀ j u, [x, y, z][j]? = some u → (w.alloc (.cells #[x, y, z] t)).cell? ((⟨b, 0, none⟩ : Addr).add j) = some u := by
  subst h
  intro j u hj
  rw [add_plain]
  have hb : (w.alloc (.cells #[x, y, z] t)).heap[w.heap.size]? = some (.cells #[x, y, z] t (0, 0)) := World.alloc_heap_new _ _
  match j, hj with
  | 0, hj => simp at hj; subst hj; exact blk_cell hb 0
  | 1, hj => simp at hj; subst hj; exact blk_cell hb 1
  | 2, hj => simp at hj; subst hj; exact blk_cell hb 2
theorem Below.own {n₀ : Nat} {w w1 w2 : World} {e : TypeId} {size n : Nat} {v : Value} {xs : List Value} (h : Below n₀ w w1) (hn : n₀ ≤ w1.heap.size) (ho : w1.ownsRow n₀ e size v n xs) (hg : w1.grownBy w2 v.ownBlock) : Below n₀ w w2 := by
  refine h.grown hg hn (fun k e' => ?_)
  rcases ho.2 with ⟨rfl, _⟩ | ⟨g, cap, cur, rfl, hb, _⟩
  · cases e'
  · cases e'
    exact hb
set_option maxHeartbeats 4000000 in
theorem those_calls (w : World) (g ga : Nat) (gs : Nat → Nat) (k N : Nat) (hold : Int) (m : Nat → Nat → Blk) (s : Int) (h : PoolSt w g ga gs k N hold m) :
    Calls Try.prog 74 #[.pointer (some ⟨g, 0, none⟩), .int .i64 s] w fun e w' =>
      ∃ v, e = .returned v ∧ Helds w.heap.size w' v (helds m N s k) ∧ Below w.heap.size w w' := by
  obtain ⟨c, hh⟩ := h.head
  have h1 : w.cell? ⟨g, 1, none⟩ = some (.slice (some ⟨ga, 0, none⟩) k c) := (blk_cell hh 1).trans rfl
  obtain ⟨i0, hi, hz0, hz1, hz2⟩ := info_parts Held.info
  have hk := h.nk
  have hN := h.nN
  have HP := Aside0.mk h
  clear h hh
  go_enter Try.func74, Try.ntmps74
  go_wp2_with (go_at_call 69; refine (made_calls _ _ _ _ _ _ _ _ HP.out).mono ?_; rintro e w' ⟨rfl, hw⟩; obtain rfl := hw.symm)
  clear h1
  go_loopw [5, 18] (fun v x wr => ∃ i : Nat, i ≤ k ∧ x = .int .i64 i ∧ Helds w.heap.size wr v (helds m N s i) ∧ Below w.heap.size w wr) (fun _ x _ => k - (intOf x).toNat)
  case atStart => exact ⟨0, Nat.zero_le _, rfl, World.ownsRow_nil _ _ _ _, Below.refl _ _⟩
  case round =>
    obtain ⟨i, hik, rfl, hv, hB⟩ := hrel
    by_cases hlt : i < k
    · have HPr := Aside0.mk (HP.out.below hB)
      obtain ⟨c1, hr⟩ := HPr.out.row i hlt
      have hidx : (0 : Int) ≤ (i : Int) ∧ (i : Int) < (k : Int) := by omega
      have hrd : wr.cell? ((⟨ga, 0, none⟩ : Addr).add i) = some (.slice (some ⟨gs i, 0, none⟩) N c1) := by rw [add_plain]; exact hr
      have HB := Aside0.mk hB
      have HV := Aside0.mk hv
      clear hB hv
      go_wp2_with fail
      clear hr hrd hidx
      go_loopw [5, 25] (fun v x wi => ∃ j : Nat, j ≤ N ∧ x = .int .i64 j ∧ Helds w.heap.size wi v (helds m N s i ++ heldsRow m s i j) ∧ Below w.heap.size w wi) (fun _ x _ => N - (intOf x).toNat)
      case atStart => exact ⟨0, Nat.zero_le _, rfl, by rw [show helds m N s i ++ heldsRow m s i 0 = helds m N s i from List.append_nil _]; exact HV.out, HB.out⟩
      case round =>
        rename World => wi
        obtain ⟨j, hj, rfl, hv, hB⟩ := hrel
        by_cases hltj : j < N
        · have HPi := Aside0.mk (HP.out.below hB)
          obtain ⟨c0, c1, c2, _⟩ := HPi.out.cells hlt hltj
          have HBi := Aside0.mk hB
          have HVi := Aside0.mk hv
          have hl1 := helds_len m N s i
          have hl2 := heldsRow_len m s i j
          have hiN : i * N ≤ 8 * 4032 := Nat.mul_le_mul (by omega) hN.2
          have e2 : heldsRow m s i (j + 1) = if (m i j).is == s then heldsRow m s i j ++ [((m i j).sub, i, j)] else heldsRow m s i j := rfl
          clear hB hv
          cases t0 : ((m i j).is == s) with
          | true =>
            rw [t0, if_pos rfl] at e2
            go_wp2_with (at_builtin; go_loud (refine wpList_append_own _ rfl _ _ 65 rfl w.heap.size 123 i0 _ 3 24 Try.underlying65 hi hz0 hz1 hz2 rfl (by decide) _ _ _ rfl ((HVi.out.alloc _).alloc _) ⟨_, 0, none⟩ 1 1 [.int .u32 (m i j).sub, .int .i64 i, .int .i64 j] rfl rfl (cells_three_new _ _ (World.size_alloc _ _) _ _ _ _) (by simp [Value.oneCell']) (by rw [List.length_append]; unfold maxLen; omega) (by rw [List.length_append]; omega) (by have := HBi.out.size; simp; omega) ?_; intro v' w1 hown' hgrow _))
            have hB2 : Below w.heap.size w w1 := Below.own ((HBi.out.alloc HBi.out.size _).alloc (by have := HBi.out.size; simp; omega) _) (by have := HBi.out.size; simp; omega) ((HVi.out.alloc _).alloc _) hgrow
            go_roundw
            case rel =>
              refine ⟨j + 1, by omega, by go_num, ?_, hB2⟩
              rw [e2, ← List.append_assoc]
              unfold Helds
              rw [flat3_snoc, List.length_append]
              exact hown'
            case measure => simp [intOf]; omega
          | false =>
            rw [t0] at e2
            go_wp2
            go_roundw
            case rel => exact ⟨j + 1, by omega, by go_num, by rw [e2]; exact HVi.out.alloc _, HBi.out.alloc HBi.out.size _⟩
            case measure => simp [intOf]; omega
        · obtain rfl : j = N := by omega
          go_wp2
          go_roundw
          case rel => exact ⟨i + 1, by omega, by go_num, hv, hB⟩
          case measure => simp [intOf]; omega
    · obtain rfl : i = k := by omega
      obtain ⟨ad, cc, rfl⟩ := hv.len
      go_wp2
      go_ret
      exact ⟨_, rfl, hv, hB⟩
theorem all_calls (w : World) (g ga : Nat) (gs : Nat → Nat) (k N : Nat) (hold : Int) (m : Nat → Nat → Blk) (h : PoolSt w g ga gs k N hold m) :
    Calls Try.prog 44 #[.pointer (some ⟨g, 0, none⟩)] w fun e w' =>
      ∃ v, e = .returned v ∧ Helds w.heap.size w' v (helds m N 1 k) ∧ Below w.heap.size w w' := by
  have HP := Aside0.mk h
  clear h
  go_enter Try.func44, Try.ntmps44
  go_wp2_with (go_at_call 74; refine (those_calls _ _ _ _ _ _ _ _ 1 HP.out).mono ?_; rintro e w2 ⟨v, rfl, hv, hb⟩; obtain ⟨ad, cc, rfl⟩ := hv.len)
  go_ret
  exact ⟨_, rfl, hv, hb⟩
theorem owed_calls (w : World) (g ga : Nat) (gs : Nat → Nat) (k N : Nat) (hold : Int) (m : Nat → Nat → Blk) (h : PoolSt w g ga gs k N hold m) :
    Calls Try.prog 85 #[.pointer (some ⟨g, 0, none⟩)] w fun e w' =>
      ∃ v, e = .returned v ∧ Helds w.heap.size w' v (helds m N 2 k) ∧ Below w.heap.size w w' := by
  have HP := Aside0.mk h
  clear h
  go_enter Try.func85, Try.ntmps85
  go_wp2_with (go_at_call 74; refine (those_calls _ _ _ _ _ _ _ _ 2 HP.out).mono ?_; rintro e w2 ⟨v, rfl, hv, hb⟩; obtain ⟨ad, cc, rfl⟩ := hv.len)
  go_ret
  exact ⟨_, rfl, hv, hb⟩
end Go.Proofs.Ytoapbppjkidgiaa.Pool
