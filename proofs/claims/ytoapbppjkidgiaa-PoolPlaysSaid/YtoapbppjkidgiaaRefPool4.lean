/- RefPool4: Copy, NewPool of the reference. Conditions: none. -/
import Derived.Test.YtoapbppjkidgiaaRefPool3
import Derived.Test.YtoapbppjkidgiaaRef14Asks
namespace Go.Proofs.Ytoapbppjkidgiaa.Pool
open Go.RowKit Go.Proofs.YtoapbppjkidgiaaW.PrintWords Go.Proofs.YtoapbppjkidgiaaW.PrintLast Go.Proofs.YtoapbppjkidgiaaW.PrintMore Tape Setup
set_option linter.unusedVariables false
set_option linter.unusedSimpArgs false
set_option maxRecDepth 100000
theorem info38 : (Try.prog.info? 38).map (fun i => (i.zero, i.size, i.bytes)) = some (some (.int .u32 0), 1, 4) := by kernel_rfl
theorem cells_info (C : Cfg) (A : Option Addr) (c : Nat) : (Try.prog.info? 41).map (·.size) = some (C.cells A c).size := by kernel_rfl
theorem cells_one (C : Cfg) (A : Option Addr) (c : Nat) : (C.cells A c).all (·.oneCell') = true := by
  unfold Cfg.cells
  simp [Value.oneCell']
set_option maxHeartbeats 4000000 in
theorem copy_calls (w : World) (cs : Array Value) (C : Cfg) (h : IsCfg w cs C) (hlen : 1 ≤ C.outer.length ∧ C.outer.length ≤ 8) :
    Calls Try.prog 75 #[.agg cs] w fun e w' => ∃ A c, e = .returned (.agg (C.cells A c)) ∧ Below w.heap.size w w' := by
  obtain ⟨_, A, c, rfl, hc, hr⟩ := h
  obtain ⟨ad, rfl, _⟩ := hr.2.2 (by omega)
  have HROW := Aside0.mk hr
  obtain ⟨i0, hi, hz0, hz1, hz2⟩ := info_parts info38
  have HK := Aside0.mk (heap_alloc_new w (.cells (C.cells (some ad) c) 41))
  obtain ⟨wA, hwA⟩ : ∃ x, x = ((w.alloc (.cells (C.cells (some ad) c) 41)).alloc (.cells #[.int .u32 0, .int .i64 0, .int .u32 0, .slice none 0 0, .int .i64 0, .int .i64 0, .int .i64 0, .int .i64 0, .int .i64 0, .int .i64 0, .int .i64 0, .int .i64 0, .int .i64 0, .int .i64 0, .int .i64 0, .int .i64 0, .int .i64 0, .bool false] 41)).alloc (.cells #[] 38) := ⟨_, rfl⟩
  have HB : Aside0 (Below w.heap.size w wA) := ⟨by rw [hwA]; exact below_alloc (below_alloc (below_alloc (Below.refl _ w) _) _) _⟩
  have HK1 : Aside0 (wA.heap[w.heap.size]? = some (.cells (C.cells (some ad) c) 41 (0, 0))) := ⟨by rw [hwA]; exact blk_alloc (blk_alloc HK.out _) _⟩
  have HZ : Aside0 (wA.heap[w.heap.size + 1]? = some (.cells #[.int .u32 0, .int .i64 0, .int .u32 0, .slice none 0 0, .int .i64 0, .int .i64 0, .int .i64 0, .int .i64 0, .int .i64 0, .int .i64 0, .int .i64 0, .int .i64 0, .int .i64 0, .int .i64 0, .int .i64 0, .int .i64 0, .int .i64 0, .bool false] 41 (0, 0))) := ⟨by
    have := heap_alloc_new (w.alloc (.cells (C.cells (some ad) c) 41)) (.cells #[.int .u32 0, .int .i64 0, .int .u32 0, .slice none 0 0, .int .i64 0, .int .i64 0, .int .i64 0, .int .i64 0, .int .i64 0, .int .i64 0, .int .i64 0, .int .i64 0, .int .i64 0, .int .i64 0, .int .i64 0, .int .i64 0, .int .i64 0, .bool false] 41)
    rw [hwA]
    exact blk_alloc (by simpa using this) _⟩
  have HE : Aside0 (wA.heap[w.heap.size + 1 + 1]? = some (.cells #[] 38 (0, 0))) := ⟨by
    have := heap_alloc_new ((w.alloc (.cells (C.cells (some ad) c) 41)).alloc (.cells #[.int .u32 0, .int .i64 0, .int .u32 0, .slice none 0 0, .int .i64 0, .int .i64 0, .int .i64 0, .int .i64 0, .int .i64 0, .int .i64 0, .int .i64 0, .int .i64 0, .int .i64 0, .int .i64 0, .int .i64 0, .int .i64 0, .int .i64 0, .bool false] 41)) (.cells #[] 38)
    rw [hwA]
    simpa using this⟩
  have k3 : wA.cell? ⟨w.heap.size, 3, none⟩ = some (.slice (some ad) C.outer.length c) := (blk_cell HK1.out 3).trans rfl
  have HSZ : Aside0 (wA.heap.size = w.heap.size + 1 + 1 + 1) := ⟨by rw [hwA]; simp⟩
  have HOW : Aside0 (wA.ownsRow w.heap.size 38 1 (.slice (some ⟨w.heap.size + 1 + 1, 0, none⟩) 0 0) 0 []) := ⟨⟨rfl, .inr ⟨w.heap.size + 1 + 1, 0, #[], rfl, by omega, HE.out, Nat.le_refl _, Nat.zero_le _, rfl, rfl⟩⟩⟩
  have HNEWS : Aside0 (∀ j u, (C.outer.map (Value.int .u32))[j]? = some u → wA.cell? (ad.add j) = some u) := ⟨fun j u hj => by
    rw [List.getElem?_map] at hj
    obtain ⟨x, hx, rfl⟩ := Option.map_eq_some_iff.1 hj
    have := C_cell HROW.out j x hx
    exact (HB.out.cell (World.block_lt_of_cell? _ _ this)).trans this⟩
  obtain ⟨n, hn⟩ : ∃ n, C.outer.length = n + 1 := ⟨C.outer.length - 1, by omega⟩
  have HN := Aside0.mk hn
  clear hr hn
  go_enter Try.func75, Try.ntmps75
  rw [hwA] at k3
  go_wp2_with (first
    | (at_builtin; rw [← hwA]; go_loud (refine wpList_append_own _ rfl _ _ 39 rfl w.heap.size 38 i0 _ 1 4 Try.underlying39 hi hz0 hz1 hz2 rfl (by decide) (.slice (some ⟨w.heap.size + 1 + 1, 0, none⟩) 0 0) 0 [] rfl HOW.out ad C.outer.length c (C.outer.map (Value.int .u32)) rfl (by simp) HNEWS.out (by simp [Value.oneCell']) (by unfold maxLen; omega) (by omega) (by have := HSZ.out; omega) ?_; intro v' w1 hown' hgrow _; rw [Nat.zero_add, HN.out] at hown'; obtain ⟨g', cap', rfl⟩ := ownsRow_succ hown'; rw [← HN.out]; have HK2 := Aside0.mk (blk_grown HK1.out hgrow (by simp [Value.ownBlock] <;> omega)); have HZ2 := Aside0.mk (blk_grown HZ.out hgrow (by simp [Value.ownBlock] <;> omega)); have HB2 := Aside0.mk (HB.out.grown hgrow HB.out.size (fun x e => by simp [Value.ownBlock] at e; omega)); have c3 : w1.cell? ⟨w.heap.size, 3, none⟩ = some (.slice (some ad) C.outer.length c) := (blk_cell HK2.out 3).trans rfl; have f3 : w1.frozen? ⟨w.heap.size, 3, none⟩ = false := blk_frozen HK2.out 3; clear hown' hgrow))
    | ((with_reducible refine gate_dst (N := 8) rfl ?_); refine wpList_load_row rfl 41 (.tmp 1) rfl w.heap.size rfl 41 (C.cells (some ⟨g', 0, none⟩) cap') (0, 0) _ (blk_set HK2.out 3 (.slice (some ⟨g', 0, none⟩) C.outer.length cap')) Try.underlying41 rfl (by kernel_rfl) ?_)
    | ((with_reducible refine gate_store (p := 2) (t := 41) rfl ?_); refine wpList_store_row rfl 41 (.tmp 2) (.tmp 8) rfl (w.heap.size + 1) (C.cells (some ⟨g', 0, none⟩) cap') rfl rfl 41 #[.int .u32 0, .int .i64 0, .int .u32 0, .slice none 0 0, .int .i64 0, .int .i64 0, .int .i64 0, .int .i64 0, .int .i64 0, .int .i64 0, .int .i64 0, .int .i64 0, .int .i64 0, .int .i64 0, .int .i64 0, .int .i64 0, .int .i64 0, .bool false] (blk_far HZ2.out (by simp) _) (by kernel_rfl) rfl (cells_one C _ _) ?_))
  refine bodyPost_ret (results_cell_row rfl _ _ (w.heap.size + 1) 41 (C.cells (some ⟨g', 0, none⟩) cap') (0, 0) _ rfl (setRow_heap _ _ _ _ _ _ (blk_far HZ2.out (p := ⟨w.heap.size, 3, none⟩) (by simp) _)) Try.underlying41 rfl (by kernel_rfl)) rfl ?_
  exact ⟨_, _, rfl, below_setRow (HB2.out.setCell (p := ⟨w.heap.size, 3, none⟩) (Nat.le_refl _) _) (by omega) _⟩
set_option maxHeartbeats 1000000 in
theorem rnew_bad (w : World) (cs : Array Value) (C : Cfg) (h : IsCfg w cs C) (hg : C.good = false) :
    Calls Try.prog 48 #[.agg cs] w fun e w' => e = .returned (.tuple #[.pointer none, .int .i64 1]) ∧ Below w.heap.size w w' := by
  have HC := Aside0.mk h
  have HK := Aside0.mk (heap_alloc_new w (.cells cs 41))
  have he : (C.chk != 0) = true := by unfold Cfg.good at hg; simp only [bne, hg]; rfl
  clear h hg
  go_enter Try.func48, Try.ntmps48
  go_wp2_with (first
    | ((with_reducible refine gate_dst (N := 5) rfl ?_); refine wpList_load_row rfl 41 (.tmp 1) rfl w.heap.size rfl 41 cs (0, 0) _ HK.out Try.underlying41 rfl HC.out.info ?_)
    | (go_at_call 23; refine (rcheck_calls _ cs C (HC.out.below (below_alloc (Below.refl _ _) _))).mono ?_; rintro e w' ⟨rfl, hb⟩; have HB := Aside0.mk (below_then (below_alloc (Below.refl _ w) (.cells cs 41)) (by simp) hb); clear hb))
  go_ret2
  exact ⟨rfl, HB.out⟩
theorem copy_lit (w : World) (cs : Array Value) (C : Cfg) (h : IsCfg w cs C) (hlen : 1 ≤ C.outer.length ∧ C.outer.length ≤ 8) :
    Calls Try.prog 75 #[.agg cs] w fun e w' => ∃ A c, e = .returned (.agg #[.int .u32 C.inside, .int .i64 C.bits, .int .u32 C.server, .slice A C.outer.length c, .int .i64 C.low, .int .i64 C.high, .int .i64 C.block, .int .i64 C.blocks, .int .i64 C.maps, .int .i64 C.flows, .int .i64 C.hold, .int .i64 C.udp, .int .i64 C.icmp, .int .i64 C.opn, .int .i64 C.trans, .int .i64 C.minlife, .int .i64 C.maxlife, .bool C.third]) ∧ Below w.heap.size w w' := copy_calls w cs C h hlen
theorem info112 : (Try.prog.info? 112).map (fun i => (i.zero, i.size, i.bytes)) = some (some (.agg #[.int .i64 0, .int .u32 0, .int .i64 0]), 3, 24) := by kernel_rfl
theorem exec_make {P : Program} {o : Oper} {ρ : Operand → Value} {w w1 : World} {t : TypeId} {l c : Operand} {n : Int} {v : Value} (ho : o.op = .makeSlice t l c) (hl : ρ l = .int .i64 n) (hc : ρ c = .int .i64 n)
    (hrun : (Instr.makeSlice t (.int .i64 n) (.int .i64 n)).run P w = .ok v w1) : Sem.run P (execOp ρ o) w = .ok (.value v) w1 := by
  unfold execOp
  simp [ho, hl, hc, hrun, Result.andThen]
theorem own_lay112 {w : World} {base b n : Nat} {z : Value} (hz : z = .agg #[.int .i64 0, .int .u32 0, .int .i64 0]) (h : w.ownsRow base 112 3 (.slice (some ⟨b, 0, none⟩) n n) n (madeCells z.cells (n * 3)).toList) :
    base ≤ b ∧ ∃ L, w.heap[b]? = some (.cells L 112 (0, 0)) ∧ Lay L n (fun _ => z0) := by
  subst hz
  rcases h.2 with ⟨e, _⟩ | ⟨g, cap, cur, e, hb, hg, _, _, hs, ht⟩
  · cases e
  · cases e
    refine ⟨hb, _, hg, ?_⟩
    have hcur : cur.toList = (madeCells (Value.agg #[.int .i64 0, .int .u32 0, .int .i64 0]).cells (n * 3)).toList := by
      rw [← ht, List.take_of_length_le]
      simp [hs]
    have key : ∀ i, i < n * 3 → cur[i]? = some ((#[Value.int .i64 0, .int .u32 0, .int .i64 0] : Array Value)[i % 3]!) := fun i hi => by
      rw [← Array.getElem?_toList, hcur]
      simp [madeCells, Value.cells, hi]
    intro j hj
    refine ⟨?_, ?_, ?_⟩
    · rw [key _ (by omega), show j * 3 % 3 = 0 by omega]; rfl
    · rw [key _ (by omega), show (j * 3 + 1) % 3 = 1 by omega]; rfl
    · rw [key _ (by omega), show (j * 3 + 2) % 3 = 2 by omega]; rfl
theorem make112 (w : World) (K : Nat) (hK : K ≤ 8 * 4032) : ∃ w', (Instr.makeSlice 106 (.int .i64 (K : Int)) (.int .i64 (K : Int))).run Try.prog w = .ok (.slice (some ⟨w.heap.size, 0, none⟩) K K) w' ∧
    Below w.heap.size w w' ∧ ∃ L, w'.heap[w.heap.size]? = some (.cells L 112 (0, 0)) ∧ Lay L K (fun _ => z0) := by
  obtain ⟨i0, hi, hz0, hz1, hz2⟩ := info_parts info112
  obtain ⟨w', h1, h2, h3⟩ := run_make_full (P := Try.prog) w w.heap.size 106 112 i0 _ 3 Try.underlying106 hi hz0 hz1 .i64 .i64 K (by rw [hz2]; omega) (by unfold maxLen; omega) (Nat.le_refl _)
  exact ⟨w', h1, grownBy.below h3, (own_lay112 rfl h2).2⟩
set_option maxHeartbeats 8000000 in
theorem rnew_good (w : World) (cs : Array Value) (C : Cfg) (h : IsCfg w cs C) (hg : C.good = true) :
    Calls Try.prog 48 #[.agg cs] w fun e w' => ∃ q qb, e = .returned (.tuple #[.pointer (some ⟨q, 0, none⟩), .int .i64 0]) ∧ Below w.heap.size w w' ∧
      RefP w' q qb C.outer.length C.count.toNat C.hold (fun _ _ => z0) ∧ w.heap.size ≤ q ∧ w.heap.size ≤ qb := by
  have HC := Aside0.mk h
  have HK := Aside0.mk (heap_alloc_new w (.cells cs 41))
  have he : (C.chk != 0) = false := by unfold Cfg.good at hg; simp only [bne, hg]; rfl
  have G := good_facts hg
  have hcg := count_good hg
  obtain ⟨N, hN⟩ := Int.eq_ofNat_of_zero_le (show 0 ≤ C.count by omega)
  have hNb : 1 ≤ N ∧ N ≤ 4032 := by omega
  have HCN := Aside0.mk hN
  have HLEN := Aside0.mk G.len
  have HHOLD := Aside0.mk G.hold
  have E3 : ∃ A c, cs[3]? = some (.slice A C.outer.length c) := by
    obtain ⟨_, A, c, hcs, _⟩ := h
    exact ⟨A, c, by rw [hcs]; rfl⟩
  obtain ⟨A, cA, E3⟩ := E3
  have HE3 := Aside0.mk E3
  obtain ⟨KK, hK⟩ : ∃ KK, KK = C.outer.length * N := ⟨_, rfl⟩
  have hKb : KK ≤ 8 * 4032 := by rw [hK]; exact Nat.mul_le_mul G.len.2 hNb.2
  have hm : (N : Int) * (C.outer.length : Int) = (KK : Int) := by rw [hK, Nat.mul_comm]; simp
  have hw : wrap64 ((N : Int) * (C.outer.length : Int)) = (KK : Int) := by rw [hm]; clear hcg HCN hN; unfold wrap64; omega
  have HKK := Aside0.mk hK
  have HKB := Aside0.mk hKb
  clear h hg G hcg E3 hm hK hKb hN
  go_enter Try.func48, Try.ntmps48
  go_wp2_with (first
    | ((with_reducible refine gate_dst (N := 5) rfl ?_); refine wpList_load_row rfl 41 (.tmp 1) rfl w.heap.size rfl 41 cs (0, 0) _ HK.out Try.underlying41 rfl HC.out.info ?_)
    | (go_at_call 23; refine (rcheck_calls _ cs C (HC.out.below (below_alloc (Below.refl _ _) _))).mono ?_; rintro e w1 ⟨rfl, hb⟩; have HB1 := Aside0.mk (below_then (below_alloc (Below.refl _ w) (.cells cs 41)) (by simp) hb); have HK1 := Aside0.mk (blk_below HK.out hb); clear hb)
    | ((with_reducible refine gate_dst (N := 8) rfl ?_); refine wpList_load_row rfl 41 (.tmp 1) rfl w.heap.size rfl 41 cs (0, 0) _ HK1.out Try.underlying41 rfl HC.out.info ?_)
    | (go_at_call 34; refine (rcount_calls _ cs C (HC.out.below HB1.out)).mono ?_; rintro e w2 ⟨rfl, hb⟩; rw [HCN.out]; have HB2 := Aside0.mk (below_then HB1.out HB1.out.size hb); have HK2 := Aside0.mk (blk_below HK1.out hb); clear hb))
  have HBD := Aside0.mk (below_drew HB2.out)
  have HKD : Aside0 (w2.drew.heap[w.heap.size]? = some (.cells cs 41 (0, 0))) := ⟨HK2.out⟩
  refine start_ (n := 13) (S := fun w' => w'.heap[w.heap.size]? = some (.cells cs 41 (0, 0)) ∧ w'.cell? ⟨w.heap.size, 3, none⟩ = some (.slice A C.outer.length cA)) (ds := [10]) #[false, false, false, false, false, false, false, false, false, false, false, false, false] (by kernel_rfl) rfl rfl ⟨HKD.out, (blk_cell HKD.out 3).trans HE3.out⟩ (fun hHeld => ?_)
  refine pure_ (i := 2) (N := some 12) (v := ?_) (a' := ?_) #[false, false, true, false, false, false, false, false, false, false, false, false, false] rfl rfl (by kernel_rfl) (fun _ _ _ h => h) (Or.inl ⟨by rfl, ?_⟩) ?_ ?_
  rotate_left
  · intro w'
    go_simp
    with_reducible rfl
  rotate_left
  · simp only [Act.put, List.setIfInBounds_toArray, List.set_cons_zero, List.set_cons_succ, i64_w, i32_w]
    rfl
  refine pure_ (i := 3) (N := some 13) (v := ?_) (a' := ?_) #[false, false, true, true, false, false, false, false, false, false, false, false, false] rfl rfl (by kernel_rfl) (fun _ _ _ h => h) (Or.inl ⟨by rfl, ?_⟩) ?_ ?_
  rotate_left
  · intro w'
    go_simp
    with_reducible rfl
  rotate_left
  · simp only [Act.put, List.setIfInBounds_toArray, List.set_cons_zero, List.set_cons_succ, i64_w, i32_w]
    rfl
  refine pure_ (i := 4) (N := some 14) (v := ?_) (a' := ?_) #[false, false, true, true, true, false, false, false, false, false, false, false, false] rfl rfl (by kernel_rfl) (fun _ _ _ h => h) (Or.inl ⟨by rfl, ?_⟩) ?_ ?_
  rotate_left
  · intro w'
    go_simp
    with_reducible rfl
  rotate_left
  · simp only [Act.put, List.setIfInBounds_toArray, List.set_cons_zero, List.set_cons_succ, i64_w, i32_w]
    rfl
  refine take_ (i := 0) (N := some 10) (v := .agg cs) (a' := ?_) #[true, false, true, true, true, false, false, false, false, false, false, false, false] rfl rfl (by kernel_rfl) (fun _ _ _ h => h) (Or.inl ⟨by rfl, fun w1 s0 => exec_load_row 41 (.tmp 1) rfl w.heap.size rfl 41 cs (0, 0) _ s0.1 Try.underlying41 rfl HC.out.info⟩) hHeld ?_ ?_
  rotate_left
  · simp only [Act.put, List.setIfInBounds_toArray, List.set_cons_zero, List.set_cons_succ, i64_w, i32_w]
    rfl
  refine take_ (i := 5) (N := some 15) (v := ?_) (a' := ?_) #[true, false, true, true, true, true, false, false, false, false, false, false, false] rfl rfl (by kernel_rfl) (fun _ _ _ h => h) (Or.inl ⟨by rfl, ?_⟩) hHeld ?_ ?_
  rotate_left
  · rintro w' ⟨s0, s1⟩
    go_simp
    with_reducible rfl
  rotate_left
  · simp only [Act.put, List.setIfInBounds_toArray, List.set_cons_zero, List.set_cons_succ, i64_w, i32_w]
    rfl
  refine pure_ (i := 6) (N := some 16) (v := ?_) (a' := ?_) #[true, false, true, true, true, true, true, false, false, false, false, false, false] rfl rfl (by kernel_rfl) (fun _ _ _ h => h) (Or.inl ⟨by rfl, ?_⟩) ?_ ?_
  rotate_left
  · intro w'
    go_simp
    with_reducible rfl
  rotate_left
  · simp only [Act.put, List.setIfInBounds_toArray, List.set_cons_zero, List.set_cons_succ, i64_w, i32_w]
    rfl
  refine pure_ (i := 7) (N := some 17) (v := ?_) (a' := ?_) #[true, false, true, true, true, true, true, true, false, false, false, false, false] rfl rfl (by kernel_rfl) (fun _ _ _ h => h) (Or.inl ⟨by rfl, ?_⟩) ?_ ?_
  rotate_left
  · intro w'
    go_simp
    with_reducible rfl
  rotate_left
  · simp only [Act.put, List.setIfInBounds_toArray, List.set_cons_zero, List.set_cons_succ, i64_w, i32_w]
    rfl
  refine join_ (σ := (Option Addr × Nat) × Nat) 4 #[true, true, true, true, true, true, true, true, true, false, false, false, false] (fun s => [(11, .agg #[.int .u32 C.inside, .int .i64 C.bits, .int .u32 C.server, .slice s.1.1 C.outer.length s.1.2, .int .i64 C.low, .int .i64 C.high, .int .i64 C.block, .int .i64 C.blocks, .int .i64 C.maps, .int .i64 C.flows, .int .i64 C.hold, .int .i64 C.udp, .int .i64 C.icmp, .int .i64 C.opn, .int .i64 C.trans, .int .i64 C.minlife, .int .i64 C.maxlife, .bool C.third]), (18, .slice (some ⟨s.2, 0, none⟩) KK KK)]) (fun s w' => Below w.heap.size w w' ∧ w.heap.size ≤ s.2 ∧ w'.heap[w.heap.size]? = some (.cells cs 41 (0, 0)) ∧ ∃ L, w'.heap[s.2]? = some (.cells L 112 (0, 0)) ∧ Lay L KK (fun _ => z0)) ?_ ?_
  rotate_left
  · intro hCont
    refine two_ (i := 1) (j := 8) (Ni := some 11) (Nj := some 18) #[true, true, true, true, true, true, true, true, false, false, false, false, false] #[true, false, true, true, true, true, true, true, true, false, false, false, false] rfl rfl rfl rfl (by kernel_rfl) (by decide) (by decide) (fun K hK => ?_) (fun K hK => ?_)
    · skip
      refine goes_ Try.func75 (by kernel_rfl) rfl #[.agg cs] (by rfl) rfl rfl (by simp only [List.map_toArray, List.map_cons, List.map_nil]; rfl) ?_
      with_reducible refine (copy_lit _ cs C (HC.out.below HBD.out) HLEN.out).mono ?_
      rintro e wA ⟨A1, c1, rfl, hbA⟩
      refine ⟨_, rfl, ?_⟩
      have HBA := Aside0.mk (below_then HBD.out HBD.out.size hbA)
      have HKA := Aside0.mk (blk_below HKD.out hbA)
      clear hbA
      refine hK.out _ _ ⟨HKA.out, (blk_cell HKA.out 3).trans HE3.out⟩ (fun hHeld => ?_)
      clear hK K
      refine norm_ (a' := ?_) ?_ ?_
      rotate_left
      · show Act.put _ (some 11) _ = _
        simp only [Act.put, List.setIfInBounds_toArray, List.set_cons_zero, List.set_cons_succ, i64_w, i32_w]
        rfl
      refine one_ (i := 8) (N := some 18) #[true, true, true, true, true, true, true, true, true, false, false, false, false] rfl rfl (by kernel_rfl) (by decide) (fun K hK => ?_)
      obtain ⟨w8, hr8, hb8, L8, hL8, hl8⟩ := make112 wA KK HKB.out
      refine value_ (w1 := w8) (v := .slice (some ⟨wA.heap.size, 0, none⟩) KK KK) (by rfl) rfl (exec_make (n := (KK : Int)) rfl (by first | rfl | (show Value.int .i64 (wrap64 ((N : Int) * (C.outer.length : Int))) = _; rw [hw])) (by first | rfl | (show Value.int .i64 (wrap64 ((N : Int) * (C.outer.length : Int))) = _; rw [hw])) hr8) ?_
      have HB8 := Aside0.mk (below_then HBA.out HBA.out.size hb8)
      have HK8 := Aside0.mk (blk_below HKA.out hb8)
      have HL8 := Aside0.mk (And.intro hL8 hl8)
      clear hr8 hb8 hL8 hl8
      refine hK.out _ _ ⟨HK8.out, (blk_cell HK8.out 3).trans HE3.out⟩ (fun hHeld => ?_)
      clear hK K
      refine norm_ (a' := ?_) ?_ ?_
      rotate_left
      · show Act.put _ (some 18) _ = _
        simp only [Act.put, List.setIfInBounds_toArray, List.set_cons_zero, List.set_cons_succ, i64_w, i32_w]
        rfl
      exact norm_ (by simp only [putAll, Act.put, List.setIfInBounds_toArray, List.set_cons_zero, List.set_cons_succ]) (hCont ((A1, c1), wA.heap.size) _ ⟨HB8.out, HBA.out.size, HK8.out, L8, HL8.out.1, HL8.out.2⟩)
    · skip
      obtain ⟨w8, hr8, hb8, L8, hL8, hl8⟩ := make112 w2.drew KK HKB.out
      refine value_ (w1 := w8) (v := .slice (some ⟨w2.drew.heap.size, 0, none⟩) KK KK) (by rfl) rfl (exec_make (n := (KK : Int)) rfl (by first | rfl | (show Value.int .i64 (wrap64 ((N : Int) * (C.outer.length : Int))) = _; rw [hw])) (by first | rfl | (show Value.int .i64 (wrap64 ((N : Int) * (C.outer.length : Int))) = _; rw [hw])) hr8) ?_
      have HB8 := Aside0.mk (below_then HBD.out HBD.out.size hb8)
      have HK8 := Aside0.mk (blk_below HKD.out hb8)
      have HL8 := Aside0.mk (And.intro hL8 hl8)
      clear hr8 hb8 hL8 hl8
      refine hK.out _ _ ⟨HK8.out, (blk_cell HK8.out 3).trans HE3.out⟩ (fun hHeld => ?_)
      clear hK K
      refine norm_ (a' := ?_) ?_ ?_
      rotate_left
      · show Act.put _ (some 18) _ = _
        simp only [Act.put, List.setIfInBounds_toArray, List.set_cons_zero, List.set_cons_succ, i64_w, i32_w]
        rfl
      refine one_ (i := 1) (N := some 11) #[true, true, true, true, true, true, true, true, true, false, false, false, false] rfl rfl (by kernel_rfl) (by decide) (fun K hK => ?_)
      refine goes_ Try.func75 (by kernel_rfl) rfl #[.agg cs] (by rfl) rfl rfl (by simp only [List.map_toArray, List.map_cons, List.map_nil]; rfl) ?_
      with_reducible refine (copy_lit _ cs C (HC.out.below HB8.out) HLEN.out).mono ?_
      rintro e wA ⟨A1, c1, rfl, hbA⟩
      refine ⟨_, rfl, ?_⟩
      have HBA := Aside0.mk (below_then HB8.out HB8.out.size hbA)
      have HKA := Aside0.mk (blk_below HK8.out hbA)
      have HLA := Aside0.mk (And.intro (blk_below HL8.out.1 hbA) HL8.out.2)
      clear hbA
      refine hK.out _ _ ⟨HKA.out, (blk_cell HKA.out 3).trans HE3.out⟩ (fun hHeld => ?_)
      clear hK K
      refine norm_ (a' := ?_) ?_ ?_
      rotate_left
      · show Act.put _ (some 11) _ = _
        simp only [Act.put, List.setIfInBounds_toArray, List.set_cons_zero, List.set_cons_succ, i64_w, i32_w]
        rfl
      exact norm_ (by simp only [putAll, Act.put, List.setIfInBounds_toArray, List.set_cons_zero, List.set_cons_succ]) (hCont ((A1, c1), w2.drew.heap.size) _ ⟨HBA.out, HBD.out.size, HKA.out, L8, HLA.out.1, HLA.out.2⟩)
  rintro ⟨⟨A2, c2⟩, b2⟩ w9 ⟨hb9, hlo9, hk9, L9, hL9, hl9⟩
  have hHeld : w9.heap[w.heap.size]? = some (.cells cs 41 (0, 0)) ∧ w9.cell? ⟨w.heap.size, 3, none⟩ = some (.slice A C.outer.length cA) := ⟨hk9, (blk_cell hk9 3).trans HE3.out⟩
  have HF9 := Aside0.mk (And.intro hb9 (And.intro hlo9 (And.intro hL9 hl9)))
  clear hb9 hlo9 hk9 hL9 hl9
  refine norm_ (a' := ?_) ?_ ?_
  rotate_left
  · simp only [putAll, Act.put, List.setIfInBounds_toArray, List.set_cons_zero, List.set_cons_succ]
    rfl
  refine pure_ (i := 9) (N := some 19) (v := ?_) (a' := ?_) #[true, true, true, true, true, true, true, true, true, true, false, false, false] rfl rfl (by kernel_rfl) (fun _ _ _ h => h) (Or.inl ⟨by rfl, ?_⟩) ?_ ?_
  rotate_left
  · intro w'
    go_simp
    with_reducible rfl
  rotate_left
  · simp only [Act.put, List.setIfInBounds_toArray, List.set_cons_zero, List.set_cons_succ, i64_w, i32_w]
    rfl
  refine last_ (i := 10) (N := some 20) #[true, true, true, true, true, true, true, true, true, true, true, false, false] rfl rfl (by kernel_rfl) (by decide) (fun K hK => ?_)
  refine value_ (w1 := ?_) (v := ?_) (by rfl) rfl ?_ ?_
  rotate_left 2
  · go_simp
    constructor
    · rfl
    · rfl
  refine hK.out _ _ ?_
  clear hK K
  refine norm_ (a' := ?_) ?_ ?_
  rotate_left
  · show Act.put _ (some 20) _ = _
    simp only [Act.put, List.setIfInBounds_toArray, List.set_cons_zero, List.set_cons_succ, i64_w, i32_w]
    rfl
  refine pure_ (i := 11) (N := some 2) (v := ?_) (a' := ?_) #[true, true, true, true, true, true, true, true, true, true, true, true, false] rfl rfl (by kernel_rfl) (fun _ _ _ h => h) (Or.inl ⟨by rfl, ?_⟩) ?_ ?_
  rotate_left
  · intro w'
    go_simp
    with_reducible rfl
  rotate_left
  · simp only [Act.put, List.setIfInBounds_toArray, List.set_cons_zero, List.set_cons_succ, i64_w, i32_w]
    rfl
  refine pure_ (i := 12) (N := some 3) (v := ?_) (a' := ?_) #[true, true, true, true, true, true, true, true, true, true, true, true, true] rfl rfl (by kernel_rfl) (fun _ _ _ h => h) (Or.inl ⟨by rfl, ?_⟩) ?_ ?_
  rotate_left
  · intro w'
    go_simp
    with_reducible rfl
  rotate_left
  · simp only [Act.put, List.setIfInBounds_toArray, List.set_cons_zero, List.set_cons_succ, i64_w, i32_w]
    rfl
  refine done_ (by kernel_rfl) ?_
  go_wp2
  go_ret2
  obtain ⟨hb9, hlo9, hL9, hl9⟩ := HF9.out
  refine ⟨w9.heap.size, rfl, below_alloc hb9 _, b2, ?_, hb9.size, hlo9⟩
  rw [HCN.out, show ((N : Int)).toNat = N by omega]
  refine ⟨⟨_, blk_new w9 _, rfl, ⟨A2, c2, rfl⟩, rfl, ⟨KK, ?_⟩⟩, ⟨L9, blk_alloc hL9 _, ?_⟩, HLEN.out, hNb, HHOLD.out⟩
  · rw [← HKK.out]; rfl
  · rw [← HKK.out]; exact hl9
end Go.Proofs.Ytoapbppjkidgiaa.Pool
