/- Pool6: New, a pool of free blocks. Conditions: none. -/
import Derived.Test.YtoapbppjkidgiaaPool5
namespace Go.Proofs.Ytoapbppjkidgiaa.Pool
open Go.RowKit Go.Proofs.YtoapbppjkidgiaaW.PrintWords Go.Proofs.YtoapbppjkidgiaaW.PrintLast Go.Proofs.YtoapbppjkidgiaaW.PrintMore Tape Setup
set_option linter.unusedVariables false
set_option linter.unusedSimpArgs false
set_option maxRecDepth 100000
def m0 : Blk := ⟨0, 0, -9223372036854775808⟩
def z0 : Blk := ⟨0, 0, 0⟩
theorem own_not {w : World} {g : Nat} {L : Array Value} {t e : TypeId} {fr : Nat × Nat} {base size n : Nat} {v : Value} {xs : List Value} (h : w.heap[g]? = some (.cells L t fr)) (hte : t ≠ e) (ho : w.ownsRow base e size v n xs) : some g ≠ v.ownBlock := by
  rcases ho.2 with ⟨rfl, _⟩ | ⟨g', cap, cur, rfl, _, hg, _⟩
  · intro e'; cases e'
  · intro e'
    cases e'
    rw [hg] at h
    cases h
    exact hte rfl
theorem own_lay {w : World} {base b n : Nat} {z : Value} (hz : z = .agg #[.int .i64 0, .int .u32 0, .int .i64 0]) (h : w.ownsRow base 97 3 (.slice (some ⟨b, 0, none⟩) n n) n (madeCells z.cells (n * 3)).toList) :
    base ≤ b ∧ ∃ L, w.heap[b]? = some (.cells L 97 (0, 0)) ∧ Lay L n (fun _ => z0) := by
  subst hz
  rcases h.2 with ⟨e, _⟩ | ⟨g, cap, cur, e, hb, hg, _, _, hs, ht⟩
  · cases e
  · cases e
    refine ⟨hb, _, hg, ?_⟩
    have hcur : cur.toList = (madeCells (Value.agg #[.int .i64 0, .int .u32 0, .int .i64 0]).cells (n * 3)).toList := by
      rw [← ht, List.take_of_length_le]
      simp [hs]
    have key : ∀ i, i < n * 3 → cur[i]? = some ((#[Value.int .i64 0, .int .u32 0, .int .i64 0] : Array Value)[i % 3]!) := fun i hi => by
      rw [← Array.getElem?_toList, hcur]
      simp [madeCells, Value.cells, hi]
    intro j hj
    refine ⟨?_, ?_, ?_⟩
    · rw [key _ (by omega), show j * 3 % 3 = 0 by omega]; rfl
    · rw [key _ (by omega), show (j * 3 + 1) % 3 = 1 by omega]; rfl
    · rw [key _ (by omega), show (j * 3 + 2) % 3 = 2 by omega]; rfl
def rowVals (gs : Nat → Nat) (N i : Nat) : List Value := (List.range i).map (fun j => .slice (some ⟨gs j, 0, none⟩) N N)
def put1 (gs : Nat → Nat) (i b : Nat) : Nat → Nat := fun j => if j = i then b else gs j
theorem rowVals_succ (gs : Nat → Nat) (N i b : Nat) : rowVals (put1 gs i b) N (i + 1) = rowVals gs N i ++ [.slice (some ⟨b, 0, none⟩) N N] := by
  unfold rowVals
  rw [List.range_succ, List.map_append]
  congr 1
  · apply List.map_congr_left
    intro j hj
    have : j < i := List.mem_range.1 hj
    unfold put1
    rw [if_neg (by omega)]
  · simp [put1]
/-- the world while New fills its pool: i addresses are made. -/
structure NewSt (w wr : World) (o g : Nat) (cs : Array Value) (hold : Int) (N i : Nat) (v : Value) (gs : Nat → Nat) : Prop where
  hb : Below w.heap.size w wr
  box : wr.heap[o]? = some (.cells cs 41 (0, 0))
  head : wr.heap[g]? = some (.cells #[.int .i64 hold, v] 100 (0, 0))
  own : wr.ownsRow w.heap.size 104 1 v i (rowVals gs N i)
  blk : ∀ j, j < i → ∃ L, wr.heap[gs j]? = some (.cells L 97 (0, 0)) ∧ Lay L N (fun _ => m0)
  inj : ∀ a b, a < i → b < i → gs a = gs b → a = b
  low : ∀ j, j < i → w.heap.size ≤ gs j
theorem Below.grownBy {w w' : World} (h : Below w.heap.size w w') : w.grownBy w' none := ⟨h.os, h.tape, h.output, h.size, fun k hk _ => h.block k hk⟩
theorem grownBy.below {w w' : World} (h : w.grownBy w' none) : Below w.heap.size w w' := ⟨h.os, h.tape, h.output, h.size, fun k hk => h.block k hk (by simp)⟩
theorem grownBy_cell (w : World) (b o : Nat) (v : Value) : w.grownBy (w.setCell ⟨b, o, none⟩ v) (some b) :=
  ⟨rfl, rfl, rfl, by simp, fun x hx hn => Below.heap_setCell _ _ _ x (fun e => hn (by rw [e]))⟩
theorem grown_make {wr w2 w3 wi : World} (h : Below wr.heap.size wr w2) (h3 : w2.grownBy w3 none) (hi : w3.grownBy wi (some w2.heap.size)) : wr.grownBy wi none := by
  have h1 := h.size
  have h2 := h3.size
  refine ⟨(hi.os.trans h3.os).trans h.os, (hi.tape.trans h3.tape).trans h.tape, (hi.output.trans h3.output).trans h.output, Nat.le_trans h1 (Nat.le_trans h2 hi.size), fun k hk _ => ?_⟩
  rw [hi.block k (by omega) (fun e => by cases e; omega), h3.block k (by omega) (by simp), h.block k hk]
theorem NewSt.step {w wr wi w5 : World} {o g : Nat} {cs : Array Value} {hold : Int} {N i b : Nat} {v v' : Value} {gs : Nat → Nat} {L : Array Value}
    (h : NewSt w wr o g cs hold N i v gs) (hg : w.heap.size ≤ g) (ho : o ≠ g) (hi : wr.grownBy wi none) (hb : wr.heap.size ≤ b) (hL : wi.heap[b]? = some (.cells L 97 (0, 0))) (hl : Lay L N (fun _ => m0))
    (hgr : (wi.alloc (.cells #[.slice (some ⟨b, 0, none⟩) N N] 104)).grownBy w5 v.ownBlock) (hown : w5.ownsRow w.heap.size 104 1 v' (i + 1) (rowVals gs N i ++ [.slice (some ⟨b, 0, none⟩) N N])) :
    NewSt w (w5.setCell ⟨g, 1, none⟩ v') o g cs hold N (i + 1) v' (put1 gs i b) := by
  have hbi : Below w.heap.size w wi := below_then h.hb h.hb.size (grownBy.below hi)
  have own1 : (wi.alloc (.cells #[.slice (some ⟨b, 0, none⟩) N N] 104)).ownsRow w.heap.size 104 1 v i (rowVals gs N i) := (h.own.kept hi (by by_cases e : v.ownBlock = none; exact .inl e; exact .inr e)).alloc _
  have mv : ∀ {x : Nat} {C : Array Value} {t : TypeId}, wi.heap[x]? = some (.cells C t (0, 0)) → t ≠ 104 → x ≠ g → (w5.setCell ⟨g, 1, none⟩ v').heap[x]? = some (.cells C t (0, 0)) := fun {x C t} hx ht hxg =>
    blk_far (blk_grown (blk_alloc hx _) hgr (own_not (blk_alloc hx _) ht own1)) hxg v'
  have up : ∀ {x : Nat} {O : Obj}, wr.heap[x]? = some O → wi.heap[x]? = some O := fun hx => blk_grown hx hi (by simp)
  have hd5 := blk_grown (blk_alloc (up h.head) (.cells #[.slice (some ⟨b, 0, none⟩) N N] 104)) hgr (own_not (blk_alloc (up h.head) _) (by decide) own1)
  have hgw : g < wr.heap.size := blk_lt h.head
  refine ⟨?_, mv (up h.box) (by decide) ho, blk_set hd5 1 v', ?_, ?_, ?_, ?_⟩
  · have b1 : Below w.heap.size w w5 := Below.own (hbi.alloc hbi.size _) (by have := hbi.size; simp; omega) own1 hgr
    exact b1.setCell (p := ⟨g, 1, none⟩) hg _
  · rw [rowVals_succ]
    exact hown.kept (grownBy_cell _ _ _ _) (.inr (own_not hd5 (by decide) hown).symm)
  · intro j hj
    by_cases e : j = i
    · subst e
      refine ⟨L, ?_, hl⟩
      unfold put1
      rw [if_pos rfl]
      exact mv hL (by decide) (by omega)
    · obtain ⟨L2, h2, h3⟩ := h.blk j (by omega)
      refine ⟨L2, ?_, h3⟩
      unfold put1
      rw [if_neg e]
      exact mv (up h2) (by decide) (blk_ne h2 h.head (by decide))
  · intro x y hx hy e
    unfold put1 at e
    by_cases ex : x = i
    · by_cases ey : y = i
      · omega
      · rw [if_pos ex, if_neg ey] at e
        obtain ⟨L2, h2, _⟩ := h.blk y (by omega)
        have := blk_lt h2
        omega
    · by_cases ey : y = i
      · rw [if_neg ex, if_pos ey] at e
        obtain ⟨L2, h2, _⟩ := h.blk x (by omega)
        have := blk_lt h2
        omega
      · rw [if_neg ex, if_neg ey] at e
        exact h.inj x y (by omega) (by omega) e
  · intro j hj
    unfold put1
    by_cases e : j = i
    · rw [if_pos e]
      have := h.hb.size
      omega
    · rw [if_neg e]
      exact h.low j (by omega)
theorem NewSt.pool {w wr : World} {o g : Nat} {cs : Array Value} {hold : Int} {N k : Nat} {v : Value} {gs : Nat → Nat} (h : NewSt w wr o g cs hold N k v gs) (nk : 1 ≤ k ∧ k ≤ 8) (nN : 1 ≤ N ∧ N ≤ 4032) (nh : 1 ≤ hold ∧ hold ≤ 1048576) :
    ∃ ga, PoolSt wr g ga gs k N hold (fun _ _ => m0) ∧ w.heap.size ≤ ga := by
  rcases h.own.2 with ⟨_, e⟩ | ⟨ga, cap, cur, rfl, hb, hg, hkc, _, hcs, ht⟩
  · omega
  · refine ⟨ga, ⟨⟨cap, h.head⟩, fun i hi => ⟨N, ?_⟩, h.blk, h.inj, fun i hi => ?_, nk, nN, nh⟩, hb⟩
    · rw [blk_cell hg, ← Array.getElem?_toList]
      have e1 : (cur.toList.take (k * 1))[i]? = cur.toList[i]? := by rw [List.getElem?_take, if_pos (by omega)]
      rw [← e1, ht]
      unfold rowVals
      simp [hi]
    · obtain ⟨L, hL, _⟩ := h.blk i hi
      exact ⟨blk_ne hL h.head (by decide), blk_ne hL hg (by decide)⟩
theorem info97 : (Try.prog.info? 97).map (fun i => (i.zero, i.size, i.bytes)) = some (some (.agg #[.int .i64 0, .int .u32 0, .int .i64 0]), 3, 24) := by kernel_rfl
theorem info104 : (Try.prog.info? 104).map (fun i => (i.zero, i.size, i.bytes)) = some (some (.slice none 0 0), 1, 24) := by kernel_rfl
theorem errOf_bad {C : Cfg} (h : C.good = false) : errOf C.chk = 1 := by
  unfold errOf
  rw [if_neg]
  intro e
  unfold Cfg.good at h
  rw [e] at h
  cases h
theorem errOf_good {C : Cfg} (h : C.good = true) : errOf C.chk = 0 := by
  unfold errOf
  rw [if_pos (by unfold Cfg.good at h; exact eq_of_beq h)]
set_option maxHeartbeats 1000000 in
theorem pnew_bad (w : World) (cs : Array Value) (C : Cfg) (h : IsCfg w cs C) (hg : C.good = false) :
    Calls Try.prog 47 #[.agg cs] w fun e w' => e = .returned (.tuple #[.pointer none, .int .i64 1]) ∧ Below w.heap.size w w' := by
  have HC := Aside0.mk h
  have HK := Aside0.mk (heap_alloc_new w (.cells cs 41))
  have he := errOf_bad hg
  clear h hg
  go_enter Try.func47, Try.ntmps47
  go_wp2_with (first
    | ((with_reducible refine gate_dst (N := 10) rfl ?_); refine wpList_load_row rfl 41 (.tmp 1) rfl w.heap.size rfl 41 cs (0, 0) _ HK.out Try.underlying41 rfl HC.out.info ?_)
    | (go_at_call 22; refine (check_calls _ cs C (HC.out.below (below_alloc (Below.refl _ _) _))).mono ?_; rintro e w' ⟨rfl, hb⟩; rw [he]; have HB := Aside0.mk (below_then (below_alloc (Below.refl _ w) (.cells cs 41)) (by simp) hb); clear hb))
  go_ret2
  exact ⟨rfl, HB.out⟩
set_option maxHeartbeats 8000000 in
theorem pnew_good (w : World) (cs : Array Value) (C : Cfg) (h : IsCfg w cs C) (hg : C.good = true) :
    Calls Try.prog 47 #[.agg cs] w fun e w' => ∃ g ga gs, e = .returned (.tuple #[.pointer (some ⟨g, 0, none⟩), .int .i64 0]) ∧ Below w.heap.size w w' ∧
      PoolSt w' g ga gs C.outer.length C.count.toNat C.hold (fun _ _ => m0) ∧ w.heap.size ≤ g ∧ w.heap.size ≤ ga ∧ ∀ j, j < C.outer.length → w.heap.size ≤ gs j := by
  have HC := Aside0.mk h
  have HK := Aside0.mk (heap_alloc_new w (.cells cs 41))
  have he := errOf_good hg
  have G := good_facts hg
  have hcg := count_good hg
  obtain ⟨N, hN⟩ := Int.eq_ofNat_of_zero_le (show 0 ≤ C.count by omega)
  have hNb : 1 ≤ N ∧ N ≤ 4032 := by omega
  have HLEN := G.len
  have HHOLD := Aside0.mk G.hold
  obtain ⟨i97, ha, ha0, ha1, ha2⟩ := info_parts info97
  obtain ⟨i104, hi, hz0, hz1, hz2⟩ := info_parts info104
  have E3 : ∃ A c, cs[3]? = some (.slice A C.outer.length c) := by
    obtain ⟨_, A, c, hcs, _⟩ := h
    exact ⟨A, c, by rw [hcs]; rfl⟩
  obtain ⟨A, cA, E3⟩ := E3
  have HE3 := Aside0.mk E3
  clear h hg G hcg E3
  go_enter Try.func47, Try.ntmps47
  go_wp2_with (first
    | ((with_reducible refine gate_dst (N := 10) rfl ?_); refine wpList_load_row rfl 41 (.tmp 1) rfl w.heap.size rfl 41 cs (0, 0) _ HK.out Try.underlying41 rfl HC.out.info ?_)
    | (go_at_call 22; refine (check_calls _ cs C (HC.out.below (below_alloc (Below.refl _ _) _))).mono ?_; rintro e w1 ⟨rfl, hb⟩; rw [he]; have HB := Aside0.mk (below_then (below_alloc (Below.refl _ w) (.cells cs 41)) (by simp) hb); have HK2 := Aside0.mk (blk_below HK.out hb); have k10 := cfg_cell HC.out HK2.out 10 _ (fun _ _ => rfl); have k3 := (blk_cell (blk_alloc HK2.out (.cells #[.int .i64 C.hold, .slice none 0 0] 100)) 3).trans HE3.out; clear hb))
  clear k10 k3
  go_loopw [24] (fun x wr => ∃ (i : Nat) (v : Value) (gs : Nat → Nat), i ≤ C.outer.length ∧ x = .int .i64 i ∧ NewSt w wr w.heap.size w1.heap.size cs C.hold N i v gs) (fun x _ => C.outer.length - (intOf x).toNat)
  case atStart =>
    exact ⟨0, .slice none 0 0, fun _ => 0, Nat.zero_le _, rfl, HB.out.alloc HB.out.size _, blk_alloc HK2.out _, blk_new _ _, World.ownsRow_nil _ _ _ _, fun j hj => absurd hj (by omega), fun a b hj => absurd hj (by omega), fun j hj => absurd hj (by omega)⟩
  case round =>
    obtain ⟨i, v, gs, hik, rfl, hst⟩ := hrel
    have HST := Aside0.mk hst
    clear hst
    by_cases hlt : i < C.outer.length
    · go_wp2_with (first
        | ((with_reducible refine gate_dst (N := 26) rfl ?_); refine wpList_load_row rfl 41 (.tmp 1) rfl w.heap.size rfl 41 cs (0, 0) _ HST.out.box Try.underlying41 rfl HC.out.info ?_)
        | (go_at_call 27; refine (count_calls _ cs C (HC.out.below HST.out.hb)).mono ?_; rintro e w2 ⟨rfl, hb⟩; rw [hN]; have HB2 := Aside0.mk hb; clear hb)
        | (at_make; go_loud (refine wpList_make_full _ rfl _ _ 104 rfl w.heap.size 97 i97 _ 3 Try.underlying104 ha ha0 ha1 _ _ _ _ N rfl rfl rfl rfl (by rw [ha2]; omega) (by unfold maxLen; omega) (by have := HST.out.hb.size; have := HB2.out.size; omega) ?_; intro w3 hmk hg3)))
      obtain ⟨hlow, L3, hL3, hlay3⟩ := own_lay rfl hmk
      have HL3 := Aside0.mk hL3
      have HLAY3 := Aside0.mk hlay3
      have HG3 := Aside0.mk hg3
      clear hL3 hlay3 hg3 hmk hlow
      go_loopw [31] (fun x wi => ∃ j : Nat, j ≤ N ∧ x = .int .i64 j ∧ w3.grownBy wi (some w2.heap.size) ∧ ∃ L, wi.heap[w2.heap.size]? = some (.cells L 97 (0, 0)) ∧ Lay L N (fun n => if n < j then m0 else z0)) (fun x _ => N - (intOf x).toNat)
      case atStart => exact ⟨0, Nat.zero_le _, rfl, ⟨rfl, rfl, rfl, Nat.le_refl _, fun _ _ _ => rfl⟩, L3, HL3.out, HLAY3.out⟩
      case round =>
        rename World => wi
        obtain ⟨j, hj, rfl, hgi, L, hL, hl⟩ := hrel
        have HGI := Aside0.mk hgi
        have HL := Aside0.mk hL
        have HLY := Aside0.mk hl
        by_cases hltj : j < N
        · have c2 : wi.cell? ⟨w2.heap.size, j * 3 + 2, none⟩ = some (.int .i64 (if j < j then m0 else z0).rest) := (blk_cell hL _).trans (hl j hltj).2.2
          have f2 : wi.frozen? ⟨w2.heap.size, j * 3 + 2, none⟩ = false := blk_frozen hL _
          clear hgi hL hl
          go_wp2
          go_roundw
          case rel =>
            refine ⟨j + 1, by omega, by go_num, HGI.out.trans (grownBy_cell _ _ _ _), _, blk_set HL.out (j * 3 + 2) _, lay_set HLY.out hltj (by omega) (fun n hn => ?_) ?_⟩
            · by_cases e : n < j
              · rw [if_pos e, if_pos (by omega)]
              · rw [if_neg e, if_neg (by omega)]
            · obtain ⟨h0, h1, h2⟩ := HLY.out j hltj
              rw [h0, h1]
              simp only [if_neg (Nat.lt_irrefl j), if_pos (Nat.lt_succ_self j)]
              exact ⟨rfl, rfl, rfl⟩
          case measure => simp [intOf]; omega
        · obtain rfl : j = N := by omega
          have hgw := Aside0.mk (grown_make HB2.out HG3.out hgi)
          have hd := blk_grown HST.out.head hgw.out (by simp)
          have HD := Aside0.mk hd
          have c1 : wi.cell? ⟨w1.heap.size, 1, none⟩ = some v := (blk_cell hd 1).trans rfl
          have HOW := Aside0.mk (HST.out.own.kept hgw.out (by by_cases e : v.ownBlock = none; exact .inl e; exact .inr e))
          have hsz : w.heap.size ≤ wi.heap.size := Nat.le_trans HST.out.hb.size hgw.out.size
          have hg1 : w.heap.size < w1.heap.size + 1 := by have := HB.out.size; omega
          have key : ∀ w5, (wi.alloc (.cells #[.slice (some ⟨w2.heap.size, 0, none⟩) j j] 104)).grownBy w5 v.ownBlock → w5.heap[w1.heap.size]? = some (.cells #[.int .i64 C.hold, v] 100 (0, 0)) := fun w5 hgr =>
            blk_grown (blk_alloc hd _) hgr (own_not hd (by decide) HOW.out)
          have KEY := Aside0.mk key
          clear hgi hL hl hd key
          go_wp2_with (at_builtin; go_loud (refine wpList_append_own _ rfl _ _ 98 rfl w.heap.size 104 i104 _ 1 24 Try.underlying98 hi hz0 hz1 hz2 rfl (by decide) v i (rowVals gs j i) rfl (HOW.out.alloc _) ⟨wi.heap.size, 0, none⟩ 1 1 [.slice (some ⟨w2.heap.size, 0, none⟩) j j] rfl rfl (cell_one_new _ _ _) (by simp [Value.oneCell']) (by unfold maxLen; omega) (by omega) (by rw [World.size_alloc]; omega) ?_; intro v' w5 hown' hgrow _; obtain ⟨g', cap', rfl⟩ := ownsRow_succ hown'; have hd5 := KEY.out _ hgrow; have c5 : w5.cell? ⟨w1.heap.size, 1, none⟩ = some v := (blk_cell hd5 1).trans rfl; have f5 : w5.frozen? ⟨w1.heap.size, 1, none⟩ = false := blk_frozen hd5 1; have HOWN := Aside0.mk hown'; have HGROW := Aside0.mk hgrow; clear hown' hgrow hd5))
          have hlN : Lay L j (fun _ => m0) := fun n hn => by
            have := HLY.out n hn
            simp only [if_pos hn] at this
            exact this
          have hne : w.heap.size ≠ w1.heap.size := by
            have := (HB.out.size)
            have := blk_lt HK2.out
            omega
          go_roundw
          case rel => exact ⟨i + 1, _, _, by omega, by go_num, HST.out.step HB.out.size hne hgw.out HB2.out.size HL.out hlN HGROW.out HOWN.out⟩
          case measure => simp [intOf]; omega
    · obtain rfl : i = C.outer.length := by omega
      obtain ⟨ga, hp, hga⟩ := HST.out.pool HLEN hNb HHOLD.out
      go_wp2
      go_ret2
      refine ⟨w1.heap.size, ga, gs, rfl, HST.out.hb, ?_, HB.out.size, hga, HST.out.low⟩
      rw [hN]
      exact hp
end Go.Proofs.Ytoapbppjkidgiaa.Pool
