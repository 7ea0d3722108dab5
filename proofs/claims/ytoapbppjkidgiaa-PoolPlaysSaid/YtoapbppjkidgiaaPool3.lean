/- Pool3: list, the free blocks of an address, in their order. Conditions: the pool is one that New made. -/
import Derived.Test.YtoapbppjkidgiaaPool2
import Derived.RangeFuncNested
import Derived.RangeFuncBound
import Derived.RangeFuncCalls
import Derived.RangeFuncLeaves
import Derived.RangeFuncBox
import Derived.Shelf.Abstract
import Derived.Shelf.RegionOpen
import Derived.WalkKit
import Derived.OwnWalkIn
import Derived.TacticsInMore
import Derived.LoopNIn
import Derived.LoopIn
import Derived.Maps.AppendAt
namespace Go.Proofs.Ytoapbppjkidgiaa.Pool
open Go.RowKit Go.Proofs.YtoapbppjkidgiaaW.PrintWords Go.Proofs.YtoapbppjkidgiaaW.PrintLast Go.Proofs.YtoapbppjkidgiaaW.PrintMore Tape Setup
set_option linter.unusedVariables false
set_option linter.unusedSimpArgs false
set_option maxRecDepth 100000
attribute [local go_sem] Oper.semAt_some
/-- the free ones of the first k blocks. -/
def frees (m : Nat → Blk) (now : Int) (k : Nat) : List Nat := (List.range k).filter (fun j => fr (m j) now)
theorem frees_succ (m : Nat → Blk) (now : Int) (k : Nat) : frees m now (k + 1) = if fr (m k) now then frees m now k ++ [k] else frees m now k := by
  unfold frees
  rw [List.range_succ, List.filter_append]
  cases e : fr (m k) now <;> simp [List.filter, e]
theorem frees_len (m : Nat → Blk) (now : Int) (k : Nat) : (frees m now k).length ≤ k := by
  unfold frees
  exact Nat.le_trans (List.length_filter_le _ _) (by simp)
theorem frees_pre (m : Nat → Blk) (now : Int) {k n : Nat} (h : k ≤ n) : frees m now k <+: frees m now n := by
  induction n with
  | zero => rw [Nat.le_zero.1 h]; exact List.prefix_refl _
  | succ n ih =>
    by_cases e : k = n + 1
    · rw [e]; exact List.prefix_refl _
    · refine (ih (by omega)).trans ?_
      rw [frees_succ]
      split
      · exact List.prefix_append _ _
      · exact List.prefix_refl _
section
variable {F : Fence} {n : Nat} {P : Program} {ops : Array Oper} {rest : List Oper} {o : Oper} {a : Act} {Q : Exit → Act → World → Prop} {w : World}
theorem gateIn_dst {N : Tmp} (_hN : o.dst = some N) (h : wpListIn F n P ops Q (o :: rest) a w) : wpListIn F n P ops Q (o :: rest) a w := h
theorem gateIn_store {t : TypeId} {p : Tmp} {v : Operand} (_ho : o.op = .store t (.tmp p) v) (h : wpListIn F n P ops Q (o :: rest) a w) : wpListIn F n P ops Q (o :: rest) a w := h
/-- a whole load, inside a fence. -/
theorem in_load_mid (hgd : o.guard = none) (ty : TypeId) (x : Operand) (ho : o.op = .load ty x)
    (b k : Nat) (hx : a.eval x = .pointer (some ⟨b, k, none⟩)) (cs : List Value) (d : TypeDesc) (hc : w.rangeAt b k cs)
    (hu : P.underlying ty = some d) (hd : d.isRow = true) (hi : (P.info? ty).map (·.size) = some cs.length)
    (h : wpListIn F n P ops Q rest (a.put o.dst (.agg cs.toArray)) w) : wpListIn F n P ops Q (o :: rest) a w := by
  refine wpListIn_plain hgd fun K hK => ?_
  unfold Oper.wpIn
  refine ⟨by simp [Oper.about, ho], ?_⟩
  rw [Oper.semAt_plain F _ _ (by rw [ho]; intro c hc'; cases hc')]
  unfold execOp
  simp only [ho, hx, Instr.loadAt, Instr.sureAddr, Sem.run_bind, Sem.run_pure, Result.andThen_ok, run_loadVar_mid w b k ty cs d hc hu hd hi]
  exact hK _ _ h
/-- a whole store into an object, inside a fence. -/
theorem in_store_row (hgd : o.guard = none) (ty : TypeId) (x y : Operand) (ho : o.op = .store ty x y)
    (g : Nat) (cells old : Array Value) (t : TypeId) (hx : a.eval x = .pointer (some ⟨g, 0, none⟩)) (hy : a.eval y = .agg cells)
    (hg : w.heap[g]? = some (.cells old t (0, 0))) (hi : (P.info? ty).map (·.size) = some cells.size) (hos : old.size = cells.size) (h1 : cells.all (·.oneCell') = true)
    (h : ∀ w2 : World, w.grownBy w2 (some g) → w2.heap[g]? = some (.cells cells t (0, 0)) → wpListIn F n P ops Q rest (a.put o.dst undef) w2) : wpListIn F n P ops Q (o :: rest) a w := by
  refine wpListIn_plain hgd fun K hK => ?_
  unfold Oper.wpIn
  refine ⟨by simp [Oper.about, ho], ?_⟩
  rw [Oper.semAt_plain F _ _ (by rw [ho]; intro c hc'; cases hc')]
  unfold execOp
  simp only [ho, hx, hy, Instr.storeAt, Instr.sureAddr, Sem.run_bind, Sem.run_pure, Result.andThen_ok, run_storeVar_row w g t ty old cells hg hi hos h1]
  refine hK _ _ (h _ ⟨rfl, rfl, rfl, by simp [World.setRow], fun k hk hn => ?_⟩ (setRow_heap w g old cells t (0, 0) hg))
  unfold World.setRow
  show (w.heap.modify g _)[k]? = _
  rw [Array.getElem?_modify, if_neg (fun e => hn (by rw [e]))]
end
theorem grown_fresh {w w2 : World} {o : Obj} (h : (w.alloc o).grownBy w2 (some w.heap.size)) : w.grownBy w2 none := by
  refine ⟨h.os, h.tape, h.output, ?_, fun k hk _ => ?_⟩
  · have := h.size; simp at this; omega
  · rw [h.block k (by simp; omega) (fun e => by simp at e; omega)]
    exact Below.heap_alloc _ _ _ hk
theorem Blk.info : (Try.prog.info? 97).map (·.size) = some 3 := by kernel_rfl
theorem PoolSt.range {w : World} {g ga : Nat} {gs : Nat → Nat} {k N : Nat} {hold : Int} {m : Nat → Nat → Blk} (h : PoolSt w g ga gs k N hold m) {a b : Nat} (ha : a < k) (hb : b < N) :
    w.rangeAt (gs a) (b * 3) [.int .i64 (m a b).is, .int .u32 (m a b).sub, .int .i64 (m a b).rest] := by
  obtain ⟨h0, h1, h2, _⟩ := h.cells ha hb
  intro j v hv
  match j, hv with
  | 0, hv => simp at hv; subst hv; exact h0
  | 1, hv => simp at hv; subst hv; exact h1
  | 2, hv => simp at hv; subst hv; exact h2
/-- what a round keeps: all below n₀, and the box of the time. -/
def Kq (n₀ Bn : Nat) (now : Int) (A B : World) : Prop := Below n₀ A B ∧ (Boxed A Bn 2 (.int .i64 now) → Boxed B Bn 2 (.int .i64 now))
theorem Kq.trans {n₀ Bn : Nat} {now : Int} {A B C : World} (h : Kq n₀ Bn now A B) (k : Kq n₀ Bn now B C) : Kq n₀ Bn now A C := ⟨h.1.trans k.1, fun x => k.2 (h.2 x)⟩
theorem Kq.put {n₀ Bn : Nat} {now : Int} {w : World} (hn : n₀ ≤ w.heap.size) (hB : Bn < w.heap.size) (W : World) (l : Nat) (o o' : Obj) (hl : w.heap.size ≤ l) (h : W.heap[l]? = some o) (h1 : o.isCells = false) (h2 : o.isWalk = false) : Kq n₀ Bn now W (W.putObj l o') :=
  ⟨belowK_b hn W l o o' hl h h1 h2, fun x => (World.putObj_heap_other (by omega)).trans x⟩
set_option maxHeartbeats 2000000 in
theorem free1_in (l Bp Bi Bn n₀ : Nat) (g ga : Nat) (gs : Nat → Nat) (k N : Nat) (hold : Int) (m : Nat → Nat → Blk) (a : Nat) (now : Int) (ha : a < k)
    (W : World) (hn0 : n₀ ≤ W.heap.size) (h : PoolSt W g ga gs k N hold m) (hg : g < n₀ ∧ ga < n₀ ∧ ∀ i, i < k → gs i < n₀)
    (hBp : W.cell? ⟨Bp, 0, none⟩ = some (.pointer (some ⟨g, 0, none⟩))) (hBi : W.cell? ⟨Bi, 0, none⟩ = some (.int .i64 a)) (hbx : Boxed W Bn 2 (.int .i64 now))
    (J Jx : List Nat → World → Prop) (hJ : AbidesFrom W.heap.size J) (hJx : AbidesFrom W.heap.size Jx)
    (hY : ∀ pre x W, J pre W → pre.length < N → YieldAt Fence.wide 2 Try.prog l #[.int .i64 (x : Nat)] W fun e W' =>
      (e = .returned (.bool true) ∧ J (pre ++ [x]) W' ∧ Kq n₀ Bn now W W') ∨ (e = .returned (.bool false) ∧ Jx (pre ++ [x]) W'))
    (h0 : J [] W) :
    CallsIn Fence.wide 3 Try.prog 99 #[.func (.yield l) #[] #[], .pointer (some ⟨Bp, 0, none⟩), .pointer (some ⟨Bi, 0, none⟩), .pointer (some ⟨Bn, 0, none⟩)] W fun e W' => (∃ v, e = .returned v) ∧
      ((∃ ys, ys = frees (m a) now N ∧ J ys W') ∨ (∃ pre, pre <+: frees (m a) now N ∧ Jx pre W')) := by
  obtain ⟨c, hh⟩ := h.head
  have h1 : W.cell? ⟨g, 1, none⟩ = some (.slice (some ⟨ga, 0, none⟩) k c) := (blk_cell hh 1).trans rfl
  obtain ⟨c1, hr⟩ := h.row a ha
  have hk := h.nk
  have hN := h.nN
  have hidx : (0 : Int) ≤ (a : Int) ∧ (a : Int) < (k : Int) := by omega
  have hrd : W.cell? ((⟨ga, 0, none⟩ : Addr).add a) = some (.slice (some ⟨gs a, 0, none⟩) N c1) := by rw [add_plain]; exact hr
  have HP := Aside0.mk h
  have HY := Aside0.mk hY
  have HN0 := Aside0.mk hn0
  clear hY h hh hn0
  refine callsIn_of_wp Try.func99 rfl trivial ?_ rfl
  simp only [Try.ntmps99, List.size_toArray, List.length_cons, List.length_nil, Nat.reduceAdd, Nat.reduceSub, Array.replicate_succ, Array.replicate_zero, List.push_toArray, List.append_toArray, List.nil_append, List.cons_append]
  have hmo : Try.prog.follows .mixedOrders = true := by kernel_rfl
  gi_wp2
  gi_region_o
  all_goals gi_wp2
  all_goals
    gi_loopw [15] (fun i wr => ∃ j : Nat, j ≤ N ∧ i = .int .i64 j ∧ J (frees (m a) now j) wr ∧ Below n₀ W wr ∧ Boxed wr Bn 2 (.int .i64 now))
      (fun i _ => N - (intOf i).toNat)
    case atStart => exact ⟨0, Nat.zero_le _, rfl, hJ _ _ _ none h0 ⟨rfl, rfl, rfl, Nat.le_refl _, fun _ _ _ => rfl⟩ (fun r e => by cases e), (Below.refl _ _).drew, hbx⟩
    case round =>
      obtain ⟨j, hj, rfl, hJs, hB, hbw⟩ := hrel
      by_cases hltN : j < N
      · have HPr := Aside0.mk (HP.out.keep (w' := wr) (fun x hx hx2 => by
          refine hB.block x ?_
          rcases hx2 with rfl | rfl | ⟨i, hi, rfl⟩
          · exact hg.1
          · exact hg.2.1
          · exact hg.2.2 i hi))
        obtain ⟨c0, c1, c2, _⟩ := HPr.out.cells ha hltN
        have b1 : wr.cell? ⟨Bn, 0, none⟩ = some (.int .i64 now) := hbw.cell
        have HBW := Aside0.mk hbw
        have HB := Aside0.mk hB
        have HJS := Aside0.mk hJs
        have HX := Aside0.mk (And.intro hJ hJx)
        have e0 : frees (m a) now (j + 1) = if fr (m a j) now then frees (m a) now j ++ [j] else frees (m a) now j := frees_succ _ _ _
        have HE := Aside0.mk e0
        have abd : ∀ o, J (frees (m a) now j) (wr.alloc o) := fun o => hJ _ _ _ none hJs (World.grownBy_alloc wr o none) (fun r e => by cases e)
        have HABD := Aside0.mk abd
        have ba := fun o => (Below.heap_alloc wr o Bn (World.block_lt_of_cell? _ _ b1))
        have HBA := Aside0.mk (fun o => (World.cell?_of_block (a := ⟨Bn, 0, none⟩) (ba o)).trans b1)
        clear hB hJs hBp hBi hbx hbw hJ hJx h0 h1 hr hrd hmo hg e0 abd ba b1
        by_cases t0 : (m a j).is = 0
        · have t0b : ((m a j).is == 0) = true := by rw [t0]; rfl
          have b2 := HBA.out (.cells #[.int .i64 0, .int .u32 (m a j).sub, .int .i64 (m a j).rest] 97)
          by_cases t1 : (m a j).rest ≤ now
          · have t1b : decide ((m a j).rest ≤ now) = true := decide_eq_true t1
            have t1c : decide (now ≥ (m a j).rest) = true := decide_eq_true t1
            have ef : fr (m a j) now = true := by unfold fr; rw [t0b, t1b]; rfl
            rw [ef, if_pos rfl] at HE
            have hlen := frees_len (m a) now j
            obtain ⟨fn, tmps, assign, body, hy, hR⟩ := HY.out _ j _ (HABD.out (.cells #[.int .i64 0, .int .u32 (m a j).sub, .int .i64 (m a j).rest] 97)) (by omega)
            gi_wp2
            refine hR.mono ?_
            rintro e W3 (⟨rfl, hJ3, hk3⟩ | ⟨rfl, hJx3⟩)
            · gi_wp2
              go_roundw
              case rel => exact ⟨j + 1, by omega, by simp, by rw [HE.out]; exact hJ3, (HB.out.trans ((Below.refl n₀ wr).alloc (Nat.le_trans HN0.out HB.out.size) _)).trans hk3.1, hk3.2 (HBW.out.alloc _)⟩
              case measure => simp [intOf]; omega
            · gi_wp2
              refine bodyPost_ret (results_none rfl _ _ _) rfl ?_
              exact ⟨⟨_, rfl⟩, .inr ⟨_, by rw [← HE.out]; exact frees_pre _ _ (by omega), hJx3⟩⟩
          · have t1b : decide ((m a j).rest ≤ now) = false := decide_eq_false t1
            have t1c : decide (now ≥ (m a j).rest) = false := decide_eq_false t1
            have ef : fr (m a j) now = false := by unfold fr; rw [t0b, t1b]; rfl
            rw [ef] at HE
            gi_wp2
            refine ⟨fun _ h => (by cases h), ?_⟩
            gi_wp2
            go_roundw
            case rel => exact ⟨j + 1, by omega, by simp, by rw [HE.out]; exact HABD.out _, HB.out.trans ((Below.refl n₀ wr).alloc (Nat.le_trans HN0.out HB.out.size) _), HBW.out.alloc _⟩
            case measure => simp [intOf]; omega
        · have t0b : ((m a j).is == 0) = false := beq_eq_false_iff_ne.2 t0
          have ef : fr (m a j) now = false := by unfold fr; rw [t0b]; rfl
          rw [ef] at HE
          gi_wp2
          refine ⟨fun _ h => (by cases h), ?_⟩
          gi_wp2
          go_roundw
          case rel => exact ⟨j + 1, by omega, by simp, by rw [HE.out]; exact HABD.out _, HB.out.trans ((Below.refl n₀ wr).alloc (Nat.le_trans HN0.out HB.out.size) _), HBW.out.alloc _⟩
          case measure => simp [intOf]; omega
      · obtain rfl : j = N := by omega
        gi_wp2
        go_end0
        exact ⟨⟨_, rfl⟩, .inl ⟨_, rfl, hJs⟩⟩
theorem free_stops (Bp Bi Bn n₀ : Nat) (g ga : Nat) (gs : Nat → Nat) (k N : Nat) (hold : Int) (m : Nat → Nat → Blk) (a : Nat) (now : Int) (ha : a < k)
    (w : World) (hn0 : n₀ ≤ w.heap.size) (h : PoolSt w g ga gs k N hold m) (hg : g < n₀ ∧ ga < n₀ ∧ ∀ i, i < k → gs i < n₀)
    (hBp : w.cell? ⟨Bp, 0, none⟩ = some (.pointer (some ⟨g, 0, none⟩))) (hBi : w.cell? ⟨Bi, 0, none⟩ = some (.int .i64 a)) (hbx : Boxed w Bn 2 (.int .i64 now)) :
    SeqStopsK Fence.wide 3 Try.prog 99 #[.pointer (some ⟨Bp, 0, none⟩), .pointer (some ⟨Bi, 0, none⟩), .pointer (some ⟨Bn, 0, none⟩)] (fun x : Nat => #[Value.int .i64 (x : Int)]) (Kq n₀ Bn now)
      (fun ys => ys = frees (m a) now N) (fun pre => pre <+: frees (m a) now N) N w := fun l J Jx W hW hJ hJx hY h0 => by
  refine free1_in l Bp Bi Bn n₀ g ga gs k N hold m a now ha W (Nat.le_trans hn0 hW.size) (h.below hW) hg ?_ ?_ ?_ J Jx hJ hJx hY h0
  · exact (hW.cell (World.block_lt_of_cell? _ _ hBp)).trans hBp
  · exact (hW.cell (World.block_lt_of_cell? _ _ hBi)).trans hBi
  · exact (hW.block _ hbx.lt).trans hbx
set_option maxHeartbeats 1000000 in
theorem free_in (g : Nat) (a : Nat) (now : Int) (w : World) :
    CallsIn Fence.wide 3 Try.prog 98 #[.pointer (some ⟨g, 0, none⟩), .int .i64 a, .int .i64 now] w fun e w' =>
      e = .returned (.func (.func 99) #[] #[.pointer (some ⟨w.heap.size, 0, none⟩), .pointer (some ⟨w.heap.size + 1, 0, none⟩), .pointer (some ⟨w.heap.size + 2, 0, none⟩)]) ∧
      w' = ((w.alloc (.cells #[.pointer (some ⟨g, 0, none⟩)] 53)).alloc (.cells #[.int .i64 a] 3)).alloc (.cells #[.int .i64 now] 2) := by
  refine callsIn_of_wp Try.func98 rfl trivial ?_ rfl
  simp only [Try.ntmps98, List.size_toArray, List.length_cons, List.length_nil, Nat.reduceAdd, Nat.reduceSub, Array.replicate_succ, Array.replicate_zero, List.push_toArray, List.append_toArray, List.nil_append, List.cons_append]
  gi_wp2
  go_ret
  exact ⟨rfl, rfl⟩
theorem Blk.info3 : (Try.prog.info? 3).map (fun i => (i.zero, i.size, i.bytes)) = some (some (.int .i64 0), 1, 8) := by kernel_rfl
/-- a slice of the numbers l that lies beyond n₀. -/
def Nums (n₀ : Nat) (w : World) (v : Value) (l : List Nat) : Prop :=
  w.ownsRow n₀ 3 1 v l.length (l.map (fun x : Nat => Value.int .i64 (x : Int))) ∧ (v = .slice none 0 0 ↔ l = [])
set_option maxHeartbeats 2000000 in
theorem list_calls (w : World) (g ga : Nat) (gs : Nat → Nat) (k N : Nat) (hold : Int) (m : Nat → Nat → Blk) (a : Nat) (now : Int) (h : PoolSt w g ga gs k N hold m) (ha : a < k) :
    Calls Try.prog 72 #[.pointer (some ⟨g, 0, none⟩), .int .i64 a, .int .i64 now] w fun e w' =>
      ∃ v, e = .returned v ∧ Nums w.heap.size w' v (frees (m a) now N) ∧ Below w.heap.size w w' := by
  refine callsIn_wide (n := 4) |>.1 ?_
  obtain ⟨i0, hi, hz0, hz1, hz2⟩ := info_parts Blk.info3
  have hN := h.nN
  refine callsIn_of_wp_marks Try.func72 rfl trivial ?_ rfl
  simp only [Try.ntmps72, List.size_toArray, List.length_cons, List.length_nil, Nat.reduceAdd, Nat.reduceSub, Array.replicate_succ, Array.replicate_zero, List.push_toArray, List.append_toArray, List.nil_append, List.cons_append]
  gi_wp2_with (refine ⟨trivial, ?_⟩; gi_at_call 98; refine (free_in _ _ _ _).mono ?_; rintro e w' ⟨rfl, rfl⟩)
  have bO := Boxed.new w 31 (.slice none 0 0)
  have bP := Boxed.new (w.alloc (.cells #[.slice none 0 0] 31)) 53 (.pointer (some ⟨g, 0, none⟩))
  have bI := Boxed.new ((w.alloc (.cells #[.slice none 0 0] 31)).alloc (.cells #[.pointer (some ⟨g, 0, none⟩)] 53)) 3 (.int .i64 a)
  have bN := Boxed.new (((w.alloc (.cells #[.slice none 0 0] 31)).alloc (.cells #[.pointer (some ⟨g, 0, none⟩)] 53)).alloc (.cells #[.int .i64 a] 3)) 2 (.int .i64 now)
  simp only [World.size_alloc] at bP bI bN
  have hB0 : Below w.heap.size w ((((w.alloc (.cells #[.slice none 0 0] 31)).alloc (.cells #[.pointer (some ⟨g, 0, none⟩)] 53)).alloc (.cells #[.int .i64 a] 3)).alloc (.cells #[.int .i64 now] 2)) :=
    ((((Below.refl _ w).alloc (Nat.le_refl _) _).alloc (by simp) _).alloc (by simp; omega) _).alloc (by simp; omega) _
  have hg : g < w.heap.size ∧ ga < w.heap.size ∧ ∀ i, i < k → gs i < w.heap.size := by
    obtain ⟨c, hh⟩ := h.head
    obtain ⟨c1, hr⟩ := h.row a ha
    refine ⟨blk_lt hh, World.block_lt_of_cell? _ _ hr, fun i hi => ?_⟩
    obtain ⟨L, hL, _⟩ := h.blk i hi
    exact blk_lt hL
  refine wpIn_rangeFunc_ownG rfl (by omega) (gf := 99) (lb := #[.pointer (some ⟨w.heap.size + 1, 0, none⟩), .pointer (some ⟨w.heap.size + 1 + 1, 0, none⟩), .pointer (some ⟨w.heap.size + 1 + 2, 0, none⟩)]) rfl trivial (enters_of Try.func99 (by kernel_rfl) rfl)
    (free_stops (w.heap.size + 1) (w.heap.size + 1 + 1) (w.heap.size + 1 + 2) w.heap.size g ga gs k N hold m a now ha _ (hB0.size) (h.below hB0) hg ((bP.alloc _).alloc _).cell (bI.alloc _).cell bN) Kq.trans (Kq.put hB0.size (by simp only [World.size_alloc]; omega)) (Below.refl _ _) (fun _ => rfl)
    (fun pre W => (∃ v, Boxed W w.heap.size 31 v ∧ W.ownsRow w.heap.size 3 1 v pre.length (pre.map (fun x : Nat => Value.int .i64 (x : Int))) ∧ (v = .slice none 0 0 ↔ pre = [])) ∧ Boxed W (w.heap.size + 1 + 2) 2 (.int .i64 now) ∧ Below w.heap.size w W)
    (fun _ _ _ => False)
    (OwnFrom.and (Own.from (holdsRow_own w.heap.size w.heap.size 31 3 1 (fun pre : List Nat => pre.length) (fun pre => pre.map (fun x : Nat => Value.int .i64 (x : Int))) (fun pre v => v = .slice none 0 0 ↔ pre = [])) _) (OwnFrom.and (Own.from (boxed_own _ 2 (fun _ => .int .i64 now)) _) (ownFrom_below (Nat.le_refl _) hB0.size)))
    (fun _ _ _ _ _ hs _ _ => hs)
    ⟨⟨_, (((bO.alloc _).alloc _).alloc _), World.ownsRow_nil _ _ _ _, by simp⟩, bN, hB0⟩
    (fun x => { tmps := #[.pointer (some ⟨g, 0, none⟩), .int .i64 a, .int .i64 now, undef, undef, undef, .slice none 0 0, .pointer (some ⟨w.heap.size, 0, none⟩), .int .i64 (x : Int), .pointer (some ⟨g, 0, none⟩), .int .i64 a, .int .i64 now, .func (.func 99) #[] #[.pointer (some ⟨w.heap.size + 1, 0, none⟩), .pointer (some ⟨w.heap.size + 1 + 1, 0, none⟩), .pointer (some ⟨w.heap.size + 1 + 2, 0, none⟩)], .int .i64 (x : Int), undef, undef, undef, undef, undef], defers := [] }) ?assign ?body ?done ?stop
  case assign =>
    intro l x W K hK
    gi_wp2
    exact hK
  case body =>
    rintro l pre x W ⟨⟨v, hv, hrow, hnil⟩, hbn, hB⟩ hlt
    have hc := hv.cell
    gi_wp2_with (gi_at_builtin; go_loud (refine wpListIn_append_own _ rfl _ _ 31 rfl w.heap.size 3 i0 (.int .i64 0) 1 8 Try.underlying31 hi hz0 hz1 hz2 rfl (by decide) _ _ _ rfl (hrow.alloc _) ⟨W.heap.size, 0, none⟩ 1 1 [.int .i64 (x : Int)] rfl rfl (cell_one_new _ _ _) (by simp [Value.oneCell']) (by unfold maxLen; omega) (by omega) (by have := hB.size; simp; omega) ?_; intro v' w1 hown' hgrow _; obtain ⟨g', cap', rfl⟩ := ownsRow_succ hown'; obtain ⟨hv1, hv2, hr2, hk2, hb2⟩ := hv.appended (by decide) hrow hB.size (Nat.le_refl _) hown' hgrow; have hc1 := hv1.cell; have hf1 := hv1.frozen))
    have hbn2 : Boxed w1 (w.heap.size + 1 + 2) 2 (.int .i64 now) := (hbn.alloc _).kept hgrow (hbn.not_row (by decide) hrow)
    have hbn3 := hbn2.other (B' := w.heap.size) (by omega) (.slice (some ⟨g', 0, none⟩) (pre.length + 1) cap')
    exact ⟨hk2.from _, ⟨hb2, fun _ => hbn3⟩, ⟨_, hv2, by simpa using hr2, by simp⟩, hbn3, hB.trans hb2⟩
  case done =>
    rintro D ys W hD rfl ⟨⟨v, hv, hrow, hnil⟩, _, hB⟩ hK
    have hc := hv.cell
    gi_wp2
    refine ⟨by simp, .inl ⟨_, _, rfl, run_takeDeferred hK, ?_⟩⟩
    exact ⟨_, results_tmp rfl _ _ _, v, rfl, ⟨ownsRow_putObj hrow _ hK rfl, hnil⟩, hB.trans (belowK_b (w := w) (Nat.le_refl _) W D _ _ (by simp at hD; omega) hK rfl rfl)⟩
  case stop =>
    rintro D c pre W _ _ h _
    exact h.elim
end Go.Proofs.Ytoapbppjkidgiaa.Pool
