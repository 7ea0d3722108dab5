/- Ref14Asks: the reference's Sub, Index, Count, Block, First answer as package setup's. Conditions: the configuration's cells are as api.Config says. -/
import Derived.Test.YtoapbppjkidgiaaRef14Check
namespace Go.Proofs.Ytoapbppjkidgiaa.Setup
open Go.RowKit Go.Proofs.YtoapbppjkidgiaaW.PrintWords Go.Proofs.YtoapbppjkidgiaaW.PrintLast Go.Proofs.YtoapbppjkidgiaaW.PrintMore Tape
set_option linter.unusedVariables false
set_option linter.unusedSimpArgs false
theorem rcheck_good (w : World) (cs : Array Value) (C : Cfg) (h : IsCfg w cs C) (hg : C.good = true) :
    Calls Try.prog 23 #[.agg cs] w fun e w' => e = .returned (.int .i64 0) ∧ Below w.heap.size w w' := by
  have e : C.chk = 0 := by unfold Cfg.good at hg; simpa using hg
  refine (rcheck_calls w cs C h).mono ?_
  rintro e1 w1 ⟨rfl, hb⟩
  exact ⟨by rw [e], hb⟩
theorem rcheck_bad (w : World) (cs : Array Value) (C : Cfg) (h : IsCfg w cs C) (hg : C.good = false) :
    Calls Try.prog 23 #[.agg cs] w fun e w' => (∃ z, e = .returned (.int .i64 z) ∧ (z == 0) = false ∧ (z != 0) = true) ∧ Below w.heap.size w w' := by
  have e : (C.chk == 0) = false := hg
  refine (rcheck_calls w cs C h).mono ?_
  rintro e1 w1 ⟨rfl, hb⟩
  exact ⟨⟨_, rfl, e, by simp only [bne, e]; rfl⟩, hb⟩
set_option maxHeartbeats 4000000 in
theorem rcount_calls (w : World) (cs : Array Value) (C : Cfg) (h : IsCfg w cs C) :
    Calls Try.prog 34 #[.agg cs] w fun e w' => e = .returned (.int .i64 C.count) ∧ Below w.heap.size w w' := by
  have HC := Aside0.mk h
  have HK := Aside0.mk (heap_alloc_new w (.cells cs 41))
  clear h
  cases hg : C.good with
  | false =>
    have HG := Aside0.mk hg
    have hcnt : C.count = 0 := by unfold Cfg.count; rw [hg]; rfl
    rw [hcnt]
    clear hcnt hg
    go_enter Try.func34, Try.ntmps34
    go_wp2_with (first
      | ((with_reducible refine gate_dst (N := 3) rfl ?_); refine wpList_load_row rfl 41 (.tmp 1) rfl w.heap.size rfl 41 cs (0, 0) _ HK.out Try.underlying41 rfl HC.out.info ?_)
      | (go_at_call 23; refine (rcheck_bad _ cs C (HC.out.below (below_alloc (Below.refl _ _) _)) HG.out).mono ?_; rintro e w1 ⟨⟨z, rfl, hz0, hz1⟩, hb⟩; have HB := Aside0.mk (below_then (below_alloc (Below.refl _ w) (.cells cs 41)) (by simp) hb); clear hb))
    go_ret
    exact ⟨rfl, HB.out⟩
  | true =>
    have HG := Aside0.mk hg
    have g := good_facts hg
    have hcnt : C.count = (C.high - C.low + 1) / C.block := by unfold Cfg.count; rw [if_pos hg]
    rw [hcnt]
    clear hcnt hg
    have g1 := g.low
    have g2 := g.lh
    have g3 := g.high
    have g4 := g.block.1
    have g5 : 0 ≤ C.high - C.low := by omega
    have g6 : 0 ≤ C.high - C.low + 1 := by omega
    clear g
    go_enter Try.func34, Try.ntmps34
    go_wp2_with (first
      | ((with_reducible refine gate_dst (N := 3) rfl ?_); refine wpList_load_row rfl 41 (.tmp 1) rfl w.heap.size rfl 41 cs (0, 0) _ HK.out Try.underlying41 rfl HC.out.info ?_)
      | (go_at_call 23; refine (rcheck_good _ cs C (HC.out.below (below_alloc (Below.refl _ _) _)) HG.out).mono ?_; rintro e w1 ⟨rfl, hb⟩; have HB := Aside0.mk (below_then (below_alloc (Below.refl _ w) (.cells cs 41)) (by simp) hb); have HK2 := Aside0.mk (blk_below HK.out hb); have k4 := cfg_cell HC.out HK2.out 4 _ (fun _ _ => rfl); have k5 := cfg_cell HC.out HK2.out 5 _ (fun _ _ => rfl); have k6 := cfg_cell HC.out HK2.out 6 _ (fun _ _ => rfl); clear hb))
    go_ret
    exact ⟨rfl, HB.out⟩
set_option maxHeartbeats 4000000 in
theorem rblockof_calls (w : World) (cs : Array Value) (C : Cfg) (p : Int) (hp : i64 p) (h : IsCfg w cs C) :
    Calls Try.prog 31 #[.agg cs, .int .i64 p] w fun e w' => e = .returned (.tuple #[.int .i64 (C.blockOf p), .bool (C.inPort p)]) ∧ Below w.heap.size w w' := by
  have HC := Aside0.mk h
  have HK := Aside0.mk (heap_alloc_new w (.cells cs 41))
  clear h
  cases hg : C.good with
  | false =>
    have HG := Aside0.mk hg
    have e1 : C.inPort p = false := by unfold Cfg.inPort btw; rw [hg]; rfl
    have e2 : C.blockOf p = 0 := by unfold Cfg.blockOf; rw [e1]; rfl
    rw [e1, e2]
    clear e1 e2
    clear hg
    go_enter Try.func31, Try.ntmps31
    go_wp2_with (first
      | ((with_reducible refine gate_dst (N := 6) rfl ?_); refine wpList_load_row rfl 41 (.tmp 2) rfl w.heap.size rfl 41 cs (0, 0) _ HK.out Try.underlying41 rfl HC.out.info ?_)
      | (go_at_call 23; refine (rcheck_bad _ cs C (HC.out.below (below_alloc (Below.refl _ _) _)) HG.out).mono ?_; rintro e w1 ⟨⟨z, rfl, hz0, hz1⟩, hb⟩; have HB := Aside0.mk (below_then (below_alloc (Below.refl _ w) (.cells cs 41)) (by simp) hb); clear hb))
    go_ret2
    exact ⟨rfl, HB.out⟩
  | true =>
    have HG := Aside0.mk hg
    have g := good_facts hg
    have g1 := g.low
    have g3 := g.high
    have g4 := g.block.1
    clear g
    by_cases t1 : p < C.low
    · have t1b : decide (p < C.low) = true := decide_eq_true t1
      have e1 : C.inPort p = false := by unfold Cfg.inPort btw; rw [hg, decide_eq_false (show ¬ C.low ≤ p by omega)]; rfl
      have e2 : C.blockOf p = 0 := by unfold Cfg.blockOf; rw [e1]; rfl
      rw [e1, e2]
      clear e1 e2
      clear hg
      go_enter Try.func31, Try.ntmps31
      go_wp2_with (first
        | ((with_reducible refine gate_dst (N := 6) rfl ?_); refine wpList_load_row rfl 41 (.tmp 2) rfl w.heap.size rfl 41 cs (0, 0) _ HK.out Try.underlying41 rfl HC.out.info ?_)
        | (go_at_call 23; refine (rcheck_good _ cs C (HC.out.below (below_alloc (Below.refl _ _) _)) HG.out).mono ?_; rintro e w1 ⟨rfl, hb⟩; have HB := Aside0.mk (below_then (below_alloc (Below.refl _ w) (.cells cs 41)) (by simp) hb); have HK2 := Aside0.mk (blk_below HK.out hb); have k4 := cfg_cell HC.out HK2.out 4 _ (fun _ _ => rfl); have k5 := cfg_cell HC.out HK2.out 5 _ (fun _ _ => rfl); have k6 := cfg_cell HC.out HK2.out 6 _ (fun _ _ => rfl); clear hb))
      go_ret2
      exact ⟨rfl, HB.out⟩
    · have t1b : decide (p < C.low) = false := decide_eq_false t1
      by_cases t2 : p > C.high
      · have t2b : decide (p > C.high) = true := decide_eq_true t2
        have t2c : decide (C.high < p) = true := decide_eq_true t2
        have e1 : C.inPort p = false := by unfold Cfg.inPort btw; rw [hg, decide_eq_false (show ¬ p ≤ C.high by omega)]; simp
        have e2 : C.blockOf p = 0 := by unfold Cfg.blockOf; rw [e1]; rfl
        rw [e1, e2]
        clear e1 e2
        clear hg
        go_enter Try.func31, Try.ntmps31
        go_wp2_with (first
          | ((with_reducible refine gate_dst (N := 6) rfl ?_); refine wpList_load_row rfl 41 (.tmp 2) rfl w.heap.size rfl 41 cs (0, 0) _ HK.out Try.underlying41 rfl HC.out.info ?_)
          | (go_at_call 23; refine (rcheck_good _ cs C (HC.out.below (below_alloc (Below.refl _ _) _)) HG.out).mono ?_; rintro e w1 ⟨rfl, hb⟩; have HB := Aside0.mk (below_then (below_alloc (Below.refl _ w) (.cells cs 41)) (by simp) hb); have HK2 := Aside0.mk (blk_below HK.out hb); have k4 := cfg_cell HC.out HK2.out 4 _ (fun _ _ => rfl); have k5 := cfg_cell HC.out HK2.out 5 _ (fun _ _ => rfl); have k6 := cfg_cell HC.out HK2.out 6 _ (fun _ _ => rfl); clear hb))
        go_ret2
        exact ⟨rfl, HB.out⟩
      · have t2b : decide (p > C.high) = false := decide_eq_false t2
        have t2c : decide (C.high < p) = false := decide_eq_false t2
        have e1 : C.inPort p = true := by unfold Cfg.inPort btw; rw [hg, decide_eq_true (show C.low ≤ p by omega), decide_eq_true (show p ≤ C.high by omega)]; rfl
        have e2 : C.blockOf p = (p - C.low) / C.block := by unfold Cfg.blockOf; rw [if_pos e1]
        rw [e1, e2]
        clear e1 e2 hg
        have p3 : 0 ≤ p - C.low := by omega
        go_enter Try.func31, Try.ntmps31
        go_wp2_with (first
          | ((with_reducible refine gate_dst (N := 6) rfl ?_); refine wpList_load_row rfl 41 (.tmp 2) rfl w.heap.size rfl 41 cs (0, 0) _ HK.out Try.underlying41 rfl HC.out.info ?_)
          | (go_at_call 23; refine (rcheck_good _ cs C (HC.out.below (below_alloc (Below.refl _ _) _)) HG.out).mono ?_; rintro e w1 ⟨rfl, hb⟩; have HB := Aside0.mk (below_then (below_alloc (Below.refl _ w) (.cells cs 41)) (by simp) hb); have HK2 := Aside0.mk (blk_below HK.out hb); have k4 := cfg_cell HC.out HK2.out 4 _ (fun _ _ => rfl); have k5 := cfg_cell HC.out HK2.out 5 _ (fun _ _ => rfl); have k6 := cfg_cell HC.out HK2.out 6 _ (fun _ _ => rfl); clear hb))
        go_ret2
        exact ⟨rfl, HB.out⟩
set_option maxHeartbeats 4000000 in
theorem rfirst_calls (w : World) (cs : Array Value) (C : Cfg) (n : Int) (h : IsCfg w cs C) :
    Calls Try.prog 32 #[.agg cs, .int .i64 n] w fun e w' => e = .returned (.tuple #[.int .i64 (C.firstOf n), .bool (C.inBlock n)]) ∧ Below w.heap.size w w' := by
  have HC := Aside0.mk h
  have HK := Aside0.mk (heap_alloc_new w (.cells cs 41))
  clear h
  obtain ⟨c0, c1⟩ := count_in C
  by_cases t1 : n < 0
  · have t1b : decide (n < 0) = true := decide_eq_true t1
    have e1 : C.inBlock n = false := by unfold Cfg.inBlock btw; rw [decide_eq_false (show ¬ 0 ≤ n by omega)]; rfl
    have e2 : C.firstOf n = 0 := by unfold Cfg.firstOf; rw [e1]; rfl
    rw [e1, e2]
    clear e1 e2
    go_enter Try.func32, Try.ntmps32
    go_wp2
    go_ret2
    exact ⟨rfl, below_alloc (Below.refl _ _) _⟩
  · have t1b : decide (n < 0) = false := decide_eq_false t1
    by_cases t2 : n ≥ C.count
    · have t2b : decide (n ≥ C.count) = true := decide_eq_true t2
      have t2c : decide (C.count ≤ n) = true := decide_eq_true t2
      have e1 : C.inBlock n = false := by unfold Cfg.inBlock btw; rw [decide_eq_false (show ¬ n ≤ C.count - 1 by omega)]; simp
      have e2 : C.firstOf n = 0 := by unfold Cfg.firstOf; rw [e1]; rfl
      rw [e1, e2]
      clear e1 e2
      go_enter Try.func32, Try.ntmps32
      go_wp2_with (first
        | ((with_reducible refine gate_dst (N := 10) rfl ?_); refine gate_guard (by rfl) ?_; refine wpList_load_row rfl 41 (.tmp 2) rfl w.heap.size rfl 41 cs (0, 0) _ HK.out Try.underlying41 rfl HC.out.info ?_)
        | (go_at_call 34; refine (rcount_calls _ cs C (HC.out.below (below_alloc (Below.refl _ _) _))).mono ?_; rintro e w1 ⟨rfl, hb⟩; have HB := Aside0.mk (below_then (below_alloc (Below.refl _ w) (.cells cs 41)) (by simp) hb); have HK2 := Aside0.mk (blk_below HK.out hb); have k4 := cfg_cell HC.out HK2.out 4 _ (fun _ _ => rfl); have k6 := cfg_cell HC.out HK2.out 6 _ (fun _ _ => rfl); clear hb))
      go_ret2
      exact ⟨rfl, HB.out⟩
    · have t2b : decide (n ≥ C.count) = false := decide_eq_false t2
      have t2c : decide (C.count ≤ n) = false := decide_eq_false t2
      have hin : C.inBlock n = true := by unfold Cfg.inBlock btw; rw [decide_eq_true (show 0 ≤ n by omega), decide_eq_true (show n ≤ C.count - 1 by omega)]; rfl
      obtain ⟨hg, n0, n1, n2, n3⟩ := inBlock_facts (C := C) (n := n) hin
      have g := good_facts hg
      have g1 := g.low
      have g3 := g.high
      have g4 := g.block.1
      have m1 : n * C.block ≤ 65535 := by omega
      have m2 : 0 ≤ C.low + n * C.block := by omega
      have m3 : C.low + n * C.block ≤ 65535 := by omega
      have e2 : C.firstOf n = C.low + n * C.block := by unfold Cfg.firstOf; rw [if_pos hin]
      rw [hin, e2]
      clear hin e2 g n3 hg
      go_enter Try.func32, Try.ntmps32
      go_wp2_with (first
        | ((with_reducible refine gate_dst (N := 10) rfl ?_); refine gate_guard (by rfl) ?_; refine wpList_load_row rfl 41 (.tmp 2) rfl w.heap.size rfl 41 cs (0, 0) _ HK.out Try.underlying41 rfl HC.out.info ?_)
        | (go_at_call 34; refine (rcount_calls _ cs C (HC.out.below (below_alloc (Below.refl _ _) _))).mono ?_; rintro e w1 ⟨rfl, hb⟩; have HB := Aside0.mk (below_then (below_alloc (Below.refl _ w) (.cells cs 41)) (by simp) hb); have HK2 := Aside0.mk (blk_below HK.out hb); have k4 := cfg_cell HC.out HK2.out 4 _ (fun _ _ => rfl); have k6 := cfg_cell HC.out HK2.out 6 _ (fun _ _ => rfl); clear hb))
      go_ret2
      exact ⟨rfl, HB.out⟩
set_option maxHeartbeats 4000000 in
theorem rsub_calls (w : World) (cs : Array Value) (C : Cfg) (a : Int) (ha : u32 a) (h : IsCfg w cs C) :
    Calls Try.prog 33 #[.agg cs, .int .u32 a] w fun e w' => e = .returned (.bool (C.sub a)) ∧ Below w.heap.size w w' := by
  have HC := Aside0.mk h
  have HK := Aside0.mk (heap_alloc_new w (.cells cs 41))
  have HA := Aside0.mk ha
  clear h ha
  cases hg : C.good with
  | false =>
    have HG := Aside0.mk hg
    have e : C.sub a = false := by unfold Cfg.sub; rw [hg]; rfl
    rw [e]
    clear e hg
    go_enter Try.func33, Try.ntmps33
    go_wp2_with (first
      | ((with_reducible refine gate_dst (N := 5) rfl ?_); refine wpList_load_row rfl 41 (.tmp 2) rfl w.heap.size rfl 41 cs (0, 0) _ HK.out Try.underlying41 rfl HC.out.info ?_)
      | (go_at_call 23; refine (rcheck_bad _ cs C (HC.out.below (below_alloc (Below.refl _ _) _)) HG.out).mono ?_; rintro e w1 ⟨⟨z, rfl, hz0, hz1⟩, hb⟩; have HB := Aside0.mk (below_then (below_alloc (Below.refl _ w) (.cells cs 41)) (by simp) hb); clear hb))
    go_ret
    exact ⟨rfl, HB.out⟩
  | true =>
    have HG := Aside0.mk hg
    have HBT := Aside0.mk (good_facts hg).bits
    cases hw : C.within a with
    | false =>
      have HW := Aside0.mk hw
      have e : C.sub a = false := by unfold Cfg.sub; rw [hg, hw]; rfl
      rw [e]
      clear e hg hw
      go_enter Try.func33, Try.ntmps33
      go_wp2_with (first
        | ((with_reducible refine gate_dst (N := 5) rfl ?_); refine wpList_load_row rfl 41 (.tmp 2) rfl w.heap.size rfl 41 cs (0, 0) _ HK.out Try.underlying41 rfl HC.out.info ?_)
        | (go_at_call 23; refine (rcheck_good _ cs C (HC.out.below (below_alloc (Below.refl _ _) _)) HG.out).mono ?_; rintro e w1 ⟨rfl, hb⟩; have HB := Aside0.mk (below_then (below_alloc (Below.refl _ w) (.cells cs 41)) (by simp) hb); have HK2 := Aside0.mk (blk_below HK.out hb); clear hb)
        | ((with_reducible refine gate_dst (N := 9) rfl ?_); refine gate_guard (by rfl) ?_; refine wpList_load_row rfl 41 (.tmp 2) rfl w.heap.size rfl 41 cs (0, 0) _ HK2.out Try.underlying41 rfl HC.out.info ?_)
        | (go_at_call 62; refine (rwithin_cfg _ cs C a false (HC.out.below HB.out) HA.out HBT.out HW.out).mono ?_; rintro e w2 ⟨rfl, hb⟩; have HB2 := Aside0.mk (below_then HB.out HB.out.size hb); have k2 := cfg_cell HC.out (blk_below HK2.out hb) 2 _ (fun _ _ => rfl); clear hb))
      go_ret
      exact ⟨rfl, HB2.out⟩
    | true =>
      have HW := Aside0.mk hw
      cases hs : (a == C.server) with
      | false =>
        have hs1 : (a != C.server) = true := by simp only [bne, hs]; rfl
        have e : C.sub a = true := by unfold Cfg.sub; rw [hg, hw, hs1]; rfl
        rw [e]
        clear e hg hw
        go_enter Try.func33, Try.ntmps33
        go_wp2_with (first
          | ((with_reducible refine gate_dst (N := 5) rfl ?_); refine wpList_load_row rfl 41 (.tmp 2) rfl w.heap.size rfl 41 cs (0, 0) _ HK.out Try.underlying41 rfl HC.out.info ?_)
          | (go_at_call 23; refine (rcheck_good _ cs C (HC.out.below (below_alloc (Below.refl _ _) _)) HG.out).mono ?_; rintro e w1 ⟨rfl, hb⟩; have HB := Aside0.mk (below_then (below_alloc (Below.refl _ w) (.cells cs 41)) (by simp) hb); have HK2 := Aside0.mk (blk_below HK.out hb); clear hb)
          | ((with_reducible refine gate_dst (N := 9) rfl ?_); refine gate_guard (by rfl) ?_; refine wpList_load_row rfl 41 (.tmp 2) rfl w.heap.size rfl 41 cs (0, 0) _ HK2.out Try.underlying41 rfl HC.out.info ?_)
          | (go_at_call 62; refine (rwithin_cfg _ cs C a true (HC.out.below HB.out) HA.out HBT.out HW.out).mono ?_; rintro e w2 ⟨rfl, hb⟩; have HB2 := Aside0.mk (below_then HB.out HB.out.size hb); have k2 := cfg_cell HC.out (blk_below HK2.out hb) 2 _ (fun _ _ => rfl); clear hb))
        go_ret
        exact ⟨rfl, HB2.out⟩
      | true =>
        have hs1 : (a != C.server) = false := by simp only [bne, hs]; rfl
        have e : C.sub a = false := by unfold Cfg.sub; rw [hg, hw, hs1]; rfl
        rw [e]
        clear e hg hw
        go_enter Try.func33, Try.ntmps33
        go_wp2_with (first
          | ((with_reducible refine gate_dst (N := 5) rfl ?_); refine wpList_load_row rfl 41 (.tmp 2) rfl w.heap.size rfl 41 cs (0, 0) _ HK.out Try.underlying41 rfl HC.out.info ?_)
          | (go_at_call 23; refine (rcheck_good _ cs C (HC.out.below (below_alloc (Below.refl _ _) _)) HG.out).mono ?_; rintro e w1 ⟨rfl, hb⟩; have HB := Aside0.mk (below_then (below_alloc (Below.refl _ w) (.cells cs 41)) (by simp) hb); have HK2 := Aside0.mk (blk_below HK.out hb); clear hb)
          | ((with_reducible refine gate_dst (N := 9) rfl ?_); refine gate_guard (by rfl) ?_; refine wpList_load_row rfl 41 (.tmp 2) rfl w.heap.size rfl 41 cs (0, 0) _ HK2.out Try.underlying41 rfl HC.out.info ?_)
          | (go_at_call 62; refine (rwithin_cfg _ cs C a true (HC.out.below HB.out) HA.out HBT.out HW.out).mono ?_; rintro e w2 ⟨rfl, hb⟩; have HB2 := Aside0.mk (below_then HB.out HB.out.size hb); have k2 := cfg_cell HC.out (blk_below HK2.out hb) 2 _ (fun _ _ => rfl); clear hb))
        go_ret
        exact ⟨rfl, HB2.out⟩
set_option maxHeartbeats 4000000 in
theorem rindex_calls (w : World) (cs : Array Value) (C : Cfg) (a : Int) (h : IsCfg w cs C) :
    Calls Try.prog 30 #[.agg cs, .int .u32 a] w fun e w' => e = .returned (.tuple #[.int .i64 (C.indexOf a), .bool (C.has a)]) ∧ Below w.heap.size w w' := by
  have HC := Aside0.mk h
  have HK := Aside0.mk (heap_alloc_new w (.cells cs 41))
  cases hg : C.good with
  | false =>
    have HG := Aside0.mk hg
    obtain ⟨e1, e2⟩ := index_none (C := C) (a := a) (.inl hg)
    rw [e1, e2]
    clear e1 e2 h
    go_enter Try.func30, Try.ntmps30
    go_wp2_with (first
      | ((with_reducible refine gate_dst (N := 7) rfl ?_); refine wpList_load_row rfl 41 (.tmp 2) rfl w.heap.size rfl 41 cs (0, 0) _ HK.out Try.underlying41 rfl HC.out.info ?_)
      | (go_at_call 23; refine (rcheck_bad _ cs C (HC.out.below (below_alloc (Below.refl _ _) _)) HG.out).mono ?_; rintro e w' ⟨⟨z, rfl, hz0, hz1⟩, hb⟩; have HB := Aside0.mk (below_then (below_alloc (Below.refl _ w) (.cells cs 41)) (by simp) hb); clear hb))
    go_ret2
    exact ⟨rfl, HB.out⟩
  | true =>
    obtain ⟨hfit, A, c, hcs, hlc, hrd⟩ := h
    have HR := Aside0.mk hrd
    have HCS := Aside0.mk hcs
    have HG := Aside0.mk hg
    have hlm : C.outer.length ≤ 9223372036854775807 := hrd.2.1
    clear hfit hrd hcs
    go_enter Try.func30, Try.ntmps30
    go_wp2_with (first
      | ((with_reducible refine gate_dst (N := 7) rfl ?_); refine wpList_load_row rfl 41 (.tmp 2) rfl w.heap.size rfl 41 cs (0, 0) _ HK.out Try.underlying41 rfl HC.out.info ?_)
      | (go_at_call 23; refine (rcheck_good _ cs C (HC.out.below (below_alloc (Below.refl _ _) _)) HG.out).mono ?_; rintro e w1 ⟨rfl, hb⟩; have HB := Aside0.mk (below_then (below_alloc (Below.refl _ w) (.cells cs 41)) (by simp) hb); have HK2 := Aside0.mk (blk_below HK.out hb); have k3 : w1.cell? ⟨w.heap.size, 3, none⟩ = some (.slice A C.outer.length c) := (blk_cell HK2.out 3).trans (by rw [HCS.out]; rfl); clear hb))
    go_loop [6] (fun i => ∃ k : Nat, i = .int .i64 k ∧ k ≤ C.outer.length ∧ (∀ j y, j < k → C.outer[j]? = some y → y ≠ a)) (fun i => C.outer.length - (intOf i).toNat)
    case atStart => exact ⟨0, rfl, by omega, fun m y hm => absurd hm (by omega)⟩
    case round =>
      obtain ⟨k, rfl, hk, hno⟩ := hrel
      have HNO := Aside0.mk hno
      clear hno
      by_cases hkl : k < C.outer.length
      · obtain ⟨ad, hA⟩ := C_some HR.out (by omega)
        subst hA
        obtain ⟨x, hxk⟩ : ∃ x, C.outer[k]? = some x := ⟨_, List.getElem?_eq_getElem hkl⟩
        have hcell0 := C_cell HR.out k x hxk
        have hcell : w1.cell? (ad.add k) = some (.int .u32 x) := (HB.out.cell (World.block_lt_of_cell? _ _ hcell0)).trans hcell0
        have hidx : (0 : Int) ≤ (k : Int) ∧ (k : Int) < (C.outer.length : Int) := by omega
        have HXK := Aside0.mk hxk
        clear hxk hcell0
        by_cases hxa : x = a
        · have hxb : (x == a) = true := by rw [hxa]; exact beq_self_eq_true a
          have HXA := Aside0.mk hxa
          clear hxa
          go_wp2
          go_ret2
          obtain ⟨e1, e2⟩ := index_found (a := a) (k := k) HG.out (by rw [HXK.out, HXA.out]) HNO.out
          refine ⟨?_, HB.out⟩
          rw [e1, e2]
          rfl
        · have hxb : (x == a) = false := beq_eq_false_iff_ne.2 hxa
          have HXA := Aside0.mk hxa
          clear hxa
          go_wp2
          go_round
          case rel =>
            refine ⟨k + 1, by go_num, by omega, fun m z hm hz => ?_⟩
            by_cases hmj : m = k
            · subst hmj
              rw [HXK.out] at hz
              exact Option.some.inj hz ▸ HXA.out
            · exact HNO.out m z (by omega) hz
          case measure => simp [intOf]; omega
      · obtain rfl : k = C.outer.length := by omega
        go_wp2
        go_ret2
        obtain ⟨e1, e2⟩ := index_none (C := C) (a := a) (.inr (fun j y hy => HNO.out j y (List.getElem?_eq_some_iff.1 hy).1 hy))
        refine ⟨?_, HB.out⟩
        rw [e1, e2]
        rfl
end Go.Proofs.Ytoapbppjkidgiaa.Setup
