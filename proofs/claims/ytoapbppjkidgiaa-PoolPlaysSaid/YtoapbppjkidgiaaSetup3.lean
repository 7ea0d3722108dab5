/- Setup3: what package setup tells of a configuration. Conditions: the configuration's cells are as api.Config says. -/
import Derived.Test.YtoapbppjkidgiaaSetup2
namespace Go.Proofs.Ytoapbppjkidgiaa.Setup
open Go.RowKit Go.Proofs.YtoapbppjkidgiaaW.PrintWords Go.Proofs.YtoapbppjkidgiaaW.PrintLast Go.Proofs.YtoapbppjkidgiaaW.PrintMore Tape
set_option linter.unusedVariables false
set_option linter.unusedSimpArgs false
def Cfg.good (C : Cfg) : Bool := C.chk == 0
theorem chk_good {C : Cfg} (h : C.good = true) : C.r1 = true ∧ C.r2 = true ∧ C.r3 = true ∧ C.r4 = true ∧ C.r5 = true ∧ C.r6 = true ∧ C.r7 = true ∧ C.r8 = true ∧ C.r9 = true := by
  unfold Cfg.good Cfg.chk at h
  cases h1 : C.r1 <;> simp [h1] at h
  cases h2 : C.r2 <;> simp [h2] at h
  cases h3 : C.r3 <;> simp [h3] at h
  cases h4 : C.r4 <;> simp [h4] at h
  cases h5 : C.r5 <;> simp [h5] at h
  cases h6 : C.r6 <;> simp [h6] at h
  cases h7 : C.r7 <;> simp [h7] at h
  cases h8 : C.r8 <;> simp [h8] at h
  cases h9 : C.r9 <;> simp [h9] at h
  simp
theorem chk_in (C : Cfg) : 0 ≤ C.chk ∧ C.chk ≤ 9 := by
  unfold Cfg.chk
  repeat' split
  all_goals omega
structure Cfg.Good (C : Cfg) : Prop where
  bits : 8 ≤ C.bits ∧ C.bits ≤ 30
  low : 1024 ≤ C.low
  lh : C.low ≤ C.high
  high : C.high ≤ 65535
  block : 16 ≤ C.block ∧ C.block ≤ 2048
  div : (C.high - C.low + 1) % C.block = 0
  len : 1 ≤ C.outer.length ∧ C.outer.length ≤ 8
  hold : 1 ≤ C.hold ∧ C.hold ≤ 1048576
theorem good_facts {C : Cfg} (h : C.good = true) : C.Good := by
  obtain ⟨h1, h2, h3, h4, h5, h6, h7, h8, h9⟩ := chk_good h
  unfold Cfg.r3 Cfg.outs at h3
  unfold Cfg.r4 at h4
  unfold Cfg.r5 at h5
  unfold Cfg.r7 at h7
  simp only [Bool.and_eq_true, decide_eq_true_eq, beq_iff_eq] at h3 h4 h5
  have b4 := btw_true h4.1
  have b5 := btw_true h5.1.1
  exact ⟨r1_bits h1, b5.1, by omega, h5.1.2, b4, h5.2, by omega, btw_true h7⟩
set_option maxHeartbeats 1000000 in
theorem good_calls (w : World) (cs : Array Value) (C : Cfg) (h : IsCfg w cs C) :
    Calls Try.prog 65 #[.agg cs] w fun e w' => e = .returned (.bool C.good) ∧ Below w.heap.size w w' := by
  have HC := Aside0.mk h
  have HK := Aside0.mk (heap_alloc_new w (.cells cs 41))
  clear h
  have h9 := chk_in C
  have he : (errOf C.chk == 0) = C.good := by
    unfold errOf Cfg.good
    by_cases h : C.chk = 0
    · rw [if_pos h, h]
    · rw [if_neg h]; simp [h]
  have HE := Aside0.mk he
  clear he h9
  go_enter Try.func65, Try.ntmps65
  go_wp2_with (first
    | ((with_reducible refine gate_dst (N := 6) rfl ?_); refine wpList_load_row rfl 41 (.tmp 1) rfl w.heap.size rfl 41 cs (0, 0) _ HK.out Try.underlying41 rfl HC.out.info ?_)
    | (go_at_call 22; refine (check_calls _ cs C (HC.out.below (below_alloc (Below.refl _ _) _))).mono ?_; rintro e w' ⟨rfl, hb⟩; have HB := Aside0.mk (below_then (below_alloc (Below.refl _ w) (.cells cs 41)) (by simp) hb); clear hb))
  go_ret
  refine ⟨?_, HB.out⟩
  show Ending.returned (.bool (errOf C.chk == 0)) = _
  rw [HE.out]
def Cfg.sub (C : Cfg) (a : Int) : Bool := C.good && C.within a && a != C.server
def Cfg.count (C : Cfg) : Int := if C.good then (C.high - C.low + 1) / C.block else 0
def Cfg.inPort (C : Cfg) (p : Int) : Bool := C.good && btw p C.low C.high
def Cfg.blockOf (C : Cfg) (p : Int) : Int := if C.inPort p then (p - C.low) / C.block else 0
def Cfg.inBlock (C : Cfg) (n : Int) : Bool := btw n 0 (C.count - 1)
def Cfg.firstOf (C : Cfg) (n : Int) : Int := if C.inBlock n then C.low + n * C.block else 0
theorem count_good {C : Cfg} (h : C.good = true) : 1 ≤ C.count ∧ C.count * C.block = C.high - C.low + 1 ∧ C.count ≤ 4032 := by
  have g := good_facts h
  unfold Cfg.count
  rw [if_pos h]
  have h1 := Int.emod_add_mul_ediv (C.high - C.low + 1) C.block
  rw [g.div, Int.zero_add] at h1
  have h2 : (C.high - C.low + 1) / C.block * C.block = C.high - C.low + 1 := by rw [Int.mul_comm]; exact h1
  refine ⟨?_, h2, ?_⟩
  · have := g.lh
    by_cases hq : 1 ≤ (C.high - C.low + 1) / C.block
    · exact hq
    · have h3 : (C.high - C.low + 1) / C.block ≤ 0 := by omega
      have h4 : (C.high - C.low + 1) / C.block * C.block ≤ 0 := Int.mul_nonpos_of_nonpos_of_nonneg h3 (by have := g.block; omega)
      omega
  · have h3 : (C.high - C.low + 1) / C.block ≤ 64512 / 16 := by
      have h5 := g.low
      have h6 := g.high
      have h7 := g.block
      have h8 : (C.high - C.low + 1) / C.block * 16 ≤ (C.high - C.low + 1) / C.block * C.block := Int.mul_le_mul_of_nonneg_left h7.1 (Int.ediv_nonneg (by have := g.lh; omega) (by omega))
      omega
    omega
set_option maxHeartbeats 1000000 in
theorem count_calls (w : World) (cs : Array Value) (C : Cfg) (h : IsCfg w cs C) :
    Calls Try.prog 27 #[.agg cs] w fun e w' => e = .returned (.int .i64 C.count) ∧ Below w.heap.size w w' := by
  have HC := Aside0.mk h
  have HK := Aside0.mk (heap_alloc_new w (.cells cs 41))
  clear h
  cases hg : C.good with
  | false =>
    have hcnt : C.count = 0 := by unfold Cfg.count; rw [hg]; rfl
    rw [hcnt]
    clear hcnt
    go_enter Try.func27, Try.ntmps27
    go_wp2_with (first
      | ((with_reducible refine gate_dst (N := 3) rfl ?_); refine wpList_load_row rfl 41 (.tmp 1) rfl w.heap.size rfl 41 cs (0, 0) _ HK.out Try.underlying41 rfl HC.out.info ?_)
      | (go_at_call 65; refine (good_calls _ cs C (HC.out.below (below_alloc (Below.refl _ _) _))).mono ?_; rintro e w' ⟨rfl, hb⟩; have HB := Aside0.mk (below_then (below_alloc (Below.refl _ w) (.cells cs 41)) (by simp) hb); clear hb))
    go_ret
    exact ⟨rfl, HB.out⟩
  | true =>
    have g := good_facts hg
    have hcnt : C.count = (C.high - C.low + 1) / C.block := by unfold Cfg.count; rw [if_pos hg]
    rw [hcnt]
    clear hcnt
    have g1 := g.low
    have g2 := g.lh
    have g3 := g.high
    have g4 := g.block.1
    have g5 : 0 ≤ C.high - C.low := by omega
    have g6 : 0 ≤ C.high - C.low + 1 := by omega
    clear g
    go_enter Try.func27, Try.ntmps27
    go_wp2_with (first
      | ((with_reducible refine gate_dst (N := 3) rfl ?_); refine wpList_load_row rfl 41 (.tmp 1) rfl w.heap.size rfl 41 cs (0, 0) _ HK.out Try.underlying41 rfl HC.out.info ?_)
      | (go_at_call 65; refine (good_calls _ cs C (HC.out.below (below_alloc (Below.refl _ _) _))).mono ?_; rintro e w' ⟨rfl, hb⟩; have HB := Aside0.mk (below_then (below_alloc (Below.refl _ w) (.cells cs 41)) (by simp) hb); have HK2 := Aside0.mk (blk_below HK.out hb); have k4 := cfg_cell HC.out HK2.out 4 _ (fun _ _ => rfl); have k5 := cfg_cell HC.out HK2.out 5 _ (fun _ _ => rfl); have k6 := cfg_cell HC.out HK2.out 6 _ (fun _ _ => rfl); clear hb))
    go_ret
    exact ⟨rfl, HB.out⟩
set_option maxHeartbeats 1000000 in
theorem sub_calls (w : World) (cs : Array Value) (C : Cfg) (a : Int) (h : IsCfg w cs C) (ha : u32 a) :
    Calls Try.prog 28 #[.agg cs, .int .u32 a] w fun e w' => e = .returned (.bool (C.sub a)) ∧ Below w.heap.size w w' := by
  have HC := Aside0.mk h
  have HK := Aside0.mk (heap_alloc_new w (.cells cs 41))
  have HA := Aside0.mk ha
  clear h ha
  cases hg : C.good with
  | false =>
    go_enter Try.func28, Try.ntmps28
    go_wp2_with (first
      | ((with_reducible refine gate_dst (N := 5) rfl ?_); refine wpList_load_row rfl 41 (.tmp 2) rfl w.heap.size rfl 41 cs (0, 0) _ HK.out Try.underlying41 rfl HC.out.info ?_)
      | (go_at_call 65; refine (good_calls _ cs C (HC.out.below (below_alloc (Below.refl _ _) _))).mono ?_; rintro e w' ⟨rfl, hb⟩; have HB := Aside0.mk (below_then (below_alloc (Below.refl _ w) (.cells cs 41)) (by simp) hb); clear hb))
    go_ret
    refine ⟨?_, HB.out⟩
    have e : C.sub a = false := by unfold Cfg.sub; rw [hg]; rfl
    rw [e]; rfl
  | true =>
    have HG := Aside0.mk (good_facts hg)
    cases hw : C.within a with
    | false =>
      go_enter Try.func28, Try.ntmps28
      go_wp2_with (first
        | ((with_reducible refine gate_dst (N := 5) rfl ?_); refine wpList_load_row rfl 41 (.tmp 2) rfl w.heap.size rfl 41 cs (0, 0) _ HK.out Try.underlying41 rfl HC.out.info ?_)
        | (go_at_call 65; refine (good_calls _ cs C (HC.out.below (below_alloc (Below.refl _ _) _))).mono ?_; rintro e w1 ⟨rfl, hb⟩; have HB := Aside0.mk (below_then (below_alloc (Below.refl _ w) (.cells cs 41)) (by simp) hb); have HK2 := Aside0.mk (blk_below HK.out hb); clear hb)
        | ((with_reducible refine gate_dst (N := 8) rfl ?_); refine gate_guard (by first | rfl | (rw [hg]; rfl)) ?_; refine wpList_load_row rfl 41 (.tmp 2) rfl w.heap.size rfl 41 cs (0, 0) _ HK2.out Try.underlying41 rfl HC.out.info ?_)
        | (go_at_call 67; refine (within_cfg _ cs C a (HC.out.below HB.out) HA.out HG.out.bits).mono ?_; rintro e w2 ⟨rfl, hb⟩; have HB2 := Aside0.mk (below_then HB.out HB.out.size hb); clear hb))
      go_ret
      refine ⟨?_, HB2.out⟩
      have e : C.sub a = false := by unfold Cfg.sub; rw [hg, hw]; rfl
      rw [e]; rfl
    | true =>
      go_enter Try.func28, Try.ntmps28
      go_wp2_with (first
        | ((with_reducible refine gate_dst (N := 5) rfl ?_); refine wpList_load_row rfl 41 (.tmp 2) rfl w.heap.size rfl 41 cs (0, 0) _ HK.out Try.underlying41 rfl HC.out.info ?_)
        | (go_at_call 65; refine (good_calls _ cs C (HC.out.below (below_alloc (Below.refl _ _) _))).mono ?_; rintro e w1 ⟨rfl, hb⟩; have HB := Aside0.mk (below_then (below_alloc (Below.refl _ w) (.cells cs 41)) (by simp) hb); have HK2 := Aside0.mk (blk_below HK.out hb); clear hb)
        | ((with_reducible refine gate_dst (N := 8) rfl ?_); refine gate_guard (by first | rfl | (rw [hg]; rfl)) ?_; refine wpList_load_row rfl 41 (.tmp 2) rfl w.heap.size rfl 41 cs (0, 0) _ HK2.out Try.underlying41 rfl HC.out.info ?_)
        | (go_at_call 67; refine (within_cfg _ cs C a (HC.out.below HB.out) HA.out HG.out.bits).mono ?_; rintro e w2 ⟨rfl, hb⟩; have HB2 := Aside0.mk (below_then HB.out HB.out.size hb); have k2 := cfg_cell HC.out (blk_below HK2.out hb) 2 _ (fun _ _ => rfl); clear hb))
      all_goals
        go_ret
        refine ⟨?_, HB2.out⟩
        first
          | rfl
          | (show Ending.returned (.bool _) = Ending.returned (.bool _); congr 2; unfold Cfg.sub; simp [*])
set_option maxHeartbeats 1000000 in
theorem block_calls (w : World) (cs : Array Value) (C : Cfg) (p : Int) (h : IsCfg w cs C) (hp : i64 p) :
    Calls Try.prog 25 #[.agg cs, .int .i64 p] w fun e w' => e = .returned (.tuple #[.int .i64 (C.blockOf p), .bool (C.inPort p)]) ∧ Below w.heap.size w w' := by
  have HC := Aside0.mk h
  have HK := Aside0.mk (heap_alloc_new w (.cells cs 41))
  clear h
  cases hg : C.good with
  | false =>
    have e1 : C.inPort p = false := by unfold Cfg.inPort; rw [hg]; rfl
    have e2 : C.blockOf p = 0 := by unfold Cfg.blockOf; rw [e1]; rfl
    rw [e1, e2]
    clear e1 e2
    go_enter Try.func25, Try.ntmps25
    go_wp2_with (first
      | ((with_reducible refine gate_dst (N := 6) rfl ?_); refine wpList_load_row rfl 41 (.tmp 2) rfl w.heap.size rfl 41 cs (0, 0) _ HK.out Try.underlying41 rfl HC.out.info ?_)
      | (go_at_call 65; refine (good_calls _ cs C (HC.out.below (below_alloc (Below.refl _ _) _))).mono ?_; rintro e w' ⟨rfl, hb⟩; have HB := Aside0.mk (below_then (below_alloc (Below.refl _ w) (.cells cs 41)) (by simp) hb); clear hb))
    go_ret2
    exact ⟨rfl, HB.out⟩
  | true =>
    have g := good_facts hg
    have g1 := g.low
    have g3 := g.high
    have g4 := g.block.1
    clear g
    cases hbt : btw p C.low C.high with
    | false =>
      have e1 : C.inPort p = false := by unfold Cfg.inPort; rw [hg, hbt]; rfl
      have e2 : C.blockOf p = 0 := by unfold Cfg.blockOf; rw [e1]; rfl
      rw [e1, e2]
      clear e1 e2
      go_enter Try.func25, Try.ntmps25
      go_wp2_with (first
        | ((with_reducible refine gate_dst (N := 6) rfl ?_); refine wpList_load_row rfl 41 (.tmp 2) rfl w.heap.size rfl 41 cs (0, 0) _ HK.out Try.underlying41 rfl HC.out.info ?_)
        | (go_at_call 65; refine (good_calls _ cs C (HC.out.below (below_alloc (Below.refl _ _) _))).mono ?_; rintro e w' ⟨rfl, hb⟩; have HB := Aside0.mk (below_then (below_alloc (Below.refl _ w) (.cells cs 41)) (by simp) hb); have HK2 := Aside0.mk (blk_below HK.out hb); have k4 := cfg_cell HC.out HK2.out 4 _ (fun _ _ => rfl); have k5 := cfg_cell HC.out HK2.out 5 _ (fun _ _ => rfl); have k6 := cfg_cell HC.out HK2.out 6 _ (fun _ _ => rfl); clear hb)
        | (go_at_call 66; refine (btw_calls _ _ _ _).mono ?_; rintro e w2 ⟨rfl, rfl⟩))
      go_ret2
      exact ⟨rfl, HB.out⟩
    | true =>
      have e1 : C.inPort p = true := by unfold Cfg.inPort; rw [hg, hbt]; rfl
      have e2 : C.blockOf p = (p - C.low) / C.block := by unfold Cfg.blockOf; rw [if_pos e1]
      rw [e1, e2]
      clear e1 e2
      obtain ⟨p1, p2⟩ := btw_true hbt
      have p3 : 0 ≤ p - C.low := by omega
      go_enter Try.func25, Try.ntmps25
      go_wp2_with (first
        | ((with_reducible refine gate_dst (N := 6) rfl ?_); refine wpList_load_row rfl 41 (.tmp 2) rfl w.heap.size rfl 41 cs (0, 0) _ HK.out Try.underlying41 rfl HC.out.info ?_)
        | (go_at_call 65; refine (good_calls _ cs C (HC.out.below (below_alloc (Below.refl _ _) _))).mono ?_; rintro e w' ⟨rfl, hb⟩; have HB := Aside0.mk (below_then (below_alloc (Below.refl _ w) (.cells cs 41)) (by simp) hb); have HK2 := Aside0.mk (blk_below HK.out hb); have k4 := cfg_cell HC.out HK2.out 4 _ (fun _ _ => rfl); have k5 := cfg_cell HC.out HK2.out 5 _ (fun _ _ => rfl); have k6 := cfg_cell HC.out HK2.out 6 _ (fun _ _ => rfl); clear hb)
        | (go_at_call 66; refine (btw_calls _ _ _ _).mono ?_; rintro e w2 ⟨rfl, rfl⟩))
      go_ret2
      exact ⟨rfl, HB.out⟩
end Go.Proofs.Ytoapbppjkidgiaa.Setup
