/- Pool9: the law's own functions: one, fresh, awake; PoolKnown. Conditions: none. -/
import Derived.Test.YtoapbppjkidgiaaPool8
import Derived.Test.YtoapbppjkidgiaaSetup6
namespace Go.Proofs.Ytoapbppjkidgiaa.Pool
open Go.RowKit Go.Proofs.YtoapbppjkidgiaaW.PrintWords Go.Proofs.YtoapbppjkidgiaaW.PrintLast Go.Proofs.YtoapbppjkidgiaaW.PrintMore Tape Setup
set_option linter.unusedVariables false
set_option linter.unusedSimpArgs false
set_option maxRecDepth 100000
def oneCfg : Cfg := { S0.cfg with outer := [16909060], hold := 10 }
theorem one_fits : oneCfg.Fits := by
  have h := cfg_fits S0 S0_fits
  exact { h with outer := by intro x hx; obtain rfl : x = 16909060 := by simpa [oneCfg] using hx
                             unfold u32; omega
                 hold := by unfold i64; decide }
set_option maxHeartbeats 8000000 in
set_option maxRecDepth 100000 in
theorem one_calls (w : World) :
    Calls Try.prog 37 #[] w fun e w' => ∃ cs, e = .returned (.agg cs) ∧ IsCfg w' cs oneCfg ∧ Below w.heap.size w w' := by
  have HK0 := Aside0.mk (heap_alloc_new w (.cells #[.int .u32 0, .int .i64 0, .int .u32 0, .slice none 0 0, .int .i64 0, .int .i64 0, .int .i64 0, .int .i64 0, .int .i64 0, .int .i64 0, .int .i64 0, .int .i64 0, .int .i64 0, .int .i64 0, .int .i64 0, .int .i64 0, .int .i64 0, .bool false] 41))
  have HB0 := Aside0.mk (below_alloc (Below.refl _ w) (.cells #[.int .u32 0, .int .i64 0, .int .u32 0, .slice none 0 0, .int .i64 0, .int .i64 0, .int .i64 0, .int .i64 0, .int .i64 0, .int .i64 0, .int .i64 0, .int .i64 0, .int .i64 0, .int .i64 0, .int .i64 0, .int .i64 0, .int .i64 0, .bool false] 41))
  go_enter Try.func37, Try.ntmps37
  go_wp2_with fail
  refine (config_calls _ S0 S0_fits).mono ?_
  rintro e w1 ⟨cs, rfl, hcfg, hb⟩
  obtain ⟨hfit, A, c, rfl, hl, hr⟩ := hcfg
  have HB1 := Aside0.mk (below_then HB0.out (by simp) hb)
  have HK1 := Aside0.mk (blk_below HK0.out hb)
  have hg1 : w.heap.size < w1.heap.size := blk_lt HK1.out
  have HK2 := Aside0.mk (heap_alloc_new w1 (.cells #[.int .u32 0, .int .i64 0, .int .u32 0, .slice none 0 0, .int .i64 0, .int .i64 0, .int .i64 0, .int .i64 0, .int .i64 0, .int .i64 0, .int .i64 0, .int .i64 0, .int .i64 0, .int .i64 0, .int .i64 0, .int .i64 0, .int .i64 0, .bool false] 41))
  have HK3 := Aside0.mk (blk_alloc HK1.out (.cells #[.int .u32 0, .int .i64 0, .int .u32 0, .slice none 0 0, .int .i64 0, .int .i64 0, .int .i64 0, .int .i64 0, .int .i64 0, .int .i64 0, .int .i64 0, .int .i64 0, .int .i64 0, .int .i64 0, .int .i64 0, .int .i64 0, .int .i64 0, .bool false] 41))
  have HB2 := Aside0.mk (below_alloc HB1.out (.cells #[.int .u32 0, .int .i64 0, .int .u32 0, .slice none 0 0, .int .i64 0, .int .i64 0, .int .i64 0, .int .i64 0, .int .i64 0, .int .i64 0, .int .i64 0, .int .i64 0, .int .i64 0, .int .i64 0, .int .i64 0, .int .i64 0, .int .i64 0, .bool false] 41))
  clear hfit hl hr hb
  go_wp2_with (first
    | ((with_reducible refine gate_store (p := 1) (t := 41) rfl ?_); refine wpList_store_row rfl 41 (.tmp 1) (.tmp 3) rfl w1.heap.size (S0.cfg.cells A c) rfl rfl 41 #[.int .u32 0, .int .i64 0, .int .u32 0, .slice none 0 0, .int .i64 0, .int .i64 0, .int .i64 0, .int .i64 0, .int .i64 0, .int .i64 0, .int .i64 0, .int .i64 0, .int .i64 0, .int .i64 0, .int .i64 0, .int .i64 0, .int .i64 0, .bool false] HK2.out (by kernel_rfl) rfl (by rw [S0_lit]; simp [Value.oneCell']) ?_; (generalize hw2 : World.setRow _ _ _ = w2); have S2 : Aside0 (Below w.heap.size w w2 ∧ w2.heap[w1.heap.size]? = some (.cells #[.int .u32 167772160, .int .i64 24, .int .u32 167772161, .slice A 1 c, .int .i64 1024, .int .i64 1087, .int .i64 16, .int .i64 1, .int .i64 1, .int .i64 1, .int .i64 1, .int .i64 1, .int .i64 1, .int .i64 1, .int .i64 1, .int .i64 1, .int .i64 1, .bool false] 41 (0, 0)) ∧ w2.heap[w.heap.size]? = some (.cells #[.int .u32 0, .int .i64 0, .int .u32 0, .slice none 0 0, .int .i64 0, .int .i64 0, .int .i64 0, .int .i64 0, .int .i64 0, .int .i64 0, .int .i64 0, .int .i64 0, .int .i64 0, .int .i64 0, .int .i64 0, .int .i64 0, .int .i64 0, .bool false] 41 (0, 0))) := ⟨by subst hw2; exact ⟨below_setRow HB2.out (by omega) _, setRow_heap _ _ _ _ _ _ HK2.out, (setRow_other _ _ _ _ (by omega)).trans HK3.out⟩⟩; clear hw2; have a3 : (w2.alloc (.cells #[.int .u32 16909060] 38)).cell? ⟨w1.heap.size, 3, none⟩ = some (.slice A 1 c) := (blk_cell (blk_alloc S2.out.2.1 _) 3).trans rfl; have b3 : (w2.alloc (.cells #[.int .u32 16909060] 38)).frozen? ⟨w1.heap.size, 3, none⟩ = false := blk_frozen (blk_alloc S2.out.2.1 _) 3; have HX3 := blk_set (blk_alloc S2.out.2.1 (.cells #[.int .u32 16909060] 38)) 3 (.slice (some ⟨w2.heap.size, 0, none⟩) 1 1); have a10 : ((w2.alloc (.cells #[.int .u32 16909060] 38)).setCell ⟨w1.heap.size, 3, none⟩ (.slice (some ⟨w2.heap.size, 0, none⟩) 1 1)).cell? ⟨w1.heap.size, 10, none⟩ = some (.int .i64 1) := (blk_cell HX3 10).trans rfl; have b10 : ((w2.alloc (.cells #[.int .u32 16909060] 38)).setCell ⟨w1.heap.size, 3, none⟩ (.slice (some ⟨w2.heap.size, 0, none⟩) 1 1)).frozen? ⟨w1.heap.size, 10, none⟩ = false := blk_frozen HX3 10; clear HX3)
    | ((with_reducible refine gate_dst (N := 7) rfl ?_); refine wpList_load_row rfl 41 (.tmp 1) rfl w1.heap.size rfl 41 #[.int .u32 167772160, .int .i64 24, .int .u32 167772161, .slice (some ⟨w2.heap.size, 0, none⟩) 1 1, .int .i64 1024, .int .i64 1087, .int .i64 16, .int .i64 1, .int .i64 1, .int .i64 1, .int .i64 10, .int .i64 1, .int .i64 1, .int .i64 1, .int .i64 1, .int .i64 1, .int .i64 1, .bool false] (0, 0) _ (by simpa using blk_set (blk_set (blk_alloc S2.out.2.1 (.cells #[.int .u32 16909060] 38)) 3 (.slice (some ⟨w2.heap.size, 0, none⟩) 1 1)) 10 (.int .i64 10)) Try.underlying41 rfl (by kernel_rfl) ?_)
    | ((with_reducible refine gate_store (p := 0) (t := 41) rfl ?_); refine wpList_store_row rfl 41 (.tmp 0) (.tmp 7) rfl w.heap.size #[.int .u32 167772160, .int .i64 24, .int .u32 167772161, .slice (some ⟨w2.heap.size, 0, none⟩) 1 1, .int .i64 1024, .int .i64 1087, .int .i64 16, .int .i64 1, .int .i64 1, .int .i64 1, .int .i64 10, .int .i64 1, .int .i64 1, .int .i64 1, .int .i64 1, .int .i64 1, .int .i64 1, .bool false] rfl rfl 41 #[.int .u32 0, .int .i64 0, .int .u32 0, .slice none 0 0, .int .i64 0, .int .i64 0, .int .i64 0, .int .i64 0, .int .i64 0, .int .i64 0, .int .i64 0, .int .i64 0, .int .i64 0, .int .i64 0, .int .i64 0, .int .i64 0, .int .i64 0, .bool false] (blk_far (p := ⟨w1.heap.size, 10, none⟩) (blk_far (p := ⟨w1.heap.size, 3, none⟩) (blk_alloc S2.out.2.2 _) (by simp; omega) _) (by simp; omega) _) (by kernel_rfl) rfl (by simp [Value.oneCell']) ?_))
  refine bodyPost_ret (results_cell_row rfl _ _ w.heap.size 41 #[.int .u32 167772160, .int .i64 24, .int .u32 167772161, .slice (some ⟨w2.heap.size, 0, none⟩) 1 1, .int .i64 1024, .int .i64 1087, .int .i64 16, .int .i64 1, .int .i64 1, .int .i64 1, .int .i64 10, .int .i64 1, .int .i64 1, .int .i64 1, .int .i64 1, .int .i64 1, .int .i64 1, .bool false] (0, 0) _ rfl (setRow_heap _ _ _ _ _ _ (blk_far (p := ⟨w1.heap.size, 10, none⟩) (blk_far (p := ⟨w1.heap.size, 3, none⟩) (blk_alloc S2.out.2.2 _) (by simp; omega) _) (by simp; omega) _)) Try.underlying41 rfl (by kernel_rfl)) rfl ?_
  refine ⟨_, rfl, ⟨one_fits, some ⟨w2.heap.size, 0, none⟩, 1, rfl, Nat.le_refl _, ?_⟩, ?_⟩
  · refine Setup.C_lit [16909060] (by decide) (t := 38) ((setRow_other _ _ _ _ (by have := S2.out.1.size; have := blk_lt S2.out.2.2; omega)).trans (blk_far (p := ⟨w1.heap.size, 10, none⟩) (blk_far (p := ⟨w1.heap.size, 3, none⟩) (heap_alloc_new w2 _) (by have := blk_lt S2.out.2.1; simp; omega) _) (by have := blk_lt S2.out.2.1; simp; omega) _))
  · exact below_setRow (((below_alloc S2.out.1 _).setCell (p := ⟨w1.heap.size, 3, none⟩) (by show w.heap.size ≤ w1.heap.size; omega) _).setCell (p := ⟨w1.heap.size, 10, none⟩) (by show w.heap.size ≤ w1.heap.size; omega) _) (Nat.le_refl _) _
theorem one_chk : oneCfg.chk = 0 := by decide +kernel
theorem one_good : oneCfg.good = true := by unfold Cfg.good; rw [one_chk]; rfl
theorem one_count : oneCfg.count = 4 := by unfold Cfg.count; rw [one_good]; decide +kernel
set_option maxHeartbeats 1000000 in
theorem fresh_good (w : World) (cs : Array Value) (C : Cfg) (h : IsCfg w cs C) (hg : C.good = true) :
    Calls Try.prog 36 #[.agg cs] w fun e w' => ∃ g ga gs, e = .returned (.pointer (some ⟨g, 0, none⟩)) ∧ Below w.heap.size w w' ∧
      PoolSt w' g ga gs C.outer.length C.count.toNat C.hold (fun _ _ => m0) ∧ w.heap.size ≤ g ∧ w.heap.size ≤ ga ∧ ∀ j, j < C.outer.length → w.heap.size ≤ gs j := by
  have HC := Aside0.mk h
  have HK := Aside0.mk (heap_alloc_new w (.cells cs 41))
  clear h
  go_enter Try.func36, Try.ntmps36
  go_wp2_with (first
    | ((with_reducible refine gate_dst (N := 6) rfl ?_); refine wpList_load_row rfl 41 (.tmp 1) rfl w.heap.size rfl 41 cs (0, 0) _ HK.out Try.underlying41 rfl HC.out.info ?_))
  refine (pnew_good _ cs C (HC.out.below (below_alloc (Below.refl _ _) _)) hg).mono ?_
  rintro e w1 ⟨g, ga, gs, rfl, hb, hp, h1, h2, h3⟩
  have HB := Aside0.mk (below_then (below_alloc (Below.refl _ w) (.cells cs 41)) (by simp) hb)
  have HP := Aside0.mk hp
  have HS : Aside0 (w.heap.size ≤ g ∧ w.heap.size ≤ ga ∧ ∀ j, j < C.outer.length → w.heap.size ≤ gs j) := ⟨by simp at h1; omega, by simp at h2; omega, fun j hj => by have := h3 j hj; simp at this; omega⟩
  clear hb hp h1 h2 h3
  go_wp2
  go_ret
  exact ⟨g, ga, gs, rfl, HB.out, HP.out, HS.out⟩
def M0 : Nat → Nat → Blk := fun _ _ => m0
theorem fresh_one (w : World) (cs : Array Value) (h : IsCfg w cs oneCfg) :
    Calls Try.prog 36 #[.agg cs] w fun e w' => ∃ g ga gs, e = .returned (.pointer (some ⟨g, 0, none⟩)) ∧ Below w.heap.size w w' ∧ PoolSt w' g ga gs 1 4 10 M0 ∧ w.heap.size ≤ g ∧ w.heap.size ≤ ga ∧ ∀ j, j < 1 → w.heap.size ≤ gs j := by
  refine (fresh_good w cs oneCfg h one_good).mono ?_
  rintro e w' ⟨g, ga, gs, rfl, hb, hp, h1, h2, h3⟩
  rw [one_count] at hp
  exact ⟨g, ga, gs, rfl, hb, hp, h1, h2, h3⟩
theorem PoolChg.below {gs : Nat → Nat} {k n : Nat} {w0 w w' : World} (h : PoolChg gs k w w') (hb : Below n w0 w) (hn : n ≤ w.heap.size) (hl : ∀ i, i < k → n ≤ gs i) : Below n w0 w' :=
  (show Chg w w' _ from h).below hb hn (fun x ⟨i, hi, e⟩ => e ▸ hl i hi)
set_option maxHeartbeats 4000000 in
theorem awake15_calls (w : World) : Calls Try.prog 35 #[] w fun e w' => e = .returned (.bool true) ∧ Below w.heap.size w w' := by
  have HBS := Aside0.mk (Below.refl w.heap.size w)
  go_enter Try.func35, Try.ntmps35
  go_wp2_with fail
  refine (one_calls _).mono ?_
  rintro e wa ⟨cs, rfl, hc, hb⟩
  have HC := Aside0.mk hc
  have HBA := Aside0.mk (below_then HBS.out HBS.out.size hb)
  clear hc hb
  go_wp2_with fail
  refine (fresh_one _ cs HC.out).mono ?_
  rintro e w0 ⟨g, ga, gs, rfl, hb, hp, h1, h2, h3⟩
  have HB0 := Aside0.mk (below_then HBA.out HBA.out.size hb)
  have HP0 := Aside0.mk hp
  have HG : Aside0 (∀ i, i < 1 → w.heap.size ≤ gs i) := ⟨fun i hi => Nat.le_trans HBA.out.size (h3 i hi)⟩
  clear hb hp h1 h2 h3
  go_wp2_with fail
  refine (pick_calls _ g ga gs 1 4 10 M0 (-1) 0 none [] HP0.out rfl).mono ?_
  rintro e w1 ⟨he, _, hs⟩
  rw [show pkA 1 4 M0 (-1) 0 [] = 0 from by decide +kernel, show pkB 1 4 M0 (-1) 0 [] = 0 from by decide +kernel, show pkErr 1 4 M0 (-1) 0 = 0 from by decide +kernel] at he
  subst he
  have HP1 := Aside0.mk (HP0.out.below hs)
  have HB1 := Aside0.mk (below_then HB0.out HB0.out.size hs)
  clear hs
  go_wp2_with fail
  refine (give_calls _ g ga gs 1 4 10 M0 0 0 0 7 HP1.out).mono ?_
  rintro e w2 ⟨he, hp, hc⟩
  rw [show tkE 1 4 M0 0 0 0 = 0 from by decide +kernel] at he
  subst he
  have HP2 := Aside0.mk hp
  have HB2 := Aside0.mk (PoolChg.below hc HB1.out HB1.out.size HG.out)
  clear hp hc
  go_wp2_with fail
  refine (pick_calls _ g ga gs 1 4 10 (tkM 1 4 M0 0 0 0 1 7) 0 0 none [] HP2.out rfl).mono ?_
  rintro e w3 ⟨he, _, hs⟩
  rw [show pkA 1 4 (tkM 1 4 M0 0 0 0 1 7) 0 0 [] = 0 from by decide +kernel, show pkB 1 4 (tkM 1 4 M0 0 0 0 1 7) 0 0 [] = 1 from by decide +kernel, show pkErr 1 4 (tkM 1 4 M0 0 0 0 1 7) 0 0 = 0 from by decide +kernel] at he
  subst he
  have HP3 := Aside0.mk (HP2.out.below hs)
  have HB3 := Aside0.mk (below_then HB2.out HB2.out.size hs)
  clear hs
  go_wp2
  go_ret
  exact ⟨rfl, HB3.out⟩
set_option maxHeartbeats 4000000 in
theorem known15_calls (w : World) : Calls Try.prog 10 #[] w fun e w' => e = .returned (.bool true) ∧ Below w.heap.size w w' := by
  go_enter Try.func10, Try.ntmps10
  go_wp2_with fail
  refine (awake15_calls _).mono ?_
  rintro e ws ⟨rfl, hb⟩
  have HBS := Aside0.mk hb
  clear hb
  go_wp2_with fail
  refine (one_calls _).mono ?_
  rintro e wa ⟨cs, rfl, hc, hb⟩
  have HC := Aside0.mk hc
  have HBA := Aside0.mk (below_then HBS.out HBS.out.size hb)
  clear hc hb
  go_wp2_with fail
  refine (fresh_one _ cs HC.out).mono ?_
  rintro e w0 ⟨g, ga, gs, rfl, hb, hp, h1, h2, h3⟩
  have HB0 := Aside0.mk (below_then HBA.out HBA.out.size hb)
  have HP0 := Aside0.mk hp
  have HG : Aside0 (∀ i, i < 1 → w.heap.size ≤ gs i) := ⟨fun i hi => Nat.le_trans HBA.out.size (h3 i hi)⟩
  clear hb hp h1 h2 h3
  go_wp2_with fail
  refine (give_calls _ g ga gs 1 4 10 M0 0 0 0 7 HP0.out).mono ?_
  rintro e w1 ⟨he, hp, hc⟩
  rw [show tkE 1 4 M0 0 0 0 = 0 from by decide +kernel] at he
  subst he
  have HP1 := Aside0.mk hp
  have HB1 := Aside0.mk (PoolChg.below hc HB0.out HB0.out.size HG.out)
  clear hp hc
  go_wp2_with fail
  refine (back_calls _ g ga gs 1 4 10 (tkM 1 4 M0 0 0 0 1 7) 0 0 5 HP1.out).mono ?_
  rintro e w2 ⟨he, hp, hc⟩
  rw [show bkE 1 4 (tkM 1 4 M0 0 0 0 1 7) 0 0 5 = 0 from by decide +kernel] at he
  subst he
  have HP2 := Aside0.mk hp
  have HB2 := Aside0.mk (PoolChg.below hc HB1.out HB1.out.size HG.out)
  clear hp hc
  go_wp2_with fail
  refine (pick_calls _ g ga gs 1 4 10 (bkM 1 4 10 (tkM 1 4 M0 0 0 0 1 7) 0 0 5) 0 14 none [] HP2.out rfl).mono ?_
  rintro e w3 ⟨he, _, hs⟩
  rw [show pkA 1 4 (bkM 1 4 10 (tkM 1 4 M0 0 0 0 1 7) 0 0 5) 0 14 [] = 0 from by decide +kernel, show pkB 1 4 (bkM 1 4 10 (tkM 1 4 M0 0 0 0 1 7) 0 0 5) 0 14 [] = 1 from by decide +kernel, show pkErr 1 4 (bkM 1 4 10 (tkM 1 4 M0 0 0 0 1 7) 0 0 5) 0 14 = 0 from by decide +kernel] at he
  subst he
  have HP3 := Aside0.mk (HP2.out.below hs)
  have HB3 := Aside0.mk (below_then HB2.out HB2.out.size hs)
  clear hs
  go_wp2_with fail
  refine (pick_calls _ g ga gs 1 4 10 (bkM 1 4 10 (tkM 1 4 M0 0 0 0 1 7) 0 0 5) 0 15 none [] HP3.out rfl).mono ?_
  rintro e w4 ⟨he, _, hs⟩
  rw [show pkA 1 4 (bkM 1 4 10 (tkM 1 4 M0 0 0 0 1 7) 0 0 5) 0 15 [] = 0 from by decide +kernel, show pkB 1 4 (bkM 1 4 10 (tkM 1 4 M0 0 0 0 1 7) 0 0 5) 0 15 [] = 0 from by decide +kernel, show pkErr 1 4 (bkM 1 4 10 (tkM 1 4 M0 0 0 0 1 7) 0 0 5) 0 15 = 0 from by decide +kernel] at he
  subst he
  have HP4 := Aside0.mk (HP3.out.below hs)
  have HB4 := Aside0.mk (below_then HB3.out HB3.out.size hs)
  clear hs
  go_wp2_with fail
  refine (back_calls _ g ga gs 1 4 10 (bkM 1 4 10 (tkM 1 4 M0 0 0 0 1 7) 0 0 5) 0 0 5 HP4.out).mono ?_
  rintro e w5 ⟨he, hp, hc⟩
  rw [show bkE 1 4 (bkM 1 4 10 (tkM 1 4 M0 0 0 0 1 7) 0 0 5) 0 0 5 = 9 from by decide +kernel] at he
  subst he
  have HP5 := Aside0.mk hp
  have HB5 := Aside0.mk (PoolChg.below hc HB4.out HB4.out.size HG.out)
  clear hp hc
  go_wp2_with fail
  refine (give_calls _ g ga gs 1 4 10 (bkM 1 4 10 (bkM 1 4 10 (tkM 1 4 M0 0 0 0 1 7) 0 0 5) 0 0 5) 0 9 5 7 HP5.out).mono ?_
  rintro e w6 ⟨he, hp, hc⟩
  rw [show tkE 1 4 (bkM 1 4 10 (bkM 1 4 10 (tkM 1 4 M0 0 0 0 1 7) 0 0 5) 0 0 5) 0 9 5 = 1 from by decide +kernel] at he
  subst he
  have HP6 := Aside0.mk hp
  have HB6 := Aside0.mk (PoolChg.below hc HB5.out HB5.out.size HG.out)
  clear hp hc
  go_wp2_with fail
  refine (give_calls _ g ga gs 1 4 10 (tkM 1 4 (bkM 1 4 10 (bkM 1 4 10 (tkM 1 4 M0 0 0 0 1 7) 0 0 5) 0 0 5) 0 9 5 1 7) 0 0 14 7 HP6.out).mono ?_
  rintro e w7 ⟨he, hp, hc⟩
  rw [show tkE 1 4 (tkM 1 4 (bkM 1 4 10 (bkM 1 4 10 (tkM 1 4 M0 0 0 0 1 7) 0 0 5) 0 0 5) 0 9 5 1 7) 0 0 14 = 10 from by decide +kernel] at he
  subst he
  have HP7 := Aside0.mk hp
  have HB7 := Aside0.mk (PoolChg.below hc HB6.out HB6.out.size HG.out)
  clear hp hc
  go_wp2
  go_ret
  exact ⟨rfl, HB7.out⟩
end Go.Proofs.Ytoapbppjkidgiaa.Pool
