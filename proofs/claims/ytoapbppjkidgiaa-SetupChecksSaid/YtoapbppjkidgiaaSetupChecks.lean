/- SetupChecks: the walk of the law. Conditions: the configuration's cells are as api.Config says. -/
import Derived.Test.YtoapbppjkidgiaaRef14Check
namespace Go.Proofs.Ytoapbppjkidgiaa.Setup
open Go.RowKit Go.Proofs.YtoapbppjkidgiaaW.PrintWords Go.Proofs.YtoapbppjkidgiaaW.PrintLast Go.Proofs.YtoapbppjkidgiaaW.PrintMore Tape
set_option linter.unusedVariables false
set_option linter.unusedSimpArgs false
set_option maxHeartbeats 4000000 in
theorem checks_calls (w : World) (cs : Array Value) (C : Cfg) (h : IsCfg w cs C) :
    Calls Try.prog 6 #[.agg cs] w fun e w' => e = .returned (.bool true) ∧ Below w.heap.size w w' := by
  have HC := Aside0.mk h
  have HK := Aside0.mk (heap_alloc_new w (.cells cs 41))
  have HB := Aside0.mk (below_alloc (Below.refl _ w) (.cells cs 41))
  obtain ⟨hfit, A, c, hcs, hlc, hrd⟩ := h
  have HCS := Aside0.mk hcs
  have hlm : C.outer.length ≤ 9223372036854775807 := hrd.2.1
  clear hfit hrd hcs
  go_enter Try.func6, Try.ntmps6
  go_wp2_with fail
  refine (awake_calls _).mono ?_
  rintro e w1 ⟨rfl, hb⟩
  have HB1 := Aside0.mk (below_then HB.out (by simp) hb)
  have HK1 := Aside0.mk (blk_below HK.out hb)
  have k3 : w1.cell? ⟨w.heap.size, 3, none⟩ = some (.slice A C.outer.length c) := (blk_cell HK1.out 3).trans (by rw [HCS.out]; rfl)
  clear hb
  by_cases hlen : (1000 : Int) < C.outer.length
  · go_wp2_with fail
    go_ret
    exact ⟨rfl, HB1.out⟩
  · go_wp2_with (first
      | ((with_reducible refine gate_dst (N := 13) rfl ?_); refine wpList_load_row rfl 41 (.tmp 1) rfl w.heap.size rfl 41 cs (0, 0) _ HK1.out Try.underlying41 rfl HC.out.info ?_))
    refine (check_calls _ cs C (HC.out.below HB1.out)).mono ?_
    rintro e w2 ⟨rfl, hb⟩
    have HB2 := Aside0.mk (below_then HB1.out HB1.out.size hb)
    have HK2 := Aside0.mk (blk_below HK1.out hb)
    clear hb k3
    go_wp2_with (first
      | ((with_reducible refine gate_dst (N := 17) rfl ?_); refine wpList_load_row rfl 41 (.tmp 1) rfl w.heap.size rfl 41 cs (0, 0) _ HK2.out Try.underlying41 rfl HC.out.info ?_))
    refine (rcheck_calls _ cs C (HC.out.below HB2.out)).mono ?_
    rintro e w3 ⟨rfl, hb⟩
    have HB3 := Aside0.mk (below_then HB2.out HB2.out.size hb)
    clear hb
    generalize C.chk = z
    by_cases hz : z = 0
    · subst hz
      rw [show errOf 0 = 0 from rfl]
      go_wp2
      go_ret
      exact ⟨rfl, HB3.out⟩
    · rw [show errOf z = 1 from if_neg hz]
      have hz0 : (z == 0) = false := beq_eq_false_iff_ne.2 hz
      have hz1 : (z == z) = true := beq_self_eq_true z
      go_wp2
      go_ret
      exact ⟨rfl, HB3.out⟩
end Go.Proofs.Ytoapbppjkidgiaa.Setup
