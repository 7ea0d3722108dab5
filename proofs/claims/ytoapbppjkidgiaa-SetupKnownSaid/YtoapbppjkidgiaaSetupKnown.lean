/- SetupKnown: the walk of chapter 14's examples. No condition. -/
import Derived.Test.YtoapbppjkidgiaaSetup6
namespace Go.Proofs.Ytoapbppjkidgiaa.Setup
open Go.RowKit Go.Proofs.YtoapbppjkidgiaaW.PrintWords Go.Proofs.YtoapbppjkidgiaaW.PrintLast Go.Proofs.YtoapbppjkidgiaaW.PrintMore Tape
set_option linter.unusedVariables false
set_option linter.unusedSimpArgs false
set_option maxHeartbeats 8000000 in
set_option maxRecDepth 100000 in
theorem plain_new (w : World) :
    Calls Try.prog 24 #[] w fun e w' => ∃ n, e = .returned (.agg (plainCfg.cells (some ⟨n, 0, none⟩) 1)) ∧ w.heap.size ≤ n ∧ w'.heap[n]? = some (.cells #[.int .u32 16909060] 38 (0, 0)) ∧ Below w.heap.size w w' := by
  have HK0 := Aside0.mk (heap_alloc_new w (.cells #[.int .u32 0, .int .i64 0, .int .u32 0, .slice none 0 0, .int .i64 0, .int .i64 0, .int .i64 0, .int .i64 0, .int .i64 0, .int .i64 0, .int .i64 0, .int .i64 0, .int .i64 0, .int .i64 0, .int .i64 0, .int .i64 0, .int .i64 0, .bool false] 41))
  have HB0 := Aside0.mk (below_alloc (Below.refl _ w) (.cells #[.int .u32 0, .int .i64 0, .int .u32 0, .slice none 0 0, .int .i64 0, .int .i64 0, .int .i64 0, .int .i64 0, .int .i64 0, .int .i64 0, .int .i64 0, .int .i64 0, .int .i64 0, .int .i64 0, .int .i64 0, .int .i64 0, .int .i64 0, .bool false] 41))
  go_enter Try.func24, Try.ntmps24
  go_wp2_with fail
  refine (config_calls _ S0 S0_fits).mono ?_
  rintro e w1 ⟨cs, rfl, hcfg, hb⟩
  obtain ⟨hfit, A, c, rfl, hl, hr⟩ := hcfg
  have HB1 := Aside0.mk (below_then HB0.out (by simp) hb)
  have HK1 := Aside0.mk (blk_below HK0.out hb)
  have hg1 : w.heap.size < w1.heap.size := blk_lt HK1.out
  have HK2 := Aside0.mk (heap_alloc_new w1 (.cells #[.int .u32 0, .int .i64 0, .int .u32 0, .slice none 0 0, .int .i64 0, .int .i64 0, .int .i64 0, .int .i64 0, .int .i64 0, .int .i64 0, .int .i64 0, .int .i64 0, .int .i64 0, .int .i64 0, .int .i64 0, .int .i64 0, .int .i64 0, .bool false] 41))
  have HK3 := Aside0.mk (blk_alloc HK1.out (.cells #[.int .u32 0, .int .i64 0, .int .u32 0, .slice none 0 0, .int .i64 0, .int .i64 0, .int .i64 0, .int .i64 0, .int .i64 0, .int .i64 0, .int .i64 0, .int .i64 0, .int .i64 0, .int .i64 0, .int .i64 0, .int .i64 0, .int .i64 0, .bool false] 41))
  have HB2 := Aside0.mk (below_alloc HB1.out (.cells #[.int .u32 0, .int .i64 0, .int .u32 0, .slice none 0 0, .int .i64 0, .int .i64 0, .int .i64 0, .int .i64 0, .int .i64 0, .int .i64 0, .int .i64 0, .int .i64 0, .int .i64 0, .int .i64 0, .int .i64 0, .int .i64 0, .int .i64 0, .bool false] 41))
  clear hfit hl hr hb
  go_wp2_with (first
    | ((with_reducible refine gate_store (p := 1) (t := 41) rfl ?_); refine wpList_store_row rfl 41 (.tmp 1) (.tmp 3) rfl w1.heap.size (S0.cfg.cells A c) rfl rfl 41 #[.int .u32 0, .int .i64 0, .int .u32 0, .slice none 0 0, .int .i64 0, .int .i64 0, .int .i64 0, .int .i64 0, .int .i64 0, .int .i64 0, .int .i64 0, .int .i64 0, .int .i64 0, .int .i64 0, .int .i64 0, .int .i64 0, .int .i64 0, .bool false] HK2.out (by kernel_rfl) rfl (by rw [S0_lit]; simp [Value.oneCell']) ?_; (generalize hw2 : World.setRow _ _ _ = w2); have S2 : Aside0 (Below w.heap.size w w2 ∧ w2.heap[w1.heap.size]? = some (.cells #[.int .u32 167772160, .int .i64 24, .int .u32 167772161, .slice A 1 c, .int .i64 1024, .int .i64 1087, .int .i64 16, .int .i64 1, .int .i64 1, .int .i64 1, .int .i64 1, .int .i64 1, .int .i64 1, .int .i64 1, .int .i64 1, .int .i64 1, .int .i64 1, .bool false] 41 (0, 0)) ∧ w2.heap[w.heap.size]? = some (.cells #[.int .u32 0, .int .i64 0, .int .u32 0, .slice none 0 0, .int .i64 0, .int .i64 0, .int .i64 0, .int .i64 0, .int .i64 0, .int .i64 0, .int .i64 0, .int .i64 0, .int .i64 0, .int .i64 0, .int .i64 0, .int .i64 0, .int .i64 0, .bool false] 41 (0, 0))) := ⟨by subst hw2; exact ⟨below_setRow HB2.out (by omega) _, setRow_heap _ _ _ _ _ _ HK2.out, (setRow_other _ _ _ _ (by omega)).trans HK3.out⟩⟩; clear hw2; have a3 : (w2.alloc (.cells #[.int .u32 16909060] 38)).cell? ⟨w1.heap.size, 3, none⟩ = some (.slice A 1 c) := (blk_cell (blk_alloc S2.out.2.1 _) 3).trans rfl; have b3 : (w2.alloc (.cells #[.int .u32 16909060] 38)).frozen? ⟨w1.heap.size, 3, none⟩ = false := blk_frozen (blk_alloc S2.out.2.1 _) 3)
    | ((with_reducible refine gate_dst (N := 6) rfl ?_); refine wpList_load_row rfl 41 (.tmp 1) rfl w1.heap.size rfl 41 #[.int .u32 167772160, .int .i64 24, .int .u32 167772161, .slice (some ⟨w2.heap.size, 0, none⟩) 1 1, .int .i64 1024, .int .i64 1087, .int .i64 16, .int .i64 1, .int .i64 1, .int .i64 1, .int .i64 1, .int .i64 1, .int .i64 1, .int .i64 1, .int .i64 1, .int .i64 1, .int .i64 1, .bool false] (0, 0) _ (by simpa using blk_set (blk_alloc S2.out.2.1 (.cells #[.int .u32 16909060] 38)) 3 (.slice (some ⟨w2.heap.size, 0, none⟩) 1 1)) Try.underlying41 rfl (by kernel_rfl) ?_)
    | ((with_reducible refine gate_store (p := 0) (t := 41) rfl ?_); refine wpList_store_row rfl 41 (.tmp 0) (.tmp 6) rfl w.heap.size #[.int .u32 167772160, .int .i64 24, .int .u32 167772161, .slice (some ⟨w2.heap.size, 0, none⟩) 1 1, .int .i64 1024, .int .i64 1087, .int .i64 16, .int .i64 1, .int .i64 1, .int .i64 1, .int .i64 1, .int .i64 1, .int .i64 1, .int .i64 1, .int .i64 1, .int .i64 1, .int .i64 1, .bool false] rfl rfl 41 #[.int .u32 0, .int .i64 0, .int .u32 0, .slice none 0 0, .int .i64 0, .int .i64 0, .int .i64 0, .int .i64 0, .int .i64 0, .int .i64 0, .int .i64 0, .int .i64 0, .int .i64 0, .int .i64 0, .int .i64 0, .int .i64 0, .int .i64 0, .bool false] (blk_far (blk_alloc S2.out.2.2 _) (by simp; omega) _) (by kernel_rfl) rfl (by simp [Value.oneCell']) ?_))
  refine bodyPost_ret (results_cell_row rfl _ _ w.heap.size 41 #[.int .u32 167772160, .int .i64 24, .int .u32 167772161, .slice (some ⟨w2.heap.size, 0, none⟩) 1 1, .int .i64 1024, .int .i64 1087, .int .i64 16, .int .i64 1, .int .i64 1, .int .i64 1, .int .i64 1, .int .i64 1, .int .i64 1, .int .i64 1, .int .i64 1, .int .i64 1, .int .i64 1, .bool false] (0, 0) _ rfl (setRow_heap _ _ _ _ _ _ (blk_far (blk_alloc S2.out.2.2 _) (by simp; omega) _)) Try.underlying41 rfl (by kernel_rfl)) rfl ?_
  refine ⟨w2.heap.size, rfl, S2.out.1.size, ?_, ?_⟩
  · exact (setRow_other _ _ _ _ (by have := S2.out.1.size; have := blk_lt S2.out.2.2; omega)).trans (blk_far (heap_alloc_new w2 _) (by have := blk_lt S2.out.2.1; simp; omega) _)
  · exact below_setRow ((below_alloc S2.out.1 _).setCell (p := ⟨w1.heap.size, 3, none⟩) (by show w.heap.size ≤ w1.heap.size; omega) _) (Nat.le_refl _) _
theorem cfg_of_block {w : World} {n : Nat} {C : Cfg} (hf : C.Fits) (ho : C.outer = [16909060]) (hn : w.heap[n]? = some (.cells #[.int .u32 16909060] 38 (0, 0))) : IsCfg w (C.cells (some ⟨n, 0, none⟩) 1) C :=
  ⟨hf, some ⟨n, 0, none⟩, 1, rfl, by rw [ho]; decide, by rw [ho]; exact C_lit [16909060] (by decide) (t := 38) hn⟩
def farServer : Cfg := { plainCfg with server := 167772417 }
def oddHigh : Cfg := { plainCfg with high := 1086 }
def noHold : Cfg := { plainCfg with hold := 0 }
theorem far_set (A : Option Addr) (c : Nat) : (plainCfg.cells A c).setIfInBounds 2 (.int .u32 167772417) = farServer.cells A c := rfl
theorem odd_set (A : Option Addr) (c : Nat) : (plainCfg.cells A c).setIfInBounds 5 (.int .i64 1086) = oddHigh.cells A c := rfl
theorem no_set (A : Option Addr) (c : Nat) : (plainCfg.cells A c).setIfInBounds 10 (.int .i64 0) = noHold.cells A c := rfl
theorem far_fits : farServer.Fits := { plain_fits with server := by unfold u32 farServer; decide }
theorem odd_fits : oddHigh.Fits := { plain_fits with high := by unfold i64 oddHigh; decide }
theorem no_fits : noHold.Fits := { plain_fits with hold := by unfold i64 noHold; decide }
theorem far_chk : farServer.chk = 2 := by decide +kernel
theorem odd_chk : oddHigh.chk = 5 := by decide +kernel
theorem no_chk : noHold.chk = 7 := by decide +kernel
theorem block_a : plainCfg.blockOf 1039 = 0 ∧ plainCfg.inPort 1039 = true := by constructor <;> decide +kernel
theorem block_b : plainCfg.blockOf 1040 = 1 ∧ plainCfg.inPort 1040 = true := by constructor <;> decide +kernel
theorem block_c : plainCfg.blockOf 1088 = 0 ∧ plainCfg.inPort 1088 = false := by constructor <;> decide +kernel
theorem first_a : plainCfg.firstOf 3 = 1072 ∧ plainCfg.inBlock 3 = true := by constructor <;> decide +kernel
theorem first_b : plainCfg.firstOf 4 = 0 ∧ plainCfg.inBlock 4 = false := by constructor <;> decide +kernel
set_option maxHeartbeats 8000000 in
set_option maxRecDepth 100000 in
theorem known_calls (w : World) : Calls Try.prog 7 #[] w fun e w' => e = .returned (.bool true) ∧ Below w.heap.size w w' := by
  go_enter Try.func7, Try.ntmps7
  go_wp2_with fail
  refine (awake_calls _).mono ?_
  rintro e w0 ⟨rfl, hb⟩
  have HB0 := Aside0.mk hb
  clear hb
  go_wp2_with fail
  refine (plain_new _).mono ?_
  rintro e w1 ⟨n1, rfl, hn, hc, hb⟩
  have hg0 : w.heap.size ≤ w1.heap.size := Nat.le_trans HB0.out.size hb.size
  have hn1 : n1 < w1.heap.size := blk_lt hc
  have HK1 := Aside0.mk (heap_alloc_new w1 (.cells #[.int .u32 0, .int .i64 0, .int .u32 0, .slice none 0 0, .int .i64 0, .int .i64 0, .int .i64 0, .int .i64 0, .int .i64 0, .int .i64 0, .int .i64 0, .int .i64 0, .int .i64 0, .int .i64 0, .int .i64 0, .int .i64 0, .int .i64 0, .bool false] 41))
  have HN1 := Aside0.mk (blk_alloc hc (.cells #[.int .u32 0, .int .i64 0, .int .u32 0, .slice none 0 0, .int .i64 0, .int .i64 0, .int .i64 0, .int .i64 0, .int .i64 0, .int .i64 0, .int .i64 0, .int .i64 0, .int .i64 0, .int .i64 0, .int .i64 0, .int .i64 0, .int .i64 0, .bool false] 41))
  have HB1 := Aside0.mk (below_alloc (below_then HB0.out HB0.out.size hb) (.cells #[.int .u32 0, .int .i64 0, .int .u32 0, .slice none 0 0, .int .i64 0, .int .i64 0, .int .i64 0, .int .i64 0, .int .i64 0, .int .i64 0, .int .i64 0, .int .i64 0, .int .i64 0, .int .i64 0, .int .i64 0, .int .i64 0, .int .i64 0, .bool false] 41))
  clear hb hc hn
  go_wp2_with (first
    | ((with_reducible refine gate_store (p := 1) (t := 41) rfl ?_); refine wpList_store_row rfl 41 (.tmp 1) (.tmp 20) rfl w1.heap.size (plainCfg.cells (some ⟨n1, 0, none⟩) 1) rfl rfl 41 #[.int .u32 0, .int .i64 0, .int .u32 0, .slice none 0 0, .int .i64 0, .int .i64 0, .int .i64 0, .int .i64 0, .int .i64 0, .int .i64 0, .int .i64 0, .int .i64 0, .int .i64 0, .int .i64 0, .int .i64 0, .int .i64 0, .int .i64 0, .bool false] HK1.out (by kernel_rfl) rfl (by unfold Cfg.cells; simp [Value.oneCell']) ?_; (generalize hw : World.setRow _ _ _ = wa0); have Swa0 : Aside0 (Below w.heap.size w wa0 ∧ wa0.heap[w1.heap.size]? = some (.cells (plainCfg.cells (some ⟨n1, 0, none⟩) 1) 41 (0, 0)) ∧ wa0.heap[n1]? = some (.cells #[.int .u32 16909060] 38 (0, 0))) := ⟨by subst hw; exact ⟨below_setRow HB1.out hg0 _, setRow_heap _ _ _ _ _ _ HK1.out, (setRow_other _ _ _ _ (by omega)).trans HN1.out⟩⟩; clear hw; have d0 : wa0.cell? ⟨w1.heap.size, 2, none⟩ = some (.int .u32 167772161) := (blk_cell Swa0.out.2.1 2).trans rfl; have f0 := blk_frozen Swa0.out.2.1 2; have L0 := (blk_set Swa0.out.2.1 2 (.int .u32 167772417)).trans (congrArg some (congrArg (fun x => Obj.cells x 41 (0, 0)) (far_set (some ⟨n1, 0, none⟩) 1))))
    | ((with_reducible refine gate_dst (N := 23) rfl ?_); refine wpList_load_row rfl 41 (.tmp 1) rfl w1.heap.size rfl 41 (farServer.cells (some ⟨n1, 0, none⟩) 1) (0, 0) _ L0 Try.underlying41 rfl (by kernel_rfl) ?_))
  have N0 : Aside0 (wa0.heap[n1]? ≠ none ∧ n1 ≠ w1.heap.size) := ⟨by rw [Swa0.out.2.2]; simp, by omega⟩
  refine (check_calls _ _ farServer (cfg_of_block far_fits rfl ((Below.heap_setCell wa0 ⟨w1.heap.size, 2, none⟩ (.int .u32 167772417) n1 N0.out.2).trans Swa0.out.2.2))).mono ?_
  rintro e wb0 ⟨he, hb⟩
  rw [far_chk] at he
  obtain rfl : e = .returned (.tuple #[.int .i64 2, .int .i64 1]) := he
  have HBwb0 := Aside0.mk (below_then (Swa0.out.1.setCell (p := ⟨w1.heap.size, 2, none⟩) hg0 (.int .u32 167772417)) (Swa0.out.1.setCell (p := ⟨w1.heap.size, 2, none⟩) hg0 (.int .u32 167772417)).size hb)
  have HKwb0 := Aside0.mk (blk_below (blk_set Swa0.out.2.1 2 (.int .u32 167772417)) hb)
  have hlt0 : w1.heap.size < wb0.heap.size := blk_lt HKwb0.out
  clear hb d0 f0 L0
  go_wp2_with fail
  refine (plain_new _).mono ?_
  rintro e wc0 ⟨n2, rfl, hn, hc, hb⟩
  have hm0 : w1.heap.size < n2 := by omega
  have HBc0 := Aside0.mk (below_then HBwb0.out HBwb0.out.size hb)
  have HKc0 := Aside0.mk (blk_below HKwb0.out hb)
  have HNc0 := Aside0.mk hc
  clear hb hc hn
  go_wp2_with (first
    | ((with_reducible refine gate_store (p := 1) (t := 41) rfl ?_); refine wpList_store_row rfl 41 (.tmp 1) (.tmp 27) rfl w1.heap.size (plainCfg.cells (some ⟨n2, 0, none⟩) 1) rfl rfl 41 ((plainCfg.cells (some ⟨n1, 0, none⟩) 1).setIfInBounds 2 (.int .u32 167772417)) HKc0.out (by kernel_rfl) rfl (by unfold Cfg.cells; simp [Value.oneCell']) ?_; (generalize hw : World.setRow _ _ _ = wa1); have Swa1 : Aside0 (Below w.heap.size w wa1 ∧ wa1.heap[w1.heap.size]? = some (.cells (plainCfg.cells (some ⟨n2, 0, none⟩) 1) 41 (0, 0)) ∧ wa1.heap[n2]? = some (.cells #[.int .u32 16909060] 38 (0, 0))) := ⟨by subst hw; exact ⟨below_setRow HBc0.out hg0 _, setRow_heap _ _ _ _ _ _ HKc0.out, (setRow_other _ _ _ _ (by omega)).trans HNc0.out⟩⟩; clear hw; have d1 : wa1.cell? ⟨w1.heap.size, 5, none⟩ = some (.int .i64 1087) := (blk_cell Swa1.out.2.1 5).trans rfl; have f1 := blk_frozen Swa1.out.2.1 5; have L1 := (blk_set Swa1.out.2.1 5 (.int .i64 1086)).trans (congrArg some (congrArg (fun x => Obj.cells x 41 (0, 0)) (odd_set (some ⟨n2, 0, none⟩) 1))))
    | ((with_reducible refine gate_dst (N := 30) rfl ?_); refine wpList_load_row rfl 41 (.tmp 1) rfl w1.heap.size rfl 41 (oddHigh.cells (some ⟨n2, 0, none⟩) 1) (0, 0) _ L1 Try.underlying41 rfl (by kernel_rfl) ?_))
  have N1 : Aside0 (wa1.heap[n2]? ≠ none ∧ n2 ≠ w1.heap.size) := ⟨by rw [Swa1.out.2.2]; simp, by omega⟩
  refine (check_calls _ _ oddHigh (cfg_of_block odd_fits rfl ((Below.heap_setCell wa1 ⟨w1.heap.size, 5, none⟩ (.int .i64 1086) n2 N1.out.2).trans Swa1.out.2.2))).mono ?_
  rintro e wb1 ⟨he, hb⟩
  rw [odd_chk] at he
  obtain rfl : e = .returned (.tuple #[.int .i64 5, .int .i64 1]) := he
  have HBwb1 := Aside0.mk (below_then (Swa1.out.1.setCell (p := ⟨w1.heap.size, 5, none⟩) hg0 (.int .i64 1086)) (Swa1.out.1.setCell (p := ⟨w1.heap.size, 5, none⟩) hg0 (.int .i64 1086)).size hb)
  have HKwb1 := Aside0.mk (blk_below (blk_set Swa1.out.2.1 5 (.int .i64 1086)) hb)
  have hlt1 : w1.heap.size < wb1.heap.size := blk_lt HKwb1.out
  clear hb d1 f1 L1
  go_wp2_with fail
  refine (plain_new _).mono ?_
  rintro e wc1 ⟨n3, rfl, hn, hc, hb⟩
  have hm1 : w1.heap.size < n3 := by omega
  have HBc1 := Aside0.mk (below_then HBwb1.out HBwb1.out.size hb)
  have HKc1 := Aside0.mk (blk_below HKwb1.out hb)
  have HNc1 := Aside0.mk hc
  clear hb hc hn
  go_wp2_with (first
    | ((with_reducible refine gate_store (p := 1) (t := 41) rfl ?_); refine wpList_store_row rfl 41 (.tmp 1) (.tmp 34) rfl w1.heap.size (plainCfg.cells (some ⟨n3, 0, none⟩) 1) rfl rfl 41 ((plainCfg.cells (some ⟨n2, 0, none⟩) 1).setIfInBounds 5 (.int .i64 1086)) HKc1.out (by kernel_rfl) rfl (by unfold Cfg.cells; simp [Value.oneCell']) ?_; (generalize hw : World.setRow _ _ _ = wa2); have Swa2 : Aside0 (Below w.heap.size w wa2 ∧ wa2.heap[w1.heap.size]? = some (.cells (plainCfg.cells (some ⟨n3, 0, none⟩) 1) 41 (0, 0)) ∧ wa2.heap[n3]? = some (.cells #[.int .u32 16909060] 38 (0, 0))) := ⟨by subst hw; exact ⟨below_setRow HBc1.out hg0 _, setRow_heap _ _ _ _ _ _ HKc1.out, (setRow_other _ _ _ _ (by omega)).trans HNc1.out⟩⟩; clear hw; have d2 : wa2.cell? ⟨w1.heap.size, 10, none⟩ = some (.int .i64 1) := (blk_cell Swa2.out.2.1 10).trans rfl; have f2 := blk_frozen Swa2.out.2.1 10; have L2 := (blk_set Swa2.out.2.1 10 (.int .i64 0)).trans (congrArg some (congrArg (fun x => Obj.cells x 41 (0, 0)) (no_set (some ⟨n3, 0, none⟩) 1))))
    | ((with_reducible refine gate_dst (N := 37) rfl ?_); refine wpList_load_row rfl 41 (.tmp 1) rfl w1.heap.size rfl 41 (noHold.cells (some ⟨n3, 0, none⟩) 1) (0, 0) _ L2 Try.underlying41 rfl (by kernel_rfl) ?_))
  have N2 : Aside0 (wa2.heap[n3]? ≠ none ∧ n3 ≠ w1.heap.size) := ⟨by rw [Swa2.out.2.2]; simp, by omega⟩
  refine (check_calls _ _ noHold (cfg_of_block no_fits rfl ((Below.heap_setCell wa2 ⟨w1.heap.size, 10, none⟩ (.int .i64 0) n3 N2.out.2).trans Swa2.out.2.2))).mono ?_
  rintro e wb2 ⟨he, hb⟩
  rw [no_chk] at he
  obtain rfl : e = .returned (.tuple #[.int .i64 7, .int .i64 1]) := he
  have HBwb2 := Aside0.mk (below_then (Swa2.out.1.setCell (p := ⟨w1.heap.size, 10, none⟩) hg0 (.int .i64 0)) (Swa2.out.1.setCell (p := ⟨w1.heap.size, 10, none⟩) hg0 (.int .i64 0)).size hb)
  have HKwb2 := Aside0.mk (blk_below (blk_set Swa2.out.2.1 10 (.int .i64 0)) hb)
  have hlt2 : w1.heap.size < wb2.heap.size := blk_lt HKwb2.out
  clear hb d2 f2 L2
  go_wp2_with fail
  refine (plain_new _).mono ?_
  rintro e wc2 ⟨n4, rfl, hn, hc, hb⟩
  have hm2 : w1.heap.size < n4 := by omega
  have HBc2 := Aside0.mk (below_then HBwb2.out HBwb2.out.size hb)
  have HKc2 := Aside0.mk (blk_below HKwb2.out hb)
  have HNc2 := Aside0.mk hc
  clear hb hc hn
  go_wp2_with (first
    | ((with_reducible refine gate_store (p := 1) (t := 41) rfl ?_); refine wpList_store_row rfl 41 (.tmp 1) (.tmp 41) rfl w1.heap.size (plainCfg.cells (some ⟨n4, 0, none⟩) 1) rfl rfl 41 ((plainCfg.cells (some ⟨n3, 0, none⟩) 1).setIfInBounds 10 (.int .i64 0)) HKc2.out (by kernel_rfl) rfl (by unfold Cfg.cells; simp [Value.oneCell']) ?_; (generalize hw : World.setRow _ _ _ = wd); have Swd : Aside0 (Below w.heap.size w wd ∧ wd.heap[w1.heap.size]? = some (.cells (plainCfg.cells (some ⟨n4, 0, none⟩) 1) 41 (0, 0)) ∧ wd.heap[n4]? = some (.cells #[.int .u32 16909060] 38 (0, 0))) := ⟨by subst hw; exact ⟨below_setRow HBc2.out hg0 _, setRow_heap _ _ _ _ _ _ HKc2.out, (setRow_other _ _ _ _ (by omega)).trans HNc2.out⟩⟩; clear hw)
    | ((with_reducible refine gate_dst (N := 43) rfl ?_); refine wpList_load_row rfl 41 (.tmp 1) rfl w1.heap.size rfl 41 (plainCfg.cells (some ⟨n4, 0, none⟩) 1) (0, 0) _ Swd.out.2.1 Try.underlying41 rfl (by kernel_rfl) ?_))
  refine (block_calls _ _ plainCfg 1039 (cfg_of_block plain_fits rfl Swd.out.2.2) (by unfold i64; decide)).mono ?_
  rintro e we0 ⟨he, hb⟩
  rw [block_a.1, block_a.2] at he
  obtain rfl : e = .returned (.tuple #[.int .i64 0, .bool true]) := he
  have E0 : Aside0 (Below w.heap.size w we0 ∧ we0.heap[w1.heap.size]? = some (.cells (plainCfg.cells (some ⟨n4, 0, none⟩) 1) 41 (0, 0)) ∧ we0.heap[n4]? = some (.cells #[.int .u32 16909060] 38 (0, 0))) := ⟨below_then Swd.out.1 (Swd.out.1).size hb, blk_below (Swd.out.2.1) hb, blk_below (Swd.out.2.2) hb⟩
  clear hb
  go_wp2_with (first
    | ((with_reducible refine gate_dst (N := 48) rfl ?_); refine wpList_load_row rfl 41 (.tmp 1) rfl w1.heap.size rfl 41 (plainCfg.cells (some ⟨n4, 0, none⟩) 1) (0, 0) _ E0.out.2.1 Try.underlying41 rfl (by kernel_rfl) ?_))
  refine (block_calls _ _ plainCfg 1040 (cfg_of_block plain_fits rfl E0.out.2.2) (by unfold i64; decide)).mono ?_
  rintro e we1 ⟨he, hb⟩
  rw [block_b.1, block_b.2] at he
  obtain rfl : e = .returned (.tuple #[.int .i64 1, .bool true]) := he
  have E1 : Aside0 (Below w.heap.size w we1 ∧ we1.heap[w1.heap.size]? = some (.cells (plainCfg.cells (some ⟨n4, 0, none⟩) 1) 41 (0, 0)) ∧ we1.heap[n4]? = some (.cells #[.int .u32 16909060] 38 (0, 0))) := ⟨below_then E0.out.1 (E0.out.1).size hb, blk_below (E0.out.2.1) hb, blk_below (E0.out.2.2) hb⟩
  clear hb
  go_wp2_with (first
    | ((with_reducible refine gate_dst (N := 53) rfl ?_); refine wpList_load_row rfl 41 (.tmp 1) rfl w1.heap.size rfl 41 (plainCfg.cells (some ⟨n4, 0, none⟩) 1) (0, 0) _ E1.out.2.1 Try.underlying41 rfl (by kernel_rfl) ?_))
  refine (block_calls _ _ plainCfg 1088 (cfg_of_block plain_fits rfl E1.out.2.2) (by unfold i64; decide)).mono ?_
  rintro e we2 ⟨he, hb⟩
  rw [block_c.1, block_c.2] at he
  obtain rfl : e = .returned (.tuple #[.int .i64 0, .bool false]) := he
  have E2 : Aside0 (Below w.heap.size w we2 ∧ we2.heap[w1.heap.size]? = some (.cells (plainCfg.cells (some ⟨n4, 0, none⟩) 1) 41 (0, 0)) ∧ we2.heap[n4]? = some (.cells #[.int .u32 16909060] 38 (0, 0))) := ⟨below_then E1.out.1 (E1.out.1).size hb, blk_below (E1.out.2.1) hb, blk_below (E1.out.2.2) hb⟩
  clear hb
  go_wp2_with (first
    | ((with_reducible refine gate_dst (N := 58) rfl ?_); refine wpList_load_row rfl 41 (.tmp 1) rfl w1.heap.size rfl 41 (plainCfg.cells (some ⟨n4, 0, none⟩) 1) (0, 0) _ E2.out.2.1 Try.underlying41 rfl (by kernel_rfl) ?_))
  refine (first_calls _ _ plainCfg 3 (cfg_of_block plain_fits rfl E2.out.2.2)).mono ?_
  rintro e we3 ⟨he, hb⟩
  rw [first_a.1, first_a.2] at he
  obtain rfl : e = .returned (.tuple #[.int .i64 1072, .bool true]) := he
  have E3 : Aside0 (Below w.heap.size w we3 ∧ we3.heap[w1.heap.size]? = some (.cells (plainCfg.cells (some ⟨n4, 0, none⟩) 1) 41 (0, 0)) ∧ we3.heap[n4]? = some (.cells #[.int .u32 16909060] 38 (0, 0))) := ⟨below_then E2.out.1 (E2.out.1).size hb, blk_below (E2.out.2.1) hb, blk_below (E2.out.2.2) hb⟩
  clear hb
  go_wp2_with (first
    | ((with_reducible refine gate_dst (N := 63) rfl ?_); refine wpList_load_row rfl 41 (.tmp 1) rfl w1.heap.size rfl 41 (plainCfg.cells (some ⟨n4, 0, none⟩) 1) (0, 0) _ E3.out.2.1 Try.underlying41 rfl (by kernel_rfl) ?_))
  refine (first_calls _ _ plainCfg 4 (cfg_of_block plain_fits rfl E3.out.2.2)).mono ?_
  rintro e we4 ⟨he, hb⟩
  rw [first_b.1, first_b.2] at he
  obtain rfl : e = .returned (.tuple #[.int .i64 0, .bool false]) := he
  have E4 : Aside0 (Below w.heap.size w we4 ∧ we4.heap[w1.heap.size]? = some (.cells (plainCfg.cells (some ⟨n4, 0, none⟩) 1) 41 (0, 0)) ∧ we4.heap[n4]? = some (.cells #[.int .u32 16909060] 38 (0, 0))) := ⟨below_then E3.out.1 (E3.out.1).size hb, blk_below (E3.out.2.1) hb, blk_below (E3.out.2.2) hb⟩
  clear hb
  go_wp2
  go_ret
  exact ⟨rfl, E4.out.1⟩
end Go.Proofs.Ytoapbppjkidgiaa.Setup
