/- Setup6: chapter 14's example configuration. No condition. -/
import Derived.Test.YtoapbppjkidgiaaSetup5
namespace Go.Proofs.Ytoapbppjkidgiaa.Setup
open Go.RowKit Go.Proofs.YtoapbppjkidgiaaW.PrintWords Go.Proofs.YtoapbppjkidgiaaW.PrintLast Go.Proofs.YtoapbppjkidgiaaW.PrintMore Tape
set_option linter.unusedVariables false
set_option linter.unusedSimpArgs false
theorem exec_load_row {P : Program} {o : Oper} {ρ : Operand → Value} {w : World} (ty : TypeId) (x : Operand) (ho : o.op = .load ty x)
    (g : Nat) (hx : ρ x = .pointer (some ⟨g, 0, none⟩)) (t : TypeId) (cs : Array Value) (fr : Nat × Nat) (d : TypeDesc) (hg : w.heap[g]? = some (.cells cs t fr))
    (hu : P.underlying ty = some d) (hd : (match d with | .struct _ | .array _ _ => true | _ => false) = true) (hi : (P.info? ty).map (·.size) = some cs.size) :
    Sem.run P (execOp ρ o) w = .ok (.value (.agg cs)) w := by
  unfold execOp
  simp only [ho, hx, Instr.loadAt, Instr.sureAddr, Sem.run_bind, Sem.run_pure, Result.andThen_ok, run_loadVar_row w g t ty cs fr d hg hu hd hi]
def S0 : Shp := { outside := 0, count := 3, blocks := 0, maps := 0, flows := 0, hold := 0, udp := 0, icmp := 0, opn := 0, trans := 0, least := 0, most := 0, third := false }
theorem S0_fits : S0.Fits := by constructor <;> (unfold u8 S0; decide)
/-- the example. -/
def plainCfg : Cfg := { S0.cfg with outer := [16909060] }
theorem C_lit {k : IntKind} {w : World} {g : Nat} {t : TypeId} (xs : List Int) (hx : xs.length ≤ 9223372036854775807) (h : w.heap[g]? = some (.cells (xs.map (Value.int k)).toArray t (0, 0))) :
    Kd.C (Kd.int k) w (some ⟨g, 0, none⟩) xs.length xs := by
  refine ⟨rfl, hx, fun hn => ⟨_, rfl, fun j p hj => ⟨[.int k p], rfl, rfl, fun i u hu => ?_⟩⟩⟩
  have hi : i = 0 := by
    have := (List.getElem?_eq_some_iff.1 hu).1
    simp at this
    exact this
  subst hi
  obtain rfl : .int k p = u := by simpa using hu
  have e : j * (Kd.int k).sz + 0 = j := by show j * 1 + 0 = j; omega
  rw [e, show (⟨g, 0, none⟩ : Addr).add j = ⟨g, j, none⟩ from by unfold Addr.add; split <;> simp_all, blk_cell h]
  simp [hj]
theorem plain_fits : plainCfg.Fits := by
  have h := cfg_fits S0 S0_fits
  exact { h with outer := by intro x hx; obtain rfl : x = 16909060 := by simpa [plainCfg] using hx
                             unfold u32; omega }
theorem S0_lit (A : Option Addr) (c : Nat) : S0.cfg.cells A c = #[.int .u32 167772160, .int .i64 24, .int .u32 167772161, .slice A 1 c, .int .i64 1024, .int .i64 1087, .int .i64 16, .int .i64 1, .int .i64 1, .int .i64 1, .int .i64 1, .int .i64 1, .int .i64 1, .int .i64 1, .int .i64 1, .int .i64 1, .int .i64 1, .bool false] := rfl
set_option maxHeartbeats 8000000 in
set_option maxRecDepth 100000 in
theorem plain_calls (w : World) :
    Calls Try.prog 24 #[] w fun e w' => ∃ cs, e = .returned (.agg cs) ∧ IsCfg w' cs plainCfg ∧ Below w.heap.size w w' := by
  have HK0 := Aside0.mk (heap_alloc_new w (.cells #[.int .u32 0, .int .i64 0, .int .u32 0, .slice none 0 0, .int .i64 0, .int .i64 0, .int .i64 0, .int .i64 0, .int .i64 0, .int .i64 0, .int .i64 0, .int .i64 0, .int .i64 0, .int .i64 0, .int .i64 0, .int .i64 0, .int .i64 0, .bool false] 41))
  have HB0 := Aside0.mk (below_alloc (Below.refl _ w) (.cells #[.int .u32 0, .int .i64 0, .int .u32 0, .slice none 0 0, .int .i64 0, .int .i64 0, .int .i64 0, .int .i64 0, .int .i64 0, .int .i64 0, .int .i64 0, .int .i64 0, .int .i64 0, .int .i64 0, .int .i64 0, .int .i64 0, .int .i64 0, .bool false] 41))
  go_enter Try.func24, Try.ntmps24
  go_wp2_with fail
  refine (config_calls _ S0 S0_fits).mono ?_
  rintro e w1 ⟨cs, rfl, hcfg, hb⟩
  obtain ⟨hfit, A, c, rfl, hl, hr⟩ := hcfg
  have HB1 := Aside0.mk (below_then HB0.out (by simp) hb)
  have HK1 := Aside0.mk (blk_below HK0.out hb)
  have hg1 : w.heap.size < w1.heap.size := blk_lt HK1.out
  have HK2 := Aside0.mk (heap_alloc_new w1 (.cells #[.int .u32 0, .int .i64 0, .int .u32 0, .slice none 0 0, .int .i64 0, .int .i64 0, .int .i64 0, .int .i64 0, .int .i64 0, .int .i64 0, .int .i64 0, .int .i64 0, .int .i64 0, .int .i64 0, .int .i64 0, .int .i64 0, .int .i64 0, .bool false] 41))
  have HK3 := Aside0.mk (blk_alloc HK1.out (.cells #[.int .u32 0, .int .i64 0, .int .u32 0, .slice none 0 0, .int .i64 0, .int .i64 0, .int .i64 0, .int .i64 0, .int .i64 0, .int .i64 0, .int .i64 0, .int .i64 0, .int .i64 0, .int .i64 0, .int .i64 0, .int .i64 0, .int .i64 0, .bool false] 41))
  have HB2 := Aside0.mk (below_alloc HB1.out (.cells #[.int .u32 0, .int .i64 0, .int .u32 0, .slice none 0 0, .int .i64 0, .int .i64 0, .int .i64 0, .int .i64 0, .int .i64 0, .int .i64 0, .int .i64 0, .int .i64 0, .int .i64 0, .int .i64 0, .int .i64 0, .int .i64 0, .int .i64 0, .bool false] 41))
  clear hfit hl hr hb
  go_wp2_with (first
    | ((with_reducible refine gate_store (p := 1) (t := 41) rfl ?_); refine wpList_store_row rfl 41 (.tmp 1) (.tmp 3) rfl w1.heap.size (S0.cfg.cells A c) rfl rfl 41 #[.int .u32 0, .int .i64 0, .int .u32 0, .slice none 0 0, .int .i64 0, .int .i64 0, .int .i64 0, .int .i64 0, .int .i64 0, .int .i64 0, .int .i64 0, .int .i64 0, .int .i64 0, .int .i64 0, .int .i64 0, .int .i64 0, .int .i64 0, .bool false] HK2.out (by kernel_rfl) rfl (by rw [S0_lit]; simp [Value.oneCell']) ?_; (generalize hw2 : World.setRow _ _ _ = w2); have S2 : Aside0 (Below w.heap.size w w2 ∧ w2.heap[w1.heap.size]? = some (.cells #[.int .u32 167772160, .int .i64 24, .int .u32 167772161, .slice A 1 c, .int .i64 1024, .int .i64 1087, .int .i64 16, .int .i64 1, .int .i64 1, .int .i64 1, .int .i64 1, .int .i64 1, .int .i64 1, .int .i64 1, .int .i64 1, .int .i64 1, .int .i64 1, .bool false] 41 (0, 0)) ∧ w2.heap[w.heap.size]? = some (.cells #[.int .u32 0, .int .i64 0, .int .u32 0, .slice none 0 0, .int .i64 0, .int .i64 0, .int .i64 0, .int .i64 0, .int .i64 0, .int .i64 0, .int .i64 0, .int .i64 0, .int .i64 0, .int .i64 0, .int .i64 0, .int .i64 0, .int .i64 0, .bool false] 41 (0, 0))) := ⟨by subst hw2; exact ⟨below_setRow HB2.out (by omega) _, setRow_heap _ _ _ _ _ _ HK2.out, (setRow_other _ _ _ _ (by omega)).trans HK3.out⟩⟩; clear hw2; have a3 : (w2.alloc (.cells #[.int .u32 16909060] 38)).cell? ⟨w1.heap.size, 3, none⟩ = some (.slice A 1 c) := (blk_cell (blk_alloc S2.out.2.1 _) 3).trans rfl; have b3 : (w2.alloc (.cells #[.int .u32 16909060] 38)).frozen? ⟨w1.heap.size, 3, none⟩ = false := blk_frozen (blk_alloc S2.out.2.1 _) 3)
    | ((with_reducible refine gate_dst (N := 6) rfl ?_); refine wpList_load_row rfl 41 (.tmp 1) rfl w1.heap.size rfl 41 #[.int .u32 167772160, .int .i64 24, .int .u32 167772161, .slice (some ⟨w2.heap.size, 0, none⟩) 1 1, .int .i64 1024, .int .i64 1087, .int .i64 16, .int .i64 1, .int .i64 1, .int .i64 1, .int .i64 1, .int .i64 1, .int .i64 1, .int .i64 1, .int .i64 1, .int .i64 1, .int .i64 1, .bool false] (0, 0) _ (by simpa using blk_set (blk_alloc S2.out.2.1 (.cells #[.int .u32 16909060] 38)) 3 (.slice (some ⟨w2.heap.size, 0, none⟩) 1 1)) Try.underlying41 rfl (by kernel_rfl) ?_)
    | ((with_reducible refine gate_store (p := 0) (t := 41) rfl ?_); refine wpList_store_row rfl 41 (.tmp 0) (.tmp 6) rfl w.heap.size #[.int .u32 167772160, .int .i64 24, .int .u32 167772161, .slice (some ⟨w2.heap.size, 0, none⟩) 1 1, .int .i64 1024, .int .i64 1087, .int .i64 16, .int .i64 1, .int .i64 1, .int .i64 1, .int .i64 1, .int .i64 1, .int .i64 1, .int .i64 1, .int .i64 1, .int .i64 1, .int .i64 1, .bool false] rfl rfl 41 #[.int .u32 0, .int .i64 0, .int .u32 0, .slice none 0 0, .int .i64 0, .int .i64 0, .int .i64 0, .int .i64 0, .int .i64 0, .int .i64 0, .int .i64 0, .int .i64 0, .int .i64 0, .int .i64 0, .int .i64 0, .int .i64 0, .int .i64 0, .bool false] (blk_far (blk_alloc S2.out.2.2 _) (by simp; omega) _) (by kernel_rfl) rfl (by simp [Value.oneCell']) ?_))
  refine bodyPost_ret (results_cell_row rfl _ _ w.heap.size 41 #[.int .u32 167772160, .int .i64 24, .int .u32 167772161, .slice (some ⟨w2.heap.size, 0, none⟩) 1 1, .int .i64 1024, .int .i64 1087, .int .i64 16, .int .i64 1, .int .i64 1, .int .i64 1, .int .i64 1, .int .i64 1, .int .i64 1, .int .i64 1, .int .i64 1, .int .i64 1, .int .i64 1, .bool false] (0, 0) _ rfl (setRow_heap _ _ _ _ _ _ (blk_far (blk_alloc S2.out.2.2 _) (by simp; omega) _)) Try.underlying41 rfl (by kernel_rfl)) rfl ?_
  refine ⟨_, rfl, ⟨plain_fits, some ⟨w2.heap.size, 0, none⟩, 1, rfl, Nat.le_refl _, ?_⟩, ?_⟩
  · refine C_lit [16909060] (by decide) (t := 38) ((setRow_other _ _ _ _ (by have := S2.out.1.size; have := blk_lt S2.out.2.2; omega)).trans (blk_far (heap_alloc_new w2 _) (by have := blk_lt S2.out.2.1; simp; omega) _))
  · exact below_setRow ((below_alloc S2.out.1 _).setCell (p := ⟨w1.heap.size, 3, none⟩) (by show w.heap.size ≤ w1.heap.size; omega) _) (Nat.le_refl _) _
theorem plain_chk : plainCfg.chk = 0 := by decide +kernel
theorem plain_good : plainCfg.good = true := by unfold Cfg.good; rw [plain_chk]; rfl
theorem plain_count : plainCfg.count = 4 := by unfold Cfg.count; rw [plain_good]; decide +kernel
set_option maxHeartbeats 2000000 in
theorem awake_calls (w : World) : Calls Try.prog 21 #[] w fun e w' => e = .returned (.bool true) ∧ Below w.heap.size w w' := by
  go_enter Try.func21, Try.ntmps21
  go_wp2_with fail
  refine (plain_calls _).mono ?_
  rintro e w1 ⟨cs, rfl, hc, hb⟩
  have HC1 := Aside0.mk hc
  have HB1 := Aside0.mk hb
  clear hc hb
  go_wp2_with fail
  refine (check_calls _ cs plainCfg HC1.out).mono ?_
  rintro e w2 ⟨he, hb⟩
  rw [plain_chk] at he
  obtain rfl : e = .returned (.tuple #[.int .i64 0, .int .i64 0]) := he
  have HB2 := Aside0.mk (below_then HB1.out HB1.out.size hb)
  clear hb
  go_wp2_with fail
  refine (plain_calls _).mono ?_
  rintro e w3 ⟨cs2, rfl, hc, hb⟩
  have HC3 := Aside0.mk hc
  have HB3 := Aside0.mk (below_then HB2.out HB2.out.size hb)
  clear hc hb
  go_wp2_with fail
  refine (count_calls _ cs2 plainCfg HC3.out).mono ?_
  rintro e w4 ⟨he, hb⟩
  rw [plain_count] at he
  subst he
  have HB4 := Aside0.mk (below_then HB3.out HB3.out.size hb)
  clear hb
  go_wp2
  go_ret
  exact ⟨rfl, HB4.out⟩
end Go.Proofs.Ytoapbppjkidgiaa.Setup
