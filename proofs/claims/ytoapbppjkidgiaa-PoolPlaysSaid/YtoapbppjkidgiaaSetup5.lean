/- Setup5: the configurations that the statements make of small numbers (package bailiwickplay's Config). Conditions: the small numbers are bytes. -/
import Derived.Test.YtoapbppjkidgiaaSetup4
import Derived.Laws.CopyOwn
namespace Go.Proofs.Ytoapbppjkidgiaa.Setup
open Go.RowKit Go.Proofs.YtoapbppjkidgiaaW.PrintWords Go.Proofs.YtoapbppjkidgiaaW.PrintLast Go.Proofs.YtoapbppjkidgiaaW.PrintMore Tape
set_option linter.unusedVariables false
set_option linter.unusedSimpArgs false
def upn (x n : Int) : Int := 1 + x % n
theorem upn_in (x n : Int) (hn : 0 < n) : 1 ≤ upn x n ∧ upn x n ≤ n := by
  unfold upn
  have := Int.emod_nonneg x (show n ≠ 0 by omega)
  have := Int.emod_lt_of_pos x hn
  omega
theorem up_calls (w : World) (x n : Int) (h0 : 0 ≤ x) (h1 : x ≤ 255) (n0 : 0 < n) (n1 : n ≤ 1000) :
    Calls Try.prog 73 #[.int .u8 x, .int .i64 n] w fun e w' => e = .returned (.int .i64 (upn x n)) ∧ w' = w := by
  have hne : ¬ n = 0 := by omega
  have hm0 : 0 ≤ x % n := Int.emod_nonneg x hne
  have hm1 : x % n < n := Int.emod_lt_of_pos x n0
  go_enter Try.func73, Try.ntmps73
  go_wp2
  go_ret
  exact ⟨rfl, rfl⟩
/-- small numbers that make a configuration. -/
structure Shp where
  outside : Int
  count : Int
  blocks : Int
  maps : Int
  flows : Int
  hold : Int
  udp : Int
  icmp : Int
  opn : Int
  trans : Int
  least : Int
  most : Int
  third : Bool
def u8 (x : Int) : Prop := 0 ≤ x ∧ x ≤ 255
structure Shp.Fits (S : Shp) : Prop where
  outside : u8 S.outside
  count : u8 S.count
  blocks : u8 S.blocks
  maps : u8 S.maps
  flows : u8 S.flows
  hold : u8 S.hold
  udp : u8 S.udp
  icmp : u8 S.icmp
  opn : u8 S.opn
  trans : u8 S.trans
  least : u8 S.least
  most : u8 S.most
def Shp.cells (S : Shp) : Array Value := #[.int .u8 S.outside, .int .u8 S.count, .int .u8 S.blocks, .int .u8 S.maps, .int .u8 S.flows, .int .u8 S.hold, .int .u8 S.udp, .int .u8 S.icmp, .int .u8 S.opn, .int .u8 S.trans, .int .u8 S.least, .int .u8 S.most, .bool S.third]
def addrs (n : Nat) : List Int := (List.range n).map fun (i : Nat) => 16909060 + (i : Int)
theorem addrs_succ (n : Nat) : addrs (n + 1) = addrs n ++ [16909060 + (n : Int)] := by unfold addrs; rw [List.range_succ]; simp
theorem addrs_len (n : Nat) : (addrs n).length = n := by simp [addrs]
def Shp.cfg (S : Shp) : Cfg :=
  { inside := 167772160, bits := 24, server := 167772161, outer := addrs (upn S.outside 3).toNat, low := 1024, high := 1023 + 16 * upn S.count 4, block := 16, blocks := upn S.blocks 3, maps := upn S.maps 24, flows := upn S.flows 24, hold := upn S.hold 9, udp := upn S.udp 20, icmp := upn S.icmp 20, opn := upn S.opn 60, trans := upn S.trans 20, minlife := upn S.least 9, maxlife := upn S.least 9 + S.most % 50, third := S.third }
theorem setRow_other (w : World) (g k : Nat) (cs : Array Value) (h : k ≠ g) : (w.setRow g cs).heap[k]? = w.heap[k]? := by
  unfold World.setRow
  simp only [Array.getElem?_modify]
  rw [if_neg (Ne.symm h)]
theorem new_third (w : World) (a b : Obj) (c : Array Value) : (((w.alloc a).alloc b).alloc (.cells c 41)).heap[w.heap.size + 1 + 1]? = some (.cells c 41 (0, 0)) := by
  have := heap_alloc_new ((w.alloc a).alloc b) (.cells c 41)
  simpa using this
theorem addrs_u32 (n : Nat) (hn : n ≤ 3) : ∀ x ∈ addrs n, u32 x := by
  intro x hx
  obtain ⟨i, hi, rfl⟩ := List.mem_map.1 hx
  have := List.mem_range.1 hi
  unfold u32
  omega
theorem cfg_fits (S : Shp) (h : S.Fits) : S.cfg.Fits := by
  have u0 := upn_in S.outside 3 (by decide)
  have u_count := upn_in S.count 4 (by decide)
  have u_blocks := upn_in S.blocks 3 (by decide)
  have u_maps := upn_in S.maps 24 (by decide)
  have u_flows := upn_in S.flows 24 (by decide)
  have u_hold := upn_in S.hold 9 (by decide)
  have u_udp := upn_in S.udp 20 (by decide)
  have u_icmp := upn_in S.icmp 20 (by decide)
  have u_opn := upn_in S.opn 60 (by decide)
  have u_trans := upn_in S.trans 20 (by decide)
  have u_least := upn_in S.least 9 (by decide)
  have m0 : 0 ≤ S.most % 50 := Int.emod_nonneg _ (by decide)
  have m1 : S.most % 50 < 50 := Int.emod_lt_of_pos _ (by decide)
  constructor
  all_goals first
    | exact addrs_u32 _ (by omega)
    | (simp only [Shp.cfg, u32, i64]; omega)
theorem cfg_made (S : Shp) (hS : S.Fits) (k : Nat) (hk : (k : Int) = upn S.outside 3) {w w' : World} {base g2 c : Nat} {v : Value} {A : Option Addr} {z : Array Value} (hr : Kd.R (Kd.int .u32) 38 w base (fun _ => True) v (addrs k)) (hv : v = .slice A (addrs k).length c) (hl : (addrs k).length ≤ c)
    (hg : w.heap[g2]? = some (.cells z 41 (0, 0))) (ho : ∀ j, j ≠ g2 → w'.heap[j]? = w.heap[j]?) :
    IsCfg w' #[.int .u32 167772160, .int .i64 24, .int .u32 167772161, v, .int .i64 1024, .int .i64 (1023 + 16 * upn S.count 4), .int .i64 16, .int .i64 (upn S.blocks 3), .int .i64 (upn S.maps 24), .int .i64 (upn S.flows 24), .int .i64 (upn S.hold 9), .int .i64 (upn S.udp 20), .int .i64 (upn S.icmp 20), .int .i64 (upn S.opn 60), .int .i64 (upn S.trans 20), .int .i64 (upn S.least 9), .int .i64 (upn S.least 9 + S.most % 50), .bool S.third] S.cfg := by
  subst hv
  have hk2 : (upn S.outside 3).toNat = k := by omega
  have he : S.cfg.outer = addrs k := by show addrs (upn S.outside 3).toNat = _; rw [hk2]
  refine ⟨cfg_fits S hS, A, c, ?_, by rw [he]; exact hl, ?_⟩
  · unfold Cfg.cells
    rw [he]
    rfl
  · rw [he]
    refine C_move (Kd.R_reads' hr).2.2 (fun ad ha hn => ho _ (fun e => ?_))
    subst ha
    obtain ⟨g, rfl⟩ := Kd.R_head hr
    exact Kd.R_ne hr hg (by decide) (by rw [← e]; rfl)
theorem Try.info38 : (Try.prog.info? 38).map (fun i => (i.zero, i.size, i.bytes)) = some (some (.int .u32 0), 1, 4) := by kernel_rfl
set_option maxHeartbeats 8000000 in
set_option maxRecDepth 100000 in
theorem config_calls (w : World) (S : Shp) (hS : S.Fits) :
    Calls Try.prog 41 #[.agg S.cells] w fun e w' => ∃ cs, e = .returned (.agg cs) ∧ IsCfg w' cs S.cfg ∧ Below w.heap.size w w' := by
  have HS := Aside0.mk hS
  have boutside := hS.outside
  unfold u8 at boutside
  have bcount := hS.count
  unfold u8 at bcount
  have bblocks := hS.blocks
  unfold u8 at bblocks
  have bmaps := hS.maps
  unfold u8 at bmaps
  have bflows := hS.flows
  unfold u8 at bflows
  have bhold := hS.hold
  unfold u8 at bhold
  have budp := hS.udp
  unfold u8 at budp
  have bicmp := hS.icmp
  unfold u8 at bicmp
  have bopn := hS.opn
  unfold u8 at bopn
  have btrans := hS.trans
  unfold u8 at btrans
  have bleast := hS.least
  unfold u8 at bleast
  have bmost := hS.most
  unfold u8 at bmost
  clear hS
  have HK := Aside0.mk (heap_alloc_new w (.cells S.cells 60))
  have u0 := upn_in S.outside 3 (by decide)
  have u_count := upn_in S.count 4 (by decide)
  have u_blocks := upn_in S.blocks 3 (by decide)
  have u_maps := upn_in S.maps 24 (by decide)
  have u_flows := upn_in S.flows 24 (by decide)
  have u_hold := upn_in S.hold 9 (by decide)
  have u_udp := upn_in S.udp 20 (by decide)
  have u_icmp := upn_in S.icmp 20 (by decide)
  have u_opn := upn_in S.opn 60 (by decide)
  have u_trans := upn_in S.trans 20 (by decide)
  have u_least := upn_in S.least 9 (by decide)
  have m0 : 0 ≤ S.most % 50 := Int.emod_nonneg _ (by decide)
  have m1 : S.most % 50 < 50 := Int.emod_lt_of_pos _ (by decide)
  obtain ⟨u01, u02⟩ := u0
  obtain ⟨u1_count, u2_count⟩ := u_count
  obtain ⟨u1_blocks, u2_blocks⟩ := u_blocks
  obtain ⟨u1_maps, u2_maps⟩ := u_maps
  obtain ⟨u1_flows, u2_flows⟩ := u_flows
  obtain ⟨u1_hold, u2_hold⟩ := u_hold
  obtain ⟨u1_udp, u2_udp⟩ := u_udp
  obtain ⟨u1_icmp, u2_icmp⟩ := u_icmp
  obtain ⟨u1_opn, u2_opn⟩ := u_opn
  obtain ⟨u1_trans, u2_trans⟩ := u_trans
  obtain ⟨u1_least, u2_least⟩ := u_least
  have k12 : ((w.alloc (.cells S.cells 60)).alloc (.cells #[.int .u32 0, .int .i64 0, .int .u32 0, .slice none 0 0, .int .i64 0, .int .i64 0, .int .i64 0, .int .i64 0, .int .i64 0, .int .i64 0, .int .i64 0, .int .i64 0, .int .i64 0, .int .i64 0, .int .i64 0, .int .i64 0, .int .i64 0, .bool false] 41)).cell? ⟨w.heap.size, 12, none⟩ = some (.bool S.third) := (blk_cell (blk_alloc HK.out _) 12).trans rfl
  have HK3 : Aside0 ((((w.alloc (.cells S.cells 60)).alloc (.cells #[.int .u32 0, .int .i64 0, .int .u32 0, .slice none 0 0, .int .i64 0, .int .i64 0, .int .i64 0, .int .i64 0, .int .i64 0, .int .i64 0, .int .i64 0, .int .i64 0, .int .i64 0, .int .i64 0, .int .i64 0, .int .i64 0, .int .i64 0, .bool false] 41)).alloc (.cells #[.int .u32 0, .int .i64 0, .int .u32 0, .slice none 0 0, .int .i64 0, .int .i64 0, .int .i64 0, .int .i64 0, .int .i64 0, .int .i64 0, .int .i64 0, .int .i64 0, .int .i64 0, .int .i64 0, .int .i64 0, .int .i64 0, .int .i64 0, .bool false] 41)).heap[w.heap.size + 1 + 1]? = some (.cells #[.int .u32 0, .int .i64 0, .int .u32 0, .slice none 0 0, .int .i64 0, .int .i64 0, .int .i64 0, .int .i64 0, .int .i64 0, .int .i64 0, .int .i64 0, .int .i64 0, .int .i64 0, .int .i64 0, .int .i64 0, .int .i64 0, .int .i64 0, .bool false] 41 (0, 0))) := ⟨new_third w _ _ _⟩
  have HK2 := Aside0.mk (blk_alloc (heap_alloc_new (w.alloc (.cells S.cells 60)) (.cells #[.int .u32 0, .int .i64 0, .int .u32 0, .slice none 0 0, .int .i64 0, .int .i64 0, .int .i64 0, .int .i64 0, .int .i64 0, .int .i64 0, .int .i64 0, .int .i64 0, .int .i64 0, .int .i64 0, .int .i64 0, .int .i64 0, .int .i64 0, .bool false] 41)) (.cells #[.int .u32 0, .int .i64 0, .int .u32 0, .slice none 0 0, .int .i64 0, .int .i64 0, .int .i64 0, .int .i64 0, .int .i64 0, .int .i64 0, .int .i64 0, .int .i64 0, .int .i64 0, .int .i64 0, .int .i64 0, .int .i64 0, .int .i64 0, .bool false] 41))
  have HK1 := Aside0.mk (blk_alloc (blk_alloc HK.out (.cells #[.int .u32 0, .int .i64 0, .int .u32 0, .slice none 0 0, .int .i64 0, .int .i64 0, .int .i64 0, .int .i64 0, .int .i64 0, .int .i64 0, .int .i64 0, .int .i64 0, .int .i64 0, .int .i64 0, .int .i64 0, .int .i64 0, .int .i64 0, .bool false] 41)) (.cells #[.int .u32 0, .int .i64 0, .int .u32 0, .slice none 0 0, .int .i64 0, .int .i64 0, .int .i64 0, .int .i64 0, .int .i64 0, .int .i64 0, .int .i64 0, .int .i64 0, .int .i64 0, .int .i64 0, .int .i64 0, .int .i64 0, .int .i64 0, .bool false] 41))
  go_enter Try.func41, Try.ntmps41
  go_wp2_with (first
    | ((with_reducible refine gate_store (p := 3) (t := 41) rfl ?_); refine wpList_store_row rfl 41 (.tmp 3) (.tmp 7) rfl (w.heap.size + 1 + 1) #[.int .u32 167772160, .int .i64 24, .int .u32 167772161, .slice none 0 0, .int .i64 1024, .int .i64 0, .int .i64 16, .int .i64 0, .int .i64 0, .int .i64 0, .int .i64 0, .int .i64 0, .int .i64 0, .int .i64 0, .int .i64 0, .int .i64 0, .int .i64 0, .bool S.third] rfl rfl 41 #[.int .u32 0, .int .i64 0, .int .u32 0, .slice none 0 0, .int .i64 0, .int .i64 0, .int .i64 0, .int .i64 0, .int .i64 0, .int .i64 0, .int .i64 0, .int .i64 0, .int .i64 0, .int .i64 0, .int .i64 0, .int .i64 0, .int .i64 0, .bool false] HK3.out (by kernel_rfl) rfl (by simp [Value.oneCell']) ?_))
  generalize hw3 : World.setRow _ _ _ = w3
  have S3 : Aside0 (Below w.heap.size w w3 ∧ w3.heap[w.heap.size]? = some (.cells S.cells 60 (0, 0)) ∧ w3.heap[w.heap.size + 1 + 1]? = some (.cells #[.int .u32 167772160, .int .i64 24, .int .u32 167772161, .slice none 0 0, .int .i64 1024, .int .i64 0, .int .i64 16, .int .i64 0, .int .i64 0, .int .i64 0, .int .i64 0, .int .i64 0, .int .i64 0, .int .i64 0, .int .i64 0, .int .i64 0, .int .i64 0, .bool S.third] 41 (0, 0)) ∧ w3.heap[w.heap.size + 1]? = some (.cells #[.int .u32 0, .int .i64 0, .int .u32 0, .slice none 0 0, .int .i64 0, .int .i64 0, .int .i64 0, .int .i64 0, .int .i64 0, .int .i64 0, .int .i64 0, .int .i64 0, .int .i64 0, .int .i64 0, .int .i64 0, .int .i64 0, .int .i64 0, .bool false] 41 (0, 0)) ∧ Kd.R (Kd.int .u32) 38 w3 w.heap.size (fun _ => True) (.slice none 0 0) []) := by
    subst hw3
    refine ⟨below_setRow (below_alloc (below_alloc (below_alloc (Below.refl _ w) _) _) _) (by omega) _, (setRow_other _ _ _ _ (by omega)).trans HK1.out, setRow_heap _ _ _ _ _ _ HK3.out, (setRow_other _ _ _ _ (by omega)).trans ?_, Kd.R_nil _ _ _ _ _⟩
    have := HK2.out
    simpa using this
  have ne13 : w.heap.size ≠ w.heap.size + 1 + 1 := by omega
  have ne23 : w.heap.size + 1 ≠ w.heap.size + 1 + 1 := by omega
  have lo3 : w.heap.size ≤ w.heap.size + 1 + 1 := by omega
  have lo2 : w.heap.size ≤ w.heap.size + 1 := by omega
  obtain ⟨g1, hg1⟩ : ∃ g, g = w.heap.size := ⟨_, rfl⟩
  obtain ⟨g2, hg2⟩ : ∃ g, g = w.heap.size + 1 := ⟨_, rfl⟩
  obtain ⟨g3, hg3⟩ : ∃ g, g = w.heap.size + 1 + 1 := ⟨_, rfl⟩
  have lo1 : w.heap.size ≤ w.heap.size := Nat.le_refl _
  have hbase : w.heap.size + 1 + 1 < w3.heap.size := blk_lt S3.out.2.2.1
  rw [← hg3, ← hg2] at S3 ne23
  rw [← hg3] at ne13 lo3 hbase
  rw [← hg2] at lo2
  rw [← hg3, ← hg2]
  clear hw3 HK1 HK2 HK3 HK k12 hg2 hg3
  go_loopw [4] (fun i wr => ∃ (k : Nat) (v : Value), i = .int .i64 k ∧ (k : Int) ≤ upn S.outside 3 ∧ (Below w.heap.size w wr ∧ wr.heap[w.heap.size]? = some (.cells S.cells 60 (0, 0)) ∧ wr.heap[g3]? = some (.cells #[.int .u32 167772160, .int .i64 24, .int .u32 167772161, v, .int .i64 1024, .int .i64 0, .int .i64 16, .int .i64 0, .int .i64 0, .int .i64 0, .int .i64 0, .int .i64 0, .int .i64 0, .int .i64 0, .int .i64 0, .int .i64 0, .int .i64 0, .bool S.third] 41 (0, 0)) ∧ wr.heap[g2]? = some (.cells #[.int .u32 0, .int .i64 0, .int .u32 0, .slice none 0 0, .int .i64 0, .int .i64 0, .int .i64 0, .int .i64 0, .int .i64 0, .int .i64 0, .int .i64 0, .int .i64 0, .int .i64 0, .int .i64 0, .int .i64 0, .int .i64 0, .int .i64 0, .bool false] 41 (0, 0)) ∧ Kd.R (Kd.int .u32) 38 wr w.heap.size (fun _ => True) v (addrs k))) (fun i _ => 3 - (intOf i).toNat)
  case atStart => exact ⟨0, _, rfl, by omega, S3.out⟩
  case round =>
    obtain ⟨k, v, rfl, hk, hst⟩ := hrel
    have ST := Aside0.mk hst
    clear hst S3
    have hbo : 0 ≤ S.outside := boutside.1
    have k0 : wr.cell? ⟨w.heap.size, 0, none⟩ = some (.int .u8 S.outside) := (blk_cell ST.out.2.1 0).trans rfl
    by_cases hkl : (k : Int) < upn S.outside 3
    · have k3 : wr.cell? ⟨g3, 3, none⟩ = some v := (blk_cell ST.out.2.2.1 3).trans rfl
      have hk3 : k < 3 := by omega
      have hkb : (k : Int) < 3 := by omega
      have NE3 := Aside0.mk (Kd.R_ne ST.out.2.2.2.2 ST.out.2.2.1 (by decide))
      have NE2 := Aside0.mk (Kd.R_ne ST.out.2.2.2.2 ST.out.2.2.2.1 (by decide))
      have NE1 := Aside0.mk (Kd.R_ne ST.out.2.2.2.2 ST.out.2.1 (by decide))
      go_wp2_with (first
        | (go_at_call 73; refine (up_calls _ S.outside 3 boutside.1 boutside.2 (by decide) (by decide)).mono ?_; rintro e w' ⟨rfl, hw⟩; obtain rfl := hw.symm)
        | ((with_reducible refine gate_dst (N := 21) rfl ?_); refine Kd.R_append (Kd.int .u32) (w0 := wr) (W := wr) w.heap.size rfl (.tmp 16) (.tmp 20) 39 38 (.int .u32 0) 4 rfl Try.underlying39 Try.info38 rfl (by decide) (by decide) v (addrs k) (16909060 + (k : Int)) [.int .u32 (16909060 + (k : Int))] (fun _ => True) (fun _ => False) rfl rfl rfl (fun _ h => h.elim) (fun _ _ => trivial) ST.out.2.2.2.2 (Below.refl _ _) ST.out.1.size (by rw [addrs_len]; omega) ?_; intro v1 w1 ho1 hb1 hg1 _; obtain ⟨A1, c1, rfl, hl1, hr1⟩ := Kd.R_reads ho1; rw [← addrs_succ] at ho1; have HO1 := Aside0.mk ho1; have HB1 := Aside0.mk (ST.out.1.grown hg1 ST.out.1.size (Kd.R_base ST.out.2.2.2.2)); have b3 := blk_grown ST.out.2.2.1 hg1 NE3.out; have b2 := blk_grown ST.out.2.2.2.1 hg1 NE2.out; have b1 := blk_grown ST.out.2.1 hg1 NE1.out; have B3 := Aside0.mk b3; have B2 := Aside0.mk b2; have B1 := Aside0.mk b1; have d3 : w1.cell? ⟨g3, 3, none⟩ = some v := (blk_cell b3 3).trans rfl; have f3 := blk_frozen b3 3; clear ho1 hb1 hg1 hr1 hl1 b1 b2 b3))
      go_roundw
      case rel =>
        have e1 : (addrs (k + 1)).length = (addrs k).length + 1 := by simp [addrs_len]
        have hr2 := Kd.R_set HO1.out B3.out (by decide) 3 (.slice A1 ((addrs k).length + 1) c1)
        rw [e1] at hr2
        exact ⟨k + 1, _, by go_num, by omega, HB1.out.setCell (p := ⟨g3, 3, none⟩) lo3 _, blk_far B1.out ne13 _, by simpa using blk_set B3.out 3 _, blk_far B2.out ne23 _, hr2⟩
      case measure => simp [intOf]; omega
    · have hke : (k : Int) = upn S.outside 3 := by omega
      obtain ⟨A, c, hv, hlc, hrd⟩ := Kd.R_reads ST.out.2.2.2.2
      have HKE := Aside0.mk hke
      have HV := Aside0.mk hv
      have HLC := Aside0.mk hlc
      clear hke hv hlc hrd
      have l0 : wr.cell? ⟨w.heap.size, 1, none⟩ = some (.int .u8 S.count) := (blk_cell ST.out.2.1 1).trans rfl
      go_wp2_with (go_at_call 73; refine (up_calls _ S.outside 3 boutside.1 boutside.2 (by decide) (by decide)).mono ?_; rintro e w' ⟨rfl, hw⟩; obtain rfl := hw.symm; clear k0)
      refine (up_calls _ S.count 4 bcount.1 bcount.2 (by decide) (by decide)).mono ?_
      rintro e w' ⟨rfl, hw⟩
      obtain rfl := hw.symm
      have d0 : wr.cell? ⟨g3, 5, none⟩ = some (.int .i64 0) := (blk_cell ST.out.2.2.1 5).trans rfl
      have f0 := blk_frozen ST.out.2.2.1 5
      obtain ⟨w10, hw0⟩ : ∃ x, x = wr.setCell ⟨g3, 5, none⟩ (.int .i64 (1023 + 16 * upn S.count 4)) := ⟨_, rfl⟩
      have T0 : Aside0 (Below w.heap.size w w10 ∧ w10.heap[w.heap.size]? = some (.cells S.cells 60 (0, 0)) ∧ w10.heap[g3]? = some (.cells #[.int .u32 167772160, .int .i64 24, .int .u32 167772161, v, .int .i64 1024, .int .i64 (1023 + 16 * upn S.count 4), .int .i64 16, .int .i64 0, .int .i64 0, .int .i64 0, .int .i64 0, .int .i64 0, .int .i64 0, .int .i64 0, .int .i64 0, .int .i64 0, .int .i64 0, .bool S.third] 41 (0, 0)) ∧ w10.heap[g2]? = some (.cells #[.int .u32 0, .int .i64 0, .int .u32 0, .slice none 0 0, .int .i64 0, .int .i64 0, .int .i64 0, .int .i64 0, .int .i64 0, .int .i64 0, .int .i64 0, .int .i64 0, .int .i64 0, .int .i64 0, .int .i64 0, .int .i64 0, .int .i64 0, .bool false] 41 (0, 0)) ∧ Kd.R (Kd.int .u32) 38 w10 w.heap.size (fun _ => True) v (addrs k)) := by
        subst hw0
        exact ⟨⟨ST.out.1.setCell (p := ⟨g3, 5, none⟩) lo3 _, blk_far ST.out.2.1 ne13 _, by simpa using blk_set ST.out.2.2.1 5 _, blk_far ST.out.2.2.2.1 ne23 _, Kd.R_set ST.out.2.2.2.2 ST.out.2.2.1 (by decide) 5 _⟩⟩
      have n0 : (wr.setCell ⟨g3, 5, none⟩ (.int .i64 (1023 + 16 * upn S.count 4))).cell? ⟨w.heap.size, 2, none⟩ = some (.int .u8 S.blocks) := hw0 ▸ (blk_cell T0.out.2.1 2).trans rfl
      go_wp2_with fail
      rw [← hw0]
      clear n0 d0 f0 l0 hw0
      have l1 : w10.cell? ⟨w.heap.size, 2, none⟩ = some (.int .u8 S.blocks) := (blk_cell T0.out.2.1 2).trans rfl
      go_wp2_with fail
      refine (up_calls _ S.blocks 3 bblocks.1 bblocks.2 (by decide) (by decide)).mono ?_
      rintro e w' ⟨rfl, hw⟩
      obtain rfl := hw.symm
      have d1 : w10.cell? ⟨g3, 7, none⟩ = some (.int .i64 0) := (blk_cell T0.out.2.2.1 7).trans rfl
      have f1 := blk_frozen T0.out.2.2.1 7
      obtain ⟨w11, hw1⟩ : ∃ x, x = w10.setCell ⟨g3, 7, none⟩ (.int .i64 (upn S.blocks 3)) := ⟨_, rfl⟩
      have T1 : Aside0 (Below w.heap.size w w11 ∧ w11.heap[w.heap.size]? = some (.cells S.cells 60 (0, 0)) ∧ w11.heap[g3]? = some (.cells #[.int .u32 167772160, .int .i64 24, .int .u32 167772161, v, .int .i64 1024, .int .i64 (1023 + 16 * upn S.count 4), .int .i64 16, .int .i64 (upn S.blocks 3), .int .i64 0, .int .i64 0, .int .i64 0, .int .i64 0, .int .i64 0, .int .i64 0, .int .i64 0, .int .i64 0, .int .i64 0, .bool S.third] 41 (0, 0)) ∧ w11.heap[g2]? = some (.cells #[.int .u32 0, .int .i64 0, .int .u32 0, .slice none 0 0, .int .i64 0, .int .i64 0, .int .i64 0, .int .i64 0, .int .i64 0, .int .i64 0, .int .i64 0, .int .i64 0, .int .i64 0, .int .i64 0, .int .i64 0, .int .i64 0, .int .i64 0, .bool false] 41 (0, 0)) ∧ Kd.R (Kd.int .u32) 38 w11 w.heap.size (fun _ => True) v (addrs k)) := by
        subst hw1
        exact ⟨⟨T0.out.1.setCell (p := ⟨g3, 7, none⟩) lo3 _, blk_far T0.out.2.1 ne13 _, by simpa using blk_set T0.out.2.2.1 7 _, blk_far T0.out.2.2.2.1 ne23 _, Kd.R_set T0.out.2.2.2.2 T0.out.2.2.1 (by decide) 7 _⟩⟩
      have n1 : (w10.setCell ⟨g3, 7, none⟩ (.int .i64 (upn S.blocks 3))).cell? ⟨w.heap.size, 3, none⟩ = some (.int .u8 S.maps) := hw1 ▸ (blk_cell T1.out.2.1 3).trans rfl
      go_wp2_with fail
      rw [← hw1]
      clear n1 d1 f1 l1 hw1
      have l2 : w11.cell? ⟨w.heap.size, 3, none⟩ = some (.int .u8 S.maps) := (blk_cell T1.out.2.1 3).trans rfl
      go_wp2_with fail
      refine (up_calls _ S.maps 24 bmaps.1 bmaps.2 (by decide) (by decide)).mono ?_
      rintro e w' ⟨rfl, hw⟩
      obtain rfl := hw.symm
      have d2 : w11.cell? ⟨g3, 8, none⟩ = some (.int .i64 0) := (blk_cell T1.out.2.2.1 8).trans rfl
      have f2 := blk_frozen T1.out.2.2.1 8
      obtain ⟨w12, hw2⟩ : ∃ x, x = w11.setCell ⟨g3, 8, none⟩ (.int .i64 (upn S.maps 24)) := ⟨_, rfl⟩
      have T2 : Aside0 (Below w.heap.size w w12 ∧ w12.heap[w.heap.size]? = some (.cells S.cells 60 (0, 0)) ∧ w12.heap[g3]? = some (.cells #[.int .u32 167772160, .int .i64 24, .int .u32 167772161, v, .int .i64 1024, .int .i64 (1023 + 16 * upn S.count 4), .int .i64 16, .int .i64 (upn S.blocks 3), .int .i64 (upn S.maps 24), .int .i64 0, .int .i64 0, .int .i64 0, .int .i64 0, .int .i64 0, .int .i64 0, .int .i64 0, .int .i64 0, .bool S.third] 41 (0, 0)) ∧ w12.heap[g2]? = some (.cells #[.int .u32 0, .int .i64 0, .int .u32 0, .slice none 0 0, .int .i64 0, .int .i64 0, .int .i64 0, .int .i64 0, .int .i64 0, .int .i64 0, .int .i64 0, .int .i64 0, .int .i64 0, .int .i64 0, .int .i64 0, .int .i64 0, .int .i64 0, .bool false] 41 (0, 0)) ∧ Kd.R (Kd.int .u32) 38 w12 w.heap.size (fun _ => True) v (addrs k)) := by
        subst hw2
        exact ⟨⟨T1.out.1.setCell (p := ⟨g3, 8, none⟩) lo3 _, blk_far T1.out.2.1 ne13 _, by simpa using blk_set T1.out.2.2.1 8 _, blk_far T1.out.2.2.2.1 ne23 _, Kd.R_set T1.out.2.2.2.2 T1.out.2.2.1 (by decide) 8 _⟩⟩
      have n2 : (w11.setCell ⟨g3, 8, none⟩ (.int .i64 (upn S.maps 24))).cell? ⟨w.heap.size, 4, none⟩ = some (.int .u8 S.flows) := hw2 ▸ (blk_cell T2.out.2.1 4).trans rfl
      go_wp2_with fail
      rw [← hw2]
      clear n2 d2 f2 l2 hw2
      have l3 : w12.cell? ⟨w.heap.size, 4, none⟩ = some (.int .u8 S.flows) := (blk_cell T2.out.2.1 4).trans rfl
      go_wp2_with fail
      refine (up_calls _ S.flows 24 bflows.1 bflows.2 (by decide) (by decide)).mono ?_
      rintro e w' ⟨rfl, hw⟩
      obtain rfl := hw.symm
      have d3 : w12.cell? ⟨g3, 9, none⟩ = some (.int .i64 0) := (blk_cell T2.out.2.2.1 9).trans rfl
      have f3 := blk_frozen T2.out.2.2.1 9
      obtain ⟨w13, hw3⟩ : ∃ x, x = w12.setCell ⟨g3, 9, none⟩ (.int .i64 (upn S.flows 24)) := ⟨_, rfl⟩
      have T3 : Aside0 (Below w.heap.size w w13 ∧ w13.heap[w.heap.size]? = some (.cells S.cells 60 (0, 0)) ∧ w13.heap[g3]? = some (.cells #[.int .u32 167772160, .int .i64 24, .int .u32 167772161, v, .int .i64 1024, .int .i64 (1023 + 16 * upn S.count 4), .int .i64 16, .int .i64 (upn S.blocks 3), .int .i64 (upn S.maps 24), .int .i64 (upn S.flows 24), .int .i64 0, .int .i64 0, .int .i64 0, .int .i64 0, .int .i64 0, .int .i64 0, .int .i64 0, .bool S.third] 41 (0, 0)) ∧ w13.heap[g2]? = some (.cells #[.int .u32 0, .int .i64 0, .int .u32 0, .slice none 0 0, .int .i64 0, .int .i64 0, .int .i64 0, .int .i64 0, .int .i64 0, .int .i64 0, .int .i64 0, .int .i64 0, .int .i64 0, .int .i64 0, .int .i64 0, .int .i64 0, .int .i64 0, .bool false] 41 (0, 0)) ∧ Kd.R (Kd.int .u32) 38 w13 w.heap.size (fun _ => True) v (addrs k)) := by
        subst hw3
        exact ⟨⟨T2.out.1.setCell (p := ⟨g3, 9, none⟩) lo3 _, blk_far T2.out.2.1 ne13 _, by simpa using blk_set T2.out.2.2.1 9 _, blk_far T2.out.2.2.2.1 ne23 _, Kd.R_set T2.out.2.2.2.2 T2.out.2.2.1 (by decide) 9 _⟩⟩
      have n3 : (w12.setCell ⟨g3, 9, none⟩ (.int .i64 (upn S.flows 24))).cell? ⟨w.heap.size, 5, none⟩ = some (.int .u8 S.hold) := hw3 ▸ (blk_cell T3.out.2.1 5).trans rfl
      go_wp2_with fail
      rw [← hw3]
      clear n3 d3 f3 l3 hw3
      have l4 : w13.cell? ⟨w.heap.size, 5, none⟩ = some (.int .u8 S.hold) := (blk_cell T3.out.2.1 5).trans rfl
      go_wp2_with fail
      refine (up_calls _ S.hold 9 bhold.1 bhold.2 (by decide) (by decide)).mono ?_
      rintro e w' ⟨rfl, hw⟩
      obtain rfl := hw.symm
      have d4 : w13.cell? ⟨g3, 10, none⟩ = some (.int .i64 0) := (blk_cell T3.out.2.2.1 10).trans rfl
      have f4 := blk_frozen T3.out.2.2.1 10
      obtain ⟨w14, hw4⟩ : ∃ x, x = w13.setCell ⟨g3, 10, none⟩ (.int .i64 (upn S.hold 9)) := ⟨_, rfl⟩
      have T4 : Aside0 (Below w.heap.size w w14 ∧ w14.heap[w.heap.size]? = some (.cells S.cells 60 (0, 0)) ∧ w14.heap[g3]? = some (.cells #[.int .u32 167772160, .int .i64 24, .int .u32 167772161, v, .int .i64 1024, .int .i64 (1023 + 16 * upn S.count 4), .int .i64 16, .int .i64 (upn S.blocks 3), .int .i64 (upn S.maps 24), .int .i64 (upn S.flows 24), .int .i64 (upn S.hold 9), .int .i64 0, .int .i64 0, .int .i64 0, .int .i64 0, .int .i64 0, .int .i64 0, .bool S.third] 41 (0, 0)) ∧ w14.heap[g2]? = some (.cells #[.int .u32 0, .int .i64 0, .int .u32 0, .slice none 0 0, .int .i64 0, .int .i64 0, .int .i64 0, .int .i64 0, .int .i64 0, .int .i64 0, .int .i64 0, .int .i64 0, .int .i64 0, .int .i64 0, .int .i64 0, .int .i64 0, .int .i64 0, .bool false] 41 (0, 0)) ∧ Kd.R (Kd.int .u32) 38 w14 w.heap.size (fun _ => True) v (addrs k)) := by
        subst hw4
        exact ⟨⟨T3.out.1.setCell (p := ⟨g3, 10, none⟩) lo3 _, blk_far T3.out.2.1 ne13 _, by simpa using blk_set T3.out.2.2.1 10 _, blk_far T3.out.2.2.2.1 ne23 _, Kd.R_set T3.out.2.2.2.2 T3.out.2.2.1 (by decide) 10 _⟩⟩
      have n4 : (w13.setCell ⟨g3, 10, none⟩ (.int .i64 (upn S.hold 9))).cell? ⟨w.heap.size, 6, none⟩ = some (.int .u8 S.udp) := hw4 ▸ (blk_cell T4.out.2.1 6).trans rfl
      go_wp2_with fail
      rw [← hw4]
      clear n4 d4 f4 l4 hw4
      have l5 : w14.cell? ⟨w.heap.size, 6, none⟩ = some (.int .u8 S.udp) := (blk_cell T4.out.2.1 6).trans rfl
      go_wp2_with fail
      refine (up_calls _ S.udp 20 budp.1 budp.2 (by decide) (by decide)).mono ?_
      rintro e w' ⟨rfl, hw⟩
      obtain rfl := hw.symm
      have d5 : w14.cell? ⟨g3, 11, none⟩ = some (.int .i64 0) := (blk_cell T4.out.2.2.1 11).trans rfl
      have f5 := blk_frozen T4.out.2.2.1 11
      obtain ⟨w15, hw5⟩ : ∃ x, x = w14.setCell ⟨g3, 11, none⟩ (.int .i64 (upn S.udp 20)) := ⟨_, rfl⟩
      have T5 : Aside0 (Below w.heap.size w w15 ∧ w15.heap[w.heap.size]? = some (.cells S.cells 60 (0, 0)) ∧ w15.heap[g3]? = some (.cells #[.int .u32 167772160, .int .i64 24, .int .u32 167772161, v, .int .i64 1024, .int .i64 (1023 + 16 * upn S.count 4), .int .i64 16, .int .i64 (upn S.blocks 3), .int .i64 (upn S.maps 24), .int .i64 (upn S.flows 24), .int .i64 (upn S.hold 9), .int .i64 (upn S.udp 20), .int .i64 0, .int .i64 0, .int .i64 0, .int .i64 0, .int .i64 0, .bool S.third] 41 (0, 0)) ∧ w15.heap[g2]? = some (.cells #[.int .u32 0, .int .i64 0, .int .u32 0, .slice none 0 0, .int .i64 0, .int .i64 0, .int .i64 0, .int .i64 0, .int .i64 0, .int .i64 0, .int .i64 0, .int .i64 0, .int .i64 0, .int .i64 0, .int .i64 0, .int .i64 0, .int .i64 0, .bool false] 41 (0, 0)) ∧ Kd.R (Kd.int .u32) 38 w15 w.heap.size (fun _ => True) v (addrs k)) := by
        subst hw5
        exact ⟨⟨T4.out.1.setCell (p := ⟨g3, 11, none⟩) lo3 _, blk_far T4.out.2.1 ne13 _, by simpa using blk_set T4.out.2.2.1 11 _, blk_far T4.out.2.2.2.1 ne23 _, Kd.R_set T4.out.2.2.2.2 T4.out.2.2.1 (by decide) 11 _⟩⟩
      have n5 : (w14.setCell ⟨g3, 11, none⟩ (.int .i64 (upn S.udp 20))).cell? ⟨w.heap.size, 7, none⟩ = some (.int .u8 S.icmp) := hw5 ▸ (blk_cell T5.out.2.1 7).trans rfl
      go_wp2_with fail
      rw [← hw5]
      clear n5 d5 f5 l5 hw5
      have l6 : w15.cell? ⟨w.heap.size, 7, none⟩ = some (.int .u8 S.icmp) := (blk_cell T5.out.2.1 7).trans rfl
      go_wp2_with fail
      refine (up_calls _ S.icmp 20 bicmp.1 bicmp.2 (by decide) (by decide)).mono ?_
      rintro e w' ⟨rfl, hw⟩
      obtain rfl := hw.symm
      have d6 : w15.cell? ⟨g3, 12, none⟩ = some (.int .i64 0) := (blk_cell T5.out.2.2.1 12).trans rfl
      have f6 := blk_frozen T5.out.2.2.1 12
      obtain ⟨w16, hw6⟩ : ∃ x, x = w15.setCell ⟨g3, 12, none⟩ (.int .i64 (upn S.icmp 20)) := ⟨_, rfl⟩
      have T6 : Aside0 (Below w.heap.size w w16 ∧ w16.heap[w.heap.size]? = some (.cells S.cells 60 (0, 0)) ∧ w16.heap[g3]? = some (.cells #[.int .u32 167772160, .int .i64 24, .int .u32 167772161, v, .int .i64 1024, .int .i64 (1023 + 16 * upn S.count 4), .int .i64 16, .int .i64 (upn S.blocks 3), .int .i64 (upn S.maps 24), .int .i64 (upn S.flows 24), .int .i64 (upn S.hold 9), .int .i64 (upn S.udp 20), .int .i64 (upn S.icmp 20), .int .i64 0, .int .i64 0, .int .i64 0, .int .i64 0, .bool S.third] 41 (0, 0)) ∧ w16.heap[g2]? = some (.cells #[.int .u32 0, .int .i64 0, .int .u32 0, .slice none 0 0, .int .i64 0, .int .i64 0, .int .i64 0, .int .i64 0, .int .i64 0, .int .i64 0, .int .i64 0, .int .i64 0, .int .i64 0, .int .i64 0, .int .i64 0, .int .i64 0, .int .i64 0, .bool false] 41 (0, 0)) ∧ Kd.R (Kd.int .u32) 38 w16 w.heap.size (fun _ => True) v (addrs k)) := by
        subst hw6
        exact ⟨⟨T5.out.1.setCell (p := ⟨g3, 12, none⟩) lo3 _, blk_far T5.out.2.1 ne13 _, by simpa using blk_set T5.out.2.2.1 12 _, blk_far T5.out.2.2.2.1 ne23 _, Kd.R_set T5.out.2.2.2.2 T5.out.2.2.1 (by decide) 12 _⟩⟩
      have n6 : (w15.setCell ⟨g3, 12, none⟩ (.int .i64 (upn S.icmp 20))).cell? ⟨w.heap.size, 8, none⟩ = some (.int .u8 S.opn) := hw6 ▸ (blk_cell T6.out.2.1 8).trans rfl
      go_wp2_with fail
      rw [← hw6]
      clear n6 d6 f6 l6 hw6
      have l7 : w16.cell? ⟨w.heap.size, 8, none⟩ = some (.int .u8 S.opn) := (blk_cell T6.out.2.1 8).trans rfl
      go_wp2_with fail
      refine (up_calls _ S.opn 60 bopn.1 bopn.2 (by decide) (by decide)).mono ?_
      rintro e w' ⟨rfl, hw⟩
      obtain rfl := hw.symm
      have d7 : w16.cell? ⟨g3, 13, none⟩ = some (.int .i64 0) := (blk_cell T6.out.2.2.1 13).trans rfl
      have f7 := blk_frozen T6.out.2.2.1 13
      obtain ⟨w17, hw7⟩ : ∃ x, x = w16.setCell ⟨g3, 13, none⟩ (.int .i64 (upn S.opn 60)) := ⟨_, rfl⟩
      have T7 : Aside0 (Below w.heap.size w w17 ∧ w17.heap[w.heap.size]? = some (.cells S.cells 60 (0, 0)) ∧ w17.heap[g3]? = some (.cells #[.int .u32 167772160, .int .i64 24, .int .u32 167772161, v, .int .i64 1024, .int .i64 (1023 + 16 * upn S.count 4), .int .i64 16, .int .i64 (upn S.blocks 3), .int .i64 (upn S.maps 24), .int .i64 (upn S.flows 24), .int .i64 (upn S.hold 9), .int .i64 (upn S.udp 20), .int .i64 (upn S.icmp 20), .int .i64 (upn S.opn 60), .int .i64 0, .int .i64 0, .int .i64 0, .bool S.third] 41 (0, 0)) ∧ w17.heap[g2]? = some (.cells #[.int .u32 0, .int .i64 0, .int .u32 0, .slice none 0 0, .int .i64 0, .int .i64 0, .int .i64 0, .int .i64 0, .int .i64 0, .int .i64 0, .int .i64 0, .int .i64 0, .int .i64 0, .int .i64 0, .int .i64 0, .int .i64 0, .int .i64 0, .bool false] 41 (0, 0)) ∧ Kd.R (Kd.int .u32) 38 w17 w.heap.size (fun _ => True) v (addrs k)) := by
        subst hw7
        exact ⟨⟨T6.out.1.setCell (p := ⟨g3, 13, none⟩) lo3 _, blk_far T6.out.2.1 ne13 _, by simpa using blk_set T6.out.2.2.1 13 _, blk_far T6.out.2.2.2.1 ne23 _, Kd.R_set T6.out.2.2.2.2 T6.out.2.2.1 (by decide) 13 _⟩⟩
      have n7 : (w16.setCell ⟨g3, 13, none⟩ (.int .i64 (upn S.opn 60))).cell? ⟨w.heap.size, 9, none⟩ = some (.int .u8 S.trans) := hw7 ▸ (blk_cell T7.out.2.1 9).trans rfl
      go_wp2_with fail
      rw [← hw7]
      clear n7 d7 f7 l7 hw7
      have l8 : w17.cell? ⟨w.heap.size, 9, none⟩ = some (.int .u8 S.trans) := (blk_cell T7.out.2.1 9).trans rfl
      go_wp2_with fail
      refine (up_calls _ S.trans 20 btrans.1 btrans.2 (by decide) (by decide)).mono ?_
      rintro e w' ⟨rfl, hw⟩
      obtain rfl := hw.symm
      have d8 : w17.cell? ⟨g3, 14, none⟩ = some (.int .i64 0) := (blk_cell T7.out.2.2.1 14).trans rfl
      have f8 := blk_frozen T7.out.2.2.1 14
      obtain ⟨w18, hw8⟩ : ∃ x, x = w17.setCell ⟨g3, 14, none⟩ (.int .i64 (upn S.trans 20)) := ⟨_, rfl⟩
      have T8 : Aside0 (Below w.heap.size w w18 ∧ w18.heap[w.heap.size]? = some (.cells S.cells 60 (0, 0)) ∧ w18.heap[g3]? = some (.cells #[.int .u32 167772160, .int .i64 24, .int .u32 167772161, v, .int .i64 1024, .int .i64 (1023 + 16 * upn S.count 4), .int .i64 16, .int .i64 (upn S.blocks 3), .int .i64 (upn S.maps 24), .int .i64 (upn S.flows 24), .int .i64 (upn S.hold 9), .int .i64 (upn S.udp 20), .int .i64 (upn S.icmp 20), .int .i64 (upn S.opn 60), .int .i64 (upn S.trans 20), .int .i64 0, .int .i64 0, .bool S.third] 41 (0, 0)) ∧ w18.heap[g2]? = some (.cells #[.int .u32 0, .int .i64 0, .int .u32 0, .slice none 0 0, .int .i64 0, .int .i64 0, .int .i64 0, .int .i64 0, .int .i64 0, .int .i64 0, .int .i64 0, .int .i64 0, .int .i64 0, .int .i64 0, .int .i64 0, .int .i64 0, .int .i64 0, .bool false] 41 (0, 0)) ∧ Kd.R (Kd.int .u32) 38 w18 w.heap.size (fun _ => True) v (addrs k)) := by
        subst hw8
        exact ⟨⟨T7.out.1.setCell (p := ⟨g3, 14, none⟩) lo3 _, blk_far T7.out.2.1 ne13 _, by simpa using blk_set T7.out.2.2.1 14 _, blk_far T7.out.2.2.2.1 ne23 _, Kd.R_set T7.out.2.2.2.2 T7.out.2.2.1 (by decide) 14 _⟩⟩
      have n8 : (w17.setCell ⟨g3, 14, none⟩ (.int .i64 (upn S.trans 20))).cell? ⟨w.heap.size, 10, none⟩ = some (.int .u8 S.least) := hw8 ▸ (blk_cell T8.out.2.1 10).trans rfl
      go_wp2_with fail
      rw [← hw8]
      clear n8 d8 f8 l8 hw8
      have l9 : w18.cell? ⟨w.heap.size, 10, none⟩ = some (.int .u8 S.least) := (blk_cell T8.out.2.1 10).trans rfl
      go_wp2_with fail
      refine (up_calls _ S.least 9 bleast.1 bleast.2 (by decide) (by decide)).mono ?_
      rintro e w' ⟨rfl, hw⟩
      obtain rfl := hw.symm
      have d9 : w18.cell? ⟨g3, 15, none⟩ = some (.int .i64 0) := (blk_cell T8.out.2.2.1 15).trans rfl
      have f9 := blk_frozen T8.out.2.2.1 15
      obtain ⟨w19, hw9⟩ : ∃ x, x = w18.setCell ⟨g3, 15, none⟩ (.int .i64 (upn S.least 9)) := ⟨_, rfl⟩
      have T9 : Aside0 (Below w.heap.size w w19 ∧ w19.heap[w.heap.size]? = some (.cells S.cells 60 (0, 0)) ∧ w19.heap[g3]? = some (.cells #[.int .u32 167772160, .int .i64 24, .int .u32 167772161, v, .int .i64 1024, .int .i64 (1023 + 16 * upn S.count 4), .int .i64 16, .int .i64 (upn S.blocks 3), .int .i64 (upn S.maps 24), .int .i64 (upn S.flows 24), .int .i64 (upn S.hold 9), .int .i64 (upn S.udp 20), .int .i64 (upn S.icmp 20), .int .i64 (upn S.opn 60), .int .i64 (upn S.trans 20), .int .i64 (upn S.least 9), .int .i64 0, .bool S.third] 41 (0, 0)) ∧ w19.heap[g2]? = some (.cells #[.int .u32 0, .int .i64 0, .int .u32 0, .slice none 0 0, .int .i64 0, .int .i64 0, .int .i64 0, .int .i64 0, .int .i64 0, .int .i64 0, .int .i64 0, .int .i64 0, .int .i64 0, .int .i64 0, .int .i64 0, .int .i64 0, .int .i64 0, .bool false] 41 (0, 0)) ∧ Kd.R (Kd.int .u32) 38 w19 w.heap.size (fun _ => True) v (addrs k)) := by
        subst hw9
        exact ⟨⟨T8.out.1.setCell (p := ⟨g3, 15, none⟩) lo3 _, blk_far T8.out.2.1 ne13 _, by simpa using blk_set T8.out.2.2.1 15 _, blk_far T8.out.2.2.2.1 ne23 _, Kd.R_set T8.out.2.2.2.2 T8.out.2.2.1 (by decide) 15 _⟩⟩
      subst hw9
      have c15 : (w18.setCell ⟨g3, 15, none⟩ (.int .i64 (upn S.least 9))).cell? ⟨g3, 15, none⟩ = some (.int .i64 (upn S.least 9)) := (blk_cell T9.out.2.2.1 15).trans rfl
      have c16 : (w18.setCell ⟨g3, 15, none⟩ (.int .i64 (upn S.least 9))).cell? ⟨g3, 16, none⟩ = some (.int .i64 0) := (blk_cell T9.out.2.2.1 16).trans rfl
      have f16 := blk_frozen T9.out.2.2.1 16
      have c11 : (w18.setCell ⟨g3, 15, none⟩ (.int .i64 (upn S.least 9))).cell? ⟨w.heap.size, 11, none⟩ = some (.int .u8 S.most) := (blk_cell T9.out.2.1 11).trans rfl
      have bm0 : 0 ≤ S.most := bmost.1
      have bm1 : S.most ≤ 255 := bmost.2
      have T10 : Aside0 (Below w.heap.size w ((w18.setCell ⟨g3, 15, none⟩ (.int .i64 (upn S.least 9))).setCell ⟨g3, 16, none⟩ (.int .i64 (upn S.least 9 + S.most % 50))) ∧ ((w18.setCell ⟨g3, 15, none⟩ (.int .i64 (upn S.least 9))).setCell ⟨g3, 16, none⟩ (.int .i64 (upn S.least 9 + S.most % 50))).heap[g3]? = some (.cells #[.int .u32 167772160, .int .i64 24, .int .u32 167772161, v, .int .i64 1024, .int .i64 (1023 + 16 * upn S.count 4), .int .i64 16, .int .i64 (upn S.blocks 3), .int .i64 (upn S.maps 24), .int .i64 (upn S.flows 24), .int .i64 (upn S.hold 9), .int .i64 (upn S.udp 20), .int .i64 (upn S.icmp 20), .int .i64 (upn S.opn 60), .int .i64 (upn S.trans 20), .int .i64 (upn S.least 9), .int .i64 (upn S.least 9 + S.most % 50), .bool S.third] 41 (0, 0)) ∧ ((w18.setCell ⟨g3, 15, none⟩ (.int .i64 (upn S.least 9))).setCell ⟨g3, 16, none⟩ (.int .i64 (upn S.least 9 + S.most % 50))).heap[g2]? = some (.cells #[.int .u32 0, .int .i64 0, .int .u32 0, .slice none 0 0, .int .i64 0, .int .i64 0, .int .i64 0, .int .i64 0, .int .i64 0, .int .i64 0, .int .i64 0, .int .i64 0, .int .i64 0, .int .i64 0, .int .i64 0, .int .i64 0, .int .i64 0, .bool false] 41 (0, 0)) ∧ Kd.R (Kd.int .u32) 38 ((w18.setCell ⟨g3, 15, none⟩ (.int .i64 (upn S.least 9))).setCell ⟨g3, 16, none⟩ (.int .i64 (upn S.least 9 + S.most % 50))) w.heap.size (fun _ => True) v (addrs k)) :=
        ⟨T9.out.1.setCell (p := ⟨g3, 16, none⟩) lo3 _, by simpa using blk_set T9.out.2.2.1 16 _, blk_far T9.out.2.2.2.1 ne23 _, Kd.R_set T9.out.2.2.2.2 T9.out.2.2.1 (by decide) 16 _⟩
      have hone : (#[.int .u32 167772160, .int .i64 24, .int .u32 167772161, v, .int .i64 1024, .int .i64 (1023 + 16 * upn S.count 4), .int .i64 16, .int .i64 (upn S.blocks 3), .int .i64 (upn S.maps 24), .int .i64 (upn S.flows 24), .int .i64 (upn S.hold 9), .int .i64 (upn S.udp 20), .int .i64 (upn S.icmp 20), .int .i64 (upn S.opn 60), .int .i64 (upn S.trans 20), .int .i64 (upn S.least 9), .int .i64 (upn S.least 9 + S.most % 50), .bool S.third] : Array Value).all (·.oneCell') = true := by rw [HV.out]; simp [Value.oneCell']
      have HONE := Aside0.mk hone
      clear hone
      go_wp2_with (first
        | ((with_reducible refine gate_dst (N := 73) rfl ?_); refine wpList_load_row rfl 41 (.tmp 3) rfl g3 rfl 41 #[.int .u32 167772160, .int .i64 24, .int .u32 167772161, v, .int .i64 1024, .int .i64 (1023 + 16 * upn S.count 4), .int .i64 16, .int .i64 (upn S.blocks 3), .int .i64 (upn S.maps 24), .int .i64 (upn S.flows 24), .int .i64 (upn S.hold 9), .int .i64 (upn S.udp 20), .int .i64 (upn S.icmp 20), .int .i64 (upn S.opn 60), .int .i64 (upn S.trans 20), .int .i64 (upn S.least 9), .int .i64 (upn S.least 9 + S.most % 50), .bool S.third] (0, 0) _ T10.out.2.1 Try.underlying41 rfl (by kernel_rfl) ?_)
        | ((with_reducible refine gate_store (p := 2) (t := 41) rfl ?_); refine wpList_store_row rfl 41 (.tmp 2) (.tmp 73) rfl g2 #[.int .u32 167772160, .int .i64 24, .int .u32 167772161, v, .int .i64 1024, .int .i64 (1023 + 16 * upn S.count 4), .int .i64 16, .int .i64 (upn S.blocks 3), .int .i64 (upn S.maps 24), .int .i64 (upn S.flows 24), .int .i64 (upn S.hold 9), .int .i64 (upn S.udp 20), .int .i64 (upn S.icmp 20), .int .i64 (upn S.opn 60), .int .i64 (upn S.trans 20), .int .i64 (upn S.least 9), .int .i64 (upn S.least 9 + S.most % 50), .bool S.third] rfl rfl 41 #[.int .u32 0, .int .i64 0, .int .u32 0, .slice none 0 0, .int .i64 0, .int .i64 0, .int .i64 0, .int .i64 0, .int .i64 0, .int .i64 0, .int .i64 0, .int .i64 0, .int .i64 0, .int .i64 0, .int .i64 0, .int .i64 0, .int .i64 0, .bool false] T10.out.2.2.1 (by kernel_rfl) rfl HONE.out ?_))
      refine bodyPost_ret (results_cell_row rfl _ _ g2 41 #[.int .u32 167772160, .int .i64 24, .int .u32 167772161, v, .int .i64 1024, .int .i64 (1023 + 16 * upn S.count 4), .int .i64 16, .int .i64 (upn S.blocks 3), .int .i64 (upn S.maps 24), .int .i64 (upn S.flows 24), .int .i64 (upn S.hold 9), .int .i64 (upn S.udp 20), .int .i64 (upn S.icmp 20), .int .i64 (upn S.opn 60), .int .i64 (upn S.trans 20), .int .i64 (upn S.least 9), .int .i64 (upn S.least 9 + S.most % 50), .bool S.third] (0, 0) _ rfl (setRow_heap _ _ _ _ _ _ T10.out.2.2.1) Try.underlying41 rfl (by kernel_rfl)) rfl ?_
      refine ⟨_, rfl, cfg_made S HS.out k HKE.out (T10.out.2.2.2) HV.out HLC.out T10.out.2.2.1 (fun j hj => setRow_other _ _ _ _ hj), below_setRow T10.out.1 lo2 _⟩
end Go.Proofs.Ytoapbppjkidgiaa.Setup
