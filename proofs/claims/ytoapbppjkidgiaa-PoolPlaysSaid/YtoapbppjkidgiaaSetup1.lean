/- Setup1: package setup's tests of a configuration. Conditions: the configuration's cells are as api.Config says. -/
import Derived.Test.YtoapbppjkidgiaaRefTape
namespace Go.Proofs.Ytoapbppjkidgiaa.Setup
open Go.RowKit Go.Proofs.YtoapbppjkidgiaaW.PrintWords Go.Proofs.YtoapbppjkidgiaaW.PrintLast Go.Proofs.YtoapbppjkidgiaaW.PrintMore Tape
set_option linter.unusedVariables false
set_option linter.unusedSimpArgs false
theorem C_some {α : Type} {d : Kd α} {w : World} {A : Option Addr} {n : Nat} {l : List α} (h : Kd.C d w A n l) (hn : 0 < n) : ∃ ad, A = some ad := by
  obtain ⟨ad, h1, _⟩ := h.2.2 hn
  exact ⟨ad, h1⟩
/-- A configuration's numbers. -/
structure Cfg where
  inside : Int
  bits : Int
  server : Int
  outer : List Int
  low : Int
  high : Int
  block : Int
  blocks : Int
  maps : Int
  flows : Int
  hold : Int
  udp : Int
  icmp : Int
  opn : Int
  trans : Int
  minlife : Int
  maxlife : Int
  third : Bool
/-- Its cells. -/
def Cfg.cells (C : Cfg) (A : Option Addr) (c : Nat) : Array Value :=
  #[.int .u32 C.inside, .int .i64 C.bits, .int .u32 C.server, .slice A C.outer.length c, .int .i64 C.low, .int .i64 C.high, .int .i64 C.block, .int .i64 C.blocks, .int .i64 C.maps, .int .i64 C.flows, .int .i64 C.hold, .int .i64 C.udp, .int .i64 C.icmp, .int .i64 C.opn, .int .i64 C.trans, .int .i64 C.minlife, .int .i64 C.maxlife, .bool C.third]
def u32 (x : Int) : Prop := 0 ≤ x ∧ x < 4294967296
def i64 (x : Int) : Prop := -9223372036854775808 ≤ x ∧ x ≤ 9223372036854775807
/-- Each number is of its kind. -/
structure Cfg.Fits (C : Cfg) : Prop where
  inside : u32 C.inside
  bits : i64 C.bits
  server : u32 C.server
  outer : ∀ x ∈ C.outer, u32 x
  low : i64 C.low
  high : i64 C.high
  block : i64 C.block
  blocks : i64 C.blocks
  maps : i64 C.maps
  flows : i64 C.flows
  hold : i64 C.hold
  udp : i64 C.udp
  icmp : i64 C.icmp
  opn : i64 C.opn
  trans : i64 C.trans
  minlife : i64 C.minlife
  maxlife : i64 C.maxlife
/-- cs reads as C in w. -/
structure IsCfg (w : World) (cs : Array Value) (C : Cfg) : Prop where
  fits : C.Fits
  cells : ∃ A c, cs = C.cells A c ∧ C.outer.length ≤ c ∧ Kd.C (Kd.int .u32) w A C.outer.length C.outer
theorem IsCfg.below {w w' : World} {cs : Array Value} {C : Cfg} (h : IsCfg w cs C) (hb : Below w.heap.size w w') : IsCfg w' cs C := by
  obtain ⟨hf, A, c, h1, h2, h3⟩ := h
  exact ⟨hf, A, c, h1, h2, Kd.C_below h3 hb⟩
theorem IsCfg.size {w : World} {cs : Array Value} {C : Cfg} (h : IsCfg w cs C) : cs.size = 18 := by
  obtain ⟨_, A, c, rfl, _⟩ := h
  rfl
theorem IsCfg.info {w : World} {cs : Array Value} {C : Cfg} (h : IsCfg w cs C) : (Try.prog.info? 41).map (·.size) = some cs.size := by
  rw [h.size]; kernel_rfl
theorem cfg_cell {w : World} {g : Nat} {cs : Array Value} {C : Cfg} {w0 : World} (h : IsCfg w0 cs C) (hb : w.heap[g]? = some (.cells cs 41 (0, 0))) (i : Nat) (v : Value) (hv : ∀ A c, (C.cells A c)[i]? = some v) : w.cell? ⟨g, i, none⟩ = some v := by
  obtain ⟨_, A, c, rfl, _⟩ := h
  rw [blk_cell hb, hv]
set_option maxHeartbeats 1000000 in
theorem between_calls (w : World) (x lo hi : Int) :
    Calls Try.prog 66 #[.int .i64 x, .int .i64 lo, .int .i64 hi] w fun e w' => e = .returned (.bool (decide (lo ≤ x) && decide (x ≤ hi))) ∧ w' = w := by
  by_cases h1 : lo ≤ x
  · have h2 : decide (lo ≤ x) = true := decide_eq_true h1
    go_enter Try.func66, Try.ntmps66
    go_wp2
    go_ret
    exact ⟨by simp [h1], rfl⟩
  · have h2 : decide (lo ≤ x) = false := decide_eq_false h1
    go_enter Try.func66, Try.ntmps66
    go_wp2
    go_ret
    exact ⟨by simp [h1], rfl⟩
/-- may an address be somebody's. -/
def uni (a : Int) : Bool := decide (1 ≤ a / 16777216) && decide (a / 16777216 ≤ 223)
/-- is an address within. -/
def Cfg.within (C : Cfg) (a : Int) : Bool := a / 2 ^ (32 - C.bits).toNat == C.inside / 2 ^ (32 - C.bits).toNat
set_option maxHeartbeats 1000000 in
theorem unicast_calls (w : World) (a : Int) (ha : u32 a) :
    Calls Try.prog 87 #[.int .u32 a] w fun e w' => e = .returned (.bool (uni a)) ∧ w' = w := by
  unfold u32 at ha
  obtain ⟨h0, h1⟩ := ha
  go_enter Try.func87, Try.ntmps87
  go_wp2_with (go_at_call 66; refine (between_calls _ _ _ _).mono ?_; rintro e w' ⟨rfl, rfl⟩)
  go_ret
  exact ⟨rfl, rfl⟩
set_option maxHeartbeats 1000000 in
theorem within_cfg (w : World) (cs : Array Value) (C : Cfg) (a : Int) (h : IsCfg w cs C) (ha : u32 a) (hb : 8 ≤ C.bits ∧ C.bits ≤ 30) :
    Calls Try.prog 67 #[.agg cs, .int .u32 a] w fun e w' => e = .returned (.bool (C.within a)) ∧ Below w.heap.size w w' := by
  obtain ⟨hb0, hb1⟩ := hb
  have HK := Aside0.mk (heap_alloc_new w (.cells cs 41))
  have HC := Aside0.mk h
  clear h
  obtain ⟨s, hs⟩ : ∃ s, s = 32 - C.bits := ⟨_, rfl⟩
  have hs0 : 0 ≤ s := by omega
  have hs1 : s ≤ 32 := by omega
  have hw1 : wrap64 (32 - C.bits) = s := by unfold wrap64; omega
  have hw2 : IntKind.i64.wrap (32 - C.bits) = s := by rw [i64_w]; exact hw1
  have HS := Aside0.mk hs
  clear hs
  go_enter Try.func67, Try.ntmps67
  go_wp2_with fail
  refine start_ (n := 13) (S := fun w' => w'.cell? ⟨w.heap.size, 0, none⟩ = some (.int .u32 C.inside) ∧ w'.cell? ⟨w.heap.size, 1, none⟩ = some (.int .i64 C.bits)) (ds := []) #[false, false, false, false, false, false, false, false, false, false, false, false, false] (by kernel_rfl) rfl rfl ⟨cfg_cell HC.out HK.out 0 _ (fun _ _ => rfl), cfg_cell HC.out HK.out 1 _ (fun _ _ => rfl)⟩ (fun hHeld => ?_)
  refine pure_ (i := 0) (N := some 5) (v := ?_) (a' := ?_) #[true, false, false, false, false, false, false, false, false, false, false, false, false] rfl rfl (by kernel_rfl) (fun _ _ _ h => h) (Or.inl ⟨by rfl, ?_⟩) ?_ ?_
  rotate_left
  · intro w'
    go_simp
    with_reducible rfl
  rotate_left
  · simp only [Act.put, List.setIfInBounds_toArray, List.set_cons_zero, List.set_cons_succ, i64_w, i32_w]
    rfl
  refine pure_ (i := 1) (N := some 6) (v := ?_) (a' := ?_) #[true, true, false, false, false, false, false, false, false, false, false, false, false] rfl rfl (by kernel_rfl) (fun _ _ _ h => h) (Or.inl ⟨by rfl, ?_⟩) ?_ ?_
  rotate_left
  · intro w'
    go_simp
    with_reducible rfl
  rotate_left
  · simp only [Act.put, List.setIfInBounds_toArray, List.set_cons_zero, List.set_cons_succ, i64_w, i32_w]
    rfl
  refine pure_ (i := 5) (N := some 10) (v := ?_) (a' := ?_) #[true, true, false, false, false, true, false, false, false, false, false, false, false] rfl rfl (by kernel_rfl) (fun _ _ _ h => h) (Or.inl ⟨by rfl, ?_⟩) ?_ ?_
  rotate_left
  · intro w'
    go_simp
    with_reducible rfl
  rotate_left
  · simp only [Act.put, List.setIfInBounds_toArray, List.set_cons_zero, List.set_cons_succ, i64_w, i32_w]
    rfl
  refine pure_ (i := 7) (N := some 12) (v := ?_) (a' := ?_) #[true, true, false, false, false, true, false, true, false, false, false, false, false] rfl rfl (by kernel_rfl) (fun _ _ _ h => h) (Or.inl ⟨by rfl, ?_⟩) ?_ ?_
  rotate_left
  · intro w'
    go_simp
    with_reducible rfl
  rotate_left
  · simp only [Act.put, List.setIfInBounds_toArray, List.set_cons_zero, List.set_cons_succ, i64_w, i32_w]
    rfl
  refine take_ (i := 2) (N := some 7) (v := ?_) (a' := ?_) #[true, true, true, false, false, true, false, true, false, false, false, false, false] rfl rfl (by kernel_rfl) (fun _ _ _ h => h) (Or.inl ⟨by rfl, ?_⟩) hHeld ?_ ?_
  rotate_left
  · rintro w' ⟨s0, s1⟩
    go_simp
    with_reducible rfl
  rotate_left
  · simp only [Act.put, List.setIfInBounds_toArray, List.set_cons_zero, List.set_cons_succ, i64_w, i32_w]
    rfl
  refine pure_ (i := 3) (N := some 8) (v := ?_) (a' := ?_) #[true, true, true, true, false, true, false, true, false, false, false, false, false] rfl rfl (by kernel_rfl) (fun _ _ _ h => h) (Or.inl ⟨by rfl, ?_⟩) ?_ ?_
  rotate_left
  · intro w'
    go_simp
    with_reducible rfl
  rotate_left
  · simp only [Act.put, List.setIfInBounds_toArray, List.set_cons_zero, List.set_cons_succ, i64_w, i32_w]
    rfl
  refine pure_ (i := 4) (N := some 9) (v := ?_) (a' := ?_) #[true, true, true, true, true, true, false, true, false, false, false, false, false] rfl rfl (by kernel_rfl) (fun _ _ _ h => h) (Or.inl ⟨by rfl, ?_⟩) ?_ ?_
  rotate_left
  · intro w'
    go_simp
    with_reducible rfl
  rotate_left
  · simp only [Act.put, List.setIfInBounds_toArray, List.set_cons_zero, List.set_cons_succ, i64_w, i32_w]
    rfl
  refine take_ (i := 6) (N := some 11) (v := ?_) (a' := ?_) #[true, true, true, true, true, true, true, true, false, false, false, false, false] rfl rfl (by kernel_rfl) (fun _ _ _ h => h) (Or.inl ⟨by rfl, ?_⟩) hHeld ?_ ?_
  rotate_left
  · rintro w' ⟨s0, s1⟩
    go_simp
    with_reducible rfl
  rotate_left
  · simp only [Act.put, List.setIfInBounds_toArray, List.set_cons_zero, List.set_cons_succ, i64_w, i32_w]
    rfl
  refine take_ (i := 8) (N := some 13) (v := ?_) (a' := ?_) #[true, true, true, true, true, true, true, true, true, false, false, false, false] rfl rfl (by kernel_rfl) (fun _ _ _ h => h) (Or.inl ⟨by rfl, ?_⟩) hHeld ?_ ?_
  rotate_left
  · rintro w' ⟨s0, s1⟩
    go_simp
    with_reducible rfl
  rotate_left
  · simp only [Act.put, List.setIfInBounds_toArray, List.set_cons_zero, List.set_cons_succ, i64_w, i32_w]
    rfl
  refine pure_ (i := 9) (N := some 14) (v := ?_) (a' := ?_) #[true, true, true, true, true, true, true, true, true, true, false, false, false] rfl rfl (by kernel_rfl) (fun _ _ _ h => h) (Or.inl ⟨by rfl, ?_⟩) ?_ ?_
  rotate_left
  · intro w'
    go_simp
    with_reducible rfl
  rotate_left
  · simp only [Act.put, List.setIfInBounds_toArray, List.set_cons_zero, List.set_cons_succ, i64_w, i32_w]
    rfl
  refine pure_ (i := 10) (N := some 15) (v := ?_) (a' := ?_) #[true, true, true, true, true, true, true, true, true, true, true, false, false] rfl rfl (by kernel_rfl) (fun _ _ _ h => h) (Or.inl ⟨by rfl, ?_⟩) ?_ ?_
  rotate_left
  · intro w'
    go_simp
    with_reducible rfl
  rotate_left
  · simp only [Act.put, List.setIfInBounds_toArray, List.set_cons_zero, List.set_cons_succ, i64_w, i32_w]
    rfl
  refine pure_ (i := 11) (N := some 16) (v := ?_) (a' := ?_) #[true, true, true, true, true, true, true, true, true, true, true, true, false] rfl rfl (by kernel_rfl) (fun _ _ _ h => h) (Or.inl ⟨by rfl, ?_⟩) ?_ ?_
  rotate_left
  · intro w'
    go_simp
    with_reducible rfl
  rotate_left
  · simp only [Act.put, List.setIfInBounds_toArray, List.set_cons_zero, List.set_cons_succ, i64_w, i32_w]
    rfl
  refine pure_ (i := 12) (N := some 4) (v := ?_) (a' := ?_) #[true, true, true, true, true, true, true, true, true, true, true, true, true] rfl rfl (by kernel_rfl) (fun _ _ _ h => h) (Or.inl ⟨by rfl, ?_⟩) ?_ ?_
  rotate_left
  · intro w'
    go_simp
    with_reducible rfl
  rotate_left
  · simp only [Act.put, List.setIfInBounds_toArray, List.set_cons_zero, List.set_cons_succ, i64_w, i32_w]
    rfl
  refine done_ (by kernel_rfl) ?_
  go_wp2
  go_ret
  refine ⟨?_, below_drew (below_alloc (Below.refl _ _) _)⟩
  have e : C.within a = (a / 2 ^ s.toNat == C.inside / 2 ^ s.toNat) := by unfold Cfg.within; rw [HS.out]
  rw [e]
  rfl
/-- is outer address number i all right. -/
def Cfg.okAt (C : Cfg) (i : Nat) : Bool := uni (C.outer.getD i 0) && !C.within (C.outer.getD i 0) && !(C.outer.take i).contains (C.outer.getD i 0)
def Cfg.outs (C : Cfg) : Bool := decide (1 ≤ (C.outer.length : Int)) && decide ((C.outer.length : Int) ≤ 8) && (List.range C.outer.length).all C.okAt
theorem outs_false {C : Cfg} {k : Nat} (hk : k < C.outer.length) (h : C.okAt k = false) : C.outs = false := by
  unfold Cfg.outs
  rw [Bool.and_eq_false_iff]
  refine .inr (Bool.eq_false_iff.2 (fun hall => ?_))
  have := List.all_eq_true.1 hall k (List.mem_range.2 hk)
  rw [h] at this
  cases this
theorem outs_true {C : Cfg} (h1 : (1 : Int) ≤ C.outer.length) (h2 : (C.outer.length : Int) ≤ 8) (h : ∀ j, j < C.outer.length → C.okAt j = true) : C.outs = true := by
  unfold Cfg.outs
  rw [decide_eq_true h1, decide_eq_true h2]
  exact List.all_eq_true.2 (fun j hj => h j (List.mem_range.1 hj))
theorem okAt_parts {C : Cfg} {k : Nat} {x : Int} (hx : C.outer[k]? = some x) : C.okAt k = (uni x && !C.within x && !(C.outer.take k).contains x) := by
  unfold Cfg.okAt
  rw [List.getD_eq_getElem?_getD, hx]; rfl
set_option maxHeartbeats 4000000 in
theorem outside_cfg (w : World) (cs : Array Value) (C : Cfg) (h : IsCfg w cs C) (hb : 8 ≤ C.bits ∧ C.bits ≤ 30) :
    Calls Try.prog 90 #[.agg cs] w fun e w' => e = .returned (.bool C.outs) ∧ Below w.heap.size w w' := by
  have HK := Aside0.mk (heap_alloc_new w (.cells cs 41))
  have HC := Aside0.mk h
  obtain ⟨hfit, A, c, hcs, hlc, hrd⟩ := h
  have HR := Aside0.mk hrd
  have HF := Aside0.mk hfit
  have HBITS := Aside0.mk hb
  have hlm : C.outer.length ≤ 9223372036854775807 := hrd.2.1
  have h3 : (w.alloc (.cells cs 41)).cell? ⟨w.heap.size, 3, none⟩ = some (.slice A C.outer.length c) := by
    rw [blk_cell HK.out, hcs]; rfl
  have HCS := Aside0.mk hcs
  have HB0 := Aside0.mk (below_alloc (Below.refl _ w) (.cells cs 41))
  clear hfit hrd hb hcs
  by_cases hl : (1 : Int) ≤ C.outer.length ∧ (C.outer.length : Int) ≤ 8
  · obtain ⟨hl1, hl8⟩ := hl
    go_enter Try.func90, Try.ntmps90
    go_wp2_with (go_at_call 66; refine (between_calls _ _ _ _).mono ?_; rintro e w' ⟨rfl, rfl⟩)
    obtain ⟨w1, hw1⟩ : ∃ x, x = w.alloc (.cells cs 41) := ⟨_, rfl⟩
    rw [← hw1] at h3 ⊢
    have HB1 : Aside0 (Below w.heap.size w w1) := ⟨hw1 ▸ HB0.out⟩
    have HK1 : Aside0 (w1.heap[w.heap.size]? = some (.cells cs 41 (0, 0))) := ⟨hw1 ▸ HK.out⟩
    clear hw1 HK HB0
    go_loopw [15] (fun i wr => ∃ k : Nat, i = .int .i64 k ∧ k ≤ C.outer.length ∧ (∀ j, j < k → C.okAt j = true) ∧ Below w.heap.size w wr ∧ wr.heap[w.heap.size]? = some (.cells cs 41 (0, 0))) (fun i _ => C.outer.length - (intOf i).toNat)
    case atStart => exact ⟨0, rfl, by omega, fun j hj => absurd hj (by omega), HB1.out, HK1.out⟩
    case round =>
      obtain ⟨k, rfl, hk, hok, hbw, hkw⟩ := hrel
      have HOK := Aside0.mk hok
      have HBW := Aside0.mk hbw
      have HKW := Aside0.mk hkw
      clear hok hbw hkw HB1 HK1 h3
      by_cases hkl : k < C.outer.length
      · obtain ⟨ad, hA⟩ := C_some HR.out (by omega)
        subst hA
        obtain ⟨x, hxk⟩ : ∃ x, C.outer[k]? = some x := ⟨_, List.getElem?_eq_getElem hkl⟩
        have hcell0 := C_cell HR.out k x hxk
        have hcell : wr.cell? (ad.add k) = some (.int .u32 x) := (HBW.out.cell (World.block_lt_of_cell? _ _ hcell0)).trans hcell0
        have hidx : (0 : Int) ≤ (k : Int) ∧ (k : Int) < (C.outer.length : Int) := by omega
        have hx32 := HF.out.outer x (List.mem_of_getElem? hxk)
        have HX32 := Aside0.mk hx32
        have HPARTS := Aside0.mk (okAt_parts hxk)
        have HXK := Aside0.mk hxk
        clear hxk hx32 hcell0
        by_cases hu : uni x = true
        · by_cases hw : C.within x = true
          · have HW := Aside0.mk hw
            clear hw
            go_wp2_with (first
              | (go_at_call 87; refine (unicast_calls _ _ HX32.out).mono ?_; rintro e w' ⟨rfl, rfl⟩)
              | ((with_reducible refine gate_dst (N := 24) rfl ?_); refine gate_guard (by first | rfl | (rw [hu]; rfl)) ?_; refine wpList_load_row rfl 41 (.tmp 1) rfl w.heap.size rfl 41 cs (0, 0) _ HKW.out Try.underlying41 rfl HC.out.info ?_)
              | (go_at_call 67; refine (within_cfg _ cs C x (HC.out.below HBW.out) HX32.out HBITS.out).mono ?_; rintro e w2 ⟨he, hb2⟩; rw [HW.out] at he; subst he; have HB2 := Aside0.mk (below_then HBW.out HBW.out.size hb2); clear hb2))
            go_ret
            refine ⟨?_, HB2.out⟩
            rw [outs_false hkl (by rw [HPARTS.out, HW.out]; simp)]
            rfl
          · have hw2 : C.within x = false := Bool.eq_false_iff.2 hw
            have HW := Aside0.mk hw2
            clear hw hw2
            go_wp2_with (first
              | (go_at_call 87; refine (unicast_calls _ _ HX32.out).mono ?_; rintro e w' ⟨rfl, rfl⟩)
              | ((with_reducible refine gate_dst (N := 24) rfl ?_); refine gate_guard (by first | rfl | (rw [hu]; rfl)) ?_; refine wpList_load_row rfl 41 (.tmp 1) rfl w.heap.size rfl 41 cs (0, 0) _ HKW.out Try.underlying41 rfl HC.out.info ?_)
              | (go_at_call 67; refine (within_cfg _ cs C x (HC.out.below HBW.out) HX32.out HBITS.out).mono ?_; rintro e w2 ⟨he, hb2⟩; rw [HW.out] at he; subst he; have HB2 := Aside0.mk (below_then HBW.out HBW.out.size hb2); have HK2 := Aside0.mk (blk_below HKW.out hb2); have h3w : w2.cell? ⟨w.heap.size, 3, none⟩ = some (.slice (some ad) C.outer.length c) := (blk_cell HK2.out 3).trans (by rw [HCS.out]; rfl); clear hb2))
            have hkm : (k : Int) ≤ (c : Int) := by omega
            go_loop [33] (fun i => ∃ j : Nat, i = .int .i64 j ∧ j ≤ k ∧ (∀ m y, m < j → C.outer[m]? = some y → y ≠ x)) (fun i => k - (intOf i).toNat)
            case atStart => exact ⟨0, rfl, by omega, fun m y hm => absurd hm (by omega)⟩
            case round =>
              obtain ⟨j, rfl, hj, hno⟩ := hrel
              have HNO := Aside0.mk hno
              clear hno
              by_cases hjk : j < k
              · obtain ⟨y, hyj⟩ : ∃ y, C.outer[j]? = some y := ⟨_, List.getElem?_eq_getElem (by omega)⟩
                have hcy0 := C_cell HR.out j y hyj
                have hcy : w2.cell? (ad.add j) = some (.int .u32 y) := (HB2.out.cell (World.block_lt_of_cell? _ _ hcy0)).trans hcy0
                have hidy : (0 : Int) ≤ (j : Int) ∧ (j : Int) < (k : Int) := by omega
                have HYJ := Aside0.mk hyj
                clear hyj hcy0
                by_cases hyx : y = x
                · have hyb : (y == x) = true := by rw [hyx]; exact beq_self_eq_true x
                  have HYX := Aside0.mk hyx
                  clear hyx
                  go_wp2
                  go_ret
                  refine ⟨?_, HB2.out⟩
                  have hin : (C.outer.take k).contains x = true := by
                    rw [List.contains_iff_mem]
                    have h1 : (C.outer.take k)[j]? = some x := by
                      rw [List.getElem?_take_of_lt hjk, HYJ.out, HYX.out]
                    exact List.mem_of_getElem? h1
                  rw [outs_false hkl (by rw [HPARTS.out, hin]; simp)]
                  rfl
                · have hyb : (y == x) = false := beq_eq_false_iff_ne.2 hyx
                  have HYX := Aside0.mk hyx
                  clear hyx
                  go_wp2
                  go_round
                  case rel =>
                    refine ⟨j + 1, by go_num, by omega, fun m z hm hz => ?_⟩
                    by_cases hmj : m = j
                    · subst hmj
                      rw [HYJ.out] at hz
                      exact Option.some.inj hz ▸ HYX.out
                    · exact HNO.out m z (by omega) hz
                  case measure => simp [intOf]; omega
              · obtain rfl : j = k := by omega
                go_wp2
                go_roundw
                case rel =>
                  refine ⟨j + 1, by go_num, by omega, fun m hm => ?_, HB2.out, HK2.out⟩
                  by_cases hmj : m = j
                  · subst hmj
                    rw [HPARTS.out, HW.out, hu]
                    have hnin : (C.outer.take m).contains x = false := by
                      refine Bool.eq_false_iff.2 (fun hc => ?_)
                      rw [List.contains_iff_mem] at hc
                      obtain ⟨i, hi⟩ := List.getElem?_of_mem hc
                      have hlt := (List.getElem?_eq_some_iff.1 hi).1
                      have hlt2 : i < m := by
                        have : (C.outer.take m).length ≤ m := List.length_take_le _ _
                        omega
                      rw [List.getElem?_take_of_lt hlt2] at hi
                      exact HNO.out i x hlt2 hi rfl
                    rw [hnin]; rfl
                  · exact HOK.out m (by omega)
                case measure => simp [intOf]; omega
        · have hu2 : uni x = false := Bool.eq_false_iff.2 hu
          clear hu
          go_wp2_with (first
            | (go_at_call 87; refine (unicast_calls _ _ HX32.out).mono ?_; rintro e w' ⟨rfl, rfl⟩))
          go_ret
          refine ⟨?_, HBW.out⟩
          rw [outs_false hkl (by rw [HPARTS.out, hu2]; simp)]
          rfl
      · obtain rfl : k = C.outer.length := by omega
        go_wp2
        go_ret
        refine ⟨?_, HBW.out⟩
        rw [outs_true hl1 hl8 HOK.out]
        rfl
  · have hlf : (decide ((1 : Int) ≤ C.outer.length) && decide ((C.outer.length : Int) ≤ 8)) = false := by
      rw [← Bool.decide_and]; exact decide_eq_false hl
    go_enter Try.func90, Try.ntmps90
    go_wp2_with (go_at_call 66; refine (between_calls _ _ _ _).mono ?_; rintro e w' ⟨rfl, rfl⟩)
    all_goals
      go_ret
      refine ⟨?_, HB0.out⟩
      have e : C.outs = false := by unfold Cfg.outs; rw [hlf]; rfl
      rw [e]
      rfl
end Go.Proofs.Ytoapbppjkidgiaa.Setup
