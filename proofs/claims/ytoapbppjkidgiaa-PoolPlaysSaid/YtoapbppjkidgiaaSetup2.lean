/- Setup2: the rows of package setup's check. Conditions: the configuration's cells are as api.Config says. -/
import Derived.Test.YtoapbppjkidgiaaSetup1
namespace Go.Proofs.Ytoapbppjkidgiaa.Setup
open Go.RowKit Go.Proofs.YtoapbppjkidgiaaW.PrintWords Go.Proofs.YtoapbppjkidgiaaW.PrintLast Go.Proofs.YtoapbppjkidgiaaW.PrintMore Tape
set_option linter.unusedVariables false
set_option linter.unusedSimpArgs false
def btw (x lo hi : Int) : Bool := decide (lo ≤ x) && decide (x ≤ hi)
theorem btw_true {x lo hi : Int} (h : btw x lo hi = true) : lo ≤ x ∧ x ≤ hi := by
  unfold btw at h
  simpa using h
theorem btw_calls (w : World) (x lo hi : Int) :
    Calls Try.prog 66 #[.int .i64 x, .int .i64 lo, .int .i64 hi] w fun e w' => e = .returned (.bool (btw x lo hi)) ∧ w' = w := between_calls w x lo hi
def Cfg.r1 (C : Cfg) : Bool := btw C.bits 8 30 && C.inside * 2 ^ C.bits.toNat % 4294967296 == 0 && uni C.inside
set_option maxHeartbeats 4000000 in
theorem row1 (w : World) (g : Nat) (cs : Array Value) (C : Cfg) (h : IsCfg w cs C) (hb : w.heap[g]? = some (.cells cs 41 (0, 0))) :
    Calls Try.prog 86 #[.pointer (some ⟨g, 0, none⟩)] w fun e w' => e = .returned (.bool C.r1) ∧ Below w.heap.size w w' := by
  have h0 := cfg_cell h hb 0 _ (fun _ _ => rfl)
  have h1 := cfg_cell h hb 1 _ (fun _ _ => rfl)
  have HF := Aside0.mk h.fits
  have Finside := h.fits.inside
  clear h hb
  cases hr0 : btw C.bits 8 30 with
  | false =>
    go_enter Try.func86, Try.ntmps86
    go_wp2_with (first | (go_at_call 66; refine (btw_calls _ _ _ _).mono ?_; rintro e w' ⟨rfl, rfl⟩) | (go_at_call 87; refine (unicast_calls _ _ HF.out.inside).mono ?_; rintro e w' ⟨rfl, rfl⟩))
    all_goals
      go_ret
      refine ⟨?_, Below.refl _ _⟩
      first
        | rfl
        | (show Ending.returned (.bool _) = Ending.returned (.bool _); congr 2; unfold Cfg.r1; simp [*])
  | true =>
    obtain ⟨b0, b1⟩ := btw_true hr0
    have b2 : 0 ≤ C.bits := by omega
    have b3 : C.bits ≤ 32 := by omega
    go_enter Try.func86, Try.ntmps86
    go_wp2_with (first | (go_at_call 66; refine (btw_calls _ _ _ _).mono ?_; rintro e w' ⟨rfl, rfl⟩) | (go_at_call 87; refine (unicast_calls _ _ HF.out.inside).mono ?_; rintro e w' ⟨rfl, rfl⟩))
    all_goals
      go_ret
      refine ⟨?_, Below.refl _ _⟩
      first
        | rfl
        | (show Ending.returned (.bool _) = Ending.returned (.bool _); congr 2; unfold Cfg.r1; simp [*])
def Cfg.r2 (C : Cfg) : Bool := C.within C.server
set_option maxHeartbeats 4000000 in
theorem row2 (w : World) (g : Nat) (cs : Array Value) (C : Cfg) (h : IsCfg w cs C) (hb : w.heap[g]? = some (.cells cs 41 (0, 0))) (hbits : 8 ≤ C.bits ∧ C.bits ≤ 30) :
    Calls Try.prog 88 #[.pointer (some ⟨g, 0, none⟩)] w fun e w' => e = .returned (.bool C.r2) ∧ Below w.heap.size w w' := by
  have h2 := cfg_cell h hb 2 _ (fun _ _ => rfl)
  have HC := Aside0.mk h
  have HK := Aside0.mk hb
  clear h hb
  go_enter Try.func88, Try.ntmps88
  go_wp2_with (first
    | ((with_reducible refine gate_dst (N := 2) rfl ?_); refine wpList_load_row rfl 41 (.tmp 0) rfl g rfl 41 cs (0, 0) _ HK.out Try.underlying41 rfl HC.out.info ?_)
    | (go_at_call 67; refine (within_cfg _ cs C C.server HC.out HC.out.fits.server hbits).mono ?_; rintro e w' ⟨rfl, hb2⟩; have HB2 := Aside0.mk hb2; clear hb2))
  go_ret
  exact ⟨rfl, HB2.out⟩
def Cfg.r3 (C : Cfg) : Bool := C.outs
set_option maxHeartbeats 4000000 in
theorem row3 (w : World) (g : Nat) (cs : Array Value) (C : Cfg) (h : IsCfg w cs C) (hb : w.heap[g]? = some (.cells cs 41 (0, 0))) (hbits : 8 ≤ C.bits ∧ C.bits ≤ 30) :
    Calls Try.prog 89 #[.pointer (some ⟨g, 0, none⟩)] w fun e w' => e = .returned (.bool C.r3) ∧ Below w.heap.size w w' := by
  have HC := Aside0.mk h
  have HK := Aside0.mk hb
  clear h hb
  go_enter Try.func89, Try.ntmps89
  go_wp2_with (first
    | ((with_reducible refine gate_dst (N := 2) rfl ?_); refine wpList_load_row rfl 41 (.tmp 0) rfl g rfl 41 cs (0, 0) _ HK.out Try.underlying41 rfl HC.out.info ?_)
    | (go_at_call 90; refine (outside_cfg _ cs C HC.out hbits).mono ?_; rintro e w' ⟨rfl, hb2⟩; have HB2 := Aside0.mk hb2; clear hb2))
  go_ret
  exact ⟨rfl, HB2.out⟩
def Cfg.r4 (C : Cfg) : Bool := btw C.block 16 2048 && Go.bits .and .i64 C.block (C.block - 1) == 0
set_option maxHeartbeats 4000000 in
theorem row4 (w : World) (g : Nat) (cs : Array Value) (C : Cfg) (h : IsCfg w cs C) (hb : w.heap[g]? = some (.cells cs 41 (0, 0))) :
    Calls Try.prog 91 #[.pointer (some ⟨g, 0, none⟩)] w fun e w' => e = .returned (.bool C.r4) ∧ Below w.heap.size w w' := by
  have h6 := cfg_cell h hb 6 _ (fun _ _ => rfl)
  have HF := Aside0.mk h.fits
  have Fblock := h.fits.block
  clear h hb
  cases hr0 : btw C.block 16 2048 with
  | false =>
    go_enter Try.func91, Try.ntmps91
    go_wp2_with (first | (go_at_call 66; refine (btw_calls _ _ _ _).mono ?_; rintro e w' ⟨rfl, rfl⟩))
    all_goals
      go_ret
      refine ⟨?_, Below.refl _ _⟩
      first
        | rfl
        | (show Ending.returned (.bool _) = Ending.returned (.bool _); congr 2; unfold Cfg.r4; simp [*])
  | true =>
    obtain ⟨b0, b1⟩ := btw_true hr0
    go_enter Try.func91, Try.ntmps91
    go_wp2_with (first | (go_at_call 66; refine (btw_calls _ _ _ _).mono ?_; rintro e w' ⟨rfl, rfl⟩))
    all_goals
      go_ret
      refine ⟨?_, Below.refl _ _⟩
      first
        | rfl
        | (show Ending.returned (.bool _) = Ending.returned (.bool _); congr 2; unfold Cfg.r4; simp [*])
def Cfg.r5 (C : Cfg) : Bool := btw C.low 1024 C.high && decide (C.high ≤ 65535) && (C.high - C.low + 1) % C.block == 0
set_option maxHeartbeats 4000000 in
theorem row5 (w : World) (g : Nat) (cs : Array Value) (C : Cfg) (h : IsCfg w cs C) (hb : w.heap[g]? = some (.cells cs 41 (0, 0))) (hblock : 16 ≤ C.block) :
    Calls Try.prog 92 #[.pointer (some ⟨g, 0, none⟩)] w fun e w' => e = .returned (.bool C.r5) ∧ Below w.heap.size w w' := by
  have h4 := cfg_cell h hb 4 _ (fun _ _ => rfl)
  have h5 := cfg_cell h hb 5 _ (fun _ _ => rfl)
  have h6 := cfg_cell h hb 6 _ (fun _ _ => rfl)
  have HF := Aside0.mk h.fits
  have Flow := h.fits.low
  clear h hb
  cases hr0 : btw C.low 1024 C.high with
  | false =>
    go_enter Try.func92, Try.ntmps92
    go_wp2_with (first | (go_at_call 66; refine (btw_calls _ _ _ _).mono ?_; rintro e w' ⟨rfl, rfl⟩))
    all_goals
      go_ret
      refine ⟨?_, Below.refl _ _⟩
      first
        | rfl
        | (show Ending.returned (.bool _) = Ending.returned (.bool _); congr 2; unfold Cfg.r5; simp [*])
  | true =>
    obtain ⟨b0, b1⟩ := btw_true hr0
    cases hr1 : decide (C.high ≤ 65535) with
    | false =>
      go_enter Try.func92, Try.ntmps92
      go_wp2_with (first | (go_at_call 66; refine (btw_calls _ _ _ _).mono ?_; rintro e w' ⟨rfl, rfl⟩))
      all_goals
        go_ret
        refine ⟨?_, Below.refl _ _⟩
        first
          | rfl
          | (show Ending.returned (.bool _) = Ending.returned (.bool _); congr 2; unfold Cfg.r5; simp [*])
    | true =>
      have b2 : C.high ≤ 65535 := of_decide_eq_true hr1
      have b3 : 0 ≤ C.high - C.low + 1 := by omega
      have b4 : 0 ≤ C.high - C.low := by omega
      go_enter Try.func92, Try.ntmps92
      go_wp2_with (first | (go_at_call 66; refine (btw_calls _ _ _ _).mono ?_; rintro e w' ⟨rfl, rfl⟩))
      all_goals
        go_ret
        refine ⟨?_, Below.refl _ _⟩
        first
          | rfl
          | (show Ending.returned (.bool _) = Ending.returned (.bool _); congr 2; unfold Cfg.r5; simp [*])
def Cfg.r6 (C : Cfg) : Bool := btw C.blocks 1 16 && btw C.maps 1 65536 && btw C.flows 1 65536
set_option maxHeartbeats 4000000 in
theorem row6 (w : World) (g : Nat) (cs : Array Value) (C : Cfg) (h : IsCfg w cs C) (hb : w.heap[g]? = some (.cells cs 41 (0, 0))) :
    Calls Try.prog 93 #[.pointer (some ⟨g, 0, none⟩)] w fun e w' => e = .returned (.bool C.r6) ∧ Below w.heap.size w w' := by
  have h7 := cfg_cell h hb 7 _ (fun _ _ => rfl)
  have h8 := cfg_cell h hb 8 _ (fun _ _ => rfl)
  have h9 := cfg_cell h hb 9 _ (fun _ _ => rfl)
  have HF := Aside0.mk h.fits
  have Fblocks := h.fits.blocks
  clear h hb
  cases hr0 : btw C.blocks 1 16 with
  | false =>
    go_enter Try.func93, Try.ntmps93
    go_wp2_with (first | (go_at_call 66; refine (btw_calls _ _ _ _).mono ?_; rintro e w' ⟨rfl, rfl⟩))
    all_goals
      go_ret
      refine ⟨?_, Below.refl _ _⟩
      first
        | rfl
        | (show Ending.returned (.bool _) = Ending.returned (.bool _); congr 2; unfold Cfg.r6; simp [*])
  | true =>
    cases hr1 : btw C.maps 1 65536 with
    | false =>
      go_enter Try.func93, Try.ntmps93
      go_wp2_with (first | (go_at_call 66; refine (btw_calls _ _ _ _).mono ?_; rintro e w' ⟨rfl, rfl⟩))
      all_goals
        go_ret
        refine ⟨?_, Below.refl _ _⟩
        first
          | rfl
          | (show Ending.returned (.bool _) = Ending.returned (.bool _); congr 2; unfold Cfg.r6; simp [*])
    | true =>
      go_enter Try.func93, Try.ntmps93
      go_wp2_with (first | (go_at_call 66; refine (btw_calls _ _ _ _).mono ?_; rintro e w' ⟨rfl, rfl⟩))
      all_goals
        go_ret
        refine ⟨?_, Below.refl _ _⟩
        first
          | rfl
          | (show Ending.returned (.bool _) = Ending.returned (.bool _); congr 2; unfold Cfg.r6; simp [*])
def Cfg.r7 (C : Cfg) : Bool := btw C.hold 1 1048576
set_option maxHeartbeats 4000000 in
theorem row7 (w : World) (g : Nat) (cs : Array Value) (C : Cfg) (h : IsCfg w cs C) (hb : w.heap[g]? = some (.cells cs 41 (0, 0))) :
    Calls Try.prog 94 #[.pointer (some ⟨g, 0, none⟩)] w fun e w' => e = .returned (.bool C.r7) ∧ Below w.heap.size w w' := by
  have h10 := cfg_cell h hb 10 _ (fun _ _ => rfl)
  have HF := Aside0.mk h.fits
  have Fhold := h.fits.hold
  clear h hb
  go_enter Try.func94, Try.ntmps94
  go_wp2_with (first | (go_at_call 66; refine (btw_calls _ _ _ _).mono ?_; rintro e w' ⟨rfl, rfl⟩))
  all_goals
    go_ret
    refine ⟨?_, Below.refl _ _⟩
    first
      | rfl
      | (show Ending.returned (.bool _) = Ending.returned (.bool _); congr 2; unfold Cfg.r7; simp [*])
def Cfg.r8 (C : Cfg) : Bool := btw C.udp 1 1048576 && btw C.icmp 1 1048576 && btw C.opn 1 1048576 && btw C.trans 1 1048576
set_option maxHeartbeats 4000000 in
theorem row8 (w : World) (g : Nat) (cs : Array Value) (C : Cfg) (h : IsCfg w cs C) (hb : w.heap[g]? = some (.cells cs 41 (0, 0))) :
    Calls Try.prog 95 #[.pointer (some ⟨g, 0, none⟩)] w fun e w' => e = .returned (.bool C.r8) ∧ Below w.heap.size w w' := by
  have h11 := cfg_cell h hb 11 _ (fun _ _ => rfl)
  have h12 := cfg_cell h hb 12 _ (fun _ _ => rfl)
  have h13 := cfg_cell h hb 13 _ (fun _ _ => rfl)
  have h14 := cfg_cell h hb 14 _ (fun _ _ => rfl)
  have HF := Aside0.mk h.fits
  have Fudp := h.fits.udp
  clear h hb
  cases hr0 : btw C.udp 1 1048576 with
  | false =>
    go_enter Try.func95, Try.ntmps95
    go_wp2_with (first | (go_at_call 66; refine (btw_calls _ _ _ _).mono ?_; rintro e w' ⟨rfl, rfl⟩))
    all_goals
      go_ret
      refine ⟨?_, Below.refl _ _⟩
      first
        | rfl
        | (show Ending.returned (.bool _) = Ending.returned (.bool _); congr 2; unfold Cfg.r8; simp [*])
  | true =>
    cases hr1 : btw C.icmp 1 1048576 with
    | false =>
      go_enter Try.func95, Try.ntmps95
      go_wp2_with (first | (go_at_call 66; refine (btw_calls _ _ _ _).mono ?_; rintro e w' ⟨rfl, rfl⟩))
      all_goals
        go_ret
        refine ⟨?_, Below.refl _ _⟩
        first
          | rfl
          | (show Ending.returned (.bool _) = Ending.returned (.bool _); congr 2; unfold Cfg.r8; simp [*])
    | true =>
      cases hr2 : btw C.opn 1 1048576 with
      | false =>
        go_enter Try.func95, Try.ntmps95
        go_wp2_with (first | (go_at_call 66; refine (btw_calls _ _ _ _).mono ?_; rintro e w' ⟨rfl, rfl⟩))
        all_goals
          go_ret
          refine ⟨?_, Below.refl _ _⟩
          first
            | rfl
            | (show Ending.returned (.bool _) = Ending.returned (.bool _); congr 2; unfold Cfg.r8; simp [*])
      | true =>
        go_enter Try.func95, Try.ntmps95
        go_wp2_with (first | (go_at_call 66; refine (btw_calls _ _ _ _).mono ?_; rintro e w' ⟨rfl, rfl⟩))
        all_goals
          go_ret
          refine ⟨?_, Below.refl _ _⟩
          first
            | rfl
            | (show Ending.returned (.bool _) = Ending.returned (.bool _); congr 2; unfold Cfg.r8; simp [*])
def Cfg.r9 (C : Cfg) : Bool := btw C.minlife 1 C.maxlife && decide (C.maxlife ≤ 16777216)
set_option maxHeartbeats 4000000 in
theorem row9 (w : World) (g : Nat) (cs : Array Value) (C : Cfg) (h : IsCfg w cs C) (hb : w.heap[g]? = some (.cells cs 41 (0, 0))) :
    Calls Try.prog 96 #[.pointer (some ⟨g, 0, none⟩)] w fun e w' => e = .returned (.bool C.r9) ∧ Below w.heap.size w w' := by
  have h15 := cfg_cell h hb 15 _ (fun _ _ => rfl)
  have h16 := cfg_cell h hb 16 _ (fun _ _ => rfl)
  have HF := Aside0.mk h.fits
  have Fminlife := h.fits.minlife
  clear h hb
  cases hr0 : btw C.minlife 1 C.maxlife with
  | false =>
    go_enter Try.func96, Try.ntmps96
    go_wp2_with (first | (go_at_call 66; refine (btw_calls _ _ _ _).mono ?_; rintro e w' ⟨rfl, rfl⟩))
    all_goals
      go_ret
      refine ⟨?_, Below.refl _ _⟩
      first
        | rfl
        | (show Ending.returned (.bool _) = Ending.returned (.bool _); congr 2; unfold Cfg.r9; simp [*])
  | true =>
    go_enter Try.func96, Try.ntmps96
    go_wp2_with (first | (go_at_call 66; refine (btw_calls _ _ _ _).mono ?_; rintro e w' ⟨rfl, rfl⟩))
    all_goals
      go_ret
      refine ⟨?_, Below.refl _ _⟩
      first
        | rfl
        | (show Ending.returned (.bool _) = Ending.returned (.bool _); congr 2; unfold Cfg.r9; simp [*])
def rowsCells (g : Nat) : Array Value :=
  #[.func (.func 86) #[] #[.pointer (some ⟨g, 0, none⟩)], .func (.func 88) #[] #[.pointer (some ⟨g, 0, none⟩)], .func (.func 89) #[] #[.pointer (some ⟨g, 0, none⟩)], .func (.func 91) #[] #[.pointer (some ⟨g, 0, none⟩)], .func (.func 92) #[] #[.pointer (some ⟨g, 0, none⟩)], .func (.func 93) #[] #[.pointer (some ⟨g, 0, none⟩)], .func (.func 94) #[] #[.pointer (some ⟨g, 0, none⟩)], .func (.func 95) #[] #[.pointer (some ⟨g, 0, none⟩)], .func (.func 96) #[] #[.pointer (some ⟨g, 0, none⟩)]]
set_option maxHeartbeats 4000000 in
theorem rows_calls (w : World) (cs : Array Value) :
    Calls Try.prog 59 #[.agg cs] w fun e w' => e = .returned (.slice (some ⟨w.heap.size + 1, 0, none⟩) 9 9) ∧ w' = (w.alloc (.cells cs 41)).alloc (.cells (rowsCells w.heap.size) 22) := by
  have hmf : ∀ (fn : Fn) (first cap : Array Value) (w : World), (Instr.makeFunc fn first cap).run Try.prog w = .ok (.func fn first cap) w := fun _ _ _ _ => rfl
  go_enter Try.func59, Try.ntmps59
  go_wp2
  go_ret
  exact ⟨rfl, rfl⟩
/-- the first row that doesn't hold; 0: none. -/
def Cfg.chk (C : Cfg) : Int :=
  if !C.r1 then 1 else if !C.r2 then 2 else if !C.r3 then 3 else if !C.r4 then 4 else if !C.r5 then 5 else if !C.r6 then 6 else if !C.r7 then 7 else if !C.r8 then 8 else if !C.r9 then 9 else 0
theorem r1_bits {C : Cfg} (h : C.r1 = true) : 8 ≤ C.bits ∧ C.bits ≤ 30 := by
  unfold Cfg.r1 at h
  simp only [Bool.and_eq_true] at h
  exact btw_true h.1.1
theorem r4_block {C : Cfg} (h : C.r4 = true) : 16 ≤ C.block := by
  unfold Cfg.r4 at h
  simp only [Bool.and_eq_true] at h
  exact (btw_true h.1).1
def errOf (n : Int) : Int := if n = 0 then 0 else 1
set_option maxHeartbeats 4000000 in
theorem check_calls (w : World) (cs : Array Value) (C : Cfg) (h : IsCfg w cs C) :
    Calls Try.prog 22 #[.agg cs] w fun e w' => e = .returned (.tuple #[.int .i64 C.chk, .int .i64 (errOf C.chk)]) ∧ Below w.heap.size w w' := by
  have HC := Aside0.mk h
  have HK := Aside0.mk (heap_alloc_new w (.cells cs 41))
  clear h
  go_enter Try.func22, Try.ntmps22
  go_wp2_with (first
    | ((with_reducible refine gate_dst (N := 6) rfl ?_); refine wpList_load_row rfl 41 (.tmp 1) rfl w.heap.size rfl 41 cs (0, 0) _ HK.out Try.underlying41 rfl HC.out.info ?_)
    | (go_at_call 59; refine (rows_calls _ cs).mono ?_; rintro e w' ⟨rfl, rfl⟩))
  obtain ⟨w0, hw0⟩ : ∃ x, x = ((w.alloc (.cells cs 41)).alloc (.cells cs 41)).alloc (.cells (rowsCells (w.heap.size + 1)) 22) := ⟨_, rfl⟩
  rw [← hw0]
  obtain ⟨g, hg⟩ : ∃ g, g = w.heap.size + 1 := ⟨_, rfl⟩
  rw [← hg]
  have S0 : Aside0 (Below w.heap.size w w0 ∧ w0.heap[g]? = some (.cells cs 41 (0, 0)) ∧ w0.heap[g + 1]? = some (.cells (rowsCells g) 22 (0, 0))) := by
    subst hw0 hg
    refine ⟨below_alloc (below_alloc (below_alloc (Below.refl _ w) _) _) _, ?_, ?_⟩
    · have := blk_alloc (heap_alloc_new (w.alloc (.cells cs 41)) (.cells cs 41)) (.cells (rowsCells (w.heap.size + 1)) 22)
      simpa using this
    · have := heap_alloc_new ((w.alloc (.cells cs 41)).alloc (.cells cs 41)) (.cells (rowsCells (w.heap.size + 1)) 22)
      simpa using this
  clear hw0 hg HK
  refine wp_loop_rounds 10 ?_
  cases h1 : C.r1 with
  | false =>
    have H1 := Aside0.mk h1
    clear h1
    rw [rounds_succ]
    have hf1 : w0.cell? ⟨g + 1, 0, none⟩ = some (.func (.func 86) #[] #[.pointer (some ⟨g, 0, none⟩)]) := (blk_cell S0.out.2.2 0).trans rfl
    go_wp2_with (go_at_call 86; refine (row1 _ _ cs C (HC.out.below S0.out.1) S0.out.2.1).mono ?_; rintro e w1 ⟨he, hb⟩; rw [H1.out] at he; subst he; have S1 : Aside0 (Below w.heap.size w w1 ∧ w1.heap[g]? = some (.cells cs 41 (0, 0)) ∧ w1.heap[g + 1]? = some (.cells (rowsCells g) 22 (0, 0))) := ⟨below_then S0.out.1 S0.out.1.size hb, blk_below S0.out.2.1 hb, blk_below S0.out.2.2 hb⟩; clear hb hf1)
    go_ret2
    refine ⟨?_, S1.out.1⟩
    have e : C.chk = 1 := by unfold Cfg.chk; simp [H1.out]
    rw [e]
    rfl
  | true =>
    have H1 := Aside0.mk h1
    have HBITS : Aside0 (8 ≤ C.bits ∧ C.bits ≤ 30) := ⟨r1_bits h1⟩
    clear h1
    rw [rounds_succ]
    have hf1 : w0.cell? ⟨g + 1, 0, none⟩ = some (.func (.func 86) #[] #[.pointer (some ⟨g, 0, none⟩)]) := (blk_cell S0.out.2.2 0).trans rfl
    go_wp2_with (go_at_call 86; refine (row1 _ _ cs C (HC.out.below S0.out.1) S0.out.2.1).mono ?_; rintro e w1 ⟨he, hb⟩; rw [H1.out] at he; subst he; have S1 : Aside0 (Below w.heap.size w w1 ∧ w1.heap[g]? = some (.cells cs 41 (0, 0)) ∧ w1.heap[g + 1]? = some (.cells (rowsCells g) 22 (0, 0))) := ⟨below_then S0.out.1 S0.out.1.size hb, blk_below S0.out.2.1 hb, blk_below S0.out.2.2 hb⟩; clear hb hf1)
    cases h2 : C.r2 with
    | false =>
      have H2 := Aside0.mk h2
      clear h2
      rw [rounds_succ]
      have hf2 : w1.cell? ⟨g + 1, 1, none⟩ = some (.func (.func 88) #[] #[.pointer (some ⟨g, 0, none⟩)]) := (blk_cell S1.out.2.2 1).trans rfl
      go_wp2_with (go_at_call 88; refine (row2 _ _ cs C (HC.out.below S1.out.1) S1.out.2.1 HBITS.out).mono ?_; rintro e w2 ⟨he, hb⟩; rw [H2.out] at he; subst he; have S2 : Aside0 (Below w.heap.size w w2 ∧ w2.heap[g]? = some (.cells cs 41 (0, 0)) ∧ w2.heap[g + 1]? = some (.cells (rowsCells g) 22 (0, 0))) := ⟨below_then S1.out.1 S1.out.1.size hb, blk_below S1.out.2.1 hb, blk_below S1.out.2.2 hb⟩; clear hb hf2)
      go_ret2
      refine ⟨?_, S2.out.1⟩
      have e : C.chk = 2 := by unfold Cfg.chk; simp [H1.out, H2.out]
      rw [e]
      rfl
    | true =>
      have H2 := Aside0.mk h2
      clear h2
      rw [rounds_succ]
      have hf2 : w1.cell? ⟨g + 1, 1, none⟩ = some (.func (.func 88) #[] #[.pointer (some ⟨g, 0, none⟩)]) := (blk_cell S1.out.2.2 1).trans rfl
      go_wp2_with (go_at_call 88; refine (row2 _ _ cs C (HC.out.below S1.out.1) S1.out.2.1 HBITS.out).mono ?_; rintro e w2 ⟨he, hb⟩; rw [H2.out] at he; subst he; have S2 : Aside0 (Below w.heap.size w w2 ∧ w2.heap[g]? = some (.cells cs 41 (0, 0)) ∧ w2.heap[g + 1]? = some (.cells (rowsCells g) 22 (0, 0))) := ⟨below_then S1.out.1 S1.out.1.size hb, blk_below S1.out.2.1 hb, blk_below S1.out.2.2 hb⟩; clear hb hf2)
      cases h3 : C.r3 with
      | false =>
        have H3 := Aside0.mk h3
        clear h3
        rw [rounds_succ]
        have hf3 : w2.cell? ⟨g + 1, 2, none⟩ = some (.func (.func 89) #[] #[.pointer (some ⟨g, 0, none⟩)]) := (blk_cell S2.out.2.2 2).trans rfl
        go_wp2_with (go_at_call 89; refine (row3 _ _ cs C (HC.out.below S2.out.1) S2.out.2.1 HBITS.out).mono ?_; rintro e w3 ⟨he, hb⟩; rw [H3.out] at he; subst he; have S3 : Aside0 (Below w.heap.size w w3 ∧ w3.heap[g]? = some (.cells cs 41 (0, 0)) ∧ w3.heap[g + 1]? = some (.cells (rowsCells g) 22 (0, 0))) := ⟨below_then S2.out.1 S2.out.1.size hb, blk_below S2.out.2.1 hb, blk_below S2.out.2.2 hb⟩; clear hb hf3)
        go_ret2
        refine ⟨?_, S3.out.1⟩
        have e : C.chk = 3 := by unfold Cfg.chk; simp [H1.out, H2.out, H3.out]
        rw [e]
        rfl
      | true =>
        have H3 := Aside0.mk h3
        clear h3
        rw [rounds_succ]
        have hf3 : w2.cell? ⟨g + 1, 2, none⟩ = some (.func (.func 89) #[] #[.pointer (some ⟨g, 0, none⟩)]) := (blk_cell S2.out.2.2 2).trans rfl
        go_wp2_with (go_at_call 89; refine (row3 _ _ cs C (HC.out.below S2.out.1) S2.out.2.1 HBITS.out).mono ?_; rintro e w3 ⟨he, hb⟩; rw [H3.out] at he; subst he; have S3 : Aside0 (Below w.heap.size w w3 ∧ w3.heap[g]? = some (.cells cs 41 (0, 0)) ∧ w3.heap[g + 1]? = some (.cells (rowsCells g) 22 (0, 0))) := ⟨below_then S2.out.1 S2.out.1.size hb, blk_below S2.out.2.1 hb, blk_below S2.out.2.2 hb⟩; clear hb hf3)
        cases h4 : C.r4 with
        | false =>
          have H4 := Aside0.mk h4
          clear h4
          rw [rounds_succ]
          have hf4 : w3.cell? ⟨g + 1, 3, none⟩ = some (.func (.func 91) #[] #[.pointer (some ⟨g, 0, none⟩)]) := (blk_cell S3.out.2.2 3).trans rfl
          go_wp2_with (go_at_call 91; refine (row4 _ _ cs C (HC.out.below S3.out.1) S3.out.2.1).mono ?_; rintro e w4 ⟨he, hb⟩; rw [H4.out] at he; subst he; have S4 : Aside0 (Below w.heap.size w w4 ∧ w4.heap[g]? = some (.cells cs 41 (0, 0)) ∧ w4.heap[g + 1]? = some (.cells (rowsCells g) 22 (0, 0))) := ⟨below_then S3.out.1 S3.out.1.size hb, blk_below S3.out.2.1 hb, blk_below S3.out.2.2 hb⟩; clear hb hf4)
          go_ret2
          refine ⟨?_, S4.out.1⟩
          have e : C.chk = 4 := by unfold Cfg.chk; simp [H1.out, H2.out, H3.out, H4.out]
          rw [e]
          rfl
        | true =>
          have H4 := Aside0.mk h4
          have HBLK : Aside0 (16 ≤ C.block) := ⟨r4_block h4⟩
          clear h4
          rw [rounds_succ]
          have hf4 : w3.cell? ⟨g + 1, 3, none⟩ = some (.func (.func 91) #[] #[.pointer (some ⟨g, 0, none⟩)]) := (blk_cell S3.out.2.2 3).trans rfl
          go_wp2_with (go_at_call 91; refine (row4 _ _ cs C (HC.out.below S3.out.1) S3.out.2.1).mono ?_; rintro e w4 ⟨he, hb⟩; rw [H4.out] at he; subst he; have S4 : Aside0 (Below w.heap.size w w4 ∧ w4.heap[g]? = some (.cells cs 41 (0, 0)) ∧ w4.heap[g + 1]? = some (.cells (rowsCells g) 22 (0, 0))) := ⟨below_then S3.out.1 S3.out.1.size hb, blk_below S3.out.2.1 hb, blk_below S3.out.2.2 hb⟩; clear hb hf4)
          cases h5 : C.r5 with
          | false =>
            have H5 := Aside0.mk h5
            clear h5
            rw [rounds_succ]
            have hf5 : w4.cell? ⟨g + 1, 4, none⟩ = some (.func (.func 92) #[] #[.pointer (some ⟨g, 0, none⟩)]) := (blk_cell S4.out.2.2 4).trans rfl
            go_wp2_with (go_at_call 92; refine (row5 _ _ cs C (HC.out.below S4.out.1) S4.out.2.1 HBLK.out).mono ?_; rintro e w5 ⟨he, hb⟩; rw [H5.out] at he; subst he; have S5 : Aside0 (Below w.heap.size w w5 ∧ w5.heap[g]? = some (.cells cs 41 (0, 0)) ∧ w5.heap[g + 1]? = some (.cells (rowsCells g) 22 (0, 0))) := ⟨below_then S4.out.1 S4.out.1.size hb, blk_below S4.out.2.1 hb, blk_below S4.out.2.2 hb⟩; clear hb hf5)
            go_ret2
            refine ⟨?_, S5.out.1⟩
            have e : C.chk = 5 := by unfold Cfg.chk; simp [H1.out, H2.out, H3.out, H4.out, H5.out]
            rw [e]
            rfl
          | true =>
            have H5 := Aside0.mk h5
            clear h5
            rw [rounds_succ]
            have hf5 : w4.cell? ⟨g + 1, 4, none⟩ = some (.func (.func 92) #[] #[.pointer (some ⟨g, 0, none⟩)]) := (blk_cell S4.out.2.2 4).trans rfl
            go_wp2_with (go_at_call 92; refine (row5 _ _ cs C (HC.out.below S4.out.1) S4.out.2.1 HBLK.out).mono ?_; rintro e w5 ⟨he, hb⟩; rw [H5.out] at he; subst he; have S5 : Aside0 (Below w.heap.size w w5 ∧ w5.heap[g]? = some (.cells cs 41 (0, 0)) ∧ w5.heap[g + 1]? = some (.cells (rowsCells g) 22 (0, 0))) := ⟨below_then S4.out.1 S4.out.1.size hb, blk_below S4.out.2.1 hb, blk_below S4.out.2.2 hb⟩; clear hb hf5)
            cases h6 : C.r6 with
            | false =>
              have H6 := Aside0.mk h6
              clear h6
              rw [rounds_succ]
              have hf6 : w5.cell? ⟨g + 1, 5, none⟩ = some (.func (.func 93) #[] #[.pointer (some ⟨g, 0, none⟩)]) := (blk_cell S5.out.2.2 5).trans rfl
              go_wp2_with (go_at_call 93; refine (row6 _ _ cs C (HC.out.below S5.out.1) S5.out.2.1).mono ?_; rintro e w6 ⟨he, hb⟩; rw [H6.out] at he; subst he; have S6 : Aside0 (Below w.heap.size w w6 ∧ w6.heap[g]? = some (.cells cs 41 (0, 0)) ∧ w6.heap[g + 1]? = some (.cells (rowsCells g) 22 (0, 0))) := ⟨below_then S5.out.1 S5.out.1.size hb, blk_below S5.out.2.1 hb, blk_below S5.out.2.2 hb⟩; clear hb hf6)
              go_ret2
              refine ⟨?_, S6.out.1⟩
              have e : C.chk = 6 := by unfold Cfg.chk; simp [H1.out, H2.out, H3.out, H4.out, H5.out, H6.out]
              rw [e]
              rfl
            | true =>
              have H6 := Aside0.mk h6
              clear h6
              rw [rounds_succ]
              have hf6 : w5.cell? ⟨g + 1, 5, none⟩ = some (.func (.func 93) #[] #[.pointer (some ⟨g, 0, none⟩)]) := (blk_cell S5.out.2.2 5).trans rfl
              go_wp2_with (go_at_call 93; refine (row6 _ _ cs C (HC.out.below S5.out.1) S5.out.2.1).mono ?_; rintro e w6 ⟨he, hb⟩; rw [H6.out] at he; subst he; have S6 : Aside0 (Below w.heap.size w w6 ∧ w6.heap[g]? = some (.cells cs 41 (0, 0)) ∧ w6.heap[g + 1]? = some (.cells (rowsCells g) 22 (0, 0))) := ⟨below_then S5.out.1 S5.out.1.size hb, blk_below S5.out.2.1 hb, blk_below S5.out.2.2 hb⟩; clear hb hf6)
              cases h7 : C.r7 with
              | false =>
                have H7 := Aside0.mk h7
                clear h7
                rw [rounds_succ]
                have hf7 : w6.cell? ⟨g + 1, 6, none⟩ = some (.func (.func 94) #[] #[.pointer (some ⟨g, 0, none⟩)]) := (blk_cell S6.out.2.2 6).trans rfl
                go_wp2_with (go_at_call 94; refine (row7 _ _ cs C (HC.out.below S6.out.1) S6.out.2.1).mono ?_; rintro e w7 ⟨he, hb⟩; rw [H7.out] at he; subst he; have S7 : Aside0 (Below w.heap.size w w7 ∧ w7.heap[g]? = some (.cells cs 41 (0, 0)) ∧ w7.heap[g + 1]? = some (.cells (rowsCells g) 22 (0, 0))) := ⟨below_then S6.out.1 S6.out.1.size hb, blk_below S6.out.2.1 hb, blk_below S6.out.2.2 hb⟩; clear hb hf7)
                go_ret2
                refine ⟨?_, S7.out.1⟩
                have e : C.chk = 7 := by unfold Cfg.chk; simp [H1.out, H2.out, H3.out, H4.out, H5.out, H6.out, H7.out]
                rw [e]
                rfl
              | true =>
                have H7 := Aside0.mk h7
                clear h7
                rw [rounds_succ]
                have hf7 : w6.cell? ⟨g + 1, 6, none⟩ = some (.func (.func 94) #[] #[.pointer (some ⟨g, 0, none⟩)]) := (blk_cell S6.out.2.2 6).trans rfl
                go_wp2_with (go_at_call 94; refine (row7 _ _ cs C (HC.out.below S6.out.1) S6.out.2.1).mono ?_; rintro e w7 ⟨he, hb⟩; rw [H7.out] at he; subst he; have S7 : Aside0 (Below w.heap.size w w7 ∧ w7.heap[g]? = some (.cells cs 41 (0, 0)) ∧ w7.heap[g + 1]? = some (.cells (rowsCells g) 22 (0, 0))) := ⟨below_then S6.out.1 S6.out.1.size hb, blk_below S6.out.2.1 hb, blk_below S6.out.2.2 hb⟩; clear hb hf7)
                cases h8 : C.r8 with
                | false =>
                  have H8 := Aside0.mk h8
                  clear h8
                  rw [rounds_succ]
                  have hf8 : w7.cell? ⟨g + 1, 7, none⟩ = some (.func (.func 95) #[] #[.pointer (some ⟨g, 0, none⟩)]) := (blk_cell S7.out.2.2 7).trans rfl
                  go_wp2_with (go_at_call 95; refine (row8 _ _ cs C (HC.out.below S7.out.1) S7.out.2.1).mono ?_; rintro e w8 ⟨he, hb⟩; rw [H8.out] at he; subst he; have S8 : Aside0 (Below w.heap.size w w8 ∧ w8.heap[g]? = some (.cells cs 41 (0, 0)) ∧ w8.heap[g + 1]? = some (.cells (rowsCells g) 22 (0, 0))) := ⟨below_then S7.out.1 S7.out.1.size hb, blk_below S7.out.2.1 hb, blk_below S7.out.2.2 hb⟩; clear hb hf8)
                  go_ret2
                  refine ⟨?_, S8.out.1⟩
                  have e : C.chk = 8 := by unfold Cfg.chk; simp [H1.out, H2.out, H3.out, H4.out, H5.out, H6.out, H7.out, H8.out]
                  rw [e]
                  rfl
                | true =>
                  have H8 := Aside0.mk h8
                  clear h8
                  rw [rounds_succ]
                  have hf8 : w7.cell? ⟨g + 1, 7, none⟩ = some (.func (.func 95) #[] #[.pointer (some ⟨g, 0, none⟩)]) := (blk_cell S7.out.2.2 7).trans rfl
                  go_wp2_with (go_at_call 95; refine (row8 _ _ cs C (HC.out.below S7.out.1) S7.out.2.1).mono ?_; rintro e w8 ⟨he, hb⟩; rw [H8.out] at he; subst he; have S8 : Aside0 (Below w.heap.size w w8 ∧ w8.heap[g]? = some (.cells cs 41 (0, 0)) ∧ w8.heap[g + 1]? = some (.cells (rowsCells g) 22 (0, 0))) := ⟨below_then S7.out.1 S7.out.1.size hb, blk_below S7.out.2.1 hb, blk_below S7.out.2.2 hb⟩; clear hb hf8)
                  cases h9 : C.r9 with
                  | false =>
                    have H9 := Aside0.mk h9
                    clear h9
                    rw [rounds_succ]
                    have hf9 : w8.cell? ⟨g + 1, 8, none⟩ = some (.func (.func 96) #[] #[.pointer (some ⟨g, 0, none⟩)]) := (blk_cell S8.out.2.2 8).trans rfl
                    go_wp2_with (go_at_call 96; refine (row9 _ _ cs C (HC.out.below S8.out.1) S8.out.2.1).mono ?_; rintro e w9 ⟨he, hb⟩; rw [H9.out] at he; subst he; have S9 : Aside0 (Below w.heap.size w w9 ∧ w9.heap[g]? = some (.cells cs 41 (0, 0)) ∧ w9.heap[g + 1]? = some (.cells (rowsCells g) 22 (0, 0))) := ⟨below_then S8.out.1 S8.out.1.size hb, blk_below S8.out.2.1 hb, blk_below S8.out.2.2 hb⟩; clear hb hf9)
                    go_ret2
                    refine ⟨?_, S9.out.1⟩
                    have e : C.chk = 9 := by unfold Cfg.chk; simp [H1.out, H2.out, H3.out, H4.out, H5.out, H6.out, H7.out, H8.out, H9.out]
                    rw [e]
                    rfl
                  | true =>
                    have H9 := Aside0.mk h9
                    clear h9
                    rw [rounds_succ]
                    have hf9 : w8.cell? ⟨g + 1, 8, none⟩ = some (.func (.func 96) #[] #[.pointer (some ⟨g, 0, none⟩)]) := (blk_cell S8.out.2.2 8).trans rfl
                    go_wp2_with (go_at_call 96; refine (row9 _ _ cs C (HC.out.below S8.out.1) S8.out.2.1).mono ?_; rintro e w9 ⟨he, hb⟩; rw [H9.out] at he; subst he; have S9 : Aside0 (Below w.heap.size w w9 ∧ w9.heap[g]? = some (.cells cs 41 (0, 0)) ∧ w9.heap[g + 1]? = some (.cells (rowsCells g) 22 (0, 0))) := ⟨below_then S8.out.1 S8.out.1.size hb, blk_below S8.out.2.1 hb, blk_below S8.out.2.2 hb⟩; clear hb hf9)
                    rw [rounds_succ]
                    go_wp2
                    go_ret2
                    refine ⟨?_, S9.out.1⟩
                    have e : C.chk = 0 := by unfold Cfg.chk; simp [H1.out, H2.out, H3.out, H4.out, H5.out, H6.out, H7.out, H8.out, H9.out]
                    rw [e]
                    rfl
end Go.Proofs.Ytoapbppjkidgiaa.Setup
