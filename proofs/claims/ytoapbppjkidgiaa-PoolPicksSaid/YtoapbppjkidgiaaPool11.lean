/- Pool11: PoolRests, of any shape. Conditions: the numbers are of their kinds. -/
import Derived.Test.YtoapbppjkidgiaaPool10
namespace Go.Proofs.Ytoapbppjkidgiaa.Pool
open Go.RowKit Go.Proofs.YtoapbppjkidgiaaW.PrintWords Go.Proofs.YtoapbppjkidgiaaW.PrintLast Go.Proofs.YtoapbppjkidgiaaW.PrintMore Tape Setup
set_option linter.unusedVariables false
set_option linter.unusedSimpArgs false
set_option maxRecDepth 100000
theorem isIn_nat {k N a b : Nat} (ha : a < k) (hb : b < N) : isIn k N a b = true := by
  unfold isIn
  rw [decide_eq_true (show (0 : Int) ≤ a by omega), decide_eq_true (show (a : Int) < k by omega), decide_eq_true (show (0 : Int) ≤ b by omega), decide_eq_true (show (b : Int) < N by omega)]
  rfl
theorem good_of {t : Int} (h0 : 0 ≤ t) (h1 : t ≤ 1099511627776) : good t = true := by
  unfold good
  rw [decide_eq_true h0, decide_eq_true h1]
  rfl
theorem give_free {k N a b : Nat} {m : Nat → Nat → Blk} {t st sub : Int} (ha : a < k) (hb : b < N) (hg : good t = true) (hf : fr (m a b) t = true) :
    tkE k N m a b t = 0 ∧ tkM k N m a b t st sub = upd m a b ⟨st, sub, (m a b).rest⟩ := by
  have ea : (a : Int).toNat = a := by omega
  have eb : (b : Int).toNat = b := by omega
  unfold tkE tkM
  rw [isIn_nat ha hb, hg, ea, eb, hf]
  exact ⟨rfl, rfl⟩
theorem give_not {k N a b : Nat} {m : Nat → Nat → Blk} {t st sub : Int} (ha : a < k) (hb : b < N) (hg : good t = true) (hf : fr (m a b) t = false) :
    tkE k N m a b t = 10 ∧ tkM k N m a b t st sub = m := by
  have ea : (a : Int).toNat = a := by omega
  have eb : (b : Int).toNat = b := by omega
  unfold tkE tkM
  rw [isIn_nat ha hb, hg, ea, eb, hf]
  exact ⟨rfl, rfl⟩
theorem back_held {k N a b : Nat} {m : Nat → Nat → Blk} {t hold : Int} (ha : a < k) (hb : b < N) (hg : good t = true) (hf : (m a b).is ≠ 0) :
    bkE k N m a b t = 0 ∧ bkM k N hold m a b t = upd m a b ⟨0, 0, t + hold⟩ := by
  have ea : (a : Int).toNat = a := by omega
  have eb : (b : Int).toNat = b := by omega
  have e : ((m a b).is == 0) = false := beq_eq_false_iff_ne.2 hf
  unfold bkE bkM
  rw [isIn_nat ha hb, hg, ea, eb, e]
  exact ⟨rfl, rfl⟩
theorem pick_other {k N b : Nat} {m : Nat → Nat → Blk} {t : Int} {l : List Int} (hma : mayAsk k 0 t = true) (hpa : pkAny k N m 0 t = true) (hf : fr (m 0 b) t = false) : pkB k N m 0 t l ≠ b := by
  intro e
  obtain ⟨_, _, h3, h4⟩ := pick_free (l := l) (show (mayAsk k 0 t && pkAny k N m 0 t) = true by rw [hma, hpa]; rfl)
  have h5 := h4 (Int.le_refl 0)
  rw [show pkA k N m 0 t l = 0 by omega, e, hf] at h3
  cases h3
theorem mayAsk_of {k : Nat} {t : Int} (hk : 1 ≤ k) (hg : good t = true) : mayAsk k 0 t = true := by
  unfold mayAsk
  rw [hg, decide_eq_true (show (0 : Int) < k by omega)]
  rfl
set_option maxHeartbeats 8000000 in
theorem rests_calls (w : World) (S : Shp) (block now : Int) (hS : S.Fits) (hb0 : i64 block) :
    Calls Try.prog 11 #[.agg S.cells, .int .i64 block, .int .i64 now] w fun e w' => e = .returned (.bool true) ∧ Below w.heap.size w w' := by
  have HS := Aside0.mk hS
  have hG := shp_good S hS
  have hcnt := shp_count S hS
  have hcb := upn_in S.count 4 (by decide)
  have hhb := upn_in S.hold 9 (by decide)
  have hhd : S.cfg.hold = upn S.hold 9 := rfl
  have hhi : S.cfg.high = 1023 + 16 * upn S.count 4 := rfl
  obtain ⟨N, hN⟩ := Int.eq_ofNat_of_zero_le (show 0 ≤ upn S.count 4 by omega)
  obtain ⟨H, hH⟩ : ∃ H, H = S.cfg.hold := ⟨_, rfl⟩
  rw [hN] at hcnt hcb hhi
  rw [← hhd, ← hH] at hhb
  have HH := Aside0.mk hH
  have HHI := Aside0.mk hhi
  have HCNT := Aside0.mk hcnt
  have HG := Aside0.mk hG
  have HBX := Aside0.mk hb0
  have HKS := Aside0.mk (heap_alloc_new w (.cells S.cells 60))
  clear hS hG hH hhd hhi hcnt hN hb0
  go_enter Try.func11, Try.ntmps11
  go_wp2_with fail
  refine (awake15_calls _).mono ?_
  rintro e w1 ⟨rfl, hb⟩
  have HB1 := Aside0.mk (below_then (below_alloc (Below.refl _ w) (.cells S.cells 60)) (by simp) hb)
  have HK1 := Aside0.mk (blk_below HKS.out hb)
  clear hb
  go_wp2_with (first
    | ((with_reducible refine gate_dst (N := 15) rfl ?_); refine wpList_load_row rfl 60 (.tmp 3) rfl w.heap.size rfl 60 S.cells (0, 0) _ HK1.out Try.underlying60 rfl (by kernel_rfl) ?_))
  refine (config_calls _ S HS.out).mono ?_
  rintro e wc ⟨cs, rfl, hc, hb⟩
  have HC := Aside0.mk hc
  have HBC := Aside0.mk (below_then HB1.out HB1.out.size hb)
  clear hc hb
  go_wp2_with (first
    | ((with_reducible refine gate_store (p := 7) (t := 41) rfl ?_); refine wpList_store_row rfl 41 (.tmp 7) (.tmp 16) rfl wc.heap.size cs rfl rfl 41 zCfg (heap_alloc_new wc (.cells zCfg 41)) HC.out.info HC.out.size.symm (IsCfg.one HC.out) ?_; (generalize hw2 : World.setRow _ _ _ = w2); have S2 : Aside0 (Below wc.heap.size wc w2 ∧ w2.heap[wc.heap.size]? = some (.cells cs 41 (0, 0))) := ⟨by subst hw2; exact ⟨below_setRow (below_alloc (Below.refl _ wc) _) (Nat.le_refl _) _, setRow_heap _ _ _ _ _ _ (heap_alloc_new wc (.cells zCfg 41))⟩⟩; clear hw2)
    | ((with_reducible refine gate_dst (N := 17) rfl ?_); refine wpList_load_row rfl 41 (.tmp 7) rfl wc.heap.size rfl 41 cs (0, 0) _ S2.out.2 Try.underlying41 rfl HC.out.info ?_))
  have HC2 := Aside0.mk (HC.out.below S2.out.1)
  refine (fresh_good _ cs _ HC2.out HG.out).mono ?_
  rintro e w3 ⟨g, ga, gs, rfl, hb, hp, h1, h2, h3⟩
  rw [HCNT.out, ← HH.out, show ((N : Int)).toNat = N by omega] at hp
  have HF3 := Aside0.mk hb
  have HP3 := Aside0.mk hp
  have HGS := Aside0.mk h3
  have hkk := hp.nk
  obtain ⟨k, hk⟩ : ∃ k, k = S.cfg.outer.length := ⟨_, rfl⟩
  rw [← hk] at HP3 HGS hkk
  have HKK := Aside0.mk hk
  have HK3 := Aside0.mk (blk_below S2.out.2 hb)
  have k5 : w3.cell? ⟨wc.heap.size, 5, none⟩ = some (.int .i64 (1023 + 16 * (N : Int))) := by rw [← HHI.out]; exact cfg_cell HC.out HK3.out 5 _ (fun _ _ => rfl)
  have k4 : w3.cell? ⟨wc.heap.size, 4, none⟩ = some (.int .i64 1024) := cfg_cell HC.out HK3.out 4 _ (fun _ _ => rfl)
  clear hb hp h1 h2 h3 hk
  go_wp2_with fail
  rw [show (1023 + 16 * (N : Int) - 1024 + 1) / 16 = N by omega]
  refine (round_calls _ block N HBX.out hcb).mono ?_
  rintro e w4 ⟨⟨b, hbN, rfl⟩, hw⟩
  obtain rfl := hw.symm
  obtain ⟨t, ht⟩ : ∃ t, t = now % 1073741824 := ⟨_, rfl⟩
  have htb : 0 ≤ t ∧ t < 1073741824 := by omega
  have ha : bits .and .i64 now 1073741823 = t := by rw [i64_and30, ht]
  clear ht k4 k5
  go_wp2_with fail
  have hbn : b < N := by omega
  have gt : good t = true := good_of htb.1 (by omega)
  have f0 : fr ((fun _ _ => m0 : Nat → Nat → Blk) 0 b) t = true := by
    unfold fr m0
    rw [decide_eq_true (show (-9223372036854775808 : Int) ≤ t by omega)]
    rfl
  have G1 := Aside0.mk (give_free (k := k) (N := N) (a := 0) (b := b) (m := fun _ _ => m0) (t := t) (st := 1) (sub := 5) (by omega) hbn gt f0)
  refine (give_calls _ g ga gs k N H (fun _ _ => m0) 0 b t 5 HP3.out).mono ?_
  rintro e w5 ⟨he, hp, hc⟩
  rw [show tkE k N (fun _ _ => m0) 0 b t = 0 from G1.out.1] at he
  subst he
  rw [show tkM k N (fun _ _ => m0) 0 b t 1 5 = upd (fun _ _ => m0) 0 b ⟨1, 5, m0.rest⟩ from G1.out.2] at hp
  obtain ⟨m1, hm1⟩ : ∃ m, m = upd (fun _ _ => m0) 0 b ⟨1, 5, m0.rest⟩ := ⟨_, rfl⟩
  rw [← hm1] at hp
  have f1 : m1 0 b = ⟨1, 5, m0.rest⟩ := by rw [hm1]; exact upd_same _ _ _ _
  have HP5 := Aside0.mk hp
  have HF5 := Aside0.mk (PoolChg.below hc HF3.out HF3.out.size (fun i hi => HGS.out i hi))
  clear hp hc hm1 f0 G1
  go_wp2_with fail
  have f2 : fr (m1 0 b) t = false := by rw [f1]; unfold fr; rfl
  have G2 := Aside0.mk (give_not (k := k) (N := N) (a := 0) (b := b) (m := m1) (t := t) (st := 1) (sub := 6) (by omega) hbn gt f2)
  refine (give_calls _ g ga gs k N H m1 0 b t 6 HP5.out).mono ?_
  rintro e w6 ⟨he, hp, hc⟩
  rw [show tkE k N m1 0 b t = 10 from G2.out.1] at he
  subst he
  rw [show tkM k N m1 0 b t 1 6 = m1 from G2.out.2] at hp
  have HP6 := Aside0.mk hp
  have HF6 := Aside0.mk (PoolChg.below hc HF5.out HF5.out.size (fun i hi => HGS.out i hi))
  clear hp hc f2 G2
  go_wp2_with fail
  have G3 := Aside0.mk (back_held (k := k) (N := N) (a := 0) (b := b) (m := m1) (t := t) (hold := H) (by omega) hbn gt (by rw [f1]; decide))
  refine (back_calls _ g ga gs k N H m1 0 b t HP6.out).mono ?_
  rintro e w7 ⟨he, hp, hc⟩
  rw [show bkE k N m1 0 b t = 0 from G3.out.1] at he
  subst he
  rw [show bkM k N H m1 0 b t = upd m1 0 b ⟨0, 0, t + H⟩ from G3.out.2] at hp
  obtain ⟨m2, hm2⟩ : ∃ m, m = upd m1 0 b ⟨0, 0, t + H⟩ := ⟨_, rfl⟩
  rw [← hm2] at hp
  have f3 : m2 0 b = ⟨0, 0, t + H⟩ := by rw [hm2]; exact upd_same _ _ _ _
  have HP7 := Aside0.mk hp
  have HF7 := Aside0.mk (PoolChg.below hc HF6.out HF6.out.size (fun i hi => HGS.out i hi))
  have F3 := Aside0.mk f3
  clear hp hc hm2 G3 f1 f3 hw gt
  go_wp2_with fail
  go_loopw [9] (fun x wr => ∃ i : Nat, (i : Int) ≤ H ∧ x = .int .i64 i ∧ Below w2.heap.size w2 wr ∧ PoolSt wr g ga gs k N H m2) (fun x _ => (H - intOf x).toNat)
  case atStart => exact ⟨0, by omega, rfl, HF7.out, HP7.out⟩
  case round =>
    obtain ⟨i, hi, rfl, hf, hp⟩ := hrel
    have HFR := Aside0.mk hf
    have HPR := Aside0.mk hp
    have HKR := Aside0.mk (blk_below S2.out.2 hf)
    have k10 : wr.cell? ⟨wc.heap.size, 10, none⟩ = some (.int .i64 H) := by rw [HH.out]; exact cfg_cell HC.out HKR.out 10 _ (fun _ _ => rfl)
    clear hf hp
    by_cases hlt : (i : Int) < H
    · have hltb : decide ((i : Int) < H) = true := decide_eq_true hlt
      have hwt : wrap64 (t + (i : Int)) = t + i := by unfold wrap64; omega
      have gt : good (t + i) = true := good_of (by omega) (by omega)
      have fi : fr (m2 0 b) (t + i) = false := by rw [F3.out]; unfold fr; rw [decide_eq_false (show ¬ ((⟨0, 0, t + H⟩ : Blk).rest ≤ t + (i : Int)) by show ¬ (t + H ≤ t + (i : Int)); omega)]; rfl
      have HMA := Aside0.mk (mayAsk_of hkk.1 gt)
      go_wp2_with fail
      refine (pick_calls _ g ga gs k N H m2 0 (t + i) none [] HPR.out rfl).mono ?_
      rintro e w8 ⟨rfl, _, hs⟩
      have HP8 := Aside0.mk (HPR.out.below hs)
      have HF8 := Aside0.mk (below_then HFR.out HFR.out.size hs)
      have G4 := Aside0.mk (give_not (k := k) (N := N) (a := 0) (b := b) (m := m2) (t := t + i) (st := 1) (sub := 6) (by omega) hbn gt fi)
      have OTH := Aside0.mk (fun hpa => pick_other (N := N) (l := []) HMA.out hpa fi)
      have give := Aside0.mk (give_calls w8 g ga gs k N H m2 0 b (t + i) 6 HP8.out)
      clear hs k10 gt fi hltb
      cases hpa : pkAny k N m2 0 (t + i) with
      | true =>
        have e6 : pkErr k N m2 0 (t + i) = 0 := by unfold pkErr; rw [HMA.out, hpa]; rfl
        have eb : (((pkB k N m2 0 (t + i) [] : Nat) : Int) == (b : Int)) = false := beq_eq_false_iff_ne.2 (fun e => OTH.out hpa (by omega))
        rw [e6]
        clear e6 hpa
        go_wp2_with fail
        refine give.out.mono ?_
        rintro e w9 ⟨he, hp, hc⟩
        rw [show tkE k N m2 0 b (t + i) = 10 from G4.out.1] at he
        subst he
        rw [show tkM k N m2 0 b (t + i) 1 6 = m2 from G4.out.2] at hp
        have HP9 := Aside0.mk hp
        have HF9 := Aside0.mk (PoolChg.below hc HF8.out HF8.out.size (fun i hi => HGS.out i hi))
        clear hp hc eb
        go_wp2
        go_roundw
        case rel => exact ⟨i + 1, by omega, by go_num, HF9.out, HP9.out⟩
        case measure => simp [intOf]; omega
      | false =>
        have e6 : pkErr k N m2 0 (t + i) = 6 := by unfold pkErr; rw [HMA.out, hpa]; rfl
        rw [e6]
        clear e6 hpa
        go_wp2_with fail
        refine give.out.mono ?_
        rintro e w9 ⟨he, hp, hc⟩
        rw [show tkE k N m2 0 b (t + i) = 10 from G4.out.1] at he
        subst he
        rw [show tkM k N m2 0 b (t + i) 1 6 = m2 from G4.out.2] at hp
        have HP9 := Aside0.mk hp
        have HF9 := Aside0.mk (PoolChg.below hc HF8.out HF8.out.size (fun i hi => HGS.out i hi))
        clear hp hc
        go_wp2
        go_roundw
        case rel => exact ⟨i + 1, by omega, by go_num, HF9.out, HP9.out⟩
        case measure => simp [intOf]; omega
    · have hltb : decide ((i : Int) < H) = false := decide_eq_false hlt
      have hwt : wrap64 (t + H) = t + H := by unfold wrap64; omega
      have gt : good (t + H) = true := good_of (by omega) (by omega)
      have fi : fr (m2 0 b) (t + H) = true := by rw [F3.out]; unfold fr; rw [decide_eq_true (show (⟨0, 0, t + H⟩ : Blk).rest ≤ t + H by show t + H ≤ t + H; omega)]; rfl
      have G5 := Aside0.mk (give_free (k := k) (N := N) (a := 0) (b := b) (m := m2) (t := t + H) (st := 1) (sub := 6) (by omega) hbn gt fi)
      clear gt fi
      go_wp2_with fail
      refine (give_calls _ g ga gs k N H m2 0 b (t + H) 6 HPR.out).mono ?_
      rintro e w9 ⟨he, hp, hc⟩
      rw [show tkE k N m2 0 b (t + H) = 0 from G5.out.1] at he
      subst he
      have HF9 := Aside0.mk (PoolChg.below hc HFR.out HFR.out.size (fun i hi => HGS.out i hi))
      clear hp hc
      go_wp2
      go_ret
      exact ⟨rfl, below_then HBC.out HBC.out.size (below_then S2.out.1 S2.out.1.size HF9.out)⟩
end Go.Proofs.Ytoapbppjkidgiaa.Pool
