/- Pool13: PoolPicks's walk, of any shape and bytes. Conditions: the numbers are of their kinds. -/
import Derived.Test.YtoapbppjkidgiaaPool12
namespace Go.Proofs.Ytoapbppjkidgiaa.Pool
open Go.RowKit Go.Proofs.YtoapbppjkidgiaaW.PrintWords Go.Proofs.YtoapbppjkidgiaaW.PrintLast Go.Proofs.YtoapbppjkidgiaaW.PrintMore Tape Setup
set_option linter.unusedVariables false
set_option linter.unusedSimpArgs false
set_option maxRecDepth 100000
set_option maxHeartbeats 8000000 in
theorem picks_calls (w : World) (S : Shp) (B : Option Addr) (xs : List Int) (cb : Nat) (hS : S.Fits) (hB : Kd.C (Kd.int .u8) w B xs.length xs) (hxs : ∀ x ∈ xs, 0 ≤ x ∧ x < 256) :
    Calls Try.prog 12 #[.agg S.cells, .slice B xs.length cb] w fun e w' => e = .returned (.bool true) ∧ Below w.heap.size w w' := by
  have HS := Aside0.mk hS
  have HROW := Aside0.mk hB
  have HXS := Aside0.mk hxs
  have hG := shp_good S hS
  have hcnt := shp_count S hS
  have hcb := upn_in S.count 4 (by decide)
  have hhd : S.cfg.hold = upn S.hold 9 := rfl
  have hhi : S.cfg.high = 1023 + 16 * upn S.count 4 := rfl
  obtain ⟨N, hN⟩ := Int.eq_ofNat_of_zero_le (show 0 ≤ upn S.count 4 by omega)
  obtain ⟨H, hH⟩ : ∃ H, H = S.cfg.hold := ⟨_, rfl⟩
  rw [hN] at hcnt hcb hhi
  have HH := Aside0.mk hH
  have HHI := Aside0.mk hhi
  have HCNT := Aside0.mk hcnt
  have HG := Aside0.mk hG
  have HKS := Aside0.mk (heap_alloc_new w (.cells S.cells 60))
  clear hS hG hH hhd hhi hcnt hN hB hxs
  go_enter Try.func12, Try.ntmps12
  go_wp2_with fail
  refine (awake15_calls _).mono ?_
  rintro e w1 ⟨rfl, hb⟩
  have HB1 := Aside0.mk (below_then (below_alloc (Below.refl _ w) (.cells S.cells 60)) (by simp) hb)
  have HK1 := Aside0.mk (blk_below HKS.out hb)
  clear hb
  go_wp2_with (first
    | ((with_reducible refine gate_dst (N := 18) rfl ?_); refine wpList_load_row rfl 60 (.tmp 2) rfl w.heap.size rfl 60 S.cells (0, 0) _ HK1.out Try.underlying60 rfl (by kernel_rfl) ?_))
  refine (config_calls _ S HS.out).mono ?_
  rintro e wc ⟨cs, rfl, hc, hb⟩
  have HC := Aside0.mk hc
  have HBC := Aside0.mk (below_then HB1.out HB1.out.size hb)
  have E3 : ∃ A c, cs[3]? = some (.slice A S.cfg.outer.length c) := by
    obtain ⟨_, A, c, hcs, _⟩ := hc
    exact ⟨A, c, by rw [hcs]; rfl⟩
  obtain ⟨A, cA, E3⟩ := E3
  have HE3 := Aside0.mk E3
  clear hc hb E3
  go_wp2_with (first
    | ((with_reducible refine gate_store (p := 5) (t := 41) rfl ?_); refine wpList_store_row rfl 41 (.tmp 5) (.tmp 19) rfl wc.heap.size cs rfl rfl 41 zCfg (heap_alloc_new wc (.cells zCfg 41)) HC.out.info HC.out.size.symm (IsCfg.one HC.out) ?_; (generalize hw2 : World.setRow _ _ _ = w2); have S2 : Aside0 (Below wc.heap.size wc w2 ∧ w2.heap[wc.heap.size]? = some (.cells cs 41 (0, 0))) := ⟨by subst hw2; exact ⟨below_setRow (below_alloc (Below.refl _ wc) _) (Nat.le_refl _) _, setRow_heap _ _ _ _ _ _ (heap_alloc_new wc (.cells zCfg 41))⟩⟩; clear hw2)
    | ((with_reducible refine gate_dst (N := 20) rfl ?_); refine wpList_load_row rfl 41 (.tmp 5) rfl wc.heap.size rfl 41 cs (0, 0) _ S2.out.2 Try.underlying41 rfl HC.out.info ?_))
  have HC2 := Aside0.mk (HC.out.below S2.out.1)
  refine (fresh_good _ cs _ HC2.out HG.out).mono ?_
  rintro e w3 ⟨g, ga, gs, rfl, hb, hp, h1, h2, h3⟩
  rw [HCNT.out, ← HH.out, show ((N : Int)).toNat = N by omega] at hp
  have HF3 := Aside0.mk hb
  have HP3 := Aside0.mk hp
  have HGS := Aside0.mk h3
  have hkk := hp.nk
  obtain ⟨k, hk⟩ : ∃ k, k = S.cfg.outer.length := ⟨_, rfl⟩
  rw [← hk] at HP3 HGS hkk HE3
  have HK3 := Aside0.mk (blk_below S2.out.2 hb)
  clear hb hp h1 h2 h3 hk
  go_wp2_with fail
  refine (new_step _).mono ?_
  rintro e w4 ⟨rfl, ht, hb, ha⟩
  obtain ⟨p, hp⟩ : ∃ p, p = w3.heap.size := ⟨_, rfl⟩
  rw [← hp] at ht ha
  have HPL : Aside0 (w2.heap.size ≤ p) := ⟨by rw [hp]; exact HF3.out.size⟩
  have HT4 := Aside0.mk ht
  have HA4 : Aside0 (Away w4 p gs k) := ⟨fun x hx => absurd hx (ha x)⟩
  have HP4 := Aside0.mk (HP3.out.below hb)
  have HF4 := Aside0.mk (below_then HF3.out HF3.out.size hb)
  have HWF := Aside0.mk (fun {W : World} (h : Below w2.heap.size w2 W) => below_then HBC.out HBC.out.size (below_then S2.out.1 S2.out.1.size h))
  rw [← hp]
  clear ht hb ha hp
  by_cases hxl : 10000 < xs.length
  · have hxb : decide ((10000 : Int) < (xs.length : Int)) = true := decide_eq_true (by omega)
    have hxc : decide ((xs.length : Int) > 10000) = true := decide_eq_true (by omega)
    go_wp2
    go_ret
    exact ⟨rfl, HWF.out HF4.out⟩
  · have hxb : decide ((10000 : Int) < (xs.length : Int)) = false := decide_eq_false (by omega)
    have hxc : decide ((xs.length : Int) > 10000) = false := decide_eq_false (by omega)
    go_wp2_with fail
    refine (add_step _ p [] B xs cb HT4.out (by simp; omega) (Kd.C_below HROW.out (HWF.out HF4.out)) HXS.out).mono ?_
    rintro e w5 ⟨rfl, ht, hs⟩
    have HT5 := Aside0.mk ht
    have HA5 := Aside0.mk (HA4.out.step hs HP4.out.lts)
    have HP5 := Aside0.mk (HP4.out.stepO (a := some p) HT4.out hs)
    have HF5 := Aside0.mk (HF4.out.grown hs.1 HF4.out.size (fun x e => by cases e; exact HPL.out))
    have HK5 := Aside0.mk (blk_below S2.out.2 HF5.out)
    have k3 : w5.cell? ⟨wc.heap.size, 3, none⟩ = some (.slice A k cA) := (blk_cell HK5.out 3).trans HE3.out
    have k5 : w5.cell? ⟨wc.heap.size, 5, none⟩ = some (.int .i64 (1023 + 16 * (N : Int))) := by rw [← HHI.out]; exact cfg_cell HC.out HK5.out 5 _ (fun _ _ => rfl)
    have k4 : w5.cell? ⟨wc.heap.size, 4, none⟩ = some (.int .i64 1024) := cfg_cell HC.out HK5.out 4 _ (fun _ _ => rfl)
    obtain ⟨n, hn⟩ : ∃ n, n = k * N := ⟨_, rfl⟩
    have hnb : n ≤ 8 * 4 := by rw [hn]; exact Nat.mul_le_mul hkk.2 (by omega)
    have hm : (k : Int) * (1023 + 16 * (N : Int) - 1024 + 1) = 16 * (n : Int) := by
      rw [show (1023 + 16 * (N : Int) - 1024 + 1) = 16 * (N : Int) by omega, Int.mul_left_comm, hn]
      simp
    have hw1 : wrap64 ((k : Int) * (1023 + 16 * (N : Int) - 1024 + 1)) = 16 * (n : Int) := by rw [hm]; unfold wrap64; omega
    have HN := Aside0.mk hn
    clear ht hs hn
    go_wp2_with fail
    have g3 : good 3 = true := by decide
    have HMA : Aside0 (mayAsk k (-1) 3 = true) := ⟨by unfold mayAsk; rw [g3, decide_eq_true (show (-1 : Int) < (k : Int) by omega)]; rfl⟩
    clear k3 k4 k5 hm hw1
    go_loopw [9] (fun x wr => ∃ (i : Nat) (m : Nat → Nat → Blk) (l : List Int), i ≤ n ∧ x = .int .i64 i ∧ Below w2.heap.size w2 wr ∧ PoolSt wr g ga gs k N H m ∧ TapeSt wr p l ∧ Away wr p gs k ∧ sumFr m 3 N k + i = n ∧ (helds m N 1 k).length = i) (fun x _ => n - (intOf x).toNat)
    case atStart => exact ⟨0, fun _ _ => m0, [] ++ xs, Nat.zero_le _, rfl, HF5.out, HP5.out, HT5.out, HA5.out, by rw [sumFr_new 3 (by decide), HN.out]; omega, by rw [helds_new 1 (by decide)]; rfl⟩
    case round =>
      obtain ⟨i, m, l, hi, rfl, hf, hp, ht, ha, hsum, hlen⟩ := hrel
      have HFR := Aside0.mk hf
      have HPR := Aside0.mk hp
      have HTR := Aside0.mk ht
      have HAR := Aside0.mk ha
      have HSUM := Aside0.mk hsum
      have HLEN := Aside0.mk hlen
      have hnf : nFree k N m (-1) 3 = (sumFr m 3 N k : Nat) := by unfold nFree; rw [if_pos HMA.out, if_neg (by decide)]
      have HNF := Aside0.mk hnf
      clear hf hp ht ha hlen hnf
      by_cases hlt : i < n
      · have hltb : decide ((i : Int) < (n : Int)) = true := decide_eq_true (by omega)
        have hltc : decide (i < n) = true := decide_eq_true hlt
        go_wp2_with fail
        refine (free_calls _ g ga gs k N H m (-1) 3 HPR.out).mono ?_
        rintro e w6 ⟨he, hb⟩
        rw [HNF.out, show ((sumFr m 3 N k : Nat) : Int) = (n : Int) - (i : Int) by omega] at he
        subst he
        have HF6 := Aside0.mk (below_then HFR.out HFR.out.size hb)
        have HP6 := Aside0.mk (HPR.out.below hb)
        obtain ⟨ht6, hs6⟩ := TapeO.below (a := some p) HTR.out hb
        have HT6 := Aside0.mk ht6
        have HA6 := Aside0.mk (HAR.out.step hs6 HPR.out.lts)
        have hw6 : wrap64 ((n : Int) - (i : Int)) = (n : Int) - (i : Int) := by unfold wrap64; omega
        have hpa : pkAny k N m (-1) 3 = true := by
          unfold pkAny
          rw [if_neg (by decide)]
          exact decide_eq_true ((adrs_sum m 3 N k).2 (by omega))
        have hpk := pick_free (l := l) (show (mayAsk k (-1) 3 && pkAny k N m (-1) 3) = true by rw [HMA.out, hpa]; rfl)
        have e6 : pkErr k N m (-1) 3 = 0 := by unfold pkErr; rw [HMA.out, hpa]; rfl
        have HE6 := Aside0.mk e6
        obtain ⟨x, hx⟩ : ∃ x, x = pkA k N m (-1) 3 l := ⟨_, rfl⟩
        obtain ⟨y, hy⟩ : ∃ y, y = pkB k N m (-1) 3 l := ⟨_, rfl⟩
        rw [← hx, ← hy] at hpk
        have HX := Aside0.mk hx
        have HY := Aside0.mk hy
        have HPK := Aside0.mk hpk
        have hiu : IntKind.u32.wrap (i : Int) = (i : Int) := by
          rw [IntKind.wrap_u32]
          omega
        clear hb ht6 hs6 hpa hpk e6 hx hy hsum
        go_wp2_with fail
        refine (pick_calls _ g ga gs k N H m (-1) 3 (some p) l HP6.out HT6.out).mono ?_
        rintro e w7 ⟨he, ht7, hs7⟩
        rw [HE6.out, ← HX.out, ← HY.out] at he
        subst he
        have HT7 := Aside0.mk ht7
        have HA7 := Aside0.mk (HA6.out.step hs7 HP6.out.lts)
        have HP7 := Aside0.mk (HP6.out.stepO (a := some p) HT6.out hs7)
        have HF7 := Aside0.mk (HF6.out.grown hs7.1 HF6.out.size (fun x e => by cases e; exact HPL.out))
        have GF := Aside0.mk (give_free (k := k) (N := N) (a := x) (b := y) (m := m) (t := 3) (st := 1) (sub := i) HPK.out.1 HPK.out.2.1 g3 HPK.out.2.2.1)
        clear ht7 hs7 hw6
        go_wp2_with fail
        refine (give_calls _ g ga gs k N H m x y 3 i HP7.out).mono ?_
        rintro e w8 ⟨he, hp8, hc8⟩
        rw [GF.out.1] at he
        subst he
        rw [GF.out.2] at hp8
        obtain ⟨ht8, ha8⟩ := tape_chg HP7.out HT7.out HA7.out hc8
        have hF8 := PoolChg.below hc8 HF7.out HF7.out.size (fun j hj => HGS.out j hj)
        have hoth : ∀ a b, ¬ (a = x ∧ b = y) → upd m x y ⟨1, i, (m x y).rest⟩ a b = m a b := fun a b hn => upd_other _ _ _ _ hn
        have hs8 := sumFr_upd (now := 3) (N := N) hoth HPK.out.2.1 HPK.out.2.2.1 (by rw [upd_same]; unfold fr; rfl) k
        have hfr : ((m x y).is == 1) = false := by
          have h0 := HPK.out.2.2.1
          unfold fr at h0
          rw [Bool.and_eq_true] at h0
          have h1 := eq_of_beq h0.1
          rw [h1]
          rfl
        have hh8 := helds_upd (s := 1) (N := N) hoth HPK.out.2.1 hfr (by rw [upd_same]; rfl) k
        rw [if_pos HPK.out.1] at hs8 hh8
        have HREL := Aside0.mk (And.intro hp8 (And.intro ht8 (And.intro ha8 (And.intro hF8 (And.intro hs8 hh8)))))
        clear hp8 hc8 ht8 ha8 hF8 hoth hs8 hfr hh8
        go_wp2
        go_roundw
        case rel =>
          obtain ⟨q1, q2, q3, q4, q5, q6⟩ := HREL.out
          have := HSUM.out
          have := HLEN.out
          exact ⟨i + 1, _, _, by omega, by go_num, q4, q1, q2, q3, by omega, by omega⟩
        case measure => simp [intOf]; omega
      · obtain rfl : i = n := by omega
        have hpa : pkAny k N m (-1) 3 = false := by
          unfold pkAny
          rw [if_neg (by decide)]
          refine decide_eq_false (fun h => ?_)
          have := (adrs_sum m 3 N k).1 h
          omega
        have e6 : pkErr k N m (-1) 3 = 6 := by unfold pkErr; rw [HMA.out, hpa]; rfl
        have HE6 := Aside0.mk e6
        clear hpa e6
        go_wp2_with fail
        refine (pick_calls _ g ga gs k N H m (-1) 3 (some p) l HPR.out HTR.out).mono ?_
        rintro e w7 ⟨he, ht7, hs7⟩
        rw [HE6.out] at he
        subst he
        have HP7 := Aside0.mk (HPR.out.stepO (a := some p) HTR.out hs7)
        have HF7 := Aside0.mk (HFR.out.grown hs7.1 HFR.out.size (fun x e => by cases e; exact HPL.out))
        clear ht7 hs7
        go_wp2_with fail
        refine (all_calls _ g ga gs k N H m HP7.out).mono ?_
        rintro e w8 ⟨v, rfl, hv, hb⟩
        obtain ⟨ad, cc, rfl⟩ := hv.len
        rw [HLEN.out]
        have HP8 := Aside0.mk (HP7.out.below hb)
        have HF8 := Aside0.mk (below_then HF7.out HF7.out.size hb)
        clear hv hb
        go_wp2_with fail
        refine (free_calls _ g ga gs k N H m (-1) 3 HP8.out).mono ?_
        rintro e w9 ⟨he, hb⟩
        rw [HNF.out, show ((sumFr m 3 N k : Nat) : Int) = 0 by omega] at he
        subst he
        have HF9 := Aside0.mk (below_then HF8.out HF8.out.size hb)
        clear hb
        go_wp2
        go_ret
        exact ⟨rfl, HWF.out HF9.out⟩
theorem picks_row (w : World) (S : Shp) (a : Option Addr) (len cap : Nat) (zs : List Int) (hS : S.Fits)
    (h : (a = none ∧ len = 0 ∧ cap = 0 ∧ zs = []) ∨ ∃ x, a = some x ∧ len ≤ cap ∧ cap ≤ maxLen ∧ zs.length = cap ∧ (∀ i, i < zs.length → w.cell? (x.add i) = some (.int .u8 (zs.getD i 0))) ∧ ∀ n ∈ zs, (Lit.int .u8 n).wf = true) :
    Calls Try.prog 12 #[.agg S.cells, .slice a len cap] w fun e w' => e = .returned (.bool true) ∧ Below w.heap.size w w' := by
  have h2 := h
  rcases h with ⟨rfl, rfl, rfl, rfl⟩ | ⟨x, rfl, h3, h4, _⟩
  · exact picks_calls w S none [] 0 hS (C_zero _) (by simp)
  · obtain ⟨l, rfl, hr, hm, hw, hc⟩ := ReadsInt.ofRowC h2
    exact picks_calls w S (some x) l cap hS (Kd.C_of_reads (d := (0 : Int)) (h1 := fun _ => rfl) hr) (bytes_wf hw)
end Go.Proofs.Ytoapbppjkidgiaa.Pool
