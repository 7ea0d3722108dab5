/- RefPool8: the reference pool's Pick. Conditions: the pool, the tape are ones of the reference. -/
import Derived.Test.YtoapbppjkidgiaaRefPool5
import Derived.Test.YtoapbppjkidgiaaRefPool7
import Derived.Test.YtoapbppjkidgiaaPool12
namespace Go.Proofs.Ytoapbppjkidgiaa.Pool
open Go.RowKit Go.Proofs.YtoapbppjkidgiaaW.PrintWords Go.Proofs.YtoapbppjkidgiaaW.PrintLast Go.Proofs.YtoapbppjkidgiaaW.PrintMore Tape Setup
set_option linter.unusedVariables false
set_option linter.unusedSimpArgs false
set_option maxRecDepth 100000
theorem RefSt.below {w w' : World} {tq base : Nat} {v : Value} {l : List Int} (h : RefSt w tq base v l) (hb : Below w.heap.size w w') : RefSt w' tq base v l := ⟨blk_below h.1 hb, Kd.Q_below h.2.1 hb, h.2.2⟩
theorem RefP.tq {w w' : World} {q qb : Nat} {k N : Nat} {hold : Int} {m : Nat → Nat → Blk} {tq base : Nat} {v : Value} {l : List Int} (h : RefP w q qb k N hold m) (ht : RefSt w tq base v l) (hc : Chg w w' (fun x => x = tq)) : RefP w' q qb k N hold m := by
  obtain ⟨cs, hh, _⟩ := h.head
  obtain ⟨L, hL, _⟩ := h.blk
  refine h.keep (fun x hx hx2 => hc.block x hx (fun e => ?_))
  rcases hx2 with rfl | rfl
  · exact blk_ne hh ht.1 (by decide) e
  · exact blk_ne hL ht.1 (by decide) e
theorem chg_below {w w' : World} {S : Nat → Prop} (h : Below w.heap.size w w') : Chg w w' S := ⟨h.os, h.tape, h.output, h.size, fun x hx _ => h.block x hx⟩
theorem chg_then {w a b : World} {S : Nat → Prop} (h : Chg w a S) (k : Chg a b S) : Chg w b S := Chg.trans h k (fun _ x => .inl x)
theorem rdraw_n (w : World) (q base : Nat) (v : Value) (l : List Int) (n : Nat) (h : RefSt w q base v l) :
    Calls Try.prog 20 #[.pointer (some ⟨q, 0, none⟩), .int .i64 n] w fun e w' => e = .returned (.int .i64 (dn l n : Nat)) ∧
      ∃ v', RefSt w' q base v' (rs l n) ∧ Chg w w' (fun k => k = q) ∧ v'.ownBlock = v.ownBlock := by
  refine (rdraw_any w q base v l n h).mono ?_
  rintro e w' ⟨rfl, h1⟩
  exact ⟨by rw [dn_eq], h1⟩
theorem nFree_one {k N : Nat} {m : Nat → Nat → Blk} {j : Nat} {now : Int} (hj : j < k) (hg : good now = true) : nFree k N m j now = ((frees (m j) now N).length : Nat) := by
  have e : mayAsk k j now = true := by unfold mayAsk; rw [hg, decide_eq_true (show (-1 : Int) ≤ j by omega), decide_eq_true (show (j : Int) < k by omega)]; rfl
  unfold nFree
  rw [if_pos e, if_pos (show (0 : Int) ≤ (j : Int) by omega)]
  rfl
theorem pkAny_free {k N : Nat} {m : Nat → Nat → Blk} {i now : Int} (h : mayAsk k i now = true) : pkAny k N m i now = decide (0 < nFree k N m i now) := by
  unfold pkAny nFree
  rw [if_pos h]
  by_cases hi : 0 ≤ i
  · rw [if_pos hi, if_pos hi]
    by_cases h2 : 0 < (frees (m i.toNat) now N).length
    · rw [decide_eq_true h2, decide_eq_true (by omega)]
    · rw [decide_eq_false h2, decide_eq_false (by omega)]
  · rw [if_neg hi, if_neg hi]
    by_cases h2 : 0 < (adrs m now N k).length
    · rw [decide_eq_true h2, decide_eq_true (by have := (adrs_sum m now N k).1 h2; omega)]
    · rw [decide_eq_false h2, decide_eq_false (fun h3 => h2 ((adrs_sum m now N k).2 (by omega)))]
def RPickOk (q qb : Nat) (k N : Nat) (hold : Int) (m : Nat → Nat → Blk) (i now : Int) (tq base : Nat) (v : Value) (l : List Int) (w : World) : Prop :=
  Calls Try.prog 55 #[.pointer (some ⟨q, 0, none⟩), .int .i64 i, .int .i64 now, .pointer (some ⟨tq, 0, none⟩)] w fun e w' =>
    e = .returned (.tuple #[.int .i64 (pkA k N m i now l : Nat), .int .i64 (pkB k N m i now l : Nat), .int .i64 (pkErr k N m i now)]) ∧ ∃ v', RefSt w' tq base v' (pkL k N m i now l) ∧ v'.ownBlock = v.ownBlock ∧ Chg w w' (fun x => x = tq)
set_option maxHeartbeats 2000000 in
theorem rpick_bad
  (w : World) (q qb : Nat) (k N : Nat) (hold : Int) (m : Nat → Nat → Blk) (i now : Int) (tq base : Nat) (v : Value) (l : List Int) (h : RefP w q qb k N hold m) (ht : RefSt w tq base v l) (em : mayAsk k i now = false) : RPickOk q qb k N hold m i now tq base v l w := by
  have e1 : pkErr k N m i now = 1 := by unfold pkErr; rw [em]; rfl
  have e2 : pkA k N m i now l = 0 := by unfold pkA; rw [em]; rfl
  have e3 : pkB k N m i now l = 0 := by unfold pkB; rw [em]; rfl
  have e4 : pkL k N m i now l = l := by unfold pkL; rw [em]; rfl
  unfold RPickOk
  rw [e1, e2, e3, e4]
  clear e1 e2 e3 e4
  have EM := em
  clear em
  obtain ⟨_, ⟨A, c, f3⟩, f18, _⟩ := h.facts
  have hk := h.nk
  have hN := h.nN
  have HR := Aside0.mk h
  have HT := Aside0.mk ht
  clear h ht
  by_cases t1 : i < -1
  · have t1b : decide (i < -1) = true := decide_eq_true t1
    go_enter Try.func55, Try.ntmps55
    go_wp2
    go_ret3
    exact ⟨rfl, v, HT.out, rfl, Chg.refl _ _⟩
  · have t1b : decide (i < -1) = false := decide_eq_false t1
    by_cases t2 : (k : Int) ≤ i
    · have t2b : decide ((k : Int) ≤ i) = true := decide_eq_true t2
      have t2c : decide (i ≥ (k : Int)) = true := decide_eq_true t2
      go_enter Try.func55, Try.ntmps55
      go_wp2
      go_ret3
      exact ⟨rfl, v, HT.out, rfl, Chg.refl _ _⟩
    · have t2b : decide ((k : Int) ≤ i) = false := decide_eq_false t2
      have t2c : decide (i ≥ (k : Int)) = false := decide_eq_false t2
      have hg : good now = false := by
        cases hg : good now with
        | false => rfl
        | true => unfold mayAsk at EM; rw [hg, decide_eq_true (show -1 ≤ i by omega), decide_eq_true (show i < (k : Int) by omega)] at EM; cases EM
      clear EM
      go_enter Try.func55, Try.ntmps55
      go_wp2_with (go_at_call 78; refine (good12_calls _ _).mono ?_; rintro e w' ⟨rfl, hw⟩; obtain rfl := hw.symm)
      go_ret3
      exact ⟨rfl, v, HT.out, rfl, Chg.refl _ _⟩
set_option maxHeartbeats 2000000 in
theorem rpick_none
  (w : World) (q qb : Nat) (k N : Nat) (hold : Int) (m : Nat → Nat → Blk) (i now : Int) (tq base : Nat) (v : Value) (l : List Int) (h : RefP w q qb k N hold m) (ht : RefSt w tq base v l) (em : mayAsk k i now = true) (ea : pkAny k N m i now = false) : RPickOk q qb k N hold m i now tq base v l w := by
  have e1 : pkErr k N m i now = 6 := by unfold pkErr; rw [em, ea]; rfl
  have e2 : pkA k N m i now l = 0 := by unfold pkA; rw [em, ea]; rfl
  have e3 : pkB k N m i now l = 0 := by unfold pkB; rw [em, ea]; rfl
  have e4 : pkL k N m i now l = l := by unfold pkL; rw [em, ea]; rfl
  unfold RPickOk
  rw [e1, e2, e3, e4]
  clear e1 e2 e3 e4
  have hma := em
  unfold mayAsk at hma
  simp only [Bool.and_eq_true, decide_eq_true_eq] at hma
  obtain ⟨⟨hm1, hm2⟩, hg⟩ := hma
  obtain ⟨_, ⟨A, c, f3⟩, f18, _⟩ := h.facts
  have hk := h.nk
  have hN := h.nN
  have HR := Aside0.mk h
  have HT := Aside0.mk ht
  clear h ht
  have t1b : decide (i < -1) = false := decide_eq_false (by omega)
  have t2b : decide ((k : Int) ≤ i) = false := decide_eq_false (by omega)
  have t2c : decide (i ≥ (k : Int)) = false := decide_eq_false (by omega)
  have hnf : nFree k N m i now = 0 := by
    rw [pkAny_free em] at ea
    have := of_decide_eq_false ea
    rw [cnt_free em] at this ⊢
    omega
  have HNF := Aside0.mk hnf
  clear em ea hm1 hm2 hnf
  go_enter Try.func55, Try.ntmps55
  go_wp2_with (first
    | (go_at_call 78; refine (good12_calls _ _).mono ?_; rintro e w' ⟨rfl, hw⟩; obtain rfl := hw.symm)
    | (go_at_call 79; refine (rfr_calls _ q qb k N hold m i now HR.out).mono ?_; rintro e w1 ⟨rfl, hb1⟩; rw [HNF.out]; have HB1 := Aside0.mk hb1; clear hb1))
  go_ret3
  exact ⟨rfl, v, RefSt.below HT.out HB1.out, rfl, chg_below HB1.out⟩
set_option maxHeartbeats 8000000 in
theorem rpick_one
  (w : World) (q qb : Nat) (k N : Nat) (hold : Int) (m : Nat → Nat → Blk) (x : Nat) (now : Int) (tq base : Nat) (v1 : Value) (l1 : List Int) (h : RefP w q qb k N hold m) (ht : RefSt w tq base v1 l1) (em : mayAsk k x now = true) (ea : pkAny k N m x now = true) : RPickOk q qb k N hold m x now tq base v1 l1 w := by
  have hma := em
  unfold mayAsk at hma
  simp only [Bool.and_eq_true, decide_eq_true_eq] at hma
  obtain ⟨⟨hm1, hm2⟩, hg⟩ := hma
  obtain ⟨_, ⟨A, c, f3⟩, f18, _⟩ := h.facts
  have hk := h.nk
  have hN := h.nN
  have HR := Aside0.mk h
  have HT := Aside0.mk ht
  clear h ht
  obtain ⟨i0, hi, hz0, hz1, hz2⟩ := info_parts Blk.info3
  have hx : x < k := by omega
  have hp0 : (0 : Int) ≤ (x : Int) := by omega
  have t1b : decide ((x : Int) < -1) = false := decide_eq_false (by omega)
  have t2b : decide ((k : Int) ≤ (x : Int)) = false := decide_eq_false (by omega)
  have t2c : decide ((x : Int) ≥ (k : Int)) = false := decide_eq_false (by omega)
  have t3 : ((x : Int) == -1) = false := beq_eq_false_iff_ne.2 (by omega)
  obtain ⟨F, hF⟩ : ∃ F, F = frees (m x) now N := ⟨_, rfl⟩
  have hnf : nFree k N m x now = (F.length : Nat) := by rw [nFree_one hx hg, hF]
  have hlp : 0 < F.length := by
    rw [pkAny_free em, hnf] at ea
    have := of_decide_eq_true ea
    omega
  have hd := dn_lt l1 hlp
  obtain ⟨X, hX⟩ : ∃ X, F[dn l1 F.length]? = some X := ⟨_, List.getElem?_eq_getElem hd⟩
  have ey : (mayAsk k x now && pkAny k N m x now) = true := by rw [em, ea]; rfl
  have eI : pkI k N m x now l1 = x := by unfold pkI; rw [if_pos hp0]; rfl
  have eT : pkT k N m x now l1 = l1 := by unfold pkT; rw [if_pos hp0]
  have e1 : pkErr k N m x now = 0 := by unfold pkErr; rw [em, ea]; rfl
  have e2 : pkA k N m x now l1 = x := by unfold pkA; rw [if_pos ey, eI]
  have e3 : pkB k N m x now l1 = X := by unfold pkB; rw [if_pos ey, eI, eT, ← hF, List.getD_eq_getElem?_getD, hX]; rfl
  have e4 : pkL k N m x now l1 = rs l1 F.length := by unfold pkL; rw [if_pos ey, eI, eT, ← hF]
  unfold RPickOk
  rw [e1, e2, e3, e4]
  have HFX := Aside0.mk hX
  have HF := Aside0.mk hF
  have HNF := Aside0.mk hnf
  have hl1 : ((F.length : Int) == 0) = false := beq_eq_false_iff_ne.2 (by omega)
  have hdx : (0 : Int) ≤ (dn l1 F.length : Int) ∧ (dn l1 F.length : Int) < (F.length : Int) := by omega
  clear e1 e2 e3 e4 ey eI eT em ea hm1 hm2 hX hF hnf
  go_enter Try.func55, Try.ntmps55
  go_wp2_with (first
    | (go_at_call 78; refine (good12_calls _ _).mono ?_; rintro e w' ⟨rfl, hw⟩; obtain rfl := hw.symm)
    | (go_at_call 79; refine (rfr_calls _ q qb k N hold m x now HR.out).mono ?_; rintro e w1 ⟨rfl, hb1⟩; rw [HNF.out]; have HBW := Aside0.mk hb1; have HRW := Aside0.mk (HR.out.below hb1); have HTW := Aside0.mk (RefSt.below HT.out hb1); clear hb1))
  clear f3 f18
  go_wp2_with fail
  go_loopw [13, 14] (fun u z wi => ∃ b : Nat, b ≤ N ∧ z = .int .i64 b ∧ Nums w1.heap.size wi u (frees (m x) now b) ∧ Below w1.heap.size w1 wi) (fun _ z _ => N - (intOf z).toNat)
  case atStart => exact ⟨0, Nat.zero_le _, rfl, ⟨World.ownsRow_nil _ _ _ _, by simp [frees]⟩, Below.refl _ _⟩
  case round =>
    rename World => wi
    obtain ⟨b, hb, rfl, hu, hB⟩ := hrel
    have HRI := Aside0.mk (HRW.out.below hB)
    obtain ⟨_, _, g18, _⟩ := HRI.out.facts
    have HBI := Aside0.mk hB
    have HU := Aside0.mk hu
    clear hB hu
    by_cases hltb : b < N
    · have hfl := frees_len (m x) now b
      have e3 : frees (m x) now (b + 1) = if fr (m x b) now then frees (m x) now b ++ [b] else frees (m x) now b := frees_succ _ _ _
      have HE3 := Aside0.mk e3
      clear e3
      go_wp2_with fail
      refine (rfree_calls wi q qb k N hold m x b now HRI.out hx hltb).mono ?_
      rintro e w5 ⟨rfl, hb5⟩
      have HB5 := Aside0.mk (below_then HBI.out HBI.out.size hb5)
      have HU5 := Aside0.mk (HU.out.below hb5)
      clear hb5 g18
      cases hf : fr (m x b) now with
      | true =>
        rw [hf, if_pos rfl] at HE3
        go_wp2_with (at_builtin; go_loud (refine wpList_append_own _ rfl _ _ 31 rfl w1.heap.size 3 i0 (.int .i64 0) 1 8 Try.underlying31 hi hz0 hz1 hz2 rfl (by decide) _ (frees (m x) now b).length ((frees (m x) now b).map (fun x : Nat => Value.int .i64 (x : Int))) rfl (HU5.out.1.alloc _) ⟨w5.heap.size, 0, none⟩ 1 1 [.int .i64 (b : Int)] rfl rfl (cell_one_new _ _ _) (by simp [Value.oneCell']) (by unfold maxLen; omega) (by omega) (by rw [World.size_alloc]; have := HB5.out.size; omega) ?_; intro v' w6 hown' hgrow _))
        have hB6 : Below w1.heap.size w1 w6 := Below.own (HB5.out.alloc HB5.out.size _) (by rw [World.size_alloc]; have := HB5.out.size; omega) (HU5.out.1.alloc _) hgrow
        go_roundw
        case rel =>
          refine ⟨b + 1, by omega, by go_num, ?_, hB6⟩
          rw [HE3.out]
          refine ⟨?_, ?_⟩
          · rw [List.length_append, List.map_append]
            exact hown'
          · obtain ⟨g', cap', rfl⟩ := ownsRow_succ hown'
            simp
        case measure => simp [intOf]; omega
      | false =>
        rw [hf] at HE3
        go_wp2
        go_roundw
        case rel => exact ⟨b + 1, by omega, by go_num, by rw [HE3.out]; exact HU5.out, HB5.out⟩
        case measure => simp [intOf]; omega
    · obtain rfl : b = N := by omega
      rw [← HF.out] at HU
      obtain ⟨b0, c0, rfl⟩ := HU.out.at hlp
      have HTD := Aside0.mk (RefSt.below HTW.out (below_drew HBI.out))
      have HV2 := Aside0.mk (HU.out.below (below_drew (Below.refl _ wi)))
      have HCX := Aside0.mk (HV2.out.cell0 HFX.out)
      have HTQ : Aside0 (tq < w1.heap.size) := ⟨blk_lt HTW.out.1⟩
      go_wp2_with fail
      clear g18
      refine start_ (n := 11) (S := fun w' => w'.cell? ⟨b0, dn l1 F.length, none⟩ = some (.int .i64 (X : Nat))) (ds := []) #[false, false, false, false, false, false, false, false, false, false, false] (by kernel_rfl) rfl rfl (HCX.out) (fun hHeld => ?_)
      refine pure_ (i := 0) (N := some 82) (v := ?_) (a' := ?_) #[true, false, false, false, false, false, false, false, false, false, false] rfl rfl (by kernel_rfl) (fun _ _ _ h => h) (Or.inl ⟨by rfl, ?_⟩) ?_ ?_
      rotate_left
      · intro w'
        go_simp
        with_reducible rfl
      rotate_left
      · simp only [Act.put, List.setIfInBounds_toArray, List.set_cons_zero, List.set_cons_succ, i64_w, i32_w]
        rfl
      refine pure_ (i := 1) (N := some 83) (v := ?_) (a' := ?_) #[true, true, false, false, false, false, false, false, false, false, false] rfl rfl (by kernel_rfl) (fun _ _ _ h => h) (Or.inl ⟨by rfl, ?_⟩) ?_ ?_
      rotate_left
      · intro w'
        go_simp
        with_reducible rfl
      rotate_left
      · simp only [Act.put, List.setIfInBounds_toArray, List.set_cons_zero, List.set_cons_succ, i64_w, i32_w]
        rfl
      refine pure_ (i := 2) (N := some 84) (v := ?_) (a' := ?_) #[true, true, true, false, false, false, false, false, false, false, false] rfl rfl (by kernel_rfl) (fun _ _ _ h => h) (Or.inl ⟨by rfl, ?_⟩) ?_ ?_
      rotate_left
      · intro w'
        go_simp
        with_reducible rfl
      rotate_left
      · simp only [Act.put, List.setIfInBounds_toArray, List.set_cons_zero, List.set_cons_succ, i64_w, i32_w]
        rfl
      refine pure_ (i := 3) (N := some 85) (v := ?_) (a' := ?_) #[true, true, true, true, false, false, false, false, false, false, false] rfl rfl (by kernel_rfl) (fun _ _ _ h => h) (Or.inl ⟨by rfl, ?_⟩) ?_ ?_
      rotate_left
      · intro w'
        go_simp
        with_reducible rfl
      rotate_left
      · simp only [Act.put, List.setIfInBounds_toArray, List.set_cons_zero, List.set_cons_succ, i64_w, i32_w]
        rfl
      refine pure_ (i := 4) (N := some 86) (v := ?_) (a' := ?_) #[true, true, true, true, true, false, false, false, false, false, false] rfl rfl (by kernel_rfl) (fun _ _ _ h => h) (Or.inl ⟨by rfl, ?_⟩) ?_ ?_
      rotate_left
      · intro w'
        go_simp
        with_reducible rfl
      rotate_left
      · simp only [Act.put, List.setIfInBounds_toArray, List.set_cons_zero, List.set_cons_succ, i64_w, i32_w]
        rfl
      refine one_ (i := 5) (N := some 87) #[true, true, true, true, true, true, false, false, false, false, false] rfl rfl (by kernel_rfl) (by decide) (fun K hK => ?_)
      refine goes_ Try.func20 (by kernel_rfl) rfl #[.pointer (some ⟨tq, 0, none⟩), .int .i64 F.length] (by rfl) rfl rfl (by simp only [List.map_toArray, List.map_cons, List.map_nil]; rfl) ?_
      with_reducible refine (rdraw_n _ tq base v1 l1 F.length HTD.out).mono ?_
      rintro e w7 ⟨rfl, v7, ht7, hc7, ho7⟩
      refine ⟨_, rfl, ?_⟩
      have HT7 := Aside0.mk ht7
      have HC7 := Aside0.mk hc7
      have HO7 := Aside0.mk ho7
      have HV7 := Aside0.mk (HV2.out.grown (row := some tq) ⟨hc7.os, hc7.tape, hc7.output, hc7.size, fun k hk hn => hc7.block k hk (fun e => hn (by rw [e]))⟩ (fun r e => by cases e; exact HTQ.out))
      clear ht7 hc7 ho7
      refine hK.out _ _ (HV7.out.cell0 HFX.out) (fun hHeld => ?_)
      clear hK K
      refine norm_ (a' := ?_) ?_ ?_
      rotate_left
      · show Act.put _ (some 87) _ = _
        simp only [Act.put, List.setIfInBounds_toArray, List.set_cons_zero, List.set_cons_succ, i64_w, i32_w]
        rfl
      refine pure_ (i := 6) (N := some 88) (v := ?_) (a' := ?_) #[true, true, true, true, true, true, true, false, false, false, false] rfl rfl (by kernel_rfl) (fun _ _ _ h => h) (Or.inl ⟨by rfl, ?_⟩) ?_ ?_
      rotate_left
      · intro w'
        go_simp
        with_reducible rfl
      rotate_left
      · simp only [Act.put, List.setIfInBounds_toArray, List.set_cons_zero, List.set_cons_succ, i64_w, i32_w]
        rfl
      refine pure_ (i := 8) (N := some 8) (v := ?_) (a' := ?_) #[true, true, true, true, true, true, true, false, true, false, false] rfl rfl (by kernel_rfl) (fun _ _ _ h => h) (Or.inl ⟨by rfl, ?_⟩) ?_ ?_
      rotate_left
      · intro w'
        go_simp
        with_reducible rfl
      rotate_left
      · simp only [Act.put, List.setIfInBounds_toArray, List.set_cons_zero, List.set_cons_succ, i64_w, i32_w]
        rfl
      refine take_ (i := 7) (N := some 89) (v := ?_) (a' := ?_) #[true, true, true, true, true, true, true, true, true, false, false] rfl rfl (by kernel_rfl) (fun _ _ _ h => h) (Or.inl ⟨by rfl, ?_⟩) hHeld ?_ ?_
      rotate_left
      · intro w' s0
        go_simp
        with_reducible rfl
      rotate_left
      · simp only [Act.put, List.setIfInBounds_toArray, List.set_cons_zero, List.set_cons_succ, i64_w, i32_w]
        rfl
      refine pure_ (i := 9) (N := some 9) (v := ?_) (a' := ?_) #[true, true, true, true, true, true, true, true, true, true, false] rfl rfl (by kernel_rfl) (fun _ _ _ h => h) (Or.inl ⟨by rfl, ?_⟩) ?_ ?_
      rotate_left
      · intro w'
        go_simp
        with_reducible rfl
      rotate_left
      · simp only [Act.put, List.setIfInBounds_toArray, List.set_cons_zero, List.set_cons_succ, i64_w, i32_w]
        rfl
      refine pure_ (i := 10) (N := some 10) (v := ?_) (a' := ?_) #[true, true, true, true, true, true, true, true, true, true, true] rfl rfl (by kernel_rfl) (fun _ _ _ h => h) (Or.inl ⟨by rfl, ?_⟩) ?_ ?_
      rotate_left
      · intro w'
        go_simp
        with_reducible rfl
      rotate_left
      · simp only [Act.put, List.setIfInBounds_toArray, List.set_cons_zero, List.set_cons_succ, i64_w, i32_w]
        rfl
      refine done_ (by kernel_rfl) ?_
      go_wp2
      go_ret3

      exact ⟨rfl, v7, HT7.out, HO7.out, chg_then (chg_below (below_drew (below_then HBW.out HBW.out.size HBI.out))) HC7.out⟩
set_option maxHeartbeats 8000000 in
theorem rpick_any
  (w : World) (q qb : Nat) (k N : Nat) (hold : Int) (m : Nat → Nat → Blk) (now : Int) (tq base : Nat) (v : Value) (l : List Int) (h : RefP w q qb k N hold m) (ht : RefSt w tq base v l) (em : mayAsk k (-1) now = true) (ea : pkAny k N m (-1) now = true) : RPickOk q qb k N hold m (-1) now tq base v l w := by
  have hma := em
  unfold mayAsk at hma
  simp only [Bool.and_eq_true, decide_eq_true_eq] at hma
  obtain ⟨⟨hm1, hm2⟩, hg⟩ := hma
  obtain ⟨_, ⟨A, c, f3⟩, f18, _⟩ := h.facts
  have hk := h.nk
  have hN := h.nN
  have HR := Aside0.mk h
  have HT := Aside0.mk ht
  clear h ht
  obtain ⟨i0, hi, hz0, hz1, hz2⟩ := info_parts Blk.info3
  have t2b : decide ((k : Int) ≤ -1) = false := decide_eq_false (by omega)
  have t2c : decide ((-1 : Int) ≥ (k : Int)) = false := decide_eq_false (by omega)
  have hnp : ¬ nFree k N m (-1) now = 0 := by
    have h2 := ea
    rw [pkAny_free em] at h2
    have := of_decide_eq_true h2
    omega
  have hnb : (nFree k N m (-1) now == 0) = false := beq_eq_false_iff_ne.2 hnp
  obtain ⟨nf, hnf⟩ : ∃ z, z = nFree k N m (-1) now := ⟨_, rfl⟩
  rw [← hnf] at hnb hnp
  have HNF := Aside0.mk hnf
  have EY := Aside0.mk (And.intro em ea)
  unfold RPickOk
  clear em ea hm1 hm2 hnf
  go_enter Try.func55, Try.ntmps55
  go_wp2_with (first
    | (go_at_call 78; refine (good12_calls _ _).mono ?_; rintro e w' ⟨rfl, hw⟩; obtain rfl := hw.symm)
    | (go_at_call 79; refine (rfr_calls _ q qb k N hold m (-1) now HR.out).mono ?_; rintro e w1 ⟨rfl, hb1⟩; rw [← HNF.out]; have HB1 := Aside0.mk hb1; clear hb1))
  clear f3 f18 t2b t2c
  go_loopw [11, 12] (fun u z wr => ∃ j : Nat, j ≤ k ∧ z = .int .i64 j ∧ Nums w.heap.size wr u (adrs m now N j) ∧ Below w.heap.size w wr) (fun _ z _ => k - (intOf z).toNat)
  case atStart => exact ⟨0, Nat.zero_le _, rfl, ⟨World.ownsRow_nil _ _ _ _, by simp [adrs]⟩, HB1.out⟩
  case round =>
    obtain ⟨j, hj, rfl, hv, hB⟩ := hrel
    have HB := Aside0.mk hB
    have HV := Aside0.mk hv
    have HRJ := Aside0.mk (HR.out.below hB)
    obtain ⟨_, ⟨A3, c3, g3⟩, _, _⟩ := HRJ.out.facts
    clear hB hv
    by_cases hlt : j < k
    · have hal := adrs_len m now N j
      have e2 : adrs m now N (j + 1) = if 0 < (frees (m j) now N).length then adrs m now N j ++ [j] else adrs m now N j := rfl
      have hn1 := nFree_one (N := N) (m := m) hlt hg
      obtain ⟨fl, hfl⟩ : ∃ z, z = (frees (m j) now N).length := ⟨_, rfl⟩
      rw [← hfl] at e2 hn1
      have HN1 := Aside0.mk hn1
      clear hfl hn1
      go_wp2_with fail
      refine (rfr_calls _ q qb k N hold m j now HRJ.out).mono ?_
      rintro e w2 ⟨rfl, hb2⟩
      rw [HN1.out]
      have HV2 := Aside0.mk (HV.out.below hb2)
      have HB2 := Aside0.mk (below_then HB.out HB.out.size hb2)
      clear hb2 g3
      by_cases hp : 0 < fl
      · have p1 : decide (0 < fl) = true := decide_eq_true hp
        have p2 : decide ((0 : Int) < (fl : Int)) = true := decide_eq_true (by omega)
        have p3 : decide ((fl : Int) > 0) = true := decide_eq_true (by omega)
        rw [if_pos hp] at e2
        have HE := Aside0.mk e2
        clear e2
        go_wp2_with (at_builtin; go_loud (refine wpList_append_own _ rfl _ _ 31 rfl w.heap.size 3 i0 (.int .i64 0) 1 8 Try.underlying31 hi hz0 hz1 hz2 rfl (by decide) _ (adrs m now N j).length ((adrs m now N j).map (fun x : Nat => Value.int .i64 (x : Int))) rfl (HV2.out.1.alloc _) ⟨w2.heap.size, 0, none⟩ 1 1 [.int .i64 (j : Int)] rfl rfl (cell_one_new _ _ _) (by simp [Value.oneCell']) (by unfold maxLen; omega) (by omega) (by rw [World.size_alloc]; have := HB2.out.size; omega) ?_; intro v' w3 hown' hgrow _))
        have hB3 : Below w.heap.size w w3 := Below.own (HB2.out.alloc HB2.out.size _) (by rw [World.size_alloc]; have := HB2.out.size; omega) (HV2.out.1.alloc _) hgrow
        go_roundw
        case rel =>
          refine ⟨j + 1, by omega, by go_num, ?_, hB3⟩
          rw [HE.out]
          refine ⟨?_, ?_⟩
          · rw [List.length_append, List.map_append]
            exact hown'
          · obtain ⟨g', cap', rfl⟩ := ownsRow_succ hown'
            simp
        case measure => simp [intOf]; omega
      · have p1 : decide (0 < fl) = false := decide_eq_false hp
        have p2 : decide ((0 : Int) < (fl : Int)) = false := decide_eq_false (by omega)
        have p3 : decide ((fl : Int) > 0) = false := decide_eq_false (by omega)
        rw [if_neg hp] at e2
        have HE := Aside0.mk e2
        clear e2
        go_wp2
        go_roundw
        case rel => exact ⟨j + 1, by omega, by go_num, by rw [HE.out]; exact HV2.out, HB2.out⟩
        case measure => simp [intOf]; omega
    · obtain rfl : j = k := by omega
      obtain ⟨A, hA⟩ : ∃ A, A = adrs m now N j := ⟨_, rfl⟩
      have hlA : 0 < A.length := by
        have h2 := EY.out.2
        unfold pkAny at h2
        rw [if_neg (by decide)] at h2
        rw [hA]
        exact of_decide_eq_true h2
      rw [← hA] at HV
      have HAA := Aside0.mk hA
      have hd0 := dn_lt l hlA
      obtain ⟨x, hy⟩ : ∃ y, A[dn l A.length]? = some y := ⟨_, List.getElem?_eq_getElem hd0⟩
      have hyA : x ∈ adrs m now N j := by rw [← hA]; exact List.mem_of_getElem? hy
      obtain ⟨hx, hlp⟩ := adrs_mem m now N hyA
      obtain ⟨F, hF⟩ : ∃ F, F = frees (m x) now N := ⟨_, rfl⟩
      rw [← hF] at hlp
      obtain ⟨l1, hl1⟩ : ∃ z, z = rs l A.length := ⟨_, rfl⟩
      have hd := dn_lt l1 hlp
      obtain ⟨X, hX⟩ : ∃ X, F[dn l1 F.length]? = some X := ⟨_, List.getElem?_eq_getElem hd⟩
      have ey : (mayAsk j (-1) now && pkAny j N m (-1) now) = true := by rw [EY.out.1, EY.out.2]; rfl
      have eI : pkI j N m (-1) now l = x := by unfold pkI; rw [if_neg (by decide), ← hA, List.getD_eq_getElem?_getD, hy]; rfl
      have eT : pkT j N m (-1) now l = l1 := by unfold pkT; rw [if_neg (by decide), ← hA, hl1]
      have e1 : pkErr j N m (-1) now = 0 := by unfold pkErr; rw [EY.out.1, EY.out.2]; rfl
      have e2 : pkA j N m (-1) now l = x := by unfold pkA; rw [if_pos ey, eI]
      have e3 : pkB j N m (-1) now l = X := by unfold pkB; rw [if_pos ey, eI, eT, ← hF, List.getD_eq_getElem?_getD, hX]; rfl
      have e4 : pkL j N m (-1) now l = rs l1 F.length := by unfold pkL; rw [if_pos ey, eI, eT, ← hF]
      have HE := Aside0.mk (And.intro e1 (And.intro e2 (And.intro e3 e4)))
      have HFX := Aside0.mk hX
      have HF := Aside0.mk hF
      have HL1 := Aside0.mk hl1
      have HY := Aside0.mk hy
      clear e1 e2 e3 e4 ey eI eT hX hF hl1 hy hyA hA
      obtain ⟨b0, cc0, rfl⟩ := HV.out.at hlA
      have hdy : (0 : Int) ≤ (dn l A.length : Int) ∧ (dn l A.length : Int) < (A.length : Int) := by omega
      have hdx : (0 : Int) ≤ (dn l1 F.length : Int) ∧ (dn l1 F.length : Int) < (F.length : Int) := by omega
      have HTB := Aside0.mk (RefSt.below HT.out HB.out)
      have HTQ0 : Aside0 (tq < w.heap.size) := ⟨blk_lt HT.out.1⟩
      go_wp2_with (go_at_call 20; refine (rdraw_n _ tq base v l A.length HTB.out).mono ?_; rintro e w4 ⟨rfl, v1, ht4, hc4, ho4⟩; have HTW := Aside0.mk ht4; have HC4 := Aside0.mk hc4; have HO4 := Aside0.mk ho4; have hv4 := HV.out.grown (row := some tq) ⟨hc4.os, hc4.tape, hc4.output, hc4.size, fun k hk hn => hc4.block k hk (fun e => hn (by rw [e]))⟩ (fun r e => by cases e; exact HTQ0.out); have hcc4 := hv4.cell0 HY.out; have hcc5 := hv4.cell HY.out; clear ht4 hc4 ho4 hv4)
      rw [← HL1.out] at HTW
      have HRW := Aside0.mk (RefP.tq HRJ.out HTB.out HC4.out)
      clear hcc4 hcc5 g3
      go_wp2_with fail
      go_loopw [13, 14] (fun u z wi => ∃ b : Nat, b ≤ N ∧ z = .int .i64 b ∧ Nums w4.heap.size wi u (frees (m x) now b) ∧ Below w4.heap.size w4 wi) (fun _ z _ => N - (intOf z).toNat)
      case atStart => exact ⟨0, Nat.zero_le _, rfl, ⟨World.ownsRow_nil _ _ _ _, by simp [frees]⟩, Below.refl _ _⟩
      case round =>
        rename World => wi
        obtain ⟨b, hb, rfl, hu, hB⟩ := hrel
        have HRI := Aside0.mk (HRW.out.below hB)
        obtain ⟨_, _, g18, _⟩ := HRI.out.facts
        have HBI := Aside0.mk hB
        have HU := Aside0.mk hu
        clear hB hu
        by_cases hltb : b < N
        · have hfl := frees_len (m x) now b
          have e3 : frees (m x) now (b + 1) = if fr (m x b) now then frees (m x) now b ++ [b] else frees (m x) now b := frees_succ _ _ _
          have HE3 := Aside0.mk e3
          clear e3
          go_wp2_with fail
          refine (rfree_calls wi q qb j N hold m x b now HRI.out hx hltb).mono ?_
          rintro e w5 ⟨rfl, hb5⟩
          have HB5 := Aside0.mk (below_then HBI.out HBI.out.size hb5)
          have HU5 := Aside0.mk (HU.out.below hb5)
          clear hb5 g18
          cases hf : fr (m x b) now with
          | true =>
            rw [hf, if_pos rfl] at HE3
            go_wp2_with (at_builtin; go_loud (refine wpList_append_own _ rfl _ _ 31 rfl w4.heap.size 3 i0 (.int .i64 0) 1 8 Try.underlying31 hi hz0 hz1 hz2 rfl (by decide) _ (frees (m x) now b).length ((frees (m x) now b).map (fun x : Nat => Value.int .i64 (x : Int))) rfl (HU5.out.1.alloc _) ⟨w5.heap.size, 0, none⟩ 1 1 [.int .i64 (b : Int)] rfl rfl (cell_one_new _ _ _) (by simp [Value.oneCell']) (by unfold maxLen; omega) (by omega) (by rw [World.size_alloc]; have := HB5.out.size; omega) ?_; intro v' w6 hown' hgrow _))
            have hB6 : Below w4.heap.size w4 w6 := Below.own (HB5.out.alloc HB5.out.size _) (by rw [World.size_alloc]; have := HB5.out.size; omega) (HU5.out.1.alloc _) hgrow
            go_roundw
            case rel =>
              refine ⟨b + 1, by omega, by go_num, ?_, hB6⟩
              rw [HE3.out]
              refine ⟨?_, ?_⟩
              · rw [List.length_append, List.map_append]
                exact hown'
              · obtain ⟨g', cap', rfl⟩ := ownsRow_succ hown'
                simp
            case measure => simp [intOf]; omega
          | false =>
            rw [hf] at HE3
            go_wp2
            go_roundw
            case rel => exact ⟨b + 1, by omega, by go_num, by rw [HE3.out]; exact HU5.out, HB5.out⟩
            case measure => simp [intOf]; omega
        · obtain rfl : b = N := by omega
          rw [← HF.out] at HU
          obtain ⟨b0, c0, rfl⟩ := HU.out.at hlp
          have HTD := Aside0.mk (RefSt.below HTW.out (below_drew HBI.out))
          have HV2 := Aside0.mk (HU.out.below (below_drew (Below.refl _ wi)))
          have HCX := Aside0.mk (HV2.out.cell0 HFX.out)
          have HTQ : Aside0 (tq < w4.heap.size) := ⟨blk_lt HTW.out.1⟩
          go_wp2_with fail
          clear g18
          refine start_ (n := 11) (S := fun w' => w'.cell? ⟨b0, dn l1 F.length, none⟩ = some (.int .i64 (X : Nat))) (ds := []) #[false, false, false, false, false, false, false, false, false, false, false] (by kernel_rfl) rfl rfl (HCX.out) (fun hHeld => ?_)
          refine pure_ (i := 0) (N := some 82) (v := ?_) (a' := ?_) #[true, false, false, false, false, false, false, false, false, false, false] rfl rfl (by kernel_rfl) (fun _ _ _ h => h) (Or.inl ⟨by rfl, ?_⟩) ?_ ?_
          rotate_left
          · intro w'
            go_simp
            with_reducible rfl
          rotate_left
          · simp only [Act.put, List.setIfInBounds_toArray, List.set_cons_zero, List.set_cons_succ, i64_w, i32_w]
            rfl
          refine pure_ (i := 1) (N := some 83) (v := ?_) (a' := ?_) #[true, true, false, false, false, false, false, false, false, false, false] rfl rfl (by kernel_rfl) (fun _ _ _ h => h) (Or.inl ⟨by rfl, ?_⟩) ?_ ?_
          rotate_left
          · intro w'
            go_simp
            with_reducible rfl
          rotate_left
          · simp only [Act.put, List.setIfInBounds_toArray, List.set_cons_zero, List.set_cons_succ, i64_w, i32_w]
            rfl
          refine pure_ (i := 2) (N := some 84) (v := ?_) (a' := ?_) #[true, true, true, false, false, false, false, false, false, false, false] rfl rfl (by kernel_rfl) (fun _ _ _ h => h) (Or.inl ⟨by rfl, ?_⟩) ?_ ?_
          rotate_left
          · intro w'
            go_simp
            with_reducible rfl
          rotate_left
          · simp only [Act.put, List.setIfInBounds_toArray, List.set_cons_zero, List.set_cons_succ, i64_w, i32_w]
            rfl
          refine pure_ (i := 3) (N := some 85) (v := ?_) (a' := ?_) #[true, true, true, true, false, false, false, false, false, false, false] rfl rfl (by kernel_rfl) (fun _ _ _ h => h) (Or.inl ⟨by rfl, ?_⟩) ?_ ?_
          rotate_left
          · intro w'
            go_simp
            with_reducible rfl
          rotate_left
          · simp only [Act.put, List.setIfInBounds_toArray, List.set_cons_zero, List.set_cons_succ, i64_w, i32_w]
            rfl
          refine pure_ (i := 4) (N := some 86) (v := ?_) (a' := ?_) #[true, true, true, true, true, false, false, false, false, false, false] rfl rfl (by kernel_rfl) (fun _ _ _ h => h) (Or.inl ⟨by rfl, ?_⟩) ?_ ?_
          rotate_left
          · intro w'
            go_simp
            with_reducible rfl
          rotate_left
          · simp only [Act.put, List.setIfInBounds_toArray, List.set_cons_zero, List.set_cons_succ, i64_w, i32_w]
            rfl
          refine one_ (i := 5) (N := some 87) #[true, true, true, true, true, true, false, false, false, false, false] rfl rfl (by kernel_rfl) (by decide) (fun K hK => ?_)
          refine goes_ Try.func20 (by kernel_rfl) rfl #[.pointer (some ⟨tq, 0, none⟩), .int .i64 F.length] (by rfl) rfl rfl (by simp only [List.map_toArray, List.map_cons, List.map_nil]; rfl) ?_
          with_reducible refine (rdraw_n _ tq base v1 l1 F.length HTD.out).mono ?_
          rintro e w7 ⟨rfl, v7, ht7, hc7, ho7⟩
          refine ⟨_, rfl, ?_⟩
          have HT7 := Aside0.mk ht7
          have HC7 := Aside0.mk hc7
          have HO7 := Aside0.mk ho7
          have HV7 := Aside0.mk (HV2.out.grown (row := some tq) ⟨hc7.os, hc7.tape, hc7.output, hc7.size, fun k hk hn => hc7.block k hk (fun e => hn (by rw [e]))⟩ (fun r e => by cases e; exact HTQ.out))
          clear ht7 hc7 ho7
          refine hK.out _ _ (HV7.out.cell0 HFX.out) (fun hHeld => ?_)
          clear hK K
          refine norm_ (a' := ?_) ?_ ?_
          rotate_left
          · show Act.put _ (some 87) _ = _
            simp only [Act.put, List.setIfInBounds_toArray, List.set_cons_zero, List.set_cons_succ, i64_w, i32_w]
            rfl
          refine pure_ (i := 6) (N := some 88) (v := ?_) (a' := ?_) #[true, true, true, true, true, true, true, false, false, false, false] rfl rfl (by kernel_rfl) (fun _ _ _ h => h) (Or.inl ⟨by rfl, ?_⟩) ?_ ?_
          rotate_left
          · intro w'
            go_simp
            with_reducible rfl
          rotate_left
          · simp only [Act.put, List.setIfInBounds_toArray, List.set_cons_zero, List.set_cons_succ, i64_w, i32_w]
            rfl
          refine pure_ (i := 8) (N := some 8) (v := ?_) (a' := ?_) #[true, true, true, true, true, true, true, false, true, false, false] rfl rfl (by kernel_rfl) (fun _ _ _ h => h) (Or.inl ⟨by rfl, ?_⟩) ?_ ?_
          rotate_left
          · intro w'
            go_simp
            with_reducible rfl
          rotate_left
          · simp only [Act.put, List.setIfInBounds_toArray, List.set_cons_zero, List.set_cons_succ, i64_w, i32_w]
            rfl
          refine take_ (i := 7) (N := some 89) (v := ?_) (a' := ?_) #[true, true, true, true, true, true, true, true, true, false, false] rfl rfl (by kernel_rfl) (fun _ _ _ h => h) (Or.inl ⟨by rfl, ?_⟩) hHeld ?_ ?_
          rotate_left
          · intro w' s0
            go_simp
            with_reducible rfl
          rotate_left
          · simp only [Act.put, List.setIfInBounds_toArray, List.set_cons_zero, List.set_cons_succ, i64_w, i32_w]
            rfl
          refine pure_ (i := 9) (N := some 9) (v := ?_) (a' := ?_) #[true, true, true, true, true, true, true, true, true, true, false] rfl rfl (by kernel_rfl) (fun _ _ _ h => h) (Or.inl ⟨by rfl, ?_⟩) ?_ ?_
          rotate_left
          · intro w'
            go_simp
            with_reducible rfl
          rotate_left
          · simp only [Act.put, List.setIfInBounds_toArray, List.set_cons_zero, List.set_cons_succ, i64_w, i32_w]
            rfl
          refine pure_ (i := 10) (N := some 10) (v := ?_) (a' := ?_) #[true, true, true, true, true, true, true, true, true, true, true] rfl rfl (by kernel_rfl) (fun _ _ _ h => h) (Or.inl ⟨by rfl, ?_⟩) ?_ ?_
          rotate_left
          · intro w'
            go_simp
            with_reducible rfl
          rotate_left
          · simp only [Act.put, List.setIfInBounds_toArray, List.set_cons_zero, List.set_cons_succ, i64_w, i32_w]
            rfl
          refine done_ (by kernel_rfl) ?_
          go_wp2
          go_ret3

          rw [HE.out.1, HE.out.2.1, HE.out.2.2.1, HE.out.2.2.2]
          exact ⟨rfl, v7, HT7.out, HO7.out.trans HO4.out, chg_then (chg_then (chg_below HB.out) HC4.out) (chg_then (chg_below (below_drew HBI.out)) HC7.out)⟩
theorem rpick_calls (w : World) (q qb : Nat) (k N : Nat) (hold : Int) (m : Nat → Nat → Blk) (i now : Int) (tq base : Nat) (v : Value) (l : List Int) (h : RefP w q qb k N hold m) (ht : RefSt w tq base v l) : RPickOk q qb k N hold m i now tq base v l w := by
  cases em : mayAsk k i now with
  | false => exact rpick_bad w q qb k N hold m i now tq base v l h ht em
  | true =>
    cases ea : pkAny k N m i now with
    | false => exact rpick_none w q qb k N hold m i now tq base v l h ht em ea
    | true =>
      have hma := em
      unfold mayAsk at hma
      simp only [Bool.and_eq_true, decide_eq_true_eq] at hma
      by_cases hi : 0 ≤ i
      · obtain ⟨x, rfl⟩ := Int.eq_ofNat_of_zero_le hi
        exact rpick_one w q qb k N hold m x now tq base v l h ht em ea
      · obtain rfl : i = -1 := by omega
        exact rpick_any w q qb k N hold m now tq base v l h ht em ea
end Go.Proofs.Ytoapbppjkidgiaa.Pool
