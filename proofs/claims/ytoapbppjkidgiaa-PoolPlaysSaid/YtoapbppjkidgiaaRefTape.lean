/- RefTape: what the reference tape's Add and Draw do. Conditions: the tape's bytes lie in memory of its own. -/
import Derived.Test.YtoapbppjkidgiaaTapeWithin
import Derived.Deep.RegionLaw
import Derived.RegionTactic
import Derived.BigRegion
namespace Go.Proofs.Ytoapbppjkidgiaa.Tape
open Go.RowKit Go.Proofs.YtoapbppjkidgiaaW.PrintWords Go.Proofs.YtoapbppjkidgiaaW.PrintLast Go.Proofs.YtoapbppjkidgiaaW.PrintMore
set_option linter.unusedVariables false

/-- what blocks of S alone may have turned. -/
structure Chg (w w' : World) (S : Nat → Prop) : Prop where
  os : w'.os = w.os
  tape : w'.tape = w.tape
  output : w'.output = w.output
  size : w.heap.size ≤ w'.heap.size
  block : ∀ k, k < w.heap.size → ¬ S k → w'.heap[k]? = w.heap[k]?
theorem Chg.refl (w : World) (S : Nat → Prop) : Chg w w S := ⟨rfl, rfl, rfl, Nat.le_refl _, fun _ _ _ => rfl⟩
theorem Chg.trans {a b c : World} {S S2 : Nat → Prop} (h : Chg a b S) (k : Chg b c S2) (hs : ∀ i, S2 i → S i ∨ a.heap.size ≤ i) : Chg a c S :=
  ⟨k.os.trans h.os, k.tape.trans h.tape, k.output.trans h.output, Nat.le_trans h.size k.size, fun i hi hn => (k.block i (Nat.lt_of_lt_of_le hi h.size) (fun h2 => (hs i h2).elim hn (fun h3 => by omega))).trans (h.block i hi hn)⟩
theorem Chg.of_grown {a b : World} {row : Option Nat} {S : Nat → Prop} (h : a.grownBy b row) (hs : ∀ k, row = some k → S k) : Chg a b S :=
  ⟨h.os, h.tape, h.output, h.size, fun i hi hn => h.block i hi (fun e => hn (hs i e.symm))⟩
theorem Chg.of_below {a b : World} {S : Nat → Prop} (h : Below a.heap.size a b) : Chg a b S := ⟨h.os, h.tape, h.output, h.size, fun i hi _ => h.block i hi⟩
theorem Chg.below {B : Nat} {a w w' : World} {S : Nat → Prop} (hb : Below B a w) (h : Chg w w' S) (hB : B ≤ w.heap.size) (hs : ∀ k, S k → B ≤ k) : Below B a w' :=
  hb.trans ⟨h.os, h.tape, h.output, h.size, fun k hk => h.block k (by omega) (fun e => by have := hs k e; omega)⟩

/-- The reference tape at block q holds the bytes l, in v. -/
def RefSt (w : World) (q base : Nat) (v : Value) (l : List Int) : Prop :=
  w.heap[q]? = some (.cells #[v] 34 (0, 0)) ∧ Kd.Q (Kd.int .u8) 5 w base (fun _ => True) v l ∧ ∀ x ∈ l, 0 ≤ x ∧ x < 256
set_option maxHeartbeats 1000000 in
theorem radd_full (w : World) (q base : Nat) (v : Value) (l : List Int) (B : Option Addr) (n cb : Nat) (h : RefSt w q base v l) (hn : 65536 < l.length + n) (hnm : n ≤ 9223372036854775807) :
    Calls Try.prog 19 #[.pointer (some ⟨q, 0, none⟩), .slice B n cb] w fun e w' => e = .returned (.int .i64 6) ∧ w' = w := by
  obtain ⟨hb, hq, hx⟩ := h
  obtain ⟨A, c, rfl, hc, hr⟩ := Kd.Q_reads hq
  have hc0 : w.cell? ⟨q, 0, none⟩ = some (.slice A l.length c) := (blk_cell hb 0).trans rfl
  have hlm : l.length ≤ 9223372036854775807 := hr.2.1
  have hlt : (65536 : Int) - l.length < n := by omega
  clear hb hr hx hq
  go_enter Try.func19, Try.ntmps19
  go_wp2
  go_ret
  exact ⟨rfl, rfl⟩
set_option maxHeartbeats 1000000 in
theorem radd_room (w : World) (q base : Nat) (v : Value) (l : List Int) (B : Option Addr) (xs : List Int) (cb : Nat) (h : RefSt w q base v l) (hn : l.length + xs.length ≤ 65536) (hbs : base ≤ w.heap.size) (hqb : base ≤ q)
    (hB : Kd.C (Kd.int .u8) w B xs.length xs) (hBb : ∀ ad, B = some ad → 0 < xs.length → ad.block < base) (hxs : ∀ x ∈ xs, 0 ≤ x ∧ x < 256) :
    Calls Try.prog 19 #[.pointer (some ⟨q, 0, none⟩), .slice B xs.length cb] w fun e w' => e = .returned (.int .i64 0) ∧
      ∃ v', RefSt w' q base v' (l ++ xs) ∧ Chg w w' (fun k => k = q ∨ some k = v.ownBlock) ∧ (v'.ownBlock = v.ownBlock ∨ ∃ b, v'.ownBlock = some b ∧ w.heap.size ≤ b) := by
  obtain ⟨hb, hq, hx⟩ := h
  obtain ⟨A, c, hv, hc, hr⟩ := Kd.Q_reads hq
  have hlm : l.length ≤ 65536 := by omega
  have hxm : xs.length ≤ 65536 := by omega
  have hc0 : w.cell? ⟨q, 0, none⟩ = some (.slice A l.length c) := (blk_cell hb 0).trans (by rw [hv]; rfl)
  have hlt : ¬ (65536 : Int) - l.length < xs.length := by omega
  have HBK := Aside0.mk hb
  have HQ := Aside0.mk hq
  have HX := Aside0.mk hx
  have HXS := Aside0.mk hxs
  have HBS := Aside0.mk hB
  have HBB := Aside0.mk hBb
  clear hb hr hx hq hxs hB hBb
  go_enter Try.func19, Try.ntmps19
  go_wp2
  go_loopw [5] (fun i wr => ∃ (k : Nat) (v' : Value), i = .int .i64 k ∧ k ≤ xs.length ∧ RefSt wr q base v' (l ++ xs.take k) ∧ Chg w wr (fun k => k = q ∨ some k = v.ownBlock) ∧ (v'.ownBlock = v.ownBlock ∨ ∃ b, v'.ownBlock = some b ∧ w.heap.size ≤ b)) (fun i _ => xs.length - (intOf i).toNat)
  case atStart => exact ⟨0, v, rfl, by omega, ⟨HBK.out, by simpa using HQ.out, by simpa using HX.out⟩, Chg.refl _ _, .inl rfl⟩
  case round =>
    obtain ⟨k, v1, rfl, hk, hst, hch, hown⟩ := hrel
    have HC := Aside0.mk hch
    have HO := Aside0.mk hown
    obtain ⟨hb1, hq1, hx1⟩ := hst
    have HB1 := Aside0.mk hb1
    have HQ1 := Aside0.mk hq1
    have HX1 := Aside0.mk hx1
    obtain ⟨A1, c1, hv1, hcc1, hr1⟩ := Kd.Q_reads hq1
    subst hv1
    by_cases hkx : k < xs.length
    · obtain ⟨ad, hBe, _⟩ := HBS.out.2.2 (by omega)
      subst hBe
      have hbw : Kd.C (Kd.int .u8) wr (some ad) xs.length xs := C_move HBS.out (fun ad' he hn => by
        obtain rfl := Option.some.inj he
        have h1 := HBB.out _ rfl hn
        refine hch.block _ (by omega) (fun h2 => ?_)
        rcases h2 with h2 | h2
        · omega
        · have := Kd.Q_base HQ.out _ h2.symm
          omega)
      obtain ⟨x, hxk⟩ : ∃ x, xs[k]? = some x := ⟨_, List.getElem?_eq_getElem hkx⟩
      have hcell := C_cell hbw k x hxk
      have hxr := HXS.out x (List.mem_of_getElem? hxk)
      have hlast : xs.take (k + 1) = xs.take k ++ [x] := by
        rw [List.take_succ_eq_append_getElem hkx]
        congr 2
        exact (List.getElem?_eq_some_iff.1 hxk).2
      have hzl : (l ++ xs.take k).length = l.length + k := by simp; omega
      have HLAST := Aside0.mk hlast
      have HOW := Aside0.mk (hch.size)
      clear hlast hr1 hch hown hbw hxk hb1 hq1 hx1
      generalize hz : l ++ xs.take k = z at *
      have HZ := Aside0.mk hz
      have hzb : z.length ≤ 65536 := by omega
      clear hz hzl
      have hd0 : wr.cell? ⟨q, 0, none⟩ = some (.slice A1 z.length c1) := (blk_cell HB1.out 0).trans rfl
      have hf0 := blk_frozen HB1.out 0
      have hidx : (0 : Int) ≤ (k : Int) ∧ (k : Int) < (xs.length : Int) := by omega
      have hne := Kd.Q_ne HQ1.out HB1.out (by decide)
      have hd1 : (wr.alloc (.cells #[.int .u8 x] 5)).cell? ⟨q, 0, none⟩ = some (.slice A1 z.length c1) := (blk_cell (blk_alloc HB1.out _) 0).trans rfl
      go_wp2
      go_region_law (refine Kd.Q_append_step (Kd.int .u8) (w0 := wr.drew) (W := wr.drew) base rfl (.tmp 25) (.tmp 30) 27 5 (.int .u8 0) 1 rfl Try.underlying27 Try.info5 rfl (by decide) (by decide) (.slice A1 z.length c1) z x [.int .u8 x] (fun _ => True) (fun _ => False) rfl rfl rfl (fun _ h => h.elim) (fun _ _ => trivial) (Kd.Q_drew HQ1.out) (Below.refl _ _) (Nat.le_trans hbs HOW.out) (by omega) ?_; intro v2 w2 ho2 hb2 hg2 hn2; obtain ⟨A2, c2, rfl, hl2, hr2⟩ := Kd.Q_reads ho2; have HO2 := Aside0.mk ho2; have HG2 := Aside0.mk hg2; have HN2 := Aside0.mk hn2; have HB2 := Aside0.mk (blk_grown (w := wr.drew) HB1.out hg2 hne); have he0 := (blk_cell HB2.out 0).trans (show _ = some (.slice A1 z.length c1) from rfl); have he1 := blk_frozen HB2.out 0; clear ho2 hb2 hg2 hn2 hr2 hl2)
      all_goals
        go_wp2
        go_roundw
        case rel =>
          have e1 : l ++ xs.take (k + 1) = z ++ [x] := by rw [HLAST.out, ← List.append_assoc, HZ.out]
          have hch := HC.out
          have hown := HO.out
          have hg2 := HG2.out
          have hn2 := HN2.out
          have e2 : (z ++ [x]).length = z.length + 1 := by simp
          rw [e2] at hn2
          refine ⟨k + 1, .slice A2 (z.length + 1) c2, by go_num, by omega, ?_, ?_, ?_⟩
          · rw [e1]
            have hq2 := Kd.Q_set HO2.out HB2.out (by decide) 0 (.slice A2 (z.length + 1) c2)
            rw [e2] at hq2
            refine ⟨by simpa using blk_set HB2.out 0 _, hq2, fun y hy => ?_⟩
            rcases List.mem_append.1 hy with h1 | h1
            · exact HX1.out y h1
            · obtain rfl := List.mem_singleton.1 h1
              exact hxr
          · have g1 : Chg wr w2 (fun k => k = q ∨ some k = (Value.slice A1 z.length c1).ownBlock) := (Chg.of_below (below_drew (Below.refl _ wr))).trans (S := fun k => k = q ∨ some k = (Value.slice A1 z.length c1).ownBlock) (Chg.of_grown (a := wr.drew) (S := fun k => some k = (Value.slice A1 z.length c1).ownBlock) hg2 (fun k e => e.symm)) (fun i hi => .inl (.inr hi))
            have g2 := Chg.of_grown (S := fun k => k = q) (grown_set w2 q 0 (.slice A2 (z.length + 1) c2)) (fun k e => (Option.some.inj e).symm)
            refine (hch.trans g1 (fun i hi => ?_)).trans g2 (fun i hi => .inl (.inl hi))
            rcases hi with hi | hi
            · exact .inl (.inl hi)
            · rcases hown with h1 | ⟨b, h1, h2⟩
              · exact .inl (.inr (hi.trans h1))
              · rw [h1] at hi
                obtain rfl := Option.some.inj hi
                exact .inr h2
          · rcases hn2 with h1 | ⟨b, h1, h2⟩
            · rcases hown with h3 | ⟨b, h3, h4⟩
              · exact .inl (h1.trans h3)
              · exact .inr ⟨b, h1.trans h3, h4⟩
            · exact .inr ⟨b, h1, Nat.le_trans HOW.out h2⟩
        case measure => simp [intOf]; omega
    · obtain rfl : k = xs.length := by omega
      clear hb1 hq1 hx1 hr1 hch hown
      go_wp2
      go_ret
      have h1 := HB1.out
      have h2 := HQ1.out
      have h3 := HX1.out
      rw [List.take_length] at h1 h2 h3
      have h4 := HO.out
      rw [List.take_length] at h4
      exact ⟨rfl, _, ⟨h1, h2, h3⟩, HC.out, h4⟩
set_option maxHeartbeats 1000000 in
theorem rdraw_small (w : World) (q base : Nat) (v : Value) (l : List Int) (n : Int) (h : RefSt w q base v l) (hn : n < 2 ∨ l.length < 2) :
    Calls Try.prog 20 #[.pointer (some ⟨q, 0, none⟩), .int .i64 n] w fun e w' => e = .returned (.int .i64 0) ∧ w' = w := by
  obtain ⟨hb, hq, hx⟩ := h
  obtain ⟨A, c, rfl, hc, hr⟩ := Kd.Q_reads hq
  have hc0 : w.cell? ⟨q, 0, none⟩ = some (.slice A l.length c) := (blk_cell hb 0).trans rfl
  clear hb hr hx hq
  by_cases h2 : n < 2
  · clear hn
    go_enter Try.func20, Try.ntmps20
    go_wp2
    go_ret
    exact ⟨rfl, rfl⟩
  · have h3 : l.length < 2 := hn.resolve_left h2
    clear hn
    go_enter Try.func20, Try.ntmps20
    go_wp2
    go_ret
    exact ⟨rfl, rfl⟩
set_option maxHeartbeats 1000000 in
theorem rdraw_take (w : World) (q base : Nat) (v : Value) (x y : Int) (l : List Int) (n : Int) (h : RefSt w q base v (x :: y :: l)) (hn : 2 ≤ n) :
    Calls Try.prog 20 #[.pointer (some ⟨q, 0, none⟩), .int .i64 n] w fun e w' => e = .returned (.int .i64 (two x y % n)) ∧
      ∃ v', RefSt w' q base v' l ∧ Chg w w' (fun k => k = q) ∧ v'.ownBlock = v.ownBlock := by
  obtain ⟨hb, hq, hx⟩ := h
  have hxx := hx x (by simp)
  have hxy := hx y (by simp)
  have HX := Aside0.mk hx
  have HB := Aside0.mk hb
  have HQ := Aside0.mk hq
  obtain ⟨A, c, rfl, hc, hr⟩ := Kd.Q_reads hq
  obtain ⟨ad, rfl, _⟩ := hr.2.2 (by simp)
  have h0 := C_cell hr 0 x rfl
  rw [Addr.add_zero'] at h0
  have h1 := C_cell hr 1 y rfl
  have h1' : w.cell? ⟨ad.block, ad.off + 1, none⟩ = some (.int .u8 y) := h1
  have hc0 : w.cell? ⟨q, 0, none⟩ = some (.slice (some ad) (l.length + 2) c) := (blk_cell hb 0).trans rfl
  have hf0 := blk_frozen hb 0
  have hcc : l.length + 2 ≤ c := by simpa using hc
  clear hb hr hx hq hc
  obtain ⟨m, hm⟩ : ∃ m, m = l.length + 2 := ⟨_, rfl⟩
  rw [← hm] at hc0 hcc
  have hm0 : 0 < m := by omega
  have hm1 : 1 < m := by omega
  have hi0 : (0 : Int) < (m : Int) := by omega
  have hi1 : (1 : Int) < (m : Int) := by omega
  have hl2 : ¬ (m : Int) < 2 := by omega
  have HM := Aside0.mk hm
  clear hm
  go_enter Try.func20, Try.ntmps20
  go_wp2
  go_quiet (fail)
  go_wp2
  all_goals
    go_ret
    have hm := HM.out
    have hq2 := Kd.Q_drop (k := 2) HQ.out (by simp)
    have hb2 : (w.drewN nq).heap[q]? = some (.cells #[.slice (some ad) (x :: y :: l).length c] 34 (0, 0)) := HB.out
    have e : bits .or .i64 (x * 256) y = two x y := bits_join .i64 16 (by decide) (fun n h0 h1 => by rw [IntKind.wrap_i64]; omega) 8 (x * 256) y (by omega) (by omega) (by omega) hxy.1 (by omega) (by omega)
    have e0 : 0 ≤ two x y := (two_in x y hxx.1 hxx.2 hxy.1 hxy.2).1
    have e2 : (bits .or .i64 (x * 256) y).tmod n = two x y % n := by rw [e, Int.tmod_eq_emod_of_nonneg e0]
    have hlen : m - 2 = l.length := by omega
    refine ⟨by
      show Ending.returned (.int .i64 ((bits .or .i64 (x * 256) y).tmod n)) = _
      rw [e2], ?_⟩
    first
      | (have hcc2 : c = 2 := by assumption
         subst hcc2
         rw [if_pos rfl] at hq2
         refine ⟨.slice (some ad) (m - 2) 0, ⟨by simpa using blk_set hb2 0 _, ?_, fun z hz => HX.out z (by simp [hz])⟩, ?_, rfl⟩
         · have h3 := Kd.Q_set (Kd.Q_drewN hq2 nq) hb2 (by decide) 0 (.slice (some ad) (m - 2) 0)
           have e3 : (x :: y :: l).length - 2 = m - 2 := by simp; omega
           rw [e3] at h3
           exact h3
         · exact (Chg.of_below (pw_below_drewN (Below.refl _ w) nq)).trans (Chg.of_grown (S := fun k => k = q) (grown_set _ q 0 _) (fun k e => (Option.some.inj e).symm)) (fun i hi => .inl hi))
      | (have hcc2 : ¬ c = 2 := by assumption
         rw [if_neg hcc2] at hq2
         refine ⟨.slice (some ⟨ad.block, ad.off + 2, none⟩) (m - 2) (c - 2), ⟨by simpa using blk_set hb2 0 _, ?_, fun z hz => HX.out z (by simp [hz])⟩, ?_, ?_⟩
         · have h3 := Kd.Q_set (Kd.Q_drewN hq2 nq) hb2 (by decide) 0 (.slice (some ⟨ad.block, ad.off + 2, none⟩) (m - 2) (c - 2))
           have e3 : (x :: y :: l).length - 2 = m - 2 := by simp; omega
           rw [e3] at h3
           exact h3
         · exact (Chg.of_below (pw_below_drewN (Below.refl _ w) nq)).trans (Chg.of_grown (S := fun k => k = q) (grown_set _ q 0 _) (fun k e => (Option.some.inj e).symm)) (fun i hi => .inl hi)
         · rfl)
end Go.Proofs.Ytoapbppjkidgiaa.Tape
