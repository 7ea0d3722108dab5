/- TapeStep: the contracts of package tape once more: they tell besides that the tape's bytes stay in their block or go to a new one. Conditions: the tape is one that New made. -/
import Derived.Test.YtoapbppjkidgiaaRefTape
namespace Go.Proofs.Ytoapbppjkidgiaa.Tape
open Go.RowKit Go.Proofs.YtoapbppjkidgiaaW.PrintWords Go.Proofs.YtoapbppjkidgiaaW.PrintLast Go.Proofs.YtoapbppjkidgiaaW.PrintMore
set_option linter.unusedVariables false
/-- the tape's bytes lie in block b. -/
def Arr (w : World) (p b : Nat) : Prop := ∃ n c ad, w.cell? ⟨p, 1, none⟩ = some (.slice (some ad) n c) ∧ ad.block = b
def Step (p : Nat) (w w' : World) : Prop := w.grownBy w' (some p) ∧ ∀ b, Arr w' p b → Arr w p b ∨ (w.heap.size ≤ b ∧ b < w'.heap.size)
theorem Step.refl (p : Nat) (w : World) : Step p w w := ⟨grown_refl _ _, fun _ h => .inl h⟩
theorem Step.trans {p : Nat} {a b c : World} (h : Step p a b) (k : Step p b c) : Step p a c :=
  ⟨h.1.trans k.1, fun x hx => by
    rcases k.2 x hx with h1 | h1
    · exact (h.2 x h1).imp id (fun g => ⟨g.1, Nat.lt_of_lt_of_le g.2 k.1.size⟩)
    · exact .inr ⟨Nat.le_trans h.1.size h1.1, h1.2⟩⟩
theorem arr_take {w : World} {p n c : Nat} {ad : Addr} {b : Bool} (hb : w.heap[p]? = some (.cells #[.bool b, .slice (some ad) (n + 1) c] 84 (0, 0))) :
    ∀ x, Arr (w.setCell ⟨p, 1, none⟩ (.slice (if c = 1 then some ad else some (ad.add 1)) n (c - 1))) p x → Arr w p x ∨ (w.heap.size ≤ x ∧ x < (w.setCell ⟨p, 1, none⟩ (.slice (if c = 1 then some ad else some (ad.add 1)) n (c - 1))).heap.size) := by
  rintro x ⟨n', c', ad', h1, rfl⟩
  have h0 : w.cell? ⟨p, 1, none⟩ = some (.slice (some ad) (n + 1) c) := (blk_cell hb 1).trans rfl
  rw [World.cell?_setCell_same' _ _ _ (by rw [h0]; rfl)] at h1
  refine .inl ⟨_, _, ad, h0, ?_⟩
  simp only [Option.some.injEq, Value.slice.injEq] at h1
  have e : ∀ m : Nat, (ad.add m).block = ad.block := fun m => by unfold Addr.add; split <;> rfl
  by_cases hc : c = 1
  · rw [if_pos hc] at h1
    rw [← Option.some.inj h1.1]
  · rw [if_neg hc] at h1
    rw [← Option.some.inj h1.1, e]
theorem own_at_least {e base : Nat} {ok : Nat → Prop} {w : World} {k : IntKind} {A : Option Addr} {n c : Nat} {xs : List Int} (h : Kd.R (Kd.int k) e w base ok (.slice A n c) xs) : ∀ ad, A = some ad → base ≤ ad.block ∧ ad.block < w.heap.size := by
  intro ad ha
  subst ha
  obtain ⟨g, rfl⟩ := Kd.R_head h
  exact ⟨Kd.R_base h g (by simp [Value.ownBlock]), Kd.R_lt h g (by simp [Value.ownBlock])⟩
theorem take_step (w : World) (p : Nat) (x : Int) (l : List Int) (h : TapeSt w p (x :: l)) :
    Calls Try.prog 58 #[.pointer (some ⟨p, 0, none⟩)] w fun e w' => e = .returned (.int .i64 x) ∧ TapeSt w' p l ∧ Step p w w' := by
  obtain ⟨A, c, hb, hc, hr, hx⟩ := h
  obtain ⟨ad, rfl, _⟩ := hr.2.2 (by simp)
  have h0 := C_cell hr 0 x rfl
  rw [Addr.add_zero'] at h0
  have hx0 := hx x (by simp)
  have hne := tape_ne hb h0
  refine (take_calls w p l.length c ad x hb h0 hc hx0.1 hx0.2).mono ?_
  rintro e w' ⟨rfl, rfl⟩
  refine ⟨rfl, ⟨_, _, by simpa using blk_set hb 1 _, by simp at hc; omega, ?_, fun z hz => hx z (by simp [hz])⟩, ⟨grown_set w p 1 _, arr_take hb⟩⟩
  by_cases h1 : c = 1
  · obtain rfl : l = [] := by
      simp at hc
      exact List.length_eq_zero_iff.1 (by omega)
    exact C_zero _
  · rw [if_neg h1]
    refine C_move (C_tail hr) (fun a ha _ => ?_)
    obtain rfl := Option.some.inj ha
    exact Below.heap_setCell w _ _ _ (by
      have e : ∀ m : Nat, (ad.add m).block = ad.block := fun m => by unfold Addr.add; split <;> rfl
      rw [e]; exact hne)
set_option maxHeartbeats 1000000 in
theorem number_step (w : World) (p : Nat) (x y : Int) (l : List Int) (h : TapeSt w p (x :: y :: l)) :
    Calls Try.prog 57 #[.func (.func 58) #[.pointer (some ⟨p, 0, none⟩)] #[]] w fun e w' => e = .returned (.int .i64 (two x y)) ∧ TapeSt w' p l ∧ Step p w w' := by
  have hb : (0 ≤ x ∧ x < 256) ∧ (0 ≤ y ∧ y < 256) := by
    obtain ⟨_, _, _, _, _, hx⟩ := h
    exact ⟨hx x (by simp), hx y (by simp)⟩
  have HX := Aside0.mk hb
  clear hb
  go_enter Try.func57, Try.ntmps57
  go_wp2
  refine wp_loop_rounds 3 ?_
  rw [rounds_succ]
  have HT := Aside0.mk h
  clear h
  go_wp2_with (go_at_call 58; refine (take_step _ p x _ HT.out).mono ?_; rintro e w1 ⟨rfl, ht, hg⟩; have HT1 := Aside0.mk ht; have HG := Aside0.mk hg; clear ht hg HT)
  rw [rounds_succ]
  go_wp2_with (go_at_call 58; refine (take_step _ p y _ HT1.out).mono ?_; rintro e w2 ⟨rfl, ht, hg⟩; have HT2 := Aside0.mk ht; have HG2 := Aside0.mk hg; clear ht hg HT1)
  rw [rounds_succ]
  go_wp2
  go_ret
  obtain ⟨⟨a0, a1⟩, b0, b1⟩ := HX.out
  refine ⟨?_, HT2.out, HG.out.trans HG2.out⟩
  have e := or_next x y a0 a1 b0 b1
  rw [← or_zero x a0 a1] at e
  show Ending.returned (.int .i64 (bits .or .i64 (wrap64 (bits .or .i64 0 x * 256)) y)) = _
  rw [e, or_zero x a0 a1]; rfl
set_option maxHeartbeats 1000000 in
theorem draw_take_step (w : World) (p : Nat) (x y : Int) (l : List Int) (n : Int) (h : TapeSt w p (x :: y :: l)) (hn : 2 ≤ n) :
    Calls Try.prog 18 #[.pointer (some ⟨p, 0, none⟩), .int .i64 n] w fun e w' => e = .returned (.int .i64 (two x y % n)) ∧ TapeSt w' p l ∧ Step p w w' := by
  have hb := two_in x y
  have hb2 : 0 ≤ two x y := by
    obtain ⟨_, _, _, _, _, hx⟩ := h
    exact (hb (hx x (by simp)).1 (hx x (by simp)).2 (hx y (by simp)).1 (hx y (by simp)).2).1
  clear hb
  have HT := Aside0.mk h
  clear h
  have hmf : ∀ (fn : Fn) (first cap : Array Value) (w : World), (Instr.makeFunc fn first cap).run Try.prog w = .ok (.func fn first cap) w := fun _ _ _ _ => rfl
  have hl : ¬ ((x :: y :: l).length : Int) < 2 := by simp; omega
  go_enter Try.func18, Try.ntmps18
  go_wp2_with (first | (go_at_call 17; refine (left_calls _ _ _ HT.out).mono ?_; rintro e w1 ⟨rfl, rfl⟩) | (go_at_call 57; refine (number_step _ _ x y l HT.out).mono ?_; rintro e w1 ⟨rfl, ht, hg⟩; have HT1 := Aside0.mk ht; have HG := Aside0.mk hg; clear ht hg))
  go_ret
  exact ⟨rfl, HT1.out, HG.out⟩
theorem draw_step (w : World) (p : Nat) (l : List Int) (n : Int) (h : TapeSt w p l) :
    Calls Try.prog 18 #[.pointer (some ⟨p, 0, none⟩), .int .i64 n] w fun e w' => e = .returned (.int .i64 (dr l n)) ∧ TapeSt w' p (rs l n) ∧ Step p w w' := by
  by_cases hn : n < 2
  · refine (draw_small w _ n hn).mono ?_
    rintro e w' ⟨rfl, rfl⟩
    unfold dr rs
    rw [if_pos hn, if_pos hn]
    exact ⟨rfl, h, Step.refl _ _⟩
  · match l, h with
    | [], h =>
      refine (draw_short w p [] n h (by decide)).mono ?_
      rintro e w' ⟨rfl, rfl⟩
      have e1 : dr [] n = 0 := by unfold dr; rw [if_neg hn]
      have e2 : rs [] n = [] := by unfold rs; rw [if_neg hn]
      rw [e1, e2]; exact ⟨rfl, h, Step.refl _ _⟩
    | [x], h =>
      refine (draw_short w p [x] n h (by simp)).mono ?_
      rintro e w' ⟨rfl, rfl⟩
      have e1 : dr [x] n = 0 := by unfold dr; rw [if_neg hn]
      have e2 : rs [x] n = [x] := by unfold rs; rw [if_neg hn]
      rw [e1, e2]; exact ⟨rfl, h, Step.refl _ _⟩
    | x :: y :: t, h =>
      have e1 : dr (x :: y :: t) n = two x y % n := by unfold dr; rw [if_neg hn]
      have e2 : rs (x :: y :: t) n = t := by unfold rs; rw [if_neg hn]
      rw [e1, e2]
      exact draw_take_step w p x y t n h (by omega)
theorem rdraw_any (w : World) (q base : Nat) (v : Value) (l : List Int) (n : Int) (h : RefSt w q base v l) :
    Calls Try.prog 20 #[.pointer (some ⟨q, 0, none⟩), .int .i64 n] w fun e w' => e = .returned (.int .i64 (dr l n)) ∧
      ∃ v', RefSt w' q base v' (rs l n) ∧ Chg w w' (fun k => k = q) ∧ v'.ownBlock = v.ownBlock := by
  by_cases hn : n < 2
  · refine (rdraw_small w q base v l n h (.inl hn)).mono ?_
    rintro e w' ⟨rfl, rfl⟩
    have e1 : dr l n = 0 := by unfold dr; rw [if_pos hn]
    have e2 : rs l n = l := by unfold rs; rw [if_pos hn]
    rw [e1, e2]; exact ⟨rfl, v, h, Chg.refl _ _, rfl⟩
  · match l, h with
    | [], h =>
      refine (rdraw_small w q base v [] n h (.inr (by decide))).mono ?_
      rintro e w' ⟨rfl, rfl⟩
      have e1 : dr [] n = 0 := by unfold dr; rw [if_neg hn]
      have e2 : rs [] n = [] := by unfold rs; rw [if_neg hn]
      rw [e1, e2]; exact ⟨rfl, v, h, Chg.refl _ _, rfl⟩
    | [x], h =>
      refine (rdraw_small w q base v [x] n h (.inr (by simp))).mono ?_
      rintro e w' ⟨rfl, rfl⟩
      have e1 : dr [x] n = 0 := by unfold dr; rw [if_neg hn]
      have e2 : rs [x] n = [x] := by unfold rs; rw [if_neg hn]
      rw [e1, e2]; exact ⟨rfl, v, h, Chg.refl _ _, rfl⟩
    | x :: y :: t, h =>
      have e1 : dr (x :: y :: t) n = two x y % n := by unfold dr; rw [if_neg hn]
      have e2 : rs (x :: y :: t) n = t := by unfold rs; rw [if_neg hn]
      rw [e1, e2]
      exact rdraw_take w q base v x y t n h (by omega)
set_option maxHeartbeats 1000000 in
theorem add_step (w : World) (p : Nat) (l : List Int) (B : Option Addr) (xs : List Int) (cb : Nat) (h : TapeSt w p l) (hn : l.length + xs.length ≤ 65536)
    (hB : Kd.C (Kd.int .u8) w B xs.length xs) (hxs : ∀ x ∈ xs, 0 ≤ x ∧ x < 256) :
    Calls Try.prog 16 #[.pointer (some ⟨p, 0, none⟩), .slice B xs.length cb] w fun e w' => e = .returned (.int .i64 0) ∧ TapeSt w' p (l ++ xs) ∧ Step p w w' := by
  obtain ⟨A, c, hb, hc, hr, hx⟩ := h
  have hc0 : w.cell? ⟨p, 0, none⟩ = some (.bool true) := (blk_cell hb 0).trans rfl
  have hc1 : w.cell? ⟨p, 1, none⟩ = some (.slice A l.length c) := (blk_cell hb 1).trans rfl
  have hlt : ¬ (65536 : Int) - l.length < xs.length := by omega
  have HBK := Aside0.mk hb
  have HR := Aside0.mk hr
  have HX := Aside0.mk hx
  have HXS := Aside0.mk hxs
  have HBS := Aside0.mk hB
  have hlb : l.length ≤ 65536 := by omega
  have hxb : xs.length ≤ 65536 := by omega
  clear hb hr hx hxs hB
  go_enter Try.func16, Try.ntmps16
  go_wp2_with (first
    | ((with_reducible refine gate_dst (N := 28) rfl ?_); refine Kd.R_append_rows (Kd.int .u8) (w0 := w) (W := w) w.heap.size rfl (.const (.slice none 0 0)) (.tmp 27) 27 5 (.int .u8 0) 1 rfl Try.underlying27 Try.info5 rfl (by decide) (by decide) (.slice none 0 0) [] l A l.length c (fun _ => True) (fun _ => False) rfl rfl (Kd.R_nil _ _ _ _ _) HR.out (fun _ _ h => h) (fun _ h => h.elim) (fun _ _ => trivial) (Below.refl _ _) (Nat.le_refl _) (by simp; omega) ?_; intro v1 w1 ho1 hb1 hg1 _; have HO1 := Aside0.mk ho1; have HB1 := Aside0.mk hb1; clear ho1 hb1 hg1 hc0 hc1)
    | ((with_reducible refine gate_dst (N := 30) rfl ?_); refine Kd.R_append_rows (Kd.int .u8) (w0 := w) (W := w1) w.heap.size rfl (.tmp 28) (.tmp 29) 27 5 (.int .u8 0) 1 rfl Try.underlying27 Try.info5 rfl (by decide) (by decide) v1 ([] ++ l) xs B xs.length cb (fun _ => True) (fun _ => False) rfl rfl HO1.out (Kd.C_below HBS.out HB1.out) (fun _ _ h => h) (fun _ h => h.elim) (fun _ _ => trivial) HB1.out HB1.out.size (by simp; omega) ?_; intro v2 w2 ho2 hb2 hg2 _; obtain ⟨A2, c2, rfl, hl2, hr2⟩ := Kd.R_reads ho2; have HO3 := Aside0.mk (own_at_least ho2); have HR2 := Aside0.mk hr2; have HB2 := Aside0.mk hb2; have HL2 := Aside0.mk hl2; have hbk := blk_below HBK.out hb2; have hd0 := (blk_cell hbk 1).trans (show _ = some (.slice A l.length c) from rfl); have hd1 := blk_frozen hbk 1; have HBK2 := Aside0.mk hbk; clear ho2 hb2 hg2 hr2 hl2 hbk))
  go_ret
  have hxx := HX.out
  have hxy := HXS.out
  refine ⟨rfl, ⟨A2, c2, by simpa using blk_set HBK2.out 1 _, HL2.out, ?_, ?_⟩, ?_⟩
  · refine C_move HR2.out (fun ad ha hn0 => ?_)
    subst ha
    have hne : ad.block ≠ p := by
      obtain ⟨z, hz⟩ : ∃ z, (l ++ xs)[0]? = some z := ⟨_, List.getElem?_eq_getElem hn0⟩
      have h0 := C_cell HR2.out 0 z hz
      rw [Addr.add_zero'] at h0
      exact tape_ne HBK2.out h0
    exact Below.heap_setCell _ _ _ _ hne
  · intro x hx
    rcases List.mem_append.1 hx with h1 | h1
    · exact hxx x (by simpa using h1)
    · exact hxy x h1
  · refine ⟨World.grownBy.trans ⟨HB2.out.os, HB2.out.tape, HB2.out.output, HB2.out.size, fun k hk _ => HB2.out.block k hk⟩ (grown_set _ p 1 _), fun b hb => .inr ?_⟩
    obtain ⟨n, c', ad, h1, rfl⟩ := hb
    rw [World.cell?_setCell_same' _ _ _ (by rw [hd0]; rfl)] at h1
    simp only [Option.some.injEq, Value.slice.injEq] at h1
    obtain ⟨rfl, _, _⟩ := h1
    exact ⟨(HO3.out ad rfl).1, by have := (HO3.out ad rfl).2; simpa using this⟩
theorem TapeSt.keep {w w' : World} {p : Nat} {l : List Int} {S : Nat → Prop} (h : TapeSt w p l) (hc : Chg w w' S) (hp : ¬ S p) (hA : ∀ b, Arr w p b → ¬ S b) : TapeSt w' p l ∧ ∀ b, Arr w' p b → Arr w p b := by
  have hlt := h.lt
  have hcell : w'.cell? ⟨p, 1, none⟩ = w.cell? ⟨p, 1, none⟩ := World.cell?_of_block (hc.block p hlt hp)
  obtain ⟨A, c, h1, h2, h3, h4⟩ := h
  have h0 : w.cell? ⟨p, 1, none⟩ = some (.slice A l.length c) := (blk_cell h1 1).trans rfl
  refine ⟨⟨A, c, (hc.block p hlt hp).trans h1, h2, C_move h3 (fun ad ha hn => ?_), h4⟩, fun b ⟨n, c', ad, g1, g2⟩ => ⟨n, c', ad, hcell ▸ g1, g2⟩⟩
  subst ha
  exact hc.block _ (Kd.C_lt h3 hn (by decide)) (hA _ ⟨_, _, ad, h0, rfl⟩)
end Go.Proofs.Ytoapbppjkidgiaa.Tape
