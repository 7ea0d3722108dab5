/- Tape: what the functions of package tape do to a tape. Conditions: the tape is one that New made. -/
import Derived.Test.YtoapbppjkidgiaaBase
namespace Go.Proofs.Ytoapbppjkidgiaa.Tape
open Go.RowKit Go.Proofs.YtoapbppjkidgiaaW.PrintWords Go.Proofs.YtoapbppjkidgiaaW.PrintLast Go.Proofs.YtoapbppjkidgiaaW.PrintMore
set_option linter.unusedVariables false

/-- A tape at block p holds the bytes l. -/
def TapeSt (w : World) (p : Nat) (l : List Int) : Prop :=
  ∃ A c, w.heap[p]? = some (.cells #[.bool true, .slice A l.length c] 84 (0, 0)) ∧ l.length ≤ c ∧ Kd.C (Kd.int .u8) w A l.length l ∧ ∀ x ∈ l, 0 ≤ x ∧ x < 256

set_option maxHeartbeats 1000000 in
theorem left_calls (w : World) (p : Nat) (l : List Int) (h : TapeSt w p l) :
    Calls Try.prog 17 #[.pointer (some ⟨p, 0, none⟩)] w fun e w' => e = .returned (.int .i64 l.length) ∧ w' = w := by
  obtain ⟨A, c, hb, hc, hr, hx⟩ := h
  have hc1 : w.cell? ⟨p, 1, none⟩ = some (.slice A l.length c) := (blk_cell hb 1).trans rfl
  clear hb hr hx
  go_enter Try.func17, Try.ntmps17
  go_wp2
  go_ret
  exact ⟨rfl, rfl⟩
theorem left_nil (w : World) :
    Calls Try.prog 17 #[.pointer none] w fun e w' => e = .returned (.int .i64 0) ∧ w' = w := by
  go_enter Try.func17, Try.ntmps17
  go_wp2
  go_ret
  exact ⟨rfl, rfl⟩
set_option maxHeartbeats 1000000 in
theorem take_calls (w : World) (p n c : Nat) (ad : Addr) (x : Int) (hb : w.heap[p]? = some (.cells #[.bool true, .slice (some ad) (n + 1) c] 84 (0, 0)))
    (hcell : w.cell? ad = some (.int .u8 x)) (hc : n + 1 ≤ c) (h0 : 0 ≤ x) (h1 : x < 256) :
    Calls Try.prog 58 #[.pointer (some ⟨p, 0, none⟩)] w fun e w' => e = .returned (.int .i64 x) ∧ w' = w.setCell ⟨p, 1, none⟩ (.slice (if c = 1 then some ad else some (ad.add 1)) n (c - 1)) := by
  have hc1 : w.cell? ⟨p, 1, none⟩ = some (.slice (some ad) (n + 1) c) := (blk_cell hb 1).trans rfl
  have hf1 := blk_frozen hb 1
  clear hb
  go_enter Try.func58, Try.ntmps58
  go_wp2
  all_goals
    go_ret
    exact ⟨rfl, rfl⟩
theorem grown_set (w : World) (p i : Nat) (v : Value) : w.grownBy (w.setCell ⟨p, i, none⟩ v) (some p) :=
  ⟨rfl, rfl, rfl, by simp, fun k _ hk => Below.heap_setCell w _ v k (fun h => hk (by rw [h]))⟩
/-- a number of two bytes. -/
def two (x y : Int) : Int := x * 256 + y
theorem two_in (x y : Int) (a0 : 0 ≤ x) (a1 : x < 256) (b0 : 0 ≤ y) (b1 : y < 256) : 0 ≤ two x y ∧ two x y < 65536 := by unfold two; omega
/-- what is read lies in other blocks: it is read as before. -/
theorem C_move {k : IntKind} {w w' : World} {A : Option Addr} {n : Nat} {l : List Int} (h : Kd.C (Kd.int k) w A n l) (hA : ∀ ad, A = some ad → 0 < n → w'.heap[ad.block]? = w.heap[ad.block]?) : Kd.C (Kd.int k) w' A n l := by
  refine ⟨h.1, h.2.1, fun hn => ?_⟩
  obtain ⟨ad, rfl, hc⟩ := h.2.2 hn
  refine ⟨ad, rfl, fun j p hj => ?_⟩
  obtain ⟨c, h1, h2, h3⟩ := hc j p hj
  refine ⟨c, h1, h2, fun i u hu => ?_⟩
  rw [World.cell?_of_block (w := w)]
  · exact h3 i u hu
  · have e : ∀ m : Nat, (ad.add m).block = ad.block := fun m => by unfold Addr.add; split <;> rfl
    rw [e]
    exact hA ad rfl hn
theorem C_cell {k : IntKind} {w : World} {ad : Addr} {n : Nat} {l : List Int} (h : Kd.C (Kd.int k) w (some ad) n l) (j : Nat) (q : Int) (hj : l[j]? = some q) : w.cell? (ad.add j) = some (.int k q) := by
  have hn : 0 < n := by
    have := (List.getElem?_eq_some_iff.1 hj).1
    have := h.1
    omega
  obtain ⟨_, e, hc⟩ := h.2.2 hn
  obtain rfl := Option.some.inj e
  obtain ⟨cs, _, rfl, h2⟩ := hc j q hj
  have := h2 0 (.int k q) rfl
  have e : j * (Kd.int k).sz + 0 = j := by show j * 1 + 0 = j; omega
  rwa [e] at this
/-- the same, one element on. -/
theorem C_tail {k : IntKind} {w : World} {ad : Addr} {x : Int} {l : List Int} (h : Kd.C (Kd.int k) w (some ad) (x :: l).length (x :: l)) : Kd.C (Kd.int k) w (some (ad.add 1)) l.length l := by
  refine ⟨rfl, by have := h.2.1; simp at this; omega, fun hn => ⟨_, rfl, fun j p hj => ⟨[.int k p], rfl, rfl, fun i u hu => ?_⟩⟩⟩
  have h1 := C_cell h (j + 1) p (by simpa using hj)
  have hi : i = 0 := by
    have := (List.getElem?_eq_some_iff.1 hu).1
    simp at this
    exact this
  subst hi
  obtain rfl : .int k p = u := by simpa using hu
  rw [Addr.add_add]
  have e : 1 + (j * (Kd.int k).sz + 0) = j + 1 := by show 1 + (j * 1 + 0) = j + 1; omega
  rw [e]
  exact h1
theorem C_zero {α : Type} {d : Kd α} {w : World} (A : Option Addr) : Kd.C d w A ([] : List α).length [] := ⟨rfl, by simp, fun h => absurd h (Nat.lt_irrefl 0)⟩
/-- the block of a tape holds no numbers. -/
theorem tape_ne {w : World} {p : Nat} {b : Bool} {A : Option Addr} {n c : Nat} {ad : Addr} {k : IntKind} {x : Int} (hb : w.heap[p]? = some (.cells #[.bool b, .slice A n c] 84 (0, 0))) (hc : w.cell? ad = some (.int k x)) : ad.block ≠ p := by
  rintro rfl
  simp only [World.cell?, hb] at hc
  match ad, hc with
  | ⟨_, 0, _⟩, hc => simp at hc
  | ⟨_, 1, _⟩, hc => simp at hc
  | ⟨_, n + 2, _⟩, hc => simp at hc
/-- a byte is taken off the tape. -/
theorem take_tape (w : World) (p : Nat) (x : Int) (l : List Int) (h : TapeSt w p (x :: l)) :
    Calls Try.prog 58 #[.pointer (some ⟨p, 0, none⟩)] w fun e w' => e = .returned (.int .i64 x) ∧ TapeSt w' p l ∧ w.grownBy w' (some p) := by
  obtain ⟨A, c, hb, hc, hr, hx⟩ := h
  obtain ⟨ad, rfl, _⟩ := hr.2.2 (by simp)
  have h0 := C_cell hr 0 x rfl
  rw [Addr.add_zero'] at h0
  have hx0 := hx x (by simp)
  have hne := tape_ne hb h0
  refine (take_calls w p l.length c ad x hb h0 hc hx0.1 hx0.2).mono ?_
  rintro e w' ⟨rfl, rfl⟩
  refine ⟨rfl, ⟨_, _, by simpa using blk_set hb 1 _, by simp at hc; omega, ?_, fun z hz => hx z (by simp [hz])⟩, grown_set w p 1 _⟩
  by_cases h1 : c = 1
  · obtain rfl : l = [] := by
      simp at hc
      exact List.length_eq_zero_iff.1 (by omega)
    exact C_zero _
  · rw [if_neg h1]
    refine C_move (C_tail hr) (fun a ha _ => ?_)
    obtain rfl := Option.some.inj ha
    exact Below.heap_setCell w _ _ _ (by
      have e : ∀ m : Nat, (ad.add m).block = ad.block := fun m => by unfold Addr.add; split <;> rfl
      rw [e]; exact hne)
theorem or_zero (x : Int) (h0 : 0 ≤ x) (h1 : x < 256) : bits .or .i64 0 x = x := by
  have := bits_join .i64 16 (by decide) (fun n h0 h1 => by rw [IntKind.wrap_i64]; omega) 8 0 x (by omega) (by omega) (by omega) h0 (by omega) (by omega)
  omega
theorem or_next (x y : Int) (h0 : 0 ≤ x) (h1 : x < 256) (g0 : 0 ≤ y) (g1 : y < 256) : bits .or .i64 (wrap64 (x * 256)) y = x * 256 + y := by
  have e : wrap64 (x * 256) = x * 256 := by unfold wrap64; omega
  rw [e]
  exact bits_join .i64 16 (by decide) (fun n h0 h1 => by rw [IntKind.wrap_i64]; omega) 8 (x * 256) y (by omega) (by omega) (by omega) g0 (by omega) (by omega)
set_option maxHeartbeats 1000000 in
theorem number_calls (w : World) (p : Nat) (x y : Int) (l : List Int) (h : TapeSt w p (x :: y :: l)) :
    Calls Try.prog 57 #[.func (.func 58) #[.pointer (some ⟨p, 0, none⟩)] #[]] w fun e w' => e = .returned (.int .i64 (two x y)) ∧ TapeSt w' p l ∧ w.grownBy w' (some p) := by
  have hb : (0 ≤ x ∧ x < 256) ∧ (0 ≤ y ∧ y < 256) := by
    obtain ⟨_, _, _, _, _, hx⟩ := h
    exact ⟨hx x (by simp), hx y (by simp)⟩
  have HX := Aside0.mk hb
  clear hb
  go_enter Try.func57, Try.ntmps57
  go_wp2
  refine wp_loop_rounds 3 ?_
  rw [rounds_succ]
  have HT := Aside0.mk h
  clear h
  go_wp2_with (go_at_call 58; refine (take_tape _ p x _ HT.out).mono ?_; rintro e w1 ⟨rfl, ht, hg⟩; have HT1 := Aside0.mk ht; have HG := Aside0.mk hg; clear ht hg HT)
  rw [rounds_succ]
  go_wp2_with (go_at_call 58; refine (take_tape _ p y _ HT1.out).mono ?_; rintro e w2 ⟨rfl, ht, hg⟩; have HT2 := Aside0.mk ht; have HG2 := Aside0.mk hg; clear ht hg HT1)
  rw [rounds_succ]
  go_wp2
  go_ret
  obtain ⟨⟨a0, a1⟩, b0, b1⟩ := HX.out
  refine ⟨?_, HT2.out, HG.out.trans HG2.out⟩
  have e := or_next x y a0 a1 b0 b1
  rw [← or_zero x a0 a1] at e
  show Ending.returned (.int .i64 (bits .or .i64 (wrap64 (bits .or .i64 0 x * 256)) y)) = _
  rw [e, or_zero x a0 a1]; rfl
set_option maxHeartbeats 1000000 in
theorem draw_small (w : World) (a : Option Addr) (n : Int) (hn : n < 2) :
    Calls Try.prog 18 #[.pointer a, .int .i64 n] w fun e w' => e = .returned (.int .i64 0) ∧ w' = w := by
  go_enter Try.func18, Try.ntmps18
  go_wp2
  go_ret
  exact ⟨rfl, rfl⟩
set_option maxHeartbeats 1000000 in
theorem draw_nil (w : World) (n : Int) :
    Calls Try.prog 18 #[.pointer none, .int .i64 n] w fun e w' => e = .returned (.int .i64 0) ∧ w' = w := by
  by_cases hn : n < 2
  · exact draw_small w none n hn
  · go_enter Try.func18, Try.ntmps18
    go_wp2_with (go_at_call 17; refine (left_nil _).mono ?_; rintro e w1 ⟨rfl, rfl⟩)
    go_ret
    exact ⟨rfl, rfl⟩
set_option maxHeartbeats 1000000 in
theorem draw_short (w : World) (p : Nat) (l : List Int) (n : Int) (h : TapeSt w p l) (hl : l.length < 2) :
    Calls Try.prog 18 #[.pointer (some ⟨p, 0, none⟩), .int .i64 n] w fun e w' => e = .returned (.int .i64 0) ∧ w' = w := by
  by_cases hn : n < 2
  · exact draw_small w _ n hn
  · have HT := Aside0.mk h
    clear h
    go_enter Try.func18, Try.ntmps18
    go_wp2_with (go_at_call 17; refine (left_calls _ _ _ HT.out).mono ?_; rintro e w1 ⟨rfl, rfl⟩)
    go_ret
    exact ⟨rfl, rfl⟩
set_option maxHeartbeats 1000000 in
theorem draw_take (w : World) (p : Nat) (x y : Int) (l : List Int) (n : Int) (h : TapeSt w p (x :: y :: l)) (hn : 2 ≤ n) :
    Calls Try.prog 18 #[.pointer (some ⟨p, 0, none⟩), .int .i64 n] w fun e w' => e = .returned (.int .i64 (two x y % n)) ∧ TapeSt w' p l ∧ w.grownBy w' (some p) := by
  have hb := two_in x y
  have hb2 : 0 ≤ two x y := by
    obtain ⟨_, _, _, _, _, hx⟩ := h
    exact (hb (hx x (by simp)).1 (hx x (by simp)).2 (hx y (by simp)).1 (hx y (by simp)).2).1
  clear hb
  have HT := Aside0.mk h
  clear h
  have hmf : ∀ (fn : Fn) (first cap : Array Value) (w : World), (Instr.makeFunc fn first cap).run Try.prog w = .ok (.func fn first cap) w := fun _ _ _ _ => rfl
  have hl : ¬ ((x :: y :: l).length : Int) < 2 := by simp; omega
  go_enter Try.func18, Try.ntmps18
  go_wp2_with (first | (go_at_call 17; refine (left_calls _ _ _ HT.out).mono ?_; rintro e w1 ⟨rfl, rfl⟩) | (go_at_call 57; refine (number_calls _ _ x y l HT.out).mono ?_; rintro e w1 ⟨rfl, ht, hg⟩; have HT1 := Aside0.mk ht; have HG := Aside0.mk hg; clear ht hg))
  go_ret
  exact ⟨rfl, HT1.out, HG.out⟩
set_option maxHeartbeats 1000000 in
theorem add_full (w : World) (p : Nat) (l : List Int) (B : Option Addr) (n cb : Nat) (h : TapeSt w p l) (hn : 65536 < l.length + n) (hnm : n ≤ 9223372036854775807) :
    Calls Try.prog 16 #[.pointer (some ⟨p, 0, none⟩), .slice B n cb] w fun e w' => e = .returned (.int .i64 6) ∧ w' = w := by
  obtain ⟨A, c, hb, hc, hr, hx⟩ := h
  have hc0 : w.cell? ⟨p, 0, none⟩ = some (.bool true) := (blk_cell hb 0).trans rfl
  have hc1 : w.cell? ⟨p, 1, none⟩ = some (.slice A l.length c) := (blk_cell hb 1).trans rfl
  have hlt : (65536 : Int) - l.length < n := by omega
  have hlm : l.length ≤ 9223372036854775807 := hr.2.1
  clear hb hr hx
  go_enter Try.func16, Try.ntmps16
  go_wp2
  go_ret
  exact ⟨rfl, rfl⟩
theorem Try.info5 : (Try.prog.info? 5).map (fun i => (i.zero, i.size, i.bytes)) = some (some (.int .u8 0), 1, 1) := by kernel_rfl
set_option maxHeartbeats 1000000 in
theorem add_room (w : World) (p : Nat) (l : List Int) (B : Option Addr) (xs : List Int) (cb : Nat) (h : TapeSt w p l) (hn : l.length + xs.length ≤ 65536)
    (hB : Kd.C (Kd.int .u8) w B xs.length xs) (hxs : ∀ x ∈ xs, 0 ≤ x ∧ x < 256) :
    Calls Try.prog 16 #[.pointer (some ⟨p, 0, none⟩), .slice B xs.length cb] w fun e w' => e = .returned (.int .i64 0) ∧ TapeSt w' p (l ++ xs) ∧ w.grownBy w' (some p) := by
  obtain ⟨A, c, hb, hc, hr, hx⟩ := h
  have hc0 : w.cell? ⟨p, 0, none⟩ = some (.bool true) := (blk_cell hb 0).trans rfl
  have hc1 : w.cell? ⟨p, 1, none⟩ = some (.slice A l.length c) := (blk_cell hb 1).trans rfl
  have hlt : ¬ (65536 : Int) - l.length < xs.length := by omega
  have HBK := Aside0.mk hb
  have HR := Aside0.mk hr
  have HX := Aside0.mk hx
  have HXS := Aside0.mk hxs
  have HBS := Aside0.mk hB
  have hlb : l.length ≤ 65536 := by omega
  have hxb : xs.length ≤ 65536 := by omega
  clear hb hr hx hxs hB
  go_enter Try.func16, Try.ntmps16
  go_wp2_with (first
    | ((with_reducible refine gate_dst (N := 28) rfl ?_); refine Kd.R_append_rows (Kd.int .u8) (w0 := w) (W := w) w.heap.size rfl (.const (.slice none 0 0)) (.tmp 27) 27 5 (.int .u8 0) 1 rfl Try.underlying27 Try.info5 rfl (by decide) (by decide) (.slice none 0 0) [] l A l.length c (fun _ => True) (fun _ => False) rfl rfl (Kd.R_nil _ _ _ _ _) HR.out (fun _ _ h => h) (fun _ h => h.elim) (fun _ _ => trivial) (Below.refl _ _) (Nat.le_refl _) (by simp; omega) ?_; intro v1 w1 ho1 hb1 hg1 _; have HO1 := Aside0.mk ho1; have HB1 := Aside0.mk hb1; clear ho1 hb1 hg1 hc0 hc1)
    | ((with_reducible refine gate_dst (N := 30) rfl ?_); refine Kd.R_append_rows (Kd.int .u8) (w0 := w) (W := w1) w.heap.size rfl (.tmp 28) (.tmp 29) 27 5 (.int .u8 0) 1 rfl Try.underlying27 Try.info5 rfl (by decide) (by decide) v1 ([] ++ l) xs B xs.length cb (fun _ => True) (fun _ => False) rfl rfl HO1.out (Kd.C_below HBS.out HB1.out) (fun _ _ h => h) (fun _ h => h.elim) (fun _ _ => trivial) HB1.out HB1.out.size (by simp; omega) ?_; intro v2 w2 ho2 hb2 hg2 _; obtain ⟨A2, c2, rfl, hl2, hr2⟩ := Kd.R_reads ho2; have HR2 := Aside0.mk hr2; have HB2 := Aside0.mk hb2; have HL2 := Aside0.mk hl2; have hbk := blk_below HBK.out hb2; have hd0 := (blk_cell hbk 1).trans (show _ = some (.slice A l.length c) from rfl); have hd1 := blk_frozen hbk 1; have HBK2 := Aside0.mk hbk; clear ho2 hb2 hg2 hr2 hl2 hbk))
  go_ret
  have hxx := HX.out
  have hxy := HXS.out
  refine ⟨rfl, ⟨A2, c2, by simpa using blk_set HBK2.out 1 _, HL2.out, ?_, ?_⟩, ?_⟩
  · refine C_move HR2.out (fun ad ha hn0 => ?_)
    subst ha
    have hne : ad.block ≠ p := by
      obtain ⟨z, hz⟩ : ∃ z, (l ++ xs)[0]? = some z := ⟨_, List.getElem?_eq_getElem hn0⟩
      have h0 := C_cell HR2.out 0 z hz
      rw [Addr.add_zero'] at h0
      exact tape_ne HBK2.out h0
    exact Below.heap_setCell _ _ _ _ hne
  · intro x hx
    rcases List.mem_append.1 hx with h1 | h1
    · exact hxx x (by simpa using h1)
    · exact hxy x h1
  · refine World.grownBy.trans ⟨HB2.out.os, HB2.out.tape, HB2.out.output, HB2.out.size, fun k hk _ => HB2.out.block k hk⟩ (grown_set _ p 1 _)
theorem new_calls (w : World) :
    Calls Try.prog 15 #[] w fun e w' => e = .returned (.pointer (some ⟨w.heap.size, 0, none⟩)) ∧ TapeSt w' w.heap.size [] ∧ Below w.heap.size w w' := by
  go_enter Try.func15, Try.ntmps15
  go_wp2
  go_ret
  exact ⟨rfl, ⟨none, 0, heap_alloc_new _ _, Nat.le_refl _, C_zero _, by simp⟩, below_alloc (Below.refl _ _) _⟩
/-- what is told of a tape elsewhere stays. -/
theorem TapeSt.move {w w' : World} {p : Nat} {l : List Int} (h : TapeSt w p l) (hb : ∀ k, k < w.heap.size → w'.heap[k]? = w.heap[k]?) : TapeSt w' p l := by
  obtain ⟨A, c, h1, h2, h3, h4⟩ := h
  refine ⟨A, c, (hb p (blk_lt h1)).trans h1, h2, C_move h3 (fun ad ha hn => hb _ ?_), h4⟩
  subst ha
  exact Kd.C_lt h3 hn (by decide)
end Go.Proofs.Ytoapbppjkidgiaa.Tape
