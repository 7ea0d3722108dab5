/- TapeWithin: the walk of chapter 13's third law. No condition. -/
import Derived.Test.YtoapbppjkidgiaaTapeLaws
namespace Go.Proofs.Ytoapbppjkidgiaa.Tape
open Go.RowKit Go.Proofs.YtoapbppjkidgiaaW.PrintWords Go.Proofs.YtoapbppjkidgiaaW.PrintLast Go.Proofs.YtoapbppjkidgiaaW.PrintMore
set_option linter.unusedVariables false
theorem max2_mx (k k' : IntKind) (x y : Int) : Builtin.max2 (.int k x) (.int k' y) = pure (.int k (mx x y)) := max2_int k k' x y
theorem min2_mn (k k' : IntKind) (x y : Int) : Builtin.min2 (.int k x) (.int k' y) = pure (.int k (mn x y)) := min2_int k k' x y
attribute [local go_sem] max2_mx min2_mn max_two min_two
theorem place (at_ : Int) (len : Nat) : ∃ m : Nat, mn (mx at_ 0) len = m ∧ m ≤ len := by
  unfold mn mx
  split <;> split
  all_goals first
    | exact ⟨len, rfl, Nat.le_refl _⟩
    | exact ⟨0, rfl, Nat.zero_le _⟩
    | exact ⟨at_.toNat, by omega, by omega⟩

/-- what a draw below n takes off a tape of l, and what it leaves. -/
def dr (l : List Int) (n : Int) : Int := if n < 2 then 0 else match l with
  | x :: y :: _ => two x y % n
  | _ => 0
def rs (l : List Int) (n : Int) : List Int := if n < 2 then l else match l with
  | _ :: _ :: t => t
  | l => l
theorem dr_in (l : List Int) (n : Int) : 0 ≤ dr l n ∧ (1 ≤ n → dr l n < n) ∧ (n < 1 → dr l n = 0) := by
  unfold dr
  by_cases h : n < 2
  · rw [if_pos h]; omega
  · rw [if_neg h]
    split
    · exact ⟨Int.emod_nonneg _ (by omega), fun _ => Int.emod_lt_of_pos _ (by omega), fun h1 => absurd h1 (by omega)⟩
    · omega
theorem rs_len (l : List Int) (n : Int) : (rs l n).length ≤ l.length := by
  unfold rs
  split
  · exact Nat.le_refl _
  · split
    · simp; omega
    · exact Nat.le_refl _
theorem grown_refl (w : World) (r : Option Nat) : w.grownBy w r := ⟨rfl, rfl, rfl, Nat.le_refl _, fun _ _ _ => rfl⟩
theorem draw_any (w : World) (p : Nat) (l : List Int) (n : Int) (h : TapeSt w p l) :
    Calls Try.prog 18 #[.pointer (some ⟨p, 0, none⟩), .int .i64 n] w fun e w' => e = .returned (.int .i64 (dr l n)) ∧ TapeSt w' p (rs l n) ∧ w.grownBy w' (some p) := by
  by_cases hn : n < 2
  · refine (draw_small w _ n hn).mono ?_
    rintro e w' ⟨rfl, rfl⟩
    unfold dr rs
    rw [if_pos hn, if_pos hn]
    exact ⟨rfl, h, grown_refl _ _⟩
  · have e1 : ∀ l, dr l n = match l with | x :: y :: _ => two x y % n | _ => 0 := fun l => by unfold dr; rw [if_neg hn]
    have e2 : ∀ l, rs l n = match l with | _ :: _ :: t => t | l => l := fun l => by unfold rs; rw [if_neg hn]
    match l, h with
    | [], h =>
      refine (draw_short w p [] n h (by decide)).mono ?_
      rintro e w' ⟨rfl, rfl⟩
      rw [e1, e2]; exact ⟨rfl, h, grown_refl _ _⟩
    | [x], h =>
      refine (draw_short w p [x] n h (by simp)).mono ?_
      rintro e w' ⟨rfl, rfl⟩
      rw [e1, e2]; exact ⟨rfl, h, grown_refl _ _⟩
    | x :: y :: t, h =>
      rw [e1, e2]
      exact draw_take w p x y t n h (by omega)
/-- the bytes up to a place, and from it on. -/
theorem C_take {k : IntKind} {w : World} {A : Option Addr} {l : List Int} (h : Kd.C (Kd.int k) w A l.length l) (m : Nat) (hm : m ≤ l.length) : Kd.C (Kd.int k) w A (l.take m).length (l.take m) := by
  refine ⟨rfl, by have := h.2.1; simp; omega, fun hn => ?_⟩
  have hl : (l.take m).length = m := by simp; omega
  obtain ⟨ad, rfl, hc⟩ := h.2.2 (by omega)
  refine ⟨ad, rfl, fun j p hj => hc j p ?_⟩
  have hlt := (List.getElem?_eq_some_iff.1 hj).1
  rwa [List.getElem?_take_of_lt (by omega)] at hj
theorem C_drop {k : IntKind} {w : World} {ad : Addr} {l : List Int} (h : Kd.C (Kd.int k) w (some ad) l.length l) (m : Nat) (hm : m ≤ l.length) : Kd.C (Kd.int k) w (some (ad.add m)) (l.drop m).length (l.drop m) := by
  refine ⟨rfl, by have := h.2.1; simp; omega, fun hn => ⟨_, rfl, fun j p hj => ⟨[.int k p], rfl, rfl, fun i u hu => ?_⟩⟩⟩
  rw [List.getElem?_drop] at hj
  have h1 := C_cell h (m + j) p hj
  have hi : i = 0 := by
    have := (List.getElem?_eq_some_iff.1 hu).1
    simp at this
    exact this
  subst hi
  obtain rfl : .int k p = u := by simpa using hu
  rw [Addr.add_add]
  have e : m + (j * (Kd.int k).sz + 0) = m + j := by show m + (j * 1 + 0) = m + j; omega
  rw [e]
  exact h1
theorem TapeSt.lt {w : World} {p : Nat} {l : List Int} (h : TapeSt w p l) : p < w.heap.size := by
  obtain ⟨_, _, h1, _⟩ := h
  exact blk_lt h1
theorem TapeSt.other {w w' : World} {p q : Nat} {l l0 : List Int} (h : TapeSt w q l) (hp : TapeSt w p l0) (hne : q ≠ p) (hg : w.grownBy w' (some p)) : TapeSt w' q l := by
  obtain ⟨A, c, h1, h2, h3, h4⟩ := h
  obtain ⟨A0, c0, g1, _⟩ := hp
  refine ⟨A, c, (hg.block q (blk_lt h1) (fun e => hne (Option.some.inj e))).trans h1, h2, C_move h3 (fun ad ha hn => hg.block _ ?_ (fun e => ?_)), h4⟩
  · subst ha
    exact Kd.C_lt h3 hn (by decide)
  · subst ha
    obtain ⟨z, hz⟩ : ∃ z, l[0]? = some z := ⟨_, List.getElem?_eq_getElem hn⟩
    have h0 := C_cell h3 0 z hz
    rw [Addr.add_zero'] at h0
    exact tape_ne g1 h0 (Option.some.inj e)
set_option maxHeartbeats 4000000 in
set_option maxRecDepth 100000 in
theorem within_some (w : World) (ad : Addr) (l : List Int) (c : Nat) (at_ n : Int) (hr : Kd.C (Kd.int .u8) w (some ad) l.length l) (hc : l.length ≤ c) (hcm : c ≤ 9223372036854775807) (hl : ∀ x ∈ l, 0 ≤ x ∧ x < 256) :
    Calls Try.prog 5 #[.slice (some ad) l.length c, .int .i64 at_, .int .i64 n] w fun e w' => e = .returned (.bool true) ∧ Below w.heap.size w w' := by
  have HR := Aside0.mk hr
  have HL := Aside0.mk hl
  clear hr hl
  by_cases hlen : (10000 : Int) < l.length
  · go_enter Try.func5, Try.ntmps5
    go_wp2_with (go_at_call 14; refine (awake_calls _).mono ?_; rintro e w0 ⟨rfl, hb⟩; have HB0 := Aside0.mk hb; clear hb)
    go_ret
    exact ⟨rfl, HB0.out⟩
  · go_enter Try.func5, Try.ntmps5
    go_wp2_with (go_at_call 14; refine (awake_calls _).mono ?_; rintro e w0 ⟨rfl, hb⟩; have HB0 := Aside0.mk hb; clear hb)
    obtain ⟨m, hm, hml⟩ := place at_ l.length
    simp only [hm]
    clear hm
    refine (new_calls _).mono ?_
    rintro e w1 ⟨rfl, ht, hb⟩
    have HS := Aside0.mk ht
    have HB1 := Aside0.mk hb
    have lt1 : w0.heap.size < w1.heap.size := by
      obtain ⟨_, _, h1, _⟩ := ht
      exact blk_lt h1
    clear ht hb
    go_wp2_with fail
    refine (new_calls _).mono ?_
    rintro e w2 ⟨rfl, ht, hb⟩
    have HT := Aside0.mk ht
    have HB2 := Aside0.mk hb
    have HS2 := Aside0.mk (HS.out.move (fun k hk => hb.block k hk))
    clear ht hb HS
    go_wp2_with fail
    have B2 : Below w.heap.size w w2 := below_then (below_then HB0.out HB0.out.size HB1.out) (by have := HB0.out.size; have := HB1.out.size; omega) HB2.out
    have hlen2 : ([] : List Int).length + l.length ≤ 65536 := by simp; omega
    refine (add_room _ _ [] _ l _ HS2.out hlen2 (Kd.C_below HR.out B2) HL.out).mono ?_
    rintro e w3 ⟨rfl, ht, hg⟩
    have HS3 := Aside0.mk ht
    have HG3 := Aside0.mk hg
    have HT3 := Aside0.mk (HT.out.other HS2.out (by omega) hg)
    have HB3 := Aside0.mk (B2.grown hg B2.size (fun k e => by cases e; exact HB0.out.size))
    clear ht hg HT HS2 B2 hlen2
    go_wp2_with fail
    have ltm : (l.take m).length = m := by simp; omega
    have hlen3 : ([] : List Int).length + (l.take m).length ≤ 65536 := by rw [ltm]; simp; omega
    have k3 := add_room w3 w1.heap.size [] (some ad) (l.take m) c HT3.out hlen3 (C_take (Kd.C_below HR.out HB3.out) m hml) (fun x hx => HL.out x (List.mem_of_mem_take hx))
    rw [ltm] at k3
    refine k3.mono ?_
    rintro e w4 ⟨rfl, ht, hg⟩
    have HT4 := Aside0.mk ht
    have HG4 := Aside0.mk hg
    have HS4 := Aside0.mk (HS3.out.other HT3.out (by omega) hg)
    have HB4 := Aside0.mk (HB3.out.grown hg HB3.out.size (fun k e => by cases e; have := HB0.out.size; omega))
    clear ht hg k3 hlen3
    go_wp2_with fail
    all_goals
      have hlen4 : (l.take m).length + (l.drop m).length ≤ 65536 := by rw [ltm, List.length_drop]; omega
      have cd : ∃ B : Option Addr, Kd.C (Kd.int .u8) w4 B (l.drop m).length (l.drop m) ∧ B = (if c = m then some ad else some (ad.add m)) := by
        by_cases hcm : c = m
        · refine ⟨_, ?_, rfl⟩
          rw [if_pos hcm, List.drop_of_length_le (by omega)]
          exact C_zero _
        · refine ⟨_, ?_, rfl⟩
          rw [if_neg hcm]
          exact C_drop (Kd.C_below HR.out HB4.out) m hml
      obtain ⟨B, hcb, hB⟩ := cd
      first
        | rw [if_pos ‹c = m›] at hB
        | rw [if_neg ‹¬ c = m›] at hB
      subst hB
      have k4 := fun cb => add_room w4 w1.heap.size (l.take m) _ (l.drop m) cb HT4.out hlen4 hcb (fun x hx => HL.out x (List.mem_of_mem_drop hx))
      rw [List.length_drop] at k4
      refine (k4 _).mono ?_
      rintro e w5 ⟨rfl, ht, hg⟩
      rw [List.take_append_drop] at ht
      have HT5 := Aside0.mk ht
      have HG5 := Aside0.mk hg
      have HS5 := Aside0.mk (HS4.out.other HT4.out (by omega) hg)
      have HB5 := Aside0.mk (HB4.out.grown hg HB4.out.size (fun k e => by cases e; have := HB0.out.size; omega))
      clear ht hg k4 hlen4 hcb
      go_wp2_with fail
      have hpq : w0.heap.size ≠ w1.heap.size := by omega
      have HQ := Aside0.mk hpq
      have hlo : w.heap.size ≤ w0.heap.size := HB0.out.size
      have hl1 : w.heap.size ≤ w1.heap.size := by omega
      clear HB2 HB1 HS3 HT3 HG3 HB3 HT4 HS4 HG4 HB4 HG5 hpq
      go_loopw [9] (fun i wr => ∃ (k : Nat) (z : List Int), i = .int .i64 k ∧ k ≤ 200 ∧ TapeSt wr w0.heap.size z ∧ TapeSt wr w1.heap.size z ∧ Below w.heap.size w wr) (fun i _ => 200 - (intOf i).toNat)
      case atStart => exact ⟨0, l, rfl, by omega, HS5.out, HT5.out, HB5.out⟩
      case round =>
        obtain ⟨k, z, rfl, hk, hs, ht, hb⟩ := hrel
        by_cases hgo : (k : Int) ≤ (l.length : Int) / 2 ∧ k < 200
        · obtain ⟨h1, h2⟩ := hgo
          have HZS := Aside0.mk hs
          have HZT := Aside0.mk ht
          have HZB := Aside0.mk hb
          clear hs ht hb HS5 HT5 HB5
          have hd0 : 0 ≤ dr z n := (dr_in z n).1
          by_cases hn : n < 1
          · have hdz : dr z n = 0 := (dr_in z n).2.2 hn
            have HD := Aside0.mk hdz
            clear hdz
            go_wp2_with fail
            refine (draw_any _ _ z n HZS.out).mono ?_
            rintro e w6 ⟨he, hs, hg⟩
            rw [HD.out] at he
            subst he
            have HS6 := Aside0.mk hs
            have HG6 := Aside0.mk hg
            have HT6 := Aside0.mk (HZT.out.other HZS.out (Ne.symm HQ.out) hg)
            clear hs hg
            go_wp2_with fail
            refine (draw_any _ _ z n HT6.out).mono ?_
            rintro e w7 ⟨he, ht, hg⟩
            rw [HD.out] at he
            subst he
            have HT7 := Aside0.mk ht
            have HS7 := Aside0.mk (HS6.out.other HT6.out HQ.out hg)
            have HB7 := Aside0.mk ((HZB.out.grown HG6.out HZB.out.size (fun k e => by cases e; exact hlo)).grown hg (Nat.le_trans HZB.out.size HG6.out.size) (fun k e => by cases e; exact hl1))
            clear ht hg
            go_wp2
            go_roundw
            case rel => exact ⟨k + 1, rs z n, by go_num, by omega, HS7.out, HT7.out, HB7.out⟩
            case measure => simp [intOf]; omega
          · have hdn : dr z n < n := (dr_in z n).2.1 (by omega)
            go_wp2_with fail
            refine (draw_any _ _ z n HZS.out).mono ?_
            rintro e w6 ⟨rfl, hs, hg⟩
            have HS6 := Aside0.mk hs
            have HG6 := Aside0.mk hg
            have HT6 := Aside0.mk (HZT.out.other HZS.out (Ne.symm HQ.out) hg)
            clear hs hg
            go_wp2_with fail
            refine (draw_any _ _ z n HT6.out).mono ?_
            rintro e w7 ⟨rfl, ht, hg⟩
            have HT7 := Aside0.mk ht
            have HS7 := Aside0.mk (HS6.out.other HT6.out HQ.out hg)
            have HB7 := Aside0.mk ((HZB.out.grown HG6.out HZB.out.size (fun k e => by cases e; exact hlo)).grown hg (Nat.le_trans HZB.out.size HG6.out.size) (fun k e => by cases e; exact hl1))
            clear ht hg
            go_wp2
            go_roundw
            case rel => exact ⟨k + 1, rs z n, by go_num, by omega, HS7.out, HT7.out, HB7.out⟩
            case measure => simp [intOf]; omega
        · have HZS := Aside0.mk hs
          have HZT := Aside0.mk ht
          have HZB := Aside0.mk hb
          clear hs ht hb HS5 HT5 HB5
          by_cases h1 : (k : Int) ≤ (l.length : Int) / 2
          all_goals
            first
              | (have h2 : ¬ (k : Int) < 200 := by omega)
              | skip
            clear hgo
            go_wp2_with fail
            refine (left_calls _ _ z HZS.out).mono ?_
            rintro e w6 ⟨rfl, rfl⟩
            go_wp2_with fail
            refine (left_calls _ _ z HZT.out).mono ?_
            rintro e w6 ⟨rfl, rfl⟩
            go_wp2
            go_ret
            exact ⟨by simp, HZB.out⟩
theorem C_none {k : IntKind} (w : World) : Kd.C (Kd.int k) w none ([] : List Int).length [] := C_zero _
set_option maxHeartbeats 4000000 in
set_option maxRecDepth 100000 in
theorem within_nil (w : World) (at_ n : Int) :
    Calls Try.prog 5 #[.slice none 0 0, .int .i64 at_, .int .i64 n] w fun e w' => e = .returned (.bool true) ∧ Below w.heap.size w w' := by
  go_enter Try.func5, Try.ntmps5
  go_wp2_with (go_at_call 14; refine (awake_calls _).mono ?_; rintro e w0 ⟨rfl, hb⟩; have HB0 := Aside0.mk hb; clear hb)
  have hm : mn (mx at_ 0) 0 = 0 := by unfold mn mx; split <;> split <;> omega
  simp only [hm]
  clear hm
  refine (new_calls _).mono ?_
  rintro e w1 ⟨rfl, hs, hb⟩
  have HB1 := Aside0.mk hb
  have lt1 : w0.heap.size < w1.heap.size := hs.lt
  have HS := Aside0.mk hs
  clear hs hb
  go_wp2_with fail
  refine (new_calls _).mono ?_
  rintro e w2 ⟨rfl, ht, hb⟩
  have HB2 := Aside0.mk hb
  have HT2 := Aside0.mk ht
  have HS2 := Aside0.mk (HS.out.move (fun k hk => hb.block k hk))
  clear ht hb HS
  go_wp2_with fail
  have B2 : Below w.heap.size w w2 := below_then (below_then HB0.out HB0.out.size HB1.out) (by have := HB0.out.size; have := HB1.out.size; omega) HB2.out
  refine (add_room _ _ [] _ [] _ HS2.out (by decide) (C_none _) (by simp)).mono ?_
  rintro e w3 ⟨rfl, hs, hg⟩
  have HS3 := Aside0.mk hs
  have HT3 := Aside0.mk (HT2.out.other HS2.out (by omega) hg)
  have HB3 := Aside0.mk (B2.grown hg B2.size (fun k e => by cases e; exact HB0.out.size))
  clear hs hg HT2 HS2 B2
  go_wp2_with fail
  refine (add_room _ _ [] _ [] _ HT3.out (by decide) (C_none _) (by simp)).mono ?_
  rintro e w4 ⟨rfl, ht, hg⟩
  have HT4 := Aside0.mk ht
  have HS4 := Aside0.mk (HS3.out.other HT3.out (by omega) hg)
  have HB4 := Aside0.mk (HB3.out.grown hg HB3.out.size (fun k e => by cases e; have := HB0.out.size; omega))
  clear ht hg HT3 HS3 HB3
  go_wp2_with fail
  refine (add_room _ _ [] _ [] _ HT4.out (by decide) (C_none _) (by simp)).mono ?_
  rintro e w5 ⟨rfl, ht, hg⟩
  have HT5 := Aside0.mk ht
  have HS5 := Aside0.mk (HS4.out.other HT4.out (by omega) hg)
  have HB5 := Aside0.mk (HB4.out.grown hg HB4.out.size (fun k e => by cases e; have := HB0.out.size; omega))
  clear ht hg HT4 HS4 HB4
  go_wp2_with fail
  refine wp_loop_rounds 2 ?_
  by_cases hn : n < 1
  all_goals
    rw [rounds_succ]
    go_wp2_with fail
    refine (draw_short _ _ [] n HS5.out (by decide)).mono ?_
    rintro e w6 ⟨rfl, rfl⟩
    go_wp2_with fail
    refine (draw_short _ _ [] n HT5.out (by decide)).mono ?_
    rintro e w6 ⟨rfl, rfl⟩
    go_wp2_with fail
    rw [rounds_succ]
    go_wp2_with fail
    refine (left_calls _ _ [] HS5.out).mono ?_
    rintro e w6 ⟨rfl, rfl⟩
    go_wp2_with fail
    refine (left_calls _ _ [] HT5.out).mono ?_
    rintro e w6 ⟨rfl, rfl⟩
    go_wp2
    go_ret
    exact ⟨rfl, HB5.out⟩
theorem bytes_wf {l : List Int} (h : ∀ n ∈ l, (Lit.int .u8 n).wf = true) : ∀ x ∈ l, 0 ≤ x ∧ x < 256 := by
  intro x hx
  have h1 := h x hx
  simp only [Lit.wf, Bool.and_eq_true, decide_eq_true_eq] at h1
  have hmin : IntKind.u8.min = 0 := rfl
  have hmax : IntKind.u8.max = 255 := rfl
  omega
theorem within_calls (w : World) (a : Option Addr) (len cap : Nat) (zs : List Int) (at_ n : Int)
    (h : (a = none ∧ len = 0 ∧ cap = 0 ∧ zs = []) ∨ ∃ x, a = some x ∧ len ≤ cap ∧ cap ≤ maxLen ∧ zs.length = cap ∧ (∀ i, i < zs.length → w.cell? (x.add i) = some (.int .u8 (zs.getD i 0))) ∧ ∀ n ∈ zs, (Lit.int .u8 n).wf = true) :
    Calls Try.prog 5 #[.slice a len cap, .int .i64 at_, .int .i64 n] w fun e w' => e = .returned (.bool true) ∧ Below w.heap.size w w' := by
  have h2 := h
  rcases h with ⟨rfl, rfl, rfl, rfl⟩ | ⟨x, rfl, h3, h4, _⟩
  · exact within_nil w at_ n
  · obtain ⟨l, rfl, hr, hm, hw, hc⟩ := ReadsInt.ofRowC h2
    exact within_some w x l cap at_ n (Kd.C_of_reads (d := (0 : Int)) (h1 := fun _ => rfl) hr) hc (by unfold maxLen at h4; omega) (bytes_wf hw)
end Go.Proofs.Ytoapbppjkidgiaa.Tape
