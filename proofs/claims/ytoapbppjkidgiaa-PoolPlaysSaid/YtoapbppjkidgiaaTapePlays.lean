/- TapePlays: the walk of chapter 13's second law. No condition. -/
import Derived.Test.YtoapbppjkidgiaaTapeStep
import Derived.Deep.RegionWith
namespace Go.Proofs.Ytoapbppjkidgiaa.Tape
open Go.RowKit Go.Proofs.YtoapbppjkidgiaaW.PrintWords Go.Proofs.YtoapbppjkidgiaaW.PrintLast Go.Proofs.YtoapbppjkidgiaaW.PrintMore
set_option linter.unusedVariables false
set_option linter.unusedSimpArgs false
/-- a tape at p holds a, the reference's at q holds b, apart; nothing elder has turned. -/
structure Two (w wr : World) (p q : Nat) (v : Value) (a b : List Int) : Prop where
  ht : TapeSt wr p a
  hr : RefSt wr q w.heap.size v b
  hb : Below w.heap.size w wr
  ne : p ≠ q
  hp : w.heap.size ≤ p
  hq : w.heap.size ≤ q
  ha : ∀ x, Arr wr p x → x ≠ q ∧ some x ≠ v.ownBlock ∧ x < wr.heap.size
theorem Two.drew {w wr : World} {p q : Nat} {v : Value} {a b : List Int} (h : Two w wr p q v a b) : Two w wr.drew p q v a b :=
  ⟨h.ht.move (fun _ _ => rfl), ⟨h.hr.1, Kd.Q_drew h.hr.2.1, h.hr.2.2⟩, below_drew h.hb, h.ne, h.hp, h.hq, h.ha⟩
theorem Two.drewN {w wr : World} {p q : Nat} {v : Value} {a b : List Int} (h : Two w wr p q v a b) (m : Nat) : Two w (wr.drewN m) p q v a b :=
  ⟨h.ht.move (fun _ _ => rfl), ⟨h.hr.1, Kd.Q_drewN h.hr.2.1 m, h.hr.2.2⟩, pw_below_drewN h.hb m, h.ne, h.hp, h.hq, h.ha⟩
theorem Chg.wider {w w' : World} {S S2 : Nat → Prop} (h : Chg w w' S) (hs : ∀ k, S k → S2 k) : Chg w w' S2 := ⟨h.os, h.tape, h.output, h.size, fun k hk hn => h.block k hk (fun e => hn (hs k e))⟩
theorem Two.own_ne {w wr : World} {p q : Nat} {v : Value} {a b : List Int} (h : Two w wr p q v a b) : some p ≠ v.ownBlock := by
  obtain ⟨A, c, h1, _⟩ := h.ht
  exact Kd.Q_ne h.hr.2.1 h1 (by decide)
theorem Two.tape {w wr w' : World} {p q : Nat} {v : Value} {a b a' : List Int} (h : Two w wr p q v a b) (hs : Step p wr w') (ht : TapeSt w' p a') : Two w w' p q v a' b := by
  have hne := h.own_ne
  have hql : q < wr.heap.size := blk_lt h.hr.1
  refine ⟨ht, ⟨(hs.1.block q hql (fun e => h.ne (Option.some.inj e).symm)).trans h.hr.1, Kd.Q_grown1 h.hr.2.1 rfl hs.1 hne, h.hr.2.2⟩, h.hb.grown hs.1 h.hb.size (fun k e => by cases e; exact h.hp), h.ne, h.hp, h.hq, fun x hx => ?_⟩
  rcases hs.2 x hx with h1 | ⟨h1, h2⟩
  · obtain ⟨g1, g2, g3⟩ := h.ha x h1
    exact ⟨g1, g2, Nat.lt_of_lt_of_le g3 hs.1.size⟩
  · refine ⟨by omega, fun e => ?_, h2⟩
    have := Kd.Q_lt h.hr.2.1 x e.symm
    omega
theorem Two.ref {w wr w' : World} {p q : Nat} {v v' : Value} {a b b' : List Int} (h : Two w wr p q v a b) (hc : Chg wr w' (fun k => k = q ∨ some k = v.ownBlock)) (hr : RefSt w' q w.heap.size v' b')
    (ho : v'.ownBlock = v.ownBlock ∨ ∃ x, v'.ownBlock = some x ∧ wr.heap.size ≤ x) : Two w w' p q v' a b' := by
  have hne := h.own_ne
  obtain ⟨ht, hA⟩ := h.ht.keep hc (fun e => e.elim h.ne hne) (fun x hx e => e.elim (h.ha x hx).1 (h.ha x hx).2.1)
  refine ⟨ht, hr, hc.below h.hb h.hb.size (fun k hk => ?_), h.ne, h.hp, h.hq, fun x hx => ?_⟩
  · rcases hk with rfl | hk
    · exact h.hq
    · exact Kd.Q_base h.hr.2.1 k hk.symm
  · obtain ⟨g1, g2, g3⟩ := h.ha x (hA x hx)
    refine ⟨g1, fun e => ?_, Nat.lt_of_lt_of_le g3 hc.size⟩
    rcases ho with h1 | ⟨y, h1, h2⟩
    · exact g2 (e.trans h1)
    · rw [h1] at e
      have := Option.some.inj e
      omega
/-- a row of rows of bytes: one of them. -/
theorem C_row {w : World} {ad : Addr} {n e : Nat} {k : IntKind} {la : List (List Int)} (h : Kd.C (Kd.slice e (Kd.int k)) w (some ad) n la) (i : Nat) (x : List Int) (hi : la[i]? = some x) :
    ∃ A c, w.cell? (ad.add i) = some (.slice A x.length c) ∧ x.length ≤ c ∧ Kd.C (Kd.int k) w A x.length x := by
  have hn : 0 < n := by
    have := (List.getElem?_eq_some_iff.1 hi).1
    have := h.1
    omega
  obtain ⟨_, e0, hc⟩ := h.2.2 hn
  obtain rfl := Option.some.inj e0
  obtain ⟨cs, _, ⟨A, c, rfl, h1, h2⟩, h3⟩ := hc i x hi
  have h4 := h3 0 _ rfl
  have e2 : i * (Kd.slice e (Kd.int k)).sz + 0 = i := by show i * 1 + 0 = i; omega
  rw [e2] at h4
  exact ⟨A, c, h4, h1, h2⟩
theorem C_some {α : Type} {d : Kd α} {w : World} {A : Option Addr} {n : Nat} {l : List α} (h : Kd.C d w A n l) (hn : 0 < n) : ∃ ad, A = some ad := by
  obtain ⟨ad, h1, _⟩ := h.2.2 hn
  exact ⟨ad, h1⟩
/-- both tapes take the same bytes. -/
theorem both_add {w wr : World} {p q : Nat} {v : Value} {z x : List Int} {A : Option Addr} (h : Two w wr p q v z z) (c : Nat) (hx : Kd.C (Kd.int .u8) w A x.length x) (hxb : ∀ y ∈ x, 0 ≤ y ∧ y < 256) :
    ∃ r z1, Calls Try.prog 16 #[.pointer (some ⟨p, 0, none⟩), .slice A x.length c] wr (fun e w' => e = .returned (.int .i64 r) ∧ Two w w' p q v z1 z ∧
      ∀ W, W = w' → Calls Try.prog 19 #[.pointer (some ⟨q, 0, none⟩), .slice A x.length c] W fun e w2 => e = .returned (.int .i64 r) ∧ ∃ v', Two w w2 p q v' z1 z1) := by
  by_cases hn : 65536 < z.length + x.length
  · refine ⟨6, z, (add_full wr p z A x.length c h.ht hn hx.2.1).mono ?_⟩
    rintro e w' ⟨rfl, rfl⟩
    refine ⟨rfl, h, ?_⟩
    rintro W rfl
    refine (radd_full _ q _ v z A x.length c h.hr hn hx.2.1).mono ?_
    rintro e w2 ⟨rfl, rfl⟩
    exact ⟨rfl, v, h⟩
  · refine ⟨0, z ++ x, (add_step wr p z A x c h.ht (by omega) (Kd.C_below hx h.hb) hxb).mono ?_⟩
    rintro e w' ⟨rfl, ht, hs⟩
    have h2 := h.tape hs ht
    refine ⟨rfl, h2, ?_⟩
    rintro W rfl
    refine (radd_room _ q _ v z A x c h2.hr (by omega) h2.hb.size h2.hq (Kd.C_below hx h2.hb) (fun ad ha hn0 => ?_) hxb).mono ?_
    · subst ha
      exact Kd.C_lt hx hn0 (by decide)
    · rintro e w2 ⟨rfl, v', hr, hc, ho⟩
      exact ⟨rfl, v', h2.ref hc hr ho⟩
theorem new_step (w : World) :
    Calls Try.prog 15 #[] w fun e w' => e = .returned (.pointer (some ⟨w.heap.size, 0, none⟩)) ∧ TapeSt w' w.heap.size [] ∧ Below w.heap.size w w' ∧ ∀ b, ¬ Arr w' w.heap.size b := by
  go_enter Try.func15, Try.ntmps15
  go_wp2
  go_ret
  refine ⟨rfl, ⟨none, 0, heap_alloc_new _ _, Nat.le_refl _, C_zero _, by simp⟩, below_alloc (Below.refl _ _) _, ?_⟩
  rintro b ⟨n, c, ad, h, _⟩
  have h0 : (w.alloc (.cells #[.bool true, .slice none 0 0] 84)).cell? ⟨w.heap.size, 1, none⟩ = some (.slice none 0 0) := (blk_cell (heap_alloc_new _ _) 1).trans rfl
  rw [h0] at h
  simp at h
theorem Two.start {w w0 w1 : World} (h0 : Below w.heap.size w w0) (h1 : Below w0.heap.size w0 w1) (ht : TapeSt w1 w0.heap.size []) (hA : ∀ b, ¬ Arr w1 w0.heap.size b) :
    Two w (w1.alloc (.cells #[.slice none 0 0] 34)) w0.heap.size w1.heap.size (.slice none 0 0) [] [] := by
  have s0 := h0.size
  have s1 := h1.size
  have hlt := ht.lt
  refine ⟨ht.move (old_alloc _ _), ⟨heap_alloc_new _ _, Kd.Q_nil _ _ _ _ _, by simp⟩, below_alloc (below_then h0 s0 h1) _, by omega, s0, by omega, fun x hx => ?_⟩
  obtain ⟨n, c, ad, h, e⟩ := hx
  have hc : (w1.alloc (.cells #[.slice none 0 0] 34)).cell? ⟨w0.heap.size, 1, none⟩ = w1.cell? ⟨w0.heap.size, 1, none⟩ := World.cell?_of_block (old_alloc _ _ _ hlt)
  exact absurd ⟨n, c, ad, hc ▸ h, e⟩ (hA x)
set_option maxHeartbeats 4000000 in
set_option maxRecDepth 100000 in
theorem plays_calls (w : World) (A0 : Option Addr) (c0 : Nat) (la : List (List Int)) (A1 : Option Addr) (c1 : Nat) (ld : List Int)
    (hr0 : Kd.C (Kd.slice 27 (Kd.int .u8)) w A0 la.length la) (hr1 : Kd.C (Kd.int .i64) w A1 ld.length ld) (hb : ∀ x ∈ la, ∀ y ∈ x, 0 ≤ y ∧ y < 256) :
    Calls Try.prog 4 #[.slice A0 la.length c0, .slice A1 ld.length c1] w fun e w' => e = .returned (.bool true) ∧ Below w.heap.size w w' := by
  have HR0 := Aside0.mk hr0
  have HR1 := Aside0.mk hr1
  have HY := Aside0.mk hb
  clear hr0 hr1 hb
  by_cases hl0 : (300 : Int) < la.length
  · go_enter Try.func4, Try.ntmps4
    go_wp2_with (go_at_call 14; refine (awake_calls _).mono ?_; rintro e w0 ⟨rfl, hb⟩; have HB0 := Aside0.mk hb; clear hb)
    go_ret
    exact ⟨rfl, HB0.out⟩
  by_cases hl1 : (300 : Int) < ld.length
  · go_enter Try.func4, Try.ntmps4
    go_wp2_with (go_at_call 14; refine (awake_calls _).mono ?_; rintro e w0 ⟨rfl, hb⟩; have HB0 := Aside0.mk hb; clear hb)
    go_ret
    exact ⟨rfl, HB0.out⟩
  go_enter Try.func4, Try.ntmps4
  go_wp2_with (go_at_call 14; refine (awake_calls _).mono ?_; rintro e w0 ⟨rfl, hb⟩; have HB0 := Aside0.mk hb; clear hb)
  go_loop [5] (fun i => ∃ k : Nat, i = .int .i64 k ∧ k ≤ la.length) (fun i => la.length - (intOf i).toNat)
  case atStart => exact ⟨0, rfl, by omega⟩
  case round =>
    obtain ⟨k, rfl, hk⟩ := hrel
    by_cases hkl : k < la.length
    · obtain ⟨ad, hA⟩ := C_some HR0.out (by omega)
      subst hA
      obtain ⟨x, hxk⟩ : ∃ x, la[k]? = some x := ⟨_, List.getElem?_eq_getElem hkl⟩
      obtain ⟨Ax, cx, hcell, _, hcx⟩ := C_row (Kd.C_below HR0.out HB0.out) k x hxk
      have hidx : (0 : Int) ≤ (k : Int) ∧ (k : Int) < (la.length : Int) := by omega
      have hxm : x.length ≤ 9223372036854775807 := hcx.2.1
      clear hxk hcx
      go_wp2
      · go_ret
        exact ⟨rfl, HB0.out⟩
      · go_round
        case rel => exact ⟨k + 1, by go_num, by omega⟩
        case measure => simp [intOf]; omega
    · have hkk := hkl
      go_wp2_with fail
      refine (new_step _).mono ?_
      rintro e w1 ⟨rfl, ht, hb1, hA⟩
      have HT := Aside0.mk (Two.start HB0.out hb1 ht hA)
      have hpq : w0.heap.size < w1.heap.size := ht.lt
      clear ht hb1 hA
      go_wp2
      go_loopw [8] (fun i wr => ∃ (k : Nat) (v : Value) (z : List Int), i = .int .i64 k ∧ k ≤ la.length + ld.length ∧ Two w wr w0.heap.size w1.heap.size v z z) (fun i _ => la.length + ld.length + 1 - (intOf i).toNat)
      case atStart => exact ⟨0, _, [], rfl, by omega, HT.out⟩
      case round =>
        obtain ⟨j, v, z, rfl, hj, htwo⟩ := hrel
        have H2 := Aside0.mk htwo
        clear htwo HT hkk
        by_cases ha : j < la.length
        · obtain ⟨ad, hA⟩ := C_some HR0.out (by omega)
          subst hA
          obtain ⟨x, hxk⟩ : ∃ x, la[j]? = some x := ⟨_, List.getElem?_eq_getElem ha⟩
          obtain ⟨Ax, cx, hcell0, _, hcx⟩ := C_row HR0.out j x hxk
          have HCELL := Aside0.mk hcell0
          have hcell : wr.cell? (ad.add j) = some (.slice Ax x.length cx) := (H2.out.hb.cell (World.block_lt_of_cell? _ _ hcell0)).trans hcell0
          have hidx : (0 : Int) ≤ (j : Int) ∧ (j : Int) < (la.length : Int) := by omega
          have hxm : x.length ≤ 9223372036854775807 := hcx.2.1
          obtain ⟨r, z1, h16⟩ := both_add H2.out cx hcx (HY.out x (List.mem_of_getElem? hxk))
          have H16 := Aside0.mk h16
          clear hxk hcx hcell0 h16
          go_wp2_with fail
          refine H16.out.mono ?_
          rintro e w3 ⟨rfl, h3, h19⟩
          have H3 := Aside0.mk h3
          have H19 := Aside0.mk h19
          have hcell3 : w3.cell? (ad.add j) = some (.slice Ax x.length cx) := (h3.hb.cell (World.block_lt_of_cell? _ _ HCELL.out)).trans HCELL.out
          clear h3 h19 hcell H16 H2
          go_wp2_with fail
          refine (H19.out _ rfl).mono ?_
          rintro e w4 ⟨rfl, v4, h4⟩
          have H4 := Aside0.mk h4
          clear h4 hcell3 H19 H3
          go_wp2_with fail
          by_cases hd : j < ld.length
          · skip
            obtain ⟨ad1, hA1⟩ := C_some HR1.out (by omega)
            subst hA1
            obtain ⟨n, hnk⟩ : ∃ n, ld[j]? = some n := ⟨_, List.getElem?_eq_getElem hd⟩
            have hcell0 := C_cell HR1.out j n hnk
            have HCELL1 := Aside0.mk hcell0
            have HLT1 := Aside0.mk (World.block_lt_of_cell? _ _ hcell0)
            have hidx1 : (0 : Int) ≤ (j : Int) ∧ (j : Int) < (ld.length : Int) := by omega
            have hdb : decide ((j : Int) < (ld.length : Int)) = true := decide_eq_true (by omega)
            have hdn : decide (j < ld.length) = true := decide_eq_true hd
            have HD := Aside0.mk (Two.drew H4.out)
            clear hnk hcell0
            go_wp2_with fail
            refine start_ (n := 19) (S := fun w' => w'.cell? (ad1.add j) = some (.int .i64 n)) (ds := []) #[false, false, false, false, false, false, false, false, false, false, false, false, false, false, false, false, false, false, false] (by kernel_rfl) rfl rfl (((HD.out.hb.cell HLT1.out).trans HCELL1.out)) (fun hHeld => ?_)
            refine pure_ (i := 0) (N := some 67) (v := ?_) (a' := ?_) #[true, false, false, false, false, false, false, false, false, false, false, false, false, false, false, false, false, false, false] rfl rfl (by kernel_rfl) (fun _ _ _ h => h) (Or.inl ⟨by rfl, ?_⟩) ?_ ?_
            rotate_left
            · intro w'
              go_simp
              with_reducible rfl
            rotate_left
            · simp only [Act.put, List.setIfInBounds_toArray, List.set_cons_zero, List.set_cons_succ, i64_w, i32_w]
              rfl
            refine pure_ (i := 1) (N := some 68) (v := ?_) (a' := ?_) #[true, true, false, false, false, false, false, false, false, false, false, false, false, false, false, false, false, false, false] rfl rfl (by kernel_rfl) (fun _ _ _ h => h) (Or.inl ⟨by rfl, ?_⟩) ?_ ?_
            rotate_left
            · intro w'
              go_simp
              with_reducible rfl
            rotate_left
            · simp only [Act.put, List.setIfInBounds_toArray, List.set_cons_zero, List.set_cons_succ, i64_w, i32_w]
              rfl
            refine pure_ (i := 2) (N := some 69) (v := ?_) (a' := ?_) #[true, true, true, false, false, false, false, false, false, false, false, false, false, false, false, false, false, false, false] rfl rfl (by kernel_rfl) (fun _ _ _ h => h) (Or.inl ⟨by rfl, ?_⟩) ?_ ?_
            rotate_left
            · intro w'
              go_simp
              with_reducible rfl
            rotate_left
            · simp only [Act.put, List.setIfInBounds_toArray, List.set_cons_zero, List.set_cons_succ, i64_w, i32_w]
              rfl
            refine pure_ (i := 3) (N := some 70) (v := ?_) (a' := ?_) #[true, true, true, true, false, false, false, false, false, false, false, false, false, false, false, false, false, false, false] rfl rfl (by kernel_rfl) (fun _ _ _ h => h) (Or.inl ⟨by rfl, ?_⟩) ?_ ?_
            rotate_left
            · intro w'
              go_simp
              with_reducible rfl
            rotate_left
            · simp only [Act.put, List.setIfInBounds_toArray, List.set_cons_zero, List.set_cons_succ, i64_w, i32_w]
              rfl
            refine pure_ (i := 4) (N := some 71) (v := ?_) (a' := ?_) #[true, true, true, true, true, false, false, false, false, false, false, false, false, false, false, false, false, false, false] rfl rfl (by kernel_rfl) (fun _ _ _ h => h) (Or.inl ⟨by rfl, ?_⟩) ?_ ?_
            rotate_left
            · intro w'
              go_simp
              with_reducible rfl
            rotate_left
            · simp only [Act.put, List.setIfInBounds_toArray, List.set_cons_zero, List.set_cons_succ, i64_w, i32_w]
              rfl
            refine pure_ (i := 5) (N := some 72) (v := ?_) (a' := ?_) #[true, true, true, true, true, true, false, false, false, false, false, false, false, false, false, false, false, false, false] rfl rfl (by kernel_rfl) (fun _ _ _ h => h) (Or.inl ⟨by rfl, ?_⟩) ?_ ?_
            rotate_left
            · intro w'
              go_simp
              with_reducible rfl
            rotate_left
            · simp only [Act.put, List.setIfInBounds_toArray, List.set_cons_zero, List.set_cons_succ, i64_w, i32_w]
              rfl
            refine pure_ (i := 6) (N := some 73) (v := ?_) (a' := ?_) #[true, true, true, true, true, true, true, false, false, false, false, false, false, false, false, false, false, false, false] rfl rfl (by kernel_rfl) (fun _ _ _ h => h) (Or.inl ⟨by rfl, ?_⟩) ?_ ?_
            rotate_left
            · intro w'
              go_simp
              with_reducible rfl
            rotate_left
            · simp only [Act.put, List.setIfInBounds_toArray, List.set_cons_zero, List.set_cons_succ, i64_w, i32_w]
              rfl
            refine pure_ (i := 7) (N := some 74) (v := ?_) (a' := ?_) #[true, true, true, true, true, true, true, true, false, false, false, false, false, false, false, false, false, false, false] rfl rfl (by kernel_rfl) (fun _ _ _ h => h) (Or.inl ⟨by rfl, ?_⟩) ?_ ?_
            rotate_left
            · intro w'
              go_simp
              with_reducible rfl
            rotate_left
            · simp only [Act.put, List.setIfInBounds_toArray, List.set_cons_zero, List.set_cons_succ, i64_w, i32_w]
              rfl
            refine pure_ (i := 8) (N := some 75) (v := ?_) (a' := ?_) #[true, true, true, true, true, true, true, true, true, false, false, false, false, false, false, false, false, false, false] rfl rfl (by kernel_rfl) (fun _ _ _ h => h) (Or.inl ⟨by rfl, ?_⟩) ?_ ?_
            rotate_left
            · intro w'
              go_simp
              with_reducible rfl
            rotate_left
            · simp only [Act.put, List.setIfInBounds_toArray, List.set_cons_zero, List.set_cons_succ, i64_w, i32_w]
              rfl
            refine pure_ (i := 11) (N := some 78) (v := ?_) (a' := ?_) #[true, true, true, true, true, true, true, true, true, false, false, true, false, false, false, false, false, false, false] rfl rfl (by kernel_rfl) (fun _ _ _ h => h) (Or.inl ⟨by rfl, ?_⟩) ?_ ?_
            rotate_left
            · intro w'
              go_simp
              with_reducible rfl
            rotate_left
            · simp only [Act.put, List.setIfInBounds_toArray, List.set_cons_zero, List.set_cons_succ, i64_w, i32_w]
              rfl
            refine pure_ (i := 12) (N := some 79) (v := ?_) (a' := ?_) #[true, true, true, true, true, true, true, true, true, false, false, true, true, false, false, false, false, false, false] rfl rfl (by kernel_rfl) (fun _ _ _ h => h) (Or.inl ⟨by rfl, ?_⟩) ?_ ?_
            rotate_left
            · intro w'
              go_simp
              with_reducible rfl
            rotate_left
            · simp only [Act.put, List.setIfInBounds_toArray, List.set_cons_zero, List.set_cons_succ, i64_w, i32_w]
              rfl
            refine pure_ (i := 13) (N := some 80) (v := ?_) (a' := ?_) #[true, true, true, true, true, true, true, true, true, false, false, true, true, true, false, false, false, false, false] rfl rfl (by kernel_rfl) (fun _ _ _ h => h) (Or.inl ⟨by rfl, ?_⟩) ?_ ?_
            rotate_left
            · intro w'
              go_simp
              with_reducible rfl
            rotate_left
            · simp only [Act.put, List.setIfInBounds_toArray, List.set_cons_zero, List.set_cons_succ, i64_w, i32_w]
              rfl
            refine pure_ (i := 14) (N := some 81) (v := ?_) (a' := ?_) #[true, true, true, true, true, true, true, true, true, false, false, true, true, true, true, false, false, false, false] rfl rfl (by kernel_rfl) (fun _ _ _ h => h) (Or.inl ⟨by rfl, ?_⟩) ?_ ?_
            rotate_left
            · intro w'
              go_simp
              with_reducible rfl
            rotate_left
            · simp only [Act.put, List.setIfInBounds_toArray, List.set_cons_zero, List.set_cons_succ, i64_w, i32_w]
              rfl
            refine take_ (i := 9) (N := some 76) (v := ?_) (a' := ?_) #[true, true, true, true, true, true, true, true, true, true, false, true, true, true, true, false, false, false, false] rfl rfl (by kernel_rfl) (fun _ _ _ h => h) (Or.inl ⟨by rfl, ?_⟩) hHeld ?_ ?_
            rotate_left
            · intro w' s0
              go_simp
              with_reducible rfl
            rotate_left
            · simp only [Act.put, List.setIfInBounds_toArray, List.set_cons_zero, List.set_cons_succ, i64_w, i32_w]
              rfl
            refine take_ (i := 15) (N := some 82) (v := ?_) (a' := ?_) #[true, true, true, true, true, true, true, true, true, true, false, true, true, true, true, true, false, false, false] rfl rfl (by kernel_rfl) (fun _ _ _ h => h) (Or.inl ⟨by rfl, ?_⟩) hHeld ?_ ?_
            rotate_left
            · intro w' s0
              go_simp
              with_reducible rfl
            rotate_left
            · simp only [Act.put, List.setIfInBounds_toArray, List.set_cons_zero, List.set_cons_succ, i64_w, i32_w]
              rfl
            refine one_ (i := 10) (N := some 77) #[true, true, true, true, true, true, true, true, true, true, true, true, true, true, true, true, false, false, false] rfl rfl (by kernel_rfl) (by decide) (fun K hK => ?_)
            refine goes_ Try.func18 (by kernel_rfl) rfl #[.pointer (some ⟨w0.heap.size, 0, none⟩), .int .i64 n] (by rfl) rfl rfl (by simp only [List.map_toArray, List.map_cons, List.map_nil]; rfl) ?_
            with_reducible refine (draw_step _ _ z1 n HD.out.ht).mono ?_
            rintro e w5 ⟨rfl, ht5, hs5⟩
            refine ⟨_, rfl, ?_⟩
            have T5 := Aside0.mk (HD.out.tape hs5 ht5)
            clear ht5 hs5
            refine hK.out _ _ (((T5.out.hb.cell HLT1.out).trans HCELL1.out)) (fun hHeld => ?_)
            clear hK K
            refine norm_ (a' := ?_) ?_ ?_
            rotate_left
            · show Act.put _ (some 77) _ = _
              simp only [Act.put, List.setIfInBounds_toArray, List.set_cons_zero, List.set_cons_succ, i64_w, i32_w]
              rfl
            refine one_ (i := 16) (N := some 83) #[true, true, true, true, true, true, true, true, true, true, true, true, true, true, true, true, true, false, false] rfl rfl (by kernel_rfl) (by decide) (fun K hK => ?_)
            refine goes_ Try.func20 (by kernel_rfl) rfl #[.pointer (some ⟨w1.heap.size, 0, none⟩), .int .i64 n] (by rfl) rfl rfl (by simp only [List.map_toArray, List.map_cons, List.map_nil]; rfl) ?_
            with_reducible refine (rdraw_any _ _ _ v4 z1 n T5.out.hr).mono ?_
            rintro e w6 ⟨rfl, v6, hr6, hc6, ho6⟩
            refine ⟨_, rfl, ?_⟩
            have T6 := Aside0.mk (T5.out.ref (hc6.wider (fun k h => .inl h)) hr6 (.inl ho6))
            clear hr6 hc6 ho6
            refine hK.out _ _ (((T6.out.hb.cell HLT1.out).trans HCELL1.out)) (fun hHeld => ?_)
            clear hK K
            refine norm_ (a' := ?_) ?_ ?_
            rotate_left
            · show Act.put _ (some 83) _ = _
              simp only [Act.put, List.setIfInBounds_toArray, List.set_cons_zero, List.set_cons_succ, i64_w, i32_w]
              rfl
            refine pure_ (i := 17) (N := some 84) (v := ?_) (a' := ?_) #[true, true, true, true, true, true, true, true, true, true, true, true, true, true, true, true, true, true, false] rfl rfl (by kernel_rfl) (fun _ _ _ h => h) (Or.inl ⟨by rfl, ?_⟩) ?_ ?_
            rotate_left
            · intro w'
              go_simp
              with_reducible rfl
            rotate_left
            · simp only [Act.put, List.setIfInBounds_toArray, List.set_cons_zero, List.set_cons_succ, i64_w, i32_w]
              rfl
            refine pure_ (i := 18) (N := some 85) (v := ?_) (a' := ?_) #[true, true, true, true, true, true, true, true, true, true, true, true, true, true, true, true, true, true, true] rfl rfl (by kernel_rfl) (fun _ _ _ h => h) (Or.inl ⟨by rfl, ?_⟩) ?_ ?_
            rotate_left
            · intro w'
              go_simp
              with_reducible rfl
            rotate_left
            · simp only [Act.put, List.setIfInBounds_toArray, List.set_cons_zero, List.set_cons_succ, i64_w, i32_w]
              rfl
            refine done_ (by kernel_rfl) ?_
            go_wp2_with fail
            obtain ⟨Aq, cq, hvq, hcq, hrq⟩ := Kd.Q_reads T6.out.hr.2.1
            have hq0 : w6.cell? ⟨w1.heap.size, 0, none⟩ = some (.slice Aq (rs z1 n).length cq) := (blk_cell T6.out.hr.1 0).trans (by rw [hvq]; rfl)
            clear hvq hrq hcq
            go_quiet ((go_at_call 17; exact Calls.quiet_of_same (left_calls _ _ (rs z1 n) (T6.out.ht.move (fun k hk => rfl)))))
            go_wp2
            go_roundw
            case rel => exact ⟨j + 1, v6, rs z1 n, by go_num, by omega, T6.out.drewN _⟩
            case measure => simp [intOf]; omega
          · skip
            have hdb : decide ((j : Int) < (ld.length : Int)) = false := decide_eq_false (by omega)
            have hdn : decide (j < ld.length) = false := decide_eq_false hd
            go_wp2_with fail
            refine start_ (n := 19) (S := fun w' => True) (ds := []) #[false, false, false, false, false, false, false, false, false, false, false, false, false, false, false, false, false, false, false] (by kernel_rfl) rfl rfl trivial (fun hHeld => ?_)
            refine pure_ (i := 0) (N := some 67) (v := ?_) (a' := ?_) #[true, false, false, false, false, false, false, false, false, false, false, false, false, false, false, false, false, false, false] rfl rfl (by kernel_rfl) (fun _ _ _ h => h) (Or.inl ⟨by rfl, ?_⟩) ?_ ?_
            rotate_left
            · intro w'
              go_simp
              with_reducible rfl
            rotate_left
            · simp only [Act.put, List.setIfInBounds_toArray, List.set_cons_zero, List.set_cons_succ, i64_w, i32_w]
              rfl
            refine pure_ (i := 1) (N := some 68) (v := ?_) (a' := ?_) #[true, true, false, false, false, false, false, false, false, false, false, false, false, false, false, false, false, false, false] rfl rfl (by kernel_rfl) (fun _ _ _ h => h) (Or.inl ⟨by rfl, ?_⟩) ?_ ?_
            rotate_left
            · intro w'
              go_simp
              with_reducible rfl
            rotate_left
            · simp only [Act.put, List.setIfInBounds_toArray, List.set_cons_zero, List.set_cons_succ, i64_w, i32_w]
              rfl
            refine pure_ (i := 2) (N := some 69) (v := ?_) (a' := ?_) #[true, true, true, false, false, false, false, false, false, false, false, false, false, false, false, false, false, false, false] rfl rfl (by kernel_rfl) (fun _ _ _ h => h) (Or.inl ⟨by rfl, ?_⟩) ?_ ?_
            rotate_left
            · intro w'
              go_simp
              with_reducible rfl
            rotate_left
            · simp only [Act.put, List.setIfInBounds_toArray, List.set_cons_zero, List.set_cons_succ, i64_w, i32_w]
              rfl
            refine pure_ (i := 3) (N := some 70) (v := ?_) (a' := ?_) #[true, true, true, true, false, false, false, false, false, false, false, false, false, false, false, false, false, false, false] rfl rfl (by kernel_rfl) (fun _ _ _ h => h) (Or.inl ⟨by rfl, ?_⟩) ?_ ?_
            rotate_left
            · intro w'
              go_simp
              with_reducible rfl
            rotate_left
            · simp only [Act.put, List.setIfInBounds_toArray, List.set_cons_zero, List.set_cons_succ, i64_w, i32_w]
              rfl
            refine pure_ (i := 4) (N := some 71) (v := ?_) (a' := ?_) #[true, true, true, true, true, false, false, false, false, false, false, false, false, false, false, false, false, false, false] rfl rfl (by kernel_rfl) (fun _ _ _ h => h) (Or.inl ⟨by rfl, ?_⟩) ?_ ?_
            rotate_left
            · intro w'
              go_simp
              with_reducible rfl
            rotate_left
            · simp only [Act.put, List.setIfInBounds_toArray, List.set_cons_zero, List.set_cons_succ, i64_w, i32_w]
              rfl
            refine pure_ (i := 5) (N := some 72) (v := undef) (a' := ?_) #[true, true, true, true, true, true, false, false, false, false, false, false, false, false, false, false, false, false, false] rfl rfl (by kernel_rfl) (fun _ _ _ h => h) (Or.inr ⟨by rfl, rfl⟩) ?_ ?_
            rotate_left
            · simp only [Act.put, List.setIfInBounds_toArray, List.set_cons_zero, List.set_cons_succ, i64_w, i32_w]
              rfl
            refine pure_ (i := 6) (N := some 73) (v := undef) (a' := ?_) #[true, true, true, true, true, true, true, false, false, false, false, false, false, false, false, false, false, false, false] rfl rfl (by kernel_rfl) (fun _ _ _ h => h) (Or.inr ⟨by rfl, rfl⟩) ?_ ?_
            rotate_left
            · simp only [Act.put, List.setIfInBounds_toArray, List.set_cons_zero, List.set_cons_succ, i64_w, i32_w]
              rfl
            refine pure_ (i := 7) (N := some 74) (v := undef) (a' := ?_) #[true, true, true, true, true, true, true, true, false, false, false, false, false, false, false, false, false, false, false] rfl rfl (by kernel_rfl) (fun _ _ _ h => h) (Or.inr ⟨by rfl, rfl⟩) ?_ ?_
            rotate_left
            · simp only [Act.put, List.setIfInBounds_toArray, List.set_cons_zero, List.set_cons_succ, i64_w, i32_w]
              rfl
            refine pure_ (i := 8) (N := some 75) (v := undef) (a' := ?_) #[true, true, true, true, true, true, true, true, true, false, false, false, false, false, false, false, false, false, false] rfl rfl (by kernel_rfl) (fun _ _ _ h => h) (Or.inr ⟨by rfl, rfl⟩) ?_ ?_
            rotate_left
            · simp only [Act.put, List.setIfInBounds_toArray, List.set_cons_zero, List.set_cons_succ, i64_w, i32_w]
              rfl
            refine pure_ (i := 9) (N := some 76) (v := undef) (a' := ?_) #[true, true, true, true, true, true, true, true, true, true, false, false, false, false, false, false, false, false, false] rfl rfl (by kernel_rfl) (fun _ _ _ h => h) (Or.inr ⟨by rfl, rfl⟩) ?_ ?_
            rotate_left
            · simp only [Act.put, List.setIfInBounds_toArray, List.set_cons_zero, List.set_cons_succ, i64_w, i32_w]
              rfl
            refine pure_ (i := 10) (N := some 77) (v := undef) (a' := ?_) #[true, true, true, true, true, true, true, true, true, true, true, false, false, false, false, false, false, false, false] rfl rfl (by kernel_rfl) (fun _ _ _ h => h) (Or.inr ⟨by rfl, rfl⟩) ?_ ?_
            rotate_left
            · simp only [Act.put, List.setIfInBounds_toArray, List.set_cons_zero, List.set_cons_succ, i64_w, i32_w]
              rfl
            refine pure_ (i := 11) (N := some 78) (v := undef) (a' := ?_) #[true, true, true, true, true, true, true, true, true, true, true, true, false, false, false, false, false, false, false] rfl rfl (by kernel_rfl) (fun _ _ _ h => h) (Or.inr ⟨by rfl, rfl⟩) ?_ ?_
            rotate_left
            · simp only [Act.put, List.setIfInBounds_toArray, List.set_cons_zero, List.set_cons_succ, i64_w, i32_w]
              rfl
            refine pure_ (i := 12) (N := some 79) (v := undef) (a' := ?_) #[true, true, true, true, true, true, true, true, true, true, true, true, true, false, false, false, false, false, false] rfl rfl (by kernel_rfl) (fun _ _ _ h => h) (Or.inr ⟨by rfl, rfl⟩) ?_ ?_
            rotate_left
            · simp only [Act.put, List.setIfInBounds_toArray, List.set_cons_zero, List.set_cons_succ, i64_w, i32_w]
              rfl
            refine pure_ (i := 13) (N := some 80) (v := undef) (a' := ?_) #[true, true, true, true, true, true, true, true, true, true, true, true, true, true, false, false, false, false, false] rfl rfl (by kernel_rfl) (fun _ _ _ h => h) (Or.inr ⟨by rfl, rfl⟩) ?_ ?_
            rotate_left
            · simp only [Act.put, List.setIfInBounds_toArray, List.set_cons_zero, List.set_cons_succ, i64_w, i32_w]
              rfl
            refine pure_ (i := 14) (N := some 81) (v := undef) (a' := ?_) #[true, true, true, true, true, true, true, true, true, true, true, true, true, true, true, false, false, false, false] rfl rfl (by kernel_rfl) (fun _ _ _ h => h) (Or.inr ⟨by rfl, rfl⟩) ?_ ?_
            rotate_left
            · simp only [Act.put, List.setIfInBounds_toArray, List.set_cons_zero, List.set_cons_succ, i64_w, i32_w]
              rfl
            refine pure_ (i := 15) (N := some 82) (v := undef) (a' := ?_) #[true, true, true, true, true, true, true, true, true, true, true, true, true, true, true, true, false, false, false] rfl rfl (by kernel_rfl) (fun _ _ _ h => h) (Or.inr ⟨by rfl, rfl⟩) ?_ ?_
            rotate_left
            · simp only [Act.put, List.setIfInBounds_toArray, List.set_cons_zero, List.set_cons_succ, i64_w, i32_w]
              rfl
            refine pure_ (i := 16) (N := some 83) (v := undef) (a' := ?_) #[true, true, true, true, true, true, true, true, true, true, true, true, true, true, true, true, true, false, false] rfl rfl (by kernel_rfl) (fun _ _ _ h => h) (Or.inr ⟨by rfl, rfl⟩) ?_ ?_
            rotate_left
            · simp only [Act.put, List.setIfInBounds_toArray, List.set_cons_zero, List.set_cons_succ, i64_w, i32_w]
              rfl
            refine pure_ (i := 17) (N := some 84) (v := undef) (a' := ?_) #[true, true, true, true, true, true, true, true, true, true, true, true, true, true, true, true, true, true, false] rfl rfl (by kernel_rfl) (fun _ _ _ h => h) (Or.inr ⟨by rfl, rfl⟩) ?_ ?_
            rotate_left
            · simp only [Act.put, List.setIfInBounds_toArray, List.set_cons_zero, List.set_cons_succ, i64_w, i32_w]
              rfl
            refine pure_ (i := 18) (N := some 85) (v := ?_) (a' := ?_) #[true, true, true, true, true, true, true, true, true, true, true, true, true, true, true, true, true, true, true] rfl rfl (by kernel_rfl) (fun _ _ _ h => h) (Or.inl ⟨by rfl, ?_⟩) ?_ ?_
            rotate_left
            · intro w'
              go_simp
              with_reducible rfl
            rotate_left
            · simp only [Act.put, List.setIfInBounds_toArray, List.set_cons_zero, List.set_cons_succ, i64_w, i32_w]
              rfl
            refine done_ (by kernel_rfl) ?_
            go_wp2_with fail
            have HD := Aside0.mk (Two.drew H4.out)
            generalize w4.drew = wz at HD ⊢
            obtain ⟨Aq, cq, hvq, hcq, hrq⟩ := Kd.Q_reads HD.out.hr.2.1
            have hq0 : wz.cell? ⟨w1.heap.size, 0, none⟩ = some (.slice Aq z1.length cq) := (blk_cell HD.out.hr.1 0).trans (by rw [hvq]; rfl)
            clear hvq hrq hcq
            go_quiet ((go_at_call 17; exact Calls.quiet_of_same (left_calls _ _ z1 (HD.out.ht.move (fun k hk => rfl)))))
            go_wp2
            go_roundw
            case rel => exact ⟨j + 1, v4, z1, by go_num, by omega, by first | exact HD.out.drewN _ | exact (H4.out.drewN _).drew | exact H4.out.drewN _⟩
            case measure => simp [intOf]; omega
        · by_cases hd : j < ld.length
          · skip
            obtain ⟨ad1, hA1⟩ := C_some HR1.out (by omega)
            subst hA1
            obtain ⟨n, hnk⟩ : ∃ n, ld[j]? = some n := ⟨_, List.getElem?_eq_getElem hd⟩
            have hcell0 := C_cell HR1.out j n hnk
            have HCELL1 := Aside0.mk hcell0
            have HLT1 := Aside0.mk (World.block_lt_of_cell? _ _ hcell0)
            have hidx1 : (0 : Int) ≤ (j : Int) ∧ (j : Int) < (ld.length : Int) := by omega
            have hdb : decide ((j : Int) < (ld.length : Int)) = true := decide_eq_true (by omega)
            have hdn : decide (j < ld.length) = true := decide_eq_true hd
            have HD := Aside0.mk (Two.drew H2.out)
            clear hnk hcell0
            go_wp2_with fail
            refine start_ (n := 19) (S := fun w' => w'.cell? (ad1.add j) = some (.int .i64 n)) (ds := []) #[false, false, false, false, false, false, false, false, false, false, false, false, false, false, false, false, false, false, false] (by kernel_rfl) rfl rfl (((HD.out.hb.cell HLT1.out).trans HCELL1.out)) (fun hHeld => ?_)
            refine pure_ (i := 0) (N := some 67) (v := ?_) (a' := ?_) #[true, false, false, false, false, false, false, false, false, false, false, false, false, false, false, false, false, false, false] rfl rfl (by kernel_rfl) (fun _ _ _ h => h) (Or.inl ⟨by rfl, ?_⟩) ?_ ?_
            rotate_left
            · intro w'
              go_simp
              with_reducible rfl
            rotate_left
            · simp only [Act.put, List.setIfInBounds_toArray, List.set_cons_zero, List.set_cons_succ, i64_w, i32_w]
              rfl
            refine pure_ (i := 1) (N := some 68) (v := ?_) (a' := ?_) #[true, true, false, false, false, false, false, false, false, false, false, false, false, false, false, false, false, false, false] rfl rfl (by kernel_rfl) (fun _ _ _ h => h) (Or.inl ⟨by rfl, ?_⟩) ?_ ?_
            rotate_left
            · intro w'
              go_simp
              with_reducible rfl
            rotate_left
            · simp only [Act.put, List.setIfInBounds_toArray, List.set_cons_zero, List.set_cons_succ, i64_w, i32_w]
              rfl
            refine pure_ (i := 2) (N := some 69) (v := ?_) (a' := ?_) #[true, true, true, false, false, false, false, false, false, false, false, false, false, false, false, false, false, false, false] rfl rfl (by kernel_rfl) (fun _ _ _ h => h) (Or.inl ⟨by rfl, ?_⟩) ?_ ?_
            rotate_left
            · intro w'
              go_simp
              with_reducible rfl
            rotate_left
            · simp only [Act.put, List.setIfInBounds_toArray, List.set_cons_zero, List.set_cons_succ, i64_w, i32_w]
              rfl
            refine pure_ (i := 3) (N := some 70) (v := ?_) (a' := ?_) #[true, true, true, true, false, false, false, false, false, false, false, false, false, false, false, false, false, false, false] rfl rfl (by kernel_rfl) (fun _ _ _ h => h) (Or.inl ⟨by rfl, ?_⟩) ?_ ?_
            rotate_left
            · intro w'
              go_simp
              with_reducible rfl
            rotate_left
            · simp only [Act.put, List.setIfInBounds_toArray, List.set_cons_zero, List.set_cons_succ, i64_w, i32_w]
              rfl
            refine pure_ (i := 4) (N := some 71) (v := ?_) (a' := ?_) #[true, true, true, true, true, false, false, false, false, false, false, false, false, false, false, false, false, false, false] rfl rfl (by kernel_rfl) (fun _ _ _ h => h) (Or.inl ⟨by rfl, ?_⟩) ?_ ?_
            rotate_left
            · intro w'
              go_simp
              with_reducible rfl
            rotate_left
            · simp only [Act.put, List.setIfInBounds_toArray, List.set_cons_zero, List.set_cons_succ, i64_w, i32_w]
              rfl
            refine pure_ (i := 5) (N := some 72) (v := ?_) (a' := ?_) #[true, true, true, true, true, true, false, false, false, false, false, false, false, false, false, false, false, false, false] rfl rfl (by kernel_rfl) (fun _ _ _ h => h) (Or.inl ⟨by rfl, ?_⟩) ?_ ?_
            rotate_left
            · intro w'
              go_simp
              with_reducible rfl
            rotate_left
            · simp only [Act.put, List.setIfInBounds_toArray, List.set_cons_zero, List.set_cons_succ, i64_w, i32_w]
              rfl
            refine pure_ (i := 6) (N := some 73) (v := ?_) (a' := ?_) #[true, true, true, true, true, true, true, false, false, false, false, false, false, false, false, false, false, false, false] rfl rfl (by kernel_rfl) (fun _ _ _ h => h) (Or.inl ⟨by rfl, ?_⟩) ?_ ?_
            rotate_left
            · intro w'
              go_simp
              with_reducible rfl
            rotate_left
            · simp only [Act.put, List.setIfInBounds_toArray, List.set_cons_zero, List.set_cons_succ, i64_w, i32_w]
              rfl
            refine pure_ (i := 7) (N := some 74) (v := ?_) (a' := ?_) #[true, true, true, true, true, true, true, true, false, false, false, false, false, false, false, false, false, false, false] rfl rfl (by kernel_rfl) (fun _ _ _ h => h) (Or.inl ⟨by rfl, ?_⟩) ?_ ?_
            rotate_left
            · intro w'
              go_simp
              with_reducible rfl
            rotate_left
            · simp only [Act.put, List.setIfInBounds_toArray, List.set_cons_zero, List.set_cons_succ, i64_w, i32_w]
              rfl
            refine pure_ (i := 8) (N := some 75) (v := ?_) (a' := ?_) #[true, true, true, true, true, true, true, true, true, false, false, false, false, false, false, false, false, false, false] rfl rfl (by kernel_rfl) (fun _ _ _ h => h) (Or.inl ⟨by rfl, ?_⟩) ?_ ?_
            rotate_left
            · intro w'
              go_simp
              with_reducible rfl
            rotate_left
            · simp only [Act.put, List.setIfInBounds_toArray, List.set_cons_zero, List.set_cons_succ, i64_w, i32_w]
              rfl
            refine pure_ (i := 11) (N := some 78) (v := ?_) (a' := ?_) #[true, true, true, true, true, true, true, true, true, false, false, true, false, false, false, false, false, false, false] rfl rfl (by kernel_rfl) (fun _ _ _ h => h) (Or.inl ⟨by rfl, ?_⟩) ?_ ?_
            rotate_left
            · intro w'
              go_simp
              with_reducible rfl
            rotate_left
            · simp only [Act.put, List.setIfInBounds_toArray, List.set_cons_zero, List.set_cons_succ, i64_w, i32_w]
              rfl
            refine pure_ (i := 12) (N := some 79) (v := ?_) (a' := ?_) #[true, true, true, true, true, true, true, true, true, false, false, true, true, false, false, false, false, false, false] rfl rfl (by kernel_rfl) (fun _ _ _ h => h) (Or.inl ⟨by rfl, ?_⟩) ?_ ?_
            rotate_left
            · intro w'
              go_simp
              with_reducible rfl
            rotate_left
            · simp only [Act.put, List.setIfInBounds_toArray, List.set_cons_zero, List.set_cons_succ, i64_w, i32_w]
              rfl
            refine pure_ (i := 13) (N := some 80) (v := ?_) (a' := ?_) #[true, true, true, true, true, true, true, true, true, false, false, true, true, true, false, false, false, false, false] rfl rfl (by kernel_rfl) (fun _ _ _ h => h) (Or.inl ⟨by rfl, ?_⟩) ?_ ?_
            rotate_left
            · intro w'
              go_simp
              with_reducible rfl
            rotate_left
            · simp only [Act.put, List.setIfInBounds_toArray, List.set_cons_zero, List.set_cons_succ, i64_w, i32_w]
              rfl
            refine pure_ (i := 14) (N := some 81) (v := ?_) (a' := ?_) #[true, true, true, true, true, true, true, true, true, false, false, true, true, true, true, false, false, false, false] rfl rfl (by kernel_rfl) (fun _ _ _ h => h) (Or.inl ⟨by rfl, ?_⟩) ?_ ?_
            rotate_left
            · intro w'
              go_simp
              with_reducible rfl
            rotate_left
            · simp only [Act.put, List.setIfInBounds_toArray, List.set_cons_zero, List.set_cons_succ, i64_w, i32_w]
              rfl
            refine take_ (i := 9) (N := some 76) (v := ?_) (a' := ?_) #[true, true, true, true, true, true, true, true, true, true, false, true, true, true, true, false, false, false, false] rfl rfl (by kernel_rfl) (fun _ _ _ h => h) (Or.inl ⟨by rfl, ?_⟩) hHeld ?_ ?_
            rotate_left
            · intro w' s0
              go_simp
              with_reducible rfl
            rotate_left
            · simp only [Act.put, List.setIfInBounds_toArray, List.set_cons_zero, List.set_cons_succ, i64_w, i32_w]
              rfl
            refine take_ (i := 15) (N := some 82) (v := ?_) (a' := ?_) #[true, true, true, true, true, true, true, true, true, true, false, true, true, true, true, true, false, false, false] rfl rfl (by kernel_rfl) (fun _ _ _ h => h) (Or.inl ⟨by rfl, ?_⟩) hHeld ?_ ?_
            rotate_left
            · intro w' s0
              go_simp
              with_reducible rfl
            rotate_left
            · simp only [Act.put, List.setIfInBounds_toArray, List.set_cons_zero, List.set_cons_succ, i64_w, i32_w]
              rfl
            refine one_ (i := 10) (N := some 77) #[true, true, true, true, true, true, true, true, true, true, true, true, true, true, true, true, false, false, false] rfl rfl (by kernel_rfl) (by decide) (fun K hK => ?_)
            refine goes_ Try.func18 (by kernel_rfl) rfl #[.pointer (some ⟨w0.heap.size, 0, none⟩), .int .i64 n] (by rfl) rfl rfl (by simp only [List.map_toArray, List.map_cons, List.map_nil]; rfl) ?_
            with_reducible refine (draw_step _ _ z n HD.out.ht).mono ?_
            rintro e w5 ⟨rfl, ht5, hs5⟩
            refine ⟨_, rfl, ?_⟩
            have T5 := Aside0.mk (HD.out.tape hs5 ht5)
            clear ht5 hs5
            refine hK.out _ _ (((T5.out.hb.cell HLT1.out).trans HCELL1.out)) (fun hHeld => ?_)
            clear hK K
            refine norm_ (a' := ?_) ?_ ?_
            rotate_left
            · show Act.put _ (some 77) _ = _
              simp only [Act.put, List.setIfInBounds_toArray, List.set_cons_zero, List.set_cons_succ, i64_w, i32_w]
              rfl
            refine one_ (i := 16) (N := some 83) #[true, true, true, true, true, true, true, true, true, true, true, true, true, true, true, true, true, false, false] rfl rfl (by kernel_rfl) (by decide) (fun K hK => ?_)
            refine goes_ Try.func20 (by kernel_rfl) rfl #[.pointer (some ⟨w1.heap.size, 0, none⟩), .int .i64 n] (by rfl) rfl rfl (by simp only [List.map_toArray, List.map_cons, List.map_nil]; rfl) ?_
            with_reducible refine (rdraw_any _ _ _ v z n T5.out.hr).mono ?_
            rintro e w6 ⟨rfl, v6, hr6, hc6, ho6⟩
            refine ⟨_, rfl, ?_⟩
            have T6 := Aside0.mk (T5.out.ref (hc6.wider (fun k h => .inl h)) hr6 (.inl ho6))
            clear hr6 hc6 ho6
            refine hK.out _ _ (((T6.out.hb.cell HLT1.out).trans HCELL1.out)) (fun hHeld => ?_)
            clear hK K
            refine norm_ (a' := ?_) ?_ ?_
            rotate_left
            · show Act.put _ (some 83) _ = _
              simp only [Act.put, List.setIfInBounds_toArray, List.set_cons_zero, List.set_cons_succ, i64_w, i32_w]
              rfl
            refine pure_ (i := 17) (N := some 84) (v := ?_) (a' := ?_) #[true, true, true, true, true, true, true, true, true, true, true, true, true, true, true, true, true, true, false] rfl rfl (by kernel_rfl) (fun _ _ _ h => h) (Or.inl ⟨by rfl, ?_⟩) ?_ ?_
            rotate_left
            · intro w'
              go_simp
              with_reducible rfl
            rotate_left
            · simp only [Act.put, List.setIfInBounds_toArray, List.set_cons_zero, List.set_cons_succ, i64_w, i32_w]
              rfl
            refine pure_ (i := 18) (N := some 85) (v := ?_) (a' := ?_) #[true, true, true, true, true, true, true, true, true, true, true, true, true, true, true, true, true, true, true] rfl rfl (by kernel_rfl) (fun _ _ _ h => h) (Or.inl ⟨by rfl, ?_⟩) ?_ ?_
            rotate_left
            · intro w'
              go_simp
              with_reducible rfl
            rotate_left
            · simp only [Act.put, List.setIfInBounds_toArray, List.set_cons_zero, List.set_cons_succ, i64_w, i32_w]
              rfl
            refine done_ (by kernel_rfl) ?_
            go_wp2_with fail
            obtain ⟨Aq, cq, hvq, hcq, hrq⟩ := Kd.Q_reads T6.out.hr.2.1
            have hq0 : w6.cell? ⟨w1.heap.size, 0, none⟩ = some (.slice Aq (rs z n).length cq) := (blk_cell T6.out.hr.1 0).trans (by rw [hvq]; rfl)
            clear hvq hrq hcq
            go_quiet ((go_at_call 17; exact Calls.quiet_of_same (left_calls _ _ (rs z n) (T6.out.ht.move (fun k hk => rfl)))))
            go_wp2
            go_roundw
            case rel => exact ⟨j + 1, v6, rs z n, by go_num, by omega, T6.out.drewN _⟩
            case measure => simp [intOf]; omega
          · go_wp2
            go_ret
            exact ⟨rfl, H2.out.hb⟩
end Go.Proofs.Ytoapbppjkidgiaa.Tape
