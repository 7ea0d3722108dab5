/- RefPool2: the reference pool's take, Give, Owe. Conditions: the pool is one that NewPool made. -/
import Derived.Test.YtoapbppjkidgiaaRefPool1
namespace Go.Proofs.Ytoapbppjkidgiaa.Pool
open Go.RowKit Go.Proofs.YtoapbppjkidgiaaW.PrintWords Go.Proofs.YtoapbppjkidgiaaW.PrintLast Go.Proofs.YtoapbppjkidgiaaW.PrintMore Tape Setup
set_option linter.unusedVariables false
set_option linter.unusedSimpArgs false
set_option maxRecDepth 100000
theorem RefP.at {w : World} {q qb : Nat} {k N : Nat} {hold : Int} {m : Nat → Nat → Blk} (h : RefP w q qb k N hold m) {a b : Nat} (ha : a < k) (hb : b < N) :
    ∃ r x K : Nat, K = k * N ∧ wrap64 ((a : Int) * (N : Int)) = (r : Int) ∧ wrap64 ((r : Int) + (b : Int)) = (x : Int) ∧ ((0 : Int) ≤ (x : Int) ∧ (x : Int) < (K : Int)) ∧ x < K ∧ x = a * N + b := by
  have hlt := (h.cells ha hb rfl).1
  have hkN : k * N ≤ 8 * 4032 := Nat.mul_le_mul h.nk.2 h.nN.2
  obtain ⟨K, hK⟩ : ∃ K, K = k * N := ⟨_, rfl⟩
  obtain ⟨r, hr⟩ : ∃ r, r = a * N := ⟨_, rfl⟩
  rw [← hK] at hkN hlt
  rw [← hr] at hlt
  have m1 : (a : Int) * (N : Int) = (r : Int) := by rw [hr]; simp
  clear h ha
  refine ⟨r, r + b, K, hK, ?_, ?_, ⟨Int.natCast_nonneg _, Int.ofNat_lt.2 hlt⟩, hlt, by rw [hr]⟩
  · rw [m1]; unfold wrap64; omega
  · unfold wrap64; omega
def RefChg (qb : Nat) (w w' : World) : Prop := Chg w w' (fun y => y = qb)
theorem RefChg.trans {qb : Nat} {a b c : World} (h : RefChg qb a b) (h2 : RefChg qb b c) : RefChg qb a c := Chg.trans h h2 (fun _ h => .inl h)
theorem RefChg.of_below {qb : Nat} {w w' : World} (h : Below w.heap.size w w') : RefChg qb w w' := ⟨h.os, h.tape, h.output, h.size, fun x hx _ => h.block x hx⟩
theorem RefChg.set (qb : Nat) (w : World) (o : Nat) (v : Value) : RefChg qb w (w.setCell ⟨qb, o, none⟩ v) := ⟨rfl, rfl, rfl, by simp, fun x _ hn => Below.heap_setCell w _ v x hn⟩
theorem RefP.set {w : World} {q qb : Nat} {k N : Nat} {hold : Int} {m : Nat → Nat → Blk} (h : RefP w q qb k N hold m) {a b x r : Nat} (ha : a < k) (hb : b < N) (hx : x = a * N + b) (hr : r < 3) (v : Value) (y : Blk)
    (hv : ((if r = 0 then some v else some (.int .i64 (m a b).is)) = some (.int .i64 y.is)) ∧ ((if r = 1 then some v else some (.int .u32 (m a b).sub)) = some (.int .u32 y.sub)) ∧ ((if r = 2 then some v else some (.int .i64 (m a b).rest)) = some (.int .i64 y.rest))) :
    RefP (w.setCell ⟨qb, x * 3 + r, none⟩ v) q qb k N hold (upd m a b y) := by
  have hlt := (h.cells ha hb hx).1
  obtain ⟨⟨cs, hh, rest⟩, ⟨L, hL, hl⟩, h1, h2, h3⟩ := h
  have e1 : x / N = a := by rw [hx, Nat.add_comm, Nat.add_mul_div_right _ _ (by omega), Nat.div_eq_of_lt hb]; omega
  have e2 : x % N = b := by rw [hx, Nat.add_comm, Nat.add_mul_mod_self_right, Nat.mod_eq_of_lt hb]
  refine ⟨⟨cs, blk_far hh (p := ⟨qb, x * 3 + r, none⟩) (fun e => ?_) v, rest⟩, ⟨_, blk_set hL (x * 3 + r) v, lay_set hl hlt hr (fun j hj => ?_) ?_⟩, h1, h2, h3⟩
  · exact blk_ne hh hL (by decide) e
  · refine upd_other m a b y (fun e => hj ?_)
    have := Nat.div_add_mod j N
    rw [e.1, e.2, Nat.mul_comm] at this
    rw [hx, this]
  · obtain ⟨q0, q1, q2⟩ := hl x hlt
    simp only [e1, e2] at q0 q1 q2 ⊢
    rw [upd_same, q0, q1, q2]
    exact hv
theorem RefP.drop {w : World} {q qb : Nat} {k N : Nat} {hold : Int} {m : Nat → Nat → Blk} (h : RefP w.drew q qb k N hold m) : RefP w q qb k N hold m := h.keep (fun x hx _ => rfl)
set_option maxHeartbeats 4000000 in
theorem rtake_calls (w : World) (q qb : Nat) (k N : Nat) (hold : Int) (m : Nat → Nat → Blk) (i n now st sub : Int) (h : RefP w q qb k N hold m) :
    Calls Try.prog 76 #[.pointer (some ⟨q, 0, none⟩), .int .i64 st, .int .u32 sub, .int .i64 i, .int .i64 n, .int .i64 now] w fun e w' =>
      e = .returned (.int .i64 (tkE k N m i n now)) ∧ RefP w' q qb k N hold (tkM k N m i n now st sub) ∧ RefChg qb w w' := by
  have HR := Aside0.mk h
  clear h
  cases hin : isIn k N i n with
  | false =>
    have e1 : tkE k N m i n now = 1 := by unfold tkE; rw [hin]; rfl
    have e2 : tkM k N m i n now st sub = m := by unfold tkM; rw [hin]; rfl
    rw [e1, e2]
    clear e1 e2
    go_enter Try.func76, Try.ntmps76
    go_wp2_with (go_at_call 77; refine (ris_calls _ _ qb _ _ hold m i n HR.out).mono ?_; rintro e w' ⟨rfl, hw⟩; obtain rfl := hw.symm; rw [hin])
    go_ret
    exact ⟨rfl, HR.out, RefChg.of_below (Below.refl _ _)⟩
  | true =>
    obtain ⟨a, b, rfl, rfl, ha, hb⟩ := isIn_true hin
    have ea : (a : Int).toNat = a := by omega
    have eb : (b : Int).toNat = b := by omega
    cases hg : good now with
    | false =>
      have e1 : tkE k N m a b now = 1 := by unfold tkE; rw [hin, hg]; rfl
      have e2 : tkM k N m a b now st sub = m := by unfold tkM; rw [hin, hg]; rfl
      rw [e1, e2]
      clear e1 e2
      go_enter Try.func76, Try.ntmps76
      go_wp2_with (first
        | (go_at_call 77; refine (ris_calls _ _ qb _ _ hold m a b HR.out).mono ?_; rintro e w' ⟨rfl, hw⟩; obtain rfl := hw.symm; rw [hin])
        | (go_at_call 78; refine (good12_calls _ _).mono ?_; rintro e w' ⟨rfl, hw⟩; obtain rfl := hw.symm; rw [hg]))
      go_ret
      exact ⟨rfl, HR.out, RefChg.of_below (Below.refl _ _)⟩
    | true =>
      cases hf : fr (m a b) now with
      | false =>
        have e1 : tkE k N m a b now = 10 := by unfold tkE; rw [hin, hg, ea, eb, hf]; rfl
        have e2 : tkM k N m a b now st sub = m := by unfold tkM; rw [hin, hg, ea, eb, hf]; rfl
        rw [e1, e2]
        clear e1 e2
        go_enter Try.func76, Try.ntmps76
        go_wp2_with (first
          | (go_at_call 77; refine (ris_calls _ _ qb _ _ hold m a b HR.out).mono ?_; rintro e w' ⟨rfl, hw⟩; obtain rfl := hw.symm; rw [hin])
          | (go_at_call 78; refine (good12_calls _ _).mono ?_; rintro e w' ⟨rfl, hw⟩; obtain rfl := hw.symm; rw [hg])
          | (go_at_call 80; refine (rfree_calls _ _ qb _ _ hold m a b now HR.out ha hb).mono ?_; rintro e w1 ⟨rfl, hb1⟩; rw [hf]; have HR1 := Aside0.mk (HR.out.below hb1); have HC1 := Aside0.mk (RefChg.of_below (qb := qb) hb1); clear hb1))
        go_ret
        exact ⟨rfl, HR1.out, HC1.out⟩
      | true =>
        have e1 : tkE k N m a b now = 0 := by unfold tkE; rw [hin, hg, ea, eb, hf]; rfl
        have e2 : tkM k N m a b now st sub = upd m a b ⟨st, sub, (m a b).rest⟩ := by unfold tkM; rw [hin, hg, ea, eb, hf]; rfl
        rw [e1, e2]
        clear e1 e2
        go_enter Try.func76, Try.ntmps76
        go_wp2_with (first
          | (go_at_call 77; refine (ris_calls _ _ qb _ _ hold m a b HR.out).mono ?_; rintro e w' ⟨rfl, hw⟩; obtain rfl := hw.symm; rw [hin])
          | (go_at_call 78; refine (good12_calls _ _).mono ?_; rintro e w' ⟨rfl, hw⟩; obtain rfl := hw.symm; rw [hg])
          | (go_at_call 80; refine (rfree_calls _ _ qb _ _ hold m a b now HR.out ha hb).mono ?_; rintro e w1 ⟨rfl, hb1⟩; rw [hf]; have HR1 := Aside0.mk (HR.out.below hb1); have HC1 := Aside0.mk (RefChg.of_below (qb := qb) hb1); clear hb1))
        obtain ⟨r, x, K, hK, hw1, hw2, hidx, hlt, hx⟩ := HR1.out.at ha hb
        obtain ⟨_, _, f18, c, f19⟩ := HR1.out.facts
        rw [← hK] at f19
        have HKK := Aside0.mk hK
        clear hK
        obtain ⟨_, c0, c1, _, cf⟩ := HR1.out.cells ha hb hx
        have F18 := Aside0.mk f18
        have F19 := Aside0.mk f19
        have z0 := cf (x * 3)
        have HX := Aside0.mk hx
        have HS0 := Aside0.mk (HR1.out.set ha hb hx (r := 0) (by omega) (.int .i64 st) ⟨st, (m a b).sub, (m a b).rest⟩ ⟨rfl, rfl, rfl⟩).drew
        have HC2 : Aside0 (RefChg qb w (w1.setCell ⟨qb, x * 3, none⟩ (.int .i64 st)).drew) := ⟨(HC1.out.trans (RefChg.set qb w1 (x * 3) (.int .i64 st))).trans (RefChg.of_below (below_drew (Below.refl _ _)))⟩
        have HIX := Aside0.mk (And.intro hw1 (And.intro hw2 hidx))
        clear f18 f19 hlt hx c1 cf hin hg hf
        refine start_ (n := 16) (S := fun w' => w'.cell? ⟨q, 19, none⟩ = some (.slice (some ⟨qb, 0, none⟩) K c) ∧ w'.cell? ⟨q, 18, none⟩ = some (.int .i64 N)) (ds := [15]) #[false, false, false, false, false, false, false, false, false, false, false, false, false, false, false, false] (by kernel_rfl) rfl rfl ⟨F19.out, F18.out⟩ (fun hHeld => ?_)
        refine pure_ (i := 0) (N := some 29) (v := ?_) (a' := ?_) #[true, false, false, false, false, false, false, false, false, false, false, false, false, false, false, false] rfl rfl (by kernel_rfl) (fun _ _ _ h => h) (Or.inl ⟨by rfl, ?_⟩) ?_ ?_
        rotate_left
        · intro w'
          go_simp
          with_reducible rfl
        rotate_left
        · simp only [Act.put, List.setIfInBounds_toArray, List.set_cons_zero, List.set_cons_succ, i64_w, i32_w]
          rfl
        refine pure_ (i := 1) (N := some 30) (v := ?_) (a' := ?_) #[true, true, false, false, false, false, false, false, false, false, false, false, false, false, false, false] rfl rfl (by kernel_rfl) (fun _ _ _ h => h) (Or.inl ⟨by rfl, ?_⟩) ?_ ?_
        rotate_left
        · intro w'
          go_simp
          with_reducible rfl
        rotate_left
        · simp only [Act.put, List.setIfInBounds_toArray, List.set_cons_zero, List.set_cons_succ, i64_w, i32_w]
          rfl
        refine pure_ (i := 2) (N := some 31) (v := ?_) (a' := ?_) #[true, true, true, false, false, false, false, false, false, false, false, false, false, false, false, false] rfl rfl (by kernel_rfl) (fun _ _ _ h => h) (Or.inl ⟨by rfl, ?_⟩) ?_ ?_
        rotate_left
        · intro w'
          go_simp
          with_reducible rfl
        rotate_left
        · simp only [Act.put, List.setIfInBounds_toArray, List.set_cons_zero, List.set_cons_succ, i64_w, i32_w]
          rfl
        refine pure_ (i := 4) (N := some 33) (v := ?_) (a' := ?_) #[true, true, true, false, true, false, false, false, false, false, false, false, false, false, false, false] rfl rfl (by kernel_rfl) (fun _ _ _ h => h) (Or.inl ⟨by rfl, ?_⟩) ?_ ?_
        rotate_left
        · intro w'
          go_simp
          with_reducible rfl
        rotate_left
        · simp only [Act.put, List.setIfInBounds_toArray, List.set_cons_zero, List.set_cons_succ, i64_w, i32_w]
          rfl
        refine pure_ (i := 5) (N := some 34) (v := ?_) (a' := ?_) #[true, true, true, false, true, true, false, false, false, false, false, false, false, false, false, false] rfl rfl (by kernel_rfl) (fun _ _ _ h => h) (Or.inl ⟨by rfl, ?_⟩) ?_ ?_
        rotate_left
        · intro w'
          go_simp
          with_reducible rfl
        rotate_left
        · simp only [Act.put, List.setIfInBounds_toArray, List.set_cons_zero, List.set_cons_succ, i64_w, i32_w]
          rfl
        refine pure_ (i := 6) (N := some 35) (v := ?_) (a' := ?_) #[true, true, true, false, true, true, true, false, false, false, false, false, false, false, false, false] rfl rfl (by kernel_rfl) (fun _ _ _ h => h) (Or.inl ⟨by rfl, ?_⟩) ?_ ?_
        rotate_left
        · intro w'
          go_simp
          with_reducible rfl
        rotate_left
        · simp only [Act.put, List.setIfInBounds_toArray, List.set_cons_zero, List.set_cons_succ, i64_w, i32_w]
          rfl
        refine pure_ (i := 7) (N := some 36) (v := ?_) (a' := ?_) #[true, true, true, false, true, true, true, true, false, false, false, false, false, false, false, false] rfl rfl (by kernel_rfl) (fun _ _ _ h => h) (Or.inl ⟨by rfl, ?_⟩) ?_ ?_
        rotate_left
        · intro w'
          go_simp
          with_reducible rfl
        rotate_left
        · simp only [Act.put, List.setIfInBounds_toArray, List.set_cons_zero, List.set_cons_succ, i64_w, i32_w]
          rfl
        refine pure_ (i := 10) (N := some 39) (v := ?_) (a' := ?_) #[true, true, true, false, true, true, true, true, false, false, true, false, false, false, false, false] rfl rfl (by kernel_rfl) (fun _ _ _ h => h) (Or.inl ⟨by rfl, ?_⟩) ?_ ?_
        rotate_left
        · intro w'
          go_simp
          with_reducible rfl
        rotate_left
        · simp only [Act.put, List.setIfInBounds_toArray, List.set_cons_zero, List.set_cons_succ, i64_w, i32_w]
          rfl
        refine pure_ (i := 12) (N := some 41) (v := ?_) (a' := ?_) #[true, true, true, false, true, true, true, true, false, false, true, false, true, false, false, false] rfl rfl (by kernel_rfl) (fun _ _ _ h => h) (Or.inl ⟨by rfl, ?_⟩) ?_ ?_
        rotate_left
        · intro w'
          go_simp
          with_reducible rfl
        rotate_left
        · simp only [Act.put, List.setIfInBounds_toArray, List.set_cons_zero, List.set_cons_succ, i64_w, i32_w]
          rfl
        refine take_ (i := 3) (N := some 32) (v := ?_) (a' := ?_) #[true, true, true, true, true, true, true, true, false, false, true, false, true, false, false, false] rfl rfl (by kernel_rfl) (fun _ _ _ h => h) (Or.inl ⟨by rfl, ?_⟩) hHeld ?_ ?_
        rotate_left
        · rintro w' ⟨s0, s1⟩
          go_simp
          with_reducible rfl
        rotate_left
        · simp only [Act.put, List.setIfInBounds_toArray, List.set_cons_zero, List.set_cons_succ, i64_w, i32_w]
          rfl
        refine take_ (i := 8) (N := some 37) (v := ?_) (a' := ?_) #[true, true, true, true, true, true, true, true, true, false, true, false, true, false, false, false] rfl rfl (by kernel_rfl) (fun _ _ _ h => h) (Or.inl ⟨by rfl, ?_⟩) hHeld ?_ ?_
        rotate_left
        · rintro w' ⟨s0, s1⟩
          go_simp
          with_reducible rfl
        rotate_left
        · simp only [Act.put, List.setIfInBounds_toArray, List.set_cons_zero, List.set_cons_succ, i64_w, i32_w]
          rfl
        refine pure_ (i := 9) (N := some 38) (v := ?_) (a' := ?_) #[true, true, true, true, true, true, true, true, true, true, true, false, true, false, false, false] rfl rfl (by kernel_rfl) (fun _ _ _ h => h) (Or.inl ⟨by rfl, ?_⟩) ?_ ?_
        rotate_left
        · intro w'
          go_simp
          with_reducible rfl
        rotate_left
        · simp only [Act.put, List.setIfInBounds_toArray, List.set_cons_zero, List.set_cons_succ, i64_w, i32_w]
          rfl
        refine pure_ (i := 11) (N := some 40) (v := ?_) (a' := ?_) #[true, true, true, true, true, true, true, true, true, true, true, true, true, false, false, false] rfl rfl (by kernel_rfl) (fun _ _ _ h => h) (Or.inl ⟨by rfl, ?_⟩) ?_ ?_
        rotate_left
        · intro w'
          go_simp
          with_reducible rfl
        rotate_left
        · simp only [Act.put, List.setIfInBounds_toArray, List.set_cons_zero, List.set_cons_succ, i64_w, i32_w]
          rfl
        refine pure_ (i := 13) (N := some 42) (v := ?_) (a' := ?_) #[true, true, true, true, true, true, true, true, true, true, true, true, true, true, false, false] rfl rfl (by kernel_rfl) (fun _ _ _ h => h) (Or.inl ⟨by rfl, ?_⟩) ?_ ?_
        rotate_left
        · intro w'
          go_simp
          with_reducible rfl
        rotate_left
        · simp only [Act.put, List.setIfInBounds_toArray, List.set_cons_zero, List.set_cons_succ, i64_w, i32_w]
          rfl
        refine pure_ (i := 14) (N := some 43) (v := ?_) (a' := ?_) #[true, true, true, true, true, true, true, true, true, true, true, true, true, true, true, false] rfl rfl (by kernel_rfl) (fun _ _ _ h => h) (Or.inl ⟨by rfl, ?_⟩) ?_ ?_
        rotate_left
        · intro w'
          go_simp
          with_reducible rfl
        rotate_left
        · simp only [Act.put, List.setIfInBounds_toArray, List.set_cons_zero, List.set_cons_succ, i64_w, i32_w]
          rfl
        refine last_ (i := 15) (N := none) #[true, true, true, true, true, true, true, true, true, true, true, true, true, true, true, true] rfl rfl (by kernel_rfl) (by decide) (fun K hK => ?_)
        refine skip_ (w1 := ?_) (by rfl) rfl ?_ ?_
        rotate_left
        · go_simp
          rfl
        refine hK.out _ _ ?_
        clear hK K
        refine done_ (by kernel_rfl) ?_
        simp only [Nat.add_zero] at HS0
        generalize (w1.setCell ⟨qb, x * 3, none⟩ (.int .i64 st)).drew = wz at HS0 HC2 ⊢
        clear HR1 HC1 F18 F19 z0 c0
        obtain ⟨_, _, f18, c2, f19⟩ := HS0.out.facts
        rw [← HKK.out] at f19
        obtain ⟨_, _, c1, _, cf⟩ := HS0.out.cells ha hb HX.out
        rw [upd_same] at c1
        have F18 := Aside0.mk f18
        have F19 := Aside0.mk f19
        have z1 := cf (x * 3 + 1)
        have HS1 := Aside0.mk (HS0.out.set ha hb HX.out (r := 1) (by omega) (.int .u32 sub) ⟨st, sub, (m a b).rest⟩ (by rw [upd_same]; exact ⟨rfl, rfl, rfl⟩)).drew
        have HC3 : Aside0 (RefChg qb w (wz.setCell ⟨qb, x * 3 + 1, none⟩ (.int .u32 sub)).drew) := ⟨(HC2.out.trans (RefChg.set qb wz (x * 3 + 1) (.int .u32 sub))).trans (RefChg.of_below (below_drew (Below.refl _ _)))⟩
        rw [upd_upd] at HS1
        clear f18 f19 cf
        go_wp2_with fail
        refine start_ (n := 16) (S := fun w' => w'.cell? ⟨q, 19, none⟩ = some (.slice (some ⟨qb, 0, none⟩) K c2) ∧ w'.cell? ⟨q, 18, none⟩ = some (.int .i64 N)) (ds := [15]) #[false, false, false, false, false, false, false, false, false, false, false, false, false, false, false, false] (by kernel_rfl) rfl rfl ⟨F19.out, F18.out⟩ (fun hHeld => ?_)
        refine pure_ (i := 0) (N := some 44) (v := ?_) (a' := ?_) #[true, false, false, false, false, false, false, false, false, false, false, false, false, false, false, false] rfl rfl (by kernel_rfl) (fun _ _ _ h => h) (Or.inl ⟨by rfl, ?_⟩) ?_ ?_
        rotate_left
        · intro w'
          go_simp
          with_reducible rfl
        rotate_left
        · simp only [Act.put, List.setIfInBounds_toArray, List.set_cons_zero, List.set_cons_succ, i64_w, i32_w]
          rfl
        refine pure_ (i := 1) (N := some 45) (v := ?_) (a' := ?_) #[true, true, false, false, false, false, false, false, false, false, false, false, false, false, false, false] rfl rfl (by kernel_rfl) (fun _ _ _ h => h) (Or.inl ⟨by rfl, ?_⟩) ?_ ?_
        rotate_left
        · intro w'
          go_simp
          with_reducible rfl
        rotate_left
        · simp only [Act.put, List.setIfInBounds_toArray, List.set_cons_zero, List.set_cons_succ, i64_w, i32_w]
          rfl
        refine pure_ (i := 2) (N := some 46) (v := ?_) (a' := ?_) #[true, true, true, false, false, false, false, false, false, false, false, false, false, false, false, false] rfl rfl (by kernel_rfl) (fun _ _ _ h => h) (Or.inl ⟨by rfl, ?_⟩) ?_ ?_
        rotate_left
        · intro w'
          go_simp
          with_reducible rfl
        rotate_left
        · simp only [Act.put, List.setIfInBounds_toArray, List.set_cons_zero, List.set_cons_succ, i64_w, i32_w]
          rfl
        refine pure_ (i := 4) (N := some 48) (v := ?_) (a' := ?_) #[true, true, true, false, true, false, false, false, false, false, false, false, false, false, false, false] rfl rfl (by kernel_rfl) (fun _ _ _ h => h) (Or.inl ⟨by rfl, ?_⟩) ?_ ?_
        rotate_left
        · intro w'
          go_simp
          with_reducible rfl
        rotate_left
        · simp only [Act.put, List.setIfInBounds_toArray, List.set_cons_zero, List.set_cons_succ, i64_w, i32_w]
          rfl
        refine pure_ (i := 5) (N := some 49) (v := ?_) (a' := ?_) #[true, true, true, false, true, true, false, false, false, false, false, false, false, false, false, false] rfl rfl (by kernel_rfl) (fun _ _ _ h => h) (Or.inl ⟨by rfl, ?_⟩) ?_ ?_
        rotate_left
        · intro w'
          go_simp
          with_reducible rfl
        rotate_left
        · simp only [Act.put, List.setIfInBounds_toArray, List.set_cons_zero, List.set_cons_succ, i64_w, i32_w]
          rfl
        refine pure_ (i := 6) (N := some 50) (v := ?_) (a' := ?_) #[true, true, true, false, true, true, true, false, false, false, false, false, false, false, false, false] rfl rfl (by kernel_rfl) (fun _ _ _ h => h) (Or.inl ⟨by rfl, ?_⟩) ?_ ?_
        rotate_left
        · intro w'
          go_simp
          with_reducible rfl
        rotate_left
        · simp only [Act.put, List.setIfInBounds_toArray, List.set_cons_zero, List.set_cons_succ, i64_w, i32_w]
          rfl
        refine pure_ (i := 7) (N := some 51) (v := ?_) (a' := ?_) #[true, true, true, false, true, true, true, true, false, false, false, false, false, false, false, false] rfl rfl (by kernel_rfl) (fun _ _ _ h => h) (Or.inl ⟨by rfl, ?_⟩) ?_ ?_
        rotate_left
        · intro w'
          go_simp
          with_reducible rfl
        rotate_left
        · simp only [Act.put, List.setIfInBounds_toArray, List.set_cons_zero, List.set_cons_succ, i64_w, i32_w]
          rfl
        refine pure_ (i := 10) (N := some 54) (v := ?_) (a' := ?_) #[true, true, true, false, true, true, true, true, false, false, true, false, false, false, false, false] rfl rfl (by kernel_rfl) (fun _ _ _ h => h) (Or.inl ⟨by rfl, ?_⟩) ?_ ?_
        rotate_left
        · intro w'
          go_simp
          with_reducible rfl
        rotate_left
        · simp only [Act.put, List.setIfInBounds_toArray, List.set_cons_zero, List.set_cons_succ, i64_w, i32_w]
          rfl
        refine pure_ (i := 12) (N := some 56) (v := ?_) (a' := ?_) #[true, true, true, false, true, true, true, true, false, false, true, false, true, false, false, false] rfl rfl (by kernel_rfl) (fun _ _ _ h => h) (Or.inl ⟨by rfl, ?_⟩) ?_ ?_
        rotate_left
        · intro w'
          go_simp
          with_reducible rfl
        rotate_left
        · simp only [Act.put, List.setIfInBounds_toArray, List.set_cons_zero, List.set_cons_succ, i64_w, i32_w]
          rfl
        refine take_ (i := 3) (N := some 47) (v := ?_) (a' := ?_) #[true, true, true, true, true, true, true, true, false, false, true, false, true, false, false, false] rfl rfl (by kernel_rfl) (fun _ _ _ h => h) (Or.inl ⟨by rfl, ?_⟩) hHeld ?_ ?_
        rotate_left
        · rintro w' ⟨s0, s1⟩
          go_simp
          with_reducible rfl
        rotate_left
        · simp only [Act.put, List.setIfInBounds_toArray, List.set_cons_zero, List.set_cons_succ, i64_w, i32_w]
          rfl
        refine take_ (i := 8) (N := some 52) (v := ?_) (a' := ?_) #[true, true, true, true, true, true, true, true, true, false, true, false, true, false, false, false] rfl rfl (by kernel_rfl) (fun _ _ _ h => h) (Or.inl ⟨by rfl, ?_⟩) hHeld ?_ ?_
        rotate_left
        · rintro w' ⟨s0, s1⟩
          go_simp
          with_reducible rfl
        rotate_left
        · simp only [Act.put, List.setIfInBounds_toArray, List.set_cons_zero, List.set_cons_succ, i64_w, i32_w]
          rfl
        refine pure_ (i := 9) (N := some 53) (v := ?_) (a' := ?_) #[true, true, true, true, true, true, true, true, true, true, true, false, true, false, false, false] rfl rfl (by kernel_rfl) (fun _ _ _ h => h) (Or.inl ⟨by rfl, ?_⟩) ?_ ?_
        rotate_left
        · intro w'
          go_simp
          with_reducible rfl
        rotate_left
        · simp only [Act.put, List.setIfInBounds_toArray, List.set_cons_zero, List.set_cons_succ, i64_w, i32_w]
          rfl
        refine pure_ (i := 11) (N := some 55) (v := ?_) (a' := ?_) #[true, true, true, true, true, true, true, true, true, true, true, true, true, false, false, false] rfl rfl (by kernel_rfl) (fun _ _ _ h => h) (Or.inl ⟨by rfl, ?_⟩) ?_ ?_
        rotate_left
        · intro w'
          go_simp
          with_reducible rfl
        rotate_left
        · simp only [Act.put, List.setIfInBounds_toArray, List.set_cons_zero, List.set_cons_succ, i64_w, i32_w]
          rfl
        refine pure_ (i := 13) (N := some 57) (v := ?_) (a' := ?_) #[true, true, true, true, true, true, true, true, true, true, true, true, true, true, false, false] rfl rfl (by kernel_rfl) (fun _ _ _ h => h) (Or.inl ⟨by rfl, ?_⟩) ?_ ?_
        rotate_left
        · intro w'
          go_simp
          with_reducible rfl
        rotate_left
        · simp only [Act.put, List.setIfInBounds_toArray, List.set_cons_zero, List.set_cons_succ, i64_w, i32_w]
          rfl
        refine pure_ (i := 14) (N := some 58) (v := ?_) (a' := ?_) #[true, true, true, true, true, true, true, true, true, true, true, true, true, true, true, false] rfl rfl (by kernel_rfl) (fun _ _ _ h => h) (Or.inl ⟨by rfl, ?_⟩) ?_ ?_
        rotate_left
        · intro w'
          go_simp
          with_reducible rfl
        rotate_left
        · simp only [Act.put, List.setIfInBounds_toArray, List.set_cons_zero, List.set_cons_succ, i64_w, i32_w]
          rfl
        refine last_ (i := 15) (N := none) #[true, true, true, true, true, true, true, true, true, true, true, true, true, true, true, true] rfl rfl (by kernel_rfl) (by decide) (fun K hK => ?_)
        refine skip_ (w1 := ?_) (by rfl) rfl ?_ ?_
        rotate_left
        · go_simp
          rfl
        refine hK.out _ _ ?_
        clear hK K
        refine done_ (by kernel_rfl) ?_
        generalize (wz.setCell ⟨qb, x * 3 + 1, none⟩ (.int .u32 sub)).drew = wy at HS1 HC3 ⊢
        go_wp2
        go_ret
        exact ⟨rfl, HS1.out, HC3.out⟩
set_option maxHeartbeats 1000000 in
theorem rgive_calls (w : World) (q qb : Nat) (k N : Nat) (hold : Int) (m : Nat → Nat → Blk) (i n now sub : Int) (h : RefP w q qb k N hold m) :
    Calls Try.prog 49 #[.pointer (some ⟨q, 0, none⟩), .int .u32 sub, .int .i64 i, .int .i64 n, .int .i64 now] w fun e w' =>
      e = .returned (.int .i64 (tkE k N m i n now)) ∧ RefP w' q qb k N hold (tkM k N m i n now 1 sub) ∧ RefChg qb w w' := by
  have HR := Aside0.mk h
  clear h
  go_enter Try.func49, Try.ntmps49
  go_wp2_with (go_at_call 76; refine (rtake_calls _ _ qb _ _ hold m i n now 1 sub HR.out).mono ?_; rintro e w' ⟨rfl, h1, h2⟩)
  go_ret
  exact ⟨rfl, h1, h2⟩
set_option maxHeartbeats 1000000 in
theorem rowe_calls (w : World) (q qb : Nat) (k N : Nat) (hold : Int) (m : Nat → Nat → Blk) (i n now : Int) (h : RefP w q qb k N hold m) :
    Calls Try.prog 51 #[.pointer (some ⟨q, 0, none⟩), .int .i64 i, .int .i64 n, .int .i64 now] w fun e w' =>
      e = .returned (.int .i64 (tkE k N m i n now)) ∧ RefP w' q qb k N hold (tkM k N m i n now 2 0) ∧ RefChg qb w w' := by
  have HR := Aside0.mk h
  clear h
  go_enter Try.func51, Try.ntmps51
  go_wp2_with (go_at_call 76; refine (rtake_calls _ _ qb _ _ hold m i n now 2 0 HR.out).mono ?_; rintro e w' ⟨rfl, h1, h2⟩)
  go_ret
  exact ⟨rfl, h1, h2⟩
end Go.Proofs.Ytoapbppjkidgiaa.Pool
