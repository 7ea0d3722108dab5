/- Pool2: take, Give, Owe, Back, Rest, Holder. Conditions: the pool is one that New made. -/
import Derived.Test.YtoapbppjkidgiaaPool1
namespace Go.Proofs.Ytoapbppjkidgiaa.Pool
open Go.RowKit Go.Proofs.YtoapbppjkidgiaaW.PrintWords Go.Proofs.YtoapbppjkidgiaaW.PrintLast Go.Proofs.YtoapbppjkidgiaaW.PrintMore Tape Setup
set_option linter.unusedVariables false
set_option linter.unusedSimpArgs false
set_option maxRecDepth 100000
def upd (m : Nat → Nat → Blk) (a b : Nat) (x : Blk) : Nat → Nat → Blk := fun i j => if i = a ∧ j = b then x else m i j
theorem upd_same (m : Nat → Nat → Blk) (a b : Nat) (x : Blk) : upd m a b x a b = x := if_pos ⟨rfl, rfl⟩
theorem upd_other (m : Nat → Nat → Blk) (a b : Nat) (x : Blk) {i j : Nat} (h : ¬ (i = a ∧ j = b)) : upd m a b x i j = m i j := if_neg h
theorem upd_upd (m : Nat → Nat → Blk) (a b : Nat) (x y : Blk) : upd (upd m a b x) a b y = upd m a b y := by
  funext i j
  unfold upd
  by_cases h : i = a ∧ j = b
  · rw [if_pos h, if_pos h]
  · rw [if_neg h, if_neg h, if_neg h]
theorem lay_size {L : Array Value} {N b : Nat} {m : Nat → Blk} (h : Lay L N m) (hb : b < N) : b * 3 + 2 < L.size := (Array.getElem?_eq_some_iff.1 (h b hb).2.2).1
theorem lay_set {L : Array Value} {N b r : Nat} {m m' : Nat → Blk} {v : Value} (h : Lay L N m) (hb : b < N) (hr : r < 3) (ho : ∀ j, j ≠ b → m' j = m j)
    (hv : ((if r = 0 then some v else L[b * 3]?) = some (.int .i64 (m' b).is)) ∧ ((if r = 1 then some v else L[b * 3 + 1]?) = some (.int .u32 (m' b).sub)) ∧ ((if r = 2 then some v else L[b * 3 + 2]?) = some (.int .i64 (m' b).rest))) :
    Lay (L.setIfInBounds (b * 3 + r) v) N m' := by
  have hsz := lay_size h hb
  have hlt : b * 3 + r < L.size := by omega
  have key : ∀ x, (L.setIfInBounds (b * 3 + r) v)[x]? = if b * 3 + r = x then some v else L[x]? := fun x => by
    rw [Array.getElem?_setIfInBounds]
    split
    · rename_i e
      subst e
      simp [hlt]
    · rfl
  intro j hj
  rw [key, key, key]
  by_cases hjb : j = b
  · subst hjb
    obtain ⟨h0, h1, h2⟩ := hv
    refine ⟨?_, ?_, ?_⟩
    · rw [← h0]
      by_cases e : r = 0
      · subst e; simp
      · rw [if_neg (by omega), if_neg e]
    · rw [← h1]
      by_cases e : r = 1
      · subst e; simp
      · rw [if_neg (by omega), if_neg e]
    · rw [← h2]
      by_cases e : r = 2
      · subst e; simp
      · rw [if_neg (by omega), if_neg e]
  · rw [if_neg (by omega), if_neg (by omega), if_neg (by omega), ho j hjb]
    exact h j hj
/-- nothing but the pool's blocks turns. -/
def PoolChg (gs : Nat → Nat) (k : Nat) (w w' : World) : Prop := Chg w w' (fun x => ∃ i, i < k ∧ x = gs i)
theorem PoolChg.refl (gs : Nat → Nat) (k : Nat) (w : World) : PoolChg gs k w w := Chg.refl _ _
theorem PoolChg.trans {gs : Nat → Nat} {k : Nat} {a b c : World} (h : PoolChg gs k a b) (h2 : PoolChg gs k b c) : PoolChg gs k a c := Chg.trans h h2 (fun _ h => .inl h)
theorem chg_set (gs : Nat → Nat) (k : Nat) (w : World) (a o : Nat) (ha : a < k) (v : Value) : PoolChg gs k w (w.setCell ⟨gs a, o, none⟩ v) := by
  refine ⟨rfl, rfl, rfl, by simp, fun x hx hn => ?_⟩
  exact Below.heap_setCell w _ v x (fun e => hn ⟨a, ha, e⟩)
theorem PoolSt.set {w : World} {g ga : Nat} {gs : Nat → Nat} {k N : Nat} {hold : Int} {m : Nat → Nat → Blk} (h : PoolSt w g ga gs k N hold m) {a b r : Nat} (ha : a < k) (hb : b < N) (hr : r < 3) (v : Value) (x : Blk)
    (hv : ((if r = 0 then some v else some (.int .i64 (m a b).is)) = some (.int .i64 x.is)) ∧ ((if r = 1 then some v else some (.int .u32 (m a b).sub)) = some (.int .u32 x.sub)) ∧ ((if r = 2 then some v else some (.int .i64 (m a b).rest)) = some (.int .i64 x.rest))) :
    PoolSt (w.setCell ⟨gs a, b * 3 + r, none⟩ v) g ga gs k N hold (upd m a b x) := by
  obtain ⟨⟨c, hh⟩, hrow, hbk, hi, hn, h1, h2, h3⟩ := h
  refine ⟨⟨c, blk_far hh (p := ⟨gs a, b * 3 + r, none⟩) (fun e => (hn a ha).1 e.symm) v⟩, fun i hi2 => ?_, fun i hi2 => ?_, hi, hn, h1, h2, h3⟩
  · obtain ⟨c, hc⟩ := hrow i hi2
    refine ⟨c, ?_⟩
    have := Below.heap_setCell w ⟨gs a, b * 3 + r, none⟩ v ga (fun e => (hn a ha).2 e.symm)
    unfold World.cell? at hc ⊢
    rw [this]; exact hc
  · obtain ⟨L, hL, hl⟩ := hbk i hi2
    by_cases e : i = a
    · subst e
      refine ⟨_, blk_set hL (b * 3 + r) v, lay_set hl hb hr (fun j hj => upd_other m i b x (fun e => hj e.2)) ?_⟩
      rw [upd_same, (hl b hb).1, (hl b hb).2.1, (hl b hb).2.2]
      exact hv
    · refine ⟨L, blk_far hL (p := ⟨gs a, b * 3 + r, none⟩) (fun e2 => e (hi i a hi2 ha e2)) v, fun j hj => ?_⟩
      rw [upd_other m a b x (fun e2 => e e2.1)]
      exact hl j hj
theorem PoolSt.cells {w : World} {g ga : Nat} {gs : Nat → Nat} {k N : Nat} {hold : Int} {m : Nat → Nat → Blk} (h : PoolSt w g ga gs k N hold m) {a b : Nat} (ha : a < k) (hb : b < N) :
    w.cell? ⟨gs a, b * 3, none⟩ = some (.int .i64 (m a b).is) ∧ w.cell? ⟨gs a, b * 3 + 1, none⟩ = some (.int .u32 (m a b).sub) ∧ w.cell? ⟨gs a, b * 3 + 2, none⟩ = some (.int .i64 (m a b).rest) ∧ ∀ o, w.frozen? ⟨gs a, o, none⟩ = false := by
  obtain ⟨L, hL, hl⟩ := h.blk a ha
  obtain ⟨h0, h1, h2⟩ := hl b hb
  exact ⟨(blk_cell hL _).trans h0, (blk_cell hL _).trans h1, (blk_cell hL _).trans h2, fun o => blk_frozen hL o⟩
/-- a block that is free. -/
def fr (x : Blk) (now : Int) : Bool := x.is == 0 && decide (x.rest ≤ now)
def tkE (k N : Nat) (m : Nat → Nat → Blk) (i n now : Int) : Int := if isIn k N i n && good now then (if fr (m i.toNat n.toNat) now then 0 else 10) else 1
def tkM (k N : Nat) (m : Nat → Nat → Blk) (i n now st sub : Int) : Nat → Nat → Blk :=
  if isIn k N i n && good now && fr (m i.toNat n.toNat) now then upd m i.toNat n.toNat ⟨st, sub, (m i.toNat n.toNat).rest⟩ else m
theorem isIn_true {k N : Nat} {i n : Int} (h : isIn k N i n = true) : ∃ a b : Nat, i = a ∧ n = b ∧ a < k ∧ b < N := by
  unfold isIn at h
  simp only [Bool.and_eq_true, decide_eq_true_eq] at h
  exact ⟨i.toNat, n.toNat, by omega, by omega, by omega, by omega⟩
set_option maxHeartbeats 4000000 in
theorem take_calls (w : World) (g ga : Nat) (gs : Nat → Nat) (k N : Nat) (hold : Int) (m : Nat → Nat → Blk) (i n now st sub : Int) (h : PoolSt w g ga gs k N hold m) :
    Calls Try.prog 68 #[.pointer (some ⟨g, 0, none⟩), .int .i64 i, .int .i64 n, .int .i64 now, .int .i64 st, .int .u32 sub] w fun e w' =>
      e = .returned (.int .i64 (tkE k N m i n now)) ∧ PoolSt w' g ga gs k N hold (tkM k N m i n now st sub) ∧ PoolChg gs k w w' := by
  have HP := Aside0.mk h
  clear h
  cases hin : isIn k N i n with
  | false =>
    have e1 : tkE k N m i n now = 1 := by unfold tkE; rw [hin]; rfl
    have e2 : tkM k N m i n now st sub = m := by unfold tkM; rw [hin]; rfl
    rw [e1, e2]
    have HIN := Aside0.mk hin
    clear e1 e2 hin
    go_enter Try.func68, Try.ntmps68
    go_wp2_with (first
      | (go_at_call 69; refine (made_calls _ _ _ _ _ _ _ _ HP.out).mono ?_; rintro e w' ⟨rfl, rfl⟩)
      | (go_at_call 70; refine (at_none _ _ _ _ _ _ _ _ i n HP.out HIN.out).mono ?_; rintro e w' ⟨rfl, rfl⟩))
    go_ret
    exact ⟨rfl, HP.out, PoolChg.refl _ _ _⟩
  | true =>
    obtain ⟨a, b, rfl, rfl, ha, hb⟩ := isIn_true hin
    have ea : (a : Int).toNat = a := by omega
    have eb : (b : Int).toNat = b := by omega
    cases hg : good now with
    | false =>
      have e1 : tkE k N m a b now = 1 := by unfold tkE; rw [hin, hg]; rfl
      have e2 : tkM k N m a b now st sub = m := by unfold tkM; rw [hin, hg]; rfl
      rw [e1, e2]
      clear e1 e2 hin
      go_enter Try.func68, Try.ntmps68
      go_wp2_with (first
        | (go_at_call 69; refine (made_calls _ _ _ _ _ _ _ _ HP.out).mono ?_; rintro e w' ⟨rfl, rfl⟩)
        | (go_at_call 70; refine (at_some _ _ _ _ _ _ _ _ a b HP.out ha hb).mono ?_; rintro e w' ⟨rfl, rfl⟩)
        | (go_at_call 71; refine (may_calls _ _).mono ?_; rintro e w' ⟨rfl, rfl⟩))
      go_ret
      exact ⟨rfl, HP.out, PoolChg.refl _ _ _⟩
    | true =>
      obtain ⟨c0, c1, c2, cf⟩ := HP.out.cells ha hb
      have f0 := cf (b * 3)
      have f1 := cf (b * 3 + 1)
      by_cases t0 : (m a b).is = 0
      · by_cases t1 : now < (m a b).rest
        · have t1b : decide (now < (m a b).rest) = true := decide_eq_true t1
          have t0b : ((m a b).is == 0) = true := by rw [t0]; rfl
          have t0c : ((m a b).is != 0) = false := by rw [t0]; rfl
          have e0 : fr (m a b) now = false := by unfold fr; rw [decide_eq_false (by omega)]; simp
          have e1 : tkE k N m a b now = 10 := by unfold tkE; rw [hin, hg, ea, eb, e0]; rfl
          have e2 : tkM k N m a b now st sub = m := by unfold tkM; rw [hin, hg, ea, eb, e0]; rfl
          rw [e1, e2]
          clear e0 e1 e2 hin cf
          go_enter Try.func68, Try.ntmps68
          go_wp2_with (first
            | (go_at_call 69; refine (made_calls _ _ _ _ _ _ _ _ HP.out).mono ?_; rintro e w' ⟨rfl, rfl⟩)
            | (go_at_call 70; refine (at_some _ _ _ _ _ _ _ _ a b HP.out ha hb).mono ?_; rintro e w' ⟨rfl, rfl⟩)
            | (go_at_call 71; refine (may_calls _ _).mono ?_; rintro e w' ⟨rfl, rfl⟩))
          go_ret
          exact ⟨rfl, HP.out, PoolChg.refl _ _ _⟩
        · have t1b : decide (now < (m a b).rest) = false := decide_eq_false t1
          have t0b : ((m a b).is == 0) = true := by rw [t0]; rfl
          have t0c : ((m a b).is != 0) = false := by rw [t0]; rfl
          have e0 : fr (m a b) now = true := by unfold fr; rw [t0b, decide_eq_true (by omega)]; rfl
          have e1 : tkE k N m a b now = 0 := by unfold tkE; rw [hin, hg, ea, eb, e0]; rfl
          have e2 : tkM k N m a b now st sub = upd m a b ⟨st, sub, (m a b).rest⟩ := by unfold tkM; rw [hin, hg, ea, eb, e0]; rfl
          rw [e1, e2]
          clear e0 e1 e2 hin cf
          have HS0 := Aside0.mk (HP.out.set ha hb (r := 0) (by omega) (.int .i64 st) ⟨st, (m a b).sub, (m a b).rest⟩ ⟨rfl, rfl, rfl⟩)
          have HS1 := Aside0.mk (HS0.out.set ha hb (r := 1) (by omega) (.int .u32 sub) ⟨st, sub, (m a b).rest⟩ (by rw [upd_same]; exact ⟨rfl, rfl, rfl⟩))
          have d1 : (w.setCell ⟨gs a, b * 3, none⟩ (.int .i64 st)).cell? ⟨gs a, b * 3 + 1, none⟩ = some (.int .u32 (m a b).sub) := by
            have := (HS0.out.cells ha hb).2.1
            rw [upd_same] at this
            exact this
          have d2 : (w.setCell ⟨gs a, b * 3, none⟩ (.int .i64 st)).frozen? ⟨gs a, b * 3 + 1, none⟩ = false := (HS0.out.cells ha hb).2.2.2 _
          go_enter Try.func68, Try.ntmps68
          go_wp2_with (first
            | (go_at_call 69; refine (made_calls _ _ _ _ _ _ _ _ HP.out).mono ?_; rintro e w' ⟨rfl, rfl⟩)
            | (go_at_call 70; refine (at_some _ _ _ _ _ _ _ _ a b HP.out ha hb).mono ?_; rintro e w' ⟨rfl, rfl⟩)
            | (go_at_call 71; refine (may_calls _ _).mono ?_; rintro e w' ⟨rfl, rfl⟩))
          go_ret
          refine ⟨rfl, ?_, (chg_set gs k _ a (b * 3) ha _).trans (chg_set gs k _ a (b * 3 + 1) ha _)⟩
          have := HS1.out
          rw [upd_upd] at this
          exact this
      · have t0b : ((m a b).is == 0) = false := beq_eq_false_iff_ne.2 t0
        have t0c : ((m a b).is != 0) = true := by simp only [bne, t0b]; rfl
        have e0 : fr (m a b) now = false := by unfold fr; rw [t0b]; rfl
        have e1 : tkE k N m a b now = 10 := by unfold tkE; rw [hin, hg, ea, eb, e0]; rfl
        have e2 : tkM k N m a b now st sub = m := by unfold tkM; rw [hin, hg, ea, eb, e0]; rfl
        rw [e1, e2]
        clear e0 e1 e2 hin cf
        go_enter Try.func68, Try.ntmps68
        go_wp2_with (first
          | (go_at_call 69; refine (made_calls _ _ _ _ _ _ _ _ HP.out).mono ?_; rintro e w' ⟨rfl, rfl⟩)
          | (go_at_call 70; refine (at_some _ _ _ _ _ _ _ _ a b HP.out ha hb).mono ?_; rintro e w' ⟨rfl, rfl⟩)
          | (go_at_call 71; refine (may_calls _ _).mono ?_; rintro e w' ⟨rfl, rfl⟩))
        go_ret
        exact ⟨rfl, HP.out, PoolChg.refl _ _ _⟩
set_option maxHeartbeats 1000000 in
theorem give_calls (w : World) (g ga : Nat) (gs : Nat → Nat) (k N : Nat) (hold : Int) (m : Nat → Nat → Blk) (i n now sub : Int) (h : PoolSt w g ga gs k N hold m) :
    Calls Try.prog 38 #[.pointer (some ⟨g, 0, none⟩), .int .u32 sub, .int .i64 i, .int .i64 n, .int .i64 now] w fun e w' =>
      e = .returned (.int .i64 (tkE k N m i n now)) ∧ PoolSt w' g ga gs k N hold (tkM k N m i n now 1 sub) ∧ PoolChg gs k w w' := by
  have HP := Aside0.mk h
  clear h
  go_enter Try.func38, Try.ntmps38
  go_wp2_with (go_at_call 68; refine (take_calls _ _ _ _ _ _ _ _ i n now 1 sub HP.out).mono ?_; rintro e w' ⟨rfl, h1, h2⟩)
  go_ret
  exact ⟨rfl, h1, h2⟩
set_option maxHeartbeats 1000000 in
theorem owe_calls (w : World) (g ga : Nat) (gs : Nat → Nat) (k N : Nat) (hold : Int) (m : Nat → Nat → Blk) (i n now : Int) (h : PoolSt w g ga gs k N hold m) :
    Calls Try.prog 50 #[.pointer (some ⟨g, 0, none⟩), .int .i64 i, .int .i64 n, .int .i64 now] w fun e w' =>
      e = .returned (.int .i64 (tkE k N m i n now)) ∧ PoolSt w' g ga gs k N hold (tkM k N m i n now 2 0) ∧ PoolChg gs k w w' := by
  have HP := Aside0.mk h
  clear h
  go_enter Try.func50, Try.ntmps50
  go_wp2_with (go_at_call 68; refine (take_calls _ _ _ _ _ _ _ _ i n now 2 0 HP.out).mono ?_; rintro e w' ⟨rfl, h1, h2⟩)
  go_ret
  exact ⟨rfl, h1, h2⟩
def bkE (k N : Nat) (m : Nat → Nat → Blk) (i n now : Int) : Int := if isIn k N i n && good now then (if (m i.toNat n.toNat).is == 0 then 9 else 0) else 1
def bkM (k N : Nat) (hold : Int) (m : Nat → Nat → Blk) (i n now : Int) : Nat → Nat → Blk :=
  if isIn k N i n && good now && !((m i.toNat n.toNat).is == 0) then upd m i.toNat n.toNat ⟨0, 0, now + hold⟩ else m
def rsE (k N : Nat) (m : Nat → Nat → Blk) (i n now : Int) : Int := if isIn k N i n && good now then (if (m i.toNat n.toNat).is == 0 then 0 else 10) else 1
def rsM (k N : Nat) (m : Nat → Nat → Blk) (i n now : Int) : Nat → Nat → Blk :=
  if isIn k N i n && good now && (m i.toNat n.toNat).is == 0 then upd m i.toNat n.toNat ⟨(m i.toNat n.toNat).is, (m i.toNat n.toNat).sub, max (m i.toNat n.toNat).rest now⟩ else m
set_option maxHeartbeats 4000000 in
theorem back_calls (w : World) (g ga : Nat) (gs : Nat → Nat) (k N : Nat) (hold : Int) (m : Nat → Nat → Blk) (i n now : Int) (h : PoolSt w g ga gs k N hold m) :
    Calls Try.prog 39 #[.pointer (some ⟨g, 0, none⟩), .int .i64 i, .int .i64 n, .int .i64 now] w fun e w' =>
      e = .returned (.int .i64 (bkE k N m i n now)) ∧ PoolSt w' g ga gs k N hold (bkM k N hold m i n now) ∧ PoolChg gs k w w' := by
  have HP := Aside0.mk h
  clear h
  cases hin : isIn k N i n with
  | false =>
    have e1 : bkE k N m i n now = 1 := by unfold bkE; rw [hin]; rfl
    have e2 : bkM k N hold m i n now = m := by unfold bkM; rw [hin]; rfl
    rw [e1, e2]
    have HIN := Aside0.mk hin
    clear e1 e2 hin
    go_enter Try.func39, Try.ntmps39
    go_wp2_with (first
      | (go_at_call 69; refine (made_calls _ _ _ _ _ _ _ _ HP.out).mono ?_; rintro e w' ⟨rfl, rfl⟩)
      | (go_at_call 70; refine (at_none _ _ _ _ _ _ _ _ i n HP.out HIN.out).mono ?_; rintro e w' ⟨rfl, rfl⟩)
      | (go_at_call 71; refine (may_calls _ _).mono ?_; rintro e w' ⟨rfl, rfl⟩))
    go_ret
    exact ⟨rfl, HP.out, PoolChg.refl _ _ _⟩
  | true =>
    obtain ⟨a, b, rfl, rfl, ha, hb⟩ := isIn_true hin
    have ea : (a : Int).toNat = a := by omega
    have eb : (b : Int).toNat = b := by omega
    cases hg : good now with
    | false =>
      have e1 : bkE k N m a b now = 1 := by unfold bkE; rw [hin, hg]; rfl
      have e2 : bkM k N hold m a b now = m := by unfold bkM; rw [hin, hg]; rfl
      rw [e1, e2]
      clear e1 e2 hin
      go_enter Try.func39, Try.ntmps39
      go_wp2_with (first
        | (go_at_call 69; refine (made_calls _ _ _ _ _ _ _ _ HP.out).mono ?_; rintro e w' ⟨rfl, rfl⟩)
        | (go_at_call 70; refine (at_some _ _ _ _ _ _ _ _ a b HP.out ha hb).mono ?_; rintro e w' ⟨rfl, rfl⟩)
        | (go_at_call 71; refine (may_calls _ _).mono ?_; rintro e w' ⟨rfl, rfl⟩))
      go_ret
      exact ⟨rfl, HP.out, PoolChg.refl _ _ _⟩
    | true =>
      obtain ⟨c0, c1, c2, cf⟩ := HP.out.cells ha hb
      by_cases t0 : (m a b).is = 0
      · have t0b : ((m a b).is == 0) = true := by rw [t0]; rfl
        have t0c : ((m a b).is != 0) = false := by rw [t0]; rfl
        have e1 : bkE k N m a b now = 9 := by unfold bkE; rw [hin, hg, ea, eb, t0b]; rfl
        have e2 : bkM k N hold m a b now = m := by unfold bkM; rw [hin, hg, ea, eb, t0b]; rfl
        rw [e1, e2]
        clear e1 e2 hin cf
        go_enter Try.func39, Try.ntmps39
        go_wp2_with (first
          | (go_at_call 69; refine (made_calls _ _ _ _ _ _ _ _ HP.out).mono ?_; rintro e w' ⟨rfl, rfl⟩)
          | (go_at_call 70; refine (at_some _ _ _ _ _ _ _ _ a b HP.out ha hb).mono ?_; rintro e w' ⟨rfl, rfl⟩)
          | (go_at_call 71; refine (may_calls _ _).mono ?_; rintro e w' ⟨rfl, rfl⟩))
        go_ret
        exact ⟨rfl, HP.out, PoolChg.refl _ _ _⟩
      · have t0b : ((m a b).is == 0) = false := beq_eq_false_iff_ne.2 t0
        have t0c : ((m a b).is != 0) = true := by simp only [bne, t0b]; rfl
        have f0 := cf (b * 3)
        have e1 : bkE k N m a b now = 0 := by unfold bkE; rw [hin, hg, ea, eb, t0b]; rfl
        have e2 : bkM k N hold m a b now = upd m a b ⟨0, 0, now + hold⟩ := by unfold bkM; rw [hin, hg, ea, eb, t0b]; rfl
        rw [e1, e2]
        clear e1 e2 hin cf
        have hg2 : 0 ≤ now ∧ now ≤ 1099511627776 := by
          unfold good at hg
          simp only [Bool.and_eq_true, decide_eq_true_eq] at hg
          exact hg
        have hnh := HP.out.nh
        obtain ⟨ch, hh⟩ := HP.out.head
        have c3 : w.cell? ⟨g, 0, none⟩ = some (.int .i64 hold) := (blk_cell hh 0).trans rfl
        clear hh
        have hw : wrap64 (now + hold) = now + hold := by unfold wrap64; omega
        have hw2 : IntKind.i64.wrap (now + hold) = now + hold := by rw [i64_w]; exact hw
        have HS0 := Aside0.mk (HP.out.set ha hb (r := 0) (by omega) (.int .i64 0) ⟨0, (m a b).sub, (m a b).rest⟩ ⟨rfl, rfl, rfl⟩)
        have HS1 := Aside0.mk (HS0.out.set ha hb (r := 1) (by omega) (.int .u32 0) ⟨0, 0, (m a b).rest⟩ (by rw [upd_same]; exact ⟨rfl, rfl, rfl⟩))
        have HS2 := Aside0.mk (HS1.out.set ha hb (r := 2) (by omega) (.int .i64 (now + hold)) ⟨0, 0, now + hold⟩ (by rw [upd_same]; exact ⟨rfl, rfl, rfl⟩))
        have d1 : (w.setCell ⟨gs a, b * 3, none⟩ (.int .i64 0)).frozen? ⟨gs a, b * 3 + 1, none⟩ = false := (HS0.out.cells ha hb).2.2.2 _
        have d3 : (w.setCell ⟨gs a, b * 3, none⟩ (.int .i64 0)).cell? ⟨gs a, b * 3 + 1, none⟩ = some (.int .u32 (m a b).sub) := by
          have := (HS0.out.cells ha hb).2.1
          rw [upd_same] at this
          exact this
        have d2 : ((w.setCell ⟨gs a, b * 3, none⟩ (.int .i64 0)).setCell ⟨gs a, b * 3 + 1, none⟩ (.int .u32 0)).frozen? ⟨gs a, b * 3 + 2, none⟩ = false := (HS1.out.cells ha hb).2.2.2 _
        have d4 : ((w.setCell ⟨gs a, b * 3, none⟩ (.int .i64 0)).setCell ⟨gs a, b * 3 + 1, none⟩ (.int .u32 0)).cell? ⟨gs a, b * 3 + 2, none⟩ = some (.int .i64 (m a b).rest) := by
          have := (HS1.out.cells ha hb).2.2.1
          rw [upd_upd, upd_same] at this
          exact this
        go_enter Try.func39, Try.ntmps39
        go_wp2_with (first
          | (go_at_call 69; refine (made_calls _ _ _ _ _ _ _ _ HP.out).mono ?_; rintro e w' ⟨rfl, rfl⟩)
          | (go_at_call 70; refine (at_some _ _ _ _ _ _ _ _ a b HP.out ha hb).mono ?_; rintro e w' ⟨rfl, rfl⟩)
          | (go_at_call 71; refine (may_calls _ _).mono ?_; rintro e w' ⟨rfl, rfl⟩))
        go_ret
        refine ⟨rfl, ?_, ((chg_set gs k _ a (b * 3) ha _).trans (chg_set gs k _ a (b * 3 + 1) ha _)).trans (chg_set gs k _ a (b * 3 + 2) ha _)⟩
        have := HS2.out
        rw [upd_upd, upd_upd] at this
        exact this
set_option maxHeartbeats 4000000 in
theorem rest_calls (w : World) (g ga : Nat) (gs : Nat → Nat) (k N : Nat) (hold : Int) (m : Nat → Nat → Blk) (i n now : Int) (h : PoolSt w g ga gs k N hold m) :
    Calls Try.prog 53 #[.pointer (some ⟨g, 0, none⟩), .int .i64 i, .int .i64 n, .int .i64 now] w fun e w' =>
      e = .returned (.int .i64 (rsE k N m i n now)) ∧ PoolSt w' g ga gs k N hold (rsM k N m i n now) ∧ PoolChg gs k w w' := by
  have HP := Aside0.mk h
  clear h
  cases hin : isIn k N i n with
  | false =>
    have e1 : rsE k N m i n now = 1 := by unfold rsE; rw [hin]; rfl
    have e2 : rsM k N m i n now = m := by unfold rsM; rw [hin]; rfl
    rw [e1, e2]
    have HIN := Aside0.mk hin
    clear e1 e2 hin
    go_enter Try.func53, Try.ntmps53
    go_wp2_with (first
      | (go_at_call 69; refine (made_calls _ _ _ _ _ _ _ _ HP.out).mono ?_; rintro e w' ⟨rfl, rfl⟩)
      | (go_at_call 70; refine (at_none _ _ _ _ _ _ _ _ i n HP.out HIN.out).mono ?_; rintro e w' ⟨rfl, rfl⟩)
      | (go_at_call 71; refine (may_calls _ _).mono ?_; rintro e w' ⟨rfl, rfl⟩))
    go_ret
    exact ⟨rfl, HP.out, PoolChg.refl _ _ _⟩
  | true =>
    obtain ⟨a, b, rfl, rfl, ha, hb⟩ := isIn_true hin
    have ea : (a : Int).toNat = a := by omega
    have eb : (b : Int).toNat = b := by omega
    cases hg : good now with
    | false =>
      have e1 : rsE k N m a b now = 1 := by unfold rsE; rw [hin, hg]; rfl
      have e2 : rsM k N m a b now = m := by unfold rsM; rw [hin, hg]; rfl
      rw [e1, e2]
      clear e1 e2 hin
      go_enter Try.func53, Try.ntmps53
      go_wp2_with (first
        | (go_at_call 69; refine (made_calls _ _ _ _ _ _ _ _ HP.out).mono ?_; rintro e w' ⟨rfl, rfl⟩)
        | (go_at_call 70; refine (at_some _ _ _ _ _ _ _ _ a b HP.out ha hb).mono ?_; rintro e w' ⟨rfl, rfl⟩)
        | (go_at_call 71; refine (may_calls _ _).mono ?_; rintro e w' ⟨rfl, rfl⟩))
      go_ret
      exact ⟨rfl, HP.out, PoolChg.refl _ _ _⟩
    | true =>
      obtain ⟨c0, c1, c2, cf⟩ := HP.out.cells ha hb
      by_cases t0 : (m a b).is = 0
      · have t0b : ((m a b).is == 0) = true := by rw [t0]; rfl
        have t0c : ((m a b).is != 0) = false := by rw [t0]; rfl
        have f2 := cf (b * 3 + 2)
        have e1 : rsE k N m a b now = 0 := by unfold rsE; rw [hin, hg, ea, eb, t0b]; rfl
        have e2 : rsM k N m a b now = upd m a b ⟨(m a b).is, (m a b).sub, max (m a b).rest now⟩ := by unfold rsM; rw [hin, hg, ea, eb, t0b]; rfl
        rw [e1, e2]
        clear e1 e2 hin cf
        have HS0 := Aside0.mk (HP.out.set ha hb (r := 2) (by omega) (.int .i64 (max (m a b).rest now)) ⟨(m a b).is, (m a b).sub, max (m a b).rest now⟩ ⟨rfl, rfl, rfl⟩)
        go_enter Try.func53, Try.ntmps53
        go_wp2_with (first
          | (go_at_call 69; refine (made_calls _ _ _ _ _ _ _ _ HP.out).mono ?_; rintro e w' ⟨rfl, rfl⟩)
          | (go_at_call 70; refine (at_some _ _ _ _ _ _ _ _ a b HP.out ha hb).mono ?_; rintro e w' ⟨rfl, rfl⟩)
          | (go_at_call 71; refine (may_calls _ _).mono ?_; rintro e w' ⟨rfl, rfl⟩))
        · have em : max (m a b).rest now = now := by omega
          rw [em, t0] at HS0
          rw [em]
          go_ret
          exact ⟨rfl, HS0.out, chg_set gs k _ a (b * 3 + 2) ha _⟩
        · have em : max (m a b).rest now = (m a b).rest := by omega
          rw [em, t0] at HS0
          rw [em]
          go_ret
          exact ⟨rfl, HS0.out, chg_set gs k _ a (b * 3 + 2) ha _⟩
      · have t0b : ((m a b).is == 0) = false := beq_eq_false_iff_ne.2 t0
        have t0c : ((m a b).is != 0) = true := by simp only [bne, t0b]; rfl
        have e1 : rsE k N m a b now = 10 := by unfold rsE; rw [hin, hg, ea, eb, t0b]; rfl
        have e2 : rsM k N m a b now = m := by unfold rsM; rw [hin, hg, ea, eb, t0b]; rfl
        rw [e1, e2]
        clear e1 e2 hin cf
        go_enter Try.func53, Try.ntmps53
        go_wp2_with (first
          | (go_at_call 69; refine (made_calls _ _ _ _ _ _ _ _ HP.out).mono ?_; rintro e w' ⟨rfl, rfl⟩)
          | (go_at_call 70; refine (at_some _ _ _ _ _ _ _ _ a b HP.out ha hb).mono ?_; rintro e w' ⟨rfl, rfl⟩)
          | (go_at_call 71; refine (may_calls _ _).mono ?_; rintro e w' ⟨rfl, rfl⟩))
        go_ret
        exact ⟨rfl, HP.out, PoolChg.refl _ _ _⟩
def hoB (k N : Nat) (m : Nat → Nat → Blk) (i n : Int) : Bool := isIn k N i n && (m i.toNat n.toNat).is == 1
def hoS (k N : Nat) (m : Nat → Nat → Blk) (i n : Int) : Int := if hoB k N m i n then (m i.toNat n.toNat).sub else 0
set_option maxHeartbeats 2000000 in
theorem holder_calls (w : World) (g ga : Nat) (gs : Nat → Nat) (k N : Nat) (hold : Int) (m : Nat → Nat → Blk) (i n : Int) (h : PoolSt w g ga gs k N hold m) :
    Calls Try.prog 81 #[.pointer (some ⟨g, 0, none⟩), .int .i64 i, .int .i64 n] w fun e w' =>
      e = .returned (.tuple #[.int .u32 (hoS k N m i n), .bool (hoB k N m i n)]) ∧ w' = w := by
  have HP := Aside0.mk h
  clear h
  cases hin : isIn k N i n with
  | false =>
    have e1 : hoB k N m i n = false := by unfold hoB; rw [hin]; rfl
    have e2 : hoS k N m i n = 0 := by unfold hoS; rw [e1]; rfl
    rw [e1, e2]
    have HIN := Aside0.mk hin
    clear e1 e2 hin
    go_enter Try.func81, Try.ntmps81
    go_wp2_with (first
      | (go_at_call 69; refine (made_calls _ _ _ _ _ _ _ _ HP.out).mono ?_; rintro e w' ⟨rfl, rfl⟩)
      | (go_at_call 70; refine (at_none _ _ _ _ _ _ _ _ i n HP.out HIN.out).mono ?_; rintro e w' ⟨rfl, rfl⟩)
      | (go_at_call 71; refine (may_calls _ _).mono ?_; rintro e w' ⟨rfl, rfl⟩))
    go_ret2
    exact ⟨rfl, rfl⟩
  | true =>
    obtain ⟨a, b, rfl, rfl, ha, hb⟩ := isIn_true hin
    have ea : (a : Int).toNat = a := by omega
    have eb : (b : Int).toNat = b := by omega
    obtain ⟨c0, c1, c2, cf⟩ := HP.out.cells ha hb
    cases t0 : ((m a b).is == 1) with
    | false =>
      have e1 : hoB k N m a b = false := by unfold hoB; rw [hin, ea, eb, t0]; rfl
      have e2 : hoS k N m a b = 0 := by unfold hoS; rw [e1]; rfl
      rw [e1, e2]
      have t0c : ((m a b).is != 1) = true := by simp only [bne, t0]; rfl
      clear e1 e2 hin cf
      go_enter Try.func81, Try.ntmps81
      go_wp2_with (first
        | (go_at_call 69; refine (made_calls _ _ _ _ _ _ _ _ HP.out).mono ?_; rintro e w' ⟨rfl, rfl⟩)
        | (go_at_call 70; refine (at_some _ _ _ _ _ _ _ _ a b HP.out ha hb).mono ?_; rintro e w' ⟨rfl, rfl⟩)
        | (go_at_call 71; refine (may_calls _ _).mono ?_; rintro e w' ⟨rfl, rfl⟩))
      go_ret2
      exact ⟨rfl, rfl⟩
    | true =>
      have e1 : hoB k N m a b = true := by unfold hoB; rw [hin, ea, eb, t0]; rfl
      have e2 : hoS k N m a b = (m a b).sub := by unfold hoS; rw [e1, ea, eb]; rfl
      rw [e1, e2]
      have t0c : ((m a b).is != 1) = false := by simp only [bne, t0]; rfl
      clear e1 e2 hin cf
      go_enter Try.func81, Try.ntmps81
      go_wp2_with (first
        | (go_at_call 69; refine (made_calls _ _ _ _ _ _ _ _ HP.out).mono ?_; rintro e w' ⟨rfl, rfl⟩)
        | (go_at_call 70; refine (at_some _ _ _ _ _ _ _ _ a b HP.out ha hb).mono ?_; rintro e w' ⟨rfl, rfl⟩)
        | (go_at_call 71; refine (may_calls _ _).mono ?_; rintro e w' ⟨rfl, rfl⟩))
      go_ret2
      exact ⟨rfl, rfl⟩
end Go.Proofs.Ytoapbppjkidgiaa.Pool
