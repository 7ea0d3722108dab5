/- RefPool9: the reference's pool tells what the pool tells; both pools, both tapes in one memory. Conditions: they are ones that New, NewPool made. -/
import Derived.Test.YtoapbppjkidgiaaRefPool8
namespace Go.Proofs.Ytoapbppjkidgiaa.Pool
open Go.RowKit Go.Proofs.YtoapbppjkidgiaaW.PrintWords Go.Proofs.YtoapbppjkidgiaaW.PrintLast Go.Proofs.YtoapbppjkidgiaaW.PrintMore Tape Setup
set_option linter.unusedVariables false
set_option linter.unusedSimpArgs false
set_option maxRecDepth 100000
/-- the reference's cell of a block: its rest is never below nought. -/
def nz (x : Blk) : Blk := ⟨x.is, x.sub, max x.rest 0⟩
def nzm (m : Nat → Nat → Blk) : Nat → Nat → Blk := fun i j => nz (m i j)
theorem good_in {t : Int} (h : good t = true) : 0 ≤ t ∧ t ≤ 1099511627776 := by
  unfold good at h
  simp only [Bool.and_eq_true, decide_eq_true_eq] at h
  exact h
theorem fr_nz (x : Blk) {now : Int} (h : good now = true) : fr (nz x) now = fr x now := by
  have h0 := (good_in h).1
  unfold fr nz
  by_cases e : x.rest ≤ now
  · rw [decide_eq_true (show max x.rest 0 ≤ now by omega), decide_eq_true e]
  · rw [decide_eq_false (show ¬ max x.rest 0 ≤ now by omega), decide_eq_false e]
theorem nzm_upd (m : Nat → Nat → Blk) (a b : Nat) (x y : Blk) (h : nz x = y) : upd (nzm m) a b y = nzm (upd m a b x) := by
  funext i j
  show (if i = a ∧ j = b then y else nz (m i j)) = nz (if i = a ∧ j = b then x else m i j)
  by_cases e : i = a ∧ j = b
  · rw [if_pos e, if_pos e, h]
  · rw [if_neg e, if_neg e]
theorem tkE_nz (k N : Nat) (m : Nat → Nat → Blk) (i n now : Int) : tkE k N (nzm m) i n now = tkE k N m i n now := by
  unfold tkE
  cases h1 : isIn k N i n with
  | false => rfl
  | true =>
    cases h2 : good now with
    | false => rfl
    | true =>
      rw [show fr (nzm m i.toNat n.toNat) now = fr (m i.toNat n.toNat) now from fr_nz _ h2]
theorem tkM_nz (k N : Nat) (m : Nat → Nat → Blk) (i n now st sub : Int) : tkM k N (nzm m) i n now st sub = nzm (tkM k N m i n now st sub) := by
  unfold tkM
  cases h1 : isIn k N i n with
  | false => rfl
  | true =>
    cases h2 : good now with
    | false => rfl
    | true =>
      rw [show fr (nzm m i.toNat n.toNat) now = fr (m i.toNat n.toNat) now from fr_nz _ h2]
      cases fr (m i.toNat n.toNat) now with
      | false => rfl
      | true => exact nzm_upd m _ _ _ _ rfl
theorem bkE_nz (k N : Nat) (m : Nat → Nat → Blk) (i n now : Int) : bkE k N (nzm m) i n now = bkE k N m i n now := rfl
theorem bkM_nz (k N : Nat) (hold : Int) (hh : 1 ≤ hold) (m : Nat → Nat → Blk) (i n now : Int) : bkM k N hold (nzm m) i n now = nzm (bkM k N hold m i n now) := by
  unfold bkM
  rw [show (nzm m i.toNat n.toNat).is = (m i.toNat n.toNat).is from rfl]
  cases h1 : isIn k N i n with
  | false => rfl
  | true =>
    cases h2 : good now with
    | false => rfl
    | true =>
      cases h3 : ((m i.toNat n.toNat).is == 0) with
      | true => rfl
      | false =>
        have h0 := (good_in h2).1
        refine nzm_upd m _ _ _ _ ?_
        unfold nz
        rw [show max (now + hold) 0 = now + hold by omega]
theorem rsE_nz (k N : Nat) (m : Nat → Nat → Blk) (i n now : Int) : rsE k N (nzm m) i n now = rsE k N m i n now := rfl
theorem rsM_nz (k N : Nat) (m : Nat → Nat → Blk) (i n now : Int) : rsM k N (nzm m) i n now = nzm (rsM k N m i n now) := by
  unfold rsM
  rw [show (nzm m i.toNat n.toNat).is = (m i.toNat n.toNat).is from rfl]
  cases h1 : isIn k N i n with
  | false => rfl
  | true =>
    cases h2 : good now with
    | false => rfl
    | true =>
      cases h3 : ((m i.toNat n.toNat).is == 0) with
      | false => rfl
      | true =>
        have h0 := (good_in h2).1
        refine nzm_upd m _ _ _ _ ?_
        unfold nzm nz
        simp only [Blk.mk.injEq, true_and]
        omega
theorem frees_nz (m : Nat → Nat → Blk) {now : Int} (h : good now = true) (a N : Nat) : frees (nzm m a) now N = frees (m a) now N := by
  unfold frees
  congr 1
  funext j
  exact fr_nz _ h
theorem sumFr_nz (m : Nat → Nat → Blk) {now : Int} (h : good now = true) (N k : Nat) : sumFr (nzm m) now N k = sumFr m now N k := by
  induction k with
  | zero => rfl
  | succ k ih => unfold sumFr; rw [ih, frees_nz m h]
theorem adrs_nz (m : Nat → Nat → Blk) {now : Int} (h : good now = true) (N k : Nat) : adrs (nzm m) now N k = adrs m now N k := by
  induction k with
  | zero => rfl
  | succ k ih => unfold adrs; rw [ih, frees_nz m h]
theorem mayAsk_good {k : Nat} {i now : Int} (h : mayAsk k i now = true) : good now = true := by
  unfold mayAsk at h
  rw [Bool.and_eq_true] at h
  exact h.2
theorem nFree_nz (k N : Nat) (m : Nat → Nat → Blk) (i now : Int) : nFree k N (nzm m) i now = nFree k N m i now := by
  unfold nFree
  cases h : mayAsk k i now with
  | false => rfl
  | true =>
    have hg := mayAsk_good h
    rw [frees_nz m hg, sumFr_nz m hg]
theorem pk_nz (k N : Nat) (m : Nat → Nat → Blk) (i now : Int) (l : List Int) :
    pkErr k N (nzm m) i now = pkErr k N m i now ∧ pkA k N (nzm m) i now l = pkA k N m i now l ∧ pkB k N (nzm m) i now l = pkB k N m i now l ∧ pkL k N (nzm m) i now l = pkL k N m i now l := by
  cases h : mayAsk k i now with
  | false =>
    unfold pkErr pkA pkB pkL
    rw [h]
    exact ⟨rfl, rfl, rfl, rfl⟩
  | true =>
    have hg := mayAsk_good h
    have e1 : pkAny k N (nzm m) i now = pkAny k N m i now := by unfold pkAny; rw [frees_nz m hg, adrs_nz m hg]
    have e2 : pkI k N (nzm m) i now l = pkI k N m i now l := by unfold pkI; rw [adrs_nz m hg]
    have e3 : pkT k N (nzm m) i now l = pkT k N m i now l := by unfold pkT; rw [adrs_nz m hg]
    unfold pkErr pkA pkB pkL
    rw [h, e1, e2, e3, frees_nz m hg]
    exact ⟨rfl, rfl, rfl, rfl⟩
theorem heldsRow_nz (m : Nat → Nat → Blk) (s : Int) (i n : Nat) : heldsRow (nzm m) s i n = heldsRow m s i n := by
  induction n with
  | zero => rfl
  | succ n ih => unfold heldsRow; rw [ih]; rfl
theorem helds_nz (m : Nat → Nat → Blk) (N : Nat) (s : Int) (k : Nat) : helds (nzm m) N s k = helds m N s k := by
  induction k with
  | zero => rfl
  | succ k ih => unfold helds; rw [ih, heldsRow_nz]
theorem ho_nz (k N : Nat) (m : Nat → Nat → Blk) (i n : Int) : hoB k N (nzm m) i n = hoB k N m i n ∧ hoS k N (nzm m) i n = hoS k N m i n := ⟨rfl, rfl⟩
/-- both pools, both tapes. -/
structure Both (w wr : World) (g ga : Nat) (gs : Nat → Nat) (k N : Nat) (hold : Int) (m : Nat → Nat → Blk) (q qb : Nat) (mr : Nat → Nat → Blk) (p tq : Nat) (v : Value) (a b : List Int) : Prop where
  ps : PoolSt wr g ga gs k N hold m
  rp : RefP wr q qb k N hold mr
  two : Two w wr p tq v a b
  low : (∀ i, i < k → w.heap.size ≤ gs i) ∧ w.heap.size ≤ qb
  aw : ∀ x, Arr wr p x → (∀ i, i < k → x ≠ gs i) ∧ x ≠ qb
  nn : ga ≠ tq ∧ ga ≠ qb ∧ some ga ≠ v.ownBlock
theorem RefSt.chg {w w' : World} {tq base : Nat} {v : Value} {l : List Int} {S : Nat → Prop} (h : RefSt w tq base v l) (hc : Chg w w' S) (hq : ¬ S tq) (hv : ∀ x, S x → some x ≠ v.ownBlock) : RefSt w' tq base v l :=
  ⟨(hc.block tq (blk_lt h.1) hq).trans h.1, Kd.Q_mono (Kd.Q_step (Kd.Q_tight rfl h.2.1) (fun k ho hk => hc.block k hk (fun hs => hv k hs ho))) (fun _ _ => trivial), h.2.2⟩
theorem Two.chg {w wr w' : World} {p tq : Nat} {v : Value} {a b : List Int} {S : Nat → Prop} (h : Two w wr p tq v a b) (hc : Chg wr w' S) (hp : ¬ S p) (hq : ¬ S tq) (hv : ∀ x, S x → some x ≠ v.ownBlock) (hA : ∀ x, Arr wr p x → ¬ S x) (hl : ∀ x, S x → w.heap.size ≤ x) :
    Two w w' p tq v a b ∧ ∀ x, Arr w' p x → Arr wr p x := by
  obtain ⟨h1, h2⟩ := TapeSt.keep h.ht hc hp hA
  exact ⟨⟨h1, RefSt.chg h.hr hc hq hv, hc.below h.hb h.hb.size hl, h.ne, h.hp, h.hq, fun x hx => by
    obtain ⟨q1, q2, q3⟩ := h.ha x (h2 x hx)
    exact ⟨q1, q2, Nat.lt_of_lt_of_le q3 hc.size⟩⟩, h2⟩
theorem Both.below {w wr w' : World} {g ga : Nat} {gs : Nat → Nat} {k N : Nat} {hold : Int} {m : Nat → Nat → Blk} {q qb : Nat} {mr : Nat → Nat → Blk} {p tq : Nat} {v : Value} {a b : List Int} (h : Both w wr g ga gs k N hold m q qb mr p tq v a b) (hb : Below wr.heap.size wr w') : Both w w' g ga gs k N hold m q qb mr p tq v a b := by
  obtain ⟨h1, h2⟩ := Two.chg (S := fun _ => False) h.two (chg_below hb) id id (fun _ x => x.elim) (fun _ _ x => x) (fun _ x => x.elim)
  exact ⟨h.ps.below hb, h.rp.below hb, h1, h.low, fun x hx => h.aw x (h2 x hx), h.nn⟩
theorem Both.pool {w wr w' : World} {g ga : Nat} {gs : Nat → Nat} {k N : Nat} {hold : Int} {m m' : Nat → Nat → Blk} {q qb : Nat} {mr : Nat → Nat → Blk} {p tq : Nat} {v : Value} {a b : List Int} (h : Both w wr g ga gs k N hold m q qb mr p tq v a b) (hp : PoolSt w' g ga gs k N hold m') (hc : PoolChg gs k wr w') : Both w w' g ga gs k N hold m' q qb mr p tq v a b := by
  have hne : ∀ i, i < k → ∀ {x : Nat} {C : Array Value} {t : TypeId}, wr.heap[x]? = some (.cells C t (0, 0)) → t ≠ 97 → x ≠ gs i := fun i hi {x C t} hx ht => by
    obtain ⟨L, hL, _⟩ := h.ps.blk i hi
    exact blk_ne hx hL ht
  obtain ⟨A, c, h84, _⟩ := h.two.ht
  obtain ⟨h1, h2⟩ := Two.chg h.two hc (fun ⟨i, hi, e⟩ => hne i hi h84 (by decide) e) (fun ⟨i, hi, e⟩ => hne i hi h.two.hr.1 (by decide) e)
    (fun x ⟨i, hi, e⟩ => by obtain ⟨L, hL, _⟩ := h.ps.blk i hi; rw [e]; exact Kd.Q_ne h.two.hr.2.1 hL (by decide))
    (fun x hx ⟨i, hi, e⟩ => (h.aw x hx).1 i hi e) (fun x ⟨i, hi, e⟩ => e ▸ h.low.1 i hi)
  obtain ⟨cs, h108, _⟩ := h.rp.head
  obtain ⟨L, h112, _⟩ := h.rp.blk
  refine ⟨hp, h.rp.keep (fun x hx hx2 => hc.block x hx (fun ⟨i, hi, e⟩ => ?_)), h1, h.low, fun x hx => h.aw x (h2 x hx), h.nn⟩
  rcases hx2 with rfl | rfl
  · exact hne i hi h108 (by decide) e
  · exact hne i hi h112 (by decide) e
theorem Both.refp {w wr w' : World} {g ga : Nat} {gs : Nat → Nat} {k N : Nat} {hold : Int} {m : Nat → Nat → Blk} {q qb : Nat} {mr mr' : Nat → Nat → Blk} {p tq : Nat} {v : Value} {a b : List Int} (h : Both w wr g ga gs k N hold m q qb mr p tq v a b) (hp : RefP w' q qb k N hold mr') (hc : RefChg qb wr w') : Both w w' g ga gs k N hold m q qb mr' p tq v a b := by
  obtain ⟨L, h112, _⟩ := h.rp.blk
  obtain ⟨A, c, h84, _⟩ := h.two.ht
  obtain ⟨h1, h2⟩ := Two.chg h.two hc (fun e => blk_ne h84 h112 (by decide) e) (fun e => blk_ne h.two.hr.1 h112 (by decide) e)
    (fun x e => by rw [e]; exact Kd.Q_ne h.two.hr.2.1 h112 (by decide)) (fun x hx e => (h.aw x hx).2 e) (fun x e => by rw [e]; exact h.low.2)
  obtain ⟨c1, h100⟩ := h.ps.head
  refine ⟨h.ps.keep (fun x hx hx2 => hc.block x hx (fun e => ?_)), hp, h1, h.low, fun x hx => h.aw x (h2 x hx), h.nn⟩
  rcases hx2 with rfl | rfl | ⟨i, hi, rfl⟩
  · exact blk_ne h100 h112 (by decide) e
  · exact h.nn.2.1 e
  · obtain ⟨L2, hL2, _⟩ := h.ps.blk i hi
    exact blk_ne hL2 h112 (by decide) e
theorem Both.tape {w wr w' : World} {g ga : Nat} {gs : Nat → Nat} {k N : Nat} {hold : Int} {m : Nat → Nat → Blk} {q qb : Nat} {mr : Nat → Nat → Blk} {p tq : Nat} {v : Value} {a a' b : List Int} (h : Both w wr g ga gs k N hold m q qb mr p tq v a b) (hs : Step p wr w') (ht : TapeSt w' p a') : Both w w' g ga gs k N hold m q qb mr p tq v a' b := by
  obtain ⟨A, c, h84, _⟩ := h.two.ht
  obtain ⟨cs, h108, _⟩ := h.rp.head
  obtain ⟨L, h112, _⟩ := h.rp.blk
  refine ⟨h.ps.stepO (a := some p) h.two.ht hs, h.rp.keep (fun x hx hx2 => hs.1.block x hx (fun e => ?_)), h.two.tape hs ht, h.low, fun x hx => ?_, h.nn⟩
  · cases e
    rcases hx2 with rfl | rfl
    · exact blk_ne h108 h84 (by decide) rfl
    · exact blk_ne h112 h84 (by decide) rfl
  · rcases hs.2 x hx with h1 | ⟨h1, _⟩
    · exact h.aw x h1
    · exact ⟨fun i hi e => by have := h.ps.lts i hi; omega, fun e => by have := blk_lt h112; omega⟩
theorem Both.reft {w wr w' : World} {g ga : Nat} {gs : Nat → Nat} {k N : Nat} {hold : Int} {m : Nat → Nat → Blk} {q qb : Nat} {mr : Nat → Nat → Blk} {p tq : Nat} {v v' : Value} {a b b' : List Int} (h : Both w wr g ga gs k N hold m q qb mr p tq v a b) (hc : Chg wr w' (fun x => x = tq ∨ some x = v.ownBlock)) (hr : RefSt w' tq w.heap.size v' b')
    (ho : v'.ownBlock = v.ownBlock ∨ ∃ x, v'.ownBlock = some x ∧ wr.heap.size ≤ x) : Both w w' g ga gs k N hold m q qb mr p tq v' a b' := by
  obtain ⟨cs, h108, _⟩ := h.rp.head
  obtain ⟨L, h112, _⟩ := h.rp.blk
  obtain ⟨c1, h100⟩ := h.ps.head
  have own : ∀ {x : Nat} {C : Array Value} {t : TypeId}, wr.heap[x]? = some (.cells C t (0, 0)) → t ≠ 5 → t ≠ 34 → ¬ (x = tq ∨ some x = v.ownBlock) := fun {x C t} hx h5 h34 e => by
    rcases e with e | e
    · exact blk_ne hx h.two.hr.1 h34 e
    · exact Kd.Q_ne h.two.hr.2.1 hx (Ne.symm h5) e
  have hA : ∀ x, Arr w' p x → Arr wr p x := by
    obtain ⟨A, c, h84, _⟩ := h.two.ht
    intro x ⟨n, c', ad, g1, g2⟩
    have hcell : w'.cell? ⟨p, 1, none⟩ = wr.cell? ⟨p, 1, none⟩ := World.cell?_of_block (hc.block p (blk_lt h84) (own h84 (by decide) (by decide)))
    exact ⟨n, c', ad, hcell ▸ g1, g2⟩
  refine ⟨h.ps.keep (fun x hx hx2 => hc.block x hx ?_), h.rp.keep (fun x hx hx2 => hc.block x hx ?_), h.two.ref hc hr ho, h.low, fun x hx => h.aw x (hA x hx), h.nn.1, h.nn.2.1, ?_⟩
  · rcases hx2 with rfl | rfl | ⟨i, hi, rfl⟩
    · exact own h100 (by decide) (by decide)
    · rintro (e | e)
      · exact h.nn.1 e
      · exact h.nn.2.2 e
    · obtain ⟨L2, hL2, _⟩ := h.ps.blk i hi
      exact own hL2 (by decide) (by decide)
  · rcases hx2 with rfl | rfl
    · exact own h108 (by decide) (by decide)
    · exact own h112 (by decide) (by decide)
  · intro e
    rcases ho with h1 | ⟨x, h1, h2⟩
    · exact h.nn.2.2 (e.trans h1)
    · rw [h1] at e
      obtain ⟨c2, hr0⟩ := h.ps.row 0 h.ps.nk.1
      have := World.block_lt_of_cell? _ _ hr0
      have := Option.some.inj e
      simp only at *
      omega
end Go.Proofs.Ytoapbppjkidgiaa.Pool
