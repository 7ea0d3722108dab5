/- Opens: readings of arguments opened by kinds: general lemmas for the rows. No condition. -/
import Derived.Test.YtoapbppjkidgiaaWSized
import Derived.Test.YtoapbppjkidgiaaWWords
import Derived.Test.YtoapbppjkidgiaaProg
import Derived.Carry
import Derived.ChangeOld
import Derived.ChangeArms
import Derived.Lib.SmallJoins
import Derived.Deep.Fields
namespace Go.Proofs.Ytoapbppjkidgiaa.Opens
open Go.Deep Go.ChangeShapes Go.WideShapes Go.ChangeAt Go.RowKit Go.Proofs.YtoapbppjkidgiaaW.PrintWords

/-- Whatever reads at type t is a value of kind d. -/
def Opens (P : Program) (t : TypeId) {α : Type} (d : Kd α) (good : α → Prop) : Prop :=
  ∀ {H : Type} (enc : TypeId × Value → H) (W : World) (held : Bool) (fuel : Nat) (cs : List Value) (y : DataW H × List MemPlace),
    DataW.trod enc P W 0 (fun _ => true) held fuel t cs = some y → ∃ x, d.K W x cs ∧ good x

theorem opens_int {P : Program} {t : TypeId} {k : IntKind} (h : P.underlying t = some (.int k)) : Opens P t (Kd.int k) (fun n => (Lit.int k n).wf = true) := by
  intro H enc W held fuel cs y hy
  obtain ⟨m, rfl, rfl, hw⟩ := DataW.trod_int h hy
  exact ⟨m, rfl, hw⟩
theorem opens_bool {P : Program} {t : TypeId} (h : P.underlying t = some .bool) : Opens P t Kd.bool (fun _ => True) := by
  intro H enc W held fuel cs y hy
  obtain ⟨m, rfl, _⟩ := DataW.trod_bool h hy
  exact ⟨m, rfl, trivial⟩
theorem list_of {α : Type} {p : Nat → α → Prop} (n : Nat) : (∀ i, i < n → ∃ x, p i x) → ∃ l : List α, l.length = n ∧ ∀ i x, l[i]? = some x → p i x := by
  induction n with
  | zero => exact fun _ => ⟨[], rfl, fun i x h => by simp at h⟩
  | succ n ih =>
    intro h
    obtain ⟨l, hl, hp⟩ := ih (fun i hi => h i (by omega))
    obtain ⟨x, hx⟩ := h n (by omega)
    refine ⟨l ++ [x], by simp [hl], fun i z hz => ?_⟩
    by_cases hi : i < n
    · rw [List.getElem?_append_left (by omega)] at hz
      exact hp i z hz
    · have : i < (l ++ [x]).length := (List.getElem?_eq_some_iff.1 hz).1
      simp at this
      obtain rfl : i = n := by omega
      rw [List.getElem?_append_right (by omega), hl] at hz
      simp at hz
      exact hz ▸ hx
theorem opens_slice {P : Program} {t e : TypeId} {α : Type} {d : Kd α} {good : α → Prop} (h : P.underlying t = some (.slice e)) (hs : P.cellsOf e = d.sz) (he : Opens P e d good) :
    Opens P t (Kd.slice e d) (fun xs => xs.length ≤ maxLen ∧ ∀ x ∈ xs, good x) := by
  intro H enc W held fuel cs y hy
  rcases DataW.trod_slice h hy with ⟨rfl, _⟩ | ⟨a, len, cap, elems, rest, n, _, rfl, rfl, _, hl, hm, hlen, hel, _⟩
  · refine ⟨[], ⟨none, 0, rfl, Nat.le_refl _, rfl, by simp, fun h => by simp at h⟩, by simp, by simp⟩
  · obtain ⟨xs, hxl, hx⟩ := list_of (p := fun i z => (∃ c, c.length = d.sz ∧ d.K W z c ∧ (∀ j u, c[j]? = some u → W.cell? (a.add (i * d.sz + j)) = some u)) ∧ good z) len (by
      intro i hi
      have h1 := hel i hi
      rw [List.getElem?_eq_getElem (by omega)] at h1
      obtain ⟨c, hc, hx⟩ := Option.bind_eq_some_iff.1 h1
      obtain ⟨x, hk, hg⟩ := he enc W held n c _ hx
      refine ⟨x, ⟨c, d.K_len hk, hk, fun j u hu => ?_⟩, hg⟩
      have hj : j < c.length := (List.getElem?_eq_some_iff.1 hu).1
      have h2 := (World.cells?_some hc).2.2 j (by rw [← (World.cells?_some hc).2.1]; exact hj)
      rw [hs, Addr.add_add] at h2
      rw [h2, hu])
    subst hxl
    refine ⟨xs, ⟨some a, cap, rfl, hl, rfl, by unfold maxLen at hm; omega, fun _ => ⟨a, rfl, fun j p hj => (hx j p hj).1⟩⟩, by omega, fun x hm => ?_⟩
    obtain ⟨i, hi⟩ := List.getElem?_of_mem hm
    exact (hx i x hi).2
/-- a struct: a reading of each field, at its place. -/
theorem opens_field {H : Type} {enc : TypeId × Value → H} {P : Program} {W : World} {held : Bool} {fuel : Nat} {t : TypeId} {fs : Array Field} {cs : List Value} {y : DataW H × List MemPlace} (ht : P.underlying t = some (.struct fs))
    (h : DataW.trod enc P W 0 (fun _ => true) held fuel t cs = some y) : cs.length = P.cellsOf t ∧ ∀ (i : Nat) (f : Field), fs[i]? = some f →
      ∃ n z, DataW.trod enc P W 0 (fun _ => true) held n f.type ((cs.drop f.offset).take (P.cellsOf f.type)) = some z := by
  obtain ⟨xs, n, _, rfl, hl, hlen, hf⟩ := DataW.trod_struct ht h
  refine ⟨hl, fun i f hi => ⟨n, xs[i]'(by rw [hlen]; exact (Array.getElem?_eq_some_iff.1 hi).1), ?_⟩⟩
  rw [hf i f hi]
  exact List.getElem?_eq_getElem _
/-- a struct by value whose fields are one cell each. -/
theorem open_flat {H : Type} {enc : TypeId × Value → H} {P : Program} {W : World} {held : Bool} {r : Reach} {b0 : Nat} {t : TypeId} {fs : Array Field} {v : Value} {d : DataW H} {p : List MemPlace} (hs : P.underlying t = some (.struct fs)) (hone : oneCellFields P fs = true)
    (hv : Value.okWide P W r b0 t v) (h : DataW.Trod enc P W 0 (fun _ => true) held t v d p) :
    ∃ cs : Array Value, v = .agg cs ∧ cs.size = P.cellsOf t ∧ ∀ (i : Nat) (f : Field), fs[i]? = some f → ∀ u, cs[i]? = some u → ∃ n z, DataW.trod enc P W 0 (fun _ => true) held n f.type [u] = some z := by
  obtain ⟨cs, rfl, hsz⟩ := okWide_struct hs hv
  obtain ⟨fuel, hf⟩ := h
  obtain ⟨hl, hall⟩ := opens_field hs hf
  refine ⟨cs, rfl, hsz, fun i f hi u hu => ?_⟩
  obtain ⟨n, z, hz⟩ := hall i f hi
  obtain ⟨o, k⟩ := hone_of hone i f hi
  rw [o, k] at hz
  refine ⟨n, z, ?_⟩
  have hlt : i < cs.toList.length := by
    have := (Array.getElem?_eq_some_iff.1 hu).1
    simpa using this
  have e : (cs.toList.drop i).take 1 = [u] := by
    rw [List.drop_eq_getElem_cons hlt]
    simp only [List.take_succ_cons, List.take_zero]
    congr 1
    have : cs.toList[i]? = some u := by simpa using hu
    exact (List.getElem?_eq_some_iff.1 this).2
  simpa [Value.cells, e] using hz
theorem array18 {α : Type} {cs : Array α} (h : cs.size = 18) : ∃ c0 c1 c2 c3 c4 c5 c6 c7 c8 c9 c10 c11 c12 c13 c14 c15 c16 c17, cs = #[c0, c1, c2, c3, c4, c5, c6, c7, c8, c9, c10, c11, c12, c13, c14, c15, c16, c17] := by
  obtain ⟨l⟩ := cs
  match l, h with
  | [c0, c1, c2, c3, c4, c5, c6, c7, c8, c9, c10, c11, c12, c13, c14, c15, c16, c17], _ => exact ⟨c0, c1, c2, c3, c4, c5, c6, c7, c8, c9, c10, c11, c12, c13, c14, c15, c16, c17, rfl⟩
set_option maxRecDepth 100000 in
theorem open_config {H : Type} {enc : TypeId × Value → H} {W : World} {r : Reach} {b0 : Nat} {v : Value} {d : DataW H} {p : List MemPlace} (hv : Value.okWide Try.prog W r b0 41 v) (h : DataW.Trod enc Try.prog W 0 (fun _ => true) true 41 v d p) :
    ∃ (a0 : Int) (a1 : Int) (a2 : Int) (A3 : Option Addr) (c3 : Nat) (l3 : List Int) (a4 : Int) (a5 : Int) (a6 : Int) (a7 : Int) (a8 : Int) (a9 : Int) (a10 : Int) (a11 : Int) (a12 : Int) (a13 : Int) (a14 : Int) (a15 : Int) (a16 : Int) (a17 : Bool), v = .agg #[.int .u32 a0, .int .i64 a1, .int .u32 a2, .slice A3 l3.length c3, .int .i64 a4, .int .i64 a5, .int .i64 a6, .int .i64 a7, .int .i64 a8, .int .i64 a9, .int .i64 a10, .int .i64 a11, .int .i64 a12, .int .i64 a13, .int .i64 a14, .int .i64 a15, .int .i64 a16, .bool a17] ∧ (Lit.int .u32 a0).wf = true ∧ (Lit.int .i64 a1).wf = true ∧ (Lit.int .u32 a2).wf = true ∧ Kd.C (Kd.int .u32) W A3 l3.length l3 ∧ l3.length ≤ c3 ∧ l3.length ≤ maxLen ∧ (∀ x ∈ l3, (Lit.int .u32 x).wf = true) ∧ (Lit.int .i64 a4).wf = true ∧ (Lit.int .i64 a5).wf = true ∧ (Lit.int .i64 a6).wf = true ∧ (Lit.int .i64 a7).wf = true ∧ (Lit.int .i64 a8).wf = true ∧ (Lit.int .i64 a9).wf = true ∧ (Lit.int .i64 a10).wf = true ∧ (Lit.int .i64 a11).wf = true ∧ (Lit.int .i64 a12).wf = true ∧ (Lit.int .i64 a13).wf = true ∧ (Lit.int .i64 a14).wf = true ∧ (Lit.int .i64 a15).wf = true ∧ (Lit.int .i64 a16).wf = true := by
  obtain ⟨cs, rfl, hsz, hall⟩ := open_flat Try.underlying41 (by kernel_rfl) hv h
  obtain ⟨c0, c1, c2, x3, c4, c5, c6, c7, c8, c9, c10, c11, c12, c13, c14, c15, c16, c17, rfl⟩ := array18 (hsz.trans (by kernel_rfl))
  obtain ⟨n0, z0, hz0⟩ := hall 0 _ rfl c0 rfl
  obtain ⟨a0, e0, w0⟩ := opens_int Try.underlying38 enc W true n0 _ _ hz0
  obtain rfl := (List.cons.inj e0).1
  obtain ⟨n1, z1, hz1⟩ := hall 1 _ rfl c1 rfl
  obtain ⟨a1, e1, w1⟩ := opens_int Try.underlying3 enc W true n1 _ _ hz1
  obtain rfl := (List.cons.inj e1).1
  obtain ⟨n2, z2, hz2⟩ := hall 2 _ rfl c2 rfl
  obtain ⟨a2, e2, w2⟩ := opens_int Try.underlying38 enc W true n2 _ _ hz2
  obtain rfl := (List.cons.inj e2).1
  obtain ⟨n3, z3, hz3⟩ := hall 3 _ rfl x3 rfl
  obtain ⟨l3, ⟨A3, c3, e3, hc3, hr3⟩, hm3, hg3⟩ := opens_slice (d := Kd.int .u32) Try.underlying39 (by kernel_rfl) (opens_int Try.underlying38) enc W true n3 _ _ hz3
  obtain rfl := (List.cons.inj e3).1
  obtain ⟨n4, z4, hz4⟩ := hall 4 _ rfl c4 rfl
  obtain ⟨a4, e4, w4⟩ := opens_int Try.underlying3 enc W true n4 _ _ hz4
  obtain rfl := (List.cons.inj e4).1
  obtain ⟨n5, z5, hz5⟩ := hall 5 _ rfl c5 rfl
  obtain ⟨a5, e5, w5⟩ := opens_int Try.underlying3 enc W true n5 _ _ hz5
  obtain rfl := (List.cons.inj e5).1
  obtain ⟨n6, z6, hz6⟩ := hall 6 _ rfl c6 rfl
  obtain ⟨a6, e6, w6⟩ := opens_int Try.underlying3 enc W true n6 _ _ hz6
  obtain rfl := (List.cons.inj e6).1
  obtain ⟨n7, z7, hz7⟩ := hall 7 _ rfl c7 rfl
  obtain ⟨a7, e7, w7⟩ := opens_int Try.underlying3 enc W true n7 _ _ hz7
  obtain rfl := (List.cons.inj e7).1
  obtain ⟨n8, z8, hz8⟩ := hall 8 _ rfl c8 rfl
  obtain ⟨a8, e8, w8⟩ := opens_int Try.underlying3 enc W true n8 _ _ hz8
  obtain rfl := (List.cons.inj e8).1
  obtain ⟨n9, z9, hz9⟩ := hall 9 _ rfl c9 rfl
  obtain ⟨a9, e9, w9⟩ := opens_int Try.underlying3 enc W true n9 _ _ hz9
  obtain rfl := (List.cons.inj e9).1
  obtain ⟨n10, z10, hz10⟩ := hall 10 _ rfl c10 rfl
  obtain ⟨a10, e10, w10⟩ := opens_int Try.underlying3 enc W true n10 _ _ hz10
  obtain rfl := (List.cons.inj e10).1
  obtain ⟨n11, z11, hz11⟩ := hall 11 _ rfl c11 rfl
  obtain ⟨a11, e11, w11⟩ := opens_int Try.underlying3 enc W true n11 _ _ hz11
  obtain rfl := (List.cons.inj e11).1
  obtain ⟨n12, z12, hz12⟩ := hall 12 _ rfl c12 rfl
  obtain ⟨a12, e12, w12⟩ := opens_int Try.underlying3 enc W true n12 _ _ hz12
  obtain rfl := (List.cons.inj e12).1
  obtain ⟨n13, z13, hz13⟩ := hall 13 _ rfl c13 rfl
  obtain ⟨a13, e13, w13⟩ := opens_int Try.underlying3 enc W true n13 _ _ hz13
  obtain rfl := (List.cons.inj e13).1
  obtain ⟨n14, z14, hz14⟩ := hall 14 _ rfl c14 rfl
  obtain ⟨a14, e14, w14⟩ := opens_int Try.underlying3 enc W true n14 _ _ hz14
  obtain rfl := (List.cons.inj e14).1
  obtain ⟨n15, z15, hz15⟩ := hall 15 _ rfl c15 rfl
  obtain ⟨a15, e15, w15⟩ := opens_int Try.underlying3 enc W true n15 _ _ hz15
  obtain rfl := (List.cons.inj e15).1
  obtain ⟨n16, z16, hz16⟩ := hall 16 _ rfl c16 rfl
  obtain ⟨a16, e16, w16⟩ := opens_int Try.underlying3 enc W true n16 _ _ hz16
  obtain rfl := (List.cons.inj e16).1
  obtain ⟨n17, z17, hz17⟩ := hall 17 _ rfl c17 rfl
  obtain ⟨a17, e17, _⟩ := opens_bool Try.underlying4 enc W true n17 _ _ hz17
  obtain rfl := (List.cons.inj e17).1
  exact ⟨a0, a1, a2, A3, c3, l3, a4, a5, a6, a7, a8, a9, a10, a11, a12, a13, a14, a15, a16, a17, rfl, w0, w1, w2, hr3, hc3, hm3, hg3, w4, w5, w6, w7, w8, w9, w10, w11, w12, w13, w14, w15, w16⟩
end Go.Proofs.Ytoapbppjkidgiaa.Opens
