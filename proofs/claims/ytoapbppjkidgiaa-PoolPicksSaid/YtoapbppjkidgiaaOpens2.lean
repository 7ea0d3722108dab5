/- Opens2: the reading of a Shape. No condition. -/
import Derived.Test.YtoapbppjkidgiaaOpens
import Derived.Test.YtoapbppjkidgiaaSetup5
namespace Go.Proofs.Ytoapbppjkidgiaa.Opens
open Go.Deep Go.ChangeShapes Go.WideShapes Go.ChangeAt Go.RowKit Go.Proofs.YtoapbppjkidgiaaW.PrintWords
set_option linter.unusedVariables false
theorem array13 {α : Type} {cs : Array α} (h : cs.size = 13) : ∃ c0 c1 c2 c3 c4 c5 c6 c7 c8 c9 c10 c11 c12, cs = #[c0, c1, c2, c3, c4, c5, c6, c7, c8, c9, c10, c11, c12] := by
  obtain ⟨l⟩ := cs
  match l, h with
  | [c0, c1, c2, c3, c4, c5, c6, c7, c8, c9, c10, c11, c12], _ => exact ⟨c0, c1, c2, c3, c4, c5, c6, c7, c8, c9, c10, c11, c12, rfl⟩
set_option maxRecDepth 100000 in
theorem open_shape {H : Type} {enc : TypeId × Value → H} {W : World} {r : Reach} {b0 : Nat} {v : Value} {d : DataW H} {p : List MemPlace} (hv : Value.okWide Try.prog W r b0 60 v) (h : DataW.Trod enc Try.prog W 0 (fun _ => true) true 60 v d p) :
    ∃ (a0 : Int) (a1 : Int) (a2 : Int) (a3 : Int) (a4 : Int) (a5 : Int) (a6 : Int) (a7 : Int) (a8 : Int) (a9 : Int) (a10 : Int) (a11 : Int) (a12 : Bool), v = .agg #[.int .u8 a0, .int .u8 a1, .int .u8 a2, .int .u8 a3, .int .u8 a4, .int .u8 a5, .int .u8 a6, .int .u8 a7, .int .u8 a8, .int .u8 a9, .int .u8 a10, .int .u8 a11, .bool a12] ∧ (Lit.int .u8 a0).wf = true ∧ (Lit.int .u8 a1).wf = true ∧ (Lit.int .u8 a2).wf = true ∧ (Lit.int .u8 a3).wf = true ∧ (Lit.int .u8 a4).wf = true ∧ (Lit.int .u8 a5).wf = true ∧ (Lit.int .u8 a6).wf = true ∧ (Lit.int .u8 a7).wf = true ∧ (Lit.int .u8 a8).wf = true ∧ (Lit.int .u8 a9).wf = true ∧ (Lit.int .u8 a10).wf = true ∧ (Lit.int .u8 a11).wf = true := by
  obtain ⟨cs, rfl, hsz, hall⟩ := open_flat Try.underlying60 (by kernel_rfl) hv h
  obtain ⟨c0, c1, c2, c3, c4, c5, c6, c7, c8, c9, c10, c11, c12, rfl⟩ := array13 (hsz.trans (by kernel_rfl))
  obtain ⟨n0, z0, hz0⟩ := hall 0 _ rfl c0 rfl
  obtain ⟨a0, e0, w0⟩ := opens_int Try.underlying5 enc W true n0 _ _ hz0
  obtain rfl := (List.cons.inj e0).1
  obtain ⟨n1, z1, hz1⟩ := hall 1 _ rfl c1 rfl
  obtain ⟨a1, e1, w1⟩ := opens_int Try.underlying5 enc W true n1 _ _ hz1
  obtain rfl := (List.cons.inj e1).1
  obtain ⟨n2, z2, hz2⟩ := hall 2 _ rfl c2 rfl
  obtain ⟨a2, e2, w2⟩ := opens_int Try.underlying5 enc W true n2 _ _ hz2
  obtain rfl := (List.cons.inj e2).1
  obtain ⟨n3, z3, hz3⟩ := hall 3 _ rfl c3 rfl
  obtain ⟨a3, e3, w3⟩ := opens_int Try.underlying5 enc W true n3 _ _ hz3
  obtain rfl := (List.cons.inj e3).1
  obtain ⟨n4, z4, hz4⟩ := hall 4 _ rfl c4 rfl
  obtain ⟨a4, e4, w4⟩ := opens_int Try.underlying5 enc W true n4 _ _ hz4
  obtain rfl := (List.cons.inj e4).1
  obtain ⟨n5, z5, hz5⟩ := hall 5 _ rfl c5 rfl
  obtain ⟨a5, e5, w5⟩ := opens_int Try.underlying5 enc W true n5 _ _ hz5
  obtain rfl := (List.cons.inj e5).1
  obtain ⟨n6, z6, hz6⟩ := hall 6 _ rfl c6 rfl
  obtain ⟨a6, e6, w6⟩ := opens_int Try.underlying5 enc W true n6 _ _ hz6
  obtain rfl := (List.cons.inj e6).1
  obtain ⟨n7, z7, hz7⟩ := hall 7 _ rfl c7 rfl
  obtain ⟨a7, e7, w7⟩ := opens_int Try.underlying5 enc W true n7 _ _ hz7
  obtain rfl := (List.cons.inj e7).1
  obtain ⟨n8, z8, hz8⟩ := hall 8 _ rfl c8 rfl
  obtain ⟨a8, e8, w8⟩ := opens_int Try.underlying5 enc W true n8 _ _ hz8
  obtain rfl := (List.cons.inj e8).1
  obtain ⟨n9, z9, hz9⟩ := hall 9 _ rfl c9 rfl
  obtain ⟨a9, e9, w9⟩ := opens_int Try.underlying5 enc W true n9 _ _ hz9
  obtain rfl := (List.cons.inj e9).1
  obtain ⟨n10, z10, hz10⟩ := hall 10 _ rfl c10 rfl
  obtain ⟨a10, e10, w10⟩ := opens_int Try.underlying5 enc W true n10 _ _ hz10
  obtain rfl := (List.cons.inj e10).1
  obtain ⟨n11, z11, hz11⟩ := hall 11 _ rfl c11 rfl
  obtain ⟨a11, e11, w11⟩ := opens_int Try.underlying5 enc W true n11 _ _ hz11
  obtain rfl := (List.cons.inj e11).1
  obtain ⟨n12, z12, hz12⟩ := hall 12 _ rfl c12 rfl
  obtain ⟨a12, e12, _⟩ := opens_bool Try.underlying4 enc W true n12 _ _ hz12
  obtain rfl := (List.cons.inj e12).1
  exact ⟨a0, a1, a2, a3, a4, a5, a6, a7, a8, a9, a10, a11, a12, rfl, w0, w1, w2, w3, w4, w5, w6, w7, w8, w9, w10, w11⟩
theorem u8_wf {x : Int} (h : (Lit.int .u8 x).wf = true) : Setup.u8 x := by
  simp only [Lit.wf, Bool.and_eq_true, decide_eq_true_eq] at h
  have hmin : IntKind.u8.min = 0 := rfl
  have hmax : IntKind.u8.max = 255 := rfl
  unfold Setup.u8
  omega
end Go.Proofs.Ytoapbppjkidgiaa.Opens
