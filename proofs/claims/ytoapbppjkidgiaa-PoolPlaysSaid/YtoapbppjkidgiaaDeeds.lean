/- Deeds: a slice of deeds, how it is read; room, Tight. Conditions: none. -/
import Derived.Test.YtoapbppjkidgiaaRefPool10
import Derived.Test.YtoapbppjkidgiaaRefPool4
import Derived.Test.YtoapbppjkidgiaaOpens
namespace Go.Proofs.Ytoapbppjkidgiaa.Pool
open Go.RowKit Go.Proofs.YtoapbppjkidgiaaW.PrintWords Go.Proofs.YtoapbppjkidgiaaW.PrintLast Go.Proofs.YtoapbppjkidgiaaW.PrintMore Tape Setup
set_option linter.unusedVariables false
set_option linter.unusedSimpArgs false
set_option maxRecDepth 100000
/-- A deed. -/
structure Deed where
  what : Int
  sub : Int
  index : Int
  block : Int
  time : Int
  b : List Int
def deedK : Kd Deed := Kd.iso (Kd.pair (Kd.int .i64) (Kd.pair (Kd.int .u32) (Kd.pair (Kd.int .i64) (Kd.pair (Kd.int .i64) (Kd.pair (Kd.int .i64) (Kd.slice 5 (Kd.int .u8))))))) (fun x : Deed => (x.what, x.sub, x.index, x.block, x.time, x.b))
theorem deed_open {w : World} {x : Deed} {cs : List Value} (h : deedK.K w x cs) : ∃ A c, cs = [.int .i64 x.what, .int .u32 x.sub, .int .i64 x.index, .int .i64 x.block, .int .i64 x.time, .slice A x.b.length c] ∧ x.b.length ≤ c ∧ (Kd.int .u8).C w A x.b.length x.b := by
  obtain ⟨_, _, rfl, rfl, ⟨_, _, rfl, rfl, ⟨_, _, rfl, rfl, ⟨_, _, rfl, rfl, ⟨_, _, rfl, rfl, ⟨A, c, rfl, h1, h2⟩⟩⟩⟩⟩⟩ := h
  exact ⟨A, c, rfl, h1, h2⟩
theorem opens_deed : Opens.Opens Try.prog 76 deedK (fun x => ∀ y ∈ x.b, (Lit.int .u8 y).wf = true) := by
  intro H enc W held fuel cs y hy
  obtain ⟨hl, hall⟩ := Opens.opens_field Try.underlying76 hy
  have hl6 : cs.length = 6 := hl.trans (by kernel_rfl)
  match cs, hl6, hall with
  | [x0, x1, x2, x3, x4, x5], _, hall =>
    obtain ⟨n0, z0, h0⟩ := hall 0 _ rfl
    obtain ⟨n1, z1, h1⟩ := hall 1 _ rfl
    obtain ⟨n2, z2, h2⟩ := hall 2 _ rfl
    obtain ⟨n3, z3, h3⟩ := hall 3 _ rfl
    obtain ⟨n4, z4, h4⟩ := hall 4 _ rfl
    obtain ⟨n5, z5, h5⟩ := hall 5 _ rfl
    obtain ⟨a0, e0, _⟩ := Opens.opens_int Try.underlying3 enc W held n0 _ _ h0
    obtain ⟨a1, e1, _⟩ := Opens.opens_int Try.underlying38 enc W held n1 _ _ h1
    obtain ⟨a2, e2, _⟩ := Opens.opens_int Try.underlying3 enc W held n2 _ _ h2
    obtain ⟨a3, e3, _⟩ := Opens.opens_int Try.underlying3 enc W held n3 _ _ h3
    obtain ⟨a4, e4, _⟩ := Opens.opens_int Try.underlying2 enc W held n4 _ _ h4
    obtain ⟨a5, ⟨A5, c5, e5, l5, g5⟩, _, w5⟩ := Opens.opens_slice (d := Kd.int .u8) Try.underlying27 (by kernel_rfl) (Opens.opens_int Try.underlying5) enc W held n5 _ _ h5
    obtain rfl := (List.cons.inj e0).1
    obtain rfl := (List.cons.inj e1).1
    obtain rfl := (List.cons.inj e2).1
    obtain rfl := (List.cons.inj e3).1
    obtain rfl := (List.cons.inj e4).1
    obtain rfl := (List.cons.inj e5).1
    exact ⟨⟨a0, a1, a2, a3, a4, a5⟩, ⟨[_], _, rfl, rfl, ⟨[_], _, rfl, rfl, ⟨[_], _, rfl, rfl, ⟨[_], _, rfl, rfl, ⟨[_], _, rfl, rfl, ⟨A5, c5, rfl, l5, g5⟩⟩⟩⟩⟩⟩, w5⟩
/-- how one deed of a slice is read. -/
theorem deed_at {w : World} {A : Option Addr} {l : List Deed} (h : Kd.C deedK w A l.length l) {i : Nat} {x : Deed} (hx : l[i]? = some x) :
    ∃ ad B c, A = some ad ∧ w.cell? (ad.add (i * 6)) = some (.int .i64 x.what) ∧ w.cell? ⟨(ad.add (i * 6)).block, (ad.add (i * 6)).off + 1, none⟩ = some (.int .u32 x.sub) ∧ w.cell? ⟨(ad.add (i * 6)).block, (ad.add (i * 6)).off + 2, none⟩ = some (.int .i64 x.index) ∧ w.cell? ⟨(ad.add (i * 6)).block, (ad.add (i * 6)).off + 3, none⟩ = some (.int .i64 x.block) ∧ w.cell? ⟨(ad.add (i * 6)).block, (ad.add (i * 6)).off + 4, none⟩ = some (.int .i64 x.time) ∧ w.cell? ⟨(ad.add (i * 6)).block, (ad.add (i * 6)).off + 5, none⟩ = some (.slice B x.b.length c) ∧ Kd.C (Kd.int .u8) w B x.b.length x.b := by
  have hi : i < l.length := (List.getElem?_eq_some_iff.1 hx).1
  obtain ⟨ad, c, e, _, hK, hc0⟩ := Kd.C_get h x (i : Int) (by omega) (by omega)
  have e1 : l.getD (i : Int).toNat x = x := by rw [List.getD_eq_getElem?_getD, show (i : Int).toNat = i by omega, hx]; rfl
  rw [e1] at hK
  have hc : ∀ j u, c[j]? = some u → w.cell? (ad.add (i * 6 + j)) = some u := hc0
  obtain ⟨B, c5, rfl, l5, g5⟩ := deed_open hK
  exact ⟨ad, B, c5, e, hc 0 _ rfl, by rw [← add_field _ _ 1 (by omega)]; exact hc 1 _ rfl, by rw [← add_field _ _ 2 (by omega)]; exact hc 2 _ rfl, by rw [← add_field _ _ 3 (by omega)]; exact hc 3 _ rfl, by rw [← add_field _ _ 4 (by omega)]; exact hc 4 _ rfl, by rw [← add_field _ _ 5 (by omega)]; exact hc 5 _ rfl, g5⟩
def roomB (l : List Deed) : Bool := decide (l.length ≤ 150) && l.all (fun x => decide (x.b.length ≤ 300))
set_option maxHeartbeats 2000000 in
theorem room_calls (w : World) (A : Option Addr) (l : List Deed) (c : Nat) (h : Kd.C deedK w A l.length l) :
    Calls Try.prog 46 #[.slice A l.length c] w fun e w' => e = .returned (.bool (roomB l)) ∧ w' = w := by
  have HC := Aside0.mk h
  clear h
  by_cases h1 : l.length ≤ 150
  · have t1 : decide ((150 : Int) < (l.length : Int)) = false := decide_eq_false (by omega)
    have t1c : decide ((l.length : Int) > 150) = false := decide_eq_false (by omega)
    obtain ⟨n, hn⟩ : ∃ n, n = l.length := ⟨_, rfl⟩
    have HN := Aside0.mk hn
    rw [← hn] at t1 t1c h1 ⊢
    clear hn
    go_enter Try.func46, Try.ntmps46
    go_wp2_with fail
    go_loopw [3] (fun x wr => ∃ i : Nat, i ≤ n ∧ x = .int .i64 i ∧ (∀ j y, j < i → l[j]? = some y → y.b.length ≤ 300) ∧ wr = w) (fun x _ => n - (intOf x).toNat)
    case atStart => exact ⟨0, Nat.zero_le _, rfl, fun j y hj => absurd hj (by omega), rfl⟩
    case round =>
      obtain ⟨i, hi, rfl, hall, rfl⟩ := hrel
      have HALL := Aside0.mk hall
      clear hall
      by_cases hlt : i < n
      · obtain ⟨x, hx⟩ : ∃ x, l[i]? = some x := ⟨_, List.getElem?_eq_getElem (show i < l.length by rw [← HN.out]; exact hlt)⟩
        obtain ⟨ad, B, c5, rfl, _, _, _, _, _, c5f, _⟩ := deed_at HC.out hx
        have HX := Aside0.mk hx
        have hidx : (0 : Int) ≤ (i : Int) ∧ (i : Int) < (n : Int) := by omega
        clear hx
        by_cases h3 : x.b.length ≤ 300
        · have t3 : decide ((300 : Int) < (x.b.length : Int)) = false := decide_eq_false (by omega)
          have t3c : decide ((x.b.length : Int) > 300) = false := decide_eq_false (by omega)
          go_wp2
          go_roundw
          case rel =>
            refine ⟨i + 1, by omega, by go_num, fun j y hj hy => ?_, by first | trivial | rfl⟩
            by_cases e : j = i
            · subst e
              rw [HX.out] at hy
              cases hy
              exact h3
            · exact HALL.out j y (by omega) hy
          case measure => simp [intOf]; omega
        · have t3 : decide ((300 : Int) < (x.b.length : Int)) = true := decide_eq_true (by omega)
          have t3c : decide ((x.b.length : Int) > 300) = true := decide_eq_true (by omega)
          go_wp2
          go_ret
          refine ⟨?_, rfl⟩
          have e : roomB l = false := by
            unfold roomB
            rw [Bool.and_eq_false_iff]
            refine .inr (Bool.eq_false_iff.2 (fun hall => ?_))
            have := List.all_eq_true.1 hall x (List.mem_of_getElem? HX.out)
            exact h3 (of_decide_eq_true this)
          rw [e]
          rfl
      · obtain rfl : i = n := by omega
        go_wp2
        go_ret
        refine ⟨?_, rfl⟩
        have e : roomB l = true := by
          unfold roomB
          rw [Bool.and_eq_true]
          refine ⟨decide_eq_true (by rw [← HN.out]; exact h1), List.all_eq_true.2 (fun x hx => ?_)⟩
          obtain ⟨j, hj⟩ := List.getElem?_of_mem hx
          have hjl : j < l.length := (List.getElem?_eq_some_iff.1 hj).1
          exact decide_eq_true (HALL.out j x (by rw [HN.out]; exact hjl) hj)
        rw [e]
        rfl
  · have t1 : decide ((150 : Int) < (l.length : Int)) = true := decide_eq_true (by omega)
    have t1c : decide ((l.length : Int) > 150) = true := decide_eq_true (by omega)
    have e : roomB l = false := by unfold roomB; rw [decide_eq_false h1]; rfl
    rw [e]
    clear e
    go_enter Try.func46, Try.ntmps46
    go_wp2
    go_ret
    exact ⟨rfl, rfl⟩
def tightB (C : Cfg) : Bool := !C.good || decide (C.count ≤ 600)
set_option maxHeartbeats 2000000 in
theorem tight_calls (w : World) (cs : Array Value) (C : Cfg) (h : IsCfg w cs C) :
    Calls Try.prog 45 #[.agg cs] w fun e w' => e = .returned (.bool (tightB C)) ∧ Below w.heap.size w w' := by
  have HC := Aside0.mk h
  have HK := Aside0.mk (heap_alloc_new w (.cells cs 41))
  clear h
  cases hg : C.good with
  | false =>
    have he : (C.chk != 0) = true := by unfold Cfg.good at hg; simp only [bne, hg]; rfl
    have e1 : tightB C = true := by unfold tightB; rw [hg]; rfl
    rw [e1]
    clear e1 hg
    go_enter Try.func45, Try.ntmps45
    go_wp2_with (first
      | ((with_reducible refine gate_dst (N := 3) rfl ?_); refine wpList_load_row rfl 41 (.tmp 1) rfl w.heap.size rfl 41 cs (0, 0) _ HK.out Try.underlying41 rfl HC.out.info ?_)
      | (go_at_call 23; refine (rcheck_calls _ cs C (HC.out.below (below_alloc (Below.refl _ _) _))).mono ?_; rintro e w' ⟨rfl, hb⟩; have HB := Aside0.mk (below_then (below_alloc (Below.refl _ w) (.cells cs 41)) (by simp) hb); clear hb))
    go_ret
    exact ⟨rfl, HB.out⟩
  | true =>
    have he : (C.chk != 0) = false := by unfold Cfg.good at hg; simp only [bne, hg]; rfl
    have e1 : tightB C = decide (C.count ≤ 600) := by unfold tightB; rw [hg]; rfl
    rw [e1]
    clear e1 hg
    go_enter Try.func45, Try.ntmps45
    go_wp2_with (first
      | ((with_reducible refine gate_dst (N := 3) rfl ?_); refine wpList_load_row rfl 41 (.tmp 1) rfl w.heap.size rfl 41 cs (0, 0) _ HK.out Try.underlying41 rfl HC.out.info ?_)
      | (go_at_call 23; refine (rcheck_calls _ cs C (HC.out.below (below_alloc (Below.refl _ _) _))).mono ?_; rintro e w1 ⟨rfl, hb⟩; have HB := Aside0.mk (below_then (below_alloc (Below.refl _ w) (.cells cs 41)) (by simp) hb); have HK1 := Aside0.mk (blk_below HK.out hb); clear hb)
      | (refine gate_guard (by rfl) ?_; (with_reducible refine gate_dst (N := 7) rfl ?_); refine wpList_load_row rfl 41 (.tmp 1) rfl w.heap.size rfl 41 cs (0, 0) _ HK1.out Try.underlying41 rfl HC.out.info ?_)
      | (go_at_call 34; refine (rcount_calls _ cs C (HC.out.below HB.out)).mono ?_; rintro e w2 ⟨rfl, hb⟩; have HB2 := Aside0.mk (below_then HB.out HB.out.size hb); clear hb))
    go_ret
    exact ⟨rfl, HB2.out⟩
end Go.Proofs.Ytoapbppjkidgiaa.Pool
