/- PoolPlays: PoolPlays's walk, of any configuration and deeds. Conditions: the numbers are of their kinds. -/
import Derived.Test.YtoapbppjkidgiaaDeeds
namespace Go.Proofs.Ytoapbppjkidgiaa.Pool
open Go.RowKit Go.Proofs.YtoapbppjkidgiaaW.PrintWords Go.Proofs.YtoapbppjkidgiaaW.PrintLast Go.Proofs.YtoapbppjkidgiaaW.PrintMore Tape Setup
set_option linter.unusedVariables false
set_option linter.unusedSimpArgs false
set_option maxRecDepth 100000
theorem z0_nz : (fun _ _ => z0 : Nat → Nat → Blk) = nzm (fun _ _ => m0) := by funext i j; rfl
set_option maxHeartbeats 64000000 in
theorem plays_calls (w : World) (cs : Array Value) (C : Cfg) (A : Option Addr) (l : List Deed) (c : Nat) (hC : IsCfg w cs C) (hl : Kd.C deedK w A l.length l) (hw : ∀ x ∈ l, ∀ y ∈ x.b, (Lit.int .u8 y).wf = true) :
    Calls Try.prog 13 #[.agg cs, .slice A l.length c] w fun e w' => e = .returned (.bool true) ∧ Below w.heap.size w w' := by
  have HC := Aside0.mk hC
  have HD := Aside0.mk hl
  have HW := Aside0.mk hw
  have HK := Aside0.mk (heap_alloc_new w (.cells cs 41))
  have E3 : ∃ A c, cs[3]? = some (.slice A C.outer.length c) := by
    obtain ⟨_, A, c, hcs, _⟩ := hC
    exact ⟨A, c, by rw [hcs]; rfl⟩
  obtain ⟨A3, c3, E3⟩ := E3
  have HE3 := Aside0.mk E3
  clear hC hl hw E3
  go_enter Try.func13, Try.ntmps13
  go_wp2_with fail
  refine (awake15_calls _).mono ?_
  rintro e w0 ⟨rfl, hb⟩
  have HB0 := Aside0.mk (below_then (below_alloc (Below.refl _ w) (.cells cs 41)) (by simp) hb)
  have HK0 := Aside0.mk (blk_below HK.out hb)
  have k3 : w0.cell? ⟨w.heap.size, 3, none⟩ = some (.slice A3 C.outer.length c3) := (blk_cell HK0.out 3).trans HE3.out
  clear hb
  by_cases h1 : 100 < C.outer.length
  · have t1 : decide ((100 : Int) < (C.outer.length : Int)) = true := decide_eq_true (by omega)
    have t1c : decide ((C.outer.length : Int) > 100) = true := decide_eq_true (by omega)
    go_wp2
    go_ret
    exact ⟨rfl, HB0.out⟩
  have t1 : decide ((100 : Int) < (C.outer.length : Int)) = false := decide_eq_false (by omega)
  have t1c : decide ((C.outer.length : Int) > 100) = false := decide_eq_false (by omega)
  cases ht : tightB C with
  | false =>
    have HTI := Aside0.mk ht
    clear ht
    go_wp2_with (first
      | (refine gate_guard (by rfl) ?_; ((with_reducible refine gate_dst (N := 31) rfl ?_); refine wpList_load_row rfl 41 (.tmp 2) rfl w.heap.size rfl 41 cs (0, 0) _ HK0.out Try.underlying41 rfl HC.out.info ?_))
      | (go_at_call 45; refine (tight_calls _ cs C (HC.out.below HB0.out)).mono ?_; rintro e w1 ⟨rfl, hb⟩; rw [HTI.out]; have HB1 := Aside0.mk (below_then HB0.out HB0.out.size hb); clear hb))
    go_ret
    exact ⟨rfl, HB1.out⟩
  | true =>
    cases hr : roomB l with
    | false =>
      have HTI := Aside0.mk ht
      have HRM := Aside0.mk hr
      clear ht hr
      go_wp2_with (first
        | (refine gate_guard (by rfl) ?_; ((with_reducible refine gate_dst (N := 31) rfl ?_); refine wpList_load_row rfl 41 (.tmp 2) rfl w.heap.size rfl 41 cs (0, 0) _ HK0.out Try.underlying41 rfl HC.out.info ?_))
        | (go_at_call 45; refine (tight_calls _ cs C (HC.out.below HB0.out)).mono ?_; rintro e w1 ⟨rfl, hb⟩; rw [HTI.out]; have HB1 := Aside0.mk (below_then HB0.out HB0.out.size hb); clear hb)
        | (go_at_call 46; refine (room_calls _ A l c (Kd.C_below HD.out HB1.out)).mono ?_; rintro e w2 ⟨rfl, hw2⟩; obtain rfl := hw2; rw [HRM.out]))
      go_ret
      exact ⟨rfl, HB1.out⟩
    | true =>
      have HTI := Aside0.mk ht
      have HRM := Aside0.mk hr
      clear ht hr
      go_wp2_with (first
        | (refine gate_guard (by rfl) ?_; ((with_reducible refine gate_dst (N := 31) rfl ?_); refine wpList_load_row rfl 41 (.tmp 2) rfl w.heap.size rfl 41 cs (0, 0) _ HK0.out Try.underlying41 rfl HC.out.info ?_))
        | (go_at_call 45; refine (tight_calls _ cs C (HC.out.below HB0.out)).mono ?_; rintro e w1 ⟨rfl, hb⟩; rw [HTI.out]; have HB1 := Aside0.mk (below_then HB0.out HB0.out.size hb); have HK1 := Aside0.mk (blk_below HK0.out hb); clear hb)
        | (go_at_call 46; refine (room_calls _ A l c (Kd.C_below HD.out HB1.out)).mono ?_; rintro e w2 ⟨rfl, hw2⟩; obtain rfl := hw2.symm; rw [HRM.out])
        | ((with_reducible refine gate_dst (N := 41) rfl ?_); refine wpList_load_row rfl 41 (.tmp 2) rfl w.heap.size rfl 41 cs (0, 0) _ HK1.out Try.underlying41 rfl HC.out.info ?_))
      clear k3 t1 t1c h1
      cases hg : C.good with
      | false =>
        have HGD := Aside0.mk hg
        clear hg
        refine (pnew_bad _ cs C (HC.out.below HB1.out) HGD.out).mono ?_
        rintro e w2 ⟨rfl, hb⟩
        have HB2 := Aside0.mk (below_then HB1.out HB1.out.size hb)
        have HK2 := Aside0.mk (blk_below HK1.out hb)
        clear hb
        go_wp2_with ((with_reducible refine gate_dst (N := 46) rfl ?_); refine wpList_load_row rfl 41 (.tmp 2) rfl w.heap.size rfl 41 cs (0, 0) _ HK2.out Try.underlying41 rfl HC.out.info ?_)
        refine (rnew_bad _ cs C (HC.out.below HB2.out) HGD.out).mono ?_
        rintro e w3 ⟨rfl, hb⟩
        have HB3 := Aside0.mk (below_then HB2.out HB2.out.size hb)
        clear hb
        go_wp2
        go_ret
        exact ⟨rfl, HB3.out⟩
      | true =>
        have HGD := Aside0.mk hg
        clear hg
        refine (pnew_good _ cs C (HC.out.below HB1.out) HGD.out).mono ?_
        rintro e w2 ⟨g, ga, gs, rfl, hb, hp, g1, g2, g3⟩
        have HB2 := Aside0.mk (below_then HB1.out HB1.out.size hb)
        have HK2 := Aside0.mk (blk_below HK1.out hb)
        obtain ⟨k, hk⟩ : ∃ k, k = C.outer.length := ⟨_, rfl⟩
        obtain ⟨N, hN⟩ : ∃ N, N = C.count.toNat := ⟨_, rfl⟩
        obtain ⟨H, hH⟩ : ∃ H, H = C.hold := ⟨_, rfl⟩
        have HKNH := Aside0.mk (And.intro hk (And.intro hN hH))
        rw [← hk, ← hN, ← hH] at hp
        rw [← hk] at g3
        have HP2 := Aside0.mk hp
        have HGS : Aside0 (∀ i, i < k → w.heap.size ≤ gs i) := ⟨fun i hi => Nat.le_trans HB1.out.size (g3 i hi)⟩
        clear hb hp g1 g2 g3 hk hN hH
        go_wp2_with ((with_reducible refine gate_dst (N := 46) rfl ?_); refine wpList_load_row rfl 41 (.tmp 2) rfl w.heap.size rfl 41 cs (0, 0) _ HK2.out Try.underlying41 rfl HC.out.info ?_)
        refine (rnew_good _ cs C (HC.out.below HB2.out) HGD.out).mono ?_
        rintro e w3 ⟨q, qb, rfl, hb, hp, g1, g2⟩
        rw [← HKNH.out.1, ← HKNH.out.2.1, ← HKNH.out.2.2, z0_nz] at hp
        have HB3 := Aside0.mk (below_then HB2.out HB2.out.size hb)
        have HP3 := Aside0.mk (HP2.out.below hb)
        have HR3 := Aside0.mk hp
        have HQB : Aside0 (w2.heap.size ≤ qb) := ⟨g2⟩
        clear hb hp g1 g2
        go_wp2_with fail
        refine (new_step _).mono ?_
        rintro e w4 ⟨rfl, ht, hb, hA⟩
        have HTW := Aside0.mk (Two.start HB3.out hb ht hA)
        have HAA : Aside0 (∀ x, Arr (w4.alloc (.cells #[.slice none 0 0] 34)) w3.heap.size x → False) := ⟨fun x ⟨n, c', ad, h1, h2⟩ => hA x ⟨n, c', ad, by
          have hlt := TapeSt.lt' ht
          rw [← h1]
          exact (World.cell?_of_block (a := ⟨w3.heap.size, 1, none⟩) (Below.heap_alloc w4 _ _ hlt)).symm, h2⟩⟩
        have HP4 := Aside0.mk ((HP3.out.below hb).below (below_alloc (Below.refl _ _) (.cells #[.slice none 0 0] 34)))
        have HR4 := Aside0.mk ((HR3.out.below hb).below (below_alloc (Below.refl _ _) (.cells #[.slice none 0 0] 34)))
        obtain ⟨p, hp⟩ : ∃ p, p = w3.heap.size := ⟨_, rfl⟩
        obtain ⟨tq, htq⟩ : ∃ q, q = w4.heap.size := ⟨_, rfl⟩
        have HSZ : Aside0 (w3.heap.size ≤ w4.heap.size) := ⟨hb.size⟩
        have hgal : ga < w2.heap.size := by
          obtain ⟨_, hr0⟩ := HP2.out.row 0 HP2.out.nk.1
          exact World.block_lt_of_cell? _ _ hr0
        have HST : Aside0 (Both w (w4.alloc (.cells #[.slice none 0 0] 34)) g ga gs k N H (fun _ _ => m0) q qb (nzm (fun _ _ => m0)) p tq (.slice none 0 0) [] []) := ⟨by
          refine ⟨HP4.out, HR4.out, by rw [hp, htq]; exact HTW.out, ⟨HGS.out, Nat.le_trans HB2.out.size HQB.out⟩, fun x hx => ?_, ?_, ?_, ?_⟩
          · rw [hp] at hx
            exact (HAA.out x hx).elim
          · have h2 := HB3.out.size
            have h3 := HSZ.out
            rw [htq]
            have h4 : w2.heap.size ≤ w3.heap.size := by
              obtain ⟨cs2, hh2, _⟩ := HR3.out.head
              obtain ⟨L, hL, _⟩ := HR3.out.blk
              have := blk_lt hL
              have := HQB.out
              omega
            omega
          · have := HQB.out
            omega
          · intro e
            cases e⟩
        rw [← hp]
        clear ht hb hA hp hgal
        go_wp2
        rw [← htq]
        clear htq
        go_loopw [11] (fun z wr => ∃ (i : Nat) (m : Nat → Nat → Blk) (v : Value) (a : List Int), i ≤ l.length ∧ z = .int .i64 i ∧ Both w wr g ga gs k N H m q qb (nzm m) p tq v a a) (fun z _ => l.length - (intOf z).toNat)
        case atStart => exact ⟨0, _, _, _, Nat.zero_le _, rfl, HST.out⟩
        case round =>
          obtain ⟨i, m, v, a, hi, rfl, hst⟩ := hrel
          have HS := Aside0.mk hst
          have hnl : l.length ≤ 150 := by
            have h2 := HRM.out
            unfold roomB at h2
            rw [Bool.and_eq_true] at h2
            exact of_decide_eq_true h2.1
          clear hst
          by_cases hlt : i < l.length
          · obtain ⟨x, hx⟩ : ∃ x, l[i]? = some x := ⟨_, List.getElem?_eq_getElem hlt⟩
            obtain ⟨ad, B, c5, rfl, d0, d1, d2, d3, d4, d5, hBC⟩ := deed_at HD.out hx
            have HBC := Aside0.mk hBC
            have HBW := Aside0.mk (bytes_wf (HW.out x (List.mem_of_getElem? hx)))
            have mv : ∀ {a : Addr} {u : Value}, w.cell? a = some u → wr.cell? a = some u := fun {a u} h => (HS.out.two.hb.cell (World.block_lt_of_cell? _ _ h)).trans h
            replace d0 := mv d0
            replace d1 := mv d1
            replace d2 := mv d2
            replace d3 := mv d3
            replace d4 := mv d4
            replace d5 := mv d5
            have hidx : (0 : Int) ≤ (i : Int) ∧ (i : Int) < (l.length : Int) := by omega
            have HO := Aside0.mk (HS.out.below (below_alloc (Below.refl _ wr) (.cells #[.int .i64 x.what, .int .u32 x.sub, .int .i64 x.index, .int .i64 x.block, .int .i64 x.time, .slice B x.b.length c5] 76)))
            have KO := Aside0.mk (heap_alloc_new wr (.cells #[.int .i64 x.what, .int .u32 x.sub, .int .i64 x.index, .int .i64 x.block, .int .i64 x.time, .slice B x.b.length c5] 76))
            clear hx hBC mv
            by_cases z2 : x.what ≤ 2
            · have t2 : decide (x.what ≤ 2) = true := decide_eq_true z2
              as_aux_lemma =>
                go_wp2_with fail
                refine (give_calls _ g ga gs k N H m x.index x.block x.time x.sub HO.out.ps).mono ?_
                rintro e w5 ⟨rfl, hp5, hc5⟩
                have K5 : Aside0 (w5.heap[wr.heap.size]? = some (.cells #[.int .i64 x.what, .int .u32 x.sub, .int .i64 x.index, .int .i64 x.block, .int .i64 x.time, .slice B x.b.length c5] 76 (0, 0))) := ⟨(hc5.block _ (blk_lt KO.out) (fun ⟨j, hj, e⟩ => by obtain ⟨L, hL, _⟩ := HO.out.ps.blk j hj; exact blk_ne KO.out hL (by decide) e)).trans KO.out⟩
                have H5 := Aside0.mk (HO.out.pool hp5 hc5)
                have e1 : w5.cell? ⟨wr.heap.size, 1, none⟩ = some (.int .u32 x.sub) := (blk_cell K5.out 1).trans rfl
                have e2 : w5.cell? ⟨wr.heap.size, 2, none⟩ = some (.int .i64 x.index) := (blk_cell K5.out 2).trans rfl
                have e3 : w5.cell? ⟨wr.heap.size, 3, none⟩ = some (.int .i64 x.block) := (blk_cell K5.out 3).trans rfl
                have e4 : w5.cell? ⟨wr.heap.size, 4, none⟩ = some (.int .i64 x.time) := (blk_cell K5.out 4).trans rfl
                have e5 : w5.cell? ⟨wr.heap.size, 5, none⟩ = some (.slice B x.b.length c5) := (blk_cell K5.out 5).trans rfl
                clear hp5 hc5
                go_wp2_with fail
                refine (rgive_calls _ q qb k N H (nzm m) x.index x.block x.time x.sub H5.out.rp).mono ?_
                rintro e w6 ⟨rfl, hp6, hc6⟩
                rw [tkE_nz]
                rw [tkM_nz] at hp6
                have KZ : Aside0 (w6.heap[wr.heap.size]? = some (.cells #[.int .i64 x.what, .int .u32 x.sub, .int .i64 x.index, .int .i64 x.block, .int .i64 x.time, .slice B x.b.length c5] 76 (0, 0))) := ⟨(hc6.block _ (blk_lt K5.out) (fun e => by obtain ⟨L, hL, _⟩ := H5.out.rp.blk; exact blk_ne K5.out hL (by decide) e)).trans K5.out⟩
                have HZ := Aside0.mk (H5.out.refp hp6 hc6)
                obtain ⟨m2, hm2⟩ : ∃ z, z = tkM k N m x.index x.block x.time 1 x.sub := ⟨_, rfl⟩
                obtain ⟨ee, hee⟩ : ∃ z, z = tkE k N m x.index x.block x.time := ⟨_, rfl⟩
                rw [← hm2] at HZ
                rw [← hee]
                have hee2 : (ee == ee) = true := beq_self_eq_true ee
                clear hp6 hc6 hm2 hee H5 K5 e1 e2 e3 e4 e5
                obtain ⟨Aq, cq, hvq, hcq, hrq⟩ := Kd.Q_reads HZ.out.two.hr.2.1
                have HZD := Aside0.mk (HZ.out.below (below_drew (Below.refl _ (w6))))
                have HQ0 : Aside0 ((w6).drew.cell? ⟨tq, 0, none⟩ = some (.slice Aq a.length cq)) := ⟨(blk_cell HZ.out.two.hr.1 0).trans (by rw [hvq]; rfl)⟩
                clear hvq hcq hrq
                go_wp2_with fail
                refine start_ (n := 19) (S := fun w' => w'.cell? ⟨tq, 0, none⟩ = some (.slice Aq a.length cq) ∧ w'.heap[wr.heap.size]? = some (.cells #[.int .i64 x.what, .int .u32 x.sub, .int .i64 x.index, .int .i64 x.block, .int .i64 x.time, .slice B x.b.length c5] 76 (0, 0))) (ds := []) #[false, false, false, false, false, false, false, false, false, false, false, false, false, false, false, false, false, false, false] (by kernel_rfl) rfl rfl ⟨HQ0.out, KZ.out⟩ (fun hHeld => ?_)
                refine pure_ (i := 0) (N := some 209) (v := ?_) (a' := ?_) #[true, false, false, false, false, false, false, false, false, false, false, false, false, false, false, false, false, false, false] rfl rfl (by kernel_rfl) (fun _ _ _ h => h) (Or.inl ⟨by rfl, ?_⟩) ?_ ?_
                rotate_left
                · intro w'
                  go_simp
                  with_reducible rfl
                rotate_left
                · simp only [Act.put, List.setIfInBounds_toArray, List.set_cons_zero, List.set_cons_succ, i64_w, i32_w]
                  rfl
                refine pure_ (i := 1) (N := some 210) (v := ?_) (a' := ?_) #[true, true, false, false, false, false, false, false, false, false, false, false, false, false, false, false, false, false, false] rfl rfl (by kernel_rfl) (fun _ _ _ h => h) (Or.inl ⟨by rfl, ?_⟩) ?_ ?_
                rotate_left
                · intro w'
                  go_simp
                  with_reducible rfl
                rotate_left
                · simp only [Act.put, List.setIfInBounds_toArray, List.set_cons_zero, List.set_cons_succ, i64_w, i32_w]
                  rfl
                refine pure_ (i := 2) (N := some 211) (v := ?_) (a' := ?_) #[true, true, true, false, false, false, false, false, false, false, false, false, false, false, false, false, false, false, false] rfl rfl (by kernel_rfl) (fun _ _ _ h => h) (Or.inl ⟨by rfl, ?_⟩) ?_ ?_
                rotate_left
                · intro w'
                  go_simp
                  with_reducible rfl
                rotate_left
                · simp only [Act.put, List.setIfInBounds_toArray, List.set_cons_zero, List.set_cons_succ, i64_w, i32_w]
                  rfl
                refine pure_ (i := 3) (N := some 212) (v := ?_) (a' := ?_) #[true, true, true, true, false, false, false, false, false, false, false, false, false, false, false, false, false, false, false] rfl rfl (by kernel_rfl) (fun _ _ _ h => h) (Or.inl ⟨by rfl, ?_⟩) ?_ ?_
                rotate_left
                · intro w'
                  go_simp
                  with_reducible rfl
                rotate_left
                · simp only [Act.put, List.setIfInBounds_toArray, List.set_cons_zero, List.set_cons_succ, i64_w, i32_w]
                  rfl
                refine pure_ (i := 5) (N := some 214) (v := ?_) (a' := ?_) #[true, true, true, true, false, true, false, false, false, false, false, false, false, false, false, false, false, false, false] rfl rfl (by kernel_rfl) (fun _ _ _ h => h) (Or.inl ⟨by rfl, ?_⟩) ?_ ?_
                rotate_left
                · intro w'
                  go_simp
                  with_reducible rfl
                rotate_left
                · simp only [Act.put, List.setIfInBounds_toArray, List.set_cons_zero, List.set_cons_succ, i64_w, i32_w]
                  rfl
                refine pure_ (i := 6) (N := some 215) (v := ?_) (a' := ?_) #[true, true, true, true, false, true, true, false, false, false, false, false, false, false, false, false, false, false, false] rfl rfl (by kernel_rfl) (fun _ _ _ h => h) (Or.inl ⟨by rfl, ?_⟩) ?_ ?_
                rotate_left
                · intro w'
                  go_simp
                  with_reducible rfl
                rotate_left
                · simp only [Act.put, List.setIfInBounds_toArray, List.set_cons_zero, List.set_cons_succ, i64_w, i32_w]
                  rfl
                refine pure_ (i := 7) (N := some 216) (v := ?_) (a' := ?_) #[true, true, true, true, false, true, true, true, false, false, false, false, false, false, false, false, false, false, false] rfl rfl (by kernel_rfl) (fun _ _ _ h => h) (Or.inl ⟨by rfl, ?_⟩) ?_ ?_
                rotate_left
                · intro w'
                  go_simp
                  with_reducible rfl
                rotate_left
                · simp only [Act.put, List.setIfInBounds_toArray, List.set_cons_zero, List.set_cons_succ, i64_w, i32_w]
                  rfl
                refine take_ (i := 8) (N := some 217) (v := ?_) (a' := ?_) #[true, true, true, true, false, true, true, true, true, false, false, false, false, false, false, false, false, false, false] rfl rfl (by kernel_rfl) (fun _ _ _ h => h) (Or.inl ⟨by rfl, ?_⟩) hHeld ?_ ?_
                rotate_left
                · rintro w' ⟨s0, s1⟩
                  go_simp
                  with_reducible rfl
                rotate_left
                · simp only [Act.put, List.setIfInBounds_toArray, List.set_cons_zero, List.set_cons_succ, i64_w, i32_w]
                  rfl
                refine pure_ (i := 9) (N := some 218) (v := ?_) (a' := ?_) #[true, true, true, true, false, true, true, true, true, true, false, false, false, false, false, false, false, false, false] rfl rfl (by kernel_rfl) (fun _ _ _ h => h) (Or.inl ⟨by rfl, ?_⟩) ?_ ?_
                rotate_left
                · intro w'
                  go_simp
                  with_reducible rfl
                rotate_left
                · simp only [Act.put, List.setIfInBounds_toArray, List.set_cons_zero, List.set_cons_succ, i64_w, i32_w]
                  rfl
                refine one_ (i := 4) (N := some 213) #[true, true, true, true, true, true, true, true, true, true, false, false, false, false, false, false, false, false, false] rfl rfl (by kernel_rfl) (by decide) (fun K hK => ?_)
                refine goes_ Try.func17 (by kernel_rfl) rfl #[.pointer (some ⟨p, 0, none⟩)] (by rfl) rfl rfl (by simp only [List.map_toArray, List.map_cons, List.map_nil]; rfl) ?_
                with_reducible refine (left_calls _ p a HZD.out.two.ht).mono ?_
                rintro e w91 ⟨rfl, hw⟩
                refine ⟨_, rfl, ?_⟩
                obtain rfl := hw
                refine hK.out _ _ ⟨HQ0.out, KZ.out⟩ (fun hHeld => ?_)
                clear hK K
                refine norm_ (a' := ?_) ?_ ?_
                rotate_left
                · show Act.put _ (some 213) _ = _
                  simp only [Act.put, List.setIfInBounds_toArray, List.set_cons_zero, List.set_cons_succ, i64_w, i32_w]
                  rfl
                refine pure_ (i := 10) (N := some 219) (v := ?_) (a' := ?_) #[true, true, true, true, true, true, true, true, true, true, true, false, false, false, false, false, false, false, false] rfl rfl (by kernel_rfl) (fun _ _ _ h => h) (Or.inl ⟨by rfl, ?_⟩) ?_ ?_
                rotate_left
                · intro w'
                  go_simp
                  with_reducible rfl
                rotate_left
                · simp only [Act.put, List.setIfInBounds_toArray, List.set_cons_zero, List.set_cons_succ, i64_w, i32_w]
                  rfl
                refine pure_ (i := 11) (N := some 220) (v := ?_) (a' := ?_) #[true, true, true, true, true, true, true, true, true, true, true, true, false, false, false, false, false, false, false] rfl rfl (by kernel_rfl) (fun _ _ _ h => h) (Or.inl ⟨by rfl, ?_⟩) ?_ ?_
                rotate_left
                · intro w'
                  go_simp
                  with_reducible rfl
                rotate_left
                · simp only [Act.put, List.setIfInBounds_toArray, List.set_cons_zero, List.set_cons_succ, i64_w, i32_w]
                  rfl
                refine pure_ (i := 12) (N := some 221) (v := ?_) (a' := ?_) #[true, true, true, true, true, true, true, true, true, true, true, true, true, false, false, false, false, false, false] rfl rfl (by kernel_rfl) (fun _ _ _ h => h) (Or.inl ⟨by rfl, ?_⟩) ?_ ?_
                rotate_left
                · intro w'
                  go_simp
                  with_reducible rfl
                rotate_left
                · simp only [Act.put, List.setIfInBounds_toArray, List.set_cons_zero, List.set_cons_succ, i64_w, i32_w]
                  rfl
                refine pure_ (i := 13) (N := some 222) (v := ?_) (a' := ?_) #[true, true, true, true, true, true, true, true, true, true, true, true, true, true, false, false, false, false, false] rfl rfl (by kernel_rfl) (fun _ _ _ h => h) (Or.inl ⟨by rfl, ?_⟩) ?_ ?_
                rotate_left
                · intro w'
                  go_simp
                  with_reducible rfl
                rotate_left
                · simp only [Act.put, List.setIfInBounds_toArray, List.set_cons_zero, List.set_cons_succ, i64_w, i32_w]
                  rfl
                refine pure_ (i := 14) (N := some 223) (v := ?_) (a' := ?_) #[true, true, true, true, true, true, true, true, true, true, true, true, true, true, true, false, false, false, false] rfl rfl (by kernel_rfl) (fun _ _ _ h => h) (Or.inl ⟨by rfl, ?_⟩) ?_ ?_
                rotate_left
                · intro w'
                  go_simp
                  with_reducible rfl
                rotate_left
                · simp only [Act.put, List.setIfInBounds_toArray, List.set_cons_zero, List.set_cons_succ, i64_w, i32_w]
                  rfl
                refine take_ (i := 15) (N := some 224) (v := .agg #[.int .i64 x.what, .int .u32 x.sub, .int .i64 x.index, .int .i64 x.block, .int .i64 x.time, .slice B x.b.length c5]) (a' := ?_) #[true, true, true, true, true, true, true, true, true, true, true, true, true, true, true, true, false, false, false] rfl rfl (by kernel_rfl) (fun _ _ _ h => h) (Or.inl ⟨by rfl, fun w1 s0 => exec_load_row 76 (.tmp 12) rfl wr.heap.size rfl 76 _ (0, 0) _ s0.2 Try.underlying76 rfl (by kernel_rfl)⟩) hHeld ?_ ?_
                rotate_left
                · simp only [Act.put, List.setIfInBounds_toArray, List.set_cons_zero, List.set_cons_succ, i64_w, i32_w]
                  rfl
                refine one_ (i := 16) (N := some 225) #[true, true, true, true, true, true, true, true, true, true, true, true, true, true, true, true, true, false, false] rfl rfl (by kernel_rfl) (by decide) (fun K hK => ?_)
                refine goes_ Try.func56 (by kernel_rfl) rfl #[.pointer (some ⟨g, 0, none⟩), .pointer (some ⟨q, 0, none⟩), .agg #[.int .i64 x.what, .int .u32 x.sub, .int .i64 x.index, .int .i64 x.block, .int .i64 x.time, .slice B x.b.length c5]] (by rfl) rfl rfl (by simp only [List.map_toArray, List.map_cons, List.map_nil]; rfl) ?_
                with_reducible refine (looks_calls _ g ga gs k N H m2 q qb x.what x.sub x.index x.block x.time B x.b.length c5 HZD.out.ps HZD.out.rp).mono ?_
                rintro e w92 ⟨rfl, hb⟩
                refine ⟨_, rfl, ?_⟩
                have HZ2 := Aside0.mk (HZD.out.below hb)
                have KZ2 := Aside0.mk (blk_below (show (w6).drew.heap[wr.heap.size]? = _ from KZ.out) hb)
                have HQ2 := Aside0.mk ((hb.cell (World.block_lt_of_cell? _ _ HQ0.out)).trans HQ0.out)
                clear hb
                refine hK.out _ _ ⟨HQ2.out, KZ2.out⟩ (fun hHeld => ?_)
                clear hK K
                refine norm_ (a' := ?_) ?_ ?_
                rotate_left
                · show Act.put _ (some 225) _ = _
                  simp only [Act.put, List.setIfInBounds_toArray, List.set_cons_zero, List.set_cons_succ, i64_w, i32_w]
                  rfl
                refine pure_ (i := 17) (N := some 226) (v := ?_) (a' := ?_) #[true, true, true, true, true, true, true, true, true, true, true, true, true, true, true, true, true, true, false] rfl rfl (by kernel_rfl) (fun _ _ _ h => h) (Or.inl ⟨by rfl, ?_⟩) ?_ ?_
                rotate_left
                · intro w'
                  go_simp
                  with_reducible rfl
                rotate_left
                · simp only [Act.put, List.setIfInBounds_toArray, List.set_cons_zero, List.set_cons_succ, i64_w, i32_w]
                  rfl
                refine pure_ (i := 18) (N := some 227) (v := ?_) (a' := ?_) #[true, true, true, true, true, true, true, true, true, true, true, true, true, true, true, true, true, true, true] rfl rfl (by kernel_rfl) (fun _ _ _ h => h) (Or.inl ⟨by rfl, ?_⟩) ?_ ?_
                rotate_left
                · intro w'
                  go_simp
                  with_reducible rfl
                rotate_left
                · simp only [Act.put, List.setIfInBounds_toArray, List.set_cons_zero, List.set_cons_succ, i64_w, i32_w]
                  rfl
                refine done_ (by kernel_rfl) ?_
                go_wp2
                go_roundw
                case rel => exact ⟨i + 1, m2, v, a, by omega, by go_num, HZ2.out⟩
                case measure => simp [intOf]; omega
            · have t2 : decide (x.what ≤ 2) = false := decide_eq_false z2
              by_cases z3 : x.what = 3
              · have t3 : (x.what == 3) = true := by rw [z3]; rfl
                clear z3
                as_aux_lemma =>
                  go_wp2_with fail
                  refine (owe_calls _ g ga gs k N H m x.index x.block x.time HO.out.ps).mono ?_
                  rintro e w5 ⟨rfl, hp5, hc5⟩
                  have K5 : Aside0 (w5.heap[wr.heap.size]? = some (.cells #[.int .i64 x.what, .int .u32 x.sub, .int .i64 x.index, .int .i64 x.block, .int .i64 x.time, .slice B x.b.length c5] 76 (0, 0))) := ⟨(hc5.block _ (blk_lt KO.out) (fun ⟨j, hj, e⟩ => by obtain ⟨L, hL, _⟩ := HO.out.ps.blk j hj; exact blk_ne KO.out hL (by decide) e)).trans KO.out⟩
                  have H5 := Aside0.mk (HO.out.pool hp5 hc5)
                  have e1 : w5.cell? ⟨wr.heap.size, 1, none⟩ = some (.int .u32 x.sub) := (blk_cell K5.out 1).trans rfl
                  have e2 : w5.cell? ⟨wr.heap.size, 2, none⟩ = some (.int .i64 x.index) := (blk_cell K5.out 2).trans rfl
                  have e3 : w5.cell? ⟨wr.heap.size, 3, none⟩ = some (.int .i64 x.block) := (blk_cell K5.out 3).trans rfl
                  have e4 : w5.cell? ⟨wr.heap.size, 4, none⟩ = some (.int .i64 x.time) := (blk_cell K5.out 4).trans rfl
                  have e5 : w5.cell? ⟨wr.heap.size, 5, none⟩ = some (.slice B x.b.length c5) := (blk_cell K5.out 5).trans rfl
                  clear hp5 hc5
                  go_wp2_with fail
                  refine (rowe_calls _ q qb k N H (nzm m) x.index x.block x.time H5.out.rp).mono ?_
                  rintro e w6 ⟨rfl, hp6, hc6⟩
                  rw [tkE_nz]
                  rw [tkM_nz] at hp6
                  have KZ : Aside0 (w6.heap[wr.heap.size]? = some (.cells #[.int .i64 x.what, .int .u32 x.sub, .int .i64 x.index, .int .i64 x.block, .int .i64 x.time, .slice B x.b.length c5] 76 (0, 0))) := ⟨(hc6.block _ (blk_lt K5.out) (fun e => by obtain ⟨L, hL, _⟩ := H5.out.rp.blk; exact blk_ne K5.out hL (by decide) e)).trans K5.out⟩
                  have HZ := Aside0.mk (H5.out.refp hp6 hc6)
                  obtain ⟨m2, hm2⟩ : ∃ z, z = tkM k N m x.index x.block x.time 2 0 := ⟨_, rfl⟩
                  obtain ⟨ee, hee⟩ : ∃ z, z = tkE k N m x.index x.block x.time := ⟨_, rfl⟩
                  rw [← hm2] at HZ
                  rw [← hee]
                  have hee2 : (ee == ee) = true := beq_self_eq_true ee
                  clear hp6 hc6 hm2 hee H5 K5 e1 e2 e3 e4 e5
                  obtain ⟨Aq, cq, hvq, hcq, hrq⟩ := Kd.Q_reads HZ.out.two.hr.2.1
                  have HZD := Aside0.mk (HZ.out.below (below_drew (Below.refl _ (w6))))
                  have HQ0 : Aside0 ((w6).drew.cell? ⟨tq, 0, none⟩ = some (.slice Aq a.length cq)) := ⟨(blk_cell HZ.out.two.hr.1 0).trans (by rw [hvq]; rfl)⟩
                  clear hvq hcq hrq
                  go_wp2_with fail
                  refine start_ (n := 19) (S := fun w' => w'.cell? ⟨tq, 0, none⟩ = some (.slice Aq a.length cq) ∧ w'.heap[wr.heap.size]? = some (.cells #[.int .i64 x.what, .int .u32 x.sub, .int .i64 x.index, .int .i64 x.block, .int .i64 x.time, .slice B x.b.length c5] 76 (0, 0))) (ds := []) #[false, false, false, false, false, false, false, false, false, false, false, false, false, false, false, false, false, false, false] (by kernel_rfl) rfl rfl ⟨HQ0.out, KZ.out⟩ (fun hHeld => ?_)
                  refine pure_ (i := 0) (N := some 209) (v := ?_) (a' := ?_) #[true, false, false, false, false, false, false, false, false, false, false, false, false, false, false, false, false, false, false] rfl rfl (by kernel_rfl) (fun _ _ _ h => h) (Or.inl ⟨by rfl, ?_⟩) ?_ ?_
                  rotate_left
                  · intro w'
                    go_simp
                    with_reducible rfl
                  rotate_left
                  · simp only [Act.put, List.setIfInBounds_toArray, List.set_cons_zero, List.set_cons_succ, i64_w, i32_w]
                    rfl
                  refine pure_ (i := 1) (N := some 210) (v := ?_) (a' := ?_) #[true, true, false, false, false, false, false, false, false, false, false, false, false, false, false, false, false, false, false] rfl rfl (by kernel_rfl) (fun _ _ _ h => h) (Or.inl ⟨by rfl, ?_⟩) ?_ ?_
                  rotate_left
                  · intro w'
                    go_simp
                    with_reducible rfl
                  rotate_left
                  · simp only [Act.put, List.setIfInBounds_toArray, List.set_cons_zero, List.set_cons_succ, i64_w, i32_w]
                    rfl
                  refine pure_ (i := 2) (N := some 211) (v := ?_) (a' := ?_) #[true, true, true, false, false, false, false, false, false, false, false, false, false, false, false, false, false, false, false] rfl rfl (by kernel_rfl) (fun _ _ _ h => h) (Or.inl ⟨by rfl, ?_⟩) ?_ ?_
                  rotate_left
                  · intro w'
                    go_simp
                    with_reducible rfl
                  rotate_left
                  · simp only [Act.put, List.setIfInBounds_toArray, List.set_cons_zero, List.set_cons_succ, i64_w, i32_w]
                    rfl
                  refine pure_ (i := 3) (N := some 212) (v := ?_) (a' := ?_) #[true, true, true, true, false, false, false, false, false, false, false, false, false, false, false, false, false, false, false] rfl rfl (by kernel_rfl) (fun _ _ _ h => h) (Or.inl ⟨by rfl, ?_⟩) ?_ ?_
                  rotate_left
                  · intro w'
                    go_simp
                    with_reducible rfl
                  rotate_left
                  · simp only [Act.put, List.setIfInBounds_toArray, List.set_cons_zero, List.set_cons_succ, i64_w, i32_w]
                    rfl
                  refine pure_ (i := 5) (N := some 214) (v := ?_) (a' := ?_) #[true, true, true, true, false, true, false, false, false, false, false, false, false, false, false, false, false, false, false] rfl rfl (by kernel_rfl) (fun _ _ _ h => h) (Or.inl ⟨by rfl, ?_⟩) ?_ ?_
                  rotate_left
                  · intro w'
                    go_simp
                    with_reducible rfl
                  rotate_left
                  · simp only [Act.put, List.setIfInBounds_toArray, List.set_cons_zero, List.set_cons_succ, i64_w, i32_w]
                    rfl
                  refine pure_ (i := 6) (N := some 215) (v := ?_) (a' := ?_) #[true, true, true, true, false, true, true, false, false, false, false, false, false, false, false, false, false, false, false] rfl rfl (by kernel_rfl) (fun _ _ _ h => h) (Or.inl ⟨by rfl, ?_⟩) ?_ ?_
                  rotate_left
                  · intro w'
                    go_simp
                    with_reducible rfl
                  rotate_left
                  · simp only [Act.put, List.setIfInBounds_toArray, List.set_cons_zero, List.set_cons_succ, i64_w, i32_w]
                    rfl
                  refine pure_ (i := 7) (N := some 216) (v := ?_) (a' := ?_) #[true, true, true, true, false, true, true, true, false, false, false, false, false, false, false, false, false, false, false] rfl rfl (by kernel_rfl) (fun _ _ _ h => h) (Or.inl ⟨by rfl, ?_⟩) ?_ ?_
                  rotate_left
                  · intro w'
                    go_simp
                    with_reducible rfl
                  rotate_left
                  · simp only [Act.put, List.setIfInBounds_toArray, List.set_cons_zero, List.set_cons_succ, i64_w, i32_w]
                    rfl
                  refine take_ (i := 8) (N := some 217) (v := ?_) (a' := ?_) #[true, true, true, true, false, true, true, true, true, false, false, false, false, false, false, false, false, false, false] rfl rfl (by kernel_rfl) (fun _ _ _ h => h) (Or.inl ⟨by rfl, ?_⟩) hHeld ?_ ?_
                  rotate_left
                  · rintro w' ⟨s0, s1⟩
                    go_simp
                    with_reducible rfl
                  rotate_left
                  · simp only [Act.put, List.setIfInBounds_toArray, List.set_cons_zero, List.set_cons_succ, i64_w, i32_w]
                    rfl
                  refine pure_ (i := 9) (N := some 218) (v := ?_) (a' := ?_) #[true, true, true, true, false, true, true, true, true, true, false, false, false, false, false, false, false, false, false] rfl rfl (by kernel_rfl) (fun _ _ _ h => h) (Or.inl ⟨by rfl, ?_⟩) ?_ ?_
                  rotate_left
                  · intro w'
                    go_simp
                    with_reducible rfl
                  rotate_left
                  · simp only [Act.put, List.setIfInBounds_toArray, List.set_cons_zero, List.set_cons_succ, i64_w, i32_w]
                    rfl
                  refine one_ (i := 4) (N := some 213) #[true, true, true, true, true, true, true, true, true, true, false, false, false, false, false, false, false, false, false] rfl rfl (by kernel_rfl) (by decide) (fun K hK => ?_)
                  refine goes_ Try.func17 (by kernel_rfl) rfl #[.pointer (some ⟨p, 0, none⟩)] (by rfl) rfl rfl (by simp only [List.map_toArray, List.map_cons, List.map_nil]; rfl) ?_
                  with_reducible refine (left_calls _ p a HZD.out.two.ht).mono ?_
                  rintro e w91 ⟨rfl, hw⟩
                  refine ⟨_, rfl, ?_⟩
                  obtain rfl := hw
                  refine hK.out _ _ ⟨HQ0.out, KZ.out⟩ (fun hHeld => ?_)
                  clear hK K
                  refine norm_ (a' := ?_) ?_ ?_
                  rotate_left
                  · show Act.put _ (some 213) _ = _
                    simp only [Act.put, List.setIfInBounds_toArray, List.set_cons_zero, List.set_cons_succ, i64_w, i32_w]
                    rfl
                  refine pure_ (i := 10) (N := some 219) (v := ?_) (a' := ?_) #[true, true, true, true, true, true, true, true, true, true, true, false, false, false, false, false, false, false, false] rfl rfl (by kernel_rfl) (fun _ _ _ h => h) (Or.inl ⟨by rfl, ?_⟩) ?_ ?_
                  rotate_left
                  · intro w'
                    go_simp
                    with_reducible rfl
                  rotate_left
                  · simp only [Act.put, List.setIfInBounds_toArray, List.set_cons_zero, List.set_cons_succ, i64_w, i32_w]
                    rfl
                  refine pure_ (i := 11) (N := some 220) (v := ?_) (a' := ?_) #[true, true, true, true, true, true, true, true, true, true, true, true, false, false, false, false, false, false, false] rfl rfl (by kernel_rfl) (fun _ _ _ h => h) (Or.inl ⟨by rfl, ?_⟩) ?_ ?_
                  rotate_left
                  · intro w'
                    go_simp
                    with_reducible rfl
                  rotate_left
                  · simp only [Act.put, List.setIfInBounds_toArray, List.set_cons_zero, List.set_cons_succ, i64_w, i32_w]
                    rfl
                  refine pure_ (i := 12) (N := some 221) (v := ?_) (a' := ?_) #[true, true, true, true, true, true, true, true, true, true, true, true, true, false, false, false, false, false, false] rfl rfl (by kernel_rfl) (fun _ _ _ h => h) (Or.inl ⟨by rfl, ?_⟩) ?_ ?_
                  rotate_left
                  · intro w'
                    go_simp
                    with_reducible rfl
                  rotate_left
                  · simp only [Act.put, List.setIfInBounds_toArray, List.set_cons_zero, List.set_cons_succ, i64_w, i32_w]
                    rfl
                  refine pure_ (i := 13) (N := some 222) (v := ?_) (a' := ?_) #[true, true, true, true, true, true, true, true, true, true, true, true, true, true, false, false, false, false, false] rfl rfl (by kernel_rfl) (fun _ _ _ h => h) (Or.inl ⟨by rfl, ?_⟩) ?_ ?_
                  rotate_left
                  · intro w'
                    go_simp
                    with_reducible rfl
                  rotate_left
                  · simp only [Act.put, List.setIfInBounds_toArray, List.set_cons_zero, List.set_cons_succ, i64_w, i32_w]
                    rfl
                  refine pure_ (i := 14) (N := some 223) (v := ?_) (a' := ?_) #[true, true, true, true, true, true, true, true, true, true, true, true, true, true, true, false, false, false, false] rfl rfl (by kernel_rfl) (fun _ _ _ h => h) (Or.inl ⟨by rfl, ?_⟩) ?_ ?_
                  rotate_left
                  · intro w'
                    go_simp
                    with_reducible rfl
                  rotate_left
                  · simp only [Act.put, List.setIfInBounds_toArray, List.set_cons_zero, List.set_cons_succ, i64_w, i32_w]
                    rfl
                  refine take_ (i := 15) (N := some 224) (v := .agg #[.int .i64 x.what, .int .u32 x.sub, .int .i64 x.index, .int .i64 x.block, .int .i64 x.time, .slice B x.b.length c5]) (a' := ?_) #[true, true, true, true, true, true, true, true, true, true, true, true, true, true, true, true, false, false, false] rfl rfl (by kernel_rfl) (fun _ _ _ h => h) (Or.inl ⟨by rfl, fun w1 s0 => exec_load_row 76 (.tmp 12) rfl wr.heap.size rfl 76 _ (0, 0) _ s0.2 Try.underlying76 rfl (by kernel_rfl)⟩) hHeld ?_ ?_
                  rotate_left
                  · simp only [Act.put, List.setIfInBounds_toArray, List.set_cons_zero, List.set_cons_succ, i64_w, i32_w]
                    rfl
                  refine one_ (i := 16) (N := some 225) #[true, true, true, true, true, true, true, true, true, true, true, true, true, true, true, true, true, false, false] rfl rfl (by kernel_rfl) (by decide) (fun K hK => ?_)
                  refine goes_ Try.func56 (by kernel_rfl) rfl #[.pointer (some ⟨g, 0, none⟩), .pointer (some ⟨q, 0, none⟩), .agg #[.int .i64 x.what, .int .u32 x.sub, .int .i64 x.index, .int .i64 x.block, .int .i64 x.time, .slice B x.b.length c5]] (by rfl) rfl rfl (by simp only [List.map_toArray, List.map_cons, List.map_nil]; rfl) ?_
                  with_reducible refine (looks_calls _ g ga gs k N H m2 q qb x.what x.sub x.index x.block x.time B x.b.length c5 HZD.out.ps HZD.out.rp).mono ?_
                  rintro e w92 ⟨rfl, hb⟩
                  refine ⟨_, rfl, ?_⟩
                  have HZ2 := Aside0.mk (HZD.out.below hb)
                  have KZ2 := Aside0.mk (blk_below (show (w6).drew.heap[wr.heap.size]? = _ from KZ.out) hb)
                  have HQ2 := Aside0.mk ((hb.cell (World.block_lt_of_cell? _ _ HQ0.out)).trans HQ0.out)
                  clear hb
                  refine hK.out _ _ ⟨HQ2.out, KZ2.out⟩ (fun hHeld => ?_)
                  clear hK K
                  refine norm_ (a' := ?_) ?_ ?_
                  rotate_left
                  · show Act.put _ (some 225) _ = _
                    simp only [Act.put, List.setIfInBounds_toArray, List.set_cons_zero, List.set_cons_succ, i64_w, i32_w]
                    rfl
                  refine pure_ (i := 17) (N := some 226) (v := ?_) (a' := ?_) #[true, true, true, true, true, true, true, true, true, true, true, true, true, true, true, true, true, true, false] rfl rfl (by kernel_rfl) (fun _ _ _ h => h) (Or.inl ⟨by rfl, ?_⟩) ?_ ?_
                  rotate_left
                  · intro w'
                    go_simp
                    with_reducible rfl
                  rotate_left
                  · simp only [Act.put, List.setIfInBounds_toArray, List.set_cons_zero, List.set_cons_succ, i64_w, i32_w]
                    rfl
                  refine pure_ (i := 18) (N := some 227) (v := ?_) (a' := ?_) #[true, true, true, true, true, true, true, true, true, true, true, true, true, true, true, true, true, true, true] rfl rfl (by kernel_rfl) (fun _ _ _ h => h) (Or.inl ⟨by rfl, ?_⟩) ?_ ?_
                  rotate_left
                  · intro w'
                    go_simp
                    with_reducible rfl
                  rotate_left
                  · simp only [Act.put, List.setIfInBounds_toArray, List.set_cons_zero, List.set_cons_succ, i64_w, i32_w]
                    rfl
                  refine done_ (by kernel_rfl) ?_
                  go_wp2
                  go_roundw
                  case rel => exact ⟨i + 1, m2, v, a, by omega, by go_num, HZ2.out⟩
                  case measure => simp [intOf]; omega
              · have t3 : (x.what == 3) = false := beq_eq_false_iff_ne.2 z3
                by_cases z5 : x.what ≤ 5
                · have t5 : decide (x.what ≤ 5) = true := decide_eq_true z5
                  as_aux_lemma =>
                    go_wp2_with fail
                    refine (back_calls _ g ga gs k N H m x.index x.block x.time HO.out.ps).mono ?_
                    rintro e w5 ⟨rfl, hp5, hc5⟩
                    have K5 : Aside0 (w5.heap[wr.heap.size]? = some (.cells #[.int .i64 x.what, .int .u32 x.sub, .int .i64 x.index, .int .i64 x.block, .int .i64 x.time, .slice B x.b.length c5] 76 (0, 0))) := ⟨(hc5.block _ (blk_lt KO.out) (fun ⟨j, hj, e⟩ => by obtain ⟨L, hL, _⟩ := HO.out.ps.blk j hj; exact blk_ne KO.out hL (by decide) e)).trans KO.out⟩
                    have H5 := Aside0.mk (HO.out.pool hp5 hc5)
                    have e1 : w5.cell? ⟨wr.heap.size, 1, none⟩ = some (.int .u32 x.sub) := (blk_cell K5.out 1).trans rfl
                    have e2 : w5.cell? ⟨wr.heap.size, 2, none⟩ = some (.int .i64 x.index) := (blk_cell K5.out 2).trans rfl
                    have e3 : w5.cell? ⟨wr.heap.size, 3, none⟩ = some (.int .i64 x.block) := (blk_cell K5.out 3).trans rfl
                    have e4 : w5.cell? ⟨wr.heap.size, 4, none⟩ = some (.int .i64 x.time) := (blk_cell K5.out 4).trans rfl
                    have e5 : w5.cell? ⟨wr.heap.size, 5, none⟩ = some (.slice B x.b.length c5) := (blk_cell K5.out 5).trans rfl
                    clear hp5 hc5
                    go_wp2_with fail
                    refine (rback_calls _ q qb k N H (nzm m) x.index x.block x.time H5.out.rp).mono ?_
                    rintro e w6 ⟨rfl, hp6, hc6⟩
                    rw [bkE_nz]
                    rw [bkM_nz k N H HO.out.ps.nh.1] at hp6
                    have KZ : Aside0 (w6.heap[wr.heap.size]? = some (.cells #[.int .i64 x.what, .int .u32 x.sub, .int .i64 x.index, .int .i64 x.block, .int .i64 x.time, .slice B x.b.length c5] 76 (0, 0))) := ⟨(hc6.block _ (blk_lt K5.out) (fun e => by obtain ⟨L, hL, _⟩ := H5.out.rp.blk; exact blk_ne K5.out hL (by decide) e)).trans K5.out⟩
                    have HZ := Aside0.mk (H5.out.refp hp6 hc6)
                    obtain ⟨m2, hm2⟩ : ∃ z, z = bkM k N H m x.index x.block x.time := ⟨_, rfl⟩
                    obtain ⟨ee, hee⟩ : ∃ z, z = bkE k N m x.index x.block x.time := ⟨_, rfl⟩
                    rw [← hm2] at HZ
                    rw [← hee]
                    have hee2 : (ee == ee) = true := beq_self_eq_true ee
                    clear hp6 hc6 hm2 hee H5 K5 e1 e2 e3 e4 e5
                    obtain ⟨Aq, cq, hvq, hcq, hrq⟩ := Kd.Q_reads HZ.out.two.hr.2.1
                    have HZD := Aside0.mk (HZ.out.below (below_drew (Below.refl _ (w6))))
                    have HQ0 : Aside0 ((w6).drew.cell? ⟨tq, 0, none⟩ = some (.slice Aq a.length cq)) := ⟨(blk_cell HZ.out.two.hr.1 0).trans (by rw [hvq]; rfl)⟩
                    clear hvq hcq hrq
                    go_wp2_with fail
                    refine start_ (n := 19) (S := fun w' => w'.cell? ⟨tq, 0, none⟩ = some (.slice Aq a.length cq) ∧ w'.heap[wr.heap.size]? = some (.cells #[.int .i64 x.what, .int .u32 x.sub, .int .i64 x.index, .int .i64 x.block, .int .i64 x.time, .slice B x.b.length c5] 76 (0, 0))) (ds := []) #[false, false, false, false, false, false, false, false, false, false, false, false, false, false, false, false, false, false, false] (by kernel_rfl) rfl rfl ⟨HQ0.out, KZ.out⟩ (fun hHeld => ?_)
                    refine pure_ (i := 0) (N := some 209) (v := ?_) (a' := ?_) #[true, false, false, false, false, false, false, false, false, false, false, false, false, false, false, false, false, false, false] rfl rfl (by kernel_rfl) (fun _ _ _ h => h) (Or.inl ⟨by rfl, ?_⟩) ?_ ?_
                    rotate_left
                    · intro w'
                      go_simp
                      with_reducible rfl
                    rotate_left
                    · simp only [Act.put, List.setIfInBounds_toArray, List.set_cons_zero, List.set_cons_succ, i64_w, i32_w]
                      rfl
                    refine pure_ (i := 1) (N := some 210) (v := ?_) (a' := ?_) #[true, true, false, false, false, false, false, false, false, false, false, false, false, false, false, false, false, false, false] rfl rfl (by kernel_rfl) (fun _ _ _ h => h) (Or.inl ⟨by rfl, ?_⟩) ?_ ?_
                    rotate_left
                    · intro w'
                      go_simp
                      with_reducible rfl
                    rotate_left
                    · simp only [Act.put, List.setIfInBounds_toArray, List.set_cons_zero, List.set_cons_succ, i64_w, i32_w]
                      rfl
                    refine pure_ (i := 2) (N := some 211) (v := ?_) (a' := ?_) #[true, true, true, false, false, false, false, false, false, false, false, false, false, false, false, false, false, false, false] rfl rfl (by kernel_rfl) (fun _ _ _ h => h) (Or.inl ⟨by rfl, ?_⟩) ?_ ?_
                    rotate_left
                    · intro w'
                      go_simp
                      with_reducible rfl
                    rotate_left
                    · simp only [Act.put, List.setIfInBounds_toArray, List.set_cons_zero, List.set_cons_succ, i64_w, i32_w]
                      rfl
                    refine pure_ (i := 3) (N := some 212) (v := ?_) (a' := ?_) #[true, true, true, true, false, false, false, false, false, false, false, false, false, false, false, false, false, false, false] rfl rfl (by kernel_rfl) (fun _ _ _ h => h) (Or.inl ⟨by rfl, ?_⟩) ?_ ?_
                    rotate_left
                    · intro w'
                      go_simp
                      with_reducible rfl
                    rotate_left
                    · simp only [Act.put, List.setIfInBounds_toArray, List.set_cons_zero, List.set_cons_succ, i64_w, i32_w]
                      rfl
                    refine pure_ (i := 5) (N := some 214) (v := ?_) (a' := ?_) #[true, true, true, true, false, true, false, false, false, false, false, false, false, false, false, false, false, false, false] rfl rfl (by kernel_rfl) (fun _ _ _ h => h) (Or.inl ⟨by rfl, ?_⟩) ?_ ?_
                    rotate_left
                    · intro w'
                      go_simp
                      with_reducible rfl
                    rotate_left
                    · simp only [Act.put, List.setIfInBounds_toArray, List.set_cons_zero, List.set_cons_succ, i64_w, i32_w]
                      rfl
                    refine pure_ (i := 6) (N := some 215) (v := ?_) (a' := ?_) #[true, true, true, true, false, true, true, false, false, false, false, false, false, false, false, false, false, false, false] rfl rfl (by kernel_rfl) (fun _ _ _ h => h) (Or.inl ⟨by rfl, ?_⟩) ?_ ?_
                    rotate_left
                    · intro w'
                      go_simp
                      with_reducible rfl
                    rotate_left
                    · simp only [Act.put, List.setIfInBounds_toArray, List.set_cons_zero, List.set_cons_succ, i64_w, i32_w]
                      rfl
                    refine pure_ (i := 7) (N := some 216) (v := ?_) (a' := ?_) #[true, true, true, true, false, true, true, true, false, false, false, false, false, false, false, false, false, false, false] rfl rfl (by kernel_rfl) (fun _ _ _ h => h) (Or.inl ⟨by rfl, ?_⟩) ?_ ?_
                    rotate_left
                    · intro w'
                      go_simp
                      with_reducible rfl
                    rotate_left
                    · simp only [Act.put, List.setIfInBounds_toArray, List.set_cons_zero, List.set_cons_succ, i64_w, i32_w]
                      rfl
                    refine take_ (i := 8) (N := some 217) (v := ?_) (a' := ?_) #[true, true, true, true, false, true, true, true, true, false, false, false, false, false, false, false, false, false, false] rfl rfl (by kernel_rfl) (fun _ _ _ h => h) (Or.inl ⟨by rfl, ?_⟩) hHeld ?_ ?_
                    rotate_left
                    · rintro w' ⟨s0, s1⟩
                      go_simp
                      with_reducible rfl
                    rotate_left
                    · simp only [Act.put, List.setIfInBounds_toArray, List.set_cons_zero, List.set_cons_succ, i64_w, i32_w]
                      rfl
                    refine pure_ (i := 9) (N := some 218) (v := ?_) (a' := ?_) #[true, true, true, true, false, true, true, true, true, true, false, false, false, false, false, false, false, false, false] rfl rfl (by kernel_rfl) (fun _ _ _ h => h) (Or.inl ⟨by rfl, ?_⟩) ?_ ?_
                    rotate_left
                    · intro w'
                      go_simp
                      with_reducible rfl
                    rotate_left
                    · simp only [Act.put, List.setIfInBounds_toArray, List.set_cons_zero, List.set_cons_succ, i64_w, i32_w]
                      rfl
                    refine one_ (i := 4) (N := some 213) #[true, true, true, true, true, true, true, true, true, true, false, false, false, false, false, false, false, false, false] rfl rfl (by kernel_rfl) (by decide) (fun K hK => ?_)
                    refine goes_ Try.func17 (by kernel_rfl) rfl #[.pointer (some ⟨p, 0, none⟩)] (by rfl) rfl rfl (by simp only [List.map_toArray, List.map_cons, List.map_nil]; rfl) ?_
                    with_reducible refine (left_calls _ p a HZD.out.two.ht).mono ?_
                    rintro e w91 ⟨rfl, hw⟩
                    refine ⟨_, rfl, ?_⟩
                    obtain rfl := hw
                    refine hK.out _ _ ⟨HQ0.out, KZ.out⟩ (fun hHeld => ?_)
                    clear hK K
                    refine norm_ (a' := ?_) ?_ ?_
                    rotate_left
                    · show Act.put _ (some 213) _ = _
                      simp only [Act.put, List.setIfInBounds_toArray, List.set_cons_zero, List.set_cons_succ, i64_w, i32_w]
                      rfl
                    refine pure_ (i := 10) (N := some 219) (v := ?_) (a' := ?_) #[true, true, true, true, true, true, true, true, true, true, true, false, false, false, false, false, false, false, false] rfl rfl (by kernel_rfl) (fun _ _ _ h => h) (Or.inl ⟨by rfl, ?_⟩) ?_ ?_
                    rotate_left
                    · intro w'
                      go_simp
                      with_reducible rfl
                    rotate_left
                    · simp only [Act.put, List.setIfInBounds_toArray, List.set_cons_zero, List.set_cons_succ, i64_w, i32_w]
                      rfl
                    refine pure_ (i := 11) (N := some 220) (v := ?_) (a' := ?_) #[true, true, true, true, true, true, true, true, true, true, true, true, false, false, false, false, false, false, false] rfl rfl (by kernel_rfl) (fun _ _ _ h => h) (Or.inl ⟨by rfl, ?_⟩) ?_ ?_
                    rotate_left
                    · intro w'
                      go_simp
                      with_reducible rfl
                    rotate_left
                    · simp only [Act.put, List.setIfInBounds_toArray, List.set_cons_zero, List.set_cons_succ, i64_w, i32_w]
                      rfl
                    refine pure_ (i := 12) (N := some 221) (v := ?_) (a' := ?_) #[true, true, true, true, true, true, true, true, true, true, true, true, true, false, false, false, false, false, false] rfl rfl (by kernel_rfl) (fun _ _ _ h => h) (Or.inl ⟨by rfl, ?_⟩) ?_ ?_
                    rotate_left
                    · intro w'
                      go_simp
                      with_reducible rfl
                    rotate_left
                    · simp only [Act.put, List.setIfInBounds_toArray, List.set_cons_zero, List.set_cons_succ, i64_w, i32_w]
                      rfl
                    refine pure_ (i := 13) (N := some 222) (v := ?_) (a' := ?_) #[true, true, true, true, true, true, true, true, true, true, true, true, true, true, false, false, false, false, false] rfl rfl (by kernel_rfl) (fun _ _ _ h => h) (Or.inl ⟨by rfl, ?_⟩) ?_ ?_
                    rotate_left
                    · intro w'
                      go_simp
                      with_reducible rfl
                    rotate_left
                    · simp only [Act.put, List.setIfInBounds_toArray, List.set_cons_zero, List.set_cons_succ, i64_w, i32_w]
                      rfl
                    refine pure_ (i := 14) (N := some 223) (v := ?_) (a' := ?_) #[true, true, true, true, true, true, true, true, true, true, true, true, true, true, true, false, false, false, false] rfl rfl (by kernel_rfl) (fun _ _ _ h => h) (Or.inl ⟨by rfl, ?_⟩) ?_ ?_
                    rotate_left
                    · intro w'
                      go_simp
                      with_reducible rfl
                    rotate_left
                    · simp only [Act.put, List.setIfInBounds_toArray, List.set_cons_zero, List.set_cons_succ, i64_w, i32_w]
                      rfl
                    refine take_ (i := 15) (N := some 224) (v := .agg #[.int .i64 x.what, .int .u32 x.sub, .int .i64 x.index, .int .i64 x.block, .int .i64 x.time, .slice B x.b.length c5]) (a' := ?_) #[true, true, true, true, true, true, true, true, true, true, true, true, true, true, true, true, false, false, false] rfl rfl (by kernel_rfl) (fun _ _ _ h => h) (Or.inl ⟨by rfl, fun w1 s0 => exec_load_row 76 (.tmp 12) rfl wr.heap.size rfl 76 _ (0, 0) _ s0.2 Try.underlying76 rfl (by kernel_rfl)⟩) hHeld ?_ ?_
                    rotate_left
                    · simp only [Act.put, List.setIfInBounds_toArray, List.set_cons_zero, List.set_cons_succ, i64_w, i32_w]
                      rfl
                    refine one_ (i := 16) (N := some 225) #[true, true, true, true, true, true, true, true, true, true, true, true, true, true, true, true, true, false, false] rfl rfl (by kernel_rfl) (by decide) (fun K hK => ?_)
                    refine goes_ Try.func56 (by kernel_rfl) rfl #[.pointer (some ⟨g, 0, none⟩), .pointer (some ⟨q, 0, none⟩), .agg #[.int .i64 x.what, .int .u32 x.sub, .int .i64 x.index, .int .i64 x.block, .int .i64 x.time, .slice B x.b.length c5]] (by rfl) rfl rfl (by simp only [List.map_toArray, List.map_cons, List.map_nil]; rfl) ?_
                    with_reducible refine (looks_calls _ g ga gs k N H m2 q qb x.what x.sub x.index x.block x.time B x.b.length c5 HZD.out.ps HZD.out.rp).mono ?_
                    rintro e w92 ⟨rfl, hb⟩
                    refine ⟨_, rfl, ?_⟩
                    have HZ2 := Aside0.mk (HZD.out.below hb)
                    have KZ2 := Aside0.mk (blk_below (show (w6).drew.heap[wr.heap.size]? = _ from KZ.out) hb)
                    have HQ2 := Aside0.mk ((hb.cell (World.block_lt_of_cell? _ _ HQ0.out)).trans HQ0.out)
                    clear hb
                    refine hK.out _ _ ⟨HQ2.out, KZ2.out⟩ (fun hHeld => ?_)
                    clear hK K
                    refine norm_ (a' := ?_) ?_ ?_
                    rotate_left
                    · show Act.put _ (some 225) _ = _
                      simp only [Act.put, List.setIfInBounds_toArray, List.set_cons_zero, List.set_cons_succ, i64_w, i32_w]
                      rfl
                    refine pure_ (i := 17) (N := some 226) (v := ?_) (a' := ?_) #[true, true, true, true, true, true, true, true, true, true, true, true, true, true, true, true, true, true, false] rfl rfl (by kernel_rfl) (fun _ _ _ h => h) (Or.inl ⟨by rfl, ?_⟩) ?_ ?_
                    rotate_left
                    · intro w'
                      go_simp
                      with_reducible rfl
                    rotate_left
                    · simp only [Act.put, List.setIfInBounds_toArray, List.set_cons_zero, List.set_cons_succ, i64_w, i32_w]
                      rfl
                    refine pure_ (i := 18) (N := some 227) (v := ?_) (a' := ?_) #[true, true, true, true, true, true, true, true, true, true, true, true, true, true, true, true, true, true, true] rfl rfl (by kernel_rfl) (fun _ _ _ h => h) (Or.inl ⟨by rfl, ?_⟩) ?_ ?_
                    rotate_left
                    · intro w'
                      go_simp
                      with_reducible rfl
                    rotate_left
                    · simp only [Act.put, List.setIfInBounds_toArray, List.set_cons_zero, List.set_cons_succ, i64_w, i32_w]
                      rfl
                    refine done_ (by kernel_rfl) ?_
                    go_wp2
                    go_roundw
                    case rel => exact ⟨i + 1, m2, v, a, by omega, by go_num, HZ2.out⟩
                    case measure => simp [intOf]; omega
                · have t5 : decide (x.what ≤ 5) = false := decide_eq_false z5
                  by_cases z6 : x.what = 6
                  · have t6 : (x.what == 6) = true := by rw [z6]; rfl
                    clear z6
                    as_aux_lemma =>
                      go_wp2_with fail
                      refine (rest_calls _ g ga gs k N H m x.index x.block x.time HO.out.ps).mono ?_
                      rintro e w5 ⟨rfl, hp5, hc5⟩
                      have K5 : Aside0 (w5.heap[wr.heap.size]? = some (.cells #[.int .i64 x.what, .int .u32 x.sub, .int .i64 x.index, .int .i64 x.block, .int .i64 x.time, .slice B x.b.length c5] 76 (0, 0))) := ⟨(hc5.block _ (blk_lt KO.out) (fun ⟨j, hj, e⟩ => by obtain ⟨L, hL, _⟩ := HO.out.ps.blk j hj; exact blk_ne KO.out hL (by decide) e)).trans KO.out⟩
                      have H5 := Aside0.mk (HO.out.pool hp5 hc5)
                      have e1 : w5.cell? ⟨wr.heap.size, 1, none⟩ = some (.int .u32 x.sub) := (blk_cell K5.out 1).trans rfl
                      have e2 : w5.cell? ⟨wr.heap.size, 2, none⟩ = some (.int .i64 x.index) := (blk_cell K5.out 2).trans rfl
                      have e3 : w5.cell? ⟨wr.heap.size, 3, none⟩ = some (.int .i64 x.block) := (blk_cell K5.out 3).trans rfl
                      have e4 : w5.cell? ⟨wr.heap.size, 4, none⟩ = some (.int .i64 x.time) := (blk_cell K5.out 4).trans rfl
                      have e5 : w5.cell? ⟨wr.heap.size, 5, none⟩ = some (.slice B x.b.length c5) := (blk_cell K5.out 5).trans rfl
                      clear hp5 hc5
                      go_wp2_with fail
                      refine (rrest_calls _ q qb k N H (nzm m) x.index x.block x.time H5.out.rp).mono ?_
                      rintro e w6 ⟨rfl, hp6, hc6⟩
                      rw [rsE_nz]
                      rw [rsM_nz] at hp6
                      have KZ : Aside0 (w6.heap[wr.heap.size]? = some (.cells #[.int .i64 x.what, .int .u32 x.sub, .int .i64 x.index, .int .i64 x.block, .int .i64 x.time, .slice B x.b.length c5] 76 (0, 0))) := ⟨(hc6.block _ (blk_lt K5.out) (fun e => by obtain ⟨L, hL, _⟩ := H5.out.rp.blk; exact blk_ne K5.out hL (by decide) e)).trans K5.out⟩
                      have HZ := Aside0.mk (H5.out.refp hp6 hc6)
                      obtain ⟨m2, hm2⟩ : ∃ z, z = rsM k N m x.index x.block x.time := ⟨_, rfl⟩
                      obtain ⟨ee, hee⟩ : ∃ z, z = rsE k N m x.index x.block x.time := ⟨_, rfl⟩
                      rw [← hm2] at HZ
                      rw [← hee]
                      have hee2 : (ee == ee) = true := beq_self_eq_true ee
                      clear hp6 hc6 hm2 hee H5 K5 e1 e2 e3 e4 e5
                      obtain ⟨Aq, cq, hvq, hcq, hrq⟩ := Kd.Q_reads HZ.out.two.hr.2.1
                      have HZD := Aside0.mk (HZ.out.below (below_drew (Below.refl _ (w6))))
                      have HQ0 : Aside0 ((w6).drew.cell? ⟨tq, 0, none⟩ = some (.slice Aq a.length cq)) := ⟨(blk_cell HZ.out.two.hr.1 0).trans (by rw [hvq]; rfl)⟩
                      clear hvq hcq hrq
                      go_wp2_with fail
                      refine start_ (n := 19) (S := fun w' => w'.cell? ⟨tq, 0, none⟩ = some (.slice Aq a.length cq) ∧ w'.heap[wr.heap.size]? = some (.cells #[.int .i64 x.what, .int .u32 x.sub, .int .i64 x.index, .int .i64 x.block, .int .i64 x.time, .slice B x.b.length c5] 76 (0, 0))) (ds := []) #[false, false, false, false, false, false, false, false, false, false, false, false, false, false, false, false, false, false, false] (by kernel_rfl) rfl rfl ⟨HQ0.out, KZ.out⟩ (fun hHeld => ?_)
                      refine pure_ (i := 0) (N := some 209) (v := ?_) (a' := ?_) #[true, false, false, false, false, false, false, false, false, false, false, false, false, false, false, false, false, false, false] rfl rfl (by kernel_rfl) (fun _ _ _ h => h) (Or.inl ⟨by rfl, ?_⟩) ?_ ?_
                      rotate_left
                      · intro w'
                        go_simp
                        with_reducible rfl
                      rotate_left
                      · simp only [Act.put, List.setIfInBounds_toArray, List.set_cons_zero, List.set_cons_succ, i64_w, i32_w]
                        rfl
                      refine pure_ (i := 1) (N := some 210) (v := ?_) (a' := ?_) #[true, true, false, false, false, false, false, false, false, false, false, false, false, false, false, false, false, false, false] rfl rfl (by kernel_rfl) (fun _ _ _ h => h) (Or.inl ⟨by rfl, ?_⟩) ?_ ?_
                      rotate_left
                      · intro w'
                        go_simp
                        with_reducible rfl
                      rotate_left
                      · simp only [Act.put, List.setIfInBounds_toArray, List.set_cons_zero, List.set_cons_succ, i64_w, i32_w]
                        rfl
                      refine pure_ (i := 2) (N := some 211) (v := ?_) (a' := ?_) #[true, true, true, false, false, false, false, false, false, false, false, false, false, false, false, false, false, false, false] rfl rfl (by kernel_rfl) (fun _ _ _ h => h) (Or.inl ⟨by rfl, ?_⟩) ?_ ?_
                      rotate_left
                      · intro w'
                        go_simp
                        with_reducible rfl
                      rotate_left
                      · simp only [Act.put, List.setIfInBounds_toArray, List.set_cons_zero, List.set_cons_succ, i64_w, i32_w]
                        rfl
                      refine pure_ (i := 3) (N := some 212) (v := ?_) (a' := ?_) #[true, true, true, true, false, false, false, false, false, false, false, false, false, false, false, false, false, false, false] rfl rfl (by kernel_rfl) (fun _ _ _ h => h) (Or.inl ⟨by rfl, ?_⟩) ?_ ?_
                      rotate_left
                      · intro w'
                        go_simp
                        with_reducible rfl
                      rotate_left
                      · simp only [Act.put, List.setIfInBounds_toArray, List.set_cons_zero, List.set_cons_succ, i64_w, i32_w]
                        rfl
                      refine pure_ (i := 5) (N := some 214) (v := ?_) (a' := ?_) #[true, true, true, true, false, true, false, false, false, false, false, false, false, false, false, false, false, false, false] rfl rfl (by kernel_rfl) (fun _ _ _ h => h) (Or.inl ⟨by rfl, ?_⟩) ?_ ?_
                      rotate_left
                      · intro w'
                        go_simp
                        with_reducible rfl
                      rotate_left
                      · simp only [Act.put, List.setIfInBounds_toArray, List.set_cons_zero, List.set_cons_succ, i64_w, i32_w]
                        rfl
                      refine pure_ (i := 6) (N := some 215) (v := ?_) (a' := ?_) #[true, true, true, true, false, true, true, false, false, false, false, false, false, false, false, false, false, false, false] rfl rfl (by kernel_rfl) (fun _ _ _ h => h) (Or.inl ⟨by rfl, ?_⟩) ?_ ?_
                      rotate_left
                      · intro w'
                        go_simp
                        with_reducible rfl
                      rotate_left
                      · simp only [Act.put, List.setIfInBounds_toArray, List.set_cons_zero, List.set_cons_succ, i64_w, i32_w]
                        rfl
                      refine pure_ (i := 7) (N := some 216) (v := ?_) (a' := ?_) #[true, true, true, true, false, true, true, true, false, false, false, false, false, false, false, false, false, false, false] rfl rfl (by kernel_rfl) (fun _ _ _ h => h) (Or.inl ⟨by rfl, ?_⟩) ?_ ?_
                      rotate_left
                      · intro w'
                        go_simp
                        with_reducible rfl
                      rotate_left
                      · simp only [Act.put, List.setIfInBounds_toArray, List.set_cons_zero, List.set_cons_succ, i64_w, i32_w]
                        rfl
                      refine take_ (i := 8) (N := some 217) (v := ?_) (a' := ?_) #[true, true, true, true, false, true, true, true, true, false, false, false, false, false, false, false, false, false, false] rfl rfl (by kernel_rfl) (fun _ _ _ h => h) (Or.inl ⟨by rfl, ?_⟩) hHeld ?_ ?_
                      rotate_left
                      · rintro w' ⟨s0, s1⟩
                        go_simp
                        with_reducible rfl
                      rotate_left
                      · simp only [Act.put, List.setIfInBounds_toArray, List.set_cons_zero, List.set_cons_succ, i64_w, i32_w]
                        rfl
                      refine pure_ (i := 9) (N := some 218) (v := ?_) (a' := ?_) #[true, true, true, true, false, true, true, true, true, true, false, false, false, false, false, false, false, false, false] rfl rfl (by kernel_rfl) (fun _ _ _ h => h) (Or.inl ⟨by rfl, ?_⟩) ?_ ?_
                      rotate_left
                      · intro w'
                        go_simp
                        with_reducible rfl
                      rotate_left
                      · simp only [Act.put, List.setIfInBounds_toArray, List.set_cons_zero, List.set_cons_succ, i64_w, i32_w]
                        rfl
                      refine one_ (i := 4) (N := some 213) #[true, true, true, true, true, true, true, true, true, true, false, false, false, false, false, false, false, false, false] rfl rfl (by kernel_rfl) (by decide) (fun K hK => ?_)
                      refine goes_ Try.func17 (by kernel_rfl) rfl #[.pointer (some ⟨p, 0, none⟩)] (by rfl) rfl rfl (by simp only [List.map_toArray, List.map_cons, List.map_nil]; rfl) ?_
                      with_reducible refine (left_calls _ p a HZD.out.two.ht).mono ?_
                      rintro e w91 ⟨rfl, hw⟩
                      refine ⟨_, rfl, ?_⟩
                      obtain rfl := hw
                      refine hK.out _ _ ⟨HQ0.out, KZ.out⟩ (fun hHeld => ?_)
                      clear hK K
                      refine norm_ (a' := ?_) ?_ ?_
                      rotate_left
                      · show Act.put _ (some 213) _ = _
                        simp only [Act.put, List.setIfInBounds_toArray, List.set_cons_zero, List.set_cons_succ, i64_w, i32_w]
                        rfl
                      refine pure_ (i := 10) (N := some 219) (v := ?_) (a' := ?_) #[true, true, true, true, true, true, true, true, true, true, true, false, false, false, false, false, false, false, false] rfl rfl (by kernel_rfl) (fun _ _ _ h => h) (Or.inl ⟨by rfl, ?_⟩) ?_ ?_
                      rotate_left
                      · intro w'
                        go_simp
                        with_reducible rfl
                      rotate_left
                      · simp only [Act.put, List.setIfInBounds_toArray, List.set_cons_zero, List.set_cons_succ, i64_w, i32_w]
                        rfl
                      refine pure_ (i := 11) (N := some 220) (v := ?_) (a' := ?_) #[true, true, true, true, true, true, true, true, true, true, true, true, false, false, false, false, false, false, false] rfl rfl (by kernel_rfl) (fun _ _ _ h => h) (Or.inl ⟨by rfl, ?_⟩) ?_ ?_
                      rotate_left
                      · intro w'
                        go_simp
                        with_reducible rfl
                      rotate_left
                      · simp only [Act.put, List.setIfInBounds_toArray, List.set_cons_zero, List.set_cons_succ, i64_w, i32_w]
                        rfl
                      refine pure_ (i := 12) (N := some 221) (v := ?_) (a' := ?_) #[true, true, true, true, true, true, true, true, true, true, true, true, true, false, false, false, false, false, false] rfl rfl (by kernel_rfl) (fun _ _ _ h => h) (Or.inl ⟨by rfl, ?_⟩) ?_ ?_
                      rotate_left
                      · intro w'
                        go_simp
                        with_reducible rfl
                      rotate_left
                      · simp only [Act.put, List.setIfInBounds_toArray, List.set_cons_zero, List.set_cons_succ, i64_w, i32_w]
                        rfl
                      refine pure_ (i := 13) (N := some 222) (v := ?_) (a' := ?_) #[true, true, true, true, true, true, true, true, true, true, true, true, true, true, false, false, false, false, false] rfl rfl (by kernel_rfl) (fun _ _ _ h => h) (Or.inl ⟨by rfl, ?_⟩) ?_ ?_
                      rotate_left
                      · intro w'
                        go_simp
                        with_reducible rfl
                      rotate_left
                      · simp only [Act.put, List.setIfInBounds_toArray, List.set_cons_zero, List.set_cons_succ, i64_w, i32_w]
                        rfl
                      refine pure_ (i := 14) (N := some 223) (v := ?_) (a' := ?_) #[true, true, true, true, true, true, true, true, true, true, true, true, true, true, true, false, false, false, false] rfl rfl (by kernel_rfl) (fun _ _ _ h => h) (Or.inl ⟨by rfl, ?_⟩) ?_ ?_
                      rotate_left
                      · intro w'
                        go_simp
                        with_reducible rfl
                      rotate_left
                      · simp only [Act.put, List.setIfInBounds_toArray, List.set_cons_zero, List.set_cons_succ, i64_w, i32_w]
                        rfl
                      refine take_ (i := 15) (N := some 224) (v := .agg #[.int .i64 x.what, .int .u32 x.sub, .int .i64 x.index, .int .i64 x.block, .int .i64 x.time, .slice B x.b.length c5]) (a' := ?_) #[true, true, true, true, true, true, true, true, true, true, true, true, true, true, true, true, false, false, false] rfl rfl (by kernel_rfl) (fun _ _ _ h => h) (Or.inl ⟨by rfl, fun w1 s0 => exec_load_row 76 (.tmp 12) rfl wr.heap.size rfl 76 _ (0, 0) _ s0.2 Try.underlying76 rfl (by kernel_rfl)⟩) hHeld ?_ ?_
                      rotate_left
                      · simp only [Act.put, List.setIfInBounds_toArray, List.set_cons_zero, List.set_cons_succ, i64_w, i32_w]
                        rfl
                      refine one_ (i := 16) (N := some 225) #[true, true, true, true, true, true, true, true, true, true, true, true, true, true, true, true, true, false, false] rfl rfl (by kernel_rfl) (by decide) (fun K hK => ?_)
                      refine goes_ Try.func56 (by kernel_rfl) rfl #[.pointer (some ⟨g, 0, none⟩), .pointer (some ⟨q, 0, none⟩), .agg #[.int .i64 x.what, .int .u32 x.sub, .int .i64 x.index, .int .i64 x.block, .int .i64 x.time, .slice B x.b.length c5]] (by rfl) rfl rfl (by simp only [List.map_toArray, List.map_cons, List.map_nil]; rfl) ?_
                      with_reducible refine (looks_calls _ g ga gs k N H m2 q qb x.what x.sub x.index x.block x.time B x.b.length c5 HZD.out.ps HZD.out.rp).mono ?_
                      rintro e w92 ⟨rfl, hb⟩
                      refine ⟨_, rfl, ?_⟩
                      have HZ2 := Aside0.mk (HZD.out.below hb)
                      have KZ2 := Aside0.mk (blk_below (show (w6).drew.heap[wr.heap.size]? = _ from KZ.out) hb)
                      have HQ2 := Aside0.mk ((hb.cell (World.block_lt_of_cell? _ _ HQ0.out)).trans HQ0.out)
                      clear hb
                      refine hK.out _ _ ⟨HQ2.out, KZ2.out⟩ (fun hHeld => ?_)
                      clear hK K
                      refine norm_ (a' := ?_) ?_ ?_
                      rotate_left
                      · show Act.put _ (some 225) _ = _
                        simp only [Act.put, List.setIfInBounds_toArray, List.set_cons_zero, List.set_cons_succ, i64_w, i32_w]
                        rfl
                      refine pure_ (i := 17) (N := some 226) (v := ?_) (a' := ?_) #[true, true, true, true, true, true, true, true, true, true, true, true, true, true, true, true, true, true, false] rfl rfl (by kernel_rfl) (fun _ _ _ h => h) (Or.inl ⟨by rfl, ?_⟩) ?_ ?_
                      rotate_left
                      · intro w'
                        go_simp
                        with_reducible rfl
                      rotate_left
                      · simp only [Act.put, List.setIfInBounds_toArray, List.set_cons_zero, List.set_cons_succ, i64_w, i32_w]
                        rfl
                      refine pure_ (i := 18) (N := some 227) (v := ?_) (a' := ?_) #[true, true, true, true, true, true, true, true, true, true, true, true, true, true, true, true, true, true, true] rfl rfl (by kernel_rfl) (fun _ _ _ h => h) (Or.inl ⟨by rfl, ?_⟩) ?_ ?_
                      rotate_left
                      · intro w'
                        go_simp
                        with_reducible rfl
                      rotate_left
                      · simp only [Act.put, List.setIfInBounds_toArray, List.set_cons_zero, List.set_cons_succ, i64_w, i32_w]
                        rfl
                      refine done_ (by kernel_rfl) ?_
                      go_wp2
                      go_roundw
                      case rel => exact ⟨i + 1, m2, v, a, by omega, by go_num, HZ2.out⟩
                      case measure => simp [intOf]; omega
                  · have t6 : (x.what == 6) = false := beq_eq_false_iff_ne.2 z6
                    by_cases z9 : x.what ≤ 9
                    · have t9 : decide (x.what ≤ 9) = true := decide_eq_true z9
                      as_aux_lemma =>
                        go_wp2_with fail
                        refine (pick_calls _ g ga gs k N H m x.index x.time (some p) a HO.out.ps HO.out.two.ht).mono ?_
                        rintro e w5 ⟨rfl, ht5, hs5⟩
                        have K5 : Aside0 (w5.heap[wr.heap.size]? = some (.cells #[.int .i64 x.what, .int .u32 x.sub, .int .i64 x.index, .int .i64 x.block, .int .i64 x.time, .slice B x.b.length c5] 76 (0, 0))) := ⟨(hs5.1.block _ (blk_lt KO.out) (fun e => by obtain ⟨_, _, h84, _⟩ := HO.out.two.ht; exact blk_ne KO.out h84 (by decide) (Option.some.inj e))).trans KO.out⟩
                        have H5 := Aside0.mk (HO.out.tape hs5 ht5)
                        have e1 : w5.cell? ⟨wr.heap.size, 1, none⟩ = some (.int .u32 x.sub) := (blk_cell K5.out 1).trans rfl
                        have e2 : w5.cell? ⟨wr.heap.size, 2, none⟩ = some (.int .i64 x.index) := (blk_cell K5.out 2).trans rfl
                        have e3 : w5.cell? ⟨wr.heap.size, 3, none⟩ = some (.int .i64 x.block) := (blk_cell K5.out 3).trans rfl
                        have e4 : w5.cell? ⟨wr.heap.size, 4, none⟩ = some (.int .i64 x.time) := (blk_cell K5.out 4).trans rfl
                        have e5 : w5.cell? ⟨wr.heap.size, 5, none⟩ = some (.slice B x.b.length c5) := (blk_cell K5.out 5).trans rfl
                        clear ht5 hs5
                        go_wp2_with fail
                        refine (rpick_calls _ q qb k N H (nzm m) x.index x.time tq w.heap.size v a H5.out.rp H5.out.two.hr).mono ?_
                        rintro e w6 ⟨rfl, v6, hr6, ho6, hc6⟩
                        obtain ⟨q1, q2, q3, q4⟩ := pk_nz k N m x.index x.time a
                        rw [q1, q2, q3]
                        rw [q4] at hr6
                        have KZ : Aside0 (w6.heap[wr.heap.size]? = some (.cells #[.int .i64 x.what, .int .u32 x.sub, .int .i64 x.index, .int .i64 x.block, .int .i64 x.time, .slice B x.b.length c5] 76 (0, 0))) := ⟨(hc6.block _ (blk_lt K5.out) (fun e => blk_ne K5.out H5.out.two.hr.1 (by decide) e)).trans K5.out⟩
                        have HZ := Aside0.mk (H5.out.reft (hc6.wider (fun _ e => .inl e)) hr6 (.inl ho6))
                        obtain ⟨a2, ha2⟩ : ∃ z, z = pkL k N m x.index x.time a := ⟨_, rfl⟩
                        obtain ⟨x1, hx1⟩ : ∃ z, z = pkA k N m x.index x.time a := ⟨_, rfl⟩
                        obtain ⟨x2, hx2⟩ : ∃ z, z = pkB k N m x.index x.time a := ⟨_, rfl⟩
                        obtain ⟨x3, hx3⟩ : ∃ z, z = pkErr k N m x.index x.time := ⟨_, rfl⟩
                        rw [← ha2] at HZ
                        rw [← hx1, ← hx2, ← hx3]
                        have b1 : ((x1 : Int) == (x1 : Int)) = true := beq_self_eq_true _
                        have b2 : ((x2 : Int) == (x2 : Int)) = true := beq_self_eq_true _
                        have b3 : (x3 == x3) = true := beq_self_eq_true _
                        clear hr6 hc6 ho6 q1 q2 q3 q4 ha2 hx1 hx2 hx3 H5 K5 e1 e2 e3 e4 e5
                        obtain ⟨Aq, cq, hvq, hcq, hrq⟩ := Kd.Q_reads HZ.out.two.hr.2.1
                        have HZD := Aside0.mk (HZ.out.below (below_drew (Below.refl _ (w6))))
                        have HQ0 : Aside0 ((w6).drew.cell? ⟨tq, 0, none⟩ = some (.slice Aq a2.length cq)) := ⟨(blk_cell HZ.out.two.hr.1 0).trans (by rw [hvq]; rfl)⟩
                        clear hvq hcq hrq
                        go_wp2_with fail
                        refine start_ (n := 19) (S := fun w' => w'.cell? ⟨tq, 0, none⟩ = some (.slice Aq a2.length cq) ∧ w'.heap[wr.heap.size]? = some (.cells #[.int .i64 x.what, .int .u32 x.sub, .int .i64 x.index, .int .i64 x.block, .int .i64 x.time, .slice B x.b.length c5] 76 (0, 0))) (ds := []) #[false, false, false, false, false, false, false, false, false, false, false, false, false, false, false, false, false, false, false] (by kernel_rfl) rfl rfl ⟨HQ0.out, KZ.out⟩ (fun hHeld => ?_)
                        refine pure_ (i := 0) (N := some 209) (v := ?_) (a' := ?_) #[true, false, false, false, false, false, false, false, false, false, false, false, false, false, false, false, false, false, false] rfl rfl (by kernel_rfl) (fun _ _ _ h => h) (Or.inl ⟨by rfl, ?_⟩) ?_ ?_
                        rotate_left
                        · intro w'
                          go_simp
                          with_reducible rfl
                        rotate_left
                        · simp only [Act.put, List.setIfInBounds_toArray, List.set_cons_zero, List.set_cons_succ, i64_w, i32_w]
                          rfl
                        refine pure_ (i := 1) (N := some 210) (v := ?_) (a' := ?_) #[true, true, false, false, false, false, false, false, false, false, false, false, false, false, false, false, false, false, false] rfl rfl (by kernel_rfl) (fun _ _ _ h => h) (Or.inl ⟨by rfl, ?_⟩) ?_ ?_
                        rotate_left
                        · intro w'
                          go_simp
                          with_reducible rfl
                        rotate_left
                        · simp only [Act.put, List.setIfInBounds_toArray, List.set_cons_zero, List.set_cons_succ, i64_w, i32_w]
                          rfl
                        refine pure_ (i := 2) (N := some 211) (v := ?_) (a' := ?_) #[true, true, true, false, false, false, false, false, false, false, false, false, false, false, false, false, false, false, false] rfl rfl (by kernel_rfl) (fun _ _ _ h => h) (Or.inl ⟨by rfl, ?_⟩) ?_ ?_
                        rotate_left
                        · intro w'
                          go_simp
                          with_reducible rfl
                        rotate_left
                        · simp only [Act.put, List.setIfInBounds_toArray, List.set_cons_zero, List.set_cons_succ, i64_w, i32_w]
                          rfl
                        refine pure_ (i := 3) (N := some 212) (v := ?_) (a' := ?_) #[true, true, true, true, false, false, false, false, false, false, false, false, false, false, false, false, false, false, false] rfl rfl (by kernel_rfl) (fun _ _ _ h => h) (Or.inl ⟨by rfl, ?_⟩) ?_ ?_
                        rotate_left
                        · intro w'
                          go_simp
                          with_reducible rfl
                        rotate_left
                        · simp only [Act.put, List.setIfInBounds_toArray, List.set_cons_zero, List.set_cons_succ, i64_w, i32_w]
                          rfl
                        refine pure_ (i := 5) (N := some 214) (v := ?_) (a' := ?_) #[true, true, true, true, false, true, false, false, false, false, false, false, false, false, false, false, false, false, false] rfl rfl (by kernel_rfl) (fun _ _ _ h => h) (Or.inl ⟨by rfl, ?_⟩) ?_ ?_
                        rotate_left
                        · intro w'
                          go_simp
                          with_reducible rfl
                        rotate_left
                        · simp only [Act.put, List.setIfInBounds_toArray, List.set_cons_zero, List.set_cons_succ, i64_w, i32_w]
                          rfl
                        refine pure_ (i := 6) (N := some 215) (v := ?_) (a' := ?_) #[true, true, true, true, false, true, true, false, false, false, false, false, false, false, false, false, false, false, false] rfl rfl (by kernel_rfl) (fun _ _ _ h => h) (Or.inl ⟨by rfl, ?_⟩) ?_ ?_
                        rotate_left
                        · intro w'
                          go_simp
                          with_reducible rfl
                        rotate_left
                        · simp only [Act.put, List.setIfInBounds_toArray, List.set_cons_zero, List.set_cons_succ, i64_w, i32_w]
                          rfl
                        refine pure_ (i := 7) (N := some 216) (v := ?_) (a' := ?_) #[true, true, true, true, false, true, true, true, false, false, false, false, false, false, false, false, false, false, false] rfl rfl (by kernel_rfl) (fun _ _ _ h => h) (Or.inl ⟨by rfl, ?_⟩) ?_ ?_
                        rotate_left
                        · intro w'
                          go_simp
                          with_reducible rfl
                        rotate_left
                        · simp only [Act.put, List.setIfInBounds_toArray, List.set_cons_zero, List.set_cons_succ, i64_w, i32_w]
                          rfl
                        refine take_ (i := 8) (N := some 217) (v := ?_) (a' := ?_) #[true, true, true, true, false, true, true, true, true, false, false, false, false, false, false, false, false, false, false] rfl rfl (by kernel_rfl) (fun _ _ _ h => h) (Or.inl ⟨by rfl, ?_⟩) hHeld ?_ ?_
                        rotate_left
                        · rintro w' ⟨s0, s1⟩
                          go_simp
                          with_reducible rfl
                        rotate_left
                        · simp only [Act.put, List.setIfInBounds_toArray, List.set_cons_zero, List.set_cons_succ, i64_w, i32_w]
                          rfl
                        refine pure_ (i := 9) (N := some 218) (v := ?_) (a' := ?_) #[true, true, true, true, false, true, true, true, true, true, false, false, false, false, false, false, false, false, false] rfl rfl (by kernel_rfl) (fun _ _ _ h => h) (Or.inl ⟨by rfl, ?_⟩) ?_ ?_
                        rotate_left
                        · intro w'
                          go_simp
                          with_reducible rfl
                        rotate_left
                        · simp only [Act.put, List.setIfInBounds_toArray, List.set_cons_zero, List.set_cons_succ, i64_w, i32_w]
                          rfl
                        refine one_ (i := 4) (N := some 213) #[true, true, true, true, true, true, true, true, true, true, false, false, false, false, false, false, false, false, false] rfl rfl (by kernel_rfl) (by decide) (fun K hK => ?_)
                        refine goes_ Try.func17 (by kernel_rfl) rfl #[.pointer (some ⟨p, 0, none⟩)] (by rfl) rfl rfl (by simp only [List.map_toArray, List.map_cons, List.map_nil]; rfl) ?_
                        with_reducible refine (left_calls _ p a2 HZD.out.two.ht).mono ?_
                        rintro e w91 ⟨rfl, hw⟩
                        refine ⟨_, rfl, ?_⟩
                        obtain rfl := hw
                        refine hK.out _ _ ⟨HQ0.out, KZ.out⟩ (fun hHeld => ?_)
                        clear hK K
                        refine norm_ (a' := ?_) ?_ ?_
                        rotate_left
                        · show Act.put _ (some 213) _ = _
                          simp only [Act.put, List.setIfInBounds_toArray, List.set_cons_zero, List.set_cons_succ, i64_w, i32_w]
                          rfl
                        refine pure_ (i := 10) (N := some 219) (v := ?_) (a' := ?_) #[true, true, true, true, true, true, true, true, true, true, true, false, false, false, false, false, false, false, false] rfl rfl (by kernel_rfl) (fun _ _ _ h => h) (Or.inl ⟨by rfl, ?_⟩) ?_ ?_
                        rotate_left
                        · intro w'
                          go_simp
                          with_reducible rfl
                        rotate_left
                        · simp only [Act.put, List.setIfInBounds_toArray, List.set_cons_zero, List.set_cons_succ, i64_w, i32_w]
                          rfl
                        refine pure_ (i := 11) (N := some 220) (v := ?_) (a' := ?_) #[true, true, true, true, true, true, true, true, true, true, true, true, false, false, false, false, false, false, false] rfl rfl (by kernel_rfl) (fun _ _ _ h => h) (Or.inl ⟨by rfl, ?_⟩) ?_ ?_
                        rotate_left
                        · intro w'
                          go_simp
                          with_reducible rfl
                        rotate_left
                        · simp only [Act.put, List.setIfInBounds_toArray, List.set_cons_zero, List.set_cons_succ, i64_w, i32_w]
                          rfl
                        refine pure_ (i := 12) (N := some 221) (v := ?_) (a' := ?_) #[true, true, true, true, true, true, true, true, true, true, true, true, true, false, false, false, false, false, false] rfl rfl (by kernel_rfl) (fun _ _ _ h => h) (Or.inl ⟨by rfl, ?_⟩) ?_ ?_
                        rotate_left
                        · intro w'
                          go_simp
                          with_reducible rfl
                        rotate_left
                        · simp only [Act.put, List.setIfInBounds_toArray, List.set_cons_zero, List.set_cons_succ, i64_w, i32_w]
                          rfl
                        refine pure_ (i := 13) (N := some 222) (v := ?_) (a' := ?_) #[true, true, true, true, true, true, true, true, true, true, true, true, true, true, false, false, false, false, false] rfl rfl (by kernel_rfl) (fun _ _ _ h => h) (Or.inl ⟨by rfl, ?_⟩) ?_ ?_
                        rotate_left
                        · intro w'
                          go_simp
                          with_reducible rfl
                        rotate_left
                        · simp only [Act.put, List.setIfInBounds_toArray, List.set_cons_zero, List.set_cons_succ, i64_w, i32_w]
                          rfl
                        refine pure_ (i := 14) (N := some 223) (v := ?_) (a' := ?_) #[true, true, true, true, true, true, true, true, true, true, true, true, true, true, true, false, false, false, false] rfl rfl (by kernel_rfl) (fun _ _ _ h => h) (Or.inl ⟨by rfl, ?_⟩) ?_ ?_
                        rotate_left
                        · intro w'
                          go_simp
                          with_reducible rfl
                        rotate_left
                        · simp only [Act.put, List.setIfInBounds_toArray, List.set_cons_zero, List.set_cons_succ, i64_w, i32_w]
                          rfl
                        refine take_ (i := 15) (N := some 224) (v := .agg #[.int .i64 x.what, .int .u32 x.sub, .int .i64 x.index, .int .i64 x.block, .int .i64 x.time, .slice B x.b.length c5]) (a' := ?_) #[true, true, true, true, true, true, true, true, true, true, true, true, true, true, true, true, false, false, false] rfl rfl (by kernel_rfl) (fun _ _ _ h => h) (Or.inl ⟨by rfl, fun w1 s0 => exec_load_row 76 (.tmp 12) rfl wr.heap.size rfl 76 _ (0, 0) _ s0.2 Try.underlying76 rfl (by kernel_rfl)⟩) hHeld ?_ ?_
                        rotate_left
                        · simp only [Act.put, List.setIfInBounds_toArray, List.set_cons_zero, List.set_cons_succ, i64_w, i32_w]
                          rfl
                        refine one_ (i := 16) (N := some 225) #[true, true, true, true, true, true, true, true, true, true, true, true, true, true, true, true, true, false, false] rfl rfl (by kernel_rfl) (by decide) (fun K hK => ?_)
                        refine goes_ Try.func56 (by kernel_rfl) rfl #[.pointer (some ⟨g, 0, none⟩), .pointer (some ⟨q, 0, none⟩), .agg #[.int .i64 x.what, .int .u32 x.sub, .int .i64 x.index, .int .i64 x.block, .int .i64 x.time, .slice B x.b.length c5]] (by rfl) rfl rfl (by simp only [List.map_toArray, List.map_cons, List.map_nil]; rfl) ?_
                        with_reducible refine (looks_calls _ g ga gs k N H m q qb x.what x.sub x.index x.block x.time B x.b.length c5 HZD.out.ps HZD.out.rp).mono ?_
                        rintro e w92 ⟨rfl, hb⟩
                        refine ⟨_, rfl, ?_⟩
                        have HZ2 := Aside0.mk (HZD.out.below hb)
                        have KZ2 := Aside0.mk (blk_below (show (w6).drew.heap[wr.heap.size]? = _ from KZ.out) hb)
                        have HQ2 := Aside0.mk ((hb.cell (World.block_lt_of_cell? _ _ HQ0.out)).trans HQ0.out)
                        clear hb
                        refine hK.out _ _ ⟨HQ2.out, KZ2.out⟩ (fun hHeld => ?_)
                        clear hK K
                        refine norm_ (a' := ?_) ?_ ?_
                        rotate_left
                        · show Act.put _ (some 225) _ = _
                          simp only [Act.put, List.setIfInBounds_toArray, List.set_cons_zero, List.set_cons_succ, i64_w, i32_w]
                          rfl
                        refine pure_ (i := 17) (N := some 226) (v := ?_) (a' := ?_) #[true, true, true, true, true, true, true, true, true, true, true, true, true, true, true, true, true, true, false] rfl rfl (by kernel_rfl) (fun _ _ _ h => h) (Or.inl ⟨by rfl, ?_⟩) ?_ ?_
                        rotate_left
                        · intro w'
                          go_simp
                          with_reducible rfl
                        rotate_left
                        · simp only [Act.put, List.setIfInBounds_toArray, List.set_cons_zero, List.set_cons_succ, i64_w, i32_w]
                          rfl
                        refine pure_ (i := 18) (N := some 227) (v := ?_) (a' := ?_) #[true, true, true, true, true, true, true, true, true, true, true, true, true, true, true, true, true, true, true] rfl rfl (by kernel_rfl) (fun _ _ _ h => h) (Or.inl ⟨by rfl, ?_⟩) ?_ ?_
                        rotate_left
                        · intro w'
                          go_simp
                          with_reducible rfl
                        rotate_left
                        · simp only [Act.put, List.setIfInBounds_toArray, List.set_cons_zero, List.set_cons_succ, i64_w, i32_w]
                          rfl
                        refine done_ (by kernel_rfl) ?_
                        go_wp2
                        go_roundw
                        case rel => exact ⟨i + 1, m, v6, a2, by omega, by go_num, HZ2.out⟩
                        case measure => simp [intOf]; omega
                    · have t9 : decide (x.what ≤ 9) = false := decide_eq_false z9
                      as_aux_lemma =>
                        by_cases hn : 65536 < a.length + x.b.length
                        · go_wp2_with fail
                          refine (add_full _ p a B x.b.length c5 HO.out.two.ht hn (by have := HBC.out.2.1; exact this)).mono ?_
                          rintro e w5 ⟨rfl, hw⟩
                          obtain rfl := hw
                          go_wp2_with fail
                          refine (radd_full _ tq w.heap.size v a B x.b.length c5 HO.out.two.hr hn (by have := HBC.out.2.1; exact this)).mono ?_
                          rintro e w6 ⟨rfl, hw⟩
                          obtain rfl := hw
                          have HZ := Aside0.mk HO.out
                          have KZ := Aside0.mk KO.out
                          obtain ⟨Aq, cq, hvq, hcq, hrq⟩ := Kd.Q_reads HZ.out.two.hr.2.1
                          have HZD := Aside0.mk (HZ.out.below (below_drew (Below.refl _ (wr.alloc (.cells #[.int .i64 x.what, .int .u32 x.sub, .int .i64 x.index, .int .i64 x.block, .int .i64 x.time, .slice B x.b.length c5] 76)))))
                          have HQ0 : Aside0 ((wr.alloc (.cells #[.int .i64 x.what, .int .u32 x.sub, .int .i64 x.index, .int .i64 x.block, .int .i64 x.time, .slice B x.b.length c5] 76)).drew.cell? ⟨tq, 0, none⟩ = some (.slice Aq a.length cq)) := ⟨(blk_cell HZ.out.two.hr.1 0).trans (by rw [hvq]; rfl)⟩
                          clear hvq hcq hrq
                          go_wp2_with fail
                          refine start_ (n := 19) (S := fun w' => w'.cell? ⟨tq, 0, none⟩ = some (.slice Aq a.length cq) ∧ w'.heap[wr.heap.size]? = some (.cells #[.int .i64 x.what, .int .u32 x.sub, .int .i64 x.index, .int .i64 x.block, .int .i64 x.time, .slice B x.b.length c5] 76 (0, 0))) (ds := []) #[false, false, false, false, false, false, false, false, false, false, false, false, false, false, false, false, false, false, false] (by kernel_rfl) rfl rfl ⟨HQ0.out, KZ.out⟩ (fun hHeld => ?_)
                          refine pure_ (i := 0) (N := some 209) (v := ?_) (a' := ?_) #[true, false, false, false, false, false, false, false, false, false, false, false, false, false, false, false, false, false, false] rfl rfl (by kernel_rfl) (fun _ _ _ h => h) (Or.inl ⟨by rfl, ?_⟩) ?_ ?_
                          rotate_left
                          · intro w'
                            go_simp
                            with_reducible rfl
                          rotate_left
                          · simp only [Act.put, List.setIfInBounds_toArray, List.set_cons_zero, List.set_cons_succ, i64_w, i32_w]
                            rfl
                          refine pure_ (i := 1) (N := some 210) (v := ?_) (a' := ?_) #[true, true, false, false, false, false, false, false, false, false, false, false, false, false, false, false, false, false, false] rfl rfl (by kernel_rfl) (fun _ _ _ h => h) (Or.inl ⟨by rfl, ?_⟩) ?_ ?_
                          rotate_left
                          · intro w'
                            go_simp
                            with_reducible rfl
                          rotate_left
                          · simp only [Act.put, List.setIfInBounds_toArray, List.set_cons_zero, List.set_cons_succ, i64_w, i32_w]
                            rfl
                          refine pure_ (i := 2) (N := some 211) (v := ?_) (a' := ?_) #[true, true, true, false, false, false, false, false, false, false, false, false, false, false, false, false, false, false, false] rfl rfl (by kernel_rfl) (fun _ _ _ h => h) (Or.inl ⟨by rfl, ?_⟩) ?_ ?_
                          rotate_left
                          · intro w'
                            go_simp
                            with_reducible rfl
                          rotate_left
                          · simp only [Act.put, List.setIfInBounds_toArray, List.set_cons_zero, List.set_cons_succ, i64_w, i32_w]
                            rfl
                          refine pure_ (i := 3) (N := some 212) (v := ?_) (a' := ?_) #[true, true, true, true, false, false, false, false, false, false, false, false, false, false, false, false, false, false, false] rfl rfl (by kernel_rfl) (fun _ _ _ h => h) (Or.inl ⟨by rfl, ?_⟩) ?_ ?_
                          rotate_left
                          · intro w'
                            go_simp
                            with_reducible rfl
                          rotate_left
                          · simp only [Act.put, List.setIfInBounds_toArray, List.set_cons_zero, List.set_cons_succ, i64_w, i32_w]
                            rfl
                          refine pure_ (i := 5) (N := some 214) (v := ?_) (a' := ?_) #[true, true, true, true, false, true, false, false, false, false, false, false, false, false, false, false, false, false, false] rfl rfl (by kernel_rfl) (fun _ _ _ h => h) (Or.inl ⟨by rfl, ?_⟩) ?_ ?_
                          rotate_left
                          · intro w'
                            go_simp
                            with_reducible rfl
                          rotate_left
                          · simp only [Act.put, List.setIfInBounds_toArray, List.set_cons_zero, List.set_cons_succ, i64_w, i32_w]
                            rfl
                          refine pure_ (i := 6) (N := some 215) (v := ?_) (a' := ?_) #[true, true, true, true, false, true, true, false, false, false, false, false, false, false, false, false, false, false, false] rfl rfl (by kernel_rfl) (fun _ _ _ h => h) (Or.inl ⟨by rfl, ?_⟩) ?_ ?_
                          rotate_left
                          · intro w'
                            go_simp
                            with_reducible rfl
                          rotate_left
                          · simp only [Act.put, List.setIfInBounds_toArray, List.set_cons_zero, List.set_cons_succ, i64_w, i32_w]
                            rfl
                          refine pure_ (i := 7) (N := some 216) (v := ?_) (a' := ?_) #[true, true, true, true, false, true, true, true, false, false, false, false, false, false, false, false, false, false, false] rfl rfl (by kernel_rfl) (fun _ _ _ h => h) (Or.inl ⟨by rfl, ?_⟩) ?_ ?_
                          rotate_left
                          · intro w'
                            go_simp
                            with_reducible rfl
                          rotate_left
                          · simp only [Act.put, List.setIfInBounds_toArray, List.set_cons_zero, List.set_cons_succ, i64_w, i32_w]
                            rfl
                          refine take_ (i := 8) (N := some 217) (v := ?_) (a' := ?_) #[true, true, true, true, false, true, true, true, true, false, false, false, false, false, false, false, false, false, false] rfl rfl (by kernel_rfl) (fun _ _ _ h => h) (Or.inl ⟨by rfl, ?_⟩) hHeld ?_ ?_
                          rotate_left
                          · rintro w' ⟨s0, s1⟩
                            go_simp
                            with_reducible rfl
                          rotate_left
                          · simp only [Act.put, List.setIfInBounds_toArray, List.set_cons_zero, List.set_cons_succ, i64_w, i32_w]
                            rfl
                          refine pure_ (i := 9) (N := some 218) (v := ?_) (a' := ?_) #[true, true, true, true, false, true, true, true, true, true, false, false, false, false, false, false, false, false, false] rfl rfl (by kernel_rfl) (fun _ _ _ h => h) (Or.inl ⟨by rfl, ?_⟩) ?_ ?_
                          rotate_left
                          · intro w'
                            go_simp
                            with_reducible rfl
                          rotate_left
                          · simp only [Act.put, List.setIfInBounds_toArray, List.set_cons_zero, List.set_cons_succ, i64_w, i32_w]
                            rfl
                          refine one_ (i := 4) (N := some 213) #[true, true, true, true, true, true, true, true, true, true, false, false, false, false, false, false, false, false, false] rfl rfl (by kernel_rfl) (by decide) (fun K hK => ?_)
                          refine goes_ Try.func17 (by kernel_rfl) rfl #[.pointer (some ⟨p, 0, none⟩)] (by rfl) rfl rfl (by simp only [List.map_toArray, List.map_cons, List.map_nil]; rfl) ?_
                          with_reducible refine (left_calls _ p a HZD.out.two.ht).mono ?_
                          rintro e w91 ⟨rfl, hw⟩
                          refine ⟨_, rfl, ?_⟩
                          obtain rfl := hw
                          refine hK.out _ _ ⟨HQ0.out, KZ.out⟩ (fun hHeld => ?_)
                          clear hK K
                          refine norm_ (a' := ?_) ?_ ?_
                          rotate_left
                          · show Act.put _ (some 213) _ = _
                            simp only [Act.put, List.setIfInBounds_toArray, List.set_cons_zero, List.set_cons_succ, i64_w, i32_w]
                            rfl
                          refine pure_ (i := 10) (N := some 219) (v := ?_) (a' := ?_) #[true, true, true, true, true, true, true, true, true, true, true, false, false, false, false, false, false, false, false] rfl rfl (by kernel_rfl) (fun _ _ _ h => h) (Or.inl ⟨by rfl, ?_⟩) ?_ ?_
                          rotate_left
                          · intro w'
                            go_simp
                            with_reducible rfl
                          rotate_left
                          · simp only [Act.put, List.setIfInBounds_toArray, List.set_cons_zero, List.set_cons_succ, i64_w, i32_w]
                            rfl
                          refine pure_ (i := 11) (N := some 220) (v := ?_) (a' := ?_) #[true, true, true, true, true, true, true, true, true, true, true, true, false, false, false, false, false, false, false] rfl rfl (by kernel_rfl) (fun _ _ _ h => h) (Or.inl ⟨by rfl, ?_⟩) ?_ ?_
                          rotate_left
                          · intro w'
                            go_simp
                            with_reducible rfl
                          rotate_left
                          · simp only [Act.put, List.setIfInBounds_toArray, List.set_cons_zero, List.set_cons_succ, i64_w, i32_w]
                            rfl
                          refine pure_ (i := 12) (N := some 221) (v := ?_) (a' := ?_) #[true, true, true, true, true, true, true, true, true, true, true, true, true, false, false, false, false, false, false] rfl rfl (by kernel_rfl) (fun _ _ _ h => h) (Or.inl ⟨by rfl, ?_⟩) ?_ ?_
                          rotate_left
                          · intro w'
                            go_simp
                            with_reducible rfl
                          rotate_left
                          · simp only [Act.put, List.setIfInBounds_toArray, List.set_cons_zero, List.set_cons_succ, i64_w, i32_w]
                            rfl
                          refine pure_ (i := 13) (N := some 222) (v := ?_) (a' := ?_) #[true, true, true, true, true, true, true, true, true, true, true, true, true, true, false, false, false, false, false] rfl rfl (by kernel_rfl) (fun _ _ _ h => h) (Or.inl ⟨by rfl, ?_⟩) ?_ ?_
                          rotate_left
                          · intro w'
                            go_simp
                            with_reducible rfl
                          rotate_left
                          · simp only [Act.put, List.setIfInBounds_toArray, List.set_cons_zero, List.set_cons_succ, i64_w, i32_w]
                            rfl
                          refine pure_ (i := 14) (N := some 223) (v := ?_) (a' := ?_) #[true, true, true, true, true, true, true, true, true, true, true, true, true, true, true, false, false, false, false] rfl rfl (by kernel_rfl) (fun _ _ _ h => h) (Or.inl ⟨by rfl, ?_⟩) ?_ ?_
                          rotate_left
                          · intro w'
                            go_simp
                            with_reducible rfl
                          rotate_left
                          · simp only [Act.put, List.setIfInBounds_toArray, List.set_cons_zero, List.set_cons_succ, i64_w, i32_w]
                            rfl
                          refine take_ (i := 15) (N := some 224) (v := .agg #[.int .i64 x.what, .int .u32 x.sub, .int .i64 x.index, .int .i64 x.block, .int .i64 x.time, .slice B x.b.length c5]) (a' := ?_) #[true, true, true, true, true, true, true, true, true, true, true, true, true, true, true, true, false, false, false] rfl rfl (by kernel_rfl) (fun _ _ _ h => h) (Or.inl ⟨by rfl, fun w1 s0 => exec_load_row 76 (.tmp 12) rfl wr.heap.size rfl 76 _ (0, 0) _ s0.2 Try.underlying76 rfl (by kernel_rfl)⟩) hHeld ?_ ?_
                          rotate_left
                          · simp only [Act.put, List.setIfInBounds_toArray, List.set_cons_zero, List.set_cons_succ, i64_w, i32_w]
                            rfl
                          refine one_ (i := 16) (N := some 225) #[true, true, true, true, true, true, true, true, true, true, true, true, true, true, true, true, true, false, false] rfl rfl (by kernel_rfl) (by decide) (fun K hK => ?_)
                          refine goes_ Try.func56 (by kernel_rfl) rfl #[.pointer (some ⟨g, 0, none⟩), .pointer (some ⟨q, 0, none⟩), .agg #[.int .i64 x.what, .int .u32 x.sub, .int .i64 x.index, .int .i64 x.block, .int .i64 x.time, .slice B x.b.length c5]] (by rfl) rfl rfl (by simp only [List.map_toArray, List.map_cons, List.map_nil]; rfl) ?_
                          with_reducible refine (looks_calls _ g ga gs k N H m q qb x.what x.sub x.index x.block x.time B x.b.length c5 HZD.out.ps HZD.out.rp).mono ?_
                          rintro e w92 ⟨rfl, hb⟩
                          refine ⟨_, rfl, ?_⟩
                          have HZ2 := Aside0.mk (HZD.out.below hb)
                          have KZ2 := Aside0.mk (blk_below (show (wr.alloc (.cells #[.int .i64 x.what, .int .u32 x.sub, .int .i64 x.index, .int .i64 x.block, .int .i64 x.time, .slice B x.b.length c5] 76)).drew.heap[wr.heap.size]? = _ from KZ.out) hb)
                          have HQ2 := Aside0.mk ((hb.cell (World.block_lt_of_cell? _ _ HQ0.out)).trans HQ0.out)
                          clear hb
                          refine hK.out _ _ ⟨HQ2.out, KZ2.out⟩ (fun hHeld => ?_)
                          clear hK K
                          refine norm_ (a' := ?_) ?_ ?_
                          rotate_left
                          · show Act.put _ (some 225) _ = _
                            simp only [Act.put, List.setIfInBounds_toArray, List.set_cons_zero, List.set_cons_succ, i64_w, i32_w]
                            rfl
                          refine pure_ (i := 17) (N := some 226) (v := ?_) (a' := ?_) #[true, true, true, true, true, true, true, true, true, true, true, true, true, true, true, true, true, true, false] rfl rfl (by kernel_rfl) (fun _ _ _ h => h) (Or.inl ⟨by rfl, ?_⟩) ?_ ?_
                          rotate_left
                          · intro w'
                            go_simp
                            with_reducible rfl
                          rotate_left
                          · simp only [Act.put, List.setIfInBounds_toArray, List.set_cons_zero, List.set_cons_succ, i64_w, i32_w]
                            rfl
                          refine pure_ (i := 18) (N := some 227) (v := ?_) (a' := ?_) #[true, true, true, true, true, true, true, true, true, true, true, true, true, true, true, true, true, true, true] rfl rfl (by kernel_rfl) (fun _ _ _ h => h) (Or.inl ⟨by rfl, ?_⟩) ?_ ?_
                          rotate_left
                          · intro w'
                            go_simp
                            with_reducible rfl
                          rotate_left
                          · simp only [Act.put, List.setIfInBounds_toArray, List.set_cons_zero, List.set_cons_succ, i64_w, i32_w]
                            rfl
                          refine done_ (by kernel_rfl) ?_
                          go_wp2
                          go_roundw
                          case rel => exact ⟨i + 1, m, v, a, by omega, by go_num, HZ2.out⟩
                          case measure => simp [intOf]; omega
                        · go_wp2_with fail
                          refine (add_step _ p a B x.b c5 HO.out.two.ht (by omega) (Kd.C_below HBC.out HO.out.two.hb) HBW.out).mono ?_
                          rintro e w5 ⟨rfl, ht5, hs5⟩
                          have K5 : Aside0 (w5.heap[wr.heap.size]? = some (.cells #[.int .i64 x.what, .int .u32 x.sub, .int .i64 x.index, .int .i64 x.block, .int .i64 x.time, .slice B x.b.length c5] 76 (0, 0))) := ⟨(hs5.1.block _ (blk_lt KO.out) (fun e => by obtain ⟨_, _, h84, _⟩ := HO.out.two.ht; exact blk_ne KO.out h84 (by decide) (Option.some.inj e))).trans KO.out⟩
                          have H5 := Aside0.mk (HO.out.tape hs5 ht5)
                          have e1 : w5.cell? ⟨wr.heap.size, 1, none⟩ = some (.int .u32 x.sub) := (blk_cell K5.out 1).trans rfl
                          have e2 : w5.cell? ⟨wr.heap.size, 2, none⟩ = some (.int .i64 x.index) := (blk_cell K5.out 2).trans rfl
                          have e3 : w5.cell? ⟨wr.heap.size, 3, none⟩ = some (.int .i64 x.block) := (blk_cell K5.out 3).trans rfl
                          have e4 : w5.cell? ⟨wr.heap.size, 4, none⟩ = some (.int .i64 x.time) := (blk_cell K5.out 4).trans rfl
                          have e5 : w5.cell? ⟨wr.heap.size, 5, none⟩ = some (.slice B x.b.length c5) := (blk_cell K5.out 5).trans rfl
                          clear ht5 hs5
                          go_wp2_with fail
                          refine (radd_room _ tq w.heap.size v a B x.b c5 H5.out.two.hr (by omega) H5.out.two.hb.size H5.out.two.hq (Kd.C_below HBC.out H5.out.two.hb) (fun ad ha hn0 => by subst ha; exact Kd.C_lt HBC.out hn0 (by decide)) HBW.out).mono ?_
                          rintro e w6 ⟨rfl, v6, hr6, hc6, ho6⟩
                          have KZ : Aside0 (w6.heap[wr.heap.size]? = some (.cells #[.int .i64 x.what, .int .u32 x.sub, .int .i64 x.index, .int .i64 x.block, .int .i64 x.time, .slice B x.b.length c5] 76 (0, 0))) := ⟨(hc6.block _ (blk_lt K5.out) (fun e => by rcases e with e | e; exact blk_ne K5.out H5.out.two.hr.1 (by decide) e; exact Kd.Q_ne H5.out.two.hr.2.1 K5.out (by decide) e)).trans K5.out⟩
                          have HZ := Aside0.mk (H5.out.reft hc6 hr6 ho6)
                          obtain ⟨a2, ha2⟩ : ∃ z, z = a ++ x.b := ⟨_, rfl⟩
                          rw [← ha2] at HZ
                          clear hr6 hc6 ho6 ha2 H5 K5 e1 e2 e3 e4 e5
                          obtain ⟨Aq, cq, hvq, hcq, hrq⟩ := Kd.Q_reads HZ.out.two.hr.2.1
                          have HZD := Aside0.mk (HZ.out.below (below_drew (Below.refl _ (w6))))
                          have HQ0 : Aside0 ((w6).drew.cell? ⟨tq, 0, none⟩ = some (.slice Aq a2.length cq)) := ⟨(blk_cell HZ.out.two.hr.1 0).trans (by rw [hvq]; rfl)⟩
                          clear hvq hcq hrq
                          go_wp2_with fail
                          refine start_ (n := 19) (S := fun w' => w'.cell? ⟨tq, 0, none⟩ = some (.slice Aq a2.length cq) ∧ w'.heap[wr.heap.size]? = some (.cells #[.int .i64 x.what, .int .u32 x.sub, .int .i64 x.index, .int .i64 x.block, .int .i64 x.time, .slice B x.b.length c5] 76 (0, 0))) (ds := []) #[false, false, false, false, false, false, false, false, false, false, false, false, false, false, false, false, false, false, false] (by kernel_rfl) rfl rfl ⟨HQ0.out, KZ.out⟩ (fun hHeld => ?_)
                          refine pure_ (i := 0) (N := some 209) (v := ?_) (a' := ?_) #[true, false, false, false, false, false, false, false, false, false, false, false, false, false, false, false, false, false, false] rfl rfl (by kernel_rfl) (fun _ _ _ h => h) (Or.inl ⟨by rfl, ?_⟩) ?_ ?_
                          rotate_left
                          · intro w'
                            go_simp
                            with_reducible rfl
                          rotate_left
                          · simp only [Act.put, List.setIfInBounds_toArray, List.set_cons_zero, List.set_cons_succ, i64_w, i32_w]
                            rfl
                          refine pure_ (i := 1) (N := some 210) (v := ?_) (a' := ?_) #[true, true, false, false, false, false, false, false, false, false, false, false, false, false, false, false, false, false, false] rfl rfl (by kernel_rfl) (fun _ _ _ h => h) (Or.inl ⟨by rfl, ?_⟩) ?_ ?_
                          rotate_left
                          · intro w'
                            go_simp
                            with_reducible rfl
                          rotate_left
                          · simp only [Act.put, List.setIfInBounds_toArray, List.set_cons_zero, List.set_cons_succ, i64_w, i32_w]
                            rfl
                          refine pure_ (i := 2) (N := some 211) (v := ?_) (a' := ?_) #[true, true, true, false, false, false, false, false, false, false, false, false, false, false, false, false, false, false, false] rfl rfl (by kernel_rfl) (fun _ _ _ h => h) (Or.inl ⟨by rfl, ?_⟩) ?_ ?_
                          rotate_left
                          · intro w'
                            go_simp
                            with_reducible rfl
                          rotate_left
                          · simp only [Act.put, List.setIfInBounds_toArray, List.set_cons_zero, List.set_cons_succ, i64_w, i32_w]
                            rfl
                          refine pure_ (i := 3) (N := some 212) (v := ?_) (a' := ?_) #[true, true, true, true, false, false, false, false, false, false, false, false, false, false, false, false, false, false, false] rfl rfl (by kernel_rfl) (fun _ _ _ h => h) (Or.inl ⟨by rfl, ?_⟩) ?_ ?_
                          rotate_left
                          · intro w'
                            go_simp
                            with_reducible rfl
                          rotate_left
                          · simp only [Act.put, List.setIfInBounds_toArray, List.set_cons_zero, List.set_cons_succ, i64_w, i32_w]
                            rfl
                          refine pure_ (i := 5) (N := some 214) (v := ?_) (a' := ?_) #[true, true, true, true, false, true, false, false, false, false, false, false, false, false, false, false, false, false, false] rfl rfl (by kernel_rfl) (fun _ _ _ h => h) (Or.inl ⟨by rfl, ?_⟩) ?_ ?_
                          rotate_left
                          · intro w'
                            go_simp
                            with_reducible rfl
                          rotate_left
                          · simp only [Act.put, List.setIfInBounds_toArray, List.set_cons_zero, List.set_cons_succ, i64_w, i32_w]
                            rfl
                          refine pure_ (i := 6) (N := some 215) (v := ?_) (a' := ?_) #[true, true, true, true, false, true, true, false, false, false, false, false, false, false, false, false, false, false, false] rfl rfl (by kernel_rfl) (fun _ _ _ h => h) (Or.inl ⟨by rfl, ?_⟩) ?_ ?_
                          rotate_left
                          · intro w'
                            go_simp
                            with_reducible rfl
                          rotate_left
                          · simp only [Act.put, List.setIfInBounds_toArray, List.set_cons_zero, List.set_cons_succ, i64_w, i32_w]
                            rfl
                          refine pure_ (i := 7) (N := some 216) (v := ?_) (a' := ?_) #[true, true, true, true, false, true, true, true, false, false, false, false, false, false, false, false, false, false, false] rfl rfl (by kernel_rfl) (fun _ _ _ h => h) (Or.inl ⟨by rfl, ?_⟩) ?_ ?_
                          rotate_left
                          · intro w'
                            go_simp
                            with_reducible rfl
                          rotate_left
                          · simp only [Act.put, List.setIfInBounds_toArray, List.set_cons_zero, List.set_cons_succ, i64_w, i32_w]
                            rfl
                          refine take_ (i := 8) (N := some 217) (v := ?_) (a' := ?_) #[true, true, true, true, false, true, true, true, true, false, false, false, false, false, false, false, false, false, false] rfl rfl (by kernel_rfl) (fun _ _ _ h => h) (Or.inl ⟨by rfl, ?_⟩) hHeld ?_ ?_
                          rotate_left
                          · rintro w' ⟨s0, s1⟩
                            go_simp
                            with_reducible rfl
                          rotate_left
                          · simp only [Act.put, List.setIfInBounds_toArray, List.set_cons_zero, List.set_cons_succ, i64_w, i32_w]
                            rfl
                          refine pure_ (i := 9) (N := some 218) (v := ?_) (a' := ?_) #[true, true, true, true, false, true, true, true, true, true, false, false, false, false, false, false, false, false, false] rfl rfl (by kernel_rfl) (fun _ _ _ h => h) (Or.inl ⟨by rfl, ?_⟩) ?_ ?_
                          rotate_left
                          · intro w'
                            go_simp
                            with_reducible rfl
                          rotate_left
                          · simp only [Act.put, List.setIfInBounds_toArray, List.set_cons_zero, List.set_cons_succ, i64_w, i32_w]
                            rfl
                          refine one_ (i := 4) (N := some 213) #[true, true, true, true, true, true, true, true, true, true, false, false, false, false, false, false, false, false, false] rfl rfl (by kernel_rfl) (by decide) (fun K hK => ?_)
                          refine goes_ Try.func17 (by kernel_rfl) rfl #[.pointer (some ⟨p, 0, none⟩)] (by rfl) rfl rfl (by simp only [List.map_toArray, List.map_cons, List.map_nil]; rfl) ?_
                          with_reducible refine (left_calls _ p a2 HZD.out.two.ht).mono ?_
                          rintro e w91 ⟨rfl, hw⟩
                          refine ⟨_, rfl, ?_⟩
                          obtain rfl := hw
                          refine hK.out _ _ ⟨HQ0.out, KZ.out⟩ (fun hHeld => ?_)
                          clear hK K
                          refine norm_ (a' := ?_) ?_ ?_
                          rotate_left
                          · show Act.put _ (some 213) _ = _
                            simp only [Act.put, List.setIfInBounds_toArray, List.set_cons_zero, List.set_cons_succ, i64_w, i32_w]
                            rfl
                          refine pure_ (i := 10) (N := some 219) (v := ?_) (a' := ?_) #[true, true, true, true, true, true, true, true, true, true, true, false, false, false, false, false, false, false, false] rfl rfl (by kernel_rfl) (fun _ _ _ h => h) (Or.inl ⟨by rfl, ?_⟩) ?_ ?_
                          rotate_left
                          · intro w'
                            go_simp
                            with_reducible rfl
                          rotate_left
                          · simp only [Act.put, List.setIfInBounds_toArray, List.set_cons_zero, List.set_cons_succ, i64_w, i32_w]
                            rfl
                          refine pure_ (i := 11) (N := some 220) (v := ?_) (a' := ?_) #[true, true, true, true, true, true, true, true, true, true, true, true, false, false, false, false, false, false, false] rfl rfl (by kernel_rfl) (fun _ _ _ h => h) (Or.inl ⟨by rfl, ?_⟩) ?_ ?_
                          rotate_left
                          · intro w'
                            go_simp
                            with_reducible rfl
                          rotate_left
                          · simp only [Act.put, List.setIfInBounds_toArray, List.set_cons_zero, List.set_cons_succ, i64_w, i32_w]
                            rfl
                          refine pure_ (i := 12) (N := some 221) (v := ?_) (a' := ?_) #[true, true, true, true, true, true, true, true, true, true, true, true, true, false, false, false, false, false, false] rfl rfl (by kernel_rfl) (fun _ _ _ h => h) (Or.inl ⟨by rfl, ?_⟩) ?_ ?_
                          rotate_left
                          · intro w'
                            go_simp
                            with_reducible rfl
                          rotate_left
                          · simp only [Act.put, List.setIfInBounds_toArray, List.set_cons_zero, List.set_cons_succ, i64_w, i32_w]
                            rfl
                          refine pure_ (i := 13) (N := some 222) (v := ?_) (a' := ?_) #[true, true, true, true, true, true, true, true, true, true, true, true, true, true, false, false, false, false, false] rfl rfl (by kernel_rfl) (fun _ _ _ h => h) (Or.inl ⟨by rfl, ?_⟩) ?_ ?_
                          rotate_left
                          · intro w'
                            go_simp
                            with_reducible rfl
                          rotate_left
                          · simp only [Act.put, List.setIfInBounds_toArray, List.set_cons_zero, List.set_cons_succ, i64_w, i32_w]
                            rfl
                          refine pure_ (i := 14) (N := some 223) (v := ?_) (a' := ?_) #[true, true, true, true, true, true, true, true, true, true, true, true, true, true, true, false, false, false, false] rfl rfl (by kernel_rfl) (fun _ _ _ h => h) (Or.inl ⟨by rfl, ?_⟩) ?_ ?_
                          rotate_left
                          · intro w'
                            go_simp
                            with_reducible rfl
                          rotate_left
                          · simp only [Act.put, List.setIfInBounds_toArray, List.set_cons_zero, List.set_cons_succ, i64_w, i32_w]
                            rfl
                          refine take_ (i := 15) (N := some 224) (v := .agg #[.int .i64 x.what, .int .u32 x.sub, .int .i64 x.index, .int .i64 x.block, .int .i64 x.time, .slice B x.b.length c5]) (a' := ?_) #[true, true, true, true, true, true, true, true, true, true, true, true, true, true, true, true, false, false, false] rfl rfl (by kernel_rfl) (fun _ _ _ h => h) (Or.inl ⟨by rfl, fun w1 s0 => exec_load_row 76 (.tmp 12) rfl wr.heap.size rfl 76 _ (0, 0) _ s0.2 Try.underlying76 rfl (by kernel_rfl)⟩) hHeld ?_ ?_
                          rotate_left
                          · simp only [Act.put, List.setIfInBounds_toArray, List.set_cons_zero, List.set_cons_succ, i64_w, i32_w]
                            rfl
                          refine one_ (i := 16) (N := some 225) #[true, true, true, true, true, true, true, true, true, true, true, true, true, true, true, true, true, false, false] rfl rfl (by kernel_rfl) (by decide) (fun K hK => ?_)
                          refine goes_ Try.func56 (by kernel_rfl) rfl #[.pointer (some ⟨g, 0, none⟩), .pointer (some ⟨q, 0, none⟩), .agg #[.int .i64 x.what, .int .u32 x.sub, .int .i64 x.index, .int .i64 x.block, .int .i64 x.time, .slice B x.b.length c5]] (by rfl) rfl rfl (by simp only [List.map_toArray, List.map_cons, List.map_nil]; rfl) ?_
                          with_reducible refine (looks_calls _ g ga gs k N H m q qb x.what x.sub x.index x.block x.time B x.b.length c5 HZD.out.ps HZD.out.rp).mono ?_
                          rintro e w92 ⟨rfl, hb⟩
                          refine ⟨_, rfl, ?_⟩
                          have HZ2 := Aside0.mk (HZD.out.below hb)
                          have KZ2 := Aside0.mk (blk_below (show (w6).drew.heap[wr.heap.size]? = _ from KZ.out) hb)
                          have HQ2 := Aside0.mk ((hb.cell (World.block_lt_of_cell? _ _ HQ0.out)).trans HQ0.out)
                          clear hb
                          refine hK.out _ _ ⟨HQ2.out, KZ2.out⟩ (fun hHeld => ?_)
                          clear hK K
                          refine norm_ (a' := ?_) ?_ ?_
                          rotate_left
                          · show Act.put _ (some 225) _ = _
                            simp only [Act.put, List.setIfInBounds_toArray, List.set_cons_zero, List.set_cons_succ, i64_w, i32_w]
                            rfl
                          refine pure_ (i := 17) (N := some 226) (v := ?_) (a' := ?_) #[true, true, true, true, true, true, true, true, true, true, true, true, true, true, true, true, true, true, false] rfl rfl (by kernel_rfl) (fun _ _ _ h => h) (Or.inl ⟨by rfl, ?_⟩) ?_ ?_
                          rotate_left
                          · intro w'
                            go_simp
                            with_reducible rfl
                          rotate_left
                          · simp only [Act.put, List.setIfInBounds_toArray, List.set_cons_zero, List.set_cons_succ, i64_w, i32_w]
                            rfl
                          refine pure_ (i := 18) (N := some 227) (v := ?_) (a' := ?_) #[true, true, true, true, true, true, true, true, true, true, true, true, true, true, true, true, true, true, true] rfl rfl (by kernel_rfl) (fun _ _ _ h => h) (Or.inl ⟨by rfl, ?_⟩) ?_ ?_
                          rotate_left
                          · intro w'
                            go_simp
                            with_reducible rfl
                          rotate_left
                          · simp only [Act.put, List.setIfInBounds_toArray, List.set_cons_zero, List.set_cons_succ, i64_w, i32_w]
                            rfl
                          refine done_ (by kernel_rfl) ?_
                          go_wp2
                          go_roundw
                          case rel => exact ⟨i + 1, m, v6, a2, by omega, by go_num, HZ2.out⟩
                          case measure => simp [intOf]; omega
          · obtain rfl : i = l.length := by omega
            go_wp2
            go_ret
            exact ⟨rfl, HS.out.two.hb⟩
end Go.Proofs.Ytoapbppjkidgiaa.Pool
