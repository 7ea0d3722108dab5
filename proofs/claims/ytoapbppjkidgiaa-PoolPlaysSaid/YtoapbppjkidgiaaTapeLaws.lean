/- TapeLaws: the walks of chapter 13's first law: what awake and TapeKnown tell. No condition. -/
import Derived.Test.YtoapbppjkidgiaaTape
namespace Go.Proofs.Ytoapbppjkidgiaa.Tape
open Go.RowKit Go.Proofs.YtoapbppjkidgiaaW.PrintWords Go.Proofs.YtoapbppjkidgiaaW.PrintLast Go.Proofs.YtoapbppjkidgiaaW.PrintMore
set_option linter.unusedVariables false

/-- a literal's numbers are read. -/
theorem C_lit {k : IntKind} {w : World} {g : Nat} {t : TypeId} (xs : List Int) (hx : xs.length ≤ 9223372036854775807) (h : w.heap[g]? = some (.cells (xs.map (Value.int k)).toArray t (0, 0))) :
    Kd.C (Kd.int k) w (some ⟨g, 0, none⟩) xs.length xs := by
  refine ⟨rfl, hx, fun hn => ⟨_, rfl, fun j p hj => ⟨[.int k p], rfl, rfl, fun i u hu => ?_⟩⟩⟩
  have hi : i = 0 := by
    have := (List.getElem?_eq_some_iff.1 hu).1
    simp at this
    exact this
  subst hi
  obtain rfl : .int k p = u := by simpa using hu
  have e : j * (Kd.int k).sz + 0 = j := by show j * 1 + 0 = j; omega
  rw [e, show (⟨g, 0, none⟩ : Addr).add j = ⟨g, j, none⟩ from by unfold Addr.add; split <;> simp_all, blk_cell h]
  simp [hj]
theorem old_alloc (w : World) (o : Obj) : ∀ k, k < w.heap.size → (w.alloc o).heap[k]? = w.heap[k]? := fun k hk => Below.heap_alloc w o k hk
theorem bytes_lit (xs : List Int) (h : xs.all (fun x => decide (0 ≤ x) && decide (x < 256)) = true) : ∀ x ∈ xs, 0 ≤ x ∧ x < 256 := by
  intro x hx
  have := List.all_eq_true.1 h x hx
  simpa using this

set_option maxHeartbeats 2000000 in
theorem awake_calls (w : World) : Calls Try.prog 14 #[] w fun e w' => e = .returned (.bool true) ∧ Below w.heap.size w w' := by
  go_enter Try.func14, Try.ntmps14
  go_wp2_with (first
    | (go_at_call 15; refine (new_calls _).mono ?_; rintro e w1 ⟨rfl, ht, hb⟩; have HT := Aside0.mk ht; have HB := Aside0.mk hb; clear ht hb)
    | (go_at_call 16; refine (add_room _ _ [] _ [1, 4, 9] _ (HT.out.move (old_alloc _ _)) (by decide) (C_lit [1, 4, 9] (by decide) (heap_alloc_new _ _)) (bytes_lit _ (by decide))).mono ?_; rintro e w2 ⟨rfl, ht, hg⟩; have HT2 := Aside0.mk ht; have HG2 := Aside0.mk hg; clear ht hg))
  refine (draw_small _ _ 1 (by decide)).mono ?_
  rintro e w3 ⟨rfl, rfl⟩
  go_wp2_with fail
  refine (draw_take _ _ 1 4 [9] 7 HT2.out (by decide)).mono ?_
  rintro e w3 ⟨he, ht, hg⟩
  obtain rfl : e = .returned (.int .i64 1) := he
  have HT3 := Aside0.mk ht
  have HG3 := Aside0.mk hg
  clear ht hg HT2
  go_wp2_with fail
  refine (draw_short _ _ [9] 7 HT3.out (by decide)).mono ?_
  rintro e w4 ⟨rfl, rfl⟩
  go_wp2_with fail
  refine (left_calls _ _ [9] HT3.out).mono ?_
  rintro e w4 ⟨rfl, rfl⟩
  go_wp2
  go_ret
  refine ⟨rfl, ?_⟩
  exact ((below_alloc HB.out _).grown HG2.out (by have := HB.out.size; simp; omega) (fun k e => by cases e; exact Nat.le_refl _)).grown HG3.out (Nat.le_trans (Nat.le_trans HB.out.size (by simp)) HG2.out.size) (fun k e => by cases e; exact Nat.le_refl _)
/-- so many zeroes: opaque. -/
def zeroes : List Int := List.replicate (65536 : Int).toNat 0
theorem zeroes_len : zeroes.length = 65536 := by unfold zeroes; rw [List.length_replicate]; rfl
theorem zeroes_in : ∀ x ∈ zeroes, 0 ≤ x ∧ x < 256 := by
  intro x hx
  unfold zeroes at hx
  rw [(List.mem_replicate.1 hx).2]
  decide
theorem zeroes_two : ∃ l, zeroes = 0 :: 0 :: l ∧ l.length = 65534 :=
  ⟨List.replicate 65534 0, by unfold zeroes; rw [show (65536 : Int).toNat = 65534 + 1 + 1 from rfl, List.replicate_succ, List.replicate_succ], List.length_replicate⟩
theorem add_zeroes (w : World) (p : Nat) (B : Option Addr) (cb : Nat) (h : TapeSt w p []) (hB : Kd.C (Kd.int .u8) w B zeroes.length zeroes) :
    Calls Try.prog 16 #[.pointer (some ⟨p, 0, none⟩), .slice B zeroes.length cb] w fun e w' => e = .returned (.int .i64 0) ∧ TapeSt w' p zeroes ∧ w.grownBy w' (some p) :=
  add_room w p [] B zeroes cb h (by rw [zeroes_len]; decide) hB zeroes_in
set_option maxHeartbeats 2000000 in
set_option maxRecDepth 100000 in
theorem known_calls (w : World) : Calls Try.prog 3 #[] w fun e w' => e = .returned (.bool true) ∧ Below w.heap.size w w' := by
  go_enter Try.func3, Try.ntmps3
  go_wp2_with (first
    | (go_at_call 14; refine (awake_calls _).mono ?_; rintro e w0 ⟨rfl, hb⟩; have HB0 := Aside0.mk hb; clear hb)
    | (go_at_call 15; refine (new_calls _).mono ?_; rintro e w1 ⟨rfl, ht, hb⟩; have HT := Aside0.mk ht; have HB := Aside0.mk hb; clear ht hb)
    | ((with_reducible refine gate_dst (N := 9) rfl ?_); refine gate_guard (by rfl) ?_; refine Kd.R_make (Kd.int .u8) (w0 := w1) (W := w1) w1.heap.size 5 rfl rfl 27 (.const (.int .i64 65536)) (.const (.int .i64 65536)) rfl 65536 rfl rfl Try.underlying27 (.int .u8 0) 1 Try.info5 rfl (by decide) (by decide) 0 (ok := fun _ => True) (okp := fun _ => True) rfl (fun _ _ => trivial) trivial (by decide) (by decide) (Below.refl _ _) (Nat.le_refl _) ?_; intro v2 w2 ho2 hb2 hg2 _; change Kd.R _ _ _ _ _ _ zeroes at ho2; obtain ⟨A2, c2, rfl, hl2, hr2⟩ := Kd.R_reads ho2; have HR2 := Aside0.mk hr2; have HB2 := Aside0.mk hb2; clear ho2 hg2 hb2 hr2 hl2))
  refine (add_zeroes _ _ _ _ (HT.out.move (fun k hk => HB2.out.block k hk)) HR2.out).mono ?_
  rintro e w3 ⟨rfl, ht, hg⟩
  have HT3 := Aside0.mk ht
  have HG3 := Aside0.mk hg
  clear ht hg HT HR2
  go_wp2_with fail
  have hbig : 65536 < zeroes.length + 1 := by rw [zeroes_len]; decide
  refine (add_full _ _ zeroes _ 1 _ (HT3.out.move (old_alloc _ _)) hbig (by decide)).mono ?_
  rintro e w4 ⟨rfl, rfl⟩
  go_wp2_with fail
  refine (left_calls _ _ zeroes (HT3.out.move (old_alloc _ _))).mono ?_
  rintro e w4 ⟨he, rfl⟩
  obtain rfl : e = .returned (.int .i64 65536) := by rw [he, zeroes_len]; rfl
  clear he
  go_wp2_with fail
  obtain ⟨zs, hz, hzl⟩ := zeroes_two
  have ht4 := HT3.out.move (old_alloc w3 (.cells #[.int .u8 1] 5))
  rw [hz] at ht4
  refine (draw_take _ _ 0 0 zs 5 ht4 (by decide)).mono ?_
  rintro e w5 ⟨he, ht, hg⟩
  obtain rfl : e = .returned (.int .i64 0) := he
  have HT5 := Aside0.mk ht
  have HG5 := Aside0.mk hg
  have HZ := Aside0.mk hzl
  clear ht hg ht4 hz hzl hbig
  go_wp2_with fail
  refine (left_calls _ _ zs HT5.out).mono ?_
  rintro e w6 ⟨he, rfl⟩
  obtain rfl : e = .returned (.int .i64 65534) := by rw [he, HZ.out]; rfl
  clear he
  go_wp2_with fail
  refine (add_room _ _ zs _ [1, 2] _ (HT5.out.move (old_alloc _ _)) (by rw [HZ.out]; decide) (C_lit [1, 2] (by decide) (heap_alloc_new _ _)) (bytes_lit _ (by decide))).mono ?_
  rintro e w7 ⟨rfl, ht, hg⟩
  have HG7 := Aside0.mk hg
  clear hg ht
  go_wp2
  go_ret
  refine ⟨rfl, ?_⟩
  have s0 := HB0.out.size
  have s1 := HB.out.size
  have s2 := HB2.out.size
  have s3 := HG3.out.size
  have s5 := HG5.out.size
  have low : ∀ k, some w0.heap.size = some k → w.heap.size ≤ k := fun k e => by cases e; exact s0
  have b1 : Below w.heap.size w w2 := below_then (below_then HB0.out s0 HB.out) (by omega) HB2.out
  have b3 := b1.grown HG3.out (by omega) low
  have b5 := (below_alloc b3 _).grown HG5.out (by simp; omega) low
  exact (below_alloc b5 _).grown HG7.out (by simp at s5 ⊢; omega) low
end Go.Proofs.Ytoapbppjkidgiaa.Tape
