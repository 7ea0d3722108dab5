/- Ref14Check: the reference's Check answers as package setup's. Conditions: the configuration's cells are as api.Config says. -/
import Derived.Test.YtoapbppjkidgiaaRef14
namespace Go.Proofs.Ytoapbppjkidgiaa.Setup
open Go.RowKit Go.Proofs.YtoapbppjkidgiaaW.PrintWords Go.Proofs.YtoapbppjkidgiaaW.PrintLast Go.Proofs.YtoapbppjkidgiaaW.PrintMore Tape
set_option linter.unusedVariables false
set_option linter.unusedSimpArgs false
set_option maxHeartbeats 16000000 in
set_option maxRecDepth 100000 in
theorem rcheck_calls (w : World) (cs : Array Value) (C : Cfg) (h : IsCfg w cs C) :
    Calls Try.prog 23 #[.agg cs] w fun e w' => e = .returned (.int .i64 C.chk) ∧ Below w.heap.size w w' := by
  have HC := Aside0.mk h
  have HF := Aside0.mk h.fits
  have hins : 0 ≤ C.inside ∧ C.inside < 4294967296 := h.fits.inside
  have HK0 := Aside0.mk (heap_alloc_new w (.cells cs 41))
  have HB0 := Aside0.mk (below_alloc (Below.refl _ w) (.cells cs 41))
  clear h
  have c0 := cfg_cell HC.out HK0.out 0 _ (fun _ _ => rfl)
  have c1 := cfg_cell HC.out HK0.out 1 _ (fun _ _ => rfl)
  have c2 := cfg_cell HC.out HK0.out 2 _ (fun _ _ => rfl)
  go_enter Try.func23, Try.ntmps23
  go_wp2_with fail
  cases h1 : btw C.bits 8 30 with
  | false =>
    refine (rbetween_calls _ _ _ _ _ h1).mono ?_
    rintro e w' ⟨rfl, rfl⟩
    go_wp2
    have H1 : C.r1 = false := by unfold Cfg.r1; simp only [h1, Bool.false_and]
    go_ret
    refine ⟨?_, HB0.out⟩
    have e : C.chk = 1 := by
      unfold Cfg.chk
      simp only [H1]
      rfl
    rw [e]
    try rfl
  | true =>
    obtain ⟨b0, b1⟩ := btw_true h1
    have HBITS : Aside0 (8 ≤ C.bits ∧ C.bits ≤ 30) := ⟨btw_true h1⟩
    have b2 : 0 ≤ C.bits := by omega
    have b3 : C.bits ≤ 32 := by omega
    cases h2 : (C.inside * 2 ^ C.bits.toNat % 4294967296 == 0) with
    | false =>
      have h2n : (C.inside * 2 ^ C.bits.toNat % 4294967296 != 0) = true := by simp only [bne, h2]; rfl
      refine (rbetween_calls _ _ _ _ _ h1).mono ?_
      rintro e w' ⟨rfl, rfl⟩
      go_wp2
      have H1 : C.r1 = false := by unfold Cfg.r1; simp only [h1, h2, Bool.false_and, Bool.and_false]
      go_ret
      refine ⟨?_, HB0.out⟩
      have e : C.chk = 1 := by
        unfold Cfg.chk
        simp only [H1]
        rfl
      rw [e]
      try rfl
    | true =>
      have h2n : (C.inside * 2 ^ C.bits.toNat % 4294967296 != 0) = false := by simp only [bne, h2]; rfl
      refine (rbetween_calls _ _ _ _ _ h1).mono ?_
      rintro e w' ⟨rfl, rfl⟩
      go_wp2_with fail
      cases h3 : uni C.inside with
      | false =>
        refine (rplain_calls _ _ HF.out.inside _ h3).mono ?_
        rintro e w' ⟨rfl, rfl⟩
        go_wp2
        have H1 : C.r1 = false := by unfold Cfg.r1; simp only [h3, Bool.and_false]
        go_ret
        refine ⟨?_, HB0.out⟩
        have e : C.chk = 1 := by
          unfold Cfg.chk
          simp only [H1]
          rfl
        rw [e]
        try rfl
      | true =>
        have H1 : C.r1 = true := by unfold Cfg.r1; simp only [h1, h2, h3]; rfl
        refine (rplain_calls _ _ HF.out.inside _ h3).mono ?_
        rintro e w' ⟨rfl, rfl⟩
        clear h1 h2 h2n h3 c0 c1 hins b2 b3
        go_wp2_with ((with_reducible refine gate_dst (N := 24) rfl ?_); refine wpList_load_row rfl 41 (.tmp 1) rfl w.heap.size rfl 41 cs (0, 0) _ HK0.out Try.underlying41 rfl HC.out.info ?_)
        cases h4 : C.within C.server with
        | false =>
          refine (rwithin_cfg _ cs C C.server _ (HC.out.below HB0.out) HF.out.server HBITS.out h4).mono ?_
          rintro e w1 ⟨rfl, hb⟩
          have HB1 := Aside0.mk (below_then HB0.out HB0.out.size hb)
          have HK1 := Aside0.mk (blk_below HK0.out hb)
          clear hb
          go_wp2
          have H2 : C.r2 = false := h4
          go_ret
          refine ⟨?_, HB1.out⟩
          have e : C.chk = 2 := by
            unfold Cfg.chk
            simp only [H1, H2]
            rfl
          rw [e]
          try rfl
        | true =>
          refine (rwithin_cfg _ cs C C.server _ (HC.out.below HB0.out) HF.out.server HBITS.out h4).mono ?_
          rintro e w1 ⟨rfl, hb⟩
          have HB1 := Aside0.mk (below_then HB0.out HB0.out.size hb)
          have HK1 := Aside0.mk (blk_below HK0.out hb)
          clear hb
          have H2 : C.r2 = true := h4
          clear h4 c2
          go_wp2_with ((with_reducible refine gate_dst (N := 30) rfl ?_); refine wpList_load_row rfl 41 (.tmp 1) rfl w.heap.size rfl 41 cs (0, 0) _ HK1.out Try.underlying41 rfl HC.out.info ?_)
          cases h5 : C.outs with
          | false =>
            refine (routside_cfg _ cs C _ (HC.out.below HB1.out) HBITS.out h5).mono ?_
            rintro e w2 ⟨rfl, hb⟩
            have HB2 := Aside0.mk (below_then HB1.out HB1.out.size hb)
            have HK2 := Aside0.mk (blk_below HK1.out hb)
            clear hb
            go_wp2
            have H3 : C.r3 = false := h5
            go_ret
            refine ⟨?_, HB2.out⟩
            have e : C.chk = 3 := by
              unfold Cfg.chk
              simp only [H1, H2, H3]
              rfl
            rw [e]
            try rfl
          | true =>
            refine (routside_cfg _ cs C _ (HC.out.below HB1.out) HBITS.out h5).mono ?_
            rintro e w2 ⟨rfl, hb⟩
            have HB2 := Aside0.mk (below_then HB1.out HB1.out.size hb)
            have HK2 := Aside0.mk (blk_below HK1.out hb)
            clear hb
            have H3 : C.r3 = true := h5
            clear h5
            have c4 := cfg_cell HC.out HK2.out 4 _ (fun _ _ => rfl)
            have c5 := cfg_cell HC.out HK2.out 5 _ (fun _ _ => rfl)
            have c6 := cfg_cell HC.out HK2.out 6 _ (fun _ _ => rfl)
            go_wp2_with fail
            cases h6 : pow16 C.block with
            | false =>
              refine (rblock_calls _ _ _ h6).mono ?_
              rintro e w' ⟨rfl, rfl⟩
              go_wp2
              have H4 : C.r4 = false := by unfold Cfg.r4; rw [← pow16_eq]; exact h6
              go_ret
              refine ⟨?_, HB2.out⟩
              have e : C.chk = 4 := by
                unfold Cfg.chk
                simp only [H1, H2, H3, H4]
                rfl
              rw [e]
              try rfl
            | true =>
              have H4 : C.r4 = true := by unfold Cfg.r4; rw [← pow16_eq]; exact h6
              have hblk : 16 ≤ C.block := r4_block H4
              have hfl : -9223372036854775808 ≤ C.low ∧ C.low ≤ 9223372036854775807 := HF.out.low
              by_cases t1 : C.low < 1024
              · have t1b : decide (C.low < 1024) = true := decide_eq_true t1
                have t1c : decide (1024 > C.low) = true := decide_eq_true t1
                refine (rblock_calls _ _ _ h6).mono ?_
                rintro e w' ⟨rfl, rfl⟩
                go_wp2
                have H5 : C.r5 = false := by unfold Cfg.r5 btw; rw [Bool.eq_false_iff]; intro hh; simp only [Bool.and_eq_true, decide_eq_true_eq] at hh; omega
                go_ret
                refine ⟨?_, HB2.out⟩
                have e : C.chk = 5 := by
                  unfold Cfg.chk
                  simp only [H1, H2, H3, H4, H5]
                  rfl
                rw [e]
                try rfl
              · have t1b : decide (C.low < 1024) = false := decide_eq_false t1
                have t1c : decide (1024 > C.low) = false := decide_eq_false t1
                by_cases t2 : C.high > 65535
                · have t2b : decide (C.high > 65535) = true := decide_eq_true t2
                  have t2c : decide (65535 < C.high) = true := decide_eq_true t2
                  refine (rblock_calls _ _ _ h6).mono ?_
                  rintro e w' ⟨rfl, rfl⟩
                  go_wp2
                  have H5 : C.r5 = false := by unfold Cfg.r5 btw; rw [Bool.eq_false_iff]; intro hh; simp only [Bool.and_eq_true, decide_eq_true_eq] at hh; omega
                  go_ret
                  refine ⟨?_, HB2.out⟩
                  have e : C.chk = 5 := by
                    unfold Cfg.chk
                    simp only [H1, H2, H3, H4, H5]
                    rfl
                  rw [e]
                  try rfl
                · have t2b : decide (C.high > 65535) = false := decide_eq_false t2
                  have t2c : decide (65535 < C.high) = false := decide_eq_false t2
                  by_cases t3 : C.high < C.low
                  · have t3b : decide (C.high < C.low) = true := decide_eq_true t3
                    have t3c : decide (C.low > C.high) = true := decide_eq_true t3
                    refine (rblock_calls _ _ _ h6).mono ?_
                    rintro e w' ⟨rfl, rfl⟩
                    go_wp2
                    have H5 : C.r5 = false := by unfold Cfg.r5 btw; rw [Bool.eq_false_iff]; intro hh; simp only [Bool.and_eq_true, decide_eq_true_eq] at hh; omega
                    go_ret
                    refine ⟨?_, HB2.out⟩
                    have e : C.chk = 5 := by
                      unfold Cfg.chk
                      simp only [H1, H2, H3, H4, H5]
                      rfl
                    rw [e]
                    try rfl
                  · have t3b : decide (C.high < C.low) = false := decide_eq_false t3
                    have t3c : decide (C.low > C.high) = false := decide_eq_false t3
                    have e0 : 0 ≤ C.high - C.low := by omega
                    have e1 : 0 ≤ C.high - C.low + 1 := by omega
                    have hlo : btw C.low 1024 C.high = true := by unfold btw; rw [← Bool.decide_and]; exact decide_eq_true (by omega)
                    have hhi : decide (C.high ≤ 65535) = true := decide_eq_true (by omega)
                    cases t4 : ((C.high - C.low + 1) % C.block == 0) with
                    | false =>
                      have t4n : ((C.high - C.low + 1) % C.block != 0) = true := by simp only [bne, t4]; rfl
                      refine (rblock_calls _ _ _ h6).mono ?_
                      rintro e w' ⟨rfl, rfl⟩
                      go_wp2
                      have H5 : C.r5 = false := by unfold Cfg.r5; simp only [t4, Bool.and_false]
                      go_ret
                      refine ⟨?_, HB2.out⟩
                      have e : C.chk = 5 := by
                        unfold Cfg.chk
                        simp only [H1, H2, H3, H4, H5]
                        rfl
                      rw [e]
                      try rfl
                    | true =>
                      have t4n : ((C.high - C.low + 1) % C.block != 0) = false := by simp only [bne, t4]; rfl
                      have H5 : C.r5 = true := by unfold Cfg.r5; simp only [hlo, hhi, t4]; rfl
                      refine (rblock_calls _ _ _ h6).mono ?_
                      rintro e w' ⟨rfl, rfl⟩
                      have c7 := cfg_cell HC.out HK2.out 7 _ (fun _ _ => rfl)
                      have c8 := cfg_cell HC.out HK2.out 8 _ (fun _ _ => rfl)
                      have c9 := cfg_cell HC.out HK2.out 9 _ (fun _ _ => rfl)
                      go_wp2_with fail
                      clear t1 t1b t1c t2 t2b t2c t3 t3b t3c t4 t4n e0 e1 hlo hhi hblk hfl h6 c4 c5 c6
                      cases g6_0 : btw C.blocks 1 16 with
                      | false =>
                        refine (rbetween_calls _ _ _ _ _ g6_0).mono ?_
                        rintro e w' ⟨rfl, rfl⟩
                        go_wp2
                        have H6 : C.r6 = false := by unfold Cfg.r6; simp only [g6_0, Bool.and_false, Bool.false_and]
                        go_ret
                        refine ⟨?_, HB2.out⟩
                        have e : C.chk = 6 := by
                          unfold Cfg.chk
                          simp only [H1, H2, H3, H4, H5, H6]
                          rfl
                        rw [e]
                        try rfl
                      | true =>
                        refine (rbetween_calls _ _ _ _ _ g6_0).mono ?_
                        rintro e w' ⟨rfl, rfl⟩
                        go_wp2_with fail
                        cases g6_1 : btw C.maps 1 65536 with
                        | false =>
                          refine (rbetween_calls _ _ _ _ _ g6_1).mono ?_
                          rintro e w' ⟨rfl, rfl⟩
                          go_wp2
                          have H6 : C.r6 = false := by unfold Cfg.r6; simp only [g6_0, g6_1, Bool.and_false, Bool.false_and]
                          go_ret
                          refine ⟨?_, HB2.out⟩
                          have e : C.chk = 6 := by
                            unfold Cfg.chk
                            simp only [H1, H2, H3, H4, H5, H6]
                            rfl
                          rw [e]
                          try rfl
                        | true =>
                          refine (rbetween_calls _ _ _ _ _ g6_1).mono ?_
                          rintro e w' ⟨rfl, rfl⟩
                          go_wp2_with fail
                          cases g6_2 : btw C.flows 1 65536 with
                          | false =>
                            refine (rbetween_calls _ _ _ _ _ g6_2).mono ?_
                            rintro e w' ⟨rfl, rfl⟩
                            go_wp2
                            have H6 : C.r6 = false := by unfold Cfg.r6; simp only [g6_0, g6_1, g6_2, Bool.and_false, Bool.false_and]
                            go_ret
                            refine ⟨?_, HB2.out⟩
                            have e : C.chk = 6 := by
                              unfold Cfg.chk
                              simp only [H1, H2, H3, H4, H5, H6]
                              rfl
                            rw [e]
                            try rfl
                          | true =>
                            have H6 : C.r6 = true := by unfold Cfg.r6; simp only [g6_0, g6_1, g6_2]; try rfl
                            refine (rbetween_calls _ _ _ _ _ g6_2).mono ?_
                            rintro e w' ⟨rfl, rfl⟩
                            have c10 := cfg_cell HC.out HK2.out 10 _ (fun _ _ => rfl)
                            go_wp2_with fail
                            clear g6_0 g6_1 g6_2 c7 c8 c9
                            cases g7_0 : btw C.hold 1 1048576 with
                            | false =>
                              refine (rbetween_calls _ _ _ _ _ g7_0).mono ?_
                              rintro e w' ⟨rfl, rfl⟩
                              go_wp2
                              have H7 : C.r7 = false := by unfold Cfg.r7; simp only [g7_0, Bool.and_false, Bool.false_and]
                              go_ret
                              refine ⟨?_, HB2.out⟩
                              have e : C.chk = 7 := by
                                unfold Cfg.chk
                                simp only [H1, H2, H3, H4, H5, H6, H7]
                                rfl
                              rw [e]
                              try rfl
                            | true =>
                              have H7 : C.r7 = true := by unfold Cfg.r7; simp only [g7_0]; try rfl
                              refine (rbetween_calls _ _ _ _ _ g7_0).mono ?_
                              rintro e w' ⟨rfl, rfl⟩
                              have c11 := cfg_cell HC.out HK2.out 11 _ (fun _ _ => rfl)
                              have c12 := cfg_cell HC.out HK2.out 12 _ (fun _ _ => rfl)
                              have c13 := cfg_cell HC.out HK2.out 13 _ (fun _ _ => rfl)
                              have c14 := cfg_cell HC.out HK2.out 14 _ (fun _ _ => rfl)
                              go_wp2_with fail
                              clear g7_0 c10
                              cases g8_0 : btw C.udp 1 1048576 with
                              | false =>
                                refine (rbetween_calls _ _ _ _ _ g8_0).mono ?_
                                rintro e w' ⟨rfl, rfl⟩
                                go_wp2
                                have H8 : C.r8 = false := by unfold Cfg.r8; simp only [g8_0, Bool.and_false, Bool.false_and]
                                go_ret
                                refine ⟨?_, HB2.out⟩
                                have e : C.chk = 8 := by
                                  unfold Cfg.chk
                                  simp only [H1, H2, H3, H4, H5, H6, H7, H8]
                                  rfl
                                rw [e]
                                try rfl
                              | true =>
                                refine (rbetween_calls _ _ _ _ _ g8_0).mono ?_
                                rintro e w' ⟨rfl, rfl⟩
                                go_wp2_with fail
                                cases g8_1 : btw C.icmp 1 1048576 with
                                | false =>
                                  refine (rbetween_calls _ _ _ _ _ g8_1).mono ?_
                                  rintro e w' ⟨rfl, rfl⟩
                                  go_wp2
                                  have H8 : C.r8 = false := by unfold Cfg.r8; simp only [g8_0, g8_1, Bool.and_false, Bool.false_and]
                                  go_ret
                                  refine ⟨?_, HB2.out⟩
                                  have e : C.chk = 8 := by
                                    unfold Cfg.chk
                                    simp only [H1, H2, H3, H4, H5, H6, H7, H8]
                                    rfl
                                  rw [e]
                                  try rfl
                                | true =>
                                  refine (rbetween_calls _ _ _ _ _ g8_1).mono ?_
                                  rintro e w' ⟨rfl, rfl⟩
                                  go_wp2_with fail
                                  cases g8_2 : btw C.opn 1 1048576 with
                                  | false =>
                                    refine (rbetween_calls _ _ _ _ _ g8_2).mono ?_
                                    rintro e w' ⟨rfl, rfl⟩
                                    go_wp2
                                    have H8 : C.r8 = false := by unfold Cfg.r8; simp only [g8_0, g8_1, g8_2, Bool.and_false, Bool.false_and]
                                    go_ret
                                    refine ⟨?_, HB2.out⟩
                                    have e : C.chk = 8 := by
                                      unfold Cfg.chk
                                      simp only [H1, H2, H3, H4, H5, H6, H7, H8]
                                      rfl
                                    rw [e]
                                    try rfl
                                  | true =>
                                    refine (rbetween_calls _ _ _ _ _ g8_2).mono ?_
                                    rintro e w' ⟨rfl, rfl⟩
                                    go_wp2_with fail
                                    cases g8_3 : btw C.trans 1 1048576 with
                                    | false =>
                                      refine (rbetween_calls _ _ _ _ _ g8_3).mono ?_
                                      rintro e w' ⟨rfl, rfl⟩
                                      go_wp2
                                      have H8 : C.r8 = false := by unfold Cfg.r8; simp only [g8_0, g8_1, g8_2, g8_3, Bool.and_false, Bool.false_and]
                                      go_ret
                                      refine ⟨?_, HB2.out⟩
                                      have e : C.chk = 8 := by
                                        unfold Cfg.chk
                                        simp only [H1, H2, H3, H4, H5, H6, H7, H8]
                                        rfl
                                      rw [e]
                                      try rfl
                                    | true =>
                                      have H8 : C.r8 = true := by unfold Cfg.r8; simp only [g8_0, g8_1, g8_2, g8_3]; try rfl
                                      have c15 := cfg_cell HC.out HK2.out 15 _ (fun _ _ => rfl)
                                      have c16 := cfg_cell HC.out HK2.out 16 _ (fun _ _ => rfl)
                                      by_cases t1 : C.minlife < 1
                                      · have t1b : decide (C.minlife < 1) = true := decide_eq_true t1
                                        have t1c : decide (1 > C.minlife) = true := decide_eq_true t1
                                        refine (rbetween_calls _ _ _ _ _ g8_3).mono ?_
                                        rintro e w' ⟨rfl, rfl⟩
                                        go_wp2
                                        have H9 : C.r9 = false := by unfold Cfg.r9 btw; rw [Bool.eq_false_iff]; intro hh; simp only [Bool.and_eq_true, decide_eq_true_eq] at hh; omega
                                        go_ret
                                        refine ⟨?_, HB2.out⟩
                                        have e : C.chk = 9 := by
                                          unfold Cfg.chk
                                          simp only [H1, H2, H3, H4, H5, H6, H7, H8, H9]
                                          rfl
                                        rw [e]
                                        try rfl
                                      · have t1b : decide (C.minlife < 1) = false := decide_eq_false t1
                                        have t1c : decide (1 > C.minlife) = false := decide_eq_false t1
                                        by_cases t2 : C.maxlife < C.minlife
                                        · have t2b : decide (C.maxlife < C.minlife) = true := decide_eq_true t2
                                          have t2c : decide (C.minlife > C.maxlife) = true := decide_eq_true t2
                                          refine (rbetween_calls _ _ _ _ _ g8_3).mono ?_
                                          rintro e w' ⟨rfl, rfl⟩
                                          go_wp2
                                          have H9 : C.r9 = false := by unfold Cfg.r9 btw; rw [Bool.eq_false_iff]; intro hh; simp only [Bool.and_eq_true, decide_eq_true_eq] at hh; omega
                                          go_ret
                                          refine ⟨?_, HB2.out⟩
                                          have e : C.chk = 9 := by
                                            unfold Cfg.chk
                                            simp only [H1, H2, H3, H4, H5, H6, H7, H8, H9]
                                            rfl
                                          rw [e]
                                          try rfl
                                        · have t2b : decide (C.maxlife < C.minlife) = false := decide_eq_false t2
                                          have t2c : decide (C.minlife > C.maxlife) = false := decide_eq_false t2
                                          by_cases t3 : C.maxlife > 16777216
                                          · have t3b : decide (C.maxlife > 16777216) = true := decide_eq_true t3
                                            have t3c : decide (16777216 < C.maxlife) = true := decide_eq_true t3
                                            refine (rbetween_calls _ _ _ _ _ g8_3).mono ?_
                                            rintro e w' ⟨rfl, rfl⟩
                                            go_wp2
                                            have H9 : C.r9 = false := by unfold Cfg.r9 btw; rw [Bool.eq_false_iff]; intro hh; simp only [Bool.and_eq_true, decide_eq_true_eq] at hh; omega
                                            go_ret
                                            refine ⟨?_, HB2.out⟩
                                            have e : C.chk = 9 := by
                                              unfold Cfg.chk
                                              simp only [H1, H2, H3, H4, H5, H6, H7, H8, H9]
                                              rfl
                                            rw [e]
                                            try rfl
                                          · have t3b : decide (C.maxlife > 16777216) = false := decide_eq_false t3
                                            have t3c : decide (16777216 < C.maxlife) = false := decide_eq_false t3
                                            have H9 : C.r9 = true := by unfold Cfg.r9 btw; simp only [Bool.and_eq_true, decide_eq_true_eq]; omega
                                            refine (rbetween_calls _ _ _ _ _ g8_3).mono ?_
                                            rintro e w' ⟨rfl, rfl⟩
                                            go_wp2
                                            go_ret
                                            refine ⟨?_, HB2.out⟩
                                            have e : C.chk = 0 := by
                                              unfold Cfg.chk
                                              simp only [H1, H2, H3, H4, H5, H6, H7, H8, H9]
                                              rfl
                                            rw [e]
                                            try rfl
end Go.Proofs.Ytoapbppjkidgiaa.Setup
