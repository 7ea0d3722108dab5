/- Pool10: a shape's configuration may be; PoolRests. Conditions: none but that the numbers are of their kinds. -/
import Derived.Test.YtoapbppjkidgiaaPool9
import Derived.Laws.Bits128
namespace Go.Proofs.Ytoapbppjkidgiaa.Pool
open Go.RowKit Go.Proofs.YtoapbppjkidgiaaW.PrintWords Go.Proofs.YtoapbppjkidgiaaW.PrintLast Go.Proofs.YtoapbppjkidgiaaW.PrintMore Tape Setup
set_option linter.unusedVariables false
set_option linter.unusedSimpArgs false
set_option maxRecDepth 100000
theorem btw_of {x lo hi : Int} (h1 : lo ≤ x) (h2 : x ≤ hi) : btw x lo hi = true := by
  unfold btw
  rw [decide_eq_true h1, decide_eq_true h2]
  rfl
theorem shp_good (S : Shp) (hS : S.Fits) : S.cfg.good = true := by
  have h1 : S.cfg.r1 = true := (show S0.cfg.r1 = true by decide +kernel)
  have h2 : S.cfg.r2 = true := (show S0.cfg.r2 = true by decide +kernel)
  have ho := upn_in S.outside 3 (by decide)
  have h3 : S.cfg.r3 = true := by
    have key : ∀ n : Nat, 1 ≤ n → n ≤ 3 → ({ S0.cfg with outer := addrs n } : Cfg).outs = true := by
      intro n h1 h2
      have : n = 1 ∨ n = 2 ∨ n = 3 := by omega
      rcases this with rfl | rfl | rfl <;> decide +kernel
    exact key (upn S.outside 3).toNat (by omega) (by omega)
  have h4 : S.cfg.r4 = true := (show S0.cfg.r4 = true by decide +kernel)
  have hc := upn_in S.count 4 (by decide)
  have h5 : S.cfg.r5 = true := by
    have e : S.cfg.high = 1023 + 16 * upn S.count 4 := rfl
    have e1 : S.cfg.low = 1024 := rfl
    have e2 : S.cfg.block = 16 := rfl
    unfold Cfg.r5
    rw [e, e1, e2, btw_of (by omega) (by omega), decide_eq_true (by omega), show (1023 + 16 * upn S.count 4 - 1024 + 1) % 16 = 0 by omega]
    rfl
  have u := upn_in S.blocks 3 (by decide)
  have u1 := upn_in S.maps 24 (by decide)
  have u2 := upn_in S.flows 24 (by decide)
  have h6 : S.cfg.r6 = true := by
    unfold Cfg.r6
    rw [show S.cfg.blocks = upn S.blocks 3 from rfl, show S.cfg.maps = upn S.maps 24 from rfl, show S.cfg.flows = upn S.flows 24 from rfl, btw_of (by omega) (by omega), btw_of (by omega) (by omega), btw_of (by omega) (by omega)]
    rfl
  have u3 := upn_in S.hold 9 (by decide)
  have h7 : S.cfg.r7 = true := by
    unfold Cfg.r7
    rw [show S.cfg.hold = upn S.hold 9 from rfl, btw_of (by omega) (by omega)]
  have u4 := upn_in S.udp 20 (by decide)
  have u5 := upn_in S.icmp 20 (by decide)
  have u6 := upn_in S.opn 60 (by decide)
  have u7 := upn_in S.trans 20 (by decide)
  have h8 : S.cfg.r8 = true := by
    unfold Cfg.r8
    rw [show S.cfg.udp = upn S.udp 20 from rfl, show S.cfg.icmp = upn S.icmp 20 from rfl, show S.cfg.opn = upn S.opn 60 from rfl, show S.cfg.trans = upn S.trans 20 from rfl, btw_of (by omega) (by omega), btw_of (by omega) (by omega), btw_of (by omega) (by omega), btw_of (by omega) (by omega)]
    rfl
  have u8 := upn_in S.least 9 (by decide)
  have h9 : S.cfg.r9 = true := by
    have hm := hS.most
    unfold Setup.u8 at hm
    unfold Cfg.r9
    rw [show S.cfg.minlife = upn S.least 9 from rfl, show S.cfg.maxlife = upn S.least 9 + S.most % 50 from rfl, btw_of (by omega) (by omega), decide_eq_true (by omega)]
    rfl
  unfold Cfg.good Cfg.chk
  rw [h1, h2, h3, h4, h5, h6, h7, h8, h9]
  rfl
theorem shp_count (S : Shp) (hS : S.Fits) : S.cfg.count = upn S.count 4 := by
  unfold Cfg.count
  rw [if_pos (shp_good S hS), show S.cfg.high = 1023 + 16 * upn S.count 4 from rfl, show S.cfg.low = 1024 from rfl, show S.cfg.block = 16 from rfl]
  omega
theorem IsCfg.one {w : World} {cs : Array Value} {C : Cfg} (h : IsCfg w cs C) : cs.all (·.oneCell') = true := by
  obtain ⟨_, A, c, rfl, _⟩ := h
  unfold Cfg.cells
  simp [Value.oneCell']
abbrev zCfg : Array Value := #[.int .u32 0, .int .i64 0, .int .u32 0, .slice none 0 0, .int .i64 0, .int .i64 0, .int .i64 0, .int .i64 0, .int .i64 0, .int .i64 0, .int .i64 0, .int .i64 0, .int .i64 0, .int .i64 0, .int .i64 0, .int .i64 0, .int .i64 0, .bool false]
theorem i64_and30 (n : Int) : bits .and .i64 n 1073741823 = n % 1073741824 := by
  have h127 : (BitVec.ofInt 64 1073741823).toNat = 2 ^ 30 - 1 := by decide
  have key : (BitVec.ofInt 64 n &&& BitVec.ofInt 64 1073741823).toNat = (n % ((2 ^ 64 : Nat) : Int)).toNat % 2 ^ 30 := by
    rw [BitVec.toNat_and, BitVec.toNat_ofInt, h127, Nat.and_two_pow_sub_one_eq_mod]
  show IntKind.i64.wrap ((BitVec.ofInt 64 n &&& BitVec.ofInt 64 1073741823).toNat : Nat) = n % 1073741824
  rw [key, IntKind.wrap_i64]
  omega
set_option maxHeartbeats 1000000 in
theorem round_calls (w : World) (x n : Int) (hx : i64 x) (hn : 1 ≤ n ∧ n ≤ 4) :
    Calls Try.prog 42 #[.int .i64 x, .int .i64 n] w fun e w' => (∃ b : Nat, (b : Int) < n ∧ e = .returned (.int .i64 b)) ∧ w' = w := by
  unfold i64 at hx
  have hn0 : (n == 0) = false := beq_eq_false_iff_ne.2 (by omega)
  have hn1 : ¬ n = 0 := by omega
  have g1 := Int.tmod_lt_of_pos x (show 0 < n by omega)
  have g2 := Int.lt_tmod_of_pos x (show 0 < n by omega)
  by_cases ht : x.tmod n < 0
  · have htb : decide (x.tmod n < 0) = true := decide_eq_true ht
    have hw : wrap64 (x.tmod n + n) = x.tmod n + n := by unfold wrap64; omega
    go_enter Try.func42, Try.ntmps42
    go_wp2
    go_ret
    refine ⟨⟨(x.tmod n + n).toNat, by omega, ?_⟩, rfl⟩
    rw [Int.toNat_of_nonneg (by omega), ← hw]
    rfl
  · have htb : decide (x.tmod n < 0) = false := decide_eq_false ht
    go_enter Try.func42, Try.ntmps42
    go_wp2
    go_ret
    refine ⟨⟨(x.tmod n).toNat, by omega, ?_⟩, rfl⟩
    rw [Int.toNat_of_nonneg (by omega)]
    rfl
end Go.Proofs.Ytoapbppjkidgiaa.Pool
