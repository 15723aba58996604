import Derived.Test.YtljfcdfdedkajaaDoorZPbad
import Derived.Test.YtljfcdfdedkajaaDoorZPng
import Derived.Test.YtljfcdfdedkajaaDoorZTRef
import Derived.Test.YtljfcdfdedkajaaDoorZQ8
import Derived.Test.YtljfcdfdedkajaaDoorZQ15
import Derived.Test.YtljfcdfdedkajaaDoorZQ17
import Derived.Test.YtljfcdfdedkajaaDoorZQ5
import Derived.Outline
import Derived.StillTailTactics
set_option linter.unusedVariables false
set_option linter.unusedSimpArgs false
namespace Go.Proofs.YtljfcdfdedkajaaDoor.Q
open Go.RowKit Go.Proofs.YtljfcdfdedkajaaDoorW.PrintWords Go.Proofs.YtljfcdfdedkajaaDoorW.PrintLast Go.Proofs.YtljfcdfdedkajaaDoorW.PrintMore
theorem eqPlace (d : Nat) (w : World) (x0 y0 : Int) (x1 y1 : Int) :
  (Op.equalIn (d + 2) 35 (.agg #[.int .i64 x0, .int .i64 x1]) (.agg #[.int .i64 y0, .int .i64 y1])).run Tryd.prog w = .ok (x0 == y0 && (x1 == y1)) w := by
 refine eqA_of Tryd.underlying35 (by kernel_rfl) ?_
 refine eqf_cons (by rfl) (by go_simp; rfl) (by go_simp; rfl) (by go_simp) ?_
 exact eqf_last (by rfl) (by go_simp; rfl) (by go_simp; rfl) (by go_simp)
attribute [local go_sem high] eqPlace
theorem fieldPlace0 (x y : Value) (w : World) : (Instr.field 35 (.agg #[x, y]) 0).run Tryd.prog w = .ok x w := by kernel_rfl
theorem fieldPlace1 (x y : Value) (w : World) : (Instr.field 35 (.agg #[x, y]) 1).run Tryd.prog w = .ok y w := by kernel_rfl
attribute [local go_sem high] fieldPlace0 fieldPlace1
theorem below_dr {w w' : World} {B : Nat} (h : Below B w w') (n : Nat) : Below B w (w'.drewN n) := ⟨h.os, h.tape, h.output, h.size, h.block⟩
theorem rows_slice {w : World} {b : Nat} {ok : Nat → Prop} {v : Value} {xs : List S31} (h : Kd.R k31 31 w b ok v xs) : ∃ A c, v = .slice A xs.length c := by
 obtain ⟨_, inner, ho, _⟩ := h
 exact own_slice ho
theorem locks5_calls (ns s : List Int) (most : Nat) (hm : most ≤ 100) : ∃ r : List Lk, Fines r ∧ r.length ≤ most ∧ ∀ (A0 : Option Addr) (c0 : Nat) (A1 : Option Addr) (c1 : Nat) (w : World), Kd.C (Kd.int .i64) w A0 ns.length ns → ns.length ≤ c0 → Kd.C (Kd.int .u8) w A1 s.length s → s.length ≤ c1 →
  Calls Tryd.prog 7 #[.slice A0 ns.length c0, .slice A1 s.length c1, .int .i64 (most : Int)] w fun e w' => ∃ A c, e = .returned (.slice A r.length c) ∧ Kd.C k31 w' A r.length (outs r) ∧ r.length ≤ c ∧ Below w.heap.size w w' := by
 obtain ⟨r, r1, r2, r3⟩ := locks_make ns s most hm
 obtain ⟨k, hk⟩ := ev_at r1
 refine ⟨r, r2, r3, fun A0 c0 A1 c1 w h0 hc0 h1 hc1 => ?_⟩
 refine (transhumancelaw5_Locks.calls k A0 c0 ns A1 c1 s most (outs r) w h0 hc0 h1 hc1 hk).mono ?_
 rintro e w' ⟨v, rfl, hv, hb⟩
 obtain ⟨A, c, rfl⟩ := rows_slice hv
 obtain ⟨hlen, hcap, hc⟩ := Kd.R_reads' hv
 have e : (outs r).length = r.length := by simp [outs]
 rw [e] at hc hcap ⊢
 exact ⟨A, c, rfl, hc, hcap, hb⟩
theorem write6_calls (r : List Lk) (hr : smallL r) (A : Option Addr) (c : Nat) (w : World) (h : Kd.C k31 w A r.length (outs r)) (hc : r.length ≤ c) :
  Calls Tryd.prog 13 #[.slice A r.length c] w fun e w' => e = .returned (.string (bs (writeText r))) ∧ Below w.heap.size w w' := by
 obtain ⟨k, hk⟩ := ev_at (write_ev r hr)
 have e : (outs r).length = r.length := by simp [outs]
 have := transhumanceref6_Write.calls k A c (outs r) _ w (by rw [e]; exact h) (by rw [e]; exact hc) hk
 rw [e] at this
 exact this
theorem lbad_post {w w' : World} {s : ByteArray} {wh : Nat} {e : Int} {en : Ending} (h : locksR s = ([], wh, e)) (he : e ≠ 0) (hp : LocksPost w s en w') :
  ∃ A c, en = .returned (.tuple #[.slice A 0 c, .agg #[.int .i64 ((place (s.data.toList.take wh)).1 : Int), .int .i64 ((place (s.data.toList.take wh)).2 : Int)], .int .i64 e]) ∧ Below w.heap.size w w' := by
 obtain ⟨v, rfl, hl, hb⟩ := hp
 rw [h] at hl
 obtain ⟨A, c, rfl⟩ := own_slice hl
 refine ⟨A, c, ?_, hb⟩
 unfold locksV
 rw [h]
 simp only [if_neg he]
 rfl
theorem lbad_calls {s : ByteArray} {wh : Nat} {e : Int} (hs : s.size ≤ 140737488351232) (h : locksR s = ([], wh, e)) (he : e ≠ 0) (w : World) (hG : GL w) :
  Calls Tryd.prog 11 #[.string s] w fun en w' => ∃ A c, en = .returned (.tuple #[.slice A 0 c, .agg #[.int .i64 ((place (s.data.toList.take wh)).1 : Int), .int .i64 ((place (s.data.toList.take wh)).2 : Int)], .int .i64 e]) ∧ Below w.heap.size w w' := by
 have hc : Calls Tryd.prog 11 #[.string s] w (LocksPost w s) := by
  by_cases hl : 8000 < s.size
  ·exact locks_long w s hs hl
  ·exact locks_short w s (by omega) hG
 exact hc.mono fun en w' hp => lbad_post h he hp
theorem rbad_calls {s : ByteArray} {wh : Nat} {e : Int} (hs : s.size ≤ 140737488351232) (h : locksR s = ([], wh, e)) (he : e ≠ 0) (w : World) :
  Calls Tryd.prog 14 #[.string s] w fun en w' => ∃ A c, en = .returned (.tuple #[.slice A 0 c, .agg #[.int .i64 ((place (s.data.toList.take wh)).1 : Int), .int .i64 ((place (s.data.toList.take wh)).2 : Int)], .int .i64 e]) ∧ Below w.heap.size w w' := by
 have hc : Calls Tryd.prog 14 #[.string s] w (LocksPost w s) := by
  by_cases hl : 8000 < s.size
  ·exact locks6_long w s hs hl
  ·exact locks6_short w s (by omega)
 exact hc.mono fun en w' hp => lbad_post h he hp
theorem place_calls6 (s : ByteArray) (wh : Nat) (hwh : wh ≤ s.size) (hs : s.size ≤ 140737488351232) (w : World) :
  Calls Tryd.prog 15 #[.string s, .int .i64 wh] w fun e w' => e = .returned (.agg #[.int .i64 ((place (s.data.toList.take wh)).1 : Int), .int .i64 ((place (s.data.toList.take wh)).2 : Int)]) ∧ Below w.heap.size w w' := by
 obtain ⟨k, hk⟩ := ev_at (place_ev s hs wh hwh)
 exact transhumanceref1_Place.calls k _ _ _ _ w hk
def laid (t : ByteArray) (k : Nat) (b : UInt8) : ByteArray := t.extract 0 k ++ bs [b] ++ t.extract k t.size
theorem laid_bad (t : ByteArray) (k : Nat) (b : UInt8) (hk : k ≤ t.size) (hb : plainB b = false) : BadAt (laid t k b) k ∧ (laid t k b).size = t.size + 1 := by
 have hz : (laid t k b).size = t.size + 1 := by
  unfold laid
  rw [ByteArray.size_append, ByteArray.size_append, ByteArray.size_extract, ByteArray.size_extract, size_bs]
  simp only [List.length_cons, List.length_nil]
  omega
 refine ⟨⟨by omega, ?_⟩, hz⟩
 have e : (laid t k b).data.toList = (t.data.toList.take k) ++ b :: (t.data.toList.drop k) := by
  unfold laid
  rw [ByteArray.data_append, ByteArray.data_append, ByteArray.data_extract, ByteArray.data_extract, show (bs [b]).data = #[b] from rfl]
  simp [List.extract_eq_take_drop]
  rw [List.take_of_length_le (by rw [List.length_drop, data_length]; omega)]
 have hg : (laid t k b).data.toList[k]? = some b := by
  rw [e, List.getElem?_append_right (by rw [List.length_take, data_length]; omega), List.length_take, data_length, Nat.min_eq_left hk, Nat.sub_self]
  rfl
 have h2 : (laid t k b).data.toList[k]? = some ((laid t k b)[k]'(by omega)) := by
  rw [List.getElem?_eq_getElem (by rw [data_length]; omega)]
  rfl
 rw [h2] at hg
 rw [Option.some.inj hg]
 exact hb
theorem keep5 {w W W' : World} {V P : Nat} {a b c d : Value} (hs : W.cell? ⟨V, 0, none⟩ = some a ∧ W.cell? ⟨V, 1, none⟩ = some b ∧ W.cell? ⟨P, 0, none⟩ = some c ∧ W.cell? ⟨P, 1, none⟩ = some d ∧ Below w.heap.size w W) (hb : Below W.heap.size W W') : W'.cell? ⟨V, 0, none⟩ = some a ∧ W'.cell? ⟨V, 1, none⟩ = some b ∧ W'.cell? ⟨P, 0, none⟩ = some c ∧ W'.cell? ⟨P, 1, none⟩ = some d ∧ Below w.heap.size w W' :=
 ⟨pw_cell_below hb hs.1, pw_cell_below hb hs.2.1, pw_cell_below hb hs.2.2.1, pw_cell_below hb hs.2.2.2.1, below_then hs.2.2.2.2 hs.2.2.2.2.size hb⟩
theorem keep5B {w W : World} {V P : Nat} {a b c d : Value} (hs : W.cell? ⟨V, 0, none⟩ = some a ∧ W.cell? ⟨V, 1, none⟩ = some b ∧ W.cell? ⟨P, 0, none⟩ = some c ∧ W.cell? ⟨P, 1, none⟩ = some d ∧ Below w.heap.size w W) : Below w.heap.size w W := hs.2.2.2.2
theorem bad_pack (T : ByteArray) (k : Nat) (b : UInt8) (hk : k ≤ T.size) (hb : plainB b = false) (U : ByteArray) (hU : U = T.extract 0 k ++ bs [b] ++ T.extract k T.size) : BadAt U k ∧ U.size = T.size + 1 := by
 subst hU
 exact laid_bad T k b hk hb
section
variable (w : World)
set_option maxHeartbeats 2000000 in
set_option maxRecDepth 100000 in
theorem badw_calls (A0 : Option Addr) (c0 : Nat) (l0 : List Int) (A1 : Option Addr) (c1 : Nat) (l1 : List Int) (at_ by_ : Int) (hr0 : Kd.C (Kd.int .i64) w A0 l0.length l0) (hc0 : l0.length ≤ c0) (hr1 : Kd.C (Kd.int .u8) w A1 l1.length l1) (hc1 : l1.length ≤ c1) (hby : 0 ≤ by_ ∧ by_ < 256) (hG : GL w) :
  Calls Tryd.prog 4 #[.slice A0 l0.length c0, .slice A1 l1.length c1, .int .i64 at_, .int .u8 by_] w fun e w' => e = .returned (.bool true) ∧ Below w.heap.size w w' := by
 have HG := Lib.hid hG
 have HR0 := Lib.hid hr0
 have HR1 := Lib.hid hr1
 have HKN := Lib.hid (fun W (hW : GL W) => transhumancelaw6_known.calls true W hW known_true)
 clear hG hr0 hr1
 obtain ⟨b, rfl⟩ : ∃ b : UInt8, by_ = (b.toNat : Int) := ⟨UInt8.ofNat by_.toNat, by rw [UInt8.toNat_ofNat']; omega⟩
 clear hby
 go_enter Tryd.func4, Tryd.ntmps4
 go_wp2_with (fail)
 refine (HKN.out _ HG.out).mono ?_
 rintro e w1 ⟨rfl, hb1⟩
 have HB1 := Lib.hid hb1
 clear hb1 HKN
 by_cases h60 : 60 < l1.length
 ·have d1 : decide (60 < l1.length) = true := decide_eq_true h60
  have d1i : decide ((60 : Int) < (l1.length : Int)) = true := decide_eq_true (by omega)
  go_wp2_with (fail)
  go_ret
  exact ⟨rfl, HB1.out⟩
 have d1 : decide (60 < l1.length) = false := decide_eq_false h60
 have d1i : decide ((60 : Int) < (l1.length : Int)) = false := decide_eq_false (by omega)
 by_cases h9 : b.toNat = 9
 ·have d2 : ((b.toNat : Int) == 9) = true := by rw [h9]; rfl
  go_wp2_with (fail)
  go_ret
  exact ⟨rfl, HB1.out⟩
 have d2 : ((b.toNat : Int) == 9) = false := by simp only [beq_eq_false_iff_ne, ne_eq]; omega
 by_cases h10 : b.toNat = 10
 ·have d3 : ((b.toNat : Int) == 10) = true := by rw [h10]; rfl
  go_wp2_with (fail)
  go_ret
  exact ⟨rfl, HB1.out⟩
 have d3 : ((b.toNat : Int) == 10) = false := by simp only [beq_eq_false_iff_ne, ne_eq]; omega
 by_cases hin : 32 ≤ b.toNat ∧ b.toNat ≤ 126
 ·have d4 : decide (32 ≤ b.toNat) = true := decide_eq_true hin.1
  have d4i : decide ((32 : Int) ≤ (b.toNat : Int)) = true := decide_eq_true (by omega)
  have d5 : decide (b.toNat ≤ 126) = true := decide_eq_true hin.2
  have d5i : decide ((b.toNat : Int) ≤ 126) = true := decide_eq_true (by omega)
  go_wp2_with (fail)
  go_ret
  exact ⟨rfl, HB1.out⟩
 have hpl : plainB b = false := by
  cases hp : plainB b with
  | false => rfl
  | true =>
   simp only [plainB, Bool.or_eq_true, Bool.and_eq_true, beq_iff_eq, decide_eq_true_eq, UInt8.le_iff_toNat_le] at hp
   rcases hp with (h | h) | h
   ·exact absurd (by rw [h]; rfl) h9
   ·exact absurd (by rw [h]; rfl) h10
   ·exact absurd h hin
 have HPL := Lib.hid hpl
 clear hpl h9 h10
 have key : (decide (32 ≤ b.toNat) = true ∧ decide ((32 : Int) ≤ (b.toNat : Int)) = true ∧ decide (b.toNat ≤ 126) = false ∧ decide ((b.toNat : Int) ≤ 126) = false) ∨ (decide (32 ≤ b.toNat) = false ∧ decide ((32 : Int) ≤ (b.toNat : Int)) = false) := by
  by_cases h32 : 32 ≤ b.toNat
  ·left; exact ⟨decide_eq_true h32, decide_eq_true (by omega), decide_eq_false (by omega), decide_eq_false (by omega)⟩
  ·right; exact ⟨decide_eq_false h32, decide_eq_false (by omega)⟩
 have HKEY := Lib.hid key
 clear hin key
 go_upto_region 3 with (fail)
 go_cut [38] (fun x wx => x = .bool false ∧ wx = w1)
 case first =>
  rcases HKEY.out with ⟨d4, d4i, d5, d5i⟩ | ⟨d4, d4i⟩
  ·go_wp2_with (fail)
   go_meet
   exact ⟨rfl, rfl⟩
  ·go_wp2_with (fail)
   go_meet
   exact ⟨rfl, rfl⟩
 case rest =>
 obtain ⟨rfl, rfl⟩ := hcut
 obtain ⟨r, hrf, hrl, hrc⟩ := locks5_calls l0 l1 5 (by decide)
 have HLC := Lib.hid hrc
 have HWC := Lib.hid (write6_calls r (hrf.small (by omega)))
 have hwl := write_len r (hrf.small (by omega)).lk
 clear hrc
 have hT : (bs (writeText r)).size ≤ 1000000000 := by rw [size_bs]; omega
 have HC0 := Lib.hid (fun W (hb : Below w.heap.size w W) => Kd.C_below HR0.out hb)
 generalize bs (writeText r) = wt at *
 have e1 : (9223372036854775807 < 5 + wt.size) = False := eq_false (by omega)
 have e2 : (9223372036854775807 < 5 + wt.size + 5) = False := eq_false (by omega)
 have HC1 := Lib.hid (Kd.C_below HR1.out HB1.out)
 have HC0' := Lib.hid (Kd.C_below HR0.out HB1.out)
 clear HC0
 go_wp2_with (fail)
 refine (HLC.out A0 c0 A1 c1 _ HC0'.out hc0 HC1.out hc1).mono ?_
 rintro e w2 ⟨A, c, rfl, hC, hcap, hb2⟩
 have HB2 := Lib.hid (below_then HB1.out HB1.out.size hb2)
 have HC2 := Lib.hid hC
 clear hb2 hC
 go_wp2_with (fail)
 refine (HWC.out A c _ HC2.out hcap).mono ?_
 rintro e w3 ⟨rfl, hb3⟩
 have HB3 := Lib.hid (below_then HB2.out HB2.out.size hb3)
 clear hb3 HC2 hcap HB2 HLC HWC HC1 HC0' HR0 HR1
 go_upto_region 6 with (fail)
 have hTz : ((⟨#[35, 32, 115, 111, 10]⟩ : ByteArray) ++ wt ++ (⟨#[35, 32, 101, 110, 100]⟩ : ByteArray)).size ≤ 1000000010 := by
  rw [ByteArray.size_append, ByteArray.size_append]
  have h1 : (⟨#[35, 32, 115, 111, 10]⟩ : ByteArray).size = 5 := rfl
  have h2 : (⟨#[35, 32, 101, 110, 100]⟩ : ByteArray).size = 5 := rfl
  omega
 generalize (⟨#[35, 32, 115, 111, 10]⟩ : ByteArray) ++ wt ++ (⟨#[35, 32, 101, 110, 100]⟩ : ByteArray) = T at *
 clear e1 e2
 obtain ⟨k0, k1⟩ := win_bd at_ ((T.size : Int) + 1) (by omega)
 have HW1 := Lib.hid (fun W => transhumancelaw6_within.calls at_ ((T.size : Int) + 1) _ W (within_f at_ ((T.size : Int) + 1) (by omega) (by omega)))
 generalize win at_ ((T.size : Int) + 1) = kk at *
 obtain ⟨k, rfl⟩ : ∃ k : Nat, kk = k := ⟨kk.toNat, by omega⟩
 have hk : k ≤ T.size := by omega
 have i9 : IntKind.i64.wrap ((T.size : Int) + 1) = (T.size : Int) + 1 := IntWalk.i64_in _ ⟨by omega, by omega⟩
 go_wp2_with (fail)
 refine (HW1.out _).mono ?_
 rintro e w4 ⟨rfl, n4, rfl⟩
 have HB4 := Lib.hid (below_dr HB3.out n4)
 generalize w3.drewN n4 = w4 at *
 clear HW1 HB3 i9
 have kc : (convert 23 9 (.slice (some ⟨w4.heap.size, 0, none⟩) 1 1)).run Tryd.prog (w4.alloc (.cells #[.int .u8 (b.toNat : Int)] 5)).drew = .ok (.string (bs [b])) (w4.alloc (.cells #[.int .u8 (b.toNat : Int)] 5)).drew :=
  run_convert_bytes_back (P := Tryd.prog) (w4.alloc (.cells #[.int .u8 (b.toNat : Int)] 5)).drew 23 9 5 ⟨w4.heap.size, 0, none⟩ 1 [b] Tryd.underlying23 Tryd.underlying5 Tryd.underlying9 (fun j hj => by
   obtain rfl : j = 0 := by simp at hj; exact hj
   rw [show (⟨w4.heap.size, 0, none⟩ : Addr).add 0 = ⟨w4.heap.size, 0, none⟩ from rfl]
   exact (Blk.new w4 5 #[.int .u8 (b.toNat : Int)]).cell 0)
 have b1 : (0 : Int) ≤ (k : Int) ∧ (k : Int) ≤ (T.size : Int) := ⟨by omega, by omega⟩
 have e1 : (9223372036854775807 < k + 1) = False := eq_false (by omega)
 have e2 : (9223372036854775807 < k + 1 + (T.size - k)) = False := eq_false (by omega)
 have e3 : (9223372036854775807 < k + (bs [b]).size) = False := eq_false (by rw [size_bs]; simp only [List.length_cons, List.length_nil]; omega)
 have e4 : (9223372036854775807 < k + (bs [b]).size + (T.size - k)) = False := eq_false (by rw [size_bs]; simp only [List.length_cons, List.length_nil]; omega)
 go_upto_region 7 with (fail)
 go_region_with (fail)
 have HB5 := Lib.hid (below_drew (HB4.out.alloc HB4.out.size (.cells #[.int .u8 (b.toNat : Int)] 5)))
 clear e1 e2 e3 e4 kc b1 HB4
 generalize hU : T.extract 0 k ++ bs [b] ++ T.extract k T.size = U
 obtain ⟨hbad, hUz⟩ := bad_pack T k b hk HPL.out U hU.symm
 clear hU
 obtain ⟨wh, er, hlk, hwk, hne⟩ := locks_badAt hbad
 have hU2 : U.size ≤ 140737488351232 := by omega
 have HL1 := Lib.hid (fun W hW => lbad_calls hU2 hlk hne W hW)
 have HL2 := Lib.hid (fun W => rbad_calls hU2 hlk hne W)
 have HPC := Lib.hid (fun W => place_calls6 U k (by omega) hU2 W)
 have hpr := place_rises U.data.toList wh (k - wh) (by rw [data_length]; omega)
 rw [show wh + (k - wh) = k from by omega] at hpr
 generalize place (U.data.toList.take wh) = p1 at *
 generalize place (U.data.toList.take k) = p2 at *
 obtain ⟨pl, pc⟩ := p1
 obtain ⟨ql, qc⟩ := p2
 simp only at hpr HL1 HL2 HPC
 generalize (w4.alloc (.cells #[.int .u8 (b.toNat : Int)] 5)).drew = w5 at *
 have ne1 : (er != 0) = true := by simpa using hne
 clear hlk hwk hbad hne
 go_wp2_with (fail)
 refine (HL1.out _ (HG.out.below0 HB5.out)).mono ?_
 rintro e w6 ⟨A6, c6, rfl, hb6⟩
 have hb60 := below_then HB5.out HB5.out.size hb6
 have HB6 := Lib.hid (hb60.alloc hb60.size (.cells #[.int .i64 (pl : Int), .int .i64 (pc : Int)] 35))
 have HV6 := Lib.hid (Blk.new w6 35 #[.int .i64 (pl : Int), .int .i64 (pc : Int)])
 clear hb6 hb60 HB5 HL1
 go_wp2_with (fail)
 refine (HL2.out _).mono ?_
 rintro e w7 ⟨A7, c7, rfl, hb7⟩
 have hb70 := below_then HB6.out HB6.out.size hb7
 have HB7 := Lib.hid (hb70.alloc hb70.size (.cells #[.int .i64 (pl : Int), .int .i64 (pc : Int)] 35))
 have HV7 := Lib.hid ((HV6.out.below hb7).alloc (.cells #[.int .i64 (pl : Int), .int .i64 (pc : Int)] 35))
 have HP7 := Lib.hid (Blk.new w7 35 #[.int .i64 (pl : Int), .int .i64 (pc : Int)])
 clear hb7 hb70 HB6 HV6 HL2
 go_upto_region 10 with (fail)
 generalize w7.alloc (.cells #[.int .i64 (pl : Int), .int .i64 (pc : Int)] 35) = W at *
 generalize w6.heap.size = V at *
 generalize w7.heap.size = P at *
 have a0 := HV7.out.cell 0
 have a1 := HV7.out.cell 1
 have b0 := HP7.out.cell 0
 have b1 := HP7.out.cell 1
 have HS0 : Hid (W.cell? ⟨V, 0, none⟩ = some (.int .i64 (pl : Int)) ∧ W.cell? ⟨V, 1, none⟩ = some (.int .i64 (pc : Int)) ∧ W.cell? ⟨P, 0, none⟩ = some (.int .i64 (pl : Int)) ∧ W.cell? ⟨P, 1, none⟩ = some (.int .i64 (pc : Int)) ∧ Below w.heap.size w W) := Lib.hid ⟨a0, a1, b0, b1, HB7.out⟩
 by_cases hlt : pl < ql
 ·have d1 : decide (pl < ql) = true := decide_eq_true hlt
  have d1i : decide ((pl : Int) < (ql : Int)) = true := decide_eq_true (by omega)
  refine wp_region_noPanic ?_
  refine wp_region_held_drew (S := fun w' => w'.cell? ⟨V, 0, none⟩ = some (.int .i64 (pl : Int)) ∧ w'.cell? ⟨V, 1, none⟩ = some (.int .i64 (pc : Int)) ∧ w'.cell? ⟨P, 0, none⟩ = some (.int .i64 (pl : Int)) ∧ w'.cell? ⟨P, 1, none⟩ = some (.int .i64 (pc : Int)) ∧ Below w.heap.size w w') (by kernel_rfl) (keep5 HS0.out (Below.refl _ _).drew) (fun hHeld => ?_)
  (refine wpAnyH_take (i := 0) (v := ?_) rfl (by kernel_rfl) (by kernel_rfl) (by kernel_rfl) (fun _ _ _ h => h) (Or.inl ⟨by rfl, ?_⟩) hHeld ?_; rotate_left; (rintro w' ⟨s0, s1, s2, s3, s4⟩; go_simp; (try with_reducible rfl)); (try simp only [List.getElem_toArray, List.getElem_cons_zero, List.getElem_cons_succ, Act.put, List.setIfInBounds_toArray, List.set_cons_zero, List.set_cons_succ]))
  (refine wpAnyH_take (i := 1) (v := ?_) rfl (by kernel_rfl) (by kernel_rfl) (by kernel_rfl) (fun _ _ _ h => h) (Or.inl ⟨by rfl, ?_⟩) hHeld ?_; rotate_left; (rintro w' ⟨s0, s1, s2, s3, s4⟩; go_simp; (try with_reducible rfl)); (try simp only [List.getElem_toArray, List.getElem_cons_zero, List.getElem_cons_succ, Act.put, List.setIfInBounds_toArray, List.set_cons_zero, List.set_cons_succ]))
  (refine wpAnyH_take (i := 2) (v := ?_) rfl (by kernel_rfl) (by kernel_rfl) (by kernel_rfl) (fun _ _ _ h => h) (Or.inl ⟨by rfl, ?_⟩) hHeld ?_; rotate_left; (rintro w' ⟨s0, s1, s2, s3, s4⟩; go_simp; (try with_reducible rfl)); (try simp only [List.getElem_toArray, List.getElem_cons_zero, List.getElem_cons_succ, Act.put, List.setIfInBounds_toArray, List.set_cons_zero, List.set_cons_succ]))
  (refine wpAnyH_take (i := 3) (v := ?_) rfl (by kernel_rfl) (by kernel_rfl) (by kernel_rfl) (fun _ _ _ h => h) (Or.inl ⟨by rfl, ?_⟩) hHeld ?_; rotate_left; (rintro w' ⟨s0, s1, s2, s3, s4⟩; go_simp; (try with_reducible rfl)); (try simp only [List.getElem_toArray, List.getElem_cons_zero, List.getElem_cons_succ, Act.put, List.setIfInBounds_toArray, List.set_cons_zero, List.set_cons_succ]))
  (refine wpAnyH_take (i := 4) (v := ?_) rfl (by kernel_rfl) (by kernel_rfl) (by kernel_rfl) (fun _ _ _ h => h) (Or.inl ⟨by rfl, ?_⟩) hHeld ?_; rotate_left; (rintro w' ⟨s0, s1, s2, s3, s4⟩; go_simp; (try with_reducible rfl)); (try simp only [List.getElem_toArray, List.getElem_cons_zero, List.getElem_cons_succ, Act.put, List.setIfInBounds_toArray, List.set_cons_zero, List.set_cons_succ]))
  (refine wpAnyH_take (i := 5) (v := ?_) rfl (by kernel_rfl) (by kernel_rfl) (by kernel_rfl) (fun _ _ _ h => h) (Or.inl ⟨by rfl, ?_⟩) hHeld ?_; rotate_left; (rintro w' ⟨s0, s1, s2, s3, s4⟩; go_simp; (try with_reducible rfl)); (try simp only [List.getElem_toArray, List.getElem_cons_zero, List.getElem_cons_succ, Act.put, List.setIfInBounds_toArray, List.set_cons_zero, List.set_cons_succ]))
  (refine wpAnyH_take (i := 6) (v := ?_) rfl (by kernel_rfl) (by kernel_rfl) (by kernel_rfl) (fun _ _ _ h => h) (Or.inl ⟨by rfl, ?_⟩) hHeld ?_; rotate_left; (rintro w' ⟨s0, s1, s2, s3, s4⟩; go_simp; (try with_reducible rfl)); (try simp only [List.getElem_toArray, List.getElem_cons_zero, List.getElem_cons_succ, Act.put, List.setIfInBounds_toArray, List.set_cons_zero, List.set_cons_succ]))
  (refine wpAnyH_take (i := 7) (v := ?_) rfl (by kernel_rfl) (by kernel_rfl) (by kernel_rfl) (fun _ _ _ h => h) (Or.inl ⟨by rfl, ?_⟩) hHeld ?_; rotate_left; (rintro w' ⟨s0, s1, s2, s3, s4⟩; go_simp; (try with_reducible rfl)); (try simp only [List.getElem_toArray, List.getElem_cons_zero, List.getElem_cons_succ, Act.put, List.setIfInBounds_toArray, List.set_cons_zero, List.set_cons_succ]))
  (refine wpAnyH_take (i := 8) (v := ?_) rfl (by kernel_rfl) (by kernel_rfl) (by kernel_rfl) (fun _ _ _ h => h) (Or.inl ⟨by rfl, ?_⟩) hHeld ?_; rotate_left; (rintro w' ⟨s0, s1, s2, s3, s4⟩; go_simp; (try with_reducible rfl)); (try simp only [List.getElem_toArray, List.getElem_cons_zero, List.getElem_cons_succ, Act.put, List.setIfInBounds_toArray, List.set_cons_zero, List.set_cons_succ]))
  (refine wpAnyH_take (i := 9) (v := ?_) rfl (by kernel_rfl) (by kernel_rfl) (by kernel_rfl) (fun _ _ _ h => h) (Or.inl ⟨by rfl, ?_⟩) hHeld ?_; rotate_left; (rintro w' ⟨s0, s1, s2, s3, s4⟩; go_simp; (try with_reducible rfl)); (try simp only [List.getElem_toArray, List.getElem_cons_zero, List.getElem_cons_succ, Act.put, List.setIfInBounds_toArray, List.set_cons_zero, List.set_cons_succ]))
  (refine wpAnyH_take (i := 10) (v := ?_) rfl (by kernel_rfl) (by kernel_rfl) (by kernel_rfl) (fun _ _ _ h => h) (Or.inl ⟨by rfl, ?_⟩) hHeld ?_; rotate_left; (rintro w' ⟨s0, s1, s2, s3, s4⟩; go_simp; (try with_reducible rfl)); (try simp only [List.getElem_toArray, List.getElem_cons_zero, List.getElem_cons_succ, Act.put, List.setIfInBounds_toArray, List.set_cons_zero, List.set_cons_succ]))
  (refine wpAnyH_take (i := 11) (v := ?_) rfl (by kernel_rfl) (by kernel_rfl) (by kernel_rfl) (fun _ _ _ h => h) (Or.inl ⟨by rfl, ?_⟩) hHeld ?_; rotate_left; (rintro w' ⟨s0, s1, s2, s3, s4⟩; go_simp; (try with_reducible rfl)); (try simp only [List.getElem_toArray, List.getElem_cons_zero, List.getElem_cons_succ, Act.put, List.setIfInBounds_toArray, List.set_cons_zero, List.set_cons_succ]))
  (refine wpAnyH_take (i := 12) (v := ?_) rfl (by kernel_rfl) (by kernel_rfl) (by kernel_rfl) (fun _ _ _ h => h) (Or.inl ⟨by rfl, ?_⟩) hHeld ?_; rotate_left; (rintro w' ⟨s0, s1, s2, s3, s4⟩; go_simp; (try with_reducible rfl)); (try simp only [List.getElem_toArray, List.getElem_cons_zero, List.getElem_cons_succ, Act.put, List.setIfInBounds_toArray, List.set_cons_zero, List.set_cons_succ]))
  (refine wpAnyH_take (i := 13) (v := ?_) rfl (by kernel_rfl) (by kernel_rfl) (by kernel_rfl) (fun _ _ _ h => h) (Or.inl ⟨by rfl, ?_⟩) hHeld ?_; rotate_left; (rintro w' ⟨s0, s1, s2, s3, s4⟩; go_simp; (try with_reducible rfl)); (try simp only [List.getElem_toArray, List.getElem_cons_zero, List.getElem_cons_succ, Act.put, List.setIfInBounds_toArray, List.set_cons_zero, List.set_cons_succ]))
  (refine wpAnyH_take (i := 14) (v := ?_) rfl (by kernel_rfl) (by kernel_rfl) (by kernel_rfl) (fun _ _ _ h => h) (Or.inl ⟨by rfl, ?_⟩) hHeld ?_; rotate_left; (rintro w' ⟨s0, s1, s2, s3, s4⟩; go_simp; (try with_reducible rfl)); (try simp only [List.getElem_toArray, List.getElem_cons_zero, List.getElem_cons_succ, Act.put, List.setIfInBounds_toArray, List.set_cons_zero, List.set_cons_succ]))
  (refine wpAnyH_take (i := 15) (v := ?_) rfl (by kernel_rfl) (by kernel_rfl) (by kernel_rfl) (fun _ _ _ h => h) (Or.inl ⟨by rfl, ?_⟩) hHeld ?_; rotate_left; (rintro w' ⟨s0, s1, s2, s3, s4⟩; go_simp; (try with_reducible rfl)); (try simp only [List.getElem_toArray, List.getElem_cons_zero, List.getElem_cons_succ, Act.put, List.setIfInBounds_toArray, List.set_cons_zero, List.set_cons_succ]))
  (refine wpAnyH_take (i := 16) (v := ?_) rfl (by kernel_rfl) (by kernel_rfl) (by kernel_rfl) (fun _ _ _ h => h) (Or.inl ⟨by rfl, ?_⟩) hHeld ?_; rotate_left; (rintro w' ⟨s0, s1, s2, s3, s4⟩; go_simp; (try with_reducible rfl)); (try simp only [List.getElem_toArray, List.getElem_cons_zero, List.getElem_cons_succ, Act.put, List.setIfInBounds_toArray, List.set_cons_zero, List.set_cons_succ]))
  (refine wpAnyH_take (i := 17) (v := ?_) rfl (by kernel_rfl) (by kernel_rfl) (by kernel_rfl) (fun _ _ _ h => h) (Or.inl ⟨by rfl, ?_⟩) hHeld ?_; rotate_left; (rintro w' ⟨s0, s1, s2, s3, s4⟩; go_simp; (try with_reducible rfl)); (try simp only [List.getElem_toArray, List.getElem_cons_zero, List.getElem_cons_succ, Act.put, List.setIfInBounds_toArray, List.set_cons_zero, List.set_cons_succ]))
  (refine wpAnyH_take (i := 18) (v := ?_) rfl (by kernel_rfl) (by kernel_rfl) (by kernel_rfl) (fun _ _ _ h => h) (Or.inl ⟨by rfl, ?_⟩) hHeld ?_; rotate_left; (rintro w' ⟨s0, s1, s2, s3, s4⟩; go_simp; (try with_reducible rfl)); (try simp only [List.getElem_toArray, List.getElem_cons_zero, List.getElem_cons_succ, Act.put, List.setIfInBounds_toArray, List.set_cons_zero, List.set_cons_succ]))
  (refine wpAnyH_take (i := 19) (v := ?_) rfl (by kernel_rfl) (by kernel_rfl) (by kernel_rfl) (fun _ _ _ h => h) (Or.inl ⟨by rfl, ?_⟩) hHeld ?_; rotate_left; (rintro w' ⟨s0, s1, s2, s3, s4⟩; go_simp; (try with_reducible rfl)); (try simp only [List.getElem_toArray, List.getElem_cons_zero, List.getElem_cons_succ, Act.put, List.setIfInBounds_toArray, List.set_cons_zero, List.set_cons_succ]))
  (refine wpAnyH_take (i := 20) (v := ?_) rfl (by kernel_rfl) (by kernel_rfl) (by kernel_rfl) (fun _ _ _ h => h) (Or.inl ⟨by rfl, ?_⟩) hHeld ?_; rotate_left; (rintro w' ⟨s0, s1, s2, s3, s4⟩; go_simp; (try with_reducible rfl)); (try simp only [List.getElem_toArray, List.getElem_cons_zero, List.getElem_cons_succ, Act.put, List.setIfInBounds_toArray, List.set_cons_zero, List.set_cons_succ]))
  (refine wpAnyH_take (i := 21) (v := ?_) rfl (by kernel_rfl) (by kernel_rfl) (by kernel_rfl) (fun _ _ _ h => h) (Or.inl ⟨by rfl, ?_⟩) hHeld ?_; rotate_left; (rintro w' ⟨s0, s1, s2, s3, s4⟩; go_simp; (try with_reducible rfl)); (try simp only [List.getElem_toArray, List.getElem_cons_zero, List.getElem_cons_succ, Act.put, List.setIfInBounds_toArray, List.set_cons_zero, List.set_cons_succ]))
  refine wpAnyH_ready (rs := [22]) (by kernel_rfl) (by simp) ?_
  refine AllReadyH.cons rfl (fun K hK => ?_) AllReadyH.nil
  go_simp
  go_at_call 15
  refine (HPC.out _).mono ?_
  rintro e wp ⟨rfl, hbk⟩
  refine hK.out _ _ (keep5 hHeld hbk) (fun hHeld => ?_)
  clear hK K
  (try simp only [List.getElem_toArray, List.getElem_cons_zero, List.getElem_cons_succ, Act.put, List.setIfInBounds_toArray, List.set_cons_zero, List.set_cons_succ])
  (refine wpAnyH_take (i := 23) (v := ?_) rfl (by kernel_rfl) (by kernel_rfl) (by kernel_rfl) (fun _ _ _ h => h) (Or.inl ⟨by rfl, ?_⟩) hHeld ?_; rotate_left; (rintro w' ⟨s0, s1, s2, s3, s4⟩; go_simp; (try with_reducible rfl)); (try simp only [List.getElem_toArray, List.getElem_cons_zero, List.getElem_cons_succ, Act.put, List.setIfInBounds_toArray, List.set_cons_zero, List.set_cons_succ]))
  (refine wpAnyH_take (i := 24) (v := ?_) rfl (by kernel_rfl) (by kernel_rfl) (by kernel_rfl) (fun _ _ _ h => h) (Or.inl ⟨by rfl, ?_⟩) hHeld ?_; rotate_left; (rintro w' ⟨s0, s1, s2, s3, s4⟩; go_simp; (try with_reducible rfl)); (try simp only [List.getElem_toArray, List.getElem_cons_zero, List.getElem_cons_succ, Act.put, List.setIfInBounds_toArray, List.set_cons_zero, List.set_cons_succ]))
  (refine wpAnyH_take (i := 25) (v := ?_) rfl (by kernel_rfl) (by kernel_rfl) (by kernel_rfl) (fun _ _ _ h => h) (Or.inl ⟨by rfl, ?_⟩) hHeld ?_; rotate_left; (rintro w' ⟨s0, s1, s2, s3, s4⟩; go_simp; (try with_reducible rfl)); (try simp only [List.getElem_toArray, List.getElem_cons_zero, List.getElem_cons_succ, Act.put, List.setIfInBounds_toArray, List.set_cons_zero, List.set_cons_succ]))
  (refine wpAnyH_take (i := 26) rfl (by kernel_rfl) (by kernel_rfl) (by kernel_rfl) (fun _ _ _ h => h) (Or.inr ⟨by rfl, rfl⟩) hHeld ?_; (try simp only [List.getElem_toArray, List.getElem_cons_zero, List.getElem_cons_succ, Act.put, List.setIfInBounds_toArray, List.set_cons_zero, List.set_cons_succ]))
  (refine wpAnyH_take (i := 27) rfl (by kernel_rfl) (by kernel_rfl) (by kernel_rfl) (fun _ _ _ h => h) (Or.inr ⟨by rfl, rfl⟩) hHeld ?_; (try simp only [List.getElem_toArray, List.getElem_cons_zero, List.getElem_cons_succ, Act.put, List.setIfInBounds_toArray, List.set_cons_zero, List.set_cons_succ]))
  (refine wpAnyH_take (i := 28) rfl (by kernel_rfl) (by kernel_rfl) (by kernel_rfl) (fun _ _ _ h => h) (Or.inr ⟨by rfl, rfl⟩) hHeld ?_; (try simp only [List.getElem_toArray, List.getElem_cons_zero, List.getElem_cons_succ, Act.put, List.setIfInBounds_toArray, List.set_cons_zero, List.set_cons_succ]))
  (refine wpAnyH_take (i := 29) rfl (by kernel_rfl) (by kernel_rfl) (by kernel_rfl) (fun _ _ _ h => h) (Or.inr ⟨by rfl, rfl⟩) hHeld ?_; (try simp only [List.getElem_toArray, List.getElem_cons_zero, List.getElem_cons_succ, Act.put, List.setIfInBounds_toArray, List.set_cons_zero, List.set_cons_succ]))
  (refine wpAnyH_take (i := 30) rfl (by kernel_rfl) (by kernel_rfl) (by kernel_rfl) (fun _ _ _ h => h) (Or.inr ⟨by rfl, rfl⟩) hHeld ?_; (try simp only [List.getElem_toArray, List.getElem_cons_zero, List.getElem_cons_succ, Act.put, List.setIfInBounds_toArray, List.set_cons_zero, List.set_cons_succ]))
  (refine wpAnyH_take (i := 31) rfl (by kernel_rfl) (by kernel_rfl) (by kernel_rfl) (fun _ _ _ h => h) (Or.inr ⟨by rfl, rfl⟩) hHeld ?_; (try simp only [List.getElem_toArray, List.getElem_cons_zero, List.getElem_cons_succ, Act.put, List.setIfInBounds_toArray, List.set_cons_zero, List.set_cons_succ]))
  (refine wpAnyH_take (i := 32) rfl (by kernel_rfl) (by kernel_rfl) (by kernel_rfl) (fun _ _ _ h => h) (Or.inr ⟨by rfl, rfl⟩) hHeld ?_; (try simp only [List.getElem_toArray, List.getElem_cons_zero, List.getElem_cons_succ, Act.put, List.setIfInBounds_toArray, List.set_cons_zero, List.set_cons_succ]))
  (refine wpAnyH_take (i := 33) rfl (by kernel_rfl) (by kernel_rfl) (by kernel_rfl) (fun _ _ _ h => h) (Or.inr ⟨by rfl, rfl⟩) hHeld ?_; (try simp only [List.getElem_toArray, List.getElem_cons_zero, List.getElem_cons_succ, Act.put, List.setIfInBounds_toArray, List.set_cons_zero, List.set_cons_succ]))
  (refine wpAnyH_take (i := 34) rfl (by kernel_rfl) (by kernel_rfl) (by kernel_rfl) (fun _ _ _ h => h) (Or.inr ⟨by rfl, rfl⟩) hHeld ?_; (try simp only [List.getElem_toArray, List.getElem_cons_zero, List.getElem_cons_succ, Act.put, List.setIfInBounds_toArray, List.set_cons_zero, List.set_cons_succ]))
  (refine wpAnyH_take (i := 35) rfl (by kernel_rfl) (by kernel_rfl) (by kernel_rfl) (fun _ _ _ h => h) (Or.inr ⟨by rfl, rfl⟩) hHeld ?_; (try simp only [List.getElem_toArray, List.getElem_cons_zero, List.getElem_cons_succ, Act.put, List.setIfInBounds_toArray, List.set_cons_zero, List.set_cons_succ]))
  (refine wpAnyH_take (i := 36) rfl (by kernel_rfl) (by kernel_rfl) (by kernel_rfl) (fun _ _ _ h => h) (Or.inr ⟨by rfl, rfl⟩) hHeld ?_; (try simp only [List.getElem_toArray, List.getElem_cons_zero, List.getElem_cons_succ, Act.put, List.setIfInBounds_toArray, List.set_cons_zero, List.set_cons_succ]))
  (refine wpAnyH_take (i := 37) rfl (by kernel_rfl) (by kernel_rfl) (by kernel_rfl) (fun _ _ _ h => h) (Or.inr ⟨by rfl, rfl⟩) hHeld ?_; (try simp only [List.getElem_toArray, List.getElem_cons_zero, List.getElem_cons_succ, Act.put, List.setIfInBounds_toArray, List.set_cons_zero, List.set_cons_succ]))
  (refine wpAnyH_take (i := 38) rfl (by kernel_rfl) (by kernel_rfl) (by kernel_rfl) (fun _ _ _ h => h) (Or.inr ⟨by rfl, rfl⟩) hHeld ?_; (try simp only [List.getElem_toArray, List.getElem_cons_zero, List.getElem_cons_succ, Act.put, List.setIfInBounds_toArray, List.set_cons_zero, List.set_cons_succ]))
  (refine wpAnyH_take (i := 39) rfl (by kernel_rfl) (by kernel_rfl) (by kernel_rfl) (fun _ _ _ h => h) (Or.inr ⟨by rfl, rfl⟩) hHeld ?_; (try simp only [List.getElem_toArray, List.getElem_cons_zero, List.getElem_cons_succ, Act.put, List.setIfInBounds_toArray, List.set_cons_zero, List.set_cons_succ]))
  (refine wpAnyH_take (i := 40) rfl (by kernel_rfl) (by kernel_rfl) (by kernel_rfl) (fun _ _ _ h => h) (Or.inr ⟨by rfl, rfl⟩) hHeld ?_; (try simp only [List.getElem_toArray, List.getElem_cons_zero, List.getElem_cons_succ, Act.put, List.setIfInBounds_toArray, List.set_cons_zero, List.set_cons_succ]))
  (refine wpAnyH_take (i := 41) rfl (by kernel_rfl) (by kernel_rfl) (by kernel_rfl) (fun _ _ _ h => h) (Or.inr ⟨by rfl, rfl⟩) hHeld ?_; (try simp only [List.getElem_toArray, List.getElem_cons_zero, List.getElem_cons_succ, Act.put, List.setIfInBounds_toArray, List.set_cons_zero, List.set_cons_succ]))
  (refine wpAnyH_take (i := 42) (v := ?_) rfl (by kernel_rfl) (by kernel_rfl) (by kernel_rfl) (fun _ _ _ h => h) (Or.inl ⟨by rfl, ?_⟩) hHeld ?_; rotate_left; (rintro w' ⟨s0, s1, s2, s3, s4⟩; go_simp; (try with_reducible rfl)); (try simp only [List.getElem_toArray, List.getElem_cons_zero, List.getElem_cons_succ, Act.put, List.setIfInBounds_toArray, List.set_cons_zero, List.set_cons_succ]))
  (refine wpAnyH_take (i := 43) (v := ?_) rfl (by kernel_rfl) (by kernel_rfl) (by kernel_rfl) (fun _ _ _ h => h) (Or.inl ⟨by rfl, ?_⟩) hHeld ?_; rotate_left; (rintro w' ⟨s0, s1, s2, s3, s4⟩; go_simp; (try with_reducible rfl)); (try simp only [List.getElem_toArray, List.getElem_cons_zero, List.getElem_cons_succ, Act.put, List.setIfInBounds_toArray, List.set_cons_zero, List.set_cons_succ]))
  (refine wpAnyH_take (i := 44) (v := ?_) rfl (by kernel_rfl) (by kernel_rfl) (by kernel_rfl) (fun _ _ _ h => h) (Or.inl ⟨by rfl, ?_⟩) hHeld ?_; rotate_left; (rintro w' ⟨s0, s1, s2, s3, s4⟩; go_simp; (try with_reducible rfl)); (try simp only [List.getElem_toArray, List.getElem_cons_zero, List.getElem_cons_succ, Act.put, List.setIfInBounds_toArray, List.set_cons_zero, List.set_cons_succ]))
  refine wpAnyH_done (by kernel_rfl) ?_ _
  refine NoPanic.normal ?_
  have HZ := Lib.hid (keep5B hHeld)
  go_wp2_with (fail)
  go_ret
  exact ⟨rfl, HZ.out⟩
 ·have d1 : decide (pl < ql) = false := decide_eq_false hlt
  have d1i : decide ((pl : Int) < (ql : Int)) = false := decide_eq_false (by omega)
  obtain rfl : pl = ql := by omega
  have d2 : decide (pc ≤ qc) = true := decide_eq_true (by omega)
  have d2i : decide ((pc : Int) ≤ (qc : Int)) = true := decide_eq_true (by omega)
  go_region_held3 (fun w' => w'.cell? ⟨V, 0, none⟩ = some (.int .i64 (pl : Int)) ∧ w'.cell? ⟨V, 1, none⟩ = some (.int .i64 (pc : Int)) ∧ w'.cell? ⟨P, 0, none⟩ = some (.int .i64 (pl : Int)) ∧ w'.cell? ⟨P, 1, none⟩ = some (.int .i64 (pc : Int)) ∧ Below w.heap.size w w')
   (first | exact keep5 (by assumption) hbk | exact keep5 HS0.out (Below.refl _ _).drew | exact HS0.out)
   ((go_at_call 15; ((with_reducible refine (HPC.out _).mono ?_)); rintro e wp ⟨rfl, hbk⟩))
  all_goals have HZ := Lib.hid (keep5B (by assumption))
  all_goals (go_wp2_with (fail))
  all_goals go_ret
  all_goals exact ⟨rfl, HZ.out⟩
end
theorem transhumancelaw6_TableBad.walked (a0 : Option Addr) (len0 cap0 : Nat) (z0 : List Int) (a1 : Option Addr) (len1 cap1 : Nat) (z1 : List Int) (a2 : Int) (a3 : Int) (w : World) (w0 : (a0 = none ∧ len0 = 0 ∧ cap0 = 0 ∧ z0 = []) ∨ ∃ x, a0 = some x ∧ len0 ≤ cap0 ∧ cap0 ≤ maxLen ∧ z0.length = cap0 ∧ (∀ i, i < z0.length → w.cell? (x.add i) = some (.int .i64 (z0.getD i 0))) ∧ ∀ n ∈ z0, (Lit.int .i64 n).wf = true) (_ : len0 * 8 ≤ 140737488351232) (w1 : (a1 = none ∧ len1 = 0 ∧ cap1 = 0 ∧ z1 = []) ∨ ∃ x, a1 = some x ∧ len1 ≤ cap1 ∧ cap1 ≤ maxLen ∧ z1.length = cap1 ∧ (∀ i, i < z1.length → w.cell? (x.add i) = some (.int .u8 (z1.getD i 0))) ∧ ∀ n ∈ z1, (Lit.int .u8 n).wf = true) (_ : len1 * 1 ≤ 140737488351232) (_ : (Lit.int .i64 a2).wf = true) (w3 : (Lit.int .u8 a3).wf = true) (hG : GL w) :
  Calls Tryd.prog 4 #[.slice a0 len0 cap0, .slice a1 len1 cap1, .int .i64 a2, .int .u8 a3] w fun e w' => e = .returned (.bool true) ∧ Below w.heap.size w w' := by
 obtain ⟨l0, rfl, hr0, hm0, hw0, hc0⟩ := ReadsInt.ofRowC w0
 obtain ⟨l1, rfl, hr1, hm1, hw1, hc1⟩ := ReadsInt.ofRowC w1
 have hb : 0 ≤ a3 ∧ a3 < 256 := by
  have h := w3
  simp [Lit.wf, IntKind.min, IntKind.max, IntKind.signed, IntKind.bits] at h
  omega
 exact badw_calls w a0 cap0 l0 a1 cap1 l1 a2 a3 (Kd.C_of_reads (d := (0 : Int)) (h1 := fun _ => rfl) hr0) hc0 (Kd.C_of_reads (d := (0 : Int)) (h1 := fun _ => rfl) hr1) hc1 hb hG
end Go.Proofs.YtljfcdfdedkajaaDoor.Q
