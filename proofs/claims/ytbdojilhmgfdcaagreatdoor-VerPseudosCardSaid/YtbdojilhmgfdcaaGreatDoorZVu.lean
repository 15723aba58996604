import Derived.Test.YtbdojilhmgfdcaaGreatDoorZVy
import Derived.Deep.CutBlock
import Derived.Deep.DeepCutAuto
namespace Go.Proofs.YtbdojilhmgfdcaaGreatDoor.Q
open Go.RowKit Go.Proofs.YtbdojilhmgfdcaaGreatDoorW.PrintWords Go.Proofs.YtbdojilhmgfdcaaGreatDoorW.PrintLast Go.Proofs.YtbdojilhmgfdcaaGreatDoorW.PrintMore
theorem ev_at {α : Type} {g : Nat → Option α} {r : α} (h : Ev g r) : ∃ k, g k = some r := by
  obtain ⟨K, h⟩ := h
  exact ⟨K, h K (Nat.le_refl _)⟩
theorem rid_calls (s : ByteArray) (hs : s.size ≤ 1000000) (w : World) : Calls Tryz.prog 49 #[.string s] w fun e w' => e = .returned (.bool (idB s.data.toList)) ∧ Drawn0 w w' := by
  obtain ⟨k, h⟩ := ev_at (rid_ev s hs)
  rw [id_same] at h
  exact transhumanceref2_Id.calls k s _ w h
theorem rdig_calls (t : Nat) (ht : t < 100000000000000) (w : World) : Calls Tryz.prog 27 #[.int .i64 (t : Int)] w fun e w' => e = .returned (.string (bs (Lib.decDigits t))) ∧ Below w.heap.size w w' := by
  obtain ⟨k, h⟩ := ev_at (rdigits_ev (t : Int) (by omega) (by omega))
  exact transhumanceref1_Digits.calls k _ _ w h
theorem rright_calls (a b c : Int) (p : ByteArray) (hp : p.size ≤ 1000000) (w : World) : Calls Tryz.prog 18 #[.agg #[.int .i64 a, .int .i64 b, .int .i64 c, .string p]] w fun e w' => e = .returned (.bool (rightV a b c p.data.toList)) ∧ Below w.heap.size w w' := by
  obtain ⟨k, h⟩ := ev_at (rright_ev a b c p hp)
  exact transhumanceref2_Right.calls k a b c p _ w h
def padL (j : Nat) (l : List UInt8) : List UInt8 := List.replicate j 48 ++ l
theorem dv_pad (j : Nat) (l : List UInt8) : dv (padL j l) = dv l := by
  induction j with
  | zero => rfl
  | succ j ih =>
    have e : dv (padL (j + 1) l) = ((48 : UInt8).toNat - 48) * 10 ^ (padL j l).length + dv (padL j l) := rfl
    have : (48 : UInt8).toNat - 48 = 0 := rfl
    rw [e, ih, this]
    omega
theorem pad_len (j : Nat) (l : List UInt8) : (padL j l).length = j + l.length := by unfold padL; simp
theorem pad_stamp (t : Nat) (ht : t < 100000000000000) (j : Nat) (h : (padL j (Lib.decDigits t)).length = 14) : padL j (Lib.decDigits t) = stampL t := by
  obtain ⟨c, d, _⟩ := canon_dec t
  obtain ⟨s1, s2, s3⟩ := stamp_ok t ht
  have ha : (padL j (Lib.decDigits t)).all digitB = true := by
    unfold padL
    rw [List.all_append, c.1, Bool.and_true, List.all_eq_true]
    intro x hx
    rw [(List.mem_replicate.1 hx).2]
    rfl
  have := cmp_same _ _ ha s2 (by omega)
  rw [dv_pad, d, s3, cmpI_eq0] at this
  exact cmpBs_eq this
theorem pad_cons (j : Nat) (l : List UInt8) : (⟨#[48]⟩ : ByteArray) ++ bs (padL j l) = bs (padL (j + 1) l) := by
  apply ext_bs
  simp [bs, padL, ByteArray.data_append, List.replicate_succ]
theorem rmark_eq (t : Nat) (id : ByteArray) : (bs (stampL t) ++ (⟨#[45]⟩ : ByteArray)) ++ id.extract 0 12 = bs (markL t id.data.toList) := by
  apply ext_bs
  unfold markL
  simp [bs, ByteArray.data_append, ByteArray.data_extract, List.extract_eq_take_drop]
set_option maxHeartbeats 1600000 in
set_option maxRecDepth 100000 in
theorem rpseudo_calls (has : Bool) (a b c : Int) (p : ByteArray) (t : Int) (id : ByteArray) (w : World) (hv : p.size ≤ 900000) (hc : -1000000000 ≤ c ∧ c ≤ 1000000000) (hi : id.size ≤ 900000) :
    Calls Tryz.prog 24 #[.bool has, .agg #[.int .i64 a, .int .i64 b, .int .i64 c, .string p], .int .i64 t, .string id] w (PsPost w (pseudoV has ⟨a, b, c, p.data.toList⟩ t id.data.toList)) := by
  have HR0 := Lib.hid (show pseudoV has ⟨a, b, c, p.data.toList⟩ t id.data.toList = if t < 0 ∨ 100000000000000 ≤ t ∨ idB id.data.toList = false then none
    else if rightV (pseudoR has ⟨a, b, c, p.data.toList⟩ (markL t.toNat id.data.toList)).a (pseudoR has ⟨a, b, c, p.data.toList⟩ (markL t.toNat id.data.toList)).b (pseudoR has ⟨a, b, c, p.data.toList⟩ (markL t.toNat id.data.toList)).c (pseudoR has ⟨a, b, c, p.data.toList⟩ (markL t.toNat id.data.toList)).p = true then some (pseudoR has ⟨a, b, c, p.data.toList⟩ (markL t.toNat id.data.toList)) else none from rfl)
  generalize pseudoV has ⟨a, b, c, p.data.toList⟩ t id.data.toList = R at *
  have HID := Lib.hid (rid_calls id (by omega))
  have HIL := Lib.hid (fun h => idB_len (l := id.data.toList) h)
  generalize idB id.data.toList = ib at *
  have HB1 := Lib.hid (Below.alloc2' w (.cells #[.int .i64 a, .int .i64 b, .int .i64 c, .string p] 25) (.cells #[.int .i64 0, .int .i64 0, .int .i64 0, .string ⟨#[]⟩] 25))
  have HK1 := Lib.hid ((Blk.new w 25 #[.int .i64 a, .int .i64 b, .int .i64 c, .string p]).alloc (.cells #[.int .i64 0, .int .i64 0, .int .i64 0, .string ⟨#[]⟩] 25))
  have HK2 := Lib.hid (Blk.new2' w (.cells #[.int .i64 a, .int .i64 b, .int .i64 c, .string p] 25) 25 #[.int .i64 0, .int .i64 0, .int .i64 0, .string ⟨#[]⟩])
  by_cases h1 : t < 0
  · have d1 : decide (t < 0) = true := decide_eq_true h1
    have HR1 := Lib.hid (HR0.out.trans (if_pos (.inl h1)))
    clear h1 HID HIL
    go_enter Tryz.func24, Tryz.ntmps24
    go_wp2_with (fail)
    refine bodyPost_ret (results_ct rfl _ _ (w.heap.size + 1) 25 zeroV (0, 0) _ rfl HK2.out Tryz.underlying25 rfl (by kernel_rfl)) rfl ?_
    exact pspost_none rfl HR1.out HB1.out
  have d1 : decide (t < 0) = false := decide_eq_false h1
  by_cases h2 : 99999999999999 < t
  · have d2 : decide (99999999999999 < t) = true := decide_eq_true h2
    have HR1 := Lib.hid (HR0.out.trans (if_pos (.inr (.inl (by omega)))))
    clear h1 h2 HID HIL
    go_enter Tryz.func24, Tryz.ntmps24
    go_wp2_with (fail)
    refine bodyPost_ret (results_ct rfl _ _ (w.heap.size + 1) 25 zeroV (0, 0) _ rfl HK2.out Tryz.underlying25 rfl (by kernel_rfl)) rfl ?_
    exact pspost_none rfl HR1.out HB1.out
  have d2 : decide (99999999999999 < t) = false := decide_eq_false h2
  obtain ⟨n, rfl⟩ : ∃ n : Nat, t = n := ⟨t.toNat, by omega⟩
  have hn : n < 100000000000000 := by omega
  have HME := Lib.hid (rmark_eq n id)
  cases ib with
  | false =>
    have HR1 := Lib.hid (HR0.out.trans (if_pos (.inr (.inr rfl))))
    clear h1 h2 HIL
    go_enter Tryz.func24, Tryz.ntmps24
    go_wp2_with (fail)
    refine (HID.out _).mono ?_
    rintro e w1 ⟨rfl, n1, rfl⟩
    have hbb := below_dr HB1.out n1
    have hk2 := HK2.out.drewN n1
    have HB2 := Lib.hid hbb
    have HK3 := Lib.hid hk2
    generalize (((w.alloc (.cells #[.int .i64 a, .int .i64 b, .int .i64 c, .string p] 25)).alloc (.cells #[.int .i64 0, .int .i64 0, .int .i64 0, .string ⟨#[]⟩] 25)).drewN n1) = w1 at *
    have f0 := hk2.cell 0
    have f1 := hk2.cell 1
    have f2 := hk2.cell 2
    have f3 := hk2.cell 3
    have u0 := hk2.unfrozen 0
    have u1 := hk2.unfrozen 1
    have u2 := hk2.unfrozen 2
    have u3 := hk2.unfrozen 3
    clear hbb hk2
    go_wp2_with (fail)
    refine bodyPost_ret (results_ct rfl _ _ (w.heap.size + 1) 25 zeroV (0, 0) _ rfl (put4_blk HK3.out _ _ _ _) Tryz.underlying25 rfl (by kernel_rfl)) rfl ?_
    exact pspost_none rfl HR1.out (put4_below HB2.out (Nat.le_succ _) _ _ _ _)
  | true =>
    obtain ⟨l1, l2, l3⟩ := HIL.out rfl
    have hl : id.data.toList.length = id.size := rfl
    have HR1 := Lib.hid (HR0.out.trans (if_neg (by rintro (h | h | h); exact h1 h; omega; cases h)))
    have i12 : (12 : Int) ≤ (id.size : Int) := by omega
    have n12 : 12 ≤ id.size := by omega
    clear h1 h2 HIL HR0 l1 l2 l3 hl
    go_enter Tryz.func24, Tryz.ntmps24
    go_wp2_with (fail)
    refine (HID.out _).mono ?_
    rintro e w1 ⟨rfl, n1, rfl⟩
    have HB2 := Lib.hid (below_dr HB1.out n1)
    have HK3 := Lib.hid (HK1.out.drewN n1)
    have HK4 := Lib.hid (HK2.out.drewN n1)
    generalize (((w.alloc (.cells #[.int .i64 a, .int .i64 b, .int .i64 c, .string p] 25)).alloc (.cells #[.int .i64 0, .int .i64 0, .int .i64 0, .string ⟨#[]⟩] 25)).drewN n1) = w1 at *
    clear HK1 HK2 HB1 HID
    go_wp2_with (fail)
    refine (rdig_calls n hn _).mono ?_
    rintro e w2 ⟨rfl, hb2⟩
    have HX2 := Lib.hid (HK3.out.below hb2)
    have HY2 := Lib.hid (HK4.out.below hb2)
    have HB3 := Lib.hid (below_then HB2.out HB2.out.size hb2)
    clear HB2 HK3 HK4 hb2
    have hdl : (Lib.decDigits n).length ≤ 14 := len_dec 14 (by omega) (by decide)
    have HPS := Lib.hid (pad_stamp n hn)
    go_wp2_with (fail)
    go_loopg [10] (14 - (Lib.decDigits n).length) (fun q' s wr => ∃ j : Nat, q' = 14 - (padL j (Lib.decDigits n)).length ∧ (padL j (Lib.decDigits n)).length ≤ 14 ∧ s = .string (bs (padL j (Lib.decDigits n))) ∧ w2 = wr)
    case atStart => exact ⟨0, rfl, hdl, rfl, rfl⟩
    case round =>
      obtain ⟨j, rfl, hj, rfl, rfl⟩ := hrel
      have hsz := size_bs (padL j (Lib.decDigits n))
      have HPC := Lib.hid (pad_cons j (Lib.decDigits n))
      have hpl := pad_len j (Lib.decDigits n)
      have hpl2 := pad_len (j + 1) (Lib.decDigits n)
      by_cases hlt : (padL j (Lib.decDigits n)).length < 14
      · have e1 : decide ((bs (padL j (Lib.decDigits n))).size < 14) = true := decide_eq_true (by omega)
        have e2 : decide (((bs (padL j (Lib.decDigits n))).size : Int) < 14) = true := decide_eq_true (by omega)
        have e3 : (bs (padL j (Lib.decDigits n))).size ≤ 14 := by omega
        have HSZ := Lib.hid hsz
        have HPL := Lib.hid hpl
        have HPL2 := Lib.hid hpl2
        have HLT := Lib.hid hlt
        clear hsz hpl hpl2 hlt hj
        go_wp2_with (fail)
        go_roundg (14 - (padL (j + 1) (Lib.decDigits n)).length)
        case measure => have := HPL.out; have := HPL2.out; have := HLT.out; omega
        case rel => exact ⟨j + 1, rfl, by have := HPL.out; have := HPL2.out; have := HLT.out; omega, by rw [← HPC.out], rfl⟩
      · have h14 : (padL j (Lib.decDigits n)).length = 14 := by omega
        have e1 : decide ((bs (padL j (Lib.decDigits n))).size < 14) = false := decide_eq_false (by omega)
        have e2 : decide (((bs (padL j (Lib.decDigits n))).size : Int) < 14) = false := decide_eq_false (by omega)
        have hps := HPS.out j h14
        rw [hps] at e1 e2 hsz ⊢
        have hz14 : (bs (stampL n)).size = 14 := by rw [hsz]; rw [hps] at h14; exact h14
        clear hsz HPC hpl hpl2 hj hlt h14 hps HPS
        go_upto_region 8 with (fail)
        rw [HME.out]
        have hms : (bs (markL n id.data.toList)).size = 27 := by rw [size_bs, mark_len hn (by show 12 ≤ id.data.toList.length; exact n12)]
        have hmd : (bs (markL n id.data.toList)).data.toList = markL n id.data.toList := data_bs _
        have hr1 := HR1.out
        rw [show (n : Int).toNat = n from rfl, ← hmd] at hr1
        generalize bs (markL n id.data.toList) = m at *
        have HR2 := Lib.hid hr1
        clear hr1 hmd HME HR1 i12 n12 d1 d2 hz14 e1 e2 hdl
        have k0 := HX2.out.cell 0
        have k1 := HX2.out.cell 1
        have k2 := HX2.out.cell 2
        have k3 := HX2.out.cell 3
        have f0 := HX2.out.unfrozen 0
        have f1 := HX2.out.unfrozen 1
        have f2 := HX2.out.unfrozen 2
        have f3 := HX2.out.unfrozen 3
        cases has with
        | false =>
          have hx : Blk (put4 w2 w.heap.size (.int .i64 0) (.int .i64 0) (.int .i64 0) (.string m)) w.heap.size 25 #[.int .i64 (0), .int .i64 (0), .int .i64 (0), .string (m)] := put4_blk HX2.out _ _ _ _
          have hy : Blk (put4 w2 w.heap.size (.int .i64 0) (.int .i64 0) (.int .i64 0) (.string m)) (w.heap.size + 1) 25 #[.int .i64 0, .int .i64 0, .int .i64 0, .string ⟨#[]⟩] := ((((HY2.out).far (p := ⟨w.heap.size, 0, none⟩) (by simp) _).far (p := ⟨w.heap.size, 1, none⟩) (by simp) _).far (p := ⟨w.heap.size, 2, none⟩) (by simp) _).far (p := ⟨w.heap.size, 3, none⟩) (by simp) _
          have hz : Below w.heap.size w (put4 w2 w.heap.size (.int .i64 0) (.int .i64 0) (.int .i64 0) (.string m)) := put4_below HB3.out (Nat.le_refl _) _ _ _ _
          have hrr : R = if rightV (0) (0) (0) (m).data.toList = true then some ⟨0, 0, 0, (m).data.toList⟩ else none := HR2.out
          have hvs : (m).size ≤ 1000000 := by omega
          have HX := Lib.hid hx
          have HY := Lib.hid hy
          have HZ := Lib.hid hz
          have HRR := Lib.hid hrr
          have HVS := Lib.hid hvs
          clear hx hy hz hrr hvs HX2 HY2 HB3 HR2
          go_wp2_with (fail)
          refine (rright_calls (0) (0) (0) (m) HVS.out _).mono ?_
          rintro e w4 ⟨rfl, hb4⟩
          have HX4 := Lib.hid (HX.out.below hb4)
          have HY4 := Lib.hid (HY.out.below hb4)
          have HZ4 := Lib.hid (below_then HZ.out HZ.out.size hb4)
          clear k0 k1 k2 k3 f0 f1 f2 f3 hb4
          have k0 := HX4.out.cell 0
          have k1 := HX4.out.cell 1
          have k2 := HX4.out.cell 2
          have k3 := HX4.out.cell 3
          have f0 := HY4.out.cell 0
          have f1 := HY4.out.cell 1
          have f2 := HY4.out.cell 2
          have f3 := HY4.out.cell 3
          have u0 := HY4.out.unfrozen 0
          have u1 := HY4.out.unfrozen 1
          have u2 := HY4.out.unfrozen 2
          have u3 := HY4.out.unfrozen 3
          generalize rightV (0) (0) (0) (m).data.toList = ok at *
          cases ok with
          | false =>
            go_wp2_with (fail)
            refine bodyPost_ret (results_ct rfl _ _ (w.heap.size + 1) 25 zeroV (0, 0) _ rfl (put4_blk HY4.out _ _ _ _) Tryz.underlying25 rfl (by kernel_rfl)) rfl ?_
            exact pspost_none rfl (HRR.out.trans (if_neg (by simp))) (put4_below HZ4.out (Nat.le_succ _) _ _ _ _)
          | true =>
            go_wp2_with (fail)
            refine bodyPost_ret (results_ct rfl _ _ (w.heap.size + 1) 25 #[.int .i64 (0), .int .i64 (0), .int .i64 (0), .string (m)] (0, 0) _ rfl (put4_blk HY4.out _ _ _ _) Tryz.underlying25 rfl (by kernel_rfl)) rfl ?_
            refine ⟨?_, put4_below HZ4.out (Nat.le_succ _) _ _ _ _⟩
            have hR := HRR.out
            simp only [eq_self, if_true] at hR
            rw [hR]
            simp only [resV, Vr.arr, bs_data]
            rfl
        | true =>
          cases hpe : p.toList.isEmpty with
          | true =>
            have hpn : p.data.toList = [] := by rw [← Lib.toList_data]; cases h : p.toList with | nil => rfl | cons x l => rw [h] at hpe; cases hpe
            have hr2 := HR2.out
            rw [pseudoR_nil _ _ hpn] at hr2
            have ed : ((⟨#[48, 46]⟩ : ByteArray) ++ m).data.toList = 48 :: 46 :: m.data.toList := by simp [ByteArray.data_append]
            have HR3 := Lib.hid hr2
            have HED := Lib.hid ed
            have i1 : IntKind.i64.wrap (c + 1) = c + 1 := IntWalk.i64_in _ ⟨by omega, by omega⟩
            have HI := Lib.hid (show (⟨#[48, 46]⟩ : ByteArray).size = 2 from rfl)
            clear hpn hr2 ed
            have hx : Blk ((w2.setCell ⟨w.heap.size, 2, none⟩ (.int .i64 (c + 1))).setCell ⟨w.heap.size, 3, none⟩ (.string ((⟨#[48, 46]⟩ : ByteArray) ++ m))) w.heap.size 25 #[.int .i64 (a), .int .i64 (b), .int .i64 (c + 1), .string ((⟨#[48, 46]⟩ : ByteArray) ++ m)] := (HX2.out.put 2 _).put 3 _
            have hy : Blk ((w2.setCell ⟨w.heap.size, 2, none⟩ (.int .i64 (c + 1))).setCell ⟨w.heap.size, 3, none⟩ (.string ((⟨#[48, 46]⟩ : ByteArray) ++ m))) (w.heap.size + 1) 25 #[.int .i64 0, .int .i64 0, .int .i64 0, .string ⟨#[]⟩] := ((HY2.out).far (p := ⟨w.heap.size, 2, none⟩) (by simp) _).far (p := ⟨w.heap.size, 3, none⟩) (by simp) _
            have hz : Below w.heap.size w ((w2.setCell ⟨w.heap.size, 2, none⟩ (.int .i64 (c + 1))).setCell ⟨w.heap.size, 3, none⟩ (.string ((⟨#[48, 46]⟩ : ByteArray) ++ m))) := put1_below (put1_below HB3.out (p := ⟨w.heap.size, 2, none⟩) (Nat.le_refl _) _) (p := ⟨w.heap.size, 3, none⟩) (Nat.le_refl _) _
            have hrr : R = if rightV (a) (b) (c + 1) ((⟨#[48, 46]⟩ : ByteArray) ++ m).data.toList = true then some ⟨a, b, c + 1, ((⟨#[48, 46]⟩ : ByteArray) ++ m).data.toList⟩ else none := by rw [HED.out]; exact HR3.out
            have hvs : ((⟨#[48, 46]⟩ : ByteArray) ++ m).size ≤ 1000000 := by rw [ByteArray.size_append, HI.out]; omega
            have HX := Lib.hid hx
            have HY := Lib.hid hy
            have HZ := Lib.hid hz
            have HRR := Lib.hid hrr
            have HVS := Lib.hid hvs
            clear hx hy hz hrr hvs HX2 HY2 HB3 HR2
            go_wp2_with (fail)
            refine (rright_calls (a) (b) (c + 1) ((⟨#[48, 46]⟩ : ByteArray) ++ m) HVS.out _).mono ?_
            rintro e w4 ⟨rfl, hb4⟩
            have HX4 := Lib.hid (HX.out.below hb4)
            have HY4 := Lib.hid (HY.out.below hb4)
            have HZ4 := Lib.hid (below_then HZ.out HZ.out.size hb4)
            clear k0 k1 k2 k3 f0 f1 f2 f3 hb4
            have k0 := HX4.out.cell 0
            have k1 := HX4.out.cell 1
            have k2 := HX4.out.cell 2
            have k3 := HX4.out.cell 3
            have f0 := HY4.out.cell 0
            have f1 := HY4.out.cell 1
            have f2 := HY4.out.cell 2
            have f3 := HY4.out.cell 3
            have u0 := HY4.out.unfrozen 0
            have u1 := HY4.out.unfrozen 1
            have u2 := HY4.out.unfrozen 2
            have u3 := HY4.out.unfrozen 3
            generalize rightV (a) (b) (c + 1) ((⟨#[48, 46]⟩ : ByteArray) ++ m).data.toList = ok at *
            cases ok with
            | false =>
              go_wp2_with (fail)
              refine bodyPost_ret (results_ct rfl _ _ (w.heap.size + 1) 25 zeroV (0, 0) _ rfl (put4_blk HY4.out _ _ _ _) Tryz.underlying25 rfl (by kernel_rfl)) rfl ?_
              exact pspost_none rfl (HRR.out.trans (if_neg (by simp))) (put4_below HZ4.out (Nat.le_succ _) _ _ _ _)
            | true =>
              go_wp2_with (fail)
              refine bodyPost_ret (results_ct rfl _ _ (w.heap.size + 1) 25 #[.int .i64 (a), .int .i64 (b), .int .i64 (c + 1), .string ((⟨#[48, 46]⟩ : ByteArray) ++ m)] (0, 0) _ rfl (put4_blk HY4.out _ _ _ _) Tryz.underlying25 rfl (by kernel_rfl)) rfl ?_
              refine ⟨?_, put4_below HZ4.out (Nat.le_succ _) _ _ _ _⟩
              have hR := HRR.out
              simp only [eq_self, if_true] at hR
              rw [hR]
              simp only [resV, Vr.arr, bs_data]
              rfl
          | false =>
            have hpn : p.data.toList ≠ [] := by rw [← Lib.toList_data]; intro h; rw [h] at hpe; cases hpe
            have hr2 := HR2.out
            rw [pseudoR_pre _ _ hpn] at hr2
            have ed : ((p ++ (⟨#[46, 48, 46]⟩ : ByteArray)) ++ m).data.toList = p.data.toList ++ 46 :: 48 :: 46 :: m.data.toList := by simp [ByteArray.data_append]
            have HR3 := Lib.hid hr2
            have HED := Lib.hid ed
            have HI := Lib.hid (show (⟨#[46, 48, 46]⟩ : ByteArray).size = 3 from rfl)
            clear hpn hr2 ed
            have hx : Blk (w2.setCell ⟨w.heap.size, 3, none⟩ (.string ((p ++ (⟨#[46, 48, 46]⟩ : ByteArray)) ++ m))) w.heap.size 25 #[.int .i64 (a), .int .i64 (b), .int .i64 (c), .string ((p ++ (⟨#[46, 48, 46]⟩ : ByteArray)) ++ m)] := HX2.out.put 3 _
            have hy : Blk (w2.setCell ⟨w.heap.size, 3, none⟩ (.string ((p ++ (⟨#[46, 48, 46]⟩ : ByteArray)) ++ m))) (w.heap.size + 1) 25 #[.int .i64 0, .int .i64 0, .int .i64 0, .string ⟨#[]⟩] := (HY2.out).far (p := ⟨w.heap.size, 3, none⟩) (by simp) _
            have hz : Below w.heap.size w (w2.setCell ⟨w.heap.size, 3, none⟩ (.string ((p ++ (⟨#[46, 48, 46]⟩ : ByteArray)) ++ m))) := put1_below HB3.out (p := ⟨w.heap.size, 3, none⟩) (Nat.le_refl _) _
            have hrr : R = if rightV (a) (b) (c) ((p ++ (⟨#[46, 48, 46]⟩ : ByteArray)) ++ m).data.toList = true then some ⟨a, b, c, ((p ++ (⟨#[46, 48, 46]⟩ : ByteArray)) ++ m).data.toList⟩ else none := by rw [HED.out]; exact HR3.out
            have hvs : ((p ++ (⟨#[46, 48, 46]⟩ : ByteArray)) ++ m).size ≤ 1000000 := by rw [ByteArray.size_append, ByteArray.size_append, HI.out]; omega
            have HX := Lib.hid hx
            have HY := Lib.hid hy
            have HZ := Lib.hid hz
            have HRR := Lib.hid hrr
            have HVS := Lib.hid hvs
            clear hx hy hz hrr hvs HX2 HY2 HB3 HR2
            go_wp2_with (fail)
            refine (rright_calls (a) (b) (c) ((p ++ (⟨#[46, 48, 46]⟩ : ByteArray)) ++ m) HVS.out _).mono ?_
            rintro e w4 ⟨rfl, hb4⟩
            have HX4 := Lib.hid (HX.out.below hb4)
            have HY4 := Lib.hid (HY.out.below hb4)
            have HZ4 := Lib.hid (below_then HZ.out HZ.out.size hb4)
            clear k0 k1 k2 k3 f0 f1 f2 f3 hb4
            have k0 := HX4.out.cell 0
            have k1 := HX4.out.cell 1
            have k2 := HX4.out.cell 2
            have k3 := HX4.out.cell 3
            have f0 := HY4.out.cell 0
            have f1 := HY4.out.cell 1
            have f2 := HY4.out.cell 2
            have f3 := HY4.out.cell 3
            have u0 := HY4.out.unfrozen 0
            have u1 := HY4.out.unfrozen 1
            have u2 := HY4.out.unfrozen 2
            have u3 := HY4.out.unfrozen 3
            generalize rightV (a) (b) (c) ((p ++ (⟨#[46, 48, 46]⟩ : ByteArray)) ++ m).data.toList = ok at *
            cases ok with
            | false =>
              go_wp2_with (fail)
              refine bodyPost_ret (results_ct rfl _ _ (w.heap.size + 1) 25 zeroV (0, 0) _ rfl (put4_blk HY4.out _ _ _ _) Tryz.underlying25 rfl (by kernel_rfl)) rfl ?_
              exact pspost_none rfl (HRR.out.trans (if_neg (by simp))) (put4_below HZ4.out (Nat.le_succ _) _ _ _ _)
            | true =>
              go_wp2_with (fail)
              refine bodyPost_ret (results_ct rfl _ _ (w.heap.size + 1) 25 #[.int .i64 (a), .int .i64 (b), .int .i64 (c), .string ((p ++ (⟨#[46, 48, 46]⟩ : ByteArray)) ++ m)] (0, 0) _ rfl (put4_blk HY4.out _ _ _ _) Tryz.underlying25 rfl (by kernel_rfl)) rfl ?_
              refine ⟨?_, put4_below HZ4.out (Nat.le_succ _) _ _ _ _⟩
              have hR := HRR.out
              simp only [eq_self, if_true] at hR
              rw [hR]
              simp only [resV, Vr.arr, bs_data]
              rfl
def transhumanceref2_Pseudo.f (a0 : Bool) (a1_0 : Int) (a1_1 : Int) (a1_2 : Int) (a1_3 : ByteArray) (a2 : Int) (a3 : ByteArray) : Option (Int × Int × Int × ByteArray × Bool) :=
  if a1_3.size ≤ 900000 ∧ (-1000000000 ≤ a1_2 ∧ a1_2 ≤ 1000000000) ∧ a3.size ≤ 900000 then some (verOut (pseudoV a0 ⟨a1_0, a1_1, a1_2, a1_3.data.toList⟩ a2 a3.data.toList)) else none
theorem transhumanceref2_Pseudo.calls (a0 : Bool) (a1_0 : Int) (a1_1 : Int) (a1_2 : Int) (a1_3 : ByteArray) (a2 : Int) (a3 : ByteArray) (r1 : Int) (r2 : Int) (r3 : Int) (r4 : ByteArray) (r5 : Bool) (w : World) (h : transhumanceref2_Pseudo.f a0 a1_0 a1_1 a1_2 a1_3 a2 a3 = some (r1, r2, r3, r4, r5)) :
    Calls Tryz.prog 24 #[.bool a0, .agg #[.int .i64 a1_0, .int .i64 a1_1, .int .i64 a1_2, .string a1_3], .int .i64 a2, .string a3] w fun e w' => e = .returned (.tuple #[.agg #[.int .i64 r1, .int .i64 r2, .int .i64 r3, .string r4], .bool r5]) ∧ Below w.heap.size w w' := by
  unfold transhumanceref2_Pseudo.f at h
  split at h
  · next hs =>
    have he := Option.some.inj h
    refine (rpseudo_calls a0 a1_0 a1_1 a1_2 a1_3 a2 a3 w hs.1 hs.2.1 hs.2.2).mono ?_
    rintro e w' ⟨rfl, hb⟩
    refine ⟨?_, hb⟩
    cases hp : pseudoV a0 ⟨a1_0, a1_1, a1_2, a1_3.data.toList⟩ a2 a3.data.toList with
    | none =>
      rw [hp] at he
      simp only [verOut, Prod.mk.injEq] at he
      obtain ⟨rfl, rfl, rfl, rfl, rfl⟩ := he
      rfl
    | some v =>
      rw [hp] at he
      simp only [verOut, Prod.mk.injEq] at he
      obtain ⟨rfl, rfl, rfl, rfl, rfl⟩ := he
      rfl
  · cases h
end Go.Proofs.YtbdojilhmgfdcaaGreatDoor.Q
