import Derived.Test.YtoghoiecnciglaaDoorZVs
import Derived.Test.YtoghoiecnciglaaDoorZVwg
import Derived.Deep.CutBlock
import Derived.Deep.DeepCutAuto
import Derived.Deep.RegionHeld3
import Derived.Test.YtoghoiecnciglaaDoorZVq
section
namespace Go.Proofs.YtoghoiecnciglaaDoor.Q
open Go.RowKit Go.Proofs.YtoghoiecnciglaaDoorW.PrintWords
def hexSigns : ByteArray := (⟨#[48, 49, 50, 51, 52, 53, 54, 55, 56, 57, 97, 98, 99, 100, 101, 102]⟩ : ByteArray)
theorem hexSign_at : ∀ n : Nat, n < 256 → hexSigns.data.toList.contains (UInt8.ofNat n) = hexL (UInt8.ofNat n) := by decide +kernel
theorem hexSign (b : UInt8) : hexSigns.data.toList.contains b = hexL b := by
  have := hexSign_at b.toNat b.toNat_lt
  simpa only [UInt8.ofNat_toNat] using this
theorem only_hex (s : ByteArray) (hs : s.size ≤ 1000000) (w : World) :
    Calls Tryd.prog 24 #[.string s, .string hexSigns] w fun e w' => e = .returned (.bool (!(s.data.toList == []) && s.data.toList.all hexL)) ∧ Below w.heap.size w w' := by
  refine ver_only.calls s hexSigns _ w ?_
  unfold ver_only.f
  rw [if_pos ⟨hs, by decide, by decide +kernel⟩]
  have : s.data.toList.all (hexSigns.data.toList.contains ·) = s.data.toList.all hexL := by
    congr 1
    funext b
    exact hexSign b
  rw [this]
set_option maxHeartbeats 1000000 in
theorem id_calls (s : ByteArray) (hs : s.size ≤ 1000000) (w : World) :
    Calls Tryd.prog 20 #[.string s] w fun e w' => e = .returned (.bool (idB s.data.toList)) ∧ Below w.heap.size w w' := by
  have hl : s.data.toList.length = s.size := rfl
  have HO := Lib.hid (only_hex s hs)
  by_cases h1 : 12 ≤ s.size
  · have d1 : decide (12 ≤ s.size) = true := decide_eq_true h1
    have d2 : decide ((12 : Int) ≤ (s.size : Int)) = true := decide_eq_true (by omega)
    by_cases h2 : s.size ≤ 40
    · have d3 : decide (s.size ≤ 40) = true := decide_eq_true h2
      have d4 : decide ((s.size : Int) ≤ (40 : Int)) = true := decide_eq_true (by omega)
      have HV := Lib.hid (show idB s.data.toList = (!(s.data.toList == []) && s.data.toList.all hexL) from by
        unfold idB
        rw [hl, d1, d3]
        have : (s.data.toList == []) = false := by
          have : s.data.toList ≠ [] := fun e => by rw [e] at hl; simp at hl; omega
          simpa using this
        rw [this]
        rfl)
      clear h1 h2 hl
      generalize (!(s.data.toList == []) && s.data.toList.all hexL) = r at *
      go_enter Tryd.func20, Tryd.ntmps20
      go_wp2_with (fail)
      refine (HO.out _).mono ?_
      rintro e w1 ⟨rfl, hb⟩
      have HB := Lib.hid hb
      clear hb
      go_wp2_with (fail)
      go_ret
      exact ⟨by rw [HV.out]; rfl, HB.out⟩
    · have d3 : decide (s.size ≤ 40) = false := decide_eq_false h2
      have d4 : decide ((s.size : Int) ≤ (40 : Int)) = false := decide_eq_false (by omega)
      have HV := Lib.hid (show idB s.data.toList = false from by
        unfold idB
        rw [hl, d1, d3]
        rfl)
      clear h1 h2 hl
      go_enter Tryd.func20, Tryd.ntmps20
      go_wp2_with (fail)
      go_ret
      exact ⟨by rw [HV.out]; rfl, Below.refl _ _⟩
  · have d1 : decide (12 ≤ s.size) = false := decide_eq_false h1
    have d2 : decide ((12 : Int) ≤ (s.size : Int)) = false := decide_eq_false (by omega)
    have HV := Lib.hid (show idB s.data.toList = false from by
      unfold idB
      rw [hl, d1]
      rfl)
    clear h1 hl
    go_enter Tryd.func20, Tryd.ntmps20
    go_wp2_with (fail)
    go_ret
    exact ⟨by rw [HV.out]; rfl, Below.refl _ _⟩
theorem idB_len {l : List UInt8} (h : idB l = true) : 12 ≤ l.length ∧ l.length ≤ 40 ∧ l.all hexL = true := by
  unfold idB at h
  simp only [Bool.and_eq_true, decide_eq_true_eq] at h
  exact h
def stampI (t : Nat) : ByteArray := ⟨(Lib.itoa (100000000000000 + (t : Int))).toArray⟩
theorem stampI_size (t : Nat) (h : t < 100000000000000) : (stampI t).size = 15 := by
  have e : Lib.itoa (100000000000000 + (t : Int)) = Lib.decDigits (100000000000000 + t) := by
    unfold Lib.itoa
    rw [if_neg (by omega)]
    congr 1
  unfold stampI
  rw [e]
  show (bs (Lib.decDigits (100000000000000 + t))).size = 15
  rw [size_bs, stamp_len t h]
theorem mark_eq (t : Nat) (h : t < 100000000000000) (id : ByteArray) : ((stampI t).extract 1 15 ++ (⟨#[45]⟩ : ByteArray)) ++ id.extract 0 12 = bs (markL t id.data.toList) := by
  have e : Lib.itoa (100000000000000 + (t : Int)) = Lib.decDigits (100000000000000 + t) := by
    unfold Lib.itoa
    rw [if_neg (by omega)]
    congr 1
  have hl := stamp_len t h
  apply ext_bs
  unfold stampI markL stampL
  rw [e, data_bs]
  simp only [ByteArray.data_append, Array.toList_append, ByteArray.data_extract, Array.toList_extract, List.extract_eq_take_drop]
  rw [List.take_of_length_le (by rw [List.length_drop]; omega)]
  simp
def PsPost (w : World) (R : Option Vr) (e : Ending) (w' : World) : Prop := e = .returned (resV R) ∧ Below w.heap.size w w'
theorem pspost_none {w W : World} {R : Option Vr} {v : Value} (hv : v = .tuple #[.agg zeroV, .bool false]) (hR : R = none) (hb : Below w.heap.size w W) : PsPost w R (.returned v) W := by
  subst hv hR
  exact ⟨rfl, hb⟩
set_option maxHeartbeats 600000 in
set_option maxRecDepth 100000 in
theorem pseudo_calls (has : Bool) (a b c : Int) (p : ByteArray) (t : Int) (id : ByteArray) (w : World) (hv : p.size ≤ 900000) (hc : -1000000000 ≤ c ∧ c ≤ 1000000000) (hi : id.size ≤ 900000) (hG : GL w) :
    Calls Tryd.prog 9 #[.bool has, .agg #[.int .i64 a, .int .i64 b, .int .i64 c, .string p], .int .i64 t, .string id] w (PsPost w (pseudoV has ⟨a, b, c, p.data.toList⟩ t id.data.toList)) := by
  have HR0 := Lib.hid (show pseudoV has ⟨a, b, c, p.data.toList⟩ t id.data.toList = if t < 0 ∨ 100000000000000 ≤ t ∨ idB id.data.toList = false then none
    else if rightV (pseudoR has ⟨a, b, c, p.data.toList⟩ (markL t.toNat id.data.toList)).a (pseudoR has ⟨a, b, c, p.data.toList⟩ (markL t.toNat id.data.toList)).b (pseudoR has ⟨a, b, c, p.data.toList⟩ (markL t.toNat id.data.toList)).c (pseudoR has ⟨a, b, c, p.data.toList⟩ (markL t.toNat id.data.toList)).p = true then some (pseudoR has ⟨a, b, c, p.data.toList⟩ (markL t.toNat id.data.toList)) else none from rfl)
  generalize pseudoV has ⟨a, b, c, p.data.toList⟩ t id.data.toList = R at *
  have HG := Lib.hid hG
  have HID := Lib.hid (id_calls id (by omega))
  have HIL := Lib.hid (fun h => idB_len (l := id.data.toList) h)
  clear hG
  generalize idB id.data.toList = ib at *
  have HB1 := Lib.hid (Below.alloc2' w (.cells #[.int .i64 a, .int .i64 b, .int .i64 c, .string p] 26) (.cells #[.int .i64 0, .int .i64 0, .int .i64 0, .string ⟨#[]⟩] 26))
  have HK1 := Lib.hid ((Blk.new w 26 #[.int .i64 a, .int .i64 b, .int .i64 c, .string p]).alloc (.cells #[.int .i64 0, .int .i64 0, .int .i64 0, .string ⟨#[]⟩] 26))
  have HK2 := Lib.hid (Blk.new2' w (.cells #[.int .i64 a, .int .i64 b, .int .i64 c, .string p] 26) 26 #[.int .i64 0, .int .i64 0, .int .i64 0, .string ⟨#[]⟩])
  by_cases h1 : t < 0
  · have d1 : decide (t < 0) = true := decide_eq_true h1
    have HR1 := Lib.hid (HR0.out.trans (if_pos (.inl h1)))
    clear h1 HID HIL
    go_enter Tryd.func9, Tryd.ntmps9
    go_wp2_with (fail)
    refine bodyPost_ret (results_ct rfl _ _ (w.heap.size + 1) 26 zeroV (0, 0) _ rfl HK2.out Tryd.underlying26 rfl (by kernel_rfl)) rfl ?_
    exact pspost_none rfl HR1.out HB1.out
  have d1 : decide (t < 0) = false := decide_eq_false h1
  by_cases h2 : 100000000000000 ≤ t
  · have d2 : decide (100000000000000 ≤ t) = true := decide_eq_true h2
    have HR1 := Lib.hid (HR0.out.trans (if_pos (.inr (.inl h2))))
    clear h1 h2 HID HIL
    go_enter Tryd.func9, Tryd.ntmps9
    go_wp2_with (fail)
    refine bodyPost_ret (results_ct rfl _ _ (w.heap.size + 1) 26 zeroV (0, 0) _ rfl HK2.out Tryd.underlying26 rfl (by kernel_rfl)) rfl ?_
    exact pspost_none rfl HR1.out HB1.out
  have d2 : decide (100000000000000 ≤ t) = false := decide_eq_false h2
  obtain ⟨n, rfl⟩ : ∃ n : Nat, t = n := ⟨t.toNat, by omega⟩
  have hn : n < 100000000000000 := by omega
  have HSS := Lib.hid (stampI_size n hn)
  have HME := Lib.hid (mark_eq n hn id)
  have hw0 : IntKind.i64.wrap (100000000000000 + (n : Int)) = 100000000000000 + (n : Int) := IntWalk.i64_in _ ⟨by omega, by omega⟩
  cases ib with
  | false =>
    have HR1 := Lib.hid (HR0.out.trans (if_pos (.inr (.inr rfl))))
    clear h1 h2 HIL hw0
    go_enter Tryd.func9, Tryd.ntmps9
    go_wp2_with (fail)
    refine (HID.out _).mono ?_
    rintro e w1 ⟨rfl, hb⟩
    have hbb := below_then HB1.out HB1.out.size hb
    have hk2 := HK2.out.below hb
    have HB2 := Lib.hid hbb
    have HK3 := Lib.hid hk2
    have f0 := hk2.cell 0
    have f1 := hk2.cell 1
    have f2 := hk2.cell 2
    have f3 := hk2.cell 3
    have u0 := hk2.unfrozen 0
    have u1 := hk2.unfrozen 1
    have u2 := hk2.unfrozen 2
    have u3 := hk2.unfrozen 3
    clear hb hbb hk2
    go_wp2_with (fail)
    refine bodyPost_ret (results_ct rfl _ _ (w.heap.size + 1) 26 zeroV (0, 0) _ rfl (put4_blk HK3.out _ _ _ _) Tryd.underlying26 rfl (by kernel_rfl)) rfl ?_
    exact pspost_none rfl HR1.out (put4_below HB2.out (Nat.le_succ _) _ _ _ _)
  | true =>
    obtain ⟨l1, l2, l3⟩ := HIL.out rfl
    have hl : id.data.toList.length = id.size := rfl
    have HR1 := Lib.hid (HR0.out.trans (if_neg (by rintro (h | h | h); exact h1 h; exact h2 h; cases h)))
    have i12 : (12 : Int) ≤ (id.size : Int) := by omega
    have n12 : 12 ≤ id.size := by omega
    have HL3 := Lib.hid l3
    clear h1 h2 HIL HR0 l1 l2 l3 hl
    go_enter Tryd.func9, Tryd.ntmps9
    go_wp2_with (fail)
    refine (HID.out _).mono ?_
    rintro e w1 ⟨rfl, hb⟩
    have HB2 := Lib.hid (below_then HB1.out HB1.out.size hb)
    have HK3 := Lib.hid (HK1.out.below hb)
    have HK4 := Lib.hid (HK2.out.below hb)
    have HG2 := Lib.hid (HG.out.below0 HB2.out)
    clear hb HK1 HK2 HB1 HID
    go_wp2_with (fail)
    have HSI := Lib.hid (fun W (hW : GL W) => strconv_Itoa.calls (100000000000000 + (n : Int)) (stampI n) W hW (by unfold strconv_Itoa.f; rw [if_pos ⟨by omega, by omega⟩]; rfl))
    have hss := HSS.out
    generalize stampI n = S at *
    go_region_held3 (fun _ => True) (trivial) ((go_at_call 21; refine (HSI.out _ (by exact ⟨HG2.out.maxLen, HG2.out.pow⟩)).mono ?_; rintro e w2 ⟨rfl, hb2⟩))
    have hb3 : Below w1.heap.size w1 w2 := ⟨hb2.os, hb2.tape, hb2.output, hb2.size, hb2.block⟩
    have HX2 := Lib.hid (HK3.out.below hb3)
    have HY2 := Lib.hid (HK4.out.below hb3)
    have HB3 := Lib.hid (below_then HB2.out HB2.out.size hb3)
    rw [HME.out]
    have hms : (bs (markL n id.data.toList)).size = 27 := by rw [size_bs, mark_len hn (by show 12 ≤ id.data.toList.length; exact n12)]
    have hmd : (bs (markL n id.data.toList)).data.toList = markL n id.data.toList := data_bs _
    have hr1 := HR1.out
    rw [show (n : Int).toNat = n from rfl, ← hmd] at hr1
    generalize bs (markL n id.data.toList) = m at *
    have HR2 := Lib.hid hr1
    clear hr1 hmd HME HSI hss HSS HR1 HB2 HK3 HK4 HG2 hb2 hb3 HL3 i12 n12 hw0 d1 d2
    have k0 := HX2.out.cell 0
    have k1 := HX2.out.cell 1
    have k2 := HX2.out.cell 2
    have k3 := HX2.out.cell 3
    have f0 := HX2.out.unfrozen 0
    have f1 := HX2.out.unfrozen 1
    have f2 := HX2.out.unfrozen 2
    have f3 := HX2.out.unfrozen 3
    cases has with
    | false =>
      have hx : Blk (put4 w2 w.heap.size (.int .i64 0) (.int .i64 0) (.int .i64 0) (.string m)) w.heap.size 26 #[.int .i64 (0), .int .i64 (0), .int .i64 (0), .string (m)] := put4_blk HX2.out _ _ _ _
      have hy : Blk (put4 w2 w.heap.size (.int .i64 0) (.int .i64 0) (.int .i64 0) (.string m)) (w.heap.size + 1) 26 #[.int .i64 0, .int .i64 0, .int .i64 0, .string ⟨#[]⟩] := ((((HY2.out).far (p := ⟨w.heap.size, 0, none⟩) (by simp) _).far (p := ⟨w.heap.size, 1, none⟩) (by simp) _).far (p := ⟨w.heap.size, 2, none⟩) (by simp) _).far (p := ⟨w.heap.size, 3, none⟩) (by simp) _
      have hz : Below w.heap.size w (put4 w2 w.heap.size (.int .i64 0) (.int .i64 0) (.int .i64 0) (.string m)) := put4_below HB3.out (Nat.le_refl _) _ _ _ _
      have hrr : R = if rightV (0) (0) (0) (m).data.toList = true then some ⟨0, 0, 0, (m).data.toList⟩ else none := HR2.out
      have hvs : (m).size ≤ 1000000 := by omega
      have HGW : Hid (GL (put4 w2 w.heap.size (.int .i64 0) (.int .i64 0) (.int .i64 0) (.string m))) := Lib.hid (HG.out.below0 hz)
      have HX := Lib.hid hx
      have HY := Lib.hid hy
      have HZ := Lib.hid hz
      have HRR := Lib.hid hrr
      have HVS := Lib.hid hvs
      clear hx hy hz hrr hvs HX2 HY2 HB3 HR2
      go_wp2_with (fail)
      refine (ver_Right.calls (0) (0) (0) (m) _ _ HGW.out (by unfold ver_Right.f; rw [if_pos HVS.out])).mono ?_
      rintro e w4 ⟨rfl, hb4⟩
      have HX4 := Lib.hid (HX.out.below hb4)
      have HY4 := Lib.hid (HY.out.below hb4)
      have HZ4 := Lib.hid (below_then HZ.out HZ.out.size hb4)
      clear k0 k1 k2 k3 f0 f1 f2 f3 hb4
      have k0 := HX4.out.cell 0
      have k1 := HX4.out.cell 1
      have k2 := HX4.out.cell 2
      have k3 := HX4.out.cell 3
      have f0 := HY4.out.cell 0
      have f1 := HY4.out.cell 1
      have f2 := HY4.out.cell 2
      have f3 := HY4.out.cell 3
      have u0 := HY4.out.unfrozen 0
      have u1 := HY4.out.unfrozen 1
      have u2 := HY4.out.unfrozen 2
      have u3 := HY4.out.unfrozen 3
      generalize rightV (0) (0) (0) (m).data.toList = ok at *
      cases ok with
      | false =>
        go_wp2_with (fail)
        refine bodyPost_ret (results_ct rfl _ _ (w.heap.size + 1) 26 zeroV (0, 0) _ rfl (put4_blk HY4.out _ _ _ _) Tryd.underlying26 rfl (by kernel_rfl)) rfl ?_
        exact pspost_none rfl (HRR.out.trans (if_neg (by simp))) (put4_below HZ4.out (Nat.le_succ _) _ _ _ _)
      | true =>
        go_wp2_with (fail)
        refine bodyPost_ret (results_ct rfl _ _ (w.heap.size + 1) 26 #[.int .i64 (0), .int .i64 (0), .int .i64 (0), .string (m)] (0, 0) _ rfl (put4_blk HY4.out _ _ _ _) Tryd.underlying26 rfl (by kernel_rfl)) rfl ?_
        refine ⟨?_, put4_below HZ4.out (Nat.le_succ _) _ _ _ _⟩
        have hR := HRR.out
        simp only [eq_self, if_true] at hR
        rw [hR]
        simp only [resV, Vr.arr, bs_data]
        rfl
    | true =>
      cases hpe : p.toList.isEmpty with
      | true =>
        have hpn : p.data.toList = [] := by rw [← Lib.toList_data]; cases h : p.toList with | nil => rfl | cons x l => rw [h] at hpe; cases hpe
        have hr2 := HR2.out
        rw [pseudoR_nil _ _ hpn] at hr2
        have ed : ((⟨#[48, 46]⟩ : ByteArray) ++ m).data.toList = 48 :: 46 :: m.data.toList := by simp [ByteArray.data_append]
        have HR3 := Lib.hid hr2
        have HED := Lib.hid ed
        have i1 : IntKind.i64.wrap (c + 1) = c + 1 := IntWalk.i64_in _ ⟨by omega, by omega⟩
        have HI := Lib.hid (show (⟨#[48, 46]⟩ : ByteArray).size = 2 from rfl)
        clear hpn hr2 ed
        have hx : Blk ((w2.setCell ⟨w.heap.size, 2, none⟩ (.int .i64 (c + 1))).setCell ⟨w.heap.size, 3, none⟩ (.string ((⟨#[48, 46]⟩ : ByteArray) ++ m))) w.heap.size 26 #[.int .i64 (a), .int .i64 (b), .int .i64 (c + 1), .string ((⟨#[48, 46]⟩ : ByteArray) ++ m)] := (HX2.out.put 2 _).put 3 _
        have hy : Blk ((w2.setCell ⟨w.heap.size, 2, none⟩ (.int .i64 (c + 1))).setCell ⟨w.heap.size, 3, none⟩ (.string ((⟨#[48, 46]⟩ : ByteArray) ++ m))) (w.heap.size + 1) 26 #[.int .i64 0, .int .i64 0, .int .i64 0, .string ⟨#[]⟩] := ((HY2.out).far (p := ⟨w.heap.size, 2, none⟩) (by simp) _).far (p := ⟨w.heap.size, 3, none⟩) (by simp) _
        have hz : Below w.heap.size w ((w2.setCell ⟨w.heap.size, 2, none⟩ (.int .i64 (c + 1))).setCell ⟨w.heap.size, 3, none⟩ (.string ((⟨#[48, 46]⟩ : ByteArray) ++ m))) := put1_below (put1_below HB3.out (p := ⟨w.heap.size, 2, none⟩) (Nat.le_refl _) _) (p := ⟨w.heap.size, 3, none⟩) (Nat.le_refl _) _
        have hrr : R = if rightV (a) (b) (c + 1) ((⟨#[48, 46]⟩ : ByteArray) ++ m).data.toList = true then some ⟨a, b, c + 1, ((⟨#[48, 46]⟩ : ByteArray) ++ m).data.toList⟩ else none := by rw [HED.out]; exact HR3.out
        have hvs : ((⟨#[48, 46]⟩ : ByteArray) ++ m).size ≤ 1000000 := by rw [ByteArray.size_append, HI.out]; omega
        have HGW : Hid (GL ((w2.setCell ⟨w.heap.size, 2, none⟩ (.int .i64 (c + 1))).setCell ⟨w.heap.size, 3, none⟩ (.string ((⟨#[48, 46]⟩ : ByteArray) ++ m)))) := Lib.hid (HG.out.below0 hz)
        have HX := Lib.hid hx
        have HY := Lib.hid hy
        have HZ := Lib.hid hz
        have HRR := Lib.hid hrr
        have HVS := Lib.hid hvs
        clear hx hy hz hrr hvs HX2 HY2 HB3 HR2
        go_wp2_with (fail)
        refine (ver_Right.calls (a) (b) (c + 1) ((⟨#[48, 46]⟩ : ByteArray) ++ m) _ _ HGW.out (by unfold ver_Right.f; rw [if_pos HVS.out])).mono ?_
        rintro e w4 ⟨rfl, hb4⟩
        have HX4 := Lib.hid (HX.out.below hb4)
        have HY4 := Lib.hid (HY.out.below hb4)
        have HZ4 := Lib.hid (below_then HZ.out HZ.out.size hb4)
        clear k0 k1 k2 k3 f0 f1 f2 f3 hb4
        have k0 := HX4.out.cell 0
        have k1 := HX4.out.cell 1
        have k2 := HX4.out.cell 2
        have k3 := HX4.out.cell 3
        have f0 := HY4.out.cell 0
        have f1 := HY4.out.cell 1
        have f2 := HY4.out.cell 2
        have f3 := HY4.out.cell 3
        have u0 := HY4.out.unfrozen 0
        have u1 := HY4.out.unfrozen 1
        have u2 := HY4.out.unfrozen 2
        have u3 := HY4.out.unfrozen 3
        generalize rightV (a) (b) (c + 1) ((⟨#[48, 46]⟩ : ByteArray) ++ m).data.toList = ok at *
        cases ok with
        | false =>
          go_wp2_with (fail)
          refine bodyPost_ret (results_ct rfl _ _ (w.heap.size + 1) 26 zeroV (0, 0) _ rfl (put4_blk HY4.out _ _ _ _) Tryd.underlying26 rfl (by kernel_rfl)) rfl ?_
          exact pspost_none rfl (HRR.out.trans (if_neg (by simp))) (put4_below HZ4.out (Nat.le_succ _) _ _ _ _)
        | true =>
          go_wp2_with (fail)
          refine bodyPost_ret (results_ct rfl _ _ (w.heap.size + 1) 26 #[.int .i64 (a), .int .i64 (b), .int .i64 (c + 1), .string ((⟨#[48, 46]⟩ : ByteArray) ++ m)] (0, 0) _ rfl (put4_blk HY4.out _ _ _ _) Tryd.underlying26 rfl (by kernel_rfl)) rfl ?_
          refine ⟨?_, put4_below HZ4.out (Nat.le_succ _) _ _ _ _⟩
          have hR := HRR.out
          simp only [eq_self, if_true] at hR
          rw [hR]
          simp only [resV, Vr.arr, bs_data]
          rfl
      | false =>
        have hpn : p.data.toList ≠ [] := by rw [← Lib.toList_data]; intro h; rw [h] at hpe; cases hpe
        have hr2 := HR2.out
        rw [pseudoR_pre _ _ hpn] at hr2
        have ed : (p ++ ((⟨#[46, 48, 46]⟩ : ByteArray) ++ m)).data.toList = p.data.toList ++ 46 :: 48 :: 46 :: m.data.toList := by simp [ByteArray.data_append]
        have HR3 := Lib.hid hr2
        have HED := Lib.hid ed
        have HI := Lib.hid (show (⟨#[46, 48, 46]⟩ : ByteArray).size = 3 from rfl)
        clear hpn hr2 ed
        have hx : Blk (w2.setCell ⟨w.heap.size, 3, none⟩ (.string (p ++ ((⟨#[46, 48, 46]⟩ : ByteArray) ++ m)))) w.heap.size 26 #[.int .i64 (a), .int .i64 (b), .int .i64 (c), .string (p ++ ((⟨#[46, 48, 46]⟩ : ByteArray) ++ m))] := HX2.out.put 3 _
        have hy : Blk (w2.setCell ⟨w.heap.size, 3, none⟩ (.string (p ++ ((⟨#[46, 48, 46]⟩ : ByteArray) ++ m)))) (w.heap.size + 1) 26 #[.int .i64 0, .int .i64 0, .int .i64 0, .string ⟨#[]⟩] := (HY2.out).far (p := ⟨w.heap.size, 3, none⟩) (by simp) _
        have hz : Below w.heap.size w (w2.setCell ⟨w.heap.size, 3, none⟩ (.string (p ++ ((⟨#[46, 48, 46]⟩ : ByteArray) ++ m)))) := put1_below HB3.out (p := ⟨w.heap.size, 3, none⟩) (Nat.le_refl _) _
        have hrr : R = if rightV (a) (b) (c) (p ++ ((⟨#[46, 48, 46]⟩ : ByteArray) ++ m)).data.toList = true then some ⟨a, b, c, (p ++ ((⟨#[46, 48, 46]⟩ : ByteArray) ++ m)).data.toList⟩ else none := by rw [HED.out]; exact HR3.out
        have hvs : (p ++ ((⟨#[46, 48, 46]⟩ : ByteArray) ++ m)).size ≤ 1000000 := by rw [ByteArray.size_append, ByteArray.size_append, HI.out]; omega
        have HGW : Hid (GL (w2.setCell ⟨w.heap.size, 3, none⟩ (.string (p ++ ((⟨#[46, 48, 46]⟩ : ByteArray) ++ m))))) := Lib.hid (HG.out.below0 hz)
        have HX := Lib.hid hx
        have HY := Lib.hid hy
        have HZ := Lib.hid hz
        have HRR := Lib.hid hrr
        have HVS := Lib.hid hvs
        clear hx hy hz hrr hvs HX2 HY2 HB3 HR2
        go_wp2_with (fail)
        refine (ver_Right.calls (a) (b) (c) (p ++ ((⟨#[46, 48, 46]⟩ : ByteArray) ++ m)) _ _ HGW.out (by unfold ver_Right.f; rw [if_pos HVS.out])).mono ?_
        rintro e w4 ⟨rfl, hb4⟩
        have HX4 := Lib.hid (HX.out.below hb4)
        have HY4 := Lib.hid (HY.out.below hb4)
        have HZ4 := Lib.hid (below_then HZ.out HZ.out.size hb4)
        clear k0 k1 k2 k3 f0 f1 f2 f3 hb4
        have k0 := HX4.out.cell 0
        have k1 := HX4.out.cell 1
        have k2 := HX4.out.cell 2
        have k3 := HX4.out.cell 3
        have f0 := HY4.out.cell 0
        have f1 := HY4.out.cell 1
        have f2 := HY4.out.cell 2
        have f3 := HY4.out.cell 3
        have u0 := HY4.out.unfrozen 0
        have u1 := HY4.out.unfrozen 1
        have u2 := HY4.out.unfrozen 2
        have u3 := HY4.out.unfrozen 3
        generalize rightV (a) (b) (c) (p ++ ((⟨#[46, 48, 46]⟩ : ByteArray) ++ m)).data.toList = ok at *
        cases ok with
        | false =>
          go_wp2_with (fail)
          refine bodyPost_ret (results_ct rfl _ _ (w.heap.size + 1) 26 zeroV (0, 0) _ rfl (put4_blk HY4.out _ _ _ _) Tryd.underlying26 rfl (by kernel_rfl)) rfl ?_
          exact pspost_none rfl (HRR.out.trans (if_neg (by simp))) (put4_below HZ4.out (Nat.le_succ _) _ _ _ _)
        | true =>
          go_wp2_with (fail)
          refine bodyPost_ret (results_ct rfl _ _ (w.heap.size + 1) 26 #[.int .i64 (a), .int .i64 (b), .int .i64 (c), .string (p ++ ((⟨#[46, 48, 46]⟩ : ByteArray) ++ m))] (0, 0) _ rfl (put4_blk HY4.out _ _ _ _) Tryd.underlying26 rfl (by kernel_rfl)) rfl ?_
          refine ⟨?_, put4_below HZ4.out (Nat.le_succ _) _ _ _ _⟩
          have hR := HRR.out
          simp only [eq_self, if_true] at hR
          rw [hR]
          simp only [resV, Vr.arr, bs_data]
          rfl
end Go.Proofs.YtoghoiecnciglaaDoor.Q
end
section
namespace Go.Proofs.YtoghoiecnciglaaDoor.Q
open Go.RowKit Go.Proofs.YtoghoiecnciglaaDoorW.PrintWords
theorem lastW_free {l : List UInt8} (h : ∀ x ∈ l, x ≠ 46) : lastW l = l := by
  unfold lastW
  rw [parts_free 46 l h]
  rfl
theorem bang_at (s : ByteArray) (j : Nat) (h : j < s.data.toList.length) : s.data[j]! = s.data.toList[j] := by
  have hj : j < s.data.size := by simpa using h
  rw [getElem!_pos s.data j hj, Array.getElem_toList]
theorem last_extract (s : ByteArray) : s.extract (Lib.lastIndexByte s 46 + 1).toNat s.size = bs (lastW s.data.toList) ∧ 0 ≤ Lib.lastIndexByte s 46 + 1 ∧ Lib.lastIndexByte s 46 + 1 ≤ s.size := by
  have hz : s.data.toList.length = s.size := rfl
  have key : ∀ i : Nat, i ≤ s.size → s.extract i s.size = bs (s.data.toList.drop i) := by
    intro i hi
    apply ext_bs
    rw [data_bs, ByteArray.data_extract, Array.toList_extract, List.extract_eq_take_drop, List.take_of_length_le (by rw [List.length_drop]; omega)]
  rcases Lib.lastIndexByte_spec s 46 with ⟨h, hn⟩ | ⟨i, hi, h, hc, hn⟩
  · rw [h]
    refine ⟨?_, by omega, by omega⟩
    rw [show ((-1 : Int) + 1).toNat = 0 from rfl, key 0 (by omega), List.drop_zero, lastW_free]
    intro x hx e
    obtain ⟨j, hj, rfl⟩ := List.getElem_of_mem hx
    have := hn j (by omega)
    rw [bang_at s j hj, e] at this
    exact this rfl
  · rw [h]
    refine ⟨?_, by omega, by omega⟩
    have hil : i < s.data.toList.length := by omega
    rw [show ((i : Int) + 1).toNat = i + 1 by omega, key (i + 1) (by omega)]
    have e : s.data.toList = s.data.toList.take i ++ 46 :: s.data.toList.drop (i + 1) := by
      have h46 : s.data.toList[i] = 46 := by
        rw [bang_at s i hil] at hc
        exact UInt8.toNat_inj.mp (by show (s.data.toList[i]).toNat = 46; omega)
      rw [← h46, ← List.drop_eq_getElem_cons hil, List.take_append_drop]
    conv => rhs; rw [e, lastW_cat]
    rw [lastW_free]
    intro x hx e
    obtain ⟨j, hj, rfl⟩ := List.getElem_of_mem hx
    rw [List.length_drop] at hj
    have := hn (i + 1 + j) (by omega) (by omega)
    rw [List.getElem_drop] at e
    rw [bang_at s (i + 1 + j) (by omega), e] at this
    exact this rfl
def behindOut (o : Option (Nat × List UInt8)) : Int × ByteArray × Bool := match o with | some r => ((r.1 : Int), bs r.2, true) | none => (0, ⟨#[]⟩, false)
theorem decFrom_dv : ∀ (l : List UInt8) (n : Nat), l.all digitB = true → Lib.decFrom n l = some (n * 10 ^ l.length + dv l)
  | [], n, _ => by simp [Lib.decFrom, dv]
  | b :: l, n, h => by
    simp only [List.all_cons, Bool.and_eq_true] at h
    have hb := (digitB_iff b).1 h.1
    have hd : Lib.digitVal b = some (b.toNat - 48) := by unfold Lib.digitVal; rw [if_pos hb]
    rw [Lib.decFrom, hd]
    simp only
    rw [decFrom_dv l _ h.2]
    simp only [dv, List.length_cons, Nat.pow_succ, Nat.add_mul]
    have : n * (10 ^ l.length * 10) = n * 10 * 10 ^ l.length := by
      rw [Nat.mul_assoc, Nat.mul_comm 10]
    rw [this]
    congr 1
    omega
theorem atoi_dv {l : List UInt8} (h : l.all digitB = true) (hn : l ≠ []) : Lib.atoi l = some (dv l : Int) := by
  cases l with
  | nil => exact absurd rfl hn
  | cons b l =>
    have hb := (digitB_iff b).1 (all_tail h).1
    have e1 : (b == 45) = false := by
      simp only [beq_eq_false_iff_ne, ne_eq]
      rintro rfl
      have : (45 : UInt8).toNat = 45 := rfl
      omega
    have e2 : (b == 43) = false := by
      simp only [beq_eq_false_iff_ne, ne_eq]
      rintro rfl
      have : (43 : UInt8).toNat = 43 := rfl
      omega
    show (if (b == 45) = true then _ else if (b == 43) = true then _ else Option.map (fun (m : Nat) => (m : Int)) (Lib.decNat (b :: l))) = _
    rw [e1, e2, if_neg (by simp), if_neg (by simp)]
    unfold Lib.decNat
    rw [if_neg (by simp), decFrom_dv _ 0 h]
    simp
theorem allL_ne {l : List UInt8} (h : l ≠ []) : allL l = l.all digitB := by
  unfold allL
  have : (l == []) = false := by simpa using h
  rw [this]
  simp
def BhPost (w : World) (R : Option (Nat × List UInt8)) (e : Ending) (w' : World) : Prop := e = .returned (.tuple #[.int .i64 (behindOut R).1, .string (behindOut R).2.1, .bool (behindOut R).2.2]) ∧ Below w.heap.size w w'
theorem bh_none {w W : World} {R : Option (Nat × List UInt8)} {v : Value} (hv : v = .tuple #[.int .i64 0, .string ⟨#[]⟩, .bool false]) (hR : R = none) (hb : Below w.heap.size w W) : BhPost w R (.returned v) W := by
  subst hv hR
  exact ⟨rfl, hb⟩
set_option maxHeartbeats 600000 in
set_option maxRecDepth 100000 in
theorem behind_calls (a b c : Int) (p : ByteArray) (w : World) (hp : p.size ≤ 900000) :
    Calls Tryd.prog 10 #[.agg #[.int .i64 a, .int .i64 b, .int .i64 c, .string p]] w (BhPost w (behindL p.data.toList)) := by
  obtain ⟨h1, h2, h3⟩ := last_extract p
  have HC := Lib.hid (fun w => R.strings_LastIndexByte.calls p 46 (Lib.lastIndexByte p 46) w (by unfold R.strings_LastIndexByte.f; rw [if_pos (by omega)]))
  have hbd : behindL p.data.toList = if (lastW p.data.toList).length = 27 ∧ (lastW p.data.toList)[14]? = some 45 ∧ ((lastW p.data.toList).take 14).all digitB = true ∧ ((lastW p.data.toList).drop 15).all hexL = true then some (dv ((lastW p.data.toList).take 14), (lastW p.data.toList).drop 15) else none := rfl
  have HBD := Lib.hid hbd
  have hlz : p.toList = [] → (lastW p.data.toList).length = 0 := by
    intro h
    rw [← Lib.toList_data, h]
    rfl
  clear hbd
  have i1 : IntKind.i64.wrap (Lib.lastIndexByte p 46 + 1) = Lib.lastIndexByte p 46 + 1 := IntWalk.i64_in _ ⟨by omega, by omega⟩
  generalize behindL p.data.toList = Z at *
  generalize lastW p.data.toList = l at *
  generalize Lib.lastIndexByte p 46 = ix at *
  have HE := Lib.hid h1
  clear h1
  have hms : (bs l).size = l.length := size_bs l
  have HML := Lib.hid (data_bs l)
  generalize bs l = m at *
  by_cases h27 : l.length = 27
  · have hpn : ¬ p.toList = [] := fun h => by have := hlz h; omega
    have hpb : (p.toList == []) = false := by simpa using hpn
    have hpe : p.toList.isEmpty = false := by cases h : p.toList with | nil => exact absurd h hpn | cons x l => rfl
    have hmz : m.size = 27 := by omega
    have hne14 : l.take 14 ≠ [] := by intro h; have := congrArg List.length h; rw [List.length_take, List.length_nil] at this; omega
    have hne15 : l.drop 15 ≠ [] := by intro h; have := congrArg List.length h; rw [List.length_drop, List.length_nil] at this; omega
    have hx14 : (m.extract 0 14).data.toList = l.take 14 := by rw [ByteArray.data_extract, Array.toList_extract, HML.out, List.extract_eq_take_drop]; simp
    have hx15 : (m.extract 15 27).data.toList = l.drop 15 := by rw [ByteArray.data_extract, Array.toList_extract, HML.out, List.extract_eq_take_drop, List.take_of_length_le (by rw [List.length_drop]; omega)]
    have hm14 : 14 < m.size := by omega
    have hb14 : l[14]? = some (m[14]'hm14) := by
      have h14 : 14 < l.length := by omega
      rw [List.getElem?_eq_getElem h14]
      have e : ∀ k : List UInt8, k = l → ∀ h : 14 < k.length, k[14] = l[14] := by rintro k rfl h; rfl
      exact congrArg some (e _ HML.out (by rw [HML.out]; exact h14)).symm
    have HAL := Lib.hid (fun w => R.ver_all.calls (m.extract 0 14).size.succ (m.extract 0 14) _ w (all_f _ (by rw [ByteArray.size_extract]; omega) _ (Nat.lt_succ_self _)))
    have HON := Lib.hid (only_hex (m.extract 15 27) (by rw [ByteArray.size_extract]; omega))
    rw [hx14, allL_ne hne14] at HAL
    rw [hx15, show (l.drop 15 == []) = false from by simpa using hne15] at HON
    have hb2 : p.toList = [] ↔ False := ⟨hpn, False.elim⟩
    have HM14 := Lib.hid hb14
    have HM15 := Lib.hid hx15
    have HL27 := Lib.hid h27
    clear h27 hlz hpn hb14 hx14 hx15 hne15 hms
    by_cases h45 : m[14] = 45
    · have n1 : ((m[14].toNat : Int) != 45) = false := by rw [h45]; rfl
      have H45 := Lib.hid h45
      clear h45
      cases ha : (l.take 14).all digitB with
      | true =>
        rw [ha] at HAL
        have HAA := Lib.hid ha
        clear ha
        cases hx : (l.drop 15).all hexL with
        | true =>
          rw [hx] at HON
          have HXX := Lib.hid hx
          have HAT := Lib.hid (fun w => strconv_Atoi.calls (m.extract 0 14) (dv (l.take 14)) none w (by
            unfold strconv_Atoi.f
            have e : (m.extract 0 14).data.toList = l.take 14 := by rw [ByteArray.data_extract, Array.toList_extract, HML.out, List.extract_eq_take_drop]; simp
            rw [if_pos (by rw [ByteArray.size_extract]; omega), e, atoi_dv HAA.out hne14]
            rfl))
          have HCL := Lib.hid (fun w => strings_Clone.calls (m.extract 15 27) _ w (by unfold strings_Clone.f; rw [if_pos (by rw [ByteArray.size_extract]; omega)]))
          clear hx hne14
          go_enter Tryd.func10, Tryd.ntmps10
          go_wp2_with (fail)
          go_quiet ((go_at_call 22; exact quiet_drawn (HC.out _)))
          rw [HE.out]
          clear i1 h2 h3 HC HE
          go_wp2_with (fail)
          refine (HAL.out _).mono ?_
          rintro e w1 ⟨rfl, n2, rfl⟩
          have HB1 := Lib.hid (below_dr ((Below.refl _ w).alloc (Nat.le_refl _) (.cells #[.int .i64 a, .int .i64 b, .int .i64 c, .string p] 26)) (nq + n2))
          go_wp2_with (fail)
          refine (HON.out _).mono ?_
          rintro e w2 ⟨rfl, hb⟩
          have HB2 := Lib.hid (below_then HB1.out HB1.out.size hb)
          clear hb HB1
          go_wp2_with (fail)
          refine (HAT.out _).mono ?_
          rintro e w3 ⟨rfl, _, hb⟩
          have HB3 := Lib.hid (below_then HB2.out HB2.out.size hb)
          clear hb
          go_wp2_with (fail)
          refine (HCL.out _).mono ?_
          rintro e w4 ⟨rfl, hb⟩
          have HB4 := Lib.hid (below_then HB3.out HB3.out.size hb)
          clear hb
          go_wp2_with (fail)
          go_ret3
          refine ⟨?_, HB4.out⟩
          have hZ : Z = some (dv (l.take 14), l.drop 15) := HBD.out.trans (if_pos ⟨HL27.out, by rw [HM14.out, H45.out], HAA.out, HXX.out⟩)
          rw [hZ]
          have e15 : m.extract 15 27 = bs (l.drop 15) := by rw [← HM15.out, bs_data]
          rw [show behindOut (some (dv (l.take 14), l.drop 15)) = ((dv (l.take 14) : Int), bs (l.drop 15), true) from rfl, ← e15]
          rfl
        | false =>
          rw [hx] at HON
          have HN := Lib.hid (HBD.out.trans (if_neg (fun h => by rw [h.2.2.2] at hx; cases hx)))
          clear hx hne14
          go_enter Tryd.func10, Tryd.ntmps10
          go_wp2_with (fail)
          go_quiet ((go_at_call 22; exact quiet_drawn (HC.out _)))
          rw [HE.out]
          clear i1 h2 h3 HC HE
          go_wp2_with (fail)
          refine (HAL.out _).mono ?_
          rintro e w1 ⟨rfl, n2, rfl⟩
          have HB1 := Lib.hid (below_dr ((Below.refl _ w).alloc (Nat.le_refl _) (.cells #[.int .i64 a, .int .i64 b, .int .i64 c, .string p] 26)) (nq + n2))
          go_wp2_with (fail)
          refine (HON.out _).mono ?_
          rintro e w2 ⟨rfl, hb⟩
          have HB2 := Lib.hid (below_then HB1.out HB1.out.size hb)
          clear hb HB1
          go_wp2_with (fail)
          go_ret3
          exact bh_none rfl HN.out HB2.out
      | false =>
        rw [ha] at HAL
        have HN := Lib.hid (HBD.out.trans (if_neg (fun h => by rw [h.2.2.1] at ha; cases ha)))
        clear ha hne14
        go_enter Tryd.func10, Tryd.ntmps10
        go_wp2_with (fail)
        go_quiet ((go_at_call 22; exact quiet_drawn (HC.out _)))
        rw [HE.out]
        clear i1 h2 h3 HC HE
        go_wp2_with (fail)
        refine (HAL.out _).mono ?_
        rintro e w1 ⟨rfl, n2, rfl⟩
        have HB1 := Lib.hid (below_dr ((Below.refl _ w).alloc (Nat.le_refl _) (.cells #[.int .i64 a, .int .i64 b, .int .i64 c, .string p] 26)) (nq + n2))
        go_wp2_with (fail)
        go_ret3
        exact bh_none rfl HN.out HB1.out
    · have n1 : ((m[14].toNat : Int) != 45) = true := by
        have : m[14].toNat ≠ 45 := fun e => h45 (UInt8.toNat_inj.mp e)
        simp only [bne_iff_ne, ne_eq]
        omega
      have HN := Lib.hid (HBD.out.trans (if_neg (fun h => h45 (Option.some.inj (HM14.out.symm.trans h.2.1)))))
      clear h45 hne14
      go_enter Tryd.func10, Tryd.ntmps10
      go_wp2_with (fail)
      go_quiet ((go_at_call 22; exact quiet_drawn (HC.out _)))
      rw [HE.out]
      clear i1 h2 h3 HC HE
      go_wp2_with (fail)
      go_ret3
      exact bh_none rfl HN.out (below_dr ((Below.refl _ w).alloc (Nat.le_refl _) _) _)
  · have n1 : ((m.size : Int) != 27) = true := by simp only [bne_iff_ne, ne_eq]; omega
    have n2 : (m.size != 27) = true := by simp only [bne_iff_ne, ne_eq]; omega
    have HN := Lib.hid (HBD.out.trans (if_neg (fun h => h27 h.1)))
    clear h27 hlz hms
    go_enter Tryd.func10, Tryd.ntmps10
    go_wp2_with (fail)
    go_quiet ((go_at_call 22; exact quiet_drawn (HC.out _)))
    rw [HE.out]
    clear i1 h2 h3 HC HE
    go_wp2_with (fail)
    all_goals
      go_ret3
      exact bh_none rfl HN.out (below_dr ((Below.refl _ w).alloc (Nat.le_refl _) _) _)
def ver_Pseudo.f (a0 : Bool) (a1_0 : Int) (a1_1 : Int) (a1_2 : Int) (a1_3 : ByteArray) (a2 : Int) (a3 : ByteArray) : Option (Int × Int × Int × ByteArray × Bool) :=
  if a1_3.size ≤ 900000 ∧ (-1000000000 ≤ a1_2 ∧ a1_2 ≤ 1000000000) ∧ a3.size ≤ 900000 then some (verOut (pseudoV a0 ⟨a1_0, a1_1, a1_2, a1_3.data.toList⟩ a2 a3.data.toList)) else none
theorem ver_Pseudo.calls (a0 : Bool) (a1_0 : Int) (a1_1 : Int) (a1_2 : Int) (a1_3 : ByteArray) (a2 : Int) (a3 : ByteArray) (r1 : Int) (r2 : Int) (r3 : Int) (r4 : ByteArray) (r5 : Bool) (w : World) (hG : GL w) (h : ver_Pseudo.f a0 a1_0 a1_1 a1_2 a1_3 a2 a3 = some (r1, r2, r3, r4, r5)) :
    Calls Tryd.prog 9 #[.bool a0, .agg #[.int .i64 a1_0, .int .i64 a1_1, .int .i64 a1_2, .string a1_3], .int .i64 a2, .string a3] w fun e w' => e = .returned (.tuple #[.agg #[.int .i64 r1, .int .i64 r2, .int .i64 r3, .string r4], .bool r5]) ∧ Below w.heap.size w w' := by
  unfold ver_Pseudo.f at h
  split at h
  · next hs =>
    have he := Option.some.inj h
    refine (pseudo_calls a0 a1_0 a1_1 a1_2 a1_3 a2 a3 w hs.1 hs.2.1 hs.2.2 hG).mono ?_
    rintro e w' ⟨rfl, hb⟩
    refine ⟨?_, hb⟩
    cases hp : pseudoV a0 ⟨a1_0, a1_1, a1_2, a1_3.data.toList⟩ a2 a3.data.toList with
    | none =>
      rw [hp] at he
      simp only [verOut, Prod.mk.injEq] at he
      obtain ⟨rfl, rfl, rfl, rfl, rfl⟩ := he
      rfl
    | some v =>
      rw [hp] at he
      simp only [verOut, Prod.mk.injEq] at he
      obtain ⟨rfl, rfl, rfl, rfl, rfl⟩ := he
      rfl
  · cases h
def ver_Behind.f (a0_0 : Int) (a0_1 : Int) (a0_2 : Int) (a0_3 : ByteArray) : Option (Int × ByteArray × Bool) := if a0_3.size ≤ 900000 then some (behindOut (behindL a0_3.data.toList)) else none
theorem ver_Behind.calls (a0_0 : Int) (a0_1 : Int) (a0_2 : Int) (a0_3 : ByteArray) (r1 : Int) (r2 : ByteArray) (r3 : Bool) (w : World) (hG : GL w) (h : ver_Behind.f a0_0 a0_1 a0_2 a0_3 = some (r1, r2, r3)) :
    Calls Tryd.prog 10 #[.agg #[.int .i64 a0_0, .int .i64 a0_1, .int .i64 a0_2, .string a0_3]] w fun e w' => e = .returned (.tuple #[.int .i64 r1, .string r2, .bool r3]) ∧ Below w.heap.size w w' := by
  unfold ver_Behind.f at h
  split at h
  · next hs =>
    have he := Option.some.inj h
    refine (behind_calls a0_0 a0_1 a0_2 a0_3 w hs).mono ?_
    rintro e w' ⟨rfl, hb⟩
    rw [he]
    exact ⟨rfl, hb⟩
  · cases h
end Go.Proofs.YtoghoiecnciglaaDoor.Q
end
