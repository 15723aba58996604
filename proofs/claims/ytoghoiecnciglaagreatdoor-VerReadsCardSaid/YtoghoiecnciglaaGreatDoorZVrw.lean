import Derived.Test.YtoghoiecnciglaaGreatDoorZVro
import Derived.Test.YtoghoiecnciglaaGreatDoorZVq
namespace Go.Proofs.YtoghoiecnciglaaGreatDoor.Q
open Go.RowKit Go.Proofs.YtoghoiecnciglaaGreatDoorW.PrintWords
theorem sz_drop (s : ByteArray) (P : Nat) : (s.data.toList.drop P).length = s.size - P := by rw [List.length_drop]; rfl
theorem get_drop (s : ByteArray) (P j : Nat) (h : j < (s.data.toList.drop P).length) : ∃ h2 : P + j < s.size, (s.data.toList.drop P)[j] = s[P + j] := by
  rw [sz_drop] at h
  exact ⟨by omega, by rw [List.getElem_drop]; rfl⟩
structure At2 (w wr : World) (s : ByteArray) (R : Option Vr) (i P a b c : Nat) : Prop where
  le : P ≤ s.size
  ko : R = kontG i a b c (s.data.toList.drop P)
  rb : Blk wr w.heap.size 25 #[.int .i64 0, .int .i64 0, .int .i64 0, .string ⟨#[]⟩]
  nb : Blk wr (w.heap.size + 1) 50 #[.int .i64 (a : Int), .int .i64 (b : Int), .int .i64 (c : Int)]
  be : Below w.heap.size w wr
theorem At2.drewN {w wr : World} {s : ByteArray} {R : Option Vr} {i P a b c : Nat} (h : At2 w wr s R i P a b c) (n : Nat) : At2 w (wr.drewN n) s R i P a b c := ⟨h.le, h.ko, h.rb.drewN n, h.nb.drewN n, below_dr h.be n⟩
section
variable (w : World)
set_option maxHeartbeats 1600000 in
set_option maxRecDepth 100000 in
theorem rparse_calls (s : ByteArray) (hs : s.size ≤ 900000) :
    Calls Tryz.prog 9 #[.string s] w (PPost w (refParse s.data.toList)) := by
  have h0 : At2 w ((w.alloc (.cells #[.int .i64 0, .int .i64 0, .int .i64 0, .string ⟨#[]⟩] 25)).alloc (.cells #[.int .i64 0, .int .i64 0, .int .i64 0] 50)) s (refParse s.data.toList) 0 0 0 0 0 :=
    ⟨Nat.zero_le _, rfl, (Blk.new w 25 _).alloc _, Blk.new2' w _ 50 _, Below.alloc2' w _ _⟩
  generalize refParse s.data.toList = R at *
  have H0 := Lib.hid h0
  clear h0
  go_enter Tryz.func9, Tryz.ntmps9
  go_upto_block 0 with (fail)
  go_cut [5, 6] (fun v5 v6 wx => ∃ P a b c : Nat, v5 = .int .i64 (P : Int) ∧ v6 = .int .i64 3 ∧ At2 w wx s R 3 P a b c)
  case first =>
    go_wp2_with (fail)
    go_loopg [5, 6] (3) (fun q' v5 v6 wr => ∃ i P a b c : Nat, q' = 3 - i ∧ i ≤ 3 ∧ v5 = .int .i64 (P : Int) ∧ v6 = .int .i64 (i : Int) ∧ At2 w wr s R i P a b c)
    case atStart => exact ⟨0, 0, 0, 0, 0, rfl, by omega, rfl, rfl, H0.out⟩
    case round =>
      obtain ⟨i, P, a, b, c, rfl, hi, rfl, rfl, h⟩ := hrel
      clear H0
      have hP := h.le
      have H := Lib.hid h
      clear h
      by_cases hi3 : i = 3
      · subst hi3
        go_wp2_with (fail)
        go_meet
        exact ⟨P, a, b, c, rfl, rfl, H.out⟩
      · have hi2 : i = 0 ∨ i = 1 ∨ i = 2 := by omega
        have HI := Lib.hid (show i < 3 by omega)
        have l3 : (i : Int) < 3 := by omega
        have dl3 : decide ((i : Int) < 3) = true := decide_eq_true l3
        have dl4 : decide (i < 3) = true := decide_eq_true (by omega)
        clear hi hi3
        by_cases hPs : P < s.size
        · have g1 : decide (s.size ≤ P) = false := decide_eq_false (by omega)
          have g2 : decide ((s.size : Int) ≤ (P : Int)) = false := decide_eq_false (by omega)
          have k0 := H.out.rb.cell 0
          have k1 := H.out.rb.cell 1
          have k2 := H.out.rb.cell 2
          have k3 := H.out.rb.cell 3
          have f0 := H.out.rb.unfrozen 0
          have f1 := H.out.rb.unfrozen 1
          have f2 := H.out.rb.unfrozen 2
          have f3 := H.out.rb.unfrozen 3
          have hdr : s.data.toList.drop P = s[P] :: s.data.toList.drop (P + 1) := drop_byte s P hPs
          have hi3' : i < (⟨#[118, 46, 46]⟩ : ByteArray).size := by show i < 3; omega
          have hsv : (⟨#[118, 46, 46]⟩ : ByteArray)[i] = signP i := by rcases hi2 with rfl | rfl | rfl <;> rfl
          by_cases hsg : s[P] = signP i
          · have n1 : ((s[P].toNat : Int) != (((⟨#[118, 46, 46]⟩ : ByteArray)[i]).toNat : Int)) = false := by rw [hsv, hsg]; simp
            clear hsv
            have HDR := Lib.hid hdr
            have HSG := Lib.hid hsg
            have i1 : IntKind.i64.wrap ((P : Int) + 1) = ((P + 1 : Nat) : Int) := IntWalk.i64_in _ ⟨by omega, by omega⟩
            clear hdr hsg l3 dl3 dl4
            have hDl : ((s.data.toList.drop (P + 1)).takeWhile digitB).length ≤ s.size - (P + 1) := by
              rw [← sz_drop]
              exact (List.takeWhile_prefix _).length_le
            have HIN := Lib.hid (tw_in (s.data.toList.drop (P + 1)))
            have HOUT := Lib.hid (tw_out (s.data.toList.drop (P + 1)))
            have HTW := Lib.hid (tw_take (s.data.toList.drop (P + 1)))
            have HDW := Lib.hid (dw_drop (s.data.toList.drop (P + 1)))
            generalize hDe : ((s.data.toList.drop (P + 1)).takeWhile digitB).length = D at *
            have HDE := Lib.hid hDe
            clear hDe
            have HI2 := Lib.hid hi2
            have HCU : Hid (∀ K : Exit → Act → World → Prop, True) := Lib.hid (fun _ => trivial)
            rcases hi2 with rfl | rfl | rfl
            all_goals
              go_wp2_with (fail)
              go_quiet (fail)
              go_wp2_with (fail)
              go_loopg [5] (D) (fun q' v5 wr2 => ∃ j : Nat, q' = D - j ∧ j ≤ D ∧ v5 = .int .i64 ((P + 1 + j : Nat) : Int) ∧ At2 w wr2 s R _ P a b c)
              case atStart => exact ⟨0, rfl, Nat.zero_le _, rfl, H.out.drewN _⟩
              case round =>
                obtain ⟨j, rfl, hj, rfl, h2⟩ := hrel
                have H2 := Lib.hid h2
                clear h2 H k0 k1 k2 k3 f0 f1 f2 f3
                by_cases hjD : j < D
                · obtain ⟨t1, t2⟩ := HIN.out j hjD
                  obtain ⟨t3, t4⟩ := get_drop s (P + 1) j t1
                  rw [t4] at t2
                  clear t1 t4
                  have i2 : (0 : Int) ≤ ((P + 1 + j : Nat) : Int) ∧ ((P + 1 + j : Nat) : Int) < (s.size : Int) := by omega
                  have e1 : decide (P + 1 + j < s.size) = true := decide_eq_true t3
                  have e2 : decide (((P + 1 + j : Nat) : Int) < (s.size : Int)) = true := decide_eq_true (by omega)
                  have HDG := Lib.hid t2
                  have i3 : IntKind.i64.wrap (((P + 1 + j : Nat) : Int) + 1) = ((P + 1 + (j + 1) : Nat) : Int) := IntWalk.i64_in _ ⟨by omega, by omega⟩
                  clear t2
                  go_wp2_with (fail)
                  refine (digit_calls _ _).mono ?_
                  rintro e w2 ⟨rfl, n2, rfl⟩
                  rw [HDG.out]
                  go_wp2_with (fail)
                  go_roundg (D - (j + 1))
                  case measure => omega
                  case rel => exact ⟨j + 1, rfl, by omega, rfl, H2.out.drewN _⟩
                · obtain rfl : j = D := by omega
                  have i2 : (0 : Int) ≤ ((P + 1 + j : Nat) : Int) := by omega
                  have b1 : (0 : Int) ≤ (P : Int) + 1 ∧ (P : Int) + 1 ≤ (P : Int) + 1 + (j : Int) ∧ (P : Int) + 1 + (j : Int) ≤ (s.size : Int) := by omega
                  have b2 : ((P : Int) + 1).toNat = P + 1 := by omega
                  have b3 : ((P : Int) + 1 + (j : Int)).toNat = P + 1 + j := by omega
                  have hex : (s.extract (P + 1) (P + 1 + j)).data.toList = (s.data.toList.drop (P + 1)).takeWhile digitB := by
                    rw [HTW.out, ByteArray.data_extract, Array.toList_extract, List.extract_eq_take_drop]
                    congr 1
                    omega
                  have HEX := Lib.hid hex
                  clear hex
                  have HSZ := Lib.hid b1
                  rcases Nat.lt_or_ge (P + 1 + j) s.size with hlt | hge
                  all_goals first
                    | (have e1 : decide (P + 1 + j < s.size) = true := decide_eq_true hlt
                       have e2 : decide (((P + 1 + j : Nat) : Int) < (s.size : Int)) = true := decide_eq_true (by omega)
                       have HDG : Hid (digitB s[P + 1 + j] = false) := by
                         rcases HOUT.out with h | ⟨h1, h2⟩
                         · rw [sz_drop] at h; omega
                         · obtain ⟨t3, t4⟩ := get_drop s (P + 1) j h1
                           rw [t4] at h2
                           exact Lib.hid h2
                       go_wp2_with (fail)
                       refine (digit_calls _ _).mono ?_
                       rintro e w2 ⟨rfl, n2, rfl⟩
                       rw [HDG.out]
                       have H3 := Lib.hid (H2.out.drewN n2)
                       generalize wr.drewN n2 = w3 at *)
                    | (have e1 : decide (P + 1 + j < s.size) = false := decide_eq_false (by omega)
                       have e2 : decide (((P + 1 + j : Nat) : Int) < (s.size : Int)) = false := decide_eq_false (by omega)
                       have H3 := H2)
                  all_goals
                    clear H2 e1 e2
                    go_wp2_with (fail)
                    refine (num2_calls (s.extract (P + 1) (P + 1 + j)) _).mono ?_
                    rintro e w4 ⟨rfl, n4, rfl⟩
                    rw [HEX.out]
                    have H4 := Lib.hid (H3.out.drewN n4)
                    have k0 := H3.out.rb.cell 0
                    have k1 := H3.out.rb.cell 1
                    have k2 := H3.out.rb.cell 2
                    have k3 := H3.out.rb.cell 3
                    have f0 := H3.out.rb.unfrozen 0
                    have f1 := H3.out.rb.unfrozen 1
                    have f2 := H3.out.rb.unfrozen 2
                    have f3 := H3.out.rb.unfrozen 3
                    have m0 := H3.out.nb.cell 0
                    have m1 := H3.out.nb.cell 1
                    have m2 := H3.out.nb.cell 2
                    have q0 := H3.out.nb.unfrozen 0
                    have q1 := H3.out.nb.unfrozen 1
                    have q2 := H3.out.nb.unfrozen 2
                    clear H3
                    cases hnl : numL ((s.data.toList.drop (P + 1)).takeWhile digitB) with
                    | none =>
                      have HN := Lib.hid (show R = none from H4.out.ko.trans (part_none (by decide) (by rw [HDR.out, HSG.out, partP_cons, if_pos rfl, hnl]; rfl)))
                      clear hnl
                      rw [show numRes none = (0, false) from rfl]
                      go_wp2_with (fail)
                      refine bodyPost_ret (results_ct rfl _ _ w.heap.size 25 zeroV (0, 0) _ rfl (put4_blk H4.out.rb _ _ _ _) Tryz.underlying25 rfl (by kernel_rfl)) rfl ?_
                      exact ppost_none rfl HN.out (put4_below H4.out.be (Nat.le_refl _) _ _ _ _)
                    | some nn =>
                      have HKO := Lib.hid (H4.out.ko.trans (part_some (n := nn) (r := s.data.toList.drop (P + 1 + j)) (by decide) (by rw [HDR.out, HSG.out, partP_cons, if_pos rfl, hnl, HDW.out, List.drop_drop]; rfl)))
                      clear hnl
                      rw [show numRes (some nn) = ((nn : Int), true) from rfl]
                      go_wp2_with (fail)
                      first
                        | (go_roundg (2)
                           case measure => omega
                           case rel => exact ⟨1, P + 1 + j, nn, b, c, rfl, by omega, by congr 1, rfl, by omega, HKO.out, H4.out.rb.far (p := ⟨w.heap.size + 1, 0, none⟩) (by simp) _, H4.out.nb.put 0 (.int .i64 (nn : Int)), put1_below H4.out.be (Nat.le_succ _) _⟩)
                        | (go_roundg (1)
                           case measure => omega
                           case rel => exact ⟨2, P + 1 + j, a, nn, c, rfl, by omega, by congr 1, rfl, by omega, HKO.out, H4.out.rb.far (p := ⟨w.heap.size + 1, 1, none⟩) (by simp) _, H4.out.nb.put 1 (.int .i64 (nn : Int)), put1_below H4.out.be (Nat.le_succ _) _⟩)
                        | (go_roundg (0)
                           case measure => omega
                           case rel => exact ⟨3, P + 1 + j, a, b, nn, rfl, by omega, by congr 1, rfl, by omega, HKO.out, H4.out.rb.far (p := ⟨w.heap.size + 1, 2, none⟩) (by simp) _, H4.out.nb.put 2 (.int .i64 (nn : Int)), put1_below H4.out.be (Nat.le_succ _) _⟩)
          · have HN := Lib.hid (show R = none from H.out.ko.trans (part_none HI.out (by rw [hdr, partP_cons, if_neg hsg])))
            have n1 : ((s[P].toNat : Int) != (((⟨#[118, 46, 46]⟩ : ByteArray)[i]).toNat : Int)) = true := by
              rw [hsv]
              have : s[P].toNat ≠ (signP i).toNat := fun e => hsg (UInt8.toNat_inj.mp e)
              simp only [bne_iff_ne, ne_eq]
              omega
            clear hsg hdr hsv
            rcases hi2 with rfl | rfl | rfl
            all_goals
              go_wp2_with (fail)
              go_quiet (fail)
              go_wp2_with (fail)
              refine bodyPost_ret (results_ct rfl _ _ w.heap.size 25 zeroV (0, 0) _ rfl (put4_blk (H.out.drewN _).rb _ _ _ _) Tryz.underlying25 rfl (by kernel_rfl)) rfl ?_
              exact ppost_none rfl HN.out (put4_below (H.out.drewN _).be (Nat.le_refl _) _ _ _ _)
        · have g1 : decide (s.size ≤ P) = true := decide_eq_true (by omega)
          have g2 : decide ((s.size : Int) ≤ (P : Int)) = true := decide_eq_true (by omega)
          have HN := Lib.hid (show R = none from H.out.ko.trans (part_none HI.out (by rw [List.drop_of_length_le (by show s.size ≤ P; omega)]; rfl)))
          clear hi2
          have k0 := H.out.rb.cell 0
          have k1 := H.out.rb.cell 1
          have k2 := H.out.rb.cell 2
          have k3 := H.out.rb.cell 3
          have f0 := H.out.rb.unfrozen 0
          have f1 := H.out.rb.unfrozen 1
          have f2 := H.out.rb.unfrozen 2
          have f3 := H.out.rb.unfrozen 3
          go_wp2_with (fail)
          go_quiet (fail)
          go_wp2_with (fail)
          refine bodyPost_ret (results_ct rfl _ _ w.heap.size 25 zeroV (0, 0) _ rfl (put4_blk (H.out.drewN _).rb _ _ _ _) Tryz.underlying25 rfl (by kernel_rfl)) rfl ?_
          exact ppost_none rfl HN.out (put4_below (H.out.drewN _).be (Nat.le_refl _) _ _ _ _)
  case rest =>
    obtain ⟨P, a, b, c, rfl, rfl, h⟩ := hcut
    have hP := h.le
    have hko : R = lastP a b c (s.data.toList.drop P) := h.ko
    have H := Lib.hid h
    have HKO := Lib.hid hko
    have k0 := h.rb.cell 0
    have k1 := h.rb.cell 1
    have k2 := h.rb.cell 2
    have k3 := h.rb.cell 3
    have f0 := h.rb.unfrozen 0
    have f1 := h.rb.unfrozen 1
    have f2 := h.rb.unfrozen 2
    have f3 := h.rb.unfrozen 3
    have m0 := h.nb.cell 0
    have m1 := h.nb.cell 1
    have m2 := h.nb.cell 2
    have HV := Lib.hid (Blk.new wc 25 #[.int .i64 (a : Int), .int .i64 (b : Int), .int .i64 (c : Int), .string ⟨#[]⟩])
    have HRB := Lib.hid (h.rb.alloc (.cells #[.int .i64 (a : Int), .int .i64 (b : Int), .int .i64 (c : Int), .string ⟨#[]⟩] 25))
    have HBE := Lib.hid (h.be.alloc h.be.size (.cells #[.int .i64 (a : Int), .int .i64 (b : Int), .int .i64 (c : Int), .string ⟨#[]⟩] 25))
    have HLT := Lib.hid (show w.heap.size < wc.heap.size from h.rb.lt)
    clear h hko
    rcases Nat.lt_or_ge P s.size with hlt | hge
    · have hdr : s.data.toList.drop P = s[P] :: s.data.toList.drop (P + 1) := drop_byte s P hlt
      have e1 : decide (P < s.size) = true := decide_eq_true hlt
      have e2 : decide ((P : Int) < (s.size : Int)) = true := decide_eq_true (by omega)
      have i1 : IntKind.i64.wrap ((P : Int) + 1) = (P : Int) + 1 := IntWalk.i64_in _ ⟨by omega, by omega⟩
      have i2 : (0 : Int) ≤ (P : Int) ∧ (P : Int) < (s.size : Int) := by omega
      by_cases h45 : s[P] = 45
      · have n1 : ((s[P].toNat : Int) != 45) = false := by rw [h45]; rfl
        by_cases hend : P + 1 = s.size
        · have n2 : ((P : Int) + 1 == (s.size : Int)) = true := by simp only [beq_iff_eq]; omega
          have HN := Lib.hid (show R = none from HKO.out.trans (by unfold lastP; rw [hdr, preP_cons, if_neg (fun h => h.2 (by rw [List.drop_of_length_le (by show s.size ≤ P + 1; omega)]))]; rfl))
          clear hdr h45 hend
          have r0 := HRB.out.cell 0
          have s0 := HRB.out.unfrozen 0
          have r1 := HRB.out.cell 1
          have s1 := HRB.out.unfrozen 1
          have r2 := HRB.out.cell 2
          have s2 := HRB.out.unfrozen 2
          have r3 := HRB.out.cell 3
          have s3 := HRB.out.unfrozen 3
          clear k0 k1 k2 k3 f0 f1 f2 f3
          go_wp2_with (fail)
          refine bodyPost_ret (results_ct rfl _ _ w.heap.size 25 zeroV (0, 0) _ rfl (put4_blk HRB.out _ _ _ _) Tryz.underlying25 rfl (by kernel_rfl)) rfl ?_
          exact ppost_none rfl HN.out (put4_below HBE.out (Nat.le_refl _) _ _ _ _)
        · have n2 : ((P : Int) + 1 == (s.size : Int)) = false := by simp only [beq_eq_false_iff_ne, ne_eq]; omega
          have hex : (s.extract (P + 1) s.size).data.toList = s.data.toList.drop (P + 1) := by
            rw [ByteArray.data_extract, Array.toList_extract, List.extract_eq_take_drop, List.take_of_length_le (by rw [sz_drop]; omega)]
          have hpn : s.data.toList.drop (P + 1) ≠ [] := by
            intro h
            have := congrArg List.length h
            rw [sz_drop, List.length_nil] at this
            omega
          have HN := Lib.hid (HKO.out.trans (show lastP a b c (s.data.toList.drop P) = if rightV a b c (s.data.toList.drop (P + 1)) = true then some ⟨a, b, c, s.data.toList.drop (P + 1)⟩ else none from by unfold lastP; rw [hdr, preP_cons, if_pos ⟨h45, hpn⟩]; rfl))
          have i3 : (0 : Int) ≤ (P : Int) + 1 ∧ (P : Int) + 1 ≤ (s.size : Int) := by omega
          have i4 : ((P : Int) + 1).toNat = P + 1 := by omega
          have HEX := Lib.hid hex
          have HVX := Lib.hid (Blk.new wc 25 #[.int .i64 (a : Int), .int .i64 (b : Int), .int .i64 (c : Int), .string (s.extract (P + 1) s.size)])
          have HRX := Lib.hid (H.out.rb.alloc (.cells #[.int .i64 (a : Int), .int .i64 (b : Int), .int .i64 (c : Int), .string (s.extract (P + 1) s.size)] 25))
          have HBX := Lib.hid (H.out.be.alloc H.out.be.size (.cells #[.int .i64 (a : Int), .int .i64 (b : Int), .int .i64 (c : Int), .string (s.extract (P + 1) s.size)] 25))
          clear hdr h45 hend hex hpn
          go_wp2_with (fail)
          refine (rright_calls a b c (s.extract (P + 1) s.size) (by rw [ByteArray.size_extract]; omega) _).mono ?_
          rintro e w2 ⟨rfl, hb⟩
          have hr2 := HRX.out.below hb
          have hv2 := HVX.out.below hb
          have HB2 := Lib.hid (below_then HBX.out HBX.out.size hb)
          have r0 := hr2.cell 0
          have r1 := hr2.cell 1
          have r2 := hr2.cell 2
          have r3 := hr2.cell 3
          have s0 := hr2.unfrozen 0
          have s1 := hr2.unfrozen 1
          have s2 := hr2.unfrozen 2
          have s3 := hr2.unfrozen 3
          have v0 := hv2.cell 0
          have v1 := hv2.cell 1
          have v2 := hv2.cell 2
          have v3 := hv2.cell 3
          have HR2 := Lib.hid hr2
          clear hr2 hv2 hb k0 k1 k2 k3 f0 f1 f2 f3 m0 m1 m2
          generalize wc.heap.size = V at *
          have hne : V ≠ w.heap.size := by have := HLT.out; omega
          cases hr : rightV a b c (s.data.toList.drop (P + 1)) with
          | false =>
            rw [show rightV (a : Int) b c (s.extract (P + 1) s.size).data.toList = false from by rw [HEX.out]; exact hr]
            rw [hr] at HN
            go_wp2_with (fail)
            refine bodyPost_ret (results_ct rfl _ _ w.heap.size 25 zeroV (0, 0) _ rfl (put4_blk HR2.out _ _ _ _) Tryz.underlying25 rfl (by kernel_rfl)) rfl ?_
            exact ppost_none rfl (HN.out.trans (if_neg (by simp))) (put4_below HB2.out (Nat.le_refl _) _ _ _ _)
          | true =>
            rw [show rightV (a : Int) b c (s.extract (P + 1) s.size).data.toList = true from by rw [HEX.out]; exact hr]
            rw [hr] at HN
            go_wp2_with (fail)
            refine bodyPost_ret (results_ct rfl _ _ w.heap.size 25 _ (0, 0) _ rfl (put4_blk HR2.out _ _ _ _) Tryz.underlying25 rfl (by kernel_rfl)) rfl ?_
            refine ⟨?_, put4_below HB2.out (Nat.le_refl _) _ _ _ _⟩
            rw [show R = some ⟨a, b, c, s.data.toList.drop (P + 1)⟩ from HN.out.trans (if_pos (by first | rfl | trivial | exact hr))]
            rw [← HEX.out]
            show Ending.returned (.tuple #[.agg #[.int .i64 (a : Int), .int .i64 (b : Int), .int .i64 (c : Int), .string (s.extract (P + 1) s.size)], .bool true]) = Ending.returned (.tuple #[.agg #[.int .i64 (a : Int), .int .i64 (b : Int), .int .i64 (c : Int), .string (bs (s.extract (P + 1) s.size).data.toList)], .bool true])
            rw [bs_data]
      · have n1 : ((s[P].toNat : Int) != 45) = true := by
          have : s[P].toNat ≠ 45 := fun e => h45 (UInt8.toNat_inj.mp e)
          simp only [bne_iff_ne, ne_eq]
          omega
        have HN := Lib.hid (show R = none from HKO.out.trans (by unfold lastP; rw [hdr, preP_cons, if_neg (fun h => h45 h.1)]; rfl))
        clear hdr h45
        have r0 := HRB.out.cell 0
        have s0 := HRB.out.unfrozen 0
        have r1 := HRB.out.cell 1
        have s1 := HRB.out.unfrozen 1
        have r2 := HRB.out.cell 2
        have s2 := HRB.out.unfrozen 2
        have r3 := HRB.out.cell 3
        have s3 := HRB.out.unfrozen 3
        clear k0 k1 k2 k3 f0 f1 f2 f3
        go_wp2_with (fail)
        refine bodyPost_ret (results_ct rfl _ _ w.heap.size 25 zeroV (0, 0) _ rfl (put4_blk HRB.out _ _ _ _) Tryz.underlying25 rfl (by kernel_rfl)) rfl ?_
        exact ppost_none rfl HN.out (put4_below HBE.out (Nat.le_refl _) _ _ _ _)
    · have e1 : decide (P < s.size) = false := decide_eq_false (by omega)
      have e2 : decide ((P : Int) < (s.size : Int)) = false := decide_eq_false (by omega)
      have HN := Lib.hid (HKO.out.trans (show lastP a b c (s.data.toList.drop P) = if rightV a b c [] = true then some ⟨a, b, c, []⟩ else none from by rw [List.drop_of_length_le (by show s.size ≤ P; omega)]; rfl))
      have HVX := HV
      have HRX := HRB
      have HBX := HBE
      go_wp2_with (fail)
      refine (rright_calls a b c (⟨#[]⟩ : ByteArray) (by decide) _).mono ?_
      rintro e w2 ⟨rfl, hb⟩
      have hr2 := HRX.out.below hb
      have hv2 := HVX.out.below hb
      have HB2 := Lib.hid (below_then HBX.out HBX.out.size hb)
      have r0 := hr2.cell 0
      have r1 := hr2.cell 1
      have r2 := hr2.cell 2
      have r3 := hr2.cell 3
      have s0 := hr2.unfrozen 0
      have s1 := hr2.unfrozen 1
      have s2 := hr2.unfrozen 2
      have s3 := hr2.unfrozen 3
      have v0 := hv2.cell 0
      have v1 := hv2.cell 1
      have v2 := hv2.cell 2
      have v3 := hv2.cell 3
      have HR2 := Lib.hid hr2
      clear hr2 hv2 hb k0 k1 k2 k3 f0 f1 f2 f3 m0 m1 m2
      generalize wc.heap.size = V at *
      have hne : V ≠ w.heap.size := by have := HLT.out; omega
      cases hr : rightV a b c [] with
      | false =>
        rw [hr] at HN
        go_wp2_with (fail)
        refine bodyPost_ret (results_ct rfl _ _ w.heap.size 25 zeroV (0, 0) _ rfl (put4_blk HR2.out _ _ _ _) Tryz.underlying25 rfl (by kernel_rfl)) rfl ?_
        exact ppost_none rfl (HN.out.trans (if_neg (by simp))) (put4_below HB2.out (Nat.le_refl _) _ _ _ _)
      | true =>
        rw [hr] at HN
        go_wp2_with (fail)
        refine bodyPost_ret (results_ct rfl _ _ w.heap.size 25 _ (0, 0) _ rfl (put4_blk HR2.out _ _ _ _) Tryz.underlying25 rfl (by kernel_rfl)) rfl ?_
        refine ⟨?_, put4_below HB2.out (Nat.le_refl _) _ _ _ _⟩
        rw [show R = some ⟨a, b, c, []⟩ from HN.out.trans (if_pos (by first | rfl | trivial | exact hr))]
        rfl
end
def transhumanceref2_Parse.f (a0 : ByteArray) : Option (Int × Int × Int × ByteArray × Bool) := if a0.size ≤ 900000 then some (verOut (parseV a0.data.toList)) else none
theorem transhumanceref2_Parse.calls (a0 : ByteArray) (r1 : Int) (r2 : Int) (r3 : Int) (r4 : ByteArray) (r5 : Bool) (w : World) (h : transhumanceref2_Parse.f a0 = some (r1, r2, r3, r4, r5)) :
    Calls Tryz.prog 9 #[.string a0] w fun e w' => e = .returned (.tuple #[.agg #[.int .i64 r1, .int .i64 r2, .int .i64 r3, .string r4], .bool r5]) ∧ Below w.heap.size w w' := by
  unfold transhumanceref2_Parse.f at h
  split at h
  · next hs =>
    have he := Option.some.inj h
    refine (rparse_calls w a0 hs).mono ?_
    rintro e w' ⟨rfl, hb⟩
    refine ⟨?_, hb⟩
    rw [ref_parse]
    cases hp : parseV a0.data.toList with
    | none =>
      rw [hp] at he
      simp only [verOut, Prod.mk.injEq] at he
      obtain ⟨rfl, rfl, rfl, rfl, rfl⟩ := he
      rfl
    | some v =>
      rw [hp] at he
      simp only [verOut, Prod.mk.injEq] at he
      obtain ⟨rfl, rfl, rfl, rfl, rfl⟩ := he
      rfl
  · cases h
end Go.Proofs.YtoghoiecnciglaaGreatDoor.Q
