import Derived.Test.YtoghoiecnciglaaDoorZVq
import Derived.Test.YtoghoiecnciglaaDoorZVm
import Derived.Test.YtoghoiecnciglaaDoorZVig
import Derived.Test.YtoghoiecnciglaaDoorZQ3
import Derived.Deep.RegionHeld3
namespace Go.Proofs.YtoghoiecnciglaaDoor.Q
open Go.RowKit Go.Proofs.YtoghoiecnciglaaDoorW.PrintWords Go.Proofs.YtoghoiecnciglaaDoorW.PrintLast Go.Proofs.YtoghoiecnciglaaDoorW.PrintMore
def preK : ByteArray := (⟨#[48, 46, 48, 48, 48, 48, 48, 48, 48, 48, 48, 48, 48, 48, 48, 53, 45, 48, 49, 50, 51, 52, 53, 54, 55, 56, 57, 97, 98]⟩ : ByteArray)
theorem kn_parse : ver_Parse.f (⟨#[118, 49, 46, 50, 46, 51]⟩ : ByteArray) = some (1, 2, 3, (⟨#[]⟩ : ByteArray), true) := by decide +kernel
theorem kn_pseudo : ver_Pseudo.f true 1 2 3 (⟨#[]⟩ : ByteArray) 5 (⟨#[48, 49, 50, 51, 52, 53, 54, 55, 56, 57, 97, 98, 99, 100, 101, 102]⟩ : ByteArray) = some (1, 2, 4, preK, true) := by decide +kernel
theorem kn_behind : ver_Behind.f 1 2 4 preK = some (5, (⟨#[48, 49, 50, 51, 52, 53, 54, 55, 56, 57, 97, 98]⟩ : ByteArray), true) := by decide +kernel
theorem kn_text : ver_Text.f 1 2 3 (⟨#[]⟩ : ByteArray) = some (⟨#[118, 49, 46, 50, 46, 51]⟩ : ByteArray) := by decide +kernel
def vK : Vr := ⟨1, 2, 3, []⟩
def pK : Vr := ⟨1, 2, 4, preK.data.toList⟩
theorem kn_cmp : cmpV vK pK = -1 := by decide +kernel
theorem kn_max : (maxV [vK, pK]).arr = pK.arr := by
  have : maxV [vK, pK] = pK := by
    show (if 0 < cmpV pK vK then pK else vK) = pK
    rw [if_pos (by decide +kernel)]
  rw [this]
theorem kn_right : rightV 1 2 4 preK.data.toList = true := by decide +kernel
theorem known_text (W : World) (hG : GL W) : Calls Tryd.prog 11 #[.agg #[.int .i64 1, .int .i64 2, .int .i64 3, .string ⟨#[]⟩]] W fun e w' => e = .returned (.string ⟨#[118, 49, 46, 50, 46, 51]⟩) ∧ Below W.heap.size W w' := ver_Text.calls _ _ _ _ _ W hG kn_text
theorem known_cmp (W : World) (hG : GL W) : Calls Tryd.prog 12 #[.agg #[.int .i64 1, .int .i64 2, .int .i64 3, .string ⟨#[]⟩], .agg #[.int .i64 1, .int .i64 2, .int .i64 4, .string preK]] W fun e w' => e = .returned (.int .i64 (-1)) ∧ Below W.heap.size W w' := by
  have := cmp_calls vK pK (by decide) (by decide +kernel) W hG
  rw [kn_cmp] at this
  exact this
theorem known_right (W : World) (hG : GL W) : Calls Tryd.prog 13 #[.agg #[.int .i64 1, .int .i64 2, .int .i64 4, .string preK]] W fun e w' => e = .returned (.bool true) ∧ Below W.heap.size W w' :=
  ver_Right.calls _ _ _ _ _ W hG (by unfold ver_Right.f; rw [if_pos (by decide), kn_right])
theorem known_max0 (W : World) (hG : GL W) (c : Nat) : Calls Tryd.prog 7 #[.slice none 0 c] W fun e w' => e = .returned (.agg #[.int .i64 0, .int .i64 0, .int .i64 0, .string ⟨#[]⟩]) ∧ Below W.heap.size W w' :=
  max_calls W none c [] (fun j h => absurd h (by simp)) (by simp) (by simp) hG
theorem vrs_two {W : World} {g : Nat} (h : Blk W g 26 #[.int .i64 1, .int .i64 2, .int .i64 3, .string ⟨#[]⟩, .int .i64 1, .int .i64 2, .int .i64 4, .string preK]) : VrsAt W (some ⟨g, 0, none⟩) [vK, pK] := by
  intro j hj
  refine ⟨_, rfl, ?_⟩
  rcases j with _ | _ | j
  · exact ⟨h.cell 0, h.cell 1, h.cell 2, h.cell 3⟩
  · refine ⟨h.cell 4, h.cell 5, h.cell 6, ?_⟩
    have := h.cell 7
    rw [← bs_data preK] at this
    exact this
  · simp at hj; omega
theorem known_max2 (W : World) (hG : GL W) (g c : Nat) (h : Blk W g 26 #[.int .i64 1, .int .i64 2, .int .i64 3, .string ⟨#[]⟩, .int .i64 1, .int .i64 2, .int .i64 4, .string preK]) :
    Calls Tryd.prog 7 #[.slice (some ⟨g, 0, none⟩) 2 c] W fun e w' => e = .returned (.agg #[.int .i64 1, .int .i64 2, .int .i64 4, .string preK]) ∧ Below W.heap.size W w' := by
  have := max_calls W (some ⟨g, 0, none⟩) c [vK, pK] (vrs_two h) (by simp) (by intro x hx; simp at hx; rcases hx with rfl | rfl <;> decide +kernel) hG
  rw [kn_max] at this
  exact this
theorem keep9 {w W W' : World} {V P : Nat} {a b c d e f g h : Value}
    (hs : W.cell? ⟨V, 0, none⟩ = some a ∧ W.cell? ⟨V, 1, none⟩ = some b ∧ W.cell? ⟨V, 2, none⟩ = some c ∧ W.cell? ⟨V, 3, none⟩ = some d ∧ W.cell? ⟨P, 0, none⟩ = some e ∧ W.cell? ⟨P, 1, none⟩ = some f ∧ W.cell? ⟨P, 2, none⟩ = some g ∧ W.cell? ⟨P, 3, none⟩ = some h ∧ Below w.heap.size w W)
    (hb : Below W.heap.size W W') :
    W'.cell? ⟨V, 0, none⟩ = some a ∧ W'.cell? ⟨V, 1, none⟩ = some b ∧ W'.cell? ⟨V, 2, none⟩ = some c ∧ W'.cell? ⟨V, 3, none⟩ = some d ∧ W'.cell? ⟨P, 0, none⟩ = some e ∧ W'.cell? ⟨P, 1, none⟩ = some f ∧ W'.cell? ⟨P, 2, none⟩ = some g ∧ W'.cell? ⟨P, 3, none⟩ = some h ∧ Below w.heap.size w W' := by
  obtain ⟨h0, h1, h2, h3, h4, h5, h6, h7, h8⟩ := hs
  exact ⟨pw_cell_below hb h0, pw_cell_below hb h1, pw_cell_below hb h2, pw_cell_below hb h3, pw_cell_below hb h4, pw_cell_below hb h5, pw_cell_below hb h6, pw_cell_below hb h7, below_then h8 h8.size hb⟩
theorem keepB {w W : World} {V P : Nat} {a b c d e f g h : Value}
    (hs : W.cell? ⟨V, 0, none⟩ = some a ∧ W.cell? ⟨V, 1, none⟩ = some b ∧ W.cell? ⟨V, 2, none⟩ = some c ∧ W.cell? ⟨V, 3, none⟩ = some d ∧ W.cell? ⟨P, 0, none⟩ = some e ∧ W.cell? ⟨P, 1, none⟩ = some f ∧ W.cell? ⟨P, 2, none⟩ = some g ∧ W.cell? ⟨P, 3, none⟩ = some h ∧ Below w.heap.size w W) : Below w.heap.size w W := hs.2.2.2.2.2.2.2.2
section
variable (w : World)
set_option maxHeartbeats 600000 in
set_option maxRecDepth 100000 in
theorem known_calls (hG : GL w) : Calls Tryd.prog 4 #[] w fun e w' => e = .returned (.bool true) ∧ Below w.heap.size w w' := by
  have HG := Lib.hid hG
  clear hG
  go_enter Tryd.func4, Tryd.ntmps4
  go_wp2_with (fail)
  refine (ver_Parse.calls _ _ _ _ _ _ w HG.out kn_parse).mono ?_
  rintro e w1 ⟨rfl, hb1⟩
  have HB1 := Lib.hid (hb1.alloc hb1.size (.cells #[.int .i64 1, .int .i64 2, .int .i64 3, .string ⟨#[]⟩] 26))
  have HV1 := Lib.hid (Blk.new w1 26 #[.int .i64 1, .int .i64 2, .int .i64 3, .string ⟨#[]⟩])
  have HW1 := Lib.hid hb1.size
  clear hb1
  go_wp2_with (fail)
  refine (ver_Pseudo.calls _ _ _ _ _ _ _ _ _ _ _ _ _ (HG.out.below0 HB1.out) kn_pseudo).mono ?_
  rintro e w2 ⟨rfl, hb2⟩
  have hb12 := below_then HB1.out HB1.out.size hb2
  have HV2 := Lib.hid (HV1.out.below hb2)
  have HB2 := Lib.hid (hb12.alloc hb12.size (.cells #[.int .i64 1, .int .i64 2, .int .i64 4, .string preK] 26))
  have HP2 := Lib.hid (Blk.new w2 26 #[.int .i64 1, .int .i64 2, .int .i64 4, .string preK])
  have HW2 := Lib.hid (show w1.heap.size < w2.heap.size from HV2.out.lt)
  clear hb2 hb12
  go_wp2_with (fail)
  refine (ver_Behind.calls _ _ _ _ _ _ _ _ (HG.out.below0 HB2.out) kn_behind).mono ?_
  rintro e w3 ⟨rfl, hb3⟩
  have hv3 : Blk w3 w1.heap.size 26 #[.int .i64 1, .int .i64 2, .int .i64 3, .string ⟨#[]⟩] := (HV2.out.alloc _).below hb3
  have hp3 : Blk w3 w2.heap.size 26 #[.int .i64 1, .int .i64 2, .int .i64 4, .string preK] := HP2.out.below hb3
  have HB3 := Lib.hid (below_then HB2.out HB2.out.size hb3)
  generalize w1.heap.size = V at *
  generalize w2.heap.size = P at *
  have a0 := hv3.cell 0
  have a1 := hv3.cell 1
  have a2 := hv3.cell 2
  have a3 := hv3.cell 3
  have b0 := hp3.cell 0
  have b1 := hp3.cell 1
  have b2 := hp3.cell 2
  have b3 := hp3.cell 3
  clear hb3 HB1 HV1 HW1 HV2 HB2 HP2 HW2
  have HHV := Lib.hid hv3
  have HHP := Lib.hid hp3
  have HT := Lib.hid known_text
  have HC := Lib.hid known_cmp
  have HR := Lib.hid known_right
  have HM0 := Lib.hid known_max0
  have HM2 := Lib.hid known_max2
  clear hv3 hp3
  generalize preK = pk at *
  go_wp2_with (fail)
  go_region_held3 (fun w' => w'.cell? ⟨V, 0, none⟩ = some (.int .i64 1) ∧ w'.cell? ⟨V, 1, none⟩ = some (.int .i64 2) ∧ w'.cell? ⟨V, 2, none⟩ = some (.int .i64 3) ∧ w'.cell? ⟨V, 3, none⟩ = some (.string ⟨#[]⟩) ∧ w'.cell? ⟨P, 0, none⟩ = some (.int .i64 1) ∧ w'.cell? ⟨P, 1, none⟩ = some (.int .i64 2) ∧ w'.cell? ⟨P, 2, none⟩ = some (.int .i64 4) ∧ w'.cell? ⟨P, 3, none⟩ = some (.string pk) ∧ Below w.heap.size w w')
    (first | exact keep9 (by assumption) hbk | exact keep9 (by assumption) ((Below.refl _ _).alloc (Nat.le_refl _) _) | exact keep9 (by assumption) (Below.refl _ _).drew | exact ⟨HHV.out.cell 0, HHV.out.cell 1, HHV.out.cell 2, HHV.out.cell 3, HHP.out.cell 0, HHP.out.cell 1, HHP.out.cell 2, HHP.out.cell 3, HB3.out⟩ | exact ⟨HHV.out.cell 0, HHV.out.cell 1, HHV.out.cell 2, HHV.out.cell 3, HHP.out.cell 0, HHP.out.cell 1, HHP.out.cell 2, HHP.out.cell 3, below_drew HB3.out⟩)
    (first | (go_at_call 11; ((with_reducible refine (HT.out _ (HG.out.below0 ?_)).mono ?_)); (exact keepB (by assumption)); rintro e wp ⟨rfl, hbk⟩) | (go_at_call 12; ((with_reducible refine (HC.out _ (HG.out.below0 ?_)).mono ?_)); (exact keepB (by assumption)); rintro e wp ⟨rfl, hbk⟩) | (go_at_call 13; ((with_reducible refine (HR.out _ (HG.out.below0 ?_)).mono ?_)); (exact keepB (by assumption)); rintro e wp ⟨rfl, hbk⟩) | (go_at_call_of 7 (Value.slice none 0 0); ((with_reducible refine (HM0.out _ (HG.out.below0 ?_) _).mono ?_)); (exact keepB (by assumption)); rintro e wp ⟨rfl, hbk⟩) | (go_at_call 7; ((with_reducible refine (HM2.out _ (HG.out.below0 ?_) _ _ ?_).mono ?_)); (exact keepB (by assumption)); (exact Blk.new _ _ _); rintro e wp ⟨rfl, hbk⟩))
  have HZ := Lib.hid (keepB (by assumption))
  go_wp2_with (fail)
  go_ret
  exact ⟨rfl, HZ.out⟩
end
end Go.Proofs.YtoghoiecnciglaaDoor.Q
