import Derived.Test.YtoghoiecnciglaaDoorZVp
import Derived.Test.YtoghoiecnciglaaDoorZQ2
import Derived.Deep.RegionWith
namespace Go.Proofs.YtoghoiecnciglaaDoor.Q
open Go.RowKit Go.Proofs.YtoghoiecnciglaaDoorW.PrintWords Go.Proofs.YtoghoiecnciglaaDoorW.PrintLast Go.Proofs.YtoghoiecnciglaaDoorW.PrintMore
def cmpV (x y : Vr) : Int := if cmpI x.a y.a ≠ 0 then cmpI x.a y.a else if cmpI x.b y.b ≠ 0 then cmpI x.b y.b else if cmpI x.c y.c ≠ 0 then cmpI x.c y.c else aheadI x.p y.p
theorem cmpInt_q (a b : Int) : cmp_Compare_int.f a b = some (cmpI a b) := by
  unfold cmp_Compare_int.f cmp_isNaN_int.f cmpI
  simp only [bne_self_eq_false, Option.bind_some, if_neg (show ¬ (false = true) by simp)]
  split
  · rfl
  · split <;> rfl
theorem or_step (l : List Int) (i k : Nat) (hi : i < l.length) (hl : l.length ≤ 100) : cmp_Or_int.l0 (k + 1) 0 l l.length i = if l[i] = 0 then cmp_Or_int.l0 k 0 l l.length ((i + 1 : Nat) : Int) else some l[i] := by
  have hw : wrap64 ((i : Int) + 1) = ((i + 1 : Nat) : Int) := wrap_in (by omega) (by omega)
  have hr : rd l (i : Int) = l[i] := by simp [rd, List.getD, List.getElem?_eq_getElem hi]
  rw [cmp_Or_int.l0.eq_2, if_pos (by omega), if_pos (by omega), if_pos (by omega), hr, hw]
theorem or_end (l : List Int) (k : Nat) : cmp_Or_int.l0 (k + 1) 0 l l.length l.length = some 0 := by
  rw [cmp_Or_int.l0.eq_2, if_neg (by omega)]
theorem or_four (a b c d : Int) (k : Nat) : cmp_Or_int.f (k + 5) [a, b, c, d] = some (if a ≠ 0 then a else if b ≠ 0 then b else if c ≠ 0 then c else d) := by
  unfold cmp_Or_int.f
  have s0 := or_step [a, b, c, d] 0 (k + 4) (by simp) (by simp)
  have s1 := or_step [a, b, c, d] 1 (k + 3) (by simp) (by simp)
  have s2 := or_step [a, b, c, d] 2 (k + 2) (by simp) (by simp)
  have s3 := or_step [a, b, c, d] 3 (k + 1) (by simp) (by simp)
  have s4 := or_end [a, b, c, d] k
  simp only [List.getElem_cons_zero, List.getElem_cons_succ] at s0 s1 s2 s3
  refine Eq.trans s0 ?_
  by_cases ha : a = 0
  · rw [if_pos ha, if_neg (by simp [ha])]
    refine Eq.trans s1 ?_
    by_cases hb : b = 0
    · rw [if_pos hb, if_neg (by simp [hb])]
      refine Eq.trans s2 ?_
      by_cases hc : c = 0
      · rw [if_pos hc, if_neg (by simp [hc])]
        refine Eq.trans s3 ?_
        by_cases hd : d = 0
        · rw [if_pos hd, hd]
          exact s4
        · rw [if_neg hd]
      · rw [if_neg hc, if_pos hc]
    · rw [if_neg hb, if_pos hb]
  · rw [if_neg ha, if_pos ha]
theorem cmp_f (x y : Vr) (hx : x.p.length ≤ 900000) (hy : y.p.length ≤ 900000) (k : Nat) : ver_Cmp.f (k + 5) x.a x.b x.c (bs x.p) y.a y.b y.c (bs y.p) = some (cmpV x y) := by
  unfold ver_Cmp.f
  have ha : ver_ahead.f (bs x.p) (bs y.p) = some (aheadI x.p y.p) := by
    unfold ver_ahead.f
    rw [size_bs, size_bs, if_pos ⟨hx, hy⟩, data_bs, data_bs]
  rw [cmpInt_q, cmpInt_q, cmpInt_q, ha]
  simp only [Option.bind_some]
  rw [or_four]
  rfl
theorem cmp_calls (x y : Vr) (hx : x.p.length ≤ 900000) (hy : y.p.length ≤ 900000) (w : World) (hG : GL w) :
    Calls Tryd.prog 12 #[.agg x.arr, .agg y.arr] w fun e w' => e = .returned (.int .i64 (cmpV x y)) ∧ Below w.heap.size w w' :=
  ver_Cmp.calls 5 _ _ _ _ _ _ _ _ _ w hG (cmp_f x y hx hy 0)
def maxGo : List Vr → Vr → Vr
  | [], m => m
  | x :: l, m => maxGo l (if 0 < cmpV x m then x else m)
def zeroVr : Vr := ⟨0, 0, 0, []⟩
def maxV : List Vr → Vr
  | [] => zeroVr
  | x :: l => maxGo l x
theorem Blk.new2' (w : World) (o : Obj) (t : TypeId) (cs : Array Value) : Blk ((w.alloc o).alloc (.cells cs t)) (w.heap.size + 1) t cs := by
  have h := Blk.new (w.alloc o) t cs
  have e : (w.alloc o).heap.size = w.heap.size + 1 := by simp
  rwa [e] at h
def VrsAt (w : World) (A : Option Addr) (l : List Vr) : Prop :=
  ∀ j, (h : j < l.length) → ∃ ad, A = some ad ∧ w.cell? (ad.add (j * 4)) = some (.int .i64 l[j].a) ∧ w.cell? ⟨(ad.add (j * 4)).block, (ad.add (j * 4)).off + 1, none⟩ = some (.int .i64 l[j].b)
    ∧ w.cell? ⟨(ad.add (j * 4)).block, (ad.add (j * 4)).off + 2, none⟩ = some (.int .i64 l[j].c) ∧ w.cell? ⟨(ad.add (j * 4)).block, (ad.add (j * 4)).off + 3, none⟩ = some (.string (bs l[j].p))
theorem maxGo_at (l : List Vr) (j : Nat) (hj : j < l.length) (m : Vr) : maxGo (l.drop j) m = maxGo (l.drop (j + 1)) (if 0 < cmpV l[j] m then l[j] else m) := by
  rw [List.drop_eq_getElem_cons hj]
  rfl
theorem results_c {P : Program} {fn : Func} {p : Tmp} {ty : TypeId} (h : fn.results = #[.cell p ty]) (tmps : Array Value) (w : World) (g : Nat) (t : TypeId) (cs : Array Value) (fr : Nat × Nat) (d : TypeDesc)
    (hp : tmps.getD p undef = .pointer (some ⟨g, 0, none⟩)) (hg : w.heap[g]? = some (.cells cs t fr))
    (hu : P.underlying ty = some d) (hd : (match d with | .struct _ | .array _ _ => true | _ => false) = true) (hi : (P.info? ty).map (·.size) = some cs.size) :
    (results fn tmps).run P w = .ok (.agg cs) w := by
  have hp' : tmps[p]?.getD undef = .pointer (some ⟨g, 0, none⟩) := by simpa using hp
  simp [results, h, hp', asAddr, run_loadVar_row w g t ty cs fr d hg hu hd hi]
theorem max_facts {w wr wp : World} {B : Nat} {m0 m1 m2 m3 : Value} {cs : Array Value} {a0 : Addr} {x0 x1 x2 x3 : Value} (hbp : Below wr.drew.heap.size wr.drew wp) (hv : Blk wr (B + 1) 26 #[m0, m1, m2, m3]) (hr : Blk wr B 26 cs) (hb : Below w.heap.size w wr)
    (k0 : wr.cell? a0 = some x0) (k1 : wr.cell? ⟨a0.block, a0.off + 1, none⟩ = some x1) (k2 : wr.cell? ⟨a0.block, a0.off + 2, none⟩ = some x2) (k3 : wr.cell? ⟨a0.block, a0.off + 3, none⟩ = some x3) :
    wp.cell? a0 = some x0 ∧ wp.cell? ⟨a0.block, a0.off + 1, none⟩ = some x1 ∧ wp.cell? ⟨a0.block, a0.off + 2, none⟩ = some x2 ∧ wp.cell? ⟨a0.block, a0.off + 3, none⟩ = some x3 ∧
    wp.cell? ⟨B + 1, 0, none⟩ = some m0 ∧ wp.cell? ⟨B + 1, 1, none⟩ = some m1 ∧ wp.cell? ⟨B + 1, 2, none⟩ = some m2 ∧ wp.cell? ⟨B + 1, 3, none⟩ = some m3 ∧
    wp.frozen? ⟨B + 1, 0, none⟩ = false ∧ wp.frozen? ⟨B + 1, 1, none⟩ = false ∧ wp.frozen? ⟨B + 1, 2, none⟩ = false ∧ wp.frozen? ⟨B + 1, 3, none⟩ = false ∧
    Hid (Blk wp (B + 1) 26 #[m0, m1, m2, m3]) ∧ Hid (Blk wp B 26 cs) ∧ Hid (Below w.heap.size w wp) := by
  have hv' := hv.drew.below hbp
  have hl := World.block_lt_of_cell? wr _ k0
  have hb2 : Below w.heap.size w wp := (below_drew hb).trans (hbp.mono (show w.heap.size ≤ wr.drew.heap.size from hb.size))
  refine ⟨(hbp.cell hl).trans k0, (hbp.cell (p := ⟨a0.block, a0.off + 1, none⟩) hl).trans k1, (hbp.cell (p := ⟨a0.block, a0.off + 2, none⟩) hl).trans k2, (hbp.cell (p := ⟨a0.block, a0.off + 3, none⟩) hl).trans k3,
    hv'.cell 0, hv'.cell 1, hv'.cell 2, hv'.cell 3, hv'.unfrozen 0, hv'.unfrozen 1, hv'.unfrozen 2, hv'.unfrozen 3, hv', hr.drew.below hbp, hb2⟩
section
variable (w : World)
set_option maxHeartbeats 4000000 in
set_option maxRecDepth 100000 in
theorem maxf_calls (A : Option Addr) (c : Nat) (x0 : Vr) (l : List Vr) (hl : VrsAt w A (x0 :: l)) (hn : l.length ≤ 100000) (hz : ∀ x ∈ x0 :: l, x.p.length ≤ 900000) (hG : GL w) :
    Calls Tryd.prog 14 #[.slice A (l.length + 1) c, .func (.func 12) #[] #[]] w
      fun e w' => e = .returned (.agg (maxGo l x0).arr) ∧ Below w.heap.size w w' := by
  have HL := Lib.hid hl
  have HZ := Lib.hid hz
  have HG := Lib.hid hG
  obtain ⟨ad, rfl, c0, c1, c2, c3⟩ := hl 0 (by simp)
  simp only [List.getElem_cons_zero, Nat.zero_mul] at c0 c1 c2 c3
  have e0 : ad.add 0 = ad := rfl
  rw [e0] at c0 c1 c2 c3
  have hlt : ad.block < w.heap.size := World.block_lt_of_cell? w _ c0
  have b1 : Below w.heap.size w ((w.alloc (.cells #[.int .i64 0, .int .i64 0, .int .i64 0, .string ⟨#[]⟩] 26))) := (Below.refl _ w).alloc (Nat.le_refl _) _
  have d0 := b1.cell (p := ad) hlt
  have d1 := b1.cell (p := ⟨ad.block, ad.off + 1, none⟩) hlt
  have d2 := b1.cell (p := ⟨ad.block, ad.off + 2, none⟩) hlt
  have d3 := b1.cell (p := ⟨ad.block, ad.off + 3, none⟩) hlt
  rw [c0] at d0
  rw [c1] at d1
  rw [c2] at d2
  rw [c3] at d3
  clear hl hz hG e0 c0 c1 c2 c3 b1
  go_enter Tryd.func14, Tryd.ntmps14
  go_wp2_with (fail)
  go_loopg [6] (l.length) (fun q' i wr => ∃ (j : Nat) (m : Vr), q' = l.length - j ∧ j ≤ l.length ∧ i = .int .i64 ((j + 1 : Nat) : Int) ∧ maxGo l x0 = maxGo (l.drop j) m ∧ m.p.length ≤ 900000
    ∧ Blk wr (w.heap.size + 1) 26 #[.int .i64 m.a, .int .i64 m.b, .int .i64 m.c, .string (bs m.p)] ∧ Blk wr w.heap.size 26 #[.int .i64 0, .int .i64 0, .int .i64 0, .string ⟨#[]⟩] ∧ Below w.heap.size w wr)
  case atStart => exact ⟨0, x0, by omega, Nat.zero_le _, rfl, rfl, HZ.out x0 List.mem_cons_self, Blk.new2' w _ _ _, (Blk.new w _ _).alloc _, Below.alloc2' w _ _⟩
  case round =>
    obtain ⟨j, m, rfl, hj, rfl, hm, hmz, hv, hr, hb⟩ := hrel
    clear d0 d1 d2 d3
    by_cases hlt2 : j < l.length
    · obtain ⟨ad', hA, c0, c1, c2, c3⟩ := HL.out (j + 1) (by simpa using hlt2)
      obtain rfl : ad = ad' := Option.some.inj hA
      have ex : (x0 :: l)[j + 1]'(by simpa using hlt2) = l[j] := rfl
      rw [ex] at c0 c1 c2 c3
      have k0 := pw_cell_below hb c0
      have k1 := pw_cell_below hb c1
      have k2 := pw_cell_below hb c2
      have k3 := pw_cell_below hb c3
      have HM := Lib.hid (hm.trans (maxGo_at l j hlt2 m))
      have HXZ := Lib.hid (HZ.out l[j] (List.mem_cons_of_mem _ (List.getElem_mem hlt2)))
      clear c0 c1 c2 c3 hm ex hA
      generalize l[j] = x at *
      have m0 := hv.cell 0
      have m1 := hv.cell 1
      have m2 := hv.cell 2
      have m3 := hv.cell 3
      have HV := Lib.hid hv
      have HR := Lib.hid hr
      have HB := Lib.hid hb
      have HMZ := Lib.hid hmz
      have HG1 := Lib.hid (HG.out.below0 (hb))
      clear hv hr hb hmz
      by_cases hp : 0 < cmpV x m
      · have hd : decide (0 < cmpV x m) = true := decide_eq_true hp
        have HM2 := HM
        rw [if_pos hp] at HM2
        have HCC := Lib.hid (fun W (hW : GL W) => cmp_calls x m HXZ.out HMZ.out W hW)
        generalize cmpV x m = cv at *
        clear hp
        go_wp2_with (fail)
        go_region_with (go_at_call 12; refine (HCC.out _ (by exact ⟨HG1.out.maxLen, HG1.out.pow⟩)).mono ?_; rintro e wp ⟨rfl, hbp⟩; obtain ⟨y0, y1, y2, y3, g0, g1, g2, g3, f0, f1, f2, f3, HV2, HR2, HB2⟩ := max_facts hbp HV.out HR.out HB.out k0 k1 k2 k3; clear k0 k1 k2 k3 hbp)
        all_goals
          clear m0 m1 m2 m3
          go_wp2_with (fail)
          go_roundg (l.length - (j + 1))
          case measure => omega
          case rel => exact ⟨j + 1, x, rfl, by omega, by simp, HM2.out, HXZ.out, put4_blk HV2.out _ _ _ _, ((((HR2.out.far (p := ⟨w.heap.size + 1, 0, none⟩) (by simp) _).far (p := ⟨w.heap.size + 1, 1, none⟩) (by simp) _).far (p := ⟨w.heap.size + 1, 2, none⟩) (by simp) _).far (p := ⟨w.heap.size + 1, 3, none⟩) (by simp) _), put4_below HB2.out (Nat.le_succ _) _ _ _ _⟩
      · have hd : decide (0 < cmpV x m) = false := decide_eq_false hp
        have HM2 := HM
        rw [if_neg hp] at HM2
        have HCC := Lib.hid (fun W (hW : GL W) => cmp_calls x m HXZ.out HMZ.out W hW)
        generalize cmpV x m = cv at *
        clear hp
        go_wp2_with (fail)
        go_region_with (go_at_call 12; refine (HCC.out _ (by exact ⟨HG1.out.maxLen, HG1.out.pow⟩)).mono ?_; rintro e wp ⟨rfl, hbp⟩; obtain ⟨y0, y1, y2, y3, g0, g1, g2, g3, f0, f1, f2, f3, HV2, HR2, HB2⟩ := max_facts hbp HV.out HR.out HB.out k0 k1 k2 k3; clear k0 k1 k2 k3 hbp)
        all_goals
          clear m0 m1 m2 m3
          go_wp2_with (fail)
          go_roundg (l.length - (j + 1))
          case measure => omega
          case rel => exact ⟨j + 1, m, rfl, by omega, by simp, HM2.out, HMZ.out, HV2.out, HR2.out, HB2.out⟩
    · have hm2 := hm
      rw [List.drop_eq_nil_of_le (by omega)] at hm2
      have HM := Lib.hid (show maxGo l x0 = m from hm2)
      have m0 := hv.cell 0
      have m1 := hv.cell 1
      have m2 := hv.cell 2
      have m3 := hv.cell 3
      have r0 := hr.cell 0
      have r1 := hr.cell 1
      have r2 := hr.cell 2
      have r3 := hr.cell 3
      have s0 := hr.unfrozen 0
      have s1 := hr.unfrozen 1
      have s2 := hr.unfrozen 2
      have s3 := hr.unfrozen 3
      have HR := Lib.hid hr
      have HB := Lib.hid hb
      clear hm hm2 hr hv hb
      go_wp2_with (fail)
      refine bodyPost_ret (results_c rfl _ _ w.heap.size 26 #[.int .i64 m.a, .int .i64 m.b, .int .i64 m.c, .string (bs m.p)] (0, 0) _ rfl (put4_blk HR.out _ _ _ _) Tryd.underlying26 rfl (by kernel_rfl)) rfl ?_
      exact ⟨by rw [HM.out]; rfl, put4_below HB.out (Nat.le_refl _) _ _ _ _⟩
theorem vrs_below {w w' : World} {A : Option Addr} {l : List Vr} (h : VrsAt w A l) (hb : Below w.heap.size w w') : VrsAt w' A l := fun j hj => by
  obtain ⟨ad, rfl, h0, h1, h2, h3⟩ := h j hj
  exact ⟨ad, rfl, pw_cell_below hb h0, pw_cell_below hb h1, pw_cell_below hb h2, pw_cell_below hb h3⟩
set_option maxHeartbeats 1000000 in
set_option maxRecDepth 100000 in
theorem max_calls (A : Option Addr) (c : Nat) (l : List Vr) (hl : VrsAt w A l) (hn : l.length ≤ 100000) (hz : ∀ x ∈ l, x.p.length ≤ 900000) (hG : GL w) :
    Calls Tryd.prog 7 #[.slice A l.length c] w fun e w' => e = .returned (.agg (maxV l).arr) ∧ Below w.heap.size w w' := by
  have hbz : Below w.heap.size w (w.alloc (.cells #[.int .i64 0, .int .i64 0, .int .i64 0, .string ⟨#[]⟩] 26)) := (Below.refl _ w).alloc (Nat.le_refl _) _
  have HR := Lib.hid (Blk.new w 26 #[.int .i64 0, .int .i64 0, .int .i64 0, .string ⟨#[]⟩])
  have HB := Lib.hid hbz
  cases l with
  | nil =>
    clear hl hn hz hG hbz
    go_enter Tryd.func7, Tryd.ntmps7
    go_wp2_with (fail)
    refine bodyPost_ret (results_c rfl _ _ w.heap.size 26 #[.int .i64 0, .int .i64 0, .int .i64 0, .string ⟨#[]⟩] (0, 0) _ rfl (HR.out) Tryd.underlying26 rfl (by kernel_rfl)) rfl ?_
    exact ⟨rfl, HB.out⟩
  | cons x0 l =>
    have HM := Lib.hid (maxf_calls (w.alloc (.cells #[.int .i64 0, .int .i64 0, .int .i64 0, .string ⟨#[]⟩] 26)) A c x0 l (vrs_below hl hbz) (by simp only [List.length_cons] at hn; omega) hz (hG.below0 hbz))
    have hx : decide (((l.length : Int) + 1) = 0) = false := decide_eq_false (by omega)
    have hx2 : (((l.length : Int) + 1) == 0) = false := by simp only [beq_eq_false_iff_ne, ne_eq]; omega
    have hmx : maxV (x0 :: l) = maxGo l x0 := rfl
    rw [hmx]
    clear hl hn hz hG hbz hmx
    generalize maxGo l x0 = m at *
    go_enter Tryd.func7, Tryd.ntmps7
    go_wp2_with (fail)
    refine HM.out.mono ?_
    rintro e w1 ⟨rfl, hb1⟩
    have hr := HR.out.below hb1
    have r0 := hr.cell 0
    have r1 := hr.cell 1
    have r2 := hr.cell 2
    have r3 := hr.cell 3
    have s0 := hr.unfrozen 0
    have s1 := hr.unfrozen 1
    have s2 := hr.unfrozen 2
    have s3 := hr.unfrozen 3
    have HR2 := Lib.hid hr
    have HB2 := Lib.hid (below_then HB.out HB.out.size hb1)
    clear hr hb1
    unfold Vr.arr
    go_wp2_with (fail)
    refine bodyPost_ret (results_c rfl _ _ w.heap.size 26 #[.int .i64 m.a, .int .i64 m.b, .int .i64 m.c, .string (bs m.p)] (0, 0) _ rfl (put4_blk HR2.out _ _ _ _) Tryd.underlying26 rfl (by kernel_rfl)) rfl ?_
    exact ⟨rfl, put4_below HB2.out (Nat.le_refl _) _ _ _ _⟩
end
end Go.Proofs.YtoghoiecnciglaaDoor.Q
