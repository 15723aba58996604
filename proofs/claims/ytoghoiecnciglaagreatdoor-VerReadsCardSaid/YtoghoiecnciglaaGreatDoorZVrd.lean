import Derived.Test.YtoghoiecnciglaaGreatDoorZVrw
import Derived.Test.YtoghoiecnciglaaGreatDoorZVk
import Derived.Test.YtoghoiecnciglaaGreatDoorZVyz
import Derived.Lib.ConvBytes
import Derived.Laws.IdiomStrings
import Derived.StillTailTactics
import Derived.Outline
namespace Go.Proofs.YtoghoiecnciglaaGreatDoor.Q
open Go.RowKit Go.Proofs.YtoghoiecnciglaaGreatDoorW.PrintWords Go.Proofs.YtoghoiecnciglaaGreatDoorW.PrintLast Go.Proofs.YtoghoiecnciglaaGreatDoorW.PrintMore
theorem made_calls (n m : Int) : ∃ v : Vr, Made v ∧ ∀ w, Calls Tryz.prog 6 #[.int .i64 n, .int .i64 m] w fun e w' => e = .returned (.agg #[.int .i64 v.a, .int .i64 v.b, .int .i64 v.c, .string (bs v.p)]) ∧ Below w.heap.size w w' := by
  obtain ⟨v, e, h⟩ := make_ev n m
  obtain ⟨k, hk⟩ := ev_at e
  exact ⟨v, h, fun w => transhumancelaw2_Make.calls k n m _ _ _ _ w hk⟩
theorem rtext_calls (v : Vr) (h : Made v) (w : World) : Calls Tryz.prog 5 #[.agg #[.int .i64 v.a, .int .i64 v.b, .int .i64 v.c, .string (bs v.p)]] w fun e w' => e = .returned (.string (bs (textV v))) ∧ Below w.heap.size w w' := by
  obtain ⟨k, hk⟩ := ev_at (rtext_ev v h)
  exact transhumanceref2_Text.calls k _ _ _ _ _ w hk
structure ByteRow (W : World) (g : Nat) (l : List UInt8) : Prop where
  cell : ∀ j, (h : j < l.length) → W.cell? ⟨g, j, none⟩ = some (.int .u8 (l[j].toNat : Int))
  free : ∀ j, j < l.length → W.frozen? ⟨g, j, none⟩ = false
theorem byterow_new (w : World) (e : TypeId) (s : ByteArray) : ByteRow (Lib.bytesWorld w e s) w.heap.size s.data.toList := by
  have hz : s.data.toList.length = s.size := rfl
  refine ⟨fun j h => ?_, fun j h => ?_⟩
  · rw [Lib.bytesWorld_cell w e s j (by omega), List.getD_eq_getElem?_getD, List.getElem?_eq_getElem h]
    rfl
  · have hc : j < (Lib.bytesCells w e s).size := by
      unfold Lib.bytesCells
      rw [Array.size_append, Array.size_map]
      have : s.data.size = s.size := rfl
      omega
    simp only [World.frozen?, Lib.bytesWorld_at_new]
    simp only [Bool.and_eq_false_imp, decide_eq_true_eq, decide_eq_false_iff_not]
    omega
theorem byterow_put {W : World} {g : Nat} {l : List UInt8} (h : ByteRow W g l) (k : Nat) (hk : k < l.length) (b : UInt8) (x : Int) (hx : x = (b.toNat : Int)) : ByteRow (W.setCell ⟨g, k, none⟩ (.int .u8 x)) g (l.set k b) := by
  subst hx
  refine ⟨fun j hj => ?_, fun j hj => ?_⟩
  · have hj2 : j < l.length := by rw [List.length_set] at hj; exact hj
    by_cases e : j = k
    · subst e
      rw [List.getElem_set_self]
      exact World.cell?_setCell_same _ _ _ (h.cell j hj2)
    · rw [List.getElem_set_ne (Ne.symm e)]
      exact (World.cell?_setCell_other _ ⟨g, k, none⟩ ⟨g, j, none⟩ _ (by intro h2; injection h2 with _ h3; exact e h3.symm)).trans (h.cell j hj2)
  · rw [List.length_set] at hj
    rw [World.frozen?_setCell]
    exact h.free j hj
theorem below_bytes (w : World) (e : TypeId) (s : ByteArray) : Below w.heap.size w (Lib.bytesWorld w e s) :=
  ⟨rfl, rfl, rfl, by rw [Lib.bytesWorld_size]; omega, fun k hk => Lib.bytesWorld_at_old w e s k hk⟩
theorem wrap_u8 (x : Int) : ∃ b : UInt8, IntKind.u8.wrap x = (b.toNat : Int) := by
  have e : IntKind.u8.wrap x = x % 256 := rfl
  refine ⟨UInt8.ofNat (x % 256).toNat, ?_⟩
  rw [e, UInt8.toNat_ofNat']
  omega
theorem ByteRow.drewN {W : World} {g : Nat} {l : List UInt8} (h : ByteRow W g l) (n : Nat) : ByteRow (W.drewN n) g l := ⟨h.cell, h.free⟩
def RowS (W : World) (G n : Nat) : Prop := ∀ c, c < n → ∃ x : ByteArray, W.cell? ⟨G, c, none⟩ = some (.string x) ∧ x.size ≤ 200
theorem rowS_new (w : World) (l : List ByteArray) (hl : ∀ x ∈ l, x.size ≤ 200) (t : TypeId) : RowS (w.alloc (.cells (l.map Value.string).toArray t)) w.heap.size l.length := by
  intro c hc
  refine ⟨l[c], ?_, hl _ (List.getElem_mem hc)⟩
  have hb := Blk.new w t (l.map Value.string).toArray
  rw [hb.cell c]
  simp [hc]
theorem RowS.below {W W' : World} {G n : Nat} (h : RowS W G n) (hb : Below W.heap.size W W') : RowS W' G n := fun c hc => by
  obtain ⟨x, h1, h2⟩ := h c hc
  exact ⟨x, pw_cell_below hb h1, h2⟩
theorem eqVer (d : Nat) (w : World) (x0 y0 : Int) (x1 y1 : Int) (x2 y2 : Int) (x3 y3 : ByteArray) :
    (Op.equalIn (d + 2) 25 (.agg #[.int .i64 x0, .int .i64 x1, .int .i64 x2, .string x3]) (.agg #[.int .i64 y0, .int .i64 y1, .int .i64 y2, .string y3])).run Tryz.prog w = .ok (x0 == y0 && (x1 == y1 && (x2 == y2 && (x3.toList == y3.toList)))) w := by
  refine eqA_of Tryz.underlying25 (by kernel_rfl) ?_
  refine eqf_cons (by rfl) (by go_simp; rfl) (by go_simp; rfl) (by go_simp) ?_
  refine eqf_cons (by rfl) (by go_simp; rfl) (by go_simp; rfl) (by go_simp) ?_
  refine eqf_cons (by rfl) (by go_simp; rfl) (by go_simp; rfl) (by go_simp) ?_
  exact eqf_last (by rfl) (by go_simp; rfl) (by go_simp; rfl) (by go_simp)
attribute [local go_sem high] eqVer
theorem keep10 {w W W' : World} {V P G c : Nat} {a b c' d e f g h x : Value}
    (hs : W.cell? ⟨V, 0, none⟩ = some a ∧ W.cell? ⟨V, 1, none⟩ = some b ∧ W.cell? ⟨V, 2, none⟩ = some c' ∧ W.cell? ⟨V, 3, none⟩ = some d ∧ W.cell? ⟨P, 0, none⟩ = some e ∧ W.cell? ⟨P, 1, none⟩ = some f ∧ W.cell? ⟨P, 2, none⟩ = some g ∧ W.cell? ⟨P, 3, none⟩ = some h ∧ W.cell? ⟨G, c, none⟩ = some x ∧ Below w.heap.size w W ∧ RowS W G 10)
    (hb : Below W.heap.size W W') :
    W'.cell? ⟨V, 0, none⟩ = some a ∧ W'.cell? ⟨V, 1, none⟩ = some b ∧ W'.cell? ⟨V, 2, none⟩ = some c' ∧ W'.cell? ⟨V, 3, none⟩ = some d ∧ W'.cell? ⟨P, 0, none⟩ = some e ∧ W'.cell? ⟨P, 1, none⟩ = some f ∧ W'.cell? ⟨P, 2, none⟩ = some g ∧ W'.cell? ⟨P, 3, none⟩ = some h ∧ W'.cell? ⟨G, c, none⟩ = some x ∧ Below w.heap.size w W' ∧ RowS W' G 10 := by
  obtain ⟨h0, h1, h2, h3, h4, h5, h6, h7, h8, h9, h10⟩ := hs
  exact ⟨pw_cell_below hb h0, pw_cell_below hb h1, pw_cell_below hb h2, pw_cell_below hb h3, pw_cell_below hb h4, pw_cell_below hb h5, pw_cell_below hb h6, pw_cell_below hb h7, pw_cell_below hb h8, below_then h9 h9.size hb, h10.below hb⟩
theorem keep10B {w W : World} {V P G c : Nat} {a b c' d e f g h x : Value}
    (hs : W.cell? ⟨V, 0, none⟩ = some a ∧ W.cell? ⟨V, 1, none⟩ = some b ∧ W.cell? ⟨V, 2, none⟩ = some c' ∧ W.cell? ⟨V, 3, none⟩ = some d ∧ W.cell? ⟨P, 0, none⟩ = some e ∧ W.cell? ⟨P, 1, none⟩ = some f ∧ W.cell? ⟨P, 2, none⟩ = some g ∧ W.cell? ⟨P, 3, none⟩ = some h ∧ W.cell? ⟨G, c, none⟩ = some x ∧ Below w.heap.size w W ∧ RowS W G 10) : Below w.heap.size w W ∧ RowS W G 10 := hs.2.2.2.2.2.2.2.2.2
theorem both_parse (x : ByteArray) (hx : x.size ≤ 200) :
    (∃ u : Vr, (∀ w, GL w → Calls Tryz.prog 8 #[.string x] w fun e w' => e = .returned (.tuple #[.agg #[.int .i64 u.a, .int .i64 u.b, .int .i64 u.c, .string (bs u.p)], .bool true]) ∧ Below w.heap.size w w') ∧
      (∀ w, Calls Tryz.prog 9 #[.string x] w fun e w' => e = .returned (.tuple #[.agg #[.int .i64 u.a, .int .i64 u.b, .int .i64 u.c, .string (bs u.p)], .bool true]) ∧ Below w.heap.size w w') ∧
      (∀ w, GL w → Calls Tryz.prog 10 #[.agg #[.int .i64 u.a, .int .i64 u.b, .int .i64 u.c, .string (bs u.p)]] w fun e w' => e = .returned (.string x) ∧ Below w.heap.size w w')) ∨
    ((∀ w, GL w → Calls Tryz.prog 8 #[.string x] w fun e w' => e = .returned (.tuple #[.agg #[.int .i64 0, .int .i64 0, .int .i64 0, .string ⟨#[]⟩], .bool false]) ∧ Below w.heap.size w w') ∧
      (∀ w, Calls Tryz.prog 9 #[.string x] w fun e w' => e = .returned (.tuple #[.agg #[.int .i64 0, .int .i64 0, .int .i64 0, .string ⟨#[]⟩], .bool false]) ∧ Below w.heap.size w w')) := by
  have e1 : ver_Parse.f x = some (verOut (parseV x.data.toList)) := by unfold ver_Parse.f; rw [if_pos (by omega)]
  have e2 : transhumanceref2_Parse.f x = some (verOut (parseV x.data.toList)) := by unfold transhumanceref2_Parse.f; rw [if_pos (by omega)]
  cases hp : parseV x.data.toList with
  | none =>
    rw [hp] at e1 e2
    exact .inr ⟨fun w hG => ver_Parse.calls _ _ _ _ _ _ w hG e1, fun w => transhumanceref2_Parse.calls _ _ _ _ _ _ w e2⟩
  | some u =>
    rw [hp] at e1 e2
    obtain ⟨h1, h2⟩ := (parse_iff _ _).1 hp
    refine .inl ⟨u, fun w hG => ver_Parse.calls _ _ _ _ _ _ w hG e1, fun w => transhumanceref2_Parse.calls _ _ _ _ _ _ w e2, fun w hG => ?_⟩
    have h3 : x = bs (textV u) := by rw [← h2]; exact (ext_bs rfl)
    rw [h3]
    exact ver_Text.calls _ _ _ _ _ w hG (text_f u h1)
section
variable (w : World)
set_option maxHeartbeats 1600000 in
set_option maxRecDepth 100000 in
theorem reads_calls (n m at_ by_ cut : Int) (more raw : ByteArray) (hG : GL w) :
    Calls Tryz.prog 3 #[.int .i64 n, .int .i64 m, .int .i64 at_, .int .u8 by_, .int .i64 cut, .string more, .string raw] w fun e w' => e = .returned (.bool true) ∧ Below w.heap.size w w' := by
  have HG := Lib.hid hG
  clear hG
  obtain ⟨v, hm, hmk⟩ := made_calls n m
  have HMK := Lib.hid hmk
  have HM := Lib.hid hm
  clear hmk hm
  have HKN := Lib.hid (fun W h => known_calls W h)
  go_enter Tryz.func3, Tryz.ntmps3
  go_wp2_with (fail)
  refine (HKN.out _ HG.out).mono ?_
  rintro e w1 ⟨rfl, hb1⟩
  have HB1 := Lib.hid hb1
  clear hb1
  by_cases h1 : 30 < more.size
  · have d1 : decide (30 < more.size) = true := decide_eq_true h1
    have d2 : decide ((30 : Int) < (more.size : Int)) = true := decide_eq_true (by omega)
    go_wp2_with (fail)
    go_ret
    exact ⟨rfl, HB1.out⟩
  have d1 : decide (30 < more.size) = false := decide_eq_false h1
  have d2 : decide ((30 : Int) < (more.size : Int)) = false := decide_eq_false (by omega)
  by_cases h2 : 60 < raw.size
  · have d3 : decide (60 < raw.size) = true := decide_eq_true h2
    have d4 : decide ((60 : Int) < (raw.size : Int)) = true := decide_eq_true (by omega)
    go_wp2_with (fail)
    go_ret
    exact ⟨rfl, HB1.out⟩
  have d3 : decide (60 < raw.size) = false := decide_eq_false h2
  have d4 : decide ((60 : Int) < (raw.size : Int)) = false := decide_eq_false (by omega)
  go_wp2_with (fail)
  refine (HMK.out _).mono ?_
  rintro e w2 ⟨rfl, hb2⟩
  have HB2 := Lib.hid (below_then HB1.out HB1.out.size hb2)
  clear hb2
  have HT := Lib.hid (fun W => rtext_calls v HM.out W)
  go_wp2_with (fail)
  refine (HT.out _).mono ?_
  rintro e w3 ⟨rfl, hb3⟩
  have HB3 := Lib.hid (below_then HB2.out HB2.out.size hb3)
  clear hb3 HB1 HB2 HMK HT HKN
  have hl := text_len v HM.out
  have hl2 : 0 < (textV v).length := by unfold textV; simp
  have hsz := size_bs (textV v)
  have hs1 : (bs (textV v)).size ≤ 100 := by omega
  have hs2 : 0 < (bs (textV v)).size := by omega
  have HTD := Lib.hid (data_bs (textV v))
  clear hsz hl hl2
  generalize bs (textV v) = s at *
  have kc := Lib.run_convert_string_bytes (P := Tryz.prog) w3 9 27 5 s Tryz.underlying9 Tryz.underlying27 Tryz.underlying5
  go_upto_region 7 with (fail)
  clear kc
  have HR := Lib.hid (byterow_new w3 5 s)
  have HB4 := Lib.hid (below_then HB3.out HB3.out.size (below_bytes w3 5 s))
  have HGE := Lib.hid HB3.out.size
  generalize Lib.bytesWorld w3 5 s = w4 at *
  generalize grownCap w3 s.size 0 5 = cap at *
  generalize w3.heap.size = g at *
  obtain ⟨k0, k1⟩ := win_bd at_ (s.size : Int) (by omega)
  have HW1 := Lib.hid (fun W => transhumancelaw2_within.calls at_ (s.size : Int) _ W (within_f at_ (s.size : Int) (by omega) (by omega)))
  generalize win at_ (s.size : Int) = kk at *
  obtain ⟨k, rfl⟩ : ∃ k : Nat, kk = k := ⟨kk.toNat, by omega⟩
  have hk : k < s.size := by omega
  go_wp2_with (fail)
  refine (HW1.out _).mono ?_
  rintro e w5 ⟨rfl, n5, rfl⟩
  have HR5 := Lib.hid (HR.out.drewN n5)
  have HB5 := Lib.hid (below_dr HB4.out n5)
  generalize w4.drewN n5 = w5 at *
  have hkl : k < s.data.toList.length := hk
  have c1 := HR5.out.cell k hkl
  have c2 := HR5.out.free k hkl
  obtain ⟨b', hb'⟩ := wrap_u8 ((s.data.toList[k].toNat : Int) + by_)
  have HR6 := Lib.hid (byterow_put HR5.out k hkl b' _ rfl)
  have HB6 := Lib.hid (put1_below HB5.out (p := ⟨g, k, none⟩) HGE.out (.int .u8 (b'.toNat : Int)))
  clear HB4 HR HW1 HB3
  generalize s.data.toList[k] = x0 at *
  obtain ⟨j0, j1⟩ := win_bd cut ((s.size : Int) + 1) (by omega)
  have HW2 := Lib.hid (fun W => transhumancelaw2_within.calls cut ((s.size : Int) + 1) _ W (within_f cut ((s.size : Int) + 1) (by omega) (by omega)))
  generalize win cut ((s.size : Int) + 1) = jj at *
  obtain ⟨j, rfl⟩ : ∃ j : Nat, jj = j := ⟨jj.toNat, by omega⟩
  have hj : j ≤ s.size := by omega
  have i9 : IntKind.i64.wrap ((s.size : Int) + 1) = (s.size : Int) + 1 := IntWalk.i64_in _ ⟨by omega, by omega⟩
  go_wp2_with (fail)
  refine (HW2.out _).mono ?_
  rintro e w7 ⟨rfl, n7, rfl⟩
  have HR7 := Lib.hid (HR6.out.drewN n7)
  have HB7 := Lib.hid (below_dr HB6.out n7)
  generalize (w5.setCell ⟨g, k, none⟩ (.int .u8 (b'.toNat : Int))).drewN n7 = w7 at *
  go_upto_region 9 with (fail)
  have kc : (convert 27 9 (.slice (some ⟨g, 0, none⟩) s.size cap)).run Tryz.prog w7.drew = .ok (.string (bs (s.data.toList.set k b'))) w7.drew := by
    have h := run_convert_bytes_back (P := Tryz.prog) w7.drew 27 9 5 ⟨g, 0, none⟩ cap (s.data.toList.set k b') Tryz.underlying27 Tryz.underlying5 Tryz.underlying9 (fun j hj => by
      have := HR7.out.cell j hj
      rw [show (⟨g, 0, none⟩ : Addr).add j = ⟨g, j, none⟩ from by simp [Addr.add]; exact fun h => h.symm]
      exact this)
    rw [List.length_set] at h
    exact h
  have z1 : (bs (s.data.toList.set k b')).size ≤ 200 := by rw [size_bs, List.length_set]; exact Nat.le_trans hs1 (by decide)
  generalize bs (s.data.toList.set k b') = s1 at *
  have b1 : (0 : Int) ≤ (j : Int) ∧ (j : Int) ≤ (s.size : Int) := by omega
  have e1 : (9223372036854775807 < j + more.size) = False := eq_false (by omega)
  have e2 : (9223372036854775807 < j + more.size + (s.size - j)) = False := eq_false (by omega)
  have e3 : (9223372036854775807 < 7 + raw.size) = False := eq_false (by omega)
  have e4 : (9223372036854775807 < 6 + more.size) = False := eq_false (by omega)
  go_still_tail 19, (by kernel_rfl)
  change wpList _ _ _ _ _ w7.drew
  have HB8 := Lib.hid (below_drew HB7.out)
  have z2 : (s.extract 0 j).size ≤ 200 := by rw [ByteArray.size_extract]; omega
  have z3 : (s.extract 0 j ++ more ++ s.extract j s.size).size ≤ 200 := by rw [ByteArray.size_append, ByteArray.size_append, ByteArray.size_extract, ByteArray.size_extract]; omega
  have z4 : raw.size ≤ 200 := by omega
  have z5 : ((⟨#[118, 49, 46, 50, 46, 51, 45]⟩ : ByteArray) ++ raw).size ≤ 200 := by rw [ByteArray.size_append]; have : (⟨#[118, 49, 46, 50, 46, 51, 45]⟩ : ByteArray).size = 7 := rfl; omega
  have z6 : ((⟨#[118, 49, 46, 50, 46, 51]⟩ : ByteArray) ++ more).size ≤ 200 := by rw [ByteArray.size_append]; have : (⟨#[118, 49, 46, 50, 46, 51]⟩ : ByteArray).size = 6 := rfl; omega
  clear e1 e2 e3 e4 kc b1 HB7 HR7 HW2
  generalize s.extract 0 j ++ more ++ s.extract j s.size = x3 at *
  generalize s.extract 0 j = x2 at *
  generalize (⟨#[118, 49, 46, 50, 46, 51, 45]⟩ : ByteArray) ++ raw = x5 at *
  generalize (⟨#[118, 49, 46, 50, 46, 51]⟩ : ByteArray) ++ more = x6 at *
  generalize w7.drew = w8 at *
  go_wp2_with (fail)
  clear HR5 HR6 HB5 HB6 c1 c2 hb' i9 HTD
  have HROW : Hid (RowS (w8.alloc (.cells #[.string s1, .string x2, .string x3, .string raw, .string x5, .string x6, .string ⟨#[118, 48, 49, 46, 50, 46, 51]⟩, .string ⟨#[118, 49, 46, 50, 46, 51, 45, 48, 49]⟩, .string ⟨#[118, 49, 46, 50, 46, 51, 45, 46]⟩, .string ⟨#[118, 49, 46, 50, 46, 51, 45]⟩] 9)) w8.heap.size 10) := Lib.hid (rowS_new w8 [s1, x2, x3, raw, x5, x6, ⟨#[118, 48, 49, 46, 50, 46, 51]⟩, ⟨#[118, 49, 46, 50, 46, 51, 45, 48, 49]⟩, ⟨#[118, 49, 46, 50, 46, 51, 45, 46]⟩, ⟨#[118, 49, 46, 50, 46, 51, 45]⟩] (by
    intro x hx
    simp only [List.mem_cons, List.not_mem_nil, or_false] at hx
    rcases hx with rfl | rfl | rfl | rfl | rfl | rfl | rfl | rfl | rfl | rfl
    all_goals first | assumption | exact (by decide)) 9)
  have HB9 := Lib.hid (HB8.out.alloc HB8.out.size (.cells #[.string s1, .string x2, .string x3, .string raw, .string x5, .string x6, .string ⟨#[118, 48, 49, 46, 50, 46, 51]⟩, .string ⟨#[118, 49, 46, 50, 46, 51, 45, 48, 49]⟩, .string ⟨#[118, 49, 46, 50, 46, 51, 45, 46]⟩, .string ⟨#[118, 49, 46, 50, 46, 51, 45]⟩] 9))
  generalize w8.alloc _ = w9 at *
  generalize w8.heap.size = G at *
  clear HB8
  go_loopg [19] (10) (fun q i wr => ∃ c : Nat, q = 10 - c ∧ c ≤ 10 ∧ i = .int .i64 c ∧ RowS wr G 10 ∧ Below w.heap.size w wr)
  case atStart => exact ⟨0, rfl, by omega, rfl, HROW.out, HB9.out⟩
  case round =>
    obtain ⟨c, rfl, hc, rfl, hrow, hbr⟩ := hrel
    by_cases hlt : c < 10
    · have d0 : decide ((c : Int) < 10) = true := decide_eq_true (by omega)
      have i1 : (0 : Int) ≤ (c : Int) ∧ (c : Int) < 10 := ⟨by omega, by omega⟩
      obtain ⟨x, hxc, hxz⟩ := hrow c hlt
      have HROWr := Lib.hid hrow
      have HBr := Lib.hid hbr
      clear hrow hbr
      rcases both_parse x hxz with ⟨u, h1p, h2p, h3p⟩ | ⟨h1p, h2p⟩
      · have H1 := Lib.hid h1p
        have H2 := Lib.hid h2p
        have H3 := Lib.hid h3p
        clear h1p h2p h3p
        go_wp2_with (fail)
        refine (H1.out _ (HG.out.below0 HBr.out)).mono ?_
        rintro e wp ⟨rfl, hbp⟩
        have HROWp := Lib.hid ((HROWr.out.below hbp).below ((Below.refl _ wp).alloc (Nat.le_refl _) (.cells #[.int .i64 u.a, .int .i64 u.b, .int .i64 u.c, .string (bs u.p)] 25)))
        have hbp0 := below_then HBr.out HBr.out.size hbp
        have HBp := Lib.hid (hbp0.alloc hbp0.size (.cells #[.int .i64 u.a, .int .i64 u.b, .int .i64 u.c, .string (bs u.p)] 25))
        have HV := Lib.hid (Blk.new wp 25 #[.int .i64 u.a, .int .i64 u.b, .int .i64 u.c, .string (bs u.p)])
        have hxp := pw_cell_below ((Below.refl _ wp).alloc (Nat.le_refl _) (.cells #[.int .i64 u.a, .int .i64 u.b, .int .i64 u.c, .string (bs u.p)] 25)) (pw_cell_below hbp hxc)
        clear hbp hbp0 hxc HROWr HBr
        go_wp2_with (fail)
        refine (H2.out _).mono ?_
        rintro e wq ⟨rfl, hbq⟩
        have HROWq := Lib.hid ((HROWp.out.below hbq).below ((Below.refl _ wq).alloc (Nat.le_refl _) (.cells #[.int .i64 u.a, .int .i64 u.b, .int .i64 u.c, .string (bs u.p)] 25)))
        have hbq0 := below_then HBp.out HBp.out.size hbq
        have HBq := Lib.hid (hbq0.alloc hbq0.size (.cells #[.int .i64 u.a, .int .i64 u.b, .int .i64 u.c, .string (bs u.p)] 25))
        have HVq := Lib.hid ((HV.out.below hbq).alloc (.cells #[.int .i64 u.a, .int .i64 u.b, .int .i64 u.c, .string (bs u.p)] 25))
        have HPq := Lib.hid (Blk.new wq 25 #[.int .i64 u.a, .int .i64 u.b, .int .i64 u.c, .string (bs u.p)])
        have hxq := pw_cell_below ((Below.refl _ wq).alloc (Nat.le_refl _) (.cells #[.int .i64 u.a, .int .i64 u.b, .int .i64 u.c, .string (bs u.p)] 25)) (pw_cell_below hbq hxp)
        generalize wp.heap.size = V at *
        clear hbq hbq0 hxp HROWp HBp HV
        go_upto_region 15 with (fail)
        generalize wq.alloc (.cells #[.int .i64 u.a, .int .i64 u.b, .int .i64 u.c, .string (bs u.p)] 25) = W at *
        generalize wq.heap.size = P at *
        have a0 := HVq.out.cell 0
        have a1 := HVq.out.cell 1
        have a2 := HVq.out.cell 2
        have a3 := HVq.out.cell 3
        have b0 := HPq.out.cell 0
        have b1 := HPq.out.cell 1
        have b2 := HPq.out.cell 2
        have b3 := HPq.out.cell 3
        generalize bs u.p = up at *
        have HS0 : Hid (W.cell? ⟨V, 0, none⟩ = some (.int .i64 u.a) ∧ W.cell? ⟨V, 1, none⟩ = some (.int .i64 u.b) ∧ W.cell? ⟨V, 2, none⟩ = some (.int .i64 u.c) ∧ W.cell? ⟨V, 3, none⟩ = some (.string up) ∧ W.cell? ⟨P, 0, none⟩ = some (.int .i64 u.a) ∧ W.cell? ⟨P, 1, none⟩ = some (.int .i64 u.b) ∧ W.cell? ⟨P, 2, none⟩ = some (.int .i64 u.c) ∧ W.cell? ⟨P, 3, none⟩ = some (.string up) ∧ W.cell? ⟨G, c, none⟩ = some (.string x) ∧ Below w.heap.size w W ∧ RowS W G 10) := Lib.hid ⟨a0, a1, a2, a3, b0, b1, b2, b3, hxq, HBq.out, HROWq.out⟩
        go_region_held3 (fun w' => w'.cell? ⟨V, 0, none⟩ = some (.int .i64 u.a) ∧ w'.cell? ⟨V, 1, none⟩ = some (.int .i64 u.b) ∧ w'.cell? ⟨V, 2, none⟩ = some (.int .i64 u.c) ∧ w'.cell? ⟨V, 3, none⟩ = some (.string up) ∧ w'.cell? ⟨P, 0, none⟩ = some (.int .i64 u.a) ∧ w'.cell? ⟨P, 1, none⟩ = some (.int .i64 u.b) ∧ w'.cell? ⟨P, 2, none⟩ = some (.int .i64 u.c) ∧ w'.cell? ⟨P, 3, none⟩ = some (.string up) ∧ w'.cell? ⟨G, c, none⟩ = some (.string x) ∧ Below w.heap.size w w' ∧ RowS w' G 10)
          (first | exact keep10 (by assumption) hbk | exact keep10 (by assumption) (Below.refl _ _).drew | exact HS0.out | exact keep10 HS0.out (Below.refl _ _).drew)
          ((go_at_call 10; ((with_reducible refine (H3.out _ (HG.out.below0 ?_)).mono ?_)); (exact (keep10B (by assumption)).1); rintro e wp ⟨rfl, hbk⟩))
        all_goals have HZ := Lib.hid (keep10B (by assumption))
        all_goals go_wp2_with (fail)
        all_goals (go_roundg (10 - (c + 1)))
        all_goals first | (case measure => omega) | (case rel => exact ⟨c + 1, rfl, by omega, by go_num, HZ.out.2, HZ.out.1⟩)
      · have H1 := Lib.hid h1p
        have H2 := Lib.hid h2p
        clear h1p h2p
        go_wp2_with (fail)
        refine (H1.out _ (HG.out.below0 HBr.out)).mono ?_
        rintro e wp ⟨rfl, hbp⟩
        have HROWp := Lib.hid ((HROWr.out.below hbp).below ((Below.refl _ wp).alloc (Nat.le_refl _) (.cells #[.int .i64 0, .int .i64 0, .int .i64 0, .string ⟨#[]⟩] 25)))
        have hbp0 := below_then HBr.out HBr.out.size hbp
        have HBp := Lib.hid (hbp0.alloc hbp0.size (.cells #[.int .i64 0, .int .i64 0, .int .i64 0, .string ⟨#[]⟩] 25))
        have HV := Lib.hid (Blk.new wp 25 #[.int .i64 0, .int .i64 0, .int .i64 0, .string ⟨#[]⟩])
        have hxp := pw_cell_below ((Below.refl _ wp).alloc (Nat.le_refl _) (.cells #[.int .i64 0, .int .i64 0, .int .i64 0, .string ⟨#[]⟩] 25)) (pw_cell_below hbp hxc)
        clear hbp hbp0 hxc HROWr HBr
        go_wp2_with (fail)
        refine (H2.out _).mono ?_
        rintro e wq ⟨rfl, hbq⟩
        have HROWq := Lib.hid ((HROWp.out.below hbq).below ((Below.refl _ wq).alloc (Nat.le_refl _) (.cells #[.int .i64 0, .int .i64 0, .int .i64 0, .string ⟨#[]⟩] 25)))
        have hbq0 := below_then HBp.out HBp.out.size hbq
        have HBq := Lib.hid (hbq0.alloc hbq0.size (.cells #[.int .i64 0, .int .i64 0, .int .i64 0, .string ⟨#[]⟩] 25))
        have HVq := Lib.hid ((HV.out.below hbq).alloc (.cells #[.int .i64 0, .int .i64 0, .int .i64 0, .string ⟨#[]⟩] 25))
        have HPq := Lib.hid (Blk.new wq 25 #[.int .i64 0, .int .i64 0, .int .i64 0, .string ⟨#[]⟩])
        have hxq := pw_cell_below ((Below.refl _ wq).alloc (Nat.le_refl _) (.cells #[.int .i64 0, .int .i64 0, .int .i64 0, .string ⟨#[]⟩] 25)) (pw_cell_below hbq hxp)
        generalize wp.heap.size = V at *
        clear hbq hbq0 hxp HROWp HBp HV
        go_upto_region 15 with (fail)
        generalize wq.alloc (.cells #[.int .i64 0, .int .i64 0, .int .i64 0, .string ⟨#[]⟩] 25) = W at *
        generalize wq.heap.size = P at *
        have a0 := HVq.out.cell 0
        have a1 := HVq.out.cell 1
        have a2 := HVq.out.cell 2
        have a3 := HVq.out.cell 3
        have b0 := HPq.out.cell 0
        have b1 := HPq.out.cell 1
        have b2 := HPq.out.cell 2
        have b3 := HPq.out.cell 3
        have HS0 : Hid (W.cell? ⟨V, 0, none⟩ = some (.int .i64 0) ∧ W.cell? ⟨V, 1, none⟩ = some (.int .i64 0) ∧ W.cell? ⟨V, 2, none⟩ = some (.int .i64 0) ∧ W.cell? ⟨V, 3, none⟩ = some (.string ⟨#[]⟩) ∧ W.cell? ⟨P, 0, none⟩ = some (.int .i64 0) ∧ W.cell? ⟨P, 1, none⟩ = some (.int .i64 0) ∧ W.cell? ⟨P, 2, none⟩ = some (.int .i64 0) ∧ W.cell? ⟨P, 3, none⟩ = some (.string ⟨#[]⟩) ∧ W.cell? ⟨G, c, none⟩ = some (.string x) ∧ Below w.heap.size w W ∧ RowS W G 10) := Lib.hid ⟨a0, a1, a2, a3, b0, b1, b2, b3, hxq, HBq.out, HROWq.out⟩
        go_quiet (fail)
        all_goals have HZ : Hid (Below w.heap.size w (W.drewN nq) ∧ RowS (W.drewN nq) G 10) := Lib.hid (keep10B (keep10 HS0.out (below_dr (Below.refl _ _) nq)))
        all_goals go_wp2_with (fail)
        all_goals (go_roundg (10 - (c + 1)))
        all_goals first | (case measure => omega) | (case rel => exact ⟨c + 1, rfl, by omega, by go_num, HZ.out.2, HZ.out.1⟩)
    · obtain rfl : c = 10 := by omega
      go_wp2_with (fail)
      go_ret
      exact ⟨rfl, hbr⟩
end
theorem transhumancelaw2_VerReads.walked (a0 a1 a2 a3 a4 : Int) (a5 a6 : ByteArray) (w : World) (_ : (Lit.int .i64 a0).wf = true) (_ : (Lit.int .i64 a1).wf = true) (_ : (Lit.int .i64 a2).wf = true) (_ : (Lit.int .u8 a3).wf = true) (_ : (Lit.int .i64 a4).wf = true) (_ : a5.size ≤ 140737488351232) (_ : a6.size ≤ 140737488351232) (hG : GL w) :
    Calls Tryz.prog 3 #[.int .i64 a0, .int .i64 a1, .int .i64 a2, .int .u8 a3, .int .i64 a4, .string a5, .string a6] w fun e w' => e = .returned (.bool true) ∧ Below w.heap.size w w' :=
  reads_calls w a0 a1 a2 a3 a4 a5 a6 hG
end Go.Proofs.YtoghoiecnciglaaGreatDoor.Q
