/- VerParts answers true for every input: plain part. -/
import Derived.Test.YtbdojilhmgfdcaaDoorZVn
import Derived.Test.YtbdojilhmgfdcaaDoorZQ11
namespace Go.Proofs.YtbdojilhmgfdcaaDoor.Pure
open Go.RowKit Go.Proofs.YtbdojilhmgfdcaaDoor.Q Go.Proofs.YtbdojilhmgfdcaaDoorW.PrintWords Go.Proofs.YtbdojilhmgfdcaaDoorW.PrintLast
theorem pdigits_ev (n : Int) (h0 : 0 ≤ n) (h1 : n ≤ 1000000000000000) : Ev (fun k => transhumancelaw2_digits.f k n) (bs (Lib.decDigits n.toNat)) :=
  digits_gen transhumancelaw2_digits.f (fun _ _ => transhumancelaw2_digits.f.eq_2 ..) 16 n h0 (by omega) (by omega) (by omega)
def manyA : ByteArray := (⟨#[97, 97, 97, 97, 97, 97, 97, 97, 97, 97, 97, 97, 97, 97, 97, 97, 97, 97, 97, 97, 97, 97, 97, 97, 97, 97, 97, 97, 97, 97, 97, 97, 97, 97, 97, 97, 97, 97, 97, 97, 97, 97, 97, 97, 97, 97, 97, 97, 97, 97]⟩ : ByteArray)
theorem manyA_ok : ∀ j : Fin 10, rightV 1 0 0 (manyA.extract 0 (35 + j.val)).data.toList = decide ((35 + (j.val : Int)) ≤ 40) ∧ (manyA.extract 0 (35 + j.val)).data.toList.length = 35 + j.val := by decide +kernel
theorem text_a (k : Nat) : (⟨#[118]⟩ : ByteArray) ++ bs (Lib.decDigits k) ++ (⟨#[46, 48, 46, 48]⟩ : ByteArray) = bs (textV ⟨k, 0, 0, []⟩) := by
  have h0 : Lib.decDigits 0 = [48] := by rw [dec_small (by omega)]; rfl
  apply ext_bs
  unfold textV preT
  simp [bs, ByteArray.data_append, h0]
theorem text_b (k : Nat) : (⟨#[118, 48, 46]⟩ : ByteArray) ++ bs (Lib.decDigits k) ++ (⟨#[46, 48]⟩ : ByteArray) = bs (textV ⟨0, k, 0, []⟩) := by
  have h0 : Lib.decDigits 0 = [48] := by rw [dec_small (by omega)]; rfl
  apply ext_bs
  unfold textV preT
  simp [bs, ByteArray.data_append, h0]
theorem text_c (k : Nat) : (⟨#[118, 48, 46, 48, 46]⟩ : ByteArray) ++ bs (Lib.decDigits k) = bs (textV ⟨0, 0, k, []⟩) := by
  have h0 : Lib.decDigits 0 = [48] := by rw [dec_small (by omega)]; rfl
  apply ext_bs
  unfold textV preT
  simp [bs, ByteArray.data_append, h0]
theorem text_p (p : ByteArray) (hp : p.data.toList ≠ []) : (⟨#[118, 49, 46, 48, 46, 48, 45]⟩ : ByteArray) ++ p = bs (textV ⟨1, 0, 0, p.data.toList⟩) := by
  have h0 : Lib.decDigits 0 = [48] := by rw [dec_small (by omega)]; rfl
  have h1 : Lib.decDigits 1 = [49] := by rw [dec_small (by omega)]; rfl
  apply ext_bs
  unfold textV preT
  simp only
  rw [if_neg hp]
  simp [bs, ByteArray.data_append, h0, h1]
theorem part_right (k : Nat) (hk : k ≤ 2000000) (a b c : Int) (h : (a = k ∧ b = 0 ∧ c = 0) ∨ (a = 0 ∧ b = k ∧ c = 0) ∨ (a = 0 ∧ b = 0 ∧ c = k)) : rightV a b c [] = decide ((k : Int) ≤ 999999) := by
  have h0 : partB 0 = true := rfl
  have hkk : partB (k : Int) = decide ((k : Int) ≤ 999999) := by
    unfold partB
    rw [decide_eq_true (by omega), Bool.true_and]
  unfold rightV
  rcases h with ⟨rfl, rfl, rfl⟩ | ⟨rfl, rfl, rfl⟩ | ⟨rfl, rfl, rfl⟩
  all_goals (rw [h0, hkk]; simp)
theorem part_parse (k : Nat) (hk : k ≤ 2000000) (a b c : Int) (h : (a = k ∧ b = 0 ∧ c = 0) ∨ (a = 0 ∧ b = k ∧ c = 0) ∨ (a = 0 ∧ b = 0 ∧ c = k)) :
    ∃ r : Int × Int × Int × ByteArray × Bool, ver_Parse.f (bs (textV ⟨a, b, c, []⟩)) = some r ∧ r.2.2.2.2 = decide ((k : Int) ≤ 999999) := by
  have l1 : ∀ x : Int, x.toNat ≤ 2000000 → (Lib.decDigits x.toNat).length ≤ 20 := fun x hx => len_dec 20 (by omega) (by decide)
  have hl : (textV ⟨a, b, c, []⟩).length ≤ 900000 := by
    have h1 := l1 a (by omega)
    have h2 := l1 b (by omega)
    have h3 := l1 c (by omega)
    unfold textV preT
    simp only [List.length_cons, List.length_append, if_true, List.length_nil]
    omega
  refine ⟨_, vparse_f _ hl, ?_⟩
  rw [parse_text ⟨a, b, c, []⟩ ⟨by simp only; omega, by simp only; omega⟩ ⟨by simp only; omega, by simp only; omega⟩ ⟨by simp only; omega, by simp only; omega⟩]
  simp only
  rw [part_right k hk a b c h]
  cases decide ((k : Int) ≤ 999999) <;> rfl
theorem VerParts : transhumancelaw2_VerParts.Pure := by
  intro a0 a1 a2 _ _ _
  apply Ev.rounds
  unfold transhumancelaw2_VerParts.f
  obtain ⟨x0, x1⟩ := win_bd a0 20 (by omega)
  have wx := within_f a0 20 (by omega) (by omega)
  obtain ⟨i, hi⟩ := win_fin a1 3 (by decide)
  have wi : transhumancelaw2_within.f a1 3 = some (i.val : Int) := by rw [within_f a1 3 (by omega) (by omega)]; exact congrArg some hi
  obtain ⟨j, hj⟩ := win_fin a2 10 (by decide)
  have wj : transhumancelaw2_within.f a2 10 = some (j.val : Int) := by rw [within_f a2 10 (by omega) (by omega)]; exact congrArg some hj
  obtain ⟨k, hk⟩ : ∃ k : Nat, wrap64 (999990 + win a0 20) = (k : Int) := ⟨(999990 + win a0 20).toNat, by rw [wrap_id (by omega) (by omega)]; omega⟩
  have hkb : k ≤ 2000000 := by
    have : wrap64 (999990 + win a0 20) = 999990 + win a0 20 := wrap_id (by omega) (by omega)
    omega
  have hjl := j.isLt
  have hil := i.isLt
  have wjj : wrap64 (35 + (j.val : Int)) = ((35 + j.val : Nat) : Int) := by rw [wrap_id (by omega) (by omega)]; omega
  have dk := pdigits_ev (k : Int) (by omega) (by omega)
  rw [show ((k : Int)).toNat = k from rfl] at dk
  have ld : (Lib.decDigits k).length ≤ 20 := len_dec 20 (by omega) (by decide)
  obtain ⟨m1, m2⟩ := manyA_ok j
  have hne : (manyA.extract 0 (35 + j.val)).data.toList ≠ [] := fun e => by rw [e] at m2; simp at m2; omega
  refine Ev.val known_true (Ev.pos rfl (Ev.val wx ?_))
  rw [hk]
  have s1 : (⟨#[118]⟩ : ByteArray).size = 1 := rfl
  have s2 : (⟨#[118, 48, 46]⟩ : ByteArray).size = 3 := rfl
  refine Ev.bind dk (Ev.pos (by rw [size_bs]; omega) (Ev.pos (by rw [ByteArray.size_append, size_bs, s1]; omega) (Ev.bind dk (Ev.pos (by rw [size_bs]; omega) (Ev.pos (by rw [ByteArray.size_append, size_bs, s2]; omega) (Ev.bind dk (Ev.pos (by rw [size_bs]; omega) ?_)))))))
  rw [text_a, text_b, text_c]
  refine Ev.val (a := [bs (textV ⟨k, 0, 0, []⟩), bs (textV ⟨0, k, 0, []⟩), bs (textV ⟨0, 0, k, []⟩)]) rfl (Ev.val wi (Ev.pos (by omega) (Ev.pos (by show _ < ((3 : Nat) : Int); omega) ?_)))
  have hrow : ∃ r : Int × Int × Int × ByteArray × Bool, ver_Parse.f (rdOf ByteArray.empty [bs (textV ⟨k, 0, 0, []⟩), bs (textV ⟨0, k, 0, []⟩), bs (textV ⟨0, 0, k, []⟩)] (i.val : Int)) = some r ∧ r.2.2.2.2 = decide ((k : Int) ≤ 999999) := by
    obtain ⟨i, hi⟩ := i
    rcases i with _ | _ | _ | i
    · exact part_parse k hkb _ _ _ (.inl ⟨rfl, rfl, rfl⟩)
    · exact part_parse k hkb _ _ _ (.inr (.inl ⟨rfl, rfl, rfl⟩))
    · exact part_parse k hkb _ _ _ (.inr (.inr ⟨rfl, rfl, rfl⟩))
    · omega
  obtain ⟨r, hr1, hr2⟩ := hrow
  refine Ev.val hr1 (Ev.val wj ?_)
  rw [wjj]
  have hz : (manyA.extract 0 (35 + j.val)).size = 35 + j.val := m2
  have hp := vparse_f (textV ⟨1, 0, 0, (manyA.extract 0 (35 + j.val)).data.toList⟩) (by
    have h1 : (Lib.decDigits ((1 : Int).toNat)).length ≤ 20 := len_dec 20 (by decide) (by decide)
    have h2 : (Lib.decDigits ((0 : Int).toNat)).length ≤ 20 := len_dec 20 (by decide) (by decide)
    unfold textV preT
    simp only
    rw [if_neg hne]
    simp only [List.length_cons, List.length_append]
    omega)
  rw [← text_p _ hne, parse_text ⟨1, 0, 0, _⟩ ⟨by simp only; omega, by simp only; omega⟩ ⟨by simp only; omega, by simp only; omega⟩ ⟨by simp only; omega, by simp only; omega⟩] at hp
  simp only at hp
  have hri := vright_f 1 0 0 (manyA.extract 0 (35 + j.val)).data.toList (by omega)
  rw [bs_data, m1] at hri
  rw [m1] at hp
  have c35 : decide (((35 + j.val : Nat) : Int) ≤ 40) = decide ((35 + (j.val : Int)) ≤ 40) := by rw [decide_eq_decide]; omega
  refine Ev.pos (by omega) (Ev.pos (by omega) (Ev.pos ?_ ?_))
  · show 7 + (manyA.extract 0 (((35 + j.val : Nat) : Int)).toNat).size ≤ 9223372036854775807
    rw [show (((35 + j.val : Nat) : Int)).toNat = 35 + j.val from rfl, hz]
    omega
  show Ev (fun n => (ver_Parse.f ((⟨#[118, 49, 46, 48, 46, 48, 45]⟩ : ByteArray) ++ manyA.extract 0 (35 + j.val))).bind _) true
  refine Ev.val hp (Ev.pos (by rw [hr2]; simp) ?_)
  cases hb : decide ((35 + (j.val : Int)) ≤ 40) with
  | false =>
    rw [hb] at hri
    exact Ev.pos (by rw [c35, hb]; rfl) (Ev.val hri (Ev.pos rfl (Ev.neg (by simp [verOut]) (Ev.now _))))
  | true =>
    rw [hb] at hri
    refine Ev.pos (by rw [c35, hb]; rfl) (Ev.val hri (Ev.pos rfl (Ev.pos rfl (Ev.ret ?_))))
    simp only [if_true, verOut, bs_data]
    show some ((manyA.extract 0 (35 + j.val)).toList == (manyA.extract 0 (35 + j.val)).toList) = some true
    simp
end Go.Proofs.YtbdojilhmgfdcaaDoor.Pure
