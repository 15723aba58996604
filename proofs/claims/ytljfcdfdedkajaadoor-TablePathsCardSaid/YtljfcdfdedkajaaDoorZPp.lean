import Derived.Test.YtljfcdfdedkajaaDoorZPk
import Derived.Test.YtljfcdfdedkajaaDoorZPng
import Derived.Test.YtljfcdfdedkajaaDoorZTRef
import Derived.Test.YtljfcdfdedkajaaDoorZQ3
namespace Go.Proofs.YtljfcdfdedkajaaDoor.Q
open Go.RowKit Go.Proofs.YtljfcdfdedkajaaDoorW.PrintWords Go.Proofs.YtljfcdfdedkajaaDoorW.PrintLast Go.Proofs.YtljfcdfdedkajaaDoorW.PrintMore
theorem line_field_bad {s : ByteArray} {a : Nat} {l : List Lk} {x : Lk} {hv : ByteArray} {b1 b2 b3 m v : List UInt8} {k : Nat} (hk : k < 5)
    (h : At s a (b1 ++ ((nm k).data.toList ++ (b2 ++ (61 :: (b3 ++ (R.quoteL v ++ m)))))))
    (h1 : b1.all blank = true) (h2 : b2.all blank = true) (h3 : b3.all blank = true)
    (hv0 : Lib.contains hv.data.toList ((nm k) ++ spc).data.toList = false) (hvp : v.all plainB = true) (hq : (k == 0 || k == 4) = true) (hrt : rightL v = false) :
    lineR s ⟨a, l ++ [x], hv⟩ = .bad (a + b1.length + (nm k).data.toList.length + b2.length + 1 + b3.length) 7 := by
  obtain ⟨b, t, hkey, hb1, hb2, hbb⟩ := key_head k hk
  have hlow := key_lower k hk
  have hidx := key_idx k hk
  have hpth := key_path k hk
  generalize hK : nm k = K at *
  have g1 := h.skip
  have g2 := g1.skip
  have g3 := g2.skip
  have g4 := g3.tail
  have g5 := g4.skip
  have s1 : spanEnd blank s a = a + b1.length := h.span h1 (by rw [hkey]; exact stops_cons hbb)
  have s2 : spanEnd lower s (a + b1.length) = a + b1.length + K.data.toList.length := g1.span hlow (stops_blanks h2 (fun _ => lower_blank) (stops_cons (by decide)))
  have s3 : spanEnd blank s (a + b1.length + K.data.toList.length) = a + b1.length + K.data.toList.length + b2.length := g2.span h2 (stops_cons blank61)
  have s4 : spanEnd blank s (a + b1.length + K.data.toList.length + b2.length + 1) = a + b1.length + K.data.toList.length + b2.length + 1 + b3.length := g4.span h3 (by
    show Stops blank (R.quoteL v ++ m)
    exact stops_cons blank34)
  have hw : s.extract (a + b1.length) (a + b1.length + K.data.toList.length) = K := by rw [g1.extract, bs_data]
  have hby : byteAt s (a + b1.length) = b.toNat := by
    have : At s (a + b1.length) (b :: (t ++ (b2 ++ (61 :: (b3 ++ (R.quoteL v ++ m)))))) := by rw [hkey] at g1; exact g1
    exact this.byte
  have hpre : Lib.hasPrefix (s.data.toList.drop (a + b1.length + K.data.toList.length + b2.length)) eqs.data.toList = true := At.pre (l := [61]) g3
  have hu : unq (s.data.toList.drop (a + b1.length + K.data.toList.length + b2.length + 1 + b3.length)) = some (v, (R.quoteL v).length) := by rw [g5.2]; exact unq_quote v _ hvp
  have hf : fieldR s ⟨a + b1.length, l ++ [x], hv⟩ = .bad (a + b1.length + K.data.toList.length + b2.length + 1 + b3.length) 7 := by
    rw [fieldR_snoc]
    simp only [s2, s3, hw, hidx, hv0, hpre, s4]
    rw [if_neg (by omega), if_neg (by simp), if_pos trivial]
    unfold tailR
    simp only [hu, Int.toNat_natCast]
    rw [if_pos]
    rw [hpth, hq, hrt]
    rfl
  unfold lineR
  simp only [s1, hby]
  rw [if_neg (by omega), if_pos (by omega), hf]
theorem bad_f (b : UInt8) : transhumanceref1_bad.f (b.toNat : Int) = some (!plainB b) := by
  have all : ∀ n : Nat, n < 256 → transhumanceref1_bad.f (n : Int) = some (!plainB (UInt8.ofNat n)) := by decide +kernel
  have := all b.toNat b.toNat_lt
  simpa only [UInt8.ofNat_toNat] using this
theorem rplain_l0 (s : ByteArray) (hs : s.size ≤ 1000000) : ∀ (d i : Nat), i + d = s.size → Ev (fun k => transhumanceref1_Plain.l0 k s i) ((s.data.toList.drop i).all plainB)
  | 0, i, hi => by
    refine Ev.step (fun _ => transhumanceref1_Plain.l0.eq_2 ..) (Ev.neg (by omega) ?_)
    rw [List.drop_of_length_le (by rw [data_length]; omega)]
    exact Ev.now _
  | d + 1, i, hi => by
    have hlt : i < s.size := by omega
    refine Ev.step (fun _ => transhumanceref1_Plain.l0.eq_2 ..) (Ev.pos (by omega) (Ev.pos (by omega) ?_))
    rw [bt_get s i hlt, bad_f, drop_at s i hlt, List.all_cons]
    cases hp : plainB s[i] with
    | true =>
      rw [wrap_id (by omega) (by omega)]
      exact Ev.val rfl (Ev.neg (by simp) (by rw [Bool.true_and]; exact rplain_l0 s hs d (i + 1) (by omega)))
    | false => exact Ev.val rfl (Ev.pos rfl (Ev.now _))
theorem rplain_ev (s : ByteArray) (hs : s.size ≤ 1000000) : Ev (fun k => transhumanceref1_Plain.f k s) (s.data.toList.all plainB) := rplain_l0 s hs s.size 0 (by omega)
theorem lines_bad {s : ByteArray} {wh : Nat} {e : Int} : ∀ (n m : Nat) (st st' : PSt), runs s n st st' → st'.a < s.size → lineR s st' = .bad wh e → n + 1 ≤ m → linesR s m st = .bad wh e
  | 0, m, st, st', h, ha, hb, hm => by
    obtain ⟨m, rfl⟩ : ∃ q, m = q + 1 := ⟨m - 1, by omega⟩
    obtain rfl : st = st' := h
    unfold linesR
    simp only [hb]
  | n + 1, m, st, st', h, ha, hb, hm => by
    obtain ⟨m, rfl⟩ : ∃ q, m = q + 1 := ⟨m - 1, by omega⟩
    obtain ⟨st1, h1, h2, h3⟩ := h
    have := runs_le h3
    unfold linesR
    simp only [h1]
    rw [if_pos (by omega)]
    exact lines_bad n m st1 st' h3 ha hb (by omega)
theorem rightL_ne {v : List UInt8} (h : rightL v = true) : v ≠ [] := by
  rintro rfl
  exact absurd h (by decide)
end Go.Proofs.YtljfcdfdedkajaaDoor.Q
