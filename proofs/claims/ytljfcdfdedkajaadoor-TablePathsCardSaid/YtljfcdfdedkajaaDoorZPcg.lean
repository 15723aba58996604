import Derived.Test.YtljfcdfdedkajaaDoorZTLocksg
import Derived.Test.YtljfcdfdedkajaaDoorZQuoteg
import Derived.Test.YtljfcdfdedkajaaDoorZTWriteg
section
namespace Go.Proofs.YtljfcdfdedkajaaDoor.Q
open Go.RowKit Go.Proofs.YtljfcdfdedkajaaDoorW.PrintWords
def At (s : ByteArray) (i : Nat) (l : List UInt8) : Prop := i ≤ s.size ∧ s.data.toList.drop i = l
theorem At.zero (s : ByteArray) : At s 0 s.data.toList := ⟨Nat.zero_le _, rfl⟩
theorem At.size {s : ByteArray} {i : Nat} {l : List UInt8} (h : At s i l) : s.size = i + l.length := by
  have := h.1
  rw [← h.2, List.length_drop, data_length]
  omega
theorem At.skip {s : ByteArray} {i : Nat} {l m : List UInt8} (h : At s i (l ++ m)) : At s (i + l.length) m := by
  have hz := h.size
  rw [List.length_append] at hz
  refine ⟨by omega, ?_⟩
  rw [← List.drop_drop, h.2, List.drop_left]
theorem At.tail {s : ByteArray} {i : Nat} {b : UInt8} {m : List UInt8} (h : At s i (b :: m)) : At s (i + 1) m := At.skip (l := [b]) h
theorem At.byte {s : ByteArray} {i : Nat} {b : UInt8} {m : List UInt8} (h : At s i (b :: m)) : byteAt s i = b.toNat := by
  have hz := h.size
  rw [List.length_cons] at hz
  have hlt : i < s.size := by omega
  have := h.2
  rw [drop_at s i hlt] at this
  rw [byteAt_lt s hlt]
  injection this with h1 _
  rw [h1]
theorem At.is {s : ByteArray} {i : Nat} {b : UInt8} {m : List UInt8} {n : Int} (h : At s i (b :: m)) (hb : (b.toNat : Int) = n) : byteAt s i = n := h.byte.trans hb
theorem At.nil {s : ByteArray} {i : Nat} (h : At s i []) : byteAt s i = 0 ∧ i = s.size := by
  have hz := h.size
  rw [List.length_nil] at hz
  exact ⟨byteAt_ge s (by omega), by omega⟩
def Stops (p : UInt8 → Bool) (m : List UInt8) : Prop := ∀ b ∈ m.head?, p b = false
theorem stops_nil (p : UInt8 → Bool) : Stops p [] := by intro b hb; cases hb
theorem stops_cons {p : UInt8 → Bool} {b : UInt8} {m : List UInt8} (h : p b = false) : Stops p (b :: m) := by
  intro c hc
  simp at hc
  rw [← hc]; exact h
theorem takeWhile_stop {p : UInt8 → Bool} {l m : List UInt8} (hl : l.all p = true) (hm : Stops p m) : (l ++ m).takeWhile p = l := by
  induction l with
  | nil =>
    cases m with
    | nil => rfl
    | cons b m => rw [List.nil_append, List.takeWhile_cons, hm b (by simp)]; rfl
  | cons x l ih =>
    simp only [List.all_cons, Bool.and_eq_true] at hl
    rw [List.cons_append, List.takeWhile_cons, hl.1, if_pos rfl, ih hl.2]
theorem At.span {s : ByteArray} {i : Nat} {l m : List UInt8} {p : UInt8 → Bool} (h : At s i (l ++ m)) (hl : l.all p = true) (hm : Stops p m) : spanEnd p s i = i + l.length := by
  unfold spanEnd
  rw [h.2, takeWhile_stop hl hm]
theorem At.pre {s : ByteArray} {i : Nat} {l m : List UInt8} (h : At s i (l ++ m)) : Lib.hasPrefix (s.data.toList.drop i) l = true := by
  rw [h.2]
  exact List.isPrefixOf_iff_prefix.2 (List.prefix_append l m)
theorem At.extract {s : ByteArray} {i : Nat} {l m : List UInt8} (h : At s i (l ++ m)) : s.extract i (i + l.length) = bs l := by
  apply ext_bs
  rw [data_bs, ByteArray.data_extract]
  simp only [Array.toList_extract, List.extract_eq_take_drop, Nat.add_sub_cancel_left]
  rw [h.2, List.take_left]
def Rem (r : List UInt8) : Prop := r = [] ∨ ∃ t, r = 35 :: t ∧ t.all noteB = true
def Nl (n post : List UInt8) : Prop := n = [10] ∨ n = [] ∧ post = []
theorem Nl.stops {n post : List UInt8} (h : Nl n post) {p : UInt8 → Bool} (hp : p 10 = false) : Stops p (n ++ post) := by
  rcases h with rfl | ⟨rfl, rfl⟩
  · exact stops_cons hp
  · exact stops_nil p
theorem Rem.stops {r n post : List UInt8} (hr : Rem r) (hn : Nl n post) {p : UInt8 → Bool} (hp : p 10 = false) (hq : p 35 = false) : Stops p (r ++ (n ++ post)) := by
  rcases hr with rfl | ⟨t, rfl, _⟩
  · exact hn.stops hp
  · exact stops_cons hq
theorem blank10 : blank 10 = false := by decide
theorem blank35 : blank 35 = false := by decide
theorem blank34 : blank 34 = false := by decide
theorem blank61 : blank 61 = false := by decide
theorem blank91 : blank 91 = false := by decide
theorem At.rest {s : ByteArray} {i : Nat} {b r n post : List UInt8} (h : At s i (b ++ (r ++ (n ++ post)))) (hb : b.all blank = true) (hr : Rem r) (hn : Nl n post) :
    restR s i = (true, i + b.length + r.length + n.length) ∧ At s (i + b.length + r.length + n.length) post := by
  have h1 := h.skip
  have h2 := h1.skip
  have h3 := h2.skip
  have e1 := h.span hb (hr.stops hn blank10 blank35)
  refine ⟨?_, h3⟩
  unfold restR
  simp only [e1]
  have e2 : (if byteAt s (i + b.length) = 35 then spanEnd noteB s (i + b.length) else i + b.length) = i + b.length + r.length := by
    rcases hr with rfl | ⟨t, rfl, ht⟩
    · rw [List.nil_append] at h1
      rcases hn with rfl | ⟨rfl, rfl⟩
      · rw [if_neg (by rw [At.byte (b := 10) h1]; decide)]; rfl
      · rw [if_neg (by rw [(At.nil h1).1]; decide)]; rfl
    · rw [if_pos (At.is (b := 35) (n := 35) h1 rfl)]
      exact h1.span (by rw [List.all_cons, ht]; rfl) (hn.stops (by decide))
  rw [e2]
  rcases hn with rfl | ⟨rfl, rfl⟩
  · rw [if_pos (At.is (b := 10) (n := 10) h2 rfl)]; rfl
  · have := At.nil h2
    rw [if_neg (by rw [this.1]; decide), if_neg (by omega)]; rfl
theorem unqGo_cons (x : UInt8) (r acc : List UInt8) (n : Nat) : unqGo (x :: r) acc n = if x < 32 ∨ 126 < x then none else if x = 34 then some (acc, n + 1) else if x = 92 then (match r with | [] => none | y :: r' => match esc y with | none => none | some z => unqGo r' (acc ++ [z]) (n + 2)) else unqGo r (acc ++ [x]) (n + 1) := by
  cases r <;> rfl
theorem unqGo_quoteB (b : UInt8) (hb : plainB b = true) (rest acc : List UInt8) (n : Nat) : unqGo (R.quoteB b ++ rest) acc n = unqGo rest (acc ++ [b]) (n + (R.quoteB b).length) := by
  unfold R.quoteB
  by_cases h0 : b = 34
  · subst h0; rw [if_pos rfl]; rfl
  rw [if_neg h0]
  by_cases h1 : b = 92
  · subst h1; rw [if_pos rfl]; rfl
  rw [if_neg h1]
  by_cases h2 : b = 10
  · subst h2; rw [if_pos rfl]; rfl
  rw [if_neg h2]
  by_cases h3 : b = 9
  · subst h3; rw [if_pos rfl]; rfl
  rw [if_neg h3]
  have hr : ¬ (b < 32 ∨ 126 < b) := by
    simp only [plainB, Bool.or_eq_true, Bool.and_eq_true, beq_iff_eq, decide_eq_true_eq] at hb
    rcases hb with (h | h) | ⟨h4, h5⟩
    · exact absurd h h3
    · exact absurd h h2
    · rintro (h | h)
      · rw [UInt8.lt_iff_toNat_lt] at h; rw [UInt8.le_iff_toNat_le] at h4; omega
      · rw [UInt8.lt_iff_toNat_lt] at h; rw [UInt8.le_iff_toNat_le] at h5; omega
  rw [List.singleton_append, unqGo_cons, if_neg hr, if_neg h0, if_neg h1]
  rfl
theorem unqGo_quote (v : List UInt8) (hv : v.all plainB = true) (rest acc : List UInt8) (n : Nat) :
    unqGo (v.flatMap R.quoteB ++ (34 :: rest)) acc n = some (acc ++ v, n + (v.flatMap R.quoteB).length + 1) := by
  induction v generalizing acc n with
  | nil => rw [List.flatMap_nil, List.nil_append, unqGo_cons, if_neg (by decide), if_pos rfl]; simp
  | cons b v ih =>
    simp only [List.all_cons, Bool.and_eq_true] at hv
    rw [List.flatMap_cons, List.append_assoc, unqGo_quoteB b hv.1, ih hv.2, List.length_append]
    simp [Nat.add_assoc]
theorem unq_quote (v rest : List UInt8) (hv : v.all plainB = true) : unq (R.quoteL v ++ rest) = some (v, (R.quoteL v).length) := by
  have : R.quoteL v ++ rest = 34 :: (v.flatMap R.quoteB ++ (34 :: rest)) := by simp [R.quoteL]
  rw [this, unq, unqGo_quote v hv]
  simp [R.quoteL]
  omega
def nm (k : Nat) : ByteArray := names.getD k ⟨#[]⟩
theorem key_all : ∀ k ∈ List.range 5, (nm k).data.toList.all lower = true ∧ Lib.idxOfS names (nm k) = (k : Int) ∧ needsPath (nm k) = (k == 0 || k == 4) ∧
    ((nm k).data.toList.head?.all fun b => decide (97 ≤ b.toNat) && (decide (b.toNat ≤ 122) && !blank b)) = true ∧ (nm k).data.toList ≠ [] := by decide +kernel
theorem key_lower (k : Nat) (hk : k < 5) : (nm k).data.toList.all lower = true := (key_all k (List.mem_range.2 hk)).1
theorem key_idx (k : Nat) (hk : k < 5) : Lib.idxOfS names (nm k) = (k : Int) := (key_all k (List.mem_range.2 hk)).2.1
theorem key_path (k : Nat) (hk : k < 5) : needsPath (nm k) = (k == 0 || k == 4) := (key_all k (List.mem_range.2 hk)).2.2.1
theorem key_head (k : Nat) (hk : k < 5) : ∃ b t, (nm k).data.toList = b :: t ∧ 97 ≤ b.toNat ∧ b.toNat ≤ 122 ∧ blank b = false := by
  obtain ⟨_, _, _, h1, h2⟩ := key_all k (List.mem_range.2 hk)
  cases h : (nm k).data.toList with
  | nil => exact absurd h h2
  | cons b t =>
    rw [h] at h1
    simp only [List.head?_cons, Option.all_some, Bool.and_eq_true, decide_eq_true_eq, Bool.not_eq_true'] at h1
    exact ⟨b, t, rfl, h1.1, h1.2.1, h1.2.2⟩
theorem lower_blank {b : UInt8} (h : blank b = true) : lower b = false := by
  have : b = 32 ∨ b = 9 := by simpa [blank, inSet] using h
  rcases this with rfl | rfl <;> decide
theorem stops_blanks {p : UInt8 → Bool} {b m : List UInt8} (hb : b.all blank = true) (hp : ∀ c, blank c = true → p c = false) (hm : Stops p m) : Stops p (b ++ m) := by
  cases b with
  | nil => exact hm
  | cons c b =>
    simp only [List.all_cons, Bool.and_eq_true] at hb
    exact stops_cons (hp c hb.1)
theorem line_of {s : ByteArray} {a a1 : Nat} {l : List Lk} {hv : ByteArray} {st1 : PSt} {j : Nat} (e1 : spanEnd blank s a = a1)
    (h : (if byteAt s a1 = 91 then beginR s ⟨a1, l, hv⟩ else if 97 ≤ byteAt s a1 ∧ byteAt s a1 ≤ 122 then fieldR s ⟨a1, l, hv⟩ else .ok ⟨a1, l, hv⟩) = .ok st1)
    (hr : restR s st1.a = (true, j)) : lineR s ⟨a, l, hv⟩ = .ok ⟨j, st1.l, st1.hv⟩ := by
  unfold lineR
  simp only [e1, h, hr, if_pos]
theorem line_field {s : ByteArray} {a : Nat} {l : List Lk} {x : Lk} {hv : ByteArray} {b1 b2 b3 b4 r n post v : List UInt8} {k : Nat} (hk : k < 5)
    (h : At s a (b1 ++ ((nm k).data.toList ++ (b2 ++ (61 :: (b3 ++ (R.quoteL v ++ (b4 ++ (r ++ (n ++ post))))))))))
    (h1 : b1.all blank = true) (h2 : b2.all blank = true) (h3 : b3.all blank = true) (h4 : b4.all blank = true) (hr : Rem r) (hn : Nl n post)
    (hv0 : Lib.contains hv.data.toList ((nm k) ++ spc).data.toList = false) (hvp : v.all plainB = true) (hrt : (k == 0 || k == 4) = true → rightL v = true) :
    ∃ j, lineR s ⟨a, l ++ [x], hv⟩ = .ok ⟨j, l ++ [x.set k ⟨v.toArray⟩], hv ++ ((nm k) ++ spc)⟩ ∧ At s j post ∧ a < j := by
  obtain ⟨b, t, hkey, hb1, hb2, hbb⟩ := key_head k hk
  have hlow := key_lower k hk
  have hidx := key_idx k hk
  have hpth := key_path k hk
  generalize hK : nm k = K at *
  have g1 := h.skip
  have g2 := g1.skip
  have g3 := g2.skip
  have g4 := g3.tail
  have g5 := g4.skip
  have g6 := g5.skip
  have s1 : spanEnd blank s a = a + b1.length := h.span h1 (by rw [hkey]; exact stops_cons hbb)
  have s2 : spanEnd lower s (a + b1.length) = a + b1.length + K.data.toList.length := g1.span hlow (stops_blanks h2 (fun _ => lower_blank) (stops_cons (by decide)))
  have s3 : spanEnd blank s (a + b1.length + K.data.toList.length) = a + b1.length + K.data.toList.length + b2.length := g2.span h2 (stops_cons blank61)
  have s4 : spanEnd blank s (a + b1.length + K.data.toList.length + b2.length + 1) = a + b1.length + K.data.toList.length + b2.length + 1 + b3.length := g4.span h3 (stops_cons blank34)
  obtain ⟨r1, r2⟩ := g6.rest h4 hr hn
  have hw : s.extract (a + b1.length) (a + b1.length + K.data.toList.length) = K := by rw [g1.extract, bs_data]
  have hby : byteAt s (a + b1.length) = b.toNat := by
    have : At s (a + b1.length) (b :: (t ++ (b2 ++ (61 :: (b3 ++ (R.quoteL v ++ (b4 ++ (r ++ (n ++ post)))))))) ) := by rw [hkey] at g1; exact g1
    exact this.byte
  have hpre : Lib.hasPrefix (s.data.toList.drop (a + b1.length + K.data.toList.length + b2.length)) eqs.data.toList = true := At.pre (l := [61]) g3
  have hu : unq (s.data.toList.drop (a + b1.length + K.data.toList.length + b2.length + 1 + b3.length)) = some (v, (R.quoteL v).length) := by rw [g5.2]; exact unq_quote v _ hvp
  refine ⟨_, line_of (st1 := ⟨a + b1.length + K.data.toList.length + b2.length + 1 + b3.length + (R.quoteL v).length, l ++ [x.set k ⟨v.toArray⟩], hv ++ (K ++ spc)⟩) s1 ?_ r1, r2, ?_⟩
  · rw [hby, if_neg (by omega), if_pos (by omega), fieldR_snoc]
    simp only [s2, s3, hw, hidx, hv0, hpre, s4]
    rw [if_neg (by omega), if_neg (by simp), if_pos trivial]
    unfold tailR
    simp only [hu, Int.toNat_natCast]
    rw [if_neg]
    rw [hpth]
    cases hq : (k == 0 || k == 4) with
    | false => simp
    | true => rw [hrt hq]; simp
  · have : 0 < (R.quoteL v).length := by simp [R.quoteL]
    omega
theorem line_head {s : ByteArray} {a : Nat} {l : List Lk} {hv : ByteArray} {b1 b2 r n post : List UInt8}
    (h : At s a (b1 ++ (lockWord.data.toList ++ (b2 ++ (r ++ (n ++ post)))))) (h1 : b1.all blank = true) (h2 : b2.all blank = true) (hr : Rem r) (hn : Nl n post) (he : endedE l = 0) (hl : l.length < 40) :
    ∃ j, lineR s ⟨a, l, hv⟩ = .ok ⟨j, l ++ [Lk.zero], ⟨#[]⟩⟩ ∧ At s j post ∧ a < j := by
  have g1 := h.skip
  have g2 := g1.skip
  have s1 : spanEnd blank s a = a + b1.length := h.span h1 (stops_cons blank91)
  obtain ⟨r1, r2⟩ := g2.rest h2 hr hn
  have hby : byteAt s (a + b1.length) = 91 := At.is (b := 91) g1 rfl
  refine ⟨_, line_of (st1 := ⟨a + b1.length + 8, l ++ [Lk.zero], ⟨#[]⟩⟩) s1 ?_ r1, r2, ?_⟩
  · rw [hby, if_pos rfl, beginR_eq, if_pos g1.pre, if_pos he, if_neg (by omega)]
  · have : lockWord.data.toList.length = 8 := rfl
    omega
end Go.Proofs.YtljfcdfdedkajaaDoor.Q
end
section
namespace Go.Proofs.YtljfcdfdedkajaaDoor.Q
open Go.RowKit Go.Proofs.YtljfcdfdedkajaaDoorW.PrintWords
def runs (s : ByteArray) : Nat → PSt → PSt → Prop
  | 0, st, st' => st = st'
  | n + 1, st, st' => ∃ st1, lineR s st = .ok st1 ∧ st.a < st1.a ∧ runs s n st1 st'
theorem runs_le {s : ByteArray} : ∀ {n : Nat} {st st' : PSt}, runs s n st st' → st.a + n ≤ st'.a
  | 0, _, _, h => by rw [show _ = _ from h]; omega
  | n + 1, st, st', ⟨st1, _, h2, h3⟩ => by have := runs_le h3; omega
theorem runs_add {s : ByteArray} : ∀ {n m : Nat} {st st1 st2 : PSt}, runs s n st st1 → runs s m st1 st2 → runs s (n + m) st st2
  | 0, m, st, st1, st2, h, k => by rw [show st = st1 from h, Nat.zero_add]; exact k
  | n + 1, m, st, st1, st2, ⟨x, h1, h2, h3⟩, k => by
    rw [Nat.add_right_comm]
    exact ⟨x, h1, h2, runs_add h3 k⟩
theorem runs_one {s : ByteArray} {st st' : PSt} (h : lineR s st = .ok st') (ha : st.a < st'.a) : runs s 1 st st' := ⟨st', h, ha, rfl⟩
theorem lines_runs {s : ByteArray} : ∀ (n m : Nat) (st st' : PSt), runs s (n + 1) st st' → st'.a = s.size → n + 1 ≤ m → linesR s m st = .ok st'
  | 0, m, st, st', h, ha, hm => by
    obtain ⟨m, rfl⟩ : ∃ q, m = q + 1 := ⟨m - 1, by omega⟩
    obtain ⟨st1, h1, h2, h3⟩ := h
    obtain rfl : st1 = st' := h3
    unfold linesR
    simp only [h1]
    rw [if_neg (by omega)]
  | n + 1, m, st, st', h, ha, hm => by
    obtain ⟨m, rfl⟩ : ∃ q, m = q + 1 := ⟨m - 1, by omega⟩
    obtain ⟨st1, h1, h2, h3⟩ := h
    have := runs_le h3
    unfold linesR
    simp only [h1]
    rw [if_pos (by omega)]
    exact lines_runs n m st1 st' h3 ha (by omega)
def st0 : PSt := ⟨0, [], ⟨#[]⟩⟩
theorem locks_empty : locksR ⟨#[]⟩ = ([], 0, 0) := by rfl
theorem locks_runs {s : ByteArray} {n : Nat} {st : PSt} (hs : s.size ≤ 8000) (h : runs s n st0 st) (ha : st.a = s.size) : locksR s = if endedE st.l = 0 then (st.l, 0, 0) else ([], s.size, endedE st.l) := by
  cases n with
  | zero =>
    obtain rfl : st0 = st := h
    have hz : s.size = 0 := ha.symm
    have : s = ⟨#[]⟩ := ext_bs (by rw [List.eq_nil_of_length_eq_zero (l := s.data.toList) (by rw [data_length]; exact hz)])
    subst this
    rw [locks_empty]
    rfl
  | succ n =>
    have hle := runs_le h
    have h0 : st0.a = 0 := rfl
    have hl := lines_runs n (s.size + 1) st0 st h ha (by omega)
    unfold locksR
    rw [if_neg (by omega)]
    show (match linesR s (s.size + 1) st0 with | .bad wh e => ([], wh, e) | .ok st => if endedE st.l = 0 then (st.l, 0, 0) else ([], s.size, endedE st.l)) = _
    rw [hl]
def hvOf (ks : List Nat) : ByteArray := ks.foldl (fun h k => h ++ (nm k ++ spc)) ⟨#[]⟩
def hvL (ks : List Nat) : List UInt8 := ks.flatMap fun k => (nm k).data.toList ++ [32]
theorem hv_fold (ks : List Nat) (h : ByteArray) : (ks.foldl (fun h k => h ++ (nm k ++ spc)) h).data.toList = h.data.toList ++ hvL ks := by
  induction ks generalizing h with
  | nil => simp [hvL]
  | cons k ks ih =>
    rw [List.foldl_cons, ih]
    simp [hvL, ByteArray.data_append, spc]
theorem hv_list (ks : List Nat) : (hvOf ks).data.toList = hvL ks := by
  unfold hvOf
  rw [hv_fold]
  rfl
theorem hv_snoc (ks : List Nat) (k : Nat) : hvOf ks ++ (nm k ++ spc) = hvOf (ks ++ [k]) := by
  unfold hvOf
  rw [List.foldl_append]
  rfl
def gen : Nat → List (List Nat)
  | 0 => [[]]
  | n + 1 => [] :: (List.range 5).flatMap fun k => ((gen n).filter fun l => !l.contains k).map (k :: ·)
theorem gen_mem : ∀ (n : Nat) (ks : List Nat), ks.length ≤ n → ks.Nodup → (∀ k ∈ ks, k < 5) → ks ∈ gen n
  | 0, ks, hl, _, _ => by
    have : ks = [] := List.eq_nil_of_length_eq_zero (by omega)
    subst this; simp [gen]
  | n + 1, [], _, _, _ => by simp [gen]
  | n + 1, k :: ks, hl, hn, hk => by
    have hn' := List.nodup_cons.1 hn
    simp only [gen, List.mem_cons, List.mem_flatMap, List.mem_map, List.mem_filter, List.mem_range]
    refine .inr ⟨k, hk k List.mem_cons_self, ks, ⟨gen_mem n ks (by simpa using hl) hn'.2 (fun j hj => hk j (List.mem_cons_of_mem _ hj)), ?_⟩, rfl⟩
    simpa using hn'.1
theorem gen_has : ∀ ks ∈ gen 5, ∀ k ∈ List.range 5, Lib.contains (hvL ks) ((nm k).data.toList ++ [32]) = ks.contains k := by decide +kernel
theorem nodup_len (ks : List Nat) (hn : ks.Nodup) (hk : ∀ k ∈ ks, k < 5) : ks.length ≤ 5 := by
  have := List.Nodup.length_le_of_subset hn (l₂ := List.range 5) (fun k h => List.mem_range.2 (hk k h))
  simpa using this
theorem hv_has (ks : List Nat) (k : Nat) (hn : ks.Nodup) (hks : ∀ k ∈ ks, k < 5) (hk : k < 5) : Lib.contains (hvOf ks).data.toList (nm k ++ spc).data.toList = ks.contains k := by
  have h := gen_has ks (gen_mem 5 ks (nodup_len ks hn hks) hn hks) k (List.mem_range.2 hk)
  rw [hv_list]
  rw [← h]
  simp [ByteArray.data_append, spc]
structure It where
  kind : Nat
  k : Nat
  v : List UInt8
  b1 : List UInt8
  b2 : List UInt8
  b3 : List UInt8
  b4 : List UInt8
  r : List UInt8
structure Kn where
  l : List Lk
  ks : List Nat
def It.ok (i : It) (q : Kn) : Prop :=
  i.b1.all blank = true ∧ i.b2.all blank = true ∧ i.b3.all blank = true ∧ i.b4.all blank = true ∧ Rem i.r ∧
  (i.kind = 1 → endedE q.l = 0 ∧ q.l.length < 40) ∧
  (2 ≤ i.kind → q.l ≠ [] ∧ i.k < 5 ∧ i.k ∉ q.ks ∧ i.v.all plainB = true ∧ ((i.k == 0 || i.k == 4) = true → rightL i.v = true))
def Kn.good (q : Kn) : Prop := q.ks.Nodup ∧ ∀ k ∈ q.ks, k < 5
end Go.Proofs.YtljfcdfdedkajaaDoor.Q
end
section
namespace Go.Proofs.YtljfcdfdedkajaaDoor.Q
open Go.RowKit Go.Proofs.YtljfcdfdedkajaaDoorW.PrintWords
def Lk.get (x : Lk) (k : Nat) : ByteArray :=
  match k with
  | 0 => x.root
  | 1 => x.version
  | 2 => x.rev
  | 3 => x.within
  | _ => x.source
theorem toList_data (b : ByteArray) : b.toList = b.data.toList := Lib.toList_data b
def It.deco (i : It) : Prop := i.b1.all blank = true ∧ i.b2.all blank = true ∧ i.b3.all blank = true ∧ i.b4.all blank = true ∧ Rem i.r
def keysOf (fs : List It) : List Nat := (fs.filter fun i => 2 ≤ i.kind).map (·.k)
structure Body (x : Lk) (fs : List It) : Prop where
  deco : ∀ i ∈ fs, i.deco
  kinds : ∀ i ∈ fs, i.kind ≠ 1
  key : ∀ i ∈ fs, 2 ≤ i.kind → i.k < 5 ∧ i.v = (x.get i.k).data.toList ∧ ((i.k == 0 || i.k == 4) = true → i.v ≠ [])
  once : (keysOf fs).Nodup
  all : ∀ k, k < 5 → (x.get k).data.toList ≠ [] → k ∈ keysOf fs
structure Block where
  x : Lk
  h : It
  fs : List It
def Block.ok (b : Block) : Prop := b.h.kind = 1 ∧ b.h.deco ∧ Body b.x b.fs
end Go.Proofs.YtljfcdfdedkajaaDoor.Q
end
