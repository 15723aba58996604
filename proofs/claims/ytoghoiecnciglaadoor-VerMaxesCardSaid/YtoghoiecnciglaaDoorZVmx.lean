import Derived.Test.YtoghoiecnciglaaDoorZVn
import Derived.Test.YtoghoiecnciglaaDoorZVk
import Derived.StillTailTactics
namespace Go.Proofs.YtoghoiecnciglaaDoor.Q
open Go.RowKit Go.Proofs.YtoghoiecnciglaaDoorW.PrintWords Go.Proofs.YtoghoiecnciglaaDoorW.PrintLast Go.Proofs.YtoghoiecnciglaaDoorW.PrintMore
theorem eqVer (d : Nat) (w : World) (x0 y0 : Int) (x1 y1 : Int) (x2 y2 : Int) (x3 y3 : ByteArray) :
    (Op.equalIn (d + 2) 26 (.agg #[.int .i64 x0, .int .i64 x1, .int .i64 x2, .string x3]) (.agg #[.int .i64 y0, .int .i64 y1, .int .i64 y2, .string y3])).run Tryd.prog w = .ok (x0 == y0 && (x1 == y1 && (x2 == y2 && (x3.toList == y3.toList)))) w := by
  refine eqA_of Tryd.underlying26 (by kernel_rfl) ?_
  refine eqf_cons (by rfl) (by go_simp; rfl) (by go_simp; rfl) (by go_simp) ?_
  refine eqf_cons (by rfl) (by go_simp; rfl) (by go_simp; rfl) (by go_simp) ?_
  refine eqf_cons (by rfl) (by go_simp; rfl) (by go_simp; rfl) (by go_simp) ?_
  exact eqf_last (by rfl) (by go_simp; rfl) (by go_simp; rfl) (by go_simp)
attribute [local go_sem high] eqVer
theorem ev_at {α : Type} {g : Nat → Option α} {r : α} (h : Ev g r) : ∃ k, g k = some r := by
  obtain ⟨K, h⟩ := h
  exact ⟨K, h K (Nat.le_refl _)⟩
theorem made_calls (n m : Int) : ∃ v : Vr, Made v ∧ ∀ w, Calls Tryd.prog 5 #[.int .i64 n, .int .i64 m] w fun e w' => e = .returned (.agg #[.int .i64 v.a, .int .i64 v.b, .int .i64 v.c, .string (bs v.p)]) ∧ Below w.heap.size w w' := by
  obtain ⟨v, e, h⟩ := make_ev n m
  obtain ⟨k, hk⟩ := ev_at e
  exact ⟨v, h, fun w => transhumancelaw2_Make.calls k n m _ _ _ _ w hk⟩
theorem infoV : (Tryd.prog.info? 26).map (fun i => (i.zero, i.size, i.bytes)) = some (some (.agg #[.int .i64 0, .int .i64 0, .int .i64 0, .string ⟨#[]⟩]), 4, 40) := by kernel_rfl
def Vr.cells (x : Vr) : List Value := [.int .i64 x.a, .int .i64 x.b, .int .i64 x.c, .string (bs x.p)]
def vrCells (l : List Vr) : List Value := l.flatMap Vr.cells
theorem vrCells_length (l : List Vr) : (vrCells l).length = l.length * 4 := by
  induction l with
  | nil => rfl
  | cons x l ih => simp only [vrCells, List.flatMap_cons, List.length_append, List.length_cons] at ih ⊢; rw [ih]; simp only [Vr.cells, List.length_cons, List.length_nil]; omega
theorem vrCells_append (l m : List Vr) : vrCells (l ++ m) = vrCells l ++ vrCells m := by simp [vrCells]
theorem vrCells_get (l : List Vr) (j k : Nat) (hj : j < l.length) (hk : k < 4) : (vrCells l)[j * 4 + k]? = (l[j].cells)[k]? := by
  induction l generalizing j with
  | nil => simp at hj
  | cons x l ih =>
    have e : vrCells (x :: l) = x.cells ++ vrCells l := by simp [vrCells]
    have hx : x.cells.length = 4 := rfl
    rw [e]
    cases j with
    | zero =>
      rw [List.getElem?_append_left (by omega)]
      simp
    | succ j =>
      rw [List.getElem?_append_right (by omega), hx]
      have : (j + 1) * 4 + k - 4 = j * 4 + k := by omega
      rw [this, ih j (by simpa using hj)]
      simp
theorem vrCells_one (l : List Vr) : ∀ u ∈ vrCells l, u.oneCell' = true := by
  intro u hu
  obtain ⟨x, _, hx⟩ := List.mem_flatMap.1 hu
  simp only [Vr.cells, List.mem_cons, List.not_mem_nil, or_false] at hx
  rcases hx with rfl | rfl | rfl | rfl <;> rfl
def VOwn (w : World) (base : Nat) (v : Value) (l : List Vr) : Prop := w.ownsRow base 26 4 v l.length (vrCells l)
theorem VOwn.nil (w : World) (base : Nat) : VOwn w base (.slice none 0 0) [] := own_nil w base _ 4
theorem VOwn.snoc {w : World} {base : Nat} {v : Value} {l : List Vr} {x : Vr} (h : w.ownsRow base 26 4 v (l.length + 1) (vrCells l ++ x.cells)) : VOwn w base v (l ++ [x]) := by
  unfold VOwn
  rw [List.length_append, vrCells_append]
  simpa [vrCells] using h
theorem VOwn.part {w : World} {base c : Nat} {A : Option Addr} {l : List Vr} (h : VOwn w base (.slice A l.length c) l) (k n : Nat) (hk : k + n ≤ l.length) : VrsAt w (A.map (·.add (k * 4))) ((l.drop k).take n) := by
  obtain ⟨_, h2⟩ := h
  intro j hj
  rw [List.length_take, List.length_drop] at hj
  rcases h2 with ⟨_, h2⟩ | ⟨q, cap, cs, he, hb, hh, hle, hcap, hs, ht⟩
  · omega
  · injection he with hA _ _
    subst hA
    have hcell : ∀ i k', i < l.length → (hi : i < l.length) → k' < 4 → w.cell? ⟨q, i * 4 + k', none⟩ = (l[i].cells)[k']? := by
      intro i k' _ hi hk'
      have e := vrCells_get l i k' hi hk'
      rw [← ht, List.getElem?_take, if_pos (by omega), Array.getElem?_toList] at e
      simp only [World.cell?, hh]
      exact e
    have hg : ((l.drop k).take n)[j]'(by rw [List.length_take, List.length_drop]; exact hj) = l[k + j]'(by omega) := by
      rw [List.getElem_take, List.getElem_drop]
    have ea : ((⟨q, 0, none⟩ : Addr).add (k * 4)).add (j * 4) = ⟨q, (k + j) * 4, none⟩ := by
      simp only [Addr.add]
      repeat' split
      all_goals simp_all
      all_goals omega
    refine ⟨(⟨q, 0, none⟩ : Addr).add (k * 4), rfl, ?_⟩
    rw [hg, ea]
    exact ⟨hcell (k + j) 0 (by omega) (by omega) (by omega), hcell (k + j) 1 (by omega) (by omega) (by omega), hcell (k + j) 2 (by omega) (by omega) (by omega), hcell (k + j) 3 (by omega) (by omega) (by omega)⟩
theorem vrsAt_nil (w : World) (A : Option Addr) : VrsAt w A [] := fun j hj => by simp at hj
theorem addr_zero (a : Addr) : a.add 0 = a := by
  unfold Addr.add
  split <;> simp_all
theorem VOwn.all {w : World} {base c : Nat} {A : Option Addr} {l : List Vr} (h : VOwn w base (.slice A l.length c) l) : VrsAt w A l := by
  have := h.part 0 l.length (by omega)
  rw [List.drop_zero, List.take_length] at this
  have e : A.map (·.add (0 * 4)) = A := by
    cases A with
    | none => rfl
    | some a => simp only [Option.map_some, Nat.zero_mul, addr_zero]
  rwa [e] at this
theorem VOwn.to {w : World} {base c : Nat} {A : Option Addr} {l : List Vr} (h : VOwn w base (.slice A l.length c) l) (k : Nat) (hk : k ≤ l.length) : VrsAt w A (l.take k) := by
  have := h.part 0 k (by omega)
  rw [List.drop_zero] at this
  have e : A.map (·.add (0 * 4)) = A := by
    cases A with
    | none => rfl
    | some a => simp only [Option.map_some, Nat.zero_mul, addr_zero]
  rwa [e] at this
theorem VOwn.from {w : World} {base c : Nat} {A : Option Addr} {l : List Vr} (h : VOwn w base (.slice A l.length c) l) (k : Nat) (hk : k ≤ l.length) (hc : l.length ≤ c) : VrsAt w (if c = k then A else A.map (·.add (k * 4))) (l.drop k) := by
  have := h.part k (l.length - k) (by omega)
  rw [List.take_of_length_le (by rw [List.length_drop]; omega)] at this
  split
  · rw [List.drop_eq_nil_of_le (by omega)]
    exact vrsAt_nil _ _
  · exact this
theorem VOwn.capLe {w : World} {base n c : Nat} {A : Option Addr} {l : List Vr} (h : VOwn w base (.slice A n c) l) : n = l.length ∧ l.length ≤ c := by
  obtain ⟨_, h2⟩ := h
  rcases h2 with ⟨he, h2⟩ | ⟨q, cap, cs, he, hb, hh, hle, hcap, hs, ht⟩
  · injection he with h1 h3 h4
    omega
  · injection he with h1 h3 h4
    omega
theorem VOwn.below {w w' : World} {base : Nat} {v : Value} {l : List Vr} (h : VOwn w base v l) (hb : Below w.heap.size w w') : VOwn w' base v l := pw_own_below h hb
theorem VOwn.slice {w : World} {base : Nat} {v : Value} {l : List Vr} (h : VOwn w base v l) : ∃ A c, v = .slice A l.length c := own_slice h
theorem vrCells_drop (l : List Vr) (k : Nat) : vrCells (l.drop k) = (vrCells l).drop (k * 4) := by
  induction k generalizing l with
  | zero => simp
  | succ k ih =>
    cases l with
    | nil => simp [vrCells]
    | cons x l =>
      have hx : x.cells.length = 4 := rfl
      rw [List.drop_succ_cons, ih, show vrCells (x :: l) = x.cells ++ vrCells l from by simp [vrCells], show (k + 1) * 4 = x.cells.length + k * 4 from by rw [hx]; omega, ← List.drop_drop, List.drop_left]
theorem vrCells_take (l : List Vr) (k : Nat) : vrCells (l.take k) = (vrCells l).take (k * 4) := by
  induction k generalizing l with
  | zero => simp [vrCells]
  | succ k ih =>
    cases l with
    | nil => simp [vrCells]
    | cons x l =>
      have hx : x.cells.length = 4 := rfl
      rw [List.take_succ_cons, show vrCells (x :: l.take k) = x.cells ++ vrCells (l.take k) from by simp [vrCells], ih, show vrCells (x :: l) = x.cells ++ vrCells l from by simp [vrCells], show (k + 1) * 4 = x.cells.length + k * 4 from by rw [hx]; omega, List.take_length_add_append]
theorem VOwn.cellAt {w : World} {base c q : Nat} {l : List Vr} (h : VOwn w base (.slice (some ⟨q, 0, none⟩) l.length c) l) (j : Nat) (u : Value) (hj : (vrCells l)[j]? = some u) : w.cell? ⟨q, j, none⟩ = some u := by
  have hlt : j < l.length * 4 := by
    rw [← vrCells_length]
    exact (List.getElem?_eq_some_iff.1 hj).1
  rw [World.ownsRow.cellAt h j hlt, hj]
theorem add0 (q j : Nat) : (⟨q, 0, none⟩ : Addr).add j = ⟨q, j, none⟩ := by
  simp only [Addr.add]
  split <;> simp_all
theorem addk (q k j : Nat) : ((⟨q, 0, none⟩ : Addr).add k).add j = ⟨q, k + j, none⟩ := by
  rw [add0]
  simp only [Addr.add]
  split <;> simp_all
theorem VOwn.newsTo {w : World} {base c q : Nat} {l : List Vr} (h : VOwn w base (.slice (some ⟨q, 0, none⟩) l.length c) l) (k : Nat) : ∀ j u, (vrCells (l.take k))[j]? = some u → w.cell? ((⟨q, 0, none⟩ : Addr).add j) = some u := by
  intro j u hj
  rw [add0]
  refine h.cellAt j u ?_
  rw [vrCells_take, List.getElem?_take] at hj
  split at hj
  · exact hj
  · cases hj
theorem VOwn.newsFrom {w : World} {base c q : Nat} {l : List Vr} (h : VOwn w base (.slice (some ⟨q, 0, none⟩) l.length c) l) (k : Nat) (hk : k ≤ l.length) : ∀ j u, (vrCells (l.drop k))[j]? = some u → w.cell? ((if c = k then (⟨q, 0, none⟩ : Addr) else (⟨q, 0, none⟩ : Addr).add (k * 4)).add j) = some u := by
  intro j u hj
  have hc := h.capLe.2
  by_cases hck : c = k
  · have hz : (vrCells l).length ≤ k * 4 := by rw [vrCells_length]; omega
    rw [vrCells_drop, List.drop_eq_nil_of_le hz] at hj
    simp at hj
  · rw [if_neg hck, addk]
    refine h.cellAt _ u ?_
    rw [vrCells_drop, List.getElem?_drop] at hj
    exact hj
theorem step_append_at {P : Program} {w : World} {ops : Array Oper} {o : Oper} {a : Act} {K : Act → World → Prop} {Q : Exit → Act → World → Prop} {E : Prop} (hgd : o.guard = none) (s x : Operand) (t : TypeId)
    (ho : o.op = .call { callee := .builtin .append, args := #[s, x], argTypes := #[t, t] })
    (base : Nat) (e : TypeId) (i : TypeInfo) (z : Value) (size bytes : Nat) (ht : P.underlying t = some (.slice e)) (hi : P.info? e = some i) (hz : i.zero = some z)
    (hsize : i.size = size) (hby : i.bytes = bytes) (hzs : z.cells.size = size) (hsz : 0 < size)
    (v : Value) (n : Nat) (xs : List Value) (hs : a.eval s = v) (hown : w.ownsRow base e size v n xs)
    (ad : Addr) (m c : Nat) (news : List Value) (hx : a.eval x = .slice (some ad) m c) (hl : news.length = m * size) (hnews : ∀ j u, news[j]? = some u → w.cell? (ad.add j) = some u) (h1 : ∀ u ∈ news, u.oneCell' = true)
    (h63 : n + m ≤ maxLen) (hbytes : (n + m) * bytes ≤ 140737488355328) (hbase : base ≤ w.heap.size)
    (h : ∀ v' w', w'.ownsRow base e size v' (n + m) (xs ++ news) → w.grownBy w' v.ownBlock → (v'.ownBlock = v.ownBlock ∨ v'.ownBlock = some w.heap.size) → K (a.put o.dst v') w') :
    if Region.wanted o (yielded ops a.tmps) = true then Oper.wp P o a w K Q else E := by
  have hw : Region.wanted o (yielded ops a.tmps) = true := by simp [Region.wanted, hgd]
  rw [if_pos hw]
  obtain ⟨v', w', hrun, h2, h3, _, h5⟩ := run_append_own_at (P := P) (w := w) base t o.type e i z size bytes ht hi hz hsize hby hzs hsz v n xs hown ad m c news hl hnews h1 h63 hbytes hbase
  have hk := h v' w' h2 h3 h5
  unfold Oper.wp
  simp [execOp, ho, resolve, invoke, builtin, hs, hx, hrun, Result.andThen]
  exact hk
theorem maxV_made {l : List Vr} (h : l ≠ []) (hm : ∀ x ∈ l, Made x) : Made (maxV l) := hm _ (maxV_ok h).1
theorem vmax_calls (W : World) (A : Option Addr) (n c : Nat) (l : List Vr) (hn : l.length = n) (hl : n ≤ 100) (hv : VrsAt W A l) (hm : ∀ x ∈ l, Made x) (hG : GL W) :
    Calls Tryd.prog 7 #[.slice A n c] W fun e w' => e = .returned (.agg #[.int .i64 (maxV l).a, .int .i64 (maxV l).b, .int .i64 (maxV l).c, .string (bs (maxV l).p)]) ∧ Below W.heap.size W w' := by
  subst hn
  exact max_calls W A c l hv (by omega) (fun x hx => by have := (hm x hx).len; omega) hG
theorem maxV_turned (l : List Vr) (k : Nat) (h : l ≠ []) : maxV (l.drop k ++ l.take k) = maxV l := maxV_same h (fun x => by
  constructor
  · intro hx
    rw [← List.take_append_drop k l] at hx
    rw [List.mem_append] at hx ⊢
    exact hx.symm
  · intro hx
    rw [← List.take_append_drop k l]
    rw [List.mem_append] at hx ⊢
    exact hx.symm)
theorem keepA {w W : World} (h : Below w.heap.size w W) (o : Obj) : Below w.heap.size w (W.alloc o) := h.alloc h.size o
theorem made_at (W : World) (base b : Nat) (hb : W.heap.size = b) (hB : base ≤ b) : (W.alloc (.cells #[] 26)).ownsRow base 26 4 (.slice (some ⟨b, 0, none⟩) 0 0) 0 [] := by
  subst hb
  exact own_weaken (World.ownsRow_made W #[] 0 (Nat.le_refl _) (Nat.zero_le _) rfl) hB
theorem blk_grown2 {W W' : World} {b : Nat} {t : TypeId} {cs : Array Value} {row : Option Nat} (h : Blk W b t cs) (hg : W.grownBy W' row) (hr : some b ≠ row) : Blk W' b t cs := (hg.block b h.lt hr).trans h
theorem own_ne_new {W : World} {base n size : Nat} {v : Value} {t : TypeId} {xs : List Value} (ho : W.ownsRow base t size v n xs) : some W.heap.size ≠ v.ownBlock := by
  intro h
  obtain ⟨cells, hc⟩ := own_typed ho W.heap.size h.symm
  have := (Array.getElem?_eq_some_iff.1 hc).1
  omega
theorem vown_turned {w : World} {base k : Nat} {v : Value} {l M : List Vr} (hM : M = l.drop k ++ l.take k) (hk : k ≤ l.length) (h : w.ownsRow base 26 4 v (0 + (l.length - k) + k) ([] ++ vrCells (l.drop k) ++ vrCells (l.take k))) : VOwn w base v M := by
  subst hM
  unfold VOwn
  rw [vrCells_append, List.length_append, List.length_drop, List.length_take, Nat.min_eq_left hk]
  rw [Nat.zero_add, List.nil_append] at h
  exact h
theorem keepM {wc W W' : World} {V P : Nat} {a b c' d e f g h : Value} (hs : W.cell? ⟨V, 0, none⟩ = some a ∧ W.cell? ⟨V, 1, none⟩ = some b ∧ W.cell? ⟨V, 2, none⟩ = some c' ∧ W.cell? ⟨V, 3, none⟩ = some d ∧ W.cell? ⟨P, 0, none⟩ = some e ∧ W.cell? ⟨P, 1, none⟩ = some f ∧ W.cell? ⟨P, 2, none⟩ = some g ∧ W.cell? ⟨P, 3, none⟩ = some h ∧ Below wc.heap.size wc W) (hb : Below W.heap.size W W') : W'.cell? ⟨V, 0, none⟩ = some a ∧ W'.cell? ⟨V, 1, none⟩ = some b ∧ W'.cell? ⟨V, 2, none⟩ = some c' ∧ W'.cell? ⟨V, 3, none⟩ = some d ∧ W'.cell? ⟨P, 0, none⟩ = some e ∧ W'.cell? ⟨P, 1, none⟩ = some f ∧ W'.cell? ⟨P, 2, none⟩ = some g ∧ W'.cell? ⟨P, 3, none⟩ = some h ∧ Below wc.heap.size wc W' := by
  obtain ⟨h0, h1, h2, h3, h4, h5, h6, h7, h8⟩ := hs
  exact ⟨pw_cell_below hb h0, pw_cell_below hb h1, pw_cell_below hb h2, pw_cell_below hb h3, pw_cell_below hb h4, pw_cell_below hb h5, pw_cell_below hb h6, pw_cell_below hb h7, below_then h8 h8.size hb⟩
theorem keepMB {wc W : World} {V P : Nat} {a b c' d e f g h : Value} (hs : W.cell? ⟨V, 0, none⟩ = some a ∧ W.cell? ⟨V, 1, none⟩ = some b ∧ W.cell? ⟨V, 2, none⟩ = some c' ∧ W.cell? ⟨V, 3, none⟩ = some d ∧ W.cell? ⟨P, 0, none⟩ = some e ∧ W.cell? ⟨P, 1, none⟩ = some f ∧ W.cell? ⟨P, 2, none⟩ = some g ∧ W.cell? ⟨P, 3, none⟩ = some h ∧ Below wc.heap.size wc W) : Below wc.heap.size wc W := hs.2.2.2.2.2.2.2.2
theorem vrOne (x : Vr) : ∀ u ∈ x.cells, u.oneCell' = true := by
  intro u hu
  simp only [Vr.cells, List.mem_cons, List.not_mem_nil, or_false] at hu
  rcases hu with rfl | rfl | rfl | rfl <;> rfl
theorem grown_below {w0 w w1 : World} {v : Value} {l : List Vr} (hb : Below w0.heap.size w0 w) (ho : VOwn w w0.heap.size v l) (hg : w.grownBy w1 v.ownBlock) : Below w0.heap.size w0 w1 :=
  hb.grown hg hb.size (own_base ho)
section
variable (w : World)
set_option maxHeartbeats 1600000 in
set_option maxRecDepth 100000 in
theorem maxes_calls (A0 : Option Addr) (c0 : Nat) (l0 : List Int) (A1 : Option Addr) (c1 : Nat) (l1 : List Int) (turn : Int) (hr0 : Kd.C (Kd.int .i64) w A0 l0.length l0) (hr1 : Kd.C (Kd.int .i64) w A1 l1.length l1) (hG : GL w) :
    Calls Tryd.prog 3 #[.slice A0 l0.length c0, .slice A1 l1.length c1, .int .i64 turn] w fun e w' => e = .returned (.bool true) ∧ Below w.heap.size w w' := by
  have HG := Lib.hid hG
  have HR0 := Lib.hid hr0
  have HR1 := Lib.hid hr1
  clear hG hr0 hr1
  go_enter Tryd.func3, Tryd.ntmps3
  go_upto_block 0 with ((go_at_call 4; refine (known_calls _ HG.out).mono ?_; rintro e w1 ⟨rfl, hb1⟩))
  have HB1 := Lib.hid hb1
  clear hb1
  go_cut [7] (fun v wc => ∃ l : List Vr, l.length ≤ 12 ∧ Hid (∀ x ∈ l, Made x) ∧ Hid (VOwn wc w.heap.size v l) ∧ Hid (Below w.heap.size w wc))
  case first =>
    go_wp2_with (fail)
    go_loopg [7, 8] (12) (fun q v i wr => ∃ (l : List Vr), q = 12 - l.length ∧ l.length ≤ 12 ∧ i = .int .i64 (l.length : Int) ∧ (∀ x ∈ l, Made x) ∧ VOwn wr w.heap.size v l ∧ Below w.heap.size w wr)
    case atStart => exact ⟨[], rfl, by simp, rfl, by simp, VOwn.nil _ _, HB1.out⟩
    case round =>
      obtain ⟨l, rfl, hl, rfl, hm, ho, hb⟩ := hrel
      obtain ⟨A, c, rfl⟩ := ho.slice
      have HM := Lib.hid hm
      have HO := Lib.hid ho
      have HB := Lib.hid hb
      clear hm ho hb
      by_cases h0 : l.length < l0.length
      · have d0 : decide (l.length < l0.length) = true := decide_eq_true h0
        have d0i : decide ((l.length : Int) < (l0.length : Int)) = true := decide_eq_true (by omega)
        by_cases h1 : l.length < l1.length
        · have d1 : decide (l.length < l1.length) = true := decide_eq_true h1
          have d1i : decide ((l.length : Int) < (l1.length : Int)) = true := decide_eq_true (by omega)
          by_cases h2 : l.length < 12
          · have d2 : decide (l.length < 12) = true := decide_eq_true h2
            have d2i : decide ((l.length : Int) < 12) = true := decide_eq_true (by omega)
            obtain ⟨a0, rfl, k0⟩ := Kd.at_int HR0.out (l.length : Int) (by omega) (by omega)
            obtain ⟨a1, rfl, k1⟩ := Kd.at_int HR1.out (l.length : Int) (by omega) (by omega)
            have m0 := pw_cell_below HB.out k0
            have m1 := pw_cell_below HB.out k1
            have i0 : (0 : Int) ≤ (l.length : Int) ∧ (l.length : Int) < (l0.length : Int) ∧ (l.length : Int) < (l1.length : Int) := ⟨by omega, by omega, by omega⟩
            obtain ⟨x, hx, hmk⟩ := made_calls (rd l0 (l.length : Int)) (rd l1 (l.length : Int))
            have HX := Lib.hid hx
            have HMK := Lib.hid hmk
            have K0 := Lib.hid k0
            have K1 := Lib.hid k1
            clear hx hmk k0 k1
            generalize rd l0 (l.length : Int) = r0 at *
            generalize rd l1 (l.length : Int) = r1 at *
            simp only [Int.toNat_natCast] at m0 m1 K0 K1
            obtain ⟨ti, hti, hz0, hz1, hz2⟩ := info_parts infoV
            go_wp2_with (fail)
            go_region_held3 (fun w' => w'.cell? (a0.add l.length) = some (.int .i64 r0) ∧ w'.cell? (a1.add l.length) = some (.int .i64 r1))
              (first | exact ⟨pw_cell_below HBY.out K0.out, pw_cell_below HBY.out K1.out⟩ | exact ⟨pw_cell_below HBP.out K0.out, pw_cell_below HBP.out K1.out⟩ | exact ⟨pw_cell_below hbk (by assumption), pw_cell_below hbk (by assumption)⟩ | exact ⟨m0, m1⟩)
              (first | ((go_at_call 5; ((with_reducible refine (HMK.out _).mono ?_)); rintro e wp ⟨rfl, hbk⟩; have HOP := Lib.hid (((show VOwn wr.drew w.heap.size (.slice A l.length c) l from HO.out).below hbk).below ((Below.refl _ _).alloc (Nat.le_refl _) (.cells #[.int .i64 x.a, .int .i64 x.b, .int .i64 x.c, .string (bs x.p)] 26))); have hbx := below_then (below_drew HB.out) HB.out.size hbk; have HBP := Lib.hid (hbx.alloc hbx.size (.cells #[.int .i64 x.a, .int .i64 x.b, .int .i64 x.c, .string (bs x.p)] 26)); have HSZ := Lib.hid hbx.size; clear hbx)) | ((refine step_append_lies _ (by rfl) (.tmp 30) (.tmp 40) 24 (by rfl) w.heap.size 26 ti _ 4 40 Tryd.underlying24 hti hz0 hz1 hz2 rfl (by decide) (.slice A l.length c) l.length (vrCells l) (by rfl) HOP.out ⟨wp.heap.size, 0, none⟩ 1 1 x.cells (by rfl) (by rfl) (World.news_of_block (heap_alloc_new wp _)) (vrOne x) (by decide) (by unfold maxLen; omega) (by omega) HBP.out.size (wp.heap.size + 1) (by simp) ?_; intro g cap w1 hown1 hgrow hat hlt; have HON := Lib.hid (VOwn.snoc hown1); have HBY := Lib.hid (grown_below HBP.out HOP.out hgrow))))
            go_wp2_with (fail)
            go_roundg (12 - (l.length + 1))
            case measure => omega
            case rel => exact ⟨l ++ [x], by simp, by simp; omega, by simp, by
              intro y hy
              rcases List.mem_append.1 hy with hy | hy
              · exact HM.out y hy
              · rw [List.mem_singleton.1 hy]; exact HX.out, HON.out, HBY.out⟩
          · have d2 : decide (l.length < 12) = false := decide_eq_false h2
            have d2i : decide ((l.length : Int) < 12) = false := decide_eq_false (by omega)
            go_wp2_with (fail)
            go_meet
            exact ⟨l, hl, HM, HO, HB⟩
        · have d1 : decide (l.length < l1.length) = false := decide_eq_false h1
          have d1i : decide ((l.length : Int) < (l1.length : Int)) = false := decide_eq_false (by omega)
          go_wp2_with (fail)
          go_meet
          exact ⟨l, hl, HM, HO, HB⟩
      · have d0 : decide (l.length < l0.length) = false := decide_eq_false h0
        have d0i : decide ((l.length : Int) < (l0.length : Int)) = false := decide_eq_false (by omega)
        go_wp2_with (fail)
        go_meet
        exact ⟨l, hl, HM, HO, HB⟩
  case rest =>
    obtain ⟨l, hl, HM, HO, HB⟩ := hcut
    obtain ⟨A, c, rfl⟩ := HO.out.slice
    obtain ⟨k0, k1⟩ := win_bd turn ((l.length : Int) + 1) (by omega)
    have HW1 := Lib.hid (fun W => transhumancelaw2_within.calls turn ((l.length : Int) + 1) _ W (within_f turn ((l.length : Int) + 1) (by omega) (by omega)))
    generalize win turn ((l.length : Int) + 1) = kk at *
    obtain ⟨k, rfl⟩ : ∃ k : Nat, kk = k := ⟨kk.toNat, by omega⟩
    have hk : k ≤ l.length := by omega
    have i9 : IntKind.i64.wrap ((l.length : Int) + 1) = (l.length : Int) + 1 := IntWalk.i64_in _ ⟨by omega, by omega⟩
    have HMX := Lib.hid (fun W (hW : GL W) (ho : VOwn W w.heap.size (.slice A l.length c) l) => vmax_calls W A l.length c l rfl (by omega) ho.all HM.out hW)
    go_wp2_with (fail)
    refine (HW1.out _).mono ?_
    rintro e w2 ⟨rfl, n2, rfl⟩
    have HO2 : Hid (VOwn (wc.drewN n2) w.heap.size (.slice A l.length c) l) := Lib.hid HO.out
    have HB2 := Lib.hid (below_dr HB.out n2)
    clear HO HB
    generalize wc.drewN n2 = w2 at *
    go_wp2_with (fail)
    refine (HMX.out _ (HG.out.below0 HB2.out) HO2.out).mono ?_
    rintro e w3 ⟨rfl, hb3⟩
    have HO3 := Lib.hid (HO2.out.below hb3)
    have HB3 := Lib.hid (below_then HB2.out HB2.out.size hb3)
    clear hb3 HO2 HB2 HMX HW1 i9
    by_cases hz : l = []
    · subst hz
      have e0 : maxV [] = zeroVr := rfl
      rw [e0]
      unfold zeroVr
      have hb4 := HB3.out.alloc HB3.out.size (.cells #[.int .i64 0, .int .i64 0, .int .i64 0, .string (bs [])] 26)
      have HB4 := Lib.hid hb4
      clear hb4
      go_wp2_with (fail)
      go_ret
      exact ⟨by show Ending.returned (.bool (bs []).toList.isEmpty) = _; rw [toList_bs]; rfl, HB4.out⟩
    · have hl0 : l.length ≠ 0 := fun h => hz (List.eq_nil_of_length_eq_zero h)
      have n1 : ((l.length : Int) == 0) = false := by simp only [beq_eq_false_iff_ne, ne_eq]; omega
      have n1n : (l.length == 0) = false := by simpa using hl0
      have hmm := maxV_made hz HM.out
      have hcl := HO3.out.capLe.2
      obtain ⟨q, rfl⟩ : ∃ q, A = some ⟨q, 0, none⟩ := by
        obtain ⟨_, h2⟩ := HO3.out
        rcases h2 with ⟨he, h2⟩ | ⟨q, cap, cs, he, _⟩
        · exact absurd h2 hl0
        · injection he with h1 h3 h4
          exact ⟨q, h1⟩
      have HMM := Lib.hid hmm
      have HTU := Lib.hid (maxV_turned l k hz)
      have HO4 := Lib.hid (HO3.out.below ((Below.refl _ w3).alloc (Nat.le_refl _) (.cells #[.int .i64 (maxV l).a, .int .i64 (maxV l).b, .int .i64 (maxV l).c, .string (bs (maxV l).p)] 26)))
      have HV4 := Lib.hid (Blk.new w3 26 #[.int .i64 (maxV l).a, .int .i64 (maxV l).b, .int .i64 (maxV l).c, .string (bs (maxV l).p)])
      have HB4 := Lib.hid (HB3.out.alloc HB3.out.size (.cells #[.int .i64 (maxV l).a, .int .i64 (maxV l).b, .int .i64 (maxV l).c, .string (bs (maxV l).p)] 26))
      clear hmm HO3 HB3
      go_upto_region 12 with (fail)
      generalize w3.alloc (.cells #[.int .i64 (maxV l).a, .int .i64 (maxV l).b, .int .i64 (maxV l).c, .string (bs (maxV l).p)] 26) = w4 at *
      generalize w3.heap.size = V at *
      obtain ⟨ti, hti, hz0, hz1, hz2⟩ := info_parts infoV
      have hcf := cut_from (P := Tryd.prog) 24 26 .i64 Tryd.underlying24 hti 4 hz1 (some ⟨q, 0, none⟩) l.length c (k : Int) (by omega) (by omega)
      have hct := cut_to (P := Tryd.prog) 24 26 .i64 Tryd.underlying24 hti (some ⟨q, 0, none⟩) l.length c (k : Int) (by omega) (by omega) hcl
      have hNF := HO4.out.newsFrom k hk
      simp only [Int.toNat_natCast, Option.map_some] at hcf hct
      have eIf : (if c = k then some (⟨q, 0, none⟩ : Addr) else some ((⟨q, 0, none⟩ : Addr).add (k * 4))) = some (if c = k then (⟨q, 0, none⟩ : Addr) else (⟨q, 0, none⟩ : Addr).add (k * 4)) := by split <;> rfl
      rw [eIf] at hcf
      have HVF : Hid (VrsAt w4 (some (if c = k then (⟨q, 0, none⟩ : Addr) else (⟨q, 0, none⟩ : Addr).add (k * 4))) (l.drop k)) := Lib.hid (by
        have := HO4.out.from k hk hcl
        simp only [Option.map_some] at this
        rw [eIf] at this
        exact this)
      clear eIf
      generalize (if c = k then (⟨q, 0, none⟩ : Addr) else (⟨q, 0, none⟩ : Addr).add (k * 4)) = af at *
      have HNF := Lib.hid hNF
      have HVT := Lib.hid (HO4.out.to k hk)
      clear hNF
      have hL1 : (vrCells (l.drop k)).length = (l.length - k) * 4 := by rw [vrCells_length, List.length_drop]
      have hL2 : (vrCells (l.take k)).length = k * 4 := by rw [vrCells_length, List.length_take]; congr 1; omega
      have HL1 := Lib.hid hL1
      have HL2 := Lib.hid hL2
      clear hL1 hL2
      have D1 : Hid (Below w4.heap.size w4 w4.drew) := Lib.hid (below_drew (Below.refl _ _))
      have EA1 : Hid ((w4.drew.alloc (.cells #[] 26)).ownsRow w4.heap.size 26 4 (.slice (some ⟨w4.heap.size, 0, none⟩) 0 0) 0 []) := Lib.hid (World.ownsRow_made w4.drew #[] 0 (Nat.le_refl _) (Nat.zero_le _) rfl)
      have BA1 : Hid (Below w4.heap.size w4 (w4.drew.alloc (.cells #[] 26))) := Lib.hid (D1.out.alloc (Nat.le_refl _) _)
      have EA2 : Hid (((w4.drew.alloc (.cells #[.int .i64 0, .int .i64 0, .int .i64 0, .string ⟨#[]⟩] 26)).alloc (.cells #[] 26)).ownsRow w4.heap.size 26 4 (.slice (some ⟨w4.heap.size + 1, 0, none⟩) 0 0) 0 []) := Lib.hid (made_at (w4.drew.alloc (.cells #[.int .i64 0, .int .i64 0, .int .i64 0, .string ⟨#[]⟩] 26)) w4.heap.size (w4.heap.size + 1) (by simp) (by omega))
      have BA2 : Hid (Below w4.heap.size w4 ((w4.drew.alloc (.cells #[.int .i64 0, .int .i64 0, .int .i64 0, .string ⟨#[]⟩] 26)).alloc (.cells #[] 26))) := Lib.hid ((D1.out.alloc (Nat.le_refl _) _).alloc (by simp) _)
      have ZA2 : Hid (Blk ((w4.drew.alloc (.cells #[.int .i64 0, .int .i64 0, .int .i64 0, .string ⟨#[]⟩] 26)).alloc (.cells #[] 26)) w4.heap.size 26 #[.int .i64 0, .int .i64 0, .int .i64 0, .string ⟨#[]⟩]) := Lib.hid ((Blk.new w4.drew _ _).alloc _)
      have EA3 : Hid (((w4.drew.alloc (.cells #[] 26)).alloc (.cells #[.int .i64 0, .int .i64 0, .int .i64 0, .string ⟨#[]⟩] 26)).ownsRow w4.heap.size 26 4 (.slice (some ⟨w4.heap.size, 0, none⟩) 0 0) 0 []) := Lib.hid (EA1.out.alloc _)
      have BA3 : Hid (Below w4.heap.size w4 ((w4.drew.alloc (.cells #[] 26)).alloc (.cells #[.int .i64 0, .int .i64 0, .int .i64 0, .string ⟨#[]⟩] 26))) := Lib.hid ((D1.out.alloc (Nat.le_refl _) _).alloc (by simp) _)
      have ZA3 : Hid (Blk ((w4.drew.alloc (.cells #[] 26)).alloc (.cells #[.int .i64 0, .int .i64 0, .int .i64 0, .string ⟨#[]⟩] 26)) (w4.heap.size + 1) 26 #[.int .i64 0, .int .i64 0, .int .i64 0, .string ⟨#[]⟩]) := Lib.hid (Blk.new2' w4.drew _ _ _)
      obtain ⟨M, hM⟩ : ∃ M, M = l.drop k ++ l.take k := ⟨_, rfl⟩
      have hMl : M.length = l.length := by rw [hM, List.length_append, List.length_drop, List.length_take]; omega
      have HMV := Lib.hid hM
      have HMX : Hid (∀ W (_ : GL W) (A2 : Option Addr) (c2 : Nat) (_ : VrsAt W A2 M), Calls Tryd.prog 7 #[.slice A2 l.length c2] W fun e w' => e = .returned (.agg #[.int .i64 (maxV l).a, .int .i64 (maxV l).b, .int .i64 (maxV l).c, .string (bs (maxV l).p)]) ∧ Below W.heap.size W w') := Lib.hid (fun W hW A2 c2 hv => by
        have := vmax_calls W A2 M.length c2 M rfl (by omega) hv (by
          rw [hM]
          intro x hx
          rcases List.mem_append.1 hx with hx | hx
          · exact HM.out x (List.mem_of_mem_drop hx)
          · exact HM.out x (List.mem_of_mem_take hx)) hW
        rw [show maxV M = maxV l from by rw [hM]; exact HTU.out, hMl] at this
        exact this)
      have HG4 := Lib.hid (fun W (hb : Below w4.heap.size w4 W) => HG.out.below0 (below_then HB4.out HB4.out.size hb))
      clear hM
      generalize hmx : maxV l = mx at *
      have HMEQ := Lib.hid hmx
      clear hmx
      go_cut [11] (fun x wx => ∃ b, x = .pointer (some ⟨b, 0, none⟩) ∧ Hid (Blk wx b 26 #[.int .i64 mx.a, .int .i64 mx.b, .int .i64 mx.c, .string (bs mx.p)]) ∧ Hid (Below w4.heap.size w4 wx))
      case first =>
        go_region_held3 (fun w' => Below w4.heap.size w4 w')
          (first | exact put4_below HC7.out HBB7.out _ _ _ _ | exact HC7.out | exact HC6.out | exact HC5.out | exact D1.out | exact BA1.out | exact BA2.out | exact BA3.out | exact keepA (by assumption) _ | exact Below.refl _ _)
          (first
            | ((refine step_append_at (by rfl) (.tmp 55) (.tmp 58) 24 (by rfl) w4.heap.size 26 ti _ 4 40 Tryd.underlying24 hti hz0 hz1 hz2 rfl (by decide) (.slice (some ⟨w4.heap.size, 0, none⟩) 0 0) 0 [] (by rfl) EA1.out af (l.length - k) (c - k) (vrCells (l.drop k)) (by rfl) HL1.out (fun j u hu => pw_cell_below BA1.out (HNF.out j u hu)) (vrCells_one _) (by unfold maxLen; omega) (by omega) BA1.out.size ?_; intro v1 w5 hown5 hg5 hat5; have HO5 := Lib.hid hown5; have HC5 := Lib.hid (BA1.out.grown hg5 BA1.out.size (own_base EA1.out))))
            | ((refine step_append_at (by rfl) (.tmp 55) (.tmp 58) 24 (by rfl) w4.heap.size 26 ti _ 4 40 Tryd.underlying24 hti hz0 hz1 hz2 rfl (by decide) (.slice (some ⟨w4.heap.size + 1, 0, none⟩) 0 0) 0 [] (by rfl) EA2.out af (l.length - k) (c - k) (vrCells (l.drop k)) (by rfl) HL1.out (fun j u hu => pw_cell_below BA2.out (HNF.out j u hu)) (vrCells_one _) (by unfold maxLen; omega) (by omega) BA2.out.size ?_; intro v1 w5 hown5 hg5 hat5; have HO5 := Lib.hid hown5; have HC5 := Lib.hid (BA2.out.grown hg5 BA2.out.size (own_base EA2.out)); have HZ5 := Lib.hid (blk_grown2 ZA2.out hg5 (by simp [Value.ownBlock])); have HBB5 : Hid (w4.heap.size ≤ w4.heap.size) := Lib.hid (Nat.le_refl _); have HNE5 : Hid (some w4.heap.size ≠ v1.ownBlock) := Lib.hid (by rcases hat5 with h | h <;> rw [h] <;> simp [Value.ownBlock] <;> omega)))
            | ((refine step_append_at (by rfl) (.tmp 55) (.tmp 58) 24 (by rfl) w4.heap.size 26 ti _ 4 40 Tryd.underlying24 hti hz0 hz1 hz2 rfl (by decide) (.slice (some ⟨w4.heap.size, 0, none⟩) 0 0) 0 [] (by rfl) EA3.out af (l.length - k) (c - k) (vrCells (l.drop k)) (by rfl) HL1.out (fun j u hu => pw_cell_below BA3.out (HNF.out j u hu)) (vrCells_one _) (by unfold maxLen; omega) (by omega) BA3.out.size ?_; intro v1 w5 hown5 hg5 hat5; have HO5 := Lib.hid hown5; have HC5 := Lib.hid (BA3.out.grown hg5 BA3.out.size (own_base EA3.out)); have HZ5 := Lib.hid (blk_grown2 ZA3.out hg5 (by simp [Value.ownBlock])); have HBB5 : Hid (w4.heap.size ≤ w4.heap.size + 1) := Lib.hid (Nat.le_succ _); have HNE5 : Hid (some (w4.heap.size + 1) ≠ v1.ownBlock) := Lib.hid (by rcases hat5 with h | h <;> rw [h] <;> simp [Value.ownBlock] <;> omega)))
            | ((refine step_append_at (by rfl) (.tmp 59) (.tmp 62) 24 (by rfl) w4.heap.size 26 ti _ 4 40 Tryd.underlying24 hti hz0 hz1 hz2 rfl (by decide) v1 (0 + (l.length - k)) ([] ++ vrCells (l.drop k)) (by rfl) HO5.out ⟨q, 0, none⟩ k c (vrCells (l.take k)) (by rfl) HL2.out (fun j u hu => pw_cell_below HC5.out (HO4.out.newsTo k j u hu)) (vrCells_one _) (by unfold maxLen; omega) (by omega) (HC5.out).size ?_; intro v2 w6 hown6 hg6 hat6; have hw6 := vown_turned HMV.out hk hown6; obtain ⟨A2, c2, rfl⟩ := VOwn.slice hw6; have HO6 := Lib.hid hw6; have HC6 := Lib.hid ((HC5.out).grown hg6 (HC5.out).size (own_base HO5.out)); have HZ6 := Lib.hid (blk_grown2 HZ5.out hg6 HNE5.out); have HBB6 := HBB5))
            | ((refine step_append_at (by rfl) (.tmp 59) (.tmp 62) 24 (by rfl) w4.heap.size 26 ti _ 4 40 Tryd.underlying24 hti hz0 hz1 hz2 rfl (by decide) v1 (0 + (l.length - k)) ([] ++ vrCells (l.drop k)) (by rfl) HO5.out ⟨q, 0, none⟩ k c (vrCells (l.take k)) (by rfl) HL2.out (fun j u hu => pw_cell_below HC5.out (HO4.out.newsTo k j u hu)) (vrCells_one _) (by unfold maxLen; omega) (by omega) (HC5.out).size ?_; intro v2 w6 hown6 hg6 hat6; have hw6 := vown_turned HMV.out hk hown6; obtain ⟨A2, c2, rfl⟩ := VOwn.slice hw6; have HO6 := Lib.hid hw6; have HC6 := Lib.hid ((HC5.out).grown hg6 (HC5.out).size (own_base HO5.out))))
            | ((refine step_append_at (by rfl) (.tmp 59) (.tmp 62) 24 (by rfl) w4.heap.size 26 ti _ 4 40 Tryd.underlying24 hti hz0 hz1 hz2 rfl (by decide) v1 (0 + (l.length - k)) ([] ++ vrCells (l.drop k)) (by rfl) (HO5.out.alloc (.cells #[.int .i64 0, .int .i64 0, .int .i64 0, .string ⟨#[]⟩] 26)) ⟨q, 0, none⟩ k c (vrCells (l.take k)) (by rfl) HL2.out (fun j u hu => pw_cell_below (keepA HC5.out (.cells #[.int .i64 0, .int .i64 0, .int .i64 0, .string ⟨#[]⟩] 26)) (HO4.out.newsTo k j u hu)) (vrCells_one _) (by unfold maxLen; omega) (by omega) ((keepA HC5.out (.cells #[.int .i64 0, .int .i64 0, .int .i64 0, .string ⟨#[]⟩] 26))).size ?_; intro v2 w6 hown6 hg6 hat6; have hw6 := vown_turned HMV.out hk hown6; obtain ⟨A2, c2, rfl⟩ := VOwn.slice hw6; have HO6 := Lib.hid hw6; have HC6 := Lib.hid (((keepA HC5.out (.cells #[.int .i64 0, .int .i64 0, .int .i64 0, .string ⟨#[]⟩] 26))).grown hg6 ((keepA HC5.out (.cells #[.int .i64 0, .int .i64 0, .int .i64 0, .string ⟨#[]⟩] 26))).size (own_base (HO5.out.alloc (.cells #[.int .i64 0, .int .i64 0, .int .i64 0, .string ⟨#[]⟩] 26)))); have HZ6 := Lib.hid (blk_grown2 (Blk.new w5 26 #[.int .i64 0, .int .i64 0, .int .i64 0, .string ⟨#[]⟩]) hg6 (own_ne_new (HO5.out))); have HBB6 := Lib.hid HC5.out.size))
            | ((go_at_call 7; ((with_reducible refine (HMX.out _ (HG4.out _ HC6.out) _ _ (VOwn.all HO6.out)).mono ?_)); rintro e w7 ⟨rfl, hbk⟩; have HC7 := Lib.hid (below_then HC6.out HC6.out.size hbk); have hz7 := HZ6.out.below hbk; have y0 := hz7.cell 0; have y1 := hz7.cell 1; have y2 := hz7.cell 2; have y3 := hz7.cell 3; have u0 := hz7.unfrozen 0; have u1 := hz7.unfrozen 1; have u2 := hz7.unfrozen 2; have u3 := hz7.unfrozen 3; have HZ7 := Lib.hid hz7; have HBB7 := HBB6; clear hz7))
            | ((go_at_call 7; ((with_reducible refine (HMX.out _ (HG4.out _ (keepA HC6.out (.cells #[.int .i64 0, .int .i64 0, .int .i64 0, .string ⟨#[]⟩] 26))) _ _ (VOwn.all (HO6.out.below ((Below.refl _ _).alloc (Nat.le_refl _) (.cells #[.int .i64 0, .int .i64 0, .int .i64 0, .string ⟨#[]⟩] 26))))).mono ?_)); rintro e w7 ⟨rfl, hbk⟩; have HC7 := Lib.hid (below_then (keepA HC6.out (.cells #[.int .i64 0, .int .i64 0, .int .i64 0, .string ⟨#[]⟩] 26)) (keepA HC6.out (.cells #[.int .i64 0, .int .i64 0, .int .i64 0, .string ⟨#[]⟩] 26)).size hbk); have hz7 := (Blk.new w6 26 #[.int .i64 0, .int .i64 0, .int .i64 0, .string ⟨#[]⟩]).below hbk; have y0 := hz7.cell 0; have y1 := hz7.cell 1; have y2 := hz7.cell 2; have y3 := hz7.cell 3; have u0 := hz7.unfrozen 0; have u1 := hz7.unfrozen 1; have u2 := hz7.unfrozen 2; have u3 := hz7.unfrozen 3; have HZ7 := Lib.hid hz7; have HBB7 := Lib.hid HC6.out.size; clear hz7))
            | ((go_at_call 7; ((with_reducible refine (HMX.out _ (HG4.out _ HC6.out) _ _ (VOwn.all HO6.out)).mono ?_)); rintro e w7 ⟨rfl, hbk⟩; have HC7 := Lib.hid (below_then HC6.out HC6.out.size hbk))))
        all_goals (try go_wp2_with (fail))
        all_goals go_meet
        all_goals first | exact ⟨_, rfl, Lib.hid (put4_blk HZ7.out _ _ _ _), Lib.hid (put4_below HC7.out HBB7.out _ _ _ _)⟩ | exact ⟨_, rfl, Lib.hid (Blk.new w7 _ _), Lib.hid (keepA HC7.out _)⟩
      case rest =>
        obtain ⟨b, rfl, HBN, HC⟩ := hcut
        have HV := Lib.hid (HV4.out.below HC.out)
        have HO := Lib.hid (HO4.out.below HC.out)
        have HVF2 := Lib.hid (vrs_below HVF.out HC.out)
        have HVT2 := Lib.hid (vrs_below HVT.out HC.out)
        have HB := Lib.hid (below_then HB4.out HB4.out.size HC.out)
        clear HO4 HV4 HB4 HVF HVT HMX HC
        have a0 := HV.out.cell 0
        have a1 := HV.out.cell 1
        have a2 := HV.out.cell 2
        have a3 := HV.out.cell 3
        have b0 := HBN.out.cell 0
        have b1 := HBN.out.cell 1
        have b2 := HBN.out.cell 2
        have b3 := HBN.out.cell 3
        by_cases h0 : k = 0
        · have g0 : ((k : Int) == 0) = true := by rw [h0]; rfl
          have g0n : (k == 0) = true := by rw [h0]; rfl
          clear h0
          generalize bs mx.p = up at *
          go_wp2_with (fail)
          go_ret
          exact ⟨rfl, HB.out⟩
        have g0 : ((k : Int) == 0) = false := by simp only [beq_eq_false_iff_ne, ne_eq]; omega
        have g0n : (k == 0) = false := by simpa using h0
        by_cases h1 : k = l.length
        · have g1 : ((k : Int) == (l.length : Int)) = true := by rw [h1]; simp
          have g1n : (k == l.length) = true := by rw [h1]; simp
          clear h1
          generalize bs mx.p = up at *
          go_wp2_with (fail)
          go_ret
          exact ⟨rfl, HB.out⟩
        have g1 : ((k : Int) == (l.length : Int)) = false := by simp only [beq_eq_false_iff_ne, ne_eq]; omega
        have g1n : (k == l.length) = false := by simpa using h1
        have ht0 : l.take k ≠ [] := by
          intro h
          have := congrArg List.length h
          rw [List.length_take] at this
          simp only [List.length_nil] at this
          omega
        have hd0 : l.drop k ≠ [] := by
          intro h
          have := congrArg List.length h
          rw [List.length_drop] at this
          simp only [List.length_nil] at this
          omega
        have hmt := maxV_made ht0 (fun x hx => HM.out x (List.mem_of_mem_take hx))
        have hmd := maxV_made hd0 (fun x hx => HM.out x (List.mem_of_mem_drop hx))
        have h2 := maxV_two ht0 hd0
        rw [List.take_append_drop, HMEQ.out] at h2
        have HMT := Lib.hid (fun W (hW : GL W) (hv : VrsAt W (some ⟨q, 0, none⟩) (l.take k)) => vmax_calls W (some ⟨q, 0, none⟩) k c (l.take k) (by rw [List.length_take]; omega) (by omega) hv (fun x hx => HM.out x (List.mem_of_mem_take hx)) hW)
        have HMD := Lib.hid (fun W (hW : GL W) (hv : VrsAt W (some af) (l.drop k)) => vmax_calls W (some af) (l.length - k) (c - k) (l.drop k) (by rw [List.length_drop]) (by omega) hv (fun x hx => HM.out x (List.mem_of_mem_drop hx)) hW)
        generalize maxV (l.take k) = mt at *
        generalize maxV (l.drop k) = md at *
        have HM2 : Hid (∀ W : World, GL (W.alloc (.cells #[.int .i64 mt.a, .int .i64 mt.b, .int .i64 mt.c, .string (bs mt.p), .int .i64 md.a, .int .i64 md.b, .int .i64 md.c, .string (bs md.p)] 26)) → Calls Tryd.prog 7 #[.slice (some ⟨W.heap.size, 0, none⟩) 2 2] (W.alloc (.cells #[.int .i64 mt.a, .int .i64 mt.b, .int .i64 mt.c, .string (bs mt.p), .int .i64 md.a, .int .i64 md.b, .int .i64 md.c, .string (bs md.p)] 26)) fun e w' => e = .returned (.agg #[.int .i64 mx.a, .int .i64 mx.b, .int .i64 mx.c, .string (bs mx.p)]) ∧ Below (W.alloc (.cells #[.int .i64 mt.a, .int .i64 mt.b, .int .i64 mt.c, .string (bs mt.p), .int .i64 md.a, .int .i64 md.b, .int .i64 md.c, .string (bs md.p)] 26)).heap.size (W.alloc (.cells #[.int .i64 mt.a, .int .i64 mt.b, .int .i64 mt.c, .string (bs mt.p), .int .i64 md.a, .int .i64 md.b, .int .i64 md.c, .string (bs md.p)] 26)) w') := Lib.hid (fun W hW => by
          have hal := (Below.refl W.heap.size W).alloc (Nat.le_refl _) (.cells #[.int .i64 mt.a, .int .i64 mt.b, .int .i64 mt.c, .string (bs mt.p), .int .i64 md.a, .int .i64 md.b, .int .i64 md.c, .string (bs md.p)] 26)
          have ho : VOwn (W.alloc (.cells #[.int .i64 mt.a, .int .i64 mt.b, .int .i64 mt.c, .string (bs mt.p), .int .i64 md.a, .int .i64 md.b, .int .i64 md.c, .string (bs md.p)] 26)) W.heap.size (.slice (some ⟨W.heap.size, 0, none⟩) [mt, md].length 2) [mt, md] := World.ownsRow_lit W _ 2 (Nat.le_refl _) (by decide) rfl
          have := vmax_calls _ _ 2 2 [mt, md] rfl (by decide) ho.all (by
            intro x hx
            simp only [List.mem_cons, List.not_mem_nil, or_false] at hx
            rcases hx with rfl | rfl
            · exact hmt
            · exact hmd) hW
          rw [h2] at this
          exact this)
        clear h2 hmt hmd ht0 hd0 h0 h1
        generalize bs mx.p = up at *
        generalize bs mt.p = ut at *
        generalize bs md.p = ud at *
        have HS0 : Hid (wc.cell? ⟨V, 0, none⟩ = some (.int .i64 mx.a) ∧ wc.cell? ⟨V, 1, none⟩ = some (.int .i64 mx.b) ∧ wc.cell? ⟨V, 2, none⟩ = some (.int .i64 mx.c) ∧ wc.cell? ⟨V, 3, none⟩ = some (.string up) ∧ wc.cell? ⟨b, 0, none⟩ = some (.int .i64 mx.a) ∧ wc.cell? ⟨b, 1, none⟩ = some (.int .i64 mx.b) ∧ wc.cell? ⟨b, 2, none⟩ = some (.int .i64 mx.c) ∧ wc.cell? ⟨b, 3, none⟩ = some (.string up) ∧ Below wc.heap.size wc wc) := Lib.hid ⟨a0, a1, a2, a3, b0, b1, b2, b3, Below.refl _ _⟩
        have HGW := Lib.hid (fun W (hb : Below wc.heap.size wc W) => HG.out.below0 (below_then HB.out HB.out.size hb))
        go_upto_region 15 with (fail)
        go_region_held3 (fun w' => w'.cell? ⟨V, 0, none⟩ = some (.int .i64 mx.a) ∧ w'.cell? ⟨V, 1, none⟩ = some (.int .i64 mx.b) ∧ w'.cell? ⟨V, 2, none⟩ = some (.int .i64 mx.c) ∧ w'.cell? ⟨V, 3, none⟩ = some (.string up) ∧ w'.cell? ⟨b, 0, none⟩ = some (.int .i64 mx.a) ∧ w'.cell? ⟨b, 1, none⟩ = some (.int .i64 mx.b) ∧ w'.cell? ⟨b, 2, none⟩ = some (.int .i64 mx.c) ∧ w'.cell? ⟨b, 3, none⟩ = some (.string up) ∧ Below wc.heap.size wc w')
          (first | exact keepM (by assumption) hbk | exact keepM (by assumption) ((Below.refl _ _).alloc (Nat.le_refl _) _) | exact keepM HS0.out (Below.refl _ _).drew | exact HS0.out)
          (first | (go_at_call_of 7 (Value.slice (some ⟨q, 0, none⟩) k c); ((with_reducible refine (HMT.out _ (HGW.out _ ?_) (vrs_below HVT2.out ?_)).mono ?_)); (exact keepMB (by assumption)); (exact keepMB (by assumption)); rintro e wp ⟨rfl, hbk⟩) | (go_at_call_of 7 (Value.slice (some af) (l.length - k) (c - k)); ((with_reducible refine (HMD.out _ (HGW.out _ ?_) (vrs_below HVF2.out ?_)).mono ?_)); (exact keepMB (by assumption)); (exact keepMB (by assumption)); rintro e wp ⟨rfl, hbk⟩) | (go_at_call 7; ((with_reducible refine (HM2.out _ (HGW.out _ ?_)).mono ?_)); (exact keepMB (by assumption)); rintro e wp ⟨rfl, hbk⟩))
        all_goals have HZ := Lib.hid (below_then HB.out HB.out.size (keepMB (by assumption)))
        all_goals go_wp2_with (fail)
        all_goals go_ret
        all_goals exact ⟨rfl, HZ.out⟩
end
theorem transhumancelaw2_VerMaxes.walked (a0 : Option Addr) (len0 cap0 : Nat) (z0 : List Int) (a1 : Option Addr) (len1 cap1 : Nat) (z1 : List Int) (a2 : Int) (w : World) (w0 : (a0 = none ∧ len0 = 0 ∧ cap0 = 0 ∧ z0 = []) ∨ ∃ x, a0 = some x ∧ len0 ≤ cap0 ∧ cap0 ≤ maxLen ∧ z0.length = cap0 ∧ (∀ i, i < z0.length → w.cell? (x.add i) = some (.int .i64 (z0.getD i 0))) ∧ ∀ n ∈ z0, (Lit.int .i64 n).wf = true) (_ : len0 * 8 ≤ 140737488351232) (w1 : (a1 = none ∧ len1 = 0 ∧ cap1 = 0 ∧ z1 = []) ∨ ∃ x, a1 = some x ∧ len1 ≤ cap1 ∧ cap1 ≤ maxLen ∧ z1.length = cap1 ∧ (∀ i, i < z1.length → w.cell? (x.add i) = some (.int .i64 (z1.getD i 0))) ∧ ∀ n ∈ z1, (Lit.int .i64 n).wf = true) (_ : len1 * 8 ≤ 140737488351232) (_ : (Lit.int .i64 a2).wf = true) (hG : GL w) :
    Calls Tryd.prog 3 #[.slice a0 len0 cap0, .slice a1 len1 cap1, .int .i64 a2] w fun e w' => e = .returned (.bool true) ∧ Below w.heap.size w w' := by
  obtain ⟨l0, rfl, hr0, hm0, hw0, hc0⟩ := ReadsInt.ofRowC w0
  obtain ⟨l1, rfl, hr1, hm1, hw1, hc1⟩ := ReadsInt.ofRowC w1
  exact maxes_calls w a0 cap0 l0 a1 cap1 l1 a2 (Kd.C_of_reads (d := (0 : Int)) (h1 := fun _ => rfl) hr0) (Kd.C_of_reads (d := (0 : Int)) (h1 := fun _ => rfl) hr1) hG
end Go.Proofs.YtoghoiecnciglaaDoor.Q
