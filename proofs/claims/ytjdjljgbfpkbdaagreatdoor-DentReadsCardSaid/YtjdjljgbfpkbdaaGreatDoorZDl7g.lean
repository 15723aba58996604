import Derived.Test.YtjdjljgbfpkbdaaGreatDoorZDLocks
import Derived.Test.YtjdjljgbfpkbdaaGreatDoorZDPl
import Derived.Test.YtjdjljgbfpkbdaaGreatDoorZDe
import Derived.Test.YtjdjljgbfpkbdaaGreatDoorZDr2g
import Derived.Test.YtjdjljgbfpkbdaaGreatDoorZQ14
import Derived.Test.YtjdjljgbfpkbdaaGreatDoorZQ4g
set_option linter.unusedVariables false
set_option linter.unusedSimpArgs false
section
namespace Go.Proofs.YtjdjljgbfpkbdaaGreatDoor.Q
open Go.RowKit Go.Shelf Go.Proofs.YtjdjljgbfpkbdaaGreatDoorW.PrintWords Go.Proofs.YtjdjljgbfpkbdaaGreatDoorW.PrintLast Go.Proofs.YtjdjljgbfpkbdaaGreatDoorW.PrintMore
theorem reps_cells {M:S43→List Value→Prop} (hM:∀ x cs,M x cs→cs=[.string x.f0,.string x.f1,.string x.f2,.string x.f3,.string x.f4]):∀ (l:List Lk) (inner:List Value),Reps M 5 (outs l) inner→inner=lkCells l
  | [],inner,h => by
    have:=h.1
    simp only [outs,List.map_nil,List.length_nil,Nat.zero_mul] at this
    exact List.eq_nil_of_length_eq_zero this
  | x :: l,inner,h => by
    have h0:=hM _ _ (h.2 0 x.out rfl)
    rw [Nat.zero_mul,List.drop_zero] at h0
    have hr:Reps M 5 (outs l) (inner.drop 5):=by
      refine ⟨?_,fun j p hj => ?_⟩
      · have:=h.1
        simp only [outs,List.map_cons,List.length_cons,List.length_map] at this ⊢
        rw [List.length_drop,this]
        omega
      · have:=h.2 (j+1) p (by simpa [outs] using hj)
        rw [List.drop_drop,show 5+j * 5=(j+1) * 5 from by omega]
        exact this
    have ih:=reps_cells hM l _ hr
    have e:lkCells (x :: l)=x.cells++lkCells l:=rfl
    rw [e,← ih]
    conv => lhs;rw [← List.take_append_drop 5 inner,h0]
    rfl
theorem Ls.of_out {w:World} {base:Nat} {ok:Nat→Prop} {v:Value} {l:List Lk} (h:Kd.R k43 43 w base ok v (outs l)):Ls w base v l:=by
  obtain ⟨_,inner,hown,hr⟩:=h
  have:=reps_cells (fun x cs h => k43_openM h) l inner hr
  subst this
  have e:(outs l).length=l.length:=by simp [outs]
  rw [e] at hown
  exact hown
theorem Ls.fit {w:World} {base n c:Nat} {A:Option Addr} {l:List Lk} (h:Ls w base (.slice A n c) l):n=l.length:=by
  have:=own_slice h
  obtain ⟨A',c',e⟩:=this
  injection e
theorem append_lks {ops:Array Oper} {rest:List Oper} {o:Oper} {a:Act} {Q:Exit→Act→World→Prop} {w0 W:World} (base base':Nat) (hgd:o.guard=none) (s x:Operand)
    (ho:o.op=.call { callee:=.builtin .append,args:=#[s,x],argTypes:=#[25,25] })
    (v:Value) (l0 l:List Lk) (A:Option Addr) (n c:Nat) (hs:a.eval s=v) (hx:a.eval x=.slice A n c) (HO:Ls W base v l0) (HR:Ls W base' (.slice A n c) l)
    (HB:Below base w0 W) (hbase:base≤W.heap.size) (hl:l0.length+l.length≤1000)
    (h:∀ v1 w1,Ls w1 base v1 (l0++l)→Below base w0 w1→W.grownBy w1 v.ownBlock→(v1.ownBlock=v.ownBlock∨∃ b,v1.ownBlock=some b∧W.heap.size≤b)→wpList Tryz.prog ops Q rest (a.put o.dst v1) w1) :
    wpList Tryz.prog ops Q (o :: rest) a W:=by
  have hn:=HR.fit
  subst hn
  have hro:Kd.R k43 43 W base' (fun _ => True) (.slice A l.length c) (outs l):=HR.out
  obtain ⟨hlen,hcap,hc⟩:=Kd.R_reads' hro
  have hlo:(outs l0).length=l0.length:=by simp [outs]
  have hoo:(outs l).length=l.length:=by simp [outs]
  refine Kd.R_append_rows k43 (Rr:=k43.K W) (w0:=w0) base hgd s x 25 43 (.agg #[(.string ⟨#[]⟩),(.string ⟨#[]⟩),(.string ⟨#[]⟩),(.string ⟨#[]⟩),(.string ⟨#[]⟩)]) 80 ho Tryz.underlying25 info39 rfl (by decide) (by decide) v (outs l0) (outs l) A l.length c (fun _ => True) (fun _ => False) hs hx (HO.out) ?_ ?_ (fun _ h => h.elim) (fun _ _ => trivial) HB hbase (by rw [hlo];omega) ?_
  · rw [hoo] at hc
    exact hc
  · intro y cs hk
    obtain rfl:=k43_open hk
    exact k43_mkM _ _ _ _
  · intro v1 w1 hr hb hg ho
    have e:outs l0++outs l=outs (l0++l):=by simp [outs]
    rw [e] at hr
    exact h v1 w1 (Ls.of_out hr) hb hg ho
end Go.Proofs.YtjdjljgbfpkbdaaGreatDoor.Q
end
section
namespace Go.Proofs.YtjdjljgbfpkbdaaGreatDoor.Q
open Go.RowKit Go.Proofs.YtjdjljgbfpkbdaaGreatDoorW.PrintWords Go.Proofs.YtjdjljgbfpkbdaaGreatDoorW.PrintLast Go.Proofs.YtjdjljgbfpkbdaaGreatDoorW.PrintMore
theorem results_c1 {P:Program} {fn:Func} {p:Tmp} {ty:TypeId} (h:fn.results=#[.cell p ty]) (tmps:Array Value) (w:World) (g:Nat) (t:TypeId) (cs:Array Value) (fr:Nat × Nat) (d:TypeDesc)
    (hp:tmps.getD p undef=.pointer (some ⟨g,0,none⟩)) (hg:w.heap[g]?=some (.cells cs t fr))
    (hu:P.underlying ty=some d) (hd:(match d with|.struct _|.array _ _ => true|_ => false)=true) (hi:(P.info? ty).map (·.size)=some cs.size) :
    (results fn tmps).run P w=.ok (.agg cs) w:=by
  have hp':tmps[p]?.getD undef=.pointer (some ⟨g,0,none⟩):=by simpa using hp
  simp [results,h,hp',asAddr,run_loadVar_row w g t ty cs fr d hg hu hd hi]
set_option maxHeartbeats 1000000 in
set_option maxRecDepth 100000 in
theorem set_calls (x:Lk) (k:Nat) (hk:k<5) (v:ByteArray) (w:World) :
    Calls Tryz.prog 69 #[.agg #[.string x.root,.string x.version,.string x.rev,.string x.within,.string x.source],.int .i64 (k:Int),.string v] w fun e w' => e=.returned (.agg #[.string (x.set k v).root,.string (x.set k v).version,.string (x.set k v).rev,.string (x.set k v).within,.string (x.set k v).source])∧Below w.heap.size w w':=by
  rcases k with _|_|_|_|_|k
  · go_enter Tryz.func69,Tryz.ntmps69
    go_wp2_with (fail)
    refine bodyPost_ret (results_c1 rfl _ _ (w.heap.size+1) 43 #[.string v,.string x.version,.string x.rev,.string x.within,.string x.source] (0,0) _ rfl (Blk.new2 w _ _ _) Tryz.underlying43 rfl (by kernel_rfl)) rfl ?_
    exact ⟨rfl,Below.alloc2 w _ _⟩
  · go_enter Tryz.func69,Tryz.ntmps69
    go_wp2_with (fail)
    refine bodyPost_ret (results_c1 rfl _ _ (w.heap.size+1) 43 #[.string x.root,.string v,.string x.rev,.string x.within,.string x.source] (0,0) _ rfl (Blk.new2 w _ _ _) Tryz.underlying43 rfl (by kernel_rfl)) rfl ?_
    exact ⟨rfl,Below.alloc2 w _ _⟩
  · go_enter Tryz.func69,Tryz.ntmps69
    go_wp2_with (fail)
    refine bodyPost_ret (results_c1 rfl _ _ (w.heap.size+1) 43 #[.string x.root,.string x.version,.string v,.string x.within,.string x.source] (0,0) _ rfl (Blk.new2 w _ _ _) Tryz.underlying43 rfl (by kernel_rfl)) rfl ?_
    exact ⟨rfl,Below.alloc2 w _ _⟩
  · go_enter Tryz.func69,Tryz.ntmps69
    go_wp2_with (fail)
    refine bodyPost_ret (results_c1 rfl _ _ (w.heap.size+1) 43 #[.string x.root,.string x.version,.string x.rev,.string v,.string x.source] (0,0) _ rfl (Blk.new2 w _ _ _) Tryz.underlying43 rfl (by kernel_rfl)) rfl ?_
    exact ⟨rfl,Below.alloc2 w _ _⟩
  · go_enter Tryz.func69,Tryz.ntmps69
    go_wp2_with (fail)
    refine bodyPost_ret (results_c1 rfl _ _ (w.heap.size+1) 43 #[.string x.root,.string x.version,.string x.rev,.string x.within,.string v] (0,0) _ rfl (Blk.new2 w _ _ _) Tryz.underlying43 rfl (by kernel_rfl)) rfl ?_
    exact ⟨rfl,Below.alloc2 w _ _⟩
  · omega
end Go.Proofs.YtjdjljgbfpkbdaaGreatDoor.Q
end
section
namespace Go.Proofs.YtjdjljgbfpkbdaaGreatDoor.Q
open Go.RowKit Go.Shelf Go.Proofs.YtjdjljgbfpkbdaaGreatDoorW.PrintWords Go.Proofs.YtjdjljgbfpkbdaaGreatDoorW.PrintLast Go.Proofs.YtjdjljgbfpkbdaaGreatDoorW.PrintMore
attribute [local go_sem] Oper.semAt_some
theorem ev_at {α:Type} {g:Nat→Option α} {r:α} (h:Ev g r):∃ k,g k=some r:=by
  obtain ⟨n,hn⟩:=h
  exact ⟨n,hn n (Nat.le_refl _)⟩
def bitsA (h:Nat→Bool):Array Value:=#[.bool (h 0),.bool (h 1),.bool (h 2),.bool (h 3),.bool (h 4)]
def TakePost (w:World) (base:Nat) (R:DRes) (e:Ending) (w':World):Prop :=
  Below w.heap.size w w'∧∃ (v:Value) (h:Nat→Bool) (E:Int),e=.returned (.tuple #[v,.agg (bitsA h),.int .i64 E]) ∧
    match R with
    | .ok l' has' => E=0∧Ls w' base v l'∧(∀ k,k<5→h k=hasB has' k)
    | .bad _ e => E=e
def LineAt (s:ByteArray) (r:Bool × Int × ByteArray × Bool):Prop :=
  ∀ W,Calls Tryz.prog 67 #[.string s] W fun e w' => e=.returned (.tuple #[.bool r.1,.int .i64 r.2.1,.string r.2.2.1,.bool r.2.2.2])∧Below W.heap.size W w'
theorem line_at (s:ByteArray) (hs:s.size≤100000) (hp:s.data.toList.all plainB=true):∃ r,LineAt s r∧Said (clsL s.data.toList) r:=by
  obtain ⟨r,h1,h2⟩:=line7 s hs hp
  obtain ⟨k,hk⟩:=ev_at h1
  exact ⟨r,fun W => transhumanceref7_line.calls k s r.1 r.2.1 r.2.2.1 r.2.2.2 W hk,h2⟩
def lastN (a:Nat) (l:List Lk) (has:List ByteArray) (k:Nat) (v:List UInt8):DRes :=
  match l.getLast? with
  | none => .bad a 1
  | some x => .ok (l.dropLast++[x.set k (ofL v)]) (has++[nm k])
theorem fieldN_no {a:Nat} {l:List Lk} {has:List ByteArray} {k:Nat} {v:List UInt8} (h:hasB has k=false):fieldN a l has k v=if ((k == 0 || k == 4) && !rightL v)=true then .bad a 7 else lastN a l has k v:=by
  unfold fieldN lastN
  rw [h,if_neg (by simp)]
  rfl
theorem lastN_snoc (a:Nat) (init:List Lk) (x:Lk) (has:List ByteArray) (k:Nat) (v:List UInt8):lastN a (init++[x]) has k v=.ok (init++[x.set k (ofL v)]) (has++[nm k]):=by
  unfold lastN
  rw [List.getLast?_append]
  simp
theorem bits_put {w:World} {q:Nat} {h:Nat→Bool} (hb:Blk w q 74 (bitsA h)) (k:Nat) (hk:k<5):Blk (w.setCell ⟨q,k,none⟩ (.bool true)) q 74 (bitsA fun j => if j=k then true else h j):=by
  have:=hb.put k (.bool true)
  rcases k with _|_|_|_|_|k
  · exact this
  · exact this
  · exact this
  · exact this
  · exact this
  · omega
theorem nm_inj:∀ i j:Fin 5,(nm i.val == nm j.val)=(i.val == j.val):=by decide +kernel
theorem has_add {has:List ByteArray} {h:Nat→Bool} (hh:∀ j,j<5→h j=hasB has j) (k:Nat) (hk:k<5):∀ j,j<5→(if j=k then true else h j)=hasB (has++[nm k]) j:=by
  intro j hj
  have e:=nm_inj ⟨j,hj⟩ ⟨k,hk⟩
  unfold hasB
  rw [Bool.eq_iff_iff,Lib.containsS_iff,List.mem_append,List.mem_singleton,← Lib.containsS_iff]
  by_cases hjk:j=k
  · subst hjk
    simp
  · rw [if_neg hjk,hh j hj]
    have:¬ nm j=nm k:=by
      intro h2
      rw [h2] at e
      have e3:=nm_inj ⟨k,hk⟩ ⟨k,hk⟩
      have e2:(j == k)=true:=by
        refine e.symm.trans (e3.trans ?_)
        simp
      exact hjk (by simpa using e2)
    simp [this,hasB]
theorem Ls.put5 {w:World} {base q c:Nat} {l:List Lk} {x:Lk} (h:Ls w base (.slice (some ⟨q,0,none⟩) (l.length+1) c) (l++[x])) (y:Lk) :
    Ls (((((w.setCell ⟨q,l.length * 5,none⟩ (.string y.root)).setCell ⟨q,l.length * 5+1,none⟩ (.string y.version)).setCell ⟨q,l.length * 5+2,none⟩ (.string y.rev)).setCell ⟨q,l.length * 5+3,none⟩ (.string y.within)).setCell ⟨q,l.length * 5+4,none⟩ (.string y.source)) base (.slice (some ⟨q,0,none⟩) (l.length+1) c) (l++[y]):=by
  have h5:=((((h.put 0 (by decide) y.root).put 1 (by decide) y.version).put 2 (by decide) y.rev).put 3 (by decide) y.within).put 4 (by decide) y.source
  exact h5
theorem lsat_free {w:World} {base q c:Nat} {l:List Lk} (h:LsAt w base q c l) (j:Nat):w.frozen? ⟨q,j,none⟩=false:=by
  obtain ⟨cs,hc,_⟩:=h.blk
  simp [World.frozen?,hc]
theorem lsat_ne {w:World} {base q c p:Nat} {l:List Lk} {t:TypeId} {cs:Array Value} (h:LsAt w base q c l) (hp:Blk w p t cs) (ht:t≠43):p≠q:=by
  rintro rfl
  obtain ⟨cs',hc,_⟩:=h.blk
  have hp':w.heap[p]?=some (.cells cs t (0,0)):=hp
  rw [hc] at hp'
  injection hp' with hp'
  injection hp' with h1 h2
  exact ht h2.symm
theorem Fr.put5 (w:World) (S:Nat→Prop) (q J:Nat) (hS:S q) (v0 v1 v2 v3 v4:Value):Fr S w (((((w.setCell ⟨q,J,none⟩ v0).setCell ⟨q,J+1,none⟩ v1).setCell ⟨q,J+2,none⟩ v2).setCell ⟨q,J+3,none⟩ v3).setCell ⟨q,J+4,none⟩ v4) :=
  (((((Fr.refl S w).put (p:=⟨q,J,none⟩) (.inl hS) v0).put (p:=⟨q,J+1,none⟩) (.inl hS) v1).put (p:=⟨q,J+2,none⟩) (.inl hS) v2).put (p:=⟨q,J+3,none⟩) (.inl hS) v3).put (p:=⟨q,J+4,none⟩) (.inl hS) v4
def putB (w:World) (q:Nat) (h:Nat→Bool):World :=
  (((((w.setCell ⟨q,0,none⟩ (.bool (h 0))).setCell ⟨q,1,none⟩ (.bool (h 1))).setCell ⟨q,2,none⟩ (.bool (h 2))).setCell ⟨q,3,none⟩ (.bool (h 3))).setCell ⟨q,4,none⟩ (.bool (h 4))).drew
theorem putB_blk {w:World} {q:Nat} {g:Nat→Bool} (hb:Blk w q 74 (bitsA g)) (h:Nat→Bool):Blk (putB w q h) q 74 (bitsA h) :=
  (((((hb.put 0 (.bool (h 0))).put 1 (.bool (h 1))).put 2 (.bool (h 2))).put 3 (.bool (h 3))).put 4 (.bool (h 4))).drew
theorem putB_fr (w:World) (q:Nat) (h:Nat→Bool):Fr (·=q) w (putB w q h) :=
  ((((((Fr.refl (·=q) w).put (p:=⟨q,0,none⟩) (.inl rfl) (.bool (h 0))).put (p:=⟨q,1,none⟩) (.inl rfl) (.bool (h 1))).put (p:=⟨q,2,none⟩) (.inl rfl) (.bool (h 2))).put (p:=⟨q,3,none⟩) (.inl rfl) (.bool (h 3))).put (p:=⟨q,4,none⟩) (.inl rfl) (.bool (h 4))).drew
theorem putB_below {w W:World} {B q:Nat} (h:Nat→Bool) (hb:Below B w W) (hB:w.heap.size=B) (hq:B≤q):Below B w (putB W q h) :=
  hb.trans ((putB_fr W q h).below (by have:=hb.size;omega) (fun k hk => by rw [hk];exact hq))
theorem take_bad {w W:World} {base B a:Nat} {R:DRes} {v:Value} {h:Nat→Bool} {e:Int} (hR:R=.bad a e) (hB:w.heap.size=B) (hb:Below B w W) :
    TakePost w base R (.returned (.tuple #[v,.agg (bitsA h),.int .i64 e])) (putB W (B+1) h):=by
  refine ⟨by rw [hB];exact putB_below h hb hB (Nat.le_succ _),v,h,e,rfl,?_⟩
  rw [hR]
theorem take_ok {w W:World} {base B:Nat} {R:DRes} {v:Value} {h g:Nat→Bool} {l:List Lk} {has:List ByteArray} (hR:R=.ok l has) (hB:w.heap.size=B) (hb:Below B w W) (hl:Ls W base v l) (hh:∀ k,k<5→h k=hasB has k) (hQ:Blk W (B+1) 74 (bitsA g)) :
    TakePost w base R (.returned (.tuple #[v,.agg (bitsA h),.int .i64 0])) (putB W (B+1) h):=by
  refine ⟨by rw [hB];exact putB_below h hb hB (Nat.le_succ _),v,h,0,rfl,?_⟩
  rw [hR]
  exact ⟨rfl,Ls.keep hl (putB_fr W (B+1) h) (Blk.ty hQ (by decide)),hh⟩
def TJ (w:World) (base B:Nat) (R:DRes) (a k:Nat) (v:List UInt8) (v0:Value) (wx:World):Prop :=
  ∃ (l:List Lk) (h:Nat→Bool) (has:List ByteArray),Ls wx base v0 l∧l≠[]∧l.length≤40∧Blk wx B 74 (bitsA h)∧Blk wx (B+1) 74 (bitsA fun _ => false)∧(∀ k,k<5→h k=hasB has k)∧Below B w wx∧B+2≤wx.heap.size∧R=fieldN a l has k v
theorem TJ_new {w W:World} {base B a k:Nat} {R:DRes} {v:List UInt8} {v0:Value} {l:List Lk} {h:Nat→Bool} (hbs:base≤B) (hl:Ls W B v0 (l++[Lk.zero])) (hP:Blk W B 74 (bitsA h)) (hQ:Blk W (B+1) 74 (bitsA fun _ => false)) (hb:Below B w W) (hz:B+2≤W.heap.size) (hn:l.length<40) (hB:w.heap.size=B) (hR:R=fieldN a (l++[Lk.zero]) [] k v) :
    TJ w base B R a k v v0 (((((W.setCell ⟨B,0,none⟩ (.bool false)).setCell ⟨B,1,none⟩ (.bool false)).setCell ⟨B,2,none⟩ (.bool false)).setCell ⟨B,3,none⟩ (.bool false)).setCell ⟨B,4,none⟩ (.bool false)):=by
  have hf:Fr (·=B) W (((((W.setCell ⟨B,0,none⟩ (.bool false)).setCell ⟨B,1,none⟩ (.bool false)).setCell ⟨B,2,none⟩ (.bool false)).setCell ⟨B,3,none⟩ (.bool false)).setCell ⟨B,4,none⟩ (.bool false)) :=
    (((((Fr.refl (·=B) W).put (p:=⟨B,0,none⟩) (.inl rfl) (.bool false)).put (p:=⟨B,1,none⟩) (.inl rfl) (.bool false)).put (p:=⟨B,2,none⟩) (.inl rfl) (.bool false)).put (p:=⟨B,3,none⟩) (.inl rfl) (.bool false)).put (p:=⟨B,4,none⟩) (.inl rfl) (.bool false)
  refine ⟨l++[Lk.zero],fun _ => false,[],own_lower (Ls.keep hl hf (Blk.ty hP (by decide))) hbs,by simp,by simp;omega,((((hP.put 0 (.bool false)).put 1 (.bool false)).put 2 (.bool false)).put 3 (.bool false)).put 4 (.bool false),hQ.fr hf (by omega),fun _ _ => rfl,hb.trans (hf.below (by have:=hb.size;omega) (fun k hk => by rw [hk];exact Nat.le_refl _)),Nat.le_trans hz hf.size,hR⟩
section
variable (w:World) (base:Nat)
set_option maxHeartbeats 4000000 in
set_option maxRecDepth 100000 in
theorem take_calls (a:Nat) (lv:Value) (l:List Lk) (h:Nat→Bool) (has:List ByteArray) (s:ByteArray) (hl:Ls w base lv l) (hbs:base≤w.heap.size) (hh:∀ k,k<5→h k=hasB has k) (hs:s.size≤8000) (hp:s.data.toList.all plainB=true) (hn:l.length≤40) :
    Calls Tryz.prog 38 #[lv,.agg (bitsA h),.string s] w (TakePost w base (lineD s.data.toList a l has)):=by
  obtain ⟨r,hline,hsaid⟩:=line_at s (by omega) hp
  have HLINE:=Lib.hid hline
  have HR:=Lib.hid (lineD_cls s.data.toList a l has)
  clear hline hp
  have HL:=Lib.hid hl
  have HBS:=Lib.hid hbs
  have HH:=Lib.hid hh
  obtain ⟨A,cc,rfl⟩:=own_slice hl
  clear hl hbs hh
  generalize lineD s.data.toList a l has=R at *
  generalize hB:w.heap.size=B at *
  have HB:=Lib.hid hB
  clear hB
  obtain ⟨r1,r2,r3,r4⟩:=r
  unfold bitsA
  go_enter Tryz.func38,Tryz.ntmps38
  go_upto_region 1 with (fail)
  have HP0:=Lib.hid ((Blk.new w 74 (bitsA h)).alloc (.cells (bitsA fun _ => false) 74))
  have HQ0:=Lib.hid (Blk.new2 w (.cells (bitsA h) 74) 74 (bitsA fun _ => false))
  have hb0:Below w.heap.size w ((w.alloc (.cells (bitsA h) 74)).alloc (.cells (bitsA fun _ => false) 74)):=Below.alloc2 w _ _
  have HL0:=Lib.hid (show Ls _ base (.slice A l.length cc) l from pw_own_below HL.out hb0)
  have HB0:=Lib.hid hb0
  have HS0:=Lib.hid (show w.heap.size+2≤((w.alloc (.cells (bitsA h) 74)).alloc (.cells (bitsA fun _ => false) 74)).heap.size by simp)
  clear hb0
  unfold bitsA at HP0 HQ0 HL0 HB0 HS0
  generalize (w.alloc (.cells #[.bool (h 0),.bool (h 1),.bool (h 2),.bool (h 3),.bool (h 4)] 74)).alloc (.cells #[.bool false,.bool false,.bool false,.bool false,.bool false] 74)=w0 at *
  have hB:=HB.out
  rw [hB] at HP0 HQ0 HB0 HS0 ⊢
  clear hB
  go_wp2_with (fail)
  refine (HLINE.out _).mono ?_
  rintro e w1 ⟨rfl,hb1⟩
  have HP1:=Lib.hid (HP0.out.below hb1)
  have HQ1:=Lib.hid (HQ0.out.below hb1)
  have HL1:=Lib.hid (show Ls w1 base (.slice A l.length cc) l from pw_own_below HL0.out hb1)
  have HB1:=Lib.hid (below_then HB0.out (by have:=HS0.out;omega) hb1)
  have HS1:=Lib.hid (Nat.le_trans HS0.out hb1.size)
  clear hb1 HP0 HQ0 HL0 HB0 HS0
  cases hc:clsL s.data.toList with
  | none =>
    rw [hc] at hsaid
    obtain rfl:r4=false:=hsaid
    have HR1:=Lib.hid (HR.out.trans (by rw [hc]))
    clear hc
    have p0:=HP1.out.cell 0
    have p1:=HP1.out.cell 1
    have p2:=HP1.out.cell 2
    have p3:=HP1.out.cell 3
    have p4:=HP1.out.cell 4
    have q0:=HQ1.out.unfrozen 0
    have q1:=HQ1.out.unfrozen 1
    have q2:=HQ1.out.unfrozen 2
    have q3:=HQ1.out.unfrozen 3
    have q4:=HQ1.out.unfrozen 4
    have c0:=HQ1.out.cell 0
    have c1:=HQ1.out.cell 1
    have c2:=HQ1.out.cell 2
    have c3:=HQ1.out.cell 3
    have c4:=HQ1.out.cell 4
    go_wp2_with (fail)
    go_region
    go_wp2_with (fail)
    refine bodyPost_ret (results_tct rfl _ _ (B+1) 74 (bitsA h) (0,0) _ rfl (putB_blk (g:=fun _ => false) HQ1.out h) Tryz.underlying74 rfl (by kernel_rfl)) rfl ?_
    exact take_bad HR1.out HB.out HB1.out
  | some y =>
    obtain ⟨b,k,v⟩:=y
    rw [hc] at hsaid
    have hR0:=HR.out
    rw [hc] at hR0
    obtain ⟨hk5,hvl⟩:=cls_lt hc
    have hsl:s.data.toList.length=s.size:=rfl
    injection hsaid with e1 e2
    injection e2 with e2 e3
    injection e3 with e3 e4
    have e1s:=e1.symm
    clear e1
    subst e1s e2 e3 e4
    have HR1:=Lib.hid (show R=if b=true then (if beginE l=0 then fieldN a (l++[Lk.zero]) [] k v else .bad a (beginE l)) else if l=[] then .bad a 1 else fieldN a l has k v from hR0)
    clear hc hR0 HR
    have hvz:v.length≤8000:=by omega
    clear hvl
    by_cases hno:b=false∧l=[]
    · obtain ⟨rfl,rfl⟩:=hno
      have HR2:=Lib.hid (show R=.bad a 1 from HR1.out.trans (by rw [if_neg (by simp),if_pos rfl]))
      have p0:=HP1.out.cell 0
      have p1:=HP1.out.cell 1
      have p2:=HP1.out.cell 2
      have p3:=HP1.out.cell 3
      have p4:=HP1.out.cell 4
      have q0:=HQ1.out.unfrozen 0
      have q1:=HQ1.out.unfrozen 1
      have q2:=HQ1.out.unfrozen 2
      have q3:=HQ1.out.unfrozen 3
      have q4:=HQ1.out.unfrozen 4
      have c0:=HQ1.out.cell 0
      have c1:=HQ1.out.cell 1
      have c2:=HQ1.out.cell 2
      have c3:=HQ1.out.cell 3
      have c4:=HQ1.out.cell 4
      go_wp2_with (fail)
      go_region
      go_wp2_with (fail)
      refine bodyPost_ret (results_tct rfl _ _ (B+1) 74 (bitsA h) (0,0) _ rfl (putB_blk (g:=fun _ => false) HQ1.out h) Tryz.underlying74 rfl (by kernel_rfl)) rfl ?_
      exact take_bad HR2.out HB.out HB1.out
    have HCU:=Lib.hid (show b=false→l≠[] from fun hb hl => hno ⟨hb,hl⟩)
    clear hno
    go_upto_region 2 with (fail)
    go_cut [32] (fun c wx => c=.bool false∧wx=w1)
    case first =>
      cases b with
      | true =>
        go_wp2_with (fail)
        go_meet
        exact ⟨rfl,rfl⟩
      | false =>
        have dl:decide (l.length=0)=false:=decide_eq_false fun h0 => HCU.out rfl (List.eq_nil_of_length_eq_zero h0)
        have dl2:(((l.length:Int)) == 0)=false:=by
          rw [decide_eq_false_iff_not] at dl
          simp only [beq_eq_false_iff_ne,ne_eq]
          omega
        go_wp2_with (fail)
        go_meet
        exact ⟨rfl,rfl⟩
    case rest =>
      obtain ⟨rfl,rfl⟩:=hcut
      go_upto_if 35 with (fail)
      go_cut [0] (fun v0 wx => TJ w base B R a k v v0 wx)
      case first =>
        cases b with
        | false =>
          have HNE:Hid (l≠[]):=Lib.hid (HCU.out rfl)
          have HR2:=Lib.hid (show R=fieldN a l has k v from HR1.out.trans (by rw [if_neg (by simp),if_neg HNE.out]))
          clear HCU HR1
          go_wp2_with (fail)
          go_meet
          exact ⟨l,h,has,HL1.out,HNE.out,hn,HP1.out,HQ1.out,HH.out,HB1.out,HS1.out,HR2.out⟩
        | true =>
          have HR2:=Lib.hid (show R=if beginE l=0 then fieldN a (l++[Lk.zero]) [] k v else .bad a (beginE l) from HR1.out.trans (if_pos rfl))
          clear HR1 HCU
          go_wp2_with (fail)
          refine (check6_calls _ base _ l HL1.out (by omega)).mono ?_
          rintro e w2 ⟨rfl,hb2⟩
          have HP2:=Lib.hid (HP1.out.below hb2)
          have HQ2:=Lib.hid (HQ1.out.below hb2)
          have HL2:=Lib.hid (show Ls w2 base (.slice A l.length cc) l from pw_own_below HL1.out hb2)
          have HB2:=Lib.hid (below_then HB1.out (by have:=HB1.out.size;have:=HB.out;omega) hb2)
          have HS2:=Lib.hid (Nat.le_trans HS1.out hb2.size)
          clear hb2 HP1 HQ1 HL1 HB1 HS1
          by_cases hE:endedE l=0
          · by_cases h40:40≤l.length
            · have HR3:=Lib.hid (show R=.bad a 2 from HR2.out.trans (by unfold beginE;rw [if_pos hE,if_pos h40];rfl))
              have d40:decide (40≤l.length)=true:=decide_eq_true h40
              have d41:decide ((40:Int)≤(l.length:Int))=true:=decide_eq_true (by omega)
              rw [hE]
              clear hE
              have p0:=HP2.out.cell 0
              have p1:=HP2.out.cell 1
              have p2:=HP2.out.cell 2
              have p3:=HP2.out.cell 3
              have p4:=HP2.out.cell 4
              have q0:=HQ2.out.unfrozen 0
              have q1:=HQ2.out.unfrozen 1
              have q2:=HQ2.out.unfrozen 2
              have q3:=HQ2.out.unfrozen 3
              have q4:=HQ2.out.unfrozen 4
              have c0:=HQ2.out.cell 0
              have c1:=HQ2.out.cell 1
              have c2:=HQ2.out.cell 2
              have c3:=HQ2.out.cell 3
              have c4:=HQ2.out.cell 4
              go_wp2_with (fail)
              go_region
              go_wp2_with (fail)
              refine bodyPost_ret (results_tct rfl _ _ (B+1) 74 (bitsA h) (0,0) _ rfl (putB_blk (g:=fun _ => false) HQ2.out h) Tryz.underlying74 rfl (by kernel_rfl)) rfl ?_
              exact take_bad HR3.out HB.out HB2.out
            · have HR3:=Lib.hid (show R=fieldN a (l++[Lk.zero]) [] k v from HR2.out.trans (by unfold beginE;rw [if_pos hE,if_neg h40];rfl))
              have d40:decide (40≤l.length)=false:=decide_eq_false h40
              have d41:decide ((40:Int)≤(l.length:Int))=false:=decide_eq_false (by omega)
              rw [hE]
              clear hE
              have HO48:Hid (Ls (w2.alloc (.cells #[] 43)) B (.slice (some ⟨w2.heap.size,0,none⟩) 0 0) []):=Lib.hid (World.ownsRow_made w2 #[] 0 (by have:=HS2.out;omega) (Nat.zero_le _) rfl)
              have HB48:=Lib.hid (HB2.out.alloc (by have:=HS2.out;omega) (.cells #[] 43))
              have HL48:Hid (Ls (w2.alloc (.cells #[] 43)) base (.slice A l.length cc) l):=Lib.hid (pw_own_below HL2.out ((Below.refl _ w2).alloc (Nat.le_refl _) _))
              go_wp2_with ((with_reducible refine gate_builtin (b:=.append) (xs:=#[.tmp 48,.tmp 49]) rfl ?_);at_builtin;refine append_lks (w0:=w) B base rfl (.tmp 48) (.tmp 49) rfl _ [] l A l.length cc rfl rfl HO48.out HL48.out HB48.out (by rw [World.size_alloc];have:=HS2.out;omega) (by simp;omega) ?next)
              case next =>
                intro v50 w50 hl50 hb50 hg50 ho50
                have hz2:=HS2.out
                have hne:∀ k,k<w2.heap.size→some k≠(Value.slice (some ⟨w2.heap.size,0,none⟩) 0 0).ownBlock:=by
                  intro k hk he
                  simp only [Value.ownBlock,Option.some.injEq] at he
                  omega
                have HP50:=Lib.hid (show Blk w50 B 74 (bitsA h) from (hg50.block B (by rw [World.size_alloc];omega) (hne B (by omega))).trans (HP2.out.alloc _))
                have HQ50:=Lib.hid (show Blk w50 (B+1) 74 (bitsA fun _ => false) from (hg50.block (B+1) (by rw [World.size_alloc];omega) (hne (B+1) (by omega))).trans (HQ2.out.alloc _))
                have HS50:=Lib.hid (show B+2≤w50.heap.size from Nat.le_trans (by rw [World.size_alloc];omega) hg50.size)
                have HO50:Hid (∀ k,v50.ownBlock=some k→B+2≤k):=Lib.hid (by
                  intro k hk
                  rcases ho50 with e|⟨b,e,hb⟩
                  · rw [e] at hk
                    simp only [Value.ownBlock,Option.some.injEq] at hk
                    omega
                  · rw [e] at hk
                    injection hk with hk
                    omega)
                have HL50:=Lib.hid hl50
                have HB50:=Lib.hid hb50
                clear hl50 hb50 hg50 ho50 hne HO48 HB48 HL48 HP2 HQ2 HL2 HB2 HS2 hz2
                have HBS50:=Lib.hid (show B≤w50.heap.size by have:=HS50.out;omega)
                go_wp2_with (first|((with_reducible refine gate_builtin (b:=.append) (xs:=#[.tmp 50,.tmp 52]) rfl ?_);at_builtin;refine print_append_cells (w0:=w) B rfl (.tmp 50) (.tmp 52) 25 43 _ 5 80 rfl Tryz.underlying25 info39 rfl (by decide) (by decide) v50 l.length (lkCells l) Lk.zero.cells rfl rfl rfl Lk.one HL50.out HB50.out HBS50.out (by omega) ?next))
                case next =>
                  intro v53 w53 hl53 hb53 hg53 ho53
                  have hz5:=HS50.out
                  have hP53:Blk w53 B 74 (bitsA h):=(hg53.block B (by omega) (fun e => by have:=HO50.out B e.symm;omega)).trans HP50.out
                  have hQ53:Blk w53 (B+1) 74 (bitsA fun _ => false):=(hg53.block (B+1) (by omega) (fun e => by have:=HO50.out (B+1) e.symm;omega)).trans HQ50.out
                  have hL53:Ls w53 B v53 (l++[Lk.zero]):=Ls.snoc hl53
                  have HS53:=Lib.hid (show B+2≤w53.heap.size from Nat.le_trans hz5 hg53.size)
                  have p0:w53.cell? ⟨B,0,none⟩=some (.bool (h 0)):=hP53.cell 0
                  have p1:w53.cell? ⟨B,1,none⟩=some (.bool (h 1)):=hP53.cell 1
                  have p2:w53.cell? ⟨B,2,none⟩=some (.bool (h 2)):=hP53.cell 2
                  have p3:w53.cell? ⟨B,3,none⟩=some (.bool (h 3)):=hP53.cell 3
                  have p4:w53.cell? ⟨B,4,none⟩=some (.bool (h 4)):=hP53.cell 4
                  have q0:=hP53.unfrozen 0
                  have q1:=hP53.unfrozen 1
                  have q2:=hP53.unfrozen 2
                  have q3:=hP53.unfrozen 3
                  have q4:=hP53.unfrozen 4
                  have HP53:=Lib.hid hP53
                  have HQ53:=Lib.hid hQ53
                  have HL53:=Lib.hid hL53
                  have HB53:=Lib.hid hb53
                  clear hP53 hQ53 hL53 hb53 hl53 hg53 ho53 hz5 HP50 HQ50 HL50 HB50 HO50 HS50 HBS50
                  go_wp2_with (fail)
                  go_meet
                  exact TJ_new HBS.out HL53.out HP53.out HQ53.out HB53.out HS53.out (by omega) HB.out HR3.out
          · have HR3:=Lib.hid (show R=.bad a (endedE l) from HR2.out.trans (by unfold beginE;rw [if_neg hE,if_neg hE]))
            generalize endedE l=E at *
            have n1:(E != 0)=true:=by simpa using hE
            clear hE
            have p0:=HP2.out.cell 0
            have p1:=HP2.out.cell 1
            have p2:=HP2.out.cell 2
            have p3:=HP2.out.cell 3
            have p4:=HP2.out.cell 4
            have q0:=HQ2.out.unfrozen 0
            have q1:=HQ2.out.unfrozen 1
            have q2:=HQ2.out.unfrozen 2
            have q3:=HQ2.out.unfrozen 3
            have q4:=HQ2.out.unfrozen 4
            have c0:=HQ2.out.cell 0
            have c1:=HQ2.out.cell 1
            have c2:=HQ2.out.cell 2
            have c3:=HQ2.out.cell 3
            have c4:=HQ2.out.cell 4
            go_wp2_with (fail)
            go_region
            go_wp2_with (fail)
            refine bodyPost_ret (results_tct rfl _ _ (B+1) 74 (bitsA h) (0,0) _ rfl (putB_blk (g:=fun _ => false) HQ2.out h) Tryz.underlying74 rfl (by kernel_rfl)) rfl ?_
            exact take_bad HR3.out HB.out HB2.out
      case rest =>
        obtain ⟨l1,h1,has1,hl1,hne1,hn1,hP1,hQ1,hh1,hb1,hs1,hR1⟩:=hcut
        obtain ⟨A1,cc1,rfl⟩:=own_slice hl1
        have HL3:=Lib.hid hl1
        have HNE3:=Lib.hid hne1
        have HP3:=Lib.hid hP1
        have HQ3:=Lib.hid hQ1
        have HH3:=Lib.hid hh1
        have HB3:=Lib.hid hb1
        have HS3:=Lib.hid hs1
        have HR3:=Lib.hid hR1
        have pk:wc.cell? ⟨B,k,none⟩=some (.bool (h1 k)):=by
          rcases k with _|_|_|_|_|k
          · exact hP1.cell 0
          · exact hP1.cell 1
          · exact hP1.cell 2
          · exact hP1.cell 3
          · exact hP1.cell 4
          · omega
        have b5:(0:Int)≤(k:Int)∧(k:Int)<5:=⟨by omega,by omega⟩
        have fk:=hP1.unfrozen k
        clear hl1 hne1 hP1 hQ1 hh1 hb1 hs1 hR1 HR1 HCU
        have hhk:h1 k=hasB has1 k:=HH3.out k hk5
        cases hb:h1 k with
        | true =>
          rw [hb] at pk hhk
          have HR4:=Lib.hid (show R=.bad a 4 from HR3.out.trans (by unfold fieldN;rw [if_pos hhk.symm]))
          clear hb hhk
          have p0:wc.cell? ⟨B,0,none⟩=some (.bool (h1 0)):=HP3.out.cell 0
          have p1:wc.cell? ⟨B,1,none⟩=some (.bool (h1 1)):=HP3.out.cell 1
          have p2:wc.cell? ⟨B,2,none⟩=some (.bool (h1 2)):=HP3.out.cell 2
          have p3:wc.cell? ⟨B,3,none⟩=some (.bool (h1 3)):=HP3.out.cell 3
          have p4:wc.cell? ⟨B,4,none⟩=some (.bool (h1 4)):=HP3.out.cell 4
          have q0:wc.frozen? ⟨B+1,0,none⟩=false:=HQ3.out.unfrozen 0
          have q1:wc.frozen? ⟨B+1,1,none⟩=false:=HQ3.out.unfrozen 1
          have q2:wc.frozen? ⟨B+1,2,none⟩=false:=HQ3.out.unfrozen 2
          have q3:wc.frozen? ⟨B+1,3,none⟩=false:=HQ3.out.unfrozen 3
          have q4:wc.frozen? ⟨B+1,4,none⟩=false:=HQ3.out.unfrozen 4
          have c0:wc.cell? ⟨B+1,0,none⟩=some (.bool false):=HQ3.out.cell 0
          have c1:wc.cell? ⟨B+1,1,none⟩=some (.bool false):=HQ3.out.cell 1
          have c2:wc.cell? ⟨B+1,2,none⟩=some (.bool false):=HQ3.out.cell 2
          have c3:wc.cell? ⟨B+1,3,none⟩=some (.bool false):=HQ3.out.cell 3
          have c4:wc.cell? ⟨B+1,4,none⟩=some (.bool false):=HQ3.out.cell 4
          go_wp2_with (fail)
          go_region
          go_wp2_with (fail)
          refine bodyPost_ret (results_tct rfl _ _ (B+1) 74 (bitsA h1) (0,0) _ rfl (putB_blk (g:=fun _ => false) HQ3.out h1) Tryz.underlying74 rfl (by kernel_rfl)) rfl ?_
          exact take_bad HR4.out HB.out HB3.out
        | false =>
          rw [hb] at pk hhk
          have HHK:=Lib.hid hhk
          have HR4:=Lib.hid (HR3.out.trans (fieldN_no hhk.symm))
          have HRT:Hid (∀ w,Calls Tryz.prog 68 #[.string (bs v)] w fun e w' => e=.returned (.bool (rightL v))∧Below w.heap.size w w'):=Lib.hid (fun w => by
            have:=right4_f (bs v) (by rw [size_bs];omega)
            rw [data_bs] at this
            exact transhumanceref4_Right.calls _ _ _ w this)
          clear hb hhk
          go_upto_region 13 with (fail)
          clear pk fk
          go_cut [70] (fun c wx => c=.bool ((k == 0 || k == 4) && !rightL v)∧Below wc.heap.size wc wx)
          case first =>
            by_cases hk0:k=0
            · have n5:((k:Int) == 0)=true:=by rw [hk0];rfl
              have HK0:=Lib.hid hk0
              clear hk0
              go_wp2_with (fail)
              refine (HRT.out _).mono ?_
              rintro en w7 ⟨rfl,hb⟩
              have HB:=Lib.hid hb
              clear hb
              go_wp2_with (fail)
              go_meet
              exact ⟨by rw [HK0.out];rfl,HB.out⟩
            · have n5:((k:Int) == 0)=false:=by simp only [beq_eq_false_iff_ne,ne_eq];omega
              by_cases hk4:k=4
              · have n6:((k:Int) == 4)=true:=by rw [hk4];rfl
                have HK0:=Lib.hid hk4
                clear hk0 hk4
                go_wp2_with (fail)
                refine (HRT.out _).mono ?_
                rintro en w7 ⟨rfl,hb⟩
                have HB:=Lib.hid hb
                clear hb
                go_wp2_with (fail)
                go_meet
                exact ⟨by rw [HK0.out];rfl,HB.out⟩
              · have n6:((k:Int) == 4)=false:=by simp only [beq_eq_false_iff_ne,ne_eq];omega
                have hnn:(k == 0 || k == 4)=false:=by
                  have e0:(k == 0)=false:=by simpa using hk0
                  have e4:(k == 4)=false:=by simpa using hk4
                  rw [e0,e4]
                  rfl
                have HNN:=Lib.hid hnn
                clear hk0 hk4 hnn
                go_wp2_with (fail)
                go_meet
                exact ⟨by rw [HNN.out];rfl,Below.refl _ _⟩
          case rest =>
            obtain ⟨rfl,hb⟩:=hcut
            have HP4:=Lib.hid (HP3.out.below hb)
            have HQ4:=Lib.hid (HQ3.out.below hb)
            have HL4:=Lib.hid (show Ls wc base (.slice A1 l1.length cc1) l1 from pw_own_below HL3.out hb)
            have HB4:=Lib.hid (below_then HB3.out (by have:=HB3.out.size;have:=HB.out;omega) hb)
            have HS4:=Lib.hid (Nat.le_trans HS3.out hb.size)
            clear hb HP3 HQ3 HL3 HB3 HS3
            cases hbad:((k == 0 || k == 4) && !rightL v) with
            | true =>
              have HR5:=Lib.hid (HR4.out.trans (if_pos hbad))
              clear hbad
              have p0:wc.cell? ⟨B,0,none⟩=some (.bool (h1 0)):=HP4.out.cell 0
              have p1:wc.cell? ⟨B,1,none⟩=some (.bool (h1 1)):=HP4.out.cell 1
              have p2:wc.cell? ⟨B,2,none⟩=some (.bool (h1 2)):=HP4.out.cell 2
              have p3:wc.cell? ⟨B,3,none⟩=some (.bool (h1 3)):=HP4.out.cell 3
              have p4:wc.cell? ⟨B,4,none⟩=some (.bool (h1 4)):=HP4.out.cell 4
              have q0:wc.frozen? ⟨B+1,0,none⟩=false:=HQ4.out.unfrozen 0
              have q1:wc.frozen? ⟨B+1,1,none⟩=false:=HQ4.out.unfrozen 1
              have q2:wc.frozen? ⟨B+1,2,none⟩=false:=HQ4.out.unfrozen 2
              have q3:wc.frozen? ⟨B+1,3,none⟩=false:=HQ4.out.unfrozen 3
              have q4:wc.frozen? ⟨B+1,4,none⟩=false:=HQ4.out.unfrozen 4
              have c0:wc.cell? ⟨B+1,0,none⟩=some (.bool false):=HQ4.out.cell 0
              have c1:wc.cell? ⟨B+1,1,none⟩=some (.bool false):=HQ4.out.cell 1
              have c2:wc.cell? ⟨B+1,2,none⟩=some (.bool false):=HQ4.out.cell 2
              have c3:wc.cell? ⟨B+1,3,none⟩=some (.bool false):=HQ4.out.cell 3
              have c4:wc.cell? ⟨B+1,4,none⟩=some (.bool false):=HQ4.out.cell 4
              go_wp2_with (fail)
              go_region
              go_wp2_with (fail)
              refine bodyPost_ret (results_tct rfl _ _ (B+1) 74 (bitsA h1) (0,0) _ rfl (putB_blk (g:=fun _ => false) HQ4.out h1) Tryz.underlying74 rfl (by kernel_rfl)) rfl ?_
              exact take_bad HR5.out HB.out HB4.out
            | false =>
              have HR5:=Lib.hid (HR4.out.trans (if_neg (by rw [hbad];simp)))
              clear hbad
              have pk:wc.cell? ⟨B,k,none⟩=some (.bool (h1 k)):=by
                rcases k with _|_|_|_|_|k
                · exact HP4.out.cell 0
                · exact HP4.out.cell 1
                · exact HP4.out.cell 2
                · exact HP4.out.cell 3
                · exact HP4.out.cell 4
                · omega
              have fk:=HP4.out.unfrozen k
              go_upto_region 16 with (fail)
              have hf5:Fr (·=B) wc (wc.setCell ⟨B,k,none⟩ (.bool true)):=(Fr.refl (·=B) wc).put (.inl rfl) _
              have HP5:=Lib.hid (bits_put HP4.out k hk5)
              have HQ5:=Lib.hid (HQ4.out.fr hf5 (by omega))
              have HL5:Hid (Ls (wc.setCell ⟨B,k,none⟩ (.bool true)) base (.slice A1 l1.length cc1) l1):=Lib.hid (HL4.out.keep hf5 (Blk.ty HP4.out (by decide)))
              have HB5:=Lib.hid (HB4.out.trans (hf5.below (by have:=HB4.out.size;have:=HB.out;omega) (fun k hk => by rw [hk];exact Nat.le_refl _)))
              have HS5:=Lib.hid (Nat.le_trans HS4.out hf5.size)
              clear hf5 pk fk HP4 HQ4 HL4 HB4 HS4
              generalize wc.setCell ⟨B,k,none⟩ (.bool true)=w5 at *
              have HO75:Hid (Ls (w5.alloc (.cells #[] 43)) B (.slice (some ⟨w5.heap.size,0,none⟩) 0 0) []):=Lib.hid (World.ownsRow_made w5 #[] 0 (by have:=HS5.out;omega) (Nat.zero_le _) rfl)
              have HB75:=Lib.hid (HB5.out.alloc (by have:=HS5.out;omega) (.cells #[] 43))
              have HL75:Hid (Ls (w5.alloc (.cells #[] 43)) base (.slice A1 l1.length cc1) l1):=Lib.hid (pw_own_below HL5.out ((Below.refl _ w5).alloc (Nat.le_refl _) _))
              go_wp2_with ((with_reducible refine gate_builtin (b:=.append) (xs:=#[.tmp 75,.tmp 76]) rfl ?_);at_builtin;refine append_lks (w0:=w) B base rfl (.tmp 75) (.tmp 76) rfl _ [] l1 A1 l1.length cc1 rfl rfl HO75.out HL75.out HB75.out (by rw [World.size_alloc];have:=HS5.out;omega) (by simp;omega) ?next)
              case next =>
                intro v77 w77 hl77 hb77 hg77 ho77
                have hz5:=HS5.out
                have hne:∀ k,k<w5.heap.size→some k≠(Value.slice (some ⟨w5.heap.size,0,none⟩) 0 0).ownBlock:=by
                  intro k hk he
                  simp only [Value.ownBlock,Option.some.injEq] at he
                  omega
                have HP7:=Lib.hid (show Blk w77 B 74 (bitsA fun j => if j=k then true else h1 j) from (hg77.block B (by rw [World.size_alloc];omega) (hne B (by omega))).trans (HP5.out.alloc _))
                have HQ7:=Lib.hid (show Blk w77 (B+1) 74 (bitsA fun _ => false) from (hg77.block (B+1) (by rw [World.size_alloc];omega) (hne (B+1) (by omega))).trans (HQ5.out.alloc _))
                have HS7:=Lib.hid (show B+2≤w77.heap.size from Nat.le_trans (by rw [World.size_alloc];omega) hg77.size)
                have hL7:Ls w77 B v77 l1:=hl77
                obtain ⟨init,x,hlx⟩:∃ init x,l1=init++[x]:=by
                  rcases List.eq_nil_or_concat l1 with h0|⟨init,x,h0⟩
                  · exact absurd h0 HNE3.out
                  · exact ⟨init,x,by rw [h0,List.concat_eq_append]⟩
                have HB7:=Lib.hid hb77
                clear hl77 hb77 hg77 ho77 hne HO75 HB75 HL75 HP5 HQ5 HL5 HB5 HS5 hz5 HNE3
                subst hlx
                obtain ⟨q,c7,rfl,at_⟩:=hL7.at_ (by simp)
                have HLX:=Lib.hid (show (init++[x]).length=init.length+1 by simp)
                have hlz:=HLX.out
                have i11:IntKind.i64.wrap (((init++[x]).length:Int) - 1)=(init.length:Int):=by rw [IntWalk.i64_in _ ⟨by omega,by omega⟩];omega
                have q0:=at_.cell init.length 0 (by omega) (by decide)
                have q1:=at_.cell init.length 1 (by omega) (by decide)
                have q2:=at_.cell init.length 2 (by omega) (by decide)
                have q3:=at_.cell init.length 3 (by omega) (by decide)
                have q4:=at_.cell init.length 4 (by omega) (by decide)
                have hgx:(init++[x])[init.length]'(by omega)=x:=by simp
                rw [hgx] at q0 q1 q2 q3 q4
                simp only [Lk.cells,List.getElem?_cons_zero,List.getElem?_cons_succ,Nat.add_zero] at q0 q1 q2 q3 q4
                have HSET:=Lib.hid (fun W => set_calls x k hk5 (bs v) W)
                have b0:(0:Int)≤(init.length:Int)∧(init.length:Int)<((init++[x]).length:Int):=by omega
                have HAT:=Lib.hid at_
                have HL7:=Lib.hid hL7
                have HR6:=Lib.hid (HR5.out.trans (lastN_snoc a init x has1 k v))
                clear at_ hL7 hgx HR5
                go_wp2_with (fail)
                refine (HSET.out _).mono ?_
                rintro e w8 ⟨rfl,hb8⟩
                have hql:=HAT.out.lt
                have z0:=pw_cell_below hb8 q0
                have z1:=pw_cell_below hb8 q1
                have z2:=pw_cell_below hb8 q2
                have z3:=pw_cell_below hb8 q3
                have z4:=pw_cell_below hb8 q4
                have y0:w8.frozen? ⟨q,init.length * 5,none⟩=false:=(hb8.frozen (p:=⟨q,init.length * 5,none⟩) hql).trans (lsat_free HAT.out _)
                have y1:w8.frozen? ⟨q,init.length * 5+1,none⟩=false:=(hb8.frozen (p:=⟨q,init.length * 5+1,none⟩) hql).trans (lsat_free HAT.out _)
                have y2:w8.frozen? ⟨q,init.length * 5+2,none⟩=false:=(hb8.frozen (p:=⟨q,init.length * 5+2,none⟩) hql).trans (lsat_free HAT.out _)
                have y3:w8.frozen? ⟨q,init.length * 5+3,none⟩=false:=(hb8.frozen (p:=⟨q,init.length * 5+3,none⟩) hql).trans (lsat_free HAT.out _)
                have y4:w8.frozen? ⟨q,init.length * 5+4,none⟩=false:=(hb8.frozen (p:=⟨q,init.length * 5+4,none⟩) hql).trans (lsat_free HAT.out _)
                have HPN:=Lib.hid (lsat_ne HAT.out HP7.out (by decide))
                have HQN:=Lib.hid (lsat_ne HAT.out HQ7.out (by decide))
                have HQB:=Lib.hid HAT.out.base
                have HP8:=Lib.hid (HP7.out.below hb8)
                have HQ8:=Lib.hid (HQ7.out.below hb8)
                have hL8:Ls w8 B (.slice (some ⟨q,0,none⟩) (init++[x]).length c7) (init++[x]):=pw_own_below HL7.out hb8
                rw [HLX.out] at hL8
                have HL8:=Lib.hid hL8
                have HB8:=Lib.hid (below_then HB7.out (by have:=HB7.out.size;have:=HB.out;omega) hb8)
                clear hb8 hql q0 q1 q2 q3 q4 HP7 HQ7 HL7 HB7 hL8 HAT
                generalize hyx:x.set k (ofL v)=y at *
                have hyb:x.set k (bs v)=y:=hyx
                rw [hyb]
                clear hyx hyb HSET
                go_upto_region 18 with (fail)
                have hf9:=Fr.put5 w8 (·=q) q (init.length * 5) rfl (.string y.root) (.string y.version) (.string y.rev) (.string y.within) (.string y.source)
                have hL9:=HL8.out.put5 y
                have hP9:=HP8.out.fr hf9 HPN.out
                have hQ9:=HQ8.out.fr hf9 HQN.out
                have hB9:Below B w _:=HB8.out.trans (hf9.below (by have:=HB8.out.size;have:=HB.out;omega) (fun k hk => by rw [hk];exact HQB.out))
                clear z0 z1 z2 z3 z4 y0 y1 y2 y3 y4 hf9 HP8 HQ8 HL8 HB8
                generalize (((((w8.setCell ⟨q,init.length * 5,none⟩ (.string y.root)).setCell ⟨q,init.length * 5+1,none⟩ (.string y.version)).setCell ⟨q,init.length * 5+2,none⟩ (.string y.rev)).setCell ⟨q,init.length * 5+3,none⟩ (.string y.within)).setCell ⟨q,init.length * 5+4,none⟩ (.string y.source))=w9 at *
                have HL9:=Lib.hid (own_lower hL9 HBS.out)
                have HP9:=Lib.hid hP9
                have HQ9:=Lib.hid hQ9
                have HB9:=Lib.hid hB9
                have HH9:=Lib.hid (has_add HH3.out k hk5)
                clear hL9 hP9 hQ9 hB9
                generalize hg:(fun j => if j=k then true else h1 j)=g1 at *
                have HH9:Hid (∀ j,j<5→g1 j=hasB (has1++[nm k]) j):=Lib.hid (by rw [← hg];exact HH9.out)
                clear hg
                have p0:w9.cell? ⟨B,0,none⟩=some (.bool (g1 0)):=HP9.out.cell 0
                have p1:w9.cell? ⟨B,1,none⟩=some (.bool (g1 1)):=HP9.out.cell 1
                have p2:w9.cell? ⟨B,2,none⟩=some (.bool (g1 2)):=HP9.out.cell 2
                have p3:w9.cell? ⟨B,3,none⟩=some (.bool (g1 3)):=HP9.out.cell 3
                have p4:w9.cell? ⟨B,4,none⟩=some (.bool (g1 4)):=HP9.out.cell 4
                have q0:w9.frozen? ⟨B+1,0,none⟩=false:=HQ9.out.unfrozen 0
                have q1:w9.frozen? ⟨B+1,1,none⟩=false:=HQ9.out.unfrozen 1
                have q2:w9.frozen? ⟨B+1,2,none⟩=false:=HQ9.out.unfrozen 2
                have q3:w9.frozen? ⟨B+1,3,none⟩=false:=HQ9.out.unfrozen 3
                have q4:w9.frozen? ⟨B+1,4,none⟩=false:=HQ9.out.unfrozen 4
                have c0:w9.cell? ⟨B+1,0,none⟩=some (.bool false):=HQ9.out.cell 0
                have c1:w9.cell? ⟨B+1,1,none⟩=some (.bool false):=HQ9.out.cell 1
                have c2:w9.cell? ⟨B+1,2,none⟩=some (.bool false):=HQ9.out.cell 2
                have c3:w9.cell? ⟨B+1,3,none⟩=some (.bool false):=HQ9.out.cell 3
                have c4:w9.cell? ⟨B+1,4,none⟩=some (.bool false):=HQ9.out.cell 4
                go_wp2_with (fail)
                go_region
                go_wp2_with (fail)
                refine bodyPost_ret (results_tct rfl _ _ (B+1) 74 (bitsA g1) (0,0) _ rfl (putB_blk (g:=fun _ => false) HQ9.out g1) Tryz.underlying74 rfl (by kernel_rfl)) rfl ?_
                exact take_ok HR6.out HB.out HB9.out HL9.out HH9.out HQ9.out
end
end Go.Proofs.YtjdjljgbfpkbdaaGreatDoor.Q
end
section
namespace Go.Proofs.YtjdjljgbfpkbdaaGreatDoor.Q
open Go.RowKit Go.Shelf Go.Proofs.YtjdjljgbfpkbdaaGreatDoorW.PrintWords Go.Proofs.YtjdjljgbfpkbdaaGreatDoorW.PrintLast Go.Proofs.YtjdjljgbfpkbdaaGreatDoorW.PrintMore
attribute [local go_sem] Oper.semAt_some
theorem scalar_rows {α:Type} {d:Kd α} {enc:α→Value} (hsz:d.sz=1) {e:Nat} {w:World} {base:Nat} {ok:Nat→Prop} {v:Value} {l:List α} (hM:∀ (o:Nat→Prop) x cs,d.M w base o x cs→cs=[enc x]) (h:d.R e w base ok v l) :
    ∃ A c,v=.slice A l.length c∧∀ j (hj:j<l.length),∃ q,A=some ⟨q,0,none⟩∧q<w.heap.size∧w.cell? ⟨q,j,none⟩=some (enc l[j]):=by
  obtain ⟨_,inner,hown,hr⟩:=h
  rw [hsz] at hown hr
  obtain ⟨_,h2⟩:=hown
  rcases h2 with ⟨rfl,hn⟩|⟨q,cap,cs,rfl,hb,hh,hle,hcap,hs,ht⟩
  · exact ⟨none,0,by rw [hn],fun j hj => by omega⟩
  · refine ⟨_,_,rfl,fun j hj => ⟨q,rfl,(Array.getElem?_eq_some_iff.1 hh).1,?_⟩⟩
    have h1:=hM _ _ _ (hr.2 j l[j] (List.getElem?_eq_getElem hj))
    rw [Nat.mul_one] at h1
    have h3:inner[j]?=some (enc l[j]):=by
      have h4:((inner.drop j).take 1)[0]?=some (enc l[j]):=by rw [h1];rfl
      rw [List.getElem?_take,if_pos (by omega),List.getElem?_drop] at h4
      simpa using h4
    rw [← ht,List.getElem?_take] at h3
    split at h3
    · simp only [World.cell?,hh]
      simpa using h3
    · cases h3
def spanR:List (List UInt8)→Nat
  | [] => 0
  | x :: R => x.length+1+spanR R
theorem spanR_len:∀ R:List (List UInt8),R.length≤spanR R
  | [] => Nat.le_refl _
  | x :: R => by
    have:=spanR_len R
    simp only [spanR,List.length_cons]
    omega
theorem spanR_rows:∀ (rs:List (List UInt8)) (last:List UInt8),spanR (rs++tailR last)≤((rs.map fun l => l++[10]).flatten++last).length+1
  | [],last => by
    unfold tailR
    split
    · simp [spanR]
    · simp [spanR]
  | r :: rs,last => by
    have:=spanR_rows rs last
    simp only [List.cons_append,spanR,List.map_cons,List.flatten_cons,List.length_append,List.length_cons,List.length_nil] at this ⊢
    omega
theorem offs_at:∀ (pre rest:List (List UInt8)) (x:List UInt8) (a:Nat) (h:pre.length<(offs a (pre++x :: rest)).length),(offs a (pre++x :: rest))[pre.length]=((a+spanR pre:Nat):Int)
  | [],rest,x,a,h => by simp [offs,spanR]
  | p :: pre,rest,x,a,h => by
    have:=offs_at pre rest x (a+p.length+1) (by rw [offs_len];simp)
    simp only [List.cons_append,offs,List.length_cons,List.getElem_cons_succ,spanR]
    rw [this]
    omega
theorem spanR_append:∀ (A B:List (List UInt8)),spanR (A++B)=spanR A+spanR B
  | [],B => by simp [spanR]
  | x :: A,B => by
    have:=spanR_append A B
    simp only [List.cons_append,spanR]
    omega
theorem runR_cons (x:List UInt8) (R:List (List UInt8)) (a:Nat) (b:Bool) (l:List Lk) (has:List ByteArray):runR (x :: R) a b l has=match (rowR x a b l has).2 with|.ok l' has' => runR R (a+x.length+1) (rowR x a b l has).1 l' has'|.bad w e => .bad w e:=rfl
theorem runR_mute {x:List UInt8} {rest:List (List UInt8)} {a:Nat} {b:Bool} {l:List Lk} {has:List ByteArray} (h:Lib.trimLeftB x 32=[]∨(Lib.trimLeftB x 32).head?=some 35):runR (x :: rest) a b l has=runR rest (a+x.length+1) b l has:=by
  have e:rowR x a b l has=(b,.ok l has):=by unfold rowR;rw [if_pos h]
  rw [runR_cons,e]
theorem runR_line {x:List UInt8} {rest:List (List UInt8)} {a:Nat} {l:List Lk} {has:List ByteArray} (h:¬ (Lib.trimLeftB x 32=[]∨(Lib.trimLeftB x 32).head?=some 35)):runR (x :: rest) a true l has=match lineD x (a+blankN x) l has with|.ok l' has' => runR rest (a+x.length+1) true l' has'|.bad w e => .bad w e:=by
  have e:rowR x a true l has=(true,lineD x (a+blankN x) l has):=by unfold rowR;rw [if_neg h,if_pos rfl]
  rw [runR_cons,e]
theorem runR_word {x:List UInt8} {rest:List (List UInt8)} {a:Nat} {l:List Lk} {has:List ByteArray} (h:¬ (Lib.trimLeftB x 32=[]∨(Lib.trimLeftB x 32).head?=some 35)):runR (x :: rest) a false l has=if x=locksWordL then runR rest (a+x.length+1) true l has else .bad (a+blankN x) 1:=by
  by_cases hx:x=locksWordL
  · have e:rowR x a false l has=(true,.ok l has):=by unfold rowR;rw [if_neg h,if_neg (by simp),if_pos hx]
    rw [runR_cons,e,if_pos hx]
  · have e:rowR x a false l has=(false,.bad (a+blankN x) 1):=by unfold rowR;rw [if_neg h,if_neg (by simp),if_neg hx]
    rw [runR_cons,e,if_neg hx]
theorem row_head {x:List UInt8} {y:ByteArray} (hy:y.data.toList=x) {c:UInt8} {t:List UInt8} (h:Lib.trimLeftB x 32=c :: t):∃ hlt:blankN x<y.size,y[blankN x]=c:=by
  have hs:x.takeWhile (· == 32)++Lib.trimLeftB x 32=x:=List.takeWhile_append_dropWhile
  rw [h] at hs
  obtain ⟨hlt,hc⟩:=at_mid (s:=y) (a:=x.takeWhile (· == 32)) (b:=t) (c:=c) (by rw [hy,hs])
  have e:=blankN_eq x
  refine ⟨by omega,?_⟩
  simp only [e]
  exact hc
theorem row_empty {x:List UInt8} (h:Lib.trimLeftB x 32=[]):blankN x=x.length:=by
  unfold blankN
  rw [h]
  rfl
theorem spanR_snoc (A:List (List UInt8)) (x:List UInt8):spanR (A++[x])=spanR A+x.length+1:=by
  rw [spanR_append]
  simp only [spanR]
  omega
theorem lines_count:∀ rs:List (List UInt8),rs.length≤((rs.map fun l => l++[10]).flatten).length
  | [] => Nat.le_refl _
  | r :: rs => by
    have:=lines_count rs
    simp only [List.map_cons,List.flatten_cons,List.length_append,List.length_cons,List.length_nil]
    omega
theorem rows_plain (rs:List (List UInt8)) (last s:List UInt8) (h:s=(rs.map fun l => l++[10]).flatten++last) (hp:s.all plainB=true):∀ r ∈ rs++tailR last,r.all plainB=true∧r.length≤s.length:=by
  intro r hr
  have hsub:r.Sublist s:=by
    rw [h]
    rcases List.mem_append.1 hr with hr|hr
    · refine List.Sublist.trans ?_ (List.sublist_append_left _ _)
      have h1:(r++[10]).Sublist ((rs.map fun l => l++[10]).flatten):=List.sublist_flatten_of_mem (List.mem_map.2 ⟨r,hr,rfl⟩)
      exact (List.sublist_append_left r [10]).trans h1
    · unfold tailR at hr
      split at hr
      · simp at hr
      · simp only [List.mem_cons,List.not_mem_nil,or_false] at hr
        subst hr
        exact List.sublist_append_right _ _
  exact ⟨List.all_eq_true.2 fun b hb => List.all_eq_true.1 hp b (hsub.subset hb),hsub.length_le⟩
theorem locks7_badp {w W wp:World} {s:ByteArray} {B wh:Nat} {e:Int} (hlo:locksD s.data.toList=([],wh,e)) (hne:e≠0) (hB:w.heap.size=B) (h1:Below B w W) (h2:Below W.heap.size W wp) (x y:Value) :
    LocksPost w s (.returned (.tuple #[.slice none 0 0,.agg #[.int .i64 (place (s.data.toList.take wh)).1,.int .i64 (place (s.data.toList.take wh)).2],.int .i64 e])) ((wp.setCell ⟨B,0,none⟩ x).setCell ⟨B,1,none⟩ y):=by
  refine ⟨.slice none 0 0,?_,?_,?_⟩
  · unfold locksDV placeV
    rw [hlo]
    simp only [if_neg hne]
  · rw [hlo]
    exact own_nil _ _ _ 5
  · subst hB
    have hb:=below_then h1 h1.size h2
    exact (hb.setCell (p:=⟨w.heap.size,0,none⟩) (Nat.le_refl _) x).setCell (p:=⟨w.heap.size,1,none⟩) (Nat.le_refl _) y
theorem locks7_goodp {w wp:World} {s:ByteArray} {B H:Nat} {la:List Lk} {v:Value} {cs:Array Value} (hlo:locksD s.data.toList=(la,0,0)) (hB:w.heap.size=B) (hH:B<H) (h1:Below B w wp) (hl:Ls wp (H+1) v la) (hp:Blk wp B 29 cs) (x y:Value) :
    LocksPost w s (.returned (.tuple #[v,.agg #[.int .i64 0,.int .i64 0],.int .i64 0])) ((wp.setCell ⟨B,0,none⟩ x).setCell ⟨B,1,none⟩ y):=by
  refine ⟨v,?_,?_,?_⟩
  · unfold locksDV
    rw [hlo]
    rfl
  · rw [hlo]
    have hf:Fr (·=B) wp ((wp.setCell ⟨B,0,none⟩ x).setCell ⟨B,1,none⟩ y):=((Fr.refl (·=B) wp).put (p:=⟨B,0,none⟩) (.inl rfl) x).put (p:=⟨B,1,none⟩) (.inl rfl) y
    exact own_lower (Ls.keep hl hf (Blk.ty hp (by decide))) (by omega)
  · subst hB
    exact (h1.setCell (p:=⟨w.heap.size,0,none⟩) (Nat.le_refl _) x).setCell (p:=⟨w.heap.size,1,none⟩) (Nat.le_refl _) y
theorem place7_calls (s:ByteArray) (wh:Nat) (hwh:wh≤s.size) (hs:s.size≤140737488351232) (w:World) :
    Calls Tryz.prog 36 #[.string s,.int .i64 wh] w fun e w' => e=.returned (.agg #[.int .i64 (place (s.data.toList.take wh)).1,.int .i64 (place (s.data.toList.take wh)).2])∧Below w.heap.size w w':=by
  obtain ⟨k,hk⟩:=ev_at (place_ev s (by omega) wh hwh)
  exact transhumanceref1_Place.calls k _ _ _ _ w hk
structure S7 (w wr:World) (B H:Nat) (A6 A7:Option Addr) (R:List (List UInt8)) (v8:Value) (l:List Lk) (has:List ByteArray):Prop where
  ls:Ls wr (H+1) v8 l
  bits:∃ h,Blk wr H 74 (bitsA h)∧∀ k,k<5→h k=hasB has k
  place:Blk wr B 29 #[.int .i64 0,.int .i64 0]
  below:Below B w wr
  size:H<wr.heap.size
  lt:B<H
  few:l.length≤40
  rows:∀ j (h:j<R.length),∃ q,A6=some ⟨q,0,none⟩∧q<H∧wr.cell? ⟨q,j,none⟩=some (.string (bs R[j]))
  ats:∀ j (h:j<R.length),∃ q,A7=some ⟨q,0,none⟩∧q<H∧wr.cell? ⟨q,j,none⟩=some (.int .i64 ((offs 0 R)[j]'(by rw [offs_len];exact h)))
theorem S7.move {w wr wp:World} {B H:Nat} {A6 A7:Option Addr} {R:List (List UInt8)} {v8:Value} {l:List Lk} {has:List ByteArray} (h:S7 w wr B H A6 A7 R v8 l has) (hb:Below wr.heap.size wr wp) (hB:w.heap.size=B):S7 w wp B H A6 A7 R v8 l has:=by
  obtain ⟨g,hg1,hg2⟩:=h.bits
  have hz:=h.size
  have hbz:=h.below.size
  refine ⟨pw_own_below h.ls hb,⟨g,hg1.below hb,hg2⟩,h.place.below hb,below_then h.below (by omega) hb,Nat.lt_of_lt_of_le h.size hb.size,h.lt,h.few,?_,?_⟩
  · intro j hj
    obtain ⟨q,e,hq,hc⟩:=h.rows j hj
    exact ⟨q,e,hq,pw_cell_below hb hc⟩
  · intro j hj
    obtain ⟨q,e,hq,hc⟩:=h.ats j hj
    exact ⟨q,e,hq,pw_cell_below hb hc⟩
theorem S7.same {w wr W wp:World} {B H:Nat} {A6 A7:Option Addr} {R:List (List UInt8)} {v8:Value} {l:List Lk} {has:List ByteArray} (h:S7 w wr B H A6 A7 R v8 l has) (hb:Below W.heap.size W wp) (he:W.heap=wr.heap) (h1:W.os=wr.os) (h2:W.tape=wr.tape) (h3:W.output=wr.output) (hB:w.heap.size=B):S7 w wp B H A6 A7 R v8 l has :=
  h.move (by rw [← he];exact ⟨hb.os.trans h1,hb.tape.trans h2,hb.output.trans h3,by rw [← he];exact hb.size,fun k hk => by rw [← he];exact hb.block k hk⟩) hB
theorem ls_heap {w w':World} {base:Nat} {v:Value} {l:List Lk} (h:Ls w base v l) (e:w'.heap=w.heap):Ls w' base v l:=own_move h fun k _ => by rw [e]
theorem take_facts {w w0 W wp:World} {B H:Nat} {A6 A7:Option Addr} {R:List (List UInt8)} {v8:Value} {l:List Lk} {has:List ByteArray} {g:Nat→Bool} (hb:Below W.heap.size W wp) (he:W.heap=w0.heap) (h1:W.os=w0.os) (h2:W.tape=w0.tape) (h3:W.output=w0.output) (h:S7 w w0 B H A6 A7 R v8 l has) (hg:Blk w0 H 74 (bitsA g)) (hB:w.heap.size=B) :
    wp.cell? ⟨H,0,none⟩=some (.bool (g 0))∧wp.cell? ⟨H,1,none⟩=some (.bool (g 1))∧wp.cell? ⟨H,2,none⟩=some (.bool (g 2))∧wp.cell? ⟨H,3,none⟩=some (.bool (g 3))∧wp.cell? ⟨H,4,none⟩=some (.bool (g 4)) ∧
    wp.frozen? ⟨H,0,none⟩=false∧wp.frozen? ⟨H,1,none⟩=false∧wp.frozen? ⟨H,2,none⟩=false∧wp.frozen? ⟨H,3,none⟩=false∧wp.frozen? ⟨H,4,none⟩=false∧Hid (S7 w wp B H A6 A7 R v8 l has)∧Hid (Blk wp H 74 (bitsA g)):=by
  have hgp:=Blk.below' hg he hb
  exact ⟨hgp.cell 0,hgp.cell 1,hgp.cell 2,hgp.cell 3,hgp.cell 4,hgp.unfrozen 0,hgp.unfrozen 1,hgp.unfrozen 2,hgp.unfrozen 3,hgp.unfrozen 4,Lib.hid (h.same hb he h1 h2 h3 hB),Lib.hid hgp⟩
theorem cell_same {w0 W wp:World} {a:Addr} {v:Value} (hb:Below W.heap.size W wp) (he:W.heap=w0.heap) (hc:w0.cell? a=some v):wp.cell? a=some v:=by
  refine pw_cell_below hb ?_
  unfold World.cell? at hc ⊢
  rw [he]
  exact hc
theorem lineD_at {x:List UInt8} {a wh:Nat} {l:List Lk} {has:List ByteArray} {e:Int} (h:lineD x a l has=.bad wh e):wh=a:=by
  have fld:∀ (l:List Lk) (has:List ByteArray) (k:Nat) (v:List UInt8),fieldN a l has k v=.bad wh e→wh=a:=by
    intro l has k v h
    unfold fieldN at h
    split at h
    · injection h with h1;exact h1.symm
    · split at h
      · injection h with h1;exact h1.symm
      · split at h
        · injection h with h1;exact h1.symm
        · cases h
  rw [lineD_cls] at h
  split at h
  · injection h with h1;exact h1.symm
  · split at h
    · split at h
      · exact fld _ _ _ _ h
      · injection h with h1;exact h1.symm
    · split at h
      · injection h with h1;exact h1.symm
      · exact fld _ _ _ _ h
def put5B (w:World) (q:Nat) (h:Nat→Bool):World :=
  ((((w.setCell ⟨q,0,none⟩ (.bool (h 0))).setCell ⟨q,1,none⟩ (.bool (h 1))).setCell ⟨q,2,none⟩ (.bool (h 2))).setCell ⟨q,3,none⟩ (.bool (h 3))).setCell ⟨q,4,none⟩ (.bool (h 4))
theorem put5B_fr (w:World) (q:Nat) (h:Nat→Bool):Fr (·=q) w (put5B w q h) :=
  (((((Fr.refl (·=q) w).put (p:=⟨q,0,none⟩) (.inl rfl) (.bool (h 0))).put (p:=⟨q,1,none⟩) (.inl rfl) (.bool (h 1))).put (p:=⟨q,2,none⟩) (.inl rfl) (.bool (h 2))).put (p:=⟨q,3,none⟩) (.inl rfl) (.bool (h 3))).put (p:=⟨q,4,none⟩) (.inl rfl) (.bool (h 4))
theorem fr_cell {S:Nat→Prop} {w w':World} (h:Fr S w w') {p:Addr} {v:Value} (hc:w.cell? p=some v) (hS:¬ S p.block):w'.cell? p=some v:=by
  have hl:=World.block_lt_of_cell? w _ hc
  have e:=h.block p.block hl hS
  unfold World.cell? at hc ⊢
  rw [e]
  exact hc
theorem S7_next {w wp:World} {B H j A q7:Nat} {A6:Option Addr} {R:List (List UInt8)} {v8 v:Value} {l:List Lk} {has:List ByteArray} {g g2:Nat→Bool} {E:Int} {x:List UInt8} {rest:List (List UInt8)} {a':Nat} {R0:DRes} {c:Value}
    (hsw:S7 w wp B H A6 (some ⟨q7,0,none⟩) R v8 l has) (hgw:Blk wp H 74 (bitsA g)) (hB:w.heap.size=B) (hq7:q7<H) (hc7:wp.cell? ⟨q7,j,none⟩=some c)
    (hpo:match lineD x A l has with|.ok l' has' => E=0∧Ls wp (H+1) v l'∧(∀ k,k<5→g2 k=hasB has' k)|.bad _ e => E=e)
    (hrun:(match lineD x A l has with|.ok l' has' => runR rest a' true l' has'|.bad w e => .bad w e)=R0) :
    ∃ E':Int,Value.int .i64 E=.int .i64 E'∧((E'=0∧∃ (l':List Lk) (has':List ByteArray),Value.bool true=.bool true∧S7 w (put5B wp H g2) B H A6 (some ⟨q7,0,none⟩) R v l' has'∧runR rest a' true l' has'=R0) ∨
      (E'≠0∧R0=.bad A E'∧Blk (put5B wp H g2) B 29 #[.int .i64 0,.int .i64 0]∧Below B w (put5B wp H g2)∧(put5B wp H g2).cell? ⟨q7,j,none⟩=some c)):=by
  have hf:=put5B_fr wp H g2
  have hlt:=hsw.lt
  have hbel:Below B w (put5B wp H g2):=hsw.below.trans (hf.below (by have:=hsw.below.size;omega) (fun k hk => by rw [hk];omega))
  have hpl:Blk (put5B wp H g2) B 29 #[.int .i64 0,.int .i64 0]:=hsw.place.fr hf (by omega)
  have hinv:=line_inv (n:=A) (j:=has.length) (a:=A) (x:=x) (l:=l) (has:=has) (Nat.le_refl _) hsw.few (Nat.le_refl _)
  refine ⟨E,rfl,?_⟩
  cases hr:lineD x A l has with
  | ok l' has' =>
    rw [hr] at hpo hrun hinv
    obtain ⟨rfl,hls,hgk⟩:=hpo
    refine .inl ⟨rfl,l',has',rfl,⟨Ls.keep hls hf (Blk.ty hgw (by decide)),⟨g2,((((hgw.put 0 (.bool (g2 0))).put 1 (.bool (g2 1))).put 2 (.bool (g2 2))).put 3 (.bool (g2 3))).put 4 (.bool (g2 4)),hgk⟩,hpl,hbel,Nat.lt_of_lt_of_le hsw.size hf.size,hlt,hinv.1,?_,?_⟩,hrun⟩
    · intro j hj
      obtain ⟨q,e,hq,hc⟩:=hsw.rows j hj
      exact ⟨q,e,hq,fr_cell hf hc (by simp only;omega)⟩
    · intro j hj
      obtain ⟨q,e,hq,hc⟩:=hsw.ats j hj
      exact ⟨q,e,hq,fr_cell hf hc (by simp only;omega)⟩
  | bad wh e =>
    rw [hr] at hpo hrun hinv
    obtain rfl:E=e:=hpo
    have:=lineD_at hr
    subst this
    exact .inr ⟨hinv.2,hrun.symm,hpl,hbel,fr_cell hf hc7 (by simp only;omega)⟩
section
variable (w:World) (s:ByteArray)
set_option maxHeartbeats 1000000 in
set_option maxRecDepth 100000 in
theorem locks7_long (hs:s.size≤140737488351232) (hl:8000<s.size) :
    Calls Tryz.prog 16 #[.string s] w (LocksPost w s):=by
  have he:locksD s.data.toList=([],0,2):=by unfold locksD;rw [if_pos (by simpa using hl)]
  have HV:∀ v,locksDV s v=.tuple #[v,.agg #[.int .i64 1,.int .i64 1],.int .i64 2]:=fun v => by unfold locksDV;rw [he];rfl
  have HV:=Lib.hid HV
  have HE:=Lib.hid he
  clear he
  have hk:=Blk.new w 29 #[.int .i64 0,.int .i64 0]
  have k0:=hk.cell 0
  have k1:=hk.cell 1
  have f0:=hk.unfrozen 0
  have f1:=hk.unfrozen 1
  have HK:=Lib.hid hk
  clear hk
  go_enter Tryz.func16,Tryz.ntmps16
  go_wp2_with (fail)
  (try simp only [Exit.jump])
  refine bodyPost_ret (results_tct rfl _ _ w.heap.size 29 #[.int .i64 1,.int .i64 1] (0,0) _ rfl (Blk.new w _ _) Tryz.underlying29 rfl (by kernel_rfl)) rfl ?_
  refine ⟨.slice none 0 0,by rw [HV.out];rfl,by rw [HE.out];exact own_nil _ _ _ 5,?_⟩
  exact (Below.refl _ w).alloc (Nat.le_refl _) _
set_option maxHeartbeats 4000000 in
set_option maxRecDepth 100000 in
theorem locks7_short (hs:s.size≤8000) :
    Calls Tryz.prog 16 #[.string s] w (LocksPost w s):=by
  generalize hB:w.heap.size=B
  have HB:=Lib.hid hB
  clear hB
  have hsl:s.data.toList.length=s.size:=rfl
  obtain ⟨kb,hkb⟩:=ev_at (badr_ev s (by omega))
  have HBAD:=Lib.hid (fun W => transhumanceref1_Bad.calls kb s _ W hkb)
  clear hkb
  go_enter Tryz.func16,Tryz.ntmps16
  go_wp2_with (fail)
  refine (HBAD.out _).mono ?_
  rintro e w1 ⟨rfl,⟨n1,rfl⟩⟩
  have HP0:=Lib.hid (show Blk ((w.alloc (.cells #[.int .i64 0,.int .i64 0] 29)).drewN n1) w.heap.size 29 #[.int .i64 0,.int .i64 0] from Blk.new w _ _)
  have HB0:=Lib.hid (pw_below_drewN ((Below.refl w.heap.size w).alloc (Nat.le_refl _) (.cells #[.int .i64 0,.int .i64 0] 29)) n1)
  have HS0:=Lib.hid (show w.heap.size<((w.alloc (.cells #[.int .i64 0,.int .i64 0] 29)).drewN n1).heap.size by show _<(w.alloc _).heap.size;rw [World.size_alloc];omega)
  generalize (w.alloc (.cells #[.int .i64 0,.int .i64 0] 29)).drewN n1=w0 at *
  have hB:=HB.out
  rw [hB] at HP0 HB0 HS0 ⊢
  clear hB
  cases hbad:badAt s.data.toList with
  | some wh =>
    have HLO:=Lib.hid (locksD_bad s.data.toList wh (by omega) hbad)
    have hwl:=badAt_le _ _ hbad
    have d1:decide ((0:Int)≤badNI (some wh))=true:=decide_eq_true (by simp [badNI])
    clear hbad
    have hnw:badNI (some wh)=(wh:Int):=rfl
    rw [hnw] at d1
    rw [hnw]
    have d2:decide (0≤wh)=true:=decide_eq_true (Nat.zero_le _)
    go_wp2_with (fail)
    refine (place7_calls s wh (by omega) (by omega) _).mono ?_
    rintro e w2 ⟨rfl,hb2⟩
    have k0:=(HP0.out.below hb2).cell 0
    have k1:=(HP0.out.below hb2).cell 1
    have f0:=(HP0.out.below hb2).unfrozen 0
    have f1:=(HP0.out.below hb2).unfrozen 1
    have HP2:=Lib.hid (HP0.out.below hb2)
    have HB2:=Lib.hid hb2
    clear hb2 d1 d2 hnw
    go_wp2_with (fail)
    (try simp only [Exit.jump])
    refine bodyPost_ret (results_tct rfl _ _ B 29 #[.int .i64 (place (List.take wh s.data.toList)).1,.int .i64 (place (List.take wh s.data.toList)).2] (0,0) _ rfl ((HP2.out.put 0 (.int .i64 (place (List.take wh s.data.toList)).1)).put 1 (.int .i64 (place (List.take wh s.data.toList)).2)) Tryz.underlying29 rfl (by kernel_rfl)) rfl ?_
    exact locks7_badp HLO.out (by decide) HB.out HB0.out HB2.out _ _
  | none =>
    obtain ⟨rs,last,hsp,hr10,hl10⟩:=rows_split s.data.toList
    have hlo:=locksD_rows rs last hr10 hl10 s.data.toList hsp (by omega) hbad
    have hpl:=badAt_plain _ hbad
    have hrl:rs.length≤8000:=by
      have h1:=congrArg List.length hsp
      have h2:rs.length≤((rs.map fun l => l++[10]).flatten).length:=lines_count rs
      rw [List.length_append] at h1
      omega
    obtain ⟨kl,hkl⟩:=ev_at (lines7_ev s (by omega) rs last hr10 hl10 hsp (by omega))
    have hrp:=rows_plain rs last s.data.toList hsp hpl
    have hspan:spanR (rs++tailR last)≤s.size+1:=by
      have:=spanR_rows rs last
      rw [← hsp] at this
      exact this
    generalize hRR:rs++tailR last=R at *
    have HLIN:=Lib.hid (fun W => transhumanceref1_Lines.calls kl s _ _ W hkl)
    have HLO:=Lib.hid hlo
    have HRP:=Lib.hid hrp
    clear hkl hlo hpl hsp hr10 hl10 hRR hrl hrp hbad
    generalize hR0:runR R 0 false [] []=R0 at *
    have HR0:=Lib.hid hR0
    clear hR0
    have hnw:badNI none=-1:=rfl
    rw [hnw]
    go_wp2_with (fail)
    refine (HLIN.out _).mono ?_
    rintro e w2 ⟨v0,v1,rfl,hv0,hv1,hb2⟩
    obtain ⟨A6,c6,rfl,hs6⟩:=scalar_rows (enc:=Value.string) rfl (fun _ _ _ h => h) hv0
    obtain ⟨A7,c7,rfl,hs7⟩:=scalar_rows (enc:=Value.int .i64) rfl (fun _ _ _ h => h) hv1
    have HP2:=Lib.hid (HP0.out.below hb2)
    have HB2:=Lib.hid (below_then HB0.out (by have:=HB0.out.size;have:=HB.out;omega) hb2)
    have HS2:=Lib.hid (Nat.lt_of_lt_of_le HS0.out hb2.size)
    have hlm:(R.map bs).length=R.length:=List.length_map ..
    have hlo2:(offs 0 R).length=R.length:=offs_len R 0
    rw [hlm,hlo2]
    have H6:=Lib.hid hs6
    have H7:=Lib.hid hs7
    have HLM:=Lib.hid hlm
    have HSP:=Lib.hid hspan
    clear hv0 hv1 hb2 hs6 hs7 hlm hlo2 HP0 HB0 HS0 hspan
    go_upto_block 0 with (fail)
    have hS3:S7 w (w2.alloc (.cells #[.bool false,.bool false,.bool false,.bool false,.bool false] 74)) B w2.heap.size A6 A7 R (.slice none 0 0) [] []:=by
      have hba:Below w2.heap.size w2 (w2.alloc (.cells #[.bool false,.bool false,.bool false,.bool false,.bool false] 74)):=(Below.refl _ w2).alloc (Nat.le_refl _) _
      refine ⟨Ls.nil _ _,⟨fun _ => false,Blk.new w2 _ _,fun _ _ => rfl⟩,HP2.out.alloc _,HB2.out.alloc (Nat.le_of_lt HS2.out) _,by rw [World.size_alloc];omega,HS2.out,Nat.zero_le _,?_,?_⟩
      · intro j hj
        obtain ⟨q,e,hq,hc⟩:=H6.out j (by rw [HLM.out];exact hj)
        exact ⟨q,e,hq,by rw [pw_cell_below hba hc];simp⟩
      · intro j hj
        obtain ⟨q,e,hq,hc⟩:=H7.out j (by rw [offs_len];exact hj)
        exact ⟨q,e,hq,pw_cell_below hba hc⟩
    have HST:=Lib.hid hS3
    clear hS3 H6 H7 HP2 HB2 HS2
    generalize hH:w2.heap.size=H at *
    clear hH
    generalize w2.alloc (.cells #[.bool false,.bool false,.bool false,.bool false,.bool false] 74)=w3 at *
    go_cut [8] (fun v8 wx => ∃ (l:List Lk) (has:List ByteArray),S7 w wx B H A6 A7 R v8 l has∧R0=.ok l has)
    case first =>
      go_wp2_with (fail)
      go_loopg [8,10,11] (R.length) (fun q v8 v10 v11 wr => ∃ (pre rest:List (List UInt8)) (l:List Lk) (has:List ByteArray) (b:Bool),q=rest.length∧R=pre++rest∧v11=.int .i64 pre.length∧v10=.bool b∧S7 w wr B H A6 A7 R v8 l has∧runR rest (spanR pre) b l has=R0)
      case atStart => exact ⟨[],R,[],[],false,rfl,rfl,rfl,rfl,HST.out,HR0.out⟩
      case round =>
        obtain ⟨pre,rest,l,has,b,rfl,hR,rfl,rfl,hst,hrun⟩:=hrel
        have hRl:R.length=pre.length+rest.length:=by rw [hR,List.length_append]
        cases rest with
        | nil =>
          have HX:=Lib.hid (show ∃ (l:List Lk) (has:List ByteArray),S7 w wr B H A6 A7 R _ l has∧R0=.ok l has from ⟨l,has,hst,hrun.symm⟩)
          have d1:decide ((pre.length:Int)<(R.length:Int))=false:=decide_eq_false (by simp only [List.length_nil] at hRl;omega)
          have d1n:decide (pre.length<R.length)=false:=decide_eq_false (by simp only [List.length_nil] at hRl;omega)
          clear hst hrun hR hRl HST
          go_wp2_with (fail)
          go_meet
          exact HX.out
        | cons x rest =>
          have hlt:pre.length<R.length:=by simp only [List.length_cons] at hRl;omega
          have d1:decide ((pre.length:Int)<(R.length:Int))=true:=decide_eq_true (by omega)
          have d1n:decide (pre.length<R.length)=true:=decide_eq_true hlt
          have i1:(0:Int)≤(pre.length:Int)∧(pre.length:Int)<(R.length:Int):=⟨by omega,by omega⟩
          have hxR:R[pre.length]=x:=by
            have e:∀ (m:List (List UInt8)) (hm:m=pre++x :: rest) (h:pre.length<m.length),m[pre.length]=x:=by
              rintro m rfl h
              simp
            exact e R hR hlt
          obtain ⟨q6,h6,hq6,hc6⟩:=hst.rows pre.length hlt
          rw [hxR] at hc6
          subst h6
          obtain ⟨hxp,hxl⟩:=HRP.out x (by rw [hR];simp)
          have hsp:spanR pre+(x.length+1+spanR rest)≤s.size+1:=by
            have:=HSP.out
            rw [hR,spanR_append] at this
            exact this
          have HSX:=Lib.hid hsp
          have HXP:=Lib.hid hxp
          have HXL:=Lib.hid hxl
          obtain ⟨kk,hkk⟩:=ev_at (blank7_ev (bs x) (by rw [size_bs];omega))
          rw [data_bs] at hkk
          have HBL:=Lib.hid (fun W => transhumanceref7_blank.calls kk (bs x) _ W hkk)
          have HST1:=Lib.hid hst
          have HRUN:=Lib.hid hrun
          have HRE:=Lib.hid hR
          have hPL:pre.length≤8001:=by
            have:=spanR_len R
            have:=HSP.out
            omega
          have HNX:Hid (R.length=pre.length+(rest.length+1)):=Lib.hid hRl
          clear hkk hst hrun hsp hxp hxl HST hR hxR hRl
          have HYD:Hid ((bs x).data.toList=x):=Lib.hid (data_bs x)
          have HYS:Hid ((bs x).size=x.length):=Lib.hid (size_bs x)
          generalize bs x=y at *
          go_wp2_with (fail)
          refine (HBL.out _).mono ?_
          rintro e w4 ⟨rfl,⟨n4,rfl⟩⟩
          have hST4:S7 w (wr.drewN n4) B H (some ⟨q6,0,none⟩) A7 R u8 l has:=HST1.out.move (pw_below_drewN (Below.refl _ wr) n4) HB.out
          have hc64:(wr.drewN n4).cell? ⟨q6,pre.length,none⟩=some (.string y):=hc6
          have HST4:=Lib.hid hST4
          clear hST4 hc6 HST1 HBL
          generalize wr.drewN n4=w4 at *
          have i64w:IntKind.i64.wrap ((pre.length:Int)+1)=(pre.length:Int)+1:=IntWalk.i64_in _ ⟨by omega,by omega⟩
          by_cases hm:Lib.trimLeftB x 32=[]∨(Lib.trimLeftB x 32).head?=some 35
          · have HM:=Lib.hid ((runR_mute hm).symm.trans HRUN.out)
            have hnb:((blankN x:Int) == (y.size:Int))=true∨(((blankN x:Int) == (y.size:Int))=false∧∃ hlt:blankN x<y.size,((y[blankN x].toNat:Int) == 35)=true):=by
              by_cases he:Lib.trimLeftB x 32=[]
              · left
                rw [row_empty he,HYS.out]
                simp
              · right
                obtain ⟨c,t,hct⟩:∃ c t,Lib.trimLeftB x 32=c :: t:=by
                  cases hq:Lib.trimLeftB x 32 with
                  | nil => exact absurd hq he
                  | cons c t => exact ⟨c,t,rfl⟩
                obtain ⟨hlt,hyc⟩:=row_head HYD.out hct
                refine ⟨by simp only [beq_eq_false_iff_ne,ne_eq];omega,hlt,?_⟩
                rcases hm with hm|hm
                · exact absurd hm he
                · rw [hct] at hm
                  simp only [List.head?_cons,Option.some.injEq] at hm
                  rw [hyc,hm]
                  rfl
            clear hm HRUN
            generalize blankN x=nb at *
            rcases hnb with hnb|⟨hnb,hlt2,hby⟩
            · go_wp2_with (fail)
              go_roundg rest.length
              case measure => simp
              case rel => exact ⟨pre++[x],rest,l,has,b,rfl,by rw [HRE.out];simp,by simp,rfl,HST4.out,by rw [spanR_snoc];exact HM.out⟩
            · have i2:(0:Int)≤(nb:Int)∧(nb:Int)<(y.size:Int):=⟨by omega,by omega⟩
              go_wp2_with (fail)
              go_roundg rest.length
              case measure => simp
              case rel => exact ⟨pre++[x],rest,l,has,b,rfl,by rw [HRE.out];simp,by simp,rfl,HST4.out,by rw [spanR_snoc];exact HM.out⟩
          · have hq:((blankN x:Int) == (y.size:Int))=false∧∃ hlt:blankN x<y.size,((y[blankN x].toNat:Int) == 35)=false:=by
              obtain ⟨c,t,hct⟩:∃ c t,Lib.trimLeftB x 32=c :: t:=by
                cases hq:Lib.trimLeftB x 32 with
                | nil => exact absurd (.inl hq) hm
                | cons c t => exact ⟨c,t,rfl⟩
              obtain ⟨hlt,hyc⟩:=row_head HYD.out hct
              refine ⟨by simp only [beq_eq_false_iff_ne,ne_eq];omega,hlt,?_⟩
              rw [hyc]
              have h35:c≠35:=fun e => hm (.inr (by rw [hct,e];rfl))
              have:=fun e => h35 ((byte_int (b:=c) (n:=35) (by decide)).1 e)
              simpa using this
            obtain ⟨hnb,hlt2,hby⟩:=hq
            have HLN:=Lib.hid (fun l has => @runR_line x rest (spanR pre) l has hm)
            have HWD:=Lib.hid (fun l has => @runR_word x rest (spanR pre) l has hm)
            clear hm
            generalize blankN x=nb at *
            have i2:(0:Int)≤(nb:Int)∧(nb:Int)<(y.size:Int):=⟨by omega,by omega⟩
            obtain ⟨q7,h7,hq7,hc7⟩:=HST4.out.ats pre.length hlt
            subst h7
            have hoff:(offs 0 R)[pre.length]'(by rw [offs_len];exact hlt)=((spanR pre:Nat):Int):=by
              have e:∀ (m:List (List UInt8)) (hm:m=pre++x :: rest) (h:pre.length<(offs 0 m).length),(offs 0 m)[pre.length]=((spanR pre:Nat):Int):=by
                rintro m rfl h
                rw [offs_at]
                omega
              exact e R HRE.out _
            rw [hoff] at hc7
            clear hoff
            go_upto_if 59 with (fail)
            go_cut [8,10,13] (fun v8 v10 v13 wx => ∃ E:Int,v13=.int .i64 E∧((E=0∧∃ (l':List Lk) (has':List ByteArray),v10=.bool true∧S7 w wx B H (some ⟨q6,0,none⟩) (some ⟨q7,0,none⟩) R v8 l' has'∧runR rest (spanR pre+x.length+1) true l' has'=R0)∨(E≠0∧R0=.bad (spanR pre+nb) E∧Blk wx B 29 #[.int .i64 0,.int .i64 0]∧Below B w wx∧wx.cell? ⟨q7,pre.length,none⟩=some (.int .i64 (spanR pre:Nat)))))
            case first =>
              cases b with
              | false =>
                have HW2:=Lib.hid ((HWD.out l has).symm.trans HRUN.out)
                clear HRUN HWD HLN
                by_cases hx:x=locksWordL
                · have HW3:=Lib.hid ((if_pos hx).symm.trans HW2.out)
                  clear HW2
                  have hy:y=(⟨#[108,111,99,107,115,58]⟩:ByteArray):=ext_bs (by rw [HYD.out,hx];rfl)
                  go_wp2_with (fail)
                  go_meet
                  exact ⟨0,rfl,.inl ⟨rfl,l,has,rfl,HST4.out,HW3.out⟩⟩
                · have HW3:=Lib.hid ((if_neg hx).symm.trans HW2.out)
                  clear HW2
                  have hyn:(y.toList == [108,111,99,107,115,58])=false:=by
                    simp only [beq_eq_false_iff_ne,ne_eq]
                    intro h
                    rw [Lib.toList_data,HYD.out] at h
                    exact hx h
                  go_wp2_with (fail)
                  go_meet
                  exact ⟨1,rfl,.inr ⟨by decide,HW3.out.symm,HST4.out.place,HST4.out.below,hc7⟩⟩
              | true =>
                have HL2:=Lib.hid ((HLN.out l has).symm.trans HRUN.out)
                clear HRUN HWD HLN
                obtain ⟨g,hg1,hg2⟩:=HST4.out.bits
                have HT:Hid (∀ W:World,W.heap=w4.heap→Calls Tryz.prog 38 #[u8,.agg (bitsA g),.string y] W (TakePost W (H+1) (lineD x (spanR pre+nb) l has))):=Lib.hid (fun W he => by
                  have:=take_calls W (H+1) (spanR pre+nb) u8 l g has y (ls_heap HST4.out.ls he) (by rw [he];exact HST4.out.size) hg2 (by have:=HXL.out;have:=HYS.out;omega) (by rw [HYD.out];exact HXP.out) HST4.out.few
                  rw [HYD.out] at this
                  exact this)
                unfold bitsA at HT
                have p0:w4.cell? ⟨H,0,none⟩=some (.bool (g 0)):=hg1.cell 0
                have p1:w4.cell? ⟨H,1,none⟩=some (.bool (g 1)):=hg1.cell 1
                have p2:w4.cell? ⟨H,2,none⟩=some (.bool (g 2)):=hg1.cell 2
                have p3:w4.cell? ⟨H,3,none⟩=some (.bool (g 3)):=hg1.cell 3
                have p4:w4.cell? ⟨H,4,none⟩=some (.bool (g 4)):=hg1.cell 4
                have HG1:=Lib.hid hg1
                clear hg1 hg2
                go_wp2_with (fail)
                go_region_with (go_at_call 38;refine (HT.out _ (by rfl)).mono ?_;rintro e wp ⟨hbp,v,g2,E,rfl,hpost⟩;unfold bitsA;obtain ⟨b0,b1,b2,b3,b4,z0,z1,z2,z3,z4,HSW,HGW⟩:=take_facts (w0:=w4) hbp rfl rfl rfl rfl HST4.out HG1.out HB.out;have K7:=Lib.hid (cell_same hbp (by rfl) hc7);have HPO:=Lib.hid hpost;clear hpost)
                all_goals (try simp only [Act.put,List.setIfInBounds_toArray,List.set_cons_zero,List.set_cons_succ,List.getElem_toArray,List.getElem_cons_zero,List.getElem_cons_succ])
                all_goals (go_wp2_with (fail))
                all_goals go_meet
                all_goals exact S7_next HSW.out HGW.out HB.out hq7 K7.out HPO.out HL2.out
            case rest =>
              obtain ⟨E,rfl,hE⟩:=hcut
              rcases hE with ⟨rfl,l',has',rfl,hs',hr'⟩|⟨hne,hRb,hpl,hbel,hc7'⟩
              · have HS':=Lib.hid hs'
                have HR':=Lib.hid hr'
                clear hs' hr' hc7 HST4 hc64 HLN HWD HRUN
                go_wp2_with (fail)
                go_roundg rest.length
                case measure => simp
                case rel => exact ⟨pre++[x],rest,l',has',true,rfl,by rw [HRE.out];simp,by simp,rfl,HS'.out,by rw [spanR_snoc];exact HR'.out⟩
              · have n1:(E != 0)=true:=by simpa using hne
                have HNE:=Lib.hid hne
                rw [hRb] at HLO
                have HLO2:Hid (locksD s.data.toList=([],spanR pre+nb,E)):=HLO
                have hz:spanR pre+nb≤s.size:=by have:=HSX.out;have:=HYS.out;omega
                have i7:IntKind.i64.wrap (((spanR pre:Nat):Int)+(nb:Int))=((spanR pre+nb:Nat):Int):=by rw [IntWalk.i64_in _ ⟨by omega,by omega⟩];omega
                have HPL:=Lib.hid hpl
                have HBE:=Lib.hid hbel
                clear hpl hbel hRb hne hc7 HST4 hc64 HLN HWD HRUN HLO
                go_wp2_with (fail)
                refine (place7_calls s (spanR pre+nb) hz (by omega) _).mono ?_
                rintro e w9 ⟨rfl,hb9⟩
                have k0:w9.cell? ⟨B,0,none⟩=some (.int .i64 0):=(HPL.out.below hb9).cell 0
                have k1:w9.cell? ⟨B,1,none⟩=some (.int .i64 0):=(HPL.out.below hb9).cell 1
                have f0:=(HPL.out.below hb9).unfrozen 0
                have f1:=(HPL.out.below hb9).unfrozen 1
                have HP9:=Lib.hid (HPL.out.below hb9)
                have HB9:=Lib.hid hb9
                clear hb9
                go_wp2_with (fail)
                (try simp only [Exit.jump])
                refine bodyPost_ret (results_tct rfl _ _ B 29 #[.int .i64 (place (List.take (spanR pre+nb) s.data.toList)).1,.int .i64 (place (List.take (spanR pre+nb) s.data.toList)).2] (0,0) _ rfl ((HP9.out.put 0 (.int .i64 (place (List.take (spanR pre+nb) s.data.toList)).1)).put 1 (.int .i64 (place (List.take (spanR pre+nb) s.data.toList)).2)) Tryz.underlying29 rfl (by kernel_rfl)) rfl ?_
                exact locks7_badp HLO2.out HNE.out HB.out HBE.out HB9.out _ _
    case rest =>
      obtain ⟨l,has,hst,hR⟩:=hcut
      rw [hR] at HLO
      have HLO2:Hid (locksD s.data.toList=if endedE l=0 then (l,0,0) else ([],s.data.toList.length,endedE l)):=HLO
      have HCH:=Lib.hid (check6_calls wc (H+1) u8 l hst.ls (by have:=hst.few;omega))
      have HST1:=Lib.hid hst
      clear hst hR HLO HST
      go_wp2_with (fail)
      refine HCH.out.mono ?_
      rintro e w5 ⟨rfl,hb5⟩
      have HS5:=Lib.hid (HST1.out.move hb5 HB.out)
      clear HST1 hb5 HCH
      by_cases hE:endedE l=0
      · have HLO3:=Lib.hid (HLO2.out.trans (if_pos hE))
        rw [hE]
        clear hE HLO2
        have k0:w5.cell? ⟨B,0,none⟩=some (.int .i64 0):=HS5.out.place.cell 0
        have k1:w5.cell? ⟨B,1,none⟩=some (.int .i64 0):=HS5.out.place.cell 1
        have f0:=HS5.out.place.unfrozen 0
        have f1:=HS5.out.place.unfrozen 1
        go_wp2_with (fail)
        (try simp only [Exit.jump])
        refine bodyPost_ret (results_tct rfl _ _ B 29 #[.int .i64 0,.int .i64 0] (0,0) _ rfl ((HS5.out.place.put 0 (.int .i64 0)).put 1 (.int .i64 0)) Tryz.underlying29 rfl (by kernel_rfl)) rfl ?_
        exact locks7_goodp HLO3.out HB.out HS5.out.lt HS5.out.below HS5.out.ls HS5.out.place _ _
      · have HLO3:Hid (locksD s.data.toList=([],s.size,endedE l)):=Lib.hid (HLO2.out.trans (if_neg hE))
        have HNE:=Lib.hid hE
        generalize endedE l=E at *
        have n1:(E != 0)=true:=by simpa using hE
        clear hE HLO2
        go_wp2_with (fail)
        refine (place7_calls s s.size (Nat.le_refl _) (by omega) _).mono ?_
        rintro e w9 ⟨rfl,hb9⟩
        have k0:w9.cell? ⟨B,0,none⟩=some (.int .i64 0):=(HS5.out.place.below hb9).cell 0
        have k1:w9.cell? ⟨B,1,none⟩=some (.int .i64 0):=(HS5.out.place.below hb9).cell 1
        have f0:=(HS5.out.place.below hb9).unfrozen 0
        have f1:=(HS5.out.place.below hb9).unfrozen 1
        have HP9:=Lib.hid (HS5.out.place.below hb9)
        have HB9:=Lib.hid hb9
        clear hb9
        go_wp2_with (fail)
        (try simp only [Exit.jump])
        refine bodyPost_ret (results_tct rfl _ _ B 29 #[.int .i64 (place (List.take s.size s.data.toList)).1,.int .i64 (place (List.take s.size s.data.toList)).2] (0,0) _ rfl ((HP9.out.put 0 (.int .i64 (place (List.take s.size s.data.toList)).1)).put 1 (.int .i64 (place (List.take s.size s.data.toList)).2)) Tryz.underlying29 rfl (by kernel_rfl)) rfl ?_
        exact locks7_badp HLO3.out HNE.out HB.out HS5.out.below HB9.out _ _
end
end Go.Proofs.YtjdjljgbfpkbdaaGreatDoor.Q
end
