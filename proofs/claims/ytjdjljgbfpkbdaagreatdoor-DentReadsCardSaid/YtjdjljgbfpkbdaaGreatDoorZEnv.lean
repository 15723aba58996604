import Derived.Test.YtjdjljgbfpkbdaaGreatDoorZR1g
import Derived.HandedShaped
import Derived.Shelf.Vars
set_option linter.unusedVariables false
set_option linter.unusedSimpArgs false
namespace Go.Proofs.YtjdjljgbfpkbdaaGreatDoor.Q
open Go.RowKit Go.Proofs.YtjdjljgbfpkbdaaGreatDoorW.PrintWords
def GLtop:Nat:=0
def GL (w:World):Prop:=∃ m:Int,w.cell? ⟨0,0,none⟩=some (.int .i64 m)
theorem GL.maxLen {w:World} (h:GL w):∃ m:Int,w.cell? ⟨0,0,none⟩=some (.int .i64 m):=h
theorem GL.lt {w:World} (h:GL w):GLtop<w.heap.size:=by
  obtain ⟨m,hm⟩:=h
  exact World.block_lt_of_cell? w _ hm
theorem GL.below {w w':World} {B:Nat} (h:GL w) (hb:Below B w w') (hB:GLtop<B):GL w':=by
  obtain ⟨m,hm⟩:=h
  refine ⟨m,?_⟩
  have:=hb.block _ hB
  simp only [World.cell?,GLtop] at hm this ⊢
  rwa [this]
theorem GL.below0 {w w':World} (h:GL w) (hb:Below w.heap.size w w'):GL w':=h.below hb h.lt
theorem GL.shaped {w:World} (h:w.ShapedOpen Tryz.prog):GL w :=
  cell_of_shapedOpen_int (g:=0) (t:=3) h (by decide +kernel) (zero:=#[.int .i64 0]) (by kernel_rfl) rfl (by kernel_rfl) (by kernel_rfl) Tryz.underlying3
theorem returnsIn_shaped {H:Type} {enc:TypeId × Value→H} {a:Assume} {C:Checked} {os:Os} {f:FuncId} {fn:Func} {s:ChangeSpec} {conds:List PathCond} {apart fresh handsOn again:Bool} {X:World→Prop}
    (hX:∀ (w w':World),w.heap=w'.heap→X w→X w')
    (own:ownKnob C.prog.godebug=none) (started:os.Started) (noInit:C.prog.inits.idxOf? f=none) (hfn:C.prog.funcs[f]?=some fn)
    (witness:∃ (w:World) (tape:Tape) (i:Input),w.os=os∧(w.forCall tape i).Shaped C.prog∧i.vars=[]∧Input.okWide C.prog (w.forCall tape i) .any w.heap.size f i ∧
      ((s.pre enc C.prog fn conds apart (w.forCall tape i).memory i.args∧X (w.forCall tape i).memory)∧sizedMet enc C.prog fn (OpenSpec.ofChange s) apart (w.forCall tape i).memory i.args)∧a.holds C.prog (lone (Frame.enter C.prog f i.args .normal) [] (w.forCall tape i)))
    (contract:∀ (W:World) (base:Nat) (args:Array Value) (ds gs:List (DataW H)) (before:List MemPlace),
      (∀ (j:Nat) t v,fn.params[j]?=some t→args[j]?=some v→Value.okWide C.prog W .any base t v) →
      DataW.Whole enc C.prog fn.params.toList s.vars apart W args.toList ds gs before →
      conds.all (PathCond.test C.prog ⟨fn.params.toList,ds,s.plain.varTypes C.prog,gs⟩)=true →
      (DataW.weightsEach C.prog (fn.params.toList++s.plain.varTypes C.prog) (ds++gs)).all (·≤reachBytes)=true→X W→W.ShapedOpen C.prog →
      Calls C.prog f args W fun e W' => ∃ v,e=.returned v∧s.post enc C.prog fn apart fresh handsOn again W args v W') :
    ReturnsInHanded a C os f .any (fun w args => (s.pre enc C.prog fn conds apart w args∧X w)∧sizedMet enc C.prog fn (OpenSpec.ofChange s) apart w args) (s.post enc C.prog fn apart fresh handsOn again):=by
  refine returnsInHanded_of_calls own started noInit witness fun w tape i _ shape _ fits ⟨⟨⟨ds,gs,before,whole,met⟩,x⟩,sized⟩ _ => ?_
  obtain ⟨_,_,_,g,hg,_,_,_,_,each⟩:=fits
  obtain rfl:g=fn:=Option.some.inj (hg.symm.trans hfn)
  exact (contract (w.forCall tape i) w.heap.size i.args ds gs before each (DataW.Whole.of_heap (by rfl) whole) met (sized.weights whole) (hX _ _ (by rfl) x) shape).mono fun _ _ ⟨v,he,hp⟩ => by
    subst he
    exact ChangeSpec.post_blind hp
end Go.Proofs.YtjdjljgbfpkbdaaGreatDoor.Q
