/- What a law's shell tells of an argument of any type: how it reads, and that it fits into a memory that is there; the plain wrap of a row whose walk is told the sizes. -/
import Derived.Test.YtdmoogjddmdmbaaGreatDoorX01
import Derived.Handed
import Derived.Deep.Slices
set_option linter.unusedVariables false
set_option linter.unusedSimpArgs false
namespace Go.Proofs.YtdmoogjddmdmbaaGreatDoor
set_option maxRecDepth 100000
open Go
def Came(P:Program)(w:World)(t:TypeId)(v:Value):Prop:=
 ∃(axI:Type) (enc:TypeId×Value->axI) (base:Nat) (spare:Nat->Bool) (held:Bool) (fuel:Nat) (x:DataW axI×List MemPlace) (r:Reach) (b0:Nat),DataW.trod enc P w base spare held fuel t v.cells.toList=some x/\(DataW.weights P t x.1).all (·<=reachBytes)=true/\Value.okWide P w r b0 t v
theorem Qi{axI:Type}{P:Program}{t:TypeId}{ts:List TypeId}{d:DataW axI}{ds:List (DataW axI)}(h:(DataW.weightsEach P (t::ts) (d::ds)).all (·<=reachBytes)=true):(DataW.weights P t d).all (·<=reachBytes)=true/\(DataW.weightsEach P ts ds).all (·<=reachBytes)=true:=by
 rw[DataW.weightsEach,List.all_append,Bool.and_eq_true]at h;exact h
theorem iX{axI:Type}{enc:TypeId×Value->axI}{a:Assume}{C:Checked}{os:Os}{f:FuncId}{fn:Func}{s:ChangeSpec}{conds:List PathCond}{apart fresh handsOn again:Bool}{X:World->Array Value->Prop}
  (hX:∀(w w':World) (args:Array Value),w.heap=w'.heap->X w args->X w' args)
  (own:ownKnob C.prog.godebug=none) (started:os.Started) (U7:C.prog.inits.idxOf? f=none) (O9:C.prog.funcs[f]?=some fn)
  (witness:∃(w:World) (tape:Tape) (i:Input),w.os=os/\(w.forCall tape i).Shaped C.prog/\i.vars=[]/\Input.okWide C.prog (w.forCall tape i) .any w.heap.size f i/\
   ((s.pre enc C.prog fn conds apart (w.forCall tape i).memory i.args/\X (w.forCall tape i).memory i.args)/\sizedMet enc C.prog fn (OpenSpec.ofChange s) apart (w.forCall tape i).memory i.args)/\a.holds C.prog (lone (Frame.enter C.prog f i.args .normal) [] (w.forCall tape i)))
  (contract:∀(W:World) (base:Nat) (args:Array Value) (ds gs:List (DataW axI)) (before:List MemPlace),
   (∀(j:Nat) t v,fn.params[j]?=some t->args[j]?=some v->Value.okWide C.prog W .any base t v)->
   DataW.Whole enc C.prog fn.params.toList s.vars apart W args.toList ds gs before->
   W.ShapedOpen C.prog->X W args->
   (DataW.weightsEach C.prog (fn.params.toList++(OpenSpec.ofChange s).bare.plain.varTypes C.prog) (ds++gs)).all (·<=reachBytes)=true->
   Calls C.prog f args W λe W'=>∃v,e=.returned v/\s.post enc C.prog fn apart fresh handsOn again W args v W') :
  ReturnsInHanded a C os f .any (λw args=>(s.pre enc C.prog fn conds apart w args/\X w args)/\sizedMet enc C.prog fn (OpenSpec.ofChange s) apart w args) (s.post enc C.prog fn apart fresh handsOn again):=by
 refine returnsInHanded_of_calls own started U7 witness ?_;intro w tape i _ Bg _ hok eg ahr;obtain ⟨_,_,_,fn',ahs,_,_,_,_,hval⟩:=hok;have e:fn'=fn:=Option.some.inj (ahs.symm.trans O9);subst e;obtain ⟨⟨⟨_,_,_,_,_⟩,hx⟩,_,ds,gs,before,hw,hz⟩:=eg;have hw':=DataW.Whole.of_heap (w':=w.forCall tape i) (by rfl) hw
 refine (contract (w.forCall tape i) w.heap.size i.args ds gs before hval hw' Bg (hX _ _ _ (by rfl) hx) hz).mono λe W' ⟨v,he,hp⟩=>?_
 subst he;exact ChangeSpec.post_blind hp
end Go.Proofs.YtdmoogjddmdmbaaGreatDoor
