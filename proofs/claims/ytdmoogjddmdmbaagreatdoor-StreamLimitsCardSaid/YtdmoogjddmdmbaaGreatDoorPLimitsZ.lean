/- The law StreamLimits holds: for every input the call returns true, and each argument reads behind the call as it read before; the tied card of its row, whose listed tables are tied by the given tie. The shell was written by a program, after the kit's. -/
import Derived.Test.YtdmoogjddmdmbaaGreatDoorRows
import Derived.WalkKit
import Derived.ProofKit
import Derived.OpenShut
import Derived.ShutString
import Derived.ChangeOld
import Derived.Below
import Derived.LaidMore
import Derived.Lay
import Derived.Stop.Joined
import Derived.SevenTiedAt
import Derived.Test.YtdmoogjddmdmbaaGreatDoorCards
import Derived.Test.YtdmoogjddmdmbaaGreatDoorTie
import Derived.Test.YtdmoogjddmdmbaaGreatDoorY44
import Derived.Test.YtdmoogjddmdmbaaGreatDoorCameZ
import Derived.Test.YtdmoogjddmdmbaaGreatDoorFPLimitsZ
import Derived.Test.YtdmoogjddmdmbaaGreatDoorY43
namespace Go.Proofs.YtdmoogjddmdmbaaGreatDoor.streamLimits
open Go.ChangeShapes Go.WideShapes Go.ChangeAt Go.RowKit
open Go.ChangeMaps (open_string shut_string)
set_option linter.unusedVariables false
theorem own:ownKnob Tryz.prog.godebug=none:=by kernel_rfl
theorem laidOut:laidOutB Tryz.prog=true:=by kernel_rfl
def IsRow (k:IntKind) (w:World) (a:Option Addr) (len cap:Nat) (zs:List Int):Prop:=
 (a=none/\len=0/\cap=0/\zs=[])\/
 ∃x,a=some x/\len<=cap/\cap<=maxLen/\zs.length=cap/\(∀i,i<zs.length->w.cell? (x.add i)=some (.int k (zs.getD i 0)))/\∀n∈zs,(Lit.int k n).wf=true
theorem walk (a0:Int) (w:World) (w0:(Lit.int .i64 a0).wf=true) (hv:VrOK w) :
  Calls Tryz.prog 4 #[.int .i64 a0] w λe w'=>e = .returned (.bool true)/\Below w.heap.size w w':=by
 exact limits_law a0 w hv
set_option maxRecDepth 100000 in
theorem lifted (os:Os) (started:os.Started) (H:Type) (enc:TypeId×Value->H) :
  ReturnsInHanded {} Tryz.checked os 4 .any (λw args=>(Rows.streamLimitsSpec.pre enc Tryz.prog Tryz.f4 Rows.streamLimitsRow.domain false w args/\laidMetH Tryz.prog Rows.streamLimitsRow.laid w)/\sizedMet enc Tryz.prog Tryz.f4 (OpenSpec.ofChange Rows.streamLimitsSpec) false w args) (Rows.streamLimitsSpec.post enc Tryz.prog Tryz.f4 false true false false):=by
 refine returnsInHanded_and_sized (C:=Tryz.checked) (X:=λw _=>laidMetH Tryz.prog Rows.streamLimitsRow.laid w) (λ_ _ _ hh h=>h.of_heap hh) own started (by kernel_rfl) Tryz.func4
  (ChangeSpec.witness_shaped (enc:=enc) (C:=Tryz.checked) (os:=os) (X:=λw _=>laidMetH Tryz.prog Rows.streamLimitsRow.laid w) false (World.laidAll Tryz.prog os Rows.streamLimitsRow.laid) #[.int .i64 0] 8 (World.laidAll_os _ _ _)
   (World.shaped_of_ZipB (by kernel_rfl) (by kernel_rfl)) (by kernel_rfl) (by kernel_rfl) (by kernel_rfl)
   (by rw[MakeChecks.laidMetH_plain _ _ _ (by kernel_rfl)];exact laidMet_laidAll _ (by kernel_rfl) (by kernel_rfl))) ?_
 intro W base args ds gs before hval0 hW hsh hL hz;have hval:∀(j:Nat) t v,Tryz.f4.params[j]?=some t->args[j]?=some v->Value.okWide Tryz.prog W .any base t v:=hval0;have hW':=hW;obtain ⟨p,q,hA0,hV,rfl,hfz,hnd⟩:=hW;have hA:DataW.TrodAll enc Tryz.prog W 0 (λ_=>true) true Tryz.f4.params.toList args.toList ds p:=hA0;rw[Tryz.params4]at hA hval;obtain ⟨v0,vs0,d0,ds0,p0,q0,hargs,rfl,rfl,h0,r0⟩:=trodAll_cons hA;obtain ⟨rfl,rfl,rfl⟩:=trodAll_nil r0;obtain rfl:args=#[v0]:=by cases args;simp_all
 obtain ⟨rfl,rfl⟩:=trodVars_none hV;have zz:(DataW.weightsEach Tryz.prog [3] [d0]).all (·<=reachBytes)=true:=by
  have:=hz;rw[Tryz.params4]at this;exact this
 have z0:=(wt_cons zz).1;clear hz;obtain ⟨a0,rfl,rfl,rfl,w0⟩:=open_int Tryz.underlying3 (hval 0 3 v0 rfl rfl) h0;clear hA0 hval0;refine (walk a0 W w0 (vrOK_of hsh hL)).mono λe W' ⟨he,bel⟩=>?_;subst he;exact ⟨_,rfl,_,_,_,[],_,[],hW',trodAll_mk1 (shut_bool Tryz.underlying4 _),(trodAll_cons_mk (shut_int Tryz.underlying3 w0) trodAll_mk0),rfl,bel.frame _,λh=>by cases h⟩
theorem over:Rows.streamLimitsRow.holds Tryz.pinned (OpenSpec.ofChange Rows.streamLimitsSpec):=
 OpenClaim.holds_of_wide 4 Tryz.f4 rfl rfl rfl rfl rfl rfl rfl ⟨rfl,rfl,rfl,rfl,rfl⟩ rfl rfl rfl rfl rfl (by kernel_rfl) Tryz.func4 closed_
  (of_decide_eq_true (by kernel_rfl)) (by unfold Func.isWrapper;first | (rw[if_pos (by decide +kernel)];kernel_rfl) | (rw[if_neg (by decide +kernel)];exact ⟨rfl,rfl⟩))
  (λos started H enc _=>lifted os started H enc)
theorem proved:Rows.StreamLimitsCardSaid:=
 Claim7.holds_tied_plain_at .later [] [.data, .data, .data] true (true, "105310f44fc7dc9c240ec21c869e98d4e96843577106512ff9d72452495896e4") false over (λ_ h=>by cases h) wf_ (λ_ h=>by cases h) streamLimits_row_tie rfl ⟨rfl,rfl⟩ main_ rfl
  (λf fn hf hfn=>by
   obtain rfl:f=4:=Option.some.inj ((show Tryz.prog.funcNamed "leakresponse/leakresponselaw09.StreamLimits" = some 4 by kernel_rfl).symm.trans hf) |>.symm
   obtain rfl:fn=Tryz.f4:=(Option.some.inj (Tryz.func4.symm.trans hfn)).symm;exact ⟨looks_,λj t ht=>by
    rw[Tryz.params4]at ht;have hm:t∈[3]:=by simpa using Array.mem_of_getElem? ht
    have hall:([3].all λu=>!Tryz.prog.wantsStandIn u)=true:=by kernel_rfl
    exact (show Tryz.prog.wantsStandIn t=false by simpa using List.all_eq_true.1 hall t hm)⟩)
  goes_
#print axioms proved
end Go.Proofs.YtdmoogjddmdmbaaGreatDoor.streamLimits
