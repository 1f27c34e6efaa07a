/- The law StreamEmpty holds: for every input the call returns true, and each argument reads behind the call as it read before; the tied card of its row, whose listed tables are tied by the given tie. The shell was written by a program, after the kit's. -/
import Derived.Test.YtdmoogjddmdmbaaGreatDoorRows
import Derived.WalkKit
import Derived.ProofKit
import Derived.OpenShut
import Derived.ShutString
import Derived.ChangeOld
import Derived.Below
import Derived.LaidMore
import Derived.Lay
import Derived.Stop.Joined
import Derived.SevenTiedAt
import Derived.Test.YtdmoogjddmdmbaaGreatDoorCards
import Derived.Test.YtdmoogjddmdmbaaGreatDoorTie
import Derived.Test.YtdmoogjddmdmbaaGreatDoorV50
import Derived.Test.YtdmoogjddmdmbaaGreatDoorCameZ
import Derived.Test.YtdmoogjddmdmbaaGreatDoorFPEmptyZ
import Derived.Test.YtdmoogjddmdmbaaGreatDoorV49
set_option linter.unusedVariables false
set_option linter.unusedSimpArgs false
namespace Go.Proofs.YtdmoogjddmdmbaaGreatDoor.streamEmpty
open Go.ChangeShapes Go.WideShapes Go.ChangeAt Go.RowKit
open Go.ChangeMaps (open_string shut_string)
set_option linter.unusedVariables false
theorem own:ownKnob Tryz.prog.godebug=none:=by kernel_rfl
theorem laidOut:laidOutB Tryz.prog=true:=by kernel_rfl
def Ud (k:IntKind) (w:World) (a:Option Addr) (len cap:Nat) (zs:List Int):Prop:=
 (a=none/\len=0/\cap=0/\zs=[])\/
 ∃x,a=some x/\len<=cap/\cap<=maxLen/\zs.length=cap/\(∀i,i<zs.length->w.cell? (x.add i)=some (.int k (zs.getD i 0)))/\∀n∈zs,(Lit.int k n).wf=true
theorem walk (a0:Option Addr) (J8 J9:Nat) (z0:List Int) (a1:Int) (w:World) (w0:Ud .i64 w a0 J8 J9 z0) (w1:(Lit.int .i64 a1).wf=true) (hv:cd w) :
  Calls Tryz.prog 5 #[.slice a0 J8 J9, .int .i64 a1] w λe w'=>e = .returned (.bool true)/\Below w.heap.size w w':=by
 exact Ka a0 J8 J9 a1 w (FL w0) hv
set_option maxRecDepth 100000 in
theorem lifted (os:Os) (started:os.Started) (H:Type) (enc:TypeId×Value->H) :
  ReturnsInHanded {} Tryz.checked os 5 .any (λw args=>(Rows.streamEmptySpec.pre enc Tryz.prog Tryz.f5 Rows.streamEmptyRow.domain false w args/\laidMetH Tryz.prog Rows.streamEmptyRow.laid w)/\sizedMet enc Tryz.prog Tryz.f5 (OpenSpec.ofChange Rows.streamEmptySpec) false w args) (Rows.streamEmptySpec.post enc Tryz.prog Tryz.f5 false true false false):=by
 refine jf (C:=Tryz.checked) (X:=λw _=>laidMetH Tryz.prog Rows.streamEmptyRow.laid w) (λ_ _ _ hh h=>h.of_heap hh) own started (by kernel_rfl) Tryz.func5
  (ChangeSpec.witness_shaped (enc:=enc) (C:=Tryz.checked) (os:=os) (X:=λw _=>laidMetH Tryz.prog Rows.streamEmptyRow.laid w) false (World.laidAll Tryz.prog os Rows.streamEmptyRow.laid) #[.slice none 0 0, .int .i64 0] 8 (World.laidAll_os _ _ _)
   (World.shaped_of_ZipB (by kernel_rfl) (by kernel_rfl)) (by kernel_rfl) (by kernel_rfl) (by kernel_rfl)
   (by rw[MakeChecks.laidMetH_plain _ _ _ (by kernel_rfl)];exact laidMet_laidAll _ (by kernel_rfl) (by kernel_rfl))) ?_
 intro W base args ds gs before Ue hW Gq hL hz;have hval:∀(j:Nat) t v,Tryz.f5.params[j]?=some t->args[j]?=some v->Value.okWide Tryz.prog W .any base t v:=Ue;have hW':=hW;obtain ⟨p,q,Wv,hV,rfl,wA,bL⟩:=hW;have hA:DataW.TrodAll enc Tryz.prog W 0 (λ_=>true) true Tryz.f5.params.toList args.toList ds p:=Wv;rw[Tryz.params5]at hA hval;obtain ⟨v0,vs0,d0,ds0,p0,q0,apc,rfl,rfl,h0,r0⟩:=trodAll_cons hA;obtain ⟨v1,vs1,d1,ds1,p1,q1,rfl,rfl,rfl,h1,r1⟩:=trodAll_cons r0;obtain ⟨rfl,rfl,rfl⟩:=trodAll_nil r1;obtain rfl:args=#[v0,v1]:=by cases args;simp_all
 obtain ⟨rfl,rfl⟩:=trodVars_none hV;have zz:(DataW.weightsEach Tryz.prog [22,3] [d0,d1]).all (·<=reachBytes)=true:=by
  have:=hz;rw[Tryz.params5]at this;exact this
 have z0:=(yZ zz).1;have y0:=(yZ zz).2;have z1:=(yZ y0).1;clear hz;obtain ⟨a0,J8,J9,rfl⟩:=okWide_slice Tryz.underlying22 (hval 0 22 v0 rfl rfl);have k0:=h0;have lt0:∀x∈p0,x.block<W.heap.size:=by obtain ⟨m,hm⟩:=k0;exact DataW.trod_lt m _ _ _ hm
 obtain ⟨zz0,w0⟩:∃zs,Ud .i64 W a0 J8 J9 zs:=by
  obtain ⟨fuel,hf⟩:=h0;rcases open_ints Tryz.underlying22 Tryz.underlying3 (by kernel_rfl) hf with ⟨hcs,_⟩ | ⟨x,l,c,zs,hcs,_,hl,hm,hz,_,hcell,xp⟩
  .simp[Value.cells]at hcs;obtain ⟨rfl,rfl,rfl⟩:=hcs;exact ⟨[], .inl ⟨rfl,rfl,rfl,rfl⟩⟩
  .simp[Value.cells]at hcs;obtain ⟨rfl,rfl,rfl⟩:=hcs;exact ⟨zs, .inr ⟨_,rfl,hl,hm,by simpa using hz,hcell,xp⟩⟩
 obtain ⟨a1,rfl,rfl,rfl,w1⟩:=open_int Tryz.underlying3 (hval 1 3 v1 rfl rfl) h1;clear Wv Ue;refine (walk a0 J8 J9 zz0 a1 W w0 w1 (Sg Gq hL)).mono λe W' ⟨he,eP⟩=>?_;subst he;exact ⟨_,rfl,_,_,_,[],_,[],hW',trodAll_mk1 (shut_bool Tryz.underlying4 _),(trodAll_cons_mk (Below.trod laidOut (by kernel_rfl) (of_decide_eq_true (by kernel_rfl)) k0 eP lt0) (trodAll_cons_mk (shut_int Tryz.underlying3 w1) trodAll_mk0)),rfl,eP.frame _,λh=>by cases h⟩
theorem over:Rows.streamEmptyRow.holds Tryz.pinned (OpenSpec.ofChange Rows.streamEmptySpec):=
 OpenClaim.holds_of_wide 5 Tryz.f5 rfl rfl rfl rfl rfl rfl rfl ⟨rfl,rfl,rfl,rfl,rfl⟩ rfl rfl rfl rfl rfl (by kernel_rfl) Tryz.func5 Rn
  (of_decide_eq_true (by kernel_rfl)) (by unfold Func.isWrapper;first | (rw[if_pos (by decide +kernel)];kernel_rfl) | (rw[if_neg (by decide +kernel)];exact ⟨rfl,rfl⟩))
  (λos started H enc _=>lifted os started H enc)
theorem proved:Rows.StreamEmptyCardSaid:=
 Claim7.holds_tied_plain_at .later [] [.data, .data, .data] true (true, "105310f44fc7dc9c240ec21c869e98d4e96843577106512ff9d72452495896e4") false over (λ_ h=>by cases h) wf_ (λ_ h=>by cases h) streamEmpty_row_tie rfl ⟨rfl,rfl⟩ acB rfl
  (λf fn hf Pw=>by
   obtain rfl:f=5:=Option.some.inj ((show Tryz.prog.funcNamed "leakresponse/leakresponselaw09.StreamEmpty" = some 5 by kernel_rfl).symm.trans hf) |>.symm
   obtain rfl:fn=Tryz.f5:=(Option.some.inj (Tryz.func5.symm.trans Pw)).symm;exact ⟨Wy,λj t ht=>by
    rw[Tryz.params5]at ht;have hm:t∈[22,3]:=by simpa using Array.mem_of_getElem? ht
    have jj:([22,3].all λu=>!Tryz.prog.wantsStandIn u)=true:=by kernel_rfl
    exact (show Tryz.prog.wantsStandIn t=false by simpa using List.all_eq_true.1 jj t hm)⟩)
  acC
#print axioms proved
end Go.Proofs.YtdmoogjddmdmbaaGreatDoor.streamEmpty
