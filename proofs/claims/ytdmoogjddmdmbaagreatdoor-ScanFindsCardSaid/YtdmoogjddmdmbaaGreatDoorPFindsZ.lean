/- The law ScanFinds holds: for every input the call returns true, and each argument reads behind the call as it read before; the tied card of its row, whose listed tables are tied by the given tie. The shell was written by a program, after the kit's. -/
import Derived.Test.YtdmoogjddmdmbaaGreatDoorRows
import Derived.WalkKit
import Derived.ProofKit
import Derived.OpenShut
import Derived.ShutString
import Derived.ChangeOld
import Derived.Below
import Derived.LaidMore
import Derived.Lay
import Derived.Stop.Joined
import Derived.SevenTiedAt
import Derived.Test.YtdmoogjddmdmbaaGreatDoorCards
import Derived.Test.YtdmoogjddmdmbaaGreatDoorTie
import Derived.Test.YtdmoogjddmdmbaaGreatDoorX50
import Derived.Test.YtdmoogjddmdmbaaGreatDoorCameZ
import Derived.Test.YtdmoogjddmdmbaaGreatDoorFPFindsZ
import Derived.Test.YtdmoogjddmdmbaaGreatDoorX49
set_option linter.unusedVariables false
set_option linter.unusedSimpArgs false
namespace Go.Proofs.YtdmoogjddmdmbaaGreatDoor.scanFinds
open Go.ChangeShapes Go.WideShapes Go.ChangeAt Go.RowKit
open Go.ChangeMaps (open_string shut_string)
theorem own:ownKnob Tryz.prog.godebug=none:=κ
theorem laidOut:laidOutB Tryz.prog=true:=κ
def Uj(k:IntKind)(w:World)(a:Option Addr)(len cap:Nat)(zs:List Int):Prop:=
 (a=none/\len=0/\cap=0/\zs=[])\/
 ∃x,a=some x/\len<=cap/\cap<=maxLen/\zs.length=cap/\(∀i,i<zs.length->w.cell? (x.add i)=some (.int k (zs.getD i 0)))/\∀n∈zs,(Lit.int k n).wf=true
theorem walk(a0:Option Addr)(JG JH:Nat)(z0:List Int)(w:World)(w0:Uj .i64 w a0 JG JH z0)(hv:dn w):
  Calls Tryz.prog 3 #[.slice a0 JG JH] w λe w'=>e=.returned (.bool true)/\Below w.heap.size w w':=by
 exact Js a0 JG JH w (Fl w0) hv
set_option maxRecDepth 100000 in
theorem lifted(os:Os)(started:os.Started)(axI:Type)(enc:TypeId×Value->axI):
  ReturnsInHanded {} Tryz.checked os 3 .any (λw args=>(Rows.scanFindsSpec.pre enc Tryz.prog Tryz.f3 Rows.scanFindsRow.domain false w args/\laidMetH Tryz.prog Rows.scanFindsRow.laid w)/\sizedMet enc Tryz.prog Tryz.f3 (OpenSpec.ofChange Rows.scanFindsSpec) false w args) (Rows.scanFindsSpec.post enc Tryz.prog Tryz.f3 false true false false):=by
 refine iX (C:=Tryz.checked) (X:=λw _=>laidMetH Tryz.prog Rows.scanFindsRow.laid w) (λ_ _ _ hh h=>h.of_heap hh) own started κ Tryz.func3
  (ChangeSpec.witness_shaped (enc:=enc) (C:=Tryz.checked) (os:=os) (X:=λw _=>laidMetH Tryz.prog Rows.scanFindsRow.laid w) false (World.laidAll Tryz.prog os Rows.scanFindsRow.laid) #[.slice none 0 0] 8 (World.laidAll_os _ _ _)
   (World.shaped_of_ZipB κ κ) κ κ κ
   (by rw[MakeChecks.laidMetH_plain _ _ _ κ];exact laidMet_laidAll _ κ κ)) ?_
 intro W base args ds gs before Uk hW Bg hL hz;have hval:∀(j:Nat) t v,Tryz.f3.params[j]?=some t->args[j]?=some v->Value.okWide Tryz.prog W .any base t v:=Uk;have hW':=hW;obtain ⟨p,q,Kr,hV,rfl,we,bc⟩:=hW;have hA:DataW.TrodAll enc Tryz.prog W 0 (λ_=>true) true Tryz.f3.params.toList args.toList ds p:=Kr;rw[Tryz.params3]at hA hval;obtain ⟨v0,vs0,d0,ds0,p0,q0,aph,rfl,rfl,h0,r0⟩:=trodAll_cons hA;obtain ⟨rfl,rfl,rfl⟩:=trodAll_nil r0;obtain rfl:args=#[v0]:=by cases args;simp_all
 obtain ⟨rfl,rfl⟩:=trodVars_none hV;have zz:(DataW.weightsEach Tryz.prog [22] [d0]).all (·<=reachBytes)=true:=by
  have:=hz;rw[Tryz.params3]at this;exact this
 have z0:=(Qi zz).1;clear hz;obtain ⟨a0,JG,JH,rfl⟩:=okWide_slice Tryz.underlying22 (hval 0 22 v0 rfl rfl);have k0:=h0;have lt0:∀x∈p0,x.block<W.heap.size:=by obtain ⟨m,hm⟩:=k0;exact DataW.trod_lt m _ _ _ hm
 obtain ⟨zz0,w0⟩:∃zs,Uj .i64 W a0 JG JH zs:=by
  obtain ⟨fuel,hf⟩:=h0;rcases open_ints Tryz.underlying22 Tryz.underlying3 κ hf with ⟨hcs,_⟩|⟨x,l,c,zs,hcs,_,hl,hm,hz,_,hcell,Kc⟩
  .simp[Value.cells]at hcs;obtain ⟨rfl,rfl,rfl⟩:=hcs;exact ⟨[],.inl ⟨rfl,rfl,rfl,rfl⟩⟩
  .simp[Value.cells]at hcs;obtain ⟨rfl,rfl,rfl⟩:=hcs;exact ⟨zs,.inr ⟨_,rfl,hl,hm,by simpa using hz,hcell,Kc⟩⟩
 clear Kr Uk;refine (walk a0 JG JH zz0 W w0 (R0 Bg hL)).mono λe W' ⟨he,eP⟩=>?_;subst he;exact ⟨_,rfl,_,_,_,[],_,[],hW',trodAll_mk1 (shut_bool Tryz.underlying4 _),(trodAll_cons_mk (Below.trod laidOut κ (of_decide_eq_true κ) k0 eP lt0) trodAll_mk0),rfl,eP.frame _,λh=>by cases h⟩
theorem over:Rows.scanFindsRow.holds Tryz.pinned (OpenSpec.ofChange Rows.scanFindsSpec):=
 OpenClaim.holds_of_wide 3 Tryz.f3 rfl rfl rfl rfl rfl rfl rfl ⟨rfl,rfl,rfl,rfl,rfl⟩ rfl rfl rfl rfl rfl κ Tryz.func3 Q7
  (of_decide_eq_true κ) (by unfold Func.isWrapper;first | (rw[if_pos (by decide +kernel)];kernel_rfl) | (rw[if_neg (by decide +kernel)];exact ⟨rfl,rfl⟩))
  (λos started axI enc _=>lifted os started axI enc)
theorem proved:Rows.ScanFindsCardSaid:=
 Claim7.holds_tied_plain_at .later [] [.data,.data,.data] true (true, "105310f44fc7dc9c240ec21c869e98d4e96843577106512ff9d72452495896e4") false over (λ_ h=>by cases h) wf_ (λ_ h=>by cases h) scanFinds_row_tie rfl ⟨rfl,rfl⟩ acI rfl
  (λf fn hf O9=>by
   obtain rfl:f=3:=Option.some.inj ((show Tryz.prog.funcNamed "leakresponse/leakresponselaw08.ScanFinds" = some 3 by kernel_rfl).symm.trans hf) |>.symm
   obtain rfl:fn=Tryz.f3:=(Option.some.inj (Tryz.func3.symm.trans O9)).symm;exact ⟨Wn,λj t ht=>by
    rw[Tryz.params3]at ht;have hm:t∈[22]:=by simpa using Array.mem_of_getElem? ht
    have jb:([22].all λu=>!Tryz.prog.wantsStandIn u)=true:=κ;exact (show Tryz.prog.wantsStandIn t=false by simpa using List.all_eq_true.1 jb t hm)⟩)
  acJ
#print axioms proved
end Go.Proofs.YtdmoogjddmdmbaaGreatDoor.scanFinds
