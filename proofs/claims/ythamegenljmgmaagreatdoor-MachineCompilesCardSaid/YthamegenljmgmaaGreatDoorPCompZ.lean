/- The law MachineCompiles holds: for every input the call returns true, and each argument reads behind the call as it read before; the tied card of its row, whose listed tables are tied by the given tie. The shell was written by a program, after the kit's. -/
import Derived.Test.YthamegenljmgmaaGreatDoorRows
import Derived.WalkKit
import Derived.ProofKit
import Derived.OpenShut
import Derived.ShutString
import Derived.ChangeOld
import Derived.Below
import Derived.LaidMore
import Derived.Lay
import Derived.Stop.Joined
import Derived.SevenTiedAt
import Derived.Test.YthamegenljmgmaaGreatDoorCards
import Derived.Test.YthamegenljmgmaaGreatDoorTie
import Derived.Test.YthamegenljmgmaaGreatDoorY39
import Derived.Test.YthamegenljmgmaaGreatDoorY33
import Derived.Test.YthamegenljmgmaaGreatDoorFPCompZ
import Derived.Test.YthamegenljmgmaaGreatDoorY38
set_option linter.unusedVariables false
set_option linter.unusedSimpArgs false
namespace Go.Proofs.YthamegenljmgmaaGreatDoor.machineCompiles
open Go.ChangeShapes Go.WideShapes Go.ChangeAt Go.RowKit
open Go.ChangeMaps (open_string shut_string)
theorem own:ownKnob Tryz.prog.godebug=none:=R
theorem laidOut:laidOutB Tryz.prog=true:=R
def TM(k:IntKind)(w:World)(a:Option Addr)(len cap:Nat)(zs:List Int):Prop:=
 (a=none/\len=0/\cap=0/\zs=[])\/
 ∃x,a=some x/\len<=cap/\cap<=maxLen/\zs.length=cap/\(∀i,i<zs.length->w.cell? (x.add i)=some (.int k (zs.getD i 0)))/\∀n∈zs,(Lit.int k n).wf=true
theorem ai4(a0:Option Addr)(IZ I0:Nat)(z0:List Int)(v1:Value)(w:World)(w0:TM .i64 w a0 IZ I0 z0)(w1:PD Tryz.prog w 26 v1)(hv:eU w):
  Calls Tryz.prog 3 #[.slice a0 IZ I0,v1] w λe w'=>e=.returned (.bool true)/\Below w w w':=by
 exact xw a0 IZ I0 v1 w (EI w0) w1 hv
set_option maxRecDepth 100000 in
theorem lifted(os:Os)(started:os.Started)(awM:Type)(enc:TypeId×Value->awM):
  ReturnsInHanded {} Tryz.checked os 3 .any (λw args=>(Rows.machineCompilesSpec.pre enc Tryz.prog Tryz.f3 Rows.machineCompilesRow.domain false w args/\laidMetH Tryz.prog Rows.machineCompilesRow.laid w)/\sizedMet enc Tryz.prog Tryz.f3 (OpenSpec.ofChange Rows.machineCompilesSpec) false w args) (Rows.machineCompilesSpec.post enc Tryz.prog Tryz.f3 false true false false):=by
 refine kg (C:=Tryz.checked) (X:=λw _=>laidMetH Tryz.prog Rows.machineCompilesRow.laid w) (λ_ _ _ hh h=>h.of_heap hh) own started R Tryz.func3
  (ChangeSpec.witness_shaped (enc:=enc) (C:=Tryz.checked) (os:=os) (X:=λw _=>laidMetH Tryz.prog Rows.machineCompilesRow.laid w) false (World.laidAll Tryz.prog os Rows.machineCompilesRow.laid) #[(),.agg #[(0:Int),(),(),(0:Int),(0:Int)]] 8 (World.laidAll_os _ _ _)
   (World.shaped_of_ZipB R R) R R R
   (by rw[MakeChecks.laidMetH_plain _ _ _ R];exact laidMet_laidAll _ R R)) ?_
 intro W base args ds gs before TN hW PY hL hz;have K7:∀(j:Nat) t v,Tryz.f3.params[j]?=some t->args[j]?=some v->Value.okWide Tryz.prog W .any base t v:=TN;have hW':=hW;obtain ⟨p,q,hA0,hV,rfl,Up,aY⟩:=hW;have hA:DataW.TrodAll enc Tryz.prog W 0 (λ_=>true) true Tryz.f3.params.toList args.toList ds p:=hA0;rw[Tryz.params3]at hA K7;obtain ⟨v0,vs0,d0,ds0,p0,q0,ana,rfl,rfl,h0,r0⟩:=trodAll_cons hA;obtain ⟨v1,vs1,d1,ds1,p1,q1,rfl,rfl,rfl,h1,r1⟩:=trodAll_cons r0;obtain ⟨rfl,rfl,rfl⟩:=trodAll_nil r1;obtain rfl:args=#[v0,v1]:=by cases args;simp_all
 obtain ⟨rfl,rfl⟩:=trodVars_none hV;have zz:(DataW.weightsEach Tryz.prog [22,26] [d0,d1]).all (·<=reachBytes)=true:=by
  have:=hz;rw[Tryz.params3]at this;exact this
 have z0:=(yZ zz).1;have y0:=(yZ zz).2;have z1:=(yZ y0).1;clear hz;obtain ⟨a0,IZ,I0,rfl⟩:=okWide_slice Tryz.underlying22 (K7 0 22 v0 rfl rfl);have k0:=h0;have lt0:∀x∈p0,x.block<W.heap.size:=by obtain ⟨m,hm⟩:=k0;exact DataW.trod_lt m _ _ _ hm
 obtain ⟨zz0,w0⟩:∃zs,TM .i64 W a0 IZ I0 zs:=by
  obtain ⟨fuel,hf⟩:=h0;rcases open_ints Tryz.underlying22 Tryz.underlying3 R hf with ⟨bH,_⟩|⟨x,l,c,zs,bH,_,hl,hm,hz,_,ak,Hj⟩
  .simp[Value.cells]at bH;obtain ⟨rfl,rfl,rfl⟩:=bH;exact ⟨[],.inl ⟨rfl,rfl,rfl,rfl⟩⟩
  .simp[Value.cells]at bH;obtain ⟨rfl,rfl,rfl⟩:=bH;exact ⟨zs,.inr ⟨_,rfl,hl,hm,by simpa using hz,ak,Hj⟩⟩
 have k1:=h1;have JZ:∀x∈p1,x.block<W.heap.size:=by obtain ⟨m,hm⟩:=k1;exact DataW.trod_lt m _ _ _ hm
 have w1:PD Tryz.prog W 26 v1:=by obtain ⟨m,hm⟩:=k1;exact ⟨awM,enc,_,_,_,m,_,_,_,hm,z1,K7 1 26 v1 rfl rfl⟩
 clear hA0 TN;refine (ai4 a0 IZ I0 zz0 v1 W w0 w1 (Ri PY hL)).mono λe W' ⟨he,cW⟩=>?_;subst he;exact ⟨_,rfl,_,_,_,[],_,[],hW',trodAll_mk1 (shut_bool Tryz.underlying4 _),(trodAll_cons_mk (Below.trod laidOut R (of_decide_eq_true R) k0 cW lt0) (trodAll_cons_mk (Below.trod laidOut R (of_decide_eq_true R) k1 cW JZ) trodAll_mk0)),rfl,cW.frame _,λh=>by cases h⟩
theorem over:Rows.machineCompilesRow.holds Tryz.pinned (OpenSpec.ofChange Rows.machineCompilesSpec):=
 OpenClaim.holds_of_wide 3 Tryz.f3 rfl rfl rfl rfl rfl rfl rfl ⟨rfl,rfl,rfl,rfl,rfl⟩ rfl rfl rfl rfl rfl R Tryz.func3 QF
  (of_decide_eq_true R) (by unfold Func.isWrapper;first | (rw[if_pos (by decide +kernel)];kernel_rfl) | (rw[if_neg (by decide +kernel)];exact ⟨rfl,rfl⟩))
  (λos started awM enc _=>lifted os started awM enc)
theorem proved:Rows.MachineCompilesCardSaid:=
 Claim7.holds_tied_plain_at .later [] [.data,.data,.data,.data,.sentinel,.sentinel,.pinned] true (true, "aa4b8bd36c2c2816fdd2d9b28a8ed9e1b83d8651783796543e420dcb569a3c83") true over (λ_ h=>by cases h) wf_ (λ_ h=>by cases h) machineCompiles_row_tie rfl ⟨rfl,rfl⟩ aa5 rfl
  (λf fn hf Dc=>by
   obtain rfl:f=3:=Option.some.inj ((show Tryz.prog.funcNamed "leakresponse/leakresponselaw06.MachineCompiles" = some 3 by kernel_rfl).symm.t hf) |>.symm
   obtain rfl:fn=Tryz.f3:=(Option.some.inj (Tryz.func3.symm.t Dc)).symm;exact ⟨VG,λj t ht=>by
    rw[Tryz.params3]at ht;have hm:t∈[22,26]:=by simpa using Array.mem_of_getElem? ht
    have jf:([22,26].all λu=>!Tryz.prog.wantsStandIn u)=true:=R;exact (show Tryz.prog.wantsStandIn t=false by simpa using List.all_eq_true.1 jf t hm)⟩)
  aa6
#print axioms proved
end Go.Proofs.YthamegenljmgmaaGreatDoor.machineCompiles
