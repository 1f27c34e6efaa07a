/- The law LibraryTurns holds: for every input the call returns true, and each argument reads behind the call as it read before; the tied card of its row, whose listed tables are tied by the given tie. The shell was written by a program, after the kit's. -/
import Derived.Test.YtljgapfmgegifaaGreatDoorRows
import Derived.WalkKit
import Derived.ProofKit
import Derived.OpenShut
import Derived.ShutString
import Derived.ChangeOld
import Derived.Below
import Derived.LaidMore
import Derived.Lay
import Derived.Stop.Joined
import Derived.SevenTiedAt
import Derived.Test.YtljgapfmgegifaaGreatDoorCards
import Derived.Test.YtljgapfmgegifaaGreatDoorTie
import Derived.Test.YtljgapfmgegifaaGreatDoorY38
import Derived.Test.YtljgapfmgegifaaGreatDoorCameZ
import Derived.Test.YtljgapfmgegifaaGreatDoorFPTurnsZ
import Derived.Test.YtljgapfmgegifaaGreatDoorY37
namespace Go.Proofs.YtljgapfmgegifaaGreatDoor.libraryTurns
open Go.ChangeShapes Go.WideShapes Go.ChangeAt Go.RowKit
open Go.ChangeMaps (open_string shut_string)
set_option linter.unusedVariables false
theorem own:ownKnob Tryz.prog.godebug=none:=by kernel_rfl
theorem laidOut:laidOutB Tryz.prog=true:=by kernel_rfl
def IsRow (k:IntKind) (w:World) (a:Option Addr) (len cap:Nat) (zs:List Int):Prop:=
 (a=none/\len=0/\cap=0/\zs=[])\/
 ∃x,a=some x/\len<=cap/\cap<=maxLen/\zs.length=cap/\(∀i,i<zs.length->w.cell? (x.add i)=some (.int k (zs.getD i 0)))/\∀n∈zs,(Lit.int k n).wf=true
theorem walk (a0:Option Addr) (len0 cap0:Nat) (z0:List Int) (w:World) (w0:IsRow .i64 w a0 len0 cap0 z0) (hv:VrOK w) :
  Calls Tryz.prog 3 #[.slice a0 len0 cap0] w λe w'=>e = .returned (.bool true)/\Below w.heap.size w w':=by
 exact turns_law a0 len0 cap0 w (tapeArg_of w0) hv
set_option maxRecDepth 100000 in
theorem lifted (os:Os) (started:os.Started) (H:Type) (enc:TypeId×Value->H) :
  ReturnsInHanded {} Tryz.checked os 3 .any (λw args=>(Rows.libraryTurnsSpec.pre enc Tryz.prog Tryz.f3 Rows.libraryTurnsRow.domain false w args/\laidMetH Tryz.prog Rows.libraryTurnsRow.laid w)/\sizedMet enc Tryz.prog Tryz.f3 (OpenSpec.ofChange Rows.libraryTurnsSpec) false w args) (Rows.libraryTurnsSpec.post enc Tryz.prog Tryz.f3 false true false false):=by
 refine returnsInHanded_and_sized (C:=Tryz.checked) (X:=λw _=>laidMetH Tryz.prog Rows.libraryTurnsRow.laid w) (λ_ _ _ hh h=>h.of_heap hh) own started (by kernel_rfl) Tryz.func3
  (ChangeSpec.witness_shaped (enc:=enc) (C:=Tryz.checked) (os:=os) (X:=λw _=>laidMetH Tryz.prog Rows.libraryTurnsRow.laid w) false (World.laidAll Tryz.prog os Rows.libraryTurnsRow.laid) #[.slice none 0 0] 8 (World.laidAll_os _ _ _)
   (World.shaped_of_ZipB (by kernel_rfl) (by kernel_rfl)) (by kernel_rfl) (by kernel_rfl) (by kernel_rfl)
   (by rw[MakeChecks.laidMetH_plain _ _ _ (by kernel_rfl)];exact laidMet_laidAll _ (by kernel_rfl) (by kernel_rfl))) ?_
 intro W base args ds gs before hval0 hW hsh hL hz;have hval:∀(j:Nat) t v,Tryz.f3.params[j]?=some t->args[j]?=some v->Value.okWide Tryz.prog W .any base t v:=hval0;have hW':=hW;obtain ⟨p,q,hA0,hV,rfl,hfz,hnd⟩:=hW;have hA:DataW.TrodAll enc Tryz.prog W 0 (λ_=>true) true Tryz.f3.params.toList args.toList ds p:=hA0;rw[Tryz.params3]at hA hval;obtain ⟨v0,vs0,d0,ds0,p0,q0,hargs,rfl,rfl,h0,r0⟩:=trodAll_cons hA;obtain ⟨rfl,rfl,rfl⟩:=trodAll_nil r0;obtain rfl:args=#[v0]:=by cases args;simp_all
 obtain ⟨rfl,rfl⟩:=trodVars_none hV;have zz:(DataW.weightsEach Tryz.prog [22] [d0]).all (·<=reachBytes)=true:=by
  have:=hz;rw[Tryz.params3]at this;exact this
 have z0:=(wt_cons zz).1;clear hz;obtain ⟨a0,len0,cap0,rfl⟩:=okWide_slice Tryz.underlying22 (hval 0 22 v0 rfl rfl);have k0:=h0;have lt0:∀x∈p0,x.block<W.heap.size:=by obtain ⟨m,hm⟩:=k0;exact DataW.trod_lt m _ _ _ hm
 obtain ⟨zz0,w0⟩:∃zs,IsRow .i64 W a0 len0 cap0 zs:=by
  obtain ⟨fuel,hf⟩:=h0;rcases open_ints Tryz.underlying22 Tryz.underlying3 (by kernel_rfl) hf with ⟨hcs,_⟩ | ⟨x,l,c,zs,hcs,_,hl,hm,hz,_,hcell,hwz⟩
  .simp[Value.cells]at hcs;obtain ⟨rfl,rfl,rfl⟩:=hcs;exact ⟨[], .inl ⟨rfl,rfl,rfl,rfl⟩⟩
  .simp[Value.cells]at hcs;obtain ⟨rfl,rfl,rfl⟩:=hcs;exact ⟨zs, .inr ⟨_,rfl,hl,hm,by simpa using hz,hcell,hwz⟩⟩
 clear hA0 hval0;refine (walk a0 len0 cap0 zz0 W w0 (vrOK_of hsh hL)).mono λe W' ⟨he,bel⟩=>?_;subst he;exact ⟨_,rfl,_,_,_,[],_,[],hW',trodAll_mk1 (shut_bool Tryz.underlying4 _),(trodAll_cons_mk (Below.trod laidOut (by kernel_rfl) (of_decide_eq_true (by kernel_rfl)) k0 bel lt0) trodAll_mk0),rfl,bel.frame _,λh=>by cases h⟩
theorem over:Rows.libraryTurnsRow.holds Tryz.pinned (OpenSpec.ofChange Rows.libraryTurnsSpec):=
 OpenClaim.holds_of_wide 3 Tryz.f3 rfl rfl rfl rfl rfl rfl rfl ⟨rfl,rfl,rfl,rfl,rfl⟩ rfl rfl rfl rfl rfl (by kernel_rfl) Tryz.func3 closed_
  (of_decide_eq_true (by kernel_rfl)) (by unfold Func.isWrapper;first | (rw[if_pos (by decide +kernel)];kernel_rfl) | (rw[if_neg (by decide +kernel)];exact ⟨rfl,rfl⟩))
  (λos started H enc _=>lifted os started H enc)
theorem proved:Rows.LibraryTurnsCardSaid:=
 Claim7.holds_tied_plain_at .later [] [.data, .data, .data, .data, .sentinel, .sentinel, .pinned] true (true, "a3b55bfcf1e106f7648deb5c5805ad3ee6c792b5fdb33d2b8959f6d9104bb0ed") true over (λ_ h=>by cases h) wf_ (λ_ h=>by cases h) libraryTurns_row_tie rfl ⟨rfl,rfl⟩ main_ rfl
  (λf fn hf hfn=>by
   obtain rfl:f=3:=Option.some.inj ((show Tryz.prog.funcNamed "leakresponse/leakresponselaw07.LibraryTurns" = some 3 by kernel_rfl).symm.trans hf) |>.symm
   obtain rfl:fn=Tryz.f3:=(Option.some.inj (Tryz.func3.symm.trans hfn)).symm;exact ⟨looks_,λj t ht=>by
    rw[Tryz.params3]at ht;have hm:t∈[22]:=by simpa using Array.mem_of_getElem? ht
    have hall:([22].all λu=>!Tryz.prog.wantsStandIn u)=true:=by kernel_rfl
    exact (show Tryz.prog.wantsStandIn t=false by simpa using List.all_eq_true.1 hall t hm)⟩)
  goes_
#print axioms proved
end Go.Proofs.YtljgapfmgegifaaGreatDoor.libraryTurns
