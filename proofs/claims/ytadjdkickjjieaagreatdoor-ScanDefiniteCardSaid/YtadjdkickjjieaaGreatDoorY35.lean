/- The machine of the pattern a{1,2}. -/
import Derived.Test.YtadjdkickjjieaaGreatDoorY20
namespace Go.Proofs.YtadjdkickjjieaaGreatDoor
set_option linter.unusedVariables false
set_option linter.unusedSimpArgs false
set_option maxRecDepth 100000
open Go.RowKit
def ndAA:Nd:=.mk 4 [] [.mk 1 [(97,97)] [] 0 0] 1 2
theorem zEg:zAV ndAA=0:=by decide
def mcAA:Mc:=⟨[[⟨97,97,1⟩],[⟨97,97,2⟩],[]],[false,true,true]⟩
theorem aaT (c t:Nat):trn [⟨97,97,t⟩] c=if 97<=c/\c<=97 then some t else none:=rfl
theorem aa2:∀w,acF mcAA w 2=true↔w=[]
 | []=>by decide
 | c::w=>by
  rw[zAm];show (match trn [] c with | none=>false | some t=>acF mcAA w t)=true↔_
  simp[trn]
theorem aa1:∀w,acF mcAA w 1=true↔w=[]\/w=[97]
 | []=>by decide
 | c::w=>by
  rw[zAm];show (match trn [⟨97,97,2⟩] c with | none=>false | some t=>acF mcAA w t)=true↔_
  rw[aaT];by_cases h:97<=c/\c<=97
  .rw[if_pos h];show acF mcAA w 2=true↔_;rw[aa2];obtain rfl:c=97:=by omega
   simp
  .rw[if_neg h];constructor
   .intro h1;cases h1
   .rintro (h1 | h1)
    .cases h1
    .injection h1 with h1 _;omega
theorem aa0:∀w,acF mcAA w 0=true↔w=[97]\/w=[97,97]
 | []=>by decide
 | c::w=>by
  rw[zAm];show (match trn [⟨97,97,1⟩] c with | none=>false | some t=>acF mcAA w t)=true↔_
  rw[aaT];by_cases h:97<=c/\c<=97
  .rw[if_pos h];show acF mcAA w 1=true↔_;rw[aa1];obtain rfl:c=97:=by omega
   simp
  .rw[if_neg h];constructor
   .intro h1;cases h1
   .rintro (h1 | h1)
    .injection h1 with h1 _;omega
    .injection h1 with h1 _;omega
theorem canon_AA:Canon mcAA where
 len:=rfl
 srt:=by
  intro r hr;simp only[mcAA,List.mem_cons,List.not_mem_nil,or_false]at hr;rcases hr with rfl | rfl | rfl <;> simp[zAu]
 mx:=by
  intro r hr;simp only[mcAA,List.mem_cons,List.not_mem_nil,or_false]at hr;rcases hr with rfl | rfl | rfl <;> simp[MaxE]
 to:=by decide
 live:=by
  intro s hs
  match s,hs with
  | 0,_=>exact ⟨[97,97],by decide⟩
  | 1,_=>exact ⟨[97],by decide⟩
  | 2,_=>exact ⟨[],by decide⟩
  | s+3,hs=>exact absurd hs (by show ¬s+3<3;omega)
 dist:=by
  intro s t hs ht h;have hs3:s<3:=hs;have ht3:t<3:=ht;have h1:=h [];have h2:=h [97];have h3:∀s,s<3->∀t,t<3->acF mcAA [] s=acF mcAA [] t->acF mcAA [97] s=acF mcAA [97] t->s=t:=by decide
  exact h3 s hs3 t ht3 h1 h2
 meet:=by simp[mcAA,zCo,zDz,topE]
theorem zLC (w:List Nat):zAc ndAA w↔w=[97]\/w=[97,97]:=by
 have hk:∀u,zAc (.mk 1 [(97,97)] [] 0 0) u↔u=[97]:=λu=>by
  rw[zAc];show (if 1=1 then _ else _)↔_;rw[if_pos rfl];simp[inR];constructor
  .rintro ⟨c,rfl,h1,h2⟩;rw[show c=97 by omega]
  .rintro rfl;exact ⟨97,rfl,by omega,by omega⟩
 have h0:zAc ndAA w↔∃j:Nat,(1:Int)<=(j:Int)/\(j:Int)<=2/\powL (zAc (.mk 1 [(97,97)] [] 0 0)) j w:=by
  unfold ndAA;rw[zAc];exact Iff.rfl
 rw[h0];constructor
 .rintro ⟨j,h1,h2,h⟩;rcases (show j=1\/j=2 by omega) with rfl | rfl
  .obtain ⟨u1,v1,rfl,h3,h4⟩:=h;have h3:u1=[]:=h3;subst h3;exact .inl ((hk _).1 h4)
  .obtain ⟨u,v,rfl,⟨u1,v1,rfl,h3,h4⟩,h5⟩:=h;have h3:u1=[]:=h3;subst h3;have e1:=(hk _).1 h4;have e2:=(hk _).1 h5;subst e1 e2;exact .inr rfl
 .rintro (rfl | rfl)
  .exact ⟨1,by decide,by decide,[],[97],rfl,rfl,(hk _).2 rfl⟩
  .exact ⟨2,by decide,by decide,[97],[97],rfl,⟨[],[97],rfl,rfl,(hk _).2 rfl⟩,(hk _).2 rfl⟩
theorem zKq:posF ndAA=2:=by decide
theorem zNN {w w':World} {e:Ending} (h:zIY ndAA w e w'):Below w.heap.size w w'/\∃rv,e = .returned (.tuple #[rv, .int .i64 0])/\McUp w.heap.size w' rv mcAA:=by
 obtain ⟨hb,h⟩:=h;refine ⟨hb,?_⟩;rcases h with ⟨h1,-⟩ | ⟨-,h1,-⟩ | ⟨-,-,b,x,gs,rows,acs,i,hw,hf,hs,hc,h⟩
 .exact absurd zEg h1
 .rw[zKq]at h1;omega
 .have hct:=hc.count;rw[hw.len,hf,zKq]at hct;rcases h with ⟨h1,-⟩ | ⟨rfl,-,rv,m',rfl,hup,hle⟩
  .omega
  .have hd:=(hc.done hs).2.2;have hl:∀u,acF ⟨rows,acs⟩ u 0=acF mcAA u 0:=λu=>by
    rw[Bool.eq_iff_iff,hd,hw.lang,show (gN ndAA).l u↔zAc ndAA u from Iff.rfl,zLC,aa0]
   have hlv:zAi ⟨rows,acs⟩ 0:=⟨[97,97],by rw[hl];decide⟩
   rcases hle.1 with ⟨-,hcan,hla⟩ | ⟨h1,-⟩
   .have:=Canon.unique hcan canon_AA λu=>by rw[hla,hl]
    subst this;exact ⟨rv,rfl,hup⟩
   .exact absurd hlv h1
end Go.Proofs.YtadjdkickjjieaaGreatDoor
