/- Patterns that the maker makes: right, small; members can be made of them. -/
import Derived.Test.YtadjdkickjjieaaGreatDoorY45
import Derived.Test.YtadjdkickjjieaaGreatDoorY04
import Derived.Test.YtadjdkickjjieaaGreatDoorY11
import Derived.Test.YtadjdkickjjieaaGreatDoorY27
namespace Go.Proofs.YtadjdkickjjieaaGreatDoor
set_option linter.unusedVariables false
set_option linter.unusedSimpArgs false
set_option maxRecDepth 100000
open Go.RowKit
theorem PtK.s:∀{d:Nat} {nd:Nd},PtK d nd->PtS d nd
 | 0,_,⟨rs,_,e⟩=>⟨rs,e⟩
 | _+1,_, .inl ⟨rs,_,e⟩=>.inl ⟨rs,e⟩
 | _+1,_, .inr (.inl ⟨op,kids,h1,h2,h3,h4,h5⟩)=>.inr (.inl ⟨op,kids,h1,h2,h3,h4,λk hk=>(h5 k hk).1.s⟩)
 | _+1,_, .inr (.inr ⟨k,mn,mx,h1,_,_,h4,h5,_,h7⟩)=>.inr (.inr ⟨k,mn,mx,h1,h4,h5,h7.s⟩)
theorem zGX {N:Nat}:∀{kids:List Nd},(∀k∈kids,zAE k<=N/\zAY k<=N/\posF k<=N)->zAS kids<=kids.length*N/\zAv kids<=kids.length*N/\posS kids<=kids.length*N
 | [],_=>by simp[zAS,zAv,posS]
 | k::r,h=>by
  have h1:=h k (by simp)
  have h2:=zGX (kids:=r) λx hx=>h x (by simp[hx])
  rw[zAS,zAv,posS,List.length_cons,Nat.succ_mul];omega
theorem zGf {N:Nat}:∀{kids:List Nd},(∀k∈kids,zAY k<=N)->zAy kids<=N
 | [],_=>by rw[zAy];exact Nat.zero_le _
 | k::r,h=>by
  have h1:=h k (by simp)
  have h2:=zGf (kids:=r) λx hx=>h x (by simp[hx])
  rw[zAy];omega
theorem zGp {N:Nat}:∀{kids:List Nd},(∀k∈kids,zAd k<=N)->zAW kids<=N
 | [],_=>by rw[zAW];exact Nat.zero_le _
 | k::r,h=>by
  have h1:=h k (by simp)
  have h2:=zGp (kids:=r) λx hx=>h x (by simp[hx])
  rw[zAW];omega
theorem zEC:∀{kids:List Nd},(∀k∈kids,zAF k=true)->zAP kids=true
 | [],_=>by rw[zAP]
 | k::r,h=>by
  rw[zAP,h k (by simp),zEC (kids:=r) λx hx=>h x (by simp[hx])];rfl
theorem zE4:∀rs∈zBv,zAq (.mk 1 rs [] 0 0)=true/\(1<=rs.length/\rs.length<=1000)/\∀r∈rs,r.1<=r.2/\r.2<256:=by decide
theorem PtK.small:∀{d:Nat} {nd:Nd},PtK d nd->(zAE nd<=4 ^ d/\zAY nd<=4 ^ d/\posF nd<=4 ^ d)/\zAd nd<=d+1/\zAF nd=true:=by
 intro d;have one:∀(d:Nat) rs,rs∈zBv->(zAE (.mk 1 rs [] 0 0)<=4 ^ d/\zAY (.mk 1 rs [] 0 0)<=4 ^ d/\posF (.mk 1 rs [] 0 0)<=4 ^ d)/\zAd (.mk 1 rs [] 0 0)<=d+1/\zAF (.mk 1 rs [] 0 0)=true:=λd rs hrs=>by
  have h4:1<=4 ^ d:=Nat.pow_pos (by decide)
  have h1:=(zE4 rs hrs).1;refine ⟨⟨?_,?_,?_⟩,?_,?_⟩
  .rw[zAE,zAS];omega
  .rw[zAY,if_pos rfl];omega
  .rw[posF,if_pos rfl];omega
  .rw[zAd,zAW];omega
  .rw[zAF,h1,zAP];rfl
 induction d with
 | zero=>rintro nd ⟨rs,hrs,rfl⟩;exact one 0 rs hrs
 | succ d ih=>
  intro nd h;have h4:1<=4 ^ d:=Nat.pow_pos (by decide)
  have hp:4 ^ (d+1)=4*4 ^ d:=by rw[Nat.pow_succ,Nat.mul_comm]
  rw[hp];generalize 4 ^ d=N at ih h4 hp;rcases h with ⟨rs,hrs,rfl⟩ | ⟨op,kids,hop,rfl,h2,h3,hk⟩ | ⟨k,mn,mx,rfl,h0,h1,h2,h3,hne,hk⟩
  .have:=one (d+1) rs hrs;rw[hp]at this;exact this
  .have hS:=zGX (kids:=kids) λk hm=>(ih (hk k hm).1).1;have hC:=zGf (kids:=kids) λk hm=>(ih (hk k hm).1).1.2.1;have hD:=zGp (kids:=kids) λk hm=>(ih (hk k hm).1).2.1;have hR:=zEC (kids:=kids) λk hm=>(ih (hk k hm).1).2.2;have h3N:kids.length*N<=3*N:=Nat.mul_le_mul_right _ h3;have ho1:op≠1:=by rcases hop with rfl | rfl <;> decide
   have ho4:op≠4:=by rcases hop with rfl | rfl <;> decide
   refine ⟨⟨?_,?_,?_⟩,?_,?_⟩
   .rw[zAE];omega
   .rw[zAY,if_neg ho1];rcases hop with rfl | rfl
    .rw[if_pos rfl];omega
    .rw[if_neg (by decide),if_pos rfl];omega
   .rw[posF,if_neg ho1,if_neg ho4];omega
   .rw[zAd];omega
   .have hany:(kids.any λk=>k.op == op)=false:=by
     rw[List.any_eq_false];intro k hm;have:=(hk k hm).2;simpa using this
    rw[zAF,hR,zAq,if_neg ho1,if_pos hop,decide_eq_true h2,hany]
    rfl
  .obtain ⟨⟨q1,q2,q3⟩,q4,q5⟩:=ih hk;have hm:mx.toNat<=4:=by omega
   refine ⟨⟨?_,?_,?_⟩,?_,?_⟩
   .rw[zAE,zAS,zAS];omega
   .rw[zAY,if_neg (by decide),if_neg (by decide),if_neg (by decide),zDv]
    have:mx.toNat*zAY k<=4*N:=Nat.mul_le_mul hm q2;omega
   .rw[posF,if_neg (by decide),if_pos rfl,posH]
    have:mx.toNat*posF k<=4*N:=Nat.mul_le_mul hm q3;omega
   .rw[zAd,zAW,zAW];omega
   .rw[zAF,zAP,q5,zAP,zAq,if_neg (by decide),if_neg (by decide),if_pos rfl,decide_eq_true h0,decide_eq_true h1,decide_eq_true h2,decide_eq_true (show mx<=64 by omega)]
    have:(decide (mn=1) && decide (mx=1))=false:=by
     rw[Bool.and_eq_false_iff,decide_eq_false_iff_not,decide_eq_false_iff_not];by_cases e:mn=1
     .exact .inr λe2=>hne ⟨e,e2⟩
     .exact .inl e
    rw[this];rfl
theorem PtK.ok {nd:Nd} (h:PtK 2 nd):zAV nd=0/\posF nd<=16/\zAY nd<=16:=by
 obtain ⟨⟨h1,h2,h3⟩,h4,h5⟩:=h.small;refine ⟨?_,h3,h2⟩;unfold zAV;rw[if_neg (by omega),if_neg (by omega),if_neg (by rw[h5];decide),if_neg (by omega)]
theorem CmA.made {nd:Nd} {er:Int} {m:Mc} (h:CmA nd er m) (hp:PtK 2 nd):er=0:=by
 obtain ⟨h1,h2,-⟩:=hp.ok;rcases h with ⟨h3,-⟩ | ⟨-,h3,-⟩ | ⟨-,-,b,x,gs,rows,acs,i,hw,hf,hs,hc,h⟩
 .exact absurd h1 h3
 .omega
 .have hg:=zME hp.s hc (show Mk ⟨[],[]⟩ b x (auN nd) from hw.mk');rcases h with ⟨h3,-⟩ | ⟨-,-,h3,-⟩
  .omega
  .exact h3
def jk (w:World) (g:Nat):World:={ w with heap:=w.heap.setIfInBounds g (.cells #[] 0 (0,0)) }
theorem zIs {w:World} {g B:Nat} (h:g<B):KeepF (List.range B) [] w (jk w g):=
 ⟨rfl,rfl,rfl,by simp[jk],λk _ hn=>by
  have:g≠k:=λe=>hn (List.mem_range.2 (e▸h));simp[jk,Array.getElem?_setIfInBounds_ne this],λk hk=>by cases hk⟩
theorem zIb {w:World} {g j:Nat} (h:g<w.heap.size):(jk w g).cell? ⟨g,j,none⟩=none:=by
 have:(jk w g).heap[g]?=some (.cells #[] 0 (0,0)):=by simp[jk,h]
 rw[cell_of_row _ _ _ _ _ _ this];rfl
theorem NdUp.kid {B:Nat} {w:World} {vs:List Value} {op mn mx:Int} {rs:List (Nat×Nat)} {kids:List Nd} (h:NdUp B w vs (.mk op rs kids mn mx)) (h0:kids≠[]) :
  ∃A1 n1 c1 g f c,vs=[.int .i64 op, .slice A1 n1 c1, .slice (some ⟨g,f,none⟩) kids.length c, .int .i64 mn, .int .i64 mx]/\B<=g/\g<w.heap.size/\∀i (hi:i<kids.length),∃u0 u1 u2 u3 u4,w.cell? ⟨g,f+i*5,none⟩=some u0/\w.cell? ⟨g,f+i*5+1,none⟩=some u1/\w.cell? ⟨g,f+i*5+2,none⟩=some u2/\w.cell? ⟨g,f+i*5+3,none⟩=some u3/\w.cell? ⟨g,f+i*5+4,none⟩=some u4/\NdUp B w [u0,u1,u2,u3,u4] kids[i]:=by
 obtain ⟨A1,c1,A2,c2,rfl,-,-,hk⟩:=h.in_.form;obtain ⟨g,f,e,hg,hkd⟩:=hk.resolve_left h0;have e:A2=some ⟨g,f,none⟩:=e;subst e;have hB:B<=g:=by
  refine Nat.le_of_not_lt λhlt=>?_;obtain ⟨_,_,A3,c3,e,-,-,hk3⟩:=(h (jk w g) (zIs hlt)).form;injection e with _ e;injection e with _ e;injection e with e _;injection e with e _ _;obtain ⟨g3,f3,e3,-,hkd3⟩:=hk3.resolve_left h0;rw[<-e]at e3;injection e3 with e3;injection e3 with e3 e4 _;subst e3 e4;have hp:0<kids.length:=List.length_pos_iff.2 h0;obtain ⟨us,hc,hn⟩:=hkd3.at 0 hp;obtain ⟨_,_,_,_,rfl,-⟩:=hn.form;have:=hc 0 (by decide)
  rw[zIb hg]at this
  cases this
 refine ⟨A1,_,c1,g,f,c2,rfl,hB,hg,λi hi=>?_⟩;have hi':i<(Nd.mk op rs kids mn mx).kids.length:=hi;obtain ⟨us,hc,hn⟩:=hkd.at i hi';obtain ⟨B1,e1,B2,e2,rfl,-⟩:=hn.form;have q0:=hc 0 (by omega);have q1:=hc 1 (by omega);have q2:=hc 2 (by omega);have q3:=hc 3 (by omega);have q4:=hc 4 (by omega)
 refine ⟨_,_,_,_,_,q0,q1,q2,q3,q4,λW hW=>?_⟩;obtain ⟨_,_,A3,c3,e,-,-,hk3⟩:=(h W hW).form;injection e with _ e;injection e with _ e;injection e with e _;injection e with e _ _;obtain ⟨g3,f3,e3,-,hkd3⟩:=hk3.resolve_left h0;rw[<-e]at e3;injection e3 with e3;injection e3 with e3 e4 _;subst e3 e4;obtain ⟨us',hc',hn'⟩:=hkd3.at i hi';have z:∀j,j<5->us'[j]?=([.int .i64 (Nd.kids (.mk op rs kids mn mx))[i].op, .slice B1 (Nd.kids (.mk op rs kids mn mx))[i].rs.length e1, .slice B2 (Nd.kids (.mk op rs kids mn mx))[i].kids.length e2, .int .i64 (Nd.kids (.mk op rs kids mn mx))[i].mn, .int .i64 (Nd.kids (.mk op rs kids mn mx))[i].mx]:List Value)[j]?:=λj hj=>by
  rw[<-hc' j hj,<-hc j hj];exact World.cell?_of_block (a:=⟨g,f+i*5+j,none⟩) (hW.blk g hg (λhm=>by have:=List.mem_range.1 hm;omega))
 obtain ⟨_,_,_,_,rfl,-⟩:=hn'.form;have he:=List.ext_getElem? λj=>show _=_ from by
  by_cases hj:j<5
  .exact z j hj
  .rw[List.getElem?_eq_none (by simp;omega),List.getElem?_eq_none (by simp;omega)]
 rw[he]at hn';exact hn'
theorem NdUp.rng {B b:Nat} {w:World} {vs:List Value} {op mn mx:Int} {rs:List (Nat×Nat)} {kids:List Nd} (h:NdUp B w vs (.mk op rs kids mn mx)) (hb:b<B) (h1:1<=rs.length/\rs.length<=1000) (h2:∀r∈rs,r.1<=r.2/\r.2<256) :
  ∃v1 A2 n2 c2,vs=[.int .i64 op,v1, .slice A2 n2 c2, .int .i64 mn, .int .i64 mx]/\Sl v1/\RgV b w v1:=by
 obtain ⟨A1,c1,A2,c2,rfl,hr,-,-⟩:=h.in_.form;have h0:rs≠[]:=by rintro rfl;simp at h1
 obtain ⟨A',c',e,-,hor⟩:=hr;have hA:∀W,NdIn W (.mk op rs kids mn mx) [.int .i64 op, .slice A1 rs.length c1, .slice A2 kids.length c2, .int .i64 mn, .int .i64 mx]->∃g f,A1=some ⟨g,f,none⟩/\g<W.heap.size/\∀i (h:i<rs.length),(W.cell? ⟨g,f+i*2,none⟩=some (.int .u8 (rs[i].1:Int))/\W.cell? ⟨g,f+i*2+1,none⟩=some (.int .u8 (rs[i].2:Int)))/\rs[i].1<256/\rs[i].2<256:=λW hW=>by
  obtain ⟨A3,c3,A4,c4,e,⟨A5,c5,e5,-,hor⟩,-,-⟩:=hW.form;injection e with _ e;injection e with e _;injection e with e _ _;injection e5 with e5 _ _;obtain ⟨g,f,e6,q1,q2⟩:=hor.resolve_left h0;exact ⟨g,f,by rw[e,e5,e6],q1,q2⟩
 obtain ⟨g,f,rfl,hg,hc⟩:=hA w h.in_;have hB:B<=g:=by
  refine Nat.le_of_not_lt λhlt=>?_;obtain ⟨g3,f3,e3,-,hc3⟩:=hA (jk w g) (h (jk w g) (zIs hlt));injection e3 with e3;injection e3 with e3 e4 _;subst e3 e4;have:=(hc3 0 (by omega)).1.1
  rw[zIb hg]at this
  cases this
 exact ⟨_,A2,_,c2,rfl,Sl.of _ _ _,g,f,_,c1,rfl,h1.1,h1.2,by omega,hg,λj hj=>by
  have hj':j<rs.length:=hj;have h3:=h2 _ (List.getElem_mem hj');exact ⟨_,_,(hc j hj').1.1,(hc j hj').1.2,by omega,by omega,by omega⟩⟩
theorem NdUp.pat {B b:Nat} (hb:b<B):∀{d:Nat} {nd:Nd} {vs:List Value} {w:World},PtK d nd->NdUp B w vs nd->Pat b w (d+1) (4 ^ d) vs:=by
 intro d;have one:∀(d:Nat) (nd:Nd) (vs:List Value) (w:World) rs,rs∈zBv->nd = .mk 1 rs [] 0 0->NdUp B w vs nd->Pat b w (d+1) (4 ^ d) vs:=λd nd vs w rs hrs e h=>by
  subst e;obtain ⟨-,h1,h2⟩:=zE4 rs hrs;obtain ⟨v1,A2,n2,c2,rfl,h3,h4⟩:=h.rng hb h1 h2;exact ⟨v1,_,0,0,⟨h3,Sl.of _ _ _⟩, .inl ⟨rfl,h4,Nat.pow_pos (by decide)⟩⟩
 induction d with
 | zero=>rintro nd vs w ⟨rs,hrs,e⟩ h;exact one 0 nd vs w rs hrs e h
 | succ d ih=>
  intro nd vs w hp h;have hpw:4 ^ (d+1)=4*4 ^ d:=by rw[Nat.pow_succ,Nat.mul_comm]
  rcases hp with ⟨rs,hrs,e⟩ | ⟨op,kids,hop,rfl,h2,h3,hk⟩ | ⟨k,mn,mx,rfl,h0,h1,h2,h3,hne,hk⟩
  .exact one (d+1) nd vs w rs hrs e h
  .obtain ⟨A1,n1,c1,g,f,c,rfl,hB,hg,hkd⟩:=h.kid (by rintro rfl;simp at h2)
   have hkv:∀{m:Nat},4 ^ d<=m->KdV b w (Pat b w (d+1) m) kids.length (.slice (some ⟨g,f,none⟩) kids.length c):=λhm=>⟨g,f,c,rfl,by omega,hg,by omega,λj hj=>by
    obtain ⟨u0,u1,u2,u3,u4,q0,q1,q2,q3,q4,hu⟩:=hkd j hj;exact ⟨u0,u1,u2,u3,u4,q0,q1,q2,q3,q4,(ih (hk _ (List.getElem_mem hj)).1 hu).mono (Nat.le_refl _) hm⟩⟩
   rcases hop with rfl | rfl
   .exact ⟨_,_,0,0,⟨Sl.of _ _ _,Sl.of _ _ _⟩, .inr (.inl ⟨rfl,kids.length,4 ^ d,hkv (Nat.le_refl _),by rw[hpw];exact Nat.mul_le_mul_right _ (by omega)⟩)⟩
   .exact ⟨_,_,0,0,⟨Sl.of _ _ _,Sl.of _ _ _⟩, .inr (.inr (.inl ⟨rfl,kids.length,hkv (by omega),by omega⟩))⟩
  .obtain ⟨A1,n1,c1,g,f,c,rfl,hB,hg,hkd⟩:=h.kid (by simp)
   have hkv:KdV b w (Pat b w (d+1) (4 ^ d)) [k].length (.slice (some ⟨g,f,none⟩) [k].length c):=⟨g,f,c,rfl,by omega,hg,by simp,λj hj=>by
    obtain ⟨u0,u1,u2,u3,u4,q0,q1,q2,q3,q4,hu⟩:=hkd j hj;obtain rfl:j=0:=by simpa using hj
    exact ⟨u0,u1,u2,u3,u4,q0,q1,q2,q3,q4,ih hk hu⟩⟩
   exact ⟨_,_,mn,mx,⟨Sl.of _ _ _,Sl.of _ _ _⟩, .inr (.inr (.inr ⟨rfl,1,4 ^ d,hkv,Nat.le_refl _,h0,h1,⟨h2,by omega⟩,by rw[hpw];exact Nat.mul_le_mul_right _ (by omega)⟩))⟩
end Go.Proofs.YtadjdkickjjieaaGreatDoor
