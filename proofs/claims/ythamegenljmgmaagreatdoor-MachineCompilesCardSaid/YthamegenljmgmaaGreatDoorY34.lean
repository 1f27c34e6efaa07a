/- Walks. -/
import Derived.Deep.Slices
import Derived.Test.YthamegenljmgmaaGreatDoorY33
import Derived.Test.YthamegenljmgmaaGreatDoorY04
import Derived.ProofKit
set_option maxRecDepth 100000
set_option maxHeartbeats 16000000
set_option linter.unusedVariables false
set_option linter.unusedSimpArgs false
namespace Go.Proofs.YthamegenljmgmaaGreatDoor
open Go.RowKit
section
open Go.RowKit Go.Deep
theorem hZ{cs:List Value}{j:Nat}{v:Value}(h:(cs.drop j).take 1=[v]):cs[j]?=some v:=by
 have:((cs.drop j).take 1)[0]?=some v:=by rw[h];rfl
 rw[List.getElem?_take_of_lt U,List.getElem?_drop,Nat.add_zero]at this;exact this
theorem KI{n:Int}(h:(Lit.int .u8 n).wf=true):0<=n/\n<256:=by
 have h1:IntKind.u8.min=0:=O;have h2:IntKind.u8.max=255:=O;simp[Lit.wf]at h;omega
theorem uz{w:World}{g f:Nat}{spot:Option Nat}{j:Nat}{v:Value}(h:w.cell? ((⟨g,f,spot⟩:Addr).add j)=some v)(hj:j=0):spot=none:=by
 subst hj
 cases spot with
 |none=>rfl
 |some s=>
  exfalso;unfold World.cell? Addr.add at h;simp at h;split at h <;> simp at h
theorem eS.mk{w:World}:∀{l:List Nd} {g f:Nat},(∀i (h:i<l.length),∃vs:List Value,(∀j,j<5->w.cell? (Z g (f+i*5+j))=vs[j]?)/\bY w l[i] vs)->eS w l g f
 | [],_,_,_=>trivial
 |k::r,g,f,h=>by
  refine ⟨?_,eS.mk λi hi=>?_⟩
  .obtain ⟨vs,h1,h2⟩:=h 0 H;exact ⟨vs,λj hj=>by have:=h1 j hj;rwa [Nat.zero_mul,Nat.add_zero]at this,h2⟩
  .obtain ⟨vs,h1,h2⟩:=h (i+1) (by simpa using hi)
   refine ⟨vs,λj hj=>?_,h2⟩;have:=h1 j hj;rwa [show f+(i+1)*5+j=f+5+i*5+j by omega]at this
section
variable {awM:Type} {enc:TypeId×Value->awM} {w:World} {base:Nat} {spare:Nat->Bool} {held:Bool} {fuel:Nat}
theorem PB{cs:List Value}{x:DataW awM×List MemPlace}(h:DataW.trod enc Tryz.prog w base spare held fuel 23 cs=some x):∃v l,cs=[v]/\gD w v l:=by
 rcases open_slice Tryz.underlying23 h with ⟨rfl,-⟩|⟨a,len,cap,m,n,awP,Pl,rfl,hb,hl,hm,Dw,rfl,hi⟩
 .exact ⟨_,[],rfl,none,0,rfl,⟨V,O⟩,.inl rfl⟩
 .have Ui:len<=m:=by rw[Dw]; split <;> omega
  have h2:Tryz.prog.cellsOf 72=2:=R;have c3:Tryz.prog.cellsOf 5=1:=R;obtain ⟨M,hM⟩:=choose_lt (α:=Nat×Nat) (n:=len) (p:=λi e=>(w.cell? (a.add (i*2))=some (.int .u8 (e.1:Int))/\w.cell? (a.add (i*2+1))=some (.int .u8 (e.2:Int)))/\e.1<256/\e.2<256) (λi xP=>by
   obtain ⟨Hl,q1,q2⟩:=hi i U;rw[h2]at q1;obtain ⟨-,hlen,ak⟩:=World.cells?_some q1;obtain ⟨ys,n',-,hy,-,OE,hf⟩:=DataW.trod_struct Tryz.underlying72 q2;have f0:DataW.trod enc Tryz.prog w base spare held n' 5 ((Hl.drop 0).take (Tryz.prog.cellsOf 5))=ys[0]?:=hf 0 _ rfl;have f1:DataW.trod enc Tryz.prog w base spare held n' 5 ((Hl.drop 1).take (Tryz.prog.cellsOf 5))=ys[1]?:=hf 1 _ rfl;rw[c3]at f0 f1
   match ys,OE with
   | [y0,y1],_=>
    obtain ⟨k0,e0,-,w0⟩:=DataW.trod_int Tryz.underlying5 (f0.t rfl);obtain ⟨k1,e1,-,w1⟩:=DataW.trod_int Tryz.underlying5 (f1.t rfl);have b0:=KI w0;have b1:=KI w1;refine ⟨(k0.toNat,k1.toNat),⟨?_,?_⟩,by show k0.toNat<256;omega,by show k1.toNat<256;omega⟩
    .have:=ak 0 U;rw[add_add,Nat.add_zero]at this;rw[this,hZ e0];show some (Value.int .u8 k0)=some (.int .u8 ((k0.toNat:Nat):Int));rw[Int.toNat_of_nonneg b0.1]
    .have:=ak 1 U;rw[add_add]at this;rw[this,hZ e1];show some (Value.int .u8 k1)=some (.int .u8 ((k1.toNat:Nat):Int));rw[Int.toNat_of_nonneg b1.1])
  refine ⟨_,(List.range len).map M,rfl,some a,cap,H,⟨by simpa using hl,by unfold maxLen at hm;omega⟩,?_⟩
  by_cases h0:len=0
  .left;rw[h0];rfl
  .right
   have SH:=(hM 0 U).1.1;obtain ⟨g,f,spot⟩:=a;obtain rfl:=uz SH H;refine ⟨g,f,rfl,World.block_lt_of_cell? w _ SH,λi dE=>?_⟩;have Uj:i<len:=by simpa using dE
   have hg:((List.range len).map M)[i]=M i:=H;rw[hg];obtain ⟨⟨q0,q1⟩,q3⟩:=hM i Uj;rw[Addr.add_lit]at q0 q1;exact ⟨⟨q0,by rw[Nat.add_assoc];exact q1⟩,q3⟩
instance alC:Inhabited Nd:=⟨.mk 0 [] [] 0 0⟩
theorem Zt:∀(m:Nat) {fuel:Nat} {cs:List Value} {x:DataW awM×List MemPlace},SizeOf.sizeOf x.1<=m->DataW.trod enc Tryz.prog w base spare held fuel 26 cs=some x->∃nd,bY w nd cs/\cs.length=5:=by
 intro m
 induction m with
 |zero=>
  intro fuel cs x hx
  cases h:x.1 <;> rw[h]at hx <;> simp at hx
 |succ m ih=>
  intro fuel cs x hx h;obtain ⟨ys,n',-,rfl,hlen,OE,hf⟩:=DataW.trod_struct Tryz.underlying26 h;have c5:Tryz.prog.cellsOf 26=5:=R;have c1:Tryz.prog.cellsOf 3=1:=R;have c2:Tryz.prog.cellsOf 23=1:=R;have c3:Tryz.prog.cellsOf 24=1:=R;rw[c5]at hlen;have f0:DataW.trod enc Tryz.prog w base spare held n' 3 ((cs.drop 0).take (Tryz.prog.cellsOf 3))=ys[0]?:=hf 0 _ rfl;have f1:DataW.trod enc Tryz.prog w base spare held n' 23 ((cs.drop 1).take (Tryz.prog.cellsOf 23))=ys[1]?:=hf 1 _ rfl;have f2:DataW.trod enc Tryz.prog w base spare held n' 24 ((cs.drop 2).take (Tryz.prog.cellsOf 24))=ys[2]?:=hf 2 _ rfl;have f3:DataW.trod enc Tryz.prog w base spare held n' 3 ((cs.drop 3).take (Tryz.prog.cellsOf 3))=ys[3]?:=hf 3 _ rfl;have f4:DataW.trod enc Tryz.prog w base spare held n' 3 ((cs.drop 4).take (Tryz.prog.cellsOf 3))=ys[4]?:=hf 4 _ rfl;rw[c1]at f0 f3 f4;rw[c2]at f1;rw[c3]at f2
  match ys,OE with
  | [y0,y1,y2,y3,y4],_=>
   obtain ⟨k0,e0,-,-⟩:=DataW.trod_int Tryz.underlying3 (f0.t rfl);obtain ⟨k3,e3,-,-⟩:=DataW.trod_int Tryz.underlying3 (f3.t rfl);obtain ⟨k4,e4,-,-⟩:=DataW.trod_int Tryz.underlying3 (f4.t rfl);obtain ⟨v1,rs,e1,hr⟩:=PB (f1.t rfl);have hk:∃v2 kids,(cs.drop 2).take 1=[v2]/\∃A c,v2=.slice A kids.length c/\(kids.length<=c/\c<=9223372036854775807)/\(kids=[]\/∃g f,A=some ⟨g,f,none⟩/\g<w.heap.size/\eS w kids g f):=by
    rcases open_slice Tryz.underlying24 (f2.t rfl) with ⟨e2,-⟩|⟨a,len,cap,m2,n2,awP,Pl,e2,hb,hl,hm,Dw,rS,hi⟩
    .exact ⟨_,[],e2,none,0,rfl,⟨V,O⟩,.inl rfl⟩
    .have Ui:len<=m2:=by rw[Dw]; split <;> omega
     have jn:∀i,i<len->SizeOf.sizeOf (awP i)<=m:=λi dE=>by
      have q1:SizeOf.sizeOf (awP i)<SizeOf.sizeOf ((List.range len).map awP):=List.sizeOf_lt_of_mem (List.mem_map.2 ⟨i,by simpa using dE,rfl⟩)
      have q2:SizeOf.sizeOf y2.1=1+SizeOf.sizeOf ((List.range len).map awP)+SizeOf.sizeOf ((List.range (m2-len)).map λj=>awP (len+j)):=by rw[rS];simp
      simp at hx;omega
     obtain ⟨M,hM⟩:=choose_lt (α:=Nd) (n:=len) (p:=λi k=>∃vs:List Value,(∀j,j<5->w.cell? (a.add (i*5+j))=vs[j]?)/\bY w k vs/\vs.length=5) (λi xP=>by
      obtain ⟨Hl,q1,q2⟩:=hi i U;rw[c5]at q1;obtain ⟨-,PC,ak⟩:=World.cells?_some q1;obtain ⟨nd,h1,h2⟩:=ih (jn i xP) q2;refine ⟨nd,Hl,λj hj=>?_,h1,h2⟩;have:=ak j U;rwa [add_add]at this)
     refine ⟨_,(List.range len).map M,e2,some a,cap,H,⟨by simpa using hl,by unfold maxLen at hm;omega⟩,?_⟩
     by_cases h0:len=0
     .left;rw[h0];rfl
     .right
      obtain ⟨vs0,SH,-,h05⟩:=hM 0 U;have SH:=SH 0 U;rw[List.getElem?_eq_getElem U]at SH;obtain ⟨g,f,spot⟩:=a;obtain rfl:=uz SH H;refine ⟨g,f,rfl,World.block_lt_of_cell? w _ SH,eS.mk λi dE=>?_⟩;have Uj:i<len:=by simpa using dE
      have hg:((List.range len).map M)[i]=M i:=H;rw[hg];obtain ⟨vs,q0,q1,-⟩:=hM i Uj;refine ⟨vs,λj hj=>?_,q1⟩;have:=q0 j hj;rwa [Addr.add_lit,<-Nat.add_assoc]at this
   obtain ⟨v2,kids,e2,hk⟩:=hk;refine ⟨.mk k0 rs kids k3 k4,⟨v1,v2,?_,hr,hk⟩,hlen⟩;have q0:=hZ e0;have q1:=hZ e1;have q2:=hZ e2;have q3:=hZ e3;have q4:=hZ e4;refine List.ext_getElem? λi=>?_
   match i with
   |0=>exact q0
   |1=>exact q1
   |2=>exact q2
   |3=>exact q3
   |4=>exact q4
   |i+5=>rw[List.getElem?_eq_none U,List.getElem?_eq_none H]
end
theorem Hm{w:World}{v:Value}(h:PD Tryz.prog w 26 v):∃nd vs,v=.agg vs.toArray/\bY w nd vs:=by
 obtain ⟨awM,enc,base,spare,held,fuel,x,r,b0,h1,h2,h3⟩:=h;obtain ⟨cs,rfl,jn⟩:=Go.WideShapes.okWide_struct Tryz.underlying26 h3;obtain ⟨nd,h4,-⟩:=Zt _ V h1;exact ⟨nd,cs.toList,H,h4⟩
end
end Go.Proofs.YthamegenljmgmaaGreatDoor
