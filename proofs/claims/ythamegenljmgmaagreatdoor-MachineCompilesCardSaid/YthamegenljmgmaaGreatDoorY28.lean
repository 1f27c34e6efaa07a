/- Walks. -/
import Derived.Test.YthamegenljmgmaaGreatDoorY26
import Derived.Test.YthamegenljmgmaaGreatDoorY27
import Derived.Test.YthamegenljmgmaaGreatDoorY13
import Derived.Test.YthamegenljmgmaaGreatDoorY12
import Derived.Test.YthamegenljmgmaaGreatDoorY15
import Derived.Test.YthamegenljmgmaaGreatDoorY19
import Derived.Test.YthamegenljmgmaaGreatDoorY04
import Derived.Test.YthamegenljmgmaaGreatDoorY11
import Derived.Test.YthamegenljmgmaaGreatDoorY10
import Derived.Test.YthamegenljmgmaaGreatDoorY09
set_option maxRecDepth 100000
set_option maxHeartbeats 16000000
set_option linter.unusedVariables false
set_option linter.unusedSimpArgs false
namespace Go.Proofs.YthamegenljmgmaaGreatDoor
open Go.RowKit
def km:List Nat->List UInt8
 | []=>[]
 |n::r=>UInt8.ofNat (n / 256)::UInt8.ofNat (n % 256)::km r
theorem Jt(l:List Nat)(n:Nat):km (l++[n])=km l++[UInt8.ofNat (n / 256),UInt8.ofNat (n % 256)]:=by
 induction l with
 |nil=>rfl
 |cons a r ih=>simp only[List.cons_append,km,ih]
theorem CL(l:List Nat):(km l).length=2*l.length:=by
 induction l with
 |nil=>rfl
 |cons a r ih=>simp only[km,List.length_cons,ih];omega
theorem B7:∀{l k:List Nat},(∀n∈l,n<65536)->(∀n∈k,n<65536)->km l=km k->l=k
 | [],[],_,_,_=>rfl
 | [],b::k,_,_,h=>by simp[km]at h
 |a::l,[],_,_,h=>by simp[km]at h
 |a::l,b::k,hl,hk,h=>by
  simp only[km,List.cons.injEq]at h;obtain ⟨h1,h2,h3⟩:=h;have ha:=hl a H;have hb:=hk b H;have e1:(UInt8.ofNat (a / 256)).toNat=(UInt8.ofNat (b / 256)).toNat:=by rw[h1]
  have e2:(UInt8.ofNat (a % 256)).toNat=(UInt8.ofNat (b % 256)).toNat:=by rw[h2]
  simp at e1 e2;rw[B7 (λn hn=>hl n (by simp[hn])) (λn hn=>hk n (by simp[hn])) h3]
  congr 1
  omega
def Fi(w wr:World)(c:Nat)(w':World):Prop:=Below w w w'/\(c=0->Below wr wr w')
theorem Fi.later{w wr w' gX:World}{c:Nat}(h:Fi w wr c w')(hb:Below w' w' gX):Fi w wr c gX:=
 ⟨h.1.t (hb.mono h.1.size),λhc=>(h.2 hc).t (hb.mono (h.2 hc).size)⟩
def we(B0 g f m cl k q qh ql:Nat)(Ao:Option Addr)(no co:Nat)(lb:List UInt8)(wr:World):Nat->Nat->Value->World->Prop
 |c,0,x,w=>x=.slice Ao no co
 |c,1,x,w=>x=.slice (Z g f) m cl
 |c,2,x,w=>x=.int .i64 (k:Int)
 |c,3,x,w=>x=.pointer (Z g (f+k))
 |c,4,x,w=>x=.int .i64 (q:Int)
 |c,5,x,w=>x=.int .i64 ((q:Int) / 256)
 |c,6,x,w=>x=.int .u8 ((q:Int) / 256)
 |c,7,x,w=>x=.slice (Z g f) m cl
 |c,8,x,w=>x=.int .i64 (k:Int)
 |c,9,x,w=>x=.pointer (Z g (f+k))
 |c,10,x,w=>x=.int .i64 (q:Int)
 |c,11,x,w=>x=.int .u8 ((q:Int) % 256)
 |c,12,x,w=>c=0->∃gn,x=.slice (Z gn 0) 2 2/\wr.heap.size<=gn/\gn<w.heap.size/\w.cell? (Z gn 0)=some (.int .u8 ((q:Int) / 256))/\w.cell? (Z gn 1)=some (.int .u8 ((q:Int) % 256))
 |c,13,x,w=>c=1->OB 5 B0 x (lb++[UInt8.ofNat qh,UInt8.ofNat ql]) w
 |_,_,_,_=>True
section
variable {B0 g f m cl k q qh ql:Nat} {Ao:Option Addr} {no co:Nat} {lb:List UInt8} {wr u u':World}
theorem Ju(hb:Below u u u'){c j:Nat}{x:Value}(h:we B0 g f m cl k q qh ql Ao no co lb wr c j x u):we B0 g f m cl k q qh ql Ao no co lb wr c j x u':=by
 match j with
 |0|1|2|3|4|5|6|7|8|9|10|11=>exact h
 |12=>
  intro hc;obtain ⟨gn,e,h1,h2,h3,h4⟩:=h hc;exact ⟨gn,e,h1,Nat.lt_of_lt_of_le h2 hb.size,(hb.cl gn 0 h2).t h3,(hb.cl gn 1 h2).t h4⟩
 |13=>exact λhc=>aR (h hc) hb
 |_+14=>exact trivial
theorem Jv{j:Nat}{x:Value}(hj:j≠13)(h:we B0 g f m cl k q qh ql Ao no co lb wr 0 j x u):we B0 g f m cl k q qh ql Ao no co lb wr 1 j x u':=by
 match j with
 |0|1|2|3|4|5|6|7|8|9|10|11=>exact h
 |12=>exact λh=>by cases h
 |13=>exact absurd rfl hj
 |_+14=>exact trivial
end
theorem CJ(v:Value)(l:List Nat)(w:World)(hv:JL w v l)(hl:∀n∈l,n<65536)(SV:l.length<=10000000):
  Calls Tryz.prog 54 #[v] w λe w'=>e=.returned (.string (bs (km l)))/\Below w w w':=by
 obtain ⟨Al,cl,rfl,dj,dt⟩:=id hv;obtain ⟨m,hM⟩:∃n,l.length=n:=⟨_,rfl⟩;have HM:=Y hM;rw[hM]at dj SV|-;have HL:=Y dt;have HLP:=Y hl;obtain ⟨i0,hi,dY,dh,cT⟩:=info_parts tZ;have HO0:Hid (OB 5 w () (km (l.take 0)) w):=by rw[List.take_zero];exact OB.iG _ _ _
 clear hv hM dt hl
 go_enter Tryz.func54,Tryz.ntmps54
 go_wp2_with fail;go_loopw [4,3] (λiv ov wr=>∃(k:Nat) (vo:Value),k<=m/\iv=.int .i64 (k:Int)/\ov=vo/\Hid (OB 5 w vo (km (l.take k)) wr)/\Hid (Below w w wr)) (λiv _ _=>m - (intOf iv).toNat)
 case atStart=>exact ⟨0,_,Nat.zero_le _,rfl,rfl,HO0,D⟩
 case round=>
  obtain ⟨k,vo,hk,rfl,rfl,HO,HB⟩:=hrel;by_cases aB:k<m
  .have hd:decide ((k:Int)<(m:Int))=true:=τ;have dV:decide (k<m)=true:=decide_eq_true aB;have aV:k<l.length:=by rw[HM.o];exact aB
   obtain ⟨q,hq⟩:=ν (l[k]);have rU:q<65536:=by rw[<-hq];exact HLP _ (List.getElem_mem aV)
   obtain ⟨g,f,rfl,hg,ak⟩:=HL.resolve_left (λh=>by rw[h.1]at aV;simp at aV)
   have c0:=ak k aV;rw[hq]at c0;obtain ⟨Ao,no,co,rfl⟩:=HO.KO;obtain ⟨qh,hqh⟩:∃x,q / 256=x:=⟨_,rfl⟩;obtain ⟨ql,hql⟩:∃x,q % 256=x:=⟨_,rfl⟩;have tG:km (l.take (k+1))=km (l.take k)++[UInt8.ofNat qh,UInt8.ofNat ql]:=by rw[List.take_succ_eq_append_getElem aV,hq,Jt,hqh,hql]
   have HT:=Y tG;have HQ:=Y (show qh<256/\ql<256 by omega)
   have Zs:=Y (I hqh hql);obtain ⟨lb,KU⟩:=ν (km (l.take k));have hlen:lb.length<=20000000:=by rw[<-KU,CL,List.length_take];omega
   rw[KU]at HO HT;have OV:=Y hlen;have Mw:(k:Int)<(m:Int):=U;have dN:Fi w wr 0 wr.drew:=⟨mi HB.o 1,λ_=>D.drew⟩;clear hq ak tG hqh hql KU hlen
   go_upto_region 5 with fail
   refine ay 14 [13] (we w g f m cl k q qh ql Ao no co lb wr) (λc w'=>Fi w wr c w') R R R R R R O dN ?_ ?_
   .simp only[ck,ct];refine aa.pure O ?_ (aa.pure O ?_ (aa.pure O ?_ (aa.pure O ?_ (aa.pure O ?_ (aa.pure O ?_ (aa.pure O ?_ (aa.pure O ?_ (aa.pure O ?_ (aa.pure O ?_ (aa.pure O ?_ (aa.pure O ?_ (aa.gp O ?_ (aa.jg 0 rfl ?_ (aa.nil))))))))))))))
    all_goals first | (intro v wz c bX hS hE K hK;simp only[ah,Act.put,dk,dm,dn,Nat.zero_add,Nat.reduceAdd,ck,ct]at hK|-) | (intro v wz hS hE K hK;simp only[ah,Act.put,dk,dm,dn,Nat.zero_add,Nat.reduceAdd,ck,ct]at hK|-)
    .exact ζ
    .exact ζ
    .exact ζ
    .have e1:v 1=_:=hE.1 rfl;have e2:v 2=_:=hE.2.1 rfl;rw[e1,e2]at hK|-;exact ζ
    .have e3:v 3=_:=hE.1 rfl;rw[e3]at hK|-;have cq:=(χ g (f+k) (hS.1.block g hg)).t c0;have hgz:g<wz:=by have:=hS.1.size;omega
     exact ζ
    .have e4:v 4=_:=hE.1 rfl;rw[e4]at hK|-;exact ζ
    .have e5:v 5=_:=hE.1 rfl;rw[e5]at hK|-;exact ζ
    .exact ζ
    .exact ζ
    .have e7:v 7=_:=hE.1 rfl;have e8:v 8=_:=hE.2.1 rfl;rw[e7,e8]at hK|-;exact ζ
    .have e9:v 9=_:=hE.1 rfl;rw[e9]at hK|-;have cq:=(χ g (f+k) (hS.1.block g hg)).t c0;have hgz:g<wz:=by have:=hS.1.size;omega
     exact ζ
    .have eR:v 10=_:=hE.1 rfl;rw[eR]at hK|-;exact ζ
    .have e6:v 6=_:=hE.1 rfl;have fZ:v 11=_:=hE.2.1 rfl;rw[e6,fZ]at hK|-;have hb0:=hS.2 (by have:=bX 0 R;omega)
     have bw:Below wz wz (wz.alloc (.cells #[.int .u8 ((q:Int) / 256),.int .u8 ((q:Int) % 256)] 5)):=D.alloc V _;have aC:=heap_alloc_new wz (.cells #[.int .u8 ((q:Int) / 256),.int .u8 ((q:Int) % 256)] 5);have HX:=Y hS;have dA:=Y hb0;have iZ:=Y bw;have YE:=Y aC;clear hS hE bX bw aC hb0;go_wp2_with fail;exact hK.out _ _ (λj y _ h=>Ju iZ.o h) (HX.later iZ.o) (λ_=>⟨wz.heap.size,rfl,dA.size,H,by rw[Φ YE.o];rfl,by rw[Φ YE.o];rfl⟩)
    .have e0:v 0=_:=hE.1 rfl;rw[e0]at hK|-;have DM:=hE.2.1 rfl;obtain ⟨gn,fG,Ia,jm,T0,ml⟩:=DM rfl;rw[fG]at hK|-;have bw:=hS.2 rfl;have ao:OB 5 w (.slice Ao no co) lb wz:=aR HO.o bw;have Da:w.heap.size<=wz:=hS.1.size;have nZ:∀j (h:j<([UInt8.ofNat qh,UInt8.ofNat ql]:List UInt8).length),wz.cell? (Z gn j)=some (.int .u8 ([UInt8.ofNat qh,UInt8.ofNat ql]:List UInt8)[j].toNat):=λj hj=>by
      match j,hj with
      |0,_=>rw[T0];have:=HQ.1;have:=Zs.1;simp;omega
      |1,_=>rw[ml];have:=HQ.2;have:=Zs.2;simp;omega
     have HX:=Y hS;clear hS hE T0 ml DM fG;go_wp2_with (at_builtin;refine PA Tryz.underlying78 hi dY dh cT _ _ _ lb [UInt8.ofNat qh,UInt8.ofNat ql] gn 2 w rfl rfl rfl rfl ao nZ (by have:=OV.o;simp;omega) Da ?_)
     intro v' w1 ai aM;refine hK.out _ _ (λj z hj h=>Jv hj h) ⟨HX.1.t aM,λh=>(by cases h)⟩ (λ_=>ai)
   .intro v wz hS hF;have e0:v 0=_:=hF 0 O;have e1:v 1=_:=hF 1 O;have e2:v 2=_:=hF 2 O;have e3:v 3=_:=hF 3 O;have e4:v 4=_:=hF 4 O;have e5:v 5=_:=hF 5 O;have e6:v 6=_:=hF 6 O;have e7:v 7=_:=hF 7 O;have e8:v 8=_:=hF 8 O;have e9:v 9=_:=hF 9 O;have eR:v 10=_:=hF 10 O;have fZ:v 11=_:=hF 11 O;have DM:=hF 12 O;have ye:=hF 13 O;simp only[ah,Act.put,dk,dm,dn,Nat.zero_add,Nat.reduceAdd,ck,ct,List.drop_succ_cons,List.drop_zero,e0,e1,e2,e3,e4,e5,e6,e7,e8,e9,eR,fZ];clear hF e0 e1 e2 e3 e4 e5 e6 e7 e8 e9 eR fZ;have ao:=ye rfl;obtain ⟨An,nn,cn,iH⟩:=OB.KO ao;have hb:=hS.1;rw[iH]at ao|-;have HN:=Y (I ao hb);clear hS DM ye ao hb iH dN;go_wp2_with fail;go_roundw
    case rel=>exact ⟨k+1,_,U,by go_num,rfl,by rw[HT.o];exact HN.1,HN.2⟩
    case measure=>exact μ
  .obtain rfl:k=m:=U;have hd:decide ((k:Int)<(k:Int))=false:=θ;have dV:decide (k<k)=false:=θ;rw[List.take_of_length_le (by rw[HM.o];exact V)]at HO
   obtain ⟨Ao,no,co,rfl⟩:=HO.KO;have dx:=HO.conv (T:=78) (d:=9) Tryz.underlying78 Tryz.underlying5 Tryz.underlying9;go_wp2_with fail;go_ret;exact ⟨rfl,HB.o⟩
theorem ac6:Tryz.zeroCells119=Array.replicate 257 (.bool false):=R
def ur(w:World)(g:Nat)(L:List Nat):Prop:=∃cs,w.heap[g]?=some (.cells cs 119 (0,0))/\cs.size=257/\∀i,i<257->cs[i]?=some (.bool (decide (i∈L)))
theorem ur.keep{w w':World}{g:Nat}{L:List Nat}(h:ur w g L)(hk:w'.heap[g]?=w.heap[g]?):ur w' g L:=by
 obtain ⟨cs,h1,h2⟩:=h;exact ⟨cs,hk.t h1,h2⟩
theorem ur.lt{w:World}{g:Nat}{L:List Nat}(h:ur w g L):g<w:=by
 obtain ⟨cs,h1,h2⟩:=h;exact (γ h1).1
theorem ur.later{w w':World}{g:Nat}{L:List Nat}(h:ur w g L)(hb:Below w w w'):ur w' g L:=h.keep (hb.block g h.lt)
theorem ur.cell{w:World}{g:Nat}{L:List Nat}(h:ur w g L)(i:Nat)(hi:i<257):w.cell? (Z g i)=some (.bool (decide (i∈L)))/\w.frozen? (Z g i)=false/\g<w:=by
 have hl:=h.lt;obtain ⟨cs,h1,h2,h3⟩:=h;exact ⟨by rw[Φ h1];exact h3 i hi,frozen_of_row _ _ _ _ _ h1,hl⟩
theorem ur.mark{w:World}{g:Nat}{L:List Nat}(h:ur w g L)(i:Nat):ur (w.setCell (Z g i) (.bool true)) g (L++[i]):=by
 obtain ⟨cs,h1,h2,h3⟩:=h;have h4:=aE h1 i (.bool true);refine ⟨_,h4,by simp[h2],λj hj=>?_⟩
 rw[Array.getElem?_setIfInBounds];by_cases e:i=j
 .subst e;simp[h2,hj]
 .rw[if_neg e,h3 j hj];have:¬j=i:=λh=>e h.symm;simp[this]
theorem ur.congr{w:World}{g:Nat}{L L':List Nat}(h:ur w g L)(he:∀c,c∈L↔c∈L'):ur w g L':=by
 obtain ⟨cs,h1,h2,h3⟩:=h;exact ⟨cs,h1,h2,λi hi=>by rw[h3 i hi];simp[he i]⟩
theorem ur.new(w:World):ur (w.alloc (.cells (Tryz.zeroCells119.setIfInBounds 0 (.bool true)) 119)) w [0]:=by
 rw[ac6];refine ⟨_,heap_alloc_new w _,H,λi hi=>?_⟩;rw[Array.getElem?_setIfInBounds];by_cases e:0=i
 .subst e;simp
 .rw[if_neg e];have:¬i=0:=λh=>e h.symm;simp[this,hi]
def ac7(G:Nat)(wr:World)(c:Nat)(w':World):Prop:=ab [G] [] wr w'/\(c=0->Below wr wr w')
def EZ(G gs n cS gr fr nr cr i k lo hi:Nat)(L:List Nat):Nat->Nat->Value->World->Prop
 |c,0,x,w=>x=.slice (Z gs 0) n cS
 |c,1,x,w=>x=.int .i64 (i:Int)
 |c,2,x,w=>x=.pointer (Z gs i)
 |c,3,x,w=>x=.slice (Z gr fr) nr cr
 |c,4,x,w=>x=.int .i64 (k:Int)
 |c,5,x,w=>x=.pointer (Z gr (fr+k*2))
 |c,6,x,w=>x=.pointer (Z gr (fr+k*2))
 |c,7,x,w=>x=.int .u8 (lo:Int)
 |c,8,x,w=>x=.slice (Z gs 0) n cS
 |c,9,x,w=>x=.int .i64 (i:Int)
 |c,10,x,w=>x=.pointer (Z gs i)
 |c,11,x,w=>x=.slice (Z gr fr) nr cr
 |c,12,x,w=>x=.int .i64 (k:Int)
 |c,13,x,w=>x=.pointer (Z gr (fr+k*2))
 |c,14,x,w=>x=.pointer (Z gr (fr+k*2+1))
 |c,15,x,w=>x=.int .u8 (hi:Int)
 |c,16,x,w=>x=.int .i64 (hi:Int)
 |c,17,x,w=>x=.int .i64 ((hi:Int)+1)
 |c,18,x,w=>x=.pointer (Z G lo)
 |c,19,x,w=>c=1->ur w G (L++[lo])
 |c,20,x,w=>x=.pointer (Z G (hi+1))
 |_,_,_,_=>True
theorem Jn{G gs n cS gr fr nr cr i k lo hi:Nat}{L:List Nat}{u u':World}{j:Nat}{x:Value}(hj:j≠19)(h:EZ G gs n cS gr fr nr cr i k lo hi L 0 j x u):EZ G gs n cS gr fr nr cr i k lo hi L 1 j x u':=by
 match j with
 |0|1|2|3|4|5|6|7|8|9|10|11|12|13|14|15|16|17|18|20=>exact h
 |19=>exact absurd rfl hj
 |_+21=>exact trivial
def oO(b:Pb)(i:Nat):List Nat:=0::kQ b.sets (List.range i)
theorem Jo(b:Pb)(i:Nat):oO b (i+1)=oO b i++fV ((b.sets[i]?).getD []):=by
 unfold oO;rw[List.range_succ,si];rfl
def dO(b:Pb):List Nat:=((List.range 256).filter λc=>decide (c∈oO b b.sets.length))++[256]
theorem lV(b:Pb)(hb:∀rs∈b.sets,∀r∈rs,r.1<256/\r.2<256){fo:List Nat}(DY:∀p∈fo,p<b.sets.length):qU b fo (dO b):=by
 refine ⟨?_,λp hp r hr=>?_,λv hv=>?_⟩
 .unfold dO;rw[List.pairwise_append];refine ⟨List.Pairwise.filter _ List.pairwise_lt_range,H,λa ha c hc=>?_⟩;rw[List.mem_singleton]at hc;subst hc;exact List.mem_range.1 (List.mem_filter.1 ha).1
 .have h1:=vm (sets:=b.sets) (List.mem_range.2 (DY p hp)) hr;have iX:r.1<256/\r.2<256:=by
   rw[List.getElem?_eq_getElem (DY p hp)]at hr;exact hb _ (List.getElem_mem _) r hr
  have key:∀v,v∈kQ b.sets (List.range b.sets.length)->v<=256->v∈dO b:=λv hv hle=>by
   unfold dO;rw[List.mem_append];by_cases e:v=256
   .exact .inr (by simp[e])
   .exact .inl (List.mem_filter.2 ⟨List.mem_range.2 U,by simp[oO,hv]⟩)
  exact ⟨key _ h1.1 U,key _ h1.2 U⟩
 .unfold dO at hv;rcases List.mem_append.1 hv with h|h
  .have:=List.mem_range.1 (List.mem_filter.1 h).1;omega
  .rw[List.mem_singleton]at h;omega
theorem yD(b:Pb):(dO b)[0]?=some 0:=by
 unfold dO;rw[show List.range 256=0::(List.range 255).map (·+1) from by rw[<-List.range_succ_eq_map],List.filter_cons_of_pos (by simp[oO])]
 rfl
def Pk(L:List Nat)(k:Nat):List Nat:=(List.range k).filter λc=>decide (c∈L)
theorem NF(L:List Nat)(k:Nat):Pk L (k+1)=if k∈L then Pk L k++[k] else Pk L k:=by
 unfold Pk;rw[List.range_succ,List.filter_append];by_cases h:k∈L <;> simp[h]
theorem RI(L:List Nat)(k:Nat):(Pk L k).length<=k:=by
 unfold Pk;have:=List.length_filter_le (λc=>decide (c∈L)) (List.range k);simpa using this
theorem Jp(w0:World)(s:Nat)(b:Pb)(vs vf:Value)(rows sv:List Value)(w:World)(hb:wU w0 s b vs vf rows sv w)(hn:b.sets.length<=600):
  Calls Tryz.prog 52 #[vs] w λe w'=>∃u,e=.returned u/\OR 3 1 dM w u (dO b) w'/\Below w w w':=by
 obtain ⟨As,cS,rfl,E0,Eb⟩:=ae hb.sets;have aH:=hb.sets;have OL:=hb.tB;have eI:=hb.cW;obtain ⟨n,hN⟩:=ν b.sets.length;have HN:=Y hN;rw[hN]at hn E0 aH|-;have HS:=Y (I aH (I OL eI));have US:=Y (ur.new w);have aM:Below w w (w.alloc (.cells (Tryz.zeroCells119.setIfInBounds 0 (.bool true)) 119)):=D.alloc V _;have cM:=Y aM;clear hb aH OL eI hN aM
 go_enter Tryz.func52,Tryz.ntmps52
 go_wp2_with fail;go_loopw [4] (λiv wr=>∃(i:Nat),i<=n/\iv=.int .i64 (i:Int)/\Hid (ur wr w (oO b i)/\Below w w wr)) (λiv _=>n - (intOf iv).toNat)
 case atStart=>exact ⟨0,Nat.zero_le _,rfl,US.o,cM.o⟩
 case round=>
  obtain ⟨i,hi,rfl,HA⟩:=hrel;by_cases aB:i<n
  .have hd:decide ((i:Int)<(n:Int))=true:=τ;have dV:decide (i<n)=true:=decide_eq_true aB;have pe:i<b.sets.length:=by rw[HN.o];exact aB
   obtain ⟨rv,O5,rJ,-⟩:=HS.2.1 i pe;obtain ⟨gs,rfl,asN,Bb⟩:∃gs,As=some ⟨gs,0,none⟩/\w0.heap.size<=gs/\gs<w.heap.size:=by
    rcases HS.1.2 with ⟨-,h3⟩|⟨g,cap,cur,h2,h3,h4,-⟩
    .omega
    .injection h2 with h2 _ _;exact ⟨g,h2,h3,(γ h4).1⟩
   have d0:=HS.1.cellAt i (by rw[Nat.mul_one];exact aB)
   rw[O5]at d0;have nW:=rJ.Ad HS.2.2;obtain ⟨Ar,cr,rfl,Tm,dt⟩:=id nW;obtain ⟨rr,Fa⟩:=ν (b.sets[i]);obtain ⟨nr,uu⟩:=ν rr.length;rw[Fa]at d0 Tm dt;rw[uu]at d0 Tm;have HR:=Y (I Fa uu);have HD:=Y d0;have HOR:=Y dt;have hAM:Hid (oO b (i+1)=oO b i++fV rr):=by rw[Jo,List.getElem?_eq_getElem pe,Fa];rfl
   have HA1:Hid (ur wr w (oO b i++fV (rr.take 0))/\Below w w wr):=⟨HA.1.congr (λc=>by simp[fV]),HA.2⟩
   clear O5 rJ nW Fa uu d0 dt;go_wp2_with fail;go_loopw [5] (λkv wr=>∃(k:Nat),k<=nr/\kv=.int .i64 (k:Int)/\Hid (ur wr w (oO b i++fV (rr.take k))/\Below w w wr)) (λkv _=>nr - (intOf kv).toNat)
   case atStart=>exact ⟨0,Nat.zero_le _,rfl,HA1⟩
   case round=>
    obtain ⟨k,hk,rfl,RJ⟩:=hrel;have jn:=RJ.2.size;have c0:=(RJ.2.cl gs i Bb).t HD.o;have VY:gs<wr:=U;have Mw:(i:Int)<(n:Int):=U;have Us:n<=9223372036854775807:=U;by_cases Kb:k<nr
    .have nw:decide ((k:Int)<(nr:Int))=true:=τ;have QR:decide (k<nr)=true:=decide_eq_true Kb;have Xm:k<rr.length:=by rw[HR.2];exact Kb
     obtain ⟨gr,fr,rfl,kZ,ak⟩:=HOR.resolve_left (λh=>by rw[h]at Xm;simp at Xm)
     obtain ⟨⟨q1,q2⟩,q3,q4⟩:=ak k Xm;obtain ⟨lo,bX⟩:=ν (rr[k].1);obtain ⟨fQ,sj⟩:∃hi,rr[k].2=hi:=⟨_,rfl⟩;rw[bX]at q1 q3;rw[sj]at q2 q4;have c1:=(RJ.2.cl gr (fr+k*2) kZ).t q1;have c2:=(RJ.2.cl gr (fr+k*2+1) kZ).t q2;have lgr:gr<wr:=U;have tG:oO b i++fV (rr.take (k+1))=oO b i++fV (rr.take k)++[lo]++[fQ+1]:=by
      rw[List.take_succ_eq_append_getElem Xm,sf,bX,sj];simp
     have HT:=Y tG;obtain ⟨L,hL⟩:=ν (oO b i++fV (rr.take k));rw[hL]at HT;have HAT:Hid (ur wr w L):=by rw[<-hL];exact RJ.1
     have hG:=HAT.lt;have ES:(k:Int)<(nr:Int):=U;have aoa:nr<=9223372036854775807:=U;have dN:ac7 w wr 0 wr.drew:=⟨(ab.aj D.drew).gV,λ_=>D.drew⟩;have hwa:IntKind.i64.wrap ((fQ:Int)+1)=(fQ:Int)+1:=IntWalk.i64_in _ U;have YT:=Y RJ.2;have ajF:(lo:Int)<257:=U;have ajG:(fQ:Int)+1<257:=U;clear ak q1 q2 bX sj tG hL
     go_upto_region 9 with fail
     refine ay 21 [19] (EZ w gs n cS gr fr nr cr i k lo fQ L) (λc w'=>ac7 w wr c w') R R R R R R O dN ?_ ?_
     .simp only[ck,ct];refine aa.pure O ?_ (aa.pure O ?_ (aa.pure O ?_ (aa.pure O ?_ (aa.pure O ?_ (aa.pure O ?_ (aa.pure O ?_ (aa.pure O ?_ (aa.pure O ?_ (aa.pure O ?_ (aa.pure O ?_ (aa.pure O ?_ (aa.pure O ?_ (aa.pure O ?_ (aa.pure O ?_ (aa.pure O ?_ (aa.pure O ?_ (aa.pure O ?_ (aa.pure O ?_ (aa.jg 0 rfl ?_ (aa.pure O ?_ (aa.nil)))))))))))))))))))))
      all_goals first | (intro v wz c bX hS hE K hK;simp only[ah,Act.put,dk,dm,dn,Nat.zero_add,Nat.reduceAdd,ck,ct]at hK|-) | (intro v wz hS hE K hK;simp only[ah,Act.put,dk,dm,dn,Nat.zero_add,Nat.reduceAdd,ck,ct]at hK|-)
      .exact ζ
      .exact ζ
      .have e0:v 0=_:=hE.1 rfl;have e1:v 1=_:=hE.2.1 rfl;rw[e0,e1]at hK|-;exact ζ
      .have e2:v 2=_:=hE.1 rfl;rw[e2]at hK|-;have cq:=(χ gs i (hS.1.aq gs VY ψ)).t c0;have bw:gs<wz:=by have:=hS.1.size;omega
       exact ζ
      .exact ζ
      .have e3:v 3=_:=hE.1 rfl;have e4:v 4=_:=hE.2.1 rfl;rw[e3,e4]at hK|-;exact ζ
      .have e5:v 5=_:=hE.1 rfl;rw[e5]at hK|-;exact ζ
      .have e6:v 6=_:=hE.1 rfl;rw[e6]at hK|-;have cq:=(χ gr (fr+k*2) (hS.1.aq gr lgr ψ)).t c1;have bw:gr<wz:=by have:=hS.1.size;omega
       exact ζ
      .exact ζ
      .exact ζ
      .have e8:v 8=_:=hE.1 rfl;have e9:v 9=_:=hE.2.1 rfl;rw[e8,e9]at hK|-;exact ζ
      .have eR:v 10=_:=hE.1 rfl;rw[eR]at hK|-;have cq:=(χ gs i (hS.1.aq gs VY ψ)).t c0;have bw:gs<wz:=by have:=hS.1.size;omega
       exact ζ
      .exact ζ
      .have fZ:v 11=_:=hE.1 rfl;have fG:v 12=_:=hE.2.1 rfl;rw[fZ,fG]at hK|-;exact ζ
      .have iH:v 13=_:=hE.1 rfl;rw[iH]at hK|-;exact ζ
      .have jw:v 14=_:=hE.1 rfl;rw[jw]at hK|-;have cq:=(χ gr (fr+k*2+1) (hS.1.aq gr lgr ψ)).t c2;have bw:gr<wz:=by have:=hS.1.size;omega
       exact ζ
      .have pF:v 15=_:=hE.1 rfl;rw[pF]at hK|-;exact ζ
      .have oV:v 16=_:=hE.1 rfl;rw[oV]at hK|-;exact ζ
      .have e7:v 7=_:=hE.1 rfl;rw[e7]at hK|-;exact ζ
      .have B3:v 18=_:=hE.1 rfl;rw[B3]at hK|-;have bw:=hS.2 rfl;have Es:=HAT.later bw;obtain ⟨cz,fz,lz⟩:=Es.cell lo U;have fw:=Es.mark lo;have HX:=Y hS;have j8:=Y fw;clear hS hE bw Es fw;go_wp2_with fail;refine hK.out undef _ (λj z hj h=>Jn hj h) ⟨HX.1.tr ⟨rfl,rfl,rfl,by simp[World.setCell],λq _ hn=>Below.heap_setCell _ _ _ _ (λe=>hn (by simp[show q=w.heap.size from e])),λq hq=>by cases hq⟩,λh=>(by cases h)⟩ (λ_=>j8.o)
      .have nR:v 17=_:=hE.1 rfl;rw[nR]at hK|-;exact ζ
     .intro v wz hS hF;have e0:v 0=_:=hF 0 O;have e1:v 1=_:=hF 1 O;have e2:v 2=_:=hF 2 O;have e3:v 3=_:=hF 3 O;have e4:v 4=_:=hF 4 O;have e5:v 5=_:=hF 5 O;have e6:v 6=_:=hF 6 O;have e7:v 7=_:=hF 7 O;have e8:v 8=_:=hF 8 O;have e9:v 9=_:=hF 9 O;have eR:v 10=_:=hF 10 O;have fZ:v 11=_:=hF 11 O;have fG:v 12=_:=hF 12 O;have iH:v 13=_:=hF 13 O;have jw:v 14=_:=hF 14 O;have pF:v 15=_:=hF 15 O;have oV:v 16=_:=hF 16 O;have nR:v 17=_:=hF 17 O;have B3:v 18=_:=hF 18 O;have AP:v 20=_:=hF 20 O;have E19:=hF 19 O;simp only[ah,Act.put,dk,dm,dn,Nat.zero_add,Nat.reduceAdd,ck,ct,List.drop_succ_cons,List.drop_zero,e0,e1,e2,e3,e4,e5,e6,e7,e8,e9,eR,fZ,fG,iH,jw,pF,oV,nR,B3,AP];clear hF e0 e1 e2 e3 e4 e5 e6 e7 e8 e9 eR fZ fG iH jw pF oV nR B3 AP;have Es:=E19 rfl;obtain ⟨cz,fz,lz⟩:=Es.cell (fQ+1) U;have ZT:=Y hS.1;have Gk:=Y (Es.mark (fQ+1));clear hS E19 Es dN;go_wp2_with fail;go_roundw
      case rel=>
       refine ⟨k+1,U,by go_num,by rw[HT.o];exact Gk.o,?_⟩
       exact (YT.t (ZT.below (λq hq=>by rw[List.mem_singleton]at hq;omega) U)).sc w (fQ+1) (by show w.heap.size<=w;omega) _
      case measure=>exact μ
    .obtain rfl:k=nr:=U;have nw:decide ((k:Int)<(k:Int))=false:=θ;have QR:decide (k<k)=false:=θ;go_wp2_with fail;go_roundw
     case rel=>
      have hx:=RJ.o;rw[List.take_of_length_le (by rw[HR.2];exact V),<-hAM.out]at hx
      exact ⟨i+1,U,by go_num,hx⟩
     case measure=>exact μ
  .obtain rfl:i=n:=U;have hd:decide ((i:Int)<(i:Int))=false:=θ;have dV:decide (i<i)=false:=θ;have HA3:=Y HA.1;have dc:=Y HA.2;have hG:=HA3.lt;obtain ⟨L,hL⟩:=ν (oO b i);have Im:Hid (L=oO b b.sets.length):=by rw[HN.o];exact hL.symm
   rw[hL]at HA3;obtain ⟨Wm,EU⟩:∃Wm,Wm=wr:=⟨_,rfl⟩;rw[<-EU]at HA3 dc hG;have BB:Hid (OR 3 1 dM (w+1) () (Pk L 0) wr/\Below w w wr/\wr.heap[w.heap.size]?=Wm.heap[w.heap.size]?/\w.heap.size+1<=wr):=by
    rw[<-EU];exact ⟨OR.iG _ _ _,dc.o,rfl,hG⟩
   clear hL EU HA;go_wp2_with fail;go_loopw [6,7] (λov iv wr=>∃(k:Nat) (vo:Value),k<=256/\iv=.int .i64 (k:Int)/\ov=vo/\Hid (OR 3 1 dM (w+1) vo (Pk L k) wr/\Below w w wr/\wr.heap[w.heap.size]?=Wm.heap[w.heap.size]?/\w.heap.size+1<=wr)) (λ_ iv _=>256 - (intOf iv).toNat)
   case atStart=>exact ⟨0,_,Nat.zero_le _,rfl,rfl,BB⟩
   case round=>
    obtain ⟨k,vo,hk,rfl,rfl,HX⟩:=hrel;have hB:=λ(x:Int)=>((Below.refl wr wr).alloc V (.cells #[.int .i64 x] 3));have TY:∀x:Nat,JL (wr.alloc (.cells #[(x:Int)] 3)) (.slice (Z wr 0) 1 1) [x]:=λx=>by
     refine ⟨some ⟨wr.heap.size,0,none⟩,1,rfl,⟨V,O⟩,.inr ⟨wr.heap.size,0,rfl,H,λi hi=>?_⟩⟩
     match i,hi with
     |0,_=>rw[Φ (heap_alloc_new wr _)];rfl
    have hlen:=RI L k;by_cases Kb:k<256
    .have nw:decide ((k:Int)<256)=true:=τ;have ES:(k:Int)<257:=U;obtain ⟨d0',-,-⟩:=HA3.cell k U;have d0:=(χ w k HX.2.2.1).t d0';have lgo:w.heap.size<wr:=by have:=HX.2.2.2;omega
     have fB:=NF L k;have ao:=HX.1.later (hB k);have xR:=TY k;have TZ:w.heap.size+1<=(wr.alloc (.cells #[(k:Int)] 3)).heap.size:=ψ;have pj:=Y (hB k);by_cases Xc:k∈L
     .rw[if_pos Xc]at fB;rw[decide_eq_true Xc]at d0;have Gg:=Y fB;clear fB hB TY Xc d0';go_wp2_with (at_builtin;refine eD _ _ _ _ (Pk L k) [k] (w+1) rfl rfl rfl rfl ao xR ψ TZ ?_);intro v' w1 ai bg Fb;have BP:∀q,q<w.heap.size+1->w1.heap[q]?=wr.heap[q]?:=λq hq=>(bg.block q ψ (λe=>by have:=(World.ownsRow.lt HX.1 q e.symm).1;omega)).t (pj.block q U)
      have aM:Below w w w1:=⟨bg.os.t HX.2.1.os,bg.tape.t HX.2.1.tape,bg.output.t HX.2.1.output,by have:=bg.size;have:=HX.2.1.size;simp at *;omega,λq hq=>(BP q U).t (HX.2.1.block q hq)⟩
      have tU:=Y (I ai (I aM (I ((BP _ (Nat.lt_succ_self _)).t HX.2.2.1) (show w.heap.size+1<=w1 by have:=bg.size;simp at this;omega))))
      clear ao xR TZ ai bg Fb BP aM;go_wp2_with fail;go_roundw
      case rel=>exact ⟨k+1,_,U,by go_num,rfl,by rw[Gg.o];exact tU.o⟩
      case measure=>exact μ
     .rw[if_neg Xc]at fB;rw[decide_eq_false Xc]at d0;have Gg:=Y fB;clear fB hB TY Xc d0';go_wp2_with fail;go_roundw
      case rel=>exact ⟨k+1,_,U,by go_num,rfl,by rw[Gg.o];exact HX.o⟩
      case measure=>exact μ
    .obtain rfl:k=256:=U;have ao:=HX.1.later (hB 256);have xR:=TY 256;have TZ:w.heap.size+1<=(wr.alloc (.cells #[(256:Int)] 3)).heap.size:=by have:=HX.2.2.2;simp;omega
     have pj:=Y (hB 256);clear hB TY;go_wp2_with (at_builtin;refine eD _ _ _ _ (Pk L 256) [256] (w+1) rfl rfl rfl rfl ao xR ψ TZ ?_);intro v' w1 ai bg Fb;have BP:∀q,q<w.heap.size+1->w1.heap[q]?=wr.heap[q]?:=λq hq=>(bg.block q (by have:=HX.2.2.2;simp;omega) (λe=>by have:=(World.ownsRow.lt HX.1 q e.symm).1;omega)).t (pj.block q (by have:=HX.2.2.2;omega))
     have aM:Below w w w1:=⟨bg.os.t HX.2.1.os,bg.tape.t HX.2.1.tape,bg.output.t HX.2.1.output,by have:=bg.size;have:=HX.2.1.size;simp at *;omega,λq hq=>(BP q U).t (HX.2.1.block q hq)⟩
     have tU:=Y (I ai aM);clear ao xR TZ ai bg Fb BP aM;go_wp2_with fail;go_ret;refine ⟨_,rfl,?_,tU.2⟩;have h9:=tU.1.mono (Nat.le_succ _);rw[Im.o]at h9;exact h9
def fJ(b:Pb)(x:cI)(gs:List (List Nat))(i:Nat):List Nat:=if i=0 then x.first else ((gs[i]?).getD []).flatMap (cN b)
theorem B8{b:Pb}{x:cI}{gs:List (List Nat)}{i p:Nat}:p∈fJ b x gs i↔ir b x gs i p:=by
 unfold fJ ir;by_cases h:i=0
 .rw[if_pos h,if_pos h]
 .rw[if_neg h,if_neg h,List.mem_flatMap]
def Iu(b:Pb)(may:List Nat):List Nat:=(List.range b.sets.length).filter λp=>decide (p∈may)
theorem Gq{b:Pb}{may:List Nat}(h:∀p∈may,p<b.sets.length)(p:Nat):p∈Iu b may↔p∈may:=by
 unfold Iu;rw[List.mem_filter,List.mem_range,decide_eq_true_eq];exact ⟨λh=>h.2,λhp=>⟨h p hp,hp⟩⟩
theorem zB(b:Pb)(may:List Nat):(Iu b may).Pairwise (·<·):=List.Pairwise.filter _ List.pairwise_lt_range
theorem mK{b:Pb}{may:List Nat}:∀p∈Iu b may,p<b.sets.length:=λp hp=>List.mem_range.1 (List.mem_filter.1 hp).1
theorem jx(b:Pb)(may:List Nat)(c:Nat):wR b may c=gW b (Iu b may) c:=by
 unfold wR gW Iu;rw[List.filter_filter];apply List.filter_congr;intro p _;rw[Bool.and_comm]
def Iv(x:cI)(g:List Nat):Bool:=g.any λp=>decide (p∈x.last)
theorem QI{x:cI}{g:List Nat}:Iv x g=true↔∃p∈g,p∈x.last:=by
 unfold Iv;simp
structure Tv (x:cI) (gs:List (List Nat)) (aN:List Bool):Prop where
 al:aN.length=gs.length
 a0:aN[0]?=some x.emp
 ac:∀j g,0<j->gs[j]?=some g->aN[j]?=some (Iv x g)
theorem Tv.start(x:cI):Tv x [[]] [x.emp]:=⟨rfl,rfl,λj g h0 hj=>by
 have:=(List.getElem?_eq_some_iff.1 hj).1;simp at this;omega⟩
theorem Tv.add{x:cI}{gs:List (List Nat)}{aN:List Bool}(h:Tv x gs aN)(h0:0<gs.length)(g:List Nat):Tv x (gs++[g]) (aN++[Iv x g]):=by
 have ky:=h.al;refine ⟨by simp[ky],by rw[List.getElem?_append_left U];exact h.a0,λj k r5 hj=>?_⟩
 by_cases hl:j<gs.length
 .rw[List.getElem?_append_left hl]at hj;rw[List.getElem?_append_left U];exact h.ac j k r5 hj
 .have aB:=(List.getElem?_eq_some_iff.1 hj).1;rw[List.length_append,List.length_singleton]at aB;have:j=gs.length:=U;subst this;rw[List.getElem?_append_right V,Nat.sub_self]at hj;rw[List.getElem?_append_right U,ky,Nat.sub_self];simp at hj;simp[hj]
structure Mj (b:Pb) (x:cI) (gs:List (List Nat)) (rows:List (List Ed)) (aN:List Bool) (i:Nat):Prop where
 cm:uc b x gs rows (aN.take (max i 1)) i
 ac:Tv x gs aN
theorem Mj.start(b:Pb)(x:cI):Mj b x [[]] [] [x.emp] 0:=⟨uc.start b x,Tv.start x⟩
structure xt (b:Pb) (x:cI) (oF:List (List Nat)) (lO:List Bool) (may:List Nat) (gs:List (List Nat)) (aN:List Bool) (row:List Ed) (k:Nat):Prop where
 gg:kz b (Iu b may) oF gs
 ri:ft b (Iu b may) gs row (fm (dO b) k)
 ac:Tv x gs aN
 pf:∃m,aN=lO++m
 rl:row.length<=k
 gl:gs.length<=oF.length+k
section
variable {b:Pb} {x:cI} {oF gs:List (List Nat)} {lO aN:List Bool} {may:List Nat} {row:List Ed} {rows:List (List Ed)} {i k:Nat}
theorem xt.start(h:Mj b x oF rows lO i)(hb:∀rs∈b.sets,∀r∈rs,r.1<256/\r.2<256)(may:List Nat):xt b x oF lO may oF lO [] 0:=
 ⟨kz.refl _ _ _,(lV b hb mK).start oF,h.ac,⟨[],H⟩,V,V⟩
theorem xt.pos(h:xt b x oF lO may gs aN row k)(h0:oF[0]?=some []):gs[0]?=some []:=by
 obtain ⟨more,rfl,-⟩:=h.gg;rw[List.getElem?_append_left (List.getElem?_eq_some_iff.1 h0).1];exact h0
theorem xt.skip(h:xt b x oF lO may gs aN row k)(hb:∀rs∈b.sets,∀r∈rs,r.1<256/\r.2<256)(hk:k+1<(dO b).length)(hn:wR b may (fm (dO b) k)=[]):xt b x oF lO may gs aN row (k+1):=
 ⟨h.gg,(lV b hb mK).skip hk h.ri (by rw[<-jx];exact hn),h.ac,h.pf,Nat.le_succ_of_le h.rl,by have:=h.gl;omega⟩
theorem xt.Li(h:xt b x oF lO may gs aN row k)(hb:∀rs∈b.sets,∀r∈rs,r.1<256/\r.2<256)(h0:oF[0]?=some [])(hk:k+1<(dO b).length)(hn:wR b may (fm (dO b) k)≠[])(hm:wR b may (fm (dO b) k)∈gs):
  xt b x oF lO may gs aN (row++[⟨fm (dO b) k,fm (dO b) (k+1) - 1,gs.idxOf (wR b may (fm (dO b) k))⟩]) (k+1):=by
 have hc:=lV b hb (fo:=Iu b may) mK;have h1:=hc.add hk h.ri (h.pos h0) (by rw[<-jx];exact hn)
 rw[<-jx,iL,if_pos hm]at h1;exact ⟨h.gg,h1,h.ac,h.pf,by have:=h.rl;simp;omega,by have:=h.gl;omega⟩
theorem xt.new(h:xt b x oF lO may gs aN row k)(hb:∀rs∈b.sets,∀r∈rs,r.1<256/\r.2<256)(h0:oF[0]?=some [])(hk:k+1<(dO b).length)(hn:wR b may (fm (dO b) k)≠[])(hm:wR b may (fm (dO b) k)∉gs):
  xt b x oF lO may (gs++[wR b may (fm (dO b) k)]) (aN++[Iv x (wR b may (fm (dO b) k))]) (row++[⟨fm (dO b) k,fm (dO b) (k+1) - 1,gs.length⟩]) (k+1):=by
 have hc:=lV b hb (fo:=Iu b may) mK;have h1:=hc.add hk h.ri (h.pos h0) (by rw[<-jx];exact hn)
 have aB:=hc.lt hk;have h2:=h.gg.add (c:=fm (dO b) k) U (by rw[<-jx];exact hn)
 rw[<-jx,iL,if_neg hm]at h1 h2;have QH:(gs++[wR b may (fm (dO b) k)]).idxOf (wR b may (fm (dO b) k))=gs.length:=by
  rw[List.idxOf_append,if_neg hm];simp
 rw[QH]at h1;have hp:=(List.getElem?_eq_some_iff.1 (h.pos h0)).1;obtain ⟨m,sY⟩:=h.pf;exact ⟨h2,h1,h.ac.add hp _,⟨m++[Iv x (wR b may (fm (dO b) k))],by rw[sY,List.append_assoc]⟩,by have:=h.rl;simp;omega,by have:=h.gl;simp;omega⟩
theorem xt.next(h:xt b x oF lO (fJ b x oF i) gs aN row k)(ho:Mj b x oF rows lO i)(hi:i<oF.length)(hb:∀rs∈b.sets,∀r∈rs,r.1<256/\r.2<256)(VJ:∀p∈fJ b x oF i,p<b.sets.length)(hk:(dO b).length<=k+1):
  Mj b x gs (rows++[row]) aN (i+1):=by
 have hc:=lV b hb (fo:=Iu b (fJ b x oF i)) mK;have ky:=ho.ac.al;obtain ⟨m,hm⟩:=h.pf;refine ⟨ho.cm.step hi (fo:=Iu b (fJ b x oF i)) (λp=>(Gq VJ p).t B8) (zB _ _) mK h.gg (hc.done hk h.ri) ?_,h.ac⟩;by_cases hz:i=0
 .subst hz;rw[if_pos rfl,hm,show max (0+1) 1=1 from rfl,show max 0 1=1 from rfl,List.take_append_of_le_length U]
 .rw[if_neg hz];have hg:oF[i]?=some oF[i]:=List.getElem?_eq_getElem hi;have ha:=ho.ac.ac i _ U hg;refine ⟨Iv x oF[i],?_,by rw[hg,Option.getD_some];exact QI⟩
  rw[hm,show max (i+1) 1=i+1 by omega,show max i 1=i by omega,List.take_append_of_le_length U]
  obtain ⟨hl,he⟩:=List.getElem?_eq_some_iff.1 ha;rw[List.take_succ_eq_append_getElem hl,he]
theorem xt.full(h:xt b x oF lO (fJ b x oF i) gs aN row k)(ho:Mj b x oF rows lO i)(hi:i<oF.length)(hb:∀rs∈b.sets,∀r∈rs,r.1<256/\r.2<256)(VJ:∀p∈fJ b x oF i,p<b.sets.length)(hk:k+1<(dO b).length)
  (hn:wR b (fJ b x oF i) (fm (dO b) k)≠[]) (hm:wR b (fJ b x oF i) (fm (dO b) k)∉gs) (g1:List (List Nat)) (he:g1=gs++[wR b (fJ b x oF i) (fm (dO b) k)]) :
  g1.Nodup/\g1[0]?=some []/\(∀g∈g1,g.Pairwise (·<·))/\∀j,0<j->j<g1.length->(g1[j]?).getD []≠[]/\∃w,∀p,p∈(g1[j]?).getD []↔qc b x w p:=by
 subst he;exact ho.cm.more hi (λp=>(Gq VJ p).t B8) (zB _ _) (h.new hb ho.cm.g0 hk hn hm).gg
theorem Mj.end_(h:Mj b x gs rows aN gs.length)(hl:0<gs.length):uc b x gs rows aN gs.length:=by
 have h1:=h.cm;rwa [List.take_of_length_le (by rw[h.ac.al];omega)]at h1
end
theorem QJ{b:Pb}{x:cI}{gs:List (List Nat)}{i:Nat}(h1:∀p∈x.first,p<b.sets.length)(h2:∀l∈b.fol,∀p∈l,p<b.sets.length):∀p∈fJ b x gs i,p<b.sets.length:=by
 intro p hp;unfold fJ at hp;split at hp
 .exact h1 p hp
 .obtain ⟨q,-,hq⟩:=List.mem_flatMap.1 hp;unfold cN at hq
  cases hf:b.fol[q]? with
  |none=>rw[hf]at hq;cases hq
  |some l=>rw[hf]at hq;exact h2 l (List.mem_of_getElem? hf) p hq
def yi(w:World)(g:Nat)(e:TypeId):Prop:=∃cur,w.heap[g]?=some (.cells cur e (0,0))
theorem yi.ne{w:World}{g k:Nat}{e e':TypeId}(h:yi w g e)(h':yi w k e')(bf:e≠e'):g≠k:=by
 obtain ⟨c1,h1⟩:=h;obtain ⟨c2,h2⟩:=h';intro e3;subst e3;rw[h1]at h2;injection h2 with h2;injection h2 with _ h2;exact bf h2
theorem en{w:World}{B e k n:Nat}{v:Value}{xs:List Value}(h:w.ownsRow B e k v n xs){g:Nat}(hg:v.ownBlock=some g):yi w g e:=vv h g hg
section
variable {α:Type} {T1 T2 k:Nat} {enc:α->List Value} {B:Nat} {v:Value} {ll:List (List α)} {rows:List Value} {w:World}
theorem RR.ty(h:RR T1 T2 k enc B v ll rows w){g:Nat}(hg:g∈gZ v rows):yi w g T1\/yi w g T2:=by
 unfold gZ at hg;rcases List.mem_append.1 hg with hg|hg
 .exact .inl (en h.out (af.1 hg))
 .obtain ⟨u,hu,VH⟩:=List.mem_flatMap.1 hg;obtain ⟨i,hi,-,h2⟩:=h.jL hu;exact .inr (en (show World.ownsRow _ _ _ _ _ _ _ from h2) (af.1 VH))
theorem RR.aa7{w1:World}(h:RR T1 T2 k enc B v ll rows w){v' u:Value}{l:List α}(ao:w1.ownsRow B T1 1 v' (ll.length+1) (rows++[u]))(hr:∀g∈rows.flatMap aq,w1.heap[g]?=w.heap[g]?)(hf:aT v' v w)
  (hu:OR T2 k enc B u l w1) (hn:∀g,u.ownBlock=some g->g∉gZ v rows/\g<w.heap.size):RR T1 T2 k enc B v' (ll++[l]) (rows++[u]) w1:=by
 have aB:=h.lt;have aY:=h.nd;have Yi:∀g,u.ownBlock=some g->g∉gZ v rows:=λg hg=>(hn g hg).1;unfold gZ at aY Yi;rw[List.nodup_append]at aY;obtain ⟨n5,n6,n7⟩:=aY;have nO:(rows++[u]).flatMap aq=rows.flatMap aq++aq u:=H;refine ⟨?_,by rw[List.length_append];exact ao,λi hi=>?_⟩
 .unfold gZ;rw[nO,List.nodup_append,List.nodup_append];refine ⟨zA _,⟨n6,zA _,λx hx y hy e=>?_⟩,λx hx' y hy e=>?_⟩
  .subst e;exact Yi x (af.1 hy) (List.mem_append_right _ hx)
  .subst e;rcases List.mem_append.1 hy with hy|hy
   .rcases hf.aq x hx' with h1|h1
    .exact n7 x h1 x hy rfl
    .have:=(aB x (by unfold gZ;exact List.mem_append_right _ hy)).2;omega
   .rcases hf.aq x hx' with h1|h1
    .exact Yi x (af.1 hy) (List.mem_append_left _ h1)
    .have:=(hn x (af.1 hy)).2;omega
 .have hl:=h.len;by_cases ek:i<ll.length
  .obtain ⟨x,u1,u2⟩:=h.row i ek;refine ⟨x,by rw[List.getElem?_append_left U];exact u1,?_⟩
   rw[List.getElem_append_left ek];exact u2.keep λg qu=>hr g (List.mem_flatMap.2 ⟨x,List.mem_of_getElem? u1,af.2 qu⟩)
  .have nY:i=ll.length:=by rw[List.length_append]at hi;simp at hi;omega
   subst nY;refine ⟨u,by rw[List.getElem?_append_right U,hl];simp,?_⟩
   rw[List.getElem_append_right V];simp only[Nat.sub_self,List.getElem_cons_zero];exact hu
end
theorem MN.obj{P:Program}{k:TypeId}{b n:Nat}{f:Lit->Option Value}{w:World}(h:MN P k b n f w):∃es c,w.heap[b]?=some (.map es c):=by
 obtain ⟨awP,⟨es,c,h1,-⟩,-⟩:=h;exact ⟨es,c,h1⟩
theorem MN.s6{P:Program}{k:TypeId}{b n:Nat}{f:Lit->Option Value}{w:World}(h:MN P k b n f w){g e:Nat}(hg:yi w g e):g≠b:=by
 obtain ⟨es,c,h1⟩:=h.obj;obtain ⟨cur,h2⟩:=hg;intro e;subst e;rw[h1]at h2;injection h2 with h2
 cases h2
structure oD (kt:TypeId) (B mb M:Nat) (lv ev av:Value) (cd bk:List Value) (gs:List (List Nat)) (es:List (List Ed)) (aN:List Bool) (nm:Nat) (F:Lit->Option Value) (wr:World):Prop where
 mp:MN Tryz.prog kt mb nm F wr
 li:RR 22 3 1 dM B lv gs cd wr
 ed:RR 59 74 3 gm B ev es bk wr
 ac:OR 4 1 bC B av aN wr
 bx:wr.heap[M]?=some (.cells #[ev,av] 35)
 ge:B<=mb/\B<=M
def dX(mb M:Nat)(lv ev av:Value)(cd bk:List Value):List Nat:=mb::M::(gZ lv cd++(gZ ev bk++aq av))
section
variable {kt:TypeId} {B mb M:Nat} {lv ev av:Value} {cd bk:List Value} {gs:List (List Nat)} {es:List (List Ed)} {aN:List Bool} {nm:Nat} {F:Lit->Option Value} {wr W:World}
theorem oD.mlt(h:oD kt B mb M lv ev av cd bk gs es aN nm F wr):mb<wr:=by
 obtain ⟨es,c,h1⟩:=h.mp.obj;exact (γ h1).1
theorem oD.lt(h:oD kt B mb M lv ev av cd bk gs es aN nm F wr):∀g∈dX mb M lv ev av cd bk,B<=g/\g<wr.heap.size:=by
 intro g hg;unfold dX at hg;simp only[List.mem_cons,List.mem_append]at hg;rcases hg with rfl|rfl|hg|hg|hg
 .exact ⟨h.ge.1,h.mlt⟩
 .exact ⟨h.ge.2,(γ h.bx).1⟩
 .exact h.li.lt g hg
 .exact h.ed.lt g hg
 .exact World.ownsRow.lt h.ac g (af.1 hg)
theorem oD.same(h:oD kt B mb M lv ev av cd bk gs es aN nm F wr)(hk:∀g∈dX mb M lv ev av cd bk,W.heap[g]?=wr.heap[g]?):oD kt B mb M lv ev av cd bk gs es aN nm F W:=
 ⟨h.mp.iJ (hk _ (by simp[dX])),h.li.same λg hg=>hk g (by simp[dX,hg]),h.ed.same λg hg=>hk g (by simp[dX,hg]),h.ac.keep λg hg=>hk g (by simp[dX,af,hg]),(hk _ (by simp[dX])).t h.bx,h.ge⟩
theorem oD.later(h:oD kt B mb M lv ev av cd bk gs es aN nm F wr)(hb:Below wr wr W):oD kt B mb M lv ev av cd bk gs es aN nm F W:=h.same λg hg=>hb.block g (h.lt g hg).2
theorem oD.YF(h:oD kt B mb M lv ev av cd bk gs es aN nm F wr):yi wr M 35:=⟨_,h.bx⟩
theorem oD.aty(h:oD kt B mb M lv ev av cd bk gs es aN nm F wr){g:Nat}(hg:g∈aq av):yi wr g 4:=en (show World.ownsRow _ _ _ _ _ _ _ from h.ac) (af.1 hg)
theorem oD.put(h:oD kt B mb M lv ev av cd bk gs es aN nm F wr){nm':Nat}{F':Lit->Option Value}(hm:MN Tryz.prog kt mb nm' F' W)(hg:wr.grownBy W (some mb)):oD kt B mb M lv ev av cd bk gs es aN nm' F' W/\ab (dX mb M lv ev av cd bk) (dX mb M lv ev av cd bk) wr W:=by
 have bf:∀g e,yi wr g e->W.heap[g]?=wr.heap[g]?:=λg e ht=>hg.block g (by obtain ⟨c,hc⟩:=ht;exact (γ hc).1) λe2=>h.mp.s6 ht (by injection e2)
 refine ⟨⟨hm,h.li.same λg hg=>(h.li.ty hg).elim (bf g _) (bf g _),h.ed.same λg hg=>(h.ed.ty hg).elim (bf g _) (bf g _),h.ac.keep λg hg=>bf g _ (h.aty (af.2 hg)),(bf M _ h.YF).t h.bx,h.ge⟩,hg.os,hg.tape,hg.output,hg.size,λk hk hn=>hg.block k hk λe=>hn (by injection e with e;rw[e];simp[dX]),λk hk=>.inl hk⟩
theorem oD.push(h:oD kt B mb M lv ev av cd bk gs es aN nm F wr){lv' u:Value}{l:List Nat}(ao:W.ownsRow B 22 1 lv' (gs.length+1) (cd++[u]))(hg:wr.grownBy W lv.ownBlock)(hf:aT lv' lv wr)(hu:OR 3 1 dM B u l wr)(hn:∀g,u.ownBlock=some g->g∉gZ lv cd):
  oD kt B mb M lv' ev av (cd++[u]) bk (gs++[l]) es aN nm F W/\ab (dX mb M lv ev av cd bk++aq u) (dX mb M lv' ev av (cd++[u]) bk) wr W:=by
 have hty:∀g,lv.ownBlock=some g->yi wr g 22:=λg hg=>en h.li.out hg;have bf:∀g e,yi wr g e->e≠22->W.heap[g]?=wr.heap[g]?:=λg e ht he=>hg.block g (by obtain ⟨c,hc⟩:=ht;exact (γ hc).1) λe2=>ht.ne (hty g e2.symm) he rfl
 have Tu:W.heap[mb]?=wr.heap[mb]?:=hg.block mb h.mlt λe2=>h.mp.s6 (hty mb e2.symm) rfl;have aC:∀g∈cd.flatMap aq,W.heap[g]?=wr.heap[g]?:=λg kN=>by
  obtain ⟨x,hx,bJ⟩:=List.mem_flatMap.1 kN;obtain ⟨i,hi,-,h2⟩:=h.li.jL hx;exact bf g _ (en (show World.ownsRow _ _ _ _ _ _ _ from h2) (af.1 bJ)) O
 have hu':OR 3 1 dM B u l W:=hu.keep λg bJ=>bf g _ (en (show World.ownsRow _ _ _ _ _ _ _ from hu) bJ) O;refine ⟨⟨h.mp.iJ Tu,h.li.aa7 ao aC hf hu' λg bJ=>⟨hn g bJ,(World.ownsRow.lt hu g bJ).2⟩,h.ed.same λg bJ=>(h.ed.ty bJ).elim (λt=>bf g _ t O) (λt=>bf g _ t O),h.ac.keep λg bJ=>bf g _ (h.aty (af.2 bJ)) O,(bf M _ h.YF O).t h.bx,h.ge⟩,hg.os,hg.tape,hg.output,hg.size,λk hk jC=>hg.block k hk λe=>jC (by simp[dX,gZ,af,e.symm]),λk hk=>?_⟩
 unfold dX gZ at hk|-;simp only[List.mem_cons,List.mem_append,List.flatMap_append,List.flatMap_cons,List.flatMap_nil,List.append_nil]at hk|-;rcases hk with hk|hk | (hk|hk|hk)|hk
 .exact .inl (.inl (.inl hk))
 .exact .inl (.inl (.inr (.inl hk)))
 .rcases hf.aq k hk with h1|h1
  .exact .inl (.inl (.inr (.inr (.inl (.inl h1)))))
  .exact .inr h1
 .exact .inl (.inl (.inr (.inr (.inl (.inr hk)))))
 .exact .inl (.inr hk)
 .exact .inl (.inl (.inr (.inr (.inr hk))))
theorem oD.VI(h:oD kt B mb M lv ev av cd bk gs es aN nm F wr){s:Nat}(hs:s<es.length){e:Ed}{u u':Value}(hv:bk[s]?=some u)(ao:OR 74 3 gm B u' (es[s]++[e]) W)(hg:wr.grownBy W u.ownBlock)(hf:aT u' u wr){gf cf:Nat}(OK:ev=.slice (Z gf 0) es.length cf):
  oD kt B mb M lv ev av cd (bk.set s u') gs (es.set s (es[s]++[e])) aN nm F (W.setCell (Z gf s) u')/\ab (dX mb M lv ev av cd bk) (dX mb M lv ev av cd (bk.set s u')) wr (W.setCell (Z gf s) u'):=by
 obtain ⟨r1,r2⟩:=h.ed.add hs [e] hv ao hg hf OK;have rK:gf∈gZ ev bk:=by rw[OK];simp[gZ,af,Value.ownBlock]
 have hub:∀g,u.ownBlock=some g->yi wr g 74:=λg bJ=>by
  obtain ⟨x,h1,h2⟩:=h.ed.row s hs;rw[hv,Option.some.injEq]at h1;subst h1;exact en (show World.ownsRow _ _ _ _ _ _ _ from h2) bJ
 have aa9:∀g,g<wr.heap.size->g∉gZ ev bk->(W.setCell (Z gf s) u').heap[g]?=wr.heap[g]?:=λg h1 h2=>r2.aq g h1 h2;have B6:∀g e',yi wr g e'->e'≠59->e'≠74->(W.setCell (Z gf s) u').heap[g]?=wr.heap[g]?:=λg e' ht n1 n2=>aa9 g (by obtain ⟨c,hc⟩:=ht;exact (γ hc).1) λhm=>(h.ed.ty hm).elim (λt=>ht.ne t n1 rfl) (λt=>ht.ne t n2 rfl)
 have Tu:(W.setCell (Z gf s) u').heap[mb]?=wr.heap[mb]?:=aa9 mb h.mlt λhm=>(h.ed.ty hm).elim (λt=>h.mp.s6 t rfl) (λt=>h.mp.s6 t rfl);refine ⟨⟨h.mp.iJ Tu,h.li.same λg bJ=>(h.li.ty bJ).elim (λt=>B6 g _ t O O) (λt=>B6 g _ t O O),r1,h.ac.keep λg bJ=>B6 g _ (h.aty (af.2 bJ)) O O,(B6 M _ h.YF O O).t h.bx,h.ge⟩,r2.os,r2.tape,r2.output,r2.size,λk hk hn=>r2.aq k hk λhm=>hn (by simp[dX,hm]),λk hk=>?_⟩
 unfold dX at hk|-;simp only[List.mem_cons,List.mem_append]at hk|-;rcases hk with hk|hk|hk|hk|hk
 .exact .inl (.inl hk)
 .exact .inl (.inr (.inl hk))
 .exact .inl (.inr (.inr (.inl hk)))
 .exact (r2.new k hk).imp (λh=>.inr (.inr (.inr (.inl h)))) id
 .exact .inl (.inr (.inr (.inr (.inr hk))))
theorem oD.state(h:oD kt B mb M lv ev av cd bk gs es aN nm F wr){ev' av':Value}{a:Bool}(hk:ab (M::(aq ev++aq av)) [] wr W)(iw:W.heap[M]?=some (.cells #[ev',av'] 35))(ao:W.ownsRow B 59 1 ev' (es.length+1) (bk++[.slice none 0 0]))(ej:OR 4 1 bC B av' (aN++[a]) W)
  (k5:aT ev' ev wr) (uC:aT av' av wr):oD kt B mb M lv ev' av' cd (bk++[.slice none 0 0]) gs (es++[[]]) (aN++[a]) nm F W/\ab (dX mb M lv ev av cd bk) (dX mb M lv ev' av' cd (bk++[.slice none 0 0])) wr W:=by
 have hL:∀g,g∈M::(aq ev++aq av)->yi wr g 35\/yi wr g 59\/yi wr g 4:=λg hg=>by
  simp only[List.mem_cons,List.mem_append]at hg;rcases hg with rfl|hg|hg
  .exact .inl h.YF
  .exact .inr (.inl (en h.ed.out (af.1 hg)))
  .exact .inr (.inr (h.aty hg))
 have B6:∀g e',yi wr g e'->e'≠35->e'≠59->e'≠4->W.heap[g]?=wr.heap[g]?:=λg e' ht n1 n2 n3=>hk.aq g (by obtain ⟨c,hc⟩:=ht;exact (γ hc).1) λhm=>(hL g hm).elim (λt=>ht.ne t n1 rfl) λt=>t.elim (λt=>ht.ne t n2 rfl) (λt=>ht.ne t n3 rfl)
 have Tu:W.heap[mb]?=wr.heap[mb]?:=hk.aq mb h.mlt λhm=>(hL mb hm).elim (λt=>h.mp.s6 t rfl) λt=>t.elim (λt=>h.mp.s6 t rfl) (λt=>h.mp.s6 t rfl);have aC:∀g∈bk.flatMap aq,W.heap[g]?=wr.heap[g]?:=λg kN=>by
  obtain ⟨x,hx,bJ⟩:=List.mem_flatMap.1 kN;obtain ⟨i,hi,-,h2⟩:=h.ed.jL hx;exact B6 g _ (en (show World.ownsRow _ _ _ _ _ _ _ from h2) (af.1 bJ)) O O O
 refine ⟨⟨h.mp.iJ Tu,h.li.same λg bJ=>(h.li.ty bJ).elim (λt=>B6 g _ t O O O) (λt=>B6 g _ t O O O),h.ed.push ao aC k5,ej,iw,h.ge⟩,hk.os,hk.tape,hk.output,hk.size,λk bQ hn=>hk.aq k bQ λhm=>hn ?_,λk bQ=>?_⟩
 .unfold dX gZ;simp only[List.mem_cons,List.mem_append]at hm|-;rcases hm with hm|hm|hm
  .exact .inr (.inl hm)
  .exact .inr (.inr (.inr (.inl (.inl hm))))
  .exact .inr (.inr (.inr (.inr hm)))
 .unfold dX at bQ|-;unfold gZ at bQ|-;rw[oE]at bQ;simp only[List.mem_cons,List.mem_append]at bQ|-;rcases bQ with bQ|bQ|bQ | (bQ|bQ)|bQ
  .exact .inl (.inl bQ)
  .exact .inl (.inr (.inl bQ))
  .exact .inl (.inr (.inr (.inl bQ)))
  .exact (k5.aq k bQ).imp (λh=>.inr (.inr (.inr (.inl (.inl h))))) id
  .exact .inl (.inr (.inr (.inr (.inl (.inr bQ)))))
  .exact (uC.aq k bQ).imp (λh=>.inr (.inr (.inr (.inr h)))) id
theorem tL.aba{v:Value}{ll:List (List Ed)}{rows:List Value}(h:RR 59 74 3 gm B v ll rows wr):tL wr v ll:=by
 by_cases h0:0<ll.length
 .obtain ⟨g,c,e,hg,hc,ak,-⟩:=h.form h0;refine ⟨some ⟨g,0,none⟩,c,e,hc,.inr ⟨g,0,rfl,hg,λi hi=>?_⟩⟩;obtain ⟨u,h1,h2⟩:=ak i hi;obtain ⟨u',h3,h4⟩:=h.row i hi;rw[h1,Option.some.injEq]at h3;subst h3;exact ⟨u,by rw[Nat.zero_add];exact h2,eQ.eu h4⟩
 .have:ll=[]:=List.eq_nil_of_length_eq_zero U;subst this;obtain ⟨A,c,e,h1,h2⟩:=ae h.out;exact ⟨A,c,e,⟨h1,h2⟩,.inl rfl⟩
theorem oD.mc(h:oD kt B mb M lv ev av cd bk gs es aN nm F wr):jb wr (.agg #[ev,av]) ⟨es,aN⟩:=⟨ev,av,rfl,tL.aba h.ed,mA.eu h.ac⟩
end
def QG(gs:List (List Nat))(F:Lit->Option Value):Prop:=∀g:List Nat,(∀p∈g,p<65536)->g≠[]->F (.string (km g))=if g∈gs then some (.int .i64 (gs.idxOf g:Int)) else none
theorem QG.start:QG [[]] (λ_=>none):=λg _ h0=>by simp[h0]
theorem QG.add{gs:List (List Nat)}{F:Lit->Option Value}(h:QG gs F){l:List Nat}(hl:l∉gs)(hb:∀p∈l,p<65536):QG (gs++[l]) (je F (.string (km l)) (some (.int .i64 (gs.length:Int)))):=λg hg h0=>by
 unfold je;by_cases e:g=l
 .subst e;have QH:(gs++[g]).idxOf g=gs.length:=by rw[List.idxOf_append,if_neg hl];simp
  rw[if_pos (WideAt.sameKey_self (by trivial)),if_pos H,QH]
 .have bf:¬(Lit.string (km g)).sameKey (.string (km l))=true:=λhs=>e (B7 hg hb (by have:=WideAt.sameKey_eq hs;injection this))
  rw[if_neg bf,h g hg h0];by_cases hm:g∈gs
  .rw[if_pos hm,if_pos (by simp[hm]),List.idxOf_append,if_pos hm]
  .rw[if_neg hm,if_neg (by simp[hm,e])]
def Y8(r:Nat×Nat):List Value:=[.int .u8 (r.1:Int),.int .u8 (r.2:Int)]
theorem acq:p4 Y8 2:=⟨O,λ_=>rfl,λx u hu=>by simp[Y8]at hu; rcases hu with rfl|rfl <;> rfl⟩
theorem MY:(Tryz.prog.info? 72).map (λi=>(i.zero,i.size,i.bytes))=some (some (.agg #[.int .u8 0,.int .u8 0]),2,2):=R
theorem aJ{P:Program}{f:FuncId}{args:Array Value}{Q:Ending->World->Prop}{w:World}(h:∀W,W=w->Calls P f args W Q):Calls P f args w Q:=h w rfl
theorem WE(rb:Nat)(d:Int)(w:World)(h:k9 rb ⟨#[97,45,98,93,123,50,125]⟩ false d w):
  Calls Tryz.prog 134 #[.pointer (Z rb 0)] w λe w'=>∃v,e=.returned (.agg #[.int .i64 1,v,.slice none 0 0,.int .i64 0,.int .i64 0])/\OR 72 2 Y8 w v [(97,98)] w'/\k9 rb ⟨#[123,50,125]⟩ false d w'/\xD rb w w':=by
 obtain ⟨⟨c0,c1,c2⟩,⟨f0,f1,f2⟩,hl⟩:=h.cells;obtain ⟨i3,BZ,mJ,bQ,bE⟩:=info_parts MY;have HR:=Y h;clear h
 go_enter Tryz.func134,Tryz.ntmps134
 go_wp2_with fail;refine wp_loop_rounds 2 ?_;rw[rounds_succ];go_wp2_with fail;refine aJ λW0 cG=>?_;have hb0:Below w w W0:=by rw[cG];exact (D.alloc V _).alloc H _
 have hX:W0.heap[w.heap.size+1]?=some (.cells #[(1:Int),(),(),(0:Int),(0:Int)] 26):=by rw[cG];simpa using heap_alloc_new (w.alloc _) (.cells #[(1:Int),(),(),(0:Int),(0:Int)] 26)
 have hY:W0.heap[w.heap.size]?=some (.cells #[(0:Int),(),(),(0:Int),(0:Int)] 26):=by rw[cG,az _ _ _ H];exact heap_alloc_new w _
 have dY:W0.heap.size=w+2:=by rw[cG];simp
 have hT1:=fL rb _ ⟨#[97,45,98,93,123,50,125]⟩ ⟨#[93]⟩ false false d W0 (HR.later hb0) rfl rfl;have MZ:=Y hT1;have H0:=Y (I hb0 (I hX hY));clear cG hb0 hX hY hT1 c0 c1 c2 f0 f1 f2;refine MZ.mono ?_;rintro e w1 ⟨rfl,fD,bQ⟩;have hT2:=M0 rb _ ⟨#[45,98,93,123,50,125]⟩ 97 false d w1 fD rfl rfl O rfl (λ_=>R) rfl;have K1:=Y hT2;have H1:=Y bQ;clear fD bQ hT2;go_wp2_with fail;refine K1.mono ?_;rintro e w2 ⟨rfl,iX,bE⟩;have H2:=Y (I iX (H1.tr bE));clear iX bE;go_wp2_with fail;refine aJ λW3 pg=>?_;have pZ:Below w2 w2 W3:=by rw[pg];exact D.alloc V _
 have M1:W3.heap[w2.heap.size]?=some (.cells #[.int .u8 97,.int .u8 97] 72):=by rw[pg];exact heap_alloc_new w2 _
 have cT:=H2.2.size;have hT4:=fL rb _ ⟨#[98,93,123,50,125]⟩ ⟨#[45]⟩ false true d W3 (H2.1.later pZ) rfl rfl;have HT4:=Y hT4;have H3:=Y (I M1 (H2.2.tr (o8 pZ)));have sQ:=pZ.size;have lX3:w2.heap.size<W3:=(γ M1).1;clear pg pZ M1 hT4;refine HT4.mono ?_;rintro e w4 ⟨rfl,I3,Kt⟩;have hT5:=M0 rb _ ⟨#[93,123,50,125]⟩ 98 false d w4 I3 rfl rfl O rfl (λ_=>R) rfl;have HT5:=Y hT5;have H4:=Y Kt;clear I3 Kt hT5;go_wp2_with fail;refine HT5.mono ?_;rintro e w5 ⟨rfl,Y0,IG⟩;have bf:∀k,w.heap.size<=k->k∉[rb]:=λk hk hm=>by rw[List.mem_singleton]at hm;omega
 have k6:=H4.tr IG;have hX5:=(k6.aq w2 lX3 (bf _ U)).t H3.1;have Rn:=H3.2.tr k6;have hN5:=(Rn.aq (w+1) U (bf _ U)).t H0.2.1;have hY5:=(Rn.aq w U (bf _ V)).t H0.2.2;obtain ⟨x0,x1⟩:w5.cell? (Z w2 0)=some (.int .u8 97)/\w5.cell? (Z w2 1)=some (.int .u8 97):=by constructor <;> (rw[Φ hX5]; rfl)
 have fx1:w5.frozen? (Z w2 1)=false:=Ψ hX5
 obtain ⟨n0,n1,n2,n3,n4⟩:=aD hN5;have fn1:w5.frozen? (Z (w+1) 1)=false:=Ψ hN5
 have hz5:=k6.size;have l2:w2.heap.size<w5:=U;have ln:w.heap.size+1<w5:=U;have ne1:¬w.heap.size+1=w2:=U;have ne2:¬w2.heap.size=w+1:=U;have H5:=Y (I Y0 (I Rn (I hN5 hY5)));have xT:((w5.setCell (Z w2 1) (.int .u8 98)).alloc (.cells #[.int .u8 97,.int .u8 98] 72)).ownsRow w 72 2 () 0 []:=World.ownsRow_nil _ _ _ _;have iY:∀j u,([.int .u8 97,.int .u8 98]:List Value)[j]?=some u->((w5.setCell (Z w2 1) (.int .u8 98)).alloc (.cells #[.int .u8 97,.int .u8 98] 72)).cell? (((Z w5 0):Addr).add j)=some u:=λj u hj=>by
  have aC:((w5.setCell (Z w2 1) (.int .u8 98)).alloc (.cells #[.int .u8 97,.int .u8 98] 72)).heap[w5.heap.size]?=some (.cells #[.int .u8 97,.int .u8 98] 72):=by simpa [World.setCell] using heap_alloc_new (w5.setCell (Z w2 1) (.int .u8 98)) (.cells #[.int .u8 97,.int .u8 98] 72)
  match j,hj with
  |0,hj=>simp at hj;rw[<-hj,Addr.add_lit,Φ aC];rfl
  |1,hj=>simp at hj;rw[<-hj,Addr.add_lit,Φ aC];rfl
 clear Y0 IG k6 Rn hX5 hN5 hY5;go_wp2_with (at_builtin; refine bn rfl _ _ 23 rfl w 72 i3 _ 2 2 Tryz.underlying23 BZ mJ bQ bE rfl O _ 0 [] rfl xT (Z w5 0) 1 1 [.int .u8 97,.int .u8 98] rfl rfl iY (by intro u hu; simp at hu; rcases hu with rfl|rfl <;> rfl) O O (by simp[World.setCell]; omega) ?_)
 intro v' w6 dw GO hf6;obtain ⟨A6,c6,rfl,-,-⟩:=ae dw;have Ts:((w5.setCell (Z w2 1) (.int .u8 98)).alloc (.cells #[.int .u8 97,.int .u8 98] 72)).heap.size=w5.heap.size+1:=by simp[World.setCell]
 have hz6:=GO.size;rw[Ts]at hz6;have acu:∀g,(Value.slice A6 1 c6).ownBlock=some g->w5.heap.size+1<=g:=λg hg=>by
  rcases hf6 with h|⟨g',h,h2⟩
  .rw[h]at hg;cases hg
  .rw[h]at hg;injection hg with hg;first|omega | (simp[World.setCell]at h2;omega)
 have h56:∀k,k<w5.heap.size->k≠w2.heap.size->w6.heap[k]?=w5.heap[k]?:=λk hk hn=>(GO.block k (by rw[Ts];omega) (by simp[Value.ownBlock])).t ((az _ _ _ (by simp[World.setCell];exact hk)).t (Below.heap_setCell w5 (Z w2 1) (.int .u8 98) k hn))
 have P0:=H5.2.1.size;have IE:W0.heap.size<=w2:=H2.2.size;have acw:xD rb W0 w6:=⟨GO.os.t H5.2.1.os,GO.tape.t H5.2.1.tape,GO.output.t H5.2.1.output,U,λk hk hn=>(h56 k U U).t (H5.2.1.aq k hk hn),λk hk=>.inl hk⟩;have Y1:=H5.1.keep (h56 rb U U);have U0:=(h56 (w+1) ln ne1).t H5.2.2.1;have hY6:=(h56 w U U).t H5.2.2.2;have n61:w6.cell? (Z (w+1) 1)=some (.slice none 0 0):=by rw[Φ U0];rfl
 have fn6:w6.frozen? (Z (w+1) 1)=false:=Ψ U0
 have ln6:w.heap.size+1<w6:=U;obtain ⟨⟨ra0,ra1,ra2⟩,-,lrb⟩:=Y1.cells;have asj:¬rb=w.heap.size+1:=U;have asl:¬w.heap.size+1=rb:=U;have H6:=Y (I dw (I acu (I acw (I Y1 (I U0 hY6)))));clear dw GO hf6 acu h56 acw Y1 U0 hY6 xT iY Ts x0 x1 fx1 n0 n1 n2 n3 n4 fn1;go_wp2_with fail;rw[rounds_succ];go_wp2_with fail;refine aJ λW7 El=>?_;have aH:∀k,k≠w.heap.size+1->W7.heap[k]?=w6.heap[k]?:=λk hk=>by rw[El];exact Below.heap_setCell _ _ _ _ hk
 have hz7:W7.heap.size=w6:=by rw[El];simp[World.setCell]
 have hN7:W7.heap[w.heap.size+1]?=some (.cells #[(1:Int),.slice A6 1 c6,(),(0:Int),(0:Int)] 26):=by
  rw[El];have:=aE H6.2.2.2.2.1 1 (.slice A6 1 c6);simpa using this
 have hY7:=(aH w U).t H6.2.2.2.2.2;have hr7:=H6.2.2.2.1.keep (aH rb U);have OX:W7.ownsRow w 72 2 (.slice A6 1 c6) 1 [.int .u8 97,.int .u8 98]:=ar H6.1 λg hg=>aH g (by have:=H6.2.1 g hg;omega)
 have hk7:ab [rb,w.heap.size+1] [] W0 W7:=by
  have h1:=H6.2.2.1;exact ⟨by rw[El];exact h1.os,by rw[El];exact h1.tape,by rw[El];exact h1.output,by rw[hz7];exact h1.size,λk hk hn=>(aH k (λe=>hn (by simp[e]))).t (h1.aq k hk (λh=>hn (by simp at h|-;exact .inl h))),λk hk=>by cases hk⟩
 have hT8:=fL rb _ ⟨#[123,50,125]⟩ ⟨#[93]⟩ false true d W7 hr7 rfl rfl;have HT8:=Y hT8;have H7:=Y (I hN7 (I hY7 (I OX hk7)));clear El aH hN7 hY7 hr7 OX hk7 hT8 n61 fn6;refine HT8.mono ?_;rintro e w8 ⟨rfl,QU,zS⟩;have Vm:=(zS.aq (w+1) U (bf _ U)).t H7.1;have Pf:=(zS.aq w U (bf _ V)).t H7.2.1;obtain ⟨n0,n1,n2,n3,n4⟩:=aD Vm;obtain ⟨y0,y1,y2,y3,y4⟩:=aD Pf;have vl:w8.frozen? (Z w 0)=false:=Ψ Pf
 have ug:w8.frozen? (Z w 1)=false:=Ψ Pf
 have xp:w8.frozen? (Z w 2)=false:=Ψ Pf
 have Kr:w8.frozen? (Z w 3)=false:=Ψ Pf
 have Ks:w8.frozen? (Z w 4)=false:=Ψ Pf
 have hz8:=zS.size;have l8:w.heap.size+1<w8:=U;have l80:w.heap.size<w8:=U;have H8:=Y (I QU zS);clear QU zS Vm Pf;go_wp2_with fail;refine au λWf bG=>?_;refine bodyPost_ret (v:=.agg #[(1:Int),.slice A6 1 c6,(),(0:Int),(0:Int)]) (by rw[bG];simp[results,Tryz.results134,go_sem,y0,y1,y2,y3,y4,l80];try rfl) rfl ?_
 have M3:∀k,k≠w.heap.size->Wf.heap[k]?=w8.heap[k]?:=λk hk=>by
  rw[bG];simp only[Below.heap_setCell _ _ _ _ (show k≠((Z w 0):Addr).block from hk),Below.heap_setCell _ _ _ _ (show k≠((Z w 1):Addr).block from hk),Below.heap_setCell _ _ _ _ (show k≠((Z w 2):Addr).block from hk),Below.heap_setCell _ _ _ _ (show k≠((Z w 3):Addr).block from hk),Below.heap_setCell _ _ _ _ (show k≠((Z w 4):Addr).block from hk)]
 have hzf:Wf.heap.size=w8:=by rw[bG];simp[World.setCell]
 have Lo:∀g,(Value.slice A6 1 c6).ownBlock=some g->w5.heap.size+1<=g:=H6.2.1;refine ⟨_,rfl,?_,H8.1.keep (M3 rb U),?_⟩
 .have h1:=ar H7.2.2.1 λg hg=>H8.2.aq g (H7.2.2.1.lt g hg).2 (bf _ (by have:=Lo g hg;omega))
  exact ar h1 λg hg=>M3 g (by have:=Lo g hg;omega)
 .have pr:=H7.2.2.2;have h1:=H8.2;have xL:Wf.os=w8.os/\Wf.tape=w8.tape/\Wf.output=w8.output:=by rw[bG];exact ⟨rfl,rfl,rfl⟩
  have hb:=H0.1;exact ⟨xL.1.t (h1.os.t (pr.os.t hb.os)),xL.2.1.t (h1.tape.t (pr.tape.t hb.tape)),xL.2.2.t (h1.output.t (pr.output.t hb.output)),U,λk hk hn=>by
   rw[M3 k U,h1.aq k U hn,pr.aq k U (λhm=>by simp at hm;rcases hm with hm|hm;exact hn (by simp[hm]);omega),hb.block k hk],λk hk=>.inl hk⟩
theorem TL{b:Nat}{L:List Nat}{w w':World}(hf:Fr b w w'):ab (b::L) [] w w':=⟨hf.os,hf.tape,hf.output,hf.size,λk hk hn=>hf.block k hk (λe=>hn (by injection e with e;simp[e])),λk hk=>by cases hk⟩
theorem vM{L:List Nat}{w w':World}(hf:Below w w w'):ab L [] w w':=⟨hf.os,hf.tape,hf.output,hf.size,λk hk _=>hf.block k hk,λk hk=>by cases hk⟩
structure StO (b B N i:Nat) (vE vA:Value) (gv:List Value) (rs:List (List Ed)) (aN:List Bool) (W:World) (c:Nat) (w:World):Prop where
 m0:jt B N [] vE vA gv rs aN W
 bB:b<B
 kf:ab (b::ki N vE vA) [] W w
 tp:cP b w
 bx:c<=5->w.heap[N]?=W.heap[N]?
 ve:c<=1->w.ownsRow B 59 1 vE i gv
 va:c<=4->w.ownsRow B 4 1 vA i (a8 bC aN)
def FEo(B k:Nat)(vE rv:Value)(gv:List Value)(W:World)(c:Nat)(x:Value)(w:World):Prop:=
 2<=c->c<=5->(∃A c',x=.slice A k c')/\w.ownsRow B 59 1 x k (gv++[rv])/\aT x vE W
def FBo(B N k:Nat)(vE vA rv:Value)(gv:List Value)(W:World)(c:Nat)(w:World):Prop:=
 c=6->∃x,w.ownsRow B 59 1 x k (gv++[rv])/\aT x vE W.heap.size/\w.heap[N]?=some (.cells #[x,vA] 35)
def FAo(B k:Nat)(vA:Value)(aN:List Bool)(W:World)(c:Nat)(x:Value)(w:World):Prop:=
 5<=c->(∃A c',x=.slice A k c')/\(∃q,w.ownsRow B 4 1 x k (a8 bC aN++[.bool q]))/\aT x vA W
section
variable {b B N i k:Nat} {vE vA rv x y:Value} {gv:List Value} {rs:List (List Ed)} {aN:List Bool} {W w w':World} {c c':Nat}
theorem rk{N:Nat}{j:Nat}{L:List Nat}{v:Value}(h:N∈L):ab L [] w (w.setCell (Z N j) v):=
 ⟨rfl,rfl,rfl,by simp[World.setCell],λk _ hn=>Below.heap_setCell _ _ _ _ λe=>hn (e▸h),λk hk=>by cases hk⟩
end
def II(B:Nat)(w:World)(v:Value)(rs:List (Nat×Nat)):Prop:=∀W,ab (List.range B) [] w W->gD W v rs
def Wa(b:Nat)(w:World)(e:Ending)(w':World):Prop:=∃rs v,rs∈qW/\e=.returned (.agg #[.int .i64 1,v,.slice none 0 0,.int .i64 0,.int .i64 0])/\II w w' v rs/\cP b w'/\Fr b w w'
theorem rg1{W:World}{g a b:Nat}{T:TypeId}{m:Nat×Nat}(h:W.heap[g]?=some (.cells #[.int .u8 (a:Int),.int .u8 (b:Int)] T m))(ha:a<256)(hb:b<256):gD W (.slice (Z g 0) 1 1) [(a,b)]:=
 ⟨_,1,rfl,⟨V,O⟩,.inr ⟨g,0,rfl,(γ h).1,λi hi=>by
  match i,hi with
  |0,_=>exact ⟨⟨by rw[Φ h];rfl,by rw[Φ h];rfl⟩,ha,hb⟩⟩⟩
theorem rg2{W:World}{g a b a2 b2:Nat}{T:TypeId}{m:Nat×Nat}(h:W.heap[g]?=some (.cells #[.int .u8 (a:Int),.int .u8 (b:Int),.int .u8 (a2:Int),.int .u8 (b2:Int)] T m))(ha:a<256)(hb:b<256)(JY:a2<256)(aS:b2<256):gD W (.slice (Z g 0) 2 2) [(a,b),(a2,b2)]:=
 ⟨_,2,rfl,⟨V,O⟩,.inr ⟨g,0,rfl,(γ h).1,λi hi=>by
  match i,hi with
  |0,_=>exact ⟨⟨by rw[Φ h];rfl,by rw[Φ h];rfl⟩,ha,hb⟩
  |1,_=>exact ⟨⟨by rw[Φ h];rfl,by rw[Φ h];rfl⟩,JY,aS⟩⟩⟩
theorem yv{B:Nat}{w:World}{g a b:Nat}{T:TypeId}{m:Nat×Nat}(h:w.heap[g]?=some (.cells #[.int .u8 (a:Int),.int .u8 (b:Int)] T m))(ha:a<256)(hb:b<256)(hg:B<=g):II B w (.slice (Z g 0) 1 1) [(a,b)]:=
 λW hk=>rg1 ((hk.aq g (γ h).1 (λhm=>by have:=List.mem_range.1 hm;omega)).t h) ha hb
theorem TF{B:Nat}{w:World}{g a b a2 b2:Nat}{T:TypeId}{m:Nat×Nat}(h:w.heap[g]?=some (.cells #[.int .u8 (a:Int),.int .u8 (b:Int),.int .u8 (a2:Int),.int .u8 (b2:Int)] T m))(ha:a<256)(hb:b<256)(JY:a2<256)(aS:b2<256)(hg:B<=g):II B w (.slice (Z g 0) 2 2) [(a,b),(a2,b2)]:=
 λW hk=>rg2 ((hk.aq g (γ h).1 (λhm=>by have:=List.mem_range.1 hm;omega)).t h) ha hb JY aS
theorem Cn{b B:Nat}{w w':World}(hf:Fr b w w')(hb:b<B):ab (List.range B) [] w w':=⟨hf.os,hf.tape,hf.output,hf.size,λk hk hn=>hf.block k hk (λe=>hn (by injection e with e;simp;omega)),λk hk=>by cases hk⟩
theorem sA(b:Nat)(w:World)(ht:cP b w):Calls Tryz.prog 13 #[.pointer (Z b 0)] w (Wa b w):=by
 have HT:=Y ht;have j7:=ht.lt;clear ht
 go_enter Tryz.func13,Tryz.ntmps13
 go_wp2_with fail;refine aJ λW0 cG=>?_;have hW:W0=kH w [(#[(0:Int),(),(),(0:Int),(0:Int)],26),(#[.int .u8 97,.int .u8 98],72),(#[.int .u8 48,.int .u8 57],72),(#[.int .u8 97,.int .u8 97],72),(#[.int .u8 98,.int .u8 98],72),(#[.int .u8 48,.int .u8 57,.int .u8 97,.int .u8 102],72),(#[.int .u8 107,.int .u8 107],72),(#[.int .u8 45,.int .u8 45],72),(#[.int .u8 0,.int .u8 9,.int .u8 250,.int .u8 255],72),(#[.slice (Z (w+1) 0) 1 1,.slice (Z (w+1+1) 0) 1 1,.slice (Z (w+1+1+1) 0) 1 1,.slice (Z (w+1+1+1+1) 0) 1 1,.slice (Z (w+1+1+1+1+1) 0) 2 2,.slice (Z (w+1+1+1+1+1+1) 0) 1 1,.slice (Z (w+1+1+1+1+1+1+1) 0) 1 1,.slice (Z (w+1+1+1+1+1+1+1+1) 0) 2 2],23)]:=cG;have g0:W0.heap[w.heap.size+1]?=some (.cells #[.int .u8 97,.int .u8 98] 72):=by rw[hW];exact eB 1 rfl
 have g1:W0.heap[w.heap.size+1+1]?=some (.cells #[.int .u8 48,.int .u8 57] 72):=by rw[hW];exact eB 2 rfl
 have g2:W0.heap[w.heap.size+1+1+1]?=some (.cells #[.int .u8 97,.int .u8 97] 72):=by rw[hW];exact eB 3 rfl
 have g3:W0.heap[w.heap.size+1+1+1+1]?=some (.cells #[.int .u8 98,.int .u8 98] 72):=by rw[hW];exact eB 4 rfl
 have g4:W0.heap[w.heap.size+1+1+1+1+1]?=some (.cells #[.int .u8 48,.int .u8 57,.int .u8 97,.int .u8 102] 72):=by rw[hW];exact eB 5 rfl
 have g5:W0.heap[w.heap.size+1+1+1+1+1+1]?=some (.cells #[.int .u8 107,.int .u8 107] 72):=by rw[hW];exact eB 6 rfl
 have g6:W0.heap[w.heap.size+1+1+1+1+1+1+1]?=some (.cells #[.int .u8 45,.int .u8 45] 72):=by rw[hW];exact eB 7 rfl
 have g7:W0.heap[w.heap.size+1+1+1+1+1+1+1+1]?=some (.cells #[.int .u8 0,.int .u8 9,.int .u8 250,.int .u8 255] 72):=by rw[hW];exact eB 8 rfl
 have gR:W0.heap[w.heap.size+1+1+1+1+1+1+1+1+1]?=some (.cells #[.slice (Z (w+1) 0) 1 1,.slice (Z (w+1+1) 0) 1 1,.slice (Z (w+1+1+1) 0) 1 1,.slice (Z (w+1+1+1+1) 0) 1 1,.slice (Z (w+1+1+1+1+1) 0) 2 2,.slice (Z (w+1+1+1+1+1+1) 0) 1 1,.slice (Z (w+1+1+1+1+1+1+1) 0) 1 1,.slice (Z (w+1+1+1+1+1+1+1+1) 0) 2 2] 23):=by rw[hW];exact eB 9 rfl
 have gB:W0.heap[w.heap.size]?=some (.cells #[(0:Int),(),(),(0:Int),(0:Int)] 26):=by rw[hW];exact eB 0 rfl
 have hz:W0.heap.size=w+10:=by rw[hW];exact sM _ w
 have hb:Below w w W0:=by rw[hW];exact mu _ w
 have aC:∀c,c<8->∃v rs,rs∈qW/\W0.cell? (Z (w+1+1+1+1+1+1+1+1+1) c)=some v/\II (w+1) W0 v rs/\v.oneCell'=true:=λc hc=>by
  rcases (show c=0\/c=1\/c=2\/c=3\/c=4\/c=5\/c=6\/c=7 by omega) with rfl|rfl|rfl|rfl|rfl|rfl|rfl|rfl
  .exact ⟨_,[(97,98)],O,by rw[Φ gR];rfl,yv (a:=97) (b:=98) g0 O O U,rfl⟩
  .exact ⟨_,[(48,57)],O,by rw[Φ gR];rfl,yv (a:=48) (b:=57) g1 O O U,rfl⟩
  .exact ⟨_,[(97,97)],O,by rw[Φ gR];rfl,yv (a:=97) (b:=97) g2 O O U,rfl⟩
  .exact ⟨_,[(98,98)],O,by rw[Φ gR];rfl,yv (a:=98) (b:=98) g3 O O U,rfl⟩
  .exact ⟨_,[(48,57),(97,102)],O,by rw[Φ gR];rfl,TF (a:=48) (b:=57) (a2:=97) (b2:=102) g4 O O O O U,rfl⟩
  .exact ⟨_,[(107,107)],O,by rw[Φ gR];rfl,yv (a:=107) (b:=107) g5 O O U,rfl⟩
  .exact ⟨_,[(45,45)],O,by rw[Φ gR];rfl,yv (a:=45) (b:=45) g6 O O U,rfl⟩
  .exact ⟨_,[(0,9),(250,255)],O,by rw[Φ gR];rfl,TF (a:=0) (b:=9) (a2:=250) (b2:=255) g7 O O O O U,rfl⟩
 obtain ⟨bR,hbR⟩:∃k,w.heap.size+1+1+1+1+1+1+1+1+1=k:=⟨_,rfl⟩;rw[hbR]at aC|-;have HR:=Y (I aC (I gB (I hb (show w<=bR/\bR<W0 by omega))))
 have Ml:=HT.below hb;clear hW cG g0 g1 g2 g3 g4 g5 g6 g7 gR gB aC hbR hb hz HT;refine (rj b 8 W0 O O Ml).mono ?_;rintro e w1 ⟨r,rfl,fD,iX,Co,k5⟩;obtain ⟨c,rfl⟩:∃c:Nat,r=(c:Int):=⟨r.toNat,U⟩;obtain ⟨v,rs,lU,dj,fB,h1c⟩:=HR.1 c U;obtain ⟨Av,cv,rfl,-⟩:=fB W0 (vM D);obtain ⟨nv,Dm⟩:∃k,rs.length=k:=⟨_,rfl⟩;rw[Dm]at fB dj;have HNV:=Y Dm;have bw:=HR.2.2.1.size;have fW:=(HR.2.1);have hRb:=HR.2.2.2;have UH:w1.cell? (Z bR c)=some (.slice Av nv cv):=(χ bR c (k5.block bR hRb.2 (λe=>by injection e with e;omega))).t dj
 have vO:w1.heap[w.heap.size]?=some (.cells #[(0:Int),(),(),(0:Int),(0:Int)] 26):=(k5.block _ U (λe=>by injection e with e;omega)).t fW
 have lB:w.heap.size<w1:=(γ vO).1;have lR:bR<w1:=by have:=k5.size;omega
 have z0:w1.cell? (Z w 0)=some (.int .i64 0):=by rw[Φ vO];rfl
 have z1:w1.cell? (Z w 1)=some (.slice none 0 0):=by rw[Φ vO];rfl
 have z2:w1.cell? (Z w 2)=some (.slice none 0 0):=by rw[Φ vO];rfl
 have z3:w1.cell? (Z w 3)=some (.int .i64 0):=by rw[Φ vO];rfl
 have z4:w1.cell? (Z w 4)=some (.int .i64 0):=by rw[Φ vO];rfl
 have f0:w1.frozen? (Z w 0)=false:=Ψ vO
 have f1:w1.frozen? (Z w 1)=false:=Ψ vO
 have f2:w1.frozen? (Z w 2)=false:=Ψ vO
 have f3:w1.frozen? (Z w 3)=false:=Ψ vO
 have f4:w1.frozen? (Z w 4)=false:=Ψ vO
 have HP:=Y (I lU (I fB (I Co (I k5 (I vO (show w.heap.size<=W0 by omega))))))
 have Be:decide ((0:Int)<=(c:Int))=true:=τ;have wP:decide ((c:Int)<8)=true:=τ;clear h1c Dm lU fB Co k5 vO bw fW hRb dj;go_wp2_with fail;refine au λWf bG=>?_;refine bodyPost_ret (v:=.agg #[(1:Int),.slice Av nv cv,(),(0:Int),(0:Int)]) (by rw[bG];simp[results,Tryz.results13,go_sem,z0,z1,z2,z3,z4,lB];try rfl) rfl ?_
 have hm:w.heap.size∈[w.heap.size]:=List.mem_singleton.2 rfl;have aV:ab [w.heap.size] [] w1 Wf:=by rw[bG];exact ((((rk hm).tr (rk hm)).tr (rk hm)).tr (rk hm)).tr (rk hm)
 have ju:Below w w1 Wf:=aV.below (λk hk=>by rw[List.mem_singleton]at hk;omega) U
 have hf:=HP.2.2.2.1;have h0:=HR.2.2.1;refine ⟨rs,_,HP.1,rfl,λW hk=>?_,HP.2.2.1.qk ju j7,⟨ju.os.t (hf.os.t h0.os),ju.tape.t (hf.tape.t h0.tape),ju.output.t (hf.output.t h0.output),by have:=h0.size;have:=hf.size;have:=ju.size;omega,λk hk bf=>(ju.block k hk).t ((hf.block k (Nat.lt_of_lt_of_le hk h0.size) bf).t (h0.block k hk))⟩⟩
 have AF:ab (List.range (w+1)) [] w1 Wf:=⟨aV.os,aV.tape,aV.output,aV.size,λk hk hn=>aV.aq k hk (λe=>hn (by rw[List.mem_singleton]at e;simp;omega)),λk hk=>by cases hk⟩
 have eh:ab (List.range (w+1)) [] Wf W:=⟨hk.os,hk.tape,hk.output,hk.size,λk h1 hn=>hk.aq k h1 (λe=>hn (by simp at e|-;omega)),λk hk=>by cases hk⟩
 have Dm:=HNV.o;subst Dm;exact HP.2.1 W ((Cn hf U).tr (AF.tr eh))
theorem I6{w:World}{B k n:Nat}{e:TypeId}{v:Value}{xs:List Value}(h:w.ownsRow B e k v n xs):∀g,v.ownBlock=some g->∃cs m,w.heap[g]?=some (.cells cs e m):=λg hg=>by
 rcases h.2 with ⟨h1,-⟩|⟨g',cap,cur,h1,-,uH,-⟩
 .subst h1;simp[Value.ownBlock]at hg
 .subst h1;simp[Value.ownBlock]at hg;subst hg;exact ⟨_,_,uH⟩
def EK(B:Nat)(x:Value)(w':World):Prop:=∃g v,x=.agg #[(4:Int),(),.slice (Z g 0) 1 1,(2:Int),(2:Int)]/\B<=g/\w'.heap[g]?=some (.cells #[.int .i64 1,v,.slice none 0 0,.int .i64 0,.int .i64 0] 26)/\OR 72 2 Y8 B v [(97,98)] w'
theorem EK.keep{B:Nat}{x:Value}{w w':World}{L L':List Nat}(h:EK B x w)(hk:ab L L' w w')(hL:∀k∈L,k<B):EK B x w':=by
 obtain ⟨g,v,h1,h2,h3,h4⟩:=h;exact ⟨g,v,h1,h2,(hk.aq g (γ h3).1 λhm=>by have:=hL g hm;omega).t h3,OR.keep h4 λq hq=>hk.aq q (World.ownsRow.lt h4 q hq).2 λhm=>by have:=hL q hm;have:=(World.ownsRow.lt h4 q hq).1;omega⟩
theorem EK.mono{B B':Nat}{x:Value}{w:World}(h:EK B x w)(hB:B'<=B):EK B' x w:=by
 obtain ⟨g,v,h1,h2,h3,h4⟩:=h;exact ⟨g,v,h1,Nat.le_trans hB h2,h3,OR.mono h4 hB⟩
def TR(rb:Nat)(d:Int)(W:World)(c:Nat)(w':World):Prop:=xD rb W w'/\(c=0->k9 rb ⟨#[50,125]⟩ false d w')
def Ro(rb:Nat)(d:Int)(v1:Value)(W:World):Nat->Nat->Value->World->Prop
 |c,0,x,w=>x=.agg #[.int .i64 1,v1,.slice none 0 0,.int .i64 0,.int .i64 0]
 |c,1,x,w=>∃g,x=.slice (Z g 0) 1 1/\W.heap.size<=g/\g<w.heap.size/\w.heap[g]?=some (.cells #[.int .i64 1,v1,.slice none 0 0,.int .i64 0,.int .i64 0] 26)
 |c,2,x,w=>x=.pointer (Z rb 0)
 |c,3,x,w=>c=1->x=.int .i64 2/\k9 rb ⟨#[125]⟩ false d w
 |_,_,_,_=>True
theorem zT{w Wf:World}{b:Nat}{a0 a1 a2 a3 a4:Value}(h:Wf=((((w.setCell (Z b 0) a0).setCell (Z b 1) a1).setCell (Z b 2) a2).setCell (Z b 3) a3).setCell (Z b 4) a4):(∀k,k≠b->Wf.heap[k]?=w.heap[k]?)/\Wf.heap.size=w/\(Wf.os=w.os/\Wf.tape=w.tape/\Wf.output=w.output)/\
  ∀{o0 o1 o2 o3 o4:Value} {T:TypeId},w.heap[b]?=some (.cells #[o0,o1,o2,o3,o4] T (0,0))->Wf.heap[b]?=some (.cells #[a0,a1,a2,a3,a4] T (0,0)):=by
 subst h;refine ⟨λk hk=>?_,by simp[World.setCell],⟨rfl,rfl,rfl⟩,λ{o0 o1 o2 o3 o4 T} hb=>?_⟩
 .exact (Below.heap_setCell _ (Z b 4) _ k hk).t ((Below.heap_setCell _ (Z b 3) _ k hk).t ((Below.heap_setCell _ (Z b 2) _ k hk).t ((Below.heap_setCell _ (Z b 1) _ k hk).t (Below.heap_setCell _ (Z b 0) _ k hk))))
 .have:=aE (aE (aE (aE (aE hb 0 a0) 1 a1) 2 a2) 3 a3) 4 a4;simpa using this
theorem Rp(rb:Nat)(d:Int)(w:World)(h:k9 rb ⟨#[91,97,45,98,93,123,50,125]⟩ false d w):
  Calls Tryz.prog 120 #[.pointer (Z rb 0)] w λe w'=>∃x,e=.returned x/\EK w x w'/\k9 rb ⟨#[]⟩ false d w'/\xD rb w w':=by
 obtain ⟨-,-,hl⟩:=h.cells;have HR:=Y h;clear h;have bf:∀k,w.heap.size<=k->k∉[rb]:=λk hk hm=>by rw[List.mem_singleton]at hm;omega
 go_enter Tryz.func120,Tryz.ntmps120
 go_wp2_with fail;refine aJ λW0 cG=>?_;have hb0:Below w w W0:=by rw[cG];exact (D.alloc V _).alloc H _
 have hX:W0.heap[w.heap.size+1]?=some (.cells #[(0:Int),(),(),(0:Int),(0:Int)] 26):=by rw[cG];simpa using heap_alloc_new (w.alloc _) (.cells #[(0:Int),(),(),(0:Int),(0:Int)] 26)
 have hY:W0.heap[w.heap.size]?=some (.cells #[(0:Int),(),(),(0:Int),(0:Int)] 26):=by rw[cG,az _ _ _ H];exact heap_alloc_new w _
 have dY:W0.heap.size=w+2:=by rw[cG];simp
 have hT1:=fL rb _ ⟨#[91,97,45,98,93,123,50,125]⟩ ⟨#[40]⟩ false false d W0 (HR.later hb0) rfl rfl;have MZ:=Y hT1;have H0:=Y (I hb0 (I hX hY));clear cG hb0 hX hY hT1;refine MZ.mono ?_;rintro e w1 ⟨rfl,fD,bQ⟩;have K1:=Y (fL rb _ ⟨#[97,45,98,93,123,50,125]⟩ ⟨#[91]⟩ false true d w1 fD rfl rfl);have H1:=Y bQ;clear fD bQ;go_wp2_with fail;refine K1.mono ?_;rintro e w2 ⟨rfl,iX,bE⟩;have HT3:=Y (WE rb d w2 iX);have WG:=H1.tr bE;have H2:=Y WG;have cT:=WG.size;clear iX bE WG;go_wp2_with fail;refine HT3.mono ?_;rintro e w3 ⟨v1,rfl,Kl,ud,oy⟩;obtain ⟨A1,c1,rfl,-,-⟩:=ae (show w3.ownsRow _ _ _ _ _ _ from Kl);obtain ⟨n1,ml⟩:∃n,[((97:Nat),(98:Nat))].length=n:=⟨_,rfl⟩;rw[ml]at Kl|-;have M4:=H2.tr oy;have M1:=(M4.aq (w+1) U (bf _ U)).t H0.2.1;have GP:=(M4.aq w U (bf _ V)).t H0.2.2;obtain ⟨x0,x1,x2,x3,x4⟩:=aD M1;have fx:∀j,j<5->w3.frozen? (Z (w+1) j)=false:=λj _=>by simp[World.frozen?,M1]
 have YZ:=fx 0 O;have fx1:=fx 1 O;have fx2:=fx 2 O;have Y2:=fx 3 O;have fx4:=fx 4 O;have sQ:=M4.size;have lX3:w.heap.size+1<w3:=U;have H3:=Y (I Kl (I ud (I M4 (I M1 GP))));clear Kl ud oy M4 M1 GP fx ml;go_wp2_with fail;refine aJ λW4 Rk=>?_;obtain ⟨s1,s2,s3,s4⟩:=zT Rk;have hX4:=s4 H3.2.2.2.1;have hY4:=(s1 w U).t H3.2.2.2.2;have I3:=H3.2.1.keep (s1 rb U);have ho4:W4.ownsRow w2 72 2 (.slice A1 n1 c1) _ _:=ar H3.1 λg hg=>s1 g (by have:=(World.ownsRow.lt H3.1 g hg).1;omega)
 have HT5:=Y (fL rb _ ⟨#[50,125]⟩ ⟨#[123]⟩ false true d W4 I3 rfl rfl);have H4:=Y (I hX4 (I hY4 (I (show OR 72 2 Y8 w2 (.slice A1 n1 c1) [(97,98)] W4 from ho4) (I s1 (I s2 s3)))));clear Rk s1 s3 s4 hX4 hY4 I3 ho4 x0 x1 x2 x3 x4 YZ fx1 fx2 Y2 fx4;refine HT5.mono ?_;rintro e W ⟨rfl,JT,L7⟩;have hXW:=(L7.aq (w+1) U (bf _ U)).t H4.1;obtain ⟨m0,m1,m2,m3,m4⟩:=aD hXW;have jc:=L7.size;have lX:w.heap.size+1<W:=U;have nX:=bf (w+1) U;have dN:TR rb d W 0 W.drew:=⟨⟨rfl,rfl,rfl,V,λ_ _ _=>rfl,λ_ h=>.inl h⟩,λ_=>JT⟩;have H5:=Y (I L7 hXW);clear JT L7 hXW;go_wp2_with fail;refine ay 4 [3] (Ro rb d (.slice A1 n1 c1) W) (λc w'=>TR rb d W c w') R R R R R R O dN ?_ ?_
 .simp only[ck,ct];refine aa.pure O ?_ (aa.gp O ?_ (aa.pure O ?_ (aa.jg 0 rfl ?_ (aa.nil))))
  all_goals first | (intro v wz c bX hS hE K hK;simp only[ah,Act.put,dk,dm,dn,Nat.zero_add,Nat.reduceAdd,ck,ct]at hK|-) | (intro v wz hS hE K hK;simp only[ah,Act.put,dk,dm,dn,Nat.zero_add,Nat.reduceAdd,ck,ct]at hK|-)
  .have y0:=(χ (w+1) 0 (hS.1.aq _ lX nX)).t m0;have y1:=(χ (w+1) 1 (hS.1.aq _ lX nX)).t m1;have y2:=(χ (w+1) 2 (hS.1.aq _ lX nX)).t m2;have y3:=(χ (w+1) 3 (hS.1.aq _ lX nX)).t m3;have y4:=(χ (w+1) 4 (hS.1.aq _ lX nX)).t m4;have l1:w.heap.size+1<wz:=by have:=hS.1.size;omega
   exact ζ
  .have e0:v 0=_:=hE.1 rfl;rw[e0]at hK|-;have bw:Below wz wz (wz.alloc (.cells #[(1:Int),.slice A1 n1 c1,(),(0:Int),(0:Int)] 26)):=D.alloc V _;have jc:=hS.1.size;have bQ:xD rb W (wz.alloc (.cells #[(1:Int),.slice A1 n1 c1,(),(0:Int),(0:Int)] 26)):=hS.1.tr (o8 bw);have fD:c=0->k9 rb ⟨#[50,125]⟩ false d (wz.alloc (.cells #[(1:Int),.slice A1 n1 c1,(),(0:Int),(0:Int)] 26)):=λh=>(hS.2 h).later bw;have HX:=Y (I bQ fD);have iZ:=Y bw;clear hS hE bX bw bQ fD;go_wp2_with fail;refine hK.out _ _ (λj z hj h=>?_) HX.o ⟨wz.heap.size,rfl,jc,H,by simpa using heap_alloc_new wz (.cells #[(1:Int),.slice A1 n1 c1,(),(0:Int),(0:Int)] 26)⟩
   match j with
   |0|2=>exact h
   |1=>exact absurd rfl hj
   |3=>exact λhc=>⟨(h hc).1,(h hc).2.later iZ.o⟩
   |_+4=>exact trivial
  .exact ζ
  .have e2:v 2=_:=hE.1 rfl;rw[e2]at hK|-;have aG:=MX rb d wz (hS.2 rfl);have HC:=Y aG;have HX:=Y hS;clear hS hE aG;go_wp2_with fail;refine HC.mono ?_;rintro e wy ⟨rfl,hr,hk⟩;have HP:=Y (I hr hk);clear hr hk;go_wp2_with fail;refine hK.out _ _ (λj z hj h=>?_) ⟨HX.1.tr HP.2,λh=>by cases h⟩ (λ_=>⟨rfl,HP.1⟩)
   match j with
   |0|2=>exact h
   |1=>
    obtain ⟨g,e,h1,h2,h3⟩:=h;have JT:=HX.1.size;exact ⟨g,e,h1,Nat.lt_of_lt_of_le h2 HP.2.size,(HP.2.aq g h2 (by rw[List.mem_singleton];omega)).t h3⟩
   |3=>exact absurd rfl hj
   |_+4=>exact trivial
 .intro v wz hS hF;have e0:v 0=_:=hF 0 O;have e2:v 2=_:=hF 2 O;have E1:=hF 1 O;have E3:=hF 3 O;simp only[ah,Act.put,dk,dm,dn,Nat.zero_add,Nat.reduceAdd,ck,ct,List.drop_succ_cons,List.drop_zero,e0,e2];clear hF e0 e2;obtain ⟨g1,e1',bg,dZ,iF⟩:=E1;obtain ⟨e3',Uv⟩:=E3 rfl;rw[e1',e3'];have pR:=hS.1;have hXz:=(pR.aq (w+1) lX nX).t H5.2;have hYW:=(H5.1.aq w U (bf _ V)).t H4.2.1;have hYz:=(pR.aq w U (bf _ V)).t hYW;obtain ⟨x0,x1,x2,x3,x4⟩:=aD hXz;have fx:∀j,j<5->wz.frozen? (Z (w+1) j)=false:=λj _=>by simp[World.frozen?,hXz]
  have YZ:=fx 0 O;have fx1:=fx 1 O;have fx2:=fx 2 O;have Y2:=fx 3 O;have fx4:=fx 4 O;have iM:=pR.size;have lXz:w.heap.size+1<wz:=U;have ho5:OR 72 2 Y8 (w+1) (.slice A1 n1 c1) [(97,98)] wz:=by
   have YJ:=H4.2.2.1;have h1:=OR.keep YJ (w1:=W) λq hq=>H5.1.aq q (World.ownsRow.lt YJ q hq).2 (bf _ (by have:=(World.ownsRow.lt YJ q hq).1;omega))
   have h2:=OR.keep h1 (w1:=wz) λq hq=>pR.aq q (World.ownsRow.lt h1 q hq).2 (bf _ (by have:=(World.ownsRow.lt h1 q hq).1;omega))
   exact OR.mono h2 U
  have H6:=Y (I pR (I hXz (I hYz (I ho5 (I Uv iF)))));clear hS pR hXz hYW hYz fx ho5 Uv iF e1' e3' E3 m0 m1 m2 m3 m4;go_wp2_with fail;refine aJ λW8 Rq=>?_;obtain ⟨W7,El⟩:∃W7,W7=((((wz.setCell (Z (w+1) 0) (.int .i64 4)).setCell (Z (w+1) 1) ()).setCell (Z (w+1) 2) (.slice (Z g1 0) 1 1)).setCell (Z (w+1) 3) (.int .i64 2)).setCell (Z (w+1) 4) (.int .i64 0):=⟨_,rfl⟩;rw[<-El]at Rq;obtain ⟨s1,s7,s3,s4⟩:=zT El;have hX7:=s4 H6.2.1;have hX8:W8.heap[w.heap.size+1]?=some (.cells #[(4:Int),(),.slice (Z g1 0) 1 1,(2:Int),(2:Int)] 26):=by
   rw[Rq];have:=aE hX7 4 (.int .i64 2);simpa using this
  have t1:∀k,k≠w.heap.size+1->W8.heap[k]?=wz.heap[k]?:=λk hk=>by rw[Rq];exact (Below.heap_setCell _ (Z (w+1) 4) _ k hk).t (s1 k hk)
  have t2:W8.heap.size=wz:=by rw[Rq];simp[World.setCell];exact s7
  have t3:W8.os=wz.os/\W8.tape=wz.tape/\W8.output=wz.output:=by rw[Rq];exact s3
  have QU:=H6.2.2.2.2.1.keep (t1 rb U);have Pf:=(t1 w U).t H6.2.2.1;have O3:=OR.keep H6.2.2.2.1 (w1:=W8) λq hq=>t1 q (by
   intro e;obtain ⟨cs,md,h1⟩:=I6 (show wz.ownsRow _ _ _ _ _ _ from H6.2.2.2.1) q hq;rw[e,H6.2.1]at h1;injection h1 with h1;injection h1 with _ h1 _;exact absurd h1 O)
  have r7:=(t1 g1 U).t H6.2.2.2.2.2;have HT9:=Y (fL rb _ ⟨#[125]⟩ ⟨#[44]⟩ false false d W8 QU rfl rfl);have H8:=Y (I hX8 (I Pf (I O3 (I r7 (I t1 t3)))));clear El Rq s1 s3 s4 hX7 hX8 t1 t3 QU Pf O3 r7 x0 x1 x2 x3 x4 YZ fx1 fx2 Y2 fx4;refine HT9.mono ?_;rintro e w9 ⟨rfl,QV,pr⟩;have ajl:=Y (M5 rb _ ⟨#[]⟩ ⟨#[125]⟩ false d w9 QV rfl rfl);have H9:=Y pr;clear QV pr;go_wp2_with fail;refine ajl.mono ?_;rintro e YN ⟨rfl,Cz,acy⟩;have zS:=H9.tr acy;have hz8:=zS.size;have acz:=(zS.aq (w+1) U (bf _ U)).t H8.1;have WH:=(zS.aq w U (bf _ V)).t H8.2.1;obtain ⟨x0,x1,x2,x3,x4⟩:=aD acz;obtain ⟨y0,y1,y2,y3,y4⟩:=aD WH;have fy:∀j,j<5->YN.frozen? (Z w j)=false:=λj _=>by simp[World.frozen?,WH]
  have vl:=fy 0 O;have ug:=fy 1 O;have xp:=fy 2 O;have Kr:=fy 3 O;have Ks:=fy 4 O;have l10:w.heap.size+1<YN:=U;have ajm:w.heap.size<YN:=U;have H10:=Y (I Cz zS);clear Cz acy zS acz WH fy;go_wp2_with fail;refine au λWf bG=>?_;obtain ⟨u1,u2,u3,-⟩:=zT bG;refine bodyPost_ret (v:=.agg #[(4:Int),(),.slice (Z g1 0) 1 1,(2:Int),(2:Int)]) (by rw[bG];simp[results,Tryz.results120,go_sem,y0,y1,y2,y3,y4,ajm];try rfl) rfl ?_
  have jr:ab [rb,w.heap.size] [] YN Wf:=⟨u3.1,u3.2.1,u3.2.2,U,λk _ hn=>u1 k (λe=>hn (by simp[e])),λk hk=>by cases hk⟩
  have ajo:EK (w+1) (.agg #[(4:Int),(),.slice (Z g1 0) 1 1,(2:Int),(2:Int)]) W8:=⟨g1,.slice A1 n1 c1,rfl,U,H8.2.2.2.1,H8.2.2.1⟩;have ajp:=(ajo.keep H10.2 (λk hk=>by rw[List.mem_singleton]at hk;omega)).keep jr (λk hk=>by simp at hk;omega)
  have qB:=H4.2.2.2.1;have tV:=H4.2.2.2.2.2;have Co:=H8.2.2.2.2.1;have AD:=H8.2.2.2.2.2;have k1:=H3.2.2.1;have k2:=H5.1;have k3:=H6.1;have k4:=H10.2;have kb:=H0.1;refine ⟨_,rfl,ajp.mono U,H10.1.keep (u1 rb U),?_⟩;refine ⟨?_,?_,?_,U,λk hk hn=>?_,λk hk=>.inl hk⟩
  .rw[u3.1,k4.os,AD.1,k3.os,k2.os,tV.1,k1.os,kb.os]
  .rw[u3.2.1,k4.tape,AD.2.1,k3.tape,k2.tape,tV.2.1,k1.tape,kb.tape]
  .rw[u3.2.2,k4.output,AD.2.2,k3.output,k2.output,tV.2.2,k1.output,kb.output]
  .rw[u1 k U,k4.aq k U hn,Co k U,k3.aq k U hn,k2.aq k U hn,qB k U,k1.aq k U hn,kb.block k hk]
def GQ(rb:Nat)(d:Int)(w:World)(e:Ending)(w':World):Prop:=∃x,e=.returned x/\EK w x w'/\k9 rb ⟨#[]⟩ false d w'/\xD rb w w'
theorem M6(rb:Nat)(d:Int)(w:World)(h:k9 rb ⟨#[91,97,45,98,93,123,50,125]⟩ false d w):
  Calls Tryz.prog 102 #[.pointer (Z rb 0),.int .i64 2,.func (.func 120) #[.pointer (Z rb 0)] #[],.func (.func 121) #[.pointer (Z rb 0)] #[]] w (GQ rb d w):=by
 obtain ⟨-,-,hl⟩:=h.cells;have HR:=Y h;clear h;have bf:∀k,w.heap.size<=k->k∉[rb]:=λk hk hm=>by rw[List.mem_singleton]at hm;omega
 go_enter Tryz.func102,Tryz.ntmps102
 go_wp2_with fail;refine aJ λW0 cG=>?_;have hb0:Below w w W0:=by rw[cG];exact D.alloc V _
 have hY:W0.heap[w.heap.size]?=some (.cells #[(0:Int),(),(),(0:Int),(0:Int)] 26):=by rw[cG];exact heap_alloc_new w _
 have dY:W0.heap.size=w+1:=by rw[cG];simp
 have MZ:=Y (Rp rb d W0 (HR.later hb0));have H0:=Y (I hb0 hY);clear cG hb0 hY;refine MZ.mono ?_;rintro e w1 ⟨x,rfl,hit,fD,bQ⟩;obtain ⟨g1,v1,rfl,bg,dZ,iF⟩:=id hit;have dh:=bQ.size;have M7:=(bQ.aq w U (bf _ V)).t H0.2;have nz:Below w1 w1 (w1.alloc (.cells #[(4:Int),(),.slice (Z g1 0) 1 1,(2:Int),(2:Int)] 26)):=D.alloc V _;obtain ⟨⟨c0,c1,c2⟩,-,lr1⟩:=fD.cells;have H1:=Y (I hit (I fD (I bQ M7)));clear hit fD bQ M7 nz bg dZ iF;have lr2:rb<w1+1:=U;go_wp2_with fail;refine wp_loop_rounds 1 ?_;rw[rounds_succ];go_wp2_with fail;refine aJ λW2 ke=>?_;have aS:Below w1 w1 W2:=by rw[ke];exact (D.alloc V _).alloc H _
 have hK2:W2.heap[w1.heap.size]?=some (.cells #[(4:Int),(),.slice (Z g1 0) 1 1,(2:Int),(2:Int)] 26):=by rw[ke,az _ _ _ H];exact heap_alloc_new w1 _
 have Rr:W2.heap[w1.heap.size+1]?=some (.cells #[(2:Int),(),.slice (Z w1 0) 1 1,(0:Int),(0:Int)] 26):=by
  rw[ke];simpa using heap_alloc_new (w1.alloc (.cells #[(4:Int),(),.slice (Z g1 0) 1 1,(2:Int),(2:Int)] 26)) (.cells #[(2:Int),(),.slice (Z w1 0) 1 1,(0:Int),(0:Int)] 26)
 have cT:W2.heap.size=w1+2:=by rw[ke];simp
 have K1:=Y (M8 rb false d W2 (H1.2.1.later aS));have H2:=Y (I aS (I hK2 Rr));clear ke aS hK2 Rr c0 c1 c2;refine K1.mono ?_;rintro e w3 ⟨rfl,ud,oy⟩;have sQ:=oy.size;have Q8:=(oy.aq w1 U (bf _ U)).t H2.2.1;have hL3:=(oy.aq (w1+1) U (bf _ U)).t H2.2.2;have GP:=(oy.aq w U (bf _ V)).t ((H2.1.block w U).t H1.2.2.2);obtain ⟨k0,k1,k2,k3,k4⟩:=aD Q8;obtain ⟨l0,l1,l2,l3,l4⟩:=aD hL3;obtain ⟨y0,y1,y2,y3,y4⟩:=aD GP;have fy:∀j,j<5->w3.frozen? (Z w j)=false:=λj _=>by simp[World.frozen?,GP]
 have vl:=fy 0 O;have ug:=fy 1 O;have xp:=fy 2 O;have Kr:=fy 3 O;have Ks:=fy 4 O;have m1:w1.heap.size+1<w3:=U;have m2:w1.heap.size<w3:=U;have m3:w.heap.size<w3:=U;have H3:=Y (I ud oy);clear ud oy Q8 hL3 GP fy;go_wp2_with fail;refine au λWf bG=>?_;obtain ⟨u1,u2,u3,-⟩:=zT bG;refine bodyPost_ret (v:=.agg #[(4:Int),(),.slice (Z g1 0) 1 1,(2:Int),(2:Int)]) (by rw[bG];simp[results,Tryz.results102,go_sem,y0,y1,y2,y3,y4,m3];try rfl) rfl ?_
 have jr:ab [w.heap.size] [] w3 Wf:=⟨u3.1,u3.2.1,u3.2.2,U,λk _ hn=>u1 k (λe=>hn (by simp[e])),λk hk=>by cases hk⟩
 have hit:=(((H1.1.keep (ab.aj (fp:=[]) H2.1) (λk hk=>by cases hk)).keep H3.2 (λk hk=>by rw[List.mem_singleton]at hk;omega)).keep jr (λk hk=>by simp at hk;omega)).mono (show w.heap.size<=W0 by omega)
 have zU:=H1.2.2.1;have Rs:=H2.1;have Rt:=H3.2;have kb:=H0.1;refine ⟨_,rfl,hit,H3.1.keep (u1 rb U),?_,?_,?_,U,λk hk hn=>?_,λk hk=>.inl hk⟩
 .rw[u3.1,Rt.os,Rs.os,zU.os,kb.os]
 .rw[u3.2.1,Rt.tape,Rs.tape,zU.tape,kb.tape]
 .rw[u3.2.2,Rt.output,Rs.output,zU.output,kb.output]
 .rw[u1 k U,Rt.aq k U hn,Rs.block k U,zU.aq k U hn,kb.block k hk]
theorem WI(rb:Nat)(d:Int)(w:World)(h:k9 rb ⟨#[91,97,45,98,93,123,50,125]⟩ false d w):Calls Tryz.prog 103 #[.pointer (Z rb 0)] w (GQ rb d w):=by
 obtain ⟨-,-,hl⟩:=h.cells;have HR:=Y h;clear h;have bf:∀k,w.heap.size<=k->k∉[rb]:=λk hk hm=>by rw[List.mem_singleton]at hm;omega
 go_enter Tryz.func103,Tryz.ntmps103
 go_wp2_with fail;refine aJ λW0 cG=>?_;have hb0:Below w w W0:=by rw[cG];exact D.alloc V _
 have hY:W0.heap[w.heap.size]?=some (.cells #[(0:Int),(),(),(0:Int),(0:Int)] 26):=by rw[cG];exact heap_alloc_new w _
 have dY:W0.heap.size=w+1:=by rw[cG];simp
 have MZ:=Y (M6 rb d W0 (HR.later hb0));have H0:=Y (I hb0 hY);clear cG hb0 hY;refine MZ.mono ?_;rintro e w1 ⟨x,rfl,hit,fD,bQ⟩;obtain ⟨g1,v1,rfl,bg,dZ,iF⟩:=id hit;have dh:=bQ.size;have GP:=(bQ.aq w U (bf _ V)).t H0.2;obtain ⟨y0,y1,y2,y3,y4⟩:=aD GP;have fy:∀j,j<5->w1.frozen? (Z w j)=false:=λj _=>by simp[World.frozen?,GP]
 have vl:=fy 0 O;have ug:=fy 1 O;have xp:=fy 2 O;have Kr:=fy 3 O;have Ks:=fy 4 O;have m3:w.heap.size<w1:=U;have H1:=Y (I hit (I fD bQ));clear hit fD bQ GP fy bg dZ iF;go_wp2_with fail;refine au λWf bG=>?_;obtain ⟨u1,u2,u3,-⟩:=zT bG;refine bodyPost_ret (v:=.agg #[(4:Int),(),.slice (Z g1 0) 1 1,(2:Int),(2:Int)]) (by rw[bG];simp[results,Tryz.results103,go_sem,y0,y1,y2,y3,y4,m3];try rfl) rfl ?_
 have jr:ab [w.heap.size] [] w1 Wf:=⟨u3.1,u3.2.1,u3.2.2,U,λk _ hn=>u1 k (λe=>hn (by simp[e])),λk hk=>by cases hk⟩
 have hit:=(H1.1.keep jr (λk hk=>by simp at hk;omega)).mono (show w.heap.size<=W0 by omega)
 have zU:=H1.2.2;have kb:=H0.1;refine ⟨_,rfl,hit,H1.2.1.keep (u1 rb U),?_,?_,?_,U,λk hk hn=>?_,λk hk=>.inl hk⟩
 .rw[u3.1,zU.os,kb.os]
 .rw[u3.2.1,zU.tape,kb.tape]
 .rw[u3.2.2,zU.output,kb.output]
 .rw[u1 k U,zU.aq k U hn,kb.block k hk]
theorem M9(rb:Nat)(d:Int)(w:World)(bx:Nat)(iw:bx<w)(hb:w.cell? (Z bx 0)=some (.pointer (Z rb 0)))(OD:bx≠rb)(h:k9 rb ⟨#[91,97,45,98,93,123,50,125]⟩ false d w):
  Calls Tryz.prog 102 #[.pointer (Z rb 0),.int .i64 3,.func (.func 103) #[.pointer (Z rb 0)] #[],.func (.func 104) #[] #[.pointer (Z bx 0)]] w (GQ rb d w):=by
 obtain ⟨-,-,hl⟩:=h.cells;have HR:=Y h;have tX:=Y (I iw (I hb OD));clear h hb OD iw;have bf:∀k,w.heap.size<=k->k∉[rb]:=λk hk hm=>by rw[List.mem_singleton]at hm;omega
 go_enter Tryz.func102,Tryz.ntmps102
 go_wp2_with fail;refine aJ λW0 cG=>?_;have hb0:Below w w W0:=by rw[cG];exact D.alloc V _
 have hY:W0.heap[w.heap.size]?=some (.cells #[(0:Int),(),(),(0:Int),(0:Int)] 26):=by rw[cG];exact heap_alloc_new w _
 have dY:W0.heap.size=w+1:=by rw[cG];simp
 have MZ:=Y (WI rb d W0 (HR.later hb0));have H0:=Y (I hb0 hY);clear cG hb0 hY;refine MZ.mono ?_;rintro e w1 ⟨x,rfl,hit,fD,bQ⟩;obtain ⟨g1,v1,rfl,bg,dZ,iF⟩:=id hit;have dh:=bQ.size;have M7:=(bQ.aq w U (bf _ V)).t H0.2;have nz:Below w1 w1 (w1.alloc (.cells #[(4:Int),(),.slice (Z g1 0) 1 1,(2:Int),(2:Int)] 26)):=D.alloc V _;obtain ⟨⟨c0,c1,c2⟩,-,lr1⟩:=fD.cells;have H1:=Y (I hit (I fD (I bQ M7)));clear hit fD bQ M7 nz bg dZ iF;have lr2:rb<w1+1:=U;go_wp2_with fail;refine wp_loop_rounds 1 ?_;rw[rounds_succ];go_wp2_with fail;refine aJ λW2 ke=>?_;have aS:Below w1 w1 W2:=by rw[ke];exact (D.alloc V _).alloc H _
 have hK2:W2.heap[w1.heap.size]?=some (.cells #[(4:Int),(),.slice (Z g1 0) 1 1,(2:Int),(2:Int)] 26):=by rw[ke,az _ _ _ H];exact heap_alloc_new w1 _
 have Rr:W2.heap[w1.heap.size+1]?=some (.cells #[(3:Int),(),.slice (Z w1 0) 1 1,(0:Int),(0:Int)] 26):=by
  rw[ke];simpa using heap_alloc_new (w1.alloc (.cells #[(4:Int),(),.slice (Z g1 0) 1 1,(2:Int),(2:Int)] 26)) (.cells #[(3:Int),(),.slice (Z w1 0) 1 1,(0:Int),(0:Int)] 26)
 have cT:W2.heap.size=w1+2:=by rw[ke];simp
 have K1:=Y (CA rb bx ⟨#[]⟩ false d W2 (H1.2.1.later aS) ((aS.cl bx 0 (by have:=tX.1;show bx<w1;omega)).t ((χ bx 0 (H1.2.2.1.aq bx (by have:=tX.1;omega) (λhm=>tX.2.2 (List.mem_singleton.1 hm)))).t ((H0.1.cl bx 0 tX.1).t tX.2.1))) rfl rfl)
 have H2:=Y (I aS (I hK2 Rr));clear ke aS hK2 Rr c0 c1 c2;refine K1.mono ?_;rintro e w3 ⟨rfl,ud,oy⟩;have sQ:=oy.size;have Q8:=(oy.aq w1 U (bf _ U)).t H2.2.1;have hL3:=(oy.aq (w1+1) U (bf _ U)).t H2.2.2;have GP:=(oy.aq w U (bf _ V)).t ((H2.1.block w U).t H1.2.2.2);obtain ⟨k0,k1,k2,k3,k4⟩:=aD Q8;obtain ⟨l0,l1,l2,l3,l4⟩:=aD hL3;obtain ⟨y0,y1,y2,y3,y4⟩:=aD GP;have fy:∀j,j<5->w3.frozen? (Z w j)=false:=λj _=>by simp[World.frozen?,GP]
 have vl:=fy 0 O;have ug:=fy 1 O;have xp:=fy 2 O;have Kr:=fy 3 O;have Ks:=fy 4 O;have m1:w1.heap.size+1<w3:=U;have m2:w1.heap.size<w3:=U;have m3:w.heap.size<w3:=U;have H3:=Y (I ud oy);clear ud oy Q8 hL3 GP fy;go_wp2_with fail;refine au λWf bG=>?_;obtain ⟨u1,u2,u3,-⟩:=zT bG;refine bodyPost_ret (v:=.agg #[(4:Int),(),.slice (Z g1 0) 1 1,(2:Int),(2:Int)]) (by rw[bG];simp[results,Tryz.results102,go_sem,y0,y1,y2,y3,y4,m3];try rfl) rfl ?_
 have jr:ab [w.heap.size] [] w3 Wf:=⟨u3.1,u3.2.1,u3.2.2,U,λk _ hn=>u1 k (λe=>hn (by simp[e])),λk hk=>by cases hk⟩
 have hit:=(((H1.1.keep (ab.aj (fp:=[]) H2.1) (λk hk=>by cases hk)).keep H3.2 (λk hk=>by rw[List.mem_singleton]at hk;omega)).keep jr (λk hk=>by simp at hk;omega)).mono (show w.heap.size<=W0 by omega)
 have zU:=H1.2.2.1;have Rs:=H2.1;have Rt:=H3.2;have kb:=H0.1;refine ⟨_,rfl,hit,H3.1.keep (u1 rb U),?_,?_,?_,U,λk hk hn=>?_,λk hk=>.inl hk⟩
 .rw[u3.1,Rt.os,Rs.os,zU.os,kb.os]
 .rw[u3.2.1,Rt.tape,Rs.tape,zU.tape,kb.tape]
 .rw[u3.2.2,Rt.output,Rs.output,zU.output,kb.output]
 .rw[u1 k U,Rt.aq k U hn,Rs.block k U,zU.aq k U hn,kb.block k hk]
theorem I7(rb:Nat)(w:World)(h:k9 rb ⟨#[91,97,45,98,93,123,50,125]⟩ false 0 w):Calls Tryz.prog 77 #[.pointer (Z rb 0)] w (GQ rb 0 w):=by
 obtain ⟨⟨c0,c1,c2⟩,⟨f0,f1,f2⟩,hl⟩:=h.cells;have HR:=Y h;clear h;have bf:∀k,w.heap.size<=k->k∉[rb]:=λk hk hm=>by rw[List.mem_singleton]at hm;omega
 have l1:rb<w+1:=U;have l2:rb<w+1+1:=U;have n1:¬w.heap.size=rb:=U;have n2:¬rb=w.heap.size:=U
 go_enter Tryz.func77,Tryz.ntmps77
 go_wp2_with fail;refine aJ λW0 cG=>?_;obtain ⟨Wd,hWd⟩:∃W,W=w.setCell (Z rb 2) (.int .i64 1):=⟨_,rfl⟩;rw[<-hWd]at cG;have O9:Wd.heap.size=w:=by rw[hWd];simp[World.setCell]
 have hrd:k9 rb ⟨#[91,97,45,98,93,123,50,125]⟩ false 1 Wd:=by
  rw[hWd];have:=aE HR.o 2 (.int .i64 1);simpa [k9] using this
 have bU:xD rb w Wd:=by rw[hWd];exact rz
 have rO:Below Wd Wd W0:=by rw[cG];exact (D.alloc V _).alloc H _
 have dY:W0.heap.size=w+2:=by rw[cG];simp[O9]
 have hX:W0.heap[w.heap.size]?=some (.cells #[.pointer (Z rb 0)] 122):=by
  rw[cG,az _ _ _ (by simp[O9])]
  have:=heap_alloc_new Wd (.cells #[.pointer (Z rb 0)] 122);rwa [O9]at this
 have hY:W0.heap[w.heap.size+1]?=some (.cells #[(0:Int),(),(),(0:Int),(0:Int)] 26):=by
  rw[cG];have:=heap_alloc_new (Wd.alloc (.cells #[.pointer (Z rb 0)] 122)) (.cells #[(0:Int),(),(),(0:Int),(0:Int)] 26);simpa [O9] using this
 have MZ:=Y (M9 rb 1 W0 w U (by rw[Φ hX];rfl) U (hrd.later rO))
 have H0:=Y (I bU (I rO (I hX hY)));clear cG hWd hrd bU rO hX hY c0 c1 c2 f0 f1 f2;refine MZ.mono ?_;rintro e w1 ⟨x,rfl,hit,fD,bQ⟩;obtain ⟨g1,v1,rfl,bg,dZ,iF⟩:=id hit;have dh:=bQ.size;have uk:=(bQ.aq w U (bf _ V)).t H0.2.2.1;have M7:=(bQ.aq (w+1) U (bf _ U)).t H0.2.2.2;obtain ⟨⟨c0,c1,c2⟩,⟨f0,f1,f2⟩,lr1⟩:=fD.cells;have x0:w1.cell? (Z w 0)=some (.pointer (Z rb 0)):=by rw[Φ uk];rfl
 obtain ⟨y0,y1,y2,y3,y4⟩:=aD M7;have fy:∀j,j<5->w1.frozen? (Z (w+1) j)=false:=λj _=>by simp[World.frozen?,M7]
 have vl:=fy 0 O;have ug:=fy 1 O;have xp:=fy 2 O;have Kr:=fy 3 O;have Ks:=fy 4 O;have m1:w.heap.size<w1:=U;have m2:w.heap.size+1<w1:=U;have m3:w.heap.size<w1+1:=U;have m4:w.heap.size+1<w1+1:=U;have m5:rb<w1+1:=U;have n3:¬w.heap.size+1=rb:=U;have n4:¬rb=w.heap.size+1:=U;have n5:¬w1.heap.size=rb:=U;have n6:¬w1.heap.size=w+1:=U;have H1:=Y (I hit (I fD bQ));clear hit fD bQ uk M7 fy bg dZ iF;go_wp2_with fail;refine au λWf bG=>?_;obtain ⟨Wr,hWr⟩:∃W,W=w1.setCell (Z rb 2) (.int .i64 0):=⟨_,rfl⟩;rw[<-hWr]at bG;obtain ⟨W5,FN⟩:∃W,W=((((Wr.setCell (Z (w+1) 0) (.int .i64 4)).setCell (Z (w+1) 1) ()).setCell (Z (w+1) 2) (.slice (Z g1 0) 1 1)).setCell (Z (w+1) 3) (.int .i64 2)).setCell (Z (w+1) 4) (.int .i64 2):=⟨_,rfl⟩;rw[<-FN]at bG;obtain ⟨u1,u2,u3,u4⟩:=zT FN;have Ru:Wr.heap.size=w1:=by rw[hWr];simp[World.setCell]
 have nT:∀k,k≠rb->Wr.heap[k]?=w1.heap[k]?:=λk hk=>by rw[hWr];exact Below.heap_setCell _ _ _ _ hk
 have mj:Below W5 W5 Wf:=by rw[bG];exact D.alloc V _
 have wH:k9 rb ⟨#[]⟩ false 0 Wf:=by
  have h1:k9 rb ⟨#[]⟩ false 0 Wr:=by
   rw[hWr];have:=aE H1.2.1 2 (.int .i64 0);simpa [k9] using this
  exact (h1.keep (u1 rb U)).later mj
 have M7:w1.heap[w.heap.size+1]?=some (.cells #[(0:Int),(),(),(0:Int),(0:Int)] 26):=(H1.2.2.aq (w+1) U (bf _ U)).t H0.2.2.2;have hYf:Wf.heap[w.heap.size+1]?=some (.cells #[(4:Int),(),.slice (Z g1 0) 1 1,(2:Int),(2:Int)] 26):=(mj.block _ U).t (u4 ((nT (w+1) U).t M7));have hzf:=mj.size;have l9:w.heap.size+1<Wf:=U;obtain ⟨q0,q1,q2,q3,q4⟩:=aD hYf;refine bodyPost_ret (v:=.agg #[(4:Int),(),.slice (Z g1 0) 1 1,(2:Int),(2:Int)]) (by simp[results,Tryz.results77,go_sem,q0,q1,q2,q3,q4,l9];try rfl) rfl ?_
 have jr:ab [rb,w.heap.size+1] [] w1 Wf:=by
  have xL:Wr.os=w1.os/\Wr.tape=w1.tape/\Wr.output=w1.output:=by rw[hWr];exact ⟨rfl,rfl,rfl⟩
  exact ⟨mj.os.t (u3.1.t xL.1),mj.tape.t (u3.2.1.t xL.2.1),mj.output.t (u3.2.2.t xL.2.2),U,λk hk hn=>(mj.block k U).t ((u1 k (λe=>hn (by simp[e]))).t (nT k (λe=>hn (by simp[e])))),λk hk=>by cases hk⟩
 have hit:=(H1.1.keep jr (λk hk=>by simp at hk;omega)).mono (show w.heap.size<=W0 by omega)
 have zU:=H1.2.2;have kd:=H0.1;have kb:=H0.2.1;refine ⟨_,rfl,hit,wH,?_,?_,?_,U,λk hk hn=>?_,λk hk=>.inl hk⟩
 .rw[jr.os,zU.os,kb.os,kd.os]
 .rw[jr.tape,zU.tape,kb.tape,kd.tape]
 .rw[jr.output,zU.output,kb.output,kd.output]
 .rw[jr.aq k U (λhm=>by simp at hm;rcases hm with hm|hm;exact hn (by simp[hm]);omega),zU.aq k U hn,kb.block k U,kd.aq k hk hn]
end Go.Proofs.YthamegenljmgmaaGreatDoor
