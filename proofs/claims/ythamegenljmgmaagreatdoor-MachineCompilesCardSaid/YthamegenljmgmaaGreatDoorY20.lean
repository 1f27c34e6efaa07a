/- Walks. -/
import Derived.Test.YthamegenljmgmaaGreatDoorY15
import Derived.Test.YthamegenljmgmaaGreatDoorY16
import Derived.Test.YthamegenljmgmaaGreatDoorY19
import Derived.Test.YthamegenljmgmaaGreatDoorY12
import Derived.Test.YthamegenljmgmaaGreatDoorY13
import Derived.Test.YthamegenljmgmaaGreatDoorY10
import Derived.Test.YthamegenljmgmaaGreatDoorY09
import Derived.Laws.Rows
import Derived.Test.YthamegenljmgmaaGreatDoorY14
set_option maxRecDepth 100000
set_option maxHeartbeats 16000000
set_option linter.unusedVariables false
set_option linter.unusedSimpArgs false
namespace Go.Proofs.YthamegenljmgmaaGreatDoor
open Go.RowKit
def dM(n:Nat):List Value:=[.int .i64 (n:Int)]
theorem FH:p4 dM 1:=⟨O,λ_=>rfl,λx u hu=>by simp[dM]at hu;subst hu;rfl⟩
def yP(w:World)(v:Value)(l:List Nat):Prop:=∃A c,v=.slice A l.length c/\(l.length<=c/\c<=9223372036854775807)/\(l=[]\/∃g f,A=some ⟨g,f,none⟩/\g<w.heap.size/\∀i (h:i<l.length),w.cell? (Z g (f+i))=some (.int .u8 (l[i]:Int)))
theorem yP.later{w w':World}{v:Value}{l:List Nat}(h:yP w v l)(hb:Below w w w'):yP w' v l:=by
 obtain ⟨A,c,e,hc,h⟩:=h;refine ⟨A,c,e,hc,h.imp id ?_⟩;rintro ⟨g,f,h1,hg,ak⟩;exact ⟨g,f,h1,Nat.lt_of_lt_of_le hg hb.size,λi hi=>(hb.cl g (f+i) hg).t (ak i hi)⟩
def rR(l:List Nat)(w:World)(e:Ending)(w':World):Prop:=∃rv,e=.returned rv/\OR 3 1 dM w rv l w'/\Below w w w'
structure TW (w:World) (ve va v:Value) (o:List Nat) (wr:World):Prop where
 own:OR 3 1 dM (w+1) v o wr
 cW:Below w w wr
 Pj:w.heap.size+1<=wr
 box:wr.heap[w.heap.size]?=some (.cells #[ve,va] 35)
theorem TW.next{w wr w':World}{ve va v v':Value}{o o':List Nat}(h:TW w ve va v o wr)(ao:OR 3 1 dM (w+1) v' o' w')(hb:Below (w+1) wr w'):TW w ve va v' o' w':=
 ⟨ao,h.cW.t (hb.mono U),Nat.le_trans h.Pj hb.size,(hb.block _ U).t h.box⟩
theorem TW.later{w wr w':World}{ve va v:Value}{o:List Nat}(h:TW w ve va v o wr)(hb:Below wr wr w'):TW w ve va v o w':=
 h.next (h.own.later hb) (hb.mono h.Pj)
def RhI(m:Mc)(bs:List Nat)(awO:List Nat)(o:List Nat)(sx:Int)(k:Nat):Prop:=(sx=-1/\o=awO)\/∃s:Nat,sx=(s:Int)/\s<m.ed.length/\k<=bs.length/\o++kF m (bs.drop k) s k=awO
theorem Nx{m:Mc}{bs awO o o':List Nat}{s k:Nat}{b:Bool}(hv:jB m)(h:o++kF m (bs.drop k) s k=awO)(hb:(m.ac[s]?).getD false=b)(ho:o'=if b=true then o++[k] else o):
  (bs.length<=k->o'=awO)/\∀hk:k<bs.length,RhI m bs awO o' (TK m s bs[k]) (k+1):=by
 constructor
 .intro hk;rw[List.drop_eq_nil_of_le hk,kF,hb]at h;rw[ho,<-h]
  cases b <;> simp
 .intro hk;rw[List.drop_eq_getElem_cons hk,kF,hb,<-List.append_assoc]at h;have h2:o++(if b=true then [k] else [])=o':=by rw[ho]; cases b <;> simp
  rw[h2]at h;unfold RhI TK
  cases ht:bA (aU m s) bs[k] with
  |none=>
   rw[ht]at h;exact .inl ⟨rfl,by simpa using h⟩
  |some t=>
   rw[ht]at h;exact .inr ⟨t,rfl,hv.a6 ht,hk,h⟩
theorem Hb(v vb:Value)(m:Mc)(bs:List Nat)(i:Nat)(w:World)(hm:jb w v m)(hv:jB m)(eg:iE m)(h1:1<=m.ed.length)(hb:yP w vb bs)(j7:bs.length<=900000)(jl:∀b∈bs,b<256)(hi:i<=bs.length):
  Calls Tryz.prog 80 #[v,vb,.int .i64 (i:Int)] w (rR (kF m (bs.drop i) 0 i) w):=by
 obtain ⟨ve,va,rfl,he,ha⟩:=id hm;obtain ⟨Ae,ce,rfl,kG,tz⟩:=he.form;obtain ⟨Aa,ca,rfl,pT,yQ⟩:=ha.form;obtain ⟨Ab,cb,rfl,X6,X7⟩:=id hb;obtain ⟨n,hn⟩:=ν m.ed.length;have ej:m.ac.length=n:=by rw[hv.len,hn]
 obtain ⟨L,hL⟩:∃n,bs.length=n:=⟨_,rfl⟩;have Ph:=λ(s c:Nat) (W:World) (h:Below w w W) (hs:s<m.ed.length)=>IY _ m s c W (hm.later h) hv eg hs;have tS:=eg.n;obtain ⟨awO,hR⟩:=ν (kF m (bs.drop i) 0 i);rw[hn]at kG tS Ph;rw[ej]at pT Ph;rw[hL]at X6 j7 hi;have J0:=Y Ph;have HA:=Y ha;have HV:=Y hv;have HBC:=Y X7;have HN:=Y (I hn ej);have HL:=Y hL;have U2:Hid (RhI m bs awO [] 0 i):=.inr ⟨0,rfl,h1,by rw[hL];exact hi,hR⟩
 have cG:TW w (.slice Ae n ce) (.slice Aa n ca) () [] (w.alloc (.cells #[.slice Ae n ce,.slice Aa n ca] 35)):=⟨OR.iG _ _ _,D.alloc V _,H,heap_alloc_new w _⟩;have SN:=Y cG;obtain ⟨i3,BZ,mJ,bQ,bE⟩:=info_parts dF;have qA:rR (kF m (bs.drop i) 0 i) w=rR awO w:=by rw[hR]
 rw[qA,hn,ej,hL];clear Ph ha he hv X7 hn ej hL hR cG hm eg hb h1 qA
 go_enter Tryz.func80,Tryz.ntmps80
 go_wp2_with fail
 go_loopg [7,8,9] (L+1-i) (λq s7 s8 s9 wr=>∃(sx:Int) (k:Nat) (o:List Nat),s8=.int .i64 sx/\s9=.int .i64 (k:Int)/\o.length<=k/\k<=L+1/\q=L+1-k/\Hid (TW w (.slice Ae n ce) (.slice Aa n ca) s7 o wr)/\Hid (RhI m bs awO o sx k))
 case atStart=>exact ⟨0,i,[],rfl,rfl,H,U,rfl,SN,U2⟩
 case round=>
  obtain ⟨sx,k,o,rfl,rfl,xd,Xc,hq,HW,HI⟩:=hrel;have iw:=HW.box;obtain ⟨x0,x1⟩:wr.cell? (Z w 0)=some (.slice Ae n ce)/\wr.cell? (Z w 1)=some (.slice Aa n ca):=by
   constructor <;> (rw[Φ iw]; rfl)
  have Hj:=HW.Pj;have Ps:w.heap.size<wr:=U;obtain ⟨Ar,cr,rfl⟩:∃A c,u7=.slice A o.length c:=by
   obtain ⟨A,c,e,-⟩:=ae (show wr.ownsRow _ _ _ _ _ _ from HW.own);exact ⟨A,c,e⟩
  clear iw;by_cases Y3:sx=-1
  .have hd:decide ((0:Int)<=-1)=false:=O;have HR:Hid (o=awO):=by
    rcases HI.o with h|⟨s,h,-⟩
    .exact h.2
    .omega
   subst Y3;clear HI;go_wp2_with fail;go_ret;exact ⟨_,rfl,HR.o▸HW.own.mono U,HW.cW⟩
  .obtain ⟨s,ajx,eg,wV,hRR⟩:=HI.resolve_left (λh=>Y3 h.1);subst ajx;rw[HN.1]at eg;rw[HL.o]at wV;have ob:s<n:=eg;have PZ:decide (s<n)=true:=decide_eq_true ob;have hd:decide ((0:Int)<=(s:Int))=true:=τ;obtain ⟨g0,f0,rfl,-,oz,sF⟩:=HA.jL (k:=s) (by rw[HN.2];exact ob)
   obtain ⟨b,hb⟩:∃b,m.ac[s]'(by rw[HN.2];exact ob)=b:=⟨_,rfl⟩
   rw[hb]at sF;have Yh:(m.ac[s]?).getD false=b:=by rw[List.getElem?_eq_getElem (by rw[HN.2];exact ob),hb];rfl
   have acW:=(HW.cW.cl g0 (f0+s) oz).t sF;have bg:g0<wr:=by have:=HW.cW.size;omega
   have j8:=Y (λo'=>Nx (o':=o') HV.o hRR Yh);clear Y3 eg hRR Yh sF hb HI
   cases b with
   |true=>
    by_cases aV:k<L
    .have Zd:decide (k<L)=true:=decide_eq_true aV;have bf:decide (k=L)=false:=θ;have Xd:decide ((k:Int)=(L:Int))=false:=θ;have ajy:(k == L)=false:=ψ;have acX:((k:Int) == (L:Int))=false:=ψ;have ao:=HW.own;go_wp2_with (at_builtin;refine GZ FH Tryz.underlying22 BZ mJ bQ bE rfl O _ _ _ _ o k _ (w+1) rfl rfl rfl rfl rfl ao U U ?_;intro v1 w1 ai aM);have oo:=Y (HW.next ai aM);have HT:=Y (j8 (o++[k]) rfl);clear ao ai aM acW bg x0 x1 Hj Ps;have wV:k<bs.length:=by rw[HL.o];exact aV
     obtain ⟨g,ff,rfl,hg,bH⟩:=HBC.resolve_left (by intro e;rw[e]at wV;simp at wV)
     have Xe:=bH k wV;obtain ⟨c,hc⟩:=ν (bs[k]);rw[hc]at Xe;have v7:=HT.2 wV;rw[hc]at v7;have CE:=Y v7;have du:=oo.cW;have aM:=oo.box;have dh:=oo.Pj;have Be:∀d':bc w1 w1,d'.b8.cell? (Z w 0)=some (.slice Ae n ce):=λd'=>by
      rw[Φ ((d'.ag.block w U).t aM)];rfl
     have wP:∀d':bc w1 w1,d'.b8.cell? (Z w 1)=some (.slice (Z g0 f0) n ca):=λd'=>by
      rw[Φ ((d'.ag.block w U).t aM)];rfl
     have nw:∀d':bc w1 w1,w.heap.size<d'.b8.heap.size:=λd'=>by have:=d'.ag.size;omega
     have AN:∀d':bc w1 w1,d'.b8.cell? (Z g (ff+k))=some (.int .u8 (c:Int)):=λd'=>((du.t (d'.ag.mono du.size)).cl g (ff+k) hg).t Xe;have To:∀d':bc w1 w1,g<d'.b8.heap.size:=λd'=>by have:=d'.ag.size;have:=du.size;omega
     have aG:∀d':bc w1 w1,Calls Tryz.prog 107 #[.agg #[.slice Ae n ce,.slice (Z g0 f0) n ca],(s:Int),.int .u8 (c:Int)] d'.b8 λe w'=>e=.returned (.int .i64 (TK m s c))/\Below d'.b8.heap.size d'.b8 w':=λd'=>J0.o s c d'.b8 (du.t (d'.ag.mono du.size)) ob;obtain ⟨x,hx⟩:=ν (TK m s c);rw[hx]at aG CE;have Ny:=Y aG;clear Xe bH wV hc v7 du aM aG hx;refine aI (Below.refl w1 w1) R R ?_
     repeat (go_big_quiet_step ((go_at_call 107;exact Calls.lA V (Ny _))))
     refine wpQuiet_nil ?_;intro w2 cR;have eh:Below w1 w1 w2:=by obtain ⟨d9,rfl⟩:=cR;exact d9.ag
     have nA:=Y (oo.later eh);clear cR Be wP nw AN To eh;go_wp2_with fail
     go_roundg (L-k)
     case measure=>omega
     case rel=>exact ⟨x,k+1,o++[k],rfl,by go_num,by (try simp);omega,U,U,nA,CE⟩
    .obtain rfl:k=L:=U;have Zd:decide (k<k)=false:=θ;have bf:decide (k=k)=true:=decide_eq_true rfl;have Xd:decide ((k:Int)=(k:Int))=true:=decide_eq_true rfl;have ao:=HW.own;go_wp2_with (at_builtin;refine GZ FH Tryz.underlying22 BZ mJ bQ bE rfl O _ _ _ _ o k _ (w+1) rfl rfl rfl rfl rfl ao U U ?_;intro v1 w1 ai aM);have oo:=Y (HW.next ai aM);have HT:=Y (j8 (o++[k]) rfl);clear ao ai aM acW bg x0 x1;have HE:=Y (HT.1 (Nat.le_of_eq HL.o));go_ret;exact ⟨_,rfl,HE.o▸oo.own.mono U,oo.cW⟩
   |false=>
    have oo:=HW;have HT:=Y (j8 o rfl);by_cases aV:k<L
    .have Zd:decide (k<L)=true:=decide_eq_true aV;have bf:decide (k=L)=false:=θ;have Xd:decide ((k:Int)=(L:Int))=false:=θ;have ajy:(k == L)=false:=ψ;have acX:((k:Int) == (L:Int))=false:=ψ;have wV:k<bs.length:=by rw[HL.o];exact aV
     obtain ⟨g,ff,rfl,hg,bH⟩:=HBC.resolve_left (by intro e;rw[e]at wV;simp at wV)
     have Xe:=bH k wV;obtain ⟨c,hc⟩:=ν (bs[k]);rw[hc]at Xe;have v7:=HT.2 wV;rw[hc]at v7;have CE:=Y v7;have du:=oo.cW;have aM:=oo.box;have dh:=oo.Pj;have Be:∀d':bc wr wr,d'.b8.cell? (Z w 0)=some (.slice Ae n ce):=λd'=>by
      rw[Φ ((d'.ag.block w U).t aM)];rfl
     have wP:∀d':bc wr wr,d'.b8.cell? (Z w 1)=some (.slice (Z g0 f0) n ca):=λd'=>by
      rw[Φ ((d'.ag.block w U).t aM)];rfl
     have nw:∀d':bc wr wr,w.heap.size<d'.b8.heap.size:=λd'=>by have:=d'.ag.size;omega
     have AN:∀d':bc wr wr,d'.b8.cell? (Z g (ff+k))=some (.int .u8 (c:Int)):=λd'=>((du.t (d'.ag.mono du.size)).cl g (ff+k) hg).t Xe;have To:∀d':bc wr wr,g<d'.b8.heap.size:=λd'=>by have:=d'.ag.size;have:=du.size;omega
     have aG:∀d':bc wr wr,Calls Tryz.prog 107 #[.agg #[.slice Ae n ce,.slice (Z g0 f0) n ca],(s:Int),.int .u8 (c:Int)] d'.b8 λe w'=>e=.returned (.int .i64 (TK m s c))/\Below d'.b8.heap.size d'.b8 w':=λd'=>J0.o s c d'.b8 (du.t (d'.ag.mono du.size)) ob;obtain ⟨x,hx⟩:=ν (TK m s c);rw[hx]at aG CE;have Ny:=Y aG;clear Xe bH wV hc v7 du aM aG hx;go_wp2_with fail
     try exact absurd (show ((k:Int) == (L:Int))=true by assumption) (by rw[acX];decide)
     refine aI (Below.refl wr wr) R R ?_
     repeat (go_big_quiet_step ((go_at_call 107;exact Calls.lA V (Ny _))))
     refine wpQuiet_nil ?_;intro w2 cR;have eh:Below wr wr w2:=by obtain ⟨d9,rfl⟩:=cR;exact d9.ag
     have nA:=Y (oo.later eh);clear cR Be wP nw AN To eh;go_wp2_with fail
     go_roundg (L-k)
     case measure=>omega
     case rel=>exact ⟨x,k+1,o,rfl,by go_num,by (try simp);omega,U,U,nA,CE⟩
    .obtain rfl:k=L:=U;have Zd:decide (k<k)=false:=θ;have bf:decide (k=k)=true:=decide_eq_true rfl;have Xd:decide ((k:Int)=(k:Int))=true:=decide_eq_true rfl;have HE:=Y (HT.1 (Nat.le_of_eq HL.o));go_wp2_with fail;go_ret;exact ⟨_,rfl,HE.o▸oo.own.mono U,oo.cW⟩
def JL(w:World)(v:Value)(l:List Nat):Prop:=∃A c,v=.slice A l.length c/\(l.length<=c/\c<=9223372036854775807)/\((l=[]/\(A=none->c=0))\/∃g f,A=some ⟨g,f,none⟩/\g<w.heap.size/\∀i (h:i<l.length),w.cell? (Z g (f+i))=some (.int .i64 (l[i]:Int)))
theorem JL.iG(w:World):JL w () []:=⟨none,0,rfl,⟨V,O⟩,.inl ⟨rfl,λ_=>rfl⟩⟩
theorem JL.later{w w':World}{v:Value}{l:List Nat}(h:JL w v l)(hb:Below w w w'):JL w' v l:=by
 obtain ⟨A,c,e,hc,h⟩:=h;refine ⟨A,c,e,hc,h.imp id ?_⟩;rintro ⟨g,f,h1,hg,ak⟩;exact ⟨g,f,h1,Nat.lt_of_lt_of_le hg hb.size,λi hi=>(hb.cl g (f+i) hg).t (ak i hi)⟩
theorem JS{fp:List Nat}{v:Value}{A:Option Addr}{g f n c:Nat}(ho:aO fp v)(hv:v=.slice A n c)(hA:A=some ⟨g,f,none⟩):g∉fp:=ho g (by rw[hv,hA];rfl)
theorem JL.keep{fp fp':List Nat}{w w':World}{v:Value}{l:List Nat}(h:JL w v l)(ho:aO fp v)(hk:ab fp fp' w w')(hg:∀g,v.ownBlock=some g->g<w.heap.size):JL w' v l/\aO fp' v:=by
 obtain ⟨A,c,e,hc,h⟩:=h;refine ⟨⟨A,c,e,hc,h.imp id ?_⟩,λg hv hm=>(hk.new g hm).elim (ho g hv) λh2=>by have:=hg g hv;omega⟩
 rintro ⟨g,f,h1,jm,ak⟩;exact ⟨g,f,h1,Nat.lt_of_lt_of_le jm hk.size,λi hi=>(χ g (f+i) (hk.aq g jm (JS ho e h1))).t (ak i hi)⟩
theorem JL.eu{w:World}{B:Nat}{v:Value}{l:List Nat}(h:OR 3 1 dM B v l w):JL w v l/\∀g,v.ownBlock=some g->B<=g/\g<w.heap.size:=by
 obtain ⟨A,c,rfl,-,dt⟩:=h.cells FH;obtain ⟨Af,cf,e0,Bg,tY⟩:=ae (show w.ownsRow _ _ _ _ _ _ from h);injection e0 with _ _ e0;subst e0;refine ⟨⟨A,c,rfl,⟨Bg,tY⟩,dt.imp (λe=>⟨e,λhA=>?_⟩) ?_⟩,λg hg=>World.ownsRow.lt h g hg⟩
 .rcases h.2 with ⟨h1,h2⟩|⟨g,cap,cur,h1,-⟩
  .injection h1
  .injection h1 with h1;rw[hA]at h1;cases h1
 rintro ⟨g,rfl,-,hg,bH⟩;refine ⟨g,0,rfl,hg,λi hi=>?_⟩;have:=(bH i hi 0 O).1;rw[Nat.mul_one,Nat.add_zero]at this;rw[Nat.zero_add,this];rfl
def o9(s:Nat)(vs vf:Value)(rows:List Value):List Nat:=s::(aq vs++gZ vf rows)
structure wU (w0:World) (s:Nat) (b:Pb) (vs vf:Value) (rows sv:List Value) (w:World):Prop where
 nd:(o9 s vs vf rows).Nodup
 hs:w0<=s
 cs:w.heap[s]?=some (.cells #[vs,vf] 65)
 sets:w.ownsRow w0 23 1 vs b.sets.length sv
 tB:∀i (h:i<b.sets.length),∃v,sv[i]?=some v/\gD w0 v b.sets[i]/\ep b.sets[i]=true
 fol:RR 22 3 1 dM w0 vf b.fol rows w
 cW:Below w0 w0 w
def tO(w0:World)(s:Nat)(b:Pb)(fp:List Nat)(w:World):Prop:=∃vs vf rows sv,fp=o9 s vs vf rows/\wU w0 s b vs vf rows sv w
section
variable {w0 w w':World} {s:Nat} {b:Pb} {vs vf:Value} {rows sv:List Value} {fp:List Nat}
theorem wU.lt(h:wU w0 s b vs vf rows sv w):∀k∈o9 s vs vf rows,w0.heap.size<=k/\k<w.heap.size:=by
 intro k hk;unfold o9 at hk;rcases List.mem_cons.1 hk with rfl|hk
 .exact ⟨h.hs,(γ h.cs).1⟩
 .rcases List.mem_append.1 hk with hk|hk
  .exact h.sets.lt k (af.1 hk)
  .exact h.fol.lt k hk
theorem wU.same(h:wU w0 s b vs vf rows sv w)(hk:∀k∈o9 s vs vf rows,w'.heap[k]?=w.heap[k]?)(hb:Below w0 w0 w'):wU w0 s b vs vf rows sv w':=
 ⟨h.nd,h.hs,(hk s (by simp[o9])).t h.cs,ar h.sets λg hg=>hk g (by simp[o9,af,hg]),h.tB,h.fol.same λg hg=>hk g (List.mem_cons_of_mem _ (List.mem_append_right _ hg)),hb⟩
theorem tO.later(h:tO w0 s b fp w)(hb:Below w w w'):tO w0 s b fp w':=by
 obtain ⟨vs,vf,rows,sv,rfl,h⟩:=h;exact ⟨vs,vf,rows,sv,rfl,h.same (λk hk=>hb.block k (h.lt k hk).2) (h.cW.t (hb.mono h.cW.size))⟩
theorem tO.lt(h:tO w0 s b fp w):∀k∈fp,w0.heap.size<=k/\k<w.heap.size:=by
 obtain ⟨vs,vf,rows,sv,rfl,h⟩:=h;exact h.lt
theorem tO.cW(h:tO w0 s b fp w):Below w0 w0 w:=by
 obtain ⟨vs,vf,rows,sv,rfl,h⟩:=h;exact h.cW
theorem wU.DC{w1:World}(h:wU w0 s b vs vf rows sv w){p:Nat}(hp:p<b.fol.length)(l:List Nat){u u':Value}(hv:rows[p]?=some u)
  (ao:OR 3 1 dM w0 u' (b.fol[p]++l) w1) (hg:w.grownBy w1 u.ownBlock) (hf:u'.ownBlock=u.ownBlock\/∃g,u'.ownBlock=some g/\w.heap.size<=g) {gf cf:Nat} (OK:vf=.slice (Z gf 0) b.fol.length cf) :
  wU w0 s ⟨b.sets,b.fol.set p (b.fol[p]++l)⟩ vs vf (rows.set p u') sv (w1.setCell (Z gf p) u')/\ab (o9 s vs vf rows) (o9 s vs vf (rows.set p u')) w (w1.setCell (Z gf p) u'):=by
 obtain ⟨r1,k1⟩:=h.fol.add hp l hv ao hg hf OK;have aB:=h.lt;have aY:=h.nd;unfold o9 at aY;rw[List.nodup_cons,List.nodup_append]at aY;obtain ⟨n1,n2,n3,n4⟩:=aY;have jC:ab (o9 s vs vf rows) (o9 s vs vf (rows.set p u')) w (w1.setCell (Z gf p) u'):=by
  refine ⟨k1.os,k1.tape,k1.output,k1.size,λk hk hn=>k1.aq k hk λhm=>hn (List.mem_cons_of_mem _ (List.mem_append_right _ hm)),λk hk=>?_⟩;unfold o9 at hk|-;rcases List.mem_cons.1 hk with rfl|hk
  .exact .inl H
  .rcases List.mem_append.1 hk with hk|hk
   .exact .inl (List.mem_cons_of_mem _ (List.mem_append_left _ hk))
   .exact (k1.new k hk).imp (λh=>List.mem_cons_of_mem _ (List.mem_append_right _ h)) id
 have bI:∀g∈aq vs,g∉gZ vf rows:=λg hg hm=>n4 g hg g hm rfl;refine ⟨⟨?_,h.hs,(k1.aq s (aB s (by simp[o9])).2 λhm=>n1 (List.mem_append_right _ hm)).t h.cs,ar h.sets λg hg=>k1.aq g (h.sets.lt g hg).2 (bI g (af.2 hg)),h.tB,r1,h.cW.t (jC.below (λk hk=>(aB k hk).1) h.cW.size)⟩,jC⟩
 unfold o9;rw[List.nodup_cons,List.nodup_append];refine ⟨λhm=>?_,n2,r1.nd,λx hx y hy e=>?_⟩
 .rcases List.mem_append.1 hm with hm|hm
  .exact n1 (List.mem_append_left _ hm)
  .rcases k1.new s hm with hm|hm
   .exact n1 (List.mem_append_right _ hm)
   .have:=(aB s (by simp[o9])).2;omega
 .subst e;rcases k1.new x hy with hm|hm
  .exact bI x hx hm
  .have:=(aB x (by unfold o9;simp[hx])).2;omega
theorem wU.Ds(h:wU w0 s b vs vf rows sv w){AZ Ba rv:Value}{rs:List (Nat×Nat)}
  (bH:w'.heap[s]?=some (.cells #[AZ,Ba] 65)) (xL:w'.ownsRow w0 23 1 AZ (b.sets.length+1) (sv++[rv])) (Pt:w'.ownsRow w0 22 1 Ba (b.fol.length+1) (rows++[.slice none 0 0]))
  (Pu:aT AZ vs w) (Zo:aT Ba vf w) (bf:∀g,AZ.ownBlock=some g->Ba.ownBlock≠some g) (hk:ab (s::(aq vs++aq vf)) [] w w') (rJ:gD w0 rv rs/\ep rs=true) :
  wU w0 s ⟨b.sets++[rs],b.fol++[[]]⟩ AZ Ba (rows++[.slice none 0 0]) (sv++[rv]) w'/\ab (o9 s vs vf rows) (o9 s AZ Ba (rows++[.slice none 0 0])) w w':=by
 have aB:=h.lt;have aY:=h.nd;unfold o9 at aY;rw[List.nodup_cons,List.nodup_append]at aY;obtain ⟨n1,n2,n3,n4⟩:=aY;have n3':=n3;unfold gZ at n3';rw[List.nodup_append]at n3';obtain ⟨n5,n6,n7⟩:=n3';have eP:sv.length=b.sets.length:=by have:=h.sets.1;omega
 have ls:s<w:=(aB s (by simp[o9])).2
 have hR:∀g∈rows.flatMap aq,g<w.heap.size/\g∉s::(aq vs++aq vf):=λg hg=>by
  have hgR:g∈gZ vf rows:=List.mem_append_right _ hg;refine ⟨(h.fol.lt g hgR).2,λhm=>?_⟩;rcases List.mem_cons.1 hm with rfl|hm
  .exact n1 (List.mem_append_right _ hgR)
  .rcases List.mem_append.1 hm with hm|hm
   .exact n4 g hm g hgR rfl
   .exact n7 g hm g hg rfl
 have tF:=h.fol.push Pt (λg hg=>hk.aq g (hR g hg).1 (hR g hg).2) Zo;have jC:ab (o9 s vs vf rows) (o9 s AZ Ba (rows++[.slice none 0 0])) w w':=by
  refine ⟨hk.os,hk.tape,hk.output,hk.size,λk h1 h2=>hk.aq k h1 λhm=>h2 ?_,λk hm=>?_⟩
  .unfold o9 gZ;simp only[List.mem_cons,List.mem_append]at hm|-;rcases hm with hm|hm|hm
   .exact .inl hm
   .exact .inr (.inl hm)
   .exact .inr (.inr (.inl hm))
  .unfold o9 gZ at hm|-;rw[oE]at hm;simp only[List.mem_cons,List.mem_append]at hm|-;rcases hm with hm|hm|hm|hm
   .exact .inl (.inl hm)
   .exact (Pu.aq k hm).imp (λh=>.inr (.inl h)) id
   .exact (Zo.aq k hm).imp (λh=>.inr (.inr (.inl h))) id
   .exact .inl (.inr (.inr (.inr hm)))
 refine ⟨⟨?_,h.hs,bH,by simpa using xL,λi hi=>?_,tF,h.cW.t (jC.below (λk hk=>(aB k hk).1) h.cW.size)⟩,jC⟩
 .unfold o9;rw[List.nodup_cons,List.nodup_append];refine ⟨λhm=>?_,zA _,tF.nd,λx hx y hy e=>?_⟩
  .rcases List.mem_append.1 hm with hm|hm
   .rcases Pu.aq s hm with h1|h1
    .exact n1 (List.mem_append_left _ h1)
    .omega
   .unfold gZ at hm;rw[oE]at hm;rcases List.mem_append.1 hm with hm|hm
    .rcases Zo.aq s hm with h1|h1
     .exact n1 (List.mem_append_right _ (List.mem_append_left _ h1))
     .omega
    .exact n1 (List.mem_append_right _ (List.mem_append_right _ hm))
  .subst e;unfold gZ at hy;rw[oE]at hy;rcases List.mem_append.1 hy with hy|hy
   .exact bf x (af.1 hx) (af.1 hy)
   .rcases Pu.aq x hx with h1|h1
    .exact n4 x h1 x (List.mem_append_right _ hy) rfl
    .have:=(hR x hy).1;omega
 .by_cases ek:i<b.sets.length
  .obtain ⟨v,h1,h2⟩:=h.tB i ek;refine ⟨v,by rw[List.getElem?_append_left U];exact h1,?_⟩
   rw[List.getElem_append_left ek];exact h2
  .have nY:i=b.sets.length:=by rw[List.length_append]at hi;simp at hi;omega
   subst nY;refine ⟨rv,by rw[List.getElem?_append_right U,eP];simp,?_⟩
   rw[List.getElem_append_right V];simpa using rJ
end
theorem fj(l:List Nat):a8 dM l=l.map λ(n:Nat)=>Value.int .i64 (n:Int):=by
 unfold a8 dM
 induction l with
 |nil=>rfl
 |cons a r ih=>simp only[List.map_cons,List.flatten_cons,ih];rfl
theorem qn{w:World}{ty:TypeId}{v y:Value}{l r:List Nat}{B:Nat}(ao:OR 3 1 dM B v l w)(hy:JL w y r)(hl:l.length+r.length<=1000000000000)(hB:B<=w):
  ∃v' w',(Builtin.append_ #[22,22] ty #[v,y]).run Tryz.prog w=.ok v' w'/\OR 3 1 dM B v' (l++r) w'/\w.grownBy w' v.ownBlock/\(v'.ownBlock=v.ownBlock\/∃g,v'.ownBlock=some g/\w.heap.size<=g):=by
 obtain ⟨i,hi,hz,h1,h2⟩:=info_parts dF;obtain ⟨A,c,rfl,hc,dt⟩:=hy;have xC:∀u∈a8 dM r,u.oneCell'=true:=by
  rw[fj];intro u hu;obtain ⟨n,-,rfl⟩:=List.mem_map.1 hu
  rfl
 have key:∀ad:Addr,A=some ad->(∀j u,(a8 dM r)[j]?=some u->w.cell? (ad.add j)=some u)->∃v' w',(Builtin.append_ #[22,22] ty #[v,.slice A r.length c]).run Tryz.prog w=.ok v' w'/\OR 3 1 dM B v' (l++r) w'/\w.grownBy w' v.ownBlock/\(v'.ownBlock=v.ownBlock\/∃g,v'.ownBlock=some g/\w.heap.size<=g):=by
  rintro ad rfl ak;have jh:(a8 dM r).length=r.length*1:=by rw[fj];simp
  obtain ⟨v',w',hr,q2,q3,q4⟩:=run_append_own (P:=Tryz.prog) w B 22 ty 3 i (.int .i64 0) 1 8 Tryz.underlying22 hi hz h1 h2 rfl O v l.length _ ao ad r.length c _ jh ak xC (by unfold maxLen;omega) U hB
  have hf:=rV (P:=Tryz.prog) Tryz.underlying22 hi hz h1 h2 ao jh ak xC (by unfold maxLen;omega) U hr
  refine ⟨v',w',hr,?_,q3,hf⟩;show w'.ownsRow _ _ _ _ (l++r).length (a8 dM (l++r));rw[bV,List.length_append];exact q2
 rcases dt with ⟨rfl,hA⟩|⟨g,f,rfl,hg,ak⟩
 .cases A with
  |none=>
   rw[hA rfl];have hr:=run_append_owned_none (P:=Tryz.prog) (w:=w) B 22 ty 3 i 1 Tryz.underlying22 hi v l.length _ ao;exact ⟨v,w,hr,by rw[List.append_nil];exact ao,dQ _ _,.inl rfl⟩
  |some ad=>exact key ad rfl (λj u h=>by simp[a8]at h)
 .refine key _ rfl (λj u hj=>?_);rw[fj]at hj;obtain ⟨hU,rfl⟩:=List.getElem?_eq_some_iff.1 hj;rw[Addr.add_lit,ak j (by simpa using hU)]
  simp
def ZR(B:Nat)(v:Value)(w:World):Prop:=∃g,v=.slice (Z g 0) 0 0/\B<=g/\w.heap[g]?=some (.cells #[] 3)
theorem ZR.later{B:Nat}{v:Value}{w w':World}(h:ZR B v w)(hb:Below w w w'):ZR B v w':=by
 obtain ⟨g,e,h1,h2⟩:=h;exact ⟨g,e,h1,(hb.block g (γ h2).1).t h2⟩
theorem ZR.own{B:Nat}{v:Value}{w:World}(h:ZR B v w):OR 3 1 dM B v [] w:=by
 obtain ⟨g,rfl,h1,h2⟩:=h;exact ⟨rfl,.inr ⟨g,0,#[],rfl,h1,h2,V,Nat.zero_le _,rfl,rfl⟩⟩
theorem OR.cur{B:Nat}{v:Value}{l:List Nat}{w:World}{g:Nat}(h:OR 3 1 dM B v l w)(hg:v.ownBlock=some g):∃cur,w.heap[g]?=some (.cells cur 3 (0,0))/\l.length<=cur.size:=by
 rcases h.2 with ⟨h1,-⟩|⟨g',cap,cur,h1,-,h3,h4,-,h5,-⟩
 .rw[h1]at hg;cases hg
 .rw[h1]at hg;have:g'=g:=by injection hg
  subst this;exact ⟨cur,h3,U⟩
theorem EM{w:World}{ty:TypeId}{v y:Value}{r:List Nat}{B:Nat}(hz:ZR B v w)(hy:JL w y r)(hl:r.length<=1000000000000)(hB:B<=w):
  ∃v' w',(Builtin.append_ #[22,22] ty #[v,y]).run Tryz.prog w=.ok v' w'/\OR 3 1 dM B v' r w'/\Below w w w'/\(r≠[]->v'.ownBlock=some w.heap.size/\w'.heap.size=w+1)/\(r=[]->v'=v):=by
 obtain ⟨i,hi,dY,dh,cT⟩:=info_parts dF;obtain ⟨v',w',hr,ao,hg,hf⟩:=qn (ty:=ty) hz.own hy (by simpa using hl) hB
 rw[List.nil_append]at ao;have hzo:=hz.own;obtain ⟨g,rfl,h1,h2⟩:=hz;obtain ⟨A,c,rfl,hc,dt⟩:=hy;by_cases WU:r=[]
 .subst WU;have hw:w'=w/\v'=.slice (Z g 0) 0 0:=by
   cases A with
   |none=>
    have hA:c=0:=by
     rcases dt with ⟨-,hA⟩|⟨g',f,hA,-⟩
     .exact hA rfl
     .cases hA
    have h9:=run_append_owned_none (P:=Tryz.prog) (w:=w) B 22 ty 3 i 1 Tryz.underlying22 hi (.slice (Z g 0) 0 0) 0 [] hzo;rw[hA,show ([]:List Nat).length=0 from rfl,h9]at hr
    cases hr;exact ⟨rfl,rfl⟩
   |some ad=>
    have h9:=run_append_room (P:=Tryz.prog) w 22 ty 3 i Tryz.underlying22 hi g 0 0 #[] h2 ad 0 c [] H (λj u h=>by simp at h) (λu h=>by cases h) V H
    rw[show ([]:List Nat).length=0 from rfl]at hr;rw[h9]at hr
    cases hr
    refine ⟨?_,rfl⟩;have hh:w.heap[g]?=some (Obj.cells #[] 3):=h2;obtain ⟨hl9,Vp⟩:=Array.getElem?_eq_some_iff.1 hh
    cases w
    simp only[World.setRow,World.mk.injEq,and_true,true_and]at *;apply Array.ext
    .simp
    .intro k q1 q2;rw[Array.getElem_modify];split
     .rename_i e;subst e;rw[Vp];simp
     .rfl
  refine ⟨v',w',hr,ao,hw.1▸D,λh=>absurd rfl h,λ_=>hw.2⟩
 .have iy:0<r.length:=List.length_pos_iff.2 WU;obtain ⟨g',f,rfl,uH,ak⟩:=dt.resolve_left (λh=>WU h.1);have h9:=run_append_grow (P:=Tryz.prog) w 22 ty 3 i (.int .i64 0) Tryz.underlying22 hi dY (Z g 0) 0 0 [] H (λj u h=>by simp at h) (Z g' f) r.length c (a8 dM r) (by rw[fj,dh];simp) (λj u hj=>by
   rw[fj]at hj;obtain ⟨hU,rfl⟩:=List.getElem?_eq_some_iff.1 hj;rw[Addr.add_lit,ak j (by simpa using hU)]
   simp) U U (growslice_fits U (by rw[cT];omega))
  rw[h9]at hr
  cases hr
  exact ⟨_,_,h9,ao,((D.drew).alloc V _),λ_=>⟨rfl,Array.size_push _⟩,λh=>absurd h WU⟩
theorem eD{w:World}{ops:Array Oper}{rest:List Oper}{o:Oper}{a:Act}{Q:Exit->Act->World->Prop}(s x:Operand)(v y:Value)(l r:List Nat)(B:Nat)(tE:o.guard=none)
  (ho:o.op=.call { callee:=.builtin .append,args:=#[s,x],argTypes:=#[22,22] }) (hs:a.eval s=v) (hx:a.eval x=y) (ao:OR 3 1 dM B v l w) (hy:JL w y r) (hl:l.length+r.length<=1000000000000) (hB:B<=w)
  (h:∀v' w1,OR 3 1 dM B v' (l++r) w1->w.grownBy w1 v.ownBlock->(v'.ownBlock=v.ownBlock\/∃g,v'.ownBlock=some g/\w.heap.size<=g)->wpList Tryz.prog ops Q rest (a.put o.dst v') w1):wpList Tryz.prog ops Q (o::rest) a w:=by
 refine wpList_plain tE λK hK=>?_;obtain ⟨v',w',hr,h2,h3,h4⟩:=qn (ty:=o.type) ao hy hl hB;unfold Oper.wp execOp;simp only[ho,resolve,invoke,builtin,Sem.run_bind,Sem.run_pure,Result.andThen_ok,List.map_toArray,List.map_cons,List.map_nil,hs,hx,hr];exact hK _ _ (h v' w' h2 h3 h4)
theorem kW{w:World}{ops:Array Oper}{rest:List Oper}{o:Oper}{a:Act}{Q:Exit->Act->World->Prop}(s x:Operand)(v y:Value)(r:List Nat)(B:Nat)(tE:o.guard=none)
  (ho:o.op=.call { callee:=.builtin .append,args:=#[s,x],argTypes:=#[22,22] }) (hs:a.eval s=v) (hx:a.eval x=y) (hz:ZR B v w) (hy:JL w y r) (hl:r.length<=1000000000000) (hB:B<=w)
  (h:∀v' w1,OR 3 1 dM B v' r w1->Below w w w1->(r≠[]->v'.ownBlock=some w.heap.size/\w1.heap.size=w+1)->(r=[]->v'=v)->wpList Tryz.prog ops Q rest (a.put o.dst v') w1):wpList Tryz.prog ops Q (o::rest) a w:=by
 refine wpList_plain tE λK hK=>?_;obtain ⟨v',w',hr,h2,h3,h4,h5⟩:=EM (ty:=o.type) hz hy hl hB;unfold Oper.wp execOp;simp only[ho,resolve,invoke,builtin,Sem.run_bind,Sem.run_pure,Result.andThen_ok,List.map_toArray,List.map_cons,List.map_nil,hs,hx,hr];exact hK _ _ (h v' w' h2 h3 h4 h5)
def JO(w:World)(fp:List Nat)(v:Value)(l:List Nat):Prop:=JL w v l/\∀g,v.ownBlock=some g->g∉fp/\g<w.heap.size
theorem JO.keep{fp fp':List Nat}{w w':World}{v:Value}{l:List Nat}(h:JO w fp v l)(hk:ab fp fp' w w'):JO w' fp' v l:=by
 obtain ⟨h1,h2⟩:=h;obtain ⟨q1,q2⟩:=h1.keep (λg hg=>(h2 g hg).1) hk (λg hg=>(h2 g hg).2);exact ⟨q1,λg hg=>⟨q2 g hg,Nat.lt_of_lt_of_le (h2 g hg).2 hk.size⟩⟩
theorem JO.later{fp:List Nat}{w w':World}{v:Value}{l:List Nat}(h:JO w fp v l)(hb:Below w w w'):JO w' fp v l:=h.keep (ab.aj hb)
theorem JO.form{fp:List Nat}{w:World}{v:Value}{l:List Nat}(h:JO w fp v l):∃A c,v=.slice A l.length c/\(l.length<=c/\c<=9223372036854775807):=by
 obtain ⟨⟨A,c,e,hc,-⟩,-⟩:=h;exact ⟨A,c,e,hc⟩
theorem wU.yT{w0:World}{s:Nat}{b:Pb}{vs vf:Value}{rows sv:List Value}{w:World}(h:wU w0 s b vs vf rows sv w)(hp:0<b.fol.length):∃gf cf,vf=.slice (Z gf 0) b.fol.length cf/\gf<w.heap.size/\b.fol.length<=cf/\cf<=9223372036854775807:=by
 obtain ⟨g,c,h1,h2,h3,-⟩:=h.fol.form hp;exact ⟨g,c,h1,h2,h3⟩
theorem wU.Dy{w0:World}{s:Nat}{b:Pb}{vs vf:Value}{rows sv:List Value}{w:World}(h:wU w0 s b vs vf rows sv w){q:Nat}{v:Value}(hv:rows[q]?=some v){gf:Nat}(hf:vf.ownBlock=some gf):v.ownBlock≠some gf:=by
 have aY:=h.fol.nd;unfold gZ at aY;rw[List.nodup_append]at aY;exact λe=>aY.2.2 gf (af.2 hf) gf (List.mem_flatMap.2 ⟨v,List.mem_of_getElem? hv,af.2 e⟩) rfl
theorem mg{w0:World}{s:Nat}{b:Pb}{fp lH:List Nat}{w wr W:World}(hb:tO w0 s b lH wr)(hk:ab fp lH w wr)(hw:w0.heap.size<=w)(ho:W.os=wr.os)(ht:W.tape=wr.tape)(hp:W.output=wr.output)(hz:wr.heap.size<=W)(hN:∀k,k<wr.heap.size->W.heap[k]?=wr.heap[k]?\/(w.heap.size<=k/\k∉lH)):tO w0 s b lH W/\ab fp lH w W:=by
 have aB:=hb.lt;have eI:=hb.cW;refine ⟨?_,⟨ho.t hk.os,ht.t hk.tape,hp.t hk.output,Nat.le_trans hk.size hz,λk h1 h2=>((hN k (Nat.lt_of_lt_of_le h1 hk.size)).resolve_right U).t (hk.aq k h1 h2),λk h=>hk.new k h⟩⟩;obtain ⟨vs,vf,rows,sv,rfl,h⟩:=hb;refine ⟨vs,vf,rows,sv,rfl,h.same (λk ec=>(hN k (aB k ec).2).resolve_right λhq=>hq.2 ec) ?_⟩;exact eI.t ⟨ho,ht,hp,hz,λk ec=>(hN k (by have:=eI.size;omega)).resolve_right λhq=>U⟩
def TT(B:Nat)(v1 v2:Value):Prop:=∀g,v1.ownBlock=some g\/v2.ownBlock=some g->B<=g
theorem TT.mono{B B':Nat}{v1 v2:Value}(h:TT B v1 v2)(hb:B'<=B):TT B' v1 v2:=λg hg=>Nat.le_trans hb (h g hg)
def aju(w0:World)(s:Nat)(b:Pb)(x:cI)(fp:List Nat)(w:World)(e:Ending)(w':World):Prop:=∃fp' v1 v2,e=.returned (.agg #[.bool x.emp,v1,v2])/\tO w0 s b fp' w'/\ab fp fp' w w'/\JO w' fp' v1 x.first/\JO w' fp' v2 x.last/\TT w v1 v2
theorem Rz{w:World}{cs:Array Value}{k:Nat}{cur:Array Value}(e:(w.alloc (.cells cs 67)).heap[k]?=some (.cells cur 3 (0,0)))(hk:w<=k):False:=by
 have hl:=(γ e).1;have bE:k=w.heap.size:=by simp at hl;omega
 subst bE;rw[heap_alloc_new]at e;injection e with e;injection e with _ e;exact absurd e O
def EO(w0 wr:World)(s gf nf cf g2 f2 lx cx k:Nat)(B1:Option Addr)(ly cy EP GU q m:Nat)(Ar:Option Addr)(cr:Nat)(xs:List Nat):Nat->Value->World->Prop
 |0,x,w=>x=.pointer (Z s 0)
 |1,x,w=>x=.pointer (Z s 0)
 |2,x,w=>x=.pointer (Z s 1)
 |3,x,w=>x=.slice (Z gf 0) nf cf
 |4,x,w=>x=.pointer (Z EP 2)
 |5,x,w=>x=.slice (Z g2 f2) lx cx
 |6,x,w=>x=.int .i64 (k:Int)
 |7,x,w=>x=.pointer (Z g2 (f2+k))
 |8,x,w=>x=.int .i64 (q:Int)
 |9,x,w=>x=.pointer (Z s 0)
 |10,x,w=>x=.pointer (Z s 0)
 |11,x,w=>x=.pointer (Z s 1)
 |12,x,w=>x=.slice (Z gf 0) nf cf
 |13,x,w=>x=.pointer (Z EP 2)
 |14,x,w=>x=.slice (Z g2 f2) lx cx
 |15,x,w=>x=.int .i64 (k:Int)
 |16,x,w=>x=.pointer (Z g2 (f2+k))
 |17,x,w=>x=.int .i64 (q:Int)
 |18,x,w=>x=.pointer (Z gf q)
 |19,x,w=>x=.slice Ar m cr
 |20,x,w=>x=.pointer (Z GU 1)
 |21,x,w=>x=.slice B1 ly cy
 |22,x,w=>∃A' c',x=.slice A' (m+ly) c'/\OR 3 1 dM w0 x xs w/\(x.ownBlock=(Value.slice Ar m cr).ownBlock\/∃g,x.ownBlock=some g/\wr.heap.size<=g)
 |23,x,w=>x=.pointer (Z gf q)
 |_,_,_=>True
theorem I8(w0 wr:World)(s gf nf cf g2 f2 lx cx k:Nat)(B1:Option Addr)(ly cy EP GU q m:Nat)(Ar:Option Addr)(cr:Nat)(xs:List Nat):∀(i j:Nat) (x:Value) (u u':World),j≠i->(i≠22->u'=u)->EO w0 wr s gf nf cf g2 f2 lx cx k B1 ly cy EP GU q m Ar cr xs j x u->EO w0 wr s gf nf cf g2 f2 lx cx k B1 ly cy EP GU q m Ar cr xs j x u':=by
 intro i j x u u' Hr hR h;by_cases hi:i=22
 .subst hi
  match j with
  |0|1|2|3|4|5|6|7|8|9|10|11|12|13|14|15|16|17|18|19|20|21|23=>exact h
  |22=>exact absurd rfl Hr
  |_+24=>exact trivial
 .rw[hR hi];exact h
def vV(wr:World)(EP GU:Nat)(ex ey:Bool)(A1:Option Addr)(lf Gj:Nat)(fx:List Nat)(B2:Option Addr)(ll TU:Nat)(ly:List Nat):Nat->Nat->Value->World->Prop
 |c,0,x,w=>x=.pointer (Z EP 0)
 |c,1,x,w=>x=.bool ex
 |c,2,x,w=>x=.bool ex
 |c,3,x,w=>(ex=true->x=.pointer (Z GU 0))
 |c,4,x,w=>(ex=true->x=.bool ey)
 |c,5,x,w=>x=.bool (ex && ey)
 |c,6,x,w=>ZR wr x w
 |c,7,x,w=>x=.pointer (Z EP 1)
 |c,8,x,w=>x=.slice A1 lf Gj
 |c,9,x,w=>OR 3 1 dM wr x fx w/\(fx=[]->ZR wr x w)/\(c=2->ly≠[]->∃k,(∀g,x.ownBlock=some g->g<k)/\∃cur,w.heap[k]?=some (.cells cur 3 (0,0)))
 |c,10,x,w=>ZR wr x w
 |c,11,x,w=>x=.pointer (Z GU 2)
 |c,12,x,w=>x=.slice B2 ll TU
 |c,13,x,w=>c=2/\OR 3 1 dM wr x ly w/\(ly=[]->ZR wr x w)/\(ly≠[]->∃g,x.ownBlock=some g/\∀k,g<k->∀cur,w.heap[k]?≠some (.cells cur 3 (0,0)))
 |c,14,x,w=>c=2/\∃A9 c9 rP rQ,x=.agg #[.bool (ex && ey),.slice A9 fx.length c9,.slice rP ly.length rQ]/\(OR 3 1 dM wr (.slice A9 fx.length c9) fx w/\OR 3 1 dM wr (.slice rP ly.length rQ) ly w)/\(fx=[]->ZR wr (.slice A9 fx.length c9) w)/\(fx≠[]->∀g,(Value.slice A9 fx.length c9).ownBlock=some g->(Value.slice rP ly.length rQ).ownBlock≠some g)
 |c,15,x,w=>∃g,x=.pointer (Z g 0)/\wr.heap.size<=g/\g<w.heap.size/\w.heap[g]?=some (.cells #[.bool false,(),()] 67)
 |_,_,_,_=>True
theorem tm(wr:World)(EP GU:Nat)(ex ey:Bool)(A1:Option Addr)(lf Gj:Nat)(fx:List Nat)(B2:Option Addr)(ll TU:Nat)(ly:List Nat){c c' j:Nat}{x:Value}{w w':World}(hb:Below w w w')(h9:j≠9)(RA:j≠13)(h:vV wr EP GU ex ey A1 lf Gj fx B2 ll TU ly c j x w):j=14\/vV wr EP GU ex ey A1 lf Gj fx B2 ll TU ly c' j x w':=by
 match j with
 |0|1|2|3|4|5|7|8|11|12=>exact .inr h
 |6|10=>exact .inr (ZR.later h hb)
 |9=>exact absurd rfl h9
 |13=>exact absurd rfl RA
 |14=>exact .inl rfl
 |15=>exact .inr (h.imp λg h=>⟨h.1,h.2.1,Nat.lt_of_lt_of_le h.2.2.1 hb.size,(hb.block g h.2.2.1).t h.2.2.2⟩)
 |_+16=>exact .inr trivial
theorem mU(wr:World)(EP GU:Nat)(ex ey:Bool)(A1:Option Addr)(lf Gj:Nat)(fx:List Nat)(B2:Option Addr)(ll TU:Nat)(ly:List Nat){c c' j:Nat}{x:Value}{w w':World}(hb:Below w w w')(h:vV wr EP GU ex ey A1 lf Gj fx B2 ll TU ly c j x w)(hc:(c<=1/\c'<=1)\/(c'=c/\∀k cur,w.heap.size<=k->w'.heap[k]?≠some (.cells cur 3 (0,0)))):vV wr EP GU ex ey A1 lf Gj fx B2 ll TU ly c' j x w':=by
 by_cases h9:j=9
 .subst h9;refine ⟨OR.later h.1 hb,λh2=>ZR.later (h.2.1 h2) hb,λh2 Ng=>?_⟩;obtain ⟨rfl,-⟩:=hc.resolve_left U;obtain ⟨k,k1,cur,k2⟩:=h.2.2 h2 Ng;exact ⟨k,k1,cur,(hb.block k (γ k2).1).t k2⟩
 by_cases RA:j=13
 .subst RA;obtain ⟨h2,h3,h5,h4⟩:=h;obtain ⟨rfl,hn⟩:=hc.resolve_left U;refine ⟨h2,OR.later h3 hb,λh=>ZR.later (h5 h) hb,λNg=>?_⟩;obtain ⟨g,g1,g2⟩:=h4 Ng;refine ⟨g,g1,λk hk cur e=>?_⟩;by_cases aV:k<w.heap.size
  .exact g2 k hk cur ((hb.block k aV).symm.t e)
  .exact hn k cur U e
 by_cases h14:j=14
 .subst h14;obtain ⟨h2,A9,c9,rP,rQ,e,⟨q1,q2⟩,q4,q3⟩:=h;obtain ⟨rfl,-⟩:=hc.resolve_left U;exact ⟨h2,A9,c9,rP,rQ,e,⟨OR.later q1 hb,OR.later q2 hb⟩,λh=>ZR.later (q4 h) hb,q3⟩
 exact (tm wr EP GU ex ey A1 lf Gj fx B2 ll TU ly hb h9 RA h).resolve_left h14
def Nh(e:Bool)(l r:List Nat):List Nat:=if e then l++r else l
def Ni(wr:World)(g8:Nat)(e:Bool)(lf ll:List Nat)(W:World):Prop:=∃A9 c9 rP rQ,W.heap[g8]?=some (.cells #[.bool e,.slice A9 lf.length c9,.slice rP ll.length rQ] 67)/\(JL W (.slice A9 lf.length c9) lf/\∀g,(Value.slice A9 lf.length c9).ownBlock=some g->wr.heap.size<=g/\g<W.heap.size)/\OR 3 1 dM wr (.slice rP ll.length rQ) ll W/\(lf≠[]->∀g,(Value.slice A9 lf.length c9).ownBlock=some g->(Value.slice rP ll.length rQ).ownBlock≠some g)/\Below wr wr W
theorem zX{w:World}{B g8:Nat}{v:Value}{l:List Nat}{cs:Array Value}(h:OR 3 1 dM B v l w)(h8:w.heap[g8]?=some (.cells cs 67 (0,0))):some g8≠v.ownBlock:=λe=>by
 obtain ⟨cur,q1,-⟩:=h.cur e.symm;rw[h8]at q1;injection q1 with q1;injection q1 with _ q1;exact absurd q1 O
theorem ER{w:World}{B g8 j:Nat}{v u:Value}{l:List Nat}{cs:Array Value}(h:OR 3 1 dM B v l w)(h8:w.heap[g8]?=some (.cells cs 67 (0,0))):OR 3 1 dM B v l (w.setCell (Z g8 j) u):=
 h.keep λk hk=>Below.heap_setCell _ _ _ _ λe=>zX h h8 (by rw[hk];exact congrArg some e.symm)
theorem Ni.of{wr w1:World}{g8:Nat}{e:Bool}{lf ll:List Nat}{A9 rP:Option Addr}{n c9 rQ:Nat}{x9:Value}(h:OR 3 1 dM wr (.slice A9 n c9) lf w1)(RA:OR 3 1 dM wr (.slice rP ll.length rQ) ll w1)(h8:w1.heap[g8]?=some (.cells #[.bool e,x9,.slice rP ll.length rQ] 67))
  (hd:lf≠[]->∀g,(Value.slice A9 n c9).ownBlock=some g->(Value.slice rP ll.length rQ).ownBlock≠some g) (hb:Below wr wr w1) (hg:wr<=g8):Ni wr g8 e lf ll (w1.setCell (Z g8 1) (.slice A9 n c9)):=by
 have hn:n=lf.length:=by
  obtain ⟨A,c,e,-,-⟩:=ae (show w1.ownsRow _ _ _ _ _ _ from h);injection e
 subst hn;refine ⟨A9,c9,rP,rQ,aE h8 1 _,JL.eu (ER h h8),ER RA h8,hd,hb.setCell hg _⟩
def GV(wr:World)(g8:Nat)(e:Bool)(lf ll:List Nat)(W:World):Prop:=∃A9 c9 rP rQ,W.heap[g8]?=some (.cells #[.bool e,.slice A9 lf.length c9,.slice rP ll.length rQ] 67)/\(JL W (.slice A9 lf.length c9) lf/\∀g,(Value.slice A9 lf.length c9).ownBlock=some g->wr.heap.size<=g/\g<W.heap.size)/\(JL W (.slice rP ll.length rQ) ll/\∀g,(Value.slice rP ll.length rQ).ownBlock=some g->wr.heap.size<=g/\g<W.heap.size)/\Below wr wr W
theorem GV.of{wr w1:World}{g8:Nat}{e:Bool}{lf ll:List Nat}{A9 rP A0:Option Addr}{n c9 rQ n0 c0:Nat}(h:JL w1 (.slice A9 lf.length c9) lf/\∀g,(Value.slice A9 lf.length c9).ownBlock=some g->wr.heap.size<=g/\g<w1.heap.size)(RA:OR 3 1 dM wr (.slice rP n rQ) ll w1)(h8:w1.heap[g8]?=some (.cells #[.bool e,.slice A9 lf.length c9,.slice A0 n0 c0] 67))(hb:Below wr wr w1)(hg:wr<=g8):GV wr g8 e lf ll (w1.setCell (Z g8 2) (.slice rP n rQ)):=by
 have hn:n=ll.length:=by
  obtain ⟨A,c,e,-,-⟩:=ae (show w1.ownsRow _ _ _ _ _ _ from RA);injection e
 subst hn;refine ⟨A9,c9,rP,rQ,aE h8 2 _,⟨?_,λg hg=>by simpa [World.setCell] using h.2 g hg⟩,JL.eu (ER RA h8),hb.setCell hg _⟩
 obtain ⟨A,c,e,hc,dt⟩:=h.1;refine ⟨A,c,e,hc,dt.imp id ?_⟩;rintro ⟨g,f,hA,jm,bH⟩;by_cases Gc:g=g8
 .subst Gc;by_cases D3:lf=[]
  .exact ⟨g,f,hA,by simpa [World.setCell] using jm,λi hi=>by rw[D3]at hi;exact absurd hi (Nat.not_lt_zero i)⟩
  .have h0:=bH 0 (List.length_pos_iff.2 D3);rw[Φ h8]at h0
   match f,h0 with
   |0,h0=>simp at h0
   |1,h0=>simp at h0
   |2,h0=>simp at h0
   |f+3,h0=>simp at h0
 .exact ⟨g,f,hA,by simpa [World.setCell] using jm,λi hi=>(χ g (f+i) (Below.heap_setCell _ _ _ _ Gc)).t (bH i hi)⟩
theorem tn(w0:World)(s:Nat)(b:Pb)(fp:List Nat)(w:World)(x y:cI)(PJ PK PL PM:Value)(K:Nat)(fY:tO w0 s b fp w)
  (fk:JO w fp PJ x.first) (gO:JO w fp PK x.last) (xR:JO w fp PL y.first) (rS:JO w fp PM y.last)
  (pU:∀p∈x.last,p<b.fol.length) (h1:x.first.length<=50000) (h2:x.last.length<=50000) (h3:y.first.length<=50000) (h4:y.last.length<=50000) (hK:∀l∈b.fol,l.length<=K) (rT:K<=10000000000) :
  Calls Tryz.prog 51 #[.pointer (Z s 0),.agg #[.bool x.emp,PJ,PK],.agg #[.bool y.emp,PL,PM]] w (aju w0 s (cO b x y) (iu x y) fp w):=by
 obtain ⟨A1,c1,rfl,kr⟩:=fk.form;obtain ⟨A2,c2,rfl,jD⟩:=gO.form;obtain ⟨B1,d1,rfl,wP⟩:=xR.form;obtain ⟨B2,d2,rfl,nw⟩:=rS.form;have aB:=fY.lt;have iw:Below w w (((w.alloc (.cells #[.bool x.emp,.slice A1 x.first.length c1,.slice A2 x.last.length c2] 67)).alloc (.cells #[.bool y.emp,.slice B1 y.first.length d1,.slice B2 y.last.length d2] 67)).alloc (.cells #[.bool false,(),()] 67)):=((D.alloc V _).alloc H _).alloc ψ _;have oh:=Y (I fk (I gO (I xR rS)));have Bk:=Y fY;have C8:=Y aB;have tX:=Y iw;have HK:=Y hK;have OG:=Y pU;clear fk gO xR rS fY aB iw hK pU;obtain ⟨i0,hi,dY,dh,cT⟩:=info_parts dF
 go_enter Tryz.func51,Tryz.ntmps51
 go_wp2_with fail;go_loopw [7] (λiv wr=>∃k de lH,k<=x.last.length/\iv=.int .i64 (k:Int)/\Hid (jd y.first (x.last.drop k) de=jd y.first x.last b.fol/\de.length=b.fol.length/\∀l∈de,l.length<=K+k*y.first.length)/\Hid (tO w0 s ⟨b.sets,de⟩ lH wr/\ab fp lH w wr/\∀q∈lH,q<w.heap.size\/w.heap.size+3<=q)/\Hid (wr.heap[w.heap.size]?=some (.cells #[.bool x.emp,.slice A1 x.first.length c1,.slice A2 x.last.length c2] 67)/\wr.heap[w.heap.size+1]?=some (.cells #[.bool y.emp,.slice B1 y.first.length d1,.slice B2 y.last.length d2] 67)/\wr.heap[w.heap.size+1+1]?=some (.cells #[.bool false,(),()] 67))/\w.heap.size+3<=wr) (λiv _=>x.last.length - (intOf iv).toNat)
 case atStart=>
  refine ⟨0,b.fol,fp,U,rfl,⟨by rw[List.drop_zero],rfl,λl hl=>by have:=HK l hl;omega⟩,⟨?_,ab.aj tX.o,λq hq=>.inl (C8 q hq).2⟩,⟨?_,?_,?_⟩,H⟩
  .exact Bk.later tX.o
  .rw[az _ _ _ ψ,az _ _ _ H];exact heap_alloc_new w _
  .rw[az _ _ _ H];simpa using heap_alloc_new (w.alloc _) _
  .simpa using heap_alloc_new ((w.alloc _).alloc _) _
 case round=>
  obtain ⟨k,de,lH,hk,rfl,HF,HB,HX,jn⟩:=hrel;have I9:w.heap.size<wr:=U;have Ja:w.heap.size+1<wr:=U;have acQ:w.heap.size+1+1<wr:=U;obtain ⟨p0,p1,p2⟩:=aK HX.1;obtain ⟨y0,y1,y2⟩:=aK HX.2.1;by_cases aB:k<x.last.length
  .have hd:decide ((k:Int)<(x.last.length:Int))=true:=τ;have dV:decide (k<x.last.length)=true:=decide_eq_true aB;have gO:=oh.2.1.keep HB.2.1;obtain ⟨A2',qt,Ye,-,Jb⟩:=gO.1;injection Ye with e1 e2 e3;subst e1 e3;obtain ⟨g2,f2,rfl,dZ,oi⟩:=Jb.resolve_left (λh=>by rw[h.1]at aB;simp at aB)
   obtain ⟨q,hq⟩:=ν (x.last[k]);have JV:=oi k aB;have rU:=OG x.last[k] (List.getElem_mem aB);rw[hq]at JV rU;have HQ:=Y hq;have acR:g2∉lH:=(gO.2 g2 rfl).1;clear hq oi gO Jb e2;obtain ⟨vs,vf,rows,sv,pV,jK⟩:=HB.1;have JW:=Y HF.2.1;obtain ⟨gf,cf,rfl,rK,Bg,PN⟩:=jK.yT (by have:=JW.o;show 0<de.length;omega)
   obtain ⟨v,hv,ao⟩:=jK.fol.row q (by have:=JW.o;show q<de.length;omega)
   obtain ⟨Ar,cr,rfl,KQ,Hs⟩:=ae (show wr.ownsRow _ _ _ _ _ _ from ao);have qB:wr.cell? (Z s 1)=some (.slice (Z gf 0) de.length cf):=by rw[Φ jK.cs];rfl
   have aC:=jK.fol.out.cellAt q (by have:=JW.o;rw[Nat.mul_one];show q<de.length;omega)
   rw[hv]at aC;have Up:=jK.fol.out.frozenAt q;have JX:q<de.length:=by have:=JW.o;omega
   have fw:jd y.first (x.last.drop (k+1)) (de.set q (de[q]++y.first))=jd y.first x.last b.fol:=by
    rw[<-HF.1,List.drop_eq_getElem_cons aB,HQ.o,jd,List.getElem?_eq_getElem JX];rfl
   have hlen:(de[q]).length<=K+k*y.first.length:=HF.2.2 _ (List.getElem_mem JX);have xS:k*y.first.length<=50000*50000:=Nat.mul_le_mul U h3;have sO:w0.heap.size<=wr:=jK.cW.size;have xR:=oh.2.2.1.keep HB.2.1;have Z5:=Y xR;have wK:=Y jK;have wL:=Y ao;have HV:=Y hv;have j8:=Y fw;have ZC:=Y pV;obtain ⟨m,hm⟩:=ν ((de[q]).length);rw[hm]at hlen KQ aC wL HV;have HM:=Y hm;have KR:(q:Int)<(de.length:Int):=U;have ES:(k:Int)<(x.last.length:Int):=U;have Us:de.length<=9223372036854775807:=Nat.le_trans Bg PN;have yU:=jK.lt;rw[<-pV]at yU;have eP:s<wr:=(γ jK.cs).1;have DA:∀z,some z=(Value.slice Ar m cr).ownBlock->z∈lH:=λz hz=>by
    rw[pV];unfold o9 gZ;refine List.mem_cons_of_mem _ (List.mem_append_right _ (List.mem_append_right _ (List.mem_flatMap.2 ⟨_,List.mem_of_getElem? HV.o,af.2 hz.symm⟩)))
   have nT:some s≠(Value.slice Ar m cr).ownBlock:=λe=>by
    have aY:=jK.nd;unfold o9 gZ at aY;rw[List.nodup_cons]at aY;exact aY.1 (List.mem_append_right _ (List.mem_append_right _ (List.mem_flatMap.2 ⟨_,List.mem_of_getElem? HV.o,af.2 e.symm⟩)))
   have kZ:some gf≠(Value.slice Ar m cr).ownBlock:=λe=>jK.Dy HV.o rfl e.symm;have WV:some w.heap.size≠(Value.slice Ar m cr).ownBlock:=λe=>by have:=HB.2.2 _ (DA _ e);omega
   have DB:some (w.heap.size+1)≠(Value.slice Ar m cr).ownBlock:=λe=>by have:=HB.2.2 _ (DA _ e);omega
   have QO:some g2≠(Value.slice Ar m cr).ownBlock:=λe=>acR (DA _ e);have dN:PI wr (Value.slice Ar m cr).ownBlock false wr.drew:=⟨⟨rfl,rfl,rfl,V,λ_ _ _=>rfl⟩,λ_=>D.drew⟩;have Ut:=Y (I nT (I kZ DB));clear jK ao hv fw hm pV yU DA xR acR;go_wp2_with fail;refine om 24 22 O (λi u u'=>i≠22->u'=u) (λc w'=>PI wr (Value.slice Ar m cr).ownBlock c w') (EO w0 wr s gf de.length cf g2 f2 x.last.length c2 k B1 y.first.length d1 w (w+1) q m Ar cr (de[q]++y.first)) R R R R O dN (I8 w0 wr s gf de.length cf g2 f2 x.last.length c2 k B1 y.first.length d1 w (w+1) q m Ar cr (de[q]++y.first)) ?_ ?_
   .simp only[ck,ct];refine ba.cons ?_ (ba.cons ?_ (ba.cons ?_ (ba.cons ?_ (ba.cons ?_ (ba.cons ?_ (ba.cons ?_ (ba.cons ?_ (ba.cons ?_ (ba.cons ?_ (ba.cons ?_ (ba.cons ?_ (ba.cons ?_ (ba.cons ?_ (ba.cons ?_ (ba.cons ?_ (ba.cons ?_ (ba.cons ?_ (ba.cons ?_ (ba.cons ?_ (ba.cons ?_ (ba.cons ?_ (ba.cons ?_ (ba.cons ?_ ba.nil)))))))))))))))))))))))
    all_goals (intro v wz c hc hS hE K hK;simp only[ah,Act.put,dk,dm,dn,Nat.zero_add,Nat.reduceAdd,ck,ct]at hK|-)
    .have HX:=Y hS;clear hS hE hc;go_wp2_with fail;exact hK.out _ _ HX.o (λ_=>rfl) rfl
    .have e0:v 0=_:=hE.1 rfl;rw[e0]at hK|-;have HX:=Y hS;clear hS hE hc;go_wp2_with fail;exact hK.out _ _ HX.o (λ_=>rfl) rfl
    .have e1:v 1=_:=hE.1 rfl;rw[e1]at hK|-;have HX:=Y hS;clear hS hE hc;go_wp2_with fail;exact hK.out _ _ HX.o (λ_=>rfl) rfl
    .have e2:v 2=_:=hE.1 rfl;rw[e2]at hK|-;have c1:=(χ s 1 (hS.1.block s eP nT)).t qB;have HX:=Y hS;clear hS hE hc;go_wp2_with fail;exact hK.out _ _ HX.o (λ_=>rfl) rfl
    .have HX:=Y hS;clear hS hE hc;go_wp2_with fail;exact hK.out _ _ HX.o (λ_=>rfl) rfl
    .have e4:v 4=_:=hE.1 rfl;rw[e4]at hK|-;have c1:=(χ w 2 (hS.1.block w I9 WV)).t p2;have HX:=Y hS;clear hS hE hc;go_wp2_with fail;exact hK.out _ _ HX.o (λ_=>rfl) rfl
    .have HX:=Y hS;clear hS hE hc;go_wp2_with fail;exact hK.out _ _ HX.o (λ_=>rfl) rfl
    .have e5:v 5=_:=hE.1 rfl;have e6:v 6=_:=hE.2.1 rfl;rw[e5,e6]at hK|-;have HX:=Y hS;clear hS hE hc;go_wp2_with fail;exact hK.out _ _ HX.o (λ_=>rfl) rfl
    .have e7:v 7=_:=hE.1 rfl;rw[e7]at hK|-;have c1:=(χ g2 (f2+k) (hS.1.block g2 dZ QO)).t JV;have HX:=Y hS;clear hS hE hc;go_wp2_with fail;exact hK.out _ _ HX.o (λ_=>rfl) rfl
    .have HX:=Y hS;clear hS hE hc;go_wp2_with fail;exact hK.out _ _ HX.o (λ_=>rfl) rfl
    .have e9:v 9=_:=hE.1 rfl;rw[e9]at hK|-;have HX:=Y hS;clear hS hE hc;go_wp2_with fail;exact hK.out _ _ HX.o (λ_=>rfl) rfl
    .have eR:v 10=_:=hE.1 rfl;rw[eR]at hK|-;have HX:=Y hS;clear hS hE hc;go_wp2_with fail;exact hK.out _ _ HX.o (λ_=>rfl) rfl
    .have fZ:v 11=_:=hE.1 rfl;rw[fZ]at hK|-;have c1:=(χ s 1 (hS.1.block s eP nT)).t qB;have HX:=Y hS;clear hS hE hc;go_wp2_with fail;exact hK.out _ _ HX.o (λ_=>rfl) rfl
    .have HX:=Y hS;clear hS hE hc;go_wp2_with fail;exact hK.out _ _ HX.o (λ_=>rfl) rfl
    .have iH:v 13=_:=hE.1 rfl;rw[iH]at hK|-;have c1:=(χ w 2 (hS.1.block w I9 WV)).t p2;have HX:=Y hS;clear hS hE hc;go_wp2_with fail;exact hK.out _ _ HX.o (λ_=>rfl) rfl
    .have HX:=Y hS;clear hS hE hc;go_wp2_with fail;exact hK.out _ _ HX.o (λ_=>rfl) rfl
    .have jw:v 14=_:=hE.1 rfl;have pF:v 15=_:=hE.2.1 rfl;rw[jw,pF]at hK|-;have HX:=Y hS;clear hS hE hc;go_wp2_with fail;exact hK.out _ _ HX.o (λ_=>rfl) rfl
    .have oV:v 16=_:=hE.1 rfl;rw[oV]at hK|-;have c1:=(χ g2 (f2+k) (hS.1.block g2 dZ QO)).t JV;have HX:=Y hS;clear hS hE hc;go_wp2_with fail;exact hK.out _ _ HX.o (λ_=>rfl) rfl
    .have fG:v 12=_:=hE.1 rfl;have nR:v 17=_:=hE.2.1 rfl;rw[fG,nR]at hK|-;have HX:=Y hS;clear hS hE hc;go_wp2_with fail;exact hK.out _ _ HX.o (λ_=>rfl) rfl
    .have B3:v 18=_:=hE.1 rfl;rw[B3]at hK|-;have c1:=(χ gf q (hS.1.block gf rK kZ)).t aC;have HX:=Y hS;clear hS hE hc;go_wp2_with fail;exact hK.out _ _ HX.o (λ_=>rfl) rfl
    .have HX:=Y hS;clear hS hE hc;go_wp2_with fail;exact hK.out _ _ HX.o (λ_=>rfl) rfl
    .have AP:v 20=_:=hE.1 rfl;rw[AP]at hK|-;have c1:=(χ (w+1) 1 (hS.1.block (w+1) Ja DB)).t y1;have HX:=Y hS;clear hS hE hc;go_wp2_with fail;exact hK.out _ _ HX.o (λ_=>rfl) rfl
    .have wS:v 19=_:=hE.1 rfl;have Kq:v 21=_:=hE.2.1 rfl;rw[wS,Kq]at hK|-;have Bg:=hc rfl;subst Bg;have bw:=hS.2 rfl;have xT:OR 3 1 dM w0 (.slice Ar m cr) de[q] wz:=wL.later bw;have hcy:=(Z5.later bw).1;have Da:w0.heap.size<=wz:=Nat.le_trans sO bw.size;have HZ:=Y bw;have nD:=Y hS;clear hS hE hc bw;go_wp2_with (at_builtin;refine eD _ _ _ _ de[q] y.first w0 rfl rfl rfl rfl xT hcy (by have:=HM.o;omega) Da ?_)
     intro v' w1 ai bg dv;have ajv:wr.grownBy w1 (Value.slice Ar m cr).ownBlock:=⟨bg.os.t nD.1.os,bg.tape.t nD.1.tape,bg.output.t nD.1.output,Nat.le_trans nD.1.size bg.size,λk hk hn=>(bg.block k (Nat.lt_of_lt_of_le hk nD.1.size) hn).t (nD.1.block k hk hn)⟩;obtain ⟨A',c',rfl,-,-⟩:=ae (show w1.ownsRow _ _ _ _ _ _ from ai);have jh:(de[q]++y.first).length=m+y.first.length:=by have:=HM.o;rw[List.length_append];omega
     rw[jh]at ai dv|-;exact hK.out _ _ ⟨ajv,λh=>by cases h⟩ (λh=>absurd rfl h) ⟨A',c',rfl,ai,dv.imp id (λ⟨g,h1,h2⟩=>⟨g,h1,Nat.le_trans HZ.size h2⟩)⟩
    .have e3:v 3=_:=hE.1 rfl;have e8:v 8=_:=hE.2.1 rfl;rw[e3,e8]at hK|-;have HX:=Y hS;clear hS hE hc;go_wp2_with fail;exact hK.out _ _ HX.o (λ_=>rfl) rfl
   .intro v wz hS hF;have e0:v 0=_:=hF 0 O;have e1:v 1=_:=hF 1 O;have e2:v 2=_:=hF 2 O;have e3:v 3=_:=hF 3 O;have e4:v 4=_:=hF 4 O;have e5:v 5=_:=hF 5 O;have e6:v 6=_:=hF 6 O;have e7:v 7=_:=hF 7 O;have e8:v 8=_:=hF 8 O;have e9:v 9=_:=hF 9 O;have eR:v 10=_:=hF 10 O;have fZ:v 11=_:=hF 11 O;have fG:v 12=_:=hF 12 O;have iH:v 13=_:=hF 13 O;have jw:v 14=_:=hF 14 O;have pF:v 15=_:=hF 15 O;have oV:v 16=_:=hF 16 O;have nR:v 17=_:=hF 17 O;have B3:v 18=_:=hF 18 O;have wS:v 19=_:=hF 19 O;have AP:v 20=_:=hF 20 O;have Kq:v 21=_:=hF 21 O;have YY:v 23=_:=hF 23 O;have E22:=hF 22 O;simp only[ah,Act.put,dk,dm,dn,Nat.zero_add,Nat.reduceAdd,ck,ct,List.drop_succ_cons,List.drop_zero,e0,e1,e2,e3,e4,e5,e6,e7,e8,e9,eR,fZ,fG,iH,jw,pF,oV,nR,B3,wS,AP,Kq,YY];clear hF e0 e1 e2 e3 e4 e5 e6 e7 e8 e9 eR fZ fG iH jw pF oV nR B3 wS AP Kq YY;obtain ⟨A',c',Ur,ai,dv⟩:=E22;rw[Ur]at ai dv|-;have PO:wz.cell? (Z gf q)=some (.slice Ar m cr):=(χ gf q (hS.1.block gf rK kZ)).t aC;have agc:wz.frozen? (Z gf q)=false:=(World.frozen?_of_block (a:=(Z gf q)) (hS.1.block gf rK kZ)).t Up;have oo:=Y (I ai (I hS.1 dv));clear ai hS dv qB JV p0 p1 p2 y0 y1 y2 aC Up Ur nT kZ DB WV QO;go_wp2_with fail;go_roundw
    case rel=>
     obtain ⟨ai,bg,dv⟩:=oo.o;have hm:=HM.o;subst hm;obtain ⟨r1,r2⟩:=wK.DC (p:=q) JX y.first HV.o ai bg dv rfl;have pV:=ZC.o;have pW:∀z,w.heap.size<=z->z<w.heap.size+3->z∉o9 s vs (.slice (Z gf 0) de.length cf) rows:=λz h1 h2 hm=>by
      have:=HB.2.2 z (by rw[pV];exact hm);omega
     refine ⟨k+1,_,_,U,by go_num,⟨j8.o,by have:=JW.o;simp;omega,λl hl=>?_⟩,⟨⟨_,_,_,_,rfl,r1⟩,(by rw[pV]at HB;exact HB.2.1.t r2),λz hz=>?_⟩,⟨?_,?_,?_⟩,?_⟩
     .rw[Nat.succ_mul];rcases List.mem_or_eq_of_mem_set hl with h1|h1
      .have:=HF.2.2 l h1;omega
      .rw[h1,List.length_append];omega
     .rcases r2.new z hz with h1|h1
      .exact HB.2.2 z (by rw[pV];exact h1)
      .right;omega
     .exact (r2.aq _ U (pW _ U U)).t HX.1
     .exact (r2.aq _ U (pW _ U U)).t HX.2.1
     .exact (r2.aq _ U (pW _ U U)).t HX.2.2
     .exact Nat.le_trans jn r2.size
    case measure=>exact μ
  .obtain rfl:k=x.last.length:=U;have Uu:de=jd y.first x.last b.fol:=by
    have:=HF.1;rw[List.drop_length]at this;exact this
   have DD:(⟨b.sets,de⟩:Pb)=cO b x y:=by rw[Uu];rfl
   have Bl:=HB.1;rw[DD]at Bl;have pj:=Y Bl;have KS:=Y HB.2.1;have DE:=Y HB.2.2;have HA:=Y (I (oh.1.keep HB.2.1) (I (oh.2.1.keep HB.2.1) (I (oh.2.2.1.keep HB.2.1) (oh.2.2.2.keep HB.2.1))));have pC:=Y HX.2.2;have GW:=Y HX;have SN:=Y (show w0.heap.size<=w from Bk.cW.size);obtain ⟨ex,hex⟩:=ν x.emp;obtain ⟨ey,KT⟩:=ν y.emp;rw[hex]at p0;rw[KT]at y0;have HE:=Y (I hex KT);have hd:decide ((x.last.length:Int)<(x.last.length:Int))=false:=θ;have dV:decide (x.last.length<x.last.length)=false:=θ;have dN:Below wr wr wr.drew:=D.drew;clear Uu DD Bl HF HB HX hex KT aB
   go_upto_region 5 with fail
   refine ay 16 [9,13] (vV wr w (w+1) ex ey A1 x.first.length c1 x.first B2 y.last.length d2 y.last) (λ_ w'=>Below wr wr w') R R R R R R O dN ?_ ?_
   .simp only[ck,ct];refine aa.pure O ?_ (aa.pure O ?_ (aa.pure O ?_ (aa.pure O ?_ (aa.pure O ?_ (aa.pure O ?_ (aa.gp O ?_ (aa.pure O ?_ (aa.pure O ?_ (aa.jg 0 rfl ?_ (aa.gp O ?_ (aa.pure O ?_ (aa.pure O ?_ (aa.jg 1 rfl ?_ (aa.pure O ?_ (aa.gp O ?_ (aa.nil))))))))))))))))
    all_goals first | (intro v wz c bX hS hE K hK;simp only[ah,Act.put,dk,dm,dn,Nat.zero_add,Nat.reduceAdd,ck,ct]at hK|-) | (intro v wz hS hE K hK;simp only[ah,Act.put,dk,dm,dn,Nat.zero_add,Nat.reduceAdd,ck,ct]at hK|-)
    .exact ζ
    .have e0:v 0=_:=hE.1 rfl;rw[e0]at hK|-;have c1:=(hS.cl w 0 I9).t p0;exact ζ
    .have e1:v 1=_:=hE.1 rfl;rw[e1]at hK|-;exact ζ
    .have e2:v 2=_:=hE.1 rfl;rw[e2]at hK|-;have nD:=Y hS;clear hS hE bX
     cases ex
     .go_wp2_with fail;exact hK.out _ (λh=>by cases h)
     .go_wp2_with fail;exact hK.out _ (λ_=>rfl)
    .have e2:v 2=_:=hE.2.1 rfl;rw[e2]at hK|-;have E3:=hE.1 rfl;have c1:=(hS.cl (w+1) 0 Ja).t y0;have l1:(w.heap.size+1)<wz.heap.size:=Nat.lt_of_lt_of_le Ja hS.size;have nD:=Y hS;clear hS hE bX
     cases ex
     .go_wp2_with fail;exact hK.out _ (λh=>by cases h)
     .rw[E3 rfl]at hK|-;go_wp2_with fail;exact hK.out _ (λ_=>rfl)
    .have e2:v 2=_:=hE.1 rfl;rw[e2]at hK|-;have E4:=hE.2.1 rfl;have nD:=Y hS;clear hS hE bX
     cases ex
     .go_wp2_with fail;exact hK.out _ rfl
     .rw[E4 rfl]at hK|-;go_wp2_with fail;exact hK.out _ rfl
    .have kr:c<=1:=bX 1 R;have bw:Below wz wz (wz.alloc (.cells #[] 3)):=D.alloc V _;have nD:=Y hS;clear hS hE bX;go_wp2_with fail;exact hK.out _ _ (λj z hj h=>mU _ _ _ _ _ _ _ _ _ _ _ _ _ bw h (.inl ⟨kr,kr⟩)) (nD.t (bw.mono nD.size)) ⟨wz.heap.size,rfl,nD.size,heap_alloc_new _ _⟩
    .exact ζ
    .have e7:v 7=_:=hE.1 rfl;rw[e7]at hK|-;have c1:=(hS.cl w 1 I9).t p1;exact ζ
    .have e8:v 8=_:=hE.2.1 rfl;rw[e8]at hK|-;have E6:=hE.1 rfl;have Ru:=E6;have hj:=(HA.1.later hS).1;have iM:=hS.size;have nD:=Y hS;clear hS hE E6;go_wp2_with (at_builtin;refine kW _ _ _ _ x.first wr rfl rfl rfl rfl Ru hj U iM ?_);intro v' w1 ai bw ew fP;exact hK.out _ _ (λj z hj h=>mU _ _ _ _ _ _ _ _ _ _ _ _ _ bw h (.inl ⟨Nat.zero_le 1,Nat.le_refl 1⟩)) (nD.t (bw.mono nD.size)) ⟨ai,λh=>by rw[fP h];exact ZR.later Ru bw,λh=>by cases h⟩
    .have kr:c<=1:=bX 1 R;have bw:Below wz wz (wz.alloc (.cells #[] 3)):=D.alloc V _;have nD:=Y hS;clear hS hE bX;go_wp2_with fail;exact hK.out _ _ (λj z hj h=>mU _ _ _ _ _ _ _ _ _ _ _ _ _ bw h (.inl ⟨kr,kr⟩)) (nD.t (bw.mono nD.size)) ⟨wz.heap.size,rfl,nD.size,heap_alloc_new _ _⟩
    .exact ζ
    .have fZ:v 11=_:=hE.1 rfl;rw[fZ]at hK|-;have c1:=(hS.cl (w+1) 2 Ja).t y2;exact ζ
    .have fG:v 12=_:=hE.2.1 rfl;rw[fG]at hK|-;have Mg:=hE.1 rfl;have Ru:=Mg;have hj:=(HA.2.2.2.later hS).1;have iM:=hS.size;have nD:=Y hS;clear hS hE Mg;go_wp2_with (at_builtin;refine kW _ _ _ _ y.last wr rfl rfl rfl rfl Ru hj U iM ?_);intro v' w1 ai bw ew fP;refine hK.out _ _ (λj z hj h=>?_) (nD.t (bw.mono nD.size)) ⟨rfl,ai,λh=>by rw[fP h];exact ZR.later Ru bw,λNg=>?_⟩
     .by_cases Nj:j=9
      .subst Nj;refine ⟨OR.later h.1 bw,λh2=>ZR.later (h.2.1 h2) bw,λ_ Ng=>⟨wz.heap.size,λg hg=>(World.ownsRow.lt h.1 g hg).2,?_⟩⟩;obtain ⟨n1,-⟩:=ew Ng;obtain ⟨cur,q1,-⟩:=ai.cur n1;exact ⟨cur,q1⟩
      .rcases tm _ _ _ _ _ _ _ _ _ _ _ _ _ (c':=2) bw Nj hj h with h14|h9
       .subst h14;exact absurd h.1 O
       .exact h9
     .obtain ⟨n1,n2⟩:=ew Ng;refine ⟨_,n1,λk hk cur e=>?_⟩;have:=(γ e).1;omega
    .have E5:=hE.1 rfl;have E9:=hE.2.1 rfl;have ye:=hE.2.2.1 rfl;have e5:=E5;obtain ⟨A9,c9,e9,-,-⟩:=ae (show wz.ownsRow _ _ _ _ _ _ from E9.1);obtain ⟨rP,rQ,iH,-,-⟩:=ae (show wz.ownsRow _ _ _ _ _ _ from ye.2.1);rw[e9]at E9;rw[iH]at ye;rw[e5,e9,iH]at hK|-;have hd9:x.first≠[]->∀g,(Value.slice A9 x.first.length c9).ownBlock=some g->(Value.slice rP y.last.length rQ).ownBlock≠some g:=λWW g qx CD=>by
      by_cases Ng:y.last=[]
      .obtain ⟨g',e,-,h3⟩:=ye.2.2.1 Ng;rw[e]at CD;have:g'=g:=by injection CD
       subst this;obtain ⟨cur,q1,q2⟩:=E9.1.cur qx;rw[h3]at q1;injection q1 with q1;injection q1 with q1;subst q1;exact WW (by simpa using q2)
      .obtain ⟨k,k1,cur,k2⟩:=E9.2.2 ye.1 Ng;obtain ⟨g',g1,g2⟩:=ye.2.2.2 Ng;rw[CD]at g1;injection g1 with g1;subst g1;exact g2 k (k1 _ qx) cur k2
     have nD:=Y (I (I E9.1 ye.2.1) (I ye.1 (I E9.2.1 hd9)));clear hS hE bX E5 e5 E9 ye e9 iH hd9;go_wp2_with fail;exact hK.out _ ⟨nD.2.1,_,_,_,_,rfl,nD.1,nD.2.2⟩
    .have bw:Below wz wz (wz.alloc (.cells #[.bool false,(),()] 67)):=D.alloc V _;have iM:=hS.size;have nD:=Y hS;clear hS hE bX;go_wp2_with fail;exact hK.out _ _ (λj z hj h=>mU _ _ _ _ _ _ _ _ _ _ _ _ _ bw h (.inr ⟨rfl,λk cur hk e=>Rz e hk⟩)) (nD.t (bw.mono nD.size)) ⟨wz.heap.size,rfl,nD.size,H,heap_alloc_new _ _⟩
   .intro v wz hS hF;have e0:v 0=_:=hF 0 O;have e1:v 1=_:=hF 1 O;have e2:v 2=_:=hF 2 O;have e7:v 7=_:=hF 7 O;have e8:v 8=_:=hF 8 O;have fZ:v 11=_:=hF 11 O;have fG:v 12=_:=hF 12 O;have E3:=hF 3 O;have E4:=hF 4 O;have E5:=hF 5 O;have E6:=hF 6 O;have E9:=hF 9 O;have Mg:=hF 10 O;have ye:=hF 13 O;have FP:=hF 14 O;have GD:=hF 15 O;simp only[ah,Act.put,dk,dm,dn,Nat.zero_add,Nat.reduceAdd,ck,ct,List.drop_succ_cons,List.drop_zero,e0,e1,e2,e7,e8,fZ,fG];clear hF e0 e1 e2 e7 e8 fZ fG;obtain ⟨g8,pF,WX,r7,Jc⟩:=GD;obtain ⟨-,A9,c9,rP,rQ,jw,⟨Jd,Je⟩,acS,ET⟩:=FP;obtain ⟨ee,DS⟩:∃e,(ex && ey)=e:=⟨_,rfl⟩;rw[DS]at jw;have HEE:=Y DS;rw[pF,jw];clear DS;obtain ⟨t0,t1,t2⟩:=aK Jc;have u0:wz.frozen? (Z g8 0)=false:=Ψ Jc
    have u1:wz.frozen? (Z g8 1)=false:=Ψ Jc
    have u2:wz.frozen? (Z g8 2)=false:=Ψ Jc
    have HS9:=Y hS;have HO:=Y (I Jd (I Je (I acS ET)));have H8:=Y Jc;clear hS Jd Je ET acS E3 E4 E5 E6 E9 Mg ye jw pF Jc
    go_upto_region 6 with fail
    generalize EU:((wz.setCell (Z g8 0) (.bool ee)).setCell (Z g8 1) (.slice A9 x.first.length c9)).setCell (Z g8 2) (.slice rP y.last.length rQ)=Wm;have zD:∀j,j≠g8->Wm.heap[j]?=wz.heap[j]?:=λj hj=>by
     rw[<-EU,Below.heap_setCell _ _ _ _ hj,Below.heap_setCell _ _ _ _ hj,Below.heap_setCell _ _ _ _ hj]
    have DJ:Wm.heap.size=wz:=by rw[<-EU];simp[World.setCell]
    have F0:Below wr wr Wm:=by
     have h9:=HS9.o;refine ⟨?_,?_,?_,by rw[DJ];exact h9.size,λj hj=>(zD j U).t (h9.block j hj)⟩
     .rw[<-EU];exact h9.os
     .rw[<-EU];exact h9.tape
     .rw[<-EU];exact h9.output
    have h8m:Wm.heap[g8]?=some (.cells #[.bool ee,.slice A9 x.first.length c9,.slice rP y.last.length rQ] 67):=by
     rw[<-EU];exact aE (aE (aE H8.o 0 _) 1 _) 2 _
    have Jf:∀(v:Value) (l:List Nat),OR 3 1 dM wr v l wz->OR 3 1 dM wr v l Wm:=λv l h=>h.keep λj hj=>zD j λe=>by
     subst e;obtain ⟨cur,q1,-⟩:=h.cur hj;rw[H8.o]at q1;injection q1 with q1;injection q1 with _ q1;exact absurd q1 O
    have Kc:=Jf _ _ HO.1;have Jg:=Jf _ _ HO.2.1;have Ru:x.first=[]->ZR wr (.slice A9 x.first.length c9) Wm:=λhx=>by
     obtain ⟨g',e,q1,q2⟩:=HO.2.2.1 hx;refine ⟨g',e,q1,(zD g' λe8=>?_).t q2⟩;subst e8;rw[H8.o]at q2;injection q2 with q2;injection q2 with _ q2;exact absurd q2 O
    have HM:=Y (I Kc (I Jg (I Ru (I HO.2.2.2 (I F0 h8m)))));have lm:=F0.size;obtain ⟨t0,t1,t2⟩:=aK h8m;have u1:Wm.frozen? (Z g8 1)=false:=Ψ h8m
    have p0:=(F0.cl w 0 I9).t p0;have y1:=(F0.cl (w+1) 1 Ja).t y1;have WY:w.heap.size<Wm:=U;have WM:w.heap.size+1<Wm:=U;have RC:g8<Wm:=U;clear EU zD F0 h8m Jf Kc Jg Ru;go_upto_if 56 with fail
    go_cut [] from 57 (λwx=>Hid (Ni wr g8 ee (Nh ex x.first y.first) y.last wx))
    case first=>
     cases ex with
     |false=>
      go_wp2_with fail
      go_meet
      exact ⟨A9,c9,rP,rQ,HM.2.2.2.2.2,JL.eu HM.1,HM.2.1,HM.2.2.2.1,HM.2.2.2.2.1⟩
     |true=>
      have hjy:=(HA.2.2.1.later HM.2.2.2.2.1).1;by_cases WW:x.first=[]
      .have S4:=HM.2.2.1 WW;have HXF:=Y WW;clear WW;go_wp2_with (at_builtin;refine kW _ _ _ _ y.first wr rfl rfl rfl rfl S4 hjy U lm ?_;intro v' w1 ai bw ew fP;have k8:=(bw.block g8 RC).t HM.2.2.2.2.2;obtain ⟨q0,q1,q2⟩:=aK k8;have u1:w1.frozen? (Z g8 1)=false:=(Ψ k8);have l8:g8<w1:=Nat.lt_of_lt_of_le RC bw.size;obtain ⟨A',c',rfl,-,-⟩:=ae (show w1.ownsRow _ _ _ _ _ _ from ai))
       go_meet
       have hw:Below Wm Wm w1:=bw;have PQ:Nh true x.first y.first=y.first:=by show x.first++y.first=_;rw[HXF.o,List.nil_append]
       rw[PQ];refine Ni.of ai (OR.later HM.2.1 hw) k8 (λhlf g hg CD=>?_) (HM.2.2.2.2.1.t (hw.mono lm)) WX;obtain ⟨n1,-⟩:=ew hlf;rw[n1]at hg;injection hg with hg;have:=(World.ownsRow.lt HM.2.1 g CD).2;omega
      .have Kc:=HM.1;have HXF:=Y WW;clear WW;go_wp2_with (at_builtin;refine eD _ _ _ _ x.first y.first wr rfl rfl rfl rfl Kc hjy U lm ?_;intro v' w1 ai bg dv;have k8:=(bg.block g8 RC (zX Kc HM.2.2.2.2.2)).t HM.2.2.2.2.2;obtain ⟨q0,q1,q2⟩:=aK k8;have u1:w1.frozen? (Z g8 1)=false:=(Ψ k8);have l8:g8<w1:=Nat.lt_of_lt_of_le RC bg.size;obtain ⟨A',c',rfl,-,-⟩:=ae (show w1.ownsRow _ _ _ _ _ _ from ai))
       go_meet
       rw[List.length_append]at ai dv;refine Ni.of (lf:=x.first++y.first) ai (HM.2.1.keep λj hj=>bg.block j (World.ownsRow.lt HM.2.1 j hj).2 λe=>HM.2.2.2.1 HXF.o j e.symm hj) k8 (λ_ g hg CD=>?_) ?_ WX
       .rcases dv with h|⟨g',h,h2⟩
        .exact HM.2.2.2.1 HXF.o g (h▸hg) CD
        .rw[h]at hg;injection hg with hg;have:=(World.ownsRow.lt HM.2.1 g CD).2;omega
       .have h9:=HM.2.2.2.2.1;exact ⟨bg.os.t h9.os,bg.tape.t h9.tape,bg.output.t h9.output,Nat.le_trans h9.size bg.size,λj hj=>(bg.block j U λe=>by have:=(World.ownsRow.lt Kc j e.symm).1;omega).t (h9.block j hj)⟩
    case rest=>
     obtain ⟨D9,d9,D13,d13,Jh,Nj,Je,hd8,My⟩:=hcut.out;obtain ⟨W8,Rq⟩:∃W8:World,W8=wc:=⟨_,rfl⟩;rw[<-Rq]at Jh Nj Je My|-;obtain ⟨lf,hlf⟩:∃l,Nh ex x.first y.first=l:=⟨_,rfl⟩;rw[hlf]at Jh Nj hd8;have Ji:=Y hlf;have lm8:=My.size;obtain ⟨t0,t1,t2⟩:=aK Jh;have u2:W8.frozen? (Z g8 2)=false:=Ψ Jh
     have y0:=(My.cl (w+1) 0 Ja).t y0;have p2:=(My.cl w 2 I9).t p2;have WY:w.heap.size<W8:=U;have WM:w.heap.size+1<W8:=U;have RC:g8<W8:=(γ Jh).1;have xv:=Y (I Jh (I Nj (I Je (I hd8 My))));clear Rq Jh Nj Je hd8 hlf hcut
     apply_assumption
     go_upto_if 64 with fail
     go_cut [] from 65 (λwx=>Hid (GV wr g8 ee lf (Nh ey y.last x.last) wx))
     case first=>
      cases ey with
      |false=>
       go_wp2_with fail
       go_meet
       exact ⟨D9,d9,D13,d13,xv.1,xv.2.1,JL.eu xv.2.2.1,xv.2.2.2.2⟩
      |true=>
       have hjx:=(HA.2.1.later My).1;have Jg:=xv.2.2.1;go_wp2_with (at_builtin;refine eD _ _ _ _ y.last x.last wr rfl rfl rfl rfl Jg hjx U lm8 ?_;intro v' w1 ai bg dv;have k8:=(bg.block g8 RC (zX Jg xv.1)).t xv.1;obtain ⟨q0,q1,q2⟩:=aK k8;have u2:w1.frozen? (Z g8 2)=false:=(Ψ k8);have l8:g8<w1:=Nat.lt_of_lt_of_le RC bg.size;obtain ⟨A',c',rfl,-,-⟩:=ae (show w1.ownsRow _ _ _ _ _ _ from ai))
       go_meet
       rw[List.length_append]at ai dv;have h9:=xv.2.2.2.2;have iI:JL w1 (.slice D9 lf.length d9) lf:=by
        by_cases D3:lf=[]
        .obtain ⟨A,c,e,hc,-⟩:=xv.2.1.1;injection e with e1 e2 e3;refine ⟨D9,d9,rfl,by rw[e3];exact hc,.inl ⟨D3,λhD=>?_⟩⟩
         obtain ⟨A0,c0,e0,-,dt⟩:=xv.2.1.1;injection e0 with f1 f2 f3;rcases dt with ⟨-,h⟩|⟨g,f,h,-⟩
         .rw[f3];exact h (f1▸hD)
         .rw[<-f1,hD]at h;cases h
        .obtain ⟨A,c,e,hc,dt⟩:=xv.2.1.1;refine ⟨A,c,e,hc,.inr ?_⟩;obtain ⟨g,f,hA,hg,bH⟩:=dt.resolve_left (λh=>D3 h.1);have C6:(Value.slice D9 lf.length d9).ownBlock=some g:=by rw[e,hA];rfl
         refine ⟨g,f,hA,Nat.lt_of_lt_of_le hg bg.size,λi hi=>?_⟩;exact (χ g (f+i) (bg.block g hg λe9=>xv.2.2.2.1 D3 g C6 e9.symm)).t (bH i hi)
       refine GV.of (ll:=y.last++x.last) ⟨iI,λg hg=>⟨(xv.2.1.2 g hg).1,Nat.lt_of_lt_of_le (xv.2.1.2 g hg).2 bg.size⟩⟩ ai k8 ⟨bg.os.t h9.os,bg.tape.t h9.tape,bg.output.t h9.output,Nat.le_trans h9.size bg.size,λj hj=>(bg.block j U λe=>by have:=(World.ownsRow.lt Jg j e.symm).1;omega).t (h9.block j hj)⟩ WX
     case rest=>
      obtain ⟨F9,f9,F13,f13,Jh,Nj,RD,Nk⟩:=hcut.out;obtain ⟨Nl,acV⟩:∃Nl:World,Nl=wc:=⟨_,rfl⟩;rw[<-acV]at Jh Nj RD Nk|-;obtain ⟨ll,SV⟩:∃l,Nh ey y.last x.last=l:=⟨_,rfl⟩;rw[SV]at Jh RD;have Qa:=Y SV;obtain ⟨t0,t1,t2⟩:=aK Jh;have RC:g8<Nl:=(γ Jh).1;have iX:=(Nk.block _ acQ).t pC.o;obtain ⟨r0,r1,r2⟩:=aK iX;have f0:Nl.frozen? (Z (w+1+1) 0)=false:=Ψ iX
      have f1:Nl.frozen? (Z (w+1+1) 1)=false:=Ψ iX
      have f2:Nl.frozen? (Z (w+1+1) 2)=false:=Ψ iX
      have lr2:w.heap.size+1+1<Nl:=Nat.lt_of_lt_of_le acQ Nk.size;have Jj:=Y (I Nj (I RD (I Nk iX)));clear acV Jh Nj RD Nk iX SV hcut
      apply_assumption
      go_wp2_with fail;refine au λW hW=>?_;have zD:∀j,j≠w.heap.size+1+1->W.heap[j]?=Nl.heap[j]?:=λj hj=>by
       rw[hW,Below.heap_setCell _ _ _ _ hj,Below.heap_setCell _ _ _ _ hj,Below.heap_setCell _ _ _ _ hj]
      have nW:W.heap[w.heap.size+1+1]?=some (.cells #[.bool ee,.slice F9 lf.length f9,.slice F13 ll.length f13] 67):=by
       rw[hW];exact aE (aE (aE Jj.2.2.2 0 _) 1 _) 2 _
      have pM:W.heap.size=Nl:=by rw[hW];simp[World.setCell]
      have h9:=Jj.2.2.1;obtain ⟨q1,q2⟩:=mg pj.o KS.o SN.o (W:=W) (by rw[hW];exact h9.os) (by rw[hW];exact h9.tape) (by rw[hW];exact h9.output) (by rw[pM];exact h9.size) (λj hj=>by
       by_cases P2:j=w.heap.size+1+1
       .right
        subst P2;exact ⟨U,λhm=>by have:=DE _ hm;omega⟩
       .exact .inl ((zD j P2).t (h9.block j hj)))
      obtain ⟨s0,s1,s2⟩:=aK nW;have lW:w.heap.size+1+1<W:=U;have TV:∀(v:Value) (l:List Nat),(JL Nl v l/\∀g,v.ownBlock=some g->wr.heap.size<=g/\g<Nl.heap.size)->JO W lH v l:=λv l ⟨h1,h2⟩=>by
       refine ⟨?_,λg hg=>⟨λhm=>by have:=(pj.lt g hm).2;have:=(h2 g hg).1;omega,by rw[pM];exact (h2 g hg).2⟩⟩
       obtain ⟨A,c,e,hc,dt⟩:=h1;refine ⟨A,c,e,hc,dt.imp id ?_⟩;rintro ⟨g,f,hA,hg,bH⟩;have:=(h2 g (by rw[e,hA];rfl)).1
       exact ⟨g,f,hA,by rw[pM];exact hg,λi hi=>(χ g (f+i) (zD g U)).t (bH i hi)⟩
      clear zD nW h9 r0 r1 r2 f0 f1 f2 lr2 t0 t1 t2 RC;refine bodyPost_ret (v:=.agg #[.bool ee,.slice F9 lf.length f9,.slice F13 ll.length f13]) (by simp[results,Tryz.results51,go_sem,s0,s1,s2,lW];try rfl) rfl ?_
      refine ⟨lH,.slice F9 lf.length f9,.slice F13 ll.length f13,?_,q1,q2,?_,?_,λg hg=>?_⟩
      .show _=Ending.returned (.agg #[.bool (x.emp && y.emp),_,_]);rw[HE.1,HE.2,HEE.o]
      .have e:(iu x y).first=lf:=by rw[<-Ji.o,<-HE.1];rfl
       rw[e];exact TV _ _ Jj.1
      .have e:(iu x y).last=ll:=by rw[<-Qa.o,<-HE.2];rfl
       rw[e];exact TV _ _ Jj.2.1
      .have h1:=Jj.1.2 g;have h2:=Jj.2.1.2 g;rcases hg with hg|hg
       .have:=h1 hg;omega
       .have:=h2 hg;omega
def RoP(w0:World)(s:Nat)(b:Pb)(fp:List Nat)(A:Au)(n K:Nat)(w:World)(e:Ending)(w':World):Prop:=
 ∃b' x fp' v1 v2,e=.returned (.agg #[.bool x.emp,v1,v2])/\tO w0 s b' fp' w'/\ab fp fp' w w'/\JO w' fp' v1 x.first/\JO w' fp' v2 x.last/\Mk b b' x A/\b'.fol.length=b.fol.length+n/\(x.first.length<=n/\x.last.length<=n)/\(∀l∈b'.fol,l.length<=K)/\TT w v1 v2
def mV(w0:World)(s:Nat)(nd:Nd)(vs:List Value):Prop:=∀w b fp K,tO w0 s b fp w->b.sets.length=b.fol.length->b.fol.length+aL nd<=600->(∀l∈b.fol,l.length<=K)->K+dp nd<=10000000000->
 Calls Tryz.prog 26 #[.pointer (Z s 0),.agg vs.toArray] w (RoP w0 s b fp (sV nd) (aL nd) (K+dp nd) w)
def mW(N s B0 nr c1 nS cS nF cF:Nat)(A1 As Af:Option Addr)(sv rows:List Value)(W:World):Nat->Nat->Value->World->Prop
 |c,0,x,w=>x=.pointer (Z s 0)
 |c,1,x,w=>x=.pointer (Z s 0)
 |c,2,x,w=>x=.pointer (Z s 0)
 |c,3,x,w=>x=.pointer (Z s 0)
 |c,4,x,w=>x=.pointer (Z s 0)
 |c,5,x,w=>x=.slice As nS cS
 |c,6,x,w=>x=.pointer (Z N 1)
 |c,7,x,w=>x=.slice A1 nr c1
 |c,8,x,w=>∃g,x=.slice (Z g 0) 1 1/\W.heap.size<=g/\g<w.heap.size/\w.cell? (Z g 0)=some (.slice A1 nr c1)
 |c,9,x,w=>1<=c->∃A c',x=.slice A (nS+1) c'/\w.ownsRow B0 23 1 x (nS+1) (sv++[.slice A1 nr c1])/\aT x (.slice As nS cS) W
 |c,10,x,w=>x=.pointer (Z s 0)
 |c,11,x,w=>x=.pointer (Z s 0)
 |c,12,x,w=>x=.pointer (Z s 1)
 |c,13,x,w=>x=.slice Af nF cF
 |c,14,x,w=>∃g,x=.slice (Z g 0) 1 1/\W.heap.size<=g/\g<w.heap.size/\w.cell? (Z g 0)=some (.slice none 0 0)
 |c,15,x,w=>2<=c->∃A c',x=.slice A (nF+1) c'/\w.ownsRow B0 22 1 x (nF+1) (rows++[.slice none 0 0])/\aT x (.slice Af nF cF) W
 |c,16,x,w=>x=.pointer (Z s 0)
 |c,17,x,w=>x=.pointer (Z s 0)
 |c,18,x,w=>3<=c->∃A c',w.ownsRow B0 23 1 (.slice A (nS+1) c') (nS+1) (sv++[.slice A1 nr c1])/\aT (.slice A (nS+1) c') (.slice As nS cS) W.heap.size/\w.heap[s]?=some (.cells #[.slice A (nS+1) c',.slice Af nF cF] 65)
 |c,19,x,w=>x=.pointer (Z s 0)
 |c,20,x,w=>x=.pointer (Z s 1)
 |_,_,_,_=>True
section
variable {N s B0 nr c1 nS cS nF cF:Nat} {A1 As Af:Option Addr} {sv rows:List Value} {W u u':World}
theorem yF(hb:Below u u u'){c j:Nat}{x:Value}(h:mW N s B0 nr c1 nS cS nF cF A1 As Af sv rows W c j x u):mW N s B0 nr c1 nS cS nF cF A1 As Af sv rows W c j x u':=by
 match j with
 |0|1|2|3|4|5|6|7|10|11|12|13|16|17|19|20=>exact h
 |8|14=>
  obtain ⟨g,e,h1,hg,h0⟩:=h;exact ⟨g,e,h1,Nat.lt_of_lt_of_le hg hb.size,(hb.cl g 0 hg).t h0⟩
 |9|15=>
  intro hc;obtain ⟨A,c',e,ho,hf⟩:=h hc;exact ⟨A,c',e,aR ho hb,hf⟩
 |18=>
  intro hc;obtain ⟨A,c',ho,hf,hr⟩:=h hc;exact ⟨A,c',aR ho hb,hf,(hb.block _ (γ hr).1).t hr⟩
 |_+21=>exact trivial
theorem Jx(hg:u.grownBy u' (Value.slice As nS cS).ownBlock)(hv:∀g,(Value.slice As nS cS).ownBlock=some g->g<W.heap.size)(j:Nat)(x:Value)(hj:j≠9)(h:mW N s B0 nr c1 nS cS nF cF A1 As Af sv rows W 0 j x u):mW N s B0 nr c1 nS cS nF cF A1 As Af sv rows W 1 j x u':=by
 match j with
 |0|1|2|3|4|5|6|7|10|11|12|13|16|17|19|20=>exact h
 |8|14=>exact xy hg hv h
 |9=>exact absurd rfl hj
 |15|18=>exact λhc=>U
 |_+21=>exact trivial
theorem Jy(hg:u.grownBy u' (Value.slice Af nF cF).ownBlock)(hv:∀g,(Value.slice Af nF cF).ownBlock=some g->g<W.heap.size)(hd:∀g,(Value.slice Af nF cF).ownBlock=some g->(Value.slice As nS cS).ownBlock≠some g)(j:Nat)(x:Value)(hj:j≠15)(h:mW N s B0 nr c1 nS cS nF cF A1 As Af sv rows W 1 j x u):mW N s B0 nr c1 nS cS nF cF A1 As Af sv rows W 2 j x u':=by
 match j with
 |0|1|2|3|4|5|6|7|10|11|12|13|16|17|19|20=>exact h
 |8|14=>exact xy hg hv h
 |9=>
  intro _;obtain ⟨A,c',e,ho,hf⟩:=h O;refine ⟨A,c',e,ar ho λg bJ=>hg.block g (ho.lt g bJ).2 (λe2=>?_),hf⟩;rcases hf with hf|⟨g',hf,h2⟩
  .rw[hf]at bJ;exact hd g e2.symm bJ
  .rw[hf]at bJ;injection bJ with bJ;have:=hv g e2.symm;omega
 |15=>exact absurd rfl hj
 |18=>exact λhc=>U
 |_+21=>exact trivial
theorem Jz(hs:s<W)(Q5:(Value.slice As nS cS).ownBlock≠some s)(Q6:(Value.slice Af nF cF).ownBlock≠some s)(v:Value)(j:Nat)(x:Value)(hj:j≠18)(h:mW N s B0 nr c1 nS cS nF cF A1 As Af sv rows W 2 j x u):mW N s B0 nr c1 nS cS nF cF A1 As Af sv rows W 3 j x (u.setCell (Z s 0) v):=by
 have aH:∀k,k≠s->(u.setCell (Z s 0) v).heap[k]?=u.heap[k]?:=λk hk=>Below.heap_setCell _ _ _ _ hk
 match j with
 |0|1|2|3|4|5|6|7|10|11|12|13|16|17|19|20=>exact h
 |8|14=>
  obtain ⟨g,e,h1,h2,h3⟩:=h;exact ⟨g,e,h1,by simpa [World.setCell] using h2,(χ g 0 (aH g U)).t h3⟩
 |9=>
  intro _;obtain ⟨A,c',e,ho,hf⟩:=h O;refine ⟨A,c',e,ar ho λg bJ=>aH g (λe2=>?_),hf⟩;subst e2;rcases hf with hf|⟨g',hf,h2⟩
  .rw[hf]at bJ;exact Q5 bJ
  .rw[hf]at bJ;injection bJ with bJ;omega
 |15=>
  intro _;obtain ⟨A,c',e,ho,hf⟩:=h O;refine ⟨A,c',e,ar ho λg bJ=>aH g (λe2=>?_),hf⟩;subst e2;rcases hf with hf|⟨g',hf,h2⟩
  .rw[hf]at bJ;exact Q6 bJ
  .rw[hf]at bJ;injection bJ with bJ;omega
 |18=>exact absurd rfl hj
 |_+21=>exact trivial
end
theorem vv{w:World}{B e k n:Nat}{v:Value}{xs:List Value}(h:w.ownsRow B e k v n xs):∀g,v.ownBlock=some g->∃cs,w.heap[g]?=some (.cells cs e (0,0)):=λg hg=>by
 rcases h.2 with ⟨h1,-⟩|⟨g',cap,cur,h1,-,h3,-⟩
 .rw[h1]at hg;cases hg
 .rw[h1]at hg;have:g'=g:=by injection hg
  subst this;exact ⟨cur,h3⟩
theorem NV(w0:World)(s:Nat)(rs:List (Nat×Nat))(mn mx:Int)(vs:List Value)(hn:bY w0 (.mk 1 rs [] mn mx) vs)(lU:ep rs=true):mV w0 s (.mk 1 rs [] mn mx) vs:=by
 intro w b fp K fY jh fW hK rT;obtain ⟨A1,c1,A2,c2,rfl,rJ,jD,-⟩:=hn.form;obtain ⟨Vs,Vf,rows,sv,rfl,hb⟩:=fY;obtain ⟨As,cS,rfl,E0,Eb⟩:=ae hb.sets;obtain ⟨Af,cF,rfl,adl,adm⟩:=ae hb.fol.out;obtain ⟨i1,fs,r5,iI,j9⟩:=info_parts FJ;obtain ⟨i2,ek,mJ,bQ,bE⟩:=info_parts tR;have aB:=hb.lt;have sO:=hb.cW.size;obtain ⟨nS,NW⟩:∃n,b.sets.length=n:=⟨_,rfl⟩;obtain ⟨nF,NX⟩:∃n,b.fol.length=n:=⟨_,rfl⟩;obtain ⟨nr,uu⟩:∃n,rs.length=n:=⟨_,rfl⟩;obtain rfl:nF=nS:=U;have p8:nF<=600:=U;have NY:s<w:=(aB s (by simp[o9])).2
 have aY:=hb.nd;unfold o9 gZ at aY;rw[List.nodup_cons,List.nodup_append]at aY;obtain ⟨n1,n2,n3,n4⟩:=aY;rw[List.nodup_append]at n3;obtain ⟨n5,n6,n7⟩:=n3;have wu:=hb.cs;have ow:=hb.sets;have ox:=hb.fol.out;rw[NW,NX]at wu;rw[NW]at ow;rw[NX]at ox;simp only[NW,NX]at aB n1 n2 n4 n5 n7;have Nz:w.cell? (Z s 0)=some (.slice As nF cS):=by rw[Φ wu];rfl
 have qB:w.cell? (Z s 1)=some (.slice Af nF cF):=by rw[Φ wu];rfl
 have AO:=Y lU;clear lU;have XE:=Y hb;have HHK:=Y hK;have mI:=Y (I NW (I NX jh));have LI:Hid (gD w0 (.slice A1 rs.length c1) rs):=Y rJ;have HN:=Y (I n1 (I n2 (I n4 (I n5 n7))));have C8:=Y aB;have ux:=Y (I wu (I ow ox));show Calls Tryz.prog _ #[_,.agg #[(1:Int),.slice A1 rs.length c1,.slice A2 0 c2,.int .i64 mn,.int .i64 mx]] w _;rw[uu];rw[uu]at LI;clear hb hK rJ hn jD fW rT uu aB n1 n2 n4 n5 n6 n7 wu ow ox NW NX jh;have akB:s<w+1:=U;have Lt:s<w+1+1:=U
 go_enter Tryz.func26,Tryz.ntmps26
 go_wp2_with fail;refine br λW hW=>?_;have du:Below w w W:=by rw[hW];exact (D.alloc V _).alloc H _
 have jc:W.heap.size=w+2:=by rw[hW];simp
 have r0:W.heap[w.heap.size]?=some (.cells #[(1:Int),.slice A1 nr c1,.slice A2 0 c2,.int .i64 mn,.int .i64 mx] 26):=by rw[hW,az _ _ _ H];exact heap_alloc_new w _
 have r1:W.heap[w.heap.size+1]?=some (.cells #[.bool false,(),()] 67):=by rw[hW];simpa using heap_alloc_new (w.alloc _) _
 obtain ⟨b0,b1,b2,b3,b4⟩:=aD r0;have pM:W.heap[s]?=some (.cells #[.slice As nF cS,.slice Af nF cF] 65):=(du.block s NY).t ux.1;have SU:=Y pM;have HS1:=Y (aR ux.2.1 du);have HF1:=Y (aR ux.2.2 du);have NZ:W.cell? (Z s 0)=some (.slice As nF cS):=by rw[Φ pM];rfl
 have N0:W.cell? (Z s 1)=some (.slice Af nF cF):=by rw[Φ pM];rfl
 have eP:s<W:=U;have l0:w.heap.size<W:=U;have bI:∀k∈s::(aq (.slice As nF cS)++aq (.slice Af nF cF)),k<w.heap.size:=λk hk=>by
  simp only[List.mem_cons,List.mem_append]at hk;rcases hk with hk|hk|hk
  .rw[hk];exact NY
  .exact (ux.2.1.lt k (af.1 hk)).2
  .exact (ux.2.2.lt k (af.1 hk)).2
 have T0:w.heap.size∉s::(aq (.slice As nF cS)++aq (.slice Af nF cF)):=λhm=>by have:=bI _ hm;omega
 have ml:w.heap.size+1∉s::(aq (.slice As nF cS)++aq (.slice Af nF cF)):=λhm=>by have:=bI _ hm;omega
 have bf:(∀g,(Value.slice As nF cS).ownBlock=some g->g<W.heap.size)/\(∀g,(Value.slice Af nF cF).ownBlock=some g->g<W.heap.size)/\(∀g,(Value.slice Af nF cF).ownBlock=some g->(Value.slice As nF cS).ownBlock≠some g)/\(Value.slice As nF cS).ownBlock≠some s/\(Value.slice Af nF cF).ownBlock≠some s/\(∀g,(Value.slice Af nF cF).ownBlock=some g->(Value.slice As nF cS).ownBlock≠some g/\g<W.heap.size):=by
  have hd:∀g,(Value.slice Af nF cF).ownBlock=some g->(Value.slice As nF cS).ownBlock≠some g:=λg hg e=>HN.2.2.1 g (af.2 e) g (List.mem_append_left _ (af.2 hg)) rfl;have hf:∀g,(Value.slice Af nF cF).ownBlock=some g->g<W.heap.size:=λg hg=>by have:=(ux.2.2.lt g hg).2;omega
  exact ⟨λg hg=>by have:=(ux.2.1.lt g hg).2;omega,hf,hd,λe=>HN.1 (List.mem_append_left _ (af.2 e)),λe=>HN.1 (List.mem_append_right _ (List.mem_append_left _ (af.2 e))),λg hg=>⟨hd g hg,hf g hg⟩⟩
 have dr:=Y bf;have dN:iS s (.slice As nF cS) (.slice Af nF cF) W 0 W.drew:=⟨(ab.aj D.drew).gV,λ_=>rfl,λ_ _ _=>rfl,λ_=>D.drew⟩;have dc:=Y du;have IX:=Y r1;have tU:=Y ml;have HZW:=Y jc;clear hW r0 r1 pM Nz qB bI bf du ml jc;refine ay 21 [9,15,18] (mW w s w0 nr c1 nF cS nF cF A1 As Af sv rows W) (λc w'=>iS s (.slice As nF cS) (.slice Af nF cF) W c w') R R R R R R O dN ?_ ?_
 .simp only[ck,ct];refine aa.pure O ?_ (aa.pure O ?_ (aa.pure O ?_ (aa.pure O ?_ (aa.pure O ?_ (aa.pure O ?_ (aa.pure O ?_ (aa.pure O ?_ (aa.gp O ?_ (aa.jg 0 rfl ?_ (aa.pure O ?_ (aa.pure O ?_ (aa.pure O ?_ (aa.pure O ?_ (aa.gp O ?_ (aa.jg 1 rfl ?_ (aa.pure O ?_ (aa.pure O ?_ (aa.jg 2 rfl ?_ (aa.pure O ?_ (aa.pure O ?_ (aa.nil)))))))))))))))))))))
  all_goals first | (intro v wz c bX hS hE K hK;simp only[ah,Act.put,dk,dm,dn,Nat.zero_add,Nat.reduceAdd,ck,ct]at hK|-) | (intro v wz hS hE K hK;simp only[ah,Act.put,dk,dm,dn,Nat.zero_add,Nat.reduceAdd,ck,ct]at hK|-)
  .exact ζ
  .exact ζ
  .exact ζ
  .have e2:v 2=_:=hE.1 rfl;rw[e2]at hK|-;exact ζ
  .have e3:v 3=_:=hE.1 rfl;rw[e3]at hK|-;exact ζ
  .have e4:v 4=_:=hE.1 rfl;rw[e4]at hK|-;have hle:=bX 2 R;have c1:=(χ s 0 (hS.2.1 U)).t NZ;exact ζ
  .exact ζ
  .have e6:v 6=_:=hE.1 rfl;rw[e6]at hK|-;have c1:=(χ w 1 (hS.1.aq _ l0 T0)).t b1;exact ζ
  .have e7:v 7=_:=hE.1 rfl;rw[e7]at hK|-;have bw:Below wz wz (wz.alloc (.cells #[.slice A1 nr c1] 23)):=D.alloc V _;have jc:=hS.1.size;have HX:=Y hS;have iZ:=Y bw;clear hS hE bX bw;go_wp2_with fail;exact hK.out _ _ (λj y _ h=>yF iZ.o h) (HX.later eP dr.2.1 iZ.o) ⟨wz.heap.size,rfl,jc,H,by go_simp⟩
  .have e5:v 5=_:=hE.1 rfl;rw[e5]at hK|-;have E8:=hE.2.1 rfl;obtain ⟨g,e8,zo,jm,oz⟩:=E8;rw[e8]at hK|-;have hz:=hS.2.2.2 rfl;have ao:wz.ownsRow w0 23 1 (.slice As nF cS) nF sv:=aR HS1.o hz;have iM:=hz.size;have ak:∀j u,([Value.slice A1 nr c1]:List Value)[j]?=some u->wz.cell? (((Z g 0):Addr).add j)=some u:=λj u hj=>by
    match j,hj with
    |0,hj=>simp at hj;rw[<-hj,Addr.add_lit];exact oz
   have HX:=Y hS;clear hS hE hz;go_wp2_with (at_builtin;refine bn rfl _ _ 49 rfl w0 23 i1 () 1 24 Tryz.underlying49 fs r5 iI j9 rfl O _ nF sv rfl ao (Z g 0) 1 1 [.slice A1 nr c1] rfl rfl ak (by intro u hu;simp at hu;subst hu;rfl) (by unfold maxLen;omega) U U ?_)
   intro v' w1 ai bg dv;obtain ⟨A',c',rfl,-,-⟩:=ae ai;have mP:aT (.slice A' (nF+1) c') (.slice As nF cS) W.heap.size:=dv.imp id λ⟨g,h1,h2⟩=>⟨g,h1,Nat.le_trans iM h2⟩;refine hK.out _ _ (Jx bg dr.1) (HX.s1 eP bg dr.2.2.2.1 dr.2.2.2.2.2) (λ_=>⟨A',c',rfl,ai,mP⟩)
  .exact ζ
  .have eR:v 10=_:=hE.1 rfl;rw[eR]at hK|-;exact ζ
  .have fZ:v 11=_:=hE.1 rfl;rw[fZ]at hK|-;exact ζ
  .have fG:v 12=_:=hE.1 rfl;rw[fG]at hK|-;have hle:=bX 2 R;have c1:=(χ s 1 (hS.2.1 U)).t N0;exact ζ
  .have bw:Below wz wz (wz.alloc (.cells #[()] 22)):=D.alloc V _;have jc:=hS.1.size;have HX:=Y hS;have iZ:=Y bw;clear hS hE bX bw;go_wp2_with fail;exact hK.out _ _ (λj y _ h=>yF iZ.o h) (HX.later eP dr.2.1 iZ.o) ⟨wz.heap.size,rfl,jc,H,by go_simp⟩
  .have iH:v 13=_:=hE.1 rfl;rw[iH]at hK|-;have FP:=hE.2.1 rfl;obtain ⟨g,jw,zo,jm,oz⟩:=FP;rw[jw]at hK|-;have ao:wz.ownsRow w0 22 1 (.slice Af nF cF) nF rows:=ar HF1.o λg hg=>hS.2.2.1 O g hg;have iM:=hS.1.size;have ak:∀j u,([Value.slice none 0 0]:List Value)[j]?=some u->wz.cell? (((Z g 0):Addr).add j)=some u:=λj u hj=>by
    match j,hj with
    |0,hj=>simp at hj;rw[<-hj,Addr.add_lit];exact oz
   have HX:=Y hS;clear hS hE;go_wp2_with (at_builtin;refine bn rfl _ _ 50 rfl w0 22 i2 () 1 24 Tryz.underlying50 ek mJ bQ bE rfl O _ nF rows rfl ao (Z g 0) 1 1 [.slice none 0 0] rfl rfl ak (by intro u hu;simp at hu;subst hu;rfl) (by unfold maxLen;omega) U U ?_)
   intro v' w1 ai bg dv;obtain ⟨A',c',rfl,-,-⟩:=ae ai;have mP:aT (.slice A' (nF+1) c') (.slice Af nF cF) W.heap.size:=dv.imp id λ⟨g,h1,h2⟩=>⟨g,h1,Nat.le_trans iM h2⟩;refine hK.out _ _ (Jy bg dr.2.1 dr.2.2.1) (HX.s2 eP bg dr.2.2.2.2.1) (λ_=>⟨A',c',rfl,ai,mP⟩)
  .have e0:v 0=_:=hE.1 rfl;rw[e0]at hK|-;exact ζ
  .have oV:v 16=_:=hE.1 rfl;rw[oV]at hK|-;exact ζ
  .have nR:v 17=_:=hE.1 rfl;rw[nR]at hK|-;have E9:=hE.2.1 rfl;obtain ⟨A,c',ev,ho,dv⟩:=E9 O;rw[ev]at hK ho dv|-;have aC:=(hS.2.1 O).t SU.o;have cz:wz.cell? (Z s 0)=some (.slice As nF cS):=by rw[Φ aC];rfl
   have fz:wz.frozen? (Z s 0)=false:=Ψ aC
   have HX:=Y hS;have HO:=Y (I ho (I dv aC));clear hS hE ho dv aC ev;go_wp2_with fail;have qV:∀g,(Value.slice A (nF+1) c').ownBlock=some g->g≠s:=λg hg=>HO.2.1.elim (λe=>by rw[e]at hg;intro e2;subst e2;exact dr.2.2.2.1 hg) λ⟨g',e,h2⟩=>by rw[e]at hg;injection hg with hg;omega
   refine hK.out undef _ (Jz eP dr.2.2.2.1 dr.2.2.2.2.1 _) (HX.s3 _) (λ_=>⟨A,c',ar HO.1 λg hg=>Below.heap_setCell _ _ _ _ (qV g hg),HO.2.1,by have:=aE HO.2.2 0 (.slice A (nF+1) c');simpa using this⟩)
  .have e1:v 1=_:=hE.1 rfl;rw[e1]at hK|-;exact ζ
  .have wS:v 19=_:=hE.1 rfl;rw[wS]at hK|-;exact ζ
 .intro v wz hS hF;have e0:v 0=_:=hF 0 O;have e1:v 1=_:=hF 1 O;have e2:v 2=_:=hF 2 O;have e3:v 3=_:=hF 3 O;have e4:v 4=_:=hF 4 O;have e5:v 5=_:=hF 5 O;have e6:v 6=_:=hF 6 O;have e7:v 7=_:=hF 7 O;have eR:v 10=_:=hF 10 O;have fZ:v 11=_:=hF 11 O;have fG:v 12=_:=hF 12 O;have iH:v 13=_:=hF 13 O;have oV:v 16=_:=hF 16 O;have nR:v 17=_:=hF 17 O;have wS:v 19=_:=hF 19 O;have AP:v 20=_:=hF 20 O;have E8:=hF 8 O;have E9:=hF 9 O;have FP:=hF 14 O;have GD:=hF 15 O;have O4:=hF 18 O;simp only[ah,Act.put,dk,dm,dn,Nat.zero_add,Nat.reduceAdd,ck,ct,List.drop_succ_cons,List.drop_zero,e0,e1,e2,e3,e4,e5,e6,e7,eR,fZ,fG,iH,oV,nR,wS,AP];clear hF e0 e1 e2 e3 e4 e5 e6 e7 eR fZ fG iH oV nR wS AP;obtain ⟨Km,Kn,pz,sw,jX⟩:=O4 O;obtain ⟨Fu,Fv,N1,tP,Fw⟩:=GD O;rw[N1]at tP Fw|-;have pR:=hS.1;have l1:w.heap.size+1<W:=(γ IX.o).1;have qT:=(pR.aq _ l1 tU.o).t IX.o;have akE:=Y qT;have z1:wz.cell? (Z s 1)=some (.slice Af nF cF):=by rw[Φ jX];rfl
  have Qs:wz.frozen? (Z s 1)=false:=Ψ jX
  have iM:W.heap.size<=wz:=pR.size;have lz:w.heap.size+1<wz:=U;have S3:s<wz:=U;have lz1:w.heap.size+1<wz+1:=U;have lz2:w.heap.size<wz:=U;have DW:¬s=w.heap.size+1:=U;have pt:¬w.heap.size+1=s:=U;have HZ:=Y (I pz (I sw (I jX (I tP (I Fw pR)))));clear hS E8 E9 FP GD O4 N1 pz sw jX tP Fw pR qT b0 b1 b2 b3 b4 NZ N0 dN T0;have hwp:IntKind.i64.wrap ((nF:Int)+1 - 1)=(nF:Int):=by rw[show (nF:Int)+1 - 1=(nF:Int) by omega];exact IntWalk.i64_in _ U
  go_upto_region 4 with fail
  obtain ⟨W2,ke⟩:=ν (wz.setCell (Z s 1) (.slice Fu (nF+1) Fv));rw[ke];have ke:=ke.symm;have aH:∀k,k≠s->W2.heap[k]?=wz.heap[k]?:=λk hk=>by rw[ke];exact Below.heap_setCell _ _ _ _ hk
  have cT:W2.heap.size=wz:=by rw[ke];simp[World.setCell]
  have pR:=HZ.2.2.2.2.2;have bE:ab (s::(aq (.slice As nF cS)++aq (.slice Af nF cF))) [] W W2:=by
   have h1:ab (s::(aq (.slice As nF cS)++aq (.slice Af nF cF))) [] wz W2:=by
    rw[ke];exact ⟨rfl,rfl,rfl,by simp[World.setCell],λk _ hn=>Below.heap_setCell _ _ _ _ (λe=>hn (by rw[e];simp)),λk hk=>by cases hk⟩
   exact pR.tr h1
  have CC:W2.heap[s]?=some (.cells #[.slice Km (nF+1) Kn,.slice Fu (nF+1) Fv] 65):=by
   rw[ke];have:=aE HZ.2.2.1 1 (.slice Fu (nF+1) Fv);simpa using this
  have yG:∀{v v':Value},aT v' v W.heap.size->v.ownBlock≠some s->∀g,v'.ownBlock=some g->g≠s:=λhf hn g hg e=>by
   subst e;rcases hf with hf|⟨g',hf,h2⟩
   .rw[hf]at hg;exact hn hg
   .rw[hf]at hg;injection hg with hg;omega
  have pz:=ar HZ.1 λg hg=>aH g (yG HZ.2.1 dr.2.2.2.1 g hg);have tP:=ar HZ.2.2.2.1 λg hg=>aH g (yG HZ.2.2.2.2.1 dr.2.2.2.2.1 g hg);have ET:∀g,(Value.slice Km (nF+1) Kn).ownBlock=some g->(Value.slice Fu (nF+1) Fv).ownBlock≠some g:=λg h1 h2=>by
   obtain ⟨cur,q1⟩:=vv HZ.1 g h1;obtain ⟨atw,q2⟩:=vv HZ.2.2.2.1 g h2;rw[q1]at q2;injection q2 with q2;injection q2 with _ q2;exact absurd q2 O
  have bT:=XE.same (w':=W) (λk hk=>dc.block k (by rw[mI.1,mI.2.1]at hk;exact (C8 k hk).2)) (XE.cW.t (dc.mono XE.cW.size))
  obtain ⟨q1,q2⟩:=bT.Ds (rs:=rs) (rv:=.slice A1 nr c1) CC (by rw[mI.1];exact pz) (by rw[mI.2.1];exact tP) (by rw[mI.1];exact HZ.2.1) (by rw[mI.2.1];exact HZ.2.2.2.2.1) ET (by rw[mI.1,mI.2.1];exact bE) ⟨LI.o,AO.o⟩
  have hqk:=(ab.aj dc.o).t q2;have akH:W.heap.size=w+2:=HZW.o;have JA:W2.heap[w.heap.size+1]?=some (.cells #[.bool false,(),()] 67):=(aH _ pt).t akE.o;have R5:w.heap.size+1∉o9 s (.slice Km (nF+1) Kn) (.slice Fu (nF+1) Fv) (rows++[.slice none 0 0]):=λhm=>by
   rcases q2.new _ hm with h|h
   .rw[mI.1,mI.2.1]at h;have:=(C8 _ h).2;omega
   .omega
  have HQ:=Y (I q1 (I hqk (I R5 JA)));have z0:W2.cell? (Z s 0)=some (.slice Km (nF+1) Kn):=by rw[Φ CC];rfl
  have ls2:s<W2:=by rw[cT];exact S3
  have l12:w.heap.size+1<W2:=by rw[cT];exact lz
  obtain ⟨y0,y1,y2⟩:=aK JA;have vl:W2.frozen? (Z (w+1) 0)=false:=Ψ JA
  have ug:W2.frozen? (Z (w+1) 1)=false:=Ψ JA
  have xp:W2.frozen? (Z (w+1) 2)=false:=Ψ JA
  have atx:w.heap.size+1<W2+1:=U;have aty:w.heap.size+1<W2+1+1:=U;have N4:b.sets.length=b.fol.length:=mI.2.2;clear ke aH cT pR bE CC yG pz tP ET bT q1 q2 hqk R5 JA z1 Qs lz S3 lz1 lz2 DW pt iM HZ;go_wp2_with fail;refine au λWf bG=>?_;obtain ⟨W3,pg⟩:∃W3,W3=((W2.setCell (Z (w+1) 0) (.bool false)).setCell (Z (w+1) 1) (.slice (Z W2 0) 1 1)).setCell (Z (w+1) 2) (.slice (Z (W2+1) 0) 1 1):=⟨_,rfl⟩;rw[<-pg]at bG;have SA:W3.heap.size=W2:=by rw[pg];simp[World.setCell]
  have zD:∀k,k≠w.heap.size+1->W3.heap[k]?=W2.heap[k]?:=λk hk=>by rw[pg,Below.heap_setCell _ _ _ _ hk,Below.heap_setCell _ _ _ _ hk,Below.heap_setCell _ _ _ _ hk]
  have ud:W3.heap[w.heap.size+1]?=some (.cells #[.bool false,.slice (Z W2 0) 1 1,.slice (Z (W2+1) 0) 1 1] 67):=by
   rw[pg];exact aE (aE (aE HQ.2.2.2 0 _) 1 _) 2 _
  have ju:Below W3 W3 Wf:=by rw[bG];exact (D.alloc V _).alloc H _
  have QX:Wf.heap[W2.heap.size]?=some (.cells #[.int .i64 nF] 3):=by
   rw[bG,az _ _ _ (by simp[SA]),<-SA];exact heap_alloc_new W3 _
  have k5:Wf.heap[W2.heap.size+1]?=some (.cells #[.int .i64 nF] 3):=by
   rw[bG,<-SA];have:=heap_alloc_new (W3.alloc (.cells #[.int .i64 nF] 3)) (.cells #[.int .i64 nF] 3);simpa using this
  have wH:Wf.heap[w.heap.size+1]?=some (.cells #[.bool false,.slice (Z W2 0) 1 1,.slice (Z (W2+1) 0) 1 1] 67):=(ju.block _ U).t ud;obtain ⟨t1,t2⟩:=mg ⟨_,_,_,_,rfl,HQ.1⟩ HQ.2.1 sO (W:=Wf) (by rw[ju.os,pg];rfl) (by rw[ju.tape,pg];rfl) (by rw[ju.output,pg];rfl) (by have:=ju.size;omega) (λk hk=>by
   by_cases wV:k=w.heap.size+1
   .right;subst wV;exact ⟨U,HQ.2.2.1⟩
   .exact .inl ((ju.block k U).t (zD k wV)))
  obtain ⟨q0,q1,q2⟩:=aK wH;have lf:w.heap.size+1<Wf:=(γ wH).1;refine bodyPost_ret (v:=.agg #[.bool false,.slice (Z W2 0) 1 1,.slice (Z (W2+1) 0) 1 1]) (by simp[results,Tryz.results26,go_sem,q0,q1,q2,lf];try rfl) rfl ?_
  have TV:∀g,W2.heap.size<=g->Wf.heap[g]?=some (.cells #[.int .i64 nF] 3)->JO Wf (o9 s (.slice Km (nF+1) Kn) (.slice Fu (nF+1) Fv) (rows++[.slice none 0 0])) (.slice (Z g 0) 1 1) [nF]:=λg hg dW=>by
   refine ⟨⟨some ⟨g,0,none⟩,1,rfl,⟨V,O⟩,.inr ⟨g,0,rfl,(γ dW).1,λi hi=>?_⟩⟩,λg' uH=>?_⟩
   .match i,hi with
    |0,_=>rw[Φ dW];rfl
   .have:g=g':=by injection uH
    subst this;exact ⟨λhm=>by have:=(HQ.1.lt _ hm).2;omega,(γ dW).1⟩
  have qK:=Mk.set b N4 rs;rw[mI.1]at qK;have Po:sV (.mk 1 rs [] mn mx)=yS rs:=by simp[sV]
  refine ⟨⟨b.sets++[rs],b.fol++[[]]⟩,⟨[nF],[nF],false⟩,_,_,_,rfl,t1,by rw[mI.1,mI.2.1]at t2|-;exact t2,TV _ V QX,TV _ (Nat.le_succ _) k5,by rw[Po];exact qK,by simp[aL],⟨by simp[aL],by simp[aL]⟩,λl hl=>?_,λg hg=>?_⟩
  rotate_left
  .have wI:=HQ.2.1.size;rcases hg with hg|hg
   .have:W2.heap.size=g:=by injection hg
    omega
   .have:W2.heap.size+1=g:=by injection hg
    omega
  rcases List.mem_append.1 hl with h|h
  .have:=HHK l h;omega
  .simp at h;subst h;simp
end Go.Proofs.YthamegenljmgmaaGreatDoor
