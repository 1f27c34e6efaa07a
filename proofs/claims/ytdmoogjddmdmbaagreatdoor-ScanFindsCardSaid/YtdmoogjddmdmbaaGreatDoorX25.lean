/- Walks. -/
import Derived.Test.YtdmoogjddmdmbaaGreatDoorX23
import Derived.Test.YtdmoogjddmdmbaaGreatDoorX17
import Derived.Test.YtdmoogjddmdmbaaGreatDoorX18
import Derived.Test.YtdmoogjddmdmbaaGreatDoorX20
import Derived.Test.YtdmoogjddmdmbaaGreatDoorX11
import Derived.Lib.SmallJoins
import Derived.Test.YtdmoogjddmdmbaaGreatDoorX04
import Derived.Deep.RegionHeld3
import Derived.Test.YtdmoogjddmdmbaaGreatDoorX24
import Derived.BigRegion
import Derived.Test.YtdmoogjddmdmbaaGreatDoorX14
import Derived.Test.YtdmoogjddmdmbaaGreatDoorX08
import Derived.Test.YtdmoogjddmdmbaaGreatDoorX21
set_option maxRecDepth 100000
set_option maxHeartbeats 16000000
set_option linter.unusedVariables false
set_option linter.unusedSimpArgs false
namespace Go.Proofs.YtdmoogjddmdmbaaGreatDoor
open Go.RowKit
def ZR(nd:Nd)(er:Int)(m:Mc):Prop:=
 (aR nd≠0/\er=aR nd)\/(aR nd=0/\600<aW nd/\er=3)\/
 (aR nd=0/\aW nd<=600/\∃b x gs rows bL i,Wr ⟨[],[]⟩ b x (gN nd)/\b.fol.length=aW nd/\(∀rs∈b.sets,∀r∈rs,r.2<256)/\Eg b x gs rows bL i/\
    ((2000<gs.length/\er=3)\/(i=gs.length/\gs.length<=2000/\er=0/\IZ ⟨rows,bL⟩ m)))
theorem aj1{nd:Nd}{w w':World}{e:Ending}(h:DA nd w e w'):Below w.heap.size w w'/\∃er m,ZR nd er m/\((er≠0/\e=.returned (.tuple #[iG,.int .i64 er]))\/(er=0/\∃rv,e=.returned (.tuple #[rv,.int .i64 0])/\iB w.heap.size w' rv m)):=by
 obtain ⟨hb,h⟩:=h;refine ⟨hb,?_⟩;rcases h with ⟨h1,h2⟩|⟨h1,h2,h3⟩|⟨h1,h2,b,x,gs,rows,bL,i,q1,q2,q3,q4,h⟩
 .exact ⟨_,⟨[],[]⟩,.inl ⟨h1,rfl⟩,.inl ⟨h1,h2⟩⟩
 .exact ⟨3,⟨[],[]⟩,.inr (.inl ⟨h1,h2,rfl⟩),.inl ⟨O,h3⟩⟩
 .rcases h with ⟨h3,h4⟩|⟨h3,h4,rv,m',h5,h6,h7⟩
  .exact ⟨3,⟨[],[]⟩,.inr (.inr ⟨h1,h2,b,x,gs,rows,bL,i,q1,q2,q3,q4,.inl ⟨h3,rfl⟩⟩),.inl ⟨O,h4⟩⟩
  .exact ⟨0,m',.inr (.inr ⟨h1,h2,b,x,gs,rows,bL,i,q1,q2,q3,q4,.inr ⟨h3,h4,rfl,h7⟩⟩),.inr ⟨rfl,rv,h5,h6⟩⟩
def ry(nd:Nd)(m:Mc):Prop:=∃m0,IZ m0 m/\m0.ed.length<=2000/\∀u,dG m0 u 0=true↔bg nd u
theorem ZR.good{nd:Nd}{m:Mc}(h:ZR nd 0 m):ry nd m/\aR nd=0:=by
 rcases h with ⟨h1,h2⟩|⟨-,-,h3⟩|⟨h1,h2,b,x,gs,rows,bL,i,q1,q2,q3,q4,h⟩
 .exact absurd h2.symm h1
 .cases h3
 .rcases h with ⟨-,h4⟩|⟨rfl,h4,-,h7⟩
  .cases h4
  .have hd:=q4.done q3;refine ⟨⟨_,h7,?_,λu=>by rw[hd.2.2,q1.gG];rfl⟩,h1⟩
   show rows.length<=2000;have:=q4.rl;omega
theorem ry.Am{nd:Nd}{m:Mc}(h:ry nd m):pC m/\sF m/\1<=m.ed.length/\m.ed.length<=2000/\∀u,dG m u 0=true↔bg nd u:=by
 obtain ⟨m0,h1,h2,h3⟩:=h;obtain ⟨v1,v2⟩:=Ng h1;exact ⟨v1,h1.2.2,v2,by have:=h1.2.1;omega,λu=>by rw[I0 h1,h3]⟩
theorem ZR.few{nd:Nd}{er:Int}{m:Mc}(h:ZR nd er m)(hv:aR nd=0)(hp:aW nd<=10):er=0:=by
 rcases h with ⟨h1,-⟩|⟨-,h1,-⟩|⟨-,-,b,x,gs,rows,bL,i,hw,hf,hs,hc,h⟩
 .exact absurd hv h1
 .omega
 .have UB:=hc.count;rw[hw.len,hf]at UB;have h2:2 ^ aW nd<=2 ^ 10:=Nat.pow_le_pow_right O hp;rcases h with ⟨h1,-⟩|⟨-,-,h1,-⟩
  .omega
  .exact h1
def sV(s:ByteArray):Bool:=decide (1<=s.size) && decide (s.size<=64)
def zh(k:Kn):Bool:=decide (1<=bI k.pat) && (decide (bj k.pat<=256) && ((decide (0<=k.ck) && decide (k.ck<=4)) && (decide (0<=k.en) && (decide (k.en<=1073741824) && (decide (k.ws.length<=16) && (k.ws.all sV && (decide (0<=k.nr) && (decide (k.nr<=64) && !(k.ws.isEmpty && decide (k.nr≠0))))))))))
def MU(k:Kn)(er:Int)(m:Mc):Prop:=(uP (bl k.nm)=false/\er=4)\/(uP (bl k.nm)=true/\∃ZC,ZR k.pat ZC m/\((ZC≠0/\er=ZC)\/(ZC=0/\er=if zh k then 0 else 2)))
def WX(k:Kn)(w:World)(e:Ending)(w':World):Prop:=Below w.heap.size w w'/\∃er m,MU k er m/\((er≠0/\e=.returned (.tuple #[iG,.int .i64 er]))\/(er=0/\∃rv,e=.returned (.tuple #[rv,.int .i64 0])/\iB w.heap.size w' rv m))
def Nf(u:KC)(b:Nat)(w:World):Prop:=w.heap[b]?=some (.cells #[.string u.nm,.int .i64 u.op,.slice u.a1 u.n1 u.c1,.slice u.a2 u.n2 u.c2,.int .i64 u.mn,.int .i64 u.mx,.bool u.wh,.int .i64 u.ck,.int .i64 u.en,.slice u.a3 u.n3 u.c3,.int .i64 u.nr] 44 (0,0))
theorem Nf.later{u:KC}{b:Nat}{w w':World}(h:Nf u b w)(hb:Below w.heap.size w w'):Nf u b w':=(hb.block b (γ h).1).trans h
theorem Nf.cells{u:KC}{b:Nat}{w:World}(h:Nf u b w):(w.cell? ⟨b,0,none⟩=some (.string u.nm)/\w.cell? ⟨b,1,none⟩=some (.int .i64 u.op)/\w.cell? ⟨b,2,none⟩=some (.slice u.a1 u.n1 u.c1)/\w.cell? ⟨b,3,none⟩=some (.slice u.a2 u.n2 u.c2)/\w.cell? ⟨b,4,none⟩=some (.int .i64 u.mn)/\w.cell? ⟨b,5,none⟩=some (.int .i64 u.mx))/\(w.cell? ⟨b,6,none⟩=some (.bool u.wh)/\w.cell? ⟨b,7,none⟩=some (.int .i64 u.ck)/\w.cell? ⟨b,8,none⟩=some (.int .i64 u.en)/\w.cell? ⟨b,9,none⟩=some (.slice u.a3 u.n3 u.c3)/\w.cell? ⟨b,10,none⟩=some (.int .i64 u.nr))/\b<w.heap.size:=by
 refine ⟨⟨?_,?_,?_,?_,?_,?_⟩,⟨?_,?_,?_,?_,?_⟩,(γ h).1⟩ <;> (rw[cell_of_row _ _ _ _ _ _ h]; rfl)
def bxN(nd:Nd)(vs:List Value)(b:Nat)(w:World):Prop:=w.heap[b]?=some (.cells vs.toArray 41 (0,0))/\bT w nd vs
theorem ER(nd:Nd)(vs:List Value)(w:World)(h:bT w nd vs)(hv:aR nd=0):Calls Tryz.prog 111 #[.agg vs.toArray] w λe w'=>e=.returned (.int .i64 ((bI nd:Nat):Int))/\Below w.heap.size w w':=by
 obtain ⟨z1,z2,z3,z4⟩:=iE hv;have HV:=Z λW (hb:Below w.heap.size w W)=>jS nd vs W (h.later hb);have HS:=Z λW (hb:Below w.heap.size w W)=>qi _ nd vs W I z1 z3 z4 (h.later hb);rw[hv]at HV;obtain ⟨A1,c1,A2,c2,rfl,-⟩:=h.form;clear h z1 z2 z3 z4
 go_enter Tryz.func111,Tryz.ntmps111
 go_wp2_with fail;refine aH λW0 aP=>?_;have hb0:Below w.heap.size w W0:=by rw[aP];exact υ.alloc I _
 have hX:W0.heap[w.heap.size]?=some (.cells #[.int .i64 nd.op,.slice A1 nd.rs.length c1,.slice A2 nd.kids.length c2,.int .i64 nd.mn,.int .i64 nd.mx] 41 (0,0)):=by rw[aP];exact heap_alloc_new w _
 have H0:=Z (H hb0 hX);clear aP hb0 hX;refine (HV.out W0 H0.out.1).mono ?_;rintro e w1 ⟨rfl,hb1⟩;have iM:=(hb1.block _ (γ H0.out.2).1).trans H0.out.2;have k0:w1.cell? ⟨w.heap.size,0,none⟩=some (.int .i64 nd.op):=by rw[cell_of_row _ _ _ _ _ _ iM];rfl
 have k1:w1.cell? ⟨w.heap.size,1,none⟩=some (.slice A1 nd.rs.length c1):=by rw[cell_of_row _ _ _ _ _ _ iM];rfl
 have k2:w1.cell? ⟨w.heap.size,2,none⟩=some (.slice A2 nd.kids.length c2):=by rw[cell_of_row _ _ _ _ _ _ iM];rfl
 have k3:w1.cell? ⟨w.heap.size,3,none⟩=some (.int .i64 nd.mn):=by rw[cell_of_row _ _ _ _ _ _ iM];rfl
 have k4:w1.cell? ⟨w.heap.size,4,none⟩=some (.int .i64 nd.mx):=by rw[cell_of_row _ _ _ _ _ _ iM];rfl
 have lb:w.heap.size<w1.heap.size:=(γ iM).1;have aX:=Z (H0.out.1.trans (hb1.mono H0.out.1.size));clear hb1 iM;go_wp2_with fail;refine (HS.out w1 aX.out).mono ?_;rintro e w2 ⟨rfl,aJ⟩;have dr:=Z (aX.out.trans (aJ.mono aX.out.size));clear aJ k0 k1 k2 k3 k4 lb;go_wp2_with fail;go_ret;exact ⟨rfl,dr.out⟩
theorem Jm(nd:Nd)(vs:List Value)(w:World)(h:bT w nd vs)(hv:aR nd=0):Calls Tryz.prog 74 #[.agg vs.toArray] w λe w'=>e=.returned (.int .i64 ((bj nd:Nat):Int))/\Below w.heap.size w w':=by
 obtain ⟨z1,z2,z3,z4⟩:=iE hv;have HV:=Z λW (hb:Below w.heap.size w W)=>jS nd vs W (h.later hb);have HS:=Z λW (hb:Below w.heap.size w W)=>mD _ nd vs W I z1 z3 (h.later hb);rw[hv]at HV;obtain ⟨A1,c1,A2,c2,rfl,-⟩:=h.form;clear h z1 z2 z3 z4
 go_enter Tryz.func74,Tryz.ntmps74
 go_wp2_with fail;refine aH λW0 aP=>?_;have hb0:Below w.heap.size w W0:=by rw[aP];exact υ.alloc I _
 have hX:W0.heap[w.heap.size]?=some (.cells #[.int .i64 nd.op,.slice A1 nd.rs.length c1,.slice A2 nd.kids.length c2,.int .i64 nd.mn,.int .i64 nd.mx] 41 (0,0)):=by rw[aP];exact heap_alloc_new w _
 have H0:=Z (H hb0 hX);clear aP hb0 hX;refine (HV.out W0 H0.out.1).mono ?_;rintro e w1 ⟨rfl,hb1⟩;have iM:=(hb1.block _ (γ H0.out.2).1).trans H0.out.2;have k0:w1.cell? ⟨w.heap.size,0,none⟩=some (.int .i64 nd.op):=by rw[cell_of_row _ _ _ _ _ _ iM];rfl
 have k1:w1.cell? ⟨w.heap.size,1,none⟩=some (.slice A1 nd.rs.length c1):=by rw[cell_of_row _ _ _ _ _ _ iM];rfl
 have k2:w1.cell? ⟨w.heap.size,2,none⟩=some (.slice A2 nd.kids.length c2):=by rw[cell_of_row _ _ _ _ _ _ iM];rfl
 have k3:w1.cell? ⟨w.heap.size,3,none⟩=some (.int .i64 nd.mn):=by rw[cell_of_row _ _ _ _ _ _ iM];rfl
 have k4:w1.cell? ⟨w.heap.size,4,none⟩=some (.int .i64 nd.mx):=by rw[cell_of_row _ _ _ _ _ _ iM];rfl
 have lb:w.heap.size<w1.heap.size:=(γ iM).1;have aX:=Z (H0.out.1.trans (hb1.mono H0.out.1.size));clear hb1 iM;go_wp2_with fail;refine (HS.out w1 aX.out).mono ?_;rintro e w2 ⟨rfl,aJ⟩;have dr:=Z (aX.out.trans (aJ.mono aX.out.size));clear aJ k0 k1 k2 k3 k4 lb;go_wp2_with fail;go_ret;exact ⟨rfl,dr.out⟩
theorem zn(c:Int)(w:World):Calls Tryz.prog 112 #[.int .i64 c] w λe w'=>e=.returned (.bool (decide (0<=c) && decide (c<=4)))/\w'=w:=by
 obtain ⟨b1,h1⟩:∃b,decide (0<=c)=b:=⟨_,rfl⟩;obtain ⟨b2,h2⟩:∃b,decide (c<=4)=b:=⟨_,rfl⟩;rw[h1,h2]
 go_enter Tryz.func112,Tryz.ntmps112
 cases b1 <;> cases b2
 all_goals
  go_wp2_with fail;go_ret;exact ⟨rfl,rfl⟩
theorem Jn(s:ByteArray)(w:World):Calls Tryz.prog 110 #[.string s] w λe w'=>e=.returned (.bool (!sV s))/\w'=w:=by
 obtain ⟨b1,h1⟩:∃b,decide ((s.size:Int)<1)=b:=⟨_,rfl⟩;obtain ⟨b2,h2⟩:∃b,decide (64<(s.size:Int))=b:=⟨_,rfl⟩;have e:(!sV s)=(b1 || b2):=by
  subst h1 h2;unfold sV;rw[Bool.eq_iff_iff];simp only[Bool.not_eq_true',Bool.and_eq_false_iff,decide_eq_false_iff_not,Bool.or_eq_true,decide_eq_true_eq];omega
 rw[e];clear e
 go_enter Tryz.func110,Tryz.ntmps110
 cases b1 <;> cases b2
 all_goals
  go_wp2_with fail;go_ret;exact ⟨rfl,rfl⟩
def lV(l:List Nat)(s:ByteArray):Bool:=Lib.contains (l.map UInt8.ofNat) s.data.toList
def Kt(w:World)(A:Option Addr)(l:List Nat):Prop:=l=[]\/∃g f,A=some ⟨g,f,none⟩/\g<w.heap.size/\∀i (h:i<l.length),w.cell? ⟨g,f+i,none⟩=some (.int .u8 (l[i]:Int))
theorem Kt.later{w w':World}{A:Option Addr}{l:List Nat}(h:Kt w A l)(hb:Below w.heap.size w w'):Kt w' A l:=by
 rcases h with h|⟨g,f,h1,h2,h3⟩
 .exact .inl h
 .exact .inr ⟨g,f,h1,Nat.lt_of_lt_of_le h2 hb.size,λi hi=>(hb.cl g (f+i) h2).trans (h3 i hi)⟩
theorem NV(s:ByteArray):lV [] s=decide (s.size=0):=by
 have hsz:s.data.toList.length=s.size:=ξ;unfold lV Lib.contains;rw[<-hsz]
 cases s.data.toList with
 |nil=>rfl
 |cons c t=>rfl
theorem qt(A:Option Addr)(n c1 g c2:Nat)(l:List Nat)(s:ByteArray)(w:World)(hl:l.length=n)(kK:∀b∈l,b<256)(h1:Kt w A l)(h0:A=none->c1=0)(hn:n<=c1)(hs:n<=900000)(hk:s.size<=1000000000000)(h2:∀j (h:j<s.size),w.cell? ⟨g,j,none⟩=some (.int .u8 s[j].toNat))(hv:dn w):
  Calls Tryz.prog 128 #[.slice A n c1,.slice (some ⟨g,0,none⟩) s.size c2] w λe w'=>e=.returned (.bool (lV l s))/\Below w.heap.size w w':=by
 cases A with
 |none=>
  have hc:=h0 rfl;subst hc;have Z6:n=0:=Y;subst Z6;have hl0:l=[]:=List.length_eq_zero_iff.1 hl;subst hl0;rw[NV];refine (Tryz.bytes_Contains_nil (some ⟨g,0,none⟩) s.size c2 w Y λh=>⟨g,0,_,rfl,h2 0 Y⟩).mono ?_;rintro e w' ⟨rfl,rfl⟩;exact ⟨rfl,υ⟩
 |some ad=>
 obtain ⟨m,hm⟩:=hv.akU;have hsz:s.data.toList.length=s.size:=ξ;have h:=Tryz.bytes_Contains_at ad ⟨g,0,none⟩ n c1 s.size c2 (l.map λx:Nat=>(x:Int)) (s.data.toList.map λc:UInt8=>(c.toNat:Int)) m w (by rw[List.length_map,hl]) (by rw[List.length_map,hsz])
  (λx hx=>by obtain ⟨y,hy,rfl⟩:=List.mem_map.1 hx;have:=kK y hy;omega)
  (λx hx=>by obtain ⟨y,hy,rfl⟩:=List.mem_map.1 hx;have:=y.toNat_lt;omega)
  (λi hi=>by
   rcases h1 with rfl|⟨g1,f1,h3,-,h1⟩
   .simp at hl;omega
   injection h3 with h3;subst h3;rw[Addr.add_lit,h1 i Y];simp only[List.getD_eq_getElem?_getD,List.getElem?_map,List.getElem?_eq_getElem (show i<l.length by omega),Option.map_some,Option.getD_some])
  (λi hi=>by
   rw[Addr.add_lit,Nat.zero_add,h2 i hi];have eS:i<s.data.toList.length:=Y;simp only[List.getD_eq_getElem?_getD,List.getElem?_map,List.getElem?_eq_getElem eS,Option.map_some,Option.getD_some]
   rfl)
  hn Y Y hm
 refine h.mono ?_;rintro e w' ⟨rfl,q,rfl⟩;refine ⟨ae ?_,⟨rfl,rfl,rfl,I,λ_ _=>rfl⟩⟩;unfold lV Lib.bytesOf;rw[List.map_map,List.map_map];have e1:(l.map ((λn:Int=>UInt8.ofNat n.toNat) ∘ λx:Nat=>(x:Int)))=l.map UInt8.ofNat:=List.map_congr_left λx _=>ξ;have e2:(s.data.toList.map ((λn:Int=>UInt8.ofNat n.toNat) ∘ λc:UInt8=>(c.toNat:Int)))=s.data.toList:=by
  conv=>rhs;rw[<-List.map_id s.data.toList]
  exact List.map_congr_left λx _=>ξ
 rw[e1,e2]
def PwB(w:World)(b b':Nat)(A1 A2:Option Addr)(n1 c1 n2 c2:Nat):Prop:=w.heap[b]?=some (.cells #[.slice A1 n1 c1] 28 (0,0))/\w.heap[b']?=some (.cells #[.slice A2 n2 c2] 28 (0,0))
theorem PwB.later{w w':World}{b b':Nat}{A1 A2:Option Addr}{n1 c1 n2 c2:Nat}(h:PwB w b b' A1 A2 n1 c1 n2 c2)(hb:Below w.heap.size w w'):PwB w' b b' A1 A2 n1 c1 n2 c2:=⟨(hb.block _ (γ h.1).1).trans h.1,(hb.block _ (γ h.2).1).trans h.2⟩
theorem JI(b b':Nat)(A1 A2:Option Addr)(n1 c1 n2 c2:Nat)(l1 l2:List Nat)(s:ByteArray)(w:World)(hb:PwB w b b' A1 A2 n1 c1 n2 c2)(Dp:l1.length=n1)(vO:l2.length=n2)(h1:∀x∈l1,x<256)(h2:∀x∈l2,x<256)(UR:Kt w A1 l1)(US:Kt w A2 l2)(hg:(A1=none->c1=0)/\(A2=none->c2=0))(hc:n1<=c1/\n2<=c2)(hn:n1<=900000/\n2<=900000)(hs:s.size<=1000000)(hv:dn w):
  Calls Tryz.prog 127 #[.string s,.pointer (some ⟨b,0,none⟩),.pointer (some ⟨b',0,none⟩)] w λe w'=>e=.returned (.bool (lV l1 s || lV l2 s))/\Below w.heap.size w w':=by
 have hcv:=λw=>Lib.run_convert_string_bytes (P:=Tryz.prog) w 9 28 5 s Tryz.underlying9 Tryz.underlying28 Tryz.underlying5;obtain ⟨W,C,B,hW,hC,hB,hcell,aT,Xo⟩:=dt w 5 s;have yd:Below w.heap.size w W:=hB▸aT;have Ls:=Z (qt A1 n1 c1 B C l1 s W Dp h1 (UR.later yd) hg.1 hc.1 hn.1 Y (λj hj=>hcell j hj) (hv.later yd));obtain ⟨z1,hz1⟩:∃z,lV l1 s=z:=⟨_,rfl⟩;rw[hz1]at Ls;obtain ⟨z2,hz2⟩:∃z,lV l2 s=z:=⟨_,rfl⟩;rw[hz1,hz2];have HZ2:=Z hz2;have b0:w.cell? ⟨b,0,none⟩=some (.slice A1 n1 c1):=by rw[cell_of_row _ _ _ _ _ _ hb.1];rfl
 have lb:b<w.heap.size:=(γ hb.1).1;have HB:=Z hb;have HH:=Z (H vO (H h2 (H (US.later yd) (H hg.2 (H hc.2 (H hn.2 (H hs (hv.later yd))))))));have b8:=Z yd;clear Dp vO h1 h2 UR US hg hc hn hs hv hcell aT Xo hz1 hz2 hb yd
 go_enter Tryz.func127,Tryz.ntmps127
 go_wp2_with fail;rw[<-hW,<-hC,<-hB];clear hW hC;refine Ls.out.mono ?_;rintro e w1 ⟨rfl,hb1⟩;have aX:=Z (b8.out.trans (hb1.mono b8.out.size));have aej:=Z hb1;clear hb1 b0 lb hB
 cases z1 with
 |true=>
  go_wp2_with fail;go_ret;exact ⟨rfl,aX.out⟩
 |false=>
  obtain ⟨W2,C2,B2,gK,Tv,Ku,mh,Ul,aek⟩:=dt w1 5 s;have zx:Below w1.heap.size w1 W2:=Ku▸Ul;have hv1:dn w1:=HH.out.2.2.2.2.2.2.2.later aej.out;have Lu:=Z (qt A2 n2 c2 B2 C2 l2 s W2 HH.out.1 HH.out.2.1 ((HH.out.2.2.1.later aej.out).later zx) HH.out.2.2.2.1 HH.out.2.2.2.2.1 HH.out.2.2.2.2.2.1 (by have:=HH.out.2.2.2.2.2.2.1;omega) (λj hj=>mh j hj) (hv1.later zx))
  rw[HZ2.out]at Lu;have aJ:=(aX.out.block _ (γ HB.out.2).1).trans HB.out.2;have b1:w1.cell? ⟨b',0,none⟩=some (.slice A2 n2 c2):=by rw[cell_of_row _ _ _ _ _ _ aJ];rfl
  have Um:b'<w1.heap.size:=(γ aJ).1;have ael:=Z zx;clear mh Ul aek zx hv1 aJ;go_wp2_with fail;rw[<-gK,<-Tv,<-Ku];clear gK Tv;refine Lu.out.mono ?_;rintro e w3 ⟨rfl,bW⟩;have jN:=Z (aX.out.trans ((ael.out.trans (bW.mono ael.out.size)).mono aX.out.size));clear bW b1 Um Ku;go_wp2_with fail;go_ret;exact ⟨rfl,jN.out⟩
theorem tJ(w:World)(o1 o2:Obj):((w.alloc o1).alloc o2).drew.heap[w.heap.size]?=some o1/\((w.alloc o1).alloc o2).drew.heap[w.heap.size+1]?=some o2:=by
 have h:=heap_alloc_new (w.alloc o1) o2;have e:(w.alloc o1).heap.size=w.heap.size+1:=ξ;rw[e]at h;exact ⟨(aB (w.alloc o1) o2 w.heap.size ξ).trans (heap_alloc_new w o1),h⟩
def Un(bs:List Nat)(a z nr:Nat)(s:ByteArray):Bool:=lV ((bs.drop (a-min nr bs.length)).take (min a (min nr bs.length))) s || lV ((bs.drop z).take (min (bs.length-z) (min nr bs.length))) s
def PQ(bs:List Nat)(a z:Nat)(hb:Bool)(en:Int)(ws:List ByteArray)(nr:Nat):Bool:=hb && (decide (en<=((BQ ((bs.drop a).take (z-a)):Nat):Int)) && (ws.isEmpty || ws.any (Un bs a z nr)))
def RP:Option Addr->Nat->Nat->Option Addr
 |some ⟨g,f,none⟩,c,k=>some ⟨g,if c-k=0 then f else f+k,none⟩
 |x,_,_=>x
theorem oX{A:Option Addr}{n c k z:Nat}{l:List Nat}{w:World}(h:eZ w (.slice A n c) l)(hn:l.length=n)(hz:z<=n):Kt w (RP A c k) ((l.drop k).take (z-k)):=by
 by_cases hk:k<z
 .obtain ⟨A',c',e0,hc,eH⟩:=h;injection e0 with e1 _ e3;subst e1 e3;obtain ⟨g,f,rfl,hg,bB⟩:=eH.resolve_left (by rintro rfl;simp at hn;omega)
  refine .inr ⟨g,f+k,by unfold RP;simp only;rw[if_neg Y],hg,λi hi=>?_⟩
  rw[List.length_take,List.length_drop]at hi;rw[Nat.add_assoc,bB (k+i) Y];simp
 .rw[show z-k=0 by omega,List.take_zero]
  exact .inl rfl
theorem Gz{A:Option Addr}{n c:Nat}{l:List Nat}{w:World}(h:Kt w A l)(hn:l.length=n)(kK:∀b∈l,b<256):
  (convert 28 9 (.slice A n c)).run Tryz.prog w=.ok (.string (bs (l.map UInt8.ofNat))) w:=by
 subst hn;rcases h with rfl|⟨g,f,rfl,-,hc⟩
 .cases A with
  |none=>exact run_convert_bytes_nil w 28 5 Tryz.underlying28 Tryz.underlying5 _ _ 9 Tryz.underlying9
  |some ad=>exact run_convert_bytes_back w 28 9 5 ad c [] Tryz.underlying28 Tryz.underlying5 Tryz.underlying9 λj hj=>absurd hj (Nat.not_lt_zero j)
 .have h:=run_convert_bytes_back (P:=Tryz.prog) w 28 9 5 ⟨g,f,none⟩ c (l.map UInt8.ofNat) Tryz.underlying28 Tryz.underlying5 Tryz.underlying9 (λj hj=>by
   have pJ:j<l.length:=by simpa using hj
   rw[Addr.add_lit,hc j pJ];simp only[List.getElem_map];have:=kK _ (List.getElem_mem pJ)
   congr 2
   rw[UInt8.toNat_ofNat'];omega)
  rwa [List.length_map]at h
theorem XH(args:Array Value)(w:World):(callFunc 127 args).run Tryz.prog w=.ok (.enter 127 args) w:=by rfl
theorem DD(u:KC)(ws:List ByteArray)(nr:Nat)(A:Option Addr)(n c a z:Nat)(l:List Nat)(hb:Bool)(w:World)(dV:eZ w (.slice A n c) l)(hA:(A=none/\c=0)\/∃g f,A=some ⟨g,f,none⟩)(hn:l.length=n)(kr:n<=900000)(kK:∀b∈l,b<256)(h1:a<=z)(h2:z<=n)(hw:pB w (.slice u.a3 u.n3 u.c3) ws)(sH:u.nr=(nr:Int))(aem:nr<=64)(hws:∀s∈ws,s.size<=1000000)(hv:dn w)
  (HH:∀W,Below w.heap.size w W->Calls Tryz.prog 125 #[.int .i64 u.ck,.string (rK l a z)] W λe w'=>e=.returned (.bool hb)/\Below W.heap.size W w') :
  Calls Tryz.prog 96 #[.agg #[.string u.nm,.int .i64 u.op,.slice u.a1 u.n1 u.c1,.slice u.a2 u.n2 u.c2,.int .i64 u.mn,.int .i64 u.mx,.bool u.wh,.int .i64 u.ck,.int .i64 u.en,.slice u.a3 u.n3 u.c3,.int .i64 u.nr],.slice A n c,.int .i64 (a:Int),.int .i64 (z:Int)] w λe w'=>e=.returned (.bool (PQ l a z hb u.en ws nr))/\Below w.heap.size w w':=by
 have hwl:u.n3=ws.length:=by obtain ⟨A3,c3,e,-⟩:=hw;injection e
 obtain ⟨em,De⟩:∃b,ws.isEmpty=b:=⟨_,rfl⟩;obtain ⟨an,R4⟩:∃b,ws.any (Un l a z nr)=b:=⟨_,rfl⟩;unfold PQ;rw[De,R4];have vq:=Z (H hwl (H De (H R4 (H hw (H sH (H hws (H hv (H dV (H hn kK)))))))));obtain ⟨A',c',e0,hc,-⟩:=id dV;injection e0 with e1 e2 e3;subst e1 e3;obtain ⟨p,hp,oG⟩:∃p,(l.drop a).take (z-a)=p/\p.length=z-a:=⟨_,rfl,by rw[List.length_take,List.length_drop];omega⟩
 have xL:rK l a z=bs (p.map UInt8.ofNat):=by unfold rK;rw[hp]
 obtain ⟨AP,hAP⟩:=ν (RP A c a);have Z8:=oX (k:=a) dV hn h2;rw[hp,hAP]at Z8;rw[hp];have ye:∀b∈p,b<256:=λb hb=>kK b (by rw[<-hp]at hb;exact List.mem_of_mem_drop (List.mem_of_mem_take hb))
 obtain ⟨CP,hCP⟩:=ν (c-a);have HM:=Z λW (hW:Below w.heap.size w W)=>BR AP (z-a) CP p W ⟨_,_,by rw[oG],Y,Z8.later hW⟩ oG ye Y
 rw[xL]at HH;obtain ⟨S,hS⟩:=ν (bs (p.map UInt8.ofNat));have hcv:∀W,Below w.heap.size w W->(convert 28 9 (.slice AP (z-a) CP)).run Tryz.prog W=.ok (.string S) W:=λW hW=>hS▸Gz (Z8.later hW) oG ye;obtain ⟨M,XI⟩:=ν (BQ p);rw[hS]at HH;rw[XI]at HM;rw[XI];have HHH:=Z HH;have Qq:=Z hcv;have HWI:=Z λW=>uf A n c a z W;have d1:decide (a<=z)=true:=decide_eq_true h1;have d2:decide (z<=n)=true:=decide_eq_true h2;rw[d1,d2]at HWI;have U8:(a:Int)<=(z:Int):=Y;have hzc:(z:Int)<=(c:Int):=Y;have Tw:c<=9223372036854775807:=hc.2;have XJ:a<=z:=h1;have XK:z<=n:=h2;have bB:l.length<=c:=hc.1;obtain ⟨x,hx⟩:∃x,decide ((M:Int)<u.en)=x:=⟨_,rfl⟩;have hxe:decide (u.en<=(M:Int))=!x:=by rw[<-hx,Bool.eq_iff_iff];simp
 rw[hxe];have Uo:(A=none/\c-a=0/\AP=none/\CP=0/\c=0)\/(∃g f,A=some ⟨g,f,none⟩/\c-a=0/\AP=some ⟨g,f,none⟩/\CP=0)\/∃g f,A=some ⟨g,f,none⟩/\¬c-a=0/\AP=some ⟨g,f+a,none⟩/\CP=c-a:=by
  rcases hA with ⟨rfl,h0⟩|⟨g,f,rfl⟩
  .exact .inl ⟨rfl,Y,hAP.symm,Y,h0⟩
  .by_cases h:c-a=0
   .exact .inr (.inl ⟨g,f,rfl,h,by rw[<-hAP];simp only[RP,h,if_true],Y⟩)
   .exact .inr (.inr ⟨g,f,rfl,h,by rw[<-hAP];simp only[RP,h,if_false],hCP.symm⟩)
 clear HH hcv dV Z8 hp ye oG xL hS XI d1 d2 hxe kK hc e2 h1 h2 hAP hA hCP;have HAZ:=Z (H XJ (H XK (H bB hn)));have HA3:=Z Uo;obtain ⟨SU,hSU⟩:∃SU:Nat->Option Addr,(λk=>RP A c k)=SU:=⟨_,rfl⟩;have Py:∀k,SU k=none->c-k=0:=λk hk=>by
  rw[<-hSU]at hk;rcases Uo with ⟨-,-,-,-,h0⟩|⟨g,f,h,-⟩|⟨g,f,h,-⟩
  .omega
  .rw[h]at hk;cases hk
  .rw[h]at hk;cases hk
 have HSU:=Z (H hSU Py);clear hSU Py;clear hw hwl De R4 sH hws hv XJ XK bB hn;rcases Uo with ⟨rfl,mI,rfl,rfl,-⟩|⟨g,f,rfl,mI,rfl,rfl⟩|⟨g,f,rfl,mI,rfl,rfl⟩
 all_goals
  go_enter Tryz.func96,Tryz.ntmps96
  go_wp2_with fail;refine aH λW0 aP=>?_;have hb0:Below w.heap.size w W0:=by rw[aP];exact υ.alloc I _
  have nW:Nf u w.heap.size W0:=by rw[aP];exact heap_alloc_new w _
  have H0:=Z (H hb0 nW);clear aP hb0 nW;refine (HWI.out W0).mono ?_;rintro e w1 ⟨rfl,rfl⟩
  go_upto_region 4 with fail
  have ow:=λd:aN w1.heap.size w1=>(H0.out.2.later d.ah).cells;have hd0:∀d:aN w1.heap.size w1,d.val.cell? ⟨w.heap.size,7,none⟩=some (.int .i64 u.ck):=λd=>(ow d).2.1.2.1;have hd1:∀d:aN w1.heap.size w1,d.val.cell? ⟨w.heap.size,8,none⟩=some (.int .i64 u.en):=λd=>(ow d).2.1.2.2.1;have kc:∀d:aN w1.heap.size w1,w.heap.size<d.val.heap.size:=λd=>(ow d).2.2;have Mv:=λd:aN w1.heap.size w1=>Qq.out d.val (H0.out.1.trans (d.ah.mono H0.out.1.size));have U9:=Z λd:aN w1.heap.size w1=>HHH.out d.val (H0.out.1.trans (d.ah.mono H0.out.1.size));have HA2:=Z λd:aN w1.heap.size w1=>HM.out d.val (H0.out.1.trans (d.ah.mono H0.out.1.size));clear ow
  cases hb with
  |false=>
   refine aq (Below.refl w1 w1) κ κ ?_
   repeat (go_big_quiet_step (fail))
   go_big_quiet_step ((go_at_call 125;exact Calls.bZ I (U9.out _)))
   repeat (go_big_quiet_step (fail))
   refine wpQuiet_nil ?_;intro w9 hw';have oF:Below w1.heap.size w1 w9:=by obtain ⟨d9,rfl⟩:=hw';exact d9.ah
   have lT:=Z (H0.out.1.trans (oF.mono H0.out.1.size));clear hw' hd0 hd1 kc Mv oF;go_wp2_with fail;go_ret;exact ⟨rfl,lT.out⟩
  |true=>
   refine aq (Below.refl w1 w1) κ κ ?_
   repeat (go_big_quiet_step (fail))
   go_big_quiet_step ((go_at_call 125;exact Calls.bZ I (U9.out _)))
   repeat (go_big_quiet_step (fail))
   go_big_quiet_step ((go_at_call 126;exact Calls.bZ I (HA2.out _)))
   repeat (go_big_quiet_step (fail))
   refine wpQuiet_nil ?_;intro w9 hw';have oF:Below w1.heap.size w1 w9:=by obtain ⟨d9,rfl⟩:=hw';exact d9.ah
   have lT:=Z (H (H0.out.1.trans (oF.mono H0.out.1.size)) (H0.out.2.later oF));clear hw' hd0 hd1 kc Mv oF;obtain ⟨⟨c0,c1,c2,c3,c4,c5⟩,⟨c6,c7,c8,c9,mR⟩,lb⟩:=lT.out.2.cells
   cases x with
   |true=>
    go_wp2_with fail;go_ret;exact ⟨rfl,lT.out.1⟩
   |false=>
   cases em with
   |true=>
    have Gb:u.n3=0:=by rw[vq.out.1,List.isEmpty_iff.1 vq.out.2.1];rfl
    have ht:((u.n3:Int) == 0)=true:=by rw[Gb];rfl
    have HN3:=Z Gb;clear Gb;go_wp2_with fail;go_ret;exact ⟨rfl,lT.out.1⟩
   |false=>
    have ht:((u.n3:Int) == 0)=false:=by
     rw[vq.out.1];have hne:ws≠[]:=by intro e;have:=vq.out.2.1;rw[e]at this;cases this
     have:=List.length_pos_iff.2 hne;simp;omega
    rw[vq.out.2.2.2.2.1]at mR;obtain ⟨XJ,XK,Nc,lI⟩:=HAZ.out;obtain ⟨N,hN⟩:=ν (min nr n);have hNb:N<=64/\N<=n:=Y;have hmn:min (nr:Int) (n:Int)=(N:Int):=Y;have HN:=Z hN;clear hN
    go_upto_region 9 with fail
    obtain ⟨F0,Z9⟩:=ν (a-N);obtain ⟨Z2,hZ2⟩:=ν (min (z+N) n);have hmx:max ((a:Int) - (N:Int)) 0=(F0:Int):=Y;have Kk:min ((z:Int)+(N:Int)) (n:Int)=(Z2:Int):=Y;have qM:(F0:Int)<=(a:Int):=Y;have vN:(a:Int)<=(c:Int):=Y;have Ho:(z:Int)<=(Z2:Int):=Y;have hs4:(Z2:Int)<=(c:Int):=Y;have HFZ:=Z (H Z9 hZ2);obtain ⟨AF,hAF⟩:=ν (SU F0);obtain ⟨AZ,hAZ⟩:=ν (SU z);have Py:(AF=none->c-F0=0)/\(AZ=none->c-z=0):=⟨λh=>HSU.out.2 F0 (hAF.trans h),λh=>HSU.out.2 z (hAZ.trans h)⟩;rw[<-HSU.out.1]at hAF hAZ
    dsimp only at hAF hAZ
    have hFa:=hAF▸oX (k:=F0) (z:=a) vq.out.2.2.2.2.2.2.2.1 vq.out.2.2.2.2.2.2.2.2.1 Y;have hZa:=hAZ▸oX (k:=z) (z:=Z2) vq.out.2.2.2.2.2.2.2.1 vq.out.2.2.2.2.2.2.2.2.1 Y;have Tg:=Z (show ∀(W:World) (x y:Nat),Below w9.heap.size w9 W->PwB W x y AF AZ (a-F0) (c-F0) (Z2-z) (c-z)->Calls Tryz.prog 113 #[.slice u.a3 u.n3 u.c3,.func (.func 127) #[] #[.pointer (some ⟨x,0,none⟩),.pointer (some ⟨y,0,none⟩)]] W λe w'=>e=.returned (.bool an)/\Below W.heap.size W w' from λW x y hW hp=>by
     obtain ⟨-,-,R4,cB,-,hsz,hvv,-,lI,kK⟩:=vq.out;have aY:=lT.out.1.trans (hW.mono lT.out.1.size);rw[<-R4];refine containsS 127 _ ws (Un l a z nr) _ W (cB.later aY) ⟨XH,λs hs W2 gK=>?_⟩;unfold Un;have DL:=aY.trans (gK.mono aY.size);have hNe:min nr l.length=N:=by rw[lI];exact HN.out
     rw[hNe];have e1:(l.drop (a-N)).take (min a N)=(l.drop F0).take (a-F0):=by rw[Z9,show min a N=a-F0 by omega]
     have e2:(l.drop z).take (min (l.length-z) N)=(l.drop z).take (Z2-z):=by rw[show min (l.length-z) N=Z2-z by omega]
     rw[e1,e2];exact JI x y AF AZ (a-F0) (c-F0) (Z2-z) (c-z) _ _ s W2 (hp.later gK) (by rw[List.length_take,List.length_drop];omega) (by rw[List.length_take,List.length_drop];omega) (λb hb=>kK b (List.mem_of_mem_drop (List.mem_of_mem_take hb))) (λb hb=>kK b (List.mem_of_mem_drop (List.mem_of_mem_take hb))) (hFa.later DL) (hZa.later DL) Py ⟨Y,Y⟩ ⟨Y,Y⟩ (hsz s hs) (hvv.later DL))
    clear Z9 hZ2 hFa hZa Py Nc lI;by_cases Vu:c-F0=0
    all_goals
     by_cases Z4:c-z=0
     all_goals try (exfalso;omega)
     all_goals
      simp only[RP,Vu,Z4,if_true,if_false]at hAF hAZ
      try simp only[Vu]at Tg
      try simp only[Z4]at Tg
      subst hAF hAZ
      go_region
      all_goals
       go_wp2_with fail;refine aH λW3 mK=>?_;have bW:Below w9.heap.size w9 W3:=by rw[mK];exact ((υ.alloc I _).alloc ξ _).drew
       have jN:=Z (lT.out.1.trans (bW.mono lT.out.1.size));refine (Tg.out W3 _ _ bW ⟨?h1,?h2⟩).mono ?_
       case h1=>rw[mK];first|exact (tJ w9 _ _).1|exact (tJ w9 _ _).2
       case h2=>rw[mK];first|exact (tJ w9 _ _).1|exact (tJ w9 _ _).2
       rintro e w5 ⟨rfl,jq⟩;have Vz:=Z (jN.out.trans (jq.mono jN.out.size));clear bW jq mK;go_wp2_with fail;go_ret;exact ⟨rfl,Vz.out⟩
theorem Gy{l:List Nat}{s:ByteArray}:lV l s=true↔∃i,i+s.size<=l.length/\bs (((l.drop i).take s.size).map UInt8.ofNat)=s:=by
 unfold lV Lib.contains;rw[decide_eq_true_eq];have hl:(l.map UInt8.ofNat).length=l.length:=ξ;have hs:s.data.toList.length=s.size:=ξ;have acN:∀i,i<=l.length->(Lib.occAt (l.map UInt8.ofNat) s.data.toList i=true↔i+s.size<=l.length/\bs (((l.drop i).take s.size).map UInt8.ofNat)=s):=λi hi=>by
  unfold Lib.occAt;rw[List.isPrefixOf_iff_prefix,List.prefix_iff_eq_take,hs,<-List.map_drop,<-List.map_take];constructor
  .intro h;have h2:=congrArg List.length h;rw[hs,List.length_map,List.length_take,List.length_drop]at h2;exact ⟨Y,by rw[<-h];rfl⟩
  .rintro ⟨-,h⟩;have h2:=congrArg bl h;rw[mA]at h2;exact h2.symm
 constructor
 .intro h;rcases Lib.index_spec (l.map UInt8.ofNat) s.data.toList with ⟨h1,-⟩|⟨i,h1,h2,h3,-⟩
  .omega
  .rw[hl]at h2;exact ⟨i,(acN i h2).1 h3⟩
 .rintro ⟨i,h1,h2⟩;rcases Lib.index_spec (l.map UInt8.ofNat) s.data.toList with ⟨-,h4⟩|⟨j,h3,-⟩
  .have h5:=h4 i (by rw[hl];omega)
   rw[(acN i Y).2 ⟨h1,h2⟩]at h5
   cases h5
  .omega
theorem rq{g f n c i k:Nat}{l:List Nat}{w:World}(h1:Kt w (some ⟨g,f,none⟩) l)(kK:∀b∈l,b<256)(hl:l.length=n)(hc:n<=c)(hi:i+k<=n):
  (convert 28 9 (.slice (some ⟨g,if c-i=0 then f else f+i,none⟩) k (c-i))).run Tryz.prog w=.ok (.string (bs (((l.drop i).take k).map UInt8.ofNat))) w:=by
 have tH:((l.drop i).take k).length=k:=by rw[List.length_take,List.length_drop];omega
 refine Gz (n:=k) ?_ tH (λb hb=>kK b (List.mem_of_mem_drop (List.mem_of_mem_take hb)));by_cases hk:k=0
 .left;subst hk;exact List.take_zero
 .obtain ⟨g',f',e,hg,bB⟩:=h1.resolve_left (by rintro rfl;simp at hl;omega)
  injection e with e;injection e with e1 e2 _;subst e1 e2;refine .inr ⟨g,f+i,by rw[if_neg Y],hg,λj hj=>?_⟩
  rw[tH]at hj;rw[Nat.add_assoc,bB (i+j) Y];simp
def ZD(l:List Nat)(i k:Nat):ByteArray:=bs (((l.drop i).take k).map UInt8.ofNat)
theorem GA(g f n c:Nat)(l:List Nat)(s:ByteArray)(w:World)(hl:l.length=n)(kK:∀b∈l,b<256)(h1:Kt w (some ⟨g,f,none⟩) l)(hc:n<=c/\c<=9223372036854775807)(hn:n<=900000)(hs:s.size<=1000000):
  Calls Tryz.prog 33 #[.slice (some ⟨g,f,none⟩) n c,.string s] w λe w'=>e=.returned (.bool (lV l s))/\w'=w:=by
 obtain ⟨R,hR⟩:=ν (lV l s);rw[hR];have HR:=Z (H hR hl);have HC:=Z (λi (hi:i+s.size<=n)=>rq (c:=c) (i:=i) (k:=s.size) h1 kK hl hc.1 hi);obtain ⟨lY,qD⟩:=hc;clear h1 kK hl hR
 go_enter Tryz.func33,Tryz.ntmps33
 go_wp2_with fail;go_loopw [5] (λiv wr=>∃k:Nat,k<=n+1/\iv=.int .i64 (k:Int)/\Hid (∀i,i<k->i+s.size<=n->ZD l i s.size≠s)/\wr=w) (λiv _=>n+1 - (intOf iv).toNat)
 case atStart=>exact ⟨0,Y,rfl,λi hi=>absurd hi (Nat.not_lt_zero _),rfl⟩
 case round=>
  obtain ⟨k,hk,rfl,HI,rfl⟩:=hrel;by_cases hlt:k+s.size<=n
  .have hd:decide ((k:Int)+(s.size:Int)<=(n:Int))=true:=τ;have hcv:=HC.out k hlt;have hks:(k:Int)<=(k:Int)+(s.size:Int):=Y;have rY:(k:Int)+(s.size:Int)<=(c:Int):=Y;have hw:wrap64 ((k:Int)+(s.size:Int))=(k:Int)+(s.size:Int):=IntWalk.wrap64_in _ Y;have ew:wrap64 ((k:Int)+1)=(k:Int)+1:=IntWalk.wrap64_in _ Y;have zW:((k:Int)+(s.size:Int) - (k:Int)).toNat=s.size:=Y;have qB:=Z (show ZD l k s.size≠s->∀i,i<k+1->i+s.size<=n->ZD l i s.size≠s from λh i hi hb=>by
    by_cases e:i=k
    .subst e;exact h
    .exact HI.out i Y hb)
   have HI3:=Z (show ZD l k s.size=s->R=true from λh=>by rw[<-HR.out.1];exact Gy.2 ⟨k,by rw[HR.out.2];exact hlt,h⟩)
   have hpt:bs (((l.drop k).take s.size).map UInt8.ofNat)=ZD l k s.size:=rfl;rw[hpt]at hcv;obtain ⟨S,hS⟩:=ν (ZD l k s.size);rw[hS]at hcv qB HI3;clear hpt hS HI;by_cases vV:c-k=0
   all_goals
    simp only[vV,if_true,if_false]at hcv;by_cases ZE:S=s
    .have e2:(S.toList == s.toList)=true:=by simp[ZE]
     have HSs:=Z ZE;clear ZE;go_wp2_with fail;go_ret;exact ⟨ae (HI3.out HSs.out).symm,rfl⟩
    .have e2:(S.toList == s.toList)=false:=by
      rw[beq_eq_false_iff_ne,iw,iw];exact λh=>ZE (EJ h)
     have HSs:=Z ZE;clear ZE;go_wp2_with fail;go_roundw
     case rel=>exact ⟨k+1,Y,by go_num,qB.out HSs.out,trivial⟩
     case measure=>exact μ
  .have hd:decide ((k:Int)+(s.size:Int)<=(n:Int))=false:=θ;have hw:wrap64 ((k:Int)+(s.size:Int))=(k:Int)+(s.size:Int):=IntWalk.wrap64_in _ Y;have HF:=Z (show R=false from by
    rw[<-HR.out.1,Bool.eq_false_iff];intro h;obtain ⟨i,h1,h2⟩:=Gy.1 h;rw[HR.out.2]at h1;exact HI.out i Y h1 h2)
   go_wp2_with fail;go_ret;exact ⟨ae HF.out.symm,rfl⟩
structure Ask where
 ck:Int
 en:Int
 ws:List ByteArray
 nr:Nat
def PO(l:List Nat)(k:Ask)(a z:Nat):Bool:=PQ l a z (DC k.ck (bl (rK l a z))) k.en k.ws k.nr
def amL(k k':Ask):Prop:=(k'.ck=0\/k'.ck=k.ck)/\(k'.en<=k.en\/k'.en<=0)/\(k'.ws=[]\/(k'.nr=k.nr/\k.ws≠[]/\∃t,k'.ws=k.ws++t))
structure YD (w:World) (u:KC) (k:Ask):Prop where
 ck:u.ck=k.ck
 en:u.en=k.en
 ws:pB w (.slice u.a3 u.n3 u.c3) k.ws
 nr:u.nr=(k.nr:Int)
 n64:k.nr<=64
 wl:∀s∈k.ws,s.size<=1000000
theorem YD.later{w w':World}{u:KC}{k:Ask}(h:YD w u k)(hb:Below w.heap.size w w'):YD w' u k:=⟨h.ck,h.en,h.ws.later hb,h.nr,h.n64,h.wl⟩
structure YE (w:World) (A:Option Addr) (n c:Nat) (l:List Nat):Prop where
 jo:eZ w (.slice A n c) l
 ad:(A=none/\c=0)\/∃g f,A=some ⟨g,f,none⟩
 len:l.length=n
 small:n<=900000
 bt:∀b∈l,b<256
theorem YE.later{w w':World}{A:Option Addr}{n c:Nat}{l:List Nat}(h:YE w A n c l)(hb:Below w.heap.size w w'):YE w' A n c l:=⟨h.jo.later hb,h.ad,h.len,h.small,h.bt⟩
theorem PR(u:KC)(k:Ask)(A:Option Addr)(n c a z:Nat)(l:List Nat)(w:World)(ht:YE w A n c l)(h1:a<=z)(h2:z<=n)(hk:YD w u k)(hv:dn w):
  Calls Tryz.prog 96 #[.agg #[.string u.nm,.int .i64 u.op,.slice u.a1 u.n1 u.c1,.slice u.a2 u.n2 u.c2,.int .i64 u.mn,.int .i64 u.mx,.bool u.wh,.int .i64 u.ck,.int .i64 u.en,.slice u.a3 u.n3 u.c3,.int .i64 u.nr],.slice A n c,.int .i64 (a:Int),.int .i64 (z:Int)] w λe w'=>e=.returned (.bool (PO l k a z))/\Below w.heap.size w w':=by
 unfold PO;rw[<-hk.ck,<-hk.en];refine DD u k.ws k.nr A n c a z l _ w ht.jo ht.ad ht.len ht.small ht.bt h1 h2 hk.ws hk.nr hk.n64 hk.wl hv λW _=>?_;refine Hp u.ck (rK l a z) W ?_;unfold rK;rw[df,List.length_map,List.length_take,List.length_drop];have:=ht.small;have:=ht.len;omega
end Go.Proofs.YtdmoogjddmdmbaaGreatDoor
