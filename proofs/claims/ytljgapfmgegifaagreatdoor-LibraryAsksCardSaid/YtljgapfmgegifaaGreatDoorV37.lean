/- The law LibraryAsks: the call returns true, for every tape and number. -/
import Derived.Test.YtljgapfmgegifaaGreatDoorV32
import Derived.Test.YtljgapfmgegifaaGreatDoorV33
import Derived.Test.YtljgapfmgegifaaGreatDoorV36
import Derived.Test.YtljgapfmgegifaaGreatDoorV29
import Derived.Test.YtljgapfmgegifaaGreatDoorV14
import Derived.Test.YtljgapfmgegifaaGreatDoorV11
import Derived.Test.YtljgapfmgegifaaGreatDoorV04
namespace Go.Proofs.YtljgapfmgegifaaGreatDoor
set_option linter.unusedVariables false
set_option linter.unusedSimpArgs false
set_option maxRecDepth 100000
open Go.RowKit
def e1S:ByteArray:=⟨#[101]⟩
structure AkI (b:Nat) (w3:World) (u u':KC) (k':Ask) (wx:World):Prop where
 bl:Below w3.heap.size w3 wx
 b0:bxU u w3.heap.size wx
 b1:bxU u' (w3.heap.size+1) wx
 pt:∀W,Stay b wx W->PsK W u' k'
theorem nodes_one (nd:Nd):0<min (nodesT nd) 201:=by
 cases nd
 rw[nodesT];omega
theorem setU {u':KC} {K j:Nat} {v:Value} {u:KC} {w:World} (h:bxU u K w) (e:u.row.setIfInBounds j v=u'.row):bxU u' K (w.setCell ⟨K,j,none⟩ v):=by
 have:=set_row_at (show w.heap[K]?=some (.cells u.row 34 (0,0)) from h) j v;rw[e]at this;exact this
theorem set_below {K N j:Nat} {v:Value} {w w':World} (h:Below N w w') (hK:N<=K):Below N w (w'.setCell ⟨K,j,none⟩ v):=
 ⟨h.os,h.tape,h.output,by simpa [World.setCell] using h.size,λk hk=>(Below.heap_setCell _ _ _ _ (by dsimp only;omega)).trans (h.block k hk)⟩
theorem setk_other {K k j:Nat} {v:Value} {w:World} (h:k≠K):(w.setCell ⟨K,j,none⟩ v).heap[k]?=w.heap[k]?:=Below.heap_setCell _ _ _ _ (by dsimp only;omega)
theorem lessW {k k':Ask} (h1:k'.ws=k.ws) (h2:k'.nr=k.nr):k'.ws=[]\/(k'.nr=k.nr/\k.ws≠[]/\∃t,k'.ws=k.ws++t):=by
 by_cases h:k.ws=[]
 .exact .inl (h1.trans h)
 .exact .inr ⟨h2,h,[],by rw[h1,List.append_nil]⟩
theorem AkI.set {b:Nat} {w3 wx:World} {u u' u'':KC} {k' k'':Ask} {j:Nat} {v:Value} (h:AkI b w3 u u' k' wx) (e:u'.row.setIfInBounds j v=u''.row) (hp:∀W,Stay b w3 W->Stay b (wx.setCell ⟨w3.heap.size+1,j,none⟩ v) W->PsK W u'' k''):AkI b w3 u u'' k'' (wx.setCell ⟨w3.heap.size+1,j,none⟩ v):=by
 have hb:=set_below (j:=j) (v:=v) h.bl (show w3.heap.size<=w3.heap.size+1 by omega)
 exact ⟨hb,(setk_other (by omega)).trans h.b0,setU h.b1 e,λW hW=>hp W ((Stay.of_below hb).trans hW) hW⟩
theorem AkI.later {b:Nat} {w3 wx W:World} {u u':KC} {k':Ask} (h:AkI b w3 u u' k' wx) (hb:Below wx.heap.size wx W):AkI b w3 u u' k' W:=⟨h.bl.trans (hb.mono h.bl.size),h.b0.later hb,h.b1.later hb,λW' hW=>h.pt W' ((Stay.of_below hb).trans hW)⟩
set_option maxHeartbeats 16000000 in
theorem asks_law (A:Option Addr) (n c:Nat) (what:Int) (w:World) (ht:TapeArg A n w) (hv:VrOK w) :
  Calls Tryz.prog 4 #[.slice A n c, .int .i64 what] w λe w'=>e = .returned (.bool true)/\Below w.heap.size w w':=by
 have h0:=tape_new (c:=c) ht;have hb0:=(Below.refl w.heap.size w).alloc (Nat.le_refl _) (.cells #[.slice A n c, .int .i64 0] 25);have hz0:(w.alloc (.cells #[.slice A n c, .int .i64 0] 25)).heap.size=w.heap.size+1:=by simp
 generalize hw0:w.alloc (.cells #[.slice A n c, .int .i64 0] 25)=w0 at h0 hb0 hz0;have HW0:=Lib.hid hw0;have HV:=Lib.hid hv;have HB0:=Lib.hid (And.intro hb0 hz0);clear hv ht
 go_enter Tryz.func4,Tryz.ntmps4
 go_upto_region 2 with fail
 clear hw0 hz0;go_wp2_with fail;refine (kindsN_any w.heap.size w0 h0).mono ?_;rintro e w1 ⟨v,us,ks,rfl,hul,hlk,hkv,hkn,hkd,ht1,hf1⟩;obtain ⟨-,Ak,ck,rfl,hck,-,-⟩:=hkn w1 (Stay.refl _ _);have hkv':=λW (hs:Stay w.heap.size w1 W)=>hkv.later hs;have H1:=Lib.hid (And.intro hkn (And.intro hkd (And.intro ht1 (And.intro hf1 (And.intro hul (And.intro hlk hkv'))))));obtain ⟨nk,hnk⟩:∃n,us.length=n:=⟨_,rfl⟩;rw[hnk]at hck hul|-;have HNK:=Lib.hid (And.intro hnk hul);clear hkn hkd hf1 hb0 h0 hlk hnk hkv hul hkv';go_wp2_with fail;refine (between_any w.heap.size 1 4 w1 (by decide) (by decide) (by decide) (by decide) ht1).mono ?_
 rintro e w2 ⟨r,rfl,hr1,hr2,ht2,hf2⟩;obtain ⟨np,rfl⟩:∃np:Nat,r=(np:Int):=⟨r.toNat,by omega⟩
 clear ht1;have HK2:=Lib.hid (H1.out.2.2.2.2.2.2 w2 (Stay.of_fr hf2));go_wp2_with fail;refine (text_any w.heap.size np _ w2 (by have h:=HK2.out;rwa [HNK.out.1]at h) (by omega) ht2).mono ?_
 rintro e w3 ⟨v3,l3,rfl,hl3,hown3,ht3,hf3⟩;have hw23:w.heap.size<w2.heap.size:=by have h1:=hf2.size;have h2:=H1.out.2.2.2.1.size;have h3:=HB0.out.2;omega
 obtain ⟨A3,c3,rfl,-⟩:=txI_of_OB (e:=5) hown3 hw23 (by omega) (Stay.refl _ _)
 have HTX:=Lib.hid λW (hs:Stay w.heap.size w3 W)=>(by
  obtain ⟨A',c',e,h⟩:=txI_of_OB (e:=5) hown3 hw23 (by omega) hs
  injection e with e1 _ e3;subst e1 e3;exact h:TxI W A3 l3.length c3 (l3.map UInt8.toNat))
 obtain ⟨nt,hnt⟩:∃n,l3.length=n:=⟨_,rfl⟩;obtain ⟨lt,hlt⟩:∃l,l3.map UInt8.toNat=l:=⟨_,rfl⟩;rw[hnt,hlt]at HTX;rw[hnt]at hl3|-;have hnt9:nt<=120:=by omega
 have hst3:Stay w.heap.size w1 w3:=(Stay.of_fr hf2).trans (Stay.of_fr hf3);have hf03:=(H1.out.2.2.2.1.trans hf2).trans hf3;have H3:=Lib.hid (And.intro ht3 (And.intro hf03 hst3));clear ht2 hf2 ht3 hf3 hown3 hw23 hnt hlt hl3 hf03 HK2 hr1 hr2;obtain ⟨-,Ak',ck',e9,-,hr9,-⟩:=H1.out.1 w3 hst3;injection e9 with e9 e8 e9';clear e8;subst e9 e9';have hu0:0<us.length:=by have:=HNK.out;omega
 obtain ⟨g,f,rfl,hg,hcl⟩:=hr9.resolve_left (λe=>by rw[e]at hu0;simp at hu0)
 obtain ⟨u,hu⟩:∃u,us[0]=u:=⟨_,rfl⟩;have hcl':=hcl 0 hu0;rw[hu]at hcl';obtain ⟨⟨q0,q1,q2,q3,q4,q5⟩,q6,q7,q8,q9,q10⟩:=kc_cells hcl';rw[Nat.zero_mul,Nat.add_zero]at q0 q1 q2 q3 q4 q5 q6 q7 q8 q9 q10;have hk0:0<ks.length:=by have:=H1.out.2.2.2.2.2.1;omega
 have hnk0:0<nk:=by have:=HNK.out;omega
 have hknu:∀W,Stay w.heap.size w3 W->KnIn W u ks[0]:=λW hW=>by
  obtain ⟨-,_,_,-,-,-,h⟩:=H1.out.1 W (H3.out.2.2.trans hW);rw[<-hu];exact h 0 hu0 hk0
 obtain ⟨⟨a1,a2⟩,⟨a3,a4⟩,a5⟩:=(H1.out.2.1 0 hk0).2.2;have hwl:(∀s∈ks[0].ws,s.size<=1000000)/\ks[0].ws.length<=2:=by
  rcases a5 with ⟨h,-⟩ | ⟨h,-⟩ | ⟨h,-⟩
  .rw[h];exact ⟨(λs hs=>absurd hs (by simp)),by decide⟩
  .rw[h];exact ⟨by decide,by decide⟩
  .rw[h];exact ⟨by decide,by decide⟩
 obtain ⟨nr,hnr,hn64⟩:∃nr:Nat,ks[0].nr=(nr:Int)/\nr<=64:=⟨ks[0].nr.toNat,by rcases a5 with ⟨-,h2⟩ | ⟨-,h2,h3⟩ | ⟨-,h2,h3⟩ <;> omega,by rcases a5 with ⟨-,h2⟩ | ⟨-,h2,h3⟩ | ⟨-,h2,h3⟩ <;> omega⟩
 obtain ⟨k,hk⟩:∃k:Ask,(⟨ks[0].ck,ks[0].en,ks[0].ws,nr⟩:Ask)=k:=⟨_,rfl⟩;have hps:∀W,Stay w.heap.size w3 W->PsK W u k:=λW hW=>by
  have h:=hknu W hW;subst hk;exact ⟨h.ck,h.en,h.ws,h.nr.trans hnr,hn64,hwl.1⟩
 have hw2:k.ws.length<=2:=by subst hk;exact hwl.2
 have ha34:0<=k.en/\k.en<=196608:=by subst hk;exact ⟨a3,a4⟩
 have HPS:=Lib.hid (And.intro hps (And.intro hw2 (And.intro ha34 hknu)));have huen:0<=u.en/\u.en<=196608:=by have:=(hps w3 (Stay.refl _ _)).en;omega
 clear hcl hcl' hr9 hu hknu a1 a2 a3 a4 a5 hnr hn64 hwl hk hps hw2 ha34 hst3;obtain ⟨z0,hz0⟩:∃z,(bits .and .i64 what 3 == 0)=z:=⟨_,rfl⟩;obtain ⟨z1,hz1⟩:∃z,(bits .and .i64 what 3 == 1)=z:=⟨_,rfl⟩;obtain ⟨z2,hz2⟩:∃z,(bits .and .i64 what 3 == 2)=z:=⟨_,rfl⟩
 go_upto_block 0 with fail
 refine wp_nm λW hW=>?_;obtain ⟨hbW,hzW,hB0,hB1⟩:=two_box hW;have hAk:AkI w.heap.size w3 u u k W:=⟨hbW,hB0,hB1,λW' hW'=>HPS.out.1 W' ((Stay.of_below hbW).trans hW')⟩;have HAK:=Lib.hid hAk;have HZW:=Lib.hid hzW;clear hW hbW hzW hB0 hB1 hAk q0 q1 q2 q3 q4 q5 q6 q7 q8 q9 q10;obtain ⟨z3,hz3⟩:∃z,decide ((0:Int)<(u.n3:Int))=z:=⟨_,rfl⟩;have hz3n:decide (0<u.n3)=z3:=by rw[<-hz3];exact decide_eq_decide.2 (by omega)
 obtain ⟨z4,hzt⟩:∃z,((u.n3:Int) == 0)=z:=⟨_,rfl⟩;have hz4a:decide (u.n3=0)=z4:=by rw[<-hzt,Bool.eq_iff_iff,beq_iff_eq,decide_eq_true_eq];omega
 have hz4b:decide ((u.n3:Int)=0)=z4:=by rw[<-hzt,Bool.eq_iff_iff,beq_iff_eq,decide_eq_true_eq]
 have hz4c:(u.n3 == 0)=z4:=by rw[<-hzt,Bool.eq_iff_iff,beq_iff_eq,beq_iff_eq];omega
 have hn3:u.n3=k.ws.length:=by obtain ⟨A3,c3,e,-⟩:=(HPS.out.1 w3 (Stay.refl _ _)).ws;injection e
 have HZ3:=Lib.hid (And.intro hn3 (And.intro hz3 hzt));clear hn3
 go_cut [] from 29 to 57 (λwx=>∃(u':KC) (k':Ask),Hid (AkI w.heap.size w3 u u' k' wx)/\Hid (LessA k k'))
 case first=>
  obtain ⟨⟨x0,x1,x2,x3,x4,x5⟩,⟨x6,x7,x8,x9,x10⟩,lx⟩:=HAK.out.b0.cells;obtain ⟨⟨y0,y1,y2,y3,y4,y5⟩,⟨y6,y7,y8,y9,y10⟩,ly⟩:=HAK.out.b1.cells;have fr:∀j,W.frozen? ⟨w3.heap.size+1,j,none⟩=false:=λj=>by
   have h:=HAK.out.b1;unfold bxU at h;simp[World.frozen?,h]
  have fr7:=fr 7;have fr8:=fr 8;have fr9:=fr 9;have fr10:=fr 10;clear fr
  cases z0 with
  | true=>
   go_wp2_with fail
   go_meet
   case rel=>exact ⟨{ u with ck:=0 },{ k with ck:=0 },HAK.out.set rfl (λW' hW' _=>by have h:=HPS.out.1 W' hW';exact ⟨rfl,h.en,h.ws,h.nr,h.n64,h.wl⟩), .inl rfl, .inl (Int.le_refl _),lessW rfl rfl⟩
  | false=>
  cases z1 with
  | true=>
   go_wp2_with fail
   go_meet
   case rel=>exact ⟨{ u with en:=u.en / 2 },{ k with en:=k.en / 2 },HAK.out.set rfl (λW' hW' _=>by have h:=HPS.out.1 W' hW';exact ⟨h.ck,by show u.en / 2=k.en / 2;rw[h.en],h.ws,h.nr,h.n64,h.wl⟩), .inr rfl, .inl (by have:=HPS.out.2.2.1;show k.en / 2<=k.en;omega),lessW rfl rfl⟩
  | false=>
  cases z2 with
  | true=>
   have hA0:=HAK.out.set (j:=10) (v:=.int .i64 0) (u'':={ u with nr:=0 }) (k'':={ k with nr:=0 }) rfl (λW' hW' _=>by have h:=HPS.out.1 W' hW';exact ⟨h.ck,h.en,h.ws,rfl,Nat.zero_le _,h.wl⟩)
   have HA0:=Lib.hid hA0
   cases z3 with
   | true=>
    go_wp2_with fail
    go_meet
    case rel=>exact ⟨{ u with nr:=0,a3:=none,n3:=0,c3:=0 },{ k with nr:=0,ws:=[] },HA0.out.set rfl (λW' hW' _=>by have h:=HPS.out.1 W' hW';exact ⟨h.ck,h.en,StIn.nil_ _,rfl,Nat.zero_le _,λs hs=>by cases hs⟩), .inr rfl, .inl (Int.le_refl _), .inl rfl⟩
   | false=>
    have hws:k.ws=[]:=by
     have h1:=HZ3.out.1;have h2:=of_decide_eq_false HZ3.out.2.1;exact List.length_eq_zero_iff.1 (by omega)
    go_wp2_with fail
    go_meet
    case rel=>exact ⟨{ u with nr:=0 },{ k with nr:=0 },HA0.out, .inr rfl, .inl (Int.le_refl _), .inl hws⟩
  | false=>
   clear x0 x1 x2 x3 x4 x5 x6 x7 x8 x9 x10 y0 y1 y2 y3 y4 y5 y6 y7 y8 y9 y10 fr7 fr8 fr9 fr10 lx ly;have hS0:Below W.heap.size W W.drew:=(Below.refl _ _).drew;obtain ⟨ws,hws⟩:∃ws,k.ws=ws:=⟨_,rfl⟩;have HBX:=Lib.hid (show AkI w.heap.size w3 u u k W from HAK.out);have HPW:=Lib.hid (λ(W':World) (hb:Below W.heap.size W W')=>hws▸(HAK.out.pt W' (Stay.of_below hb)).ws);have HWS:=Lib.hid hws;have HWL:=Lib.hid (show ws.length<=2 from hws▸HPS.out.2.1);have hb1:Below W.heap.size W (W.alloc (.cells #[] 9)):=(Below.refl _ _).alloc (Nat.le_refl _) _;have hown0:OSw W.heap.size (.slice (some ⟨W.heap.size,0,none⟩) 0 0) [] (W.alloc (.cells #[] 9)):=⟨rfl, .inr ⟨W.heap.size,0,#[],rfl,Nat.le_refl _,heap_alloc_new W _,Nat.le_refl _,by decide,rfl,rfl⟩⟩
   have hst0:=HPW.out _ hb1;obtain ⟨⟨x0,x1,x2,x3,x4,x5⟩,⟨x6,x7,x8,x9,x10⟩,lx⟩:=HAK.out.b0.cells;have hzW:W.heap.size<=(W.alloc (.cells #[] 9)).heap.size:=hb1.size;have HWX:=Lib.hid (And.intro hb1 (And.intro hown0 hst0));clear hb1 hown0 hst0 x0 x1 x2 x3 x4 x5 x6 x7 x8 x10;go_wp2_with (at_builtin;refine appSt_at rfl _ _ rfl W.heap.size _ _ [] ws rfl rfl HWX.out.2.1 HWX.out.2.2 (by have:=HWL.out;simp;omega) hzW ?_)
   intro v4 w4 hown4 hg4 hf4;have hown4:OSw W.heap.size v4 ws w4:=hown4;have hb4:Below W.heap.size W w4:=HWX.out.1.grown hg4 hzW (λq hq=>by have:=(World.ownsRow.lt HWX.out.2.1 q hq).1;exact this)
   obtain ⟨A4,c4,rfl,-,-⟩:=OSw.form hown4;have hown4':OSw W.heap.size (.slice A4 ws.length c4) ws (w4.alloc (.cells #[.string ⟨#[101]⟩] 9)):=World.ownsRow.alloc hown4 _;have hst4:StIn (w4.alloc (.cells #[.string ⟨#[101]⟩] 9)) (.slice (some ⟨w4.heap.size,0,none⟩) 1 1) [e1S]:=⟨_,_,rfl,⟨by decide,by decide⟩, .inr ⟨w4.heap.size,0,rfl,by simp,λi hi=>by
    obtain rfl:i=0:=by simp at hi;omega
    rw[cell_of_row _ _ _ _ _ _ (heap_alloc_new w4 _)];rfl⟩⟩
   have hb41:Below W.heap.size W (w4.alloc (.cells #[.string ⟨#[101]⟩] 9)):=hb4.alloc hb4.size _;have hz4:W.heap.size<=(w4.alloc (.cells #[.string ⟨#[101]⟩] 9)).heap.size:=hb41.size;have HW4:=Lib.hid (And.intro hown4' (And.intro hst4 hb41));clear hown4 hg4 hf4 hb4 hown4' hst4 hb41 x9 lx;go_wp2_with (at_builtin;refine appSt_at rfl _ _ rfl W.heap.size _ _ ws [e1S] rfl rfl HW4.out.1 HW4.out.2.1 (by have:=HWL.out;simp;omega) hz4 ?_)
   intro v5 wz e5 hg5 hf5;have hS:Below W.heap.size W wz:=HW4.out.2.2.grown hg5 hz4 (λq hq=>(World.ownsRow.lt HW4.out.1 q hq).1);obtain ⟨A9,c9,e59,hc9,-⟩:=OSw.form e5;subst e59;have hzw:=hS.size;have hAz:=HBX.out.later hS;obtain ⟨⟨x0,x1,x2,x3,x4,x5⟩,⟨x6,x7,x8,x9,x10⟩,lx⟩:=hAz.b0.cells;obtain ⟨⟨y0,y1,y2,y3,y4,y5⟩,⟨y6,y7,y8,y9,y10⟩,ly⟩:=hAz.b1.cells;have fr9:wz.frozen? ⟨w3.heap.size+1,9,none⟩=false:=by
    have h:=hAz.b1;unfold bxU at h;simp[World.frozen?,h]
   have e5k:OSw W.heap.size (.slice A9 (ws++[e1S]).length c9) (ws++[e1S]) (wz.setCell ⟨w3.heap.size+1,9,none⟩ (.slice A9 (ws++[e1S]).length c9)):=own_same e5 λq hq=>setk_other (by have h1:=(World.ownsRow.lt e5 q hq).1;have h2:=HZW.out;omega)
   have hA1:=hAz.set (j:=9) (v:=.slice A9 (ws++[e1S]).length c9) (u'':={ u with a3:=A9,n3:=(ws++[e1S]).length,c3:=c9 }) (k'':={ k with ws:=ws++[e1S] }) rfl (λW' hW' hW2=>by
    have h:=HPS.out.1 W' hW';refine ⟨h.ck,h.en,OSw.stay e5k (by have h1:=HZW.out;have h2:=H3.out.2.1.size;have h3:=HB0.out.2;omega) hW2,h.nr,h.n64,λs hs=>?_⟩
    rcases List.mem_append.1 hs with hs | hs
    .exact h.wl s (HWS.out▸hs)
    .rw[List.mem_singleton]at hs;rw[hs];decide)
   have HA1:=Lib.hid hA1;have hlen:((ws++[e1S]).length:Int)=((ws++[e1S]).length:Int):=rfl;clear e5 e5k hA1 hAz hS hg5 hf5 hc9 hlen;generalize (ws++[e1S]).length=n9 at *
   cases z4 with
   | true=>
    go_wp2_with fail
    go_meet
    case rel=>exact ⟨_,{ k with ws:=[] },HA1.out.set (u'':={ u with a3:=none,n3:=0,c3:=0 }) rfl (λW' hW' _=>by have h:=HPS.out.1 W' hW';exact ⟨h.ck,h.en,StIn.nil_ _,h.nr,h.n64,λs hs=>by cases hs⟩), .inr rfl, .inl (Int.le_refl _), .inl rfl⟩
   | false=>
    have hne:k.ws≠[]:=λe=>by
     have h1:=HZ3.out.1;rw[e]at h1;have h2:=HZ3.out.2.2;rw[h1]at h2
     cases h2
    go_wp2_with fail
    go_meet
    case rel=>exact ⟨_,_,HA1.out, .inr rfl, .inl (Int.le_refl _), .inr ⟨rfl,hne,[e1S],by show ws++[e1S]=k.ws++[e1S];rw[HWS.out]⟩⟩
 case rest=>
  obtain ⟨u',k',HA,HL⟩:=hcut;clear hz0 hz1 hz2 hz3 hz3n hzt hz4a hz4b hz4c
  apply_assumption
  have htp:TapeOK w.heap.size wc:=H3.out.1.below' HA.out.bl (by have h2:=H3.out.2.1.size;have h3:=HB0.out.2;omega)
  have HTP:=Lib.hid htp;have hsz3:w.heap.size<w3.heap.size:=by have h2:=H3.out.2.1.size;have h3:=HB0.out.2;omega
  have HS3:=Lib.hid hsz3;clear htp hsz3;go_wp2_with fail
  go_loopw [10] (λiv wr=>∃m:Nat,m<=6/\iv = .int .i64 (m:Int)/\Hid (Fr w.heap.size wc wr/\TapeOK w.heap.size wr)) (λiv _=>(6-intOf iv).toNat)
  case atStart=>exact ⟨0,by decide,rfl,Fr.refl _ _,HTP.out⟩
  case round=>
   obtain ⟨m,hm,rfl,HR⟩:=hrel;have hst:Stay w.heap.size w3 wr:=(Stay.of_below HA.out.bl).trans (Stay.of_fr HR.out.1);have hB0:bxU u w3.heap.size wr:=(HR.out.1.block _ (Array.getElem?_eq_some_iff.1 HA.out.b0).1 (by intro e;injection e;have:=HS3.out;omega)).trans HA.out.b0
   have hB1:bxU u' (w3.heap.size+1) wr:=(HR.out.1.block _ (Array.getElem?_eq_some_iff.1 HA.out.b1).1 (by intro e;injection e;have:=HS3.out;omega)).trans HA.out.b1
   have hvr:VrOK wr:=HV.out.later (HB0.out.1.trans (((H3.out.2.1.trans (Fr.of_below HA.out.bl)).trans HR.out.1).below (Nat.le_refl _) HB0.out.1.size));have HRR:=Lib.hid (And.intro hst (And.intro hB0 (And.intro hB1 hvr)));clear hst hB0 hB1 hvr;by_cases hlt:m<6
   .have hd:decide ((m:Int)<6)=true:=decide_eq_true (by omega)
    have hdn:decide (m<6)=true:=decide_eq_true hlt;have hw1:IntKind.i64.wrap ((nt:Int)+1)=(nt:Int)+1:=IntWalk.i64_in _ (by omega)
    have htr:=HR.out.2;go_wp2_with fail;refine (next_any w.heap.size _ wr (by omega) (by omega) htr).mono ?_
    rintro e w4 ⟨r1,rfl,h10,h11,ht4,hf4⟩;obtain ⟨x,rfl⟩:∃x:Nat,r1=(x:Int):=⟨r1.toNat,by omega⟩
    have hw2:IntKind.i64.wrap ((nt:Int)+1 - (x:Int))=(nt:Int)+1 - (x:Int):=IntWalk.i64_in _ (by omega)
    clear htr;go_wp2_with fail;refine (next_any w.heap.size _ w4 (by omega) (by omega) ht4).mono ?_
    rintro e w5 ⟨r2,rfl,h20,h21,ht5,hf5⟩;obtain ⟨y,rfl⟩:∃y:Nat,r2=(y:Int):=⟨r2.toNat,by omega⟩
    obtain ⟨t,hxt⟩:∃t,x+y=t:=⟨_,rfl⟩;have hw3:IntKind.i64.wrap ((x:Int)+(y:Int))=(t:Int):=by rw[IntWalk.i64_in _ (by omega)];omega
    have hw4:IntKind.i64.wrap ((m:Int)+1)=((m+1:Nat):Int):=by rw[IntWalk.i64_in _ (by omega)];omega
    have hf5r:=hf4.trans hf5;have hB0:=(hf5r.block _ (Array.getElem?_eq_some_iff.1 HRR.out.2.1).1 (by intro e;injection e;have:=HS3.out;omega)).trans HRR.out.2.1
    have hB1:=(hf5r.block _ (Array.getElem?_eq_some_iff.1 HRR.out.2.2.1).1 (by intro e;injection e;have:=HS3.out;omega)).trans HRR.out.2.2.1
    have hst5:Stay w.heap.size w3 w5:=HRR.out.1.trans (Stay.of_fr hf5r);have hv5:VrOK w5:=HV.out.later (HB0.out.1.trans (((H3.out.2.1.trans (Fr.of_below HA.out.bl)).trans (HR.out.1.trans hf5r)).below (Nat.le_refl _) HB0.out.1.size));obtain ⟨p1,hp1⟩:∃p,psF lt k x t=p:=⟨_,rfl⟩;have HP1:=Lib.hid (passesK u k A3 nt c3 x t lt w5 (HTX.out w5 hst5) (by omega) (by omega) (HPS.out.1 w5 hst5) hv5)
    rw[hp1]at HP1;have HP2:=Lib.hid λ(W:World) (hb:Below w5.heap.size w5 W) (h:p1=true)=>(by
     have h9:=passesK u' k' A3 nt c3 x t lt W ((HTX.out w5 hst5).later hb) (by omega) (by omega) (HA.out.pt W ((Stay.of_fr (HR.out.1.trans hf5r)).trans (Stay.of_below hb))) (hv5.later hb)
     rwa [psF_less HL.out (hp1.trans h)]at h9)
    have HF5:=Lib.hid (And.intro ht5 (And.intro (HR.out.1.trans hf5r) (And.intro (show bxU u w3.heap.size w5 from hB0) (show bxU u' (w3.heap.size+1) w5 from hB1))));obtain ⟨⟨x0,x1,x2,x3,x4,x5⟩,⟨x6,x7,x8,x9,x10⟩,lx⟩:=HF5.out.2.2.1.cells;clear ht4 hf4 ht5 hf5 hf5r hB0 hB1 hst5 hv5 hp1 hxt h10 h11 h20 h21;go_wp2_with fail;refine HP1.out.mono ?_;rintro e w6 ⟨rfl,hb6⟩;have HB6:=Lib.hid hb6;obtain ⟨⟨y0,y1,y2,y3,y4,y5⟩,⟨y6,y7,y8,y9,y10⟩,ly⟩:=(HF5.out.2.2.2.later hb6).cells;clear hb6 x0 x1 x2 x3 x4 x5 x6 x7 x8 x9 x10 lx
    cases p1 with
    | false=>
     go_wp2_with fail;refine ⟨⟨m+1,by omega,rfl,HF5.out.2.1.then (HB6.out.mono HF5.out.2.1.size),HF5.out.1.below HB6.out⟩,by simp[intOf];omega⟩
    | true=>
     have HQ:=Lib.hid (HP2.out w6 HB6.out rfl);go_wp2_with fail;refine HQ.out.mono ?_;rintro e w7 ⟨rfl,hb7⟩;have HB7:=Lib.hid (HB6.out.trans (hb7.mono HB6.out.size));clear hb7 y0 y1 y2 y3 y4 y5 y6 y7 y8 y9 y10 ly;go_wp2_with fail;refine ⟨⟨m+1,by omega,rfl,HF5.out.2.1.then (HB7.out.mono HF5.out.2.1.size),HF5.out.1.below HB7.out⟩,by simp[intOf];omega⟩
   .obtain rfl:m=6:=by omega
    have hd:decide (((6:Nat):Int)<6)=false:=by decide
    obtain ⟨⟨x0,x1,x2,x3,x4,x5⟩,⟨x6,x7,x8,x9,x10⟩,lx⟩:=HRR.out.2.1.cells;have HN:=Lib.hid (nodes5_any _ _ wr (HPS.out.2.2.2 wr HRR.out.1).pat);have HBW:=Lib.hid (HB0.out.1.trans (((H3.out.2.1.trans (Fr.of_below HA.out.bl)).trans HR.out.1).below (Nat.le_refl _) HB0.out.1.size));clear x0 x6 x7 x8 x9 x10;obtain ⟨nn,hnn⟩:∃nn,min (nodesT (ks[0]'hk0).pat) 201=nn:=⟨_,rfl⟩;have hnn0:0<nn:=hnn▸nodes_one _;rw[hnn]at HN;have hdN:decide ((0:Int)<(nn:Int))=true:=decide_eq_true (by omega)
    have hdN2:decide (0<nn)=true:=decide_eq_true hnn0;have HK:=Lib.hid hnn;clear hnn;go_wp2_with fail;refine HN.out.mono ?_;rintro e w6 ⟨rfl,hb6⟩;have HAW:=Lib.hid (awake7_any w6 (HRR.out.2.2.2.later hb6));have HB6:=Lib.hid (HBW.out.trans (hb6.mono HBW.out.size));clear hb6 x1 x2 x3 x4 x5 lx;go_wp2_with fail;refine HAW.out.mono ?_;rintro e w7 ⟨rfl,hb7⟩;have HB7:=Lib.hid (HB6.out.trans (hb7.mono HB6.out.size));clear hb7;go_wp2_with fail;go_ret;exact ⟨rfl,HB7.out⟩
end Go.Proofs.YtljgapfmgegifaaGreatDoor
