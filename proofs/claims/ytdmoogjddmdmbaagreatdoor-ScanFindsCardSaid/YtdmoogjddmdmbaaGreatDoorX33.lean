/- Walks. -/
import Derived.Deep.RegionHeld3
import Derived.Deep.AppendLies
import Derived.Test.YtdmoogjddmdmbaaGreatDoorX31
import Derived.Test.YtdmoogjddmdmbaaGreatDoorX32
set_option maxRecDepth 100000
set_option maxHeartbeats 16000000
set_option linter.unusedVariables false
set_option linter.unusedSimpArgs false
namespace Go.Proofs.YtdmoogjddmdmbaaGreatDoor
open Go.RowKit
def pY(x:KC×M2):List Value:=[.string x.1.nm,.int .i64 x.1.op,.slice x.1.a1 x.1.n1 x.1.c1,.slice x.1.a2 x.1.n2 x.1.c2,.int .i64 x.1.mn,.int .i64 x.1.mx,.bool x.1.wh,.int .i64 x.1.ck,.int .i64 x.1.en,.slice x.1.a3 x.1.n3 x.1.c3,.int .i64 x.1.nr,.slice x.2.a1 x.2.n1 x.2.c1,.slice x.2.a2 x.2.n2 x.2.c2]
theorem Gw:kz pY 13:=⟨O,λ_=>rfl,λx u hu=>by
 simp only[pY,List.mem_cons,List.not_mem_nil,or_false]at hu;rcases hu with rfl|rfl|rfl|rfl|rfl|rfl|rfl|rfl|rfl|rfl|rfl|rfl|rfl <;> rfl⟩
def TW(w:World)(v:Value)(fs:List (KC×M2))(ms:List Mc):Prop:=fs.length=ms.length/\∃A c,v=.slice A fs.length c/\(fs.length<=c/\c<=9223372036854775807)/\(fs=[]\/∃g f,A=some ⟨g,f,none⟩/\g<w.heap.size/\∀i (h:i<fs.length),∀j,j<13->w.cell? ⟨g,f+i*13+j,none⟩=(pY fs[i])[j]?)/\
 ∀i (h1:i<fs.length) (h2:i<ms.length),gH w fs[i].2.val ms[i]
def Wo(us:List KC)(ks:List Kn)(w:World)(e:Ending)(w':World):Prop:=Below w.heap.size w w'/\∃er ms,T2 ks er ms/\((er≠0/\e=.returned (.tuple #[.slice none 0 0,.int .i64 er]))\/
 (er=0/\∃v fs,e=.returned (.tuple #[v,.int .i64 0])/\TW w' v fs ms/\fs.map Prod.fst=us))
theorem Jd:(Tryz.prog.info? 95).map (λi=>(i.zero,i.size,i.bytes))=some (some (.agg #[.string ⟨#[]⟩,.int .i64 0,.slice none 0 0,.slice none 0 0,.int .i64 0,.int .i64 0,.bool false,.int .i64 0,.int .i64 0,.slice none 0 0,.int .i64 0,.slice none 0 0,.slice none 0 0]),13,192):=κ
theorem BW(A:Option Addr)(n c:Nat)(us:List KC)(ks:List Kn)(w:World)(h:BX w (.slice A n c) us ks)(jL:dn w)(qF:∀k∈ks,k.nm.size<=140737488355328):Calls Tryz.prog 26 #[.slice A n c] w (Wo us ks w):=by
 have HA:=Z (MO A n c us ks w h jL qF);obtain ⟨hl,A',c',e0,hc,eH,hkn⟩:=id h;injection e0 with e1 e2 e3;subst e1 e2 e3;obtain ⟨n,hn⟩:=ν us.length;have aU:ks.length=n:=Y;rw[hn]at hc HA|-;have HO:=Z eH;have HN:=Z (H hn (H aU hc));clear h jL qF hl hc eH hkn hn aU
 go_enter Tryz.func26,Tryz.ntmps26
 go_wp2_with fail;refine HA.out.mono ?_;rintro e w1 ⟨hb1,er,ms,zM,fK⟩;have HL:=Z zM;have aX:=Z hb1;clear zM hb1;rcases fK with ⟨zf,rfl⟩|⟨rfl,v,os,rfl,hown,pj,TX⟩
 .have Q9:=Z zf;have Wp:(er == 0)=false:=by simpa using zf
  have Wq:(er != 0)=true:=by simpa using zf
  clear zf;go_wp2_with fail
  go_ret2
  exact ⟨aX.out,er,ms,HL.out,.inl ⟨Q9.out,rfl⟩⟩
 .obtain ⟨A2,c2,rfl,Ra,acL⟩:=hown.cells Rb;obtain ⟨Af,cf,e0,Ke,-⟩:=ar (show w1.ownsRow _ _ _ _ _ _ from hown);have hon:os.length=n:=by have:=HN.out.2.1;omega
  rw[hon]at Ra|-;have h32:n<=32/\1<=n:=by
   rcases HL.out with ⟨-,h⟩|⟨⟨h1,h2⟩,-⟩
   .cases h
   .have:=HN.out.2.1;omega
  have FM:=Z (H acL (H hon TX));clear hown pj TX acL e0 Ke;obtain ⟨i3,Er,hZ,dS,bX⟩:=info_parts Jd;go_wp2_with fail;go_loopw [6,19] (λv i wr=>∃(k:Nat) (fs:List (KC×M2)),k<=n/\i=.int .i64 (k:Int)/\OR 95 13 pY w1.heap.size v fs wr/\fs.length=k/\Hid (∀j (h1:j<fs.length) (h2:j<us.length) (h3:j<os.length),fs[j]=(us[j],os[j]))/\Below w1.heap.size w1 wr) (λ_ i _=>n - (intOf i).toNat)
  case atStart=>exact ⟨0,[],Y,rfl,OR.km _ _ _,rfl,λj h1=>absurd h1 (Nat.not_lt_zero j),υ⟩
  case round=>
   obtain ⟨k,fs,hk,rfl,hown,qG,HI,aY⟩:=hrel;by_cases hlt:k<n
   .have hd:decide ((k:Int)<(n:Int))=true:=τ;have cX:decide (k<n)=true:=decide_eq_true hlt;have Dw:k<us.length:=by have:=HN.out.1;omega
    have IA:k<os.length:=by have:=FM.out.2.1;omega
    obtain ⟨g,f,rfl,hg,bB⟩:=HO.out.resolve_left (by rintro rfl;cases Dw)
    obtain ⟨g2,rfl,asO,mg,wE⟩:=FM.out.1.resolve_left (by rintro rfl;cases IA)
    have II:=aX.out.trans (aY.mono aX.out.size);obtain ⟨u,hu⟩:=ν (us[k]);obtain ⟨x,hx⟩:=ν (os[k]);have ig:=λj hj=>(II.cl g (f+k*11+j) hg).trans (bB k Dw j hj);rw[hu]at ig;obtain ⟨⟨q0,q1,q2,q3,q4,q5⟩,q6,q7,q8,q9,EB⟩:=jY ig;have y0:wr.cell? ⟨g2,k*2,none⟩=some (.slice x.a1 x.n1 x.c1):=(aY.cl g2 (k*2) mg).trans (by have:=(wE k IA 0 O).1;rw[hx]at this;exact this)
    have y1:wr.cell? ⟨g2,k*2+1,none⟩=some (.slice x.a2 x.n2 x.c2):=(aY.cl g2 (k*2+1) mg).trans (by have:=(wE k IA 1 O).1;rw[hx]at this;exact this)
    have od:g<wr.heap.size:=Nat.lt_of_lt_of_le hg II.size;have yB:g2<wr.heap.size:=Nat.lt_of_lt_of_le mg aY.size;have ajC:g<wr.heap.size+1:=Y;have hgn:g≠wr.heap.size:=Y;have HF:=Z (H hu hx);have H1:=Z (H hown (H qG aY));have HQ:=Z ig;have HG:=Z od;clear hown aY II bB wE hu hx q0 q1 q2 q3 q4 q5 q6 q7 q8 q9 EB od ajC hgn ig
    go_upto_region 8 with fail
    refine dD λW2 gK=>?_;have aJ:Below wr.heap.size wr W2:=by rw[gK];exact υ.alloc I _
    have uC:W2.heap[wr.heap.size]?=some (.cells #[.slice x.a1 x.n1 x.c1,.slice x.a2 x.n2 x.c2] 93 (0,0)):=by rw[gK];exact heap_alloc_new wr _
    have m0:W2.cell? ⟨wr.heap.size,0,none⟩=some (.slice x.a1 x.n1 x.c1):=by rw[cell_of_row _ _ _ _ _ _ uC];rfl
    have m1:W2.cell? ⟨wr.heap.size,1,none⟩=some (.slice x.a2 x.n2 x.c2):=by rw[cell_of_row _ _ _ _ _ _ uC];rfl
    have ig:=λj hj=>(aJ.cl g (f+k*11+j) HG.out).trans (HQ.out j hj);obtain ⟨⟨q0,q1,q2,q3,q4,q5⟩,q6,q7,q8,q9,EB⟩:=jY ig;have bh:=World.ownsRow.alloc (bw (show wr.ownsRow _ _ _ _ _ _ from H1.out.1) (aJ.drew)) (.cells #[.string u.nm,.int .i64 u.op,.slice u.a1 u.n1 u.c1,.slice u.a2 u.n2 u.c2,.int .i64 u.mn,.int .i64 u.mx,.bool u.wh,.int .i64 u.ck,.int .i64 u.en,.slice u.a3 u.n3 u.c3,.int .i64 u.nr,.slice x.a1 x.n1 x.c1,.slice x.a2 x.n2 x.c2] 95);have hlk:=KW (heap_alloc_new W2.drew (.cells #[.string u.nm,.int .i64 u.op,.slice u.a1 u.n1 u.c1,.slice u.a2 u.n2 u.c2,.int .i64 u.mn,.int .i64 u.mx,.bool u.wh,.int .i64 u.ck,.int .i64 u.en,.slice u.a3 u.n3 u.c3,.int .i64 u.nr,.slice x.a1 x.n1 x.c1,.slice x.a2 x.n2 x.c2] 95));have pj:=H1.out.2.1;have dA:w1.heap.size<=(W2.drew.alloc (.cells #[.string u.nm,.int .i64 u.op,.slice u.a1 u.n1 u.c1,.slice u.a2 u.n2 u.c2,.int .i64 u.mn,.int .i64 u.mx,.bool u.wh,.int .i64 u.ck,.int .i64 u.en,.slice u.a3 u.n3 u.c3,.int .i64 u.nr,.slice x.a1 x.n1 x.c1,.slice x.a2 x.n2 x.c2] 95)).heap.size:=by have h1:=H1.out.2.2.size;have h2:=aJ.size;have h3:W2.drew.heap.size=W2.heap.size:=rfl;simp;omega
    have od:g<W2.heap.size:=Nat.lt_of_lt_of_le HG.out aJ.size;have dr:=Z aJ;have Eb:=Z uC;have hS:∀W:World,(∀j,W.cell? ⟨g,f+k*11+j,none⟩=W2.cell? ⟨g,f+k*11+j,none⟩)->W.heap[wr.heap.size]?=W2.heap[wr.heap.size]?->W.cell? ⟨g,f+k*11,none⟩=some (.string u.nm)/\W.cell? ⟨g,f+k*11+1,none⟩=some (.int .i64 u.op)/\W.cell? ⟨g,f+k*11+2,none⟩=some (.slice u.a1 u.n1 u.c1)/\W.cell? ⟨g,f+k*11+3,none⟩=some (.slice u.a2 u.n2 u.c2)/\W.cell? ⟨g,f+k*11+4,none⟩=some (.int .i64 u.mn)/\W.cell? ⟨g,f+k*11+5,none⟩=some (.int .i64 u.mx)/\W.cell? ⟨g,f+k*11+6,none⟩=some (.bool u.wh)/\W.cell? ⟨g,f+k*11+7,none⟩=some (.int .i64 u.ck)/\W.cell? ⟨g,f+k*11+8,none⟩=some (.int .i64 u.en)/\W.cell? ⟨g,f+k*11+9,none⟩=some (.slice u.a3 u.n3 u.c3)/\W.cell? ⟨g,f+k*11+10,none⟩=some (.int .i64 u.nr)/\W.cell? ⟨wr.heap.size,0,none⟩=some (.slice x.a1 x.n1 x.c1)/\W.cell? ⟨wr.heap.size,1,none⟩=some (.slice x.a2 x.n2 x.c2):=λW hW gK=>by
     obtain ⟨⟨s0,s1,s2,s3,s4,s5⟩,s6,s7,s8,s9,s10⟩:=jY λj hj=>(hW j).trans (ig j hj);exact ⟨s0,s1,s2,s3,s4,s5,s6,s7,s8,s9,s10,(χ wr.heap.size 0 gK).trans m0,(χ wr.heap.size 1 gK).trans m1⟩
    have ajD:g<w1.heap.size:=Nat.lt_of_lt_of_le hg aX.out.size;have Ws:wr.heap.size<W2.heap.size:=(γ uC).1;clear gK aJ uC ig;go_region_held3 (λw'=>w'.cell? ⟨g,f+k*11,none⟩=some (.string u.nm)/\w'.cell? ⟨g,f+k*11+1,none⟩=some (.int .i64 u.op)/\w'.cell? ⟨g,f+k*11+2,none⟩=some (.slice u.a1 u.n1 u.c1)/\w'.cell? ⟨g,f+k*11+3,none⟩=some (.slice u.a2 u.n2 u.c2)/\w'.cell? ⟨g,f+k*11+4,none⟩=some (.int .i64 u.mn)/\w'.cell? ⟨g,f+k*11+5,none⟩=some (.int .i64 u.mx)/\w'.cell? ⟨g,f+k*11+6,none⟩=some (.bool u.wh)/\w'.cell? ⟨g,f+k*11+7,none⟩=some (.int .i64 u.ck)/\w'.cell? ⟨g,f+k*11+8,none⟩=some (.int .i64 u.en)/\w'.cell? ⟨g,f+k*11+9,none⟩=some (.slice u.a3 u.n3 u.c3)/\w'.cell? ⟨g,f+k*11+10,none⟩=some (.int .i64 u.nr)/\w'.cell? ⟨wr.heap.size,0,none⟩=some (.slice x.a1 x.n1 x.c1)/\w'.cell? ⟨wr.heap.size,1,none⟩=some (.slice x.a2 x.n2 x.c2)) (first|exact hS _ (λ_=>rfl) rfl|exact hS _ (λ_=>((Below.refl W2 W2).alloc I _).cell od) (((Below.refl W2 W2).alloc I _).block _ Ws)|exact hS _ (λ_=>((((Below.refl w1.heap.size W2).drew).alloc (by have h1:=H1.out.2.2.size;have h2:=dr.out.size;exact Nat.le_trans h1 h2) _).grown MP dA (λq hq=>((show wr.ownsRow _ _ _ _ _ _ from H1.out.1).lt q hq).1)).cell ajD) ((MP.block wr.heap.size (by simp;exact Nat.lt_succ_of_lt Ws) (by intro e;exact absurd ((show wr.ownsRow _ _ _ _ _ _ from H1.out.1).lt _ e.symm).2 (Nat.lt_irrefl _))).trans (((Below.refl W2 W2).alloc I _).block _ Ws))) ((refine step_append_lies _ (by rfl) _ _ _ (by rfl) w1.heap.size 95 i3 _ 13 192 Tryz.underlying65 Er hZ dS bX rfl O _ fs.length (bF pY fs) (by rfl) bh ⟨W2.drew.heap.size,0,none⟩ 1 1 (pY (u,x)) (by rfl) rfl hlk (λy hy=>Gw.one _ y hy) O (by unfold maxLen;omega) Y dA _ rfl ?_;intro g4 c4 w4 ho4 MP ajE V9))
    all_goals
     have hOR:OR 95 13 pY w1.heap.size (.slice (some ⟨g4,0,none⟩) (k+1) c4) (fs++[(u,x)]) w4:=by
      rw[<-pj];show w4.ownsRow _ _ _ _ (fs++[_]).length (bF pY (fs++[_]));rw[bU,bz,List.length_append];exact ho4
     have qa:Below w1.heap.size W2 w4:=(((Below.refl w1.heap.size W2).drew).alloc (by have h1:=H1.out.2.2.size;have h2:=dr.out.size;exact Nat.le_trans h1 h2) _).grown MP dA (λq hq=>((show wr.ownsRow _ _ _ _ _ _ from H1.out.1).lt q hq).1)
     have MQ:Below w1.heap.size w1 w4:=(H1.out.2.2.trans (dr.out.mono H1.out.2.2.size)).trans qa;have hI4:∀j (h1:j<(fs++[(u,x)]).length) (h2:j<us.length) (h3:j<os.length),(fs++[(u,x)])[j]=(us[j],os[j]):=λj h1 h2 h3=>by
      by_cases hj:j<fs.length
      .rw[List.getElem_append_left hj];exact HI.out j hj h2 h3
      .have Y6:j=k:=by simp at h1;omega
       subst Y6;rw[List.getElem_append_right Y];simp only[pj,Nat.sub_self,List.getElem_cons_zero];rw[HF.out.1,HF.out.2]
     have Wt:(fs++[(u,x)]).length=k+1:=by simp[pj]
     have H4:=Z (H hOR (H hI4 MQ));clear hOR qa MQ hI4 ho4 MP ajE V9 bh hlk dA m0 m1 q0 q1 q2 q3 q4 q5 q6 q7 q8 q9 EB od;go_wp2_with fail;go_roundw
     case rel=>exact ⟨k+1,_,Y,by go_num,H4.out.1,Wt,H4.out.2.1,H4.out.2.2⟩
     case measure=>exact μ
   .obtain rfl:k=n:=Y;have hd:decide ((k:Int)<(k:Int))=false:=θ;have cX:decide (k<k)=false:=θ;have H1:=Z (H hown (H qG aY));clear hown qG aY;go_wp2_with fail
    go_ret2
    obtain ⟨A3,c3,rfl,mI,EG⟩:=H1.out.1.cells Gw;obtain ⟨Af3,cf3,e0,Ke,Dh⟩:=ar (show wr.ownsRow _ _ _ _ _ _ from H1.out.1);injection e0 with _ _ e0;have hlm:fs.length=ms.length:=by
     rcases HL.out with ⟨-,h⟩|⟨-,⟨i,-,-,-,h⟩|⟨h,-⟩⟩
     .cases h
     .exact absurd rfl h
     .have:=HN.out.2.1;have:=H1.out.2.1;omega
    refine ⟨aX.out.trans (H1.out.2.2.mono aX.out.size),0,ms,HL.out,.inr ⟨rfl,_,fs,rfl,⟨hlm,A3,c3,rfl,⟨mI,Y⟩,EG.imp id ?_,λi h1 h2=>?_⟩,?_⟩⟩
    .rintro ⟨g,h1,-,h3,h4⟩;exact ⟨g,0,h1,h3,λi hi j hj=>by rw[Nat.zero_add];exact (h4 i hi j hj).1⟩
    .have Wu:i<os.length:=by have:=FM.out.2.1;have:=H1.out.2.1;omega
     rw[HI.out i h1 (by have:=HN.out.1;have:=H1.out.2.1;omega) Wu]
     exact (FM.out.2.2 i Wu h2).later H1.out.2.2
    .refine List.ext_getElem (by simp;have:=HN.out.1;have:=H1.out.2.1;omega) λi h1 h2=>?_
     simp only[List.getElem_map];rw[HI.out i (by simpa using h1) h2 (by have:=FM.out.2.1;have:=HN.out.1;omega)]
end Go.Proofs.YtdmoogjddmdmbaaGreatDoor
