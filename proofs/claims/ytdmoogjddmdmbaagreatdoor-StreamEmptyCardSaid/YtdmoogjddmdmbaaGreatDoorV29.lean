/- Walks. -/
import Derived.Deep.RegionHeld3
import Derived.Deep.AppendLies
import Derived.Test.YtdmoogjddmdmbaaGreatDoorV03
import Derived.Test.YtdmoogjddmdmbaaGreatDoorV28
set_option maxRecDepth 100000
set_option maxHeartbeats 16000000
set_option linter.unusedVariables false
set_option linter.unusedSimpArgs false
namespace Go.Proofs.YtdmoogjddmdmbaaGreatDoor
open Go.RowKit
section
set_option linter.unusedVariables false
set_option linter.unusedSimpArgs false
open Go.RowKit
def mz (x:KC×M2):List Value:=[.string x.1.nm, .int .i64 x.1.op, .slice x.1.a1 x.1.n1 x.1.c1, .slice x.1.a2 x.1.n2 x.1.c2, .int .i64 x.1.mn, .int .i64 x.1.mx, .bool x.1.wh, .int .i64 x.1.ck, .int .i64 x.1.en, .slice x.1.a3 x.1.n3 x.1.c3, .int .i64 x.1.nr, .slice x.2.a1 x.2.n1 x.2.c1, .slice x.2.a2 x.2.n2 x.2.c2]
theorem G2:jg mz 13:=⟨by decide,λ_=>rfl,λx u hu=>by
 simp only[mz,List.mem_cons,List.not_mem_nil,or_false]at hu;rcases hu with rfl | rfl | rfl | rfl | rfl | rfl | rfl | rfl | rfl | rfl | rfl | rfl | rfl <;> rfl⟩
def CB (w:World) (v:Value) (fs:List (KC×M2)) (ms:List Mc):Prop:=fs.length=ms.length/\∃A c,v = .slice A fs.length c/\(fs.length<=c/\c<=9223372036854775807)/\(fs=[]\/∃g f,A=some ⟨g,f,none⟩/\g<w.heap.size/\∀i (h:i<fs.length),∀j,j<13->w.cell? ⟨g,f+i*13+j,none⟩=(mz fs[i])[j]?)/\
 ∀i (h1:i<fs.length) (h2:i<ms.length),ia w fs[i].2.val ms[i]
def WC (us:List KC) (ks:List Kn) (w:World) (e:Ending) (w':World):Prop:=Below w.heap.size w w'/\∃er ms,lT ks er ms/\((er≠0/\e = .returned (.tuple #[.slice none 0 0, .int .i64 er]))\/
 (er=0/\∃v fs,e = .returned (.tuple #[v, .int .i64 0])/\CB w' v fs ms/\fs.map Prod.fst=us))
theorem JE:(Tryz.prog.info? 95).map (λi=>(i.zero,i.size,i.bytes))=some (some (.agg #[.string ⟨#[]⟩, .int .i64 0, .slice none 0 0, .slice none 0 0, .int .i64 0, .int .i64 0, .bool false, .int .i64 0, .int .i64 0, .slice none 0 0, .int .i64 0, .slice none 0 0, .slice none 0 0]),13,192):=by kernel_rfl
set_option maxHeartbeats 16000000 in
theorem mB (A:Option Addr) (n c:Nat) (us:List KC) (ks:List Kn) (w:World) (h:fu w (.slice A n c) us ks) (om:cd w) (iO:∀k∈ks,k.nm.size<=140737488355328):Calls Tryz.prog 26 #[.slice A n c] w (WC us ks w):=by
 have HA:=Lib.hid (CG A n c us ks w h om iO);obtain ⟨hl,A',c',e0,hc,eA,hkn⟩:=id h;injection e0 with e1 e2 e3;subst e1 e2 e3;obtain ⟨n,hn⟩:∃n,us.length=n:=⟨_,rfl⟩;have di:ks.length=n:=by omega
 rw[hn]at hc HA|-;have HO:=Lib.hid eA;have HN:=Lib.hid (And.intro hn (And.intro di hc));clear h om iO hl hc eA hkn hn di
 go_enter Tryz.func26,Tryz.ntmps26
 go_wp2_with fail;refine HA.out.mono ?_;rintro e w1 ⟨hb1,er,ms,gu,eR⟩;have HL:=Lib.hid gu;have bH:=Lib.hid hb1;clear gu hb1;rcases eR with ⟨zD,rfl⟩ | ⟨rfl,v,os,rfl,hown,px,hmc⟩
 .have Ro:=Lib.hid zD;have WD:(er == 0)=false:=by simpa using zD
  have WE:(er != 0)=true:=by simpa using zD
  clear zD;go_wp2_with fail
  go_ret2
  exact ⟨bH.out,er,ms,HL.out, .inl ⟨Ro.out,rfl⟩⟩
 .obtain ⟨A2,c2,rfl,Rp,acD⟩:=hown.cells Rq;obtain ⟨Af,cf,e0,xr,-⟩:=ag (show w1.ownsRow _ _ _ _ _ _ from hown);have hon:os.length=n:=by have:=HN.out.2.1;omega
  rw[hon]at Rp|-;have h32:n<=32/\1<=n:=by
   rcases HL.out with ⟨-,h⟩ | ⟨⟨h1,h2⟩,-⟩
   .cases h
   .have:=HN.out.2.1;omega
  have Gl:=Lib.hid (And.intro acD (And.intro hon hmc));clear hown px hmc acD e0 xr;obtain ⟨i3,Ec,oq,gY,bM⟩:=info_parts JE;go_wp2_with fail
  go_loopw [6,19] (λv i wr=>∃(k:Nat) (fs:List (KC×M2)),k<=n/\i = .int .i64 (k:Int)/\OR 95 13 mz w1.heap.size v fs wr/\fs.length=k/\Hid (∀j (h1:j<fs.length) (h2:j<us.length) (h3:j<os.length),fs[j]=(us[j],os[j]))/\Below w1.heap.size w1 wr) (λ_ i _=>n - (intOf i).toNat)
  case atStart=>exact ⟨0,[],by omega,rfl,OR.ic _ _ _,rfl,λj h1=>absurd h1 (Nat.not_lt_zero j),Below.refl _ _⟩
  case round=>
   obtain ⟨k,fs,hk,rfl,hown,kF,HI,aP⟩:=hrel;by_cases hlt:k<n
   .have hd:decide ((k:Int)<(n:Int))=true:=decide_eq_true (by omega)
    have iI:decide (k<n)=true:=decide_eq_true hlt;have zE:k<us.length:=by have:=HN.out.1;omega
    have Bf:k<os.length:=by have:=Gl.out.2.1;omega
    obtain ⟨g,f,rfl,hg,bD⟩:=HO.out.resolve_left (by rintro rfl;cases zE)
    obtain ⟨g2,rfl,asQ,jC,Mr⟩:=Gl.out.1.resolve_left (by rintro rfl;cases Bf)
    have Jd:=bH.out.trans (aP.mono bH.out.size);obtain ⟨u,hu⟩:∃u,us[k]=u:=⟨_,rfl⟩;obtain ⟨x,hx⟩:∃x,os[k]=x:=⟨_,rfl⟩;have ji:=λj hj=>(Jd.cell (p:=⟨g,f+k*11+j,none⟩) hg).trans (bD k zE j hj);rw[hu]at ji;obtain ⟨⟨q0,q1,q2,q3,q4,q5⟩,q6,q7,q8,q9,CE⟩:=gA ji;have y0:wr.cell? ⟨g2,k*2,none⟩=some (.slice x.a1 x.n1 x.c1):=(aP.cell (p:=⟨g2,k*2,none⟩) jC).trans (by have:=(Mr k Bf 0 (by decide)).1;rw[hx]at this;exact this)
    have y1:wr.cell? ⟨g2,k*2+1,none⟩=some (.slice x.a2 x.n2 x.c2):=(aP.cell (p:=⟨g2,k*2+1,none⟩) jC).trans (by have:=(Mr k Bf 1 (by decide)).1;rw[hx]at this;exact this)
    have oC:g<wr.heap.size:=Nat.lt_of_lt_of_le hg Jd.size;have y6:g2<wr.heap.size:=Nat.lt_of_lt_of_le jC aP.size;have ajj:g<wr.heap.size+1:=by omega
    have hgn:g≠wr.heap.size:=by omega
    have HF:=Lib.hid (And.intro hu hx);have H1:=Lib.hid (And.intro hown (And.intro kF aP));have HQ:=Lib.hid ji;have HG:=Lib.hid oC;clear hown aP Jd bD Mr hu hx q0 q1 q2 q3 q4 q5 q6 q7 q8 q9 CE oC ajj hgn ji
    go_upto_region 8 with fail
    refine dN λW2 iU=>?_;have aL:Below wr.heap.size wr W2:=by rw[iU];exact (Below.refl _ _).alloc (Nat.le_refl _) _
    have xQ:W2.heap[wr.heap.size]?=some (.cells #[.slice x.a1 x.n1 x.c1, .slice x.a2 x.n2 x.c2] 93 (0,0)):=by rw[iU];exact heap_alloc_new wr _
    have m0:W2.cell? ⟨wr.heap.size,0,none⟩=some (.slice x.a1 x.n1 x.c1):=by rw[cell_of_row _ _ _ _ _ _ xQ];rfl
    have m1:W2.cell? ⟨wr.heap.size,1,none⟩=some (.slice x.a2 x.n2 x.c2):=by rw[cell_of_row _ _ _ _ _ _ xQ];rfl
    have ji:=λj hj=>(aL.cell (p:=⟨g,f+k*11+j,none⟩) HG.out).trans (HQ.out j hj);obtain ⟨⟨q0,q1,q2,q3,q4,q5⟩,q6,q7,q8,q9,CE⟩:=gA ji;have aQ:=World.ownsRow.alloc (bj (show wr.ownsRow _ _ _ _ _ _ from H1.out.1) (aL.drew)) (.cells #[.string u.nm, .int .i64 u.op, .slice u.a1 u.n1 u.c1, .slice u.a2 u.n2 u.c2, .int .i64 u.mn, .int .i64 u.mx, .bool u.wh, .int .i64 u.ck, .int .i64 u.en, .slice u.a3 u.n3 u.c3, .int .i64 u.nr, .slice x.a1 x.n1 x.c1, .slice x.a2 x.n2 x.c2] 95);have hlk:=LM (heap_alloc_new W2.drew (.cells #[.string u.nm, .int .i64 u.op, .slice u.a1 u.n1 u.c1, .slice u.a2 u.n2 u.c2, .int .i64 u.mn, .int .i64 u.mx, .bool u.wh, .int .i64 u.ck, .int .i64 u.en, .slice u.a3 u.n3 u.c3, .int .i64 u.nr, .slice x.a1 x.n1 x.c1, .slice x.a2 x.n2 x.c2] 95));have px:=H1.out.2.1;have dh:w1.heap.size<=(W2.drew.alloc (.cells #[.string u.nm, .int .i64 u.op, .slice u.a1 u.n1 u.c1, .slice u.a2 u.n2 u.c2, .int .i64 u.mn, .int .i64 u.mx, .bool u.wh, .int .i64 u.ck, .int .i64 u.en, .slice u.a3 u.n3 u.c3, .int .i64 u.nr, .slice x.a1 x.n1 x.c1, .slice x.a2 x.n2 x.c2] 95)).heap.size:=by have h1:=H1.out.2.2.size;have h2:=aL.size;have h3:W2.drew.heap.size=W2.heap.size:=rfl;simp;omega
    have oC:g<W2.heap.size:=Nat.lt_of_lt_of_le HG.out aL.size;have eO:=Lib.hid aL;have EM:=Lib.hid xQ;have hS:∀W:World,(∀j,W.cell? ⟨g,f+k*11+j,none⟩=W2.cell? ⟨g,f+k*11+j,none⟩)->W.heap[wr.heap.size]?=W2.heap[wr.heap.size]?->W.cell? ⟨g,f+k*11,none⟩=some (.string u.nm)/\W.cell? ⟨g,f+k*11+1,none⟩=some (.int .i64 u.op)/\W.cell? ⟨g,f+k*11+2,none⟩=some (.slice u.a1 u.n1 u.c1)/\W.cell? ⟨g,f+k*11+3,none⟩=some (.slice u.a2 u.n2 u.c2)/\W.cell? ⟨g,f+k*11+4,none⟩=some (.int .i64 u.mn)/\W.cell? ⟨g,f+k*11+5,none⟩=some (.int .i64 u.mx)/\W.cell? ⟨g,f+k*11+6,none⟩=some (.bool u.wh)/\W.cell? ⟨g,f+k*11+7,none⟩=some (.int .i64 u.ck)/\W.cell? ⟨g,f+k*11+8,none⟩=some (.int .i64 u.en)/\W.cell? ⟨g,f+k*11+9,none⟩=some (.slice u.a3 u.n3 u.c3)/\W.cell? ⟨g,f+k*11+10,none⟩=some (.int .i64 u.nr)/\W.cell? ⟨wr.heap.size,0,none⟩=some (.slice x.a1 x.n1 x.c1)/\W.cell? ⟨wr.heap.size,1,none⟩=some (.slice x.a2 x.n2 x.c2):=λW hW iU=>by
     obtain ⟨⟨s0,s1,s2,s3,s4,s5⟩,s6,s7,s8,s9,s10⟩:=gA λj hj=>(hW j).trans (ji j hj);exact ⟨s0,s1,s2,s3,s4,s5,s6,s7,s8,s9,s10,(World.cell?_of_block (a:=⟨wr.heap.size,0,none⟩) iU).trans m0,(World.cell?_of_block (a:=⟨wr.heap.size,1,none⟩) iU).trans m1⟩
    have ajk:g<w1.heap.size:=Nat.lt_of_lt_of_le hg bH.out.size;have WG:wr.heap.size<W2.heap.size:=(Array.getElem?_eq_some_iff.1 xQ).1;clear iU aL xQ ji
    go_region_held3 (λw'=>w'.cell? ⟨g,f+k*11,none⟩=some (.string u.nm)/\w'.cell? ⟨g,f+k*11+1,none⟩=some (.int .i64 u.op)/\w'.cell? ⟨g,f+k*11+2,none⟩=some (.slice u.a1 u.n1 u.c1)/\w'.cell? ⟨g,f+k*11+3,none⟩=some (.slice u.a2 u.n2 u.c2)/\w'.cell? ⟨g,f+k*11+4,none⟩=some (.int .i64 u.mn)/\w'.cell? ⟨g,f+k*11+5,none⟩=some (.int .i64 u.mx)/\w'.cell? ⟨g,f+k*11+6,none⟩=some (.bool u.wh)/\w'.cell? ⟨g,f+k*11+7,none⟩=some (.int .i64 u.ck)/\w'.cell? ⟨g,f+k*11+8,none⟩=some (.int .i64 u.en)/\w'.cell? ⟨g,f+k*11+9,none⟩=some (.slice u.a3 u.n3 u.c3)/\w'.cell? ⟨g,f+k*11+10,none⟩=some (.int .i64 u.nr)/\w'.cell? ⟨wr.heap.size,0,none⟩=some (.slice x.a1 x.n1 x.c1)/\w'.cell? ⟨wr.heap.size,1,none⟩=some (.slice x.a2 x.n2 x.c2)) (first | exact hS _ (λ_=>rfl) rfl | exact hS _ (λ_=>((Below.refl W2.heap.size W2).alloc (Nat.le_refl _) _).cell oC) (((Below.refl W2.heap.size W2).alloc (Nat.le_refl _) _).block _ WG) | exact hS _ (λ_=>((((Below.refl w1.heap.size W2).drew).alloc (by have h1:=H1.out.2.2.size;have h2:=eO.out.size;exact Nat.le_trans h1 h2) _).grown Fe dh (λq hq=>((show wr.ownsRow _ _ _ _ _ _ from H1.out.1).lt q hq).1)).cell ajk) ((Fe.block wr.heap.size (by simp;exact Nat.lt_succ_of_lt WG) (by intro e;exact absurd ((show wr.ownsRow _ _ _ _ _ _ from H1.out.1).lt _ e.symm).2 (Nat.lt_irrefl _))).trans (((Below.refl W2.heap.size W2).alloc (Nat.le_refl _) _).block _ WG))) ((refine step_append_lies _ (by rfl) _ _ _ (by rfl) w1.heap.size 95 i3 _ 13 192 Tryz.underlying65 Ec oq gY bM rfl (by decide) _ fs.length (aY mz fs) (by rfl) aQ ⟨W2.drew.heap.size,0,none⟩ 1 1 (mz (u,x)) (by rfl) rfl hlk (λy hy=>G2.one _ y hy) (by decide) (by unfold maxLen;omega) (by omega) dh _ rfl ?_;intro g4 c4 w4 ho4 Fe ajl Wc))
    all_goals
     have hOR:OR 95 13 mz w1.heap.size (.slice (some ⟨g4,0,none⟩) (k+1) c4) (fs++[(u,x)]) w4:=by
      rw[<-px];show w4.ownsRow _ _ _ _ (fs++[_]).length (aY mz (fs++[_]));rw[bA,bf,List.length_append];exact ho4
     have qh:Below w1.heap.size W2 w4:=(((Below.refl w1.heap.size W2).drew).alloc (by have h1:=H1.out.2.2.size;have h2:=eO.out.size;exact Nat.le_trans h1 h2) _).grown Fe dh (λq hq=>((show wr.ownsRow _ _ _ _ _ _ from H1.out.1).lt q hq).1)
     have Nq:Below w1.heap.size w1 w4:=(H1.out.2.2.trans (eO.out.mono H1.out.2.2.size)).trans qh;have hI4:∀j (h1:j<(fs++[(u,x)]).length) (h2:j<us.length) (h3:j<os.length),(fs++[(u,x)])[j]=(us[j],os[j]):=λj h1 h2 h3=>by
      by_cases hj:j<fs.length
      .rw[List.getElem_append_left hj];exact HI.out j hj h2 h3
      .have Zc:j=k:=by simp at h1;omega
       subst Zc;rw[List.getElem_append_right (by omega)]
       simp only[px,Nat.sub_self,List.getElem_cons_zero];rw[HF.out.1,HF.out.2]
     have WH:(fs++[(u,x)]).length=k+1:=by simp[px]
     have H4:=Lib.hid (And.intro hOR (And.intro hI4 Nq));clear hOR qh Nq hI4 ho4 Fe ajl Wc aQ hlk dh m0 m1 q0 q1 q2 q3 q4 q5 q6 q7 q8 q9 CE oC;go_wp2_with fail;go_roundw
     case rel=>exact ⟨k+1,_,by omega,by go_num,H4.out.1,WH,H4.out.2.1,H4.out.2.2⟩
     case measure=>simp[intOf];omega
   .obtain rfl:k=n:=by omega
    have hd:decide ((k:Int)<(k:Int))=false:=decide_eq_false (by omega)
    have iI:decide (k<k)=false:=decide_eq_false (by omega)
    have H1:=Lib.hid (And.intro hown (And.intro kF aP));clear hown kF aP;go_wp2_with fail
    go_ret2
    obtain ⟨A3,c3,rfl,lK,Ff⟩:=H1.out.1.cells G2;obtain ⟨Af3,cf3,e0,xr,Bb⟩:=ag (show wr.ownsRow _ _ _ _ _ _ from H1.out.1);injection e0 with _ _ e0;have QH:fs.length=ms.length:=by
     rcases HL.out with ⟨-,h⟩ | ⟨-,⟨i,-,-,-,h⟩ | ⟨h,-⟩⟩
     .cases h
     .exact absurd rfl h
     .have:=HN.out.2.1;have:=H1.out.2.1;omega
    refine ⟨bH.out.trans (H1.out.2.2.mono bH.out.size),0,ms,HL.out, .inr ⟨rfl,_,fs,rfl,⟨QH,A3,c3,rfl,⟨lK,by omega⟩,Ff.imp id ?_,λi h1 h2=>?_⟩,?_⟩⟩
    .rintro ⟨g,h1,-,h3,h4⟩;exact ⟨g,0,h1,h3,λi hi j hj=>by rw[Nat.zero_add];exact (h4 i hi j hj).1⟩
    .have hio:i<os.length:=by have:=Gl.out.2.1;have:=H1.out.2.1;omega
     rw[HI.out i h1 (by have:=HN.out.1;have:=H1.out.2.1;omega) hio]
     exact (Gl.out.2.2 i hio h2).later H1.out.2.2
    .refine List.ext_getElem (by simp;have:=HN.out.1;have:=H1.out.2.1;omega) λi h1 h2=>?_
     simp only[List.getElem_map];rw[HI.out i (by simpa using h1) h2 (by have:=Gl.out.2.1;have:=HN.out.1;omega)]
end
end Go.Proofs.YtdmoogjddmdmbaaGreatDoor
