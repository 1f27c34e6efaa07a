/- scan.Finders: the finders of a library, or its first error. -/
import Derived.Deep.RegionHeld3
import Derived.Deep.AppendLies
import Derived.Test.YtdmoogjddmdmbaaGreatDoorY03
import Derived.Test.YtdmoogjddmdmbaaGreatDoorY28
namespace Go.Proofs.YtdmoogjddmdmbaaGreatDoor
set_option linter.unusedVariables false
set_option linter.unusedSimpArgs false
set_option maxRecDepth 100000
open Go.RowKit
def encFd (x:KC×M2):List Value:=[.string x.1.nm, .int .i64 x.1.op, .slice x.1.a1 x.1.n1 x.1.c1, .slice x.1.a2 x.1.n2 x.1.c2, .int .i64 x.1.mn, .int .i64 x.1.mx, .bool x.1.wh, .int .i64 x.1.ck, .int .i64 x.1.en, .slice x.1.a3 x.1.n3 x.1.c3, .int .i64 x.1.nr, .slice x.2.a1 x.2.n1 x.2.c1, .slice x.2.a2 x.2.n2 x.2.c2]
theorem encFd_E:EncS encFd 13:=⟨by decide,λ_=>rfl,λx u hu=>by
 simp only[encFd,List.mem_cons,List.not_mem_nil,or_false]at hu;rcases hu with rfl | rfl | rfl | rfl | rfl | rfl | rfl | rfl | rfl | rfl | rfl | rfl | rfl <;> rfl⟩
def FnsIn (w:World) (v:Value) (fs:List (KC×M2)) (ms:List Mc):Prop:=fs.length=ms.length/\∃A c,v = .slice A fs.length c/\(fs.length<=c/\c<=9223372036854775807)/\(fs=[]\/∃g f,A=some ⟨g,f,none⟩/\g<w.heap.size/\∀i (h:i<fs.length),∀j,j<13->w.cell? ⟨g,f+i*13+j,none⟩=(encFd fs[i])[j]?)/\
 ∀i (h1:i<fs.length) (h2:i<ms.length),McIn w fs[i].2.val ms[i]
def FnPost (us:List KC) (ks:List Kn) (w:World) (e:Ending) (w':World):Prop:=Below w.heap.size w w'/\∃er ms,LaA ks er ms/\((er≠0/\e = .returned (.tuple #[.slice none 0 0, .int .i64 er]))\/
 (er=0/\∃v fs,e = .returned (.tuple #[v, .int .i64 0])/\FnsIn w' v fs ms/\fs.map Prod.fst=us))
theorem info_find:(Tryz.prog.info? 95).map (λi=>(i.zero,i.size,i.bytes))=some (some (.agg #[.string ⟨#[]⟩, .int .i64 0, .slice none 0 0, .slice none 0 0, .int .i64 0, .int .i64 0, .bool false, .int .i64 0, .int .i64 0, .slice none 0 0, .int .i64 0, .slice none 0 0, .slice none 0 0]),13,192):=by kernel_rfl
set_option maxHeartbeats 16000000 in
theorem finders_any (A:Option Addr) (n c:Nat) (us:List KC) (ks:List Kn) (w:World) (h:KnsIn w (.slice A n c) us ks) (hvr:VrOK w) (hnm:∀k∈ks,k.nm.size<=140737488355328):Calls Tryz.prog 26 #[.slice A n c] w (FnPost us ks w):=by
 have HA:=Lib.hid (lall_any A n c us ks w h hvr hnm);obtain ⟨hl,A',c',e0,hc,hor,hkn⟩:=id h;injection e0 with e1 e2 e3;subst e1 e2 e3;obtain ⟨n,hn⟩:∃n,us.length=n:=⟨_,rfl⟩;have hkl:ks.length=n:=by omega
 rw[hn]at hc HA|-;have HO:=Lib.hid hor;have HN:=Lib.hid (And.intro hn (And.intro hkl hc));clear h hvr hnm hl hc hor hkn hn hkl
 go_enter Tryz.func26,Tryz.ntmps26
 go_wp2_with fail;refine HA.out.mono ?_;rintro e w1 ⟨hb1,er,ms,hla,hpost⟩;have HL:=Lib.hid hla;have HB1:=Lib.hid hb1;clear hla hb1;rcases hpost with ⟨her,rfl⟩ | ⟨rfl,v,os,rfl,hown,hol,hmc⟩
 .have HER:=Lib.hid her;have her0:(er == 0)=false:=by simpa using her
  have her1:(er != 0)=true:=by simpa using her
  clear her;go_wp2_with fail
  go_ret2
  exact ⟨HB1.out,er,ms,HL.out, .inl ⟨HER.out,rfl⟩⟩
 .obtain ⟨A2,c2,rfl,hle2,hor2⟩:=hown.cells encM2_E;obtain ⟨Af,cf,e0,hcf,-⟩:=own_form (show w1.ownsRow _ _ _ _ _ _ from hown);have hon:os.length=n:=by have:=HN.out.2.1;omega
  rw[hon]at hle2|-;have h32:n<=32/\1<=n:=by
   rcases HL.out with ⟨-,h⟩ | ⟨⟨h1,h2⟩,-⟩
   .cases h
   .have:=HN.out.2.1;omega
  have HO2:=Lib.hid (And.intro hor2 (And.intro hon hmc));clear hown hol hmc hor2 e0 hcf;obtain ⟨i3,hi3,hk0,hk1,hk2⟩:=info_parts info_find;go_wp2_with fail
  go_loopw [6,19] (λv i wr=>∃(k:Nat) (fs:List (KC×M2)),k<=n/\i = .int .i64 (k:Int)/\OR 95 13 encFd w1.heap.size v fs wr/\fs.length=k/\Hid (∀j (h1:j<fs.length) (h2:j<us.length) (h3:j<os.length),fs[j]=(us[j],os[j]))/\Below w1.heap.size w1 wr) (λ_ i _=>n - (intOf i).toNat)
  case atStart=>exact ⟨0,[],by omega,rfl,OR.nil_ _ _ _,rfl,λj h1=>absurd h1 (Nat.not_lt_zero j),Below.refl _ _⟩
  case round=>
   obtain ⟨k,fs,hk,rfl,hown,hfl,HI,hbw⟩:=hrel;by_cases hlt:k<n
   .have hd:decide ((k:Int)<(n:Int))=true:=decide_eq_true (by omega)
    have hdn:decide (k<n)=true:=decide_eq_true hlt;have hku:k<us.length:=by have:=HN.out.1;omega
    have hko:k<os.length:=by have:=HO2.out.2.1;omega
    obtain ⟨g,f,rfl,hg,hcl⟩:=HO.out.resolve_left (by rintro rfl;cases hku)
    obtain ⟨g2,rfl,hg2a,hg2,hcl2⟩:=HO2.out.1.resolve_left (by rintro rfl;cases hko)
    have hbww:=HB1.out.trans (hbw.mono HB1.out.size);obtain ⟨u,hu⟩:∃u,us[k]=u:=⟨_,rfl⟩;obtain ⟨x,hx⟩:∃x,os[k]=x:=⟨_,rfl⟩;have hcl':=λj hj=>(hbww.cell (p:=⟨g,f+k*11+j,none⟩) hg).trans (hcl k hku j hj);rw[hu]at hcl';obtain ⟨⟨q0,q1,q2,q3,q4,q5⟩,q6,q7,q8,q9,q10⟩:=kc_cells hcl';have y0:wr.cell? ⟨g2,k*2,none⟩=some (.slice x.a1 x.n1 x.c1):=(hbw.cell (p:=⟨g2,k*2,none⟩) hg2).trans (by have:=(hcl2 k hko 0 (by decide)).1;rw[hx]at this;exact this)
    have y1:wr.cell? ⟨g2,k*2+1,none⟩=some (.slice x.a2 x.n2 x.c2):=(hbw.cell (p:=⟨g2,k*2+1,none⟩) hg2).trans (by have:=(hcl2 k hko 1 (by decide)).1;rw[hx]at this;exact this)
    have hgr:g<wr.heap.size:=Nat.lt_of_lt_of_le hg hbww.size;have hgr2:g2<wr.heap.size:=Nat.lt_of_lt_of_le hg2 hbw.size;have hgr1:g<wr.heap.size+1:=by omega
    have hgn:g≠wr.heap.size:=by omega
    have HF:=Lib.hid (And.intro hu hx);have H1:=Lib.hid (And.intro hown (And.intro hfl hbw));have HQ:=Lib.hid hcl';have HG:=Lib.hid hgr;clear hown hbw hbww hcl hcl2 hu hx q0 q1 q2 q3 q4 q5 q6 q7 q8 q9 q10 hgr hgr1 hgn hcl'
    go_upto_region 8 with fail
    refine wp_nm λW2 hW2=>?_;have hb2:Below wr.heap.size wr W2:=by rw[hW2];exact (Below.refl _ _).alloc (Nat.le_refl _) _
    have hM2:W2.heap[wr.heap.size]?=some (.cells #[.slice x.a1 x.n1 x.c1, .slice x.a2 x.n2 x.c2] 93 (0,0)):=by rw[hW2];exact heap_alloc_new wr _
    have m0:W2.cell? ⟨wr.heap.size,0,none⟩=some (.slice x.a1 x.n1 x.c1):=by rw[cell_of_row _ _ _ _ _ _ hM2];rfl
    have m1:W2.cell? ⟨wr.heap.size,1,none⟩=some (.slice x.a2 x.n2 x.c2):=by rw[cell_of_row _ _ _ _ _ _ hM2];rfl
    have hcl':=λj hj=>(hb2.cell (p:=⟨g,f+k*11+j,none⟩) HG.out).trans (HQ.out j hj);obtain ⟨⟨q0,q1,q2,q3,q4,q5⟩,q6,q7,q8,q9,q10⟩:=kc_cells hcl';have hown2:=World.ownsRow.alloc (own_later (show wr.ownsRow _ _ _ _ _ _ from H1.out.1) (hb2.drew)) (.cells #[.string u.nm, .int .i64 u.op, .slice u.a1 u.n1 u.c1, .slice u.a2 u.n2 u.c2, .int .i64 u.mn, .int .i64 u.mx, .bool u.wh, .int .i64 u.ck, .int .i64 u.en, .slice u.a3 u.n3 u.c3, .int .i64 u.nr, .slice x.a1 x.n1 x.c1, .slice x.a2 x.n2 x.c2] 95);have hlk:=row_look (heap_alloc_new W2.drew (.cells #[.string u.nm, .int .i64 u.op, .slice u.a1 u.n1 u.c1, .slice u.a2 u.n2 u.c2, .int .i64 u.mn, .int .i64 u.mx, .bool u.wh, .int .i64 u.ck, .int .i64 u.en, .slice u.a3 u.n3 u.c3, .int .i64 u.nr, .slice x.a1 x.n1 x.c1, .slice x.a2 x.n2 x.c2] 95));have hol:=H1.out.2.1;have hbz:w1.heap.size<=(W2.drew.alloc (.cells #[.string u.nm, .int .i64 u.op, .slice u.a1 u.n1 u.c1, .slice u.a2 u.n2 u.c2, .int .i64 u.mn, .int .i64 u.mx, .bool u.wh, .int .i64 u.ck, .int .i64 u.en, .slice u.a3 u.n3 u.c3, .int .i64 u.nr, .slice x.a1 x.n1 x.c1, .slice x.a2 x.n2 x.c2] 95)).heap.size:=by have h1:=H1.out.2.2.size;have h2:=hb2.size;have h3:W2.drew.heap.size=W2.heap.size:=rfl;simp;omega
    have hgr:g<W2.heap.size:=Nat.lt_of_lt_of_le HG.out hb2.size;have HB2:=Lib.hid hb2;have HMW:=Lib.hid hM2;have hS:∀W:World,(∀j,W.cell? ⟨g,f+k*11+j,none⟩=W2.cell? ⟨g,f+k*11+j,none⟩)->W.heap[wr.heap.size]?=W2.heap[wr.heap.size]?->W.cell? ⟨g,f+k*11,none⟩=some (.string u.nm)/\W.cell? ⟨g,f+k*11+1,none⟩=some (.int .i64 u.op)/\W.cell? ⟨g,f+k*11+2,none⟩=some (.slice u.a1 u.n1 u.c1)/\W.cell? ⟨g,f+k*11+3,none⟩=some (.slice u.a2 u.n2 u.c2)/\W.cell? ⟨g,f+k*11+4,none⟩=some (.int .i64 u.mn)/\W.cell? ⟨g,f+k*11+5,none⟩=some (.int .i64 u.mx)/\W.cell? ⟨g,f+k*11+6,none⟩=some (.bool u.wh)/\W.cell? ⟨g,f+k*11+7,none⟩=some (.int .i64 u.ck)/\W.cell? ⟨g,f+k*11+8,none⟩=some (.int .i64 u.en)/\W.cell? ⟨g,f+k*11+9,none⟩=some (.slice u.a3 u.n3 u.c3)/\W.cell? ⟨g,f+k*11+10,none⟩=some (.int .i64 u.nr)/\W.cell? ⟨wr.heap.size,0,none⟩=some (.slice x.a1 x.n1 x.c1)/\W.cell? ⟨wr.heap.size,1,none⟩=some (.slice x.a2 x.n2 x.c2):=λW hW hW2=>by
     obtain ⟨⟨s0,s1,s2,s3,s4,s5⟩,s6,s7,s8,s9,s10⟩:=kc_cells λj hj=>(hW j).trans (hcl' j hj);exact ⟨s0,s1,s2,s3,s4,s5,s6,s7,s8,s9,s10,(World.cell?_of_block (a:=⟨wr.heap.size,0,none⟩) hW2).trans m0,(World.cell?_of_block (a:=⟨wr.heap.size,1,none⟩) hW2).trans m1⟩
    have hgw1:g<w1.heap.size:=Nat.lt_of_lt_of_le hg HB1.out.size;have hlt0:wr.heap.size<W2.heap.size:=(Array.getElem?_eq_some_iff.1 hM2).1;clear hW2 hb2 hM2 hcl'
    go_region_held3 (λw'=>w'.cell? ⟨g,f+k*11,none⟩=some (.string u.nm)/\w'.cell? ⟨g,f+k*11+1,none⟩=some (.int .i64 u.op)/\w'.cell? ⟨g,f+k*11+2,none⟩=some (.slice u.a1 u.n1 u.c1)/\w'.cell? ⟨g,f+k*11+3,none⟩=some (.slice u.a2 u.n2 u.c2)/\w'.cell? ⟨g,f+k*11+4,none⟩=some (.int .i64 u.mn)/\w'.cell? ⟨g,f+k*11+5,none⟩=some (.int .i64 u.mx)/\w'.cell? ⟨g,f+k*11+6,none⟩=some (.bool u.wh)/\w'.cell? ⟨g,f+k*11+7,none⟩=some (.int .i64 u.ck)/\w'.cell? ⟨g,f+k*11+8,none⟩=some (.int .i64 u.en)/\w'.cell? ⟨g,f+k*11+9,none⟩=some (.slice u.a3 u.n3 u.c3)/\w'.cell? ⟨g,f+k*11+10,none⟩=some (.int .i64 u.nr)/\w'.cell? ⟨wr.heap.size,0,none⟩=some (.slice x.a1 x.n1 x.c1)/\w'.cell? ⟨wr.heap.size,1,none⟩=some (.slice x.a2 x.n2 x.c2)) (first | exact hS _ (λ_=>rfl) rfl | exact hS _ (λ_=>((Below.refl W2.heap.size W2).alloc (Nat.le_refl _) _).cell hgr) (((Below.refl W2.heap.size W2).alloc (Nat.le_refl _) _).block _ hlt0) | exact hS _ (λ_=>((((Below.refl w1.heap.size W2).drew).alloc (by have h1:=H1.out.2.2.size;have h2:=HB2.out.size;exact Nat.le_trans h1 h2) _).grown hg4 hbz (λq hq=>((show wr.ownsRow _ _ _ _ _ _ from H1.out.1).lt q hq).1)).cell hgw1) ((hg4.block wr.heap.size (by simp;exact Nat.lt_succ_of_lt hlt0) (by intro e;exact absurd ((show wr.ownsRow _ _ _ _ _ _ from H1.out.1).lt _ e.symm).2 (Nat.lt_irrefl _))).trans (((Below.refl W2.heap.size W2).alloc (Nat.le_refl _) _).block _ hlt0))) ((refine step_append_lies _ (by rfl) _ _ _ (by rfl) w1.heap.size 95 i3 _ 13 192 Tryz.underlying65 hi3 hk0 hk1 hk2 rfl (by decide) _ fs.length (rowF encFd fs) (by rfl) hown2 ⟨W2.drew.heap.size,0,none⟩ 1 1 (encFd (u,x)) (by rfl) rfl hlk (λy hy=>encFd_E.one _ y hy) (by decide) (by unfold maxLen;omega) (by omega) hbz _ rfl ?_;intro g4 c4 w4 ho4 hg4 hor4 hlt4))
    all_goals
     have hOR:OR 95 13 encFd w1.heap.size (.slice (some ⟨g4,0,none⟩) (k+1) c4) (fs++[(u,x)]) w4:=by
      rw[<-hol];show w4.ownsRow _ _ _ _ (fs++[_]).length (rowF encFd (fs++[_]));rw[rowF_app,rowF_single,List.length_append];exact ho4
     have hb24:Below w1.heap.size W2 w4:=(((Below.refl w1.heap.size W2).drew).alloc (by have h1:=H1.out.2.2.size;have h2:=HB2.out.size;exact Nat.le_trans h1 h2) _).grown hg4 hbz (λq hq=>((show wr.ownsRow _ _ _ _ _ _ from H1.out.1).lt q hq).1)
     have hbw4:Below w1.heap.size w1 w4:=(H1.out.2.2.trans (HB2.out.mono H1.out.2.2.size)).trans hb24;have hI4:∀j (h1:j<(fs++[(u,x)]).length) (h2:j<us.length) (h3:j<os.length),(fs++[(u,x)])[j]=(us[j],os[j]):=λj h1 h2 h3=>by
      by_cases hj:j<fs.length
      .rw[List.getElem_append_left hj];exact HI.out j hj h2 h3
      .have hjk:j=k:=by simp at h1;omega
       subst hjk;rw[List.getElem_append_right (by omega)]
       simp only[hol,Nat.sub_self,List.getElem_cons_zero];rw[HF.out.1,HF.out.2]
     have hol4:(fs++[(u,x)]).length=k+1:=by simp[hol]
     have H4:=Lib.hid (And.intro hOR (And.intro hI4 hbw4));clear hOR hb24 hbw4 hI4 ho4 hg4 hor4 hlt4 hown2 hlk hbz m0 m1 q0 q1 q2 q3 q4 q5 q6 q7 q8 q9 q10 hgr;go_wp2_with fail;go_roundw
     case rel=>exact ⟨k+1,_,by omega,by go_num,H4.out.1,hol4,H4.out.2.1,H4.out.2.2⟩
     case measure=>simp[intOf];omega
   .obtain rfl:k=n:=by omega
    have hd:decide ((k:Int)<(k:Int))=false:=decide_eq_false (by omega)
    have hdn:decide (k<k)=false:=decide_eq_false (by omega)
    have H1:=Lib.hid (And.intro hown (And.intro hfl hbw));clear hown hfl hbw;go_wp2_with fail
    go_ret2
    obtain ⟨A3,c3,rfl,hcc,hcells⟩:=H1.out.1.cells encFd_E;obtain ⟨Af3,cf3,e0,hcf,hcm⟩:=own_form (show wr.ownsRow _ _ _ _ _ _ from H1.out.1);injection e0 with _ _ e0;have hlm:fs.length=ms.length:=by
     rcases HL.out with ⟨-,h⟩ | ⟨-,⟨i,-,-,-,h⟩ | ⟨h,-⟩⟩
     .cases h
     .exact absurd rfl h
     .have:=HN.out.2.1;have:=H1.out.2.1;omega
    refine ⟨HB1.out.trans (H1.out.2.2.mono HB1.out.size),0,ms,HL.out, .inr ⟨rfl,_,fs,rfl,⟨hlm,A3,c3,rfl,⟨hcc,by omega⟩,hcells.imp id ?_,λi h1 h2=>?_⟩,?_⟩⟩
    .rintro ⟨g,h1,-,h3,h4⟩;exact ⟨g,0,h1,h3,λi hi j hj=>by rw[Nat.zero_add];exact (h4 i hi j hj).1⟩
    .have hio:i<os.length:=by have:=HO2.out.2.1;have:=H1.out.2.1;omega
     rw[HI.out i h1 (by have:=HN.out.1;have:=H1.out.2.1;omega) hio]
     exact (HO2.out.2.2 i hio h2).later H1.out.2.2
    .refine List.ext_getElem (by simp;have:=HN.out.1;have:=H1.out.2.1;omega) λi h1 h2=>?_
     simp only[List.getElem_map];rw[HI.out i (by simpa using h1) h2 (by have:=HO2.out.2.1;have:=HN.out.1;omega)]
end Go.Proofs.YtdmoogjddmdmbaaGreatDoor
