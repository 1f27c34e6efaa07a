/- Walks. -/
import Derived.Test.YthamegenljmgmaaGreatDoorY10
import Derived.Test.YthamegenljmgmaaGreatDoorY03
import Derived.Test.YthamegenljmgmaaGreatDoorY13
import Derived.Test.YthamegenljmgmaaGreatDoorY06
import Derived.Test.YthamegenljmgmaaGreatDoorY07
import Derived.Test.YthamegenljmgmaaGreatDoorY09
import Derived.Test.YthamegenljmgmaaGreatDoorY05
set_option maxRecDepth 100000
set_option maxHeartbeats 16000000
set_option linter.unusedVariables false
set_option linter.unusedSimpArgs false
namespace Go.Proofs.YthamegenljmgmaaGreatDoor
open Go.RowKit
section
open Go.Maps (Keyed)
def vU(gs:List (List Nat))(l:List Nat):Option Value:=if l∈gs then some (.int .i64 ((gs.idxOf l:Nat):Int)) else none
def G6(F:Lit->Option Value)(gs:List (List Nat)):Prop:=∀l,F (.string (eO l))=vU gs l
theorem G6.put{F:Lit->Option Value}{gs:List (List Nat)}(h:G6 F gs)(l:List Nat)(hl:l∉gs)(n:Int)(hn:n=(gs.length:Int)):G6 (je F (.string (eO l)) (some (.int .i64 n))) (gs++[l]):=by
 intro x;subst hn;unfold je;by_cases e:x=l
 .subst e;rw[if_pos (by simp[Lit.sameKey])]
  unfold vU;rw[if_pos H,List.idxOf_append,if_neg hl];simp
 .rw[if_neg (by simp only[Lit.sameKey,beq_iff_eq];exact λh=>e (yx h)),h x]
  unfold vU;by_cases hx:x∈gs
  .rw[if_pos hx,if_pos (by simp[hx]),List.idxOf_append,if_pos hx]
  .rw[if_neg hx,if_neg (by simp[hx,e])]
def TI(w:World)(v:Value):Prop:=∀g,v.ownBlock=some g->∃cs m,w.heap[g]?=some (.cells cs 3 m)
theorem TI.keep{fp fp':List Nat}{w w':World}{v:Value}(h:TI w v)(ho:aO fp v)(hk:ab fp fp' w w'):TI w' v:=λg hg=>by
 obtain ⟨cs,m,e⟩:=h g hg;exact ⟨cs,m,(hk.aq g (γ e).1 (ho g hg)).t e⟩
theorem TI.later{w w':World}{v:Value}(h:TI w v)(hb:Below w w w'):TI w' v:=h.keep (fp:=[]) (fp':=[]) (λ_ _ h=>by cases h) (ab.aj hb)
theorem TI.ia{w:World}{B:Nat}{k:Nat}{v:Value}{n:Nat}{xs:List Value}(h:w.ownsRow B 3 k v n xs):TI w v:=λg hg=>by
 rcases h.2 with ⟨h1,-⟩|⟨g',cap,cur,h1,-,uH,-⟩
 .subst h1;simp[Value.ownBlock]at hg
 .subst h1;simp[Value.ownBlock]at hg;subst hg;exact ⟨_,_,uH⟩
theorem TI.nil(w:World):TI w ():=λg hg=>by simp[Value.ownBlock]at hg
theorem TI.ne{w:World}{v u:Value}(h:TI w v){B k n:Nat}{e:TypeId}{xs:List Value}(hu:w.ownsRow B e k u n xs)(he:e≠3):∀g,v.ownBlock=some g->u.ownBlock≠some g:=λg hg hug=>by
 obtain ⟨cs,m,h1⟩:=h g hg;rcases hu.2 with ⟨h2,-⟩|⟨g',cap,cur,h2,-,uH,-⟩
 .subst h2;simp[Value.ownBlock]at hug
 .subst h2;simp[Value.ownBlock]at hug;subst hug;rw[uH]at h1;injection h1 with h1;injection h1 with _ h3 _;exact he h3
def jT(s mb:Nat)(vg:Value):List Nat:=s::mb::aq vg
structure Rh (B s mb:Nat) (v0 v1 v2:Value) (gs:List (List Nat)) (vg:Value) (gv:List Value) (F:Lit->Option Value) (w:World):Prop where
 ne:s≠mb/\vg.ownBlock≠some s/\vg.ownBlock≠some mb
 hs:B<=s/\B<=mb/\B<=w
 cs:w.heap[s]?=some (.cells #[v0,v1,v2,.map (some mb),vg] 54)
 mv:MV Tryz.prog 9 mb gs.length F w
 says:G6 F gs
 own:w.ownsRow B 22 1 vg gs.length gv
 Qj:∀i (h:i<gs.length),∃v,gv[i]?=some v/\IL w v gs[i]/\aO (jT s mb vg) v/\TI w v
def sX(B s mb:Nat)(v0 v1 v2:Value)(gs:List (List Nat))(fp:List Nat)(w:World):Prop:=∃vg gv F,fp=jT s mb vg/\Rh B s mb v0 v1 v2 gs vg gv F w
section
variable {B s mb:Nat} {v0 v1 v2:Value} {gs:List (List Nat)} {vg:Value} {gv:List Value} {F:Lit->Option Value} {w w':World} {fp:List Nat}
theorem Rh.lt(h:Rh B s mb v0 v1 v2 gs vg gv F w):∀k∈jT s mb vg,B<=k/\k<w.heap.size:=by
 intro k hk;unfold jT at hk;rcases List.mem_cons.1 hk with rfl|hk
 .exact ⟨h.hs.1,(γ h.cs).1⟩
 .rcases List.mem_cons.1 hk with rfl|hk
  .exact ⟨h.hs.2.1,h.mv.lt⟩
  .exact h.own.lt k (af.1 hk)
theorem sX.lt(h:sX B s mb v0 v1 v2 gs fp w):∀k∈fp,B<=k/\k<w.heap.size:=by
 obtain ⟨vg,gv,F,rfl,h⟩:=h;exact h.lt
theorem Rh.same(h:Rh B s mb v0 v1 v2 gs vg gv F w)(hk:∀k∈jT s mb vg,w'.heap[k]?=w.heap[k]?)(hz:w.heap.size<=w')(dE:∀v l,IL w v l->aO (jT s mb vg) v->TI w v->IL w' v l/\TI w' v):Rh B s mb v0 v1 v2 gs vg gv F w':=by
 refine ⟨h.ne,⟨h.hs.1,h.hs.2.1,Nat.le_trans h.hs.2.2 hz⟩,(hk s (by simp[jT])).t h.cs,h.mv.iJ (hk mb (by simp[jT])),h.says,ar h.own λg hg=>hk g (by simp[jT,af,hg]),λi hi=>?_⟩
 obtain ⟨v,h1,h2,h3,h4⟩:=h.Qj i hi;exact ⟨v,h1,(dE v _ h2 h3 h4).1,h3,(dE v _ h2 h3 h4).2⟩
theorem sX.later(h:sX B s mb v0 v1 v2 gs fp w)(hb:Below w w w'):sX B s mb v0 v1 v2 gs fp w':=by
 obtain ⟨vg,gv,F,rfl,h⟩:=h;exact ⟨vg,gv,F,rfl,h.same (λk hk=>hb.block k (h.lt k hk).2) hb.size λv l hi _ ht=>⟨hi.later hb,ht.later hb⟩⟩
end
theorem Rh.add{B s mb:Nat}{v0 v1 v2:Value}{gs:List (List Nat)}{vg:Value}{gv:List Value}{F:Lit->Option Value}{w w1 w2 w3:World}(h:Rh B s mb v0 v1 v2 gs vg gv F w){l:List Nat}{v vg':Value}(hv:IL w v l)(ho:aO (jT s mb vg) v)(ht:TI w v)(hl:l∉gs)
  {n:Int} (hn:n=(gs.length:Int)) (bg:w.grownBy w1 (some mb)) (hm:MV Tryz.prog 9 mb (gs.length+1) (je F (.string (eO l)) (some (.int .i64 n))) w1)
  (hb:Below w1 w1 w2) (dZ:w2.grownBy w3 vg.ownBlock) (ao:w3.ownsRow B 22 1 vg' (gs.length+1) (gv++[v])) (hf:vg'.ownBlock=vg.ownBlock\/∃g,vg'.ownBlock=some g/\w2.heap.size<=g) :
  sX B s mb v0 v1 v2 (gs++[l]) (jT s mb vg') (w3.setCell (Z s 4) vg')/\ab (jT s mb vg) (jT s mb vg') w (w3.setCell (Z s 4) vg'):=by
 obtain ⟨n1,n2,n3⟩:=h.ne;have aB:=h.lt;have s5:s<w:=(aB s (by simp[jT])).2
 have Ui:mb<w:=(aB mb (by simp[jT])).2
 have z1:=bg.size;have z2:=hb.size;have z3:=dZ.size;have sQ:(w3.setCell (Z s 4) vg').heap.size=w3.heap.size:=by simp[World.setCell]
 have kR:∀k,k<w.heap.size->k∉jT s mb vg->(w3.setCell (Z s 4) vg').heap[k]?=w.heap[k]?:=λk hk hn=>by
  unfold jT at hn;simp only[List.mem_cons,not_or,af]at hn;rw[Below.heap_setCell _ _ _ _ hn.1,dZ.block k U (λe=>hn.2.2 e.symm),hb.block k U,bg.block k hk (λe=>hn.2.1 (by injection e))]
 have ew:∀g,vg'.ownBlock=some g->vg.ownBlock=some g\/w.heap.size<=g:=λg hg=>by
  rcases hf with hf|⟨g',hf,uH⟩
  .left;rw[<-hf];exact hg
  .right;rw[hf]at hg;injection hg with hg;omega
 have jr:ab (jT s mb vg) (jT s mb vg') w (w3.setCell (Z s 4) vg'):=by
  refine ⟨dZ.os.t (hb.os.t bg.os),dZ.tape.t (hb.tape.t bg.tape),dZ.output.t (hb.output.t bg.output),by rw[sQ];omega,kR,λk hk=>?_⟩
  unfold jT at hk|-;simp only[List.mem_cons,af]at hk|-;rcases hk with hk|hk|hk
  .exact .inl (.inl hk)
  .exact .inl (.inr (.inl hk))
  .exact (ew k hk).imp (λh=>.inr (.inr h)) id
 have qV:vg'.ownBlock≠some s:=λe=>(ew s e).elim n2 λh=>U;have Hx:vg'.ownBlock≠some mb:=λe=>(ew mb e).elim n3 λh=>U;refine ⟨⟨vg',gv++[v],_,rfl,⟨n1,qV,Hx⟩,⟨h.hs.1,h.hs.2.1,by rw[sQ];have:=h.hs.2.2;omega⟩,?_,?_,h.says.put l hl n hn,?_,λi hi=>?_⟩,jr⟩
 .have e1:w3.heap[s]?=some (.cells #[v0,v1,v2,.map (some mb),vg] 54):=by
   rw[dZ.block s U (λe=>n2 e.symm),hb.block s U,bg.block s s5 (λe=>n1 (by injection e)),h.cs]
  have:=aE e1 4 vg';simpa using this
 .rw[List.length_append];exact hm.iJ (by rw[Below.heap_setCell _ _ _ _ (λe=>n1 e.symm),dZ.block mb U (λe=>n3 e.symm),hb.block mb U])
 .rw[List.length_append];exact ar ao λg hg=>Below.heap_setCell _ _ _ _ (λe=>qV (by rw[hg,e]))
 .rw[List.length_append,List.length_singleton]at hi;have jm:gv.length=gs.length:=by have:=h.own.1;omega
  by_cases dE:i<gs.length
  .obtain ⟨u,u1,u2,u3,u4⟩:=h.Qj i dE;obtain ⟨k1,k2⟩:=u2.keep u3 jr;refine ⟨u,by rw[List.getElem?_append_left U];exact u1,?_,k2,u4.keep u3 jr⟩
   rw[List.getElem_append_left dE];exact k1
  .have:i=gs.length:=U;subst this;obtain ⟨k1,k2⟩:=hv.keep ho jr;refine ⟨v,by rw[<-jm];simp,?_,k2,ht.keep ho jr⟩
   rw[List.getElem_append_right V];simpa using k1
theorem sX.cells{B s mb:Nat}{v0 v1 v2:Value}{gs:List (List Nat)}{fp:List Nat}{w:World}(h:sX B s mb v0 v1 v2 gs fp w):s<w/\w.cell? (Z s 0)=some v0/\w.cell? (Z s 1)=some v1/\w.cell? (Z s 2)=some v2:=by
 obtain ⟨vg,gv,F,rfl,h⟩:=h;refine ⟨(γ h.cs).1,?_,?_,?_⟩ <;> (rw[Φ h.cs]; rfl)
theorem sX.grown{B s mb:Nat}{v0 v1 v2:Value}{gs:List (List Nat)}{fp:List Nat}{w w':World}(h:sX B s mb v0 v1 v2 gs fp w){B1 k n:Nat}{e:TypeId}{u:Value}{xs:List Value}(hu:w.ownsRow B1 e k u n xs)(he:e≠3)(ho:aO fp u)(hg:w.grownBy w' u.ownBlock):sX B s mb v0 v1 v2 gs fp w':=by
 obtain ⟨vg,gv,F,rfl,h⟩:=h;refine ⟨vg,gv,F,rfl,h.same (λk hk=>hg.block k (h.lt k hk).2 λe=>ho k e.symm hk) hg.size λv l hi _ ht=>?_⟩;have hn:=ht.ne hu he;refine ⟨?_,λg qu=>?_⟩
 .rcases hi with hi|⟨g,f,c,rfl,h0,uH,hc,ak⟩
  .exact .inl hi
  .exact .inr ⟨g,f,c,rfl,h0,Nat.lt_of_lt_of_le uH hg.size,hc,λi hi=>(χ g (f+i) (hg.block g uH λe=>hn g rfl e.symm)).t (ak i hi)⟩
 .obtain ⟨cs,m,e1⟩:=ht g qu;exact ⟨cs,m,(hg.block g (γ e1).1 λe=>hn g qu e.symm).t e1⟩
theorem ab.grown{fp fp':List Nat}{w w1 w':World}{r:Option Nat}(hk:ab fp fp' w w1)(hg:w1.grownBy w' r)(hr:∀g,r=some g->w.heap.size<=g):ab fp fp' w w':=
 ⟨hg.os.t hk.os,hg.tape.t hk.tape,hg.output.t hk.output,Nat.le_trans hk.size hg.size,λk h1 h2=>(hg.block k (Nat.lt_of_lt_of_le h1 hk.size) λe=>by have:=hr k e.symm;omega).t (hk.aq k h1 h2),hk.new⟩
end
def k9(rb:Nat)(t:ByteArray)(wr:Bool)(d:Int)(w:World):Prop:=w.heap[rb]?=some (.cells #[.string t,.bool wr,.int .i64 d] 124)
theorem k9.later{rb:Nat}{t:ByteArray}{wr:Bool}{d:Int}{w w':World}(h:k9 rb t wr d w)(hb:Below w w w'):k9 rb t wr d w':=(hb.block rb (γ h).1).t h
theorem k9.keep{rb:Nat}{t:ByteArray}{wr:Bool}{d:Int}{w w':World}(h:k9 rb t wr d w)(hk:w'.heap[rb]?=w.heap[rb]?):k9 rb t wr d w':=hk.t h
theorem k9.cells{rb:Nat}{t:ByteArray}{wr:Bool}{d:Int}{w:World}(h:k9 rb t wr d w):(w.cell? (Z rb 0)=some (.string t)/\w.cell? (Z rb 1)=some (.bool wr)/\w.cell? (Z rb 2)=some (.int .i64 d))/\(w.frozen? (Z rb 0)=false/\w.frozen? (Z rb 1)=false/\w.frozen? (Z rb 2)=false)/\rb<w:=
 ⟨aK h,⟨by simp[World.frozen?,show w.heap[rb]?=_ from h],by simp[World.frozen?,show w.heap[rb]?=_ from h],by simp[World.frozen?,show w.heap[rb]?=_ from h]⟩,(γ h).1⟩
def xD(rb:Nat)(w w':World):Prop:=ab [rb] [rb] w w'
theorem Nc(rb:Nat)(w:World):xD rb w w:=ab.refl _ _
theorem xD.tr{rb:Nat}{a b c:World}(h:xD rb a b)(k:xD rb b c):xD rb a c:=ab.t h k
theorem o8{rb:Nat}{a b:World}(h:Below a a b):xD rb a b:=ab.aj h
theorem rz{rb:Nat}{w:World}{o:Nat}{v:Value}:xD rb w (w.setCell (Z rb o) v):=og (ab.refl _ _) H _
theorem fL(rb:Nat)(t t' p:ByteArray)(wr b:Bool)(d:Int)(w:World)(h:k9 rb t wr d w)(h1:(⟨(Lib.trimPrefix t.data.toList p.data.toList).toArray⟩:ByteArray)=t')(h2:Lib.hasPrefix t.data.toList p.data.toList=b):
  Calls Tryz.prog 105 #[.pointer (Z rb 0),.string p] w λe w'=>e=.returned (.bool b)/\k9 rb t' wr d w'/\xD rb w w':=by
 have hc:=Tryz.strings_CutPrefix t p w;rw[h1,h2]at hc;have HC:=Y hc;obtain ⟨⟨c0,c1,c2⟩,⟨f0,f1,f2⟩,hl⟩:=h.cells;have HR:=Y h;clear hc h1 h2 h
 go_enter Tryz.func105,Tryz.ntmps105
 go_wp2_with fail;refine HC.mono ?_;rintro e w1 ⟨rfl,AF⟩;subst AF;go_wp2_with fail;refine au λWf bG=>?_;subst bG;refine bodyPost_ret (v:=.bool b) (by simp[results,Tryz.results105,go_sem];try rfl) rfl ?_
 refine ⟨rfl,?_,rz⟩;have:=aE HR.o 0 (.string t');simpa [k9] using this
theorem M0(rb:Nat)(t t':ByteArray)(c:Nat)(wr:Bool)(d:Int)(w:World)(h:k9 rb t wr d w)(h1:(⟨(Lib.trimPrefix t.data.toList [92,120]).toArray⟩:ByteArray)=t)(h2:Lib.hasPrefix t.data.toList [92,120]=false)
  (jn:1<=t.size) (ht':t.extract 1 t.size=t') (QH:∀w,(Instr.index 9 (.string t) (.int .i64 0)).run Tryz.prog w=.ok (.int .u8 (c:Int)) w) (pe:Lib.indexByte [92,91,93,40,41,123,125,124,45] c.toUInt8=-1) :
  Calls Tryz.prog 135 #[.pointer (Z rb 0)] w λe w'=>e=.returned (.int .u8 (c:Int))/\k9 rb t' wr d w'/\xD rb w w':=by
 have bf:¬t.toList=[]:=λh=>by
  rw[ByteArray.toList_eq]at h;have h2:t.data.toList.length=0:=by rw[h];rfl
  have h3:t.size=t.data.toList.length:=by unfold ByteArray.size;exact Array.length_toList.symm
  omega
 have aG:=fL rb t t ⟨#[92,120]⟩ wr false d w h h1 h2;have hi:=Tryz.strings_IndexByte ⟨#[92,91,93,40,41,123,125,124,45]⟩ (c:Int);have HC:=Y aG;have HI:=Y hi;clear aG hi h1 h2 h
 go_enter Tryz.func135,Tryz.ntmps135
 go_wp2_with fail;refine HC.mono ?_;rintro e w1 ⟨rfl,hr,hk⟩;obtain ⟨⟨c0,c1,c2⟩,⟨f0,f1,f2⟩,hl⟩:=hr.cells;have HR:=Y (I hr hk);clear hr hk;go_wp2_with fail;refine (HI w1).mono ?_;rintro e w2 ⟨rfl,eh⟩;subst eh;have WJ:Lib.indexByte [92,91,93,40,41,123,125,124,45] ((c:Int).toNat.toUInt8)=-1:=pe;rw[show Lib.indexByte (⟨#[92,91,93,40,41,123,125,124,45]⟩:ByteArray).data.toList ((c:Int).toNat.toUInt8)=-1 from WJ];have hd:decide ((0:Int)<=-1)=false:=O;have Q7:(1:Int)<=(t.size:Int):=U;have uw:t.toList.isEmpty=false:=by simpa using bf
 go_wp2_with fail;refine au λWf bG=>?_;subst bG;refine bodyPost_ret (v:=.int .u8 (c:Int)) (by simp[results,Tryz.results135,go_sem];try rfl) rfl ?_
 refine ⟨rfl,?_,HR.2.tr rz⟩;have:=aE HR.1 0 (.string t');simpa [k9] using this
theorem M5(rb:Nat)(t t' p:ByteArray)(wr:Bool)(d:Int)(w:World)(h:k9 rb t wr d w)(h1:(⟨(Lib.trimPrefix t.data.toList p.data.toList).toArray⟩:ByteArray)=t')(h2:Lib.hasPrefix t.data.toList p.data.toList=true):
  Calls Tryz.prog 133 #[.pointer (Z rb 0),.string p] w λe w'=>e=.returned (.tuple #[])/\k9 rb t' wr d w'/\xD rb w w':=by
 have HC:=Y (fL rb t t' p wr true d w h h1 h2);clear h1 h2 h
 go_enter Tryz.func133,Tryz.ntmps133
 go_wp2_with fail;refine HC.mono ?_;rintro e w1 ⟨rfl,hr,hk⟩;have HR:=Y (I hr hk);clear hr hk;go_wp2_with fail
 go_end0
 exact ⟨rfl,HR.1,HR.2⟩
theorem M8(rb:Nat)(wr:Bool)(d:Int)(w:World)(h:k9 rb ⟨#[]⟩ wr d w):Calls Tryz.prog 121 #[.pointer (Z rb 0)] w λe w'=>e=.returned (.bool false)/\k9 rb ⟨#[]⟩ wr d w'/\xD rb w w':=by
 obtain ⟨⟨c0,c1,c2⟩,⟨f0,f1,f2⟩,hl⟩:=h.cells;have HR:=Y h;clear h
 go_enter Tryz.func121,Tryz.ntmps121
 go_wp2_with fail;refine au λWf bG=>?_;subst bG;refine bodyPost_ret (v:=.bool false) (by simp[results,Tryz.results121,go_sem];try rfl) rfl ?_
 exact ⟨rfl,HR.o,Nc _ _⟩
theorem CA(rb bx:Nat)(t:ByteArray)(wr:Bool)(d:Int)(w:World)(h:k9 rb t wr d w)(hb:w.cell? (Z bx 0)=some (.pointer (Z rb 0)))(h1:(⟨(Lib.trimPrefix t.data.toList [124]).toArray⟩:ByteArray)=t)(h2:Lib.hasPrefix t.data.toList [124]=false):
  Calls Tryz.prog 104 #[.pointer (Z bx 0)] w λe w'=>e=.returned (.bool false)/\k9 rb t wr d w'/\xD rb w w':=by
 have HC:=Y (fL rb t t ⟨#[124]⟩ wr false d w h h1 h2);have lb:bx<w:=by
  by_cases hg:bx<w
  .exact hg
  .simp[World.cell?,Array.getElem?_eq_none (Nat.le_of_not_lt hg)]at hb
 clear h1 h2 h
 go_enter Tryz.func104,Tryz.ntmps104
 go_wp2_with fail;refine HC.mono ?_;rintro e w1 ⟨rfl,hr,hk⟩;have HR:=Y (I hr hk);clear hr hk;go_wp2_with fail;refine au λWf bG=>?_;subst bG;refine bodyPost_ret (v:=.bool false) (by simp[results,Tryz.results104,go_sem];try rfl) rfl ?_
 exact ⟨rfl,HR.1,HR.2⟩
def iS(s:Nat)(vs vf:Value)(W:World)(c:Nat)(w':World):Prop:=ab (s::(aq vs++aq vf)) [] W w'/\(c<=2->w'.heap[s]?=W.heap[s]?)/\(c<=1->∀g,vf.ownBlock=some g->w'.heap[g]?=W.heap[g]?)/\(c=0->Below W W w')
theorem re{L:List Nat}{a b:World}{v:Value}(h:a.grownBy b v.ownBlock)(hL:∀g,v.ownBlock=some g->g∈L):ab L [] a b:=
 ⟨h.os,h.tape,h.output,h.size,λk hk hn=>h.block k hk (λe=>hn (hL k e.symm)),λk hk=>by cases hk⟩
theorem ab.tr{L:List Nat}{a b c:World}(h:ab L [] a b)(k:ab L [] b c):ab L [] a c:=
 ⟨k.os.t h.os,k.tape.t h.tape,k.output.t h.output,Nat.le_trans h.size k.size,λi hi hn=>(k.aq i (Nat.lt_of_lt_of_le hi h.size) hn).t (h.aq i hi hn),λk hk=>by cases hk⟩
def mY(N s B0 nr c1 nS cS nF cF:Nat)(A1 As Af:Option Addr)(x2 x3 x4:Value)(sv rows:List Value)(W:World):Nat->Nat->Value->World->Prop
 |c,0,x,w=>x=.pointer (Z s 0)
 |c,1,x,w=>x=.pointer (Z s 0)
 |c,2,x,w=>x=.pointer (Z s 0)
 |c,3,x,w=>x=.pointer (Z s 0)
 |c,4,x,w=>x=.pointer (Z s 0)
 |c,5,x,w=>x=.slice As nS cS
 |c,6,x,w=>x=.pointer (Z N 1)
 |c,7,x,w=>x=.slice A1 nr c1
 |c,8,x,w=>∃g,x=.slice (Z g 0) 1 1/\W.heap.size<=g/\g<w.heap.size/\w.cell? (Z g 0)=some (.slice A1 nr c1)
 |c,9,x,w=>1<=c->∃A c',x=.slice A (nS+1) c'/\w.ownsRow B0 23 1 x (nS+1) (sv++[.slice A1 nr c1])/\aT x (.slice As nS cS) W
 |c,10,x,w=>x=.pointer (Z s 0)
 |c,11,x,w=>x=.pointer (Z s 0)
 |c,12,x,w=>x=.pointer (Z s 1)
 |c,13,x,w=>x=.slice Af nF cF
 |c,14,x,w=>∃g,x=.slice (Z g 0) 1 1/\W.heap.size<=g/\g<w.heap.size/\w.cell? (Z g 0)=some (.slice none 0 0)
 |c,15,x,w=>2<=c->∃A c',x=.slice A (nF+1) c'/\w.ownsRow B0 22 1 x (nF+1) (rows++[.slice none 0 0])/\aT x (.slice Af nF cF) W
 |c,16,x,w=>x=.pointer (Z s 0)
 |c,17,x,w=>x=.pointer (Z s 0)
 |c,18,x,w=>3<=c->∃A c',w.ownsRow B0 23 1 (.slice A (nS+1) c') (nS+1) (sv++[.slice A1 nr c1])/\aT (.slice A (nS+1) c') (.slice As nS cS) W.heap.size/\w.heap[s]?=some (.cells #[.slice A (nS+1) c',.slice Af nF cF,x2,x3,x4] 54)
 |c,19,x,w=>x=.pointer (Z s 0)
 |c,20,x,w=>x=.pointer (Z s 1)
 |_,_,_,_=>True
section
variable {s:Nat} {vs vf:Value} {W w' gX:World} {c:Nat}
theorem iS.later(h:iS s vs vf W c w')(hs:s<W:=by assumption)(hf:∀g,vf.ownBlock=some g->g<W.heap.size:=by assumption)(hb:Below w' w' gX):iS s vs vf W c gX:=by
 have hz:=h.1.size;exact ⟨h.1.tr (ab.aj hb).gV,λhc=>(hb.block s U).t (h.2.1 hc),λhc g hg=>(hb.block g (by have:=hf g hg;omega)).t (h.2.2.1 hc g hg),λhc=>(h.2.2.2 hc).t (hb.mono hz)⟩
theorem iS.s1(h:iS s vs vf W 0 w')(hs:s<W)(hg:w'.grownBy gX vs.ownBlock)(hn:vs.ownBlock≠some s)(hf:∀g,vf.ownBlock=some g->vs.ownBlock≠some g/\g<W.heap.size):iS s vs vf W 1 gX:=by
 have hz:=h.1.size;exact ⟨h.1.tr (re hg λg hg=>by simp[af,hg]),λ_=>(hg.block s U (λe=>hn e.symm)).t (h.2.1 O),λ_ g rK=>(hg.block g (by have:=(hf g rK).2;omega) (λe=>(hf g rK).1 e.symm)).t (h.2.2.1 O g rK),λh=>by cases h⟩
theorem iS.s2(h:iS s vs vf W 1 w')(hs:s<W)(hg:w'.grownBy gX vf.ownBlock)(hn:vf.ownBlock≠some s):iS s vs vf W 2 gX:=by
 have hz:=h.1.size;exact ⟨h.1.tr (re hg λg hg=>by simp[af,hg]),λ_=>(hg.block s U (λe=>hn e.symm)).t (h.2.1 O),λh=>U,λh=>by cases h⟩
theorem iS.s3(h:iS s vs vf W 2 w')(v:Value):iS s vs vf W 3 (w'.setCell (Z s 0) v):=
 ⟨h.1.tr ⟨rfl,rfl,rfl,by simp[World.setCell],λk _ hn=>Below.heap_setCell _ _ _ _ (λe=>hn (by rw[e];simp)),λk hk=>by cases hk⟩,λh=>U,λh=>U,λh=>by cases h⟩
end
section
variable {N s B0 nr c1 nS cS nF cF:Nat} {A1 As Af:Option Addr} {x2 x3 x4:Value} {sv rows:List Value} {W u u':World}
theorem yM(hb:Below u u u'){c j:Nat}{x:Value}(h:mY N s B0 nr c1 nS cS nF cF A1 As Af x2 x3 x4 sv rows W c j x u):mY N s B0 nr c1 nS cS nF cF A1 As Af x2 x3 x4 sv rows W c j x u':=by
 match j with
 |0|1|2|3|4|5|6|7|10|11|12|13|16|17|19|20=>exact h
 |8|14=>
  obtain ⟨g,e,h1,hg,h0⟩:=h;exact ⟨g,e,h1,Nat.lt_of_lt_of_le hg hb.size,(hb.cl g 0 hg).t h0⟩
 |9|15=>
  intro hc;obtain ⟨A,c',e,ho,hf⟩:=h hc;exact ⟨A,c',e,aR ho hb,hf⟩
 |18=>
  intro hc;obtain ⟨A,c',ho,hf,hr⟩:=h hc;exact ⟨A,c',aR ho hb,hf,(hb.block _ (γ hr).1).t hr⟩
 |_+21=>exact trivial
theorem xy{v:Value}(hg:u.grownBy u' v.ownBlock)(hv:∀g,v.ownBlock=some g->g<W.heap.size){x z:Value}(h:∃g,x=.slice (Z g 0) 1 1/\W.heap.size<=g/\g<u.heap.size/\u.cell? (Z g 0)=some z):∃g,x=.slice (Z g 0) 1 1/\W.heap.size<=g/\g<u'.heap.size/\u'.cell? (Z g 0)=some z:=by
 obtain ⟨g,e,h1,h2,h3⟩:=h;exact ⟨g,e,h1,Nat.lt_of_lt_of_le h2 hg.size,(χ g 0 (hg.block g h2 (λe=>by have:=hv g e.symm;omega))).t h3⟩
theorem JN(hg:u.grownBy u' (Value.slice As nS cS).ownBlock)(hv:∀g,(Value.slice As nS cS).ownBlock=some g->g<W.heap.size)(j:Nat)(x:Value)(hj:j≠9)(h:mY N s B0 nr c1 nS cS nF cF A1 As Af x2 x3 x4 sv rows W 0 j x u):mY N s B0 nr c1 nS cS nF cF A1 As Af x2 x3 x4 sv rows W 1 j x u':=by
 match j with
 |0|1|2|3|4|5|6|7|10|11|12|13|16|17|19|20=>exact h
 |8|14=>exact xy hg hv h
 |9=>exact absurd rfl hj
 |15|18=>exact λhc=>U
 |_+21=>exact trivial
theorem JP(hg:u.grownBy u' (Value.slice Af nF cF).ownBlock)(hv:∀g,(Value.slice Af nF cF).ownBlock=some g->g<W.heap.size)(hd:∀g,(Value.slice Af nF cF).ownBlock=some g->(Value.slice As nS cS).ownBlock≠some g)(j:Nat)(x:Value)(hj:j≠15)(h:mY N s B0 nr c1 nS cS nF cF A1 As Af x2 x3 x4 sv rows W 1 j x u):mY N s B0 nr c1 nS cS nF cF A1 As Af x2 x3 x4 sv rows W 2 j x u':=by
 match j with
 |0|1|2|3|4|5|6|7|10|11|12|13|16|17|19|20=>exact h
 |8|14=>exact xy hg hv h
 |9=>
  intro _;obtain ⟨A,c',e,ho,hf⟩:=h O;refine ⟨A,c',e,ar ho λg bJ=>hg.block g (ho.lt g bJ).2 (λe2=>?_),hf⟩;rcases hf with hf|⟨g',hf,h2⟩
  .rw[hf]at bJ;exact hd g e2.symm bJ
  .rw[hf]at bJ;injection bJ with bJ;have:=hv g e2.symm;omega
 |15=>exact absurd rfl hj
 |18=>exact λhc=>U
 |_+21=>exact trivial
theorem JQ(hs:s<W)(Q5:(Value.slice As nS cS).ownBlock≠some s)(Q6:(Value.slice Af nF cF).ownBlock≠some s)(v:Value)(j:Nat)(x:Value)(hj:j≠18)(h:mY N s B0 nr c1 nS cS nF cF A1 As Af x2 x3 x4 sv rows W 2 j x u):mY N s B0 nr c1 nS cS nF cF A1 As Af x2 x3 x4 sv rows W 3 j x (u.setCell (Z s 0) v):=by
 have aH:∀k,k≠s->(u.setCell (Z s 0) v).heap[k]?=u.heap[k]?:=λk hk=>Below.heap_setCell _ _ _ _ hk
 match j with
 |0|1|2|3|4|5|6|7|10|11|12|13|16|17|19|20=>exact h
 |8|14=>
  obtain ⟨g,e,h1,h2,h3⟩:=h;exact ⟨g,e,h1,by simpa [World.setCell] using h2,(χ g 0 (aH g U)).t h3⟩
 |9=>
  intro _;obtain ⟨A,c',e,ho,hf⟩:=h O;refine ⟨A,c',e,ar ho λg bJ=>aH g (λe2=>?_),hf⟩;subst e2;rcases hf with hf|⟨g',hf,h2⟩
  .rw[hf]at bJ;exact Q5 bJ
  .rw[hf]at bJ;injection bJ with bJ;omega
 |15=>
  intro _;obtain ⟨A,c',e,ho,hf⟩:=h O;refine ⟨A,c',e,ar ho λg bJ=>aH g (λe2=>?_),hf⟩;subst e2;rcases hf with hf|⟨g',hf,h2⟩
  .rw[hf]at bJ;exact Q6 bJ
  .rw[hf]at bJ;injection bJ with bJ;omega
 |18=>exact absurd rfl hj
 |_+21=>exact trivial
end
theorem JR(w0:World)(s:Nat)(x2 x3 x4:Value)(rs:List (Nat×Nat))(mn mx:Int)(vs:List Value)(hn:bY w0 (.mk 1 rs [] mn mx) vs)(lU:ep rs=true):kP w0 s x2 x3 x4 (.mk 1 rs [] mn mx) vs:=by
 intro w b fp K fY jh fW hK rT;obtain ⟨A1,c1,A2,c2,rfl,rJ,jD,-⟩:=hn.form;obtain ⟨Vs,Vf,rows,sv,rfl,hb⟩:=fY;obtain ⟨As,cS,rfl,E0,Eb⟩:=ae hb.sets;obtain ⟨Af,cF,rfl,adl,adm⟩:=ae hb.fol;obtain ⟨i1,fs,r5,iI,j9⟩:=info_parts FJ;obtain ⟨i2,ek,mJ,bQ,bE⟩:=info_parts tR;have aB:=hb.lt;have sO:=hb.cW.size;obtain ⟨nS,NW⟩:∃n,b.sets.length=n:=⟨_,rfl⟩;obtain ⟨nF,NX⟩:∃n,b.fol.length=n:=⟨_,rfl⟩;obtain ⟨nr,uu⟩:∃n,rs.length=n:=⟨_,rfl⟩;obtain rfl:nF=nS:=U;have p8:nF<=600:=U;have NY:s<w:=(aB s (by simp[kY])).2
 have aY:=hb.nd;rw[List.nodup_cons,List.nodup_append]at aY;obtain ⟨n1,n2,n3,n4⟩:=aY;rw[List.nodup_append]at n3;obtain ⟨n5,n6,n7⟩:=n3;have wu:=hb.cs;have ow:=hb.sets;have ox:=hb.fol;rw[NW,NX]at wu;rw[NW]at ow;rw[NX]at ox;simp only[NW,NX]at aB n1 n2 n4 n5 n7;have Nz:w.cell? (Z s 0)=some (.slice As nF cS):=by rw[Φ wu];rfl
 have qB:w.cell? (Z s 1)=some (.slice Af nF cF):=by rw[Φ wu];rfl
 have AO:=Y lU;clear lU;have XE:=Y hb;have HHK:=Y hK;have mI:=Y (I NW (I NX jh));have LI:Hid (gD w0 (.slice A1 rs.length c1) rs):=Y rJ;have HN:=Y (I n1 (I n2 (I n4 (I n5 n7))));have C8:=Y aB;have ux:=Y (I wu (I ow ox));show Calls Tryz.prog _ #[_,.agg #[(1:Int),.slice A1 rs.length c1,.slice A2 0 c2,.int .i64 mn,.int .i64 mx]] w _;rw[uu];rw[uu]at LI;clear hb hK rJ hn jD fW rT uu aB n1 n2 n4 n5 n6 n7 wu ow ox NW NX jh;have akB:s<w+1:=U;have Lt:s<w+1+1:=U
 go_enter Tryz.func19,Tryz.ntmps19
 go_wp2_with fail;refine br λW hW=>?_;have du:Below w w W:=by rw[hW];exact ((D.alloc V _).alloc H _).alloc ψ _
 have jc:W.heap.size=w+3:=by rw[hW];simp
 have r0:W.heap[w.heap.size]?=some (.cells #[(1:Int),.slice A1 nr c1,.slice A2 0 c2,.int .i64 mn,.int .i64 mx] 26):=by rw[hW,az _ _ _ (by simp <;> omega),az _ _ _ H]; exact heap_alloc_new w _
 have r1:W.heap[w.heap.size+1]?=some (.cells #[(),(),.bool false] 56):=by rw[hW,az _ _ _ H];simpa using heap_alloc_new (w.alloc _) _
 obtain ⟨b0,b1,b2,b3,b4⟩:=aD r0;have pM:W.heap[s]?=some (.cells #[.slice As nF cS,.slice Af nF cF,x2,x3,x4] 54):=(du.block s NY).t ux.1;have SU:=Y pM;have HS1:=Y (aR ux.2.1 du);have HF1:=Y (aR ux.2.2 du);have NZ:W.cell? (Z s 0)=some (.slice As nF cS):=by rw[Φ pM];rfl
 have N0:W.cell? (Z s 1)=some (.slice Af nF cF):=by rw[Φ pM];rfl
 have eP:s<W:=U;have l0:w.heap.size<W:=U;have bI:∀k∈s::(aq (.slice As nF cS)++aq (.slice Af nF cF)),k<w.heap.size:=λk hk=>by
  simp only[List.mem_cons,List.mem_append]at hk;rcases hk with hk|hk|hk
  .rw[hk];exact NY
  .exact (ux.2.1.lt k (af.1 hk)).2
  .exact (ux.2.2.lt k (af.1 hk)).2
 have T0:w.heap.size∉s::(aq (.slice As nF cS)++aq (.slice Af nF cF)):=λhm=>by have:=bI _ hm;omega
 have ml:w.heap.size+1∉s::(aq (.slice As nF cS)++aq (.slice Af nF cF)):=λhm=>by have:=bI _ hm;omega
 have bf:(∀g,(Value.slice As nF cS).ownBlock=some g->g<W.heap.size)/\(∀g,(Value.slice Af nF cF).ownBlock=some g->g<W.heap.size)/\(∀g,(Value.slice Af nF cF).ownBlock=some g->(Value.slice As nF cS).ownBlock≠some g)/\(Value.slice As nF cS).ownBlock≠some s/\(Value.slice Af nF cF).ownBlock≠some s/\(∀g,(Value.slice Af nF cF).ownBlock=some g->(Value.slice As nF cS).ownBlock≠some g/\g<W.heap.size):=by
  have hd:∀g,(Value.slice Af nF cF).ownBlock=some g->(Value.slice As nF cS).ownBlock≠some g:=λg hg e=>HN.2.2.1 g (af.2 e) g (List.mem_append_left _ (af.2 hg)) rfl;have hf:∀g,(Value.slice Af nF cF).ownBlock=some g->g<W.heap.size:=λg hg=>by have:=(ux.2.2.lt g hg).2;omega
  exact ⟨λg hg=>by have:=(ux.2.1.lt g hg).2;omega,hf,hd,λe=>HN.1 (List.mem_append_left _ (af.2 e)),λe=>HN.1 (List.mem_append_right _ (List.mem_append_left _ (af.2 e))),λg hg=>⟨hd g hg,hf g hg⟩⟩
 have dr:=Y bf;have dN:iS s (.slice As nF cS) (.slice Af nF cF) W 0 W.drew:=⟨(ab.aj D.drew).gV,λ_=>rfl,λ_ _ _=>rfl,λ_=>D.drew⟩;have dc:=Y du;have IX:=Y r1;have tU:=Y ml;have HZW:=Y jc;clear hW r0 r1 pM Nz qB bI bf du ml jc;refine ay 21 [9,15,18] (mY w s w0 nr c1 nF cS nF cF A1 As Af x2 x3 x4 sv rows W) (λc w'=>iS s (.slice As nF cS) (.slice Af nF cF) W c w') R R R R R R O dN ?_ ?_
 .simp only[ck,ct];refine aa.pure O ?_ (aa.pure O ?_ (aa.pure O ?_ (aa.pure O ?_ (aa.pure O ?_ (aa.pure O ?_ (aa.pure O ?_ (aa.pure O ?_ (aa.gp O ?_ (aa.jg 0 rfl ?_ (aa.pure O ?_ (aa.pure O ?_ (aa.pure O ?_ (aa.pure O ?_ (aa.gp O ?_ (aa.jg 1 rfl ?_ (aa.pure O ?_ (aa.pure O ?_ (aa.jg 2 rfl ?_ (aa.pure O ?_ (aa.pure O ?_ (aa.nil)))))))))))))))))))))
  all_goals first | (intro v wz c bX hS hE K hK;simp only[ah,Act.put,dk,dm,dn,Nat.zero_add,Nat.reduceAdd,ck,ct]at hK|-) | (intro v wz hS hE K hK;simp only[ah,Act.put,dk,dm,dn,Nat.zero_add,Nat.reduceAdd,ck,ct]at hK|-)
  .exact ζ
  .exact ζ
  .exact ζ
  .have e2:v 2=_:=hE.1 rfl;rw[e2]at hK|-;exact ζ
  .have e3:v 3=_:=hE.1 rfl;rw[e3]at hK|-;exact ζ
  .have e4:v 4=_:=hE.1 rfl;rw[e4]at hK|-;have hle:=bX 2 R;have c1:=(χ s 0 (hS.2.1 U)).t NZ;exact ζ
  .exact ζ
  .have e6:v 6=_:=hE.1 rfl;rw[e6]at hK|-;have c1:=(χ w 1 (hS.1.aq _ l0 T0)).t b1;exact ζ
  .have e7:v 7=_:=hE.1 rfl;rw[e7]at hK|-;have bw:Below wz wz (wz.alloc (.cells #[.slice A1 nr c1] 23)):=D.alloc V _;have jc:=hS.1.size;have HX:=Y hS;have iZ:=Y bw;clear hS hE bX bw;go_wp2_with fail;exact hK.out _ _ (λj y _ h=>yM iZ.o h) (HX.later eP dr.2.1 iZ.o) ⟨wz.heap.size,rfl,jc,H,by go_simp⟩
  .have e5:v 5=_:=hE.1 rfl;rw[e5]at hK|-;have E8:=hE.2.1 rfl;obtain ⟨g,e8,zo,jm,oz⟩:=E8;rw[e8]at hK|-;have hz:=hS.2.2.2 rfl;have ao:wz.ownsRow w0 23 1 (.slice As nF cS) nF sv:=aR HS1.o hz;have iM:=hz.size;have ak:∀j u,([Value.slice A1 nr c1]:List Value)[j]?=some u->wz.cell? (((Z g 0):Addr).add j)=some u:=λj u hj=>by
    match j,hj with
    |0,hj=>simp at hj;rw[<-hj,Addr.add_lit];exact oz
   have HX:=Y hS;clear hS hE hz;go_wp2_with (at_builtin;refine bn rfl _ _ 49 rfl w0 23 i1 () 1 24 Tryz.underlying49 fs r5 iI j9 rfl O _ nF sv rfl ao (Z g 0) 1 1 [.slice A1 nr c1] rfl rfl ak (by intro u hu;simp at hu;subst hu;rfl) (by unfold maxLen;omega) U U ?_)
   intro v' w1 ai bg dv;obtain ⟨A',c',rfl,-,-⟩:=ae ai;have mP:aT (.slice A' (nF+1) c') (.slice As nF cS) W.heap.size:=dv.imp id λ⟨g,h1,h2⟩=>⟨g,h1,Nat.le_trans iM h2⟩;refine hK.out _ _ (JN bg dr.1) (HX.s1 eP bg dr.2.2.2.1 dr.2.2.2.2.2) (λ_=>⟨A',c',rfl,ai,mP⟩)
  .exact ζ
  .have eR:v 10=_:=hE.1 rfl;rw[eR]at hK|-;exact ζ
  .have fZ:v 11=_:=hE.1 rfl;rw[fZ]at hK|-;exact ζ
  .have fG:v 12=_:=hE.1 rfl;rw[fG]at hK|-;have hle:=bX 2 R;have c1:=(χ s 1 (hS.2.1 U)).t N0;exact ζ
  .have bw:Below wz wz (wz.alloc (.cells #[()] 22)):=D.alloc V _;have jc:=hS.1.size;have HX:=Y hS;have iZ:=Y bw;clear hS hE bX bw;go_wp2_with fail;exact hK.out _ _ (λj y _ h=>yM iZ.o h) (HX.later eP dr.2.1 iZ.o) ⟨wz.heap.size,rfl,jc,H,by go_simp⟩
  .have iH:v 13=_:=hE.1 rfl;rw[iH]at hK|-;have FP:=hE.2.1 rfl;obtain ⟨g,jw,zo,jm,oz⟩:=FP;rw[jw]at hK|-;have ao:wz.ownsRow w0 22 1 (.slice Af nF cF) nF rows:=ar HF1.o λg hg=>hS.2.2.1 O g hg;have iM:=hS.1.size;have ak:∀j u,([Value.slice none 0 0]:List Value)[j]?=some u->wz.cell? (((Z g 0):Addr).add j)=some u:=λj u hj=>by
    match j,hj with
    |0,hj=>simp at hj;rw[<-hj,Addr.add_lit];exact oz
   have HX:=Y hS;clear hS hE;go_wp2_with (at_builtin;refine bn rfl _ _ 50 rfl w0 22 i2 () 1 24 Tryz.underlying50 ek mJ bQ bE rfl O _ nF rows rfl ao (Z g 0) 1 1 [.slice none 0 0] rfl rfl ak (by intro u hu;simp at hu;subst hu;rfl) (by unfold maxLen;omega) U U ?_)
   intro v' w1 ai bg dv;obtain ⟨A',c',rfl,-,-⟩:=ae ai;have mP:aT (.slice A' (nF+1) c') (.slice Af nF cF) W.heap.size:=dv.imp id λ⟨g,h1,h2⟩=>⟨g,h1,Nat.le_trans iM h2⟩;refine hK.out _ _ (JP bg dr.2.1 dr.2.2.1) (HX.s2 eP bg dr.2.2.2.2.1) (λ_=>⟨A',c',rfl,ai,mP⟩)
  .have e0:v 0=_:=hE.1 rfl;rw[e0]at hK|-;exact ζ
  .have oV:v 16=_:=hE.1 rfl;rw[oV]at hK|-;exact ζ
  .have nR:v 17=_:=hE.1 rfl;rw[nR]at hK|-;have E9:=hE.2.1 rfl;obtain ⟨A,c',ev,ho,dv⟩:=E9 O;rw[ev]at hK ho dv|-;have aC:=(hS.2.1 O).t SU.o;have cz:wz.cell? (Z s 0)=some (.slice As nF cS):=by rw[Φ aC];rfl
   have fz:wz.frozen? (Z s 0)=false:=Ψ aC
   have HX:=Y hS;have HO:=Y (I ho (I dv aC));clear hS hE ho dv aC ev;go_wp2_with fail;have qV:∀g,(Value.slice A (nF+1) c').ownBlock=some g->g≠s:=λg hg=>HO.2.1.elim (λe=>by rw[e]at hg;intro e2;subst e2;exact dr.2.2.2.1 hg) λ⟨g',e,h2⟩=>by rw[e]at hg;injection hg with hg;omega
   refine hK.out undef _ (JQ eP dr.2.2.2.1 dr.2.2.2.2.1 _) (HX.s3 _) (λ_=>⟨A,c',ar HO.1 λg hg=>Below.heap_setCell _ _ _ _ (qV g hg),HO.2.1,by have:=aE HO.2.2 0 (.slice A (nF+1) c');simpa using this⟩)
  .have e1:v 1=_:=hE.1 rfl;rw[e1]at hK|-;exact ζ
  .have wS:v 19=_:=hE.1 rfl;rw[wS]at hK|-;exact ζ
 .intro v wz hS hF;have e0:v 0=_:=hF 0 O;have e1:v 1=_:=hF 1 O;have e2:v 2=_:=hF 2 O;have e3:v 3=_:=hF 3 O;have e4:v 4=_:=hF 4 O;have e5:v 5=_:=hF 5 O;have e6:v 6=_:=hF 6 O;have e7:v 7=_:=hF 7 O;have eR:v 10=_:=hF 10 O;have fZ:v 11=_:=hF 11 O;have fG:v 12=_:=hF 12 O;have iH:v 13=_:=hF 13 O;have oV:v 16=_:=hF 16 O;have nR:v 17=_:=hF 17 O;have wS:v 19=_:=hF 19 O;have AP:v 20=_:=hF 20 O;have E8:=hF 8 O;have E9:=hF 9 O;have FP:=hF 14 O;have GD:=hF 15 O;have O4:=hF 18 O;simp only[ah,Act.put,dk,dm,dn,Nat.zero_add,Nat.reduceAdd,ck,ct,List.drop_succ_cons,List.drop_zero,e0,e1,e2,e3,e4,e5,e6,e7,eR,fZ,fG,iH,oV,nR,wS,AP];clear hF e0 e1 e2 e3 e4 e5 e6 e7 eR fZ fG iH oV nR wS AP;obtain ⟨Km,Kn,pz,sw,jX⟩:=O4 O;obtain ⟨Fu,Fv,N1,tP,Fw⟩:=GD O;rw[N1]at tP Fw|-;have pR:=hS.1;have l1:w.heap.size+1<W:=(γ IX.o).1;have qT:=(pR.aq _ l1 tU.o).t IX.o;obtain ⟨y0,y1,y2⟩:=aK qT;have vl:wz.frozen? (Z (w+1) 0)=false:=Ψ qT
  have ug:wz.frozen? (Z (w+1) 1)=false:=Ψ qT
  have xp:wz.frozen? (Z (w+1) 2)=false:=Ψ qT
  have z1:wz.cell? (Z s 1)=some (.slice Af nF cF):=by rw[Φ jX];rfl
  have Qs:wz.frozen? (Z s 1)=false:=Ψ jX
  have iM:W.heap.size<=wz:=pR.size;have lz:w.heap.size+1<wz:=U;have S3:s<wz:=U;have lz1:w.heap.size+1<wz+1:=U;have lz2:w.heap.size<wz:=U;have DW:¬s=w.heap.size+1:=U;have pt:¬w.heap.size+1=s:=U;have HZ:=Y (I pz (I sw (I jX (I tP (I Fw pR)))));clear hS E8 E9 FP GD O4 N1 pz sw jX tP Fw pR qT b0 b1 b2 b3 b4 NZ N0 dN T0;go_wp2_with fail;refine au λWf bG=>?_;obtain ⟨W2,ke⟩:∃W2,W2=wz.setCell (Z s 1) (.slice Fu (nF+1) Fv):=⟨_,rfl⟩;have aH:∀k,k≠s->W2.heap[k]?=wz.heap[k]?:=λk hk=>by rw[ke];exact Below.heap_setCell _ _ _ _ hk
  have cT:W2.heap.size=wz:=by rw[ke];simp[World.setCell]
  have pR:=HZ.2.2.2.2.2;have bE:ab (s::(aq (.slice As nF cS)++aq (.slice Af nF cF))) [] W W2:=by
   have h1:ab (s::(aq (.slice As nF cS)++aq (.slice Af nF cF))) [] wz W2:=by
    rw[ke];exact ⟨rfl,rfl,rfl,by simp[World.setCell],λk _ hn=>Below.heap_setCell _ _ _ _ (λe=>hn (by rw[e];simp)),λk hk=>by cases hk⟩
   exact pR.tr h1
  have CC:W2.heap[s]?=some (.cells #[.slice Km (nF+1) Kn,.slice Fu (nF+1) Fv,x2,x3,x4] 54):=by
   rw[ke];have:=aE HZ.2.2.1 1 (.slice Fu (nF+1) Fv);simpa using this
  have yG:∀{v v':Value},aT v' v W.heap.size->v.ownBlock≠some s->∀g,v'.ownBlock=some g->g≠s:=λhf hn g hg e=>by
   subst e;rcases hf with hf|⟨g',hf,h2⟩
   .rw[hf]at hg;exact hn hg
   .rw[hf]at hg;injection hg with hg;omega
  have pz:=ar HZ.1 λg hg=>aH g (yG HZ.2.1 dr.2.2.2.1 g hg);have tP:=ar HZ.2.2.2.1 λg hg=>aH g (yG HZ.2.2.2.2.1 dr.2.2.2.2.1 g hg);have ET:∀g,(Value.slice Km (nF+1) Kn).ownBlock=some g->(Value.slice Fu (nF+1) Fv).ownBlock≠some g:=λg h1 h2=>by
   have jX:=HZ.1;have alu:=HZ.2.2.2.1;rcases jX.2 with ⟨e,-⟩|⟨g1,q1,u1,e,-,t1,-⟩
   .rw[e]at h1;cases h1
   .rcases alu.2 with ⟨e',-⟩|⟨g2,q2,u2,e',-,t2,-⟩
    .rw[e']at h2;cases h2
    .rw[e]at h1;rw[e']at h2;simp[Value.ownBlock]at h1 h2;subst h1;rw[h2]at t2;rw[t1]at t2;injection t2 with t2;injection t2 with _ t2;exact absurd t2 O
  have bT:=XE.same (w':=W) (λk hk=>dc.block k (by rw[mI.1,mI.2.1]at hk;exact (C8 k hk).2)) (XE.cW.t (dc.mono XE.cW.size))
  obtain ⟨q1,q2⟩:=bT.Ds (rs:=rs) (rv:=.slice A1 nr c1) CC (by rw[mI.1];exact pz) (by rw[mI.2.1];exact tP) (by rw[mI.1];exact HZ.2.1) (by rw[mI.2.1];exact HZ.2.2.2.2.1) ET (by rw[mI.1,mI.2.1];exact bE) ⟨LI.o,AO.o⟩
  have wM:W2.grownBy Wf (some (w.heap.size+1)):=by
   rw[bG,ke];repeat (first|exact dQ _ _|refine et ?_ _|refine dR ?_ _ _|refine fM ?_)
  have akH:W.heap.size=w+3:=HZW.o;have R5:w.heap.size+1∉kY s (.slice Km (nF+1) Kn) (.slice Fu (nF+1) Fv) (rows++[.slice none 0 0]):=λhm=>by
   rcases q2.new _ hm with h|h
   .rw[mI.1,mI.2.1]at h;have:=(C8 _ h).2;omega
   .omega
  have hqk:=(ab.aj dc.o).t q2;obtain ⟨t1,t2⟩:=iz ⟨_,_,_,_,rfl,q1⟩ hqk sO (show w.heap.size<=w+1 by omega) U R5 wM
  refine bodyPost_ret (v:=.agg #[.slice (Z wz 0) 1 1,.slice (Z (wz+1) 0) 1 1,.bool false]) (by rw[bG];simp[results,Tryz.results19,go_sem,y0,y1,y2,lz,lz1,lz2,DW,pt];try rfl) rfl ?_
  have dE:∀g,(g=wz.heap.size\/g=wz.heap.size+1)->IL Wf (.slice (Z g 0) 1 1) [nF]/\aO (kY s (.slice Km (nF+1) Kn) (.slice Fu (nF+1) Fv) (rows++[.slice none 0 0])) (.slice (Z g 0) 1 1):=λg hg=>by
   have dW:Wf.heap[g]?=some (.cells #[.int .i64 nF] 3):=by
    rw[bG];rcases hg with rfl|rfl
    .rw[az _ _ _ (by simp[World.setCell])]
     have h1:=heap_alloc_new ((((wz.setCell (Z s 1) (.slice Fu (nF+1) Fv)).setCell (Z (w+1) 0) (.slice (Z wz 0) 1 1)).setCell (Z (w+1) 1) (.slice (Z (wz+1) 0) 1 1)).setCell (Z (w+1) 2) (.bool false)) (.cells #[.int .i64 nF] 3);simpa [World.setCell] using h1
    .have h1:=heap_alloc_new (((((wz.setCell (Z s 1) (.slice Fu (nF+1) Fv)).setCell (Z (w+1) 0) (.slice (Z wz 0) 1 1)).setCell (Z (w+1) 1) (.slice (Z (wz+1) 0) 1 1)).setCell (Z (w+1) 2) (.bool false)).alloc (.cells #[.int .i64 nF] 3)) (.cells #[.int .i64 nF] 3);simpa [World.setCell] using h1
   refine ⟨.inr ⟨g,0,1,rfl,H,(γ dW).1,H,λi hi=>?_⟩,λg' uH hm=>?_⟩
   .match i,hi with
    |0,_=>rw[Φ dW];rfl
   .simp[Value.ownBlock]at uH;subst uH;have:=(q1.lt _ hm).2;omega
  have N4:b.sets.length=b.fol.length:=mI.2.2;have p5:=Wr.set b N4 rs;rw[mI.1]at p5;refine ⟨⟨b.sets++[rs],b.fol++[[]]⟩,⟨[nF],[nF],false⟩,_,_,_,rfl,t1,by rw[mI.1,mI.2.1]at t2|-;exact t2,dE _ (.inl rfl),dE _ (.inr rfl),p5.iff (λz=>by simp[gN,dT]) (by simp[gN,sV]),by simp[aL],⟨H,H⟩,⟨by simp[aL],by simp[aL]⟩,λl hl=>?_⟩
  rcases List.mem_append.1 hl with h|h
  .have:=HHK l h;omega
  .simp at h;subst h;simp
def Sw(w0:World)(s:Nat)(x2 x3 x4:Value)(b:Pb)(fp:List Nat)(Lg:LA)(pk KK:Nat)(W:World)(dH dC:Value)(eo:Bool)(kv:Value)(xo:cI):Nat->Nat->Value->World->Prop
 |c,0,x,w=>x=.pointer (Z s 0)
 |c,1,x,w=>x=.agg #[dH,dC,.bool eo]
 |c,2,x,w=>x=.pointer (Z s 0)
 |c,3,x,w=>x=kv
 |c,4,x,w=>c=1->P5 w0 s x2 x3 x4 b fp Lg pk KK W (.returned x) w
 |c,5,x,w=>c=2->CpR w0 s x2 x3 x4 b fp Lg pk KK xo W x w
 |_,_,_,_=>True
def EiR(w0:World)(s:Nat)(x2 x3 x4:Value)(b:Pb)(fp:List Nat)(Lg:LA)(pk KK:Nat)(xo:cI)(W:World)(x:Value)(w:World):Prop:=
 ∃b' y gd u1 u2,x=.agg #[u1,u2,.bool (kK xo y).emp]/\qs w0 s x2 x3 x4 b' gd w/\ab fp gd W w/\(IL w u1 (kK xo y).first/\aO gd u1)/\(IL w u2 (kK xo y).last/\aO gd u2)/\Wr b b' y Lg/\b'.fol.length=b.fol.length+pk/\(y.first≠[]/\y.last≠[])/\(y.first.length<=pk/\y.last.length<=pk)/\∀l∈b'.fol,l.length<=KK
def Sx(w0:World)(s:Nat)(x2 x3 x4:Value)(b:Pb)(fp:List Nat)(Lg:LA)(pk KK:Nat)(W:World)(dH dC:Value)(eo:Bool)(kv:Value)(xo:cI):Nat->Nat->Value->World->Prop
 |c,0,x,w=>x=.agg #[dH,dC,.bool eo]
 |c,1,x,w=>x=.pointer (Z s 0)
 |c,2,x,w=>x=kv
 |c,3,x,w=>c=1->P5 w0 s x2 x3 x4 b fp Lg pk KK W (.returned x) w
 |c,4,x,w=>c=2->EiR w0 s x2 x3 x4 b fp Lg pk KK xo W x w
 |_,_,_,_=>True
structure iV (w0:World) (s:Nat) (x2 x3 x4:Value) (fp:List Nat) (w:World) (nb:Array Value) (bi:Pb) (cB:List Nat) (xo:cI) (dH dC:Value) (wr:World):Prop where
 bu:qs w0 s x2 x3 x4 bi cB wr
 kf:ab fp cB w wr
 ap:∀q∈cB,q<w.heap.size\/w.heap.size+3<=q
 n0:wr.heap[w.heap.size]?=some (.cells nb 26 (0,0))
 n1:wr.heap[w.heap.size+1]?=some (.cells #[(),(),.bool false] 56)
 n2:wr.heap[w.heap.size+1+1]?=some (.cells #[dH,dC,.bool xo.emp] 56)
 sz:w.heap.size+3<=wr
 o1:IL wr dH xo.first/\aO cB dH
 o2:IL wr dC xo.last/\aO cB dC
section
variable {w0:World} {s:Nat} {x2 x3 x4:Value} {fp:List Nat} {w:World} {nb:Array Value} {bi:Pb} {cB:List Nat} {xo:cI} {dH dC:Value} {wr:World}
theorem iV.later(h:iV w0 s x2 x3 x4 fp w nb bi cB xo dH dC wr){W:World}(hb:Below wr wr W):iV w0 s x2 x3 x4 fp w nb bi cB xo dH dC W:=by
 have hz:=h.sz;exact ⟨h.bu.later hb,h.kf.t (ab.aj hb),h.ap,(hb.block _ U).t h.n0,(hb.block _ U).t h.n1,(hb.block _ U).t h.n2,Nat.le_trans hz hb.size,⟨h.o1.1.later hb,h.o1.2⟩,⟨h.o2.1.later hb,h.o2.2⟩⟩
theorem iV.cZ(h:iV w0 s x2 x3 x4 fp w nb bi cB xo dH dC wr)(k:Nat)(h1:w<=k)(h2:k<w+3):k∉cB:=λhm=>by have:=h.ap k hm;omega
theorem iV.out(h:iV w0 s x2 x3 x4 fp w nb bi cB xo dH dC wr){b2:Pb}{x':cI}{gd:List Nat}{u1 u2:Value}{wz:World}(aS:qs w0 s x2 x3 x4 b2 gd wz)(bE:ab cB gd wr wz)(kk:IL wz u1 x'.first/\aO gd u1)(mH:IL wz u2 x'.last/\aO gd u2)(hw:w0.heap.size<=w):
  iV w0 s x2 x3 x4 fp w nb b2 gd x' u1 u2 (rL wz (w+1+1) u1 u2 (.bool x'.emp)):=by
 have hz:=h.sz;have cT:=bE.size;have ew:∀q∈gd,q<w.heap.size\/w.heap.size+3<=q:=λq hq=>(bE.new q hq).elim (h.ap q) λh=>.inr U;have hn:∀k,w.heap.size<=k->k<w.heap.size+3->k∉gd:=λk h1 h2 hm=>by have:=ew k hm;omega
 have m0:=(bE.aq _ U (h.cZ _ V U)).t h.n0;have m1:=(bE.aq _ U (h.cZ _ U U)).t h.n1;have m2:=(bE.aq _ U (h.cZ _ U U)).t h.n2;obtain ⟨q1,q2⟩:=iz aS (h.kf.t bE) hw (show w.heap.size<=w+1+1 by omega) U (hn _ U U) (D4 wz (w+1+1) u1 u2 (.bool x'.emp))
 obtain ⟨iP,rM,e1,-⟩:=h.o1.1.form;obtain ⟨iQ,rN,e2,-⟩:=h.o2.1.form;rw[e1,e2]at m2;exact ⟨q1,q2,ew,(fN U _ _ _).t m0,(fN U _ _ _).t m1,uf m2 _ _ _,by rw[iO];omega,
  ⟨kk.1.rL (kk.1.apart m2) _ _ _,kk.2⟩,⟨mH.1.rL (mH.1.apart m2) _ _ _,mH.2⟩⟩
theorem iV.fin(h:iV w0 s x2 x3 x4 fp w nb bi cB xo dH dC wr)(hw:w0.heap.size<=w){W:World}(hg:wr.grownBy W (some (w.heap.size+1))):qs w0 s x2 x3 x4 bi cB W/\ab fp cB w W/\(IL W dH xo.first/\aO cB dH)/\(IL W dC xo.last/\aO cB dC):=by
 have hz:=h.sz;obtain ⟨q1,q2⟩:=iz h.bu h.kf hw (show w.heap.size<=w+1 by omega) U (h.cZ _ U U) hg
 have dE:∀{v:Value} {l:List Nat},IL wr v l->IL W v l:=λ{v l} hi=>by
  have Qk:=hi;have bf:=hi.apart h.n1;rcases hi with hi|⟨g,f,c',rfl,h0,uH,hc,ak⟩
  .exact .inl hi
  .have BP:g≠w.heap.size+1:=λe=>bf h0 (by rw[e];rfl)
   exact .inr ⟨g,f,c',rfl,h0,Nat.lt_of_lt_of_le uH hg.size,hc,λi hi=>(χ g (f+i) (hg.block g uH (λe=>by injection e with e;exact BP e))).t (ak i hi)⟩
 exact ⟨q1,q2,⟨dE h.o1.1,h.o1.2⟩,⟨dE h.o2.1,h.o2.2⟩⟩
end
theorem jI(k:Nd):∀l:List Nd,bp (l++[k])=bp l+aL k
 | []=>by simp[bp]
 |a::r=>by rw[List.cons_append,bp,bp,jI k r];omega
theorem jJ(k:Nd):∀l:List Nd,cV (l++[k])=cV l+(dp k+360000)
 | []=>by simp[cV]
 |a::r=>by rw[List.cons_append,cV,cV,jJ k r];omega
theorem Sy(l:List Nd)(k:Nat):bp (l.take k)<=bp l:=by
 induction l generalizing k with
 |nil=>simp
 |cons a r ih=>
  cases k with
  |zero=>simp[bp]
  |succ k=>rw[List.take_succ_cons,bp,bp];have:=ih k;omega
theorem Sz(l:List Nd)(k:Nat):cV (l.take k)<=cV l:=by
 induction l generalizing k with
 |nil=>simp
 |cons a r ih=>
  cases k with
  |zero=>simp[cV]
  |succ k=>rw[List.take_succ_cons,cV,cV];have:=ih k;omega
theorem gj{α:Type}{l:List α}{k:Nat}{x:α}(h:l[k]?=some x):l.take (k+1)=l.take k++[x]:=by
 obtain ⟨h1,h2⟩:=List.getElem?_eq_some_iff.1 h;rw[List.take_succ_eq_append_getElem h1,h2]
structure xK (b bi:Pb) (Lg:LA) (k n:Nat) (xo:cI) (K:Nat):Prop where
 wr:Wr b bi xo Lg
 fl:bi.fol.length=b.fol.length+n
 ln:xo.first.length<=n/\xo.last.length<=n
 bd:∀l∈bi.fol,l.length<=K
 ne:(k=0/\xo.emp=true)\/(xo.first≠[]/\xo.last≠[])
theorem xK.seq{b bi b':Pb}{kids:List Nd}{k:Nat}{kd:Nd}{xo y:cI}{K:Nat}(h:xK b bi (gS kids k) k (bp (kids.take k)) xo (K+cV (kids.take k)))(hk:kids[k]?=some kd)(hy:Wr bi b' y (gN kd))(hl:b'.fol.length=bi.fol.length+aL kd)(jh:y.first.length<=aL kd/\y.last.length<=aL kd)
  (rO:∀l∈b'.fol,l.length<=K+cV (kids.take k)+dp kd) (p8:xo.last.length<=600) (tu:y.first.length<=600) (bf:y.first≠[]/\y.last≠[]) :
  xK b (cO b' xo y) (gS kids (k+1)) (k+1) (bp (kids.take (k+1))) (bD xo y) (K+cV (kids.take (k+1))):=by
 rw[show gS kids (k+1)=⟨rn (kids.take k++[kd]),eG (k+1) (me (xB kids))⟩ by unfold gS;rw[gj hk],gj hk,jI,jJ]
 refine ⟨(h.wr.beh hy rfl (kA hk).symm).iff λw=>(qm _ _ _).symm,?_,?_,λl dU=>?_,.inr ⟨?_,?_⟩⟩
 .unfold cO;rw[eT,hl,h.fl];omega
 .have:=h.ln;unfold bD;constructor
  .simp only;split
   .rw[List.length_append];omega
   .omega
  .simp only;split
   .rw[List.length_append];omega
   .omega
 .have h1:=qF y.first xo.last b'.fol _ rO l dU;have h2:xo.last.length*y.first.length<=600*600:=Nat.mul_le_mul p8 tu;omega
 .unfold bD;simp only;split
  .intro e;exact bf.1 (List.append_eq_nil_iff.1 e).2
  .next he=>exact (h.ne.resolve_left λhx=>he hx.2).1
 .unfold bD;simp only;split
  .intro e;exact bf.2 (List.append_eq_nil_iff.1 e).2
  .exact bf.2
theorem xK.cho{b bi b':Pb}{kids:List Nd}{k:Nat}{kd:Nd}{xo y:cI}{K:Nat}(h:xK b bi (gC kids k) k (bp (kids.take k)) xo (K+cV (kids.take k)))(hk:kids[k]?=some kd)(hy:Wr bi b' y (gN kd))(hl:b'.fol.length=bi.fol.length+aL kd)(jh:y.first.length<=aL kd/\y.last.length<=aL kd)
  (rO:∀l∈b'.fol,l.length<=K+cV (kids.take k)+dp kd) (bf:y.first≠[]/\y.last≠[]) :
  xK b b' (gC kids (k+1)) (k+1) (bp (kids.take (k+1))) (kK xo y) (K+cV (kids.take (k+1))):=by
 rw[show gC kids (k+1)=⟨nC (kids.take k++[kd]),mw (k+1) (me (xB kids))⟩ by unfold gC;rw[gj hk],gj hk,jI,jJ]
 refine ⟨(h.wr.eit hy rfl (kA hk).symm).iff λw=>(vQ _ _ _).symm,by rw[hl,h.fl];omega,?_,λl dU=>by have:=rO l dU;omega,.inr ⟨?_,?_⟩⟩
 .have:=h.ln;unfold kK;simp only[List.length_append];omega
 .unfold kK;intro e;exact bf.1 (List.append_eq_nil_iff.1 e).2
 .unfold kK;intro e;exact bf.2 (List.append_eq_nil_iff.1 e).2
theorem iV.start{w0:World}{s:Nat}{x2 x3 x4:Value}{b:Pb}{fp:List Nat}{w:World}(fY:qs w0 s x2 x3 x4 b fp w)(nb:Array Value):
  iV w0 s x2 x3 x4 fp w nb b fp ⟨[],[],true⟩ () () (((w.alloc (.cells nb 26)).alloc (.cells #[(),(),.bool false] 56)).alloc (.cells #[(),(),.bool true] 56)):=by
 have hB:=((((Below.refl w w).alloc V (.cells nb 26)).alloc H (.cells #[(),(),.bool false] 56)).alloc (by simp <;> omega) (.cells #[(),(),.bool true] 56))
 have fP:∀(W:World) (fq:List Nat),IL W () []/\aO fq ():=λW fq=>⟨.inl ⟨rfl,rfl⟩,λg hg=>by simp[Value.ownBlock]at hg⟩
 refine ⟨fY.later hB,ab.aj hB,λq hq=>.inl (fY.lt q hq).2,?_,?_,?_,H,fP _ _,fP _ _⟩
 .rw[az _ _ _ (by simp <;> omega),az _ _ _ H]; exact heap_alloc_new w _
 .rw[az _ _ _ H];simpa using heap_alloc_new (w.alloc _) _
 .simpa using heap_alloc_new ((w.alloc _).alloc _) _
theorem JK(w0:World)(s:Nat)(x2 x3 x4:Value)(rs:List (Nat×Nat))(kd:Nd)(mn mx:Int)(A1:Option Addr)(c1 g f c:Nat)(nQ:List Value)(hR:aF (.mk 4 rs [kd] mn mx)=true)(fH:aL (.mk 4 rs [kd] mn mx)<=600)
  (hg:g<w0) (hc:1<=c/\c<=9223372036854775807) (bU:bY w0 kd nQ) (nU:∀j,j<5->w0.cell? (Z g (f+j))=nQ[j]?) (hw:kP w0 s x2 x3 x4 kd nQ) :
  kP w0 s x2 x3 x4 (.mk 4 rs [kd] mn mx) [.int .i64 4,.slice A1 rs.length c1,.slice (Z g f) 1 c,.int .i64 mn,.int .i64 mx]:=by
 intro w b fp K fY jh fW hK rT;have CM:=iV.start fY #[(4:Int),.slice A1 rs.length c1,.slice (Z g f) 1 c,.int .i64 mn,.int .i64 mx];have He:=λ(W:World) (fq:List Nat) (h:qs w0 s x2 x3 x4 b fq W)=>D5 w0 s x2 x3 x4 rs kd mn mx A1 c1 g f c nQ hR fH hg hc bU nU hw W b fq K h jh fW hK rT;have sG:=Y CM;have PH:=Y He;have fT:=fY.cW.size;show Calls Tryz.prog _ #[_,.agg #[(4:Int),.slice A1 rs.length c1,.slice (Z g f) 1 c,.int .i64 mn,.int .i64 mx]] w _;clear hR bU nU hw fY jh hK rT CM He fH fW
 go_enter Tryz.func19,Tryz.ntmps19
 go_wp2_with fail;refine (PH _ _ sG.bu).mono ?_;rintro e w1 ⟨b',x,fp',v1,v2,rfl,iK,ec,fs,ek,p5,nO,bf,hl,rO⟩;obtain ⟨Av1,cv1,rfl,-⟩:=fs.1.form;obtain ⟨Uw,Ux,rfl,-⟩:=ek.1.form;have wQ:=sG.o.out iK ec fs ek fT;have tI:=Y wQ;have HP:=Y (I p5 (I nO (I bf (I hl rO))));have hz:=ec.size;have dY:=sG.sz;have fD:=(ec.aq _ U (sG.cZ (w+1) U U)).t sG.n1;have iX:=(ec.aq _ U (sG.cZ (w+1+1) U U)).t sG.n2;obtain ⟨y0,y1,y2⟩:=aK fD;obtain ⟨q0,q1,q2⟩:=aK iX;have vl:w1.frozen? (Z (w+1) 0)=false:=Ψ fD
 have ug:w1.frozen? (Z (w+1) 1)=false:=Ψ fD
 have xp:w1.frozen? (Z (w+1) 2)=false:=Ψ fD
 have fq0:w1.frozen? (Z (w+1+1) 0)=false:=Ψ iX
 have fq1:w1.frozen? (Z (w+1+1) 1)=false:=Ψ iX
 have fq2:w1.frozen? (Z (w+1+1) 2)=false:=Ψ iX
 clear iK ec fs ek p5 nO bf hl rO wQ fD iX;go_wp2_with fail;refine au λWf bG=>?_;have wM:(rL w1 (w+1+1) (.slice Av1 x.first.length cv1) (.slice Uw x.last.length Ux) (.bool x.emp)).grownBy Wf (some (w.heap.size+1)):=by
  rw[bG];repeat (first|exact dQ _ _|refine et ?_ _|refine dR ?_ _ _|refine fM ?_)
 obtain ⟨t1,t2,t3,t4⟩:=tI.fin fT wM;refine bodyPost_ret (v:=.agg #[.slice Av1 x.first.length cv1,.slice Uw x.last.length Ux,.bool x.emp]) (by rw[bG];simp[results,Tryz.results19,go_sem,y0,y1,y2,q0,q1,q2];try rfl) rfl ?_
 exact ⟨b',x,fp',_,_,rfl,t1,t2,t3,t4,HP.1,HP.2.1,HP.2.2.1,HP.2.2.2.1,HP.2.2.2.2⟩
theorem pa{w0:World}{kids:List Nd}{g f k:Nat}(hk:k<kids.length)(h:eS w0 kids g f):∃kd B1 e1 B2 e2,kids[k]?=some kd/\bY w0 kd [.int .i64 kd.op,.slice B1 kd.rs.length e1,.slice B2 kd.kids.length e2,.int .i64 kd.mn,.int .i64 kd.mx]/\
  ∀wz:World,wz.heap[g]?=w0.heap[g]?->wz.cell? (Z g (f+k*5))=some (.int .i64 kd.op)/\wz.cell? (Z g (f+k*5+1))=some (.slice B1 kd.rs.length e1)/\wz.cell? (Z g (f+k*5+2))=some (.slice B2 kd.kids.length e2)/\wz.cell? (Z g (f+k*5+3))=some (.int .i64 kd.mn)/\wz.cell? (Z g (f+k*5+4))=some (.int .i64 kd.mx):=by
 obtain ⟨vs,h1,h2⟩:=h.at k hk;obtain ⟨kd,bU⟩:=ν (kids[k]);rw[bU]at h2;obtain ⟨B1,e1,B2,e2,rfl,-,-,-⟩:=h2.form;refine ⟨kd,B1,e1,B2,e2,by rw[List.getElem?_eq_getElem hk,bU],h2,λwz hz=>?_⟩
 have hc:=λj (hj:j<5)=>(χ g (f+k*5+j) hz).t (h1 j hj);exact ⟨hc 0 U,hc 1 U,hc 2 U,hc 3 U,hc 4 U⟩
theorem pc{kids:List Nd}{k:Nat}{kd:Nd}(hk:kids[k]?=some kd):bp (kids.take k)+aL kd<=bp kids:=by
 have h1:=Sy kids (k+1);rw[gj hk,jI]at h1;exact h1
theorem pd{kids:List Nd}{k:Nat}{kd:Nd}(hk:kids[k]?=some kd):cV (kids.take k)+(dp kd+360000)<=cV kids:=by
 have h1:=Sz kids (k+1);rw[gj hk,jJ]at h1;exact h1
theorem JM(w0:World)(s:Nat)(x2 x3 x4:Value)(rs:List (Nat×Nat))(kids:List Nd)(mn mx:Int)(A1:Option Addr)(c1 g f c:Nat)(hR:aF (.mk 2 rs kids mn mx)=true)(fH:aL (.mk 2 rs kids mn mx)<=600)
  (hg:g<w0) (hc:kids.length<=c/\c<=9223372036854775807) (bU:eS w0 kids g f) (hw:∀kd∈kids,∀vs,bY w0 kd vs->kP w0 s x2 x3 x4 kd vs) :
  kP w0 s x2 x3 x4 (.mk 2 rs kids mn mx) [.int .i64 2,.slice A1 rs.length c1,.slice (Z g f) kids.length c,.int .i64 mn,.int .i64 mx]:=by
 intro w b fp K fY jh fW hK rT;have CM:=iV.start fY #[(2:Int),.slice A1 rs.length c1,.slice (Z g f) kids.length c,.int .i64 mn,.int .i64 mx];have jC:=iD hR (.inl rfl);have qe:=fO (.inl rfl) fH;have uJ:dp (.mk 2 rs kids mn mx)=cV kids:=by rw[dp,if_neg O,if_neg O]
 have sZ:gN (.mk 2 rs kids mn mx)=gS kids kids.length:=by
  unfold gN gS;rw[List.take_length,sV,if_neg O,if_pos rfl]
  congr 1
 have sO:=fY.cW.size;rw[qe]at fH fW|-;rw[uJ]at rT|-;rw[sZ];have l7:xK b b (gS kids 0) 0 (bp (kids.take 0)) ⟨[],[],true⟩ (K+cV (kids.take 0)):=⟨(Wr.nil b jh _).iff λw=>Iff.rfl,rfl,⟨Nat.zero_le _,Nat.zero_le _⟩,λl hl=>by simpa [cV] using hK l hl,.inl ⟨rfl,rfl⟩⟩
 have sG:=Y CM;have Fo:=Y l7;have HW:=Y hw;have Kw:=Y bU;obtain ⟨n,hn⟩:=ν kids.length;obtain ⟨PS,Fp⟩:∃P,bp kids=P:=⟨_,rfl⟩;obtain ⟨CS,Fq⟩:∃P,cV kids=P:=⟨_,rfl⟩;show Calls Tryz.prog _ #[_,.agg #[(2:Int),.slice A1 rs.length c1,.slice (Z g f) kids.length c,.int .i64 mn,.int .i64 mx]] w _;rw[hn]at hc jC|-;rw[hn]at sG;rw[Fp]at fH fW|-;rw[Fq]at rT|-;have HN:=Y (I hn (I Fp Fq));clear hR qe uJ sZ fY hw bU hK l7 CM hn Fp Fq jh
 go_enter Tryz.func19,Tryz.ntmps19
 go_wp2_with fail;go_loopw [54] (λiv wr=>∃(k:Nat) (bi:Pb) (cB:List Nat) (xo:cI) (dH dC:Value),k<=n/\iv=.int .i64 (k:Int)/\Hid (iV w0 s x2 x3 x4 fp w #[(2:Int),.slice A1 rs.length c1,.slice (Z g f) n c,.int .i64 mn,.int .i64 mx] bi cB xo dH dC wr)/\Hid (xK b bi (gS kids k) k (bp (kids.take k)) xo (K+cV (kids.take k)))) (λiv _=>n - (intOf iv).toNat)
 case atStart=>
  exact ⟨0,b,fp,⟨[],[],true⟩,.slice none 0 0,.slice none 0 0,U,rfl,sG,Fo⟩
 case round=>
  obtain ⟨k,bi,cB,xo,dH,dC,hi,rfl,HM,HI⟩:=hrel;by_cases aB:k<n
  .have hd:decide ((k:Int)<(n:Int))=true:=τ;have dV:decide (k<n)=true:=decide_eq_true aB;obtain ⟨kd,B1,e1,B2,e2,bU,aY,nU⟩:=pa (k:=k) (by rw[HN.1];exact aB) Kw.o
   obtain ⟨iP,rM,rfl,-⟩:=HM.o1.1.form;obtain ⟨iQ,rN,rfl,-⟩:=HM.o2.1.form;obtain ⟨eo,vj⟩:=ν xo.emp;have fT:w0.heap.size<=w:=sO;have oI:=HM.sz;have kZ:wr.heap[g]?=w0.heap[g]?:=HM.bu.cW.block g hg;have xq:g<wr:=by have:=HM.bu.cW.size;omega
   obtain ⟨k0,k1,k2,k3,k4⟩:=nU wr kZ;have sH:=pc bU;have bH:=pd bU;rw[HN.2.1]at sH;rw[HN.2.2]at bH;have G0:=HW kd (List.mem_of_getElem? bU) _ aY;have bI:=HI.o;obtain ⟨pk,lP⟩:∃p,bp (kids.take k)=p:=⟨_,rfl⟩;obtain ⟨K0,sa⟩:∃p,K+cV (kids.take k)=p:=⟨_,rfl⟩;rw[lP,sa]at bI;rw[lP]at sH;have Qm:K0+dp kd<=10000000000:=U;have sd:pk<=600:=U;have Qn:aL kd<=600:=U;have Fs:=Y bU;have Hz:=Y G0;have R1:=Y (I lP sa);have nO:=bI.fl;have hlen:=bI.wr.len;have dG:bi.fol.length+aL kd<=600:=U;have di:=Y (I dG hlen);have Df:=Y bI.bd;have OG:=Y (show ∀p∈xo.last,p<bi.fol.length from λp hp=>(bI.wr.bP.iW p hp).2);have px:=Y (show xo.first.length<=600/\xo.last.length<=600 from ⟨by have:=bI.ln;omega,by have:=bI.ln;omega⟩)
   have BQ:=Y vj;have Tk:=Y nU;have xO:=Y (I sH bH);have gG:=HM.n2;rw[vj]at gG;obtain ⟨oo0,oo1,oo2⟩:=aK gG;have BB:=Y (I sH bH);clear bU aY nU G0 bI lP nO hlen dG bH vj gG sa kZ sH;go_wp2_with fail;refine br λW hW=>?_;have du:Below wr wr W:=by rw[hW];exact D.alloc V _
   have AB:=HM.later du;have hKB:W.heap[wr.heap.size]?=some (.cells #[.int .i64 kd.op,.slice B1 kd.rs.length e1,.slice B2 kd.kids.length e2,.int .i64 kd.mn,.int .i64 kd.mx] 26):=by rw[hW];exact heap_alloc_new wr _
   have jc:W.heap.size=wr+1:=by rw[hW];simp
   have l2:w.heap.size+1+1<W:=U;have lk:wr.heap.size<W:=U;have n2:=AB.cZ (w+1+1) U U;have nk:wr.heap.size∉cB:=λhm=>by have:=(HM.bu.lt _ hm).2;omega
   have gG:=AB.n2;rw[BQ.o]at gG;obtain ⟨o0,o1,o2⟩:=aK gG;have Bk:=Y AB.bu;have yc:=Y (I AB.o1.1 (I AB.o1.2 (I AB.o2.1 AB.o2.2)));have HKB:=Y hKB;have Ga:=Y AB;have dc:=Y du;clear hW du AB hKB gG k0 k1 k2 k3 k4 oo0 oo1 oo2;have dN:xk cB W 0 W.drew:=⟨(ab.aj D.drew).gV,λ_=>D.drew⟩;refine ay 6 [4,5] (Sw w0 s x2 x3 x4 bi cB (gN kd) (aL kd) (K0+dp kd) W (.slice iP xo.first.length rM) (.slice iQ xo.last.length rN) eo (.agg #[.int .i64 kd.op,.slice B1 kd.rs.length e1,.slice B2 kd.kids.length e2,.int .i64 kd.mn,.int .i64 kd.mx]) xo) (λc w'=>xk cB W c w') R R R R R R O dN ?_ ?_
   .simp only[ck,ct];refine aa.pure O ?_ (aa.pure O ?_ (aa.pure O ?_ (aa.pure O ?_ (aa.jg 0 rfl ?_ (aa.jg 1 rfl ?_ (aa.nil))))))
    all_goals first | (intro v wz c bX hS hE K hK;simp only[ah,Act.put,dk,dm,dn,Nat.zero_add,Nat.reduceAdd,ck,ct]at hK|-) | (intro v wz hS hE K hK;simp only[ah,Act.put,dk,dm,dn,Nat.zero_add,Nat.reduceAdd,ck,ct]at hK|-)
    .exact ζ
    .have cx0:=(χ (w+1+1) 0 (hS.1.aq _ l2 n2)).t o0;have Gj:=(χ (w+1+1) 1 (hS.1.aq _ l2 n2)).t o1;have cx2:=(χ (w+1+1) 2 (hS.1.aq _ l2 n2)).t o2;exact ζ
    .exact ζ
    .obtain ⟨k0,k1,k2,k3,k4⟩:=aD ((hS.1.aq _ lk nk).t HKB.o);exact ζ
    .have e2:v 2=_:=hE.1 rfl;have e3:v 3=_:=hE.2.1 rfl;rw[e2,e3]at hK|-;have hz:=hS.2 rfl;have aG:=Hz wz bi cB K0 (Bk.later hz) di.2 di.1 Df.o Qm;have HC:=Y aG;have HX:=Y hS;clear hS hE aG;go_wp2_with fail;refine HC.mono ?_;rintro e wy ⟨b',y,fp',v1,v2,rfl,iK,ec,fs,ek,cR,dU,eV,df,gz⟩;have HP:=Y (I iK (I ec (I fs (I ek (I cR (I dU (I eV (I df gz))))))));clear iK ec fs ek cR dU eV df gz;go_wp2_with fail;refine hK.out _ _ (λj z hj h=>?_) ⟨((ab.aj (HX.2 rfl)).t HP.2.1).gV,λh=>by cases h⟩ (λ_=>⟨b',y,fp',v1,v2,rfl,HP.1,(ab.aj (HX.2 rfl)).t HP.2.1,HP.2.2.1,HP.2.2.2.1,HP.2.2.2.2.1,HP.2.2.2.2.2.1,HP.2.2.2.2.2.2.1,HP.2.2.2.2.2.2.2.1,HP.2.2.2.2.2.2.2.2⟩)
     match j with
     |0|1|2|3=>exact h
     |4=>exact absurd rfl hj
     |5=>exact λh=>by cases h
     |_+6=>exact trivial
    .have e0:v 0=_:=hE.1 rfl;have e1:v 1=_:=hE.2.1 rfl;rw[e0,e1]at hK|-;have E4:=hE.2.2.1 rfl;obtain ⟨b',y,fp',v1,v2,ev,iK,ec,fs,ek,cR,dU,eV,df,gz⟩:=E4 rfl;injection ev with ev;rw[ev]at hK|-;have i1:=yc.1.keep yc.2.1 ec;have i2:=yc.2.2.1.keep yc.2.2.2 ec;have pU:∀p∈xo.last,p<b'.fol.length:=λp hp=>by have:=OG p hp;omega
     have aG:=uG w0 s x2 x3 x4 b' fp' wz xo y _ _ v1 v2 _ iK i1.1 i1.2 i2.1 i2.2 fs.1 fs.2 ek.1 ek.2 eV.1 eV.2 pU (by have:=px.o;omega) (by have:=px.o;omega) U U gz U
     rw[BQ.o]at aG;have HC:=Y aG;have HX:=Y hS;have HP:=Y (I iK (I ec (I cR (I dU (I eV (I df gz))))));clear hS hE aG iK ec fs ek cR dU eV df gz i1 i2 pU E4 ev;go_wp2_with fail;refine HC.mono ?_;rintro e wy ⟨gd,u1,u2,rfl,aS,bE,j1,j2,j3,j4⟩;have HQ:=Y (I aS (I bE (I j1 (I j2 (I j3 j4)))));clear aS bE j1 j2 j3 j4;go_wp2_with fail;refine hK.out _ _ (λj z hj h=>?_) ⟨(HP.2.1.t HQ.2.1).gV,λh=>by cases h⟩ (λ_=>⟨b',y,gd,u1,u2,rfl,HQ.1,HP.2.1.t HQ.2.1,⟨HQ.2.2.1,HQ.2.2.2.1⟩,⟨HQ.2.2.2.2.1,HQ.2.2.2.2.2⟩,HP.2.2.1,HP.2.2.2.1,HP.2.2.2.2.1,HP.2.2.2.2.2.1,HP.2.2.2.2.2.2⟩)
     match j with
     |0|1|2|3=>exact h
     |4=>exact λh=>by cases h
     |5=>exact absurd rfl hj
     |_+6=>exact trivial
   .intro v wz hS hF;have e0:v 0=_:=hF 0 O;have e1:v 1=_:=hF 1 O;have e2:v 2=_:=hF 2 O;have e3:v 3=_:=hF 3 O;have E4:=hF 4 O;have E5:=hF 5 O;simp only[ah,Act.put,dk,dm,dn,Nat.zero_add,Nat.reduceAdd,ck,ct,List.drop_succ_cons,List.drop_zero,e0,e1,e2,e3];clear hF e0 e1 e2 e3;obtain ⟨b',y,gd,u1,u2,ev,aS,bE,kk,mH,BR,dU,eV,df,gz⟩:=E5 rfl;rw[ev];obtain ⟨Qo,Ke,rfl,L3⟩:=kk.1.form;obtain ⟨Qp,L4,rfl,L5⟩:=mH.1.form;have wQ:=Ga.o.out (x':=bD xo y) aS bE kk mH fT;have G1:=HI.seq Fs.o BR dU df (λl hl=>by have:=gz l hl;have:=R1.2;omega) (by have:=px.o;omega) U eV
    have IC:=Y bE;have BC:=Y G1;have tI:=Y wQ;have cT:=(IC.aq _ l2 n2).t Ga.n2;obtain ⟨q0,q1,q2⟩:=aK cT;have f0:wz.frozen? (Z (w+1+1) 0)=false:=Ψ cT
    have f1:wz.frozen? (Z (w+1+1) 1)=false:=Ψ cT
    have f2:wz.frozen? (Z (w+1+1) 2)=false:=Ψ cT
    clear hS E4 E5 ev aS bE kk mH BR dU eV df gz G1 wQ cT o0 o1 o2 dN;go_wp2_with fail;go_roundw
    case rel=>
     exact ⟨k+1,_,_,_,_,_,U,by go_num,tI,BC⟩
    case measure=>exact μ
  .obtain rfl:k=n:=U;have fT:w0.heap.size<=w:=sO;obtain ⟨iP,rM,rfl,-⟩:=HM.o1.1.form;obtain ⟨iQ,rN,rfl,-⟩:=HM.o2.1.form;have oI:=HM.sz;obtain ⟨y0,y1,y2⟩:=aK HM.n1;obtain ⟨q0,q1,q2⟩:=aK HM.n2;have vl:wr.frozen? (Z (w+1) 0)=false:=Ψ HM.n1
   have ug:wr.frozen? (Z (w+1) 1)=false:=Ψ HM.n1
   have xp:wr.frozen? (Z (w+1) 2)=false:=Ψ HM.n1
   go_wp2_with fail;refine au λWf bG=>?_;have wM:wr.grownBy Wf (some (w.heap.size+1)):=by
    rw[bG];repeat (first|exact dQ _ _|refine et ?_ _|refine dR ?_ _ _|refine fM ?_)
   obtain ⟨t1,t2,t3,t4⟩:=HM.fin fT wM;have bI:=HI.o;rw[List.take_of_length_le (by rw[HN.1];exact V),HN.2.1,HN.2.2]at bI
   refine bodyPost_ret (v:=.agg #[.slice iP xo.first.length rM,.slice iQ xo.last.length rN,.bool xo.emp]) (by rw[bG];simp[results,Tryz.results19,go_sem,y0,y1,y2,q0,q1,q2];try rfl) rfl ?_
   exact ⟨bi,xo,cB,_,_,rfl,t1,t2,t3,t4,bI.wr,bI.fl,bI.ne.resolve_left U,bI.ln,bI.bd⟩
theorem AA(w0:World)(s:Nat)(x2 x3 x4:Value)(rs:List (Nat×Nat))(a:Nd)(r:List Nd)(mn mx:Int)(A1:Option Addr)(c1 g f c:Nat)(hR:aF (.mk 3 rs (a::r) mn mx)=true)(fH:aL (.mk 3 rs (a::r) mn mx)<=600)
  (hg:g<w0) (hc:r.length+1<=c/\c<=9223372036854775807) (bU:eS w0 (a::r) g f) (hw:∀kd∈a::r,∀vs,bY w0 kd vs->kP w0 s x2 x3 x4 kd vs) :
  kP w0 s x2 x3 x4 (.mk 3 rs (a::r) mn mx) [.int .i64 3,.slice A1 rs.length c1,.slice (Z g f) (r.length+1) c,.int .i64 mn,.int .i64 mx]:=by
 intro w b fp K fY jh fW hK rT;have CM:=iV.start fY #[(3:Int),.slice A1 rs.length c1,.slice (Z g f) (r.length+1) c,.int .i64 mn,.int .i64 mx];have jC:=iD hR (.inr rfl);have qe:=fO (.inr rfl) fH;have uJ:dp (.mk 3 rs (a::r) mn mx)=cV (a::r):=by rw[dp,if_neg O,if_neg O]
 have sZ:gN (.mk 3 rs (a::r) mn mx)=gC (a::r) (a::r).length:=by
  unfold gN gC;rw[List.take_length,sV,if_neg O,if_neg O,if_pos rfl]
  congr 1
 have sO:=fY.cW.size;rw[qe]at fH fW|-;rw[uJ]at rT|-;rw[sZ];have alm:=jh;obtain ⟨nQ,hv0,X5⟩:=bU.1;obtain ⟨Ba1,ea1,Ba2,ea2,rfl,-,-,-⟩:=X5.form;have aln:w0.heap[g]?=w0.heap[g]?:=rfl;have OA:=λ(W:World) (fq:List Nat) (h:qs w0 s x2 x3 x4 b fq W)=>hw a H _ X5 W b fq K h jh (by rw[bp]at fW;omega) hK (by rw[cV]at rT;omega)
 have O6:=Y OA;have tN:∀wz:World,wz.heap[g]?=w0.heap[g]?->wz.cell? (Z g f)=some (.int .i64 a.op)/\wz.cell? (Z g (f+1))=some (.slice Ba1 a.rs.length ea1)/\wz.cell? (Z g (f+2))=some (.slice Ba2 a.kids.length ea2)/\wz.cell? (Z g (f+3))=some (.int .i64 a.mn)/\wz.cell? (Z g (f+4))=some (.int .i64 a.mx):=λwz hz=>by
  have hc:=λj (hj:j<5)=>(χ g (f+j) hz).t (hv0 j hj);exact ⟨hc 0 U,hc 1 U,hc 2 U,hc 3 U,hc 4 U⟩
 have Xm:=bU.2;have sG:=Y CM;have HW:=Y hw;have Kw:=Y Xm;obtain ⟨n,hn⟩:=ν r.length;obtain ⟨PS,Fp⟩:∃P,bp (a::r)=P:=⟨_,rfl⟩;obtain ⟨CS,Fq⟩:∃P,cV (a::r)=P:=⟨_,rfl⟩;show Calls Tryz.prog _ #[_,.agg #[(3:Int),.slice A1 rs.length c1,.slice (Z g f) (r.length+1) c,.int .i64 mn,.int .i64 mx]] w _;rw[List.length_cons,hn]at jC;rw[hn]at hc|-;rw[hn]at sG;rw[Fp]at fH fW|-;rw[Fq]at rT|-;have HN:=Y (I hn (I Fp Fq));have mJ:=tN w (fY.cW.block g hg);obtain ⟨z0,z1,z2,z3,z4⟩:=mJ;have aut:g<w:=by have:=fY.cW.size;omega
 have ao9:g<w+1:=U;have apa:g<w+1+1:=U;clear hR qe uJ sZ fY hw bU hK CM hn Fp Fq jh alm hv0 X5 OA tN Xm aln
 go_enter Tryz.func19,Tryz.ntmps19
 go_wp2_with fail;have fT:w0.heap.size<=w:=sO;refine (O6 _ _ sG.bu).mono ?_;rintro e w1 ⟨b1,y,Pg,v1,v2,rfl,iK,ec,fs,ek,p5,nO,bf,hl,rO⟩;obtain ⟨Av1,cv1,rfl,-⟩:=fs.1.form;obtain ⟨Uw,Ux,rfl,-⟩:=ek.1.form;have wQ:=sG.o.out iK ec fs ek fT;have PO:xK b b1 (gC (a::r) 1) 1 (bp ((a::r).take 1)) y (K+cV ((a::r).take 1)):=by
  rw[List.take_succ_cons,List.take_zero,bp,bp,cV,cV];refine ⟨p5.alo,by rw[nO];omega,U,λl hl=>by have:=rO l hl;omega,.inr bf⟩
 have alp:=Y PO;have tI:=Y wQ;have hz:=ec.size;have dY:=sG.sz;have WU:=(ec.aq _ U (sG.cZ w U U)).t sG.n0;have iX:=(ec.aq _ U (sG.cZ (w+1+1) U U)).t sG.n2;obtain ⟨y0,y1,y2,y3,y4⟩:=aD WU;obtain ⟨q0,q1,q2⟩:=aK iX;have fq0:w1.frozen? (Z (w+1+1) 0)=false:=Ψ iX
 have fq1:w1.frozen? (Z (w+1+1) 1)=false:=Ψ iX
 have fq2:w1.frozen? (Z (w+1+1) 2)=false:=Ψ iX
 have lq0:w.heap.size<w1:=U;have lq2:w.heap.size+1+1<w1:=U;clear iK ec fs ek p5 nO bf hl rO wQ iX WU PO z0 z1 z2 z3 z4;go_wp2_with fail;go_loopw [77] (λiv wr=>∃(k:Nat) (bi:Pb) (cB:List Nat) (xo:cI) (dH dC:Value),k<=n/\iv=.int .i64 (k:Int)/\Hid (iV w0 s x2 x3 x4 fp w #[(3:Int),.slice A1 rs.length c1,.slice (Z g f) (n+1) c,.int .i64 mn,.int .i64 mx] bi cB xo dH dC wr)/\Hid (xK b bi (gC (a::r) (k+1)) (k+1) (bp ((a::r).take (k+1))) xo (K+cV ((a::r).take (k+1))))) (λiv _=>n - (intOf iv).toNat)
 case atStart=>
  exact ⟨0,b1,Pg,y,_,_,U,rfl,tI,alp⟩
 case round=>
  obtain ⟨k,bi,cB,xo,dH,dC,hi,rfl,HM,HI⟩:=hrel;by_cases aB:k<n
  .have hd:decide ((k:Int)<(n:Int))=true:=τ;have dV:decide (k<n)=true:=decide_eq_true aB;obtain ⟨kd,B1,e1,B2,e2,bU,aY,nU⟩:=pa (kids:=r) (f:=f+5) (k:=k) (by rw[HN.1];exact aB) Kw.o
   obtain ⟨iP,rM,rfl,-⟩:=HM.o1.1.form;obtain ⟨iQ,rN,rfl,-⟩:=HM.o2.1.form;obtain ⟨eo,vj⟩:=ν xo.emp;have fT:w0.heap.size<=w:=sO;have oI:=HM.sz;have kZ:wr.heap[g]?=w0.heap[g]?:=HM.bu.cW.block g hg;have xq:g<wr:=by have:=HM.bu.cW.size;omega
   obtain ⟨k0,k1,k2,k3,k4⟩:=nU wr kZ;have OC:(a::r)[k+1]?=some kd:=by rw[List.getElem?_cons_succ];exact bU
   have sH:=pc OC;have bH:=pd OC;rw[HN.2.1]at sH;rw[HN.2.2]at bH;have G0:=HW kd (List.mem_of_getElem? OC) _ aY;have bI:=HI.o;obtain ⟨pk,lP⟩:∃p,bp ((a::r).take (k+1))=p:=⟨_,rfl⟩;obtain ⟨K0,sa⟩:∃p,K+cV ((a::r).take (k+1))=p:=⟨_,rfl⟩;rw[lP,sa]at bI;rw[lP]at sH;have Qm:K0+dp kd<=10000000000:=U;have sd:pk<=600:=U;have Qn:aL kd<=600:=U;have Fs:=Y OC;have Hz:=Y G0;have R1:=Y (I lP sa);have nO:=bI.fl;have hlen:=bI.wr.len;have dG:bi.fol.length+aL kd<=600:=U;have di:=Y (I dG hlen);have Df:=Y bI.bd;have OG:=Y (show ∀p∈xo.last,p<bi.fol.length from λp hp=>(bI.wr.bP.iW p hp).2);have px:=Y (show xo.first.length<=600/\xo.last.length<=600 from ⟨by have:=bI.ln;omega,by have:=bI.ln;omega⟩)
   have BQ:=Y vj;have Tk:=Y nU;have xO:=Y (I sH bH);have gG:=HM.n2;rw[vj]at gG;obtain ⟨oo0,oo1,oo2⟩:=aK gG;have BB:=Y (I sH bH);clear bU OC aY nU G0 bI lP nO hlen dG bH vj gG sa kZ sH;go_wp2_with fail;refine br λW hW=>?_;have du:Below wr wr W:=by rw[hW];exact D.alloc V _
   have AB:=HM.later du;have hKB:W.heap[wr.heap.size]?=some (.cells #[.int .i64 kd.op,.slice B1 kd.rs.length e1,.slice B2 kd.kids.length e2,.int .i64 kd.mn,.int .i64 kd.mx] 26):=by rw[hW];exact heap_alloc_new wr _
   have jc:W.heap.size=wr+1:=by rw[hW];simp
   have l2:w.heap.size+1+1<W:=U;have lk:wr.heap.size<W:=U;have n2:=AB.cZ (w+1+1) U U;have nk:wr.heap.size∉cB:=λhm=>by have:=(HM.bu.lt _ hm).2;omega
   have gG:=AB.n2;rw[BQ.o]at gG;obtain ⟨o0,o1,o2⟩:=aK gG;have Bk:=Y AB.bu;have yc:=Y (I AB.o1.1 (I AB.o1.2 (I AB.o2.1 AB.o2.2)));have HKB:=Y hKB;have Ga:=Y AB;have dc:=Y du;clear hW du AB hKB gG k0 k1 k2 k3 k4 oo0 oo1 oo2;have dN:xk cB W 0 W.drew:=⟨(ab.aj D.drew).gV,λ_=>D.drew⟩;refine ay 5 [3,4] (Sx w0 s x2 x3 x4 bi cB (gN kd) (aL kd) (K0+dp kd) W (.slice iP xo.first.length rM) (.slice iQ xo.last.length rN) eo (.agg #[.int .i64 kd.op,.slice B1 kd.rs.length e1,.slice B2 kd.kids.length e2,.int .i64 kd.mn,.int .i64 kd.mx]) xo) (λc w'=>xk cB W c w') R R R R R R O dN ?_ ?_
   .simp only[ck,ct];refine aa.pure O ?_ (aa.pure O ?_ (aa.pure O ?_ (aa.jg 0 rfl ?_ (aa.jg 1 rfl ?_ (aa.nil)))))
    all_goals first | (intro v wz c bX hS hE K hK;simp only[ah,Act.put,dk,dm,dn,Nat.zero_add,Nat.reduceAdd,ck,ct]at hK|-) | (intro v wz hS hE K hK;simp only[ah,Act.put,dk,dm,dn,Nat.zero_add,Nat.reduceAdd,ck,ct]at hK|-)
    .have cx0:=(χ (w+1+1) 0 (hS.1.aq _ l2 n2)).t o0;have Gj:=(χ (w+1+1) 1 (hS.1.aq _ l2 n2)).t o1;have cx2:=(χ (w+1+1) 2 (hS.1.aq _ l2 n2)).t o2;exact ζ
    .exact ζ
    .obtain ⟨k0,k1,k2,k3,k4⟩:=aD ((hS.1.aq _ lk nk).t HKB.o);exact ζ
    .have e1:v 1=_:=hE.1 rfl;have e2:v 2=_:=hE.2.1 rfl;rw[e1,e2]at hK|-;have hz:=hS.2 rfl;have aG:=Hz wz bi cB K0 (Bk.later hz) di.2 di.1 Df.o Qm;have HC:=Y aG;have HX:=Y hS;clear hS hE aG;go_wp2_with fail;refine HC.mono ?_;rintro e wy ⟨b',y,fp',v1,v2,rfl,iK,ec,fs,ek,cR,dU,eV,df,gz⟩;have HP:=Y (I iK (I ec (I fs (I ek (I cR (I dU (I eV (I df gz))))))));clear iK ec fs ek cR dU eV df gz;go_wp2_with fail;refine hK.out _ _ (λj z hj h=>?_) ⟨((ab.aj (HX.2 rfl)).t HP.2.1).gV,λh=>by cases h⟩ (λ_=>⟨b',y,fp',v1,v2,rfl,HP.1,(ab.aj (HX.2 rfl)).t HP.2.1,HP.2.2.1,HP.2.2.2.1,HP.2.2.2.2.1,HP.2.2.2.2.2.1,HP.2.2.2.2.2.2.1,HP.2.2.2.2.2.2.2.1,HP.2.2.2.2.2.2.2.2⟩)
     match j with
     |0|1|2=>exact h
     |3=>exact absurd rfl hj
     |4=>exact λh=>by cases h
     |_+5=>exact trivial
    .have e0:v 0=_:=hE.1 rfl;rw[e0]at hK|-;have E3:=hE.2.1 rfl;obtain ⟨b',y,fp',v1,v2,ev,iK,ec,fs,ek,cR,dU,eV,df,gz⟩:=E3 rfl;injection ev with ev;rw[ev]at hK|-;have i1:=yc.1.keep yc.2.1 ec;have i2:=yc.2.2.1.keep yc.2.2.2 ec;have aG:=vk xo.first xo.last y.first y.last xo.emp y.emp _ _ v1 v2 wz i1.1 i2.1 fs.1 ek.1 eV.1 eV.2 (by have:=px.o;omega) (by have:=px.o;omega) U U
     rw[BQ.o]at aG;have HC:=Y aG;have HX:=Y hS;have HP:=Y (I iK (I ec (I cR (I dU (I eV (I df gz))))));clear hS hE aG iK ec fs ek cR dU eV df gz i1 i2 E3 ev;go_wp2_with fail;refine HC.mono ?_;rintro e wy ⟨u1,u2,rfl,xh,uS,bT⟩;have HQ:=Y (I xh (I uS bT));clear xh uS bT;go_wp2_with fail;refine hK.out _ _ (λj z hj h=>?_) ⟨(HP.2.1.t (ab.aj HQ.2.2)).gV,λh=>by cases h⟩ (λ_=>⟨b',y,fp',u1,u2,by rw[<-BQ.o];rfl,HP.1.later HQ.2.2,HP.2.1.t (ab.aj HQ.2.2),⟨IL.ia HQ.1 λ_ h=>HP.2.2.2.2.1.1 (List.append_eq_nil_iff.1 h).2,λg hg hm=>by have:=(HQ.1.lt g hg).1;have:=(HP.1.lt g hm).2;omega⟩,⟨IL.ia HQ.2.1 λ_ h=>HP.2.2.2.2.1.2 (List.append_eq_nil_iff.1 h).2,λg hg hm=>by have:=(HQ.2.1.lt g hg).1;have:=(HP.1.lt g hm).2;omega⟩,HP.2.2.1,HP.2.2.2.1,HP.2.2.2.2.1,HP.2.2.2.2.2.1,HP.2.2.2.2.2.2⟩)
     match j with
     |0|1|2=>exact h
     |3=>exact λh=>by cases h
     |4=>exact absurd rfl hj
     |_+5=>exact trivial
   .intro v wz hS hF;have e0:v 0=_:=hF 0 O;have e1:v 1=_:=hF 1 O;have e2:v 2=_:=hF 2 O;have E3:=hF 3 O;have E4:=hF 4 O;simp only[ah,Act.put,dk,dm,dn,Nat.zero_add,Nat.reduceAdd,ck,ct,List.drop_succ_cons,List.drop_zero,e0,e1,e2];clear hF e0 e1 e2;obtain ⟨b',y,gd,u1,u2,ev,aS,bE,kk,mH,BR,dU,eV,df,gz⟩:=E4 rfl;rw[ev];obtain ⟨Qo,Ke,rfl,L3⟩:=kk.1.form;obtain ⟨Qp,L4,rfl,L5⟩:=mH.1.form;have wQ:=Ga.o.out (x':=kK xo y) aS bE kk mH fT;have G1:=HI.cho Fs.o BR dU df (λl hl=>by have:=gz l hl;have:=R1.2;omega) eV
    have IC:=Y bE;have BC:=Y G1;have tI:=Y wQ;have cT:=(IC.aq _ l2 n2).t Ga.n2;obtain ⟨q0,q1,q2⟩:=aK cT;have f0:wz.frozen? (Z (w+1+1) 0)=false:=Ψ cT
    have f1:wz.frozen? (Z (w+1+1) 1)=false:=Ψ cT
    have f2:wz.frozen? (Z (w+1+1) 2)=false:=Ψ cT
    clear hS E3 E4 ev aS bE kk mH BR dU eV df gz G1 wQ cT o0 o1 o2 dN;go_wp2_with fail;go_roundw
    case rel=>
     exact ⟨k+1,_,_,_,_,_,U,by go_num,tI,BC⟩
    case measure=>exact μ
  .obtain rfl:k=n:=U;have fT:w0.heap.size<=w:=sO;obtain ⟨iP,rM,rfl,-⟩:=HM.o1.1.form;obtain ⟨iQ,rN,rfl,-⟩:=HM.o2.1.form;have oI:=HM.sz;obtain ⟨y0,y1,y2⟩:=aK HM.n1;obtain ⟨q0,q1,q2⟩:=aK HM.n2;have vl:wr.frozen? (Z (w+1) 0)=false:=Ψ HM.n1
   have ug:wr.frozen? (Z (w+1) 1)=false:=Ψ HM.n1
   have xp:wr.frozen? (Z (w+1) 2)=false:=Ψ HM.n1
   go_wp2_with fail;refine au λWf bG=>?_;have wM:wr.grownBy Wf (some (w.heap.size+1)):=by
    rw[bG];repeat (first|exact dQ _ _|refine et ?_ _|refine dR ?_ _ _|refine fM ?_)
   obtain ⟨t1,t2,t3,t4⟩:=HM.fin fT wM;have bI:=HI.o;rw[List.take_of_length_le (by rw[List.length_cons,HN.1];exact V),HN.2.1,HN.2.2]at bI
   refine bodyPost_ret (v:=.agg #[.slice iP xo.first.length rM,.slice iQ xo.last.length rN,.bool xo.emp]) (by rw[bG];simp[results,Tryz.results19,go_sem,y0,y1,y2,q0,q1,q2];try rfl) rfl ?_
   have p5:=bI.wr;rw[<-HN.1]at p5;exact ⟨bi,xo,cB,_,_,rfl,t1,t2,t3,t4,p5,bI.fl,bI.ne.resolve_left U,bI.ln,bI.bd⟩
theorem yH{rs:List (Nat×Nat)}{kids:List Nd}{mn mx:Int}(hR:aF (.mk 1 rs kids mn mx)=true):kids=[]/\ep rs=true:=by
 have h:=((jZ _).1 hR).1;simp only[dy,if_true,Bool.and_eq_true]at h;exact ⟨by simpa using h.2.2.1,h.2.1⟩
theorem Hy(w0:World)(s:Nat)(x2 x3 x4:Value):∀(m:Nat) (nd:Nd) (vs:List Value),aA nd<=m->aF nd=true->aL nd<=600->bY w0 nd vs->kP w0 s x2 x3 x4 nd vs:=by
 intro m
 induction m with
 |zero=>intro nd vs h;cases nd;rw[aA]at h;omega
 |succ m ih=>
  rintro ⟨op,rs,kids,mn,mx⟩ vs hm hR hp hn;obtain ⟨jE,xn⟩:=dD hR;rw[aA]at hm;obtain ⟨A1,c1,A2,c2,rfl,hr,jD,hk⟩:=hn.form;simp only[Nd.op,Nd.rs,Nd.kids,Nd.mn,Nd.mx]at hr jD hk|-;have ry:∀kd∈kids,aL kd<=600->∀nQ,bY w0 kd nQ->kP w0 s x2 x3 x4 kd nQ:=λkd bU lP nQ hn=>ih kd nQ (by have:=aQ bU;omega) (bh xn bU) lP hn
  rcases jE with rfl|rfl|rfl|⟨rfl,bQ,Kd,qd,sY⟩
  .obtain ⟨rfl,rJ⟩:=yH hR;exact JR w0 s x2 x3 x4 rs mn mx _ hn rJ
  .have h2:=iD hR (.inl rfl);rcases hk with rfl|⟨g,f,rfl,hg,bU⟩
   .simp at h2
   .have sH:=fO (.inl rfl) hp;exact JM w0 s x2 x3 x4 rs kids mn mx A1 c1 g f c2 hR hp hg jD bU λkd h nQ hn=>ry kd h (by have:=iU h;omega) nQ hn
  .have h2:=iD hR (.inr rfl);rcases hk with rfl|⟨g,f,rfl,hg,bU⟩
   .simp at h2
   .have sH:=fO (.inr rfl) hp
    cases kids with
    |nil=>simp at h2
    |cons a r=>exact AA w0 s x2 x3 x4 rs a r mn mx A1 c1 g f c2 hR hp hg jD bU λkd h nQ hn=>ry kd h (by have:=iU h;omega) nQ hn
  .rcases hk with rfl|⟨g,f,rfl,hg,bU⟩
   .simp at bQ
   .match kids,bQ with
    | [a],_=>
     obtain ⟨⟨nQ,nU,Hc⟩,-⟩:=bU;have sH:=oU hp;have hpa:aL a<=600:=by
      have h1:1*aL a<=mx.toNat*aL a:=Nat.mul_le_mul_right _ U;have h2:qS [a]=aL a:=rfl;rw[h2]at sH;omega
     exact JK w0 s x2 x3 x4 rs a mn mx A1 c1 g f c2 nQ hR hp hg jD Hc nU (ry a H hpa nQ Hc)
section
theorem j0{P:Program}{f:FuncId}{args:Array Value}{Q:Ending->World->Prop}{w:World}(h:∀W,W=w->Calls P f args W Q):Calls P f args w Q:=h w rfl
variable {pb:Nat} {t:ByteArray} {k:Int} {bad:Bool} {w w':World}
end
def tA:ByteArray:=⟨#[97,123,49,44,50,125]⟩
def lfA(q:Nat):Value:=.agg #[(1:Int),.slice (Z q 0) 1 1,(),(0:Int),(0:Int)]
def RgA(q:Nat)(w:World):Prop:=w.heap[q]?=some (.cells #[.int .u8 97,.int .u8 97] 72)
def LfA(g q:Nat)(w:World):Prop:=w.heap[g]?=some (.cells #[(1:Int),.slice (Z q 0) 1 1,(),(0:Int),(0:Int)] 26)/\RgA q w
theorem CB{P:Program}{c:Code}{Q:Exit->Act->World->Prop}{a:Act}{w:World}(h:∀W,W=w->c.wp P Q a W):c.wp P Q a w:=h w rfl
theorem FB:∀(m:Nat) (nd:Nd) (vs:List Value) (w:World) (hv:Nat),hv<=200->aA nd<=m->bY w nd vs->Calls Tryz.prog 16 #[.agg vs.toArray,(hv:Int)] w λe w'=>e=.returned (.int .i64 ((min (hv+aA nd) 201:Nat):Int))/\Below w w w':=by
 intro m
 induction m with
 |zero=>intro nd vs w hv _ h;cases nd;rw[aA]at h;omega
 |succ m ih=>
  rintro ⟨op,rs,kids,mn,mx⟩ vs w hv hhv h hn;have HN:=Y hn;obtain ⟨v1,v2,rfl,hr,A,c,rfl,hc,hk⟩:=hn;obtain ⟨A1,c1,rfl,-,-⟩:=hr;have hT:aA (.mk op rs kids mn mx)=1+a7 kids:=by rw[aA]
  have HT:=Y hT;rw[hT]at h;have HM:=Y h;have IK:kids.length<=9223372036854775807:=U;clear hT h
  go_enter Tryz.func16,Tryz.ntmps16
  go_wp2_with fail;refine CB λW0 cG=>?_;have hb0:Below w w W0:=by rw[cG];exact D.alloc V _
  have mq:W0.heap[w.heap.size]?=some (.cells #[.int .i64 op,.slice A1 rs.length c1,.slice A kids.length c,.int .i64 mn,.int .i64 mx] 26):=by rw[cG];exact heap_alloc_new w _
  have dA:=Y (I hb0 mq);clear cG hb0 mq;go_loopw [1,5] (λov iv wr=>∃(k o:Nat),k<=kids.length/\iv=.int .i64 (k:Int)/\ov=.int .i64 (o:Int)/\o<=201/\Hid (min (o+a7 (kids.drop k)) 201=min (hv+(1+a7 kids)) 201)/\Hid (Below w w wr/\wr.heap[w.heap.size]?=some (.cells #[.int .i64 op,.slice A1 rs.length c1,.slice A kids.length c,.int .i64 mn,.int .i64 mx] 26))) (λ_ iv _=>kids.length - (intOf iv).toNat)
  case atStart=>exact ⟨0,hv+1,U,rfl,by go_num,U,(by show min _ _=_;rw[List.drop_zero];congr 1;omega),dA.o⟩
  case round=>
   obtain ⟨k,o,k6,rfl,rfl,ho,HO,HB⟩:=hrel;obtain ⟨b0,b1,b2,b3,b4⟩:=aD HB.2;have lb:w.heap.size<wr:=(γ HB.2).1;by_cases aB:k<kids.length
   .have hd:decide ((k:Int)<(kids.length:Int))=true:=τ;have dV:decide (k<kids.length)=true:=decide_eq_true aB;by_cases uS:o<=200
    .have nw:decide ((o:Int)<=200)=true:=τ;have VU:decide (o<=200)=true:=decide_eq_true uS;obtain ⟨g,f,rfl,hg,bU⟩:=hk.resolve_left (by rintro rfl;simp at aB)
     obtain ⟨vs,dx,aY⟩:=bU.at k aB;have b7:=aQ (List.getElem_mem aB);have fg:a7 (kids.drop k)=aA kids[k]+a7 (kids.drop (k+1)):=by rw[List.drop_eq_getElem_cons aB,a7]
     obtain ⟨kd,cU⟩:=ν (kids[k]);rw[cU]at aY b7 fg;obtain ⟨B1,e1,B2,e2,rfl,-,-,-⟩:=aY.form;have q:∀j,j<5->wr.cell? (Z g (f+k*5+j))=([.int .i64 kd.op,.slice B1 kd.rs.length e1,.slice B2 kd.kids.length e2,.int .i64 kd.mn,.int .i64 kd.mx]:List Value)[j]?:=λj hj=>(HB.1.cl g (f+k*5+j) hg).t (dx j hj);have q0:=q 0 U;have q1:=q 1 U;have q2:=q 2 U;have q3:=q 3 U;have q4:=q 4 U;simp only[Nat.add_zero,List.getElem?_cons_zero,List.getElem?_cons_succ]at q0 q1 q2 q3 q4;have lg:g<wr:=Nat.lt_of_lt_of_le hg HB.1.size;have HI:=Y (λ(w':World) (hw:Below w w w')=>ih kd _ w' o uS (by have:=HM.o;omega) (aY.later hw))
     have HD:=Y fg;clear q dx aY cU bU fg;go_wp2_with fail;refine (HI wr HB.1).mono ?_;rintro e w1 ⟨rfl,aM⟩;obtain ⟨x,hx⟩:=ν (min (o+aA kd) 201);rw[hx];have gO:x<=201:=U;have HX:=Y hx;have cM:=Y (I (HB.1.t (aM.mono HB.1.size)) ((aM.block _ lb).t HB.2));clear aM hx b7 q0 q1 q2 q3 q4 b0 b1 b2 b3 b4;go_wp2_with fail;go_roundw
     case rel=>
      refine ⟨k+1,x,U,by go_num,rfl,gO,?_,cM⟩
      have h1:=HO.o;have h2:=HD.o;have h3:=HX.o;exact (by omega:min (x+a7 (kids.drop (k+1))) 201=min (hv+(1+a7 kids)) 201)
     case measure=>exact μ
    .have nw:decide ((o:Int)<=200)=false:=θ;have VU:decide (o<=200)=false:=decide_eq_false uS;go_wp2_with fail;go_ret;refine ⟨aP ?_,HB.1⟩;have h1:=HO.o;rw[HT.o];omega
   .obtain rfl:k=kids.length:=U;have hd:decide (((kids.length:Nat):Int)<(kids.length:Int))=false:=θ;have dV:decide (kids.length<kids.length)=false:=θ;go_wp2_with fail;go_ret;refine ⟨aP ?_,HB.1⟩;have h1:=HO.o;rw[List.drop_length,a7]at h1;rw[HT.o];omega
mutual
theorem wE:∀nd:Nd,bZ nd<=aA nd
 | .mk _ _ kids _ _=>by rw[bZ,aA];have:=sI kids;omega
theorem sI:∀l:List Nd,bS l<=a7 l
 | []=>by rw[bS,a7];exact V
 |k::r=>by rw[bS,a7];have:=wE k;have:=sI r;omega
end
theorem FC:∀(m:Nat) (nd:Nd) (vs:List Value) (w:World),aA nd<=m->aA nd<=1000->bY w nd vs->Calls Tryz.prog 48 #[.agg vs.toArray] w λe w'=>e=.returned (.int .i64 ((bZ nd:Nat):Int))/\Below w w w':=by
 intro m
 induction m with
 |zero=>intro nd vs w h;cases nd;rw[aA]at h;omega
 |succ m ih=>
  rintro ⟨op,rs,kids,mn,mx⟩ vs w h Oi hn;have HN:=Y hn;obtain ⟨v1,v2,rfl,hr,A,c,rfl,hc,hk⟩:=hn;obtain ⟨A1,c1,rfl,-,-⟩:=hr;have hT:aA (.mk op rs kids mn mx)=1+a7 kids:=by rw[aA]
  have hD:bZ (.mk op rs kids mn mx)=1+bS kids:=by rw[bZ]
  have HT:=Y hD;rw[hT]at h Oi;have HM:=Y (I h Oi);have FZ:bS kids<=1000:=by have:=sI kids;omega
  have IK:kids.length<=9223372036854775807:=U;clear hT hD h Oi
  go_enter Tryz.func48,Tryz.ntmps48
  go_wp2_with fail;refine CB λW0 cG=>?_;have hb0:Below w w W0:=by rw[cG];exact D.alloc V _
  have mq:W0.heap[w.heap.size]?=some (.cells #[.int .i64 op,.slice A1 rs.length c1,.slice A kids.length c,.int .i64 mn,.int .i64 mx] 26):=by rw[cG];exact heap_alloc_new w _
  have dA:=Y (I hb0 mq);clear cG hb0 mq;go_loopw [3,4] (λov iv wr=>∃(k o:Nat),k<=kids.length/\iv=.int .i64 (k:Int)/\ov=.int .i64 (o:Int)/\o<=1000/\Hid (max o (bS (kids.drop k))=bS kids)/\Hid (Below w w wr/\wr.heap[w.heap.size]?=some (.cells #[.int .i64 op,.slice A1 rs.length c1,.slice A kids.length c,.int .i64 mn,.int .i64 mx] 26))) (λ_ iv _=>kids.length - (intOf iv).toNat)
  case atStart=>exact ⟨0,0,U,rfl,rfl,U,(by show max _ _=_;rw[List.drop_zero];omega),dA.o⟩
  case round=>
   obtain ⟨k,o,k6,rfl,rfl,ho,HO,HB⟩:=hrel;obtain ⟨b0,b1,b2,b3,b4⟩:=aD HB.2;have lb:w.heap.size<wr:=(γ HB.2).1;by_cases aB:k<kids.length
   .have hd:decide ((k:Int)<(kids.length:Int))=true:=τ;have dV:decide (k<kids.length)=true:=decide_eq_true aB;obtain ⟨g,f,rfl,hg,bU⟩:=hk.resolve_left (by rintro rfl;simp at aB)
    obtain ⟨vs,dx,aY⟩:=bU.at k aB;have b7:=aQ (List.getElem_mem aB);have fg:bS (kids.drop k)=max (bZ kids[k]) (bS (kids.drop (k+1))):=by rw[List.drop_eq_getElem_cons aB,bS]
    obtain ⟨kd,cU⟩:=ν (kids[k]);rw[cU]at aY b7 fg;obtain ⟨B1,e1,B2,e2,rfl,-,-,-⟩:=aY.form;have q:∀j,j<5->wr.cell? (Z g (f+k*5+j))=([.int .i64 kd.op,.slice B1 kd.rs.length e1,.slice B2 kd.kids.length e2,.int .i64 kd.mn,.int .i64 kd.mx]:List Value)[j]?:=λj hj=>(HB.1.cl g (f+k*5+j) hg).t (dx j hj);have q0:=q 0 U;have q1:=q 1 U;have q2:=q 2 U;have q3:=q 3 U;have q4:=q 4 U;simp only[Nat.add_zero,List.getElem?_cons_zero,List.getElem?_cons_succ]at q0 q1 q2 q3 q4;have lg:g<wr:=Nat.lt_of_lt_of_le hg HB.1.size;have HI:=Y (λ(w':World) (hw:Below w w w')=>ih kd _ w' (by have:=HM.1;omega) (by have:=HM.2;omega) (aY.later hw))
    have HD:=Y fg;clear q dx aY cU bU fg;go_wp2_with fail;refine (HI wr HB.1).mono ?_;rintro e w1 ⟨rfl,aM⟩;obtain ⟨x,hx⟩:=ν (bZ kd);rw[hx];have gO:x<=1000:=by have h1:=wE kd;have h2:=HM.2;omega
    obtain ⟨y,hy⟩:∃y:Nat,y=max o x:=⟨_,rfl⟩;have rS:max (o:Int) (x:Int)=(y:Int):=U;have HY:=Y hy;have TH:y<=1000:=U;have HX:=Y hx;have cM:=Y (I (HB.1.t (aM.mono HB.1.size)) ((aM.block _ lb).t HB.2));clear aM hx hy b7 q0 q1 q2 q3 q4 b0 b1 b2 b3 b4;go_wp2_with fail;go_roundw
    case rel=>
     refine ⟨k+1,y,U,by go_num,by first|rfl|go_num | (simp;omega),TH,?_,cM⟩
     have h1:=HO.o;have h2:=HD.o;have h3:=HX.o;have h4:=HY.o;exact (by omega:max y (bS (kids.drop (k+1)))=bS kids)
    case measure=>exact μ
   .obtain rfl:k=kids.length:=U;have hd:decide (((kids.length:Nat):Int)<(kids.length:Int))=false:=θ;have dV:decide (kids.length<kids.length)=false:=θ;go_wp2_with fail;go_ret;refine ⟨aP ?_,HB.1⟩;have h1:=HO.o;rw[List.drop_length,bS]at h1;rw[HT.o];omega
structure RgJ (rs:List (Nat×Nat)) (k lo hi:Nat):Prop where
 lt:k<rs.length
 e1:rs[k].1=lo
 e2:rs[k].2=hi
structure RgQ (rs:List (Nat×Nat)) (p ph:Nat):Prop where
 lt:p<rs.length
 e2:rs[p].2=ph
theorem CV(v:Value)(rs:List (Nat×Nat))(w:World)(h:gD w v rs):Calls Tryz.prog 73 #[v] w λe w'=>e=.returned (.bool (ep rs && !rs.isEmpty))/\Below w w w':=by
 obtain ⟨A,c,rfl,⟨kr,jD⟩,ak⟩:=h;obtain ⟨n,hn⟩:=ν rs.length;have HN:=Y hn;have HC:=Y ak;rw[hn]at kr|-;clear hn ak
 go_enter Tryz.func73,Tryz.ntmps73
 go_wp2_with fail;go_loopw [3] (λiv wr=>∃k:Nat,k<=n/\iv=.int .i64 (k:Int)/\Hid (tj rs k=ep rs)/\(∀(h0:0<k),Hid (∃h,(rs[k - 1]'h).1<=(rs[k - 1]'h).2))/\Hid (Below w w wr)) (λiv _=>n - (intOf iv).toNat)
 case atStart=>exact ⟨0,U,rfl,rfl,λh=>U,D⟩
 case round=>
  obtain ⟨k,hk,rfl,HR,HP,HB⟩:=hrel;by_cases aB:k<n
  .have hd:decide ((k:Int)<(n:Int))=true:=τ;have dV:decide (k<n)=true:=decide_eq_true aB;have aV:k<rs.length:=by rw[HN.o];exact aB
   obtain ⟨g,f,hA,hg,aC⟩:=HC.resolve_left (by intro e;rw[e]at aV;simp at aV)
   subst hA;obtain ⟨⟨c0,c1⟩,aM,aS⟩:=aC k aV;obtain ⟨lo,bX⟩:∃lo:Nat,rs[k].1=lo:=⟨_,rfl⟩;obtain ⟨hi,sj⟩:∃hi:Nat,rs[k].2=hi:=⟨_,rfl⟩;rw[bX]at c0 aM;rw[sj]at c1 aS;have bT:=HB.size;have d0:∀d:bc wr wr,d.b8.cell? (Z g (f+k*2))=some (.int .u8 (lo:Int)):=λd=>((HB.t (d.ag.mono HB.size)).cl g (f+k*2) hg).t c0;have d1:∀d:bc wr wr,d.b8.cell? (Z g (f+k*2+1))=some (.int .u8 (hi:Int)):=λd=>((HB.t (d.ag.mono HB.size)).cl g (f+k*2+1) hg).t c1;have d2:∀d:bc wr wr,g<d.b8.heap.size:=λd=>by have:=d.ag.size;omega
   have HL:Hid (RgJ rs k lo hi):=⟨aV,bX,sj⟩;have u1:IntKind.i64.wrap (lo:Int)=(lo:Int):=IntWalk.i64_in _ U;clear c0 c1 bX sj aV;by_cases MK:hi<lo
   .have t1:decide ((hi:Int)<(lo:Int))=true:=τ;have FI:decide (hi<lo)=true:=decide_eq_true MK;clear aC;go_wp2_with fail;refine aI (Below.refl wr wr) R R ?_
    repeat (go_big_quiet_step (fail))
    refine wpQuiet_nil ?_;intro w2 cR;have eh:Below wr wr w2:=by obtain ⟨d9,rfl⟩:=cR;exact d9.ag
    have fS:=Y (HB.t (eh.mono HB.size));clear cR eh d0 d1 d2;go_wp2_with fail;go_ret;refine ⟨aw ?_,fS.o⟩;rw[<-HR.o,o7 HL.1 (.inl (by have:=HL.2;have:=HL.3;omega))];rfl
   have t1:decide ((hi:Int)<(lo:Int))=false:=θ;have FI:decide (hi<lo)=false:=decide_eq_false MK;by_cases mJ:k=0
   .have t2:decide (0<(k:Int))=false:=θ;have X8:decide (0<k)=false:=θ;have LZ:=Y mJ;clear aC mJ;go_wp2_with fail;refine aI (Below.refl wr wr) R R ?_
    repeat (go_big_quiet_step (fail))
    refine wpQuiet_nil ?_;intro w2 cR;have eh:Below wr wr w2:=by obtain ⟨d9,rfl⟩:=cR;exact d9.ag
    have fS:=Y (HB.t (eh.mono HB.size));clear cR eh d0 d1 d2;go_wp2_with fail;go_roundw
    case rel=>
     refine ⟨k+1,U,by go_num,?_,λh0=>⟨by simpa using HL.1,by simp only[Nat.add_sub_cancel];have:=HL.2;have:=HL.3;omega⟩,fS.o⟩
     exact (mR HL.1 (by have:=HL.2;have:=HL.3;omega) (λh0=>by have:=LZ.o;omega)).t HR.o
    case measure=>exact μ
   .obtain ⟨p,hp⟩:∃p,p+1=k:=⟨k - 1,U⟩;have t2:decide (0<(k:Int))=true:=τ;have X8:decide (0<k)=true:=τ;have yg:p<n:=U;have VK:p<rs.length:=by rw[HN.o];exact yg
    obtain ⟨⟨-,p1⟩,-,Gw⟩:=aC p VK;obtain ⟨ph,O8⟩:∃x:Nat,(rs[p]'VK).2=x:=⟨_,rfl⟩;rw[O8]at p1 Gw;have d3:∀d:bc wr wr,d.b8.cell? (Z g (f+p*2+1))=some (.int .u8 (ph:Int)):=λd=>((HB.t (d.ag.mono HB.size)).cl g (f+p*2+1) hg).t p1;have AF:IntKind.i64.wrap ((k:Int) - 1)=(p:Int):=by rw[IntWalk.i64_in _ U];omega
    have atN:(k:Int) - 1=(p:Int):=U;have t3:decide (p<n)=true:=decide_eq_true yg;have u2:IntKind.i64.wrap (ph:Int)=(ph:Int):=IntWalk.i64_in _ U;have u3:IntKind.i64.wrap ((ph:Int)+2)=(ph:Int)+2:=IntWalk.i64_in _ U;have TJ:Hid (p+1=k/\RgQ rs p ph):=⟨hp,VK,O8⟩;have HPP:=Y (HP U).out;clear aC mJ hp VK O8 p1;by_cases hle:lo<ph+2
    .have t4:decide ((lo:Int)<(ph:Int)+2)=true:=τ;go_wp2_with fail;refine aI (Below.refl wr wr) R R ?_
     repeat (go_big_quiet_step (fail))
     refine wpQuiet_nil ?_;intro w2 cR;have eh:Below wr wr w2:=by obtain ⟨d9,rfl⟩:=cR;exact d9.ag
     have fS:=Y (HB.t (eh.mono HB.size));clear cR eh d0 d1 d2 d3;go_wp2_with fail;go_ret;refine ⟨aw ?_,fS.o⟩;have lP:k - 1=p:=by have:=TJ.1;omega
     rw[<-HR.o,o7 HL.1 (.inr ⟨by have:=TJ.1;omega,by
      have e1:(rs[k - 1]'(by have:=HL.1;omega)).2=ph:=by simp only[lP];exact TJ.2.2
      rw[e1];have:=HL.2;omega⟩)];rfl
    .have t4:decide ((lo:Int)<(ph:Int)+2)=false:=θ;go_wp2_with fail;refine aI (Below.refl wr wr) R R ?_
     repeat (go_big_quiet_step (fail))
     refine wpQuiet_nil ?_;intro w2 cR;have eh:Below wr wr w2:=by obtain ⟨d9,rfl⟩:=cR;exact d9.ag
     have fS:=Y (HB.t (eh.mono HB.size));clear cR eh d0 d1 d2 d3;go_wp2_with fail;go_roundw
     case rel=>
      refine ⟨k+1,U,by go_num,?_,λh0=>⟨by simpa using HL.1,by simp only[Nat.add_sub_cancel];have:=HL.2;have:=HL.3;omega⟩,fS.o⟩
      have lP:k - 1=p:=by have:=TJ.1;omega
      refine (mR HL.1 (by have:=HL.2;have:=HL.3;omega) (λh0=>⟨HPP.2,?_⟩)).t HR.o
      have e1:(rs[k - 1]'(by have:=HL.1;omega)).2=ph:=by simp only[lP];exact TJ.2.2
      rw[e1];have:=HL.2;omega
     case measure=>exact μ
  .obtain rfl:k=n:=U;have hd:decide ((k:Int)<(k:Int))=false:=θ;have dV:decide (k<k)=false:=θ;have he:ep rs=true:=by
    rw[<-HR.o,<-HN.o];exact yz λh0=>by
     obtain ⟨h2,h3⟩:=(HP (by have:=HN.o;omega)).out
     have k6:rs.length - 1=k - 1:=by rw[HN.o]
     exact ⟨U,by simp only[k6];exact h3⟩
   have HE:=Y he;clear he;by_cases h0:k=0
   .have e0:decide (0<(k:Int))=false:=θ;have e0n:decide (0<k)=false:=θ;have HK:=Y h0;clear h0;go_wp2_with fail;go_ret;exact ⟨aw (by rw[HE.o,List.length_eq_zero_iff.1 (HN.t HK.o)];rfl),HB.o⟩
   .have e0:decide (0<(k:Int))=true:=τ;have e0n:decide (0<k)=true:=τ;have HK:=Y h0;clear h0;go_wp2_with fail;go_ret;refine ⟨aw ?_,HB.o⟩;rw[HE.o]
    cases lU:rs with
    |nil=>exact absurd (by rw[<-HN.o,lU];rfl) HK.o
    |cons a r=>rfl
end Go.Proofs.YthamegenljmgmaaGreatDoor
