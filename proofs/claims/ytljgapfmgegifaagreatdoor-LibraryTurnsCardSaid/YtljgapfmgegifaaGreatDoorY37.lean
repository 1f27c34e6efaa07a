/- Calls of LibraryTurns: Valid of the kinds, turned, with one twice, of none; Same of the kinds and the turned ones. · The law LibraryTurns: the call returns true, for every tape. -/
import Derived.Test.YtljgapfmgegifaaGreatDoorY32
import Derived.Test.YtljgapfmgegifaaGreatDoorY34
import Derived.Test.YtljgapfmgegifaaGreatDoorY36
import Derived.Test.YtljgapfmgegifaaGreatDoorY10
import Derived.Test.YtljgapfmgegifaaGreatDoorY03
namespace Go.Proofs.YtljgapfmgegifaaGreatDoor
set_option linter.unusedVariables false
set_option linter.unusedSimpArgs false
set_option maxRecDepth 100000
open Go.RowKit
theorem kdNm_sz {i:Nat} (hi:i<3):(kdNm i).size<=140737488355328:=by
 rw[show (kdNm i).size=(bl (kdNm i)).length from by first | exact size_list _ | exact (size_list _).symm | (unfold bl;simp;rfl)]
 match i,hi with
 | 0,_=>rw[kdNm_bl.1];decide
 | 1,_=>rw[kdNm_bl.2.1];decide
 | 2,_=>rw[kdNm_bl.2.2];decide
structure MkK (ks:List Kn):Prop where
 l1:1<=ks.length
 l3:ks.length<=3
 kd:∀i (h:i<ks.length),KdK i ks[i]
theorem MkK.good {ks:List Kn} (h:MkK ks):∀k∈ks,GoodK k:=λk hk=>by
 obtain ⟨i,hi,rfl⟩:=List.mem_iff_getElem.1 hk;exact (h.kd i hi).good (by have:=h.l3;omega)
theorem MkK.nms {ks:List Kn} (h:MkK ks):∀k∈ks,k.nm.size<=140737488355328:=λk hk=>by
 obtain ⟨i,hi,rfl⟩:=List.mem_iff_getElem.1 hk;rw[(h.kd i hi).1];exact kdNm_sz (by have:=h.l3;omega)
theorem MkK.ne {ks:List Kn} (h:MkK ks) {i j:Nat} (hi:i<ks.length) (hj:j<ks.length) (e:ks[i].nm=ks[j].nm):i=j:=by
 rw[(h.kd i hi).1,(h.kd j hj).1]at e;exact kdNm_inj (by have:=h.l3;omega) (by have:=h.l3;omega) e
theorem tv_l {ks:List Kn} {us:List KC} {A:Option Addr} {n c:Nat} {W:World} (hm:MkK ks) (h:KnsIn W (.slice A n c) us ks) (hv:VrOK W):Calls Tryz.prog 8 #[.slice A n c] W λe w'=>e = .returned (.int .i64 0)/\Below W.heap.size W w':=by
 refine (lvalid_any A n c us ks W h hv hm.nms).mono ?_;rintro e w' ⟨hb,er,ms,hla,rfl⟩;have:er=0:=hla.ok hm.l1 (by have:=hm.l3;omega) hm.good (dupF_false λi j hj hi e=>by have:=hm.ne _ _ e;omega)
 subst this;exact ⟨rfl,hb⟩
theorem tv_b {ks:List Kn} {us:List KC} {A:Option Addr} {n c:Nat} {W:World} (hm:MkK ks) (h:KnsIn W (.slice A n c) us ks.reverse) (hv:VrOK W):Calls Tryz.prog 8 #[.slice A n c] W λe w'=>e = .returned (.int .i64 0)/\Below W.heap.size W w':=by
 refine (lvalid_any A n c us ks.reverse W h hv (λk hk=>hm.nms k (List.mem_reverse.1 hk))).mono ?_;rintro e w' ⟨hb,er,ms,hla,rfl⟩;have:er=0:=hla.ok (by have:=hm.l1;simpa using this) (by have:=hm.l3;rw[List.length_reverse];omega) (λk hk=>hm.good k (List.mem_reverse.1 hk)) (dupF_false λi j hj hi e=>by
  rw[List.getElem_reverse,List.getElem_reverse]at e;have:=hm.ne _ _ e;rw[List.length_reverse]at hj;omega)
 subst this;exact ⟨rfl,hb⟩
theorem tv_d {ks:List Kn} {us:List KC} {A:Option Addr} {n c r:Nat} {W:World} (hm:MkK ks) (hr:r<ks.length) (h:KnsIn W (.slice A n c) us (ks++[ks[r]])) (hv:VrOK W):Calls Tryz.prog 8 #[.slice A n c] W λe w'=>e = .returned (.int .i64 7)/\Below W.heap.size W w':=by
 have hmem:∀k∈ks++[ks[r]],k∈ks:=λk hk=>by
  rcases List.mem_append.1 hk with hk | hk
  .exact hk
  .rw[List.mem_singleton]at hk;rw[hk];exact List.getElem_mem hr
 refine (lvalid_any A n c us _ W h hv (λk hk=>hm.nms k (hmem k hk))).mono ?_;rintro e w' ⟨hb,er,ms,hla,rfl⟩;have:er=7:=hla.dup (by simp) (by have:=hm.l3;simp;omega) (λk hk=>hm.good k (hmem k hk)) (dupF_true (i:=r) (j:=ks.length) (by simp) hr (by
  rw[List.getElem_append_left hr,List.getElem_append_right (Nat.le_refl _)];simp))
 subst this;exact ⟨rfl,hb⟩
theorem tv_n {W:World} (hv:VrOK W):Calls Tryz.prog 8 #[.slice none 0 0] W λe w'=>e = .returned (.int .i64 3)/\Below W.heap.size W w':=by
 refine (lvalid_any none 0 0 [] [] W ⟨rfl,none,0,rfl,⟨Nat.le_refl _,by decide⟩, .inl rfl,λi h=>by cases h⟩ hv (λk hk=>by cases hk)).mono ?_
 rintro e w' ⟨hb,er,ms,hla,rfl⟩;have:er=3:=hla.none;subst this;exact ⟨rfl,hb⟩
theorem ts_lb {ks:List Kn} {us:List KC} {A1 A2:Option Addr} {n c1 c2:Nat} {W:World} (hm:MkK ks) (h1:KnsIn W (.slice A1 n c1) us ks) (h2:KnsIn W (.slice A2 n c2) us.reverse ks.reverse):Calls Tryz.prog 9 #[.slice A1 n c1, .slice A2 n c2] W λe w'=>e = .returned (.bool (decide (n=1)))/\Below W.heap.size W w':=by
 have hl1:=h1.1;obtain ⟨-,A',c',e1,-,-,hkn⟩:=id h1;injection e1 with _ hn _;have hlen:=hm.l1;have hl3:=hm.l3;refine lsame7_any A1 A2 n c1 c2 us us.reverse ks ks.reverse _ W h1 h2 (by omega) λk hk1 hk2 hq W' hb=>?_
 by_cases h:n=1
 .have hk0:k=0:=by omega
  subst hk0;have e:us.reverse[0]=us[0]:=by
   rw[List.getElem_reverse]
   congr 1
   omega
  rw[e,decide_eq_true h];have hw:=(hm.kd 0 (by omega)).2.2.2.2
  exact ksame_self us[0] ks[0] W' ((hkn 0 hk1 (by omega)).later hb) (by rcases hw with hw | hw | hw <;> (rw[hw.1]; decide))
 .have hk0:k=0:=by
   rcases hq with hq | hq
   .exact absurd (of_decide_eq_true hq) h
   .exact hq
  subst hk0;rw[decide_eq_false h];refine ksame_diff _ _ W' ?_;rw[List.getElem_reverse,(hkn 0 hk1 (by omega)).nm,(hkn (us.length - 1 - 0) (by omega) (by omega)).nm]
  intro e;have:=hm.ne _ _ e;omega
def backK {α:Type} (us:List α) (k:Nat):List α:=(us.drop k).reverse
theorem backK_len {α:Type} (us:List α) (k:Nat):(backK us k).length=us.length-k:=by simp[backK]
theorem backK_succ {α:Type} {us:List α} {k:Nat} (h:k<us.length):backK us k=backK us (k+1)++[us[k]]:=by
 unfold backK;rw[List.drop_eq_getElem_cons h,List.reverse_cons]
theorem backK_all {α:Type} (us:List α):backK us us.length=[]:=by simp[backK]
structure BkI (w1:World) (us:List KC) (k:Nat) (A:Option Addr) (m c:Nat) (wr:World):Prop where
 bl:Below w1.heap.size w1 wr
 own:OR 34 11 KC.cs w1.heap.size (.slice A m c) (backK us k) wr
 len:m=us.length-k
theorem beq_dec (m:Nat):((m:Int) == 1)=decide (m=1):=by
 rw[Bool.eq_iff_iff,beq_iff_eq,decide_eq_true_eq];omega
theorem KnsIn.of_OR {w:World} {B:Nat} {v:Value} {us:List KC} {ks:List Kn} (h:OR 34 11 KC.cs B v us w) (hl:us.length=ks.length) (hk:∀i (h1:i<us.length) (h2:i<ks.length),KnIn w us[i] ks[i]):KnsIn w v us ks:=by
 obtain ⟨A,c0,rfl,hle,hcl⟩:=h.cells encKC;obtain ⟨Af,cf,e0,-,hcm⟩:=own_form (show w.ownsRow _ _ _ _ _ _ from h);injection e0 with _ _ e0;subst e0;refine ⟨hl,A,c0,rfl,⟨hle,hcm⟩,?_,hk⟩;rcases hcl with hcl | ⟨g,rfl,hB,hg,hc⟩
 .exact .inl hcl
 .exact .inr ⟨g,0,rfl,hg,λi hi j hj=>by rw[Nat.zero_add];exact (hc i hi j hj).1⟩
def factT (vL vB:Value) (us:List KC) (u:KC) (mb:Nat) (W:World):Nat->Nat->Value->World->Prop
 | _,0,x,_=>x=vL
 | _,1,x,_=>x = .int .i64 0
 | _,2,x,_=>x = .bool true
 | _,3,x,_=>x = .bool true
 | _,4,x,_=>x=vB
 | _,5,x,_=>x = .int .i64 0
 | _,6,x,_=>x = .bool true
 | _,7,x,_=>x = .bool true
 | _,8,x,_=>x = .bool true
 | c,9,x,w=>c<=2->∃g,x = .slice (some ⟨g,0,none⟩) 0 0/\W.heap.size<=g/\w.heap[g]?=some (.cells #[] 34 (0,0))
 | _,10,x,_=>x=vL
 | c,11,x,w=>c=3->∃A' c',x = .slice A' us.length c'/\OR 34 11 KC.cs W.heap.size x us w
 | _,12,x,_=>x=u.ag
 | c,13,x,w=>c<=3->∃g,x = .slice (some ⟨g,0,none⟩) 1 1/\W.heap.size<=g/\w.heap[g]?=some (.cells u.row 34 (0,0))
 | c,14,x,w=>c=4->∃A' c',x = .slice A' (us.length+1) c'/\OR 34 11 KC.cs W.heap.size x (us++[u]) w
 | _,15,x,_=>x = .int .i64 7
 | _,16,x,_=>x = .bool true
 | _,17,x,_=>x = .bool true
 | _,18,x,_=>x = .bool true
 | _,19,x,_=>x = .int .i64 3
 | _,20,x,_=>x = .bool true
 | _,21,x,_=>x = .bool true
 | _,22,x,_=>x = .bool true
 | _,23,x,_=>x=vL
 | _,24,x,_=>x=vB
 | _,25,x,_=>x = .bool (decide (mb=1))
 | _,26,x,_=>x=vL
 | _,27,x,_=>x = .int .i64 (mb:Int)
 | _,28,x,_=>x = .bool ((mb:Int) == 1)
 | _,29,x,_=>x = .bool true
 | _,30,x,_=>x = .bool true
 | _,31,x,_=>x = .bool true
 | _,32,x,_=>x = .bool true
 | _,33,x,_=>x = .bool true
 | _,_,_,_=>True
theorem factT_call {vL vB:Value} {us:List KC} {u:KC} {mb:Nat} {W:World} {c j:Nat} {x:Value} {w w':World} (hb:Below w.heap.size w w') (h2:c≠2) (h3:c≠3) (h:factT vL vB us u mb W c j x w):factT vL vB us u mb W (c+1) j x w':=by
 unfold factT at h|-
 split at h
 all_goals first
  | exact h
  | (intro hc;omega)
  | (intro hc
     obtain ⟨g,h1,hg,hh⟩:=h (by omega)
     exact ⟨g,h1,hg,(hb.block g (Array.getElem?_eq_some_iff.1 hh).1).trans hh⟩)
theorem factT_free {vL vB:Value} {us:List KC} {u:KC} {mb:Nat} {W:World} {c j:Nat} {x:Value} {w w':World} (hb:Below w.heap.size w w') (h:factT vL vB us u mb W c j x w):factT vL vB us u mb W c j x w':=by
 unfold factT at h|-
 split at h
 all_goals first
  | exact h
  | (intro hc
     obtain ⟨g,h1,hg,hh⟩:=h (by omega)
     exact ⟨g,h1,hg,(hb.block g (Array.getElem?_eq_some_iff.1 hh).1).trans hh⟩)
  | (intro hc
     obtain ⟨A',c',h1,ho⟩:=h (by omega)
     exact ⟨A',c',h1,OR.later ho hb⟩)
theorem wpList_want {P:Program} {ops:Array Oper} {Q:Exit->Act->World->Prop} {a:Act} {w:World} {rest:List Oper} {o:Oper} (hg:Region.wanted o (yielded ops a.tmps)=true)
  (h:∀K:Act->World->Prop,(∀a w,wpList P ops Q rest a w->K a w)->o.wp P a w K Q):wpList P ops Q (o::rest) a w:=
 wpList_step λK hK=>by rw[if_pos hg];exact h K hK
theorem appG_at {P:Program} {w:World} {ops:Array Oper} {rest:List Oper} {o:Oper} {a:Act} {Q:Exit->Act->World->Prop} (hgd:Region.wanted o (yielded ops a.tmps)=true) (s x:Operand) (t:TypeId)
  (ho:o.op = .call { callee:=.builtin .append,args:=#[s,x],argTypes:=#[t,t] })
  (base:Nat) (e:TypeId) (i:TypeInfo) (z:Value) (size bytes:Nat) (ht:P.underlying t=some (.slice e)) (hi:P.info? e=some i) (hz:i.zero=some z)
  (hsize:i.size=size) (hby:i.bytes=bytes) (hzs:z.cells.size=size) (hsz:0<size)
  (v:Value) (n:Nat) (xs:List Value) (hs:a.eval s=v) (hown:w.ownsRow base e size v n xs)
  (ad:Addr) (m c:Nat) (news:List Value) (hx:a.eval x = .slice (some ad) m c) (hl:news.length=m*size) (hnews:∀j u,news[j]?=some u->w.cell? (ad.add j)=some u) (h1:∀u∈news,u.oneCell'=true)
  (h63:n+m<=maxLen) (hbytes:(n+m)*bytes<=140737488355328) (hbase:base<=w.heap.size)
  (h:∀v' w',w'.ownsRow base e size v' (n+m) (xs++news)->w.grownBy w' v.ownBlock->(v'.ownBlock=v.ownBlock\/∃g,v'.ownBlock=some g/\w.heap.size<=g)->wpList P ops Q rest (a.put o.dst v') w'):wpList P ops Q (o::rest) a w:=by
 refine wpList_want hgd λK hK=>?_;obtain ⟨v',w',hr,h2,h3,h4⟩:=run_append_own (P:=P) w base t o.type e i z size bytes ht hi hz hsize hby hzs hsz v n xs hown ad m c news hl hnews h1 h63 hbytes hbase;have h5:=own_fresh (P:=P) ht hi hz hsize hby hown hl hnews h1 h63 hbytes hr;unfold Oper.wp execOp;simp only[ho,resolve,invoke,builtin,Sem.run_bind,Sem.run_pure,Result.andThen_ok,List.map_toArray,List.map_cons,List.map_nil,hs,hx,hr];exact hK _ _ (h v' w' h2 h3 h5)
theorem kns_row {w:World} {g f n c:Nat} {us:List KC} {ks:List Kn} (h:KnsIn w (.slice (some ⟨g,f,none⟩) n c) us ks) (hn:1<=n):n=us.length/\g<w.heap.size/\∀(j:Nat) (u:Value),(rowF KC.cs us)[j]?=some u->w.cell? ((⟨g,f,none⟩:Addr).add j)=some u:=by
 obtain ⟨-,A',c',e,-,hr,-⟩:=h;injection e with e1 e2 e3;obtain ⟨g',f',e4,hg,hcl⟩:=hr.resolve_left (λe=>by rw[e]at e2;simp at e2;omega)
 rw[<-e1]at e4;injection e4 with e4;injection e4 with e4 e5 _;subst e4 e5;refine ⟨e2,hg,λj u hj=>?_⟩;have hlt:j<us.length*11:=by rw[<-rowF_len encKC us];exact (List.getElem?_eq_some_iff.1 hj).1
 have hi:j / 11<us.length:=by omega
 have hd:=hcl (j / 11) hi (j % 11) (by omega)
 rw[Addr.add_lit,show f+j=f+j / 11*11+j % 11 by omega,hd,<-rowF_get encKC us (j / 11) (j % 11) hi (by omega),show j / 11*11+j % 11=j by omega]
 exact hj
theorem factT_app {vL vB:Value} {us:List KC} {u:KC} {mb:Nat} {W:World} {j:Nat} {x:Value} {w w':World} (hne:∀k:Nat,w.heap[k]?=some (Obj.cells u.row 34 (0,0))->w'.heap[k]?=w.heap[k]?) (hj:j≠11) (h:factT vL vB us u mb W 2 j x w):factT vL vB us u mb W 3 j x w':=by
 unfold factT at h|-
 split at h
 all_goals first
  | exact h
  | exact absurd rfl hj
  | (intro hc;exact absurd hc (by decide))
  | (intro hc
     obtain ⟨g,h1,hg,hh⟩:=h (by decide)
     exact ⟨g,h1,hg,(hne g hh).trans hh⟩)
theorem factT_app3 {vL vB:Value} {us:List KC} {u:KC} {mb:Nat} {W:World} {j:Nat} {x:Value} {w w':World} (hj:j≠14) (h:factT vL vB us u mb W 3 j x w):factT vL vB us u mb W 4 j x w':=by
 unfold factT at h|-
 split at h
 all_goals first
  | exact h
  | exact absurd rfl hj
  | (intro hc;exact absurd hc (by decide))
set_option maxHeartbeats 8000000 in
theorem turns_law (A:Option Addr) (n c:Nat) (w:World) (ht:TapeArg A n w) (hv:VrOK w) :
  Calls Tryz.prog 3 #[.slice A n c] w λe w'=>e = .returned (.bool true)/\Below w.heap.size w w':=by
 have h0:=tape_new (c:=c) ht;have hb0:=(Below.refl w.heap.size w).alloc (Nat.le_refl _) (.cells #[.slice A n c, .int .i64 0] 25);have hz0:(w.alloc (.cells #[.slice A n c, .int .i64 0] 25)).heap.size=w.heap.size+1:=by simp
 generalize hw0:w.alloc (.cells #[.slice A n c, .int .i64 0] 25)=w0 at h0 hb0 hz0;have HW0:=Lib.hid hw0;have HV:=Lib.hid hv;have HB0:=Lib.hid (And.intro hb0 hz0);clear hv ht
 go_enter Tryz.func3,Tryz.ntmps3
 go_upto_region 2 with fail
 clear hw0 hz0;go_wp2_with fail;refine (kindsN_any w.heap.size w0 h0).mono ?_;rintro e w1 ⟨v,us,ks,rfl,hul,hlk,-,hkn,hkd,ht1,hf1⟩;obtain ⟨-,Ak,ck,rfl,hck,-,-⟩:=hkn w1 (Stay.refl _ _);have H1:=Lib.hid (And.intro hkn (And.intro hkd (And.intro ht1 hf1)));obtain ⟨nk,hnk⟩:∃n,us.length=n:=⟨_,rfl⟩;rw[hnk]at hck hul hkn|-;have HNK:=Lib.hid (And.intro hnk (hlk.symm.trans hnk));have HKN:=Lib.hid hkn;clear hkn hkd ht1 hf1 hb0 h0 hlk hnk;obtain ⟨ik,hik,hk0,hk1,hk2⟩:=info_parts info_kind;go_wp2_with fail
 go_loopw [5,6] (λbv iv wr=>∃(k:Nat) (Ab:Option Addr) (mb cb:Nat),k<=nk/\iv = .int .i64 ((k:Int) - 1)/\bv = .slice Ab mb cb/\Hid (BkI w1 us k Ab mb cb wr)) (λ_ iv _=>(intOf iv+1).toNat)
 case atStart=>
  refine ⟨nk,none,0,0,Nat.le_refl _,rfl,rfl,⟨Below.refl _ _,?_,by rw[HNK.out.1];omega⟩⟩
  rw[<-HNK.out.1,backK_all];exact OR.nil_ _ _ _
 case round=>
  obtain ⟨k,Ab,mb,cb,hkn,rfl,rfl,HB⟩:=hrel;by_cases hk0':0<k
  .have hd:decide (0<=(k:Int) - 1)=true:=decide_eq_true (by omega)
   have hd2:decide (0<k)=true:=decide_eq_true hk0';have hku:k - 1<us.length:=by have:=HNK.out.1;omega
   obtain ⟨-,Ak',ck',e9,-,hr9,-⟩:=HKN.out wr (Stay.of_below HB.out.bl);injection e9 with e9 _ e9';subst e9 e9';obtain ⟨g,f,rfl,hg,hcl⟩:=hr9.resolve_left (λe=>by rw[e]at hku;simp at hku)
   have hcl':=hcl (k - 1) hku;obtain ⟨u,hu⟩:∃u,us[k - 1]=u:=⟨_,rfl⟩;rw[hu]at hcl';obtain ⟨⟨q0,q1,q2,q3,q4,q5⟩,q6,q7,q8,q9,q10⟩:=kc_cells hcl';have hidx:(k:Int) - 1=((k - 1:Nat):Int):=by omega
   have hlt1:k - 1<nk:=by omega
   have hown:=HB.out.own;have hsz:=HB.out.bl.size;have HU:=Lib.hid hu;have hw1:IntKind.i64.wrap ((k:Int) - 1 - 1)=(k:Int) - 1 - 1:=IntWalk.i64_in _ (by omega)
   rw[hidx]at *;clear hcl hcl' hr9 hu;go_wp2_with (at_builtin;refine app_oneH encKC Tryz.underlying26 hik hk0 hk1 hk2 rfl (by omega) _ _ _ _ _ u _ _ rfl rfl rfl rfl rfl hown (by rw[backK_len];omega) hsz ?_;intro v10 w10 hown10 hb10 hg10)
   obtain ⟨A',c',rfl,-,-⟩:=own_form (show w10.ownsRow _ _ _ _ _ _ from hown10);obtain ⟨kk,rfl⟩:∃kk,k=kk+1:=⟨k - 1,by omega⟩
   have hbk:backK us kk=backK us (kk+1)++[u]:=by
    have h1:=HU.out;rw[backK_succ (show kk<us.length by omega)]
    congr 2
   have hlen:(backK us (kk+1)++[u]).length=us.length-kk:=by rw[<-hbk,backK_len]
   rw[<-hbk]at hown10;refine ⟨⟨kk,by omega,by simp,A',_,c',rfl,⟨HB.out.bl.trans hb10,by rw[<-hbk];exact hown10,by rw[hlen]⟩⟩,by simp[intOf];omega⟩
  .obtain rfl:k=0:=by omega
   have hd:decide (0<=((0:Nat):Int) - 1)=false:=by decide
   have hmb:mb=nk:=by have h1:=HB.out.len;have h2:=HNK.out.1;omega
   subst hmb;have hsz:=HB.out.bl.size;have hlw:w.heap.size<w1.heap.size:=by have h1:=H1.out.2.2.2.size;have h2:=HB0.out.2;omega
   have htr:TapeOK w.heap.size wr:=H1.out.2.2.1.below' HB.out.bl (by omega)
   go_wp2_with fail;refine (next_any w.heap.size mb wr (by omega) (by omega) htr).mono ?_
   rintro e w2 ⟨ri,rfl,r0,r1,ht2,hf2⟩;obtain ⟨r,rfl⟩:∃r:Nat,ri=(r:Int):=⟨ri.toNat,by omega⟩
   have hst2:Stay w.heap.size w1 w2:=(Stay.of_below HB.out.bl).trans (Stay.of_fr hf2);obtain ⟨-,Ak',ck',e9,-,hr9,-⟩:=HKN.out w2 hst2;injection e9 with e9 e8 e9';clear e8;subst e9 e9';have hru:r<us.length:=by have:=HNK.out.1;omega
   have hdr:decide ((r:Int)<(mb:Int))=true:=decide_eq_true (by omega)
   have hdr2:decide (r<mb)=true:=decide_eq_true (by omega)
   obtain ⟨g,f,rfl,hg,hcl⟩:=hr9.resolve_left (λe=>by rw[e]at hru;simp at hru)
   have hcl':=hcl r hru;obtain ⟨u,hu⟩:∃u,us[r]=u:=⟨_,rfl⟩;rw[hu]at hcl';obtain ⟨⟨q0,q1,q2,q3,q4,q5⟩,q6,q7,q8,q9,q10⟩:=kc_cells hcl';have H2:=Lib.hid (And.intro hu (And.intro ht2 (And.intro hf2 hst2)));have hrm:r<mb:=by omega
   clear hcl hcl' hr9 hu ht2 hf2 hst2 htr r0 r1
   go_upto_region 9 with fail
   refine wp_nm λW hW=>?_;have hbW:Below w2.heap.size w2 W:=by rw[hW];exact (Below.refl _ _).alloc (Nat.le_refl _) _
   have hbx:bxU u w2.heap.size W:=by rw[hW];exact heap_alloc_new w2 _
   have hst:Stay w.heap.size w1 W:=H2.out.2.2.2.trans (Stay.of_below hbW);have hfr:Fr w.heap.size w0 W:=((H1.out.2.2.2.trans (Fr.of_below HB.out.bl)).trans H2.out.2.2.1).trans (Fr.of_below hbW);have hBW:Below w.heap.size w W:=HB0.out.1.trans (hfr.below (Nat.le_refl _) HB0.out.1.size);have hmk:MkK ks:=⟨by have:=HNK.out.2;omega,by have:=HNK.out.2;omega,H1.out.2.1⟩
   have hor:OR 34 11 KC.cs w1.heap.size (.slice Ab mb cb) us.reverse W:=by
    have h1:OR 34 11 KC.cs w1.heap.size (.slice Ab mb cb) us.reverse wr:=HB.out.own;have h2:=OR.keep h1 (w1:=w2) λq hq=>H2.out.2.2.1.block q (World.ownsRow.lt h1 q hq).2 (λe=>by injection e with e;have:=(World.ownsRow.lt h1 q hq).1;omega)
    exact OR.later h2 hbW
   have HMK:=Lib.hid hmk;have HL:=Lib.hid (λ(W':World) (hb:Below W.heap.size W W')=>HKN.out W' (hst.trans (Stay.of_below hb)));have HKI:=Lib.hid (λ(W':World) (hb:Below W.heap.size W W')=>(by obtain ⟨-,_,_,-,-,-,h⟩:=HL.out W' hb;exact h:∀i (h1:i<us.length) (h2:i<ks.length),KnIn W' us[i] ks[i]))
   have HVR:=Lib.hid (λ(W':World) (hb:Below W.heap.size W W')=>HV.out.later (hBW.trans (hb.mono hBW.size)));have HRV:=Lib.hid (λ(W':World) (hb:Below W.heap.size W W')=>KnsIn.of_OR (ks:=ks.reverse) (OR.later hor hb) (by have:=HNK.out;simp;omega) (λi h1 h2=>by
    rw[List.getElem_reverse,List.getElem_reverse];have e1:=HNK.out.1;have e2:=HNK.out.2;have:=HKI.out W' hb (us.length - 1-i) (by simp at h1;omega) (by simp at h1;omega)
    simpa [e1,e2] using this))
   have HDU:=Lib.hid (λ(W':World) (v':Value) (hb:Below W.heap.size W W') (ho:OR 34 11 KC.cs W.heap.size v' (us++[u]) W')=>KnsIn.of_OR (ks:=ks++[ks[r]'(by have:=HNK.out.2;omega)]) ho (by have:=HNK.out;simp;omega) (λi h1 h2=>by
    by_cases hi:i<us.length
    .rw[List.getElem_append_left hi,List.getElem_append_left (by have:=HNK.out;omega)]
     exact HKI.out W' hb i hi (by have:=HNK.out;omega)
    .have hie:i=us.length:=by rw[List.length_append]at h1;simp at h1;omega
     subst hie;rw[List.getElem_append_right (Nat.le_refl _),List.getElem_append_right (by have:=HNK.out;omega)]
     have e2:us.length-ks.length=0:=by have:=HNK.out;omega
     simp only[Nat.sub_self,e2,List.getElem_cons_zero];rw[<-H2.out.1];exact HKI.out W' hb r hru (by have:=HNK.out;omega)))
   obtain ⟨⟨b0,b1,b2,b3,b4,b5⟩,⟨b6,b7,b8,b9,b10⟩,lbx⟩:=hbx.cells;have HBX:=Lib.hid (And.intro hbx hBW);have hS0:Below W.heap.size W W.drew:=(Below.refl _ _).drew;clear hW hbW hbx hst hfr hBW hmk hor q0 q1 q2 q3 q4 q5 q6 q7 q8 q9 q10 b0 b1 b2 b3 b4 b5 b6 b7 b8 b9 b10;refine wp_region_chain 34 [1,5,11,14,15,19,25,32] (factT (.slice (some ⟨g,f,none⟩) mb ck) (.slice Ab mb cb) us u mb W) (λ_ w'=>Below W.heap.size W w') (by kernel_rfl) (by kernel_rfl) (by kernel_rfl) (by kernel_rfl) (by kernel_rfl) (by kernel_rfl) (by decide) hS0 ?_ ?_
   .simp only[pq4,pq5];refine HSteps.pure (by decide) ?_ (HSteps.eff 0 rfl ?_ (HSteps.pure (by decide) ?_ (HSteps.pure (by decide) ?_ (HSteps.pure (by decide) ?_ (HSteps.eff 1 rfl ?_ (HSteps.pure (by decide) ?_ (HSteps.pure (by decide) ?_ (HSteps.pure (by decide) ?_ (HSteps.free (by decide) ?_ (HSteps.pure (by decide) ?_ (HSteps.eff 2 rfl ?_ (HSteps.pure (by decide) ?_ (HSteps.free (by decide) ?_ (HSteps.eff 3 rfl ?_ (HSteps.eff 4 rfl ?_ (HSteps.pure (by decide) ?_ (HSteps.pure (by decide) ?_ (HSteps.pure (by decide) ?_ (HSteps.eff 5 rfl ?_ (HSteps.pure (by decide) ?_ (HSteps.pure (by decide) ?_ (HSteps.pure (by decide) ?_ (HSteps.pure (by decide) ?_ (HSteps.pure (by decide) ?_ (HSteps.eff 6 rfl ?_ (HSteps.pure (by decide) ?_ (HSteps.pure (by decide) ?_ (HSteps.pure (by decide) ?_ (HSteps.pure (by decide) ?_ (HSteps.pure (by decide) ?_ (HSteps.pure (by decide) ?_ (HSteps.eff 7 rfl ?_ (HSteps.pure (by decide) ?_ (HSteps.nil))))))))))))))))))))))))))))))))))
    all_goals first | (with_reducible intro v wz c hlo hS hE K hK;simp only[putAll,Act.put,pq1,pq2,pq3,Nat.zero_add,Nat.reduceAdd,pq4,pq5]at hK|-) | (intro v wz hS hE K hK;simp only[putAll,Act.put,pq1,pq2,pq3,Nat.zero_add,Nat.reduceAdd,pq4,pq5]at hK|-)
    .have HX:=Lib.hid hS;clear hS hE hlo;go_wp2_with fail;exact hK.out _ rfl
    .have e0:v 0=_:=hE.1 rfl;rw[e0]at hK|-;have HC:=Lib.hid (tv_l HMK.out (HL.out wz hS) (HVR.out wz hS));have HX:=Lib.hid hS;clear hS hE;go_wp2_with fail;refine HC.out.mono ?_;rintro e wy ⟨rfl,hy⟩;have HP:=Lib.hid hy;clear hy;go_wp2_with fail;refine hK.out _ _ (λj z hj h=>factT_call HP.out (by decide) (by decide) h) (HX.out.trans (HP.out.mono HX.out.size)) rfl
    .have e1:v 1=_:=hE.1 rfl;rw[e1]at hK|-;have HX:=Lib.hid hS;clear hS hE hlo;go_wp2_with fail;exact hK.out _ rfl
    .have e2:v 2=_:=hE.1 rfl;rw[e2]at hK|-;have HX:=Lib.hid hS;clear hS hE hlo;go_wp2_with fail;exact hK.out _ rfl
    .have e3:v 3=_:=hE.1 rfl;rw[e3]at hK|-;have HX:=Lib.hid hS;clear hS hE hlo;go_wp2_with fail;exact hK.out _ rfl
    .have e4:v 4=_:=hE.1 rfl;have e3:v 3=_:=hE.2.2.1 rfl;rw[e4,e3]at hK|-;have HC:=Lib.hid (tv_b HMK.out (HRV.out wz hS) (HVR.out wz hS));have HX:=Lib.hid hS;clear hS hE;go_wp2_with fail;refine HC.out.mono ?_;rintro e wy ⟨rfl,hy⟩;have HP:=Lib.hid hy;clear hy;go_wp2_with fail;refine hK.out _ _ (λj z hj h=>factT_call HP.out (by decide) (by decide) h) (HX.out.trans (HP.out.mono HX.out.size)) rfl
    .have e5:v 5=_:=hE.1 rfl;have e3:v 3=_:=hE.2.1 rfl;rw[e5,e3]at hK|-;have HX:=Lib.hid hS;clear hS hE hlo;go_wp2_with fail;exact hK.out _ rfl
    .have e3:v 3=_:=hE.1 rfl;have e6:v 6=_:=hE.2.1 rfl;rw[e3,e6]at hK|-;have HX:=Lib.hid hS;clear hS hE hlo;go_wp2_with fail;exact hK.out _ rfl
    .have e7:v 7=_:=hE.1 rfl;rw[e7]at hK|-;have HX:=Lib.hid hS;clear hS hE hlo;go_wp2_with fail;exact hK.out _ rfl
    .have e8:v 8=_:=hE.1 rfl;rw[e8]at hK|-;have hzW:=hS.size;have hbz:Below wz.heap.size wz (wz.alloc (.cells #[] 34)):=(Below.refl _ _).alloc (Nat.le_refl _) _;have HX:=Lib.hid (And.intro (hS.trans (hbz.mono hzW)) hbz);clear hS hE hlo hbz;go_wp2_with fail;exact hK.out _ _ (λj z hj h=>factT_free HX.out.2 h) HX.out.1 (λ_=>⟨wz.heap.size,rfl,hzW,heap_alloc_new wz _⟩)
    .have e8:v 8=_:=hE.1 rfl;rw[e8]at hK|-;have HX:=Lib.hid hS;clear hS hE hlo;go_wp2_with fail;exact hK.out _ rfl
    .have e10:v 10=_:=hE.2.1 rfl;have e8:v 8=_:=hE.2.2.2.1 rfl;rw[e10,e8]at hK|-;have E9:=hE.1 rfl;obtain ⟨g9,e9,hg9,hh9⟩:=E9 (Nat.le_refl _);rw[e9]at hK|-;have hown9:wz.ownsRow W.heap.size 34 11 (.slice (some ⟨g9,0,none⟩) 0 0) 0 []:=⟨rfl, .inr ⟨g9,0,#[],rfl,hg9,hh9,Nat.le_refl _,by decide,rfl,rfl⟩⟩
     obtain ⟨hmu,-,hrow⟩:=kns_row (HL.out wz hS) (by omega)
     have hzz:=hS.size;have hlen:(rowF KC.cs us).length=mb*11:=by rw[rowF_len encKC us,hmu]
     have HX:=Lib.hid (And.intro hS (And.intro hmu (And.intro hown9 hh9)));clear hS hE hmu hh9 E9;refine appG_at (by rfl) _ _ 26 rfl W.heap.size 34 ik _ 11 144 Tryz.underlying26 hik hk0 hk1 hk2 rfl (by decide) (.slice (some ⟨g9,0,none⟩) 0 0) 0 [] rfl hown9 ⟨g,f,none⟩ mb ck (rowF KC.cs us) rfl hlen hrow (rowF_one encKC us) (by unfold maxLen;omega) (by omega) hzz ?_
     intro v' wx hownX hgX hfX;refine wpList_nil ?_;simp only[Act.put,List.setIfInBounds_toArray,List.set_cons_zero,List.set_cons_succ]
     change K _ _
     rw[Nat.zero_add,List.nil_append]at hownX;obtain ⟨A',c',rfl,-,-⟩:=own_form hownX;refine hK.out _ _ (λj z hj h=>factT_app (λk hk=>hgX.block k (Array.getElem?_eq_some_iff.1 hk).1 (λe=>?_)) hj h) ?_ (λ_=>⟨A',c',by rw[<-HX.out.2.1],by show wx.ownsRow _ _ _ _ us.length _;rw[<-HX.out.2.1];exact hownX⟩)
     .have e1:g9=k:=by simpa [Value.ownBlock] using e.symm
      rw[<-e1,HX.out.2.2.2]at hk;injection hk with hk;injection hk with hk _ _;exact absurd hk (by simp[KC.row])
     .refine ⟨hgX.os.trans HX.out.1.os,hgX.tape.trans HX.out.1.tape,hgX.output.trans HX.out.1.output,Nat.le_trans HX.out.1.size hgX.size,λk hk=>(hgX.block k (by omega) (λe=>?_)).trans (HX.out.1.block k hk)⟩
      have e1:g9=k:=by simpa [Value.ownBlock] using e.symm
      omega
    .have e8:v 8=_:=hE.1 rfl;rw[e8]at hK|-;have hz:=bxU.later HBX.out.1 hS;obtain ⟨⟨b0,b1,b2,b3,b4,b5⟩,⟨b6,b7,b8,b9,b10⟩,lbz⟩:=hz.cells;clear hz;have HX:=Lib.hid hS;clear hS hE hlo;go_wp2_with fail;exact hK.out _ rfl
    .have e12:v 12=_:=hE.1 rfl;have e8:v 8=_:=hE.2.1 rfl;rw[e12,e8]at hK|-;unfold KC.ag at hK|-;have hzW:=hS.size;have hbz:Below wz.heap.size wz (wz.alloc (.cells u.row 34)):=(Below.refl _ _).alloc (Nat.le_refl _) _;have HX:=Lib.hid (And.intro (hS.trans (hbz.mono hzW)) hbz);clear hS hE hlo hbz;go_wp2_with fail;exact hK.out _ _ (λj z hj h=>factT_free HX.out.2 h) HX.out.1 (λ_=>⟨wz.heap.size,rfl,hzW,heap_alloc_new wz _⟩)
    .have e8:v 8=_:=hE.2.2.2.1 rfl;rw[e8]at hK|-;have E11:=hE.1 rfl;have E13:=hE.2.1 rfl;obtain ⟨A1,c1,e11,ho⟩:=E11 rfl;obtain ⟨g13,e13,hg13,hh13⟩:=E13 (Nat.le_refl _);rw[e11]at hK ho|-;rw[e13]at hK|-;have hown1:wz.ownsRow W.heap.size 34 11 (.slice A1 us.length c1) us.length (rowF KC.cs us):=ho;have hus3:us.length<=3:=by have:=HNK.out.1;omega
     have hrow:∀(j:Nat) (x:Value),u.cs[j]?=some x->wz.cell? ((⟨g13,0,none⟩:Addr).add j)=some x:=λj x hj=>by
      rw[Addr.add_lit,Nat.zero_add,cell_of_row _ _ _ _ _ _ hh13];unfold KC.row;unfold KC.cs at hj;simpa using hj
     have hzz:=hS.size;have HX:=Lib.hid (And.intro hS hown1);clear hS hE hh13 ho E11 E13;refine appG_at (by rfl) _ _ 26 rfl W.heap.size 34 ik _ 11 144 Tryz.underlying26 hik hk0 hk1 hk2 rfl (by decide) (.slice A1 us.length c1) us.length (rowF KC.cs us) rfl hown1 ⟨g13,0,none⟩ 1 1 u.cs rfl rfl hrow (encKC.one u) (by unfold maxLen;omega) (by omega) hzz ?_
     intro v' wx hownX hgX hfX;refine wpList_nil ?_;simp only[Act.put,List.setIfInBounds_toArray,List.set_cons_zero,List.set_cons_succ]
     change K _ _
     obtain ⟨A',c',rfl,-,-⟩:=own_form hownX;refine hK.out _ _ (λj z hj h=>factT_app3 hj h) ?_ (λ_=>⟨A',c',rfl,?_⟩)
     .refine ⟨hgX.os.trans HX.out.1.os,hgX.tape.trans HX.out.1.tape,hgX.output.trans HX.out.1.output,Nat.le_trans HX.out.1.size hgX.size,λk hk=>(hgX.block k (by omega) (λe=>?_)).trans (HX.out.1.block k hk)⟩
      have:=(World.ownsRow.lt HX.out.2 k e.symm).1;omega
     .show wx.ownsRow _ _ _ _ (us++[u]).length (rowF KC.cs (us++[u]));rw[List.length_append,rowF_app,rowF_single];exact hownX
    .have e8:v 8=_:=hE.2.2.1 rfl;rw[e8]at hK|-;have E14:=hE.1 rfl;obtain ⟨A',c',e14,ho⟩:=E14 rfl;rw[e14]at hK ho|-;have HC:=Lib.hid (tv_d HMK.out (by have:=HNK.out.2;omega) (HDU.out wz _ hS ho) (HVR.out wz hS))
     have HX:=Lib.hid hS;clear hS hE;go_wp2_with fail;refine HC.out.mono ?_;rintro e wy ⟨rfl,hy⟩;have HP:=Lib.hid hy;clear hy;go_wp2_with fail;refine hK.out _ _ (λj z hj h=>factT_call HP.out (by decide) (by decide) h) (HX.out.trans (HP.out.mono HX.out.size)) rfl
    .have e15:v 15=_:=hE.1 rfl;have e8:v 8=_:=hE.2.1 rfl;rw[e15,e8]at hK|-;have HX:=Lib.hid hS;clear hS hE hlo;go_wp2_with fail;exact hK.out _ rfl
    .have e8:v 8=_:=hE.1 rfl;have e16:v 16=_:=hE.2.1 rfl;rw[e8,e16]at hK|-;have HX:=Lib.hid hS;clear hS hE hlo;go_wp2_with fail;exact hK.out _ rfl
    .have e17:v 17=_:=hE.1 rfl;rw[e17]at hK|-;have HX:=Lib.hid hS;clear hS hE hlo;go_wp2_with fail;exact hK.out _ rfl
    .have e18:v 18=_:=hE.2.1 rfl;rw[e18]at hK|-;have HC:=Lib.hid (tv_n (HVR.out wz hS));have HX:=Lib.hid hS;clear hS hE;go_wp2_with fail;refine HC.out.mono ?_;rintro e wy ⟨rfl,hy⟩;have HP:=Lib.hid hy;clear hy;go_wp2_with fail;refine hK.out _ _ (λj z hj h=>factT_call HP.out (by decide) (by decide) h) (HX.out.trans (HP.out.mono HX.out.size)) rfl
    .have e19:v 19=_:=hE.1 rfl;have e18:v 18=_:=hE.2.1 rfl;rw[e19,e18]at hK|-;have HX:=Lib.hid hS;clear hS hE hlo;go_wp2_with fail;exact hK.out _ rfl
    .have e18:v 18=_:=hE.1 rfl;have e20:v 20=_:=hE.2.1 rfl;rw[e18,e20]at hK|-;have HX:=Lib.hid hS;clear hS hE hlo;go_wp2_with fail;exact hK.out _ rfl
    .have e21:v 21=_:=hE.1 rfl;rw[e21]at hK|-;have HX:=Lib.hid hS;clear hS hE hlo;go_wp2_with fail;exact hK.out _ rfl
    .have e22:v 22=_:=hE.1 rfl;rw[e22]at hK|-;have HX:=Lib.hid hS;clear hS hE hlo;go_wp2_with fail;exact hK.out _ rfl
    .have e22:v 22=_:=hE.1 rfl;rw[e22]at hK|-;have HX:=Lib.hid hS;clear hS hE hlo;go_wp2_with fail;exact hK.out _ rfl
    .have e23:v 23=_:=hE.1 rfl;have e24:v 24=_:=hE.2.1 rfl;have e22:v 22=_:=hE.2.2.2.1 rfl;rw[e23,e24,e22]at hK|-;have HC:=Lib.hid (ts_lb HMK.out (HL.out wz hS) (HRV.out wz hS));have HX:=Lib.hid hS;clear hS hE;go_wp2_with fail;refine HC.out.mono ?_;rintro e wy ⟨rfl,hy⟩;have HP:=Lib.hid hy;clear hy;go_wp2_with fail;refine hK.out _ _ (λj z hj h=>factT_call HP.out (by decide) (by decide) h) (HX.out.trans (HP.out.mono HX.out.size)) rfl
    .have e22:v 22=_:=hE.1 rfl;rw[e22]at hK|-;have HX:=Lib.hid hS;clear hS hE hlo;go_wp2_with fail;exact hK.out _ rfl
    .have e26:v 26=_:=hE.1 rfl;have e22:v 22=_:=hE.2.1 rfl;rw[e26,e22]at hK|-;have HX:=Lib.hid hS;clear hS hE hlo;go_wp2_with fail;exact hK.out _ rfl
    .have e27:v 27=_:=hE.1 rfl;have e22:v 22=_:=hE.2.1 rfl;rw[e27,e22]at hK|-;have HX:=Lib.hid hS;clear hS hE hlo;go_wp2_with fail;exact hK.out _ rfl
    .have e25:v 25=_:=hE.1 rfl;have e28:v 28=_:=hE.2.1 rfl;have e22:v 22=_:=hE.2.2.1 rfl;rw[e25,e28,e22]at hK|-;have hq:((mb:Int) == 1)=decide (mb=1):=beq_dec mb;rw[hq]at hK|-;have HX:=Lib.hid hS;clear hS hE hlo;go_wp2_with fail;exact hK.out _ rfl
    .have e22:v 22=_:=hE.1 rfl;have e29:v 29=_:=hE.2.1 rfl;rw[e22,e29]at hK|-;have HX:=Lib.hid hS;clear hS hE hlo;go_wp2_with fail;exact hK.out _ rfl
    .have e30:v 30=_:=hE.1 rfl;rw[e30]at hK|-;have HX:=Lib.hid hS;clear hS hE hlo;go_wp2_with fail;exact hK.out _ rfl
    .have e31:v 31=_:=hE.2.1 rfl;rw[e31]at hK|-;have HC:=Lib.hid (awake7_any wz (HVR.out wz hS));have HX:=Lib.hid hS;clear hS hE;go_wp2_with fail;refine HC.out.mono ?_;rintro e wy ⟨rfl,hy⟩;have HP:=Lib.hid hy;clear hy;go_wp2_with fail;refine hK.out _ _ (λj z hj h=>factT_call HP.out (by decide) (by decide) h) (HX.out.trans (HP.out.mono HX.out.size)) rfl
    .have e31:v 31=_:=hE.1 rfl;have e32:v 32=_:=hE.2.1 rfl;rw[e31,e32]at hK|-;have HX:=Lib.hid hS;clear hS hE hlo;go_wp2_with fail;exact hK.out _ rfl
   .intro v wz hS hF;have e33:v 33=_:=hF 33 (by decide)
    simp only[putAll,Act.put,pq1,pq2,pq3,Nat.zero_add,Nat.reduceAdd,pq4,pq5,List.drop_succ_cons,List.drop_zero,e33];have HX:=Lib.hid hS;clear hF e33 hS;go_wp2_with fail;go_ret;exact ⟨rfl,HBX.out.2.trans (HX.out.mono HBX.out.2.size)⟩
end Go.Proofs.YtljgapfmgegifaaGreatDoor
