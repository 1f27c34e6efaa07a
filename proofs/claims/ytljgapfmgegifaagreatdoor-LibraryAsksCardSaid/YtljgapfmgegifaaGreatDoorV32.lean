/- Rows of strings of the call's own; an append of strings; a text in memory; boxes of a kind that is changed. -/
import Derived.Test.YtljgapfmgegifaaGreatDoorV29
import Derived.Test.YtljgapfmgegifaaGreatDoorV04
import Derived.Test.YtljgapfmgegifaaGreatDoorV20
import Derived.Test.YtljgapfmgegifaaGreatDoorV08
import Derived.Test.YtljgapfmgegifaaGreatDoorV31
namespace Go.Proofs.YtljgapfmgegifaaGreatDoor
set_option linter.unusedVariables false
set_option linter.unusedSimpArgs false
set_option maxRecDepth 100000
open Go.RowKit
def OSw (B:Nat) (v:Value) (ss:List ByteArray) (w:World):Prop:=w.ownsRow B 9 1 v ss.length (ss.map Value.string)
theorem OSw.form {B:Nat} {v:Value} {ss:List ByteArray} {w:World} (h:OSw B v ss w):∃A c,v = .slice A ss.length c/\(ss.length<=c/\c<=9223372036854775807)/\(ss=[]\/∃g,A=some ⟨g,0,none⟩/\B<=g/\g<w.heap.size/\∀i (h:i<ss.length),w.cell? ⟨g,i,none⟩=some (.string ss[i])):=by
 rcases h.2 with ⟨h1,h0⟩ | ⟨g,cap,cur,rfl,hb,hg,hle,hm,-⟩
 .exact ⟨none,0,by rw[h1,h0],⟨by omega,by decide⟩, .inl (List.length_eq_zero_iff.1 h0)⟩
 .refine ⟨_,_,rfl,⟨hle,by unfold maxLen at hm;omega⟩, .inr ⟨g,rfl,hb,(Array.getElem?_eq_some_iff.1 hg).1,λj hj=>?_⟩⟩
  have:=World.ownsRow.cellAt h j (by simpa using hj)
  rw[this];simp[hj]
theorem OSw.stay {B b:Nat} {v:Value} {ss:List ByteArray} {w W:World} (h:OSw B v ss w) (hb:b<B) (hs:Stay b w W):StIn W v ss:=by
 obtain ⟨A,c,rfl,hc,h⟩:=h.form;refine ⟨A,c,rfl,hc,?_⟩;rcases h with h | ⟨g,rfl,h1,h2,h3⟩
 .exact .inl h
 .exact .inr ⟨g,0,rfl,Nat.lt_of_lt_of_le h2 hs.1,λi hi=>by rw[Nat.zero_add];exact (hs.cell (by omega) h2).trans (h3 i hi)⟩
theorem run_append_zero {P:Program} {w:World} (base:Nat) (t ty e:TypeId) (i:TypeInfo) (size:Nat) (ht:P.underlying t=some (.slice e)) (hi:P.info? e=some i) (c:Nat)
  (v:Value) (n:Nat) (xs:List Value) (hown:w.ownsRow base e size v n xs) :
  (Builtin.append_ #[t,t] ty #[v, .slice none 0 c]).run P w = .ok v w:=by
 rcases hown.2 with ⟨rfl,rfl⟩ | ⟨g,cap,cur,rfl,_,_,hnc,_⟩
 .simp[Builtin.append_,run_underlying ht,sizeOf,typeInfo,hi,Builtin.lenOf,Builtin.firstCells]
 .simp[Builtin.append_,run_underlying ht,sizeOf,typeInfo,hi,Builtin.lenOf,Builtin.firstCells,hnc,storeCells]
theorem appSt_at {w:World} {ops:Array Oper} {rest:List Oper} {o:Oper} {a:Act} {Q:Exit->Act->World->Prop} (hgd:o.guard=none) (s x:Operand)
  (ho:o.op = .call { callee:=.builtin .append,args:=#[s,x],argTypes:=#[32,32] })
  (B:Nat) (v X:Value) (ss ws:List ByteArray) (hs:a.eval s=v) (hx:a.eval x=X) (hown:OSw B v ss w) (hst:StIn w X ws) (hl:ss.length+ws.length<=1000) (hB:B<=w.heap.size)
  (h:∀v' w',OSw B v' (ss++ws) w'->w.grownBy w' v.ownBlock->(v'.ownBlock=v.ownBlock\/∃g,v'.ownBlock=some g/\w.heap.size<=g)->wpList Tryz.prog ops Q rest (a.put o.dst v') w'):wpList Tryz.prog ops Q (o::rest) a w:=by
 obtain ⟨i0,hi,hz0,hz1,hz2⟩:=info_parts info_str;obtain ⟨A,c,rfl,hc,hor⟩:=hst;refine wpList_plain hgd λK hK=>?_;have hOS:∀{v' w'},w'.ownsRow B 9 1 v' (ss.length+ws.length) (ss.map Value.string++ws.map Value.string)->OSw B v' (ss++ws) w':=λh=>by
  unfold OSw;rw[List.length_append,List.map_append];exact h
 have go:∀ad,A=some ad->(∀(j:Nat) u,(ws.map Value.string)[j]?=some u->w.cell? (ad.add j)=some u)->Oper.wp Tryz.prog o a w K Q:=by
  rintro ad rfl hnews;obtain ⟨v',w',hr,h2,h3,h4⟩:=run_append_own (P:=Tryz.prog) w B 32 o.type 9 i0 _ 1 16 Tryz.underlying32 hi hz0 hz1 hz2 rfl (by decide) v ss.length _ hown ad ws.length c (ws.map Value.string) (by simp) hnews (λu hu=>by obtain ⟨y,-,rfl⟩:=List.mem_map.1 hu;rfl) (by unfold maxLen;omega) (by omega) hB
  have h5:=own_fresh (P:=Tryz.prog) Tryz.underlying32 hi hz0 hz1 hz2 hown (by simp) hnews (λu hu=>by obtain ⟨y,-,rfl⟩:=List.mem_map.1 hu;rfl) (by unfold maxLen;omega) (by omega) hr
  unfold Oper.wp execOp;simp only[ho,resolve,invoke,builtin,Sem.run_bind,Sem.run_pure,Result.andThen_ok,List.map_toArray,List.map_cons,List.map_nil,hs,hx,hr];exact hK _ _ (h v' w' (hOS h2) h3 h5)
 rcases hor with rfl | ⟨g,f,rfl,hg,hcl⟩
 .cases A with
  | some ad=>exact go ad rfl (λj u hj=>by simp at hj)
  | none=>
   have hr:=run_append_zero (P:=Tryz.prog) B 32 o.type 9 i0 1 Tryz.underlying32 hi c v _ _ hown;rw[List.length_nil]at hx;unfold Oper.wp execOp;simp only[ho,resolve,invoke,builtin,Sem.run_bind,Sem.run_pure,Result.andThen_ok,List.map_toArray,List.map_cons,List.map_nil,hs,hx,hr];exact hK _ _ (h v w (hOS (by simpa [OSw] using hown)) ⟨rfl,rfl,rfl,Nat.le_refl _,λ_ _ _=>rfl⟩ (.inl rfl))
 .refine go _ rfl λj u hj=>?_;rw[List.getElem?_map]at hj;obtain ⟨y,hy,rfl⟩:=Option.map_eq_some_iff.1 hj;obtain ⟨hj2,rfl⟩:=List.getElem?_eq_some_iff.1 hy;rw[Addr.add_lit];exact hcl j hj2
theorem txI_of_OB {e:TypeId} {B b:Nat} {v:Value} {l:List UInt8} {w W:World} (h:OB 5 B v l w) (hb:b<B) (hl:l.length<=900000) (hs:Stay b w W):∃A c,v = .slice A l.length c/\TxI W A l.length c (l.map UInt8.toNat):=by
 have h9:=h;rcases h.2 with ⟨h1,h0⟩ | ⟨g,cap,cur,rfl,hB,hg,hle,hm,-⟩
 .have h0':l=[]:=List.length_eq_zero_iff.1 h0;refine ⟨none,0,by rw[h1,h0],⟨⟨none,0,by simp,⟨by simp[h0],by decide⟩, .inl (by rw[h0'];rfl)⟩, .inl ⟨rfl,rfl⟩,by simp,hl,λb hb=>by rw[h0']at hb;cases hb⟩⟩
 .refine ⟨_,_,rfl,⟨⟨_,cap,by rw[List.length_map],⟨by rw[List.length_map];exact hle,by unfold maxLen at hm;omega⟩, .inr ⟨g,0,rfl,Nat.lt_of_lt_of_le (Array.getElem?_eq_some_iff.1 hg).1 hs.1,λi hi=>?_⟩⟩, .inr ⟨g,0,rfl⟩,by simp,hl,λb hb=>?_⟩⟩
  .have hi2:i<l.length:=by simpa using hi
   rw[Nat.zero_add,hs.cell (by omega) (Array.getElem?_eq_some_iff.1 hg).1,World.ownsRow.cellAt h9 i (by simpa using hi2)]
   simp[hi2]
  .obtain ⟨y,-,rfl⟩:=List.mem_map.1 hb;exact y.toNat_lt
end Go.Proofs.YtljgapfmgegifaaGreatDoor
