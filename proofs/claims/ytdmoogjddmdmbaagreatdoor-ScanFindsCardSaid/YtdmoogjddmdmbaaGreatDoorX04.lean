/- Walks. -/
import Derived.WalkKit
import Derived.WalkSpells
import Derived.WalkLawsBesides
import Derived.Lib.Hide
import Derived.Lib.ConvBytes
import Derived.BigQuiet
import Derived.Test.YtdmoogjddmdmbaaGreatDoorX03
import Derived.Maps.Own
import Derived.Maps.OwnOps
import Derived.Maps.OwnSet
import Derived.Maps.Views
set_option maxRecDepth 100000
set_option maxHeartbeats 16000000
set_option linter.unusedVariables false
set_option linter.unusedSimpArgs false
namespace Go.Proofs.YtdmoogjddmdmbaaGreatDoor
open Go.RowKit
theorem pE(c:UInt8):(c.toNat:Int)<256:=by have:=c.toNat_lt;omega
theorem aC{k:IntKind}{a b:Int}(h:a=b):Ending.returned (.int k a)=.returned (.int k b):=by rw[h]
theorem ae{a b:Bool}(h:a=b):Ending.returned (.bool a)=.returned (.bool b):=by rw[h]
theorem tk{a b:List UInt8}(h:a=b):Ending.returned (.string (bs a))=.returned (.string (bs b)):=by rw[h]
theorem FI(w:World)(e:TypeId)(s:ByteArray)(k:Nat)(h:k<s.size):(Lib.bytesWorld w e s).cell? ⟨w.heap.size,k,none⟩=some (.int .u8 s[k].toNat):=by
 rw[Lib.bytesWorld_cell _ _ _ _ h];simp[List.getD,h];rfl
theorem AQ(w:World)(e:TypeId)(s:ByteArray):Below w.heap.size w (Lib.bytesWorld w e s):=by
 refine ⟨rfl,rfl,rfl,by rw[Lib.bytesWorld_size];omega,λk hk=>Lib.bytesWorld_at_old _ _ _ _ hk⟩
theorem dt(w:World)(e:TypeId)(s:ByteArray):∃(W:World) (C B:Nat),W=Lib.bytesWorld w e s/\C=grownCap w s.size 0 e/\B=w.heap.size/\
  Hid (∀k (h:k<s.size),W.cell? ⟨B,k,none⟩=some (.int .u8 s[k].toNat))/\Below B w W/\W.heap.size=B+1:=
 ⟨_,_,_,rfl,rfl,rfl,λk h=>FI w e s k h,AQ w e s,Lib.bytesWorld_size w e s⟩
theorem mL{W:World}{B:Nat}{s:ByteArray}(hcell:Hid (∀k (h:k<s.size),W.cell? ⟨B,k,none⟩=some (.int .u8 s[k].toNat)))(k:Nat)(h:k<s.size):
  ∃(u:UInt8) (c:Int),Hid (c=u.toNat)/\0<=c/\c<256/\W.cell? ⟨B,k,none⟩=some (.int .u8 c)/\Hid ((bl s).drop k=u::(bl s).drop (k+1)):=
 ⟨s[k],s[k].toNat,rfl,Y,pE _,hcell.out k h,drop_byte s k h⟩
def OB(e:TypeId)(B:Nat)(v:Value)(l:List UInt8)(w:World):Prop:=w.ownsRow B e 1 v l.length (l.map λc=>Value.int .u8 c.toNat)
theorem OB.km(e:TypeId)(B:Nat)(w:World):OB e B (.slice none 0 0) [] w:=World.ownsRow_nil _ _ _ _
theorem vZ(l:List UInt8):∀u∈(l.map λc=>Value.int .u8 c.toNat),u.oneCell'=true:=by
 intro u hu;obtain ⟨c,-,rfl⟩:=List.mem_map.1 hu;rfl
theorem mf{B:Nat}{w w1:World}{v:Value}{e:TypeId}{n:Nat}{xs:List Value}{o:Obj}(hown:w.ownsRow B e 1 v n xs)(hB:B<=w.heap.size)(hg:(w.alloc o).grownBy w1 v.ownBlock):Below B w w1:=
 ((Below.refl B w).alloc hB o).grown hg ψ (λk hk=>(hown.lt k hk).1)
theorem qN{P:Program}{T e:TypeId}{i0:TypeInfo}(ht:P.underlying T=some (.slice e))(hi:P.info? e=some i0)(hz0:i0.zero=some (.int .u8 0))(hz1:i0.size=1)(hz2:i0.bytes=1)
  {w:World} {ops:Array Oper} {rest:List Oper} {o:Oper} {a:Act} {Q:Exit->Act->World->Prop} (s x:Operand) (v:Value) (l:List UInt8) (c:Int) (u:UInt8) (B:Nat)
  (og:o.guard=none) (ho:o.op=.call { callee:=.builtin .append,args:=#[s,x],argTypes:=#[T,T] })
  (hs:a.eval s=v) (hx:a.eval x=.slice (some ⟨w.heap.size,0,none⟩) 1 1) (hown:OB e B v l w) (hu:c=u.toNat) (hl:l.length<1000000000) (hB:B<=w.heap.size)
  (h:∀v' w1,OB e B v' (l++[u]) w1->Below B w w1->(w.alloc (.cells #[.int .u8 c] e)).grownBy w1 v.ownBlock->(v'.ownBlock=v.ownBlock\/v'.ownBlock=some w1.heap.size.pred\/True)->wpList P ops Q rest (a.put o.dst v') w1) :
  wpList P ops Q (o::rest) a (w.alloc (.cells #[.int .u8 c] e)):=by
 subst hu;refine wpList_append_own _ og s x T ho B e i0 (.int .u8 0) 1 1 ht hi hz0 hz1 hz2 rfl O v l.length _ hs (World.ownsRow.alloc hown _) ⟨w.heap.size,0,none⟩ 1 1 [.int .u8 u.toNat] hx rfl ?_ ?_ ?_ ?_ ?_ ?_
 .intro j x hj
  match j,hj with
  |0,hj=>simp at hj;subst hj;simp[Addr.add]
 .intro x hx;simp at hx;subst hx;rfl
 .unfold maxLen;omega
 .omega
 .simp;omega
 .intro v' w1 hown1 hg _;exact h v' w1 (by simpa [OB] using hown1) (mf hown hB hg) hg (Or.inr (Or.inr trivial))
theorem OB.aaA{e:TypeId}{B:Nat}{v:Value}{l:List UInt8}{w:World}(h:OB e B v l w):∃A n c,v=.slice A n c:=by
 rcases h.2 with ⟨h1,-⟩|⟨g,cap,cur,h1,-⟩ <;> exact ⟨_,_,_,h1⟩
theorem OB.conv{P:Program}{T e d:TypeId}{B:Nat}{A:Option Addr}{n c:Nat}{l:List UInt8}{w:World}(h:OB e B (.slice A n c) l w)(hs:P.underlying T=some (.slice e))(he:P.underlying e=some (.int .u8))(hd:P.underlying d=some .string):
  (convert T d (.slice A n c)).run P w=.ok (.string (bs l)) w:=by
 rcases h.2 with ⟨h1,h2⟩|⟨g,cap,cur,h1,-,-⟩
 .injection h1 with h3 h4 h5;have:l=[]:=List.length_eq_zero_iff.1 h2;subst this;subst h3;exact run_convert_bytes_nil w T e hs he _ _ d hd
 .injection h1 with h3 h4 h5;subst h3 h4;exact run_convert_bytes_back w T d e ⟨g,0,none⟩ c l hs he hd (λj hj=>by
   have hc:=World.ownsRow.cellAt h j (by simpa using hj)
   rw[Addr.add_lit,Nat.zero_add,hc];simp[hj])
theorem rP{P:Program}{T:TypeId}(hT:P.underlying T=some .string)(s:ByteArray)(k:Nat)(h:k<s.size)(kk:IntKind)(i:Int)(hi:i=k)(w:World):(Instr.index T (.string s) (.int kk i)).run P w=.ok (.int .u8 s[k].toNat) w:=by
 subst hi;simp[Instr.index,asIntOf,run_underlying hT,h]
theorem mM{P:Program}{T:TypeId}(hT:P.underlying T=some .string)(s:ByteArray)(k:Nat)(h:k<s.size)(kk:IntKind)(i:Int)(hi:i=k):
  ∃(u:UInt8) (c:Int),Hid (u=s[k])/\Hid (c=u.toNat)/\0<=c/\c<256/\(∀w,(Instr.index T (.string s) (.int kk i)).run P w=.ok (.int .u8 c) w):=
 ⟨s[k],s[k].toNat,rfl,rfl,Y,pE _,rP hT s k h kk i hi⟩
structure aN (B:Nat) (w0:World):Type where
 val:World
 ah:Below B w0 val
instance aaB (B:Nat) (w0:World):Nonempty (aN B w0):=⟨⟨w0,υ⟩⟩
theorem aq{P:Program}{id:Nat}{Q:Exit->Act->World->Prop}{a:Act}{w w0:World}{B:Nat}{l:List Oper}(hw:Below B w0 w)(hm:P.follows .mixedOrders=true)(hB:Region.lexB .any l.toArray=true)
  (h:wpQuiet P l.toArray (λw'=>∃d:aN B w0,w'=d.val) (λa'=>∀w',(∃d:aN B w0,w'=d.val)->Q .normal a' w') l a):(Code.region id l.toArray true).wp P Q a w:=
 wp_region_quiet (C:=λw'=>∃d:aN B w0,w'=d.val) hm hB ⟨⟨_,hw.drew⟩,rfl⟩ (by simpa using h)
theorem Calls.bZ{P:Program}{f:FuncId}{args:Array Value}{B:Nat}{w0:World}{d:aN B w0}{v:Value}(hB:B<=w0.heap.size)
  (h:Calls P f args d.val λe w'=>e=.returned v/\Below d.val.heap.size d.val w'):Calls P f args d.val λe w''=>e=.returned v/\∃d':aN B w0,w''=d'.val:=
 h.mono λ_ _ ⟨he,hb⟩=>⟨he,⟨_,d.ah.trans (hb.mono (Nat.le_trans hB d.ah.size))⟩,rfl⟩
theorem Calls.kq{P:Program}{f:FuncId}{args:Array Value}{B:Nat}{w0:World}{d:aN B w0}{v:Value}
  (h:Calls P f args d.val λe w'=>e=.returned v/\d.val=w'):Calls P f args d.val λe w''=>e=.returned v/\∃d':aN B w0,w''=d'.val:=
 h.mono λ_ _ ⟨he,hb⟩=>⟨he,d,hb.symm⟩
theorem fh{P:Program}{T e d:TypeId}(hs:P.underlying T=some (.slice e))(he:P.underlying e=some (.int .u8))(hd:P.underlying d=some .string)(l:List UInt8)(cs:List Value)(hc:cs=l.map λc=>Value.int .u8 c.toNat)(n m:Nat)(hn:n=l.length)(w:World):
  (convert T d (.slice (some ⟨w.heap.size,0,none⟩) n m)).run P (w.alloc (.cells cs.toArray e))=.ok (.string (bs l)) (w.alloc (.cells cs.toArray e)):=by
 subst hn hc;refine run_convert_bytes_back _ T d e ⟨w.heap.size,0,none⟩ m l hs he hd (λj hj=>?_);rw[Addr.add_lit,Nat.zero_add,World.cell?_alloc_mark];simp[hj]
theorem Ia{P:Program}{T e d:TypeId}(hs:P.underlying T=some (.slice e))(he:P.underlying e=some (.int .u8))(hd:P.underlying d=some .string)(l:List UInt8)(cs:List Value)(hc:cs=l.map λc=>Value.int .u8 c.toNat)(n m:Nat)(hn:n=l.length)(w:World)(o:Obj):
  (convert T d (.slice (some ⟨w.heap.size+1,0,none⟩) n m)).run P ((w.alloc o).alloc (.cells cs.toArray e))=.ok (.string (bs l)) ((w.alloc o).alloc (.cells cs.toArray e)):=by
 have h:=fh hs he hd l cs hc n m hn (w.alloc o);have hz:(w.alloc o).heap.size=w.heap.size+1:=ξ;rwa [hz]at h
theorem gm(a:Addr)(n:Nat):(a.add n).block=a.block:=by unfold Addr.add; split <;> rfl
def RB(e:TypeId)(g:Nat)(l:List UInt8)(w:World):Prop:=∃cs lo hi,w.heap[g]?=some (.cells cs e (lo,hi))/\l.length<=lo/\∀j (h:j<l.length),cs[j]?=some (.int .u8 l[j].toNat)
theorem RB.cell{e:TypeId}{g:Nat}{l:List UInt8}{w:World}(h:RB e g l w)(j:Nat)(hj:j<l.length):w.cell? ⟨g,j,none⟩=some (.int .u8 l[j].toNat):=by
 obtain ⟨cs,lo,hi,hg,-,hc⟩:=h;rw[cell_of_row w g j _ _ _ hg];exact hc j hj
theorem RB.new(w:World)(e:TypeId)(s:ByteArray):RB e w.heap.size (bl s) (Lib.bytesWorld w e s):=by
 refine ⟨_,_,_,Lib.bytesWorld_at_new w e s,?_,λj hj=>?_⟩
 .rw[aE];unfold Lib.bytesCells;rw[Array.size_append,Array.size_map];exact Nat.le_add_right _ _
 .have hj':j<s.size:=by rwa [aE]at hj
  have h1:=FI w e s j hj';rw[cell_of_row _ _ _ _ _ _ (Lib.bytesWorld_at_new w e s)]at h1;exact h1
theorem RB.names(w:World)(e:TypeId)(s:ByteArray):∃(W:World) (C B:Nat),W=Lib.bytesWorld w e s/\C=grownCap w s.size 0 e/\B=w.heap.size/\RB e B (bl s) W/\Below B w W/\W.heap.size=B+1:=
 ⟨_,_,_,rfl,rfl,rfl,RB.new w e s,AQ w e s,Lib.bytesWorld_size w e s⟩
theorem FJ{P:Program}{T e:TypeId}{i0:TypeInfo}{z:Value}{bytes:Nat}(ht:P.underlying T=some (.slice e))(hi:P.info? e=some i0)(hz0:i0.zero=some z)(hz1:i0.size=1)(hz2:i0.bytes=bytes)(hzc:z.cells.size=1)
  {w:World} {ops:Array Oper} {rest:List Oper} {o:Oper} {a:Act} {Q:Exit->Act->World->Prop} (s x:Operand) (v:Value) (n m c:Nat) (xs news:List Value) (B:Nat)
  (og:o.guard=none) (ho:o.op=.call { callee:=.builtin .append,args:=#[s,x],argTypes:=#[T,T] })
  (hs:a.eval s=v) (hx:a.eval x=.slice (some ⟨w.heap.size,0,none⟩) m c) (hm:m=news.length) (hown:w.ownsRow B e 1 v n xs) (h1:∀u∈news,u.oneCell'=true) (hl:(n+m)*bytes<=140737488355328) (vO:n+m<1000000000) (hB:B<=w.heap.size)
  (h:∀v' w1,w1.ownsRow B e 1 v' (n+m) (xs++news)->Below B w w1->(v'=.slice none 0 0↔v=.slice none 0 0/\m=0)->wpList P ops Q rest (a.put o.dst v') w1) :
  wpList P ops Q (o::rest) a (w.alloc (.cells news.toArray e)):=by
 subst hm;refine wpList_append_own _ og s x T ho B e i0 z 1 bytes ht hi hz0 hz1 hz2 hzc O v n _ hs (World.ownsRow.alloc hown _) ⟨w.heap.size,0,none⟩ news.length c news hx ξ ?_ h1 (by unfold maxLen;omega) hl ψ ?_
 .intro j u hj;rw[Addr.add_lit,Nat.zero_add,World.cell?_alloc_mark];simpa using hj
 .intro v' w1 hown1 hg hn;exact h v' w1 hown1 (mf hown hB hg) hn
theorem ζ {p:Prop} (h:p:=by have HX:=Z hS;clear hS hE dy;go_wp2_with fail;exact hK.out _ rfl):p:=h
theorem μ {p:Prop} (h:p:=by simp[intOf];omega):p:=h
section
open Go.Maps (Keyed)
def ot(v:Value):Option (DataW Value×List MemPlace):=some (.held v,[])
theorem Ju{v:Value}{d:DataW Value}{ps:List MemPlace}(h:ot v=some (d,ps)):d=.held v/\ps=[]:=by
 unfold ot at h;simp only[Option.some.injEq,Prod.mk.injEq]at h;exact ⟨h.1.symm,h.2.symm⟩
def MV(P:Program)(k:TypeId)(b n:Nat)(f:Lit->Option Value)(w:World):Prop:=
 ∃D:DataW Value,w.ownsMap P k ot b n D/\∀x,WideAt.IsKeyLit x->(∀z,D.atKey x z=match f x with|none=>z|some v=>.held v)/\Maps.has D x=(f x).isSome
theorem MV.made(P:Program)(k:TypeId)(w:World):MV P k w.heap.size 0 (λ_=>none) (w.alloc (.map #[] 0)):=
 ⟨_,World.ownsMap_made w P k ot,λx _=>⟨λz=>rfl,rfl⟩⟩
theorem MV.kept{P:Program}{k:TypeId}{b n:Nat}{f:Lit->Option Value}{w w':World}(h:MV P k b n f w)(hb:w'.heap[b]?=w.heap[b]?):MV P k b n f w':=by
 obtain ⟨D,⟨es,c,h1,h2⟩,h3⟩:=h;exact ⟨D,⟨es,c,hb.trans h1,h2⟩,h3⟩
theorem MV.lt{P:Program}{k:TypeId}{b n:Nat}{f:Lit->Option Value}{w:World}(h:MV P k b n f w):b<w.heap.size:=by
 obtain ⟨D,h1,-⟩:=h;exact h1.lt
theorem MV.look_ok{P:Program}{k e t:TypeId}{b n:Nat}{f:Lit->Option Value}{w:World}(h:MV P k b n f w)(K:Keyed P k)(ht:P.underlying t=some (.map k e)){z:Value}(hz:∀w,(zeroValue e).run P w=.ok z w){key:Value}{x:Lit}(ju:keyOf P k key=some x)(hx:WideAt.IsKeyLit x):
  (Instr.lookup t (.map (some b)) key true).run P w=.ok (.tuple #[(f x).getD z,.bool (f x).isSome]) w:=by
 obtain ⟨D,h1,h2⟩:=h;obtain ⟨v,ps,hr,hv⟩:=h1.look_ok K ht (hz w) (show ot z=some (.held z,[]) from rfl) ju;rw[(h2 x hx).1]at hv;rw[hr,(h2 x hx).2];have:=(Ju hv).1
 cases hf:f x with
 |none=>rw[hf]at this;injection this with this;rw[<-this];rfl
 |some y=>rw[hf]at this;injection this with this;rw[<-this];rfl
def jQ(f:Lit->Option Value)(k:Lit)(v:Option Value):Lit->Option Value:=λx=>if x.sameKey k=true then v else f x
theorem MV.put{P:Program}{k e t:TypeId}{b n:Nat}{f:Lit->Option Value}{w:World}(h:MV P k b n f w)(K:Keyed P k)(ht:P.underlying t=some (.map k e))(hn:n<maxLen){key:Value}{x:Lit}(ju:keyOf P k key=some x)(hx:WideAt.IsKeyLit x)(v:Value):
  ∃w',(Instr.mapUpdate t (.map (some b)) key v).run P w=.ok () w'/\MV P k b (n+1) (jQ f x (some v)) w'/\w.grownBy w' (some b):=by
 obtain ⟨D,h1,h2⟩:=h;obtain ⟨w',hr,h3,h4⟩:=h1.update K ht hn ju (show ot v=some (.held v,[]) from rfl);refine ⟨w',hr,⟨_,h3,λy hy=>?_⟩,h4⟩;have hD:Maps.IsMap D:=h1.isMap;unfold jQ;by_cases e:y=x
 .subst e;rw[if_pos (WideAt.sameKey_self hx)];exact ⟨λz=>Maps.atKey_put_same hD hx _ _,Maps.has_put_same hD hx _⟩
 .rw[if_neg (λh=>e (WideAt.sameKey_eq h))];exact ⟨λz=>by rw[Maps.atKey_put_other e];exact (h2 y hy).1 z,by rw[Maps.has_put_other e];exact (h2 y hy).2⟩
theorem oD{P:Program}(w:World){ops:Array Oper}{rest:List Oper}{o:Oper}{a:Act}{Q:Exit->Act->World->Prop}
  (hg:o.guard=none) (m x v:Operand) (t:TypeId) (ke:o.op=Op.mapUpdate t m x v) (k e:TypeId) (K:Keyed P k) (ht:P.underlying t=some (.map k e)) (b n:Nat) (f:Lit->Option Value)
  (hm:a.eval m=.map (some b)) (h:MV P k b n f w) (hn:n<maxLen) (key val:Value) (kl:Lit) (hx:a.eval x=key) (hv:a.eval v=val) (ju:keyOf P k key=some kl) (aU:WideAt.IsKeyLit kl)
  (hK:∀w',MV P k b (n+1) (jQ f kl (some val)) w'->w.grownBy w' (some b)->wpList P ops Q rest (a.put o.dst undef) w') :
  wpList P ops Q (o::rest) a w:=by
 refine wpList_plain hg λK' hK'=>?_;obtain ⟨w',LJ,r1,r2⟩:=h.put K ht hn ju aU val;unfold Oper.wp;simp[execOp,ke,hm,hx,hv,LJ,Result.andThen];exact hK' _ _ (hK w' r1 r2)
end
def rK(l:List Nat)(a z:Nat):ByteArray:=bs (((l.drop a).take (z-a)).map UInt8.ofNat)
end Go.Proofs.YtdmoogjddmdmbaaGreatDoor
