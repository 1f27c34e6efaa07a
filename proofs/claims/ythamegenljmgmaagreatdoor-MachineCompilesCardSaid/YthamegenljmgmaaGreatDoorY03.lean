/- Walks. -/
import Derived.WalkKit
import Derived.WalkSpells
import Derived.WalkLawsBesides
import Derived.Lib.Hide
import Derived.Lib.ConvBytes
import Derived.BigQuiet
import Derived.Test.YthamegenljmgmaaGreatDoorY02
import Derived.Maps.Own
import Derived.Maps.OwnOps
import Derived.Maps.OwnSet
import Derived.Maps.Views
set_option maxRecDepth 100000
set_option maxHeartbeats 16000000
set_option linter.unusedVariables false
set_option linter.unusedSimpArgs false
namespace Go.Proofs.YthamegenljmgmaaGreatDoor
open Go.RowKit
theorem aP{k:IntKind}{a b:Int}(h:a=b):Ending.returned (.int k a)=.returned (.int k b):=by rw[h]
theorem aw{a b:Bool}(h:a=b):Ending.returned (.bool a)=.returned (.bool b):=by rw[h]
theorem KN(w:World)(e:TypeId)(s:ByteArray):Below w w (Lib.bytesWorld w e s):=by
 refine ⟨rfl,rfl,rfl,by rw[Lib.bytesWorld_size];omega,λk hk=>Lib.bytesWorld_at_old _ _ _ _ hk⟩
def OB(e:TypeId)(B:Nat)(v:Value)(l:List UInt8)(w:World):Prop:=w.ownsRow B e 1 v l.length (l.map λc=>Value.int .u8 c.toNat)
theorem OB.iG(e:TypeId)(B:Nat)(w:World):OB e B () [] w:=World.ownsRow_nil _ _ _ _
theorem wY(l:List UInt8):∀u∈(l.map λc=>Value.int .u8 c.toNat),u.oneCell'=true:=by
 intro u hu;obtain ⟨c,-,rfl⟩:=List.mem_map.1 hu;rfl
theorem uE{B:Nat}{w w1:World}{v:Value}{e:TypeId}{n:Nat}{xs:List Value}{o:Obj}(ao:w.ownsRow B e 1 v n xs)(hB:B<=w)(hg:(w.alloc o).grownBy w1 v.ownBlock):Below B w w1:=
 ((Below.refl B w).alloc hB o).grown hg ψ (λk hk=>(ao.lt k hk).1)
theorem OB.KO{e:TypeId}{B:Nat}{v:Value}{l:List UInt8}{w:World}(h:OB e B v l w):∃A n c,v=.slice A n c:=by
 rcases h.2 with ⟨h1,-⟩|⟨g,cap,cur,h1,-⟩ <;> exact ⟨_,_,_,h1⟩
theorem OB.conv{P:Program}{T e d:TypeId}{B:Nat}{A:Option Addr}{n c:Nat}{l:List UInt8}{w:World}(h:OB e B (.slice A n c) l w)(hs:P.underlying T=some (.slice e))(he:P.underlying e=some (.int .u8))(hd:P.underlying d=some .string):
  (convert T d (.slice A n c)).run P w=.ok (.string (bs l)) w:=by
 rcases h.2 with ⟨h1,h2⟩|⟨g,cap,cur,h1,-,-⟩
 .injection h1 with h3 h4 h5;have:l=[]:=List.length_eq_zero_iff.1 h2;subst this;subst h3;exact run_convert_bytes_nil w T e hs he _ _ d hd
 .injection h1 with h3 h4 h5;subst h3 h4;exact run_convert_bytes_back w T d e (Z g 0) c l hs he hd (λj hj=>by
   have hc:=World.ownsRow.cellAt h j (by simpa using hj)
   rw[Addr.add_lit,Nat.zero_add,hc];simp[hj])
structure bc (B:Nat) (w0:World):Type where
 b8:World
 ag:Below B w0 b8
instance Zz (B:Nat) (w0:World):Nonempty (bc B w0):=⟨⟨w0,D⟩⟩
theorem aI{P:Program}{id:Nat}{Q:Exit->Act->World->Prop}{a:Act}{w w0:World}{B:Nat}{l:List Oper}(hw:Below B w0 w)(hm:P.follows .mixedOrders=true)(hB:Region.lexB .any l.toArray=true)
  (h:wpQuiet P l.toArray (λw'=>∃d:bc B w0,w'=d.b8) (λa'=>∀w',(∃d:bc B w0,w'=d.b8)->Q .normal a' w') l a):(Code.region id l.toArray true).wp P Q a w:=
 wp_region_quiet (C:=λw'=>∃d:bc B w0,w'=d.b8) hm hB ⟨⟨_,hw.drew⟩,rfl⟩ (by simpa using h)
theorem Calls.lA{P:Program}{f:FuncId}{args:Array Value}{B:Nat}{w0:World}{d:bc B w0}{v:Value}(hB:B<=w0)
  (h:Calls P f args d.b8 λe w'=>e=.returned v/\Below d.b8.heap.size d.b8 w'):Calls P f args d.b8 λe gX=>e=.returned v/\∃d':bc B w0,gX=d'.b8:=
 h.mono λ_ _ ⟨he,hb⟩=>⟨he,⟨_,d.ag.t (hb.mono (Nat.le_trans hB d.ag.size))⟩,rfl⟩
theorem fX(a:Addr)(n:Nat):(a.add n).block=a.block:=by unfold Addr.add; split <;> rfl
def RB(e:TypeId)(g:Nat)(l:List UInt8)(w:World):Prop:=∃cs lo hi,w.heap[g]?=some (.cells cs e (lo,hi))/\l.length<=lo/\∀j (h:j<l.length),cs[j]?=some (.int .u8 l[j].toNat)
theorem FO{P:Program}{T e:TypeId}{i0:TypeInfo}{z:Value}{bytes:Nat}(ht:P.underlying T=some (.slice e))(hi:P.info? e=some i0)(dY:i0.zero=some z)(dh:i0.size=1)(cT:i0.bytes=bytes)(hzc:z.cells.size=1)
  {w:World} {ops:Array Oper} {rest:List Oper} {o:Oper} {a:Act} {Q:Exit->Act->World->Prop} (s x:Operand) (v:Value) (n m c:Nat) (xs news:List Value) (B:Nat)
  (tE:o.guard=none) (ho:o.op=.call { callee:=.builtin .append,args:=#[s,x],argTypes:=#[T,T] })
  (hs:a.eval s=v) (hx:a.eval x=.slice (Z w 0) m c) (hm:m=news.length) (ao:w.ownsRow B e 1 v n xs) (h1:∀u∈news,u.oneCell'=true) (hl:(n+m)*bytes<=140737488355328) (wI:n+m<1000000000) (hB:B<=w)
  (h:∀v' w1,w1.ownsRow B e 1 v' (n+m) (xs++news)->Below B w w1->(v'=.slice none 0 0↔v=.slice none 0 0/\m=0)->wpList P ops Q rest (a.put o.dst v') w1) :
  wpList P ops Q (o::rest) a (w.alloc (.cells news.toArray e)):=by
 subst hm;refine wpList_append_own _ tE s x T ho B e i0 z 1 bytes ht hi dY dh cT hzc O v n _ hs (World.ownsRow.alloc ao _) (Z w 0) news.length c news hx H ?_ h1 (by unfold maxLen;omega) hl ψ ?_
 .intro j u hj;rw[Addr.add_lit,Nat.zero_add,World.cell?_alloc_mark];simpa using hj
 .intro v' w1 ai hg hn;exact h v' w1 ai (uE ao hB hg) hn
theorem ζ {p:Prop} (h:p:=by have HX:=Y hS;clear hS hE bX;go_wp2_with fail;exact hK.out _ rfl):p:=h
theorem μ {p:Prop} (h:p:=by simp[intOf];omega):p:=h
section
open Go.Maps (Keyed)
def pJ(v:Value):Option (DataW Value×List MemPlace):=some (.held v,[])
theorem IH{v:Value}{d:DataW Value}{ps:List MemPlace}(h:pJ v=some (d,ps)):d=.held v/\ps=[]:=by
 unfold pJ at h;simp only[Option.some.injEq,Prod.mk.injEq]at h;exact ⟨h.1.symm,h.2.symm⟩
def MV(P:Program)(k:TypeId)(b n:Nat)(f:Lit->Option Value)(w:World):Prop:=
 ∃awP:DataW Value,w.ownsMap P k pJ b n awP/\∀x,WideAt.IsKeyLit x->(∀z,awP.atKey x z=match f x with|none=>z|some v=>.held v)/\Maps.has awP x=(f x).isSome
theorem MV.made(P:Program)(k:TypeId)(w:World):MV P k w 0 (λ_=>none) (w.alloc (.map #[] 0)):=
 ⟨_,World.ownsMap_made w P k pJ,λx _=>⟨λz=>rfl,rfl⟩⟩
theorem MV.iJ{P:Program}{k:TypeId}{b n:Nat}{f:Lit->Option Value}{w w':World}(h:MV P k b n f w)(hb:w'.heap[b]?=w.heap[b]?):MV P k b n f w':=by
 obtain ⟨awP,⟨es,c,h1,h2⟩,h3⟩:=h;exact ⟨awP,⟨es,c,hb.t h1,h2⟩,h3⟩
theorem MV.lt{P:Program}{k:TypeId}{b n:Nat}{f:Lit->Option Value}{w:World}(h:MV P k b n f w):b<w:=by
 obtain ⟨awP,h1,-⟩:=h;exact h1.lt
theorem MV.look_ok{P:Program}{k e t:TypeId}{b n:Nat}{f:Lit->Option Value}{w:World}(h:MV P k b n f w)(K:Keyed P k)(ht:P.underlying t=some (.map k e)){z:Value}(hz:∀w,(zeroValue e).run P w=.ok z w){key:Value}{x:Lit}(jq:keyOf P k key=some x)(hx:WideAt.IsKeyLit x):
  (Instr.lookup t (.map (some b)) key true).run P w=.ok (.tuple #[(f x).getD z,.bool (f x).isSome]) w:=by
 obtain ⟨awP,h1,h2⟩:=h;obtain ⟨v,ps,hr,hv⟩:=h1.look_ok K ht (hz w) (show pJ z=some (.held z,[]) from rfl) jq;rw[(h2 x hx).1]at hv;rw[hr,(h2 x hx).2];have:=(IH hv).1
 cases hf:f x with
 |none=>rw[hf]at this;injection this with this;rw[<-this];rfl
 |some y=>rw[hf]at this;injection this with this;rw[<-this];rfl
def je(f:Lit->Option Value)(k:Lit)(v:Option Value):Lit->Option Value:=λx=>if x.sameKey k=true then v else f x
theorem MV.put{P:Program}{k e t:TypeId}{b n:Nat}{f:Lit->Option Value}{w:World}(h:MV P k b n f w)(K:Keyed P k)(ht:P.underlying t=some (.map k e))(hn:n<maxLen){key:Value}{x:Lit}(jq:keyOf P k key=some x)(hx:WideAt.IsKeyLit x)(v:Value):
  ∃w',(Instr.mapUpdate t (.map (some b)) key v).run P w=.ok () w'/\MV P k b (n+1) (je f x (some v)) w'/\w.grownBy w' (some b):=by
 obtain ⟨awP,h1,h2⟩:=h;obtain ⟨w',hr,h3,h4⟩:=h1.update K ht hn jq (show pJ v=some (.held v,[]) from rfl);refine ⟨w',hr,⟨_,h3,λy hy=>?_⟩,h4⟩;have hD:Maps.IsMap awP:=h1.isMap;unfold je;by_cases e:y=x
 .subst e;rw[if_pos (WideAt.sameKey_self hx)];exact ⟨λz=>Maps.atKey_put_same hD hx _ _,Maps.has_put_same hD hx _⟩
 .rw[if_neg (λh=>e (WideAt.sameKey_eq h))];exact ⟨λz=>by rw[Maps.atKey_put_other e];exact (h2 y hy).1 z,by rw[Maps.has_put_other e];exact (h2 y hy).2⟩
theorem pQ{P:Program}(w:World){ops:Array Oper}{rest:List Oper}{o:Oper}{a:Act}{Q:Exit->Act->World->Prop}
  (hg:o.guard=none) (m x v:Operand) (t:TypeId) (jE:o.op=Op.mapUpdate t m x v) (k e:TypeId) (K:Keyed P k) (ht:P.underlying t=some (.map k e)) (b n:Nat) (f:Lit->Option Value)
  (hm:a.eval m=.map (some b)) (h:MV P k b n f w) (hn:n<maxLen) (key b8:Value) (kl:Lit) (hx:a.eval x=key) (hv:a.eval v=b8) (jq:keyOf P k key=some kl) (aV:WideAt.IsKeyLit kl)
  (hK:∀w',MV P k b (n+1) (je f kl (some b8)) w'->w.grownBy w' (some b)->wpList P ops Q rest (a.put o.dst undef) w') :
  wpList P ops Q (o::rest) a w:=by
 refine wpList_plain hg λK' gz=>?_;obtain ⟨w',Lf,r1,r2⟩:=h.put K ht hn jq aV b8;unfold Oper.wp;simp[execOp,jE,hm,hx,hv,Lf,Result.andThen];exact gz _ _ (hK w' r1 r2)
end
end Go.Proofs.YthamegenljmgmaaGreatDoor
