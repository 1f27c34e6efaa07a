/- Small lemmas over any program that the walks of this seat share: strings read byte by byte, the row that a conversion to bytes makes, ends of walks. No conditions. · A map that a call owns, as a function from keys to values of any kind (over the kit's 'ownsMap', each element read as itself). · A part of a text, as a string. -/
import Derived.WalkKit
import Derived.WalkSpells
import Derived.WalkLawsBesides
import Derived.Lib.Hide
import Derived.Lib.ConvBytes
import Derived.BigQuiet
import Derived.Test.YtdmoogjddmdmbaaGreatDoorY01
import Derived.Maps.Own
import Derived.Maps.OwnOps
import Derived.Maps.OwnSet
import Derived.Maps.Views
namespace Go.Proofs.YtdmoogjddmdmbaaGreatDoor
set_option linter.unusedVariables false
set_option linter.unusedSimpArgs false
set_option maxRecDepth 100000
open Go.RowKit
theorem byte_lt (c:UInt8):(c.toNat:Int)<256:=by have:=c.toNat_lt;omega
theorem ret_int {k:IntKind} {a b:Int} (h:a=b):Ending.returned (.int k a) = .returned (.int k b):=by rw[h]
theorem ret_bool {a b:Bool} (h:a=b):Ending.returned (.bool a) = .returned (.bool b):=by rw[h]
theorem ret_str {a b:List UInt8} (h:a=b):Ending.returned (.string (bs a)) = .returned (.string (bs b)):=by rw[h]
theorem bw_cell (w:World) (e:TypeId) (s:ByteArray) (k:Nat) (h:k<s.size):(Lib.bytesWorld w e s).cell? ⟨w.heap.size,k,none⟩=some (.int .u8 s[k].toNat):=by
 rw[Lib.bytesWorld_cell _ _ _ _ h];simp[List.getD,h];rfl
theorem bw_below (w:World) (e:TypeId) (s:ByteArray):Below w.heap.size w (Lib.bytesWorld w e s):=by
 refine ⟨rfl,rfl,rfl,by rw[Lib.bytesWorld_size];omega,λk hk=>Lib.bytesWorld_at_old _ _ _ _ hk⟩
theorem conv_names (w:World) (e:TypeId) (s:ByteArray):∃(W:World) (C B:Nat),W=Lib.bytesWorld w e s/\C=grownCap w s.size 0 e/\B=w.heap.size/\
  Hid (∀k (h:k<s.size),W.cell? ⟨B,k,none⟩=some (.int .u8 s[k].toNat))/\Below B w W/\W.heap.size=B+1:=
 ⟨_,_,_,rfl,rfl,rfl,λk h=>bw_cell w e s k h,bw_below w e s,Lib.bytesWorld_size w e s⟩
theorem byte_of {W:World} {B:Nat} {s:ByteArray} (hcell:Hid (∀k (h:k<s.size),W.cell? ⟨B,k,none⟩=some (.int .u8 s[k].toNat))) (k:Nat) (h:k<s.size) :
  ∃(u:UInt8) (c:Int),Hid (c=u.toNat)/\0<=c/\c<256/\W.cell? ⟨B,k,none⟩=some (.int .u8 c)/\Hid ((bl s).drop k=u::(bl s).drop (k+1)):=
 ⟨s[k],s[k].toNat,rfl,by omega,byte_lt _,hcell.out k h,drop_byte s k h⟩
def OB (e:TypeId) (B:Nat) (v:Value) (l:List UInt8) (w:World):Prop:=w.ownsRow B e 1 v l.length (l.map λc=>Value.int .u8 c.toNat)
theorem OB.nil_ (e:TypeId) (B:Nat) (w:World):OB e B (.slice none 0 0) [] w:=World.ownsRow_nil _ _ _ _
theorem below_of_grown {B:Nat} {w w1:World} {v:Value} {e:TypeId} {n:Nat} {xs:List Value} {o:Obj} (hown:w.ownsRow B e 1 v n xs) (hB:B<=w.heap.size) (hg:(w.alloc o).grownBy w1 v.ownBlock):Below B w w1:=
 ((Below.refl B w).alloc hB o).grown hg (by simp;omega) (λk hk=>(hown.lt k hk).1)
theorem run_idx_str {P:Program} {T:TypeId} (hT:P.underlying T=some .string) (s:ByteArray) (k:Nat) (h:k<s.size) (kk:IntKind) (i:Int) (hi:i=k) (w:World):(Instr.index T (.string s) (.int kk i)).run P w = .ok (.int .u8 s[k].toNat) w:=by
 subst hi;simp[Instr.index,asIntOf,run_underlying hT,h]
theorem idx_str {P:Program} {T:TypeId} (hT:P.underlying T=some .string) (s:ByteArray) (k:Nat) (h:k<s.size) (kk:IntKind) (i:Int) (hi:i=k) :
  ∃(u:UInt8) (c:Int),Hid (u=s[k])/\Hid (c=u.toNat)/\0<=c/\c<256/\(∀w,(Instr.index T (.string s) (.int kk i)).run P w = .ok (.int .u8 c) w):=
 ⟨s[k],s[k].toNat,rfl,rfl,by omega,byte_lt _,run_idx_str hT s k h kk i hi⟩
structure BelT (B:Nat) (w0:World):Type where
 val:World
 property:Below B w0 val
instance instBelT (B:Nat) (w0:World):Nonempty (BelT B w0):=⟨⟨w0,Below.refl _ _⟩⟩
theorem wp_region_below {P:Program} {id:Nat} {Q:Exit->Act->World->Prop} {a:Act} {w w0:World} {B:Nat} {l:List Oper} (hw:Below B w0 w) (hm:P.follows .mixedOrders=true) (hB:Region.lexB .any l.toArray=true)
  (h:wpQuiet P l.toArray (λw'=>∃d:BelT B w0,w'=d.val) (λa'=>∀w',(∃d:BelT B w0,w'=d.val)->Q .normal a' w') l a):(Code.region id l.toArray true).wp P Q a w:=
 wp_region_quiet (C:=λw'=>∃d:BelT B w0,w'=d.val) hm hB ⟨⟨_,hw.drew⟩,rfl⟩ (by simpa using h)
theorem Calls.below_of {P:Program} {f:FuncId} {args:Array Value} {B:Nat} {w0:World} {d:BelT B w0} {v:Value} (hB:B<=w0.heap.size)
  (h:Calls P f args d.val λe w'=>e = .returned v/\Below d.val.heap.size d.val w'):Calls P f args d.val λe w''=>e = .returned v/\∃d':BelT B w0,w''=d'.val:=
 h.mono λ_ _ ⟨he,hb⟩=>⟨he,⟨_,d.property.trans (hb.mono (Nat.le_trans hB d.property.size))⟩,rfl⟩
theorem Reads_block (a:Addr) (n:Nat):(a.add n).block=a.block:=by unfold Addr.add; split <;> rfl
def RB (e:TypeId) (g:Nat) (l:List UInt8) (w:World):Prop:=∃cs lo hi,w.heap[g]?=some (.cells cs e (lo,hi))/\l.length<=lo/\∀j (h:j<l.length),cs[j]?=some (.int .u8 l[j].toNat)
theorem mask_nat (x:Int) (m:Nat) (hm:m<4611686018427387904):0<=bits .and .i64 x m/\bits .and .i64 x m<=m:=by
 have hle:(BitVec.ofInt 64 x &&& BitVec.ofInt 64 (m:Int)).toNat<=m:=by
  rw[BitVec.toNat_and];refine Nat.le_trans Nat.and_le_right ?_;rw[BitVec.toNat_ofInt];omega
 have e:bits .and .i64 x m=((BitVec.ofInt 64 x &&& BitVec.ofInt 64 (m:Int)).toNat:Int):=by
  unfold bits;show IntKind.i64.wrap (((BitVec.ofInt 64 x &&& BitVec.ofInt 64 (m:Int)).toNat:Nat):Int)=_;rw[IntWalk.i64_in _ (by omega)]
 rw[e];omega
theorem app_new {P:Program} {T e:TypeId} {i0:TypeInfo} {z:Value} {bytes:Nat} (ht:P.underlying T=some (.slice e)) (hi:P.info? e=some i0) (hz0:i0.zero=some z) (hz1:i0.size=1) (hz2:i0.bytes=bytes) (hzc:z.cells.size=1)
  {w:World} {ops:Array Oper} {rest:List Oper} {o:Oper} {a:Act} {Q:Exit->Act->World->Prop} (s x:Operand) (v:Value) (n m c:Nat) (xs news:List Value) (B:Nat)
  (hgd:o.guard=none) (ho:o.op = .call { callee:=.builtin .append,args:=#[s,x],argTypes:=#[T,T] })
  (hs:a.eval s=v) (hx:a.eval x = .slice (some ⟨w.heap.size,0,none⟩) m c) (hm:m=news.length) (hown:w.ownsRow B e 1 v n xs) (h1:∀u∈news,u.oneCell'=true) (hl:(n+m)*bytes<=140737488355328) (hl2:n+m<1000000000) (hB:B<=w.heap.size)
  (h:∀v' w1,w1.ownsRow B e 1 v' (n+m) (xs++news)->Below B w w1->(v' = .slice none 0 0↔v = .slice none 0 0/\m=0)->wpList P ops Q rest (a.put o.dst v') w1) :
  wpList P ops Q (o::rest) a (w.alloc (.cells news.toArray e)):=by
 subst hm;refine wpList_append_own _ hgd s x T ho B e i0 z 1 bytes ht hi hz0 hz1 hz2 hzc (by decide) v n _ hs (World.ownsRow.alloc hown _) ⟨w.heap.size,0,none⟩ news.length c news hx (by simp) ?_ h1 (by unfold maxLen;omega) hl (by simp;omega) ?_
 .intro j u hj;rw[Addr.add_lit,Nat.zero_add,World.cell?_alloc_mark];simpa using hj
 .intro v' w1 hown1 hg hn;exact h v' w1 hown1 (below_of_grown hown hB hg) hn
theorem pq1 {α : Type} (l : List α) (i : Nat) (a : α) : l.toArray.setIfInBounds i a = (l.set i a).toArray := by simp
theorem pq2 {α : Type} (l : List α) (a b : α) : (a :: l).set 0 b = b :: l := rfl
theorem pq3 {α : Type} (l : List α) (a b : α) (n : Nat) : (a :: l).set (n + 1) b = a :: l.set n b := rfl
theorem pq4 {α : Type} (l : List α) (a : α) (n : Nat) : (a :: l).take (n + 1) = a :: l.take n := rfl
theorem pq5 {α : Type} (l : List α) : l.take 0 = [] := rfl
end Go.Proofs.YtdmoogjddmdmbaaGreatDoor
namespace Go.Proofs.YtdmoogjddmdmbaaGreatDoor
set_option linter.unusedVariables false
set_option linter.unusedSimpArgs false
set_option maxRecDepth 100000
open Go.RowKit
open Go.Maps (Keyed)
def heldR (v:Value):Option (DataW Value×List MemPlace):=some (.held v,[])
theorem heldR_inv {v:Value} {d:DataW Value} {ps:List MemPlace} (h:heldR v=some (d,ps)):d = .held v/\ps=[]:=by
 unfold heldR at h;simp only[Option.some.injEq,Prod.mk.injEq]at h;exact ⟨h.1.symm,h.2.symm⟩
def MV (P:Program) (k:TypeId) (b n:Nat) (f:Lit->Option Value) (w:World):Prop:=
 ∃D:DataW Value,w.ownsMap P k heldR b n D/\∀x,WideAt.IsKeyLit x->(∀z,D.atKey x z=match f x with | none=>z | some v=>.held v)/\Maps.has D x=(f x).isSome
theorem MV.made (P:Program) (k:TypeId) (w:World):MV P k w.heap.size 0 (λ_=>none) (w.alloc (.map #[] 0)):=
 ⟨_,World.ownsMap_made w P k heldR,λx _=>⟨λz=>rfl,rfl⟩⟩
theorem MV.kept {P:Program} {k:TypeId} {b n:Nat} {f:Lit->Option Value} {w w':World} (h:MV P k b n f w) (hb:w'.heap[b]?=w.heap[b]?):MV P k b n f w':=by
 obtain ⟨D,⟨es,c,h1,h2⟩,h3⟩:=h;exact ⟨D,⟨es,c,hb.trans h1,h2⟩,h3⟩
theorem MV.lt {P:Program} {k:TypeId} {b n:Nat} {f:Lit->Option Value} {w:World} (h:MV P k b n f w):b<w.heap.size:=by
 obtain ⟨D,h1,-⟩:=h;exact h1.lt
theorem MV.look_ok {P:Program} {k e t:TypeId} {b n:Nat} {f:Lit->Option Value} {w:World} (h:MV P k b n f w) (K:Keyed P k) (ht:P.underlying t=some (.map k e)) {z:Value} (hz:∀w,(zeroValue e).run P w = .ok z w) {key:Value} {x:Lit} (hkey:keyOf P k key=some x) (hx:WideAt.IsKeyLit x) :
  (Instr.lookup t (.map (some b)) key true).run P w = .ok (.tuple #[(f x).getD z, .bool (f x).isSome]) w:=by
 obtain ⟨D,h1,h2⟩:=h;obtain ⟨v,ps,hr,hv⟩:=h1.look_ok K ht (hz w) (show heldR z=some (.held z,[]) from rfl) hkey;rw[(h2 x hx).1]at hv;rw[hr,(h2 x hx).2];have:=(heldR_inv hv).1
 cases hf:f x with
 | none=>rw[hf]at this;injection this with this;rw[<-this];rfl
 | some y=>rw[hf]at this;injection this with this;rw[<-this];rfl
def updV (f:Lit->Option Value) (k:Lit) (v:Option Value):Lit->Option Value:=λx=>if x.sameKey k=true then v else f x
theorem MV.put {P:Program} {k e t:TypeId} {b n:Nat} {f:Lit->Option Value} {w:World} (h:MV P k b n f w) (K:Keyed P k) (ht:P.underlying t=some (.map k e)) (hn:n<maxLen) {key:Value} {x:Lit} (hkey:keyOf P k key=some x) (hx:WideAt.IsKeyLit x) (v:Value) :
  ∃w',(Instr.mapUpdate t (.map (some b)) key v).run P w = .ok () w'/\MV P k b (n+1) (updV f x (some v)) w'/\w.grownBy w' (some b):=by
 obtain ⟨D,h1,h2⟩:=h;obtain ⟨w',hr,h3,h4⟩:=h1.update K ht hn hkey (show heldR v=some (.held v,[]) from rfl);refine ⟨w',hr,⟨_,h3,λy hy=>?_⟩,h4⟩;have hD:Maps.IsMap D:=h1.isMap;unfold updV;by_cases e:y=x
 .subst e;rw[if_pos (WideAt.sameKey_self hx)];exact ⟨λz=>Maps.atKey_put_same hD hx _ _,Maps.has_put_same hD hx _⟩
 .rw[if_neg (λh=>e (WideAt.sameKey_eq h))];exact ⟨λz=>by rw[Maps.atKey_put_other e];exact (h2 y hy).1 z,by rw[Maps.has_put_other e];exact (h2 y hy).2⟩
theorem wpList_put_MV {P:Program} (w:World) {ops:Array Oper} {rest:List Oper} {o:Oper} {a:Act} {Q:Exit->Act->World->Prop}
  (hg:o.guard=none) (m x v:Operand) (t:TypeId) (hop:o.op=Op.mapUpdate t m x v) (k e:TypeId) (K:Keyed P k) (ht:P.underlying t=some (.map k e)) (b n:Nat) (f:Lit->Option Value)
  (hm:a.eval m = .map (some b)) (h:MV P k b n f w) (hn:n<maxLen) (key val:Value) (kl:Lit) (hx:a.eval x=key) (hv:a.eval v=val) (hkey:keyOf P k key=some kl) (hkl:WideAt.IsKeyLit kl)
  (hK:∀w',MV P k b (n+1) (updV f kl (some val)) w'->w.grownBy w' (some b)->wpList P ops Q rest (a.put o.dst undef) w') :
  wpList P ops Q (o::rest) a w:=by
 refine wpList_plain hg λK' hK'=>?_;obtain ⟨w',hrun,r1,r2⟩:=h.put K ht hn hkey hkl val;unfold Oper.wp;simp[execOp,hop,hm,hx,hv,hrun,Result.andThen];exact hK' _ _ (hK w' r1 r2)
end Go.Proofs.YtdmoogjddmdmbaaGreatDoor
namespace Go.Proofs.YtdmoogjddmdmbaaGreatDoor
set_option linter.unusedVariables false
set_option linter.unusedSimpArgs false
set_option maxRecDepth 100000
open Go.RowKit
def partS (l:List Nat) (a z:Nat):ByteArray:=bs (((l.drop a).take (z-a)).map UInt8.ofNat)
end Go.Proofs.YtdmoogjddmdmbaaGreatDoor
