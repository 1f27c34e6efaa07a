/- Walks. -/
import Derived.Shelf.Strings.Builder1
import Derived.Lib.FrozenHead
import Derived.Test.YtdmoogjddmdmbaaGreatDoorProg
import Derived.Test.YtdmoogjddmdmbaaGreatDoorV02
import Derived.Test.YtdmoogjddmdmbaaGreatDoorV04
import Derived.Lib.AppendStr
import Derived.Test.YtdmoogjddmdmbaaGreatDoorV01
set_option maxRecDepth 100000
set_option maxHeartbeats 16000000
set_option linter.unusedVariables false
set_option linter.unusedSimpArgs false
namespace Go.Proofs.YtdmoogjddmdmbaaGreatDoor
open Go.RowKit
section
set_option linter.unusedVariables false
set_option linter.unusedSimpArgs false
open Go.Shelf
def rO:Go.Shelf.Ren:=⟨fun| 169=>166 | n=>n,fun| 70=>203 | 9=>9 | 0=>0 | 72=>205 | 37=>28 | 127=>222 | 3=>3 | 5=>5 | n=>n,fun| n=>n⟩
theorem Gp:Go.Proofs.Lays.n169 Tryz.prog rO:={
 mixed:=by kernel_rfl
 f169:=Tryz.func166.trans (congrArg some (by kernel_rfl))
 t0:=Tryz.underlying0
 a0:=Tryz.isAgg0
 z0:=Tryz.sizeOf0
 v0:=Tryz.zeroValue0
 t3:=Tryz.underlying3
 a3:=Tryz.isAgg3
 z3:=Tryz.sizeOf3
 v3:=Tryz.zeroValue3
 t9:=Tryz.underlying9
 a9:=Tryz.isAgg9
 z9:=Tryz.sizeOf9
 v9:=Tryz.zeroValue9
 t37:=Tryz.underlying28
 a37:=Tryz.isAgg28
 z37:=Tryz.sizeOf28
 v37:=Tryz.zeroValue28
 t70:=Tryz.underlying203
 a70:=Tryz.isAgg203
 z70:=Tryz.sizeOf203
 v70:=Tryz.zeroValue203
 t72:=Tryz.underlying205
 a72:=Tryz.isAgg205
 z72:=Tryz.sizeOf205
 v72:=Tryz.zeroValue205
 t127:=Tryz.underlying222
 a127:=Tryz.isAgg222
 z127:=Tryz.sizeOf222
 v127:=Tryz.zeroValue222 }
theorem jr:Builder.Extra Tryz.prog rO:={
 sizeBuilder:=by kernel_rfl
 liesBuilder:=by kernel_rfl
 t5:=Tryz.underlying5
 a5:=Tryz.isAgg5
 z5:=Tryz.sizeOf5
 v5:=Tryz.zeroValue5
 infoByte:=by kernel_rfl
 cellsByte:=by kernel_rfl
 sizeByte:=by kernel_rfl
 neB5:=by decide }
open Go.RowKit in
theorem tT (B b:Nat) (l:List UInt8) (w:World) (h:Lib.IsBuilder 205 5 B b (Lib.byteCells l) w) (pB:B<=w.heap.size) :
  Calls Tryz.prog 166 #[.pointer (some ⟨b,0,none⟩)] w λe w'=>e = .returned (.string (bs l))/\Below B w w':=Any.Builder_String_any Gp jr B b l w h pB
open Go.RowKit
theorem pR:∃j,Tryz.prog.info? 205=some j/\j.size=2:=by
 have h:(Tryz.prog.info? 205).map (·.size)=some 2:=by kernel_rfl
 obtain ⟨j,h1,h2⟩:=Option.map_eq_some_iff.1 h;exact ⟨j,h1,h2⟩
theorem yX:liesAt Tryz.prog Tryz.prog.depth 205 (2 / Tryz.prog.cellsOf 205) 0 205 1=true:=by kernel_rfl
theorem IP (b:Nat) (w:World) (h0:w.cell? ⟨b,0,none⟩=some (.pointer (some ⟨b,0,none⟩))) :
  Calls Tryz.prog 189 #[.pointer (some ⟨b,0,none⟩)] w λe w'=>e = .returned (.tuple #[])/\w=w':=by
 obtain ⟨j,hj,-⟩:=pR
 go_enter Tryz.func189,Tryz.ntmps189
 go_wp2
 rw[Lib.run_neq_ptr_same w _ Tryz.underlying203 hj]
 go_wp2
 go_end0
 exact ⟨rfl,rfl⟩
theorem Et (b:Nat) (w:World) (h0:w.cell? ⟨b,0,none⟩=some (.pointer none)) (Gq:w.shape? b=some (205,2)) (wA:w.frozen? ⟨b,0,none⟩=false) :
  Calls Tryz.prog 189 #[.pointer (some ⟨b,0,none⟩)] w λe w'=>e = .returned (.tuple #[])/\w'=w.setCell ⟨b,0,none⟩ (.pointer (some ⟨b,0,none⟩)):=by
 obtain ⟨j,hj,hjs⟩:=pR
 go_enter Tryz.func189,Tryz.ntmps189
 go_wp2
 rw[Lib.run_to_unsafe w ⟨b,0,none⟩ Tryz.underlying203 Tryz.underlying231 hj (by rw[hjs];decide) Gq (Nat.zero_lt_succ 1)]
 simp only[Result.andThen];rw[Oper.upon_value]
 go_wp2
 rw[run_callFunc_extern Tryz.func203 (by kernel_rfl) (by kernel_rfl) (by kernel_rfl) (e:=Extern.AbiNoEscape.same) (by kernel_rfl)]
 rw[Lib.run_noEscape];simp only[Result.andThen];rw[Oper.upon_value]
 go_wp2
 rw[Lib.run_from_unsafe w ⟨b,0,none⟩ Tryz.underlying231 Tryz.underlying203 hj Gq yX];simp only[Result.andThen];rw[Oper.upon_value]
 go_wp2
 go_end0
 exact ⟨rfl,rfl⟩
theorem BO (B b:Nat) (bs:List Value) (w:World) (h:Lib.IsBuilder 205 5 B b bs w) :
  Calls Tryz.prog 189 #[.pointer (some ⟨b,0,none⟩)] w λe w'=>e = .returned (.tuple #[])/\Lib.BuilderAt 205 5 B b (.pointer (some ⟨b,0,none⟩)) bs w'/\Below B w w':=by
 rcases h with h | h
 .refine (Et b w h.cell0 h.shape h.frozen0).mono ?_;rintro e w' ⟨rfl,rfl⟩;exact ⟨rfl,h.used _,(Below.refl B w).setCell (p:=⟨b,0,none⟩) h.1 _⟩
 .refine (IP b w h.cell0).mono ?_;rintro e w' ⟨rfl,rfl⟩;exact ⟨rfl,h,Below.refl B _⟩
def Eu (b:Nat) (l:List UInt8) (w:World):Prop:=Lib.IsBuilder 205 5 b b (Lib.byteCells l) w/\b<=w.heap.size
set_option maxHeartbeats 1000000 in
set_option maxRecDepth 100000 in
theorem yY (b:Nat) (l:List UInt8) (c:Int) (u:UInt8) (hu:c=u.toNat) (w:World) (h:Eu b l w) (hlen:l.length<=1000000000) :
  Calls Tryz.prog 182 #[.pointer (some ⟨b,0,none⟩), .int .u8 c] w λe w'=>e = .returned .nilIface/\Eu b (l++[u]) w'/\Below b w w':=by
 obtain ⟨i0,hi,hz0,hz1,hz2⟩:=info_parts ij;obtain ⟨h,pB⟩:=h;have oc:(Lib.byteCells l).length=l.length:=Lib.byteCells_length l;have Hbl:=Lib.hid oc;clear oc;have hx:=Lib.hid (show Lib.byteCells l++[Value.int .u8 c]=Lib.byteCells (l++[u]) by subst hu;simp[Lib.byteCells])
 clear hu
 go_enter Tryz.func182,Tryz.ntmps182
 go_wp2_with (go_at_call 189;refine (BO b b _ _ h).mono ?_);rintro e w1 ⟨rfl,h1,hb1⟩;obtain ⟨hB,v,vW,hown,hne⟩:=h1;have c0:w1.cell? ⟨b,0,none⟩=some (.pointer (some ⟨b,0,none⟩)):=by rw[Lib.cell_of_heap vW];rfl
 have c1:w1.cell? ⟨b,1,none⟩=some v:=by rw[Lib.cell_of_heap vW];rfl
 go_wp2_with (at_builtin;refine wpList_append_own _ rfl _ _ 28 rfl b 5 i0 (.int .u8 0) 1 1 Tryz.underlying28 hi hz0 hz1 hz2 rfl (by decide) _ _ _ rfl (hown.alloc _) ⟨w1.heap.size,0,none⟩ 1 1 [.int .u8 c] rfl rfl ?c1 ?c2 ?c3 ?c4 ?c5 ?_)
 case c1=>
  intro j x hj
  match j,hj with
  | 0,hj=>simp at hj;subst hj;simp[Addr.add]
 case c2=>intro x hx;simp at hx;subst hx;rfl
 case c3=>have:=Hbl.out;unfold maxLen;omega
 case c4=>have:=Hbl.out;omega
 case c5=>exact Nat.le_trans (Nat.le_trans pB hb1.size) ((Below.refl 0 w1).alloc (Nat.zero_le _) _).size
 intro v' w2 BP hgrow _;have hlt:b<w1.heap.size:=by
  rcases Nat.lt_or_ge b w1.heap.size with h' | h'
  .exact h'
  .simp[Array.getElem?_eq_none h']at vW
 have aL:w2.heap[b]?=some (.cells #[.pointer (some ⟨b,0,none⟩),v] 205 (0,0)):=by
  rw[hgrow.block b (by simp;omega) (λe=>hne e.symm),Lib.alloc_old w1 _ b hlt]
  exact vW
 have d0:w2.cell? ⟨b,0,none⟩=some (.pointer (some ⟨b,0,none⟩)):=by rw[Lib.cell_of_heap aL];rfl
 have d1:w2.cell? ⟨b,1,none⟩=some v:=by rw[Lib.cell_of_heap aL];rfl
 have f1:w2.frozen? ⟨b,1,none⟩=false:=Lib.frozen_of_heap aL 1;obtain ⟨g,cap,rfl⟩:∃g cap,v' = .slice (some ⟨g,0,none⟩) ((Lib.byteCells l).length+1) cap:=by
  rcases BP.2 with ⟨_,h0⟩ | ⟨g,cap,cur,hv,_⟩
  .omega
  .exact ⟨g,cap,hv⟩
 go_wp2
 go_ret;have hbelow:Below b w (w2.setCell ⟨b,1,none⟩ (.slice (some ⟨g,0,none⟩) ((Lib.byteCells l).length+1) cap)):=
  ((hb1.alloc (by have:=hb1.size;omega) _).grown hgrow (by have:=hb1.size;simp;omega) (λk hk=>(hown.lt k hk).1)).setCell (p:=⟨b,1,none⟩) hB _
 refine ⟨rfl,⟨Or.inr ?_,Nat.le_trans pB hbelow.size⟩,hbelow⟩;exact Lib.BuilderAt.put (T:=205) (e:=5) hB aL (bs':=Lib.byteCells (l++[u])) (by rw[<-hx.out,List.length_append];exact BP) (by decide)
end
section
set_option linter.unusedVariables false
set_option linter.unusedSimpArgs false
open Go.RowKit
theorem my (b:Nat) (l:List UInt8) (s:ByteArray) (w:World) (h:Eu b l w) (hlen:l.length<=1000000000) (hs:s.size<=1000000) :
  Calls Tryz.prog 164 #[.pointer (some ⟨b,0,none⟩), .string s] w λe w'=>e = .returned (.tuple #[.int .i64 s.size, .nilIface])/\Eu b (l++bl s) w'/\Below b w w':=by
 obtain ⟨i0,hi,hz0,hz1,hz2⟩:=info_parts ij;obtain ⟨h,pB⟩:=h
 go_enter Tryz.func164,Tryz.ntmps164
 go_wp2_with (go_at_call 189;refine (BO b b _ _ h).mono ?_);rintro e w1 ⟨rfl,h1,hb1⟩;obtain ⟨hB,v,vW,hown,hne⟩:=h1;have c0:w1.cell? ⟨b,0,none⟩=some (.pointer (some ⟨b,0,none⟩)):=by rw[Lib.cell_of_heap vW];rfl
 have c1:w1.cell? ⟨b,1,none⟩=some v:=by rw[Lib.cell_of_heap vW];rfl
 have LX:(Lib.byteCells l).length=l.length:=Lib.byteCells_length l;have TG:=Lib.hid LX;clear LX;go_wp2_with (at_builtin;refine Lib.wpList_append_own_string _ rfl _ _ 28 9 rfl b 5 i0 Tryz.underlying28 Tryz.underlying9 hi hz0 hz1 hz2 _ _ _ rfl hown s rfl ?c1 ?c2 (Nat.le_trans pB hb1.size) ?_)
 case c1=>have:=TG.out;unfold maxLen;omega
 case c2=>have:=TG.out;omega
 intro v' w2 BP hgrow _;have hlt:b<w1.heap.size:=by
  rcases Nat.lt_or_ge b w1.heap.size with h' | h'
  .exact h'
  .simp[Array.getElem?_eq_none h']at vW
 have aL:w2.heap[b]?=some (.cells #[.pointer (some ⟨b,0,none⟩),v] 205 (0,0)):=by
  rw[hgrow.block b hlt (λe=>hne e.symm)];exact vW
 have d0:w2.cell? ⟨b,0,none⟩=some (.pointer (some ⟨b,0,none⟩)):=by rw[Lib.cell_of_heap aL];rfl
 have d1:w2.cell? ⟨b,1,none⟩=some v:=by rw[Lib.cell_of_heap aL];rfl
 have f1:w2.frozen? ⟨b,1,none⟩=false:=Lib.frozen_of_heap aL 1;obtain ⟨A,n,cap,rfl⟩:∃A n cap,v' = .slice A n cap:=by
  rcases BP.2 with ⟨h0,_⟩ | ⟨g,cap,cur,hv,_⟩
  .exact ⟨_,_,_,h0⟩
  .exact ⟨_,_,_,hv⟩
 go_wp2
 go_ret2
 have hbelow:Below b w (w2.setCell ⟨b,1,none⟩ (.slice A n cap)):=
  (hb1.grown hgrow (Nat.le_trans pB hb1.size) (λk hk=>(hown.lt k hk).1)).setCell (p:=⟨b,1,none⟩) hB _
 refine ⟨rfl,⟨Or.inr ?_,Nat.le_trans pB hbelow.size⟩,hbelow⟩;have hx:Lib.byteCells l++Lib.strCells s=Lib.byteCells (l++bl s):=by simp[Lib.byteCells,Lib.strCells,bl]
 exact Lib.BuilderAt.put (T:=205) (e:=5) hB aL (bs':=Lib.byteCells (l++bl s)) (by rw[<-hx,List.length_append,show (Lib.strCells s).length=s.size by simp[Lib.strCells]];exact BP) (by decide)
end
section
set_option linter.unusedVariables false
set_option linter.unusedSimpArgs false
open Go.RowKit
theorem fT (c:Int) (w:World) :
  Calls Tryz.prog 178 #[.int .u8 c] w λe w'=>e = .returned (.bool (qM c))/\w=w':=by
 by_cases h:48<=c
 all_goals
  go_enter Tryz.func178,Tryz.ntmps178
  go_wp2
  go_ret;exact ⟨aj (by unfold qM;first | (simp[h];done) | (rw[decide_eq_false (by omega)];rfl)),rfl⟩
theorem BV (c:Int) (w:World) :
  Calls Tryz.prog 199 #[.int .u8 c] w λe w'=>e = .returned (.bool (cap c))/\w=w':=by
 by_cases h:65<=c
 all_goals
  go_enter Tryz.func199,Tryz.ntmps199
  go_wp2
  go_ret;exact ⟨aj (by unfold cap;first | (simp[h];done) | (rw[decide_eq_false (by omega)];rfl)),rfl⟩
set_option maxHeartbeats 400000 in
theorem Ey (s:ByteArray) (w:World) (hs:s.size<=1000000) :
  Calls Tryz.prog 156 #[.string s] w λe w'=>e = .returned (.int .u8 (65+mh (bl s) 0 0))/\Below w.heap.size w w':=by
 have hcv:=λw=>Lib.run_convert_string_bytes (P:=Tryz.prog) w 9 28 5 s Tryz.underlying9 Tryz.underlying28 Tryz.underlying5;obtain ⟨W,C,B,hW,hC,hB,hcell,aI,-⟩:=dM w 5 s;have y9:=za (bl s) 0 0 (by omega) (by omega)
 go_enter Tryz.func156,Tryz.ntmps156
 go_wp2
 rw[<-hW,<-hC,<-hB];clear hcv hW hC;have pB:=Lib.hid hB;clear hB
 go_loop [3,4,5,9] (λn _ _ i=>∃(k:Nat) (N:Int),k<=s.size/\i = .int .i64 k/\n = .int .i64 N/\0<=N/\N<26/\mh ((bl s).drop k) k N=mh (bl s) 0 0) (λ_ _ _ i=>s.size - (intOf i).toNat)
 case atStart=>exact ⟨0,0,Nat.zero_le _,rfl,rfl,by omega,by omega,rfl⟩
 case round=>
  obtain ⟨k,N,hk,rfl,rfl,Me,AY,hrel⟩:=hrel;have HR:=Lib.hid hrel;clear hrel;by_cases hlt:k<s.size
  .obtain ⟨u,c,lQ,nP,tG,hc,hdr⟩:=mO hcell k hlt;have hp:=rP c k nP tG (by omega)
   go_wp2
   go_round
   case rel=>
    refine ⟨k+1,(N+c*((k+1) % 26)) % 26,by omega,by go_num,rfl,by omega,by omega,?_⟩
    rw[<-HR.out,hdr.out,lQ.out];rfl
   case measure=>simp[intOf];omega
  .obtain rfl:k=s.size:=by omega
   have hN:N=mh (bl s) 0 0:=by rw[<-HR.out,eG];rfl
   have HN:=Lib.hid hN;clear hN y9
   go_wp2
   go_ret;exact ⟨aH (by rw[HN.out]),pB.out▸aI⟩
theorem Ez (c:Int) (w:World) :
  Calls Tryz.prog 198 #[.int .u8 c] w λe w'=>e = .returned (.bool (Be c))/\w=w':=by
 by_cases h:qM c=true
 .go_enter Tryz.func198,Tryz.ntmps198
  go_wp2_with (go_at_call 178;refine (fT _ _).mono ?_;rintro e w' ⟨rfl,rfl⟩);go_ret;exact ⟨aj (by unfold Be;rw[h];rfl),rfl⟩
 .have h:qM c=false:=by simpa using h
  go_enter Tryz.func198,Tryz.ntmps198
  go_wp2_with (first | (go_at_call 178;refine (fT _ _).mono ?_;rintro e w' ⟨rfl,rfl⟩) | (go_at_call 199;refine (BV _ _).mono ?_;rintro e w' ⟨rfl,rfl⟩));go_ret;exact ⟨aj (by unfold Be;rw[h];rfl),rfl⟩
theorem pT (n:FuncId) (p:Int->Bool) (hn:n=178\/n=198)
  (IA:∀c w,Calls Tryz.prog n #[.int .u8 c] w λe w'=>e = .returned (.bool (p c))/\w=w') (s:ByteArray) (w:World) (hs:s.size<=1000000) :
  Calls Tryz.prog 177 #[.string s, .func (.func n) #[] #[]] w λe w'=>e = .returned (.bool (dU p (bl s)))/\Below w.heap.size w w':=by
 have hcv:=λw=>Lib.run_convert_string_bytes (P:=Tryz.prog) w 9 28 5 s Tryz.underlying9 Tryz.underlying28 Tryz.underlying5;obtain ⟨W,C,B,hW,hC,hB,hcell,aI,-⟩:=dM w 5 s;have HC:=Lib.hid IA;clear IA;rcases hn with rfl | rfl
 all_goals
  go_enter Tryz.func177,Tryz.ntmps177
  go_wp2
  rw[<-hW,<-hC,<-hB];clear hcv hW hC;have pB:=Lib.hid hB;clear hB
  go_loop [10] (λi=>∃k:Nat,k<=s.size/\i = .int .i64 k/\dU p ((bl s).drop k)=(dU p (bl s))) (λi=>s.size - (intOf i).toNat)
  case atStart=>exact ⟨0,Nat.zero_le _,rfl,rfl⟩
  case round=>
   obtain ⟨k,hk,rfl,hrel⟩:=hrel;have HR:=Lib.hid hrel;clear hrel;by_cases hlt:k<s.size
   .obtain ⟨u,c,lQ,nP,tG,hc,hdr⟩:=mO hcell k hlt;by_cases hp:p c=true
    .go_wp2_with (first | (go_at_call 178;refine (HC.out _ _).mono ?_;rintro e w' ⟨rfl,rfl⟩) | (go_at_call 198;refine (HC.out _ _).mono ?_;rintro e w' ⟨rfl,rfl⟩))
     go_round
     case rel=>exact ⟨k+1,by omega,by go_num,by rw[<-HR.out,hdr.out,pU (by rw[<-lQ.out];exact hp)]⟩
     case measure=>simp[intOf];omega
    .have hp:p c=false:=by simpa using hp
     go_wp2_with (first | (go_at_call 178;refine (HC.out _ _).mono ?_;rintro e w' ⟨rfl,rfl⟩) | (go_at_call 198;refine (HC.out _ _).mono ?_;rintro e w' ⟨rfl,rfl⟩));go_ret;exact ⟨aj (by rw[<-HR.out,hdr.out,mT (by rw[<-lQ.out];exact hp)]),pB.out▸aI⟩
   .obtain rfl:k=s.size:=by omega
    go_wp2
    go_ret;exact ⟨aj (by rw[<-HR.out,eG];rfl),pB.out▸aI⟩
theorem qU (s:ByteArray) (w:World) (hs:s.size<=1000000) :
  Calls Tryz.prog 180 #[.string s] w λe w'=>e = .returned (.bool (dU Be (bl s)))/\Below w.heap.size w w':=by
 go_enter Tryz.func180,Tryz.ntmps180
 go_wp2_with (go_at_call 177;refine (pT _ _ (Or.inr rfl) (λ_ _=>Ez _ _) _ _ hs).mono ?_;rintro e w' ⟨rfl,hb⟩);go_ret;exact ⟨rfl,hb⟩
theorem Mf (s:ByteArray) (w:World) (hs:s.size<=1000000) :
  Calls Tryz.prog 179 #[.string s] w λe w'=>e = .returned (.int .i64 (od (bl s) 0))/\Below w.heap.size w w':=by
 have hcv:=λw=>Lib.run_convert_string_bytes (P:=Tryz.prog) w 9 28 5 s Tryz.underlying9 Tryz.underlying28 Tryz.underlying5;obtain ⟨W,C,B,hW,hC,hB,hcell,aI,-⟩:=dM w 5 s
 go_enter Tryz.func179,Tryz.ntmps179
 go_wp2
 rw[<-hW,<-hC,<-hB];clear hcv hW hC;have pB:=Lib.hid hB;clear hB
 go_loop [3,10] (λn i=>∃(k:Nat) (N:Int),k<=s.size/\i = .int .i64 k/\n = .int .i64 N/\0<=N/\N<=512*k/\od ((bl s).drop k) N=od (bl s) 0) (λ_ i=>s.size - (intOf i).toNat)
 case atStart=>exact ⟨0,0,Nat.zero_le _,rfl,rfl,by omega,by omega,rfl⟩
 case round=>
  obtain ⟨k,N,hk,rfl,rfl,Me,AY,hrel⟩:=hrel;have HR:=Lib.hid hrel;clear hrel;by_cases hlt:k<s.size
  .obtain ⟨u,c,lQ,nP,tG,hc,hdr⟩:=mO hcell k hlt;by_cases hev:((s.size:Int)-k) % 2=0
   .have Qt:=Lib.hid (show (((bl s).drop (k+1)).length+1) % 2=0 by rw[List.length_drop,aB];omega)
    by_cases hd:9<(c - 48) % 256*2
    .go_wp2
     go_round
     case rel=>exact ⟨k+1,_,by omega,by go_num,rfl,by omega,by omega,by rw[<-HR.out,hdr.out]; exact qV lQ.out (by rw[if_pos Qt.out]; unfold Qu val; split <;> omega)⟩
     case measure=>simp[intOf];omega
    .go_wp2
     go_round
     case rel=>exact ⟨k+1,_,by omega,by go_num,rfl,by omega,by omega,by rw[<-HR.out,hdr.out]; exact qV lQ.out (by rw[if_pos Qt.out]; unfold Qu val; split <;> omega)⟩
     case measure=>simp[intOf];omega
   .have Qt:=Lib.hid (show ¬(((bl s).drop (k+1)).length+1) % 2=0 by rw[List.length_drop,aB];omega)
    go_wp2
    go_round
    case rel=>exact ⟨k+1,_,by omega,by go_num,rfl,by omega,by omega,by rw[<-HR.out,hdr.out];exact qV lQ.out (by rw[if_neg Qt.out];unfold val;omega)⟩
    case measure=>simp[intOf];omega
  .obtain rfl:k=s.size:=by omega
   have hN:N=od (bl s) 0:=by rw[<-HR.out,eG];rfl
   have HN:=Lib.hid hN;clear hN
   go_wp2
   go_ret;exact ⟨aH (by rw[HN.out]),pB.out▸aI⟩
theorem IX (s:ByteArray) (w:World) (hs:s.size<=1000000) :
  Calls Tryz.prog 181 #[.string s] w λe w'=>e = .returned (.int .i64 (iN (bl s) 0))/\Below w.heap.size w w':=by
 have hcv:=λw=>Lib.run_convert_string_bytes (P:=Tryz.prog) w 9 28 5 s Tryz.underlying9 Tryz.underlying28 Tryz.underlying5;obtain ⟨W,C,B,hW,hC,hB,hcell,aI,-⟩:=dM w 5 s
 go_enter Tryz.func181,Tryz.ntmps181
 go_wp2
 rw[<-hW,<-hC,<-hB];clear hcv hW hC;have pB:=Lib.hid hB;clear hB
 go_loop [3,9] (λn i=>∃(k:Nat) (N:Int),k<=s.size/\i = .int .i64 k/\n = .int .i64 N/\0<=N/\N<97/\iN ((bl s).drop k) N=iN (bl s) 0) (λ_ i=>s.size - (intOf i).toNat)
 case atStart=>exact ⟨0,0,Nat.zero_le _,rfl,rfl,by omega,by omega,rfl⟩
 case round=>
  obtain ⟨k,N,hk,rfl,rfl,Me,AY,hrel⟩:=hrel;have HR:=Lib.hid hrel;clear hrel;by_cases hlt:k<s.size
  .obtain ⟨u,c,lQ,nP,tG,hc,hdr⟩:=mO hcell k hlt;rcases BW:qM c
   all_goals
    go_wp2_with (go_at_call 178;refine (fT _ _).mono ?_;rintro e w' ⟨rfl,rfl⟩)
    go_round
    case rel=>exact ⟨k+1,_,by omega,by go_num,rfl,by omega,by omega,by rw[<-HR.out,hdr.out];exact EA lQ.out BW⟩
    case measure=>simp[intOf];omega
  .obtain rfl:k=s.size:=by omega
   have hN:N=iN (bl s) 0:=by rw[<-HR.out,eG];rfl
   have HN:=Lib.hid hN;clear hN
   go_wp2
   go_ret;exact ⟨aH (by rw[HN.out]),pB.out▸aI⟩
theorem Qv (s:ByteArray) (w:World) (hs:s.size<=1000000) :
  Calls Tryz.prog 155 #[.string s] w λe w'=>e = .returned (.int .u32 (KW (bl s)))/\Below w.heap.size w w':=by
 have hcv:=λw=>Lib.run_convert_string_bytes (P:=Tryz.prog) w 9 28 5 s Tryz.underlying9 Tryz.underlying28 Tryz.underlying5;obtain ⟨W,C,B,hW,hC,hB,hcell,aI,-⟩:=dM w 5 s
 go_enter Tryz.func155,Tryz.ntmps155
 go_wp2
 rw[<-hW,<-hC,<-hB];clear hcv hW hC;have pB:=Lib.hid hB;clear hB
 go_loop [3,10] (λn i=>∃(k:Nat) (N:Int),k<=s.size/\i = .int .i64 k/\n = .int .u32 N/\0<=N/\N<4294967296/\wC ((bl s).drop k) N=wC (bl s) 4294967295) (λ_ i=>s.size - (intOf i).toNat)
 case atStart=>exact ⟨0,_,Nat.zero_le _,rfl,rfl,by omega,by omega,rfl⟩
 case round=>
  obtain ⟨k,N,hk,rfl,rfl,Me,AY,hrel⟩:=hrel;have HR:=Lib.hid hrel;clear hrel;by_cases hlt:k<s.size
  .obtain ⟨u,c,lQ,nP,tG,hc,hdr⟩:=mO hcell k hlt
   go_wp2
   obtain ⟨X,hX⟩:∃X,X=bits .xor .u32 N c:=⟨_,rfl⟩;have Tu:=mi .xor N c;rw[<-hX]at Tu|-;have HX:=Lib.hid hX;clear hX
   go_loop [3,18] (λn i=>∃(j:Nat) (M:Int),j<=8/\i = .int .i64 j/\n = .int .u32 M/\0<=M/\M<4294967296/\jt (8-j) M=jt 8 X) (λ_ i=>8 - (intOf i).toNat)
   case atStart=>exact ⟨0,X,by omega,rfl,rfl,by omega,by omega,rfl⟩
   case round=>
    obtain ⟨j,M,hj,rfl,rfl,Mg,xF,hrel⟩:=hrel;have HI:=Lib.hid hrel;clear hrel;by_cases hlj:j<8
    .have Y0:=Lib.hid (show 8-j=(8 - (j+1))+1 by omega)
     have xE:=Lib.hid (IY Mg xF);rcases hb:(bits .and .u32 M 1 == 1)
     .go_wp2
      go_round
      case rel=>exact ⟨j+1,M / 2,by omega,by go_num,rfl,by omega,by omega,by rw[<-HI.out,Y0.out,iq,Mh hb]⟩
      case measure=>simp[intOf];omega
     .go_wp2
      go_round
      case rel=>exact ⟨j+1,_,by omega,by go_num,rfl,(mi _ _ _).1,(mi _ _ _).2,by rw[<-HI.out,Y0.out,iq,Gu hb]⟩
      case measure=>simp[intOf];omega
    .obtain rfl:j=8:=by omega
     go_wp2
     go_round
     case rel=>exact ⟨k+1,M,by omega,by go_num,rfl,by omega,by omega,by rw[<-HR.out,hdr.out,wC,<-lQ.out,<-HX.out,<-HI.out];rfl⟩
     case measure=>simp[intOf];omega
  .obtain rfl:k=s.size:=by omega
   have hN:N=wC (bl s) 4294967295:=by rw[<-HR.out,eG];rfl
   have HN:=Lib.hid hN;clear hN
   go_wp2
   go_ret;exact ⟨aH (by unfold KW;rw[<-HN.out,<-Qw]),pB.out▸aI⟩
theorem IZ (s:ByteArray) (w:World) (hs:s.size<=1000000) :
  Calls Tryz.prog 152 #[.string s] w λe w'=>e = .returned (.bool (BX (bl s)))/\Below w.heap.size w w':=by
 have hn:=Lib.hid (BZ (bl s) 0 (by omega))
 by_cases h2:s.size<2
 .go_enter Tryz.func152,Tryz.ntmps152
  go_wp2
  go_ret;exact ⟨aj (by unfold BX;rw[decide_eq_false (by rw[aB];omega)];rfl),Below.refl _ _⟩
 .rcases hd:dU qM (bl s)
  .go_enter Tryz.func152,Tryz.ntmps152
   go_wp2_with (go_at_call 177;refine (pT _ _ (Or.inl rfl) (λ_ _=>fT _ _) _ _ hs).mono ?_;rintro e w1 ⟨rfl,hb1⟩);go_ret;exact ⟨aj (by unfold BX;rw[hd];simp),hb1⟩
  .go_enter Tryz.func152,Tryz.ntmps152
   go_wp2_with (first | (go_at_call 177;refine (pT _ _ (Or.inl rfl) (λ_ _=>fT _ _) _ _ hs).mono ?_;rintro e w1 ⟨rfl,hb1⟩) | (go_at_call 179;refine (Mf _ _ hs).mono ?_;rintro e w2 ⟨rfl,aL⟩));go_ret;have hn:=hn.out;exact ⟨aj (by unfold BX;rw[hd,decide_eq_true (by rw[aB];omega),Int.tmod_eq_emod_of_nonneg hn];rfl),hb1.trans (aL.mono hb1.size)⟩
theorem EB (s:ByteArray) (w:World) (hs:s.size<=1000000) :
  Calls Tryz.prog 153 #[.string s] w λe w'=>e = .returned (.bool (I0 (bl s)))/\Below w.heap.size w w':=by
 by_cases h2:s.size<3
 .go_enter Tryz.func153,Tryz.ntmps153
  go_wp2
  go_ret;exact ⟨aj (by unfold I0;rw[decide_eq_false (by rw[aB];omega)];rfl),Below.refl _ _⟩
 .rcases hd:dU Be (bl s)
  .go_enter Tryz.func153,Tryz.ntmps153
   go_wp2_with (go_at_call 180;refine (qU _ _ hs).mono ?_;rintro e w1 ⟨rfl,hb1⟩);go_ret;exact ⟨aj (by unfold I0;rw[hd];simp),hb1⟩
  .have hsz:(s.extract (s.size - 2) s.size).size<=1000000:=by rw[ByteArray.size_extract];omega
   have H2:=Lib.hid (wD s);rcases jO:dU qM (bl (s.extract (s.size - 2) s.size))
   .go_enter Tryz.func153,Tryz.ntmps153
    go_wp2_with (first | (go_at_call 180;refine (qU _ _ hs).mono ?_;rintro e w1 ⟨rfl,hb1⟩) | (go_at_call 177;refine (pT _ _ (Or.inl rfl) (λ_ _=>fT _ _) _ _ hsz).mono ?_;rw[jO];rintro e w2 ⟨rfl,aL⟩));go_ret;exact ⟨aj (by unfold I0;rw[hd,<-H2.out,jO];simp),hb1.trans (aL.mono hb1.size)⟩
   .go_enter Tryz.func153,Tryz.ntmps153
    go_wp2_with (first | (go_at_call 180;refine (qU _ _ hs).mono ?_;rintro e w1 ⟨rfl,hb1⟩) | (go_at_call 177;refine (pT _ _ (Or.inl rfl) (λ_ _=>fT _ _) _ _ hsz).mono ?_;rw[jO];rintro e w2 ⟨rfl,aL⟩) | (go_at_call 181;refine (IX _ _ hs).mono ?_;rintro e w3 ⟨rfl,dc⟩));go_ret;exact ⟨aj (by unfold I0;rw[hd,<-H2.out,jO,decide_eq_true (by rw[aB];omega)];rfl),(hb1.trans (aL.mono hb1.size)).trans (dc.mono (Nat.le_trans hb1.size aL.size))⟩
set_option maxHeartbeats 400000 in
theorem EC (x:Int) (w:World) (h0:0<=x) (h1:x<4294967296) :
  Calls Tryz.prog 154 #[.int .u32 x] w λe w'=>e = .returned (.string (bs (kC 8 x)))/\Below w.heap.size w w':=by
 go_enter Tryz.func154,Tryz.ntmps154
 go_wp2
 generalize Gr:w.alloc (Obj.cells #[Value.pointer none,Value.slice none 0 0] 205)=w0;have hb0:Below w.heap.size w w0:=Gr▸(Below.refl _ w).alloc (Nat.le_refl _) _;have DZ:Eu w.heap.size [] w0:=⟨by rw[<-Gr];exact Lib.fresh_isBuilder _ _ w,hb0.size⟩
 clear Gr
 go_loopw [4] (λi wr=>∃(m:Nat) (l:List UInt8),m<=8/\i = .int .i64 (4*(m:Int) - 4)/\Eu w.heap.size l wr/\l.length+m=8/\Below w.heap.size w wr/\l++kC m x=kC 8 x) (λi _=>(intOf i+4).toNat)
 case atStart=>exact ⟨8,[],by omega,rfl,DZ,rfl,hb0,rfl⟩
 case round=>
  obtain ⟨m,l,hm,rfl,hown,hl,aI,hrel⟩:=hrel;have HR:=Lib.hid hrel;clear hrel;rcases m with _ | m
  .go_wp2_with (go_at_call 166;refine (tT _ _ l _ hown.1 hown.2).mono ?_;rintro e w1 ⟨rfl,hb1⟩);go_ret;exact ⟨sU (by rw[<-HR.out];simp[kC]),aI.trans hb1⟩
  .obtain ⟨y,hy⟩:∃y,bits .and .u32 (x / 2 ^ (4*(m+1) - 4)) 15=y:=⟨_,rfl⟩;have KX:y=x / 2 ^ (4*m) % 16:=by rw[<-hy,Tv (zc _ h0 h1).1 (zc _ h0 h1).2];rfl
   have hy0:0<=y:=by omega
   have KS:y<16:=by omega
   have HY:=Lib.hid KX;clear KX;have ED:=Gv .u32 y hy0 KS;go_wp2_with (go_at_call 182;refine (yY _ l _ (EE y) rfl _ hown (by omega)).mono ?_;rintro e w1 ⟨rfl,hown1,hb1⟩)
   go_roundw
   case rel=>exact ⟨m,l++[EE y],by omega,by go_num,hown1,by simp;omega,aI.trans hb1,by rw[<-HR.out,kC,<-HY.out];simp⟩
   case measure=>simp[intOf];omega
set_option maxHeartbeats 400000 in
theorem I3 (s:ByteArray) (w:World) (hs:s.size<=1000000) :
  Calls Tryz.prog 125 #[.int .i64 3, .string s] w λe w'=>e = .returned (.bool (EF (bl s)))/\Below w.heap.size w w':=by
 by_cases h9:s.size<9
 .have hd:decide ((9:Int)<=s.size)=false:=decide_eq_false (by omega)
  go_enter Tryz.func125,Tryz.ntmps125
  go_wp2_with fail;refine aO (Below.refl w.heap.size w) (by kernel_rfl) (by kernel_rfl) ?_
  repeat (go_big_quiet_step (fail))
  refine wpQuiet_nil ?_;intro _ hw';obtain ⟨⟨w2,pq⟩,rfl⟩:=hw'
  go_wp2
  go_ret;exact ⟨aj (Qx h9).symm,pq⟩
 .have hd:decide ((9:Int)<=s.size)=true:=decide_eq_true (by omega)
  have hsz:(s.extract 0 (s.size - 8)).size<=1000000:=by rw[ByteArray.size_extract];omega
  have xE:=Lib.hid (Mi (bl (s.extract 0 (s.size - 8))))
  go_enter Tryz.func125,Tryz.ntmps125
  go_wp2_with fail;refine aO (Below.refl w.heap.size w) (by kernel_rfl) (by kernel_rfl) ?_
  repeat (go_big_quiet_step (first | (go_at_call 155;exact Calls.cM (Nat.le_refl _) (Qv _ _ hsz)) | (go_at_call 154;exact Calls.cM (Nat.le_refl _) (EC _ _ xE.out.1 xE.out.2))))
  refine wpQuiet_nil ?_;intro _ hw';obtain ⟨⟨w2,pq⟩,rfl⟩:=hw'
  go_wp2
  go_ret;exact ⟨aj (Qy h9),pq⟩
set_option maxHeartbeats 400000 in
theorem I4 (s:ByteArray) (w:World) (hs:s.size<=1000000) :
  Calls Tryz.prog 125 #[.int .i64 4, .string s] w λe w'=>e = .returned (.bool (EG (bl s)))/\Below w.heap.size w w':=by
 by_cases h9:s.size<2
 .have hd:decide ((2:Int)<=s.size)=false:=decide_eq_false (by omega)
  go_enter Tryz.func125,Tryz.ntmps125
  go_wp2_with fail;refine aO (Below.refl w.heap.size w) (by kernel_rfl) (by kernel_rfl) ?_
  repeat (go_big_quiet_step (fail))
  refine wpQuiet_nil ?_;intro _ hw';obtain ⟨⟨w2,pq⟩,rfl⟩:=hw'
  go_wp2
  go_ret;exact ⟨aj (Qz h9).symm,pq⟩
 .have hd:decide ((2:Int)<=s.size)=true:=decide_eq_true (by omega)
  have hsz:(s.extract 0 (s.size - 1)).size<=1000000:=by rw[ByteArray.size_extract];omega
  obtain ⟨u,c,Tw,lQ,nP,tG,ED⟩:=pO Tryz.underlying9 s (s.size - 1) (by omega) .i64 ((s.size:Int) - 1) (by omega)
  go_enter Tryz.func125,Tryz.ntmps125
  go_wp2_with fail;refine aO (Below.refl w.heap.size w) (by kernel_rfl) (by kernel_rfl) ?_
  repeat (go_big_quiet_step (first | (go_at_call 156;exact Calls.cM (Nat.le_refl _) (Ey _ _ hsz))))
  refine wpQuiet_nil ?_;intro _ hw';obtain ⟨⟨w2,pq⟩,rfl⟩:=hw'
  go_wp2
  go_ret;exact ⟨aj (QA h9 u c Tw.out lQ.out),pq⟩
theorem Ip (c:Int) (s:ByteArray) (w:World) (hs:s.size<=1000000) :
  Calls Tryz.prog 125 #[.int .i64 c, .string s] w λe w'=>e = .returned (.bool (Qd c (bl s)))/\Below w.heap.size w w':=by
 by_cases h0:c=0
 .subst h0
  go_enter Tryz.func125,Tryz.ntmps125
  go_wp2
  go_ret;exact ⟨rfl,Below.refl _ _⟩
 by_cases h1:c=1
 .subst h1
  go_enter Tryz.func125,Tryz.ntmps125
  go_wp2_with (go_at_call 152;refine (IZ _ _ hs).mono ?_;rintro e w1 ⟨rfl,hb1⟩);go_ret;exact ⟨rfl,hb1⟩
 by_cases h2:c=2
 .subst h2
  go_enter Tryz.func125,Tryz.ntmps125
  go_wp2_with (go_at_call 153;refine (EB _ _ hs).mono ?_;rintro e w1 ⟨rfl,hb1⟩);go_ret;exact ⟨rfl,hb1⟩
 by_cases h3:c=3
 .subst h3;exact I3 s w hs
 by_cases h4:c=4
 .subst h4;exact I4 s w hs
 .go_enter Tryz.func125,Tryz.ntmps125
  go_wp2
  go_ret;exact ⟨aj (by unfold Qd;simp only[h0,h1,h2,h3,h4,if_false]),Below.refl _ _⟩
end
end Go.Proofs.YtdmoogjddmdmbaaGreatDoor
