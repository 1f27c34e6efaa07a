/- A strings.Builder that a call has made itself: what WriteByte, WriteString and String do, for all bytes, up to 1000000000 bytes. String's contract is the shelf's, laid at this program. · A strings.Builder: WriteString. · Walks of the program's check sums: what holds. -/
import Derived.Shelf.Strings.Builder1
import Derived.Lib.FrozenHead
import Derived.Test.YtdmoogjddmdmbaaGreatDoorProg
import Derived.Test.YtdmoogjddmdmbaaGreatDoorY02
import Derived.Test.YtdmoogjddmdmbaaGreatDoorY04
import Derived.Lib.AppendStr
import Derived.Test.YtdmoogjddmdmbaaGreatDoorY01
namespace Go.Proofs.YtdmoogjddmdmbaaGreatDoor
set_option linter.unusedVariables false
set_option linter.unusedSimpArgs false
set_option maxRecDepth 100000
open Go.Shelf
def lays169_ren:Go.Shelf.Ren:=⟨fun| 169=>166 | n=>n,fun| 70=>203 | 9=>9 | 0=>0 | 72=>205 | 37=>28 | 127=>222 | 3=>3 | 5=>5 | n=>n,fun| n=>n⟩
theorem lays169:Go.Proofs.Lays.n169 Tryz.prog lays169_ren:={
 mixed:=by kernel_rfl
 f169:=Tryz.func166.trans (congrArg some (by kernel_rfl))
 t0:=Tryz.underlying0
 a0:=Tryz.isAgg0
 z0:=Tryz.sizeOf0
 v0:=Tryz.zeroValue0
 t3:=Tryz.underlying3
 a3:=Tryz.isAgg3
 z3:=Tryz.sizeOf3
 v3:=Tryz.zeroValue3
 t9:=Tryz.underlying9
 a9:=Tryz.isAgg9
 z9:=Tryz.sizeOf9
 v9:=Tryz.zeroValue9
 t37:=Tryz.underlying28
 a37:=Tryz.isAgg28
 z37:=Tryz.sizeOf28
 v37:=Tryz.zeroValue28
 t70:=Tryz.underlying203
 a70:=Tryz.isAgg203
 z70:=Tryz.sizeOf203
 v70:=Tryz.zeroValue203
 t72:=Tryz.underlying205
 a72:=Tryz.isAgg205
 z72:=Tryz.sizeOf205
 v72:=Tryz.zeroValue205
 t127:=Tryz.underlying222
 a127:=Tryz.isAgg222
 z127:=Tryz.sizeOf222
 v127:=Tryz.zeroValue222 }
theorem Builder_Extra_169:Builder.Extra Tryz.prog lays169_ren:={
 sizeBuilder:=by kernel_rfl
 liesBuilder:=by kernel_rfl
 t5:=Tryz.underlying5
 a5:=Tryz.isAgg5
 z5:=Tryz.sizeOf5
 v5:=Tryz.zeroValue5
 infoByte:=by kernel_rfl
 cellsByte:=by kernel_rfl
 sizeByte:=by kernel_rfl
 neB5:=by decide }
open Go.RowKit in
theorem builder_string (B b:Nat) (l:List UInt8) (w:World) (h:Lib.IsBuilder 205 5 B b (Lib.byteCells l) w) (hBw:B<=w.heap.size) :
  Calls Tryz.prog 166 #[.pointer (some ⟨b,0,none⟩)] w λe w'=>e = .returned (.string (bs l))/\Below B w w':=Any.Builder_String_any lays169 Builder_Extra_169 B b l w h hBw
open Go.RowKit
theorem info_builder:∃j,Tryz.prog.info? 205=some j/\j.size=2:=by
 have h:(Tryz.prog.info? 205).map (·.size)=some 2:=by kernel_rfl
 obtain ⟨j,h1,h2⟩:=Option.map_eq_some_iff.1 h;exact ⟨j,h1,h2⟩
theorem lies_builder:liesAt Tryz.prog Tryz.prog.depth 205 (2 / Tryz.prog.cellsOf 205) 0 205 1=true:=by kernel_rfl
theorem copy_used (b:Nat) (w:World) (h0:w.cell? ⟨b,0,none⟩=some (.pointer (some ⟨b,0,none⟩))) :
  Calls Tryz.prog 189 #[.pointer (some ⟨b,0,none⟩)] w λe w'=>e = .returned (.tuple #[])/\w=w':=by
 obtain ⟨j,hj,-⟩:=info_builder
 go_enter Tryz.func189,Tryz.ntmps189
 go_wp2
 rw[Lib.run_neq_ptr_same w _ Tryz.underlying203 hj]
 go_wp2
 go_end0
 exact ⟨rfl,rfl⟩
theorem copy_fresh (b:Nat) (w:World) (h0:w.cell? ⟨b,0,none⟩=some (.pointer none)) (hsh:w.shape? b=some (205,2)) (hfz:w.frozen? ⟨b,0,none⟩=false) :
  Calls Tryz.prog 189 #[.pointer (some ⟨b,0,none⟩)] w λe w'=>e = .returned (.tuple #[])/\w'=w.setCell ⟨b,0,none⟩ (.pointer (some ⟨b,0,none⟩)):=by
 obtain ⟨j,hj,hjs⟩:=info_builder
 go_enter Tryz.func189,Tryz.ntmps189
 go_wp2
 rw[Lib.run_to_unsafe w ⟨b,0,none⟩ Tryz.underlying203 Tryz.underlying231 hj (by rw[hjs];decide) hsh (Nat.zero_lt_succ 1)]
 simp only[Result.andThen];rw[Oper.upon_value]
 go_wp2
 rw[run_callFunc_extern Tryz.func203 (by kernel_rfl) (by kernel_rfl) (by kernel_rfl) (e:=Extern.AbiNoEscape.same) (by kernel_rfl)]
 rw[Lib.run_noEscape];simp only[Result.andThen];rw[Oper.upon_value]
 go_wp2
 rw[Lib.run_from_unsafe w ⟨b,0,none⟩ Tryz.underlying231 Tryz.underlying203 hj hsh lies_builder];simp only[Result.andThen];rw[Oper.upon_value]
 go_wp2
 go_end0
 exact ⟨rfl,rfl⟩
theorem copy_any (B b:Nat) (bs:List Value) (w:World) (h:Lib.IsBuilder 205 5 B b bs w) :
  Calls Tryz.prog 189 #[.pointer (some ⟨b,0,none⟩)] w λe w'=>e = .returned (.tuple #[])/\Lib.BuilderAt 205 5 B b (.pointer (some ⟨b,0,none⟩)) bs w'/\Below B w w':=by
 rcases h with h | h
 .refine (copy_fresh b w h.cell0 h.shape h.frozen0).mono ?_;rintro e w' ⟨rfl,rfl⟩;exact ⟨rfl,h.used _,(Below.refl B w).setCell (p:=⟨b,0,none⟩) h.1 _⟩
 .refine (copy_used b w h.cell0).mono ?_;rintro e w' ⟨rfl,rfl⟩;exact ⟨rfl,h,Below.refl B _⟩
def IsB (b:Nat) (l:List UInt8) (w:World):Prop:=Lib.IsBuilder 205 5 b b (Lib.byteCells l) w/\b<=w.heap.size
set_option maxHeartbeats 1000000 in
set_option maxRecDepth 100000 in
theorem builder_byte (b:Nat) (l:List UInt8) (c:Int) (u:UInt8) (hu:c=u.toNat) (w:World) (h:IsB b l w) (hlen:l.length<=1000000000) :
  Calls Tryz.prog 182 #[.pointer (some ⟨b,0,none⟩), .int .u8 c] w λe w'=>e = .returned .nilIface/\IsB b (l++[u]) w'/\Below b w w':=by
 obtain ⟨i0,hi,hz0,hz1,hz2⟩:=info_parts info_u8;obtain ⟨h,hBw⟩:=h;have hbl:(Lib.byteCells l).length=l.length:=Lib.byteCells_length l;have Hbl:=Lib.hid hbl;clear hbl;have hx:=Lib.hid (show Lib.byteCells l++[Value.int .u8 c]=Lib.byteCells (l++[u]) by subst hu;simp[Lib.byteCells])
 clear hu
 go_enter Tryz.func182,Tryz.ntmps182
 go_wp2_with (go_at_call 189;refine (copy_any b b _ _ h).mono ?_);rintro e w1 ⟨rfl,h1,hb1⟩;obtain ⟨hB,v,hbk,hown,hne⟩:=h1;have c0:w1.cell? ⟨b,0,none⟩=some (.pointer (some ⟨b,0,none⟩)):=by rw[Lib.cell_of_heap hbk];rfl
 have c1:w1.cell? ⟨b,1,none⟩=some v:=by rw[Lib.cell_of_heap hbk];rfl
 go_wp2_with (at_builtin;refine wpList_append_own _ rfl _ _ 28 rfl b 5 i0 (.int .u8 0) 1 1 Tryz.underlying28 hi hz0 hz1 hz2 rfl (by decide) _ _ _ rfl (hown.alloc _) ⟨w1.heap.size,0,none⟩ 1 1 [.int .u8 c] rfl rfl ?c1 ?c2 ?c3 ?c4 ?c5 ?_)
 case c1=>
  intro j x hj
  match j,hj with
  | 0,hj=>simp at hj;subst hj;simp[Addr.add]
 case c2=>intro x hx;simp at hx;subst hx;rfl
 case c3=>have:=Hbl.out;unfold maxLen;omega
 case c4=>have:=Hbl.out;omega
 case c5=>exact Nat.le_trans (Nat.le_trans hBw hb1.size) ((Below.refl 0 w1).alloc (Nat.zero_le _) _).size
 intro v' w2 hown' hgrow _;have hlt:b<w1.heap.size:=by
  rcases Nat.lt_or_ge b w1.heap.size with h' | h'
  .exact h'
  .simp[Array.getElem?_eq_none h']at hbk
 have hb2:w2.heap[b]?=some (.cells #[.pointer (some ⟨b,0,none⟩),v] 205 (0,0)):=by
  rw[hgrow.block b (by simp;omega) (λe=>hne e.symm),Lib.alloc_old w1 _ b hlt]
  exact hbk
 have d0:w2.cell? ⟨b,0,none⟩=some (.pointer (some ⟨b,0,none⟩)):=by rw[Lib.cell_of_heap hb2];rfl
 have d1:w2.cell? ⟨b,1,none⟩=some v:=by rw[Lib.cell_of_heap hb2];rfl
 have f1:w2.frozen? ⟨b,1,none⟩=false:=Lib.frozen_of_heap hb2 1;obtain ⟨g,cap,rfl⟩:∃g cap,v' = .slice (some ⟨g,0,none⟩) ((Lib.byteCells l).length+1) cap:=by
  rcases hown'.2 with ⟨_,h0⟩ | ⟨g,cap,cur,hv,_⟩
  .omega
  .exact ⟨g,cap,hv⟩
 go_wp2
 go_ret;have hbelow:Below b w (w2.setCell ⟨b,1,none⟩ (.slice (some ⟨g,0,none⟩) ((Lib.byteCells l).length+1) cap)):=
  ((hb1.alloc (by have:=hb1.size;omega) _).grown hgrow (by have:=hb1.size;simp;omega) (λk hk=>(hown.lt k hk).1)).setCell (p:=⟨b,1,none⟩) hB _
 refine ⟨rfl,⟨Or.inr ?_,Nat.le_trans hBw hbelow.size⟩,hbelow⟩;exact Lib.BuilderAt.put (T:=205) (e:=5) hB hb2 (bs':=Lib.byteCells (l++[u])) (by rw[<-hx.out,List.length_append];exact hown') (by decide)
end Go.Proofs.YtdmoogjddmdmbaaGreatDoor
namespace Go.Proofs.YtdmoogjddmdmbaaGreatDoor
set_option linter.unusedVariables false
set_option linter.unusedSimpArgs false
set_option maxRecDepth 100000
open Go.RowKit
theorem builder_str (b:Nat) (l:List UInt8) (s:ByteArray) (w:World) (h:IsB b l w) (hlen:l.length<=1000000000) (hs:s.size<=1000000) :
  Calls Tryz.prog 164 #[.pointer (some ⟨b,0,none⟩), .string s] w λe w'=>e = .returned (.tuple #[.int .i64 s.size, .nilIface])/\IsB b (l++bl s) w'/\Below b w w':=by
 obtain ⟨i0,hi,hz0,hz1,hz2⟩:=info_parts info_u8;obtain ⟨h,hBw⟩:=h
 go_enter Tryz.func164,Tryz.ntmps164
 go_wp2_with (go_at_call 189;refine (copy_any b b _ _ h).mono ?_);rintro e w1 ⟨rfl,h1,hb1⟩;obtain ⟨hB,v,hbk,hown,hne⟩:=h1;have c0:w1.cell? ⟨b,0,none⟩=some (.pointer (some ⟨b,0,none⟩)):=by rw[Lib.cell_of_heap hbk];rfl
 have c1:w1.cell? ⟨b,1,none⟩=some v:=by rw[Lib.cell_of_heap hbk];rfl
 have hlb:(Lib.byteCells l).length=l.length:=Lib.byteCells_length l;have HLB:=Lib.hid hlb;clear hlb;go_wp2_with (at_builtin;refine Lib.wpList_append_own_string _ rfl _ _ 28 9 rfl b 5 i0 Tryz.underlying28 Tryz.underlying9 hi hz0 hz1 hz2 _ _ _ rfl hown s rfl ?c1 ?c2 (Nat.le_trans hBw hb1.size) ?_)
 case c1=>have:=HLB.out;unfold maxLen;omega
 case c2=>have:=HLB.out;omega
 intro v' w2 hown' hgrow _;have hlt:b<w1.heap.size:=by
  rcases Nat.lt_or_ge b w1.heap.size with h' | h'
  .exact h'
  .simp[Array.getElem?_eq_none h']at hbk
 have hb2:w2.heap[b]?=some (.cells #[.pointer (some ⟨b,0,none⟩),v] 205 (0,0)):=by
  rw[hgrow.block b hlt (λe=>hne e.symm)];exact hbk
 have d0:w2.cell? ⟨b,0,none⟩=some (.pointer (some ⟨b,0,none⟩)):=by rw[Lib.cell_of_heap hb2];rfl
 have d1:w2.cell? ⟨b,1,none⟩=some v:=by rw[Lib.cell_of_heap hb2];rfl
 have f1:w2.frozen? ⟨b,1,none⟩=false:=Lib.frozen_of_heap hb2 1;obtain ⟨A,n,cap,rfl⟩:∃A n cap,v' = .slice A n cap:=by
  rcases hown'.2 with ⟨h0,_⟩ | ⟨g,cap,cur,hv,_⟩
  .exact ⟨_,_,_,h0⟩
  .exact ⟨_,_,_,hv⟩
 go_wp2
 go_ret2
 have hbelow:Below b w (w2.setCell ⟨b,1,none⟩ (.slice A n cap)):=
  (hb1.grown hgrow (Nat.le_trans hBw hb1.size) (λk hk=>(hown.lt k hk).1)).setCell (p:=⟨b,1,none⟩) hB _
 refine ⟨rfl,⟨Or.inr ?_,Nat.le_trans hBw hbelow.size⟩,hbelow⟩;have hx:Lib.byteCells l++Lib.strCells s=Lib.byteCells (l++bl s):=by simp[Lib.byteCells,Lib.strCells,bl]
 exact Lib.BuilderAt.put (T:=205) (e:=5) hB hb2 (bs':=Lib.byteCells (l++bl s)) (by rw[<-hx,List.length_append,show (Lib.strCells s).length=s.size by simp[Lib.strCells]];exact hown') (by decide)
theorem digit_any (c:Int) (w:World) :
  Calls Tryz.prog 178 #[.int .u8 c] w λe w'=>e = .returned (.bool (dig c))/\w=w':=by
 by_cases h:48<=c
 all_goals
  go_enter Tryz.func178,Tryz.ntmps178
  go_wp2
  go_ret;exact ⟨ret_bool (by unfold dig;first | (simp[h];done) | (rw[decide_eq_false (by omega)];rfl)),rfl⟩
theorem capital_any (c:Int) (w:World) :
  Calls Tryz.prog 199 #[.int .u8 c] w λe w'=>e = .returned (.bool (cap c))/\w=w':=by
 by_cases h:65<=c
 all_goals
  go_enter Tryz.func199,Tryz.ntmps199
  go_wp2
  go_ret;exact ⟨ret_bool (by unfold cap;first | (simp[h];done) | (rw[decide_eq_false (by omega)];rfl)),rfl⟩
set_option maxHeartbeats 400000 in
theorem letter_any (s:ByteArray) (w:World) (hs:s.size<=1000000) :
  Calls Tryz.prog 156 #[.string s] w λe w'=>e = .returned (.int .u8 (65+letF (bl s) 0 0))/\Below w.heap.size w w':=by
 have hcv:=λw=>Lib.run_convert_string_bytes (P:=Tryz.prog) w 9 28 5 s Tryz.underlying9 Tryz.underlying28 Tryz.underlying5;obtain ⟨W,C,B,hW,hC,hB,hcell,hbel,-⟩:=conv_names w 5 s;have hbd:=letF_bd (bl s) 0 0 (by omega) (by omega)
 go_enter Tryz.func156,Tryz.ntmps156
 go_wp2
 rw[<-hW,<-hC,<-hB];clear hcv hW hC;have hBw:=Lib.hid hB;clear hB
 go_loop [3,4,5,9] (λn _ _ i=>∃(k:Nat) (N:Int),k<=s.size/\i = .int .i64 k/\n = .int .i64 N/\0<=N/\N<26/\letF ((bl s).drop k) k N=letF (bl s) 0 0) (λ_ _ _ i=>s.size - (intOf i).toNat)
 case atStart=>exact ⟨0,0,Nat.zero_le _,rfl,rfl,by omega,by omega,rfl⟩
 case round=>
  obtain ⟨k,N,hk,rfl,rfl,hN0,hN1,hrel⟩:=hrel;have HR:=Lib.hid hrel;clear hrel;by_cases hlt:k<s.size
  .obtain ⟨u,c,hcu,hc0,hc1,hc,hdr⟩:=byte_of hcell k hlt;have hp:=let_step_bd c k hc0 hc1 (by omega)
   go_wp2
   go_round
   case rel=>
    refine ⟨k+1,(N+c*((k+1) % 26)) % 26,by omega,by go_num,rfl,by omega,by omega,?_⟩
    rw[<-HR.out,hdr.out,hcu.out];rfl
   case measure=>simp[intOf];omega
  .obtain rfl:k=s.size:=by omega
   have hN:N=letF (bl s) 0 0:=by rw[<-HR.out,drop_all];rfl
   have HN:=Lib.hid hN;clear hN hbd
   go_wp2
   go_ret;exact ⟨ret_int (by rw[HN.out]),hBw.out▸hbel⟩
theorem signs1_any (c:Int) (w:World) :
  Calls Tryz.prog 198 #[.int .u8 c] w λe w'=>e = .returned (.bool (sgn c))/\w=w':=by
 by_cases h:dig c=true
 .go_enter Tryz.func198,Tryz.ntmps198
  go_wp2_with (go_at_call 178;refine (digit_any _ _).mono ?_;rintro e w' ⟨rfl,rfl⟩);go_ret;exact ⟨ret_bool (by unfold sgn;rw[h];rfl),rfl⟩
 .have h:dig c=false:=by simpa using h
  go_enter Tryz.func198,Tryz.ntmps198
  go_wp2_with (first | (go_at_call 178;refine (digit_any _ _).mono ?_;rintro e w' ⟨rfl,rfl⟩) | (go_at_call 199;refine (capital_any _ _).mono ?_;rintro e w' ⟨rfl,rfl⟩));go_ret;exact ⟨ret_bool (by unfold sgn;rw[h];rfl),rfl⟩
theorem all_any (n:FuncId) (p:Int->Bool) (hn:n=178\/n=198)
  (hcon:∀c w,Calls Tryz.prog n #[.int .u8 c] w λe w'=>e = .returned (.bool (p c))/\w=w') (s:ByteArray) (w:World) (hs:s.size<=1000000) :
  Calls Tryz.prog 177 #[.string s, .func (.func n) #[] #[]] w λe w'=>e = .returned (.bool (allF p (bl s)))/\Below w.heap.size w w':=by
 have hcv:=λw=>Lib.run_convert_string_bytes (P:=Tryz.prog) w 9 28 5 s Tryz.underlying9 Tryz.underlying28 Tryz.underlying5;obtain ⟨W,C,B,hW,hC,hB,hcell,hbel,-⟩:=conv_names w 5 s;have HC:=Lib.hid hcon;clear hcon;rcases hn with rfl | rfl
 all_goals
  go_enter Tryz.func177,Tryz.ntmps177
  go_wp2
  rw[<-hW,<-hC,<-hB];clear hcv hW hC;have hBw:=Lib.hid hB;clear hB
  go_loop [10] (λi=>∃k:Nat,k<=s.size/\i = .int .i64 k/\allF p ((bl s).drop k)=(allF p (bl s))) (λi=>s.size - (intOf i).toNat)
  case atStart=>exact ⟨0,Nat.zero_le _,rfl,rfl⟩
  case round=>
   obtain ⟨k,hk,rfl,hrel⟩:=hrel;have HR:=Lib.hid hrel;clear hrel;by_cases hlt:k<s.size
   .obtain ⟨u,c,hcu,hc0,hc1,hc,hdr⟩:=byte_of hcell k hlt;by_cases hp:p c=true
    .go_wp2_with (first | (go_at_call 178;refine (HC.out _ _).mono ?_;rintro e w' ⟨rfl,rfl⟩) | (go_at_call 198;refine (HC.out _ _).mono ?_;rintro e w' ⟨rfl,rfl⟩))
     go_round
     case rel=>exact ⟨k+1,by omega,by go_num,by rw[<-HR.out,hdr.out,allF_yes (by rw[<-hcu.out];exact hp)]⟩
     case measure=>simp[intOf];omega
    .have hp:p c=false:=by simpa using hp
     go_wp2_with (first | (go_at_call 178;refine (HC.out _ _).mono ?_;rintro e w' ⟨rfl,rfl⟩) | (go_at_call 198;refine (HC.out _ _).mono ?_;rintro e w' ⟨rfl,rfl⟩));go_ret;exact ⟨ret_bool (by rw[<-HR.out,hdr.out,allF_no (by rw[<-hcu.out];exact hp)]),hBw.out▸hbel⟩
   .obtain rfl:k=s.size:=by omega
    go_wp2
    go_ret;exact ⟨ret_bool (by rw[<-HR.out,drop_all];rfl),hBw.out▸hbel⟩
theorem signs_any (s:ByteArray) (w:World) (hs:s.size<=1000000) :
  Calls Tryz.prog 180 #[.string s] w λe w'=>e = .returned (.bool (allF sgn (bl s)))/\Below w.heap.size w w':=by
 go_enter Tryz.func180,Tryz.ntmps180
 go_wp2_with (go_at_call 177;refine (all_any _ _ (Or.inr rfl) (λ_ _=>signs1_any _ _) _ _ hs).mono ?_;rintro e w' ⟨rfl,hb⟩);go_ret;exact ⟨rfl,hb⟩
theorem luhn_any (s:ByteArray) (w:World) (hs:s.size<=1000000) :
  Calls Tryz.prog 179 #[.string s] w λe w'=>e = .returned (.int .i64 (luhnF (bl s) 0))/\Below w.heap.size w w':=by
 have hcv:=λw=>Lib.run_convert_string_bytes (P:=Tryz.prog) w 9 28 5 s Tryz.underlying9 Tryz.underlying28 Tryz.underlying5;obtain ⟨W,C,B,hW,hC,hB,hcell,hbel,-⟩:=conv_names w 5 s
 go_enter Tryz.func179,Tryz.ntmps179
 go_wp2
 rw[<-hW,<-hC,<-hB];clear hcv hW hC;have hBw:=Lib.hid hB;clear hB
 go_loop [3,10] (λn i=>∃(k:Nat) (N:Int),k<=s.size/\i = .int .i64 k/\n = .int .i64 N/\0<=N/\N<=512*k/\luhnF ((bl s).drop k) N=luhnF (bl s) 0) (λ_ i=>s.size - (intOf i).toNat)
 case atStart=>exact ⟨0,0,Nat.zero_le _,rfl,rfl,by omega,by omega,rfl⟩
 case round=>
  obtain ⟨k,N,hk,rfl,rfl,hN0,hN1,hrel⟩:=hrel;have HR:=Lib.hid hrel;clear hrel;by_cases hlt:k<s.size
  .obtain ⟨u,c,hcu,hc0,hc1,hc,hdr⟩:=byte_of hcell k hlt;by_cases hev:((s.size:Int)-k) % 2=0
   .have hpar:=Lib.hid (show (((bl s).drop (k+1)).length+1) % 2=0 by rw[List.length_drop,size_list];omega)
    by_cases hd:9<(c - 48) % 256*2
    .go_wp2
     go_round
     case rel=>exact ⟨k+1,_,by omega,by go_num,rfl,by omega,by omega,by rw[<-HR.out,hdr.out]; exact luhn_step hcu.out (by rw[if_pos hpar.out]; unfold dbl val; split <;> omega)⟩
     case measure=>simp[intOf];omega
    .go_wp2
     go_round
     case rel=>exact ⟨k+1,_,by omega,by go_num,rfl,by omega,by omega,by rw[<-HR.out,hdr.out]; exact luhn_step hcu.out (by rw[if_pos hpar.out]; unfold dbl val; split <;> omega)⟩
     case measure=>simp[intOf];omega
   .have hpar:=Lib.hid (show ¬(((bl s).drop (k+1)).length+1) % 2=0 by rw[List.length_drop,size_list];omega)
    go_wp2
    go_round
    case rel=>exact ⟨k+1,_,by omega,by go_num,rfl,by omega,by omega,by rw[<-HR.out,hdr.out];exact luhn_step hcu.out (by rw[if_neg hpar.out];unfold val;omega)⟩
    case measure=>simp[intOf];omega
  .obtain rfl:k=s.size:=by omega
   have hN:N=luhnF (bl s) 0:=by rw[<-HR.out,drop_all];rfl
   have HN:=Lib.hid hN;clear hN
   go_wp2
   go_ret;exact ⟨ret_int (by rw[HN.out]),hBw.out▸hbel⟩
theorem mod97_any (s:ByteArray) (w:World) (hs:s.size<=1000000) :
  Calls Tryz.prog 181 #[.string s] w λe w'=>e = .returned (.int .i64 (mod97F (bl s) 0))/\Below w.heap.size w w':=by
 have hcv:=λw=>Lib.run_convert_string_bytes (P:=Tryz.prog) w 9 28 5 s Tryz.underlying9 Tryz.underlying28 Tryz.underlying5;obtain ⟨W,C,B,hW,hC,hB,hcell,hbel,-⟩:=conv_names w 5 s
 go_enter Tryz.func181,Tryz.ntmps181
 go_wp2
 rw[<-hW,<-hC,<-hB];clear hcv hW hC;have hBw:=Lib.hid hB;clear hB
 go_loop [3,9] (λn i=>∃(k:Nat) (N:Int),k<=s.size/\i = .int .i64 k/\n = .int .i64 N/\0<=N/\N<97/\mod97F ((bl s).drop k) N=mod97F (bl s) 0) (λ_ i=>s.size - (intOf i).toNat)
 case atStart=>exact ⟨0,0,Nat.zero_le _,rfl,rfl,by omega,by omega,rfl⟩
 case round=>
  obtain ⟨k,N,hk,rfl,rfl,hN0,hN1,hrel⟩:=hrel;have HR:=Lib.hid hrel;clear hrel;by_cases hlt:k<s.size
  .obtain ⟨u,c,hcu,hc0,hc1,hc,hdr⟩:=byte_of hcell k hlt;rcases hdg:dig c
   all_goals
    go_wp2_with (go_at_call 178;refine (digit_any _ _).mono ?_;rintro e w' ⟨rfl,rfl⟩)
    go_round
    case rel=>exact ⟨k+1,_,by omega,by go_num,rfl,by omega,by omega,by rw[<-HR.out,hdr.out];exact mod97_step hcu.out hdg⟩
    case measure=>simp[intOf];omega
  .obtain rfl:k=s.size:=by omega
   have hN:N=mod97F (bl s) 0:=by rw[<-HR.out,drop_all];rfl
   have HN:=Lib.hid hN;clear hN
   go_wp2
   go_ret;exact ⟨ret_int (by rw[HN.out]),hBw.out▸hbel⟩
theorem crc_any (s:ByteArray) (w:World) (hs:s.size<=1000000) :
  Calls Tryz.prog 155 #[.string s] w λe w'=>e = .returned (.int .u32 (crc (bl s)))/\Below w.heap.size w w':=by
 have hcv:=λw=>Lib.run_convert_string_bytes (P:=Tryz.prog) w 9 28 5 s Tryz.underlying9 Tryz.underlying28 Tryz.underlying5;obtain ⟨W,C,B,hW,hC,hB,hcell,hbel,-⟩:=conv_names w 5 s
 go_enter Tryz.func155,Tryz.ntmps155
 go_wp2
 rw[<-hW,<-hC,<-hB];clear hcv hW hC;have hBw:=Lib.hid hB;clear hB
 go_loop [3,10] (λn i=>∃(k:Nat) (N:Int),k<=s.size/\i = .int .i64 k/\n = .int .u32 N/\0<=N/\N<4294967296/\crcF ((bl s).drop k) N=crcF (bl s) 4294967295) (λ_ i=>s.size - (intOf i).toNat)
 case atStart=>exact ⟨0,_,Nat.zero_le _,rfl,rfl,by omega,by omega,rfl⟩
 case round=>
  obtain ⟨k,N,hk,rfl,rfl,hN0,hN1,hrel⟩:=hrel;have HR:=Lib.hid hrel;clear hrel;by_cases hlt:k<s.size
  .obtain ⟨u,c,hcu,hc0,hc1,hc,hdr⟩:=byte_of hcell k hlt
   go_wp2
   obtain ⟨X,hX⟩:∃X,X=bits .xor .u32 N c:=⟨_,rfl⟩;have hXb:=u32_bd .xor N c;rw[<-hX]at hXb|-;have HX:=Lib.hid hX;clear hX
   go_loop [3,18] (λn i=>∃(j:Nat) (M:Int),j<=8/\i = .int .i64 j/\n = .int .u32 M/\0<=M/\M<4294967296/\crcBits (8-j) M=crcBits 8 X) (λ_ i=>8 - (intOf i).toNat)
   case atStart=>exact ⟨0,X,by omega,rfl,rfl,by omega,by omega,rfl⟩
   case round=>
    obtain ⟨j,M,hj,rfl,rfl,hM0,hM1,hrel⟩:=hrel;have HI:=Lib.hid hrel;clear hrel;by_cases hlj:j<8
    .have hs8:=Lib.hid (show 8-j=(8 - (j+1))+1 by omega)
     have hcb:=Lib.hid (crcBit_bd hM0 hM1);rcases hb:(bits .and .u32 M 1 == 1)
     .go_wp2
      go_round
      case rel=>exact ⟨j+1,M / 2,by omega,by go_num,rfl,by omega,by omega,by rw[<-HI.out,hs8.out,crcBits_step,crc_no hb]⟩
      case measure=>simp[intOf];omega
     .go_wp2
      go_round
      case rel=>exact ⟨j+1,_,by omega,by go_num,rfl,(u32_bd _ _ _).1,(u32_bd _ _ _).2,by rw[<-HI.out,hs8.out,crcBits_step,crc_yes hb]⟩
      case measure=>simp[intOf];omega
    .obtain rfl:j=8:=by omega
     go_wp2
     go_round
     case rel=>exact ⟨k+1,M,by omega,by go_num,rfl,by omega,by omega,by rw[<-HR.out,hdr.out,crcF,<-hcu.out,<-HX.out,<-HI.out];rfl⟩
     case measure=>simp[intOf];omega
  .obtain rfl:k=s.size:=by omega
   have hN:N=crcF (bl s) 4294967295:=by rw[<-HR.out,drop_all];rfl
   have HN:=Lib.hid hN;clear hN
   go_wp2
   go_ret;exact ⟨ret_int (by unfold crc;rw[<-HN.out,<-xor_max]),hBw.out▸hbel⟩
theorem luhnP_any (s:ByteArray) (w:World) (hs:s.size<=1000000) :
  Calls Tryz.prog 152 #[.string s] w λe w'=>e = .returned (.bool (luhnP (bl s)))/\Below w.heap.size w w':=by
 have hn:=Lib.hid (luhnF_bd (bl s) 0 (by omega))
 by_cases h2:s.size<2
 .go_enter Tryz.func152,Tryz.ntmps152
  go_wp2
  go_ret;exact ⟨ret_bool (by unfold luhnP;rw[decide_eq_false (by rw[size_list];omega)];rfl),Below.refl _ _⟩
 .rcases hd:allF dig (bl s)
  .go_enter Tryz.func152,Tryz.ntmps152
   go_wp2_with (go_at_call 177;refine (all_any _ _ (Or.inl rfl) (λ_ _=>digit_any _ _) _ _ hs).mono ?_;rintro e w1 ⟨rfl,hb1⟩);go_ret;exact ⟨ret_bool (by unfold luhnP;rw[hd];simp),hb1⟩
  .go_enter Tryz.func152,Tryz.ntmps152
   go_wp2_with (first | (go_at_call 177;refine (all_any _ _ (Or.inl rfl) (λ_ _=>digit_any _ _) _ _ hs).mono ?_;rintro e w1 ⟨rfl,hb1⟩) | (go_at_call 179;refine (luhn_any _ _ hs).mono ?_;rintro e w2 ⟨rfl,hb2⟩));go_ret;have hn:=hn.out;exact ⟨ret_bool (by unfold luhnP;rw[hd,decide_eq_true (by rw[size_list];omega),Int.tmod_eq_emod_of_nonneg hn];rfl),hb1.trans (hb2.mono hb1.size)⟩
theorem mod97P_any (s:ByteArray) (w:World) (hs:s.size<=1000000) :
  Calls Tryz.prog 153 #[.string s] w λe w'=>e = .returned (.bool (m97P (bl s)))/\Below w.heap.size w w':=by
 by_cases h2:s.size<3
 .go_enter Tryz.func153,Tryz.ntmps153
  go_wp2
  go_ret;exact ⟨ret_bool (by unfold m97P;rw[decide_eq_false (by rw[size_list];omega)];rfl),Below.refl _ _⟩
 .rcases hd:allF sgn (bl s)
  .go_enter Tryz.func153,Tryz.ntmps153
   go_wp2_with (go_at_call 180;refine (signs_any _ _ hs).mono ?_;rintro e w1 ⟨rfl,hb1⟩);go_ret;exact ⟨ret_bool (by unfold m97P;rw[hd];simp),hb1⟩
  .have hsz:(s.extract (s.size - 2) s.size).size<=1000000:=by rw[ByteArray.size_extract];omega
   have H2:=Lib.hid (extract_last2 s);rcases hd2:allF dig (bl (s.extract (s.size - 2) s.size))
   .go_enter Tryz.func153,Tryz.ntmps153
    go_wp2_with (first | (go_at_call 180;refine (signs_any _ _ hs).mono ?_;rintro e w1 ⟨rfl,hb1⟩) | (go_at_call 177;refine (all_any _ _ (Or.inl rfl) (λ_ _=>digit_any _ _) _ _ hsz).mono ?_;rw[hd2];rintro e w2 ⟨rfl,hb2⟩));go_ret;exact ⟨ret_bool (by unfold m97P;rw[hd,<-H2.out,hd2];simp),hb1.trans (hb2.mono hb1.size)⟩
   .go_enter Tryz.func153,Tryz.ntmps153
    go_wp2_with (first | (go_at_call 180;refine (signs_any _ _ hs).mono ?_;rintro e w1 ⟨rfl,hb1⟩) | (go_at_call 177;refine (all_any _ _ (Or.inl rfl) (λ_ _=>digit_any _ _) _ _ hsz).mono ?_;rw[hd2];rintro e w2 ⟨rfl,hb2⟩) | (go_at_call 181;refine (mod97_any _ _ hs).mono ?_;rintro e w3 ⟨rfl,hb3⟩));go_ret;exact ⟨ret_bool (by unfold m97P;rw[hd,<-H2.out,hd2,decide_eq_true (by rw[size_list];omega)];rfl),(hb1.trans (hb2.mono hb1.size)).trans (hb3.mono (Nat.le_trans hb1.size hb2.size))⟩
set_option maxHeartbeats 400000 in
theorem digits_any (x:Int) (w:World) (h0:0<=x) (h1:x<4294967296) :
  Calls Tryz.prog 154 #[.int .u32 x] w λe w'=>e = .returned (.string (bs (hexR 8 x)))/\Below w.heap.size w w':=by
 go_enter Tryz.func154,Tryz.ntmps154
 go_wp2
 generalize hw0:w.alloc (Obj.cells #[Value.pointer none,Value.slice none 0 0] 205)=w0;have hb0:Below w.heap.size w w0:=hw0▸(Below.refl _ w).alloc (Nat.le_refl _) _;have hi0:IsB w.heap.size [] w0:=⟨by rw[<-hw0];exact Lib.fresh_isBuilder _ _ w,hb0.size⟩
 clear hw0
 go_loopw [4] (λi wr=>∃(m:Nat) (l:List UInt8),m<=8/\i = .int .i64 (4*(m:Int) - 4)/\IsB w.heap.size l wr/\l.length+m=8/\Below w.heap.size w wr/\l++hexR m x=hexR 8 x) (λi _=>(intOf i+4).toNat)
 case atStart=>exact ⟨8,[],by omega,rfl,hi0,rfl,hb0,rfl⟩
 case round=>
  obtain ⟨m,l,hm,rfl,hown,hl,hbel,hrel⟩:=hrel;have HR:=Lib.hid hrel;clear hrel;rcases m with _ | m
  .go_wp2_with (go_at_call 166;refine (builder_string _ _ l _ hown.1 hown.2).mono ?_;rintro e w1 ⟨rfl,hb1⟩);go_ret;exact ⟨ret_str (by rw[<-HR.out];simp[hexR]),hbel.trans hb1⟩
  .obtain ⟨y,hy⟩:∃y,bits .and .u32 (x / 2 ^ (4*(m+1) - 4)) 15=y:=⟨_,rfl⟩;have hyb:y=x / 2 ^ (4*m) % 16:=by rw[<-hy,and15 (div_bd _ h0 h1).1 (div_bd _ h0 h1).2];rfl
   have hy0:0<=y:=by omega
   have hy1:y<16:=by omega
   have HY:=Lib.hid hyb;clear hyb;have hix:=idx_hex .u32 y hy0 hy1;go_wp2_with (go_at_call 182;refine (builder_byte _ l _ (hexd y) rfl _ hown (by omega)).mono ?_;rintro e w1 ⟨rfl,hown1,hb1⟩)
   go_roundw
   case rel=>exact ⟨m,l++[hexd y],by omega,by go_num,hown1,by simp;omega,hbel.trans hb1,by rw[<-HR.out,hexR,<-HY.out];simp⟩
   case measure=>simp[intOf];omega
set_option maxHeartbeats 400000 in
theorem holds_crc (s:ByteArray) (w:World) (hs:s.size<=1000000) :
  Calls Tryz.prog 125 #[.int .i64 3, .string s] w λe w'=>e = .returned (.bool (crcH (bl s)))/\Below w.heap.size w w':=by
 by_cases h9:s.size<9
 .have hd:decide ((9:Int)<=s.size)=false:=decide_eq_false (by omega)
  go_enter Tryz.func125,Tryz.ntmps125
  go_wp2_with fail;refine wp_region_below (Below.refl w.heap.size w) (by kernel_rfl) (by kernel_rfl) ?_
  repeat (go_big_quiet_step (fail))
  refine wpQuiet_nil ?_;intro _ hw';obtain ⟨⟨w2,hw2⟩,rfl⟩:=hw'
  go_wp2
  go_ret;exact ⟨ret_bool (crcH_no h9).symm,hw2⟩
 .have hd:decide ((9:Int)<=s.size)=true:=decide_eq_true (by omega)
  have hsz:(s.extract 0 (s.size - 8)).size<=1000000:=by rw[ByteArray.size_extract];omega
  have hcb:=Lib.hid (crc_bd (bl (s.extract 0 (s.size - 8))))
  go_enter Tryz.func125,Tryz.ntmps125
  go_wp2_with fail;refine wp_region_below (Below.refl w.heap.size w) (by kernel_rfl) (by kernel_rfl) ?_
  repeat (go_big_quiet_step (first | (go_at_call 155;exact Calls.below_of (Nat.le_refl _) (crc_any _ _ hsz)) | (go_at_call 154;exact Calls.below_of (Nat.le_refl _) (digits_any _ _ hcb.out.1 hcb.out.2))))
  refine wpQuiet_nil ?_;intro _ hw';obtain ⟨⟨w2,hw2⟩,rfl⟩:=hw'
  go_wp2
  go_ret;exact ⟨ret_bool (crcH_eq h9),hw2⟩
set_option maxHeartbeats 400000 in
theorem holds_let (s:ByteArray) (w:World) (hs:s.size<=1000000) :
  Calls Tryz.prog 125 #[.int .i64 4, .string s] w λe w'=>e = .returned (.bool (letH (bl s)))/\Below w.heap.size w w':=by
 by_cases h9:s.size<2
 .have hd:decide ((2:Int)<=s.size)=false:=decide_eq_false (by omega)
  go_enter Tryz.func125,Tryz.ntmps125
  go_wp2_with fail;refine wp_region_below (Below.refl w.heap.size w) (by kernel_rfl) (by kernel_rfl) ?_
  repeat (go_big_quiet_step (fail))
  refine wpQuiet_nil ?_;intro _ hw';obtain ⟨⟨w2,hw2⟩,rfl⟩:=hw'
  go_wp2
  go_ret;exact ⟨ret_bool (letH_no h9).symm,hw2⟩
 .have hd:decide ((2:Int)<=s.size)=true:=decide_eq_true (by omega)
  have hsz:(s.extract 0 (s.size - 1)).size<=1000000:=by rw[ByteArray.size_extract];omega
  obtain ⟨u,c,hus,hcu,hc0,hc1,hix⟩:=idx_str Tryz.underlying9 s (s.size - 1) (by omega) .i64 ((s.size:Int) - 1) (by omega)
  go_enter Tryz.func125,Tryz.ntmps125
  go_wp2_with fail;refine wp_region_below (Below.refl w.heap.size w) (by kernel_rfl) (by kernel_rfl) ?_
  repeat (go_big_quiet_step (first | (go_at_call 156;exact Calls.below_of (Nat.le_refl _) (letter_any _ _ hsz))))
  refine wpQuiet_nil ?_;intro _ hw';obtain ⟨⟨w2,hw2⟩,rfl⟩:=hw'
  go_wp2
  go_ret;exact ⟨ret_bool (letH_eq h9 u c hus.out hcu.out),hw2⟩
theorem chold_any (c:Int) (s:ByteArray) (w:World) (hs:s.size<=1000000) :
  Calls Tryz.prog 125 #[.int .i64 c, .string s] w λe w'=>e = .returned (.bool (hldP c (bl s)))/\Below w.heap.size w w':=by
 by_cases h0:c=0
 .subst h0
  go_enter Tryz.func125,Tryz.ntmps125
  go_wp2
  go_ret;exact ⟨rfl,Below.refl _ _⟩
 by_cases h1:c=1
 .subst h1
  go_enter Tryz.func125,Tryz.ntmps125
  go_wp2_with (go_at_call 152;refine (luhnP_any _ _ hs).mono ?_;rintro e w1 ⟨rfl,hb1⟩);go_ret;exact ⟨rfl,hb1⟩
 by_cases h2:c=2
 .subst h2
  go_enter Tryz.func125,Tryz.ntmps125
  go_wp2_with (go_at_call 153;refine (mod97P_any _ _ hs).mono ?_;rintro e w1 ⟨rfl,hb1⟩);go_ret;exact ⟨rfl,hb1⟩
 by_cases h3:c=3
 .subst h3;exact holds_crc s w hs
 by_cases h4:c=4
 .subst h4;exact holds_let s w hs
 .go_enter Tryz.func125,Tryz.ntmps125
  go_wp2
  go_ret;exact ⟨ret_bool (by unfold hldP;simp only[h0,h1,h2,h3,h4,if_false]),Below.refl _ _⟩
end Go.Proofs.YtdmoogjddmdmbaaGreatDoor
