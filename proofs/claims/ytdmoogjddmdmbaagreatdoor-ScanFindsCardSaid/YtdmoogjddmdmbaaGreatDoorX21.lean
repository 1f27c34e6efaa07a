/- Walks. -/
import Derived.Shelf.Strings.Builder1
import Derived.Lib.FrozenHead
import Derived.Test.YtdmoogjddmdmbaaGreatDoorProg
import Derived.Test.YtdmoogjddmdmbaaGreatDoorX04
import Derived.Test.YtdmoogjddmdmbaaGreatDoorX05
import Derived.Lib.AppendStr
import Derived.Test.YtdmoogjddmdmbaaGreatDoorX03
set_option maxRecDepth 100000
set_option maxHeartbeats 16000000
set_option linter.unusedVariables false
set_option linter.unusedSimpArgs false
namespace Go.Proofs.YtdmoogjddmdmbaaGreatDoor
open Go.RowKit
section
open Go.Shelf
def rR:Go.Shelf.Ren:=⟨fun|169=>166|n=>n,fun|70=>203|9=>9|0=>0|72=>205|37=>28|127=>222|3=>3|5=>5|n=>n,fun|n=>n⟩
theorem FQ:Go.Proofs.Lays.n169 Tryz.prog rR:={
 mixed:=κ
 f169:=Tryz.func166.trans (congrArg some κ)
 t0:=Tryz.underlying0
 a0:=Tryz.isAgg0
 z0:=Tryz.sizeOf0
 v0:=Tryz.zeroValue0
 t3:=Tryz.underlying3
 a3:=Tryz.isAgg3
 z3:=Tryz.sizeOf3
 v3:=Tryz.zeroValue3
 t9:=Tryz.underlying9
 a9:=Tryz.isAgg9
 z9:=Tryz.sizeOf9
 v9:=Tryz.zeroValue9
 t37:=Tryz.underlying28
 a37:=Tryz.isAgg28
 z37:=Tryz.sizeOf28
 v37:=Tryz.zeroValue28
 t70:=Tryz.underlying203
 a70:=Tryz.isAgg203
 z70:=Tryz.sizeOf203
 v70:=Tryz.zeroValue203
 t72:=Tryz.underlying205
 a72:=Tryz.isAgg205
 z72:=Tryz.sizeOf205
 v72:=Tryz.zeroValue205
 t127:=Tryz.underlying222
 a127:=Tryz.isAgg222
 z127:=Tryz.sizeOf222
 v127:=Tryz.zeroValue222 }
theorem jg:Builder.Extra Tryz.prog rR:={
 sizeBuilder:=κ
 liesBuilder:=κ
 t5:=Tryz.underlying5
 a5:=Tryz.isAgg5
 z5:=Tryz.sizeOf5
 v5:=Tryz.zeroValue5
 infoByte:=κ
 cellsByte:=κ
 sizeByte:=κ
 neB5:=by decide }
open Go.RowKit in
theorem tX(B b:Nat)(l:List UInt8)(w:World)(h:Lib.IsBuilder 205 5 B b (Lib.byteCells l) w)(qO:B<=w.heap.size):
  Calls Tryz.prog 166 #[.pointer (some ⟨b,0,none⟩)] w λe w'=>e=.returned (.string (bs l))/\Below B w w':=Any.Builder_String_any FQ jg B b l w h qO
open Go.RowKit
theorem pI:∃j,Tryz.prog.info? 205=some j/\j.size=2:=by
 have h:(Tryz.prog.info? 205).map (·.size)=some 2:=κ;obtain ⟨j,h1,h2⟩:=Option.map_eq_some_iff.1 h;exact ⟨j,h1,h2⟩
theorem yy:liesAt Tryz.prog Tryz.prog.depth 205 (2 / Tryz.prog.cellsOf 205) 0 205 1=true:=κ
theorem Ij(b:Nat)(w:World)(h0:w.cell? ⟨b,0,none⟩=some (.pointer (some ⟨b,0,none⟩))):
  Calls Tryz.prog 189 #[.pointer (some ⟨b,0,none⟩)] w λe w'=>e=.returned (.tuple #[])/\w=w':=by
 obtain ⟨j,hj,-⟩:=pI
 go_enter Tryz.func189,Tryz.ntmps189
 go_wp2
 rw[Lib.run_neq_ptr_same w _ Tryz.underlying203 hj]
 go_wp2
 go_end0
 exact ⟨rfl,rfl⟩
theorem DQ(b:Nat)(w:World)(h0:w.cell? ⟨b,0,none⟩=some (.pointer none))(Bg:w.shape? b=some (205,2))(we:w.frozen? ⟨b,0,none⟩=false):
  Calls Tryz.prog 189 #[.pointer (some ⟨b,0,none⟩)] w λe w'=>e=.returned (.tuple #[])/\w'=w.setCell ⟨b,0,none⟩ (.pointer (some ⟨b,0,none⟩)):=by
 obtain ⟨j,hj,hjs⟩:=pI
 go_enter Tryz.func189,Tryz.ntmps189
 go_wp2
 rw[Lib.run_to_unsafe w ⟨b,0,none⟩ Tryz.underlying203 Tryz.underlying231 hj (by rw[hjs];decide) Bg (Nat.zero_lt_succ 1)]
 simp only[Result.andThen];rw[Oper.upon_value]
 go_wp2
 rw[run_callFunc_extern Tryz.func203 κ κ κ (e:=Extern.AbiNoEscape.same) κ];rw[Lib.run_noEscape];simp only[Result.andThen];rw[Oper.upon_value]
 go_wp2
 rw[Lib.run_from_unsafe w ⟨b,0,none⟩ Tryz.underlying231 Tryz.underlying203 hj Bg yy];simp only[Result.andThen];rw[Oper.upon_value]
 go_wp2
 go_end0
 exact ⟨rfl,rfl⟩
theorem Bh(B b:Nat)(bs:List Value)(w:World)(h:Lib.IsBuilder 205 5 B b bs w):
  Calls Tryz.prog 189 #[.pointer (some ⟨b,0,none⟩)] w λe w'=>e=.returned (.tuple #[])/\Lib.BuilderAt 205 5 B b (.pointer (some ⟨b,0,none⟩)) bs w'/\Below B w w':=by
 rcases h with h|h
 .refine (DQ b w h.cell0 h.shape h.frozen0).mono ?_;rintro e w' ⟨rfl,rfl⟩;exact ⟨rfl,h.used _,(Below.refl B w).sc b 0 h.1 _⟩
 .refine (Ij b w h.cell0).mono ?_;rintro e w' ⟨rfl,rfl⟩;exact ⟨rfl,h,Below.refl B _⟩
def DR(b:Nat)(l:List UInt8)(w:World):Prop:=Lib.IsBuilder 205 5 b b (Lib.byteCells l) w/\b<=w.heap.size
set_option maxRecDepth 100000 in
theorem yz(b:Nat)(l:List UInt8)(c:Int)(u:UInt8)(hu:c=u.toNat)(w:World)(h:DR b l w)(hlen:l.length<=1000000000):
  Calls Tryz.prog 182 #[.pointer (some ⟨b,0,none⟩),.int .u8 c] w λe w'=>e=.returned .nilIface/\DR b (l++[u]) w'/\Below b w w':=by
 obtain ⟨i0,hi,hz0,hz1,hz2⟩:=info_parts kt;obtain ⟨h,qO⟩:=h;have gO:(Lib.byteCells l).length=l.length:=Lib.byteCells_length l;have Hbl:=Z gO;clear gO;have hx:=Z (show Lib.byteCells l++[Value.int .u8 c]=Lib.byteCells (l++[u]) by subst hu;simp[Lib.byteCells])
 clear hu
 go_enter Tryz.func182,Tryz.ntmps182
 go_wp2_with (go_at_call 189;refine (Bh b b _ _ h).mono ?_);rintro e w1 ⟨rfl,h1,hb1⟩;obtain ⟨hB,v,vS,hown,hne⟩:=h1;have c0:w1.cell? ⟨b,0,none⟩=some (.pointer (some ⟨b,0,none⟩)):=by rw[Lib.cell_of_heap vS];rfl
 have c1:w1.cell? ⟨b,1,none⟩=some v:=by rw[Lib.cell_of_heap vS];rfl
 go_wp2_with (at_builtin;refine wpList_append_own _ rfl _ _ 28 rfl b 5 i0 (.int .u8 0) 1 1 Tryz.underlying28 hi hz0 hz1 hz2 rfl O _ _ _ rfl (hown.alloc _) ⟨w1.heap.size,0,none⟩ 1 1 [.int .u8 c] rfl rfl ?c1 ?c2 ?c3 ?c4 ?c5 ?_)
 case c1=>
  intro j x hj
  match j,hj with
  |0,hj=>simp at hj;subst hj;simp[Addr.add]
 case c2=>intro x hx;simp at hx;subst hx;rfl
 case c3=>have:=Hbl.out;unfold maxLen;omega
 case c4=>have:=Hbl.out;omega
 case c5=>exact Nat.le_trans (Nat.le_trans qO hb1.size) ((Below.refl 0 w1).alloc (Nat.zero_le _) _).size
 intro v' w2 Bi hgrow _;have hlt:b<w1.heap.size:=by
  rcases Nat.lt_or_ge b w1.heap.size with h'|h'
  .exact h'
  .simp[Array.getElem?_eq_none h']at vS
 have aJ:w2.heap[b]?=some (.cells #[.pointer (some ⟨b,0,none⟩),v] 205 (0,0)):=by
  rw[hgrow.block b ψ (λe=>hne e.symm),Lib.alloc_old w1 _ b hlt];exact vS
 have d0:w2.cell? ⟨b,0,none⟩=some (.pointer (some ⟨b,0,none⟩)):=by rw[Lib.cell_of_heap aJ];rfl
 have d1:w2.cell? ⟨b,1,none⟩=some v:=by rw[Lib.cell_of_heap aJ];rfl
 have f1:w2.frozen? ⟨b,1,none⟩=false:=Lib.frozen_of_heap aJ 1;obtain ⟨g,cap,rfl⟩:∃g cap,v'=.slice (some ⟨g,0,none⟩) ((Lib.byteCells l).length+1) cap:=by
  rcases Bi.2 with ⟨_,h0⟩|⟨g,cap,cur,hv,_⟩
  .omega
  .exact ⟨g,cap,hv⟩
 go_wp2
 go_ret;have hbelow:Below b w (w2.setCell ⟨b,1,none⟩ (.slice (some ⟨g,0,none⟩) ((Lib.byteCells l).length+1) cap)):=
  ((hb1.alloc (by have:=hb1.size;omega) _).grown hgrow (by have:=hb1.size;simp;omega) (λk hk=>(hown.lt k hk).1)).sc b 1 hB _
 refine ⟨rfl,⟨Or.inr ?_,Nat.le_trans qO hbelow.size⟩,hbelow⟩;exact Lib.BuilderAt.put (T:=205) (e:=5) hB aJ (bs':=Lib.byteCells (l++[u])) (by rw[<-hx.out,List.length_append];exact Bi) O
end
theorem mz(b:Nat)(l:List UInt8)(s:ByteArray)(w:World)(h:DR b l w)(hlen:l.length<=1000000000)(hs:s.size<=1000000):
  Calls Tryz.prog 164 #[.pointer (some ⟨b,0,none⟩),.string s] w λe w'=>e=.returned (.tuple #[.int .i64 s.size,.nilIface])/\DR b (l++bl s) w'/\Below b w w':=by
 obtain ⟨i0,hi,hz0,hz1,hz2⟩:=info_parts kt;obtain ⟨h,qO⟩:=h
 go_enter Tryz.func164,Tryz.ntmps164
 go_wp2_with (go_at_call 189;refine (Bh b b _ _ h).mono ?_);rintro e w1 ⟨rfl,h1,hb1⟩;obtain ⟨hB,v,vS,hown,hne⟩:=h1;have c0:w1.cell? ⟨b,0,none⟩=some (.pointer (some ⟨b,0,none⟩)):=by rw[Lib.cell_of_heap vS];rfl
 have c1:w1.cell? ⟨b,1,none⟩=some v:=by rw[Lib.cell_of_heap vS];rfl
 have FL:(Lib.byteCells l).length=l.length:=Lib.byteCells_length l;have TG:=Z FL;clear FL;go_wp2_with (at_builtin;refine Lib.wpList_append_own_string _ rfl _ _ 28 9 rfl b 5 i0 Tryz.underlying28 Tryz.underlying9 hi hz0 hz1 hz2 _ _ _ rfl hown s rfl ?c1 ?c2 (Nat.le_trans qO hb1.size) ?_)
 case c1=>have:=TG.out;unfold maxLen;omega
 case c2=>have:=TG.out;omega
 intro v' w2 Bi hgrow _;have hlt:b<w1.heap.size:=by
  rcases Nat.lt_or_ge b w1.heap.size with h'|h'
  .exact h'
  .simp[Array.getElem?_eq_none h']at vS
 have aJ:w2.heap[b]?=some (.cells #[.pointer (some ⟨b,0,none⟩),v] 205 (0,0)):=by
  rw[hgrow.block b hlt (λe=>hne e.symm)];exact vS
 have d0:w2.cell? ⟨b,0,none⟩=some (.pointer (some ⟨b,0,none⟩)):=by rw[Lib.cell_of_heap aJ];rfl
 have d1:w2.cell? ⟨b,1,none⟩=some v:=by rw[Lib.cell_of_heap aJ];rfl
 have f1:w2.frozen? ⟨b,1,none⟩=false:=Lib.frozen_of_heap aJ 1;obtain ⟨A,n,cap,rfl⟩:∃A n cap,v'=.slice A n cap:=by
  rcases Bi.2 with ⟨h0,_⟩|⟨g,cap,cur,hv,_⟩
  .exact ⟨_,_,_,h0⟩
  .exact ⟨_,_,_,hv⟩
 go_wp2
 go_ret2
 have hbelow:Below b w (w2.setCell ⟨b,1,none⟩ (.slice A n cap)):=
  (hb1.grown hgrow (Nat.le_trans qO hb1.size) (λk hk=>(hown.lt k hk).1)).sc b 1 hB _
 refine ⟨rfl,⟨Or.inr ?_,Nat.le_trans qO hbelow.size⟩,hbelow⟩;have hx:Lib.byteCells l++Lib.strCells s=Lib.byteCells (l++bl s):=by simp[Lib.byteCells,Lib.strCells,bl]
 exact Lib.BuilderAt.put (T:=205) (e:=5) hB aJ (bs':=Lib.byteCells (l++bl s)) (by rw[<-hx,List.length_append,show (Lib.strCells s).length=s.size by simp[Lib.strCells]];exact Bi) O
theorem fP(c:Int)(w:World):
  Calls Tryz.prog 178 #[.int .u8 c] w λe w'=>e=.returned (.bool (mT c))/\w=w':=by
 by_cases h:48<=c
 all_goals
  go_enter Tryz.func178,Tryz.ntmps178
  go_wp2
  go_ret;exact ⟨ae (by unfold mT;first | (simp[h];done) | (rw[θ];rfl)),rfl⟩
theorem Bl(c:Int)(w:World):
  Calls Tryz.prog 199 #[.int .u8 c] w λe w'=>e=.returned (.bool (cap c))/\w=w':=by
 by_cases h:65<=c
 all_goals
  go_enter Tryz.func199,Tryz.ntmps199
  go_wp2
  go_ret;exact ⟨ae (by unfold cap;first | (simp[h];done) | (rw[θ];rfl)),rfl⟩
theorem DW(s:ByteArray)(w:World)(hs:s.size<=1000000):
  Calls Tryz.prog 156 #[.string s] w λe w'=>e=.returned (.int .u8 (65+mj (bl s) 0 0))/\Below w.heap.size w w':=by
 have hcv:=λw=>Lib.run_convert_string_bytes (P:=Tryz.prog) w 9 28 5 s Tryz.underlying9 Tryz.underlying28 Tryz.underlying5;obtain ⟨W,C,B,hW,hC,hB,hcell,aT,-⟩:=dt w 5 s;have yF:=yG (bl s) 0 0 Y Y
 go_enter Tryz.func156,Tryz.ntmps156
 go_wp2
 rw[<-hW,<-hC,<-hB];clear hcv hW hC;have qO:=Z hB;clear hB
 go_loop [3,4,5,9] (λn _ _ i=>∃(k:Nat) (N:Int),k<=s.size/\i=.int .i64 k/\n=.int .i64 N/\0<=N/\N<26/\mj ((bl s).drop k) k N=mj (bl s) 0 0) (λ_ _ _ i=>s.size - (intOf i).toNat)
 case atStart=>exact ⟨0,0,Nat.zero_le _,rfl,rfl,Y,Y,rfl⟩
 case round=>
  obtain ⟨k,N,hk,rfl,rfl,Lx,vY,hrel⟩:=hrel;have HR:=Z hrel;clear hrel;by_cases hlt:k<s.size
  .obtain ⟨u,c,lD,lW,lY,hc,hdr⟩:=mL hcell k hlt;have hp:=rT c k lW lY Y
   go_wp2
   go_round
   case rel=>
    refine ⟨k+1,(N+c*((k+1) % 26)) % 26,Y,by go_num,rfl,Y,Y,?_⟩
    rw[<-HR.out,hdr.out,lD.out];rfl
   case measure=>exact μ
  .obtain rfl:k=s.size:=Y;have hN:N=mj (bl s) 0 0:=by rw[<-HR.out,ez];rfl
   have HN:=Z hN;clear hN yF
   go_wp2
   go_ret;exact ⟨aC (by rw[HN.out]),qO.out▸aT⟩
theorem DX(c:Int)(w:World):
  Calls Tryz.prog 198 #[.int .u8 c] w λe w'=>e=.returned (.bool (vT c))/\w=w':=by
 by_cases h:mT c=true
 .go_enter Tryz.func198,Tryz.ntmps198
  go_wp2_with (go_at_call 178;refine (fP _ _).mono ?_;rintro e w' ⟨rfl,rfl⟩);go_ret;exact ⟨ae (by unfold vT;rw[h];rfl),rfl⟩
 .have h:mT c=false:=by simpa using h
  go_enter Tryz.func198,Tryz.ntmps198
  go_wp2_with (first | (go_at_call 178;refine (fP _ _).mono ?_;rintro e w' ⟨rfl,rfl⟩) | (go_at_call 199;refine (Bl _ _).mono ?_;rintro e w' ⟨rfl,rfl⟩));go_ret;exact ⟨ae (by unfold vT;rw[h];rfl),rfl⟩
theorem pL(n:FuncId)(p:Int->Bool)(hn:n=178\/n=198)
  (Hv:∀c w,Calls Tryz.prog n #[.int .u8 c] w λe w'=>e=.returned (.bool (p c))/\w=w') (s:ByteArray) (w:World) (hs:s.size<=1000000) :
  Calls Tryz.prog 177 #[.string s,.func (.func n) #[] #[]] w λe w'=>e=.returned (.bool (du p (bl s)))/\Below w.heap.size w w':=by
 have hcv:=λw=>Lib.run_convert_string_bytes (P:=Tryz.prog) w 9 28 5 s Tryz.underlying9 Tryz.underlying28 Tryz.underlying5;obtain ⟨W,C,B,hW,hC,hB,hcell,aT,-⟩:=dt w 5 s;have HC:=Z Hv;clear Hv;rcases hn with rfl|rfl
 all_goals
  go_enter Tryz.func177,Tryz.ntmps177
  go_wp2
  rw[<-hW,<-hC,<-hB];clear hcv hW hC;have qO:=Z hB;clear hB
  go_loop [10] (λi=>∃k:Nat,k<=s.size/\i=.int .i64 k/\du p ((bl s).drop k)=(du p (bl s))) (λi=>s.size - (intOf i).toNat)
  case atStart=>exact ⟨0,Nat.zero_le _,rfl,rfl⟩
  case round=>
   obtain ⟨k,hk,rfl,hrel⟩:=hrel;have HR:=Z hrel;clear hrel;by_cases hlt:k<s.size
   .obtain ⟨u,c,lD,lW,lY,hc,hdr⟩:=mL hcell k hlt;by_cases hp:p c=true
    .go_wp2_with (first | (go_at_call 178;refine (HC.out _ _).mono ?_;rintro e w' ⟨rfl,rfl⟩) | (go_at_call 198;refine (HC.out _ _).mono ?_;rintro e w' ⟨rfl,rfl⟩))
     go_round
     case rel=>exact ⟨k+1,Y,by go_num,by rw[<-HR.out,hdr.out,pM (by rw[<-lD.out];exact hp)]⟩
     case measure=>exact μ
    .have hp:p c=false:=by simpa using hp
     go_wp2_with (first | (go_at_call 178;refine (HC.out _ _).mono ?_;rintro e w' ⟨rfl,rfl⟩) | (go_at_call 198;refine (HC.out _ _).mono ?_;rintro e w' ⟨rfl,rfl⟩));go_ret;exact ⟨ae (by rw[<-HR.out,hdr.out,mU (by rw[<-lD.out];exact hp)]),qO.out▸aT⟩
   .obtain rfl:k=s.size:=Y
    go_wp2
    go_ret;exact ⟨ae (by rw[<-HR.out,ez];rfl),qO.out▸aT⟩
theorem qQ(s:ByteArray)(w:World)(hs:s.size<=1000000):
  Calls Tryz.prog 180 #[.string s] w λe w'=>e=.returned (.bool (du vT (bl s)))/\Below w.heap.size w w':=by
 go_enter Tryz.func180,Tryz.ntmps180
 go_wp2_with (go_at_call 177;refine (pL _ _ (Or.inr rfl) (λ_ _=>DX _ _) _ _ hs).mono ?_;rintro e w' ⟨rfl,hb⟩);go_ret;exact ⟨rfl,hb⟩
theorem Lz(s:ByteArray)(w:World)(hs:s.size<=1000000):
  Calls Tryz.prog 179 #[.string s] w λe w'=>e=.returned (.int .i64 (gu (bl s) 0))/\Below w.heap.size w w':=by
 have hcv:=λw=>Lib.run_convert_string_bytes (P:=Tryz.prog) w 9 28 5 s Tryz.underlying9 Tryz.underlying28 Tryz.underlying5;obtain ⟨W,C,B,hW,hC,hB,hcell,aT,-⟩:=dt w 5 s
 go_enter Tryz.func179,Tryz.ntmps179
 go_wp2
 rw[<-hW,<-hC,<-hB];clear hcv hW hC;have qO:=Z hB;clear hB
 go_loop [3,10] (λn i=>∃(k:Nat) (N:Int),k<=s.size/\i=.int .i64 k/\n=.int .i64 N/\0<=N/\N<=512*k/\gu ((bl s).drop k) N=gu (bl s) 0) (λ_ i=>s.size - (intOf i).toNat)
 case atStart=>exact ⟨0,0,Nat.zero_le _,rfl,rfl,Y,Y,rfl⟩
 case round=>
  obtain ⟨k,N,hk,rfl,rfl,Lx,vY,hrel⟩:=hrel;have HR:=Z hrel;clear hrel;by_cases hlt:k<s.size
  .obtain ⟨u,c,lD,lW,lY,hc,hdr⟩:=mL hcell k hlt;by_cases hev:((s.size:Int)-k) % 2=0
   .have Ql:=Z (show (((bl s).drop (k+1)).length+1) % 2=0 by rw[List.length_drop,aE];omega)
    by_cases hd:9<(c - 48) % 256*2
    .go_wp2
     go_round
     case rel=>exact ⟨k+1,_,Y,by go_num,rfl,Y,Y,by rw[<-HR.out,hdr.out]; exact qR lD.out (by rw[if_pos Ql.out]; unfold Ph val; split <;> omega)⟩
     case measure=>exact μ
    .go_wp2
     go_round
     case rel=>exact ⟨k+1,_,Y,by go_num,rfl,Y,Y,by rw[<-HR.out,hdr.out]; exact qR lD.out (by rw[if_pos Ql.out]; unfold Ph val; split <;> omega)⟩
     case measure=>exact μ
   .have Ql:=Z (show ¬(((bl s).drop (k+1)).length+1) % 2=0 by rw[List.length_drop,aE];omega)
    go_wp2
    go_round
    case rel=>exact ⟨k+1,_,Y,by go_num,rfl,Y,Y,by rw[<-HR.out,hdr.out];exact qR lD.out (by rw[if_neg Ql.out];unfold val;omega)⟩
    case measure=>exact μ
  .obtain rfl:k=s.size:=Y;have hN:N=gu (bl s) 0:=by rw[<-HR.out,ez];rfl
   have HN:=Z hN;clear hN
   go_wp2
   go_ret;exact ⟨aC (by rw[HN.out]),qO.out▸aT⟩
theorem Io(s:ByteArray)(w:World)(hs:s.size<=1000000):
  Calls Tryz.prog 181 #[.string s] w λe w'=>e=.returned (.int .i64 (fQ (bl s) 0))/\Below w.heap.size w w':=by
 have hcv:=λw=>Lib.run_convert_string_bytes (P:=Tryz.prog) w 9 28 5 s Tryz.underlying9 Tryz.underlying28 Tryz.underlying5;obtain ⟨W,C,B,hW,hC,hB,hcell,aT,-⟩:=dt w 5 s
 go_enter Tryz.func181,Tryz.ntmps181
 go_wp2
 rw[<-hW,<-hC,<-hB];clear hcv hW hC;have qO:=Z hB;clear hB
 go_loop [3,9] (λn i=>∃(k:Nat) (N:Int),k<=s.size/\i=.int .i64 k/\n=.int .i64 N/\0<=N/\N<97/\fQ ((bl s).drop k) N=fQ (bl s) 0) (λ_ i=>s.size - (intOf i).toNat)
 case atStart=>exact ⟨0,0,Nat.zero_le _,rfl,rfl,Y,Y,rfl⟩
 case round=>
  obtain ⟨k,N,hk,rfl,rfl,Lx,vY,hrel⟩:=hrel;have HR:=Z hrel;clear hrel;by_cases hlt:k<s.size
  .obtain ⟨u,c,lD,lW,lY,hc,hdr⟩:=mL hcell k hlt;rcases hdg:mT c
   all_goals
    go_wp2_with (go_at_call 178;refine (fP _ _).mono ?_;rintro e w' ⟨rfl,rfl⟩)
    go_round
    case rel=>exact ⟨k+1,_,Y,by go_num,rfl,Y,Y,by rw[<-HR.out,hdr.out];exact DY lD.out hdg⟩
    case measure=>exact μ
  .obtain rfl:k=s.size:=Y;have hN:N=fQ (bl s) 0:=by rw[<-HR.out,ez];rfl
   have HN:=Z hN;clear hN
   go_wp2
   go_ret;exact ⟨aC (by rw[HN.out]),qO.out▸aT⟩
theorem Qm(s:ByteArray)(w:World)(hs:s.size<=1000000):
  Calls Tryz.prog 155 #[.string s] w λe w'=>e=.returned (.int .u32 (Ki (bl s)))/\Below w.heap.size w w':=by
 have hcv:=λw=>Lib.run_convert_string_bytes (P:=Tryz.prog) w 9 28 5 s Tryz.underlying9 Tryz.underlying28 Tryz.underlying5;obtain ⟨W,C,B,hW,hC,hB,hcell,aT,-⟩:=dt w 5 s
 go_enter Tryz.func155,Tryz.ntmps155
 go_wp2
 rw[<-hW,<-hC,<-hB];clear hcv hW hC;have qO:=Z hB;clear hB
 go_loop [3,10] (λn i=>∃(k:Nat) (N:Int),k<=s.size/\i=.int .i64 k/\n=.int .u32 N/\0<=N/\N<4294967296/\wv ((bl s).drop k) N=wv (bl s) 4294967295) (λ_ i=>s.size - (intOf i).toNat)
 case atStart=>exact ⟨0,_,Nat.zero_le _,rfl,rfl,Y,Y,rfl⟩
 case round=>
  obtain ⟨k,N,hk,rfl,rfl,Lx,vY,hrel⟩:=hrel;have HR:=Z hrel;clear hrel;by_cases hlt:k<s.size
  .obtain ⟨u,c,lD,lW,lY,hc,hdr⟩:=mL hcell k hlt
   go_wp2
   obtain ⟨X,hX⟩:∃X,X=bits .xor .u32 N c:=⟨_,rfl⟩;have hXb:=ml .xor N c;rw[<-hX]at hXb|-;have HX:=Z hX;clear hX
   go_loop [3,18] (λn i=>∃(j:Nat) (M:Int),j<=8/\i=.int .i64 j/\n=.int .u32 M/\0<=M/\M<4294967296/\jh (8-j) M=jh 8 X) (λ_ i=>8 - (intOf i).toNat)
   case atStart=>exact ⟨0,X,Y,rfl,rfl,Y,Y,rfl⟩
   case round=>
    obtain ⟨j,M,hj,rfl,rfl,LB,ud,hrel⟩:=hrel;have HI:=Z hrel;clear hrel;by_cases hlj:j<8
    .have YU:=Z (show 8-j=(8 - (j+1))+1 by omega)
     have tZ:=Z (Ip LB ud);rcases hb:(bits .and .u32 M 1 == 1)
     .go_wp2
      go_round
      case rel=>exact ⟨j+1,M / 2,Y,by go_num,rfl,Y,Y,by rw[<-HI.out,YU.out,gZ,LC hb]⟩
      case measure=>exact μ
     .go_wp2
      go_round
      case rel=>exact ⟨j+1,_,Y,by go_num,rfl,(ml _ _ _).1,(ml _ _ _).2,by rw[<-HI.out,YU.out,gZ,FU hb]⟩
      case measure=>exact μ
    .obtain rfl:j=8:=Y
     go_wp2
     go_round
     case rel=>exact ⟨k+1,M,Y,by go_num,rfl,Y,Y,by rw[<-HR.out,hdr.out,wv,<-lD.out,<-HX.out,<-HI.out];rfl⟩
     case measure=>exact μ
  .obtain rfl:k=s.size:=Y;have hN:N=wv (bl s) 4294967295:=by rw[<-HR.out,ez];rfl
   have HN:=Z hN;clear hN
   go_wp2
   go_ret;exact ⟨aC (by unfold Ki;rw[<-HN.out,<-Qn]),qO.out▸aT⟩
theorem Iq(s:ByteArray)(w:World)(hs:s.size<=1000000):
  Calls Tryz.prog 152 #[.string s] w λe w'=>e=.returned (.bool (ue (bl s)))/\Below w.heap.size w w':=by
 have hn:=Z (Bm (bl s) 0 Y);by_cases h2:s.size<2
 .go_enter Tryz.func152,Tryz.ntmps152
  go_wp2
  go_ret;exact ⟨ae (by unfold ue;rw[decide_eq_false (by rw[aE];omega)];rfl),υ⟩
 .rcases hd:du mT (bl s)
  .go_enter Tryz.func152,Tryz.ntmps152
   go_wp2_with (go_at_call 177;refine (pL _ _ (Or.inl rfl) (λ_ _=>fP _ _) _ _ hs).mono ?_;rintro e w1 ⟨rfl,hb1⟩);go_ret;exact ⟨ae (by unfold ue;rw[hd];simp),hb1⟩
  .go_enter Tryz.func152,Tryz.ntmps152
   go_wp2_with (first | (go_at_call 177;refine (pL _ _ (Or.inl rfl) (λ_ _=>fP _ _) _ _ hs).mono ?_;rintro e w1 ⟨rfl,hb1⟩) | (go_at_call 179;refine (Lz _ _ hs).mono ?_;rintro e w2 ⟨rfl,aJ⟩));go_ret;have hn:=hn.out;exact ⟨ae (by unfold ue;rw[hd,decide_eq_true (by rw[aE];omega),Int.tmod_eq_emod_of_nonneg hn];rfl),hb1.trans (aJ.mono hb1.size)⟩
theorem DZ(s:ByteArray)(w:World)(hs:s.size<=1000000):
  Calls Tryz.prog 153 #[.string s] w λe w'=>e=.returned (.bool (Bn (bl s)))/\Below w.heap.size w w':=by
 by_cases h2:s.size<3
 .go_enter Tryz.func153,Tryz.ntmps153
  go_wp2
  go_ret;exact ⟨ae (by unfold Bn;rw[decide_eq_false (by rw[aE];omega)];rfl),υ⟩
 .rcases hd:du vT (bl s)
  .go_enter Tryz.func153,Tryz.ntmps153
   go_wp2_with (go_at_call 180;refine (qQ _ _ hs).mono ?_;rintro e w1 ⟨rfl,hb1⟩);go_ret;exact ⟨ae (by unfold Bn;rw[hd];simp),hb1⟩
  .have hsz:(s.extract (s.size - 2) s.size).size<=1000000:=by rw[ByteArray.size_extract];omega
   have H2:=Z (oq s);rcases kc:du mT (bl (s.extract (s.size - 2) s.size))
   .go_enter Tryz.func153,Tryz.ntmps153
    go_wp2_with (first | (go_at_call 180;refine (qQ _ _ hs).mono ?_;rintro e w1 ⟨rfl,hb1⟩) | (go_at_call 177;refine (pL _ _ (Or.inl rfl) (λ_ _=>fP _ _) _ _ hsz).mono ?_;rw[kc];rintro e w2 ⟨rfl,aJ⟩));go_ret;exact ⟨ae (by unfold Bn;rw[hd,<-H2.out,kc];simp),hb1.trans (aJ.mono hb1.size)⟩
   .go_enter Tryz.func153,Tryz.ntmps153
    go_wp2_with (first | (go_at_call 180;refine (qQ _ _ hs).mono ?_;rintro e w1 ⟨rfl,hb1⟩) | (go_at_call 177;refine (pL _ _ (Or.inl rfl) (λ_ _=>fP _ _) _ _ hsz).mono ?_;rw[kc];rintro e w2 ⟨rfl,aJ⟩) | (go_at_call 181;refine (Io _ _ hs).mono ?_;rintro e w3 ⟨rfl,bW⟩));go_ret;exact ⟨ae (by unfold Bn;rw[hd,<-H2.out,kc,decide_eq_true (by rw[aE];omega)];rfl),(hb1.trans (aJ.mono hb1.size)).trans (bW.mono (Nat.le_trans hb1.size aJ.size))⟩
theorem D3(x:Int)(w:World)(h0:0<=x)(h1:x<4294967296):
  Calls Tryz.prog 154 #[.int .u32 x] w λe w'=>e=.returned (.string (bs (ky 8 x)))/\Below w.heap.size w w':=by
 go_enter Tryz.func154,Tryz.ntmps154
 go_wp2
 generalize FR:w.alloc (Obj.cells #[Value.pointer none,Value.slice none 0 0] 205)=w0;have hb0:Below w.heap.size w w0:=FR▸(Below.refl _ w).alloc I _;have Ir:DR w.heap.size [] w0:=⟨by rw[<-FR];exact Lib.fresh_isBuilder _ _ w,hb0.size⟩
 clear FR;go_loopw [4] (λi wr=>∃(m:Nat) (l:List UInt8),m<=8/\i=.int .i64 (4*(m:Int) - 4)/\DR w.heap.size l wr/\l.length+m=8/\Below w.heap.size w wr/\l++ky m x=ky 8 x) (λi _=>(intOf i+4).toNat)
 case atStart=>exact ⟨8,[],Y,rfl,Ir,rfl,hb0,rfl⟩
 case round=>
  obtain ⟨m,l,hm,rfl,hown,hl,aT,hrel⟩:=hrel;have HR:=Z hrel;clear hrel;rcases m with _|m
  .go_wp2_with (go_at_call 166;refine (tX _ _ l _ hown.1 hown.2).mono ?_;rintro e w1 ⟨rfl,hb1⟩);go_ret;exact ⟨tk (by rw[<-HR.out];simp[ky]),aT.trans hb1⟩
  .obtain ⟨y,hy⟩:=ν (bits .and .u32 (x / 2 ^ (4*(m+1) - 4)) 15);have Di:y=x / 2 ^ (4*m) % 16:=by rw[<-hy,Tu (yH _ h0 h1).1 (yH _ h0 h1).2];rfl
   have YV:0<=y:=Y;have K9:y<16:=Y;have HY:=Z Di;clear Di;have Dj:=FV .u32 y YV K9;go_wp2_with (go_at_call 182;refine (yz _ l _ (D4 y) rfl _ hown Y).mono ?_;rintro e w1 ⟨rfl,hown1,hb1⟩);go_roundw
   case rel=>exact ⟨m,l++[D4 y],Y,by go_num,hown1,ψ,aT.trans hb1,by rw[<-HR.out,ky,<-HY.out];simp⟩
   case measure=>exact μ
theorem Iu(s:ByteArray)(w:World)(hs:s.size<=1000000):
  Calls Tryz.prog 125 #[.int .i64 3,.string s] w λe w'=>e=.returned (.bool (Bo (bl s)))/\Below w.heap.size w w':=by
 by_cases h9:s.size<9
 .have hd:decide ((9:Int)<=s.size)=false:=θ
  go_enter Tryz.func125,Tryz.ntmps125
  go_wp2_with fail;refine aq (Below.refl w w) κ κ ?_
  repeat (go_big_quiet_step (fail))
  refine wpQuiet_nil ?_;intro _ hw';obtain ⟨⟨w2,ew⟩,rfl⟩:=hw'
  go_wp2
  go_ret;exact ⟨ae (FW h9).symm,ew⟩
 .have hd:decide ((9:Int)<=s.size)=true:=τ;have hsz:(s.extract 0 (s.size - 8)).size<=1000000:=by rw[ByteArray.size_extract];omega
  have tZ:=Z (D5 (bl (s.extract 0 (s.size - 8))))
  go_enter Tryz.func125,Tryz.ntmps125
  go_wp2_with fail;refine aq (Below.refl w w) κ κ ?_
  repeat (go_big_quiet_step (first | (go_at_call 155;exact Calls.bZ I (Qm _ _ hsz)) | (go_at_call 154;exact Calls.bZ I (D3 _ _ tZ.out.1 tZ.out.2))))
  refine wpQuiet_nil ?_;intro _ hw';obtain ⟨⟨w2,ew⟩,rfl⟩:=hw'
  go_wp2
  go_ret;exact ⟨ae (FX h9),ew⟩
theorem Iv(s:ByteArray)(w:World)(hs:s.size<=1000000):
  Calls Tryz.prog 125 #[.int .i64 4,.string s] w λe w'=>e=.returned (.bool (Bp (bl s)))/\Below w.heap.size w w':=by
 by_cases h9:s.size<2
 .have hd:decide ((2:Int)<=s.size)=false:=θ
  go_enter Tryz.func125,Tryz.ntmps125
  go_wp2_with fail;refine aq (Below.refl w w) κ κ ?_
  repeat (go_big_quiet_step (fail))
  refine wpQuiet_nil ?_;intro _ hw';obtain ⟨⟨w2,ew⟩,rfl⟩:=hw'
  go_wp2
  go_ret;exact ⟨ae (FY h9).symm,ew⟩
 .have hd:decide ((2:Int)<=s.size)=true:=τ;have hsz:(s.extract 0 (s.size - 1)).size<=1000000:=by rw[ByteArray.size_extract];omega
  obtain ⟨u,c,Pj,lD,lW,lY,Dj⟩:=mM Tryz.underlying9 s (s.size - 1) Y .i64 ((s.size:Int) - 1) Y
  go_enter Tryz.func125,Tryz.ntmps125
  go_wp2_with fail;refine aq (Below.refl w w) κ κ ?_
  repeat (go_big_quiet_step (first | (go_at_call 156;exact Calls.bZ I (DW _ _ hsz))))
  refine wpQuiet_nil ?_;intro _ hw';obtain ⟨⟨w2,ew⟩,rfl⟩:=hw'
  go_wp2
  go_ret;exact ⟨ae (FZ h9 u c Pj.out lD.out),ew⟩
theorem Hp(c:Int)(s:ByteArray)(w:World)(hs:s.size<=1000000):
  Calls Tryz.prog 125 #[.int .i64 c,.string s] w λe w'=>e=.returned (.bool (DC c (bl s)))/\Below w.heap.size w w':=by
 by_cases h0:c=0
 .subst h0
  go_enter Tryz.func125,Tryz.ntmps125
  go_wp2
  go_ret;exact ⟨rfl,υ⟩
 by_cases h1:c=1
 .subst h1
  go_enter Tryz.func125,Tryz.ntmps125
  go_wp2_with (go_at_call 152;refine (Iq _ _ hs).mono ?_;rintro e w1 ⟨rfl,hb1⟩);go_ret;exact ⟨rfl,hb1⟩
 by_cases h2:c=2
 .subst h2
  go_enter Tryz.func125,Tryz.ntmps125
  go_wp2_with (go_at_call 153;refine (DZ _ _ hs).mono ?_;rintro e w1 ⟨rfl,hb1⟩);go_ret;exact ⟨rfl,hb1⟩
 by_cases h3:c=3
 .subst h3;exact Iu s w hs
 by_cases h4:c=4
 .subst h4;exact Iv s w hs
 .go_enter Tryz.func125,Tryz.ntmps125
  go_wp2
  go_ret;exact ⟨ae (by unfold DC;simp only[h0,h1,h2,h3,h4,if_false]),υ⟩
end Go.Proofs.YtdmoogjddmdmbaaGreatDoor
