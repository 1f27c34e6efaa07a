/- A strings.Builder that a call has made itself: what WriteByte, WriteString and String do, for all bytes, up to 1000000000 bytes. String's contract is the shelf's, laid at this program. · A strings.Builder: WriteString. -/
import Derived.Shelf.Strings.Builder1
import Derived.Lib.FrozenHead
import Derived.Test.YtljgapfmgegifaaGreatDoorProg
import Derived.Test.YtljgapfmgegifaaGreatDoorY02
import Derived.Test.YtljgapfmgegifaaGreatDoorY03
import Derived.Lib.AppendStr
namespace Go.Proofs.YtljgapfmgegifaaGreatDoor
set_option linter.unusedVariables false
set_option linter.unusedSimpArgs false
set_option maxRecDepth 100000
open Go.Shelf
def lays169_ren:Go.Shelf.Ren:=⟨fun| 169=>67 | n=>n,fun| 70=>103 | 9=>9 | 0=>0 | 72=>105 | 37=>41 | 127=>130 | 3=>3 | 5=>5 | n=>n,fun| n=>n⟩
theorem lays169:Go.Proofs.Lays.n169 Tryz.prog lays169_ren:={
 mixed:=by kernel_rfl
 f169:=Tryz.func67.trans (congrArg some (by kernel_rfl))
 t0:=Tryz.underlying0
 a0:=Tryz.isAgg0
 z0:=Tryz.sizeOf0
 v0:=Tryz.zeroValue0
 t3:=Tryz.underlying3
 a3:=Tryz.isAgg3
 z3:=Tryz.sizeOf3
 v3:=Tryz.zeroValue3
 t9:=Tryz.underlying9
 a9:=Tryz.isAgg9
 z9:=Tryz.sizeOf9
 v9:=Tryz.zeroValue9
 t37:=Tryz.underlying41
 a37:=Tryz.isAgg41
 z37:=Tryz.sizeOf41
 v37:=Tryz.zeroValue41
 t70:=Tryz.underlying103
 a70:=Tryz.isAgg103
 z70:=Tryz.sizeOf103
 v70:=Tryz.zeroValue103
 t72:=Tryz.underlying105
 a72:=Tryz.isAgg105
 z72:=Tryz.sizeOf105
 v72:=Tryz.zeroValue105
 t127:=Tryz.underlying130
 a127:=Tryz.isAgg130
 z127:=Tryz.sizeOf130
 v127:=Tryz.zeroValue130 }
theorem Builder_Extra_169:Builder.Extra Tryz.prog lays169_ren:={
 sizeBuilder:=by kernel_rfl
 liesBuilder:=by kernel_rfl
 t5:=Tryz.underlying5
 a5:=Tryz.isAgg5
 z5:=Tryz.sizeOf5
 v5:=Tryz.zeroValue5
 infoByte:=by kernel_rfl
 cellsByte:=by kernel_rfl
 sizeByte:=by kernel_rfl
 neB5:=by decide }
open Go.RowKit in
theorem builder_string (B b:Nat) (l:List UInt8) (w:World) (h:Lib.IsBuilder 105 5 B b (Lib.byteCells l) w) (hBw:B<=w.heap.size) :
  Calls Tryz.prog 67 #[.pointer (some ⟨b,0,none⟩)] w λe w'=>e = .returned (.string (bs l))/\Below B w w':=Any.Builder_String_any lays169 Builder_Extra_169 B b l w h hBw
open Go.RowKit
theorem info_builder:∃j,Tryz.prog.info? 105=some j/\j.size=2:=by
 have h:(Tryz.prog.info? 105).map (·.size)=some 2:=by kernel_rfl
 obtain ⟨j,h1,h2⟩:=Option.map_eq_some_iff.1 h;exact ⟨j,h1,h2⟩
theorem lies_builder:liesAt Tryz.prog Tryz.prog.depth 105 (2 / Tryz.prog.cellsOf 105) 0 105 1=true:=by kernel_rfl
theorem copy_used (b:Nat) (w:World) (h0:w.cell? ⟨b,0,none⟩=some (.pointer (some ⟨b,0,none⟩))) :
  Calls Tryz.prog 96 #[.pointer (some ⟨b,0,none⟩)] w λe w'=>e = .returned (.tuple #[])/\w=w':=by
 obtain ⟨j,hj,-⟩:=info_builder
 go_enter Tryz.func96,Tryz.ntmps96
 go_wp2
 rw[Lib.run_neq_ptr_same w _ Tryz.underlying103 hj]
 go_wp2
 go_end0
 exact ⟨rfl,rfl⟩
theorem copy_fresh (b:Nat) (w:World) (h0:w.cell? ⟨b,0,none⟩=some (.pointer none)) (hsh:w.shape? b=some (105,2)) (hfz:w.frozen? ⟨b,0,none⟩=false) :
  Calls Tryz.prog 96 #[.pointer (some ⟨b,0,none⟩)] w λe w'=>e = .returned (.tuple #[])/\w'=w.setCell ⟨b,0,none⟩ (.pointer (some ⟨b,0,none⟩)):=by
 obtain ⟨j,hj,hjs⟩:=info_builder
 go_enter Tryz.func96,Tryz.ntmps96
 go_wp2
 rw[Lib.run_to_unsafe w ⟨b,0,none⟩ Tryz.underlying103 Tryz.underlying162 hj (by rw[hjs];decide) hsh (Nat.zero_lt_succ 1)]
 simp only[Result.andThen];rw[Oper.upon_value]
 go_wp2
 rw[run_callFunc_extern Tryz.func126 (by kernel_rfl) (by kernel_rfl) (by kernel_rfl) (e:=Extern.AbiNoEscape.same) (by kernel_rfl)]
 rw[Lib.run_noEscape];simp only[Result.andThen];rw[Oper.upon_value]
 go_wp2
 rw[Lib.run_from_unsafe w ⟨b,0,none⟩ Tryz.underlying162 Tryz.underlying103 hj hsh lies_builder];simp only[Result.andThen];rw[Oper.upon_value]
 go_wp2
 go_end0
 exact ⟨rfl,rfl⟩
theorem copy_any (B b:Nat) (bs:List Value) (w:World) (h:Lib.IsBuilder 105 5 B b bs w) :
  Calls Tryz.prog 96 #[.pointer (some ⟨b,0,none⟩)] w λe w'=>e = .returned (.tuple #[])/\Lib.BuilderAt 105 5 B b (.pointer (some ⟨b,0,none⟩)) bs w'/\Below B w w':=by
 rcases h with h | h
 .refine (copy_fresh b w h.cell0 h.shape h.frozen0).mono ?_;rintro e w' ⟨rfl,rfl⟩;exact ⟨rfl,h.used _,(Below.refl B w).setCell (p:=⟨b,0,none⟩) h.1 _⟩
 .refine (copy_used b w h.cell0).mono ?_;rintro e w' ⟨rfl,rfl⟩;exact ⟨rfl,h,Below.refl B _⟩
def IsB (b:Nat) (l:List UInt8) (w:World):Prop:=Lib.IsBuilder 105 5 b b (Lib.byteCells l) w/\b<=w.heap.size
end Go.Proofs.YtljgapfmgegifaaGreatDoor
namespace Go.Proofs.YtljgapfmgegifaaGreatDoor
set_option linter.unusedVariables false
set_option linter.unusedSimpArgs false
set_option maxRecDepth 100000
open Go.RowKit
theorem builder_str (b:Nat) (l:List UInt8) (s:ByteArray) (w:World) (h:IsB b l w) (hlen:l.length<=1000000000) (hs:s.size<=1000000) :
  Calls Tryz.prog 65 #[.pointer (some ⟨b,0,none⟩), .string s] w λe w'=>e = .returned (.tuple #[.int .i64 s.size, .nilIface])/\IsB b (l++bl s) w'/\Below b w w':=by
 obtain ⟨i0,hi,hz0,hz1,hz2⟩:=info_parts info_u8;obtain ⟨h,hBw⟩:=h
 go_enter Tryz.func65,Tryz.ntmps65
 go_wp2_with (go_at_call 96;refine (copy_any b b _ _ h).mono ?_);rintro e w1 ⟨rfl,h1,hb1⟩;obtain ⟨hB,v,hbk,hown,hne⟩:=h1;have c0:w1.cell? ⟨b,0,none⟩=some (.pointer (some ⟨b,0,none⟩)):=by rw[Lib.cell_of_heap hbk];rfl
 have c1:w1.cell? ⟨b,1,none⟩=some v:=by rw[Lib.cell_of_heap hbk];rfl
 have hlb:(Lib.byteCells l).length=l.length:=Lib.byteCells_length l;have HLB:=Lib.hid hlb;clear hlb;go_wp2_with (at_builtin;refine Lib.wpList_append_own_string _ rfl _ _ 41 9 rfl b 5 i0 Tryz.underlying41 Tryz.underlying9 hi hz0 hz1 hz2 _ _ _ rfl hown s rfl ?c1 ?c2 (Nat.le_trans hBw hb1.size) ?_)
 case c1=>have:=HLB.out;unfold maxLen;omega
 case c2=>have:=HLB.out;omega
 intro v' w2 hown' hgrow _;have hlt:b<w1.heap.size:=by
  rcases Nat.lt_or_ge b w1.heap.size with h' | h'
  .exact h'
  .simp[Array.getElem?_eq_none h']at hbk
 have hb2:w2.heap[b]?=some (.cells #[.pointer (some ⟨b,0,none⟩),v] 105 (0,0)):=by
  rw[hgrow.block b hlt (λe=>hne e.symm)];exact hbk
 have d0:w2.cell? ⟨b,0,none⟩=some (.pointer (some ⟨b,0,none⟩)):=by rw[Lib.cell_of_heap hb2];rfl
 have d1:w2.cell? ⟨b,1,none⟩=some v:=by rw[Lib.cell_of_heap hb2];rfl
 have f1:w2.frozen? ⟨b,1,none⟩=false:=Lib.frozen_of_heap hb2 1;obtain ⟨A,n,cap,rfl⟩:∃A n cap,v' = .slice A n cap:=by
  rcases hown'.2 with ⟨h0,_⟩ | ⟨g,cap,cur,hv,_⟩
  .exact ⟨_,_,_,h0⟩
  .exact ⟨_,_,_,hv⟩
 go_wp2
 go_ret2
 have hbelow:Below b w (w2.setCell ⟨b,1,none⟩ (.slice A n cap)):=
  (hb1.grown hgrow (Nat.le_trans hBw hb1.size) (λk hk=>(hown.lt k hk).1)).setCell (p:=⟨b,1,none⟩) hB _
 refine ⟨rfl,⟨Or.inr ?_,Nat.le_trans hBw hbelow.size⟩,hbelow⟩;have hx:Lib.byteCells l++Lib.strCells s=Lib.byteCells (l++bl s):=by simp[Lib.byteCells,Lib.strCells,bl]
 exact Lib.BuilderAt.put (T:=105) (e:=5) hB hb2 (bs':=Lib.byteCells (l++bl s)) (by rw[<-hx,List.length_append,show (Lib.strCells s).length=s.size by simp[Lib.strCells]];exact hown') (by decide)
end Go.Proofs.YtljgapfmgegifaaGreatDoor
