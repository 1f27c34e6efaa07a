/- Walks. -/
import Derived.Shelf.Strings.Builder1
import Derived.Lib.FrozenHead
import Derived.Test.YthamegenljmgmaaGreatDoorProg
import Derived.Test.YthamegenljmgmaaGreatDoorY03
import Derived.Test.YthamegenljmgmaaGreatDoorY04
import Derived.Lib.AppendStr
set_option maxRecDepth 100000
set_option maxHeartbeats 16000000
set_option linter.unusedVariables false
set_option linter.unusedSimpArgs false
namespace Go.Proofs.YthamegenljmgmaaGreatDoor
open Go.RowKit
section
open Go.Shelf
def sS:Go.Shelf.Ren:=⟨fun|169=>40|n=>n,fun|70=>82|9=>9|0=>0|72=>84|37=>78|127=>110|3=>3|5=>5|n=>n,fun|n=>n⟩
theorem FV:Go.Proofs.Lays.n169 Tryz.prog sS:={
 mixed:=R
 f169:=Tryz.func40.t (congrArg some R)
 t0:=Tryz.underlying0
 a0:=Tryz.isAgg0
 z0:=Tryz.sizeOf0
 v0:=Tryz.zeroValue0
 t3:=Tryz.underlying3
 a3:=Tryz.isAgg3
 z3:=Tryz.sizeOf3
 v3:=Tryz.zeroValue3
 t9:=Tryz.underlying9
 a9:=Tryz.isAgg9
 z9:=Tryz.sizeOf9
 v9:=Tryz.zeroValue9
 t37:=Tryz.underlying78
 a37:=Tryz.isAgg78
 z37:=Tryz.sizeOf78
 v37:=Tryz.zeroValue78
 t70:=Tryz.underlying82
 a70:=Tryz.isAgg82
 z70:=Tryz.sizeOf82
 v70:=Tryz.zeroValue82
 t72:=Tryz.underlying84
 a72:=Tryz.isAgg84
 z72:=Tryz.sizeOf84
 v72:=Tryz.zeroValue84
 t127:=Tryz.underlying110
 a127:=Tryz.isAgg110
 z127:=Tryz.sizeOf110
 v127:=Tryz.zeroValue110 }
theorem ku:Builder.Extra Tryz.prog sS:={
 sizeBuilder:=R
 liesBuilder:=R
 t5:=Tryz.underlying5
 a5:=Tryz.isAgg5
 z5:=Tryz.sizeOf5
 v5:=Tryz.zeroValue5
 infoByte:=R
 cellsByte:=R
 sizeByte:=R
 neB5:=by decide }
open Go.RowKit in
theorem uL(B b:Nat)(l:List UInt8)(w:World)(h:Lib.IsBuilder 84 5 B b (Lib.byteCells l) w)(UC:B<=w):
  Calls Tryz.prog 40 #[.pointer (Z b 0)] w λe w'=>e=.returned (.string (bs l))/\Below B w w':=Any.Builder_String_any FV ku B b l w h UC
open Go.RowKit
theorem qI:∃j,Tryz.prog.info? 84=some j/\j.size=2:=by
 have h:(Tryz.prog.info? 84).map (·.size)=some 2:=R;obtain ⟨j,h1,h2⟩:=Option.map_eq_some_iff.1 h;exact ⟨j,h1,h2⟩
theorem yY:liesAt Tryz.prog Tryz.prog.depth 84 (2 / Tryz.prog.cellsOf 84) 0 84 1=true:=R
theorem xV(b:Nat)(w:World)(h0:w.cell? (Z b 0)=some (.pointer (Z b 0))):
  Calls Tryz.prog 65 #[.pointer (Z b 0)] w λe w'=>e=.returned (.tuple #[])/\w=w':=by
 obtain ⟨j,hj,-⟩:=qI
 go_enter Tryz.func65,Tryz.ntmps65
 go_wp2
 rw[Lib.run_neq_ptr_same w _ Tryz.underlying82 hj]
 go_wp2
 go_end0
 exact ⟨rfl,rfl⟩
theorem uK(b:Nat)(w:World)(h0:w.cell? (Z b 0)=some (.pointer none))(PY:w.shape? b=some (84,2))(Up:w.frozen? (Z b 0)=false):
  Calls Tryz.prog 65 #[.pointer (Z b 0)] w λe w'=>e=.returned (.tuple #[])/\w'=w.setCell (Z b 0) (.pointer (Z b 0)):=by
 obtain ⟨j,hj,hjs⟩:=qI
 go_enter Tryz.func65,Tryz.ntmps65
 go_wp2
 rw[Lib.run_to_unsafe w (Z b 0) Tryz.underlying82 Tryz.underlying131 hj (by rw[hjs];decide) PY (Nat.zero_lt_succ 1)]
 simp only[Result.andThen];rw[Oper.upon_value]
 go_wp2
 rw[run_callFunc_extern Tryz.func84 R R R (e:=Extern.AbiNoEscape.same) R];rw[Lib.run_noEscape];simp only[Result.andThen];rw[Oper.upon_value]
 go_wp2
 rw[Lib.run_from_unsafe w (Z b 0) Tryz.underlying131 Tryz.underlying82 hj PY yY];simp only[Result.andThen];rw[Oper.upon_value]
 go_wp2
 go_end0
 exact ⟨rfl,rfl⟩
theorem K4(B b:Nat)(bs:List Value)(w:World)(h:Lib.IsBuilder 84 5 B b bs w):
  Calls Tryz.prog 65 #[.pointer (Z b 0)] w λe w'=>e=.returned (.tuple #[])/\Lib.BuilderAt 84 5 B b (.pointer (Z b 0)) bs w'/\Below B w w':=by
 rcases h with h|h
 .refine (uK b w h.cell0 h.shape h.frozen0).mono ?_;rintro e w' ⟨rfl,rfl⟩;exact ⟨rfl,h.used _,(Below.refl B w).sc b 0 h.1 _⟩
 .refine (xV b w h.cell0).mono ?_;rintro e w' ⟨rfl,rfl⟩;exact ⟨rfl,h,Below.refl B _⟩
def K5(b:Nat)(l:List UInt8)(w:World):Prop:=Lib.IsBuilder 84 5 b b (Lib.byteCells l) w/\b<=w
end
theorem oA(b:Nat)(l:List UInt8)(s:ByteArray)(w:World)(h:K5 b l w)(hlen:l.length<=1000000000)(hs:s.size<=1000000):
  Calls Tryz.prog 38 #[.pointer (Z b 0),.string s] w λe w'=>e=.returned (.tuple #[.int .i64 s.size,.nilIface])/\K5 b (l++bl s) w'/\Below b w w':=by
 obtain ⟨i0,hi,dY,dh,cT⟩:=info_parts tZ;obtain ⟨h,UC⟩:=h
 go_enter Tryz.func38,Tryz.ntmps38
 go_wp2_with (go_at_call 65;refine (K4 b b _ _ h).mono ?_);rintro e w1 ⟨rfl,h1,aM⟩;obtain ⟨hB,v,Dh,ao,bf⟩:=h1;have c0:w1.cell? (Z b 0)=some (.pointer (Z b 0)):=by rw[Lib.cell_of_heap Dh];rfl
 have c1:w1.cell? (Z b 1)=some v:=by rw[Lib.cell_of_heap Dh];rfl
 have KU:(Lib.byteCells l).length=l.length:=Lib.byteCells_length l;have OV:=Y KU;clear KU;go_wp2_with (at_builtin;refine Lib.wpList_append_own_string _ rfl _ _ 78 9 rfl b 5 i0 Tryz.underlying78 Tryz.underlying9 hi dY dh cT _ _ _ rfl ao s rfl ?c1 ?c2 (Nat.le_trans UC aM.size) ?_)
 case c1=>have:=OV.o;unfold maxLen;omega
 case c2=>have:=OV.o;omega
 intro v' w2 Tg Th _;have aB:b<w1:=by
  rcases Nat.lt_or_ge b w1 with h'|h'
  .exact h'
  .simp[Array.getElem?_eq_none h']at Dh
 have aS:w2.heap[b]?=some (.cells #[.pointer (Z b 0),v] 84):=by
  rw[Th.block b aB (λe=>bf e.symm)];exact Dh
 have d0:w2.cell? (Z b 0)=some (.pointer (Z b 0)):=by rw[Lib.cell_of_heap aS];rfl
 have d1:w2.cell? (Z b 1)=some v:=by rw[Lib.cell_of_heap aS];rfl
 have f1:w2.frozen? (Z b 1)=false:=Lib.frozen_of_heap aS 1;obtain ⟨A,n,cap,rfl⟩:∃A n cap,v'=.slice A n cap:=by
  rcases Tg.2 with ⟨h0,_⟩|⟨g,cap,cur,hv,_⟩
  .exact ⟨_,_,_,h0⟩
  .exact ⟨_,_,_,hv⟩
 go_wp2
 go_ret2
 have LV:Below b w (w2.setCell (Z b 1) (.slice A n cap)):=
  (aM.grown Th (Nat.le_trans UC aM.size) (λk hk=>(ao.lt k hk).1)).sc b 1 hB _
 refine ⟨rfl,⟨Or.inr ?_,Nat.le_trans UC LV.size⟩,LV⟩;have hx:Lib.byteCells l++Lib.strCells s=Lib.byteCells (l++bl s):=by simp[Lib.byteCells,Lib.strCells,bl]
 exact Lib.BuilderAt.put (T:=84) (e:=5) hB aS (bs':=Lib.byteCells (l++bl s)) (by rw[<-hx,List.length_append,show (Lib.strCells s).length=s.size by simp[Lib.strCells]];exact Tg) O
end Go.Proofs.YthamegenljmgmaaGreatDoor
