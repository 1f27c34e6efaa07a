/- Walks. -/
import Derived.Test.YtdmoogjddmdmbaaGreatDoorV07
import Derived.Test.YtdmoogjddmdmbaaGreatDoorV23
set_option maxRecDepth 100000
set_option maxHeartbeats 16000000
set_option linter.unusedVariables false
set_option linter.unusedSimpArgs false
namespace Go.Proofs.YtdmoogjddmdmbaaGreatDoor
open Go.RowKit
section
set_option linter.unusedVariables false
set_option linter.unusedSimpArgs false
open Go.RowKit
def acJ (gi:Nat) (bQ:Array Value) (l:List ByteArray) (p:ByteArray->Bool) (w:World):Prop:=(∀args w',(callFunc gi args).run Tryz.prog w' = .ok (.enter gi args) w')/\
 ∀s∈l,∀w',Below w.heap.size w w'->Calls Tryz.prog gi (#[.string s]++bQ) w' λe w''=>e = .returned (.bool (p s))/\Below w'.heap.size w' w''
set_option maxHeartbeats 1000000 in
theorem WR (gi:Nat) (bQ:Array Value) (l:List ByteArray) (p:ByteArray->Bool) (v:Value) (w:World) (h:pK w v l) (ha:acJ gi bQ l p w) :
  Calls Tryz.prog 141 #[v, .func (.func gi) #[] bQ] w λe w'=>e = .returned (.int .i64 (lG (l.map p)))/\Below w.heap.size w w':=by
 obtain ⟨A,c,rfl,hc,hcell⟩:=h;obtain ⟨ei,hp⟩:=ha;obtain ⟨ps,ru⟩:∃ps,l.map p=ps:=⟨_,rfl⟩;have hlen:ps.length=l.length:=by rw[<-ru];simp
 rw[ru];have HL:=Lib.hid hlen;have hmx:l.length<=9223372036854775807:=by omega
 have HC:=Lib.hid hcell;have HP:=Lib.hid (λ(i:Nat) (hi:i<l.length) (ez:i<ps.length)=>show ∀w',Below w.heap.size w w'->Calls Tryz.prog gi (#[.string l[i]]++bQ) w' λe w''=>e = .returned (.bool ps[i])/\Below w'.heap.size w' w'' from by
  have e:ps[i]=p l[i]:=by subst ru;simp
  rw[e];exact hp l[i] (List.getElem_mem hi))
 clear hcell hp hlen ru
 go_enter Tryz.func141,Tryz.ntmps141
 go_wp2
 go_loopw [8] (λv wr=>∃k:Nat,k<=l.length/\v = .int .i64 (k:Int)/\Below w.heap.size w wr/\Hid (bo (ps.drop k)=bo ps/\gZ (ps.drop k)+k=gZ ps)) (λv _=>l.length - (intOf v).toNat)
 case atStart=>exact ⟨0,by omega,rfl,Below.refl _ _,rfl,rfl⟩
 case round=>
  obtain ⟨k,hk,rfl,aI,HR⟩:=hrel;by_cases hlt:k<l.length
  .have hd:decide ((k:Int)<(l.length:Int))=true:=decide_eq_true (by omega)
   have iI:decide (k<l.length)=true:=decide_eq_true hlt;obtain ⟨g,ff,rfl,hg,hcs⟩:=HC.out.resolve_left (by intro e;rw[e]at hlt;simp at hlt)
   have qT:k<ps.length:=by have:=HL.out;omega
   have mC:=Lib.hid (show bo (ps[k]::ps.drop (k+1))=bo ps/\gZ (ps[k]::ps.drop (k+1))+k=gZ ps by rw[<-List.drop_eq_getElem_cons qT];exact HR.out)
   have I:=λw'=>HP.out k hlt qT w';have q0:wr.cell? ⟨g,ff+k,none⟩=some (.string l[k]):=(aI.cell (p:=⟨g,ff+k,none⟩) hg).trans (hcs k hlt);obtain ⟨x0,EL⟩:∃x,l[k]=x:=⟨_,rfl⟩;rw[EL]at q0 I;clear hcs EL;have aP:Below w.heap.size w wr:=aI;have HI:=Lib.hid I;clear I;obtain ⟨pb,sF⟩:∃pb,ps[k]=pb:=⟨_,rfl⟩;rw[sF]at HI mC;clear sF qT;have bI:=Lib.hid aP;clear aP aI
   cases pb with
   | true=>
    have HT:=Lib.hid (show (k:Int)=lG ps by unfold lG;rw[<-mC.out.1,<-mC.out.2,bo,gZ,if_pos rfl];simp)
    go_wp2_with fail;refine (HI.out _ bI.out).mono ?_;rintro e w1 ⟨rfl,hb1⟩;go_wp2_with fail;go_ret;exact ⟨aH HT.out,bI.out.trans (hb1.mono bI.out.size)⟩
   | false=>
    have HT:=Lib.hid (show bo (ps.drop (k+1))=bo ps/\gZ (ps.drop (k+1))+(k+1)=gZ ps from ⟨by rw[<-mC.out.1,bo];rfl,by rw[<-mC.out.2,gZ,if_neg (by decide)];omega⟩)
    go_wp2_with fail;refine (HI.out _ bI.out).mono ?_;rintro e w1 ⟨rfl,hb1⟩;go_wp2_with fail;go_roundw
    case rel=>exact ⟨k+1,by omega,by go_num,bI.out.trans (hb1.mono bI.out.size),HT⟩
    case measure=>simp[intOf];omega
  .obtain rfl:k=l.length:=by omega
   have hd:decide ((l.length:Int)<(l.length:Int))=false:=decide_eq_false (by omega)
   have iI:decide (l.length<l.length)=false:=decide_eq_false (by omega)
   have HT:=Lib.hid (show (-1:Int)=lG ps by unfold lG;rw[<-HR.out.1,<-HL.out,List.drop_length];rfl)
   go_wp2_with fail;go_ret;exact ⟨aH HT.out,aI⟩
theorem containsS (gi:Nat) (bQ:Array Value) (l:List ByteArray) (p:ByteArray->Bool) (v:Value) (w:World) (h:pK w v l) (ha:acJ gi bQ l p w) :
  Calls Tryz.prog 113 #[v, .func (.func gi) #[] bQ] w λe w'=>e = .returned (.bool (l.any p))/\Below w.heap.size w w':=by
 have I:=Lib.hid (WR gi bQ l p v w h ha);have pM:bo (l.map p)=l.any p:=eD p l;rw[<-pM];clear h ha pM
 go_enter Tryz.func113,Tryz.ntmps113
 go_wp2_with fail;refine I.out.mono ?_;rintro e w1 ⟨rfl,hb⟩;have HR:=Lib.hid (rr (l.map p));generalize lG (l.map p)=r at *;go_wp2_with fail;go_ret;exact ⟨aj HR.out,hb⟩
theorem acK {l:List Value} (h:l.length=11):∃x0 x1 x2 x3 x4 x5 x6 x7 x8 x9 WS,l=[x0,x1,x2,x3,x4,x5,x6,x7,x8,x9,WS]:=by
 match l,h with
 | [x0,x1,x2,x3,x4,x5,x6,x7,x8,x9,WS],_=>exact ⟨x0,x1,x2,x3,x4,x5,x6,x7,x8,x9,WS,rfl⟩
set_option maxHeartbeats 1000000 in
theorem WT (gi:Nat) (bQ:Array Value) (rows:List (List Value)) (ps:List Bool) (v:Value) (w:World) (h:jo 11 w v rows) (ha:sj gi bQ rows ps w) :
  Calls Tryz.prog 114 #[v, .func (.func gi) #[] bQ] w λe w'=>e = .returned (.int .i64 (lG ps))/\Below w.heap.size w w':=by
 obtain ⟨A,c,rfl,hc,hcell⟩:=h;obtain ⟨ei,hlen,hp⟩:=ha;have HL:=Lib.hid hlen;have hmx:rows.length<=9223372036854775807:=by omega
 have HC:=Lib.hid hcell;have HP:=Lib.hid hp;clear hcell hp hlen
 go_enter Tryz.func114,Tryz.ntmps114
 go_wp2
 go_loopw [8] (λv wr=>∃k:Nat,k<=rows.length/\v = .int .i64 (k:Int)/\Below w.heap.size w wr/\Hid (bo (ps.drop k)=bo ps/\gZ (ps.drop k)+k=gZ ps)) (λv _=>rows.length - (intOf v).toNat)
 case atStart=>exact ⟨0,by omega,rfl,Below.refl _ _,rfl,rfl⟩
 case round=>
  obtain ⟨k,hk,rfl,aI,HR⟩:=hrel;by_cases hlt:k<rows.length
  .have hd:decide ((k:Int)<(rows.length:Int))=true:=decide_eq_true (by omega)
   have iI:decide (k<rows.length)=true:=decide_eq_true hlt;obtain ⟨g,ff,rfl,hg,hcs⟩:=HC.out.resolve_left (by intro e;rw[e]at hlt;simp at hlt)
   have qT:k<ps.length:=by have:=HL.out;omega
   have mC:=Lib.hid (show bo (ps[k]::ps.drop (k+1))=bo ps/\gZ (ps[k]::ps.drop (k+1))+k=gZ ps by rw[<-List.drop_eq_getElem_cons qT];exact HR.out)
   have I:=λw'=>HP.out k hlt ps[k] (List.getElem?_eq_getElem qT) w';obtain ⟨acL,Bc⟩:=hcs k hlt;obtain ⟨x0,x1,x2,x3,x4,x5,x6,x7,x8,x9,WS,hrow⟩:=acK acL;rw[hrow]at Bc I;have q:∀j,j<11->wr.cell? ⟨g,ff+k*11+j,none⟩=([x0,x1,x2,x3,x4,x5,x6,x7,x8,x9,WS]:List Value)[j]?:=λj hj=>(aI.cell (p:=⟨g,ff+k*11+j,none⟩) hg).trans (Bc j hj);have q0:=q 0 (by omega);have q1:=q 1 (by omega);have q2:=q 2 (by omega);have q3:=q 3 (by omega);have q4:=q 4 (by omega);have q5:=q 5 (by omega);have q6:=q 6 (by omega);have q7:=q 7 (by omega);have q8:=q 8 (by omega);have q9:=q 9 (by omega);have CE:=q 10 (by omega)
   simp only[Nat.add_zero,List.getElem?_cons_zero,List.getElem?_cons_succ]at q0 q1 q2 q3 q4 q5 q6 q7 q8 q9 CE;clear q hcs Bc hrow acL;have aP:Below w.heap.size w wr:=aI;have HI:=Lib.hid I;clear I;obtain ⟨pb,sF⟩:∃pb,ps[k]=pb:=⟨_,rfl⟩;rw[sF]at HI mC;clear sF qT;have bI:=Lib.hid aP;clear aP aI
   cases pb with
   | true=>
    have HT:=Lib.hid (show (k:Int)=lG ps by unfold lG;rw[<-mC.out.1,<-mC.out.2,bo,gZ,if_pos rfl];simp)
    go_wp2_with fail;refine (HI.out _ bI.out).mono ?_;rintro e w1 ⟨rfl,hb1⟩;go_wp2_with fail;go_ret;exact ⟨aH HT.out,bI.out.trans (hb1.mono bI.out.size)⟩
   | false=>
    have HT:=Lib.hid (show bo (ps.drop (k+1))=bo ps/\gZ (ps.drop (k+1))+(k+1)=gZ ps from ⟨by rw[<-mC.out.1,bo];rfl,by rw[<-mC.out.2,gZ,if_neg (by decide)];omega⟩)
    go_wp2_with fail;refine (HI.out _ bI.out).mono ?_;rintro e w1 ⟨rfl,hb1⟩;go_wp2_with fail;go_roundw
    case rel=>exact ⟨k+1,by omega,by go_num,bI.out.trans (hb1.mono bI.out.size),HT⟩
    case measure=>simp[intOf];omega
  .obtain rfl:k=rows.length:=by omega
   have hd:decide ((rows.length:Int)<(rows.length:Int))=false:=decide_eq_false (by omega)
   have iI:decide (rows.length<rows.length)=false:=decide_eq_false (by omega)
   have HT:=Lib.hid (show (-1:Int)=lG ps by unfold lG;rw[<-HR.out.1,<-HL.out,List.drop_length];rfl)
   go_wp2_with fail;go_ret;exact ⟨aH HT.out,aI⟩
theorem JK (gi:Nat) (bQ:Array Value) (rows:List (List Value)) (ps:List Bool) (v:Value) (w:World) (h:jo 11 w v rows) (ha:sj gi bQ rows ps w) :
  Calls Tryz.prog 82 #[v, .func (.func gi) #[] bQ] w λe w'=>e = .returned (.bool (bo ps))/\Below w.heap.size w w':=by
 have I:=Lib.hid (WT gi bQ rows ps v w h ha);clear h ha
 go_enter Tryz.func82,Tryz.ntmps82
 go_wp2_with fail;refine I.out.mono ?_;rintro e w1 ⟨rfl,hb⟩;have HR:=Lib.hid (rr ps);generalize lG ps=r at *;go_wp2_with fail;go_ret;exact ⟨aj HR.out,hb⟩
end
section
set_option linter.unusedVariables false
set_option linter.unusedSimpArgs false
open Go.RowKit
def ZJ (w:World) (v:Value) (l:List Nat):Prop:=∃A c,v = .slice A l.length c/\(l.length<=c/\c<=9223372036854775807)/\(l=[]\/∃g f,A=some ⟨g,f,none⟩/\g<w.heap.size/\∀i (h:i<l.length),w.cell? ⟨g,f+i,none⟩=some (.int .i64 (l[i]:Int)))
theorem ZJ.later {w w':World} {v:Value} {l:List Nat} (h:ZJ w v l) (hb:Below w.heap.size w w'):ZJ w' v l:=by
 obtain ⟨A,c,e,hc,h⟩:=h;refine ⟨A,c,e,hc,h.imp id ?_⟩;rintro ⟨g,f,h1,hg,hcell⟩;exact ⟨g,f,h1,Nat.lt_of_lt_of_le hg hb.size,λi hi=>(hb.cell (p:=⟨g,f+i,none⟩) hg).trans (hcell i hi)⟩
def acI (gi:Nat) (bQ:Array Value) (l:List Nat) (p:Nat->Bool) (w:World):Prop:=(∀args w',(callFunc gi args).run Tryz.prog w' = .ok (.enter gi args) w')/\
 ∀s∈l,∀w',Below w.heap.size w w'->Calls Tryz.prog gi (#[.int .i64 (s:Int)]++bQ) w' λe w''=>e = .returned (.bool (p s))/\Below w'.heap.size w' w''
set_option maxHeartbeats 1000000 in
theorem WQ (gi:Nat) (bQ:Array Value) (l:List Nat) (p:Nat->Bool) (v:Value) (w:World) (h:ZJ w v l) (ha:acI gi bQ l p w) :
  Calls Tryz.prog 90 #[v, .func (.func gi) #[] bQ] w λe w'=>e = .returned (.int .i64 (lG (l.map p)))/\Below w.heap.size w w':=by
 obtain ⟨A,c,rfl,hc,hcell⟩:=h;obtain ⟨ei,hp⟩:=ha;obtain ⟨ps,ru⟩:∃ps,l.map p=ps:=⟨_,rfl⟩;have hlen:ps.length=l.length:=by rw[<-ru];simp
 rw[ru];have HL:=Lib.hid hlen;have hmx:l.length<=9223372036854775807:=by omega
 have HC:=Lib.hid hcell;have HP:=Lib.hid (λ(i:Nat) (hi:i<l.length) (ez:i<ps.length)=>show ∀w',Below w.heap.size w w'->Calls Tryz.prog gi (#[.int .i64 (l[i]:Int)]++bQ) w' λe w''=>e = .returned (.bool ps[i])/\Below w'.heap.size w' w'' from by
  have e:ps[i]=p l[i]:=by subst ru;simp
  rw[e];exact hp l[i] (List.getElem_mem hi))
 clear hcell hp hlen ru
 go_enter Tryz.func90,Tryz.ntmps90
 go_wp2
 go_loopw [8] (λv wr=>∃k:Nat,k<=l.length/\v = .int .i64 (k:Int)/\Below w.heap.size w wr/\Hid (bo (ps.drop k)=bo ps/\gZ (ps.drop k)+k=gZ ps)) (λv _=>l.length - (intOf v).toNat)
 case atStart=>exact ⟨0,by omega,rfl,Below.refl _ _,rfl,rfl⟩
 case round=>
  obtain ⟨k,hk,rfl,aI,HR⟩:=hrel;by_cases hlt:k<l.length
  .have hd:decide ((k:Int)<(l.length:Int))=true:=decide_eq_true (by omega)
   have iI:decide (k<l.length)=true:=decide_eq_true hlt;obtain ⟨g,ff,rfl,hg,hcs⟩:=HC.out.resolve_left (by intro e;rw[e]at hlt;simp at hlt)
   have qT:k<ps.length:=by have:=HL.out;omega
   have mC:=Lib.hid (show bo (ps[k]::ps.drop (k+1))=bo ps/\gZ (ps[k]::ps.drop (k+1))+k=gZ ps by rw[<-List.drop_eq_getElem_cons qT];exact HR.out)
   have I:=λw'=>HP.out k hlt qT w';have q0:wr.cell? ⟨g,ff+k,none⟩=some (.int .i64 (l[k]:Int)):=(aI.cell (p:=⟨g,ff+k,none⟩) hg).trans (hcs k hlt);obtain ⟨x0,EL⟩:∃x,l[k]=x:=⟨_,rfl⟩;rw[EL]at q0 I;clear hcs EL;have aP:Below w.heap.size w wr:=aI;have HI:=Lib.hid I;clear I;obtain ⟨pb,sF⟩:∃pb,ps[k]=pb:=⟨_,rfl⟩;rw[sF]at HI mC;clear sF qT;have bI:=Lib.hid aP;clear aP aI
   cases pb with
   | true=>
    have HT:=Lib.hid (show (k:Int)=lG ps by unfold lG;rw[<-mC.out.1,<-mC.out.2,bo,gZ,if_pos rfl];simp)
    go_wp2_with fail;refine (HI.out _ bI.out).mono ?_;rintro e w1 ⟨rfl,hb1⟩;go_wp2_with fail;go_ret;exact ⟨aH HT.out,bI.out.trans (hb1.mono bI.out.size)⟩
   | false=>
    have HT:=Lib.hid (show bo (ps.drop (k+1))=bo ps/\gZ (ps.drop (k+1))+(k+1)=gZ ps from ⟨by rw[<-mC.out.1,bo];rfl,by rw[<-mC.out.2,gZ,if_neg (by decide)];omega⟩)
    go_wp2_with fail;refine (HI.out _ bI.out).mono ?_;rintro e w1 ⟨rfl,hb1⟩;go_wp2_with fail;go_roundw
    case rel=>exact ⟨k+1,by omega,by go_num,bI.out.trans (hb1.mono bI.out.size),HT⟩
    case measure=>simp[intOf];omega
  .obtain rfl:k=l.length:=by omega
   have hd:decide ((l.length:Int)<(l.length:Int))=false:=decide_eq_false (by omega)
   have iI:decide (l.length<l.length)=false:=decide_eq_false (by omega)
   have HT:=Lib.hid (show (-1:Int)=lG ps by unfold lG;rw[<-HR.out.1,<-HL.out,List.drop_length];rfl)
   go_wp2_with fail;go_ret;exact ⟨aH HT.out,aI⟩
theorem JJ (gi:Nat) (bQ:Array Value) (l:List Nat) (p:Nat->Bool) (v:Value) (w:World) (h:ZJ w v l) (ha:acI gi bQ l p w) :
  Calls Tryz.prog 70 #[v, .func (.func gi) #[] bQ] w λe w'=>e = .returned (.bool (l.any p))/\Below w.heap.size w w':=by
 have I:=Lib.hid (WQ gi bQ l p v w h ha);have pM:bo (l.map p)=l.any p:=eD p l;rw[<-pM];clear h ha pM
 go_enter Tryz.func70,Tryz.ntmps70
 go_wp2_with fail;refine I.out.mono ?_;rintro e w1 ⟨rfl,hb⟩;have HR:=Lib.hid (rr (l.map p));generalize lG (l.map p)=r at *;go_wp2_with fail;go_ret;exact ⟨aj HR.out,hb⟩
end
end Go.Proofs.YtdmoogjddmdmbaaGreatDoor
