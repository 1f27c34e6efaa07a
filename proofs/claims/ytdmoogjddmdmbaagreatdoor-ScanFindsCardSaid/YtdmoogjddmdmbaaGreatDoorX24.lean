/- Walks. -/
import Derived.Test.YtdmoogjddmdmbaaGreatDoorX06
import Derived.Test.YtdmoogjddmdmbaaGreatDoorX17
set_option maxRecDepth 100000
set_option maxHeartbeats 16000000
set_option linter.unusedVariables false
set_option linter.unusedSimpArgs false
namespace Go.Proofs.YtdmoogjddmdmbaaGreatDoor
open Go.RowKit
def acR(gi:Nat)(cV:Array Value)(l:List ByteArray)(p:ByteArray->Bool)(w:World):Prop:=(∀args w',(callFunc gi args).run Tryz.prog w'=.ok (.enter gi args) w')/\
 ∀s∈l,∀w',Below w.heap.size w w'->Calls Tryz.prog gi (#[.string s]++cV) w' λe w''=>e=.returned (.bool (p s))/\Below w'.heap.size w' w''
theorem WD(gi:Nat)(cV:Array Value)(l:List ByteArray)(p:ByteArray->Bool)(v:Value)(w:World)(h:pB w v l)(ha:acR gi cV l p w):
  Calls Tryz.prog 141 #[v,.func (.func gi) #[] cV] w λe w'=>e=.returned (.int .i64 (oB (l.map p)))/\Below w.heap.size w w':=by
 obtain ⟨A,c,rfl,hc,hcell⟩:=h;obtain ⟨ei,hp⟩:=ha;obtain ⟨ps,sT⟩:=ν (l.map p);have hlen:ps.length=l.length:=by rw[<-sT];simp
 rw[sT];have HL:=Z hlen;have hmx:l.length<=9223372036854775807:=Y;have HC:=Z hcell;have HP:=Z (λ(i:Nat) (hi:i<l.length) (eS:i<ps.length)=>show ∀w',Below w.heap.size w w'->Calls Tryz.prog gi (#[.string l[i]]++cV) w' λe w''=>e=.returned (.bool ps[i])/\Below w'.heap.size w' w'' from by
  have e:ps[i]=p l[i]:=by subst sT;simp
  rw[e];exact hp l[i] (List.getElem_mem hi))
 clear hcell hp hlen sT
 go_enter Tryz.func141,Tryz.ntmps141
 go_wp2
 go_loopw [8] (λv wr=>∃k:Nat,k<=l.length/\v=.int .i64 (k:Int)/\Below w.heap.size w wr/\Hid (bR (ps.drop k)=bR ps/\jI (ps.drop k)+k=jI ps)) (λv _=>l.length - (intOf v).toNat)
 case atStart=>exact ⟨0,Y,rfl,υ,rfl,rfl⟩
 case round=>
  obtain ⟨k,hk,rfl,aT,HR⟩:=hrel;by_cases hlt:k<l.length
  .have hd:decide ((k:Int)<(l.length:Int))=true:=τ;have cX:decide (k<l.length)=true:=decide_eq_true hlt;obtain ⟨g,ff,rfl,hg,hcs⟩:=HC.out.resolve_left (by intro e;rw[e]at hlt;simp at hlt)
   have tY:k<ps.length:=by have:=HL.out;omega
   have qf:=Z (show bR (ps[k]::ps.drop (k+1))=bR ps/\jI (ps[k]::ps.drop (k+1))+k=jI ps by rw[<-List.drop_eq_getElem_cons tY];exact HR.out)
   have axJ:=λw'=>HP.out k hlt tY w';have q0:wr.cell? ⟨g,ff+k,none⟩=some (.string l[k]):=(aT.cl g (ff+k) hg).trans (hcs k hlt);obtain ⟨x0,tC⟩:∃x,l[k]=x:=⟨_,rfl⟩;rw[tC]at q0 axJ;clear hcs tC;have aY:Below w.heap.size w wr:=aT;have HI:=Z axJ;clear axJ;obtain ⟨pb,xL⟩:=ν (ps[k]);rw[xL]at HI qf;clear xL tY;have b8:=Z aY;clear aY aT
   cases pb with
   |true=>
    have HT:=Z (show (k:Int)=oB ps by unfold oB;rw[<-qf.out.1,<-qf.out.2,bR,jI,if_pos rfl];simp)
    go_wp2_with fail;refine (HI.out _ b8.out).mono ?_;rintro e w1 ⟨rfl,hb1⟩;go_wp2_with fail;go_ret;exact ⟨aC HT.out,b8.out.trans (hb1.mono b8.out.size)⟩
   |false=>
    have HT:=Z (show bR (ps.drop (k+1))=bR ps/\jI (ps.drop (k+1))+(k+1)=jI ps from ⟨by rw[<-qf.out.1,bR];rfl,by rw[<-qf.out.2,jI,if_neg O];omega⟩)
    go_wp2_with fail;refine (HI.out _ b8.out).mono ?_;rintro e w1 ⟨rfl,hb1⟩;go_wp2_with fail;go_roundw
    case rel=>exact ⟨k+1,Y,by go_num,b8.out.trans (hb1.mono b8.out.size),HT⟩
    case measure=>exact μ
  .obtain rfl:k=l.length:=Y;have hd:decide ((l.length:Int)<(l.length:Int))=false:=θ;have cX:decide (l.length<l.length)=false:=θ;have HT:=Z (show (-1:Int)=oB ps by unfold oB;rw[<-HR.out.1,<-HL.out,List.drop_length];rfl)
   go_wp2_with fail;go_ret;exact ⟨aC HT.out,aT⟩
theorem containsS(gi:Nat)(cV:Array Value)(l:List ByteArray)(p:ByteArray->Bool)(v:Value)(w:World)(h:pB w v l)(ha:acR gi cV l p w):
  Calls Tryz.prog 113 #[v,.func (.func gi) #[] cV] w λe w'=>e=.returned (.bool (l.any p))/\Below w.heap.size w w':=by
 have axJ:=Z (WD gi cV l p v w h ha);have pD:bR (l.map p)=l.any p:=fg p l;rw[<-pD];clear h ha pD
 go_enter Tryz.func113,Tryz.ntmps113
 go_wp2_with fail;refine axJ.out.mono ?_;rintro e w1 ⟨rfl,hb⟩;have HR:=Z (uV (l.map p));generalize oB (l.map p)=r at *;go_wp2_with fail;go_ret;exact ⟨ae HR.out,hb⟩
theorem acS{l:List Value}(h:l.length=11):∃x0 x1 x2 x3 x4 x5 x6 x7 x8 x9 WE,l=[x0,x1,x2,x3,x4,x5,x6,x7,x8,x9,WE]:=by
 match l,h with
 | [x0,x1,x2,x3,x4,x5,x6,x7,x8,x9,WE],_=>exact ⟨x0,x1,x2,x3,x4,x5,x6,x7,x8,x9,WE,rfl⟩
theorem WG(gi:Nat)(cV:Array Value)(rows:List (List Value))(ps:List Bool)(v:Value)(w:World)(h:je 11 w v rows)(ha:sG gi cV rows ps w):
  Calls Tryz.prog 114 #[v,.func (.func gi) #[] cV] w λe w'=>e=.returned (.int .i64 (oB ps))/\Below w.heap.size w w':=by
 obtain ⟨A,c,rfl,hc,hcell⟩:=h;obtain ⟨ei,hlen,hp⟩:=ha;have HL:=Z hlen;have hmx:rows.length<=9223372036854775807:=Y;have HC:=Z hcell;have HP:=Z hp;clear hcell hp hlen
 go_enter Tryz.func114,Tryz.ntmps114
 go_wp2
 go_loopw [8] (λv wr=>∃k:Nat,k<=rows.length/\v=.int .i64 (k:Int)/\Below w.heap.size w wr/\Hid (bR (ps.drop k)=bR ps/\jI (ps.drop k)+k=jI ps)) (λv _=>rows.length - (intOf v).toNat)
 case atStart=>exact ⟨0,Y,rfl,υ,rfl,rfl⟩
 case round=>
  obtain ⟨k,hk,rfl,aT,HR⟩:=hrel;by_cases hlt:k<rows.length
  .have hd:decide ((k:Int)<(rows.length:Int))=true:=τ;have cX:decide (k<rows.length)=true:=decide_eq_true hlt;obtain ⟨g,ff,rfl,hg,hcs⟩:=HC.out.resolve_left (by intro e;rw[e]at hlt;simp at hlt)
   have tY:k<ps.length:=by have:=HL.out;omega
   have qf:=Z (show bR (ps[k]::ps.drop (k+1))=bR ps/\jI (ps[k]::ps.drop (k+1))+k=jI ps by rw[<-List.drop_eq_getElem_cons tY];exact HR.out)
   have axJ:=λw'=>HP.out k hlt ps[k] (List.getElem?_eq_getElem tY) w';obtain ⟨acT,zS⟩:=hcs k hlt;obtain ⟨x0,x1,x2,x3,x4,x5,x6,x7,x8,x9,WE,hrow⟩:=acS acT;rw[hrow]at zS axJ;have q:∀j,j<11->wr.cell? ⟨g,ff+k*11+j,none⟩=([x0,x1,x2,x3,x4,x5,x6,x7,x8,x9,WE]:List Value)[j]?:=λj hj=>(aT.cl g (ff+k*11+j) hg).trans (zS j hj);have q0:=q 0 Y;have q1:=q 1 Y;have q2:=q 2 Y;have q3:=q 3 Y;have q4:=q 4 Y;have q5:=q 5 Y;have q6:=q 6 Y;have q7:=q 7 Y;have q8:=q 8 Y;have q9:=q 9 Y;have EB:=q 10 Y;simp only[Nat.add_zero,List.getElem?_cons_zero,List.getElem?_cons_succ]at q0 q1 q2 q3 q4 q5 q6 q7 q8 q9 EB;clear q hcs zS hrow acT;have aY:Below w.heap.size w wr:=aT;have HI:=Z axJ;clear axJ;obtain ⟨pb,xL⟩:=ν (ps[k]);rw[xL]at HI qf;clear xL tY;have b8:=Z aY;clear aY aT
   cases pb with
   |true=>
    have HT:=Z (show (k:Int)=oB ps by unfold oB;rw[<-qf.out.1,<-qf.out.2,bR,jI,if_pos rfl];simp)
    go_wp2_with fail;refine (HI.out _ b8.out).mono ?_;rintro e w1 ⟨rfl,hb1⟩;go_wp2_with fail;go_ret;exact ⟨aC HT.out,b8.out.trans (hb1.mono b8.out.size)⟩
   |false=>
    have HT:=Z (show bR (ps.drop (k+1))=bR ps/\jI (ps.drop (k+1))+(k+1)=jI ps from ⟨by rw[<-qf.out.1,bR];rfl,by rw[<-qf.out.2,jI,if_neg O];omega⟩)
    go_wp2_with fail;refine (HI.out _ b8.out).mono ?_;rintro e w1 ⟨rfl,hb1⟩;go_wp2_with fail;go_roundw
    case rel=>exact ⟨k+1,Y,by go_num,b8.out.trans (hb1.mono b8.out.size),HT⟩
    case measure=>exact μ
  .obtain rfl:k=rows.length:=Y;have hd:decide ((rows.length:Int)<(rows.length:Int))=false:=θ;have cX:decide (rows.length<rows.length)=false:=θ;have HT:=Z (show (-1:Int)=oB ps by unfold oB;rw[<-HR.out.1,<-HL.out,List.drop_length];rfl)
   go_wp2_with fail;go_ret;exact ⟨aC HT.out,aT⟩
theorem Jh(gi:Nat)(cV:Array Value)(rows:List (List Value))(ps:List Bool)(v:Value)(w:World)(h:je 11 w v rows)(ha:sG gi cV rows ps w):
  Calls Tryz.prog 82 #[v,.func (.func gi) #[] cV] w λe w'=>e=.returned (.bool (bR ps))/\Below w.heap.size w w':=by
 have axJ:=Z (WG gi cV rows ps v w h ha);clear h ha
 go_enter Tryz.func82,Tryz.ntmps82
 go_wp2_with fail;refine axJ.out.mono ?_;rintro e w1 ⟨rfl,hb⟩;have HR:=Z (uV ps);generalize oB ps=r at *;go_wp2_with fail;go_ret;exact ⟨ae HR.out,hb⟩
def IIn(w:World)(v:Value)(l:List Nat):Prop:=∃A c,v=.slice A l.length c/\(l.length<=c/\c<=9223372036854775807)/\(l=[]\/∃g f,A=some ⟨g,f,none⟩/\g<w.heap.size/\∀i (h:i<l.length),w.cell? ⟨g,f+i,none⟩=some (.int .i64 (l[i]:Int)))
def asT(gi:Nat)(cV:Array Value)(l:List Nat)(p:Nat->Bool)(w:World):Prop:=(∀args w',(callFunc gi args).run Tryz.prog w'=.ok (.enter gi args) w')/\
 ∀s∈l,∀w',Below w.heap.size w w'->Calls Tryz.prog gi (#[.int .i64 (s:Int)]++cV) w' λe w''=>e=.returned (.bool (p s))/\Below w'.heap.size w' w''
end Go.Proofs.YtdmoogjddmdmbaaGreatDoor
