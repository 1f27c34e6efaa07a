/- slices.IndexFunc and slices.ContainsFunc over strings and kinds, for any function value that answers. · slices.IndexFunc and slices.ContainsFunc over numbers, for any function value that answers. -/
import Derived.Test.YtdmoogjddmdmbaaGreatDoorY07
import Derived.Test.YtdmoogjddmdmbaaGreatDoorY23
namespace Go.Proofs.YtdmoogjddmdmbaaGreatDoor
set_option linter.unusedVariables false
set_option linter.unusedSimpArgs false
set_option maxRecDepth 100000
open Go.RowKit
def AskS (gi:Nat) (caps:Array Value) (l:List ByteArray) (p:ByteArray->Bool) (w:World):Prop:=(∀args w',(callFunc gi args).run Tryz.prog w' = .ok (.enter gi args) w')/\
 ∀s∈l,∀w',Below w.heap.size w w'->Calls Tryz.prog gi (#[.string s]++caps) w' λe w''=>e = .returned (.bool (p s))/\Below w'.heap.size w' w''
set_option maxHeartbeats 1000000 in
theorem indexS (gi:Nat) (caps:Array Value) (l:List ByteArray) (p:ByteArray->Bool) (v:Value) (w:World) (h:StIn w v l) (ha:AskS gi caps l p w) :
  Calls Tryz.prog 141 #[v, .func (.func gi) #[] caps] w λe w'=>e = .returned (.int .i64 (ixJ (l.map p)))/\Below w.heap.size w w':=by
 obtain ⟨A,c,rfl,hc,hcell⟩:=h;obtain ⟨ei,hp⟩:=ha;obtain ⟨ps,hps⟩:∃ps,l.map p=ps:=⟨_,rfl⟩;have hlen:ps.length=l.length:=by rw[<-hps];simp
 rw[hps];have HL:=Lib.hid hlen;have hmx:l.length<=9223372036854775807:=by omega
 have HC:=Lib.hid hcell;have HP:=Lib.hid (λ(i:Nat) (hi:i<l.length) (hi2:i<ps.length)=>show ∀w',Below w.heap.size w w'->Calls Tryz.prog gi (#[.string l[i]]++caps) w' λe w''=>e = .returned (.bool ps[i])/\Below w'.heap.size w' w'' from by
  have e:ps[i]=p l[i]:=by subst hps;simp
  rw[e];exact hp l[i] (List.getElem_mem hi))
 clear hcell hp hlen hps
 go_enter Tryz.func141,Tryz.ntmps141
 go_wp2
 go_loopw [8] (λv wr=>∃k:Nat,k<=l.length/\v = .int .i64 (k:Int)/\Below w.heap.size w wr/\Hid (anyP (ps.drop k)=anyP ps/\ixP (ps.drop k)+k=ixP ps)) (λv _=>l.length - (intOf v).toNat)
 case atStart=>exact ⟨0,by omega,rfl,Below.refl _ _,rfl,rfl⟩
 case round=>
  obtain ⟨k,hk,rfl,hbel,HR⟩:=hrel;by_cases hlt:k<l.length
  .have hd:decide ((k:Int)<(l.length:Int))=true:=decide_eq_true (by omega)
   have hdn:decide (k<l.length)=true:=decide_eq_true hlt;obtain ⟨g,ff,rfl,hg,hcs⟩:=HC.out.resolve_left (by intro e;rw[e]at hlt;simp at hlt)
   have hkp:k<ps.length:=by have:=HL.out;omega
   have HDR:=Lib.hid (show anyP (ps[k]::ps.drop (k+1))=anyP ps/\ixP (ps[k]::ps.drop (k+1))+k=ixP ps by rw[<-List.drop_eq_getElem_cons hkp];exact HR.out)
   have I:=λw'=>HP.out k hlt hkp w';have q0:wr.cell? ⟨g,ff+k,none⟩=some (.string l[k]):=(hbel.cell (p:=⟨g,ff+k,none⟩) hg).trans (hcs k hlt);obtain ⟨x0,hx0⟩:∃x,l[k]=x:=⟨_,rfl⟩;rw[hx0]at q0 I;clear hcs hx0;have hbw:Below w.heap.size w wr:=hbel;have HI:=Lib.hid I;clear I;obtain ⟨pb,hpb⟩:∃pb,ps[k]=pb:=⟨_,rfl⟩;rw[hpb]at HI HDR;clear hpb hkp;have HBW:=Lib.hid hbw;clear hbw hbel
   cases pb with
   | true=>
    have HT:=Lib.hid (show (k:Int)=ixJ ps by unfold ixJ;rw[<-HDR.out.1,<-HDR.out.2,anyP,ixP,if_pos rfl];simp)
    go_wp2_with fail;refine (HI.out _ HBW.out).mono ?_;rintro e w1 ⟨rfl,hb1⟩;go_wp2_with fail;go_ret;exact ⟨ret_int HT.out,HBW.out.trans (hb1.mono HBW.out.size)⟩
   | false=>
    have HT:=Lib.hid (show anyP (ps.drop (k+1))=anyP ps/\ixP (ps.drop (k+1))+(k+1)=ixP ps from ⟨by rw[<-HDR.out.1,anyP];rfl,by rw[<-HDR.out.2,ixP,if_neg (by decide)];omega⟩)
    go_wp2_with fail;refine (HI.out _ HBW.out).mono ?_;rintro e w1 ⟨rfl,hb1⟩;go_wp2_with fail;go_roundw
    case rel=>exact ⟨k+1,by omega,by go_num,HBW.out.trans (hb1.mono HBW.out.size),HT⟩
    case measure=>simp[intOf];omega
  .obtain rfl:k=l.length:=by omega
   have hd:decide ((l.length:Int)<(l.length:Int))=false:=decide_eq_false (by omega)
   have hdn:decide (l.length<l.length)=false:=decide_eq_false (by omega)
   have HT:=Lib.hid (show (-1:Int)=ixJ ps by unfold ixJ;rw[<-HR.out.1,<-HL.out,List.drop_length];rfl)
   go_wp2_with fail;go_ret;exact ⟨ret_int HT.out,hbel⟩
theorem containsS (gi:Nat) (caps:Array Value) (l:List ByteArray) (p:ByteArray->Bool) (v:Value) (w:World) (h:StIn w v l) (ha:AskS gi caps l p w) :
  Calls Tryz.prog 113 #[v, .func (.func gi) #[] caps] w λe w'=>e = .returned (.bool (l.any p))/\Below w.heap.size w w':=by
 have I:=Lib.hid (indexS gi caps l p v w h ha);have hany:anyP (l.map p)=l.any p:=anyP_map p l;rw[<-hany];clear h ha hany
 go_enter Tryz.func113,Tryz.ntmps113
 go_wp2_with fail;refine I.out.mono ?_;rintro e w1 ⟨rfl,hb⟩;have HR:=Lib.hid (ixJ_ge (l.map p));generalize ixJ (l.map p)=r at *;go_wp2_with fail;go_ret;exact ⟨ret_bool HR.out,hb⟩
theorem row11 {l:List Value} (h:l.length=11):∃x0 x1 x2 x3 x4 x5 x6 x7 x8 x9 x10,l=[x0,x1,x2,x3,x4,x5,x6,x7,x8,x9,x10]:=by
 match l,h with
 | [x0,x1,x2,x3,x4,x5,x6,x7,x8,x9,x10],_=>exact ⟨x0,x1,x2,x3,x4,x5,x6,x7,x8,x9,x10,rfl⟩
set_option maxHeartbeats 1000000 in
theorem indexK (gi:Nat) (caps:Array Value) (rows:List (List Value)) (ps:List Bool) (v:Value) (w:World) (h:RowsV 11 w v rows) (ha:AskR gi caps rows ps w) :
  Calls Tryz.prog 114 #[v, .func (.func gi) #[] caps] w λe w'=>e = .returned (.int .i64 (ixJ ps))/\Below w.heap.size w w':=by
 obtain ⟨A,c,rfl,hc,hcell⟩:=h;obtain ⟨ei,hlen,hp⟩:=ha;have HL:=Lib.hid hlen;have hmx:rows.length<=9223372036854775807:=by omega
 have HC:=Lib.hid hcell;have HP:=Lib.hid hp;clear hcell hp hlen
 go_enter Tryz.func114,Tryz.ntmps114
 go_wp2
 go_loopw [8] (λv wr=>∃k:Nat,k<=rows.length/\v = .int .i64 (k:Int)/\Below w.heap.size w wr/\Hid (anyP (ps.drop k)=anyP ps/\ixP (ps.drop k)+k=ixP ps)) (λv _=>rows.length - (intOf v).toNat)
 case atStart=>exact ⟨0,by omega,rfl,Below.refl _ _,rfl,rfl⟩
 case round=>
  obtain ⟨k,hk,rfl,hbel,HR⟩:=hrel;by_cases hlt:k<rows.length
  .have hd:decide ((k:Int)<(rows.length:Int))=true:=decide_eq_true (by omega)
   have hdn:decide (k<rows.length)=true:=decide_eq_true hlt;obtain ⟨g,ff,rfl,hg,hcs⟩:=HC.out.resolve_left (by intro e;rw[e]at hlt;simp at hlt)
   have hkp:k<ps.length:=by have:=HL.out;omega
   have HDR:=Lib.hid (show anyP (ps[k]::ps.drop (k+1))=anyP ps/\ixP (ps[k]::ps.drop (k+1))+k=ixP ps by rw[<-List.drop_eq_getElem_cons hkp];exact HR.out)
   have I:=λw'=>HP.out k hlt ps[k] (List.getElem?_eq_getElem hkp) w';obtain ⟨hl11,hcj⟩:=hcs k hlt;obtain ⟨x0,x1,x2,x3,x4,x5,x6,x7,x8,x9,x10,hrow⟩:=row11 hl11;rw[hrow]at hcj I;have q:∀j,j<11->wr.cell? ⟨g,ff+k*11+j,none⟩=([x0,x1,x2,x3,x4,x5,x6,x7,x8,x9,x10]:List Value)[j]?:=λj hj=>(hbel.cell (p:=⟨g,ff+k*11+j,none⟩) hg).trans (hcj j hj);have q0:=q 0 (by omega);have q1:=q 1 (by omega);have q2:=q 2 (by omega);have q3:=q 3 (by omega);have q4:=q 4 (by omega);have q5:=q 5 (by omega);have q6:=q 6 (by omega);have q7:=q 7 (by omega);have q8:=q 8 (by omega);have q9:=q 9 (by omega);have q10:=q 10 (by omega)
   simp only[Nat.add_zero,List.getElem?_cons_zero,List.getElem?_cons_succ]at q0 q1 q2 q3 q4 q5 q6 q7 q8 q9 q10;clear q hcs hcj hrow hl11;have hbw:Below w.heap.size w wr:=hbel;have HI:=Lib.hid I;clear I;obtain ⟨pb,hpb⟩:∃pb,ps[k]=pb:=⟨_,rfl⟩;rw[hpb]at HI HDR;clear hpb hkp;have HBW:=Lib.hid hbw;clear hbw hbel
   cases pb with
   | true=>
    have HT:=Lib.hid (show (k:Int)=ixJ ps by unfold ixJ;rw[<-HDR.out.1,<-HDR.out.2,anyP,ixP,if_pos rfl];simp)
    go_wp2_with fail;refine (HI.out _ HBW.out).mono ?_;rintro e w1 ⟨rfl,hb1⟩;go_wp2_with fail;go_ret;exact ⟨ret_int HT.out,HBW.out.trans (hb1.mono HBW.out.size)⟩
   | false=>
    have HT:=Lib.hid (show anyP (ps.drop (k+1))=anyP ps/\ixP (ps.drop (k+1))+(k+1)=ixP ps from ⟨by rw[<-HDR.out.1,anyP];rfl,by rw[<-HDR.out.2,ixP,if_neg (by decide)];omega⟩)
    go_wp2_with fail;refine (HI.out _ HBW.out).mono ?_;rintro e w1 ⟨rfl,hb1⟩;go_wp2_with fail;go_roundw
    case rel=>exact ⟨k+1,by omega,by go_num,HBW.out.trans (hb1.mono HBW.out.size),HT⟩
    case measure=>simp[intOf];omega
  .obtain rfl:k=rows.length:=by omega
   have hd:decide ((rows.length:Int)<(rows.length:Int))=false:=decide_eq_false (by omega)
   have hdn:decide (rows.length<rows.length)=false:=decide_eq_false (by omega)
   have HT:=Lib.hid (show (-1:Int)=ixJ ps by unfold ixJ;rw[<-HR.out.1,<-HL.out,List.drop_length];rfl)
   go_wp2_with fail;go_ret;exact ⟨ret_int HT.out,hbel⟩
theorem containsK (gi:Nat) (caps:Array Value) (rows:List (List Value)) (ps:List Bool) (v:Value) (w:World) (h:RowsV 11 w v rows) (ha:AskR gi caps rows ps w) :
  Calls Tryz.prog 82 #[v, .func (.func gi) #[] caps] w λe w'=>e = .returned (.bool (anyP ps))/\Below w.heap.size w w':=by
 have I:=Lib.hid (indexK gi caps rows ps v w h ha);clear h ha
 go_enter Tryz.func82,Tryz.ntmps82
 go_wp2_with fail;refine I.out.mono ?_;rintro e w1 ⟨rfl,hb⟩;have HR:=Lib.hid (ixJ_ge ps);generalize ixJ ps=r at *;go_wp2_with fail;go_ret;exact ⟨ret_bool HR.out,hb⟩
def IIn (w:World) (v:Value) (l:List Nat):Prop:=∃A c,v = .slice A l.length c/\(l.length<=c/\c<=9223372036854775807)/\(l=[]\/∃g f,A=some ⟨g,f,none⟩/\g<w.heap.size/\∀i (h:i<l.length),w.cell? ⟨g,f+i,none⟩=some (.int .i64 (l[i]:Int)))
theorem IIn.later {w w':World} {v:Value} {l:List Nat} (h:IIn w v l) (hb:Below w.heap.size w w'):IIn w' v l:=by
 obtain ⟨A,c,e,hc,h⟩:=h;refine ⟨A,c,e,hc,h.imp id ?_⟩;rintro ⟨g,f,h1,hg,hcell⟩;exact ⟨g,f,h1,Nat.lt_of_lt_of_le hg hb.size,λi hi=>(hb.cell (p:=⟨g,f+i,none⟩) hg).trans (hcell i hi)⟩
def AskI (gi:Nat) (caps:Array Value) (l:List Nat) (p:Nat->Bool) (w:World):Prop:=(∀args w',(callFunc gi args).run Tryz.prog w' = .ok (.enter gi args) w')/\
 ∀s∈l,∀w',Below w.heap.size w w'->Calls Tryz.prog gi (#[.int .i64 (s:Int)]++caps) w' λe w''=>e = .returned (.bool (p s))/\Below w'.heap.size w' w''
set_option maxHeartbeats 1000000 in
theorem indexI (gi:Nat) (caps:Array Value) (l:List Nat) (p:Nat->Bool) (v:Value) (w:World) (h:IIn w v l) (ha:AskI gi caps l p w) :
  Calls Tryz.prog 90 #[v, .func (.func gi) #[] caps] w λe w'=>e = .returned (.int .i64 (ixJ (l.map p)))/\Below w.heap.size w w':=by
 obtain ⟨A,c,rfl,hc,hcell⟩:=h;obtain ⟨ei,hp⟩:=ha;obtain ⟨ps,hps⟩:∃ps,l.map p=ps:=⟨_,rfl⟩;have hlen:ps.length=l.length:=by rw[<-hps];simp
 rw[hps];have HL:=Lib.hid hlen;have hmx:l.length<=9223372036854775807:=by omega
 have HC:=Lib.hid hcell;have HP:=Lib.hid (λ(i:Nat) (hi:i<l.length) (hi2:i<ps.length)=>show ∀w',Below w.heap.size w w'->Calls Tryz.prog gi (#[.int .i64 (l[i]:Int)]++caps) w' λe w''=>e = .returned (.bool ps[i])/\Below w'.heap.size w' w'' from by
  have e:ps[i]=p l[i]:=by subst hps;simp
  rw[e];exact hp l[i] (List.getElem_mem hi))
 clear hcell hp hlen hps
 go_enter Tryz.func90,Tryz.ntmps90
 go_wp2
 go_loopw [8] (λv wr=>∃k:Nat,k<=l.length/\v = .int .i64 (k:Int)/\Below w.heap.size w wr/\Hid (anyP (ps.drop k)=anyP ps/\ixP (ps.drop k)+k=ixP ps)) (λv _=>l.length - (intOf v).toNat)
 case atStart=>exact ⟨0,by omega,rfl,Below.refl _ _,rfl,rfl⟩
 case round=>
  obtain ⟨k,hk,rfl,hbel,HR⟩:=hrel;by_cases hlt:k<l.length
  .have hd:decide ((k:Int)<(l.length:Int))=true:=decide_eq_true (by omega)
   have hdn:decide (k<l.length)=true:=decide_eq_true hlt;obtain ⟨g,ff,rfl,hg,hcs⟩:=HC.out.resolve_left (by intro e;rw[e]at hlt;simp at hlt)
   have hkp:k<ps.length:=by have:=HL.out;omega
   have HDR:=Lib.hid (show anyP (ps[k]::ps.drop (k+1))=anyP ps/\ixP (ps[k]::ps.drop (k+1))+k=ixP ps by rw[<-List.drop_eq_getElem_cons hkp];exact HR.out)
   have I:=λw'=>HP.out k hlt hkp w';have q0:wr.cell? ⟨g,ff+k,none⟩=some (.int .i64 (l[k]:Int)):=(hbel.cell (p:=⟨g,ff+k,none⟩) hg).trans (hcs k hlt);obtain ⟨x0,hx0⟩:∃x,l[k]=x:=⟨_,rfl⟩;rw[hx0]at q0 I;clear hcs hx0;have hbw:Below w.heap.size w wr:=hbel;have HI:=Lib.hid I;clear I;obtain ⟨pb,hpb⟩:∃pb,ps[k]=pb:=⟨_,rfl⟩;rw[hpb]at HI HDR;clear hpb hkp;have HBW:=Lib.hid hbw;clear hbw hbel
   cases pb with
   | true=>
    have HT:=Lib.hid (show (k:Int)=ixJ ps by unfold ixJ;rw[<-HDR.out.1,<-HDR.out.2,anyP,ixP,if_pos rfl];simp)
    go_wp2_with fail;refine (HI.out _ HBW.out).mono ?_;rintro e w1 ⟨rfl,hb1⟩;go_wp2_with fail;go_ret;exact ⟨ret_int HT.out,HBW.out.trans (hb1.mono HBW.out.size)⟩
   | false=>
    have HT:=Lib.hid (show anyP (ps.drop (k+1))=anyP ps/\ixP (ps.drop (k+1))+(k+1)=ixP ps from ⟨by rw[<-HDR.out.1,anyP];rfl,by rw[<-HDR.out.2,ixP,if_neg (by decide)];omega⟩)
    go_wp2_with fail;refine (HI.out _ HBW.out).mono ?_;rintro e w1 ⟨rfl,hb1⟩;go_wp2_with fail;go_roundw
    case rel=>exact ⟨k+1,by omega,by go_num,HBW.out.trans (hb1.mono HBW.out.size),HT⟩
    case measure=>simp[intOf];omega
  .obtain rfl:k=l.length:=by omega
   have hd:decide ((l.length:Int)<(l.length:Int))=false:=decide_eq_false (by omega)
   have hdn:decide (l.length<l.length)=false:=decide_eq_false (by omega)
   have HT:=Lib.hid (show (-1:Int)=ixJ ps by unfold ixJ;rw[<-HR.out.1,<-HL.out,List.drop_length];rfl)
   go_wp2_with fail;go_ret;exact ⟨ret_int HT.out,hbel⟩
theorem containsI (gi:Nat) (caps:Array Value) (l:List Nat) (p:Nat->Bool) (v:Value) (w:World) (h:IIn w v l) (ha:AskI gi caps l p w) :
  Calls Tryz.prog 70 #[v, .func (.func gi) #[] caps] w λe w'=>e = .returned (.bool (l.any p))/\Below w.heap.size w w':=by
 have I:=Lib.hid (indexI gi caps l p v w h ha);have hany:anyP (l.map p)=l.any p:=anyP_map p l;rw[<-hany];clear h ha hany
 go_enter Tryz.func70,Tryz.ntmps70
 go_wp2_with fail;refine I.out.mono ?_;rintro e w1 ⟨rfl,hb⟩;have HR:=Lib.hid (ixJ_ge (l.map p));generalize ixJ (l.map p)=r at *;go_wp2_with fail;go_ret;exact ⟨ret_bool HR.out,hb⟩
end Go.Proofs.YtdmoogjddmdmbaaGreatDoor
