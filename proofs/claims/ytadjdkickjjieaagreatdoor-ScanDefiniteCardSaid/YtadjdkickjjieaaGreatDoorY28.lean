/- slices.IndexFunc and slices.ContainsFunc over strings and kinds, for any function value that answers. -/
import Derived.Test.YtadjdkickjjieaaGreatDoorY05
import Derived.Test.YtadjdkickjjieaaGreatDoorY24
namespace Go.Proofs.YtadjdkickjjieaaGreatDoor
set_option linter.unusedVariables false
set_option linter.unusedSimpArgs false
set_option maxRecDepth 100000
open Go.RowKit
def AskS (gi:Nat) (caps:Array Value) (l:List ByteArray) (p:ByteArray->Bool) (w:World):Prop:=(∀args w',(callFunc gi args).run Tryz.prog w' = .ok (.enter gi args) w')/\
 ∀s∈l,∀w',Below w.heap.size w w'->Calls Tryz.prog gi (#[.string s]++caps) w' λe w''=>e = .returned (.bool (p s))/\Below w'.heap.size w' w''
set_option maxHeartbeats 1000000 in
theorem zMW (gi:Nat) (caps:Array Value) (l:List ByteArray) (p:ByteArray->Bool) (v:Value) (w:World) (h:StIn w v l) (ha:AskS gi caps l p w) :
  Calls Tryz.prog 127 #[v, .func (.func gi) #[] caps] w λe w'=>e = .returned (.int .i64 (ixJ (l.map p)))/\Below w.heap.size w w':=by
 obtain ⟨A,c,rfl,hc,hcell⟩:=h;obtain ⟨ei,hp⟩:=ha;obtain ⟨ps,hps⟩:∃ps,l.map p=ps:=⟨_,rfl⟩;have hlen:ps.length=l.length:=by rw[<-hps];simp
 rw[hps];have HL:=Lib.hid hlen;have hmx:l.length<=9223372036854775807:=by omega
 have HC:=Lib.hid hcell;have HP:=Lib.hid (λ(i:Nat) (hi:i<l.length) (hi2:i<ps.length)=>show ∀w',Below w.heap.size w w'->Calls Tryz.prog gi (#[.string l[i]]++caps) w' λe w''=>e = .returned (.bool ps[i])/\Below w'.heap.size w' w'' from by
  have e:ps[i]=p l[i]:=by subst hps;simp
  rw[e];exact hp l[i] (List.getElem_mem hi))
 clear hcell hp hlen hps
 go_enter Tryz.func127,Tryz.ntmps127
 go_wp2
 go_loopw [8] (λv wr=>∃k:Nat,k<=l.length/\v = .int .i64 (k:Int)/\Below w.heap.size w wr/\Hid (anyP (ps.drop k)=anyP ps/\ixP (ps.drop k)+k=ixP ps)) (λv _=>l.length - (intOf v).toNat)
 case atStart=>exact ⟨0,by omega,rfl,Below.refl _ _,rfl,rfl⟩
 case round=>
  obtain ⟨k,hk,rfl,hbel,HR⟩:=hrel;by_cases hlt:k<l.length
  .have hd:decide ((k:Int)<(l.length:Int))=true:=decide_eq_true (by omega)
   have hdn:decide (k<l.length)=true:=decide_eq_true hlt;obtain ⟨g,ff,rfl,hg,hcs⟩:=HC.out.resolve_left (by intro e;rw[e]at hlt;simp at hlt)
   have hkp:k<ps.length:=by have:=HL.out;omega
   have HDR:=Lib.hid (show anyP (ps[k]::ps.drop (k+1))=anyP ps/\ixP (ps[k]::ps.drop (k+1))+k=ixP ps by rw[<-List.drop_eq_getElem_cons hkp];exact HR.out)
   have I:=λw'=>HP.out k hlt hkp w';have q0:wr.cell? ⟨g,ff+k,none⟩=some (.string l[k]):=(hbel.cell (p:=⟨g,ff+k,none⟩) hg).trans (hcs k hlt);obtain ⟨x0,hx0⟩:∃x,l[k]=x:=⟨_,rfl⟩;rw[hx0]at q0 I;clear hcs hx0;have hbw:Below w.heap.size w wr:=hbel;have HI:=Lib.hid I;clear I;obtain ⟨pb,hpb⟩:∃pb,ps[k]=pb:=⟨_,rfl⟩;rw[hpb]at HI HDR;clear hpb hkp;have HBW:=Lib.hid hbw;clear hbw hbel
   cases pb with
   | true=>
    have HT:=Lib.hid (show (k:Int)=ixJ ps by unfold ixJ;rw[<-HDR.out.1,<-HDR.out.2,anyP,ixP,if_pos rfl];simp)
    go_wp2_with fail;refine (HI.out _ HBW.out).mono ?_;rintro e w1 ⟨rfl,hb1⟩;go_wp2_with fail;go_ret;exact ⟨zAO HT.out,HBW.out.trans (hb1.mono HBW.out.size)⟩
   | false=>
    have HT:=Lib.hid (show anyP (ps.drop (k+1))=anyP ps/\ixP (ps.drop (k+1))+(k+1)=ixP ps from ⟨by rw[<-HDR.out.1,anyP];rfl,by rw[<-HDR.out.2,ixP,if_neg (by decide)];omega⟩)
    go_wp2_with fail;refine (HI.out _ HBW.out).mono ?_;rintro e w1 ⟨rfl,hb1⟩;go_wp2_with fail;go_roundw
    case rel=>exact ⟨k+1,by omega,by go_num,HBW.out.trans (hb1.mono HBW.out.size),HT⟩
    case measure=>simp[intOf];omega
  .obtain rfl:k=l.length:=by omega
   have hd:decide ((l.length:Int)<(l.length:Int))=false:=decide_eq_false (by omega)
   have hdn:decide (l.length<l.length)=false:=decide_eq_false (by omega)
   have HT:=Lib.hid (show (-1:Int)=ixJ ps by unfold ixJ;rw[<-HR.out.1,<-HL.out,List.drop_length];rfl)
   go_wp2_with fail;go_ret;exact ⟨zAO HT.out,hbel⟩
theorem zID (gi:Nat) (caps:Array Value) (l:List ByteArray) (p:ByteArray->Bool) (v:Value) (w:World) (h:StIn w v l) (ha:AskS gi caps l p w) :
  Calls Tryz.prog 96 #[v, .func (.func gi) #[] caps] w λe w'=>e = .returned (.bool (l.any p))/\Below w.heap.size w w':=by
 have I:=Lib.hid (zMW gi caps l p v w h ha);have hany:anyP (l.map p)=l.any p:=zB9 p l;rw[<-hany];clear h ha hany
 go_enter Tryz.func96,Tryz.ntmps96
 go_wp2_with fail;refine I.out.mono ?_;rintro e w1 ⟨rfl,hb⟩;have HR:=Lib.hid (zGi (l.map p));generalize ixJ (l.map p)=r at *;go_wp2_with fail;go_ret;exact ⟨zAA HR.out,hb⟩
end Go.Proofs.YtadjdkickjjieaaGreatDoor
