/- Walks. -/
import Derived.Test.YtdmoogjddmdmbaaGreatDoorX12
import Derived.Test.YtdmoogjddmdmbaaGreatDoorX05
set_option maxRecDepth 100000
set_option maxHeartbeats 16000000
set_option linter.unusedVariables false
set_option linter.unusedSimpArgs false
namespace Go.Proofs.YtdmoogjddmdmbaaGreatDoor
open Go.RowKit
structure Kn where
 nm:ByteArray
 pat:Nd
 wh:Bool
 ck:Int
 en:Int
 ws:List ByteArray
 nr:Int
def pB(w:World)(v:Value)(l:List ByteArray):Prop:=∃A c,v=.slice A l.length c/\(l.length<=c/\c<=9223372036854775807)/\(l=[]\/∃g f,A=some ⟨g,f,none⟩/\g<w.heap.size/\∀i (h:i<l.length),w.cell? ⟨g,f+i,none⟩=some (.string l[i]))
theorem pB.later{w w':World}{v:Value}{l:List ByteArray}(h:pB w v l)(hb:Below w.heap.size w w'):pB w' v l:=by
 obtain ⟨A,c,e,hc,h⟩:=h;refine ⟨A,c,e,hc,h.imp id ?_⟩;rintro ⟨g,f,h1,hg,hcell⟩;exact ⟨g,f,h1,Nat.lt_of_lt_of_le hg hb.size,λi hi=>(hb.cl g (f+i) hg).trans (hcell i hi)⟩
theorem pB.km(w:World):pB w (.slice none 0 0) []:=⟨none,0,rfl,⟨ξ,ξ⟩,.inl rfl⟩
structure wQ (w:World) (u:KC) (k:Kn):Prop where
 nm:u.nm=k.nm
 pat:bT w k.pat u.pat
 wh:u.wh=k.wh
 ck:u.ck=k.ck
 en:u.en=k.en
 ws:pB w (.slice u.a3 u.n3 u.c3) k.ws
 nr:u.nr=k.nr
theorem wQ.later{w w':World}{u:KC}{k:Kn}(h:wQ w u k)(hb:Below w.heap.size w w'):wQ w' u k:=⟨h.nm,h.pat.later hb,h.wh,h.ck,h.en,h.ws.later hb,h.nr⟩
theorem wQ.ajZ{w:World}{u:KC}{k:Kn}(h:wQ w u k):u.n3=k.ws.length/\u.n3<=u.c3/\u.c3<=9223372036854775807:=by
 obtain ⟨A,c,e,hc,-⟩:=h.ws;injection e with e1 e2 e3;rw[e2,e3];exact ⟨rfl,hc⟩
def BX(w:World)(v:Value)(us:List KC)(ks:List Kn):Prop:=us.length=ks.length/\∃A c,v=.slice A us.length c/\(us.length<=c/\c<=9223372036854775807)/\(us=[]\/∃g f,A=some ⟨g,f,none⟩/\g<w.heap.size/\∀i (h:i<us.length),∀j,j<11->w.cell? ⟨g,f+i*11+j,none⟩=us[i].cs[j]?)/\
 ∀i (h1:i<us.length) (h2:i<ks.length),wQ w us[i] ks[i]
def NJ(c:Int):Bool:=(decide (97<=c) && decide (c<=122)) || (decide (48<=c) && decide (c<=57)) || decide (c=45)
def GZ:List UInt8->Bool
 | []=>true
 |c::r=>NJ (c.toNat:Int) && GZ r
def uP(l:List UInt8):Bool:=GZ l && (decide (1<=l.length) && decide (l.length<=40))
theorem NK{u:UInt8}{c:Int}{r:List UInt8}(hc:c=u.toNat):GZ (u::r)=(NJ c && GZ r):=by subst hc;rfl
theorem NL(s:ByteArray)(h:GZ (bl s)=true)(b c:Bool)(hb:b=decide (1<=s.size))(hc:c=decide (s.size<=40)):(b && c)=uP (bl s):=by unfold uP;rw[h,hb,hc,aE];rfl
theorem G0(s:ByteArray)(h:GZ (bl s)=false):false=uP (bl s):=by unfold uP;rw[h];rfl
theorem ES(s:ByteArray)(w:World)(hs:s.size<=140737488355328):Calls Tryz.prog 108 #[.string s] w λe w'=>e=.returned (.bool (uP (bl s)))/\Below w.heap.size w w':=by
 have hcv:=λw=>Lib.run_convert_string_bytes (P:=Tryz.prog) w 9 28 5 s Tryz.underlying9 Tryz.underlying28 Tryz.underlying5;obtain ⟨W,C,B,hW,hC,hB,hcell,aT,-⟩:=dt w 5 s
 go_enter Tryz.func108,Tryz.ntmps108
 go_wp2
 rw[<-hW,<-hC,<-hB];clear hcv hW hC;have qO:=Z hB;clear hB
 go_loop [4,8] (λ_ i=>∃k:Nat,k<=s.size/\i=.int .i64 (k:Int)/\Hid (GZ ((bl s).drop k)=GZ (bl s))) (λ_ i=>s.size - (intOf i).toNat)
 case atStart=>exact ⟨0,Nat.zero_le _,rfl,rfl⟩
 case round=>
  obtain ⟨k,hk,rfl,HR⟩:=hrel;by_cases hlt:k<s.size
  .obtain ⟨u,c,lD,lW,lY,hc,hdr⟩:=mL hcell k hlt;have HD:=Z (show GZ (bl s)=(NJ c && GZ ((bl s).drop (k+1))) by rw[<-HR.out,hdr.out,NK lD.out])
   have Bu:(97<=c/\c<=122)\/(48<=c/\c<=57)\/c=45\/(c<45)\/(45<c/\c<48)\/(57<c/\c<97)\/122<c:=Y;have aed:NJ c=true->GZ ((bl s).drop (k+1))=GZ (bl s):=λhn=>by rw[HD.out,hn];rfl
   have Py:NJ c=false->GZ (bl s)=false:=λhn=>by rw[HD.out,hn];rfl
   have HY:=Z aed;have HO:=Z Py;clear HD aed Py;rcases Bu with ⟨h1,h2⟩|⟨h1,h2⟩|rfl|h1|⟨h1,h2⟩|⟨h1,h2⟩|h1
   .have HN:=Z (HY.out (by unfold NJ;simp[h1,h2]))
    have d1:decide (c<97)=false:=θ;have d2:decide (122<c)=false:=θ
    go_wp2
    go_round
    case rel=>exact ⟨k+1,Y,by go_num,HN⟩
    case measure=>exact μ
   .have HN:=Z (HY.out (by unfold NJ;simp[h1,h2]))
    have d1:decide (c<97)=true:=τ;have d3:decide (c<48)=false:=θ;have d4:decide (57<c)=false:=θ
    go_wp2
    go_round
    case rel=>exact ⟨k+1,Y,by go_num,HN⟩
    case measure=>exact μ
   .have HN:=Z (HY.out O)
    go_wp2
    go_round
    case rel=>exact ⟨k+1,Y,by go_num,HN⟩
    case measure=>exact μ
   .have HN:=Z (HO.out (by unfold NJ;simp;omega))
    have d1:decide (c<97)=true:=τ;have d3:decide (c<48)=true:=τ;have d5:(c == 45)=false:=ψ;have d6:(c != 45)=true:=ψ
    go_wp2
    go_ret;exact ⟨ae (G0 s HN.out),qO.out▸aT⟩
   .have HN:=Z (HO.out (by unfold NJ;simp;omega))
    have d1:decide (c<97)=true:=τ;have d3:decide (c<48)=true:=τ;have d5:(c == 45)=false:=ψ;have d6:(c != 45)=true:=ψ
    go_wp2
    go_ret;exact ⟨ae (G0 s HN.out),qO.out▸aT⟩
   .have HN:=Z (HO.out (by unfold NJ;simp;omega))
    have d1:decide (c<97)=true:=τ;have d3:decide (c<48)=false:=θ;have d4:decide (57<c)=true:=τ;have d5:(c == 45)=false:=ψ;have d6:(c != 45)=true:=ψ
    go_wp2
    go_ret;exact ⟨ae (G0 s HN.out),qO.out▸aT⟩
   .have HN:=Z (HO.out (by unfold NJ;simp;omega))
    have d1:decide (c<97)=false:=θ;have d2:decide (122<c)=true:=τ;have d3:decide (c<48)=false:=θ;have d4:decide (57<c)=true:=τ;have d5:(c == 45)=false:=ψ;have d6:(c != 45)=true:=ψ
    go_wp2
    go_ret;exact ⟨ae (G0 s HN.out),qO.out▸aT⟩
  .obtain rfl:k=s.size:=Y;have HN:=Z (show GZ (bl s)=true by rw[<-HR.out,List.drop_eq_nil_of_le (by rw[aE];exact I)];rfl)
   by_cases h1:1<=s.size
   .have e1:decide ((s.size:Int)<1)=false:=θ;have e2:decide (1<=(s.size:Int))=true:=τ;by_cases h2:s.size<=40
    .have e3:decide ((s.size:Int)<=40)=true:=τ
     go_wp2
     go_ret;exact ⟨ae (NL s HN.out true true (decide_eq_true h1).symm (decide_eq_true h2).symm),qO.out▸aT⟩
    .have e3:decide ((s.size:Int)<=40)=false:=θ
     go_wp2
     go_ret;exact ⟨ae (NL s HN.out true false (decide_eq_true h1).symm (decide_eq_false h2).symm),qO.out▸aT⟩
   .have e2:decide (1<=(s.size:Int))=false:=θ
    go_wp2
    go_ret;exact ⟨ae (NL s HN.out false (decide (s.size<=40)) (decide_eq_false h1).symm rfl),qO.out▸aT⟩
end Go.Proofs.YtdmoogjddmdmbaaGreatDoor
