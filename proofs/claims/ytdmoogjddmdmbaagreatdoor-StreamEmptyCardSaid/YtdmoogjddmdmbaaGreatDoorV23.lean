/- Walks. -/
import Derived.Test.YtdmoogjddmdmbaaGreatDoorV15
import Derived.Test.YtdmoogjddmdmbaaGreatDoorV06
set_option maxRecDepth 100000
set_option maxHeartbeats 16000000
set_option linter.unusedVariables false
set_option linter.unusedSimpArgs false
namespace Go.Proofs.YtdmoogjddmdmbaaGreatDoor
open Go.RowKit
section
set_option linter.unusedVariables false
set_option linter.unusedSimpArgs false
open Go.RowKit
structure Kn where
 nm:ByteArray
 pat:Nd
 wh:Bool
 ck:Int
 en:Int
 ws:List ByteArray
 nr:Int
def pK (w:World) (v:Value) (l:List ByteArray):Prop:=∃A c,v = .slice A l.length c/\(l.length<=c/\c<=9223372036854775807)/\(l=[]\/∃g f,A=some ⟨g,f,none⟩/\g<w.heap.size/\∀i (h:i<l.length),w.cell? ⟨g,f+i,none⟩=some (.string l[i]))
theorem pK.later {w w':World} {v:Value} {l:List ByteArray} (h:pK w v l) (hb:Below w.heap.size w w'):pK w' v l:=by
 obtain ⟨A,c,e,hc,h⟩:=h;refine ⟨A,c,e,hc,h.imp id ?_⟩;rintro ⟨g,f,h1,hg,hcell⟩;exact ⟨g,f,h1,Nat.lt_of_lt_of_le hg hb.size,λi hi=>(hb.cell (p:=⟨g,f+i,none⟩) hg).trans (hcell i hi)⟩
theorem pK.ic (w:World):pK w (.slice none 0 0) []:=⟨none,0,rfl,⟨by simp,by simp⟩, .inl rfl⟩
structure sG (w:World) (u:KC) (k:Kn):Prop where
 nm:u.nm=k.nm
 pat:bX w k.pat u.pat
 wh:u.wh=k.wh
 ck:u.ck=k.ck
 en:u.en=k.en
 ws:pK w (.slice u.a3 u.n3 u.c3) k.ws
 nr:u.nr=k.nr
theorem sG.later {w w':World} {u:KC} {k:Kn} (h:sG w u k) (hb:Below w.heap.size w w'):sG w' u k:=⟨h.nm,h.pat.later hb,h.wh,h.ck,h.en,h.ws.later hb,h.nr⟩
theorem sG.ajH {w:World} {u:KC} {k:Kn} (h:sG w u k):u.n3=k.ws.length/\u.n3<=u.c3/\u.c3<=9223372036854775807:=by
 obtain ⟨A,c,e,hc,-⟩:=h.ws;injection e with e1 e2 e3;rw[e2,e3];exact ⟨rfl,hc⟩
def fu (w:World) (v:Value) (us:List KC) (ks:List Kn):Prop:=us.length=ks.length/\∃A c,v = .slice A us.length c/\(us.length<=c/\c<=9223372036854775807)/\(us=[]\/∃g f,A=some ⟨g,f,none⟩/\g<w.heap.size/\∀i (h:i<us.length),∀j,j<11->w.cell? ⟨g,f+i*11+j,none⟩=us[i].cs[j]?)/\
 ∀i (h1:i<us.length) (h2:i<ks.length),sG w us[i] ks[i]
theorem fu.later {w w':World} {v:Value} {us:List KC} {ks:List Kn} (h:fu w v us ks) (hb:Below w.heap.size w w'):fu w' v us ks:=by
 obtain ⟨hl,A,c,e,hc,h,hk⟩:=h;refine ⟨hl,A,c,e,hc,h.imp id ?_,λi h1 h2=>(hk i h1 h2).later hb⟩;rintro ⟨g,f,h1,hg,hcell⟩;exact ⟨g,f,h1,Nat.lt_of_lt_of_le hg hb.size,λi hi j hj=>(hb.cell (p:=⟨g,f+i*11+j,none⟩) hg).trans (hcell i hi j hj)⟩
end
section
set_option linter.unusedVariables false
set_option linter.unusedSimpArgs false
open Go.RowKit
def N8 (c:Int):Bool:=(decide (97<=c) && decide (c<=122)) || (decide (48<=c) && decide (c<=57)) || decide (c=45)
def Hm:List UInt8->Bool
 | []=>true
 | c::r=>N8 (c.toNat:Int) && Hm r
def uN (l:List UInt8):Bool:=Hm l && (decide (1<=l.length) && decide (l.length<=40))
theorem Oa {u:UInt8} {c:Int} {r:List UInt8} (hc:c=u.toNat):Hm (u::r)=(N8 c && Hm r):=by subst hc;rfl
theorem Ob (s:ByteArray) (h:Hm (bl s)=true) (b c:Bool) (hb:b=decide (1<=s.size)) (hc:c=decide (s.size<=40)):(b && c)=uN (bl s):=by unfold uN;rw[h,hb,hc,aB];rfl
theorem Hn (s:ByteArray) (h:Hm (bl s)=false):false=uN (bl s):=by unfold uN;rw[h];rfl
set_option maxHeartbeats 1000000 in
theorem Fq (s:ByteArray) (w:World) (hs:s.size<=140737488355328):Calls Tryz.prog 108 #[.string s] w λe w'=>e = .returned (.bool (uN (bl s)))/\Below w.heap.size w w':=by
 have hcv:=λw=>Lib.run_convert_string_bytes (P:=Tryz.prog) w 9 28 5 s Tryz.underlying9 Tryz.underlying28 Tryz.underlying5;obtain ⟨W,C,B,hW,hC,hB,hcell,aI,-⟩:=dM w 5 s
 go_enter Tryz.func108,Tryz.ntmps108
 go_wp2
 rw[<-hW,<-hC,<-hB];clear hcv hW hC;have pB:=Lib.hid hB;clear hB
 go_loop [4,8] (λ_ i=>∃k:Nat,k<=s.size/\i = .int .i64 (k:Int)/\Hid (Hm ((bl s).drop k)=Hm (bl s))) (λ_ i=>s.size - (intOf i).toNat)
 case atStart=>exact ⟨0,Nat.zero_le _,rfl,rfl⟩
 case round=>
  obtain ⟨k,hk,rfl,HR⟩:=hrel;by_cases hlt:k<s.size
  .obtain ⟨u,c,lQ,nP,tG,hc,hdr⟩:=mO hcell k hlt;have HD:=Lib.hid (show Hm (bl s)=(N8 c && Hm ((bl s).drop (k+1))) by rw[<-HR.out,hdr.out,Oa lQ.out])
   have Mq:(97<=c/\c<=122)\/(48<=c/\c<=57)\/c=45\/(c<45)\/(45<c/\c<48)\/(57<c/\c<97)\/122<c:=by omega
   have adJ:N8 c=true->Hm ((bl s).drop (k+1))=Hm (bl s):=λhn=>by rw[HD.out,hn];rfl
   have G8:N8 c=false->Hm (bl s)=false:=λhn=>by rw[HD.out,hn];rfl
   have HY:=Lib.hid adJ;have HO:=Lib.hid G8;clear HD adJ G8;rcases Mq with ⟨h1,h2⟩ | ⟨h1,h2⟩ | rfl | h1 | ⟨h1,h2⟩ | ⟨h1,h2⟩ | h1
   .have HN:=Lib.hid (HY.out (by unfold N8;simp[h1,h2]))
    have d1:decide (c<97)=false:=decide_eq_false (by omega)
    have d2:decide (122<c)=false:=decide_eq_false (by omega)
    go_wp2
    go_round
    case rel=>exact ⟨k+1,by omega,by go_num,HN⟩
    case measure=>simp[intOf];omega
   .have HN:=Lib.hid (HY.out (by unfold N8;simp[h1,h2]))
    have d1:decide (c<97)=true:=decide_eq_true (by omega)
    have d3:decide (c<48)=false:=decide_eq_false (by omega)
    have d4:decide (57<c)=false:=decide_eq_false (by omega)
    go_wp2
    go_round
    case rel=>exact ⟨k+1,by omega,by go_num,HN⟩
    case measure=>simp[intOf];omega
   .have HN:=Lib.hid (HY.out (by decide))
    go_wp2
    go_round
    case rel=>exact ⟨k+1,by omega,by go_num,HN⟩
    case measure=>simp[intOf];omega
   .have HN:=Lib.hid (HO.out (by unfold N8;simp;omega))
    have d1:decide (c<97)=true:=decide_eq_true (by omega)
    have d3:decide (c<48)=true:=decide_eq_true (by omega)
    have d5:(c == 45)=false:=by simp;omega
    have d6:(c != 45)=true:=by simp;omega
    go_wp2
    go_ret;exact ⟨aj (Hn s HN.out),pB.out▸aI⟩
   .have HN:=Lib.hid (HO.out (by unfold N8;simp;omega))
    have d1:decide (c<97)=true:=decide_eq_true (by omega)
    have d3:decide (c<48)=true:=decide_eq_true (by omega)
    have d5:(c == 45)=false:=by simp;omega
    have d6:(c != 45)=true:=by simp;omega
    go_wp2
    go_ret;exact ⟨aj (Hn s HN.out),pB.out▸aI⟩
   .have HN:=Lib.hid (HO.out (by unfold N8;simp;omega))
    have d1:decide (c<97)=true:=decide_eq_true (by omega)
    have d3:decide (c<48)=false:=decide_eq_false (by omega)
    have d4:decide (57<c)=true:=decide_eq_true (by omega)
    have d5:(c == 45)=false:=by simp;omega
    have d6:(c != 45)=true:=by simp;omega
    go_wp2
    go_ret;exact ⟨aj (Hn s HN.out),pB.out▸aI⟩
   .have HN:=Lib.hid (HO.out (by unfold N8;simp;omega))
    have d1:decide (c<97)=false:=decide_eq_false (by omega)
    have d2:decide (122<c)=true:=decide_eq_true (by omega)
    have d3:decide (c<48)=false:=decide_eq_false (by omega)
    have d4:decide (57<c)=true:=decide_eq_true (by omega)
    have d5:(c == 45)=false:=by simp;omega
    have d6:(c != 45)=true:=by simp;omega
    go_wp2
    go_ret;exact ⟨aj (Hn s HN.out),pB.out▸aI⟩
  .obtain rfl:k=s.size:=by omega
   have HN:=Lib.hid (show Hm (bl s)=true by rw[<-HR.out,List.drop_eq_nil_of_le (by rw[aB];exact Nat.le_refl _)];rfl)
   by_cases h1:1<=s.size
   .have e1:decide ((s.size:Int)<1)=false:=decide_eq_false (by omega)
    have e2:decide (1<=(s.size:Int))=true:=decide_eq_true (by omega)
    by_cases h2:s.size<=40
    .have e3:decide ((s.size:Int)<=40)=true:=decide_eq_true (by omega)
     go_wp2
     go_ret;exact ⟨aj (Ob s HN.out true true (decide_eq_true h1).symm (decide_eq_true h2).symm),pB.out▸aI⟩
    .have e3:decide ((s.size:Int)<=40)=false:=decide_eq_false (by omega)
     go_wp2
     go_ret;exact ⟨aj (Ob s HN.out true false (decide_eq_true h1).symm (decide_eq_false h2).symm),pB.out▸aI⟩
   .have e2:decide (1<=(s.size:Int))=false:=decide_eq_false (by omega)
    go_wp2
    go_ret;exact ⟨aj (Ob s HN.out false (decide (s.size<=40)) (decide_eq_false h1).symm rfl),pB.out▸aI⟩
end
end Go.Proofs.YtdmoogjddmdmbaaGreatDoor
