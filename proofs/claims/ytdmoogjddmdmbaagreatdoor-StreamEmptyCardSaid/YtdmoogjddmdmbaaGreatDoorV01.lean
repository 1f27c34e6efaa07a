/- Walks. -/
import Derived.IntWalk
import Derived.Laws.Entries
import Derived.Laws.Closers25b
import Derived.Laws.BitsAllLaws
import Derived.Lib.Strings
set_option maxRecDepth 100000
set_option maxHeartbeats 16000000
set_option linter.unusedVariables false
set_option linter.unusedSimpArgs false
namespace Go.Proofs.YtdmoogjddmdmbaaGreatDoor
section
set_option linter.unusedVariables false
set_option linter.unusedSimpArgs false
open Go
def bl (s:ByteArray):List UInt8:=s.data.toList
def bs (l:List UInt8):ByteArray:=⟨l.toArray⟩
theorem oo (l:List UInt8):bl (bs l)=l:=rfl
theorem UC (s:ByteArray):bs (bl s)=s:=rfl
theorem dj (l:List UInt8):(bs l).size=l.length:=by simp[bs,ByteArray.size]
theorem aB (s:ByteArray):(bl s).length=s.size:=by simp[bl]
theorem NK {s t:ByteArray} (h:bl s=bl t):s=t:=by rw[<-UC s,h,UC]
theorem nw (s:ByteArray):s.toList=bl s:=Lib.toList_data s
theorem iC (s:ByteArray) (k:Nat) (h:k<s.size):(bl s).drop k=s[k]::(bl s).drop (k+1):=by
 rw[List.drop_eq_getElem_cons (by rw[aB];exact h)];rfl
theorem eG (s:ByteArray):(bl s).drop s.size=[]:=List.drop_eq_nil_of_le (by rw[aB];exact Nat.le_refl _)
def qM (c:Int):Bool:=decide (48<=c) && decide (c<=57)
def cap (c:Int):Bool:=decide (65<=c) && decide (c<=90)
def dU (p:Int->Bool):List UInt8->Bool
 | []=>true
 | c::r=>p c.toNat && dU p r
theorem mT {p:Int->Bool} {c:UInt8} {r:List UInt8} (h:p c.toNat=false):dU p (c::r)=false:=by simp[dU,h]
theorem pU {p:Int->Bool} {c:UInt8} {r:List UInt8} (h:p c.toNat=true):dU p (c::r)=dU p r:=by simp[dU,h]
def Be (c:Int):Bool:=qM c || cap c
theorem XR {c:Int} (h:48<=c) (h':c<=57):qM c=true:=by simp[qM,h,h']
theorem Hr {c:Int} (h:c<48\/57<c):qM c=false:=by simp[qM];omega
theorem Ol {c:Int} (h:(48<=c/\c<=57)\/(65<=c/\c<=90)):Be c=true:=by simp[Be,qM,cap];omega
theorem zX {c:Int} (h:¬((48<=c/\c<=57)\/(65<=c/\c<=90))):Be c=false:=by simp[Be,qM,cap];omega
def wR (c:Int):Bool:=decide (0<=c) && decide (c<=4)
def val (c a:Int):Int:=(c-a) % 256
def Qu (n:Int):Int:=if 9<n*2 then n*2 - 9 else n*2
def od:List UInt8->Int->Int
 | [],n=>n
 | c::r,n=>od r (n+if (r.length+1) % 2=0 then Qu (val c.toNat 48) else val c.toNat 48)
theorem qV {u:UInt8} {c N M:Int} {r:List UInt8} (hc:c=u.toNat) (hM:M=N+if (r.length+1) % 2=0 then Qu (val c 48) else val c 48):od r M=od (u::r) N:=by
 subst hc hM;rfl
def r6:List UInt8->Nat->Int->Int
 | [],_,n=>n
 | c::r,i,n=>r6 r (i+1) (n+if i % 2=1 then Qu (val c.toNat 48) else val c.toNat 48)
theorem vq {u:UInt8} {c N M:Int} {r:List UInt8} {i:Nat} (hc:c=u.toNat) (hM:M=N+if i % 2=1 then Qu (val c 48) else val c 48):r6 r (i+1) M=r6 (u::r) i N:=by
 subst hc hM;rfl
def m97 (c n:Int):Int:=if qM c=true then (n*10+val c 48) % 97 else (n*100+val c 65+10) % 97
def iN:List UInt8->Int->Int
 | [],n=>n
 | c::r,n=>iN r (m97 c.toNat n)
theorem EA {u:UInt8} {c N:Int} {r:List UInt8} {b:Bool} (hc:c=u.toNat) (hd:qM c=b):iN r (if b=true then (N*10+(c - 48) % 256) % 97 else (N*100+(c - 65) % 256+10) % 97)=iN (u::r) N:=by
 subst hc hd;rfl
def dQ:List UInt8->Int->Int
 | [],n=>n
 | c::r,n=>dQ r (if (c.toNat:Int)<=57 then (n*10+val c.toNat 48) % 97 else (n*100+val c.toNat 65+10) % 97)
theorem Kc {c:UInt8} {r:List UInt8} {N M:Int} (h:(c.toNat:Int)<=57) (hM:M=(N*10+val c.toNat 48) % 97):dQ r M=dQ (c::r) N:=by rw[dQ,if_pos h,hM]
theorem Kd {c:UInt8} {r:List UInt8} {N M:Int} (h:¬(c.toNat:Int)<=57) (hM:M=(N*100+val c.toNat 65+10) % 97):dQ r M=dQ (c::r) N:=by rw[dQ,if_neg h,hM]
def mh:List UInt8->Nat->Int->Int
 | [],_,n=>n
 | c::r,i,n=>mh r (i+1) ((n+(c.toNat:Int)*(((i:Int)+1) % 26)) % 26)
theorem za (l:List UInt8):∀i n,0<=n->n<26->0<=mh l i n/\mh l i n<26:=by
 induction l with
 | nil=>intro i n h1 h2;exact ⟨h1,h2⟩
 | cons c r ih=>intro i n h1 h2;exact ih _ _ (by omega) (by omega)
theorem rP (c k:Int) (h0:0<=c) (h1:c<256) (h:0<=k):0<=c*((k+1) % 26)/\c*((k+1) % 26)<=6400:=by
 have h2:0<=(k+1) % 26:=by omega
 have h3:(k+1) % 26<=25:=by omega
 refine ⟨Int.mul_nonneg h0 h2,?_⟩
 calc c*((k+1) % 26)<=256*((k+1) % 26):=Int.mul_le_mul_of_nonneg_right (by omega) h2
  _<=256*25:=by omega
  _=6400:=rfl
def lh (x:Int):Int:=if (bits .and .u32 x 1 == 1)=true then bits .xor .u32 (x / 2) 3988292384 else x / 2
def jt:Nat->Int->Int
 | 0,x=>x
 | n+1,x=>jt n (lh x)
def wC:List UInt8->Int->Int
 | [],x=>x
 | c::r,x=>wC r (jt 8 (bits .xor .u32 x c.toNat))
theorem mi (op:BinOp) (a b:Int):0<=bits op .u32 a b/\bits op .u32 a b<4294967296:=by
 have h:=bits_within op .u32 a b;have h1:IntKind.u32.min=0:=rfl;have h2:IntKind.u32.max=4294967295:=by decide
 omega
theorem IY {x:Int} (h0:0<=x) (h1:x<4294967296):0<=lh x/\lh x<4294967296:=by
 unfold lh
 split
 .exact mi _ _ _
 .omega
theorem iq (n:Nat) (x:Int):jt (n+1) x=jt n (lh x):=rfl
theorem Gu {x:Int} (h:(bits .and .u32 x 1 == 1)=true):lh x=bits .xor .u32 (x / 2) 3988292384:=by rw[lh,if_pos h]
theorem Mh {x:Int} (h:(bits .and .u32 x 1 == 1)=false):lh x=x / 2:=by rw[lh,if_neg (by rw[h];decide)]
theorem Qw (x:Int):bits .xor .u32 IntKind.u32.max x=bits .xor .u32 x 4294967295:=by
 have h:IntKind.u32.max=4294967295:=by decide
 rw[h];unfold bits;simp only[BitVec.xor_comm]
def KW (l:List UInt8):Int:=bits .xor .u32 (wC l 4294967295) 4294967295
def EE (n:Int):UInt8:=if n<10 then UInt8.ofNat (48+n.toNat) else UInt8.ofNat (87+n.toNat)
def kC:Nat->Int->List UInt8
 | 0,_=>[]
 | m+1,x=>EE (x / 2 ^ (4*m) % 16)::kC m x
theorem vr:∀(m:Nat) (x:Int),(kC m x).length=m
 | 0,_=>rfl
 | m+1,x=>by simp[kC,vr m x]
theorem zc {x M:Int} (k:Nat) (h0:0<=x) (h1:x<M):0<=x / 2 ^ k/\x / 2 ^ k<M:=by
 have hp:(0:Int)<2 ^ k:=Int.pow_pos (by decide)
 refine ⟨Int.ediv_nonneg h0 (by omega),?_⟩
 have:=Int.ediv_le_self (2 ^ k) h0;omega
theorem Tv {x:Int} (h0:0<=x) (h1:x<4294967296):bits .and .u32 x 15=x % 16:=by
 rw[u32_and x 15 h0 h1 (by omega) (by omega)]
 obtain ⟨n,rfl⟩:=Int.eq_ofNat_of_zero_le h0;have:n &&& 15=n % 16:=Nat.and_two_pow_sub_one_eq_mod n 4;simp only[Int.toNat_natCast];have h15:(15:Int).toNat=15:=rfl;rw[h15,this];omega
theorem Pf:∀(l:List UInt8) (i:Nat) (n:Int),0<=n->0<=r6 l i n
 | [],_,_,h=>h
 | c::r,i,n,h=>Pf r (i+1) _ (by unfold Qu val; split <;> (try split) <;> omega)
theorem Oq (s:ByteArray) (k:Nat) (h:k<s.size):(bl s).reverse.drop k=s[s.size - 1-k]::(bl s).reverse.drop (k+1):=by
 have hl:(bl s).reverse.length=s.size:=by rw[List.length_reverse,aB]
 rw[List.drop_eq_getElem_cons (by omega),List.getElem_reverse]
 rfl
theorem BZ:∀(l:List UInt8) (n:Int),0<=n->0<=od l n
 | [],_,h=>h
 | c::r,n,h=>BZ r _ (by unfold Qu val; split <;> (try split) <;> omega)
def BX (l:List UInt8):Bool:=decide (2<=(l.length:Int)) && dU qM l && (od l 0 % 10 == 0)
def qC (l:List UInt8):Bool:=decide (2<=(l.length:Int)) && dU qM l && (r6 l.reverse 0 0 % 10 == 0)
def Im (l:List UInt8):List UInt8:=l.drop (l.length - 2)
def I0 (l:List UInt8):Bool:=decide (3<=(l.length:Int)) && dU Be l && dU qM (Im l) && (iN l 0 == 1)
def amr (l:List UInt8):Bool:=decide (3<=(l.length:Int)) && dU Be l && dU qM (Im l) && (dQ l 0 == 1)
theorem lj (s:ByteArray) (i j:Nat):bl (s.extract i j)=((bl s).drop i).take (j-i):=Lib.extract_data s i j
theorem wD (s:ByteArray):bl (s.extract (s.size - 2) s.size)=Im (bl s):=by
 rw[lj,Im,List.take_of_length_le (by rw[List.length_drop,aB];omega),aB]
def Hs (c:Int) (l:List UInt8):Bool:=
 if c=0 then true else if l=[] then false else if c=1 then dU qM l else if c=2 then dU Be l else true
theorem Mi (l:List UInt8):0<=KW l/\KW l<4294967296:=mi _ _ _
def EF (l:List UInt8):Bool:=decide (9<=(l.length:Int)) && (l.drop (l.length - 8) == kC 8 (KW (l.take (l.length - 8))))
def EG (l:List UInt8):Bool:=decide (2<=(l.length:Int)) && (((l.getD (l.length - 1) 0).toNat:Int) == 65+mh (l.take (l.length - 1)) 0 0)
def Qd (c:Int) (l:List UInt8):Bool:=if c=0 then true else if c=1 then BX l else if c=2 then I0 l else if c=3 then EF l else if c=4 then EG l else false
def avc (c:Int) (l:List UInt8):Bool:=if c=0 then true else if c=1 then qC l else if c=2 then amr l else if c=3 then EF l else if c=4 then EG l else false
theorem qL (s:ByteArray) (n:Nat):bl (s.extract 0 n)=(bl s).take n:=by rw[lj];rfl
theorem AO (s:ByteArray) (n:Nat):bl (s.extract n s.size)=(bl s).drop n:=by
 rw[lj,List.take_of_length_le (by rw[List.length_drop,aB];omega)]
theorem Qx {s:ByteArray} (h:s.size<9):EF (bl s)=false:=by unfold EF;rw[decide_eq_false (by rw[aB];omega)];rfl
theorem Qy {s:ByteArray} (h:¬s.size<9):((s.extract (s.size - 8) s.size).toList == (bs (kC 8 (KW (bl (s.extract 0 (s.size - 8)))))).toList)=EF (bl s):=by
 unfold EF;rw[decide_eq_true (by rw[aB];omega),nw,nw,oo,qL,AO,aB];rfl
theorem Qz {s:ByteArray} (h:s.size<2):EG (bl s)=false:=by unfold EG;rw[decide_eq_false (by rw[aB];omega)];rfl
theorem QA {s:ByteArray} (h:¬s.size<2) (u:UInt8) (c:Int) (hu:u=s[s.size - 1]) (hc:c=u.toNat):(c == 65+mh (bl (s.extract 0 (s.size - 1))) 0 0)=EG (bl s):=by
 unfold EG;have hg:(bl s).getD ((bl s).length - 1) 0=u:=by
  rw[List.getD_eq_getElem?_getD,List.getElem?_eq_getElem (by rw[aB];omega),hu]
  simp only[aB];rfl
 rw[decide_eq_true (by rw[aB];omega),hg,qL,hc,aB];rfl
theorem mH (s:ByteArray) (l:List UInt8):s++bs l=bs (bl s++l):=by
 apply NK;rw[oo];simp[bl,bs]
theorem Dq (u:UInt8):(bs [u]).size=1:=rfl
theorem XU (s:ByteArray) (l:List UInt8):bl (s++⟨l.toArray⟩)=bl s++l:=by rw[show (⟨l.toArray⟩:ByteArray)=bs l from rfl,mH,oo]
def ae5 (l:List UInt8):UInt8:=UInt8.ofNat (48+-(od (l++[48]) 0 % 10) % 10).toNat
def Sk (n:Int):List UInt8:=[UInt8.ofNat (48+n / 10).toNat,UInt8.ofNat (48+n % 10).toNat]
def ams (c:Int) (l:List UInt8):List UInt8:=
 if c=1 then [ae5 l] else if c=2 then Sk (98-iN (l++[48,48]) 0) else if c=3 then kC 8 (KW l) else if c=4 then [UInt8.ofNat (65+mh l 0 0).toNat] else []
def avd (c:Int) (l:List UInt8):List UInt8×Int:=
 if wR c=false then ([],1) else if 65536<l.length then ([],3) else if Hs c l=false then ([],4) else (l++ams c l,0)
theorem Ky:∀(l:List UInt8) (n:Int),0<=n->n<97->0<=iN l n/\iN l n<97
 | [],_,h,h'=>⟨h,h'⟩
 | c::r,n,_,_=>Ky r _ (by unfold m97; split <;> omega) (by unfold m97; split <;> omega)
theorem Kf {c:Int} (h:wR c=true):c=0\/c=1\/c=2\/c=3\/c=4:=by simp[wR]at h;omega
def lf:Nat->List UInt8->UInt8
 | 0,_=>57
 | n+1,l=>if qC (l++[UInt8.ofNat (56-n)])=true then UInt8.ofNat (56-n) else lf n l
theorem FO {n:Nat} {l:List UInt8} (h:qC (l++[UInt8.ofNat (56-n)])=true):lf (n+1) l=UInt8.ofNat (56-n):=by rw[lf,if_pos h]
theorem Ke {n:Nat} {l:List UInt8} (h:qC (l++[UInt8.ofNat (56-n)])=false):lf (n+1) l=lf n l:=by rw[lf,if_neg (by rw[h];decide)]
def qD (c:Int) (l:List UInt8):List UInt8:=
 if c=1 then [lf 9 l] else if c=2 then Sk (98-dQ (l++[48,48]) 0) else if c=3 then kC 8 (KW l) else if c=4 then [UInt8.ofNat (65+mh l 0 0).toNat] else []
def jK (c:Int) (l:List UInt8):List UInt8×Int:=
 if wR c=false then ([],1) else if 65536<l.length then ([],3) else if Hs c l=false then ([],4) else (l++qD c l,0)
theorem yz:∀(l:List UInt8) (n:Int),0<=n->n<97->0<=dQ l n/\dQ l n<97
 | [],_,h,h'=>⟨h,h'⟩
 | c::r,n,_,_=>yz r _ (by split <;> omega) (by split <;> omega)
theorem Ot (s:ByteArray) (l:List UInt8):bl (s++bs l)=bl s++l:=by rw[mH,oo]
theorem YB {s:ByteArray} (h:s.size=0):bl s=[]:=List.length_eq_zero_iff.1 (by rw[aB,h])
theorem Io {s:ByteArray} (h:¬s.size=0):¬bl s=[]:=λe=>h (by rw[<-aB,e];rfl)
theorem Sp {s:ByteArray} {c:Int} (h:s.size=0) (hc:¬c=0):Hs c (bl s)=false:=by rw[Hs,if_neg hc,if_pos (YB h)]
theorem Ht {s:ByteArray} (h:¬s.size=0):Hs 1 (bl s)=dU qM (bl s):=by rw[Hs,if_neg (by decide),if_neg (Io h),if_pos rfl]
theorem Hv {s:ByteArray} (h:¬s.size=0):Hs 2 (bl s)=dU Be (bl s):=by rw[Hs,if_neg (by decide),if_neg (Io h),if_neg (by decide),if_pos rfl]
theorem Sm {s:ByteArray} (h:¬s.size=0):Hs 3 (bl s)=true:=by rw[Hs,if_neg (by decide),if_neg (Io h),if_neg (by decide),if_neg (by decide)]
theorem Sn {s:ByteArray} (h:¬s.size=0):Hs 4 (bl s)=true:=by rw[Hs,if_neg (by decide),if_neg (Io h),if_neg (by decide),if_neg (by decide)]
theorem iZ (n:Nat) (h:n<256):((n:Int))=(UInt8.ofNat n).toNat:=by rw[UInt8.toNat_ofNat',Nat.mod_eq_of_lt h]
theorem Pg (c:Int) (l:List UInt8):(jK c l).1.length<=l.length+8:=by
 unfold jK
 split
 .simp
 .split
  .simp
  .split
   .simp
   .have:(qD c l).length<=8:=by
     unfold qD
     split
     .simp
     .split
      .simp[Sk]
      .split
       .rw[vr];exact Nat.le_refl _
       .split <;> simp
    simp;omega
end
end Go.Proofs.YtdmoogjddmdmbaaGreatDoor
