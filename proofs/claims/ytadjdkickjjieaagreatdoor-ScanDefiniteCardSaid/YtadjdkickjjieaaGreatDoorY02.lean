/- Plain functions of check sums, over lists of bytes; no program in sight. -/
import Derived.IntWalk
import Derived.Laws.Entries
import Derived.Laws.Closers25b
import Derived.Laws.BitsAllLaws
import Derived.Lib.Strings
namespace Go.Proofs.YtadjdkickjjieaaGreatDoor
set_option linter.unusedVariables false
set_option linter.unusedSimpArgs false
set_option maxRecDepth 100000
open Go
def bl (s:ByteArray):List UInt8:=s.data.toList
def bs (l:List UInt8):ByteArray:=⟨l.toArray⟩
theorem zFQ (l:List UInt8):bl (bs l)=l:=rfl
theorem zMM (s:ByteArray):bs (bl s)=s:=rfl
theorem zBh (l:List UInt8):(bs l).size=l.length:=by simp[bs,ByteArray.size]
theorem zAf (s:ByteArray):(bl s).length=s.size:=by simp[bl]
theorem zMk {s t:ByteArray} (h:bl s=bl t):s=t:=by rw[<-zMM s,h,zMM]
theorem zBT (s:ByteArray) (k:Nat) (h:k<s.size):(bl s).drop k=s[k]::(bl s).drop (k+1):=by
 rw[List.drop_eq_getElem_cons (by rw[zAf];exact h)];rfl
theorem zCL (s:ByteArray):(bl s).drop s.size=[]:=List.drop_eq_nil_of_le (by rw[zAf];exact Nat.le_refl _)
def dig (c:Int):Bool:=decide (48<=c) && decide (c<=57)
def cap (c:Int):Bool:=decide (65<=c) && decide (c<=90)
def allF (p:Int->Bool):List UInt8->Bool
 | []=>true
 | c::r=>p c.toNat && allF p r
theorem zDe {p:Int->Bool} {c:UInt8} {r:List UInt8} (h:p c.toNat=false):allF p (c::r)=false:=by simp[allF,h]
theorem zEm {p:Int->Bool} {c:UInt8} {r:List UInt8} (h:p c.toNat=true):allF p (c::r)=allF p r:=by simp[allF,h]
def sgn (c:Int):Bool:=dig c || cap c
theorem zMv {c:Int} (h:48<=c) (h':c<=57):dig c=true:=by simp[dig,h,h']
theorem zHi {c:Int} (h:c<48\/57<c):dig c=false:=by simp[dig];omega
theorem zK0 {c:Int} (h:(48<=c/\c<=57)\/(65<=c/\c<=90)):sgn c=true:=by simp[sgn,dig,cap];omega
theorem zF3 {c:Int} (h:¬((48<=c/\c<=57)\/(65<=c/\c<=90))):sgn c=false:=by simp[sgn,dig,cap];omega
def vld (c:Int):Bool:=decide (0<=c) && decide (c<=4)
def val (c a:Int):Int:=(c-a) % 256
def dbl (n:Int):Int:=if 9<n*2 then n*2 - 9 else n*2
def zLN:List UInt8->Int->Int
 | [],n=>n
 | c::r,n=>zLN r (n+if (r.length+1) % 2=0 then dbl (val c.toNat 48) else val c.toNat 48)
def zF6:List UInt8->Nat->Int->Int
 | [],_,n=>n
 | c::r,i,n=>zF6 r (i+1) (n+if i % 2=1 then dbl (val c.toNat 48) else val c.toNat 48)
theorem zD9 {u:UInt8} {c N M:Int} {r:List UInt8} {i:Nat} (hc:c=u.toNat) (hM:M=N+if i % 2=1 then dbl (val c 48) else val c 48):zF6 r (i+1) M=zF6 (u::r) i N:=by
 subst hc hM;rfl
def m97 (c n:Int):Int:=if dig c=true then (n*10+val c 48) % 97 else (n*100+val c 65+10) % 97
def zEu:List UInt8->Int->Int
 | [],n=>n
 | c::r,n=>zEu r (m97 c.toNat n)
def zBA:List UInt8->Int->Int
 | [],n=>n
 | c::r,n=>zBA r (if (c.toNat:Int)<=57 then (n*10+val c.toNat 48) % 97 else (n*100+val c.toNat 65+10) % 97)
theorem zHh {c:UInt8} {r:List UInt8} {N M:Int} (h:(c.toNat:Int)<=57) (hM:M=(N*10+val c.toNat 48) % 97):zBA r M=zBA (c::r) N:=by rw[zBA,if_pos h,hM]
theorem zJB {c:UInt8} {r:List UInt8} {N M:Int} (h:¬(c.toNat:Int)<=57) (hM:M=(N*100+val c.toNat 65+10) % 97):zBA r M=zBA (c::r) N:=by rw[zBA,if_neg h,hM]
def letF:List UInt8->Nat->Int->Int
 | [],_,n=>n
 | c::r,i,n=>letF r (i+1) ((n+(c.toNat:Int)*(((i:Int)+1) % 26)) % 26)
theorem zId (l:List UInt8):∀i n,0<=n->n<26->0<=letF l i n/\letF l i n<26:=by
 induction l with
 | nil=>intro i n h1 h2;exact ⟨h1,h2⟩
 | cons c r ih=>intro i n h1 h2;exact ih _ _ (by omega) (by omega)
theorem zFg (c k:Int) (h0:0<=c) (h1:c<256) (h:0<=k):0<=c*((k+1) % 26)/\c*((k+1) % 26)<=6400:=by
 have h2:0<=(k+1) % 26:=by omega
 have h3:(k+1) % 26<=25:=by omega
 refine ⟨Int.mul_nonneg h0 h2,?_⟩
 calc c*((k+1) % 26)<=256*((k+1) % 26):=Int.mul_le_mul_of_nonneg_right (by omega) h2
  _<=256*25:=by omega
  _=6400:=rfl
def zEK (x:Int):Int:=if (bits .and .u32 x 1 == 1)=true then bits .xor .u32 (x / 2) 3988292384 else x / 2
def zCv:Nat->Int->Int
 | 0,x=>x
 | n+1,x=>zCv n (zEK x)
def crcF:List UInt8->Int->Int
 | [],x=>x
 | c::r,x=>crcF r (zCv 8 (bits .xor .u32 x c.toNat))
theorem zGv (op:BinOp) (a b:Int):0<=bits op .u32 a b/\bits op .u32 a b<4294967296:=by
 have h:=bits_within op .u32 a b;have h1:IntKind.u32.min=0:=rfl;have h2:IntKind.u32.max=4294967295:=by decide
 omega
theorem zC1 (n:Nat) (x:Int):zCv (n+1) x=zCv n (zEK x):=rfl
theorem zLR {x:Int} (h:(bits .and .u32 x 1 == 1)=true):zEK x=bits .xor .u32 (x / 2) 3988292384:=by rw[zEK,if_pos h]
theorem zNC {x:Int} (h:(bits .and .u32 x 1 == 1)=false):zEK x=x / 2:=by rw[zEK,if_neg (by rw[h];decide)]
def crc (l:List UInt8):Int:=bits .xor .u32 (crcF l 4294967295) 4294967295
def hexd (n:Int):UInt8:=if n<10 then UInt8.ofNat (48+n.toNat) else UInt8.ofNat (87+n.toNat)
def hexR:Nat->Int->List UInt8
 | 0,_=>[]
 | m+1,x=>hexd (x / 2 ^ (4*m) % 16)::hexR m x
theorem zEU:∀(m:Nat) (x:Int),(hexR m x).length=m
 | 0,_=>rfl
 | m+1,x=>by simp[hexR,zEU m x]
theorem zKv {x M:Int} (k:Nat) (h0:0<=x) (h1:x<M):0<=x / 2 ^ k/\x / 2 ^ k<M:=by
 have hp:(0:Int)<2 ^ k:=Int.pow_pos (by decide)
 refine ⟨Int.ediv_nonneg h0 (by omega),?_⟩
 have:=Int.ediv_le_self (2 ^ k) h0;omega
theorem zNR {x:Int} (h0:0<=x) (h1:x<4294967296):bits .and .u32 x 15=x % 16:=by
 rw[u32_and x 15 h0 h1 (by omega) (by omega)]
 obtain ⟨n,rfl⟩:=Int.eq_ofNat_of_zero_le h0;have:n &&& 15=n % 16:=Nat.and_two_pow_sub_one_eq_mod n 4;simp only[Int.toNat_natCast];have h15:(15:Int).toNat=15:=rfl;rw[h15,this];omega
theorem zJo (s:ByteArray) (k:Nat) (h:k<s.size):(bl s).reverse.drop k=s[s.size - 1-k]::(bl s).reverse.drop (k+1):=by
 have hl:(bl s).reverse.length=s.size:=by rw[List.length_reverse,zAf]
 rw[List.drop_eq_getElem_cons (by omega),List.getElem_reverse]
 rfl
def zNb (l:List UInt8):Bool:=decide (2<=(l.length:Int)) && allF dig l && (zLN l 0 % 10 == 0)
def zEj (l:List UInt8):Bool:=decide (2<=(l.length:Int)) && allF dig l && (zF6 l.reverse 0 0 % 10 == 0)
def zMC (l:List UInt8):List UInt8:=l.drop (l.length - 2)
def m97P (l:List UInt8):Bool:=decide (3<=(l.length:Int)) && allF sgn l && allF dig (zMC l) && (zEu l 0 == 1)
def m97Q (l:List UInt8):Bool:=decide (3<=(l.length:Int)) && allF sgn l && allF dig (zMC l) && (zBA l 0 == 1)
def prm (c:Int) (l:List UInt8):Bool:=
 if c=0 then true else if l=[] then false else if c=1 then allF dig l else if c=2 then allF sgn l else true
theorem zMy (l:List UInt8):0<=crc l/\crc l<4294967296:=zGv _ _ _
def crcH (l:List UInt8):Bool:=decide (9<=(l.length:Int)) && (l.drop (l.length - 8) == hexR 8 (crc (l.take (l.length - 8))))
def letH (l:List UInt8):Bool:=decide (2<=(l.length:Int)) && (((l.getD (l.length - 1) 0).toNat:Int) == 65+letF (l.take (l.length - 1)) 0 0)
def hldP (c:Int) (l:List UInt8):Bool:=if c=0 then true else if c=1 then zNb l else if c=2 then m97P l else if c=3 then crcH l else if c=4 then letH l else false
def hldQ (c:Int) (l:List UInt8):Bool:=if c=0 then true else if c=1 then zEj l else if c=2 then m97Q l else if c=3 then crcH l else if c=4 then letH l else false
theorem zDr (s:ByteArray) (l:List UInt8):s++bs l=bs (bl s++l):=by
 apply zMk;rw[zFQ];simp[bl,bs]
theorem zGc (u:UInt8):(bs [u]).size=1:=rfl
theorem zMd (s:ByteArray) (l:List UInt8):bl (s++⟨l.toArray⟩)=bl s++l:=by rw[show (⟨l.toArray⟩:ByteArray)=bs l from rfl,zDr,zFQ]
def zNa (l:List UInt8):UInt8:=UInt8.ofNat (48+-(zLN (l++[48]) 0 % 10) % 10).toNat
def twoD (n:Int):List UInt8:=[UInt8.ofNat (48+n / 10).toNat,UInt8.ofNat (48+n % 10).toNat]
def addP (c:Int) (l:List UInt8):List UInt8:=
 if c=1 then [zNa l] else if c=2 then twoD (98-zEu (l++[48,48]) 0) else if c=3 then hexR 8 (crc l) else if c=4 then [UInt8.ofNat (65+letF l 0 0).toNat] else []
def cmpP (c:Int) (l:List UInt8):List UInt8×Int:=
 if vld c=false then ([],1) else if 65536<l.length then ([],3) else if prm c l=false then ([],4) else (l++addP c l,0)
theorem zIy:∀(l:List UInt8) (n:Int),0<=n->n<97->0<=zEu l n/\zEu l n<97
 | [],_,h,h'=>⟨h,h'⟩
 | c::r,n,_,_=>zIy r _ (by unfold m97; split <;> omega) (by unfold m97; split <;> omega)
theorem zIG {c:Int} (h:vld c=true):c=0\/c=1\/c=2\/c=3\/c=4:=by simp[vld]at h;omega
def zCh:Nat->List UInt8->UInt8
 | 0,_=>57
 | n+1,l=>if zEj (l++[UInt8.ofNat (56-n)])=true then UInt8.ofNat (56-n) else zCh n l
theorem zHR {n:Nat} {l:List UInt8} (h:zEj (l++[UInt8.ofNat (56-n)])=true):zCh (n+1) l=UInt8.ofNat (56-n):=by rw[zCh,if_pos h]
theorem zIK {n:Nat} {l:List UInt8} (h:zEj (l++[UInt8.ofNat (56-n)])=false):zCh (n+1) l=zCh n l:=by rw[zCh,if_neg (by rw[h];decide)]
def addQ (c:Int) (l:List UInt8):List UInt8:=
 if c=1 then [zCh 9 l] else if c=2 then twoD (98-zBA (l++[48,48]) 0) else if c=3 then hexR 8 (crc l) else if c=4 then [UInt8.ofNat (65+letF l 0 0).toNat] else []
def cmpQ (c:Int) (l:List UInt8):List UInt8×Int:=
 if vld c=false then ([],1) else if 65536<l.length then ([],3) else if prm c l=false then ([],4) else (l++addQ c l,0)
theorem zFL:∀(l:List UInt8) (n:Int),0<=n->n<97->0<=zBA l n/\zBA l n<97
 | [],_,h,h'=>⟨h,h'⟩
 | c::r,n,_,_=>zFL r _ (by split <;> omega) (by split <;> omega)
theorem zK3 (s:ByteArray) (l:List UInt8):bl (s++bs l)=bl s++l:=by rw[zDr,zFQ]
theorem zNB {s:ByteArray} (h:s.size=0):bl s=[]:=List.length_eq_zero_iff.1 (by rw[zAf,h])
theorem zJ7 {s:ByteArray} (h:¬s.size=0):¬bl s=[]:=λe=>h (by rw[<-zAf,e];rfl)
theorem zK7 {s:ByteArray} {c:Int} (h:s.size=0) (hc:¬c=0):prm c (bl s)=false:=by rw[prm,if_neg hc,if_pos (zNB h)]
theorem zHu {s:ByteArray} (h:¬s.size=0):prm 1 (bl s)=allF dig (bl s):=by rw[prm,if_neg (by decide),if_neg (zJ7 h),if_pos rfl]
theorem zHj {s:ByteArray} (h:¬s.size=0):prm 2 (bl s)=allF sgn (bl s):=by rw[prm,if_neg (by decide),if_neg (zJ7 h),if_neg (by decide),if_pos rfl]
theorem zLU {s:ByteArray} (h:¬s.size=0):prm 3 (bl s)=true:=by rw[prm,if_neg (by decide),if_neg (zJ7 h),if_neg (by decide),if_neg (by decide)]
theorem zLz {s:ByteArray} (h:¬s.size=0):prm 4 (bl s)=true:=by rw[prm,if_neg (by decide),if_neg (zJ7 h),if_neg (by decide),if_neg (by decide)]
theorem zBm (n:Nat) (h:n<256):((n:Int))=(UInt8.ofNat n).toNat:=by rw[UInt8.toNat_ofNat',Nat.mod_eq_of_lt h]
theorem zKD (c:Int) (l:List UInt8):(cmpQ c l).1.length<=l.length+8:=by
 unfold cmpQ
 split
 .simp
 .split
  .simp
  .split
   .simp
   .have:(addQ c l).length<=8:=by
     unfold addQ
     split
     .simp
     .split
      .simp[twoD]
      .split
       .rw[zEU];exact Nat.le_refl _
       .split <;> simp
    simp;omega
end Go.Proofs.YtadjdkickjjieaaGreatDoor
