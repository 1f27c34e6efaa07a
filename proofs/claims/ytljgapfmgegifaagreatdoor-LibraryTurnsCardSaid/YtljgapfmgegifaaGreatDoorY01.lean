/- Plain functions of check sums, over lists of bytes; no program in sight. -/
import Derived.IntWalk
import Derived.Laws.Entries
import Derived.Laws.Closers25b
import Derived.Laws.BitsAllLaws
import Derived.Lib.Strings
namespace Go.Proofs.YtljgapfmgegifaaGreatDoor
set_option linter.unusedVariables false
set_option linter.unusedSimpArgs false
set_option maxRecDepth 100000
open Go
def bl (s:ByteArray):List UInt8:=s.data.toList
def bs (l:List UInt8):ByteArray:=⟨l.toArray⟩
theorem bl_bs (l:List UInt8):bl (bs l)=l:=rfl
theorem bs_bl (s:ByteArray):bs (bl s)=s:=rfl
theorem size_bs (l:List UInt8):(bs l).size=l.length:=by simp[bs,ByteArray.size]
theorem size_list (s:ByteArray):(bl s).length=s.size:=by simp[bl]
theorem bl_inj {s t:ByteArray} (h:bl s=bl t):s=t:=by rw[<-bs_bl s,h,bs_bl]
theorem toList_bl (s:ByteArray):s.toList=bl s:=Lib.toList_data s
theorem drop_byte (s:ByteArray) (k:Nat) (h:k<s.size):(bl s).drop k=s[k]::(bl s).drop (k+1):=by
 rw[List.drop_eq_getElem_cons (by rw[size_list];exact h)];rfl
def dig (c:Int):Bool:=decide (48<=c) && decide (c<=57)
def cap (c:Int):Bool:=decide (65<=c) && decide (c<=90)
def allF (p:Int->Bool):List UInt8->Bool
 | []=>true
 | c::r=>p c.toNat && allF p r
def sgn (c:Int):Bool:=dig c || cap c
def vld (c:Int):Bool:=decide (0<=c) && decide (c<=4)
def val (c a:Int):Int:=(c-a) % 256
def dbl (n:Int):Int:=if 9<n*2 then n*2 - 9 else n*2
def luhnF:List UInt8->Int->Int
 | [],n=>n
 | c::r,n=>luhnF r (n+if (r.length+1) % 2=0 then dbl (val c.toNat 48) else val c.toNat 48)
def luhnR:List UInt8->Nat->Int->Int
 | [],_,n=>n
 | c::r,i,n=>luhnR r (i+1) (n+if i % 2=1 then dbl (val c.toNat 48) else val c.toNat 48)
def m97 (c n:Int):Int:=if dig c=true then (n*10+val c 48) % 97 else (n*100+val c 65+10) % 97
def mod97F:List UInt8->Int->Int
 | [],n=>n
 | c::r,n=>mod97F r (m97 c.toNat n)
def mod97R:List UInt8->Int->Int
 | [],n=>n
 | c::r,n=>mod97R r (if (c.toNat:Int)<=57 then (n*10+val c.toNat 48) % 97 else (n*100+val c.toNat 65+10) % 97)
def letF:List UInt8->Nat->Int->Int
 | [],_,n=>n
 | c::r,i,n=>letF r (i+1) ((n+(c.toNat:Int)*(((i:Int)+1) % 26)) % 26)
def crcBit (x:Int):Int:=if (bits .and .u32 x 1 == 1)=true then bits .xor .u32 (x / 2) 3988292384 else x / 2
def crcBits:Nat->Int->Int
 | 0,x=>x
 | n+1,x=>crcBits n (crcBit x)
def crcF:List UInt8->Int->Int
 | [],x=>x
 | c::r,x=>crcF r (crcBits 8 (bits .xor .u32 x c.toNat))
def crc (l:List UInt8):Int:=bits .xor .u32 (crcF l 4294967295) 4294967295
def hexd (n:Int):UInt8:=if n<10 then UInt8.ofNat (48+n.toNat) else UInt8.ofNat (87+n.toNat)
def hexR:Nat->Int->List UInt8
 | 0,_=>[]
 | m+1,x=>hexd (x / 2 ^ (4*m) % 16)::hexR m x
def luhnP (l:List UInt8):Bool:=decide (2<=(l.length:Int)) && allF dig l && (luhnF l 0 % 10 == 0)
def luhnQ (l:List UInt8):Bool:=decide (2<=(l.length:Int)) && allF dig l && (luhnR l.reverse 0 0 % 10 == 0)
def last2 (l:List UInt8):List UInt8:=l.drop (l.length - 2)
def m97P (l:List UInt8):Bool:=decide (3<=(l.length:Int)) && allF sgn l && allF dig (last2 l) && (mod97F l 0 == 1)
def m97Q (l:List UInt8):Bool:=decide (3<=(l.length:Int)) && allF sgn l && allF dig (last2 l) && (mod97R l 0 == 1)
def prm (c:Int) (l:List UInt8):Bool:=
 if c=0 then true else if l=[] then false else if c=1 then allF dig l else if c=2 then allF sgn l else true
def crcH (l:List UInt8):Bool:=decide (9<=(l.length:Int)) && (l.drop (l.length - 8) == hexR 8 (crc (l.take (l.length - 8))))
def letH (l:List UInt8):Bool:=decide (2<=(l.length:Int)) && (((l.getD (l.length - 1) 0).toNat:Int) == 65+letF (l.take (l.length - 1)) 0 0)
def hldP (c:Int) (l:List UInt8):Bool:=if c=0 then true else if c=1 then luhnP l else if c=2 then m97P l else if c=3 then crcH l else if c=4 then letH l else false
def hldQ (c:Int) (l:List UInt8):Bool:=if c=0 then true else if c=1 then luhnQ l else if c=2 then m97Q l else if c=3 then crcH l else if c=4 then letH l else false
theorem cat_bs (s:ByteArray) (l:List UInt8):s++bs l=bs (bl s++l):=by
 apply bl_inj;rw[bl_bs];simp[bl,bs]
def luhnD (l:List UInt8):UInt8:=UInt8.ofNat (48+-(luhnF (l++[48]) 0 % 10) % 10).toNat
def twoD (n:Int):List UInt8:=[UInt8.ofNat (48+n / 10).toNat,UInt8.ofNat (48+n % 10).toNat]
def addP (c:Int) (l:List UInt8):List UInt8:=
 if c=1 then [luhnD l] else if c=2 then twoD (98-mod97F (l++[48,48]) 0) else if c=3 then hexR 8 (crc l) else if c=4 then [UInt8.ofNat (65+letF l 0 0).toNat] else []
def cmpP (c:Int) (l:List UInt8):List UInt8×Int:=
 if vld c=false then ([],1) else if 65536<l.length then ([],3) else if prm c l=false then ([],4) else (l++addP c l,0)
def luhnSf:Nat->List UInt8->UInt8
 | 0,_=>57
 | n+1,l=>if luhnQ (l++[UInt8.ofNat (56-n)])=true then UInt8.ofNat (56-n) else luhnSf n l
def addQ (c:Int) (l:List UInt8):List UInt8:=
 if c=1 then [luhnSf 9 l] else if c=2 then twoD (98-mod97R (l++[48,48]) 0) else if c=3 then hexR 8 (crc l) else if c=4 then [UInt8.ofNat (65+letF l 0 0).toNat] else []
def cmpQ (c:Int) (l:List UInt8):List UInt8×Int:=
 if vld c=false then ([],1) else if 65536<l.length then ([],3) else if prm c l=false then ([],4) else (l++addQ c l,0)
end Go.Proofs.YtljgapfmgegifaaGreatDoor
