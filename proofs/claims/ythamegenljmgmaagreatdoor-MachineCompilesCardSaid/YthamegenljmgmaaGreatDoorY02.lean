/- Walks. -/
import Derived.Test.YthamegenljmgmaaGreatDoorY01
import Derived.IntWalk
import Derived.Laws.Entries
import Derived.Laws.Closers25b
import Derived.Laws.BitsAllLaws
import Derived.Lib.Strings
set_option maxRecDepth 100000
set_option maxHeartbeats 16000000
set_option linter.unusedVariables false
set_option linter.unusedSimpArgs false
namespace Go.Proofs.YthamegenljmgmaaGreatDoor
open Go.RowKit
section
open Go
def bl(s:ByteArray):List UInt8:=s.data.toList
def bs(l:List UInt8):ByteArray:=⟨l.toArray⟩
theorem Me(l:List UInt8):bl (bs l)=l:=rfl
theorem mB(l:List UInt8):(bs l).size=l.length:=by simp[bs,ByteArray.size]
def XY(c:Int):Bool:=decide (48<=c) && decide (c<=57)
def cap(c:Int):Bool:=decide (65<=c) && decide (c<=90)
def Az(p:Int->Bool):List UInt8->Bool
 | []=>true
 |c::r=>p c.toNat && Az p r
def sgn(c:Int):Bool:=XY c || cap c
def vld(c:Int):Bool:=decide (0<=c) && decide (c<=4)
def b8(c a:Int):Int:=(c-a) % 256
def dbl(n:Int):Int:=if 9<n*2 then n*2 - 9 else n*2
def Oo:List UInt8->Int->Int
 | [],n=>n
 |c::r,n=>Oo r (n+if (r.length+1) % 2=0 then dbl (b8 c.toNat 48) else b8 c.toNat 48)
def Ub:List UInt8->Nat->Int->Int
 | [],_,n=>n
 |c::r,i,n=>Ub r (i+1) (n+if i % 2=1 then dbl (b8 c.toNat 48) else b8 c.toNat 48)
def m97(c n:Int):Int:=if XY c=true then (n*10+b8 c 48) % 97 else (n*100+b8 c 65+10) % 97
def FE:List UInt8->Int->Int
 | [],n=>n
 |c::r,n=>FE r (m97 c.toNat n)
def FF:List UInt8->Int->Int
 | [],n=>n
 |c::r,n=>FF r (if (c.toNat:Int)<=57 then (n*10+b8 c.toNat 48) % 97 else (n*100+b8 c.toNat 65+10) % 97)
def Sp:List UInt8->Nat->Int->Int
 | [],_,n=>n
 |c::r,i,n=>Sp r (i+1) ((n+(c.toNat:Int)*(((i:Int)+1) % 26)) % 26)
def XZ(x:Int):Int:=if (bits .and .u32 x 1 == 1)=true then bits .xor .u32 (x / 2) 3988292384 else x / 2
def G7:Nat->Int->Int
 |0,x=>x
 |n+1,x=>G7 n (XZ x)
def aed:List UInt8->Int->Int
 | [],x=>x
 |c::r,x=>aed r (G7 8 (bits .xor .u32 x c.toNat))
def crc(l:List UInt8):Int:=bits .xor .u32 (aed l 4294967295) 4294967295
def ak8(n:Int):UInt8:=if n<10 then UInt8.ofNat (48+n.toNat) else UInt8.ofNat (87+n.toNat)
def Sq:Nat->Int->List UInt8
 |0,_=>[]
 |m+1,x=>ak8 (x / 2 ^ (4*m) % 16)::Sq m x
def aee(l:List UInt8):Bool:=decide (2<=(l.length:Int)) && Az XY l && (Oo l 0 % 10 == 0)
def Uc(l:List UInt8):Bool:=decide (2<=(l.length:Int)) && Az XY l && (Ub l.reverse 0 0 % 10 == 0)
def Ud(l:List UInt8):List UInt8:=l.drop (l.length - 2)
def ak9(l:List UInt8):Bool:=decide (3<=(l.length:Int)) && Az sgn l && Az XY (Ud l) && (FE l 0 == 1)
def ala(l:List UInt8):Bool:=decide (3<=(l.length:Int)) && Az sgn l && Az XY (Ud l) && (FF l 0 == 1)
def prm(c:Int)(l:List UInt8):Bool:=
 if c=0 then true else if l=[] then false else if c=1 then Az XY l else if c=2 then Az sgn l else true
def aef(l:List UInt8):Bool:=decide (9<=(l.length:Int)) && (l.drop (l.length - 8) == Sq 8 (crc (l.take (l.length - 8))))
def aeg(l:List UInt8):Bool:=decide (2<=(l.length:Int)) && (((l.getD (l.length - 1) 0).toNat:Int) == 65+Sp (l.take (l.length - 1)) 0 0)
def at6(c:Int)(l:List UInt8):Bool:=if c=0 then true else if c=1 then aee l else if c=2 then ak9 l else if c=3 then aef l else if c=4 then aeg l else false
def at7(c:Int)(l:List UInt8):Bool:=if c=0 then true else if c=1 then Uc l else if c=2 then ala l else if c=3 then aef l else if c=4 then aeg l else false
def aeh(l:List UInt8):UInt8:=UInt8.ofNat (48+-(Oo (l++[48]) 0 % 10) % 10).toNat
def aei(n:Int):List UInt8:=[UInt8.ofNat (48+n / 10).toNat,UInt8.ofNat (48+n % 10).toNat]
def alb(c:Int)(l:List UInt8):List UInt8:=
 if c=1 then [aeh l] else if c=2 then aei (98-FE (l++[48,48]) 0) else if c=3 then Sq 8 (crc l) else if c=4 then [UInt8.ofNat (65+Sp l 0 0).toNat] else []
def aua(c:Int)(l:List UInt8):List UInt8×Int:=
 if vld c=false then ([],1) else if 65536<l.length then ([],3) else if prm c l=false then ([],4) else (l++alb c l,0)
def Oq:Nat->List UInt8->UInt8
 |0,_=>57
 |n+1,l=>if Uc (l++[UInt8.ofNat (56-n)])=true then UInt8.ofNat (56-n) else Oq n l
def alc(c:Int)(l:List UInt8):List UInt8:=
 if c=1 then [Oq 9 l] else if c=2 then aei (98-FF (l++[48,48]) 0) else if c=3 then Sq 8 (crc l) else if c=4 then [UInt8.ofNat (65+Sp l 0 0).toNat] else []
def aub(c:Int)(l:List UInt8):List UInt8×Int:=
 if vld c=false then ([],1) else if 65536<l.length then ([],3) else if prm c l=false then ([],4) else (l++alc c l,0)
end
end Go.Proofs.YthamegenljmgmaaGreatDoor
