/- Plain functions of check sums, over lists of bytes; no program in sight. -/
import Derived.IntWalk
import Derived.Laws.Entries
import Derived.Laws.Closers25b
import Derived.Laws.BitsAllLaws
import Derived.Lib.Strings
namespace Go.Proofs.YtdmoogjddmdmbaaGreatDoor
set_option linter.unusedVariables false
set_option linter.unusedSimpArgs false
set_option maxRecDepth 100000
open Go
def bl (s:ByteArray):List UInt8:=s.data.toList
def bs (l:List UInt8):ByteArray:=⟨l.toArray⟩
theorem bl_bs (l:List UInt8):bl (bs l)=l:=rfl
theorem bs_bl (s:ByteArray):bs (bl s)=s:=rfl
theorem size_bs (l:List UInt8):(bs l).size=l.length:=by simp[bs,ByteArray.size]
theorem size_list (s:ByteArray):(bl s).length=s.size:=by simp[bl]
theorem bl_inj {s t:ByteArray} (h:bl s=bl t):s=t:=by rw[<-bs_bl s,h,bs_bl]
theorem toList_bl (s:ByteArray):s.toList=bl s:=Lib.toList_data s
theorem drop_byte (s:ByteArray) (k:Nat) (h:k<s.size):(bl s).drop k=s[k]::(bl s).drop (k+1):=by
 rw[List.drop_eq_getElem_cons (by rw[size_list];exact h)];rfl
theorem drop_all (s:ByteArray):(bl s).drop s.size=[]:=List.drop_eq_nil_of_le (by rw[size_list];exact Nat.le_refl _)
def dig (c:Int):Bool:=decide (48<=c) && decide (c<=57)
def cap (c:Int):Bool:=decide (65<=c) && decide (c<=90)
def allF (p:Int->Bool):List UInt8->Bool
 | []=>true
 | c::r=>p c.toNat && allF p r
theorem allF_no {p:Int->Bool} {c:UInt8} {r:List UInt8} (h:p c.toNat=false):allF p (c::r)=false:=by simp[allF,h]
theorem allF_yes {p:Int->Bool} {c:UInt8} {r:List UInt8} (h:p c.toNat=true):allF p (c::r)=allF p r:=by simp[allF,h]
def sgn (c:Int):Bool:=dig c || cap c
def vld (c:Int):Bool:=decide (0<=c) && decide (c<=4)
def val (c a:Int):Int:=(c-a) % 256
def dbl (n:Int):Int:=if 9<n*2 then n*2 - 9 else n*2
def luhnF:List UInt8->Int->Int
 | [],n=>n
 | c::r,n=>luhnF r (n+if (r.length+1) % 2=0 then dbl (val c.toNat 48) else val c.toNat 48)
theorem luhn_step {u:UInt8} {c N M:Int} {r:List UInt8} (hc:c=u.toNat) (hM:M=N+if (r.length+1) % 2=0 then dbl (val c 48) else val c 48):luhnF r M=luhnF (u::r) N:=by
 subst hc hM;rfl
def luhnR:List UInt8->Nat->Int->Int
 | [],_,n=>n
 | c::r,i,n=>luhnR r (i+1) (n+if i % 2=1 then dbl (val c.toNat 48) else val c.toNat 48)
def m97 (c n:Int):Int:=if dig c=true then (n*10+val c 48) % 97 else (n*100+val c 65+10) % 97
def mod97F:List UInt8->Int->Int
 | [],n=>n
 | c::r,n=>mod97F r (m97 c.toNat n)
theorem mod97_step {u:UInt8} {c N:Int} {r:List UInt8} {b:Bool} (hc:c=u.toNat) (hd:dig c=b):mod97F r (if b=true then (N*10+(c - 48) % 256) % 97 else (N*100+(c - 65) % 256+10) % 97)=mod97F (u::r) N:=by
 subst hc hd;rfl
def mod97R:List UInt8->Int->Int
 | [],n=>n
 | c::r,n=>mod97R r (if (c.toNat:Int)<=57 then (n*10+val c.toNat 48) % 97 else (n*100+val c.toNat 65+10) % 97)
def letF:List UInt8->Nat->Int->Int
 | [],_,n=>n
 | c::r,i,n=>letF r (i+1) ((n+(c.toNat:Int)*(((i:Int)+1) % 26)) % 26)
theorem letF_bd (l:List UInt8):∀i n,0<=n->n<26->0<=letF l i n/\letF l i n<26:=by
 induction l with
 | nil=>intro i n h1 h2;exact ⟨h1,h2⟩
 | cons c r ih=>intro i n h1 h2;exact ih _ _ (by omega) (by omega)
theorem let_step_bd (c k:Int) (h0:0<=c) (h1:c<256) (h:0<=k):0<=c*((k+1) % 26)/\c*((k+1) % 26)<=6400:=by
 have h2:0<=(k+1) % 26:=by omega
 have h3:(k+1) % 26<=25:=by omega
 refine ⟨Int.mul_nonneg h0 h2,?_⟩
 calc c*((k+1) % 26)<=256*((k+1) % 26):=Int.mul_le_mul_of_nonneg_right (by omega) h2
  _<=256*25:=by omega
  _=6400:=rfl
def crcBit (x:Int):Int:=if (bits .and .u32 x 1 == 1)=true then bits .xor .u32 (x / 2) 3988292384 else x / 2
def crcBits:Nat->Int->Int
 | 0,x=>x
 | n+1,x=>crcBits n (crcBit x)
def crcF:List UInt8->Int->Int
 | [],x=>x
 | c::r,x=>crcF r (crcBits 8 (bits .xor .u32 x c.toNat))
theorem u32_bd (op:BinOp) (a b:Int):0<=bits op .u32 a b/\bits op .u32 a b<4294967296:=by
 have h:=bits_within op .u32 a b;have h1:IntKind.u32.min=0:=rfl;have h2:IntKind.u32.max=4294967295:=by decide
 omega
theorem crcBit_bd {x:Int} (h0:0<=x) (h1:x<4294967296):0<=crcBit x/\crcBit x<4294967296:=by
 unfold crcBit
 split
 .exact u32_bd _ _ _
 .omega
theorem crcBits_step (n:Nat) (x:Int):crcBits (n+1) x=crcBits n (crcBit x):=rfl
theorem crc_yes {x:Int} (h:(bits .and .u32 x 1 == 1)=true):crcBit x=bits .xor .u32 (x / 2) 3988292384:=by rw[crcBit,if_pos h]
theorem crc_no {x:Int} (h:(bits .and .u32 x 1 == 1)=false):crcBit x=x / 2:=by rw[crcBit,if_neg (by rw[h];decide)]
theorem xor_max (x:Int):bits .xor .u32 IntKind.u32.max x=bits .xor .u32 x 4294967295:=by
 have h:IntKind.u32.max=4294967295:=by decide
 rw[h];unfold bits;simp only[BitVec.xor_comm]
def crc (l:List UInt8):Int:=bits .xor .u32 (crcF l 4294967295) 4294967295
def hexd (n:Int):UInt8:=if n<10 then UInt8.ofNat (48+n.toNat) else UInt8.ofNat (87+n.toNat)
def hexR:Nat->Int->List UInt8
 | 0,_=>[]
 | m+1,x=>hexd (x / 2 ^ (4*m) % 16)::hexR m x
theorem div_bd {x M:Int} (k:Nat) (h0:0<=x) (h1:x<M):0<=x / 2 ^ k/\x / 2 ^ k<M:=by
 have hp:(0:Int)<2 ^ k:=Int.pow_pos (by decide)
 refine ⟨Int.ediv_nonneg h0 (by omega),?_⟩
 have:=Int.ediv_le_self (2 ^ k) h0;omega
theorem and15 {x:Int} (h0:0<=x) (h1:x<4294967296):bits .and .u32 x 15=x % 16:=by
 rw[u32_and x 15 h0 h1 (by omega) (by omega)]
 obtain ⟨n,rfl⟩:=Int.eq_ofNat_of_zero_le h0;have:n &&& 15=n % 16:=Nat.and_two_pow_sub_one_eq_mod n 4;simp only[Int.toNat_natCast];have h15:(15:Int).toNat=15:=rfl;rw[h15,this];omega
theorem luhnR_bd:∀(l:List UInt8) (i:Nat) (n:Int),0<=n->0<=luhnR l i n
 | [],_,_,h=>h
 | c::r,i,n,h=>luhnR_bd r (i+1) _ (by unfold dbl val; split <;> (try split) <;> omega)
theorem luhnF_bd:∀(l:List UInt8) (n:Int),0<=n->0<=luhnF l n
 | [],_,h=>h
 | c::r,n,h=>luhnF_bd r _ (by unfold dbl val; split <;> (try split) <;> omega)
def luhnP (l:List UInt8):Bool:=decide (2<=(l.length:Int)) && allF dig l && (luhnF l 0 % 10 == 0)
def luhnQ (l:List UInt8):Bool:=decide (2<=(l.length:Int)) && allF dig l && (luhnR l.reverse 0 0 % 10 == 0)
def last2 (l:List UInt8):List UInt8:=l.drop (l.length - 2)
def m97P (l:List UInt8):Bool:=decide (3<=(l.length:Int)) && allF sgn l && allF dig (last2 l) && (mod97F l 0 == 1)
def m97Q (l:List UInt8):Bool:=decide (3<=(l.length:Int)) && allF sgn l && allF dig (last2 l) && (mod97R l 0 == 1)
theorem extract_list (s:ByteArray) (i j:Nat):bl (s.extract i j)=((bl s).drop i).take (j-i):=Lib.extract_data s i j
theorem extract_last2 (s:ByteArray):bl (s.extract (s.size - 2) s.size)=last2 (bl s):=by
 rw[extract_list,last2,List.take_of_length_le (by rw[List.length_drop,size_list];omega),size_list]
def prm (c:Int) (l:List UInt8):Bool:=
 if c=0 then true else if l=[] then false else if c=1 then allF dig l else if c=2 then allF sgn l else true
theorem crc_bd (l:List UInt8):0<=crc l/\crc l<4294967296:=u32_bd _ _ _
def crcH (l:List UInt8):Bool:=decide (9<=(l.length:Int)) && (l.drop (l.length - 8) == hexR 8 (crc (l.take (l.length - 8))))
def letH (l:List UInt8):Bool:=decide (2<=(l.length:Int)) && (((l.getD (l.length - 1) 0).toNat:Int) == 65+letF (l.take (l.length - 1)) 0 0)
def hldP (c:Int) (l:List UInt8):Bool:=if c=0 then true else if c=1 then luhnP l else if c=2 then m97P l else if c=3 then crcH l else if c=4 then letH l else false
def hldQ (c:Int) (l:List UInt8):Bool:=if c=0 then true else if c=1 then luhnQ l else if c=2 then m97Q l else if c=3 then crcH l else if c=4 then letH l else false
theorem extract_take (s:ByteArray) (n:Nat):bl (s.extract 0 n)=(bl s).take n:=by rw[extract_list];rfl
theorem extract_drop (s:ByteArray) (n:Nat):bl (s.extract n s.size)=(bl s).drop n:=by
 rw[extract_list,List.take_of_length_le (by rw[List.length_drop,size_list];omega)]
theorem crcH_no {s:ByteArray} (h:s.size<9):crcH (bl s)=false:=by unfold crcH;rw[decide_eq_false (by rw[size_list];omega)];rfl
theorem crcH_eq {s:ByteArray} (h:¬s.size<9):((s.extract (s.size - 8) s.size).toList == (bs (hexR 8 (crc (bl (s.extract 0 (s.size - 8)))))).toList)=crcH (bl s):=by
 unfold crcH;rw[decide_eq_true (by rw[size_list];omega),toList_bl,toList_bl,bl_bs,extract_take,extract_drop,size_list];rfl
theorem letH_no {s:ByteArray} (h:s.size<2):letH (bl s)=false:=by unfold letH;rw[decide_eq_false (by rw[size_list];omega)];rfl
theorem letH_eq {s:ByteArray} (h:¬s.size<2) (u:UInt8) (c:Int) (hu:u=s[s.size - 1]) (hc:c=u.toNat):(c == 65+letF (bl (s.extract 0 (s.size - 1))) 0 0)=letH (bl s):=by
 unfold letH;have hg:(bl s).getD ((bl s).length - 1) 0=u:=by
  rw[List.getD_eq_getElem?_getD,List.getElem?_eq_getElem (by rw[size_list];omega),hu]
  simp only[size_list];rfl
 rw[decide_eq_true (by rw[size_list];omega),hg,extract_take,hc,size_list];rfl
def luhnD (l:List UInt8):UInt8:=UInt8.ofNat (48+-(luhnF (l++[48]) 0 % 10) % 10).toNat
def twoD (n:Int):List UInt8:=[UInt8.ofNat (48+n / 10).toNat,UInt8.ofNat (48+n % 10).toNat]
def addP (c:Int) (l:List UInt8):List UInt8:=
 if c=1 then [luhnD l] else if c=2 then twoD (98-mod97F (l++[48,48]) 0) else if c=3 then hexR 8 (crc l) else if c=4 then [UInt8.ofNat (65+letF l 0 0).toNat] else []
def cmpP (c:Int) (l:List UInt8):List UInt8×Int:=
 if vld c=false then ([],1) else if 65536<l.length then ([],3) else if prm c l=false then ([],4) else (l++addP c l,0)
def luhnSf:Nat->List UInt8->UInt8
 | 0,_=>57
 | n+1,l=>if luhnQ (l++[UInt8.ofNat (56-n)])=true then UInt8.ofNat (56-n) else luhnSf n l
def addQ (c:Int) (l:List UInt8):List UInt8:=
 if c=1 then [luhnSf 9 l] else if c=2 then twoD (98-mod97R (l++[48,48]) 0) else if c=3 then hexR 8 (crc l) else if c=4 then [UInt8.ofNat (65+letF l 0 0).toNat] else []
def cmpQ (c:Int) (l:List UInt8):List UInt8×Int:=
 if vld c=false then ([],1) else if 65536<l.length then ([],3) else if prm c l=false then ([],4) else (l++addQ c l,0)
end Go.Proofs.YtdmoogjddmdmbaaGreatDoor
