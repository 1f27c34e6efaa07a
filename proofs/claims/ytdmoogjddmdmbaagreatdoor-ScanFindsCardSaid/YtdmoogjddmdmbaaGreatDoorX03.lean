/- Walks. -/
import Derived.Test.YtdmoogjddmdmbaaGreatDoorX01
import Derived.IntWalk
import Derived.Laws.Entries
import Derived.Laws.Closers25b
import Derived.Laws.BitsAllLaws
import Derived.Lib.Strings
set_option maxRecDepth 100000
set_option maxHeartbeats 16000000
set_option linter.unusedVariables false
set_option linter.unusedSimpArgs false
namespace Go.Proofs.YtdmoogjddmdmbaaGreatDoor
open Go.RowKit
section
open Go
def bl(s:ByteArray):List UInt8:=s.data.toList
def bs(l:List UInt8):ByteArray:=⟨l.toArray⟩
theorem mA(l:List UInt8):bl (bs l)=l:=rfl
theorem Uy(s:ByteArray):bs (bl s)=s:=rfl
theorem df(l:List UInt8):(bs l).size=l.length:=by simp[bs,ByteArray.size]
theorem aE(s:ByteArray):(bl s).length=s.size:=by simp[bl]
theorem EJ{s t:ByteArray}(h:bl s=bl t):s=t:=by rw[<-Uy s,h,Uy]
theorem iw(s:ByteArray):s.toList=bl s:=Lib.toList_data s
theorem drop_byte(s:ByteArray)(k:Nat)(h:k<s.size):(bl s).drop k=s[k]::(bl s).drop (k+1):=by
 rw[List.drop_eq_getElem_cons (by rw[aE];exact h)];rfl
theorem ez(s:ByteArray):(bl s).drop s.size=[]:=List.drop_eq_nil_of_le (by rw[aE];exact I)
def mT(c:Int):Bool:=decide (48<=c) && decide (c<=57)
def cap(c:Int):Bool:=decide (65<=c) && decide (c<=90)
def du(p:Int->Bool):List UInt8->Bool
 | []=>true
 |c::r=>p c.toNat && du p r
theorem mU{p:Int->Bool}{c:UInt8}{r:List UInt8}(h:p c.toNat=false):du p (c::r)=false:=by simp[du,h]
theorem pM{p:Int->Bool}{c:UInt8}{r:List UInt8}(h:p c.toNat=true):du p (c::r)=du p r:=by simp[du,h]
def vT(c:Int):Bool:=mT c || cap c
theorem Sb{c:Int}(h:mT c=true):48<=c/\c<=57:=by simpa [mT] using h
theorem XS{c:Int}(h:mT c=false):c<48\/57<c:=by simp[mT]at h;omega
theorem XL{c:Int}(h:48<=c)(h':c<=57):mT c=true:=by simp[mT,h,h']
theorem G3{c:Int}(h:c<48\/57<c):mT c=false:=by simp[mT];omega
theorem NW{c:Int}(h:(48<=c/\c<=57)\/(65<=c/\c<=90)):vT c=true:=by simp[vT,mT,cap];omega
theorem zy{c:Int}(h:¬((48<=c/\c<=57)\/(65<=c/\c<=90))):vT c=false:=by simp[vT,mT,cap];omega
def Am(c:Int):Bool:=decide (0<=c) && decide (c<=4)
def val(c a:Int):Int:=(c-a) % 256
def Ph(n:Int):Int:=if 9<n*2 then n*2 - 9 else n*2
def gu:List UInt8->Int->Int
 | [],n=>n
 |c::r,n=>gu r (n+if (r.length+1) % 2=0 then Ph (val c.toNat 48) else val c.toNat 48)
theorem qR{u:UInt8}{c N M:Int}{r:List UInt8}(hc:c=u.toNat)(hM:M=N+if (r.length+1) % 2=0 then Ph (val c 48) else val c 48):gu r M=gu (u::r) N:=by
 subst hc hM;rfl
def jl:List UInt8->Nat->Int->Int
 | [],_,n=>n
 |c::r,i,n=>jl r (i+1) (n+if i % 2=1 then Ph (val c.toNat 48) else val c.toNat 48)
theorem vv{u:UInt8}{c N M:Int}{r:List UInt8}{i:Nat}(hc:c=u.toNat)(hM:M=N+if i % 2=1 then Ph (val c 48) else val c 48):jl r (i+1) M=jl (u::r) i N:=by
 subst hc hM;rfl
def m97(c n:Int):Int:=if mT c=true then (n*10+val c 48) % 97 else (n*100+val c 65+10) % 97
def fQ:List UInt8->Int->Int
 | [],n=>n
 |c::r,n=>fQ r (m97 c.toNat n)
theorem DY{u:UInt8}{c N:Int}{r:List UInt8}{b:Bool}(hc:c=u.toNat)(hd:mT c=b):fQ r (if b=true then (N*10+(c - 48) % 256) % 97 else (N*100+(c - 65) % 256+10) % 97)=fQ (u::r) N:=by
 subst hc hd;rfl
def dx:List UInt8->Int->Int
 | [],n=>n
 |c::r,n=>dx r (if (c.toNat:Int)<=57 then (n*10+val c.toNat 48) % 97 else (n*100+val c.toNat 65+10) % 97)
theorem JJ{c:UInt8}{r:List UInt8}{N M:Int}(h:(c.toNat:Int)<=57)(hM:M=(N*10+val c.toNat 48) % 97):dx r M=dx (c::r) N:=by rw[dx,if_pos h,hM]
theorem JK{c:UInt8}{r:List UInt8}{N M:Int}(h:¬(c.toNat:Int)<=57)(hM:M=(N*100+val c.toNat 65+10) % 97):dx r M=dx (c::r) N:=by rw[dx,if_neg h,hM]
def mj:List UInt8->Nat->Int->Int
 | [],_,n=>n
 |c::r,i,n=>mj r (i+1) ((n+(c.toNat:Int)*(((i:Int)+1) % 26)) % 26)
theorem yG(l:List UInt8):∀i n,0<=n->n<26->0<=mj l i n/\mj l i n<26:=by
 induction l with
 |nil=>intro i n h1 h2;exact ⟨h1,h2⟩
 |cons c r ih=>intro i n h1 h2;exact ih _ _ Y Y
theorem rT(c k:Int)(h0:0<=c)(h1:c<256)(h:0<=k):0<=c*((k+1) % 26)/\c*((k+1) % 26)<=6400:=by
 have h2:0<=(k+1) % 26:=Y;have h3:(k+1) % 26<=25:=Y;refine ⟨Int.mul_nonneg h0 h2,?_⟩
 calc c*((k+1) % 26)<=256*((k+1) % 26):=Int.mul_le_mul_of_nonneg_right Y h2
  _<=256*25:=Y
  _=6400:=rfl
def kZ(x:Int):Int:=if (bits .and .u32 x 1 == 1)=true then bits .xor .u32 (x / 2) 3988292384 else x / 2
def jh:Nat->Int->Int
 |0,x=>x
 |n+1,x=>jh n (kZ x)
def wv:List UInt8->Int->Int
 | [],x=>x
 |c::r,x=>wv r (jh 8 (bits .xor .u32 x c.toNat))
theorem ml(op:BinOp)(a b:Int):0<=bits op .u32 a b/\bits op .u32 a b<4294967296:=by
 have h:=bits_within op .u32 a b;have h1:IntKind.u32.min=0:=rfl;have h2:IntKind.u32.max=4294967295:=O;omega
theorem Ip{x:Int}(h0:0<=x)(h1:x<4294967296):0<=kZ x/\kZ x<4294967296:=by
 unfold kZ;split
 .exact ml _ _ _
 .omega
theorem gZ(n:Nat)(x:Int):jh (n+1) x=jh n (kZ x):=rfl
theorem FU{x:Int}(h:(bits .and .u32 x 1 == 1)=true):kZ x=bits .xor .u32 (x / 2) 3988292384:=by rw[kZ,if_pos h]
theorem LC{x:Int}(h:(bits .and .u32 x 1 == 1)=false):kZ x=x / 2:=by rw[kZ,if_neg (by rw[h];decide)]
theorem Qn(x:Int):bits .xor .u32 IntKind.u32.max x=bits .xor .u32 x 4294967295:=by
 have h:IntKind.u32.max=4294967295:=O;rw[h];unfold bits;simp only[BitVec.xor_comm]
def Ki(l:List UInt8):Int:=bits .xor .u32 (wv l 4294967295) 4294967295
def D4(n:Int):UInt8:=if n<10 then UInt8.ofNat (48+n.toNat) else UInt8.ofNat (87+n.toNat)
def ky:Nat->Int->List UInt8
 |0,_=>[]
 |m+1,x=>D4 (x / 2 ^ (4*m) % 16)::ky m x
theorem vw:∀(m:Nat) (x:Int),(ky m x).length=m
 |0,_=>rfl
 |m+1,x=>by simp[ky,vw m x]
theorem yH{x M:Int}(k:Nat)(h0:0<=x)(h1:x<M):0<=x / 2 ^ k/\x / 2 ^ k<M:=by
 have hp:(0:Int)<2 ^ k:=Int.pow_pos O;refine ⟨Int.ediv_nonneg h0 Y,?_⟩;have:=Int.ediv_le_self (2 ^ k) h0;omega
theorem Tu{x:Int}(h0:0<=x)(h1:x<4294967296):bits .and .u32 x 15=x % 16:=by
 rw[u32_and x 15 h0 h1 Y Y];obtain ⟨n,rfl⟩:=Int.eq_ofNat_of_zero_le h0;have:n &&& 15=n % 16:=Nat.and_two_pow_sub_one_eq_mod n 4;simp only[Int.toNat_natCast];have h15:(15:Int).toNat=15:=rfl;rw[h15,this];omega
theorem OU:∀(l:List UInt8) (i:Nat) (n:Int),0<=n->0<=jl l i n
 | [],_,_,h=>h
 |c::r,i,n,h=>OU r (i+1) _ (by unfold Ph val; split <;> (try split) <;> omega)
theorem NY(s:ByteArray)(k:Nat)(h:k<s.size):(bl s).reverse.drop k=s[s.size - 1-k]::(bl s).reverse.drop (k+1):=by
 have hl:(bl s).reverse.length=s.size:=by rw[List.length_reverse,aE]
 rw[List.drop_eq_getElem_cons Y,List.getElem_reverse]
 rfl
theorem Bm:∀(l:List UInt8) (n:Int),0<=n->0<=gu l n
 | [],_,h=>h
 |c::r,n,h=>Bm r _ (by unfold Ph val; split <;> (try split) <;> omega)
def ue(l:List UInt8):Bool:=decide (2<=(l.length:Int)) && du mT l && (gu l 0 % 10 == 0)
def mH(l:List UInt8):Bool:=decide (2<=(l.length:Int)) && du mT l && (jl l.reverse 0 0 % 10 == 0)
def Hl(l:List UInt8):List UInt8:=l.drop (l.length - 2)
def Bn(l:List UInt8):Bool:=decide (3<=(l.length:Int)) && du vT l && du mT (Hl l) && (fQ l 0 == 1)
def Fo(l:List UInt8):Bool:=decide (3<=(l.length:Int)) && du vT l && du mT (Hl l) && (dx l 0 == 1)
theorem lh(s:ByteArray)(i j:Nat):bl (s.extract i j)=((bl s).drop i).take (j-i):=Lib.extract_data s i j
theorem oq(s:ByteArray):bl (s.extract (s.size - 2) s.size)=Hl (bl s):=by
 rw[lh,Hl,List.take_of_length_le (by rw[List.length_drop,aE];omega),aE]
def G5(c:Int)(l:List UInt8):Bool:=
 if c=0 then true else if l=[] then false else if c=1 then du mT l else if c=2 then du vT l else true
theorem D5(l:List UInt8):0<=Ki l/\Ki l<4294967296:=ml _ _ _
def Bo(l:List UInt8):Bool:=decide (9<=(l.length:Int)) && (l.drop (l.length - 8) == ky 8 (Ki (l.take (l.length - 8))))
def Bp(l:List UInt8):Bool:=decide (2<=(l.length:Int)) && (((l.getD (l.length - 1) 0).toNat:Int) == 65+mj (l.take (l.length - 1)) 0 0)
def DC(c:Int)(l:List UInt8):Bool:=if c=0 then true else if c=1 then ue l else if c=2 then Bn l else if c=3 then Bo l else if c=4 then Bp l else false
def Sc(c:Int)(l:List UInt8):Bool:=if c=0 then true else if c=1 then mH l else if c=2 then Fo l else if c=3 then Bo l else if c=4 then Bp l else false
theorem qA(s:ByteArray)(n:Nat):bl (s.extract 0 n)=(bl s).take n:=by rw[lh];rfl
theorem zI(s:ByteArray)(n:Nat):bl (s.extract n s.size)=(bl s).drop n:=by
 rw[lh,List.take_of_length_le (by rw[List.length_drop,aE];omega)]
theorem FW{s:ByteArray}(h:s.size<9):Bo (bl s)=false:=by unfold Bo;rw[decide_eq_false (by rw[aE];omega)];rfl
theorem FX{s:ByteArray}(h:¬s.size<9):((s.extract (s.size - 8) s.size).toList == (bs (ky 8 (Ki (bl (s.extract 0 (s.size - 8)))))).toList)=Bo (bl s):=by
 unfold Bo;rw[decide_eq_true (by rw[aE];omega),iw,iw,mA,qA,zI,aE];rfl
theorem FY{s:ByteArray}(h:s.size<2):Bp (bl s)=false:=by unfold Bp;rw[decide_eq_false (by rw[aE];omega)];rfl
theorem FZ{s:ByteArray}(h:¬s.size<2)(u:UInt8)(c:Int)(hu:u=s[s.size - 1])(hc:c=u.toNat):(c == 65+mj (bl (s.extract 0 (s.size - 1))) 0 0)=Bp (bl s):=by
 unfold Bp;have hg:(bl s).getD ((bl s).length - 1) 0=u:=by
  rw[List.getD_eq_getElem?_getD,List.getElem?_eq_getElem (by rw[aE];omega),hu]
  simp only[aE];rfl
 rw[decide_eq_true (by rw[aE];omega),hg,qA,hc,aE];rfl
theorem mE(s:ByteArray)(l:List UInt8):s++bs l=bs (bl s++l):=by
 apply EJ;rw[mA];simp[bl,bs]
theorem CL(u:UInt8):(bs [u]).size=1:=rfl
theorem XO(s:ByteArray)(l:List UInt8):bl (s++⟨l.toArray⟩)=bl s++l:=by rw[show (⟨l.toArray⟩:ByteArray)=bs l from rfl,mE,mA]
def ae8(l:List UInt8):UInt8:=UInt8.ofNat (48+-(gu (l++[48]) 0 % 10) % 10).toNat
def R5(n:Int):List UInt8:=[UInt8.ofNat (48+n / 10).toNat,UInt8.ofNat (48+n % 10).toNat]
def ams(c:Int)(l:List UInt8):List UInt8:=
 if c=1 then [ae8 l] else if c=2 then R5 (98-fQ (l++[48,48]) 0) else if c=3 then ky 8 (Ki l) else if c=4 then [UInt8.ofNat (65+mj l 0 0).toNat] else []
def auJ(c:Int)(l:List UInt8):List UInt8×Int:=
 if Am c=false then ([],1) else if 65536<l.length then ([],3) else if G5 c l=false then ([],4) else (l++ams c l,0)
theorem JZ:∀(l:List UInt8) (n:Int),0<=n->n<97->0<=fQ l n/\fQ l n<97
 | [],_,h,h'=>⟨h,h'⟩
 |c::r,n,_,_=>JZ r _ (by unfold m97; split <;> omega) (by unfold m97; split <;> omega)
theorem JM{c:Int}(h:Am c=true):c=0\/c=1\/c=2\/c=3\/c=4:=by simp[Am]at h;omega
def kY:Nat->List UInt8->UInt8
 |0,_=>57
 |n+1,l=>if mH (l++[UInt8.ofNat (56-n)])=true then UInt8.ofNat (56-n) else kY n l
theorem Fm{n:Nat}{l:List UInt8}(h:mH (l++[UInt8.ofNat (56-n)])=true):kY (n+1) l=UInt8.ofNat (56-n):=by rw[kY,if_pos h]
theorem JL{n:Nat}{l:List UInt8}(h:mH (l++[UInt8.ofNat (56-n)])=false):kY (n+1) l=kY n l:=by rw[kY,if_neg (by rw[h];decide)]
def qu(c:Int)(l:List UInt8):List UInt8:=
 if c=1 then [kY 9 l] else if c=2 then R5 (98-dx (l++[48,48]) 0) else if c=3 then ky 8 (Ki l) else if c=4 then [UInt8.ofNat (65+mj l 0 0).toNat] else []
def jD(c:Int)(l:List UInt8):List UInt8×Int:=
 if Am c=false then ([],1) else if 65536<l.length then ([],3) else if G5 c l=false then ([],4) else (l++qu c l,0)
theorem yg:∀(l:List UInt8) (n:Int),0<=n->n<97->0<=dx l n/\dx l n<97
 | [],_,h,h'=>⟨h,h'⟩
 |c::r,n,_,_=>yg r _ (by split <;> omega) (by split <;> omega)
theorem NZ(s:ByteArray)(l:List UInt8):bl (s++bs l)=bl s++l:=by rw[mE,mA]
theorem Yv{s:ByteArray}(h:s.size=0):bl s=[]:=List.length_eq_zero_iff.1 (by rw[aE,h])
theorem Hm{s:ByteArray}(h:¬s.size=0):¬bl s=[]:=λe=>h (by rw[<-aE,e];rfl)
theorem Sa{s:ByteArray}{c:Int}(h:s.size=0)(hc:¬c=0):G5 c (bl s)=false:=by rw[G5,if_neg hc,if_pos (Yv h)]
theorem G6{s:ByteArray}(h:¬s.size=0):G5 1 (bl s)=du mT (bl s):=by rw[G5,if_neg O,if_neg (Hm h),if_pos rfl]
theorem G7{s:ByteArray}(h:¬s.size=0):G5 2 (bl s)=du vT (bl s):=by rw[G5,if_neg O,if_neg (Hm h),if_neg O,if_pos rfl]
theorem R6{s:ByteArray}(h:¬s.size=0):G5 3 (bl s)=true:=by rw[G5,if_neg O,if_neg (Hm h),if_neg O,if_neg O]
theorem R7{s:ByteArray}(h:¬s.size=0):G5 4 (bl s)=true:=by rw[G5,if_neg O,if_neg (Hm h),if_neg O,if_neg O]
theorem iU(n:Nat)(h:n<256):((n:Int))=(UInt8.ofNat n).toNat:=by rw[UInt8.toNat_ofNat',Nat.mod_eq_of_lt h]
theorem OV(c:Int)(l:List UInt8):(jD c l).1.length<=l.length+8:=by
 unfold jD;split
 .simp
 .split
  .simp
  .split
   .simp
   .have:(qu c l).length<=8:=by
     unfold qu;split
     .simp
     .split
      .simp[R5]
      .split
       .rw[vw];exact I
       .split <;> simp
    simp;omega
end
end Go.Proofs.YtdmoogjddmdmbaaGreatDoor
