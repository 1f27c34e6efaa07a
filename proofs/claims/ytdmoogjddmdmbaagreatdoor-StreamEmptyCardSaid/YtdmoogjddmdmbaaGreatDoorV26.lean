/- Walks. -/
import Derived.Test.YtdmoogjddmdmbaaGreatDoorV22
import Derived.Test.YtdmoogjddmdmbaaGreatDoorV23
import Derived.Test.YtdmoogjddmdmbaaGreatDoorV25
import Derived.Test.YtdmoogjddmdmbaaGreatDoorV21
import Derived.Test.YtdmoogjddmdmbaaGreatDoorV12
import Derived.Lib.SmallJoins
set_option maxRecDepth 100000
set_option maxHeartbeats 16000000
set_option linter.unusedVariables false
set_option linter.unusedSimpArgs false
namespace Go.Proofs.YtdmoogjddmdmbaaGreatDoor
open Go.RowKit
section
set_option linter.unusedVariables false
set_option linter.unusedSimpArgs false
open Go.RowKit
def ZU (nd:Nd) (er:Int) (m:Mc):Prop:=
 (bk nd≠0/\er=bk nd)\/(bk nd=0/\600<aK nd/\er=3)\/
 (bk nd=0/\aK nd<=600/\∃b x gs rows bE i,Wr ⟨[],[]⟩ b x (gN nd)/\b.fol.length=aK nd/\(∀rs∈b.sets,∀r∈rs,r.2<256)/\ER b x gs rows bE i/\
    ((2000<gs.length/\er=3)\/(i=gs.length/\gs.length<=2000/\er=0/\Jo ⟨rows,bE⟩ m)))
theorem ajJ {nd:Nd} {w w':World} {e:Ending} (h:MC nd w e w'):Below w.heap.size w w'/\∃er m,ZU nd er m/\((er≠0/\e = .returned (.tuple #[iP, .int .i64 er]))\/(er=0/\∃rv,e = .returned (.tuple #[rv, .int .i64 0])/\j0 w.heap.size w' rv m)):=by
 obtain ⟨hb,h⟩:=h;refine ⟨hb,?_⟩;rcases h with ⟨h1,h2⟩ | ⟨h1,h2,h3⟩ | ⟨h1,h2,b,x,gs,rows,bE,i,q1,q2,q3,q4,h⟩
 .exact ⟨_,⟨[],[]⟩, .inl ⟨h1,rfl⟩, .inl ⟨h1,h2⟩⟩
 .exact ⟨3,⟨[],[]⟩, .inr (.inl ⟨h1,h2,rfl⟩), .inl ⟨by decide,h3⟩⟩
 .rcases h with ⟨h3,h4⟩ | ⟨h3,h4,rv,m',h5,h6,h7⟩
  .exact ⟨3,⟨[],[]⟩, .inr (.inr ⟨h1,h2,b,x,gs,rows,bE,i,q1,q2,q3,q4, .inl ⟨h3,rfl⟩⟩), .inl ⟨by decide,h4⟩⟩
  .exact ⟨0,m', .inr (.inr ⟨h1,h2,b,x,gs,rows,bE,i,q1,q2,q3,q4, .inr ⟨h3,h4,rfl,h7⟩⟩), .inr ⟨rfl,rv,h5,h6⟩⟩
def ry (nd:Nd) (m:Mc):Prop:=∃m0,Jo m0 m/\m0.ed.length<=2000/\∀u,jn m0 u 0=true↔cI nd u
theorem ZU.good {nd:Nd} {m:Mc} (h:ZU nd 0 m):ry nd m/\bk nd=0:=by
 rcases h with ⟨h1,h2⟩ | ⟨-,-,h3⟩ | ⟨h1,h2,b,x,gs,rows,bE,i,q1,q2,q3,q4,h⟩
 .exact absurd h2.symm h1
 .cases h3
 .rcases h with ⟨-,h4⟩ | ⟨rfl,h4,-,h7⟩
  .cases h4
  .have hd:=q4.done q3;refine ⟨⟨_,h7,?_,λu=>by rw[hd.2.2,q1.iu];rfl⟩,h1⟩
   show rows.length<=2000;have:=q4.rl;omega
theorem ry.wR {nd:Nd} {m:Mc} (h:ry nd m):pL m/\sf m/\1<=m.ed.length/\m.ed.length<=2000/\∀u,jn m u 0=true↔cI nd u:=by
 obtain ⟨m0,h1,h2,h3⟩:=h;obtain ⟨v1,v2⟩:=NM h1;exact ⟨v1,h1.2.2,v2,by have:=h1.2.1;omega,λu=>by rw[Jp h1,h3]⟩
theorem ZU.few {nd:Nd} {er:Int} {m:Mc} (h:ZU nd er m) (hv:bk nd=0) (hp:aK nd<=10):er=0:=by
 rcases h with ⟨h1,-⟩ | ⟨-,h1,-⟩ | ⟨-,-,b,x,gs,rows,bE,i,hw,hf,hs,hc,h⟩
 .exact absurd hv h1
 .omega
 .have hct:=hc.count;rw[hw.len,hf]at hct;have h2:2 ^ aK nd<=2 ^ 10:=Nat.pow_le_pow_right (by decide) hp
  rcases h with ⟨h1,-⟩ | ⟨-,-,h1,-⟩
  .omega
  .exact h1
def sH (s:ByteArray):Bool:=decide (1<=s.size) && decide (s.size<=64)
def zG (k:Kn):Bool:=decide (1<=bw k.pat) && (decide (aN k.pat<=256) && ((decide (0<=k.ck) && decide (k.ck<=4)) && (decide (0<=k.en) && (decide (k.en<=1073741824) && (decide (k.ws.length<=16) && (k.ws.all sH && (decide (0<=k.nr) && (decide (k.nr<=64) && !(k.ws.isEmpty && decide (k.nr≠0))))))))))
def Nt (k:Kn) (er:Int) (m:Mc):Prop:=(uN (bl k.nm)=false/\er=4)\/(uN (bl k.nm)=true/\∃ZH,ZU k.pat ZH m/\((ZH≠0/\er=ZH)\/(ZH=0/\er=if zG k then 0 else 2)))
def Xh (k:Kn) (w:World) (e:Ending) (w':World):Prop:=Below w.heap.size w w'/\∃er m,Nt k er m/\((er≠0/\e = .returned (.tuple #[iP, .int .i64 er]))\/(er=0/\∃rv,e = .returned (.tuple #[rv, .int .i64 0])/\j0 w.heap.size w' rv m))
def RI (u:KC) (b:Nat) (w:World):Prop:=w.heap[b]?=some (.cells #[.string u.nm, .int .i64 u.op, .slice u.a1 u.n1 u.c1, .slice u.a2 u.n2 u.c2, .int .i64 u.mn, .int .i64 u.mx, .bool u.wh, .int .i64 u.ck, .int .i64 u.en, .slice u.a3 u.n3 u.c3, .int .i64 u.nr] 44 (0,0))
theorem RI.later {u:KC} {b:Nat} {w w':World} (h:RI u b w) (hb:Below w.heap.size w w'):RI u b w':=(hb.block b (Array.getElem?_eq_some_iff.1 h).1).trans h
theorem RI.cells {u:KC} {b:Nat} {w:World} (h:RI u b w):(w.cell? ⟨b,0,none⟩=some (.string u.nm)/\w.cell? ⟨b,1,none⟩=some (.int .i64 u.op)/\w.cell? ⟨b,2,none⟩=some (.slice u.a1 u.n1 u.c1)/\w.cell? ⟨b,3,none⟩=some (.slice u.a2 u.n2 u.c2)/\w.cell? ⟨b,4,none⟩=some (.int .i64 u.mn)/\w.cell? ⟨b,5,none⟩=some (.int .i64 u.mx))/\(w.cell? ⟨b,6,none⟩=some (.bool u.wh)/\w.cell? ⟨b,7,none⟩=some (.int .i64 u.ck)/\w.cell? ⟨b,8,none⟩=some (.int .i64 u.en)/\w.cell? ⟨b,9,none⟩=some (.slice u.a3 u.n3 u.c3)/\w.cell? ⟨b,10,none⟩=some (.int .i64 u.nr))/\b<w.heap.size:=by
 refine ⟨⟨?_,?_,?_,?_,?_,?_⟩,⟨?_,?_,?_,?_,?_⟩,(Array.getElem?_eq_some_iff.1 h).1⟩ <;> (rw[cell_of_row _ _ _ _ _ _ h]; rfl)
def bxN (nd:Nd) (vs:List Value) (b:Nat) (w:World):Prop:=w.heap[b]?=some (.cells vs.toArray 41 (0,0))/\bX w nd vs
set_option maxHeartbeats 4000000 in
theorem Fp (nd:Nd) (vs:List Value) (w:World) (h:bX w nd vs) (hv:bk nd=0):Calls Tryz.prog 111 #[.agg vs.toArray] w λe w'=>e = .returned (.int .i64 ((bw nd:Nat):Int))/\Below w.heap.size w w':=by
 obtain ⟨z1,z2,z3,z4⟩:=kE hv;have HV:=Lib.hid λW (hb:Below w.heap.size w W)=>re nd vs W (h.later hb);have HS:=Lib.hid λW (hb:Below w.heap.size w W)=>zM _ nd vs W (Nat.le_refl _) z1 z3 z4 (h.later hb);rw[hv]at HV;obtain ⟨A1,c1,A2,c2,rfl,-⟩:=h.form;clear h z1 z2 z3 z4
 go_enter Tryz.func111,Tryz.ntmps111
 go_wp2_with fail;refine dx λW0 ik=>?_;have hb0:Below w.heap.size w W0:=by rw[ik];exact (Below.refl _ _).alloc (Nat.le_refl _) _
 have hX:W0.heap[w.heap.size]?=some (.cells #[.int .i64 nd.op, .slice A1 nd.rs.length c1, .slice A2 nd.kids.length c2, .int .i64 nd.mn, .int .i64 nd.mx] 41 (0,0)):=by rw[ik];exact heap_alloc_new w _
 have H0:=Lib.hid (And.intro hb0 hX);clear ik hb0 hX;refine (HV.out W0 H0.out.1).mono ?_;rintro e w1 ⟨rfl,hb1⟩;have yi:=(hb1.block _ (Array.getElem?_eq_some_iff.1 H0.out.2).1).trans H0.out.2;have k0:w1.cell? ⟨w.heap.size,0,none⟩=some (.int .i64 nd.op):=by rw[cell_of_row _ _ _ _ _ _ yi];rfl
 have k1:w1.cell? ⟨w.heap.size,1,none⟩=some (.slice A1 nd.rs.length c1):=by rw[cell_of_row _ _ _ _ _ _ yi];rfl
 have k2:w1.cell? ⟨w.heap.size,2,none⟩=some (.slice A2 nd.kids.length c2):=by rw[cell_of_row _ _ _ _ _ _ yi];rfl
 have k3:w1.cell? ⟨w.heap.size,3,none⟩=some (.int .i64 nd.mn):=by rw[cell_of_row _ _ _ _ _ _ yi];rfl
 have k4:w1.cell? ⟨w.heap.size,4,none⟩=some (.int .i64 nd.mx):=by rw[cell_of_row _ _ _ _ _ _ yi];rfl
 have lb:w.heap.size<w1.heap.size:=(Array.getElem?_eq_some_iff.1 yi).1;have bH:=Lib.hid (H0.out.1.trans (hb1.mono H0.out.1.size));clear hb1 yi;go_wp2_with fail;refine (HS.out w1 bH.out).mono ?_;rintro e w2 ⟨rfl,aL⟩;have eO:=Lib.hid (bH.out.trans (aL.mono bH.out.size));clear aL k0 k1 k2 k3 k4 lb;go_wp2_with fail;go_ret;exact ⟨rfl,eO.out⟩
set_option maxHeartbeats 4000000 in
theorem yj (nd:Nd) (vs:List Value) (w:World) (h:bX w nd vs) (hv:bk nd=0):Calls Tryz.prog 74 #[.agg vs.toArray] w λe w'=>e = .returned (.int .i64 ((aN nd:Nat):Int))/\Below w.heap.size w w':=by
 obtain ⟨z1,z2,z3,z4⟩:=kE hv;have HV:=Lib.hid λW (hb:Below w.heap.size w W)=>re nd vs W (h.later hb);have HS:=Lib.hid λW (hb:Below w.heap.size w W)=>rX _ nd vs W (Nat.le_refl _) z1 z3 (h.later hb);rw[hv]at HV;obtain ⟨A1,c1,A2,c2,rfl,-⟩:=h.form;clear h z1 z2 z3 z4
 go_enter Tryz.func74,Tryz.ntmps74
 go_wp2_with fail;refine dx λW0 ik=>?_;have hb0:Below w.heap.size w W0:=by rw[ik];exact (Below.refl _ _).alloc (Nat.le_refl _) _
 have hX:W0.heap[w.heap.size]?=some (.cells #[.int .i64 nd.op, .slice A1 nd.rs.length c1, .slice A2 nd.kids.length c2, .int .i64 nd.mn, .int .i64 nd.mx] 41 (0,0)):=by rw[ik];exact heap_alloc_new w _
 have H0:=Lib.hid (And.intro hb0 hX);clear ik hb0 hX;refine (HV.out W0 H0.out.1).mono ?_;rintro e w1 ⟨rfl,hb1⟩;have yi:=(hb1.block _ (Array.getElem?_eq_some_iff.1 H0.out.2).1).trans H0.out.2;have k0:w1.cell? ⟨w.heap.size,0,none⟩=some (.int .i64 nd.op):=by rw[cell_of_row _ _ _ _ _ _ yi];rfl
 have k1:w1.cell? ⟨w.heap.size,1,none⟩=some (.slice A1 nd.rs.length c1):=by rw[cell_of_row _ _ _ _ _ _ yi];rfl
 have k2:w1.cell? ⟨w.heap.size,2,none⟩=some (.slice A2 nd.kids.length c2):=by rw[cell_of_row _ _ _ _ _ _ yi];rfl
 have k3:w1.cell? ⟨w.heap.size,3,none⟩=some (.int .i64 nd.mn):=by rw[cell_of_row _ _ _ _ _ _ yi];rfl
 have k4:w1.cell? ⟨w.heap.size,4,none⟩=some (.int .i64 nd.mx):=by rw[cell_of_row _ _ _ _ _ _ yi];rfl
 have lb:w.heap.size<w1.heap.size:=(Array.getElem?_eq_some_iff.1 yi).1;have bH:=Lib.hid (H0.out.1.trans (hb1.mono H0.out.1.size));clear hb1 yi;go_wp2_with fail;refine (HS.out w1 bH.out).mono ?_;rintro e w2 ⟨rfl,aL⟩;have eO:=Lib.hid (bH.out.trans (aL.mono bH.out.size));clear aL k0 k1 k2 k3 k4 lb;go_wp2_with fail;go_ret;exact ⟨rfl,eO.out⟩
theorem zN (c:Int) (w:World):Calls Tryz.prog 112 #[.int .i64 c] w λe w'=>e = .returned (.bool (decide (0<=c) && decide (c<=4)))/\w'=w:=by
 obtain ⟨b1,h1⟩:∃b,decide (0<=c)=b:=⟨_,rfl⟩;obtain ⟨b2,h2⟩:∃b,decide (c<=4)=b:=⟨_,rfl⟩;rw[h1,h2]
 go_enter Tryz.func112,Tryz.ntmps112
 cases b1 <;> cases b2
 all_goals
  go_wp2_with fail;go_ret;exact ⟨rfl,rfl⟩
theorem JP (s:ByteArray) (w:World):Calls Tryz.prog 110 #[.string s] w λe w'=>e = .returned (.bool (!sH s))/\w'=w:=by
 obtain ⟨b1,h1⟩:∃b,decide ((s.size:Int)<1)=b:=⟨_,rfl⟩;obtain ⟨b2,h2⟩:∃b,decide (64<(s.size:Int))=b:=⟨_,rfl⟩;have e:(!sH s)=(b1 || b2):=by
  subst h1 h2;unfold sH;rw[Bool.eq_iff_iff];simp only[Bool.not_eq_true',Bool.and_eq_false_iff,decide_eq_false_iff_not,Bool.or_eq_true,decide_eq_true_eq];omega
 rw[e];clear e
 go_enter Tryz.func110,Tryz.ntmps110
 cases b1 <;> cases b2
 all_goals
  go_wp2_with fail;go_ret;exact ⟨rfl,rfl⟩
end
end Go.Proofs.YtdmoogjddmdmbaaGreatDoor
