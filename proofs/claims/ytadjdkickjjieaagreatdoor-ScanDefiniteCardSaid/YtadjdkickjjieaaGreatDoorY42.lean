/- (scan.Finder).matches: the matches of a kind, given what Passes answers. · scan.Every, scan.All: the matches of all kinds in a text, in order. · scan.All of any library and text. · scan.Choices of any kind at a text that is not too long. -/
import Derived.Test.YtadjdkickjjieaaGreatDoorY39
import Derived.Test.YtadjdkickjjieaaGreatDoorY41
import Derived.Test.YtadjdkickjjieaaGreatDoorY37
import Derived.Test.YtadjdkickjjieaaGreatDoorY38
namespace Go.Proofs.YtadjdkickjjieaaGreatDoor
set_option linter.unusedVariables false
set_option linter.unusedSimpArgs false
set_option maxRecDepth 100000
open Go.RowKit
def zNq (u:KC) (v:Value) (n:Nat) (p:Nat->Nat->Bool) (w:World):Prop:=∀W a z,Below w.heap.size w W->a<z->z<=n->Calls Tryz.prog 108 #[.agg #[.string u.nm, .int .i64 u.op, .slice u.a1 u.n1 u.c1, .slice u.a2 u.n2 u.c2, .int .i64 u.mn, .int .i64 u.mx, .bool u.wh, .int .i64 u.ck, .int .i64 u.en, .slice u.a3 u.n3 u.c3, .int .i64 u.nr],v, .int .i64 (a:Int), .int .i64 (z:Int)] W λe w'=>e = .returned (.bool (p a z))/\Below W.heap.size W w'
def RnT (b:Nat) (l:List Mt) (w:World):Prop:=∃A c,w.heap[b]?=some (.cells #[.slice A l.length c] 49 (0,0))/\w.ownsRow (b+1) 53 3 (.slice A l.length c) l.length (rowF encT l)
structure MaB (x:KC×M2) (v:Value) (kd N:Nat) (w:World):Prop where
 b0:bxF x N w
 b1:w.heap[N+1]?=some (.cells #[v] 41 (0,0))
 b2:w.heap[N+2]?=some (.cells #[.int .i64 (kd:Int)] 3 (0,0))
def flT (p:Nat->Nat->Bool) (kd:Nat) (l:List (Nat×Nat)):List Mt:=mtK kd (l.filter λq=>p q.1 q.2)
def evF (fs:List (KC×M2)) (ms:List Mc) (bs:List Nat) (p:Nat->Nat->Nat->Bool) (i:Nat):List (Nat×Nat):=(chA ((ms[i]?).getD ⟨[],[]⟩) ((fs[i]?).map (·.1.wh) |>.getD false) bs).filter λq=>p i q.1 q.2
theorem zLd (m:Mc) (wh:Bool) (bs:List Nat):(chA m wh bs).length<=bs.length:=by
 have hlen:∀k i,i<=bs.length->(chsF (chF m wh bs) bs.length k i).length+i<=bs.length:=by
  intro k
  induction k with
  | zero=>intro i hi;rw[chsF];simpa using hi
  | succ k ih=>
   intro i hi;rw[chsF];by_cases h:i<bs.length
   .rw[if_pos h]
    cases hfi:chF m wh bs i with
    | none=>have:=ih (i+1) (by omega);show (chsF _ _ k (i+1)).length+i<=_;omega
    | some t=>have h9:=zGj (by omega) hfi;have:=ih t h9.2;show ((i,t)::chsF _ _ k t).length+i<=_;simp only[List.length_cons];omega
   .rw[if_neg h];simpa using hi
 have:=hlen bs.length 0 (Nat.zero_le _);unfold chA;omega
theorem LcA.good {k:Kn} {m:Mc} (h:LcA k 0 m):CmGood k.pat m/\zAV k.pat=0/\LcOK k=true/\nmOK (bl k.nm)=true:=by
 rcases h with ⟨-,h⟩ | ⟨h0,er0,hc,⟨h1,h2⟩ | ⟨rfl,h2⟩⟩
 .cases h
 .exact absurd h2.symm h1
 .cases hq:LcOK k with
  | false=>rw[hq]at h2;cases h2
  | true=>exact ⟨hc.good.1,hc.good.2,rfl,h0⟩
theorem CmGood.go {nd:Nd} {m:Mc} (h:CmGood nd m):McGo m:=⟨h.vld.1,h.vld.2.1,h.vld.2.2.1⟩
def evK (ks:List Kn) (ms:List Mc) (bs:List Nat) (p:Nat->Nat->Nat->Bool) (i:Nat):List (Nat×Nat):=(chA ((ms[i]?).getD ⟨[],[]⟩) ((ks[i]?).map Kn.wh |>.getD false) bs).filter λq=>p i q.1 q.2
def zNh (ks:List Kn) (bs:List Nat) (p:Nat->Nat->Nat->Bool) (w:World) (e:Ending) (w':World):Prop:=Below w.heap.size w w'/\∃er ms,LaA ks er ms/\
 ((er≠0/\e = .returned (.tuple #[.slice none 0 0, .int .i64 er]))\/(er=0/\65536<bs.length/\e = .returned (.tuple #[.slice none 0 0, .int .i64 3]))\/
  (er=0/\bs.length<=65536/\∃v o,e = .returned (.tuple #[v, .int .i64 0])/\MtIn w' v o/\o.Perm (allK (evK ks ms bs p) ks.length 0)/\o.Pairwise LeMt))
def zMD (k:Kn) (bs:List Nat) (w:World) (e:Ending) (w':World):Prop:=Below w.heap.size w w'/\∃(er:Int) (m:Mc),LcA k er m/\((er≠0/\e = .returned (.tuple #[.slice none 0 0, .int .i64 er]))\/(er=0/\∃v,e = .returned (.tuple #[v, .int .i64 0])/\OR 80 3 rnC w.heap.size v (chA m k.wh bs) w'))
theorem zM5 (args:Array Value) (w:World):(callFunc 33 args).run Tryz.prog w = .ok (.enter 33 args) w:=by rfl
theorem zJu (l:List (Nat×Nat)) (a z:Nat):rowF rnC (l++[(a,z)])=rowF rnC l++[.int .i64 0, .int .i64 (a:Int), .int .i64 (z:Int)]:=by
 rw[zAl,zAe];rfl
set_option maxHeartbeats 16000000 in
theorem zC2 (u:KC) (k:Kn) (A:Option Addr) (n c:Nat) (bs:List Nat) (w:World) (h:KnIn w u k) (hvr:VrOK w) (hnm:k.nm.size<=140737488355328) (hb:ByIn w (.slice A n c) bs) (hl:bs.length=n) (hnl:n<=1000) (hby:∀b∈bs,b<256) :
  Calls Tryz.prog 10 #[.agg #[.string u.nm, .int .i64 u.op, .slice u.a1 u.n1 u.c1, .slice u.a2 u.n2 u.c2, .int .i64 u.mn, .int .i64 u.mx, .bool u.wh, .int .i64 u.ck, .int .i64 u.en, .slice u.a3 u.n3 u.c3, .int .i64 u.nr], .slice A n c] w (zMD k bs w):=by
 have HFI:=Lib.hid λW (hb:Below w.heap.size w W)=>zHH u k W (h.later hb) (hvr.later hb) hnm;have HBY:=Lib.hid (And.intro hb (And.intro hl (And.intro hby h.wh)));have g1:decide (65536<(n:Int))=false:=decide_eq_false (by omega)
 have g1n:decide (65536<n)=false:=decide_eq_false (by omega)
 clear h hvr hnm hb hl hby
 go_enter Tryz.func10,Tryz.ntmps10
 go_wp2_with fail;refine zAM λW0 hW0=>?_;have hb0:Below w.heap.size w W0:=by rw[hW0];exact (Below.refl _ _).alloc (Nat.le_refl _) _
 have H0:=Lib.hid hb0;clear hW0 hb0;refine (HFI.out W0 H0.out).mono ?_;rintro e w1 ⟨hb1,er,m,x,hla,rfl,hup⟩;have H1:=Lib.hid (And.intro (H0.out.trans (hb1.mono H0.out.size)) (And.intro hla hup));clear hla hup hb1;by_cases her:er=0
 .have HG:=Lib.hid (H1.out.2.2 her);have HER:=Lib.hid her;have hmc:=HG.out.mc;subst her;have hgo:McGo m:=(H1.out.2.1).good.1.go;have HM:=Lib.hid (And.intro hmc hgo);clear hmc hgo;go_wp2_with fail;refine zAM λW3 hW3=>?_;obtain ⟨F,hF⟩:∃F,Obj.cells #[.string u.nm, .int .i64 u.op, .slice u.a1 u.n1 u.c1, .slice u.a2 u.n2 u.c2, .int .i64 u.mn, .int .i64 u.mx, .bool u.wh, .int .i64 u.ck, .int .i64 u.en, .slice u.a3 u.n3 u.c3, .int .i64 u.nr, .slice x.a1 x.n1 x.c1, .slice x.a2 x.n2 x.c2] 75 (0,0)=F:=⟨_,rfl⟩;rw[hF]at hW3;have hz2:(w1.alloc F).heap.size=w1.heap.size+1:=by simp
  have hb2:Below w1.heap.size w1 (w1.alloc F):=(Below.refl _ _).alloc (Nat.le_refl _) _;have hb3:Below (w1.heap.size+1) (w1.alloc F) W3:=by rw[hW3];exact (Below.refl _ _).alloc (by simp) _
  have hRn:RnB (w1.heap.size+1) 0 [] W3:=by
   refine ⟨none,0,?_,World.ownsRow_nil _ _ _ _⟩;rw[hW3];simpa using heap_alloc_new (w1.alloc F) (.cells #[.slice none 0 0] 36)
  have hbw:Below w1.heap.size w1 W3:=hb2.trans (hb3.mono (by omega))
  have h3:w1.heap.size+1<W3.heap.size:=by obtain ⟨A,c,q1,-⟩:=hRn;exact (Array.getElem?_eq_some_iff.1 q1).1
  have H3:=Lib.hid (And.intro hbw hRn);clear hW3 hb2 hz2 hb3 hRn hbw hF F;have hca:=zFl (u,x) m A n c (w1.heap.size+1) 80 33 #[.pointer (some ⟨w1.heap.size+1,0,none⟩)] bs (λl W=>RnB (w1.heap.size+1) l.length (rowF rnC l) W) W3 zM5 (λW hW=>⟨HM.out.1.later (H3.out.1.trans (hW.mono (by omega))),(HBY.out.1.later H1.out.1).later (H3.out.1.trans (hW.mono (by omega)))⟩) HM.out.2 HBY.out.2.1 (by omega) HBY.out.2.2.1 h3 (by decide) H3.out.2 (λl W W' h hb=>h.later hb) (λl a z W hlen haz hbW hI=>by
   have:=zH0 (w1.heap.size+1) l.length a z (rowF rnC l) W hI (by simp at hlen;omega)
   refine this.mono ?_;rintro e w' ⟨q1,q2,q3,q4⟩;refine ⟨q1,?_,q3,q4⟩;show RnB (w1.heap.size+1) (l++[(a,z)]).length (rowF rnC (l++[(a,z)])) w';rw[zJu,List.length_append];exact q2)
  refine hca.mono ?_;rintro e w4 ⟨⟨v4,rfl⟩,⟨A2,c2,q1,q2⟩,hb4⟩;have hwh:(u,x).1.wh=k.wh:=HBY.out.2.2.2;rw[hwh]at q1 q2;have b0:w4.cell? ⟨w1.heap.size+1,0,none⟩=some (.slice A2 (chA m k.wh bs).length c2):=by rw[cell_of_row _ _ _ _ _ _ q1];rfl
  have lb:w1.heap.size+1<w4.heap.size:=(Array.getElem?_eq_some_iff.1 q1).1;have hsz:w.heap.size<=w1.heap.size:=H1.out.1.size;have H4:=Lib.hid (And.intro (zFT q2 (show w.heap.size<=w1.heap.size+1+1 by omega)) (H1.out.1.trans ((H3.out.1.trans (hb4.mono (by omega))).mono hsz)))
  clear q1 q2 hb4 hca h3 hsz;go_wp2_with fail
  go_ret2
  exact ⟨H4.out.2,0,m,H1.out.2.1, .inr ⟨rfl,_,rfl,H4.out.1⟩⟩
 .have HER:=Lib.hid her;have her0:(er == 0)=false:=by simpa using her
  have her1:(er != 0)=true:=by simpa using her
  clear her;go_wp2_with fail
  go_ret2
  exact ⟨H1.out.1.trans ((Below.refl _ _).alloc H1.out.1.size _),er,m,H1.out.2.1, .inl ⟨HER.out,rfl⟩⟩
end Go.Proofs.YtadjdkickjjieaaGreatDoor
