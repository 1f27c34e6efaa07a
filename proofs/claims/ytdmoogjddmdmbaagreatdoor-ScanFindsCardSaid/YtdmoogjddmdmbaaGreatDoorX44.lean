/- Walks. -/
import Derived.Test.YtdmoogjddmdmbaaGreatDoorX43
import Derived.Test.YtdmoogjddmdmbaaGreatDoorX05
import Derived.Test.YtdmoogjddmdmbaaGreatDoorX35
set_option maxRecDepth 100000
set_option maxHeartbeats 16000000
set_option linter.unusedVariables false
set_option linter.unusedSimpArgs false
namespace Go.Proofs.YtdmoogjddmdmbaaGreatDoor
open Go.RowKit
theorem jZ.form{b:Nat}{w:World}:∀{d m:Nat} {vs:List Value},jZ b w d m vs->∃u:KC,vs=u.pat
 |0,_,_,h=>h.elim
 |d+1,m,vs,⟨v1,v2,mn,mx,⟨⟨A,a1,a2,e1⟩,⟨B,b1,b2,e2⟩⟩,h⟩=>by
  subst e1 e2;have:∃o:Int,vs=[.int .i64 o,.slice A a1 a2,.slice B b1 b2,.int .i64 mn,.int .i64 mx]:=by
   rcases h with ⟨h1,-⟩|⟨h1,-⟩|⟨h1,-⟩|⟨h1,-⟩ <;> exact ⟨_,h1⟩
  obtain ⟨o,rfl⟩:=this;exact ⟨⟨ByteArray.empty,o,A,a1,a2,B,b1,b2,mn,mx,false,0,0,none,0,0,0⟩,rfl⟩
theorem zk.kcs{b:Nat}{w:World}{n d m c g:Nat}(h:zk b w (jZ b w d m) n (.slice (some ⟨g,0,none⟩) n c)):∃V:Nat->KC,b<g/\g<w.heap.size/\
  (∀j,j<n->w.cell? ⟨g,j*5,none⟩=some (.int .i64 (V j).op))/\(∀j,j<n->w.cell? ⟨g,j*5+1,none⟩=some (.slice (V j).a1 (V j).n1 (V j).c1))/\(∀j,j<n->w.cell? ⟨g,j*5+2,none⟩=some (.slice (V j).a2 (V j).n2 (V j).c2))/\(∀j,j<n->w.cell? ⟨g,j*5+3,none⟩=some (.int .i64 (V j).mn))/\(∀j,j<n->w.cell? ⟨g,j*5+4,none⟩=some (.int .i64 (V j).mx))/\
  (∀j,j<n->jZ b w d m (V j).pat):=by
 obtain ⟨g',f,c',hv,h1,h2,h3,h5⟩:=h;injection hv with e1 e2 e3;injection e1 with e1;injection e1 with e1 e4;subst e1 e4;have h6:∀j,∃u:KC,j<n->(w.cell? ⟨g,j*5,none⟩=some (.int .i64 u.op)/\w.cell? ⟨g,j*5+1,none⟩=some (.slice u.a1 u.n1 u.c1)/\w.cell? ⟨g,j*5+2,none⟩=some (.slice u.a2 u.n2 u.c2)/\w.cell? ⟨g,j*5+3,none⟩=some (.int .i64 u.mn)/\w.cell? ⟨g,j*5+4,none⟩=some (.int .i64 u.mx)/\jZ b w d m u.pat):=by
  intro j;by_cases hj:j<n
  .obtain ⟨u0,u1,u2,u3,u4,q0,q1,q2,q3,q4,hp⟩:=h5 j hj;obtain ⟨u,hu⟩:=hp.form;rw[hu]at hp;simp only[KC.pat,List.cons.injEq,and_true]at hu;obtain ⟨rfl,rfl,rfl,rfl,rfl⟩:=hu;rw[Nat.zero_add]at q0 q1 q2 q3 q4;exact ⟨u,λ_=>⟨q0,q1,q2,q3,q4,hp⟩⟩
  .exact ⟨⟨ByteArray.empty,0,none,0,0,none,0,0,0,0,false,0,0,none,0,0,0⟩,λh=>absurd h hj⟩
 obtain ⟨V,hV⟩:=Classical.axiomOfChoice h6;exact ⟨V,h1,h2,λj hj=>(hV j hj).1,λj hj=>(hV j hj).2.1,λj hj=>(hV j hj).2.2.1,λj hj=>(hV j hj).2.2.2.1,λj hj=>(hV j hj).2.2.2.2.1,λj hj=>(hV j hj).2.2.2.2.2⟩
def ZK(e:TypeId):Obj:=.cells #[.string ByteArray.empty,.int .i64 0,.slice none 0 0,.slice none 0 0,.int .i64 0,.int .i64 0,.bool false,.int .i64 0,.int .i64 0,.slice none 0 0,.int .i64 0] e (0,0)
theorem KR.step{b K:Nat}{w w':World}{o:Obj}(h:w.heap[K]?=some o)(hf:Fr b w w')(hb:b<K):w'.heap[K]?=some o:=
 (hf.block K (γ h).1 (by intro e;injection e;omega)).trans h
theorem GI{b:Nat}{w w':World}{cs:Array Value}{e:TypeId}:Fr b (w.alloc (.cells cs e)) w'↔(Fr b (w.alloc (.cells cs e)) w'/\(b<w.heap.size->w'.heap[w.heap.size]?=some (.cells cs e (0,0)))):=
 ⟨λhf=>⟨hf,λhb=>KR.step (heap_alloc_new w _) hf hb⟩,λh=>h.1⟩
theorem Jj:(Tryz.prog.info? 44).map (λi=>(i.zero,i.size,i.bytes))=some (some (.agg #[.string ⟨#[]⟩,.int .i64 0,.slice none 0 0,.slice none 0 0,.int .i64 0,.int .i64 0,.bool false,.int .i64 0,.int .i64 0,.slice none 0 0,.int .i64 0]),11,144):=κ
theorem ac4{w:World}{K:Nat}{e:TypeId}{old:Array Value}(h:w.heap[K]?=some (.cells old e (0,0)))(ho:old.size=11)(wh:Bool)(nm:ByteArray)(op:Int)(a1:Option Addr)(n1 c1:Nat)(a2:Option Addr)(n2 c2:Nat)(mn mx:Int)(ck en:Int)(a3:Option Addr)(n3 c3:Nat)(nr:Int):
  (storeCells ⟨K,0,none⟩ [.string nm,.int .i64 op,.slice a1 n1 c1,.slice a2 n2 c2,.int .i64 mn,.int .i64 mx,.bool wh,.int .i64 ck,.int .i64 en,.slice a3 n3 c3,.int .i64 nr] 0).run Tryz.prog w=.ok () (w.setRow K (KC.cs ⟨nm,op,a1,n1,c1,a2,n2,c2,mn,mx,wh,ck,en,a3,n3,c3,nr⟩).toArray):=
 run_storeCells_from K e (KC.cs ⟨nm,op,a1,n1,c1,a2,n2,c2,mn,mx,wh,ck,en,a3,n3,c3,nr⟩) 0 old w h (by rw[ho];rfl) (Cg.one _)
theorem M8{b K:Nat}{cs:Array Value}{w w':World}(h:Fr b w w')(hK:w.heap.size<=K):Fr b w (w'.setRow K cs):=
 ⟨h.os,h.tape,h.output,by rw[size_setRow];exact h.size,λk hk hne=>(setRow_other _ _ _ _ Y).trans (h.block k hk hne)⟩
theorem Ck{b K:Nat}{cs:Array Value}{w:World}(h:aD b w)(hK:b<K):aD b (w.setRow K cs):=h.keep λk hk=>setRow_other _ _ _ _ Y
theorem KR.cells{w:World}{K:Nat}{e:TypeId}{u:KC}(h:w.heap[K]?=some (.cells u.cs.toArray e (0,0))):
  (w.cell? ⟨K,0,none⟩=some (.string u.nm)/\w.cell? ⟨K,1,none⟩=some (.int .i64 u.op)/\w.cell? ⟨K,2,none⟩=some (.slice u.a1 u.n1 u.c1)/\w.cell? ⟨K,3,none⟩=some (.slice u.a2 u.n2 u.c2)/\w.cell? ⟨K,4,none⟩=some (.int .i64 u.mn)/\w.cell? ⟨K,5,none⟩=some (.int .i64 u.mx)/\w.cell? ⟨K,6,none⟩=some (.bool u.wh)/\w.cell? ⟨K,7,none⟩=some (.int .i64 u.ck)/\w.cell? ⟨K,8,none⟩=some (.int .i64 u.en)/\w.cell? ⟨K,9,none⟩=some (.slice u.a3 u.n3 u.c3)/\w.cell? ⟨K,10,none⟩=some (.int .i64 u.nr))/\∀j,w.frozen? ⟨K,j,none⟩=false:=by
 refine ⟨⟨?_,?_,?_,?_,?_,?_,?_,?_,?_,?_,?_⟩,λj=>by simp[World.frozen?,h]⟩ <;> (rw[cell_of_row _ _ _ _ _ _ h]; rfl)
end Go.Proofs.YtdmoogjddmdmbaaGreatDoor
