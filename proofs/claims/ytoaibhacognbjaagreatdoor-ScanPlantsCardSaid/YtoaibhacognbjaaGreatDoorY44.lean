/- Walk: a library of kinds. -/
import Derived.Test.YtoaibhacognbjaaGreatDoorY43
import Derived.Test.YtoaibhacognbjaaGreatDoorY04
import Derived.Test.YtoaibhacognbjaaGreatDoorY33
namespace Go.Proofs.YtoaibhacognbjaaGreatDoor
set_option linter.unusedVariables false
set_option linter.unusedSimpArgs false
set_option maxRecDepth 100000
open Go.RowKit
theorem Pat.form {b:Nat} {w:World}:∀{d m:Nat} {vs:List Value},Pat b w d m vs→∃u:KC,vs=u.pat
 | 0,_,_,h=>h.elim
 | d+1,m,vs,⟨v1,v2,mn,mx,⟨⟨A,a1,a2,e1⟩,⟨B,b1,b2,e2⟩⟩,h⟩=>by
  subst e1 e2;have:∃o:Int,vs=[.int .i64 o, .slice A a1 a2, .slice B b1 b2, .int .i64 mn, .int .i64 mx]:=by
   rcases h with ⟨h1,-⟩ | ⟨h1,-⟩ | ⟨h1,-⟩ | ⟨h1,-⟩ <;> exact ⟨_,h1⟩
  obtain ⟨o,rfl⟩:=this;exact ⟨⟨ByteArray.empty,o,A,a1,a2,B,b1,b2,mn,mx,false,0,0,none,0,0,0⟩,rfl⟩
theorem KdV.kcs {b:Nat} {w:World} {n d m c g:Nat} (h:KdV b w (Pat b w d m) n (.slice (some ⟨g,0,none⟩) n c)):∃V:Nat→KC,b<g∧g<w.heap.size∧
  (∀j,j<n→w.cell? ⟨g,j*5,none⟩=some (.int .i64 (V j).op))∧(∀j,j<n→w.cell? ⟨g,j*5+1,none⟩=some (.slice (V j).a1 (V j).n1 (V j).c1))∧(∀j,j<n→w.cell? ⟨g,j*5+2,none⟩=some (.slice (V j).a2 (V j).n2 (V j).c2))∧(∀j,j<n→w.cell? ⟨g,j*5+3,none⟩=some (.int .i64 (V j).mn))∧(∀j,j<n→w.cell? ⟨g,j*5+4,none⟩=some (.int .i64 (V j).mx))∧
  (∀j,j<n→Pat b w d m (V j).pat):=by
 obtain ⟨g',f,c',hv,h1,h2,h3,h5⟩:=h;injection hv with e1 e2 e3;injection e1 with e1;injection e1 with e1 e4;subst e1 e4;have h6:∀j,∃u:KC,j<n→(w.cell? ⟨g,j*5,none⟩=some (.int .i64 u.op)∧w.cell? ⟨g,j*5+1,none⟩=some (.slice u.a1 u.n1 u.c1)∧w.cell? ⟨g,j*5+2,none⟩=some (.slice u.a2 u.n2 u.c2)∧w.cell? ⟨g,j*5+3,none⟩=some (.int .i64 u.mn)∧w.cell? ⟨g,j*5+4,none⟩=some (.int .i64 u.mx)∧Pat b w d m u.pat):=by
  intro j;by_cases hj:j<n
  ·obtain ⟨u0,u1,u2,u3,u4,q0,q1,q2,q3,q4,hp⟩:=h5 j hj;obtain ⟨u,hu⟩:=hp.form;rw[hu]at hp;simp only[KC.pat,List.cons.injEq,and_true]at hu;obtain ⟨rfl,rfl,rfl,rfl,rfl⟩:=hu;rw[Nat.zero_add]at q0 q1 q2 q3 q4;exact ⟨u,fun _=>⟨q0,q1,q2,q3,q4,hp⟩⟩
  ·exact ⟨⟨ByteArray.empty,0,none,0,0,none,0,0,0,0,false,0,0,none,0,0,0⟩,fun h=>absurd h hj⟩
 obtain ⟨V,hV⟩:=Classical.axiomOfChoice h6;exact ⟨V,h1,h2,fun j hj=>(hV j hj).1,fun j hj=>(hV j hj).2.1,fun j hj=>(hV j hj).2.2.1,fun j hj=>(hV j hj).2.2.2.1,fun j hj=>(hV j hj).2.2.2.2.1,fun j hj=>(hV j hj).2.2.2.2.2⟩
def ZK (e:TypeId):Obj:=.cells #[.string ByteArray.empty, .int .i64 0, .slice none 0 0, .slice none 0 0, .int .i64 0, .int .i64 0, .bool false, .int .i64 0, .int .i64 0, .slice none 0 0, .int .i64 0] e (0,0)
theorem info_kind:(Tryz.prog.info? 34).map (fun i=>(i.zero,i.size,i.bytes))=some (some (.agg #[.string ⟨#[]⟩, .int .i64 0, .slice none 0 0, .slice none 0 0, .int .i64 0, .int .i64 0, .bool false, .int .i64 0, .int .i64 0, .slice none 0 0, .int .i64 0]),11,144):=by kernel_rfl
end Go.Proofs.YtoaibhacognbjaaGreatDoor
