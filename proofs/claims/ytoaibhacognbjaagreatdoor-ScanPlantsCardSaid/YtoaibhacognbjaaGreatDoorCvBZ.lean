/- scan.Covers at matches as plain values: the numbers of those that contain a place. -/
import Derived.Test.YtoaibhacognbjaaGreatDoorY40
import Derived.Test.YtoaibhacognbjaaGreatDoorY04
import Derived.Test.YtoaibhacognbjaaGreatDoorY02
import Derived.Test.YtoaibhacognbjaaGreatDoorY01
import Derived.Test.YtoaibhacognbjaaGreatDoorY25
import Derived.Test.YtoaibhacognbjaaGreatDoorY05
import Derived.Test.YtoaibhacognbjaaGreatDoorY15
import Derived.Test.YtoaibhacognbjaaGreatDoorY49
import Derived.Test.YtoaibhacognbjaaGreatDoorY27
import Derived.Test.YtoaibhacognbjaaGreatDoorY21
import Derived.Test.YtoaibhacognbjaaGreatDoorY16
import Derived.Test.YtoaibhacognbjaaGreatDoorY14
import Derived.Test.YtoaibhacognbjaaGreatDoorY12
import Derived.Test.YtoaibhacognbjaaGreatDoorY10
import Derived.Test.YtoaibhacognbjaaGreatDoorY08
import Derived.Test.YtoaibhacognbjaaGreatDoorY07
import Derived.Test.YtoaibhacognbjaaGreatDoorY06
import Derived.Test.YtoaibhacognbjaaGreatDoorY09
import Derived.Test.YtoaibhacognbjaaGreatDoorY11
import Derived.Test.YtoaibhacognbjaaGreatDoorY13
import Derived.Test.YtoaibhacognbjaaGreatDoorY26
import Derived.Test.YtoaibhacognbjaaGreatDoorY19
import Derived.Test.YtoaibhacognbjaaGreatDoorY18
namespace Go.Proofs.YtoaibhacognbjaaGreatDoor
set_option linter.unusedVariables false
set_option linter.unusedSimpArgs false
set_option maxRecDepth 100000
open Go.RowKit
def cvQ (l:List Mt) (p:Int) (i:Nat):Bool:=match l[i]? with | none=>false | some m=>decide ((m.f:Int)≤p) && decide (p<(m.t:Int))
def covQ (l:List Mt) (p:Int) (k:Nat):List Nat:=(List.range k).filter (cvQ l p)
theorem covQ_succ (l:List Mt) (p:Int) (k:Nat):covQ l p (k+1)=covQ l p k++if cvQ l p k then [k] else []:=by
 unfold covQ;rw[List.range_succ,List.filter_append]
 congr 1
 cases h:cvQ l p k <;> simp[h]
theorem covQ_len (l:List Mt) (p:Int) (k:Nat):(covQ l p k).length≤k:=by
 unfold covQ;have:=List.length_filter_le (cvQ l p) (List.range k);simpa using this
theorem info_int9:(Tryz.prog.info? 3).map (fun i=>(i.zero,i.size,i.bytes))=some (some (.int .i64 0),1,8):=by kernel_rfl
theorem rowF_in_snoc2 (o:List Nat) (k:Nat):rowF inC (o++[k])=rowF inC o++[.int .i64 (k:Int)]:=by rw[rowF_app,rowF_single];rfl
set_option maxHeartbeats 8000000 in
theorem coversQ_any (v:Value) (l:List Mt) (p:Int) (w:World) (h:MtIn w v l) (hl:l.length≤1000000):Calls Tryz.prog 25 #[v, .int .i64 p] w fun e w'=>∃rv,e = .returned rv∧OR 3 1 inC w.heap.size rv (covQ l p l.length) w'∧Below w.heap.size w w':=by
 obtain ⟨ii,hii,hj0,hj1,hj2⟩:=info_parts info_int9;obtain ⟨A,c,rfl,⟨hc1,hc2⟩,hor⟩:=h;obtain ⟨n,hn⟩:∃n,l.length=n:=⟨_,rfl⟩;have HL:=Lib.hid (And.intro hn hor);rw[hn]at hc1 hl⊢;clear hn hor
 go_enter Tryz.func25,Tryz.ntmps25
 go_wp2_with fail
 go_loopw [10,5] (fun kv ov wr=>∃(k:Nat) (Ao:Option Addr) (no co:Nat),kv = .int .i64 (k:Int)∧k≤n∧ov = .slice Ao no co∧(covQ l p k).length=no∧Hid (OR 3 1 inC w.heap.size (.slice Ao no co) (covQ l p k) wr∧Below w.heap.size w wr)) (fun kv _ _=>n - (intOf kv).toNat)
 case atStart=>exact ⟨0,none,0,0,rfl,Nat.zero_le _,rfl,rfl,OR.nil_ _ _ _,Below.refl _ _⟩
 case round=>
  obtain ⟨k,Ao,no,co,rfl,hk,rfl,hno,HO⟩:=hrel;have HOR:=Lib.hid HO.out.1;have HB:=Lib.hid HO.out.2;have HNO:=Lib.hid hno;have hnok:no≤k:=by rw[←hno];exact covQ_len l p k
  clear hno HO;by_cases hlt:k<n
  ·have hd:decide ((k:Int)<(n:Int))=true:=decide_eq_true (by omega)
   have hdn:decide (k<n)=true:=decide_eq_true hlt;have hkl:k<l.length:=by rw[HL.out.1];exact hlt
   obtain ⟨g,f,hA,hg,hcs⟩:=HL.out.2.resolve_left (by intro e;rw[e]at hkl;cases hkl)
   subst hA;have q0:=hcs k hkl 0 (by decide)
   have q1:=hcs k hkl 1 (by decide)
   have q2:=hcs k hkl 2 (by decide)
   obtain ⟨⟨nk,nf,nt⟩,hm⟩:∃m,l[k]=m:=⟨_,rfl⟩;rw[hm]at q0 q1 q2;obtain ⟨mk,hmk⟩:∃x:Int,(nk:Int)=x:=⟨_,rfl⟩;obtain ⟨mf,hmf⟩:∃x:Int,(nf:Int)=x:=⟨_,rfl⟩;obtain ⟨mt,hmt⟩:∃x:Int,(nt:Int)=x:=⟨_,rfl⟩;have q0:w.cell? ⟨g,f+k*3,none⟩=some (.int .i64 mk):=by rw[←hmk];exact q0
   have q1:w.cell? ⟨g,f+k*3+1,none⟩=some (.int .i64 mf):=by rw[←hmf];exact q1
   have q2:w.cell? ⟨g,f+k*3+2,none⟩=some (.int .i64 mt):=by rw[←hmt];exact q2
   have r0:=(HB.out.cell (p:=⟨g,f+k*3,none⟩) hg).trans q0;have r1:=(HB.out.cell (p:=⟨g,f+k*3+1,none⟩) hg).trans q1;have r2:=(HB.out.cell (p:=⟨g,f+k*3+2,none⟩) hg).trans q2;have hwz0:=HB.out.size;have lg:g<wr.heap.size:=by omega
   have hcv:cvQ l p k=(decide (mf≤p) && decide (p<mt)):=by unfold cvQ;rw[List.getElem?_eq_getElem hkl,hm];simp only[hmf,hmt]
   obtain ⟨ro,hro⟩:∃r,rowF inC (covQ l p k)=r:=⟨_,rfl⟩;have HRO:=Lib.hid hro;have hown:wr.ownsRow w.heap.size 3 1 (.slice Ao no co) no ro:=by
    have h9:wr.ownsRow w.heap.size 3 1 (.slice Ao no co) (covQ l p k).length (rowF inC (covQ l p k)):=HOR.out;rw[HNO.out,hro]at h9;exact h9
   have hsc:=covQ_succ l p k;rw[hcv]at hsc;clear q0 q1 q2 hcs hm hkl hro hcv hmk hmf hmt;by_cases h1:mf≤p
   ·have d1:decide (mf≤p)=true:=decide_eq_true h1;by_cases h2:p<mt
    ·have d2:decide (p<mt)=true:=decide_eq_true h2;have HSC:=Lib.hid (show covQ l p (k+1)=covQ l p k++[k] by rw[hsc,d1,d2];rfl)
     clear hsc;have hwz:((wr.alloc (.cells #[.int .i64 mk, .int .i64 mf, .int .i64 mt] 61))).heap.size=wr.heap.size+1:=by simp
     have hownA:(((wr.alloc (.cells #[.int .i64 mk, .int .i64 mf, .int .i64 mt] 61))).alloc (.cells #[.int .i64 (k:Int)] 3)).ownsRow w.heap.size 3 1 (.slice Ao no co) no ro:=World.ownsRow.alloc (own_later hown ((Below.refl wr.heap.size wr).alloc (Nat.le_refl _) _)) _;have hcx:∀j u,([.int .i64 (k:Int)]:List Value)[j]?=some u→(((wr.alloc (.cells #[.int .i64 mk, .int .i64 mf, .int .i64 mt] 61))).alloc (.cells #[.int .i64 (k:Int)] 3)).cell? ((⟨wr.heap.size+1,0,none⟩:Addr).add j)=some u:=fun j u hj=>by
      match j,hj with
      | 0,hj=>
       simp at hj;have h9:=heap_alloc_new ((wr.alloc (.cells #[.int .i64 mk, .int .i64 mf, .int .i64 mt] 61))) (.cells #[.int .i64 (k:Int)] 3);rw[hwz]at h9;rw[←hj,Addr.add_lit,cell_of_row _ _ _ _ _ _ h9];rfl
     have hbz:w.heap.size≤(((wr.alloc (.cells #[.int .i64 mk, .int .i64 mf, .int .i64 mt] 61))).alloc (.cells #[.int .i64 (k:Int)] 3)).heap.size:=by simp;omega
     go_wp2_with (at_builtin;refine appI_at rfl _ _ 22 rfl w.heap.size 3 ii _ 1 8 Tryz.underlying22 hii hj0 hj1 hj2 rfl (by decide) _ no ro rfl hownA ⟨wr.heap.size+1,0,none⟩ 1 1 [.int .i64 (k:Int)] rfl rfl hcx (by intro u hu;simp at hu;subst hu;rfl) (by unfold maxLen;omega) (by omega) hbz ?_)
     intro v9 w9 hown9 hg9 hf9;obtain ⟨A9,c9,rfl,-,-⟩:=own_form hown9;have hB9:Below w.heap.size w w9:=(HB.out.trans (((((Below.refl wr.heap.size wr).alloc (Nat.le_refl _) _)).alloc (by simp) (.cells #[.int .i64 (k:Int)] 3)).mono HB.out.size)).grown hg9 (by have:=HB.out.size;simp;omega) (fun q hq=>(hownA.lt q hq).1)
     have hO9:OR 3 1 inC w.heap.size (.slice A9 (no+1) c9) (covQ l p (k+1)) w9:=by
      show w9.ownsRow _ _ _ _ _ _;rw[HSC.out,List.length_append,rowF_in_snoc2,HRO.out,HNO.out];exact hown9
     have HO9:=Lib.hid (And.intro hO9 hB9);clear hown9 hg9 hf9 hB9 hO9 hownA hcx hbz hwz;go_wp2_with fail;go_roundw
     case rel=>exact ⟨k+1,_,_,_,by go_num,by omega,rfl,by rw[HSC.out,List.length_append,HNO.out];rfl,HO9⟩
     case measure=>simp[intOf];omega
    ·have d2:decide (p<mt)=false:=decide_eq_false h2;have HSC:=Lib.hid (show covQ l p (k+1)=covQ l p k++[] by rw[hsc,d1,d2];rfl)
     clear hsc;have HO9:Hid (OR 3 1 inC w.heap.size (.slice Ao no co) (covQ l p (k+1)) (wr.alloc (.cells #[.int .i64 mk, .int .i64 mf, .int .i64 mt] 61))∧Below w.heap.size w (wr.alloc (.cells #[.int .i64 mk, .int .i64 mf, .int .i64 mt] 61))):=⟨by rw[HSC.out,List.append_nil];exact OR.later HOR.out ((Below.refl wr.heap.size wr).alloc (Nat.le_refl _) _),HB.out.trans ((((Below.refl wr.heap.size wr).alloc (Nat.le_refl _) _)).mono HB.out.size)⟩
     go_wp2_with fail;go_roundw
     case rel=>exact ⟨k+1,_,_,_,by go_num,by omega,rfl,by rw[HSC.out,List.append_nil,HNO.out],HO9⟩
     case measure=>simp[intOf];omega
   ·have d1:decide (mf≤p)=false:=decide_eq_false h1;have HSC:=Lib.hid (show covQ l p (k+1)=covQ l p k++[] by rw[hsc,d1];rfl)
    clear hsc;have HO9:Hid (OR 3 1 inC w.heap.size (.slice Ao no co) (covQ l p (k+1)) (wr.alloc (.cells #[.int .i64 mk, .int .i64 mf, .int .i64 mt] 61))∧Below w.heap.size w (wr.alloc (.cells #[.int .i64 mk, .int .i64 mf, .int .i64 mt] 61))):=⟨by rw[HSC.out,List.append_nil];exact OR.later HOR.out ((Below.refl wr.heap.size wr).alloc (Nat.le_refl _) _),HB.out.trans ((((Below.refl wr.heap.size wr).alloc (Nat.le_refl _) _)).mono HB.out.size)⟩
    go_wp2_with fail;go_roundw
    case rel=>exact ⟨k+1,_,_,_,by go_num,by omega,rfl,by rw[HSC.out,List.append_nil,HNO.out],HO9⟩
    case measure=>simp[intOf];omega
  ·obtain rfl:k=n:=by omega
   have hd:decide ((k:Int)<(k:Int))=false:=decide_eq_false (by omega)
   have hdn:decide (k<k)=false:=decide_eq_false (by omega)
   go_wp2_with fail;go_ret;exact ⟨_,rfl,HOR.out,HB.out⟩
theorem int_row_at2 {B:Nat} {A:Option Addr} {n c:Nat} {R:List Nat} {w:World} {p:Nat} (h:OR 3 1 inC B (.slice A n c) R w) (hp:p<R.length):∃g,A=some ⟨g,0,none⟩∧g<w.heap.size∧w.cell? ⟨g,p,none⟩=some (.int .i64 ((R[p]:Nat):Int)):=by
 obtain ⟨A',c',e,-,hor⟩:=h.cells inC_E;injection e with e1 e2 e3;obtain ⟨g,hA,-,hg,hcs⟩:=hor.resolve_left (by intro e;rw[e]at hp;simp at hp)
 refine ⟨g,e1.trans hA,hg,?_⟩;have:=(hcs p hp 0 (by decide)).1
 rw[Nat.mul_one,Nat.add_zero]at this;rw[this];rfl
theorem covQ_mem {l:List Mt} {p:Int} {i:Nat} (hi:i<l.length) (h:cvQ l p i=true):∃a r,covQ l p l.length=a::r∧a≤i:=by
 have hm:i∈covQ l p l.length:=List.mem_filter.2 ⟨List.mem_range.2 hi,h⟩;have hs:(covQ l p l.length).Pairwise (·<·):=List.Pairwise.filter _ List.pairwise_lt_range
 cases hq:covQ l p l.length with
 | nil=>rw[hq]at hm;cases hm
 | cons a r=>
  rw[hq]at hm hs;refine ⟨a,r,rfl,?_⟩;rcases List.mem_cons.1 hm with e | hm
  ·omega
  ·exact Nat.le_of_lt ((List.pairwise_cons.1 hs).1 i hm)
end Go.Proofs.YtoaibhacognbjaaGreatDoor
