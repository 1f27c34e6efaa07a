/- scan.Finders: the finders of a library, or its first error. -/
import Derived.Deep.RegionHeld3
import Derived.Deep.AppendLies
import Derived.Test.YtadjdkickjjieaaGreatDoorY26
import Derived.Test.YtadjdkickjjieaaGreatDoorY29
namespace Go.Proofs.YtadjdkickjjieaaGreatDoor
set_option linter.unusedVariables false
set_option linter.unusedSimpArgs false
set_option maxRecDepth 100000
open Go.RowKit
def zNJ (x:KC×M2):List Value:=[.string x.1.nm, .int .i64 x.1.op, .slice x.1.a1 x.1.n1 x.1.c1, .slice x.1.a2 x.1.n2 x.1.c2, .int .i64 x.1.mn, .int .i64 x.1.mx, .bool x.1.wh, .int .i64 x.1.ck, .int .i64 x.1.en, .slice x.1.a3 x.1.n3 x.1.c3, .int .i64 x.1.nr, .slice x.2.a1 x.2.n1 x.2.c1, .slice x.2.a2 x.2.n2 x.2.c2]
def zNK (w:World) (v:Value) (fs:List (KC×M2)) (ms:List Mc):Prop:=fs.length=ms.length/\∃A c,v = .slice A fs.length c/\(fs.length<=c/\c<=9223372036854775807)/\(fs=[]\/∃g f,A=some ⟨g,f,none⟩/\g<w.heap.size/\∀i (h:i<fs.length),∀j,j<13->w.cell? ⟨g,f+i*13+j,none⟩=(zNJ fs[i])[j]?)/\
 ∀i (h1:i<fs.length) (h2:i<ms.length),McIn w fs[i].2.val ms[i]
def zNl (us:List KC) (ks:List Kn) (w:World) (e:Ending) (w':World):Prop:=Below w.heap.size w w'/\∃er ms,LaA ks er ms/\((er≠0/\e = .returned (.tuple #[.slice none 0 0, .int .i64 er]))\/
 (er=0/\∃v fs,e = .returned (.tuple #[v, .int .i64 0])/\zNK w' v fs ms/\fs.map Prod.fst=us))
end Go.Proofs.YtadjdkickjjieaaGreatDoor
