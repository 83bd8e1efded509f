/- Lemmas. -/
import Derived.Test.YtnibdnahojjcgaaGreatC45
import Derived.Test.YtnibdnahojjcgaaGreatC48
namespace Go.Proofs.YtnibdnahojjcgaaGreat
set_option linter.all false
set_option maxRecDepth 100000
set_option maxHeartbeats 0
open Go.RowKit Tryz
section
attribute [local irreducible] af
def anv(L:List cO):(rC L).length<=120:=by
 unfold rC;rw[lZ,dG];omega
def TJ{L:List cO}(h:∀ e∈L,-9223372036854775808<=e.b):∀ e∈rC L,wG e:=λe he=>by
 obtain⟨y,hy,rfl⟩:=List.mem_map.1 he;have h1:(y.c.chunks.take 12).length<=12:=by rw[dG];omega
 have h2:(y.c.text.take 40).length<=40:=by rw[dG];omega
 exact⟨h y (List.mem_of_mem_take hy),⟨kE h1 qD,kE h2 qD⟩,kE h1 qD⟩
def sO{n k:Nat}(h:decide ((n:Int)<(k:Int))=true):n<k:=by have:=bT h;omega
def abh.e{k:Nat}{x:Sit}(h:abh k x){j:Nat}(hj:j<x.log.length):(x.log.getD j .z).b=[]\/∃ c,(x.log.getD j .z).b=fQ c/\fZ c x.bin:=h.es _ (axB hj)
end
