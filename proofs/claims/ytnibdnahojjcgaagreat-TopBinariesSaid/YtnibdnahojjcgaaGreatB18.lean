/- A part of the proof. -/
import Derived.Test.YtnibdnahojjcgaaGreatB08
import Derived.Test.YtnibdnahojjcgaaGreatB09
import Derived.Test.YtnibdnahojjcgaaGreatB15
namespace Go.Proofs.YtnibdnahojjcgaaGreat
set_option maxRecDepth 100000
set_option maxHeartbeats 16000000
set_option linter.unusedVariables false
set_option linter.unusedSimpArgs false
open Go.RowKit
theorem atM(x:List UInt8)(h:0<x.length/\x.length<=4096):aQ 139 [.d (dB x)] (bQ [.d (dB (rD x)),iV 0]):=
 ae.data (xy Tryz.func139 rfl rfl) λG w us hF hl hv=>by
  obtain⟨u,rfl,h1⟩:=FN (P:=λ_ v u=>aO G e0.get w v u) hl hv;obtain⟨A,n,c,rfl,q1,q2,q3,q4⟩:=Jn h1;have hf:fp x=(rD x,0):=by unfold fp;rw[if_neg qO]
  refine(auW A x n c w q1 qO q4).mono λe w' ⟨A',c',r1,r2,r3⟩=>?_
  rw[hf]at r1 r2;exact⟨_,r1,r3,⟨_,rfl,rfl,λk x hx=>by
   match k,hx with
   |0,hx=>obtain rfl:=fG hx;exact Wp r2
   |1,hx=>obtain rfl:=fG hx;rfl
   |k+2,hx=>simp at hx⟩⟩
theorem avi(b:List UInt8)(hb:b.length<=1000000):aQ 100 [.d (dB b)] (bQ [.d (dB (jL b).1),iV (jL b).2.1,iV (jL b).2.2]):=
 ae.data (xy Tryz.func100 rfl rfl) λG w us hF hl hv=>by
  obtain⟨u,rfl,h1⟩:=FN (P:=λ_ v u=>aO G e0.get w v u) hl hv;obtain⟨A,n,c,rfl,q1,q2,q3,q4⟩:=Jn h1;refine(auR A b n c w q1 q2 qO q4).mono λe w' ⟨A',c',r1,r2,r3⟩=>?_
  exact⟨_,r1,r3,⟨_,rfl,rfl,λk x hx=>by
   match k,hx with
   |0,hx=>obtain rfl:=fG hx;exact Wp r2
   |1,hx=>obtain rfl:=fG hx;rfl
   |2,hx=>obtain rfl:=fG hx;rfl
   |k+3,hx=>simp at hx⟩⟩
end Go.Proofs.YtnibdnahojjcgaaGreat
