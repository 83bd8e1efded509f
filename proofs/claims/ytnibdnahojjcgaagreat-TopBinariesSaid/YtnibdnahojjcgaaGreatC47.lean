/- Lemmas. -/
import Derived.Test.YtnibdnahojjcgaaGreatC44
namespace Go.Proofs.YtnibdnahojjcgaaGreat
set_option linter.all false
set_option maxRecDepth 100000
set_option maxHeartbeats 0
open Go.RowKit Tryz
section
attribute [local irreducible] af
def pbN:Nat->Nat
 |0=>0|j+1=>12+9*j
def au1(i:Nat):Nat->V
 |0=>.row 8 i|1=>.ptr 9 0|2=>.dC|_=>iV 0
def auZ:Nat->V
 |0=>.vw 10 0 0 0|_=>iV 0
def nbs(k:Nat):Nat->List (Nat×aK)
 |0=>[]|r+1=>nbs k r++yl (pbN r) (Vq r k)
def Qm(k r:Nat):AS:=⟨48,[(0,iV k),(6,.ptr 11 0),(7,iV r)],⟨[(11,.Wp 4 (au1 r)),(8,.row 76 1 r (λj _=>.ptr (pbN j) 0)),(9,.Wp 4 auZ),(10,uT (kH aaV))]++nbs k r,9*r+3⟩⟩
def rnb:Nat->List Nat
 |0=>[]|r+1=>rnb r++List.range' (pbN r) 8
def nwz {p:Prop}(h:p:=by
 refine ay Tryz.func16 λX=>?_
 (repeat'(first|((with_reducible refine fP ?_);first|refine uN (c:=.ret) 11 2 69 (λj k=>.d (wo (([]:List Cal).getD j .z) k)) rfl rfl qN rfl qN (T.EX (11::8::9::10::(9*lM+3)::(List.range' 1000 19++rnb lM)) ⟨48,[(2,.ptr 0 0),(3,iV 0)],CS lM (qp lM)⟩ ⟨rfl,rfl,rfl,rfl,?_,⟨qW,qV,tv⟩⟩ (T.ret ?_))|refine BN ?_|refine aC ?_)|((conv=>whnf);first|(with_reducible refine fP ?_)|refine TL.le (Qm lM 1) ⟨rfl,cZ _,nb rfl,⟨qV,qW,qV,tv⟩,?_⟩ (TL.round ?_)|refine TL.le (Qm lM 2) ⟨rfl,cZ _,nb rfl,⟨qV,qW,qV,tv⟩,?_⟩ (TL.round ?_)|refine TL.le (Qm lM 3) ⟨rfl,cZ _,nb rfl,⟨qV,qW,qV,tv⟩,?_⟩ (TL.round ?_)|refine TL.le (Qm lM 4) ⟨rfl,cZ _,nb rfl,⟨qV,qW,qV,tv⟩,?_⟩ (TL.round ?_)|refine TL.le (Qm lM 5) ⟨rfl,cZ _,nb rfl,⟨qV,qW,qV,tv⟩,?_⟩ (TL.round ?_)|refine Q3 (as2 _ lM (by decide) (by decide)) ⟨VW.refl tv,VW.refl tv,tv⟩ ?_|refine Q3 asQ tv ?_|refine aj.n (λh=>?_)|refine lq (λh=>?_)|refine ag.a ?_|refine bM qN qN (fH [.ptr 0 0,iV 0] rfl fr ⟨qW,qV,tv⟩) ?_)))<;>try exact cls
 all_goals(try(repeat'(first|exact tv|refine an ⟨_,rfl,?_⟩ ?_|refine an ⟨nb rfl,?_⟩ ?_|exact DK rfl|exact zV rfl|exact aW.row rfl fv|refine aW.row rfl (λj hj k hk=>dR ?_)|refine fB rfl (λk hk=>dR ?_))))
 all_goals first|exact kk|(have hk:k<1:=hk;obtain rfl:k=0:=Nat.lt_one_iff.1 hk;have hj:j<_:=hj;obtain _|_|_|_|_|j:=j <;> first|exact cm qW|(exfalso;revert hj;exact Nat.not_lt_of_le (Nat.le_add_left _ _))|(exfalso;revert hj;decide))|fail):p:=h
section
open K3
def af0:af 16 [iV 3] e0 (λv t=>v=bI [.ptr 0 0,iV 0]/\t=CS 3 (qp 3)):=nwz
end
section
open K4
def arI:af 16 [iV 4] e0 (λv t=>v=bI [.ptr 0 0,iV 0]/\t=CS 4 (qp 4)):=nwz
end
section
open K5
def arH:af 16 [iV 5] e0 (λv t=>v=bI [.ptr 0 0,iV 0]/\t=CS 5 (qp 5)):=nwz
end
end
