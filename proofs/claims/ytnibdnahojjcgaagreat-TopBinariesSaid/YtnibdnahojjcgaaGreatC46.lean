/- Lemmas. -/
import Derived.Test.YtnibdnahojjcgaaGreatC40
import Derived.Test.YtnibdnahojjcgaaGreatC44
namespace Go.Proofs.YtnibdnahojjcgaaGreat
set_option linter.all false
set_option maxRecDepth 100000
set_option maxHeartbeats 0
open Go.RowKit Tryz
section
attribute [local irreducible] af
def an7(C:aH)(hl:C.calls.length<=1000)(hc:∀ x∈C.calls,x.c.chunks.length<=1000):af 19 [.ptr 0 0] (CS 3 C) (λv t=>v = .d (ahB C.calls)/\t=CS 3 C):=by
 refine ay Tryz.func19 λX=>?_
 (repeat'(first|((with_reducible refine fP ?_);first|refine rQ (c:=.seq (.region 2 _ _) _) 3 69 (λj k=>.d (wo (([]:List Cal).getD j .z) k)) rfl rfl qN (T.seq ?_)|refine aC ?_|refine dU C.calls.length (λi (a:Unit)=>⟨22,[(0,.ptr 0 0),(3,.row 48 (C.calls.take i).length),(9,.row 4 C.calls.length),(10,iV C.calls.length),(11,iV i)],⟨(48,bQ 69 16 wo .z (C.calls.take i))::CL 3 C,49⟩⟩) (λ_ _=>True) () ?_ True.intro (λi a hi hp=>?_))|((conv=>whnf);first|(with_reducible refine fP ?_)|refine aZ () ⟨?_,tv,?_⟩|refine aO (Zw (C.calls.getD i .z) (hc _ (axB (z:=Cal.z) (l:=C.calls) (i:=i) om))) ?_|refine aj.mk (λh=>?_) (λh=>?_)|refine ag.a ?_|(rw[show C.calls.take i=C.calls from jU om];refine Fin.eG (i:=48) (h:=λj=>wo (C.calls.getD j .z)) (iI.of qN rfl fr) (bM qN qN (vq jB trivial) ?_))|refine ag.mk ?_ ?_)))<;>try exact cls
 all_goals(try(refine leq ?_ ?_ <;> repeat'(first|exact tv|refine an qW ?_|refine an qV ?_|refine an (vq (ah (V.row _) ?_) qN) ?_|refine an ⟨nb rfl,?_⟩ ?_|exact DK rfl|exact zV rfl|exact aW.row rfl fv|exact o8 rfl|refine fB rfl (λk hk=>dR ?_)|refine an ?_ ?_)))
 all_goals(try(repeat'(first|exact tv|refine an ⟨nb rfl,?_⟩ ?_|exact aW.row rfl fv|exact o8 rfl|refine fB rfl (λk hk=>dR ?_))))
 all_goals first|exact rfl|exact kk|(have h9:i<C.calls.length:=om;first|omega|(refine⟨rfl,?_,nb rfl⟩;omega)|(refine⟨rfl,?_⟩;rw[dG];omega)|(intro j hj k hk;rw[kR .z h9];(have hk:k<16:=hk;refine(kU rfl hj fr (λj hj=>?_));obtain rfl:j=0:=Nat.lt_one_iff.1 hj;obtain _|_|_|_|_|_|_|_|_|_|_|_|_|_|_|_|k:=k;exact qV;exact qV;exact qV;exact qV;exact qV;exact qV;exact qV;exact qV;exact qV;exact qV;exact qV;exact qV;exact qV;exact qV;exact qV;exact qV;omega))|(rw[dG,dG];omega))
end
