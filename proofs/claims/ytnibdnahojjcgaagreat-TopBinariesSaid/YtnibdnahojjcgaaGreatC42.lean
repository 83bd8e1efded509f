/- Lemmas. -/
import Derived.Test.YtnibdnahojjcgaaGreatC39
namespace Go.Proofs.YtnibdnahojjcgaaGreat
set_option linter.all false
set_option maxRecDepth 100000
set_option maxHeartbeats 0
open Go.RowKit Tryz
section
attribute [local irreducible] af
def anK(k N M:Nat)(hk:(k=3/\N=48/\M=50)\/(k=4/\N=56/\M=58)\/(k=5/\N=64/\M=66))(C C1:aH)(e:cO)(R R1:List (Nat×aK))(hT:Tl k N R)(hT1:Tl k M (oO N e R1))(r:Int)(hdef:yf hT1 C1)(hkd:e.kind≠1/\e.kind≠2/\e.kind≠3/\e.kind≠4/\e.kind≠5/\e.kind≠6/\e.kind≠7/\e.kind≠8/\e.kind≠9)(hr:1=r)(hC:C=C1)(hR:R=R1):af 8 [.ptr 0 0,oL e] (hT.cs C) (λv t=>v=iV 1/\t=hT1.m3 (lC C)):=by
 subst hr hC hR;obtain⟨rfl,rfl,rfl⟩|⟨rfl,rfl,rfl⟩|⟨rfl,rfl,rfl⟩:=hk
 all_goals refine af.defer (fd:=20) (n:=1) (mD:=λ_=>hT.b0) (xh:=f20) (cD:=Iz f20) (sL:=hT.sl C e) (f:=8) func8 rfl rfl qN (λX=>?_) rfl rfl rfl rfl rfl rfl rfl func20 rfl rfl qN (λX4 X'=>?_)
 all_goals repeat'(first|((with_reducible refine fP ?_);first|refine T.cut (x:=.region 10 _ _) ⟨65,[(6,.d (.v .nilFunc)),(2,hT.b0),(3,hT.b1),(4,iV 0)],hT.bx C e⟩ ?_ ?_|refine aC ?_)|((conv=>whnf);first|(with_reducible refine fP ?_)|refine wK ?_|refine aZ (.b false) (fM (λht=>ai ht (by decide)) ?_)|refine aj.n (λh=>?_)|refine an (rfl:Exit.normal=Exit.normal) ?_|refine aZ ⟨65,[(4,iV 1)],hT1.m2 C⟩ (aZ (hT1.m2 (lC C)) ⟨?_,λk hk=>vq rfl qN,hdef,?_⟩)|refine lq (λh=>?_)|refine ag.a ?_|refine bM qN qN qV ?_))
 all_goals try exact cls
 all_goals(try(refine leq ?_ ?_ <;> repeat'(first|exact tv|exact pq 7 hT rfl rfl rfl|exact pq 8 hT rfl rfl rfl|exact qW|refine an qW ?_|refine an qV ?_|refine an ⟨nb rfl,?_⟩ ?_|exact aW.row rfl fv|exact o8 rfl|refine fB rfl (λk hk=>dR ?_)|refine gX ?_|refine an ?_ ?_)))
 all_goals(try(repeat'(first|exact pq 7 hT rfl rfl rfl|refine an ⟨nb rfl,?_⟩ ?_|exact aW.row rfl fv|exact o8 rfl|refine fB rfl (λk hk=>dR ?_))))
 all_goals first|exact cm qV|exact kk
def IW.mk{p q:Prop}(h:p)(hq:q):q:=hq
def ava{x:Int}(h1:decide ((1:Int)=x)=false)(h2:decide ((2:Int)=x)=false)(h6:decide ((6:Int)=x)=false)(h7:decide ((7:Int)=x)=false)(h8:decide ((8:Int)=x)=false)(h9:decide ((9:Int)=x)=false):¬(x=1\/x=2\/x=6\/x=7\/x=8\/x=9):=by
 have h1:=bV h1;have h2:=bV h2;have h6:=bV h6;have h7:=bV h7;have h8:=bV h8;have h9:=bV h9;omega
def anL(k N M:Nat)(hk:(k=3/\N=48/\M=50)\/(k=4/\N=56/\M=58)\/(k=5/\N=64/\M=66))(C C1:aH)(e:cO)(R R1:List (Nat×aK))(hT:Tl k N R)(hT1:Tl k M (oO N e R1))(r:Int)(hdef:yf hT1 C1)(hkd:e.kind=1\/e.kind=2\/e.kind=6\/e.kind=7\/e.kind=8\/e.kind=9)(hth:af 38 [.ptr 0 0,iV e.a] (hT.bx C e) (λv t=>v = .b (l9 k e.a)/\t=hT.bx C e))(hf:l9 k e.a=false)(hr:1=r)(hC:C=C1)(hR:R=R1):af 8 [.ptr 0 0,oL e] (hT.cs C) (λv t=>v=iV 1/\t=hT1.m3 (lC C)):=by
 subst hr hC hR;obtain⟨rfl,rfl,rfl⟩|⟨rfl,rfl,rfl⟩|⟨rfl,rfl,rfl⟩:=hk
 all_goals refine af.defer (fd:=20) (n:=1) (mD:=λ_=>hT.b0) (xh:=f20) (cD:=Iz f20) (sL:=hT.sl C e) (f:=8) func8 rfl rfl qN (λX=>?_) rfl rfl rfl rfl rfl rfl rfl func20 rfl rfl qN (λX4 X'=>?_)
 all_goals repeat'(first|((with_reducible refine fP ?_);first|refine ZY (x:=.region 10 _ _) (λa:Nat×Nat×(Nat->V)=>⟨65,[(6,.fn a.1 0 a.2.1 a.2.2),(2,hT.b0),(3,hT.b1),(4,iV 0)],hT.bx C e⟩) (λ_=>True) ?_ (λa ha=>?_)|refine aC ?_)|((conv=>whnf);first|(with_reducible refine fP ?_)|refine wK ?_|refine aZ _ (fM (λht=>af.to hth ⟨rfl,rfl⟩) ?_)|(refine IW.mk (p:=decide ((1:Int)=e.kind)=true) ?_ ?_;(exact jc);refine aZ (22,1,(λ_=>hT.b0)) ⟨tv,?_⟩)|(refine IW.mk (p:=decide ((2:Int)=e.kind)=true) ?_ ?_;(exact jc);refine aZ (25,1,(λ_=>hT.b0)) ⟨tv,?_⟩)|(refine IW.mk (p:=decide ((6:Int)=e.kind)=true) ?_ ?_;(exact jc);refine aZ (27,2,(λj=>match j with|0=>hT.b0|_=>hT.b1)) ⟨tv,?_⟩)|(refine IW.mk (p:=decide ((9:Int)=e.kind)=true) ?_ ?_;(exact jc);refine aZ (29,1,(λ_=>hT.b1)) ⟨tv,?_⟩)|(refine IW.mk (p:=decide ((7:Int)=e.kind)=true) ?_ ?_;(exact jc);refine aZ (31,1,(λ_=>hT.b1)) ⟨tv,?_⟩)|(refine IW.mk (p:=decide ((8:Int)=e.kind)=true) ?_ ?_;(exact jc);refine aZ (33,1,(λ_=>hT.b1)) ⟨tv,?_⟩)|(refine IW.mk (p:=decide ((1:Int)=e.kind)=false) ?_ ?_;(exact jc);exact ai hkd (ava aG aG aG aG aG aG))|refine aj.mk (λh=>?_) (λh=>ai (hf.symm.trans (by simpa using h)) (by decide))|refine aj.n (λh=>?_)|refine an (rfl:Exit.normal=Exit.normal) ?_|refine aZ ⟨65,[(4,iV 1)],hT1.m2 C⟩ (aZ (hT1.m2 (lC C)) ⟨?_,λk hk=>vq rfl qN,hdef,?_⟩)|refine aj.mk (λh=>?_) (λh=>?_)|refine ag.a ?_|refine bM qN qN qV ?_))
 all_goals try exact cls
 all_goals(try(refine leq ?_ ?_ <;> repeat'(first|exact tv|exact pq 7 hT rfl rfl rfl|exact pq 8 hT rfl rfl rfl|exact qW|refine an qW ?_|refine an qV ?_|refine an ⟨nb rfl,?_⟩ ?_|exact aW.row rfl fv|exact o8 rfl|refine fB rfl (λk hk=>dR ?_)|refine gX ?_|refine an ?_ ?_)))
 all_goals(try(repeat'(first|exact pq 7 hT rfl rfl rfl|refine an ⟨nb rfl,?_⟩ ?_|exact aW.row rfl fv|exact o8 rfl|refine fB rfl (λk hk=>dR ?_))))
 all_goals first|exact cm qV|exact kk
end
section
attribute [local irreducible] af
def agc{P:Nat->Prop}{i:Nat}(h:i<16):je P (iM 58 i):=by
 obtain _|_|_|_|_|_|_|_|_|_|_|_|_|_|_|_|i:=i
 all_goals first|exact tv|omega
def arE(k N:Nat)(hk:(k=3/\N=48)\/(k=4/\N=56)\/(k=5/\N=64))(C:aH)(R:List (Nat×aK))(hT:Tl k N R)(A:Nat)(hA:A<k)(hpx:8*A+24<N)(x:Sit)(hth:af 38 [.ptr 0 0,iV (A:Int)] (hT.cs C) (λv t=>v = .b true/\t=hT.cs C))(hlk:af 43 [.ptr (8*A+24) 0] (hT.cs C) (λv t=>v=Dl x/\t=hT.cs C)):af 14 [.ptr 0 0,iV (A:Int)] (hT.cs C) (λv t=>v=Dl x/\t=hT.cs C):=by
 obtain⟨rfl,rfl⟩|⟨rfl,rfl⟩|⟨rfl,rfl⟩:=hk
 all_goals refine ay func14 λX=>?_
 all_goals repeat'(first|((with_reducible refine fP ?_);(refine aC ?_))|((conv=>whnf);first|(with_reducible refine fP ?_)|refine wK ?_|refine Fv 1 hT hT hth rfl rfl rfl rfl tv ⟨λi hi=>agc hi,tv⟩ vw ?_|refine Fv 1 hT hT hlk rfl rfl rfl rfl (λi hi=>True.intro) ⟨λi hi=>agc hi,tv⟩ ⟨aaM hpx,tv⟩ ?_|refine aj.n (λh=>?_)|refine ag.a ?_|refine bM qN qN (VW.agg λk hk=>?_) ?_|refine ag.mk ?_ ?_))
 all_goals try exact cls
 all_goals(try(repeat'(first|exact pq 6 hT rfl rfl rfl|refine an ⟨nb rfl,?_⟩ ?_|exact aW.row rfl fv|exact o8 rfl|refine fB rfl (λk hk=>dR ?_))))
 all_goals first|exact kk|(have hk:k<16:=hk;obtain _|_|_|_|_|_|_|_|_|_|_|_|_|_|_|_|k:=k <;> first|exact qV|omega)
end
