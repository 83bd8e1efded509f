/- A part of the proof. -/
import Derived.Test.YtnibdnahojjcgaaGreatB50
namespace Go.Proofs.YtnibdnahojjcgaaGreat
set_option maxRecDepth 100000
set_option maxHeartbeats 16000000
set_option linter.unusedVariables false
set_option linter.unusedSimpArgs false
open Go.RowKit
section
attribute [local irreducible] ae
theorem akg(k N M:Nat)(hk:(k=3/\N=48/\M=50)\/(k=4/\N=56/\M=58)\/(k=5/\N=64/\M=66))(C C1:aF)(e:bT)(R R1:List (Nat×aG))(hT:Tl k N R)(hT1:Tl k M (og N e R1))(r:Int)(hdef:xm hT1 C1)(hkd:e.kind≠1/\e.kind≠2/\e.kind≠3/\e.kind≠4/\e.kind≠5/\e.kind≠6/\e.kind≠7/\e.kind≠8/\e.kind≠9)(hr:1=r)(hC:C=C1)(hR:R=R1):ae 8 [.ptr 0 0,nX e] (hT.cs C) (λv t=>v=iV 1/\t=hT1.m3 (jH C)):=by
 subst hr hC hR;rcases hk with ⟨rfl,rfl,rfl⟩|⟨rfl,rfl,rfl⟩|⟨rfl,rfl,rfl⟩
 all_goals refine ae.defer (fd:=20) (n:=1) (jX:=λ_=>hT.b0) (rG:=Tryz.f20) (cD:=xM Tryz.f20) (sL:=hT.sl C e) (f:=8) Tryz.func8 rfl rfl qN (λX=>?_) rfl rfl rfl rfl rfl rfl rfl Tryz.func20 rfl rfl qN (λX4 X'=>?_)
 all_goals repeat' (first|((with_reducible refine dI ?_);first|refine T.cut (x:=.region 10 _ _) ⟨65,[(6,.d (.v .nilFunc)),(2,hT.b0),(3,hT.b1),(4,iV 0)],hT.bx C e⟩ ?_ ?_|refine oz ?_)|((conv=>whnf);first|(with_reducible refine dI ?_)|refine qF ?_|refine aU (.b false) (ed (λht=>au ht (by decide)) ?_)|refine ai.n (λh=>?_)|refine an (rfl:Exit.normal=Exit.normal) ?_|refine aU ⟨65,[(4,iV 1)],hT1.m2 C⟩ (aU (hT1.m2 (jH C)) ⟨?_,λk hk=>vq rfl qN,hdef,?_⟩)|refine asL (λh=>?_)|refine ag.a ?_|refine asC qN qN qV ?_))
 all_goals try exact aB
 all_goals (try(refine aV.mk rfl qN qN ?_ ?_ <;> repeat' (first|exact tv|exact kw 7 hT rfl rfl rfl|exact kw 8 hT rfl rfl rfl|exact qW|refine an qW ?_|refine an qV ?_|refine an ⟨nb rfl,?_⟩ ?_|exact af.row rfl fv|exact jO rfl|refine asE rfl (λk hk=>asB ?_)|refine asJ ?_|refine an ?_ ?_)))
 all_goals (try(repeat' (first|exact kw 7 hT rfl rfl rfl|refine an ⟨nb rfl,?_⟩ ?_|exact af.row rfl fv|exact jO rfl|refine asE rfl (λk hk=>asB ?_))))
 all_goals first|exact cm qV|exact kk
theorem Hg.mk{p q:Prop}(h:p)(hq:q):q:=hq
theorem aqe{x:Int}(h1:decide ((1:Int)=x)=false)(h2:decide ((2:Int)=x)=false)(h6:decide ((6:Int)=x)=false)(h7:decide ((7:Int)=x)=false)(h8:decide ((8:Int)=x)=false)(h9:decide ((9:Int)=x)=false):¬(x=1\/x=2\/x=6\/x=7\/x=8\/x=9):=by
 have h1:=bJ h1;have h2:=bJ h2;have h6:=bJ h6;have h7:=bJ h7;have h8:=bJ h8;have h9:=bJ h9;omega
theorem akh(k N M:Nat)(hk:(k=3/\N=48/\M=50)\/(k=4/\N=56/\M=58)\/(k=5/\N=64/\M=66))(C C1:aF)(e:bT)(R R1:List (Nat×aG))(hT:Tl k N R)(hT1:Tl k M (og N e R1))(r:Int)(hdef:xm hT1 C1)(hkd:e.kind=1\/e.kind=2\/e.kind=6\/e.kind=7\/e.kind=8\/e.kind=9)(hth:ae 38 [.ptr 0 0,iV e.a] (hT.bx C e) (λv t=>v = .b (lY k e.a)/\t=hT.bx C e))(hf:lY k e.a=false)(hr:1=r)(hC:C=C1)(hR:R=R1):ae 8 [.ptr 0 0,nX e] (hT.cs C) (λv t=>v=iV 1/\t=hT1.m3 (jH C)):=by
 subst hr hC hR;rcases hk with ⟨rfl,rfl,rfl⟩|⟨rfl,rfl,rfl⟩|⟨rfl,rfl,rfl⟩
 all_goals refine ae.defer (fd:=20) (n:=1) (jX:=λ_=>hT.b0) (rG:=Tryz.f20) (cD:=xM Tryz.f20) (sL:=hT.sl C e) (f:=8) Tryz.func8 rfl rfl qN (λX=>?_) rfl rfl rfl rfl rfl rfl rfl Tryz.func20 rfl rfl qN (λX4 X'=>?_)
 all_goals repeat' (first|((with_reducible refine dI ?_);first|refine aua (x:=.region 10 _ _) (λa:Nat×Nat×(Nat->V)=>⟨65,[(6,.fn a.1 0 a.2.1 a.2.2),(2,hT.b0),(3,hT.b1),(4,iV 0)],hT.bx C e⟩) (λ_=>True) ?_ (λa ha=>?_)|refine oz ?_)|((conv=>whnf);first|(with_reducible refine dI ?_)|refine qF ?_|refine aU _ (ed (λht=>ae.to hth ⟨rfl,rfl⟩) ?_)|(refine Hg.mk (p:=decide ((1:Int)=e.kind)=true) ?_ ?_;(with_reducible_and_instances assumption);refine aU (22,1,(λ_=>hT.b0)) ⟨tv,?_⟩)|(refine Hg.mk (p:=decide ((2:Int)=e.kind)=true) ?_ ?_;(with_reducible_and_instances assumption);refine aU (25,1,(λ_=>hT.b0)) ⟨tv,?_⟩)|(refine Hg.mk (p:=decide ((6:Int)=e.kind)=true) ?_ ?_;(with_reducible_and_instances assumption);refine aU (27,2,(λj=>match j with|0=>hT.b0|_=>hT.b1)) ⟨tv,?_⟩)|(refine Hg.mk (p:=decide ((9:Int)=e.kind)=true) ?_ ?_;(with_reducible_and_instances assumption);refine aU (29,1,(λ_=>hT.b1)) ⟨tv,?_⟩)|(refine Hg.mk (p:=decide ((7:Int)=e.kind)=true) ?_ ?_;(with_reducible_and_instances assumption);refine aU (31,1,(λ_=>hT.b1)) ⟨tv,?_⟩)|(refine Hg.mk (p:=decide ((8:Int)=e.kind)=true) ?_ ?_;(with_reducible_and_instances assumption);refine aU (33,1,(λ_=>hT.b1)) ⟨tv,?_⟩)|(refine Hg.mk (p:=decide ((1:Int)=e.kind)=false) ?_ ?_;(with_reducible_and_instances assumption);exact au hkd (aqe aj aj aj aj aj aj))|refine ai.mk (λh=>?_) (λh=>au (hf.symm.trans (by simpa using h)) (by decide))|refine ai.n (λh=>?_)|refine an (rfl:Exit.normal=Exit.normal) ?_|refine aU ⟨65,[(4,iV 1)],hT1.m2 C⟩ (aU (hT1.m2 (jH C)) ⟨?_,λk hk=>vq rfl qN,hdef,?_⟩)|refine ai.mk (λh=>?_) (λh=>?_)|refine ag.a ?_|refine asC qN qN qV ?_))
 all_goals try exact aB
 all_goals (try(refine aV.mk rfl qN qN ?_ ?_ <;> repeat' (first|exact tv|exact kw 7 hT rfl rfl rfl|exact kw 8 hT rfl rfl rfl|exact qW|refine an qW ?_|refine an qV ?_|refine an ⟨nb rfl,?_⟩ ?_|exact af.row rfl fv|exact jO rfl|refine asE rfl (λk hk=>asB ?_)|refine asJ ?_|refine an ?_ ?_)))
 all_goals (try(repeat' (first|exact kw 7 hT rfl rfl rfl|refine an ⟨nb rfl,?_⟩ ?_|exact af.row rfl fv|exact jO rfl|refine asE rfl (λk hk=>asB ?_))))
 all_goals first|exact cm qV|exact kk
end
end Go.Proofs.YtnibdnahojjcgaaGreat
