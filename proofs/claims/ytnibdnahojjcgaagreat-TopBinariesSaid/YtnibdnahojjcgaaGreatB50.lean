/- A part of the proof. -/
import Derived.Test.YtnibdnahojjcgaaGreatB49
namespace Go.Proofs.YtnibdnahojjcgaaGreat
set_option maxRecDepth 100000
set_option maxHeartbeats 16000000
set_option linter.unusedVariables false
set_option linter.unusedSimpArgs false
open Go.RowKit
section
attribute [local irreducible] ae
def og(N:Nat)(e:bT)(R:List (Nat×aG)):List (Nat×aG):=(N+1,wY e)::(N,wZ)::R
abbrev Tl.b0{k N:Nat}{R:List (Nat×aG)}(h:Tl k N R):V:=.ptr N 0
abbrev Tl.b1{k N:Nat}{R:List (Nat×aG)}(h:Tl k N R):V:=.ptr (N+1) 0
abbrev Tl.bx{k N:Nat}{R:List (Nat×aG)}(h:Tl k N R)(D:aF)(e:bT):ST:=⟨(N+1,wY e)::(N,wZ)::(gK k D++R),N+2⟩
abbrev Tl.sl{k N:Nat}{R:List (Nat×aG)}(h:Tl k N R)(D:aF)(e:bT):AS:=⟨65,[(7,.fn 20 0 1 (λ_=>.ptr N 0)),(2,.ptr N 0),(3,.ptr (N+1) 0),(4,iV 0)],h.bx D e⟩
abbrev Tl.m1{k N M:Nat}{e:bT}{R1:List (Nat×aG)}(h:Tl k M (og N e R1))(D:aF):ST:=⟨(N+1,wY e)::(N,wZ)::(gK k D++R1),M⟩
abbrev Tl.m2{k N M:Nat}{e:bT}{R1:List (Nat×aG)}(h:Tl k M (og N e R1))(D:aF):ST:=⟨gK k D++og N e R1,M⟩
abbrev Tl.m3{k N M:Nat}{e:bT}{R1:List (Nat×aG)}(h:Tl k M (og N e R1))(D:aF):ST:=⟨gK k D++R1,M⟩
def SY(N M:Nat):List (Nat×aG)->Bool
 |[]=>true
 |p::r=>(Nat.blt p.1 5||Nat.ble M p.1||Nat.beq p.1 N||Nat.beq p.1 (N+1))&&SY N M r
theorem aaH{N M:Nat}:∀ {e l:List (Nat×aG)},SY N M e=true->∀ i,5<=i->i<M->i≠N->i≠N+1->dM (e++l) i=dM l i
 |[],_,_,_,_,_,_,_=>rfl
 |(k,v)::r,l,h,i,h1,h2,h3,h4=>by
  obtain⟨h5,h6⟩:=kJ (show((Nat.blt k 5||Nat.ble M k||Nat.beq k N||Nat.beq k (N+1))&&SY N M r)=true from h);show(bif Nat.beq k i then v else dM (r++l) i)=_;rcases hb:Nat.beq k i with _|_
  ·exact aaH h6 i h1 h2 h3 h4
  ·have:=dH hb;subst this;simp only[Bool.or_eq_true]at h5;rcases h5 with ((h5|h5)|h5)|h5
   ·have:=lS h5;omega
   ·have:=nb h5;omega
   ·exact au (dH h5) h3
   ·exact au (dH h5) h4
theorem Tl.tail{k M N:Nat}{e:bT}{R:List (Nat×aG)}(h:Tl k M (og N e R)):Tl k M R/\∀ p∈R,p.1≠N/\p.1≠N+1:=by
 have hnd:=h.nd;obtain⟨n1,n2⟩:=kJ (show((match bZ (N::kF R) (N+1) with|some _=>false|none=>true)&&ik (N::kF R))=true from hnd);obtain⟨n3,n4⟩:=kJ (show((match bZ (kF R) N with|some _=>false|none=>true)&&ik (kF R))=true from n2);refine⟨⟨h.le,λp hp=>h.keys p (je _ (je _ hp)),n4,h.OI.2.2⟩,λp hp=>?_⟩;have hm:p.1∈kF R:=List.mem_map_of_mem (f:=λq:Nat×aG=>q.1) hp;obtain⟨i,hi,he⟩:=List.getElem_of_mem hm;have h3:=oL n4 (i:=p.1) (k:=i) (by rw[dW hi,he]);refine⟨λe=>?_,λe=>?_⟩
 ·rw[<-e,h3]at n3;cases n3
 ·have:bZ (N::kF R) (N+1)=some (i+1):=by
   show(bif Nat.beq N (N+1) then some 0 else (match bZ (kF R) (N+1) with|some k=>some (k+1)|none=>none))=_;rw[<-e,h3];rcases hb:Nat.beq N p.1 with _|_
   ·rfl
   ·have:=dH hb;omega
  rw[this]at n1;cases n1
theorem tu{k N M M':Nat}{e:bT}{t:ST}{R:List (Nat×aG)}(q:Nat)(h:Tl k M (og N e R))(hst:t.st.drop q=R)(hP:SY N M (t.st.take q)=true)(hM:Nat.ble M M'=true):qB M' t R:=by
 obtain⟨hT,hne⟩:=h.tail;have hc:=QJ (nb hM) hT.OI;have ht:∀ i,dM t.st i=dM (t.st.take q++R) i:=λi=>by rw[<-hst,List.take_append_drop]
 have key:∀ Q:List (Nat×aG),(∀ p∈Q,p∈R)->qB M' t Q:=by
  intro Q;induction Q with
  |nil=>exact λ_=>True.intro
  |cons p r ih=>
   intro hq;obtain⟨i,o⟩:=p;refine⟨?_,ih λp hp=>hq p (je _ hp)⟩;have hm:=hq _ jC;have hk:=hT.keys _ hm;have hn:=hne _ hm;have hl:=Et hT.nd _ hm;have e:t.get i=o:=((ht i).trans (aaH hP i hk.1 hk.2 hn.1 hn.2)).trans hl;rw[e];rcases xC hc i with h0|⟨h0,h1⟩
   ·have ho:o = .dead:=hl.symm.trans h0;subst ho;exact⟨yJ hc _ hm,tv⟩
   ·rw[show dM R i=o from hl]at h1;exact⟨h0,as2 h1⟩
 exact key R λ_ h=>h
def xm{k N M:Nat}{e:bT}{R1:List (Nat×aG)}(h:Tl k M (og N e R1))(D:aF):Prop:=∀ X:Cx (h.m2 D),T X (xM Tryz.f20) (BU Tryz.f20 X (λv t=>v = .fV 0 (λ_=>.top)/\t=h.m2 (jH D))) ⟨Tryz.f20.ntmps,pO [.ptr N 0],h.m2 D⟩
theorem akn(k N M:Nat)(hk:(k=3/\N=48/\M=50)\/(k=4/\N=56/\M=58)\/(k=5/\N=64/\M=66))(C C1:aF)(e:bT)(R R1:List (Nat×aG))(hT:Tl k N R)(hT1:Tl k M (og N e R1))(r:Int)(hdef:xm hT1 C1)(hkd:e.kind=3)(hcl:ae 35 [.ptr 0 0,iV e.a] (hT.bx C e) (λv t=>v=iV r/\t=hT1.m1 C1)):ae 8 [.ptr 0 0,nX e] (hT.cs C) (λv t=>v=iV r/\t=hT1.m3 (jH C1)):=by
 rcases hk with ⟨rfl,rfl,rfl⟩|⟨rfl,rfl,rfl⟩|⟨rfl,rfl,rfl⟩
 all_goals refine ae.defer (fd:=20) (n:=1) (jX:=λ_=>hT.b0) (rG:=Tryz.f20) (cD:=xM Tryz.f20) (sL:=hT.sl C e) (f:=8) Tryz.func8 rfl rfl qN (λX=>?_) rfl rfl rfl rfl rfl rfl rfl Tryz.func20 rfl rfl qN (λX4 X'=>?_)
 all_goals repeat' (first|((with_reducible refine dI ?_);first|refine T.cut (x:=.region 2 _ _) ⟨65,[(2,hT.b0),(3,hT.b1),(4,iV 0)],hT.bx C e⟩ ?_ ?_|refine oz ?_)|((conv=>whnf);first|(with_reducible refine dI ?_)|refine qF ?_|refine ae.to hcl ?_|refine asL (λh=>?_)|refine an (rfl:Exit.normal=Exit.normal) ?_|refine aU ⟨65,[(4,iV r)],hT1.m2 C1⟩ (aU (hT1.m2 (jH C1)) ⟨?_,λk hk=>vq rfl qN,hdef,?_⟩)|refine ag.a ?_|refine asC qN qN qV ?_))
 all_goals try exact aB
 all_goals (try(refine aV.mk rfl qN qN ?_ ?_ <;> repeat' (first|exact tv|exact kw 7 hT rfl rfl rfl|exact kw 8 hT rfl rfl rfl|exact tu 7 hT1 rfl rfl rfl|exact qW|refine an qW ?_|refine an qV ?_|refine an ⟨nb rfl,?_⟩ ?_|exact af.row rfl fv|exact jO rfl|refine asE rfl (λk hk=>asB ?_)|refine asJ ?_|refine an ?_ ?_)))
 all_goals (try(repeat' (first|exact tu 7 hT1 rfl rfl rfl|refine an ⟨nb rfl,?_⟩ ?_|exact af.row rfl fv|exact jO rfl|refine asE rfl (λk hk=>asB ?_))))
 all_goals first|exact cm qV|exact kk
theorem akm(k N M:Nat)(hk:(k=3/\N=48/\M=50)\/(k=4/\N=56/\M=58)\/(k=5/\N=64/\M=66))(C C1:aF)(e:bT)(R R1:List (Nat×aG))(hT:Tl k N R)(hT1:Tl k M (og N e R1))(r:Int)(hdef:xm hT1 C1)(hkd:e.kind=4)(hcl:ae 36 [.ptr 2 0,iV e.a] (hT.bx C e) (λv t=>v=iV r/\t=hT1.m1 C1)):ae 8 [.ptr 0 0,nX e] (hT.cs C) (λv t=>v=iV r/\t=hT1.m3 (jH C1)):=by
 rcases hk with ⟨rfl,rfl,rfl⟩|⟨rfl,rfl,rfl⟩|⟨rfl,rfl,rfl⟩
 all_goals refine ae.defer (fd:=20) (n:=1) (jX:=λ_=>hT.b0) (rG:=Tryz.f20) (cD:=xM Tryz.f20) (sL:=hT.sl C e) (f:=8) Tryz.func8 rfl rfl qN (λX=>?_) rfl rfl rfl rfl rfl rfl rfl Tryz.func20 rfl rfl qN (λX4 X'=>?_)
 all_goals repeat' (first|((with_reducible refine dI ?_);first|refine T.cut (x:=.region 2 _ _) ⟨65,[(2,hT.b0),(3,hT.b1),(4,iV 0)],hT.bx C e⟩ ?_ ?_|refine oz ?_|refine asD 7 [6] [o0,o0,o0,o0,o0,o0,o1,o3] ?_)|((conv=>whnf);first|(with_reducible refine dI ?_)|refine mc ?_ ?_|refine qF ?_|refine ai.n (λh=>?_)|refine asL (λh=>?_)|refine an (rfl:Exit.normal=Exit.normal) ?_|refine aU ⟨65,[(4,iV r)],hT1.m2 C1⟩ (aU (hT1.m2 (jH C1)) ⟨?_,λk hk=>vq rfl qN,hdef,?_⟩)|refine bn.to hcl ?_|refine ag.a ?_|refine asC qN qN qV ?_))
 all_goals (try(refine dh.mk ?_;repeat' (first|exact tv|((conv=>whnf);first|exact rfl|refine ae.to hcl ?_|refine an ?_ ?_|refine ag.mk ?_ ?_))))
 all_goals try exact aB
 all_goals (try(refine aV.mk rfl qN qN ?_ ?_ <;> repeat' (first|exact tv|exact kw 7 hT rfl rfl rfl|exact kw 8 hT rfl rfl rfl|exact tu 7 hT1 rfl rfl rfl|exact qW|refine an qW ?_|refine an qV ?_|refine an ⟨nb rfl,?_⟩ ?_|exact af.row rfl fv|exact jO rfl|refine asE rfl (λk hk=>asB ?_)|refine asJ ?_|refine an ?_ ?_)))
 all_goals (try(repeat' (first|exact tu 7 hT1 rfl rfl rfl|refine an ⟨nb rfl,?_⟩ ?_|exact af.row rfl fv|exact jO rfl|refine asE rfl (λk hk=>asB ?_))))
 all_goals first|exact cm qV|exact kk
theorem akl(k N M:Nat)(hk:(k=3/\N=48/\M=50)\/(k=4/\N=56/\M=58)\/(k=5/\N=64/\M=66))(C C1:aF)(e:bT)(R R1:List (Nat×aG))(hT:Tl k N R)(hT1:Tl k M (og N e R1))(r:Int)(hdef:xm hT1 C1)(hkd:e.kind=5)(hcl:ae 37 [.ptr 2 0,iV e.a] (hT.bx C e) (λv t=>v=iV r/\t=hT1.m1 C1)):ae 8 [.ptr 0 0,nX e] (hT.cs C) (λv t=>v=iV r/\t=hT1.m3 (jH C1)):=by
 rcases hk with ⟨rfl,rfl,rfl⟩|⟨rfl,rfl,rfl⟩|⟨rfl,rfl,rfl⟩
 all_goals refine ae.defer (fd:=20) (n:=1) (jX:=λ_=>hT.b0) (rG:=Tryz.f20) (cD:=xM Tryz.f20) (sL:=hT.sl C e) (f:=8) Tryz.func8 rfl rfl qN (λX=>?_) rfl rfl rfl rfl rfl rfl rfl Tryz.func20 rfl rfl qN (λX4 X'=>?_)
 all_goals repeat' (first|((with_reducible refine dI ?_);first|refine T.cut (x:=.region 2 _ _) ⟨65,[(2,hT.b0),(3,hT.b1),(4,iV 0)],hT.bx C e⟩ ?_ ?_|refine oz ?_|refine asD 9 [6] [o0,o0,o0,o0,o0,o0,o1,o3] ?_)|((conv=>whnf);first|(with_reducible refine dI ?_)|refine mc ?_ ?_|refine qF ?_|refine ai.n (λh=>?_)|refine asL (λh=>?_)|refine an (rfl:Exit.normal=Exit.normal) ?_|refine aU ⟨65,[(4,iV r)],hT1.m2 C1⟩ (aU (hT1.m2 (jH C1)) ⟨?_,λk hk=>vq rfl qN,hdef,?_⟩)|refine bn.to hcl ?_|refine ag.a ?_|refine asC qN qN qV ?_))
 all_goals (try(refine dh.mk ?_;repeat' (first|exact tv|((conv=>whnf);first|exact rfl|refine ae.to hcl ?_|refine an ?_ ?_|refine ag.mk ?_ ?_))))
 all_goals try exact aB
 all_goals (try(refine aV.mk rfl qN qN ?_ ?_ <;> repeat' (first|exact tv|exact kw 7 hT rfl rfl rfl|exact kw 8 hT rfl rfl rfl|exact tu 7 hT1 rfl rfl rfl|exact qW|refine an qW ?_|refine an qV ?_|refine an ⟨nb rfl,?_⟩ ?_|exact af.row rfl fv|exact jO rfl|refine asE rfl (λk hk=>asB ?_)|refine asJ ?_|refine an ?_ ?_)))
 all_goals (try(repeat' (first|exact tu 7 hT1 rfl rfl rfl|refine an ⟨nb rfl,?_⟩ ?_|exact af.row rfl fv|exact jO rfl|refine asE rfl (λk hk=>asB ?_))))
 all_goals first|exact cm qV|exact kk
end
section
attribute [local irreducible] ae
theorem ako(k N M:Nat)(hk:(k=3/\N=48/\M=50)\/(k=4/\N=56/\M=58)\/(k=5/\N=64/\M=66))(C C1:aF)(e:bT)(R R1:List (Nat×aG))(hT:Tl k N R)(hT1:Tl k M (og N e R1))(r:Int)(hdef:xm hT1 C1)(hkd:e.kind=2)(hth:ae 38 [.ptr 0 0,iV e.a] (hT.bx C e) (λv t=>v = .b (lY k e.a)/\t=hT.bx C e))(hf:lY k e.a=true)(hA:0<=e.a/\e.a<k)(hcl:ae 25 [.ptr (8*e.a.toNat+24) 0,.ptr N 0] (hT.bx C e) (λv t=>v=iV r/\t=hT1.m1 C1)):ae 8 [.ptr 0 0,nX e] (hT.cs C) (λv t=>v=iV r/\t=hT1.m3 (jH C1)):=by
 rcases hk with ⟨rfl,rfl,rfl⟩|⟨rfl,rfl,rfl⟩|⟨rfl,rfl,rfl⟩
 all_goals refine ae.defer (fd:=20) (n:=1) (jX:=λ_=>hT.b0) (rG:=Tryz.f20) (cD:=xM Tryz.f20) (sL:=hT.sl C e) (f:=8) Tryz.func8 rfl rfl qN (λX=>?_) rfl rfl rfl rfl rfl rfl rfl Tryz.func20 rfl rfl qN (λX4 X'=>?_)
 all_goals repeat' (first|((with_reducible refine dI ?_);first|refine T.cut (x:=.region 10 _ _) ⟨65,[(6,.fn 25 0 1 (λ_=>hT.b0)),(2,hT.b0),(3,hT.b1),(4,iV 0)],hT.bx C e⟩ ?_ ?_|refine oz ?_|refine asD 13 [9] [o0,o0,o0,o0,o0,o0,o0,o0,o0,o1,o3] ?_)|((conv=>whnf);first|(with_reducible refine dI ?_)|refine mc ?_ ?_|refine qF ?_|refine aU _ (ed (λht=>ae.to hth ⟨rfl,rfl⟩) ?_)|refine ai.mk (λh=>au (hf.symm.trans (by simpa using h)) (by decide)) (λh=>?_)|refine ai.n (λh=>?_)|refine asL (λh=>?_)|refine an (rfl:Exit.normal=Exit.normal) ?_|refine aU ⟨65,[(4,iV r)],hT1.m2 C1⟩ (aU (hT1.m2 (jH C1)) ⟨?_,λk hk=>vq rfl qN,hdef,?_⟩)|refine bn.to hcl ?_|refine ag.a ?_|refine asC qN qN qV ?_))
 all_goals (try(refine dh.mk ?_;repeat' (first|exact tv|((conv=>whnf);first|exact rfl|refine ae.to hcl ?_|refine an ?_ ?_|refine ag.mk ?_ ?_))))
 all_goals try exact aB
 all_goals (try(refine aV.mk rfl qN qN ?_ ?_ <;> repeat' (first|exact tv|exact kw 7 hT rfl rfl rfl|exact kw 8 hT rfl rfl rfl|exact tu 7 hT1 rfl rfl rfl|exact qW|refine an qW ?_|refine an qV ?_|refine an ⟨nb rfl,?_⟩ ?_|exact af.row rfl fv|exact jO rfl|refine asE rfl (λk hk=>asB ?_)|refine asJ ?_|refine an ?_ ?_)))
 all_goals (try(repeat' (first|exact tu 7 hT1 rfl rfl rfl|refine an ⟨nb rfl,?_⟩ ?_|exact af.row rfl fv|exact jO rfl|refine asE rfl (λk hk=>asB ?_))))
 all_goals first|exact cm qV|exact kk
theorem akk(k N M:Nat)(hk:(k=3/\N=48/\M=50)\/(k=4/\N=56/\M=58)\/(k=5/\N=64/\M=66))(C C1:aF)(e:bT)(R R1:List (Nat×aG))(hT:Tl k N R)(hT1:Tl k M (og N e R1))(r:Int)(hdef:xm hT1 C1)(hkd:e.kind=6)(hth:ae 38 [.ptr 0 0,iV e.a] (hT.bx C e) (λv t=>v = .b (lY k e.a)/\t=hT.bx C e))(hf:lY k e.a=true)(hA:0<=e.a/\e.a<k)(hcl:ae 27 [.ptr (8*e.a.toNat+24) 0,.ptr N 0,.ptr (N+1) 0] (hT.bx C e) (λv t=>v=iV r/\t=hT1.m1 C1)):ae 8 [.ptr 0 0,nX e] (hT.cs C) (λv t=>v=iV r/\t=hT1.m3 (jH C1)):=by
 rcases hk with ⟨rfl,rfl,rfl⟩|⟨rfl,rfl,rfl⟩|⟨rfl,rfl,rfl⟩
 all_goals refine ae.defer (fd:=20) (n:=1) (jX:=λ_=>hT.b0) (rG:=Tryz.f20) (cD:=xM Tryz.f20) (sL:=hT.sl C e) (f:=8) Tryz.func8 rfl rfl qN (λX=>?_) rfl rfl rfl rfl rfl rfl rfl Tryz.func20 rfl rfl qN (λX4 X'=>?_)
 all_goals repeat' (first|((with_reducible refine dI ?_);first|refine T.cut (x:=.region 10 _ _) ⟨65,[(6,.fn 27 0 2 (λj=>match j with|0=>hT.b0|_=>hT.b1)),(2,hT.b0),(3,hT.b1),(4,iV 0)],hT.bx C e⟩ ?_ ?_|refine oz ?_|refine asD 13 [9] [o0,o0,o0,o0,o0,o0,o0,o0,o0,o1,o3] ?_)|((conv=>whnf);first|(with_reducible refine dI ?_)|refine mc ?_ ?_|refine qF ?_|refine aU _ (ed (λht=>ae.to hth ⟨rfl,rfl⟩) ?_)|refine ai.mk (λh=>au (hf.symm.trans (by simpa using h)) (by decide)) (λh=>?_)|refine ai.n (λh=>?_)|refine asL (λh=>?_)|refine an (rfl:Exit.normal=Exit.normal) ?_|refine aU ⟨65,[(4,iV r)],hT1.m2 C1⟩ (aU (hT1.m2 (jH C1)) ⟨?_,λk hk=>vq rfl qN,hdef,?_⟩)|refine bn.to hcl ?_|refine ag.a ?_|refine asC qN qN qV ?_))
 all_goals (try(refine dh.mk ?_;repeat' (first|exact tv|((conv=>whnf);first|exact rfl|refine ae.to hcl ?_|refine an ?_ ?_|refine ag.mk ?_ ?_))))
 all_goals try exact aB
 all_goals (try(refine aV.mk rfl qN qN ?_ ?_ <;> repeat' (first|exact tv|exact kw 7 hT rfl rfl rfl|exact kw 8 hT rfl rfl rfl|exact tu 7 hT1 rfl rfl rfl|exact qW|refine an qW ?_|refine an qV ?_|refine an ⟨nb rfl,?_⟩ ?_|exact af.row rfl fv|exact jO rfl|refine asE rfl (λk hk=>asB ?_)|refine asJ ?_|refine an ?_ ?_)))
 all_goals (try(repeat' (first|exact tu 7 hT1 rfl rfl rfl|refine an ⟨nb rfl,?_⟩ ?_|exact af.row rfl fv|exact jO rfl|refine asE rfl (λk hk=>asB ?_))))
 all_goals first|exact cm qV|exact kk
theorem akj(k N M:Nat)(hk:(k=3/\N=48/\M=50)\/(k=4/\N=56/\M=58)\/(k=5/\N=64/\M=66))(C C1:aF)(e:bT)(R R1:List (Nat×aG))(hT:Tl k N R)(hT1:Tl k M (og N e R1))(r:Int)(hdef:xm hT1 C1)(hkd:e.kind=7)(hth:ae 38 [.ptr 0 0,iV e.a] (hT.bx C e) (λv t=>v = .b (lY k e.a)/\t=hT.bx C e))(hf:lY k e.a=true)(hA:0<=e.a/\e.a<k)(hcl:ae 31 [.ptr (8*e.a.toNat+24) 0,.ptr (N+1) 0] (hT.bx C e) (λv t=>v=iV r/\t=hT1.m1 C1)):ae 8 [.ptr 0 0,nX e] (hT.cs C) (λv t=>v=iV r/\t=hT1.m3 (jH C1)):=by
 rcases hk with ⟨rfl,rfl,rfl⟩|⟨rfl,rfl,rfl⟩|⟨rfl,rfl,rfl⟩
 all_goals refine ae.defer (fd:=20) (n:=1) (jX:=λ_=>hT.b0) (rG:=Tryz.f20) (cD:=xM Tryz.f20) (sL:=hT.sl C e) (f:=8) Tryz.func8 rfl rfl qN (λX=>?_) rfl rfl rfl rfl rfl rfl rfl Tryz.func20 rfl rfl qN (λX4 X'=>?_)
 all_goals repeat' (first|((with_reducible refine dI ?_);first|refine T.cut (x:=.region 10 _ _) ⟨65,[(6,.fn 31 0 1 (λ_=>hT.b1)),(2,hT.b0),(3,hT.b1),(4,iV 0)],hT.bx C e⟩ ?_ ?_|refine oz ?_|refine asD 13 [9] [o0,o0,o0,o0,o0,o0,o0,o0,o0,o1,o3] ?_)|((conv=>whnf);first|(with_reducible refine dI ?_)|refine mc ?_ ?_|refine qF ?_|refine aU _ (ed (λht=>ae.to hth ⟨rfl,rfl⟩) ?_)|refine ai.mk (λh=>au (hf.symm.trans (by simpa using h)) (by decide)) (λh=>?_)|refine ai.n (λh=>?_)|refine asL (λh=>?_)|refine an (rfl:Exit.normal=Exit.normal) ?_|refine aU ⟨65,[(4,iV r)],hT1.m2 C1⟩ (aU (hT1.m2 (jH C1)) ⟨?_,λk hk=>vq rfl qN,hdef,?_⟩)|refine bn.to hcl ?_|refine ag.a ?_|refine asC qN qN qV ?_))
 all_goals (try(refine dh.mk ?_;repeat' (first|exact tv|((conv=>whnf);first|exact rfl|refine ae.to hcl ?_|refine an ?_ ?_|refine ag.mk ?_ ?_))))
 all_goals try exact aB
 all_goals (try(refine aV.mk rfl qN qN ?_ ?_ <;> repeat' (first|exact tv|exact kw 7 hT rfl rfl rfl|exact kw 8 hT rfl rfl rfl|exact tu 7 hT1 rfl rfl rfl|exact qW|refine an qW ?_|refine an qV ?_|refine an ⟨nb rfl,?_⟩ ?_|exact af.row rfl fv|exact jO rfl|refine asE rfl (λk hk=>asB ?_)|refine asJ ?_|refine an ?_ ?_)))
 all_goals (try(repeat' (first|exact tu 7 hT1 rfl rfl rfl|refine an ⟨nb rfl,?_⟩ ?_|exact af.row rfl fv|exact jO rfl|refine asE rfl (λk hk=>asB ?_))))
 all_goals first|exact cm qV|exact kk
theorem aki(k N M:Nat)(hk:(k=3/\N=48/\M=50)\/(k=4/\N=56/\M=58)\/(k=5/\N=64/\M=66))(C C1:aF)(e:bT)(R R1:List (Nat×aG))(hT:Tl k N R)(hT1:Tl k M (og N e R1))(r:Int)(hdef:xm hT1 C1)(hkd:e.kind=8)(hth:ae 38 [.ptr 0 0,iV e.a] (hT.bx C e) (λv t=>v = .b (lY k e.a)/\t=hT.bx C e))(hf:lY k e.a=true)(hA:0<=e.a/\e.a<k)(hcl:ae 33 [.ptr (8*e.a.toNat+24) 0,.ptr (N+1) 0] (hT.bx C e) (λv t=>v=iV r/\t=hT1.m1 C1)):ae 8 [.ptr 0 0,nX e] (hT.cs C) (λv t=>v=iV r/\t=hT1.m3 (jH C1)):=by
 rcases hk with ⟨rfl,rfl,rfl⟩|⟨rfl,rfl,rfl⟩|⟨rfl,rfl,rfl⟩
 all_goals refine ae.defer (fd:=20) (n:=1) (jX:=λ_=>hT.b0) (rG:=Tryz.f20) (cD:=xM Tryz.f20) (sL:=hT.sl C e) (f:=8) Tryz.func8 rfl rfl qN (λX=>?_) rfl rfl rfl rfl rfl rfl rfl Tryz.func20 rfl rfl qN (λX4 X'=>?_)
 all_goals repeat' (first|((with_reducible refine dI ?_);first|refine T.cut (x:=.region 10 _ _) ⟨65,[(6,.fn 33 0 1 (λ_=>hT.b1)),(2,hT.b0),(3,hT.b1),(4,iV 0)],hT.bx C e⟩ ?_ ?_|refine oz ?_|refine asD 13 [9] [o0,o0,o0,o0,o0,o0,o0,o0,o0,o1,o3] ?_)|((conv=>whnf);first|(with_reducible refine dI ?_)|refine mc ?_ ?_|refine qF ?_|refine aU _ (ed (λht=>ae.to hth ⟨rfl,rfl⟩) ?_)|refine ai.mk (λh=>au (hf.symm.trans (by simpa using h)) (by decide)) (λh=>?_)|refine ai.n (λh=>?_)|refine asL (λh=>?_)|refine an (rfl:Exit.normal=Exit.normal) ?_|refine aU ⟨65,[(4,iV r)],hT1.m2 C1⟩ (aU (hT1.m2 (jH C1)) ⟨?_,λk hk=>vq rfl qN,hdef,?_⟩)|refine bn.to hcl ?_|refine ag.a ?_|refine asC qN qN qV ?_))
 all_goals (try(refine dh.mk ?_;repeat' (first|exact tv|((conv=>whnf);first|exact rfl|refine ae.to hcl ?_|refine an ?_ ?_|refine ag.mk ?_ ?_))))
 all_goals try exact aB
 all_goals (try(refine aV.mk rfl qN qN ?_ ?_ <;> repeat' (first|exact tv|exact kw 7 hT rfl rfl rfl|exact kw 8 hT rfl rfl rfl|exact tu 7 hT1 rfl rfl rfl|exact qW|refine an qW ?_|refine an qV ?_|refine an ⟨nb rfl,?_⟩ ?_|exact af.row rfl fv|exact jO rfl|refine asE rfl (λk hk=>asB ?_)|refine asJ ?_|refine an ?_ ?_)))
 all_goals (try(repeat' (first|exact tu 7 hT1 rfl rfl rfl|refine an ⟨nb rfl,?_⟩ ?_|exact af.row rfl fv|exact jO rfl|refine asE rfl (λk hk=>asB ?_))))
 all_goals first|exact cm qV|exact kk
theorem ach(k N M:Nat)(hk:(k=3/\N=48/\M=50)\/(k=3/\N=48/\M=54)\/(k=4/\N=56/\M=58)\/(k=4/\N=56/\M=62)\/(k=5/\N=64/\M=66)\/(k=5/\N=64/\M=70))(C C1:aF)(e:bT)(R R1:List (Nat×aG))(hT:Tl k N R)(hT1:Tl k M (og N e R1))(r:Int)(hdef:xm hT1 C1)(hkd:e.kind=1)(hth:ae 38 [.ptr 0 0,iV e.a] (hT.bx C e) (λv t=>v = .b (lY k e.a)/\t=hT.bx C e))(hf:lY k e.a=true)(hA:0<=e.a/\e.a<k)(hcl:ae 22 [.ptr (8*e.a.toNat+24) 0,.ptr N 0] (hT.bx C e) (λv t=>v=iV r/\t=hT1.m1 C1)):ae 8 [.ptr 0 0,nX e] (hT.cs C) (λv t=>v=iV r/\t=hT1.m3 (jH C1)):=by
 rcases hk with ⟨rfl,rfl,rfl⟩|⟨rfl,rfl,rfl⟩|⟨rfl,rfl,rfl⟩|⟨rfl,rfl,rfl⟩|⟨rfl,rfl,rfl⟩|⟨rfl,rfl,rfl⟩
 all_goals refine ae.defer (fd:=20) (n:=1) (jX:=λ_=>hT.b0) (rG:=Tryz.f20) (cD:=xM Tryz.f20) (sL:=hT.sl C e) (f:=8) Tryz.func8 rfl rfl qN (λX=>?_) rfl rfl rfl rfl rfl rfl rfl Tryz.func20 rfl rfl qN (λX4 X'=>?_)
 all_goals repeat' (first|((with_reducible refine dI ?_);first|refine T.cut (x:=.region 10 _ _) ⟨65,[(6,.fn 22 0 1 (λ_=>hT.b0)),(2,hT.b0),(3,hT.b1),(4,iV 0)],hT.bx C e⟩ ?_ ?_|refine oz ?_|refine asD 13 [9] [o0,o0,o0,o0,o0,o0,o0,o0,o0,o1,o3] ?_)|((conv=>whnf);first|(with_reducible refine dI ?_)|refine mc ?_ ?_|refine qF ?_|refine aU _ (ed (λht=>ae.to hth ⟨rfl,rfl⟩) ?_)|refine ai.mk (λh=>au (hf.symm.trans (by simpa using h)) (by decide)) (λh=>?_)|refine ai.n (λh=>?_)|refine asL (λh=>?_)|refine an (rfl:Exit.normal=Exit.normal) ?_|refine aU ⟨65,[(4,iV r)],hT1.m2 C1⟩ (aU (hT1.m2 (jH C1)) ⟨?_,λk hk=>vq rfl qN,hdef,?_⟩)|refine bn.to hcl ?_|refine ag.a ?_|refine asC qN qN qV ?_))
 all_goals (try(refine dh.mk ?_;repeat' (first|exact tv|((conv=>whnf);first|exact rfl|refine ae.to hcl ?_|refine an ?_ ?_|refine ag.mk ?_ ?_))))
 all_goals try exact aB
 all_goals (try(refine aV.mk rfl qN qN ?_ ?_ <;> repeat' (first|exact tv|exact kw 7 hT rfl rfl rfl|exact kw 8 hT rfl rfl rfl|exact tu 7 hT1 rfl rfl rfl|exact qW|refine an qW ?_|refine an qV ?_|refine an ⟨nb rfl,?_⟩ ?_|exact af.row rfl fv|exact jO rfl|refine asE rfl (λk hk=>asB ?_)|refine asJ ?_|refine an ?_ ?_)))
 all_goals (try(repeat' (first|exact tu 7 hT1 rfl rfl rfl|refine an ⟨nb rfl,?_⟩ ?_|exact af.row rfl fv|exact jO rfl|refine asE rfl (λk hk=>asB ?_))))
 all_goals first|exact cm qV|exact kk
theorem acg(k N M:Nat)(hk:(k=3/\N=48/\M=50)\/(k=3/\N=48/\M=56)\/(k=4/\N=56/\M=58)\/(k=4/\N=56/\M=64)\/(k=5/\N=64/\M=66)\/(k=5/\N=64/\M=72))(C C1:aF)(e:bT)(R R1:List (Nat×aG))(hT:Tl k N R)(hT1:Tl k M (og N e R1))(r:Int)(hdef:xm hT1 C1)(hkd:e.kind=9)(hth:ae 38 [.ptr 0 0,iV e.a] (hT.bx C e) (λv t=>v = .b (lY k e.a)/\t=hT.bx C e))(hf:lY k e.a=true)(hA:0<=e.a/\e.a<k)(hcl:ae 29 [.ptr (8*e.a.toNat+24) 0,.ptr (N+1) 0] (hT.bx C e) (λv t=>v=iV r/\t=hT1.m1 C1)):ae 8 [.ptr 0 0,nX e] (hT.cs C) (λv t=>v=iV r/\t=hT1.m3 (jH C1)):=by
 rcases hk with ⟨rfl,rfl,rfl⟩|⟨rfl,rfl,rfl⟩|⟨rfl,rfl,rfl⟩|⟨rfl,rfl,rfl⟩|⟨rfl,rfl,rfl⟩|⟨rfl,rfl,rfl⟩
 all_goals refine ae.defer (fd:=20) (n:=1) (jX:=λ_=>hT.b0) (rG:=Tryz.f20) (cD:=xM Tryz.f20) (sL:=hT.sl C e) (f:=8) Tryz.func8 rfl rfl qN (λX=>?_) rfl rfl rfl rfl rfl rfl rfl Tryz.func20 rfl rfl qN (λX4 X'=>?_)
 all_goals repeat' (first|((with_reducible refine dI ?_);first|refine T.cut (x:=.region 10 _ _) ⟨65,[(6,.fn 29 0 1 (λ_=>hT.b1)),(2,hT.b0),(3,hT.b1),(4,iV 0)],hT.bx C e⟩ ?_ ?_|refine oz ?_|refine asD 13 [9] [o0,o0,o0,o0,o0,o0,o0,o0,o0,o1,o3] ?_)|((conv=>whnf);first|(with_reducible refine dI ?_)|refine mc ?_ ?_|refine qF ?_|refine aU _ (ed (λht=>ae.to hth ⟨rfl,rfl⟩) ?_)|refine ai.mk (λh=>au (hf.symm.trans (by simpa using h)) (by decide)) (λh=>?_)|refine ai.n (λh=>?_)|refine asL (λh=>?_)|refine an (rfl:Exit.normal=Exit.normal) ?_|refine aU ⟨65,[(4,iV r)],hT1.m2 C1⟩ (aU (hT1.m2 (jH C1)) ⟨?_,λk hk=>vq rfl qN,hdef,?_⟩)|refine bn.to hcl ?_|refine ag.a ?_|refine asC qN qN qV ?_))
 all_goals (try(refine dh.mk ?_;repeat' (first|exact tv|((conv=>whnf);first|exact rfl|refine ae.to hcl ?_|refine an ?_ ?_|refine ag.mk ?_ ?_))))
 all_goals try exact aB
 all_goals (try(refine aV.mk rfl qN qN ?_ ?_ <;> repeat' (first|exact tv|exact kw 7 hT rfl rfl rfl|exact kw 8 hT rfl rfl rfl|exact tu 7 hT1 rfl rfl rfl|exact qW|refine an qW ?_|refine an qV ?_|refine an ⟨nb rfl,?_⟩ ?_|exact af.row rfl fv|exact jO rfl|refine asE rfl (λk hk=>asB ?_)|refine asJ ?_|refine an ?_ ?_)))
 all_goals (try(repeat' (first|exact tu 7 hT1 rfl rfl rfl|refine an ⟨nb rfl,?_⟩ ?_|exact af.row rfl fv|exact jO rfl|refine asE rfl (λk hk=>asB ?_))))
 all_goals first|exact cm qV|exact kk
end
def Ze(N:Nat):List Nat->Bool
 |[]=>true
 |i::r=>(Nat.ble 5 i&&Nat.blt i N)&&Ze N r
theorem RX{N:Nat}:∀ {R:List (Nat×aG)},Ze N (kF R)=true->∀ p∈R,5<=p.1/\p.1<N
 |[],_,p,hp=>by cases hp
 |q::r,h,p,hp=>by
  obtain⟨h1,h2⟩:=kJ (show((Nat.ble 5 q.1&&Nat.blt q.1 N)&&Ze N (kF r))=true from h);obtain⟨h3,h4⟩:=kJ h1;rcases List.mem_cons.1 hp with rfl|hp
  ·exact⟨nb h3,lS h4⟩
  ·exact RX h2 p hp
theorem akx{N b e a1 a2 a3 a4:Nat}{n:az}(hb:b+3<=N)(h0:e<N)(h1:a1<N)(h2:a2<N)(h3:a3<N)(h4:a4<N):mJ N (D8 b e a1 a2 a3 a4 n):=
 ⟨⟨by omega,aaM qO h0 h1 h2 h3 h4⟩,⟨by omega,λk hk=>by
  rcases k with _|_|_|_|_|k
  all_goals first|exact tv|(show b+2<N;omega)⟩,⟨by omega,λj hj k hk=>True.intro⟩,⟨h0,λj hj k hk=>True.intro⟩,⟨h1,λj hj k hk=>True.intro⟩,⟨h2,λj hj k hk=>True.intro⟩,⟨h3,λj hj k hk=>True.intro⟩,⟨h4,λj hj k hk=>True.intro⟩,tv⟩
theorem VU{N A e a1 a2 a3 a4:Nat}{C:aF}(h0:e<N)(h1:a1<N)(h2:a2<N)(h3:a3<N)(h4:a4<N):∀ {m i:Nat},8*(i+m)+24<=N->mJ N (y9 A e a1 a2 a3 a4 C i m)
 |0,_,_=>True.intro
 |m+1,i,h=>by
  refine IQ ?_ (VU h0 h1 h2 h3 h4 qO);rcases Nat.beq i A with _|_
  ·have:=LX (C:=C) (N:=N) (m:=1) (i:=i) qO;simpa [lm] using this
  ·exact akx qO h0 h1 h2 h3 h4
theorem WU{M N:Nat}{e:bT}{R:List (Nat×aG)}(h:mJ M R)(hN:N+1<M):mJ M (og N e R):=
 ⟨⟨hN,λk hk=>True.intro⟩,⟨by omega,λk hk=>by show 0<M;omega⟩,h⟩
def Az(k:Nat)(C:aF):List (Nat×aG):=lm C 0 k
def Cf(k A:Nat)(C:aF):List (Nat×aG):=y9 A (8*A+27) (8*k+26) (8*k+27) (8*k+28) (8*k+29) C 0 k
def Ci(k A:Nat)(C:aF):List (Nat×aG):=y9 A (8*k+27) (8*k+28) (8*k+29) (8*k+30) (8*k+31) C 0 k
theorem Xc{k:Nat}{C:aF}{e:bT}(h:3<=k/\k<=5):Tl k (8*k+26) (og (8*k+24) e (Az k C)):=
 ⟨by omega,by rcases three h with rfl|rfl|rfl <;> exact RX rfl,by rcases three h with rfl|rfl|rfl <;> rfl,WU (LX qO) qO⟩
theorem Xa{k A:Nat}{C:aF}{e:bT}(h:Tag k A):Tl k (8*k+30) (og (8*k+24) e (Cf k A C)):=by
 have hk:3<=k/\k<=5/\A<k:=by unfold Tag at h;omega
 refine⟨by omega,?_,?_,WU (VU qO qO qO qO qO qO) qO⟩
 ·unfold Tag at h;rcases h with ⟨rfl,rfl⟩|⟨rfl,rfl⟩|⟨rfl,rfl⟩|⟨rfl,rfl⟩|⟨rfl,rfl⟩|⟨rfl,rfl⟩|⟨rfl,rfl⟩|⟨rfl,rfl⟩|⟨rfl,rfl⟩|⟨rfl,rfl⟩|⟨rfl,rfl⟩|⟨rfl,rfl⟩ <;> exact RX rfl
 ·unfold Tag at h;rcases h with ⟨rfl,rfl⟩|⟨rfl,rfl⟩|⟨rfl,rfl⟩|⟨rfl,rfl⟩|⟨rfl,rfl⟩|⟨rfl,rfl⟩|⟨rfl,rfl⟩|⟨rfl,rfl⟩|⟨rfl,rfl⟩|⟨rfl,rfl⟩|⟨rfl,rfl⟩|⟨rfl,rfl⟩ <;> rfl
theorem Xb{k A:Nat}{C:aF}{e:bT}(h:Tag k A):Tl k (8*k+32) (og (8*k+24) e (Ci k A C)):=by
 have hk:3<=k/\k<=5/\A<k:=by unfold Tag at h;omega
 refine⟨by omega,?_,?_,WU (VU qO qO qO qO qO qO) qO⟩
 ·unfold Tag at h;rcases h with ⟨rfl,rfl⟩|⟨rfl,rfl⟩|⟨rfl,rfl⟩|⟨rfl,rfl⟩|⟨rfl,rfl⟩|⟨rfl,rfl⟩|⟨rfl,rfl⟩|⟨rfl,rfl⟩|⟨rfl,rfl⟩|⟨rfl,rfl⟩|⟨rfl,rfl⟩|⟨rfl,rfl⟩ <;> exact RX rfl
 ·unfold Tag at h;rcases h with ⟨rfl,rfl⟩|⟨rfl,rfl⟩|⟨rfl,rfl⟩|⟨rfl,rfl⟩|⟨rfl,rfl⟩|⟨rfl,rfl⟩|⟨rfl,rfl⟩|⟨rfl,rfl⟩|⟨rfl,rfl⟩|⟨rfl,rfl⟩|⟨rfl,rfl⟩|⟨rfl,rfl⟩ <;> rfl
theorem y7.of{k N:Nat}{v U c s:Int}{fl:Nat->Int}{K:Nat}{C:aF}{R:List (Nat×aG)}(H:CG k v U fl c s K C)(h:∀(D:aF) (j:Nat),j<k->∃ e a1 a2 a3 a4,JZ ⟨gK k D++R,N⟩ (C.nd j) (8*j+24) e a1 a2 a3 a4):y7 k N C R:=λD x hx _=>by
 have hA:x.node.toNat<k:=hx.lt;obtain⟨e,a1,a2,a3,a4,hg⟩:=h D _ hA;obtain⟨h1,h2,h3,h4⟩:=H.vW hx;exact al6 hg _ _ h2 h3 h4
theorem arV{k:Nat}{C D:aF}{e:bT}(h:3<=k/\k<=5){j:Nat}(hj:j<k):∃ e0 a1 a2 a3 a4,JZ ⟨gK k D++og (8*k+24) e (Az k C),8*k+26⟩ (C.nd j) (8*j+24) e0 a1 a2 a3 a4:=by
 have ht:=Tag.of h hj;unfold Tag at ht;refine⟨8*j+27,8*j+28,8*j+29,8*j+30,8*j+31,?_⟩;rcases ht with ⟨rfl,rfl⟩|⟨rfl,rfl⟩|⟨rfl,rfl⟩|⟨rfl,rfl⟩|⟨rfl,rfl⟩|⟨rfl,rfl⟩|⟨rfl,rfl⟩|⟨rfl,rfl⟩|⟨rfl,rfl⟩|⟨rfl,rfl⟩|⟨rfl,rfl⟩|⟨rfl,rfl⟩
 all_goals exact⟨gz (aG.blk 23) (QY _ _),rfl,rfl,rfl,rfl,rfl,rfl,rfl,rfl,rfl⟩
theorem apR{k:Nat}{v U c s:Int}{fl:Nat->Int}{K:Nat}{C:aF}{e:bT}(H:CG k v U fl c s K C):y7 k (8*k+26) C (og (8*k+24) e (Az k C)):=y7.of H λD j hj=>arV H.iY hj
theorem aqr{k A:Nat}{C D:aF}{e:bT}(ht:Tag k A){j:Nat}(hj:j<k):∃ e0 a1 a2 a3 a4,JZ ⟨gK k D++og (8*k+24) e (Cf k A C),8*k+30⟩ (C.nd j) (8*j+24) e0 a1 a2 a3 a4:=by
 unfold Tag at ht;rcases ht with ⟨rfl,rfl⟩|⟨rfl,rfl⟩|⟨rfl,rfl⟩|⟨rfl,rfl⟩|⟨rfl,rfl⟩|⟨rfl,rfl⟩|⟨rfl,rfl⟩|⟨rfl,rfl⟩|⟨rfl,rfl⟩|⟨rfl,rfl⟩|⟨rfl,rfl⟩|⟨rfl,rfl⟩
 all_goals
  rcases j with _|_|_|_|_|j
  all_goals first
   |omega
   |exact⟨_,_,_,_,_,⟨gz (aG.blk 23) (QY _ _),rfl,rfl,rfl,rfl,rfl,rfl,rfl,rfl,rfl⟩⟩
   |exact⟨_,_,_,_,_,⟨(rfl:_=aG.blk 23 (Aa _ _ _ _ _ _ _)),rfl,rfl,rfl,rfl,rfl,rfl,rfl,rfl,rfl⟩⟩
theorem apP{k A:Nat}{v U c s:Int}{fl:Nat->Int}{K:Nat}{C:aF}{e:bT}(ht:Tag k A)(H:CG k v U fl c s K C):y7 k (8*k+30) C (og (8*k+24) e (Cf k A C)):=y7.of H λD j hj=>aqr ht hj
theorem aqs{k A:Nat}{C D:aF}{e:bT}(ht:Tag k A){j:Nat}(hj:j<k):∃ e0 a1 a2 a3 a4,JZ ⟨gK k D++og (8*k+24) e (Ci k A C),8*k+32⟩ (C.nd j) (8*j+24) e0 a1 a2 a3 a4:=by
 unfold Tag at ht;rcases ht with ⟨rfl,rfl⟩|⟨rfl,rfl⟩|⟨rfl,rfl⟩|⟨rfl,rfl⟩|⟨rfl,rfl⟩|⟨rfl,rfl⟩|⟨rfl,rfl⟩|⟨rfl,rfl⟩|⟨rfl,rfl⟩|⟨rfl,rfl⟩|⟨rfl,rfl⟩|⟨rfl,rfl⟩
 all_goals
  rcases j with _|_|_|_|_|j
  all_goals first
   |omega
   |exact⟨_,_,_,_,_,⟨gz (aG.blk 23) (QY _ _),rfl,rfl,rfl,rfl,rfl,rfl,rfl,rfl,rfl⟩⟩
   |exact⟨_,_,_,_,_,⟨(rfl:_=aG.blk 23 (Aa _ _ _ _ _ _ _)),rfl,rfl,rfl,rfl,rfl,rfl,rfl,rfl,rfl⟩⟩
theorem apQ{k A:Nat}{v U c s:Int}{fl:Nat->Int}{K:Nat}{C:aF}{e:bT}(ht:Tag k A)(H:CG k v U fl c s K C):y7 k (8*k+32) C (og (8*k+24) e (Ci k A C)):=y7.of H λD j hj=>aqs ht hj
end Go.Proofs.YtnibdnahojjcgaaGreat
