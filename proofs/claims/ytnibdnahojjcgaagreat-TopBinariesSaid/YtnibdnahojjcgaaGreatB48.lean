/- A part of the proof. -/
import Derived.Test.YtnibdnahojjcgaaGreatB45
import Derived.Test.YtnibdnahojjcgaaGreatB46
namespace Go.Proofs.YtnibdnahojjcgaaGreat
set_option maxRecDepth 100000
set_option maxHeartbeats 16000000
set_option linter.unusedVariables false
set_option linter.unusedSimpArgs false
open Go.RowKit
section
attribute [local irreducible] ae
structure uu (n:Nat) (R:List (Nat×aG)):Prop where
 c:mJ n R
 d:ik (kF R)=true
theorem atn{k:Nat}{C:aF}(hk:3<=k/\k<=5):uu (8*k+24) (CL k C):=⟨Du (bu _),Lj hk⟩
theorem uu.ob{n M:Nat}{R:List (Nat×aG)}{t:ST}(q:Nat)(h:uu n R)(hst:t.st.drop q=R)(hP:EW n (t.st.take q)=true)(hM:Nat.ble n M=true):qB M t R:=by
 have hM:=nb hM;have key:∀ Q:List (Nat×aG),(∀ p∈Q,p∈R)->qB M t Q:=by
  intro Q;induction Q with
  |nil=>exact λ_=>True.intro
  |cons p r ih=>
   intro hq;obtain⟨i,o⟩:=p;refine⟨?_,ih λp hp=>hq p (je _ hp)⟩;have hm:=hq _ jC;have hi:i<n:=yJ h.c _ hm;have hl:dM R i=o:=Et h.d _ hm;have e:t.get i=o:=by
    show dM t.st i=o;rw[<-List.take_append_drop q t.st,hst];exact(Pn hP i hi).trans hl
   rw[e];refine⟨su hi hM,?_⟩;rcases xC (QJ hM h.c) i with h0|⟨_,h1⟩
   ·rw[hl]at h0;subst h0;exact tv
   ·rw[hl]at h1;exact as2 h1
 exact key _ λ_ h=>h
theorem amS(R:List (Nat×aG))(hR:uu 48 R)(hN:ae 16 [iV 3] e0 (λv t=>v=bQ [.ptr 0 0,iV 0]/\t=⟨R,48⟩))(m:Int)(h0:0<=m/\m<=255)(hm:m % 3=0):ae 6 [.d (.v (.int .u8 m))] e0 (λv t=>v=bQ [.ptr 0 0,iV 3,.b true]/\t=⟨R,48⟩):=by
 refine asz Tryz.func6 λX=>?_
 (repeat' (first|((with_reducible refine dI ?_);first|refine T.cut (x:=.region 1 _ _) ⟨25,[(5,iV 3)],e0⟩ ?_ ?_|refine oz ?_)|((conv=>whnf);first|(with_reducible refine dI ?_)|refine qF ?_|refine ae.to hN ?_|refine ag.a ?_|refine asC qN qN (asG [.ptr 0 0,iV 3,.b true] rfl fr vw) ?_|refine ag.mk ?_ ?_)))<;>try exact aB
 all_goals first|exact hR.ob 0 rfl rfl rfl|(refine aV.mk rfl qN qN ⟨vq (gz iV ?_) tv,tv⟩ trivial;omega)
theorem amR(m:Int)(h0:0<=m/\m<=255)(hm:m % 3=0):ae 6 [.d (.v (.int .u8 m))] e0 (λv t=>v=bQ [.ptr 0 0,iV 3,.b true]/\t=CS 3 (rC 3)):=amS (CL 3 (rC 3)) (atn (k:=3) qD) adD m h0 hm
theorem amQ(R:List (Nat×aG))(hR:uu 56 R)(hN:ae 16 [iV 4] e0 (λv t=>v=bQ [.ptr 0 0,iV 0]/\t=⟨R,56⟩))(m:Int)(h0:0<=m/\m<=255)(hm:m % 3=1):ae 6 [.d (.v (.int .u8 m))] e0 (λv t=>v=bQ [.ptr 0 0,iV 4,.b true]/\t=⟨R,56⟩):=by
 refine asz Tryz.func6 λX=>?_
 (repeat' (first|((with_reducible refine dI ?_);first|refine T.cut (x:=.region 1 _ _) ⟨25,[(5,iV 4)],e0⟩ ?_ ?_|refine oz ?_)|((conv=>whnf);first|(with_reducible refine dI ?_)|refine qF ?_|refine ae.to hN ?_|refine ag.a ?_|refine asC qN qN (asG [.ptr 0 0,iV 4,.b true] rfl fr vw) ?_|refine ag.mk ?_ ?_)))<;>try exact aB
 all_goals first|exact hR.ob 0 rfl rfl rfl|(refine aV.mk rfl qN qN ⟨vq (gz iV ?_) tv,tv⟩ trivial;omega)
theorem amP(m:Int)(h0:0<=m/\m<=255)(hm:m % 3=1):ae 6 [.d (.v (.int .u8 m))] e0 (λv t=>v=bQ [.ptr 0 0,iV 4,.b true]/\t=CS 4 (rC 4)):=amQ (CL 4 (rC 4)) (atn (k:=4) qD) anz m h0 hm
theorem amO(R:List (Nat×aG))(hR:uu 64 R)(hN:ae 16 [iV 5] e0 (λv t=>v=bQ [.ptr 0 0,iV 0]/\t=⟨R,64⟩))(m:Int)(h0:0<=m/\m<=255)(hm:m % 3=2):ae 6 [.d (.v (.int .u8 m))] e0 (λv t=>v=bQ [.ptr 0 0,iV 5,.b true]/\t=⟨R,64⟩):=by
 refine asz Tryz.func6 λX=>?_
 (repeat' (first|((with_reducible refine dI ?_);first|refine T.cut (x:=.region 1 _ _) ⟨25,[(5,iV 5)],e0⟩ ?_ ?_|refine oz ?_)|((conv=>whnf);first|(with_reducible refine dI ?_)|refine qF ?_|refine ae.to hN ?_|refine ag.a ?_|refine asC qN qN (asG [.ptr 0 0,iV 5,.b true] rfl fr vw) ?_|refine ag.mk ?_ ?_)))<;>try exact aB
 all_goals first|exact hR.ob 0 rfl rfl rfl|(refine aV.mk rfl qN qN ⟨vq (gz iV ?_) tv,tv⟩ trivial;omega)
theorem amN(m:Int)(h0:0<=m/\m<=255)(hm:m % 3=2):ae 6 [.d (.v (.int .u8 m))] e0 (λv t=>v=bQ [.ptr 0 0,iV 5,.b true]/\t=CS 5 (rC 5)):=amO (CL 5 (rC 5)) (atn (k:=5) qD) anx m h0 hm
end
end Go.Proofs.YtnibdnahojjcgaaGreat
