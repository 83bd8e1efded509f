/- Lemmas. -/
import Derived.Test.YtnibdnahojjcgaaGreatC40
import Derived.Test.YtnibdnahojjcgaaGreatC47
namespace Go.Proofs.YtnibdnahojjcgaaGreat
set_option linter.all false
set_option maxRecDepth 100000
set_option maxHeartbeats 0
open Go.RowKit Tryz
section
attribute [local irreducible] af
structure BD (n:Nat) (R:List (Nat×aK)):Prop where
 c:nI n R
 d:iJ (kV R)=true
def CJ{k:Nat}{C:aH}(hk:3<=k/\k<=5):BD (8*k+24) (CL k C):=⟨Eh (bF _),Nv hk⟩
def BD.ob{n M:Nat}{R:List (Nat×aK)}{t:ST}(q:Nat)(h:BD n R)(hst:t.st.drop q=R)(hP:Gi n (t.st.take q)=true)(hM:Nat.ble n M=true):pX M t R:=by
 have hM:=nb hM;have key:∀ Q:List (Nat×aK),(∀ p∈Q,p∈R)->pX M t Q:=by
  intro Q;induction Q with
  |nil=>exact λ_=>True.intro
  |cons p r ih=>
   intro hq;obtain⟨i,o⟩:=p;refine⟨?_,ih λp hp=>hq p (jA _ hp)⟩;have hm:=hq _ jL;have hi:i<n:=zk h.c _ hm;have hl:axA R i=o:=Fq h.d _ hm;have e:t.get i=o:=by
    show axA t.st i=o;rw[<-List.take_append_drop q t.st,hst];exact(Rf hP i hi).trans hl
   rw[e];refine⟨sV hi hM,?_⟩;obtain h0|⟨_,h1⟩:=yw (TS hM h.c) i
   ·rw[hl]at h0;subst h0;exact tv
   ·rw[hl]at h1;exact zf h1
 exact key _ λ_ h=>h
def aqO(R:List (Nat×aK))(hR:BD 48 R)(hN:af 16 [iV 3] e0 (λv t=>v=bI [.ptr 0 0,iV 0]/\t=⟨R,48⟩))(m:Int)(h0:0<=m/\m<=255)(hm:m % 3=0):af 6 [.d (.v (.int .u8 m))] e0 (λv t=>v=bI [.ptr 0 0,iV 3,.b true]/\t=⟨R,48⟩):=by
 refine ay func6 λX=>?_
 (repeat'(first|((with_reducible refine fP ?_);first|refine T.cut (x:=.region 1 _ _) ⟨25,[(5,iV 3)],e0⟩ ?_ ?_|refine aC ?_)|((conv=>whnf);first|(with_reducible refine fP ?_)|refine wK ?_|refine af.to hN ?_|refine ag.a ?_|refine bM qN qN (fH [.ptr 0 0,iV 3,.b true] rfl fr vw) ?_|refine ag.mk ?_ ?_)))<;>try exact cls
 all_goals first|exact hR.ob 0 rfl rfl rfl|(refine bf.mk rfl qN qN ⟨vq (ah iV ?_) tv,tv⟩ trivial;omega)
def aqN(m:Int)(h0:0<=m/\m<=255)(hm:m % 3=0):af 6 [.d (.v (.int .u8 m))] e0 (λv t=>v=bI [.ptr 0 0,iV 3,.b true]/\t=CS 3 (qp 3)):=aqO (CL 3 (qp 3)) (CJ (k:=3) qD) af0 m h0 hm
def aqM(R:List (Nat×aK))(hR:BD 56 R)(hN:af 16 [iV 4] e0 (λv t=>v=bI [.ptr 0 0,iV 0]/\t=⟨R,56⟩))(m:Int)(h0:0<=m/\m<=255)(hm:m % 3=1):af 6 [.d (.v (.int .u8 m))] e0 (λv t=>v=bI [.ptr 0 0,iV 4,.b true]/\t=⟨R,56⟩):=by
 refine ay func6 λX=>?_
 (repeat'(first|((with_reducible refine fP ?_);first|refine T.cut (x:=.region 1 _ _) ⟨25,[(5,iV 4)],e0⟩ ?_ ?_|refine aC ?_)|((conv=>whnf);first|(with_reducible refine fP ?_)|refine wK ?_|refine af.to hN ?_|refine ag.a ?_|refine bM qN qN (fH [.ptr 0 0,iV 4,.b true] rfl fr vw) ?_|refine ag.mk ?_ ?_)))<;>try exact cls
 all_goals first|exact hR.ob 0 rfl rfl rfl|(refine bf.mk rfl qN qN ⟨vq (ah iV ?_) tv,tv⟩ trivial;omega)
def aqL(m:Int)(h0:0<=m/\m<=255)(hm:m % 3=1):af 6 [.d (.v (.int .u8 m))] e0 (λv t=>v=bI [.ptr 0 0,iV 4,.b true]/\t=CS 4 (qp 4)):=aqM (CL 4 (qp 4)) (CJ (k:=4) qD) arI m h0 hm
def aqK(R:List (Nat×aK))(hR:BD 64 R)(hN:af 16 [iV 5] e0 (λv t=>v=bI [.ptr 0 0,iV 0]/\t=⟨R,64⟩))(m:Int)(h0:0<=m/\m<=255)(hm:m % 3=2):af 6 [.d (.v (.int .u8 m))] e0 (λv t=>v=bI [.ptr 0 0,iV 5,.b true]/\t=⟨R,64⟩):=by
 refine ay func6 λX=>?_
 (repeat'(first|((with_reducible refine fP ?_);first|refine T.cut (x:=.region 1 _ _) ⟨25,[(5,iV 5)],e0⟩ ?_ ?_|refine aC ?_)|((conv=>whnf);first|(with_reducible refine fP ?_)|refine wK ?_|refine af.to hN ?_|refine ag.a ?_|refine bM qN qN (fH [.ptr 0 0,iV 5,.b true] rfl fr vw) ?_|refine ag.mk ?_ ?_)))<;>try exact cls
 all_goals first|exact hR.ob 0 rfl rfl rfl|(refine bf.mk rfl qN qN ⟨vq (ah iV ?_) tv,tv⟩ trivial;omega)
def aqJ(m:Int)(h0:0<=m/\m<=255)(hm:m % 3=2):af 6 [.d (.v (.int .u8 m))] e0 (λv t=>v=bI [.ptr 0 0,iV 5,.b true]/\t=CS 5 (qp 5)):=aqK (CL 5 (qp 5)) (CJ (k:=5) qD) arH m h0 hm
end
