/- Lemmas. -/
import Derived.Test.YtnibdnahojjcgaaGreatC35
namespace Go.Proofs.YtnibdnahojjcgaaGreat
set_option linter.all false
set_option maxRecDepth 100000
set_option maxHeartbeats 0
open Go.RowKit Tryz
section
attribute [local irreducible] af
def af.to{f:Nat}{args:List V}{st t1:ST}{r:V}{K:V->ST->Prop}(h:af f args st (λv t=>v=r/\t=t1))(hk:K r t1):af f args st K:=h.mono λv t ⟨e1,e2⟩=>by subst e1 e2;exact hk
def jd.to{f:Nat}{args:List V}{st t1:ST}{r:V}{K:V->ST->Prop}(h:af f args st (λv t=>v=r/\t=t1))(hk:K r t1):jd f args st K:=jd.mk _ _ hk
def AU(b e a1 a2 a3 a4:Nat)(n:aA):Nat->V
 |0=>iV n.me|1=>iV n.many|2=>.ptr (b+1) 0|3=>iV n.bin|4=>iV n.ae.floor|5=>iV n.ae.term|6=>iV n.ae.cu|7=>.d (gY n.ae.log)
 |8=>iV n.role|9=>iV n.dN|10=>iV n.dn
 |11=>.d (dW n.st 0)|12=>.d (dW n.st 1)|13=>.d (dW n.st 2)|14=>.d (dW n.st 3)|15=>.d (dW n.st 4)|16=>.d (dW n.st 5)|17=>.d (dW n.st 6)
 |18=>.row e n.fV.length|19=>.row a1 n.ig.length|20=>.row a2 n.eF.length|21=>.row a3 n.next.length|_=>.row a4 n.gz.length
def EP(b e a1 a2 a3 a4:Nat)(n:aA):List (Nat×aK):=[(b,.Wp 23 (AU b e a1 a2 a3 a4 n)),(b+1,.Wp 5 (zN b n.aB)),(b+2,kL (n.aB.b++n.aB.dA)),(e,bQ 52 2 ji .z n.fV),(a1,tH n.ig),(a2,gJ n.eF),(a3,gJ n.next),(a4,gJ n.gz)]
def S1q(k A:Nat)(p:Nat->Value)(e a1 a2 a3 a4:Nat)(C:aH)(n:aA):List (Nat×aK):=[(0,.Wp 4 (Dw k C)),(1,.row 76 1 k (gx A (λ_ _=>.ptr 5 0) p)),(2,.Wp 4 (Dp C.au)),(3,uT (kH C.au)),(4,bQ 69 16 wo .z C.calls)]++EP 5 e a1 a2 a3 a4 n
abbrev MH(k A:Nat)(p:Nat->Value)(C:aH)(n:aA)(e:cO):ST:=⟨(14,xW e)::(13,xX)::S1q k A p 8 15 16 17 18 C n,19⟩
abbrev SS1(k A:Nat)(p:Nat->Value)(C:aH)(n:aA)(e:cO):ST:=⟨(14,xW e)::(13,xX)::S1q k A p 16 17 18 19 20 C n,21⟩
def acY{b N e a1 a2 a3 a4:Nat}{n:aA}(h:b+2<=N)(h0:e<N)(h1:a1<N)(h2:a2<N)(h3:a3<N)(h4:a4<N):∀ k,k<23->je (λi=>i<N) (AU b e a1 a2 a3 a4 n k):=λk hk=>by
 obtain _|_|_|_|_|_|_|_|_|_|_|_|_|_|_|_|_|_|_|_|_|_|_|k:=k
 all_goals first|exact tv|(show _<N;omega)
def aaR{b N e a1 a2 a3 a4:Nat}{n:aA}(h:(Nat.ble (b+2) N&&Nat.blt e N&&Nat.blt a1 N&&Nat.blt a2 N&&Nat.blt a3 N&&Nat.blt a4 N)=true):aW N (.Wp 23 (AU b e a1 a2 a3 a4 n)) (.Wp 23 (AU b e a1 a2 a3 a4 n)):=by
 simp only[qf]at h;obtain⟨⟨⟨⟨⟨h,h0⟩,h1⟩,h2⟩,h3⟩,h4⟩:=h;exact zf (acY (nb h) (mX h0) (mX h1) (mX h2) (mX h3) (mX h4))
def aez(k A:Nat)(p:Nat->Value)(C:aH)(n:aA)(e:cO)(l:List aV)(r:Int)(hs:F9 C.au l):af 23 [.ptr 0 0,.d (iU l),iV r] (MH k A p C n e) (λv t=>v=iV r/\t=MH k A p { C with au:=mP C.au l } n e):=by
 refine ay func23 λX=>?_
 (repeat'(first|((with_reducible refine fP ?_);(refine aC ?_))|((conv=>whnf);first|(with_reducible refine fP ?_)|refine fO [2,3] (YL C.au l hs.hl hs.hx hs.hp) ?_|refine ag.a ?_|refine bM qN qN qV ?_)))<;>try exact cls
 all_goals(try(repeat'(first|exact tv|refine an ⟨nb rfl,?_⟩ ?_|exact zV rfl|exact aaR rfl|exact aW.row rfl fv|exact xg rfl|refine fB rfl (λk hk=>dR ?_))))
 all_goals first|exact cm qV|exact cm qW|exact kk
def alW{n:aA}(h:sZ n=true):n.aB.down=false/\¬n.role=2/\(aS n (jh (n.ae.term+1) (n.me+1))).2=0:=by
 unfold sZ at h;rcases h1:n.aB.down with _|_ <;> rw[h1]at h
 ·rcases h2:decide (n.role=2) with _|_ <;> rw[h2]at h
  ·exact⟨rfl,bV h2,bT h⟩
  ·cases h
 ·cases h
def alX{n:aA}(h:sZ n=false):n.aB.down=false->¬n.role=2->¬(aS n (jh (n.ae.term+1) (n.me+1))).2=0:=λh1 h2 h3=>by
 unfold sZ at h;rw[h1,aT h2]at h;exact ai h3 (bV h)
def afA{n:aA}(h:LH n)(hst:sZ n=true):af 24 [.ptr 0 0] (NS n) (λv t=>v=bI [.d (iU (yH (eX n))),iV 0]/\t=NV (eX n)):=by
 obtain⟨h1,h2,h3⟩:=alW hst;exact aiY n h.many h.me ⟨h.me.1,by have:=h.me.2;have:=h.many;omega⟩ h.term h.hl h.hn h.hL h1 h2 h3 h.pK
def afB{n:aA}(h:LH n)(hst:sZ n=false):af 24 [.ptr 0 0] (NS n) (λv t=>v=bI [.d (iU (nD n).2.1),iV (nD n).2.2]/\t=NS (nD n).1):=
 aiZ n ⟨h.me.1,by have:=h.me.2;have:=h.many;omega⟩ h.term h.hn h.hL (alX hst)
def anH(k A:Nat)(p:Nat->Value)(C:aH)(n:aA)(e:cO)(h:LH n)(hst:sZ n=false)(hs:F9 C.au (nD n).2.1):af 22 [.ptr 5 0,.ptr 13 0] (SX k A p C n e) (λv t=>v=iV (nD n).2.2/\t=SX k A p { C with au:=mP C.au (nD n).2.1 } (nD n).1 e):=by
 refine ay func22 λX=>?_
 (repeat'(first|((with_reducible refine fP ?_);first|refine aC ?_|refine bU 1 [2,5] [o2,o0,o1,o3,o3,(1,1,true,[]),(2,2,false,[])] ?_)|((conv=>whnf);first|(with_reducible refine fP ?_)|refine mc ?_ ?_|refine Am [5,6,7,8,9,10,11,12] (afB h hst) ?_|refine NI (args':=[.ptr 0 0,.d (iU (nD n).2.1),iV (nD n).2.2]) (SX k A p C (nD n).1 e) rfl (by(repeat'(first|exact tv|refine an ⟨nb rfl,?_⟩ ?_|exact aW.row rfl fv|exact xg rfl|refine fB rfl (λk hk=>dR ?_)));all_goals first|exact cm qV|exact cm qW|exact kk) vw (jd.pre 2 (SV (e:=(nD n).2.2) hs) rfl rfl rfl rfl rfl Cm Cm trivial Ol vw ?_)|refine bM qN qN qV ?_)))<;>(try(refine dm.mk ?_;repeat'(first|exact tv|((conv=>whnf);first|exact rfl|refine fO [5,6,7,8,9,10,11,12] (afB h hst) ?_|refine JU (args':=[.ptr 0 0,.d (iU (nD n).2.1),iV (nD n).2.2]) (SX k A p C (nD n).1 e) rfl (by(repeat'(first|exact tv|refine an ⟨nb rfl,?_⟩ ?_|exact aW.row rfl fv|exact xg rfl|refine fB rfl (λk hk=>dR ?_)));all_goals first|exact cm qV|exact cm qW|exact kk) vw (af.pre 2 (SV (e:=(nD n).2.2) hs) rfl rfl rfl rfl rfl Cm Cm trivial Ol vw ?_)|refine an ?_ ?_|refine ag.mk ?_ ?_))))
 all_goals try exact cls
 all_goals(try(repeat'(first|exact tv|refine an ⟨nb rfl,?_⟩ ?_|exact DK rfl|exact zV rfl|exact aW.row rfl fv|exact xg rfl|refine fB rfl (λk hk=>dR ?_))))
 all_goals first|exact cm qV|exact cm qW|exact kk
def anG(k A:Nat)(p:Nat->Value)(C:aH)(n:aA)(e:cO)(h:LH n)(hst:sZ n=true)(hs:F9 C.au (yH (eX n))):af 22 [.ptr 5 0,.ptr 13 0] (SX k A p C n e) (λv t=>v=iV 0/\t=MH k A p { C with au:=mP C.au (yH (eX n)) } (eX n) e):=by
 refine ay func22 λX=>?_
 (repeat'(first|((with_reducible refine fP ?_);first|refine aC ?_|refine bU 1 [2,5] [o2,o0,o1,o3,o3,(1,1,true,[]),(2,2,false,[])] ?_)|((conv=>whnf);first|(with_reducible refine fP ?_)|refine mc ?_ ?_|refine Am [5,6,7,8,9,10,11,12] (afA h hst) ?_|refine NI (args':=[.ptr 0 0,.d (iU (yH (eX n))),iV 0]) (MH k A p C (eX n) e) rfl (by(repeat'(first|exact tv|refine an ⟨nb rfl,?_⟩ ?_|exact aW.row rfl fv|exact xg rfl|refine fB rfl (λk hk=>dR ?_)));all_goals first|exact cm qV|exact cm qW|exact kk) vw (jd.to (aez k A p C (eX n) e (yH (eX n)) 0 hs) ?_)|refine bM qN qN qV ?_)))<;>(try(refine dm.mk ?_;repeat'(first|exact tv|((conv=>whnf);first|exact rfl|refine fO [5,6,7,8,9,10,11,12] (afA h hst) ?_|refine JU (args':=[.ptr 0 0,.d (iU (yH (eX n))),iV 0]) (MH k A p C (eX n) e) rfl (by(repeat'(first|exact tv|refine an ⟨nb rfl,?_⟩ ?_|exact aW.row rfl fv|exact xg rfl|refine fB rfl (λk hk=>dR ?_)));all_goals first|exact cm qV|exact cm qW|exact kk) vw (af.to (aez k A p C (eX n) e (yH (eX n)) 0 hs) ?_)|refine an ?_ ?_|refine ag.mk ?_ ?_))))
 all_goals try exact cls
 all_goals(try(repeat'(first|exact tv|refine an ⟨nb rfl,?_⟩ ?_|exact zV rfl|exact aaR rfl|exact aW.row rfl fv|exact xg rfl|refine fB rfl (λk hk=>dR ?_))))
 all_goals first|exact cm qV|exact cm qW|exact kk
def as1{n:aA}{b:Int}{L:List aP}{t:List UInt8}(h:Qe n b L t)(hst:vS n b=false):af 30 [.ptr 0 0,iV b] (NS n) (λv t=>v=iV (DZ n b)/\t=NS n):=by
 have hE:¬BL n b L=0:=λe=>by
  unfold vS at hst;rw[h.err,e]at hst;cases hst
 rw[h.err];exact akY n b L t h.laid h.ok hE
def asZ{n:aA}{b:Int}{L:List aP}{t:List UInt8}(h:Qe n b L t)(hst:vS n b=true):af 30 [.ptr 0 0,iV b] (NS n) (λv t=>v=iV (wQ n b).2/\t=NU (wQ n b).1):=by
 have hE:BL n b L=0:=by
  unfold vS at hst;rw[h.err]at hst;exact bT hst
 obtain⟨h1,h2,h3,h4,h5⟩:=h.axy hE;rw[h.st];exact akX n b L t h.laid h.ok h1 h2 h3 h4 h5
def ajK(k A:Nat)(p:Nat->Value)(C:aH)(n:aA)(e:cO)(L:List aP)(t:List UInt8)(h:Qe n e.b L t)(hst:vS n e.b=false):af 29 [.ptr 5 0,.ptr 14 0] (SX k A p C n e) (λv t=>v=iV (DZ n e.b)/\t=SX k A p C n e):=by
 refine ay func29 λX=>?_
 (repeat'(first|((with_reducible refine fP ?_);(refine aC ?_))|((conv=>whnf);first|(with_reducible refine fP ?_)|refine fO [5,6,7,8,9,10,11,12] (as1 h hst) ?_|refine ag.a ?_|refine bM qN qN qV ?_)))<;>try exact cls
 all_goals(try(repeat'(first|exact tv|refine an ⟨nb rfl,?_⟩ ?_|exact aW.row rfl fv|exact xg rfl|refine fB rfl (λk hk=>dR ?_))))
 all_goals first|exact cm qV|exact cm qW|exact kk
def ajJ(k A:Nat)(p:Nat->Value)(C:aH)(n:aA)(e:cO)(L:List aP)(t:List UInt8)(h:Qe n e.b L t)(hst:vS n e.b=true):af 29 [.ptr 5 0,.ptr 14 0] (SX k A p C n e) (λv t=>v=iV (wQ n e.b).2/\t=SS1 k A p C (wQ n e.b).1 e):=by
 refine ay func29 λX=>?_
 (repeat'(first|((with_reducible refine fP ?_);(refine aC ?_))|((conv=>whnf);first|(with_reducible refine fP ?_)|refine fO [5,6,7,8,9,10,11,12] (asZ h hst) ?_|refine ag.a ?_|refine bM qN qN qV ?_)))<;>try exact cls
 all_goals(try(repeat'(first|exact tv|refine an ⟨nb rfl,?_⟩ ?_|exact aW.row rfl fv|exact xg rfl|refine fB rfl (λk hk=>dR ?_))))
 all_goals first|exact cm qV|exact cm qW|exact kk
end
def Tag.of{k A:Nat}(h:3<=k/\k<=5)(hA:A<k):Tag k A:=auK h hA
def zS(A e a1 a2 a3 a4:Nat)(C:aH):Nat->Nat->List (Nat×aK)
 |_,0=>[]
 |i,m+1=>(bif Nat.beq i A then EP (8*i+24) e a1 a2 a3 a4 (C.at i) else yl (8*i+24) (C.at i))++zS A e a1 a2 a3 a4 C (i+1) m
def CLq(k A e a1 a2 a3 a4:Nat)(C:aH):List (Nat×aK):=[(0,.Wp 4 (Dw k C)),(1,Dn k),(2,.Wp 4 (Dp C.au)),(3,uT (kH C.au)),(4,bQ 69 16 wo .z C.calls)]++zS A e a1 a2 a3 a4 C 0 k
abbrev CXT(k A:Nat)(C:aH)(e:cO):ST:=⟨(8*k+25,xW e)::(8*k+24,xX)::CLq k A (8*A+27) (8*k+26) (8*k+27) (8*k+28) (8*k+29) C,8*k+30⟩
abbrev CXS(k A:Nat)(C:aH)(e:cO):ST:=⟨(8*k+25,xW e)::(8*k+24,xX)::CLq k A (8*k+27) (8*k+28) (8*k+29) (8*k+30) (8*k+31) C,8*k+32⟩
def aiK{k A:Nat}(tZ:Tag k A){f:Nat}{us uD:List V}{r:V}{C C':aH}{n':aA}{e:cO}(hC:C'=⟨λj=>bif Nat.beq j A then n' else C.nd j,C'.au,C'.calls,C'.steps⟩)(h:∀ p,af f uD (SX k A p C (C.at A) e) (λv t=>v=r/\t=MH k A p C' n' e))(ha:∀ φ:Nat->Option Nat,φ 0=some 0->φ (8*A+24)=some 5->φ (8*k+24)=some 13->φ (8*k+25)=some 14->lI 15 φ us uD)(hr:∀(φ:Nat->Option Nat) (N:Nat),VW N (dI φ r) r):af f us (CX k C e) (λv t=>v=r/\t=CXT k A C' e):=by
 obtain⟨Qo,ahX,calls',steps'⟩:=C';have hC:Qo=λj=>bif Nat.beq j A then n' else C.nd j:=ah aH.nd hC
 subst hC;exact Wv tZ h ha hr (show 8*k+26<=8*k+30 by omega) tg (λp=>VC)
def aiL{k A:Nat}(tZ:Tag k A){f:Nat}{us uD:List V}{r:V}{C C':aH}{n':aA}{e:cO}(hC:C'=⟨λj=>bif Nat.beq j A then n' else C.nd j,C'.au,C'.calls,C'.steps⟩)(h:∀ p,af f uD (SX k A p C (C.at A) e) (λv t=>v=r/\t=SS1 k A p C' n' e))(ha:∀ φ:Nat->Option Nat,φ 0=some 0->φ (8*A+24)=some 5->φ (8*k+24)=some 13->φ (8*k+25)=some 14->lI 15 φ us uD)(hr:∀(φ:Nat->Option Nat) (N:Nat),VW N (dI φ r) r):af f us (CX k C e) (λv t=>v=r/\t=CXS k A C' e):=by
 obtain⟨Qo,ahX,calls',steps'⟩:=C';have hC:Qo=λj=>bif Nat.beq j A then n' else C.nd j:=ah aH.nd hC
 subst hC;exact Wv tZ h ha hr (show 8*k+26<=8*k+32 by omega) tg (λp=>VC)
def GI(A:Nat):List Nat:=[8*A+24,8*A+25,8*A+26,8*A+27,8*A+28,8*A+29,8*A+30,8*A+31]
def abY{k A:Nat}(tZ:Tag k A){f:Nat}{us uD:List V}{r:V}{C:aH}{n':aA}(h:af f uD (NS (C.at A)) (λv t=>v=r/\t=NS n'))(ha:∀ φ:Nat->Option Nat,φ (8*A+24)=some 0->lI 8 φ us uD)(hr:∀(φ:Nat->Option Nat) (N:Nat),VW N (dI φ r) r):af f us (CS k C) (λv t=>v=r/\t=CS k (C.put A n')):=by
 have hn:iJ (GI A)=true:=tg;have hs:sQ (GI A) (8*k+24)=true:=tg;have h5:bY (GI A) (8*A+24)=some 0:=tg;have hO:(CS k (C.put A n')).nx<=(tq (CS k C) (GI A) (NS n')).nx/\pX (CS k (C.put A n')).nx (tq (CS k C) (GI A) (NS n')) (CS k (C.put A n')).st:=VC;refine Wu (af.frame (aI:=GI A) (K:=λv t=>v=pR (GI A) (8*k+24) r/\t=tq (CS k C) (GI A) (NS n')) h hn (J5 hs) rfl (ha _ h5) tI0 (λv t h12=>by obtain⟨h1,h2⟩:=h12;subst h1 h2;exact⟨rfl,rfl⟩)) (bF _) (λv t h12=>?_);obtain⟨h1,h2⟩:=h12;subst h1 h2;exact⟨hO.1,hr _ _,hO.2⟩
def Xz(C:aH)(A:Nat):C.put A (C.at A)=C:=by
 have:(λj=>bif Nat.beq j A then C.nd A else C.nd j)=C.nd:=funext λj=>by
  rcases e:Nat.beq j A with _|_
  ·rfl
  ·rw[Nat.eq_of_beq_eq_true e];rfl
 show(⟨λj=>bif Nat.beq j A then C.nd A else C.nd j,C.au,C.calls,C.steps⟩:aH)=C;rw[this]
def aax{φ:Nat->Option Nat}{N b:Nat}{l:List V}(h:φ b=some 0)(hN:0<N)(hl:lI N φ l l):lI N φ (.ptr b 0::l) (.ptr 0 0::l):=⟨oG h hN,hl⟩
def anX{k A:Nat}(tZ:Tag k A)(C:aH)(hs:uO (C.at A).st)(hl:DT (C.at A).ae.log):af 43 [.ptr (8*A+24) 0] (CS k C) (λv s=>v=Dl (iO (C.at A))/\s=CS k C):=by
 have:=abY tZ (C:=C) (n':=C.at A) (us:=[.ptr (8*A+24) 0]) (aqp (C.at A) hs hl) (λφ h=>aax h qD True.intro) (λφ N=>VW.agg λk hk=>qC);rwa [Xz]at this
def aqm{n:aA}{x:aV}{m:Nat}{os:List (Option aF)}(H:IV n x m os):af 70 [.ptr 0 0,jT x] (NS n) (NR (FO n x m os)):=by
 have hk:x.kind=1\/x.kind=2\/x.kind=3\/x.kind=4:=by have:=H.kd;omega
 obtain hk|hk|hk|hk:=hk
 ·exact ai3 n x m os H hk
 ·exact ai2 n x m os H hk
 ·exact ai1 n x m os H hk
 ·exact ai0 n x m os H hk
def anV{k A:Nat}(tZ:Tag k A)(C:aH)(x:aV)(H:IV (C.at A) x k (pW (nG (C.at A) x) x)):af 70 [.ptr (8*A+24) 0,jT x] (CS k C) (λv s=>v=bI [.d (iU (uk (C.at A) x k).2.1),iV (uk (C.at A) x k).2.2]/\s=CS k (C.put A (uk (C.at A) x k).1)):=
 abY tZ (us:=[.ptr (8*A+24) 0,jT x]) (r:=bI [.d (iU (uk (C.at A) x k).2.1),iV (uk (C.at A) x k).2.2]) (n':=(uk (C.at A) x k).1) (aqm H) (λφ h=>aax h qD ⟨VW.agg λk hk=>qC,True.intro⟩) (λφ N=>fH [.d (iU (uk (C.at A) x k).2.1),iV (uk (C.at A) x k).2.2] rfl (λk hk=>rfl) ⟨qC,qC,True.intro⟩)
