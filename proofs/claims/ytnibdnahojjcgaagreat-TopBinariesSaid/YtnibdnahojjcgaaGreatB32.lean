/- A part of the proof. -/
import Derived.Test.YtnibdnahojjcgaaGreatB28
import Derived.Test.YtnibdnahojjcgaaGreatB29
import Derived.Test.YtnibdnahojjcgaaGreatB30
namespace Go.Proofs.YtnibdnahojjcgaaGreat
set_option maxRecDepth 100000
set_option maxHeartbeats 16000000
set_option linter.unusedVariables false
set_option linter.unusedSimpArgs false
open Go.RowKit
def oD(n:az)(c:aI):az×Int×Int×Int:=
 bif n.aA.down then (n,0,0,30) else bif !decide (n.dn=2) then (n,0,0,33)
 else bif !decide (qJ c n.st.version=0) then (n,0,0,qJ c n.st.version)
 else bif (bif decide (c.kind=8) then !decide (c.n=n.st.version+1) else false) then (n,0,0,1)
 else bif (bif decide (c.kind=8) then !zS n.st.version n.fD else false) then (n,0,0,34)
 else bif decide (64<(n.ah.log.length:Int)+1) then (n,0,0,20)
 else bif !decide ((aW n [(⟨3,(n.ah.log.length:Int)+1,n.ah.term,gU c⟩:aT)]).2=0) then ((aW n [(⟨3,(n.ah.log.length:Int)+1,n.ah.term,gU c⟩:aT)]).1,0,0,(aW n [(⟨3,(n.ah.log.length:Int)+1,n.ah.term,gU c⟩:aT)]).2) else ((aW n [(⟨3,(n.ah.log.length:Int)+1,n.ah.term,gU c⟩:aT)]).1,(n.ah.log.length:Int)+1,n.ah.term,0)
def CR(q:az×Int×Int×Int)(v:V)(t:ST):Prop:=v=bQ [iV q.2.1,iV q.2.2.1,iV q.2.2.2]/\t=NS q.1
theorem CR.of{t0:ST}{X:Cx t0}{v:V}{t:ST}{p q:az×Int×Int×Int}(e:q=p)(h:Fin X v t (CR p)):Fin X v t (CR q):=e▸h
theorem ad7{c:aI}{v:Int}(hz:nZ c)(h:(!decide (qJ c v=0))=false):fZ c v:=LM (Og h) hz
theorem amq{c g:Nat->V}{R:aT}{j k:Nat}(hj:j<1)(hk:k<4)(e0:g 0 = .d (oH R 0))(e1:g 1 = .d (oH R 1))(e2:g 2 = .d (oH R 2))(e3:g 3 = .d (oH R 3)):nU c (0*4) 4 g (j*4+k) = .d (oH (([R]:List aT).getD j .z) k):=by
 obtain rfl:j=0:=Nat.lt_one_iff.1 hj;rcases k with _|_|_|_|k
 ·exact e0
 ·exact e1
 ·exact e2
 ·exact e3
 ·omega
theorem nT.mk{p q:Prop}(h:p)(hq:q):q:=hq
theorem amE(n:az)(c:aI)(hz:nZ c)(hv : -1000000<=n.st.version/\n.st.version<=1000000)(hb:n.fD.length<=1000)(hl:n.ah.log.length<=1000)(hn:n.aA.down=false->vI n)(hL:fZ c n.st.version->¬(64<(n.ah.log.length:Int)+1)->lM n.ah [(⟨3,(n.ah.log.length:Int)+1,n.ah.term,gU c⟩:aT)]):ae 60 [.ptr 0 0,jI c] (NS n) (CR (oD n c)):=by
 refine asz Tryz.func60 λX=>?_
 (repeat' (first|refine att (id:=19) (pre:=(mW Tryz.f60 19).toList.take 8) (vH:=(mW Tryz.f60 19).toList.drop 8) rfl rfl ?_|refine oz ?_|refine asD 13 [] [o0,o0,o0,o0,o0,o0,o0,o0,o0,o0,o0,o0,o0,o0,o0,o0] ?_|refine mc ?_ ?_|refine aU _ (ed ((Conv.dC (i:=10) (h:=λj=>oH (([(⟨3,(n.ah.log.length:Int)+1,n.ah.term,gU c⟩:aT)]).getD j .z)) (jB.of (n:=1) (z:=4) (E:=138) qN rfl (λj hj k hk=>amq hj hk rfl rfl rfl rfl))).trans (Conv.le (s2:=⟨98,[(0,.ptr 0 0),(4,iV ((n.ah.log.length:Int)+1)),(5,iV n.ah.term),(84,.ptr 0 0),(91,.d (iq [(⟨3,(n.ah.log.length:Int)+1,n.ah.term,gU c⟩:aT)]))],NS n⟩) ?_)) ?_)|refine asH [0,1,2,3,4,5,6,7] (Dc n [(⟨3,(n.ah.log.length:Int)+1,n.ah.term,gU c⟩:aT)] (hL (ad7 hz aj) (bJ aj)) (hn aj)) ?_|refine asH [1,2] (yM n.aA) ?_|refine asA (Q4 c n.st.version hz.chunks) ?_|refine aU _ (ed (λht=>asT (al9 n.st.version n.fD (by omega)) tv bw ⟨rfl,rfl⟩) ?_)|refine asA (anl c n.ah.term n.st.version (ad7 hz aj)) ?_|refine ai.n (λh=>?_)|refine ai.mk (λh=>?_) (λh=>?_)|refine ag.a ?_|(refine nT.mk (p:=n.aA.down=true) ?_ ?_;exact h;refine CR.of (p:=(n,0,0,30)) ?_ (asC qN qN (asG [iV (0),iV (0),iV (30)] rfl fr vw) ?_))|(refine nT.mk (p:=(!decide (n.dn=2))=true) ?_ ?_;exact h;refine CR.of (p:=(n,0,0,33)) ?_ (asC qN qN (asG [iV (0),iV (0),iV (33)] rfl fr vw) ?_))|(refine nT.mk (p:=(!decide (qJ c n.st.version=0))=true) ?_ ?_;exact h;refine CR.of (p:=(n,0,0,qJ c n.st.version)) ?_ (asC qN qN (asG [iV (0),iV (0),iV (qJ c n.st.version)] rfl fr vw) ?_))|(refine nT.mk (p:=(bif decide (c.kind=8) then !decide (c.n=n.st.version+1) else false)=true) ?_ ?_;exact h;refine CR.of (p:=(n,0,0,1)) ?_ (asC qN qN (asG [iV (0),iV (0),iV (1)] rfl fr vw) ?_))|(refine nT.mk (p:=(bif decide (c.kind=8) then !zS n.st.version n.fD else false)=true) ?_ ?_;exact h;refine CR.of (p:=(n,0,0,34)) ?_ (asC qN qN (asG [iV (0),iV (0),iV (34)] rfl fr vw) ?_))|(refine nT.mk (p:=decide (64<(n.ah.log.length:Int)+1)=true) ?_ ?_;exact h;refine CR.of (p:=(n,0,0,20)) ?_ (asC qN qN (asG [iV (0),iV (0),iV (20)] rfl fr vw) ?_))|(refine nT.mk (p:=(!decide ((aW n [(⟨3,(n.ah.log.length:Int)+1,n.ah.term,gU c⟩:aT)]).2=0))=true) ?_ ?_;exact h;refine CR.of (p:=((aW n [(⟨3,(n.ah.log.length:Int)+1,n.ah.term,gU c⟩:aT)]).1,0,0,(aW n [(⟨3,(n.ah.log.length:Int)+1,n.ah.term,gU c⟩:aT)]).2)) ?_ (asC qN qN (asG [iV (0),iV (0),iV ((aW n [(⟨3,(n.ah.log.length:Int)+1,n.ah.term,gU c⟩:aT)]).2)] rfl fr vw) ?_))|refine CR.of (p:=((aW n [(⟨3,(n.ah.log.length:Int)+1,n.ah.term,gU c⟩:aT)]).1,(n.ah.log.length:Int)+1,n.ah.term,0)) ?_ (asC qN qN (asG [iV ((n.ah.log.length:Int)+1),iV (n.ah.term),iV (0)] rfl fr vw) ?_)|refine ag.mk ?_ ?_))<;>(try(refine dh.mk ?_;repeat' (first|exact tv|exact rfl|refine an ?_ ?_|refine ag.mk ?_ ?_)))
 all_goals try exact aB
 all_goals (try(refine aV.mk rfl qN qN ?_ ?_ <;> repeat' (first|exact tv|exact qV|exact qW|refine an ⟨nb rfl,asE rfl (λk hk=>asB ?_)⟩ ?_|refine an ⟨nb rfl,af.row ?_ (λj hj k hk=>asB ?_)⟩ ?_|refine an ?_ ?_)))
 all_goals first|exact rfl|exact cm qV|(unfold oD;simp only[*,dR,di];done)|exact qM|exact kk
end Go.Proofs.YtnibdnahojjcgaaGreat
