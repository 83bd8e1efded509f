/- A part of the proof. -/
import Derived.Test.YtnibdnahojjcgaaGreatB37
import Derived.Test.YtnibdnahojjcgaaGreatB39
namespace Go.Proofs.YtnibdnahojjcgaaGreat
set_option maxRecDepth 100000
set_option maxHeartbeats 16000000
set_option linter.unusedVariables false
set_option linter.unusedSimpArgs false
open Go.RowKit
section
attribute [local irreducible] ae
abbrev NV(n:az):ST:=⟨[(0,.blk 23 (JO n 3 8 9 10 11)),(1,.blk 5 (sO n.aA)),(2,iy (n.aA.b++n.aA.bU)),(3,dw 52 2 jU .z n.fF),(8,sK n.iL),(9,fM n.fD),(10,fM n.next),(11,fM n.fJ)],12⟩
def wR(n:az):az×Int:=aW n (kP (n.ah.term+1) (n.me+1))
def vS(n:az):az:={ (wR n).1 with dn:=1 }
theorem aoe{n:az}(h:3<=n.many/\n.many<=5):0<=(vS n).many/\(vS n).many<=1000:=by
 have e:(vS n).many=n.many:=rfl;rw[e];omega
def fB(n:az):az:={ (wR n).1 with dn:=1,iL:=(List.replicate n.many.toNat false).set n.me.toNat true,fD:=(List.replicate n.many.toNat 0).set n.me.toNat n.bin,next:=List.replicate n.many.toNat 0,fJ:=List.replicate n.many.toNat 0 }
def D7(n:az)(d:Int):aP:={ rH n 1 d with a:=(n.ah.log.length:Int),b:=DI n.ah.log }
def xX(n:az):List aP:=(gY n n.many.toNat).map (D7 n)
def nP(n:az):az×List aP×Int:=
 bif n.aA.down then (n,[],30) else bif decide (n.dn=2) then (n,[],0) else ((wR n).1,[],(wR n).2)
theorem Wq{α:Type}{m j:Nat}{z:α}:(List.replicate m z).getD j z=z:=by
 rw[bC,List.getElem?_replicate];split <;> rfl
theorem aju{p m:Nat}{v:Int}{g:Nat->V}(hp:p<m){j k:Nat}(hk:k<1)(e:g 0=iV v):lN (λ_ k=>iE 3 k) p 0 1 g j k=V.d (iD (((List.replicate m (0:Int)).set p v).getD j 0)):=by
 refine Eq.trans ?_ (I5 (l:=List.replicate m 0) (p:=p) (v:=v) (g:=g) (by rw[List.length_replicate];exact hp) hk e);obtain rfl:k=0:=Nat.lt_one_iff.1 hk;unfold lN;cases Nat.beq j p
 ·show iE 3 0=V.d (iD ((List.replicate m (0:Int)).getD j 0));rw[Wq];rfl
 ·rfl
theorem ajv{p m:Nat}{v:Bool}{g:Nat->V}(hp:p<m){j k:Nat}(hk:k<1)(e:g 0 = .b v):lN (λ_ k=>iE 4 k) p 0 1 g j k=V.d (bD (((List.replicate m false).set p v).getD j false)):=by
 refine Eq.trans ?_ (abW (l:=List.replicate m false) (p:=p) (v:=v) (g:=g) (by rw[List.length_replicate];exact hp) hk e);obtain rfl:k=0:=Nat.lt_one_iff.1 hk;unfold lN;cases Nat.beq j p
 ·show iE 4 0=V.d (bD ((List.replicate m false).getD j false));rw[Wq];rfl
 ·rfl
theorem KP{n:az}:(vS n).many=n.many:=by
 unfold vS wR aW;exact rfl
theorem alB{n:az}:(vS n).me=n.me:=by
 unfold vS wR aW;exact rfl
theorem aeG{n:az}:(fB n).iL.length=n.many.toNat:=by
 show((List.replicate n.many.toNat false).set n.me.toNat true).length=_;rw[oK,List.length_replicate]
theorem aeJ{n:az}:(fB n).fD.length=n.many.toNat:=by
 show((List.replicate n.many.toNat (0:Int)).set n.me.toNat n.bin).length=_;rw[oK,List.length_replicate]
theorem aeI{n:az}:(fB n).next.length=n.many.toNat:=List.length_replicate
theorem aeH{n:az}:(fB n).fJ.length=n.many.toNat:=List.length_replicate
theorem aiJ{n:az}:(fB n).many=n.many:=by
 unfold fB wR aW;exact rfl
theorem alz{n:az}(h:3<=n.many/\n.many<=5):(fB n).many=((n.many.toNat:Nat):Int):=by
 rw[aiJ];omega
theorem abb{n:az}(h:3<=n.many/\n.many<=5):n.many.toNat<=5:=qO
theorem alA{n:az}(h:(wR n).1.ah.log.length<=1000):(fB n).ah.log.length<100000:=by
 have e:(fB n).ah=(wR n).1.ah:=rfl;rw[e];omega
theorem T.TB(n0 n:az)(hm:0<=n.many/\n.many<=1000){X:Cx (NS n0)}{Q:Exit->AS->Prop}(hq:Q .normal ⟨132,ru (mW Tryz.f24 12).toList (XO n)++[(0,.ptr 0 0)],dX n true true true true true⟩):T X (.region 12 (mW Tryz.f24 12) true) Q ⟨132,[(0,.ptr 0 0)],NS n⟩:=alf n0 n hm hq
theorem ajt{m j k:Nat}(hk:k<1):iE 3 k=V.d (iD ((List.replicate m (0:Int)).getD j 0)):=by
 obtain rfl:k=0:=Nat.lt_one_iff.1 hk;rw[Wq];rfl
theorem agk(n:az)(hm:3<=n.many/\n.many<=5)(asw:0<=n.me/\n.me<n.many)(uP:0<=n.me/\n.me<5)(hT : -10<=n.ah.term/\n.ah.term<1048576)(hl:n.ah.log.length<=1000)(hn:n.aA.down=false->vI n)(hL:lM n.ah (kP (n.ah.term+1) (n.me+1)))(hu:n.aA.down=false)(hr:¬n.dn=2)(hq:(aW n (kP (n.ah.term+1) (n.me+1))).2=0)(pq:(wR n).1.ah.log.length<=1000):ae 24 [.ptr 0 0] (NS n) (λv t=>v=bQ [.d (gu (xX (fB n))),iV 0]/\t=NV (fB n)):=by
 refine asz Tryz.func24 λX=>?_
 (repeat' (first|((with_reducible refine dI ?_);first|refine T.cut (x:=.region 11 _ _) ⟨132,[(0,.ptr 0 0)],NS (vS n)⟩ ?_ ?_|refine T.cut (x:=.region 13 _ _) ⟨132,[(0,.ptr 0 0)],NV (fB n)⟩ ?_ ?_|refine att (id:=8) (pre:=(mW Tryz.f24 8).toList.take 2) (vH:=(mW Tryz.f24 8).toList.drop 2) rfl rfl ?_|refine asW (c:=.seq (.seq (.region 16 _ _) _) _) 9 126 (λj k=>.d (jF (([]:List aP).getD j .z) k)) rfl rfl qN (T.seq ?_)|refine T.TB n (vS n) (aoe hm) ?_|refine oz ?_|refine asD 5 [9] [o0,o0,o0,o0,o0,o0,o0,o0,o0,o1,o3,o3,o3,o3,o3] ?_|refine asD 13 [26,28] [o0,o0,o0,o0,o0,o0,o0,o0,o0,o0,o0,o0,o0,o0,o0,o0,o0,o0,o0,o0,o0,o0,o0,o0,o0,o0,o1,o3,(1,1,true,[])] ?_|refine asI (gY (fB n) n.many.toNat).length (λi (a:Unit)=>⟨132,[(0,.ptr 0 0),(7,iV ((fB n).ah.log.length:Int)),(8,iV (DI (fB n).ah.log)),(9,.row 12 (((gY (fB n) n.many.toNat).take i).map (D7 (fB n))).length),(113,.d (iH (gY (fB n) n.many.toNat))),(114,iV (gY (fB n) n.many.toNat).length),(115,iV i)],⟨[(0,.blk 23 (JO (fB n) 3 8 9 10 11)),(1,.blk 5 (sO (fB n).aA)),(2,iy ((fB n).aA.b++(fB n).aA.bU)),(3,dw 52 2 jU .z (fB n).fF),(8,sK (fB n).iL),(9,fM (fB n).fD),(10,fM (fB n).next),(11,fM (fB n).fJ),(12,dw 126 10 jF .z (((gY (fB n) n.many.toNat).take i).map (D7 (fB n))))],13⟩⟩) (λ_ _=>True) () ?_ True.intro (λi a hi hp=>?_))|((conv=>whnf);first|(with_reducible refine dI ?_)|refine ai.mk (λh=>au h (by rw[hu];decide)) (λh=>?_)|refine ai.mk (λh=>au h (by rw[aX hr];decide)) (λh=>?_)|refine ai.mk (λh=>au h (by rw[bg hq];decide)) (λh=>?_)|refine mc ?_ ?_|refine aU _ (ed ((Conv.dC (i:=9) (h:=λj=>oH (((kP (n.ah.term+1) (n.me+1))).getD j .z)) (jB.of (n:=1) (z:=4) (E:=138) qN rfl fr)).trans (Conv.le (s2:=⟨132,[(0,.ptr 0 0),(40,.ptr 0 0),(41,.d (iq (kP (n.ah.term+1) (n.me+1))))],NS n⟩) ?_)) ?_)|refine asH [1,2] (yM n.aA) ?_|refine asH [0,1,2,3,4,5,6,7] (Dc n (kP (n.ah.term+1) (n.me+1)) hL (hn hu)) ?_|refine asA (aea (fB n).ah.log (alA pq)) ?_|refine asH [0,1,2,3,8,9,10,11] (abz (fB n) n.many.toNat (alz hm) (abb hm)) ?_|refine asH [0,1,2,3,8,9,10,11] (VF (fB n) 1 ((gY (fB n) n.many.toNat).getD i 0)) ?_|refine aU () ⟨?_,tv,?_⟩|refine ai.n (λh=>?_)|refine as8 (Qo n.ah n.me uP hT) ?_|refine ai.mk (λh=>?_) (λh=>?_)|refine ag.a ?_|(rw[show(gY (fB n) n.many.toNat).take i=(gY (fB n) n.many.toNat) from lW (by have h9:=bJ (aj:decide ((i:Int)<((gY (fB n) n.many.toNat).length:Int))=false);omega)];refine Fin.dC (i:=12) (h:=λj=>jF (((gY (fB n) n.many.toNat).map (D7 (fB n))).getD j .z)) (jB.of qN rfl fr) (asC qN qN (asG [.d (gu (xX (fB n))),iV 0] rfl fr vw) ?_))|refine ag.mk ?_ ?_)))<;>(try(refine dh.mk ?_;repeat' (first|exact tv|((conv=>whnf);first|exact rfl|refine asP (Qo n.ah n.me uP hT) ?_|refine an ?_ ?_|refine ag.mk ?_ ?_))))
 all_goals try exact aB
 all_goals (try(refine aV.mk rfl qN qN ?_ ?_ <;> repeat' (first|exact tv|exact qV|exact qW|refine vq (gz (V.row _) ?_) qN|refine an ⟨nb rfl,asE rfl (λk hk=>asB ?_)⟩ ?_|refine an ⟨nb rfl,af.row ?_ (λj hj k hk=>asB ?_)⟩ ?_|refine an ?_ ?_)))
 all_goals first|exact rfl|exact cm qV|exact kk|(have hk:k<23:=hk;rcases k with _|_|_|_|_|_|_|_|_|_|_|_|_|_|_|_|_|_|_|_|_|_|_|k <;> first|exact cm qV|exact cm qW|exact cm (vq (gz (V.row 8) (show(vS n).many.toNat=(fB n).iL.length by rw[KP];exact aeG.symm)) qN)|exact cm (vq (gz (V.row 9) (show(vS n).many.toNat=(fB n).fD.length by rw[KP];exact aeJ.symm)) qN)|exact cm (vq (gz (V.row 10) (show(vS n).many.toNat=(fB n).next.length by rw[KP];exact aeI.symm)) qN)|exact cm (vq (gz (V.row 11) (show(vS n).many.toNat=(fB n).fJ.length by rw[KP];exact aeH.symm)) qN))|(have q1:(vS n).many=n.many:=KP;have q2:(vS n).me=n.me:=alB;have q3:=aeG (n:=n);have q4:=aeJ (n:=n);have q5:=aeI (n:=n);have q6:=aeH (n:=n);first|omega|(rw[q2];first|exact cm (vq (ajv (by omega) hk rfl) tv)|exact cm (vq (aju (by omega) hk rfl) tv))|exact cm (vq (ajt hk) tv))|(have h9:i<(gY (fB n) n.many.toNat).length:=(by have h9:=aS (aj:decide ((i:Int)<((gY (fB n) n.many.toNat).length:Int))=true);omega);have q:=IJ (f:=D7 (fB n)) hi;have q2:=Uo (fB n) n.many.toNat;have q3:=abb hm;first|omega|(simp only[dQ,jD];omega)|(rw[q,IJ (f:=D7 (fB n)) (show i+1<=(gY (fB n) n.many.toNat).length from h9)];done)|(rw[U8 (z:=0) h9];(have hk:k<10:=hk;refine cm (oq rfl hj fr (λj hj=>?_));obtain rfl:j=0:=Nat.lt_one_iff.1 hj;rcases k with _|_|_|_|_|_|_|_|_|_|k;exact qV;exact qV;exact qV;exact qV;exact qV;exact qV;exact qV;exact qV;exact qV;exact qV;omega)))|exact qM
end
section
attribute [local irreducible] ae
theorem apB{n:az}(h:n.aA.down=true):nP n=(n,[],30):=by
 unfold nP;rw[h];rfl
theorem apA{n:az}(h:n.aA.down=false)(h2:decide (n.dn=2)=true):nP n=(n,[],0):=by
 unfold nP;rw[h,h2];rfl
theorem apz{n:az}(h:n.aA.down=false)(h2:decide (n.dn=2)=false):nP n=((aW n (kP (n.ah.term+1) (n.me+1))).1,[],(aW n (kP (n.ah.term+1) (n.me+1))).2):=by
 unfold nP wR;rw[h,h2];rfl
theorem agl(n:az)(uP:0<=n.me/\n.me<5)(hT : -10<=n.ah.term/\n.ah.term<1048576)(hn:n.aA.down=false->vI n)(hL:lM n.ah (kP (n.ah.term+1) (n.me+1)))(hE:n.aA.down=false->¬n.dn=2->¬(aW n (kP (n.ah.term+1) (n.me+1))).2=0):ae 24 [.ptr 0 0] (NS n) (NR (nP n)):=by
 refine asz Tryz.func24 λX=>?_
 (repeat' (first|((with_reducible refine dI ?_);first|refine att (id:=8) (pre:=(mW Tryz.f24 8).toList.take 2) (vH:=(mW Tryz.f24 8).toList.drop 2) rfl rfl ?_|refine oz ?_|refine asD 5 [9] [o0,o0,o0,o0,o0,o0,o0,o0,o0,o1,o3,o3,o3,o3,o3] ?_)|((conv=>whnf);first|(with_reducible refine dI ?_)|refine ai.mk (λh=>?_) (λh=>au h (by rw[aX (hE aj (bJ aj))];decide))|refine mc ?_ ?_|refine aU _ (ed ((Conv.dC (i:=9) (h:=λj=>oH (((kP (n.ah.term+1) (n.me+1))).getD j .z)) (jB.of (n:=1) (z:=4) (E:=138) qN rfl fr)).trans (Conv.le (s2:=⟨132,[(0,.ptr 0 0),(40,.ptr 0 0),(41,.d (iq (kP (n.ah.term+1) (n.me+1))))],NS n⟩) ?_)) ?_)|refine asH [1,2] (yM n.aA) ?_|refine asH [0,1,2,3,4,5,6,7] (Dc n (kP (n.ah.term+1) (n.me+1)) hL (hn aj)) ?_|refine as8 (Qo n.ah n.me uP hT) ?_|refine ai.n (λh=>?_)|refine ai.mk (λh=>?_) (λh=>?_)|refine ag.a ?_|(refine nT.mk (p:=n.aA.down=true) ?_ ?_;(with_reducible_and_instances assumption);refine NR.of (apB aj) (asC qN qN (asG [.d (gu []),iV (30)] rfl fr vw) ?_))|(refine nT.mk (p:=decide (n.dn=2)=true) ?_ ?_;(with_reducible_and_instances assumption);refine NR.of (apA aj aj) (asC qN qN (asG [.d (gu []),iV (0)] rfl fr vw) ?_))|refine NR.of (apz aj aj) (asC qN qN (asG [.d (gu []),iV ((aW n (kP (n.ah.term+1) (n.me+1))).2)] rfl fr vw) ?_))))<;>(try(refine dh.mk ?_;repeat' (first|exact tv|((conv=>whnf);first|exact rfl|refine asP (Qo n.ah n.me uP hT) ?_|refine an ?_ ?_|refine ag.mk ?_ ?_))))
 all_goals try exact aB
 all_goals (try(refine aV.mk rfl qN qN ?_ ?_ <;> repeat' (first|exact tv|exact qV|exact qW|refine an ⟨nb rfl,asE rfl (λk hk=>asB ?_)⟩ ?_|refine an ⟨nb rfl,af.row ?_ (λj hj k hk=>asB ?_)⟩ ?_|refine an ?_ ?_)))
 all_goals first|exact rfl|exact cm qV|exact kk|exact qM
end
end Go.Proofs.YtnibdnahojjcgaaGreat
