/- A part of the proof. -/
import Derived.Test.YtnibdnahojjcgaaGreatB44
namespace Go.Proofs.YtnibdnahojjcgaaGreat
set_option maxRecDepth 100000
set_option maxHeartbeats 16000000
set_option linter.unusedVariables false
set_option linter.unusedSimpArgs false
open Go.RowKit
section
attribute [local irreducible] ae
theorem ae.to{f:Nat}{args:List V}{st t1:ST}{r:V}{K:V->ST->Prop}(h:ae f args st (λv t=>v=r/\t=t1))(hk:K r t1):ae f args st K:=h.mono λv t ⟨e1,e2⟩=>by subst e1 e2;exact hk
theorem bn.to{f:Nat}{args:List V}{st t1:ST}{r:V}{K:V->ST->Prop}(h:ae f args st (λv t=>v=r/\t=t1))(hk:K r t1):bn f args st K:=bn.mk _ _ hk
def Aa(b e a1 a2 a3 a4:Nat)(n:az):Nat->V
 |0=>iV n.me|1=>iV n.many|2=>.ptr (b+1) 0|3=>iV n.bin|4=>iV n.ah.floor|5=>iV n.ah.term|6=>iV n.ah.gZ|7=>.d (jg n.ah.log)
 |8=>iV n.dn|9=>iV n.eQ|10=>iV n.fA
 |11=>.d (fH n.st 0)|12=>.d (fH n.st 1)|13=>.d (fH n.st 2)|14=>.d (fH n.st 3)|15=>.d (fH n.st 4)|16=>.d (fH n.st 5)|17=>.d (fH n.st 6)
 |18=>.row e n.fF.length|19=>.row a1 n.iL.length|20=>.row a2 n.fD.length|21=>.row a3 n.next.length|_=>.row a4 n.fJ.length
def D8(b e a1 a2 a3 a4:Nat)(n:az):List (Nat×aG):=[(b,.blk 23 (Aa b e a1 a2 a3 a4 n)),(b+1,.blk 5 (yZ b n.aA)),(b+2,iy (n.aA.b++n.aA.bU)),(e,dw 52 2 jU .z n.fF),(a1,sK n.iL),(a2,fM n.fD),(a3,fM n.next),(a4,fM n.fJ)]
def S1q(k A:Nat)(p:Nat->Value)(e a1 a2 a3 a4:Nat)(C:aF)(n:az):List (Nat×aG):=[(0,.blk 4 (Cb k C)),(1,.row 76 1 k (gx A (λ_ _=>.ptr 5 0) p)),(2,.blk 4 (vF C.ax)),(3,nS (iK C.ax)),(4,dw 69 16 uf .z C.calls)]++D8 5 e a1 a2 a3 a4 n
abbrev KD(k A:Nat)(p:Nat->Value)(C:aF)(n:az)(e:bT):ST:=⟨(14,wY e)::(13,wZ)::S1q k A p 8 15 16 17 18 C n,19⟩
abbrev SS1(k A:Nat)(p:Nat->Value)(C:aF)(n:az)(e:bT):ST:=⟨(14,wY e)::(13,wZ)::S1q k A p 16 17 18 19 20 C n,21⟩
theorem aaM{b N e a1 a2 a3 a4:Nat}{n:az}(h:b+2<=N)(h0:e<N)(h1:a1<N)(h2:a2<N)(h3:a3<N)(h4:a4<N):∀ k,k<23->iO (λi=>i<N) (Aa b e a1 a2 a3 a4 n k):=λk hk=>by
 rcases k with _|_|_|_|_|_|_|_|_|_|_|_|_|_|_|_|_|_|_|_|_|_|_|k
 all_goals first|exact tv|(show _<N;omega)
theorem Yw{b N e a1 a2 a3 a4:Nat}{n:az}(h:(Nat.ble (b+2) N&&Nat.blt e N&&Nat.blt a1 N&&Nat.blt a2 N&&Nat.blt a3 N&&Nat.blt a4 N)=true):af N (.blk 23 (Aa b e a1 a2 a3 a4 n)) (.blk 23 (Aa b e a1 a2 a3 a4 n)):=by
 simp only[qc]at h;obtain⟨⟨⟨⟨⟨h,h0⟩,h1⟩,h2⟩,h3⟩,h4⟩:=h;exact as2 (aaM (nb h) (lS h0) (lS h1) (lS h2) (lS h3) (lS h4))
theorem aci(k A:Nat)(p:Nat->Value)(C:aF)(n:az)(e:bT)(l:List aP)(r:Int)(hs:ES C.ax l):ae 23 [.ptr 0 0,.d (gu l),iV r] (KD k A p C n e) (λv t=>v=iV r/\t=KD k A p { C with ax:=lL C.ax l } n e):=by
 refine asz Tryz.func23 λX=>?_
 (repeat' (first|((with_reducible refine dI ?_);(refine oz ?_))|((conv=>whnf);first|(with_reducible refine dI ?_)|refine asH [2,3] (Ws C.ax l hs.hl hs.hx hs.hp) ?_|refine ag.a ?_|refine asC qN qN qV ?_)))<;>try exact aB
 all_goals (try(repeat' (first|exact tv|refine an ⟨nb rfl,?_⟩ ?_|exact vY rfl|exact Yw rfl|exact af.row rfl fv|exact uk rfl|refine asE rfl (λk hk=>asB ?_))))
 all_goals first|exact cm qV|exact cm qW|exact kk
theorem aiK{n:az}(h:vk n=true):n.aA.down=false/\¬n.dn=2/\(aW n (kP (n.ah.term+1) (n.me+1))).2=0:=by
 unfold vk at h;rcases h1:n.aA.down with _|_ <;> rw[h1]at h
 ·rcases h2:decide (n.dn=2) with _|_ <;> rw[h2]at h
  ·exact⟨rfl,bJ h2,aS h⟩
  ·cases h
 ·cases h
theorem aiL{n:az}(h:vk n=false):n.aA.down=false->¬n.dn=2->¬(aW n (kP (n.ah.term+1) (n.me+1))).2=0:=λh1 h2 h3=>by
 unfold vk at h;rw[h1,aX h2]at h;exact au h3 (bJ h)
theorem adb{n:az}(h:JY n)(hst:vk n=true):ae 24 [.ptr 0 0] (NS n) (λv t=>v=bQ [.d (gu (xX (fB n))),iV 0]/\t=NV (fB n)):=by
 obtain⟨h1,h2,h3⟩:=aiK hst;exact agk n h.many h.me ⟨h.me.1,by have:=h.me.2;have:=h.many;omega⟩ h.term h.hl h.hn h.hL h1 h2 h3 h.pq
theorem ade{n:az}(h:JY n)(hst:vk n=false):ae 24 [.ptr 0 0] (NS n) (λv t=>v=bQ [.d (gu (nP n).2.1),iV (nP n).2.2]/\t=NS (nP n).1):=
 agl n ⟨h.me.1,by have:=h.me.2;have:=h.many;omega⟩ h.term h.hn h.hL (aiL hst)
theorem akd(k A:Nat)(p:Nat->Value)(C:aF)(n:az)(e:bT)(h:JY n)(hst:vk n=false)(hs:ES C.ax (nP n).2.1):ae 22 [.ptr 5 0,.ptr 13 0] (SX k A p C n e) (λv t=>v=iV (nP n).2.2/\t=SX k A p { C with ax:=lL C.ax (nP n).2.1 } (nP n).1 e):=by
 refine asz Tryz.func22 λX=>?_
 (repeat' (first|((with_reducible refine dI ?_);first|refine oz ?_|refine asD 1 [2,5] [o2,o0,o1,o3,o3,(1,1,true,[]),(2,2,false,[])] ?_)|((conv=>whnf);first|(with_reducible refine dI ?_)|refine mc ?_ ?_|refine as3 [5,6,7,8,9,10,11,12] (ade h hst) ?_|refine atx (args':=[.ptr 0 0,.d (gu (nP n).2.1),iV (nP n).2.2]) (SX k A p C (nP n).1 e) rfl (by(repeat' (first|exact tv|refine an ⟨nb rfl,?_⟩ ?_|exact af.row rfl fv|exact uk rfl|refine asE rfl (λk hk=>asB ?_)));all_goals first|exact cm qV|exact cm qW|exact kk) vw (aul 2 (Qg (e:=(nP n).2.2) hs) rfl rfl rfl rfl rfl Bv Bv trivial LW vw ?_)|refine asC qN qN qV ?_)))<;>(try(refine dh.mk ?_;repeat' (first|exact tv|((conv=>whnf);first|exact rfl|refine asH [5,6,7,8,9,10,11,12] (ade h hst) ?_|refine atl (args':=[.ptr 0 0,.d (gu (nP n).2.1),iV (nP n).2.2]) (SX k A p C (nP n).1 e) rfl (by(repeat' (first|exact tv|refine an ⟨nb rfl,?_⟩ ?_|exact af.row rfl fv|exact uk rfl|refine asE rfl (λk hk=>asB ?_)));all_goals first|exact cm qV|exact cm qW|exact kk) vw (atw 2 (Qg (e:=(nP n).2.2) hs) rfl rfl rfl rfl rfl Bv Bv trivial LW vw ?_)|refine an ?_ ?_|refine ag.mk ?_ ?_))))
 all_goals try exact aB
 all_goals (try(repeat' (first|exact tv|refine an ⟨nb rfl,?_⟩ ?_|exact yw rfl|exact vY rfl|exact af.row rfl fv|exact uk rfl|refine asE rfl (λk hk=>asB ?_))))
 all_goals first|exact cm qV|exact cm qW|exact kk
theorem akc(k A:Nat)(p:Nat->Value)(C:aF)(n:az)(e:bT)(h:JY n)(hst:vk n=true)(hs:ES C.ax (xX (fB n))):ae 22 [.ptr 5 0,.ptr 13 0] (SX k A p C n e) (λv t=>v=iV 0/\t=KD k A p { C with ax:=lL C.ax (xX (fB n)) } (fB n) e):=by
 refine asz Tryz.func22 λX=>?_
 (repeat' (first|((with_reducible refine dI ?_);first|refine oz ?_|refine asD 1 [2,5] [o2,o0,o1,o3,o3,(1,1,true,[]),(2,2,false,[])] ?_)|((conv=>whnf);first|(with_reducible refine dI ?_)|refine mc ?_ ?_|refine as3 [5,6,7,8,9,10,11,12] (adb h hst) ?_|refine atx (args':=[.ptr 0 0,.d (gu (xX (fB n))),iV 0]) (KD k A p C (fB n) e) rfl (by(repeat' (first|exact tv|refine an ⟨nb rfl,?_⟩ ?_|exact af.row rfl fv|exact uk rfl|refine asE rfl (λk hk=>asB ?_)));all_goals first|exact cm qV|exact cm qW|exact kk) vw (bn.to (aci k A p C (fB n) e (xX (fB n)) 0 hs) ?_)|refine asC qN qN qV ?_)))<;>(try(refine dh.mk ?_;repeat' (first|exact tv|((conv=>whnf);first|exact rfl|refine asH [5,6,7,8,9,10,11,12] (adb h hst) ?_|refine atl (args':=[.ptr 0 0,.d (gu (xX (fB n))),iV 0]) (KD k A p C (fB n) e) rfl (by(repeat' (first|exact tv|refine an ⟨nb rfl,?_⟩ ?_|exact af.row rfl fv|exact uk rfl|refine asE rfl (λk hk=>asB ?_)));all_goals first|exact cm qV|exact cm qW|exact kk) vw (ae.to (aci k A p C (fB n) e (xX (fB n)) 0 hs) ?_)|refine an ?_ ?_|refine ag.mk ?_ ?_))))
 all_goals try exact aB
 all_goals (try(repeat' (first|exact tv|refine an ⟨nb rfl,?_⟩ ?_|exact vY rfl|exact Yw rfl|exact af.row rfl fv|exact uk rfl|refine asE rfl (λk hk=>asB ?_))))
 all_goals first|exact cm qV|exact cm qW|exact kk
theorem aoB{n:az}{b:Int}{L:List aT}{t:List UInt8}(h:Oj n b L t)(hst:xI n b=false):ae 30 [.ptr 0 0,iV b] (NS n) (λv t=>v=iV (Eu n b)/\t=NS n):=by
 have hE:¬A8 n b L=0:=λe=>by
  unfold xI at hst;rw[h.err,e]at hst;cases hst
 rw[h.err];exact ah0 n b L t h.laid h.ok hE
theorem aoA{n:az}{b:Int}{L:List aT}{t:List UInt8}(h:Oj n b L t)(hst:xI n b=true):ae 30 [.ptr 0 0,iV b] (NS n) (λv t=>v=iV (xJ n b).2/\t=NU (xJ n b).1):=by
 have hE:A8 n b L=0:=by
  unfold xI at hst;rw[h.err]at hst;exact aS hst
 obtain⟨h1,h2,h3,h4,h5⟩:=h.aK hE;rw[h.st];exact ahZ n b L t h.laid h.ok h1 h2 h3 h4 h5
theorem ag4(k A:Nat)(p:Nat->Value)(C:aF)(n:az)(e:bT)(L:List aT)(t:List UInt8)(h:Oj n e.b L t)(hst:xI n e.b=false):ae 29 [.ptr 5 0,.ptr 14 0] (SX k A p C n e) (λv t=>v=iV (Eu n e.b)/\t=SX k A p C n e):=by
 refine asz Tryz.func29 λX=>?_
 (repeat' (first|((with_reducible refine dI ?_);(refine oz ?_))|((conv=>whnf);first|(with_reducible refine dI ?_)|refine asH [5,6,7,8,9,10,11,12] (aoB h hst) ?_|refine ag.a ?_|refine asC qN qN qV ?_)))<;>try exact aB
 all_goals (try(repeat' (first|exact tv|refine an ⟨nb rfl,?_⟩ ?_|exact af.row rfl fv|exact uk rfl|refine asE rfl (λk hk=>asB ?_))))
 all_goals first|exact cm qV|exact cm qW|exact kk
theorem ag3(k A:Nat)(p:Nat->Value)(C:aF)(n:az)(e:bT)(L:List aT)(t:List UInt8)(h:Oj n e.b L t)(hst:xI n e.b=true):ae 29 [.ptr 5 0,.ptr 14 0] (SX k A p C n e) (λv t=>v=iV (xJ n e.b).2/\t=SS1 k A p C (xJ n e.b).1 e):=by
 refine asz Tryz.func29 λX=>?_
 (repeat' (first|((with_reducible refine dI ?_);(refine oz ?_))|((conv=>whnf);first|(with_reducible refine dI ?_)|refine asH [5,6,7,8,9,10,11,12] (aoA h hst) ?_|refine ag.a ?_|refine asC qN qN qV ?_)))<;>try exact aB
 all_goals (try(repeat' (first|exact tv|refine an ⟨nb rfl,?_⟩ ?_|exact af.row rfl fv|exact uk rfl|refine asE rfl (λk hk=>asB ?_))))
 all_goals first|exact cm qV|exact cm qW|exact kk
end
end Go.Proofs.YtnibdnahojjcgaaGreat
