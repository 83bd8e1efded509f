/- A part of the proof. -/
import Derived.Test.YtnibdnahojjcgaaGreatB30
import Derived.Test.YtnibdnahojjcgaaGreatB31
namespace Go.Proofs.YtnibdnahojjcgaaGreat
set_option maxRecDepth 100000
set_option maxHeartbeats 16000000
set_option linter.unusedVariables false
set_option linter.unusedSimpArgs false
open Go.RowKit
theorem anV(s:aZ)(c:aI)(hs:mi s)(hz:nZ c)(hm:jw s c=0)(cZ:c.kind=10):ae 251 [jk s,jI c] e0 (kZ (lT s c)):=by
 refine asz Tryz.func251 λX=>?_
 (repeat' (first|refine kZ.of (p:=(s,⟨15,0⟩)) (qI hm (by unfold oC;rw[cZ];exact gz some (MW h))) (Fin.dC (i:=7) (h:=λj=>dY ((s).opens.getD j .z)) iw (Fin.dC (i:=8) (h:=λj=>eX ((s).ay.getD j .z)) iw (asC qN qN (asG [.agg 7 (nH (s) (.row 6 (s).aN.length) (.d (l9 (s).opens)) (.d (jr (s).ay))),iQ (⟨15,0⟩)] rfl fr vw) ⟨⟨nb rfl,af.row rfl fv⟩,tv⟩)))|refine kZ.of (p:=(s,.z)) (qI hm (by unfold oC;rw[cZ];exact gz some ((DD (aj:decide (eH s c.id<0)=false)).trans (dF h)))) (Fin.dC (i:=7) (h:=λj=>dY ((s).opens.getD j .z)) iw (Fin.dC (i:=8) (h:=λj=>eX ((s).ay.getD j .z)) iw (asC qN qN (asG [.agg 7 (nH (s) (.row 6 (s).aN.length) (.d (l9 (s).opens)) (.d (jr (s).ay))),iQ (.z)] rfl fr vw) ⟨⟨nb rfl,af.row rfl fv⟩,tv⟩)))|refine kZ.of (p:=(nD s (eH s c.id).toNat (λx=>{ x with held:=false }),⟨0,1⟩)) (qI hm (by unfold oC;rw[cZ];exact gz some ((DD (aj:decide (eH s c.id<0)=false)).trans (bz h)))) (Fin.dC (i:=7) (h:=λj=>dY ((nD s (eH s c.id).toNat (λx=>{ x with held:=false })).opens.getD j .z)) iw (Fin.dC (i:=8) (h:=λj=>eX ((nD s (eH s c.id).toNat (λx=>{ x with held:=false })).ay.getD j .z)) (jB.of (cu _) rfl (λj hj k hk=>(gz (jl 7 _ _ _) (ab2 (Bj (aj:decide (eH s c.id<0)=false)))).trans rfl)) (asC qN qN (asG [.agg 7 (nH (nD s (eH s c.id).toNat (λx=>{ x with held:=false })) (.row 6 (nD s (eH s c.id).toNat (λx=>{ x with held:=false })).aN.length) (.d (l9 (nD s (eH s c.id).toNat (λx=>{ x with held:=false })).opens)) (.d (jr (nD s (eH s c.id).toNat (λx=>{ x with held:=false })).ay))),iQ (⟨0,1⟩)] rfl fr ⟨(asK ⟨vw,vq (jR.trans (Qr We)) tv⟩),(asK vw),tv⟩) ⟨⟨nb rfl,af.row rfl fv⟩,tv⟩)))|refine T.cut (y:=.seq (.region 7 _ _) _) ⟨58,x8,⟨xg c (.blk 7 (lq s 6 7 8)) (.row 54 4 s.aN.length (λj k=>.d (gW (s.aN.getD j .z) k))) (.row 97 2 s.opens.length (λj k=>.d (dY (s.opens.getD j .z) k))) (.row 71 5 s.ay.length (λj k=>.d (eX (s.ay.getD j .z) k))),10⟩⟩ ?_ (T.seq (as1 (xZ c) 18 wH _ (by kernel_rfl) (Bc c (G0:=lq s 6 7 8) (n6:=s.aN.length) (g6:=λj k=>.d (gW (s.aN.getD j .z) k)) (n7:=s.opens.length) (g7:=λj k=>.d (dY (s.opens.getD j .z) k)) (n8:=s.ay.length) (g8:=λj k=>.d (eX (s.ay.getD j .z) k)) false (C9 s) nC nC nC) (T.le ⟨58,[(2,.ptr 0 0),(3,.ptr 1 0),(4,.ptr 2 0),(5,.ptr 3 0),(9,oQ 16),(10,.b true)],⟨[(0,.blk 7 (lq s 6 7 8)),(1,.blk 8 (λk=>.d (kY c k))),(2,.blk 7 (λ_=>.top)),(3,.blk 2 (λ_=>.top)),(6,.row 54 4 s.aN.length (λj k=>.d (gW (s.aN.getD j .z) k))),(7,.row 97 2 s.opens.length (λj k=>.d (dY (s.opens.getD j .z) k))),(8,.row 71 5 s.ay.length (λj k=>.d (eX (s.ay.getD j .z) k))),(15,.blk 1 (λ_=>.b false)),(16,.blk 1 (λ_=>f269 15))],18⟩⟩ ?_ ?_)))|refine ai.n (λh=>?_)|refine asD 2 [] [o0,o0,o0,o0,o0,o0] ?_|refine oz ?_|refine asD 11 [2,3] [o0,o2,o1,(1,1,true,[])] ?_|refine mc ?_ ?_|refine asP (yI s hs.fit) ?_|refine asT (yN s c hs hz.chunks) tv bw ?_|refine asz (f:=266) Tryz.func266 λX2=>?_|refine asz (f:=269) Tryz.func269 λX2=>?_|refine asT (KQ s c.id hs.may.l3) tv bw ?_|refine asA (asU 15) ?_|refine Fin.here ?_|refine ai.n (λh=>?_)|refine ai.mk (λh=>?_) (λh=>?_)|refine ag.a ?_|refine ag.mk ?_ ?_))<;>(try(refine dh.mk ?_;repeat' (first|exact tv|exact rfl|refine an ?_ ?_|refine ag.mk ?_ ?_)))
 all_goals try exact aB
 all_goals (try(refine aV.mk rfl qN qN ?_ ?_ <;> repeat' (first|exact tv|exact qV|exact vq (show rW c.kind=oQ 16 by rw[cZ];rfl) (wF (P:=λk=>k<18) (λk hk=>hk) (uB (by decide) (by decide) (by decide)))|exact vq (show V.b (uM c.kind) = .b true by rw[cZ];rfl) tv|exact VW.top|exact qW|refine asJ ?_|refine an ⟨nb rfl,af.blk ?_⟩ ?_|refine an ⟨nb rfl,af.row ?_ (λj hj k hk=>asB ?_)⟩ ?_|refine an ?_ ?_)))
 all_goals first|exact rfl|exact cm qV|exact Bj (aj:decide (eH s c.id<0)=false)|exact⟨rfl,GR (aj:decide (eH s c.id<0)=false)⟩|exact⟨rfl,Bj (aj:decide (eH s c.id<0)=false),nb rfl⟩
theorem anU(s:aZ)(c:aI)(hs:mi s)(hz:nZ c)(hm:jw s c=0)(cZ:c.kind=11):ae 251 [jk s,jI c] e0 (kZ (lT s c)):=by
 refine asz Tryz.func251 λX=>?_
 (repeat' (first|refine kZ.of (p:=(s,⟨15,0⟩)) (qI hm (by unfold oC;rw[cZ];exact gz some (MW h))) (Fin.dC (i:=7) (h:=λj=>dY ((s).opens.getD j .z)) iw (Fin.dC (i:=8) (h:=λj=>eX ((s).ay.getD j .z)) iw (asC qN qN (asG [.agg 7 (nH (s) (.row 6 (s).aN.length) (.d (l9 (s).opens)) (.d (jr (s).ay))),iQ (⟨15,0⟩)] rfl fr vw) ⟨⟨nb rfl,af.row rfl fv⟩,tv⟩)))|refine kZ.of (p:=(nD s (eH s c.id).toNat (λx=>{ x with tag:=c.text }),.z)) (qI hm (by unfold oC;rw[cZ];exact gz some (DD (aj:decide (eH s c.id<0)=false)))) (Fin.dC (i:=7) (h:=λj=>dY ((nD s (eH s c.id).toNat (λx=>{ x with tag:=c.text })).opens.getD j .z)) iw (Fin.dC (i:=8) (h:=λj=>eX ((nD s (eH s c.id).toNat (λx=>{ x with tag:=c.text })).ay.getD j .z)) (jB.of (cu _) rfl (λj hj k hk=>(gz (jl 7 _ _ _) (alp (Bj (aj:decide (eH s c.id<0)=false)) hk)).trans rfl)) (asC qN qN (asG [.agg 7 (nH (nD s (eH s c.id).toNat (λx=>{ x with tag:=c.text })) (.row 6 (nD s (eH s c.id).toNat (λx=>{ x with tag:=c.text })).aN.length) (.d (l9 (nD s (eH s c.id).toNat (λx=>{ x with tag:=c.text })).opens)) (.d (jr (nD s (eH s c.id).toNat (λx=>{ x with tag:=c.text })).ay))),iQ (.z)] rfl fr ⟨(asK ⟨vw,vq (jR.trans (Qr We)) tv⟩),(asK vw),tv⟩) ⟨⟨nb rfl,af.row rfl fv⟩,tv⟩)))|refine T.cut (y:=.seq (.region 7 _ _) _) ⟨58,x8,⟨xg c (.blk 7 (lq s 6 7 8)) (.row 54 4 s.aN.length (λj k=>.d (gW (s.aN.getD j .z) k))) (.row 97 2 s.opens.length (λj k=>.d (dY (s.opens.getD j .z) k))) (.row 71 5 s.ay.length (λj k=>.d (eX (s.ay.getD j .z) k))),10⟩⟩ ?_ (T.seq (as1 (xZ c) 18 wH _ (by kernel_rfl) (Bc c (G0:=lq s 6 7 8) (n6:=s.aN.length) (g6:=λj k=>.d (gW (s.aN.getD j .z) k)) (n7:=s.opens.length) (g7:=λj k=>.d (dY (s.opens.getD j .z) k)) (n8:=s.ay.length) (g8:=λj k=>.d (eX (s.ay.getD j .z) k)) false (C9 s) nC nC nC) (T.le ⟨58,[(2,.ptr 0 0),(3,.ptr 1 0),(4,.ptr 2 0),(5,.ptr 3 0),(9,oQ 17),(10,.b true)],⟨[(0,.blk 7 (lq s 6 7 8)),(1,.blk 8 (λk=>.d (kY c k))),(2,.blk 7 (λ_=>.top)),(3,.blk 2 (λ_=>.top)),(6,.row 54 4 s.aN.length (λj k=>.d (gW (s.aN.getD j .z) k))),(7,.row 97 2 s.opens.length (λj k=>.d (dY (s.opens.getD j .z) k))),(8,.row 71 5 s.ay.length (λj k=>.d (eX (s.ay.getD j .z) k))),(17,.blk 1 (λ_=>lV 282 1 0))],18⟩⟩ ?_ ?_)))|refine ai.n (λh=>?_)|refine oz ?_|refine asD 11 [2,3] [o0,o2,o1,(1,1,true,[])] ?_|refine mc ?_ ?_|refine asP (yI s hs.fit) ?_|refine asT (yN s c hs hz.chunks) tv bw ?_|refine asz (f:=266) Tryz.func266 λX2=>?_|refine asz (f:=282) Tryz.func282 λX2=>?_|refine asT (KQ s c.id hs.may.l3) tv bw ?_|refine asA (asU 15) ?_|refine Fin.here ?_|refine ai.n (λh=>?_)|refine ai.mk (λh=>?_) (λh=>?_)|refine ag.a ?_|refine ag.mk ?_ ?_))<;>(try(refine dh.mk ?_;repeat' (first|exact tv|exact rfl|refine an ?_ ?_|refine ag.mk ?_ ?_)))
 all_goals try exact aB
 all_goals (try(refine aV.mk rfl qN qN ?_ ?_ <;> repeat' (first|exact tv|exact qV|exact vq (show rW c.kind=oQ 17 by rw[cZ];rfl) (wF (P:=λk=>k<18) (λk hk=>hk) (uB (by decide) (by decide) (by decide)))|exact vq (show V.b (uM c.kind) = .b true by rw[cZ];rfl) tv|exact VW.top|exact qW|refine asJ ?_|refine an ⟨nb rfl,af.blk ?_⟩ ?_|refine an ⟨nb rfl,af.row ?_ (λj hj k hk=>asB ?_)⟩ ?_|refine an ?_ ?_)))
 all_goals first|exact rfl|exact cm qV|exact⟨rfl,GR (aj:decide (eH s c.id<0)=false)⟩|exact⟨rfl,Bj (aj:decide (eH s c.id<0)=false),nb rfl⟩
theorem aqS(s:aZ)(c:aI)(hs:mi s)(hz:nZ c)(hm:jw s c=0)(h1:c.kind≠1)(h8:c.kind≠8):ae 251 [jk s,jI c] e0 (λv t=>v=bQ [.agg 7 (nH (lT s c).1 (.row 6 (lT s c).1.aN.length) (.d (l9 (lT s c).1.opens)) (.d (jr (lT s c).1.ay))),iQ (lT s c).2]/\t=⟨[(6,dw 54 4 gW .z (lT s c).1.aN)],7⟩):=by
 have hk:=CU (aeQ (DF hm).2).1;rcases(show c.kind=2\/c.kind=3\/c.kind=4\/c.kind=5\/c.kind=6\/c.kind=7\/c.kind=9\/c.kind=10\/c.kind=11\/c.kind=12 by omega) with e|e|e|e|e|e|e|e|e|e
 ·exact apl s c hs hz hm e
 ·exact apk s c hs hz hm e
 ·exact apj s c hs hz hm e
 ·exact api s c hs hz hm e
 ·exact aph s c hs hz hm e
 ·exact apg s c hs hz hm e
 ·exact apf s c hs hz hm e
 ·exact anV s c hs hz hm e
 ·exact anU s c hs hz hm e
 ·exact anT s c hs hz hm e
theorem Q7{s:aZ}{c:aI}(h:decide (jT s c.bf<0)=false):0<=jT s c.bf/\jT s c.bf<s.aN.length:=by
 have:=bJ h;have:=acm s c.bf;omega
theorem QK{s:aZ}{c:aI}(h:decide (jT s c.bf<0)=false):(jT s c.bf).toNat<s.aN.length:=by
 have:=Q7 h;omega
theorem aom{s:aZ}{c:aI}(hm:jw s c=0)(h:decide (jT s c.bf<0)=false):0<=(s.aN.getD (jT s c.bf).toNat .z).seq/\(s.aN.getD (jT s c.bf).toNat .z).seq<=1048576:=by
 have h1:=(DF hm).1.tN _ (kM (z:=.z) (QK h));unfold tN at h1;exact JB (Dv.1 (Dv.1 h1).1).1
theorem aol{s:aZ}{c:aI}(hm:jw s c=0)(h:decide (jT s c.bf<0)=false):(dQ .i64).1<=(s.aN.getD (jT s c.bf).toNat .z).seq+1/\(s.aN.getD (jT s c.bf).toNat .z).seq+1<=(dQ .i64).2:=by
 have:=aom hm h;simp only[dQ];omega
abbrev Tu(s:aZ)(c:aI):aZ:={ (lT s c).1 with aN:=(lT s c).1.aN.set (jT s c.bf).toNat ⟨((lT s c).1.aN.getD (jT s c.bf).toNat .z).bf,c.seq,(lT s c).2⟩ }
theorem alP{l:List uS}{p:Nat}{q:Int}{r:eY}{g1 g2:Nat->V}(hp:p<l.length){j k:Nat}(hk:k<4)(e1:g1 0=iV q)(e2:g2 0=V.d (jU r 0))(e3:g2 1=V.d (jU r 1)):lN (lN (λj k=>V.d (gW (l.getD j .z) k)) p 1 1 g1) p 2 2 g2 j k=V.d (gW ((l.set p ⟨(l.getD p .z).bf,q,r⟩).getD j .z) k):=by
 unfold lN;rcases hb:Nat.beq j p with _|_
 ·have:j≠p:=λe=>by subst e;simp at hb
  rw[show(l.set p ⟨(l.getD p .z).bf,q,r⟩).getD j .z=l.getD j .z by rw[bC,List.getElem?_set_ne (λe=>this e.symm),bC]];rfl
 ·have:=dH hb;subst this;rw[show(l.set j ⟨(l.getD j .z).bf,q,r⟩).getD j .z=⟨(l.getD j .z).bf,q,r⟩ by rw[bC,List.getElem?_set_self hp];rfl];rcases k with _|_|_|_|k
  ·rfl
  ·exact e1
  ·exact e2
  ·exact e3
  ·omega
theorem Ask.of{X:Cx e0}{v:V}{t:ST}{p q:aZ×eY}(e:q=p)(h:Fin X v t (λv t=>v=bQ [jk p.1,iQ p.2]/\t=e0)):Fin X v t (λv t=>v=bQ [jk q.1,iQ q.2]/\t=e0):=e▸h
theorem acO{m:Nat}{l:List uS}(e:m=l.length):V.d (.sl m 4 (λj=>gW (l.getD j .z))) = .d (EU l):=by subst e;rfl
theorem aof{s:aZ}{c:aI}:(lT s c).1.aN.length=(Tu s c).aN.length:=by show _=(List.set _ _ _).length;rw[oK]
theorem anP(s:aZ)(c:aI)(hs:mi s)(hz:nZ c)(hm:jw s c=0)(h1:c.kind≠1)(h8:c.kind≠8):aQ 242 [jk s,jI c] (bQ [jk (GM s c).1,iQ (GM s c).2]):=by
 refine asz Tryz.func242 λX=>?_
 (repeat' (first|refine Ask.of (p:=(s,⟨11,0⟩)) (dF h) (asM rfl vw)|refine Ask.of (p:=(s,(s.aN.getD (jT s c.bf).toNat .z).last)) ((bz aj).trans (dF h)) (asM rfl vw)|refine Ask.of (p:=(s,⟨13,0⟩)) ((bz aj).trans ((bz aj).trans (dF h))) (asM rfl vw)|refine Ask.of (p:=(s,⟨14,0⟩)) ((bz aj).trans ((bz aj).trans ((bz aj).trans (dF h)))) (asM rfl vw)|refine Ask.of (p:=(Tu s c,(lT s c).2)) ((bz aj).trans ((bz aj).trans ((bz aj).trans (bz aj)))) (Fin.dC (i:=11) (h:=λj=>gW ((Tu s c).aN.getD j .z)) (jB.of (cu _) rfl (λj hj k hk=>alP (by rw[(MK (DF hm).1 hz).aN];exact QK (aj:decide (jT s c.bf<0)=false)) hk rfl rfl rfl)) (Fin.tell (asG [jk (Tu s c),iQ (lT s c).2] rfl fr ⟨asK ⟨⟨⟨vw,vq (jR.trans (acO aof)) tv⟩,qV⟩,qV⟩,(asK vw),tv⟩)))|refine oz ?_|refine asD 3 [1,2,3] [o2,o1,(1,1,true,[]),(2,2,true,[])] ?_|refine asD 6 [3,4] [o0,o2,o2,o1,(1,1,true,[])] ?_|refine asD 8 [1,2,3] [o2,o1,(1,1,true,[]),(2,2,true,[])] ?_|refine asD 10 [1,2,3] [o2,o1,(1,1,true,[]),(2,2,true,[])] ?_|refine asD 12 [11,14] [o0,o0,o0,o2,o2,o2,o0,o0,o2,o0,o0,o1,o3,o3,(1,1,true,[])] ?_|refine asD 13 [2,3] [o0,o2,o1,(1,1,true,[])] ?_|refine mc ?_ ?_|refine asA (ZI s c.bf hs.may.l1) ?_|refine asP (aqS s c hs hz hm h1 h8) ?_|refine asN (asU 11) ?_|refine asN (asU 13) ?_|refine asN (asU 14) ?_|refine ai.mk (λh=>?_) (λh=>?_)|refine ag.a ?_|refine ag.mk ?_ ?_))<;>(try(refine dh.mk ?_;repeat' (first|exact tv|exact rfl|refine asA (asU 11) ?_|refine asA (asU 13) ?_|refine asA (asU 14) ?_|refine an ?_ ?_|refine ag.mk ?_ ?_)))
 all_goals try exact aB
 all_goals first|exact Q7 (aj:decide (jT s c.bf<0)=false)|exact(Q7 (aj:decide (jT s c.bf<0)=false)).1|(rw[(MK (DF hm).1 hz).aN];exact(Q7 (aj:decide (jT s c.bf<0)=false)).2)|(rw[(MK (DF hm).1 hz).aN];exact QK (aj:decide (jT s c.bf<0)=false))|exact aol hm (aj:decide (jT s c.bf<0)=false)|exact⟨rfl,(by rw[(MK (DF hm).1 hz).aN];exact QK (aj:decide (jT s c.bf<0)=false)),nb rfl⟩
theorem aoJ{s:aZ}{c:aI}(h:(!decide (jw s c=0))=false):jw s c=0:=by
 rcases hd:decide (jw s c=0) with _|_
 ·rw[hd]at h;cases h
 ·exact aS hd
theorem apb{s:aZ}(hs:mi s):(dQ .i64).1<=s.version+1/\s.version+1<=(dQ .i64).2:=by
 have:=hs.oU;simp only[dQ];omega
theorem aqB(s:aZ)(c:aI)(hs:mi s)(hz:nZ c)(hk1:c.kind≠1):aQ 230 [jk s,jI c] (bQ [jk (pW s c).1,iQ (pW s c).2]):=by
 refine asz Tryz.func230 λX=>?_
 (repeat' (first|refine Ask.of (p:=(s,⟨jw s c,0⟩)) (dF h) (asM rfl vw)|refine Ask.of (p:=(s,⟨1,0⟩)) ((bz (aj:(!decide (jw s c=0))=false)).trans ((dF (aj:decide (c.kind=8)=true)).trans (dF h))) (asM rfl vw)|refine Ask.of (p:=({ s with version:=c.n },⟨0,c.n⟩)) ((bz (aj:(!decide (jw s c=0))=false)).trans ((dF (aj:decide (c.kind=8)=true)).trans (bz h))) (asM rfl vw)|refine Ask.of (p:=GM s c) ((bz (aj:(!decide (jw s c=0))=false)).trans ((bz (aj:decide (c.kind=8)=false)).trans (bz (aj:decide (c.kind=1)=false)))) (asM rfl vw)|refine ai.mk (λh=>au (aS h) hk1) (λh=>?_)|refine oz ?_|refine asD 4 [3,4] [o0,o0,o0,o1,(1,1,true,[])] ?_|refine asD 8 [2,3] [o0,o0,o1,(1,1,true,[])] ?_|refine asD 10 [4,5] [o0,o2,o2,o2,o1,(1,1,true,[])] ?_|refine mc ?_ ?_|refine asA (LV s hs.fit) ?_|refine asA (yN s c hs hz.chunks) ?_|refine asA (anP s c hs hz (aoJ aj) hk1 (λe=>au (aj:decide (c.kind=8)=false) (by rw[e];decide))) ?_|refine asN (asU (jw s c)) ?_|refine asN (asU 1) ?_|refine ai.mk (λh=>?_) (λh=>?_)|refine ag.a ?_|refine ag.mk ?_ ?_))<;>(try(refine dh.mk ?_;repeat' (first|exact tv|exact rfl|refine asA (asU (jw s c)) ?_|refine asA (asU 1) ?_|refine an ?_ ?_|refine ag.mk ?_ ?_)))
 all_goals try exact aB
 all_goals (exact apb hs)
abbrev Fz(s:aZ)(c:aI):Nat:=ahead (λx=>decide (x.bf<c.bf)) s.aN
abbrev NK(s:aZ)(c:aI):aZ:={ s with aN:=rM s.aN (Fz s c) ⟨c.bf,0,.z⟩ }
theorem aja{s:aZ}{c:aI}{i:Nat}(hi:i<=s.aN.length)(hp:Fz s c=i+ahead (λx=>decide (x.bf<c.bf)) (s.aN.drop i))(h:(bif decide ((i:Int)<(s.aN.length:Int)) then decide ((s.aN.getD i .z).bf<c.bf) else false)=false):Fz s c=i:=by
 rcases mP i s.aN.length with h7|h7
 ·rcases ae8 h with h8|h8
  ·have h8:=bJ h8;omega
  ·rw[hp,Px .z h7,show decide ((s.aN.getD i .z).bf<c.bf)=false from h8];rfl
 ·rw[hp,sZ h7];rfl
theorem Vx{s:aZ}{c:aI}{i:Nat}(hp:Fz s c=i+ahead (λx=>decide (x.bf<c.bf)) (s.aN.drop i))(h:(bif decide ((i:Int)<(s.aN.length:Int)) then decide ((s.aN.getD i .z).bf<c.bf) else false)=true):i<s.aN.length/\Fz s c=i+1+ahead (λx=>decide (x.bf<c.bf)) (s.aN.drop (i+1)):=by
 have h8:=Sz h;have h9:=aS h8.1;refine⟨by omega,?_⟩;rw[hp,Px .z qO,show decide ((s.aN.getD i .z).bf<c.bf)=true from h8.2,dR];omega
theorem al7{s:aZ}{c:aI}{i j k:Nat}(hi:i<=s.aN.length)(hr:Fz s c=i):V.d (Ak i (λj k=>gW (s.aN.getD j .z) k) (gW ⟨c.bf,0,.z⟩) j k)=V.d (gW ((NK s c).aN.getD j .z) k):=by
 show _=V.d (gW ((rM s.aN (Fz s c) ⟨c.bf,0,.z⟩).getD j .z) k);rw[hr];exact gz V.d (aaT gW .z _ s.aN hi)
theorem al8{s:aZ}{c:aI}:s.aN.length+1=(NK s c).aN.length:=(aaU (VZ _ _)).symm
theorem aqC(s:aZ)(c:aI)(hs:mi s)(hz:nZ c)(cZ:c.kind=1):aQ 230 [jk s,jI c] (bQ [jk (pW s c).1,iQ (pW s c).2]):=by
 refine asz Tryz.func230 λX=>?_
 (repeat' (first|refine Ask.of (p:=(s,⟨jw s c,0⟩)) (dF h) (Fin.dC (i:=6) (h:=λj=>gW ((s).aN.getD j .z)) iw (Fin.dC (i:=7) (h:=λj=>dY (s.opens.getD j .z)) iw (Fin.dC (i:=8) (h:=λj=>eX (s.ay.getD j .z)) iw (Fin.tell (asG [jk (s),iQ ⟨jw s c,0⟩] rfl fr ⟨asK ⟨⟨⟨vw,vq ((gz (λv=>jl 8 _ _ _ (jl 7 _ _ _ v)) jR).trans (rfl)) tv⟩,vq ((gz (λv=>jl 8 _ _ _ v) jR).trans rfl) tv⟩,vq jR trivial⟩,(asK vw),tv⟩)))))|refine Ask.of (p:=(s,⟨12,0⟩)) ((bz (aj:(!decide (jw s c=0))=false)).trans ((bz (by rw[cZ];decide)).trans ((dF (by rw[cZ];decide)).trans (dF (aj:decide (0<=jT s c.bf)=true))))) (Fin.dC (i:=6) (h:=λj=>gW ((s).aN.getD j .z)) iw (Fin.dC (i:=7) (h:=λj=>dY (s.opens.getD j .z)) iw (Fin.dC (i:=8) (h:=λj=>eX (s.ay.getD j .z)) iw (Fin.tell (asG [jk (s),iQ ⟨12,0⟩] rfl fr ⟨asK ⟨⟨⟨vw,vq ((gz (λv=>jl 8 _ _ _ (jl 7 _ _ _ v)) jR).trans (rfl)) tv⟩,vq ((gz (λv=>jl 8 _ _ _ v) jR).trans rfl) tv⟩,vq jR trivial⟩,(asK vw),tv⟩)))))|refine Ask.of (p:=(NK s c,eY.z)) ((bz (aj:(!decide (jw s c=0))=false)).trans ((bz (by rw[cZ];decide)).trans ((dF (by rw[cZ];decide)).trans (bz (aj:decide (0<=jT s c.bf)=false))))) (Fin.dC (i:=6) (h:=λj=>gW ((NK s c).aN.getD j .z)) (jB.of (cu _) rfl (λj hj k hk=>al7 hi (aja hi hp h))) (Fin.dC (i:=7) (h:=λj=>dY (s.opens.getD j .z)) iw (Fin.dC (i:=8) (h:=λj=>eX (s.ay.getD j .z)) iw (Fin.tell (asG [jk (NK s c),iQ eY.z] rfl fr ⟨asK ⟨⟨⟨vw,vq ((gz (λv=>jl 8 _ _ _ (jl 7 _ _ _ v)) jR).trans (acO al8)) tv⟩,vq ((gz (λv=>jl 8 _ _ _ v) jR).trans rfl) tv⟩,vq jR trivial⟩,(asK vw),tv⟩)))))|refine asI s.aN.length (λi (a:Unit)=>⟨80,[(2,.ptr 0 0),(3,.ptr 1 0),(4,.ptr 2 0),(5,.ptr 3 0),(7,iV i)],⟨[(0,.blk 7 (lq s 6 7 8)),(1,.blk 8 (λk=>.d (kY c k))),(2,.blk 7 (λ_=>.top)),(3,.blk 2 (λ_=>.top)),(6,dw 54 4 gW .z s.aN),(7,dw 97 2 dY .z s.opens),(8,dw 71 5 eX .z s.ay)],9⟩⟩) (λi a=>Fz s c=i+ahead (λx=>decide (x.bf<c.bf)) (s.aN.drop i)) () ?_ ?_ (λi a hi hp=>?_)|refine aU () ⟨?_,?_,?_⟩|refine oz ?_|refine asD 4 [3,4] [o0,o0,o0,o1,(1,1,true,[])] ?_|refine asD 13 [2,3] [o0,o0,o1,(1,1,true,[])] ?_|refine asD 15 [] [o0,o0,o0,o0,o0,o0,o0,o0,o0,o0,o0,o0,o0,o0,o0,o0] ?_|refine mc ?_ ?_|refine ai.n (λh=>?_)|refine asL (λh=>?_)|refine asP (yI s hs.fit) ?_|refine asT (yN s c hs hz.chunks) tv bw ?_|refine asT (ZI s c.bf hs.may.l1) tv bw ?_|refine asO [6,9] (am3 (n:=s.aN.length) (p:=i) (g:=λj k=>gW (s.aN.getD j .z) k) (x:=λ_ k=>gW ⟨c.bf,0,.z⟩ k) hi (by have:=hs.fit.l1;omega)) rfl rfl rfl vw ⟨⟨_,rfl,af.row rfl fv⟩,⟨_,rfl,af.row rfl (λj hj k hk=>(by obtain rfl:=Nat.lt_one_iff.1 hj;have hk:k<4:=hk;rcases k with _|_|_|_|k;exact qV;exact qV;exact qV;exact qV;exact au hk (by omega)))⟩,tv⟩ ?_|refine asN (asU (jw s c)) ?_|refine asN (asU 12) ?_|refine ai.mk (λh=>?_) (λh=>?_)|refine ag.a ?_|refine ag.mk ?_ ?_))<;>(try(refine dh.mk ?_;repeat' (first|exact tv|exact rfl|refine asA (asU (jw s c)) ?_|refine asA (asU 12) ?_|refine an ?_ ?_|refine ag.mk ?_ ?_)))
 all_goals try exact aB
 all_goals (try(refine aV.mk rfl qN qN ?_ ?_ <;> repeat' (first|exact tv|exact qV|exact VW.top|exact qW|refine an ⟨nb rfl,af.blk ?_⟩ ?_|refine an ⟨nb rfl,af.row ?_ (λj hj k hk=>asB ?_)⟩ ?_|refine an ?_ ?_)))
 all_goals first|exact rfl|exact cm qV|exact(jm _).symm|exact(Vx hp h).1|exact(Vx hp h).2|(have h7:=(Vx hp h).1;have h8:=hs.fit.l1;(simp only[dQ];omega))|(intro h7;have h8:=aS h7;omega)
theorem ar7(s:aZ)(c:aI)(hs:mi s)(hz:nZ c):aQ 230 [jk s,jI c] (bQ [jk (pW s c).1,iQ (pW s c).2]):=by
 by_cases h:c.kind=1
 ·exact aqC s c hs hz h
 ·exact aqB s c hs hz h
theorem Wl{α:Type}:∀(l:List α) (f:α->Int) (m:Int),pX f m l->(∀ y∈l,0<f y)->(l.length:Int)<=max m 0
 |[],f,m,_,_=>by simp;omega
 |y::q,f,m,g1,g2=>by
  have gp:=g1.1;rw[List.map_cons,List.pairwise_cons]at gp;have gy:=g2 y jC;have gm:=g1.2 y jC;have:=Wl q (λz=>f z-f y) (m-f y) ⟨by
   have:=gp.2;rw[List.pairwise_map]at this ⊢;exact this.imp (λ{a b} h=>by show f a-f y<f b-f y;omega),λz hz=>by have:=g1.2 z (je _ hz);show f z-f y<=m-f y;omega⟩ (λz hz=>by have:=gp.1 _ (List.mem_map_of_mem hz);show 0<f z-f y;omega)
  rw[ny];omega
theorem kC.mi{s:aZ}{v:Int}(h:kC s v):mi s:=by
 have l1:=Wl _ _ _ h.aN h.Dy;have l2:=Wl _ _ _ h.opens h.Bl;have l3:=h.len;have hn:=h.next
 have hv:=h.oU;have hch:∀ i,i<s.ay.length->(s.ay.getD i .z).chunks.length<=8:=λi hi=>(zQ (h.sn _ (kM hi)).row).2.1
 refine⟨⟨by omega,by omega,⟨by omega,λi hi=>by have:=hch i hi;omega⟩⟩,⟨by omega,by omega,by omega,λx hx=>?_,λx hx=>?_,λx hx=>?_,λi hi=>by have:=hch i hi;omega,by omega⟩,by omega,by omega⟩
 ·have:=h.Dy x hx;have:=h.aN.2 x hx;simp only at *;omega
 ·have:=h.Bl x hx;have:=h.opens.2 x hx;simp only at *;omega
 ·have:=h.zN x hx;have:=h.ay.2 x hx;simp only at *;omega
theorem ajj(s:aZ)(t v:Int)(c:aI)(hs:mi s)(hz:nZ c)(hc:fZ c v):aQ 212 [jk s,.d (jg [(⟨t,gU c⟩:dm)]),iV v] (bQ [jk (pW s c).1,.d (MS [(pW s c).2]),iV 0]):=by
 refine aug (f:=212) (fn:=Tryz.f212) (t1:=⟨[(0,.blk 7 (λk=>.d (fH s k))),(1,.blk 7 (λ_=>.top)),(2,.blk 1 (λ_=>.top)),(3,.blk 1 (λ_=>.top)),(4,.blk 1 (λ_=>.row 5 ([]:List eY).length)),(5,dw 52 2 jU .z ([]:List eY)),(6,.blk 1 (λ_=>.d (jg [(⟨t,gU c⟩:dm)]))),(7,.blk 1 (λ_=>iV v))],8⟩) (t3:=⟨[(0,.blk 7 (λk=>.d (fH (pW s c).1 k))),(1,.blk 7 (λ_=>.top)),(2,.blk 1 (λ_=>.top)),(3,.blk 1 (λ_=>.top)),(4,.blk 1 (λ_=>.row 5 ([(pW s c).2]:List eY).length)),(5,dw 52 2 jU .z ([(pW s c).2]:List eY))],9⟩) (sL:=⟨40,[(3,.ptr 0 0),(6,.ptr 1 0),(7,.ptr 2 0),(8,.ptr 3 0),(9,.ptr 4 0),(16,.fn 236 0 2 (λk=>match k with|0=>.ptr 6 0|_=>.ptr 7 0))],⟨[(0,.blk 7 (λk=>.d (fH s k))),(1,.blk 7 (λ_=>.top)),(2,.blk 1 (λ_=>.top)),(3,.blk 1 (λ_=>.top)),(4,.blk 1 (λ_=>.row 5 ([]:List eY).length)),(5,dw 52 2 jU .z ([]:List eY)),(6,.blk 1 (λ_=>.d (jg [(⟨t,gU c⟩:dm)]))),(7,.blk 1 (λ_=>iV v))],8⟩⟩) (sA:=⟨40,[(3,.ptr 0 0),(6,.ptr 1 0),(7,.ptr 2 0),(8,.ptr 3 0),(9,.ptr 4 0),(10,.ptr 8 0)],⟨[(0,.blk 7 (λk=>.d (fH s k))),(1,.blk 7 (λ_=>.top)),(2,.blk 1 (λ_=>.top)),(3,.blk 1 (λ_=>.top)),(4,.blk 1 (λ_=>.row 5 ([]:List eY).length)),(5,dw 52 2 jU .z ([]:List eY)),(8,.blk 10 (JI c true))],9⟩⟩) (sE:=⟨40,[],⟨[(0,.blk 7 (λk=>.d (fH (pW s c).1 k))),(1,.blk 7 (λ_=>.top)),(2,.blk 1 (λ_=>.top)),(3,.blk 1 (λ_=>.top)),(4,.blk 1 (λ_=>.row 5 ([(pW s c).2]:List eY).length)),(5,dw 52 2 jU .z ([(pW s c).2]:List eY))],9⟩⟩) (jX:=λk=>match k with|0=>.ptr 6 0|_=>.ptr 7 0) (uQ:=Tryz.f236) (.agg 10 (JI c true)) Tryz.func212 rfl rfl qN ?_ rfl qN Tryz.func236 rfl rfl qN ?_ ?_ ?_ ?_
 ·intro X;repeat' (first|refine Ji ?_|refine asX (c:=.region 3 _ _) 4 0 52 (λj k=>.d (jU (([]:List eY).getD j .z) k)) rfl rfl qN rfl qN (T.region ?_)|refine oz ?_|refine asA (LV s hs.fit) ?_|refine asz (f:=229) Tryz.func229 λX2=>?_|refine ag.a ?_|refine Fin.here ?_)
  all_goals try exact aB
  all_goals (try(refine aV.mk rfl qN qN ?_ ?_ <;> repeat' (first|exact tv|exact qW|refine asJ ?_|refine an ⟨nb rfl,asE rfl (λk hk=>asB ?_)⟩ ?_|refine an ⟨nb rfl,af.row ?_ (λj hj k hk=>asB ?_)⟩ ?_|refine an ?_ ?_)))
  all_goals first|exact rfl|exact cm qV|exact cm VW.top|(have hk:k<7:=hk;rcases k with _|_|_|_|_|_|_|k <;> (exact cm qV))|exact kk
 ·intro X1 l hds hY;repeat' (first|refine auk (id:=4) (pre:=(mW Tryz.f236 4).toList.take 5) (sY:=⟨30,[(9,.d (jg [(⟨t,gU c⟩:dm)])),(10,iV 1),(11,iV 0),(22,.d (.v (.func (.yield l) #[] #[]))),(26,(.agg 10 (JI c true)))],⟨[(0,.blk 7 (λk=>.d (fH s k))),(1,.blk 7 (λ_=>.top)),(2,.blk 1 (λ_=>.top)),(3,.blk 1 (λ_=>.top)),(4,.blk 1 (λ_=>.row 5 ([]:List eY).length)),(5,dw 52 2 jU .z ([]:List eY)),(6,.blk 1 (λ_=>.d (jg [(⟨t,gU c⟩:dm)]))),(7,.blk 1 (λ_=>iV v))],8⟩⟩) hY rfl rfl rfl rfl ?_ rfl rfl rfl rfl ?_|refine oz ?_|refine asA (ama t c v hc) ?_|refine as5 ?_|refine TL.round ?_|refine ai.n (λh=>?_)|refine asL (λh=>?_)|refine ag.a ?_|refine asC qN qN VW.top ?_|refine ag.mk ?_ ?_)
  all_goals try exact aB
  all_goals (try(refine aV.mk rfl qN qN ?_ ?_ <;> repeat' (first|exact tv|exact qV|refine asK ?_|refine an ⟨nb rfl,asE rfl (λk hk=>asB ?_)⟩ ?_|refine an ⟨nb rfl,af.row ?_ (λj hj k hk=>asB ?_)⟩ ?_|refine an ?_ ?_)))
  all_goals first|exact rfl|exact cm qV|exact⟨eF _,(show(0:Int)<1 by decide)⟩|exact kk|(repeat' (first|exact tv|refine an ⟨nb rfl,af.blk ?_⟩ ?_|refine an ⟨nb rfl,af.row rfl fv⟩ ?_|exact qV|exact qW|refine an ?_ ?_))
 ·intro l X2 hds;repeat' (first|refine Ji ?_|refine TR.region rfl ?_|refine ag.a ?_)
  all_goals (try(refine aV.mk rfl qN qN ?_ ?_ <;> repeat' (first|exact tv|exact qW|refine an ⟨nb rfl,asE rfl (λk hk=>asB ?_)⟩ ?_|refine an ⟨nb rfl,af.row ?_ (λj hj k hk=>asB ?_)⟩ ?_|refine an ?_ ?_)))
  all_goals first|exact rfl|exact cm qV|(have hk:k<10:=hk;rcases k with _|_|_|_|_|_|_|_|_|_|k <;> first|exact cm qV|omega)|exact kk
 ·intro l X3 hds;repeat' (first|refine Ji ?_|refine TR.seq ?_|refine TR.region rfl ?_|refine TR.cond ?_|refine TR.block ?_|refine TR.skip ?_|refine asA (ar7 s c hs hz) ?_|refine ai.n (λh=>?_)|refine asL (λh=>?_)|refine ag.a ?_)
  all_goals (try(refine aV.mk rfl qN qN ?_ ?_ <;> repeat' (first|exact tv|refine an ⟨nb rfl,asE rfl (λk hk=>asB ?_)⟩ ?_|refine an ⟨nb rfl,af.row ?_ (λj hj k hk=>asB ?_)⟩ ?_)))
  all_goals first|exact rfl|exact cm qV|(have hk:k<7:=hk;rcases k with _|_|_|_|_|_|_|k <;> first|exact cm qV|omega)|exact kk|(rw[show j=0 from Nat.lt_one_iff.1 hj];have hk:k<2:=hk;rcases k with _|_|k <;> first|exact cm qV|omega)
 ·intro X4 X;repeat' (first|refine oz ?_|refine asD 11 [2,3,4] [o0,o2,o1,(1,1,true,[]),(2,2,true,[])] ?_|refine mc ?_ ?_|refine ag.a ?_|refine Fin.dC (i:=5) (h:=λj=>jU (([(pW s c).2]:List eY).getD j .z)) (jB.of (n:=1) (z:=2) (E:=52) (cu _) rfl fr) (Fin.tell (asG [jk (pW s c).1,.d (MS [(pW s c).2]),iV 0] rfl fr vw)))
  all_goals (try(refine dh.mk ?_;repeat' (first|exact tv|exact rfl|refine an ?_ ?_|refine ag.mk ?_ ?_)))
  all_goals try exact aB
def SA(e:dm)(o:Option aI)(v:Int):Prop:=match o with|none=>e.b=[]|some c=>e.b=gU c/\fZ c v/\nZ c
def rX(s:aZ)(o:Option aI):aZ×eY:=match o with|none=>(s,⟨0,0⟩)|some c=>pW s c
def rF(s:aZ)(os:List (Option aI)):aZ×List eY:=os.foldl (λp o=>((rX p.1 o).1,p.2++[(rX p.1 o).2])) (s,[])
theorem abw{s:aZ}{os:List (Option aI)}{i:Nat}(h:i<os.length):rF s (os.take (i+1))=((rX (rF s (os.take i)).1 (os.getD i none)).1,(rF s (os.take i)).2++[(rX (rF s (os.take i)).1 (os.getD i none)).2]):=Io _ _ none h
theorem ac6{s:aZ}{os:List (Option aI)}:∀ {i:Nat},i<=os.length->(rF s (os.take i)).2.length=i
 |0,_=>rfl
 |i+1,h=>by
  rw[abw qO];rw[bW,List.length_singleton,ac6 (i:=i) qO]
theorem ac5(s:aZ)(e:dm)(o:Option aI)(v:Int)(he:SA e o v)(hs:mi s)(h1:1<=v)(h3:v<=3):aQ 212 [jk s,.d (jg [e]),iV v] (bQ [jk (rX s o).1,.d (MS [(rX s o).2]),iV 0]):=by
 obtain⟨t,b⟩:=e;cases o with
 |none=>
  obtain rfl:b=[]:=he;exact ajk s t v hs.fit h1 h3
 |some c=>
  obtain⟨rfl,hc,hz⟩:b=gU c/\fZ c v/\nZ c:=he;exact ajj s t v c hs hz hc
def zX(n:az)(os:List (Option aI)):az:={ n with st:=(rF n.st os).1,fF:=n.fF++(rF n.st os).2,fA:=n.fA+os.length }
def xN(n:az)(os:List (Option aI))(i:Nat):az:={ n with st:=(rF n.st (os.take i)).1,fF:=n.fF++(rF n.st (os.take i)).2,fA:=n.fA+i }
def aew(n:az)(o:Option aI):az:={ n with st:=(rX n.st o).1,fF:=n.fF++[(rX n.st o).2],fA:=n.fA+1 }
theorem akR{n:az}{os:List (Option aI)}:xN n os 0=n:=by
 unfold xN rF;simp
theorem agv{n:az}{os:List (Option aI)}{i:Nat}(h:i<os.length):xN n os (i+1)=aew (xN n os i) (os.getD i none):=by
 unfold xN aew;rw[abw h];simp only[kE];rw[show n.fA+((i+1:Nat):Int)=n.fA+(i:Int)+1 by omega]
theorem ag8{n:az}{os:List (Option aI)}{i:Nat}(h:i=os.length):xN n os i=zX n os:=by
 subst h;unfold xN zX;rw[oJ]
theorem agw{n:az}{os:List (Option aI)}{i:Nat}(h:i<=os.length):(xN n os i).fF.length=n.fF.length+i:=by
 show(n.fF++(rF n.st (os.take i)).2).length=_;rw[bW,ac6 h]
theorem ajz(n:az)(os:List (Option aI))(hc:os.length=(n.eQ-n.fA).toNat)(ha:0<=n.fA)(hl:n.eQ<=n.ah.log.length)(h70:n.ah.log.length<=70)(hr:n.fF.length<=1000)(hb:1<=n.bin/\n.bin<=3)(zk:∀ i,i<os.length->SA (n.ah.log.getD (n.fA.toNat+i) .z) (os.getD i none) n.bin)(iC:∀ i,i<=os.length->mi (rF n.st (os.take i)).1):ae 161 [.ptr 0 0] (NS n) (λv t=>v = .top/\t=NS (zX n os)):=by
 refine asz Tryz.func161 λX=>?_
 (repeat' (first|refine oz ?_|refine asD 0 [] [o0,o0,o0,o0,o0,o0,o0,o0,o0,o0,o0] ?_|refine asD 1 [33,34] [o2,o2,o2,o2,o2,o2,o2,o2,o2,o2,o2,o2,o2,o2,o2,o2,o2,o2,o2,o2,o2,o2,o2,o2,o2,o2,o2,o2,o2,o2,o2,(0,2,false,[]),(0,2,false,[]),o1,(1,1,true,[]),(2,2,false,[]),(2,2,false,[])] ?_|refine mc ?_ ?_|refine asI os.length (λi (a:Unit)=>⟨76,[(0,.ptr 0 0)],NS (xN n os i)⟩) (λ_ _=>True) () ?_ True.intro (λi a hi hp=>?_)|refine aU () ⟨?_,tv,?_⟩|refine bn.tell (ac5 (rF n.st (os.take i)).1 (n.ah.log.getD (n.fA.toNat+i) .z) (os.getD i none) n.bin (zk i (by have h9:=aS (aj:decide (n.fA+(i:Int)<n.eQ)=true);omega)) (iC i (Nat.le_of_lt (by have h9:=aS (aj:decide (n.fA+(i:Int)<n.eQ)=true);omega))) hb.1 hb.2) ⟨agg,VW.sl ?_ (λj hj k hk=>?_),qV,tv⟩ ?_|refine ai.n (λh=>?_)|refine ai.mk (λh=>?_) (λh=>?_)|refine ag.a ?_|refine asC qN qN VW.top ?_|refine ag.mk ?_ ?_))<;>(try(refine dh.mk ?_;repeat' (first|exact tv|exact rfl|refine ae.tell (ac5 (rF n.st (os.take i)).1 (n.ah.log.getD (n.fA.toNat+i) .z) (os.getD i none) n.bin (zk i (by have h9:=aS (aj:decide (n.fA+(i:Int)<n.eQ)=true);omega)) (iC i (Nat.le_of_lt (by have h9:=aS (aj:decide (n.fA+(i:Int)<n.eQ)=true);omega))) hb.1 hb.2) ⟨agg,VW.sl ?_ (λj hj k hk=>?_),qV,tv⟩ ?_|refine an ?_ ?_|refine ag.mk ?_ ?_)))
 all_goals try exact aB
 all_goals (try(refine aV.mk rfl qN qN ?_ ?_ <;> repeat' (first|exact tv|exact qW|refine an ⟨nb rfl,asE rfl (λk hk=>asB ?_)⟩ ?_|refine an ⟨nb rfl,af.row ?_ (λj hj k hk=>asB ?_)⟩ ?_|refine an ?_ ?_)))
 all_goals first|exact rfl|exact cm qV|(exact gz (V.fV 3) (funext λk=>by rcases k with _|_|_|k <;> rfl))|(rw[akR];first|done|exact cm (VW.refl (LJ qN n k hk))|exact cm qV)|exact cm (VW.refl (QF qN n.aA k hk))|(rw[<-ag8 (show i=os.length by have h9:=bJ (aj:decide (n.fA+(i:Int)<n.eQ)=false);omega)];(repeat' (first|exact tv|refine an ⟨nb rfl,af.blk ?_⟩ ?_|refine an ⟨nb rfl,af.row rfl fv⟩ ?_|exact qV|exact qW|refine an ?_ ?_));done)|(have h9:i<os.length:=(by have h9:=aS (aj:decide (n.fA+(i:Int)<n.eQ)=true);omega);have q:=agw (n:=n) (os:=os) hi;have qa:(xN n os i).fA=n.fA+i:=rfl;have qs:(xN n os i).ah.log.length=n.ah.log.length:=rfl;first|omega|(simp only[dQ,jD];omega)|(show _=1;omega)|(refine⟨rfl,?_⟩;show _+1<=_;omega)|(obtain rfl:j=0:=(by omega);show qx (n.ah.log.getD ((xN n os i).fA.toNat+0) .z) k=qx (n.ah.log.getD (n.fA.toNat+i) .z) k;rw[show(xN n os i).fA.toNat+0=n.fA.toNat+i by omega])|(rw[agv h9];first|exact List.length_append.symm|(have hk:k<23:=hk;rcases k with _|_|_|_|_|_|_|_|_|_|_|_|_|_|_|_|_|_|_|_|_|_|_|k <;> first|exact cm qV|exact cm qW|exact cm (vq (gz (V.row 3) List.length_append.symm) qN))|(have hk:k<2:=hk;refine cm (oq rfl hj fr (λj hj=>?_));obtain rfl:j=0:=Nat.lt_one_iff.1 hj;rcases k with _|_|k;exact qV;exact qV;omega)))
end Go.Proofs.YtnibdnahojjcgaaGreat
