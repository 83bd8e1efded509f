/- A part of the proof. -/
import Derived.Test.YtnibdnahojjcgaaGreatB32
import Derived.Test.YtnibdnahojjcgaaGreatB34
namespace Go.Proofs.YtnibdnahojjcgaaGreat
set_option maxRecDepth 100000
set_option maxHeartbeats 16000000
set_option linter.unusedVariables false
set_option linter.unusedSimpArgs false
open Go.RowKit
def JO(n:az)(e a b c d:Nat):Nat->V
 |0=>iV n.me|1=>iV n.many|2=>.ptr 1 0|3=>iV n.bin|4=>iV n.ah.floor|5=>iV n.ah.term|6=>iV n.ah.gZ|7=>.d (jg n.ah.log)
 |8=>iV n.dn|9=>iV n.eQ|10=>iV n.fA
 |11=>.d (fH n.st 0)|12=>.d (fH n.st 1)|13=>.d (fH n.st 2)|14=>.d (fH n.st 3)|15=>.d (fH n.st 4)|16=>.d (fH n.st 5)|17=>.d (fH n.st 6)
 |18=>.row e n.fF.length|19=>.row a n.iL.length|20=>.row b n.fD.length|21=>.row c n.next.length|_=>.row d n.fJ.length
def arF(n:az):Nat->V
 |0=>iV n.me|1=>iV n.many|2=>.ptr 1 0|3=>iV n.bin|4=>iV n.ah.floor|5=>iV n.ah.term|6=>iV n.ah.gZ|7=>.d (jg n.ah.log)
 |8=>iV n.dn|9=>iV n.eQ|10=>iV n.fA
 |11=>.d (fH n.st 0)|12=>.d (fH n.st 1)|13=>.d (fH n.st 2)|14=>.d (fH n.st 3)|15=>.d (fH n.st 4)|16=>.d (fH n.st 5)|17=>.d (fH n.st 6)
 |_=>.dE
abbrev NU(n:az):ST:=⟨[(0,.blk 23 (JO n 9 10 11 12 13)),(1,.blk 5 (sO n.aA)),(2,iy (n.aA.b++n.aA.bU)),(9,dw 52 2 jU .z n.fF),(10,sK n.iL),(11,fM n.fD),(12,fM n.next),(13,fM n.fJ)],14⟩
def A8(n:az)(b:Int)(L:List aT):Int:=bif !n.aA.down then 31 else EM b (max (iM L).floor 1)
def Om(d:dJ)(L:List aT):dJ:=dJ.cut { d with down:=false,mD:=false,keep:=0 } (bY L).length
def gB(n:az)(b:Int)(L:List aT):az:={ n with aA:=Om n.aA L,bin:=b,ah:=iM L,dn:=0,eQ:=0,fA:=0,st:=Jm,fF:=[],iL:=[],fD:=[],next:=[],fJ:=[] }
def jq(b:Int):List aT:=[⟨1,b,0,[]⟩]
def Je(n:az)(b:Int)(L:List aT):az×Int:=
 bif decide ((iM L).floor<b) then
  (bif !decide ((aW (gB n b L) (jq b)).2=0) then ({ (aW (gB n b L) (jq b)).1 with aA:=(aW (gB n b L) (jq b)).1.aA.nG 0 },(aW (gB n b L) (jq b)).2) else ((aW (gB n b L) (jq b)).1,0))
 else (gB n b L,0)
def UR(q:az×Int)(v:V)(t:ST):Prop:=v=iV q.2/\t=NU q.1
theorem UR.of{t0:ST}{X:Cx t0}{v:V}{t:ST}{p q:az×Int}(e:q=p)(h:Fin X v t (UR p)):Fin X v t (UR q):=e▸h
theorem Laid.le{b:List UInt8}{L:List aT}{t:List UInt8}(h:Laid b L t):(bY L).length<=b.length:=by rw[h.eq,bW];omega
theorem ah0(n:az)(b:Int)(L:List aT)(t:List UInt8)(hL:Laid n.aA.b L t)(hd:n.aA.ok)(hE:¬A8 n b L=0):ae 30 [.ptr 0 0,iV b] (NS n) (λv t=>v=iV (A8 n b L)/\t=NS n):=by
 refine asz Tryz.func30 λX=>?_
 (repeat' (first|refine ai.mk (λh=>?_) (λh=>au ((bz (aj:(!n.aA.down)=false)).trans (Og h)) hE)|refine oz ?_|refine asH [1,2] (yM n.aA) ?_|refine asH [1,2] (adG n.aA hd) ?_|refine asA (abr n.aA.b L t hL) ?_|refine asA (abe b (max (iM L).floor 1)) ?_|refine ai.mk (λh=>?_) (λh=>?_)|refine ag.a ?_|(refine asY qN (vq (gz iV ?_) tv) ?_)))<;>try exact aB
 all_goals first|exact(dF (aj:(!n.aA.down)=true)).symm|exact(bz (aj:(!n.aA.down)=false)).symm|exact qM
theorem ahZ(n:az)(b:Int)(L:List aT)(t:List UInt8)(hL:Laid n.aA.b L t)(hd:n.aA.ok)(hu:n.aA.down=true)(hE:EM b (max (iM L).floor 1)=0)(hup:dJ.ok (Om n.aA L))(hP:lM (iM L) (jq b))(hc:¬(aW (gB n b L) (jq b)).2=0->dJ.ok (aW (gB n b L) (jq b)).1.aA):ae 30 [.ptr 0 0,iV b] (NS n) (UR (Je n b L)):=by
 refine asz Tryz.func30 λX=>?_
 (repeat' (first|refine ai.mk (λh=>au ((show(!n.aA.down)=false by rw[hu];rfl).symm.trans h) (by decide)) (λh=>?_)|refine ai.mk (λh=>au hE (YO h)) (λh=>?_)|refine T.cut (x:=.region 13 _ _) ⟨75,[(0,.ptr 0 0),(1,iV b),(5,.ptr 8 0)],⟨[(0,.blk 23 (arF (gB n b L))),(1,.blk 5 (sO (gB n b L).aA)),(2,iy ((gB n b L).aA.b++(gB n b L).aA.bU)),(8,.blk 4 (λk=>.d (kW (iM L) k)))],9⟩⟩ ?_ (asX 0 18 52 (λj k=>.d (jU (([]:List eY).getD j .z) k)) rfl rfl qN rfl qN (asX 0 19 4 (λj k=>.d (bD (([]:List Bool).getD j false))) rfl rfl qN rfl qN (asX 0 20 3 (λj k=>.d (iD (([]:List Int).getD j 0))) rfl rfl qN rfl qN (asX 0 21 3 (λj k=>.d (iD (([]:List Int).getD j 0))) rfl rfl qN rfl qN (asX 0 22 3 (λj k=>.d (iD (([]:List Int).getD j 0))) rfl rfl qN rfl qN (T.le ⟨75,[(0,.ptr 0 0),(1,iV b),(5,.ptr 8 0)],⟨[(0,.blk 23 (JO (gB n b L) 9 10 11 12 13)),(1,.blk 5 (sO (gB n b L).aA)),(2,iy ((gB n b L).aA.b++(gB n b L).aA.bU)),(8,.blk 4 (λk=>.d (kW (iM L) k))),(9,dw 52 2 jU .z (gB n b L).fF),(10,sK (gB n b L).iL),(11,fM (gB n b L).fD),(12,fM (gB n b L).next),(13,fM (gB n b L).fJ)],14⟩⟩ ?_ ?_))))))|refine att (id:=15) (pre:=(mW Tryz.f30 15).toList.take 4) (vH:=(mW Tryz.f30 15).toList.drop 4) rfl rfl ?_|refine oz ?_|refine asD 13 [7] [o0,o0,o0,o0,o0,o0,o0,o1] ?_|refine ag.mk (ed (atd ?_) rfl) ?_|refine aU _ (ed (((Conv.le (s2:=⟨75,[(0,.ptr 0 0),(1,iV b),(5,.ptr 8 0),(62,.ptr 0 0),(65,.row 14 1)],⟨[(0,.blk 23 (JO (gB n b L) 9 10 11 12 13)),(1,.blk 5 (sO (gB n b L).aA)),(2,iy ((gB n b L).aA.b++(gB n b L).aA.bU)),(8,.blk 4 (λk=>.d (kW (iM L) k))),(9,dw 52 2 jU .z (gB n b L).fF),(10,sK (gB n b L).iL),(11,fM (gB n b L).fD),(12,fM (gB n b L).next),(13,fM (gB n b L).fJ),(14,dw 138 4 oH .z (jq b))],15⟩⟩) ?_).trans (Conv.dC (i:=14) (h:=λj=>oH ((jq b).getD j .z)) (jB.of (n:=1) (z:=4) (E:=138) qN rfl (λj hj k hk=>rfl)))).trans (Conv.le (s2:=⟨75,[(0,.ptr 0 0),(1,iV b),(5,.ptr 8 0),(62,.ptr 0 0),(65,.d (iq (jq b)))],⟨[(0,.blk 23 (JO (gB n b L) 9 10 11 12 13)),(1,.blk 5 (sO (gB n b L).aA)),(2,iy ((gB n b L).aA.b++(gB n b L).aA.bU)),(8,.blk 4 (λk=>.d (kW (iM L) k))),(9,dw 52 2 jU .z (gB n b L).fF),(10,sK (gB n b L).iL),(11,fM (gB n b L).fD),(12,fM (gB n b L).next),(13,fM (gB n b L).fJ)],15⟩⟩) ?_)) ?_)|refine asH [1,2] (yM n.aA) ?_|refine asH [1,2] (adG n.aA hd) ?_|refine asA (abr n.aA.b L t hL) ?_|refine asA (abe b (max (iM L).floor 1)) ?_|refine asH [1,2] (aq2 n.aA hu) ?_|refine asH [1,2] (aqF { n.aA with down:=false,mD:=false,keep:=0 } (bY L).length ⟨hd.s0,hd.s1,hd.len,hd.bU⟩ hL.le rfl) ?_|refine asH [0,1,2,9,10,11,12,13] (Dc (gB n b L) (jq b) hP ⟨hup,rfl,by show(-9223372036854775808:Int)<=0;decide⟩) ?_|refine asH [1,2] (QH (aW (gB n b L) (jq b)).1.aA 0 (hc (YO (by assumption))) (by decide)) ?_|refine asN aav ?_|refine ai.n (λh=>?_)|refine ai.mk (λh=>?_) (λh=>?_)|refine ag.a ?_|(refine nT.mk (p:=(!decide ((aW (gB n b L) (jq b)).2=0))=true) ?_ ?_;(with_reducible_and_instances assumption);refine UR.of (p:=({ (aW (gB n b L) (jq b)).1 with aA:=(aW (gB n b L) (jq b)).1.aA.nG 0 },(aW (gB n b L) (jq b)).2)) ?_ (asC qN qN qV ?_))|(refine nT.mk (p:=(!decide ((aW (gB n b L) (jq b)).2=0))=false) ?_ ?_;(with_reducible_and_instances assumption);refine UR.of (p:=((aW (gB n b L) (jq b)).1,0)) ?_ (asC qN qN qV ?_))|refine UR.of (p:=((gB n b L),0)) ?_ (asC qN qN qV ?_)))<;>(try(refine dh.mk ?_;repeat' (first|exact tv|exact rfl|refine asA aav ?_|refine an ?_ ?_|refine ag.mk ?_ ?_)))
 all_goals try exact aB
 all_goals (try(refine aV.mk rfl qN qN ?_ ?_ <;> repeat' (first|exact tv|exact qV|exact qW|refine an ⟨nb rfl,asE rfl (λk hk=>asB ?_)⟩ ?_|refine an ⟨nb rfl,af.row ?_ (λj hj k hk=>asB ?_)⟩ ?_|refine an ?_ ?_)))
 all_goals first|exact rfl|exact cm qV|(unfold Je;simp only[*,dR,di];done)|(have hk:k<23:=hk;rcases k with _|_|_|_|_|_|_|_|_|_|_|_|_|_|_|_|_|_|_|_|_|_|_|k <;> first|exact cm qV|exact cm qW|omega)|(have hk:k<5:=hk;rcases k with _|_|_|_|_|k <;> first|exact cm qV|exact cm qW)|((repeat' (first|exact tv|refine an ⟨nb rfl,af.blk ?_⟩ ?_|refine an ⟨nb rfl,af.row rfl (λj hj k hk=>vq rfl tv)⟩ ?_|exact qV|exact qW|refine an ?_ ?_));done)|(have hk:k<4:=hk;rcases k with _|_|_|_|k <;> first|exact cm qV|omega)|(have hk:k<4:=hk;obtain rfl:j=0:=Nat.lt_one_iff.1 hj;rcases k with _|_|_|_|k <;> first|exact cm qV|exact cm (asQ rfl)|omega)
end Go.Proofs.YtnibdnahojjcgaaGreat
