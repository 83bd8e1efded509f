/- Lemmas. -/
import Derived.Test.YtnibdnahojjcgaaGreatC21
namespace Go.Proofs.YtnibdnahojjcgaaGreat
set_option linter.all false
set_option maxRecDepth 100000
set_option maxHeartbeats 0
open Go.RowKit Tryz
def Lm(n:aA)(e a b c d:Nat):Nat->V
 |0=>iV n.me|1=>iV n.many|2=>.ptr 1 0|3=>iV n.bin|4=>iV n.ae.floor|5=>iV n.ae.term|6=>iV n.ae.cu|7=>.d (gY n.ae.log)
 |8=>iV n.role|9=>iV n.dN|10=>iV n.dn
 |11=>.d (dW n.st 0)|12=>.d (dW n.st 1)|13=>.d (dW n.st 2)|14=>.d (dW n.st 3)|15=>.d (dW n.st 4)|16=>.d (dW n.st 5)|17=>.d (dW n.st 6)
 |18=>.row e n.fV.length|19=>.row a n.ig.length|20=>.row b n.eF.length|21=>.row c n.next.length|_=>.row d n.gz.length
def awI(n:aA):Nat->V
 |0=>iV n.me|1=>iV n.many|2=>.ptr 1 0|3=>iV n.bin|4=>iV n.ae.floor|5=>iV n.ae.term|6=>iV n.ae.cu|7=>.d (gY n.ae.log)
 |8=>iV n.role|9=>iV n.dN|10=>iV n.dn
 |11=>.d (dW n.st 0)|12=>.d (dW n.st 1)|13=>.d (dW n.st 2)|14=>.d (dW n.st 3)|15=>.d (dW n.st 4)|16=>.d (dW n.st 5)|17=>.d (dW n.st 6)
 |_=>.dC
abbrev NU(n:aA):ST:=⟨[(0,.Wp 23 (Lm n 9 10 11 12 13)),(1,.Wp 5 (tN n.aB)),(2,kL (n.aB.b++n.aB.dA)),(9,bQ 52 2 ji .z n.fV),(10,tH n.ig),(11,gJ n.eF),(12,gJ n.next),(13,gJ n.gz)],14⟩
def BL(n:aA)(b:Int)(L:List aP):Int:=bif !n.aB.down then 31 else Cc b (max (fJ L).floor 1)
def Jd(d:fC)(L:List aP):fC:=fC.cut { d with down:=false,oU:=false,axz:=0 } (di L).length
def eQ(n:aA)(b:Int)(L:List aP):aA:={ n with aB:=Jd n.aB L,bin:=b,ae:=fJ L,role:=0,dN:=0,dn:=0,st:=AA,fV:=[],ig:=[],eF:=[],next:=[],gz:=[] }
def iH(b:Int):List aP:=[⟨1,b,0,[]⟩]
def Kq(n:aA)(b:Int)(L:List aP):aA×Int:=
 bif decide ((fJ L).floor<b) then
  (bif !decide ((aS (eQ n b L) (iH b)).2=0) then({ (aS (eQ n b L) (iH b)).1 with aB:=(aS (eQ n b L) (iH b)).1.aB.lF 0 },(aS (eQ n b L) (iH b)).2) else((aS (eQ n b L) (iH b)).1,0))
 else(eQ n b L,0)
def UR(q:aA×Int)(v:V)(t:ST):Prop:=v=iV q.2/\t=NU q.1
def UR.of{t0:ST}{X:Cx t0}{v:V}{t:ST}{p q:aA×Int}(e:q=p)(h:Fin X v t (UR p)):Fin X v t (UR q):=e▸h
def Laid.le{b:List UInt8}{L:List aP}{t:List UInt8}(h:Laid b L t):(di L).length<=b.length:=by rw[h.eq,bP];omega
def akY(n:aA)(b:Int)(L:List aP)(t:List UInt8)(hL:Laid n.aB.b L t)(hd:n.aB.ok)(hE:¬BL n b L=0):af 30 [.ptr 0 0,iV b] (NS n) (λv t=>v=iV (BL n b L)/\t=NS n):=by refine ay Tryz.func30 λX=>?_;exact abv
def akX(n:aA)(b:Int)(L:List aP)(t:List UInt8)(hL:Laid n.aB.b L t)(hd:n.aB.ok)(hu:n.aB.down=true)(hE:Cc b (max (fJ L).floor 1)=0)(hup:fC.ok (Jd n.aB L))(hP:mV (fJ L) (iH b))(hc:¬(aS (eQ n b L) (iH b)).2=0->fC.ok (aS (eQ n b L) (iH b)).1.aB):af 30 [.ptr 0 0,iV b] (NS n) (UR (Kq n b L)):=by refine ay Tryz.func30 λX=>?_;exact abv
