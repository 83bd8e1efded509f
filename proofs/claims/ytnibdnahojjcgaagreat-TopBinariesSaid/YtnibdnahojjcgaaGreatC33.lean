/- Lemmas. -/
import Derived.Test.YtnibdnahojjcgaaGreatC20
import Derived.Test.YtnibdnahojjcgaaGreatC28
import Derived.Test.YtnibdnahojjcgaaGreatC26
import Derived.Test.YtnibdnahojjcgaaGreatC30
namespace Go.Proofs.YtnibdnahojjcgaaGreat
set_option linter.all false
set_option maxRecDepth 100000
set_option maxHeartbeats 0
open Go.RowKit Tryz
section
attribute [local irreducible] af
abbrev NV(n:aA):ST:=⟨[(0,.Wp 23 (Lm n 3 8 9 10 11)),(1,.Wp 5 (tN n.aB)),(2,kL (n.aB.b++n.aB.dA)),(3,bQ 52 2 ji .z n.fV),(8,tH n.ig),(9,gJ n.eF),(10,gJ n.next),(11,gJ n.gz)],12⟩
def vX(n:aA):aA×Int:=aS n (jh (n.ae.term+1) (n.me+1))
def wV(n:aA):aA:={ (vX n).1 with role:=1 }
def asu{n:aA}(h:3<=n.many/\n.many<=5):0<=(wV n).many/\(wV n).many<=1000:=by
 have e:(wV n).many=n.many:=rfl;rw[e];omega
def eX(n:aA):aA:={ (vX n).1 with role:=1,ig:=(List.replicate n.many.toNat false).set n.me.toNat true,eF:=(List.replicate n.many.toNat 0).set n.me.toNat n.bin,next:=List.replicate n.many.toNat 0,gz:=List.replicate n.many.toNat 0 }
def Dx(n:aA)(d:Int):aV:={ sJ n 1 d with a:=(n.ae.log.length:Int),b:=Es n.ae.log }
def yH(n:aA):List aV:=(jb n n.many.toNat).map (Dx n)
def nD(n:aA):aA×List aV×Int:=
 bif n.aB.down then(n,[],30) else bif decide (n.role=2) then(n,[],0) else((vX n).1,[],(vX n).2)
def YJ{α:Type}{m j:Nat}{z:α}:(List.replicate m z).getD j z=z:=by
 rw[bn,List.getElem?_replicate];split <;> rfl
def amR{p m:Nat}{v:Int}{g:Nat->V}(hp:p<m){j k:Nat}(hk:k<1)(e:g 0=iV v):mr (λ_ k=>iM 3 k) p 0 1 g j k=V.d (iD (((List.replicate m (0:Int)).set p v).getD j 0)):=by
 refine Eq.trans ?_ (J6 (l:=List.replicate m 0) (p:=p) (v:=v) (g:=g) (by rw[List.length_replicate];exact hp) hk e);obtain rfl:k=0:=Nat.lt_one_iff.1 hk;unfold mr;cases Nat.beq j p
 ·show iM 3 0=V.d (iD ((List.replicate m (0:Int)).getD j 0));rw[YJ];rfl
 ·rfl
def amS{p m:Nat}{v:Bool}{g:Nat->V}(hp:p<m){j k:Nat}(hk:k<1)(e:g 0 = .b v):mr (λ_ k=>iM 4 k) p 0 1 g j k=V.d (bD (((List.replicate m false).set p v).getD j false)):=by
 refine Eq.trans ?_ (aef (l:=List.replicate m false) (p:=p) (v:=v) (g:=g) (by rw[List.length_replicate];exact hp) hk e);obtain rfl:k=0:=Nat.lt_one_iff.1 hk;unfold mr;cases Nat.beq j p
 ·show iM 4 0=V.d (bD ((List.replicate m false).getD j false));rw[YJ];rfl
 ·rfl
def MZ{n:aA}:(wV n).many=n.many:=by
 unfold wV vX aS;exact rfl
def apc{n:aA}:(wV n).me=n.me:=by
 unfold wV vX aS;exact rfl
def ahc{n:aA}:(eX n).ig.length=n.many.toNat:=by
 show((List.replicate n.many.toNat false).set n.me.toNat true).length=_;rw[nM,List.length_replicate]
def ahf{n:aA}:(eX n).eF.length=n.many.toNat:=by
 show((List.replicate n.many.toNat (0:Int)).set n.me.toNat n.bin).length=_;rw[nM,List.length_replicate]
def ahe{n:aA}:(eX n).next.length=n.many.toNat:=List.length_replicate
def ahd{n:aA}:(eX n).gz.length=n.many.toNat:=List.length_replicate
def alU{n:aA}:(eX n).many=n.many:=by
 unfold eX vX aS;exact rfl
def ao8{n:aA}(h:3<=n.many/\n.many<=5):(eX n).many=((n.many.toNat:Nat):Int):=by
 rw[alU];omega
def adv{n:aA}(h:3<=n.many/\n.many<=5):n.many.toNat<=5:=qO
def ao9{n:aA}(h:(vX n).1.ae.log.length<=1000):(eX n).ae.log.length<100000:=by
 have e:(eX n).ae=(vX n).1.ae:=rfl;rw[e];omega
def T.LQ(n0 n:aA)(hm:0<=n.many/\n.many<=1000){X:Cx (NS n0)}{Q:Exit->AS->Prop}(hq:Q .normal ⟨132,rf (nP f24 12).toList (aab n)++[(0,.ptr 0 0)],aaG n true true true true true⟩):T X (.region 12 (nP f24 12) true) Q ⟨132,[(0,.ptr 0 0)],NS n⟩:=aoT n0 n hm hq
def amQ{m j k:Nat}(hk:k<1):iM 3 k=V.d (iD ((List.replicate m (0:Int)).getD j 0)):=by
 obtain rfl:k=0:=Nat.lt_one_iff.1 hk;rw[YJ];rfl
def aiY(n:aA)(hm:3<=n.many/\n.many<=5)(axv:0<=n.me/\n.me<n.many)(qy:0<=n.me/\n.me<5)(hT : -10<=n.ae.term/\n.ae.term<1048576)(hl:n.ae.log.length<=1000)(hn:n.aB.down=false->wB n)(hL:mV n.ae (jh (n.ae.term+1) (n.me+1)))(hu:n.aB.down=false)(hr:¬n.role=2)(hq:(aS n (jh (n.ae.term+1) (n.me+1))).2=0)(pK:(vX n).1.ae.log.length<=1000):af 24 [.ptr 0 0] (NS n) (λv t=>v=bI [.d (iU (yH (eX n))),iV 0]/\t=NV (eX n)):=by refine ay func24 λX=>?_;exact abr
end
section
attribute [local irreducible] af
def aum{n:aA}(h:n.aB.down=true):nD n=(n,[],30):=by
 unfold nD;rw[h];rfl
def aul{n:aA}(h:n.aB.down=false)(h2:decide (n.role=2)=true):nD n=(n,[],0):=by
 unfold nD;rw[h,h2];rfl
def auk{n:aA}(h:n.aB.down=false)(h2:decide (n.role=2)=false):nD n=((aS n (jh (n.ae.term+1) (n.me+1))).1,[],(aS n (jh (n.ae.term+1) (n.me+1))).2):=by
 unfold nD vX;rw[h,h2];rfl
def aiZ(n:aA)(qy:0<=n.me/\n.me<5)(hT : -10<=n.ae.term/\n.ae.term<1048576)(hn:n.aB.down=false->wB n)(hL:mV n.ae (jh (n.ae.term+1) (n.me+1)))(hE:n.aB.down=false->¬n.role=2->¬(aS n (jh (n.ae.term+1) (n.me+1))).2=0):af 24 [.ptr 0 0] (NS n) (NR (nD n)):=by refine ay func24 λX=>?_;exact abr
end
