/- A part of the proof. -/
import Derived.Test.YtnibdnahojjcgaaGreatB35
import Derived.Test.YtnibdnahojjcgaaGreatB36
namespace Go.Proofs.YtnibdnahojjcgaaGreat
set_option maxRecDepth 100000
set_option maxHeartbeats 16000000
set_option linter.unusedVariables false
set_option linter.unusedSimpArgs false
open Go.RowKit
structure HY (n:az) (os:List (Option aI)):Prop where
 hc:os.length=(n.eQ-n.fA).toNat
 ha:0<=n.fA
 hl:n.eQ<=n.ah.log.length
 h70:n.ah.log.length<=70
 hr:n.fF.length<=1000
 hb:1<=n.bin/\n.bin<=3
 zk:∀ i,i<os.length->SA (n.ah.log.getD (n.fA.toNat+i) .z) (os.getD i none) n.bin
 iC:∀ i,i<=os.length->mi (rF n.st (os.take i)).1
theorem ad5(n:az)(os:List (Option aI))(h:HY n os):ae 161 [.ptr 0 0] (NS n) (λv t=>v = .top/\t=NS (zX n os)):=ajz n os h.hc h.ha h.hl h.h70 h.hr h.hb h.zk h.iC
def ng(n:az)(x:aP):az:={ n with dn:=bif decide (x.term=n.ah.term) then 0 else n.dn }
def D6(n:az)(x:aP)(u:Int):az:={ n with eQ:=max n.eQ (min x.c u) }
theorem YX.mk{p q:Prop}(h:p)(hq:q):q:=hq
def xH(n:az)(x:aP)(os:List (Option aI)):az×List aP×Int:=
 bif !decide ((aW n (bi n.ah x).1).2=0) then ((aW n (bi n.ah x).1).1,[],(aW n (bi n.ah x).1).2)
 else bif (bi n.ah x).2.1 then (zX (D6 (ng (aW n (bi n.ah x).1).1 x) x (bi n.ah x).2.2) os,[{ rH (ng (aW n (bi n.ah x).1).1 x) 4 x.src with ok:=(bi n.ah x).2.1,a:=(bi n.ah x).2.2 }],0)
 else bif decide (x.term=(aW n (bi n.ah x).1).1.ah.term) then (ng (aW n (bi n.ah x).1).1 x,[{ rH (ng (aW n (bi n.ah x).1).1 x) 4 x.src with ok:=(bi n.ah x).2.1,a:=min 64 (aW n (bi n.ah x).1).1.ah.log.length }],0)
 else (ng (aW n (bi n.ah x).1).1 x,[{ rH (ng (aW n (bi n.ah x).1).1 x) 4 x.src with ok:=(bi n.ah x).2.1 }],0)
theorem ah3(n:az)(x:aP)(os:List (Option aI))(hx:jJ x)(cZ:x.kind=3)(jQ:x.a+x.l.length<=64)(hl:n.ah.log.length<=1000)(hL:lM n.ah (bi n.ah x).1)(hn:vI n)(pq:(aW n (bi n.ah x).1).1.ah.log.length<=1000)(xu:(!decide ((aW n (bi n.ah x).1).2=0))=false->(bi n.ah x).2.1=true->HY (D6 (ng (aW n (bi n.ah x).1).1 x) x (bi n.ah x).2.2) os):ae 107 [.ptr 0 0,jy x] (NS n) (NR (xH n x os)):=by
 refine asz Tryz.func107 λX=>?_
 (repeat' (first|refine T.cut (x:=.seq (.region 7 _ _) _) ⟨93,[(0,.ptr 0 0),(3,.ptr 8 0),(7,.b (bi n.ah x).2.1),(8,iV (bi n.ah x).2.2)],⟨NL (ng (aW n (bi n.ah x).1).1 x)++[(8,.blk 10 (λk=>.d (jF x k)))],9⟩⟩ ?_ ?_|refine oz ?_|refine asD 1 [6] [o0,o0,o0,o0,o0,o0,o1,o3,o3,o3,o3,o3,o3,o3,o3,o3] ?_|refine asD 7 [] [o0,o0,o0,o0,o0,o0,o0,o0,o0] ?_|refine asD 12 [14] [o0,o0,o0,o0,o0,o0,o0,o0,o0,o0,o0,o0,o0,o0,o1] ?_|refine asD 15 [] [o0,o0,o0,o0,o0,o0,o0,o0,o0,o0] ?_|refine mc ?_ ?_|refine asH [0,1,2,3,4,5,6,7] (Dc n (bi n.ah x).1 hL hn) ?_|refine asH [0,1,2,3,4,5,6,7] (VF (ng (aW n (bi n.ah x).1).1 x) 4 x.src) ?_|refine asH [0,1,2,3,4,5,6,7] (ad5 (D6 (ng (aW n (bi n.ah x).1).1 x) x (bi n.ah x).2.2) os (xu aj aj)) ?_|refine asN (QP n.ah x hx cZ jQ hl) ?_|refine ai.n (λh=>?_)|refine ai.mk (λh=>?_) (λh=>?_)|refine ag.a ?_|refine NR.of (p:=((aW n (bi n.ah x).1).1,[],(aW n (bi n.ah x).1).2)) ?_ (asC qN qN (asG [.d (gu []),iV ((aW n (bi n.ah x).1).2)] rfl fr vw) ?_)|(refine YX.mk (p:=(bi n.ah x).2.1=true) ?_ ?_;((exact h));refine NR.of (p:=(zX (D6 (ng (aW n (bi n.ah x).1).1 x) x (bi n.ah x).2.2) os,[({ rH (ng (aW n (bi n.ah x).1).1 x) 4 x.src with ok:=(bi n.ah x).2.1,a:=(bi n.ah x).2.2 }:aP)],0)) ?_ (Fin.dC (i:=10) (h:=λj=>jF (([({ rH (ng (aW n (bi n.ah x).1).1 x) 4 x.src with ok:=(bi n.ah x).2.1,a:=(bi n.ah x).2.2 }:aP)]:List aP).getD j .z)) (jB.of (n:=1) (z:=10) (E:=126) qN rfl (λj hj k hk=>LD hj hk rfl rfl rfl rfl rfl rfl rfl rfl rfl rfl)) (asC qN qN (asG [.d (gu [({ rH (ng (aW n (bi n.ah x).1).1 x) 4 x.src with ok:=(bi n.ah x).2.1,a:=(bi n.ah x).2.2 }:aP)]),iV 0] rfl fr vw) ?_)))|(refine YX.mk (p:=decide (x.term=(aW n (bi n.ah x).1).1.ah.term)=true) ?_ ?_;((exact h));refine NR.of (p:=((ng (aW n (bi n.ah x).1).1 x),[({ rH (ng (aW n (bi n.ah x).1).1 x) 4 x.src with ok:=(bi n.ah x).2.1,a:=min 64 (aW n (bi n.ah x).1).1.ah.log.length }:aP)],0)) ?_ (Fin.dC (i:=10) (h:=λj=>jF (([({ rH (ng (aW n (bi n.ah x).1).1 x) 4 x.src with ok:=(bi n.ah x).2.1,a:=min 64 (aW n (bi n.ah x).1).1.ah.log.length }:aP)]:List aP).getD j .z)) (jB.of (n:=1) (z:=10) (E:=126) qN rfl (λj hj k hk=>LD hj hk rfl rfl rfl rfl rfl rfl rfl rfl rfl rfl)) (asC qN qN (asG [.d (gu [({ rH (ng (aW n (bi n.ah x).1).1 x) 4 x.src with ok:=(bi n.ah x).2.1,a:=min 64 (aW n (bi n.ah x).1).1.ah.log.length }:aP)]),iV 0] rfl fr vw) ?_)))|(refine YX.mk (p:=decide (x.term=(aW n (bi n.ah x).1).1.ah.term)=false) ?_ ?_;((exact h));refine NR.of (p:=((ng (aW n (bi n.ah x).1).1 x),[({ rH (ng (aW n (bi n.ah x).1).1 x) 4 x.src with ok:=(bi n.ah x).2.1 }:aP)],0)) ?_ (Fin.dC (i:=10) (h:=λj=>jF (([({ rH (ng (aW n (bi n.ah x).1).1 x) 4 x.src with ok:=(bi n.ah x).2.1 }:aP)]:List aP).getD j .z)) (jB.of (n:=1) (z:=10) (E:=126) qN rfl (λj hj k hk=>LD hj hk rfl rfl rfl rfl rfl rfl rfl rfl rfl rfl)) (asC qN qN (asG [.d (gu [({ rH (ng (aW n (bi n.ah x).1).1 x) 4 x.src with ok:=(bi n.ah x).2.1 }:aP)]),iV 0] rfl fr vw) ?_)))))<;>(try(refine dh.mk ?_;repeat' (first|exact tv|exact rfl|refine asA (QP n.ah x hx cZ jQ hl) ?_|refine an ?_ ?_|refine ag.mk ?_ ?_)))
 all_goals try exact aB
 all_goals (try(refine aV.mk rfl qN qN ?_ ?_ <;> repeat' (first|exact tv|exact qV|exact qW|refine an ⟨nb rfl,asE rfl (λk hk=>asB ?_)⟩ ?_|refine an ⟨nb rfl,af.row ?_ (λj hj k hk=>asB ?_)⟩ ?_|refine an ?_ ?_)))
 all_goals first|exact rfl|exact cm qV|(unfold xH;simp only[*,dR,di];done)|(rename_i h1 h2;first|exact(bz h1).trans ((bz h2).trans (dF h))|exact(bz h1).trans ((bz h2).trans (bz h)))|exact kk|(have hk:k<23:=hk;rcases k with _|_|_|_|_|_|_|_|_|_|_|_|_|_|_|_|_|_|_|_|_|_|_|k <;> first|exact cm qV|exact cm qW|exact cm (vq (gz iV (show(0:Int)=bif decide (x.term=(aW n (bi n.ah x).1).1.ah.term) then 0 else (aW n (bi n.ah x).1).1.dn by rw[h];rfl)) tv)|exact cm (vq (gz iV (show(aW n (bi n.ah x).1).1.dn=bif decide (x.term=(aW n (bi n.ah x).1).1.ah.term) then 0 else (aW n (bi n.ah x).1).1.dn by rw[h];rfl)) tv))|exact qM
def JM(n:az)(x:aP):az:={ n with next:=n.next.set x.src.toNat (min (Ju (n.next.getD x.src.toNat 0) x) (pg n)) }
def afr(n:az)(x:aP):az:={ n with fJ:=bif x.ok then n.fJ.set x.src.toNat (max (n.fJ.getD x.src.toNat 0) (min x.a (n.ah.log.length:Int))) else n.fJ }
def Fq(n:az):List Int:=n.fJ.set n.me.toNat (n.ah.log.length:Int)
def wX(n:az):az:={ n with eQ:=Ja n.ah (Fq n) n.eQ }
def kT(n:az)(x:aP):az:=afr (JM n x) x
def tZ(n:az)(x:aP)(os:List (Option aI)):az:=zX (wX (kT n x)) os
def DK(n:az)(x:aP)(os:List (Option aI)):az×List aP×Int:=bif decide ((n.ah.log.length:Int)<(tZ n x os).next.getD x.src.toNat 0) then (tZ n x os,[],0) else (tZ n x os,[o7 (tZ n x os) x.src],0)
theorem WA(n:az)(x:aP):(afr n x).fJ.length=n.fJ.length:=by
 show(bif x.ok then _ else _:List Int).length=_;cases x.ok
 ·rfl
 ·exact oK
theorem Qx(n:az)(x:aP):(JM n x).next.length=n.next.length:=oK
theorem QE(n:az)(x:aP):(kT n x).fJ.length=n.fJ.length:=WA _ _
theorem aka(n:az)(x:aP):(kT n x).next.length=n.next.length:=Qx _ _
theorem Vw(n:az):(Fq n).length=n.fJ.length:=oK
theorem arB{x:aP}{l m:List Int}(h:x.ok=true){j:Nat}:V.d (iD (l.getD j 0))=V.d (iD ((bif x.ok then l else m:List Int).getD j 0)):=by rw[h];rfl
theorem arC{x:aP}{l m:List Int}(h:x.ok=false){j:Nat}:V.d (iD (m.getD j 0))=V.d (iD ((bif x.ok then l else m:List Int).getD j 0)):=by rw[h];rfl
theorem amC(n:az)(x:aP)(os:List (Option aI))(hl:n.ah.log.length<=1000)(OC:0<=x.src)(hs:x.src<n.next.length)(ul:n.fJ.length=n.next.length)(Ky:3<=n.fJ.length/\n.fJ.length<=5)(uP:0<=n.me/\n.me<n.fJ.length)(AB : -10<=n.next.getD x.src.toNat 0/\n.next.getD x.src.toNat 0<=100000)(CB : -10<=x.a/\x.a<=100000)(xu:HY (wX (kT n x)) os)(Kw:¬(n.ah.log.length:Int)<(tZ n x os).next.getD x.src.toNat 0->wI (tZ n x os) x.src):ae 165 [.ptr 0 0,jy x] (NS n) (NR (DK n x os)):=by
 refine asz Tryz.func165 λX=>?_
 (repeat' (first|refine T.cut (x:=.region 2 _ _) (y:=.seq (.seq (.region 3 _ _) _) _) ⟨123,[(0,.ptr 0 0),(3,.ptr 8 0),(6,iV (n.ah.log.length:Int))],⟨NL (JM n x)++[(8,.blk 10 (λk=>.d (jF x k)))],9⟩⟩ ?_ ?_|refine T.cut (x:=.seq (.region 3 _ _) _) (y:=.seq (.region 5 _ _) _) ⟨123,[(0,.ptr 0 0),(3,.ptr 8 0),(6,iV (n.ah.log.length:Int))],⟨NL (kT n x)++[(8,.blk 10 (λk=>.d (jF x k)))],9⟩⟩ ?_ ?_|refine T.cut (x:=.region 5 _ _) (y:=.seq (.region 6 _ _) _) ⟨123,[(0,.ptr 0 0),(3,.ptr 8 0),(6,iV (n.ah.log.length:Int)),(7,.row 9 (kT n x).fJ.length)],⟨NL (kT n x)++[(8,.blk 10 (λk=>.d (jF x k))),(9,fM (kT n x).fJ)],10⟩⟩ ?_ ?_|refine T.cut (x:=.region 6 _ _) (y:=.seq (.region 7 _ _) _) ⟨123,[(0,.ptr 0 0),(3,.ptr 8 0),(6,iV (n.ah.log.length:Int)),(7,.row 9 (Fq (kT n x)).length)],⟨NL (kT n x)++[(8,.blk 10 (λk=>.d (jF x k))),(9,fM (Fq (kT n x)))],10⟩⟩ ?_ ?_|refine T.cut (x:=.region 7 _ _) (y:=.seq (.region 8 _ _) _) ⟨123,[(0,.ptr 0 0),(3,.ptr 8 0),(6,iV (n.ah.log.length:Int))],⟨NL (wX (kT n x))++[(8,.blk 10 (λk=>.d (jF x k)))],9⟩⟩ ?_ ?_|refine atH (id:=1) (pre:=(mW Tryz.f91 1).toList.take 1) (rest:=[]) (.b false) rfl rfl ?_|refine an rfl (ed (λG a w hg hs=>al1 rfl rfl rfl rfl (by rw[QE];omega) hg hs) ?_)|refine oz ?_|refine asD 2 [24] [o0,o0,o0,o0,o0,o0,o0,o0,o0,o0,o0,o0,o0,o0,o0,o0,o0,o0,o0,o0,o0,o0,o0,o0,o1] ?_|refine asD 4 [24] [o0,o0,o0,o0,o0,o0,o0,o0,o0,o0,o0,o0,o0,o0,o0,o0,o0,o0,o0,o0,o0,o0,o0,o0,o1] ?_|refine asD 7 [16] [o0,o0,o0,o0,o0,o0,o0,o0,o0,o0,o0,o0,o0,o0,o0,o0,o1] ?_|refine asD 9 [] [o0,o0,o0,o0,o0,o0,o0,o0,o0,o0,o0,o0] ?_|refine mc ?_ ?_|refine asz (f:=91) Tryz.func91 λX2=>?_|refine asH [0,1,2,3,4,5,6,7] (ad5 (wX (kT n x)) os xu) ?_|refine asH [0,1,2,3,4,5,6,7] (acj (tZ n x os) x.src (Kw (bJ aj))) ?_|refine asN (ad4 (n.next.getD x.src.toNat 0) x AB CB) ?_|refine atE (aaX (kT n x).ah (Fq (kT n x)) (kT n x).eQ (by rw[Vw,QE];exact Ky) hl) tv bw ?_|refine ai.n (λh=>?_)|refine ai.mk (λh=>?_) (λh=>?_)|refine ag.a ?_|(refine nT.mk (p:=decide ((n.ah.log.length:Int)<(tZ n x os).next.getD x.src.toNat 0)=true) ?_ ?_;exact h;refine NR.of (p:=((tZ n x os),[],0)) ?_ (asC qN qN (asG [.d (gu []),iV 0] rfl fr vw) ?_))|refine NR.of (p:=((tZ n x os),[(o7 (tZ n x os) x.src)],0)) ?_ (Fin.dC (i:=10) (h:=λj=>jF (([(o7 (tZ n x os) x.src)]:List aP).getD j .z)) (jB.of (n:=1) (z:=10) (E:=126) qN rfl (λj hj k hk=>LD hj hk rfl rfl rfl rfl rfl rfl rfl rfl rfl rfl)) (asC qN qN (asG [.d (gu [(o7 (tZ n x os) x.src)]),iV 0] rfl fr vw) ?_))|refine Fin.here ?_|refine ag.mk ?_ ?_))<;>(try(refine dh.mk ?_;repeat' (first|exact tv|exact rfl|refine asA (ad4 (n.next.getD x.src.toNat 0) x AB CB) ?_|refine asT (aaX (kT n x).ah (Fq (kT n x)) (kT n x).eQ (by rw[Vw,QE];exact Ky) hl) tv bw ?_|refine an ?_ ?_|refine ag.mk ?_ ?_)))
 all_goals try exact aB
 all_goals (try(refine aV.mk rfl qN qN ?_ ?_ <;> repeat' (first|exact tv|exact qV|exact qW|refine vq (gz (V.row _) ?_) qN|refine an ⟨nb rfl,asE rfl (λk hk=>asB ?_)⟩ ?_|refine an ⟨nb rfl,af.row ?_ (λj hj k hk=>asB ?_)⟩ ?_|refine an ?_ ?_)))
 all_goals first|exact rfl|exact cm qV|exact dF h|exact bz aj|exact(Qx n x).symm|exact(WA (JM n x) x).symm|exact(Vw (kT n x)).symm|(have q1:=Qx n x;have q2:=QE n x;have q3:=aka n x;have q4:(kT n x).me=n.me:=rfl;have q5:(JM n x).fJ.length=n.fJ.length:=rfl;have q6:(zX (wX (kT n x)) os).next.length=(kT n x).next.length:=rfl;first|omega|exact cm (vq (I5 (by omega) hk rfl) tv)|exact cm (vq ((I5 (by omega) hk rfl).trans (arB h)) tv)|exact cm (vq (arC h) tv))|(have hk:k<23:=hk;rcases k with _|_|_|_|_|_|_|_|_|_|_|_|_|_|_|_|_|_|_|_|_|_|_|k <;> first|exact cm qV|exact cm qW|exact cm (vq (gz (V.row 6) (Qx n x).symm) qN)|exact cm (vq (gz (V.row 7) (WA (JM n x) x).symm) qN))|exact kk|exact qM
structure Ri (n:az) (m:Nat):Prop where
 hm:n.many=m
 h5:m<=5
 hl:n.ah.log.length<=1000
 hx:n.next.length=m
 hy:n.fJ.length=m
 hn:vI n
 hL:pg n<=64->lM (gQ n m).ah (lF n)
 Ic:pg n<=64->(aW (gQ n m) (lF n)).1.aA.down=false->(aW (gQ n m) (lF n)).1.dn=2->∀ d∈gY (aW (gQ n m) (lF n)).1 m,wI (aW (gQ n m) (lF n)).1 d
 ja:(gQ n m).aA.down=false->(gQ n m).dn=2->∀ d∈gY (gQ n m) m,wI (gQ n m) d
theorem amy{n:az}{m:Nat}(h:Ri n m):ae 164 [.ptr 0 0] (NS n) (NR (Ad n m)):=amx n m h.hm h.h5 h.hl h.hx h.hy h.hn h.hL h.Ic h.ja
structure Rj (n:az) (x:aP) (os:List (Option aI)):Prop where
 hl:n.ah.log.length<=1000
 OC:0<=x.src
 hs:x.src<n.next.length
 ul:n.fJ.length=n.next.length
 Ky:3<=n.fJ.length/\n.fJ.length<=5
 uP:0<=n.me/\n.me<n.fJ.length
 AB : -10<=n.next.getD x.src.toNat 0/\n.next.getD x.src.toNat 0<=100000
 CB : -10<=x.a/\x.a<=100000
 xu:HY (wX (kT n x)) os
 Kw:¬(n.ah.log.length:Int)<(tZ n x os).next.getD x.src.toNat 0->wI (tZ n x os) x.src
theorem amD{n:az}{x:aP}{os:List (Option aI)}(h:Rj n x os):ae 165 [.ptr 0 0,jy x] (NS n) (NR (DK n x os)):=amC n x os h.hl h.OC h.hs h.ul h.Ky h.uP h.AB h.CB h.xu h.Kw
def aqQ(n:az)(x:aP):az:={ n with fD:=n.fD.set x.src.toNat x.bin }
def an2(n:az)(x:aP):az:={ n with iL:=n.iL.set x.src.toNat true }
def pV(n:az)(x:aP):az×Int:=aW n (iI n.ah x.term)
def uF(n:az)(x:aP):Bool:=bif !decide (x.term=(pV n x).1.ah.term) then true else decide ((pV n x).1.dn=0)
def Jb(n:az)(x:aP):Bool:=bif (bif decide (x.kind=2) then x.ok else false) then decide (n.dn=1) else false
def Jc(n:az)(x:aP):Bool:=bif decide (x.kind=4) then decide (n.dn=2) else false
def Rl(n:az):Bool:=decide ((n.iL.length:Int) / 2<Hl n.iL)
def mY(n:az)(x:aP):az:=aqQ (pV n x).1 x
def rO(n:az)(x:aP):az:=an2 (mY n x) x
def xE(n:az)(x:aP)(m:Nat)(os:List (Option aI)):az×List aP×Int:=
 bif !decide ((pV n x).2=0) then ((pV n x).1,[],(pV n x).2)
 else bif uF n x then ((pV n x).1,[],0)
 else bif Jb (mY n x) x then (bif Rl (rO n x) then Ad (rO n x) m else (rO n x,[],0))
 else bif Jc (mY n x) x then DK (mY n x) x os else (mY n x,[],0)
theorem abW{l:List Bool}{p:Nat}{v:Bool}{g:Nat->V}(hp:p<l.length){j k:Nat}(hk:k<1)(e:g 0 = .b v):lN (λj k=>V.d (bD (l.getD j false))) p 0 1 g j k=V.d (bD ((l.set p v).getD j false)):=by
 obtain rfl:k=0:=Nat.lt_one_iff.1 hk;unfold lN;rcases hb:Nat.beq j p with _|_
 ·have:j≠p:=λe=>by subst e;simp at hb
  rw[show(l.set p v).getD j false=l.getD j false by rw[bC,List.getElem?_set_ne (λe=>this e.symm),bC]];rfl
 ·have:=dH hb;subst this;rw[show(l.set j v).getD j false=v by rw[bC,List.getElem?_set_self hp];rfl];exact e
theorem aeN{n:az}{x:aP}(h:uF n x=false):x.term=(pV n x).1.ah.term/\¬n.dn=0:=by
 unfold uF at h;cases h1:decide (x.term=(pV n x).1.ah.term) <;> rw[h1]at h
 ·cases h
 ·exact⟨aS h1,bJ h⟩
theorem agr(n:az)(x:aP)(m:Nat)(os:List (Option aI))(hL:lM n.ah (iI n.ah x.term))(hn:vI n)(OC:0<=x.src)(hs:¬n.dn=0->x.src<n.fD.length/\x.src<n.iL.length/\n.iL.length<=100)(Eh:uF n x=false->Jb (mY n x) x=true->Rl (rO n x)=true->Ri (rO n x) m)(Kv:uF n x=false->Jb (mY n x) x=false->Jc (mY n x) x=true->Rj (mY n x) x os):ae 108 [.ptr 0 0,jy x] (NS n) (NR (xE n x m os)):=by
 refine asz Tryz.func108 λX=>?_
 (repeat' (first|refine T.cut (x:=.region 6 _ _) ⟨101,[(0,.ptr 0 0),(3,.ptr 8 0)],⟨NL (mY n x)++[(8,.blk 10 (λk=>.d (jF x k)))],9⟩⟩ ?_ ?_|refine T.cut (x:=.region 8 _ _) ⟨101,[(0,.ptr 0 0),(3,.ptr 8 0)],⟨NL (rO n x)++[(8,.blk 10 (λk=>.d (jF x k)))],9⟩⟩ ?_ ?_|refine oz ?_|refine asD 1 [9] [o0,o0,o0,o0,o0,o0,o0,o0,o0,o1,o3] ?_|refine asD 4 [] [o0,o0,o0,o0,o0,o0,o0,o0,o0,o0,o0,o0,o0,o0,o0,o0,o0] ?_|refine asD 6 [11] [o0,o0,o0,o0,o0,o0,o0,o0,o0,o0,o0,o1] ?_|refine asD 8 [9] [o0,o0,o0,o0,o0,o0,o0,o0,o0,o1] ?_|refine mc ?_ ?_|refine asH [4] (anZ (rO n x).iL (by rw[show(rO n x).iL.length=n.iL.length from oK];exact(hs (aeN aj).2).2.2)) ?_|refine asH [0,1,2,3,4,5,6,7] (amy (Eh aj aj aj)) ?_|refine asH [0,1,2,3,4,5,6,7] (amD (Kv aj aj aj)) ?_|refine asN (Qy n.ah x.term) ?_|refine as3 [0,1,2,3,4,5,6,7] (Dc n (iI n.ah x.term) hL hn) ?_|refine ai.mk (λh=>?_) (λh=>?_)|refine ag.a ?_|(refine nT.mk (p:=(!decide ((aW n (iI n.ah x.term)).2=0))=true) ?_ ?_;(with_reducible_and_instances assumption);refine NR.of (p:=((pV n x).1,[],(pV n x).2)) ?_ (asC qN qN (asG [.d (gu []),iV ((pV n x).2)] rfl fr vw) ?_))|(refine nT.mk (p:=(bif !decide (x.term=(aW n (iI n.ah x.term)).1.ah.term) then true else decide ((aW n (iI n.ah x.term)).1.dn=0))=true) ?_ ?_;(with_reducible_and_instances assumption);refine NR.of (p:=((pV n x).1,[],0)) ?_ (asC qN qN (asG [.d (gu []),iV (0)] rfl fr vw) ?_))|(refine nT.mk (p:=decide (((rO n x).iL.length:Int) / 2<Hl (rO n x).iL)=true) ?_ ?_;(with_reducible_and_instances assumption);refine NR.of (p:=(Ad (rO n x) m)) ?_ (asC qN qN (asG [.d (gu (Ad (rO n x) m).2.1),iV (Ad (rO n x) m).2.2] rfl fr vw) ?_))|(refine nT.mk (p:=decide (((rO n x).iL.length:Int) / 2<Hl (rO n x).iL)=false) ?_ ?_;(with_reducible_and_instances assumption);refine NR.of (p:=((rO n x),[],0)) ?_ (asC qN qN (asG [.d (gu []),iV (0)] rfl fr vw) ?_))|(refine nT.mk (p:=(bif decide (x.kind=4) then decide ((mY n x).dn=2) else false)=true) ?_ ?_;(with_reducible_and_instances assumption);refine NR.of (p:=(DK (mY n x) x os)) ?_ (asC qN qN (asG [.d (gu (DK (mY n x) x os).2.1),iV (DK (mY n x) x os).2.2] rfl fr vw) ?_))|refine NR.of (p:=((mY n x),[],0)) ?_ (asC qN qN (asG [.d (gu []),iV (0)] rfl fr vw) ?_)|refine ag.mk ?_ ?_))<;>(try(refine dh.mk ?_;repeat' (first|exact tv|exact rfl|refine asA (Qy n.ah x.term) ?_|refine asH [0,1,2,3,4,5,6,7] (Dc n (iI n.ah x.term) hL hn) ?_|refine an ?_ ?_|refine ag.mk ?_ ?_)))
 all_goals try exact aB
 all_goals (try(refine aV.mk rfl qN qN ?_ ?_ <;> repeat' (first|exact tv|exact qW|refine an ⟨nb rfl,asE rfl (λk hk=>asB ?_)⟩ ?_|refine an ⟨nb rfl,af.row ?_ (λj hj k hk=>asB ?_)⟩ ?_|refine an ?_ ?_)))
 all_goals first|exact rfl|exact cm qV|exact dF h|(rename_i h1;exact(bz h1).trans (dF h))|(rename_i h1 h2 h3;exact(bz h1).trans ((bz h2).trans ((dF h3).trans (dF h))))|(rename_i h1 h2 h3;exact(bz h1).trans ((bz h2).trans ((dF h3).trans (bz h))))|(rename_i h1 h2 h3;exact(bz h1).trans ((bz h2).trans ((bz h3).trans (dF h))))|(rename_i h1 h2 h3;exact(bz h1).trans ((bz h2).trans ((bz h3).trans (bz h))))|(have q0:=aeN (aj:uF n x=false);have q1:=hs q0.2;have q2:(aW n (iI n.ah x.term)).1.fD.length=n.fD.length:=rfl;have q3:(mY n x).iL.length=n.iL.length:=rfl;first|omega|exact List.length_set.symm|exact cm (vq (I5 (by omega) hk rfl) tv)|exact cm (vq (abW (by omega) hk rfl) tv))|(have hk:k<23:=hk;rcases k with _|_|_|_|_|_|_|_|_|_|_|_|_|_|_|_|_|_|_|_|_|_|_|k <;> first|exact cm qV|exact cm qW|exact cm (vq (gz (V.row 5) List.length_set.symm) qN)|exact cm (vq (gz (V.row 4) List.length_set.symm) qN))|exact kk|exact qM
end Go.Proofs.YtnibdnahojjcgaaGreat
