/- Lemmas. -/
import Derived.Test.YtnibdnahojjcgaaGreatC19
import Derived.Test.YtnibdnahojjcgaaGreatC21
import Derived.Test.YtnibdnahojjcgaaGreatC22
namespace Go.Proofs.YtnibdnahojjcgaaGreat
set_option linter.all false
set_option maxRecDepth 100000
set_option maxHeartbeats 0
open Go.RowKit Tryz
def Ll(n:aA)(x:aV):aA:={ n with next:=n.next.set x.src.toNat (min (KO (n.next.getD x.src.toNat 0) x) (o7 n)) }
def ahY(n:aA)(x:aV):aA:={ n with gz:=bif x.ok then n.gz.set x.src.toNat (max (n.gz.getD x.src.toNat 0) (min x.a (n.ae.log.length:Int))) else n.gz }
def EE(n:aA):List Int:=n.gz.set n.me.toNat (n.ae.log.length:Int)
def rE(n:aA):aA:={ n with dN:=Ip n.ae (EE n) n.dN }
def jE(n:aA)(x:aV):aA:=ahY (Ll n x) x
def rD(n:aA)(x:aV)(os:List (Option aF)):aA:=applyN (rE (jE n x)) os
def axF(n:aA)(x:aV)(os:List (Option aF)):aA×List aV×Int:=bif decide ((n.ae.log.length:Int)<(rD n x os).next.getD x.src.toNat 0) then(rD n x os,[],0) else(rD n x os,[oW (rD n x os) x.src],0)
def YR(n:aA)(x:aV):(ahY n x).gz.length=n.gz.length:=by
 show(bif x.ok then _ else _:List Int).length=_;cases x.ok
 ·rfl
 ·exact nM
def TB(n:aA)(x:aV):(Ll n x).next.length=n.next.length:=nM
def TM(n:aA)(x:aV):(jE n x).gz.length=n.gz.length:=YR _ _
def anD(n:aA)(x:aV):(jE n x).next.length=n.next.length:=TB _ _
def XR(n:aA):(EE n).length=n.gz.length:=nM
def awE{x:aV}{l m:List Int}(h:x.ok=true){j:Nat}:V.d (iD (l.getD j 0))=V.d (iD ((bif x.ok then l else m:List Int).getD j 0)):=by rw[h];rfl
def awF{x:aV}{l m:List Int}(h:x.ok=false){j:Nat}:V.d (iD (m.getD j 0))=V.d (iD ((bif x.ok then l else m:List Int).getD j 0)):=by rw[h];rfl
def aqx(n:aA)(x:aV)(os:List (Option aF))(hl:n.ae.log.length<=1000)(Qr:0<=x.src)(hs:x.src<n.next.length)(uG:n.gz.length=n.next.length)(Me:3<=n.gz.length/\n.gz.length<=5)(qy:0<=n.me/\n.me<n.gz.length)(Bz : -10<=n.next.getD x.src.toNat 0/\n.next.getD x.src.toNat 0<=100000)(DN : -10<=x.a/\x.a<=100000)(sH:Jc (rE (jE n x)) os)(Md:¬(n.ae.log.length:Int)<(rD n x os).next.getD x.src.toNat 0->xE (rD n x os) x.src):af 165 [.ptr 0 0,jT x] (NS n) (NR (axF n x os)):=by
 refine ay func165 λX=>?_
 (repeat'(first|refine T.cut (x:=.region 2 _ _) (y:=.seq (.seq (.region 3 _ _) _) _) ⟨123,[(0,.ptr 0 0),(3,.ptr 8 0),(6,iV (n.ae.log.length:Int))],⟨NL (Ll n x)++[(8,.Wp 10 (λk=>.d (kN x k)))],9⟩⟩ ?_ ?_|refine T.cut (x:=.seq (.region 3 _ _) _) (y:=.seq (.region 5 _ _) _) ⟨123,[(0,.ptr 0 0),(3,.ptr 8 0),(6,iV (n.ae.log.length:Int))],⟨NL (jE n x)++[(8,.Wp 10 (λk=>.d (kN x k)))],9⟩⟩ ?_ ?_|refine T.cut (x:=.region 5 _ _) (y:=.seq (.region 6 _ _) _) ⟨123,[(0,.ptr 0 0),(3,.ptr 8 0),(6,iV (n.ae.log.length:Int)),(7,.row 9 (jE n x).gz.length)],⟨NL (jE n x)++[(8,.Wp 10 (λk=>.d (kN x k))),(9,gJ (jE n x).gz)],10⟩⟩ ?_ ?_|refine T.cut (x:=.region 6 _ _) (y:=.seq (.region 7 _ _) _) ⟨123,[(0,.ptr 0 0),(3,.ptr 8 0),(6,iV (n.ae.log.length:Int)),(7,.row 9 (EE (jE n x)).length)],⟨NL (jE n x)++[(8,.Wp 10 (λk=>.d (kN x k))),(9,gJ (EE (jE n x)))],10⟩⟩ ?_ ?_|refine T.cut (x:=.region 7 _ _) (y:=.seq (.region 8 _ _) _) ⟨123,[(0,.ptr 0 0),(3,.ptr 8 0),(6,iV (n.ae.log.length:Int))],⟨NL (rE (jE n x))++[(8,.Wp 10 (λk=>.d (kN x k)))],9⟩⟩ ?_ ?_|refine Rn (id:=1) (pre:=(nP f91 1).toList.take 1) (rest:=[]) (.b false) rfl rfl ?_|refine an rfl (fM (λG a w hg hs=>apJ rfl rfl rfl rfl (by rw[TM];omega) hg hs) ?_)|refine aC ?_|refine bU 2 [24] (ooz 24 [o1]) ?_|refine bU 4 [24] (ooz 24 [o1]) ?_|refine bU 7 [16] (ooz 16 [o1]) ?_|refine bU 9 [] (ooz 12 []) ?_|refine mc ?_ ?_|refine ay (f:=91) func91 λX2=>?_|refine fO [0,1,2,3,4,5,6,7] (agz (rE (jE n x)) os sH) ?_|refine fO [0,1,2,3,4,5,6,7] (aeA (rD n x os) x.src (Md (bV aG))) ?_|refine kF (agy (n.next.getD x.src.toNat 0) x Bz DN) ?_|refine QJ (ada (jE n x).ae (EE (jE n x)) (jE n x).dN (by rw[XR,TM];exact Me) hl) tv bw ?_|refine aj.n (λh=>?_)|refine aj.mk (λh=>?_) (λh=>?_)|refine ag.a ?_|(refine qZ.mk (p:=decide ((n.ae.log.length:Int)<(rD n x os).next.getD x.src.toNat 0)=true) ?_ ?_;exact h;refine NR.of (p:=((rD n x os),[],0)) ?_ (bM qN qN (fH [.d (iU []),iV 0] rfl fr vw) ?_))|refine NR.of (p:=((rD n x os),[(oW (rD n x os) x.src)],0)) ?_ (Fin.eG (i:=10) (h:=λj=>kN (([(oW (rD n x os) x.src)]:List aV).getD j .z)) (iI.of (n:=1) (z:=10) (E:=126) qN rfl (λj hj k hk=>NT hj hk rfl rfl rfl rfl rfl rfl rfl rfl rfl rfl)) (bM qN qN (fH [.d (iU [(oW (rD n x os) x.src)]),iV 0] rfl fr vw) ?_))|refine Fin.here ?_|refine ag.mk ?_ ?_))<;>(try(refine dm.mk ?_;repeat'(first|exact tv|exact rfl|refine aO (agy (n.next.getD x.src.toNat 0) x Bz DN) ?_|refine vM (ada (jE n x).ae (EE (jE n x)) (jE n x).dN (by rw[XR,TM];exact Me) hl) tv bw ?_|refine an ?_ ?_|refine ag.mk ?_ ?_)))
 all_goals try exact cls
 all_goals(try(refine leq ?_ ?_ <;> repeat'(first|exact tv|exact qV|exact qW|refine vq (ah (V.row _) ?_) qN|refine jQ qN (λk hk=>?_) ?_|refine gU qN ?_ (λj hj k hk=>?_) ?_|refine an ?_ ?_)))
 all_goals first|exact rfl|exact cm qV|exact dH h|exact bG aG|exact(TB n x).symm|exact(YR (Ll n x) x).symm|exact(XR (jE n x)).symm|(have q1:=TB n x;have q2:=TM n x;have q3:=anD n x;have q4:(jE n x).me=n.me:=rfl;have q5:(Ll n x).gz.length=n.gz.length:=rfl;have q6:(applyN (rE (jE n x)) os).next.length=(jE n x).next.length:=rfl;first|omega|exact cm (vq (J6 qo hk rfl) tv)|exact cm (vq ((J6 qo hk rfl).trans (awE h)) tv)|exact cm (vq (awF h) tv))|(have hk:k<23:=hk;obtain _|_|_|_|_|_|_|_|_|_|_|_|_|_|_|_|_|_|_|_|_|_|_|k:=k <;> first|exact cm qV|exact cm qW|exact cm (vq (ah (V.row 6) (TB n x).symm) qN)|exact cm (vq (ah (V.row 7) (YR (Ll n x) x).symm) qN))|exact kk|exact uF
structure UB (n:aA) (m:Nat):Prop where
 hm:n.many=m
 h5:m<=5
 hl:n.ae.log.length<=1000
 hx:n.next.length=m
 hy:n.gz.length=m
 hn:wB n
 hL:o7 n<=64->mV (gI n m).ae (lK n)
 Jl:o7 n<=64->(aS (gI n m) (lK n)).1.aB.down=false->(aS (gI n m) (lK n)).1.role=2->∀ d∈jb (aS (gI n m) (lK n)).1 m,xE (aS (gI n m) (lK n)).1 d
 jo:(gI n m).aB.down=false->(gI n m).role=2->∀ d∈jb (gI n m) m,xE (gI n m) d
def aqs{n:aA}{m:Nat}(h:UB n m):af 164 [.ptr 0 0] (NS n) (NR (xK n m)):=aqr n m h.hm h.h5 h.hl h.hx h.hy h.hn h.hL h.Jl h.jo
structure UD (n:aA) (x:aV) (os:List (Option aF)):Prop where
 hl:n.ae.log.length<=1000
 Qr:0<=x.src
 hs:x.src<n.next.length
 uG:n.gz.length=n.next.length
 Me:3<=n.gz.length/\n.gz.length<=5
 qy:0<=n.me/\n.me<n.gz.length
 Bz : -10<=n.next.getD x.src.toNat 0/\n.next.getD x.src.toNat 0<=100000
 DN : -10<=x.a/\x.a<=100000
 sH:Jc (rE (jE n x)) os
 Md:¬(n.ae.log.length:Int)<(rD n x os).next.getD x.src.toNat 0->xE (rD n x os) x.src
def aqy{n:aA}{x:aV}{os:List (Option aF)}(h:UD n x os):af 165 [.ptr 0 0,jT x] (NS n) (NR (axF n x os)):=aqx n x os h.hl h.Qr h.hs h.uG h.Me h.qy h.Bz h.DN h.sH h.Md
def Dc(n:aA)(x:aV):aA:={ n with eF:=n.eF.set x.src.toNat x.bin }
def Ox(n:aA)(x:aV):aA:={ n with ig:=n.ig.set x.src.toNat true }
def ou(n:aA)(x:aV):aA×Int:=aS n (gW n.ae x.term)
def rW(n:aA)(x:aV):Bool:=bif !decide (x.term=(ou n x).1.ae.term) then true else decide ((ou n x).1.role=0)
def Ir(n:aA)(x:aV):Bool:=bif (bif decide (x.kind=2) then x.ok else false) then decide (n.role=1) else false
def FX(n:aA)(x:aV):Bool:=bif decide (x.kind=4) then decide (n.role=2) else false
def KH(n:aA):Bool:=decide ((n.ig.length:Int) / 2<A7 n.ig)
def mQ(n:aA)(x:aV):aA:=Dc (ou n x).1 x
def qY(n:aA)(x:aV):aA:=Ox (mQ n x) x
def xq(n:aA)(x:aV)(m:Nat)(os:List (Option aF)):aA×List aV×Int:=
 bif !decide ((ou n x).2=0) then((ou n x).1,[],(ou n x).2)
 else bif rW n x then((ou n x).1,[],0)
 else bif Ir (mQ n x) x then(bif KH (qY n x) then xK (qY n x) m else(qY n x,[],0))
 else bif FX (mQ n x) x then axF (mQ n x) x os else(mQ n x,[],0)
def aef{l:List Bool}{p:Nat}{v:Bool}{g:Nat->V}(hp:p<l.length){j k:Nat}(hk:k<1)(e:g 0 = .b v):mr (λj k=>V.d (bD (l.getD j false))) p 0 1 g j k=V.d (bD ((l.set p v).getD j false)):=by
 obtain rfl:k=0:=Nat.lt_one_iff.1 hk;unfold mr;rcases hb:Nat.beq j p with _|_
 ·have:j≠p:=λe=>by subst e;simp at hb
  rw[show(l.set p v).getD j false=l.getD j false by rw[bn,List.getElem?_set_ne (λe=>this e.symm),bn]];rfl
 ·have:=dJ hb;subst this;rw[show(l.set j v).getD j false=v by rw[bn,List.getElem?_set_self hp];rfl];exact e
def ahk{n:aA}{x:aV}(h:rW n x=false):x.term=(ou n x).1.ae.term/\¬n.role=0:=by
 unfold rW at h;cases h1:decide (x.term=(ou n x).1.ae.term) <;> rw[h1]at h
 ·cases h
 ·exact⟨bT h1,bV h⟩
def ai4(n:aA)(x:aV)(m:Nat)(os:List (Option aF))(hL:mV n.ae (gW n.ae x.term))(hn:wB n)(Qr:0<=x.src)(hs:¬n.role=0->x.src<n.eF.length/\x.src<n.ig.length/\n.ig.length<=100)(E5:rW n x=false->Ir (mQ n x) x=true->KH (qY n x)=true->UB (qY n x) m)(Hr:rW n x=false->Ir (mQ n x) x=false->FX (mQ n x) x=true->UD (mQ n x) x os):af 108 [.ptr 0 0,jT x] (NS n) (NR (xq n x m os)):=by
 refine ay func108 λX=>?_
 (repeat'(first|refine T.cut (x:=.region 6 _ _) ⟨101,[(0,.ptr 0 0),(3,.ptr 8 0)],⟨NL (mQ n x)++[(8,.Wp 10 (λk=>.d (kN x k)))],9⟩⟩ ?_ ?_|refine T.cut (x:=.region 8 _ _) ⟨101,[(0,.ptr 0 0),(3,.ptr 8 0)],⟨NL (qY n x)++[(8,.Wp 10 (λk=>.d (kN x k)))],9⟩⟩ ?_ ?_|refine aC ?_|refine bU 1 [9] (ooz 9 [o1,o3]) ?_|refine bU 4 [] (ooz 17 []) ?_|refine bU 6 [11] (ooz 11 [o1]) ?_|refine bU 8 [9] (ooz 9 [o1]) ?_|refine mc ?_ ?_|refine fO [4] (asc (qY n x).ig (by rw[show(qY n x).ig.length=n.ig.length from nM];exact(hs (ahk aG).2).2.2)) ?_|refine fO [0,1,2,3,4,5,6,7] (aqs (E5 aG aG aG)) ?_|refine fO [0,1,2,3,4,5,6,7] (aqy (Hr aG aG aG)) ?_|refine kF (TC n.ae x.term) ?_|refine Am [0,1,2,3,4,5,6,7] (Ea n (gW n.ae x.term) hL hn) ?_|refine aj.mk (λh=>?_) (λh=>?_)|refine ag.a ?_|(refine qZ.mk (p:=(!decide ((aS n (gW n.ae x.term)).2=0))=true) ?_ ?_;(exact jc);refine NR.of (p:=((ou n x).1,[],(ou n x).2)) ?_ (bM qN qN (fH [.d (iU []),iV ((ou n x).2)] rfl fr vw) ?_))|(refine qZ.mk (p:=(bif !decide (x.term=(aS n (gW n.ae x.term)).1.ae.term) then true else decide ((aS n (gW n.ae x.term)).1.role=0))=true) ?_ ?_;(exact jc);refine NR.of (p:=((ou n x).1,[],0)) ?_ (bM qN qN (fH [.d (iU []),iV (0)] rfl fr vw) ?_))|(refine qZ.mk (p:=decide (((qY n x).ig.length:Int) / 2<A7 (qY n x).ig)=true) ?_ ?_;(exact jc);refine NR.of (p:=(xK (qY n x) m)) ?_ (bM qN qN (fH [.d (iU (xK (qY n x) m).2.1),iV (xK (qY n x) m).2.2] rfl fr vw) ?_))|(refine qZ.mk (p:=decide (((qY n x).ig.length:Int) / 2<A7 (qY n x).ig)=false) ?_ ?_;(exact jc);refine NR.of (p:=((qY n x),[],0)) ?_ (bM qN qN (fH [.d (iU []),iV (0)] rfl fr vw) ?_))|(refine qZ.mk (p:=(bif decide (x.kind=4) then decide ((mQ n x).role=2) else false)=true) ?_ ?_;(exact jc);refine NR.of (p:=(axF (mQ n x) x os)) ?_ (bM qN qN (fH [.d (iU (axF (mQ n x) x os).2.1),iV (axF (mQ n x) x os).2.2] rfl fr vw) ?_))|refine NR.of (p:=((mQ n x),[],0)) ?_ (bM qN qN (fH [.d (iU []),iV (0)] rfl fr vw) ?_)|refine ag.mk ?_ ?_))<;>(try(refine dm.mk ?_;repeat'(first|exact tv|exact rfl|refine aO (TC n.ae x.term) ?_|refine fO [0,1,2,3,4,5,6,7] (Ea n (gW n.ae x.term) hL hn) ?_|refine an ?_ ?_|refine ag.mk ?_ ?_)))
 all_goals try exact cls
 all_goals(try(refine leq ?_ ?_ <;> repeat'(first|exact tv|exact qW|refine jQ qN (λk hk=>?_) ?_|refine gU qN ?_ (λj hj k hk=>?_) ?_|refine an ?_ ?_)))
 all_goals first|exact rfl|exact cm qV|exact dH h|(rename_i h1;exact(bG h1).trans (dH h))|(rename_i h1 h2 h3;exact(bG h1).trans ((bG h2).trans ((dH h3).trans (dH h))))|(rename_i h1 h2 h3;exact(bG h1).trans ((bG h2).trans ((dH h3).trans (bG h))))|(rename_i h1 h2 h3;exact(bG h1).trans ((bG h2).trans ((bG h3).trans (dH h))))|(rename_i h1 h2 h3;exact(bG h1).trans ((bG h2).trans ((bG h3).trans (bG h))))|(have q0:=ahk (aG:rW n x=false);have q1:=hs q0.2;have q2:(aS n (gW n.ae x.term)).1.eF.length=n.eF.length:=rfl;have q3:(mQ n x).ig.length=n.ig.length:=rfl;first|omega|exact List.length_set.symm|exact cm (vq (J6 qo hk rfl) tv)|exact cm (vq (aef qo hk rfl) tv))|(have hk:k<23:=hk;obtain _|_|_|_|_|_|_|_|_|_|_|_|_|_|_|_|_|_|_|_|_|_|_|k:=k <;> first|exact cm qV|exact cm qW|exact cm (vq (ah (V.row 5) List.length_set.symm) qN)|exact cm (vq (ah (V.row 4) List.length_set.symm) qN))|exact kk|exact uF
