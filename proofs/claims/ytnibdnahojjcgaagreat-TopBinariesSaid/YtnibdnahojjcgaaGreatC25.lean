/- Lemmas. -/
import Derived.Test.YtnibdnahojjcgaaGreatC23
import Derived.Test.YtnibdnahojjcgaaGreatC24
namespace Go.Proofs.YtnibdnahojjcgaaGreat
set_option linter.all false
set_option maxRecDepth 100000
set_option maxHeartbeats 0
open Go.RowKit Tryz
def atA{c:aF}{v:Int}(h:fZ c v):Vl (fK 1 v) (iL c v):=by
 have hr:=JM h;have hc:=agU h;obtain⟨s1,s2,s3⟩:=agn h.v1 h.v3;refine⟨Iq h,s1,s2,λi hi j hj he=>?_,λj hj hn=>?_,λj hj=>?_⟩
 ·have hf:=hr.axy _ (ja (z:=.z) hi);have hs:=(s3 _ (ja (z:=.z) hj)).1;obtain⟨h1,h2,h3,h4,h5,h6⟩|⟨h1,h2,h3,h4,h5,h6,h7⟩:=hf <;> obtain⟨g1,g2,g3⟩|⟨g1,g2,g3⟩:=hs
  ·exact⟨h1.trans g3.symm,λ_=>by omega,λe=>by omega⟩
  ·omega
  ·omega
  ·exact⟨h1.trans g3.symm,λe=>by omega,λ_=>h6⟩
 ·have:=hc.kM j hj hn;rwa [ZN]at this
 ·have:=acB hr.Bj ((fK 1 v).getD j .z).num;unfold yg;omega
def apZ{a:aF}{f:bu}(h:O5 f)(h6:f.num<=6){k:Nat}(hk:k<7):oK (λk=>iV (LY a k)) (0+f.num.toNat*1) 1 (λ_=>iV (min (f.n:Int) 1048577)) k=iV (LY (oM a f) k):=by
 obtain⟨h1,h2,h3⟩:=h;have hn:=h2 h6;rw[show min (f.n:Int) 1048577=f.n by omega];obtain⟨num,aU,n,b⟩:=f;simp only at *;rcases(show num=1\/num=2\/num=3\/num=4\/num=5\/num=6 by omega) with rfl|rfl|rfl|rfl|rfl|rfl <;> (obtain _|_|_|_|_|_|_|k:=k) <;> first|rfl|omega
def amu{a:aF}{f:bu}(h6:¬f.num<=6)(k:Nat):LY (oM a f) k=LY a k:=by
 unfold oM;rw[if_neg qO,if_neg qO,if_neg qO,if_neg qO,if_neg qO,if_neg qO];split
 ·obtain _|_|_|_|_|_|_|k:=k <;> rfl
 ·split
  ·obtain _|_|_|_|_|_|_|k:=k <;> rfl
  ·rfl
def ams{a:aF}{f:bu}(h:O5 f)(h7:¬f.num=7)(h8:¬f.num=8)(k:Nat):DJ (oM a f) k=DJ a k:=by
 obtain⟨h1,h2,h3⟩:=h;obtain⟨num,aU,n,b⟩:=f;simp only at *;rcases(show num=1\/num=2\/num=3\/num=4\/num=5\/num=6 by omega) with rfl|rfl|rfl|rfl|rfl|rfl <;> (obtain _|_|_|_|_|_|_|_|k:=k) <;> rfl
def auF{a:aF}{f:bu}(h7:f.num=7){k:Nat}:oK (λk=>.d (DJ a k)) (0+6) 1 (λ_=>.d (iR (yC f.b))) k = .d (DJ (oM a f) k):=by
 obtain⟨num,aU,n,b⟩:=f;simp only at *;subst h7;obtain _|_|_|_|_|_|_|_|k:=k <;> first|rfl|(unfold oK;simp[DJ,oM];done)
def auE{a:aF}{f:bu}(h8:f.num=8){k:Nat}:oK (λk=>.d (DJ a k)) (0+7) 1 (λ_=>.str (Di f.b.length (λj _=>.d (gG (f.b.getD j 0))))) k = .d (DJ (oM a f) k):=by
 rw[show Di f.b.length (λj _=>.d (gG (f.b.getD j 0)))=jr f.b from Tj _];obtain⟨num,aU,n,b⟩:=f;simp only at *;subst h8;obtain _|_|_|_|_|_|_|_|k:=k <;> first|rfl|(unfold oK;simp[DJ,oM];done)
def amf(c:aF)(v:Int)(hc:fZ c v):aQ 41 [.d (bW (fQ c)),iV v] (bI [jl c,.d (jv []),iV 0]):=by
 have hf:∀ i,i<(iL c v).length->O5 ((iL c v).getD i .z):=λi hi=>arN hc _ (by rw[<-Eb hc];exact ja hi)
 have hl8:=JO c v;refine ay func41 λX=>?_
 (repeat'(first|(have ea:(mf ((iL c v).take i))=c:=(by rw[jU om];exact af1 hc);rw[ea];refine T.le (c:=.seq (.region 22 _ _) _) ⟨119,[(0,.d (bW (fQ c))),(1,iV v),(4,.ptr 0 0),(10,.d (jv [])),(11,.ptr 1 0),(12,.ptr 2 0)],⟨[(0,.Wp 8 (λ_=>.top)),(1,.Wp 7 (λk=>iV (LY c k))),(2,.Wp 8 (λk=>.d (DJ c k)))],3⟩⟩ ?_ (T.seq ?_))|refine dU (iL c v).length (λi (a:Unit)=>⟨119,[(0,.d (bW (fQ c))),(1,iV v),(4,.ptr 0 0),(9,.d (jv (iL c v))),(10,.d (jv [])),(11,.ptr 1 0),(12,.ptr 2 0),(13,iV i)],⟨[(0,.Wp 8 (λ_=>.top)),(1,.Wp 7 (λk=>iV (LY (mf ((iL c v).take i)) k))),(2,.Wp 8 (λk=>.d (DJ (mf ((iL c v).take i)) k)))],3⟩⟩) (λ_ _=>True) () ?_ True.intro (λi a hi hp=>?_)|refine aoy 160 rfl rfl rfl rfl rfl rfl ?_|refine aC ?_|refine aj.mk (λh=>ai ((show(!dQ v 1 3)=false by rw[hc.VQ];rfl).symm.trans h) (by decide)) (λh=>?_)|refine aj.mk (λh=>ai ((ahg (b:=fQ c)).symm.trans h) (by decide)) (λh=>?_)|refine aO (zq v 1 3) ?_|refine af.tell (aks (iL c v) (Iq hc)) ⟨vq (ah (λl=>V.d (bW l)) (ZO hc).symm) tv,tv⟩ ?_|refine aO (amv v hc.v1 hc.v3 (iL c v) (atA hc)) ?_|refine aO (asE v hc.v1 hc.v3) ?_|refine aO (aku (iL c v) (Gv 1 v) (by have:=JO c v;omega) (λi hi=>aeB hc _ (ja hi))) ?_|refine aO (ajl ((hf i om).ok.ch (bT aG))) ?_|refine aO (apI c v hc) ?_|refine aZ () ⟨?_,tv,?_⟩|(have h8:=bT (aG:decide (((iL c v).getD ((i:Int)).toNat .z).num<=6)=true);refine aj.n (λh=>?_))|(have h8:=bT (aG:decide (((iL c v).getD ((i:Int)).toNat .z).num=7)=true);refine aj.n (λh=>?_))|refine aj.n (λh=>?_)|refine aj.mk (λh=>?_) (λh=>?_)|refine ag.a ?_|refine kJ rfl vw|refine ag.mk ?_ ?_))<;>try exact cls
 all_goals(try(refine leq ?_ ?_ <;> repeat'(first|exact tv|exact qV|exact qW|refine jQ qN (λk hk=>?_) ?_|refine an ?_ ?_)))
 all_goals first|exact cm qV|exact(λj hj=>⟨_,rfl⟩)|exact cm VW.top|(have h9:i<(iL c v).length:=om;have q:1<=((iL c v).getD ((i:Int)).toNat .z).num/\((iL c v).getD ((i:Int)).toNat .z).num<=8:=(hf i h9).num;have q2:=bT (aG:decide (((iL c v).getD ((i:Int)).toNat .z).num<=6)=true);first|(show 0<=((iL c v).getD ((i:Int)).toNat .z).num/\((iL c v).getD ((i:Int)).toNat .z).num<((7:Nat):Int);omega)|(show 0+((iL c v).getD ((i:Int)).toNat .z).num.toNat*1+1<=7;omega))|(have h9:i<(iL c v).length:=om;have hg:=hf i h9;have q:=hg.num;first|omega|(rw[BG h9];first|exact cm (vq (apZ hg (bT aG) hk) tv)|exact cm (vq (auF (bT aG)) tv)|exact cm (vq (auE (bT aG)) tv)|(rw[amu (bV aG)];exact cm qV)|(rw[ams hg (bV aG) (bV aG)];exact cm qV)))|(have hk:k<8:=hk;obtain _|_|_|_|_|_|_|_|k:=k;all_goals first|exact cm qV|exact cm (pg rfl)|omega)|(have hk:k<7:=hk;obtain _|_|_|_|_|_|_|k:=k;all_goals first|exact cm qV|omega)
def adH(t:Int)(c:aF)(v:Int)(hc:fZ c v):aQ 12 [zM ⟨t,fQ c⟩,iV v] (bI [jl c,.b true,iV 0]):=by
 refine ay func12 λX=>?_
 (repeat'(first|refine aC ?_|refine aO (amf c v hc) ?_|refine aO (SC c.kind) ?_|refine aj.mk (λh=>ai ((show(bif decide (v<1) then true else decide (3<v))=false by rw[aT (by have:=hc.v1;omega),aT (by have:=hc.v3;omega)];rfl).symm.trans h) (by decide)) (λh=>?_)|refine aj.mk (λh2=>ai (bT h2) (by have:=(MO hc).1;show ¬(((fQ c).length:Int)=0);omega)) (λh=>?_)|refine aj.mk (λh=>ai ((show(bif decide (jX c.kind=0) then true else decide (v<jX c.kind))=false by rw[aT hc.kM,aT (show ¬v<jX c.kind by have:=hc.le;omega)];rfl).symm.trans h) (by decide)) (λh=>?_)|refine aj.n (λh=>?_)|refine ag.a ?_|refine kJ rfl vw))<;>try exact cls
def adI(t:Int)(v:Int)(h1:1<=v)(h3:v<=3):aQ 12 [zM ⟨t,[]⟩,iV v] (bI [jl aF.z,.b false,iV 0]):=by
 refine ay func12 λX=>?_
 (repeat'(first|refine aC ?_|refine aj.mk (λh=>ai ((show(bif decide (v<1) then true else decide (3<v))=false by rw[aT qo,aT qo];rfl).symm.trans h) (by decide)) (λh=>?_)|refine lq (λh=>?_)|refine ag.a ?_|refine kJ rfl ⟨gu (by repeat'(first|exact tv|exact qV|exact VW.dC|refine an ?_ ?_)),VW.refl tv,VW.refl tv,tv⟩))<;>try exact cls
def BU{fn:Func}{Q:Exit->AS->Prop}{s:AS}{g h:Nat->V}{q:aN×Rep}{X:Cx e0}(S:aN)(R:Rep)(A B i j:Nat)(hQ:Q .ret=uY fn X (λrv rt=>rv=bI [dZ q.1,lJ q.2]/\rt=e0) .ret)(hres:fn.results=#[.cell A 41,.cell B 52])(hAB:Nat.beq A B=false)(hA:dD s.sl A = .ptr i 0)(hB:dD s.sl B = .ptr j 0)
  (hi:s.s.get i = .Wp 7 g) (hj:s.s.get j = .Wp 2 h) (hd:iJ [i,j]=true) (c0:g 0=iV S.version) (c1:g 1=iV S.next) (c2:g 2=iV S.axz) (c3:g 3=iV S.mg) (c4:g 4 = .d (yD S.aJ)) (c5:g 5 = .d (og S.opens)) (c6:g 6 = .d (jO S.az))
  (d0:h 0=iV R.code) (d1:h 1=iV R.n) (e:q=(S,R)):T X .ret Q s:=by
 subst e;have fi:bY [i,j] i=some 0:=nC hd rfl;have fj:bY [i,j] j=some 1:=nC hd rfl;refine T.EX [i,j] ⟨s.nt,[(A,.ptr 0 0),(B,.ptr 1 0)],⟨[(0,.Wp 7 (λk=>.d (dW S k))),(1,.Wp 2 (λk=>.d (ji R k)))],2⟩⟩ ⟨rfl,rfl,hd,rfl,⟨⟨i,rfl,?_⟩,⟨j,rfl,?_⟩,tv⟩,⟨?_,?_,tv⟩⟩ (T.ret ?_)
 ·rw[hi];refine fB rfl λk hk=>?_
  have hk:k<7:=hk;show VW 2 (dI _ (g k)) _;obtain _|_|_|_|_|_|_|k:=k
  ·rw[c0];exact qV
  ·rw[c1];exact qV
  ·rw[c2];exact qV
  ·rw[c3];exact qV
  ·rw[c4];exact qV
  ·rw[c5];exact qV
  ·rw[c6];exact qV
  ·omega
 ·rw[hj];refine fB rfl λk hk=>?_
  have hk:k<2:=hk;show VW 2 (dI _ (h k)) _;obtain _|_|k:=k
  ·rw[d0];exact qV
  ·rw[d1];exact qV
  ·omega
 ·refine vq ?_ qN;rw[hA];simp only[dI,fi]
 ·refine vq ?_ qN;rw[hB];simp only[dI,fj]
 ·rw[hQ];unfold uY;rw[hres];have hl0:dD [(A,V.ptr 0 0),(B,V.ptr 1 0)] A = .ptr 0 0:=by show(bif Nat.beq A A then _ else _)=_;rw[Nat.beq_refl];rfl
  have hl1:dD [(A,V.ptr 0 0),(B,V.ptr 1 0)] B = .ptr 1 0:=by show(bif Nat.beq A B then _ else(bif Nat.beq B B then _ else _))=_;rw[hAB,Nat.beq_refl];rfl
  show yK _ [.cell A 41,.cell B 52] [] _;unfold yK;simp only[hl0];refine ag.mk qN ?_;unfold yK;simp only[hl1];refine ag.mk qN ?_;refine kJ rfl ⟨gu ?_,gu ?_,tv⟩
  ·exact⟨⟨⟨⟨⟨⟨⟨tv,qV⟩,qV⟩,qV⟩,qV⟩,qV⟩,qV⟩,qV⟩
  ·exact⟨⟨tv,qV⟩,qV⟩
def auX(s:aN)(e:Int)(hs:uO s):aQ 76 [dZ s,iV e] (bI [dZ s,lJ ⟨e,0⟩]):=(UO s e hs).I7 λX=>by
 refine Fin.eG (i:=2) (h:=λj=>iE (s.aJ.getD j .z)) (iI.of (n:=s.aJ.length) (z:=4) (E:=54) (cZ _) rfl (λj hj k hk=>rfl)) ?_;refine Fin.tell (fH [dZ s,lJ ⟨e,0⟩] rfl (λk hk=>rfl) ⟨gu ?_,gu ?_,tv⟩)
 ·exact⟨⟨⟨⟨⟨⟨⟨tv,qV⟩,qV⟩,qV⟩,qV⟩,vq jB trivial⟩,qV⟩,qV⟩
 ·exact⟨⟨tv,qV⟩,qV⟩
def apx{l:List iW}{p:Nat}{x:iW}{g:Nat->V}(hp:p<l.length){j k:Nat}(hk:k<4)(e0:g 0=iV x.ax)(e1:g 1=iV x.seq)(e2:g 2=V.d (ji x.last 0))(e3:g 3=V.d (ji x.last 1)):mr (λj k=>V.d (iE (l.getD j .z) k)) p 0 4 g j k=V.d (iE ((l.set p x).getD j .z) k):=by
 unfold mr;rcases hb:Nat.beq j p with _|_
 ·have:j≠p:=λe=>by subst e;simp at hb
  rw[show(l.set p x).getD j .z=l.getD j .z by rw[bn,List.getElem?_set_ne (λe=>this e.symm),bn]];rfl
 ·have:=dJ hb;subst this;rw[show(l.set j x).getD j .z=x by rw[bn,List.getElem?_set_self hp];rfl];obtain _|_|_|_|k:=k
  ·exact e0
  ·exact e1
  ·exact e2
  ·exact e3
  ·omega
def akJ(s:aN)(c:aF)(p:Nat):(EF s c p).1.aJ=s.aJ:=by
 unfold EF;cases decide (c.kind=5)
 ·cases decide (c.kind=7)
  ·cases decide (c.kind=11)
   ·rw[bz,bz,bz];cases (!((s.az.getD p .z).held == decide (c.kind=9))) <;> rfl
   ·rfl
  ·rfl
 ·cases (s.az.getD p .z).held
  ·cases Gl s p <;> rfl
  ·rfl
def aiF(s:aN)(c:aF):(FT s c).1.aJ=s.aJ:=by
 unfold FT;cases (bif decide (16<=(s.az.length:Int)) then true else decide (1048576<=s.next))
 ·cases (bif !decide (s.mg=0) then decide (s.mg<AL s.az c.chunks) else false) <;> rfl
 ·rfl
def akL(s:aN)(c:aF):(qm s c).1.aJ=s.aJ:=by
 unfold qm;cases (!decide (kX c s.version=0))
 ·cases (bif decide (c.kind=1) then true else decide (c.kind=8))
  ·cases decide (c.kind=2)
   ·cases (bif decide (c.kind=3) then true else decide (c.kind=4))
    ·cases decide (c.kind=6)
     ·cases decide (c.kind=12)
      ·cases decide (iq s c.id<0)
       ·exact akJ s c _
       ·rfl
      ·rfl
     ·rfl
    ·rw[bz,bz,bz,dw];cases (bif decide (opAt s c.set<0) then true else !decide ((s.opens.getD (opAt s c.set).toNat .z).ax=c.ax))
     ·cases decide (c.kind=3)
      ·rfl
      ·exact aiF s c
     ·rfl
   ·cases decide (0<=opAt s c.set) <;> rfl
  ·rfl
 ·rfl
def Bq(s:aN)(c:aF):aN×Rep:=
 bif !decide (kX c s.version=0) then(s,⟨kX c s.version,0⟩)
 else bif decide (c.kind=8) then(bif !decide (c.n=s.version+1) then(s,⟨1,0⟩) else(({ s with version:=c.n }:aN),⟨0,c.n⟩))
 else bif decide (c.kind=1) then(bif decide (0<=(dE s c.ax)) then(s,⟨12,0⟩) else(({ s with aJ:=vZ (λy:iW=>y.ax) ⟨c.ax,0,⟨0,0⟩⟩ s.aJ }:aN),⟨0,0⟩))
 else bif decide ((dE s c.ax)<0) then(s,⟨11,0⟩)
 else bif decide (c.seq=(s.aJ.getD (dE s c.ax).toNat .z).seq) then(s,(s.aJ.getD (dE s c.ax).toNat .z).last)
 else bif decide (c.seq<(s.aJ.getD (dE s c.ax).toNat .z).seq) then(s,⟨13,0⟩)
 else bif decide ((s.aJ.getD (dE s c.ax).toNat .z).seq+1<c.seq) then(s,⟨14,0⟩) else(({ (qm s c).1 with aJ:=(qm s c).1.aJ.set (dE s c.ax).toNat ⟨c.ax,c.seq,(qm s c).2⟩ }:aN),(qm s c).2)
def OO{s:aN}{c:aF}(h:¬dE s c.ax<0):0<=dE s c.ax/\(dE s c.ax).toNat<s.aJ.length:=by
 have:=NF s c.ax;omega
def aat{s:aN}{c:aF}(h:decide (dE s c.ax<0)=false):(dE s c.ax).toNat<(qm s c).1.aJ.length:=by
 rw[akL];exact(OO (bV h)).2
def auu{s:aN}{c:aF}(hv:gK s s.version)(h:¬dE s c.ax<0):0<=(s.aJ.getD (dE s c.ax).toNat .z).seq/\(s.aJ.getD (dE s c.ax).toNat .z).seq<=1048576:=by
 have h1:=hv.su _ (axB (z:=.z) (OO h).2);unfold su at h1;exact Gn (wR.1 (wR.1 h1).1).1
def asM(s:aN)(c:aF)(hv:gK s s.version)(hc:fZ c 3):aQ 40 [dZ s,jl c] (bI [dZ (Bq s c).1,lJ (Bq s c).2]):=by
 refine ay func40 λX=>?_
 (repeat'(first|(refine Alt.mk (p:=decide ((s.aJ.getD (dE s c.ax).toNat .z).seq+1<c.seq)=false) ?_ ?_;(exact jc);refine T.eG (c:=.seq (.region 26 _ _) _) (i:=7) (h:=λj=>iE (({ (qm s c).1 with aJ:=(qm s c).1.aJ.set (dE s c.ax).toNat ⟨c.ax,c.seq,(qm s c).2⟩ }:aN).aJ.getD j .z)) (iI.of (n:=(qm s c).1.aJ.length) (z:=4) (E:=54) qN rfl (λj hj k hk=>apx (x:=⟨c.ax,c.seq,(qm s c).2⟩) (aat aG) hk rfl rfl rfl rfl)) (T.le ⟨131,[(2,.ptr 0 0),(3,.ptr 1 0),(4,.ptr 2 0),(5,.ptr 3 0),(8,.ptr 4 0),(9,.ptr 8 0)],⟨[(0,.Wp 7 (λk=>.d (dW s k))),(1,.Wp 8 (λk=>.d (lW c k))),(2,.Wp 7 (λ_=>.top)),(3,.Wp 2 (λ_=>.top)),(4,.Wp 7 (λk=>.d (dW ({ (qm s c).1 with aJ:=(qm s c).1.aJ.set (dE s c.ax).toNat ⟨c.ax,c.seq,(qm s c).2⟩ }:aN) k))),(8,.Wp 2 (λk=>.d (ji (qm s c).2 k)))],9⟩⟩ ?_ (T.seq ?_)))|(refine nN (p:=T _ .ret _ _) ?_;refine Alt.mk (p:=(!decide (kX c s.version=0))=true) ?_ ?_;(exact jc);refine dm.mk ?_;refine BU s ⟨kX c s.version,0⟩ 4 5 2 3 rfl rfl rfl rfl rfl rfl rfl rfl rfl rfl rfl rfl rfl rfl rfl rfl rfl ?_)|(refine nN (p:=T _ .ret _ _) ?_;refine Alt.mk (p:=(!decide (c.n=s.version+1))=true) ?_ ?_;(exact jc);refine dm.mk ?_;refine BU s ⟨1,0⟩ 4 5 2 3 rfl rfl rfl rfl rfl rfl rfl rfl rfl rfl rfl rfl rfl rfl rfl rfl rfl ?_)|(refine nN (p:=T _ .ret _ _) ?_;refine Alt.mk (p:=(!decide (c.n=s.version+1))=false) ?_ ?_;(exact jc);refine dm.mk ?_;refine BU ({ s with version:=c.n }:aN) ⟨0,c.n⟩ 4 5 2 3 rfl rfl rfl rfl rfl rfl rfl rfl rfl rfl rfl rfl rfl rfl rfl rfl rfl ?_)|(refine nN (p:=T _ .ret _ _) ?_;refine Alt.mk (p:=decide (0<=(dE s c.ax))=true) ?_ ?_;(exact jc);refine dm.mk ?_;refine BU s ⟨12,0⟩ 4 5 2 3 rfl rfl rfl rfl rfl rfl rfl rfl rfl rfl rfl rfl rfl rfl rfl rfl rfl ?_)|(refine nN (p:=T _ .ret _ _) ?_;refine Alt.mk (p:=decide (0<=(dE s c.ax))=false) ?_ ?_;(exact jc);refine dm.mk ?_;refine BU ({ s with aJ:=vZ (λy:iW=>y.ax) ⟨c.ax,0,⟨0,0⟩⟩ s.aJ }:aN) ⟨0,0⟩ 4 5 2 3 rfl rfl rfl rfl rfl rfl rfl rfl rfl rfl rfl rfl rfl rfl rfl rfl rfl ?_)|(refine nN (p:=T _ .ret _ _) ?_;refine Alt.mk (p:=decide ((dE s c.ax)<0)=true) ?_ ?_;(exact jc);refine dm.mk ?_;refine BU s ⟨11,0⟩ 4 5 2 3 rfl rfl rfl rfl rfl rfl rfl rfl rfl rfl rfl rfl rfl rfl rfl rfl rfl ?_)|(refine nN (p:=T _ .ret _ _) ?_;refine Alt.mk (p:=decide (c.seq=(s.aJ.getD (dE s c.ax).toNat .z).seq)=true) ?_ ?_;(exact jc);refine dm.mk ?_;refine BU s (s.aJ.getD (dE s c.ax).toNat .z).last 4 5 2 3 rfl rfl rfl rfl rfl rfl rfl rfl rfl rfl rfl rfl rfl rfl rfl rfl rfl ?_)|(refine nN (p:=T _ .ret _ _) ?_;refine Alt.mk (p:=decide (c.seq<(s.aJ.getD (dE s c.ax).toNat .z).seq)=true) ?_ ?_;(exact jc);refine dm.mk ?_;refine BU s ⟨13,0⟩ 4 5 2 3 rfl rfl rfl rfl rfl rfl rfl rfl rfl rfl rfl rfl rfl rfl rfl rfl rfl ?_)|(refine nN (p:=T _ .ret _ _) ?_;refine Alt.mk (p:=decide ((s.aJ.getD (dE s c.ax).toNat .z).seq+1<c.seq)=true) ?_ ?_;(exact jc);refine dm.mk ?_;refine BU s ⟨14,0⟩ 4 5 2 3 rfl rfl rfl rfl rfl rfl rfl rfl rfl rfl rfl rfl rfl rfl rfl rfl rfl ?_)|(refine nN (p:=T _ .ret _ _) ?_;refine Alt.mk (p:=decide ((s.aJ.getD (dE s c.ax).toNat .z).seq+1<c.seq)=false) ?_ ?_;(exact jc);refine dm.mk ?_;refine BU ({ (qm s c).1 with aJ:=(qm s c).1.aJ.set (dE s c.ax).toNat ⟨c.ax,c.seq,(qm s c).2⟩ }:aN) (qm s c).2 4 5 2 3 rfl rfl rfl rfl rfl rfl rfl rfl rfl rfl rfl rfl rfl rfl rfl rfl rfl ?_)|refine aC ?_|refine bU 10 [4,5] [o0,o2,o2,o2,o1,(1,1,true,[])] ?_|refine bU 18 [] (ooz 9 []) ?_|refine bU 19 [7,8] [o0,o2,o2,o2,o2,o2,o2,o1,(1,1,true,[])] ?_|refine bU 20 [] (ooz 9 []) ?_|refine bU 22 [] (ooz 10 []) ?_|refine bU 26 [2,3] [o0,o2,o1,(1,1,true,[])] ?_|refine mc ?_ ?_|refine aO (auX s _ hv.jw.fit) ?_|refine aO (Y6 s hv.jw.fit) ?_|refine aO (agC s c hv hc) ?_|refine aO (ade s c.ax hv) ?_|refine aO (apv s.aJ ⟨c.ax,0,⟨0,0⟩⟩ hv.jw.fit.l1) ?_|refine mY (ap2 s c hv hc) ?_|refine aj.mk (λh=>?_) (λh=>?_)|refine ag.a ?_|refine ag.mk ?_ ?_))<;>(try(refine dm.mk ?_;repeat'(first|exact tv|exact rfl|refine an ?_ ?_|refine ag.mk ?_ ?_)))
 all_goals try exact cls
 all_goals(try(refine leq ?_ ?_ <;> repeat'(first|exact tv|exact qW|refine jQ qN (λk hk=>?_) ?_|refine an ?_ ?_)))
 all_goals first|exact cm qV|(have q:=OO (bV (aG:decide (dE s c.ax<0)=false));have q2:=auu hv (bV (aG:decide (dE s c.ax<0)=false));have q3:=hv.ver;first|omega|(simp only[dM,jg];omega))|(have q3:=hv.ver;(simp only[dM,jg];omega))|(refine⟨rfl,(OO (bV (aG:decide (dE s c.ax<0)=false))).1,?_⟩;have q:=aat (aG:decide (dE s c.ax<0)=false);have q0:=(OO (bV (aG:decide (dE s c.ax<0)=false))).1;omega)|exact⟨rfl,aat (aG:decide (dE s c.ax<0)=false),nb rfl⟩|(unfold Bq;simp only[*,dw,bz];done)|exact cm VW.top|(have hk:k<7:=hk;refine cm ?_;obtain _|_|_|_|_|_|_|k:=k <;> first|exact qV|exact vq (jB.trans (YA (by rw[nM]))) tv|omega)|(have hk:k<2:=hk;refine cm ?_;obtain _|_|k:=k <;> first|exact qV|omega)
def afy{g:Nat->Nat->V}{R:Rep}{j k:Nat}(hj:j<1)(hk:k<2)(e0:g 0 0 = .d (ji R 0))(e1:g 0 1 = .d (ji R 1)):g j k = .d (ji (([R]:List Rep).getD j .z) k):=by
 obtain rfl:j=0:=Nat.lt_one_iff.1 hj;obtain _|_|k:=k
 ·exact e0
 ·exact e1
 ·omega
def amh(s:aN)(t:Int)(hs:uO s):aQ 11 [dZ s,.d (gY [⟨t,[]⟩]),iV 3] (bI [dZ s,.d (xJ [⟨0,0⟩]),iV 0]):=by
 refine ay func11 λX=>?_
 (repeat'(first|refine aC ?_|refine aO (Y6 s hs) ?_|refine aO (adI t 3 (by decide) (by decide)) ?_|refine BN ?_|refine TL.round ?_|refine aj.n (λh=>?_)|refine lq (λh=>?_)|refine ag.a ?_|refine Fin.eG (i:=2) (h:=λj=>ji (([(⟨0,0⟩:Rep)]:List Rep).getD j .z)) (iI.of (n:=1) (z:=2) (E:=52) (cZ _) rfl (λj hj k hk=>afy hj hk rfl rfl)) (Fin.tell (fH [dZ s,.d (xJ [(⟨0,0⟩:Rep)]),iV 0] rfl fr vw))|refine ag.mk ?_ ?_))<;>try exact cls
 all_goals(refine⟨dL _,?_⟩;show(0:Int)<1;decide)
def amg(s:aN)(t:Int)(c:aF)(hv:gK s s.version)(hc:fZ c 3):aQ 11 [dZ s,.d (gY [⟨t,fQ c⟩]),iV 3] (bI [dZ (Bq s c).1,.d (xJ [(Bq s c).2]),iV 0]):=by
 refine ay func11 λX=>?_
 (repeat'(first|refine aC ?_|refine aO (Y6 s hv.jw.fit) ?_|refine aO (adH t c 3 hc) ?_|refine aO (asM s c hv hc) ?_|refine BN ?_|refine TL.round ?_|refine aj.n (λh=>?_)|refine lq (λh=>?_)|refine ag.a ?_|refine Fin.eG (i:=2) (h:=λj=>ji (([(Bq s c).2]:List Rep).getD j .z)) (iI.of (n:=1) (z:=2) (E:=52) (cZ _) rfl (λj hj k hk=>afy hj hk rfl rfl)) (Fin.tell (fH [dZ (Bq s c).1,.d (xJ [(Bq s c).2]),iV 0] rfl fr vw))|refine ag.mk ?_ ?_))<;>try exact cls
 all_goals(refine⟨dL _,?_⟩;show(0:Int)<1;decide)
section
def ac5{α:Type}{key:α->Int}{x:α}:∀(l a:List α),l.foldl (λp y=>((ru key x p y).1++[y],(ru key x p y).2)) (a,true)=(a++l,true)
 |[],a=>by simp
 |y::r,a=>by
  rw[List.foldl_cons,Ur (by rfl)];exact(ac5 r (a++[y])).trans (by rw[jV];rfl)
def afR{α:Type}{key:α->Int}{x:α}:∀(l a:List α),(∀ y∈l,key y≠key x) ->
  (bif !(l.foldl (λp y=>((ru key x p y).1++[y],(ru key x p y).2)) (a,false)).2 then(l.foldl (λp y=>((ru key x p y).1++[y],(ru key x p y).2)) (a,false)).1++[x]
   else(l.foldl (λp y=>((ru key x p y).1++[y],(ru key x p y).2)) (a,false)).1)=a++oV l (ahead (λy=>decide (key y<key x)) l) x
 |[],a,_=>by simp[oV,ahead]
 |y::r,a,h=>by
  have hy:=h y jL;rw[List.foldl_cons];unfold ahead;by_cases e:key x<key y
  ·rw[ZE (by simpa using e),ac5];rw[aT (show ¬key y<key x by omega)];simp[oV]
  ·rw[Ur (by simpa using e),aX (show key y<key x by omega)];refine(afR r (a++[y]) λz hz=>h z (jA _ hz)).trans ?_;simp[oV]
def afS{α:Type}{key:α->Int}{x:α}{l:List α}(h:∀ y∈l,key y≠key x):vZ key x l=oV l (ahead (λy=>decide (key y<key x)) l) x:=(afR l [] h).trans (List.nil_append _)
def MM{α:Type}{p:α->Bool}:∀(l:List α) (i:Nat),eU p i l=bif decide (0<=eU p 0 l) then eU p 0 l+i else -1
 |[],i=>rfl
 |x::r,i=>by
  unfold eU;obtain _|_:=p x
  ·simp only[bz];rw[MM r (i+1),MM r 1];obtain e|e:=FB p r
   ·rw[e];rfl
   ·rw[aX e.1];simp only[dw];rw[aX qO];simp only[dw];omega
  ·simp
def WO{α:Type}{p:α->Bool}{z:α}:∀ {l:List α},0<=eU p 0 l->p (l.getD (eU p 0 l).toNat z)=true
 |[],h=>by simp[eU]at h
 |x::r,h=>by
  unfold eU at h ⊢;rcases hx:p x with _|_
  ·rw[hx,bz]at h;rw[bz,MM r 1]at *;obtain e|e:=FB p r
   ·rw[e]at h;simp at h
   ·rw[aX e.1,dw]at *;have e2:(eU p 0 r+((1:Nat):Int)).toNat=(eU p 0 r).toNat+1:=qO;rw[e2,List.getD_cons_succ];exact WO e.1
  ·simpa using hx
def acs{α:Type}{key:α->Int}{v:Int}:∀ {l:List α},(l.map key).Pairwise (· < ·)->0<=eU (λx=>decide (key x=v)) 0 l->l.filter (λx=>!decide (key x=v))=l.eraseIdx (eU (λx=>decide (key x=v)) 0 l).toNat
 |[],_,h=>by simp[eU]at h
 |x::r,hp,h=>by
  rw[List.map_cons,List.pairwise_cons]at hp;unfold eU at h ⊢;by_cases e:key x=v
  ·simp only[e,decide_true,dw,Bool.not_true];rw[List.filter_cons_of_neg (by simp[e])];show r.filter _=r;refine List.filter_eq_self.2 λy hy=>?_
   have:=hp.1 _ (List.mem_map_of_mem hy);simp;omega
  ·simp only[aT e,bz]at h ⊢;rw[MM r 1]at h ⊢;obtain q|q:=FB (λx=>decide (key x=v)) r
   ·rw[q]at h;simp at h
   ·rw[aX q.1,dw];have e2:(eU (λx=>decide (key x=v)) 0 r+((1:Nat):Int)).toNat=(eU (λx=>decide (key x=v)) 0 r).toNat+1:=qO;rw[List.filter_cons_of_pos (by simp[e]),e2,List.eraseIdx_cons_succ];exact ah (x :: ·) (acs hp.2 q.1)
def al1{α:Type}{z:α}{l:List α}{p:Nat}{y:α}(h:p<l.length)(e:y=l.getD p z):l.set p y=l:=by
 subst e;rw[bn,dV h];simp
section
variable {s:aN} {c:aF}
def ZA(h:gK s s.version):jD s c=kX c s.version:=by
 unfold jD;rw[SE.2 h];rfl
def asb(h:gK s s.version)(h0:0<=opAt s c.set):ve s.opens c.set=s.opens.eraseIdx (opAt s c.set).toNat:=acs h.opens.1 h0
def akT(h0:0<=opAt s c.set)(h1:(s.opens.getD (opAt s c.set).toNat .z).ax=c.ax):jM s c=opAt s c.set:=by
 unfold jM;rw[aX h0,dw,aX h1];rfl
def akS(h:opAt s c.set<0\/¬(s.opens.getD (opAt s c.set).toNat .z).ax=c.ax):jM s c<0:=by
 unfold jM;by_cases h0:0<=opAt s c.set
 ·rw[aX h0,dw,aT (h.resolve_left qO)];simp only[Bool.not_false,dw];omega
 ·rw[aT h0,bz,bz];omega
def aoi(h:gK s s.version):(bif decide (0<=(opAt s c.set)) then(s,(⟨16,(s.opens.getD (opAt s c.set).toNat .z).ax⟩:Rep)) else(({ s with opens:=vZ (λy:iT=>y.set) ⟨c.set,c.ax⟩ s.opens }:aN),⟨0,0⟩))=IA s c:=by
 unfold IA;by_cases h0:0<=opAt s c.set
 ·rw[aX h0];rfl
 ·rw[aT h0,bz,bz,afS]
  ·rfl
  ·intro y hy e;have:=JL (p:=λx:iT=>decide (x.set=c.set)) (show eU (λx:iT=>decide (x.set=c.set)) 0 s.opens<0 by have:¬0<=eU (λx:iT=>decide (x.set=c.set)) 0 s.opens:=h0;omega) y hy;exact ai e (mJ this)
def aqB(h:gK s s.version)(hk:c.kind=3\/c.kind=4):(bif (bif decide ((opAt s c.set)<0) then true else !decide ((s.opens.getD (opAt s c.set).toNat .z).ax=c.ax)) then(s,(⟨15,0⟩:Rep)) else bif decide (c.kind=3) then FT s c else(({ s with opens:=ve s.opens c.set }:aN),⟨0,0⟩))=bif decide (c.kind=3) then zi s c else F8 s c:=by
 by_cases hb:opAt s c.set<0\/¬(s.opens.getD (opAt s c.set).toNat .z).ax=c.ax
 ·have e:(bif decide ((opAt s c.set)<0) then true else !decide ((s.opens.getD (opAt s c.set).toNat .z).ax=c.ax))=true:=by
   obtain hb|hb:=hb
   ·rw[aX hb];rfl
   ·rw[aT hb];cases decide (opAt s c.set<0) <;> rfl
  have hm:=akS hb;rw[e,dw];unfold zi F8;rw[aX hm];cases decide (c.kind=3) <;> rfl
 ·have h0:0<=opAt s c.set:=by have:¬opAt s c.set<0:=λe=>hb (.inl e);omega
  have h1:(s.opens.getD (opAt s c.set).toNat .z).ax=c.ax:=Decidable.byContradiction λe=>hb (.inr e)
  rw[aT (show ¬opAt s c.set<0 by omega),aX h1];simp only[Bool.not_true,bz];unfold zi F8 FT XV;rw[akT h0 h1,aT (show ¬opAt s c.set<0 by omega),asb h h0];rfl
def apj(h0:0<=iq s c.id):(s.az.getD (iq s c.id).toNat .z).id=c.id:=fU (WO (p:=λx:eH=>decide (x.id=c.id)) h0)
def asW(hk:c.kind=5\/c.kind=7\/c.kind=9\/c.kind=10\/c.kind=11):(bif decide (iq s c.id<0) then(s,(⟨15,0⟩:Rep)) else EF s c (iq s c.id).toNat) =
  Au s c (bif decide (c.kind=5) then Kr s else bif decide (c.kind=7) then(λp=>(s,⟨0,(s.az.getD p .z).chunks.length⟩)) else bif decide (c.kind=9) then Gp true s else bif decide (c.kind=10) then Gp false s else λp=>(nO s p (λx=>{ x with tag:=c.text }),.z)):=by
 unfold Au;obtain h0|h0:=Tt s c.id
 ·rw[aX (show iq s c.id<0 by omega)];rfl
 ·rw[aT (show ¬iq s c.id<0 by omega),bz,bz];have hid:=apj h0.1;have hlt:(iq s c.id).toNat<s.az.length:=qO;generalize (iq s c.id).toNat=p at *;unfold EF;have hold:∀ b:Bool,(bif !((s.az.getD p .z).held == b) then((nO s p (λx=>{ x with held:=b })),(⟨0,1⟩:Rep)) else((nO s p (λx=>{ x with held:=b })),⟨0,0⟩))=Gp b s p:=λb=>by
   unfold Gp;by_cases e:(s.az.getD p .z).held=b
   ·rw[aX e];rw[e];simp only[BEq.rfl,Bool.not_true,bz,dw];unfold nO;rw[al1 (z:=eH.z) hlt (by rw[<-e])];rfl
   ·rw[aT e];have:((s.az.getD p .z).held == b)=false:=by simpa using e
    rw[this];rfl
  obtain hk|hk|hk|hk|hk:=hk <;> rw[hk]
  ·show _=Kr s p;unfold Kr;rw[hid];rfl
  ·rfl
  ·exact hold true
  ·exact hold false
  ·rfl
def ap1(h:gK s s.version):qm s c=kC s c:=by
 unfold qm kC;rw[ZA h];by_cases hm:kX c s.version=0
 ·rw[aX hm];simp only[Bool.not_true,bz];have hn:=(UU hm).1;have hk:=BI hn;by_cases k18:c.kind=1\/c.kind=8
  ·have e:(bif decide (c.kind=1) then true else decide (c.kind=8))=true:=by
    obtain e|e:=k18 <;> rw[e] <;> rfl
   rw[e];have e2:vU s c=none:=by unfold vU;obtain e|e:=k18 <;> rw[e] <;> rfl
   rw[e2];rfl
  ·have e:(bif decide (c.kind=1) then true else decide (c.kind=8))=false:=by
    rw[aT λe=>k18 (.inl e),aT λe=>k18 (.inr e)];rfl
   rw[e,bz];by_cases k2:c.kind=2
   ·rw[aX k2,dw,aoi h];unfold vU;rw[k2];rfl
   rw[aT k2,bz];by_cases k34:c.kind=3\/c.kind=4
   ·have e:(bif decide (c.kind=3) then true else decide (c.kind=4))=true:=by obtain e|e:=k34 <;> rw[e] <;> rfl
    rw[e,dw,aqB h k34];unfold vU;obtain e|e:=k34 <;> rw[e] <;> rfl
   have e:(bif decide (c.kind=3) then true else decide (c.kind=4))=false:=by
    rw[aT λe=>k34 (.inl e),aT λe=>k34 (.inr e)];rfl
   rw[e,bz];by_cases k6:c.kind=6
   ·rw[aX k6];unfold vU;rw[k6];rfl
   rw[aT k6,bz];by_cases k12:c.kind=12
   ·rw[aX k12];unfold vU;rw[k12];rfl
   rw[aT k12,bz];have k5:c.kind=5\/c.kind=7\/c.kind=9\/c.kind=10\/c.kind=11:=qO;rw[asW k5];unfold vU;obtain e|e|e|e|e:=k5 <;> rw[e] <;> rfl
 ·rw[aT hm];rfl
def af4(h:0<=dE s c.ax):(s.aJ.getD (dE s c.ax).toNat .z).ax=c.ax:=fU (WO (p:=λx:iW=>decide (x.ax=c.ax)) h)
def asL(h:gK s s.version)(hz:nV c):Bq s c=oC s c:=by
 unfold Bq oC;rw[ZA h];by_cases hm:kX c s.version=0
 ·rw[aX hm];simp only[Bool.not_true,bz];by_cases k8:c.kind=8
  ·rw[aX k8];rfl
  rw[aT k8,bz,bz];by_cases k1:c.kind=1
  ·rw[aX k1,dw,dw];by_cases h0:0<=dE s c.ax
   ·rw[aX h0];rfl
   ·rw[aT h0,bz,bz,afS]
    ·rfl
    ·intro y hy e;have:=JL (p:=λx:iW=>decide (x.ax=c.ax)) (show eU (λx:iW=>decide (x.ax=c.ax)) 0 s.aJ<0 by have:¬0<=eU (λx:iW=>decide (x.ax=c.ax)) 0 s.aJ:=h0;omega) y hy;exact ai e (mJ this)
  rw[aT k1,bz,bz];unfold Ej;rw[ap1 h];obtain h0|h0:=NF s c.ax
  ·rw[aX (show dE s c.ax<0 by omega)];rfl
  ·have e:((kC s c).1.aJ.getD (dE s c.ax).toNat .z).ax=c.ax:=by
    rw[(IC h hz).aJ];exact af4 h0.1
   rw[e]
 ·rw[aT hm];rfl
end
end
