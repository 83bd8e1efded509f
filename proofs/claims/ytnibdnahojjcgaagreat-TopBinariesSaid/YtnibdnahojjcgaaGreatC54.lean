/- Lemmas. -/
import Derived.Test.YtnibdnahojjcgaaGreatC51
namespace Go.Proofs.YtnibdnahojjcgaaGreat
set_option linter.all false
set_option maxRecDepth 100000
set_option maxHeartbeats 0
open Go.RowKit Tryz
section
namespace K3
abbrev axS:Nat:=49
end K3
namespace K4
abbrev axS:Nat:=57
end K4
namespace K5
abbrev axS:Nat:=65
end K5
section
attribute [local irreducible] af
def r15{k:Nat}{x:Sit}(h:abh k x):cond (cond (decide (x.bin<x.st.version)) true (!decide (x.floor=x.bin))) true (decide ((x.log.length:Int)<x.dN))=false:=by
 rw[aT (show ¬x.bin<x.st.version by have:=h.ver;omega),aX h.floor,aT (show ¬(x.log.length:Int)<x.dN by have:=h.dN;omega)];rfl
def axT{e:bH}{v:Int}(hv:1<=v/\v<=3)(h:e.b=[]\/∃ c,e.b=fQ c/\fZ c v):aQ 12 [zM e,iV v] (bI [.agg 8 (λ_=>.top),.top,iV 0]):=by
 have key:∀ {a b:V} (c:Nat->V),af 12 [zM e,iV v] e0 (λrv t=>rv=bI [.agg 8 c,b,iV 0]/\t=e0)->aQ 12 [zM e,iV v] (bI [.agg 8 (λ_=>.top),.top,iV 0]):=λc hc=>
  af.told hc (bF _) (λrv t ⟨e1,e2⟩=>by
   subst e1 e2;exact⟨bF _,fH [.agg 8 (λ_=>.top),.top,iV 0] rfl fr ⟨VW.agg λk hk=>VW.top,VW.top,VW.refl tv,tv⟩,λi=>.inl rfl⟩) ⟨rfl,rfl⟩
 obtain⟨t,b⟩:=e;obtain h|⟨c,h,hc⟩:=h
 ·obtain rfl:b=[]:=h;exact key (a:=.top) _ (adI t v hv.1 hv.2)
 ·obtain rfl:b=fQ c:=h;exact key (a:=.top) _ (adH t c v hc)
def ltc{j:Nat}{c:Int}(h:decide ((j:Int)<c)=true):j<c.toNat:=by have:=bT h;omega
def ltl{k:Nat}{x:Sit}{j:Nat}(hx:abh k x)(h:decide ((j:Int)<x.dN)=true):j<x.log.length:=by have:=bT h;have:=hx.dN;omega
def axQ(DL:Int)(lM:Nat)(uU:Nat):Prop:=∀ (R:aH->List (Nat×aK)) (hR:∀ C,BD uU (R C)) (hstep:∀ {a n:Nat} {C:aH} {e:cO},gB lM a n C->a<=900->n<=1000000->wG e->af 8 [.ptr 0 0,oL e] ⟨R C,uU⟩ (λv t=>v=iV (jI lM C e).2/\MF uU (R (jI lM C e).1) t)) (U4:∀ {a n:Nat} {C:aH} {i:Nat},gB lM a n C->i<lM->af 14 [.ptr 0 0,iV i] ⟨R C,uU⟩ (λv t=>v=Dl (iO (C.at i))/\t=⟨R C,uU⟩)) (m:Int) (U5:af 6 [.d (.v (.int .u8 m))] e0 (λv t=>v=bI [.ptr 0 0,iV DL,.b true]/\t=⟨R (qp lM),uU⟩)) (L0:List cO) (hb:∀ e∈L0,-9223372036854775808<=e.b),af 4 [.d (.v (.int .u8 m)),.d (AV L0)] e0 (λv t=>v = .b true/\t=e0)
def axR {p:Prop}(h:p:=by
 have hlen:=anv L0;refine ay Tryz.func4 λX=>?_
 (repeat'(first|((with_reducible refine fP ?_);first|refine Ld (id:=9) ?_|refine OY (c:=.seq (.seq (.region 7 _ _) _) _) (λi (C:aH)=>⟨103,[(1,.d (AV (rC L0))),(6,.ptr 0 0),(7,iV DL),(9,iV i)],⟨R C,uU⟩⟩) (λi C=>gB lM i i C) (rC L0).length (qp lM) ?_ ?_ (λi C hi hp=>?_)|refine Vb (c:=.seq (.seq (.region 11 _ _) _) _) (λn=>⟨103,[(1,.d (AV (rC L0))),(6,.ptr 0 0),(7,iV DL),(9,iV i),(10,iV n)],⟨R (jI lM C ((rC L0).getD i .z)).1,uU⟩⟩) lM ?_ (λn hn=>?_)|refine Vb (c:=.seq (.seq (.region 21 _ _) _) _) (λj=>⟨103,[(1,.d (AV (rC L0))),(6,.ptr 0 0),(7,iV DL),(9,iV i),(10,iV n),(11,.ptr uU 0),(13,iV j)],⟨(uU,.Wp 16 (λq=>.d (awh (iO ((jI lM C ((rC L0).getD i .z)).1.at n)) q)))::R (jI lM C ((rC L0).getD i .z)).1,axS⟩⟩) (iO ((jI lM C ((rC L0).getD i .z)).1.at n)).dN.toNat ?_ (λj hj=>?_)|refine aC ?_|refine bU 23 [12,13] [o2,o2,o2,o2,o2,o2,o2,o2,o2,o2,(0,2,false,[]),(0,2,false,[]),o1,(1,1,true,[]),(2,2,false,[]),(2,2,false,[])] ?_)|((conv=>whnf);first|(with_reducible refine fP ?_)|refine mc ?_ ?_|refine wK ?_|refine aO apo ?_|refine af.to U5 ?_|refine aO (anw L0) ?_|refine af.to (U4 (i:=n) (hp.step qo (TJ hb _ (axB (z:=cO.z) (sO (n:=i) (k:=(rC L0).length) aG)))) (sO (n:=n) (k:=lM) aG)) ?_|refine aO (apL (iO ((jI lM C ((rC L0).getD i .z)).1.at n)).st (iO ((jI lM C ((rC L0).getD i .z)).1.at n)).bin (abh.st (gB.site (i:=n) (hp.step qo (TJ hb _ (axB (z:=cO.z) (sO (n:=i) (k:=(rC L0).length) aG)))) (sO (n:=n) (k:=lM) aG) (nf aG)))) ?_|(refine Ib (args':=[.ptr 0 0,oL ((rC L0).getD i .z)]) ⟨VW.refl qN,VW.agg λq hq=>vq rfl tv,tv⟩ (af.mono (hstep (C:=C) (e:=((rC L0).getD i .z)) hp qo qo (TJ hb _ (axB (z:=cO.z) (sO (n:=i) (k:=(rC L0).length) aG)))) ?_);rintro v t ⟨rfl,σ,M,hs,hz,rfl⟩)|refine Iu (Ot (nt:=103) (sl2:=[(1,.d (AV (rC L0))),(6,.ptr 0 0),(7,iV DL),(9,iV i)]) hs qN hz (hR (jI lM C ((rC L0).getD i .z)).1) (λφ hφ=>⟨qV,oG hφ qN,qV,qV,tv⟩)) ?_|refine TO.nil ?_|refine TO.run rfl rfl ?_|refine an (sO (n:=n) (k:=lM) aG) ?_|refine an (sO (n:=i) (k:=(rC L0).length) aG) (aZ (jI lM C ((rC L0).getD i .z)).1 (fM (hp.step qo (TJ hb _ (axB (z:=cO.z) (sO (n:=i) (k:=(rC L0).length) aG)))) ?_))|refine an (ltc (j:=j) aG) ?_|refine aj.mk (λh=>ai ((r15 (gB.site (i:=n) (hp.step qo (TJ hb _ (axB (z:=cO.z) (sO (n:=i) (k:=(rC L0).length) aG)))) (sO (n:=n) (k:=lM) aG) (nf aG))).symm.trans h) (by decide)) (λh=>?_)|refine aj.n (λh=>?_)|refine kF (axT (e:=(iO ((jI lM C ((rC L0).getD i .z)).1.at n)).log.getD j .z) (v:=(iO ((jI lM C ((rC L0).getD i .z)).1.at n)).bin) (abh.bin (gB.site (i:=n) (hp.step qo (TJ hb _ (axB (z:=cO.z) (sO (n:=i) (k:=(rC L0).length) aG)))) (sO (n:=n) (k:=lM) aG) (nf aG))) (abh.e (gB.site (i:=n) (hp.step qo (TJ hb _ (axB (z:=cO.z) (sO (n:=i) (k:=(rC L0).length) aG)))) (sO (n:=n) (k:=lM) aG) (nf aG)) (ltl (gB.site (i:=n) (hp.step qo (TJ hb _ (axB (z:=cO.z) (sO (n:=i) (k:=(rC L0).length) aG)))) (sO (n:=n) (k:=lM) aG) (nf aG)) (j:=j) aG))) ?_|refine aj.mk (λh=>?_) (λh=>?_)|refine ag.a ?_|refine Fin.tell (vq (ah V.b ?_) tv)|refine ag.mk ?_ ?_)))<;>(try(refine dm.mk ?_;repeat'(first|exact tv|((conv=>whnf);first|exact rfl|refine aO (axT (e:=(iO ((jI lM C ((rC L0).getD i .z)).1.at n)).log.getD j .z) (v:=(iO ((jI lM C ((rC L0).getD i .z)).1.at n)).bin) (abh.bin (gB.site (i:=n) (hp.step qo (TJ hb _ (axB (z:=cO.z) (sO (n:=i) (k:=(rC L0).length) aG)))) (sO (n:=n) (k:=lM) aG) (nf aG))) (abh.e (gB.site (i:=n) (hp.step qo (TJ hb _ (axB (z:=cO.z) (sO (n:=i) (k:=(rC L0).length) aG)))) (sO (n:=n) (k:=lM) aG) (nf aG)) (ltl (gB.site (i:=n) (hp.step qo (TJ hb _ (axB (z:=cO.z) (sO (n:=i) (k:=(rC L0).length) aG)))) (sO (n:=n) (k:=lM) aG) (nf aG)) (j:=j) aG))) ?_|refine an ?_ ?_|refine ag.mk ?_ ?_))))
 all_goals try exact cls
 all_goals(try(refine bf.mk rfl (cZ _) qN ?_ ?_ <;> repeat'(first|exact tv|exact(hR _).ob 0 rfl rfl rfl|exact(hR _).ob 1 rfl rfl rfl|exact(hR _).ob 2 rfl rfl rfl|refine an qV ?_|refine an qW ?_|refine an ⟨nb rfl,fB rfl (λk hk=>dR ?_)⟩ ?_)))
 all_goals first|(have h9:=sO (n:=n) (k:=lM) aG;have h8:lM<=5:=(by decide);simp only[dM];omega)|exact cm qV|(have hk:k<16:=hk;obtain _|_|_|_|_|_|_|_|_|_|_|_|_|_|_|_|k:=k <;> first|exact cm qV|omega)|exact gB.new (by decide)|(have h9:=bT (aG:decide ((j:Int)<(iO ((jI lM C ((rC L0).getD i .z)).1.at n)).dN)=true);have h8:=(abh.dN (gB.site (i:=n) (hp.step qo (TJ hb _ (axB (z:=cO.z) (sO (n:=i) (k:=(rC L0).length) aG)))) (sO (n:=n) (k:=lM) aG) (nf aG))).2;exact Int.lt_of_lt_of_le h9 h8)|(have h9:=sO (n:=i) (k:=(rC L0).length) aG;omega)|(have h9:=ltl (j:=j) (gB.site (i:=n) (hp.step qo (TJ hb _ (axB (z:=cO.z) (sO (n:=i) (k:=(rC L0).length) aG)))) (sO (n:=n) (k:=lM) aG) (nf aG)) aG;have h8:=(abh.len (gB.site (i:=n) (hp.step qo (TJ hb _ (axB (z:=cO.z) (sO (n:=i) (k:=(rC L0).length) aG)))) (sO (n:=n) (k:=lM) aG) (nf aG)));simp only[dM];omega)|(exact ah (V.gQ 3) (funext λk=>by obtain _|_|_|k:=k <;> rfl))):p:=h
section
open K3
def axX:axQ 3 3 48:=by
 unfold axQ;intro R hR hstep U4 m U5 L0 hb;exact axR
end
section
open K4
def axW:axQ 4 4 56:=by
 unfold axQ;intro R hR hstep U4 m U5 L0 hb;exact axR
end
section
open K5
def axV:axQ 5 5 64:=by
 unfold axQ;intro R hR hstep U4 m U5 L0 hb;exact axR
end
end
def axY(m:Int)(hm:0<=m/\m<=255)(L0:List cO)(hb:∀ e∈L0,-9223372036854775808<=e.b):af 4 [.d (.v (.int .u8 m)),.d (AV L0)] e0 (λv t=>v = .b true/\t=e0):=by
 have hr:m % 3=0\/m % 3=1\/m % 3=2:=qO;obtain h|h|h:=hr
 ·exact axX (CL 3) (λC=>CJ (k:=3) qD) (λh ha hn he=>(NM h ha hn he).mono λv t ⟨e1,e2⟩=>⟨e1,e2.r⟩) (λh hi=>OC h hi) m (aqN m hm h) L0 hb
 ·exact axW (CL 4) (λC=>CJ (k:=4) qD) (λh ha hn he=>(NM h ha hn he).mono λv t ⟨e1,e2⟩=>⟨e1,e2.r⟩) (λh hi=>OC h hi) m (aqL m hm h) L0 hb
 ·exact axV (CL 5) (λC=>CJ (k:=5) qD) (λh ha hn he=>(NM h ha hn he).mono λv t ⟨e1,e2⟩=>⟨e1,e2.r⟩) (λh hi=>OC h hi) m (aqJ m hm h) L0 hb
def axU(W:World)(m:Int)(hm:0<=m/\m<=255)(a:Option Addr)(len cap:Nat)(L:List cO)(hb:∀ e∈L,-9223372036854775808<=e.b)(hd:jK (λb=>b<W.heap.size) W (AV L) (.slice a len cap)):Calls Tryz.prog 4 #[.int .u8 m,.slice a len cap] W λe w'=>e = .returned (.bool true)/\Below W.heap.size W w':=by
 refine ajS (axY m hm L hb) W [.int .u8 m,.slice a len cap] rfl λk v u h1 h2=>?_
 obtain _|_|k:=k
 ·injection h1 with h1
  injection h2 with h2
  subst h1 h2;exact rfl
 ·injection h1 with h1
  injection h2 with h2
  subst h1 h2;exact hd
 ·cases h1
end
