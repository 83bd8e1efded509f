/- Lemmas. -/
import Derived.Test.YtnibdnahojjcgaaGreatC51
namespace Go.Proofs.YtnibdnahojjcgaaGreat
set_option linter.all false
set_option maxRecDepth 100000
set_option maxHeartbeats 0
open Go.RowKit Tryz
section
attribute [local irreducible] af
def eqk{i k:Nat}(hi:i<=k)(h:decide ((i:Int)<(k:Int))=false):i=k:=by have:=bV h;omega
def afN{C:aH}{i:Nat}{all:List bH}(h:cond (cond (iO (C.at i)).up (decide ((all.length:Int)<(iO (C.at i)).dN)) false) (decide ((iO (C.at i)).dN<=((iO (C.at i)).log.length:Int))) false=true):CU C i all=(iO (C.at i)).log.take (iO (C.at i)).dN.toNat/\0<=(iO (C.at i)).dN/\(iO (C.at i)).dN<=(iO (C.at i)).log.length:=by
 obtain⟨h1,h2⟩:=wR.1 h;obtain⟨h3,h4⟩:=wR.1 h1;have h2:=bT h2;have h4:=bT h4;refine⟨?_,by omega,h2⟩;unfold CU;rw[h];rfl
def aqR{C:aH}{i:Nat}{all:List bH}(h:cond (cond (iO (C.at i)).up (decide ((all.length:Int)<(iO (C.at i)).dN)) false) (decide ((iO (C.at i)).dN<=((iO (C.at i)).log.length:Int))) false=false):CU C i all=all:=by
 unfold CU;rw[h];rfl
def atg{C:aH}{i M:Nat}{all:List bH}(h:cond (cond (iO (C.at i)).up (decide ((all.length:Int)<(iO (C.at i)).dN)) false) (decide ((iO (C.at i)).dN<=((iO (C.at i)).log.length:Int))) false=true):VW M (.d (.sl (iO (C.at i)).dN.toNat 2 (λj=>pJ ((iO (C.at i)).log.getD j .z)))) (.d (gY (CU C i all))):=by
 obtain⟨h1,h2,h3⟩:=afN h;rw[h1];refine VW.sl (by rw[dG];omega) (λj hj k hk=>?_);rw[bn,bn,nX,if_pos qO]
def JS(DL:Int)(lM:Nat)(uU:Nat):Prop:=∀ (R:aH->List (Nat×aK)) (C:aH) (hR:BD uU (R C)) (U4:∀ i:Nat,i<lM->af 14 [.ptr 0 0,iV i] ⟨R C,uU⟩ (λv t=>v=Dl (iO (C.at i))/\t=⟨R C,uU⟩)) (all:List bH) (hall:∀ i:Nat,i<=lM->(Gj C i all).length<=64) (hl:∀ i:Nat,i<lM->(iO (C.at i)).up=true->(iO (C.at i)).log.length<=64),af 9 [.ptr 0 0,iV DL,.d (gY all)] ⟨R C,uU⟩ (λv t=>v = .d (gY (Gj C lM all))/\t=⟨R C,uU⟩)
def Yq {p:Prop}(h:p:=by
 refine ay func9 λX=>?_
 (repeat'(first|((with_reducible refine fP ?_);first|refine Vb (λi=>⟨40,[(0,.ptr 0 0),(1,iV DL),(2,.d (gY (Gj C i all))),(7,iV i)],⟨R C,uU⟩⟩) lM ?_ (λi hi=>?_)|refine aC ?_)|((conv=>whnf);first|(with_reducible refine fP ?_)|refine wK ?_|refine af.to (U4 i (sO (n:=i) (k:=lM) aG)) ?_|refine an (sO (n:=i) (k:=lM) aG) ?_|refine aj.mk (λh=>?_) (λh=>?_)|refine ag.a ?_|refine bM qN qN (vq (ah (λl=>V.d (gY l)) ?_) tv) ?_|refine ag.mk ?_ ?_)))<;>try exact cls
 all_goals(try(refine leq ?_ ?_ <;> repeat'(first|exact tv|exact hR.ob 0 rfl rfl rfl|exact hR.ob 1 rfl rfl rfl|exact atg aG|exact vq (ah (λl=>V.d (gY l)) (aqR aG).symm) tv|refine an qV ?_|refine an qW ?_|refine an ?_ ?_)))
 all_goals first|(have h9:=sO (n:=i) (k:=lM) aG;have h8:lM<=5:=(by decide);simp only[dM];omega)|exact(afN aG).2|exact hR.ob 0 rfl rfl rfl|(rw[eqk hi aG])):p:=h
section
open K3
def aqU:JS 3 3 48:=by
 unfold JS;intro R C hR U4 all hall hl;exact Yq
end
section
open K4
def aqT:JS 4 4 56:=by
 unfold JS;intro R C hR U4 all hall hl;exact Yq
end
section
open K5
def aqS:JS 5 5 64:=by
 unfold JS;intro R C hR U4 all hall hl;exact Yq
end
end
section
attribute [local irreducible] af
def Z8(f:Func):Code:=match f.body with|some (.seq _ (.seq _ (.seq _ (.seq _ (.seq _ (.seq _ (.seq _ c)))))))=>c|_=>.skip
def apR{e:bH}{T:Int}(h:EG 3 T e):aQ 12 [zM e,iV 3] (bI [jl ((jJ e.b).getD .z),.b (jJ e.b).isSome,iV 0]):=by
 obtain⟨t,b⟩:=e;obtain h|⟨c,h,hc,_⟩:=h.b
 ·obtain rfl:b=[]:=h;exact adI t 3 qD qD
 ·obtain rfl:b=fQ c:=h;have e:=OL hc;show aQ 12 _ (bI [jl ((jJ (fQ c)).getD .z),.b (jJ (fQ c)).isSome,iV 0]);rw[e];exact adH t c 3 hc
def aqa{s:aN}{e:bH}{T:Int}(hv:gK s s.version)(h:EG 3 T e):aQ 11 [dZ s,.d (gY [e]),iV 3] (bI [dZ (lL s (jJ e.b)).1,.d (xJ [(lL s (jJ e.b)).2]),iV 0]):=by
 obtain⟨t,b⟩:=e;obtain h|⟨c,h,hc,_⟩:=h.b
 ·obtain rfl:b=[]:=h;exact amh s t hv.jw.fit
 ·obtain rfl:b=fQ c:=h;have e:=OL hc;show aQ 11 _ (bI [dZ (lL s (jJ (fQ c))).1,.d (xJ [(lL s (jJ (fQ c))).2]),iV 0]);rw[e,show lL s (some c)=Bq s c from (asL hv ⟨hc.chunks,hc.text⟩).symm];exact amg s t c hv hc
structure yP (s:aN) (k:Int->Int) (b:Bool) (c:aF) (t:aN) (r:Rep):Prop where
 new:∀ x∈t.aJ,k x.ax<0->x.seq=0/\b=true/\c.kind=1
 next:∀ x∈t.aJ,¬k x.ax<0->x.seq≠(s.aJ.getD (k x.ax).toNat .z).seq->x.seq=(s.aJ.getD (k x.ax).toNat .z).seq+1/\c.ax=x.ax/\c.seq=x.seq/\x.last=r
 again:∀ x∈t.aJ,¬k x.ax<0->b=true->c.ax=x.ax->c.seq=(s.aJ.getD (k x.ax).toNat .z).seq->0<c.seq->r=(s.aJ.getD (k x.ax).toNat .z).last
 lt:∀ v,k v<s.aJ.length
 sq:∀ x∈s.aJ,0<=x.seq/\x.seq<=1000000000
 len:s.aJ.length<=1000000/\t.aJ.length<=1000000
def uV{a b:Bool}(h:(bif a then b else false)=true):a=true:=by
 cases a
 ·exact h
 ·rfl
def Gt{a b:Bool}(h:(bif a then b else false)=true):b=true:=by
 cases a
 ·cases h
 ·exact h
section
variable {s t:aN} {k:Int->Int} {b:Bool} {c:aF} {r:Rep} {x:iW}
def yP.x1(h:yP s k b c t r)(hx:x∈t.aJ)(q:(bif decide (k x.ax<0) then(bif (bif !decide (x.seq=0) then true else !b) then true else !decide (c.kind=1)) else false)=true):False:=by
 obtain⟨a1,a2,a3⟩:=h.new x hx (bT (uV q));have q2:=Gt q;rw[aX a1,a2,aX a3]at q2;exact ai q2 qD
def yP.x2(h:yP s k b c t r)(hx:x∈t.aJ)(q:(bif (bif decide (0<=k x.ax) then !decide (x.seq=(s.aJ.getD (k x.ax).toNat .z).seq) else false) then(bif (bif (bif !decide (x.seq=(s.aJ.getD (k x.ax).toNat .z).seq+1) then true else !decide (c.ax=x.ax)) then true else !decide (c.seq=x.seq)) then true else !(decide (x.last.code=r.code)&&decide (x.last.n=r.n))) else false)=true):False:=by
 have q1:=uV q;have h0:=bT (uV q1);have hne:=Gt q1;obtain⟨a1,a2,a3,a4⟩:=h.next x hx qO (by simpa using hne)
 have q2:=Gt q;rw[aX a1,aX a2,aX a3,a4,aX (rfl:r.code=r.code),aX (rfl:r.n=r.n)]at q2;exact ai q2 qD
def yP.x3(h:yP s k b c t r)(hx:x∈t.aJ)(q:(bif (bif (bif (bif (bif decide (0<=k x.ax) then b else false) then decide (c.ax=x.ax) else false) then decide (c.seq=(s.aJ.getD (k x.ax).toNat .z).seq) else false) then decide (0<c.seq) else false) then !(decide (r.code=(s.aJ.getD (k x.ax).toNat .z).last.code)&&decide (r.n=(s.aJ.getD (k x.ax).toNat .z).last.n)) else false)=true):False:=by
 have p1:=uV q;have p2:=uV p1;have p3:=uV p2;have p4:=uV p3;have h0:=bT (uV p4);have e:=h.again x hx qO (Gt p4) (bT (Gt p3)) (bT (Gt p2)) (bT (Gt p1));have q2:=Gt q;rw[aX (ah Rep.code e),aX (ah Rep.n e)]at q2;exact ai q2 qD
def yP.sqd(h:yP s k b c t r)(n:Nat):0<=(s.aJ.getD n .z).seq/\(s.aJ.getD n .z).seq<=1000000000:=by
 obtain q|q:=l7 n s.aJ.length
 ·exact h.sq _ (ja q)
 ·rw[bn,List.getElem?_eq_none q];exact⟨dL 0,by decide⟩
end
def aqj(all:List bH)(P:Nat->aN)(R:Nat->Rep)(C:Nat->aF)(B:Nat->Bool)(K:Nat->Int->Int)(hf:aQ 10 [] (dZ (P 0)))(hp:∀ i,i<all.length->aQ 11 [dZ (P i),.d (gY [all.getD i .z]),iV 3] (bI [dZ (P (i+1)),.d (xJ [R i]),iV 0]))(hr:∀ i,i<all.length->aQ 12 [zM (all.getD i .z),iV 3] (bI [jl (C i),.b (B i),iV 0]))(hc:∀ i v,i<all.length->aQ 13 [dZ (P i),iV v] (iV (K i v)))(hl:all.length<=64)(ho:∀ i,i<all.length->yP (P i) (K i) (B i) (C i) (P (i+1)) (R i))(X:Cx e0):T X (Z8 f3) (uY f3 X (λv t=>v = .b true/\t=e0)) ⟨212,[(9,.d (gY all))],⟨[],48⟩⟩:=by
 show T X (.seq _ _) _ _;repeat'(first|((with_reducible refine fP ?_);first|refine Vb (c:=.seq _ (.seq _ (.region 22 _ _))) (λm=>⟨212,[(9,.d (gY all)),(11,.ptr 48 0),(12,iV i),(13,.ptr 49 0),(14,.d (xJ [R i])),(16,.ptr 50 0),(17,.b (B i)),(19,iV m)],⟨[(50,.Wp 8 (λq=>.d (lW (C i) q))),(49,.Wp 7 (λq=>.d (dW (P (i+1)) q))),(48,.Wp 7 (λq=>.d (dW (P i) q)))],51⟩⟩) (P (i+1)).aJ.length ?_ (λm hm=>?_)|refine Vb (c:=.seq _ (.seq _ (.region 15 _ _))) (λi=>⟨212,[(9,.d (gY all)),(11,.ptr 48 0),(12,iV i)],⟨[(48,.Wp 7 (λq=>.d (dW (P i) q)))],49⟩⟩) all.length ?_ (λi hi=>?_)|refine aC ?_|refine bU 16 [11,12] [o2,o2,o2,o2,o2,o2,o2,o2,o2,(0,2,false,[]),(0,2,false,[]),o1,(1,1,true,[]),(2,2,false,[]),(2,2,false,[])] ?_|refine bU 27 [] (ooz 47 []) ?_|refine bU 29 [] (ooz 40 []) ?_)|((conv=>whnf);first|(with_reducible refine fP ?_)|refine mc ?_ ?_|refine aO hf ?_|refine aO (hr i (sO (n:=i) (k:=all.length) aG)) ?_|refine aO (hc i ((P (i+1)).aJ.getD m .z).ax (sO (n:=i) (k:=all.length) aG)) ?_|refine an (sO (n:=m) (k:=(P (i+1)).aJ.length) aG) ?_|refine an (sO (n:=i) (k:=all.length) aG) ?_|refine aj.n (λh=>?_)|refine jd.tell (hp i (sO (n:=i) (k:=all.length) aG)) ⟨agg,VW.sl (by show _=1;omega) (λj hj k hk=>?_),VW.refl tv,tv⟩ ?_|refine aj.mk (λh=>?_) (λh=>?_)|refine ag.a ?_|refine Fin.tell (vq (ah V.b ?_) tv)|refine ag.mk ?_ ?_))
 all_goals(try(refine dm.mk ?_;repeat'(first|exact tv|((conv=>whnf);first|exact rfl|refine af.tell (hp i (sO (n:=i) (k:=all.length) aG)) ⟨agg,VW.sl (by show _=1;omega) (λj hj k hk=>?_),VW.refl tv,tv⟩ ?_|refine an ?_ ?_|refine ag.mk ?_ ?_))))
 all_goals try exact cls
 all_goals(try(refine leq ?_ ?_ <;> repeat'(first|exact tv|exact qV|exact qW|refine jQ qN (λk hk=>?_) ?_|refine an ?_ ?_)))
 all_goals first|exact cm qV|(show pJ (all.getD ((i:Int).toNat+j) .z) k=pJ ([all.getD i .z].getD j .z) k;obtain rfl:j=0:=qo;rw[Nat.add_zero,jg];rfl)|(have hk:k<7:=hk;obtain _|_|_|_|_|_|_|k:=k <;> first|exact cm qV|omega)|(have hk:k<8:=hk;obtain _|_|_|_|_|_|_|_|k:=k <;> first|exact cm qV|omega)|(have h9:=sO (n:=i) (k:=all.length) aG;omega)|(have h9:=sO (n:=i) (k:=all.length) aG;have h8:=sO (n:=m) (k:=(P (i+1)).aJ.length) aG;have h7:=(ho i h9).len;first|omega|(simp only[dM];omega))|(have h9:=sO (n:=i) (k:=all.length) aG;have h8:=sO (n:=m) (k:=(P (i+1)).aJ.length) aG;first|exact((ho i h9).x1 (ja h8) h).elim|exact((ho i h9).x2 (ja h8) h).elim|exact((ho i h9).x3 (ja h8) h).elim|exact λh1=>⟨bT h1,(ho i h9).lt _⟩|exact λh1=>⟨bT (uV h1),(ho i h9).lt _⟩|exact λh1=>⟨bT (uV (uV h1)),(ho i h9).lt _⟩|exact λh1=>⟨bT (uV (uV (uV (uV h1)))),(ho i h9).lt _⟩|exact λ_=>⟨dL 0,by show(0:Int)<1;decide⟩|(intro h1;have q:=(ho i h9).sqd (K i ((P (i+1)).aJ.getD m .z).ax).toNat;simp only[dM];omega))|exact ah (V.gQ 3) (funext λk=>by obtain _|_|_|k:=k <;> rfl)
end
section
attribute [local irreducible] af
def yP.of{s:aN}{o:Option aF}{p:aN×Rep}(h:x8 s o p)(v0:gK s s.version)(v1:gK p.1 p.1.version):yP s (λv=>dE s v) o.isSome (o.getD .z) p.1 p.2 where
 new x hx hk:=by
  obtain⟨h1,c,rfl,h2⟩:=h.new x hx hk;exact⟨h1,rfl,h2⟩
 next x hx hk hs:=by
  obtain⟨h1,c,rfl,h2,h3,h4⟩:=h.next x hx hk hs
  exact⟨h1,h2,h3,h4⟩
 again x hx hk hb hc hs h0:=by
  obtain _|c:=o
  ·cases hb
  ·exact h.again x hx hk c rfl hc hs h0
 lt v:=by
  have:=NF s v;show dE s v<_;omega
 sq x hx:=by
  have:=bT (uV (uV (v0.su x hx)));omega
 len:=⟨by have:=v0.jw.fit.l1;omega,by have:=v1.jw.fit.l1;omega⟩
def aqi(all:List bH)(hg:uX all)(X:Cx e0):T X (Z8 f3) (uY f3 X (λv t=>v = .b true/\t=e0)) ⟨212,[(9,.d (gY all))],⟨[],48⟩⟩:=by
 refine aqj all (λi=>kG (all.take i)) (λi=>(lL (kG (all.take i)) (jJ (all.getD i .z).b)).2) (λi=>(jJ (all.getD i .z).b).getD .z) (λi=>(jJ (all.getD i .z).b).isSome) (λi v=>dE (kG (all.take i)) v) alb (λi hi=>?_) (λi hi=>apR (hg.es _ (axB hi))) (λi v hi=>ade _ v (hg.at i).1) hg.len (λi hi=>?_) X
 ·show aQ 11 [dZ (kG (all.take i)),.d (gY [all.getD i .z]),iV 3] (bI [dZ (kG (all.take (i+1))),.d (xJ [(lL (kG (all.take i)) (jJ (all.getD i .z).b)).2]),iV 0]);rw[Sz hi];exact aqa (hg.at i).1 (hg.es _ (axB hi))
 ·show yP (kG (all.take i)) (λv=>dE (kG (all.take i)) v) _ _ (kG (all.take (i+1))) _;rw[Sz hi];have ho:=hg.once hi;have v0:=(hg.at i).1;have v1:=(hg.at (i+1)).1;rw[Sz hi]at v1;exact yP.of ho v0 v1
def JR(DL:Int)(lM:Nat)(uU:Nat):Prop:=∀ (R:aH->List (Nat×aK)) (hR:∀ C,BD uU (R C)) (hstep:∀ {a n:Nat} {C:aH} {e:cO},gB lM a n C->a<=900->n<=1000000->wG e->af 8 [.ptr 0 0,oL e] ⟨R C,uU⟩ (λv t=>v=iV (jI lM C e).2/\MF uU (R (jI lM C e).1) t)) (hlong:∀ {a n:Nat} {C:aH} {all:List bH},yc lM a n C->uX all->af 9 [.ptr 0 0,iV DL,.d (gY all)] ⟨R C,uU⟩ (λv t=>v = .d (gY (Gj C lM all))/\t=⟨R C,uU⟩)) (m:Int) (U5:af 6 [.d (.v (.int .u8 m))] e0 (λv t=>v=bI [.ptr 0 0,iV DL,.b true]/\t=⟨R (qp lM),uU⟩)) (L0:List cO) (hb:∀ e∈L0,-9223372036854775808<=e.b),af 3 [.d (.v (.int .u8 m)),.d (AV L0)] e0 (λv t=>v = .b true/\t=e0)
def Yp {p:Prop}(h:p:=by
 have hlen:=anv L0;refine ay func3 λX=>?_
 (repeat'(first|((with_reducible refine fP ?_);first|refine Ld (id:=6) ?_|refine Ld (id:=10) ?_|refine T.le (c:=Z8 f3) ⟨212,[(9,.d (gY p.2))],⟨[],48⟩⟩ ?_ (aqi p.2 hp.2 X)|refine OY (c:=.seq (.seq (.region 8 _ _) _) _) (λi (p:aH×List bH)=>⟨212,[(1,.d (AV (rC L0))),(6,.ptr 0 0),(7,iV DL),(9,.d (gY p.2)),(10,iV i)],⟨R p.1,uU⟩⟩) (λi p=>yc lM i i p.1/\uX p.2) (rC L0).length (qp lM,[]) ?_ ?_ (λi p hi hp=>?_)|refine aC ?_)|((conv=>whnf);first|(with_reducible refine fP ?_)|refine wK ?_|refine aO apo ?_|refine af.to U5 ?_|refine aO (anw L0) ?_|refine af.to (hlong (C:=(jI lM p.1 ((rC L0).getD i .z)).1) (all:=p.2) (hp.1.step qo (TJ hb _ (axB (z:=cO.z) (sO (n:=i) (k:=(rC L0).length) aG)))) hp.2) ?_|(refine Ib (args':=[.ptr 0 0,oL ((rC L0).getD i .z)]) ⟨VW.refl qN,VW.agg λq hq=>vq rfl tv,tv⟩ (af.mono (hstep (C:=p.1) (e:=((rC L0).getD i .z)) hp.1.1 qo qo (TJ hb _ (axB (z:=cO.z) (sO (n:=i) (k:=(rC L0).length) aG)))) ?_);rintro v t ⟨rfl,σ,M,hs,hz,rfl⟩)|refine Iu (Ot (nt:=212) (sl2:=[(1,.d (AV (rC L0))),(6,.ptr 0 0),(7,iV DL),(9,.d (gY p.2)),(10,iV i)]) hs qN hz (hR (jI lM p.1 ((rC L0).getD i .z)).1) (λφ hφ=>⟨qV,oG hφ qN,qV,qV,qV,tv⟩)) ?_|refine TO.nil ?_|refine ZZ rfl rfl rfl ?_|refine TO.run rfl rfl ?_|refine an (sO (n:=i) (k:=(rC L0).length) aG) (aZ ((jI lM p.1 ((rC L0).getD i .z)).1,(Gj (jI lM p.1 ((rC L0).getD i .z)).1 lM p.2)) (fM ⟨(hp.1.step qo (TJ hb _ (axB (z:=cO.z) (sO (n:=i) (k:=(rC L0).length) aG)))),(hp.1.step qo (TJ hb _ (axB (z:=cO.z) (sO (n:=i) (k:=(rC L0).length) aG)))).long hp.2⟩ ?_))|refine aj.n (λh=>?_)|refine aj.mk (λh=>?_) (λh=>?_)|refine ag.a ?_|refine ag.mk ?_ ?_)))<;>try exact cls
 all_goals(try(refine bf.mk rfl (cZ _) qN ?_ ?_ <;> repeat'(first|exact tv|exact(hR _).ob 0 rfl rfl rfl|refine an (VW.sl rfl (λj hj=>ai hj nz)) ?_|refine an qV ?_|refine an qW ?_)))
 all_goals first|exact⟨yc.new (by decide),uX.nil⟩|(have h9:=sO (n:=i) (k:=(rC L0).length) aG;omega)):p:=h
section
open K3
def aoS:JR 3 3 48:=by
 unfold JR;intro R hR hstep hlong m U5 L0 hb;exact Yp
end
section
open K4
def aoR:JR 4 4 56:=by
 unfold JR;intro R hR hstep hlong m U5 L0 hb;exact Yp
end
section
open K5
def aoQ:JR 5 5 64:=by
 unfold JR;intro R hR hstep hlong m U5 L0 hb;exact Yp
end
end
section
open Go.ChangeShapes Go.WideShapes Go.ChangeAt Go.RowKit Go.Deep
def asr(m:Int)(hm:0<=m/\m<=255)(L0:List cO)(hb:∀ e∈L0,-9223372036854775808<=e.b):af 3 [.d (.v (.int .u8 m)),.d (AV L0)] e0 (λv t=>v = .b true/\t=e0):=by
 have hr:m % 3=0\/m % 3=1\/m % 3=2:=qO;obtain h|h|h:=hr
 ·exact aoS (CL 3) (λC=>CJ (k:=3) qD) (λh ha hn he=>(NM h ha hn he).mono λv t ⟨e1,e2⟩=>⟨e1,e2.r⟩) (λ{a n C all} h hg=>aqU (CL 3) C (CJ (k:=3) qD) (λi hi=>OC h.1 hi) all (λi hi=>(h.Ph hg hi).len) (λi hi hu=>(h.1.site hi hu).len)) m (aqN m hm h) L0 hb
 ·exact aoR (CL 4) (λC=>CJ (k:=4) qD) (λh ha hn he=>(NM h ha hn he).mono λv t ⟨e1,e2⟩=>⟨e1,e2.r⟩) (λ{a n C all} h hg=>aqT (CL 4) C (CJ (k:=4) qD) (λi hi=>OC h.1 hi) all (λi hi=>(h.Ph hg hi).len) (λi hi hu=>(h.1.site hi hu).len)) m (aqL m hm h) L0 hb
 ·exact aoQ (CL 5) (λC=>CJ (k:=5) qD) (λh ha hn he=>(NM h ha hn he).mono λv t ⟨e1,e2⟩=>⟨e1,e2.r⟩) (λ{a n C all} h hg=>aqS (CL 5) C (CJ (k:=5) qD) (λi hi=>OC h.1 hi) all (λi hi=>(h.Ph hg hi).len) (λi hi hu=>(h.1.site hi hu).len)) m (aqJ m hm h) L0 hb
def aiA(W:World)(m:Int)(hm:0<=m/\m<=255)(a:Option Addr)(len cap:Nat)(L:List cO)(hb:∀ e∈L,-9223372036854775808<=e.b)(hd:jK (λb=>b<W.heap.size) W (AV L) (.slice a len cap)):Calls prog 3 #[.int .u8 m,.slice a len cap] W λe w'=>e = .returned (.bool true)/\Below W.heap.size W w':=by
 refine ajS (asr m hm L hb) W [.int .u8 m,.slice a len cap] rfl λk v u h1 h2=>?_
 obtain _|_|k:=k
 ·injection h1 with h1
  injection h2 with h2
  subst h1 h2;exact rfl
 ·injection h1 with h1
  injection h2 with h2
  subst h1 h2;exact hd
 ·cases h1
end
