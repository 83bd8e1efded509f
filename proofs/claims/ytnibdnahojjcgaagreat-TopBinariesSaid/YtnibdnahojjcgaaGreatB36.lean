/- A part of the proof. -/
import Derived.Test.YtnibdnahojjcgaaGreatB32
import Derived.Test.YtnibdnahojjcgaaGreatB33
import Derived.Test.YtnibdnahojjcgaaGreatB34
namespace Go.Proofs.YtnibdnahojjcgaaGreat
set_option maxRecDepth 100000
set_option maxHeartbeats 16000000
set_option linter.unusedVariables false
set_option linter.unusedSimpArgs false
open Go.RowKit
def rP(l:List Int)(v:Int):Nat->List Int
 |0=>l
 |i+1=>(rP l v i).set i v
theorem yG(l:List Int)(v:Int):∀ i,(rP l v i).length=l.length
 |0=>rfl
 |i+1=>by
  show((rP l v i).set i v).length=_;rw[oK,yG l v i]
def pg(n:az):Int:=(n.ah.log.length:Int)+1
def gQ(n:az)(i:Nat):az:={ n with dn:=2,next:=rP n.next (pg n) i,fJ:=rP n.fJ 0 i }
theorem arJ(n:az)(i j k:Nat):yX (gQ n i) k=yX (gQ n j) k:=by
 have h1:(gQ n i).next.length=(gQ n j).next.length:=(yG n.next (pg n) i).trans (yG n.next (pg n) j).symm
 have h2:(gQ n i).fJ.length=(gQ n j).fJ.length:=(yG n.fJ 0 i).trans (yG n.fJ 0 j).symm;rcases k with _|_|_|_|_|_|_|_|_|_|_|_|_|_|_|_|_|_|_|_|_|_|k
 all_goals first|rfl|exact gz (V.row 6) h1|exact gz (V.row 7) h2
def lF(n:az):List aT:=[⟨3,pg n,n.ah.term,[]⟩]
def Ad(n:az)(m:Nat):az×List aP×Int:=
 bif decide (pg n<=64) then (bif !decide ((aW (gQ n m) (lF n)).2=0) then ((aW (gQ n m) (lF n)).1,[],(aW (gQ n m) (lF n)).2) else ((aW (gQ n m) (lF n)).1,(mf (aW (gQ n m) (lF n)).1 m).1,(mf (aW (gQ n m) (lF n)).1 m).2))
 else (gQ n m,(mf (gQ n m) m).1,(mf (gQ n m) m).2)
theorem I5{l:List Int}{p:Nat}{v:Int}{g:Nat->V}(hp:p<l.length){j k:Nat}(hk:k<1)(e:g 0=iV v):lN (λj k=>V.d (iD (l.getD j 0))) p 0 1 g j k=V.d (iD ((l.set p v).getD j 0)):=by
 obtain rfl:k=0:=Nat.lt_one_iff.1 hk;unfold lN;rcases hb:Nat.beq j p with _|_
 ·have:j≠p:=λe=>by subst e;simp at hb
  rw[show(l.set p v).getD j 0=l.getD j 0 by rw[bC,List.getElem?_set_ne (λe=>this e.symm),bC]];rfl
 ·have:=dH hb;subst this;rw[show(l.set j v).getD j 0=v by rw[bC,List.getElem?_set_self hp];rfl];exact e
theorem amx(n:az)(m:Nat)(hm:n.many=m)(h5:m<=5)(hl:n.ah.log.length<=1000)(hx:n.next.length=m)(hy:n.fJ.length=m)(hn:vI n)(hL:pg n<=64->lM (gQ n m).ah (lF n))(Ic:pg n<=64->(aW (gQ n m) (lF n)).1.aA.down=false->(aW (gQ n m) (lF n)).1.dn=2->∀ d∈gY (aW (gQ n m) (lF n)).1 m,wI (aW (gQ n m) (lF n)).1 d)(ja:(gQ n m).aA.down=false->(gQ n m).dn=2->∀ d∈gY (gQ n m) m,wI (gQ n m) d):ae 164 [.ptr 0 0] (NS n) (NR (Ad n m)):=by
 refine asz Tryz.func164 λX=>?_
 (repeat' (first|refine T.cut (x:=.seq (.region 3 _ _) _) ⟨64,[(0,.ptr 0 0),(4,iV (pg n))],NS (gQ n m)⟩ ?_ ?_|refine att (id:=9) (pre:=(mW Tryz.f164 9).toList.take 10) (vH:=(mW Tryz.f164 9).toList.drop 10) rfl rfl ?_|refine oz ?_|refine asD 6 [16,18] [o0,o0,o0,o0,o0,o0,o0,o0,o0,o0,o0,o0,o0,o2,o0,o0,o1,o3,(1,1,true,[])] ?_|refine mc ?_ ?_|refine aU _ (ed (((Conv.le (s2:=⟨64,[(0,.ptr 0 0),(4,iV (pg n)),(46,.ptr 0 0),(55,.row 8 1)],⟨NL (gQ n m)++[(8,dw 138 4 oH .z (lF n))],9⟩⟩) ?_).trans (Conv.dC (i:=8) (h:=λj=>oH ((lF n).getD j .z)) (jB.of (n:=1) (z:=4) (E:=138) qN rfl fr))).trans (Conv.le (s2:=⟨64,[(0,.ptr 0 0),(4,iV (pg n)),(46,.ptr 0 0),(55,.d (iq (lF n)))],NS (gQ n m)⟩) ?_)) ?_)|refine asH [0,1,2,3,4,5,6,7] (Dc (gQ n m) (lF n) (hL (aS aj)) ⟨hn.ok,hn.up,hn.keep⟩) ?_|(refine nT.mk (p:=(!decide ((aW (gQ n m) (lF n)).2=0))=false) ?_ ?_;exact h;refine asH [0,1,2,3,4,5,6,7] (Qz (aW (gQ n m) (lF n)).1 m hm h5 (Ic (aS aj))) ?_)|refine asH [0,1,2,3,4,5,6,7] (Qz (gQ n m) m hm h5 ja) ?_|refine asI m (λi (a:Unit)=>⟨64,[(0,.ptr 0 0),(4,iV (pg n)),(22,iV m),(23,iV i)],NS (gQ n i)⟩) (λ_ _=>True) () ?_ True.intro (λi a hi hp=>?_)|refine aU () ⟨?_,tv,?_⟩|refine ai.mk (λh=>?_) (λh=>?_)|refine ag.a ?_|(refine nT.mk (p:=(!decide ((aW (gQ n m) (lF n)).2=0))=true) ?_ ?_;exact h;refine NR.of (p:=((aW (gQ n m) (lF n)).1,[],(aW (gQ n m) (lF n)).2)) ?_ (asC qN qN (asG [.d (gu []),iV ((aW (gQ n m) (lF n)).2)] rfl fr vw) ?_))|(refine nT.mk (p:=(!decide ((aW (gQ n m) (lF n)).2=0))=false) ?_ ?_;exact h;refine NR.of (p:=((aW (gQ n m) (lF n)).1,(mf (aW (gQ n m) (lF n)).1 m).1,(mf (aW (gQ n m) (lF n)).1 m).2)) ?_ (asC qN qN (asG [.d (gu (mf (aW (gQ n m) (lF n)).1 m).1),iV (mf (aW (gQ n m) (lF n)).1 m).2] rfl fr vw) ?_))|refine NR.of (p:=((gQ n m),(mf (gQ n m) m).1,(mf (gQ n m) m).2)) ?_ (asC qN qN (asG [.d (gu (mf (gQ n m) m).1),iV (mf (gQ n m) m).2] rfl fr vw) ?_)|refine ag.mk ?_ ?_))<;>(try(refine dh.mk ?_;repeat' (first|exact tv|exact rfl|refine an ?_ ?_|refine ag.mk ?_ ?_)))
 all_goals try exact aB
 all_goals (try(refine aV.mk rfl qN qN ?_ ?_ <;> repeat' (first|exact tv|exact qV|exact qW|refine vq (gz iV ?_) tv|refine an ⟨nb rfl,asE rfl (λk hk=>asB ?_)⟩ ?_|refine an ⟨nb rfl,af.row ?_ (λj hj k hk=>asB ?_)⟩ ?_|refine an ?_ ?_)))
 all_goals first|exact rfl|exact cm qV|exact hm|(have hk:k<23:=hk;exact cm (vq (arJ n _ _ k) (LJ qN _ k hk)))|(unfold Ad;simp only[*,dR,di];done)|(have e:i=m:=(by have h9:=bJ (aj:decide ((i:Int)<(m:Int))=false);omega);subst e;first|exact rfl|exact cm qV)|(have h9:i<m:=(by have h9:=aS (aj:decide ((i:Int)<(m:Int))=true);omega);first|(refine⟨rfl,?_,bu _⟩;show i<(rP _ _ i).length;rw[yG];omega)|(show(i:Int)<((rP _ _ i).length:Int);rw[yG];omega)|(show i<(rP _ _ i).length;rw[yG];omega)|exact cm (vq (I5 (p:=i) (l:=rP n.next (pg n) i) (by rw[yG];omega) hk rfl) tv)|exact cm (vq (I5 (p:=i) (l:=rP n.fJ 0 i) (by rw[yG];omega) hk rfl) tv)|(show(rP _ _ i).length=(rP _ _ (i+1)).length;rw[yG,yG])|omega)|exact qM|exact kk|(have hk:k<4:=hk;obtain rfl:j=0:=Nat.lt_one_iff.1 hj;rcases k with _|_|_|_|k <;> first|exact cm qV|exact cm (asQ rfl)|omega)
section
theorem aah{t:ST}{K:ST->Prop}(h:K t):GG t K:=by rw[Pq];exact h
section
variable {n N:Nat} {σ:Nat->Nat}
theorem aoz{l:List (Nat×aG)}(hs:Sg n σ N)(hd:ik (kF l)=true)(hl:mJ n l):o9 n (bZ ((List.range n).map σ)) ⟨ig σ l,N⟩ ((List.range n).map σ) l:=by
 have hidx:∀ i,i<n->bZ ((List.range n).map σ) (σ i)=some i:=λi hi=>oL hs.nodup (IY i hi)
 have key:∀ q:List (Nat×aG),(∀ p∈q,p∈l)->o9 n (bZ ((List.range n).map σ)) ⟨ig σ l,N⟩ ((List.range n).map σ) q:=by
  intro q;induction q with
  |nil=>exact λ_=>True.intro
  |cons p r ih=>
   intro hq;obtain⟨i,o⟩:=p;refine⟨?_,ih λp hp=>hq p (je _ hp)⟩;have hm:=hq _ jC;have hi:i<n:=yJ hl _ hm;have hlook:dM l i=o:=Et hd _ hm;refine⟨σ i,IY i hi,?_⟩;have e:(⟨ig σ l,N⟩:ST).get (σ i)=vV σ o:=by rw[<-hlook];exact P9 hs (λp hp=>yJ hl p hp) i hi
   rw[e,U1];rcases xC hl i with h0|⟨h0,h2⟩
   ·have ho:o = .dead:=hlook.symm.trans h0;subst ho;exact True.intro
   ·rw[hlook]at h2;exact atp (P:=λi=>i<n) (λk hk=>⟨hk,hidx k hk⟩) h2
 exact key l λp hp=>hp
theorem afu:∀(l:List Nat) (k:Nat),NP 0 k l=true
 |[],_=>rfl
 |x::r,k=>by
  show((bif Nat.blt k 0 then Nat.beq x k else true)&&NP 0 (k+1) r)=true;rw[afu r (k+1),show Nat.blt k 0=false by rw[yE,ne_eq,Nat.blt_eq];omega];rfl
theorem KE.of{nt:Nat}{sl sl2:List (Nat×V)}{l:List (Nat×aG)}(hs:Sg n σ N)(hd:ik (kF l)=true)(hl:mJ n l)(h:∀ φ:Nat->Option Nat,(∀ i,i<n->φ (σ i)=some i)->Ot n φ ⟨nt,sl,⟨ig σ l,N⟩⟩ sl2):KE 0 ((List.range n).map σ) ⟨nt,sl,⟨ig σ l,N⟩⟩ ⟨nt,sl2,⟨l,n⟩⟩:=
 ⟨rfl,by show n=_;rw[lJ,List.length_range],hs.nodup,afu _ _,aoz hs hd hl,h _ λi hi=>oL hs.nodup (IY i hi)⟩
end
section
variable {t0:ST} {X:Cx t0} {Q:Exit->AS->Prop} {s s2:AS}
theorem Conv.Ec{aC:List Nat}(hr:KE t0.nx aC s s2):Conv X s s2:=⟨λa w hm=>hm.Ec hr⟩
@[irreducible] def TO {t0:ST} (X:Cx t0) (ops:Array Oper) (rest:List Oper) (Q:Exit->AS->Prop) (s:AS):Prop:=
 ∀ i,ops.toList.drop i=rest->∀ a w,Mod X s a w->wpOps Tryz.prog ops (λe a' w'=>∃ s',Q e s'/\Mod X s' a' w') (List.range' i rest.length) a w
theorem TO.h{ops:Array Oper}{rest:List Oper}(h:TO X ops rest Q s):∀ i,ops.toList.drop i=rest->∀ a w,Mod X s a w->wpOps Tryz.prog ops (λe a' w'=>∃ s',Q e s'/\Mod X s' a' w') (List.range' i rest.length) a w:=by unfold TO at h;exact h
theorem TO.mk{ops:Array Oper}{rest:List Oper}(h:∀ i,ops.toList.drop i=rest->∀ a w,Mod X s a w->wpOps Tryz.prog ops (λe a' w'=>∃ s',Q e s'/\Mod X s' a' w') (List.range' i rest.length) a w):TO X ops rest Q s:=by unfold TO;exact h
theorem atC{id:Nat}{ops:Array Oper}(h:TO X ops ops.toList Q s):T X (.region id ops false) Q s:=T.mk λa w hm=>by
 refine wp_region ?_;have:=h.h 0 rfl a w hm;rwa [<-List.range_eq_range',qX]at this
theorem TO.nil{ops:Array Oper}(h:Q .normal s):TO X ops [] Q s:=TO.mk λi hi a w hm=>⟨s,h,hm⟩
theorem atm{ops:Array Oper}{rest:List Oper}(h:Conv X s s2)(k:TO X ops rest Q s2):TO X ops rest Q s:=TO.mk λi hi a w hm=>k.h i hi a w (h.c a w hm)
theorem auz{ops:Array Oper}{o:Oper}{r:List Oper}(hw:∀ a w,Mod X s a w->Region.wanted o (yielded ops a.tmps)=true)(hf:s.fits o.dst=true)(h:dD ag ae o.op s (λv t=>TO X ops r Q (s.put o.dst v t))):TO X ops (o::r) Q s:=TO.mk λi hi a w hm=>by
 have hlt:i<ops.toList.length:=by
  rcases mP i ops.toList.length with h1|h1
  ·exact h1
  ·rw[List.drop_of_length_le h1]at hi;cases hi
 have ho:ops[i]?=some o:=by
  rw[List.drop_eq_getElem_cons hlt]at hi;injection hi with h1 h2
  rw[<-qE,dW hlt,h1]
 have hr:ops.toList.drop (i+1)=r:=by
  rw[List.drop_eq_getElem_cons hlt]at hi;injection hi
 rw[ny,List.range'_succ];unfold wpOps;rw[ho];simp only;rw[if_pos (hw a w hm)];obtain⟨G,hg,hs,hx⟩:=hm;refine .inl ?_;have hres:=Qv (M:=ag) (gd:=True) (o:=o) (λp q h=>⟨h.h.2,λ_=>h.h.1⟩) trivial hg hs.tooG h;refine yF (hres.step hx hs hg hf) (λa' w' hh=>?_) (λ_ _ _ h=>h.elim);obtain⟨x,t',hk,hm'⟩:=hh;exact hk.h (i+1) hr a' w' hm'
theorem TO.run{ops:Array Oper}{o:Oper}{r:List Oper}(hg:o.guard=none)(hf:s.fits o.dst=true)(h:dD ag ae o.op s (λv t=>TO X ops r Q (s.put o.dst v t))):TO X ops (o::r) Q s:=
 auz (λa w hm=>by unfold Region.wanted;rw[hg]) hf h
theorem avd{ops:Array Oper}{o:Oper}{r:List Oper}{j d:Nat}{w1:Bool}(hg:o.guard=some (j,w1))(hd:(ops.toList[j]?).map (·.dst)=some (some d))(hv:dG s.sl d = .b w1)(hf:s.fits o.dst=true)(h:dD ag ae o.op s (λv t=>TO X ops r Q (s.put o.dst v t))):TO X ops (o::r) Q s:=
 auz (λa w hm=>by
  obtain⟨G,hgd,hs,hx⟩:=hm;obtain⟨t,ht,hw⟩:=WJ (K:=λt=>t=w1) hs.tooG hg hd (by rw[hv];exact rfl);rw[hw,ht];cases w1 <;> rfl) hf h
theorem auu{ops:Array Oper}{o:Oper}{r:List Oper}{ty n:Nat}{ps:Array (Nat×Operand)}(hop:o.op = .buildSlice ty n ps)(hg:o.guard=none)(hf:s.fits o.dst=true)(h:Bg ty n ps.toList s (λv=>TO X ops r Q (s.put o.dst v s.s))):TO X ops (o::r) Q s:=TO.mk λi hi a w hm=>by
 have hlt:i<ops.toList.length:=by
  rcases mP i ops.toList.length with h1|h1
  ·exact h1
  ·rw[List.drop_of_length_le h1]at hi;cases hi
 have ho:ops[i]?=some o:=by
  rw[List.drop_eq_getElem_cons hlt]at hi;injection hi with h1 h2
  rw[<-qE,dW hlt,h1]
 have hr:ops.toList.drop (i+1)=r:=by
  rw[List.drop_eq_getElem_cons hlt]at hi;injection hi
 rw[ny,List.range'_succ];unfold wpOps;rw[ho];simp only;rw[if_pos (by unfold Region.wanted;rw[hg])];obtain⟨G,hgd,hs,hx⟩:=hm;refine .inl ?_;obtain⟨cells,hrun,D,hk,hd⟩:=ZZ hgd hs.tooG h;obtain⟨h1,h2⟩:=Ll hgd ((Below.refl w.heap.size w).alloc (bu _) (.cells cells (tI ty).elem));unfold Oper.wp Oper.upon execOp;simp only[hop,Sem.run_bind,hrun,Result.andThen_ok,Sem.run_pure];exact hk.h (i+1) hr _ _ (LK hx hs hgd.aK h1 h2 hf (hd _ (λb hb=>.inl hb) (.inr ⟨bu _,by simp⟩)))
theorem atA{α:Type}{c:Code}(S:Nat->α->AS)(P:Nat->α->Prop)(n:Nat)(a0:α)(hp:P 0 a0)(h0:aV t0.nx s (S 0 a0))(hr:∀ i a,i<=n->P i a->T X c (λe s'=>match e with|.normal=>i<n/\∃ b,P (i+1) b/\aV t0.nx s' (S (i+1) b)|e=>Q e s') (S i a)):T X (.loop c) Q s:=
 T.loop (ι:={ p:Nat×α // p.1<=n/\P p.1 p.2 }) (λp=>S p.1.1 p.1.2) (λp=>n-p.1.1) ⟨(0,a0),cu _,hp⟩ h0 λ⟨(i,a),hi,ha⟩=>T.mono (hr i a hi ha) λe s' h=>by
  cases e
  case normal=>
   obtain⟨h1,b,h2,h3⟩:i<n/\∃ b,P (i+1) b/\aV t0.nx s' (S (i+1) b):=h;exact⟨⟨(i+1,b),h1,h2⟩,h3,by show n-(i+1)<n-i;omega⟩
  all_goals exact h
end
end
theorem ao5{c:aI}{v:Int}(h:fZ c v):SQ (eG 1 v) (gJ c v):=by
 have hr:=IL h;have hc:=aeq h;obtain⟨s1,s2,s3⟩:=adS h.v1 h.v3;refine⟨GH h,s1,s2,λi hi j hj he=>?_,λj hj hn=>?_,λj hj=>?_⟩
 ·have hf:=hr.aK _ (iT (z:=.z) hi);have hs:=(s3 _ (iT (z:=.z) hj)).1;rcases hf with ⟨h1,h2,h3,h4,h5,h6⟩|⟨h1,h2,h3,h4,h5,h6,h7⟩ <;> rcases hs with ⟨g1,g2,g3⟩|⟨g1,g2,g3⟩
  ·exact⟨h1.trans g3.symm,λ_=>by omega,λe=>by omega⟩
  ·omega
  ·omega
  ·exact⟨h1.trans g3.symm,λe=>by omega,λ_=>h6⟩
 ·have:=hc.kz j hj hn;rwa [XB]at this
 ·have:=aao hr.Au ((eG 1 v).getD j .z).num;unfold xq;omega
theorem amg{a:aI}{f:aY}(h:MV f)(h6:f.num<=6){k:Nat}(hk:k<7):nU (λk=>iV (Ko a k)) (0+f.num.toNat*1) 1 (λ_=>iV (min (f.n:Int) 1048577)) k=iV (Ko (nY a f) k):=by
 obtain⟨h1,h2,h3⟩:=h;have hn:=h2 h6;rw[show min (f.n:Int) 1048577=f.n by omega];obtain⟨num,aJ,n,b⟩:=f;simp only at *;rcases(show num=1\/num=2\/num=3\/num=4\/num=5\/num=6 by omega) with rfl|rfl|rfl|rfl|rfl|rfl <;> (rcases k with _|_|_|_|_|_|_|k) <;> first|rfl|omega
theorem ajc{a:aI}{f:aY}(h6:¬f.num<=6)(k:Nat):Ko (nY a f) k=Ko a k:=by
 unfold nY;rw[if_neg qO,if_neg qO,if_neg qO,if_neg qO,if_neg qO,if_neg qO];split
 ·rcases k with _|_|_|_|_|_|_|k <;> rfl
 ·split
  ·rcases k with _|_|_|_|_|_|_|k <;> rfl
  ·rfl
theorem ajb{a:aI}{f:aY}(h:MV f)(h7:¬f.num=7)(h8:¬f.num=8)(k:Nat):Cj (nY a f) k=Cj a k:=by
 obtain⟨h1,h2,h3⟩:=h;obtain⟨num,aJ,n,b⟩:=f;simp only at *;rcases(show num=1\/num=2\/num=3\/num=4\/num=5\/num=6 by omega) with rfl|rfl|rfl|rfl|rfl|rfl <;> (rcases k with _|_|_|_|_|_|_|_|k) <;> rfl
theorem apT{a:aI}{f:aY}(h7:f.num=7){k:Nat}:nU (λk=>.d (Cj a k)) (0+6) 1 (λ_=>.d (iH (xO f.b))) k = .d (Cj (nY a f) k):=by
 obtain⟨num,aJ,n,b⟩:=f;simp only at *;subst h7;rcases k with _|_|_|_|_|_|_|_|k <;> first|rfl|(unfold nU;simp[Cj,nY];done)
theorem apS{a:aI}{f:aY}(h8:f.num=8){k:Nat}:nU (λk=>.d (Cj a k)) (0+7) 1 (λ_=>.str (BO f.b.length (λj _=>.d (fO (f.b.getD j 0))))) k = .d (Cj (nY a f) k):=by
 rw[show BO f.b.length (λj _=>.d (fO (f.b.getD j 0)))=iU f.b from Qn _];obtain⟨num,aJ,n,b⟩:=f;simp only at *;subst h8;rcases k with _|_|_|_|_|_|_|_|k <;> first|rfl|(unfold nU;simp[Cj,nY];done)
theorem ai1(c:aI)(v:Int)(hc:fZ c v):aQ 41 [.d (dB (gU c)),iV v] (bQ [jI c,.d (iW []),iV 0]):=by
 have hf:∀ i,i<(gJ c v).length->MV ((gJ c v).getD i .z):=λi hi=>anE hc _ (by rw[<-Dh hc];exact iT hi)
 have hl8:=IM c v;refine asz Tryz.func41 λX=>?_
 (repeat' (first|(have ea:(lu ((gJ c v).take i))=c:=(by rw[lW (by have h9:=bJ (aj:decide ((i:Int)<((gJ c v).length:Int))=false);omega)];exact adE hc);rw[ea];refine T.le (c:=.seq (.region 22 _ _) _) ⟨119,[(0,.d (dB (gU c))),(1,iV v),(4,.ptr 0 0),(10,.d (iW [])),(11,.ptr 1 0),(12,.ptr 2 0)],⟨[(0,.blk 8 (λ_=>.top)),(1,.blk 7 (λk=>iV (Ko c k))),(2,.blk 8 (λk=>.d (Cj c k)))],3⟩⟩ ?_ (T.seq ?_))|refine asI (gJ c v).length (λi (a:Unit)=>⟨119,[(0,.d (dB (gU c))),(1,iV v),(4,.ptr 0 0),(9,.d (iW (gJ c v))),(10,.d (iW [])),(11,.ptr 1 0),(12,.ptr 2 0),(13,iV i)],⟨[(0,.blk 8 (λ_=>.top)),(1,.blk 7 (λk=>iV (Ko (lu ((gJ c v).take i)) k))),(2,.blk 8 (λk=>.d (Cj (lu ((gJ c v).take i)) k)))],3⟩⟩) (λ_ _=>True) () ?_ True.intro (λi a hi hp=>?_)|refine au1 160 rfl rfl rfl rfl rfl rfl ?_|refine oz ?_|refine ai.mk (λh=>au ((show(!dN v 1 3)=false by rw[hc.TU];rfl).symm.trans h) (by decide)) (λh=>?_)|refine ai.mk (λh=>au ((aeK (b:=gU c)).symm.trans h) (by decide)) (λh=>?_)|refine asA (yL v 1 3) ?_|refine ae.tell (ahB (gJ c v) (GH hc)) ⟨vq (gz (λl=>V.d (dB l)) (XC hc).symm) tv,tv⟩ ?_|refine asA (ajd v hc.v1 hc.v3 (gJ c v) (ao5 hc)) ?_|refine asA (aoo v hc.v1 hc.v3) ?_|refine asA (ahD (gJ c v) (Fa 1 v) (by have:=IM c v;omega) (λi hi=>ack hc _ (iT hi))) ?_|refine asA (agD ((hf i (by have h9:=aS (aj:decide ((i:Int)<((gJ c v).length:Int))=true);omega)).ok.ch (aS aj))) ?_|refine asA (al0 c v hc) ?_|refine aU () ⟨?_,tv,?_⟩|(have h8:=aS (aj:decide (((gJ c v).getD ((i:Int)).toNat .z).num<=6)=true);refine ai.n (λh=>?_))|(have h8:=aS (aj:decide (((gJ c v).getD ((i:Int)).toNat .z).num=7)=true);refine ai.n (λh=>?_))|refine ai.n (λh=>?_)|refine ai.mk (λh=>?_) (λh=>?_)|refine ag.a ?_|refine asM rfl vw|refine ag.mk ?_ ?_))<;>try exact aB
 all_goals (try(refine aV.mk rfl qN qN ?_ ?_ <;> repeat' (first|exact tv|exact qV|exact qW|refine an ⟨nb rfl,asE rfl (λk hk=>asB ?_)⟩ ?_|refine an ?_ ?_)))
 all_goals first|exact cm qV|exact(λj hj=>⟨_,rfl⟩)|exact cm VW.top|(have h9:i<(gJ c v).length:=(by have h9:=aS (aj:decide ((i:Int)<((gJ c v).length:Int))=true);omega);have q:1<=((gJ c v).getD ((i:Int)).toNat .z).num/\((gJ c v).getD ((i:Int)).toNat .z).num<=8:=(hf i h9).num;have q2:=aS (aj:decide (((gJ c v).getD ((i:Int)).toNat .z).num<=6)=true);first|(show 0<=((gJ c v).getD ((i:Int)).toNat .z).num/\((gJ c v).getD ((i:Int)).toNat .z).num<((7:Nat):Int);omega)|(show 0+((gJ c v).getD ((i:Int)).toNat .z).num.toNat*1+1<=7;omega))|(have h9:i<(gJ c v).length:=(by have h9:=aS (aj:decide ((i:Int)<((gJ c v).length:Int))=true);omega);have hg:=hf i h9;have q:=hg.num;first|omega|(rw[AQ h9];first|exact cm (vq (amg hg (aS aj) hk) tv)|exact cm (vq (apT (aS aj)) tv)|exact cm (vq (apS (aS aj)) tv)|(rw[ajc (bJ aj)];exact cm qV)|(rw[ajb hg (bJ aj) (bJ aj)];exact cm qV)))|(have hk:k<8:=hk;rcases k with _|_|_|_|_|_|_|_|k;all_goals first|exact cm qV|exact cm (asQ rfl)|omega)|(have hk:k<7:=hk;rcases k with _|_|_|_|_|_|_|k;all_goals first|exact cm qV|omega)
theorem ai2(t:Int)(c:aI)(v:Int)(hc:fZ c v):aQ 12 [yj ⟨t,gU c⟩,iV v] (bQ [jI c,.b true,iV 0]):=by
 refine asz Tryz.func12 λX=>?_
 (repeat' (first|refine oz ?_|refine asA (ai1 c v hc) ?_|refine asA (P8 c.kind) ?_|refine ai.mk (λh=>au ((show(bif decide (v<1) then true else decide (3<v))=false by rw[aX (by have:=hc.v1;omega),aX (by have:=hc.v3;omega)];rfl).symm.trans h) (by decide)) (λh=>?_)|refine ai.mk (λh2=>au (aS h2) (by have:=(KJ hc).1;show ¬(((gU c).length:Int)=0);omega)) (λh=>?_)|refine ai.mk (λh=>au ((show(bif decide (lC c.kind=0) then true else decide (v<lC c.kind))=false by rw[aX hc.kz,aX (show ¬v<lC c.kind by have:=hc.le;omega)];rfl).symm.trans h) (by decide)) (λh=>?_)|refine ai.n (λh=>?_)|refine ag.a ?_|refine asM rfl vw))<;>try exact aB
theorem ai3(t:Int)(v:Int)(h1:1<=v)(h3:v<=3):aQ 12 [yj ⟨t,[]⟩,iV v] (bQ [jI aI.z,.b false,iV 0]):=by
 refine asz Tryz.func12 λX=>?_
 (repeat' (first|refine oz ?_|refine ai.mk (λh=>au ((show(bif decide (v<1) then true else decide (3<v))=false by rw[aX (by omega),aX (by omega)];rfl).symm.trans h) (by decide)) (λh=>?_)|refine asL (λh=>?_)|refine ag.a ?_|refine asM rfl ⟨asK (by repeat' (first|exact tv|exact qV|exact VW.dE|refine an ?_ ?_)),VW.refl tv,VW.refl tv,tv⟩))<;>try exact aB
end Go.Proofs.YtnibdnahojjcgaaGreat
