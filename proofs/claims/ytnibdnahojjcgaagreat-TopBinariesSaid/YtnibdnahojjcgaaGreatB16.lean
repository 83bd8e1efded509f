/- A part of the proof. -/
import Derived.Test.YtnibdnahojjcgaaGreatB14
namespace Go.Proofs.YtnibdnahojjcgaaGreat
set_option maxRecDepth 100000
set_option maxHeartbeats 16000000
set_option linter.unusedVariables false
set_option linter.unusedSimpArgs false
open Go.RowKit
section
theorem WQ:∀ {l:List Oper} {i j:Nat} {o o':Oper} {d:Nat},JF l=true->l[i]?=some o->l[j]?=some o'->i<j->o.dst=some d->o'.dst≠some d
 |[],_,_,_,_,_,_,h,_,_,_=>by simp at h
 |o0::r,i,j,o,o',d,hb,h1,h2,hij,hd=>by
  simp only[JF,qc,zF]at hb;cases j with
  |zero=>omega
  |succ j=>
   have h2:r[j]?=some o':=by simpa using h2
   cases i with
   |zero=>
    obtain rfl:o0=o:=by simpa using h1
    have:=hb.1 o' (uX h2);intro e;rw[hd,e]at this;simp at this
   |succ i=>exact WQ hb.2 (by simpa using h1) h2 qO hd
theorem acb{l:List Oper}{i j:Nat}{o o':Oper}{d:Nat}(hb:JF l=true)(h1:l[i]?=some o)(h2:l[j]?=some o')(hij:i≠j)(hd:o.dst=some d):o'.dst≠some d:=by
 rcases mP i j with h|h
 ·exact WQ hb h1 h2 h hd
 ·intro e;exact WQ hb h2 h1 qO e hd
theorem PH(a:Act)(x:Option Tmp)(v:Value)(j:Nat)(h:x≠some j):(a.put x v).tmps.getD j undef=a.tmps.getD j undef:=by
 cases x with
 |none=>rfl
 |some d=>
  simp only[Act.put];rw[uy,Array.getElem?_setIfInBounds,if_neg (λe=>h (by rw[e])),<-uy]
theorem abv(a:Act)(d:Nat)(v:Value)(h:d<a.tmps.size):(a.put (some d) v).tmps.getD d undef=v:=by
 simp only[Act.put];rw[uy,Array.getElem?_setIfInBounds,if_pos rfl,if_pos h];rfl
section
variable {t0:ST} {X:Cx t0} {G:Gh} {w w':World} {s:AS} {a:Act} {l:List Oper} {vs:List V} {Ss:List ST} {sigs:List yC} {eff:List Nat} {Q:Exit->Act->World->Prop}
theorem Vq{o:Nat->aG}{n:Nat}:Stp G o w G o { w with drawn:=n }:=
 ⟨rfl,rfl,rfl,bu _,λ_ _ _=>rfl,λ_ h _=>h,λ_ h=>.inl h,λ_ _ h=>.inl h,λ_ _ h=>h,λ_ A c h=>⟨A,c,h,λ_ _ m g ho=>⟨m,g,ho,bu _,λ_=>⟨rfl,rfl⟩⟩⟩⟩
theorem aae{t:ST}{n:Nat}(h:bV G t w):bV G t { w with drawn:=n }:=by
 have hx:Stp G t.get w G t.get { w with drawn:=n }:=Vq;refine⟨⟨λi m g e=>?_,λi E z m g e=>?_,λi es e=>?_,h.aK.wS,h.aK.vK,h.aK.sep⟩,h.jK⟩
 ·obtain⟨b,cs,ty,p1,p2,p3,p4⟩:=h.aK.blk _ _ _ e;exact⟨b,cs,ty,p1,p2,p3,λk x hk=>⟨(p4 k x hk).1,(p4 k x hk).2.dS hx h.aK⟩⟩
 ·obtain⟨p1,p2,p3,A,c,p4,p5⟩:=h.aK.row _ _ _ _ _ e;refine⟨p1,p2,p3,A,c,p4,?_⟩;rcases p5 with p5|⟨p5,b,cs,p6,p7,p8,p9,p10,p11⟩
  ·exact .inl p5
  ·refine .inr ⟨p5,b,cs,p6,p7,p8,p9,p10,λj hj k hk=>?_⟩;obtain⟨x,q1,q2,q3⟩:=p11 j hj k hk;exact⟨x,q1,q2,q3.dS hx h.aK⟩
 ·obtain⟨b,jd,cl,p1,p2,p3⟩:=h.aK.map _ _ e;exact⟨b,jd,cl,p1,p2,p3.dS hx h.aK⟩
theorem ak1(hok:Ou l eff sigs=true)(hvs:vs.length=l.length)(hSs:Ss.length=eff.length+1)(YG:Oc l s vs Ss 0 l sigs vs)(hend:∀ a w,Mod X ⟨s.nt,ru l vs++s.sl,Ss.getD eff.length s.s⟩ a w->Q .normal a w) :
  ∀(fuel:Nat) (listed:Array Bool) (k:Nat) (a:Act) (w:World),Aw listed=fuel->afO X s l eff vs Ss listed k a w->wpAny Tryz.prog .any l.toArray Q fuel listed a w:=by
 have hok2:=hok;simp only[Ou,qc,beq_iff_eq,zF,fC]at hok2;obtain⟨⟨⟨⟨⟨hd,hbk⟩,hlen⟩,aed⟩,arO⟩,hlt⟩:=hok2;have fin:∀ listed k a w,afO X s l eff vs Ss listed k a w->(∀ i,i<l.length->listed.getD i true=true)->Q .normal a w:=by
  intro listed k a w hW hall;have hk:k=eff.length:=by
   rcases mP k eff.length with h|h
   ·have he:=hlt eff[k] (List.getElem_mem h);have:=(hW.at' k eff[k] (by simp[h])).1 (hall _ he);omega
   ·have:=hW.le;omega
  subst hk;obtain⟨G,S,hS,hg,h1,h2,hx,h3,h4⟩:=hW.mod;have e:Ss.getD eff.length s.s=S:=by rw[bC,hS];rfl
  refine hend a w ⟨G,?_,⟨⟨h1,λj=>?_⟩,h2⟩,?_⟩
  ·rw[e];exact hg
  ·show aO G (Ss.getD eff.length s.s).get w _ _;rw[e];rcases VD s.sl j l vs hvs.symm with ⟨q1,q2⟩|⟨i,o,v,q1,q2,q3,q4⟩
   ·rw[show dG (AS.mk s.nt (ru l vs++s.sl) (Ss.getD eff.length s.s)).sl j=dG s.sl j from q2];exact h4 j (λk o hk hd _=>q1 o (uX hk) hd)
   ·rw[show dG (AS.mk s.nt (ru l vs++s.sl) (Ss.getD eff.length s.s)).sl j=v from q4];exact h3 i o j v q1 q2 (hall i (List.getElem?_eq_some_iff.1 q1).1) q3
  ·show Stp X.G X.t.get X.w G (Ss.getD eff.length s.s).get w;rw[e];exact hx
 intro fuel;induction fuel with
 |zero=>
  intro listed k a w hu hW;refine⟨?_,fin listed k a w hW λi _=>PR hu i⟩;refine List.eq_nil_iff_forall_not_mem.2 λj hj=>?_
  have:=(mem_ready.1 hj).1;rw[PR hu j]at this;cases this
 |succ fuel ih=>
  intro listed k a w hu hW;have hs:=hW.size;have JV:=KZ hW.closed l [] [] rfl rfl (by intro k e h;simp[List.getD]at h);constructor
  ·intro hr;have hall:∀ m k,k<m->k<l.length->listed.getD k true=true:=by
    intro m;induction m with
    |zero=>intro k h;omega
    |succ m ih=>
     intro k hkm hkl;by_cases hlt:k<m
     ·exact ih k hlt hkl
     ·obtain rfl:k=m:=qO;cases hg:listed.getD k true with
      |true=>rfl
      |false=>
       exfalso;have hk':l[k]?=some l[k]:=dW hkl;have:k∈Region.ready .any l.toArray listed:=mem_ready.2 ⟨hg,l[k],by simp,λe he hbd=>by
        have hlt:=Ir hbk hk' e he hbd;have:=ih e.on qO qO;rcases mP e.on listed.size with h'|h'
        ·simpa [h'] using this
        ·omega⟩
       rw[hr]at this;cases this
   exact fin listed k a w hW λi hi=>hall (i+1) i qO hi
  ·intro i hi;obtain⟨hun,o,ho,hafter⟩:=mem_ready.1 hi;have ho':l[i]?=some o:=by simpa using ho
   have hil:i<l.length:=(List.getElem?_eq_some_iff.1 ho').1;have hdl:∀ e∈o.after.toList,Region.binds .any e=true->listed.getD e.on true=true:=by
    intro e he hbd;have h1:=hafter e (by simpa using he) hbd;have h2:=Ir hbk ho' e (by simpa using he) hbd;rcases mP e.on listed.size with h'|h'
    ·simpa [h'] using h1
    ·omega
   have RY:∀ e,((vG l []).getD i 0).testBit e=true->e=i\/listed.getD e true=true:=by
    have hc2:Closed l (λk=>k=i\/listed.getD k true=true):=by
     intro k o2 hk hL e he hbd;rcases hL with rfl|hL
     ·rw[hk]at ho';injection ho' with ho'
      subst ho';exact .inr (hdl e he hbd)
     ·exact .inr (hW.closed k o2 hk hL e he hbd)
    exact λe he=>KZ hc2 l [] [] rfl rfl (by intro k e h;simp[List.getD]at h) i e he (.inl rfl)
   have hsig:∃ lo hi fx dp,sigs[i]?=some (lo,hi,fx,dp):=by
    rcases hq:sigs[i]? with _|⟨lo,hi,fx,dp⟩
    ·rw[List.getElem?_eq_none_iff]at hq;omega
    ·exact⟨lo,hi,fx,dp,rfl⟩
   obtain⟨lo,hi',fx,dp,hsig⟩:=hsig;obtain⟨hlo,hhi,hfx⟩:=adU arO hsig;rw[jm]at hlo hhi hfx;have hHi:k<=hi':=by
    unfold Zl at hhi;split at hhi
    ·rename_i e he
     refine Nat.le_of_not_lt λhlt2=>?_
     have hl:=(hW.at' _ e he).2 hlt2;rw[Bool.or_eq_true]at hhi;rcases hhi with h|h
     ·have:=JV e i h hl;simp only[hun]at this;cases this
     ·have:e=i:=by simpa using h
      rw[this,hun]at hl;cases hl
    ·rename_i he
     have:=hW.le;have h3:eff.length<=hi':=by simpa using he
     omega
   have hLo:lo<=k:=by
    unfold Zc at hlo;split at hlo
    ·omega
    ·rename_i j
     split at hlo
     ·rename_i e he
      rcases RY e hlo with h|h
      ·exact au (WX hbk l [] [] rfl rfl (by intro k e h;simp[List.getD]at h) i e hlo) qO
      ·have:=(hW.at' j e he).1 h;omega
     ·cases hlo
   have hv:vs[i]?=some vs[i]:=dW qO;obtain⟨iC,aoS⟩:=aer YG ho' hsig hv;obtain⟨G,S,hS,hg,hnt,hdf,hx,h3,h4⟩:=hW.mod;have hS2:(Ss.drop lo)[k-lo]?=some S:=by rw[sD,show lo+(k-lo)=k by omega];exact hS
   have hst:=aau aoS (k:=k-lo) qO hS2;have Xv:oG G (gq l vs s (0+i) o S) a w:=⟨hnt,λj=>by
    show aO G S.get w (dG (rE l vs o.after.toList++xP (0+i) l s.sl o.op.operands.toList) j) _;rcases VE (xP (0+i) l s.sl o.op.operands.toList) j o.after.toList with h|⟨e,he,hb,o',v,q1,q2,q3,q4⟩
    ·rw[h];rcases Gn l s.sl (0+i) j o.op.operands.toList with h|⟨q1,q2⟩
     ·rw[h];trivial
     ·rw[q2];refine h4 j λk o2 hk ja hlk=>?_
      obtain⟨e,he,hb,hon⟩:=OZ (q1 o2 (uX hk) ja);have:=hW.closed k o2 hk hlk e (by simpa using he) hb;rw[hon,jm,hun]at this;cases this
    ·rw[q4];exact h3 e.on o' j v q1 q2 (hdl e he hb) q3⟩
   refine ZH l.toArray ho hg Xv hst λu V t' G' w' hK lU hst' Ib=>?_
   obtain⟨rfl,ht'⟩:=hK;have hgs:∀ k,(listed.setIfInBounds i true).getD k true=true↔(k=i\/listed.getD k true=true):=by
    intro k;by_cases hki:k=i
    ·subst hki;rw[uy,Array.getElem?_setIfInBounds_self];simp only[true_or,iff_true];split <;> simp
    ·rw[getD_set_ne _ (Ne.symm hki)];simp[hki]
   have hcl:Closed l (λk=>(listed.setIfInBounds i true).getD k true=true):=by
    intro k o2 hk hL e he hbd;rw[hgs]at hL;refine(hgs _).2 (.inr ?_);rcases hL with rfl|hL
    ·rw[hk]at ho';injection ho' with ho'
     subst ho';exact hdl e he hbd
    ·exact hW.closed k o2 hk hL e he hbd
   have hu2:Aw (listed.setIfInBounds i true)=fuel:=by have:=acI listed i hun;omega
   have hmod:∀ k':Nat,Ss[k']?=some t'->∃ G S,Ss[k']?=some S/\bV G S w'/\(a.put o.dst u).tmps.size=s.nt/\(a.put o.dst u).defers=X.ds/\Stp X.G X.t.get X.w G S.get w' /\
     (∀(j:Nat) (o':Oper) (d:Nat) (v:V),l[j]?=some o'->o'.dst=some d->(listed.setIfInBounds i true).getD j true=true->vs[j]?=some v->aO G S.get w' v ((a.put o.dst u).tmps.getD d undef)) /\
     ∀ j,(∀ k o,l[k]?=some o->o.dst=some j->(listed.setIfInBounds i true).getD k true=true->False)->aO G S.get w' (dG s.sl j) ((a.put o.dst u).tmps.getD j undef):=by
    intro k' hk';refine⟨G',t',hk',lU,?_,?_,hx.trans hst',?_,?_⟩
    ·cases o.dst <;> simp[Act.put,hnt]
    ·cases o.dst <;> simp[Act.put,hdf]
    ·intro j o' d v q1 q2 q3 q4;by_cases hji:j=i
     ·subst hji;rw[q1]at ho';injection ho' with ho'
      subst ho';rw[hv]at q4;injection q4 with q4
      rw[q2,abv a d u (by rw[hnt];rw[q2]at iC;exact lS iC),<-q4];exact Ib
     ·rw[PH a o.dst u d (acb hd q1 ho' hji q2)];exact(h3 j o' d v q1 q2 (((hgs j).1 q3).resolve_left hji) q4).dS hst' hg.aK
    ·intro j q;rw[PH a o.dst u j (λe=>q i o ho' e ((hgs i).2 (.inl rfl)))];exact(h4 j λk o2 hk ja pq=>q k o2 hk ja ((hgs k).2 (.inr pq))).dS hst' hg.aK
   cases hf:fx with
   |false=>
    subst hf;have ht':t'=S:=ht';subst ht';have hni:i ∉ eff:=by
     intro hmem;have:eff.contains i=true:=by simpa using hmem
     rw[this]at hfx;cases hfx
    refine ih _ k _ _ hu2 ⟨by simpa using hs,hW.le,?_,hcl,hmod k hS⟩;intro j e he;rw[hgs,<-hW.at' j e he];have hne:e≠i:=λh=>hni (h▸uX he)
    simp[hne]
   |true=>
    subst hf;have hmem:i∈eff:=by simpa using hfx.symm
    obtain⟨j,hj,hij⟩:=List.getElem_of_mem hmem;have hj':eff[j]?=some i:=by rw[dW hj,hij]
    have hjs:¬j<k:=λh=>by
     have:=(hW.at' j i hj').2 h;rw[hun]at this;cases this
    have arT:j=k:=by
     rcases mP k j with h|h
     ·exfalso;have h1:eff[k]?=some (eff[k]'qO):=dW qO;have h2:=Un aed h h1 hj';have h3:=(RY _ h2.1).resolve_left (by have:=h2.2;omega);have:=(hW.at' k _ h1).1 h3;omega
     ·omega
    subst arT;have ht':t'=(Ss.drop lo).getD (j-lo+1) S:=ht';have hn:Ss[j+1]?=some Ss[j+1]:=dW qO;have ht2:Ss[j+1]?=some t':=by
     rw[hn,ht',bC,sD,show lo+(j-lo+1)=j+1 by omega,hn];rfl
    refine ih _ (j+1) _ _ hu2 ⟨by simpa using hs,by omega,?_,hcl,hmod (j+1) ht2⟩;intro j2 e he;rw[hgs,hW.at' j2 e he];constructor
    ·rintro(h|h)
     ·rcases Nat.lt_trichotomy j2 j with h4|h4|h4
      ·omega
      ·omega
      ·have:=(Un aed h4 hj' he).2;omega
     ·omega
    ·intro h;rcases mP j2 j with h4|h4
     ·exact .inr h4
     ·left;obtain rfl:j2=j:=qO;rw[hj']at he;injection he with he
      exact he.symm
def YJ(s:AS)(l:List (Nat×V))(t:ST)(K:AS->Prop):Prop:=match s with
 |⟨nt,sl,_⟩=>MF (l++sl) λsl=>GG t λt=>K ⟨nt,sl,t⟩
theorem ann(s:AS)(l:List (Nat×V))(t:ST)(K:AS->Prop):YJ s l t K=K ⟨s.nt,l++s.sl,t⟩:=by
 obtain⟨nt,sl,t'⟩:=s;exact(PM (l++sl) λsl=>GG t λt=>K ⟨nt,sl,t⟩).trans (Pq t λt=>K ⟨nt,l++sl,t⟩)
theorem at7{id:Nat}{ops:Array Oper}{Q:Exit->AS->Prop}(eff:List Nat)(sigs:List yC)(hm:Tryz.prog.follows .mixedOrders=true)(hok:Ou ops.toList eff sigs=true)
  (h:EY ops.toList s ops.toList sigs [] [] s.s λvs Ss=>X5 ops.toList eff vs Ss (ag (Oc ops.toList s vs Ss 0 ops.toList sigs vs/\Ss.head?=some s.s) (YJ s (ru ops.toList vs) (Ss.getD eff.length s.s) (Q .normal)))):T X (.region id ops true) Q s:=T.mk λa w hmod=>by
 obtain⟨vs,Ss,h⟩:=Ve _ _ _ _ _ _ h;unfold X5 at h;split at h;rotate_left
 ·exact h.elim
 rename_i e1 e2
 obtain⟨⟨YG,hhd⟩,hq⟩:=h.h;rw[ann]at hq;refine wp_region_any hm ?_;have e:ops=ops.toList.toArray:=by simp
 have hlen:∀ e∈eff,e<ops.toList.length:=by
  simp only[Ou,qc,zF,fC]at hok;exact hok.2
 have key:=ak1 (X:=X) (Q:=λe a' w'=>∃ s',Q e s'/\Mod X s' a' w') hok (dH e1) (dH e2) YG (λa w hm=>⟨_,hq,hm⟩) ops.toList.length (Array.replicate ops.toList.length false) 0 a { w with drawn:=w.drawn+1 } (acJ _) ⟨by simp,cu _,λj e he=>by
   have:=hlen e (uX he);have h2:e<ops.size:=by simpa using this
   simp[h2],λk o hk hl=>by
   have:=(List.getElem?_eq_some_iff.1 hk).1;have h2:k<ops.size:=by simpa using this
   simp[h2]at hl,?_⟩
 ·rw[<-e]at key;simpa using key
 ·obtain⟨G,hg,hs,hx⟩:=hmod;have hh:Ss[0]?=some s.s:=by rw[<-List.head?_eq_getElem?];exact hhd
  have hd:Stp G s.s.get w G s.s.get { w with drawn:=w.drawn+1 }:=Vq;refine⟨G,s.s,hh,aae hg,hs.nt,hs.df,hx.trans hd,λi o d v h1 h2 h3 h4=>?_,λj _=>(hs.sl j).dS hd hg.aK⟩;have:=(List.getElem?_eq_some_iff.1 h1).1;have h2:i<ops.size:=by simpa using this
  simp[h2]at h3
end
end
end Go.Proofs.YtnibdnahojjcgaaGreat
