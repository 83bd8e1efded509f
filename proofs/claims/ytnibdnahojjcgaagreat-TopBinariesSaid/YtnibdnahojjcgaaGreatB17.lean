/- A part of the proof. -/
import Derived.Test.YtnibdnahojjcgaaGreatB15
import Derived.Test.YtnibdnahojjcgaaGreatB16
namespace Go.Proofs.YtnibdnahojjcgaaGreat
set_option maxRecDepth 100000
set_option maxHeartbeats 16000000
set_option linter.unusedVariables false
set_option linter.unusedSimpArgs false
open Go.RowKit
section
section
variable {f:Nat} {args args':List V} {st bG t1:ST} {r:V} {K:V->ST->Prop}
theorem bn.tell(h:aQ f args' r)(ha:kS 0 (bZ []) args args')(hk:oN st.nx λn=>K (o8 [] n r) st):bn f args st K:=by
 rw[uA]at hk;exact bn.mk _ _ hk
theorem auH(h:ae f args' e0 (λv t=>v=r/\t=t1))(ha:kS 0 (bZ []) args args')(hk:oN st.nx λn=>K (o8 [] n r) (zU st [] n t1)):bn f args st K:=by
 rw[uA]at hk;exact bn.mk _ _ hk
theorem aui(aC:List Nat)(h:ae f args' bG (λv t=>v=r/\t=t1))(hn:ik aC=true)(hs:rY aC st.nx=true)(hnx:bG.nx=aC.length)(ha:kS bG.nx (bZ aC) args args')(ho:o9 bG.nx (bZ aC) st aC bG.st)(hk:oN st.nx λn=>K (o8 aC n r) (zU st aC n t1)):bn f args st K:=by
 rw[uA]at hk;exact bn.mk _ _ hk
theorem atE(h:aQ f args' r)(hf:Nh r)(ha:Ue st args args')(hk:K r st):bn f args st K:=bn.mk _ _ hk
def Q9(st bG:ST)(aC:List Nat)(n:Nat):Nat->List Nat->Prop
 |_,[]=>True
 |k,i::r=>lQ (λk=>some (kV aC n k)) (bG.get k)=st.get i/\Q9 st bG aC n (k+1) r
theorem aan{afl:List Nat}{n:Nat}:∀ {aC:List Nat} {k:Nat},Q9 st bG afl n k aC->∀ j i,aC[j]?=some i->lQ (λk=>some (kV afl n k)) (bG.get (k+j))=st.get i
 |[],_,_,j,i,h=>by simp at h
 |x::q,k,h,0,i,hj=>by
  obtain rfl:x=i:=by simpa using hj
  exact h.1
 |x::q,k,h,j+1,i,hj=>by
  rw[show k+(j+1)=k+1+j by omega];exact aan h.2 j i (by simpa using hj)
theorem auf{G:Gh}{t t':ST}{w:World}(h:bV G t w)(hx:t'.nx=t.nx)(he:t'.get=t.get):bV G t' w:=
 ⟨by rw[he];exact h.aK,λi hi=>by rw[he];exact h.jK i qO⟩
theorem ate(aC:List Nat)(h:ae f args' bG (λv t=>v=r/\t=bG))(hn:ik aC=true)(hs:rY aC st.nx=true)(hnx:bG.nx=aC.length)(ha:kS bG.nx (bZ aC) args args')(ho:o9 bG.nx (bZ aC) st aC bG.st)(hb:Q9 st bG aC st.nx 0 aC)(hk:oN st.nx λn=>K (o8 aC n r) st):ae f args st K:=by
 rw[uA]at hk;refine⟨h.1,λG w us hg hl hv=>?_⟩;have hm:=I4 hs;have hu:∀ i,st.nx<=i->st.get i = .dead:=λi hi=>(hg.jK i hi).2
 obtain⟨hal,hag⟩:=Vh ha;refine(h.2 (G.sub aC) w us (PW hg hn hnx ho) (hl.trans hal) λk v u hk1 hk2=>?_).mono λe w' hh=>?_
 ·obtain⟨a,h1,h2⟩:=hag k v hk1;exact EC ho h2 (hv k a u h1 hk2)
 ·obtain⟨v,V,t',G',e1,⟨e2,e3⟩,e4,e5,e6⟩:=hh;subst e2 e3;have hf:uq aC st t' t' G G' w w':=⟨hg,hn,hm,ho,e4,e5⟩;have hget:(sG st aC t').get=st.get:=funext λi=>by
   rcases zI (nx:=st.nx) hm i with ⟨k,rfl,hk⟩|⟨h1,h2⟩
   ·rw[hf.back];rcases hk with hk|⟨h1,h2,h3,h4⟩
    ·have:=aan hb k _ (xG hk);rw[jm]at this;exact this
    ·rw[(e4.jK k qO).2,hu _ h2];rfl
   ·exact Gj hm h1 h2
  have hgd:=hf.aK;have hst:=hf.dS;have hv:=hf.Nz e6;rw[hget]at hst hv;refine⟨v,_,st,_,e1,hk,auf hgd ?_ hget.symm,hst,hv⟩;show st.nx=st.nx+(t'.nx-aC.length);omega
theorem atG(aC:List Nat)(h:ae f args' bG (λv t=>v=r/\t=bG))(hn:ik aC=true)(hs:rY aC st.nx=true)(hnx:bG.nx=aC.length)(ha:kS bG.nx (bZ aC) args args')(ho:o9 bG.nx (bZ aC) st aC bG.st)(hb:Q9 st bG aC st.nx 0 aC)(hk:oN st.nx λn=>K (o8 aC n r) st):bn f args st K:=by
 rw[uA]at hk;exact bn.mk _ _ hk
end
@[irreducible] def aH (p:Prop):Prop:=p
theorem aH.mk{p:Prop}(h:p):aH p:=by unfold aH;exact h
theorem asB{p:Prop}(h:aH p):p:=by unfold aH at h;exact h
theorem Dw{i n n' lo m m':Nat}(h1:n=n')(h2:m=m'):V.vw i n lo m=V.vw i n' lo m':=by subst h1 h2;rfl
theorem zO{i n n':Nat}(h1:n=n'):V.row i n=V.row i n':=by subst h1;rfl
theorem XF{a b:Bool}(h:(bif a then true else b)=true):(a||b)=true:=by cases a <;> exact h
theorem ajP{a b:List UInt8}{i j:Nat}(h:j<a.length)(e:i=j:=by omega):(a++b).getD i 0=a.getD j 0:=by
 subst e;rw[bC,bC,mO h]
theorem atX{α:Type}{t0:ST}{X:Cx t0}{t t1:ST}{i n m E s:Nat}{g:Nat->Nat->V}{C:α->Nat->D}{z:α}(L:List α)(hlo:t0.nx<=i)(ho:t.get i = .row E s n g)(hm:m=n)(hL:L.length=n)(hg:∀ j,j<n->∀ k,k<s->g j k = .d (C (L.getD j z) k))(h1:t0.nx<=t1.nx)(h2:t1.nx<=t.nx)(hob:qB t1.nx (Am i n s (λj=>C (L.getD j z)) t) t1.st) :
  Fin X (.row i m) t (λv t=>v = .d (.sl L.length s (λj=>C (L.getD j z)))/\t=t1):=by
 subst hm;subst hL;refine Fin.dC (jB.of hlo ho hg) ?_;rw[jR];exact asC h1 h2 (VW.refl trivial) hob
end
section
section
variable {t0:ST} {X:Cx t0} {G:Gh} {w:World} {st bG:ST} {aC:List Nat}
theorem acN(hg:bV G st w)(hx:Stp X.G t0.get X.w G st.get w)(hn:ik aC=true)(ho:o9 bG.nx (bZ aC) st aC bG.st)(hl:∀ k,k<t0.nx->aC[k]?=some k):Stp X.G t0.get X.w (G.sub aC) bG.get w where
 os:=hx.os
 tape:=hx.tape
 output:=hx.output
 size:=hx.size
 keep:=hx.keep
 F1:=hx.F1
 F2:=hx.F2
 own:=λi b h=>by
  obtain⟨i',h1,h2⟩:=ED ho h;rcases hx.own i' b h2 with h3|h3
  ·left;have hi:i'<t0.nx:=by
    refine Nat.lt_of_not_le λhle=>?_
    unfold dA at h3;rw[(X.hg.jK i' hle).2]at h3;exact h3
   have h4:=oL hn h1;rw[oL hn (hl i' hi)]at h4;injection h4 with h4
   subst h4;exact h3
  ·exact .inr h3
 loc:=λi b h=>by
  have hi:i<t0.nx:=by
   refine Nat.lt_of_not_le λhle=>?_
   rw[(X.hg.jK i hle).1]at h;cases h
  rw[Bi (hl i hi)];exact hx.loc i b h
 row:=λi A c h=>by
  have hi:i<t0.nx:=by
   refine Nat.lt_of_not_le λhle=>?_
   rw[(X.hg.jK i hle).1]at h;cases h
  obtain⟨A',c',h1,h2⟩:=hx.row i A c h;refine⟨A',c',by rw[Bi (hl i hi)];exact h1,λE s m g e=>?_⟩;obtain⟨g0,h3⟩:=Qm ho (hl i hi) e;exact h2 E s m g0 h3
def Ot(N:Nat)(φ:Nat->Option Nat)(s:AS):List (Nat×V)->Prop
 |[]=>True
 |(j,v)::r=>VW N (dO φ (dG s.sl j)) v/\Ot N φ s r
theorem abg{N:Nat}{φ:Nat->Option Nat}{s:AS}:∀ {l:List (Nat×V)},Ot N φ s l->∀ j,VW N (dO φ (dG s.sl j)) (dG l j)
 |[],_,j=>VW.top
 |(k,v)::r,h,j=>by
  show VW N _ (bif Nat.beq k j then v else dG r j);rcases hk:Nat.beq k j with _|_
  ·exact abg h.2 j
  ·rw[<-dH hk];exact h.1
def NP(n:Nat):Nat->List Nat->Bool
 |k,[]=>Nat.ble n k
 |k,x::r=>(bif Nat.blt k n then Nat.beq x k else true)&&NP n (k+1) r
theorem abO{n:Nat}:∀ {l:List Nat} {k:Nat},NP n k l=true->∀ j,k+j<n->l[j]?=some (k+j)
 |[],k,h,j,hj=>by
  have:=CJ h;omega
 |x::r,k,h,j,hj=>by
  obtain⟨h1,h2⟩:=kJ h;cases j with
  |zero=>
   rw[show Nat.blt k n=true by rw[Nat.blt_eq];omega,dR]at h1;have:=dH h1;subst this;simp
  |succ j=>
   rw[show k+(j+1)=k+1+j by omega]at hj ⊢;exact abO h2 j hj
structure KE (n0:Nat) (aC:List Nat) (s s2:AS):Prop where
 nt:s2.nt=s.nt
 nx:s2.s.nx=aC.length
 dup:ik aC=true
 low:NP n0 0 aC=true
 ob:o9 s2.s.nx (bZ aC) s.s aC s2.s.st
 sl:Ot s2.s.nx (bZ aC) s s2.sl
theorem Mod.Ec{s s2:AS}{a:Act}(h:Mod X s a w)(hr:KE t0.nx aC s s2):Mod X s2 a w:=by
 obtain⟨G,hg,hs,hx⟩:=h;refine⟨G.sub aC,PW hg hr.dup hr.nx hr.ob,⟨⟨by rw[hr.nt];exact hs.nt,λj=>EC hr.ob (abg hr.sl j) (hs.sl j)⟩,hs.df⟩,acN hg hx hr.dup hr.ob λk hk=>?_⟩;have:=abO hr.low k qO;rwa [jm]at this
theorem T.Ec{c:Code}{Q:Exit->AS->Prop}{s:AS}(aC:List Nat)(s2:AS)(hr:KE t0.nx aC s s2)(h:T X c Q s2):T X c Q s:=T.mk λa w hm=>h.h a w (hm.Ec hr)
theorem aua{α:Type}{x y:Code}{Q:Exit->AS->Prop}{s:AS}(S:α->AS)(P:α->Prop)(h1:T X x (MQ (λs'=>∃ a,P a/\aV t0.nx s' (S a)) Q) s)(h2:∀ a,P a->T X y Q (S a)):T X (.seq x y) Q s:=T.seq (T.mono h1 λe s' h=>by
 cases e
 case normal=>obtain⟨a,hp,h⟩:=h;exact T.le (S a) h (h2 a hp)
 all_goals exact h)
end
theorem asE{N n m:Nat}{g h:Nat->V}(e:n=m)(hc:∀ k,k<n->VW N (g k) (h k)):af N (.blk n g) (.blk m h):=⟨e,hc⟩
end
section
theorem nb{n m:Nat}(h:Nat.ble n m=true):n<=m:=CJ h
abbrev o0:yC:=(0,0,false,[])
abbrev o1:yC:=(0,0,true,[])
abbrev o2:yC:=(0,1,false,[])
abbrev o3:yC:=(1,1,false,[])
theorem jY{a0 a1 a2 a3 a4 a5 a6 a7 a8 a9 b:Prop}(h:a0/\a1/\a2/\a3/\a4/\a5/\a6/\a7/\a8/\a9/\b):b:=h.2.2.2.2.2.2.2.2.2.2
section
variable {t0:ST} {X:Cx t0} {Q:Exit->AS->Prop} {s:AS}
def goT(X:Cx t0)(c:Code)(Q:Exit->AS->Prop)(s:AS):Prop:=
 match c with
 |.seq x y=>T X x (MQ (T X y Q) Q) s
 |.cond c x y=>Nl s c λt=>ai t (T X x Q s) (T X y Q s)
 |.block id c=>T X c (XI id Q) s
 |.region _ ops false=>tX ae ops.toList ops.toList s (Q .normal)
 |.ret=>Q .ret s
 |.skip=>Q .normal s
 |.exit id=>Q (.exit id) s
 |_=>False
def okT:Code->Bool
 |.seq _ _=>true|.cond _ _ _=>true|.block _ _=>true|.region _ _ false=>true|.ret=>true|.skip=>true|.exit _=>true|_=>false
theorem oz{c:Code}(h:goT X c Q s)(hc:okT c=true:=by exact rfl):T X c Q s:=by
 unfold goT at h;split at h
 ·exact T.seq h
 ·exact T.cond h
 ·exact T.block h
 ·exact T.region h
 ·exact T.ret h
 ·exact T.skip h
 ·exact T.exit h
 ·exact h.elim
theorem asD(id:Nat){ops:Array Oper}(eff:List Nat)(sigs:List yC)(h:EY ops.toList s ops.toList sigs [] [] s.s λvs Ss=>X5 ops.toList eff vs Ss (ag (Oc ops.toList s vs Ss 0 ops.toList sigs vs/\Ss.head?=some s.s) (YJ s (ru ops.toList vs) (Ss.getD eff.length s.s) (Q .normal))))(hm:Tryz.prog.follows .mixedOrders=true:=by kernel_rfl)(hok:Ou ops.toList eff sigs=true:=by kernel_rfl):T X (.region id ops true) Q s:=at7 eff sigs hm hok h
end
theorem ag.a{p k:Prop}(hk:k)(h:p:=by first|exact nb rfl|decide|exact λ_=>by decide|exact λh=>h|exact λh=>h.1|exact λh=>aqz h|exact λh=>aqy h|fail):ag p k:=ag.mk h hk
theorem ai.n{t:Bool}{a b:Prop}(hb:t=false->b)(hx:¬t=true:=by(intro h;first|exact au h (by decide)|exact au (show false=true from h) (by decide)|exact au (jb h) (by omega)|exact au h (by rw[hrk];decide)|exact au h (by rw[hm];decide)|exact au h (by rw[cZ];decide)|fail)):ai t a b:=ai.mk (λe=>au e hx) hb
theorem asL{t:Bool}{a b:Prop}(ha:t=true->a)(hx:¬t=false:=by(intro h;first|exact au h (by decide)|exact au (show true=false from h) (by decide)|exact au (oZ h) (by omega)|exact au h (by rw[hrk];decide)|exact au h (by rw[cZ];decide)|fail)):ai t a b:=ai.mk ha (λe=>au e hx)
theorem bG{p:Prop}(h:p:=by first|((repeat' (first|exact trivial|refine ed ⟨_,rfl,af.blk ?_⟩ ?_|refine ed ⟨_,rfl,af.row rfl (λj hj k hk=>asF rfl trivial)⟩ ?_|exact asF rfl trivial|exact asF rfl (nb rfl)|refine ed ?_ ?_));done)|fail):p:=h
theorem agg{N n:Nat}{g h:Nat->V}(hc:EH N g h n:=by first|((repeat' (first|exact trivial|exact asF rfl trivial|refine ed ?_ ?_));done)|fail):VW N (.agg n g) (.agg n h):=asK hc
theorem aH.all{N n k:Nat}{g h:Nat->V}(hk:k<n)(hc:EH N g h n):aH (VW N (g k) (h k)):=aH.mk (Ik hc k hk)
theorem aB {p:Prop} (h:p:=by first
 |exact True.intro|exact rfl|exact nb rfl|exact λh=>h|exact λ_=>nb rfl|exact λ_ j hj=>⟨_,rfl⟩|exact aH.mk (asF rfl trivial)
 |exact au hj (qZ _)|exact aH.mk (au hj (qZ _))|exact λj hj=>au hj (qZ _)|(rintro⟨e1,e2⟩;rw[e1,e2];rfl)
 |(refine aH.all hk ?_;repeat' (first|exact True.intro|exact asF rfl trivial|exact asF rfl (nb rfl)|refine ed ?_ ?_))
 |(refine aV.mk rfl (nb rfl) (nb rfl) ?_ ?_ <;> (repeat' (first|exact True.intro|exact asF rfl trivial|exact asF rfl (nb rfl)|refine ed (asF rfl trivial) ?_|refine ed (asF rfl (nb rfl)) ?_|refine ed ⟨nb rfl,?_⟩ ?_|exact af.row rfl (λj hj k hk=>asF rfl trivial)|refine asE rfl (λk hk=>asB ?_))) <;> (refine aH.all hk ?_;repeat' (first|exact True.intro|exact asF rfl trivial|exact asF rfl (nb rfl)|refine ed ?_ ?_)))
 |((repeat' (first|exact True.intro|refine ed ⟨nb rfl,?_⟩ ?_|exact af.row rfl (λj hj k hk=>asF rfl trivial)|refine asE rfl (λk hk=>asB ?_))) <;> (refine aH.all hk ?_;repeat' (first|exact True.intro|exact asF rfl trivial|exact asF rfl (nb rfl)|refine ed ?_ ?_)))
 |omega|(simp only[dQ,jD];omega)|fail):p:=h
end
section
abbrev nN:=List (Option (Nat×Nat))
def sF(N i:Nat)(D:Nat->Bool):Nat->nN->List Nat
 |_,[]=>[]
 |k,none::r=>k::sF N i D (k+1) r
 |k,some (e,q)::r=>(bif Nat.beq e i then N+q else (bif D e then k else N+100+k))::sF N i D (k+1) r
def iO(P:Nat->Prop):V->Prop
 |.ptr i _=>P i
 |.rp i _ _ _=>P i
 |.row i _=>P i
 |.vw i _ _ _=>P i
 |.agg n g=>∀ k,k<n->iO P (g k)
 |.fV n g=>∀ k,k<n->iO P (g k)
 |.fn _ _ n g=>∀ k,k<n->iO P (g k)
 |.mp i=>P i
 |.ku _ _ v=>iO P v
 |_=>True
theorem asZ{φ:Nat->Option Nat}{N:Nat}{P:Nat->Prop}(hP:∀ k,P k->k<N/\φ k=some k):∀ {v:V},iO P v->VW N (dO φ v) v:=by
 intro v;induction v with
 |ptr i o=>intro h;obtain⟨h1,h2⟩:=hP i h;simp only[dO,h2];exact VW.refl h1
 |rp i n j c=>intro h;obtain⟨h1,h2⟩:=hP i h;simp only[dO,h2];exact VW.refl h1
 |row i n=>intro h;obtain⟨h1,h2⟩:=hP i h;simp only[dO,h2];exact VW.refl h1
 |vw i n lo m=>intro h;obtain⟨h1,h2⟩:=hP i h;simp only[dO,h2];exact VW.refl h1
 |mp i=>intro h;obtain⟨h1,h2⟩:=hP i h;simp only[dO,h2];exact VW.refl h1
 |agg n g ih=>intro h;exact VW.agg λk hk=>ih k (h k hk)
 |fV n g ih=>intro h;exact VW.fV λk hk=>ih k (h k hk)
 |fn f nf n g ih=>
  intro h;exact⟨λk hk=>(ih k (h k hk)).1,λG o w u ⟨fs,cs,e,h1,h2,h3⟩=>⟨fs,cs,e,h1,h2,λk x hx=>(ih k (h k (by rw[<-h2,<-Array.size_append];exact(Array.getElem?_eq_some_iff.1 hx).1))).2 _ _ _ _ (h3 k x hx)⟩⟩
 |ku t w v ih=>intro h;exact⟨(ih h).1,λG o w' u hu=>⟨λe=>(ih h).2 _ _ _ _ (hu.1 e),hu.2⟩⟩
 |top=>exact λ_=>VW.top
 |d x=>exact λ_=>VW.refl trivial
 |dE=>exact λ_=>VW.refl trivial
 |dp s g=>exact λ_=>VW.refl trivial
theorem abE:∀ {l:List Nat},(∀ i j a:Nat,l[i]?=some a->l[j]?=some a->i=j)->ik l=true
 |[],_=>rfl
 |a::r,h=>by
  have ih:ik r=true:=abE λi j b h1 h2=>by
   have:=h (i+1) (j+1) b (by simpa using h1) (by simpa using h2);omega
  unfold ik;rw[ih,Bool.and_true];rcases he:bZ r a with _|k
  ·rfl
  ·have:=h 0 (k+1) a (by simp) (by simpa using xG he);omega
def zZ:nN->Bool
 |[]=>true
 |none::r=>zZ r
 |some (e,q)::r=>Nat.blt q 100&&(r.all λx=>match x with|some (e',q')=>!(Nat.beq e e'&&Nat.beq q q')|none=>true)&&zZ r
theorem LH:∀ {own:nN} {i e q:Nat},zZ own=true->own[i]?=some (some (e,q))->q<100
 |[],i,_,_,_,h=>by simp at h
 |x::r,0,e,q,ho,h=>by
  obtain rfl:x=some (e,q):=by simpa using h
  have ho:(Nat.blt q 100&&_&&zZ r)=true:=ho;obtain⟨h1,_⟩:=kJ ho;exact lS (kJ h1).1
 |x::r,i+1,e,q,ho,h=>by
  have ho':zZ r=true:=by
   rcases x with _|⟨e',q'⟩
   ·exact ho
   ·exact(kJ ho).2
  exact LH ho' (by simpa using h)
theorem abD:∀ {own:nN} {i j e q:Nat},zZ own=true->own[i]?=some (some (e,q))->own[j]?=some (some (e,q))->i=j
 |[],i,_,_,_,_,h,_=>by simp at h
 |x::r,i,j,e,q,ho,h1,h2=>by
  have ho':zZ r=true:=by
   rcases x with _|⟨e',q'⟩
   ·exact ho
   ·exact(kJ ho).2
  have key:∀ k:Nat,r[k]?=some (some (e,q))->x=some (e,q)->False:=by
   intro k hk hx;subst hx;have ho:(Nat.blt q 100&&(r.all λx=>match x with|some (e',q')=>!(Nat.beq e e'&&Nat.beq q q')|none=>true)&&zZ r)=true:=ho;have h3:=(kJ (kJ ho).1).2;rw[zF]at h3;have:=h3 _ (uX hk);simp at this
  rcases i with _|i <;> rcases j with _|j
  ·rfl
  ·exact(key j (by simpa using h2) (by simpa using h1)).elim
  ·exact(key i (by simpa using h1) (by simpa using h2)).elim
  ·have:=abD (i:=i) (j:=j) (e:=e) (q:=q) ho' (by simpa using h1) (by simpa using h2);omega
theorem Le(N i:Nat)(D:Nat->Bool):∀(k:Nat) (own:nN),(sF N i D k own).length=own.length
 |_,[]=>rfl
 |k,none::r=>by simp[sF,Le N i D (k+1) r]
 |k,some (e,q)::r=>by simp[sF,Le N i D (k+1) r]
theorem Ba(N i:Nat)(D:Nat->Bool):∀(k:Nat) (own:nN) (j:Nat) (x:Option (Nat×Nat)),own[j]?=some x->(sF N i D k own)[j]?=some (match x with|none=>k+j|some (e,q)=>bif Nat.beq e i then N+q else (bif D e then k+j else N+100+(k+j)))
 |_,[],j,x,h=>by simp at h
 |k,y::r,0,x,h=>by
  obtain rfl:y=x:=by simpa using h
  rcases y with _|⟨e,q⟩ <;> simp[sF]
 |k,y::r,j+1,x,h=>by
  have:=Ba N i D (k+1) r j x (by simpa using h);rw[show k+(j+1)=k+1+j by omega,<-this];rcases y with _|⟨e,q⟩ <;> simp[sF]
theorem Pj{N i:Nat}{D:Nat->Bool}{own:nN}(ho:zZ own=true)(hN:own.length=N):ik (sF N i D 0 own)=true:=by
  refine abE λa b c h1 h2=>?_
  have la:a<own.length:=by rw[<-Le N i D 0 own];exact(List.getElem?_eq_some_iff.1 h1).1
  have lb:b<own.length:=by rw[<-Le N i D 0 own];exact(List.getElem?_eq_some_iff.1 h2).1
  have ea:=dW la;have eb:=dW lb;rw[Ba N i D 0 own a _ ea]at h1;rw[Ba N i D 0 own b _ eb]at h2;rcases hx:own[a] with _|⟨e,q⟩ <;> rcases hy:own[b] with _|⟨e',q'⟩ <;> rw[hx]at h1 ea <;> rw[hy]at h2 eb <;> simp only[jm,Option.some.injEq]at h1 h2
  · omega
  · have q1:=LH ho eb;cases h3:Nat.beq e' i <;> cases h4:D e' <;> simp only[h3,h4,dR,di]at h2 <;> omega
  · have q1:=LH ho ea;cases h3:Nat.beq e i <;> cases h4:D e <;> simp only[h3,h4,dR,di]at h1 <;> omega
  · have q1:=LH ho ea;have q2:=LH ho eb;rcases h3:Nat.beq e i with _|_ <;> rcases h5:Nat.beq e' i with _|_ <;> rcases h4:D e with _|_ <;> rcases h6:D e' with _|_ <;> simp only[h3,h4,h5,h6,dR,di]at h1 h2
    all_goals first
      | omega
      | (have e1:=dH h3
         have e2:=dH h5;subst e1 e2;obtain rfl:q=q':=qO;exact abD ho ea eb)
def Jl(M:List Nat)(i:Nat)(D:Nat->Bool):Nat->Prop
 |0=>True
 |n+1=>(bif (M.getD i 0).testBit n then D n=true else (bif (M.getD n 0).testBit i||Nat.beq n i then D n=false else True))/\Jl M i D n
theorem abQ{M:List Nat}{i:Nat}{D:Nat->Bool}:∀ {n:Nat},(∀ e,e<n->(M.getD i 0).testBit e=true->D e=true)->(∀ e,e<n->(M.getD e 0).testBit i=true\/e=i->D e=false)->Jl M i D n
 |0,_,_=>trivial
 |n+1,h1,h2=>by
  refine⟨?_,abQ (λe he=>h1 e qO) (λe he=>h2 e qO)⟩;rcases ha:(M.getD i 0).testBit n with _|_
  ·rcases hb:(M.getD n 0).testBit i||Nat.beq n i with _|_
   ·exact trivial
   ·refine h2 n qO ?_;rw[Bool.or_eq_true]at hb;exact hb.imp id dH
  ·exact h1 n qO ha
def wP(D:Nat->Bool)(i:Nat)(k:Nat):Bool:=bif Nat.beq k i then true else D k
def XQ(own:nN)(k:Nat):Prop:=own[k]?=some none
def arD(own:nN)(M:List Nat)(e k:Nat):Prop:=own[k]?=some none\/∃ c q,own[k]?=some (some (c,q))/\(c=e\/(M.getD e 0).testBit c=true)
def Y0(P:Nat->Prop):List (Nat×V)->Prop
 |[]=>True
 |(j,v)::r=>iO P v/\Y0 P r
theorem Vt{P:Nat->Prop}:∀ {l:List (Nat×V)},Y0 P l->∀ j,iO P (dG l j)
 |[],_,j=>trivial
 |(k,v)::r,h,j=>by
  show iO P (bif Nat.beq k j then v else dG r j);cases Nat.beq k j
  ·exact Vt h.2 j
  ·exact h.1
section
variable {t0:ST} {X:Cx t0}
variable {s:AS} {l:List Oper} {vs:List V} {N:Nat} {own:nN} {S:(Nat->Bool)->ST} {Q:Exit->Act->World->Prop}
def qP(listed:Array Bool)(k:Nat):Bool:=listed.getD k true
structure afN (X:Cx t0) (s:AS) (l:List Oper) (vs:List V) (S:(Nat->Bool)->ST) (listed:Array Bool) (a:Act) (w:World):Prop where
 size:listed.size=l.length
 closed:Closed l (λk=>listed.getD k true=true)
 mod:∃ G,bV G (S (qP listed)) w/\a.tmps.size=s.nt/\a.defers=X.ds/\Stp X.G X.t.get X.w G (S (qP listed)).get w /\
  (∀(i:Nat) (o:Oper) (d:Nat) (v:V),l[i]?=some o->o.dst=some d->listed.getD i true=true->vs[i]?=some v->aO G (S (qP listed)).get w v (a.tmps.getD d undef)) /\
  ∀ j,(∀ k o,l[k]?=some o->o.dst=some j->listed.getD k true=true->False)->aO G (S (qP listed)).get w (dG s.sl j) (a.tmps.getD j undef)
end
end
section
theorem Sz{a b:Bool}(h:(bif a then b else false)=true):a=true/\b=true:=by cases a <;> first|exact⟨rfl,h⟩|cases h
theorem ae8{a b:Bool}(h:(bif a then b else false)=false):a=false\/b=false:=by cases a <;> first|exact .inl rfl|exact .inr h
section
variable {α:Type} {f:Nat} {args args':List V} {st bG t1 t2:ST} {p:α->Prop} {q:Prop} {r:α->V} {r':V} {K:V->ST->Prop}
def J3(p:α->Prop)(r:α->V)(t1:ST)(q:Prop)(r':V)(t2:ST)(v:V)(t:ST):Prop:=(∃ a,p a/\v=r a/\t=t1)\/(q/\v=r'/\t=t2)
theorem atQ(aC:List Nat)(h:ae f args' bG (J3 p r t1 q r' t2))(hn:ik aC=true)(hs:rY aC st.nx=true)(hnx:bG.nx=aC.length)(ha:kS bG.nx (bZ aC) args args')(ho:o9 bG.nx (bZ aC) st aC bG.st)
  (hk1:∀ a,p a->oN st.nx λn=>K (o8 aC n (r a)) (zU st aC n t1)) (hk2:q->oN st.nx λn=>K (o8 aC n r') (zU st aC n t2)):ae f args st K:=
 ae.frame h hn (I4 hs) hnx ha ho λv t e=>by
  rcases e with ⟨a,e1,e2,e3⟩|⟨e1,e2,e3⟩
  ·have:=hk1 a e1;rw[uA]at this;subst e2 e3;exact this
  ·have:=hk2 e1;rw[uA]at this;subst e2 e3;exact this
theorem Fin.mono{t0:ST}{X:Cx t0}{v:V}{t:ST}{K K':V->ST->Prop}(h:Fin X v t K)(hk:∀ v t,K v t->K' v t):Fin X v t K':=Fin.mk λG w u h1 h2 h3=>by
 obtain⟨v',t2,G2,q1,q2⟩:=h.h G w u h1 h2 h3;exact⟨v',t2,G2,hk _ _ q1,q2⟩
theorem atB{t0:ST}{X:Cx t0}{v:V}{t:ST}(a:α)(hp:p a)(h:Fin X v t (λv t=>v=r a/\t=t1)):Fin X v t (J3 p r t1 q r' t2):=h.mono λ_ _ e=>.inl ⟨a,hp,e⟩
theorem aub{t0:ST}{X:Cx t0}{v:V}{t:ST}(hq:q)(h:Fin X v t (λv t=>v=r'/\t=t2)):Fin X v t (J3 p r t1 q r' t2):=h.mono λ_ _ e=>.inr ⟨hq,e⟩
end
end
section
theorem tv:True:=True.intro
theorem an{a b:Prop}(h:a)(k:b):a/\b:=⟨h,k⟩
theorem vq{N:Nat}{a b:V}(e:a=b)(h:wV N b):VW N a b:=asF e h
theorem aS{p:Prop}[Decidable p](h:decide p=true):p:=jb h
theorem bJ{p:Prop}[Decidable p](h:decide p=false):¬p:=oZ h
theorem nz{n:Nat}:¬n<0:=qZ n
theorem cm{p:Prop}(h:p):aH p:=aH.mk h
theorem om{p:Prop}(h:p:=by(try simp only[fC,fQ]at *);omega):p:=h
theorem ar{p:Prop}(h:p:=by first|((repeat' (first|exact trivial|exact VW.refl trivial|exact asF rfl (nb rfl)|exact agg|refine ed ?_ ?_));done)|fail):p:=h
section
variable {f:Nat} {args args':List V} {st bG t1:ST} {r:V} {K:V->ST->Prop}
theorem asA(h:aQ f args' r)(hk:oN st.nx λn=>K (o8 [] n r) st)(ha:kS 0 (bZ []) args args':=by exact ar):ae f args st K:=ae.tell h ha hk
theorem asN(h:aQ f args' r)(hk:oN st.nx λn=>K (o8 [] n r) st)(ha:kS 0 (bZ []) args args':=by exact ar):bn f args st K:=bn.tell h ha hk
theorem asP(h:ae f args' e0 (λv t=>v=r/\t=t1))(hk:oN st.nx λn=>K (o8 [] n r) (zU st [] n t1))(ha:kS 0 (bZ []) args args':=by exact ar):ae f args st K:=atg h ha hk
theorem as8(h:ae f args' e0 (λv t=>v=r/\t=t1))(hk:oN st.nx λn=>K (o8 [] n r) (zU st [] n t1))(ha:kS 0 (bZ []) args args':=by exact ar):bn f args st K:=auH h ha hk
theorem asH(aC:List Nat)(h:ae f args' bG (λv t=>v=r/\t=t1))(hk:oN st.nx λn=>K (o8 aC n r) (zU st aC n t1))(hn:ik aC=true:=by exact rfl)(hs:rY aC st.nx=true:=by exact rfl)(hnx:bG.nx=aC.length:=by exact rfl)(ha:kS bG.nx (bZ aC) args args':=by exact ar)(ho:o9 bG.nx (bZ aC) st aC bG.st:=by exact Go.Proofs.YtnibdnahojjcgaaGreat.bG):ae f args st K:=asO aC h hn hs hnx ha ho hk
theorem as3(aC:List Nat)(h:ae f args' bG (λv t=>v=r/\t=t1))(hk:oN st.nx λn=>K (o8 aC n r) (zU st aC n t1))(hn:ik aC=true:=by exact rfl)(hs:rY aC st.nx=true:=by exact rfl)(hnx:bG.nx=aC.length:=by exact rfl)(ha:kS bG.nx (bZ aC) args args':=by exact ar)(ho:o9 bG.nx (bZ aC) st aC bG.st:=by exact Go.Proofs.YtnibdnahojjcgaaGreat.bG):bn f args st K:=aui aC h hn hs hnx ha ho hk
end
theorem asz{f:Nat}{fn:Func}{c:Code}{args:List V}{t:ST}{K:V->ST->Prop}(hf:Tryz.prog.funcs[f]?=some fn)(h:∀ X:Cx t,T X c (BU fn X K) ⟨fn.ntmps,pO args,t⟩)(hb:fn.body=some c:=by exact rfl)(hname:(fn.name == "runtime.NumGoroutine")=false:=by exact rfl)(hn:args.length<=fn.ntmps:=by exact nb rfl):ae f args t K:=ae.of hf hb hname hn h
theorem aj{p:Prop}(h:p:=by first|(assumption)|fail):p:=h
theorem fv{p:Prop}(h:p:=by first|(intros;exact vq rfl tv)|fail):p:=h
theorem fr{p:Prop}(h:p:=by first|(intros;exact rfl)|fail):p:=h
theorem iw{p:Prop}(h:p:=by first|(exact jB.of (cu _) rfl (λj hj k hk=>rfl))|fail):p:=h
theorem bw{p:Prop}(h:p:=by first|((repeat' (first|exact tv|exact BW.d|exact BW.row rfl (λj hj k hk=>rfl)|refine aus ?_|refine an ?_ ?_));done)|fail):p:=h
theorem vw{p:Prop}(h:p:=by first|((repeat' (first|exact tv|exact VW.refl tv|exact vq rfl tv|exact vq rfl (nb rfl)|exact asQ rfl|exact vq jR tv|exact vq ((gz (λv=>jl 8 _ _ _ v) jR).trans rfl) tv|refine asK ?_|refine an ?_ ?_));done)|fail):p:=h
theorem kk {p:Prop} (h:p:=by first
 |(have hk:k<4:=hk;rcases k with _|_|_|_|k <;> first|exact cm (vq rfl tv)|exact cm (vq rfl (nb rfl))|omega)
 |(have hk:k<5:=hk;rcases k with _|_|_|_|_|k <;> first|exact cm (vq rfl tv)|exact cm (vq rfl (nb rfl))|omega)
 |(have hk:k<23:=hk;rcases k with _|_|_|_|_|_|_|_|_|_|_|_|_|_|_|_|_|_|_|_|_|_|_|k <;> first|exact cm (vq rfl tv)|exact cm (vq rfl (nb rfl))|omega)
 |(have hk:k<1:=hk;obtain rfl:k=0:=Nat.lt_one_iff.1 hk;first|exact cm (vq rfl tv)|exact cm (vq rfl (nb rfl))|omega)|fail):p:=h
theorem uN{p:Prop}(h:p:=by first|((try simp only[fC,fQ,mr,nO]at *);omega)|fail):p:=h
theorem qM{p:Prop}(h:p:=by first|((repeat' (first|exact tv|refine an ⟨nb rfl,af.blk ?_⟩ ?_|refine an ⟨nb rfl,af.row rfl fv⟩ ?_|exact vq rfl tv|exact vq rfl (nb rfl)|refine an ?_ ?_));done)|fail):p:=h
theorem mc{p q k:Prop}(h:dh p)(hk:k)(e:q:=by exact rfl):ag (p/\q) k:=ag.mk ⟨atd h,e⟩ hk
theorem qN{n m:Nat}(h:Nat.ble n m=true:=by first|exact rfl|fail):n<=m:=nb h
theorem qV{p:Prop}(h:p:=by first|exact vq rfl tv|fail):p:=h
theorem qW{p:Prop}(h:p:=by first|exact vq rfl (nb rfl)|fail):p:=h
end
theorem ahY(num since:Int):aQ 232 [iV num,iV since] (DT ⟨num,0,since,false,false⟩):=by
 refine asz Tryz.func232 λX=>?_
 repeat' (first|refine oz ?_|refine ag.a ?_|refine Fin.tell agg)
 skip
theorem akH(num since:Int):aQ 233 [iV num,iV since] (DT ⟨num,2,since,false,false⟩):=by
 refine asz Tryz.func233 λX=>?_
 repeat' (first|refine oz ?_|refine ag.a ?_|refine Fin.tell agg)
 skip
theorem amA(s:kD):aQ 234 [DT s] (DT { s with kz:=true }):=by
 refine asz Tryz.func234 λX=>?_
 repeat' (first|refine oz ?_|refine ag.a ?_|refine Fin.tell agg)
 skip
theorem amJ(s:kD):aQ 235 [DT s] (DT { s with many:=true }):=by
 refine asz Tryz.func235 λX=>?_
 repeat' (first|refine oz ?_|refine ag.a ?_|refine Fin.tell agg)
 skip
def xw(f:aY)(s:kD)(times:Int):Bool:=bif (bif !decide (f.aJ=s.aJ) then true else bif decide (1<times) then !s.many else false) then false else bif decide (f.aJ=0) then !decide ((f.n:Int)=0) else decide ((0:Int)<f.b.length)
def n4(num since:Int):kD:=⟨num,0,since,false,false⟩
def b4(num since:Int):kD:=⟨num,2,since,false,false⟩
def tJ(s:kD):kD:={ s with kz:=true }
def MZ(s:kD):kD:={ s with many:=true }
def nK(kind:Int):List kD:=
 if kind=1 then [tJ (n4 1 1),n4 2 1,n4 3 1,n4 4 1,n4 5 1,n4 6 1,b4 7 1,b4 8 3]
 else if kind=2 then [tJ (n4 1 1),tJ (n4 2 1),tJ (b4 3 1),n4 4 2,b4 5 3]
 else if kind=3 then [tJ (n4 1 1),tJ (n4 2 1)]
 else if kind=4 then [tJ (n4 1 1),n4 2 1,n4 3 1,n4 4 1]
 else if kind=5 then [tJ (n4 1 1),tJ (n4 2 1),n4 3 1,MZ (b4 4 1),MZ (b4 5 1),MZ (b4 6 1),n4 7 3]
 else if kind=6 then [tJ (n4 1 1),tJ (n4 2 1),tJ (n4 3 1),tJ (n4 4 1),n4 5 1,n4 6 1,n4 7 1,n4 8 1,n4 9 1,MZ (b4 10 1)]
 else if kind=7 then [tJ (n4 1 1),b4 2 1] else []
theorem aqf(f:aY)(s:kD)(times:Int):aQ 204 [wW f,DT s,iV times] (.b (xw f s times)):=by
 refine asz Tryz.func204 λX=>?_
 (repeat' (first|refine oz ?_|refine ai.mk (λh=>?_) (λh=>?_)|refine ag.a ?_|refine Fin.tell (vq (gz V.b ?_) tv)))<;>try exact aB
 all_goals first|(unfold xw;rw[h,dR];done)|(rename_i h0;unfold xw;rw[h0,h,di];first|(rw[dR];done)|(rw[di];done))
def rQ(ahead:Int):List Int->Bool
 |[]=>true
 |n::r=>bif (bif decide (n<=ahead) then true else decide (64<n)) then false else rQ n r
def kG(l:List Int):Bool:=bif (bif decide ((l.length:Int)<1) then true else decide (8<(l.length:Int))) then false else rQ 0 l
theorem zQ{l:List Int}(h:kG l=true):1<=l.length/\l.length<=8/\rQ 0 l=true:=by
 unfold kG at h;by_cases e:(l.length:Int)<1
 ·rw[bg e,dR,dR]at h;cases h
 ·rw[aX e,di]at h;by_cases e2:8<(l.length:Int)
  ·rw[bg e2,dR]at h;cases h
  ·rw[aX e2,di]at h;exact⟨by omega,by omega,h⟩
theorem Ld:∀ {l:List Int} {a:Int},rQ a l=true->∀ n∈l,a<n/\n<=64
 |[],_,_,n,hn=>by cases hn
 |m::r,a,h,n,hn=>by
  unfold rQ at h;by_cases e:m<=a
  ·rw[bg e,dR,dR]at h;cases h
  ·rw[aX e,di]at h;by_cases e2:64<m
   ·rw[bg e2,dR]at h;cases h
   ·rw[aX e2,di]at h;rcases List.mem_cons.1 hn with rfl|hn
    ·exact⟨by omega,by omega⟩
    ·have:=Ld h n hn;exact⟨by omega,this.2⟩
theorem dF{α:Type}{b:Bool}{x y:α}(h:b=true):(bif b then x else y)=x:=by rw[h,dR]
theorem bz{α:Type}{b:Bool}{x y:α}(h:b=false):(bif b then x else y)=y:=by rw[h,di]
theorem acU{l:List Int}(h:(bif decide ((l.length:Int)<1) then true else decide (8<(l.length:Int)))=false):kG l=rQ 0 l:=bz h
theorem row_step{l:List Int}{i:Nat}{a:Int}(h:i<l.length):rQ a (l.drop i)=bif (bif decide (l.getD i 0<=a) then true else decide (64<l.getD i 0)) then false else rQ (l.getD i 0) (l.drop (i+1)):=by
 rw[wz 0 h];rfl
theorem QU(l:List Int)(hl:l.length<=100000):aQ 188 [.d (iH l)] (.b (kG l)):=by
 refine asz Tryz.func188 λX=>?_
 (repeat' (first|refine oz ?_|refine asI l.length (λi (a:Int)=>⟨29,[(3,iV a),(14,.d (iH l)),(15,iV l.length),(16,iV i)],e0⟩) (λi a=>rQ 0 l=rQ a (l.drop i)) 0 ?_ ?_ (λi a hi hp=>?_)|refine aU (l.getD i 0) ⟨?_,?_,?_⟩|refine ai.mk (λh=>?_) (λh=>?_)|refine ag.a ?_|refine Fin.tell (vq (gz V.b ?_) tv)|refine ag.mk ?_ ?_))<;>try exact aB
 all_goals first|exact(dF h).symm|exact uN|(rename_i h0 h1;have h9:i<l.length:=om;rw[acU h0,hp,row_step h9];exact(dF h).symm)|(have h9:i<l.length:=om;rw[hp,row_step h9];exact bz h)|(rename_i h0;have h9:=bJ h;rw[acU h0,hp,sZ (by omega)];rfl)
def iP(l:List Int):List UInt8:=(l.map λn=>dV n.toNat).flatten
theorem aco(l:List Int)(n:Int):iP (l++[n])=iP l++dV n.toNat:=by simp[iP]
theorem aky(l:List Int)(hr:kG l=true):aQ 226 [.d (iH l)] (bQ [.d (dB (iP l)),iV 0]):=by
 obtain⟨hr1,hr2,hr3⟩:=zQ hr;have hm:∀ i,i<l.length->l.getD i 0=((l.getD i 0).toNat:Int)/\(l.getD i 0).toNat<=64:=λi hi=>by
  have:=Ld hr3 (l.getD i 0) (by rw[bC,dW hi];exact List.getElem_mem hi);omega
 refine asz Tryz.func226 λX=>?_
 (repeat' (first|refine oz ?_|refine asW 4 5 (λj _=>.d (fO (([]:List UInt8).getD j 0))) rfl rfl qN (asI l.length (λi (a:List UInt8)=>⟨23,[(4,.row 0 a.length),(10,.d (iH l)),(11,iV l.length),(12,iV i)],⟨[(0,iy a)],1⟩⟩) (λi a=>a=iP (l.take i)/\a.length<=i*10) [] ?_ ?_ (λi a hi hp=>?_))|refine aU (a++dV (l.getD i 0).toNat) ⟨?_,?_,?_⟩|refine ai.mk (λh=>au h (by rw[hr];decide)) (λh=>?_)|refine asA (QU l (by omega)) ?_|refine ae.tell (LZ (l.getD i 0).toNat (by have:=(hm i om).2;omega)) ⟨vq (gz (V.int .u64) (hm i om).1) tv,tv⟩ ?_|refine ai.mk (λh=>?_) (λh=>?_)|refine ag.a ?_|refine atc (C:=λb _=>fO b) (z:=0) (L:=iP l) rfl rfl ?_ ?_ qV|refine ag.mk ?_ ?_))<;>try exact aB
 all_goals (try(refine aV.mk rfl qN qN ?_ ?_ <;> repeat' (first|exact tv|exact qV|refine vq (gz (V.row _) ?_) qN|refine an ⟨nb rfl,af.row ?_ (λj hj k hk=>vq ?_ trivial)⟩ ?_|refine an ?_ ?_)))
 all_goals first|(simp;done)|(exact⟨rfl,bu _⟩)|(simp only[dQ];(try simp only[fC,fQ,mr,nO]at *);have h9:i<l.length:=(by omega);have q:=hm i h9;have q2:=uY (l.getD i 0).toNat;simp only[jD];omega)|((try simp only[fC,fQ,mr,nO]at *);have h9:i<l.length:=(by omega);have q:=hm i h9;have q2:=uY (l.getD i 0).toNat;obtain⟨hp1,hp2⟩:=hp;first|omega|(refine⟨?_,?_⟩ <;> first|trivial|omega)|(refine⟨?_,?_⟩;(· rw[hp1,lX 0 h9,aco]);rw[bW];omega))|(obtain rfl:k=0:=(by omega);exact AV rfl (λ_=>rfl) (λ_=>rfl) j)|((try simp only[fC,fQ,mr,nO]at *);have e:i=l.length:=(by omega);have e2:a=iP l:=(by rw[hp.1,e,oJ]);subst e2;first|rfl|exact λj hj k hk=>rfl)
def dN(x a b:Int):Bool:=decide (a<=x/\x<=b)
theorem MC(x a b:Int):aQ 44 [iV x,iV a,iV b] (.b (dN x a b)):=by
 refine asz Tryz.func44 λX=>?_
 (repeat' (first|refine oz ?_|refine ag.mk (λh=>h) ?_|refine Fin.tell (vq (gz V.b ?_) tv)))<;>try exact aB
 all_goals ((simp[zG,dN]at *;done))
theorem yL(x a b:Int):aQ 79 [iV x,iV a,iV b] (.b (dN x a b)):=by
 refine asz Tryz.func79 λX=>?_
 (repeat' (first|refine oz ?_|refine ag.mk (λh=>h) ?_|refine Fin.tell (vq (gz V.b ?_) tv)))<;>try exact aB
 all_goals ((simp[zG,dN]at *;done))
theorem XZ(x a b:Int):aQ 177 [iV x,iV a,iV b] (.b (dN x a b)):=by
 refine asz Tryz.func177 λX=>?_
 (repeat' (first|refine oz ?_|refine ag.mk (λh=>h) ?_|refine Fin.tell (vq (gz V.b ?_) tv)))<;>try exact aB
 all_goals ((simp[zG,dN]at *;done))
theorem CW(x a b:Int):aQ 255 [iV x,iV a,iV b] (.b (dN x a b)):=by
 refine asz Tryz.func255 λX=>?_
 (repeat' (first|refine oz ?_|refine ag.mk (λh=>h) ?_|refine Fin.tell (vq (gz V.b ?_) tv)))<;>try exact aB
 all_goals ((simp[zG,dN]at *;done))
theorem Vl(x:Int):aQ 103 [iV x] (.b (dN x 1 3)):=by
 refine asz Tryz.func103 λX=>?_
 (repeat' (first|refine oz ?_|refine ag.mk (λh=>h) ?_|refine Fin.tell (vq (gz V.b ?_) tv)))<;>try exact aB
 all_goals ((simp[zG,dN]at *;done))
theorem Vm(x:Int):aQ 145 [iV x] (.b (dN x 1 3)):=by
 refine asz Tryz.func145 λX=>?_
 (repeat' (first|refine oz ?_|refine ag.mk (λh=>h) ?_|refine Fin.tell (vq (gz V.b ?_) tv)))<;>try exact aB
 all_goals ((simp[zG,dN]at *;done))
theorem X0(a b x:Int):aQ 187 [.agg 2 (λk=>match k with|0=>iV a|_=>iV b),iV x] (.b (dN x a b)):=by
 refine asz Tryz.func187 λX=>?_
 (repeat' (first|refine oz ?_|refine ag.mk (by decide) ?_|refine ag.mk (λ_=>by decide) ?_|refine ag.mk (λh=>h) ?_|refine Fin.tell (vq (gz V.b ?_) tv)))<;>try exact aB
 all_goals ((simp[zG,dN]at *;done))
def GN(n dK:Int)(named:Bool):Bool:=dN n 0 (if named then dK else 0)
theorem an6(n dK:Int)(named:Bool):aQ 176 [iV n,iV dK,.b named] (.b (GN n dK named)):=by
 refine asz Tryz.func176 λX=>?_
 (repeat' (first|refine oz ?_|refine asA (XZ _ _ _) ?_|refine ai.mk (λh=>?_) (λh=>?_)|refine Fin.tell (vq (gz V.b ?_) tv)))<;>try exact aB
 all_goals ((simp[zG,GN,dN]at *;grind))
def Bo(x:Int)(used:Bool)(a b:Int):Bool:=if used then dN x a b else decide (x=0)
theorem Wy(x:Int)(used:Bool)(a b:Int):aQ 166 [iV x,.b used,iV a,iV b] (.b (Bo x used a b)):=by
 refine asz Tryz.func166 λX=>?_
 (repeat' (first|refine oz ?_|refine asA (yL _ _ _) ?_|refine ai.mk (λh=>?_) (λh=>?_)|refine Fin.tell (vq (gz V.b ?_) tv)))<;>try exact aB
 all_goals ((simp[zG,Bo,dN]at *;grind))
def lC(k:Int):Int:=if 1<=k/\k<=8 then 1 else if k=9\/k=10 then 2 else if k=11\/k=12 then 3 else 0
theorem P8(k:Int):aQ 42 [iV k] (iV (lC k)):=by
 refine asz Tryz.func42 λX=>?_
 (repeat' (first|refine oz ?_|refine asA (yL _ _ _) ?_|refine ai.mk (λh=>?_) (λh=>?_)|refine Fin.tell (vq (gz iV ?_) tv)))<;>try exact aB
 all_goals ((simp[dQ,lC,dN]at *;omega))
theorem Xp(k:Int):aQ 144 [iV k] (iV (lC k)):=by
 refine asz Tryz.func144 λX=>?_
 repeat' (first|refine oz ?_|refine Fin.tell (vq (gz iV ?_) tv)|refine ag.mk ?_ ?_)
 ·exact(aft [(12,3),(11,3),(10,2),(9,2),(8,1),(7,1),(6,1),(5,1),(4,1),(3,1),(2,1),(1,1)] k).1
 ·refine(aft [(12,3),(11,3),(10,2),(9,2),(8,1),(7,1),(6,1),(5,1),(4,1),(3,1),(2,1),(1,1)] k).2.trans ?_;by_cases hk:1<=k/\k<=12
  ·have h:k=1\/k=2\/k=3\/k=4\/k=5\/k=6\/k=7\/k=8\/k=9\/k=10\/k=11\/k=12:=qO;rcases h with rfl|rfl|rfl|rfl|rfl|rfl|rfl|rfl|rfl|rfl|rfl|rfl <;> rfl
  ·simp only[RP];unfold lC;rw[if_neg qO,if_neg qO,if_neg qO,if_neg qO,if_neg qO,if_neg qO,if_neg qO,if_neg qO,if_neg qO,if_neg qO,if_neg qO,if_neg qO,if_neg qO,if_neg qO,if_neg qO]
def ji{α:Type}(p:α->Bool)(i:Nat):List α->Int
 |[]=>-1
 |x::r=>bif p x then (i:Int) else ji p (i+1) r
theorem IB{α:Type}(z:α){p:α->Bool}{l:List α}{i:Nat}(h:i<l.length):ji p i (l.drop i)=bif p (l.getD i z) then (i:Int) else ji p (i+1) (l.drop (i+1)):=by
 rw[wz z h];rfl
def rq{α:Type}(key:α->Int)(dK:Int)(ahead:Int):List α->Bool
 |[]=>true
 |x::r=>bif !dN (key x) (ahead+1) dK then false else rq key dK (key x) r
theorem UZ{α:Type}(z:α){key:α->Int}{dK ahead:Int}{l:List α}{i:Nat}(h:i<l.length):rq key dK ahead (l.drop i)=bif !dN (key (l.getD i z)) (ahead+1) dK then false else rq key dK (key (l.getD i z)) (l.drop (i+1)):=by
 rw[wz z h];rfl
theorem abU(x:uS):aQ 248 [afk x] (iV x.bf):=by
 refine asz Tryz.func248 λX=>?_
 repeat' (first|refine oz ?_|refine ag.a ?_|refine Fin.tell (VW.refl tv))
 skip
theorem agQ(l:List uS)(want:Int)(hn:l.length<=100000):aQ 247 [.d (EU l),iV want,.fn 248 0 0 (λ_=>.top)] (iV (ji (λx=>decide (x.bf=want)) 0 l)):=by
 refine asz Tryz.func247 λX=>?_
 (repeat' (first|refine oz ?_|refine asI l.length (λi (a:Unit)=>⟨23,[(1,iV want),(2,.fn 248 0 0 (λ_=>.top)),(9,.d (EU l)),(10,iV l.length),(11,iV i)],e0⟩) (λi a=>ji (λx=>decide (x.bf=want)) 0 l=ji (λx=>decide (x.bf=want)) i (l.drop i)) () ?_ ?_ (λi a hi hp=>?_)|refine aU () ⟨?_,?_,?_⟩|refine asA (abU (l.getD i .z)) ?_|refine ai.mk (λh=>?_) (λh=>?_)|refine ag.a ?_|refine Fin.tell (vq (gz iV ?_) tv)|refine ag.mk ?_ ?_))<;>try exact aB
 all_goals (try(refine aV.mk rfl qN qN ?_ ?_ <;> repeat' (first|exact tv|exact qV|refine asJ ?_|refine an ?_ ?_)))
 all_goals first|exact uN|(have h9:i<l.length:=om;rw[hp,IB .z h9];first|exact(dF h).symm|exact bz h)|(have h9:=bJ h;rw[hp,sZ (by omega)];rfl)
theorem agf(l:List uS)(dK:Int)(hn:l.length<=100000)(hk:∀ x∈l,-9223372036854775808<=x.bf/\x.bf<=1000000000000):aQ 256 [.d (EU l),iV dK,.fn 248 0 0 (λ_=>.top)] (.b (rq (λx=>x.bf) dK 0 l)):=by
 have hm:∀ i,i<l.length -> -9223372036854775808<=(l.getD i .z).bf/\(l.getD i .z).bf<=1000000000000:=λi hi=>hk _ (by rw[bC,dW hi];exact List.getElem_mem hi)
 refine asz Tryz.func256 λX=>?_
 (repeat' (first|refine oz ?_|refine asI l.length (λi (a:Int)=>⟨28,[(1,iV dK),(2,.fn 248 0 0 (λ_=>.top)),(7,iV a),(10,.d (EU l)),(11,iV l.length),(12,iV i)],e0⟩) (λi a=>rq (λx=>x.bf) dK 0 l=rq (λx=>x.bf) dK a (l.drop i) /\ -9223372036854775808<=a/\a<=1000000000000) 0 ?_ ?_ (λi a hi hp=>?_)|refine aU (l.getD i .z).bf ⟨?_,⟨?_,?_⟩,?_⟩|refine asA (abU (l.getD i .z)) ?_|refine asA (CW _ _ _) ?_|refine ai.mk (λh=>?_) (λh=>?_)|refine ag.a ?_|refine Fin.tell (vq (gz V.b ?_) tv)|refine ag.mk ?_ ?_))<;>try exact aB
 all_goals (try(refine aV.mk rfl qN qN ?_ ?_ <;> repeat' (first|exact tv|exact qV|refine asJ ?_|refine an ?_ ?_)))
 all_goals first|(exact⟨rfl,by omega⟩)|(obtain⟨hp1,hp2⟩:=hp;first|exact uN|(have h9:i<l.length:=om;first|exact hm i h9|(rw[hp1,UZ .z h9];first|exact(dF h).symm|exact bz h))|(have h9:=bJ h;rw[hp1,sZ (by omega)];rfl))
theorem abV(x:uo):aQ 260 [afo x] (iV x.set):=by
 refine asz Tryz.func260 λX=>?_
 repeat' (first|refine oz ?_|refine ag.a ?_|refine Fin.tell (VW.refl tv))
 skip
theorem agR(l:List uo)(want:Int)(hn:l.length<=100000):aQ 315 [.d (l9 l),iV want,.fn 260 0 0 (λ_=>.top)] (iV (ji (λx=>decide (x.set=want)) 0 l)):=by
 refine asz Tryz.func315 λX=>?_
 (repeat' (first|refine oz ?_|refine asI l.length (λi (a:Unit)=>⟨23,[(1,iV want),(2,.fn 260 0 0 (λ_=>.top)),(9,.d (l9 l)),(10,iV l.length),(11,iV i)],e0⟩) (λi a=>ji (λx=>decide (x.set=want)) 0 l=ji (λx=>decide (x.set=want)) i (l.drop i)) () ?_ ?_ (λi a hi hp=>?_)|refine aU () ⟨?_,?_,?_⟩|refine asA (abV (l.getD i .z)) ?_|refine ai.mk (λh=>?_) (λh=>?_)|refine ag.a ?_|refine Fin.tell (vq (gz iV ?_) tv)|refine ag.mk ?_ ?_))<;>try exact aB
 all_goals (try(refine aV.mk rfl qN qN ?_ ?_ <;> repeat' (first|exact tv|exact qV|refine asJ ?_|refine an ?_ ?_)))
 all_goals first|exact uN|(have h9:i<l.length:=om;rw[hp,IB .z h9];first|exact(dF h).symm|exact bz h)|(have h9:=bJ h;rw[hp,sZ (by omega)];rfl)
theorem agh(l:List uo)(dK:Int)(hn:l.length<=100000)(hk:∀ x∈l,-9223372036854775808<=x.set/\x.set<=1000000000000):aQ 259 [.d (l9 l),iV dK,.fn 260 0 0 (λ_=>.top)] (.b (rq (λx=>x.set) dK 0 l)):=by
 have hm:∀ i,i<l.length -> -9223372036854775808<=(l.getD i .z).set/\(l.getD i .z).set<=1000000000000:=λi hi=>hk _ (by rw[bC,dW hi];exact List.getElem_mem hi)
 refine asz Tryz.func259 λX=>?_
 (repeat' (first|refine oz ?_|refine asI l.length (λi (a:Int)=>⟨28,[(1,iV dK),(2,.fn 260 0 0 (λ_=>.top)),(7,iV a),(10,.d (l9 l)),(11,iV l.length),(12,iV i)],e0⟩) (λi a=>rq (λx=>x.set) dK 0 l=rq (λx=>x.set) dK a (l.drop i) /\ -9223372036854775808<=a/\a<=1000000000000) 0 ?_ ?_ (λi a hi hp=>?_)|refine aU (l.getD i .z).set ⟨?_,⟨?_,?_⟩,?_⟩|refine asA (abV (l.getD i .z)) ?_|refine asA (CW _ _ _) ?_|refine ai.mk (λh=>?_) (λh=>?_)|refine ag.a ?_|refine Fin.tell (vq (gz V.b ?_) tv)|refine ag.mk ?_ ?_))<;>try exact aB
 all_goals (try(refine aV.mk rfl qN qN ?_ ?_ <;> repeat' (first|exact tv|exact qV|refine asJ ?_|refine an ?_ ?_)))
 all_goals first|(exact⟨rfl,by omega⟩)|(obtain⟨hp1,hp2⟩:=hp;first|exact uN|(have h9:i<l.length:=om;first|exact hm i h9|(rw[hp1,UZ .z h9];first|exact(dF h).symm|exact bz h))|(have h9:=bJ h;rw[hp1,sZ (by omega)];rfl))
theorem abT(x:gX):aQ 295 [Yn x] (iV x.id):=by
 refine asz Tryz.func295 λX=>?_
 repeat' (first|refine oz ?_|refine ag.a ?_|refine Fin.tell (VW.refl tv))
 skip
theorem agP(l:List gX)(want:Int)(hn:l.length<=100000):aQ 299 [.d (jr l),iV want,.fn 295 0 0 (λ_=>.top)] (iV (ji (λx=>decide (x.id=want)) 0 l)):=by
 refine asz Tryz.func299 λX=>?_
 (repeat' (first|refine oz ?_|refine asI l.length (λi (a:Unit)=>⟨23,[(1,iV want),(2,.fn 295 0 0 (λ_=>.top)),(9,.d (jr l)),(10,iV l.length),(11,iV i)],e0⟩) (λi a=>ji (λx=>decide (x.id=want)) 0 l=ji (λx=>decide (x.id=want)) i (l.drop i)) () ?_ ?_ (λi a hi hp=>?_)|refine aU () ⟨?_,?_,?_⟩|refine asA (abT (l.getD i .z)) ?_|refine ai.mk (λh=>?_) (λh=>?_)|refine ag.a ?_|refine Fin.tell (vq (gz iV ?_) tv)|refine ag.mk ?_ ?_))<;>try exact aB
 all_goals (try(refine aV.mk rfl qN qN ?_ ?_ <;> repeat' (first|exact tv|exact qV|refine asJ ?_|refine an ?_ ?_)))
 all_goals first|exact uN|(have h9:i<l.length:=om;rw[hp,IB .z h9];first|exact(dF h).symm|exact bz h)|(have h9:=bJ h;rw[hp,sZ (by omega)];rfl)
theorem age(l:List gX)(dK:Int)(hn:l.length<=100000)(hk:∀ x∈l,-9223372036854775808<=x.id/\x.id<=1000000000000):aQ 294 [.d (jr l),iV dK,.fn 295 0 0 (λ_=>.top)] (.b (rq (λx=>x.id) dK 0 l)):=by
 have hm:∀ i,i<l.length -> -9223372036854775808<=(l.getD i .z).id/\(l.getD i .z).id<=1000000000000:=λi hi=>hk _ (by rw[bC,dW hi];exact List.getElem_mem hi)
 refine asz Tryz.func294 λX=>?_
 (repeat' (first|refine oz ?_|refine asI l.length (λi (a:Int)=>⟨28,[(1,iV dK),(2,.fn 295 0 0 (λ_=>.top)),(7,iV a),(10,.d (jr l)),(11,iV l.length),(12,iV i)],e0⟩) (λi a=>rq (λx=>x.id) dK 0 l=rq (λx=>x.id) dK a (l.drop i) /\ -9223372036854775808<=a/\a<=1000000000000) 0 ?_ ?_ (λi a hi hp=>?_)|refine aU (l.getD i .z).id ⟨?_,⟨?_,?_⟩,?_⟩|refine asA (abT (l.getD i .z)) ?_|refine asA (CW _ _ _) ?_|refine ai.mk (λh=>?_) (λh=>?_)|refine ag.a ?_|refine Fin.tell (vq (gz V.b ?_) tv)|refine ag.mk ?_ ?_))<;>try exact aB
 all_goals (try(refine aV.mk rfl qN qN ?_ ?_ <;> repeat' (first|exact tv|exact qV|refine asJ ?_|refine an ?_ ?_)))
 all_goals first|(exact⟨rfl,by omega⟩)|(obtain⟨hp1,hp2⟩:=hp;first|exact uN|(have h9:i<l.length:=om;first|exact hm i h9|(rw[hp1,UZ .z h9];first|exact(dF h).symm|exact bz h))|(have h9:=bJ h;rw[hp1,sZ (by omega)];rfl))
theorem ZI (s : aZ) (want : Int) (hn : s.aN.length <= 100000) : aQ 240 [jk s, iV want] (iV (ji (λx => decide (x.bf = want)) 0 s.aN)) := by
  refine ae.of Tryz.func240 rfl rfl (by simp [Tryz.f240]) λX => ?_
  repeat' (first | refine oz ?_ | refine ae.tell (agQ s.aN want hn) ⟨VW.refl trivial, VW.refl trivial, asJ trivial, trivial⟩ ?_ | refine ag.a ?_ | refine Fin.tell (VW.refl trivial))
  skip
theorem KQ (s : aZ) (want : Int) (hn : s.ay.length <= 100000) : aQ 267 [jk s, iV want] (iV (ji (λx => decide (x.id = want)) 0 s.ay)) := by
  refine ae.of Tryz.func267 rfl rfl (by simp [Tryz.f267]) λX => ?_
  repeat' (first | refine oz ?_ | refine ae.tell (agP s.ay want hn) ⟨VW.refl trivial, VW.refl trivial, asJ trivial, trivial⟩ ?_ | refine ag.a ?_ | refine Fin.tell (VW.refl trivial))
  skip
theorem O3 (s : aZ) (want : Int) (hn : s.opens.length <= 100000) : aQ 300 [jk s, iV want] (iV (ji (λx => decide (x.set = want)) 0 s.opens)) := by
  refine ae.of Tryz.func300 rfl rfl (by simp [Tryz.f300]) λX => ?_
  repeat' (first | refine oz ?_ | refine ae.tell (agR s.opens want hn) ⟨VW.refl trivial, VW.refl trivial, asJ trivial, trivial⟩ ?_ | refine ag.a ?_ | refine Fin.tell (VW.refl trivial))
  skip
theorem Gw(n:Nat)(g:Nat->Nat->D)(hn:n<=1000000):aQ 74 [.d (.sl n 1 g)] (.d (.sl n 1 g)):=by
 refine asz Tryz.func74 λX=>?_
 (repeat' (first|refine oz ?_|refine ai.mk (λh=>?_) (λh=>?_)|refine ag.mk (by decide) ?_|refine sS.mk (λt ht=>?_)|refine atL rfl rfl ?_ ?_|refine Fin.tell (asQ ?_)|refine ag.mk ?_ ?_))<;>try exact aB
 all_goals first|(exact λj hj k hk=>Qi rfl j k)|(exact ht aj)
theorem akN(n:Nat)(g:Nat->Nat->D)(hn:n<=1000000):aQ 205 [.d (.sl n 1 g)] (.d (.sl n 1 g)):=by
 refine asz Tryz.func205 λX=>?_
 (repeat' (first|refine oz ?_|refine ai.mk (λh=>?_) (λh=>?_)|refine ag.mk (by decide) ?_|refine sS.mk (λt ht=>?_)|refine atL rfl rfl ?_ ?_|refine Fin.tell (asQ ?_)|refine ag.mk ?_ ?_))<;>try exact aB
 all_goals first|(exact λj hj k hk=>Qi rfl j k)|(exact ht aj)
theorem IP(n:Nat)(g:Nat->Nat->D)(hn:n<=1000000):aQ 91 [.d (.sl n 1 g)] (.d (.sl n 1 g)):=by
 refine asz Tryz.func91 λX=>?_
 (repeat' (first|refine oz ?_|refine ai.mk (λh=>?_) (λh=>?_)|refine ag.mk (by decide) ?_|refine sS.mk (λt ht=>?_)|refine atL rfl rfl ?_ ?_|refine Fin.tell (asQ ?_)|refine ag.mk ?_ ?_))<;>try exact aB
 all_goals first|(exact λj hj k hk=>Qi rfl j k)|(exact ht aj)
theorem VT(n:Nat)(g:Nat->Nat->D)(hn:n<=1000000):aQ 182 [.d (.sl n 2 g)] (.d (.sl n 2 g)):=by
 refine asz Tryz.func182 λX=>?_
 (repeat' (first|refine oz ?_|refine ai.mk (λh=>?_) (λh=>?_)|refine ag.mk (by decide) ?_|refine sS.mk (λt ht=>?_)|refine atL rfl rfl ?_ ?_|refine Fin.tell (asQ ?_)|refine ag.mk ?_ ?_))<;>try exact aB
 all_goals first|(exact λj hj k hk=>Qi rfl j k)|(exact ht aj)
theorem ape(kind:Int)(hk:kind=1\/kind=6\/kind=7):aQ 217 [iV kind] (.d (wK (nK kind))):=by
 refine asz Tryz.func217 λX=>?_
 (repeat' (first|refine oz ?_|refine asA (ahY _ _) ?_|refine asA (akH _ _) ?_|refine asA (amA ⟨_,_,_,_,_⟩) ?_|refine asA (amJ ⟨_,_,_,_,_⟩) ?_|refine ai.n (λh=>?_)|refine ai.mk (λh=>?_) (λh=>?_)|refine ag.a ?_|refine atj (C:=BP) (z:=kD.z) (L:=nK kind) rfl rfl ?_ ?_|refine Fin.tell (asQ ?_)))<;>try exact aB
 all_goals first|(obtain rfl:=aS h;decide)|(obtain rfl:=aS h;intro j hj k hk;(rcases j with _|_|_|_|_|_|_|_|_|_|j) <;> (rcases k with _|_|_|_|_|k) <;> first|omega|kernel_rfl)|(simp only[fQ]at *;unfold nK;rw[if_neg (by omega),if_neg (by omega),if_neg (by omega),if_neg (by omega),if_neg (by omega),if_neg (by omega),if_neg (by omega)];rfl)
end Go.Proofs.YtnibdnahojjcgaaGreat
