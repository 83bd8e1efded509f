/- A part of the proof. -/
import Derived.Test.YtnibdnahojjcgaaGreatB07
import Derived.Test.YtnibdnahojjcgaaGreatB14
namespace Go.Proofs.YtnibdnahojjcgaaGreat
set_option maxRecDepth 100000
set_option maxHeartbeats 16000000
set_option linter.unusedVariables false
set_option linter.unusedSimpArgs false
open Go.RowKit
section
def jl(i n z:Nat)(h:Nat->Nat->D):V->V
 |.row j m=>bif Nat.beq j i&&Nat.beq m n then .d (.sl n z h) else (bif Nat.beq j i then .top else .row j m)
 |.vw j m lo k=>bif Nat.beq j i&&(Nat.beq m n&&Nat.ble (lo+k) n) then .d (.sl k z (λq=>h (lo+q))) else (bif Nat.beq j i then .top else .vw j m lo k)
 |.rp j m q c=>bif Nat.beq j i then .top else .rp j m q c
 |.agg m g=>.agg m (λk=>jl i n z h (g k))
 |.fV m g=>.fV m (λk=>jl i n z h (g k))
 |.fn f nf m g=>.fn f nf m (λk=>jl i n z h (g k))
 |.ku t w v=>.ku t w (jl i n z h v)
 |v=>v
def N9(i n z:Nat)(h:Nat->Nat->D):aG->aG
 |.dead=>.dead
 |.blk m g=>.blk m (λk=>jl i n z h (g k))
 |.row E s m g=>.row E s m (λj k=>jl i n z h (g j k))
 |.map es=>.map (es.map λp=>(p.1,jl i n z h p.2))
def Am(i n z:Nat)(h:Nat->Nat->D)(t:ST):ST:=⟨t.st.map (λp=>(p.1,bif Nat.beq p.1 i then .dead else N9 i n z h p.2)),t.nx⟩
def JW(i n z:Nat)(h:Nat->Nat->D)(s:AS):AS:=⟨s.nt,s.sl.map (λp=>(p.1,jl i n z h p.2)),Am i n z h s.s⟩
section
variable {i n z:Nat} {h:Nat->Nat->D}
theorem VK:∀(l:List (Nat×V)) (j:Nat),dG (l.map λp=>(p.1,jl i n z h p.2)) j=jl i n z h (dG l j)
 |[],j=>rfl
 |(k,v)::r,j=>by
  show(bif Nat.beq k j then _ else dG _ j)=jl i n z h (bif Nat.beq k j then v else dG r j);cases Nat.beq k j
  ·exact VK r j
  ·rfl
theorem LU(t:ST)(j:Nat):(Am i n z h t).get j=bif Nat.beq j i then .dead else N9 i n z h (t.get j):=by
 show dM (t.st.map _) j=_;show _=bif Nat.beq j i then aG.dead else N9 i n z h (dM t.st j)
 induction t.st with
 |nil=>show aG.dead=_;cases Nat.beq j i <;> rfl
 |cons p r ih=>
  obtain⟨k,v⟩:=p;show(bif Nat.beq k j then _ else dM _ j)=bif Nat.beq j i then aG.dead else N9 i n z h (bif Nat.beq k j then v else dM r j)
  rcases hk:Nat.beq k j with _|_
  ·exact ih
  ·have:=dH hk;subst this;rfl
theorem WO{t:ST}{j E s m:Nat}{g:Nat->Nat->V}(e:(Am i n z h t).get j = .row E s m g):j≠i/\∃ g0,t.get j = .row E s m g0/\g=λa b=>jl i n z h (g0 a b):=by
 rw[LU]at e;rcases hj:Nat.beq j i with _|_
 ·rw[hj,di]at e;refine⟨λe2=>by subst e2;simp at hj,?_⟩;rcases ho:t.get j with _|_|⟨E',s',m',g'⟩|_
  all_goals rw[ho]at e
  all_goals first|(cases e;done)|skip
  injection e with a b c d
  subst a b c d;exact⟨g',rfl,rfl⟩
 ·rw[hj]at e;cases e
end
structure jB {t0:ST} (X:Cx t0) (t:ST) (i E z n:Nat) (g:Nat->Nat->V) (h:Nat->Nat->D):Prop where
 lo:t0.nx<=i
 ob:t.get i = .row E z n g
 cells:∀ j,j<n->∀ k,k<z->∀(G:Gh) (o:Nat->aG) (w:World) (u:Value),aO G o w (g j k) u->jh G.F w (h j k) u
def Gh.dC(G:Gh)(o:Nat->aG)(i:Nat):Gh:=⟨λb=>G.F b\/dA G o i b,G.ρ⟩
section
variable {t0:ST} {X:Cx t0} {G:Gh} {w:World} {t:ST} {i E z n:Nat} {g:Nat->Nat->V} {h:Nat->Nat->D}
theorem X6(hg:Good G t.get w){d:D}{u:Value}(hd:jh G.F w d u):jh (G.dC t.get i).F w d u:=hd.mono (bu _) (λ_ _ _=>rfl) (λb hb _=>.inl hb)
theorem aeh(hf:jB X t i E z n g h)(hg:Good G t.get w){A:Option Addr}{c:Nat}(hρ:G.ρ i=some (.row A c)):∀ lo m,lo+m<=n->∀ B c',(m<=c'/\c'<=maxLen/\(B=none->c'=0)/\(0<m->B=A.map (·.add (lo*z))))->jh (G.dC t.get i).F w (.sl m z (λq=>h (lo+q))) (.slice B m c'):=by
 intro lo m hm B c' ⟨h1,h2,h3,h4⟩;obtain⟨_,_,hz,A',cc,h5,h6⟩:=hg.row _ _ _ _ _ hf.ob;rw[hρ]at h5;injection h5 with h5
 injection h5 with h5 h7
 subst h5 h7;refine⟨B,c',rfl,h1,h2,h3,λj hj k hk=>?_⟩;rcases h6 with ⟨_,h6⟩|⟨hc,b,cs,rfl,p1,p2,p3,p4,p5⟩
 ·omega
 ·obtain⟨x,q1,q2,q3⟩:=p5 (lo+j) qO k hk;have hw:dA G t.get i b:=by unfold dA;rw[hf.ob];exact⟨_,c,hρ,hc,0,rfl⟩
  refine⟨b,lo*z,x,?_,.inr hw,(Array.getElem?_eq_some_iff.1 p1).1,?_,q2,X6 hg (hf.cells _ qO k hk _ _ _ _ q3)⟩
  ·rw[h4 qO];simp[Addr.add];exact λe=>e.symm
  ·simp only[World.cell?,p1];rw[show lo*z+(j*z+k)=(lo+j)*z+k by rw[Nat.add_mul];omega];exact q1
theorem GZ(hf:jB X t i E z n g h)(hg:Good G t.get w){v:V}:∀ {u:Value},aO G t.get w v u->aO (G.dC t.get i) (Am i n z h t).get w (jl i n z h v) u:=by
 have hrow:∀ j E' s m g',(Am i n z h t).get j = .row E' s m g'->∃ g0,t.get j = .row E' s m g0:=λj E' s m g' e=>by
  obtain⟨_,g0,e1,_⟩:=WO e;exact⟨g0,e1⟩
 induction v with
 |top=>exact λ_=>trivial
 |d x=>intro u hu;exact X6 hg hu
 |dE=>exact λhu=>hu
 |dp s q=>
  rintro u ⟨b,off,rfl,h1,h2⟩;exact⟨b,off,rfl,λhs=>⟨.inl (h1 hs).1,(h1 hs).2⟩,λk hk=>by obtain⟨x,p1,p2,p3⟩:=h2 k hk;exact⟨x,p1,p2,X6 hg p3⟩⟩
 |ptr j off=>exact λhu=>hu
 |rp j m q c=>
  intro u hu;show aO _ _ _ (bif Nat.beq j i then .top else .rp j m q c) u;rcases hj:Nat.beq j i with _|_
  ·obtain⟨A,cc,h1,h2,h3⟩:=hu;refine⟨A,cc,h1,h2,λE' s m' g' e=>?_⟩;obtain⟨g0,e1⟩:=hrow _ _ _ _ _ e;exact h3 E' s m' g0 e1
  ·trivial
 |row j m=>
  intro u hu;obtain⟨A,c,h1,h2,h3⟩:=hu;show aO _ _ _ (bif Nat.beq j i&&Nat.beq m n then .d (.sl n z h) else (bif Nat.beq j i then .top else .row j m)) u;rcases hj:Nat.beq j i with _|_
  ·refine⟨A,c,h1,h2,λE' s m' g' e=>?_⟩;obtain⟨g0,e1⟩:=hrow _ _ _ _ _ e;exact h3 E' s m' g0 e1
  ·rcases hm:Nat.beq m n with _|_
   ·trivial
   ·have:=dH hj;subst this;have:=dH hm;subst this;have hu2:=(h3 _ _ _ _ hf.ob).2 rfl;subst hu2;have hc:m<=c/\c<=maxLen/\(A=none->c=0):=by
     obtain⟨_,_,_,A',cc,q1,q2⟩:=hg.row _ _ _ _ _ hf.ob;rw[h1]at q1;injection q1 with q1
     injection q1 with q1 q3
     subst q1 q3;rcases q2 with ⟨q2,q3⟩|⟨q2,b,cs,rfl,p1,p2,p3,p4,p5⟩
     ·subst q2 q3;exact⟨bu _,cu _,λ_=>rfl⟩
     ·exact⟨p3,p4,λe=>by cases e⟩
    have:=aeh hf hg h1 0 m qO A c ⟨hc.1,hc.2.1,hc.2.2,λ_=>by cases A <;> simp[Addr.add]⟩;simp only[jm]at this;exact this
 |vw j m lo k=>
  intro u hu;obtain⟨A,c,h1,h2,h3⟩:=hu;show aO _ _ _ (bif Nat.beq j i&&(Nat.beq m n&&Nat.ble (lo+k) n) then .d (.sl k z (λq=>h (lo+q))) else (bif Nat.beq j i then .top else .vw j m lo k)) u;rcases hj:Nat.beq j i with _|_
  ·refine⟨A,c,h1,h2,λE' s m' g' e=>?_⟩;obtain⟨g0,e1⟩:=hrow _ _ _ _ _ e;exact h3 E' s m' g0 e1
  ·rcases hm:Nat.beq m n&&Nat.ble (lo+k) n with _|_
   ·trivial
   ·obtain⟨hm1,hm2⟩:=kJ hm;have:=dH hj;subst this;have:=dH hm1;subst this;obtain⟨B,c',rfl,q1,q2,q3,q4,_⟩:=(h3 _ _ _ _ hf.ob).2 rfl;exact aeh hf hg h1 lo k (CJ hm2) B c' ⟨q1,q2,q3,q4⟩
 |agg m q ih=>rintro u ⟨cs,rfl,hn,hc⟩;exact⟨cs,rfl,hn,λk x hx=>⟨(hc k x hx).1,ih k (hc k x hx).2⟩⟩
 |fV m q ih=>rintro u ⟨cs,rfl,hn,hc⟩;exact⟨cs,rfl,hn,λk x hx=>ih k (hc k x hx)⟩
 |fn f nf m q ih=>rintro u ⟨fs,cs,rfl,hn,hm,hc⟩;exact⟨fs,cs,rfl,hn,hm,λk x hx=>ih k (hc k x hx)⟩
 |mp j=>exact λhu=>hu
 |ku b b' v ih=>intro u hu;exact⟨λe=>ih (hu.1 e),hu.2⟩
theorem Qc{j b:Nat}(ho:dA (G.dC t.get i) (Am i n z h t).get j b):j≠i/\dA G t.get j b:=by
 unfold dA at ho ⊢;rw[LU]at ho;rcases hj:Nat.beq j i with _|_
 ·rw[hj,di]at ho;refine⟨λe=>by subst e;simp at hj,?_⟩;rcases e:t.get j with _|_|_|_
  all_goals (rw[e]at ho;exact ho)
 ·rw[hj]at ho;exact ho.elim
theorem VL(hf:jB X t i E z n g h)(hg:bV G t w):bV (G.dC t.get i) (Am i n z h t) w:=by
 refine⟨⟨λj m q e=>?_,λj E' s m q e=>?_,λj es e=>?_,λj b ho hF=>?_,λb hF=>?_,λj k b h1 h2=>?_⟩,λj hj=>⟨(hg.jK j hj).1,?_⟩⟩
 ·rw[LU]at e;rcases hj:Nat.beq j i with _|_
  ·rw[hj,di]at e;rcases ho:t.get j with _|⟨m',g'⟩|_|_
   all_goals rw[ho]at e
   all_goals first|(cases e;done)|skip
   injection e with a b
   subst a b;obtain⟨b,cs,ty,p1,p2,p3,p4⟩:=hg.aK.blk _ _ _ ho;exact⟨b,cs,ty,p1,p2,p3,λk x hk=>⟨(p4 k x hk).1,GZ hf hg.aK (p4 k x hk).2⟩⟩
  ·rw[hj]at e;cases e
 ·obtain⟨_,g0,e1,rfl⟩:=WO e;obtain⟨p1,p2,p3,A,c,p4,p5⟩:=hg.aK.row _ _ _ _ _ e1;refine⟨p1,p2,p3,A,c,p4,?_⟩;rcases p5 with p5|⟨p5,b,cs,p6,p7,p8,p9,p10,p11⟩
  ·exact .inl p5
  ·refine .inr ⟨p5,b,cs,p6,p7,p8,p9,p10,λj hj k hk=>?_⟩;obtain⟨x,q1,q2,q3⟩:=p11 j hj k hk;exact⟨x,q1,q2,GZ hf hg.aK q3⟩
 ·rw[LU]at e;rcases hj:Nat.beq j i with _|_
  ·rw[hj,di]at e;rcases ho:t.get j with _|_|_|es'
   all_goals rw[ho]at e
   all_goals first|(cases e;done)|skip
   injection e with a
   subst a;obtain⟨b,jd,cl,p1,p2,p3⟩:=hg.aK.map _ _ ho;refine⟨b,jd,cl,p1,p2,?_⟩;exact p3.map (jl i n z h) λv u hv=>GZ hf hg.aK hv
  ·rw[hj]at e;cases e
 ·obtain⟨hne,ho⟩:=Qc ho;rcases hF with hF|hF
  ·exact hg.aK.wS j b ho hF
  ·exact hne (hg.aK.sep j i b ho hF)
 ·rcases hF with hF|hF
  ·exact hg.aK.vK b hF
  ·exact hg.aK.lt hF
 ·exact hg.aK.sep j k b (Qc h1).2 (Qc h2).2
 ·rw[LU,(hg.jK j hj).2];cases Nat.beq j i <;> rfl
theorem WN(hf:jB X t i E z n g h)(hx:Stp X.G X.t.get X.w G t.get w):Stp X.G X.t.get X.w (G.dC t.get i) (Am i n z h t).get w where
 os:=hx.os
 tape:=hx.tape
 output:=hx.output
 size:=hx.size
 keep:=hx.keep
 F1:=λb hb hl=>.inl (hx.F1 b hb hl)
 F2:=λb hb=>by
  rcases hb with hb|hb
  ·exact hx.F2 b hb
  ·rcases hx.own i b hb with h1|h1
   ·have:=(X.hg.jK i hf.lo).2;unfold dA at h1;rw[show X.t.get i=t0.get i from rfl,this]at h1;exact h1.elim
   ·exact .inr h1
 own:=λj b ho=>hx.own j b (Qc ho).2
 loc:=hx.loc
 row:=λj A c hj=>by
  obtain⟨A',c',e1,e2⟩:=hx.row j A c hj;refine⟨A',c',e1,λE' s m q e=>?_⟩;obtain⟨_,g0,e3,_⟩:=WO e;exact e2 E' s m g0 e3
theorem T.dC{c:Code}{Q:Exit->AS->Prop}{s:AS}(hf:jB X s.s i E z n g h)(hh:T X c Q (JW i n z h s)):T X c Q s:=T.mk λa w hm=>by
 obtain⟨G,hg,hs,hx⟩:=hm;refine hh.h a w ⟨G.dC s.s.get i,VL hf hg,⟨⟨hs.nt,λj=>?_⟩,hs.df⟩,WN hf hx⟩;rw[show dG (JW i n z h s).sl j=jl i n z h (dG s.sl j) from VK s.sl j];exact GZ hf hg.aK (hs.sl j)
theorem Fin.dC{v:V}{K:V->ST->Prop}(hf:jB X t i E z n g h)(hh:Fin X (jl i n z h v) (Am i n z h t) K):Fin X v t K:=Fin.mk λG w u hg hx hu=>
 hh.h _ w u (VL hf hg) (WN hf hx) (GZ hf hg.aK hu)
end
end
section
section
variable {t0:ST} {X:Cx t0} {Q:Exit->AS->Prop} {s s2:AS}
@[irreducible] def TL (X:Cx t0) (c:Code) (Q:Exit->AS->Prop) (s:AS):Prop:=
 ∀ a w,Mod X s a w->∀ b k cs,∃ e a' w',(∃ s',Q e s'/\Mod X s' a' w')/\Arrives Tryz.prog (lone (b.at a (.code c :: .inLoop c::k)) cs w) b k cs e a' w'
theorem TL.h{c:Code}(h:TL X c Q s):∀ a w,Mod X s a w->∀ b k cs,∃ e a' w',(∃ s',Q e s'/\Mod X s' a' w')/\Arrives Tryz.prog (lone (b.at a (.code c :: .inLoop c::k)) cs w) b k cs e a' w':=by unfold TL at h;exact h
theorem as5{c:Code}(h:TL X c Q s):T X (.loop c) Q s:=T.mk λa w hm=>by
 intro b k cs;obtain⟨e,a',w',hq,harr⟩:=h.h a w hm b k cs;exact⟨e,a',w',hq,.of_steps (.one step_loop) harr⟩
def aos(K:AS->Prop)(Q:Exit->AS->Prop):Exit->AS->Prop
 |.normal,s=>K s
 |e,s=>Q e s
theorem TL.round{c:Code}(h:T X c (aos (TL X c Q) Q) s):TL X c Q s:=by
 unfold TL;intro a w hm b k cs;obtain⟨e,a₁,w₁,⟨s',hq,hm'⟩,harr⟩:=h.h a w hm b (.inLoop c::k) cs;cases e with
 |normal=>
  have hq:TL X c Q s':=hq;obtain⟨e₂,a₂,w₂,hq₂,harr₂⟩:=hq.h a₁ w₁ hm' b k cs;exact⟨e₂,a₂,w₂,hq₂,.of_steps (Steps.trans harr (.one step_inLoop)) harr₂⟩
 |exit id=>exact⟨_,a₁,w₁,⟨s',hq,hm'⟩,.pass (x:=.inLoop c) rfl (λ_ _=>.inl (by simp)) harr⟩
 |goto l=>exact⟨_,a₁,w₁,⟨s',hq,hm'⟩,.pass (x:=.inLoop c) rfl (λ_ _=>.inl (by simp)) harr⟩
 |ret=>exact⟨_,a₁,w₁,⟨s',hq,hm'⟩,.pass (x:=.inLoop c) rfl (λ_ _=>.inl (by simp)) harr⟩
 |panic ch=>exact⟨_,a₁,w₁,⟨s',hq,hm'⟩,.pass (x:=.inLoop c) rfl (λ_ _=>.inl (by simp)) harr⟩
 |outgrown=>exact⟨_,a₁,w₁,⟨s',hq,hm'⟩,.pass (x:=.inLoop c) rfl (λ_ _=>.inl (by simp)) harr⟩
theorem TL.le{c:Code}(s2:AS)(hl:aV t0.nx s s2)(h:TL X c Q s2):TL X c Q s:=by
 unfold TL;exact λa w hm=>h.h a w (hm.le hl)
theorem aue{c:Code}(S:Nat->AS)(n:Nat)(h0:aV t0.nx s (S 0))(hr:∀ i,i<=n->T X c (λe s'=>match e with|.normal=>i<n/\aV t0.nx s' (S (i+1))|e=>Q e s') (S i)):T X (.loop c) Q s:=
 T.loop (ι:={ i:Nat // i<=n }) (λi=>S i.1) (λi=>n-i.1) ⟨0,cu _⟩ h0 λ⟨i,hi⟩=>T.mono (hr i hi) λe s' h=>by
  cases e
  case normal=>
   have h:i<n/\aV t0.nx s' (S (i+1)):=h;exact⟨⟨i+1,h.1⟩,h.2,by show n-(i+1)<n-i;omega⟩
  all_goals exact h
end
def MI(N:Nat)(g:Nat->V):Nat->List V->Prop
 |_,[]=>True
 |k,v::r=>VW N (g k) v/\MI N g (k+1) r
theorem UC {N : Nat} {g : Nat -> V} : ∀ {l : List V} {s : Nat}, MI N g s l -> ∀ k v, l[k]? = some v -> VW N (g (s + k)) v
  | [], s, _, k, v, h => by simp at h
  | x :: r, s, hc, k, v, h => by
    cases k with
    | zero => obtain rfl : x = v := by simpa using h
              exact hc.1
    | succ k => rw [show s + (k + 1) = s + 1 + k by omega]; exact UC hc.2 k v (by simpa using h)
def lg(l:List V)(k:Nat):V:=l.getD k .top
theorem VW.cells{N n:Nat}{g h:Nat->V}(l:List V)(hl:l.length=n)(hh:∀ k,k<n->h k=lg l k)(hc:MI N g 0 l):VW N (.agg n g) (.agg n h):=VW.agg λk hk=>by
 have e:l[k]?=some (lg l k):=by unfold lg;rw[bC,dW qO];rfl
 rw[hh k hk];have:=UC hc k _ e;rwa [jm]at this
theorem asG{N n:Nat}{g h:Nat->V}(l:List V)(hl:l.length=n)(hh:∀ k,k<n->h k=lg l k)(hc:MI N g 0 l):VW N (.fV n g) (.fV n h):=VW.fV λk hk=>by
 have e:l[k]?=some (lg l k):=by unfold lg;rw[bC,dW qO];rfl
 rw[hh k hk];have:=UC hc k _ e;rwa [jm]at this
def e0:ST:=⟨[],0⟩
abbrev aQ(f:Nat)(args:List V)(r:V):Prop:=ae f args e0 (λv t=>v=r/\t=e0)
theorem Fin.tell{X:Cx e0}{v r:V}{t:ST}(h:VW 0 v r):Fin X v t (λv t=>v=r/\t=e0):=
 Fin.done r e0 (bu _) (cu _) trivial h ⟨rfl,rfl⟩
theorem ae.tell{f:Nat}{args args':List V}{st:ST}{r:V}{K:V->ST->Prop}(h:aQ f args' r)(ha:kS 0 (bZ []) args args')(hk:oN st.nx λn=>K (o8 [] n r) st):ae f args st K:=by
 rw[uA]at hk;exact ae.frame h rfl (by simp) rfl ha trivial (λv t ⟨e1,e2⟩=>by subst e1 e2;exact hk)
def zU(st:ST)(aC:List Nat)(n:Nat)(t:ST):ST:=⟨(List.range (aC.length+(t.nx-aC.length))).map (λk=>(kV aC n k,lQ (λk=>some (kV aC n k)) (t.get k)))++st.st,n+(t.nx-aC.length)⟩
end
abbrev iD(n:Int):D:=.v (.int .i64 n)
abbrev bD(t:Bool):D:=.v (.bool t)
def Ho(b:List UInt8):D:=.v (.string (iU b))
def fO(b:UInt8):D:=.v (.int .u8 b.toNat)
def dB(b:List UInt8):D:=.sl b.length 1 (λj _=>fO (b.getD j 0))
def iH(l:List Int):D:=.sl l.length 1 (λj _=>iD (l.getD j 0))
structure aY where
 num:Int
 aJ:Int
 n:Nat
 b:List UInt8
def aY.z:aY:=⟨0,0,0,[]⟩
def jW(f:aY):Nat->D
 |0=>iD f.num|1=>iD f.aJ|2=>.v (.int .u64 f.n)|_=>dB f.b
def iW(l:List aY):D:=.sl l.length 4 (λj=>jW (l.getD j .z))
structure kD where
 num:Int
 aJ:Int
 since:Int
 kz:Bool
 many:Bool
def kD.z:kD:=⟨0,0,0,false,false⟩
def BP(f:kD):Nat->D
 |0=>iD f.num|1=>iD f.aJ|2=>iD f.since|3=>bD f.kz|_=>bD f.many
def wK(l:List kD):D:=.sl l.length 5 (λj=>BP (l.getD j .z))
structure aI where
 kind:Int
 bf:Int
 seq:Int
 set:Int
 id:Int
 n:Int
 chunks:List Int
 text:List UInt8
def aI.z:aI:=⟨0,0,0,0,0,0,[],[]⟩
def kY(c:aI):Nat->D
 |0=>iD c.kind|1=>iD c.bf|2=>iD c.seq|3=>iD c.set|4=>iD c.id|5=>iD c.n|6=>iH c.chunks|_=>Ho c.text
structure eY where
 code:Int
 n:Int
def eY.z:eY:=⟨0,0⟩
def jU(r:eY):Nat->D
 |0=>iD r.code|_=>iD r.n
def MS(l:List eY):D:=.sl l.length 2 (λj=>jU (l.getD j .z))
structure gX where
 id:Int
 set:Int
 chunks:List Int
 held:Bool
 tag:List UInt8
def gX.z:gX:=⟨0,0,[],false,[]⟩
def eX(x:gX):Nat->D
 |0=>iD x.id|1=>iD x.set|2=>iH x.chunks|3=>bD x.held|_=>Ho x.tag
def jr(l:List gX):D:=.sl l.length 5 (λj=>eX (l.getD j .z))
structure uo where
 set:Int
 bf:Int
def uo.z:uo:=⟨0,0⟩
def dY(x:uo):Nat->D
 |0=>iD x.set|_=>iD x.bf
def l9(l:List uo):D:=.sl l.length 2 (λj=>dY (l.getD j .z))
structure uS where
 bf:Int
 seq:Int
 last:eY
def uS.z:uS:=⟨0,0,.z⟩
def gW(x:uS):Nat->D
 |0=>iD x.bf|1=>iD x.seq|2=>iD x.last.code|_=>iD x.last.n
def EU(l:List uS):D:=.sl l.length 4 (λj=>gW (l.getD j .z))
structure aZ where
 version:Int
 next:Int
 keep:Int
 l7:Int
 aN:List uS
 opens:List uo
 ay:List gX
def fH(s:aZ):Nat->D
 |0=>iD s.version|1=>iD s.next|2=>iD s.keep|3=>iD s.l7|4=>EU s.aN|5=>l9 s.opens|_=>jr s.ay
def aT.z:aT:=⟨0,0,0,[]⟩
def oH(r:aT):Nat->D
 |0=>iD r.kind|1=>iD r.a|2=>iD r.b|_=>dB r.x
def iq(l:List aT):D:=.sl l.length 4 (λj=>oH (l.getD j .z))
def dm.z:dm:=⟨0,[]⟩
def qx(e:dm):Nat->D
 |0=>iD e.term|_=>dB e.b
def jg(l:List dm):D:=.sl l.length 2 (λj=>qx (l.getD j .z))
def kW(s:bP):Nat->D
 |0=>iD s.floor|1=>iD s.term|2=>iD s.gZ|_=>jg s.log
structure aP where
 kind:Int
 src:Int
 dst:Int
 term:Int
 a:Int
 b:Int
 c:Int
 bin:Int
 ok:Bool
 l:List dm
def aP.z:aP:=⟨0,0,0,0,0,0,0,0,false,[]⟩
def jF(x:aP):Nat->D
 |0=>iD x.kind|1=>iD x.src|2=>iD x.dst|3=>iD x.term|4=>iD x.a|5=>iD x.b|6=>iD x.c|7=>iD x.bin|8=>bD x.ok|_=>jg x.l
def gu(l:List aP):D:=.sl l.length 10 (λj=>jF (l.getD j .z))
structure OT where
 src:Int
 dst:Int
 next:Int
 eQ:Int
 bin:Int
def arn(x:OT):Nat->D
 |0=>iD x.src|1=>iD x.dst|2=>iD x.next|3=>iD x.eQ|_=>iD x.bin
structure bT where
 kind:Int
 a:Int
 b:Int
 c:aI
def Ap(e:bT):Nat->D
 |0=>iD e.kind|1=>iD e.a|2=>iD e.b|k+3=>kY e.c k
def xe(n:Nat)(c:Nat->D):V:=.agg n (λk=>.d (c k))
abbrev wW(f:aY):V:=xe 4 (jW f)
abbrev DT(f:kD):V:=xe 5 (BP f)
abbrev jI(c:aI):V:=xe 8 (kY c)
abbrev iQ(c:eY):V:=xe 2 (jU c)
abbrev Yn(c:gX):V:=xe 5 (eX c)
abbrev afo(c:uo):V:=xe 2 (dY c)
abbrev afk(c:uS):V:=xe 4 (gW c)
abbrev jk(c:aZ):V:=xe 7 (fH c)
abbrev yc(c:aT):V:=xe 4 (oH c)
abbrev yj(c:dm):V:=xe 2 (qx c)
abbrev jc(c:bP):V:=xe 4 (kW c)
abbrev jy(c:aP):V:=xe 10 (jF c)
abbrev arl(c:OT):V:=xe 5 (arn c)
abbrev nX(c:bT):V:=xe 11 (Ap c)
def Yk(l:List V)(k:Nat):V:=lg l k
def bQ(l:List V):V:=.fV l.length (Yk l)
theorem asM{X:Cx e0}{l q:List V}{t:ST}(hl:l.length=q.length)(h:MI 0 (λk=>l.getD k .top) 0 q):Fin X (.fV l.length (λk=>l.getD k .top)) t (λv t=>v=bQ q/\t=e0):=by
 refine Fin.tell ?_;unfold bQ;rw[<-hl];exact asG q hl.symm (λk hk=>rfl) h
def RP:List (Int×Int)->Int->Int
 |[],_=>0
 |(j,n)::r,k=>if j=k then n else RP r k
theorem aft(l:List (Int×Int))(k:Int):(∀ v,dU (l.map λp=>(p.1,V.i p.2)) k=some v->∃ n,v=V.i n)/\pU (dU (l.map λp=>(p.1,V.i p.2)) k)=RP l k:=by
 induction l with
 |nil=>exact⟨(λv h=>by cases h),rfl⟩
 |cons p r ih=>
  obtain⟨j,n⟩:=p;show(∀ v,(bif decide (j=k) then some (V.i n) else dU (r.map λp=>(p.1,V.i p.2)) k)=some v->∃ n,v=V.i n)/\pU (bif decide (j=k) then some (V.i n) else dU (r.map λp=>(p.1,V.i p.2)) k)=if j=k then n else RP r k
  by_cases e:j=k
  ·rw[bg e,if_pos e];exact⟨λv h=>⟨n,(fG h).symm⟩,rfl⟩
  ·rw[aX e,if_neg e];exact ih
abbrev iV(n:Int):V:=.d (iD n)
theorem xy{f:Nat}{fn:Func}{c:Code}(hf:Tryz.prog.funcs[f]?=some fn)(hb:fn.body=some c)(hname:(fn.name == "runtime.NumGoroutine")=false):wB f:=by
 unfold wB;rw[hf,pF,hb,hname];rfl
def afQ(F:Nat->Prop)(w w':World)(b:Nat):Prop:=F b\/(w.heap.size<=b/\b<w'.heap.size)
theorem ae.data{f:Nat}{args:List V}{r:V}(hc:wB f)
  (h:∀(G:Gh) (w:World) (us:List Value),(∀ b,G.F b->b<w.heap.size)->us.length=args.length->(∀(k:Nat) (v:V) (u:Value),args[k]?=some v->us[k]?=some u->aO G e0.get w v u) ->
   Calls Tryz.prog f us.toArray w λe w'=>∃ v,e = .returned v/\Below w.heap.size w w'/\aO ⟨afQ G.F w w',G.ρ⟩ e0.get w' r v):aQ f args r:=
 ⟨hc,λG w us hg hl hv=>(h G w us hg.aK.vK hl hv).mono λe w' ⟨v,e1,e2,e3⟩=>by
  obtain⟨h1,h2⟩:=Ll hg e2;exact⟨v,r,e0,_,e1,⟨rfl,rfl⟩,h1,h2,e3⟩⟩
theorem Jn{F:Nat->Prop}{w:World}{b:List UInt8}{u:Value}(h:jh F w (dB b) u):∃ A n c,u = .slice A n c/\b.length=n/\n<=c/\c<=maxLen/\Bs w w.heap.size A b:=by
 obtain⟨A,c,rfl,h1,h2,h3,h4⟩:=h;refine⟨A,_,c,rfl,rfl,h1,h2,λhp=>?_⟩;obtain⟨g,off,x,rfl,hf,hb,_⟩:=h4 0 hp 0 qO;refine⟨g,off,rfl,hb,λi hi=>?_⟩;obtain⟨g',off',x',e,_,_,hc',_,hd⟩:=h4 i hi 0 qO;injection e with e
 injection e with e1 e2
 subst e1 e2;rw[Nat.mul_one,Nat.add_zero]at hc';rw[hc'];exact gz some hd
theorem Wp{F:Nat->Prop}{w w':World}{A:Option Addr}{n c:Nat}{l:List UInt8}(h:Own w' w.heap.size A n c l):jh (afQ F w w') w' (dB l) (.slice A n c):=by
 have hl:=Ob.len h;have hcap:=avf h;refine⟨A,c,by rw[hl],by omega,hcap.2,λe=>?_,λj hj k hk=>?_⟩
 ·obtain⟨hn,hlen,hv⟩:=h;rcases hv with ⟨hv,h0⟩|⟨g,cap,cur,hv,_⟩
  ·injection hv with _ _ hc
  ·injection hv with hA
   rw[e]at hA;cases hA
 ·obtain⟨g,rfl,hb,hlt⟩:=Ob.at_ h qO;have hk0:k=0:=qO;subst hk0;have hc:=Ob.cell h j hj;refine⟨g,0,_,rfl,.inr ⟨hb,hlt⟩,hlt,by rw[Nat.mul_one,Nat.add_zero,jm];exact hc,rfl,?_⟩;show Value.int .u8 _=Value.int .u8 _;rw[bC,dW hj];rfl
theorem aam{w:World}:Below w.heap.size w w:=Below.refl _ _
theorem FN{P:Nat->V->Value->Prop}{a:V}{us:List Value}(hl:us.length=1)(h:∀ k v u,[a][k]?=some v->us[k]?=some u->P k v u):∃ u,us=[u]/\P 0 a u:=by
 rcases us with _|⟨u,_|⟨x,r⟩⟩
 ·simp at hl
 ·exact⟨u,rfl,h 0 a u rfl rfl⟩
 ·simp at hl
theorem YP{P:Nat->V->Value->Prop}{a b:V}{us:List Value}(hl:us.length=2)(h:∀ k v u,[a,b][k]?=some v->us[k]?=some u->P k v u):∃ u v,us=[u,v]/\P 0 a u/\P 1 b v:=by
 rcases us with _|⟨u,_|⟨x,_|⟨y,r⟩⟩⟩
 ·simp at hl
 ·simp at hl
 ·exact⟨u,x,rfl,h 0 a u rfl rfl,h 1 b x rfl rfl⟩
 ·simp at hl
def iy(l:List UInt8):aG:=.row 5 1 l.length (λj _=>.d (fO (l.getD j 0)))
theorem ac7{t:ST}{G:Gh}{w w':World}{A:Option Addr}{n c:Nat}{l:List UInt8}(hg:bV G t w)(h:Own w' w.heap.size A n c l)(hb:Below w.heap.size w w') :
  bV (G.upd t.nx (.row A c)) (t.new (iy l)) w'/\Stp G t.get w (G.upd t.nx (.row A c)) (t.new (iy l)).get w'/\aO (G.upd t.nx (.row A c)) (t.new (iy l)).get w' (.row t.nx l.length) (.slice A n c):=by
 have hl:=Ob.len h;subst hl;have hh:=IK (A:=A) (c:=c) (n:=l.length) (E:=5) (z:=1) (g:=λj _=>.d (fO (l.getD j 0))) hg hb rfl rfl qO (λhc b off e=>by
  obtain⟨hn,hlen,hv⟩:=h;rcases hv with ⟨hv,h0⟩|⟨g,cap,cur,hv,hb,_⟩
  ·injection hv with _ _ hc'
   omega
  ·injection hv with hA
   rw[e]at hA;injection hA with hA
   injection hA with hA
   omega) (λhs=>by
  refine Jg qO (Ob.mono h (cu _)).ov λj hj q hq=>?_
  have hq0:q=0:=qO;subst hq0;refine⟨bv (l.getD j 0),?_,rfl,rfl⟩;rw[Nat.mul_one,Nat.add_zero,qY,bC,dW hj];rfl)
 exact hh
theorem Fin.bytes{X:Cx e0}{t:ST}{i n m:Nat}{g:Nat->Nat->V}{L:List UInt8}(ho:t.get i = .row 5 1 n g)(hm:m=n)(hL:L.length=n)(hg:∀ j,j<n->g j 0 = .d (fO (L.getD j 0))):Fin X (.row i m) t (λv t=>v = .d (dB L)/\t=e0):=by
 subst hm;subst hL;refine Fin.dC (h:=λj _=>fO (L.getD j 0)) ⟨cu _,ho,λj hj k hk G o w u hu=>?_⟩ ?_
 ·obtain rfl:k=0:=qO;rw[hg j hj]at hu;exact hu
 ·have e:jl i L.length 1 (λj _=>fO (L.getD j 0)) (.row i L.length) = .d (dB L):=by
   show(bif Nat.beq i i&&Nat.beq L.length L.length then _ else _)=_;simp;rfl
  rw[e];exact Fin.tell (VW.refl trivial)
theorem AV{n:Nat}{g h:Nat->Nat->V}{a b:List UInt8}(hn:n=a.length)(h1:∀ j,g j 0 = .d (fO (a.getD j 0)))(h2:∀ j,h j 0 = .d (fO (b.getD j 0)))(j:Nat):appG n g h j 0 = .d (fO ((a++b).getD j 0)):=by
 rw[Di];subst hn;split
 ·rename_i hj
  rw[h1,bC,bC,mO hj]
 ·rename_i hj
  rw[h2,bC,bC,oW qO]
theorem uY(n:Nat):(dV n).length<=10:=Ez n
theorem Gx(a b:Int):(gI a b).1.length<=10:=by
 unfold gI;split
 ·exact uY _
 ·simp
theorem auj{f:Nat}{args args':List V}{st bG t1:ST}{aC:List Nat}{r:V}{K:V->ST->Prop}(h:ae f args' bG (λv t=>v=r/\t=t1))(hn:ik aC=true)(hs:∀ i∈aC,i<st.nx)(hnx:bG.nx=aC.length)(ha:kS bG.nx (bZ aC) args args')(ho:o9 bG.nx (bZ aC) st aC bG.st)(hk:oN st.nx λn=>K (o8 aC n r) (zU st aC n t1)):ae f args st K:=by
 rw[uA]at hk;exact ae.frame h hn hs hnx ha ho λv t ⟨e1,e2⟩=>by subst e1 e2;exact hk
theorem atg{f:Nat}{args args':List V}{st t1:ST}{r:V}{K:V->ST->Prop}(h:ae f args' e0 (λv t=>v=r/\t=t1))(ha:kS 0 (bZ []) args args')(hk:oN st.nx λn=>K (o8 [] n r) (zU st [] n t1)):ae f args st K:=
 auj h rfl (by simp) rfl ha trivial hk
abbrev afb(f:Nat)(args:List V)(r:V)(t1:ST):Prop:=ae f args e0 (λv t=>v=r/\t=t1)
theorem LZ(n:Nat)(h:n<18446744073709551616):aQ 181 [.d (.v (.int .u64 n))] (.d (dB (dV n))):=
 ae.data (xy Tryz.func181 rfl rfl) λG w us hF hl hv=>by
  obtain⟨u,rfl,h1⟩:=FN (P:=λ_ v u=>aO G e0.get w v u) hl hv;have h1:u = .int .u64 n:=h1;subst h1;refine(aa3 n w (Lib.hid h)).mono λe w' hh=>?_
  obtain⟨A,c,rfl,q1,q2⟩:=hh;exact⟨_,rfl,q2,Wp q1⟩
theorem Qu(n:Nat)(h:n<18446744073709551616):aQ 173 [.d (.v (.int .u64 n))] (.d (dB (dV n))):=
 ae.data (xy Tryz.func173 rfl rfl) λG w us hF hl hv=>by
  obtain⟨u,rfl,h1⟩:=FN (P:=λ_ v u=>aO G e0.get w v u) hl hv;have h1:u = .int .u64 n:=h1;subst h1;refine(PE n w (Lib.hid h)).mono λe w' hh=>?_
  obtain⟨A,c,rfl,q1,q2⟩:=hh;exact⟨_,rfl,q2,Wp q1⟩
theorem U7:maxLen<=9223372036854775807:=by unfold maxLen;omega
def SB(b:List UInt8):V:=bQ [.d (.v (.int .u64 (cO b).1)),iV (cO b).2.1,iV (cO b).2.2]
theorem ak3(b:List UInt8):aQ 194 [.d (dB b)] (SB b):=
 ae.data (xy Tryz.func194 rfl rfl) λG w us hF hl hv=>by
  obtain⟨u,rfl,h1⟩:=FN (P:=λ_ v u=>aO G e0.get w v u) hl hv;obtain⟨A,n,c,rfl,q1,q2,q3,q4⟩:=Jn h1;refine(UL A b n c w q1 (by have:=U7;omega) q4).mono λe w' ⟨r1,r2⟩=>?_
  subst r2;exact⟨_,r1,aam,⟨_,rfl,rfl,λk x hx=>by
   match k,hx with
   |0,hx=>obtain rfl:=fG hx;rfl
   |1,hx=>obtain rfl:=fG hx;rfl
   |2,hx=>obtain rfl:=fG hx;rfl
   |k+3,hx=>simp at hx⟩⟩
theorem aiV(b:List UInt8)(hb:b.length<=1000000):aQ 121 [.d (dB b)] (SB b):=
 ae.data (xy Tryz.func121 rfl rfl) λG w us hF hl hv=>by
  obtain⟨u,rfl,h1⟩:=FN (P:=λ_ v u=>aO G e0.get w v u) hl hv;obtain⟨A,n,c,rfl,q1,q2,q3,q4⟩:=Jn h1;refine(UY A b n c w q1 q2 qO q4).mono λe w' ⟨r1,r2⟩=>?_
  exact⟨_,r1,r2,⟨_,rfl,rfl,λk x hx=>by
   match k,hx with
   |0,hx=>obtain rfl:=fG hx;rfl
   |1,hx=>obtain rfl:=fG hx;rfl
   |2,hx=>obtain rfl:=fG hx;rfl
   |k+3,hx=>simp at hx⟩⟩
def apv(num aJ:Int):V:=bQ [.d (dB (gI num aJ).1),iV (gI num aJ).2]
theorem alY(num aJ:Int)(h1 : -9223372036854775808<=num/\num<=9223372036854775807)(h2 : -9223372036854775808<=aJ/\aJ<=9223372036854775807):aQ 172 [iV num,iV aJ] (apv num aJ):=
 ae.data (xy Tryz.func172 rfl rfl) λG w us hF hl hv=>by
  obtain⟨u,v,rfl,q1,q2⟩:=YP (P:=λ_ v u=>aO G e0.get w v u) hl hv;have q1:u = .int .i64 num:=q1;have q2:v = .int .i64 aJ:=q2;subst q1 q2;refine(UX num aJ w h1 h2).mono λe w' ⟨A,n,c,r1,r2,r3⟩=>?_
  exact⟨_,r1,r3,⟨_,rfl,rfl,λk x hx=>by
   match k,hx with
   |0,hx=>obtain rfl:=fG hx;exact Wp r2
   |1,hx=>obtain rfl:=fG hx;rfl
   |k+2,hx=>simp at hx⟩⟩
def SH(b:List UInt8):V:=bQ [iV (fP b).1,iV (fP b).2.1,iV (fP b).2.2.1,iV (fP b).2.2.2]
theorem ala(b:List UInt8):aQ 227 [.d (dB b)] (SH b):=
 ae.data (xy Tryz.func227 rfl rfl) λG w us hF hl hv=>by
  obtain⟨u,rfl,h1⟩:=FN (P:=λ_ v u=>aO G e0.get w v u) hl hv;obtain⟨A,n,c,rfl,q1,q2,q3,q4⟩:=Jn h1;refine(aaq A b n c w q1 (by have:=U7;omega) q4).mono λe w' ⟨r1,r2⟩=>?_
  subst r2;exact⟨_,r1,aam,⟨_,rfl,rfl,λk x hx=>by
   match k,hx with
   |0,hx=>obtain rfl:=fG hx;rfl
   |1,hx=>obtain rfl:=fG hx;rfl
   |2,hx=>obtain rfl:=fG hx;rfl
   |3,hx=>obtain rfl:=fG hx;rfl
   |k+4,hx=>simp at hx⟩⟩
theorem aiY(b:List UInt8)(hb:b.length<=1000000):aQ 120 [.d (dB b)] (SH b):=
 ae.data (xy Tryz.func120 rfl rfl) λG w us hF hl hv=>by
  obtain⟨u,rfl,h1⟩:=FN (P:=λ_ v u=>aO G e0.get w v u) hl hv;obtain⟨A,n,c,rfl,q1,q2,q3,q4⟩:=Jn h1;refine(Z4 A b n c w q1 q2 qO q4).mono λe w' ⟨r1,r2⟩=>?_
  exact⟨_,r1,r2,⟨_,rfl,rfl,λk x hx=>by
   match k,hx with
   |0,hx=>obtain rfl:=fG hx;rfl
   |1,hx=>obtain rfl:=fG hx;rfl
   |2,hx=>obtain rfl:=fG hx;rfl
   |3,hx=>obtain rfl:=fG hx;rfl
   |k+4,hx=>simp at hx⟩⟩
def SI(b:List UInt8):V:=bQ [iV (pI b).1,iV (pI b).2]
theorem alb(b:List UInt8):aQ 202 [.d (dB b)] (SI b):=
 ae.data (xy Tryz.func202 rfl rfl) λG w us hF hl hv=>by
  obtain⟨u,rfl,h1⟩:=FN (P:=λ_ v u=>aO G e0.get w v u) hl hv;obtain⟨A,n,c,rfl,q1,q2,q3,q4⟩:=Jn h1;refine(ahm A b n c w q1 q2 (by have:=U7;omega) q4).mono λe w' ⟨r1,r2⟩=>?_
  exact⟨_,r1,r2,⟨_,rfl,rfl,λk x hx=>by
   match k,hx with
   |0,hx=>obtain rfl:=fG hx;rfl
   |1,hx=>obtain rfl:=fG hx;rfl
   |k+2,hx=>simp at hx⟩⟩
theorem aiZ(b:List UInt8)(hb:b.length<=1000000):aQ 119 [.d (dB b)] (SI b):=
 ae.data (xy Tryz.func119 rfl rfl) λG w us hF hl hv=>by
  obtain⟨u,rfl,h1⟩:=FN (P:=λ_ v u=>aO G e0.get w v u) hl hv;obtain⟨A,n,c,rfl,q1,q2,q3,q4⟩:=Jn h1;refine(agH A b n c w q1 q2 qO q4).mono λe w' ⟨r1,r2⟩=>?_
  exact⟨_,r1,r2,⟨_,rfl,rfl,λk x hx=>by
   match k,hx with
   |0,hx=>obtain rfl:=fG hx;rfl
   |1,hx=>obtain rfl:=fG hx;rfl
   |k+2,hx=>simp at hx⟩⟩
theorem an9(num aJ:Int)(h1 : -9223372036854775808<=num/\num<=9223372036854775807)(h2 : -9223372036854775808<=aJ/\aJ<=9223372036854775807):afb 219 [iV num,iV aJ] (bQ [.row 0 (gI num aJ).1.length,iV (gI num aJ).2]) ⟨[(0,iy (gI num aJ).1)],1⟩:=
 ⟨xy Tryz.func219 rfl rfl,λG w us hg hl hv=>by
  obtain⟨u,v,rfl,q1,q2⟩:=YP (P:=λ_ v u=>aO G e0.get w v u) hl hv;have q1:u = .int .i64 num:=q1;have q2:v = .int .i64 aJ:=q2;subst q1 q2;refine(aiG num aJ w h1 h2).mono λe w' ⟨A,n,c,r1,r2,r3⟩=>?_
  obtain⟨p1,p2,p3⟩:=ac7 hg r2 r3;exact⟨_,_,_,_,r1,⟨rfl,rfl⟩,p1,p2,⟨_,rfl,rfl,λk x hx=>by
   match k,hx with
   |0,hx=>obtain rfl:=fG hx;exact p3
   |1,hx=>obtain rfl:=fG hx;rfl
   |k+2,hx=>simp at hx⟩⟩⟩
theorem alZ(num aJ:Int)(h1 : -9223372036854775808<=num/\num<=9223372036854775807)(h2 : -9223372036854775808<=aJ/\aJ<=9223372036854775807):afb 172 [iV num,iV aJ] (bQ [.row 0 (gI num aJ).1.length,iV (gI num aJ).2]) ⟨[(0,iy (gI num aJ).1)],1⟩:=
 ⟨xy Tryz.func172 rfl rfl,λG w us hg hl hv=>by
  obtain⟨u,v,rfl,q1,q2⟩:=YP (P:=λ_ v u=>aO G e0.get w v u) hl hv;have q1:u = .int .i64 num:=q1;have q2:v = .int .i64 aJ:=q2;subst q1 q2;refine(UX num aJ w h1 h2).mono λe w' ⟨A,n,c,r1,r2,r3⟩=>?_
  obtain⟨p1,p2,p3⟩:=ac7 hg r2 r3;exact⟨_,_,_,_,r1,⟨rfl,rfl⟩,p1,p2,⟨_,rfl,rfl,λk x hx=>by
   match k,hx with
   |0,hx=>obtain rfl:=fG hx;exact p3
   |1,hx=>obtain rfl:=fG hx;rfl
   |k+2,hx=>simp at hx⟩⟩⟩
section
section
variable {t0:ST} {X:Cx t0} {Q:Exit->AS->Prop} {s s2:AS}
theorem asW{c:Code}(j E:Nat)(g:Nat->Nat->V)(hj:dG s.sl j = .dE)(hE:(tI E).ok=true)(hz:0<(tI E).size)(h:T X c Q ⟨s.nt,(j,.row s.s.nx 0)::s.sl,s.s.new (.row E (tI E).size 0 g)⟩):T X c Q s:=T.mk λa w hm=>by
 obtain⟨G,hg,hs,hx⟩:=hm;have hu:=hs.sl j;rw[hj]at hu;obtain⟨A,hu⟩:=hu;obtain⟨p1,p2,p3⟩:=IK (A:=A) (c:=0) (n:=0) (E:=E) (g:=g) hg (Below.refl _ _) hE rfl hz (λh=>by omega) (λ_=>.inl ⟨rfl,rfl⟩);refine h.h a w ⟨_,p1,⟨⟨hs.nt,λi=>?_⟩,hs.df⟩,hx.trans p2⟩;show aO _ _ w (bif Nat.beq j i then V.row s.s.nx 0 else dG s.sl i) _;rcases hb:Nat.beq j i with _|_
 ·exact(hs.sl i).dS p2 hg.aK
 ·rw[<-dH hb,hu];exact p3
theorem asX{c:Code}(i off E:Nat)(g:Nat->Nat->V){n:Nat}{g0:Nat->V}(hob:s.s.get i = .blk n g0)(hc:g0 off = .dE)(hoff:off<n)(hE:(tI E).ok=true)(hz:0<(tI E).size)(h:T X c Q ⟨s.nt,s.sl,(s.s.new (.row E (tI E).size 0 g)).set i (.blk n (nU g0 off 1 (λ_=>.row s.s.nx 0)))⟩):T X c Q s:=T.mk λa w hm=>by
 obtain⟨G,hg,hs,hx⟩:=hm;obtain⟨b,cs,ty,e1,e2,e3,e4⟩:=hg.aK.blk _ _ _ hob;have hcx:=uU (xs:=cs) (i:=off) qO;obtain⟨q1,q2⟩:=e4 off _ hcx;rw[hc]at q2;obtain⟨A,q2⟩:=q2;obtain⟨p1,p2,p3⟩:=IK (A:=A) (c:=0) (n:=0) (E:=E) (g:=g) hg (Below.refl _ _) hE rfl hz (λh=>by omega) (λ_=>.inl ⟨rfl,rfl⟩);have hlt:i<s.s.nx:=by
  refine Nat.lt_of_not_le λhle=>?_
  have:=(hg.jK i hle).2;rw[hob]at this;cases this
 have YE:(s.s.new (.row E (tI E).size 0 g)).get i = .blk n g0:=by rw[LQ,if_neg qO,hob]
 have Hw:(G.upd s.s.nx (.row A 0)).ρ i=some (.blk b):=by
  show uG G.ρ s.s.nx _ i=_;rw[uG,if_neg qO,e1]
 have hch:uT (G.upd s.s.nx (.row A 0)) (s.s.new (.row E (tI E).size 0 g)) ((s.s.new (.row E (tI E).size 0 g)).set i (.blk n (nU g0 off 1 (λ_=>.row s.s.nx 0)))) w w i (.blk b) (.blk n (nU g0 off 1 (λ_=>.row s.s.nx 0))):=
  ⟨qG _ i _,⟨bu _,Nat.lt_succ_of_lt hlt⟩,rfl,rfl,rfl,bu _,λ_ _ _=>rfl,λb' hb'=>by
   have hb':Loc.blk b=Loc.blk b':=hb';injection hb' with hb'
   subst hb';exact .inl (by unfold dA;rw[YE];exact Hw),λb' hb'=>by rw[Hw]at hb';exact fG hb',λA' c' hb'=>by rw[Hw]at hb';cases hb'⟩
 have hs2:=hch.dS;have hgd:=hch.aK p1 ⟨b,cs,ty,rfl,e2,e3,λk x hk=>⟨(e4 k x hk).1,by
  rw[IV];split
  ·rename_i hk2
   obtain rfl:k=off:=qO;rw[hcx]at hk;injection hk with hk
   rw[<-hk,q2];exact p3.dS hs2 p1.aK
  ·exact((e4 k x hk).2.dS p2 hg.aK).dS hs2 p1.aK⟩⟩ (λk hk=>(p1.jK k hk).1)
 exact h.h a w ⟨_,hgd,⟨⟨hs.nt,λj=>((hs.sl j).dS p2 hg.aK).dS hs2 p1.aK⟩,hs.df⟩,(hx.trans p2).trans hs2⟩
theorem asI{α:Type}{c:Code}(n:Nat)(S:Nat->α->AS)(P:Nat->α->Prop)(a0:α)(h0:aV t0.nx s (S 0 a0))(hp0:P 0 a0)
  (hr:∀ i a,i<=n->P i a->T X c (λe s'=>match e with|.normal=>∃ a',i<n/\P (i+1) a'/\aV t0.nx s' (S (i+1) a')|e=>Q e s') (S i a)):T X (.loop c) Q s:=
 T.loop (ι:={ p:Nat×α // p.1<=n/\P p.1 p.2 }) (λp=>S p.1.1 p.1.2) (λp=>n-p.1.1) ⟨(0,a0),cu _,hp0⟩ h0 λ⟨(i,a),hi,hp⟩=>T.mono (hr i a hi hp) λe s' h=>by
  cases e
  case normal=>
   obtain⟨a',h1,h2,h3⟩:=h;exact⟨⟨(i+1,a'),h1,h2⟩,h3,by show n-(i+1)<n-i;omega⟩
  all_goals exact h
theorem T.cut{x y:Code}(S:AS)(h1:T X x (MQ (λs'=>aV t0.nx s' S) Q) s)(h2:T X y Q S):T X (.seq x y) Q s:=T.seq (T.mono h1 λe s' h=>by
 cases e
 case normal=>exact T.le S h h2
 all_goals exact h)
end
theorem wz{α:Type}(z:α){l:List α}{i:Nat}(h:i<l.length):l.drop i=l.getD i z::l.drop (i+1):=by
 rw[List.drop_eq_getElem_cons h,bC,dW h];rfl
theorem lX{α:Type}(z:α){l:List α}{i:Nat}(h:i<l.length):l.take (i+1)=l.take i++[l.getD i z]:=by
 rw[List.take_add_one,bC,dW h];rfl
theorem aqz{a b c w:Bool}(h:(bif (a == b) then c else !w)=w):a=b:=by cases a <;> cases b <;> cases c <;> cases w <;> first|rfl|cases h
theorem aqy{a b c w:Bool}(h:a=b/\c=w):(bif (a == b) then c else !w)=w:=by obtain⟨rfl,rfl⟩:=h;cases a <;> cases c <;> rfl
@[irreducible] def dh (p:Prop):Prop:=p
theorem dh.mk{p:Prop}(h:p):dh p:=by unfold dh;exact h
theorem atd{p:Prop}(h:dh p):p:=by unfold dh at h;exact h
theorem aiD{N n k m:Nat}{b:List UInt8}(hn:n=m)(hm:m<=b.length-k):VW N (.d (.sl n 1 (λj=>(λj _=>fO (b.getD j 0)) (k+j)))) (.d (dB ((b.drop k).take m))):=by
 refine VW.sl (by rw[dP,fE];omega) λj hj q hq=>?_
 show fO (b.getD (k+j) 0)=fO (((b.drop k).take m).getD j 0);rw[bC,bC,oh,if_pos qO,sD]
theorem IW{N n k:Nat}{b:List UInt8}(hn:n=b.length-k):VW N (.d (.sl n 1 (λj=>(λj _=>fO (b.getD j 0)) (k+j)))) (.d (dB (b.drop k))):=by
 refine VW.sl (by rw[fE];omega) λj hj q hq=>?_
 show fO (b.getD (k+j) 0)=fO ((b.drop k).getD j 0);rw[bC,bC,sD]
def EH(N:Nat)(g h:Nat->V):Nat->Prop
 |0=>True
 |n+1=>EH N g h n/\VW N (g n) (h n)
theorem Ik{N:Nat}{g h:Nat->V}:∀ {n:Nat},EH N g h n->∀ k,k<n->VW N (g k) (h k)
 |0,_,k,hk=>by omega
 |n+1,hc,k,hk=>by
  by_cases e:k=n
  ·subst e;exact hc.2
  ·exact Ik hc.1 k qO
theorem asK{N n:Nat}{g h:Nat->V}(hc:EH N g h n):VW N (.agg n g) (.agg n h):=VW.agg (Ik hc)
theorem asJ{N f nf n:Nat}{g h:Nat->V}(hc:EH N g h n):VW N (.fn f nf n g) (.fn f nf n h):=
 ⟨λk hk=>(Ik hc k hk).1,λG o w u ⟨fs,cs,e,h1,h2,h3⟩=>⟨fs,cs,e,h1,h2,λk x hx=>(Ik hc k (by rw[<-h2,<-Array.size_append];exact(Array.getElem?_eq_some_iff.1 hx).1)).2 _ _ _ _ (h3 k x hx)⟩⟩
theorem af.blk{N n:Nat}{g h:Nat->V}(hc:EH N g h n):af N (.blk n g) (.blk n h):=⟨rfl,Ik hc⟩
theorem af.row{N E s n m:Nat}{g h:Nat->Nat->V}(e:n=m)(hh:∀ j,j<n->∀ k,k<s->VW N (g j k) (h j k)):af N (.row E s n g) (.row E s m h):=⟨rfl,rfl,e,hh⟩
theorem auo{N:Nat}{a b:List (Int×V)}(e:a=b)(h:∀ k v,dU b k=some v->∃ n,v=V.i n):af N (.map a) (.map b):=λk=>by
 subst e;rcases hm:dU a k with _|v
 ·trivial
 ·obtain⟨n,rfl⟩:=h k v hm;exact VW.refl trivial
def rY:List Nat->Nat->Bool
 |[],_=>true
 |i::r,n=>Nat.blt i n&&rY r n
theorem I4:∀ {l:List Nat} {n:Nat},rY l n=true->∀ i∈l,i<n
 |[],_,_,i,hi=>by cases hi
 |j::r,n,h,i,hi=>by
  have h:(Nat.blt j n&&rY r n)=true:=h;obtain⟨h1,h2⟩:=kJ h;rcases List.mem_cons.1 hi with rfl|hi
  ·exact lS h1
  ·exact I4 h2 i hi
theorem asO{f:Nat}{args args':List V}{st bG t1:ST}(aC:List Nat){r:V}{K:V->ST->Prop}(h:ae f args' bG (λv t=>v=r/\t=t1))(hn:ik aC=true)(hs:rY aC st.nx=true)(hnx:bG.nx=aC.length)(ha:kS bG.nx (bZ aC) args args')(ho:o9 bG.nx (bZ aC) st aC bG.st)(hk:oN st.nx λn=>K (o8 aC n r) (zU st aC n t1)):ae f args st K:=
 auj h hn (I4 hs) hnx ha ho hk
theorem asY{t0:ST}{X:Cx t0}{v r:V}{t:ST}(hhi:t0.nx<=t.nx)(h:VW t0.nx v r)(hob:qB t0.nx t t0.st):Fin X v t (λv t=>v=r/\t=t0):=
 Fin.done r t0 (bu _) hhi hob h ⟨rfl,rfl⟩
theorem asC{t0:ST}{X:Cx t0}{v r:V}{t t1:ST}(hlo:t0.nx<=t1.nx)(hhi:t1.nx<=t.nx)(h:VW t1.nx v r)(hob:qB t1.nx t t1.st):Fin X v t (λv t=>v=r/\t=t1):=
 Fin.done r t1 hlo hhi hob h ⟨rfl,rfl⟩
def dw{α:Type}(E s:Nat)(C:α->Nat->D)(z:α)(l:List α):aG:=.row E s l.length (λj k=>.d (C (l.getD j z) k))
theorem A7{α:Type}{C:α->Nat->D}{z:α}{a b:List α}{n:Nat}{g h:Nat->Nat->V}(hn:n=a.length){j k:Nat}(hj:j<n+b.length)(h1:∀ j,j<n->g j k = .d (C (a.getD j z) k))(h2:∀ j,j<b.length->h j k = .d (C (b.getD j z) k)):appG n g h j k = .d (C ((a++b).getD j z) k):=by
 rw[Di];subst hn;split
 ·rename_i hj
  rw[h1 j hj,bC,bC,mO hj]
 ·rename_i hj'
  rw[h2 _ qO,bC,bC,oW qO]
theorem oq{α:Type}{C:α->Nat->D}{z:α}{a b:List α}{N n:Nat}{g h:Nat->Nat->V}(hn:n=a.length){j k:Nat}(hj:j<n+b.length)(h1:∀ j,j<n->g j k = .d (C (a.getD j z) k))(h2:∀ j,j<b.length->VW N (h j k) (.d (C (b.getD j z) k))):VW N (appG n g h j k) (.d (C ((a++b).getD j z) k)):=by
 rw[Di];subst hn;split
 ·rename_i hj
  rw[h1 j hj,bC,bC,mO hj];exact VW.refl trivial
 ·rename_i hj'
  have:=h2 (j-a.length) qO;rw[bC]at this;rw[bC,oW qO];exact this
theorem atj{α:Type}{X:Cx e0}{t:ST}{i n m E s:Nat}{g:Nat->Nat->V}{C:α->Nat->D}{z:α}{L:List α}(ho:t.get i = .row E s n g)(hm:m=n)(hL:L.length=n)(hg:∀ j,j<n->∀ k,k<s->g j k = .d (C (L.getD j z) k)):Fin X (.row i m) t (λv t=>v = .d (.sl L.length s (λj=>C (L.getD j z)))/\t=e0):=by
 subst hm;subst hL;refine Fin.dC (h:=λj=>C (L.getD j z)) ⟨cu _,ho,λj hj k hk G o w u hu=>?_⟩ ?_
 ·rw[hg j hj k hk]at hu;exact hu
 ·have e:jl i L.length s (λj=>C (L.getD j z)) (.row i L.length) = .d (.sl L.length s (λj=>C (L.getD j z))):=by
   show(bif Nat.beq i i&&Nat.beq L.length L.length then _ else _)=_;simp
  rw[e];exact Fin.tell (VW.refl trivial)
theorem jB.of{t0:ST}{X:Cx t0}{t:ST}{i E z n:Nat}{g:Nat->Nat->V}{h:Nat->Nat->D}(lo:t0.nx<=i)(ob:t.get i = .row E z n g)(hg:∀ j,j<n->∀ k,k<z->g j k = .d (h j k)):jB X t i E z n g h:=
 ⟨lo,ob,λj hj k hk G o w u hu=>by rw[hg j hj k hk]at hu;exact hu⟩
theorem jR{i n z:Nat}{h:Nat->Nat->D}:jl i n z h (.row i n) = .d (.sl n z h):=by
 show(bif Nat.beq i i&&Nat.beq n n then _ else _)=_;simp
theorem aut{α:Type}{t0:ST}{X:Cx t0}{Q:Exit->AS->Prop}{c:Code}{nt j i E z nx:Nat}{C:α->Nat->D}{d:α}{L:List α}{sl:List (Nat×V)}{st:List (Nat×aG)}(hlo:t0.nx<=i)
  (e1:sl.map (λp=>(p.1,jl i L.length z (λq=>C (L.getD q d)) p.2))=sl)
  (e2:st.map (λp=>(p.1,bif Nat.beq p.1 i then aG.dead else N9 i L.length z (λq=>C (L.getD q d)) p.2))=st)
  (h:T X c Q ⟨nt,(j,.d (.sl L.length z (λq=>C (L.getD q d))))::sl,⟨(i,.dead)::st,nx⟩⟩):T X c Q ⟨nt,(j,.row i L.length)::sl,⟨(i,dw E z C d L)::st,nx⟩⟩:=by
 have hob:(⟨(i,dw E z C d L)::st,nx⟩:ST).get i = .row E z L.length (λj k=>.d (C (L.getD j d) k)):=by
  show(bif Nat.beq i i then dw E z C d L else _)=_;simp;rfl
 refine T.dC (s:=⟨nt,(j,.row i L.length)::sl,⟨(i,dw E z C d L)::st,nx⟩⟩) (i:=i) (h:=λq=>C (L.getD q d)) (jB.of hlo hob λj hj k hk=>rfl) ?_;have e:JW i L.length z (λq=>C (L.getD q d)) ⟨nt,(j,.row i L.length)::sl,⟨(i,dw E z C d L)::st,nx⟩⟩=⟨nt,(j,.d (.sl L.length z (λq=>C (L.getD q d))))::sl,⟨(i,.dead)::st,nx⟩⟩:=by
  unfold JW Am;simp only[List.map_cons,e1,e2,jR,Nat.beq_refl,dR]
 rw[e];exact h
theorem atL{X:Cx e0}{t:ST}{i n m q E s:Nat}{g:Nat->Nat->V}{h:Nat->Nat->D}(ho:t.get i = .row E s n g)(hm:m=n)(hL:q=n)(hg:∀ j,j<n->∀ k,k<s->g j k = .d (h j k)):Fin X (.row i m) t (λv t=>v = .d (.sl q s h)/\t=e0):=by
 subst hm;subst hL;refine Fin.dC (h:=h) ⟨cu _,ho,λj hj k hk G o w u hu=>?_⟩ ?_
 ·rw[hg j hj k hk]at hu;exact hu
 ·have e:jl i q s h (.row i q) = .d (.sl q s h):=by
   show(bif Nat.beq i i&&Nat.beq q q then _ else _)=_;simp
  rw[e];exact Fin.tell (VW.refl trivial)
theorem Qi{n:Nat}{g h:Nat->Nat->V}(hn:n=0)(j k:Nat):appG n g h j k=h j k:=by
 rw[Di,if_neg qO];subst hn;rfl
theorem atc{α:Type}{X:Cx e0}{t:ST}{i n m E s:Nat}{g:Nat->Nat->V}{C:α->Nat->D}{z:α}{L:List α}{v v':V}(ho:t.get i = .row E s n g)(hm:m=n)(hL:L.length=n)(hg:∀ j,j<n->∀ k,k<s->g j k = .d (C (L.getD j z) k))(hv:VW 0 (jl i n s (λj=>C (L.getD j z)) v) v') :
  Fin X (.fV [V.row i m,v].length (λk=>[V.row i m,v].getD k .top)) t (λu t=>u=bQ [.d (.sl L.length s (λj=>C (L.getD j z))),v']/\t=e0):=by
 subst hm;subst hL;refine Fin.dC (h:=λj=>C (L.getD j z)) ⟨cu _,ho,λj hj k hk G o w u hu=>?_⟩ ?_
 ·rw[hg j hj k hk]at hu;exact hu
 ·refine Fin.tell ?_;refine asG [.d (.sl L.length s (λj=>C (L.getD j z))),v'] rfl (λk hk=>rfl) ⟨?_,hv,trivial⟩;refine asF ?_ trivial;show(bif Nat.beq i i&&Nat.beq L.length L.length then V.d (.sl L.length s (λj=>C (L.getD j z))) else _)=_;simp
end
def Nh:V->Prop
 |.top=>True
 |.d (.v _)=>True
 |.fV n g=>∀ k,k<n->Nh (g k)
 |.agg n g=>∀ k,k<n->Nh (g k)
 |_=>False
theorem ahe{G G':Gh}{o o':Nat->aG}{w w':World}{v:V}:∀ {u:Value},Nh v->aO G o w v u->aO G' o' w' v u:=by
 induction v with
 |top=>exact λ_ _=>trivial
 |d x=>
  cases x with
  |v y=>exact λ_ h=>h
  |sl n s g=>exact λh=>h.elim
 |agg n g ih=>
  rintro u hf ⟨cs,e,hn,hc⟩;exact⟨cs,e,hn,λk x hx=>⟨(hc k x hx).1,ih k (hf k (by rw[<-hn];exact(Array.getElem?_eq_some_iff.1 hx).1)) (hc k x hx).2⟩⟩
 |fV n g ih=>
  rintro u hf ⟨cs,e,hn,hc⟩;exact⟨cs,e,hn,λk x hx=>ih k (hf k (by rw[<-hn];exact(Array.getElem?_eq_some_iff.1 hx).1)) (hc k x hx)⟩
 |_=>exact λh=>h.elim
theorem aeY{F:Nat->Prop}{w:World}(h:∀ b,F b->b<w.heap.size):bV ⟨F,λ_=>none⟩ e0 w where
 aK:={
  blk:=λi n g e=>aG.noConfusion e
  row:=λi E s n g e=>aG.noConfusion e
  map:=λi es e=>aG.noConfusion e
  wS:=λi b ho=>(show False from ho).elim
  vK:=h
  sep:=λi j b ho=>(show False from ho).elim }
 jK:=λi _=>⟨rfl,rfl⟩
def Gh.all(G:Gh)(t:ST):Gh:=⟨λb=>G.F b\/∃ i,dA G t.get i b,λ_=>none⟩
def BW(st:ST)(a b:V):Prop:=∀(G:Gh) (w:World) (u:Value),bV G st w->aO G st.get w a u->aO (G.all st) e0.get w b u
theorem BW.d{st:ST}{x:D}:BW st (.d x) (.d x):=λG w u hg hu=>jh.mono (bu _) (λ_ _ _=>rfl) (λb hb _=>.inl hb) hu
theorem BW.eq{st:ST}{a b c:V}(h:BW st a b)(e:b=c):BW st a c:=e▸h
theorem BW.row{st:ST}{i E z n:Nat}{g:Nat->Nat->V}{h:Nat->Nat->D}(ho:st.get i = .row E z n g)(hg:∀ j,j<n->∀ k,k<z->g j k = .d (h j k)):BW st (.row i n) (.d (.sl n z h)):=λG w u hgd hu=>by
 have g0:bV ⟨λ_=>False,λ_=>none⟩ e0 w:=aeY λb h=>h.elim
 let X:Cx e0:=⟨⟨λ_=>False,λ_=>none⟩,w,g0,[]⟩
 have hz:=GZ (X:=X) (jB.of (X:=X) (cu _) ho hg) hgd.aK hu;rw[jR]at hz;have hz:jh (G.dC st.get i).F w (.sl n z h) u:=hz;exact hz.mono (bu _) (λ_ _ _=>rfl) (λb hb _=>hb.imp id λhb=>⟨i,hb⟩)
def Ue(st:ST):List V->List V->Prop
 |[],[]=>True
 |a::r,b::q=>BW st a b/\Ue st r q
 |_,_=>False
theorem adK{st:ST}:∀ {l q:List V},Ue st l q->l.length=q.length/\∀(k:Nat) (b:V),q[k]?=some b->∃ a,l[k]?=some a/\BW st a b
 |[],[],_=>⟨rfl,λk b h=>by simp at h⟩
 |a::r,b::q,h=>by
  obtain⟨h1,h2⟩:=adK h.2;refine⟨by simp[h1],λk b' hk=>?_⟩;cases k with
  |zero=>simp at hk;subst hk;exact⟨a,rfl,h.1⟩
  |succ k=>exact h2 k b' (by simpa using hk)
 |[],_::_,h=>h.elim
 |_::_,[],h=>h.elim
theorem ajO{G:Gh}{st:ST}{w:World}(hg:bV G st w):bV (G.all st) e0 w:=aeY λb h=>by
 rcases h with h|⟨i,h⟩
 ·exact hg.aK.vK b h
 ·exact hg.aK.lt h
theorem asT{f:Nat}{args args':List V}{st:ST}{r:V}{K:V->ST->Prop}(h:aQ f args' r)(hf:Nh r)(ha:Ue st args args')(hk:K r st):ae f args st K:=by
 refine⟨h.1,λG w us hg hl hv=>?_⟩;obtain⟨hal,hag⟩:=adK ha;refine(h.2 (G.all st) w us (ajO hg) (hl.trans hal) λk v u hk1 hk2=>?_).mono λe w' hh=>?_
 ·obtain⟨a,h1,h2⟩:=hag k v hk1;exact h2 G w u hg (hv k a u h1 hk2)
 ·obtain⟨v,V,t',G',e1,⟨e2,e3⟩,e4,e5,e6⟩:=hh;subst e2 e3;have hb:Below w.heap.size w w':=⟨e5.os,e5.tape,e5.output,e5.size,λk hk=>e5.keep k hk λi hi=>hi.elim⟩;obtain⟨p1,p2⟩:=Ll hg hb;exact⟨v,_,st,_,e1,hk,p1,p2,ahe hf e6⟩
theorem ae.fin{f:Nat}{args:List V}{t:ST}{Q K:V->ST->Prop}(h:ae f args t Q)(hk:∀(X:Cx t) (v:V) (t':ST),Q v t'->Fin X v t' K):ae f args t K:=
 ⟨h.1,λG w us hg hl hv=>(h.2 G w us hg hl hv).mono λe w' ⟨v,V,t',G',h1,h2,h3,h4,h5⟩=>by
  obtain⟨v',t2,G2,q1,q2,q3,q4⟩:=(hk ⟨G,w,hg,[]⟩ V t' h2).h G' w' v h3 h4 h5;exact⟨v,v',t2,G2,h1,q1,q2,q3,q4⟩⟩
theorem ae.Tn{f:Nat}{args:List V}{t t1:ST}{r:V}{K:V->ST->Prop}(h:ae f args t (λv t=>v=r/\t=t1))(hk:∀ X:Cx t,Fin X r t1 K):ae f args t K:=
 h.fin λX v t' ⟨e1,e2⟩=>by subst e1 e2;exact hk X
theorem BW.agg{st:ST}{n:Nat}{g h:Nat->V}(hh:∀ k,k<n->BW st (g k) (h k)):BW st (.agg n g) (.agg n h):=λG w u hg ⟨cs,e,hn,hc⟩=>
 ⟨cs,e,hn,λk x hx=>⟨(hc k x hx).1,hh k (by rw[<-hn];exact(Array.getElem?_eq_some_iff.1 hx).1) G w x hg (hc k x hx).2⟩⟩
def Yb(st:ST)(g h:Nat->V):Nat->Prop
 |0=>True
 |n+1=>Yb st g h n/\BW st (g n) (h n)
theorem aa0{st:ST}{g h:Nat->V}:∀ {n:Nat},Yb st g h n->∀ k,k<n->BW st (g k) (h k)
 |0,_,k,hk=>by omega
 |n+1,hc,k,hk=>by
  by_cases e:k=n
  ·subst e;exact hc.2
  ·exact aa0 hc.1 k qO
theorem aus{st:ST}{n:Nat}{g h:Nat->V}(hh:Yb st g h n):BW st (.agg n g) (.agg n h):=BW.agg (aa0 hh)
theorem ahh{g:Nat->Nat->V}{j c a b:Nat}{h:Nat->V}(e:h 0=g j c):lN g j c 1 h a b=g a b:=by
 unfold lN;rcases h1:Nat.beq a j with _|_
 ·rfl
 ·rcases h2:Nat.ble c b&&Nat.blt b (c+1) with _|_
  ·rfl
  ·obtain⟨q1,q2⟩:=kJ h2;have:=dH h1;subst this;have:=CJ q1;have:=lS q2;obtain rfl:b=c:=qO;show h (b-b)=g a b;rw[Nat.sub_self,e]
theorem aeA{g:Nat->Nat->V}{j c a b:Nat}{h:Nat->V}:lN g j c 1 h a b=if a=j/\b=c then h 0 else g a b:=by
 unfold lN;by_cases h1:a=j
 ·subst h1;by_cases h2:b=c
  ·subst h2;rw[if_pos ⟨rfl,rfl⟩,show Nat.beq a a=true by simp,show Nat.ble b b=true from Nat.ble_eq_true_of_le (bu _),show Nat.blt b (b+1)=true from by rw[Nat.blt_eq];omega,Nat.sub_self];rfl
  ·rw[if_neg (λe=>h2 e.2)];have:(Nat.ble c b&&Nat.blt b (c+1))=false:=Bool.eq_false_iff.2 λe=>by
    obtain⟨q1,q2⟩:=kJ e;have:=CJ q1;have:=lS q2;omega
   rw[this];simp
 ·rw[if_neg (λe=>h1 e.1)];have:Nat.beq a j=false:=Bool.eq_false_iff.2 λe=>h1 (dH e)
  rw[this];rfl
end Go.Proofs.YtnibdnahojjcgaaGreat
