/- A part of the proof. -/
import Derived.Test.YtnibdnahojjcgaaGreatB17
namespace Go.Proofs.YtnibdnahojjcgaaGreat
set_option maxRecDepth 100000
set_option maxHeartbeats 16000000
set_option linter.unusedVariables false
set_option linter.unusedSimpArgs false
open Go.RowKit
section
def BF(n:Nat):Code->Option (Array Oper)
 |.region i ops _=>bif Nat.beq i n then some ops else none
 |.seq a b=>match BF n a with|some x=>some x|none=>BF n b
 |.cond _ a b=>match BF n a with|some x=>some x|none=>BF n b
 |.block _ a=>BF n a
 |.loop a=>BF n a
 |.rangeFunc _ _ a b=>match BF n a with|some x=>some x|none=>BF n b
 |.scope a=>BF n a
 |_=>none
def mW(f:Func)(n:Nat):Array Oper:=match f.body with|some c=>(match BF n c with|some x=>x|none=>#[])|none=>#[]
def kX(P:Nat->Prop):aG->Prop
 |.dead=>True
 |.blk n g=>∀ k,k<n->iO P (g k)
 |.row _ s n g=>∀ j,j<n->∀ k,k<s->iO P (g j k)
 |.map es=>∀ k v,dU es k=some v->iO P v
def YC(P:Nat->Prop):List (Int×V)->Prop
 |[]=>True
 |p::r=>iO P p.2/\YC P r
theorem VJ{P:Nat->Prop}:∀ {l:List (Int×V)},YC P l->kX P (.map l)
 |[],_=>λk v h=>by cases h
 |(j,u)::r,h=>λk v hv=>by
  have hv:(bif decide (j=k) then some u else dU r k)=some v:=hv;cases hd:decide (j=k)
  ·rw[hd]at hv;exact VJ h.2 k v hv
  ·rw[hd]at hv;obtain rfl:=fG hv;exact h.1
theorem atp{φ:Nat->Option Nat}{N:Nat}{P:Nat->Prop}(hP:∀ k,P k->k<N/\φ k=some k){o:aG}(h:kX P o):af N (lQ φ o) o:=by
 cases o with
 |dead=>exact trivial
 |blk n g=>exact⟨rfl,λk hk=>asZ hP (h k hk)⟩
 |row E s n g=>exact⟨rfl,rfl,rfl,λj hj k hk=>asZ hP (h j hj k hk)⟩
 |map es=>
  intro k;rw[Il];rcases he:dU es k with _|v
  ·trivial
  ·exact asZ hP (h k v he)
def FQ(M:List Nat)(D:Nat->Bool):Prop:=∀ e c,(M.getD e 0).testBit c=true->D e=true->D c=true
def RD(own:nN)(D:Nat->Bool)(k:Nat):Prop:=own[k]?=some none\/∃ e q,own[k]?=some (some (e,q))/\D e=true
theorem atT{N:Nat}{o:aG}:af N o .dead:=by cases o <;> trivial
structure Ren (own:nN) (N i:Nat) (D:Nat->Bool) (φ:Nat->Option Nat):Prop where
 old:∀ k,own[k]?=some none->φ k=some k
 done:∀ k e q,own[k]?=some (some (e,q))->e≠i->D e=true->φ k=some k
 new:∀ k q,own[k]?=some (some (i,q))->φ (N+q)=some k
def Ff(own:nN)(N i k:Nat):Nat:=match own[k]? with
 |some (some (e,q))=>bif Nat.beq e i then N+q else k
 |_=>k
def xk(own:nN)(N i:Nat)(φ:Nat->Option Nat)(S1 S2 t:ST)(k:Nat):Prop:=
 (t.get k=S1.get k/\S2.get k=S1.get k/\Ff own N i k=k)\/af N (lQ φ (t.get (Ff own N i k))) (S2.get k)
theorem atK{own:nN}{N i:Nat}{φ:Nat->Option Nat}{S1 S2 t:ST}{k:Nat}(h1:t.get k=S1.get k)(h2:S2.get k=S1.get k)(h3:Ff own N i k=k):xk own N i φ S1 S2 t k:=.inl ⟨h1,h2,h3⟩
theorem xk.new{own:nN}{N i:Nat}{φ:Nat->Option Nat}{S1 S2 t:ST}{k:Nat}(h:af N (lQ φ (t.get (Ff own N i k))) (S2.get k)):xk own N i φ S1 S2 t k:=.inr h
def fU(own:nN)(N i:Nat)(φ:Nat->Option Nat)(S1 S2 t:ST):Nat->Prop
 |0=>True
 |k+1=>fU own N i φ S1 S2 t k/\xk own N i φ S1 S2 t k
theorem acn{own:nN}{N i:Nat}{φ:Nat->Option Nat}{S1 S2 t:ST}:∀ {n:Nat},fU own N i φ S1 S2 t n->∀ k,k<n->xk own N i φ S1 S2 t k
 |0,_,k,hk=>by omega
 |n+1,h,k,hk=>by
  by_cases e:k=n
  ·subst e;exact h.2
  ·exact acn h.1 k qO
def Jk(i:Nat):nN->Bool
 |[]=>true
 |none::r=>Jk i r
 |some (e,_)::r=>!Nat.beq e i&&Jk i r
theorem Uu{i:Nat}:∀ {own:nN} {k e q:Nat},Jk i own=true->own[k]?=some (some (e,q))->Nat.beq e i=false
 |[],k,e,q,_,h=>by simp at h
 |none::r,0,e,q,h,hk=>by simp at hk
 |some (a,b)::r,0,e,q,h,hk=>by
  have h:(!Nat.beq a i&&Jk i r)=true:=h;obtain⟨rfl,rfl⟩:=Prod.mk.inj (fG (fG hk));simpa using(kJ h).1
 |none::r,k+1,e,q,h,hk=>Uu (own:=r) (k:=k) h (by simpa using hk)
 |some (a,b)::r,k+1,e,q,h,hk=>by
  have h:(!Nat.beq a i&&Jk i r)=true:=h;exact Uu (own:=r) (k:=k) (kJ h).2 (by simpa using hk)
theorem fU.refl{own:nN}{N i:Nat}{φ:Nat->Option Nat}{S1:ST}(h:Jk i own=true):∀ {n:Nat},fU own N i φ S1 S1 S1 n
 |0=>trivial
 |n+1=>⟨fU.refl h,.inl ⟨rfl,rfl,by
  unfold Ff;rcases ho:own[n]? with _|_|⟨e,q⟩
  ·rfl
  ·rfl
  ·simp only[Uu h ho,di]⟩⟩
def uO:List (Int×Bool×V)->List (Int×V)
 |[]=>[]
 |(k,b,v)::r=>bif b then (k,v)::uO r else uO r
def XT(k:Int):List (Int×Bool×V)->Prop
 |[]=>True
 |p::r=>p.1≠k/\XT k r
def YA(N:Nat)(φ:Nat->Option Nat):List (Int×Bool×V)->Prop
 |[]=>True
 |p::r=>(p.2.1=true->VW N (dO φ p.2.2) p.2.2)/\YA N φ r
theorem adk{N:Nat}{φ:Nat->Option Nat}:∀ {L:List (Int×Bool×V)},YA N φ L->∀ x,match dU ((uO L).map λp=>(p.1,dO φ p.2)) x,dU (uO L) x with
  |some v,some v'=>VW N v v'
  |none,none=>True
  |_,_=>False
 |[],_,x=>trivial
 |(k,b,v)::r,h,x=>by
  have ih:=adk (L:=r) h.2 x;cases b
  ·exact ih
  ·show match (bif decide (k=x) then some (dO φ v) else dU ((uO r).map λp=>(p.1,dO φ p.2)) x),(bif decide (k=x) then some v else dU (uO r) x) with
    |some v,some v'=>VW N v v'
    |none,none=>True
    |_,_=>False
   cases decide (k=x)
   ·exact ih
   ·exact h.1 rfl
theorem adl{k:Int}{v:V}{L2:List (Int×Bool×V)}:∀ {L1:List (Int×Bool×V)},XT k L1->∀ x,dU (uO (L1++(k,true,v)::L2)) x=bif decide (k=x) then some v else dU (uO (L1++(k,false,v)::L2)) x
 |[],_,x=>rfl
 |(j,b,u)::r,h,x=>by
  have ih:=adl (v:=v) (L2:=L2) (L1:=r) h.2 x;cases b
  ·exact ih
  ·show(bif decide (j=x) then some u else dU (uO (r++(k,true,v)::L2)) x)=bif decide (k=x) then some v else (bif decide (j=x) then some u else dU (uO (r++(k,false,v)::L2)) x)
   by_cases e:j=x
   ·rw[bg e,aX (λe2=>h.1 (e.trans e2.symm))];rfl
   ·rw[aX e];exact ih
theorem ata{N:Nat}{φ:Nat->Option Nat}{k:Int}{v v':V}{L2:List (Int×Bool×V)}(L1:List (Int×Bool×V))(hk:XT k L1)(hv:VW N (dO φ v') v)(hL:YA N φ (L1++(k,false,v)::L2)) :
  af N (lQ φ (.map ((k,v')::uO (L1++(k,false,v)::L2)))) (.map (uO (L1++(k,true,v)::L2))):=λx=>by
 have ih:=adk hL x;rw[adl hk x];show match (bif decide (k=x) then some (dO φ v') else dU ((uO (L1++(k,false,v)::L2)).map λp=>(p.1,dO φ p.2)) x),(bif decide (k=x) then some v else dU (uO (L1++(k,false,v)::L2)) x) with
  |some v,some v'=>VW N v v'
  |none,none=>True
  |_,_=>False
 cases decide (k=x)
 ·exact ih
 ·exact hv
theorem adm{P:Nat->Prop}:∀ {L:List (Int×Bool×V)},(∀ p∈L,p.2.1=true->iO P p.2.2)->YC P (uO L)
 |[],_=>trivial
 |(k,b,v)::r,h=>by
  have ih:=adm (P:=P) (L:=r) λp hp=>h p (je _ hp)
  cases b
  ·exact ih
  ·exact⟨h (k,true,v) jC rfl,ih⟩
theorem as9{N i k o:Nat}{φ:Nat->Option Nat}(h:φ i=some k)(hk:k<N):VW N (dO φ (.ptr i o)) (.ptr k o):=by
 refine asF ?_ hk;simp only[dO,h]
theorem at6{N i k:Nat}{φ:Nat->Option Nat}(h:φ i=some k)(hk:k<N):VW N (dO φ (.mp i)) (.mp k):=by
 refine asF ?_ hk;simp only[dO,h]
theorem abP:∀ {l:List (Nat×aG)} {k:Nat} {ob:aG},ik (l.map (·.1))=true->(k,ob)∈l->dM l k=ob
 |[],k,ob,_,h=>by simp at h
 |(j,o)::r,k,ob,hn,h=>by
  have hn:((match bZ (r.map (·.1)) j with|some _=>false|none=>true)&&ik (r.map (·.1)))=true:=hn;obtain⟨h1,h2⟩:=kJ hn;show(bif Nat.beq j k then o else dM r k)=ob;rcases List.mem_cons.1 h with e|e
  ·injection e with e1 e2
   subst e1 e2;rw[show Nat.beq k k=true by simp];rfl
  ·have hb:Nat.beq j k=false:=Bool.eq_false_iff.2 λhb=>by
    have:=dH hb;subst this;obtain⟨i,hi,he⟩:=List.getElem_of_mem (List.mem_map_of_mem (f:=(·.1)) e);have:=oL h2 (l:=r.map (·.1)) (i:=j) (k:=i) (by rw[dW hi,he]);rw[this]at h1;cases h1
   rw[hb];exact abP h2 e
section
variable {t0:ST} {X:Cx t0}
theorem aaQ:∀ {l:List (Nat×aG)} {k:Nat},(∀ j o,(j,o)∈l->j≠k)->dM l k = .dead
 |[],k,_=>rfl
 |(j,o)::r,k,h=>by
  show(bif Nat.beq j k then o else dM r k) = .dead;rw[show Nat.beq j k=false from Bool.eq_false_iff.2 λhb=>h j o jC (dH hb)];exact aaQ λa b hab=>h a b (je _ hab)
structure Ny (X:Cx t0) (s:AS) (l:List Oper) (vs:List V) (N:Nat) (own:nN) (S:(Nat->Bool)->ST):Prop where
 len:vs.length=l.length
 vz:own.length=N
 dst:JF l=true
 back:He l 0=true
 GV:zZ own=true
 nx:∀ D,(S D).nx=N
 keys:∀ D,ik ((S D).st.map (·.1))=true
 small:∀ D,((S D).st.map (·.1)).all (λk=>Nat.blt k N)=true
 low:∀ k,k<t0.nx->own[k]?=some none
 base:s.s.nx<=N/\∀ k,k<N->(S λk=>Nat.ble l.length k).get k = .dead\/af N (s.s.get k) ((S λk=>Nat.ble l.length k).get k)
 Jt:Y0 (XQ own) s.sl
 NC:∀ e v,vs[e]?=some v->iO (arD own (vG l []) e) v
 ids:∀ D,FQ (vG l []) D->∀ k,k<N->kX (RD own D) ((S D).get k)
 Jd:∀(D:Nat->Bool) {k e q:Nat},D e=false->own[k]?=some (some (e,q))->(S D).get k = .dead
 step:∀ i o v,l[i]?=some o->vs[i]?=some v->s.fits o.dst=true/\∀(D:Nat->Bool) (φ:Nat->Option Nat),Jl (vG l []) i D l.length->FQ (vG l []) D->Ren own N i D φ->gG l o (gq l vs s i o (S D)) λV t=>VW N (dO φ V) v/\fU own N i φ (S D) (S (wP D i)) t N
def yV(M:List Nat)(i n:Nat)(D:Nat->Bool)(e:Nat):Bool:=bif Nat.blt e n then (bif (M.getD i 0).testBit e then true else bif (M.getD e 0).testBit i||Nat.beq e i then false else D e) else D e
theorem amu{M:List Nat}{i:Nat}{D:Nat->Bool}{n:Nat}(h:Jl M i D n):yV M i n D=D:=by
 have key:∀(n e:Nat),Jl M i D n->e<n->(bif (M.getD i 0).testBit e then D e=true else (bif (M.getD e 0).testBit i||Nat.beq e i then D e=false else True)):=by
  intro n;induction n with
  |zero=>exact λe _ he=>au he (qZ e)
  |succ n ih=>
   intro e hk he;rcases mP e n with h1|h1
   ·exact ih e hk.2 h1
   ·obtain rfl:e=n:=qO;exact hk.1
 funext e;unfold yV;rcases hb:Nat.blt e n with _|_
 ·rfl
 ·have hk:=key n e h (lS hb);revert hk;rcases(M.getD i 0).testBit e with _|_
  ·rcases(M.getD e 0).testBit i||Nat.beq e i with _|_
   ·exact λ_=>rfl
   ·exact λh=>h.symm
  ·exact λh=>h.symm
theorem apD{l:List Oper}{vs:List V}{s:AS}{N:Nat}{own:nN}{S:(Nat->Bool)->ST}(M:List Nat)(n:Nat)(hM:vG l []=M)(hn:l.length=n)(h:∀ i o v,l[i]?=some o->vs[i]?=some v->s.fits o.dst=true/\∀(D:Nat->Bool) (φ:Nat->Option Nat),FQ M (yV M i n D)->Ren own N i (yV M i n D) φ->gG l o (gq l vs s i o (S (yV M i n D))) λV t=>VW N (dO φ V) v/\fU own N i φ (S (yV M i n D)) (S (wP (yV M i n D) i)) t N) :
  ∀ i o v,l[i]?=some o->vs[i]?=some v->s.fits o.dst=true/\∀(D:Nat->Bool) (φ:Nat->Option Nat),Jl (vG l []) i D l.length->FQ (vG l []) D->Ren own N i D φ->gG l o (gq l vs s i o (S D)) λV t=>VW N (dO φ V) v/\fU own N i φ (S D) (S (wP D i)) t N:=λi o v ho hv=>⟨(h i o v ho hv).1,λD φ hk hc hr=>by
 subst hM hn;have:=(h i o v ho hv).2 D φ;rw[amu hk]at this;exact this hc hr⟩
theorem abt{N i:Nat}{D:Nat->Bool}{own:nN}(ho:zZ own=true)(hN:own.length=N):Ren own N i D (bZ (sF N i D 0 own)) where
 old:=λk h=>by
  have:=Ba N i D 0 own k _ h;rw[jm]at this;exact oL (Pj ho hN) this
 done:=λk e q h hne hd=>by
  have:=Ba N i D 0 own k _ h;rw[jm]at this;have hb:Nat.beq e i=false:=Bool.eq_false_iff.2 λe=>hne (dH e)
  simp only[hb,hd,di,dR]at this;exact oL (Pj ho hN) this
 new:=λk q h=>by
  have:=Ba N i D 0 own k _ h;have hb:Nat.beq i i=true:=by simp
  simp only[hb,dR]at this;exact oL (Pj ho hN) this
theorem ada{N:Nat}{φ:Nat->Option Nat}{t:ST}{aC:List Nat}:∀ {l:List (Nat×aG)},(∀ k ob,(k,ob)∈l->∃ i,aC[k]?=some i/\af N (lQ φ (t.get i)) ob)->o9 N φ t aC l
 |[],_=>trivial
 |(k,ob)::r,h=>⟨h k ob jC,ada λj o hj=>h j o (je _ hj)⟩
theorem Ny.bG{s:AS}{l:List Oper}{vs:List V}{N:Nat}{own:nN}{S:(Nat->Bool)->ST}(h:Ny X s l vs N own S){i:Nat}{D:Nat->Bool}(hc:FQ (vG l []) D)(hi:D i=false){t:ST}(hch:fU own N i (bZ (sF N i D 0 own)) (S D) (S (wP D i)) t N):o9 N (bZ (sF N i D 0 own)) t (sF N i D 0 own) (S (wP D i)).st:=by
 have hr:=abt (i:=i) (D:=D) h.GV h.vz;refine ada λk ob hk=>?_
 have hkN:k<N:=by
  have:=List.all_eq_true.1 (h.small (wP D i)) k (List.mem_map_of_mem (f:=(·.1)) hk);exact lS this
 have hob:(S (wP D i)).get k=ob:=abP (h.keys _) hk;have hko:k<own.length:=by rw[h.vz];exact hkN
 have hp:=Ba N i D 0 own k _ (dW hko);rw[jm]at hp;refine⟨_,hp,?_⟩;rcases acn hch k hkN with ⟨q1,q2,q3⟩|q
 ·rw[<-hob,q2];have hid:=h.ids D hc k hkN;rcases hx:own[k] with _|⟨e,q⟩
  ·show af N (lQ _ (t.get k)) _;rw[q1];refine atp (P:=RD own D) (λj hj=>?_) hid;rcases hj with hj|⟨e,q,hj,hd⟩
   ·exact⟨by rw[<-h.vz];exact(List.getElem?_eq_some_iff.1 hj).1,hr.old j hj⟩
   ·exact⟨by rw[<-h.vz];exact(List.getElem?_eq_some_iff.1 hj).1,hr.done j e q hj (λe'=>by rw[e',hi]at hd;cases hd) hd⟩
  ·have hgo:own[k]?=some (some (e,q)):=by rw[dW hko,hx]
   by_cases OG:e=i
   ·exfalso;unfold Ff at q3;rw[hgo]at q3;simp only[OG,show Nat.beq i i=true by simp,dR]at q3;omega
   ·have hb:Nat.beq e i=false:=Bool.eq_false_iff.2 λe=>OG (dH e)
    simp only[hb,di];rcases hd:D e with _|_
    ·simp only[di];have:=h.Jd D hd hgo;rw[this];exact atT
    ·simp only[dR];rw[q1];refine atp (P:=RD own D) (λj hj=>?_) hid;rcases hj with hj|⟨e,q,hj,hd⟩
     ·exact⟨by rw[<-h.vz];exact(List.getElem?_eq_some_iff.1 hj).1,hr.old j hj⟩
     ·exact⟨by rw[<-h.vz];exact(List.getElem?_eq_some_iff.1 hj).1,hr.done j e q hj (λe'=>by rw[e',hi]at hd;cases hd) hd⟩
 ·rw[<-hob];rcases hx:own[k] with _|⟨e,q9⟩
  ·have hgo:own[k]?=some none:=by rw[dW hko,hx]
   unfold Ff at q;rw[hgo]at q;exact q
  ·have hgo:own[k]?=some (some (e,q9)):=by rw[dW hko,hx]
   unfold Ff at q;rw[hgo]at q;simp only at q;by_cases OG:e=i
   ·subst OG;simp only[show Nat.beq e e=true by simp,dR]at q ⊢;exact q
   ·have hb:Nat.beq e i=false:=Bool.eq_false_iff.2 λe=>OG (dH e)
    simp only[hb,di]at q ⊢;rcases hd:D e with _|_
    ·have hu:wP D i e=false:=by unfold wP;rw[hb];exact hd
     have:=h.Jd _ hu hgo;rw[this];exact atT
    ·simp only[dR];exact q
variable {s:AS} {l:List Oper} {vs:List V} {N:Nat} {own:nN} {S:(Nat->Bool)->ST} {Q:Exit->Act->World->Prop}
theorem ak0(h:Ny X s l vs N own S)(hend:∀ a w,Mod X ⟨s.nt,ru l vs++s.sl,S (λ_=>true)⟩ a w->Q .normal a w) :
  ∀(fuel:Nat) (listed:Array Bool) (a:Act) (w:World),Aw listed=fuel->afN X s l vs S listed a w->wpAny Tryz.prog .any l.toArray Q fuel listed a w:=by
 have fin:∀ listed a w,afN X s l vs S listed a w->(∀ i,i<l.length->listed.getD i true=true)->Q .normal a w:=by
  intro listed a w hW hall;have e:qP listed=λ_=>true:=funext λk=>by
   show listed.getD k true=true;rcases mP k l.length with h1|h1
   ·exact hall k h1
   ·have:=hW.size;have h2:¬k<listed.size:=qO;simp[h2]
  obtain⟨G,hg,h1,h2,hx,h3,h4⟩:=hW.mod;rw[e]at hg hx h3 h4;refine hend a w ⟨G,hg,⟨⟨h1,λj=>?_⟩,h2⟩,hx⟩;rcases VD s.sl j l vs h.len.symm with ⟨q1,q2⟩|⟨i,o,v,q1,q2,q3,q4⟩
  ·rw[show dG (AS.mk s.nt (ru l vs++s.sl) (S λ_=>true)).sl j=dG s.sl j from q2];exact h4 j (λk o hk hd _=>q1 o (uX hk) hd)
  ·rw[show dG (AS.mk s.nt (ru l vs++s.sl) (S λ_=>true)).sl j=v from q4];exact h3 i o j v q1 q2 (hall i (List.getElem?_eq_some_iff.1 q1).1) q3
 intro fuel;induction fuel with
 |zero=>
  intro listed a w hu hW;refine⟨?_,fin listed a w hW λi _=>PR hu i⟩;refine List.eq_nil_iff_forall_not_mem.2 λj hj=>?_
  have:=(mem_ready.1 hj).1;rw[PR hu j]at this;cases this
 |succ fuel ih=>
  intro listed a w hu hW;have hs:=hW.size;have JV:=KZ hW.closed l [] [] rfl rfl (by intro k e h;simp[List.getD]at h);constructor
  ·intro hr;have hall:∀ m k,k<m->k<l.length->listed.getD k true=true:=by
    intro m;induction m with
    |zero=>intro k h;omega
    |succ m ih=>
     intro k hkm hkl;by_cases hlt:k<m
     ·exact ih k hlt hkl
     ·obtain rfl:k=m:=qO;cases hg:listed.getD k true with
      |true=>rfl
      |false=>
       exfalso;have hk':l[k]?=some l[k]:=dW hkl;have:k∈Region.ready .any l.toArray listed:=mem_ready.2 ⟨hg,l[k],by simp,λe he hbd=>by
        have hlt:=Ir h.back hk' e he hbd;have:=ih e.on qO qO;rcases mP e.on listed.size with h'|h'
        ·simpa [h'] using this
        ·omega⟩
       rw[hr]at this;cases this
   exact fin listed a w hW λi hi=>hall (i+1) i qO hi
  ·intro i hi;obtain⟨hun,o,ho,hafter⟩:=mem_ready.1 hi;have ho':l[i]?=some o:=by simpa using ho
   have hil:i<l.length:=(List.getElem?_eq_some_iff.1 ho').1;have hdl:∀ e∈o.after.toList,Region.binds .any e=true->listed.getD e.on true=true:=by
    intro e he hbd;have h1:=hafter e (by simpa using he) hbd;have h2:=Ir h.back ho' e (by simpa using he) hbd;rcases mP e.on listed.size with h'|h'
    ·simpa [h'] using h1
    ·omega
   have RY:∀ e,((vG l []).getD i 0).testBit e=true->e≠i/\listed.getD e true=true:=by
    have hc2:Closed l (λk=>k=i\/listed.getD k true=true):=by
     intro k o2 hk hL e he hbd;rcases hL with rfl|hL
     ·rw[hk]at ho';injection ho' with ho'
      subst ho';exact .inr (hdl e he hbd)
     ·exact .inr (hW.closed k o2 hk hL e he hbd)
    intro e he;have hne:e≠i:=by
     have:=WX h.back l [] [] rfl rfl (by intro k e h;simp[List.getD]at h) i e he;omega
    exact⟨hne,(KZ hc2 l [] [] rfl rfl (by intro k e h;simp[List.getD]at h) i e he (.inl rfl)).resolve_left hne⟩
   have hiv:i<vs.length:=by have:=h.len;omega
   have hv:vs[i]?=some (vs[i]'hiv):=dW hiv;obtain⟨iC,hstep⟩:=h.step i o _ ho' hv;have hst:=hstep (qP listed) _ (abQ (λe _ he=>(RY e he).2) (λe _ he=>by
    rcases he with he|rfl
    ·rcases hl:listed.getD e true with _|_
     ·exact hl
     ·have:=JV e i he hl;rw[hun]at this;cases this
    ·exact hun)) (λe c hc he=>JV e c hc he) (abt h.GV h.vz)
   obtain⟨G,hg,hnt,hdf,hx,h3,h4⟩:=hW.mod;have Xv:oG G (gq l vs s i o (S (qP listed))) a w:=⟨hnt,λj=>by
    show aO G (S (qP listed)).get w (dG (rE l vs o.after.toList++xP i l s.sl o.op.operands.toList) j) _;rcases VE (xP i l s.sl o.op.operands.toList) j o.after.toList with h|⟨e,he,hb,o',v,q1,q2,q3,q4⟩
    ·rw[h];rcases Gn l s.sl i j o.op.operands.toList with h|⟨q1,q2⟩
     ·rw[h];trivial
     ·rw[q2];refine h4 j λk o2 hk ja hlk=>?_
      obtain⟨e,he,hb,hon⟩:=OZ (q1 o2 (uX hk) ja);have:=hW.closed k o2 hk hlk e (by simpa using he) hb;rw[hon,hun]at this;cases this
    ·rw[q4];exact h3 e.on o' j v q1 q2 (hdl e he hb) q3⟩
   refine ZH l.toArray ho hg Xv hst λu V t' G' w' hK lU hst' Ib=>?_
   obtain⟨hVW,hch⟩:=hK;have hob:=h.bG (D:=qP listed) (λe c hc he=>JV e c hc he) hun hch;have hgs:∀ k,(listed.setIfInBounds i true).getD k true=true↔(k=i\/listed.getD k true=true):=by
    intro k;by_cases hki:k=i
    ·subst hki;rw[uy,Array.getElem?_setIfInBounds_self];simp only[true_or,iff_true];split <;> simp
    ·rw[getD_set_ne _ (Ne.symm hki)];simp[hki]
   have eD:qP (listed.setIfInBounds i true)=wP (qP listed) i:=funext λk=>by
    show(listed.setIfInBounds i true).getD k true=bif Nat.beq k i then true else listed.getD k true
    rcases hb:Nat.beq k i with _|_
    ·rw[di,getD_set_ne _ (λe=>by subst e;simp at hb)]
    ·rw[dR];exact(hgs k).2 (.inl (dH hb))
   have hcl:Closed l (λk=>(listed.setIfInBounds i true).getD k true=true):=by
    intro k o2 hk hL e he hbd;rw[hgs]at hL;refine(hgs _).2 (.inr ?_);rcases hL with rfl|hL
    ·rw[hk]at ho';injection ho' with ho'
     subst ho';exact hdl e he hbd
    ·exact hW.closed k o2 hk hL e he hbd
   have hu2:Aw (listed.setIfInBounds i true)=fuel:=by have:=acI listed i hun;omega
   have hnd:ik (sF N i (qP listed) 0 own)=true:=Pj h.GV h.vz;have hnx:(S (wP (qP listed) i)).nx=(sF N i (qP listed) 0 own).length:=by rw[h.nx,Le,h.vz]
   have NW:o9 (S (wP (qP listed) i)).nx (bZ (sF N i (qP listed) 0 own)) t' (sF N i (qP listed) 0 own) (S (wP (qP listed) i)).st:=by rw[h.nx];exact hob
   have hsame:∀ k,own[k]?=some none\/(∃ c q,own[k]?=some (some (c,q))/\c≠i/\listed.getD c true=true)->k<N/\bZ (sF N i (qP listed) 0 own) k=some k:=by
    intro k hk;have hlt:k<N:=by
     rw[<-h.vz];rcases hk with hk|⟨c,q,hk,_⟩ <;> exact(List.getElem?_eq_some_iff.1 hk).1
    refine⟨hlt,oL hnd ?_⟩;rcases hk with hk|⟨c,q,hk,hc,hlc⟩
    ·rw[Ba _ _ _ _ _ _ _ hk];simp
    ·rw[Ba _ _ _ _ _ _ _ hk];have hb:Nat.beq c i=false:=Bool.eq_false_iff.2 λe=>hc (dH e)
     have hl:qP listed c=true:=hlc;simp[hb,hl]
   refine ih _ _ _ hu2 ⟨by simpa using hs,hcl,?_⟩;rw[eD];refine⟨G'.sub (sF N i (qP listed) 0 own),PW lU hnd hnx NW,?_,?_,acN lU (hx.trans hst') hnd NW (λk hk=>?_),?_,?_⟩
   ·cases o.dst <;> simp[Act.put,hnt]
   ·cases o.dst <;> simp[Act.put,hdf]
   ·rw[Ba _ _ _ _ _ _ _ (h.low k hk)];simp
   ·intro j o' d v q1 q2 q3 q4;by_cases hji:j=i
    ·subst hji;rw[q1]at ho';injection ho' with ho'
     subst ho';rw[hv]at q4;injection q4 with q4
     rw[q2,abv a d u (by rw[hnt];rw[q2]at iC;exact lS iC),<-q4];exact EC NW (by rw[h.nx];exact hVW) Ib
    ·rw[PH a o.dst u d (acb h.dst q1 ho' hji q2)];have hlj:=((hgs j).1 q3).resolve_left hji;have Zf:=(h3 j o' d v q1 q2 hlj q4).dS hst' hg.aK;refine EC NW ?_ Zf;rw[h.nx];refine asZ (λk hk=>hsame k ?_) (h.NC j v q4);rcases hk with hk|⟨c,q,hk,hc⟩
     ·exact .inl hk
     ·have hlc:listed.getD c true=true:=by
       rcases hc with rfl|hc
       ·exact hlj
       ·exact JV j c hc hlj
      exact .inr ⟨c,q,hk,λe=>(by subst e;rw[hun]at hlc;cases hlc),hlc⟩
   ·intro j q;rw[PH a o.dst u j (λe=>q i o ho' e ((hgs i).2 (.inl rfl)))];have Zf:=(h4 j λk o2 hk ja pq=>q k o2 hk ja ((hgs k).2 (.inr pq))).dS hst' hg.aK;refine EC NW ?_ Zf;rw[h.nx];exact asZ (λk hk=>hsame k (.inl hk)) (Vt h.Jt j)
theorem as1{id:Nat}{ops:Array Oper}{Q:Exit->AS->Prop}{s:AS}(vs:List V)(N:Nat)(own:nN)(S:(Nat->Bool)->ST)(hm:Tryz.prog.follows .mixedOrders=true)(h:Ny X s ops.toList vs N own S)
  (hq:Q .normal ⟨s.nt,ru ops.toList vs++s.sl,S (λ_=>true)⟩):T X (.region id ops true) Q s:=T.mk λa w hmod=>by
 refine wp_region_any hm ?_;have e:ops=ops.toList.toArray:=by simp
 have key:=ak0 (X:=X) (Q:=λe a' w'=>∃ s',Q e s'/\Mod X s' a' w') h (λa w hm=>⟨_,hq,hm⟩) ops.toList.length (Array.replicate ops.toList.length false) a { w with drawn:=w.drawn+1 } (acJ _) ⟨by simp,λk o hk hl=>by
   have:=(List.getElem?_eq_some_iff.1 hk).1;have h2:k<ops.size:=by simpa using this
   simp[h2]at hl,?_⟩
 ·rw[<-e]at key;simpa using key
 ·obtain⟨G,hg,hs,hx⟩:=hmod;have eL:qP (Array.replicate ops.toList.length false)=λk=>Nat.ble ops.toList.length k:=funext λk=>by
   show(Array.replicate ops.toList.length false).getD k true=Nat.ble ops.toList.length k;by_cases hk:k<ops.size
   ·have:Nat.ble ops.size k=false:=Bool.eq_false_iff.2 λh=>by have:=CJ h;omega
    simp[hk,this]
   ·have:Nat.ble ops.size k=true:=Nat.ble_eq_true_of_le qO;simp[hk,this]
  rw[eL];have hless:yl N s.s (S λk=>Nat.ble ops.toList.length k):=λk=>by
   rcases mP k N with hk|hk
   ·rcases h.base.2 k hk with h1|h1
    ·exact .inl h1
    ·exact .inr ⟨hk,h1⟩
   ·exact .inl (aaQ (λj o hj=>by
     have:=lS (List.all_eq_true.1 (h.small (λk=>Nat.ble ops.toList.length k)) j (List.mem_map_of_mem (f:=(·.1)) hj));omega))
  have hd:Stp G s.s.get w G s.s.get { w with drawn:=w.drawn+1 }:=Vq;have hg2:bV G ⟨s.s.st,N⟩ { w with drawn:=w.drawn+1 }:=⟨(aae hg).aK,λi hi=>hg.jK i (jV h.base.1 hi)⟩;have hlow:t0.nx<=N:=by
   refine Nat.le_of_not_lt λhlt=>?_
   have:=h.low N hlt;have:=(List.getElem?_eq_some_iff.1 this).1;rw[h.vz]at this;omega
  have Xw:yl N ⟨s.s.st,N⟩ (S λk=>Nat.ble ops.toList.length k):=hless;refine⟨G.drop N,Gp hg2 Xw (bu _) (h.nx _),hs.nt,hs.df,IG (t:=⟨s.s.st,N⟩) (hx.trans hd) Xw hlow,λi o d v h1 h2 h3 h4=>?_,λj _=>?_⟩
  ·have:=(List.getElem?_eq_some_iff.1 h1).1;have h2:i<ops.size:=by simpa using this
   simp[h2]at h3
  ·have hv:=(hs.sl j).dS hd hg.aK;refine zJ (t:=⟨s.s.st,N⟩) Xw ⟨?_,λ_ _ _ _ h=>h⟩ hv;have hq:=Vt h.Jt j;have:∀ v,iO (XQ own) v->wV N v:=by
    intro v;have hP:∀ k,XQ own k->k<N:=λk hk=>by rw[<-h.vz];exact(List.getElem?_eq_some_iff.1 hk).1
    induction v with
    |ptr i o=>exact hP i
    |rp i n j c=>exact hP i
    |row i n=>exact hP i
    |vw i n lo m=>exact hP i
    |mp i=>exact hP i
    |agg n g ih=>exact λh k hk=>ih k (h k hk)
    |fV n g ih=>exact λh k hk=>ih k (h k hk)
    |fn f nf n g ih=>exact λh k hk=>ih k (h k hk)
    |ku t w v ih=>exact ih
    |_=>exact λ_=>trivial
   exact this _ hq
end
end
def fnK(k:Int):Nat:=if k=1 then 196 else if k=2 then 197 else if k=3 then 198 else 199
def OB(k:Int):Nat->V
 |0=>iV (kd k).least|1=>iV (kd k).dK|2=>.b (kd k).second|3=>iV (kd k).RI|4=>iV ((kd k).RH:Nat)|_=>.fn (fnK k) 0 0 (λ_=>.top)
abbrev AA(k:Int):V:=.agg 6 (OB k)
abbrev TT:aG:=.map [(4,AA 4),(3,AA 3),(2,AA 2),(1,AA 1)]
def JS(N:Nat):List (Int×V)->List (Int×V)->Prop
 |[],[]=>True
 |(j,v)::r,(k,u)::q=>(j=k/\VW N v u)/\JS N r q
 |_,_=>False
theorem atW{N:Nat}:∀ {a b:List (Int×V)},JS N a b->af N (.map a) (.map b)
 |[],[],_=>λk=>trivial
 |(j,v)::r,(k,u)::q,h=>λx=>by
  obtain⟨⟨rfl,h1⟩,h2⟩:=h;have ih:=atW h2 x;show match (bif decide (j=x) then some v else dU r x),(bif decide (j=x) then some u else dU q x) with
   |some v,some v'=>VW N v v'
   |none,none=>True
   |_,_=>False
  cases decide (j=x)
  ·exact ih
  ·exact h1
 |[],_::_,h=>h.elim
 |_::_,[],h=>h.elim
theorem EO{P:Nat->Prop}{k:Int}:iO P (AA k):=λj hj=>by
 rcases j with _|_|_|_|_|j
 all_goals first|exact tv|exact λi hi=>au hi (qZ i)
theorem WC{P:Nat->Prop}{k:Int}:iO P (.fV 2 (λj=>match j with|0=>AA k|_=>.b true)):=λj hj=>by
 rcases j with _|j
 ·exact EO
 ·exact tv
theorem apm{P:Nat->Prop}:∀ j,j<6->iO P (iE 241 j):=λj hj=>by
 rcases j with _|_|_|_|_|_|j
 all_goals first|exact tv|(exact λi hi=>au hi (qZ i))|omega
theorem ap9{N:Nat}{φ:Nat->Option Nat}{j k:Int}(h:decide (j=k)=true):VW N (dO φ (okV true (AA j) true)) (.fV 2 (λq=>match q with|0=>AA k|_=>.b true)):=by
 obtain rfl:=aS h;exact asZ (P:=λ_=>False) (λk h=>h.elim) WC
theorem no4{k:Int}(h4:decide (4=k)=false)(h3:decide (3=k)=false)(h2:decide (2=k)=false)(h1:decide (1=k)=false):¬(1<=k/\k<=4):=by
 have:=bJ h4;have:=bJ h3;have:=bJ h2;have:=bJ h1;omega
def mg(r:aT)(b0 b7 b8:Bool):ST:=⟨[(0,.blk 4 (λk=>.d (oH r k))),(1,bif b0 then TT else .dead),(2,bif b7 then .blk 6 (bif b8 then OB r.kind else iE 241) else .dead)],3⟩
def aeM(r:aT):List V:=[.mp 1,.ptr 0 0,iV r.kind,.fV 2 (λk=>match k with|0=>AA r.kind|_=>.b true),.fV 2 (λk=>match k with|0=>AA r.kind|_=>.b true),AA r.kind,.b true,.ptr 2 0,.top,.b true]
theorem AX {p:Prop} (h:p:=by
 (repeat' (first|refine oz ?_|refine asz (f:=152) Tryz.func152 λX2=>?_|exact asZ (P:=λ_=>False) (λk h=>h.elim) WC|exact asZ (P:=λ_=>False) (λk h=>h.elim) EO|exact ap9 h|exact au h1 (no4 aj aj aj aj)|refine Fin.here ?_|refine atW ?_|exact atK rfl rfl rfl|refine xk.new ?_|exact tv|exact qV|exact as9 (hr.old _ rfl) qN|exact as9 (hr.new _ 0 rfl) qN|exact at6 (hr.new _ 0 rfl) qN|refine asK ?_|refine asJ ?_|refine ag.mk qN ?_|refine ai.mk (λh=>?_) (λh=>?_)|refine af.blk ?_|refine an ?_ ?_))<;>(exact rfl)):p:=h
theorem aml(r:aT)(h1:1<=r.kind/\r.kind<=4){X:Cx e0}{id:Nat}{Q:Exit->AS->Prop}(hq:Q .normal ⟨72,ru (mW Tryz.f137 1).toList (aeM r)++[(3,iV 0),(2,.dE),(1,.ptr 0 0),(0,yc r)],mg r true true true⟩):T X (.region id (mW Tryz.f137 1) true) Q ⟨72,[(3,iV 0),(2,.dE),(1,.ptr 0 0),(0,yc r)],⟨[(0,.blk 4 (λk=>.d (oH r k)))],1⟩⟩:=by
 refine as1 (aeM r) 3 [none,some (0,0),some (7,0)] (λD=>mg r (D 0) (D 7) (D 8)) qK ?_ ?_;refine { len:=rfl,vz:=rfl,dst:=rfl,back:=rfl,GV:=rfl,nx:=λD=>rfl,keys:=λD=>rfl,small:=λD=>rfl,low:=?_,base:=?_,Jt:=?_,NC:=?_,ids:=?_,Jd:=?_,step:=?_ }
 ·intro k hk;exact au hk (qZ k)
 ·refine⟨nb rfl,λk hk=>?_⟩;rcases k with _|_|_|k
  ·exact .inr (af.blk vw)
  ·exact .inl rfl
  ·exact .inl rfl
  ·omega
 ·exact⟨tv,tv,rfl,λj hj=>True.intro,tv⟩
 ·intro e v hv;rcases e with _|_|_|_|_|_|_|_|_|_|e
  all_goals first|(obtain rfl:=fG hv;first|exact tv|exact .inl rfl|exact .inr ⟨_,_,rfl,.inl rfl⟩|exact EO|exact WC)|exact au (show(none:Option V)=some v from hv) nofun
 ·intro D hc k hk;rcases k with _|_|_|k
  ·exact λj hj=>True.intro
  ·show kX _ (bif D 0 then TT else .dead);cases D 0
   ·exact tv
   ·exact VJ ⟨EO,EO,EO,EO,tv⟩
  ·show kX _ (bif D 7 then .blk 6 (bif D 8 then OB r.kind else iE 241) else .dead);cases D 7
   ·exact tv
   ·cases D 8
    ·exact apm
    ·exact EO
  ·omega
 ·intro D k e q hD hk;rcases k with _|_|_|k
  ·cases hk
  ·obtain⟨rfl,_⟩:=Prod.mk.inj (fG (fG hk));show(bif D 0 then TT else .dead)=aG.dead;rw[hD];rfl
  ·obtain⟨rfl,_⟩:=Prod.mk.inj (fG (fG hk));show(bif D 7 then _ else .dead)=aG.dead;rw[hD];rfl
  ·cases hk
 ·skip
  intro i o v ho hv;rcases i with _|_|_|_|_|_|_|_|_|_|i
  all_goals first|exact au (show(none:Option Oper)=some o from ho) nofun|(obtain rfl:=fG ho;obtain rfl:=fG hv;refine⟨by(rfl),λD φ hk hc hr=>?_⟩)
  ·have e0:D 0=false:=hk.2.2.2.2.2.2.2.2.2.1;have e8:D 8=false:=hk.2.1;clear hk;show gG _ _ (gq _ _ _ _ _ (mg r (D 0) (D 7) (D 8))) (λV t=>VW _ _ _/\fU _ _ _ _ (mg r (D 0) (D 7) (D 8)) (mg r true (D 7) (D 8)) t _);rw[e0,e8];generalize D 7=b7 at *;cases b7;all_goals exact AX
  ·have e8:D 8=false:=hk.2.1;clear hk;show gG _ _ (gq _ _ _ _ _ (mg r (D 0) (D 7) (D 8))) (λV t=>VW _ _ _/\fU _ _ _ _ (mg r (D 0) (D 7) (D 8)) (mg r (D 0) (D 7) (D 8)) t _);rw[e8];generalize D 0=b0,D 7=b7 at *;cases b0 <;> cases b7;all_goals exact AX
  ·have e8:D 8=false:=hk.2.1;clear hk;show gG _ _ (gq _ _ _ _ _ (mg r (D 0) (D 7) (D 8))) (λV t=>VW _ _ _/\fU _ _ _ _ (mg r (D 0) (D 7) (D 8)) (mg r (D 0) (D 7) (D 8)) t _);rw[e8];generalize D 0=b0,D 7=b7 at *;cases b0 <;> cases b7;all_goals exact AX
  ·have e0:D 0=true:=hk.2.2.2.2.2.2.2.2.2.1;have e8:D 8=false:=hk.2.1;clear hk;show gG _ _ (gq _ _ _ _ _ (mg r (D 0) (D 7) (D 8))) (λV t=>VW _ _ _/\fU _ _ _ _ (mg r (D 0) (D 7) (D 8)) (mg r (D 0) (D 7) (D 8)) t _);rw[e0,e8];generalize D 7=b7 at *;cases b7;all_goals exact AX
  ·have e0:D 0=true:=hk.2.2.2.2.2.2.2.2.2.1;have e8:D 8=false:=hk.2.1;clear hk;show gG _ _ (gq _ _ _ _ _ (mg r (D 0) (D 7) (D 8))) (λV t=>VW _ _ _/\fU _ _ _ _ (mg r (D 0) (D 7) (D 8)) (mg r (D 0) (D 7) (D 8)) t _);rw[e0,e8];generalize D 7=b7 at *;cases b7;all_goals exact AX
  ·have e0:D 0=true:=hk.2.2.2.2.2.2.2.2.2.1;have e8:D 8=false:=hk.2.1;clear hk;show gG _ _ (gq _ _ _ _ _ (mg r (D 0) (D 7) (D 8))) (λV t=>VW _ _ _/\fU _ _ _ _ (mg r (D 0) (D 7) (D 8)) (mg r (D 0) (D 7) (D 8)) t _);rw[e0,e8];generalize D 7=b7 at *;cases b7;all_goals exact AX
  ·have e0:D 0=true:=hk.2.2.2.2.2.2.2.2.2.1;clear hk;show gG _ _ (gq _ _ _ _ _ (mg r (D 0) (D 7) (D 8))) (λV t=>VW _ _ _/\fU _ _ _ _ (mg r (D 0) (D 7) (D 8)) (mg r (D 0) (D 7) (D 8)) t _);rw[e0];generalize D 7=b7,D 8=b8 at *;cases b7 <;> cases b8;all_goals exact AX
  ·have e7:D 7=false:=hk.2.2.1;have e8:D 8=false:=hk.2.1;clear hk;show gG _ _ (gq _ _ _ _ _ (mg r (D 0) (D 7) (D 8))) (λV t=>VW _ _ _/\fU _ _ _ _ (mg r (D 0) (D 7) (D 8)) (mg r (D 0) true (D 8)) t _);rw[e7,e8];generalize D 0=b0 at *;cases b0;all_goals exact AX
  ·have e0:D 0=true:=hk.2.2.2.2.2.2.2.2.2.1;have e7:D 7=true:=hk.2.2.1;have e8:D 8=false:=hk.2.1;clear hk;show gG _ _ (gq _ _ _ _ _ (mg r (D 0) (D 7) (D 8))) (λV t=>VW _ _ _/\fU _ _ _ _ (mg r (D 0) (D 7) (D 8)) (mg r (D 0) (D 7) true) t _);rw[e0,e7,e8];all_goals exact AX
  ·have e0:D 0=true:=hk.2.2.2.2.2.2.2.2.2.1;have e7:D 7=true:=hk.2.2.1;have e8:D 8=true:=hk.2.1;clear hk;show gG _ _ (gq _ _ _ _ _ (mg r (D 0) (D 7) (D 8))) (λV t=>VW _ _ _/\fU _ _ _ _ (mg r (D 0) (D 7) (D 8)) (mg r (D 0) (D 7) (D 8)) t _);rw[e0,e7,e8];all_goals exact AX
 ·exact hq
theorem arp{r:aT}(h:iR r=true){b:Bool}(hb:(bif (bif (bif (bif (bif !true then true else decide (r.a<(kd r.kind).least)) then true else decide ((kd r.kind).dK<r.a)) then true else decide (r.b<0)) then true else decide ((kd r.kind).RI<r.b)) then true else decide (((kd r.kind).RH:Int)<(r.x.length:Int)))=b):b=false:=by
 obtain⟨h1,h2,h3,h4,h5,h6,h7⟩:=yH h;rw[<-hb,aX qO,aX qO,aX qO,aX qO,aX qO];rfl
def TM(r:aT):List UInt8:=[jE r.kind.toNat]++dV r.a.toNat
def Ee(r:aT):List UInt8:=TM r++(if (kd r.kind).second=true then dV r.b.toNat else [])
theorem aeL(r:aT):mQ r=Ee r++r.x:=rfl
theorem amk{r:aT}(h:iR r=true):(Ee r).length<=300:=by
 have:=Z7 h;rw[aeL,bW]at this;omega
theorem byk{r:aT}(h:iR r=true):V.d (.v (.int .u8 r.kind))=V.d (fO ([jE r.kind.toNat].getD 0 0)):=by
 have h9:=yH h;show V.d (.v (.int .u8 r.kind))=V.d (.v (.int .u8 ((jE r.kind.toNat).toNat:Nat)));rw[xA,show((r.kind.toNat % 256:Nat):Int)=r.kind by omega]
theorem GI(r:aT)(h0:iR r=true):aQ 137 [yc r] (bQ [.d (dB (mQ r)),iV 0]):=by
 refine asz Tryz.func137 λX=>?_
 (repeat' (first|refine aml r ⟨(yH h0).1,(yH h0).2.1⟩ ?_|refine T.cut (x:=.region 5 _ _) ⟨72,[(1,.ptr 0 0),(4,.ptr 2 0),(6,.row 3 (TM r).length)],⟨[(0,.blk 4 (λk=>.d (oH r k))),(2,.blk 6 (OB r.kind)),(3,iy (TM r))],4⟩⟩ ?_ ?_|refine T.cut (x:=.seq (.region 6 _ _) _) ⟨72,[(1,.ptr 0 0),(4,.ptr 2 0),(6,.row 3 (Ee r).length)],⟨[(0,.blk 4 (λk=>.d (oH r k))),(2,.blk 6 (OB r.kind)),(3,iy (Ee r))],4⟩⟩ ?_ ?_|refine ai.mk (λh=>au (arp h0 h) (by decide)) (λh=>?_)|refine oz ?_|refine ae.tell (LZ r.a.toNat (by have:=zT h0;omega)) ⟨vq (gz (V.int .u64) (by have:=zT h0;omega)) tv,tv⟩ ?_|refine ae.tell (LZ r.b.toNat (by have:=zT h0;omega)) ⟨vq (gz (V.int .u64) (by have:=zT h0;omega)) tv,tv⟩ ?_|refine ai.mk (λh=>?_) (λh=>?_)|refine ag.a ?_|refine atc (C:=λb _=>fO b) (z:=0) (L:=mQ r) rfl ?_ ?_ (λj hj k hk=>?_) qV|refine ag.mk ?_ ?_))<;>(try(refine aV.mk rfl qN qN ?_ ?_ <;> repeat' (first|exact tv|exact qV|exact qW|refine vq (gz (V.row _) ?_) qN|refine asJ ?_|refine an ⟨nb rfl,af.blk ?_⟩ ?_|refine an ⟨nb rfl,af.row ?_ (λj hj k hk=>asB ?_)⟩ ?_|refine an ?_ ?_)))
 all_goals first|exact rfl|(unfold Ee;rw[if_pos aj,bW];done)|(unfold Ee;rw[if_neg (by rw[show(kd r.kind).second=false from by assumption];decide),pG];done)|(have h8:=zT h0;have h9:=yH h0;simp only[dQ];omega)|(have q2:=uY r.a.toNat;have q3:=uY r.b.toNat;have h8:=zT h0;have h9:=amk h0;first|omega|(simp[TM,Ee,aeL];omega))|(have hk:k<1:=hk;obtain rfl:k=0:=Nat.lt_one_iff.1 hk;refine cm (oq (C:=λb _=>fO b) (z:=0) (a:=[jE r.kind.toNat]) (b:=dV r.a.toNat) rfl hj (λj hj=>?_) fv);obtain rfl:j=0:=Nat.lt_one_iff.1 hj;exact byk h0)|(have hk:k<1:=hk;obtain rfl:k=0:=Nat.lt_one_iff.1 hk;refine cm (vq ?_ trivial);unfold Ee;rw[if_pos aj];exact A7 (C:=λb _=>fO b) (z:=0) rfl (by simpa using hj) fr fr)|(have hk:k<1:=hk;obtain rfl:k=0:=Nat.lt_one_iff.1 hk;refine cm (vq ?_ trivial);unfold Ee;rw[if_neg (by rw[show(kd r.kind).second=false from by assumption];decide),pG];done)|(have hk:k<1:=hk;obtain rfl:k=0:=Nat.lt_one_iff.1 hk;exact A7 (C:=λb _=>fO b) (z:=0) rfl (by simpa using hj) fr fr)
structure dJ where
 b:List UInt8
 uZ:Int
 down:Bool
 mD:Bool
 keep:Int
 bU:List UInt8
def uI(d:dJ):Nat->V
 |0=>.vw 1 (d.b++d.bU).length 0 d.b.length|1=>iV d.uZ|2=>.b d.down|3=>.b d.mD|_=>iV d.keep
def DS(d:dJ):ST:=⟨[(0,.blk 5 (uI d)),(1,iy (d.b++d.bU))],2⟩
def dJ.append(d:dJ)(x:List UInt8):dJ:={ d with b:=d.b++x,bU:=d.bU.drop x.length }
def dJ.nG(d:dJ)(keep:Int):dJ:=
 let n:=(d.uZ+min (max keep 0) ((d.b.length:Int)-d.uZ)).toNat
 ⟨d.b.take n,n,true,false,0,d.b.drop n++d.bU⟩
def dJ.cut(d:dJ)(n:Nat):dJ:={ d with b:=d.b.take n,uZ:=n,bU:=d.b.drop n++d.bU }
structure dJ.ok (d:dJ):Prop where
 s0:0<=d.uZ
 s1:d.uZ<=d.b.length
 len:d.b.length<=65536
 bU:d.bU.length<=100000
theorem atD(d:dJ)(n:Int):(d.nG n).b++(d.nG n).bU=d.b++d.bU:=by simp[dJ.nG,<-kE]
theorem atF(d:dJ)(n:Nat):(d.cut n).b++(d.cut n).bU=d.b++d.bU:=by simp[dJ.cut,<-kE]
theorem auB(d:dJ)(hd:d.ok)(n:Int):((d.nG n).b.length:Int)=d.uZ+min (max n 0) ((d.b.length:Int)-d.uZ):=by
 have:=hd.s0;have:=hd.s1;simp only[dJ.nG,dP];omega
theorem ahb{b x bU:List UInt8}{j k:Nat}:qg b.length x.length (λj _=>.d (fO ((b++bU).getD j 0))) (λj _=>.d (fO (x.getD j 0))) j k = .d (fO (((b++x)++bU.drop x.length).getD j 0)):=by
 rw[vN];simp only[bC];split
 ·rename_i h
  rw[mO h,mO (by rw[bW];omega),mO h]
 ·rename_i h
  split
  ·rename_i h2
   rw[mO (by rw[bW];omega),oW qO]
  ·rename_i h2
   rw[oW qO,oW (by rw[bW];omega),sD,bW];congr 4;omega
theorem yM(d:dJ):ae 53 [.ptr 0 0] (DS d) (λrv rt=>rv=(.b d.down)/\rt=(DS d)):=by
 refine asz Tryz.func53 λX=>?_
 (repeat' (first|refine oz ?_|refine ag.a ?_|refine asC qN qN (vq (gz V.b ?_) tv) ⟨⟨nb rfl,af.blk ⟨⟨⟨⟨⟨tv,?_⟩,?_⟩,?_⟩,?_⟩,?_⟩⟩,⟨nb rfl,af.row ?_ (λj hj k hk=>asB ?_)⟩,tv⟩))<;>try exact aB
 all_goals first|exact qW|exact qV
theorem aoZ(d:dJ)(n:Int):ae 68 [.ptr 0 0,iV n] (DS d) (λrv rt=>rv = .top/\rt=(DS { d with mD:=true,keep:=n })):=by
 refine asz Tryz.func68 λX=>?_
 (repeat' (first|refine oz ?_|refine ag.a ?_|refine asC qN qN VW.top ⟨⟨nb rfl,af.blk ⟨⟨⟨⟨⟨tv,?_⟩,?_⟩,?_⟩,?_⟩,?_⟩⟩,⟨nb rfl,af.row ?_ (λj hj k hk=>asB ?_)⟩,tv⟩))<;>try exact aB
 all_goals first|exact qW|exact qV
theorem aq2(d:dJ)(h:d.down=true):ae 64 [.ptr 0 0] (DS d) (λrv rt=>rv=(iV 0)/\rt=(DS { d with down:=false,mD:=false,keep:=0 })):=by
 refine asz Tryz.func64 λX=>?_
 (repeat' (first|refine oz ?_|refine ai.mk (λh2=>au h2 (by rw[h];decide)) (λh=>?_)|refine ag.a ?_|refine asC qN qN (vq (gz iV ?_) tv) ⟨⟨nb rfl,af.blk ⟨⟨⟨⟨⟨tv,?_⟩,?_⟩,?_⟩,?_⟩,?_⟩⟩,⟨nb rfl,af.row ?_ (λj hj k hk=>asB ?_)⟩,tv⟩))<;>try exact aB
 all_goals first|exact qW|exact qV
theorem adG(d:dJ)(hd:d.ok):ae 62 [.ptr 0 0] (DS d) (λrv rt=>rv=(.d (dB d.b))/\rt=(DS d)):=by
 have d1:=hd.s0;have d2:=hd.s1;have d3:=hd.len;have d4:=hd.bU;refine asz Tryz.func62 λX=>?_
 (repeat' (first|refine oz ?_|refine ag.a ?_|refine atX (C:=λb _=>fO b) (z:=0) d.b qN rfl ?_ ?_ ?_ qN qN ⟨⟨nb rfl,af.blk ⟨⟨⟨⟨⟨tv,?_⟩,?_⟩,?_⟩,?_⟩,?_⟩⟩,⟨nb rfl,af.row ?_ (λj hj k hk=>asB ?_)⟩,tv⟩|refine ag.mk ?_ ?_))<;>try exact aB
 all_goals first|exact qW|exact qV|(exact⟨rfl,by simp⟩)|(intro j hj k hk;obtain rfl:k=0:=(by omega);rw[vN,if_neg (by omega),if_pos (by show j<0+min d.b.length ((d.b.length:Int)).toNat;omega)];exact gz (λx=>V.d (fO x)) (ajP (by omega)))
theorem QH(d:dJ)(n:Int)(hd:d.ok)(hn : -9223372036854775808<=n):ae 67 [.ptr 0 0,iV n] (DS d) (λrv rt=>rv = .top/\rt=(DS (d.nG n))):=by
 have d1:=hd.s0;have d2:=hd.s1;have d3:=hd.len;have d4:=hd.bU;refine asz Tryz.func67 λX=>?_
 (repeat' (first|refine oz ?_|refine asD 0 [] [o0,o0,o0,o0,o0,o0,o0,o0,o0,o0,o0,o0,o0,o0] ?_|refine asD 1 [14] [o0,o0,o0,o0,o0,o0,o0,o0,o0,o0,o0,o0,o0,o0,o1] ?_|refine mc ?_ ?_|refine ag.a ?_|refine asC qN qN VW.top ⟨⟨nb rfl,af.blk ⟨⟨⟨⟨⟨tv,?_⟩,?_⟩,?_⟩,?_⟩,?_⟩⟩,⟨nb rfl,af.row ?_ (λj hj k hk=>asB ?_)⟩,tv⟩))<;>(try(refine dh.mk ?_;repeat' (first|exact tv|exact rfl|refine an ?_ ?_|refine ag.mk ?_ ?_)))
 all_goals try exact aB
 all_goals first|exact qV|((try simp only[bW,dQ,true_and]);omega)|(refine vq (Dw ?_ ?_) qN <;> first|(simp only[atD,atF,jD];done)|(have:=auB d hd n;omega))|(rw[atD];done)|(refine cm (vq ?_ trivial);(rw[atD];done))
theorem aqF(d:dJ)(n:Nat)(hd:d.ok)(hn:n<=d.b.length)(h:d.down=false):ae 65 [.ptr 0 0,iV n] (DS d) (λrv rt=>rv=(iV 0)/\rt=(DS (d.cut n))):=by
 have d1:=hd.s0;have d2:=hd.s1;have d3:=hd.len;have d4:=hd.bU;refine asz Tryz.func65 λX=>?_
 (repeat' (first|refine oz ?_|refine ai.mk (λh2=>au h2 (by rw[h];decide)) (λh=>?_)|refine ai.mk (λh=>?_) (λh=>?_)|refine ag.a ?_|refine asC qN qN (vq (gz iV ?_) tv) ⟨⟨nb rfl,af.blk ⟨⟨⟨⟨⟨tv,?_⟩,?_⟩,?_⟩,?_⟩,?_⟩⟩,⟨nb rfl,af.row ?_ (λj hj k hk=>asB ?_)⟩,tv⟩|refine ag.mk ?_ ?_))<;>try exact aB
 all_goals first|exact qV|((try simp only[bW,dQ,true_and]);omega)|(exfalso;have h9:=XF h;simp only[Bool.or_eq_true,fC]at h9;omega)|(refine vq (Dw ?_ ?_) qN <;> first|(simp only[atD,atF,jD];done)|(simp only[dJ.cut,dP];omega))|(rw[atF];done)|(refine cm (vq ?_ trivial);(rw[atF];done))
theorem ait(d:dJ)(x:List UInt8)(hd:d.ok)(hx:x.length<=100000)(h:d.down=false)(hf:65536<d.b.length+x.length):ae 140 [.ptr 0 0,.d (dB x)] (DS d) (λrv rt=>rv=(iV 20)/\rt=(DS d)):=by
 have d1:=hd.s0;have d2:=hd.s1;have d3:=hd.len;have d4:=hd.bU;refine asz Tryz.func140 λX=>?_
 (repeat' (first|refine oz ?_|refine ai.mk (λh2=>au h2 (by rw[h];decide)) (λh=>?_)|refine asL (λh=>?_)|refine ag.a ?_|refine asC qN qN (vq (gz iV ?_) tv) ⟨⟨nb rfl,af.blk ⟨⟨⟨⟨⟨tv,?_⟩,?_⟩,?_⟩,?_⟩,?_⟩⟩,⟨nb rfl,af.row ?_ (λj hj k hk=>asB ?_)⟩,tv⟩|refine ag.mk ?_ ?_))<;>try exact aB
 all_goals first|exact qW|exact qV
theorem acv(d:dJ)(x:List UInt8)(hd:d.ok)(hx:x.length<=100000)(h:d.down=false)(hf:d.b.length+x.length<=65536):ae 140 [.ptr 0 0,.d (dB x)] (DS d) (λrv rt=>rv=(iV 0)/\rt=(DS (d.append x))):=by
 have d1:=hd.s0;have d2:=hd.s1;have d3:=hd.len;have d4:=hd.bU;refine asz Tryz.func140 λX=>?_
 (repeat' (first|refine oz ?_|refine ai.mk (λh2=>au h2 (by rw[h];decide)) (λh=>?_)|refine ai.n (λh=>?_)|refine ag.a ?_|refine asC qN qN (vq (gz iV ?_) tv) ⟨⟨nb rfl,af.blk ⟨⟨⟨⟨⟨tv,?_⟩,?_⟩,?_⟩,?_⟩,?_⟩⟩,⟨nb rfl,af.row ?_ (λj hj k hk=>asB ?_)⟩,tv⟩|refine ag.mk ?_ ?_))<;>try exact aB
 all_goals first|exact qV|((try simp only[bW,dQ,true_and]);omega)|(refine vq (Dw ?_ ?_) qN <;> first|(simp only[dJ.append,bW,fE];done)|(simp only[dJ.append,bW,fE];(show max _ _=_;omega)))|(refine cm (vq ?_ trivial);(simp only[dJ.append];exact ahb))|(simp only[dJ.append,bW,fE];show max _ _=_;omega)
def dJ.sync(d:dJ):dJ:=bif d.mD then d.nG d.keep else { d with uZ:=d.b.length }
def dJ.Ry(d:dJ):Int:=bif d.mD then 30 else 0
theorem alq(d:dJ)(hd:d.ok)(h:d.down=false)(h1:d.mD=true)(hk : -9223372036854775808<=d.keep):ae 141 [.ptr 0 0] (DS d) (λrv rt=>rv=(iV 30)/\rt=(DS (d.nG d.keep))):=by
 have d1:=hd.s0;have d2:=hd.s1;have d3:=hd.len;have d4:=hd.bU;refine asz Tryz.func141 λX=>?_
 (repeat' (first|refine oz ?_|refine ai.mk (λh2=>au h2 (by rw[h];decide)) (λh=>?_)|refine ai.mk (λh=>?_) (λh2=>au h2 (by rw[h1];decide))|refine asO [0,1] (QH d d.keep hd hk) rfl rfl rfl vw ⟨⟨_,rfl,af.blk vw⟩,⟨_,rfl,af.row rfl fv⟩,tv⟩ ?_|refine ag.a ?_|refine asC qN qN (vq (gz iV ?_) tv) ⟨⟨nb rfl,af.blk ⟨⟨⟨⟨⟨tv,?_⟩,?_⟩,?_⟩,?_⟩,?_⟩⟩,⟨nb rfl,af.row ?_ (λj hj k hk=>asB ?_)⟩,tv⟩))<;>try exact aB
 all_goals first|exact qW|exact qV
theorem alr(d:dJ)(hd:d.ok)(h:d.down=false)(h1:d.mD=false):ae 141 [.ptr 0 0] (DS d) (λrv rt=>rv=(iV 0)/\rt=(DS { d with uZ:=d.b.length })):=by
 have d1:=hd.s0;have d2:=hd.s1;have d3:=hd.len;have d4:=hd.bU;refine asz Tryz.func141 λX=>?_
 (repeat' (first|refine oz ?_|refine ai.mk (λh2=>au h2 (by rw[h];decide)) (λh=>?_)|refine ai.mk (λh2=>au h2 (by rw[h1];decide)) (λh=>?_)|refine ag.a ?_|refine asC qN qN (vq (gz iV ?_) tv) ⟨⟨nb rfl,af.blk ⟨⟨⟨⟨⟨tv,?_⟩,?_⟩,?_⟩,?_⟩,?_⟩⟩,⟨nb rfl,af.row ?_ (λj hj k hk=>asB ?_)⟩,tv⟩))<;>try exact aB
 all_goals first|exact qW|exact qV
theorem adR(d:dJ)(hd:d.ok)(h:d.down=false)(hk : -9223372036854775808<=d.keep):ae 141 [.ptr 0 0] (DS d) (λv t=>v=iV d.Ry/\t=DS d.sync):=by
 unfold dJ.sync dJ.Ry;cases h1:d.mD
 ·have:=alr d hd h h1;rw[h1]at this;exact this
 ·exact alq d hd h h1 hk
def FI(p n:Nat)(g:Nat->Nat->D)(j k:Nat):D:=bif Nat.blt j p then g j k else bif Nat.blt j (n-1) then g (j+1) k else .v (.int .i64 0)
theorem ao0{n p E:Nat}{g:Nat->Nat->D}{j k:Nat}(hp:p<n)(hj:j<n)(hz:iE E k = .d (.v (.int .i64 0))):qg (0+(p+(n-(p+1)))) (n-(p+(n-(p+1)))) (qg p (n-(p+1)) (λj k=>V.d (g j k)) (λj k=>V.d (g (p+1+j) k))) (λ_ k=>iE E k) j k = .d (FI p n g j k):=by
 have e:∀ a b:Nat,Nat.blt a b=decide (a<b):=λa b=>by
  rw[Bool.eq_iff_iff,Nat.blt_eq,fC]
 rw[vN,vN];unfold FI;rw[e,e];by_cases h1:j<p
 ·rw[if_pos qO,if_pos h1,bg h1];rfl
 ·by_cases h2:j<n-1
  ·rw[if_pos qO,if_neg h1,if_pos qO,aX h1,bg h2,show p+1+(j-p)=j+1 from qO];rfl
  ·rw[if_neg qO,if_pos qO,aX h1,aX h2];exact hz
theorem aie{α:Type}(c:α->Nat->D)(d:α)(l:List α){p:Nat}(hp:p<l.length){j k:Nat}(hj:j<l.length-1):FI p l.length (λj k=>c (l.getD j d) k) j k=c ((l.eraseIdx p).getD j d) k:=by
 have e:∀ a b:Nat,Nat.blt a b=decide (a<b):=λa b=>by
  rw[Bool.eq_iff_iff,Nat.blt_eq,fC]
 unfold FI;rw[e,e,bg hj,bC (l:=l.eraseIdx p),List.getElem?_eraseIdx];by_cases h1:j<p
 ·rw[if_pos h1,bg h1];exact gz (c · k) (bC ..)
 ·rw[if_neg h1,aX h1];exact gz (c · k) (bC ..)
theorem ael{n p:Nat}{g:Nat->Nat->D}(hp:p<n)(hn:n<=100000):ae 304 [.row 0 n,iV p,iV ((p:Int)+1)] ⟨[(0,.row 97 2 n (λj k=>.d (g j k)))],1⟩ (λrv rt=>rv=(.vw 0 n 0 (n-1))/\rt=⟨[(0,.row 97 2 n (λj k=>.d (FI p n g j k)))],1⟩):=by
 have hx:Nat.max n (p+(n-(p+1)))=n:=Nat.max_eq_left qO;refine asz Tryz.func304 λX=>?_
 (repeat' (first|refine oz ?_|refine asD 5 [6] [o0,o0,o0,o0,o0,o0,o1,o3] ?_|refine mc ?_ ?_|refine ai.n (λh=>?_)|refine asC qN qN (vq (Dw ?_ ?_) qN) ⟨⟨nb rfl,af.row ?_ (λj hj k hk=>asB ?_)⟩,tv⟩|refine ag.mk ?_ ?_))<;>(try(refine dh.mk ?_;repeat' (first|exact tv|exact rfl|refine an ?_ ?_|refine ag.mk ?_ ?_)))
 all_goals try exact aB
 all_goals first|exact hx|(show Nat.max n (p+(n-(p+1)))=Nat.max n (p+(n-(p+1)))/\0<=((p+(n-(p+1)):Nat):Int)/\((p+(n-(p+1)):Nat):Int)<=(n:Int)/\((0:Nat):Int)+(n:Int)<=((Nat.max n (p+(n-(p+1))):Nat):Int);rw[hx];omega)|(show Nat.max n (p+(n-(p+1)))=Nat.max n (p+(n-(p+1)))/\0+(p+(n-(p+1)))+(n-(p+(n-(p+1))))<=Nat.max n (p+(n-(p+1)));rw[hx];omega)|(have hj:j<Nat.max n (p+(n-(p+1))):=hj;rw[hx]at hj;refine cm (vq (ao0 hp hj ?_) tv);rcases k with _|_|k;rfl;rfl;omega)
end Go.Proofs.YtnibdnahojjcgaaGreat
