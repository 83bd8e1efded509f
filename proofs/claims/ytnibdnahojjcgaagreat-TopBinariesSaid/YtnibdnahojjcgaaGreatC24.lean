/- Lemmas. -/
import Derived.Test.YtnibdnahojjcgaaGreatC18
import Derived.Test.YtnibdnahojjcgaaGreatC19
namespace Go.Proofs.YtnibdnahojjcgaaGreat
set_option linter.all false
set_option maxRecDepth 100000
set_option maxHeartbeats 0
open Go.RowKit Tryz
section
namespace K3
abbrev DL:Int:=3
abbrev lM:Nat:=3
abbrev uU:Nat:=48
end K3
namespace K4
abbrev DL:Int:=4
abbrev lM:Nat:=4
abbrev uU:Nat:=56
end K4
namespace K5
abbrev DL:Int:=5
abbrev lM:Nat:=5
abbrev uU:Nat:=64
end K5
end
section
section
variable {t0:ST} {X:Cx t0} {Q:Exit->AS->Prop} {s:AS}
def alD{ops:Array Oper}:∀(l:List Nat) (a:Act) (w:World),wpOps prog ops (QN X (Q .normal)) l a w->wpOps prog ops (λe a' w'=>∃ s',Q e s'/\Mod X s' a' w') l a w:=by
 intro l;induction l with
 |nil=>intro a w h;obtain⟨_,s',h1,h2⟩:=h;exact⟨s',h1,h2⟩
 |cons i l ih=>
  intro a w h;unfold wpOps at h ⊢;split at h
  ·exact ih a w h
  ·split at h
   ·rename_i hw
    rw[if_pos hw];obtain h|⟨_,a0,w0,h⟩:=h
    ·exact .inl (y8 h (λa w h=>ih a w h) (λe a w h=>by
      obtain⟨rfl,s',h1,h2⟩:=h;exact⟨s',h1,h2⟩))
    ·exact ai h.1 (by intro e;cases e)
   ·rename_i hw
    rw[if_neg hw];exact ih _ w h
def av1{id:Nat}{ops:Array Oper}{o:Oper}{rest:List Oper}(V:V)(hops:ops.toList=o::rest)(hgd:o.guard=none)(iY:s.fits o.dst=true)
  (hres:∀ G a w,bZ G s.s w->oZ G s a w->fG o a G s.s w (λv t=>v=V/\t=s.s)) (h:Lh s o.dst V s.s λs'=>uy af ops.toList rest s' (Q .normal)):T X (.region id ops false) Q s:=T.mk λa w hm=>by
 refine wp_region ?_;refine alD _ a w ?_;have hsz:ops.size=rest.length+1:=by rw[<-rO,hops];rfl
 rw[List.range_eq_range',hsz,List.range'_succ];unfold wpOps;have ho:ops[0]?=some o:=by rw[<-qP,hops];rfl
 rw[ho];obtain⟨G,hg,hs,hx⟩:=hm;have hw:Region.wanted o (yielded ops a.tmps)=true:=by unfold Region.wanted;rw[hgd]
 simp only;rw[if_pos hw];refine .inl ?_;rw[afs]at h;have hr2:=hres G a w hg hs.tooZ;refine y8 (hr2.step hx hs hg iY) (λa' w' hh=>?_) (λ_ _ _ h=>h.elim);obtain⟨x,t',⟨rfl,rfl⟩,hm'⟩:=hh;exact BJ ops rest 1 (by rw[hops];rfl) _ a' w' _ h hm'
def ajs{G:Gh}{w:World}{a:Act}{o:Oper}{ty:Nat}(hg:bZ G s.s w)(ho:o.op = .build ty #[])(hk:(tI ty).k=2)(hk2:(tI (tI ty).elem).ok=true):fG o a G s.s w (λv t=>v=V.agg (tI ty).size (iM ty)/\t=s.s):=by
 have hok:(tI ty).ok=true:=by unfold uC.ok;rw[hk];rfl
 obtain⟨i,z,hi,hz⟩:=HY (G:=G) (t:=s.s) (w:=w) hok;have hu:=ahL hk;obtain⟨i2,z2,hi2⟩:=F5 hk2;have hb:prog.built ty ((#[]:Array (Nat×Operand)).map λ(i,x)=>(i,a.eval x)).toList=some z.cells:=by
  unfold Program.built;rw[hi.h,hu];simp[hi.zero,Instr.fill,hi2.h]
 have hrun:(execOp a.eval o).run prog w = .ok (.value (.agg z.cells)) w:=by
  unfold execOp;simp only[ho,Sem.run_bind,run_build w ty _ z.cells hb,Result.andThen_ok];rfl
 exact fG.val (V:=.agg _ _) hg hrun ⟨z.cells,rfl,hi.CO,hz⟩ ⟨rfl,rfl⟩
def aoy{id:Nat}{ops:Array Oper}{o:Oper}{rest:List Oper}(ty:Nat)(hops:ops.toList=o::rest)(ho:o.op = .build ty #[])(hk:(tI ty).k=2)(hk2:(tI (tI ty).elem).ok=true)(hgd:o.guard=none)(iY:s.fits o.dst=true)
  (h:Lh s o.dst (.agg (tI ty).size (iM ty)) s.s λs'=>uy af ops.toList rest s' (Q .normal)):T X (.region id ops false) Q s:=
 av1 _ hops hgd iY (λG a w hg hs=>ajs hg ho hk hk2) h
end
end
section
abbrev tY(σ:Nat->Nat)(v:V):V:=dI (λk=>some (σ k)) v
abbrev xe(σ:Nat->Nat)(o:aK):aK:=mW (λk=>some (σ k)) o
def iQ(σ:Nat->Nat):List (Nat×aK)->List (Nat×aK)
 |[]=>[]
 |p::r=>(σ p.1,xe σ p.2)::iQ σ r
structure Sg (n:Nat) (σ:Nat->Nat) (N:Nat):Prop where
 inj:∀ i j,i<n->j<n->σ i=σ j->i=j
 lt:∀ i,i<n->σ i<N
def Xj(φ:Nat->Option Nat)(σ:Nat->Nat)(v:V):dI φ (tY σ v)=dI (λk=>φ (σ k)) v:=by
 induction v with
 |agg n g ih=>exact ah (V.agg n) (funext ih)
 |gQ n g ih=>exact ah (V.gQ n) (funext ih)
 |fn f nf n g ih=>exact ah (V.fn f nf n) (funext ih)
 |kQ t w x ih=>exact ah (V.kQ t w) ih
 |_=>rfl
def Xk(φ:Nat->Option Nat)(σ:Nat->Nat)(o:aK):mW φ (xe σ o)=mW (λk=>φ (σ k)) o:=by
 cases o with
 |dead=>rfl
 |Wp n g=>exact ah (aK.Wp n) (funext λk=>Xj φ σ _)
 |row E s n g=>exact ah (aK.row E s n) (funext λj=>funext λk=>Xj φ σ _)
 |map es=>
  show aK.map ((es.map λp=>(p.1,tY σ p.2)).map λp=>(p.1,dI φ p.2))=_;rw[List.map_map];exact ah aK.map (List.map_congr_left λp _=>ah (Prod.mk p.1) (Xj φ σ _))
def adJ(σ τ:Nat->Nat):∀(l:List (Nat×aK)),iQ σ (iQ τ l)=iQ (λk=>σ (τ k)) l
 |[]=>rfl
 |p::r=>by
  show(σ (τ p.1),xe σ (xe τ p.2))::iQ σ (iQ τ r)=_;rw[adJ σ τ r];exact ah (λo=>(σ (τ p.1),o)::iQ (λk=>σ (τ k)) r) (Xk _ τ p.2)
def YG(σ:Nat->Nat):∀(a b:List (Nat×aK)),iQ σ (a++b)=iQ σ a++iQ σ b
 |[],_=>rfl
 |p::r,b=>ah (List.cons _) (YG σ r b)
def abU{N:Nat}{g h:Nat->V}:∀ {n:Nat},(∀ k,k<n->VW N (g k) (h k))->D8 N g h n
 |0,_=>True.intro
 |n+1,hk=>⟨abU λk h=>hk k (Nat.lt_succ_of_lt h),hk n (Nat.lt_succ_self n)⟩
def UA{σ τ:Nat->Nat}{n N:Nat}(h:∀ i,i<n->σ i<N)(e:∀ i,i<n->τ i=σ i){v:V}(hq:je (λi=>i<n) v):VW N (tY τ v) (tY σ v):=by
 induction v with
 |agg n g ih=>exact VW.agg λk hk=>ih k (hq k hk)
 |gQ n g ih=>exact VW.gQ λk hk=>ih k (hq k hk)
 |fn f nf m g ih=>exact gX (abU λk hk=>ih k (hq k hk))
 |kQ t w x ih=>
  have:=ih hq;exact⟨this.1,λG o w' u hu=>⟨λe2=>this.2 G o w' u (hu.1 e2),hu.2⟩⟩
 |ptr i o=>exact fA (ah (λj=>V.ptr j o) (e i hq)) (h i hq)
 |rp i a b c=>exact fA (ah (λj=>V.rp j a b c) (e i hq)) (h i hq)
 |row i a=>exact fA (ah (λj=>V.row j a) (e i hq)) (h i hq)
 |vw i a b c=>exact fA (ah (λj=>V.vw j a b c) (e i hq)) (h i hq)
 |mp i=>exact fA (ah (λj=>V.mp j) (e i hq)) (h i hq)
 |_=>exact VW.refl True.intro
def ar9{σ τ:Nat->Nat}{n N:Nat}(h:∀ i,i<n->σ i<N)(e:∀ i,i<n->τ i=σ i){o:aK}(hq:ni (λi=>i<n) o):aW N (xe τ o) (xe σ o):=by
 cases o with
 |dead=>exact True.intro
 |Wp n g=>exact⟨rfl,λk hk=>UA h e (hq k hk)⟩
 |row E s n g=>exact⟨rfl,rfl,rfl,λj hj k hk=>UA h e (hq j hj k hk)⟩
 |map es=>
  intro k;show match dY (es.map λp=>(p.1,tY τ p.2)) k,dY (es.map λp=>(p.1,tY σ p.2)) k with|some v,some v'=>VW N v v'|none,none=>True|_,_=>False
  rw[Jr,Jr];rcases hm:dY es k with _|v
  ·exact True.intro
  ·exact UA h e (hq k v hm)
section
variable {n N:Nat} {σ:Nat->Nat}
def SH(hs:Sg n σ N):∀ {l:List (Nat×aK)},(∀ p∈l,p.1<n)->∀ i,i<n->axA (iQ σ l) (σ i)=xe σ (axA l i)
 |[],_,_,_=>rfl
 |(k,v)::r,h,i,hi=>by
  show(bif Nat.beq (σ k) (σ i) then xe σ v else axA (iQ σ r) (σ i))=xe σ (bif Nat.beq k i then v else axA r i);rw[SH hs (λp hp=>h p (jA _ hp)) i hi];have hk:k<n:=h _ jL;rcases hb:Nat.beq k i with _|_
  ·have:Nat.beq (σ k) (σ i)=false:=by
    rcases hb2:Nat.beq (σ k) (σ i) with _|_
    ·rfl
    ·have:=hs.inj _ _ hk hi (dJ hb2);subst this;simp at hb
   rw[this];rfl
  ·have:=dJ hb;subst this;rw[show Nat.beq (σ k) (σ k)=true by simp];rfl
def V8:∀ {l:List (Nat×aK)} (x:Nat),axA (iQ σ l) x = .dead\/∃ p∈l,x=σ p.1
 |[],_=>.inl rfl
 |(k,v)::r,x=>by
  show(bif Nat.beq (σ k) x then xe σ v else axA (iQ σ r) x) = .dead\/_;rcases hb:Nat.beq (σ k) x with _|_
  ·obtain h|⟨p,hp,e⟩:=V8 (l:=r) x
   ·exact .inl h
   ·exact .inr ⟨p,jA _ hp,e⟩
  ·exact .inr ⟨_,jL,(dJ hb).symm⟩
def Xp:∀ {l:List Nat},l.Nodup->iJ l=true
 |[],_=>rfl
 |a::r,h=>by
  show((match bY r a with|some _=>false|none=>true)&&iJ r)=true;rw[Xp (List.nodup_cons.1 h).2];rcases e:bY r a with _|k
  ·rfl
  ·exact ai (YV e) (List.nodup_cons.1 h).1
def Sg.nodup(hs:Sg n σ N):iJ ((List.range n).map σ)=true:=by
 refine Xp (List.pairwise_map.2 (List.Pairwise.imp_of_mem (λ{a b} ha hb hne e=>hne ?_) List.nodup_range));exact hs.inj a b (List.mem_range.1 ha) (List.mem_range.1 hb) e
def JZ(i:Nat)(hi:i<n):((List.range n).map σ)[i]?=some (σ i):=by
 rw[qQ,List.getElem?_range hi];rfl
def af.auh{f:Nat}{args:List V}{st:ST}{Q K:V->ST->Prop}(h:af f args st Q)(hq:∀ v t,Q v t->∃ r t2,st.nx<=t2.nx/\t2.nx<=t.nx/\VW t2.nx v r/\yQ t2.nx t t2/\K r t2):af f args st K:=
 ⟨h.1,λG w us hg hl hv=>(h.2 G w us hg hl hv).mono λe w' ⟨v,V,t',G',e1,hQ,lN,hs,Jk⟩=>by
  obtain⟨r,t2,q0,q1,q2,q3,hk⟩:=hq _ _ hQ
  let X:Cx st:=⟨G,w,hg,[]⟩
  exact⟨v,r,t2,G'.drop t2.nx,e1,hk,Ia lN q3 q1 rfl,JG (X:=X) hs q3 q0,Ai q3 q2 Jk⟩⟩
def ext(n:Nat)(σ:Nat->Nat)(N i:Nat):Nat:=if i<n then σ i else N+(i-n)
def agP{i:Nat}(h:i<n):ext n σ N i=σ i:=if_pos h
def Sg.ext(hs:Sg n σ N){n1:Nat}(h:n<=n1):Sg n1 (ext n σ N) (N+(n1-n)):=by
 refine⟨λi j hi hj e=>?_,λi hi=>?_⟩
 ·unfold Go.Proofs.YtnibdnahojjcgaaGreat.ext at e;by_cases h1:i<n <;> by_cases h2:j<n
  ·rw[if_pos h1,if_pos h2]at e;exact hs.inj i j h1 h2 e
  ·rw[if_pos h1,if_neg h2]at e;have:=hs.lt i h1;omega
  ·rw[if_neg h1,if_pos h2]at e;have:=hs.lt j h2;omega
  ·rw[if_neg h1,if_neg h2]at e;omega
 ·unfold Go.Proofs.YtnibdnahojjcgaaGreat.ext;by_cases h1:i<n
  ·rw[if_pos h1];have:=hs.lt i h1;omega
  ·rw[if_neg h1];omega
def af.rn{f:Nat}{args args':List V}{l:List (Nat×aK)}{Q K:V->ST->Prop}(h:af f args' ⟨l,n⟩ Q)(hs:Sg n σ N)(hd:iJ (kV l)=true)(hl:nI n l)(ha:∀ φ:Nat->Option Nat,(∀ i,i<n->φ (σ i)=some i)->lI n φ args args')(hQ:∀ v t,Q v t->∃ yS,n<=t.nx/\(∀ i,i<t.nx->ext n σ N i=yS i)/\nI t.nx t.st/\je (λi=>i<t.nx) v/\K (tY yS v) ⟨iQ yS t.st,N+(t.nx-n)⟩):af f args ⟨iQ σ l,N⟩ K:=by
 have hsel:∀ i∈(List.range n).map σ,i<N:=λi hi=>by
  obtain⟨j,hj,rfl⟩:=List.mem_map.1 hi;exact hs.lt j (List.mem_range.1 hj)
 have hlen:((List.range n).map σ).length=n:=by rw[lZ,List.length_range]
 have hback:∀ k,lV ((List.range n).map σ) N k=ext n σ N k:=λk=>by
  unfold ext;by_cases hkn:k<n
  ·rw[if_pos hkn];exact Aj (JZ k hkn)
  ·rw[if_neg hkn,(D6 (nx:=N) (List.getElem?_eq_none_iff.2 (by rw[hlen];omega))).1,hlen]
 have hidx:∀ i,i<n->bY ((List.range n).map σ) (σ i)=some i:=λi hi=>nC hs.nodup (JZ i hi)
 have hkeys:∀ p∈l,p.1<n:=λp hp=>zk hl p hp
 have hob:∀ q:List (Nat×aK),(∀ p∈q,p∈l)->pV n (bY ((List.range n).map σ)) ⟨iQ σ l,N⟩ ((List.range n).map σ) q:=by
  intro q;induction q with
  |nil=>exact λ_=>True.intro
  |cons p r ih=>
   intro hq;obtain⟨i,o⟩:=p;refine⟨?_,ih λp hp=>hq p (jA _ hp)⟩;have hm:=hq _ jL;have hi:i<n:=hkeys _ hm;have hlook:axA l i=o:=Fq hd _ hm;refine⟨σ i,JZ i hi,?_⟩;have e:(⟨iQ σ l,N⟩:ST).get (σ i)=xe σ o:=by rw[<-hlook];exact SH hs hkeys i hi
   rw[e,Xk];obtain h0|⟨h0,h2⟩:=yw hl i
   ·have ho:o = .dead:=hlook.symm.trans h0;subst ho;exact True.intro
   ·rw[hlook]at h2;exact Jv (P:=λi=>i<n) (λk hk=>⟨hk,hidx k hk⟩) h2
 have hu:∀ i,N<=i->(⟨iQ σ l,N⟩:ST).get i = .dead:=λi hi=>by
  obtain h0|⟨p,hp,e⟩:=V8 (σ:=σ) (l:=l) i
  ·exact h0
  ·have:=hs.lt _ (hkeys p hp);omega
 have hfr:=af.frame (K:=λv t=>∃ v0 t0,Q v0 t0/\v=pR ((List.range n).map σ) N v0/\t=tq ⟨iQ σ l,N⟩ ((List.range n).map σ) t0) (st:=⟨iQ σ l,N⟩) h hs.nodup hsel hlen.symm (ha _ hidx) (hob l λp hp=>hp) λv t hq=>⟨v,t,hq,rfl,rfl⟩
 refine hfr.auh λv t ⟨v0,t0,hq,e1,e2⟩=>?_
 subst e1 e2;obtain⟨yS,hn,h1,hl1,hr,hK⟩:=hQ v0 t0 hq;have hs1:Sg t0.nx yS (N+(t0.nx-n)):=by
  have:=hs.ext hn;exact⟨λi j hi hj e=>this.inj i j hi hj (by rw[h1 i hi,h1 j hj];exact e),λi hi=>by rw[<-h1 i hi];exact this.lt i hi⟩
 have hb1:∀ i,i<t0.nx->lV ((List.range n).map σ) N i=yS i:=λi hi=>(hback i).trans (h1 i hi)
 have ht:∀ i,t0.nx<=i->t0.get i = .dead:=λi hi=>by
  obtain h0|⟨h0,_⟩:=yw hl1 i
  ·exact h0
  ·omega
 refine⟨tY yS v0,⟨iQ yS t0.st,N+(t0.nx-n)⟩,Nat.le_add_right _ _,by show N+(t0.nx-n)<=N+(t0.nx-((List.range n).map σ).length);rw[hlen];exact bF _,UA hs1.lt hb1 hr,λi=>?_,hK⟩;obtain h0|⟨p,hp,rfl⟩:=V8 (σ:=yS) (l:=t0.st) i
 ·exact .inl h0
 ·have hp1:p.1<t0.nx:=zk hl1 p hp;have e1:(⟨iQ yS t0.st,N+(t0.nx-n)⟩:ST).get (yS p.1)=xe yS (axA t0.st p.1):=SH hs1 (λq hq=>zk hl1 q hq) _ hp1;have e2:=WH (st:=⟨iQ σ l,N⟩) (t:=t0) hs.nodup hsel hu ht p.1;rw[show lV ((List.range n).map σ) (⟨iQ σ l,N⟩:ST).nx p.1=yS p.1 from hb1 _ hp1]at e2;rw[e1,e2];obtain h0|⟨h0,h2⟩:=yw hl1 p.1
  ·left;rw[h0];rfl
  ·exact .inr ⟨hs1.lt _ hp1,ar9 hs1.lt hb1 h2⟩
end
end
def Gs(n:aA)(k:Int):aA:={ n with aB:={ n.aB with oU:=true,axz:=k } }
def Eg(n:aA)(k:Int):aA:={ n with aB:=n.aB.lF k }
def aqw(n:aA)(k:Int):af 32 [.ptr 0 0,iV k] (NS n) (λrv rt=>rv = .top/\rt=(NS (Gs n k))):=by
 refine ay func32 λX=>?_
 (repeat'(first|refine aC ?_|refine fO [1,2] (atv n.aB k) ?_|refine ag.a ?_|refine bM qN qN VW.top (by repeat'(first|exact tv|refine fE qN ?_ ?_|refine an ⟨nb rfl,aW.row rfl fv⟩ ?_|exact qV|exact qW|refine an ?_ ?_))))<;>try exact cls
def amV(n:aA)(k:Int)(hd:n.aB.ok)(hk : -9223372036854775808<=k):af 34 [.ptr 0 0,iV k] (NS n) (λrv rt=>rv = .top/\rt=(NS (Eg n k))):=by
 refine ay func34 λX=>?_
 (repeat'(first|refine aC ?_|refine fO [1,2] (TP n.aB k hd hk) ?_|refine ag.a ?_|refine bM qN qN VW.top (by repeat'(first|exact tv|refine fE qN ?_ ?_|refine an ⟨nb rfl,aW.row rfl fv⟩ ?_|exact qV|exact qW|refine an ?_ ?_))))<;>try exact cls
def uP(n:aA)(k t:Int):Rep×Int:=bif n.aB.down then(.z,30) else bif (bif (bif decide (k<1) then true else decide (n.dn<k)) then true else !decide ((n.ae.log.getD (k-1).toNat .z).term=t)) then(.z,15) else(n.fV.getD (k-1).toNat .z,0)
def Fin.vk{t0:ST}{X:Cx t0}{v:V}{t:ST}{p q:Rep×Int}(e:q=p)(h:Fin X v t (λv t=>v=bI [lJ p.1,iV p.2]/\t=t0)):Fin X v t (λv t=>v=bI [lJ q.1,iV q.2]/\t=t0):=e▸h
def asF{a b c:Bool}(h:(bif (bif a then true else b) then true else c)=false):a=false/\b=false:=by cases a <;> cases b <;> simp_all
def asG{a b:Bool}(h:(bif a then true else b)=false):a=false/\b=false:=by cases a <;> simp_all
def amO(n:aA)(k t:Int)(h1:n.dn<=n.ae.log.length)(h2:n.dn<=n.fV.length)(h3:n.fV.length<=1000):af 51 [.ptr 0 0,iV k,iV t] (NS n) (λrv rt=>rv=(bI [lJ (uP n k t).1,iV (uP n k t).2])/\rt=(NS n)):=by
 refine ay func51 λX=>?_
 (repeat'(first|refine aC ?_|refine fO [1,2] (Iw n.aB) ?_|refine aj.mk (λh=>?_) (λh=>?_)|refine ag.a ?_|refine Fin.vk (p:=(.z,30)) ?_ (uh qN (fH [lJ .z,iV 30] rfl fr vw) ?_)|refine Fin.vk (p:=(.z,15)) ?_ (uh qN (fH [lJ .z,iV 15] rfl fr vw) ?_)|refine Fin.vk (p:=((n.fV.getD (k-1).toNat .z),0)) ?_ (uh qN (fH [lJ (n.fV.getD (k-1).toNat .z),iV 0] rfl fr vw) ?_)|refine ag.mk ?_ ?_))<;>try exact cls
 all_goals first|exact dH h|(rename_i h0;exact(bG h0).trans (dH h))|(rename_i h0;exact(bG h0).trans (bG h))|(have q:=asF h;have q1:=bV q.1;have q2:=bV q.2;first|omega|(simp only[dM,jg];omega)|(refine⟨rfl,?_,nb rfl⟩;omega))|(intro e;have q:=asG e;have q1:=bV q.1;have q2:=bV q.2;first|omega|(simp only[dM,jg];omega))|(repeat'(first|exact tv|refine fE qN ?_ ?_|refine an ⟨nb rfl,aW.row rfl fv⟩ ?_|exact qV|exact qW|refine an ?_ ?_))
def aku(l:List bu)(dO:Int)(hl:l.length<=10000)(hm:∀ i,i<l.length->(l.getD i .z).num<=dO):aQ 82 [.d (jv l),iV dO] (bI [.d (jv l),.d (jv [])]):=by
 refine ay func82 λX=>?_
 (repeat'(first|refine aC ?_|refine dU l.length (λi (a:Unit)=>⟨40,[(0,.d (jv l)),(1,iV dO),(6,.row 0 (l.take i).length),(7,.row 1 0),(8,iV i)],⟨[(0,bQ 163 4 kP .z (l.take i)),(1,bQ 163 4 kP .z [])],2⟩⟩) (λi a=>True) () ?_ True.intro (λi a hi hp=>?_)|refine aZ () ⟨?_,tv,?_⟩|refine aj.mk (λh=>?_) (λh=>ai (bV h) (by have:=hm i om;simp only[jg];omega))|refine aj.mk (λh=>?_) (λh=>?_)|refine ag.a ?_|(rw[show l.take i=l from jU (by have h9:=bV h;omega)];refine Fin.eG (i:=0) (h:=λj=>kP (l.getD j .z)) sF (Fin.eG (i:=1) (h:=λj=>kP (([]:List bu).getD j .z)) (iI.of (cZ _) rfl (λj hj=>ai hj nz)) (Fin.tell (fH [.d (jv l),.d (jv [])] rfl fr ⟨vq ((ah (jf 1 _ _ _) jB).trans rfl) tv,vq jB trivial,tv⟩))))|refine ag.mk ?_ ?_))<;>try exact cls
 all_goals(try(refine leq ?_ ?_ <;> repeat'(first|exact tv|exact qV|exact qW|refine vq (ah (V.row _) ?_) qN|refine gU qN ?_ (λj hj k hk=>?_) ?_|refine an ?_ ?_)))
 all_goals first|exact rfl|(exact cm qV)|exact ai hj nz|(have h9:i<l.length:=om;have q4:(l.take i).length=i:=(by rw[dG];omega);have q5:(l.take (i+1)).length=i+1:=(by rw[dG];omega);first|omega|(have hj:j<(l.take i).length+1:=hj;have hk:k<4:=hk;rw[kR bu.z h9];refine cm (kU rfl hj fr (λj hj=>?_));obtain rfl:j=0:=Nat.lt_one_iff.1 hj;obtain _|_|_|_|k:=k;exact qV;exact qV;exact qV;exact qV;omega))
