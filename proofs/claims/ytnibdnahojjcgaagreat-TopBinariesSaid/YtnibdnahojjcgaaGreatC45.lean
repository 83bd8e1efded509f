/- Lemmas. -/
import Derived.Test.YtnibdnahojjcgaaGreatC40
import Derived.Test.YtnibdnahojjcgaaGreatC44
namespace Go.Proofs.YtnibdnahojjcgaaGreat
set_option linter.all false
set_option maxRecDepth 100000
set_option maxHeartbeats 0
open Go.RowKit Tryz
section
attribute [local irreducible] af Io
def Ib{f:Nat}{args args':List V}{st:ST}{K:V->ST->Prop}(ha:PE st.nx args args')(h:af f args' st K):af f args st K:=by
 unfold af at h ⊢;refine⟨h.1,λG w us hg hl hv=>h.2 G w us hg (hl.trans (RP ha).1) λk v u e1 e2=>?_⟩;obtain⟨a,h1,h2⟩:=(RP ha).2 k v e1;exact h2.2 _ _ _ _ (hv k a u h1 e2)
section
variable {k N:Nat} {σ:Nat->Nat} {C:aH}
def aea:∀ {l:List (Nat×aK)},kV (iQ σ l)=(kV l).map σ
 |[]=>rfl
 |p::r=>ah (List.cons (σ p.1)) (aea (l:=r))
def adX:∀ {l:List Nat},iJ l=true->l.Nodup
 |[],_=>List.nodup_nil
 |a::r,h=>by
  obtain⟨h1,h2⟩:=kZ (show((match bY r a with|some _=>false|none=>true)&&iJ r)=true from h);refine List.nodup_cons.2 ⟨?_,adX h2⟩;rcases e:bY r a with _|j
  ·exact NC e
  ·rw[e]at h1;cases h1
def agx(hs:rM k σ N)(hk:3<=k/\k<=5):pX N (GS k C σ N) (GS k C σ N).st:=by
 have hc:nI N (iQ σ (CL k C)):=ZP hs.s.lt (Eh (bF _));have hd:iJ (kV (iQ σ (CL k C)))=true:=by
  rw[aea];refine Xp (List.pairwise_map.2 (List.Pairwise.imp_of_mem (λ{a b} ha hb hne e=>hne ?_) (adX (Nv hk))));have hlt:∀ a∈kV (CL k C),a<8*k+24:=λa ha=>by
   obtain⟨p,hp,rfl⟩:=List.mem_map.1 ha;exact zk (Eh (bF _)) p hp
  exact hs.s.inj a b (hlt a ha) (hlt b hb) e
 have key:∀ q:List (Nat×aK),(∀ p∈q,p∈iQ σ (CL k C))->pX N ⟨iQ σ (CL k C),N⟩ q:=by
  intro q;induction q with
  |nil=>exact λ_=>True.intro
  |cons p r ih=>
   intro hq;obtain⟨i,o⟩:=p;refine⟨?_,ih λp hp=>hq p (jA _ hp)⟩;have hm:=hq _ jL;have hl:axA (iQ σ (CL k C)) i=o:=Fq hd _ hm;show i<N/\aW N (axA (iQ σ (CL k C)) i) o;obtain h0|⟨h0,h1⟩:=yw hc i
   ·have ho:o = .dead:=hl.symm.trans h0;subst ho;exact⟨zk hc _ hm,by rw[hl];exact tv⟩
   ·rw[hl]at h1 ⊢;exact⟨h0,zf h1⟩
 exact key _ λ_ h=>h
def rM.z0(hs:rM k σ N):0<N:=by have:=hs.s.lt 0 qO;rw[hs.z]at this;exact this
def AB{n0 nt:Nat}{sl sl2:List (Nat×V)}(hs:rM k σ N)(hk:3<=k/\k<=5)(hn:n0<=N)(h:VE N ⟨nt,sl,GS k C σ N⟩ sl2):bf n0 ⟨nt,sl,GS k C σ N⟩ ⟨nt,sl2,GS k C σ N⟩:=⟨rfl,hn,bF _,h,agx hs hk⟩
def Z5{t0:ST}{X:Cx t0}{v v':V}{K:V->ST->Prop}(hs:rM k σ N)(hk:3<=k/\k<=5)(hn:t0.nx<=N)(hv:VW N v v')(h:K v' (GS k C σ N)):Fin X v (GS k C σ N) K:=Fin.done v' _ hn (bF _) (agx hs hk) hv h
def Po{N:Nat}{g:Nat->V}{kind a b:Int}(h0:g 0=iV kind)(h1:g 1=iV a)(h2:g 2=iV b)(h3:g 3=iV 0)(h4:g 4=iV 0)(h5:g 5=iV 0)(h6:g 6=iV 0)(h7:g 7=iV 0)(h8:g 8=iV 0)(h9:g 9 = .dC)(h10:g 10=iM 35 10):VW N (.agg 11 g) (oL (rH kind a b)):=VW.agg λk hk=>by
 obtain _|_|_|_|_|_|_|_|_|_|_|k:=k
 ·exact vq h0 trivial
 ·exact vq h1 trivial
 ·exact vq h2 trivial
 ·exact vq h3 trivial
 ·exact vq h4 trivial
 ·exact vq h5 trivial
 ·exact vq h6 trivial
 ·exact vq h7 trivial
 ·exact vq h8 trivial
 ·rw[h9];exact pg rfl
 ·exact vq h10 trivial
 ·omega
def ajD(hs:rM k σ N)(hk:3<=k/\k<=5):af 49 [.ptr 0 0] (GS k C σ N) (λv t=>v=iV C.au.row.length/\t=GS k C σ N):=XD hk hs (ajM k (three hk) C) (λ_ _=>True.intro) rfl tv
def Y0(hs:rM k σ N)(hk:3<=k/\k<=5):af 48 [.ptr 0 0] (GS k C σ N) (λv t=>v=iV k/\t=GS k C σ N):=XD hk hs (arJ k (three hk) C) (λ_ _=>True.intro) rfl tv
def OC{a n:Nat}(h:gB k a n C){i:Nat}(hi:i<k):af 14 [.ptr 0 0,iV i] (CS k C) (λv t=>v=Dl (iO (C.at i))/\t=CS k C):=by
 obtain⟨T,hT,v,fl,g⟩:=h;have hk:=g.jm;obtain⟨L,t,g2⟩:=g.nd i hi;refine arE k _ (TY hk) C (lY C 0 k) (OX hk) i hi qO (iO (C.at i)) ?_ (anX (Tag.of hk hi) C g2.g.fit g2.g.log.DT);have:=Yi k (three hk) C (i:Int);rw[show(bif decide (0<=(i:Int)) then decide ((i:Int)<(k:Int)) else false)=true by rw[aX qO,aX qO];rfl]at this;exact this
def YZ{a n:Nat}(hs:rM k σ N)(h:gB k a n C){i:Nat}(hi:i<k):af 14 [.ptr 0 0,iV i] (GS k C σ N) (λv t=>v=Dl (iO (C.at i))/\t=GS k C σ N):=
 XD h.jm hs (OC h hi) (λ_ _=>⟨qC,tv⟩) rfl (λ_ _=>True.intro)
def ND{a n:Nat}{e:cO}(hs:rM k σ N)(h:gB k a n C)(ha:a<=900)(hn:n<=1000000)(he:wG e):af 8 [.ptr 0 0,oL e] (GS k C σ N) (λv t=>v=iV (jI k C e).2/\Fg k (jI k C e).1 N t):=by
 obtain⟨T,hT,v,fl,g⟩:=h;exact ard hs g qO ha qO he qO
end
def Y5{x y:Prop}[Decidable x][Decidable y](h:cond (decide x) (decide y) false=true):x/\y:=by
 rcases e:decide x with _|_ <;> rw[e]at h
 ·cases h
 ·exact⟨bT e,bT h⟩
def ajH{k i:Nat}{C D:aH}(h:cond (decide ((i:Int)<4000)) (decide ((0:Int)<(C.au.row.length:Int))) false=true)(e:qF k (4000-i) C=qF k 4000 D):qF k (4000-(i+1)) (jI k C (rH 3 0 0)).1=qF k 4000 D:=by
 obtain⟨h1,h2⟩:=Y5 h;rw[<-e,show 4000-i=4000-(i+1)+1 by omega];show _=bif decide ((0:Int)<(C.au.row.length:Int)) then _ else C
 rw[aX h2];rfl
def ale{k i:Nat}{C D:aH}(h:cond (decide ((i:Int)<4000)) (decide ((0:Int)<(C.au.row.length:Int))) false=false)(e:qF k (4000-i) C=qF k 4000 D):C=qF k 4000 D:=by
 rw[<-e];rcases hm:4000-i with _|m
 ·rfl
 ·have h1:(i:Int)<4000:=qO;rw[aX h1]at h;show C=bif decide ((0:Int)<(C.au.row.length:Int)) then _ else C
  rw[show decide ((0:Int)<(C.au.row.length:Int))=false from h];rfl
def SL{k N:Nat}{σ:Nat->Nat}{C:aH}{a n:Nat}(hs:rM k σ N)(h:gB k a n C)(ha:a<=900)(hn:n+4001<=1000000):af 18 [.ptr 0 0] (GS k C σ N) (λv t=>v = .top/\Fg k (qF k 4000 C) N t):=by
  have hk:=h.jm;refine ay func18 λX=>?_
  (repeat'(first|((with_reducible refine fP ?_);first|refine OY (λi (p:aH×(Nat->Nat)×Nat)=>⟨17,[(0,.ptr 0 0),(3,iV i)],GS k p.1 p.2.1 p.2.2⟩) (λi p=>rM k p.2.1 p.2.2/\N<=p.2.2/\gB k a (n+i) p.1/\qF k (4000-i) p.1=qF k 4000 C) 4000 ⟨C,σ,N⟩ ?_ ?_ (λi p hi hp=>?_)|refine aC ?_)|((conv=>whnf);first|(with_reducible refine fP ?_)|refine acp ?_|refine aZ _ (fM (λht=>ajD hp.1 hk) ?_)|(refine Ib (args':=[.ptr 0 0,oL (rH 3 0 0)]) ⟨VW.refl hp.1.z0,Po rfl rfl rfl rfl rfl rfl rfl rfl rfl rfl rfl,tv⟩ (af.mono (ND hp.1 hp.2.2.1 ?_ ?_ (AX ?_)) ?_);rotate_right;rintro v t ⟨rfl,BO,N2,Ht,hs2,rfl⟩)|refine an ?_ (aZ ((jI k p.1 (rH 3 0 0)).1,BO,N2) (fM ⟨hs2,?_,?_,?_⟩ (AB hs2 hk ?_ ?_)))|refine Z5 hp.1 hk ?_ VW.top ⟨rfl,p.2.1,p.2.2,hp.2.1,hp.1,?_⟩|refine aj.mk (λh=>?_) (λh=>?_)|refine ag.mk (by decide) ?_|refine ag.mk (λh=>h) ?_|refine ag.mk ?_ ?_)))<;>try exact cls
  all_goals first
    | exact⟨hs,bF _,‹gB k a n C›,rfl⟩
    | exact AB hs hk (bF _) ⟨vq rfl hs.z0,qV,tv⟩
    | exact ha
    | exact kE hp.2.1 Ht
    | exact hp.2.1
    | exact hp.2.2.1.take 0 0
    | exact⟨vq rfl hs2.z0,qV,tv⟩
    | exact ajH h hp.2.2.2
    | exact(by rw[ale h hp.2.2.2])
    | (simp only[dM];omega)
    | (have h5:=Y5 h;omega)
    | omega
    | decide
def aep{j k:Nat}(hk:3<=k/\k<=5):j % k<k:=Nat.mod_lt _ qO
def Qp{j k:Nat}(h:decide ((j:Int)<2*(k:Int))=true):j<2*k:=by have:=bT h;omega
def L8{j k:Nat}(h:decide ((j:Int)<(k:Int))=true):j<k:=by have:=bT h;omega
def ge2{j k:Nat}(h:decide ((j:Int)<2*(k:Int))=false):¬j<2*k:=by have:=bV h;omega
def ge1{j k:Nat}(h:decide ((j:Int)<(k:Int))=false):¬j<k:=by have:=bV h;omega
def nt{b:Bool}(h:(!b)=true):b=false:=by cases b <;> first|rfl|cases h
def nf{b:Bool}(h:(!b)=false):b=true:=by cases b <;> first|rfl|cases h
def auc{k:Nat}{b:Int}{i:Nat}{C:aH}(h:(iO (C.at i)).up=false):Hf k b i C=(jI k C (rH 9 i b)).1:=by unfold Hf;rw[h];rfl
def aub{k:Nat}{b:Int}{i:Nat}{C:aH}(h:(iO (C.at i)).up=true):Hf k b i C=C:=by unfold Hf;rw[h];rfl
def as8(j k:Nat):iV ((j:Int) % (k:Int))=iV ((j % k:Nat):Int):=by rw[Int.natCast_emod]
def m2{m:Nat}(hm:m<=2)(h:decide ((m:Int)<2)=false):m=2:=by have:=bV h;omega
def arf{k N:Nat}{σ:Nat->Nat}{C:aH}{a n:Nat}{b:Int}(hs:rM k σ N)(h:gB k a n C)(ha:a+40<=900)(hn:n+140000<=1000000)(hb : -9223372036854775808<=b):af 17 [.ptr 0 0,iV b] (GS k C σ N) (λv t=>v=iV (CW k b C).2/\Fg k (CW k b C).1 N t):=by
 have hk:=h.jm;have h0:=h;refine ay func17 λX=>?_
 (repeat'(first|((with_reducible refine fP ?_);first|refine OY (c:=.seq (.region 2 _ _) _) (λi (p:aH×(Nat->Nat)×Nat)=>⟨63,[(0,.ptr 0 0),(1,iV b),(9,iV k),(10,iV i)],GS k p.1 p.2.1 p.2.2⟩) (λi p=>rM k p.2.1 p.2.2/\N<=p.2.2/\gB k (a+i) (n+i) p.1/\Dh k b (k-i) i p.1=Dh k b k 0 C) k ⟨C,σ,N⟩ ?_ ?_ (λi p hi hp=>?_)|refine T.cut (x:=.region 11 _ _) ⟨63,[(0,.ptr 0 0),(7,iV (j % k:Nat)),(28,iV (2*(k:Int))),(29,iV j)],GS k p.1 p.2.1 p.2.2⟩ ?_ ?_|refine OY (c:=.seq (.region 16 _ _) _) (λm (q:aH×(Nat->Nat)×Nat)=>⟨63,[(0,.ptr 0 0),(7,iV (j % k:Nat)),(28,iV (2*(k:Int))),(29,iV j),(47,iV m)],GS k q.1 q.2.1 q.2.2⟩) (λm q=>rM k q.2.1 q.2.2/\N<=q.2.2/\gB k (a+k+3*j+1+m) (n+k+4000+j*12003+4001+m*4001) q.1/\q.1=Uu k (j % k) m (oq k 1 (j % k) p.1)) 2 ⟨oq k 1 (j % k) p.1,σ5,N5⟩ ?_ ?_ (λm q hm hq=>?_)|refine OY (c:=.seq (.region 9 _ _) _) (λj (p:aH×(Nat->Nat)×Nat)=>⟨63,[(0,.ptr 0 0),(28,iV (2*(k:Int))),(29,iV j)],GS k p.1 p.2.1 p.2.2⟩) (λj p=>rM k p.2.1 p.2.2/\N<=p.2.2/\gB k (a+k+3*j) (n+k+4000+j*12003) p.1/\qH k (2*k-j) j p.1=CW k b C) (2*k) ⟨qF k 4000 p.1,σ3,N3⟩ ?_ ?_ (λj p hi hp=>?_)|refine aC ?_)|((conv=>whnf);first|(with_reducible refine fP ?_)|refine acp ?_|refine af.to (Y0 hs hk) ?_|refine af.to (Y0 hs3 hk) ?_|refine af.to (Y0 hp.1 hk) ?_|refine af.to (YZ hp.1 hp.2.2.1 (i:=i) ?_) ?_|(refine Ib (args':=[.ptr 0 0,oL (rH 9 i b)]) ⟨VW.refl (hp.1).z0,Po rfl rfl rfl rfl rfl rfl rfl rfl rfl rfl rfl,tv⟩ (af.mono (ND hp.1 hp.2.2.1 ?_ ?_ (AX ?_)) ?_);rotate_right;rintro v t ⟨rfl,BO,N2,Ht,hs2,rfl⟩)|refine an ?_ (aZ ((jI k p.1 (rH 9 i b)).1,BO,N2) (fM ⟨hs2,kE hp.2.1 Ht,?_,?_⟩ (AB hs2 hk ?_ ⟨vq rfl hs2.z0,qV,qV,qV,tv⟩)))|refine an ?_ (aZ (p.1,p.2.1,p.2.2) (fM ⟨hp.1,hp.2.1,?_,?_⟩ (AB (C:=p.1) hp.1 hk ?_ ⟨vq rfl hp.1.z0,qV,qV,qV,tv⟩)))|(refine af.mono (SL hp.1 hp.2.2.1 ?_ ?_) ?_;rotate_right;rintro v t ⟨rfl,σ3,N3,hN3,hs3,rfl⟩)|(refine Ib (args':=[.ptr 0 0,oL (rH 1 (j % k:Nat) 0)]) ⟨VW.refl (hp.1).z0,Po rfl rfl rfl rfl rfl rfl rfl rfl rfl rfl rfl,tv⟩ (af.mono (ND hp.1 hp.2.2.1 ?_ ?_ (AX ?_)) ?_);rotate_right;rintro v t ⟨rfl,σ4,N4,VY,hs4,rfl⟩)|(refine af.mono (SL hs4 (hp.2.2.1.step ?_ (AX (by decide))) ?_ ?_) ?_;rotate_right;rintro v t ⟨rfl,σ5,N5,VX,hs5,rfl⟩)|refine af.to (YZ hs5 (hp.2.2.1.Jo ?_ 1 (j % k)) (i:=j % k) (aep hk)) ?_|refine an ?_ (aZ (oq k 1 (j % k) p.1,σ5,N5) (fM ⟨hs5,kE hp.2.1 (kE VY VX),?_,?_⟩ (AB (C:=oq k 1 (j % k) p.1) hs5 hk ?_ ⟨vq rfl hs5.z0,qV,qV,tv⟩)))|(refine Ib (args':=[.ptr 0 0,oL (rH 2 (j % k:Nat) 0)]) ⟨VW.refl (hq.1).z0,Po rfl rfl rfl rfl rfl rfl rfl rfl rfl rfl rfl,tv⟩ (af.mono (ND hq.1 hq.2.2.1 ?_ ?_ (AX ?_)) ?_);rotate_right;rintro v t ⟨rfl,σ6,N6,hN6,hs6,rfl⟩)|(refine af.mono (SL hs6 (hq.2.2.1.step ?_ (AX (by decide))) ?_ ?_) ?_;rotate_right;rintro v t ⟨rfl,σ7,N7,hN7,hs7,rfl⟩)|refine an ?_ (aZ (oq k 2 (j % k) q.1,σ7,N7) (fM ⟨hs7,kE hq.2.1 (kE hN6 hN7),?_,?_⟩ (AB (C:=oq k 2 (j % k) q.1) hs7 hk ?_ ⟨vq rfl hs7.z0,qV,qV,qV,qV,tv⟩)))|refine af.to (YZ hq.1 hq.2.2.1 (i:=j % k) (aep hk)) ?_|refine an ?_ (aZ (q.1,q.2.1,q.2.2) (fM ⟨hq.1,hq.2.1,?_,?_⟩ (AB (C:=q.1) hq.1 hk ?_ ⟨vq rfl hq.1.z0,qV,qV,tv⟩)))|refine Z5 (C:=q.1) hq.1 hk ?_ (vq (ah iV ?_) tv) ⟨rfl,q.2.1,q.2.2,hq.2.1,hq.1,?_⟩|refine Z5 (C:=p.1) hp.1 hk ?_ (vq (ah iV ?_) tv) ⟨rfl,p.2.1,p.2.2,hp.2.1,hp.1,?_⟩|refine aj.mk (λh=>?_) (λh=>?_)|refine ag.mk (by decide) ?_|refine ag.mk ⟨?_,?_⟩ ?_)))<;>try exact cls
 all_goals first
  |exact⟨hs,bF _,h0,rfl⟩
  |exact AB hs hk (bF _) ⟨vq rfl hs.z0,qV,qV,qV,tv⟩
  |exact AB hs3 hk (kE hp.2.1 hN3) ⟨vq rfl hs3.z0,qV,qV,tv⟩
  |(show bf _ _ _;exact AB (C:=p.1) hp.1 hk hp.2.1 ⟨vq rfl hp.1.z0,vq (as8 j k) tv,qV,qV,tv⟩)
  |exact AB (C:=oq k 1 (j % k) p.1) hs5 hk (kE hp.2.1 (kE VY VX)) ⟨vq rfl hs5.z0,qV,qV,qV,qV,tv⟩
  |(with_reducible exact hb)
  |(simp only[dM];omega)
  |(with_reducible exact L8 aG)
  |(with_reducible exact Qp aG)
  |exact hp.2.2.1.step qO (AX hb)
  |exact hp.2.2.1.up qO qO
  |exact(hp.2.2.1.Jo qO 1 (j % k)).up qO qO
  |exact(ah (Dh k b (k-(i+1)) (i+1)) (auc (nt aG)).symm).trans (ado (L8 aG) hp.2.2.2)
  |exact(ah (Dh k b (k-(i+1)) (i+1)) (aub (nf aG)).symm).trans (ado (L8 aG) hp.2.2.2)
  |exact kE hp.2.1 Ht
  |(show N<=_;with_reducible exact hp.2.1)
  |(show N<=_;with_reducible exact hq.2.1)
  |exact kE hp.2.1 (kE VY VX)
  |exact kE hq.2.1 (kE hN6 hN7)
  |exact⟨hs3,kE hp.2.1 hN3,hp.2.2.1.drain.up qO qO,by have e:=aoM (ge1 aG) hp.2.2.2;show qH k (2*k) 0 (qF k 4000 p.1)=_;rw[e];rfl⟩
  |exact⟨hs5,kE hp.2.1 (kE VY VX),(hp.2.2.1.Jo qO 1 (j % k)).up qO qO,rfl⟩
  |exact(hq.2.2.1.Jo qO 2 (j % k)).up qO qO
  |exact hq.2.2.1.up qO qO
  |exact ah (oq k 2 (j % k)) hq.2.2.2
  |exact anq (Qp aG) hp.2.2.2 rfl (nt aG)
  |exact anp (Qp aG) hp.2.2.2 rfl (nf aG) (by have e:=hq.2.2.2;rw[m2 hm aG]at e;exact e) aG
  |(have e:=ano (E:=q.1) (Qp aG) hp.2.2.2 rfl (nf aG) (by have e:=hq.2.2.2;rw[m2 hm aG]at e;exact e) aG;rw[e])
  |exact ah Prod.snd (aeq (ge2 aG) hp.2.2.2).symm
  |exact(by rw[aeq (ge2 aG) hp.2.2.2])
  |decide
  |omega
  |(simp only[dM];omega)
  |(have h5:=L8 aG;omega)
  |(have h5:=Qp aG;omega)
  |(have h5:=bT (aG:decide ((m:Int)<2)=true);omega)
  |(refine⟨?_,?_⟩ <;> fail)
end
section
attribute [local irreducible] af
def cO.z:cO:=⟨0,0,0,.z⟩
def AV(L:List cO):D:=.sl L.length 11 (λj=>Bf (L.getD j .z))
def axe(e:cO):cO:={ e with c:={ e.c with chunks:=e.c.chunks.take 12 } }
def yN(e:cO):cO:={ e with c:={ e.c with chunks:=e.c.chunks.take 12,text:=e.c.text.take 40 } }
def rC(L:List cO):List cO:=(L.take 120).map yN
def avL{N:Nat}{l:List Int}(h:decide ((12:Int)<(l.length:Int))=true):VW N (.d (.sl 12 1 (λj _=>iD (l.getD j 0)))) (.d (iR (l.take 12))):=by
 have h:=bT h;refine VW.sl (by rw[dG];omega) (λj hj k hk=>?_);rw[bn,bn,nX,if_pos hj]
def avK{N:Nat}{l:List Int}(h:decide ((12:Int)<(l.length:Int))=false):VW N (.d (iR l)) (.d (iR (l.take 12))):=by
 have h:=bV h;rw[jU qO];exact VW.refl tv
def aue{N:Nat}{l:List UInt8}:VW N (.str ((jr l).extract 0 40)) (.d (IY (l.take 40))):=by
 refine vq ?_ trivial;show V.d (D.v (.string _))=V.d (D.v (.string _));congr 3;show _=(⟨(l.take 40).toArray⟩:ByteArray);apply ByteArray.ext;show((jr l).extract 0 40).data=_;rw[ByteArray.data_extract];show l.toArray.extract 0 40=_;simp
def aud{N:Nat}{l:List UInt8}(h:decide ((40:Int)<((jr l).size:Int))=false):VW N (.d (IY l)) (.d (IY (l.take 40))):=by
 have h:=bV h;have e:(jr l).size=l.length:=rfl;rw[jU qO];exact VW.refl tv
def aix{L:List cO}{i:Nat}(h:i<L.length):(L.take (i+1)).map yN=(L.take i).map yN++[yN (L.getD i .z)]:=by
 rw[kR .z h,List.map_append];rfl
def abz{L:List cO}{i:Nat}(h:i<=L.length):((L.take i).map yN).length=i:=by
 rw[lZ,dG];omega
def avv{x y:Prop}[Decidable x][Decidable y](h:cond (decide x) (decide y) false=true):x/\y:=Y5 h
def atu{L:List cO}{i:Nat}(hi:i<=min L.length 120)(h:cond (decide ((i:Int)<(L.length:Int))) (decide ((i:Int)<120)) false=false):(L.take i).map yN=rC L:=by
 have e:i=min L.length 120:=by
  by_cases h1:(i:Int)<(L.length:Int)
  ·rw[aX h1]at h;have:=bV h;omega
  ·omega
 unfold rC;by_cases h2:L.length<=120
 ·rw[jU qO,jU h2]
 ·rw[show i=120 by omega]
def anw(L:List cO):af 7 [.d (AV L)] e0 (λv t=>v = .d (AV (rC L))/\t=e0):=by
 refine ay func7 λX=>?_
 (repeat'(first|((with_reducible refine fP ?_);first|refine T.cut (x:=.seq (.region 6 _ _) _) ⟨48,[(0,.d (AV L)),(3,.row 0 ((L.take i).map yN).length),(4,iV i),(5,.ptr 1 0)],⟨[(0,bQ 35 11 Bf .z ((L.take i).map yN)),(1,.Wp 11 (λk=>.d (Bf (axe (L.getD i .z)) k)))],2⟩⟩ ?_ ?_|refine T.cut (x:=.seq (.region 8 _ _) _) ⟨48,[(0,.d (AV L)),(3,.row 0 ((L.take i).map yN).length),(4,iV i),(5,.ptr 1 0)],⟨[(0,bQ 35 11 Bf .z ((L.take i).map yN)),(1,.Wp 11 (λk=>.d (Bf (yN (L.getD i .z)) k)))],2⟩⟩ ?_ ?_|refine aC ?_|refine dU (min L.length 120) (λi (a:Unit)=>⟨48,[(0,.d (AV L)),(3,.row 0 ((L.take i).map yN).length),(4,iV i)],⟨[(0,bQ 35 11 Bf .z ((L.take i).map yN))],1⟩⟩) (λ_ _=>True) () ?_ True.intro (λi a hi hp=>?_))|((conv=>whnf);first|(with_reducible refine fP ?_)|refine aZ () ⟨?_,tv,?_⟩|refine aj.mk (λh=>?_) (λh=>?_)|refine ag.a ?_|((rw[atu aG aG]);refine Fin.eG (i:=0) (h:=λj=>Bf ((rC L).getD j .z)) (iI.of qN rfl fr) (bM qN qN (vq jB trivial) ?_))|refine ag.mk ?_ ?_)))<;>try exact cls
 all_goals(try(refine leq ?_ ?_ <;> repeat'(first|exact tv|refine an qW ?_|refine an qV ?_|refine an (vq (ah (V.row _) ?_) qN) ?_|refine an ⟨nb rfl,?_⟩ ?_|exact aW.row rfl fv|refine fB rfl (λk hk=>dR ?_)|refine an ?_ ?_)))
 all_goals first|exact rfl|exact(λj hj=>ai hj nz)|(have hk:k<11:=hk;obtain _|_|_|_|_|_|_|_|_|_|_|k:=k <;> first|exact cm qV|exact cm (avL aG)|exact cm (avK aG)|exact cm aue|exact cm (aud aG)|omega)|(have h9:=(avv (aG:cond (decide ((i:Int)<(L.length:Int))) (decide ((i:Int)<120)) false=true));have h8:=abz (L:=L) (i:=i) qo;first|omega|exact⟨by decide,Int.le_of_lt (bT aG)⟩|(rw[h8,abz (L:=L) (i:=i+1) qo];done)|(rw[aix qo];(intro j hj k hk;(have hk:k<11:=hk;refine(kU rfl hj fr (λj hj=>?_));obtain rfl:j=0:=Nat.lt_one_iff.1 hj;obtain _|_|_|_|_|_|_|_|_|_|_|k:=k;exact qV;exact qV;exact qV;exact qV;exact qV;exact qV;exact qV;exact qV;exact qV;exact qV;exact qV;omega))))
end
