/- Lemmas. -/
import Derived.Defers
import Derived.Test.YtnibdnahojjcgaaGreatC20
import Derived.Test.YtnibdnahojjcgaaGreatC21
import Derived.Test.YtnibdnahojjcgaaGreatC22
import Derived.Test.YtnibdnahojjcgaaGreatC24
namespace Go.Proofs.YtnibdnahojjcgaaGreat
set_option linter.all false
set_option maxRecDepth 100000
set_option maxHeartbeats 0
open Go.RowKit Tryz
def axd{n0:Nat}{t0:ST}(fn xh:Func)(cD:Code)(n:Nat)(mD:Nat->V)(X:Cx t0)(K:V->ST->Prop):Exit->AS->Prop
 |.ret,s=>∃(sM:AS) (t2:ST),bf n0 s sM/\(∀ k,k<n->VW sM.s.nx (mD k) (mD k))/\(∀ X1:Cx sM.s,T X1 cD (uY xh X1 (λv t=>v = .gQ 0 (λ_=>.top)/\t=t2)) ⟨xh.ntmps,pU ((List.range n).map mD),sM.s⟩)/\uY fn X K .ret ⟨sM.nt,sM.sl,t2⟩
 |_,_=>False
def af.defer{f:Nat}{fn:Func}{c0 rest:Code}{id:Nat}{o1 o2:Oper}{args:List V}{t0:ST}{K:V->ST->Prop}{sL:AS}{fd n:Nat}{mD:Nat->V}{xh:Func}{cD:Code}{c:Call}{r:Operand}
  (hf:prog.funcs[f]?=some fn) (hb:fn.body=some (.seq c0 (.seq (.region id #[o1,o2] false) rest))) (hname:(fn.name == "runtime.NumGoroutine")=false) (hn:args.length<=fn.ntmps)
  (h0:∀ X:Cx t0,T X c0 (yU λs1=>uy af [o1] [o1] s1 λs'=>bf t0.nx s' sL) ⟨fn.ntmps,pU args,t0⟩)
  (g1:o1.guard=none) (g2:o2.guard=none) (ho2:o2.op = .defer c) (jo:o2.dst=none) (hc:c.callee = .value r) (hca:c.args=#[])
  (hev:sL.ev r = .fn fd 0 n mD) (hfD:prog.funcs[fd]?=some xh) (hbD:xh.body=some cD) (hnD:(xh.name == "runtime.NumGoroutine")=false) (hnn:n<=xh.ntmps)
  (hrest:∀(X4:Cx sL.s) (X':Cx t0),T X4 rest (axd (n0:=sL.s.nx) fn xh cD n mD X' K) sL):af f args t0 K:=by
 refine⟨?_,λG w us hg hl hv=>?_⟩
 ·unfold xy;rw[hf,qg,hb,hname];rfl
 let X:Cx t0:=⟨G,w,hg,[]⟩
 refine calls_of_wp_defers hf hb ?_;have hm:Mod X ⟨fn.ntmps,pU args,t0⟩ { tmps:=us.toArray++Array.replicate (fn.ntmps-us.toArray.size) undef,defers:=[] } w:=by
  refine⟨G,hg,⟨⟨by simp;omega,λj=>?_⟩,rfl⟩,Stp.refl _ _ _⟩;show aY G t0.get w (dD (pU args) j) _;unfold pU;rw[JC args 0 j,if_pos (cZ _),Nat.sub_zero,bn];rcases ha:args[j]? with _|v
  ·exact trivial
  ·have hj:j<us.length:=by rw[hl];exact(List.getElem?_eq_some_iff.1 ha).1
   have e:=dV hj;have:=hv j v _ ha e;rw[uJ,Array.getElem?_append_left (by simpa using hj)];simpa [hj] using this
 refine wp_seq (wp_mono ((h0 X).h _ w hm) ?_);rintro e a1 w1 ⟨s1,⟨rfl,h1⟩,hm1⟩;refine wp_seq (wp_region ?_);have hpre:=BJ (X:=X) #[o1] [o1] 0 rfl s1 a1 w1 _ h1 hm1;show wpOps prog #[o1,o2] _ ([0]++[1]) a1 w1;refine YN (K:=λs'=>bf t0.nx s' sL) ?_ _ a1 w1 (λi hi=>?_) hpre;rotate_left
 ·obtain rfl:=List.mem_singleton.1 hi;exact⟨o1,rfl,rfl,g1⟩
 rintro a4 w4 ⟨s4,hle,hm4⟩;obtain⟨G4,hg4,hs4,hx4⟩:=hm4.le hle;have hcapv:=hs4.ev r;rw[hev]at hcapv;obtain⟨fs,cs,hu,z1,z2,z3⟩:=hcapv;obtain rfl:fs=#[]:=Array.eq_empty_of_size_eq_zero z1;have hrun:(execOp a4.eval o2).run prog w4 = .ok (.defer { target:=.fn (.func fd) cs,args:=#[] }) w4:=by
  unfold execOp;simp[ho2,resolve,hc,hu,Deferred.ofValue,hca]
 unfold wpOps;show _;simp only[show(#[o1,o2]:Array Oper)[1]?=some o2 from rfl];rw[if_pos (by unfold Region.wanted;rw[g2])];refine .inl ?_;unfold Oper.wp;rw[hrun,Oper.upon_defer,jo];have hds:a4.defers=[]:=hs4.df
 let d:Deferred:={ target:=.fn (.func fd) cs,args:=#[] }
 let X4:Cx sL.s:=⟨G4,w4,hg4,[d]⟩
 let X':Cx t0:=⟨G,w,hg,[d]⟩
 have BA:Mod X4 sL { a4 with defers:=d::a4.defers } w4:=⟨G4,hg4,⟨⟨hs4.nt,hs4.sl⟩,by show _::a4.defers=_;rw[hds]⟩,Stp.refl _ _ _⟩;show(Code.wp prog rest _ _ _);refine wp_mono ((hrest X4 X').h _ w4 BA) ?_;rintro e a6 w6 ⟨s6,hq,G6,Qu,hs6,hx6⟩;cases e with
 |normal=>exact hq.elim
 |exit i=>exact hq.elim
 |goto l=>exact hq.elim
 |panic c=>exact hq.elim
 |outgrown=>exact hq.elim
 |ret=>
  obtain⟨sM,t2,PZ,hcw,hD,hret⟩:=hq;have hless:yQ sM.s.nx s6.s sM.s:=JH PZ.ob;have hg7:=Ia Qu hless PZ.hi rfl;have hx7:=JG (X:=X4) hx6 hless PZ.lo;have awT:=λj=>Ai (G:=G6) (w:=w6) hless (XM PZ.sl j) (hs6.sl j)
  have hcap:∀ k x,cs[k]?=some x->aY (G6.drop sM.s.nx) sM.s.get w6 (mD k) x:=λk x hx=>by
   have hk:k<n:=by
    have:=(Array.getElem?_eq_some_iff.1 hx).1;have:(#[]:Array Value).size+cs.size=n:=z2;simp at this;omega
   exact Ai hless (hcw k hk) ((z3 k x (by simpa using hx)).dX hx6 hg4.axy)
  show Leaves prog fn a6.tmps _ a6.defers .returning w6;rw[show a6.defers=[d] from hs6.df];have aa6:xy fd:=by
   unfold xy;rw[hfD,qg,hbD,hnD];rfl
  have hsz:cs.size=n:=by simpa using z2
  refine leaves_cons (by simp) (f:=fd) (args:=cs) (by simp[invoke,V7 aa6]) ?_
  let X1:Cx sM.s:=⟨G6.drop sM.s.nx,w6,hg7,[]⟩
  have hm1:Mod X1 ⟨xh.ntmps,pU ((List.range n).map mD),sM.s⟩ { tmps:=cs++Array.replicate (xh.ntmps-cs.size) undef,defers:=[] } w6:=by
   refine⟨_,hg7,⟨⟨by simp;omega,λj=>?_⟩,rfl⟩,Stp.refl _ _ _⟩;show aY _ sM.s.get w6 (dD (pU ((List.range n).map mD)) j) _;unfold pU;rw[JC _ 0 j,if_pos (cZ _),Nat.sub_zero,bn,qQ];by_cases hj:j<n
   ·rw[List.getElem?_range hj,uJ,Array.getElem?_append_left qO];have e:=vI (xs:=cs) (i:=j) qO;rw[e];exact hcap j _ e
   ·rw[List.getElem?_eq_none (by simpa using hj)];exact trivial
  refine(callsD_of_wp (R:=λe w'=>∃ v t' G',e = .returned v/\t'=t2/\bZ G' t' w'/\Stp (G6.drop sM.s.nx) sM.s.get w6 G' t'.get w') hfD hbD ?_).mono ?_
  ·refine wp_mono ((hD X1).h _ w6 hm1) ?_;rintro e a' w' ⟨s',hq',hm'⟩;have hd:a'.defers=[]:=by obtain⟨_,_,hs,_⟩:=hm';exact hs.df
   cases e with
   |ret=>
    obtain⟨v,h1,V,t',G',h2,h3,h4,h5⟩:=Fz hq' hm';exact⟨hd,v,h1,v,t',G',rfl,h2.2,h3,h4⟩
   |normal=>
    obtain⟨v,h1,V,t',G',h2,h3,h4,h5⟩:=Fz hq' hm';exact⟨hd,v,h1,v,t',G',rfl,h2.2,h3,h4⟩
   |exit i=>exact hq'.elim
   |goto l=>exact hq'.elim
   |panic c=>exact hq'.elim
   |outgrown=>exact hq'.elim
  ·rintro e u' w8 ⟨rfl,v,t',G8,rfl,rfl,hg8,hx8⟩;show Leaves prog fn a6.tmps _ [] (settle .returning) w8;have VV:Mod X' ⟨sM.nt,sM.sl,t'⟩ a6 w8:=⟨G8,hg8,⟨⟨by rw[hs6.nt];exact PZ.nt.symm,λj=>(awT j).dX hx8 hg7.axy⟩,hs6.df⟩,(hx4.trans hx7).trans hx8⟩;obtain⟨v2,r1,V,t3,G3,r2,r3,r4,r5⟩:=Fz hret VV;exact⟨v2,r1,v2,V,t3,G3,rfl,r2,r3,r4,r5⟩
def PE(N:Nat):List V->List V->Prop
 |[],[]=>True
 |a::r,b::q=>VW N a b/\PE N r q
 |_,_=>False
def RP{N:Nat}:∀ {l q:List V},PE N l q->l.length=q.length/\∀(k:Nat) (b:V),q[k]?=some b->∃ a,l[k]?=some a/\VW N a b
 |[],[],_=>⟨rfl,λk b h=>by simp at h⟩
 |a::r,b::q,h=>by
  obtain⟨h1,h2⟩:=RP h.2;refine⟨by simp[h1],λk b' hk=>?_⟩;cases k with
  |zero=>simp at hk;subst hk;exact⟨a,rfl,h.1⟩
  |succ k=>exact h2 k b' (by simpa using hk)
 |[],_::_,h=>h.elim
 |_::_,[],h=>h.elim
def JU{f:Nat}{args args':List V}{st:ST}{K:V->ST->Prop}(st2:ST)(hnx:st2.nx=st.nx)(ho:pX st2.nx st st2.st)(ha:PE st2.nx args args')(h:af f args' st2 K):af f args st K:=by
 refine⟨h.1,λG w us hg hl hv=>?_⟩;have hless:yQ st2.nx st st2:=JH ho;obtain⟨hal,hag⟩:=RP ha;have hg2:=Ia (N:=st2.nx) hg hless qO rfl;refine(h.2 (G.drop st2.nx) w us hg2 (hl.trans hal) λk v u e1 e2=>?_).mono λe w' ⟨v,V,t',G',e1,e2,e3,e4,e5⟩=>?_
 ·obtain⟨a,h1,h2⟩:=hag k v e1;exact Ai hless h2 (hv k a u h1 e2)
 ·refine⟨v,V,t',G',e1,e2,e3,?_,e5⟩;have hρ:∀ i l,G.ρ i=some l->i<st2.nx/\(G.drop st2.nx).ρ i=some l:=λi l hi=>by
   have hlt:i<st2.nx:=by
    refine Nat.lt_of_not_le λhle=>?_
    rw[(hg.jZ i qO).1]at hi;cases hi
   exact⟨hlt,by show(if i<st2.nx then G.ρ i else none)=_;rw[if_pos hlt];exact hi⟩
  exact {
   os:=e4.os
   tape:=e4.tape
   output:=e4.output
   size:=e4.size
   axz:=λb hb hn=>e4.axz b hb λi hi=>hn i (Jz hless hi).1
   F1:=e4.F1
   F2:=e4.F2
   own:=λi b hi=>by
    obtain h1|h1:=e4.own i b hi
    ·exact .inl (Jz hless h1).1
    ·exact .inr h1
   loc:=λi b hi=>e4.loc i b (hρ i _ hi).2
   row:=λi A c hi=>by
    obtain⟨A',c',q1,q2⟩:=e4.row i A c (hρ i _ hi).2;refine⟨A',c',q1,λE s m g e=>?_⟩;obtain⟨m0,g0,q3,q4,q5⟩:=q2 E s m g e;obtain⟨g1,q6⟩:=X8 hless i E s m0 g0 q3;exact⟨m0,g1,q6,q4,q5⟩ }
def NI{f:Nat}{args args':List V}{st:ST}{K:V->ST->Prop}(st2:ST)(hnx:st2.nx=st.nx)(ho:pX st2.nx st st2.st)(ha:PE st2.nx args args')(h:jd f args' st2 K):jd f args st K:=by
 obtain⟨v,t,hk⟩:=h.any;exact jd.mk v t hk
section
def acp{t:ST}{K:ST->Prop}(h:K t):Io t K:=by rw[Rj];exact h
section
variable {n N:Nat} {σ:Nat->Nat}
def asY{l:List (Nat×aK)}(hs:Sg n σ N)(hd:iJ (kV l)=true)(hl:nI n l):pV n (bY ((List.range n).map σ)) ⟨iQ σ l,N⟩ ((List.range n).map σ) l:=by
 have hidx:∀ i,i<n->bY ((List.range n).map σ) (σ i)=some i:=λi hi=>nC hs.nodup (JZ i hi)
 have key:∀ q:List (Nat×aK),(∀ p∈q,p∈l)->pV n (bY ((List.range n).map σ)) ⟨iQ σ l,N⟩ ((List.range n).map σ) q:=by
  intro q;induction q with
  |nil=>exact λ_=>True.intro
  |cons p r ih=>
   intro hq;obtain⟨i,o⟩:=p;refine⟨?_,ih λp hp=>hq p (jA _ hp)⟩;have hm:=hq _ jL;have hi:i<n:=zk hl _ hm;have hlook:axA l i=o:=Fq hd _ hm;refine⟨σ i,JZ i hi,?_⟩;have e:(⟨iQ σ l,N⟩:ST).get (σ i)=xe σ o:=by rw[<-hlook];exact SH hs (λp hp=>zk hl p hp) i hi
   rw[e,Xk];obtain h0|⟨h0,h2⟩:=yw hl i
   ·have ho:o = .dead:=hlook.symm.trans h0;subst ho;exact True.intro
   ·rw[hlook]at h2;exact Jv (P:=λi=>i<n) (λk hk=>⟨hk,hidx k hk⟩) h2
 exact key l λp hp=>hp
def ah2:∀(l:List Nat) (k:Nat),PV 0 k l=true
 |[],_=>rfl
 |x::r,k=>by
  show((bif Nat.blt k 0 then Nat.beq x k else true)&&PV 0 (k+1) r)=true;rw[ah2 r (k+1),show Nat.blt k 0=false by rw[xm,ne_eq,Nat.blt_eq];omega];rfl
def MI.of{nt:Nat}{sl sl2:List (Nat×V)}{l:List (Nat×aK)}(hs:Sg n σ N)(hd:iJ (kV l)=true)(hl:nI n l)(h:∀ φ:Nat->Option Nat,(∀ i,i<n->φ (σ i)=some i)->Qk n φ ⟨nt,sl,⟨iQ σ l,N⟩⟩ sl2):MI 0 ((List.range n).map σ) ⟨nt,sl,⟨iQ σ l,N⟩⟩ ⟨nt,sl2,⟨l,n⟩⟩:=
 ⟨rfl,by show n=_;rw[lZ,List.length_range],hs.nodup,ah2 _ _,asY hs hd hl,h _ λi hi=>nC hs.nodup (JZ i hi)⟩
end
section
variable {t0:ST} {X:Cx t0} {Q:Exit->AS->Prop} {s s2:AS}
def Conv.EX{aI:List Nat}(hr:MI t0.nx aI s s2):Conv X s s2:=⟨λa w hm=>hm.EX hr⟩
@[irreducible] def TO {t0:ST} (X:Cx t0) (ops:Array Oper) (rest:List Oper) (Q:Exit->AS->Prop) (s:AS):Prop:=
 ∀ i,ops.toList.drop i=rest->∀ a w,Mod X s a w->wpOps prog ops (λe a' w'=>∃ s',Q e s'/\Mod X s' a' w') (List.range' i rest.length) a w
def TO.h{ops:Array Oper}{rest:List Oper}(h:TO X ops rest Q s):∀ i,ops.toList.drop i=rest->∀ a w,Mod X s a w->wpOps prog ops (λe a' w'=>∃ s',Q e s'/\Mod X s' a' w') (List.range' i rest.length) a w:=by unfold TO at h;exact h
def TO.mk{ops:Array Oper}{rest:List Oper}(h:∀ i,ops.toList.drop i=rest->∀ a w,Mod X s a w->wpOps prog ops (λe a' w'=>∃ s',Q e s'/\Mod X s' a' w') (List.range' i rest.length) a w):TO X ops rest Q s:=by unfold TO;exact h
def Ld{id:Nat}{ops:Array Oper}(h:TO X ops ops.toList Q s):T X (.region id ops false) Q s:=T.mk λa w hm=>by
 refine wp_region ?_;have:=h.h 0 rfl a w hm;rwa [<-List.range_eq_range',rO]at this
def TO.nil{ops:Array Oper}(h:Q .normal s):TO X ops [] Q s:=TO.mk λi hi a w hm=>⟨s,h,hm⟩
def Iu{ops:Array Oper}{rest:List Oper}(h:Conv X s s2)(k:TO X ops rest Q s2):TO X ops rest Q s:=TO.mk λi hi a w hm=>k.h i hi a w (h.c a w hm)
def ahG{ops:Array Oper}{o:Oper}{r:List Oper}(hw:∀ a w,Mod X s a w->Region.wanted o (yielded ops a.tmps)=true)(hf:s.fits o.dst=true)(h:dF ag af o.op s (λv t=>TO X ops r Q (s.put o.dst v t))):TO X ops (o::r) Q s:=TO.mk λi hi a w hm=>by
 have hlt:i<ops.toList.length:=by
  obtain h1|h1:=l7 i ops.toList.length
  ·exact h1
  ·rw[List.drop_of_length_le h1]at hi;cases hi
 have ho:ops[i]?=some o:=by
  rw[List.drop_eq_getElem_cons hlt]at hi;injection hi with h1 h2
  rw[<-qP,dV hlt,h1]
 have hr:ops.toList.drop (i+1)=r:=by
  rw[List.drop_eq_getElem_cons hlt]at hi;injection hi
 rw[lT,List.range'_succ];unfold wpOps;rw[ho];simp only;rw[if_pos (hw a w hm)];obtain⟨G,hg,hs,hx⟩:=hm;refine .inl ?_;have hres:=Tz (M:=ag) (gd:=True) (o:=o) (λp q h=>⟨h.h.2,λ_=>h.h.1⟩) trivial hg hs.tooZ h;refine y8 (hres.step hx hs hg hf) (λa' w' hh=>?_) (λ_ _ _ h=>h.elim);obtain⟨x,t',hk,hm'⟩:=hh;exact hk.h (i+1) hr a' w' hm'
def TO.run{ops:Array Oper}{o:Oper}{r:List Oper}(hg:o.guard=none)(hf:s.fits o.dst=true)(h:dF ag af o.op s (λv t=>TO X ops r Q (s.put o.dst v t))):TO X ops (o::r) Q s:=
 ahG (λa w hm=>by unfold Region.wanted;rw[hg]) hf h
def atU{ops:Array Oper}{o:Oper}{r:List Oper}{j d:Nat}{w1:Bool}(hg:o.guard=some (j,w1))(hd:(ops.toList[j]?).map (·.dst)=some (some d))(hv:dD s.sl d = .b w1)(hf:s.fits o.dst=true)(h:dF ag af o.op s (λv t=>TO X ops r Q (s.put o.dst v t))):TO X ops (o::r) Q s:=
 ahG (λa w hm=>by
  obtain⟨G,hgd,hs,hx⟩:=hm;obtain⟨t,ht,hw⟩:=YY (K:=λt=>t=w1) hs.tooZ hg hd (by rw[hv];exact rfl);rw[hw,ht];cases w1 <;> rfl) hf h
def ZZ{ops:Array Oper}{o:Oper}{r:List Oper}{ty n:Nat}{ps:Array (Nat×Operand)}(hop:o.op = .buildSlice ty n ps)(hg:o.guard=none)(hf:s.fits o.dst=true)(h:BQ ty n ps.toList s (λv=>TO X ops r Q (s.put o.dst v s.s))):TO X ops (o::r) Q s:=TO.mk λi hi a w hm=>by
 have hlt:i<ops.toList.length:=by
  obtain h1|h1:=l7 i ops.toList.length
  ·exact h1
  ·rw[List.drop_of_length_le h1]at hi;cases hi
 have ho:ops[i]?=some o:=by
  rw[List.drop_eq_getElem_cons hlt]at hi;injection hi with h1 h2
  rw[<-qP,dV hlt,h1]
 have hr:ops.toList.drop (i+1)=r:=by
  rw[List.drop_eq_getElem_cons hlt]at hi;injection hi
 rw[lT,List.range'_succ];unfold wpOps;rw[ho];simp only;rw[if_pos (by unfold Region.wanted;rw[hg])];obtain⟨G,hgd,hs,hx⟩:=hm;refine .inl ?_;obtain⟨cells,hrun,D,hk,hd⟩:=acd hgd hs.tooZ h;obtain⟨h1,h2⟩:=Nw hgd ((Below.refl w.heap.size w).alloc (bF _) (.cells cells (tI ty).elem));unfold Oper.wp Oper.upon execOp;simp only[hop,Sem.run_bind,hrun,Result.andThen_ok,Sem.run_pure];exact hk.h (i+1) hr _ _ (N8 hx hs hgd.axy h1 h2 hf (hd _ (λb hb=>.inl hb) (.inr ⟨bF _,by simp⟩)))
def OY{α:Type}{c:Code}(S:Nat->α->AS)(P:Nat->α->Prop)(n:Nat)(a0:α)(hp:P 0 a0)(h0:bf t0.nx s (S 0 a0))(hr:∀ i a,i<=n->P i a->T X c (λe s'=>match e with|.normal=>i<n/\∃ b,P (i+1) b/\bf t0.nx s' (S (i+1) b)|e=>Q e s') (S i a)):T X (.loop c) Q s:=
 T.loop (ι:={ p:Nat×α // p.1<=n/\P p.1 p.2 }) (λp=>S p.1.1 p.1.2) (λp=>n-p.1.1) ⟨(0,a0),cZ _,hp⟩ h0 λ⟨(i,a),hi,ha⟩=>T.mono (hr i a hi ha) λe s' h=>by
  cases e
  case normal=>
   obtain⟨h1,b,h2,h3⟩:i<n/\∃ b,P (i+1) b/\bf t0.nx s' (S (i+1) b):=h;exact⟨⟨(i+1,b),h1,h2⟩,h3,by show n-(i+1)<n-i;omega⟩
  all_goals exact h
end
end
def adM:∀(l:List bH) (a:aV),(∀ e∈l,pY e)->(l.map EK).foldl mF a={ a with l:=a.l++l }
 |[],a,_=>by simp
 |e::r,a,h=>by
  rw[List.map_cons,List.foldl_cons,adM r _ (λx hx=>h x (jA _ hx))];have e1:mF a (EK e)={ a with l:=a.l++[e] }:=by
   unfold mF EK;simp[aeu (h e jL)]
  rw[e1];simp
def akF{x:aV}(h:jY x):AP (kz x)=x:=by
 have h1:=h.kind;have h2:=h.src;have h3:=h.dst;have h4:=h.term;have h5:=h.bin;have h6:=h.a;have h7:=h.b;have h8:=h.c;unfold AP kz;rw[List.foldl_append,adM _ _ h.es];have key:(qj (nH x)).foldl mF aV.z={ x with l:=[] }:=by
  unfold qj nH;have g:∀(i:Nat) (n:Int) (r:List Int),qG i (n::r)=(if n=0 then [] else [⟨(i:Int)+1,0,n.toNat,[]⟩])++qG (i+1) r:=λ_ _ _=>rfl
  have g0:∀ i,qG i []=[]:=λ_=>rfl
  simp only[g,g0];rw[if_neg (show x.kind≠0 by omega),if_neg (show x.src+1≠0 by omega),if_neg (show x.dst+1≠0 by omega),if_neg (show x.term≠0 by omega),if_neg (show x.bin≠0 by omega)];have st:∀(a:aV) (i n:Int) (upd:aV),(n=0->a=upd)->(n≠0->mF a ⟨i,0,n.toNat,[]⟩=upd)->∀ r,List.foldl mF a ((if n=0 then [] else [⟨i,0,n.toNat,[]⟩])++r)=List.foldl mF upd r:=by
   intro a i n upd h1 h2 r;split
   ·rename_i e;rw[<-h1 e];rfl
   ·rename_i e;rw[List.singleton_append,List.foldl_cons,h2 e]
  simp only[List.singleton_append,List.foldl_cons];rw[show mF (mF (mF (mF (mF aV.z ⟨((0:Nat):Int)+1,0,x.kind.toNat,[]⟩) ⟨((0+1:Nat):Int)+1,0,(x.src+1).toNat,[]⟩) ⟨((0+1+1:Nat):Int)+1,0,(x.dst+1).toNat,[]⟩) ⟨((0+1+1+1:Nat):Int)+1,0,x.term.toNat,[]⟩) ⟨((0+1+1+1+1:Nat):Int)+1,0,x.bin.toNat,[]⟩={ aV.z with kind:=x.kind,src:=x.src,dst:=x.dst,term:=x.term,bin:=x.bin } from by
   simp[mF,aV.z];omega]
  rw[st _ _ _ { aV.z with kind:=x.kind,src:=x.src,dst:=x.dst,term:=x.term,bin:=x.bin,a:=x.a } (λe=>by rw[e];rfl) (λe=>by simp[mF,aV.z];omega)];rw[st _ _ _ { aV.z with kind:=x.kind,src:=x.src,dst:=x.dst,term:=x.term,bin:=x.bin,a:=x.a,b:=x.b } (λe=>by rw[e];rfl) (λe=>by simp[mF,aV.z];omega)];rw[st _ _ _ { aV.z with kind:=x.kind,src:=x.src,dst:=x.dst,term:=x.term,bin:=x.bin,a:=x.a,b:=x.b,c:=x.c } (λe=>by rw[e];rfl) (λe=>by simp[mF,aV.z];omega)];obtain⟨k,s,d,t,a,b,c,bin,ok,l⟩:=x;cases ok <;> simp[mF,aV.z]
 rw[key];simp
def aqQ{x:aV}(h:jY x)(i:Nat)(hi:i<(kz x).length):ahT ((kz x).getD i .z):=by
 obtain⟨h1,h2,h3,h4,h5,h6⟩|⟨h1,h2,h3,h4⟩:=Nb h _ (ja (z:=.z) hi)
 ·exact⟨h5,λe=>by omega⟩
 ·exact⟨by omega,λ_=>h4⟩
def apV{x:aV}(h:jY x):aQ 156 [.d (jv (kz x))] (bI [jT x,iV 0]):=by
 have:=apU (kz x) (by have:=X0 h;omega) (aqQ h);rwa [akF h]at this
def atf{x:aV}(h:jY x)(i:Nat)(hi:i<(kz x).length):((kz x).getD i .z).b.length<=100000:=by
 have:=(Ny h _ (ja (z:=.z) hi)).2.2;omega
def amZ{x:aV}(h:jY x)(i:Nat)(hi:i<(kz x).length):((kz x).getD i .z).num<=Gv 6 1:=by
 have e:Gv 6 1=10:=by decide
 rw[e];obtain⟨h1,h2,_⟩|⟨h1,_⟩:=Nb h _ (ja (z:=.z) hi) <;> omega
def ak2(x:aV)(hx:jY x):aQ 104 [.d (bW (lU x))] (bI [jT x,.d (jv []),iV 0]):=by
 refine ay func104 λX=>?_
 (repeat'(first|refine aC ?_|refine aO (RY (kz x) (TF hx)) ?_|refine aO (TV 6 1 (.inr (.inl rfl)) (kz x) (ate hx)) ?_|refine aO (UI 6 1 (.inr (.inl rfl))) ?_|refine aO (adq (kz x) (Gv 6 1) (by have:=X0 hx;omega) (atf hx) (amZ hx)) ?_|refine aO (apV hx) ?_|refine aO (ad5 x hx) ?_|refine aZ _ (fM (λht=>af.tell (Y3 (lU x) (lU x)) vw ⟨rfl,rfl⟩) ?_)|refine aj.mk (λh2=>ai h2 (by rw[show(lU x == lU x)=true from (by simp)];decide)) (λh=>?_)|refine aj.n (λh=>?_)|refine ag.a ?_|refine kJ rfl vw))<;>try exact cls
structure Sit where
 up:Bool
 role:Int
 bin:Int
 floor:Int
 term:Int
 cu:Int
 dN:Int
 dn:Int
 log:List bH
 st:aN
def awh(s:Sit):Nat->D
 |0=>bD s.up|1=>iD s.role|2=>iD s.bin|3=>iD s.floor|4=>iD s.term|5=>iD s.cu|6=>iD s.dN|7=>iD s.dn|8=>gY s.log
 |9=>dW s.st 0|10=>dW s.st 1|11=>dW s.st 2|12=>dW s.st 3|13=>dW s.st 4|14=>dW s.st 5|_=>dW s.st 6
def aN.nil:aN:=⟨0,0,0,0,[],[],[]⟩
def Dl(s:Sit):V:=.agg 16 (λk=>.d (awh s k))
def iO(n:aA):Sit:=bif n.aB.down then ⟨false,0,0,0,0,0,0,0,[],aN.nil⟩ else ⟨true,n.role,n.bin,n.ae.floor,n.ae.term,n.ae.cu,n.dN,n.dn,n.ae.log,n.st⟩
def axm.mk{p q:Prop}(h:p)(hq:q):q:=hq
def af9{t0:ST}{X:Cx t0}{v:V}{t t1:ST}{p q:Sit}(e:p=q)(h:Fin X v t (λv t=>v=Dl q/\t=t1)):Fin X v t (λv t=>v=Dl p/\t=t1):=e▸h
def aqp(n:aA)(hs:uO n.st)(hl:DT n.ae.log):af 43 [.ptr 0 0] (NS n) (λv t=>v=Dl (iO n)/\t=NS n):=by
 refine ay func43 λX=>?_
 (repeat'(first|refine aC ?_|refine bU 3 [52] (ooz 52 [o1]) ?_|refine mc ?_ ?_|refine fO [1,2] (Iw n.aB) ?_|refine kF (Oh n.st hs) ?_|refine kF (Xx n.ae.log hl) ?_|refine aj.mk (λh=>?_) (λh=>?_)|refine ag.a ?_|(refine axm.mk (p:=n.aB.down=true) ?_ ?_;exact h;refine af9 (q:=⟨false,0,0,0,0,0,0,0,[],aN.nil⟩) ?_ (bM qN qN (VW.agg (λk hk=>?_)) ?_))|refine af9 (q:=⟨true,n.role,n.bin,n.ae.floor,n.ae.term,n.ae.cu,n.dN,n.dn,n.ae.log,n.st⟩) ?_ (bM qN qN (VW.agg (λk hk=>?_)) ?_)))<;>(try(refine dm.mk ?_;repeat'(first|exact tv|exact rfl|refine aO (Oh n.st hs) ?_|refine aO (Xx n.ae.log hl) ?_|refine an ?_ ?_|refine ag.mk ?_ ?_)))
 all_goals try exact cls
 all_goals first|exact dH h|exact bG h|(have hk:k<16:=hk;obtain _|_|_|_|_|_|_|_|_|_|_|_|_|_|_|_|k:=k <;> first|exact qV|exact pg rfl|omega)|exact uF
def Dt:fC:=⟨[],0,false,false,0,[]⟩
def bC.z:bC:=⟨0,0,0,[]⟩
def Vq(me many:Int):aA:=⟨me,many,Dt.lF 0,0,.z,0,0,0,.nil,[],[],[],[],[]⟩
def aaW:fC:=Dt.lF 0
def awJ(me many:Int):Nat->V
 |0=>iV me|1=>iV many|2=>.ptr 0 0|7=>.dC|15=>.dC|16=>.dC|17=>.dC|18=>.dC|19=>.dC|20=>.dC|21=>.dC|22=>.dC|_=>iV 0
def arx:Dt.ok:=⟨dL _,dL _,cZ _,cZ _⟩
def as5{me many:Int}(h:3<=many/\many<=5)(h2:0<=me/\me<many):(bif (bif (bif decide (many<3) then true else decide (5<many)) then true else decide (me<0)) then true else decide (many<=me))=false:=by
 rw[aT (show ¬many<3 by omega),aT (show ¬5<many by omega),aT (show ¬me<0 by omega),aT (show ¬many<=me by omega)];rfl
def as6  : af 89 [] e0 (λv t=>v = .ptr 0 0/\t=DS Dt):=by
 refine ay func89 λX=>?_
 (repeat'(first|refine T.cut (x:=.region 1 _ _) (y:=.ret) ⟨3,[(0,.ptr 0 0)],⟨[(0,.Wp 5 (λk=>match k with|0=>.dC|1=>iV 0|2=>.b false|3=>.b false|_=>iV 0))],1⟩⟩ ?_ (aeP 0 0 5 (λj k=>.d (gG (([]:List UInt8).getD j 0))) rfl rfl qN rfl qN (T.ret ?_))|refine aC ?_|refine bM qN qN qW ?_))<;>try exact cls
 all_goals(try(refine leq ?_ ?_ <;> repeat'(first|exact tv|exact qW|refine jQ qN (λk hk=>?_) ?_|refine an ?_ ?_)))
 all_goals(have hk:k<5:=hk;obtain _|_|_|_|_|k:=k <;> first|exact cm qV|omega)
def as2(me many:Int)(hc:3<=many/\many<=5)(h2:0<=me/\me<many):af 46 [iV me,iV many] e0 (λv t=>v=bI [.ptr 0 0,iV 0]/\t=NS (Vq me many)):=by
 refine ay func46 λX=>?_
 (repeat'(first|refine aj.mk (λh=>ai ((as5 hc h2).symm.trans h) (by decide)) (λh=>?_)|refine T.cut (x:=.region 5 _ _) (y:=.ret) ⟨30,[(4,.ptr 2 0),(5,iV 0)],⟨[(0,.Wp 5 (I8 aaW)),(1,kL (aaW.b++aaW.dA)),(2,.Wp 23 (awJ me many))],3⟩⟩ ?_ (uN 2 18 52 (λj k=>.d (ji (([]:List Rep).getD j .z) k)) rfl rfl qN rfl qN (uN 2 19 4 (λj k=>.d (bD (([]:List Bool).getD j false))) rfl rfl qN rfl qN (uN 2 20 3 (λj k=>.d (iD (([]:List Int).getD j 0))) rfl rfl qN rfl qN (uN 2 21 3 (λj k=>.d (iD (([]:List Int).getD j 0))) rfl rfl qN rfl qN (uN 2 22 3 (λj k=>.d (iD (([]:List Int).getD j 0))) rfl rfl qN rfl qN (T.EX [2,0,1,3,4,5,6,7] ⟨30,[(4,.ptr 0 0),(5,iV 0)],NS (Vq me many)⟩ ⟨rfl,rfl,rfl,rfl,?_,⟨?_,?_,tv⟩⟩ (T.ret ?_)))))))|refine aC ?_|refine mY as6 ?_|refine fO [0,1] (TP Dt 0 arx (by decide)) ?_|refine ag.a ?_|refine bM qN qN (fH [.ptr 0 0,iV 0] rfl fr vw) ?_))<;>try exact cls
 all_goals(try(refine leq ?_ ?_ <;> repeat'(first|exact tv|exact qV|exact qW|refine jQ qN (λk hk=>?_) ?_|refine gU qN ?_ (λj hj k hk=>?_) ?_|refine an ?_ ?_)))
 all_goals(try(repeat'(first|exact tv|refine an ⟨_,rfl,fB rfl (λk hk=>?_)⟩ ?_|refine an ⟨_,rfl,aW.row rfl (λj hj k hk=>?_)⟩ ?_)))
 all_goals first|exact rfl|exact cm qV|exact ai hj nz|exact qV|exact qW|(have hk:k<23:=hk;obtain _|_|_|_|_|_|_|_|_|_|_|_|_|_|_|_|_|_|_|_|_|_|_|k:=k <;> first|exact qV|exact qW|exact pg rfl|exact cm qV|exact cm qW|omega)|(have hk:k<5:=hk;obtain _|_|_|_|_|k:=k <;> first|exact qV|exact qW|exact cm qV|exact cm qW)
