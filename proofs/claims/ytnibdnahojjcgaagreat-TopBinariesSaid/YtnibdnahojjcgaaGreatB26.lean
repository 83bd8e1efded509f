/- A part of the proof. -/
import Derived.Test.YtnibdnahojjcgaaGreatB19
import Derived.Test.YtnibdnahojjcgaaGreatB21
import Derived.Test.YtnibdnahojjcgaaGreatB22
namespace Go.Proofs.YtnibdnahojjcgaaGreat
set_option maxRecDepth 100000
set_option maxHeartbeats 16000000
set_option linter.unusedVariables false
set_option linter.unusedSimpArgs false
open Go.RowKit
structure az where
 me:Int
 many:Int
 aA:dJ
 bin:Int
 ah:bP
 dn:Int
 eQ:Int
 fA:Int
 st:aZ
 fF:List eY
 iL:List Bool
 fD:List Int
 next:List Int
 fJ:List Int
def sO(d:dJ):Nat->V
 |0=>.vw 2 (d.b++d.bU).length 0 d.b.length|1=>iV d.uZ|2=>.b d.down|3=>.b d.mD|_=>iV d.keep
def yX(n:az):Nat->V
 |0=>iV n.me|1=>iV n.many|2=>.ptr 1 0|3=>iV n.bin|4=>iV n.ah.floor|5=>iV n.ah.term|6=>iV n.ah.gZ|7=>.d (jg n.ah.log)
 |8=>iV n.dn|9=>iV n.eQ|10=>iV n.fA
 |11=>.d (fH n.st 0)|12=>.d (fH n.st 1)|13=>.d (fH n.st 2)|14=>.d (fH n.st 3)|15=>.d (fH n.st 4)|16=>.d (fH n.st 5)|17=>.d (fH n.st 6)
 |18=>.row 3 n.fF.length|19=>.row 4 n.iL.length|20=>.row 5 n.fD.length|21=>.row 6 n.next.length|_=>.row 7 n.fJ.length
def fM(l:List Int):aG:=dw 3 1 (λn _=>iD n) 0 l
def NL(n:az):List (Nat×aG):=[(0,.blk 23 (yX n)),(1,.blk 5 (sO n.aA)),(2,iy (n.aA.b++n.aA.bU)),(3,dw 52 2 jU .z n.fF),(4,sK n.iL),(5,fM n.fD),(6,fM n.next),(7,fM n.fJ)]
abbrev NS(n:az):ST:=⟨[(0,.blk 23 (yX n)),(1,.blk 5 (sO n.aA)),(2,iy (n.aA.b++n.aA.bU)),(3,dw 52 2 jU .z n.fF),(4,sK n.iL),(5,fM n.fD),(6,fM n.next),(7,fM n.fJ)],8⟩
def gY(n:az)(m:Nat):List Int:=((List.range m).map (λk:Nat=>(k:Int))).filter (λi=>!decide (i=n.me))
theorem Zz(n:az)(i:Nat):gY n (i+1)=gY n i++(bif !decide ((i:Int)=n.me) then [(i:Int)] else []):=by
 unfold gY;rw[List.range_succ,List.map_append,List.filter_append];cases h:decide ((i:Int)=n.me) <;> simp[h]
theorem Uo(n:az)(m:Nat):(gY n m).length<=m:=by
 unfold gY;have:=List.length_filter_le (λi:Int=>!decide (i=n.me)) ((List.range m).map (λk:Nat=>(k:Int)));simpa using this
def rH(n:az)(kind dst:Int):aP:=⟨kind,n.me,dst,n.ah.term,0,0,0,n.bin,false,[]⟩
theorem LJ{N:Nat}(h:8<=N)(n:az):∀ k,k<23->wV N (yX n k):=λk hk=>by
 rcases k with _|_|_|_|_|_|_|_|_|_|_|_|_|_|_|_|_|_|_|_|_|_|_|k
 all_goals first|exact tv|(show _<N;omega)
theorem QF{N:Nat}(h:8<=N)(d:dJ):∀ k,k<5->wV N (sO d k):=λk hk=>by
 rcases k with _|_|_|_|_|k
 all_goals first|exact tv|(show _<N;omega)
theorem abz(n:az)(m:Nat)(hm:n.many=m)(h5:m<=5):ae 57 [.ptr 0 0] (NS n) (λrv rt=>rv=(.d (iH (gY n m)))/\rt=(NS n)):=by
 refine asz Tryz.func57 λX=>?_
 (repeat' (first|refine asW (c:=.block 0 _) 3 3 (λj _=>.d (iD (([]:List Int).getD j 0))) rfl rfl qN (T.block ?_)|refine oz ?_|refine asI m (λi (a:Unit)=>⟨24,[(0,.ptr 0 0),(3,.row 8 (gY n i).length),(8,iV m),(9,iV i)],⟨NL n++[(8,fM (gY n i))],9⟩⟩) (λ_ _=>True) () ?_ True.intro (λi a hi hp=>?_)|refine aU () ⟨?_,tv,?_⟩|refine ai.mk (λh=>?_) (λh=>?_)|refine ag.a ?_|(have e:i=m:=(by have h9:=bJ h;omega);rw[e];refine Fin.dC (i:=8) (h:=λj _=>iD ((gY n m).getD j 0)) (jB.of qN rfl fr) (asY qN (vq (jR.trans rfl) tv) (by repeat' (first|exact tv|refine an ⟨nb rfl,af.blk ?_⟩ ?_|refine an ⟨nb rfl,af.row rfl fv⟩ ?_|exact qV|exact qW|refine an ?_ ?_))))|refine ag.mk ?_ ?_))<;>try exact aB
 all_goals (try(refine aV.mk rfl qN qN ?_ ?_ <;> repeat' (first|exact tv|exact qV|exact qW|refine vq (gz (V.row _) ?_) qN|refine vq (gz iV ?_) tv|refine an ⟨nb rfl,asE rfl (λk hk=>asB ?_)⟩ ?_|refine an ⟨nb rfl,af.row ?_ (λj hj k hk=>asB ?_)⟩ ?_|refine an ?_ ?_)))
 all_goals first|exact rfl|exact cm qV|exact hm|exact cm (VW.refl (LJ qN n k hk))|exact cm (VW.refl (QF qN n.aA k hk))|(have h9:i<m:=(by have h9:=aS (aj:decide ((i:Int)<(m:Int))=true);omega);have q:=Uo n i;first|omega|(rw[Zz,dF h];first|(rw[bW];rfl)|(have hk:k<1:=hk;refine cm (oq (C:=λn _=>iD n) (z:=0) (b:=[(i:Int)]) rfl hj fr (λj hj=>?_));obtain rfl:j=0:=Nat.lt_one_iff.1 hj;rcases k with _|k;exact qV;omega))|(rw[Zz,bz h,pG];first|done|exact cm qV))
theorem VF(n:az)(k dst:Int):ae 58 [.ptr 0 0,iV k,iV dst] (NS n) (λrv rt=>rv=(jy (rH n k dst))/\rt=(NS n)):=by
 refine asz Tryz.func58 λX=>?_
 (repeat' (first|refine oz ?_|refine asD 1 [18] [o0,o0,o0,o0,o0,o0,o0,o0,o0,o0,o0,o0,o0,o0,o0,o0,o0,o0,o1] ?_|refine mc ?_ ?_|refine ag.a ?_|refine asY qN (asK (by repeat' (first|exact tv|exact qV|exact asQ rfl|refine an ?_ ?_))) ?_))<;>(try(refine dh.mk ?_;repeat' (first|exact tv|exact rfl|refine an ?_ ?_|refine ag.mk ?_ ?_)))
 all_goals try exact aB
def MM{t:ST}(X1:Cx t)(l:Nat)(enc:V)(t1 t2:ST):Prop:=
 ∀(G:Gh) (w:World) (u:Value),bV G t1 w->Stp X1.G t.get X1.w G t1.get w->aO G t1.get w enc u ->
  YieldAt Fence.wide 0 Tryz.prog l #[u] w λe w'=>e = .returned (.bool true)/\∃ G',bV G' t2 w'/\Stp G t1.get w G' t2.get w'
theorem aiu{t t1:ST}(X1:Cx t){s sA sE:AS}{a:Act}{r:Loop}{p l:Nat}{enc:V}(hst:s.s=t)(hs:oG X1.G s a X1.w)(hp:p<s.nt)(hl:X1.w.heap[l]?=some (.loop r))(hF:¬X1.G.F l)(hO:∀ i,¬dA X1.G t.get i l)
  (hr:r.state = .ready) (hpe:r.pending=none) (htm:r.tmps=a.tmps) (afy:r.params=#[p])
  (hass:∀ X2:Cx t1,X2.ds=[]->TR X2 l r.assign (λe s'=>e = .normal/\aV t1.nx s' sA) ⟨s.nt,(p,enc)::s.sl,t1⟩)
  (hbody:∀ X3:Cx sA.s,X3.ds=[]->TR X3 l r.body (λe s'=>e = .normal/\aV sA.s.nx s' sE) sA):MM X1 l enc t1 sE.s:=by
 intro G w u hg hx hu;have hlt1:l<X1.w.heap.size:=(Array.getElem?_eq_some_iff.1 hl).1;have Zk:w.heap[l]?=some (.loop r):=(hx.keep l hlt1 hO).trans hl;have hlt:l<w.heap.size:=(Array.getElem?_eq_some_iff.1 Zk).1;have hFw:¬G.F l:=λh=>by
  rcases hx.F2 l h with h|h
  ·exact hF h
  ·omega
 have hOw:∀ i,¬dA G t1.get i l:=λi h=>by
  rcases hx.own i l h with h|h
  ·exact hO i h
  ·omega
 have hy:=run_yield (P:=Tryz.prog) (args:=#[u]) Zk (by rw[afy];rfl);have aqh:((r.params.zip #[u]).foldl (λtmps (t,a)=>tmps.setIfInBounds t a) r.tmps)=a.tmps.setIfInBounds p u:=by
  rw[afy,htm];simp
 rw[aqh]at hy;refine⟨r.fn,_,r.assign,r.body,hy,roundIn_of_wpIn trivial ?_⟩
 let X2:Cx t1:=⟨G,w,hg,[]⟩
 have hm2:Mod X2 ⟨s.nt,(p,enc)::s.sl,t1⟩ { tmps:=a.tmps.setIfInBounds p u,defers:=[] } w:=by
  refine⟨G,hg,⟨⟨?_,λj=>?_⟩,rfl⟩,Stp.refl _ _ _⟩
  ·show(a.tmps.setIfInBounds p u).size=s.nt;rw[Array.size_setIfInBounds];exact hs.nt
  ·show aO G t1.get w (bif Nat.beq p j then enc else dG s.sl j) ((a.tmps.setIfInBounds p u).getD j undef);by_cases e:p=j
   ·subst e;rw[Nat.beq_refl,dR];rw[show(a.tmps.setIfInBounds p u).getD p undef=u by
     rw[uy,Array.getElem?_setIfInBounds_self,if_pos (by rw[hs.nt];exact hp)];rfl]
    exact hu
   ·rw[show Nat.beq p j=false by rcases hb:Nat.beq p j with _|_;rfl;exact au (dH hb) e,di];rw[show(a.tmps.setIfInBounds p u).getD j undef=a.tmps.getD j undef by
     rw[uy,Array.getElem?_setIfInBounds_ne e,<-uy]]
    have h1:=hs.sl j;rw[hst]at h1;exact h1.dS hx X1.hg.aK
 refine wpIn_mono ((hass X2 rfl).h _ w hm2) ?_;rintro e a3 w3 ⟨s',⟨rfl,hle⟩,Zj⟩;obtain⟨Ga,hga,hsa,hxa⟩:=Zj.le hle;have hl3:w3.heap[l]?=some (.loop r):=(hxa.keep l hlt hOw).trans Zk;have hlt3:l<w3.heap.size:=(Array.getElem?_eq_some_iff.1 hl3).1;have Zo:¬Ga.F l:=λh=>by
  rcases hxa.F2 l h with h|h
  ·exact hFw h
  ·exact au hlt (Nat.not_lt.2 h)
 have Zn:∀ i,¬dA Ga sA.s.get i l:=λi h=>by
  rcases hxa.own i l h with h|h
  ·exact hOw i h
  ·exact au hlt (Nat.not_lt.2 h)
 refine⟨_,run_beginRound hl3 hr,?_⟩
 let X3:Cx sA.s:=⟨Ga,w3.putObj l (.loop { r with state:=.busy }),hga.putObj Zo Zn,[]⟩
 have hsz:(w3.putObj l (.loop { r with state:=.busy })).heap.size=w3.heap.size:=by simp[World.putObj]
 have hm4:Mod X3 sA a3 (w3.putObj l (.loop { r with state:=.busy })):=by
  refine⟨Ga,X3.hg,⟨⟨hsa.nt,λj=>?_⟩,hsa.df⟩,Stp.refl _ _ _⟩;exact aO.side (by rw[hsz];exact bu _) (λb hb _=>World.putObj_heap_other (λ(e:b=l)=>Zo (e▸hb))) (hsa.sl j)
 refine wpIn_mono ((hbody X3 rfl).h a3 _ hm4) ?_;rintro e a4 w4 ⟨s4,⟨rfl,arS⟩,AL⟩;obtain⟨G4,hg4,hs4,hx4⟩:=AL.le arS;have hl4:w4.heap[l]?=some (.loop { r with state:=.busy }):=(hx4.keep l (by rw[hsz];exact hlt3) Zn).trans (World.putObj_heap_same hlt3);have hF4:¬G4.F l:=λh=>by
  rcases hx4.F2 l h with h|h
  ·exact Zo h
  ·exact au hlt3 (Nat.not_lt.2 (hsz▸h))
 have hO4:∀ i,¬dA G4 sE.s.get i l:=λi h=>by
  rcases hx4.own i l h with h|h
  ·exact Zn i h
  ·exact au hlt3 (Nat.not_lt.2 (hsz▸h))
 have hre:(({ ({ r with state:=.busy }:Loop) with state:=if (none:Option Code).isNone then .ready else .done,pending:=none }):Loop)=r:=by
  obtain⟨q1,q2,q3,q4,q5,q6,q7,q8⟩:=r;simp only at hr hpe;subst hr hpe;rfl
 have hend:=run_endRound (P:=Tryz.prog) none hl4;rw[hre]at hend;exact⟨_,_,hend,rfl,G4,hg4.putObj hF4 hO4,hxa.trans (Stp.round hl3 hx4)⟩
section
def JP:List Oper->Bool
 |[]=>true
 |o::r=>o.guard.isNone&&(match o.op with|.defer _=>false|_=>true)&&JP r
theorem QZ:∀ {l:List Oper},JP l=true->∀ o∈l,o.guard=none/\∀ c,o.op ≠ .defer c
 |[],_,o,ho=>by cases ho
 |x::r,h,o,ho=>by
  have h:=Bool.and_eq_true_iff.1 (show(_&&JP r)=true from h);have h2:=Bool.and_eq_true_iff.1 h.1;rcases List.mem_cons.1 ho with rfl|ho
  ·refine⟨Option.isNone_iff_eq_none.1 h2.1,λc e=>?_⟩;have h1:=h2.2;rw[e]at h1;cases h1
  ·exact QZ h.2 o ho
theorem En{t:ST}{X:Cx t}{K0:AS->Prop}{n:Nat}{o:Oper}{a:Act}{w:World}{K K':Act->World->Prop}{Q':Exit->Act->World->Prop}(h:o.wp Tryz.prog a w K (QN X K0))(hk:∀ a w,K a w->K' a w):o.wpIn Fence.wide n Tryz.prog a w K' Q':=by
 refine⟨λf _=>trivial,?_⟩;rw[show Fence.wide.round=none from rfl,Oper.semAt_none];unfold Oper.wp at h;generalize (execOp a.eval o).run Tryz.prog w=r at h ⊢;cases r with
 |ok x w'=>
  cases x with
  |value v=>exact hk _ _ h
  |skip=>exact hk _ _ h
  |defer d=>exact hk _ _ h
  |enter f args=>
   refine⟨λe=>(by cases e),callsIn_wide.2 (h.mono λe w'' he=>?_)⟩;cases e with
   |returned v=>exact hk _ _ he
   |panicked ch=>exact au he.1 (by intro e;cases e)
   |outgrown=>
    obtain⟨a0,w0,he⟩:=he;exact au he.1 (by intro e;cases e)
  |row q args=>exact⟨λe=>(by cases e),λc cs _=>let ⟨v,w',r,s⟩:=h c cs;⟨v,w',hk _ _ r,stepsIn_wide.2 s⟩⟩
  |_=>exact h.elim
 |halt x w'=>
  cases x with
  |panic v=>exact au h.1 (by intro e;cases e)
  |_=>exact h.elim
section
variable {t:ST} {X:Cx t} {Q:Exit->AS->Prop} {s sY:AS}
theorem aox{ops NM:Array Oper}{K:AS->Prop}{n:Nat}{Q':Exit->Act->World->Prop}{L2:List Nat}(hQ:∀ a w,(∃ s',K s'/\Mod X s' a w)->wpOpsIn Fence.wide n Tryz.prog ops Q' L2 a w) :
  ∀(L:List Nat) (a:Act) (w:World),(∀ i∈L,∃ o,NM[i]?=some o/\ops[i]?=some o/\o.guard=none)->wpOps Tryz.prog NM (QN X K) L a w->wpOpsIn Fence.wide n Tryz.prog ops Q' (L++L2) a w:=by
 intro L;induction L with
 |nil=>intro a w _ h;obtain⟨_,s',h1,h2⟩:=h;exact hQ a w ⟨s',h1,h2⟩
 |cons i L ih=>
  intro a w hL h;obtain⟨o,h1,h2,h3⟩:=hL i (jC ..);have hL':=λj hj=>hL j (je _ hj)
  unfold wpOps at h;rw[h1]at h;simp only at h;rw[if_pos (by unfold Region.wanted;rw[h3])]at h;rw[List.cons_append];unfold wpOpsIn;rw[h2];simp only;rw[if_pos (by unfold Region.wanted;rw[h3])];rcases h with h|⟨_,a0,w0,h⟩
  ·exact En h (λa w h=>ih a w hL' h)
  ·exact au h.1 (by intro e;cases e)
theorem auk{id l f x d:Nat}{ops:Array Oper}{pre:List Oper}{oc on:Oper}{ty:Array TypeId}{enc:V}{t1 t2:ST}(hY:MM X l enc t1 t2)(hops:ops.toList=pre++[oc,on])(OD:JP (pre++[oc,on])=true)
  (hoc:oc.op = .call { callee:=.value (.tmp f),args:=#[.tmp x],argTypes:=ty }) (hd:oc.dst=some d) (h1:tX ae pre pre s (λs5=>aV t.nx s5 sY)) (hs1:sY.s=t1) (hf:dG sY.sl f = .d (.v (.func (.yield l) #[] #[]))) (hx:dG sY.sl x=enc)
  (iC:sY.fits (some d)=true) (h2:tX ae [on] [on] ⟨sY.nt,(d,.b true)::sY.sl,t2⟩ (Q .normal)):T X (.region id ops false) Q s:=T.mk λa w hm=>by
 have hgd:=QZ OD;have hsz:ops.size=pre.length+2:=by rw[<-qX,hops];simp
 refine(wpIn_wide (n:=1)).1 (wpIn_region ?_);have hpre:=AY (X:=X) pre.toArray pre 0 rfl s a w _ (by simpa using h1) hm;rw[hsz,List.range_eq_range',<-List.range'_append_1];refine aox (K:=λs5=>aV t.nx s5 sY) ?_ _ a w (λi hi=>?_) hpre
 ·rintro a5 w5 ⟨s5,hle,AL⟩;obtain⟨G5,hg5,hs5,hx5⟩:=AL.le hle;have e1:ops[pre.length]?=some oc:=by rw[<-qE,hops];simp
  have e2:ops[pre.length+1]?=some on:=by rw[<-qE,hops];simp
  rw[show List.range' (0+pre.length) 2=[pre.length,pre.length+1] by rw[jm];rfl];unfold wpOpsIn;rw[e1];simp only;rw[if_pos (by unfold Region.wanted;rw[(hgd oc (by simp)).1])];refine⟨λf _=>trivial,?_⟩;rw[show Fence.wide.round=none from rfl,Oper.semAt_none];have TV:=hs5.sl f;rw[hf]at TV;have TV:a5.eval (.tmp f) = .func (.yield l) #[] #[]:=TV;have hvx:=hs5.sl x;rw[hx,hs1]at hvx;rw[hs1]at hg5 hx5;obtain⟨fn,tmps,assign,body,hy,hR⟩:=hY G5 w5 (a5.eval (.tmp x)) hg5 hx5 hvx;have hrun:(execOp a5.eval oc).run Tryz.prog w5 = .ok (.round l fn tmps assign body) w5:=by
   unfold execOp;simp only[hoc,resolve,TV,Deferred.ofValue,Sem.run_bind,Sem.run_pure,Result.andThen_ok,invoke];simpa using hy
  rw[hrun];refine⟨λe=>(by cases e),hR.mono λe w6 he=>?_⟩;obtain⟨rfl,G6,OE,hx6⟩:=he;have Zi:Mod X ⟨sY.nt,(d,.b true)::sY.sl,t2⟩ (a5.put oc.dst (.bool true)) w6:=by
   have hsl:Ud X.ds G5 ⟨sY.nt,sY.sl,t1⟩ a5 w5:=⟨⟨hs5.nt,λj=>by have:=hs5.sl j;rw[hs1]at this;exact this⟩,hs5.df⟩;have:=LK (X:=X) (s:=⟨sY.nt,sY.sl,t1⟩) (d:=oc.dst) (v:=.bool true) (x:=.b true) hx5 hsl hg5.aK OE hx6 (by rw[hd];exact iC) rfl;rw[hd]at this ⊢;exact this
  unfold wpOpsIn;rw[e2];simp only;rw[if_pos (by unfold Region.wanted;rw[(hgd on (by simp)).1])];have hlast:=AY (X:=X) #[on] [on] 0 rfl _ _ w6 _ h2 Zi;have pq:wpOps Tryz.prog #[on] (QN X (Q .normal)) [0] (a5.put oc.dst (.bool true)) w6:=hlast;unfold wpOps at pq;rw[show(#[on]:Array Oper)[0]?=some on from rfl]at pq;simp only at pq;rw[if_pos (by unfold Region.wanted;rw[(hgd on (by simp)).1])]at pq;rcases pq with pq|⟨_,a0,w0,pq⟩
  ·refine En pq (λa w h=>?_);unfold wpOpsIn;obtain⟨_,s',q1,q2⟩:=h;exact⟨s',q1,q2⟩
  ·exact au pq.1 (by intro e;cases e)
 ·have hi:=List.mem_range'_1.1 hi;have hlt:i<pre.length:=qO;refine⟨pre[i],by simp[hlt],?_,(hgd _ (List.mem_append_left _ (List.getElem_mem hlt))).1⟩;rw[<-qE,hops,mO hlt,dW hlt]
end
end
section
theorem TD{t:ST}{X:Cx t}{K0:AS->Prop}{o:Oper}{a:Act}{w:World}{K K':Act->World->Prop}{Q':Exit->Act->World->Prop}(h:o.wp Tryz.prog a w K (QN X K0))(hk:∀ a w,K a w->K' a w):o.wp Tryz.prog a w K' Q':=by
 unfold Oper.wp at h ⊢;generalize (execOp a.eval o).run Tryz.prog w=r at h ⊢;cases r with
 |ok x w'=>
  cases x with
  |value v=>exact hk _ _ h
  |skip=>exact hk _ _ h
  |defer d=>exact hk _ _ h
  |enter f args=>
   refine Calls.mono (show Calls _ _ _ _ _ from h) λe w'' he=>?_
   cases e with
   |returned v=>exact hk _ _ he
   |panicked ch=>exact au he.1 (by intro e;cases e)
   |outgrown=>
    obtain⟨a0,w0,he⟩:=he;exact au he.1 (by intro e;cases e)
  |row q args=>exact λc cs=>let ⟨v,w',r,s⟩:=h c cs;⟨v,w',hk _ _ r,s⟩
  |_=>exact h.elim
 |halt x w'=>
  cases x with
  |panic v=>exact au h.1 (by intro e;cases e)
  |_=>exact h.elim
section
variable {t:ST} {X:Cx t} {Q:Exit->AS->Prop} {s s1 s2 s3:AS}
structure Conv {t:ST} (X:Cx t) (s s':AS):Prop where
 c:∀ a w,Mod X s a w->Mod X s' a w
theorem Conv.trans(h:Conv X s1 s2)(k:Conv X s2 s3):Conv X s1 s3:=⟨λa w hm=>k.c a w (h.c a w hm)⟩
theorem Conv.le(hl:aV t.nx s1 s2):Conv X s1 s2:=⟨λa w hm=>hm.le hl⟩
theorem Conv.dC{i E z n:Nat}{g:Nat->Nat->V}{h:Nat->Nat->D}(hf:jB X s.s i E z n g h):Conv X s (JW i n z h s):=⟨λa w hm=>by
 obtain⟨G,hg,hs,hx⟩:=hm;refine⟨G.dC s.s.get i,VL hf hg,⟨⟨hs.nt,λj=>?_⟩,hs.df⟩,WN hf hx⟩;rw[show dG (JW i n z h s).sl j=jl i n z h (dG s.sl j) from VK s.sl j];exact GZ hf hg.aK (hs.sl j)⟩
theorem Wv{ops NM:Array Oper}{K:AS->Prop}{Q':Exit->Act->World->Prop}{L2:List Nat}(hQ:∀ a w,(∃ s',K s'/\Mod X s' a w)->wpOps Tryz.prog ops Q' L2 a w) :
  ∀(L:List Nat) (a:Act) (w:World),(∀ i∈L,∃ o,NM[i]?=some o/\ops[i]?=some o/\o.guard=none)->wpOps Tryz.prog NM (QN X K) L a w->wpOps Tryz.prog ops Q' (L++L2) a w:=by
 intro L;induction L with
 |nil=>intro a w _ h;obtain⟨_,s',h1,h2⟩:=h;exact hQ a w ⟨s',h1,h2⟩
 |cons i L ih=>
  intro a w hL h;obtain⟨o,h1,h2,h3⟩:=hL i (jC ..);have hL':=λj hj=>hL j (je _ hj)
  unfold wpOps at h;rw[h1]at h;simp only at h;rw[if_pos (by unfold Region.wanted;rw[h3])]at h;rw[List.cons_append];unfold wpOps;rw[h2];simp only;rw[if_pos (by unfold Region.wanted;rw[h3])];rcases h with h|⟨_,a0,w0,h⟩
  ·exact .inl (TD h (λa w h=>ih a w hL' h))
  ·exact au h.1 (by intro e;cases e)
theorem abA{ops S9:Array Oper}{K:AS->Prop}{Q':Exit->Act->World->Prop}{d:Nat}(hQ:∀ a w,(∃ s',K s'/\Mod X s' a w)->Q' .normal a w)(hd:∀ i,i<S9.size->∃ o,S9[i]?=some o/\ops[d+i]?=some o/\o.guard=none) :
  ∀(L:List Nat) (a:Act) (w:World),(∀ i∈L,i<S9.size)->wpOps Tryz.prog S9 (QN X K) L a w->wpOps Tryz.prog ops Q' (L.map (d + ·)) a w:=by
 intro L;induction L with
 |nil=>intro a w _ h;obtain⟨_,s',h1,h2⟩:=h;exact hQ a w ⟨s',h1,h2⟩
 |cons i L ih=>
  intro a w hL h;obtain⟨o,h1,h2,h3⟩:=hd i (hL i (jC ..));have hL':=λj hj=>hL j (je _ hj)
  unfold wpOps at h;rw[h1]at h;simp only at h;rw[if_pos (by unfold Region.wanted;rw[h3])]at h;rw[List.map_cons];unfold wpOps;rw[h2];simp only;rw[if_pos (by unfold Region.wanted;rw[h3])];rcases h with h|⟨_,a0,w0,h⟩
  ·exact .inl (TD h (λa w h=>ih a w hL' h))
  ·exact au h.1 (by intro e;cases e)
theorem att{id:Nat}{ops:Array Oper}{pre vH:List Oper}(hops:ops.toList=pre++vH)(OD:JP (pre++vH)=true)(h:tX ae pre pre s (λs5=>∃ s6,Conv X s5 s6/\tX ae vH vH s6 (Q .normal))):T X (.region id ops false) Q s:=T.mk λa w hm=>by
 have hgd:=QZ OD;have hsz:ops.size=pre.length+vH.length:=by rw[<-qX,hops];simp
 refine wp_region ?_;have hpre:=AY (X:=X) pre.toArray pre 0 rfl s a w _ (by simpa using h) hm;rw[hsz,List.range_eq_range',<-List.range'_append_1];refine Wv (K:=λs5=>∃ s6,Conv X s5 s6/\tX ae vH vH s6 (Q .normal)) ?_ _ a w (λi hi=>?_) hpre
 ·rintro a5 w5 ⟨s5,⟨s6,hc,h2⟩,AL⟩;have YD:=AY (X:=X) vH.toArray vH 0 rfl s6 a5 w5 _ (by simpa using h2) (hc.c _ _ AL);have:=abA (X:=X) (K:=Q .normal) (Q':=λe a' w'=>∃ s',Q e s'/\Mod X s' a' w') (ops:=ops) (d:=0+pre.length) (λa w h=>h) (λi hi=>?_) _ a5 w5 (λi hi=>?_) YD
  ·rw[List.map_add_range']at this;simpa using this
  ·have hi:i<vH.length:=by simpa using hi
   refine⟨vH[i],by simp[hi],?_,(hgd _ (List.mem_append_right _ (List.getElem_mem hi))).1⟩;rw[<-qE,hops,jm,oW (Nat.le_add_right _ _),Nat.add_sub_cancel_left,dW hi]
  ·have:=List.mem_range'_1.1 hi;simpa using this
 ·have hi:=List.mem_range'_1.1 hi;have hlt:i<pre.length:=qO;refine⟨pre[i],by simp[hlt],?_,(hgd _ (List.mem_append_left _ (List.getElem_mem hlt))).1⟩;rw[<-qE,hops,mO hlt,dW hlt]
theorem atH{id:Nat}{ops:Array Oper}{pre rest:List Oper}{o:Oper}(V:V)(hops:ops.toList=pre++o::rest)(OD:JP (pre++o::rest)=true)(h:tX ae pre pre s (λs5=>s5.fits o.dst=true/\(∀ G a w,bV G s5.s w->oG G s5 a w->eu o a G s5.s w (λv t=>v=V/\t=s5.s))/\tX ae rest rest (s5.put o.dst V s5.s) (Q .normal))):T X (.region id ops false) Q s:=T.mk λa w hm=>by
 have hgd:=QZ OD;have hsz:ops.size=pre.length+(1+rest.length):=by rw[<-qX,hops];simp;omega
 refine wp_region ?_;have hpre:=AY (X:=X) pre.toArray pre 0 rfl s a w _ (by simpa using h) hm;rw[hsz,List.range_eq_range',<-List.range'_append_1];refine Wv (K:=λs5=>s5.fits o.dst=true/\(∀ G a w,bV G s5.s w->oG G s5 a w->eu o a G s5.s w (λv t=>v=V/\t=s5.s))/\tX ae rest rest (s5.put o.dst V s5.s) (Q .normal)) ?_ _ a w (λi hi=>?_) hpre
 ·rintro a5 w5 ⟨s5,⟨iC,hres,h2⟩,AL⟩;rw[Nat.add_comm 1,List.range'_succ];have e1:ops[0+pre.length]?=some o:=by rw[<-qE,hops];simp
  unfold wpOps;rw[e1];simp only;rw[if_pos (by unfold Region.wanted;rw[(hgd o (by simp)).1])];obtain⟨G,hg,hs,hx⟩:=AL;refine .inl (yF ((hres G a5 w5 hg hs.tooG).step hx hs hg iC) (λa' w' hh=>?_) (λ_ _ _ h=>h.elim));obtain⟨x,t',⟨rfl,rfl⟩,hm'⟩:=hh;have YD:=AY (X:=X) rest.toArray rest 0 rfl _ a' w' _ (by simpa using h2) hm';have:=abA (X:=X) (K:=Q .normal) (Q':=λe a' w'=>∃ s',Q e s'/\Mod X s' a' w') (ops:=ops) (d:=0+pre.length+1) (λa w h=>h) (λi hi=>?_) _ a' w' (λi hi=>?_) YD
  ·rw[List.map_add_range']at this;simpa using this
  ·have hi:i<rest.length:=by simpa using hi
   refine⟨rest[i],by simp[hi],?_,(hgd _ (List.mem_append_right _ (je _ (List.getElem_mem hi)))).1⟩;rw[<-qE,hops,oW qO,show 0+pre.length+1+i-pre.length=i+1 by omega,List.getElem?_cons_succ,dW hi]
  ·have:=List.mem_range'_1.1 hi;simpa using this
 ·have hi:=List.mem_range'_1.1 hi;have hlt:i<pre.length:=qO;refine⟨pre[i],by simp[hlt],?_,(hgd _ (List.mem_append_left _ (List.getElem_mem hlt))).1⟩;rw[<-qE,hops,mO hlt,dW hlt]
end
end
theorem aho{l:List Int}{i:Nat}:l.tail.getD i 0=l.getD (i+1) 0:=by cases l <;> rfl
theorem ap8(l:List Int)(h0:1<=l.length)(hn:l.length<=100000):aQ 191 [.d (iH l)] (iV (afs l)):=by
 refine asz Tryz.func191 λX=>?_
 (repeat' (first|refine oz ?_|refine ai.n (λh=>?_)|refine asI (l.length-1) (λi (a:Int)=>⟨25,[(0,.d (iH l)),(3,iV a),(4,iV (i+1:Nat))],e0⟩) (λi a=>a=(l.tail.take i).foldl min (l.getD 0 0)) (l.getD 0 0) ?_ ?_ (λi a hi hp=>?_)|refine aU (min a (l.getD (i+1) 0)) ⟨?_,?_,?_⟩|refine ai.mk (λh=>?_) (λh=>?_)|refine ag.a ?_|refine Fin.tell (vq (gz iV ?_) tv)|refine ag.mk ?_ ?_))<;>try exact aB
 all_goals first|exact uN|(have h9:i<l.tail.length:=(by(try simp only[fC,fQ]at *);rw[List.length_tail];omega);rw[hp,Io _ _ 0 h9,aho])|(have h9:=bJ h;have e:i=l.tail.length:=(by rw[List.length_tail];omega);rw[hp,e,oJ];rfl)
theorem anR(l:List Int)(hn:l.length<=100000):aQ 147 [.d (iH l)] (iV (Rf l)):=by
 refine asz Tryz.func147 λX=>?_
 (repeat' (first|refine oz ?_|refine aU _ (ed (λht=>ae.tell (agt l hn) ⟨VW.refl tv,asJ trivial,tv⟩ ⟨rfl,rfl⟩) ?_)|refine asA (ap8 l (by have:=(ae7 ‹_›).1;omega) hn) ?_|refine ai.mk (λh=>?_) (λh=>?_)|refine ag.a ?_|refine Fin.tell (vq (gz iV ?_) tv)))<;>try exact aB
 all_goals first|exact(dF h).symm|exact(bz h).symm
theorem al9(v:Int)(l:List Int)(hn:l.length<=100000):aQ 98 [iV v,.d (iH l)] (.b (zS v l)):=by
 refine asz Tryz.func98 λX=>?_
 (repeat' (first|refine oz ?_|refine aU _ (ed (λht=>ae.tell (anR l hn) vw ⟨rfl,rfl⟩) ?_)|refine ag.a ?_|refine Fin.tell (vq (gz V.b ?_) tv)))<;>try exact aB
theorem Dq(x:aP)(hx:CE x.l):aQ 96 [jy x] (jy x):=by
 refine asz Tryz.func96 λX=>?_
 (repeat' (first|refine oz ?_|refine asA (Vd x.l hx) ?_|refine ag.a ?_|refine Fin.tell (asK vw)))<;>try exact aB
theorem aje{t t1 t3:ST}{s sA sE:AS}{a:Act}{w:World}{G:Gh}{p:Nat}{g:Operand}{assign body:Code}{YR:Exit->Act->World->Prop}{gf n:Nat}{jX:Nat->V}{uQ:Func}{cG:Code}{enc:V}
  (hst:s.s=t) (hg:bV G t w) (hs:oG G s a w) (hev:s.ev g = .fn gf 0 n jX) (hp:p<s.nt) (hf:Tryz.prog.funcs[gf]?=some uQ) (hb:uQ.body=some cG) (hname:(uQ.name == "runtime.NumGoroutine")=false) (hn:n+1<=uQ.ntmps)
  (hit:∀(X1:Cx t) (l:Nat),X1.ds=[]->MM X1 l enc t1 sE.s->T X1 cG (BU uQ X1 (λv t'=>v=V.top/\t'=t3)) ⟨uQ.ntmps,pO (.d (.v (.func (.yield l) #[] #[]))::(List.range n).map jX),t⟩)
  (hass:∀(l:Nat) (X2:Cx t1),X2.ds=[]->TR X2 l assign (λe s'=>e = .normal/\aV t1.nx s' sA) ⟨s.nt,(p,enc)::s.sl,t1⟩)
  (hbody:∀(l:Nat) (X3:Cx sA.s),X3.ds=[]->TR X3 l body (λe s'=>e = .normal/\aV sA.s.nx s' sE) sA)
  (hdone:∀(G3:Gh) (w3:World) (D:Nat),bV G3 t3 w3->Stp G t.get w G3 t3.get w3->w3.heap[D]?=some (.deferred (some []))->w.heap.size<=D->¬G3.F D->(∀ i,¬dA G3 t3.get i D)->YR .normal { a with defers:={ target:=.collected D,args:=#[] }::a.defers } w3) :
  (Code.rangeFunc g #[p] assign body).wp Tryz.prog YR a w:=by
 refine(wpIn_wide (n:=1)).1 (wpIn_rangeFunc ?_);intro fn _;have hgv:=hs.ev g;rw[hev]at hgv;obtain⟨fs,cs,hgv,hfs,hcs,hcv⟩:=hgv;obtain rfl:=Array.eq_empty_of_size_eq_zero hfs;have hcs:cs.size=n:=by simpa using hcs
 obtain⟨rec,hrec⟩:∃ rec:Loop,rec={ state:=.ready,pending:=none,fn,tmps:=a.tmps,params:=#[p],assign,body,defers:=w.heap.size }:=⟨_,rfl⟩;obtain⟨w1,hw1⟩:∃ w1,(w.alloc (.deferred (some []))).alloc (.loop rec)=w1:=⟨_,rfl⟩;have hg1:bV G t w1:=by rw[<-hw1];exact hg.alloc.alloc
 have AB:Stp G t.get w G t.get w1:=by rw[<-hw1];exact(Stp.alloc _).trans (Stp.alloc _)
 have hl1:w1.heap[w.heap.size+1]?=some (.loop rec):=by
  rw[<-hw1];have:=World.alloc_heap_new (w.alloc (.deferred (some []))) (.loop rec);rwa [World.size_alloc]at this
 have Ic:w1.heap[w.heap.size]?=some (.deferred (some [])):=by
  rw[<-hw1];exact(Below.heap_alloc _ _ _ (by simp)).trans (World.alloc_heap_new w _)
 have hbig:∀ k,w.heap.size<=k->¬G.F k/\∀ i,¬dA G t.get i k:=λk hk=>⟨λh=>by have:=hg.aK.vK k h;omega,λi h=>by have:=hg.aK.lt h;omega⟩
 let X1:Cx t:=⟨G,w1,hg1,[]⟩
 have hs1:oG X1.G s a X1.w:=⟨hs.nt,λj=>by
  have h1:=hs.sl j;rw[hst]at h1 ⊢;exact h1.dS AB hg.aK⟩
 have YH:wB gf:=by
  unfold wB;rw[hf,pF,hb,hname];rfl
 have hY:MM X1 (w.heap.size+1) enc t1 sE.s:=aiu X1 (r:=rec) hst hs1 hp hl1 (hbig _ qO).1 (hbig _ qO).2 (by rw[hrec]) (by rw[hrec]) (by rw[hrec]) (by rw[hrec]) (by rw[hrec];exact hass _) (by rw[hrec];exact hbody _);refine⟨w.heap.size+1,[{ target:=.collected w.heap.size,args:=#[] }],w1,{ target:=.fn (.func gf) cs,args:=#[.func (.yield (w.heap.size+1)) #[] #[]] },w1,gf,
  #[.func (.yield (w.heap.size+1)) #[] #[]]++cs,w1,?_,?_,λ_ _=>trivial,?_,λe=>(by cases e),callsIn_wide.2 (calls_of_wp hf hb ?_)⟩
 ·rw[<-hw1,hrec];exact run_enterLoop_outer _ _ _ _ _
 ·simp only[resolve,hgv];simp[go_sem]
 ·simp[invoke,go_sem,Ug YH]
 have hm:Mod X1 ⟨uQ.ntmps,pO (.d (.v (.func (.yield (w.heap.size+1)) #[] #[]))::(List.range n).map jX),t⟩ { tmps:=(#[Value.func (.yield (w.heap.size+1)) #[] #[]]++cs)++Array.replicate (uQ.ntmps-(#[Value.func (.yield (w.heap.size+1)) #[] #[]]++cs).size) undef,defers:=[] } w1:=by
  refine⟨G,hg1,⟨⟨by simp[hcs];omega,λj=>?_⟩,rfl⟩,Stp.refl _ _ _⟩;show aO G t.get w1 (dG (pO _) j) _;unfold pO;rw[Iz _ 0 j,if_pos (cu _),Nat.sub_zero,bC];rcases j with _|j
  ·show aO G t.get w1 (.d (.v (.func (.yield (w.heap.size+1)) #[] #[]))) _;rw[uy,Array.getElem?_append_left (by simp;omega),Array.getElem?_append_left (by simp)];exact rfl
  ·rw[List.getElem?_cons_succ,qY];by_cases hj:j<n
   ·rw[List.getElem?_range hj];show aO G t.get w1 (jX j) _;rw[uy,Array.getElem?_append_left (by simp;omega),Array.getElem?_append_right (by simp)];have e:cs[j]?=some cs[j]:=uU qO;have h2:=hcv j cs[j] (by simp);rw[show j+1-(#[.func (.yield (w.heap.size+1)) #[] #[]]:Array Value).size=j by simp,e];rw[hst]at h2;exact h2.dS AB hg.aK
   ·rw[List.getElem?_eq_none (by simp;omega)];exact trivial
 refine wp_mono ((hit X1 _ rfl hY).h _ w1 hm) λe a' w' hh=>?_
 obtain⟨s',hq,hm'⟩:=hh;have hd:a'.defers=[]:=by obtain⟨_,_,hs,_⟩:=hm';exact hs.df
 have fin:∀ v:Value,(∃ W t' G',(W=V.top/\t'=t3)/\bV G' t' w'/\Stp X1.G t.get X1.w G' t'.get w'/\aO G' t'.get w' W v)->rangePost Fence.wide 1 Tryz.prog (w.heap.size+1) YR { a with defers:=[{ target:=.collected w.heap.size,args:=#[] }]++a.defers } (.returned v) w':=by
  rintro v ⟨W,t',G',⟨_,rfl⟩,h3,h4,_⟩;have hlt1:w.heap.size+1<w1.heap.size:=(Array.getElem?_eq_some_iff.1 hl1).1;have hl3:w'.heap[w.heap.size+1]?=some (.loop rec):=(h4.keep _ hlt1 (hbig _ qO).2).trans hl1;have hd3:w'.heap[w.heap.size]?=some (.deferred (some [])):=(h4.keep _ (by show w.heap.size<w1.heap.size;omega) (hbig _ (bu _)).2).trans Ic;have hF3:∀ k,w.heap.size<=k->k<=w.heap.size+1->¬G'.F k/\∀ i,¬dA G' t'.get i k:=λk hk hk2=>⟨λh=>by
   rcases h4.F2 k h with h|h
   ·exact(hbig k hk).1 h
   ·have h:w1.heap.size<=k:=h;omega,λi h=>by
   rcases h4.own i k h with h|h
   ·exact(hbig k hk).2 i h
   ·have h:w1.heap.size<=k:=h;omega⟩
  have hend:=run_endLoop (P:=Tryz.prog) hl3 (by rw[hrec];simp);refine⟨_,_,hend,?_⟩;rw[show rec.pending=none by rw[hrec]];exact hdone G' _ w.heap.size (h3.putObj (hF3 _ qO (bu _)).1 (hF3 _ qO (bu _)).2) ((AB.trans h4).putObj _ qO) ((World.putObj_heap_other qO).trans hd3) (bu _) (hF3 _ (bu _) qO).1 (hF3 _ (bu _) qO).2
 cases e with
 |ret=>
  obtain⟨v,h1,V,t',G',h2,h3,h4,h5⟩:=Ew hq hm';exact⟨hd,v,h1,fin v ⟨V,t',G',h2,h3,h4,h5⟩⟩
 |normal=>
  obtain⟨v,h1,V,t',G',h2,h3,h4,h5⟩:=Ew hq hm';exact⟨hd,v,h1,fin v ⟨V,t',G',h2,h3,h4,h5⟩⟩
 |exit i=>exact hq.elim
 |goto l=>exact hq.elim
 |panic c=>exact hq.elim
 |outgrown=>exact hq.elim
def yx(K:AS->Prop):Exit->AS->Prop:=λe s=>e = .normal/\K s
theorem Ji{K:AS->Prop}{s:AS}(h:K s):yx K .normal s:=⟨rfl,h⟩
theorem aug{f:Nat}{fn:Func}{c0 c1 c2 c3 rest:Code}{args:List V}{t0 t1 t3:ST}{K:V->ST->Prop}{id p gf n:Nat}{g:Operand}{assign body:Code}{sL sA sE:AS}{jX:Nat->V}{uQ:Func}{cG:Code}(enc:V)
  (hf:Tryz.prog.funcs[f]?=some fn) (hb:fn.body=some (.seq c0 (.seq c1 (.seq c2 (.seq (.seq c3 (.block id (.rangeFunc g #[p] assign body))) rest))))) (hname:(fn.name == "runtime.NumGoroutine")=false) (hn:args.length<=fn.ntmps)
  (h0:∀ X:Cx t0,T X c0 (yx (T X c1 (yx (T X c2 (yx (T X c3 (yx λs'=>aV t0.nx s' sL))))))) ⟨fn.ntmps,pO args,t0⟩)
  (hev:sL.ev g = .fn gf 0 n jX) (hp:p<sL.nt) (hfG:Tryz.prog.funcs[gf]?=some uQ) (hbG:uQ.body=some cG) (hnG:(uQ.name == "runtime.NumGoroutine")=false) (hnn:n+1<=uQ.ntmps)
  (hit:∀(X1:Cx sL.s) (l:Nat),X1.ds=[]->MM X1 l enc t1 sE.s->T X1 cG (BU uQ X1 (λv t'=>v=V.top/\t'=t3)) ⟨uQ.ntmps,pO (.d (.v (.func (.yield l) #[] #[]))::(List.range n).map jX),sL.s⟩)
  (hass:∀(l:Nat) (X2:Cx t1),X2.ds=[]->TR X2 l assign (yx λs'=>aV t1.nx s' sA) ⟨sL.nt,(p,enc)::sL.sl,t1⟩)
  (hbody:∀(l:Nat) (X3:Cx sA.s),X3.ds=[]->TR X3 l body (yx λs'=>aV sA.s.nx s' sE) sA)
  (hrest:∀(X4:Cx t3) (X':Cx t0),T X4 rest (BU fn X' K) ⟨sL.nt,sL.sl,t3⟩):ae f args t0 K:=by
 refine⟨?_,λG w us hg hl hv=>?_⟩
 ·unfold wB;rw[hf,pF,hb,hname];rfl
 let X:Cx t0:=⟨G,w,hg,[]⟩
 refine callsIn_wide (n:=1).1 (callsIn_of_wp_marks hf hb trivial ((wpIn_wide (n:=1)).2 ?_));have hm:Mod X ⟨fn.ntmps,pO args,t0⟩ { tmps:=us.toArray++Array.replicate (fn.ntmps-us.toArray.size) undef,defers:=[] } w:=by
  refine⟨G,hg,⟨⟨by simp;omega,λj=>?_⟩,rfl⟩,Stp.refl _ _ _⟩;show aO G t0.get w (dG (pO args) j) _;unfold pO;rw[Iz args 0 j,if_pos (cu _),Nat.sub_zero,bC];rcases ha:args[j]? with _|v
  ·exact trivial
  ·have hj:j<us.length:=by rw[hl];exact(List.getElem?_eq_some_iff.1 ha).1
   have e:=dW hj;have:=hv j v _ ha e;rw[uy,Array.getElem?_append_left (by simpa using hj)];simpa [hj] using this
 refine wp_seq (wp_mono ((h0 X).h _ w hm) ?_);rintro e a1 w1 ⟨s1,⟨rfl,h1⟩,hm1⟩;refine wp_seq (wp_mono (h1.h _ _ hm1) ?_);rintro e a2 w2 ⟨s2,⟨rfl,h2⟩,hm2⟩;refine wp_seq (wp_mono (h2.h _ _ hm2) ?_);rintro e a3 w3 ⟨s3,⟨rfl,h3⟩,Zj⟩;refine wp_seq (wp_seq (wp_mono (h3.h _ _ Zj) ?_));rintro e a4 w4 ⟨s4,⟨rfl,hle⟩,hm4⟩;obtain⟨G4,hg4,hs4,hx4⟩:=hm4.le hle;refine wp_block (aje (enc:=enc) rfl hg4 hs4.tooG hev hp hfG hbG hnG hnn hit hass hbody ?_);intro G5 w5 D hg5 hx5 hD hDs hDF hDO;have hds:a4.defers=[]:=hs4.df;have hDlt:D<w5.heap.size:=(Array.getElem?_eq_some_iff.1 hD).1
 let X4:Cx t3:=⟨G5,w5,hg5,[{ target:=.collected D,args:=#[] }]⟩
 let X':Cx t0:=⟨G,w,hg,[{ target:=.collected D,args:=#[] }]⟩
 have AL:Mod X4 ⟨sL.nt,sL.sl,t3⟩ { a4 with defers:={ target:=.collected D,args:=#[] }::a4.defers } w5:=
  ⟨G5,hg5,⟨⟨hs4.nt,λj=>(hs4.sl j).dS hx5 hg4.aK⟩,by show _::a4.defers=_;rw[hds]⟩,Stp.refl _ _ _⟩
 refine wp_mono ((hrest X4 X').h _ w5 AL) ?_;rintro e a6 w6 ⟨s6,hq,G6,OE,hs6,hx6⟩;have hD6:w6.heap[D]?=some (.deferred (some [])):=(hx6.keep D hDlt hDO).trans hD;have hF6:¬G6.F D:=λh=>by
  rcases hx6.F2 D h with h|h
  ·exact hDF h
  ·exact au hDlt (Nat.not_lt.2 h)
 have hO6:∀ i,¬dA G6 s6.s.get i D:=λi h=>by
  rcases hx6.own i D h with h|h
  ·exact hDO i h
  ·exact au hDlt (Nat.not_lt.2 h)
 have Zi:Mod X' s6 a6 (w6.putObj D (.deferred none)):=by
  refine⟨G6,OE.putObj hF6 hO6,⟨⟨hs6.nt,λj=>?_⟩,hs6.df⟩,Stp.putObj _ ((hx4.trans hx5).trans hx6) ?_⟩
  ·exact aO.side (by simp[World.putObj]) (λb hb _=>World.putObj_heap_other (λ(e:b=D)=>hF6 (e▸hb))) (hs6.sl j)
  ·exact jV hx4.size hDs
 have fin:BU fn X' K .ret s6->LeavesInM Fence.wide 1 Tryz.prog fn a6.tmps (λe w'=>∃ v V t' G',e = .returned v/\K V t'/\bV G' t' w'/\Stp G t0.get w G' t'.get w'/\aO G' t'.get w' V v) a6.defers .returning w6:=λhq=>by
  obtain⟨v,h1,V,t',G',h2,h3,h4,h5⟩:=Ew hq Zi;rw[show a6.defers=[{ target:=.collected D,args:=#[] }] from hs6.df];exact⟨by simp,.inl ⟨D,_,rfl,run_takeDeferred hD6,v,h1,v,V,t',G',rfl,h2,h3,h4,h5⟩⟩
 cases e with
 |ret=>exact fin hq
 |normal=>exact fin hq
 |exit i=>exact hq.elim
 |goto l=>exact hq.elim
 |panic c=>exact hq.elim
 |outgrown=>exact hq.elim
def Oa(a b:Int):Int:=bif decide (b<a) then -1 else bif decide (a<b) then 1 else 0
def Fb(l:List Int)(j:Nat):List Int:=(l.set j (l.getD (j-1) 0)).set (j-1) (l.getD j 0)
def BD:Nat->List Int->List Int
 |0,l=>l
 |j+1,l=>bif decide (Oa (l.getD (j+1) 0) (l.getD j 0)<0) then BD j (Fb l (j+1)) else l
def yU(l:List Int):Nat->List Int
 |0=>l
 |i+1=>BD (i+1) (yU l i)
theorem Vp{l:List Int}{j:Nat}:(Fb l j).length=l.length:=by unfold Fb;rw[oK,oK]
theorem aay:∀ {j:Nat} {l:List Int},(BD j l).length=l.length
 |0,_=>rfl
 |j+1,l=>by
  unfold BD;cases decide (Oa (l.getD (j+1) 0) (l.getD j 0)<0)
  ·rfl
  ·exact aay.trans Vp
theorem EE{l:List Int}:∀ {i:Nat},(yU l i).length=l.length
 |0=>rfl
 |i+1=>aay.trans EE
abbrev F7(l:List Int)(j:Nat):Bool:=bif decide ((0:Int)<(j:Int)) then decide (Oa (l.getD ((j:Int)).toNat 0) (l.getD ((j:Int)-1).toNat 0)<0) else false
theorem ahr:∀ {j:Nat} {l:List Int},F7 l j=false->BD j l=l
 |0,_,_=>rfl
 |j+1,l,h=>by
  unfold F7 at h;rw[bg (show(0:Int)<((j+1:Nat):Int) by omega),dR,jD,show(((j+1:Nat):Int)-1).toNat=j by omega]at h;unfold BD;rw[h];rfl
theorem aoV{l:List Int}{j:Nat}(h:F7 l j=true):0<j:=by
 rcases j with _|j
 ·cases h
 ·omega
theorem alH:∀ {j:Nat} {l:List Int},F7 l j=true->BD j l=BD (j-1) (Fb l j)
 |0,_,h=>by cases h
 |j+1,l,h=>by
  unfold F7 at h;rw[bg (show(0:Int)<((j+1:Nat):Int) by omega),dR,jD,show(((j+1:Nat):Int)-1).toNat=j by omega]at h;show(bif decide (Oa (l.getD (j+1) 0) (l.getD j 0)<0) then BD j (Fb l (j+1)) else l)=_;rw[h];rfl
abbrev Hy:V:=.fn 244 0 0 (λ_=>.top)
theorem abX{l:List Int}{p:Nat}{v:Int}{g:Nat->V}(hp:p<l.length){j k:Nat}(hk:k<1)(e:g 0=iV v):lN (λj k=>V.d (iD (l.getD j 0))) p 0 1 g j k=V.d (iD ((l.set p v).getD j 0)):=by
 obtain rfl:k=0:=Nat.lt_one_iff.1 hk;unfold lN;rcases hb:Nat.beq j p with _|_
 ·have:j≠p:=λe=>by subst e;simp at hb
  rw[show(l.set p v).getD j 0=l.getD j 0 by rw[bC,List.getElem?_set_ne (λe=>this e.symm),bC]];rfl
 ·have:=dH hb;subst this;rw[show(l.set j v).getD j 0=v by rw[bC,List.getElem?_set_self hp];rfl];exact e
theorem als{l:List Int}{p:Nat}{g1 g2:Nat->V}(hp:0<p)(hl:p<l.length){j k:Nat}(hk:k<1)(e1:g1 0=iV (l.getD ((p:Int)-1).toNat 0))(e2:g2 0=iV (l.getD ((p:Int)).toNat 0)):lN (lN (λj k=>V.d (iD (l.getD j 0))) ((p:Int)).toNat 0 1 g1) ((p:Int)-1).toNat 0 1 g2 j k=V.d (iD ((Fb l p).getD j 0)):=by
 have h1:((p:Int)).toNat=p:=jD p;have h2:((p:Int)-1).toNat=p-1:=qO;rw[h1]at e2 ⊢;rw[h2]at e1 ⊢;have h3:(lN (λj k=>V.d (iD (l.getD j 0))) p 0 1 g1) j k=V.d (iD ((l.set p (l.getD (p-1) 0)).getD j 0)):=abX hl hk e1;have h4:=abX (l:=l.set p (l.getD (p-1) 0)) (p:=p-1) (v:=l.getD p 0) (g:=g2) (by rw[oK];omega) (j:=j) hk e2;unfold Fb;rw[<-h4];unfold lN;rcases hb:Nat.beq j (p-1) with _|_
 ·unfold lN at h3;exact h3
 ·obtain rfl:k=0:=Nat.lt_one_iff.1 hk;rfl
theorem ae3(a b:Int):aQ 244 [iV a,iV b] (iV (Oa a b)):=by
 refine asz Tryz.func244 λX=>?_
 (repeat' (first|refine oz ?_|refine ai.mk (λh=>?_) (λh=>?_)|refine Fin.tell (vq (gz iV ?_) tv)))<;>try exact aB
 all_goals first|exact(dF h).symm|(rename_i h0;exact((bz h0).trans (dF h)).symm)|(rename_i h0;exact((bz h0).trans (bz h)).symm)
theorem am2(l:List Int)(hl:l.length<=1000):ae 283 [.row 0 l.length,iV 0,iV l.length,Hy] ⟨[(0,fM l)],1⟩ (λv t=>v = .top/\t=⟨[(0,fM (yU l (l.length-1)))],1⟩):=by
 refine asz Tryz.func283 λX=>?_
 (repeat' (first|refine oz ?_|refine asD 4 [14] [o0,o0,o0,o0,o0,o0,o0,o0,o0,o0,o0,o0,o0,o0,o1,o3,o3] ?_|refine asD 6 [15,17] [o0,o0,o2,o2,o2,o0,o0,o0,o0,o0,o0,o0,o0,o0,o0,o1,o3,(1,1,true,[])] ?_|refine mc ?_ ?_|refine asI (c:=.seq (.seq (.region 1 _ _) _) _) (l.length-1) (λi (a:Unit)=>⟨53,[(0,.row 0 l.length),(1,iV 0),(2,iV l.length),(3,Hy),(8,iV ((i:Int)+1))],⟨[(0,fM (yU l i))],1⟩⟩) (λ_ _=>True) () ?_ True.intro (λi a hi hp=>?_)|refine T.loop (ι:={ p:Nat×List Int // BD p.1 p.2=yU l (i+1)/\p.2.length=l.length/\p.1<=i+1 }) (λp=>⟨53,[(0,.row 0 l.length),(1,iV 0),(2,iV l.length),(3,Hy),(8,iV ((i:Int)+1)),(9,iV p.1.1)],⟨[(0,fM p.1.2)],1⟩⟩) (λp=>p.1.1) ⟨(i+1,yU l i),rfl,EE,bu _⟩ ?_ (λp=>?_)|refine aU () ⟨?_,tv,?_⟩|refine aU ⟨(p.1.1-1,Fb p.1.2 p.1.1),(alH (aj:F7 p.1.2 p.1.1=true)).symm.trans p.2.1,Vp.trans p.2.2.1,jV (Nat.sub_le _ _) p.2.2.2⟩ (ed ?_ ?_)|refine asN (ae3 _ _) ?_|refine ai.mk (λh=>?_) (λh=>?_)|refine ag.a ?_|(rw[show l.length-1=i from (by have h9:=bJ (aj:decide ((i:Int)+1<(l.length:Int))=false);omega)];refine asC qN qN VW.top ?_)|refine ag.mk ?_ ?_))<;>(try(refine dh.mk ?_;repeat' (first|exact tv|exact rfl|refine aU _ (ed (λht=>ae.tell (ae3 _ _) vw ⟨rfl,rfl⟩) ?_)|refine an ?_ ?_|refine ag.mk ?_ ?_)))
 all_goals try exact aB
 all_goals (try(refine aV.mk rfl qN qN ?_ ?_ <;> repeat' (first|exact tv|exact qV|exact qW|refine asJ ?_|refine vq (gz iV ?_) tv|refine an ⟨nb rfl,af.row ?_ (λj hj k hk=>asB ?_)⟩ ?_|refine an ?_ ?_)))
 all_goals first|exact rfl|exact cm qV|(have h9:=aS (aj:decide ((i:Int)+1<(l.length:Int))=true);first|omega|(have q1:=p.2.2.1;have q2:=p.2.2.2;first|(intro e;have e:=aS e;(refine⟨q1.symm,?_,?_⟩ <;> omega))|(have q3:=aoV (aj:F7 p.1.2 p.1.1=true);first|omega|(simp only[dQ];omega)|exact Vp.symm|exact cm (vq (als q3 (by omega) hk rfl rfl) tv))|(have q4:=ahr (aj:F7 p.1.2 p.1.1=false);have q5:yU l (i+1)=p.1.2:=p.2.1.symm.trans q4;first|exact gz List.length q5.symm|exact cm (vq (gz (λL:List Int=>V.d (iD (L.getD j 0))) q5.symm) tv))))
theorem WE{o:Oper}{a:Act}{G:Gh}{s:AS}{w:World}{t i k r:Nat}{S:ByteArray}(ho:o.op = .index t (.const (.string S)) (.tmp i))(hty:Tryz.prog.underlying t=some .string)(hsz:k<S.size)(hr:(S[k]'hsz).toNat=r)(hg:bV G s.s w)(hs:oG G s a w)(hl:dG s.sl i = .d (.v (.int .u8 k))):eu o a G s.s w (λv t=>v = .d (.v (.int .u8 r))/\t=s.s):=by
 have h1:=hs.sl i;rw[hl]at h1;have h1:a.eval (.tmp i) = .int .u8 k:=h1;refine eu.val (v:=.int .u8 r) (V:=.d (.v (.int .u8 r))) hg ?_ rfl ⟨rfl,rfl⟩;unfold execOp;have h2:(Instr.index t (.string S) (.int .u8 (k:Int))).run Tryz.prog w = .ok (.int .u8 r) w:=by
  rw[run_index_string w t S .u8 k hty,dif_pos ⟨by omega,by omega⟩];subst hr;rfl
 simp only[ho,h1,show a.eval (.const (.string S)) = .string S from rfl,Sem.run_bind,h2,Result.andThen_ok];rfl
theorem amX  : aQ 292 [.d (.v (.int .u64 3))] (iV 2):=by
 refine asz Tryz.func292 λX=>?_
 (repeat' (first|refine atH (id:=10) (pre:=(mW Tryz.f292 10).toList.take 3) (rest:=(mW Tryz.f292 10).toList.drop 4) (.d (.v (.int .u8 2))) rfl rfl ?_|refine an rfl (ed (λG a w hg hs=>WE (k:=3) (r:=2) rfl Tryz.underlying9 (by decide) (by decide) hg hs rfl) ?_)|refine oz ?_|refine ai.n (λh=>?_)|refine ag.a ?_|refine Fin.tell (vq (gz iV ?_) tv)))<;>try exact aB
theorem amW  : aQ 292 [.d (.v (.int .u64 4))] (iV 3):=by
 refine asz Tryz.func292 λX=>?_
 (repeat' (first|refine atH (id:=10) (pre:=(mW Tryz.f292 10).toList.take 3) (rest:=(mW Tryz.f292 10).toList.drop 4) (.d (.v (.int .u8 3))) rfl rfl ?_|refine an rfl (ed (λG a w hg hs=>WE (k:=4) (r:=3) rfl Tryz.underlying9 (by decide) (by decide) hg hs rfl) ?_)|refine oz ?_|refine ai.n (λh=>?_)|refine ag.a ?_|refine Fin.tell (vq (gz iV ?_) tv)))<;>try exact aB
theorem amV  : aQ 292 [.d (.v (.int .u64 5))] (iV 3):=by
 refine asz Tryz.func292 λX=>?_
 (repeat' (first|refine atH (id:=10) (pre:=(mW Tryz.f292 10).toList.take 3) (rest:=(mW Tryz.f292 10).toList.drop 4) (.d (.v (.int .u8 3))) rfl rfl ?_|refine an rfl (ed (λG a w hg hs=>WE (k:=5) (r:=3) rfl Tryz.underlying9 (by decide) (by decide) hg hs rfl) ?_)|refine oz ?_|refine ai.n (λh=>?_)|refine ag.a ?_|refine Fin.tell (vq (gz iV ?_) tv)))<;>try exact aB
theorem arK{l:List Int}(h:l.length<=12):decide ((l.length:Int)-0<=12)=true:=bg qO
theorem XP (l : List Int) (k : Int) (hl : l.length <= 12) : ae 252 [.row 0 l.length, iV 0, iV l.length, iV k, Hy] ⟨[(0, fM l)], 1⟩ (λv t => v = .top /\ t = ⟨[(0, fM (yU l (l.length - 1)))], 1⟩) := by
  refine ae.of Tryz.func252 rfl rfl (by simp [Tryz.f252]) λX => ?_
  (repeat' (first | refine ai.mk (λh => ?_) (λh => au ((arK hl).symm.trans h) (by decide)) | refine oz ?_ | refine asO [0] (am2 l (by omega)) rfl rfl rfl ⟨asF rfl qN, VW.refl trivial, VW.refl trivial, asJ trivial, trivial⟩ bG ?_ | refine as5 ?_ | refine TL.round ?_ | refine asC qN qN VW.top ?_ | refine ag.mk ?_ ?_))<;>try exact aB
def JU(l:List Int):Int:=(yU l (l.length-1)).getD (l.length / 2) 0
theorem aqc  : aQ 253 [.d (.v (.int .u64 3))] (iV 2):=by
 refine asz Tryz.func253 λX=>?_
 (repeat' (first|refine oz ?_|refine asA (amX) ?_|refine ai.n (λh=>?_)|refine Fin.tell (vq (gz iV ?_) tv)))<;>try exact aB
theorem alF (a b c : Int) : ae 243 [.row 0 [a, b, c].length, Hy] ⟨[(0, fM [a, b, c])], 1⟩ (λv t => v = .top /\ t = ⟨[(0, fM (yU [a, b, c] ([a, b, c].length - 1)))], 1⟩) := by
  refine ae.of Tryz.func243 rfl rfl (by simp [Tryz.f243]) λX => ?_
  (repeat' (first | refine oz ?_ | refine ae.tell (aqc) ⟨asF rfl trivial, trivial⟩ ?_ | refine asO [0] (XP [a, b, c] 2 qN) rfl rfl rfl ⟨asF rfl qN, asF rfl trivial, asF rfl trivial, asF rfl trivial, asJ trivial, trivial⟩ bG ?_ | refine asC qN qN VW.top ?_ | refine ag.mk ?_ ?_))<;>try exact aB
  all_goals (exact ⟨(show (0 : Int) <= 3 by decide), (show (3 : Int) <= 18446744073709551615 by decide)⟩)
theorem aqb  : aQ 253 [.d (.v (.int .u64 4))] (iV 3):=by
 refine asz Tryz.func253 λX=>?_
 (repeat' (first|refine oz ?_|refine asA (amW) ?_|refine ai.n (λh=>?_)|refine Fin.tell (vq (gz iV ?_) tv)))<;>try exact aB
theorem alE (a b c d : Int) : ae 243 [.row 0 [a, b, c, d].length, Hy] ⟨[(0, fM [a, b, c, d])], 1⟩ (λv t => v = .top /\ t = ⟨[(0, fM (yU [a, b, c, d] ([a, b, c, d].length - 1)))], 1⟩) := by
  refine ae.of Tryz.func243 rfl rfl (by simp [Tryz.f243]) λX => ?_
  (repeat' (first | refine oz ?_ | refine ae.tell (aqb) ⟨asF rfl trivial, trivial⟩ ?_ | refine asO [0] (XP [a, b, c, d] 3 qN) rfl rfl rfl ⟨asF rfl qN, asF rfl trivial, asF rfl trivial, asF rfl trivial, asJ trivial, trivial⟩ bG ?_ | refine asC qN qN VW.top ?_ | refine ag.mk ?_ ?_))<;>try exact aB
  all_goals (exact ⟨(show (0 : Int) <= 4 by decide), (show (4 : Int) <= 18446744073709551615 by decide)⟩)
theorem aqa  : aQ 253 [.d (.v (.int .u64 5))] (iV 3):=by
 refine asz Tryz.func253 λX=>?_
 (repeat' (first|refine oz ?_|refine asA (amV) ?_|refine ai.n (λh=>?_)|refine Fin.tell (vq (gz iV ?_) tv)))<;>try exact aB
theorem alD (a b c d e : Int) : ae 243 [.row 0 [a, b, c, d, e].length, Hy] ⟨[(0, fM [a, b, c, d, e])], 1⟩ (λv t => v = .top /\ t = ⟨[(0, fM (yU [a, b, c, d, e] ([a, b, c, d, e].length - 1)))], 1⟩) := by
  refine ae.of Tryz.func243 rfl rfl (by simp [Tryz.f243]) λX => ?_
  (repeat' (first | refine oz ?_ | refine ae.tell (aqa) ⟨asF rfl trivial, trivial⟩ ?_ | refine asO [0] (XP [a, b, c, d, e] 3 qN) rfl rfl rfl ⟨asF rfl qN, asF rfl trivial, asF rfl trivial, asF rfl trivial, asJ trivial, trivial⟩ bG ?_ | refine asC qN qN VW.top ?_ | refine ag.mk ?_ ?_))<;>try exact aB
  all_goals (exact ⟨(show (0 : Int) <= 5 by decide), (show (5 : Int) <= 18446744073709551615 by decide)⟩)
theorem amM (a b c : Int) : aQ 231 [.d (iH [a, b, c])] (iV (JU [a, b, c])) := by
  refine ae.of Tryz.func231 rfl rfl (by simp [Tryz.f231]) λX => ?_
  (repeat' (first | refine T.cut (x := .region 3 _ _) (y := .seq (.region 4 _ _) _) ⟨17, [(0, .d (iH [a, b, c])), (3, .row 0 [a, b, c].length)], ⟨[(0, fM [a, b, c])], 1⟩⟩ ?_ ?_ | refine ai.mk (λh => au (ht h) (Nat.succ_ne_zero _)) (λh => ?_) | refine oz ?_ | refine ae.of (f := 91) Tryz.func91 rfl rfl qN λX2 => ?_ | refine asO [0] (alF a b c) rfl rfl rfl ⟨asF rfl qN, asJ trivial, trivial⟩ bG ?_ | refine ai.mk (λh => au (show false = true from h) (by decide)) (λh => ?_) | refine ag.a ?_ | refine sS.mk (λt ht => ?_) | refine Fin.tell (asF (gz iV ?_) trivial) | refine Fin.here ?_ | refine ag.mk ?_ ?_))<;>try exact aB
  all_goals first | exact ⟨(show (0 : Int) <= 3 by decide), (show (3 : Int) <= 9223372036854775807 by decide), (by decide)⟩ | exact ⟨EE.symm, (show (0 : Int) <= (3 : Int) / 2 by decide), (show (3 : Int) / 2 < 3 by decide)⟩ | exact ⟨EE.symm, (show ((3 : Int) / 2).toNat < 3 by decide), Nat.zero_lt_one⟩ | exact ⟨rfl, (show 0 + 3 <= 1000000 by decide)⟩
theorem amL (a b c d : Int) : aQ 231 [.d (iH [a, b, c, d])] (iV (JU [a, b, c, d])) := by
  refine ae.of Tryz.func231 rfl rfl (by simp [Tryz.f231]) λX => ?_
  (repeat' (first | refine T.cut (x := .region 3 _ _) (y := .seq (.region 4 _ _) _) ⟨17, [(0, .d (iH [a, b, c, d])), (3, .row 0 [a, b, c, d].length)], ⟨[(0, fM [a, b, c, d])], 1⟩⟩ ?_ ?_ | refine ai.mk (λh => au (ht h) (Nat.succ_ne_zero _)) (λh => ?_) | refine oz ?_ | refine ae.of (f := 91) Tryz.func91 rfl rfl qN λX2 => ?_ | refine asO [0] (alE a b c d) rfl rfl rfl ⟨asF rfl qN, asJ trivial, trivial⟩ bG ?_ | refine ai.mk (λh => au (show false = true from h) (by decide)) (λh => ?_) | refine ag.a ?_ | refine sS.mk (λt ht => ?_) | refine Fin.tell (asF (gz iV ?_) trivial) | refine Fin.here ?_ | refine ag.mk ?_ ?_))<;>try exact aB
  all_goals first | exact ⟨(show (0 : Int) <= 4 by decide), (show (4 : Int) <= 9223372036854775807 by decide), (by decide)⟩ | exact ⟨EE.symm, (show (0 : Int) <= (4 : Int) / 2 by decide), (show (4 : Int) / 2 < 4 by decide)⟩ | exact ⟨EE.symm, (show ((4 : Int) / 2).toNat < 4 by decide), Nat.zero_lt_one⟩ | exact ⟨rfl, (show 0 + 4 <= 1000000 by decide)⟩
theorem amK (a b c d e : Int) : aQ 231 [.d (iH [a, b, c, d, e])] (iV (JU [a, b, c, d, e])) := by
  refine ae.of Tryz.func231 rfl rfl (by simp [Tryz.f231]) λX => ?_
  (repeat' (first | refine T.cut (x := .region 3 _ _) (y := .seq (.region 4 _ _) _) ⟨17, [(0, .d (iH [a, b, c, d, e])), (3, .row 0 [a, b, c, d, e].length)], ⟨[(0, fM [a, b, c, d, e])], 1⟩⟩ ?_ ?_ | refine ai.mk (λh => au (ht h) (Nat.succ_ne_zero _)) (λh => ?_) | refine oz ?_ | refine ae.of (f := 91) Tryz.func91 rfl rfl qN λX2 => ?_ | refine asO [0] (alD a b c d e) rfl rfl rfl ⟨asF rfl qN, asJ trivial, trivial⟩ bG ?_ | refine ai.mk (λh => au (show false = true from h) (by decide)) (λh => ?_) | refine ag.a ?_ | refine sS.mk (λt ht => ?_) | refine Fin.tell (asF (gz iV ?_) trivial) | refine Fin.here ?_ | refine ag.mk ?_ ?_))<;>try exact aB
  all_goals first | exact ⟨(show (0 : Int) <= 5 by decide), (show (5 : Int) <= 9223372036854775807 by decide), (by decide)⟩ | exact ⟨EE.symm, (show (0 : Int) <= (5 : Int) / 2 by decide), (show (5 : Int) / 2 < 5 by decide)⟩ | exact ⟨EE.symm, (show ((5 : Int) / 2).toNat < 5 by decide), Nat.zero_lt_one⟩ | exact ⟨rfl, (show 0 + 5 <= 1000000 by decide)⟩
end Go.Proofs.YtnibdnahojjcgaaGreat
