/- A part of the proof. -/
import Derived.Test.YtnibdnahojjcgaaGreatB06
namespace Go.Proofs.YtnibdnahojjcgaaGreat
set_option maxRecDepth 100000
set_option maxHeartbeats 16000000
set_option linter.unusedVariables false
set_option linter.unusedSimpArgs false
open Go.RowKit
section
theorem vN(p m:Nat)(g h:Nat->Nat->V)(j k:Nat):qg p m g h j k=if j<p then g j k else if j<p+m then h (j-p) k else g j k:=by
 have e:∀ a b:Nat,Nat.blt a b=decide (a<b):=λa b=>by
  by_cases hh:a<b
  ·rw[bg hh,Nat.blt_eq];exact hh
  ·rw[aX hh];exact Bool.eq_false_iff.2 λh1=>hh (lS h1)
 unfold qg;rw[e,e];by_cases h1:j<p <;> by_cases h2:j<p+m <;> simp[h1,h2]
section
variable {G:Gh} {w w':World} {t:ST} {s:AS} {o:Oper} {a:Act} {K:V->ST->Prop}
theorem UJ(hg:bV G t w){i E z n m p c b N:Nat}{A:Option Addr}{g h:Nat->Nat->V}{cs:Array Value}{news:List Value}(ho:t.get i = .row E z n g)(hr:G.ρ i=some (.row A c))(hA:A=some ⟨b,0,none⟩)(hc0:0<c)(hh:w.heap[b]?=some (.cells cs E (0,0)))(hsz:cs.size=c*z)
  (hcell:∀ j,j<n->∀ k,k<z->∃ x,cs[j*z+k]?=some x/\x.oneCell'=true/\aO G t.get w (g j k) x) (hcm:c<=maxLen) (hp:p<=n) (hpm:p+m<=c) (hnc:n<=c) (hN:N=Nat.max n (p+m)) (hl:news.length=m*z) (hnews:∀ j,j<m->∀ q,q<z->∃ x,news[j*z+q]?=some x/\x.oneCell'=true/\aO G t.get w (h j q) x) :
  let w':=w.setRow b (cs.toList.take (p*z)++news++cs.toList.drop (p*z+news.length)).toArray
  bV (G.upd i (.row A c)) (t.set i (.row E z N (qg p m g h))) w'/\Stp G t.get w (G.upd i (.row A c)) (t.set i (.row E z N (qg p m g h))).get w'/\aO (G.upd i (.row A c)) (t.set i (.row E z N (qg p m g h))).get w' (.row i N) (.slice A N c):=by
 intro w';have hz:0<z:=(rowOf (n:=0) hg.aK ho hr).2.2.1;have hpz:=uV z hpm;rw[Nat.add_mul]at hpz;have hown:dA G t.get i b:=by unfold dA;rw[ho];exact⟨A,c,hr,hc0,_,hA⟩
 have hNn:n<=N:=by rw[hN];exact Nat.le_max_left _ _
 have hNp:p+m<=N:=by rw[hN];exact Nat.le_max_right _ _
 have hNc:N<=c:=by rw[hN];exact Nat.max_le.2 ⟨hnc,hpm⟩
 have hlen:(cs.toList.take (p*z)).length=p*z:=by rw[dP];simp;omega
 have key:=AZ (w':=w') (m:=N-n) (c':=c) (A':=A) (g':=qg p m g h) hg ho hr (λ_=>⟨rfl,rfl⟩) rfl rfl rfl (by show w.heap.size<=(w.setRow b _).heap.size;simp) (λb' hb' hn=>setRow_other _ _ _ _ (λe=>hn (by rw[e];exact hown)))
  (λ_ b' off e=>by rw[hA]at e;injection e with e;injection e with e;rw[<-e];exact .inl hown)
  (λhs=>.inr ⟨hc0,b,_,hA,setRow_heap w b cs _ E (0,0) hh,by rw[List.size_toArray,bW,bW,hlen,fE,hl,qX,hsz];omega,by omega,hcm,λj hj k hk=>by
   rw[vN];have hjk:=vP (n:=c) (show j<c by omega) hk;by_cases h1:j<p
   ·obtain⟨x,e1,e2,e3⟩:=hcell j qO k hk;have:=vP h1 hk;exact⟨x,by rw[List.getElem?_toArray,kE,mO qO,oh,if_pos this];simpa using e1,e2,by rw[if_pos h1];exact e3.dS hs hg.aK⟩
   ·have hsub:j*z=p*z+(j-p)*z:=by rw[<-Nat.add_mul,Nat.add_sub_cancel' qO]
    by_cases h2:j<p+m
    ·obtain⟨x,e1,e2,e3⟩:=hnews (j-p) qO k hk;have:=vP (show j-p<m by omega) hk;exact⟨x,by rw[List.getElem?_toArray,kE,oW qO,hlen,mO qO,hsub,show p*z+(j-p)*z+k-p*z=(j-p)*z+k by omega];exact e1,e2,by rw[if_neg h1,if_pos h2];exact e3.dS hs hg.aK⟩
    ·have hj2:j<n:=by
      rcases mP j n with q|q
      ·exact q
      ·have:N<=j:=by rw[hN];exact Nat.max_le.2 ⟨q,by omega⟩
       omega
     obtain⟨x,e1,e2,e3⟩:=hcell j hj2 k hk;have hmz:m*z<=(j-p)*z:=uV z qO;exact⟨x,by rw[List.getElem?_toArray,oW (by rw[bW,hlen,hl];omega),bW,hlen,hl,sD,show p*z+m*z+(j*z+k-(p*z+m*z))=j*z+k by omega];simpa using e1,e2,by rw[if_neg h1,if_neg h2];exact e3.dS hs hg.aK⟩⟩)
 rw[show n+(N-n)=N by omega]at key;exact key
theorem QT{G:Gh}{s:ST}{i N q c E z:Nat}{A:Option Addr}{g:Nat->Nat->V}(hg:Good G s.get w)(ho:s.get i = .row E z N g)(h:aO G s.get w (.row i N) (.slice A N c))(hq:q<=N):aO G s.get w (.vw i N 0 q) (.slice A q c):=by
 obtain⟨A',c',hr,_,hu⟩:=h;have e:=(hu _ _ _ _ ho).2 rfl;injection e with e1 e2 e3
 subst e1 e3;obtain⟨q1,q2,q3,q4⟩:=rowOf (n:=0) hg ho hr;obtain⟨q5,q6,q7⟩:=Dp q4;have:=QV (w:=w) (lo:=0) (m:=q) ho hr rfl q5 q6 q7 qO;rw[Nat.sub_zero,show(if c=0 then A else A.map (·.add (0*z)))=A by cases A <;> simp[Addr.add]]at this;exact this
theorem ahA{ty E n c m cy b:Nat}{Ay:Option Addr}{t2:TypeId}{cs:Array Value}{news:List Value}(hk1:(tI ty).k=3)(hE:E=(tI ty).elem)(hok:(tI E).ok=true)(hh:w.heap[b]?=some (.cells cs E (0,0)))(hsz:cs.size=c*(tI E).size)(hl:news.length=m*(tI E).size)(hr:Rd w w.heap.size Ay news)(h1:∀ u∈news,u.oneCell'=true)(hm:0<m)(hz0:0<(tI E).size)(ul:n+m<=c) :
  (Builtin.append_ #[ty,ty] t2 #[.slice (some ⟨b,0,none⟩) n c,.slice Ay m cy]).run Tryz.prog w = .ok (.slice (some ⟨b,0,none⟩) (n+m) c) (w.setRow b (cs.toList.take (n*(tI E).size)++news++cs.toList.drop (n*(tI E).size+news.length)).toArray):=by
 subst hE;have hz:=qf (w:=w) hok;have hpz:=uV (tI (tI ty).elem).size ul;rw[Nat.add_mul]at hpz;obtain⟨b2,off,rfl,hb2,hrd⟩:=hr (by rw[hl];exact Nat.mul_pos hm hz0);have Eh:=run_loadCells_list (P:=Tryz.prog) w ⟨b2,off,none⟩ news (λj v hv=>by
  have:=(List.getElem?_eq_some_iff.1 hv).1;rw[ug,hrd j this,hv])
 have hst:=run_storeCells_at Tryz.prog b (n*(tI (tI ty).elem).size) (tI ty).elem news 0 cs w hh qO h1;rw[hl]at Eh;simp only[Nat.add_zero]at hst;simp[Builtin.append_,run_underlying (qw hk1),hz,Builtin.lenOf,Builtin.firstCells,ul,Eh,ug,hst,Result.andThen]
theorem aaD{ty E o n c m cy b:Nat}{Ay:Option Addr}{t2:TypeId}{te:TypeId}{cs:Array Value}{news:List Value}(hk1:(tI ty).k=3)(hE:E=(tI ty).elem)(hok:(tI E).ok=true)(hh:w.heap[b]?=some (.cells cs te (0,0)))(iC:o+news.length<=cs.size)(hl:news.length=Nat.min m n*(tI E).size)(hr:Rd w w.heap.size Ay news)(h1:∀ u∈news,u.oneCell'=true)(hm:0<Nat.min m n)(hz0:0<(tI E).size) :
  (Builtin.copy_ #[ty,ty] t2 #[.slice (some ⟨b,o,none⟩) n c,.slice Ay m cy]).run Tryz.prog w = .ok (goInt (Nat.min m n)) (w.setRow b (cs.toList.take o++news++cs.toList.drop (o+news.length)).toArray):=by
 subst hE;have hz:=qf (w:=w) hok;obtain⟨b2,off,rfl,hb2,hrd⟩:=hr (by rw[hl];exact Nat.mul_pos hm hz0);have Eh:=run_loadCells_list (P:=Tryz.prog) w ⟨b2,off,none⟩ news (λj v hv=>by
  have:=(List.getElem?_eq_some_iff.1 hv).1;rw[ug,hrd j this,hv])
 have hst:=run_storeCells_at Tryz.prog b o te news 0 cs w hh qO h1;rw[hl]at Eh;simp only[Nat.add_zero]at hst;simp[Builtin.copy_,run_underlying (qw hk1),hz,Builtin.lenOf,Builtin.firstCells,Eh,hst,Result.andThen]
theorem agL{ty:Nat}{x y:Operand}{vx vy:V}(hg:bV G t w)(ho:o.op = .call { callee:=.builtin .append,args:=#[x,y],argTypes:=#[ty,ty] })(hx:aO G t.get w vx (a.eval x))(hy:aO G t.get w vy (a.eval y))(h:LY ty vx vy t K):eu o a G t w K:=by
 have fin:∀ {v:Value} {V:V} {t':ST} {G':Gh} {w':World},(Builtin.append_ #[ty,ty] o.type #[a.eval x,a.eval y]).run Tryz.prog w = .ok v w'->K V t'->bV G' t' w'/\Stp G t.get w G' t'.get w'/\aO G' t'.get w' V v->eu o a G t w K:=λ{v V t' G' w'} hrun hk hh=>by
  unfold eu Oper.wp Oper.upon execOp;simp only[ho,resolve,invoke,builtin,Sem.run_bind,Sem.run_pure,Result.andThen_ok];simp only[List.map_toArray,List.map_cons,List.map_nil,hrun,Result.andThen_ok];exact⟨v,V,t',G',rfl,hk,hh⟩
 unfold LY at h;split at h;rotate_left
 ·exact h.elim
 rename_i hk1 hE
 obtain⟨hE,hby⟩:=kJ hE;obtain⟨hok,hz0⟩:=kJ hE;have hby:=lS hby
 have hz0:=lS hz0;have Eg:=Qq hg.aK hz0 hy h;clear h;obtain⟨m,g2,Ay,cy,news,h,hye,hnl,hrd,hnews⟩:=Eg;have hone:=Xn hz0 hnl hnews;rw[hye]at fin;split at h
 ·obtain⟨hm,hk⟩:=h.h;obtain⟨A,hxe⟩:=hx;rw[hxe]at fin;rcases uz m with h0|h0
  ·subst h0;exact fin (PY hk1 hok (bu _)) hk (IK hg (Below.refl _ _) hok rfl hz0 (λh=>by omega) (λ_=>.inl ⟨rfl,rfl⟩))
  ·obtain⟨A',c',w',hrun,hov,hgr,hA'⟩:=Lc (t2:=o.type) (cy:=cy) (n:=0) (c:=0) (A:=none) hk1 rfl hok hz0 hby (at1 w 0 _ _) hnl hrd hone qO;rw[jm]at hrun hov;have hb:=Ur rfl hgr;refine fin (v:=.slice A' m c') ?_ hk (IK hg hb hok rfl hz0 (λ_ b off e=>?_) (λhs=>Jg hz0 hov (λj hj q hq=>?_)))
   ·rcases A with _|A
    ·exact hrun
    ·rw[Vu hk1 hok hby h0 hm];exact hrun
   ·rcases hA' with rfl|rfl
    ·cases e
    ·injection e with e;injection e with e;omega
   ·obtain⟨x,e1,e2,e3⟩:=hnews j hj q hq;exact⟨x,by rw[List.nil_append];exact e1,e2,e3.dS hs hg.aK⟩
 ·rename_i i n
  obtain⟨A,c,hr,_,hu⟩:=hx;split at h;rotate_left
  ·exact h.elim
  rename_i E z r g hob
  split at h;rotate_left
  ·exact h.elim
  rename_i hEq
  obtain rfl:=dH hEq;obtain⟨⟨hnr,ul⟩,hk⟩:=h.h;subst hnr;have hxe:=(hu _ _ _ _ hob).2 rfl;rw[hxe]at fin;obtain⟨q1,q2,q3,q4⟩:=rowOf (n:=0) hg.aK hob hr;subst q2;rcases uz m with h0|h0
  ·subst h0;refine fin (PY hk1 hok (Dp q4).1) hk (AZ hg hob hr (λ_=>⟨rfl,rfl⟩) rfl rfl rfl (bu _) (λ_ _ _=>rfl) (λhc b off e=>.inl ?_) (λhs=>?_))
   ·unfold dA;rw[hob];exact⟨A,c,hr,hc,off,e⟩
   ·rcases q4 with q4|⟨hc0,b,cs,e1,e2,e3,e4,e5,e6⟩
    ·exact .inl q4
    ·refine .inr ⟨hc0,b,cs,e1,e2,e3,e4,e5,λj hj q hq=>?_⟩;obtain⟨x,p1,p2,p3⟩:=e6 j hj q hq;exact⟨x,p1,p2,by rw[Di,if_pos qO];exact p3.dS hs hg.aK⟩
  ·rcases uz c with hc0|hc0
   ·subst hc0;have hn0:n=0:=by have:=(Dp q4).1;omega
    subst hn0;obtain⟨A',c',w',hrun,hov,hgr,hA'⟩:=Lc (t2:=o.type) (cy:=cy) (n:=0) (c:=0) (A:=none) hk1 rfl hok hz0 hby (at1 w 0 _ _) hnl hrd hone ul;have hb:=Ur rfl hgr;refine fin (v:=.slice A' (0+m) c') ?_ hk (AZ hg hob hr (λe=>by omega) hb.os hb.tape hb.output hb.size (λb hb' _=>hb.block b hb') (λ_ b off e=>.inr ?_) (λhs=>Jg hz0 hov (λj hj q hq=>?_)))
    ·rcases A with _|A
     ·exact hrun
     ·rw[Vu hk1 hok hby h0 qO];exact hrun
    ·rcases hA' with rfl|rfl
     ·cases e
     ·injection e with e;injection e with e;omega
    ·obtain⟨x,e1,e2,e3⟩:=hnews j qO q hq;exact⟨x,by rw[List.nil_append];exact e1,e2,by rw[Di,if_neg qO,Nat.sub_zero];exact e3.dS hs hg.aK⟩
   ·obtain⟨cells,b0,rfl,⟨cs0,hcs0⟩,NT,hcell0⟩:=aor hc0 q4;obtain⟨A',c',w',hrun,hov,hgr,hA'⟩:=Lc (t2:=o.type) (cy:=cy) hk1 rfl hok hz0 hby NT hnl hrd hone ul;have hown0:dA G t.get i b0:=by unfold dA;rw[hob];exact⟨_,c,hr,hc0,_,rfl⟩
    have hlen0:=NT.len;refine fin hrun hk (AZ hg hob hr (λe=>by omega) hgr.os hgr.tape hgr.output hgr.size (λb hb' hn=>hgr.block b hb' (λe=>?_)) (λ_ b off e=>?_) (λhs=>Jg hz0 hov (λj hj q hq=>?_)))
    ·have e':some b=some b0:=e;injection e' with e'
     exact hn (by rw[e'];exact hown0)
    ·rcases hA' with rfl|rfl
     ·injection e with e;injection e with e;rw[<-e];exact .inl hown0
     ·injection e with e;injection e with e;exact .inr qO
    ·by_cases hjn:j<n
     ·obtain⟨x,e1,e2,e3⟩:=hcell0 j hjn q hq;refine⟨x,?_,e2,by rw[Di,if_pos hjn];exact e3.dS hs hg.aK⟩;rw[mO (by rw[hlen0];exact vP hjn hq)];exact e1
     ·obtain⟨x,e1,e2,e3⟩:=hnews (j-n) qO q hq;refine⟨x,?_,e2,by rw[Di,if_neg hjn];exact e3.dS hs hg.aK⟩;have hsub:j*(tI (tI ty).elem).size=n*(tI (tI ty).elem).size+(j-n)*(tI (tI ty).elem).size:=by rw[<-Nat.add_mul,Nat.add_sub_cancel' qO]
      rw[oW (by rw[hlen0,hsub];omega),hlen0,hsub,show n*(tI (tI ty).elem).size+(j-n)*(tI (tI ty).elem).size+q-n*(tI (tI ty).elem).size=(j-n)*(tI (tI ty).elem).size+q by omega];exact e1
 ·rename_i i n lo q
  obtain⟨A,c,hr,_,hu⟩:=hx;split at h;rotate_left
  ·exact h.elim
  rename_i E z r g hob
  split at h;rotate_left
  ·exact h.elim
  rename_i hEq
  obtain rfl:=dH hEq;obtain⟨⟨hlo,hnr,hqn,hqm⟩,hk⟩:=h.h;subst hnr hlo;obtain⟨B,cb,hxe,p1,p2,p3,p4,p5,p6⟩:=(hu _ _ _ _ hob).2 rfl;rw[hxe]at fin;obtain⟨q1,q2,q3,q4⟩:=rowOf (n:=0) hg.aK hob hr;subst q2;rw[Nat.sub_zero]at p5;subst p5;have hcap:=Dp q4;rcases uz m with h0|h0
  ·subst h0;have hmax:Nat.max n (q+0)=n:=Nat.max_eq_left hqn;have key:=AZ (m:=0) (c':=cb) (A':=A) (g':=qg q 0 g g2) hg hob hr (λ_=>⟨rfl,rfl⟩) rfl rfl rfl (bu _) (λ_ _ _=>rfl) (λhc b off e=>.inl (by unfold dA;rw[hob];exact⟨A,cb,hr,hc,off,e⟩)) (λhs=>by
    rcases q4 with q4|⟨hc0,b,cs,e1,e2,e3,e4,e5,e6⟩
    ·exact .inl q4
    ·refine .inr ⟨hc0,b,cs,e1,e2,e3,e4,e5,λj hj q' hq=>?_⟩;obtain⟨x,p1,p2,p3⟩:=e6 j hj q' hq;refine⟨x,p1,p2,?_⟩;rw[vN];split
     ·exact p3.dS hs hg.aK
     ·rw[if_neg qO];exact p3.dS hs hg.aK)
   refine fin (G':=G.upd i (.row A cb)) (PY hk1 hok p1) hk ?_;rw[hmax];refine⟨key.1,key.2.1,?_⟩;have hv:=QT (q:=q) key.1.aK (by rw[qG,if_pos rfl]) key.2.2 qO;rcases uz cb with hc0|hc0
   ·obtain⟨A',c',hr',_,hu'⟩:=hv;refine⟨A',c',hr',⟨_,_,rfl⟩,λE' s' m' g' e=>⟨(hu' _ _ _ _ e).1,λe2=>?_⟩⟩;obtain⟨B',cb',e3,_,_,_,_,e4,_⟩:=(hu' _ _ _ _ e).2 e2;injection e3 with e3 e5 e6
    subst hc0;subst e6;exact⟨B,0,rfl,by omega,by omega,λ_=>rfl,λh=>by omega,e4,λh=>by omega⟩
   ·rw[p6 hc0,show A.map (·.add (0*(tI (tI ty).elem).size))=A by cases A <;> simp[Addr.add]];exact hv
  ·rcases uz cb with hc0|hc0
   ·subst hc0;have hn0:n=0:=by have:=hcap.1;omega
    subst hn0;have hq0:q=0:=qO;subst hq0;have hmax:Nat.max 0 (0+m)=0+m:=Nat.max_eq_right (cu _);rw[hmax]at hk;obtain⟨A',c',w',hrun,hov,hgr,hA'⟩:=Lc (t2:=o.type) (cy:=cy) (n:=0) (c:=0) (A:=none) hk1 rfl hok hz0 hby (at1 w 0 _ _) hnl hrd hone hqm;have hb:=Ur rfl hgr;have key:=AZ (A':=A') (c':=c') (m:=m) (g':=qg 0 m g g2) hg hob hr (λe=>by omega) hb.os hb.tape hb.output hb.size (λb hb' _=>hb.block b hb') (λ_ b off e=>.inr (by
     rcases hA' with rfl|rfl
     ·cases e
     ·injection e with e;injection e with e;omega)) (λhs=>Jg hz0 hov (λj hj q' hq=>by
     obtain⟨x,e1,e2,e3⟩:=hnews j qO q' hq;exact⟨x,by rw[List.nil_append];exact e1,e2,by rw[vN,if_neg qO,if_pos qO,Nat.sub_zero];exact e3.dS hs hg.aK⟩))
    refine fin (v:=.slice A' (0+m) c') ?_ hk ⟨key.1,key.2.1,QT key.1.aK (by rw[qG,if_pos rfl]) key.2.2 (bu _)⟩;rcases B with _|B
    ·exact hrun
    ·rw[Vu hk1 hok hby h0 qO];exact hrun
   ·have hB:=p6 hc0;obtain⟨b0,rfl⟩:=acV q4 hc0;rw[pF,ug,Nat.zero_mul]at hB;subst hB;rcases q4 with ⟨hz,_⟩|⟨_,b1,cs,e1,e2,e3,e4,e5,e6⟩
    ·omega
    injection e1 with e1
    injection e1 with e1
    subst e1;rcases mP cb (q+m) with iC|iC
    ·have hmax:Nat.max n (q+m)=n+(q+m-n):=by rw[Nat.add_sub_cancel' qO];exact Nat.max_eq_right qO
     rw[hmax]at hk;have hle:=uV (tI (tI ty).elem).size p1;have NT:Ov w 0 (tI ty).elem (tI (tI ty).elem).size (some ⟨b0,0,none⟩) q cb (cs.toList.take (q*(tI (tI ty).elem).size)):=⟨by rw[dP];simp;omega,.inr ⟨b0,cb,cs,rfl,cu _,e2,p1,p2,e3,rfl⟩⟩;obtain⟨A',c',w',hrun,hov,hgr,hA'⟩:=Lc (t2:=o.type) (cy:=cy) hk1 rfl hok hz0 hby NT hnl hrd hone hqm;have hown0:dA G t.get i b0:=by unfold dA;rw[hob];exact⟨_,cb,hr,hc0,_,rfl⟩
     have hlen0:=NT.len;have hsum:n+(q+m-n)=q+m:=qO;have key:=AZ (A':=A') (c':=c') (m:=q+m-n) (g':=qg q m g g2) hg hob hr (λe=>by omega) hgr.os hgr.tape hgr.output hgr.size (λb hb' hn=>hgr.block b hb' (λe=>by
      have e':some b=some b0:=e;injection e' with e'
      exact hn (by rw[e'];exact hown0))) (λ_ b off e=>by
      rcases hA' with rfl|rfl
      ·injection e with e;injection e with e;rw[<-e];exact .inl hown0
      ·injection e with e;injection e with e;exact .inr qO) (λhs=>by
      rw[hsum]at hs ⊢;exact Jg hz0 hov (λj hj q' hq=>by
       by_cases hjn:j<q
       ·obtain⟨x,a1,a2,a3⟩:=e6 j qO q' hq;refine⟨x,?_,a2,by rw[vN,if_pos hjn];exact a3.dS hs hg.aK⟩;have:=vP hjn hq;rw[mO (by rw[hlen0];exact this),oh,if_pos this];simpa using a1
       ·obtain⟨x,a1,a2,a3⟩:=hnews (j-q) qO q' hq;refine⟨x,?_,a2,by rw[vN,if_neg hjn,if_pos qO];exact a3.dS hs hg.aK⟩;have hsub:j*(tI (tI ty).elem).size=q*(tI (tI ty).elem).size+(j-q)*(tI (tI ty).elem).size:=by rw[<-Nat.add_mul,Nat.add_sub_cancel' qO]
        rw[oW (by rw[hlen0,hsub];omega),hlen0,hsub,show q*(tI (tI ty).elem).size+(j-q)*(tI (tI ty).elem).size+q'-q*(tI (tI ty).elem).size=(j-q)*(tI (tI ty).elem).size+q' by omega];exact a1))
     exact fin hrun hk ⟨key.1,key.2.1,QT (c:=c') (A:=A') key.1.aK (by rw[qG,if_pos rfl]) key.2.2 qO⟩
    ·have hrun:=ahA (t2:=o.type) (cy:=cy) hk1 rfl hok e2 e3 hnl hrd hone h0 hz0 iC;have key:=UJ (p:=q) (m:=m) (h:=g2) (news:=news) hg hob hr rfl hc0 e2 e3 e6 e5 hqn iC e4 rfl hnl hnews;exact fin hrun hk ⟨key.1,key.2.1,QT key.1.aK (by rw[qG,if_pos rfl]) key.2.2 (Nat.le_max_right _ _)⟩
 ·obtain⟨h0,hk⟩:=h.h;subst h0;have hx0:=hx;obtain⟨A,c,hxe,q1,q2,_⟩:=hx;rw[hxe]at fin hx0;exact fin (PY hk1 hok q1) hk ⟨hg,Stp.refl _ _ _,hx0⟩
 ·exact h.elim
theorem ado{n p m:Nat}(h:p+m<=n):Nat.max n (p+m)=n:=Nat.max_eq_left h
theorem ahn{m k z:Nat}{news:List Value}{P:Nat->Nat->Value->Prop}(hl:news.length=m*z)(hk:k<=m)(hn:∀ j,j<m->∀ q,q<z->∃ x,news[j*z+q]?=some x/\x.oneCell'=true/\P j q x):(news.take (k*z)).length=k*z/\∀ j,j<k->∀ q,q<z->∃ x,(news.take (k*z))[j*z+q]?=some x/\x.oneCell'=true/\P j q x:=by
 have:=uV z hk;refine⟨by rw[dP];omega,λj hj q hq=>?_⟩;obtain⟨x,e1,e2⟩:=hn j qO q hq;exact⟨x,by rw[oh,if_pos (vP hj hq)];exact e1,e2⟩
theorem alh{B:Nat}{A:Option Addr}{news:List Value}(n:Nat)(h:Rd w B A news):Rd w B A (news.take n):=λhp=>by
 have hl:0<news.length:=by rw[dP]at hp;omega
 obtain⟨b,off,e1,e2,e3⟩:=h hl;exact⟨b,off,e1,e2,λi hi=>by
  rw[dP]at hi;rw[e3 i qO,oh,if_pos qO]⟩
theorem ai7{ty:Nat}{x y:Operand}{vx vy:V}(hg:bV G t w)(ho:o.op = .call { callee:=.builtin .copy,args:=#[x,y],argTypes:=#[ty,ty] })(hx:aO G t.get w vx (a.eval x))(hy:aO G t.get w vy (a.eval y))(h:Nk ty vx vy t K):eu o a G t w K:=by
 have fin:∀ {v:Value} {V:V} {t':ST} {G':Gh} {w':World},(Builtin.copy_ #[ty,ty] o.type #[a.eval x,a.eval y]).run Tryz.prog w = .ok v w'->K V t'->bV G' t' w'/\Stp G t.get w G' t'.get w'/\aO G' t'.get w' V v->eu o a G t w K:=λ{v V t' G' w'} hrun hk hh=>by
  unfold eu Oper.wp Oper.upon execOp;simp only[ho,resolve,invoke,builtin,Sem.run_bind,Sem.run_pure,Result.andThen_ok];simp only[List.map_toArray,List.map_cons,List.map_nil,hrun,Result.andThen_ok];exact⟨v,V,t',G',rfl,hk,hh⟩
 unfold Nk at h;split at h;rotate_left
 ·exact h.elim
 rename_i hk1 hE
 obtain⟨hok,hz0⟩:=kJ hE;have hz0:=lS hz0;have Eg:=Qq hg.aK hz0 hy h;clear h;obtain⟨m,g2,Ay,cy,news,h,hye,hnl,hrd,hnews⟩:=Eg;rw[hye]at fin;have core:∀ {i n lo q:Nat} {E z:Nat} {g:Nat->Nat->V} {A B:Option Addr} {c cb:Nat},t.get i = .row E z n g->E=(tI ty).elem->G.ρ i=some (.row A c)->lo+q<=n->a.eval x = .slice B q cb->(0<q->B=A.map (·.add (lo*z)))->K (.i (Nat.min m q)) (t.set i (.row E z n (qg lo (Nat.min m q) g g2)))->eu o a G t w K:=λ{i n lo q E z g A B c cb} hob hEE hr iC hxe hB hk=>by
  subst hEE;rw[hxe]at fin;obtain⟨q1,q2,q3,q4⟩:=rowOf (n:=0) hg.aK hob hr;subst q2;have hcap:=Dp q4;have aqo:Nat.min m q<=m:=Nat.min_le_left m q;have asl:Nat.min m q<=q:=Nat.min_le_right m q;have hone:=Xn hz0 hnl hnews;obtain⟨t1,t2⟩:=ahn hnl aqo hnews;have aqk:∀ {of c b:Nat} {cs:Array Value},w.heap[b]?=some (.cells cs (tI ty).elem (0,0))->of+(news.take (Nat.min m q*(tI (tI ty).elem).size)).length<=cs.size->0<Nat.min m q->(Builtin.copy_ #[ty,ty] o.type #[.slice (some ⟨b,of,none⟩) q c,.slice Ay m cy]).run Tryz.prog w = .ok (goInt (Nat.min m q)) (w.setRow b (cs.toList.take of++news.take (Nat.min m q*(tI (tI ty).elem).size)++cs.toList.drop (of+(news.take (Nat.min m q*(tI (tI ty).elem).size)).length)).toArray):=λe2 iC h0=>aaD hk1 rfl hok e2 iC t1 (alh _ hrd) (λu hu=>hone u (List.mem_of_mem_take hu)) h0 hz0
  have aqj:Nat.min m q=0->(Builtin.copy_ #[ty,ty] o.type #[.slice B q cb,.slice Ay m cy]).run Tryz.prog w = .ok (goInt 0) w:=λh0=>by
   have hz:=qf (w:=w) hok;rcases B with _|B <;> rcases Ay with _|Ay <;> simp[Builtin.copy_,run_underlying (qw hk1),hz,Builtin.lenOf,Builtin.firstCells,h0,loadCells,loadCellsFrom,storeCells,Result.andThen]
  generalize Nat.min m q=km at *;rcases uz (km) with h0|h0
  ·rw[h0]at hk;have key:=AZ (m:=0) (c':=c) (A':=A) (g':=qg lo 0 g g2) hg hob hr (λ_=>⟨rfl,rfl⟩) rfl rfl rfl (bu _) (λ_ _ _=>rfl) (λhc b off e=>.inl (by unfold dA;rw[hob];exact⟨A,c,hr,hc,off,e⟩)) (λhs=>by
    rcases q4 with q4|⟨hc0,b,cs,e1,e2,e3,e4,e5,e6⟩
    ·exact .inl q4
    ·refine .inr ⟨hc0,b,cs,e1,e2,e3,e4,e5,λj hj q' hq=>?_⟩;obtain⟨x,p1,p2,p3⟩:=e6 j hj q' hq;refine⟨x,p1,p2,?_⟩;rw[vN];split
     ·exact p3.dS hs hg.aK
     ·rw[if_neg qO];exact p3.dS hs hg.aK)
   exact fin (v:=goInt 0) (aqj h0) hk ⟨key.1,key.2.1,rfl⟩
  ·rcases q4 with ⟨_,hz⟩|⟨hc0,b,cs,rfl,e2,e3,e4,e5,e6⟩
   ·omega
   have hB:=hB qO;rw[pF,ug,jm]at hB;subst hB;have hle:=uV (tI (tI ty).elem).size (show lo+km<=c by omega);rw[Nat.add_mul]at hle;have hrun:=aqk (c:=cb) (of:=lo*(tI (tI ty).elem).size) e2 (by rw[t1,e3];exact hle) h0;have key:=UJ (p:=lo) (m:=km) (h:=g2) (N:=n) hg hob hr rfl hc0 e2 e3 e6 e5 qO qO e4 (ado qO).symm t1 t2;exact fin hrun hk ⟨key.1,key.2.1,rfl⟩
 split at h
 ·rename_i i n
  obtain⟨A,c,hr,_,hu⟩:=hx;split at h;rotate_left
  ·exact h.elim
  rename_i E z r g hob
  split at h;rotate_left
  ·exact h.elim
  rename_i hEq
  obtain⟨rfl,hk⟩:=h.h;exact core (lo:=0) (q:=n) hob (dH hEq) hr qO ((hu _ _ _ _ hob).2 rfl) (λ_=>by cases A <;> simp[Addr.add]) hk
 ·rename_i i n lo q
  obtain⟨A,c,hr,_,hu⟩:=hx;split at h;rotate_left
  ·exact h.elim
  rename_i E z r g hob
  split at h;rotate_left
  ·exact h.elim
  rename_i hEq
  obtain⟨⟨rfl,iC⟩,hk⟩:=h.h;obtain⟨B,cb,hxe,p1,p2,p3,p4,p5,p6⟩:=(hu _ _ _ _ hob).2 rfl;exact core hob (dH hEq) hr iC hxe p4 hk
 ·exact h.elim
theorem ahI{ty:Nat}{x:Operand}{vx:V}(hg:bV G t w)(ho:o.op = .call { callee:=.builtin .clear,args:=#[x],argTypes:=#[ty] })(hx:aO G t.get w vx (a.eval x))(h:MH ty vx t K):eu o a G t w K:=by
 have fin:∀ {v:Value} {V:V} {t':ST} {G':Gh} {w':World},(Builtin.clear_ #[ty] o.type #[a.eval x]).run Tryz.prog w = .ok v w'->K V t'->bV G' t' w'/\Stp G t.get w G' t'.get w'/\aO G' t'.get w' V v->eu o a G t w K:=λ{v V t' G' w'} hrun hk hh=>by
  unfold eu Oper.wp Oper.upon execOp;simp only[ho,resolve,invoke,builtin,Sem.run_bind,Sem.run_pure,Result.andThen_ok];simp only[List.map_toArray,List.map_cons,List.map_nil,hrun,Result.andThen_ok];exact⟨v,V,t',G',rfl,hk,hh⟩
 unfold MH at h;split at h;rotate_left
 ·exact h.elim
 rename_i i n lo q hk1 hE
 obtain⟨hok,hz0⟩:=kJ hE;have hz0:=lS hz0;obtain⟨A,c,hr,_,hu⟩:=hx;split at h;rotate_left
 ·exact h.elim
 rename_i E z r g hob
 split at h;rotate_left
 ·exact h.elim
 rename_i hEq
 obtain rfl:=dH hEq;obtain⟨⟨rfl,iC⟩,hk⟩:=h.h;obtain⟨B,cb,hxe,p1,p2,p3,p4,p5,p6⟩:=(hu _ _ _ _ hob).2 rfl;rw[hxe]at fin;obtain⟨q1,q2,q3,q4⟩:=rowOf (n:=0) hg.aK hob hr;subst q2;rcases uz q with h0|h0
 ·subst h0;have key:=AZ (m:=0) (c':=c) (A':=A) (g':=qg lo 0 g (λ_ k=>iE (tI ty).elem k)) hg hob hr (λ_=>⟨rfl,rfl⟩) rfl rfl rfl (bu _) (λ_ _ _=>rfl) (λhc b off e=>.inl (by unfold dA;rw[hob];exact⟨A,c,hr,hc,off,e⟩)) (λhs=>by
   rcases q4 with q4|⟨hc0,b,cs,e1,e2,e3,e4,e5,e6⟩
   ·exact .inl q4
   ·refine .inr ⟨hc0,b,cs,e1,e2,e3,e4,e5,λj hj q' hq=>?_⟩;obtain⟨x,p1,p2,p3⟩:=e6 j hj q' hq;refine⟨x,p1,p2,?_⟩;rw[vN];split
    ·exact p3.dS hs hg.aK
    ·rw[if_neg qO];exact p3.dS hs hg.aK)
  refine fin (v:=.tuple #[]) ?_ hk ⟨key.1,key.2.1,trivial⟩;rcases B with _|B <;> simp[Builtin.clear_,run_underlying (qw hk1),Result.andThen]
 ·rcases q4 with ⟨_,hz⟩|⟨hc0,b,cs,rfl,e2,e3,e4,e5,e6⟩
  ·omega
  have hB:=p4 h0;rw[pF,ug,jm]at hB;subst hB;obtain⟨i',z,hi,hzr⟩:=Gi (G:=G) (t:=t) (w:=w) q1;have hzs:=hi.BC;have hle:=uV (tI (tI ty).elem).size (show lo+q<=c by omega);rw[Nat.add_mul]at hle;have hzc:∀ j,j<q->∀ k,k<(tI (tI ty).elem).size->∃ x,(Builtin.zeroCells z.cells q).toList[j*(tI (tI ty).elem).size+k]?=some x/\x.oneCell'=true/\aO G t.get w (iE (tI ty).elem k) x:=λj hj k hk=>by
   have hlt:=vP hj hk;have hk2:k<z.cells.size:=qO;refine⟨z.cells[k],?_,hzr k _ (uU hk2)⟩;unfold Builtin.zeroCells;rw[qE,Array.getElem?_map,Array.getElem?_range];simp only[hzs,hlt,if_true,pF,Option.some.injEq,dite_true,Xt hk];simp[hk2]
  have hzl:(Builtin.zeroCells z.cells q).toList.length=q*(tI (tI ty).elem).size:=by unfold Builtin.zeroCells;simp[hzs]
  have hone:=Xn (P:=λj k x=>aO G t.get w (iE (tI ty).elem k) x) hz0 hzl hzc;have hst:=run_storeCells_at Tryz.prog b (lo*(tI (tI ty).elem).size) (tI ty).elem (Builtin.zeroCells z.cells q).toList 0 cs w e2 (by rw[hzl,e3,Nat.add_zero];exact hle) hone;simp only[Nat.add_zero]at hst;have key:=UJ (p:=lo) (m:=q) (h:=λ_ k=>iE (tI ty).elem k) (N:=n) hg hob hr rfl hc0 e2 e3 e6 e5 qO qO e4 (ado qO).symm hzl hzc;refine fin (v:=.tuple #[]) ?_ hk ⟨key.1,key.2.1,trivial⟩;obtain⟨q',rfl⟩:∃ q',q=q'+1:=⟨q-1,by omega⟩;simp[Builtin.clear_,run_underlying (qw hk1),zeroValue,typeInfo,hi.h,hi.zero,hst,Result.andThen]
end
end
end Go.Proofs.YtnibdnahojjcgaaGreat
