/- Lemmas. -/
import Derived.Laws.LoneSync
import Derived.Test.YtnibdnahojjcgaaGreatC12
import Derived.Test.YtnibdnahojjcgaaGreatC13
namespace Go.Proofs.YtnibdnahojjcgaaGreat
set_option linter.all false
set_option maxRecDepth 100000
set_option maxHeartbeats 0
open Go.RowKit Tryz
section
section
variable {t0:ST} {X:Cx t0} {Q:Exit->AS->Prop} {s s2:AS}
def aeP{c:Code}(i off E:Nat)(g:Nat->Nat->V){n:Nat}{g0:Nat->V}(hob:s.s.get i = .Wp n g0)(hc:g0 off = .dC)(hoff:off<n)(hE:(tI E).ok=true)(hz:0<(tI E).size)(h:T X c Q ⟨s.nt,s.sl,(s.s.new (.row E (tI E).size 0 g)).set i (.Wp n (oK g0 off 1 (λ_=>.vw s.s.nx 0 0 0)))⟩):T X c Q s:=T.mk λa w hm=>by
 obtain⟨G,hg,hs,hx⟩:=hm;obtain⟨b,cs,ty,e1,e2,e3,e4⟩:=hg.axy.Wp _ _ _ hob;have hcx:=vI (xs:=cs) (i:=off) qO;obtain⟨q1,q2⟩:=e4 off _ hcx;rw[hc]at q2;obtain⟨A,q2⟩:=q2;obtain⟨p1,p2,p3⟩:=JJ (A:=A) (c:=0) (n:=0) (E:=E) (g:=g) hg (Below.refl _ _) hE rfl hz (λh=>by omega) (λ_=>.inl ⟨rfl,rfl⟩);have hlt:i<s.s.nx:=by
  refine Nat.lt_of_not_le λhle=>?_
  have:=(hg.jZ i hle).2;rw[hob]at this;cases this
 have aa3:(s.s.new (.row E (tI E).size 0 g)).get i = .Wp n g0:=by rw[Oa,if_neg qO,hob]
 have I5:(G.upd s.s.nx (.row A 0)).ρ i=some (.Wp b):=by
  show uQ G.ρ s.s.nx _ i=_;rw[uQ,if_neg qO,e1]
 have hch:vG (G.upd s.s.nx (.row A 0)) (s.s.new (.row E (tI E).size 0 g)) ((s.s.new (.row E (tI E).size 0 g)).set i (.Wp n (oK g0 off 1 (λ_=>.vw s.s.nx 0 0 0)))) w w i (.Wp b) (.Wp n (oK g0 off 1 (λ_=>.vw s.s.nx 0 0 0))):=
  ⟨qU _ i _,⟨bF _,Nat.lt_succ_of_lt hlt⟩,rfl,rfl,rfl,bF _,λ_ _ _=>rfl,λb' hb'=>by
   have hb':Loc.Wp b=Loc.Wp b':=hb';injection hb' with hb'
   subst hb';exact .inl (by unfold dB;rw[aa3];exact I5),λb' hb'=>by rw[I5]at hb';exact fD hb',λA' c' hb'=>by rw[I5]at hb';cases hb'⟩
 have hs2:=hch.dX;have hgd:=hch.axy p1 ⟨b,cs,ty,rfl,e2,e3,λk x hk=>⟨(e4 k x hk).1,by
  rw[JX];split
  ·rename_i hk2
   obtain rfl:k=off:=qO;rw[hcx]at hk;injection hk with hk
   rw[<-hk,q2];have p4:aY (G.upd s.s.nx (.row A 0)) (s.s.new (.row E (tI E).size 0 g)).get w (.vw s.s.nx 0 0 0) (.slice A 0 0):=⟨A,0,by show uQ G.ρ s.s.nx _ s.s.nx=_;rw[uQ,if_pos rfl],⟨A,0,rfl⟩,λE' s' q g' _=>⟨cZ _,λ_=>⟨A,0,rfl,bF _,cZ _,λ_=>rfl,λh=>ai h (Nat.lt_irrefl _),rfl,λh=>ai h (Nat.lt_irrefl _)⟩⟩⟩;exact p4.dX hs2 p1.axy
  ·exact((e4 k x hk).2.dX p2 hg.axy).dX hs2 p1.axy⟩⟩ (λk hk=>(p1.jZ k hk).1)
 exact h.h a w ⟨_,hgd,⟨⟨hs.nt,λj=>((hs.sl j).dX p2 hg.axy).dX hs2 p1.axy⟩,hs.df⟩,(hx.trans p2).trans hs2⟩
end
end
def axP(b off:Nat)(x d:Int)(hr : -9223372036854775808<=x+d/\x+d<=9223372036854775807)(w:World)(h0:w.cell? ⟨b,off,none⟩=some (.int .i64 x))(f0:w.frozen? ⟨b,off,none⟩=false) :
  Calls prog 73 #[.pointer (some ⟨b,off,none⟩),.int .i64 d] w λe w'=>e = .returned (.int .i64 (x+d))/\w'=w.setCell ⟨b,off,none⟩ (.int .i64 (x+d)):=by
 have hadd:=run_call_add (P:=prog) (f:=110) func110 qK qK qK .i64 qK (x:=x) (y:=d) (s:=x+d) h0 f0 (by
  have e:IntKind.wrap .i64 (x+d)=x+d:=by rw[IntKind.wrap_i64];omega
  simp[go_sem,e])
 go_enter func73,ntmps73;go_wp2;go_ret;exact⟨rfl,rfl⟩
def MQ{args:List V}{st:ST}{K:V->ST->Prop}{i n off:Nat}{g:Nat->V}(x d:Int)(ha:args=[.ptr i off,iV d])(hob:st.get i = .Wp n g)(ho:off<n)(hx:g off=iV x)(hr : -9223372036854775808<=x+d/\x+d<=9223372036854775807)(hk:K (iV (x+d)) (st.set i (.Wp n (oK g off 1 (λ_=>iV (x+d)))))):af 73 args st K:=by
 subst ha;refine⟨by unfold xy;rw[func73];rfl,λG w us hg hl hv=>?_⟩;obtain⟨u1,u2,rfl⟩:∃ u1 u2,us=[u1,u2]:=by
  obtain _|⟨u1,_|⟨u2,_|⟨u3,q⟩⟩⟩:=us
  ·cases hl
  ·cases hl
  ·exact⟨u1,u2,rfl⟩
  ·simp at hl
 obtain⟨b,hb,rfl⟩:=hv 0 _ _ rfl rfl;have h2:=hv 1 _ _ rfl rfl;obtain rfl:u2 = .int .i64 d:=h2;obtain⟨b',cs,ty,e1,e2,e3,e4⟩:=hg.axy.Wp i n g hob;rw[hb]at e1;injection e1 with e1
 injection e1 with e1
 subst e1;have hoff:off<cs.size:=qO;obtain⟨q1,q2⟩:=e4 off _ (vI hoff);rw[hx]at q2;have q2:cs[off] = .int .i64 x:=q2;have hc:w.cell? ⟨b,off,none⟩=some (.int .i64 x):=by
  have:qc w b ty cs:=e2;rw[this.cell off,vI hoff,q2]
 have hz:w.frozen? ⟨b,off,none⟩=false:=(show qc w b ty cs from e2).free off;refine(axP b off x d hr w hc hz).mono λe w' ⟨h1,h2⟩=>?_
 have hw':w'.heap[b]?=some (.cells (cs.setIfInBounds off (.int .i64 (x+d))) ty (0,0)):=by rw[h2];exact(show qc w b ty cs from e2).set off _
 have hown:dB G st.get i b:=by unfold dB;rw[hob];exact hb
 have hlt:i<st.nx:=by
  refine Nat.lt_of_not_le λhle=>?_
  have:=(hg.jZ i hle).2;rw[hob]at this;cases this
 have hch:vG G st (st.set i (.Wp n (oK g off 1 (λ_=>iV (x+d))))) w w' i (.Wp b) (.Wp n (oK g off 1 (λ_=>iV (x+d)))):={
  get:=qU st i _
  nx:=⟨bF _,hlt⟩
  os:=by rw[h2];rfl
  tape:=by rw[h2];rfl
  output:=by rw[h2];rfl
  size:=by rw[h2];simp
  axz:=λc hc hn=>by rw[h2];exact Below.heap_setCell _ _ _ _ (λe=>hn (by rw[e];exact hown))
  own:=λc hc=>.inl (by have hc:Loc.Wp b=Loc.Wp c:=hc;injection hc with hc;subst hc;exact hown)
  loc:=λc hc=>by rw[hb]at hc;exact fD hc
  row:=λA c hc=>by rw[hb]at hc;cases hc }
 have hs:=hch.dX;have hgd:=hch.axy hg ⟨b,_,ty,rfl,hw',by rw[Array.size_setIfInBounds];exact e3,λk y hk=>by
  rw[JX];by_cases hk2:off=k
  ·subst hk2;rw[Array.getElem?_setIfInBounds_self_of_lt hoff]at hk;injection hk with hk
   subst hk;rw[if_pos ⟨bF _,by omega⟩];exact⟨rfl,rfl⟩
  ·rw[Array.getElem?_setIfInBounds_ne hk2]at hk;rw[if_neg qO];exact⟨(e4 k y hk).1,((e4 k y hk).2).dX hs hg.axy⟩⟩ (λk hk=>(hg.jZ k hk).1)
 exact⟨_,_,_,_,h1,hk,hgd,hs,rfl⟩
def aqP{x:aV}(h:jY x):∀ i,i<(nH x).length->0<=(nH x).getD i 0/\(nH x).getD i 0<=9223372036854775807:=λi hi=>by
 have:=h.nums _ (ja (z:=0) hi);omega
def ald{x:aV}{i:Nat}(h:i<x.l.length):qj (nH x)++(x.l.take (i+1)).map EK=(qj (nH x)++(x.l.take i).map EK)++[EK (x.l.getD i .z)]:=by
 rw[kR .z h,List.map_append,jV];rfl
def ad5(x:aV)(hx:jY x):aQ 92 [jT x,.d (jv [])] (bI [.d (bW (lU x)),iV 0]):=by
 have hl:=hx.len;have hs:=hx.src;have hd:=hx.dst;refine ay func92 λX=>?_
 (repeat'(first|refine T.cut (y:=.seq (.region 14 _ _) _) ⟨83,[(1,.d (jv [])),(2,.ptr 0 0),(10,iV (if x.ok=true then 1 else 0))],⟨[(0,.Wp 10 (λk=>.d (kN x k)))],1⟩⟩ ?_ (T.seq ?_)|refine T.cut (y:=.seq (.region 23 _ _) _) ⟨83,[(11,.row 2 (kz x).length),(1,.d (jv []))],⟨[(2,bQ 163 4 kP .z (kz x))],3⟩⟩ ?_ (ag3 (cZ _) rfl rfl (T.seq ?_))|refine aC ?_|refine aO (FP x (by have:=hx.len;omega)) ?_|refine aj.mk (λh2=>ai h2 (by rw[Ih.2 hx];decide)) (λh=>?_)|refine aO (UI 6 1 (.inr (.inl rfl))) ?_|refine nZ [1] (acX (nH x) (by show 9<=100;decide) (aqP hx)) rfl rfl rfl vw ⟨⟨_,rfl,aW.row rfl (λj hj k hk=>by obtain rfl:k=0:=Nat.lt_one_iff.1 hk;obtain _|_|_|_|_|_|_|_|_|j:=j <;> first|exact qV|(exact ai hj (by show ¬_<9;omega)))⟩,tv⟩ ?_|refine dU (c:=.seq (.region 16 _ _) _) x.l.length (λi (a:List bu)=>⟨83,[(1,.d (jv [])),(11,.row 2 a.length),(57,.d (gY x.l)),(58,iV x.l.length),(59,iV i)],⟨[(2,bQ 163 4 kP .z a)],3⟩⟩) (λi a=>a=qj (nH x)++(x.l.take i).map EK/\a.length<=9+i) (qj (nH x)) ?_ ?_ (λi a hi hp=>?_)|refine aZ (a++[EK (x.l.getD i .z)]) ⟨?_,?_,?_⟩|refine aO (ajw (x.l.getD i .z) (hx.es _ (ja om)) (Nh (hx.es _ (ja om))).1) ?_|refine aO (Yx (kz x) (TF hx)) ?_|refine BN ?_|refine TL.round ?_|refine aj.n (λh=>?_)|refine aj.mk (λh=>?_) (λh=>?_)|refine ag.a ?_|refine kJ rfl vw|refine ag.mk ?_ ?_))<;>try exact cls
 all_goals(try(refine leq ?_ ?_ <;> repeat'(first|exact tv|exact qV|exact qW|refine vq (ah (V.row _) ?_) qN|refine vq (ah iV ?_) tv|refine fE qN ?_ ?_|refine an ⟨nb rfl,aW.row ?_ (λj hj k hk=>nN ?_)⟩ ?_|refine an ?_ ?_)))
 all_goals first|(refine⟨by simp,?_⟩;exact Xo (nH x) 0)|(simp;done)|exact(if_pos ‹_›).symm|(rw[‹x.ok=false›];rfl)|((try simp only[gq,iy,nY,o9]at *);obtain⟨hp1,hp2⟩:=hp;have h9:i<x.l.length:=qo;first|omega|(refine⟨by rw[ald h9,<-hp1],by simp;omega⟩)|(refine dm.mk (kU rfl (by simpa using hj) fr (λj hj=>(by obtain rfl:j=0:=(by simp at hj;omega);obtain _|_|_|_|k:=k <;> first|exact qV|omega)))))|((try simp only[gq,iy,nY,o9]at *);have e:a=kz x:=(by rw[hp.1,jU qo];rfl);subst e;first|rfl|exact dm.mk qV)
def fP{t0:ST}{X:Cx t0}{c:Code}{Q:Exit->AS->Prop}{s:AS}(h:T X c Q s):T X c Q s:=h
