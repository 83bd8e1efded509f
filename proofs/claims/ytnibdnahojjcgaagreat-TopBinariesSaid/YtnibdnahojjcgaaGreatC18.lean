/- Lemmas. -/
import Derived.Test.YtnibdnahojjcgaaGreatC16
namespace Go.Proofs.YtnibdnahojjcgaaGreat
set_option linter.all false
set_option maxRecDepth 100000
set_option maxHeartbeats 0
open Go.RowKit Tryz
section
def Rz(v:V):dI (λk=>some k) v=v:=by
 induction v with
 |agg n g ih=>exact ah (V.agg n) (funext ih)
 |gQ n g ih=>exact ah (V.gQ n) (funext ih)
 |fn f nf n g ih=>exact ah (V.fn f nf n) (funext ih)
 |kQ t w x ih=>exact ah (V.kQ t w) ih
 |_=>rfl
def QB(o o':Nat->aK):Prop:=∀ i E s n g,o' i = .row E s n g->∃ g0,o i = .row E s n g0
def aY.Hm{G:Gh}{o o':Nat->aK}{w:World}{v:V}{u:Value}(hs:QB o o')(h:aY G o w v u):aY G o' w v u:=by
 have:=RS (G:=G) (G':=G) (o:=o) (o':=o') (φ:=λk=>some k) rfl (λi k e=>by injection e with e;rw[e]) (λi k e E s n g h2=>by injection e with e;subst e;exact hs i E s n g h2) h;rwa [Rz]at this
section
variable {G:Gh} {w:World} {t:ST} {i E s n:Nat} {g g':Nat->Nat->V}
def YB(h:t.get i = .row E s n g):QB t.get (t.set i (.row E s n g')).get:=λj E' s' n' g2 e=>by
 rw[qU]at e;by_cases hj:j=i
 ·rw[if_pos hj]at e;injection e with a b c d
  subst a b c;exact⟨g,by rw[hj];exact h⟩
 ·rw[if_neg hj]at e;exact⟨g2,e⟩
def adz(h:t.get i = .row E s n g):QB (t.set i (.row E s n g')).get t.get:=λj E' s' n' g2 e=>by
 by_cases hj:j=i
 ·rw[hj,h]at e;injection e with a b c d
  subst a b c;exact⟨g',by rw[qU,if_pos hj]⟩
 ·exact⟨g2,by rw[qU,if_neg hj];exact e⟩
def Nu(h:t.get i = .row E s n g){j b:Nat}:dB G (t.set i (.row E s n g')).get j b↔dB G t.get j b:=by
 unfold dB;rw[qU];by_cases hj:j=i
 ·rw[if_pos hj,hj,h]
 ·rw[if_neg hj]
def bZ.row(hg:bZ G t w)(h:t.get i = .row E s n g)(hv:∀ j,j<n->∀ k,k<s->∀ u,aY G t.get w (g j k) u->aY G t.get w (g' j k) u):bZ G (t.set i (.row E s n g')) w:=by
 have hs:=YB (g':=g') h;have hi:i<t.nx:=by
  refine Nat.lt_of_not_le λhle=>?_
  have:=(hg.jZ i hle).2;rw[h]at this;cases this
 refine⟨⟨λj m f e=>?_,λj E2 s2 m f e=>?_,λj es e=>?_,λj b e=>hg.axy.xP j b ((Nu h).1 e),hg.axy.wF,λa b c e1 e2=>hg.axy.sep a b c ((Nu h).1 e1) ((Nu h).1 e2)⟩,λj hj=>⟨(hg.jZ j hj).1,?_⟩⟩
 ·rw[qU]at e;by_cases hj:j=i
  ·rw[if_pos hj]at e;cases e
  ·rw[if_neg hj]at e;obtain⟨b,cs,ty,e1,e2,e3,e4⟩:=hg.axy.Wp _ _ _ e;exact⟨b,cs,ty,e1,e2,e3,λk x hx=>⟨(e4 k x hx).1,((e4 k x hx).2).Hm hs⟩⟩
 ·rw[qU]at e;by_cases hj:j=i
  ·rw[if_pos hj]at e;injection e with a b c d
   subst a b c d hj;obtain⟨e1,e2,e3,A,c,e4,e5⟩:=hg.axy.row _ _ _ _ _ h;refine⟨e1,e2,e3,A,c,e4,?_⟩;obtain e5|⟨e5,b,cs,e6,e7,e8,e9,e10,e11⟩:=e5
   ·exact .inl e5
   ·refine .inr ⟨e5,b,cs,e6,e7,e8,e9,e10,λa ha k hk=>?_⟩;obtain⟨x,p1,p2,p3⟩:=e11 a ha k hk;exact⟨x,p1,p2,(hv a ha k hk x p3).Hm hs⟩
  ·rw[if_neg hj]at e;obtain⟨e1,e2,e3,A,c,e4,e5⟩:=hg.axy.row _ _ _ _ _ e;refine⟨e1,e2,e3,A,c,e4,?_⟩;obtain e5|⟨e5,b,cs,e6,e7,e8,e9,e10,e11⟩:=e5
   ·exact .inl e5
   ·refine .inr ⟨e5,b,cs,e6,e7,e8,e9,e10,λa ha k hk=>?_⟩;obtain⟨x,p1,p2,p3⟩:=e11 a ha k hk;exact⟨x,p1,p2,p3.Hm hs⟩
 ·rw[qU]at e;by_cases hj:j=i
  ·rw[if_pos hj]at e;cases e
  ·rw[if_neg hj]at e;obtain⟨b,jF,cl,e1,e2,e3⟩:=hg.axy.map _ _ e;exact⟨b,jF,cl,e1,e2,e3.to λk=>by
    cases dY es k
    ·trivial
    ·exact λu hu=>hu.Hm hs⟩
 ·have:i≠j:=λe=>by subst e;have hj:t.nx<=i:=hj;omega
  rw[qU,if_neg (λe=>this e.symm)];exact(hg.jZ j hj).2
end
def Stp.Hm{G G':Gh}{o o1 o' o1':Nat->aK}{w w':World}(h:Stp G o w G' o' w')(h1:∀ i b,dB G o1 i b↔dB G o i b)(h2:∀ i b,dB G' o1' i b↔dB G' o' i b)(s1:QB o1 o)(s2:QB o' o1'):Stp G o1 w G' o1' w' where
 os:=h.os
 tape:=h.tape
 output:=h.output
 size:=h.size
 axz:=λb hb hn=>h.axz b hb λi hi=>hn i ((h1 i b).2 hi)
 F1:=h.F1
 F2:=h.F2
 own:=λi b ho=>by
  obtain h3|h3:=h.own i b ((h2 i b).1 ho)
  ·exact .inl ((h1 i b).2 h3)
  ·exact .inr h3
 loc:=h.loc
 row:=λi A c hi=>by
  obtain⟨A',c',e1,e2⟩:=h.row i A c hi;refine⟨A',c',e1,λE s m g e=>?_⟩;obtain⟨g2,e3⟩:=s2 i E s m g e;obtain⟨m0,g0,e4,e5,e6⟩:=e2 E s m g2 e3;obtain⟨g3,e7⟩:=s1 i E s m0 g0 e4;exact⟨m0,g3,e7,e5,e6⟩
def gx(A:Nat)(g:Nat->Nat->V)(p:Nat->Value)(j k:Nat):V:=bif Nat.beq j A then g j k else .d (.v (p j))
def alB{f:Nat}{args:List V}{st T2:ST}{r:V}{i E s n A:Nat}{g:Nat->Nat->V}{q:Nat->Nat}(h1:st.get i = .row E s n g)(hg:∀ j k,g j k = .ptr (q j) 0)(hs:s=1)(hq:∀ j,j<n->∃ m c,st.get (q j) = .Wp m c)(h2:T2.get i = .row E s n g)(h:∀ p:Nat->Value,af f args (st.set i (.row E s n (gx A g p))) (λv t=>v=r/\t=T2.set i (.row E s n (gx A g p)))):af f args st (λv t=>v=r/\t=T2):=by
 refine⟨(h λ_=>undef).1,λG w us hgd hl hv=>?_⟩;have hb:∀ j,∃ b:Nat,j<n->G.ρ (q j)=some (.Wp b):=λj=>by
  by_cases hj:j<n
  ·obtain⟨m,c,hm⟩:=hq j hj;obtain⟨b,_,_,e,_⟩:=hgd.axy.Wp _ _ _ hm;exact⟨b,λ_=>e⟩
  ·exact⟨0,λh=>ai h hj⟩
 obtain⟨bs,hbs⟩:∃ bs:Nat->Nat,∀ j,j<n->G.ρ (q j)=some (.Wp (bs j)):=⟨λj=>(hb j).choose,λj hj=>(hb j).choose_spec hj⟩
 let p:Nat->Value:=λj=>.pointer (some ⟨bs j,0,none⟩)
 have hgd1:bZ G (st.set i (.row E s n (gx A g p))) w:=hgd.row h1 λj hj k hk u hu=>by
  unfold gx;cases Nat.beq j A
  ·rw[hg]at hu;obtain⟨b,e1,e2⟩:=hu;rw[hbs j hj]at e1;injection e1 with e1
   injection e1 with e1
   subst e1;exact e2
  ·exact hu
 refine((h p).2 G w us hgd1 hl λk v u e1 e2=>(hv k v u e1 e2).Hm (YB h1)).mono λe w' ⟨v,V,t',G',e1,⟨e2,e3⟩,e4,e5,e6⟩=>?_
 subst e2 e3;have hx:(T2.set i (.row E s n (gx A g p))).get i = .row E s n (gx A g p):=by rw[qU,if_pos rfl]
 have hgd2:=e4.row (g':=g) hx λj hj k hk u hu=>by
  unfold gx at hu;rcases hbq:Nat.beq j A with _|_
  ·rw[hbq]at hu;have hu:u=p j:=hu;rw[hg];exact⟨bs j,e5.loc _ _ (hbs j hj),hu⟩
  ·rw[hbq]at hu;exact hu
 have hget:((T2.set i (.row E s n (gx A g p))).set i (.row E s n g)).get=T2.get:=funext λj=>by
  rw[qU];by_cases hj:j=i
  ·rw[if_pos hj,hj,h2]
  ·rw[if_neg hj,qU,if_neg hj]
 have awY:bZ G' T2 w':=abW hgd2 rfl hget.symm;refine⟨v,V,T2,G',e1,⟨rfl,rfl⟩,awY,e5.Hm (λj b=>(Nu h1).symm) (λj b=>(Nu (t:=T2) h2).symm) (YB h1) (adz (t:=T2) h2),e6.Hm (adz (t:=T2) h2)⟩
end
def oJ(n:Int)(l:List bH):List aP:=(List.range l.length).map λ(i:Nat)=>⟨3,n+(i:Int)+1,(l.getD i .z).term,(l.getD i .z).b⟩
def tV(c:Int):List aP:=bif !decide (c=0) then [⟨4,c,0,[]⟩] else []
def bg(s:bC)(x:aV):List aP×Bool×Int:=
 bif decide (x.term<s.term) then([],false,0)
 else bif !decide (mi s.log x.a=x.b) then(gW s x.term,false,0)
 else((gW s x.term++tV (oQ s.log x.a.toNat x.l).1)++oJ (x.a+x.l.length-(oQ s.log x.a.toNat x.l).2.length) (oQ s.log x.a.toNat x.l).2,true,x.a+x.l.length)
def ao0(s:bC)(x:aV)(hx:jY x)(fF:x.kind=3)(jP:x.a+x.l.length<=64)(hl:s.log.length<=1000)(ht:x.term<s.term):aQ 157 [jC s,jT x] (bI [.d (kK (bg s x).1),.b (bg s x).2.1,iV (bg s x).2.2,iV 0]):=by refine ay func157 λX=>?_;exact ab5
def aoW(s:bC)(x:aV)(hx:jY x)(fF:x.kind=3)(jP:x.a+x.l.length<=64)(hl:s.log.length<=1000)(ht:¬x.term<s.term)(hn:mi s.log x.a≠x.b):aQ 157 [jC s,jT x] (bI [.d (kK (bg s x).1),.b (bg s x).2.1,iV (bg s x).2.2,iV 0]):=by refine ay func157 λX=>?_;exact ab5
abbrev nT(s:bC)(x:aV):Int×List bH:=oQ s.log x.a.toNat x.l
abbrev Hl(s:bC)(x:aV):List aP:=gW s x.term++tV (nT s x).1
abbrev Qj(s:bC)(x:aV):Int:=x.a+x.l.length-(nT s x).2.length
def TE:∀(b:Int) (h l:List bH),(kD b h l).2.length<=l.length
 |b,h,[]=>by unfold kD;exact bF _
 |b,[],x::r=>by unfold kD;exact bF _
 |b,y::t,x::r=>by
  unfold kD;cases decide (y.term=x.term)
  ·exact bF _
  ·have:=TE (b+1) t r;simp only[dw,lT];omega
def ad4{s:bC}{x:aV}(hx:jY x)(h:mi s.log x.a=x.b):x.a.toNat<=s.log.length:=by
 unfold mi at h;have:=hx.a;have:=hx.b;by_cases h1:x.a=0
 ·omega
 ·rw[aT h1,bz,aT (show ¬x.a<0 by omega),bz]at h;by_cases h2:(s.log.length:Int)<x.a
  ·rw[aX h2,dw]at h;omega
  ·omega
def Vj{s:bC}{x:aV}{B:List aP}(hb:gW s x.term=B)(h:(!decide ((nT s x).1=0))=true):Hl s x=B++[⟨4,(nT s x).1,0,[]⟩]:=by
 show gW s x.term++tV (nT s x).1=_;unfold tV;rw[hb,h];rfl
def PM{s:bC}{x:aV}{B:List aP}(hb:gW s x.term=B)(h:(!decide ((nT s x).1=0))=false):Hl s x=B:=by
 show gW s x.term++tV (nT s x).1=_;unfold tV;rw[hb,h];exact pO _
def VL{s:bC}{t:Int}(h:t=s.term):gW s t=[]:=by unfold gW;rw[aX qO];rfl
def Qn{s:bC}{t:Int}(h:s.term<t):gW s t=jh t 0:=by unfold gW;rw[aT qO];rfl
def Sr{n:Int}{l:List bH}:(oJ n l).length=l.length:=by unfold oJ;rw[lZ,List.length_range]
def ae6{s:bC}{x:aV}:(Hl s x).length<=2:=by
 show(gW s x.term++tV (nT s x).1).length<=2;unfold gW tV;cases decide (x.term<=s.term) <;> cases decide ((nT s x).1=0) <;> simp[jh]
def afp{n:Int}{l:List bH}{i:Nat}(h:i<l.length):(oJ n l).getD i .z=⟨3,n+i+1,(l.getD i .z).term,(l.getD i .z).b⟩:=by
 unfold oJ;rw[bn,qQ,List.getElem?_range h];rfl
def KJ{s:bC}{x:aV}(ht:¬x.term<s.term)(hn:mi s.log x.a=x.b):bg s x=(Hl s x++oJ (Qj s x) (nT s x).2,true,x.a+x.l.length):=(bG (aT ht)).trans (bG (by rw[aX hn];rfl))
def aoY(s:bC)(x:aV)(hx:jY x)(fF:x.kind=3)(jP:x.a+x.l.length<=64)(hl:s.log.length<=1000)(hn:mi s.log x.a=x.b)(ht:x.term=s.term):aQ 157 [jC s,jT x] (bI [.d (kK (bg s x).1),.b (bg s x).2.1,iV (bg s x).2.2,iV 0]):=by
 have hml:(nT s x).2.length<=x.l.length:=TE _ _ _;have hxa:=hx.a;have hxl:=hx.len;refine ay func157 λX=>?_
 (repeat'(first|refine Fin.eG (i:=2) (h:=λj=>pI (a.getD j .z)) sF (Fin.tell (fH [.d (kK (bg s x).1),.b (bg s x).2.1,iV (bg s x).2.2,iV 0] rfl fr ⟨vq (jB.trans (ah (λL=>V.d (kK L)) (show a=(bg s x).1 by rw[KJ (show ¬x.term<s.term by omega) hn,hp,jU (by rw[Sr];exact om)]))) tv,vq (ah V.b (by rw[KJ (show ¬x.term<s.term by omega) hn])) tv,vq (ah iV (by rw[KJ (show ¬x.term<s.term by omega) hn])) tv,qV,tv⟩))|refine aj.mk (λh=>ai h (by rw[Ih.2 hx,fF,aT (show ¬(64:Int)<x.a+x.l.length by omega)];decide)) (λh=>?_)|refine T.cut (y:=.seq (.seq (.region 10 _ _) _) _) ⟨95,[(2,.ptr 0 0),(3,.ptr 1 0),(4,.dC),(5,.b false),(6,iV (x.a+x.l.length)),(7,iV 0),(8,iV (nT s x).1),(9,.d (gY (nT s x).2))],⟨[(0,.Wp 4 (λk=>.d (rq s k))),(1,.Wp 10 (λk=>.d (kN x k)))],2⟩⟩ ?_ (rQ 4 138 (λj k=>.d (pI (([]:List aP).getD j .z) k)) rfl rfl qN (T.seq ?_))|refine dU (c:=.seq (.region 13 _ _) _) (nT s x).2.length (λi (a:List aP)=>⟨95,[(2,.ptr 0 0),(3,.ptr 1 0),(4,.row 2 a.length),(5,.b false),(6,iV (x.a+x.l.length)),(7,iV 0),(8,iV (nT s x).1),(9,.d (gY (nT s x).2)),(70,.d (gY (nT s x).2)),(71,iV (nT s x).2.length),(72,iV i)],⟨[(0,.Wp 4 (λk=>.d (rq s k))),(1,.Wp 10 (λk=>.d (kN x k))),(2,bQ 138 4 pI .z a)],3⟩⟩) (λi a=>a=Hl s x++(oJ (Qj s x) (nT s x).2).take i) (Hl s x) ?_ ?_ (λi a hi hp=>?_)|refine aZ (a++[(oJ (Qj s x) (nT s x).2).getD i .z]) ⟨?_,?_,?_⟩|refine aj.mk (λh=>ai h (by rw[aX hn];decide)) (λh=>?_)|refine aC ?_|refine aO (FP x (by have:=hx.len;omega)) ?_|refine aO (ad1 s x.term qo) ?_|refine aO (YS s.log x.a x.b qo) ?_|refine af.tell (afJ s.log x.a.toNat x.l (ad4 hx hn) hl (by have:=hx.len;omega)) ⟨VW.refl tv,vq (ah iV (by have:=hx.a;omega)) tv,VW.refl tv,tv⟩ ?_|refine aj.n (λh=>?_)|refine aj.mk (λh=>?_) (λh=>?_)|refine ag.a ?_|refine ag.mk ?_ ?_))<;>try exact cls
 all_goals(try(refine leq ?_ ?_ <;> repeat'(first|exact tv|exact qV|exact qW|refine vq (ah (V.row _) ?_) qN|refine fE qN ?_ ?_|refine gU qN ?_ (λj hj k hk=>?_) ?_|refine an ?_ ?_)))
 all_goals first|(rw[Vj (VL ht) h];rfl)|(rw[PM (VL ht) h];rfl)|(have hk:k<4:=hk;rw[Vj (VL ht) h];refine cm (kU (a:=([]:List aP)) rfl hj fr (λj hj=>?_));obtain rfl:j=0:=Nat.lt_one_iff.1 hj;obtain _|_|_|_|k:=k;exact qV;exact qV;exact qV;exact pg rfl;omega)|(rw[PM (VL ht) h];exact cm qV)|(rw[hp,jV,<-kR aP.z (by rw[Sr];exact om)];done)|(have h7:=ah List.length hp;rw[bP,dG]at h7;have h8:=ae6 (s:=s) (x:=x);have h9:=hx.len;(omega))|(simp;done)|(have hj:j<a.length+1:=hj;have hk:k<4:=hk;rw[afp om];refine cm (kU rfl hj fr (λj hj=>?_));obtain rfl:j=0:=Nat.lt_one_iff.1 hj;obtain _|_|_|_|k:=k;exact qV;exact qV;exact qV;exact qV;omega)|exact om
def aoX(s:bC)(x:aV)(hx:jY x)(fF:x.kind=3)(jP:x.a+x.l.length<=64)(hl:s.log.length<=1000)(hn:mi s.log x.a=x.b)(ht:s.term<x.term):aQ 157 [jC s,jT x] (bI [.d (kK (bg s x).1),.b (bg s x).2.1,iV (bg s x).2.2,iV 0]):=by
 have hml:(nT s x).2.length<=x.l.length:=TE _ _ _;have hxa:=hx.a;have hxl:=hx.len;refine ay func157 λX=>?_
 (repeat'(first|refine Fin.eG (i:=3) (h:=λj=>pI (a.getD j .z)) sF (Fin.tell (fH [.d (kK (bg s x).1),.b (bg s x).2.1,iV (bg s x).2.2,iV 0] rfl fr ⟨vq (jB.trans (ah (λL=>V.d (kK L)) (show a=(bg s x).1 by rw[KJ (show ¬x.term<s.term by omega) hn,hp,jU (by rw[Sr];exact om)]))) tv,vq (ah V.b (by rw[KJ (show ¬x.term<s.term by omega) hn])) tv,vq (ah iV (by rw[KJ (show ¬x.term<s.term by omega) hn])) tv,qV,tv⟩))|refine aj.mk (λh=>ai h (by rw[Ih.2 hx,fF,aT (show ¬(64:Int)<x.a+x.l.length by omega)];decide)) (λh=>?_)|refine T.cut (y:=.seq (.seq (.region 10 _ _) _) _) ⟨95,[(2,.ptr 0 0),(3,.ptr 1 0),(4,.row 3 (jh x.term 0).length),(5,.b false),(6,iV (x.a+x.l.length)),(7,iV 0),(8,iV (nT s x).1),(9,.d (gY (nT s x).2))],⟨[(0,.Wp 4 (λk=>.d (rq s k))),(1,.Wp 10 (λk=>.d (kN x k))),(3,bQ 138 4 pI .z (jh x.term 0))],4⟩⟩ ?_ (T.seq ?_)|refine dU (c:=.seq (.region 13 _ _) _) (nT s x).2.length (λi (a:List aP)=>⟨95,[(2,.ptr 0 0),(3,.ptr 1 0),(4,.row 3 a.length),(5,.b false),(6,iV (x.a+x.l.length)),(7,iV 0),(8,iV (nT s x).1),(9,.d (gY (nT s x).2)),(70,.d (gY (nT s x).2)),(71,iV (nT s x).2.length),(72,iV i)],⟨[(0,.Wp 4 (λk=>.d (rq s k))),(1,.Wp 10 (λk=>.d (kN x k))),(3,bQ 138 4 pI .z a)],4⟩⟩) (λi a=>a=Hl s x++(oJ (Qj s x) (nT s x).2).take i) (Hl s x) ?_ ?_ (λi a hi hp=>?_)|refine aZ (a++[(oJ (Qj s x) (nT s x).2).getD i .z]) ⟨?_,?_,?_⟩|refine aj.mk (λh=>ai h (by rw[aX hn];decide)) (λh=>?_)|refine aC ?_|refine aO (FP x (by have:=hx.len;omega)) ?_|refine mY (adZ s x.term ht) ?_|refine aO (YS s.log x.a x.b qo) ?_|refine af.tell (afJ s.log x.a.toNat x.l (ad4 hx hn) hl (by have:=hx.len;omega)) ⟨VW.refl tv,vq (ah iV (by have:=hx.a;omega)) tv,VW.refl tv,tv⟩ ?_|refine aj.n (λh=>?_)|refine aj.mk (λh=>?_) (λh=>?_)|refine ag.a ?_|refine ag.mk ?_ ?_))<;>try exact cls
 all_goals(try(refine leq ?_ ?_ <;> repeat'(first|exact tv|exact qV|exact qW|refine vq (ah (V.row _) ?_) qN|refine fE qN ?_ ?_|refine gU qN ?_ (λj hj k hk=>?_) ?_|refine an ?_ ?_)))
 all_goals first|exact rfl|exact cm qV|exact⟨rfl,nb rfl⟩|(rw[Vj (Qn ht) h];rfl)|(rw[PM (Qn ht) h];done)|(rw[PM (Qn ht) h];rfl)|(have hk:k<4:=hk;rw[Vj (Qn ht) h];refine cm (kU (a:=(jh x.term 0)) rfl hj fr (λj hj=>?_));obtain rfl:j=0:=Nat.lt_one_iff.1 hj;obtain _|_|_|_|k:=k;exact qV;exact qV;exact qV;exact pg rfl;omega)|(rw[PM (Qn ht) h];exact cm qV)|(rw[hp,jV,<-kR aP.z (by rw[Sr];exact om)];done)|(have h7:=ah List.length hp;rw[bP,dG]at h7;have h8:=ae6 (s:=s) (x:=x);have h9:=hx.len;(omega))|(simp;done)|(have hj:j<a.length+1:=hj;have hk:k<4:=hk;rw[afp om];refine cm (kU rfl hj fr (λj hj=>?_));obtain rfl:j=0:=Nat.lt_one_iff.1 hj;obtain _|_|_|_|k:=k;exact qV;exact qV;exact qV;exact qV;omega)|exact om
def TZ(s:bC)(x:aV)(hx:jY x)(fF:x.kind=3)(jP:x.a+x.l.length<=64)(hl:s.log.length<=1000):aQ 157 [jC s,jT x] (bI [.d (kK (bg s x).1),.b (bg s x).2.1,iV (bg s x).2.2,iV 0]):=by
 by_cases h1:x.term<s.term
 ·exact ao0 s x hx fF jP hl h1
 ·by_cases h2:mi s.log x.a=x.b
  ·by_cases h3:x.term=s.term
   ·exact aoY s x hx fF jP hl h2 h3
   ·exact aoX s x hx fF jP hl h2 qO
  ·exact aoW s x hx fF jP hl h1 h2
