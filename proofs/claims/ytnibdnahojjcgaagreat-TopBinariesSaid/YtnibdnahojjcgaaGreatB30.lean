/- A part of the proof. -/
import Derived.Laws.LoneSync
import Derived.Test.YtnibdnahojjcgaaGreatB23
import Derived.Test.YtnibdnahojjcgaaGreatB24
import Derived.Test.YtnibdnahojjcgaaGreatB25
import Derived.Test.YtnibdnahojjcgaaGreatB26
namespace Go.Proofs.YtnibdnahojjcgaaGreat
set_option maxRecDepth 100000
set_option maxHeartbeats 16000000
set_option linter.unusedVariables false
set_option linter.unusedSimpArgs false
open Go.RowKit
theorem ai4{l:List Int}(h:kG l=true):l.length<=8/\(iP l).length<=8:=by
 obtain⟨h1,h2,h3⟩:=zQ h;have hm:=Ld h3;refine⟨h2,?_⟩;have key:∀ r:List Int,(∀ n∈r,0<n/\n<=64)->(iP r).length=r.length:=by
  intro r;induction r with
  |nil=>intro _;rfl
  |cons n r ih=>
   intro hr;have e:iP (n::r)=dV n.toNat++iP r:=rfl;have hn:=hr n jC;rw[e,bW,ih (λx hx=>hr x (je _ hx)),CQ _ qO];simp;omega
 rw[key l hm];exact h2
theorem ZQ{c:aI}(h:Oe c):(wE c.chunks).length<=8:=by
 unfold wE;split
 ·exact(ai4 (by assumption)).2
 ·simp
theorem fZ.num{c:aI}{v:Int}(h:fZ c v):YN c:=by
 have hf:=h.fit;have hk:=CU h.kz;have h1:=hf.bf;have h2:=hf.seq;have h3:=hf.set;have h4:=hf.id;have h5:=hf.n;have h6:=hf.text;exact⟨by omega,by omega,by omega,by omega,by omega,by omega,h.chunks,by omega⟩
theorem WV{c:aI}{v:Int}(h:fZ c v):vU v 7 (qR c):=by
 have hn:=h.num;have r0:vU v 0 []:=⟨List.Pairwise.nil,(λf hf=>by cases hf),λf hf=>by cases hf⟩;have r1:vU v 1 (zy c):=r0.num qO hn.kind;have r2:vU v 2 (zx c):=r1.num qO hn.bf;have r3:vU v 3 (zt c):=r2.num qO hn.seq;have r4:vU v 4 (zq c):=r3.num qO hn.set;have r5:vU v 5 (zn c):=r4.num qO hn.id;have r6:vU v 6 (vZ c):=r5.num qO hn.n;exact r6.byt (.inl rfl) (by have:=ZQ h.fit;omega)
theorem IL{c:aI}{v:Int}(h:fZ c v):vU v 8 (gJ c v):=by
 have r7:=WV h;unfold gJ;by_cases e:3<=v
 ·rw[bg e,dR];exact r7.byt (.inr ⟨rfl,λ_=>e⟩) (by have:=h.fit.text;omega)
 ·rw[aX e,di];exact⟨r7.Au,λf hf=>by have:=r7.le f hf;omega,r7.aK⟩
theorem Dh{c:aI}{v:Int}(h:fZ c v):gJ c v=rZ c:=by
 unfold gJ;by_cases e:3<=v
 ·rw[bg e,dR]
 ·rw[aX e,di];have ht:c.text=[]:=h.fit.text.2 λe11=>by
   have:=h.le;rw[e11]at this;simp[lC]at this;omega
  unfold rZ pM;rw[if_pos ht,pG]
theorem Nq.put{v:Int}{f:aY}(h:Nq v f):f.fit/\nR f=true/\f.b.length<=1000:=by
 unfold Nq at h;unfold aY.fit nR;rcases h with ⟨h1,h2,h3,h4,h5,h6⟩|⟨h1,h2,h3,h4,h5,h6,h7⟩
 ·rw[h6,h1];refine⟨⟨by omega,by omega,by omega,by omega,by omega,by simp⟩,?_,by simp⟩;simp;omega
 ·rw[h5,h1];refine⟨⟨by omega,by omega,by omega,by omega,by omega,by omega⟩,?_,by omega⟩;simp;omega
theorem IM(c:aI)(v:Int):(gJ c v).length<=8:=by
 have:=BK c;unfold gJ;cases decide (3<=v) <;> simp only[dR,di] <;> omega
theorem GH{c:aI}{v:Int}(h:fZ c v):oV (gJ c v):=by
 have hr:=IL h;have hl:=IM c v;have hg:∀ i,i<(gJ c v).length->_:=λi hi=>(hr.aK _ (iT (z:=.z) hi)).put
 refine⟨λi hi=>(hg i hi).1,λi hi=>(hg i hi).2.1,λi hi=>by have:=(hg i hi).2.2;omega,λi h0 hi=>aa4 hr.Au h0 hi,?_,by omega⟩;have:=aal (l:=gJ c v) (B:=1020) (λf hf=>by
  have:=(hr.aK f hf).put;have:=I8 this.1;omega)
 have:=uV 1020 hl;omega
theorem adS{v:Int}(h1:1<=v)(h3:v<=3):0<(eG 1 v).length/\(eG 1 v).length<=10/\∀ s∈eG 1 v,((1<=s.num/\s.num<=6/\s.aJ=0)\/(7<=s.num/\s.num<=8/\s.aJ=2))/\(s.kz=true->s.num=1):=by
 rcases(show v=1\/v=2\/v=3 by omega) with rfl|rfl|rfl <;> refine⟨by decide,by decide,?_⟩ <;> simp[eG,nK,tJ,n4,b4]
theorem aj2{v:Int}{f:aY}{s:kD}(hf:Nq v f)(hs:(1<=s.num/\s.num<=6/\s.aJ=0)\/(7<=s.num/\s.num<=8/\s.aJ=2))(he:s.num=f.num):xw f s 1=true:=by
 unfold xw;rcases hf with ⟨h1,h2,h3,h4,h5,h6⟩|⟨h1,h2,h3,h4,h5,h6,h7⟩ <;> rcases hs with ⟨g1,g2,g3⟩|⟨g1,g2,g3⟩
 ·rw[h1,g3];simp;omega
 ·omega
 ·omega
 ·rw[h1,g3];have:0<f.b.length:=List.length_pos_iff.2 h6;simp;omega
theorem aeq{c:aI}{v:Int}(h:fZ c v):Hz (eG 1 v) (gJ c v):=by
 have hr:=IL h;have hk:=CU h.kz;have h1:1<=v:=by
  have:=h.le;have:=h.kz;unfold lC at *;split at * <;> omega
 obtain⟨s1,s2,s3⟩:=adS h1 h.v3;refine⟨GH h,s1,s2,λi hi j hj he=>?_,λj hj hn=>?_⟩
 ·rw[WS hr.Au hi];exact aj2 (hr.aK _ (iT hi)) (s3 _ (iT hj)).1 he
 ·have e:=(s3 _ (iT hj)).2 hn;refine WT (f:=⟨1,0,c.kind.toNat,[]⟩) ?_ (by rw[e]);rw[Dh h];simp only[rZ,qR,vZ,zn,zq,zt,zx,zy,List.mem_append];have:(⟨1,0,c.kind.toNat,[]⟩:aY)∈kR 1 c.kind:=by
   unfold kR;rw[if_neg qO];simp
  simp[this]
def gU(c:aI):List UInt8:=bF (rZ c)
theorem IZ(a n:Int):(bF (kR a n)).length<=20:=by
 unfold kR;split
 ·simp[bF]
 ·have h1:=Gx a 0;have h2:=uY n.toNat;simp[bF,iJ];omega
theorem adH(a:Int)(b:List UInt8):(bF (pM a b)).length<=20+b.length:=by
 unfold pM;split
 ·simp[bF]
 ·have h1:=Gx a 2;have h2:=uY b.length;simp[bF,iJ];omega
theorem ag0(a b:List aY):bF (a++b)=bF a++bF b:=by simp[bF]
theorem KJ{c:aI}{v:Int}(h:fZ c v):0<(gU c).length/\(gU c).length<=200:=by
 have hk:=CU h.kz;have hc:=ZQ h.fit;have ht:=h.fit.text;refine⟨?_,?_⟩
 ·have e:gJ c v=rZ c:=Dh h;have h0:0<(gJ c v).length:=by
   rw[e];simp only[rZ,qR,vZ,zn,zq,zt,zx,zy,bW];have:(kR 1 c.kind).length=1:=by unfold kR;rw[if_neg qO];rfl
   omega
  have hp:=IC (GH h) h0;unfold gU;rw[<-e];omega
 ·unfold gU;simp only[rZ,qR,vZ,zn,zq,zt,zx,zy,ag0,bW];have:=IZ 1 c.kind;have:=IZ 2 c.bf;have:=IZ 3 c.seq;have:=IZ 4 c.set;have:=IZ 5 c.id;have:=IZ 6 c.n;have:=adH 7 (wE c.chunks);have:=adH 8 c.text;have:(bF []).length=0:=rfl;omega
theorem fZ.v1{c:aI}{v:Int}(h:fZ c v):1<=v:=by
 have:=h.le;have:=h.kz;unfold lC at *;split at * <;> omega
theorem fZ.TU{c:aI}{v:Int}(h:fZ c v):dN v 1 3=true:=bg ⟨h.v1,h.v3⟩
theorem fZ.may{c:aI}{v:Int}(h:fZ c v):qJ c v=0:=by
 unfold qJ;rw[h.TU,aX h.kz,aX (show ¬v<lC c.kind from by have:=h.le;omega),h.fits];rfl
theorem Qn(b:List UInt8):BO b.length (λj k=>.d ((λj _=>fO (b.getD j 0)) j k))=iU b:=by
 unfold BO;congr 1;apply List.ext_getElem?;intro j;rw[qY];by_cases h:j<b.length
 ·rw[List.getElem?_range h,dW h];simp[Oo,fO,bC,h]
 ·rw[List.getElem?_eq_none (by simpa using h),List.getElem?_eq_none (by simpa using h)];rfl
theorem adC(a b:List UInt8):aQ 151 [.d (dB a),.d (dB b)] (.b (a == b)):=by
 refine asz Tryz.func151 λX=>?_
 (repeat' (first|refine oz ?_|refine Fin.tell (vq (gz V.b ?_) tv)|refine ag.mk ?_ ?_))<;>try exact aB
 all_goals first|(have e1:=Qn a;have e2:=Qn b;show((BO a.length (λj k=>.d ((λj _=>fO (a.getD j 0)) j k))).toList == (BO b.length (λj k=>.d ((λj _=>fO (b.getD j 0)) j k))).toList)=(a == b);rw[e1,e2,str_eq])|exact λj hj=>⟨_,rfl⟩
theorem adY(c:aI)(v:Int)(hc:fZ c v):aQ 148 [jI c,.d (iW []),iV v] (bQ [.d (dB (gU c)),iV 0]):=by
 refine asz Tryz.func148 λX=>?_
 (repeat' (first|refine oz ?_|refine asA (Vm v) ?_|refine ai.mk (λh2=>au h2 (by rw[hc.TU];decide)) (λh=>?_)|refine asA (aib c v hc.kz hc.le) ?_|refine ai.mk (λh=>?_) (λh2=>au h2 (by decide))|refine asA (Q4 c v hc.chunks) ?_|refine asA (Rt 1 v (.inl rfl)) ?_|refine as5 ?_|refine TL.round ?_|refine asA (ajU c v hc.num) ?_|refine asA (V6 (gJ c v) (GH hc)) ?_|refine ai.mk (λh2=>au h2 (by rw[hc.may];decide)) (λh=>?_)|refine ag.mk rfl ?_|refine ai.n (λh=>?_)|refine ag.a ?_|refine asM rfl ⟨vq (gz (λl=>V.d (dB (bF l))) (Dh hc)) tv,VW.refl tv,tv⟩))<;>try exact aB
theorem anl(c:aI)(t v:Int)(hc:fZ c v):aQ 99 [jI c,iV t,iV v] (bQ [yj ⟨t,gU c⟩,iV 0]):=by
 refine asz Tryz.func99 λX=>?_
 (repeat' (first|refine oz ?_|refine asA (Q4 c v hc.chunks) ?_|refine ai.mk (λh2=>au h2 (by rw[hc.may];decide)) (λh=>?_)|refine ae.tell (adY c v hc) ⟨agg,VW.dE,VW.refl tv,tv⟩ ?_|refine ai.n (λh=>?_)|refine ag.a ?_|refine asM rfl vw))<;>try exact aB
theorem EI{l:List Int}(h:kG l=true):∀ n∈l,0<n/\n<=64:=Ld (zQ h).2.2
theorem akA{l:List Int}{i:Nat}(hm:∀ n∈l,0<n/\n<=64)(h:i<l.length):(iP l).drop i=dV (l.getD i 0).toNat++(iP l).drop (i+1):=by
 have e:∀ r:List Int,(∀ n∈r,0<n/\n<=64)->iP r=r.map (λn=>jE n.toNat):=by
  intro r;induction r with
  |nil=>intro _;rfl
  |cons n r ih=>
   intro hr;have hn:=hr n jC;have e2:iP (n::r)=dV n.toNat++iP r:=rfl;rw[e2,ih (λx hx=>hr x (je _ hx)),CQ _ qO];rfl
 have hn:=hm _ (iT (z:=0) h);rw[e l hm,<-List.map_drop,<-List.map_drop,wz 0 h,CQ _ qO];rfl
theorem Pv{l:List Int}(hm:∀ n∈l,0<n/\n<=64):(iP l).length=l.length:=by
 have key:∀ r:List Int,(∀ n∈r,0<n/\n<=64)->(iP r).length=r.length:=by
  intro r;induction r with
  |nil=>intro _;rfl
  |cons n r ih=>
   intro hr;have e:iP (n::r)=dV n.toNat++iP r:=rfl;have hn:=hr n jC;rw[e,bW,ih (λx hx=>hr x (je _ hx)),CQ _ qO];simp;omega
 exact key l hm
theorem aiy{l:List Int}{i:Nat}(hm:∀ n∈l,0<n/\n<=64)(h:i<l.length):cO ((iP l).drop i)=((l.getD i 0).toNat,1,0):=by
 have hn:=hm _ (iT (z:=0) h);rw[akA hm h,wo _ _ qO,Ep _ qO]
theorem ahi(l:List Int)(hr:kG l=true):aQ 293 [.d (dB (iP l))] (bQ [.d (iH l),iV 0]):=by
 have hm:=EI hr;have hl:=Pv hm;have h8:=(zQ hr).2.1;refine asz Tryz.func293 λX=>?_
 (repeat' (first|refine oz ?_|refine asW 4 3 (λj _=>.d (iD (([]:List Int).getD j 0))) rfl rfl qN (asI l.length (λi (a:List Int)=>⟨39,[(0,.d (dB (iP l))),(4,.row 0 a.length),(5,iV i)],⟨[(0,dw 3 1 (λn _=>iD n) 0 a)],1⟩⟩) (λi a=>a=l.take i) [] ?_ ?_ (λi a hi hp=>?_))|refine aU (a++[l.getD i 0]) ⟨?_,?_,?_⟩|refine ae.tell (Vk (aiy hm (i:=i) om)) ⟨IW rfl,tv⟩ ?_|refine asT (QU a (by rw[hp,dP];omega)) tv bw ?_|refine ai.mk (λh2=>au h2 (by rw[show a=l by rw[hp,lW om],hr];decide)) (λh=>?_)|refine ai.mk (λh2=>au h2 (by have hn:=hm _ (iT (z:=0) (i:=i) om);rw[aX (show ¬(64:Int)<(((l.getD i 0).toNat:Nat):Int) by omega)];decide)) (λh=>?_)|refine ai.mk (λh=>?_) (λh=>?_)|refine ag.a ?_|refine atc (C:=λn _=>iD n) (z:=0) (L:=l) rfl rfl ?_ ?_ qV|refine ag.mk ?_ ?_))<;>try exact aB
 all_goals (try(refine aV.mk rfl qN qN ?_ ?_ <;> repeat' (first|exact tv|exact qV|refine vq (gz (V.row _) ?_) qN|refine an ⟨nb rfl,af.row ?_ (λj hj k hk=>vq ?_ trivial)⟩ ?_|refine an ?_ ?_)))
 all_goals first|(simp;done)|(have:=gz List.length hp;rw[dP]at this;omega)|((try simp only[fC,fQ,mr,nO]at *);have h9:i<l.length:=(by omega);have hn:=hm _ (iT (z:=0) h9);first|omega|(simp only[dQ];omega))|(have h9:i<l.length:=om;rw[hp,lX 0 h9];done)|(have h9:i<l.length:=om;obtain rfl:k=0:=(by omega);have hn:=hm _ (iT (z:=0) h9);exact A7 (C:=λn _=>iD n) (z:=0) (b:=[l.getD i 0]) rfl hj fr (λj hj=>by obtain rfl:j=0:=(by simpa using hj);exact gz iV (show(((l.getD i 0).toNat:Nat):Int)=l.getD i 0 by omega)))|(have e:a=l:=(by rw[hp,lW om]);subst e;first|rfl|exact λj hj k hk=>rfl)
def xO(b:List UInt8):List Int:=b.map (λx=>((x.toNat:Nat):Int))
theorem PT{l:List Int}(hm:∀ n∈l,0<n/\n<=64):xO (iP l)=l:=by
 induction l with
 |nil=>rfl
 |cons n r ih=>
  have hn:=hm n jC;have e2:iP (n::r)=dV n.toNat++iP r:=rfl;rw[e2,CQ _ qO];have:=ih (λx hx=>hm x (je _ hx));unfold xO at *;rw[List.map_append,this,List.map_cons,xA];simp;omega
theorem ahj{b:List UInt8}(h:∃ r,kG r=true/\b=iP r):aQ 293 [.d (dB b)] (bQ [.d (iH (xO b)),iV 0]):=by
 obtain⟨r,h1,rfl⟩:=h;rw[PT (EI h1)];exact ahi r h1
def nY(c:aI)(f:aY):aI:=
 if f.num=1 then { c with kind:=f.n } else if f.num=2 then { c with bf:=f.n } else if f.num=3 then { c with seq:=f.n } else if f.num=4 then { c with set:=f.n } else
 if f.num=5 then { c with id:=f.n } else if f.num=6 then { c with n:=f.n } else if f.num=7 then { c with chunks:=xO f.b } else if f.num=8 then { c with text:=f.b } else c
def lu(l:List aY):aI:=l.foldl nY aI.z
structure SV (f:aY):Prop where
 n:f.num<=6->f.n<=1000000000
 ch:f.num=7->∃ r,kG r=true/\f.b=iP r
theorem AQ{l:List aY}{i:Nat}(h:i<l.length):lu (l.take (i+1))=nY (lu (l.take i)) (l.getD i .z):=by
 unfold lu;rw[lX .z h,List.foldl_append];rfl
theorem ame(l:List aY)(hn:l.length<=100)(hf:∀ i,i<l.length->SV (l.getD i .z)):aQ 254 [.d (iW l)] (jI (lu l)):=by
 refine asz Tryz.func254 λX=>?_
 (repeat' (first|refine oz ?_|refine asI l.length (λi (a:aI)=>⟨67,[(2,.ptr 0 0),(3,.ptr 1 0),(6,.d (iW l)),(7,iV l.length),(8,iV i)],⟨[(0,.blk 8 (λ_=>.top)),(1,.blk 8 (λk=>.d (kY a k)))],2⟩⟩) (λi a=>a=lu (l.take i)) aI.z ?_ ?_ (λi a hi hp=>?_)|refine asA (ahj ((hf i om).ch (aS ‹_›))) ?_|refine ai.mk (λh=>?_) (λh=>?_)|refine ag.a ?_|refine Fin.tell (asK ⟨⟨⟨⟨⟨⟨⟨⟨tv,asB ?_⟩,asB ?_⟩,asB ?_⟩,asB ?_⟩,asB ?_⟩,asB ?_⟩,asB ?_⟩,asB ?_⟩)|refine ag.mk ?_ ?_))<;>try exact aB
 all_goals (try(refine aV.mk rfl qN qN ?_ ?_ <;> repeat' (first|exact tv|exact qV|exact VW.dE|exact VW.top|exact qW|refine an ⟨nb rfl,af.blk ?_⟩ ?_|refine an ?_ ?_)))
 all_goals first|exact uN|(simp only[dQ];(try simp only[fC,fQ,jD]at *);have:=(hf i (by omega)).n (by omega);omega)|exact λj hj=>⟨_,rfl⟩|(have h9:=bJ h;have e:a=lu l:=(by rw[hp,lW (by omega)]);subst e;exact cm qV)|(refine aU ({ a with kind:=((l.getD i .z).n:Int) }) ⟨om,(by(try simp only[fC,fQ,jD]at *);rw[AQ (by omega),<-hp];unfold nY;repeat' split;all_goals (rfl)),?_⟩;(refine aV.mk rfl qN qN ?_ ?_ <;> repeat' (first|exact tv|exact qV|exact qW|refine vq (gz iV ?_) tv|refine an ⟨nb rfl,af.blk ?_⟩ ?_|refine an ?_ ?_));done)|(refine aU ({ a with bf:=((l.getD i .z).n:Int) }) ⟨om,(by(try simp only[fC,fQ,jD]at *);rw[AQ (by omega),<-hp];unfold nY;repeat' split;all_goals first|rfl|(exfalso;omega)),?_⟩;(refine aV.mk rfl qN qN ?_ ?_ <;> repeat' (first|exact tv|exact qV|exact qW|refine vq (gz iV ?_) tv|refine an ⟨nb rfl,af.blk ?_⟩ ?_|refine an ?_ ?_));done)|(refine aU ({ a with seq:=((l.getD i .z).n:Int) }) ⟨om,(by(try simp only[fC,fQ,jD]at *);rw[AQ (by omega),<-hp];unfold nY;repeat' split;all_goals first|rfl|(exfalso;omega)),?_⟩;(refine aV.mk rfl qN qN ?_ ?_ <;> repeat' (first|exact tv|exact qV|exact qW|refine vq (gz iV ?_) tv|refine an ⟨nb rfl,af.blk ?_⟩ ?_|refine an ?_ ?_));done)|(refine aU ({ a with set:=((l.getD i .z).n:Int) }) ⟨om,(by(try simp only[fC,fQ,jD]at *);rw[AQ (by omega),<-hp];unfold nY;repeat' split;all_goals first|rfl|(exfalso;omega)),?_⟩;(refine aV.mk rfl qN qN ?_ ?_ <;> repeat' (first|exact tv|exact qV|exact qW|refine vq (gz iV ?_) tv|refine an ⟨nb rfl,af.blk ?_⟩ ?_|refine an ?_ ?_));done)|(refine aU ({ a with id:=((l.getD i .z).n:Int) }) ⟨om,(by(try simp only[fC,fQ,jD]at *);rw[AQ (by omega),<-hp];unfold nY;repeat' split;all_goals first|rfl|(exfalso;omega)),?_⟩;(refine aV.mk rfl qN qN ?_ ?_ <;> repeat' (first|exact tv|exact qV|exact qW|refine vq (gz iV ?_) tv|refine an ⟨nb rfl,af.blk ?_⟩ ?_|refine an ?_ ?_));done)|(refine aU ({ a with n:=((l.getD i .z).n:Int) }) ⟨om,(by(try simp only[fC,fQ,jD]at *);rw[AQ (by omega),<-hp];unfold nY;repeat' split;all_goals first|rfl|(exfalso;omega)),?_⟩;(refine aV.mk rfl qN qN ?_ ?_ <;> repeat' (first|exact tv|exact qV|exact qW|refine vq (gz iV ?_) tv|refine an ⟨nb rfl,af.blk ?_⟩ ?_|refine an ?_ ?_));done)|(refine aU ({ a with chunks:=xO (l.getD i .z).b }) ⟨om,(by(try simp only[fC,fQ,jD]at *);rw[AQ (by omega),<-hp];unfold nY;repeat' split;all_goals first|rfl|(exfalso;omega)),?_⟩;(refine aV.mk rfl qN qN ?_ ?_ <;> repeat' (first|exact tv|exact qV|exact qW|refine an ⟨nb rfl,af.blk ?_⟩ ?_|refine an ?_ ?_));done)|(refine aU ({ a with text:=(l.getD i .z).b }) ⟨om,(by(try simp only[fC,fQ,jD]at *);rw[AQ (by omega),<-hp];unfold nY;repeat' split;all_goals first|rfl|(exfalso;omega)),?_⟩;(refine aV.mk rfl qN qN ?_ ?_ <;> repeat' (first|exact tv|exact qV|exact vq (gz (λs=>V.d (D.v (Value.string s))) (Qn _)) tv|exact qW|refine an ⟨nb rfl,af.blk ?_⟩ ?_|refine an ?_ ?_));done)|(refine aU (a) ⟨om,(by(try simp only[fC,fQ,jD]at *);rw[AQ (by omega),<-hp];unfold nY;repeat' split;all_goals first|rfl|(exfalso;omega)),?_⟩;(refine aV.mk rfl qN qN ?_ ?_ <;> repeat' (first|exact tv|exact qV|exact qW|refine an ⟨nb rfl,af.blk ?_⟩ ?_|refine an ?_ ?_));done)
theorem aes{l:List Int}(h:kG l=true):iP l≠[]:=λe=>by
 have h1:=Pv (EI h);have:=(zQ h).1;rw[e]at h1;simp at h1;omega
theorem aaF{c:aI}{v:Int}(h:fZ c v):lu (rZ c)=c:=by
 have hn:=h.num;have hf:=h.fit;have hk:=CU h.kz;have n1:=hn.kind;have n2:=hn.bf;have n3:=hn.seq;have n4:=hn.set;have n5:=hn.id;have n6:=hn.n;have e1:lu (zy c)={ aI.z with kind:=c.kind }:=by
  unfold zy kR lu;split
  ·rename_i e;omega
  ·simp[nY,aI.z];omega
 have e2:lu (zx c)={ aI.z with kind:=c.kind,bf:=c.bf }:=by
  unfold zx lu;rw[List.foldl_append];have:=e1;unfold lu at this;rw[this];unfold kR;split
  ·rename_i e;rw[e];rfl
  ·simp[nY,aI.z];omega
 have e3:lu (zt c)={ aI.z with kind:=c.kind,bf:=c.bf,seq:=c.seq }:=by
  unfold zt lu;rw[List.foldl_append];have:=e2;unfold lu at this;rw[this];unfold kR;split
  ·rename_i e;rw[e];rfl
  ·simp[nY,aI.z];omega
 have e4:lu (zq c)={ aI.z with kind:=c.kind,bf:=c.bf,seq:=c.seq,set:=c.set }:=by
  unfold zq lu;rw[List.foldl_append];have:=e3;unfold lu at this;rw[this];unfold kR;split
  ·rename_i e;rw[e];rfl
  ·simp[nY,aI.z];omega
 have e5:lu (zn c)={ aI.z with kind:=c.kind,bf:=c.bf,seq:=c.seq,set:=c.set,id:=c.id }:=by
  unfold zn lu;rw[List.foldl_append];have:=e4;unfold lu at this;rw[this];unfold kR;split
  ·rename_i e;rw[e];rfl
  ·simp[nY,aI.z];omega
 have e6:lu (vZ c)={ aI.z with kind:=c.kind,bf:=c.bf,seq:=c.seq,set:=c.set,id:=c.id,n:=c.n }:=by
  unfold vZ lu;rw[List.foldl_append];have:=e5;unfold lu at this;rw[this];unfold kR;split
  ·rename_i e;rw[e];rfl
  ·simp[nY,aI.z];omega
 have e7:lu (qR c)={ aI.z with kind:=c.kind,bf:=c.bf,seq:=c.seq,set:=c.set,id:=c.id,n:=c.n,chunks:=c.chunks }:=by
  unfold qR lu;rw[List.foldl_append];have:=e6;unfold lu at this;rw[this];unfold pM wE;rcases hf.chunks with ⟨_,hr⟩|⟨_,hc⟩
  ·rw[if_pos hr,if_neg (aes hr)];simp[nY,aI.z,PT (EI hr)]
  ·rw[hc];rfl
 unfold rZ lu;rw[List.foldl_append];have:=e7;unfold lu at this;rw[this];unfold pM;split
 ·rename_i e
  rw[show([]:List aY).foldl nY _=_ from rfl];obtain⟨a1,a2,a3,a4,a5,a6,a7,a8⟩:=c;simp only at e ⊢;rw[e];rfl
 ·simp[nY]
theorem Gu(a n:Int)(hn:0<=n/\n<=1000000000)(ha:a<=6):∀ f∈kR a n,SV f:=by
 intro f hf;unfold kR at hf;split at hf
 ·cases hf
 ·obtain rfl:=List.mem_singleton.1 hf;exact⟨λ_=>by show n.toNat<=_;omega,λ(e:a=7)=>by omega⟩
theorem aet{c:aI}{v:Int}(h:fZ c v):∀ f∈rZ c,SV f:=by
 have hn:=h.num;intro f hf;simp only[rZ,qR,vZ,zn,zq,zt,zx,zy,List.mem_append]at hf;rcases hf with ((((((((hf|hf)|hf)|hf)|hf)|hf)|hf)|hf)|hf)
 ·cases hf
 ·exact Gu _ _ hn.kind qD f hf
 ·exact Gu _ _ hn.bf qD f hf
 ·exact Gu _ _ hn.seq qD f hf
 ·exact Gu _ _ hn.set qD f hf
 ·exact Gu _ _ hn.id qD f hf
 ·exact Gu _ _ hn.n qD f hf
 ·unfold pM at hf;split at hf
  ·cases hf
  ·rename_i hne
   obtain rfl:=List.mem_singleton.1 hf;refine⟨λ_=>cu _,λ_=>?_⟩;unfold wE at hne ⊢;split at hne
   ·rename_i hr
    exact⟨_,hr,by rw[if_pos hr]⟩
   ·exact au rfl hne
 ·unfold pM at hf;split at hf
  ·cases hf
  ·obtain rfl:=List.mem_singleton.1 hf;exact⟨λ_=>cu _,λ(e:(8:Int)=7)=>au e qD⟩
theorem ack{c:aI}{v:Int}(h:fZ c v):∀ f∈gJ c v,f.num<=Fa 1 v:=by
 have h1:=h.v1;have h3:=h.v3;rcases(show v=3\/v=1\/v=2 by omega) with rfl|rfl|rfl
 ·exact(IL h).le
 ·exact(WV h).le
 ·exact(WV h).le
theorem ao6{c:aI}{v:Int}(h:fZ c v)(i:Nat)(hi:i<(gJ c v).length):((gJ c v).getD i .z).b.length<=100000:=by
 have:=((IL h).aK _ (iT (z:=.z) hi)).put.2.2;omega
theorem XC{c:aI}{v:Int}(h:fZ c v):bF (gJ c v)=gU c:=gz bF (Dh h)
theorem adE{c:aI}{v:Int}(h:fZ c v):lu (gJ c v)=c:=by rw[Dh h];exact aaF h
theorem amf{c:aI}{v:Int}(h:fZ c v):aQ 254 [.d (iW (gJ c v))] (jI c):=by
 have:=ame (gJ c v) (by have:=IM c v;omega) (λi hi=>aet h _ (by rw[<-Dh h];exact iT hi));rwa [adE h]at this
theorem aln(c:aI)(v:Int)(hc:fZ c v):aQ 245 [.d (dB (gU c)),iV v] (bQ [jI c,.d (iW []),iV 0]):=by
 refine asz Tryz.func245 λX=>?_
 (repeat' (first|refine oz ?_|refine asA (Vm v) ?_|refine ai.mk (λh2=>au h2 (by rw[hc.TU];decide)) (λh=>?_)|refine ae.tell (PU (gJ c v) (GH hc)) ⟨vq (gz (λl=>V.d (dB l)) (XC hc).symm) tv,tv⟩ ?_|refine asA (QM 1 v (.inl rfl) (gJ c v) (aeq hc)) ?_|refine asA (Rt 1 v (.inl rfl)) ?_|refine asA (aa7 (gJ c v) (Fa 1 v) (by have:=IM c v;omega) (ao6 hc) (λi hi=>ack hc _ (iT hi))) ?_|refine asA (amf hc) ?_|refine asA (adY c v hc) ?_|refine aU _ (ed (λht=>ae.tell (adC (gU c) (gU c)) vw ⟨rfl,rfl⟩) ?_)|refine ai.mk (λh2=>au h2 (by rw[show(gU c == gU c)=true from (by simp)];decide)) (λh=>?_)|refine ai.n (λh=>?_)|refine asL (λh=>?_)|refine ag.a ?_|refine asM rfl vw))<;>try exact aB
theorem ama(t:Int)(c:aI)(v:Int)(hc:fZ c v):aQ 237 [yj ⟨t,gU c⟩,iV v] (bQ [jI c,.b true,iV 0]):=by
 refine asz Tryz.func237 λX=>?_
 (repeat' (first|refine oz ?_|refine asA (aln c v hc) ?_|refine asA (Xp c.kind) ?_|refine ai.mk (λh2=>au (aS h2) (by have:=(KJ hc).1;show ¬(((gU c).length:Int)=0);omega)) (λh=>?_)|refine ai.mk (λh2=>au h2 (by rw[aX hc.kz,aX (show ¬v<lC c.kind by have:=hc.le;omega)];decide)) (λh=>?_)|refine ai.n (λh=>?_)|refine ag.a ?_|refine asM rfl vw))<;>try exact aB
theorem amb(t:Int)(v:Int)(h1:1<=v)(h3:v<=3):aQ 237 [yj ⟨t,[]⟩,iV v] (bQ [jI aI.z,.b false,iV 0]):=by
 refine asz Tryz.func237 λX=>?_
 (repeat' (first|refine oz ?_|refine ai.mk (λh2=>au h2 (by rw[aX (show ¬v<1 by omega),aX (show ¬3<v by omega)];decide)) (λh=>?_)|refine asL (λh=>?_)|refine ag.a ?_|refine asM rfl ⟨asK (by repeat' (first|exact tv|exact qV|exact VW.dE|refine an ?_ ?_)),VW.refl tv,VW.refl tv,tv⟩))<;>try exact aB
def JI(C:aI)(th:Bool)(k:Nat):V:=bif Nat.blt k 8 then .d (kY C k) else (bif Nat.beq k 8 then .b th else iV 0)
theorem ajk(s:aZ)(t v:Int)(hs:EN s)(h1:1<=v)(h3:v<=3):aQ 212 [jk s,.d (jg [(⟨t,[]⟩:dm)]),iV v] (bQ [jk s,.d (MS [(⟨0,0⟩:eY)]),iV 0]):=by
 refine aug (f:=212) (fn:=Tryz.f212) (t1:=⟨[(0,.blk 7 (λk=>.d (fH s k))),(1,.blk 7 (λ_=>.top)),(2,.blk 1 (λ_=>.top)),(3,.blk 1 (λ_=>.top)),(4,.blk 1 (λ_=>.row 5 ([]:List eY).length)),(5,dw 52 2 jU .z ([]:List eY)),(6,.blk 1 (λ_=>.d (jg [(⟨t,[]⟩:dm)]))),(7,.blk 1 (λ_=>iV v))],8⟩) (t3:=⟨[(0,.blk 7 (λk=>.d (fH s k))),(1,.blk 7 (λ_=>.top)),(2,.blk 1 (λ_=>.top)),(3,.blk 1 (λ_=>.top)),(4,.blk 1 (λ_=>.row 5 ([(⟨0,0⟩:eY)]:List eY).length)),(5,dw 52 2 jU .z ([(⟨0,0⟩:eY)]:List eY))],9⟩) (sL:=⟨40,[(3,.ptr 0 0),(6,.ptr 1 0),(7,.ptr 2 0),(8,.ptr 3 0),(9,.ptr 4 0),(16,.fn 236 0 2 (λk=>match k with|0=>.ptr 6 0|_=>.ptr 7 0))],⟨[(0,.blk 7 (λk=>.d (fH s k))),(1,.blk 7 (λ_=>.top)),(2,.blk 1 (λ_=>.top)),(3,.blk 1 (λ_=>.top)),(4,.blk 1 (λ_=>.row 5 ([]:List eY).length)),(5,dw 52 2 jU .z ([]:List eY)),(6,.blk 1 (λ_=>.d (jg [(⟨t,[]⟩:dm)]))),(7,.blk 1 (λ_=>iV v))],8⟩⟩) (sA:=⟨40,[(3,.ptr 0 0),(6,.ptr 1 0),(7,.ptr 2 0),(8,.ptr 3 0),(9,.ptr 4 0),(10,.ptr 8 0)],⟨[(0,.blk 7 (λk=>.d (fH s k))),(1,.blk 7 (λ_=>.top)),(2,.blk 1 (λ_=>.top)),(3,.blk 1 (λ_=>.top)),(4,.blk 1 (λ_=>.row 5 ([]:List eY).length)),(5,dw 52 2 jU .z ([]:List eY)),(8,.blk 10 (JI aI.z false))],9⟩⟩) (sE:=⟨40,[],⟨[(0,.blk 7 (λk=>.d (fH s k))),(1,.blk 7 (λ_=>.top)),(2,.blk 1 (λ_=>.top)),(3,.blk 1 (λ_=>.top)),(4,.blk 1 (λ_=>.row 5 ([(⟨0,0⟩:eY)]:List eY).length)),(5,dw 52 2 jU .z ([(⟨0,0⟩:eY)]:List eY))],9⟩⟩) (jX:=λk=>match k with|0=>.ptr 6 0|_=>.ptr 7 0) (uQ:=Tryz.f236) (.agg 10 (JI aI.z false)) Tryz.func212 rfl rfl qN ?_ rfl qN Tryz.func236 rfl rfl qN ?_ ?_ ?_ ?_
 ·intro X;repeat' (first|refine Ji ?_|refine asX (c:=.region 3 _ _) 4 0 52 (λj k=>.d (jU (([]:List eY).getD j .z) k)) rfl rfl qN rfl qN (T.region ?_)|refine oz ?_|refine asA (LV s hs) ?_|refine asz (f:=229) Tryz.func229 λX2=>?_|refine ag.a ?_|refine Fin.here ?_)
  all_goals try exact aB
  all_goals (try(refine aV.mk rfl qN qN ?_ ?_ <;> repeat' (first|exact tv|exact qW|refine asJ ?_|refine an ⟨nb rfl,asE rfl (λk hk=>asB ?_)⟩ ?_|refine an ⟨nb rfl,af.row ?_ (λj hj k hk=>asB ?_)⟩ ?_|refine an ?_ ?_)))
  all_goals first|exact rfl|exact cm qV|exact cm VW.top|(have hk:k<7:=hk;rcases k with _|_|_|_|_|_|_|k <;> (exact cm qV))|exact kk
 ·intro X1 l hds hY;repeat' (first|refine auk (id:=4) (pre:=(mW Tryz.f236 4).toList.take 5) (sY:=⟨30,[(9,.d (jg [(⟨t,[]⟩:dm)])),(10,iV 1),(11,iV 0),(22,.d (.v (.func (.yield l) #[] #[]))),(26,(.agg 10 (JI aI.z false)))],⟨[(0,.blk 7 (λk=>.d (fH s k))),(1,.blk 7 (λ_=>.top)),(2,.blk 1 (λ_=>.top)),(3,.blk 1 (λ_=>.top)),(4,.blk 1 (λ_=>.row 5 ([]:List eY).length)),(5,dw 52 2 jU .z ([]:List eY)),(6,.blk 1 (λ_=>.d (jg [(⟨t,[]⟩:dm)]))),(7,.blk 1 (λ_=>iV v))],8⟩⟩) hY rfl rfl rfl rfl ?_ rfl rfl rfl rfl ?_|refine oz ?_|refine asA (amb t v h1 h3) ?_|refine as5 ?_|refine TL.round ?_|refine ai.n (λh=>?_)|refine asL (λh=>?_)|refine ag.a ?_|refine asC qN qN VW.top ?_|refine ag.mk ?_ ?_)
  all_goals try exact aB
  all_goals (try(refine aV.mk rfl qN qN ?_ ?_ <;> repeat' (first|exact tv|exact qV|refine asK ?_|refine an ⟨nb rfl,asE rfl (λk hk=>asB ?_)⟩ ?_|refine an ⟨nb rfl,af.row ?_ (λj hj k hk=>asB ?_)⟩ ?_|refine an ?_ ?_)))
  all_goals first|exact rfl|exact cm qV|exact⟨eF _,(show(0:Int)<1 by decide)⟩|exact kk|(repeat' (first|exact tv|refine an ⟨nb rfl,af.blk ?_⟩ ?_|refine an ⟨nb rfl,af.row rfl fv⟩ ?_|exact qV|exact qW|refine an ?_ ?_))
 ·intro l X2 hds;repeat' (first|refine Ji ?_|refine TR.region rfl ?_|refine ag.a ?_)
  all_goals (try(refine aV.mk rfl qN qN ?_ ?_ <;> repeat' (first|exact tv|exact qW|refine an ⟨nb rfl,asE rfl (λk hk=>asB ?_)⟩ ?_|refine an ⟨nb rfl,af.row ?_ (λj hj k hk=>asB ?_)⟩ ?_|refine an ?_ ?_)))
  all_goals first|exact rfl|exact cm qV|(have hk:k<10:=hk;rcases k with _|_|_|_|_|_|_|_|_|_|k <;> first|exact cm qV|omega)|exact kk
 ·intro l X3 hds;repeat' (first|refine Ji ?_|refine TR.seq ?_|refine TR.region rfl ?_|refine TR.cond ?_|refine TR.block ?_|refine TR.skip ?_|refine ai.n (λh=>?_)|refine ag.a ?_)
  all_goals (try(refine aV.mk rfl qN qN ?_ ?_ <;> repeat' (first|exact tv|refine an ⟨nb rfl,asE rfl (λk hk=>asB ?_)⟩ ?_|refine an ⟨nb rfl,af.row ?_ (λj hj k hk=>asB ?_)⟩ ?_)))
  all_goals first|exact rfl|exact cm qV|exact kk|(rw[show j=0 from Nat.lt_one_iff.1 hj];have hk:k<2:=hk;rcases k with _|_|k <;> first|exact cm qV|omega)
 ·intro X4 X;repeat' (first|refine oz ?_|refine asD 11 [2,3,4] [o0,o2,o1,(1,1,true,[]),(2,2,true,[])] ?_|refine mc ?_ ?_|refine ag.a ?_|refine Fin.dC (i:=5) (h:=λj=>jU (([(⟨0,0⟩:eY)]:List eY).getD j .z)) (jB.of (n:=1) (z:=2) (E:=52) (cu _) rfl fr) (Fin.tell (asG [jk s,.d (MS [(⟨0,0⟩:eY)]),iV 0] rfl fr vw)))
  all_goals (try(refine dh.mk ?_;repeat' (first|exact tv|exact rfl|refine an ?_ ?_|refine ag.mk ?_ ?_)))
  all_goals try exact aB
theorem adp(l:List Int)(h:3<=l.length/\l.length<=5):aQ 231 [.d (iH l)] (iV (JU l)):=by
 rcases l with _|⟨a,_|⟨b,_|⟨c,_|⟨d,_|⟨e,_|⟨f,l⟩⟩⟩⟩⟩⟩
 ·exact au h.1 (by simp)
 ·exact au h.1 (by simp)
 ·exact au h.1 (by simp)
 ·exact amM a b c
 ·exact amL a b c d
 ·exact amK a b c d e
 ·exact au h.2 (by simp)
def DR(s:bP)(l:List Int):Int:=min (JU l) (s.log.length:Int)
def Ja(s:bP)(l:List Int)(c:Int):Int:=bif (bif decide (c<DR s l) then decide (qo s.log (DR s l)=s.term) else false) then DR s l else c
theorem aaX(s:bP)(l:List Int)(c:Int)(hn:3<=l.length/\l.length<=5)(hl:s.log.length<=1000):aQ 214 [jc s,.d (iH l),iV c] (iV (Ja s l c)):=by
 refine asz Tryz.func214 λX=>?_
 (repeat' (first|refine oz ?_|refine asD 1 [] [o0,o0,o0,o0,o0,o0,o0] ?_|refine asD 2 [] [o0,o0,o0,o0,o0,o0,o0,o0,o0,o0,o0,o0] ?_|refine mc ?_ ?_|refine asN (adp l hn) ?_|refine asN (L6 s.log (DR s l) (by omega)) ?_|refine ai.mk (λh=>?_) (λh=>?_)|refine Fin.tell (vq (gz iV ?_) tv)))<;>(try(refine dh.mk ?_;repeat' (first|exact tv|exact rfl|refine asA (adp l hn) ?_|refine aU _ (ed (λht=>ae.tell (L6 s.log (DR s l) (by omega)) vw ⟨rfl,rfl⟩) ?_)|refine an ?_ ?_|refine ag.mk ?_ ?_)))
 all_goals try exact aB
 all_goals first|exact(dF h).symm|exact(bz h).symm
theorem al1{o:Oper}{a:Act}{G:Gh}{s:AS}{w:World}{t j i n E z ty:Nat}{g:Nat->Nat->V}(ho:o.op = .binOp .eql t (.tmp j) (.const (.slice none 0 0)) ty)(hk:(tI t).k=3)(hl:dG s.sl j = .row i n)(hob:s.s.get i = .row E z n g)(hn:0<n)(hg:bV G s.s w)(hs:oG G s a w):eu o a G s.s w (λv t=>v = .b false/\t=s.s):=by
 have hv:=hs.sl j;rw[hl]at hv;obtain⟨A,c,h1,_,h3⟩:=hv;have hu:a.eval (.tmp j) = .slice A n c:=(h3 E z n g hob).2 rfl;obtain⟨_,_,_,A2,c2,h4,h5⟩:=hg.aK.row i E z n g hob;rw[h1]at h4;injection h4 with h4
 injection h4 with h4 h6
 subst h4 h6;have hA:A.isNone=false:=by
  rcases h5 with h5|⟨_,b,cs,e,_⟩
  ·omega
  ·rw[e];rfl
 have hrun:=wu (w:=w) (t:=t) (op:=.eql) (u:=.slice A n c) (v:=.slice none 0 0) (ox:=.tmp j) (oy:=.const (.slice none 0 0)) (.inl rfl) (by simp[eqGuard]) rfl (Uf hk A n c 0 0);rw[hA]at hrun;refine eu.val (v:=.bool false) (V:=.b false) hg ?_ rfl ⟨rfl,rfl⟩;unfold execOp;simp only[ho,hu,show a.eval (.const (.slice none 0 0)) = .slice none 0 0 from rfl];have hg1:(eqGuard .eql t (.tmp j) (.const (.slice none 0 0)) (.slice A n c) (.slice none 0 0)).run Tryz.prog w = .ok () w:=by simp[eqGuard]
 rw[Sem.run_bind,hg1,Result.andThen_ok,if_pos rfl]at hrun;simp[hg1,hrun,Result.andThen]
theorem auY{l:List UInt8}:(l == l)=true:=by simp
theorem au3(r:aT)(h0:iR r=true):aQ 101 [.d (dB (jE r.kind.toNat::rT1 r))] (bQ [yc r,iV 0]):=by
 refine asz Tryz.func101 λX=>?_
 (repeat' (first|refine oz ?_|refine asA (au5 r h0) ?_|refine asA (GI r h0) ?_|refine aU _ (ed (λht=>ae.tell (adC (mQ r) (jE r.kind.toNat::rT1 r)) vw ⟨rfl,rfl⟩) ?_)|refine ai.mk (λh=>au h (by rw[auq,auY];decide)) (λh=>?_)|refine ai.n (λh=>?_)|refine ag.a ?_|refine asM rfl vw))<;>try exact aB
theorem af2(e:dm)(he:pz e)(hb:e.b=[])(hf:oV [⟨1,0,e.term.toNat,[]⟩])(hc:Hz (eG 7 1) [⟨1,0,e.term.toNat,[]⟩]):aQ 206 [.d (dB (bF [⟨1,0,e.term.toNat,[]⟩]))] (bQ [yj e,iV 0]):=by
 have ht:=he.term;refine asz Tryz.func206 λX=>?_
 (repeat' (first|refine oz ?_|refine as5 ?_|refine TL.round ?_|refine asA (PU [⟨1,0,e.term.toNat,[]⟩] hf) ?_|refine asA (QM 7 1 (.inr (.inr rfl)) [⟨1,0,e.term.toNat,[]⟩] hc) ?_|refine ai.n (λh=>?_)|refine asL (λh=>?_)|refine ag.a ?_|refine asM rfl ⟨asK ⟨⟨tv,vq (gz iV ?_) tv⟩,asQ (by rw[hb];rfl)⟩,VW.refl tv,tv⟩|refine ag.mk ?_ ?_))<;>try exact aB
 all_goals first|(simp;done)|(show((e.term.toNat:Nat):Int)=e.term;omega)|(show(dQ .i64).1<=((e.term.toNat:Nat):Int)/\((e.term.toNat:Nat):Int)<=(dQ .i64).2;simp only[dQ];omega)
theorem af1(e:dm)(he:pz e)(hb:e.b≠[])(hf:oV [⟨1,0,e.term.toNat,[]⟩,⟨2,2,0,e.b⟩])(hc:Hz (eG 7 1) [⟨1,0,e.term.toNat,[]⟩,⟨2,2,0,e.b⟩]):aQ 206 [.d (dB (bF [⟨1,0,e.term.toNat,[]⟩,⟨2,2,0,e.b⟩]))] (bQ [yj e,iV 0]):=by
 have ht:=he.term;refine asz Tryz.func206 λX=>?_
 (repeat' (first|refine oz ?_|refine as5 ?_|refine TL.round ?_|refine asA (PU [⟨1,0,e.term.toNat,[]⟩,⟨2,2,0,e.b⟩] hf) ?_|refine asA (QM 7 1 (.inr (.inr rfl)) [⟨1,0,e.term.toNat,[]⟩,⟨2,2,0,e.b⟩] hc) ?_|refine asA (Gw e.b.length (λj _=>fO (e.b.getD j 0)) (by have:=he.b;omega)) ?_|refine ai.n (λh=>?_)|refine asL (λh=>?_)|refine ag.a ?_|refine asM rfl ⟨asK ⟨⟨tv,vq (gz iV ?_) tv⟩,qV⟩,VW.refl tv,tv⟩|refine ag.mk ?_ ?_))<;>try exact aB
 all_goals first|(simp;done)|(show((e.term.toNat:Nat):Int)=e.term;omega)|(show(dQ .i64).1<=((e.term.toNat:Nat):Int)/\((e.term.toNat:Nat):Int)<=(dQ .i64).2;simp only[dQ];omega)
theorem af9(e:dm)(he:pz e)(hf:oV (kH e))(hc:Hz (eG 7 1) (kH e)):aQ 206 [.d (dB (bF (kH e)))] (bQ [yj e,iV 0]):=by
 by_cases hb:e.b=[]
 ·have e1:kH e=[⟨1,0,e.term.toNat,[]⟩]:=by unfold kH;rw[if_pos hb]
  rw[e1]at hf hc ⊢;exact af2 e he hb hf hc
 ·have e1:kH e=[⟨1,0,e.term.toNat,[]⟩,⟨2,2,0,e.b⟩]:=by unfold kH;rw[if_neg hb]
  rw[e1]at hf hc ⊢;exact af1 e he hb hf hc
theorem anS(b off:Nat)(x d:Int)(hr : -9223372036854775808<=x+d/\x+d<=9223372036854775807)(w:World)(h0:w.cell? ⟨b,off,none⟩=some (.int .i64 x))(f0:w.frozen? ⟨b,off,none⟩=false) :
  Calls Tryz.prog 73 #[.pointer (some ⟨b,off,none⟩),.int .i64 d] w λe w'=>e = .returned (.int .i64 (x+d))/\w'=w.setCell ⟨b,off,none⟩ (.int .i64 (x+d)):=by
 have hadd:=run_call_add (P:=Tryz.prog) (f:=110) Tryz.func110 qK qK qK .i64 qK (x:=x) (y:=d) (s:=x+d) h0 f0 (by
  have e:IntKind.wrap .i64 (x+d)=x+d:=by rw[IntKind.wrap_i64];omega
  simp[go_sem,e])
 go_enter Tryz.func73,Tryz.ntmps73;go_wp2;go_ret;exact⟨rfl,rfl⟩
theorem atv{args:List V}{st:ST}{K:V->ST->Prop}{i n off:Nat}{g:Nat->V}(x d:Int)(ha:args=[.ptr i off,iV d])(hob:st.get i = .blk n g)(ho:off<n)(hx:g off=iV x)(hr : -9223372036854775808<=x+d/\x+d<=9223372036854775807)(hk:K (iV (x+d)) (st.set i (.blk n (nU g off 1 (λ_=>iV (x+d)))))):ae 73 args st K:=by
 subst ha;refine⟨by unfold wB;rw[Tryz.func73];rfl,λG w us hg hl hv=>?_⟩;obtain⟨u1,u2,rfl⟩:∃ u1 u2,us=[u1,u2]:=by
  rcases us with _|⟨u1,_|⟨u2,_|⟨u3,q⟩⟩⟩
  ·cases hl
  ·cases hl
  ·exact⟨u1,u2,rfl⟩
  ·simp at hl
 obtain⟨b,hb,rfl⟩:=hv 0 _ _ rfl rfl;have h2:=hv 1 _ _ rfl rfl;obtain rfl:u2 = .int .i64 d:=h2;obtain⟨b',cs,ty,e1,e2,e3,e4⟩:=hg.aK.blk i n g hob;rw[hb]at e1;injection e1 with e1
 injection e1 with e1
 subst e1;have hoff:off<cs.size:=qO;obtain⟨q1,q2⟩:=e4 off _ (uU hoff);rw[hx]at q2;have q2:cs[off] = .int .i64 x:=q2;have hc:w.cell? ⟨b,off,none⟩=some (.int .i64 x):=by
  have:oI w b ty cs:=e2;rw[this.cell off,uU hoff,q2]
 have hz:w.frozen? ⟨b,off,none⟩=false:=(show oI w b ty cs from e2).free off;refine(anS b off x d hr w hc hz).mono λe w' ⟨h1,h2⟩=>?_
 have hw':w'.heap[b]?=some (.cells (cs.setIfInBounds off (.int .i64 (x+d))) ty (0,0)):=by rw[h2];exact(show oI w b ty cs from e2).set off _
 have hown:dA G st.get i b:=by unfold dA;rw[hob];exact hb
 have hlt:i<st.nx:=by
  refine Nat.lt_of_not_le λhle=>?_
  have:=(hg.jK i hle).2;rw[hob]at this;cases this
 have hch:uT G st (st.set i (.blk n (nU g off 1 (λ_=>iV (x+d))))) w w' i (.blk b) (.blk n (nU g off 1 (λ_=>iV (x+d)))):={
  get:=qG st i _
  nx:=⟨bu _,hlt⟩
  os:=by rw[h2];rfl
  tape:=by rw[h2];rfl
  output:=by rw[h2];rfl
  size:=by rw[h2];simp
  keep:=λc hc hn=>by rw[h2];exact Below.heap_setCell _ _ _ _ (λe=>hn (by rw[e];exact hown))
  own:=λc hc=>.inl (by have hc:Loc.blk b=Loc.blk c:=hc;injection hc with hc;subst hc;exact hown)
  loc:=λc hc=>by rw[hb]at hc;exact fG hc
  row:=λA c hc=>by rw[hb]at hc;cases hc }
 have hs:=hch.dS;have hgd:=hch.aK hg ⟨b,_,ty,rfl,hw',by rw[Array.size_setIfInBounds];exact e3,λk y hk=>by
  rw[IV];by_cases hk2:off=k
  ·subst hk2;rw[Array.getElem?_setIfInBounds_self_of_lt hoff]at hk;injection hk with hk
   subst hk;rw[if_pos ⟨bu _,by omega⟩];exact⟨rfl,rfl⟩
  ·rw[Array.getElem?_setIfInBounds_ne hk2]at hk;rw[if_neg qO];exact⟨(e4 k y hk).1,((e4 k y hk).2).dS hs hg.aK⟩⟩ (λk hk=>(hg.jK k hk).1)
 exact⟨_,_,_,_,h1,hk,hgd,hs,rfl⟩
section
section
variable {t0:ST} {X:Cx t0} {Q:Exit->AS->Prop} {s s2:AS}
theorem aum{c:Code}(i off E:Nat)(g:Nat->Nat->V){n:Nat}{g0:Nat->V}(hob:s.s.get i = .blk n g0)(hc:g0 off = .dE)(hoff:off<n)(hE:(tI E).ok=true)(hz:0<(tI E).size)(h:T X c Q ⟨s.nt,s.sl,(s.s.new (.row E (tI E).size 0 g)).set i (.blk n (nU g0 off 1 (λ_=>.vw s.s.nx 0 0 0)))⟩):T X c Q s:=T.mk λa w hm=>by
 obtain⟨G,hg,hs,hx⟩:=hm;obtain⟨b,cs,ty,e1,e2,e3,e4⟩:=hg.aK.blk _ _ _ hob;have hcx:=uU (xs:=cs) (i:=off) qO;obtain⟨q1,q2⟩:=e4 off _ hcx;rw[hc]at q2;obtain⟨A,q2⟩:=q2;obtain⟨p1,p2,p3⟩:=IK (A:=A) (c:=0) (n:=0) (E:=E) (g:=g) hg (Below.refl _ _) hE rfl hz (λh=>by omega) (λ_=>.inl ⟨rfl,rfl⟩);have hlt:i<s.s.nx:=by
  refine Nat.lt_of_not_le λhle=>?_
  have:=(hg.jK i hle).2;rw[hob]at this;cases this
 have YE:(s.s.new (.row E (tI E).size 0 g)).get i = .blk n g0:=by rw[LQ,if_neg qO,hob]
 have Hw:(G.upd s.s.nx (.row A 0)).ρ i=some (.blk b):=by
  show uG G.ρ s.s.nx _ i=_;rw[uG,if_neg qO,e1]
 have hch:uT (G.upd s.s.nx (.row A 0)) (s.s.new (.row E (tI E).size 0 g)) ((s.s.new (.row E (tI E).size 0 g)).set i (.blk n (nU g0 off 1 (λ_=>.vw s.s.nx 0 0 0)))) w w i (.blk b) (.blk n (nU g0 off 1 (λ_=>.vw s.s.nx 0 0 0))):=
  ⟨qG _ i _,⟨bu _,Nat.lt_succ_of_lt hlt⟩,rfl,rfl,rfl,bu _,λ_ _ _=>rfl,λb' hb'=>by
   have hb':Loc.blk b=Loc.blk b':=hb';injection hb' with hb'
   subst hb';exact .inl (by unfold dA;rw[YE];exact Hw),λb' hb'=>by rw[Hw]at hb';exact fG hb',λA' c' hb'=>by rw[Hw]at hb';cases hb'⟩
 have hs2:=hch.dS;have hgd:=hch.aK p1 ⟨b,cs,ty,rfl,e2,e3,λk x hk=>⟨(e4 k x hk).1,by
  rw[IV];split
  ·rename_i hk2
   obtain rfl:k=off:=qO;rw[hcx]at hk;injection hk with hk
   rw[<-hk,q2];have p4:aO (G.upd s.s.nx (.row A 0)) (s.s.new (.row E (tI E).size 0 g)).get w (.vw s.s.nx 0 0 0) (.slice A 0 0):=⟨A,0,by show uG G.ρ s.s.nx _ s.s.nx=_;rw[uG,if_pos rfl],⟨A,0,rfl⟩,λE' s' q g' _=>⟨cu _,λ_=>⟨A,0,rfl,bu _,cu _,λ_=>rfl,λh=>au h (Nat.lt_irrefl _),rfl,λh=>au h (Nat.lt_irrefl _)⟩⟩⟩;exact p4.dS hs2 p1.aK
  ·exact((e4 k x hk).2.dS p2 hg.aK).dS hs2 p1.aK⟩⟩ (λk hk=>(p1.jK k hk).1)
 exact h.h a w ⟨_,hgd,⟨⟨hs.nt,λj=>((hs.sl j).dS p2 hg.aK).dS hs2 p1.aK⟩,hs.df⟩,(hx.trans p2).trans hs2⟩
end
end
theorem ae.told{f:Nat}{args:List V}{st t2:ST}{Q K:V->ST->Prop}{r:V}(h:ae f args st Q)(hlo:st.nx<=t2.nx)(hq:∀ v t,Q v t->t2.nx<=t.nx/\VW t2.nx v r/\yl t2.nx t t2)(hk:K r t2):ae f args st K:=
 ⟨h.1,λG w us hg hl hv=>(h.2 G w us hg hl hv).mono λe w' ⟨v,V,t',G',e1,hQ,lU,hs,Ib⟩=>by
  obtain⟨q1,q2,q3⟩:=hq _ _ hQ
  let X:Cx st:=⟨G,w,hg,[]⟩
  exact⟨v,r,t2,G'.drop t2.nx,e1,hk,Gp lU q3 q1 rfl,IG (X:=X) hs q3 hlo,zJ q3 q2 Ib⟩⟩
def mJ(n:Nat):List (Nat×aG)->Prop
 |[]=>True
 |p::r=>(p.1<n/\kX (λi=>i<n) p.2)/\mJ n r
def FK(n:Nat):List (Nat×aG)->Prop
 |[]=>True
 |p::r=>kX (λi=>i<n) p.2/\FK n r
theorem xC{n:Nat}:∀ {l:List (Nat×aG)},mJ n l->∀ i,dM l i = .dead\/(i<n/\kX (λi=>i<n) (dM l i))
 |[],_,_=>.inl rfl
 |(k,v)::r,h,i=>by
  show(bif Nat.beq k i then v else dM r i) = .dead\/(_/\kX _ (bif Nat.beq k i then v else dM r i));rcases hb:Nat.beq k i with _|_
  ·exact xC h.2 i
  ·have:=dH hb;subst this;exact .inr h.1
theorem aaY{n:Nat}:∀ {l:List (Nat×aG)},FK n l->∀ i,kX (λi=>i<n) (dM l i)
 |[],_,_=>True.intro
 |(k,v)::r,h,i=>by
  show kX _ (bif Nat.beq k i then v else dM r i);rcases hb:Nat.beq k i with _|_
  ·exact aaY h.2 i
  ·exact h.1
def EW(n:Nat):List (Nat×aG)->Bool
 |[]=>true
 |p::r=>Nat.ble n p.1&&EW n r
theorem Pn{n:Nat}:∀ {e l:List (Nat×aG)},EW n e=true->∀ i,i<n->dM (e++l) i=dM l i
 |[],_,_,_,_=>rfl
 |(k,v)::r,l,h,i,hi=>by
  obtain⟨h1,h2⟩:=kJ h;show(bif Nat.beq k i then v else dM (r++l) i)=_;rcases hb:Nat.beq k i with _|_
  ·exact Pn h2 i hi
  ·have:=dH hb;have:=CJ h1;omega
theorem O1{n:Nat}{l:List (Nat×aG)}(hl:mJ n l):∀ {e:List (Nat×aG)} (i:Nat),n<=i->dM (e++l) i=dM e i
 |[],i,hi=>by
  rcases xC hl i with h|⟨h,_⟩
  ·exact h
  ·omega
 |(k,v)::r,i,hi=>by
  show(bif Nat.beq k i then v else dM (r++l) i)=(bif Nat.beq k i then v else dM r i);rw[O1 hl i hi]
def kF(l:List (Nat×aG)):List Nat:=l.map (·.1)
theorem Et:∀ {l:List (Nat×aG)},ik (kF l)=true->∀ p∈l,dM l p.1=p.2
 |[],_,p,hp=>by cases hp
 |(k,v)::r,h,p,hp=>by
  obtain⟨h1,h2⟩:=kJ h;show(bif Nat.beq k p.1 then v else dM r p.1)=p.2;rcases List.mem_cons.1 hp with rfl|hp
  ·simp
  ·rcases hb:Nat.beq k p.1 with _|_
   ·exact Et h2 p hp
   ·have e:=dH hb;have hm:p.1∈kF r:=List.mem_map_of_mem (f:=λq:Nat×aG=>q.1) hp;obtain⟨i,hi,he⟩:=List.getElem_of_mem hm;have h3:=oL (l:=kF r) (i:=p.1) (k:=i) h2 (by rw[dW hi,he]);have h1:(match bZ (kF r) k with|some _=>false|none=>true)=true:=h1;rw[e,h3]at h1;cases h1
theorem yJ{n:Nat}:∀ {l:List (Nat×aG)},mJ n l->∀ p∈l,p.1<n
 |[],_,p,hp=>by cases hp
 |q::r,h,p,hp=>by
  rcases List.mem_cons.1 hp with rfl|hp
  ·exact h.1.1
  ·exact yJ h.2 p hp
def wQ(n i:Nat):Option Nat:=bif Nat.blt i n then some i else none
theorem Ux:∀(n s i:Nat),bZ (List.range' s n) i=if s<=i/\i<s+n then some (i-s) else none
 |0,s,i=>by rw[if_neg qO];rfl
 |n+1,s,i=>by
  rw[List.range'_succ];show(bif Nat.beq s i then some 0 else (match bZ (List.range' (s+1) n) i with|some k=>some (k+1)|none=>none))=_;rw[Ux n (s+1) i];rcases hb:Nat.beq s i with _|_
  ·have hne:s≠i:=λe=>by subst e;simp at hb
   by_cases h:s+1<=i/\i<s+1+n
   ·rw[if_pos h,if_pos qO,di];show some (i-(s+1)+1)=_;congr 1;omega
   ·rw[if_neg h,if_neg qO];rfl
  ·have:=dH hb;subst this;show some 0=(if s<=s/\s<s+(n+1) then some (s-s) else none);rw[if_pos ⟨bu _,by omega⟩,Nat.sub_self]
theorem U9(n:Nat):bZ (List.range n)=wQ n:=funext λi=>by
 rw[List.range_eq_range',Ux];unfold wQ;by_cases h:i<n
 ·rw[if_pos qO,show Nat.blt i n=true by rw[Nat.blt_eq];exact h];rfl
 ·rw[if_neg qO,show Nat.blt i n=false by rw[yE,ne_eq,Nat.blt_eq];exact h];rfl
theorem nodup_range(n:Nat):ik (List.range n)=true:=by
 have:∀(n s:Nat),ik (List.range' s n)=true:=by
  intro n;induction n with
  |zero=>intro s;rfl
  |succ n ih=>
   intro s;rw[List.range'_succ];show((match bZ (List.range' (s+1) n) s with|some _=>false|none=>true)&&ik (List.range' (s+1) n))=true;rw[ih,Ux,if_neg qO];rfl
 rw[List.range_eq_range'];exact this n 0
theorem Qk{n i:Nat}(h:i<n):wQ n i=some i:=by
 unfold wQ;rw[show Nat.blt i n=true by rw[Nat.blt_eq];exact h];rfl
theorem adq{m:Nat}:∀ {E:List (Nat×aG)} {i:Nat},rY (kF E) m=true->m<=i->dM E i = .dead
 |[],_,_,_=>rfl
 |(k,v)::r,i,h,hi=>by
  obtain⟨g1,g2⟩:=kJ (show(Nat.blt k m&&rY (kF r) m)=true from h);show(bif Nat.beq k i then v else dM r i) = .dead;rcases hb:Nat.beq k i with _|_
  ·exact adq g2 hi
  ·have:=dH hb;have:=lS g1;omega
theorem WI{N:Nat}{v:V}:iO (λi=>i<N) v->wV N v:=by
 induction v with
 |agg n g ih=>exact λh k hk=>ih k (h k hk)
 |fV n g ih=>exact λh k hk=>ih k (h k hk)
 |fn f nf n g ih=>exact λh k hk=>ih k (h k hk)
 |ku t w x ih=>exact λh=>ih h
 |_=>exact λh=>h
theorem as2{N:Nat}{o:aG}(h:kX (λi=>i<N) o):af N o o:=by
 cases o with
 |dead=>exact True.intro
 |blk n g=>exact⟨rfl,λk hk=>VW.refl (WI (h k hk))⟩
 |row E s n g=>exact⟨rfl,rfl,rfl,λj hj k hk=>VW.refl (WI (h j hj k hk))⟩
 |map es=>
  intro k;rcases he:dU es k with _|v
  ·exact True.intro
  ·exact VW.refl (WI (h k v he))
theorem atw{f:Nat}{args args':List V}{st:ST}{l l1:List (Nat×aG)}{n:Nat}{r:V}{K:V->ST->Prop}(q:Nat)(h:ae f args' ⟨l,n⟩ (λv t=>v=r/\t=⟨l1,n⟩))(hst:st.st.drop q=l)(hex:EW n (st.st.take q)=true)(hlt:rY (kF (st.st.take q)) st.nx=true)(hn:Nat.ble n st.nx=true)(hd:ik (kF l)=true)(hl:mJ n l)(hl1:mJ n l1)(hr:iO (λi=>i<n) r)(hc:FK st.nx (st.st.take q))(ha:kS n (wQ n) args args')(hk:K r ⟨st.st.take q++l1,st.nx⟩):ae f args st K:=by
 obtain⟨s,m⟩:=st;have hn:=CJ hn;have hs:s=s.take q++l:=by
  have hst:s.drop q=l:=hst;rw[<-hst,List.take_append_drop]
 have hex:EW n (s.take q)=true:=hex;have hc:FK m (s.take q):=hc;have hlt:rY (kF (s.take q)) m=true:=hlt;generalize hE:s.take q=E at *;subst hs;have hφ:∀ k,k<n->k<n/\wQ n k=some k:=λk hk=>⟨hk,Qk hk⟩
 have hob:∀ k:List (Nat×aG),(∀ p∈k,p∈l)->o9 n (bZ (List.range n)) ⟨E++l,m⟩ (List.range n) k:=by
  intro k;induction k with
  |nil=>exact λ_=>True.intro
  |cons p r ih=>
   intro hk;obtain⟨i,o⟩:=p;refine⟨?_,ih λp hp=>hk p (je _ hp)⟩;have hm:=hk _ jC;have hlook:=Et hd _ hm;rcases xC hl i with h0|⟨h0,h1⟩
   ·have ho:o = .dead:=hlook.symm.trans h0;subst ho;have hi:i<n:=yJ hl _ hm;exact⟨i,by rw[List.getElem?_range hi],atT⟩
   ·refine⟨i,by rw[List.getElem?_range h0],?_⟩;have e:(⟨E++l,m⟩:ST).get i=o:=(Pn hex i h0).trans hlook;rw[e,U9];rw[hlook]at h1;exact atp hφ h1
 have hsel:∀ i∈List.range n,i<m:=λi hi=>su (List.mem_range.1 hi) hn
 have hfr:=ae.frame (K:=λv t=>v=o8 (List.range n) m r/\t=sG ⟨E++l,m⟩ (List.range n) ⟨l1,n⟩) h (nodup_range n) hsel (by rw[List.length_range]) (by rw[U9];exact ha) (hob l λp hp=>hp) λv t ⟨h1,h2⟩=>by subst h1 h2;exact⟨rfl,rfl⟩
 have hback:∀ k,k<n->kV (List.range n) m k=k:=λk hk=>zK (by rw[List.getElem?_range hk])
 have hE0:∀ i,m<=i->dM E i = .dead:=λi hi=>adq hlt hi
 have hu:∀ i,m<=i->(⟨E++l,m⟩:ST).get i = .dead:=λi hi=>(O1 hl i (jV hn hi)).trans (hE0 i hi)
 have ht:∀ i,n<=i->(⟨l1,n⟩:ST).get i = .dead:=λi hi=>by
  rcases xC hl1 i with h0|⟨h0,_⟩
  ·exact h0
  ·omega
 refine hfr.told (t2:=⟨E++l1,m⟩) (bu _) (λv t ⟨h1,h2⟩=>?_) hk;subst h1 h2;refine⟨Nat.le_add_right _ _,asZ (P:=λi=>i<n) (λk hk=>⟨su hk hn,by rw[hback k hk]⟩) hr,λi=>?_⟩;by_cases hi:i<n
 ·have e1:(⟨E++l1,m⟩:ST).get i=dM l1 i:=Pn hex i hi;have e2:(sG ⟨E++l,m⟩ (List.range n) ⟨l1,n⟩).get i=lQ (λk=>some (kV (List.range n) m k)) (dM l1 i):=by
   have:=Uw (st:=⟨E++l,m⟩) (t:=⟨l1,n⟩) (nodup_range n) hsel hu ht i;rw[hback i hi]at this;exact this
  rw[e1,e2];rcases xC hl1 i with h0|⟨h0,h1⟩
  ·exact .inl h0
  ·exact .inr ⟨su hi hn,atp (P:=λi=>i<n) (λk hk=>⟨su hk hn,by rw[hback k hk]⟩) h1⟩
 ·have hi2:n<=i:=Nat.le_of_not_lt hi;have e1:(⟨E++l1,m⟩:ST).get i=dM E i:=O1 hl1 i hi2;by_cases hm:i<m
  ·have e2:(sG ⟨E++l,m⟩ (List.range n) ⟨l1,n⟩).get i=dM E i:=by
    refine(Gj hsel ?_ hm).trans (O1 hl i hi2);rw[U9];unfold wQ;rw[show Nat.blt i n=false by rw[yE,ne_eq,Nat.blt_eq];exact hi];rfl
   rw[e1,e2];rcases hE0:dM E i with _|_|_|_
   ·exact .inl rfl
   all_goals exact .inr ⟨hm,by rw[<-hE0];exact as2 (aaY hc i)⟩
  ·exact .inl (e1.trans (hE0 i (Nat.le_of_not_lt hm)))
end Go.Proofs.YtnibdnahojjcgaaGreat
