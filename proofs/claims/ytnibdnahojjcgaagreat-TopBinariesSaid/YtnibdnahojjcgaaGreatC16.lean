/- Lemmas. -/
import Derived.Test.YtnibdnahojjcgaaGreatC15
namespace Go.Proofs.YtnibdnahojjcgaaGreat
set_option linter.all false
set_option maxRecDepth 100000
set_option maxHeartbeats 0
open Go.RowKit Tryz
def apJ{o:Oper}{a:Act}{G:Gh}{s:AS}{w:World}{t j i n E z ty:Nat}{g:Nat->Nat->V}(ho:o.op = .binOp .eql t (.tmp j) (.const (.slice none 0 0)) ty)(hk:(tI t).k=3)(hl:dD s.sl j = .row i n)(hob:s.s.get i = .row E z n g)(hn:0<n)(hg:bZ G s.s w)(hs:oZ G s a w):fG o a G s.s w (λv t=>v = .b false/\t=s.s):=by
 have hv:=hs.sl j;rw[hl]at hv;obtain⟨A,c,h1,_,h3⟩:=hv;have hu:a.eval (.tmp j) = .slice A n c:=(h3 E z n g hob).2 rfl;obtain⟨_,_,_,A2,c2,h4,h5⟩:=hg.axy.row i E z n g hob;rw[h1]at h4;injection h4 with h4
 injection h4 with h4 h6
 subst h4 h6;have hA:A.isNone=false:=by
  obtain h5|⟨_,b,cs,e,_⟩:=h5
  ·omega
  ·rw[e];rfl
 have hrun:=xn (w:=w) (t:=t) (op:=.eql) (u:=.slice A n c) (v:=.slice none 0 0) (ox:=.tmp j) (oy:=.const (.slice none 0 0)) (.inl rfl) (by simp[eqGuard]) rfl (V6 hk A n c 0 0);rw[hA]at hrun;refine fG.val (v:=.bool false) (V:=.b false) hg ?_ rfl ⟨rfl,rfl⟩;unfold execOp;simp only[ho,hu,show a.eval (.const (.slice none 0 0)) = .slice none 0 0 from rfl];have hg1:(eqGuard .eql t (.tmp j) (.const (.slice none 0 0)) (.slice A n c) (.slice none 0 0)).run prog w = .ok () w:=by simp[eqGuard]
 rw[Sem.run_bind,hg1,Result.andThen_ok,if_pos rfl]at hrun;simp[hg1,hrun,Result.andThen]
def Zv(x:aV)(hx:DT x.l):aQ 96 [jT x] (jT x):=by
 refine ay func96 λX=>?_
 (repeat'(first|refine aC ?_|refine aO (Xx x.l hx) ?_|refine ag.a ?_|refine Fin.tell (gu vw)))<;>try exact cls
def kD:Int->List bH->List bH->Int×List bH
 |b,_,[]=>(0,[])
 |b,[],x::r=>(0,x::r)
 |b,h::t,x::r=>bif decide (h.term=x.term) then kD (b+1) t r else(b+1,x::r)
def oQ(l:List bH)(b:Nat)(add:List bH):Int×List bH:=kD b (l.drop b) add
def afF{l add:List bH}{b i:Nat}(h:add.length<=i):kD (b+i:Nat) (l.drop (b+i)) (add.drop i)=(0,[]):=by
 rw[qM h];cases l.drop (b+i) <;> rfl
def XZ{l add:List bH}{b i:Nat}(h:l.length<=b+i)(hi:i<add.length):kD (b+i:Nat) (l.drop (b+i)) (add.drop i)=(0,add.drop i):=by
 rw[qM h,wO .z hi];rfl
def Zz{l add:List bH}{b i:Nat}(h:b+i<l.length)(hi:i<add.length)(hn:(l.getD (b+i) .z).term≠(add.getD i .z).term):kD (b+i:Nat) (l.drop (b+i)) (add.drop i)=(((b+i:Nat):Int)+1,add.drop i):=by
 rw[wO .z h,wO .z hi];show(bif decide ((l.getD (b+i) .z).term=(add.getD i .z).term) then _ else _)=_;rw[aT hn];rfl
def as7{l add:List bH}{b i:Nat}(h:b+i<l.length)(hi:i<add.length)(hn:(l.getD (b+i) .z).term=(add.getD i .z).term):kD (b+i:Nat) (l.drop (b+i)) (add.drop i)=kD (b+(i+1):Nat) (l.drop (b+(i+1))) (add.drop (i+1)):=by
 rw[wO .z h,wO .z hi];show(bif decide ((l.getD (b+i) .z).term=(add.getD i .z).term) then _ else _)=_;rw[aX hn];rfl
def aak{a b:Int}(h:(!decide (a=b))=true):a≠b:=by
 intro e;rw[aX e]at h;cases h
def au2{a b:Int}(h:(!decide (a=b))=false):a=b:=by
 rcases hd:decide (a=b) with _|_
 ·rw[hd]at h;cases h
 ·exact bT hd
def acn{l:List bH}{i j:Nat}:l.getD (i+j) .z=(l.drop i).getD j .z:=by rw[bn,bn,rP]
def afJ(l:List bH)(b:Nat)(add:List bH)(hb:b<=l.length)(hl:l.length<=1000)(ha:add.length<=1000):aQ 208 [.d (gY l),iV b,.d (gY add)] (bI [iV (oQ l b add).1,.d (gY (oQ l b add).2)]):=by
 refine ay func208 λX=>?_
 (repeat'(first|refine dU add.length (λi (a:Unit)=>⟨54,[(1,iV b),(2,.d (gY add)),(6,iV 0),(7,.dC),(8,.d (.sl (l.length-b) 2 (λj=>pJ (l.getD (b+j) .z)))),(22,.d (gY add)),(23,iV add.length),(24,iV i)],⟨[],0⟩⟩) (λi a=>oQ l b add=kD (b+i:Nat) (l.drop (b+i)) (add.drop i)) () ?_ ?_ (λi a hi hp=>?_)|refine aZ () ⟨?_,?_,?_⟩|exact kJ rfl ⟨vq (ah iV (by rw[show oQ l b add=_ from hp.trans (XZ om om)])) tv,VW.sl (by rw[show oQ l b add=_ from hp.trans (XZ om om),eY]) (λj hj k hk=>ah (λe=>pJ e k) (by rw[show oQ l b add=_ from hp.trans (XZ om om)];exact acn)),tv⟩|exact kJ rfl ⟨vq (ah iV (by rw[show oQ l b add=_ from hp.trans (Zz om om (aak h))];show(b:Int)+i+1=((b+i:Nat):Int)+1;omega)) tv,VW.sl (by rw[show oQ l b add=_ from hp.trans (Zz om om (aak h)),eY]) (λj hj k hk=>ah (λe=>pJ e k) (by rw[show oQ l b add=_ from hp.trans (Zz om om (aak h))];exact acn)),tv⟩|exact kJ rfl ⟨vq (ah iV (by rw[show oQ l b add=_ from hp.trans (afF om)])) tv,pg (by rw[show oQ l b add=_ from hp.trans (afF om)];rfl),tv⟩|refine aC ?_|refine bU 9 [] (ooz 8 []) ?_|refine mc ?_ ?_|refine aj.mk (λh=>ai (ZR h) (by rw[aT qo,aT qo];decide)) (λh=>?_)|refine aO (Yj (add.length-i) (λj=>pJ (add.getD (i+j) .z)) qo) ?_|refine aj.mk (λh=>?_) (λh=>?_)|refine ag.a ?_|refine ag.mk ?_ ?_))<;>(try(refine dm.mk ?_;repeat'(first|exact tv|exact rfl|refine an ?_ ?_|refine ag.mk ?_ ?_)))
 all_goals try exact cls
 all_goals first|exact om|exact hp.trans (as7 om om (au2 h))|(have h7:=bV (aG:decide (((l.length-b:Nat):Int)<=(i:Int))=false);omega)
def gW(s:bC)(t:Int):List aP:=bif decide (t<=s.term) then [] else jh t 0
def TC(s:bC)(t:Int):aQ 162 [jC s,iV t] (.d (kK (gW s t))):=by
 by_cases h:t<=s.term
 ·exact(ad1 s t h).I7 λX=>Fin.tell (pg (by unfold gW;rw[aX h];rfl))
 ·refine(adZ s t qO).I7 λX=>Fin.eG (i:=1) (h:=λj=>pI ((jh t 0).getD j .z)) sF (Fin.tell (vq (jB.trans ?_) tv))
  show V.d (kK (jh t 0))=V.d (kK (gW s t));unfold gW;rw[aT h];rfl
def asg(t w:Int):aQ 93 [iV t,iV w] (.d (kK (jh t w))):=
 (Zh t w).I7 λX=>Fin.eG (i:=0) (h:=λj=>pI ((jh t w).getD j .z)) sF (Fin.tell (vq jB trivial))
def G9(s:bC)(x:aV):Bool:=bif (bif decide (x.term<s.term) then true else !(bif (bif decide (s.term<x.term) then true else decide (s.cu=0)) then true else decide (s.cu=x.src+1))) then true else !agG s.log x.a x.b
def jG(s:bC)(x:aV):List aP×Bool:=bif G9 s x then(gW s x.term,false) else bif (bif decide (x.term=s.term) then decide (s.cu=x.src+1) else false) then([],true) else(jh x.term (x.src+1),true)
def aeK(s:bC)(x:aV)(hx:jY x)(fF:x.kind=1)(hl:s.log.length<=1000):aQ 160 [jC s,jT x] (bI [.d (kK (jG s x).1),.b (jG s x).2,iV 0]):=by
 refine ay func160 λX=>?_
 (repeat'(first|exact kJ rfl ⟨vq (ah (λL=>V.d (kK L)) (by rw[show jG s x=_ from dH h])) tv,vq (ah V.b (by rw[show jG s x=_ from dH h])) tv,qV,tv⟩|exact kJ rfl ⟨pg (by rw[show jG s x=_ from (bG aG).trans (dH h)];rfl),vq (ah V.b (by rw[show jG s x=_ from (bG aG).trans (dH h)])) tv,qV,tv⟩|exact kJ rfl ⟨vq (ah (λL=>V.d (kK L)) (by rw[show jG s x=_ from (bG aG).trans (bG h)])) tv,vq (ah V.b (by rw[show jG s x=_ from (bG aG).trans (bG h)])) tv,qV,tv⟩|refine aj.mk (λh=>ai h (by rw[Ih.2 hx,fF];decide)) (λh=>?_)|refine aC ?_|refine aO (FP x (by have:=hx.len;omega)) ?_|refine aZ (V.b (bif (bif decide (s.term<x.term) then true else decide (s.cu=0)) then true else decide (s.cu=x.src+1))) (fM (λht=>af.of (f:=210) func210 rfl rfl qN λX2=>?_) ?_)|refine aZ _ (fM (λht=>af.tell (arj s.log x.a x.b qo) vw ⟨rfl,rfl⟩) ?_)|refine aO (TC s x.term) ?_|refine aO (asg x.term (x.src+1)) ?_|exact Fin.here ⟨rfl,rfl⟩|refine aj.mk (λh=>?_) (λh=>?_)|refine ag.a ?_|refine ag.mk ?_ ?_))<;>try exact cls
 all_goals(have:=hx.src;simp only[dM];omega)
def NR(q:aA×List aV×Int)(v:V)(t:ST):Prop:=v=bI [.d (iU q.2.1),iV q.2.2]/\t=NS q.1
def NR.of{t0:ST}{X:Cx t0}{v:V}{t:ST}{p q:aA×List aV×Int}(e:q=p)(h:Fin X v t (NR p)):Fin X v t (NR q):=e▸h
def NT{c g:Nat->V}{R:aV}{j k:Nat}(hj:j<1)(hk:k<10)(e0:g 0 = .d (kN R 0))(e1:g 1 = .d (kN R 1))(e2:g 2 = .d (kN R 2))(e3:g 3 = .d (kN R 3))(e4:g 4 = .d (kN R 4))(e5:g 5 = .d (kN R 5))(e6:g 6 = .d (kN R 6))(e7:g 7 = .d (kN R 7))(e8:g 8 = .d (kN R 8))(e9:g 9 = .d (kN R 9)):oK c (0*10) 10 g (j*10+k) = .d (kN (([R]:List aV).getD j .z) k):=by
 obtain rfl:j=0:=Nat.lt_one_iff.1 hj;obtain _|_|_|_|_|_|_|_|_|_|k:=k
 ·exact e0
 ·exact e1
 ·exact e2
 ·exact e3
 ·exact e4
 ·exact e5
 ·exact e6
 ·exact e7
 ·exact e8
 ·exact e9
 ·omega
def yA(n:aA)(x:aV):aA×List aV×Int:=
 bif !decide ((aS n (jG n.ae x).1).2=0) then((aS n (jG n.ae x).1).1,[],(aS n (jG n.ae x).1).2)
 else((aS n (jG n.ae x).1).1,[{ sJ (aS n (jG n.ae x).1).1 2 x.src with ok:=(jG n.ae x).2 }],0)
def amW(n:aA)(x:aV)(hx:jY x)(fF:x.kind=1)(hl:n.ae.log.length<=1000)(hL:mV n.ae (jG n.ae x).1)(hn:wB n):af 106 [.ptr 0 0,jT x] (NS n) (NR (yA n x)):=by
 refine ay func106 λX=>?_
 (repeat'(first|refine aC ?_|refine bU 1 [6] (ooz 6 [o1,o3,o3,o3,o3,o3,o3,o3]) ?_|refine mc ?_ ?_|refine fO [0,1,2,3,4,5,6,7] (Ea n (jG n.ae x).1 hL hn) ?_|refine fO [0,1,2,3,4,5,6,7] (X7 (aS n (jG n.ae x).1).1 2 x.src) ?_|refine kF (aeK n.ae x hx fF hl) ?_|refine aj.n (λh=>?_)|refine aj.mk (λh=>?_) (λh=>?_)|refine ag.a ?_|refine NR.of (p:=((aS n (jG n.ae x).1).1,[],(aS n (jG n.ae x).1).2)) ?_ (bM qN qN (fH [.d (iU []),iV ((aS n (jG n.ae x).1).2)] rfl fr vw) ?_)|refine NR.of (p:=((aS n (jG n.ae x).1).1,[({ sJ (aS n (jG n.ae x).1).1 2 x.src with ok:=(jG n.ae x).2 }:aV)],0)) ?_ (Fin.eG (i:=10) (h:=λj=>kN (([({ sJ (aS n (jG n.ae x).1).1 2 x.src with ok:=(jG n.ae x).2 }:aV)]:List aV).getD j .z)) (iI.of (n:=1) (z:=10) (E:=126) qN rfl (λj hj k hk=>NT hj hk rfl rfl rfl rfl rfl rfl rfl rfl rfl rfl)) (bM qN qN (fH [.d (iU [({ sJ (aS n (jG n.ae x).1).1 2 x.src with ok:=(jG n.ae x).2 }:aV)]),iV 0] rfl fr vw) ?_))))<;>(try(refine dm.mk ?_;repeat'(first|exact tv|exact rfl|refine aO (aeK n.ae x hx fF hl) ?_|refine an ?_ ?_|refine ag.mk ?_ ?_)))
 all_goals try exact cls
 all_goals first|exact dH h|exact bG h|exact uF
def Y7(s:aN)(hs:uO s):af 39 [dZ s] e0 (λrv rt=>rv=(.agg 7 (rZ s (.row 3 s.aJ.length) (.row 4 s.opens.length) (.row 5 s.az.length)))/\rt=⟨[(3,bQ 54 4 iE .z s.aJ),(4,bQ 97 2 iw .z s.opens),(5,bQ 71 5 iP .z (s.az))],6⟩):=by
 have hl1:=hs.l1;have pK:=hs.l2;have hl3:=hs.l3.len;refine ay func39 λX=>?_
 (repeat'(first|refine T.eG (c:=.region 10 _ _) (i:=7) (h:=λj _=>iD ((s.az.getD i .z).chunks.getD j 0)) (iI.of qN rfl fr) (T.le ⟨42,[(1,.ptr 0 0),(2,.ptr 1 0),(3,.ptr 2 0),(4,iV i),(5,.ptr 6 0)],⟨[(0,.Wp 7 (λk=>.d (dW s k))),(1,.Wp 7 (λ_=>.top)),(2,.Wp 7 (rZ s (.row 3 s.aJ.length) (.row 4 s.opens.length) (.row 5 ((s.az.take i).length)))),(3,bQ 54 4 iE .z s.aJ),(4,bQ 97 2 iw .z s.opens),(5,bQ 71 5 iP .z (s.az.take i)),(6,.Wp 5 (λk=>.d (iP (s.az.getD i .z) k)))],7⟩⟩ ?_ (T.region ?_))|refine uN 2 6 71 (λj k=>.d (iP (([]:List eH).getD j .z) k)) rfl rfl qN rfl qN (dU (c:=.seq (.seq (.region 6 _ _) _) _) s.az.length (λi (a:Unit)=>⟨42,[(1,.ptr 0 0),(2,.ptr 1 0),(3,.ptr 2 0),(4,iV i)],⟨[(0,.Wp 7 (λk=>.d (dW s k))),(1,.Wp 7 (λ_=>.top)),(2,.Wp 7 (rZ s (.row 3 s.aJ.length) (.row 4 s.opens.length) (.row 5 ((s.az.take i).length)))),(3,bQ 54 4 iE .z s.aJ),(4,bQ 97 2 iw .z s.opens),(5,bQ 71 5 iP .z (s.az.take i))],6⟩⟩) (λ_ _=>True) () ?_ True.intro (λi a hi hp=>?_))|refine aC ?_|refine aZ () ⟨?_,tv,?_⟩|refine aj.mk (λh=>?_) (λh=>?_)|refine ag.a ?_|(rw[show s.az.take i=s.az from jU om];refine bM qN qN (gu vw) ⟨⟨nb rfl,aW.row rfl fv⟩,⟨nb rfl,aW.row rfl fv⟩,⟨nb rfl,aW.row rfl fv⟩,tv⟩)|refine ag.mk ?_ ?_))<;>try exact cls
 all_goals(try(refine leq ?_ ?_ <;> repeat'(first|exact tv|exact qV|exact qW|refine jQ qN (λk hk=>?_) ?_|refine gU qN ?_ (λj hj k hk=>?_) ?_|refine an ?_ ?_)))
 all_goals first|exact rfl|exact cm qV|exact cm VW.top|(have h9:i<s.az.length:=om;have hch:=hs.l3.ch i h9;have q4:(s.az.take i).length=i:=(by rw[dG];omega);have q5:(s.az.take (i+1)).length=i+1:=(by rw[dG];omega);have axx:(s.az.getD ((i:Int)).toNat .z).chunks.length<=1000:=hch;first|omega|(have hk:k<5:=hk;obtain _|_|_|_|_|k:=k;all_goals first|exact cm qV|exact cm (vq (jB.trans (ah (λn=>V.d (D.sl n 1 (λj _=>iD ((s.az.getD i .z).chunks.getD j 0)))) (jq _))) tv)|omega)|(have hk:k<7:=hk;obtain _|_|_|_|_|_|_|k:=k;all_goals first|exact cm qV|exact cm qW|exact cm (vq (ah (V.row 5) (show(s.az.take i).length+1=(s.az.take (i+1)).length by omega)) qN))|(have hj:j<(s.az.take i).length+1:=hj;rw[kR eH.z h9];have hk:k<5:=hk;refine cm (kU rfl hj fr (λj hj=>?_));obtain rfl:j=0:=Nat.lt_one_iff.1 hj;obtain _|_|_|_|_|k:=k;exact qV;exact qV;exact qV;exact qV;exact qV;omega))|(have hk:k<7:=hk;obtain _|_|_|_|_|_|_|k:=k;all_goals first|exact cm qV|exact cm qW|exact cm (vq (ah (V.row _) (jq _)) qN)|omega)|omega
def J9(s:aN)(hs:uO s):af 39 [dZ s] e0 (λv t=>v = .agg 7 (rZ s (.row 3 s.aJ.length) (.d (og s.opens)) (.d (jO s.az)))/\t=⟨[(3,bQ 54 4 iE .z s.aJ)],4⟩):=(Y7 s hs).I7 λX=>by
 refine Fin.eG (i:=4) (h:=λj=>iw (s.opens.getD j .z)) (iI.of (n:=s.opens.length) (z:=2) (E:=97) (cZ _) rfl fr) ?_;refine Fin.eG (i:=5) (h:=λj=>iP (s.az.getD j .z)) (iI.of (n:=s.az.length) (z:=5) (E:=71) (cZ _) rfl fr) ?_;refine bM qN qN (gu ⟨⟨vw,vq ?_ trivial⟩,vq ?_ trivial⟩) ⟨⟨nb rfl,aW.row rfl fv⟩,tv⟩
 ·exact(ah (λv=>jf 5 _ _ _ v) jB).trans rfl
 ·exact jB
def Y6(s:aN)(hs:uO s):aQ 39 [dZ s] (dZ s):=(J9 s hs).I7 λX=>by
 refine Fin.eG (i:=3) (h:=λj=>iE (s.aJ.getD j .z)) (iI.of (n:=s.aJ.length) (z:=4) (E:=54) (cZ _) rfl fr) ?_;exact Fin.tell (gu vw)
def aq3(s:aN)(p:Nat)(hs:uO s)(hp:p<s.az.length):aQ 169 [dZ s,iV p] (.b (Gl s p)):=by
 have hn:=hs.l3.len;refine ay func169 λX=>?_
 (repeat'(first|refine aC ?_|refine bU 7 [] (ooz 13 []) ?_|refine mc ?_ ?_|refine dU (s.az.length-(p+1)) (λi (a:Unit)=>⟨44,[(1,iV p),(2,.ptr 0 0),(5,iV (zD s p i)),(6,iV ((p:Int)+1+i))],⟨[(0,.Wp 7 (λk=>.d (dW s k)))],1⟩⟩) (λ_ _=>True) () ?_ True.intro (λi a hi hq=>?_)|refine aZ () ⟨?_,tv,?_⟩|refine aj.mk (λh=>ai ((show(bif decide ((p:Int)<0) then true else decide ((s.az.length:Int)<=(p:Int)))=false by rw[aT qo,aT qo];rfl).symm.trans h) (by decide)) (λh=>?_)|refine aj.mk (λh=>?_) (λh=>?_)|refine ag.a ?_|refine Fin.tell (vq (ah V.b ?_) tv)|refine ag.mk ?_ ?_))<;>(try(refine dm.mk ?_;repeat'(first|exact tv|exact rfl|refine an ?_ ?_|refine ag.mk ?_ ?_)))
 all_goals try exact cls
 all_goals(try(refine leq ?_ ?_ <;> repeat'(first|exact tv|exact qV|exact qW|refine vq (ah iV ?_) tv|refine jQ qN (λk hk=>?_) ?_|refine an ?_ ?_)))
 all_goals first|exact cm qV|(have h9:i<s.az.length-(p+1):=om;have q:=aee s p i;first|omega|(simp only[dM,jg];omega)|(rw[Ri h9,dH (show decide ((s.az.getD (p+1+i) .z).set=(s.az.getD p .z).set)=true from h)];done)|(rw[Ri h9,bG (show decide ((s.az.getD (p+1+i) .z).set=(s.az.getD p .z).set)=false from h),Int.add_zero];done))|(have e:s.az.length-(p+1)<=i:=om;unfold Gl aam zD;rw[jU (by rw[eY];exact e)])
def Pg(s:bC)(r:QC):aV:=⟨3,r.src,r.dst,s.term,r.next-1,mi s.log (r.next-1),r.dN,r.bin,false,zh s.log (r.next-1) 4⟩
def agE(s:bC)(r:QC)(h1:1<=r.next/\r.next<=s.log.length+1)(hl:s.log.length<=1000)(hy:jY (Pg s r)):aQ 95 [jC s,awo r] (bI [jT (Pg s r),iV 0]):=by
 refine ay func95 λX=>?_
 (repeat'(first|refine aj.mk (λh=>ai h (by rw[aT (show ¬r.next<1 by omega),aT (show ¬(s.log.length:Int)+1<r.next by omega)];decide)) (λh=>?_)|refine aj.mk (λh=>ai h (by rw[show Bd (Pg s r)=0 from Ih.2 hy];decide)) (λh=>?_)|refine aC ?_|refine bU 4 [20,21] [o2,o2,o2,o2,o2,o2,o2,o2,o2,o2,o2,o2,o2,o2,o2,o2,o2,o2,o2,o2,o1,(1,1,true,[])] ?_|refine mc ?_ ?_|refine aO (FP (Pg s r) (by have:=hy.len;omega)) ?_|refine kF (Oy s.log (r.next-1) qo) ?_|refine kF (aeH s.log (r.next-1) 4 qo) ?_|refine ag.a ?_|exact kJ rfl vw|refine ag.mk ?_ ?_))<;>(try(refine dm.mk ?_;repeat'(first|exact tv|exact rfl|refine aO (Oy s.log (r.next-1) qo) ?_|refine aO (aeH s.log (r.next-1) 4 qo) ?_|refine an ?_ ?_|refine ag.mk ?_ ?_)))
 all_goals try exact cls
def YU{o:Oper}{a:Act}{G:Gh}{s:AS}{w:World}{t i k r:Nat}{S:ByteArray}(ho:o.op = .index t (.const (.string S)) (.tmp i))(hty:prog.underlying t=some .string)(hsz:k<S.size)(hr:(S[k]'hsz).toNat=r)(hg:bZ G s.s w)(hs:oZ G s a w)(hl:dD s.sl i = .d (.v (.int .u8 k))):fG o a G s.s w (λv t=>v = .d (.v (.int .u8 r))/\t=s.s):=by
 have h1:=hs.sl i;rw[hl]at h1;have h1:a.eval (.tmp i) = .int .u8 k:=h1;refine fG.val (v:=.int .u8 r) (V:=.d (.v (.int .u8 r))) hg ?_ rfl ⟨rfl,rfl⟩;unfold execOp;have h2:(Instr.index t (.string S) (.int .u8 (k:Int))).run prog w = .ok (.int .u8 r) w:=by
  rw[run_index_string w t S .u8 k hty,dif_pos ⟨by omega,by omega⟩];subst hr;rfl
 simp only[ho,h1,show a.eval (.const (.string S)) = .string S from rfl,Sem.run_bind,h2,Result.andThen_ok];rfl
def aqY  : aQ 292 [.d (.v (.int .u64 3))] (iV 2):=by
 refine ay func292 λX=>?_
 (repeat'(first|refine Rn (id:=10) (pre:=(nP f292 10).toList.take 3) (rest:=(nP f292 10).toList.drop 4) (.d (.v (.int .u8 2))) rfl rfl ?_|refine an rfl (fM (λG a w hg hs=>YU (k:=3) (r:=2) rfl underlying9 (by decide) (by decide) hg hs rfl) ?_)|refine aC ?_|refine aj.n (λh=>?_)|refine ag.a ?_|refine Fin.tell (vq (ah iV ?_) tv)))<;>try exact cls
def aqX  : aQ 292 [.d (.v (.int .u64 4))] (iV 3):=by
 refine ay func292 λX=>?_
 (repeat'(first|refine Rn (id:=10) (pre:=(nP f292 10).toList.take 3) (rest:=(nP f292 10).toList.drop 4) (.d (.v (.int .u8 3))) rfl rfl ?_|refine an rfl (fM (λG a w hg hs=>YU (k:=4) (r:=3) rfl underlying9 (by decide) (by decide) hg hs rfl) ?_)|refine aC ?_|refine aj.n (λh=>?_)|refine ag.a ?_|refine Fin.tell (vq (ah iV ?_) tv)))<;>try exact cls
def aqW  : aQ 292 [.d (.v (.int .u64 5))] (iV 3):=by
 refine ay func292 λX=>?_
 (repeat'(first|refine Rn (id:=10) (pre:=(nP f292 10).toList.take 3) (rest:=(nP f292 10).toList.drop 4) (.d (.v (.int .u8 3))) rfl rfl ?_|refine an rfl (fM (λG a w hg hs=>YU (k:=5) (r:=3) rfl underlying9 (by decide) (by decide) hg hs rfl) ?_)|refine aC ?_|refine aj.n (λh=>?_)|refine ag.a ?_|refine Fin.tell (vq (ah iV ?_) tv)))<;>try exact cls
