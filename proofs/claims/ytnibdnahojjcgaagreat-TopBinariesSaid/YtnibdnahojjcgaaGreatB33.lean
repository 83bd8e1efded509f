/- A part of the proof. -/
import Derived.Defers
import Derived.Test.YtnibdnahojjcgaaGreatB28
import Derived.Test.YtnibdnahojjcgaaGreatB29
import Derived.Test.YtnibdnahojjcgaaGreatB30
namespace Go.Proofs.YtnibdnahojjcgaaGreat
set_option maxRecDepth 100000
set_option maxHeartbeats 16000000
set_option linter.unusedVariables false
set_option linter.unusedSimpArgs false
open Go.RowKit
def NR(q:az×List aP×Int)(v:V)(t:ST):Prop:=v=bQ [.d (gu q.2.1),iV q.2.2]/\t=NS q.1
theorem NR.of{t0:ST}{X:Cx t0}{v:V}{t:ST}{p q:az×List aP×Int}(e:q=p)(h:Fin X v t (NR p)):Fin X v t (NR q):=e▸h
theorem LD{c g:Nat->V}{R:aP}{j k:Nat}(hj:j<1)(hk:k<10)(e0:g 0 = .d (jF R 0))(e1:g 1 = .d (jF R 1))(e2:g 2 = .d (jF R 2))(e3:g 3 = .d (jF R 3))(e4:g 4 = .d (jF R 4))(e5:g 5 = .d (jF R 5))(e6:g 6 = .d (jF R 6))(e7:g 7 = .d (jF R 7))(e8:g 8 = .d (jF R 8))(e9:g 9 = .d (jF R 9)):nU c (0*10) 10 g (j*10+k) = .d (jF (([R]:List aP).getD j .z) k):=by
 obtain rfl:j=0:=Nat.lt_one_iff.1 hj;rcases k with _|_|_|_|_|_|_|_|_|_|k
 ·exact e0
 ·exact e1
 ·exact e2
 ·exact e3
 ·exact e4
 ·exact e5
 ·exact e6
 ·exact e7
 ·exact e8
 ·exact e9
 ·omega
def Bz(n:az)(x:aP):az×List aP×Int:=
 bif !decide ((aW n (lK n.ah x).1).2=0) then ((aW n (lK n.ah x).1).1,[],(aW n (lK n.ah x).1).2)
 else ((aW n (lK n.ah x).1).1,[{ rH (aW n (lK n.ah x).1).1 2 x.src with ok:=(lK n.ah x).2 }],0)
theorem ajy(n:az)(x:aP)(hx:jJ x)(cZ:x.kind=1)(hl:n.ah.log.length<=1000)(hL:lM n.ah (lK n.ah x).1)(hn:vI n):ae 106 [.ptr 0 0,jy x] (NS n) (NR (Bz n x)):=by
 refine asz Tryz.func106 λX=>?_
 (repeat' (first|refine oz ?_|refine asD 1 [6] [o0,o0,o0,o0,o0,o0,o1,o3,o3,o3,o3,o3,o3,o3] ?_|refine mc ?_ ?_|refine asH [0,1,2,3,4,5,6,7] (Dc n (lK n.ah x).1 hL hn) ?_|refine asH [0,1,2,3,4,5,6,7] (VF (aW n (lK n.ah x).1).1 2 x.src) ?_|refine asN (acx n.ah x hx cZ hl) ?_|refine ai.n (λh=>?_)|refine ai.mk (λh=>?_) (λh=>?_)|refine ag.a ?_|refine NR.of (p:=((aW n (lK n.ah x).1).1,[],(aW n (lK n.ah x).1).2)) ?_ (asC qN qN (asG [.d (gu []),iV ((aW n (lK n.ah x).1).2)] rfl fr vw) ?_)|refine NR.of (p:=((aW n (lK n.ah x).1).1,[({ rH (aW n (lK n.ah x).1).1 2 x.src with ok:=(lK n.ah x).2 }:aP)],0)) ?_ (Fin.dC (i:=10) (h:=λj=>jF (([({ rH (aW n (lK n.ah x).1).1 2 x.src with ok:=(lK n.ah x).2 }:aP)]:List aP).getD j .z)) (jB.of (n:=1) (z:=10) (E:=126) qN rfl (λj hj k hk=>LD hj hk rfl rfl rfl rfl rfl rfl rfl rfl rfl rfl)) (asC qN qN (asG [.d (gu [({ rH (aW n (lK n.ah x).1).1 2 x.src with ok:=(lK n.ah x).2 }:aP)]),iV 0] rfl fr vw) ?_))))<;>(try(refine dh.mk ?_;repeat' (first|exact tv|exact rfl|refine asA (acx n.ah x hx cZ hl) ?_|refine an ?_ ?_|refine ag.mk ?_ ?_)))
 all_goals try exact aB
 all_goals first|exact dF h|exact bz h|exact qM
def Ya(n:az)(d:Int):OT:=⟨n.me,d,n.next.getD d.toNat 0,n.eQ,n.bin⟩
def o7(n:az)(d:Int):aP:=Na n.ah (Ya n d)
structure wI (n:az) (d:Int):Prop where
 d0:0<=d
 d1:d<n.next.length
 nx:1<=n.next.getD d.toNat 0/\n.next.getD d.toNat 0<=n.ah.log.length+1
 log:n.ah.log.length<=1000
 ok:jJ (o7 n d)
 sz:CE (o7 n d).l
theorem wI.in{n:az}{d:Int}(h:wI n d):d.toNat<n.next.length:=by have:=h.d0;have:=h.d1;omega
theorem acj(n:az)(d:Int)(hd:wI n d):ae 59 [.ptr 0 0,iV d] (NS n) (λv t=>v=bQ [jy (o7 n d),iV 0]/\t=NS n):=by
 refine asz Tryz.func59 λX=>?_
 (repeat' (first|refine oz ?_|refine asD 1 [34,35] [o2,o2,o2,o2,o2,o2,o2,o2,o2,o2,o2,o2,o2,o2,o2,o2,o2,o2,o2,o2,o2,o2,o2,o2,o2,o2,o2,o2,o2,o2,o2,o2,o2,(0,2,false,[]),o1,(1,1,true,[]),(2,2,false,[])] ?_|refine mc ?_ ?_|refine asA (Dq (o7 n d) hd.sz) ?_|refine asN (ad9 n.ah (Ya n d) hd.nx hd.log hd.ok) ?_|refine ai.n (λh=>?_)|refine ag.a ?_|refine asC qN qN (asG [jy (o7 n d),iV 0] rfl fr vw) ?_))<;>(try(refine dh.mk ?_;repeat' (first|exact tv|exact rfl|refine asA (ad9 n.ah (Ya n d) hd.nx hd.log hd.ok) ?_|refine an ?_ ?_|refine ag.mk ?_ ?_)))
 all_goals try exact aB
 all_goals first|exact hd.d0|exact hd.d1|exact hd.in|(exact gz (V.fV 2) (funext λk=>by rcases k with _|_|k <;> rfl))
def mf(n:az)(m:Nat):List aP×Int:=bif n.aA.down then ([],30) else bif !decide (n.dn=2) then ([],33) else ((gY n m).map (o7 n),0)
theorem U8{α β:Type}{f:α->β}{l:List α}{i:Nat}{z:α}(h:i<l.length):(l.take (i+1)).map f=(l.take i).map f++[f (l.getD i z)]:=by
 rw[lX z h,List.map_append];rfl
theorem IJ{α β:Type}{f:α->β}{l:List α}{i:Nat}(h:i<=l.length):((l.take i).map f).length=i:=by
 rw[lJ,dP];omega
theorem Qz(n:az)(m:Nat)(hm:n.many=m)(h5:m<=5)(hd:n.aA.down=false->n.dn=2->∀ d∈(gY n m),wI n d):ae 26 [.ptr 0 0] (NS n) (NR (n,(mf n m).1,(mf n m).2)):=by
 refine asz Tryz.func26 λX=>?_
 (repeat' (first|refine asW (c:=.seq (.region 6 _ _) _) 4 126 (λj k=>.d (jF (([]:List aP).getD j .z) k)) rfl rfl qN (T.seq ?_)|refine oz ?_|refine asH [1,2] (yM n.aA) ?_|refine asH [0,1,2,3,4,5,6,7] (abz n m hm h5) ?_|refine asH [0,1,2,3,4,5,6,7] (acj n ((gY n m).getD i 0) (hd aj (Og (aj:(!decide (n.dn=2))=false)) _ (kM (z:=0) (by have h9:=aS (aj:decide ((i:Int)<((gY n m).length:Int))=true);omega)))) ?_|refine asI (gY n m).length (λi (a:Unit)=>⟨42,[(0,.ptr 0 0),(4,.row 8 (((gY n m).take i).map (o7 n)).length),(21,.d (iH (gY n m))),(22,iV (gY n m).length),(23,iV i)],⟨NL n++[(8,dw 126 10 jF .z (((gY n m).take i).map (o7 n)))],9⟩⟩) (λ_ _=>True) () ?_ True.intro (λi a hi hp=>?_)|refine aU () ⟨?_,tv,?_⟩|refine ai.n (λh=>?_)|refine ai.mk (λh=>?_) (λh=>?_)|refine ag.a ?_|(rw[show(gY n m).take i=(gY n m) from lW (by have h9:=bJ (aj:decide ((i:Int)<((gY n m).length:Int))=false);omega)];refine NR.of (p:=(n,(gY n m).map (o7 n),0)) ?_ (Fin.dC (i:=8) (h:=λj=>jF (((gY n m).map (o7 n)).getD j .z)) (jB.of qN rfl fr) (asC qN qN (asG [.d (gu ((gY n m).map (o7 n))),iV 0] rfl fr vw) ?_)))|refine NR.of (p:=(n,[],30)) ?_ (asC qN qN (asG [.d (gu []),iV 30] rfl fr vw) ?_)|refine NR.of (p:=(n,[],33)) ?_ (asC qN qN (asG [.d (gu []),iV 33] rfl fr vw) ?_)|refine ag.mk ?_ ?_))<;>try exact aB
 all_goals (try(refine aV.mk rfl qN qN ?_ ?_ <;> repeat' (first|exact tv|exact qV|exact qW|refine vq (gz (V.row _) ?_) qN|refine an ⟨nb rfl,asE rfl (λk hk=>asB ?_)⟩ ?_|refine an ⟨nb rfl,af.row ?_ (λj hj k hk=>asB ?_)⟩ ?_|refine an ?_ ?_)))
 all_goals first|exact rfl|exact cm qV|(unfold mf;simp only[*,dR,di];done)|exact qM|exact kk|(have h9:i<(gY n m).length:=(by have h9:=aS (aj:decide ((i:Int)<((gY n m).length:Int))=true);omega);have q:=IJ (f:=o7 n) hi;have q2:=Uo n m;first|omega|(simp only[dQ,jD];omega)|(rw[q,IJ (f:=o7 n) (show i+1<=(gY n m).length from h9)];done)|(rw[U8 (z:=0) h9];(have hk:k<10:=hk;refine cm (oq rfl hj fr (λj hj=>?_));obtain rfl:j=0:=Nat.lt_one_iff.1 hj;rcases k with _|_|_|_|_|_|_|_|_|_|k;exact qV;exact qV;exact qV;exact qV;exact qV;exact qV;exact qV;exact qV;exact qV;exact qV;omega)))
structure Nt where
 row:List aP
 bU:Nat
 tV:Int
 taken:Int
 lost:Int
def iK(p:Nt):List (List UInt8):=p.row.map kU++List.replicate p.bU []
def TQ(p:Nt):Nat->V
 |0=>.vw 1 (p.row.length+p.bU) 0 p.row.length|1=>iV p.tV|2=>iV p.taken|_=>iV p.lost
def nS(l:List (List UInt8)):aG:=dw 48 1 (λb _=>dB b) [] l
abbrev PS(p:Nt):ST:=⟨[(0,.blk 4 (TQ p)),(1,nS (iK p))],2⟩
theorem EJ(p:Nt):(iK p).length=p.row.length+p.bU:=by
 unfold iK;rw[bW,lJ,List.length_replicate]
theorem Gz(p:Nt){j:Nat}(h:j<p.row.length):(iK p).getD j []=kU (p.row.getD j .z):=by
 unfold iK;rw[bC,mO (by rw[lJ];exact h),qY,dW h,bC,dW h];rfl
theorem Qa{j m:Nat}:(List.replicate m ([]:List UInt8)).getD j []=[]:=by
 rw[bC,List.getElem?_replicate];split <;> rfl
theorem IA{α:Type}{z:α}{a b:List α}{j:Nat}:(a++b).getD j z=if j<a.length then a.getD j z else b.getD (j-a.length) z:=by
 rw[bC,List.getElem?_append];split <;> rw[bC]
def zg(p:Nt)(i:Nat):Nt:={ p with row:=p.row.eraseIdx i,bU:=p.bU+1 }
theorem Xe{p:Nt}{i:Nat}(h:i<p.row.length):(p.row.eraseIdx i).length=p.row.length-1:=List.length_eraseIdx_of_lt h
theorem Xf{p:Nt}{i:Nat}(h:i<p.row.length)(j:Nat):(iK (zg p i)).getD j []=if j<i then (iK p).getD j [] else if j<p.row.length-1 then (iK p).getD (j+1) [] else []:=by
 have hl:=Xe h;have e1:iK (zg p i)=(p.row.eraseIdx i).map kU++List.replicate (p.bU+1) []:=rfl;rw[e1,IA,lJ,hl];by_cases h1:j<p.row.length-1
 ·rw[if_pos h1,bC,qY,List.getElem?_eraseIdx];by_cases h2:j<i
  ·rw[if_pos h2,if_pos h2,Gz p qO,bC,dW qO];rfl
  ·rw[if_neg h2,if_neg h2,if_pos h1,Gz p qO,bC,dW qO];rfl
 ·rw[if_neg h1,Qa,if_neg qO,if_neg h1]
def room(p:Nt)(l:List aP):Nat:=min l.length (256-p.row.length)
def lL(p:Nt)(l:List aP):Nt:=⟨p.row++l.take (room p l),p.bU-room p l,p.tV+l.length,p.taken,p.lost+(l.length-room p l:Nat)⟩
def apK(p:Nt)(l:List aP):Int:=bif decide ((room p l:Int)<(l.length:Int)) then 20 else 0
theorem aiR{p:Nt}{l:List aP}{j:Nat}:(iK (lL p l)).getD j []=if j<p.row.length then (iK p).getD j [] else if j<p.row.length+room p l then (l.map kU).getD (j-p.row.length) [] else []:=by
 have hr:room p l<=l.length:=Nat.min_le_left _ _;have e1:iK (lL p l)=(p.row++l.take (room p l)).map kU++List.replicate (p.bU-room p l) []:=rfl;rw[e1,IA,lJ,bW,dP,Nat.min_eq_left hr,List.map_append,IA,lJ];by_cases h1:j<p.row.length
 ·rw[if_pos qO,if_pos h1,if_pos h1,Gz p h1,bC,qY,dW h1,bC,dW h1];rfl
 ·by_cases h2:j<p.row.length+room p l
  ·rw[if_pos h2,if_neg h1,if_neg h1,if_pos h2,List.map_take,bC,List.getElem?_take_of_lt qO,bC]
  ·rw[if_neg h2,if_neg h1,if_neg h2,Qa]
theorem VI{p:Nt}{j:Nat}(h:p.row.length<=j):(iK p).getD j []=[]:=by
 unfold iK;rw[IA,lJ,if_neg qO,Qa]
theorem anp{N:Nat}{p:Nt}{i a a2 q:Nat}(hi:i<p.row.length)(ha:a=i+1)(ha2:a2=i+1)(hq:q=i+(p.row.length-(i+1))){j k:Nat}(hk:k<1):VW N (qg (0+q) (p.row.length-q) (qg i (p.row.length-a) (λj k=>V.d (dB ((iK p).getD j []))) (λj k=>V.d (dB ((iK p).getD (a2+j) [])))) (λx k=>iE 48 k) j k) (.d (dB ((iK (zg p i)).getD j []))):=by
 obtain rfl:k=0:=Nat.lt_one_iff.1 hk;subst ha ha2;rw[vN,vN];by_cases h1:j<i
 ·rw[Xf hi,if_pos h1,if_pos qO,if_pos h1];exact VW.refl tv
 ·by_cases h2:j<p.row.length-1
  ·rw[Xf hi,if_neg h1,if_pos h2,if_pos qO,if_neg h1,if_pos qO,show i+1+(j-i)=j+1 by omega];exact VW.refl tv
  ·have e:(iK (zg p i)).getD j []=[]:=by rw[Xf hi,if_neg h1,if_neg h2]
   rw[e,if_neg qO];by_cases h3:j<p.row.length
   ·rw[if_pos qO];exact asQ rfl
   ·rw[if_neg qO,if_neg h1,if_neg qO,VI qO];exact VW.refl tv
theorem aow(p:Nt):ae 90 [.ptr 0 0] (PS p) (λv t=>v=iV p.row.length/\t=PS p):=by
 refine asz Tryz.func90 λX=>?_
 (repeat' (first|refine oz ?_|refine ag.a ?_|refine asY qN qV ?_))<;>exact qM
theorem Gt(p:Nt)(i:Int):ae 71 [.ptr 0 0,iV i] (PS p) (λv t=>v = .b (bif decide (0<=i) then decide (i<(p.row.length:Int)) else false)/\t=PS p):=by
 refine asz Tryz.func71 λX=>?_
 (repeat' (first|refine oz ?_|refine ag.a ?_|refine asY qN qV ?_))<;>exact qM
theorem ao1(p:Nt)(i:Nat)(hi:i<p.row.length)(hq:p.row.length+p.bU<=100000):ae 109 [.vw 0 (p.row.length+p.bU) 0 p.row.length,iV i,iV ((i:Int)+1)] ⟨[(0,nS (iK p))],1⟩ (λv t=>v = .vw 0 (p.row.length+p.bU) 0 (p.row.length-1)/\t=⟨[(0,nS (iK (zg p i)))],1⟩):=by
 have hx:Nat.max (p.row.length+p.bU) (i+(p.row.length-(i+1)))=p.row.length+p.bU:=Nat.max_eq_left qO;have hb:=EJ p;refine asz Tryz.func109 λX=>?_
 (repeat' (first|refine oz ?_|refine asD 5 [6] [o0,o0,o0,o0,o0,o0,o1,o3] ?_|refine mc ?_ ?_|refine ai.n (λh=>?_)|refine asC qN qN (vq (Dw ?_ ?_) qN) ⟨⟨nb rfl,af.row ?_ (λj hj k hk=>asB ?_)⟩,tv⟩|refine ag.mk ?_ ?_))<;>(try(refine dh.mk ?_;repeat' (first|exact tv|exact rfl|refine an ?_ ?_|refine ag.mk ?_ ?_)))
 all_goals first|omega|exact hx|exact cm (anp hi (by omega) (by omega) (by omega) hk)|(have e1:((i:Int)+1).toNat=i+1:=(by omega);have e2:(i:Int).toNat=i:=(by omega);have e3:=EJ (zg p i);have e4:(zg p i).row.length=p.row.length-1:=Xe hi;have e5:(zg p i).bU=p.bU+1:=rfl;simp only[e1,e2,hx,jD]at *;first|omega|(refine⟨tv,?_,?_,?_⟩ <;> omega)|(refine⟨tv,?_⟩;omega))
theorem ad1(p:Nt)(i:Nat)(hi:i<p.row.length)(hq:p.row.length+p.bU<=100000):ae 72 [.ptr 0 0,iV i] (PS p) (λv t=>v = .d (dB (kU (p.row.getD i .z)))/\t=PS (zg p i)):=by
 refine asz Tryz.func72 λX=>?_
 (repeat' (first|refine oz ?_|refine asH [1] (ao1 p i hi hq) ?_|refine ag.a ?_|refine asC qN qN ?_ ?_|refine ag.mk ?_ ?_))<;>first|(have hb:=EJ p;first|omega|(simp only[dQ];omega))|(refine vq (gz V.d ?_) tv;show dB ((iK p).getD (0+i) [])=_;rw[jm,Gz p hi];done)|(refine⟨⟨nb rfl,asE rfl (λk hk=>?_)⟩,⟨nb rfl,af.row rfl fv⟩,tv⟩;have hk:k<4:=hk;have e1:=Xe hi;rcases k with _|_|_|_|k <;> first|exact qV|exact vq (Dw (by show _=(p.row.eraseIdx i).length+(p.bU+1);omega) (by show _=(p.row.eraseIdx i).length;omega)) qN)
section
theorem PG(v:V):dO (λk=>some k) v=v:=by
 induction v with
 |agg n g ih=>exact gz (V.agg n) (funext ih)
 |fV n g ih=>exact gz (V.fV n) (funext ih)
 |fn f nf n g ih=>exact gz (V.fn f nf n) (funext ih)
 |ku t w x ih=>exact gz (V.ku t w) ih
 |_=>rfl
def OQ(o o':Nat->aG):Prop:=∀ i E s n g,o' i = .row E s n g->∃ g0,o i = .row E s n g0
theorem aO.FX{G:Gh}{o o':Nat->aG}{w:World}{v:V}{u:Value}(hs:OQ o o')(h:aO G o w v u):aO G o' w v u:=by
 have:=PP (G:=G) (G':=G) (o:=o) (o':=o') (φ:=λk=>some k) rfl (λi k e=>by injection e with e;rw[e]) (λi k e E s n g h2=>by injection e with e;subst e;exact hs i E s n g h2) h;rwa [PG]at this
section
variable {G:Gh} {w:World} {t:ST} {i E s n:Nat} {g g':Nat->Nat->V}
theorem V9(h:t.get i = .row E s n g):OQ t.get (t.set i (.row E s n g')).get:=λj E' s' n' g2 e=>by
 rw[qG]at e;by_cases hj:j=i
 ·rw[if_pos hj]at e;injection e with a b c d
  subst a b c;exact⟨g,by rw[hj];exact h⟩
 ·rw[if_neg hj]at e;exact⟨g2,e⟩
theorem abh(h:t.get i = .row E s n g):OQ (t.set i (.row E s n g')).get t.get:=λj E' s' n' g2 e=>by
 by_cases hj:j=i
 ·rw[hj,h]at e;injection e with a b c d
  subst a b c;exact⟨g',by rw[qG,if_pos hj]⟩
 ·exact⟨g2,by rw[qG,if_neg hj];exact e⟩
theorem Lh(h:t.get i = .row E s n g){j b:Nat}:dA G (t.set i (.row E s n g')).get j b↔dA G t.get j b:=by
 unfold dA;rw[qG];by_cases hj:j=i
 ·rw[if_pos hj,hj,h]
 ·rw[if_neg hj]
theorem bV.row(hg:bV G t w)(h:t.get i = .row E s n g)(hv:∀ j,j<n->∀ k,k<s->∀ u,aO G t.get w (g j k) u->aO G t.get w (g' j k) u):bV G (t.set i (.row E s n g')) w:=by
 have hs:=V9 (g':=g') h;have hi:i<t.nx:=by
  refine Nat.lt_of_not_le λhle=>?_
  have:=(hg.jK i hle).2;rw[h]at this;cases this
 refine⟨⟨λj m f e=>?_,λj E2 s2 m f e=>?_,λj es e=>?_,λj b e=>hg.aK.wS j b ((Lh h).1 e),hg.aK.vK,λa b c e1 e2=>hg.aK.sep a b c ((Lh h).1 e1) ((Lh h).1 e2)⟩,λj hj=>⟨(hg.jK j hj).1,?_⟩⟩
 ·rw[qG]at e;by_cases hj:j=i
  ·rw[if_pos hj]at e;cases e
  ·rw[if_neg hj]at e;obtain⟨b,cs,ty,e1,e2,e3,e4⟩:=hg.aK.blk _ _ _ e;exact⟨b,cs,ty,e1,e2,e3,λk x hx=>⟨(e4 k x hx).1,((e4 k x hx).2).FX hs⟩⟩
 ·rw[qG]at e;by_cases hj:j=i
  ·rw[if_pos hj]at e;injection e with a b c d
   subst a b c d hj;obtain⟨e1,e2,e3,A,c,e4,e5⟩:=hg.aK.row _ _ _ _ _ h;refine⟨e1,e2,e3,A,c,e4,?_⟩;rcases e5 with e5|⟨e5,b,cs,e6,e7,e8,e9,e10,e11⟩
   ·exact .inl e5
   ·refine .inr ⟨e5,b,cs,e6,e7,e8,e9,e10,λa ha k hk=>?_⟩;obtain⟨x,p1,p2,p3⟩:=e11 a ha k hk;exact⟨x,p1,p2,(hv a ha k hk x p3).FX hs⟩
  ·rw[if_neg hj]at e;obtain⟨e1,e2,e3,A,c,e4,e5⟩:=hg.aK.row _ _ _ _ _ e;refine⟨e1,e2,e3,A,c,e4,?_⟩;rcases e5 with e5|⟨e5,b,cs,e6,e7,e8,e9,e10,e11⟩
   ·exact .inl e5
   ·refine .inr ⟨e5,b,cs,e6,e7,e8,e9,e10,λa ha k hk=>?_⟩;obtain⟨x,p1,p2,p3⟩:=e11 a ha k hk;exact⟨x,p1,p2,p3.FX hs⟩
 ·rw[qG]at e;by_cases hj:j=i
  ·rw[if_pos hj]at e;cases e
  ·rw[if_neg hj]at e;obtain⟨b,jd,cl,e1,e2,e3⟩:=hg.aK.map _ _ e;exact⟨b,jd,cl,e1,e2,e3.to λk=>by
    cases dU es k
    ·trivial
    ·exact λu hu=>hu.FX hs⟩
 ·have:i≠j:=λe=>by subst e;have hj:t.nx<=i:=hj;omega
  rw[qG,if_neg (λe=>this e.symm)];exact(hg.jK j hj).2
end
theorem Stp.FX{G G':Gh}{o o1 o' Y6:Nat->aG}{w w':World}(h:Stp G o w G' o' w')(h1:∀ i b,dA G o1 i b↔dA G o i b)(h2:∀ i b,dA G' Y6 i b↔dA G' o' i b)(s1:OQ o1 o)(s2:OQ o' Y6):Stp G o1 w G' Y6 w' where
 os:=h.os
 tape:=h.tape
 output:=h.output
 size:=h.size
 keep:=λb hb hn=>h.keep b hb λi hi=>hn i ((h1 i b).2 hi)
 F1:=h.F1
 F2:=h.F2
 own:=λi b ho=>by
  rcases h.own i b ((h2 i b).1 ho) with h3|h3
  ·exact .inl ((h1 i b).2 h3)
  ·exact .inr h3
 loc:=h.loc
 row:=λi A c hi=>by
  obtain⟨A',c',e1,e2⟩:=h.row i A c hi;refine⟨A',c',e1,λE s m g e=>?_⟩;obtain⟨g2,e3⟩:=s2 i E s m g e;obtain⟨m0,g0,e4,e5,e6⟩:=e2 E s m g2 e3;obtain⟨g3,e7⟩:=s1 i E s m0 g0 e4;exact⟨m0,g3,e7,e5,e6⟩
def gx(A:Nat)(g:Nat->Nat->V)(p:Nat->Value)(j k:Nat):V:=bif Nat.beq j A then g j k else .d (.v (p j))
theorem auQ{f:Nat}{args:List V}{st T2:ST}{r:V}{i E s n A:Nat}{g:Nat->Nat->V}{q:Nat->Nat}(h1:st.get i = .row E s n g)(hg:∀ j k,g j k = .ptr (q j) 0)(hs:s=1)(hq:∀ j,j<n->∃ m c,st.get (q j) = .blk m c)(h2:T2.get i = .row E s n g)(h:∀ p:Nat->Value,ae f args (st.set i (.row E s n (gx A g p))) (λv t=>v=r/\t=T2.set i (.row E s n (gx A g p)))):ae f args st (λv t=>v=r/\t=T2):=by
 refine⟨(h λ_=>undef).1,λG w us hgd hl hv=>?_⟩;have hb:∀ j,∃ b:Nat,j<n->G.ρ (q j)=some (.blk b):=λj=>by
  by_cases hj:j<n
  ·obtain⟨m,c,hm⟩:=hq j hj;obtain⟨b,_,_,e,_⟩:=hgd.aK.blk _ _ _ hm;exact⟨b,λ_=>e⟩
  ·exact⟨0,λh=>au h hj⟩
 obtain⟨bs,hbs⟩:∃ bs:Nat->Nat,∀ j,j<n->G.ρ (q j)=some (.blk (bs j)):=⟨λj=>(hb j).choose,λj hj=>(hb j).choose_spec hj⟩
 let p:Nat->Value:=λj=>.pointer (some ⟨bs j,0,none⟩)
 have hgd1:bV G (st.set i (.row E s n (gx A g p))) w:=hgd.row h1 λj hj k hk u hu=>by
  unfold gx;cases Nat.beq j A
  ·rw[hg]at hu;obtain⟨b,e1,e2⟩:=hu;rw[hbs j hj]at e1;injection e1 with e1
   injection e1 with e1
   subst e1;exact e2
  ·exact hu
 refine((h p).2 G w us hgd1 hl λk v u e1 e2=>(hv k v u e1 e2).FX (V9 h1)).mono λe w' ⟨v,V,t',G',e1,⟨e2,e3⟩,e4,e5,e6⟩=>?_
 subst e2 e3;have hx:(T2.set i (.row E s n (gx A g p))).get i = .row E s n (gx A g p):=by rw[qG,if_pos rfl]
 have hgd2:=e4.row (g':=g) hx λj hj k hk u hu=>by
  unfold gx at hu;rcases hbq:Nat.beq j A with _|_
  ·rw[hbq]at hu;have hu:u=p j:=hu;rw[hg];exact⟨bs j,e5.loc _ _ (hbs j hj),hu⟩
  ·rw[hbq]at hu;exact hu
 have hget:((T2.set i (.row E s n (gx A g p))).set i (.row E s n g)).get=T2.get:=funext λj=>by
  rw[qG];by_cases hj:j=i
  ·rw[if_pos hj,hj,h2]
  ·rw[if_neg hj,qG,if_neg hj]
 have arU:bV G' T2 w':=auf hgd2 rfl hget.symm;refine⟨v,V,T2,G',e1,⟨rfl,rfl⟩,arU,e5.FX (λj b=>(Lh h1).symm) (λj b=>(Lh (t:=T2) h2).symm) (V9 h1) (abh (t:=T2) h2),e6.FX (abh (t:=T2) h2)⟩
end
def BZ(n:az)(r:aT):Bool:=bif decide (r.kind=4) then decide (r.a<=n.eQ) else false
abbrev NB(n:az):ST:=⟨NL n++[(8,.blk 1 (λ_=>.ptr 0 0))],9⟩
abbrev YB:V:=.fn 159 0 1 (λ_=>.ptr 8 0)
def pR(n:az)(x:aP):Bool:=
 bif (bif (bif !decide (Aj x=0) then true else !decide (x.dst=n.me)) then true else decide (n.many<=x.src)) then false
 else bif !decide (x.kind=3) then true else !decide (0<=ji (BZ n) 0 (bi n.ah x).1)
theorem Ku{a:Int}(h:(!decide (a=3))=false):a=3:=Og h
theorem TS{a:Int}{p q:Bool}(h:(bif (bif !decide (a=0) then true else p) then true else q)=false):a=0:=by
 cases hd:decide (a=0)
 ·rw[hd]at h;cases h
 ·exact aS hd
theorem aoN(n:az)(r:aT):ae 159 [yc r,.ptr 8 0] (NB n) (λv t=>v = .b (BZ n r)/\t=NB n):=by
 refine asz Tryz.func159 λX=>?_
 (repeat' (first|refine oz ?_|refine asD 1 [] [o0,o0,o0,o0,o0,o0,o0,o0,o0,o0,o0,o0,o0,o0] ?_|refine mc ?_ ?_|refine asC qN qN (vq (gz V.b ?_) tv) ?_))<;>(try(refine dh.mk ?_;repeat' (first|exact tv|exact rfl|refine an ?_ ?_|refine ag.mk ?_ ?_)))
 all_goals try exact aB
 all_goals exact qM
theorem aoL(n:az)(l:List aT)(hn:l.length<=100000):ae 209 [.d (iq l),YB] (NB n) (λv t=>v=iV (ji (BZ n) 0 l)/\t=NB n):=by
 refine asz Tryz.func209 λX=>?_
 (repeat' (first|refine oz ?_|refine asI l.length (λi (a:Unit)=>⟨19,[(0,.d (iq l)),(1,YB),(7,iV l.length),(8,iV i)],NB n⟩) (λi a=>ji (BZ n) 0 l=ji (BZ n) i (l.drop i)) () ?_ ?_ (λi a hi hp=>?_)|refine aU () ⟨?_,?_,?_⟩|refine asH [0,1,2,3,4,5,6,7,8] (aoN n (l.getD i .z)) ?_|refine ai.mk (λh=>?_) (λh=>?_)|refine ag.a ?_|refine asC qN qN (vq (gz iV ?_) tv) ?_|refine ag.mk ?_ ?_))<;>try exact aB
 all_goals (try(refine aV.mk rfl qN qN ?_ ?_ <;> repeat' (first|exact tv|exact qV|exact qW|refine asJ ?_|refine an ⟨nb rfl,asE rfl (λk hk=>asB ?_)⟩ ?_|refine an ⟨nb rfl,af.row ?_ (λj hj k hk=>asB ?_)⟩ ?_|refine an ?_ ?_)))
 all_goals first|exact rfl|exact cm qV|exact qM|exact kk|exact cm qW|(have h9:i<l.length:=om;rw[hp,IB .z h9];first|exact(dF h).symm|exact bz h)|(have h9:i<l.length:=om;(omega))|(have h9:=bJ h;rw[hp,sZ (by omega)];rfl)
theorem aoK(n:az)(l:List aT)(hn:l.length<=100000):ae 158 [.d (iq l),YB] (NB n) (λv t=>v = .b (decide (0<=ji (BZ n) 0 l))/\t=NB n):=by
 refine asz Tryz.func158 λX=>?_
 (repeat' (first|refine oz ?_|refine asO [0,1,2,3,4,5,6,7,8] (aoL n l hn) rfl rfl rfl ⟨VW.refl tv,asJ vw,tv⟩ bG ?_|refine asC qN qN (vq (gz V.b ?_) tv) ?_))<;>try exact aB
 all_goals exact qM
theorem Q3(n:az)(x:aP)(hx:x.l.length<=10000)(AO:x.kind=3->Aj x=0->jJ x/\x.a+x.l.length<=64)(hl:n.ah.log.length<=1000)(hr:(bi n.ah x).1.length<=100000):ae 105 [.ptr 0 0,jy x] (NS n) (λv t=>v = .b (pR n x)/\t=NS n):=by
 refine asz Tryz.func105 λX=>?_
 (repeat' (first|refine oz ?_|refine asD 1 [1] [o0,o1,o3,o3,o3,o3,o3,o3,o3,o3,o3,o3,o3,o3,o3,o3,o3,o3,o3,o3,o3] ?_|refine asD 5 [6] [o0,o0,o0,o0,o0,o0,o1,o3,o3,o3,o3,o3,o3,o3,o3,o3] ?_|refine mc ?_ ?_|refine asO [0,1,2,3,4,5,6,7,8] (aoK n (bi n.ah x).1 hr) rfl rfl rfl ⟨VW.refl tv,asJ vw,tv⟩ bG ?_|refine asN (CZ x hx) ?_|refine asN (QP n.ah x (AO (Ku aj) (TS aj)).1 (Ku aj) (AO (Ku aj) (TS aj)).2 hl) ?_|refine ai.n (λh=>?_)|refine ai.mk (λh=>?_) (λh=>?_)|refine ag.a ?_|refine asC qN qN (vq (gz V.b ?_) tv) ?_))<;>(try(refine dh.mk ?_;repeat' (first|exact tv|exact rfl|refine asA (CZ x hx) ?_|refine asA (QP n.ah x (AO (Ku aj) (TS aj)).1 (Ku aj) (AO (Ku aj) (TS aj)).2 hl) ?_|refine an ?_ ?_|refine ag.mk ?_ ?_)))
 all_goals try exact aB
 all_goals first|exact qM|(unfold pR;simp only[*,dR,di];done)
def Nu(N:Nat):List V->List V->Prop
 |[],[]=>True
 |a::r,b::q=>VW N a b/\Nu N r q
 |_,_=>False
theorem PO{N:Nat}:∀ {l q:List V},Nu N l q->l.length=q.length/\∀(k:Nat) (b:V),q[k]?=some b->∃ a,l[k]?=some a/\VW N a b
 |[],[],_=>⟨rfl,λk b h=>by simp at h⟩
 |a::r,b::q,h=>by
  obtain⟨h1,h2⟩:=PO h.2;refine⟨by simp[h1],λk b' hk=>?_⟩;cases k with
  |zero=>simp at hk;subst hk;exact⟨a,rfl,h.1⟩
  |succ k=>exact h2 k b' (by simpa using hk)
 |[],_::_,h=>h.elim
 |_::_,[],h=>h.elim
theorem atl{f:Nat}{args args':List V}{st:ST}{K:V->ST->Prop}(st2:ST)(hnx:st2.nx=st.nx)(ho:qB st2.nx st st2.st)(ha:Nu st2.nx args args')(h:ae f args' st2 K):ae f args st K:=by
 refine⟨h.1,λG w us hg hl hv=>?_⟩;have hless:yl st2.nx st st2:=II ho;obtain⟨hal,hag⟩:=PO ha;have hg2:=Gp (N:=st2.nx) hg hless qO rfl;refine(h.2 (G.drop st2.nx) w us hg2 (hl.trans hal) λk v u e1 e2=>?_).mono λe w' ⟨v,V,t',G',e1,e2,e3,e4,e5⟩=>?_
 ·obtain⟨a,h1,h2⟩:=hag k v e1;exact zJ hless h2 (hv k a u h1 e2)
 ·refine⟨v,V,t',G',e1,e2,e3,?_,e5⟩;have hρ:∀ i l,G.ρ i=some l->i<st2.nx/\(G.drop st2.nx).ρ i=some l:=λi l hi=>by
   have hlt:i<st2.nx:=by
    refine Nat.lt_of_not_le λhle=>?_
    rw[(hg.jK i qO).1]at hi;cases hi
   exact⟨hlt,by show(if i<st2.nx then G.ρ i else none)=_;rw[if_pos hlt];exact hi⟩
  exact {
   os:=e4.os
   tape:=e4.tape
   output:=e4.output
   size:=e4.size
   keep:=λb hb hn=>e4.keep b hb λi hi=>hn i (Iu hless hi).1
   F1:=e4.F1
   F2:=e4.F2
   own:=λi b hi=>by
    rcases e4.own i b hi with h1|h1
    ·exact .inl (Iu hless h1).1
    ·exact .inr h1
   loc:=λi b hi=>e4.loc i b (hρ i _ hi).2
   row:=λi A c hi=>by
    obtain⟨A',c',q1,q2⟩:=e4.row i A c (hρ i _ hi).2;refine⟨A',c',q1,λE s m g e=>?_⟩;obtain⟨m0,g0,q3,q4,q5⟩:=q2 E s m g e;obtain⟨g1,q6⟩:=VH hless i E s m0 g0 q3;exact⟨m0,g1,q6,q4,q5⟩ }
theorem atx{f:Nat}{args args':List V}{st:ST}{K:V->ST->Prop}(st2:ST)(hnx:st2.nx=st.nx)(ho:qB st2.nx st st2.st)(ha:Nu st2.nx args args')(h:bn f args' st2 K):bn f args st K:=by
 obtain⟨v,t,hk⟩:=h.any;exact bn.mk v t hk
def BV:Nat->List UInt8->List aY
 |0,_=>[]
 |_+1,[]=>[]
 |n+1,x::b=>
  if (fP (x::b)).2.1=0 then
   ⟨((fP (x::b)).1:Nat),0,(cO ((x::b).drop (fP (x::b)).2.2.1)).1,[]⟩::BV n (((x::b).drop (fP (x::b)).2.2.1).drop (cO ((x::b).drop (fP (x::b)).2.2.1)).2.1)
  else
   ⟨((fP (x::b)).1:Nat),2,0,(((x::b).drop (fP (x::b)).2.2.1).drop (cO ((x::b).drop (fP (x::b)).2.2.1)).2.1).take (cO ((x::b).drop (fP (x::b)).2.2.1)).1⟩::BV n ((((x::b).drop (fP (x::b)).2.2.1).drop (cO ((x::b).drop (fP (x::b)).2.2.1)).2.1).drop (cO ((x::b).drop (fP (x::b)).2.2.1)).1)
theorem ani{n:Nat}{b:List UInt8}(h:b≠[]):BV (n+1) b =
  if (fP b).2.1=0 then ⟨((fP b).1:Nat),0,(cO (b.drop (fP b).2.2.1)).1,[]⟩::BV n ((b.drop (fP b).2.2.1).drop (cO (b.drop (fP b).2.2.1)).2.1)
  else ⟨((fP b).1:Nat),2,0,((b.drop (fP b).2.2.1).drop (cO (b.drop (fP b).2.2.1)).2.1).take (cO (b.drop (fP b).2.2.1)).1⟩::BV n (((b.drop (fP b).2.2.1).drop (cO (b.drop (fP b).2.2.1)).2.1).drop (cO (b.drop (fP b).2.2.1)).1):=by
 cases b with
 |nil=>exact au rfl h
 |cons x b=>rfl
theorem aj3{f:aY}(h:nR f=true)(hf:f.fit)(hb:f.b.length<=16384)(n:Nat)(r:List UInt8):BV (n+1) (iJ f++r)=f::BV n r:=by
 have hw:=xB h;have hp:=VN h;have hne:iJ f++r≠[]:=λe=>by
  have:=gz List.length e;rw[bW,List.length_nil]at this;omega
 rw[ani hne,I9,kE,Py h];simp only[List.drop_left];by_cases e:f.aJ=0
 ·have hb0:f.b=[]:=by rcases hw.2.2 with hw|hw;exact hw.2;rw[e]at hw;exact au hw.1 qD
  rw[if_pos e,wo _ _ hf.2.2.2.2.1,if_pos qO];have e1:(dV f.n++r).drop (gV f.n)=r:=by unfold gV;exact List.drop_left
  simp only[e1];have e2:(⟨((f.num.toNat:Nat):Int),0,f.n,[]⟩:aY)=f:=by
   cases f;simp only at *;subst e hb0;congr 1;omega
  rw[e2]
 ·have e2:f.aJ=2/\f.n=0:=by rcases hw.2.2 with hw|hw;exact au hw.1 e;exact hw
  rw[if_neg e,kE,wo _ _ qO,if_neg qO];have e1:(dV f.b.length++(f.b++r)).drop (gV f.b.length)=f.b++r:=by unfold gV;exact List.drop_left
  simp only[e1,List.drop_left,List.take_left];have e3:(⟨((f.num.toNat:Nat):Int),2,0,f.b⟩:aY)=f:=by
   cases f;simp only at *;obtain⟨rfl,rfl⟩:=e2;congr 1;omega
  rw[e3]
theorem aak:∀ {l:List aY} {n:Nat},(∀ f∈l,nR f=true/\f.fit/\f.b.length<=16384)->l.length<=n->BV n (bF l)=l
 |[],0,_,_=>rfl
 |[],_+1,_,_=>rfl
 |f::l,0,_,h=>by simp at h
 |f::l,n+1,hf,h=>by
  have h1:=hf f jC;show BV (n+1) (iJ f++bF l)=f::l;rw[aj3 h1.1 h1.2.1 h1.2.2,aak (λg hg=>hf g (je _ hg)) (by simpa using h)]
def Tq(b:List UInt8):aI:=lu (BV 8 b)
theorem anF{c:aI}{v:Int}(h:fZ c v):∀ f∈rZ c,nR f=true/\f.fit/\f.b.length<=16384:=λf hf=>by
 rw[<-Dh h]at hf;have:=((IL h).aK f hf).put;exact⟨this.2.1,this.1,by omega⟩
theorem ao2{c:aI}{v:Int}(h:fZ c v):Tq (gU c)=c:=by
 unfold Tq gU;rw[aak (anF h) (by rw[<-Dh h];exact IM c v)];exact aaF h
def ar8{n0:Nat}{t0:ST}(fn rG:Func)(cD:Code)(n:Nat)(jX:Nat->V)(X:Cx t0)(K:V->ST->Prop):Exit->AS->Prop
 |.ret,s=>∃(sM:AS) (t2:ST),aV n0 s sM/\(∀ k,k<n->VW sM.s.nx (jX k) (jX k))/\(∀ X1:Cx sM.s,T X1 cD (BU rG X1 (λv t=>v = .fV 0 (λ_=>.top)/\t=t2)) ⟨rG.ntmps,pO ((List.range n).map jX),sM.s⟩)/\BU fn X K .ret ⟨sM.nt,sM.sl,t2⟩
 |_,_=>False
theorem ae.defer{f:Nat}{fn:Func}{c0 rest:Code}{id:Nat}{o1 o2:Oper}{args:List V}{t0:ST}{K:V->ST->Prop}{sL:AS}{fd n:Nat}{jX:Nat->V}{rG:Func}{cD:Code}{c:Call}{r:Operand}
  (hf:Tryz.prog.funcs[f]?=some fn) (hb:fn.body=some (.seq c0 (.seq (.region id #[o1,o2] false) rest))) (hname:(fn.name == "runtime.NumGoroutine")=false) (hn:args.length<=fn.ntmps)
  (h0:∀ X:Cx t0,T X c0 (yx λs1=>tX ae [o1] [o1] s1 λs'=>aV t0.nx s' sL) ⟨fn.ntmps,pO args,t0⟩)
  (g1:o1.guard=none) (g2:o2.guard=none) (ho2:o2.op = .defer c) (ja:o2.dst=none) (hc:c.callee = .value r) (hca:c.args=#[])
  (hev:sL.ev r = .fn fd 0 n jX) (hfD:Tryz.prog.funcs[fd]?=some rG) (hbD:rG.body=some cD) (hnD:(rG.name == "runtime.NumGoroutine")=false) (hnn:n<=rG.ntmps)
  (hrest:∀(X4:Cx sL.s) (X':Cx t0),T X4 rest (ar8 (n0:=sL.s.nx) fn rG cD n jX X' K) sL):ae f args t0 K:=by
 refine⟨?_,λG w us hg hl hv=>?_⟩
 ·unfold wB;rw[hf,pF,hb,hname];rfl
 let X:Cx t0:=⟨G,w,hg,[]⟩
 refine calls_of_wp_defers hf hb ?_;have hm:Mod X ⟨fn.ntmps,pO args,t0⟩ { tmps:=us.toArray++Array.replicate (fn.ntmps-us.toArray.size) undef,defers:=[] } w:=by
  refine⟨G,hg,⟨⟨by simp;omega,λj=>?_⟩,rfl⟩,Stp.refl _ _ _⟩;show aO G t0.get w (dG (pO args) j) _;unfold pO;rw[Iz args 0 j,if_pos (cu _),Nat.sub_zero,bC];rcases ha:args[j]? with _|v
  ·exact trivial
  ·have hj:j<us.length:=by rw[hl];exact(List.getElem?_eq_some_iff.1 ha).1
   have e:=dW hj;have:=hv j v _ ha e;rw[uy,Array.getElem?_append_left (by simpa using hj)];simpa [hj] using this
 refine wp_seq (wp_mono ((h0 X).h _ w hm) ?_);rintro e a1 w1 ⟨s1,⟨rfl,h1⟩,hm1⟩;refine wp_seq (wp_region ?_);have hpre:=AY (X:=X) #[o1] [o1] 0 rfl s1 a1 w1 _ h1 hm1;show wpOps Tryz.prog #[o1,o2] _ ([0]++[1]) a1 w1;refine Wv (K:=λs'=>aV t0.nx s' sL) ?_ _ a1 w1 (λi hi=>?_) hpre;rotate_left
 ·obtain rfl:=List.mem_singleton.1 hi;exact⟨o1,rfl,rfl,g1⟩
 rintro a4 w4 ⟨s4,hle,hm4⟩;obtain⟨G4,hg4,hs4,hx4⟩:=hm4.le hle;have hcapv:=hs4.ev r;rw[hev]at hcapv;obtain⟨fs,cs,hu,z1,z2,z3⟩:=hcapv;obtain rfl:fs=#[]:=Array.eq_empty_of_size_eq_zero z1;have hrun:(execOp a4.eval o2).run Tryz.prog w4 = .ok (.defer { target:=.fn (.func fd) cs,args:=#[] }) w4:=by
  unfold execOp;simp[ho2,resolve,hc,hu,Deferred.ofValue,hca]
 unfold wpOps;show _;simp only[show(#[o1,o2]:Array Oper)[1]?=some o2 from rfl];rw[if_pos (by unfold Region.wanted;rw[g2])];refine .inl ?_;unfold Oper.wp;rw[hrun,Oper.upon_defer,ja];have hds:a4.defers=[]:=hs4.df
 let d:Deferred:={ target:=.fn (.func fd) cs,args:=#[] }
 let X4:Cx sL.s:=⟨G4,w4,hg4,[d]⟩
 let X':Cx t0:=⟨G,w,hg,[d]⟩
 have AL:Mod X4 sL { a4 with defers:=d::a4.defers } w4:=⟨G4,hg4,⟨⟨hs4.nt,hs4.sl⟩,by show _::a4.defers=_;rw[hds]⟩,Stp.refl _ _ _⟩;show(Code.wp Tryz.prog rest _ _ _);refine wp_mono ((hrest X4 X').h _ w4 AL) ?_;rintro e a6 w6 ⟨s6,hq,G6,OE,hs6,hx6⟩;cases e with
 |normal=>exact hq.elim
 |exit i=>exact hq.elim
 |goto l=>exact hq.elim
 |panic c=>exact hq.elim
 |outgrown=>exact hq.elim
 |ret=>
  obtain⟨sM,t2,NY,hcw,hD,hret⟩:=hq;have hless:yl sM.s.nx s6.s sM.s:=II NY.ob;have Zm:=Gp OE hless NY.hi rfl;have hx7:=IG (X:=X4) hx6 hless NY.lo;have arP:=λj=>zJ (G:=G6) (w:=w6) hless (Vs NY.sl j) (hs6.sl j)
  have hcap:∀ k x,cs[k]?=some x->aO (G6.drop sM.s.nx) sM.s.get w6 (jX k) x:=λk x hx=>by
   have hk:k<n:=by
    have:=(Array.getElem?_eq_some_iff.1 hx).1;have:(#[]:Array Value).size+cs.size=n:=z2;simp at this;omega
   exact zJ hless (hcw k hk) ((z3 k x (by simpa using hx)).dS hx6 hg4.aK)
  show Leaves Tryz.prog fn a6.tmps _ a6.defers .returning w6;rw[show a6.defers=[d] from hs6.df];have YH:wB fd:=by
   unfold wB;rw[hfD,pF,hbD,hnD];rfl
  have hsz:cs.size=n:=by simpa using z2
  refine leaves_cons (by simp) (f:=fd) (args:=cs) (by simp[invoke,Ug YH]) ?_
  let X1:Cx sM.s:=⟨G6.drop sM.s.nx,w6,Zm,[]⟩
  have hm1:Mod X1 ⟨rG.ntmps,pO ((List.range n).map jX),sM.s⟩ { tmps:=cs++Array.replicate (rG.ntmps-cs.size) undef,defers:=[] } w6:=by
   refine⟨_,Zm,⟨⟨by simp;omega,λj=>?_⟩,rfl⟩,Stp.refl _ _ _⟩;show aO _ sM.s.get w6 (dG (pO ((List.range n).map jX)) j) _;unfold pO;rw[Iz _ 0 j,if_pos (cu _),Nat.sub_zero,bC,qY];by_cases hj:j<n
   ·rw[List.getElem?_range hj,uy,Array.getElem?_append_left qO];have e:=uU (xs:=cs) (i:=j) qO;rw[e];exact hcap j _ e
   ·rw[List.getElem?_eq_none (by simpa using hj)];exact trivial
  refine(callsD_of_wp (R:=λe w'=>∃ v t' G',e = .returned v/\t'=t2/\bV G' t' w'/\Stp (G6.drop sM.s.nx) sM.s.get w6 G' t'.get w') hfD hbD ?_).mono ?_
  ·refine wp_mono ((hD X1).h _ w6 hm1) ?_;rintro e a' w' ⟨s',hq',hm'⟩;have hd:a'.defers=[]:=by obtain⟨_,_,hs,_⟩:=hm';exact hs.df
   cases e with
   |ret=>
    obtain⟨v,h1,V,t',G',h2,h3,h4,h5⟩:=Ew hq' hm';exact⟨hd,v,h1,v,t',G',rfl,h2.2,h3,h4⟩
   |normal=>
    obtain⟨v,h1,V,t',G',h2,h3,h4,h5⟩:=Ew hq' hm';exact⟨hd,v,h1,v,t',G',rfl,h2.2,h3,h4⟩
   |exit i=>exact hq'.elim
   |goto l=>exact hq'.elim
   |panic c=>exact hq'.elim
   |outgrown=>exact hq'.elim
  ·rintro e u' w8 ⟨rfl,v,t',G8,rfl,rfl,hg8,TE⟩;show Leaves Tryz.prog fn a6.tmps _ [] (settle .returning) w8;have TW:Mod X' ⟨sM.nt,sM.sl,t'⟩ a6 w8:=⟨G8,hg8,⟨⟨by rw[hs6.nt];exact NY.nt.symm,λj=>(arP j).dS TE Zm.aK⟩,hs6.df⟩,(hx4.trans hx7).trans TE⟩;obtain⟨v2,r1,V,t3,G3,r2,r3,r4,r5⟩:=Ew hret TW;exact⟨v2,r1,v2,V,t3,G3,rfl,r2,r3,r4,r5⟩
section
abbrev sV(σ:Nat->Nat)(v:V):V:=dO (λk=>some (σ k)) v
abbrev vV(σ:Nat->Nat)(o:aG):aG:=lQ (λk=>some (σ k)) o
def ig(σ:Nat->Nat):List (Nat×aG)->List (Nat×aG)
 |[]=>[]
 |p::r=>(σ p.1,vV σ p.2)::ig σ r
structure Sg (n:Nat) (σ:Nat->Nat) (N:Nat):Prop where
 inj:∀ i j,i<n->j<n->σ i=σ j->i=j
 lt:∀ i,i<n->σ i<N
theorem U0(φ:Nat->Option Nat)(σ:Nat->Nat)(v:V):dO φ (sV σ v)=dO (λk=>φ (σ k)) v:=by
 induction v with
 |agg n g ih=>exact gz (V.agg n) (funext ih)
 |fV n g ih=>exact gz (V.fV n) (funext ih)
 |fn f nf n g ih=>exact gz (V.fn f nf n) (funext ih)
 |ku t w x ih=>exact gz (V.ku t w) ih
 |_=>rfl
theorem U1(φ:Nat->Option Nat)(σ:Nat->Nat)(o:aG):lQ φ (vV σ o)=lQ (λk=>φ (σ k)) o:=by
 cases o with
 |dead=>rfl
 |blk n g=>exact gz (aG.blk n) (funext λk=>U0 φ σ _)
 |row E s n g=>exact gz (aG.row E s n) (funext λj=>funext λk=>U0 φ σ _)
 |map es=>
  show aG.map ((es.map λp=>(p.1,sV σ p.2)).map λp=>(p.1,dO φ p.2))=_;rw[List.map_map];exact gz aG.map (List.map_congr_left λp _=>gz (Prod.mk p.1) (U0 φ σ _))
theorem abp(σ τ:Nat->Nat):∀(l:List (Nat×aG)),ig σ (ig τ l)=ig (λk=>σ (τ k)) l
 |[]=>rfl
 |p::r=>by
  show(σ (τ p.1),vV σ (vV τ p.2))::ig σ (ig τ r)=_;rw[abp σ τ r];exact gz (λo=>(σ (τ p.1),o)::ig (λk=>σ (τ k)) r) (U1 _ τ p.2)
theorem Wj(σ:Nat->Nat):∀(a b:List (Nat×aG)),ig σ (a++b)=ig σ a++ig σ b
 |[],_=>rfl
 |p::r,b=>gz (List.cons _) (Wj σ r b)
theorem ZR{N:Nat}{g h:Nat->V}:∀ {n:Nat},(∀ k,k<n->VW N (g k) (h k))->EH N g h n
 |0,_=>True.intro
 |n+1,hk=>⟨ZR λk h=>hk k (Nat.lt_succ_of_lt h),hk n (Nat.lt_succ_self n)⟩
theorem atN{σ τ:Nat->Nat}{n N:Nat}(h:∀ i,i<n->σ i<N)(e:∀ i,i<n->τ i=σ i){v:V}(hq:iO (λi=>i<n) v):VW N (sV τ v) (sV σ v):=by
 induction v with
 |agg n g ih=>exact VW.agg λk hk=>ih k (hq k hk)
 |fV n g ih=>exact VW.fV λk hk=>ih k (hq k hk)
 |fn f nf m g ih=>exact asJ (ZR λk hk=>ih k (hq k hk))
 |ku t w x ih=>
  have:=ih hq;exact⟨this.1,λG o w' u hu=>⟨λe2=>this.2 G o w' u (hu.1 e2),hu.2⟩⟩
 |ptr i o=>exact asF (gz (λj=>V.ptr j o) (e i hq)) (h i hq)
 |rp i a b c=>exact asF (gz (λj=>V.rp j a b c) (e i hq)) (h i hq)
 |row i a=>exact asF (gz (λj=>V.row j a) (e i hq)) (h i hq)
 |vw i a b c=>exact asF (gz (λj=>V.vw j a b c) (e i hq)) (h i hq)
 |mp i=>exact asF (gz (λj=>V.mp j) (e i hq)) (h i hq)
 |_=>exact VW.refl True.intro
theorem au7{σ τ:Nat->Nat}{n N:Nat}(h:∀ i,i<n->σ i<N)(e:∀ i,i<n->τ i=σ i){o:aG}(hq:kX (λi=>i<n) o):af N (vV τ o) (vV σ o):=by
 cases o with
 |dead=>exact True.intro
 |blk n g=>exact⟨rfl,λk hk=>atN h e (hq k hk)⟩
 |row E s n g=>exact⟨rfl,rfl,rfl,λj hj k hk=>atN h e (hq j hj k hk)⟩
 |map es=>
  intro k;show match dU (es.map λp=>(p.1,sV τ p.2)) k,dU (es.map λp=>(p.1,sV σ p.2)) k with|some v,some v'=>VW N v v'|none,none=>True|_,_=>False
  rw[Il,Il];rcases hm:dU es k with _|v
  ·exact True.intro
  ·exact atN h e (hq k v hm)
section
variable {n N:Nat} {σ:Nat->Nat}
theorem P9(hs:Sg n σ N):∀ {l:List (Nat×aG)},(∀ p∈l,p.1<n)->∀ i,i<n->dM (ig σ l) (σ i)=vV σ (dM l i)
 |[],_,_,_=>rfl
 |(k,v)::r,h,i,hi=>by
  show(bif Nat.beq (σ k) (σ i) then vV σ v else dM (ig σ r) (σ i))=vV σ (bif Nat.beq k i then v else dM r i);rw[P9 hs (λp hp=>h p (je _ hp)) i hi];have hk:k<n:=h _ jC;rcases hb:Nat.beq k i with _|_
  ·have:Nat.beq (σ k) (σ i)=false:=by
    rcases hb2:Nat.beq (σ k) (σ i) with _|_
    ·rfl
    ·have:=hs.inj _ _ hk hi (dH hb2);subst this;simp at hb
   rw[this];rfl
  ·have:=dH hb;subst this;rw[show Nat.beq (σ k) (σ k)=true by simp];rfl
theorem Uh:∀ {l:List (Nat×aG)} (x:Nat),dM (ig σ l) x = .dead\/∃ p∈l,x=σ p.1
 |[],_=>.inl rfl
 |(k,v)::r,x=>by
  show(bif Nat.beq (σ k) x then vV σ v else dM (ig σ r) x) = .dead\/_;rcases hb:Nat.beq (σ k) x with _|_
  ·rcases Uh (l:=r) x with h|⟨p,hp,e⟩
   ·exact .inl h
   ·exact .inr ⟨p,je _ hp,e⟩
  ·exact .inr ⟨_,jC,(dH hb).symm⟩
theorem U6:∀ {l:List Nat},l.Nodup->ik l=true
 |[],_=>rfl
 |a::r,h=>by
  show((match bZ r a with|some _=>false|none=>true)&&ik r)=true;rw[U6 (List.nodup_cons.1 h).2];rcases e:bZ r a with _|k
  ·rfl
  ·exact au (WG e) (List.nodup_cons.1 h).1
theorem Sg.nodup(hs:Sg n σ N):ik ((List.range n).map σ)=true:=by
 refine U6 (List.pairwise_map.2 (List.Pairwise.imp_of_mem (λ{a b} ha hb hne e=>hne ?_) List.nodup_range));exact hs.inj a b (List.mem_range.1 ha) (List.mem_range.1 hb) e
theorem IY(i:Nat)(hi:i<n):((List.range n).map σ)[i]?=some (σ i):=by
 rw[qY,List.getElem?_range hi];rfl
theorem ae.apw{f:Nat}{args:List V}{st:ST}{Q K:V->ST->Prop}(h:ae f args st Q)(hq:∀ v t,Q v t->∃ r t2,st.nx<=t2.nx/\t2.nx<=t.nx/\VW t2.nx v r/\yl t2.nx t t2/\K r t2):ae f args st K:=
 ⟨h.1,λG w us hg hl hv=>(h.2 G w us hg hl hv).mono λe w' ⟨v,V,t',G',e1,hQ,lU,hs,Ib⟩=>by
  obtain⟨r,t2,q0,q1,q2,q3,hk⟩:=hq _ _ hQ
  let X:Cx st:=⟨G,w,hg,[]⟩
  exact⟨v,r,t2,G'.drop t2.nx,e1,hk,Gp lU q3 q1 rfl,IG (X:=X) hs q3 q0,zJ q3 q2 Ib⟩⟩
def ext(n:Nat)(σ:Nat->Nat)(N i:Nat):Nat:=if i<n then σ i else N+(i-n)
theorem aei{i:Nat}(h:i<n):ext n σ N i=σ i:=if_pos h
theorem Sg.ext(hs:Sg n σ N){n1:Nat}(h:n<=n1):Sg n1 (ext n σ N) (N+(n1-n)):=by
 refine⟨λi j hi hj e=>?_,λi hi=>?_⟩
 ·unfold Go.Proofs.YtnibdnahojjcgaaGreat.ext at e;by_cases h1:i<n <;> by_cases h2:j<n
  ·rw[if_pos h1,if_pos h2]at e;exact hs.inj i j h1 h2 e
  ·rw[if_pos h1,if_neg h2]at e;have:=hs.lt i h1;omega
  ·rw[if_neg h1,if_pos h2]at e;have:=hs.lt j h2;omega
  ·rw[if_neg h1,if_neg h2]at e;omega
 ·unfold Go.Proofs.YtnibdnahojjcgaaGreat.ext;by_cases h1:i<n
  ·rw[if_pos h1];have:=hs.lt i h1;omega
  ·rw[if_neg h1];omega
theorem ae.rn{f:Nat}{args args':List V}{l:List (Nat×aG)}{Q K:V->ST->Prop}(h:ae f args' ⟨l,n⟩ Q)(hs:Sg n σ N)(hd:ik (kF l)=true)(hl:mJ n l)(ha:∀ φ:Nat->Option Nat,(∀ i,i<n->φ (σ i)=some i)->kS n φ args args')(hQ:∀ v t,Q v t->∃ yu,n<=t.nx/\(∀ i,i<t.nx->ext n σ N i=yu i)/\mJ t.nx t.st/\iO (λi=>i<t.nx) v/\K (sV yu v) ⟨ig yu t.st,N+(t.nx-n)⟩):ae f args ⟨ig σ l,N⟩ K:=by
 have hsel:∀ i∈(List.range n).map σ,i<N:=λi hi=>by
  obtain⟨j,hj,rfl⟩:=List.mem_map.1 hi;exact hs.lt j (List.mem_range.1 hj)
 have hlen:((List.range n).map σ).length=n:=by rw[lJ,List.length_range]
 have hback:∀ k,kV ((List.range n).map σ) N k=ext n σ N k:=λk=>by
  unfold ext;by_cases hkn:k<n
  ·rw[if_pos hkn];exact zK (IY k hkn)
  ·rw[if_neg hkn,(CV (nx:=N) (List.getElem?_eq_none_iff.2 (by rw[hlen];omega))).1,hlen]
 have hidx:∀ i,i<n->bZ ((List.range n).map σ) (σ i)=some i:=λi hi=>oL hs.nodup (IY i hi)
 have hkeys:∀ p∈l,p.1<n:=λp hp=>yJ hl p hp
 have hob:∀ q:List (Nat×aG),(∀ p∈q,p∈l)->o9 n (bZ ((List.range n).map σ)) ⟨ig σ l,N⟩ ((List.range n).map σ) q:=by
  intro q;induction q with
  |nil=>exact λ_=>True.intro
  |cons p r ih=>
   intro hq;obtain⟨i,o⟩:=p;refine⟨?_,ih λp hp=>hq p (je _ hp)⟩;have hm:=hq _ jC;have hi:i<n:=hkeys _ hm;have hlook:dM l i=o:=Et hd _ hm;refine⟨σ i,IY i hi,?_⟩;have e:(⟨ig σ l,N⟩:ST).get (σ i)=vV σ o:=by rw[<-hlook];exact P9 hs hkeys i hi
   rw[e,U1];rcases xC hl i with h0|⟨h0,h2⟩
   ·have ho:o = .dead:=hlook.symm.trans h0;subst ho;exact True.intro
   ·rw[hlook]at h2;exact atp (P:=λi=>i<n) (λk hk=>⟨hk,hidx k hk⟩) h2
 have hu:∀ i,N<=i->(⟨ig σ l,N⟩:ST).get i = .dead:=λi hi=>by
  rcases Uh (σ:=σ) (l:=l) i with h0|⟨p,hp,e⟩
  ·exact h0
  ·have:=hs.lt _ (hkeys p hp);omega
 have hfr:=ae.frame (K:=λv t=>∃ v0 t0,Q v0 t0/\v=o8 ((List.range n).map σ) N v0/\t=sG ⟨ig σ l,N⟩ ((List.range n).map σ) t0) (st:=⟨ig σ l,N⟩) h hs.nodup hsel hlen.symm (ha _ hidx) (hob l λp hp=>hp) λv t hq=>⟨v,t,hq,rfl,rfl⟩
 refine hfr.apw λv t ⟨v0,t0,hq,e1,e2⟩=>?_
 subst e1 e2;obtain⟨yu,hn,h1,hl1,hr,hK⟩:=hQ v0 t0 hq;have hs1:Sg t0.nx yu (N+(t0.nx-n)):=by
  have:=hs.ext hn;exact⟨λi j hi hj e=>this.inj i j hi hj (by rw[h1 i hi,h1 j hj];exact e),λi hi=>by rw[<-h1 i hi];exact this.lt i hi⟩
 have hb1:∀ i,i<t0.nx->kV ((List.range n).map σ) N i=yu i:=λi hi=>(hback i).trans (h1 i hi)
 have ht:∀ i,t0.nx<=i->t0.get i = .dead:=λi hi=>by
  rcases xC hl1 i with h0|⟨h0,_⟩
  ·exact h0
  ·omega
 refine⟨sV yu v0,⟨ig yu t0.st,N+(t0.nx-n)⟩,Nat.le_add_right _ _,by show N+(t0.nx-n)<=N+(t0.nx-((List.range n).map σ).length);rw[hlen];exact bu _,atN hs1.lt hb1 hr,λi=>?_,hK⟩;rcases Uh (σ:=yu) (l:=t0.st) i with h0|⟨p,hp,rfl⟩
 ·exact .inl h0
 ·have hp1:p.1<t0.nx:=yJ hl1 p hp;have e1:(⟨ig yu t0.st,N+(t0.nx-n)⟩:ST).get (yu p.1)=vV yu (dM t0.st p.1):=P9 hs1 (λq hq=>yJ hl1 q hq) _ hp1;have e2:=Uw (st:=⟨ig σ l,N⟩) (t:=t0) hs.nodup hsel hu ht p.1;rw[show kV ((List.range n).map σ) (⟨ig σ l,N⟩:ST).nx p.1=yu p.1 from hb1 _ hp1]at e2;rw[e1,e2];rcases xC hl1 p.1 with h0|⟨h0,h2⟩
  ·left;rw[h0];rfl
  ·exact .inr ⟨hs1.lt _ hp1,au7 hs1.lt hb1 h2⟩
end
end
end Go.Proofs.YtnibdnahojjcgaaGreat
