/- A part of the proof. -/
import Derived.Test.YtnibdnahojjcgaaGreatB28
import Derived.Test.YtnibdnahojjcgaaGreatB29
import Derived.Test.YtnibdnahojjcgaaGreatB30
namespace Go.Proofs.YtnibdnahojjcgaaGreat
set_option maxRecDepth 100000
set_option maxHeartbeats 16000000
set_option linter.unusedVariables false
set_option linter.unusedSimpArgs false
open Go.RowKit
structure Laid (b:List UInt8) (L:List aT) (t:List UInt8):Prop where
 eq:b=bY L++t
 ok:zf L
 aq7:(jL t).2.2≠0
 len:b.length<=100000
theorem Laid.drop{b:List UInt8}{L:List aT}{t:List UInt8}(h:Laid b L t){i:Nat}(hi:i<=L.length):b.drop (bY (L.take i)).length=bY (L.drop i)++t:=by
 rw[h.eq]
 conv=>lhs;arg 2;rw[<-List.take_append_drop i L]
 rw[PD,kE,List.drop_left' rfl]
theorem Laid.aud{b:List UInt8}{L:List aT}{t:List UInt8}(h:Laid b L t){i:Nat}(hi:i<L.length):jL (b.drop (bY (L.take i)).length)=(mQ (L.getD i .z),(mQ (L.getD i .z)).length+6,0):=by
 have ha:=XK h.ok.1 hi;obtain⟨f1,f2,f3⟩:=VM ha;rw[h.drop qO,wz .z hi,Pg,f1,kE];exact agX _ _ f2 f3
theorem Laid.lt{b:List UInt8}{L:List aT}{t:List UInt8}(h:Laid b L t){i:Nat}(hi:i<=L.length)(he:(jL (b.drop (bY (L.take i)).length)).2.2=0):i<L.length:=by
 rcases mP i L.length with h1|h1
 ·exact h1
 ·exfalso;rw[h.drop hi,sZ h1]at he;exact h.aq7 he
theorem Laid.end{b:List UInt8}{L:List aT}{t:List UInt8}(h:Laid b L t){i:Nat}(hi:i<=L.length)(he:(jL (b.drop (bY (L.take i)).length)).2.2≠0):i=L.length:=by
 rcases mP i L.length with h1|h1
 ·exact au (by rw[h.aud h1]) he
 ·omega
theorem Laid.used{b:List UInt8}{L:List aT}{t:List UInt8}(h:Laid b L t)(i:Nat):(bY (L.take i)).length<=b.length:=by
 have:bY L=bY (L.take i)++bY (L.drop i):=by rw[<-PD,List.take_append_drop]
 rw[h.eq,this,bW,bW];omega
theorem auX{b:List UInt8}{u j:Nat}:b.getD (u+j) 0=(b.drop u).getD j 0:=by rw[bC,bC,sD]
theorem avh{n:Nat}(h:(!decide ((n:Int)=0))=true):n≠0:=by
 intro e;subst e;cases h
theorem auy{n:Nat}(h:(!decide ((n:Int)=0))=false):n=0:=by
 by_cases e:n=0
 ·exact e
 ·rw[aX qO]at h;cases h
theorem abr(b:List UInt8)(L:List aT)(t:List UInt8)(hL:Laid b L t):aQ 61 [.d (dB b)] (bQ [jc (iM L),iV ((bY L).length:Nat)]):=by
 refine asz Tryz.func61 λX=>?_
 have hI:∀{i:Nat}{a:bP×Nat},i<=L.length->(a.1=(steps FW (L.take i)).1/\a.2=(bY (L.take i)).length)->(!decide (((jL (b.drop a.2)).2.2:Int)=0))=false->i<L.length:=λhi hp h=>hL.lt hi (by rw[<-hp.2];exact auy h)
 have hE:∀{i:Nat}{a:bP×Nat},i<=L.length->(a.1=(steps FW (L.take i)).1/\a.2=(bY (L.take i)).length)->(!decide (((jL (b.drop a.2)).2.2:Int)=0))=true->a.1=iM L/\a.2=(bY L).length:=λhi hp h=>by have e:=hL.end hi (by rw[<-hp.2];exact avh h);rw[hp.1,hp.2,e,oJ];exact⟨rfl,rfl⟩
 (repeat' (first|refine asI L.length (λi (a:bP×Nat)=>⟨46,[(0,.d (dB b)),(2,.ptr 0 0),(3,iV 0),(4,.ptr 1 0),(5,iV a.2)],⟨[(0,.blk 4 (λ_=>.top)),(1,.blk 4 (λk=>.d (kW a.1 k)))],2⟩⟩) (λi a=>a.1=(steps FW (L.take i)).1/\a.2=(bY (L.take i)).length) (FW,0) ?_ ?_ (λi a hi hp=>?_)|refine aU (qh a.1 (L.getD i .z),a.2+((mQ (L.getD i .z)).length+6)) ⟨?_,?_,?_⟩|refine T.seq ?_|refine T.region ?_|refine T.cond ?_|refine T.block ?_|refine T.ret ?_|refine T.skip ?_|refine T.exit ?_|refine ae.tell (avi (b.drop a.2) (by have:=hL.len;rw[fE];omega)) ⟨VW.sl (by rw[fE];rfl) (λj hj k hk=>gz fO auX),tv⟩ ?_|refine ae.tell (au3 (L.getD i .z) (XK hL.ok.1 (hI hi hp aj))) ⟨vq (gz (λl=>V.d (dB l)) (by rw[hp.2,hL.aud (hI hi hp aj)];exact auq _)) tv,tv⟩ ?_|refine ae.tell (Xd a.1 (L.getD i .z) (XK hL.ok.1 (hI hi hp aj)) (by rw[hp.1];exact(CY hL.ok.2 (hI hi hp aj)).2.2.1) (by rw[hp.1];have:=UO (s:=FW) (L:=L.take i) (by decide);omega)) ⟨(asK (by repeat' (first|exact tv|exact qV|refine an ?_ ?_))),(asK (by repeat' (first|exact tv|exact qV|refine an ?_ ?_))),tv⟩ ?_|refine ai.n (λh=>?_)|refine asL (λh=>?_)|refine ai.mk (λh=>?_) (λh=>?_)|refine ag.mk qN ?_|(have q:=hE hi hp aj;refine asM rfl ⟨asK (by repeat' (first|exact tv|exact qV|exact vq (gz (λs:bP=>V.d (kW s _)) q.1) tv|refine an ?_ ?_)),vq (gz iV (by rw[q.2])) tv,tv⟩)|refine ag.mk ?_ ?_))<;>(try(refine aV.mk rfl qN qN ?_ ?_ <;> repeat' (first|exact tv|exact qV|exact VW.top|exact VW.dE|exact qW|refine vq (gz iV ?_) tv|refine an ⟨nb rfl,af.blk ?_⟩ ?_|refine an ?_ ?_)))
 all_goals first|exact rfl|exact⟨rfl,rfl⟩|(have h8:=hL.used i;rw[hp.2];omega)|exact hI hi hp aj|(have h8:=aag (b.drop a.2) (auy (aj:(!decide (((jL (b.drop a.2)).2.2:Int)=0))=false));rw[fE]at h8;have h9:=hL.len;simp only[dQ];omega)|exact⟨by rw[hp.1];exact(CY hL.ok.2 (hI hi hp aj)).2.2.2.symm,by rw[hp.2,ati hL.ok.1 (hI hi hp aj),bW,KH]⟩|(have e:=hL.aud (hI hi hp aj);rw[<-hp.2]at e;rw[e];simp;done)
def lI(a:aP)(f:aY):aP:=
 if f.num=1 then { a with kind:=f.n } else if f.num=2 then { a with src:=f.n-1 } else if f.num=3 then { a with dst:=f.n-1 } else if f.num=4 then { a with term:=f.n } else
 if f.num=5 then { a with bin:=f.n } else if f.num=6 then { a with a:=f.n } else if f.num=7 then { a with b:=f.n } else if f.num=8 then { a with c:=f.n } else
 if f.num=9 then { a with ok:=decide ((f.n:Int)=1) } else if f.num=10 then { a with l:=a.l++[JX f.b] } else a
def zY(l:List aY):aP:=l.foldl lI aP.z
structure afn (f:aY):Prop where
 n:f.n<=1000000000
 e:f.num=10->∃ e,pz e/\f.b=bF (kH e)
theorem zH{l:List aY}{i:Nat}(h:i<l.length):zY (l.take (i+1))=lI (zY (l.take i)) (l.getD i .z):=by
 unfold zY;rw[lX .z h,List.foldl_append];rfl
theorem aga{b:List UInt8}(h:∃ e,pz e/\b=bF (kH e)):aQ 206 [.d (dB b)] (bQ [yj (JX b),iV 0]):=by
 obtain⟨e,he,rfl⟩:=h;rw[acd he];exact af9 e he (KY he).1 (KY he).2.1
theorem ahP(l:List aY):(zY l).l.length<=l.length:=by
 have key:∀(l:List aY) (a:aP),(l.foldl lI a).l.length<=a.l.length+l.length:=by
  intro l;induction l with
  |nil=>intro a;simp
  |cons f r ih=>
   intro a;have h1:=ih (lI a f);have h2:(lI a f).l.length<=a.l.length+1:=by
    unfold lI;repeat' split
    all_goals first|(simp;done)|(simp;omega)|omega
   rw[List.foldl_cons,ny];omega
 have:=key l aP.z;have h0:aP.z.l.length=0:=rfl;unfold zY;omega
def rdC(a:aP):Nat->V
 |9=>.row 2 a.l.length
 |k=>.d (jF a k)
theorem amc(l:List aY)(hn:l.length<=100)(hf:∀ i,i<l.length->afn (l.getD i .z)):aQ 156 [.d (iW l)] (bQ [jy (zY l),iV 0]):=by
 refine asz Tryz.func156 λX=>?_
 (repeat' (first|refine oz ?_|refine asX 1 9 50 (λj k=>.d (qx (([]:List dm).getD j .z) k)) rfl rfl qN rfl qN (asI l.length (λi (a:aP)=>⟨80,[(2,.ptr 0 0),(4,.ptr 1 0),(10,.d (iW l)),(11,iV l.length),(12,iV i)],⟨[(0,.blk 10 (λ_=>.top)),(1,.blk 10 (rdC a)),(2,dw 50 2 qx .z a.l)],3⟩⟩) (λi a=>a=zY (l.take i)) aP.z ?_ ?_ (λi a hi hp=>?_))|refine asA (aga ((hf i om).e (aS ‹_›))) ?_|refine ai.n (λh=>?_)|refine ai.mk (λh=>?_) (λh=>?_)|refine ag.a ?_|refine Fin.dC (i:=2) (h:=λj=>qx (a.l.getD j .z)) (jB.of (cu _) rfl ?_) (Fin.tell (asG [jy (zY l),iV 0] rfl fr ⟨asK ⟨⟨⟨⟨⟨⟨⟨⟨⟨⟨tv,asB ?_⟩,asB ?_⟩,asB ?_⟩,asB ?_⟩,asB ?_⟩,asB ?_⟩,asB ?_⟩,asB ?_⟩,asB ?_⟩,asB ?_⟩,qV,tv⟩))|refine ag.mk ?_ ?_))<;>try exact aB
 all_goals (try(refine aV.mk rfl qN qN ?_ ?_ <;> repeat' (first|exact tv|exact qV|exact VW.top|exact qW|refine an ⟨nb rfl,af.blk ?_⟩ ?_|refine an ⟨nb rfl,af.row ?_ (λj hj k hk=>asB ?_)⟩ ?_|refine an ?_ ?_)))
 all_goals first|exact cm qV|exact rfl|exact λj hj k hk=>rfl|exact uN|(simp only[dQ];(try simp only[fC,fQ,jD]at *);have:=(hf i (by omega)).n;omega)|(have h9:=bJ h;have e:a=zY l:=(by rw[hp,lW (by omega)]);subst e;first|exact cm qV|exact cm (vq jR trivial))|(exact⟨rfl,by have:=ahP (l.take i);rw[<-hp]at this;rw[dP]at this;omega⟩)|(refine aU ({ a with kind:=((l.getD i .z).n:Int) }) ⟨om,(by(try simp only[fC,fQ,jD]at *);rw[zH (by omega),<-hp];unfold lI;repeat' split;all_goals (rfl)),?_⟩;(refine aV.mk rfl qN qN ?_ ?_ <;> repeat' (first|exact tv|exact qV|exact vq (zO (by simp)) qN|exact qW|refine vq (gz iV ?_) tv|refine an ⟨nb rfl,af.blk ?_⟩ ?_|refine an ⟨nb rfl,af.row ?_ (λj hj k hk=>asB ?_)⟩ ?_|refine an ?_ ?_));all_goals first|(simp;done)|exact cm qV)|(refine aU ({ a with src:=((l.getD i .z).n:Int)-1 }) ⟨om,(by(try simp only[fC,fQ,jD]at *);rw[zH (by omega),<-hp];unfold lI;repeat' split;all_goals first|rfl|(exfalso;omega)),?_⟩;(refine aV.mk rfl qN qN ?_ ?_ <;> repeat' (first|exact tv|exact qV|exact vq (zO (by simp)) qN|exact qW|refine vq (gz iV ?_) tv|refine an ⟨nb rfl,af.blk ?_⟩ ?_|refine an ⟨nb rfl,af.row ?_ (λj hj k hk=>asB ?_)⟩ ?_|refine an ?_ ?_));all_goals first|(simp;done)|exact cm qV)|(refine aU ({ a with dst:=((l.getD i .z).n:Int)-1 }) ⟨om,(by(try simp only[fC,fQ,jD]at *);rw[zH (by omega),<-hp];unfold lI;repeat' split;all_goals first|rfl|(exfalso;omega)),?_⟩;(refine aV.mk rfl qN qN ?_ ?_ <;> repeat' (first|exact tv|exact qV|exact vq (zO (by simp)) qN|exact qW|refine vq (gz iV ?_) tv|refine an ⟨nb rfl,af.blk ?_⟩ ?_|refine an ⟨nb rfl,af.row ?_ (λj hj k hk=>asB ?_)⟩ ?_|refine an ?_ ?_));all_goals first|(simp;done)|exact cm qV)|(refine aU ({ a with term:=((l.getD i .z).n:Int) }) ⟨om,(by(try simp only[fC,fQ,jD]at *);rw[zH (by omega),<-hp];unfold lI;repeat' split;all_goals first|rfl|(exfalso;omega)),?_⟩;(refine aV.mk rfl qN qN ?_ ?_ <;> repeat' (first|exact tv|exact qV|exact vq (zO (by simp)) qN|exact qW|refine vq (gz iV ?_) tv|refine an ⟨nb rfl,af.blk ?_⟩ ?_|refine an ⟨nb rfl,af.row ?_ (λj hj k hk=>asB ?_)⟩ ?_|refine an ?_ ?_));all_goals first|(simp;done)|exact cm qV)|(refine aU ({ a with bin:=((l.getD i .z).n:Int) }) ⟨om,(by(try simp only[fC,fQ,jD]at *);rw[zH (by omega),<-hp];unfold lI;repeat' split;all_goals first|rfl|(exfalso;omega)),?_⟩;(refine aV.mk rfl qN qN ?_ ?_ <;> repeat' (first|exact tv|exact qV|exact vq (zO (by simp)) qN|exact qW|refine vq (gz iV ?_) tv|refine an ⟨nb rfl,af.blk ?_⟩ ?_|refine an ⟨nb rfl,af.row ?_ (λj hj k hk=>asB ?_)⟩ ?_|refine an ?_ ?_));all_goals first|(simp;done)|exact cm qV)|(refine aU ({ a with a:=((l.getD i .z).n:Int) }) ⟨om,(by(try simp only[fC,fQ,jD]at *);rw[zH (by omega),<-hp];unfold lI;repeat' split;all_goals first|rfl|(exfalso;omega)),?_⟩;(refine aV.mk rfl qN qN ?_ ?_ <;> repeat' (first|exact tv|exact qV|exact vq (zO (by simp)) qN|exact qW|refine vq (gz iV ?_) tv|refine an ⟨nb rfl,af.blk ?_⟩ ?_|refine an ⟨nb rfl,af.row ?_ (λj hj k hk=>asB ?_)⟩ ?_|refine an ?_ ?_));all_goals first|(simp;done)|exact cm qV)|(refine aU ({ a with b:=((l.getD i .z).n:Int) }) ⟨om,(by(try simp only[fC,fQ,jD]at *);rw[zH (by omega),<-hp];unfold lI;repeat' split;all_goals first|rfl|(exfalso;omega)),?_⟩;(refine aV.mk rfl qN qN ?_ ?_ <;> repeat' (first|exact tv|exact qV|exact vq (zO (by simp)) qN|exact qW|refine vq (gz iV ?_) tv|refine an ⟨nb rfl,af.blk ?_⟩ ?_|refine an ⟨nb rfl,af.row ?_ (λj hj k hk=>asB ?_)⟩ ?_|refine an ?_ ?_));all_goals first|(simp;done)|exact cm qV)|(refine aU ({ a with c:=((l.getD i .z).n:Int) }) ⟨om,(by(try simp only[fC,fQ,jD]at *);rw[zH (by omega),<-hp];unfold lI;repeat' split;all_goals first|rfl|(exfalso;omega)),?_⟩;(refine aV.mk rfl qN qN ?_ ?_ <;> repeat' (first|exact tv|exact qV|exact vq (zO (by simp)) qN|exact qW|refine vq (gz iV ?_) tv|refine an ⟨nb rfl,af.blk ?_⟩ ?_|refine an ⟨nb rfl,af.row ?_ (λj hj k hk=>asB ?_)⟩ ?_|refine an ?_ ?_));all_goals first|(simp;done)|exact cm qV)|(refine aU ({ a with ok:=decide (((l.getD i .z).n:Int)=1) }) ⟨om,(by(try simp only[fC,fQ,jD]at *);rw[zH (by omega),<-hp];unfold lI;repeat' split;all_goals first|rfl|(exfalso;omega)),?_⟩;(refine aV.mk rfl qN qN ?_ ?_ <;> repeat' (first|exact tv|exact qV|exact vq (zO (by simp)) qN|exact qW|refine an ⟨nb rfl,af.blk ?_⟩ ?_|refine an ⟨nb rfl,af.row ?_ (λj hj k hk=>asB ?_)⟩ ?_|refine an ?_ ?_));all_goals first|(simp;done)|exact cm qV)|(refine aU ({ a with l:=a.l++[JX (l.getD i .z).b] }) ⟨om,(by(try simp only[fC,fQ,jD]at *);rw[zH (by omega),<-hp];unfold lI;repeat' split;all_goals first|rfl|(exfalso;omega)),?_⟩;(refine aV.mk rfl qN qN ?_ ?_ <;> repeat' (first|exact tv|exact qV|exact vq (zO (by simp)) qN|exact qW|refine an ⟨nb rfl,af.blk ?_⟩ ?_|refine an ⟨nb rfl,af.row ?_ (λj hj k hk=>asB ?_)⟩ ?_|refine an ?_ ?_));all_goals first|(simp;done)|(refine cm (oq (C:=qx) (z:=.z) (b:=[JX (l.getD i .z).b]) rfl (by simpa using hj) fr (λj hj=>?_));obtain rfl:j=0:=(by simpa using hj);rcases k with _|_|k <;> first|exact qV|(exact au hk (by show ¬_<2;omega)));done)|(refine aU (a) ⟨om,(by(try simp only[fC,fQ,jD]at *);rw[zH (by omega),<-hp];unfold lI;repeat' split;all_goals first|rfl|(exfalso;omega)),?_⟩;(refine aV.mk rfl qN qN ?_ ?_ <;> repeat' (first|exact tv|exact qV|exact vq (zO (by simp)) qN|exact qW|refine an ⟨nb rfl,af.blk ?_⟩ ?_|refine an ⟨nb rfl,af.row ?_ (λj hj k hk=>asB ?_)⟩ ?_|refine an ?_ ?_));all_goals first|(simp;done)|exact cm qV)
theorem abu:∀(l:List dm) (a:aP),(∀ e∈l,pz e)->(l.map DZ).foldl lI a={ a with l:=a.l++l }
 |[],a,_=>by simp
 |e::r,a,h=>by
  rw[List.map_cons,List.foldl_cons,abu r _ (λx hx=>h x (je _ hx))];have e1:lI a (DZ e)={ a with l:=a.l++[e] }:=by
   unfold lI DZ;simp[acd (h e jC)]
  rw[e1];simp
theorem ahO{x:aP}(h:jJ x):zY (jM x)=x:=by
 have h1:=h.kind;have h2:=h.src;have h3:=h.dst;have h4:=h.term;have h5:=h.bin;have h6:=h.a;have h7:=h.b;have h8:=h.c;unfold zY jM;rw[List.foldl_append,abu _ _ h.es];have key:(pK (mG x)).foldl lI aP.z={ x with l:=[] }:=by
  unfold pK mG;have g:∀(i:Nat) (n:Int) (r:List Int),qm i (n::r)=(if n=0 then [] else [⟨(i:Int)+1,0,n.toNat,[]⟩])++qm (i+1) r:=λ_ _ _=>rfl
  have g0:∀ i,qm i []=[]:=λ_=>rfl
  simp only[g,g0];rw[if_neg (show x.kind≠0 by omega),if_neg (show x.src+1≠0 by omega),if_neg (show x.dst+1≠0 by omega),if_neg (show x.term≠0 by omega),if_neg (show x.bin≠0 by omega)];have st:∀(a:aP) (i n:Int) (upd:aP),(n=0->a=upd)->(n≠0->lI a ⟨i,0,n.toNat,[]⟩=upd)->∀ r,List.foldl lI a ((if n=0 then [] else [⟨i,0,n.toNat,[]⟩])++r)=List.foldl lI upd r:=by
   intro a i n upd h1 h2 r;split
   ·rename_i e;rw[<-h1 e];rfl
   ·rename_i e;rw[List.singleton_append,List.foldl_cons,h2 e]
  simp only[List.singleton_append,List.foldl_cons];rw[show lI (lI (lI (lI (lI aP.z ⟨((0:Nat):Int)+1,0,x.kind.toNat,[]⟩) ⟨((0+1:Nat):Int)+1,0,(x.src+1).toNat,[]⟩) ⟨((0+1+1:Nat):Int)+1,0,(x.dst+1).toNat,[]⟩) ⟨((0+1+1+1:Nat):Int)+1,0,x.term.toNat,[]⟩) ⟨((0+1+1+1+1:Nat):Int)+1,0,x.bin.toNat,[]⟩={ aP.z with kind:=x.kind,src:=x.src,dst:=x.dst,term:=x.term,bin:=x.bin } from by
   simp[lI,aP.z];omega]
  rw[st _ _ _ { aP.z with kind:=x.kind,src:=x.src,dst:=x.dst,term:=x.term,bin:=x.bin,a:=x.a } (λe=>by rw[e];rfl) (λe=>by simp[lI,aP.z];omega)];rw[st _ _ _ { aP.z with kind:=x.kind,src:=x.src,dst:=x.dst,term:=x.term,bin:=x.bin,a:=x.a,b:=x.b } (λe=>by rw[e];rfl) (λe=>by simp[lI,aP.z];omega)];rw[st _ _ _ { aP.z with kind:=x.kind,src:=x.src,dst:=x.dst,term:=x.term,bin:=x.bin,a:=x.a,b:=x.b,c:=x.c } (λe=>by rw[e];rfl) (λe=>by simp[lI,aP.z];omega)];obtain⟨k,s,d,t,a,b,c,bin,ok,l⟩:=x;cases ok <;> simp[lI,aP.z]
 rw[key];simp
theorem amU{x:aP}(h:jJ x)(i:Nat)(hi:i<(jM x).length):afn ((jM x).getD i .z):=by
 rcases KW h _ (iT (z:=.z) hi) with ⟨h1,h2,h3,h4,h5,h6⟩|⟨h1,h2,h3,h4⟩
 ·exact⟨h5,λe=>by omega⟩
 ·exact⟨by omega,λ_=>h4⟩
theorem amd{x:aP}(h:jJ x):aQ 156 [.d (iW (jM x))] (bQ [jy x,iV 0]):=by
 have:=amc (jM x) (by have:=VC h;omega) (amU h);rwa [ahO h]at this
theorem aoP{x:aP}(h:jJ x)(i:Nat)(hi:i<(jM x).length):((jM x).getD i .z).b.length<=100000:=by
 have:=(Lm h _ (iT (z:=.z) hi)).2.2;omega
theorem ajB{x:aP}(h:jJ x)(i:Nat)(hi:i<(jM x).length):((jM x).getD i .z).num<=Fa 6 1:=by
 have e:Fa 6 1=10:=by decide
 rw[e];rcases KW h _ (iT (z:=.z) hi) with ⟨h1,h2,_⟩|⟨h1,_⟩ <;> omega
theorem ah4(x:aP)(hx:jJ x):aQ 104 [.d (dB (kU x))] (bQ [jy x,.d (iW []),iV 0]):=by
 refine asz Tryz.func104 λX=>?_
 (repeat' (first|refine oz ?_|refine asA (PU (jM x) (QB hx)) ?_|refine asA (QM 6 1 (.inr (.inl rfl)) (jM x) (aoO hx)) ?_|refine asA (Rt 6 1 (.inr (.inl rfl))) ?_|refine asA (aa7 (jM x) (Fa 6 1) (by have:=VC hx;omega) (aoP hx) (ajB hx)) ?_|refine asA (amd hx) ?_|refine asA (abN x hx) ?_|refine aU _ (ed (λht=>ae.tell (adC (kU x) (kU x)) vw ⟨rfl,rfl⟩) ?_)|refine ai.mk (λh2=>au h2 (by rw[show(kU x == kU x)=true from (by simp)];decide)) (λh=>?_)|refine ai.n (λh=>?_)|refine ag.a ?_|refine asM rfl vw))<;>try exact aB
def D5:dJ:=⟨[],0,false,false,0,[]⟩
def bP.z:bP:=⟨0,0,0,[]⟩
def lD(me many:Int):az:=⟨me,many,D5.nG 0,0,.z,0,0,0,.nil,[],[],[],[],[]⟩
def Yx:dJ:=D5.nG 0
def arG(me many:Int):Nat->V
 |0=>iV me|1=>iV many|2=>.ptr 0 0|7=>.dE|15=>.dE|16=>.dE|17=>.dE|18=>.dE|19=>.dE|20=>.dE|21=>.dE|22=>.dE|_=>iV 0
theorem ano:D5.ok:=⟨eF _,eF _,cu _,cu _⟩
theorem aoF{me many:Int}(h:3<=many/\many<=5)(h2:0<=me/\me<many):(bif (bif (bif decide (many<3) then true else decide (5<many)) then true else decide (me<0)) then true else decide (many<=me))=false:=by
 rw[aX (show ¬many<3 by omega),aX (show ¬5<many by omega),aX (show ¬me<0 by omega),aX (show ¬many<=me by omega)];rfl
theorem aoG  : ae 89 [] e0 (λv t=>v = .ptr 0 0/\t=DS D5):=by
 refine asz Tryz.func89 λX=>?_
 (repeat' (first|refine T.cut (x:=.region 1 _ _) (y:=.ret) ⟨3,[(0,.ptr 0 0)],⟨[(0,.blk 5 (λk=>match k with|0=>.dE|1=>iV 0|2=>.b false|3=>.b false|_=>iV 0))],1⟩⟩ ?_ (aum 0 0 5 (λj k=>.d (fO (([]:List UInt8).getD j 0))) rfl rfl qN rfl qN (T.ret ?_))|refine oz ?_|refine asC qN qN qW ?_))<;>try exact aB
 all_goals (try(refine aV.mk rfl qN qN ?_ ?_ <;> repeat' (first|exact tv|exact qW|refine an ⟨nb rfl,asE rfl (λk hk=>asB ?_)⟩ ?_|refine an ?_ ?_)))
 all_goals (have hk:k<5:=hk;rcases k with _|_|_|_|_|k <;> first|exact cm qV|omega)
theorem Xo(me many:Int)(hc:3<=many/\many<=5)(h2:0<=me/\me<many):ae 46 [iV me,iV many] e0 (λv t=>v=bQ [.ptr 0 0,iV 0]/\t=NS (lD me many)):=by
 refine asz Tryz.func46 λX=>?_
 (repeat' (first|refine ai.mk (λh=>au ((aoF hc h2).symm.trans h) (by decide)) (λh=>?_)|refine T.cut (x:=.region 5 _ _) (y:=.ret) ⟨30,[(4,.ptr 2 0),(5,iV 0)],⟨[(0,.blk 5 (uI Yx)),(1,iy (Yx.b++Yx.bU)),(2,.blk 23 (arG me many))],3⟩⟩ ?_ (asX 2 18 52 (λj k=>.d (jU (([]:List eY).getD j .z) k)) rfl rfl qN rfl qN (asX 2 19 4 (λj k=>.d (bD (([]:List Bool).getD j false))) rfl rfl qN rfl qN (asX 2 20 3 (λj k=>.d (iD (([]:List Int).getD j 0))) rfl rfl qN rfl qN (asX 2 21 3 (λj k=>.d (iD (([]:List Int).getD j 0))) rfl rfl qN rfl qN (asX 2 22 3 (λj k=>.d (iD (([]:List Int).getD j 0))) rfl rfl qN rfl qN (T.Ec [2,0,1,3,4,5,6,7] ⟨30,[(4,.ptr 0 0),(5,iV 0)],NS (lD me many)⟩ ⟨rfl,rfl,rfl,rfl,?_,⟨?_,?_,tv⟩⟩ (T.ret ?_)))))))|refine oz ?_|refine asP aoG ?_|refine asH [0,1] (QH D5 0 ano (by decide)) ?_|refine ag.a ?_|refine asC qN qN (asG [.ptr 0 0,iV 0] rfl fr vw) ?_))<;>try exact aB
 all_goals (try(refine aV.mk rfl qN qN ?_ ?_ <;> repeat' (first|exact tv|exact qV|exact qW|refine an ⟨nb rfl,asE rfl (λk hk=>asB ?_)⟩ ?_|refine an ⟨nb rfl,af.row ?_ (λj hj k hk=>asB ?_)⟩ ?_|refine an ?_ ?_)))
 all_goals (try(repeat' (first|exact tv|refine an ⟨_,rfl,asE rfl (λk hk=>?_)⟩ ?_|refine an ⟨_,rfl,af.row rfl (λj hj k hk=>?_)⟩ ?_)))
 all_goals first|exact rfl|exact cm qV|exact au hj nz|exact qV|exact qW|(have hk:k<23:=hk;rcases k with _|_|_|_|_|_|_|_|_|_|_|_|_|_|_|_|_|_|_|_|_|_|_|k <;> first|exact qV|exact qW|exact asQ rfl|exact cm qV|exact cm qW|omega)|(have hk:k<5:=hk;rcases k with _|_|_|_|_|k <;> first|exact qV|exact qW|exact cm qV|exact cm qW)
theorem aiC{b:List UInt8}{i:Nat}(h:i<b.length):(xO b).getD i 0=((b.getD i 0).toNat:Int):=by
 unfold xO;rw[bC,bC,qY,dW h];rfl
theorem aeK{b:List UInt8}:(bif !decide ((0:Int)=0) then true else !((BO b.length (λj _=>.d (fO (b.getD j 0)))).toList == (BO b.length (λj _=>.d (fO (b.getD j 0)))).toList))=false:=by simp
theorem ar4{x w p:Bool}(h:(bif x == w then p else !true)=true):p=true:=by cases x <;> cases w <;> simp_all
theorem ahF{x a p:Int}{i:Nat}(hi:i=0->a=0)(hp:i≠0->a=p/\1<=a) :
  (bif !(dN x 1 64) then true else (bif decide (0<(i:Int)) then decide (x<=p) else false))=(bif decide (x<=a) then true else decide (64<x)):=by
 unfold dN;by_cases h0:i=0
 ·rw[hi h0,h0];by_cases e1:1<=x/\x<=64
  ·rw[bg e1,aX (show ¬x<=0 by omega),aX (show ¬64<x by omega)];rfl
  ·rw[aX e1];by_cases e2:x<=0
   ·rw[bg e2];rfl
   ·rw[bg (show 64<x by omega)];cases decide (x<=0) <;> rfl
 ·obtain⟨e,h1⟩:=hp h0;subst e;rw[bg (show 0<(i:Int) by omega)];by_cases e1:1<=x/\x<=64
  ·rw[bg e1,aX (show ¬64<x by omega)];cases decide (x<=a) <;> rfl
  ·rw[aX e1];by_cases e2:x<=a
   ·rw[bg e2];rfl
   ·rw[bg (show 64<x by omega)];cases decide (x<=a) <;> rfl
def BA(l:List Int)(i:Nat):Int:=if i=0 then 0 else l.getD ((i:Int)-1).toNat 0
theorem al2{l:List Int}{i:Nat}(h:i<l.length)(hg:rQ 0 l=rQ (BA l i) (l.drop i))(ht:(bif decide (l.getD i 0<=BA l i) then true else decide (64<l.getD i 0))=true):false=kG l:=by
 unfold kG;rw[hg,row_step h,dF ht];cases (bif decide ((l.length:Int)<1) then true else decide (8<(l.length:Int))) <;> rfl
theorem ai5{l:List Int}{i:Nat}(h:l.length<=i)(hg:rQ 0 l=rQ (BA l i) (l.drop i)):(bif decide (1<=(l.length:Int)) then decide ((l.length:Int)<=8) else false)=kG l:=by
 unfold kG;rw[hg,sZ h];by_cases e:(l.length:Int)<1
 ·rw[bg e,aX qO];rfl
 ·rw[aX e,bg (show 1<=(l.length:Int) by omega)];by_cases e2:8<(l.length:Int)
  ·rw[bg e2,aX qO];rfl
  ·rw[aX e2,bg qO];rfl
structure rowP (l:List Int) (i:Nat):Prop where
 g:rQ 0 l=rQ (BA l i) (l.drop i)
 p:i≠0->1<=BA l i
theorem rowP.cond{l:List Int}{i:Nat}(h:rowP l i):(bif !(dN (l.getD i 0) 1 64) then true else (bif decide (0<(i:Int)) then decide (l.getD i 0<=l.getD ((i:Int)-1).toNat 0) else false))=(bif decide (l.getD i 0<=BA l i) then true else decide (64<l.getD i 0)):=
 ahF (λe=>by unfold BA;rw[if_pos e]) (λe=>⟨by unfold BA;rw[if_neg e],h.p e⟩)
theorem rowP.next{l:List Int}{i:Nat}(h:rowP l i)(hi:i<l.length)(ht:(bif !(dN (l.getD i 0) 1 64) then true else (bif decide (0<(i:Int)) then decide (l.getD i 0<=l.getD ((i:Int)-1).toNat 0) else false))=false):rowP l (i+1):=by
 have e:BA l (i+1)=l.getD i 0:=by unfold BA;rw[if_neg qO,show(((i+1:Nat):Int)-1).toNat=i by omega]
 refine⟨?_,λ_=>?_⟩
 ·rw[e,h.g,row_step hi,bz (h.cond.symm.trans ht)]
 ·rw[e];unfold dN at ht;by_cases e1:1<=l.getD i 0/\l.getD i 0<=64
  ·exact e1.1
  ·rw[aX e1]at ht;cases ht
theorem QS(l:List Int)(hl:l.length<=100000):aQ 88 [.d (iH l)] (.b (kG l)):=by
 refine asz Tryz.func88 λX=>?_
 (repeat' (first|refine oz ?_|refine asD 4 [] [o0,o0,o0,o0,o0,o0,o0,o0,o0,o0,o0,o0,o0,o0,o0,o0,o0,o0,o0,o0,o0,o0] ?_|refine mc ?_ ?_|refine asI l.length (λi (a:Unit)=>⟨40,[(0,.d (iH l)),(3,iV i)],e0⟩) (λi a=>rowP l i) () ?_ ⟨rfl,λh=>au rfl h⟩ (λi a hi hp=>?_)|refine aU () ⟨?_,hp.next (by have h9:=aS (aj:decide ((i:Int)<(l.length:Int))=true);omega) h,?_⟩|refine asN (yL (l.getD i 0) 1 64) ?_|refine ai.mk (λh=>?_) (λh=>?_)|refine ag.a ?_|refine Fin.tell (vq (gz V.b ?_) tv)|refine ag.mk ?_ ?_))<;>(try(refine dh.mk ?_;repeat' (first|exact tv|exact rfl|refine asA (yL (l.getD i 0) 1 64) ?_|refine an ?_ ?_|refine ag.mk ?_ ?_)))
 all_goals try exact aB
 all_goals first|(exact al2 (by have h9:=aS (aj:decide ((i:Int)<(l.length:Int))=true);omega) hp.g (hp.cond.symm.trans h))|(exact ai5 (by have h9:=bJ (aj:decide ((i:Int)<(l.length:Int))=false);omega) hp.g)|(have h9:i<l.length:=(by have h9:=aS (aj:decide ((i:Int)<(l.length:Int))=true);omega);first|omega|(intro e;have e:=aS (ar4 e);(omega)))
theorem aaG(l:List Int)(hr:kG l=true):aQ 125 [.d (iH l)] (bQ [.d (dB (iP l)),iV 0]):=by
 obtain⟨hr1,hr2,hr3⟩:=zQ hr;have hm:∀ i,i<l.length->l.getD i 0=((l.getD i 0).toNat:Int)/\(l.getD i 0).toNat<=64:=λi hi=>by
  have:=Ld hr3 (l.getD i 0) (iT (z:=0) hi);omega
 refine asz Tryz.func125 λX=>?_
 (repeat' (first|refine oz ?_|refine asI l.length (λi (a:List UInt8)=>⟨25,[(0,.d (iH l)),(4,.row 0 a.length),(5,iV i)],⟨[(0,iy a)],1⟩⟩) (λi a=>a=iP (l.take i)/\a.length<=i*10) [] ?_ ?_ (λi a hi hp=>?_)|refine aU (a++dV (l.getD i 0).toNat) ⟨?_,?_,?_⟩|refine ai.mk (λh=>au ((show(!kG l)=false by rw[hr];rfl).symm.trans h) (by decide)) (λh=>?_)|refine asA (QS l (by omega)) ?_|refine ae.tell (Qu (l.getD i 0).toNat (by have:=(hm i (by have h9:=aS (aj:decide ((i:Int)<(l.length:Int))=true);omega)).2;omega)) ⟨vq (gz (V.int .u64) (hm i (by have h9:=aS (aj:decide ((i:Int)<(l.length:Int))=true);omega)).1) tv,tv⟩ ?_|refine ai.mk (λh=>?_) (λh=>?_)|refine ag.a ?_|refine atc (C:=λb _=>fO b) (z:=0) (L:=iP l) rfl rfl ?_ ?_ qV|refine ag.mk ?_ ?_))<;>try exact aB
 all_goals (try(refine aV.mk rfl qN qN ?_ ?_ <;> repeat' (first|exact tv|exact qV|exact qW|refine vq (gz (V.row _) ?_) qN|refine an ⟨nb rfl,af.row ?_ (λj hj k hk=>asB ?_)⟩ ?_|refine an ?_ ?_)))
 all_goals first|exact rfl|exact au hj nz|(exact⟨rfl,bu _⟩)|(have h9:i<l.length:=(by have h9:=aS (aj:decide ((i:Int)<(l.length:Int))=true);omega);have q:=hm i h9;have q2:=uY (l.getD i 0).toNat;have q3:=hp.2;first|omega|(simp only[dQ,jD];omega)|(refine⟨?_,?_⟩;(rw[hp.1,lX 0 h9,aco]);rw[bW];omega)|(simp only[bW];done)|(obtain rfl:k=0:=Nat.lt_one_iff.1 hk;exact cm (vq (AV rfl (λ_=>rfl) (λ_=>rfl) j) tv)))|(have e2:a=iP l:=(by rw[hp.1,lW (by have h9:=bJ (aj:decide ((i:Int)<(l.length:Int))=false);omega)]);subst e2;first|rfl|exact λj hj k hk=>rfl)
theorem agC(l:List Int)(hr:kG l=true):aQ 84 [.d (dB (iP l))] (bQ [.d (iH l),iV 0]):=by
 have hm:=EI hr;have hl:=Pv hm;have h8:=(zQ hr).2.1;have hu:(xO (iP l)).length=(iP l).length:=lJ ..;refine asz Tryz.func84 λX=>?_
 (repeat' (first|(have e:a=l:=(by rw[hp,PT (EI hr),lW (by rw[<-Pv (EI hr)];exact(by have h9:=bJ (aj:decide ((i:Int)<((iP l).length:Int))=false);omega))]);refine T.dC (c:=.seq (.region 6 _ _) _) (i:=0) (h:=λj _=>iD (a.getD j 0)) iw (T.le ⟨38,[(0,.d (dB (iP l))),(4,.d (iH l))],e0⟩ ?_ (T.seq ?_)))|refine oz ?_|refine asI (iP l).length (λi (a:List Int)=>⟨38,[(0,.d (dB (iP l))),(4,.row 0 a.length),(5,iV i)],⟨[(0,dw 3 1 (λn _=>iD n) 0 a)],1⟩⟩) (λi a=>a=(xO (iP l)).take i) [] ?_ ?_ (λi a hi hp=>?_)|refine aU (a++[(xO (iP l)).getD i 0]) ⟨?_,?_,?_⟩|refine asA (aaG l hr) ?_|refine ai.mk (λh=>au ((aeK (b:=iP l)).symm.trans h) (by decide)) (λh=>?_)|refine ai.mk (λh=>?_) (λh=>?_)|refine ag.a ?_|refine asM rfl vw|refine ag.mk ?_ ?_))<;>try exact aB
 all_goals (try(refine aV.mk rfl qN qN ?_ ?_ <;> repeat' (first|exact tv|exact qV|exact vq (jR.trans (gz (λL=>V.d (iH L)) e)) tv|exact qW|refine vq (gz (V.row _) ?_) qN|refine an ⟨nb rfl,af.row ?_ (λj hj k hk=>asB ?_)⟩ ?_|refine an ?_ ?_)))
 all_goals first|exact rfl|exact au hj nz|(have h9:i<(iP l).length:=(by have h9:=aS (aj:decide ((i:Int)<((iP l).length:Int))=true);omega);have q:=gz List.length hp;rw[dP]at q;have qb:=((iP l).getD i 0).toNat_lt;first|omega|(simp only[dQ,jD];omega)|(simp only[bW,List.length_singleton];done)|(rw[hp,lX 0 (by omega)];done)|(have hk:k<1:=hk;refine cm (oq (C:=λn _=>iD n) (z:=0) (b:=[(xO (iP l)).getD i 0]) rfl hj fr (λj hj=>?_));obtain rfl:j=0:=Nat.lt_one_iff.1 hj;rcases k with _|k;exact vq (gz iV (aiC h9).symm) tv;omega))
def rU(k:Int):Bool:=bif (bif decide (k=6) then true else decide (k=8)) then true else decide (k=12)
structure apU (c:aI):Prop where
 bf:Bo c.bf (!decide (c.kind=8)) 1 8=true
 seq:Bo c.seq (bif !decide (c.kind=8) then !decide (c.kind=1) else false) 1 1048576=true
 set:Bo c.set (dN c.kind 2 4) 1 8=true
 id:Bo c.id (bif (bif decide (c.kind=5) then true else decide (c.kind=7)) then true else dN c.kind 9 11) 1 1048576=true
 n8:c.kind=8->Bo c.n (rU c.kind) 2 3=true
 n12:c.kind=12->Bo c.n (rU c.kind) 0 64=true
 n0:c.kind≠8->c.kind≠12->Bo c.n (rU c.kind) 0 8=true
 text:(bif decide (((iU c.text).size:Int)=0) then true else (bif decide (c.kind=11) then decide (((iU c.text).size:Int)<=16) else false))=true
theorem fZ.aro{c:aI}{v:Int}(h:fZ c v):apU c:=by
 have hk:=CU h.kz;have hf:=h.fits;have ht:=h.fit.text;have hsz:(iU c.text).size=c.text.length:=by simp[iU,ByteArray.size]
 have key:∀ lo hi ch tx,Ae c lo hi ch tx=true->dN c.n lo hi=true/\sU c.bf 8 (!rV [8] c.kind)=true/\sU c.seq 1048576 (!rV [1,8] c.kind)=true/\sU c.set 8 (rV [2,3,4] c.kind)=true/\sU c.id 1048576 (rV [5,7,9,10,11] c.kind)=true:=by
  intro lo hi ch tx h;unfold Ae at h;simp only[WW,qc]at h;obtain⟨⟨⟨⟨⟨⟨h1,h2⟩,h3⟩,h4⟩,h5⟩,h6⟩,h7⟩:=h;exact⟨h1,h4,h5,h6,h7⟩
 have hK:∀ lo hi,yS c lo hi=true->∃ ch tx,Ae c lo hi ch tx=true:=by
  intro lo hi h;unfold yS at h;cases h3:decide (c.kind=3) <;> rw[h3]at h
  ·rw[di]at h;cases h11:decide (c.kind=11) <;> rw[h11]at h
   ·exact⟨_,_,h⟩
   ·exact⟨_,_,h⟩
  ·exact⟨_,_,h⟩
 have all:∃ lo hi,(dN c.n lo hi=true/\sU c.bf 8 (!rV [8] c.kind)=true/\sU c.seq 1048576 (!rV [1,8] c.kind)=true/\sU c.set 8 (rV [2,3,4] c.kind)=true/\sU c.id 1048576 (rV [5,7,9,10,11] c.kind)=true)/\((c.kind=12/\lo=0/\hi=64)\/(c.kind=8/\lo=2/\hi=3)\/(c.kind=6/\lo=0/\hi=8)\/(c.kind≠12/\c.kind≠8/\c.kind≠6/\lo=0/\hi=0)):=by
  unfold wM at hf;by_cases e12:(12:Int)=c.kind
  ·rw[bg e12,dR]at hf;obtain⟨_,_,h1⟩:=hK _ _ hf;exact⟨_,_,key _ _ _ _ h1,by omega⟩
  ·rw[aX e12,di]at hf;by_cases e8:(8:Int)=c.kind
   ·rw[bg e8,dR]at hf;obtain⟨_,_,h1⟩:=hK _ _ hf;exact⟨_,_,key _ _ _ _ h1,by omega⟩
   ·rw[aX e8,di]at hf;by_cases e6:(6:Int)=c.kind
    ·rw[bg e6,dR]at hf;obtain⟨_,_,h1⟩:=hK _ _ hf;exact⟨_,_,key _ _ _ _ h1,by omega⟩
    ·rw[aX e6,di]at hf;obtain⟨_,_,h1⟩:=hK _ _ hf;exact⟨_,_,key _ _ _ _ h1,by omega⟩
 obtain⟨lo,hi,⟨b1,b2,b3,b4,b5⟩,hb⟩:=all;have htx:(bif decide (((iU c.text).size:Int)=0) then true else (bif decide (c.kind=11) then decide (((iU c.text).size:Int)<=16) else false))=true:=by
  rw[hsz];by_cases e:c.kind=11
  ·rw[bg e,bg (show((c.text.length:Int))<=16 by omega)];cases decide ((c.text.length:Int)=0) <;> rfl
  ·rw[ht.2 e];rfl
 clear hf hK key ht hsz;have cZ:c.kind=1\/c.kind=2\/c.kind=3\/c.kind=4\/c.kind=5\/c.kind=6\/c.kind=7\/c.kind=8\/c.kind=9\/c.kind=10\/c.kind=11\/c.kind=12:=qO;refine⟨?_,?_,?_,?_,?_,?_,?_,htx⟩ <;> rcases cZ with e|e|e|e|e|e|e|e|e|e|e|e <;> rw[e]at b2 b3 b4 b5 ⊢ <;> first|exact b2|exact b3|exact b4|exact b5|(intro h;exact au h (by decide))|(intro h h';exact au rfl h')|(unfold Bo rU dN;unfold dN at b1;have b1:=aS b1;simp;omega)
theorem arE{A B C D N K T:Bool}(a:A=true)(b:B=true)(c:C=true)(d:D=true)(n:N=true)(k:K=true)(t:T=true):(bif (bif (bif (bif (bif (bif !A then true else !B) then true else !C) then true else !D) then true else !N) then true else !K) then true else !T)=false:=by subst a b c d n k t;rfl
theorem fZ.ch3{c:aI}{v:Int}(h:fZ c v)(e:c.kind=3):kG c.chunks=true:=by rcases h.fit.chunks with h|h;exact h.2;exact au e h.1
theorem fZ.ch0{c:aI}{v:Int}(h:fZ c v)(e:¬c.kind=3):decide ((c.chunks.length:Int)=0)=true:=by rcases h.fit.chunks with h|h;exact au h.1 e;rw[h.2];rfl
theorem al4(c:aI)(v:Int)(hc:fZ c 3)(h1:1<=v)(h3:v<=3):aQ 111 [jI c,iV v] (iV (qJ c v)):=by
 have hm:=hc.aro;refine asz Tryz.func111 λX=>?_
 (repeat' (first|refine oz ?_|refine asD 8 [] [o0,o0,o0,o0,o0,o0] ?_|refine asD 9 [] [o0,o0,o0,o0,o0,o0,o0,o0,o0,o0,o0,o0,o0,o0] ?_|refine mc ?_ ?_|refine ai.mk (λh=>au ((show(bif !(dN v 1 3) then true else decide (lC c.kind=0))=false by rw[show dN v 1 3=true from bg ⟨h1,h3⟩,aX hc.kz];rfl).symm.trans h) (by decide)) (λh=>?_)|refine asA (yL v 1 3) ?_|refine aU _ (ed (λht=>ae.tell (P8 c.kind) vw ⟨rfl,rfl⟩) ?_)|refine asA (P8 c.kind) ?_|refine asA (Wy _ _ _ _) ?_|refine asA (QS c.chunks hc.chunks) ?_|refine asN (Wy _ _ _ _) ?_|refine asN (yL _ _ _) ?_|refine ai.mk (λh=>?_) (λh=>?_)|refine ag.a ?_|refine Fin.tell (vq (gz iV ?_) tv)))<;>(try(refine dh.mk ?_;repeat' (first|exact tv|exact rfl|refine asA (Wy _ _ _ _) ?_|refine asA (yL _ _ _) ?_|refine aU _ (ed (λht=>ae.tell (yL _ _ _) vw ⟨rfl,rfl⟩) ?_)|refine an ?_ ?_|refine ag.mk ?_ ?_)))
 all_goals try exact aB
 all_goals first|(rename_i h0;exact((bz h0).trans (dF h)).symm)|exact((bz (aj:(bif !dN v 1 3 then true else decide (lC c.kind=0))=false)).trans ((bz (aj:decide (v<lC c.kind)=false)).trans (bz (by rw[hc.fits];rfl)))).symm|(exfalso;have a8:=aS (aj:decide (c.kind=8)=true);have a12:=aS (aj:decide (c.kind=12)=true);omega)|(exfalso;refine au ((arE hm.bf hm.seq hm.set hm.id ?_ ?_ hm.text).symm.trans h) (by decide);(first|exact hm.n8 (aS aj)|exact hm.n12 (aS aj)|exact hm.n0 (bJ aj) (bJ aj));(first|exact hc.ch3 (aS aj)|exact hc.ch0 (bJ aj)))
theorem agJ(c:aI)(v:Int)(h0:lC c.kind≠0)(h1:lC c.kind<=v)(hc:c.chunks.length<=100000):aQ 126 [jI c,iV v] (.b false):=by
 refine asz Tryz.func126 λX=>?_
 (repeat' (first|refine oz ?_|refine asA (P8 c.kind) ?_|refine aU _ (ed (λht=>ae.tell (QS c.chunks hc) vw ⟨rfl,rfl⟩) ?_)|refine asA (yL _ _ _) ?_|refine aU _ (ed (λht=>ae.tell (yL _ _ _) vw ⟨rfl,rfl⟩) ?_)|refine ag.a ?_|refine Fin.tell (vq (gz V.b ?_) tv)))<;>try exact aB
 all_goals (rw[aX h0,aX (show ¬v<lC c.kind by omega)];cases dN c.kind 1 99 <;> rfl)
def wJ(c:aI):List Int:=[c.kind,c.bf,c.seq,c.set,c.id,c.n]
def yP(c:aI):Nat->List aY
 |0=>[]
 |i+1=>yP c i++kR ((i:Int)+1) ((wJ c).getD i 0)
theorem ahS(c:aI)(i:Nat):(yP c i).length<=i:=by
 induction i with
 |zero=>exact bu _
 |succ i ih=>
  unfold yP;rw[bW];have:=Gv ((i:Int)+1) ((wJ c).getD i 0);omega
theorem amj{c:aI}{i:Nat}(h:(wJ c).getD i 0=0):yP c (i+1)=yP c i:=by
 show yP c i++kR ((i:Int)+1) ((wJ c).getD i 0)=_;unfold kR;rw[if_pos h,pG]
theorem ami{c:aI}{i:Nat}(h:¬(wJ c).getD i 0=0):yP c (i+1)=yP c i++[⟨(i:Int)+1,0,((wJ c).getD i 0).toNat,[]⟩]:=by
 show yP c i++kR ((i:Int)+1) ((wJ c).getD i 0)=_;unfold kR;rw[if_neg h]
theorem aiB{c:aI}(h:YN c)(i:Nat):0<=(wJ c).getD i 0/\(wJ c).getD i 0<=1000000000:=by
 rcases i with _|_|_|_|_|_|i
 ·exact h.kind
 ·exact h.bf
 ·exact h.seq
 ·exact h.set
 ·exact h.id
 ·exact h.n
 ·exact⟨eF 0,show(0:Int)<=1000000000 by decide⟩
theorem aqP{c:aI}(h:c.chunks=[]):qR c=vZ c:=by
 have e:wE c.chunks=[]:=by unfold wE;rw[h];rfl
 unfold qR pM;rw[if_pos e,pG]
theorem aqO{c:aI}(h:kG c.chunks=true):qR c=vZ c++[⟨7,2,0,iP c.chunks⟩]:=by
 have e:wE c.chunks=iP c.chunks:=by unfold wE;rw[if_pos h]
 unfold qR pM;rw[e,if_neg (aes h)]
theorem ao8{c:aI}{v:Int}(h:¬(3<=v/\c.text≠[])):gJ c v=qR c:=by
 unfold gJ;by_cases e:3<=v
 ·rw[bg e,dR];unfold rZ pM;rw[if_pos (by by_cases e2:c.text=[];exact e2;exact au ⟨e,e2⟩ h),pG]
 ·rw[aX e];rfl
theorem ao7{c:aI}{v:Int}(h:3<=v)(e:c.text≠[]):gJ c v=qR c++[⟨8,2,0,c.text⟩]:=by
 unfold gJ rZ pM;rw[bg h,dR,if_neg e]
theorem V5(b:List UInt8):(iU b).size=b.length:=by simp[iU,ByteArray.size]
theorem afg{c:aI}{v:Int}(h:(bif decide (0<((iU c.text).size:Int)) then decide (3<=v) else false)=true):3<=v/\c.text≠[]:=by
 rw[V5]at h;by_cases e:0<(c.text.length:Int)
 ·rw[bg e]at h;exact⟨aS h,λe2=>by rw[e2]at e;exact au e qD⟩
 ·rw[aX e]at h;cases h
theorem aq6{c:aI}{v:Int}(h:(bif decide (0<((iU c.text).size:Int)) then decide (3<=v) else false)=false):¬(3<=v/\c.text≠[]):=λ⟨h1,h2⟩=>by
 rw[V5,bg h1,bg (show 0<(c.text.length:Int) by have:=List.length_pos_iff.2 h2;omega)]at h;cases h
theorem afI{c:aI}{v:Int}(hc:fZ c v)(h:decide (0<(c.chunks.length:Int))=true):kG c.chunks=true:=by
 have h9:=aS h;rcases hc.fit.chunks with h8|h8
 ·exact h8.2
 ·rw[h8.2]at h9;exact au h9 qD
theorem asa{c:aI}(h:decide (0<(c.chunks.length:Int))=false):c.chunks=[]:=uw (by have:=bJ h;omega)
theorem ahG(c:aI)(v:Int)(hc:fZ c v):aQ 128 [jI c,iV v] (.d (iW (gJ c v))):=by
 have hn:=hc.num;have hl6:=(BK c).2.2.2.2.2.1;have hl7:=(BK c).2.2.2.2.2.2.1;have hsz:(iU c.text).size=c.text.length:=(by simp[iU,ByteArray.size]);refine asz Tryz.func128 λX=>?_
 (repeat' (first|(have e6:yP c i=vZ c:=(by rw[show i=6 from (by have h9:=bJ (aj:decide ((i:Int)<(6:Int))=false);omega)];rfl);rw[e6];refine T.cut (x:=.seq (.region 8 _ _) _) ⟨77,[(1,iV v),(2,.ptr 0 0),(5,.row 1 (qR c).length)],⟨[(0,.blk 8 (λk=>.d (kY c k))),(1,dw 163 4 jW .z (qR c))],2⟩⟩ ?_ ?_)|refine T.cut (x:=.seq (.region 11 _ _) _) ⟨77,[(1,iV v),(2,.ptr 0 0),(5,.row 1 (gJ c v).length)],⟨[(0,.blk 8 (λk=>.d (kY c k))),(1,dw 163 4 jW .z (gJ c v))],2⟩⟩ ?_ ?_|refine asI (c:=.seq (.seq (.region 4 _ _) _) _) 6 (λi (a:Unit)=>⟨77,[(1,iV v),(2,.ptr 0 0),(5,.row 1 (yP c i).length),(6,.row 2 6),(7,iV i)],⟨[(0,.blk 8 (λk=>.d (kY c k))),(1,dw 163 4 jW .z (yP c i)),(2,.row 3 1 6 (λj _=>iV ((wJ c).getD j 0)))],3⟩⟩) (λ_ _=>True) () ?_ True.intro (λi a hi hp=>?_)|refine oz ?_|refine asA (aaG c.chunks (afI hc aj)) ?_|refine aU () ⟨?_,tv,?_⟩|refine ai.mk (λh=>?_) (λh=>?_)|refine ag.a ?_|refine atj (C:=jW) (z:=.z) (L:=gJ c v) rfl rfl rfl fr|refine ag.mk ?_ ?_))<;>try exact aB
 all_goals (try(refine aV.mk rfl qN qN ?_ ?_ <;> repeat' (first|exact tv|exact qV|exact qW|refine vq (gz (V.row _) ?_) qN|refine an ⟨nb rfl,asE rfl (λk hk=>asB ?_)⟩ ?_|refine an ⟨nb rfl,af.row ?_ (λj hj k hk=>asB ?_)⟩ ?_|refine an ?_ ?_)))
 all_goals first|exact rfl|exact cm qV|exact au hj nz|(obtain rfl:k=0:=Nat.lt_one_iff.1 hk;rcases j with _|_|_|_|_|_|j;exact cm qV;exact cm qV;exact cm qV;exact cm qV;exact cm qV;exact cm qV;omega)|(have h9:i<6:=(by have h9:=aS (aj:decide ((i:Int)<(6:Int))=true);omega);have hv:=aiB hn i;have hl:=ahS c i;first|omega|(simp only[dQ,jD];omega)|(rw[amj (show(wJ c).getD i 0=0 from XH h)];first|done|exact cm qV)|(rw[ami (show ¬(wJ c).getD i 0=0 from aev h)];first|(rw[bW];rfl)|(have hk:k<4:=hk;refine cm (oq rfl hj fr (λj hj=>?_));obtain rfl:j=0:=Nat.lt_one_iff.1 hj;rcases k with _|_|_|_|k;exact qV;exact qV;exact vq (gz (V.int .u64) (show(wJ c).getD i 0=(((wJ c).getD i 0).toNat:Int) by omega)) tv;exact asQ rfl;omega)))|(rw[aqP (asa h)];first|done|exact cm qV)|(rw[aqO (afI hc h)];first|(rw[bW];rfl)|(have hk:k<4:=hk;refine cm (oq rfl hj fr (λj hj=>?_));obtain rfl:j=0:=Nat.lt_one_iff.1 hj;rcases k with _|_|_|_|k;exact qV;exact qV;exact qV;exact qV;omega))|(rw[ao8 (aq6 h)];first|done|exact cm qV)|(rw[ao7 (afg h).1 (afg h).2];first|(rw[bW];rfl)|(have hk:k<4:=hk;refine cm (oq rfl hj fr (λj hj=>?_));obtain rfl:j=0:=Nat.lt_one_iff.1 hj;rcases k with _|_|_|_|k;exact qV;exact qV;exact qV;exact aeF c.text;omega))|(have:=hn.text;(omega))
theorem fZ.at3{c:aI}{v:Int}(h:fZ c v):fZ c 3:=⟨h.kz,by have:=h.le;have:=h.v3;omega,by decide,h.fits,h.chunks,h.text⟩
theorem al0(c:aI)(v:Int)(hc:fZ c v):aQ 85 [jI c,.d (iW []),iV v] (bQ [.d (dB (gU c)),iV 0]):=by
 refine asz Tryz.func85 λX=>?_
 (repeat' (first|refine oz ?_|refine asI 0 (λi (a:Unit)=>⟨45,[(1,.d (iW [])),(2,iV v),(3,.ptr 0 0),(9,iV i)],⟨[(0,.blk 8 (λk=>.d (kY c k)))],1⟩⟩) (λ_ _=>True) () ?_ True.intro (λi a hi hp=>?_)|refine ai.mk (λh=>au (aS h) (by have h9:i=0:=Nat.le_zero.1 hi;subst h9;decide)) (λh=>?_)|refine asA (yL v 1 3) ?_|refine ai.mk (λh=>au ((show(!dN v 1 3)=false by rw[show dN v 1 3=true from bg ⟨hc.v1,hc.v3⟩];rfl).symm.trans h) (by decide)) (λh=>?_)|refine asA (agJ c v hc.kz hc.le hc.chunks) ?_|refine asA (al4 c v hc.at3 hc.v1 hc.v3) ?_|refine ai.mk (λh=>au ((show(!decide (qJ c v=0))=false by rw[show qJ c v=0 from hc.may];rfl).symm.trans h) (by decide)) (λh=>?_)|refine asA (ahG c v hc) ?_|refine asA (ai0 (gJ c v) (GH hc)) ?_|refine asL (λh=>?_)|refine ag.a ?_|refine asM rfl ⟨vq (gz (λl=>V.d (dB l)) (XC hc)) tv,VW.refl tv,tv⟩))<;>try exact aB
 all_goals (try(refine aV.mk rfl qN qN ?_ ?_ <;> repeat' (first|exact tv|exact qV|exact qW|refine an ⟨nb rfl,asE rfl (λk hk=>asB ?_)⟩ ?_|refine an ?_ ?_)))
 all_goals (exact cm qV)
theorem agD{b:List UInt8}(h:∃ r,kG r=true/\b=iP r):aQ 84 [.d (dB b)] (bQ [.d (iH (xO b)),iV 0]):=by
 obtain⟨r,h1,rfl⟩:=h;rw[PT (EI h1)];exact agC r h1
def Ko(a:aI):Nat->Int
 |1=>a.kind|2=>a.bf|3=>a.seq|4=>a.set|5=>a.id|6=>a.n|_=>0
def Cj(a:aI):Nat->D
 |6=>iH a.chunks|7=>Ho a.text|_=>iD 0
structure MV (f:aY):Prop where
 ok:SV f
 n:f.num<=6->f.n<=1048576
 num:1<=f.num/\f.num<=8
theorem Iw(a n:Int)(hn:0<=n/\n<=1048576)(h1:1<=a)(ha:a<=6):∀ f∈kR a n,MV f:=by
 intro f hf;refine⟨Gu a n ⟨hn.1,by omega⟩ ha f hf,?_,?_⟩;all_goals
  unfold kR at hf;split at hf
  ·cases hf
  ·obtain rfl:=List.mem_singleton.1 hf;first|exact⟨h1,by show a<=8;omega⟩|(intro _;show n.toNat<=_;omega)
theorem anE{c:aI}{v:Int}(h:fZ c v):∀ f∈rZ c,MV f:=by
 have hn:=h.fit;have hk:=CU h.kz;have h7:∀(k:Int) (b:List UInt8),7<=k->k<=8->∀ f∈pM k b,f.num=k:=λk b h1 h2 f hf=>by
  unfold pM at hf;split at hf
  ·cases hf
  ·obtain rfl:=List.mem_singleton.1 hf;rfl
 intro f hf;have ho:=aet h f hf;simp only[rZ,qR,vZ,zn,zq,zt,zx,zy,List.mem_append]at hf;rcases hf with ((((((((hf|hf)|hf)|hf)|hf)|hf)|hf)|hf)|hf)
 ·cases hf
 ·exact Iw _ _ ⟨by omega,by omega⟩ qD qD f hf
 ·exact Iw _ _ ⟨hn.bf.1,by have:=hn.bf.2.1;omega⟩ qD qD f hf
 ·exact Iw _ _ ⟨hn.seq.1,hn.seq.2.1⟩ qD qD f hf
 ·exact Iw _ _ ⟨hn.set.1,by have:=hn.set.2.1;omega⟩ qD qD f hf
 ·exact Iw _ _ ⟨hn.id.1,hn.id.2⟩ qD qD f hf
 ·exact Iw _ _ ⟨hn.n.1,by have:=hn.n.2.1;omega⟩ qD qD f hf
 ·have e:=h7 7 _ qD qD f hf;exact⟨ho,λh=>by omega,by omega⟩
 ·have e:=h7 8 _ qD qD f hf;exact⟨ho,λh=>by omega,by omega⟩
end Go.Proofs.YtnibdnahojjcgaaGreat
