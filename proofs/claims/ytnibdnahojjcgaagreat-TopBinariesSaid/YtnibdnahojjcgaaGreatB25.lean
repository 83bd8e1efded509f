/- A part of the proof. -/
import Derived.Test.YtnibdnahojjcgaaGreatB19
import Derived.Test.YtnibdnahojjcgaaGreatB20
import Derived.Test.YtnibdnahojjcgaaGreatB21
import Derived.Test.YtnibdnahojjcgaaGreatB22
namespace Go.Proofs.YtnibdnahojjcgaaGreat
set_option maxRecDepth 100000
set_option maxHeartbeats 16000000
set_option linter.unusedVariables false
set_option linter.unusedSimpArgs false
open Go.RowKit
theorem aqK{jS:List kD}{l:List aY}{i j:Nat}{n:Int}(h:xw (l.getD i .z) (jS.getD j .z) n=true\/(jS.getD j .z).num≠(l.getD i .z).num)(hh:(bif decide ((jS.getD j .z).num=(l.getD i .z).num) then !xw (l.getD i .z) (jS.getD j .z) n else false)=true):False:=by
 by_cases e:(jS.getD j .z).num=(l.getD i .z).num
 ·rw[bg e,dR]at hh;rcases h with h|h
  ·rw[h]at hh;cases hh
  ·exact h e
 ·rw[aX e,di]at hh;cases hh
theorem anB{a:Bool}{n:Int}(h:a=true->n≠0)(hh:(bif a then decide (n=0) else false)=true):False:=by
 cases a
 ·cases hh
 ·exact h rfl (aS hh)
def FU(es:List (Int×V))(f:aY):List (Int×V):=(f.num,V.i (pU (dU es f.num)+1))::es
def tm(l:List aY):List (Int×V):=l.foldl FU []
def cnt(l:List aY)(k:Int):Int:=pU (dU (tm l) k)
theorem acK{l:List aY}{i:Nat}(h:i<l.length):tm (l.take (i+1))=((l.getD i .z).num,V.i (pU (dU (tm (l.take i)) (l.getD i .z).num)+1))::tm (l.take i):=Io FU [] aY.z h
def NQ(n:Nat)(es:List (Int×V)):Prop:=∀ k,(∀ v,dU es k=some v->∃ n,v=V.i n)/\0<=pU (dU es k)/\pU (dU es k)<=n
theorem aaS{n:Nat}{es:List (Int×V)}(h:NQ n es)(f:aY):NQ (n+1) (FU es f):=λk=>by
 have e:dU (FU es f) k=if f.num=k then some (V.i (pU (dU es f.num)+1)) else dU es k:=by
  show(bif decide (f.num=k) then some (V.i (pU (dU es f.num)+1)) else dU es k)=_;by_cases e:f.num=k <;> simp[e]
 rw[e];have h1:=(h f.num).2;have h2:=h k;split
 ·exact⟨λv hv=>⟨_,(fG hv).symm⟩,by show 0<=pU (dU es f.num)+1/\pU (dU es f.num)+1<=((n+1:Nat):Int);omega⟩
 ·exact⟨h2.1,by omega,by omega⟩
theorem aeD:∀(l:List aY) (n:Nat) (es:List (Int×V)),NQ n es->NQ (n+l.length) (l.foldl FU es)
 |[],n,es,h=>h
 |f::r,n,es,h=>by
  have:=aeD r (n+1) (FU es f) (aaS h f);rwa [show n+1+r.length=n+(f::r).length by simp;omega]at this
theorem V7(l:List aY):NQ l.length (tm l):=by
 have:=aeD l 0 [] (λk=>⟨(λv h=>by cases h),eF _,eF _⟩);rwa [jm]at this
theorem W9(l:List aY)(k:Int)(v:V)(h:dU (tm l) k=some v):∃ n,v=V.i n:=(V7 l k).1 v h
theorem acL(l:List aY)(f:aY)(k:Int)(v:V)(h:dU ((f.num,V.i (pU (dU (tm l) f.num)+1))::tm l) k=some v):∃ n,v=V.i n:=(aaS (V7 l) f k).1 v h
structure Hz (jS:List kD) (l:List aY):Prop where
 ok:oV l
 ne:0<jS.length
 len:jS.length<=10
 Zd:∀ i,i<l.length->∀ j,j<jS.length->(jS.getD j .z).num=(l.getD i .z).num->xw (l.getD i .z) (jS.getD j .z) (cnt (l.take (i+1)) (l.getD i .z).num)=true
 kz:∀ j,j<jS.length->(jS.getD j .z).kz=true->cnt l (jS.getD j .z).num≠0
theorem QM(kind version:Int)(hk:kind=1\/kind=6\/kind=7)(l:List aY)(hc:Hz (eG kind version) l):aQ 154 [iV kind,iV version,.d (iW l)] (iV 0):=by
 have hne:=hc.ne;have hsl:=hc.len;have hln:=hc.ok.len;refine asz Tryz.func154 λX=>?_
 (repeat' (first|refine oz ?_|refine asI (c:=.seq (.region 13 _ _) _) (eG kind version).length (λj (b:Unit)=>⟨78,[(7,.d (wK (eG kind version))),(9,.mp 0),(11,.ptr 1 0),(28,.d (iW l)),(29,iV l.length),(30,iV i),(39,.d (wK (eG kind version))),(40,iV (eG kind version).length),(41,iV j)],⟨[(0,.map (((l.getD i .z).num,V.i (pU (dU (tm (l.take i)) (l.getD i .z).num)+1))::tm (l.take i))),(1,.blk 4 (λk=>.d (jW (l.getD i .z) k)))],2⟩⟩) (λ_ _=>True) () ?_ True.intro (λj b hj hq=>?_)|refine asI (c:=.seq (.region 9 _ _) _) l.length (λi (a:Unit)=>⟨78,[(7,.d (wK (eG kind version))),(9,.mp 0),(28,.d (iW l)),(29,iV l.length),(30,iV i)],⟨[(0,.map (tm (l.take i)))],1⟩⟩) (λ_ _=>True) () ?_ True.intro (λi a hi hp=>?_)|refine asI (c:=.seq (.region 20 _ _) _) (eG kind version).length (λj (b:Unit)=>⟨78,[(9,.mp 0),(62,.d (wK (eG kind version))),(63,iV (eG kind version).length),(64,iV j)],⟨[(0,.map (tm (l.take i)))],1⟩⟩) (λ_ _=>True) () ?_ True.intro (λj b hj hq=>?_)|refine ai.n (λh=>?_)|refine asA (acP kind version hk) ?_|refine asA (ad8 l hc.ok) ?_|refine aU _ (ed (λht=>ae.tell (aqf (l.getD i .z) ((eG kind version).getD j .z) (pU (dU (((l.getD i .z).num,V.i (pU (dU (tm (l.take i)) (l.getD i .z).num)+1))::tm (l.take i)) (l.getD i .z).num))) vw ⟨rfl,rfl⟩) ?_)|refine aU () ⟨?_,tv,?_⟩|refine ai.n (λh=>?_)|refine ai.mk (λh=>?_) (λh=>?_)|refine ag.a ?_|refine Fin.tell (vq (gz iV ?_) tv)|refine ag.mk ?_ ?_))<;>try exact aB
 all_goals (try(refine aV.mk rfl qN qN ?_ ?_ <;> repeat' (first|exact tv|exact qV|exact qW|refine an ⟨nb rfl,af.blk ?_⟩ ?_|refine an ⟨nb rfl,auo rfl ?_⟩ ?_|refine an ⟨nb rfl,auo ?_ ?_⟩ ?_|exact W9 _|exact acL _ _|refine an ?_ ?_)))
 all_goals first|(exact(acK om).symm)|(have h9:i<l.length:=om;have h8:j<(eG kind version).length:=om;exfalso;refine aqK (jS:=eG kind version) (l:=l) (i:=i) (j:=j) ?_ h;by_cases e:((eG kind version).getD j .z).num=(l.getD i .z).num;(· left;have q:=hc.Zd i h9 j h8 e;unfold cnt at q;rw[acK h9]at q;exact q);exact .inr e)|(have h8:j<(eG kind version).length:=om;have e:l.take i=l:=lW om;exfalso;refine anB (λhn=>?_) h;have q:=hc.kz j h8 hn;unfold cnt at q;rw[e];exact q)|((try simp only[fC,fQ,mr,nO]at *);(omega))|exact W9 _ _|(exact λ_=>W9 _ _)|(exact λ_=>acL _ _ _)|(have q:=(V7 (l.take i) (l.getD i .z).num).2;have q2:(l.take i).length<=l.length:=(by rw[dP];omega);simp only[dQ];(simp at *;omega))
def Gf(l:List aY):Prop:=l.Pairwise (λa b=>a.num<b.num)
theorem aep(k:Int):∀(l:List aY) (es:List (Int×V)),pU (dU (l.foldl FU es) k)=pU (dU es k)+(l.countP (λf=>decide (f.num=k)):Nat)
 |[],es=>by simp
 |f::r,es=>by
  rw[List.foldl_cons,aep k r,List.countP_cons];have e:pU (dU (FU es f) k)=if f.num=k then pU (dU es k)+1 else pU (dU es k):=by
   show pU (bif decide (f.num=k) then some (V.i (pU (dU es f.num)+1)) else dU es k)=_;by_cases e:f.num=k
   ·subst e;simp[pU]
   ·simp[e]
  rw[e];by_cases h:f.num=k <;> simp[h] <;> omega
theorem XB(l:List aY)(k:Int):cnt l k=(l.countP (λf=>decide (f.num=k)):Nat):=by
 have:=aep k l [];unfold cnt tm;rw[this];show(0:Int)+_=_;omega
theorem aao{l:List aY}(h:Gf l)(k:Int):l.countP (λf=>decide (f.num=k))<=1:=by
 induction l with
 |nil=>simp
 |cons f r ih=>
  have h2:=List.pairwise_cons.1 h;rw[List.countP_cons];have:=ih h2.2;split
  ·rename_i e
   have e:f.num=k:=by simpa using e
   have h0:r.countP (λf=>decide (f.num=k))=0:=by
    rw[List.countP_eq_zero];intro a ha hk;have hk:a.num=k:=by simpa using hk
    have:=h2.1 a ha;omega
   omega
  ·omega
theorem WS{l:List aY}(h:Gf l){i:Nat}(hi:i<l.length):cnt (l.take (i+1)) (l.getD i .z).num=1:=by
 rw[XB];have h1:Gf (l.take (i+1)):=List.Pairwise.sublist (List.take_sublist _ _) h;have h2:=aao h1 (l.getD i .z).num;have h3:0<(l.take (i+1)).countP (λf=>decide (f.num=(l.getD i .z).num)):=by
  rw[List.countP_pos_iff];refine⟨l.getD i .z,?_,by simp⟩;rw[lX .z hi];simp
 omega
theorem WT{l:List aY}{f:aY}(h:f∈l){k:Int}(hk:f.num=k):cnt l k≠0:=by
 rw[XB];have h3:0<l.countP (λf=>decide (f.num=k)):=by
  rw[List.countP_pos_iff];exact⟨f,h,by simpa using hk⟩
 omega
theorem iT{α:Type}{l:List α}{z:α}{i:Nat}(h:i<l.length):l.getD i z∈l:=by
 rw[bC,dW h];exact List.getElem_mem h
theorem aa4{l:List aY}(h:Gf l){i:Nat}(h0:0<i)(hi:i<l.length):wG (l.getD ((i:Int)-1).toNat .z) (l.getD i .z)=true:=by
 obtain⟨j,rfl⟩:∃ j,i=j+1:=⟨i-1,by omega⟩;rw[show((((j+1:Nat):Int))-1).toNat=j by omega];have:=List.pairwise_iff_getElem.1 h j (j+1) qO hi qO;rw[bC,bC,dW hi,dW (show j<l.length by omega)];simp only[Option.getD_some];unfold wG;rw[if_neg qO];simpa using this
theorem aal{l:List aY}{B:Nat}(h:∀ f∈l,(iJ f).length<=B):(bF l).length<=l.length*B:=by
 induction l with
 |nil=>simp[bF]
 |cons f r ih=>
  have h1:=ih (λf hf=>h f (je _ hf));have h2:=h f jC;have e:bF (f::r)=iJ f++bF r:=rfl;rw[e,bW,ny,Nat.succ_mul];omega
def Nq(v:Int)(f:aY):Prop:=(f.aJ=0/\1<=f.num/\f.num<=6/\0<f.n/\f.n<=1000000000/\f.b=[])\/(f.aJ=2/\7<=f.num/\f.num<=8/\(f.num=8->3<=v)/\f.n=0/\f.b≠[]/\f.b.length<=1000)
structure vU (v k:Int) (l:List aY):Prop where
 Au:Gf l
 le:∀ f∈l,f.num<=k
 aK:∀ f∈l,Nq v f
theorem vU.num{v k n:Int}{l:List aY}(h:vU v k l)(hk:0<=k/\k<=5)(hn:0<=n/\n<=1000000000):vU v (k+1) (l++kR (k+1) n):=by
 unfold kR;split
 ·rw[pG];exact⟨h.Au,λf hf=>by have:=h.le f hf;omega,h.aK⟩
 ·refine⟨List.pairwise_append.2 ⟨h.Au,by simp,λa ha b hb=>?_⟩,λf hf=>?_,λf hf=>?_⟩
  ·obtain rfl:=List.mem_singleton.1 hb;have:=h.le a ha;show a.num<k+1;omega
  ·rcases List.mem_append.1 hf with hf|hf
   ·have:=h.le f hf;omega
   ·obtain rfl:=List.mem_singleton.1 hf;exact eF _
  ·rcases List.mem_append.1 hf with hf|hf
   ·exact h.aK f hf
   ·obtain rfl:=List.mem_singleton.1 hf;exact .inl ⟨rfl,by show 1<=k+1;omega,by show k+1<=6;omega,by show 0<n.toNat;omega,by show n.toNat<=_;omega,rfl⟩
theorem vU.byt{v k:Int}{b:List UInt8}{l:List aY}(h:vU v k l)(hk:k=6\/(k=7/\(b≠[]->3<=v)))(hb:b.length<=1000):vU v (k+1) (l++pM (k+1) b):=by
 unfold pM;split
 ·rw[pG];exact⟨h.Au,λf hf=>by have:=h.le f hf;omega,h.aK⟩
 ·rename_i hne
  refine⟨List.pairwise_append.2 ⟨h.Au,by simp,λa ha b hb=>?_⟩,λf hf=>?_,λf hf=>?_⟩
  ·obtain rfl:=List.mem_singleton.1 hb;have:=h.le a ha;show a.num<k+1;omega
  ·rcases List.mem_append.1 hf with hf|hf
   ·have:=h.le f hf;omega
   ·obtain rfl:=List.mem_singleton.1 hf;exact eF _
  ·rcases List.mem_append.1 hf with hf|hf
   ·exact h.aK f hf
   ·obtain rfl:=List.mem_singleton.1 hf;refine .inr ⟨rfl,by show 7<=k+1;omega,by show k+1<=8;omega,λe=>?_,rfl,hne,hb⟩;have e:k+1=8:=e;rcases hk with hk|hk
    ·omega
    ·exact hk.2 hne
structure fZ (c:aI) (v:Int):Prop where
 kz:lC c.kind≠0
 le:lC c.kind<=v
 v3:v<=3
 fits:wM c=true
 chunks:c.chunks.length<=100000
 text:c.text.length<=1000000
theorem CU{k:Int}(h:lC k≠0):1<=k/\k<=12:=by
 unfold lC at h;split at h
 ·omega
 ·split at h
  ·omega
  ·split at h
   ·omega
   ·exact au rfl h
structure Oe (c:aI):Prop where
 bf:0<=c.bf/\c.bf<=8/\(c.kind≠8->1<=c.bf)
 seq:0<=c.seq/\c.seq<=1048576/\(c.kind≠1->c.kind≠8->1<=c.seq)
 set:0<=c.set/\c.set<=8/\(c.kind=2\/c.kind=3\/c.kind=4->1<=c.set)
 id:0<=c.id/\c.id<=1048576
 n:0<=c.n/\c.n<=64/\(c.kind=8->2<=c.n/\c.n<=3)/\(c.kind=6->c.n<=8)
 chunks:(c.kind=3/\kG c.chunks=true)\/(c.kind≠3/\c.chunks=[])
 text:c.text.length<=16/\(c.kind≠11->c.text=[])
theorem WW{a b:Bool}:(bif a then b else false)=(a&&b):=by cases a <;> rfl
theorem Ql{c:aI}(h:J4 c=true):c.text=[]:=by
 unfold J4 at h;rw[show({ data:=#[] }:ByteArray)=iU [] from rfl,OW,OW]at h;simpa using h
theorem fZ.fit{c:aI}{v:Int}(h:fZ c v):Oe c:=by
 obtain⟨hk1,hk2⟩:=CU h.kz;have hf:=h.fits;have hsz:(iU c.text).size=c.text.length:=by simp[iU,ByteArray.size]
 have key:∀ lo hi ch tx,Ae c lo hi ch tx=true->(lo<=c.n/\c.n<=hi)/\ch=true/\tx=true/\sU c.bf 8 (!rV [8] c.kind)=true/\sU c.seq 1048576 (!rV [1,8] c.kind)=true/\sU c.set 8 (rV [2,3,4] c.kind)=true/\sU c.id 1048576 (rV [5,7,9,10,11] c.kind)=true:=by
  intro lo hi ch tx h;unfold Ae at h;simp only[WW,qc,dN,fC]at h;obtain⟨⟨⟨⟨⟨⟨h1,h2⟩,h3⟩,h4⟩,h5⟩,h6⟩,h7⟩:=h;exact⟨h1,h2,h3,h4,h5,h6,h7⟩
 have hw:∀ {n dK:Int} {b:Bool},sU n dK b=true->(b=true->1<=n/\n<=dK)/\(b=false->n=0):=by
  intro n dK b h;unfold sU at h;cases b
  ·exact⟨(λe=>by cases e),λ_=>jb h⟩
  ·exact⟨λ_=>jb h,λe=>by cases e⟩
 have all:∃ lo hi ch tx,Ae c lo hi ch tx=true/\(0<=lo/\hi<=64/\(c.kind=8->2<=lo/\hi<=3)/\(c.kind=6->hi<=8))/\(ch=true->(c.kind=3/\kG c.chunks=true)\/(c.kind≠3/\c.chunks=[]))/\(tx=true->c.text.length<=16/\(c.kind≠11->c.text=[])):=by
  have hK:∀ lo hi,yS c lo hi=true->∃ ch tx,Ae c lo hi ch tx=true/\(ch=true->(c.kind=3/\kG c.chunks=true)\/(c.kind≠3/\c.chunks=[]))/\(tx=true->c.text.length<=16/\(c.kind≠11->c.text=[])):=by
   intro lo hi h;unfold yS at h;by_cases e3:c.kind=3
   ·rw[bg e3,dR]at h;exact⟨_,_,h,λe=>.inl ⟨e3,e⟩,λe=>⟨by rw[Ql e];simp,λ_=>Ql e⟩⟩
   ·rw[aX e3,di]at h;have hch:decide ((c.chunks.length:Int)=0)=true->(c.kind=3/\kG c.chunks=true)\/(c.kind≠3/\c.chunks=[]):=λe=>.inr ⟨e3,uw (by have:=jb e;omega)⟩
    by_cases e11:c.kind=11
    ·rw[bg e11,dR]at h;exact⟨_,_,h,hch,λe=>⟨by have:=jb e;omega,λhn=>au e11 hn⟩⟩
    ·rw[aX e11,di]at h;exact⟨_,_,h,hch,λe=>⟨by rw[Ql e];simp,λ_=>Ql e⟩⟩
  unfold wM at hf;by_cases e12:(12:Int)=c.kind
  ·rw[bg e12,dR]at hf;obtain⟨ch,tx,h1,h2,h3⟩:=hK _ _ hf;exact⟨0,64,ch,tx,h1,⟨by omega,by omega,λe=>by omega,λe=>by omega⟩,h2,h3⟩
  ·rw[aX e12,di]at hf;by_cases e8:(8:Int)=c.kind
   ·rw[bg e8,dR]at hf;obtain⟨ch,tx,h1,h2,h3⟩:=hK _ _ hf;exact⟨2,3,ch,tx,h1,⟨by omega,by omega,λe=>by omega,λe=>by omega⟩,h2,h3⟩
   ·rw[aX e8,di]at hf;by_cases e6:(6:Int)=c.kind
    ·rw[bg e6,dR]at hf;obtain⟨ch,tx,h1,h2,h3⟩:=hK _ _ hf;exact⟨0,8,ch,tx,h1,⟨by omega,by omega,λe=>by omega,λe=>by omega⟩,h2,h3⟩
    ·rw[aX e6,di]at hf;obtain⟨ch,tx,h1,h2,h3⟩:=hK _ _ hf;exact⟨0,0,ch,tx,h1,⟨by omega,by omega,λe=>by omega,λe=>by omega⟩,h2,h3⟩
 obtain⟨lo,hi,ch,tx,h1,⟨a1,a2,a3,a4⟩,h2,h3⟩:=all;obtain⟨b1,b2,b3,b4,b5,b6,b7⟩:=key _ _ _ _ h1;have hs:∀ l:List Int,rV l c.kind=l.contains c.kind:=by
  intro l;unfold rV Tf;have:∀(l:List Int) (i:Nat),decide (0<=ji (λx=>decide (c.kind=x)) i l)=l.contains c.kind:=by
   intro l;induction l with
   |nil=>intro i;rfl
   |cons a r ih=>
    intro i;unfold ji;rw[List.contains_cons];by_cases e:c.kind=a
    ·simp[e]
    ·simp only[e,decide_false,di,ih];simp[e]
  exact this l 0
 rw[hs]at b4 b5 b6 b7;have w4:=hw b4;have w5:=hw b5;have w6:=hw b6;have w7:=hw b7;refine⟨?_,?_,?_,?_,⟨by omega,by omega,λe=>by have:=a3 e;omega,λe=>by have:=a4 e;omega⟩,h2 b2,h3 b3⟩
 ·by_cases e:c.kind=8
  ·have:=w4.2 (by simp[e]);omega
  ·have:=w4.1 (by simp[e]);omega
 ·by_cases e:c.kind=1\/c.kind=8
  ·have:=w5.2 (by rcases e with e|e <;> simp[e]);omega
  ·have:=w5.1 (by simp only[not_or]at e;simp[e.1,e.2]);omega
 ·by_cases e:c.kind=2\/c.kind=3\/c.kind=4
  ·have:=w6.1 (by rcases e with e|e|e <;> simp[e]);omega
  ·have:=w6.2 (by simp only[not_or]at e;simp[e.1,e.2.1,e.2.2]);omega
 ·rcases hb:[5,7,9,10,11].contains c.kind with _|_
  ·have:=w7.2 hb;omega
  ·have:=w7.1 hb;omega
def Jr(t:Nat->Int):List Int:=Cc (λn=>decide (0<t n.toNat))
def Su(l:List gX):Int:=(Jr (pJ l)).length
def MP(l:List gX)(ch:List Int):Int:=(Jr (qH (pJ l) ch)).length
def ui(l:List gX)(id:Int):List gX:=l.filter (λx=>!decide (x.id=id))
def GK(l:List gX)(id:Int):List Int:=Cc (λn=>bif decide (0<pJ l n.toNat) then decide (pJ (ui l id) n.toNat=0) else false)
theorem anY{l:List gX}(h:Dx l)(id:Int):Dx (ui l id):=by
 have hm:∀ x∈l,x.chunks.length<=1000:=λx hx=>by
  obtain⟨i,hi,rfl⟩:=List.getElem_of_mem hx;have:=h.ch i hi;rwa [bC,dW hi]at this
 refine⟨jV (List.length_filter_le _ _) h.len,λi hi=>hm _ ?_⟩;have:=iT (z:=gX.z) hi;exact(List.mem_filter.1 this).1
theorem acA{l:List gX}{id:Int}{i:Nat}(h:i<l.length):ui (l.take (i+1)) id=ui (l.take i) id++(if (l.getD i .z).id=id then [] else [l.getD i .z]):=by
 unfold ui;rw[lX .z h,List.filter_append];by_cases e:(l.getD i .z).id=id
 ·rw[if_pos e];simp only[List.filter_cons,List.filter_nil,e,decide_true,Bool.not_true];rfl
 ·rw[if_neg e];simp only[List.filter_cons,List.filter_nil,e,decide_false,Bool.not_false];rfl
theorem anX(l:List gX)(id:Int)(i:Nat):(ui (l.take i) id).length<=i:=by
 have h1:=List.length_filter_le (λx:gX=>!decide (x.id=id)) (l.take i);rw[dP]at h1;unfold ui;omega
theorem adO(t:Nat->Int):aQ 305 [afh t] (.d (iH (Jr t))):=by
 refine asz Tryz.func305 λX=>?_
 (repeat' (first|refine oz ?_|refine ate [0] (aiw t) rfl rfl rfl ⟨asJ vw,tv⟩ ⟨⟨_,rfl,asE rfl fv⟩,tv⟩ ⟨rfl,tv⟩ ?_|refine Fin.tell (VW.refl tv)))<;>try exact aB
theorem ag2(l:List gX)(hl:Dx l):aQ 278 [.d (jr l)] (iV (Su l)):=by
 refine asz Tryz.func278 λX=>?_
 (repeat' (first|refine oz ?_|refine asA (QI l hl) ?_|refine ae.tell (adO (pJ l)) ⟨VW.agg fv,tv⟩ ?_|refine Fin.tell (vq (gz iV ?_) tv)))<;>try exact aB
theorem Vo{g:Nat->V}{t:Nat->Int}{k:Nat}(hk:k<65):nU g 0 65 (λk=>iV (t k)) k=iV (t k):=by
 have:=aeB (g:=g) (h:=λk=>iV (t k)) hk;rwa [jm]at this
theorem adM(l:List gX)(ch:List Int)(hl:Dx l)(hc:ch.length<=1000):aQ 303 [.d (jr l),.d (iH ch)] (iV (MP l ch)):=by
 refine asz Tryz.func303 λX=>?_
 (repeat' (first|refine oz ?_|refine asA (QI l hl) ?_|refine asO [0] (aba (pJ l) ch (by omega) (λk hk=>by have:=aa9 hl l.length (bu _) k;rw[oJ]at this;have:=hl.len;omega)) rfl rfl rfl vw ⟨⟨_,rfl,asE rfl (λk hk=>vq ((gz (dO _) (Vo hk)).trans rfl) tv)⟩,tv⟩ ?_|refine ae.tell (adO (qH (pJ l) ch)) ⟨VW.agg (λk hk=>vq (gz (λj=>iV (qH (pJ l) ch j)) (jm k)) tv),tv⟩ ?_|refine ag.a ?_|refine Fin.tell (vq (gz iV ?_) tv)))<;>try exact aB
theorem UK(l:List gX)(id:Int)(hl:Dx l):aQ 309 [.d (jr l),iV id] (.d (jr (ui l id))):=by
 have hn:=hl.len;refine asz Tryz.func309 λX=>?_
 (repeat' (first|refine oz ?_|refine asW 5 71 (λj k=>.d (eX (([]:List gX).getD j .z) k)) rfl rfl qN (asI l.length (λi (a:List gX)=>⟨28,[(1,iV id),(5,.row 0 a.length),(8,.d (jr l)),(9,iV l.length),(10,iV i)],⟨[(0,dw 71 5 eX .z a)],1⟩⟩) (λi a=>a=ui (l.take i) id) [] ?_ ?_ (λi a hi hp=>?_))|refine asA (IP (l.getD i .z).chunks.length (λj _=>iD ((l.getD i .z).chunks.getD j 0)) (by have:=hl.ch i om;omega)) ?_|refine ai.mk (λh=>?_) (λh=>?_)|refine ag.a ?_|refine atj (C:=eX) (z:=.z) (L:=ui l id) rfl rfl ?_ ?_|refine ag.mk ?_ ?_))<;>try exact aB
 all_goals first|exact uN|(have e:a=ui l id:=(by have h9:=bJ h;rw[hp,lW (by omega)]);subst e;first|rfl|exact λj hj k hk=>rfl)|(have:=anX l id i;rw[<-hp]at this;(omega))|(have h9:i<l.length:=om;have hne:¬(l.getD i .z).id=id:=bJ (by simpa using h);refine aU (a++[l.getD i .z]) ⟨h9,(by rw[hp,acA h9,if_neg hne]),?_⟩;(refine aV.mk rfl qN qN ?_ ?_ <;> repeat' (first|exact tv|exact qV|refine vq (gz (V.row _) ?_) qN|refine an ⟨nb rfl,af.row ?_ (λj hj k hk=>asB ?_)⟩ ?_|refine an ?_ ?_));all_goals first|(refine cm (oq (C:=eX) (z:=.z) (b:=[l.getD i .z]) rfl (by simpa using hj) fr (λj hj=>?_));(obtain rfl:j=0:=(by simpa using hj);rcases k with _|_|_|_|_|k <;> first|exact qV|omega))|(simp;done);done)|(have h9:i<l.length:=om;have hne:(l.getD i .z).id=id:=aS (by simpa using h);refine aU a ⟨h9,(by rw[hp,acA h9,if_pos hne,pG]),?_⟩;(refine aV.mk rfl qN qN ?_ ?_ <;> repeat' (first|exact tv|exact qV|exact qW|refine an ⟨nb rfl,af.row ?_ (λj hj k hk=>asB ?_)⟩ ?_|refine an ?_ ?_));all_goals first|exact cm qV|exact rfl)
theorem ady(l:List gX)(id:Int)(hl:Dx l):aQ 308 [.d (jr l),iV id] (.d (iH (GK l id))):=by
 refine asz Tryz.func308 λX=>?_
 (repeat' (first|refine oz ?_|refine asA (QI l hl) ?_|refine asA (UK l id hl) ?_|refine asA (QI (ui l id) (anY hl id)) ?_|refine asO [0,1] (aix (pJ l) (pJ (ui l id))) rfl rfl rfl ⟨asJ vw,tv⟩ ⟨⟨_,rfl,asE rfl (λk hk=>vq ((gz (dO _) (Vo hk)).trans rfl) tv)⟩,⟨_,rfl,asE rfl (λk hk=>vq ((gz (dO _) (Vo hk)).trans rfl) tv)⟩,tv⟩ ?_|refine ag.a ?_|refine Fin.tell (VW.refl tv)))<;>try exact aB
def qJ(c:aI)(v:Int):Int:=bif (bif !dN v 1 3 then true else decide (lC c.kind=0)) then 1 else bif decide (v<lC c.kind) then 10 else bif !wM c then 1 else 0
theorem Q4(c:aI)(v:Int)(hc:c.chunks.length<=100000):aQ 97 [jI c,iV v] (iV (qJ c v)):=by
 refine asz Tryz.func97 λX=>?_
 (repeat' (first|refine oz ?_|refine asA (Xp c.kind) ?_|refine asA (Vm v) ?_|refine asA (aoX c hc) ?_|refine ai.mk (λh=>?_) (λh=>?_)|refine ag.a ?_|refine Fin.tell (vq (gz iV ?_) tv)))<;>try exact aB
 all_goals first|exact(dF h).symm|exact((bz ‹_›).trans (dF h)).symm|(rename_i h0 h1;exact((bz h0).trans ((bz h1).trans (dF h))).symm)|(rename_i h0 h1;exact((bz h0).trans ((bz h1).trans (bz h))).symm)
theorem aib(c:aI)(v:Int)(h0:lC c.kind≠0)(h1:lC c.kind<=v):aQ 192 [jI c,iV v] (.b false):=by
 have hk:=CU h0;refine asz Tryz.func192 λX=>?_
 (repeat' (first|refine oz ?_|refine asA (Xp c.kind) ?_|refine ai.mk (λh=>?_) (λh2=>au h2 (by rw[aX (show ¬c.kind<1 by omega),aX (show ¬99<c.kind by omega),aX h0,bg h1];decide))|refine ag.a ?_|refine Fin.tell (vq (gz V.b ?_) tv)))<;>try exact aB
theorem ab6{α:Type}{p:α->Bool}:∀(l:List α) (i:Nat),ji p i l = -1\/((i:Int)<=ji p i l/\ji p i l<i+l.length)
 |[],i=>.inl rfl
 |x::r,i=>by
  unfold ji;cases p x
  ·have:=ab6 (p:=p) r (i+1);rw[ny,di];omega
  ·rw[ny,dR];omega
theorem KX{α:Type}(p:α->Bool)(l:List α):ji p 0 l = -1\/(0<=ji p 0 l/\ji p 0 l<l.length):=by
 have:=ab6 (p:=p) l 0;omega
def opAt(s:aZ)(v:Int):Int:=ji (λx=>decide (x.set=v)) 0 s.opens
def jo(s:aZ)(c:aI):Int:=bif (bif decide (0<=opAt s c.set) then !decide ((s.opens.getD (opAt s c.set).toNat .z).bf=c.bf) else false) then -1 else opAt s c.set
def ahead{α:Type}(p:α->Bool):List α->Nat
 |[]=>0
 |x::r=>bif p x then ahead p r+1 else 0
theorem VZ{α:Type}(p:α->Bool):∀ l:List α,ahead p l<=l.length
 |[]=>bu 0
 |x::r=>by
  unfold ahead;cases p x
  ·exact cu _
  ·exact Nat.succ_le_succ (VZ p r)
theorem Px{α:Type}(z:α){p:α->Bool}{l:List α}{i:Nat}(h:i<l.length):ahead p (l.drop i)=bif p (l.getD i z) then ahead p (l.drop (i+1))+1 else 0:=by
 rw[wz z h];rfl
def rM{α:Type}(l:List α)(p:Nat)(y:α):List α:=l.take p++y::l.drop p
theorem aaU{α:Type}{l:List α}{p:Nat}{y:α}(h:p<=l.length):(rM l p y).length=l.length+1:=by
 unfold rM;rw[bW,dP,ny,fE];omega
def Jh(s:aZ)(v:Int):Nat:=ahead (λx=>decide (x.set<v)) s.opens
def MJ(s:aZ)(c:aI):aZ×eY:=bif decide (0<=opAt s c.set) then (s,⟨16,(s.opens.getD (opAt s c.set).toNat .z).bf⟩) else ({ s with opens:=rM s.opens (Jh s c.set) ⟨c.set,c.bf⟩ },.z)
def Df(s:aZ)(c:aI):aZ×eY:=
 bif decide (jo s c<0) then (s,⟨15,0⟩)
 else bif (bif decide (16<=(s.ay.length:Int)) then true else decide (1048576<=s.next)) then (s,⟨20,0⟩)
 else bif (bif !decide (s.l7=0) then decide (s.l7<MP s.ay c.chunks) else false) then (s,⟨19,0⟩)
 else ({ s with next:=s.next+1,opens:=s.opens.eraseIdx (jo s c).toNat,ay:=s.ay++[⟨s.next,c.set,c.chunks,false,[]⟩] },⟨0,s.next⟩)
def ML(s:aZ)(c:aI):aZ×eY:=bif decide (jo s c<0) then (s,⟨15,0⟩) else ({ s with opens:=s.opens.eraseIdx (jo s c).toNat },.z)
def Xk(s:aZ)(p:Nat):aZ×eY:=
 bif (s.ay.getD p .z).held then (s,⟨17,0⟩)
 else bif RQ s p then (s,⟨18,0⟩)
 else ({ s with ay:=ui s.ay (s.ay.getD p .z).id },⟨0,(GK s.ay (s.ay.getD p .z).id).length⟩)
def eH(s:aZ)(v:Int):Int:=ji (λx=>decide (x.id=v)) 0 s.ay
def Dt(s:aZ)(c:aI)(f:Nat->aZ×eY):aZ×eY:=bif decide (eH s c.id<0) then (s,⟨15,0⟩) else f (eH s c.id).toNat
def nD(s:aZ)(p:Nat)(f:gX->gX):aZ:={ s with ay:=s.ay.set p (f (s.ay.getD p .z)) }
def Si(b:Bool)(s:aZ)(p:Nat):aZ×eY:=bif decide ((s.ay.getD p .z).held=b) then (s,.z) else (nD s p (λx=>{ x with held:=b }),⟨0,1⟩)
def oC(s:aZ)(c:aI):Option (aZ×eY):=
 bif decide (c.kind=2) then some (MJ s c)
 else bif decide (c.kind=3) then some (Df s c)
 else bif decide (c.kind=4) then some (ML s c)
 else bif decide (c.kind=6) then some ({ s with keep:=c.n },.z)
 else bif decide (c.kind=12) then some ({ s with l7:=c.n },⟨0,Su s.ay⟩)
 else bif decide (c.kind=5) then some (Dt s c (Xk s))
 else bif decide (c.kind=7) then some (Dt s c λp=>(s,⟨0,(s.ay.getD p .z).chunks.length⟩))
 else bif decide (c.kind=9) then some (Dt s c (Si true s))
 else bif decide (c.kind=10) then some (Dt s c (Si false s))
 else bif decide (c.kind=11) then some (Dt s c λp=>(nD s p (λx=>{ x with tag:=c.text }),.z))
 else none
def jw(s:aZ)(c:aI):Int:=bif !decide (JR s s.version=0) then 1 else qJ c s.version
def lT(s:aZ)(c:aI):aZ×eY:=bif !decide (jw s c=0) then (s,⟨jw s c,0⟩) else match oC s c with|none=>(s,⟨1,0⟩)|some r=>r
def jT(s:aZ)(v:Int):Int:=ji (λx=>decide (x.bf=v)) 0 s.aN
def GM(s:aZ)(c:aI):aZ×eY:=
 bif decide (jT s c.bf<0) then (s,⟨11,0⟩)
 else bif decide (c.seq=(s.aN.getD (jT s c.bf).toNat .z).seq) then (s,(s.aN.getD (jT s c.bf).toNat .z).last)
 else bif decide (c.seq<(s.aN.getD (jT s c.bf).toNat .z).seq) then (s,⟨13,0⟩)
 else bif decide ((s.aN.getD (jT s c.bf).toNat .z).seq+1<c.seq) then (s,⟨14,0⟩)
 else ({ (lT s c).1 with aN:=(lT s c).1.aN.set (jT s c.bf).toNat ⟨((lT s c).1.aN.getD (jT s c.bf).toNat .z).bf,c.seq,(lT s c).2⟩ },(lT s c).2)
def pW(s:aZ)(c:aI):aZ×eY:=
 bif !decide (jw s c=0) then (s,⟨jw s c,0⟩)
 else bif decide (c.kind=8) then (bif !decide (c.n=s.version+1) then (s,⟨1,0⟩) else ({ s with version:=c.n },⟨0,c.n⟩))
 else bif decide (c.kind=1) then (bif decide (0<=jT s c.bf) then (s,⟨12,0⟩) else ({ s with aN:=rM s.aN (ahead (λx=>decide (x.bf<c.bf)) s.aN) ⟨c.bf,0,.z⟩ },.z))
 else GM s c
theorem ac8(s:aZ)(v:Int):opAt s v = -1\/(0<=opAt s v/\opAt s v<s.opens.length):=KX _ _
theorem acQ(s:aZ)(v:Int):eH s v = -1\/(0<=eH s v/\eH s v<s.ay.length):=KX _ _
theorem acm(s:aZ)(v:Int):jT s v = -1\/(0<=jT s v/\jT s v<s.aN.length):=KX _ _
theorem U4(s:aZ)(c:aI):jo s c = -1\/(0<=jo s c/\jo s c<s.opens.length):=by
 unfold jo;cases (bif decide (0<=opAt s c.set) then !decide ((s.opens.getD (opAt s c.set).toNat .z).bf=c.bf) else false)
 ·exact ac8 s c.set
 ·exact .inl rfl
structure mi (s:aZ):Prop where
 fit:EN s
 may:Yo s
 next : -1000000000<=s.next/\s.next<=1000000000
 oU : -1000000000<=s.version/\s.version<=1000000000
abbrev Fe(s:aZ):ST:=⟨[(0,.blk 7 (lq s 1 2 3)),(1,dw 54 4 gW .z s.aN),(2,dw 97 2 dY .z s.opens),(3,dw 71 5 eX .z s.ay)],4⟩
theorem yN(s:aZ)(c:aI)(hs:mi s)(hc:c.chunks.length<=100000):aQ 238 [jk s,jI c] (iV (jw s c)):=by
 refine asz Tryz.func238 λX=>?_
 (repeat' (first|refine oz ?_|refine asA (alC s s.version hs.may) ?_|refine asA (Q4 c s.version hc) ?_|refine ai.mk (λh=>?_) (λh=>?_)|refine ag.a ?_|refine Fin.tell (vq (gz iV ?_) tv)))<;>try exact aB
 all_goals (unfold jw;first|exact(dF h).symm|exact(bz h).symm)
theorem asU(e:Int):aQ 239 [iV e] (iQ ⟨e,0⟩):=by
 refine asz Tryz.func239 λX=>?_
 (repeat' (first|refine oz ?_|refine ag.a ?_|refine Fin.tell (asK ?_)))<;>try exact aB
 all_goals (repeat' (first|exact tv|exact qV|refine an ?_ ?_))
theorem abB(s:aZ)(c:aI)(hs:mi s):ae 302 [.ptr 0 0,jI c] (Fe s) (λrv rt=>rv=(iV (jo s c))/\rt=(Fe s)):=by
 have hb:=KX (λx:uo=>decide (x.set=c.set)) s.opens;refine asz Tryz.func302 λX=>?_
 (repeat' (first|refine oz ?_|refine asD 1 [5] [o0,o0,o0,o0,o0,o1,o3] ?_|refine asD 2 [] [o0,o0,o0,o0,o0,o0,o0,o0,o0,o0,o0,o0,o0,o0,o0] ?_|refine mc ?_ ?_|refine atE (O3 s c.set hs.may.l2) tv bw ?_|refine ai.mk (λh=>?_) (λh=>?_)|refine asC qN qN (vq (gz iV ?_) tv) (by repeat' (first|exact tv|refine an ⟨nb rfl,af.blk ?_⟩ ?_|refine an ⟨nb rfl,af.row rfl fv⟩ ?_|exact qV|exact qW|refine an ?_ ?_))))<;>(try(refine dh.mk ?_;repeat' (first|exact tv|exact rfl|refine asT (O3 s c.set hs.may.l2) tv bw ?_|refine an ?_ ?_|refine ag.mk ?_ ?_)))
 all_goals try exact aB
 all_goals (try(unfold jo opAt));all_goals first|exact(dF h).symm|exact(bz h).symm|(intro h;have h:=aS h;omega)
def nH(s:aZ)(x4 x5 x6:V):Nat->V
 |4=>x4
 |5=>x5
 |6=>x6
 |k=>.d (fH s k)
abbrev Ym(s:aZ)(x5 x6:V)(n m:Nat):ST:=⟨[(0,.blk 7 (nH s (.row 1 s.aN.length) x5 x6)),(1,dw 54 4 gW .z s.aN),(2,.row 97 2 n (λj k=>.d (dY (s.opens.getD j .z) k))),(3,.row 71 5 m (λj k=>.d (eX (s.ay.getD j .z) k)))],4⟩
abbrev zW(s:aZ)(c:aI):aZ:={ s with opens:=rM s.opens (Jh s c.set) ⟨c.set,c.bf⟩ }
abbrev BB(s:aZ)(c:aI):aZ:={ s with opens:=s.opens.eraseIdx (jo s c).toNat }
theorem anK(s:aZ)(c:aI)(hs:mi s):ae 271 [.ptr 0 0,jI c] (Fe s) (J3 (λa=>MJ s c=(s,a)) iQ (Fe s) (MJ s c=(zW s c,.z)) (iQ .z) (Ym (zW s c) (.row 2 (zW s c).opens.length) (.row 3 s.ay.length) (zW s c).opens.length s.ay.length)):=by
 have hb:=KX (λx:uo=>decide (x.set=c.set)) s.opens;refine asz Tryz.func271 λX=>?_
 (repeat' (first|refine oz ?_|refine asD 1 [5] [o0,o0,o0,o0,o0,o1,o3] ?_|refine asD 5 [] [o0,o0,o0,o0,o0,o0,o0,o0,o0,o0,o0,o0,o0,o0,o0,o0,o0,o0,o0,o0] ?_|refine asD 7 [11,12,15] [(0,2,false,[]),o2,o2,o2,o2,o2,o0,o0,o0,o0,o0,o1,(1,1,true,[]),(2,2,false,[]),(2,2,false,[]),(2,2,true,[])] ?_|refine mc ?_ ?_|refine asI (s.opens.length-0) (λi (a:Unit)=>⟨62,[(3,.ptr 4 0),(4,.ptr 5 0),(0,.ptr 0 0),(6,iV i)],⟨[(4,.blk 8 (λk=>.d (kY c k))),(5,.blk 2 (λk=>.d (iD 0))),(0,.blk 7 (lq s 1 2 3)),(1,dw 54 4 gW .z s.aN),(2,dw 97 2 dY .z s.opens),(3,dw 71 5 eX .z s.ay)],6⟩⟩) (λi a=>Jh s c.set=i+ahead (λx=>decide (x.set<c.set)) (s.opens.drop i)) () ?_ ?_ (λi a hi hp=>?_)|refine aU () ⟨?_,?_,?_⟩|refine atE (O3 s c.set hs.may.l2) tv bw ?_|refine aui [2,6] (adr (n:=s.opens.length) (p:=i) (g:=λj k=>dY (s.opens.getD j .z) k) (x:=λ_ k=>dY ⟨c.set,c.bf⟩ k) (by omega) (by have:=hs.fit.l2;omega)) rfl rfl rfl vw ⟨⟨_,rfl,af.row rfl fv⟩,⟨_,rfl,af.row rfl (λj hj k hk=>(by obtain rfl:=Nat.lt_one_iff.1 hj;have hk:k<2:=hk;rcases k with _|_|k;exact qV;exact qV;exact au hk (by omega)))⟩,tv⟩ ?_|refine ai.mk (λh=>?_) (λh=>?_)|refine ag.a ?_|refine atB ⟨_,_⟩ (dF h) (asC qN qN (asK vw) ?_)|refine aub ?_ (asC qN qN (asK vw) ?_)|refine ag.mk ?_ ?_))<;>(try(refine dh.mk ?_;repeat' (first|exact tv|exact rfl|refine asT (O3 s c.set hs.may.l2) tv bw ?_|refine asO [2,6] (adr (n:=s.opens.length) (p:=i) (g:=λj k=>dY (s.opens.getD j .z) k) (x:=λ_ k=>dY ⟨c.set,c.bf⟩ k) (by omega) (by have:=hs.fit.l2;omega)) rfl rfl rfl vw ⟨⟨_,rfl,af.row rfl fv⟩,⟨_,rfl,af.row rfl (λj hj k hk=>(by obtain rfl:=Nat.lt_one_iff.1 hj;have hk:k<2:=hk;rcases k with _|_|k;exact qV;exact qV;exact au hk (by omega)))⟩,tv⟩ ?_|refine an ?_ ?_|refine ag.mk ?_ ?_)))
 all_goals try exact aB
 all_goals (try(first|(refine aV.mk rfl qN qN ?_ ?_ <;> repeat' (first|exact tv|exact qV|exact qW|refine an ⟨nb rfl,af.blk ?_⟩ ?_|refine an ⟨nb rfl,af.row ?_ (λj hj k hk=>asB ?_)⟩ ?_|refine an ?_ ?_))|(repeat' (first|exact tv|refine an ⟨nb rfl,af.blk ?_⟩ ?_|refine an ⟨nb rfl,af.row ?_ (λj hj k hk=>asB ?_)⟩ ?_|exact qV|exact qW|refine vq (gz (V.row _) ?_) qN|refine an ?_ ?_))))
 all_goals first|exact rfl|exact cm qV|exact nb rfl|exact bz (by unfold opAt;assumption)|exact(aaU (VZ _ _)).symm|(have hr:Jh s c.set=i:=(by rcases mP i s.opens.length with h7|h7;(rcases ae8 h with h8|h8;(have h8:=bJ h8;omega);(rw[hp,Px .z h7,show decide ((s.opens.getD i .z).set<c.set)=false from h8];rfl));(rw[hp,sZ h7];rfl));refine cm (vq ?_ trivial);show V.d (Ak i (λj k=>dY (s.opens.getD j .z) k) (dY ⟨c.set,c.bf⟩) j k)=V.d (dY ((rM s.opens (Jh s c.set) ⟨c.set,c.bf⟩).getD j .z) k);rw[hr];exact gz V.d (aaT dY .z _ s.opens (by omega)))|(rw[jm,List.drop_zero];rfl)|(have h8:=Sz h;have h9:=aS h8.1;omega)|(have h8:=Sz h;have h9:=aS h8.1;have h10:=hs.fit.l2;simp only[dQ];omega)|(have h8:=Sz h;have h9:=aS h8.1;rw[hp,Px .z (by omega),show decide ((s.opens.getD i .z).set<c.set)=true from h8.2,dR];omega)|(intro h;have h8:=aS h;omega)|(have h9:=aS h;omega)
theorem akb{α:Type}(c:α->Nat->D)(d:α)(l:List α){p:Nat}(hp:p<l.length)(hz:∀ k,c d k = .v (.int .i64 0)){j k:Nat}(hj:j<l.length):FI p l.length (λj k=>c (l.getD j d) k) j k=c ((l.eraseIdx p).getD j d) k:=by
 rcases mP j (l.length-1) with h|h
 ·exact aie c d l hp h
 ·have e:(l.eraseIdx p).getD j d=d:=by
   rw[bC,List.getElem?_eq_none (by rw[List.length_eraseIdx_of_lt hp];omega)];rfl
  have eb:∀ a b:Nat,Nat.blt a b=decide (a<b):=λa b=>by
   rw[Bool.eq_iff_iff,Nat.blt_eq,fC]
  rw[e,hz];unfold FI;rw[eb,eb,aX qO,aX qO];rfl
theorem apZ(k:Nat):dY .z k = .v (.int .i64 0):=by rcases k with _|k <;> rfl
theorem aek{s:aZ}{c:aI}(hb:jo s c = -1\/(0<=jo s c/\jo s c<s.opens.length))(h:decide (jo s c<0)=false){j k:Nat}(hj:j<s.opens.length):V.d (FI (jo s c).toNat s.opens.length (λj k=>dY (s.opens.getD j .z) k) j k)=V.d (dY ((s.opens.eraseIdx (jo s c).toNat).getD j .z) k):=by
 have h9:=bJ h;exact gz V.d (akb dY .z s.opens qO apZ hj)
theorem anq{s:aZ}{c:aI}(hb:jo s c = -1\/(0<=jo s c/\jo s c<s.opens.length))(h:decide (jo s c<0)=false):s.opens.length-1=(s.opens.eraseIdx (jo s c).toNat).length:=by
 have h9:=bJ h;rw[List.length_eraseIdx_of_lt qO]
theorem anW(s:aZ)(c:aI)(hs:mi s):ae 275 [.ptr 0 0,jI c] (Fe s) (J3 (λa=>ML s c=(s,a)) iQ (Fe s) (ML s c=(BB s c,.z)/\0<=jo s c) (iQ .z) (Ym (BB s c) (.vw 2 s.opens.length 0 (BB s c).opens.length) (.row 3 s.ay.length) s.opens.length s.ay.length)):=by
 have hb:=U4 s c;refine asz Tryz.func275 λX=>?_
 (repeat' (first|refine oz ?_|refine asH [0,1,2,3] (abB s c hs) ?_|refine asA (asU 15) ?_|refine asO [2] (ael (n:=s.opens.length) (p:=(jo s c).toNat) (g:=λj k=>dY (s.opens.getD j .z) k) (by have h9:=bJ h;omega) (by have:=hs.fit.l2;omega)) rfl rfl rfl ⟨qW,vq (gz iV (by have h9:=bJ h;omega)) tv,vq (gz iV (by have h9:=bJ h;omega)) tv,tv⟩ bG ?_|refine ai.mk (λh=>?_) (λh=>?_)|refine ag.a ?_|refine atB ⟨_,_⟩ (dF h) (asC qN qN (asK vw) ?_)|refine aub ⟨bz h,?_⟩ (asC qN qN (asK vw) ?_)|refine ag.mk ?_ ?_))<;>try exact aB
 all_goals (try((repeat' (first|exact tv|refine an ⟨nb rfl,af.blk ?_⟩ ?_|refine an ⟨nb rfl,af.row ?_ (λj hj k hk=>asB ?_)⟩ ?_|exact qV|exact qW|refine vq (Dw ?_ ?_) qN|refine an ?_ ?_))))
 all_goals first|exact rfl|exact cm qV|(have h9:=bJ h;have h10:=hs.fit.l2;first|omega|(simp only[dQ];omega))|(exact anq hb h)|(exact cm (vq (aek hb h hj) tv))
section
abbrev zM(s:aZ)(c:aI):aZ:={ s with next:=s.next+1,opens:=s.opens.eraseIdx (jo s c).toNat,ay:=s.ay++[⟨s.next,c.set,c.chunks,false,[]⟩] }
section
variable {s:aZ} {c:aI}
theorem aqJ(h1:decide (jo s c<0)=true):Df s c=(s,⟨15,0⟩):=dF h1
theorem aqI(h1:decide (jo s c<0)=false)(h2:(bif decide (16<=(s.ay.length:Int)) then true else decide (1048576<=s.next))=true):Df s c=(s,⟨20,0⟩):=(bz h1).trans (dF h2)
theorem aqH(h1:decide (jo s c<0)=false)(h2:(bif decide (16<=(s.ay.length:Int)) then true else decide (1048576<=s.next))=false)(h3:(bif !decide (s.l7=0) then decide (s.l7<MP s.ay c.chunks) else false)=true):Df s c=(s,⟨19,0⟩):=(bz h1).trans ((bz h2).trans (dF h3))
theorem aqG(h1:decide (jo s c<0)=false)(h2:(bif decide (16<=(s.ay.length:Int)) then true else decide (1048576<=s.next))=false)(h3:(bif !decide (s.l7=0) then decide (s.l7<MP s.ay c.chunks) else false)=false):Df s c=(zM s c,⟨0,s.next⟩):=(bz h1).trans ((bz h2).trans (bz h3))
end
theorem akr(s:aZ)(c:aI)(hs:mi s)(hc:c.chunks.length<=1000):ae 273 [.ptr 0 0,jI c] (Fe s) (J3 (λa=>Df s c=(s,a)) iQ (Fe s) (Df s c=(zM s c,⟨0,s.next⟩)/\0<=jo s c) (iQ ⟨0,s.next⟩) (Ym (zM s c) (.vw 2 s.opens.length 0 (s.opens.length-1)) (.row 3 (s.ay.length+1)) s.opens.length (s.ay.length+1))):=by
 have hb:=U4 s c;refine asz Tryz.func273 λX=>?_
 (repeat' (first|refine atE (adM s.ay c.chunks hs.fit.l3 (by omega)) tv bw ?_|refine oz ?_|refine asD 6 [] [o0,o0,o0,o0,o0,o0,o0,o0,o0,o0,o0,o0,o0,o0,o0,o0,o0,o0,o0,o0] ?_|refine asD 8 [10,11] [o2,o2,o2,o2,o2,o2,o2,o2,o2,o2,o1,(1,1,true,[])] ?_|refine asD 9 [6,7,10] [(0,2,false,[]),o2,o2,o2,o2,o0,o1,(1,1,true,[]),(2,2,false,[]),(2,2,false,[]),(2,2,true,[])] ?_|refine mc ?_ ?_|refine asH [0,1,2,3] (abB s c hs) ?_|refine asA (asU 15) ?_|refine asA (asU 20) ?_|refine asA (asU 19) ?_|refine asO [2] (ael (n:=s.opens.length) (p:=(jo s c).toNat) (g:=λj k=>dY (s.opens.getD j .z) k) (by have h9:=bJ (aj:decide (jo s c<0)=false);omega) (by have:=hs.fit.l2;omega)) rfl rfl rfl ⟨qW,vq (gz iV (by have h9:=bJ (aj:decide (jo s c<0)=false);omega)) tv,vq (gz iV (by have h9:=bJ (aj:decide (jo s c<0)=false);omega)) tv,tv⟩ bG ?_|refine asN (IP c.chunks.length (λj _=>iD (c.chunks.getD j 0)) (by omega)) ?_|refine ai.mk (λh=>?_) (λh=>?_)|refine ag.a ?_|refine atB ⟨15,0⟩ (aqJ h) (asC qN qN (asK vw) ?_)|refine atB ⟨20,0⟩ (aqI aj h) (asC qN qN (asK vw) ?_)|refine atB ⟨19,0⟩ (aqH aj aj h) (asC qN qN (asK vw) ?_)|refine aub ⟨aqG aj aj h,?_⟩ (asC qN qN (asK vw) ?_)|refine ag.mk ?_ ?_))<;>(try(refine dh.mk ?_;repeat' (first|exact tv|exact rfl|refine aU _ (ed (λht=>asT (adM s.ay c.chunks hs.fit.l3 (by omega)) tv bw ⟨rfl,rfl⟩) ?_)|refine asA (IP c.chunks.length (λj _=>iD (c.chunks.getD j 0)) (by omega)) ?_|refine an ?_ ?_|refine ag.mk ?_ ?_)))
 all_goals try exact aB
 all_goals (try((repeat' (first|exact tv|refine an ⟨nb rfl,af.blk ?_⟩ ?_|refine an ⟨nb rfl,af.row ?_ (λj hj k hk=>asB ?_)⟩ ?_|exact qV|exact qW|refine an ?_ ?_))))
 all_goals first|exact rfl|exact cm qV|(exact cm (vq (aek hb (aj:decide (jo s c<0)=false) hj) tv))|(have h9:=bJ (aj:decide (jo s c<0)=false);have h10:=hs.fit.l2;have h11:=hs.fit.l3.len;have h12:=hs.next;first|omega|(simp only[dQ];omega))|(have hj:j<s.ay.length+1:=hj;have hk:k<5:=hk;refine cm ?_;refine oq rfl hj fr (λj hj=>?_);obtain rfl:j=0:=Nat.lt_one_iff.1 hj;rcases k with _|_|_|_|_|k;exact qV;exact qV;exact qV;exact qV;exact qV;omega)
end
theorem JB{x a b:Int}(h:dN x a b=true):a<=x/\x<=b:=jb h
theorem JC{x a b:Int}(h:a<=x/\x<=b):dN x a b=true:=bg h
def pX{α:Type}(key:α->Int)(dK:Int)(l:List α):Prop:=(l.map key).Pairwise (· < ·)/\∀ x∈l,key x<=dK
theorem Gq{α:Type}{key:α->Int}{dK:Int}:∀ {l:List α} {a:Int},rq key dK a l=true↔(pX key dK l/\∀ x∈l,a<key x)
 |[],a=>⟨λ_=>⟨⟨List.Pairwise.nil,λx h=>au h (by simp)⟩,λx h=>au h (by simp)⟩,λ_=>rfl⟩
 |x::r,a=>by
  have ih:=Gq (key:=key) (dK:=dK) (l:=r) (a:=key x);unfold rq;constructor
  ·intro h;rcases hb:dN (key x) (a+1) dK with _|_
   ·rw[hb]at h;cases h
   ·rw[hb]at h;obtain⟨⟨h1,h2⟩,h3⟩:=ih.1 h;have hb:=JB hb;refine⟨⟨?_,?_⟩,?_⟩
    ·rw[List.map_cons,List.pairwise_cons];refine⟨λy hy=>?_,h1⟩;obtain⟨z,hz,rfl⟩:=List.mem_map.1 hy;exact h3 z hz
    ·intro y hy;rcases List.mem_cons.1 hy with rfl|hy
     ·exact hb.2
     ·exact h2 y hy
    ·intro y hy;rcases List.mem_cons.1 hy with rfl|hy
     ·omega
     ·have:=h3 y hy;omega
  ·intro ⟨⟨h1,h2⟩,h3⟩;rw[List.map_cons,List.pairwise_cons]at h1;have h4:=h3 x jC;have h5:=h2 x jC;rw[JC (show a+1<=key x/\key x<=dK by omega)];exact ih.2 ⟨⟨h1.2,λy hy=>h2 y (je _ hy)⟩,λy hy=>h1.1 _ (List.mem_map_of_mem hy)⟩
theorem pX.sub{α:Type}{key:α->Int}{dK:Int}{l m:List α}(h:pX key dK l)(hs:m.Sublist l):pX key dK m:=⟨h.1.sublist (hs.map key),λx hx=>h.2 x (hs.subset hx)⟩
theorem pX.snoc{α:Type}{key:α->Int}{dK aeP:Int}{l:List α}{y:α}(h:pX key dK l)(h1:dK<key y)(h2:key y<=aeP):pX key aeP (l++[y]):=by
 refine⟨?_,λx hx=>?_⟩
 ·rw[List.map_append,List.pairwise_append];refine⟨h.1,by simp,λa ha b hb=>?_⟩;obtain⟨x,hx,rfl⟩:=List.mem_map.1 ha;obtain rfl:b=key y:=by simpa using hb
  have:=h.2 x hx;omega
 ·rcases List.mem_append.1 hx with hx|hx
  ·have:=h.2 x hx;omega
  ·obtain rfl:x=y:=by simpa using hx
   exact h2
theorem alO{α:Type}{key:α->Int}{z:α}{l:List α}{p:Nat}{y:α}(h:key y=key (l.getD p z)):(l.set p y).map key=l.map key:=by
 apply List.ext_getElem?;intro k;rw[qY,qY,List.getElem?_set];by_cases e:p=k
 ·subst e;rw[if_pos rfl];by_cases hp:p<l.length
  ·rw[if_pos hp,dW hp];simp only[pF,h,bC,dW hp,Option.getD_some]
  ·rw[if_neg hp,List.getElem?_eq_none qO]
 ·rw[if_neg e]
theorem pX.set{α:Type}{key:α->Int}{dK:Int}{z:α}{l:List α}{p:Nat}{y:α}(h:pX key dK l)(he:key y=key (l.getD p z)):pX key dK (l.set p y):=by
 have hm:=alO (l:=l) (p:=p) he;refine⟨by rw[hm];exact h.1,λx hx=>?_⟩;have:key x∈l.map key:=by rw[<-hm];exact List.mem_map_of_mem hx
 obtain⟨w,hw,e⟩:=List.mem_map.1 this;rw[<-e];exact h.2 w hw
theorem atZ{α:Type}{key:α->Int}{dK:Int}:∀ {l:List α} {y:α},pX key dK l->key y<=dK->(∀ x∈l,key x≠key y)->pX key dK (rM l (ahead (λx=>decide (key x<key y)) l) y)
 |[],y,h,h1,h2=>by
  refine⟨by simp[rM,ahead],λx hx=>?_⟩;obtain rfl:x=y:=by simpa [rM,ahead] using hx
  exact h1
 |a::r,y,h,h1,h2=>by
  have hp:=h.1;rw[List.map_cons,List.pairwise_cons]at hp;have hr:pX key dK r:=h.sub (List.sublist_cons_self a r);unfold ahead;by_cases e:key a<key y
  ·rw[bg e,dR];have ih:=atZ hr h1 (λx hx=>h2 x (je _ hx));show pX key dK (rM (a::r) (ahead _ r+1) y);have ei:rM (a::r) (ahead (λx=>decide (key x<key y)) r+1) y=a::rM r (ahead (λx=>decide (key x<key y)) r) y:=by simp[rM]
   rw[ei];refine⟨?_,λx hx=>?_⟩
   ·rw[List.map_cons,List.pairwise_cons];refine⟨λk hk=>?_,ih.1⟩;obtain⟨w,hw,rfl⟩:=List.mem_map.1 hk;unfold rM at hw;rcases List.mem_append.1 hw with hw|hw
    ·exact hp.1 _ (List.mem_map_of_mem (List.mem_of_mem_take hw))
    ·rcases List.mem_cons.1 hw with rfl|hw
     ·exact e
     ·exact hp.1 _ (List.mem_map_of_mem (List.mem_of_mem_drop hw))
   ·rcases List.mem_cons.1 hx with rfl|hx
    ·exact h.2 _ jC
    ·exact ih.2 x hx
  ·rw[aX e,di];have e2:=h2 a jC;show pX key dK (y::a::r);refine⟨?_,λx hx=>?_⟩
   ·rw[List.map_cons,List.pairwise_cons];refine⟨λk hk=>?_,h.1⟩;rw[List.map_cons]at hk;rcases List.mem_cons.1 hk with rfl|hk
    ·omega
    ·have:=hp.1 k hk;omega
   ·rcases List.mem_cons.1 hx with rfl|hx
    ·exact h1
    ·exact h.2 x hx
structure BQ (v:Int) (x:gX):Prop where
 row:kG x.chunks=true
 set:1<=x.set/\x.set<=8
 held:x.held=true->2<=v
 tag:x.tag.length<=16
 SL:v<3->x.tag=[]
theorem PX{v t:Int}{x:gX}:Fh v t x=true↔(kG x.chunks=true/\(1<=x.set/\x.set<=8)/\(x.held=true->2<=v)/\(x.tag.length:Int)<=t):=by
 unfold Fh dN;rcases kG x.chunks with _|_ <;> rcases x.held with _|_ <;> simp[zG] <;> omega
structure kC (s:aZ) (v:Int):Prop where
 v3:1<=v/\v<=3
 oU:1<=s.version/\s.version<=3
 next:1<=s.next/\s.next<=1048576
 keep:0<=s.keep/\s.keep<=8
 l7:0<=s.l7/\s.l7<=64
 Md:v<3->s.l7=0
 aN:pX (λx=>x.bf) 8 s.aN
 Dy:∀ x∈s.aN,0<x.bf
 tN:∀ x∈s.aN,tN x=true
 opens:pX (λx=>x.set) 8 s.opens
 Bl:∀ x∈s.opens,0<x.set
 tY:∀ x∈s.opens,tY x=true
 ay:pX (λx=>x.id) (s.next-1) s.ay
 zN:∀ x∈s.ay,0<x.id
 len:s.ay.length<=16
 sn:∀ x∈s.ay,BQ v x
theorem Jo{a b:Bool}:(bif a then true else b)=false↔a=false/\b=false:=by cases a <;> simp
theorem Dv{a b:Bool}:(bif a then b else false)=true↔a=true/\b=true:=by cases a <;> simp
theorem Jv{a:Bool}:(!a)=false↔a=true:=by cases a <;> simp
theorem aaw{s:aZ}{v q:Int}:ET s v q=false↔((((1<=s.version/\s.version<=3)/\(1<=s.next/\s.next<=1048576))/\(0<=s.keep/\s.keep<=8))/\(0<=s.l7/\s.l7<=q)) /\
  (rq (λx=>x.bf) 8 0 s.aN=true/\s.aN.all tN=true)/\(rq (λx=>x.set) 8 0 s.opens=true/\s.opens.all tY=true)/\L8 s v=true:=by
 unfold ET;rw[Jo,Jo,Jo,Jv,Jv,Jv,Jv,Dv,Dv,Dv,Dv,Dv];unfold dN;simp only[fC];constructor
 ·rintro⟨⟨⟨h1,h2⟩,h3⟩,h4⟩;exact⟨h1,h2,h3,h4⟩
 ·rintro⟨h1,h2,h3,h4⟩;exact⟨⟨⟨h1,h2⟩,h3⟩,h4⟩
theorem ZX{s:aZ}{v:Int}:L8 s v=true↔s.ay.length<=16/\rq (λx=>x.id) (s.next-1) 0 s.ay=true/\∀ x∈s.ay,BQ v x:=by
 unfold L8;constructor
 ·intro h;rcases h1:(bif decide (16<(s.ay.length:Int)) then true else !rq (λx=>x.id) (s.next-1) 0 s.ay) with _|_
  ·rw[h1,di]at h;rw[Jo,Jv,fQ]at h1;refine⟨by omega,h1.2,λx hx=>?_⟩;by_cases hv:v<3
   ·rw[bg hv,dR,zF]at h;obtain⟨a,b,c,d⟩:=PX.1 (h x hx);exact⟨a,b,c,by omega,λ_=>uw qO⟩
   ·rw[aX hv,di,zF]at h;obtain⟨a,b,c,d⟩:=PX.1 (h x hx);exact⟨a,b,c,by omega,λh=>au h hv⟩
  ·rw[h1]at h;cases h
 ·intro ⟨h1,h2,h3⟩;rw[h2,aX qO];simp only[di,Bool.not_true];by_cases hv:v<3
  ·rw[bg hv,dR,zF];intro x hx;have h:=h3 x hx;exact PX.2 ⟨h.row,h.set,h.held,by rw[h.SL hv];simp⟩
  ·rw[aX hv,di,zF];intro x hx;have h:=h3 x hx;exact PX.2 ⟨h.row,h.set,h.held,by have:=h.tag;omega⟩
theorem abL{s:aZ}{v:Int}:JR s v=0↔kC s v:=by
 unfold JR;constructor
 ·intro h;rcases hv:dN v 1 3 with _|_
  ·rw[hv]at h;cases h
  ·rw[hv]at h;have hv:=JB hv;have key:∀ q:Int,q<=64->(v<3->q=0)->ET s v q=false->kC s v:=λq hq hq0 hb=>by
    obtain⟨⟨⟨⟨a1,a2⟩,a3⟩,a4⟩,⟨b1,b2⟩,⟨c1,c2⟩,d⟩:=aaw.1 hb;obtain⟨d1,d2,d3⟩:=ZX.1 d;have b:=Gq.1 b1;have c:=Gq.1 c1;have e:=Gq.1 d2;exact⟨hv,a1,a2,a3,⟨a4.1,by omega⟩,λh=>by have:=hq0 h;omega,b.1,b.2,List.all_eq_true.1 b2,c.1,c.2,List.all_eq_true.1 c2,e.1,e.2,d1,d3⟩
   simp only[Bool.not_true,di]at h;by_cases h3:v<3
   ·rw[bg h3,dR]at h;rcases hb:ET s v 0 with _|_
    ·exact key 0 qO (λ_=>rfl) hb
    ·rw[hb]at h;cases h
   ·rw[aX h3,di]at h;rcases hb:ET s v 64 with _|_
    ·exact key 64 qO (λh=>au h h3) hb
    ·rw[hb]at h;cases h
 ·intro h;have key:∀ q:Int,s.l7<=q->ET s v q=false:=λq hq=>aaw.2 ⟨⟨⟨⟨h.oU,h.next⟩,h.keep⟩,h.l7.1,hq⟩,⟨Gq.2 ⟨h.aN,h.Dy⟩,List.all_eq_true.2 h.tN⟩,⟨Gq.2 ⟨h.opens,h.Bl⟩,List.all_eq_true.2 h.tY⟩,ZX.2 ⟨h.len,Gq.2 ⟨h.ay,h.zN⟩,h.sn⟩⟩
  rw[JC h.v3];simp only[Bool.not_true,di];by_cases h3:v<3
  ·rw[bg h3,key 0 (by rw[h.Md h3];exact eF _)];rfl
  ·rw[aX h3,key 64 h.l7.2];rfl
theorem BQ.mono{v w:Int}{x:gX}(h:BQ v x)(hw:v<=w):BQ w x:=⟨h.row,h.set,λe=>by have:=h.held e;omega,h.tag,λe=>h.SL qO⟩
theorem kC.mono{s:aZ}{v w:Int}(h:kC s v)(hw:v<=w)(h3:w<=3):kC s w:=
 { h with v3:=⟨by have:=h.v3;omega,h3⟩,Md:=λe=>h.Md qO,sn:=λx hx=>(h.sn x hx).mono hw }
end Go.Proofs.YtnibdnahojjcgaaGreat
