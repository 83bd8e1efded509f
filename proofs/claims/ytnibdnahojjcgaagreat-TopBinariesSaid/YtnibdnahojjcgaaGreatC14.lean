/- Lemmas. -/
import Derived.Test.YtnibdnahojjcgaaGreatC10
import Derived.Test.YtnibdnahojjcgaaGreatC13
namespace Go.Proofs.YtnibdnahojjcgaaGreat
set_option linter.all false
set_option maxRecDepth 100000
set_option maxHeartbeats 0
open Go.RowKit
def axc(s:aN)(c:aF)(hs:jw s)(hz:nV c):aQ 230 [dZ s,jl c] (bI [dZ (oC s c).1,lJ (oC s c).2]):=by
 by_cases h:c.kind=1
 ·exact avA s c hs hz h
 ·exact avz s c hs hz h
def YH{α:Type}:∀(l:List α) (f:α->Int) (m:Int),sU f m l->(∀ y∈l,0<f y)->(l.length:Int)<=max m 0
 |[],f,m,_,_=>by simp;omega
 |y::q,f,m,g1,g2=>by
  have gp:=g1.1;rw[List.map_cons,List.pairwise_cons]at gp;have gy:=g2 y jL;have gm:=g1.2 y jL;have:=YH q (λz=>f z-f y) (m-f y) ⟨by
   have:=gp.2;rw[List.pairwise_map]at this ⊢;exact this.imp (λ{a b} h=>by show f a-f y<f b-f y;omega),λz hz=>by have:=g1.2 z (jA _ hz);show f z-f y<=m-f y;omega⟩ (λz hz=>by have:=gp.1 _ (List.mem_map_of_mem hz);show 0<f z-f y;omega)
  rw[lT];omega
def gK.jw{s:aN}{v:Int}(h:gK s v):jw s:=by
 have l1:=YH _ _ _ h.aJ h.Eo;have l2:=YH _ _ _ h.opens h.Ce;have l3:=h.len;have hn:=h.next
 have hv:=h.ver;have hch:∀ i,i<s.az.length->(s.az.getD i .z).chunks.length<=8:=λi hi=>(zl (h.sn _ (axB hi)).row).2.1
 refine⟨⟨by omega,by omega,⟨by omega,λi hi=>by have:=hch i hi;omega⟩⟩,⟨by omega,by omega,by omega,λx hx=>?_,λx hx=>?_,λx hx=>?_,λi hi=>by have:=hch i hi;omega,by omega⟩,by omega,by omega⟩
 ·have:=h.Eo x hx;have:=h.aJ.2 x hx;simp only at *;omega
 ·have:=h.Ce x hx;have:=h.opens.2 x hx;simp only at *;omega
 ·have:=h.Aq x hx;have:=h.az.2 x hx;simp only at *;omega
def aic{x p:Bool}(h:(bif x == true then p else !false)=false):p=false:=by cases x;cases h;exact h
def alZ{v:Int}{x:eH}(h:Dk v x):(bif ((jr x.tag).toList == ({ data:=#[] }:ByteArray).toList) then true else decide (3<=v))=true:=by
 by_cases e:3<=v
 ·rw[aX e];cases ((jr x.tag).toList == ({ data:=#[] }:ByteArray).toList) <;> rfl
 ·rw[h.Vk qO,show((jr ([]:List UInt8)).toList == ({ data:=#[] }:ByteArray).toList)=true from by rw[show({ data:=#[] }:ByteArray)=jr [] from rfl];simp];rfl
def akh{v:Int}{x:eH}(h:Dk v x):(bif !x.held then true else decide (2<=v))=true:=by
 cases e:x.held
 ·rfl
 ·exact aX (h.held e)
def EI{x a b:Int}(h1:a<=x)(h2:x<=b):dQ x a b=true:=aX ⟨h1,h2⟩
def Zo{α:Type}{key:α->Int}{dO:Int}{l:List α}{z:α}(h:sU key dO l){i:Nat}(hi:i<l.length):(bif decide ((i:Int)=0) then true else decide (key (l.getD ((i:Int)-1).toNat z)<key (l.getD i z)))=true:=by
 by_cases e:i=0
 ·rw[aX qO];rfl
 ·rw[aT qO,bz];refine aX ?_;rw[show((i:Int)-1).toNat=i-1 by omega];have hp:=List.pairwise_iff_getElem.1 h.1 (i-1) i (by rw[lZ];omega) (by rw[lZ];omega) qO;rw[List.getElem_map,List.getElem_map]at hp;rw[bn,bn,dV hi,dV (show i-1<l.length by omega)];exact hp
def afh(x:eH)(next v:Int)(h:Dk v x)(h1:1<=x.id)(h2:x.id<=next-1)(hn:next<=100000000):aQ 45 [aaI x,iV next,iV v] (.b true):=by
 have hr:=h.row;have e1:=EI h1 h2;have e2:=EI h.set.1 h.set.2;have e3:=akh h;have e4:=alZ h;have e5:decide (((jr x.tag).size:Int)<=16)=true:=(by rw[Yw];exact aX (by have:=h.tag;omega));refine ay Tryz.func45 λX=>?_
 (repeat'(first|refine aC ?_|refine aO (Uf x.chunks (by have:=(zl h.row).2.1;omega)) ?_|refine aZ _ (fM (λht=>af.tell (OH _ _ _) vw ⟨rfl,rfl⟩) ?_)|refine ag.a ?_|refine Fin.tell (vq (ah V.b ?_) tv)|refine ag.mk ?_ ?_))<;>try exact cls
 all_goals(rw[hr,e1,e2,e3,e5];exact e4)
def auI{s:aN}{v:Int}(h:gK s v):(bif decide (s.mg=0) then true else decide (3<=v))=true:=by
 by_cases e:3<=v
 ·rw[aX e];cases decide (s.mg=0) <;> rfl
 ·rw[h.OD qO];rfl
def asz{s:aN}{v:Int}(h:gK s v){i:Nat}(hi:i<s.aJ.length):(bif (bif (bif (bif (bif true then dQ (s.aJ.getD i .z).ax 1 8 else false) then dQ (s.aJ.getD i .z).seq 0 1048576 else false) then dQ (s.aJ.getD i .z).last.code 0 99 else false) then dQ (s.aJ.getD i .z).last.n 0 1048576 else false) then(bif decide ((i:Int)=0) then true else decide ((s.aJ.getD ((i:Int)-1).toNat .z).ax<(s.aJ.getD i .z).ax)) else false)=true:=by
 have hm:s.aJ.getD i .z∈s.aJ:=ja hi;have h1:=h.Eo _ hm;have h2:=h.aJ.2 _ hm;have h3:=h.su _ hm;unfold su at h3;rw[wR,wR]at h3;rw[EI (show 1<=(s.aJ.getD i .z).ax by omega) h2,h3.1.1,h3.1.2,h3.2,Zo (z:=iW.z) h.aJ hi];rfl
def aqe{s:aN}{v:Int}(h:gK s v){i:Nat}(hi:i<s.opens.length):(bif (bif (bif true then dQ (s.opens.getD i .z).set 1 8 else false) then dQ (s.opens.getD i .z).ax 1 8 else false) then(bif decide ((i:Int)=0) then true else decide ((s.opens.getD ((i:Int)-1).toNat .z).set<(s.opens.getD i .z).set)) else false)=true:=by
 have hm:s.opens.getD i .z∈s.opens:=ja hi;have h1:=h.Ce _ hm;have h2:=h.opens.2 _ hm;have h3:=h.uz _ hm;unfold uz at h3;rw[EI (show 1<=(s.opens.getD i .z).set by omega) h2,h3,Zo (z:=iT.z) h.opens hi];rfl
def alY{s:aN}{v:Int}(h:gK s v){i:Nat}(hi:i<s.az.length):(bif (bif true then true else false) then(bif decide ((i:Int)=0) then true else decide ((s.az.getD ((i:Int)-1).toNat .z).id<(s.az.getD i .z).id)) else false)=true:=by
 rw[Zo (z:=eH.z) h.az hi];rfl
def apL(s:aN)(v:Int)(hv:gK s v):aQ 15 [dZ s,iV v] (iV 0):=by
 have q1:=hv.jw.fit.l1;have q2:=hv.jw.fit.l2;have q3:=hv.len;refine ay Tryz.func15 λX=>?_
 (repeat'(first|refine aC ?_|refine bU 9 [] (ooz 18 []) ?_|refine bU 14 [] (ooz 28 []) ?_|refine bU 18 [] (ooz 10 []) ?_|refine bU 19 [] (ooz 25 []) ?_|refine mc ?_ ?_|refine dU (c:=.seq (.seq (.region 5 _ _) _) _) s.aJ.length (λi (a:Unit)=>⟨181,[(1,iV v),(2,.ptr 0 0),(5,.b true),(6,iV i)],⟨[(0,.Wp 7 (λk=>.d (dW s k)))],1⟩⟩) (λ_ _=>True) () ?_ True.intro (λi a hi hp=>?_)|refine dU (c:=.seq (.seq (.region 11 _ _) _) _) s.opens.length (λi (a:Unit)=>⟨181,[(1,iV v),(2,.ptr 0 0),(5,.b true),(8,iV i)],⟨[(0,.Wp 7 (λk=>.d (dW s k)))],1⟩⟩) (λ_ _=>True) () ?_ True.intro (λi a hi hp=>?_)|refine dU (c:=.seq (.seq (.region 16 _ _) _) _) s.az.length (λi (a:Unit)=>⟨181,[(1,iV v),(2,.ptr 0 0),(5,.b true),(10,iV i)],⟨[(0,.Wp 7 (λk=>.d (dW s k)))],1⟩⟩) (λ_ _=>True) () ?_ True.intro (λi a hi hp=>?_)|refine aZ () ⟨?_,tv,?_⟩|refine aO (OH _ _ _) ?_|refine aZ _ (fM (λht=>af.tell (OH _ _ _) vw ⟨rfl,rfl⟩) ?_)|refine aj.mk (λh=>ai ((show(!dQ v 1 3)=false by rw[EI hv.v3.1 hv.v3.2];rfl).symm.trans h) (by decide)) (λh=>?_)|refine aj.n (λh=>?_)|refine kF (OH _ _ _) ?_|refine kF (afh (s.az.getD i .z) s.next v (hv.sn (s.az.getD i .z) (ja (z:=eH.z) (i:=i) om)) (by have:=hv.Aq (s.az.getD i .z) (ja (z:=eH.z) (i:=i) om);omega) (hv.az.2 (s.az.getD i .z) (ja (z:=eH.z) (i:=i) om)) (by have:=hv.next;omega)) ?_|refine aj.mk (λh=>?_) (λh=>?_)|refine ag.a ?_|refine Fin.tell (vq (ah iV ?_) tv)|refine ag.mk ?_ ?_))<;>(try(refine dm.mk ?_;repeat'(first|exact tv|exact rfl|refine aZ _ (fM (λht=>af.tell (OH _ _ _) vw ⟨rfl,rfl⟩) ?_)|refine aO (afh (s.az.getD i .z) s.next v (hv.sn (s.az.getD i .z) (ja (z:=eH.z) (i:=i) om)) (by have:=hv.Aq (s.az.getD i .z) (ja (z:=eH.z) (i:=i) om);omega) (hv.az.2 (s.az.getD i .z) (ja (z:=eH.z) (i:=i) om)) (by have:=hv.next;omega)) ?_|refine an ?_ ?_|refine ag.mk ?_ ?_)))
 all_goals try exact cls
 all_goals(try(refine leq ?_ ?_ <;> repeat'(first|exact tv|exact qV|exact qW|refine vq (ah V.b ?_) tv|refine jQ qN (λk hk=>?_) ?_|refine an ?_ ?_)))
 all_goals first|exact cm qV|(rw[EI hv.ver.1 hv.ver.2,EI hv.next.1 hv.next.2,EI hv.axz.1 hv.axz.2,EI hv.mg.1 hv.mg.2,aX (show(s.az.length:Int)<=16 by omega),auI hv];rfl)|(have h9:i<s.aJ.length:=om;first|omega|(intro e;have e:=bV (aic e);(omega))|exact asz hv h9)|(have h9:i<s.opens.length:=om;first|omega|(intro e;have e:=bV (aic e);(omega))|exact aqe hv h9)|(have h9:i<s.az.length:=om;first|omega|(intro h0;(have h0:=bV h0;(omega)))|exact alY hv h9)
