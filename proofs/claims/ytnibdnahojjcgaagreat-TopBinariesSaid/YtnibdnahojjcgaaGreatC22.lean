/- Lemmas. -/
import Derived.Test.YtnibdnahojjcgaaGreatC17
namespace Go.Proofs.YtnibdnahojjcgaaGreat
set_option linter.all false
set_option maxRecDepth 100000
set_option maxHeartbeats 0
open Go.RowKit Tryz
def aas(n:aA)(d:Int):QC:=⟨n.me,d,n.next.getD d.toNat 0,n.dN,n.bin⟩
def oW(n:aA)(d:Int):aV:=Pg n.ae (aas n d)
structure xE (n:aA) (d:Int):Prop where
 d0:0<=d
 d1:d<n.next.length
 nx:1<=n.next.getD d.toNat 0/\n.next.getD d.toNat 0<=n.ae.log.length+1
 log:n.ae.log.length<=1000
 ok:jY (oW n d)
 sz:DT (oW n d).l
def xE.in{n:aA}{d:Int}(h:xE n d):d.toNat<n.next.length:=by have:=h.d0;have:=h.d1;omega
def aeA(n:aA)(d:Int)(hd:xE n d):af 59 [.ptr 0 0,iV d] (NS n) (λv t=>v=bI [jT (oW n d),iV 0]/\t=NS n):=by
 refine ay func59 λX=>?_
 (repeat'(first|refine aC ?_|refine bU 1 [34,35] [o2,o2,o2,o2,o2,o2,o2,o2,o2,o2,o2,o2,o2,o2,o2,o2,o2,o2,o2,o2,o2,o2,o2,o2,o2,o2,o2,o2,o2,o2,o2,o2,o2,(0,2,false,[]),o1,(1,1,true,[]),(2,2,false,[])] ?_|refine mc ?_ ?_|refine aO (Zv (oW n d) hd.sz) ?_|refine kF (agE n.ae (aas n d) hd.nx hd.log hd.ok) ?_|refine aj.n (λh=>?_)|refine ag.a ?_|refine bM qN qN (fH [jT (oW n d),iV 0] rfl fr vw) ?_))<;>(try(refine dm.mk ?_;repeat'(first|exact tv|exact rfl|refine aO (agE n.ae (aas n d) hd.nx hd.log hd.ok) ?_|refine an ?_ ?_|refine ag.mk ?_ ?_)))
 all_goals try exact cls
 all_goals first|exact hd.d0|exact hd.d1|exact hd.in|(exact ah (V.gQ 2) (funext λk=>by obtain _|_|k:=k <;> rfl))
def lu(n:aA)(m:Nat):List aV×Int:=bif n.aB.down then([],30) else bif !decide (n.role=2) then([],33) else((jb n m).map (oW n),0)
def Xr{α β:Type}{f:α->β}{l:List α}{i:Nat}{z:α}(h:i<l.length):(l.take (i+1)).map f=(l.take i).map f++[f (l.getD i z)]:=by
 rw[kR z h,List.map_append];rfl
def JI{α β:Type}{f:α->β}{l:List α}{i:Nat}(h:i<=l.length):((l.take i).map f).length=i:=by
 rw[lZ,dG];omega
def TD(n:aA)(m:Nat)(hm:n.many=m)(h5:m<=5)(hd:n.aB.down=false->n.role=2->∀ d∈(jb n m),xE n d):af 26 [.ptr 0 0] (NS n) (NR (n,(lu n m).1,(lu n m).2)):=by
 refine ay func26 λX=>?_
 (repeat'(first|refine rQ (c:=.seq (.region 6 _ _) _) 4 126 (λj k=>.d (kN (([]:List aV).getD j .z) k)) rfl rfl qN (T.seq ?_)|refine aC ?_|refine fO [1,2] (Iw n.aB) ?_|refine fO [0,1,2,3,4,5,6,7] (adR n m hm h5) ?_|refine fO [0,1,2,3,4,5,6,7] (aeA n ((jb n m).getD i 0) (hd aG (Qc (aG:(!decide (n.role=2))=false)) _ (axB (z:=0) om))) ?_|refine dU (jb n m).length (λi (a:Unit)=>⟨42,[(0,.ptr 0 0),(4,.row 8 (((jb n m).take i).map (oW n)).length),(21,.d (iR (jb n m))),(22,iV (jb n m).length),(23,iV i)],⟨NL n++[(8,bQ 126 10 kN .z (((jb n m).take i).map (oW n)))],9⟩⟩) (λ_ _=>True) () ?_ True.intro (λi a hi hp=>?_)|refine aZ () ⟨?_,tv,?_⟩|refine aj.n (λh=>?_)|refine aj.mk (λh=>?_) (λh=>?_)|refine ag.a ?_|(rw[show(jb n m).take i=(jb n m) from jU om];refine NR.of (p:=(n,(jb n m).map (oW n),0)) ?_ (Fin.eG (i:=8) (h:=λj=>kN (((jb n m).map (oW n)).getD j .z)) (iI.of qN rfl fr) (bM qN qN (fH [.d (iU ((jb n m).map (oW n))),iV 0] rfl fr vw) ?_)))|refine NR.of (p:=(n,[],30)) ?_ (bM qN qN (fH [.d (iU []),iV 30] rfl fr vw) ?_)|refine NR.of (p:=(n,[],33)) ?_ (bM qN qN (fH [.d (iU []),iV 33] rfl fr vw) ?_)|refine ag.mk ?_ ?_))<;>try exact cls
 all_goals(try(refine leq ?_ ?_ <;> repeat'(first|exact tv|exact qV|exact qW|refine vq (ah (V.row _) ?_) qN|refine jQ qN (λk hk=>?_) ?_|refine gU qN ?_ (λj hj k hk=>?_) ?_|refine an ?_ ?_)))
 all_goals first|exact rfl|exact cm qV|(unfold lu;simp only[*,dw,bz];done)|exact uF|exact kk|(have h9:i<(jb n m).length:=om;have q:=JI (f:=oW n) hi;have q2:=Wq n m;first|omega|(simp only[dM,jg];omega)|(rw[q,JI (f:=oW n) (show i+1<=(jb n m).length from h9)];done)|(rw[Xr (z:=0) h9];(have hk:k<10:=hk;refine cm (kU rfl hj fr (λj hj=>?_));obtain rfl:j=0:=Nat.lt_one_iff.1 hj;obtain _|_|_|_|_|_|_|_|_|_|k:=k;exact qV;exact qV;exact qV;exact qV;exact qV;exact qV;exact qV;exact qV;exact qV;exact qV;omega)))
def Dq:Nat->List UInt8->List bu
 |0,_=>[]
 |_+1,[]=>[]
 |n+1,x::b=>
  if (gV (x::b)).2.1=0 then
   ⟨((gV (x::b)).1:Nat),0,(dh ((x::b).drop (gV (x::b)).2.2.1)).1,[]⟩::Dq n (((x::b).drop (gV (x::b)).2.2.1).drop (dh ((x::b).drop (gV (x::b)).2.2.1)).2.1)
  else
   ⟨((gV (x::b)).1:Nat),2,0,(((x::b).drop (gV (x::b)).2.2.1).drop (dh ((x::b).drop (gV (x::b)).2.2.1)).2.1).take (dh ((x::b).drop (gV (x::b)).2.2.1)).1⟩::Dq n ((((x::b).drop (gV (x::b)).2.2.1).drop (dh ((x::b).drop (gV (x::b)).2.2.1)).2.1).drop (dh ((x::b).drop (gV (x::b)).2.2.1)).1)
def arp{n:Nat}{b:List UInt8}(h:b≠[]):Dq (n+1) b =
  if (gV b).2.1=0 then ⟨((gV b).1:Nat),0,(dh (b.drop (gV b).2.2.1)).1,[]⟩::Dq n ((b.drop (gV b).2.2.1).drop (dh (b.drop (gV b).2.2.1)).2.1)
  else ⟨((gV b).1:Nat),2,0,((b.drop (gV b).2.2.1).drop (dh (b.drop (gV b).2.2.1)).2.1).take (dh (b.drop (gV b).2.2.1)).1⟩::Dq n (((b.drop (gV b).2.2.1).drop (dh (b.drop (gV b).2.2.1)).2.1).drop (dh (b.drop (gV b).2.2.1)).1):=by
 cases b with
 |nil=>exact ai rfl h
 |cons x b=>rfl
def anu{f:bu}(h:oI f=true)(hf:f.fit)(hb:f.b.length<=16384)(n:Nat)(r:List UInt8):Dq (n+1) (jk f++r)=f::Dq n r:=by
 have hw:=yu h;have hp:=Yf h;have hne:jk f++r≠[]:=λe=>by
  have:=ah List.length e;rw[bP,List.length_nil]at this;omega
 rw[arp hne,J8,jV,Rq h];simp only[List.drop_left];by_cases e:f.aU=0
 ·have hb0:f.b=[]:=by obtain hw|hw:=hw.2.2;exact hw.2;rw[e]at hw;exact ai hw.1 qD
  rw[if_pos e,wM _ _ hf.2.2.2.2.1,if_pos qO];have e1:(dK f.n++r).drop (gZ f.n)=r:=by unfold gZ;exact List.drop_left
  simp only[e1];have e2:(⟨((f.num.toNat:Nat):Int),0,f.n,[]⟩:bu)=f:=by
   cases f;simp only at *;subst e hb0;congr 1;omega
  rw[e2]
 ·have e2:f.aU=2/\f.n=0:=by obtain hw|hw:=hw.2.2;exact ai hw.1 e;exact hw
  rw[if_neg e,jV,wM _ _ qO,if_neg qO];have e1:(dK f.b.length++(f.b++r)).drop (gZ f.b.length)=f.b++r:=by unfold gZ;exact List.drop_left
  simp only[e1,List.drop_left,List.take_left];have e3:(⟨((f.num.toNat:Nat):Int),2,0,f.b⟩:bu)=f:=by
   cases f;simp only at *;obtain⟨rfl,rfl⟩:=e2;congr 1;omega
  rw[e3]
def acv:∀ {l:List bu} {n:Nat},(∀ f∈l,oI f=true/\f.fit/\f.b.length<=16384)->l.length<=n->Dq n (bK l)=l
 |[],0,_,_=>rfl
 |[],_+1,_,_=>rfl
 |f::l,0,_,h=>by simp at h
 |f::l,n+1,hf,h=>by
  have h1:=hf f jL;show Dq (n+1) (jk f++bK l)=f::l;rw[anu h1.1 h1.2.1 h1.2.2,acv (λg hg=>hf g (jA _ hg)) (by simpa using h)]
def Vx(b:List UInt8):aF:=mf (Dq 8 b)
def arO{c:aF}{v:Int}(h:fZ c v):∀ f∈sS c,oI f=true/\f.fit/\f.b.length<=16384:=λf hf=>by
 rw[<-Eb h]at hf;have:=((JM h).axy f hf).put;exact⟨this.2.1,this.1,by omega⟩
def aty{c:aF}{v:Int}(h:fZ c v):Vx (fQ c)=c:=by
 unfold Vx fQ;rw[acv (arO h) (by rw[<-Eb h];exact JO c v)];exact acR h
def sK(l:List Int)(v:Int):Nat->List Int
 |0=>l
 |i+1=>(sK l v i).set i v
def y9(l:List Int)(v:Int):∀ i,(sK l v i).length=l.length
 |0=>rfl
 |i+1=>by
  show((sK l v i).set i v).length=_;rw[nM,y9 l v i]
def o7(n:aA):Int:=(n.ae.log.length:Int)+1
def gI(n:aA)(i:Nat):aA:={ n with role:=2,next:=sK n.next (o7 n) i,gz:=sK n.gz 0 i }
def awN(n:aA)(i j k:Nat):zK (gI n i) k=zK (gI n j) k:=by
 have h1:(gI n i).next.length=(gI n j).next.length:=(y9 n.next (o7 n) i).trans (y9 n.next (o7 n) j).symm
 have h2:(gI n i).gz.length=(gI n j).gz.length:=(y9 n.gz 0 i).trans (y9 n.gz 0 j).symm;obtain _|_|_|_|_|_|_|_|_|_|_|_|_|_|_|_|_|_|_|_|_|_|k:=k
 all_goals first|rfl|exact ah (V.row 6) h1|exact ah (V.row 7) h2
def lK(n:aA):List aP:=[⟨3,o7 n,n.ae.term,[]⟩]
def xK(n:aA)(m:Nat):aA×List aV×Int:=
 bif decide (o7 n<=64) then(bif !decide ((aS (gI n m) (lK n)).2=0) then((aS (gI n m) (lK n)).1,[],(aS (gI n m) (lK n)).2) else((aS (gI n m) (lK n)).1,(lu (aS (gI n m) (lK n)).1 m).1,(lu (aS (gI n m) (lK n)).1 m).2))
 else(gI n m,(lu (gI n m) m).1,(lu (gI n m) m).2)
def J6{l:List Int}{p:Nat}{v:Int}{g:Nat->V}(hp:p<l.length){j k:Nat}(hk:k<1)(e:g 0=iV v):mr (λj k=>V.d (iD (l.getD j 0))) p 0 1 g j k=V.d (iD ((l.set p v).getD j 0)):=ab8
def aqr(n:aA)(m:Nat)(hm:n.many=m)(h5:m<=5)(hl:n.ae.log.length<=1000)(hx:n.next.length=m)(hy:n.gz.length=m)(hn:wB n)(hL:o7 n<=64->mV (gI n m).ae (lK n))(Jl:o7 n<=64->(aS (gI n m) (lK n)).1.aB.down=false->(aS (gI n m) (lK n)).1.role=2->∀ d∈jb (aS (gI n m) (lK n)).1 m,xE (aS (gI n m) (lK n)).1 d)(jo:(gI n m).aB.down=false->(gI n m).role=2->∀ d∈jb (gI n m) m,xE (gI n m) d):af 164 [.ptr 0 0] (NS n) (NR (xK n m)):=by
 refine ay func164 λX=>?_
 (repeat'(first|refine T.cut (x:=.seq (.region 3 _ _) _) ⟨64,[(0,.ptr 0 0),(4,iV (o7 n))],NS (gI n m)⟩ ?_ ?_|refine QY (id:=9) (pre:=(nP f164 9).toList.take 10) (wZ:=(nP f164 9).toList.drop 10) rfl rfl ?_|refine aC ?_|refine bU 6 [16,18] (ooz 13 [o2,o0,o0,o1,o3,(1,1,true,[])]) ?_|refine mc ?_ ?_|refine aZ _ (fM (((Conv.le (s2:=⟨64,[(0,.ptr 0 0),(4,iV (o7 n)),(46,.ptr 0 0),(55,.row 8 1)],⟨NL (gI n m)++[(8,bQ 138 4 pI .z (lK n))],9⟩⟩) ?_).trans (Conv.eG (i:=8) (h:=λj=>pI ((lK n).getD j .z)) (iI.of (n:=1) (z:=4) (E:=138) qN rfl fr))).trans (Conv.le (s2:=⟨64,[(0,.ptr 0 0),(4,iV (o7 n)),(46,.ptr 0 0),(55,.d (kK (lK n)))],NS (gI n m)⟩) ?_)) ?_)|refine fO [0,1,2,3,4,5,6,7] (Ea (gI n m) (lK n) (hL (bT aG)) ⟨hn.ok,hn.up,hn.axz⟩) ?_|(refine qZ.mk (p:=(!decide ((aS (gI n m) (lK n)).2=0))=false) ?_ ?_;exact h;refine fO [0,1,2,3,4,5,6,7] (TD (aS (gI n m) (lK n)).1 m hm h5 (Jl (bT aG))) ?_)|refine fO [0,1,2,3,4,5,6,7] (TD (gI n m) m hm h5 jo) ?_|refine dU m (λi (a:Unit)=>⟨64,[(0,.ptr 0 0),(4,iV (o7 n)),(22,iV m),(23,iV i)],NS (gI n i)⟩) (λ_ _=>True) () ?_ True.intro (λi a hi hp=>?_)|refine aZ () ⟨?_,tv,?_⟩|refine aj.mk (λh=>?_) (λh=>?_)|refine ag.a ?_|(refine qZ.mk (p:=(!decide ((aS (gI n m) (lK n)).2=0))=true) ?_ ?_;exact h;refine NR.of (p:=((aS (gI n m) (lK n)).1,[],(aS (gI n m) (lK n)).2)) ?_ (bM qN qN (fH [.d (iU []),iV ((aS (gI n m) (lK n)).2)] rfl fr vw) ?_))|(refine qZ.mk (p:=(!decide ((aS (gI n m) (lK n)).2=0))=false) ?_ ?_;exact h;refine NR.of (p:=((aS (gI n m) (lK n)).1,(lu (aS (gI n m) (lK n)).1 m).1,(lu (aS (gI n m) (lK n)).1 m).2)) ?_ (bM qN qN (fH [.d (iU (lu (aS (gI n m) (lK n)).1 m).1),iV (lu (aS (gI n m) (lK n)).1 m).2] rfl fr vw) ?_))|refine NR.of (p:=((gI n m),(lu (gI n m) m).1,(lu (gI n m) m).2)) ?_ (bM qN qN (fH [.d (iU (lu (gI n m) m).1),iV (lu (gI n m) m).2] rfl fr vw) ?_)|refine ag.mk ?_ ?_))<;>(try(refine dm.mk ?_;repeat'(first|exact tv|exact rfl|refine an ?_ ?_|refine ag.mk ?_ ?_)))
 all_goals try exact cls
 all_goals(try(refine leq ?_ ?_ <;> repeat'(first|exact tv|exact qV|exact qW|refine vq (ah iV ?_) tv|refine jQ qN (λk hk=>?_) ?_|refine gU qN ?_ (λj hj k hk=>?_) ?_|refine an ?_ ?_)))
 all_goals first|exact rfl|exact cm qV|exact hm|(have hk:k<23:=hk;exact cm (vq (awN n _ _ k) (NZ qN _ k hk)))|(unfold xK;simp only[*,dw,bz];done)|(have e:i=m:=om;subst e;first|exact rfl|exact cm qV)|(have h9:i<m:=om;first|(refine⟨rfl,?_,bF _⟩;show i<(sK _ _ i).length;rw[y9];omega)|(show(i:Int)<((sK _ _ i).length:Int);rw[y9];omega)|(show i<(sK _ _ i).length;rw[y9];omega)|exact cm (vq (J6 (p:=i) (l:=sK n.next (o7 n) i) (by rw[y9];omega) hk rfl) tv)|exact cm (vq (J6 (p:=i) (l:=sK n.gz 0 i) (by rw[y9];omega) hk rfl) tv)|(show(sK _ _ i).length=(sK _ _ (i+1)).length;rw[y9,y9])|omega)|exact uF|exact kk|(have hk:k<4:=hk;obtain rfl:j=0:=Nat.lt_one_iff.1 hj;obtain _|_|_|_|k:=k <;> first|exact cm qV|exact cm (pg rfl)|omega)
