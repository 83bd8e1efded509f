/- Lemmas. -/
import Derived.Deep.RegionLaw
import Derived.Lib.AppendZerosOnto
import Derived.Lib.Overlaps
import Derived.Test.YtnibdnahojjcgaaGreatC03
namespace Go.Proofs.YtnibdnahojjcgaaGreat
set_option linter.all false
set_option maxRecDepth 100000
set_option maxHeartbeats 0
open Go.RowKit Tryz
def yu{f:bu}(h:oI f=true):1<=f.num/\f.num<=1000/\((f.aU=0/\f.b=[])\/(f.aU=2/\f.n=0)):=by
 unfold oI at h;simp only[qf,gq]at h;obtain⟨⟨h1,h2⟩,h3⟩:=h;refine⟨h1,h2,?_⟩;split at h3
 ·rename_i e
  exact .inl ⟨e,uI (bT h3)⟩
 ·split at h3
  ·rename_i e
   exact .inr ⟨e,bT h3⟩
  ·cases h3
def UJ{f:bu}(h:oI f=true):iC f.num f.aU=(dK (rF f.num f.aU),0)/\rF f.num f.aU / 8=f.num.toNat/\rF f.num f.aU % 8=f.aU.toNat/\rF f.num f.aU<18446744073709551616:=by
 obtain⟨h1,h2,h3⟩:=yu h;have h4:PN f.num f.aU=true:=aX ⟨h1,h2,by obtain h3|h3:=h3 <;> simp[h3.1]⟩;refine⟨by unfold iC;rw[if_pos h4],?_,?_,?_⟩ <;> unfold rF <;> obtain h3|h3:=h3 <;> rw[h3.1] <;> omega
def Rq{f:bu}(h:oI f=true)(r:List UInt8):gV ((iC f.num f.aU).1++r)=(f.num.toNat,f.aU.toNat,(iC f.num f.aU).1.length,0):=by
 obtain⟨h1,h2,h3,h4⟩:=UJ h;obtain⟨h5,h6,h7⟩:=yu h;rw[h1];show gV (dK (rF f.num f.aU)++r)=(f.num.toNat,f.aU.toNat,(dK (rF f.num f.aU)).length,0);unfold gV;rw[wM _ _ h4,if_pos rfl];simp only[h2,h3];rw[if_pos ⟨by omega,by omega,by obtain h7|h7:=h7 <;> rw[h7.1] <;> simp⟩];rfl
def J8{f:bu}:jk f=(iC f.num f.aU).1++(if f.aU=0 then dK f.n else dK f.b.length++f.b):=rfl
def Yf{f:bu}(h:oI f=true):1<=(iC f.num f.aU).1.length/\(iC f.num f.aU).1.length<=(jk f).length:=by
 rw[(UJ h).1];refine⟨MS _,?_⟩;rw[J8,(UJ h).1,bP];exact Nat.le_add_right _ _
def acD{f:bu}(h:oI f=true)(hf:f.fit)(hb:f.b.length<=16384)(r:List UInt8):qi (jk f++r)=((jk f).length,0):=by
 have hw:=yu h;unfold qi;rw[J8,jV,Rq h];simp only[List.drop_left];by_cases e:f.aU=0
 ·rw[if_pos e,wM _ _ hf.2.2.2.2.1];simp[e,gZ]
 ·have e2:f.aU=2:=by obtain hw|hw:=hw.2.2;exact ai hw.1 e;exact hw.1
  rw[if_neg e,jV,wM _ _ qO];simp[e2,gZ];rw[if_neg qO,if_neg qO,Nat.add_assoc]
def XF{b:List UInt8}{n m:Nat}(h:dh b=(n,m,0)):aQ 194 [.d (bW b)] (bI [.d (.v (.int .u64 n)),iV m,iV 0]):=by
 have:=aeY b;unfold PK at this;rw[h]at this;exact this
def adp{f:bu}(h:oI f=true)(r:List UInt8):aQ 227 [.d (bW ((iC f.num f.aU).1++r))] (bI [iV f.num,iV f.aU,iV (iC f.num f.aU).1.length,iV 0]):=by
 have:=aoO ((iC f.num f.aU).1++r);unfold Vg at this;rw[Rq h]at this;obtain⟨h1,h2,h3⟩:=yu h;have e1:((f.num.toNat:Nat):Int)=f.num:=qO;have e2:((f.aU.toNat:Nat):Int)=f.aU:=qO;simp only[e1,e2]at this;exact this
def ala{a b c:List UInt8}{i:Int}{j:Nat}(hi:i=(a.length:Int)+(b.length:Int)):(a++(b++c)).getD (i.toNat+j) 0=c.getD j 0:=by
 have e:i.toNat+j=a.length+(b.length+j):=qO;rw[e,bn,bn,oP qO,oP qO];congr 2;omega
def ark{f:bu}{i n:Nat}{g:Nat->V}(h0:g 0=iV f.num)(h1:g 1=iV f.aU)(h2:g 2 = .d (.v (.int .u64 f.n)))(h3:g 3 = .row i n)(hn:n=f.b.length):VW 0 (jf i n 1 (λj _=>gG (f.b.getD j 0)) (.agg 4 g)) (xR f):=VW.agg λk hk=>match k,hk with
 |0,_=>by rw[h0];exact qV
 |1,_=>by rw[h1];exact qV
 |2,_=>by rw[h2];exact qV
 |3,_=>by rw[h3,jB,hn];exact qV
 |k+4,h=>ai h qO
def arl{f:bu}(h:f.b=[]){g:Nat->V}(h0:g 0=iV f.num)(h1:g 1=iV f.aU)(h2:g 2 = .d (.v (.int .u64 f.n)))(h3:g 3 = .dC):VW 0 (.agg 4 g) (xR f):=VW.agg λk hk=>match k,hk with
 |0,_=>vq h0 trivial
 |1,_=>vq h1 trivial
 |2,_=>vq h2 trivial
 |3,_=>by rw[h3];exact pg (by rw[h];rfl)
 |k+4,h=>ai h qO
def ann(f:bu)(ha:oI f=true)(hf:f.fit)(hw:f.aU=0):aQ 203 [.d (bW (jk f))] (xR f):=by
 have e:jk f=(iC f.num f.aU).1++dK f.n:=by rw[J8,if_pos hw]
 rw[e];have hv:dh (((iC f.num f.aU).1++dK f.n).drop (iC f.num f.aU).1.length)=(f.n,gZ f.n,0):=by rw[List.drop_left];have:=wM f.n [] hf.2.2.2.2.1;rwa [pO]at this
 have hl:((iC f.num f.aU).1++dK f.n).length-(iC f.num f.aU).1.length=((iC f.num f.aU).1++dK f.n).length-(iC f.num f.aU).1.length:=rfl;have hp:=Yf ha;have hb:=(yu ha).2.2;have hll:((iC f.num f.aU).1++dK f.n).length=(iC f.num f.aU).1.length+(dK f.n).length:=bP;refine ay func203 λX=>?_
 (repeat'(first|refine aC ?_|refine aO (adp ha (dK f.n)) ?_|refine af.tell (XF hv) ⟨JY hl,tv⟩ ?_|refine lq (λh=>?_)|refine ag.mk qN ?_|refine Fin.tell (arl (by obtain hb|hb:=hb;exact hb.2;rw[hw]at hb;cases hb.1) rfl rfl rfl rfl)|refine ag.mk ?_ ?_))<;>try exact cls
def anm(f:bu)(ha:oI f=true)(hf:f.fit)(hw:f.aU=2):aQ 203 [.d (bW (jk f))] (xR f):=by
 have e:jk f=(iC f.num f.aU).1++(dK f.b.length++f.b):=by rw[J8,if_neg qO]
 rw[e];have hn:=hf.2.2.2.2.2;have hv:dh (((iC f.num f.aU).1++(dK f.b.length++f.b)).drop (iC f.num f.aU).1.length)=(f.b.length,gZ f.b.length,0):=by rw[List.drop_left];exact wM _ _ qO
 have hl:((iC f.num f.aU).1++(dK f.b.length++f.b)).length-(iC f.num f.aU).1.length=((iC f.num f.aU).1++(dK f.b.length++f.b)).length-(iC f.num f.aU).1.length:=rfl;have hp:=Ij f.num f.aU;have hq:=FI f.b.length;have hb:=(yu ha).2.2;have hll:((iC f.num f.aU).1++(dK f.b.length++f.b)).length=(iC f.num f.aU).1.length+(gZ f.b.length+f.b.length):=by rw[bP,bP];rfl
 refine ay func203 λX=>?_
 (repeat'(first|refine aC ?_|refine aO (adp ha (dK f.b.length++f.b)) ?_|refine af.tell (XF hv) ⟨JY hl,tv⟩ ?_|refine aj.n (λh=>?_)|refine ag.mk qN ?_|refine Fin.eG (i:=1) (h:=λj _=>gG (f.b.getD j 0)) (iI.of (cZ _) rfl ?_) (Fin.tell (ark rfl rfl ?_ rfl ?_))|refine ag.mk ?_ ?_))<;>try exact cls
 all_goals first|(intro j hj k hk;exact ah (λx=>V.d (gG x)) (ala rfl))|(have hn0:f.n=0:=(by obtain hb|hb:=hb <;> omega);rw[hn0];rfl)
def arn(f:bu)(ha:oI f=true)(hf:f.fit):aQ 203 [.d (bW (jk f))] (xR f):=by
 rcases(yu ha).2.2 with h|h
 ·exact ann f ha hf h.1
 ·exact anm f ha hf h.1
def U7(l:List bu)(f:bu):Bool:=bif decide ((l.length:Int)=0) then true else xC (l.getD ((l.length:Int)-1).toNat .z) f
def atc(l:List bu)(f:bu)(hn:l.length<=10000):af 200 [xR f,.ptr 0 0] ⟨[(0,.Wp 1 (λ_=>.row 1 l.length)),(1,bQ 163 4 kP .z l)],2⟩ (λrv rt=>rv=(.b (U7 l f))/\rt=⟨[(0,.Wp 1 (λ_=>.row 1 l.length)),(1,bQ 163 4 kP .z l)],2⟩):=by
 refine ay func200 λX=>?_
 (repeat'(first|refine aC ?_|refine bU 1 [] (ooz 14 []) ?_|refine mc ?_ ?_|refine jd.val (.b (xC (l.getD ((l.length:Int)-1).toNat .z) f)) ?_|refine uh qN (vq (ah V.b ?_) tv) (by repeat'(first|exact tv|refine fE qN ?_ ?_|refine an ⟨nb rfl,aW.row rfl fv⟩ ?_|exact qW|refine an ?_ ?_))))<;>(try(refine dm.mk ?_;repeat'(first|exact tv|exact rfl|refine⟨_,λht=>af.tell (afm (l.getD ((l.length:Int)-1).toNat .z) f) ⟨agg,agg,tv⟩ ⟨rfl,rfl⟩,?_⟩|refine an ?_ ?_|refine ag.mk ?_ ?_)))
 all_goals try exact cls
 all_goals(intro h;have h:=bV h;exact⟨rfl,qo,(by first|omega|decide)⟩)
def BF{l:List bu}{i:Nat}(h:i<l.length):(bK l).drop (bK (l.take i)).length=jk (l.getD i .z)++bK (l.drop (i+1)):=by
 have e:bK l=bK (l.take i)++(jk (l.getD i .z)++bK (l.drop (i+1))):=by
  have h1:l=l.take i++(l.getD i .z::l.drop (i+1)):=by rw[<-wO .z h,List.take_append_drop]
  have h2:bK (l.take i++(l.getD i .z::l.drop (i+1)))=bK (l.take i)++(jk (l.getD i .z)++bK (l.drop (i+1))):=by simp[bK]
  rw[<-h2,<-h1]
 conv=>lhs;rw[e]
 rw[List.drop_left]
def JE{l:List bu}(hl:pM l){i:Nat}(h:i<l.length):(bK (l.take (i+1))).length=(bK (l.take i)).length+(jk (l.getD i .z)).length/\(bK (l.take i)).length+(jk (l.getD i .z)).length<=(bK l).length/\1<=(jk (l.getD i .z)).length:=by
 have h1:=ah List.length (BF h);rw[eY,bP]at h1;have h2:=Yf (hl.alone i h);refine⟨by rw[kR .z h,QX,bP],?_,by omega⟩;omega
def alQ{l:List bu}(hl:pM l){i:Nat}(h:i<l.length):aQ 202 [.d (bW ((bK l).drop (bK (l.take i)).length))] (bI [iV (jk (l.getD i .z)).length,iV 0]):=by
 have:=aoP ((bK l).drop (bK (l.take i)).length);unfold Vh at this;rw[BF h,acD (hl.alone i h) (hl.fit i h) (hl.big i h)]at this;rw[BF h];exact this
def anl{l:List bu}{i:Nat}(h:i<l.length){N n k:Nat}(hn:n=(jk (l.getD i .z)).length)(hk:k=(bK (l.take i)).length):VW N (.d (.sl n 1 (λj=>(λj _=>gG ((bK l).getD j 0)) (k+j)))) (.d (bW (jk (l.getD i .z)))):=by
 have e:jk (l.getD i .z)=((bK l).drop k).take (jk (l.getD i .z)).length:=by rw[hk,BF h,List.take_left]
 have h1:=ah List.length (BF h);rw[eY,bP]at h1;rw[e];exact alO qO qO
def agA{l:List bu}(hl:pM l){i:Nat}(h:i<l.length):U7 (l.take i) (l.getD i .z)=true:=by
 unfold U7;have hlen:(l.take i).length=i:=by rw[dG];omega
 rw[hlen];by_cases e:i=0
 ·subst e;rfl
 ·have h2:=hl.GK i qO h;have h3:(l.take i).getD ((i:Int)-1).toNat .z=l.getD ((i:Int)-1).toNat .z:=by
   rw[bn,bn,nX,if_pos qO]
  rw[h3,h2];cases decide ((i:Int)=0) <;> rfl
def wH{l:List bu}{i:Nat}(hi:i<=l.length)(h:(bK (l.take i)).length<(bK l).length):i<l.length:=by
 refine Nat.lt_of_le_of_ne hi λe=>?_
 subst e;rw[mM]at h;omega
def RY(l:List bu)(hl:pM l):aQ 153 [.d (bW (bK l))] (bI [.d (jv l),iV 0]):=by
 have hsz:=hl.size;have hln:=hl.len;refine ay func153 λX=>?_
 (repeat'(first|refine aC ?_|refine uN 0 0 163 (λj k=>.d (kP (([]:List bu).getD j .z) k)) rfl rfl qN rfl qN (dU l.length (λi (a:Nat)=>⟨47,[(0,.d (bW (bK l))),(4,.ptr 0 0),(5,.fn 200 0 1 (λ_=>.ptr 0 0)),(6,iV (bK (l.take i)).length)],⟨[(0,.Wp 1 (λ_=>.row 1 (l.take i).length)),(1,bQ 163 4 kP .z (l.take i))],2⟩⟩) (λi a=>True) 0 ?_ ?_ (λi a hi hp=>?_))|refine aZ 0 ⟨?_,?_,?_⟩|refine aj.n (λh=>?_)|refine aj.mk (λh=>ai h (by rw[agA hl (by have h9:=bT ‹decide (((bK (l.take i)).length:Int)<((bK l).length:Int))=true›;exact wH hi qo)];decide)) (λh=>?_)|refine af.tell (alQ hl (by have h9:=bT ‹decide (((bK (l.take i)).length:Int)<((bK l).length:Int))=true›;exact wH hi qo)) ⟨JY rfl,tv⟩ ?_|refine af.tell (arn (l.getD i .z) (hl.alone i (by have h9:=bT ‹decide (((bK (l.take i)).length:Int)<((bK l).length:Int))=true›;exact wH hi qo)) (hl.fit i (by have h9:=bT ‹decide (((bK (l.take i)).length:Int)<((bK l).length:Int))=true›;exact wH hi qo))) ⟨anl (by have h9:=bT ‹decide (((bK (l.take i)).length:Int)<((bK l).length:Int))=true›;exact wH hi qo) ?_ rfl,tv⟩ ?_|refine fO [0,1] (atc (l.take i) (l.getD i .z) (by rw[dG];have:=hl.len;omega)) ?_|refine aj.n (λh=>?_)|refine aj.mk (λh=>?_) (λh=>?_)|refine ag.a ?_|refine FD (C:=kP) (z:=bu.z) (L:=l) rfl rfl ?_ ?_ qV|refine ag.mk ?_ ?_))<;>try exact cls
 all_goals(try(refine leq ?_ ?_ <;> repeat'(first|exact tv|exact qV|exact qW|refine vq (ah (V.row _) ?_) qN|refine gX ?_|refine vq (ah iV ?_) tv|refine fE qN ?_ ?_|refine an ⟨nb rfl,aW.row ?_ (λj hj k hk=>vq ?_ trivial)⟩ ?_|refine an ?_ ?_)))
 all_goals first|(simp;done)|((try simp only[gq,iy,nY,o9]at *);have h9:i<l.length:=wH hi qo;obtain⟨q1,q2,q3⟩:=JE hl h9;have q4:(l.take i).length=i:=(by rw[dG];omega);have q5:(l.take (i+1)).length=i+1:=(by rw[dG];omega);first|omega|(simp only[dM];omega)|(simp;omega)|(rw[kR .z h9];refine Ak rfl (by simp;omega) fr (λj hj=>?_);obtain rfl:j=0:=(by simp at hj;omega);obtain _|_|_|_ |  k:=k <;> first|rfl|omega))|((try simp only[gq,iy,nY,o9]at *);have e:i=l.length:=(by obtain h9|h9:=l7 i l.length;exact ai (JE hl h9).2 qo;omega);subst e;first|(rw[mM];done)|(intro j hj k hk;rw[mM]))
def adq(l:List bu)(dO:Int)(hl:l.length<=10000)(hb:∀ i,i<l.length->(l.getD i .z).b.length<=100000)(hm:∀ i,i<l.length->(l.getD i .z).num<=dO):aQ 155 [.d (jv l),iV dO] (bI [.d (jv l),.d (jv [])]):=by
 refine ay func155 λX=>?_
 (repeat'(first|refine aC ?_|refine rQ 4 163 (λj k=>.d (kP (([]:List bu).getD j .z) k)) rfl rfl qN (dU l.length (λi (a:Nat)=>⟨33,[(1,iV dO),(4,.row 0 (l.take i).length),(5,.dC),(8,.d (jv l)),(9,iV l.length),(10,iV i)],⟨[(0,bQ 163 4 kP .z (l.take i))],1⟩⟩) (λi a=>True) 0 ?_ ?_ (λi a hi hp=>?_))|refine aZ 0 ⟨?_,?_,?_⟩|refine aj.mk (λh=>?_) (λh=>ai (bV h) (by have:=hm i om;simp only[jg];omega))|refine aO (aom (l.getD i .z).b.length (λj _=>gG ((l.getD i .z).b.getD j 0)) (by have:=hb i om;omega)) ?_|refine aj.mk (λh=>?_) (λh=>?_)|refine ag.a ?_|refine FD (C:=kP) (z:=bu.z) (L:=l) rfl rfl ?_ ?_ VW.dC|refine ag.mk ?_ ?_))<;>try exact cls
 all_goals(try(refine leq ?_ ?_ <;> repeat'(first|exact tv|exact qV|refine vq (ah (V.row _) ?_) qN|refine an ⟨nb rfl,aW.row ?_ (λj hj k hk=>vq ?_ trivial)⟩ ?_|refine an ?_ ?_)))
 all_goals first|((try simp only[gq,iy,nY,o9]at *);have h9:i<l.length:=qo;have q4:(l.take i).length=i:=(by rw[dG];omega);have q5:(l.take (i+1)).length=i+1:=(by rw[dG];omega);first|omega|(simp;omega)|(rw[kR .z h9];refine Ak rfl (by simp;omega) fr (λj hj=>?_);obtain rfl:j=0:=(by simp at hj;omega);obtain _|_|_|_ |  k:=k <;> first|rfl|omega))|((try simp only[gq,iy,nY,o9]at *);have e:i=l.length:=qo;subst e;first|(rw[mM];done)|(intro j hj k hk;rw[mM]))
def Gg(s:aN)(v q:Int):Bool:=
 bif (bif (bif !(bif (bif (bif dQ s.version 1 3 then dQ s.next 1 1048576 else false) then dQ s.axz 0 8 else false) then dQ s.mg 0 q else false) then true else !(bif rX (λx=>x.ax) 8 0 s.aJ then s.aJ.all su else false)) then true
  else !(bif rX (λx=>x.set) 8 0 s.opens then s.opens.all uz else false)) then true else !Oz s v
def Lr(s:aN)(v:Int):Int:=bif !dQ v 1 3 then 1 else bif decide (v<3) then(bif Gg s v 0 then 6 else 0) else(bif Gg s v 64 then 6 else 0)
def ape (s : aN) (v : Int) (hs : aaK s) : aQ 246 [dZ s, iV v] (iV (Lr s v)) := by
  refine af.of func246 rfl rfl (by simp [f246]) λX => ?_
  (repeat'(first | refine aC ?_ | refine af.tell (D7 _ _ _) ⟨VW.refl trivial, VW.refl trivial, VW.refl trivial, trivial⟩ ?_ | refine aZ _ (fM (λht => af.tell (D7 _ _ _) ⟨VW.refl trivial, VW.refl trivial, VW.refl trivial, trivial⟩ ⟨rfl, rfl⟩) ?_) | refine af.tell (aiU s.aJ 8 hs.l1 hs.k1) ⟨VW.refl trivial, VW.refl trivial, gX trivial, trivial⟩ ?_ | refine af.tell (aiV s.opens 8 hs.l2 hs.k2) ⟨VW.refl trivial, VW.refl trivial, gX trivial, trivial⟩ ?_ | refine aZ _ (fM (λht => af.tell (aov s.aJ hs.l1) ⟨VW.refl trivial, gX trivial, trivial⟩ ⟨rfl, rfl⟩) ?_) | refine aZ _ (fM (λht => af.tell (aow s.opens hs.l2) ⟨VW.refl trivial, gX trivial, trivial⟩ ⟨rfl, rfl⟩) ?_) | refine aZ _ (fM (λht => af.tell (api s v hs) ⟨agg, VW.refl trivial, trivial⟩ ⟨rfl, rfl⟩) ?_) | refine aj.mk (λh => ?_) (λh => ?_) | refine ag.a ?_ | refine Fin.tell (fA (ah iV ?_) trivial)))<;>try exact cls
  all_goals first | exact (dH h).symm | (rename_i h0 h1; exact ((bG h0).trans ((dH h1).trans (dH h))).symm) | (rename_i h0 h1; exact ((bG h0).trans ((dH h1).trans (bG h))).symm) | (rename_i h0 h1; exact ((bG h0).trans ((bG h1).trans (dH h))).symm) | (rename_i h0 h1; exact ((bG h0).trans ((bG h1).trans (bG h))).symm)
def ami{l:List Int}(h:kW l=true):l.length<=8/\(jy l).length<=8:=by
 obtain⟨h1,h2,h3⟩:=zl h;have hm:=Nr h3;refine⟨h2,?_⟩;have key:∀ r:List Int,(∀ n∈r,0<n/\n<=64)->(jy r).length=r.length:=by
  intro r;induction r with
  |nil=>intro _;rfl
  |cons n r ih=>
   intro hr;have e:jy (n::r)=dK n.toNat++jy r:=rfl;have hn:=hr n jL;rw[e,bP,ih (λx hx=>hr x (jA _ hx)),DW _ qO];simp;omega
 rw[key l hm];exact h2
def abT{c:aF}(h:Qb c):(xA c.chunks).length<=8:=by
 unfold xA;split
 ·exact(ami (by assumption)).2
 ·simp
def fZ.num{c:aF}{v:Int}(h:fZ c v):abb c:=by
 have hf:=h.fit;have hk:=BI h.kM;have h1:=hf.ax;have h2:=hf.seq;have h3:=hf.set;have h4:=hf.id;have h5:=hf.n;have h6:=hf.text;exact⟨by omega,by omega,by omega,by omega,by omega,by omega,h.chunks,by omega⟩
def Zb{c:aF}{v:Int}(h:fZ c v):wY v 7 (rJ c):=by
 have hn:=h.num;have r0:wY v 0 []:=⟨List.Pairwise.nil,(λf hf=>by cases hf),λf hf=>by cases hf⟩;have r1:wY v 1 (Ad c):=r0.num qO hn.kind;have r2:wY v 2 (Ac c):=r1.num qO hn.ax;have r3:wY v 3 (Aa c):=r2.num qO hn.seq;have r4:wY v 4 (zZ c):=r3.num qO hn.set;have r5:wY v 5 (zY c):=r4.num qO hn.id;have r6:wY v 6 (xk c):=r5.num qO hn.n;exact r6.byt (.inl rfl) (by have:=abT h.fit;omega)
def JM{c:aF}{v:Int}(h:fZ c v):wY v 8 (iL c v):=by
 have r7:=Zb h;unfold iL;by_cases e:3<=v
 ·rw[aX e,dw];exact r7.byt (.inr ⟨rfl,λ_=>e⟩) (by have:=h.fit.text;omega)
 ·rw[aT e,bz];exact⟨r7.Bj,λf hf=>by have:=r7.le f hf;omega,r7.axy⟩
def Eb{c:aF}{v:Int}(h:fZ c v):iL c v=sS c:=by
 unfold iL;by_cases e:3<=v
 ·rw[aX e,dw]
 ·rw[aT e,bz];have ht:c.text=[]:=h.fit.text.2 λe11=>by
   have:=h.le;rw[e11]at this;simp[jX]at this;omega
  unfold sS ql;rw[if_pos ht,pO]
def Py.put{v:Int}{f:bu}(h:Py v f):f.fit/\oI f=true/\f.b.length<=1000:=by
 unfold Py at h;unfold bu.fit oI;obtain⟨h1,h2,h3,h4,h5,h6⟩|⟨h1,h2,h3,h4,h5,h6,h7⟩:=h
 ·rw[h6,h1];refine⟨⟨by omega,by omega,by omega,by omega,by omega,by simp⟩,?_,by simp⟩;simp;omega
 ·rw[h5,h1];refine⟨⟨by omega,by omega,by omega,by omega,by omega,by omega⟩,?_,by omega⟩;simp;omega
def JO(c:aF)(v:Int):(iL c v).length<=8:=by
 have:=CZ c;unfold iL;cases decide (3<=v) <;> simp only[dw,bz] <;> omega
def Iq{c:aF}{v:Int}(h:fZ c v):pM (iL c v):=by
 have hr:=JM h;have hl:=JO c v;have hg:∀ i,i<(iL c v).length->_:=λi hi=>(hr.axy _ (ja (z:=.z) hi)).put
 refine⟨λi hi=>(hg i hi).1,λi hi=>(hg i hi).2.1,λi hi=>by have:=(hg i hi).2.2;omega,λi h0 hi=>adn hr.Bj h0 hi,?_,by omega⟩;have:=acw (l:=iL c v) (B:=1020) (λf hf=>by
  have:=(hr.axy f hf).put;have:=Oe this.1;omega)
 have:=vJ 1020 hl;omega
def agn{v:Int}(h1:1<=v)(h3:v<=3):0<(fK 1 v).length/\(fK 1 v).length<=10/\∀ s∈fK 1 v,((1<=s.num/\s.num<=6/\s.aU=0)\/(7<=s.num/\s.num<=8/\s.aU=2))/\(s.kM=true->s.num=1):=by
 rcases(show v=1\/v=2\/v=3 by omega) with rfl|rfl|rfl <;> refine⟨by decide,by decide,?_⟩ <;> simp[fK,oz,uo,n4,b4]
def ant{v:Int}{f:bu}{s:kT}(hf:Py v f)(hs:(1<=s.num/\s.num<=6/\s.aU=0)\/(7<=s.num/\s.num<=8/\s.aU=2))(he:s.num=f.num):yh f s 1=true:=by
 unfold yh;obtain⟨h1,h2,h3,h4,h5,h6⟩|⟨h1,h2,h3,h4,h5,h6,h7⟩:=hf <;> obtain⟨g1,g2,g3⟩|⟨g1,g2,g3⟩:=hs
 ·rw[h1,g3];simp;omega
 ·omega
 ·omega
 ·rw[h1,g3];have:0<f.b.length:=List.length_pos_iff.2 h6;simp;omega
def agU{c:aF}{v:Int}(h:fZ c v):Ja (fK 1 v) (iL c v):=by
 have hr:=JM h;have hk:=BI h.kM;have h1:1<=v:=by
  have:=h.le;have:=h.kM;unfold jX at *;split at * <;> omega
 obtain⟨s1,s2,s3⟩:=agn h1 h.v3;refine⟨Iq h,s1,s2,λi hi j hj he=>?_,λj hj hn=>?_⟩
 ·rw[Y8 hr.Bj hi];exact ant (hr.axy _ (ja hi)) (s3 _ (ja hj)).1 he
 ·have e:=(s3 _ (ja hj)).2 hn;refine Y9 (f:=⟨1,0,c.kind.toNat,[]⟩) ?_ (by rw[e]);rw[Eb h];simp only[sS,rJ,xk,zY,zZ,Aa,Ac,Ad,List.mem_append];have:(⟨1,0,c.kind.toNat,[]⟩:bu)∈lD 1 c.kind:=by
   unfold lD;rw[if_neg qO];simp
  simp[this]
def fQ(c:aF):List UInt8:=bK (sS c)
def J3(a n:Int):(bK (lD a n)).length<=20:=by
 unfold lD;split
 ·simp[bK]
 ·have h1:=Ij a 0;have h2:=vN n.toNat;simp[bK,jk];omega
def af5(a:Int)(b:List UInt8):(bK (ql a b)).length<=20+b.length:=by
 unfold ql;split
 ·simp[bK]
 ·have h1:=Ij a 2;have h2:=vN b.length;simp[bK,jk];omega
def ajG(a b:List bu):bK (a++b)=bK a++bK b:=by simp[bK]
def MO{c:aF}{v:Int}(h:fZ c v):0<(fQ c).length/\(fQ c).length<=200:=by
 have hk:=BI h.kM;have hc:=abT h.fit;have ht:=h.fit.text;refine⟨?_,?_⟩
 ·have e:iL c v=sS c:=Eb h;have h0:0<(iL c v).length:=by
   rw[e];simp only[sS,rJ,xk,zY,zZ,Aa,Ac,Ad,bP];have:(lD 1 c.kind).length=1:=by unfold lD;rw[if_neg qO];rfl
   omega
  have hp:=JE (Iq h) h0;unfold fQ;rw[<-e];omega
 ·unfold fQ;simp only[sS,rJ,xk,zY,zZ,Aa,Ac,Ad,ajG,bP];have:=J3 1 c.kind;have:=J3 2 c.ax;have:=J3 3 c.seq;have:=J3 4 c.set;have:=J3 5 c.id;have:=J3 6 c.n;have:=af5 7 (xA c.chunks);have:=af5 8 c.text;have:(bK []).length=0:=rfl;omega
def kX(c:aF)(v:Int):Int:=bif (bif !dQ v 1 3 then true else decide (jX c.kind=0)) then 1 else bif decide (v<jX c.kind) then 10 else bif !vV c then 1 else 0
def Un(c:aF)(v:Int)(hc:c.chunks.length<=100000):aQ 97 [jl c,iV v] (iV (kX c v)):=by
 refine ay func97 λX=>?_
 (repeat'(first|refine aC ?_|refine aO (Zy c.kind) ?_|refine aO (XH v) ?_|refine aO (att c hc) ?_|refine aj.mk (λh=>?_) (λh=>?_)|refine ag.a ?_|refine Fin.tell (vq (ah iV ?_) tv)))<;>try exact cls
 all_goals first|exact(dH h).symm|exact((bG ‹_›).trans (dH h)).symm|(rename_i h0 h1;exact((bG h0).trans ((bG h1).trans (dH h))).symm)|(rename_i h0 h1;exact((bG h0).trans ((bG h1).trans (bG h))).symm)
def alc(c:aF)(v:Int)(h0:jX c.kind≠0)(h1:jX c.kind<=v):aQ 192 [jl c,iV v] (.b false):=by
 have hk:=BI h0;refine ay func192 λX=>?_
 (repeat'(first|refine aC ?_|refine aO (Zy c.kind) ?_|refine aj.mk (λh=>?_) (λh2=>ai h2 (by rw[aT (show ¬c.kind<1 by omega),aT (show ¬99<c.kind by omega),aT h0,aX h1];decide))|refine ag.a ?_|refine Fin.tell (vq (ah V.b ?_) tv)))<;>try exact cls
def fZ.v1{c:aF}{v:Int}(h:fZ c v):1<=v:=by
 have:=h.le;have:=h.kM;unfold jX at *;split at * <;> omega
def fZ.VQ{c:aF}{v:Int}(h:fZ c v):dQ v 1 3=true:=aX ⟨h.v1,h.v3⟩
def fZ.may{c:aF}{v:Int}(h:fZ c v):kX c v=0:=by
 unfold kX;rw[h.VQ,aT h.kM,aT (show ¬v<jX c.kind from by have:=h.le;omega),h.fits];rfl
def Tj(b:List UInt8):Di b.length (λj k=>.d ((λj _=>gG (b.getD j 0)) j k))=jr b:=by
 unfold Di;congr 1;apply List.ext_getElem?;intro j;rw[qQ];by_cases h:j<b.length
 ·rw[List.getElem?_range h,dV h];simp[Qi,gG,bn,h]
 ·rw[List.getElem?_eq_none (by simpa using h),List.getElem?_eq_none (by simpa using h)];rfl
def Y3(a b:List UInt8):aQ 151 [.d (bW a),.d (bW b)] (.b (a == b)):=by
 refine ay func151 λX=>?_
 (repeat'(first|refine aC ?_|refine Fin.tell (vq (ah V.b ?_) tv)|refine ag.mk ?_ ?_))<;>try exact cls
 all_goals first|(have e1:=Tj a;have e2:=Tj b;show((Di a.length (λj k=>.d ((λj _=>gG (a.getD j 0)) j k))).toList == (Di b.length (λj k=>.d ((λj _=>gG (b.getD j 0)) j k))).toList)=(a == b);rw[e1,e2,str_eq])|exact λj hj=>⟨_,rfl⟩
def agt(c:aF)(v:Int)(hc:fZ c v):aQ 148 [jl c,.d (jv []),iV v] (bI [.d (bW (fQ c)),iV 0]):=by
 refine ay func148 λX=>?_
 (repeat'(first|refine aC ?_|refine aO (XH v) ?_|refine aj.mk (λh2=>ai h2 (by rw[hc.VQ];decide)) (λh=>?_)|refine aO (alc c v hc.kM hc.le) ?_|refine aj.mk (λh=>?_) (λh2=>ai h2 (by decide))|refine aO (Un c v hc.chunks) ?_|refine aO (UI 1 v (.inl rfl)) ?_|refine BN ?_|refine TL.round ?_|refine aO (ank c v hc.num) ?_|refine aO (Yx (iL c v) (Iq hc)) ?_|refine aj.mk (λh2=>ai h2 (by rw[hc.may];decide)) (λh=>?_)|refine ag.mk rfl ?_|refine aj.n (λh=>?_)|refine ag.a ?_|refine kJ rfl ⟨vq (ah (λl=>V.d (bW (bK l))) (Eb hc)) tv,VW.refl tv,tv⟩))<;>try exact cls
def art(c:aF)(t v:Int)(hc:fZ c v):aQ 99 [jl c,iV t,iV v] (bI [zM ⟨t,fQ c⟩,iV 0]):=by
 refine ay func99 λX=>?_
 (repeat'(first|refine aC ?_|refine aO (Un c v hc.chunks) ?_|refine aj.mk (λh2=>ai h2 (by rw[hc.may];decide)) (λh=>?_)|refine af.tell (agt c v hc) ⟨agg,VW.dC,VW.refl tv,tv⟩ ?_|refine aj.n (λh=>?_)|refine ag.a ?_|refine kJ rfl vw))<;>try exact cls
def FQ{l:List Int}(h:kW l=true):∀ n∈l,0<n/\n<=64:=Nr (zl h).2.2
def an5{l:List Int}{i:Nat}(hm:∀ n∈l,0<n/\n<=64)(h:i<l.length):(jy l).drop i=dK (l.getD i 0).toNat++(jy l).drop (i+1):=by
 have e:∀ r:List Int,(∀ n∈r,0<n/\n<=64)->jy r=r.map (λn=>iK n.toNat):=by
  intro r;induction r with
  |nil=>intro _;rfl
  |cons n r ih=>
   intro hr;have hn:=hr n jL;have e2:jy (n::r)=dK n.toNat++jy r:=rfl;rw[e2,ih (λx hx=>hr x (jA _ hx)),DW _ qO];rfl
 have hn:=hm _ (ja (z:=0) h);rw[e l hm,<-List.map_drop,<-List.map_drop,wO 0 h,DW _ qO];rfl
def Rk{l:List Int}(hm:∀ n∈l,0<n/\n<=64):(jy l).length=l.length:=by
 have key:∀ r:List Int,(∀ n∈r,0<n/\n<=64)->(jy r).length=r.length:=by
  intro r;induction r with
  |nil=>intro _;rfl
  |cons n r ih=>
   intro hr;have e:jy (n::r)=dK n.toNat++jy r:=rfl;have hn:=hr n jL;rw[e,bP,ih (λx hx=>hr x (jA _ hx)),DW _ qO];simp;omega
 exact key l hm
def alJ{l:List Int}{i:Nat}(hm:∀ n∈l,0<n/\n<=64)(h:i<l.length):dh ((jy l).drop i)=((l.getD i 0).toNat,1,0):=by
 have hn:=hm _ (ja (z:=0) h);rw[an5 hm h,wM _ _ qO,Fh _ qO]
def aj6(l:List Int)(hr:kW l=true):aQ 293 [.d (bW (jy l))] (bI [.d (iR l),iV 0]):=by
 have hm:=FQ hr;have hl:=Rk hm;have h8:=(zl hr).2.1;refine ay func293 λX=>?_
 (repeat'(first|refine aC ?_|refine rQ 4 3 (λj _=>.d (iD (([]:List Int).getD j 0))) rfl rfl qN (dU l.length (λi (a:List Int)=>⟨39,[(0,.d (bW (jy l))),(4,.row 0 a.length),(5,iV i)],⟨[(0,bQ 3 1 (λn _=>iD n) 0 a)],1⟩⟩) (λi a=>a=l.take i) [] ?_ ?_ (λi a hi hp=>?_))|refine aZ (a++[l.getD i 0]) ⟨?_,?_,?_⟩|refine af.tell (XF (alJ hm (i:=i) om)) ⟨JY rfl,tv⟩ ?_|refine vM (Uh a (by rw[hp,dG];omega)) tv bw ?_|refine aj.mk (λh2=>ai h2 (by rw[show a=l by rw[hp,jU om],hr];decide)) (λh=>?_)|refine aj.mk (λh2=>ai h2 (by have hn:=hm _ (ja (z:=0) (i:=i) om);rw[aT (show ¬(64:Int)<(((l.getD i 0).toNat:Nat):Int) by omega)];decide)) (λh=>?_)|refine aj.mk (λh=>?_) (λh=>?_)|refine ag.a ?_|refine FD (C:=λn _=>iD n) (z:=0) (L:=l) rfl rfl ?_ ?_ qV|refine ag.mk ?_ ?_))<;>try exact cls
 all_goals(try(refine leq ?_ ?_ <;> repeat'(first|exact tv|exact qV|refine vq (ah (V.row _) ?_) qN|refine an ⟨nb rfl,aW.row ?_ (λj hj k hk=>vq ?_ trivial)⟩ ?_|refine an ?_ ?_)))
 all_goals first|(simp;done)|(have:=ah List.length hp;rw[dG]at this;omega)|((try simp only[gq,iy,nY,o9]at *);have h9:i<l.length:=qo;have hn:=hm _ (ja (z:=0) h9);first|omega|(simp only[dM];omega))|(have h9:i<l.length:=om;rw[hp,kR 0 h9];done)|(have h9:i<l.length:=om;obtain rfl:k=0:=qo;have hn:=hm _ (ja (z:=0) h9);exact Ak (C:=λn _=>iD n) (z:=0) (b:=[l.getD i 0]) rfl hj fr (λj hj=>by obtain rfl:j=0:=(by simpa using hj);exact ah iV (show(((l.getD i 0).toNat:Nat):Int)=l.getD i 0 by omega)))|(have e:a=l:=(by rw[hp,jU om]);subst e;first|rfl|exact λj hj k hk=>rfl)
def yC(b:List UInt8):List Int:=b.map (λx=>((x.toNat:Nat):Int))
def RX{l:List Int}(hm:∀ n∈l,0<n/\n<=64):yC (jy l)=l:=by
 induction l with
 |nil=>rfl
 |cons n r ih=>
  have hn:=hm n jL;have e2:jy (n::r)=dK n.toNat++jy r:=rfl;rw[e2,DW _ qO];have:=ih (λx hx=>hm x (jA _ hx));unfold yC at *;rw[List.map_append,this,List.map_cons,wJ];simp;omega
def aj7{b:List UInt8}(h:∃ r,kW r=true/\b=jy r):aQ 293 [.d (bW b)] (bI [.d (iR (yC b)),iV 0]):=by
 obtain⟨r,h1,rfl⟩:=h;rw[RX (FQ h1)];exact aj6 r h1
def oM(c:aF)(f:bu):aF:=
 if f.num=1 then { c with kind:=f.n } else if f.num=2 then { c with ax:=f.n } else if f.num=3 then { c with seq:=f.n } else if f.num=4 then { c with set:=f.n } else
 if f.num=5 then { c with id:=f.n } else if f.num=6 then { c with n:=f.n } else if f.num=7 then { c with chunks:=yC f.b } else if f.num=8 then { c with text:=f.b } else c
def mf(l:List bu):aF:=l.foldl oM aF.z
structure Vm (f:bu):Prop where
 n:f.num<=6->f.n<=1000000000
 ch:f.num=7->∃ r,kW r=true/\f.b=jy r
def BG{l:List bu}{i:Nat}(h:i<l.length):mf (l.take (i+1))=oM (mf (l.take i)) (l.getD i .z):=by
 unfold mf;rw[kR .z h,List.foldl_append];rfl
def apW(l:List bu)(hn:l.length<=100)(hf:∀ i,i<l.length->Vm (l.getD i .z)):aQ 254 [.d (jv l)] (jl (mf l)):=by
 refine ay func254 λX=>?_
 (repeat'(first|refine aC ?_|refine dU l.length (λi (a:aF)=>⟨67,[(2,.ptr 0 0),(3,.ptr 1 0),(6,.d (jv l)),(7,iV l.length),(8,iV i)],⟨[(0,.Wp 8 (λ_=>.top)),(1,.Wp 8 (λk=>.d (lW a k)))],2⟩⟩) (λi a=>a=mf (l.take i)) aF.z ?_ ?_ (λi a hi hp=>?_)|refine aO (aj7 ((hf i om).ch (bT ‹_›))) ?_|refine aj.mk (λh=>?_) (λh=>?_)|refine ag.a ?_|refine Fin.tell (gu ⟨⟨⟨⟨⟨⟨⟨⟨tv,dR ?_⟩,dR ?_⟩,dR ?_⟩,dR ?_⟩,dR ?_⟩,dR ?_⟩,dR ?_⟩,dR ?_⟩)|refine ag.mk ?_ ?_))<;>try exact cls
 all_goals(try(refine leq ?_ ?_ <;> repeat'(first|exact tv|exact qV|exact VW.dC|exact VW.top|exact qW|refine fE qN ?_ ?_|refine an ?_ ?_)))
 all_goals first|exact sN|(simp only[dM];(try simp only[gq,iy,jg]at *);have:=(hf i qo).n qo;omega)|exact λj hj=>⟨_,rfl⟩|(have h9:=bV h;have e:a=mf l:=(by rw[hp,jU qo]);subst e;exact cm qV)|(refine aZ ({ a with kind:=((l.getD i .z).n:Int) }) ⟨om,(by(try simp only[gq,iy,jg]at *);rw[BG qo,<-hp];unfold oM;repeat' split;all_goals(rfl)),?_⟩;(refine leq ?_ ?_ <;> repeat'(first|exact tv|exact qV|exact qW|refine vq (ah iV ?_) tv|refine fE qN ?_ ?_|refine an ?_ ?_));done)|(refine aZ ({ a with ax:=((l.getD i .z).n:Int) }) ⟨om,(by(try simp only[gq,iy,jg]at *);rw[BG qo,<-hp];unfold oM;repeat' split;all_goals first|rfl|(exfalso;omega)),?_⟩;(refine leq ?_ ?_ <;> repeat'(first|exact tv|exact qV|exact qW|refine vq (ah iV ?_) tv|refine fE qN ?_ ?_|refine an ?_ ?_));done)|(refine aZ ({ a with seq:=((l.getD i .z).n:Int) }) ⟨om,(by(try simp only[gq,iy,jg]at *);rw[BG qo,<-hp];unfold oM;repeat' split;all_goals first|rfl|(exfalso;omega)),?_⟩;(refine leq ?_ ?_ <;> repeat'(first|exact tv|exact qV|exact qW|refine vq (ah iV ?_) tv|refine fE qN ?_ ?_|refine an ?_ ?_));done)|(refine aZ ({ a with set:=((l.getD i .z).n:Int) }) ⟨om,(by(try simp only[gq,iy,jg]at *);rw[BG qo,<-hp];unfold oM;repeat' split;all_goals first|rfl|(exfalso;omega)),?_⟩;(refine leq ?_ ?_ <;> repeat'(first|exact tv|exact qV|exact qW|refine vq (ah iV ?_) tv|refine fE qN ?_ ?_|refine an ?_ ?_));done)|(refine aZ ({ a with id:=((l.getD i .z).n:Int) }) ⟨om,(by(try simp only[gq,iy,jg]at *);rw[BG qo,<-hp];unfold oM;repeat' split;all_goals first|rfl|(exfalso;omega)),?_⟩;(refine leq ?_ ?_ <;> repeat'(first|exact tv|exact qV|exact qW|refine vq (ah iV ?_) tv|refine fE qN ?_ ?_|refine an ?_ ?_));done)|(refine aZ ({ a with n:=((l.getD i .z).n:Int) }) ⟨om,(by(try simp only[gq,iy,jg]at *);rw[BG qo,<-hp];unfold oM;repeat' split;all_goals first|rfl|(exfalso;omega)),?_⟩;(refine leq ?_ ?_ <;> repeat'(first|exact tv|exact qV|exact qW|refine vq (ah iV ?_) tv|refine fE qN ?_ ?_|refine an ?_ ?_));done)|(refine aZ ({ a with chunks:=yC (l.getD i .z).b }) ⟨om,(by(try simp only[gq,iy,jg]at *);rw[BG qo,<-hp];unfold oM;repeat' split;all_goals first|rfl|(exfalso;omega)),?_⟩;(refine leq ?_ ?_ <;> repeat'(first|exact tv|exact qV|exact qW|refine fE qN ?_ ?_|refine an ?_ ?_));done)|(refine aZ ({ a with text:=(l.getD i .z).b }) ⟨om,(by(try simp only[gq,iy,jg]at *);rw[BG qo,<-hp];unfold oM;repeat' split;all_goals first|rfl|(exfalso;omega)),?_⟩;(refine leq ?_ ?_ <;> repeat'(first|exact tv|exact qV|exact vq (ah (λs=>V.d (D.v (Value.string s))) (Tj _)) tv|exact qW|refine fE qN ?_ ?_|refine an ?_ ?_));done)|(refine aZ (a) ⟨om,(by(try simp only[gq,iy,jg]at *);rw[BG qo,<-hp];unfold oM;repeat' split;all_goals first|rfl|(exfalso;omega)),?_⟩;(refine leq ?_ ?_ <;> repeat'(first|exact tv|exact qV|exact qW|refine fE qN ?_ ?_|refine an ?_ ?_));done)
def KI(t:Nat->Int):List Int:=DC (λn=>decide (0<t n.toNat))
def CY(l:List eH):Int:=(KI (jW l)).length
def AL(l:List eH)(ch:List Int):Int:=(KI (oH (jW l) ch)).length
def lh(l:List eH)(id:Int):List eH:=l.filter (λx=>!decide (x.id=id))
def Cj(l:List eH)(id:Int):List Int:=DC (λn=>bif decide (0<jW l n.toNat) then decide (jW (lh l id) n.toNat=0) else false)
def age{l:List eH}(h:uS l)(id:Int):uS (lh l id):=by
 have hm:∀ x∈l,x.chunks.length<=1000:=λx hx=>by
  obtain⟨i,hi,rfl⟩:=List.getElem_of_mem hx;have:=h.ch i hi;rwa [bn,dV hi]at this
 refine⟨kE (List.length_filter_le _ _) h.len,λi hi=>hm _ ?_⟩;have:=ja (z:=eH.z) hi;exact(List.mem_filter.1 this).1
def aeT{l:List eH}{id:Int}{i:Nat}(h:i<l.length):lh (l.take (i+1)) id=lh (l.take i) id++(if (l.getD i .z).id=id then [] else [l.getD i .z]):=by
 unfold lh;rw[kR .z h,List.filter_append];by_cases e:(l.getD i .z).id=id
 ·rw[if_pos e];simp only[List.filter_cons,List.filter_nil,e,decide_true,Bool.not_true];rfl
 ·rw[if_neg e];simp only[List.filter_cons,List.filter_nil,e,decide_false,Bool.not_false];rfl
def asa(l:List eH)(id:Int)(i:Nat):(lh (l.take i) id).length<=i:=by
 have h1:=List.length_filter_le (λx:eH=>!decide (x.id=id)) (l.take i);rw[dG]at h1;unfold lh;omega
def agi(t:Nat->Int):aQ 305 [ahP t] (.d (iR (KI t))):=by
 refine ay func305 λX=>?_
 (repeat'(first|refine aC ?_|refine Fp [0] (alG t) rfl rfl rfl ⟨gX vw,tv⟩ ⟨⟨_,rfl,fB rfl fv⟩,tv⟩ ⟨rfl,tv⟩ ?_|refine Fin.tell (VW.refl tv)))<;>try exact cls
def ajI(l:List eH)(hl:uS l):aQ 278 [.d (jO l)] (iV (CY l)):=by
 refine ay func278 λX=>?_
 (repeat'(first|refine aC ?_|refine aO (TQ l hl) ?_|refine af.tell (agi (jW l)) ⟨VW.agg fv,tv⟩ ?_|refine Fin.tell (vq (ah iV ?_) tv)))<;>try exact cls
def XI{g:Nat->V}{t:Nat->Int}{k:Nat}(hk:k<65):oK g 0 65 (λk=>iV (t k)) k=iV (t k):=by
 have:=ag7 (g:=g) (h:=λk=>iV (t k)) hk;rwa [jq]at this
def agf(l:List eH)(ch:List Int)(hl:uS l)(hc:ch.length<=1000):aQ 303 [.d (jO l),.d (iR ch)] (iV (AL l ch)):=by
 refine ay func303 λX=>?_
 (repeat'(first|refine aC ?_|refine aO (TQ l hl) ?_|refine nZ [0] (adt (jW l) ch qo (λk hk=>by have:=XJ hl l.length (bF _) k;rw[mM]at this;have:=hl.len;omega)) rfl rfl rfl vw ⟨⟨_,rfl,fB rfl (λk hk=>vq ((ah (dI _) (XI hk)).trans rfl) tv)⟩,tv⟩ ?_|refine af.tell (agi (oH (jW l) ch)) ⟨VW.agg (λk hk=>vq (ah (λj=>iV (oH (jW l) ch j)) (jq k)) tv),tv⟩ ?_|refine ag.a ?_|refine Fin.tell (vq (ah iV ?_) tv)))<;>try exact cls
def WZ(l:List eH)(id:Int)(hl:uS l):aQ 309 [.d (jO l),iV id] (.d (jO (lh l id))):=by
 have hn:=hl.len;refine ay func309 λX=>?_
 (repeat'(first|refine aC ?_|refine rQ 5 71 (λj k=>.d (iP (([]:List eH).getD j .z) k)) rfl rfl qN (dU l.length (λi (a:List eH)=>⟨28,[(1,iV id),(5,.row 0 a.length),(8,.d (jO l)),(9,iV l.length),(10,iV i)],⟨[(0,bQ 71 5 iP .z a)],1⟩⟩) (λi a=>a=lh (l.take i) id) [] ?_ ?_ (λi a hi hp=>?_))|refine aO (JP (l.getD i .z).chunks.length (λj _=>iD ((l.getD i .z).chunks.getD j 0)) (by have:=hl.ch i om;omega)) ?_|refine aj.mk (λh=>?_) (λh=>?_)|refine ag.a ?_|refine zg (C:=iP) (z:=.z) (L:=lh l id) rfl rfl ?_ ?_|refine ag.mk ?_ ?_))<;>try exact cls
 all_goals first|exact sN|(have e:a=lh l id:=(by have h9:=bV h;rw[hp,jU qo]);subst e;first|rfl|exact λj hj k hk=>rfl)|(have:=asa l id i;rw[<-hp]at this;(omega))|(have h9:i<l.length:=om;have hne:¬(l.getD i .z).id=id:=bV (by simpa using h);refine aZ (a++[l.getD i .z]) ⟨h9,(by rw[hp,aeT h9,if_neg hne]),?_⟩;(refine leq ?_ ?_ <;> repeat'(first|exact tv|exact qV|refine vq (ah (V.row _) ?_) qN|refine gU qN ?_ (λj hj k hk=>?_) ?_|refine an ?_ ?_));all_goals first|(refine cm (kU (C:=iP) (z:=.z) (b:=[l.getD i .z]) rfl (by simpa using hj) fr (λj hj=>?_));(obtain rfl:j=0:=(by simpa using hj);obtain _|_|_|_|_|k:=k <;> first|exact qV|omega))|(simp;done);done)|(have h9:i<l.length:=om;have hne:(l.getD i .z).id=id:=bT (by simpa using h);refine aZ a ⟨h9,(by rw[hp,aeT h9,if_pos hne,pO]),?_⟩;(refine leq ?_ ?_ <;> repeat'(first|exact tv|exact qV|exact qW|refine gU qN ?_ (λj hj k hk=>?_) ?_|refine an ?_ ?_));all_goals first|exact cm qV|exact rfl)
def afW(l:List eH)(id:Int)(hl:uS l):aQ 308 [.d (jO l),iV id] (.d (iR (Cj l id))):=by
 refine ay func308 λX=>?_
 (repeat'(first|refine aC ?_|refine aO (TQ l hl) ?_|refine aO (WZ l id hl) ?_|refine aO (TQ (lh l id) (age hl id)) ?_|refine nZ [0,1] (alH (jW l) (jW (lh l id))) rfl rfl rfl ⟨gX vw,tv⟩ ⟨⟨_,rfl,fB rfl (λk hk=>vq ((ah (dI _) (XI hk)).trans rfl) tv)⟩,⟨_,rfl,fB rfl (λk hk=>vq ((ah (dI _) (XI hk)).trans rfl) tv)⟩,tv⟩ ?_|refine ag.a ?_|refine Fin.tell (VW.refl tv)))<;>try exact cls
def zt(s:aN)(a b c:Nat):Nat->V
 |4=>.row a s.aJ.length
 |5=>.row b s.opens.length
 |6=>.row c s.az.length
 |k=>.d (dW s k)
abbrev awf(s:aN)(a b c:Nat):V:=.agg 7 (zt s a b c)
structure uO (s:aN):Prop where
 l1:s.aJ.length<=1000
 l2:s.opens.length<=1000
 l3:uS s.az
def Oi(s:aN)(hs:uO s):af 87 [dZ s] e0 (λrv rt=>rv=(awf s 2 3 4)/\rt=⟨[(2,bQ 54 4 iE .z s.aJ),(3,bQ 97 2 iw .z s.opens),(4,bQ 71 5 iP .z s.az)],5⟩):=by
 refine ay func87 λX=>?_
 (repeat'(first|refine aC ?_|refine bU 7 [12] (ooz 12 [o1]) ?_|refine mc ?_ ?_|refine mY (anY s.aJ.length (λj=>iE (s.aJ.getD j .z)) (by have:=hs.l1;omega)) ?_|refine mY (anZ s.opens.length (λj=>iw (s.opens.getD j .z)) (by have:=hs.l2;omega)) ?_|refine mY (an0 s.az.length (λj=>iP (s.az.getD j .z)) (by have:=hs.l3.len;omega)) ?_|refine dU s.az.length (λi (a:Unit)=>⟨36,[(1,.ptr 0 0),(2,.ptr 1 0),(18,iV s.az.length),(19,iV i)],⟨[(0,.Wp 7 (zt s 2 3 4)),(1,.Wp 7 (λ_=>.top)),(2,bQ 54 4 iE .z s.aJ),(3,bQ 97 2 iw .z s.opens),(4,bQ 71 5 iP .z s.az)],5⟩⟩) (λi a=>i<=s.az.length) () ?_ ?_ (λi a hi hp=>?_)|refine aZ () ⟨?_,?_,?_⟩|refine kF (JP (s.az.getD i .z).chunks.length (λj _=>iD ((s.az.getD i .z).chunks.getD j 0)) (by have:=hs.l3.ch i om;omega)) ?_|refine aj.mk (λh=>?_) (λh=>?_)|refine ag.a ?_|refine bM qN qN (gu vw) ⟨⟨nb rfl,aW.row rfl fv⟩,⟨nb rfl,aW.row rfl fv⟩,⟨nb rfl,aW.row rfl fv⟩,tv⟩|refine ag.mk ?_ ?_))<;>(try(refine dm.mk ?_;repeat'(first|exact tv|exact rfl|refine aO (JP (s.az.getD i .z).chunks.length (λj _=>iD ((s.az.getD i .z).chunks.getD j 0)) (by have:=hs.l3.ch i om;omega)) ?_|refine an ?_ ?_|refine ag.mk ?_ ?_)))
 all_goals try exact cls
 all_goals(try(refine leq ?_ ?_ <;> repeat'(first|exact tv|exact qV|exact VW.top|exact qW|refine fE qN ?_ ?_|refine gU qN ?_ (λj hj k hk=>?_) ?_|refine an ?_ ?_)))
 all_goals first|exact rfl|exact cm qV|(refine cm (vq (aj3 rfl) tv);done)|exact sN|(have h8:=bT h;exact⟨rfl,by omega,by omega⟩)|(have:=hs.l3.len;simp only[dM];(try simp only[gq,iy,nY,o9]at *);omega)
def Oh(s:aN)(hs:uO s):aQ 87 [dZ s] (dZ s):=(Oi s hs).I7 λX=>by
 refine Fin.eG (i:=2) (h:=λj=>iE (s.aJ.getD j .z)) sF ?_;refine Fin.eG (i:=3) (h:=λj=>iw (s.opens.getD j .z)) (iI.of (n:=s.opens.length) (z:=2) (E:=97) (cZ _) rfl fr) ?_;refine Fin.eG (i:=4) (h:=λj=>iP (s.az.getD j .z)) (iI.of (n:=s.az.length) (z:=5) (E:=71) (cZ _) rfl fr) ?_;refine Fin.tell (gu ⟨⟨⟨vw,vq ?_ trivial⟩,vq ?_ trivial⟩,vq ?_ trivial⟩)
 ·exact(ah (λv=>jf 4 _ _ _ (jf 3 _ _ _ v)) jB).trans rfl
 ·exact(ah (λv=>jf 4 _ _ _ v) jB).trans rfl
 ·exact jB
def aam(s:aN)(at':Nat):Int:=((s.az.drop (at'+1)).countP (λx=>decide (x.set=(s.az.getD at' .z).set)):Nat)
def Gl(s:aN)(at':Nat):Bool:=decide (aam s at'<s.axz)
def zD(s:aN)(at' i:Nat):Int:=(((s.az.drop (at'+1)).take i).countP (λx=>decide (x.set=(s.az.getD at' .z).set)):Nat)
def Ri{s:aN}{p i:Nat}(h:i<s.az.length-(p+1)):zD s p (i+1)=zD s p i+(bif decide ((s.az.getD (p+1+i) .z).set=(s.az.getD p .z).set) then 1 else 0):=by
 unfold zD;have e:(s.az.drop (p+1)).getD i .z=s.az.getD (p+1+i) .z:=by rw[bn,bn,rP]
 rw[kR .z (by rw[eY];exact h),List.countP_append,List.countP_singleton,e];cases decide ((s.az.getD (p+1+i) .z).set=(s.az.getD p .z).set) <;> simp
def aee(s:aN)(p i:Nat):0<=zD s p i/\zD s p i<=i:=by
 unfold zD;have h1:=List.countP_le_length (p:=λx:eH=>decide (x.set=(s.az.getD p .z).set)) (l:=(s.az.drop (p+1)).take i);rw[dG]at h1;omega
def ath(s:aN)(p:Nat)(hs:uO s)(hp:p<s.az.length):aQ 307 [dZ s,iV p] (.b (Gl s p)):=by
 have hn:=hs.l3.len;refine ay func307 λX=>?_
 (repeat'(first|refine aC ?_|refine bU 7 [] (ooz 9 []) ?_|refine mc ?_ ?_|refine aj.mk (λh2=>ai (ZR h2) (by rw[aT qo,aT qo];decide)) (λh=>?_)|refine dU (s.az.length-(p+1)) (λi (a:Int)=>⟨43,[(1,iV p),(2,.ptr 0 0),(5,iV a),(21,.d (.sl (s.az.length-(p+1)) 5 (λj=>iP (s.az.getD (p+1+j) .z)))),(22,iV ((s.az.length-(p+1):Nat):Int)),(23,iV i)],⟨[(0,.Wp 7 (λk=>.d (dW s k)))],1⟩⟩) (λi a=>a=zD s p i) 0 ?_ ?_ (λi a hi hq=>?_)|refine aj.mk (λh=>?_) (λh=>?_)|refine ag.a ?_|refine Fin.tell (vq (ah V.b ?_) tv)|refine ag.mk ?_ ?_))<;>(try(refine dm.mk ?_;repeat'(first|exact tv|exact rfl|refine an ?_ ?_|refine ag.mk ?_ ?_)))
 all_goals try exact cls
 all_goals(try(refine leq ?_ ?_ <;> repeat'(first|exact tv|exact qV|exact qW|refine fE qN ?_ ?_|refine an ?_ ?_)))
 all_goals first|(have h8:=bT h;omega)|(have:=aee s p i;rw[<-hq]at this;simp only[dM];omega)|(show decide (a<s.axz)=_;have h8:=bV h;unfold Gl aam;rw[hq];unfold zD;rw[jU (by rw[eY];omega)])|(have h8:=bT ‹decide ((i:Int)<((s.az.length-(p+1):Nat):Int))=true›;have h9:i<s.az.length-(p+1):=qo;first|(refine aZ (a+1) ⟨h9,(by rw[hq];exact((Ri h9).trans (ah (zD s p i + ·) (dH h))).symm),?_⟩;(refine leq ?_ ?_ <;> repeat'(first|exact tv|exact qV|exact qW|refine fE qN ?_ ?_|refine an ?_ ?_));all_goals fail)|(refine aZ a ⟨h9,(by rw[hq];exact(((Ri h9).trans (ah (zD s p i + ·) (bG h))).trans (Int.add_zero _)).symm),?_⟩;(refine leq ?_ ?_ <;> repeat'(first|exact tv|exact qV|exact qW|refine fE qN ?_ ?_|refine an ?_ ?_));all_goals fail))
def aeo{α:Type}{p:α->Bool}:∀(l:List α) (i:Nat),eU p i l = -1\/((i:Int)<=eU p i l/\eU p i l<i+l.length)
 |[],i=>.inl rfl
 |x::r,i=>by
  unfold eU;cases p x
  ·have:=aeo (p:=p) r (i+1);rw[lT,bz];omega
  ·rw[lT,dw];omega
def FB{α:Type}(p:α->Bool)(l:List α):eU p 0 l = -1\/(0<=eU p 0 l/\eU p 0 l<l.length):=by
 have:=aeo (p:=p) l 0;omega
def opAt(s:aN)(v:Int):Int:=eU (λx=>decide (x.set=v)) 0 s.opens
def jM(s:aN)(c:aF):Int:=bif (bif decide (0<=opAt s c.set) then !decide ((s.opens.getD (opAt s c.set).toNat .z).ax=c.ax) else false) then -1 else opAt s c.set
def ahead{α:Type}(p:α->Bool):List α->Nat
 |[]=>0
 |x::r=>bif p x then ahead p r+1 else 0
def Yo{α:Type}(p:α->Bool):∀ l:List α,ahead p l<=l.length
 |[]=>bF 0
 |x::r=>by
  unfold ahead;cases p x
  ·exact cZ _
  ·exact Nat.succ_le_succ (Yo p r)
def Rl{α:Type}(z:α){p:α->Bool}{l:List α}{i:Nat}(h:i<l.length):ahead p (l.drop i)=bif p (l.getD i z) then ahead p (l.drop (i+1))+1 else 0:=by
 rw[wO z h];rfl
def oV{α:Type}(l:List α)(p:Nat)(y:α):List α:=l.take p++y::l.drop p
def ac7{α:Type}{l:List α}{p:Nat}{y:α}(h:p<=l.length):(oV l p y).length=l.length+1:=by
 unfold oV;rw[bP,dG,lT,eY];omega
def Ku(s:aN)(v:Int):Nat:=ahead (λx=>decide (x.set<v)) s.opens
def IA(s:aN)(c:aF):aN×Rep:=bif decide (0<=opAt s c.set) then(s,⟨16,(s.opens.getD (opAt s c.set).toNat .z).ax⟩) else({ s with opens:=oV s.opens (Ku s c.set) ⟨c.set,c.ax⟩ },.z)
def zi(s:aN)(c:aF):aN×Rep:=
 bif decide (jM s c<0) then(s,⟨15,0⟩)
 else bif (bif decide (16<=(s.az.length:Int)) then true else decide (1048576<=s.next)) then(s,⟨20,0⟩)
 else bif (bif !decide (s.mg=0) then decide (s.mg<AL s.az c.chunks) else false) then(s,⟨19,0⟩)
 else({ s with next:=s.next+1,opens:=s.opens.eraseIdx (jM s c).toNat,az:=s.az++[⟨s.next,c.set,c.chunks,false,[]⟩] },⟨0,s.next⟩)
def F8(s:aN)(c:aF):aN×Rep:=bif decide (jM s c<0) then(s,⟨15,0⟩) else({ s with opens:=s.opens.eraseIdx (jM s c).toNat },.z)
def Kr(s:aN)(p:Nat):aN×Rep:=
 bif (s.az.getD p .z).held then(s,⟨17,0⟩)
 else bif Gl s p then(s,⟨18,0⟩)
 else({ s with az:=lh s.az (s.az.getD p .z).id },⟨0,(Cj s.az (s.az.getD p .z).id).length⟩)
def iq(s:aN)(v:Int):Int:=eU (λx=>decide (x.id=v)) 0 s.az
def Au(s:aN)(c:aF)(f:Nat->aN×Rep):aN×Rep:=bif decide (iq s c.id<0) then(s,⟨15,0⟩) else f (iq s c.id).toNat
def nO(s:aN)(p:Nat)(f:eH->eH):aN:={ s with az:=s.az.set p (f (s.az.getD p .z)) }
def Gp(b:Bool)(s:aN)(p:Nat):aN×Rep:=bif decide ((s.az.getD p .z).held=b) then(s,.z) else(nO s p (λx=>{ x with held:=b }),⟨0,1⟩)
def vU(s:aN)(c:aF):Option (aN×Rep):=
 bif decide (c.kind=2) then some (IA s c)
 else bif decide (c.kind=3) then some (zi s c)
 else bif decide (c.kind=4) then some (F8 s c)
 else bif decide (c.kind=6) then some ({ s with axz:=c.n },.z)
 else bif decide (c.kind=12) then some ({ s with mg:=c.n },⟨0,CY s.az⟩)
 else bif decide (c.kind=5) then some (Au s c (Kr s))
 else bif decide (c.kind=7) then some (Au s c λp=>(s,⟨0,(s.az.getD p .z).chunks.length⟩))
 else bif decide (c.kind=9) then some (Au s c (Gp true s))
 else bif decide (c.kind=10) then some (Au s c (Gp false s))
 else bif decide (c.kind=11) then some (Au s c λp=>(nO s p (λx=>{ x with tag:=c.text }),.z))
 else none
def jD(s:aN)(c:aF):Int:=bif !decide (Lr s s.version=0) then 1 else kX c s.version
def kC(s:aN)(c:aF):aN×Rep:=bif !decide (jD s c=0) then(s,⟨jD s c,0⟩) else match vU s c with|none=>(s,⟨1,0⟩)|some r=>r
def dE(s:aN)(v:Int):Int:=eU (λx=>decide (x.ax=v)) 0 s.aJ
def Ej(s:aN)(c:aF):aN×Rep:=
 bif decide (dE s c.ax<0) then(s,⟨11,0⟩)
 else bif decide (c.seq=(s.aJ.getD (dE s c.ax).toNat .z).seq) then(s,(s.aJ.getD (dE s c.ax).toNat .z).last)
 else bif decide (c.seq<(s.aJ.getD (dE s c.ax).toNat .z).seq) then(s,⟨13,0⟩)
 else bif decide ((s.aJ.getD (dE s c.ax).toNat .z).seq+1<c.seq) then(s,⟨14,0⟩)
 else({ (kC s c).1 with aJ:=(kC s c).1.aJ.set (dE s c.ax).toNat ⟨((kC s c).1.aJ.getD (dE s c.ax).toNat .z).ax,c.seq,(kC s c).2⟩ },(kC s c).2)
def oC(s:aN)(c:aF):aN×Rep:=
 bif !decide (jD s c=0) then(s,⟨jD s c,0⟩)
 else bif decide (c.kind=8) then(bif !decide (c.n=s.version+1) then(s,⟨1,0⟩) else({ s with version:=c.n },⟨0,c.n⟩))
 else bif decide (c.kind=1) then(bif decide (0<=dE s c.ax) then(s,⟨12,0⟩) else({ s with aJ:=oV s.aJ (ahead (λx=>decide (x.ax<c.ax)) s.aJ) ⟨c.ax,0,.z⟩ },.z))
 else Ej s c
def YO(s:aN)(v:Int):opAt s v = -1\/(0<=opAt s v/\opAt s v<s.opens.length):=FB _ _
def Tt(s:aN)(v:Int):iq s v = -1\/(0<=iq s v/\iq s v<s.az.length):=FB _ _
def NF(s:aN)(v:Int):dE s v = -1\/(0<=dE s v/\dE s v<s.aJ.length):=FB _ _
def Xn(s:aN)(c:aF):jM s c = -1\/(0<=jM s c/\jM s c<s.opens.length):=by
 unfold jM;cases (bif decide (0<=opAt s c.set) then !decide ((s.opens.getD (opAt s c.set).toNat .z).ax=c.ax) else false)
 ·exact YO s c.set
 ·exact .inl rfl
structure jw (s:aN):Prop where
 fit:uO s
 may:aaK s
 next : -1000000000<=s.next/\s.next<=1000000000
 ver : -1000000000<=s.version/\s.version<=1000000000
def pF(cs:Array Value)(o:Nat)(news:List Value):Array Value:=(cs.toList.take o++news++cs.toList.drop (o+news.length)).toArray
def QH{w:World}{ops:Array Oper}{o:Oper}{a:Act}{K:Act->World->Prop}{Q:Exit->Act->World->Prop}{E:Prop}(hg:o.guard=none)(d x:Operand)(t:TypeId)(hop:o.op = .call { callee:=.builtin .copy,args:=#[d,x],argTypes:=#[t,t] })
  (v u:Value) (hd:a.eval d=v) (hx:a.eval x=u) {v':Value} {w':World} (hr:(Builtin.copy_ #[t,t] o.type #[v,u]).run prog w = .ok v' w') (hK:K (a.put o.dst v') w'):if Region.wanted o (yielded ops a.tmps)=true then Oper.wp prog o a w K Q else E:=by
 rw[if_pos (by simp[Region.wanted,hg])];unfold Oper.wp;simp[execOp,hop,resolve,invoke,builtin,hd,hx,hr,Result.andThen];exact hK
def BH{cs:Array Value}{o:Nat}{news:List Value}(h:o+news.length<=cs.size):(pF cs o news).size=cs.size:=by
 unfold pF;rw[List.size_toArray,bP,bP,dG,eY,rO];omega
def RF{cs:Array Value}{o:Nat}{news:List Value}(h:o+news.length<=cs.size)(k:Nat):(pF cs o news)[k]?=if o<=k/\k<o+news.length then news[k-o]? else cs[k]?:=by
 unfold pF;rw[List.getElem?_toArray,YD _ _ _ (by rw[rO];exact h)];split
 ·rfl
 ·rw[qP]
def QV{ty E o o2 n c m c2 b b2 k:Nat}{t2:TypeId}{te te2:TypeId}{cs cs2:Array Value}(hk1:(tI ty).k=3)(hE:E=(tI ty).elem)(hok:(tI E).ok=true){w:World}(hh:w.heap[b]?=some (.cells cs te (0,0)))(hh2:w.heap[b2]?=some (.cells cs2 te2 (0,0)))(hmin:Nat.min m n=k)(hk:0<k)(hz0:0<(tI E).size)
  (iY:o+k*(tI E).size<=cs.size) (axq:o2+k*(tI E).size<=cs2.size) (h1:∀(j:Nat) (x:Value),o2<=j->j<o2+k*(tI E).size->cs2[j]?=some x->x.oneCell'=true) :
  (Builtin.copy_ #[ty,ty] t2 #[.slice (some ⟨b,o,none⟩) n c,.slice (some ⟨b2,o2,none⟩) m c2]).run prog w = .ok (goInt k) (w.setRow b (pF cs o ((cs2.toList.drop o2).take (k*(tI E).size)))):=by
 have hl:((cs2.toList.drop o2).take (k*(tI E).size)).length=k*(tI E).size:=by rw[dG,eY,rO];omega
 have hget:∀ j,j<k*(tI E).size->((cs2.toList.drop o2).take (k*(tI E).size))[j]?=cs2[o2+j]?:=λj hj=>by rw[nX,if_pos hj,rP,qP]
 have:=acQ (ty:=ty) (E:=E) (o:=o) (n:=n) (c:=c) (m:=m) (cy:=c2) (b:=b) (Ay:=some ⟨b2,o2,none⟩) (t2:=t2) (te:=te) (cs:=cs) (news:=(cs2.toList.drop o2).take (k*(tI E).size)) hk1 hE hok hh (by rw[hl];exact iY) (by rw[hl,hmin]) (λ_=>⟨b2,o2,rfl,(Array.getElem?_eq_some_iff.1 hh2).1,λi hi=>by
  rw[hl]at hi;rw[cellOf hh2,hget i hi]⟩) (λu hu=>by
  obtain⟨j,hj,e⟩:=List.getElem_of_mem hu;rw[hl]at hj;have e2:=hget j hj;rw[dV (by rw[hl];exact hj),e]at e2;exact h1 (o2+j) u qO qO e2.symm) (by rw[hmin];exact hk) hz0
 rw[hmin]at this;exact this
def yM(p:Nat)(g:Nat->Nat->V)(y:Nat->V)(j k:Nat):V:=bif Nat.blt j p then g j k else bif Nat.beq j p then y k else g (j-1) k
def afP{p:Nat}{g:Nat->Nat->V}{y:Nat->V}{j k:Nat}(h:j<p):yM p g y j k=g j k:=by
 unfold yM;rw[show Nat.blt j p=true from (by rw[Nat.blt_eq];exact h)];rfl
def afQ{p:Nat}{g:Nat->Nat->V}{y:Nat->V}{k:Nat}:yM p g y p k=y k:=by
 unfold yM;rw[show Nat.blt p p=false from (by rw[xm,ne_eq,Nat.blt_eq];omega),show Nat.beq p p=true from Nat.beq_refl p];rfl
def aq8{p:Nat}{g:Nat->Nat->V}{y:Nat->V}{j k:Nat}(h:p<j):yM p g y j k=g (j-1) k:=by
 unfold yM;rw[show Nat.blt j p=false from (by rw[xm,ne_eq,Nat.blt_eq];omega),show Nat.beq j p=false from (by rw[xm,ne_eq,Nat.beq_eq];omega)];rfl
def Be(p:Nat)(g:Nat->Nat->D)(y:Nat->D)(j k:Nat):D:=bif Nat.blt j p then g j k else bif Nat.beq j p then y k else g (j-1) k
def ZF{p:Nat}{g:Nat->Nat->D}{y:Nat->D}:yM p (λj k=>.d (g j k)) (λk=>.d (y k))=λj k=>.d (Be p g y j k):=by
 funext j k;unfold yM Be;cases Nat.blt j p <;> cases Nat.beq j p <;> rfl
def aq9{n:Nat}{g x:Nat->Nat->D}{j k:Nat}(hj:j<n+1):(axE n (λj k=>V.d (g j k)) (λj k=>V.d (x j k)) j k:V) = .d (Be n g (x 0) j k):=by
 have e:=congrFun (congrFun (ZF (p:=n) (g:=g) (y:=x 0)) j) k;rw[<-e,Ec];by_cases h:j<n
 ·rw[if_pos h,afP h]
 ·obtain rfl:j=n:=qO;rw[if_neg h,afQ,Nat.sub_self]
def ac6{α:Type}(c:α->Nat->D)(d y:α)(l:List α){p:Nat}(hp:p<=l.length){j k:Nat}:Be p (λj k=>c (l.getD j d) k) (c y) j k=c ((l.take p++y::l.drop p).getD j d) k:=by
 unfold Be;simp only[];rw[bn,bn,bn];obtain h|h|h:=Nat.lt_trichotomy j p
 ·rw[show Nat.blt j p=true from (by rw[Nat.blt_eq];exact h),lS (by rw[dG];omega),nX,if_pos h];rfl
 ·subst h;rw[show Nat.blt j j=false from (by rw[xm,ne_eq,Nat.blt_eq];omega),show Nat.beq j j=true from Nat.beq_refl j,oP (by rw[dG];omega),dG,show j-min j l.length=0 from qO];rfl
 ·rw[show Nat.blt j p=false from (by rw[xm,ne_eq,Nat.blt_eq];omega),show Nat.beq j p=false from (by rw[xm,ne_eq,Nat.beq_eq];omega),oP (by rw[dG];omega),dG,show j-min p l.length=(j-1-p)+1 from qO,List.getElem?_cons_succ,rP,show p+(j-1-p)=j-1 from qO];rfl
def aeh{G:Gh}{t:ST}{w w':World}(hg:bZ G t w){E z n p b nb C:Nat}{A:Option Addr}{c:Nat}{g x:Nat->Nat->V}{CS VS FC:Array Value}(h0:t.get 0 = .row E z n g)(hr:G.ρ 0=some (.row A c))(hA:A=some ⟨b,0,none⟩)(hc0:0<c)
  (hcell:∀ j,j<n->∀ k,k<z->∃ u,CS[j*z+k]?=some u/\u.oneCell'=true/\aY G t.get w (g j k) u) (hv:∀ k,k<z->∃ u,VS[k]?=some u/\u.oneCell'=true/\aY G t.get w (x 0 k) u) (hp:p<n)
  (wC:w'.os=w.os) (htape:w'.tape=w.tape) (hout:w'.output=w.output) (hsize:w.heap.size<=w'.heap.size) (hkeep:∀ q,q<w.heap.size->q≠b->w'.heap[q]?=w.heap[q]?) (hnb:nb=b\/w.heap.size<=nb) (hnn:n+1<=C) (hCm:C<=maxLen)
  (hF:w'.heap[nb]?=some (.cells FC E (0,0))) (hFs:FC.size=C*z) (hFC:∀ j,j<n+1->∀ k,k<z->FC[j*z+k]?=if j<p then CS[j*z+k]? else if j=p then VS[k]? else CS[(j-1)*z+k]?) :
  bZ (G.upd 0 (.row (some ⟨nb,0,none⟩) C)) (t.set 0 (.row E z (n+1) (yM p g (x 0)))) w'/\Stp G t.get w (G.upd 0 (.row (some ⟨nb,0,none⟩) C)) (t.set 0 (.row E z (n+1) (yM p g (x 0)))).get w'/\aY (G.upd 0 (.row (some ⟨nb,0,none⟩) C)) (t.set 0 (.row E z (n+1) (yM p g (x 0)))).get w' (.row 0 (n+1)) (.slice (some ⟨nb,0,none⟩) (n+1) C):=by
 have hown:dB G t.get 0 b:=by unfold dB;rw[h0];exact⟨A,c,hr,hc0,_,hA⟩
 refine BK (m:=1) (c':=C) (A':=some ⟨nb,0,none⟩) (g':=yM p g (x 0)) hg h0 hr (λh=>by omega) wC htape hout hsize (λq hq hn=>hkeep q hq (λe=>hn (by rw[e];exact hown)))
  (λ_ b' off e=>by injection e with e;injection e with e;rw[<-e];obtain rfl|h:=hnb;exact .inl hown;exact .inr h)
  (λhs=>.inr ⟨by omega,nb,FC,rfl,hF,hFs,hnn,hCm,λj hj k hk=>?_⟩)
 rw[hFC j hj k hk];obtain h1|h1|h1:=Nat.lt_trichotomy j p
 ·obtain⟨u,e1,e2,e3⟩:=hcell j qO k hk;exact⟨u,by rw[if_pos h1];exact e1,e2,by rw[afP h1];exact e3.dX hs hg.axy⟩
 ·subst h1;obtain⟨u,e1,e2,e3⟩:=hv k hk;exact⟨u,by rw[if_neg qO,if_pos rfl];exact e1,e2,by rw[afQ];exact e3.dX hs hg.axy⟩
 ·obtain⟨u,e1,e2,e3⟩:=hcell (j-1) qO k hk;exact⟨u,by rw[if_neg qO,if_neg qO];exact e1,e2,by rw[aq8 h1];exact e3.dX hs hg.axy⟩
def axi{P:Nat->V->Value->Prop}{a b c:V}{us:List Value}(hl:us.length=3)(h:∀ k v u,[a,b,c][k]?=some v->us[k]?=some u->P k v u):∃ u v x,us=[u,v,x]/\P 0 a u/\P 1 b v/\P 2 c x:=by
 obtain _|⟨u,_|⟨v,_|⟨x,_|⟨y,r⟩⟩⟩⟩:=us
 ·simp at hl
 ·simp at hl
 ·simp at hl
 ·exact⟨u,v,x,rfl,h 0 a u rfl rfl,h 1 b v rfl rfl,h 2 c x rfl rfl⟩
 ·simp at hl
def agq{G:Gh}{t:ST}{w:World}(hg:bZ G t w){i E z n:Nat}{g:Nat->Nat->V}{u:Value}(h0:t.get i = .row E z n g)(hu:aY G t.get w (.row i n) u)(hn:0<n) :
  ∃ b c cs,u = .slice (some ⟨b,0,none⟩) n c/\G.ρ i=some (.row (some ⟨b,0,none⟩) c)/\w.heap[b]?=some (.cells cs E (0,0))/\cs.size=c*z/\n<=c/\c<=maxLen/\∀ j,j<n->∀ k,k<z->∃ x,cs[j*z+k]?=some x/\x.oneCell'=true/\aY G t.get w (g j k) x:=by
 obtain⟨A,c,hr,_,hu⟩:=hu;have e:=(hu _ _ _ _ h0).2 rfl;obtain⟨_,_,_,q⟩:=rowOf (n:=0) hg.axy h0 hr;obtain⟨_,q⟩|⟨_,b,cs,rfl,q2,q3,q4,q5,q6⟩:=q
 ·omega
 ·exact⟨b,c,cs,e,hr,q2,q3,q4,q5,q6⟩
def ES(E z S ov f:Nat):Prop:=(E=97/\z=2/\S=38/\ov=316/\f=301)\/(E=54/\z=4/\S=37/\ov=249/\f=241)
def zo{p:Prop}(h:p:=by unfold ES at hP;obtain⟨rfl,rfl,rfl,rfl,rfl⟩|⟨rfl,rfl,rfl,rfl,rfl⟩:=hP <;> omega):p:=h
def zr{p:Prop}(h:p:=by unfold ES at hP;obtain⟨rfl,rfl,rfl,rfl,rfl⟩|⟨rfl,rfl,rfl,rfl,rfl⟩:=hP <;> first|rfl|exact Nat.lt_of_sub_ne_zero (by decide)):p:=h
def aq7{E z S ov f:Nat}(hP:ES E z S ov f){w:World}{b vb n c vc i:Nat}{CS VS:Array Value}(hne:vb≠b)(hh:w.heap[b]?=some (.cells CS E (0,0)))(hv:w.heap[vb]?=some (.cells VS E (0,0)))(hs:CS.size=c*z)(hvs:VS.size=vc*z)(hvc:1<=vc)(hnc:n+1<=c)(hcm:c<=maxLen)(hi:i<n)(hn:n<=100000)
  (h1:∀(j:Nat) (x:Value),j<n*z->CS[j]?=some x->x.oneCell'=true) (h2:∀(j:Nat) (x:Value),j<z->VS[j]?=some x->x.oneCell'=true) :
  Calls prog f #[.slice (some ⟨b,0,none⟩) n c,.int .i64 (i:Int),.slice (some ⟨vb,0,none⟩) 1 vc] w λe w'=>e = .returned (.slice (some ⟨b,0,none⟩) (n+1) c) /\
   w'=((w.drew).setRow b (pF CS ((i+1)*z) ((CS.toList.drop (i*z)).take ((n-i)*z)))).setRow b (pF (pF CS ((i+1)*z) ((CS.toList.drop (i*z)).take ((n-i)*z))) (i*z) (VS.toList.take z)):=by
 have hE:(tI E).ok=true:=zr;have hts:(tI E).size=z:=zr;have hsz:(sizeOf E).run prog w = .ok z w:=hts▸qB (w:=w) hE;have axt:(sizeOf E).run prog w.drew = .ok z w.drew:=hts▸qB (w:=w.drew) hE;have hmid:((CS.toList.drop (i*z)).take ((n-i)*z)).length=(n-i)*z:=by rw[dG,eY,rO,hs];exact zo
 have hvl:(VS.toList.take z).length=z:=by rw[dG,rO,hvs];exact zo
 have hov:∀ lb cb,(callFunc ov #[.slice (some ⟨vb,0,none⟩) 1 vc,.slice (some ⟨b,(i+1)*z,none⟩) lb cb]).run prog w = .ok (.value (.bool false)) w:=λlb cb=>by
  have hrun:=Lib.run_overlaps_apart (P:=prog) w S 4 E zr z (λw=>hts▸qB hE) ⟨vb,0,none⟩ ⟨b,(i+1)*z,none⟩ 1 vc lb cb hne E E VS.size CS.size (by simp[World.shape?,hv]) (by simp[World.shape?,hh]) zo (frozen_of_row w vb 0 VS _ hv) (frozen_of_row w vb VS.size VS _ hv);unfold ES at hP;obtain⟨rfl,rfl,rfl,rfl,rfl⟩|⟨rfl,rfl,rfl,rfl,rfl⟩:=hP
  ·rw[run_callFunc_extern func316 qK qK qK (e:=Extern.SlicesOverlaps.overlaps #[38,38] #[4]) qK,hrun];rfl
  ·rw[run_callFunc_extern func249 qK qK qK (e:=Extern.SlicesOverlaps.overlaps #[37,37] #[4]) qK,hrun];rfl
 have hz1:¬((i:Int)=(n:Int)):=qO;have hw1:IntKind.i64.wrap ((i:Int)+1)=(i:Int)+1:=by rw[IntKind.wrap_i64];unfold maxLen at hcm;omega
 have hw2:IntKind.i64.wrap ((n:Int)+1)=(n:Int)+1:=by rw[IntKind.wrap_i64];unfold maxLen at hcm;omega
 have hb1:(0:Int)<=(i:Int)+1:=qO;have hin:i<=n:=qO;have htn:((i:Int)+1).toNat=i+1:=qO;have hb2:¬(c=i+1):=qO;have hb3:(i:Int)<=(n:Int)+1:=qO;have hb4:¬(c=i):=qO;obtain⟨M,hM⟩:∃ M,M=(CS.toList.drop (i*z)).take ((n-i)*z):=⟨_,rfl⟩;obtain⟨N,hN⟩:∃ N,N=VS.toList.take z:=⟨_,rfl⟩;rw[<-hM]at hmid;rw[<-hN]at hvl;have avo:(i+1)*z+M.length<=CS.size:=by rw[hmid];exact zo
 obtain⟨R,hR⟩:∃ R,R=pF CS ((i+1)*z) M:=⟨_,rfl⟩;have hRs:R.size=CS.size:=by rw[hR];exact BH avo
 have hcp1:∀(W:World),W.heap=w.heap->∀ ty dc sc,(Builtin.copy_ #[S,S] ty #[.slice (some ⟨b,(i+1)*z,none⟩) (n-i) dc,.slice (some ⟨b,i*z,none⟩) (n+1-i) sc]).run prog W = .ok (goInt ((n-i:Nat):Int)) (W.setRow b R):=λW hW ty dc sc=>by
  rw[hR,hM];have:=QV (ty:=S) (E:=E) (k:=n-i) (o:=(i+1)*z) (o2:=i*z) (n:=n-i) (m:=n+1-i) (b:=b) (b2:=b) (cs:=CS) (cs2:=CS) (c:=dc) (c2:=sc) (t2:=ty) (te:=E) (te2:=E) zr zr hE (by rw[hW];exact hh) (by rw[hW];exact hh) (by simp only[Nat.min_def];split <;> omega) qO zr (by rw[hts];exact zo) (by rw[hts];exact zo) (λj x _ hj=>h1 j x (by rw[hts]at hj;exact zo));rw[hts]at this;exact this
 have hcp2:∀(W:World),W.heap[b]?=some (.cells R E (0,0))->W.heap[vb]?=some (.cells VS E (0,0))->∀ ty dc,(Builtin.copy_ #[S,S] ty #[.slice (some ⟨b,i*z,none⟩) (n+1-i) dc,.slice (some ⟨vb,0,none⟩) 1 vc]).run prog W = .ok (goInt 1) (W.setRow b (pF R (i*z) N)):=λW hW hV ty dc=>by
  have:=QV (ty:=S) (E:=E) (k:=1) (n:=n+1-i) (c:=dc) (m:=1) (c2:=vc) (t2:=ty) zr zr hE (o:=i*z) (o2:=0) hW hV (by simp only[Nat.min_def];split <;> omega) qO zr (by rw[hts];exact zo) (by rw[hts];exact zo) (λj x _ hj=>h2 j x (by rw[hts]at hj;exact zo));rw[hts,List.drop_zero,Nat.one_mul]at this;rw[hN];exact this
 have hb:b<w.heap.size:=(Array.getElem?_eq_some_iff.1 hh).1;have hWb:((w.drew).setRow b R).heap[b]?=some (.cells R E (0,0)):=setRow_heap _ b CS R E (0,0) hh;have hWv:((w.drew).setRow b R).heap[vb]?=some (.cells VS E (0,0)):=(setRow_other _ b vb R hne).trans hv;have awR:(sizeOf E).run prog ((w.drew).setRow b R) = .ok z ((w.drew).setRow b R):=hts▸qB hE;rw[<-hM,<-hN,<-hR];clear hM hN hR;unfold ES at hP;obtain⟨rfl,rfl,rfl,rfl,rfl⟩|⟨rfl,rfl,rfl,rfl,rfl⟩:=hP
 ·clear hts;go_enter func301,ntmps301;go_wp2_with (simp only[hov])
  go_region_law (refine QH rfl (.tmp 73) (.tmp 76) 38 rfl (.slice (some ⟨b,(i+1)*2,none⟩) (n-i) (c-(i+1))) (.slice (some ⟨b,i*2,none⟩) (n+1-i) (c-i)) ?_ ?_ (hcp1 _ ?_ 3 (c-(i+1)) (c-i)) ?_;(simp[Act.eval,Act.put]);(simp[Act.eval,Act.put]);rfl)
  go_wp2_with (rw[hcp2 _ hWb hWv]);go_ret;exact⟨rfl,rfl⟩
 ·clear hts;go_enter func241,ntmps241;go_wp2_with (simp only[hov])
  go_region_law (refine QH rfl (.tmp 73) (.tmp 76) 37 rfl (.slice (some ⟨b,(i+1)*4,none⟩) (n-i) (c-(i+1))) (.slice (some ⟨b,i*4,none⟩) (n+1-i) (c-i)) ?_ ?_ (hcp1 _ ?_ 3 (c-(i+1)) (c-i)) ?_;(simp[Act.eval,Act.put]);(simp[Act.eval,Act.put]);rfl)
  go_wp2_with (rw[hcp2 _ hWb hWv]);go_ret;exact⟨rfl,rfl⟩
def am4{E z S ov f:Nat}(hP:ES E z S ov f){w:World}{b vb n c vc i:Nat}{CS VS:Array Value}(hh:w.heap[b]?=some (.cells CS E (0,0)))(hv:w.heap[vb]?=some (.cells VS E (0,0)))(hs:CS.size=c*z)(hvs:VS.size=vc*z)(hvc:1<=vc)(hnc:n<=c)(hgr:c<n+1)(hi:i<n)(hn:n<=100000)
  (h1:∀(j:Nat) (x:Value),j<n*z->CS[j]?=some x->x.oneCell'=true) (h2:∀(j:Nat) (x:Value),j<z->VS[j]?=some x->x.oneCell'=true) :
  Calls prog f #[.slice (some ⟨b,0,none⟩) n c,.int .i64 (i:Int),.slice (some ⟨vb,0,none⟩) 1 vc] w λe w'=>∃(G:Nat) (Q:List Value),n+1<=G/\G<=maxLen/\Q.length=(G-i)*z/\e = .returned (.slice (some ⟨w.heap.size,0,none⟩) (n+1) G) /\
   w'=(((w.drew.alloc (.cells (CS.toList.take (i*z)++Q).toArray E)).setRow w.heap.size (pF (CS.toList.take (i*z)++Q).toArray (i*z) (VS.toList.take z))).drew).setRow w.heap.size (pF (pF (CS.toList.take (i*z)++Q).toArray (i*z) (VS.toList.take z)) ((i+1)*z) ((CS.toList.drop (i*z)).take ((n-i)*z))):=by
 have hE:(tI E).ok=true:=zr;have hts:(tI E).size=z:=zr;have hsz:(sizeOf E).run prog w = .ok z w:=hts▸qB (w:=w) hE;obtain⟨i0,z0,hI⟩:=F5 hE;have hmid:((CS.toList.drop (i*z)).take ((n-i)*z)).length=(n-i)*z:=by rw[dG,eY,rO,hs];exact zo
 have hvl:(VS.toList.take z).length=z:=by rw[dG,rO,hvs];exact zo
 have hol:(CS.toList.take (i*z)).length=i*z:=by rw[dG,rO,hs];exact zo
 have hz1:¬((i:Int)=(n:Int)):=qO;have hz3:(c:Int)<(n:Int)+1:=qO;have fF:(n:Int)+1-(i:Int)=((n+1-i:Nat):Int):=qO;have hik:i+(n+1-i)=n+1:=qO;have hbytes:i0.bytes<1000:=by rw[hI.bytes];exact zr
 have hsize:i0.size=z:=hI.size.trans hts;have hold:(Builtin.firstCells i0.size i (.slice (some ⟨b,0,none⟩) i c)).run prog w.drew = .ok (CS.toList.take (i*z)).toArray w.drew:=by
  rw[hsize];exact run_firstCells_some w.drew z i ⟨b,0,none⟩ i c (CS.toList.take (i*z)) hol (λj v hj=>by
   have hlt:=(List.getElem?_eq_some_iff.1 hj).1;rw[hol]at hlt;rw[uB,jq,show w.drew.cell? ⟨b,j,none⟩=_ from cellOf hh j,<-qP];rw[nX,if_pos hlt]at hj;exact hj)
 have hfits:Builtin.nextslicecap (n+1) c*i0.bytes<=281474976710656:=growslice_fits hgr (by have:=Nat.mul_le_mul (show n+1<=100001 by omega) (show i0.bytes<=1000 by omega);omega);have hrz:∀ ty,(Builtin.append_ #[S,3] ty #[.slice (some ⟨b,0,none⟩) i c,.int .i64 ((n:Int)+1-(i:Int))]).run prog w =
   .ok (.slice (some ⟨w.heap.size,0,none⟩) (n+1) (grownCap w (n+1) c E)) (w.drew.alloc (.cells ((CS.toList.take (i*z)).toArray++Builtin.zeroCells z0.cells (n+1-i)++Builtin.zeroCells z0.cells (grownCap w (n+1) c E-(n+1))) E)):=λty=>by
  have h:=Lib.run_append_grow_zeros (P:=prog) w S 3 ty E i0 z0 .i64 .i64 zr (ahK (t:=3) rfl rfl) hI.h hI.zero (some ⟨b,0,none⟩) i c (CS.toList.take (i*z)) hold (n+1-i) qO (by rw[hsize];exact zo) qO qO (by have:=Nat.mul_le_mul (show n+1-i<=100001 by omega) (show i0.bytes<=1000 by omega);omega) (by rw[hik];exact hfits);rw[hik]at h;rw[fF];exact h
 obtain⟨G,hG⟩:∃ G,G=grownCap w (n+1) c E:=⟨_,rfl⟩;have hGn:n+1<=G:=by rw[hG];exact grownCap_ge w _ _ _
 have hGm:G<=maxLen:=by rw[hG];exact grownCap_le_maxLen w (n+1) c E (by unfold maxLen;omega)
 obtain⟨Q,hQ⟩:∃ Q,Q=(Builtin.zeroCells z0.cells (n+1-i)++Builtin.zeroCells z0.cells (G-(n+1))).toList:=⟨_,rfl⟩;have hQl:Q.length=(G-i)*z:=by
  have hzc:z0.cells.size=z:=hI.CO.trans hts;rw[hQ,rO,Array.size_append];have e:∀ k,(Builtin.zeroCells z0.cells k).size=k*z:=λk=>by rw[size_zeroCells,hzc]
  rw[e,e];exact zo
 have hROW:(CS.toList.take (i*z)).toArray++Builtin.zeroCells z0.cells (n+1-i)++Builtin.zeroCells z0.cells (G-(n+1))=(CS.toList.take (i*z)++Q).toArray:=by
  apply Array.toList_inj.1;rw[hQ];simp
 rw[<-hG,hROW]at hrz;refine Calls.mono ?_ (λe w' (h:e=_/\w'=_)=>⟨G,Q,hGn,hGm,hQl,h.1,h.2⟩);obtain⟨M,hM⟩:∃ M,M=(CS.toList.drop (i*z)).take ((n-i)*z):=⟨_,rfl⟩;obtain⟨N,hN⟩:∃ N,N=VS.toList.take z:=⟨_,rfl⟩;obtain⟨ROW,Qw⟩:∃ ROW,ROW=(CS.toList.take (i*z)++Q).toArray:=⟨_,rfl⟩;have aw6:ROW.size=G*z:=by rw[Qw,List.size_toArray,bP,hol,hQl];exact zo
 rw[<-hM]at hmid ⊢;rw[<-hN]at hvl ⊢;rw[<-Qw]at hrz ⊢;obtain⟨R,hR⟩:∃ R,R=pF ROW (i*z) N:=⟨_,rfl⟩;have hRs:R.size=G*z:=by rw[hR,BH zo];exact aw6
 have hb:b<w.heap.size:=(Array.getElem?_eq_some_iff.1 hh).1;have hvb:vb<w.heap.size:=(Array.getElem?_eq_some_iff.1 hv).1;rw[<-hR];obtain⟨W1,hW1⟩:∃ W1,W1=w.drew.alloc (.cells ROW E):=⟨_,rfl⟩;have aib:W1.heap[w.heap.size]?=some (.cells ROW E (0,0)):=by rw[hW1];exact heap_alloc_new w.drew _
 have aw4:W1.heap[vb]?=some (.cells VS E (0,0)):=by rw[hW1];exact(heap_alloc_old w.drew _ hvb).trans hv
 have aw5:W1.heap[b]?=some (.cells CS E (0,0)):=by rw[hW1];exact(heap_alloc_old w.drew _ hb).trans hh
 rw[<-hW1]at hrz ⊢;have hcp1:∀ ty dc,(Builtin.copy_ #[S,S] ty #[.slice (some ⟨w.heap.size,i*z,none⟩) (n+1-i) dc,.slice (some ⟨vb,0,none⟩) 1 vc]).run prog W1 = .ok (goInt 1) (W1.setRow w.heap.size R):=λty dc=>by
  have:=QV (ty:=S) (E:=E) (k:=1) (n:=n+1-i) (c:=dc) (m:=1) (c2:=vc) (t2:=ty) zr zr hE (o:=i*z) (o2:=0) aib aw4 (by simp only[Nat.min_def];split <;> omega) qO zr (by rw[hts];exact zo) (by rw[hts];exact zo) (λj x _ hj=>h2 j x (by rw[hts]at hj;exact zo));rw[hts,List.drop_zero,Nat.one_mul]at this;rw[hR,hN];exact this
 have aw2:(W1.setRow w.heap.size R).heap[w.heap.size]?=some (.cells R E (0,0)):=setRow_heap _ _ ROW R E (0,0) aib;have aw3:(W1.setRow w.heap.size R).heap[b]?=some (.cells CS E (0,0)):=(setRow_other _ _ b R qO).trans aw5;have hcp2:∀(W:World),W.heap=(W1.setRow w.heap.size R).heap->∀ ty dc sc,(Builtin.copy_ #[S,S] ty #[.slice (some ⟨w.heap.size,(i+1)*z,none⟩) (n-i) dc,.slice (some ⟨b,i*z,none⟩) (n-i) sc]).run prog W = .ok (goInt ((n-i:Nat):Int)) (W.setRow w.heap.size (pF R ((i+1)*z) M)):=λW hW ty dc sc=>by
  rw[hM];have:=QV (ty:=S) (E:=E) (k:=n-i) (o:=(i+1)*z) (o2:=i*z) (n:=n-i) (m:=n-i) (b:=w.heap.size) (b2:=b) (cs:=R) (cs2:=CS) (c:=dc) (c2:=sc) (t2:=ty) (te:=E) (te2:=E) zr zr hE (by rw[hW];exact aw2) (by rw[hW];exact aw3) (Nat.min_self _) qO zr (by rw[hts];exact zo) (by rw[hts];exact zo) (λj x _ hj=>h1 j x (by rw[hts]at hj;exact zo));rw[hts]at this;exact this
 have awR:(sizeOf E).run prog W1 = .ok z W1:=hts▸qB hE;have axo:(sizeOf E).run prog ((W1.setRow w.heap.size R).drew) = .ok z ((W1.setRow w.heap.size R).drew):=hts▸qB hE;have hw1:IntKind.i64.wrap ((i:Int)+1)=(i:Int)+1:=by rw[IntKind.wrap_i64];omega
 have hw2:IntKind.i64.wrap ((n:Int)+1)=(n:Int)+1:=by rw[IntKind.wrap_i64];omega
 have hw3:IntKind.i64.wrap ((n:Int)+1-(i:Int))=(n:Int)+1-(i:Int):=by rw[IntKind.wrap_i64];omega
 have hb1:(0:Int)<=(i:Int)+1:=qO;have hin:i<=n:=qO;have htn:((i:Int)+1).toNat=i+1:=qO;have hb3:(i:Int)<=(n:Int)+1:=qO;have hGi:¬(G=i):=qO;have hGim:¬(G=i+1):=qO;have hci:¬(c=i):=qO;clear fF hik hold hROW hG hQ hfits hI Qw hW1 hM hN hR;unfold ES at hP;obtain⟨rfl,rfl,rfl,rfl,rfl⟩|⟨rfl,rfl,rfl,rfl,rfl⟩:=hP
 ·clear hts;go_enter func301,ntmps301;go_wp2_with (first|(at_builtin;refine Lib.wpList_append_run _ rfl _ _ _ _ rfl _ _ rfl rfl _ _ (hrz _) ?_)|rw[hcp1])
  go_region_law (refine QH rfl (.tmp 50) (.tmp 53) 38 rfl (.slice (some ⟨w.heap.size,(i+1)*2,none⟩) (n-i) (G-(i+1))) (.slice (some ⟨b,i*2,none⟩) (n-i) (c-i)) ?_ ?_ (hcp2 _ ?_ 3 (G-(i+1)) (c-i)) ?_;(simp[Act.eval,Act.put]);(simp[Act.eval,Act.put]);rfl)
  go_wp2;go_ret;exact⟨rfl,rfl⟩
 ·clear hts;go_enter func241,ntmps241;go_wp2_with (first|(at_builtin;refine Lib.wpList_append_run _ rfl _ _ _ _ rfl _ _ rfl rfl _ _ (hrz _) ?_)|rw[hcp1])
  go_region_law (refine QH rfl (.tmp 50) (.tmp 53) 37 rfl (.slice (some ⟨w.heap.size,(i+1)*4,none⟩) (n-i) (G-(i+1))) (.slice (some ⟨b,i*4,none⟩) (n-i) (c-i)) ?_ ?_ (hcp2 _ ?_ 3 (G-(i+1)) (c-i)) ?_;(simp[Act.eval,Act.put]);(simp[Act.eval,Act.put]);rfl)
  go_wp2;go_ret;exact⟨rfl,rfl⟩
def agH{E z S ov f:Nat}(hP:ES E z S ov f){n p:Nat}{g x:Nat->Nat->V}(hp:p<n)(hn:n<=100000):af f [.row 0 n,iV p,.row 1 1] ⟨[(0,.row E z n g),(1,.row E z 1 x)],2⟩ (λv t=>v = .row 0 (n+1)/\t=⟨[(0,.row E z (n+1) (yM p g (x 0))),(1,.row E z 1 x)],2⟩):=by
 refine⟨by unfold ES at hP;obtain⟨rfl,rfl,rfl,rfl,rfl⟩|⟨rfl,rfl,rfl,rfl,rfl⟩:=hP;exact wI func301 rfl rfl;exact wI func241 rfl rfl,λG w us hg hl hv=>?_⟩;obtain⟨u0,u1,u2,rfl,hu0,hu1,hu2⟩:=axi (P:=λ_ v u=>aY G (ST.get ⟨[(0,.row E z n g),(1,.row E z 1 x)],2⟩) w v u) hl hv;obtain⟨b,c,CS,rfl,hr,hh,hs,hnc,hcm,hcell⟩:=agq (i:=0) hg rfl hu0 qO;obtain⟨vb,vc,VS,rfl,hr2,hh2,hs2,ah9,hcm2,hcell2⟩:=agq (i:=1) hg rfl hu2 qO;have hu1:u1 = .int .i64 (p:Int):=hu1;subst hu1;have hE:(tI E).ok=true:=zr;have o0:dB G (ST.get ⟨[(0,.row E z n g),(1,.row E z 1 x)],2⟩) 0 b:=⟨_,c,hr,by omega,_,rfl⟩;have o1:dB G (ST.get ⟨[(0,.row E z n g),(1,.row E z 1 x)],2⟩) 1 vb:=⟨_,vc,hr2,by omega,_,rfl⟩;have hne:vb≠b:=λe=>ai (hg.axy.sep 0 1 b o0 (e▸o1)) qD
 have h1:∀(j:Nat) (u:Value),j<n*z->CS[j]?=some u->u.oneCell'=true:=λj u hj hu=>by
  obtain⟨e1,e2,e3⟩:=ZL (z:=z) zo hj;obtain⟨y,e4,e5,_⟩:=hcell _ e1 _ e2;rw[e3,hu]at e4;injection e4 with e4
  rw[e4];exact e5
 have h2:∀(j:Nat) (u:Value),j<z->VS[j]?=some u->u.oneCell'=true:=λj u hj hu=>by
  obtain⟨y,e4,e5,_⟩:=hcell2 0 qO j hj;rw[Nat.zero_mul,jq,hu]at e4;injection e4 with e4
  rw[e4];exact e5
 have afV:∀ k,k<z->∃ u,VS[k]?=some u/\u.oneCell'=true/\aY G (ST.get ⟨[(0,.row E z n g),(1,.row E z 1 x)],2⟩) w (x 0 k) u:=λk hk=>by
  have:=hcell2 0 qO k hk;rwa [Nat.zero_mul,jq]at this
 have hmid:((CS.toList.drop (p*z)).take ((n-p)*z)).length=(n-p)*z:=by rw[dG,eY,rO,hs];exact zo
 have hvl:(VS.toList.take z).length=z:=by rw[dG,rO,hs2];exact zo
 have hM:∀ j,j<(n-p)*z->((CS.toList.drop (p*z)).take ((n-p)*z))[j]?=CS[p*z+j]?:=λj hj=>by rw[nX,if_pos hj,rP,qP]
 have hV:∀ j,j<z->(VS.toList.take z)[j]?=VS[j]?:=λj hj=>by rw[nX,if_pos hj,qP]
 have hb:b<w.heap.size:=(Array.getElem?_eq_some_iff.1 hh).1;by_cases hroom:n+1<=c
 ·refine(aq7 hP hne hh hh2 hs hs2 ah9 hroom hcm hp hn h1 h2).mono λe w' ⟨he,hw⟩=>?_
  have hR:=setRow_heap (w.drew) b CS (pF CS ((p+1)*z) ((CS.toList.drop (p*z)).take ((n-p)*z))) E (0,0) hh;have hF:=setRow_heap _ b _ (pF (pF CS ((p+1)*z) ((CS.toList.drop (p*z)).take ((n-p)*z))) (p*z) (VS.toList.take z)) E (0,0) hR;obtain⟨k1,k2,k3⟩:=aeh (z:=z) (p:=p) (x:=x) (VS:=VS) (C:=c) (nb:=b) (w':=w') (FC:=pF (pF CS ((p+1)*z) ((CS.toList.drop (p*z)).take ((n-p)*z))) (p*z) (VS.toList.take z)) (CS:=CS) hg rfl hr rfl qO hcell afV hp (by rw[hw];rfl) (by rw[hw];rfl) (by rw[hw];rfl) (by rw[hw];simp) (λq hq hqb=>by rw[hw];exact(setRow_other _ _ _ _ hqb).trans (setRow_other _ _ _ _ hqb)) (.inl rfl) hroom hcm (by rw[hw];exact hF)
   (by rw[BH (by rw[BH zo];exact zo),BH zo];exact hs) (λj hj k hk=>by
    rw[RF (by rw[BH zo];exact zo),hvl,RF zo,hmid];obtain q|q|q:=Nat.lt_trichotomy j p
    ·rw[if_neg zo,if_neg zo,if_pos q]
    ·subst q;rw[if_pos zo,if_neg zo,if_pos rfl,hV _ zo];exact ah (λi=>VS[i]?) zo
    ·rw[if_neg zo,if_pos zo,if_neg zo,if_neg zo,hM _ zo];exact ah (λi=>CS[i]?) zo)
  exact⟨_,_,_,_,he,⟨rfl,rfl⟩,k1,k2,k3⟩
 ·refine(am4 hP hh hh2 hs hs2 ah9 hnc qO hp hn h1 h2).mono λe w' ⟨C,Q,hC,hCm,hQ,he,hw⟩=>?_
  have hol:(CS.toList.take (p*z)).length=p*z:=by rw[dG,rO,hs];exact zo
  have Qw:(CS.toList.take (p*z)++Q).toArray.size=C*z:=by rw[List.size_toArray,bP,hol,hQ];exact zo
  have hA:=heap_alloc_new w.drew (.cells (CS.toList.take (p*z)++Q).toArray E);have hR:=setRow_heap (w.drew.alloc (.cells (CS.toList.take (p*z)++Q).toArray E)) w.heap.size _ (pF (CS.toList.take (p*z)++Q).toArray (p*z) (VS.toList.take z)) E (0,0) hA;have hF:=setRow_heap (((w.drew.alloc (.cells (CS.toList.take (p*z)++Q).toArray E)).setRow w.heap.size (pF (CS.toList.take (p*z)++Q).toArray (p*z) (VS.toList.take z))).drew) w.heap.size _ (pF (pF (CS.toList.take (p*z)++Q).toArray (p*z) (VS.toList.take z)) ((p+1)*z) ((CS.toList.drop (p*z)).take ((n-p)*z))) E (0,0) hR;obtain⟨k1,k2,k3⟩:=aeh (z:=z) (p:=p) (x:=x) (VS:=VS) (C:=C) (nb:=w.heap.size) (w':=w') (FC:=pF (pF (CS.toList.take (p*z)++Q).toArray (p*z) (VS.toList.take z)) ((p+1)*z) ((CS.toList.drop (p*z)).take ((n-p)*z))) (CS:=CS) hg rfl hr rfl qO hcell afV hp (by rw[hw];rfl) (by rw[hw];rfl) (by rw[hw];rfl) (by rw[hw];simp) (λq hq hqb=>by rw[hw];exact(setRow_other _ _ _ _ qO).trans ((setRow_other _ _ _ _ qO).trans (heap_alloc_old w.drew _ hq))) (.inr (bF _)) hC hCm (by rw[hw];exact hF)
   (by rw[BH (by rw[BH zo];exact zo),BH zo];exact Qw) (λj hj k hk=>by
    rw[RF (by rw[BH zo];exact zo),hmid,RF zo,hvl];obtain q|q|q:=Nat.lt_trichotomy j p
    ·rw[if_neg zo,if_neg zo,if_pos q,List.getElem?_toArray,lS zo,nX,if_pos zo,qP]
    ·subst q;rw[if_neg zo,if_pos zo,if_neg zo,if_pos rfl,hV _ zo];exact ah (λi=>VS[i]?) zo
    ·rw[if_pos zo,if_neg zo,if_neg zo,hM _ zo];exact ah (λi=>CS[i]?) zo)
  exact⟨_,_,_,_,he,⟨rfl,rfl⟩,k1,k2,k3⟩
def am6{n:Nat}{g x:Nat->Nat->D}(hn:n<=100000):af 301 [.row 0 n,iV n,.row 1 1] ⟨[(0,.row 97 2 n (λj k=>.d (g j k))),(1,.row 97 2 1 (λj k=>.d (x j k)))],2⟩ (λrv rt=>rv=(.row 0 (n+1))/\rt=⟨[(0,.row 97 2 (n+1) (λj k=>.d (Be n g (x 0) j k))),(1,.row 97 2 1 (λj k=>.d (x j k)))],2⟩):=by refine ay func301 λX=>?_;exact abG
def afO{n p:Nat}{g x:Nat->Nat->D}(hp:p<=n)(hn:n<=100000):af 301 [.row 0 n,iV p,.row 1 1] ⟨[(0,.row 97 2 n (λj k=>.d (g j k))),(1,.row 97 2 1 (λj k=>.d (x j k)))],2⟩ (λv t=>v = .row 0 (n+1)/\t=⟨[(0,.row 97 2 (n+1) (λj k=>.d (Be p g (x 0) j k))),(1,.row 97 2 1 (λj k=>.d (x j k)))],2⟩):=by
 obtain h|h:=l7 p n
 ·rw[<-ZF];exact agH (S:=38) (ov:=316) (.inl ⟨rfl,rfl,rfl,rfl,rfl⟩) h hn
 ·obtain rfl:p=n:=qO;exact am6 hn
def am5{n:Nat}{g x:Nat->Nat->D}(hn:n<=100000):af 241 [.row 0 n,iV n,.row 1 1] ⟨[(0,.row 54 4 n (λj k=>.d (g j k))),(1,.row 54 4 1 (λj k=>.d (x j k)))],2⟩ (λrv rt=>rv=(.row 0 (n+1))/\rt=⟨[(0,.row 54 4 (n+1) (λj k=>.d (Be n g (x 0) j k))),(1,.row 54 4 1 (λj k=>.d (x j k)))],2⟩):=by refine ay func241 λX=>?_;exact abG
def aq6{n p:Nat}{g x:Nat->Nat->D}(hp:p<=n)(hn:n<=100000):af 241 [.row 0 n,iV p,.row 1 1] ⟨[(0,.row 54 4 n (λj k=>.d (g j k))),(1,.row 54 4 1 (λj k=>.d (x j k)))],2⟩ (λv t=>v = .row 0 (n+1)/\t=⟨[(0,.row 54 4 (n+1) (λj k=>.d (Be p g (x 0) j k))),(1,.row 54 4 1 (λj k=>.d (x j k)))],2⟩):=by
 obtain h|h:=l7 p n
 ·rw[<-ZF];exact agH (S:=37) (ov:=249) (.inr ⟨rfl,rfl,rfl,rfl,rfl⟩) h hn
 ·obtain rfl:p=n:=qO;exact am5 hn
abbrev Gx(s:aN):ST:=⟨[(0,.Wp 7 (zt s 1 2 3)),(1,bQ 54 4 iE .z s.aJ),(2,bQ 97 2 iw .z s.opens),(3,bQ 71 5 iP .z s.az)],4⟩
def OV(s:aN)(c:aF)(hs:jw s)(hc:c.chunks.length<=100000):aQ 238 [dZ s,jl c] (iV (jD s c)):=by
 refine ay func238 λX=>?_
 (repeat'(first|refine aC ?_|refine aO (ape s s.version hs.may) ?_|refine aO (Un c s.version hc) ?_|refine aj.mk (λh=>?_) (λh=>?_)|refine ag.a ?_|refine Fin.tell (vq (ah iV ?_) tv)))<;>try exact cls
 all_goals(unfold jD;first|exact(dH h).symm|exact(bG h).symm)
def qR(e:Int):aQ 239 [iV e] (lJ ⟨e,0⟩):=by
 refine ay func239 λX=>?_
 (repeat'(first|refine aC ?_|refine ag.a ?_|refine Fin.tell (gu ?_)))<;>try exact cls
 all_goals(repeat'(first|exact tv|exact qV|refine an ?_ ?_))
def adT(s:aN)(c:aF)(hs:jw s):af 302 [.ptr 0 0,jl c] (Gx s) (λrv rt=>rv=(iV (jM s c))/\rt=(Gx s)):=by
 have hb:=FB (λx:iT=>decide (x.set=c.set)) s.opens;refine ay func302 λX=>?_
 (repeat'(first|refine aC ?_|refine bU 1 [5] (ooz 5 [o1,o3]) ?_|refine bU 2 [] (ooz 15 []) ?_|refine mc ?_ ?_|refine QJ (QT s c.set hs.may.l2) tv bw ?_|refine aj.mk (λh=>?_) (λh=>?_)|refine bM qN qN (vq (ah iV ?_) tv) (by repeat'(first|exact tv|refine fE qN ?_ ?_|refine an ⟨nb rfl,aW.row rfl fv⟩ ?_|exact qV|exact qW|refine an ?_ ?_))))<;>(try(refine dm.mk ?_;repeat'(first|exact tv|exact rfl|refine vM (QT s c.set hs.may.l2) tv bw ?_|refine an ?_ ?_|refine ag.mk ?_ ?_)))
 all_goals try exact cls
 all_goals(try(unfold jM opAt));all_goals first|exact(dH h).symm|exact(bG h).symm|(intro h;have h:=bT h;omega)
def rZ(s:aN)(x4 x5 x6:V):Nat->V
 |4=>x4
 |5=>x5
 |6=>x6
 |k=>.d (dW s k)
abbrev aaH(s:aN)(x5 x6:V)(n m:Nat):ST:=⟨[(0,.Wp 7 (rZ s (.row 1 s.aJ.length) x5 x6)),(1,bQ 54 4 iE .z s.aJ),(2,.row 97 2 n (λj k=>.d (iw (s.opens.getD j .z) k))),(3,.row 71 5 m (λj k=>.d (iP (s.az.getD j .z) k)))],4⟩
abbrev OU(s:aN)(c:aF):aN:={ s with opens:=oV s.opens (Ku s c.set) ⟨c.set,c.ax⟩ }
abbrev Uz(s:aN)(c:aF):aN:={ s with opens:=s.opens.eraseIdx (jM s c).toNat }
def arU(s:aN)(c:aF)(hs:jw s):af 271 [.ptr 0 0,jl c] (Gx s) (LK (λa=>IA s c=(s,a)) lJ (Gx s) (IA s c=(OU s c,.z)) (lJ .z) (aaH (OU s c) (.row 2 (OU s c).opens.length) (.row 3 s.az.length) (OU s c).opens.length s.az.length)):=by
 have hb:=FB (λx:iT=>decide (x.set=c.set)) s.opens;refine ay func271 λX=>?_
 (repeat'(first|refine aC ?_|refine bU 1 [5] (ooz 5 [o1,o3]) ?_|refine bU 5 [] (ooz 20 []) ?_|refine bU 7 [11,12,15] [(0,2,false,[]),o2,o2,o2,o2,o2,o0,o0,o0,o0,o0,o1,(1,1,true,[]),(2,2,false,[]),(2,2,false,[]),(2,2,true,[])] ?_|refine mc ?_ ?_|refine dU (s.opens.length-0) (λi (a:Unit)=>⟨62,[(3,.ptr 4 0),(4,.ptr 5 0),(0,.ptr 0 0),(6,iV i)],⟨[(4,.Wp 8 (λk=>.d (lW c k))),(5,.Wp 2 (λk=>.d (iD 0))),(0,.Wp 7 (zt s 1 2 3)),(1,bQ 54 4 iE .z s.aJ),(2,bQ 97 2 iw .z s.opens),(3,bQ 71 5 iP .z s.az)],6⟩⟩) (λi a=>Ku s c.set=i+ahead (λx=>decide (x.set<c.set)) (s.opens.drop i)) () ?_ ?_ (λi a hi hp=>?_)|refine aZ () ⟨?_,?_,?_⟩|refine QJ (QT s c.set hs.may.l2) tv bw ?_|refine abZ [2,6] (afO (n:=s.opens.length) (p:=i) (g:=λj k=>iw (s.opens.getD j .z) k) (x:=λ_ k=>iw ⟨c.set,c.ax⟩ k) qo (by have:=hs.fit.l2;omega)) rfl rfl rfl vw ⟨⟨_,rfl,aW.row rfl fv⟩,⟨_,rfl,aW.row rfl (λj hj k hk=>(by obtain rfl:=Nat.lt_one_iff.1 hj;have hk:k<2:=hk;obtain _|_|k:=k;exact qV;exact qV;exact ai hk qo))⟩,tv⟩ ?_|refine aj.mk (λh=>?_) (λh=>?_)|refine ag.a ?_|refine O3 ⟨_,_⟩ (dH h) (bM qN qN (gu vw) ?_)|refine Z4 ?_ (bM qN qN (gu vw) ?_)|refine ag.mk ?_ ?_))<;>(try(refine dm.mk ?_;repeat'(first|exact tv|exact rfl|refine vM (QT s c.set hs.may.l2) tv bw ?_|refine nZ [2,6] (afO (n:=s.opens.length) (p:=i) (g:=λj k=>iw (s.opens.getD j .z) k) (x:=λ_ k=>iw ⟨c.set,c.ax⟩ k) qo (by have:=hs.fit.l2;omega)) rfl rfl rfl vw ⟨⟨_,rfl,aW.row rfl fv⟩,⟨_,rfl,aW.row rfl (λj hj k hk=>(by obtain rfl:=Nat.lt_one_iff.1 hj;have hk:k<2:=hk;obtain _|_|k:=k;exact qV;exact qV;exact ai hk qo))⟩,tv⟩ ?_|refine an ?_ ?_|refine ag.mk ?_ ?_)))
 all_goals try exact cls
 all_goals(try(first|(refine leq ?_ ?_ <;> repeat'(first|exact tv|exact qV|exact qW|refine fE qN ?_ ?_|refine gU qN ?_ (λj hj k hk=>?_) ?_|refine an ?_ ?_))|(repeat'(first|exact tv|refine fE qN ?_ ?_|refine gU qN ?_ (λj hj k hk=>?_) ?_|exact qV|exact qW|refine vq (ah (V.row _) ?_) qN|refine an ?_ ?_))))
 all_goals first|exact rfl|exact cm qV|exact nb rfl|exact bG (by unfold opAt;assumption)|exact(ac7 (Yo _ _)).symm|(have hr:Ku s c.set=i:=(by obtain h7|h7:=l7 i s.opens.length;(obtain h8|h8:=ahE h;(have h8:=bV h8;omega);(rw[hp,Rl .z h7,show decide ((s.opens.getD i .z).set<c.set)=false from h8];rfl));(rw[hp,qM h7];rfl));refine cm (vq ?_ trivial);show V.d (Be i (λj k=>iw (s.opens.getD j .z) k) (iw ⟨c.set,c.ax⟩) j k)=V.d (iw ((oV s.opens (Ku s c.set) ⟨c.set,c.ax⟩).getD j .z) k);rw[hr];exact ah V.d (ac6 iw .z _ s.opens qo))|(rw[jq,List.drop_zero];rfl)|(have h8:=U9 h;have h9:=bT h8.1;omega)|(have h8:=U9 h;have h9:=bT h8.1;have h10:=hs.fit.l2;simp only[dM];omega)|(have h8:=U9 h;have h9:=bT h8.1;rw[hp,Rl .z qo,show decide ((s.opens.getD i .z).set<c.set)=true from h8.2,dw];omega)|(intro h;have h8:=bT h;omega)|(have h9:=bT h;omega)
def Gn{x a b:Int}(h:dQ x a b=true):a<=x/\x<=b:=fU h
def IK{x a b:Int}(h:a<=x/\x<=b):dQ x a b=true:=aX h
def sU{α:Type}(key:α->Int)(dO:Int)(l:List α):Prop:=(l.map key).Pairwise (· < ·)/\∀ x∈l,key x<=dO
def Ic{α:Type}{key:α->Int}{dO:Int}:∀ {l:List α} {a:Int},rX key dO a l=true↔(sU key dO l/\∀ x∈l,a<key x)
 |[],a=>⟨λ_=>⟨⟨List.Pairwise.nil,λx h=>ai h (by simp)⟩,λx h=>ai h (by simp)⟩,λ_=>rfl⟩
 |x::r,a=>by
  have ih:=Ic (key:=key) (dO:=dO) (l:=r) (a:=key x);unfold rX;constructor
  ·intro h;rcases hb:dQ (key x) (a+1) dO with _|_
   ·rw[hb]at h;cases h
   ·rw[hb]at h;obtain⟨⟨h1,h2⟩,h3⟩:=ih.1 h;have hb:=Gn hb;refine⟨⟨?_,?_⟩,?_⟩
    ·rw[List.map_cons,List.pairwise_cons];refine⟨λy hy=>?_,h1⟩;obtain⟨z,hz,rfl⟩:=List.mem_map.1 hy;exact h3 z hz
    ·intro y hy;obtain rfl|hy:=List.mem_cons.1 hy
     ·exact hb.2
     ·exact h2 y hy
    ·intro y hy;obtain rfl|hy:=List.mem_cons.1 hy
     ·omega
     ·have:=h3 y hy;omega
  ·intro ⟨⟨h1,h2⟩,h3⟩;rw[List.map_cons,List.pairwise_cons]at h1;have h4:=h3 x jL;have h5:=h2 x jL;rw[IK (show a+1<=key x/\key x<=dO by omega)];exact ih.2 ⟨⟨h1.2,λy hy=>h2 y (jA _ hy)⟩,λy hy=>h1.1 _ (List.mem_map_of_mem hy)⟩
def sU.sub{α:Type}{key:α->Int}{dO:Int}{l m:List α}(h:sU key dO l)(hs:m.Sublist l):sU key dO m:=⟨h.1.sublist (hs.map key),λx hx=>h.2 x (hs.subset hx)⟩
def sU.snoc{α:Type}{key:α->Int}{dO ahl:Int}{l:List α}{y:α}(h:sU key dO l)(h1:dO<key y)(h2:key y<=ahl):sU key ahl (l++[y]):=by
 refine⟨?_,λx hx=>?_⟩
 ·rw[List.map_append,List.pairwise_append];refine⟨h.1,by simp,λa ha b hb=>?_⟩;obtain⟨x,hx,rfl⟩:=List.mem_map.1 ha;obtain rfl:b=key y:=by simpa using hb
  have:=h.2 x hx;omega
 ·obtain hx|hx:=List.mem_append.1 hx
  ·have:=h.2 x hx;omega
  ·obtain rfl:x=y:=by simpa using hx
   exact h2
def apu{α:Type}{key:α->Int}{z:α}{l:List α}{p:Nat}{y:α}(h:key y=key (l.getD p z)):(l.set p y).map key=l.map key:=by
 apply List.ext_getElem?;intro k;rw[qQ,qQ,List.getElem?_set];by_cases e:p=k
 ·subst e;rw[if_pos rfl];by_cases hp:p<l.length
  ·rw[if_pos hp,dV hp];simp only[qg,h,bn,dV hp,Option.getD_some]
  ·rw[if_neg hp,List.getElem?_eq_none qO]
 ·rw[if_neg e]
def sU.set{α:Type}{key:α->Int}{dO:Int}{z:α}{l:List α}{p:Nat}{y:α}(h:sU key dO l)(he:key y=key (l.getD p z)):sU key dO (l.set p y):=by
 have hm:=apu (l:=l) (p:=p) he;refine⟨by rw[hm];exact h.1,λx hx=>?_⟩;have:key x∈l.map key:=by rw[<-hm];exact List.mem_map_of_mem hx
 obtain⟨w,hw,e⟩:=List.mem_map.1 this;rw[<-e];exact h.2 w hw
def Ze{α:Type}{key:α->Int}{dO:Int}:∀ {l:List α} {y:α},sU key dO l->key y<=dO->(∀ x∈l,key x≠key y)->sU key dO (oV l (ahead (λx=>decide (key x<key y)) l) y)
 |[],y,h,h1,h2=>by
  refine⟨by simp[oV,ahead],λx hx=>?_⟩;obtain rfl:x=y:=by simpa [oV,ahead] using hx
  exact h1
 |a::r,y,h,h1,h2=>by
  have hp:=h.1;rw[List.map_cons,List.pairwise_cons]at hp;have hr:sU key dO r:=h.sub (List.sublist_cons_self a r);unfold ahead;by_cases e:key a<key y
  ·rw[aX e,dw];have ih:=Ze hr h1 (λx hx=>h2 x (jA _ hx));show sU key dO (oV (a::r) (ahead _ r+1) y);have ei:oV (a::r) (ahead (λx=>decide (key x<key y)) r+1) y=a::oV r (ahead (λx=>decide (key x<key y)) r) y:=by simp[oV]
   rw[ei];refine⟨?_,λx hx=>?_⟩
   ·rw[List.map_cons,List.pairwise_cons];refine⟨λk hk=>?_,ih.1⟩;obtain⟨w,hw,rfl⟩:=List.mem_map.1 hk;unfold oV at hw;obtain hw|hw:=List.mem_append.1 hw
    ·exact hp.1 _ (List.mem_map_of_mem (List.mem_of_mem_take hw))
    ·obtain rfl|hw:=List.mem_cons.1 hw
     ·exact e
     ·exact hp.1 _ (List.mem_map_of_mem (List.mem_of_mem_drop hw))
   ·obtain rfl|hx:=List.mem_cons.1 hx
    ·exact h.2 _ jL
    ·exact ih.2 x hx
  ·rw[aT e,bz];have e2:=h2 a jL;show sU key dO (y::a::r);refine⟨?_,λx hx=>?_⟩
   ·rw[List.map_cons,List.pairwise_cons];refine⟨λk hk=>?_,h.1⟩;rw[List.map_cons]at hk;obtain rfl|hk:=List.mem_cons.1 hk
    ·omega
    ·have:=hp.1 k hk;omega
   ·obtain rfl|hx:=List.mem_cons.1 hx
    ·exact h1
    ·exact h.2 x hx
structure Dk (v:Int) (x:eH):Prop where
 row:kW x.chunks=true
 set:1<=x.set/\x.set<=8
 held:x.held=true->2<=v
 tag:x.tag.length<=16
 Vk:v<3->x.tag=[]
def Sj{v t:Int}{x:eH}:GG v t x=true↔(kW x.chunks=true/\(1<=x.set/\x.set<=8)/\(x.held=true->2<=v)/\(x.tag.length:Int)<=t):=by
 unfold GG dQ;obtain _|_:=kW x.chunks <;> obtain _|_:=x.held <;> simp[Af] <;> omega
structure gK (s:aN) (v:Int):Prop where
 v3:1<=v/\v<=3
 ver:1<=s.version/\s.version<=3
 next:1<=s.next/\s.next<=1048576
 axz:0<=s.axz/\s.axz<=8
 mg:0<=s.mg/\s.mg<=64
 OD:v<3->s.mg=0
 aJ:sU (λx=>x.ax) 8 s.aJ
 Eo:∀ x∈s.aJ,0<x.ax
 su:∀ x∈s.aJ,su x=true
 opens:sU (λx=>x.set) 8 s.opens
 Ce:∀ x∈s.opens,0<x.set
 uz:∀ x∈s.opens,uz x=true
 az:sU (λx=>x.id) (s.next-1) s.az
 Aq:∀ x∈s.az,0<x.id
 len:s.az.length<=16
 sn:∀ x∈s.az,Dk v x
def KD{a b:Bool}:(bif a then true else b)=false↔a=false/\b=false:=by cases a <;> simp
def wR{a b:Bool}:(bif a then b else false)=true↔a=true/\b=true:=by cases a <;> simp
def KQ{a:Bool}:(!a)=false↔a=true:=by cases a <;> simp
def acJ{s:aN}{v q:Int}:Gg s v q=false↔((((1<=s.version/\s.version<=3)/\(1<=s.next/\s.next<=1048576))/\(0<=s.axz/\s.axz<=8))/\(0<=s.mg/\s.mg<=q)) /\
  (rX (λx=>x.ax) 8 0 s.aJ=true/\s.aJ.all su=true)/\(rX (λx=>x.set) 8 0 s.opens=true/\s.opens.all uz=true)/\Oz s v=true:=by
 unfold Gg;rw[KD,KD,KD,KQ,KQ,KQ,KQ,wR,wR,wR,wR,wR];unfold dQ;simp only[gq];constructor
 ·rintro⟨⟨⟨h1,h2⟩,h3⟩,h4⟩;exact⟨h1,h2,h3,h4⟩
 ·rintro⟨h1,h2,h3,h4⟩;exact⟨⟨⟨h1,h2⟩,h3⟩,h4⟩
def ab9{s:aN}{v:Int}:Oz s v=true↔s.az.length<=16/\rX (λx=>x.id) (s.next-1) 0 s.az=true/\∀ x∈s.az,Dk v x:=by
 unfold Oz;constructor
 ·intro h;rcases h1:(bif decide (16<(s.az.length:Int)) then true else !rX (λx=>x.id) (s.next-1) 0 s.az) with _|_
  ·rw[h1,bz]at h;rw[KD,KQ,iy]at h1;refine⟨by omega,h1.2,λx hx=>?_⟩;by_cases hv:v<3
   ·rw[aX hv,dw,y7]at h;obtain⟨a,b,c,d⟩:=Sj.1 (h x hx);exact⟨a,b,c,by omega,λ_=>uI qO⟩
   ·rw[aT hv,bz,y7]at h;obtain⟨a,b,c,d⟩:=Sj.1 (h x hx);exact⟨a,b,c,by omega,λh=>ai h hv⟩
  ·rw[h1]at h;cases h
 ·intro ⟨h1,h2,h3⟩;rw[h2,aT qO];simp only[bz,Bool.not_true];by_cases hv:v<3
  ·rw[aX hv,dw,y7];intro x hx;have h:=h3 x hx;exact Sj.2 ⟨h.row,h.set,h.held,by rw[h.Vk hv];simp⟩
  ·rw[aT hv,bz,y7];intro x hx;have h:=h3 x hx;exact Sj.2 ⟨h.row,h.set,h.held,by have:=h.tag;omega⟩
def SE{s:aN}{v:Int}:Lr s v=0↔gK s v:=by
 unfold Lr;constructor
 ·intro h;rcases hv:dQ v 1 3 with _|_
  ·rw[hv]at h;cases h
  ·rw[hv]at h;have hv:=Gn hv;have key:∀ q:Int,q<=64->(v<3->q=0)->Gg s v q=false->gK s v:=λq hq hq0 hb=>by
    obtain⟨⟨⟨⟨a1,a2⟩,a3⟩,a4⟩,⟨b1,b2⟩,⟨c1,c2⟩,d⟩:=acJ.1 hb;obtain⟨d1,d2,d3⟩:=ab9.1 d;have b:=Ic.1 b1;have c:=Ic.1 c1;have e:=Ic.1 d2;exact⟨hv,a1,a2,a3,⟨a4.1,by omega⟩,λh=>by have:=hq0 h;omega,b.1,b.2,List.all_eq_true.1 b2,c.1,c.2,List.all_eq_true.1 c2,e.1,e.2,d1,d3⟩
   simp only[Bool.not_true,bz]at h;by_cases h3:v<3
   ·rw[aX h3,dw]at h;rcases hb:Gg s v 0 with _|_
    ·exact key 0 qO (λ_=>rfl) hb
    ·rw[hb]at h;cases h
   ·rw[aT h3,bz]at h;rcases hb:Gg s v 64 with _|_
    ·exact key 64 qO (λh=>ai h h3) hb
    ·rw[hb]at h;cases h
 ·intro h;have key:∀ q:Int,s.mg<=q->Gg s v q=false:=λq hq=>acJ.2 ⟨⟨⟨⟨h.ver,h.next⟩,h.axz⟩,h.mg.1,hq⟩,⟨Ic.2 ⟨h.aJ,h.Eo⟩,List.all_eq_true.2 h.su⟩,⟨Ic.2 ⟨h.opens,h.Ce⟩,List.all_eq_true.2 h.uz⟩,ab9.2 ⟨h.len,Ic.2 ⟨h.az,h.Aq⟩,h.sn⟩⟩
  rw[IK h.v3];simp only[Bool.not_true,bz];by_cases h3:v<3
  ·rw[aX h3,key 0 (by rw[h.OD h3];exact dL _)];rfl
  ·rw[aT h3,key 64 h.mg.2];rfl
def Dk.mono{v w:Int}{x:eH}(h:Dk v x)(hw:v<=w):Dk w x:=⟨h.row,h.set,λe=>by have:=h.held e;omega,h.tag,λe=>h.Vk qO⟩
def gK.mono{s:aN}{v w:Int}(h:gK s v)(hw:v<=w)(h3:w<=3):gK s w:=
 { h with v3:=⟨by have:=h.v3;omega,h3⟩,OD:=λe=>h.OD qO,sn:=λx hx=>(h.sn x hx).mono hw }
def axB{α:Type}{z:α}{l:List α}{i:Nat}(h:i<l.length):l.getD i z∈l:=by
 rw[bn,dV h];exact List.getElem_mem h
def LZ:(0:Int)<=0/\(0:Int)<=99:=by decide
def rn0:(0:Int)<=0/\(0:Int)<=1048576:=by decide
structure qA (s:aN) (p:aN×Rep):Prop where
 ok:gK p.1 s.version
 ver:p.1.version=s.version
 code:0<=p.2.code/\p.2.code<=99
 n:0<=p.2.n/\p.2.n<=1048576
 aJ:p.1.aJ=s.aJ
def qA.err{s:aN}(h:gK s s.version)(e n:Int)(he:0<=e/\e<=99)(hn:0<=n/\n<=1048576):qA s (s,⟨e,n⟩):=⟨h,rfl,he,hn,rfl⟩
def JL{α:Type}{p:α->Bool}:∀ {l:List α} {i:Nat},eU p i l<0->∀ x∈l,p x=false
 |[],i,h,x,hx=>by simp at hx
 |y::r,i,h,x,hx=>by
  unfold eU at h;rcases hy:p y with _|_
  ·rw[hy,bz]at h;obtain rfl|hx:=List.mem_cons.1 hx
   ·exact hy
   ·exact JL h x hx
  ·rw[hy,dw]at h;omega
def aoh{s:aN}{c:aF}(h:gK s s.version)(hc:Qb c)(hk:c.kind=2):qA s (IA s c):=by
 unfold IA;rcases hb:decide (0<=opAt s c.set) with _|_
 ·rw[bz];have hb:=mJ hb;have hno:=JL (p:=λx:iT=>decide (x.set=c.set)) (l:=s.opens) (i:=0) (by unfold opAt at hb;omega);have h1:=hc.set.2.2 (.inl hk);have h2:=hc.ax.2.2 qO;have hmem:∀ x∈oV s.opens (Ku s c.set) ⟨c.set,c.ax⟩,x∈s.opens\/x=⟨c.set,c.ax⟩:=λx hx=>by
   unfold oV at hx;obtain hx|hx:=List.mem_append.1 hx
   ·exact .inl (List.mem_of_mem_take hx)
   ·obtain rfl|hx:=List.mem_cons.1 hx
    ·exact .inr rfl
    ·exact .inl (List.mem_of_mem_drop hx)
  refine⟨{ h with opens:=?_,Ce:=?_,uz:=?_ },rfl,LZ,rn0,rfl⟩
  ·exact Ze (key:=λx:iT=>x.set) h.opens (y:=⟨c.set,c.ax⟩) hc.set.2.1 (λx hx=>mJ (hno x hx))
  ·intro x hx;obtain hx|rfl:=hmem x hx
   ·exact h.Ce x hx
   ·show 0<c.set;omega
  ·intro x hx;obtain hx|rfl:=hmem x hx
   ·exact h.uz x hx
   ·exact IK ⟨h2,hc.ax.2.1⟩
 ·rw[dw];have hb:=fU hb;have h1:=YO s c.set;have h2:=Gn (h.uz _ (axB (z:=.z) (show(opAt s c.set).toNat<s.opens.length by omega)));exact qA.err h _ _ qD qO
def abC{α:Type}(l:List α)(i:Nat):(l.eraseIdx i).Sublist l:=List.eraseIdx_sublist l i
def aox{s:aN}{c:aF}(h:gK s s.version):qA s (F8 s c):=by
 unfold F8;obtain _|_:=decide (jM s c<0)
 ·have hs:=abC s.opens (jM s c).toNat;exact⟨{ h with opens:=h.opens.sub hs,Ce:=λx hx=>h.Ce x (hs.subset hx),uz:=λx hx=>h.uz x (hs.subset hx) },rfl,LZ,rn0,rfl⟩
 ·exact qA.err h _ _ qD qD
def alj{s:aN}{c:aF}(h:gK s s.version)(hc:Qb c)(hk:c.kind=3):qA s (zi s c):=by
 unfold zi;obtain _|_:=decide (jM s c<0)
 ·rw[bz];rcases h1:(bif decide (16<=(s.az.length:Int)) then true else decide (1048576<=s.next)) with _|_
  ·rw[bz];rw[KD,iy,iy]at h1;rcases(bif !decide (s.mg=0) then decide (s.mg<AL s.az c.chunks) else false) with _|_
   ·rw[bz];have hs:=abC s.opens (jM s c).toNat;have hset:=hc.set;have avf:=hset.2.2 (.inr (.inl hk));have hrow:kW c.chunks=true:=by
     obtain e|e:=hc.chunks
     ·exact e.2
     ·exact ai hk e.1
    have hn:=h.next
    refine⟨{ h with opens:=h.opens.sub hs,Ce:=λx hx=>h.Ce x (hs.subset hx),uz:=λx hx=>h.uz x (hs.subset hx),next:=?_,az:=?_,Aq:=?_,len:=?_,sn:=?_ },rfl,LZ,⟨?_,?_⟩,rfl⟩
    ·show 1<=s.next+1/\s.next+1<=1048576;omega
    ·exact h.az.snoc (y:=⟨s.next,c.set,c.chunks,false,[]⟩) (by show s.next-1<s.next;omega) (by show s.next<=s.next+1-1;omega)
    ·intro x hx;obtain hx|hx:=List.mem_append.1 hx
     ·exact h.Aq x hx
     ·obtain rfl:=List.mem_singleton.1 hx;show 0<s.next;omega
    ·show(s.az++_).length<=16;rw[bP,List.length_singleton];omega
    ·intro x hx;obtain hx|hx:=List.mem_append.1 hx
     ·exact h.sn x hx
     ·obtain rfl:=List.mem_singleton.1 hx;exact⟨hrow,⟨avf,hset.2.1⟩,(λe=>by cases e),by simp,λ_=>rfl⟩
    ·show 0<=s.next;omega
    ·show s.next<=1048576;omega
   ·exact qA.err h _ _ qD qD
  ·exact qA.err h _ _ qD qD
 ·exact qA.err h _ _ qD qD
def aeW(p:Int->Bool):(DC p).length<=64:=by
 unfold DC;have:=List.length_filter_le p ((List.range 64).map (λk:Nat=>(k:Int)+1));rw[lZ,List.length_range]at this;exact this
def amA{s:aN}{p:Nat}(h:gK s s.version):qA s (Kr s p):=by
 unfold Kr;rcases(s.az.getD p .z).held with _|_
 ·obtain _|_:=Gl s p
  ·have hs:(lh s.az (s.az.getD p .z).id).Sublist s.az:=List.filter_sublist;have hl:=hs.length_le;have hw:=aeW (λn=>bif decide (0<jW s.az n.toNat) then decide (jW (lh s.az (s.az.getD p .z).id) n.toNat=0) else false);refine⟨{ h with az:=h.az.sub hs,Aq:=λx hx=>h.Aq x (hs.subset hx),sn:=λx hx=>h.sn x (hs.subset hx),len:=by have:=h.len;show(lh s.az _).length<=16;omega },rfl,LZ,⟨?_,?_⟩,rfl⟩
   ·show(0:Int)<=((Cj s.az _).length:Nat);omega
   ·show((Cj s.az (s.az.getD p .z).id).length:Int)<=1048576;unfold Cj;omega
  ·exact qA.err h _ _ qD qD
 ·exact qA.err h _ _ qD qD
def adB{s:aN}{p:Nat}{f:eH->eH}{r:Rep}(h:gK s s.version)(hp:p<s.az.length)(hid:∀ x,(f x).id=x.id)(hf:∀ x,Dk s.version x->Dk s.version (f x))(h1:0<=r.code/\r.code<=99)(h2:0<=r.n/\r.n<=1048576):qA s (nO s p f,r):=by
 have hmem:∀ x∈s.az.set p (f (s.az.getD p .z)),x∈s.az\/x=f (s.az.getD p .z):=λx hx=>List.mem_or_eq_of_mem_set hx
 refine⟨{ h with az:=h.az.set (hid _),Aq:=?_,len:=?_,sn:=?_ },rfl,h1,h2,rfl⟩
 ·intro x hx;obtain hx|rfl:=hmem x hx
  ·exact h.Aq x hx
  ·rw[hid];exact h.Aq _ (axB hp)
 ·show(s.az.set _ _).length<=16;rw[nM];exact h.len
 ·intro x hx;obtain hx|rfl:=hmem x hx
  ·exact h.sn x hx
  ·exact hf _ (h.sn _ (axB hp))
def Na{s:aN}{c:aF}{f:Nat->aN×Rep}(h:gK s s.version)(hf:∀ p,p<s.az.length->qA s (f p)):qA s (Au s c f):=by
 unfold Au;rcases hb:decide (iq s c.id<0) with _|_
 ·rw[bz];have:=mJ hb;have:=Tt s c.id;exact hf _ qO
 ·exact qA.err h _ _ qD qD
def afT{s:aN}{p:Nat}{b:Bool}(h:gK s s.version)(hp:p<s.az.length)(hv:2<=s.version):qA s (Gp b s p):=by
 unfold Gp;obtain _|_:=decide ((s.az.getD p .z).held=b)
 ·exact adB h hp (λ_=>rfl) (λx hx=>⟨hx.row,hx.set,λ_=>hv,hx.tag,hx.Vk⟩) qD qD
 ·exact qA.err h _ _ qD qD
def aqu{k:Int}(n:Int)(h:jX k<=n):(k=9\/k=10->2<=n)/\(k=11\/k=12->3<=n):=by
 unfold jX at h;constructor <;> intro e <;> split at h <;> (try split at h) <;> (try split at h) <;> omega
def aq2{s:aN}{c:aF}{p:aN×Rep}(h:gK s s.version)(hc:fZ c s.version)(e:vU s c=some p):qA s p:=by
 have hf:=hc.fit;have hne:=aqu _ hc.le;unfold vU at e;by_cases k2:c.kind=2
 ·rw[aX k2,dw]at e;injection e with e;subst e;exact aoh h hf k2
 rw[aT k2,bz]at e;by_cases k3:c.kind=3
 ·rw[aX k3,dw]at e;injection e with e;subst e;exact alj h hf k3
 rw[aT k3,bz]at e;by_cases k4:c.kind=4
 ·rw[aX k4,dw]at e;injection e with e;subst e;exact aox h
 rw[aT k4,bz]at e;by_cases k6:c.kind=6
 ·rw[aX k6,dw]at e;injection e with e;subst e
  exact⟨{ h with axz:=⟨hf.n.1,hf.n.2.2.2 k6⟩ },rfl,LZ,rn0,rfl⟩
 rw[aT k6,bz]at e;by_cases k12:c.kind=12
 ·rw[aX k12,dw]at e;injection e with e;subst e
  have hw:=aeW (λn=>decide (0<jW s.az n.toNat));have:=hne.2 (.inr k12);refine⟨{ h with mg:=⟨hf.n.1,hf.n.2.1⟩,OD:=λe=>by omega },rfl,LZ,⟨?_,?_⟩,rfl⟩
  ·show(0:Int)<=((KI (jW s.az)).length:Nat);omega
  ·show((KI (jW s.az)).length:Int)<=1048576;unfold KI;omega
 rw[aT k12,bz]at e;by_cases k5:c.kind=5
 ·rw[aX k5,dw]at e;injection e with e;subst e;exact Na h λp hp=>amA h
 rw[aT k5,bz]at e;by_cases k7:c.kind=7
 ·rw[aX k7,dw]at e;injection e with e;subst e
  refine Na h λp hp=>?_
  have h1:=zl (h.sn _ (axB (z:=.z) hp)).row;exact qA.err h _ _ qD qO
 rw[aT k7,bz]at e;by_cases k9:c.kind=9
 ·rw[aX k9,dw]at e;injection e with e;subst e;exact Na h λp hp=>afT h hp (hne.1 (.inl k9))
 rw[aT k9,bz]at e;by_cases k10:c.kind=10
 ·rw[aX k10,dw]at e;injection e with e;subst e;exact Na h λp hp=>afT h hp (hne.1 (.inr k10))
 rw[aT k10,bz]at e;by_cases k11:c.kind=11
 ·rw[aX k11,dw]at e;injection e with e;subst e
  have h3:=hne.2 (.inl k11);exact Na h λp hp=>adB h hp (λ_=>rfl) (λx hx=>⟨hx.row,hx.set,hx.held,hf.text.1,λe=>by omega⟩) qD qD
 rw[aT k11,bz]at e;cases e
def UU{c:aF}{v:Int}(h:kX c v=0):jX c.kind≠0/\jX c.kind<=v/\(1<=v/\v<=3)/\vV c=true:=by
 unfold kX at h;rcases h1:(bif !dQ v 1 3 then true else decide (jX c.kind=0)) with _|_
 ·rw[h1,bz]at h;rw[KD,KQ,iy]at h1;rcases h2:decide (v<jX c.kind) with _|_
  ·rw[h2,bz]at h;rcases h3:vV c with _|_
   ·rw[h3]at h;cases h
   ·exact⟨h1.2,by have:=mJ h2;omega,Gn h1.1,rfl⟩
  ·rw[h2]at h;cases h
 ·rw[h1]at h;cases h
structure nV (c:aF):Prop where
 chunks:c.chunks.length<=100000
 text:c.text.length<=1000000
def J4{c:aF}{v:Int}(h:kX c v=0)(hz:nV c):fZ c v:=by
 obtain⟨h1,h2,h3,h4⟩:=UU h;exact⟨h1,h2,h3.2,h4,hz.chunks,hz.text⟩
def Ep{s:aN}{c:aF}(h:jD s c=0):gK s s.version/\kX c s.version=0:=by
 unfold jD at h;rcases h1:decide (Lr s s.version=0) with _|_
 ·rw[h1]at h;cases h
 ·rw[h1]at h;exact⟨SE.1 (fU h1),h⟩
def aqC(c:aF)(v:Int):0<=kX c v/\kX c v<=10:=by
 unfold kX;cases (bif !dQ v 1 3 then true else decide (jX c.kind=0)) <;> cases decide (v<jX c.kind) <;> cases (!vV c) <;> decide
def aqD(s:aN)(c:aF):0<=jD s c/\jD s c<=10:=by
 unfold jD;cases (!decide (Lr s s.version=0))
 ·exact aqC _ _
 ·exact⟨by show(0:Int)<=1;decide,by show(1:Int)<=10;decide⟩
def IC{s:aN}{c:aF}(h:gK s s.version)(hz:nV c):qA s (kC s c):=by
 unfold kC;have hb:=aqD s c;rcases h1:decide (jD s c=0) with _|_
 ·exact qA.err h _ _ qO qD
 ·have h2:=(Ep (fU h1)).2;have hc:=J4 h2 hz;rcases hk:vU s c with _|p
  ·exact qA.err h _ _ qD qD
  ·exact aq2 h hc hk
def aop{s:aN}{c:aF}(h:gK s s.version)(hz:nV c)(hc:Qb c):gK (Ej s c).1 s.version/\(Ej s c).1.version=s.version:=by
 unfold Ej;rcases h1:decide (dE s c.ax<0) with _|_
 ·obtain _|_:=decide (c.seq=(s.aJ.getD (dE s c.ax).toNat .z).seq)
  ·obtain _|_:=decide (c.seq<(s.aJ.getD (dE s c.ax).toNat .z).seq)
   ·obtain _|_:=decide ((s.aJ.getD (dE s c.ax).toNat .z).seq+1<c.seq)
    ·have ha:=IC h hz (c:=c);have h1:=mJ h1;have hb:=NF s c.ax;have hp:(dE s c.ax).toNat<(kC s c).1.aJ.length:=by rw[ha.aJ];omega
     refine⟨{ ha.ok with aJ:=ha.ok.aJ.set (z:=.z) rfl,Eo:=?_,su:=?_ },ha.ver⟩
     ·intro x hx;obtain hx|rfl:=List.mem_or_eq_of_mem_set hx
      ·exact ha.ok.Eo x hx
      ·have h9:=ha.ok.Eo _ (axB (z:=.z) hp);exact h9
     ·intro x hx;obtain hx|rfl:=List.mem_or_eq_of_mem_set hx
      ·exact ha.ok.su x hx
      ·have e1:=IK (x:=c.seq) (a:=0) (b:=1048576) ⟨hc.seq.1,hc.seq.2.1⟩;have e2:=IK ha.code;have e3:=IK ha.n;unfold su;simp only[e1,e2,e3,dw]
    ·exact⟨h,rfl⟩
   ·exact⟨h,rfl⟩
  ·exact⟨h,rfl⟩
 ·exact⟨h,rfl⟩
def ahy{s:aN}{c:aF}(h:gK s s.version)(hz:nV c):gK (oC s c).1 (oC s c).1.version/\((oC s c).1.version=s.version\/(c.kind=8/\c.n=s.version+1/\(oC s c).1.version=c.n/\kX c s.version=0)):=by
 unfold oC;rcases h1:decide (jD s c=0) with _|_
 ·exact⟨h,.inl rfl⟩
 ·have h2:=(Ep (fU h1)).2;have hc:=J4 h2 hz;have hf:=hc.fit;simp only[Bool.not_true,bz];by_cases k8:c.kind=8
  ·rw[aX k8,dw];by_cases hn:c.n=s.version+1
   ·rw[aX hn];have h3:=(hf.n.2.2.1 k8);refine⟨?_,.inr ⟨k8,hn,rfl,h2⟩⟩;have hm:=h.mono (w:=c.n) qO h3.2;exact { hm with ver:=by show 1<=c.n/\c.n<=3;omega }
   ·rw[aT hn];exact⟨h,.inl rfl⟩
  ·rw[aT k8,bz];by_cases k1:c.kind=1
   ·rw[aX k1,dw];rcases h4:decide (0<=dE s c.ax) with _|_
    ·rw[bz];have h4:=mJ h4;have hno:=JL (p:=λx:iW=>decide (x.ax=c.ax)) (l:=s.aJ) (i:=0) (by unfold dE at h4;omega);have hcl:=hf.ax;have axw:=hcl.2.2 k8;have hmem:∀ x∈oV s.aJ (ahead (λx=>decide (x.ax<c.ax)) s.aJ) ⟨c.ax,0,.z⟩,x∈s.aJ\/x=⟨c.ax,0,.z⟩:=λx hx=>by
      unfold oV at hx;obtain hx|hx:=List.mem_append.1 hx
      ·exact .inl (List.mem_of_mem_take hx)
      ·obtain rfl|hx:=List.mem_cons.1 hx
       ·exact .inr rfl
       ·exact .inl (List.mem_of_mem_drop hx)
     refine⟨{ h with aJ:=?_,Eo:=?_,su:=?_ },.inl rfl⟩
     ·exact Ze (key:=λx:iW=>x.ax) h.aJ (y:=⟨c.ax,0,.z⟩) hcl.2.1 (λx hx=>mJ (hno x hx))
     ·intro x hx;obtain hx|rfl:=hmem x hx
      ·exact h.Eo x hx
      ·show 0<c.ax;omega
     ·intro x hx;obtain hx|rfl:=hmem x hx
      ·exact h.su x hx
      ·rfl
    ·exact⟨h,.inl rfl⟩
   ·rw[aT k1,bz];have ha:=aop h hz hf (c:=c);exact⟨by rw[ha.2];exact ha.1,.inl ha.2⟩
def auz{f:bu}(h:oI f=true):(bif bif !decide (((iC f.num f.aU).2:Int)=0) then true else bif decide (f.aU=0) then decide (0<(f.b.length:Int)) else false then true else bif decide (f.aU=2) then !decide ((f.n:Int)=0) else false)=false:=by
 rw[(UJ h).1];obtain⟨_,_,h3|h3⟩:=yu h
 ·rw[h3.1,h3.2];rfl
 ·rw[h3.1,h3.2];rfl
def TG(a f:bu):aQ 122 [xR a,xR f] (.b (!(xC a f))):=by
 refine ay func122 λX=>?_
 (repeat'(first|refine aC ?_|refine ag.a ?_|refine Fin.tell (vq (ah V.b ?_) tv)))<;>try exact cls
 all_goals((simp[Af,xC]at *;grind))
def agw(f:bu)(hf:f.fit):aQ 175 [xR f] (.d (bW (jk f))):=by
 have q1:=Ij f.num f.aU;have q2:=vN f.n;have q3:=vN f.b.length;have q4:=hf.2.2.2.2.2;have e1:f.aU=0->jk f=(iC f.num f.aU).1++dK f.n:=λh=>by unfold jk;rw[if_pos h]
 have e2:¬f.aU=0->jk f=(iC f.num f.aU).1++dK f.b.length++f.b:=λh=>by unfold jk;rw[if_neg h,jV]
 refine ay func175 λX=>?_
 (repeat'(first|refine aC ?_|refine bU 4 [6,9] (ooz 6 [o1,o2,o2,(1,1,true,[]),(2,2,false,[])]) ?_|refine mc ?_ ?_|refine mY (apH f.num f.aU ⟨hf.1,hf.2.1⟩ ⟨hf.2.2.1,hf.2.2.2.1⟩) ?_|refine aO (Tv f.n hf.2.2.2.2.1) ?_|refine kF (Tv f.b.length (by have:=hf.2.2.2.2.2;omega)) ?_|refine aj.mk (λh=>?_) (λh=>?_)|refine ag.a ?_|refine Fin.bytes rfl rfl ?_ ?_|refine ag.mk ?_ ?_))<;>(try(refine dm.mk ?_;repeat'(first|exact tv|exact rfl|refine aO (Tv f.b.length (by have:=hf.2.2.2.2.2;omega)) ?_|refine an ?_ ?_|refine ag.mk ?_ ?_)))
 all_goals try exact cls
 all_goals first|(rw[e1 (bT h)];simp only[bP];done)|(rw[e1 (bT h)];exact λj _=>DX rfl (λ_=>rfl) (λ_=>rfl) j)|(rw[e2 (bV h)];simp only[bP];done)|(rw[e2 (bV h)];exact λj _=>DX (by simp) (DX rfl (λ_=>rfl) (λ_=>rfl)) (λ_=>rfl) j)
def afl(l:List bu)(hl:pM l):aQ 124 [.d (jv l)] (iV 0):=by
 refine ay func124 λX=>?_
 (repeat'(first|refine aC ?_|refine bU 8 [] (ooz 11 []) ?_|refine mc ?_ ?_|refine dU (c:=.seq (.seq (.region 2 _ _) _) _) l.length (λi (a:Unit)=>⟨81,[(0,.d (jv l)),(3,iV i)],e0⟩) (λ_ _=>True) () ?_ True.intro (λi a hi hp=>?_)|refine dU (c:=.seq (.seq (.region 14 _ _) _) _) l.length (λi (a:Nat)=>⟨81,[(0,.d (jv l)),(7,iV a),(8,iV i)],e0⟩) (λi a=>a=(bK (l.take i)).length) 0 ?_ ?_ (λi a hi hp=>?_)|refine aZ () ⟨?_,tv,?_⟩|refine aZ (a+(jk (l.getD i .z)).length) ⟨?_,?_,?_⟩|refine aO (apG (l.getD i .z).num (l.getD i .z).aU ⟨(hl.fit i om).1,(hl.fit i om).2.1⟩ ⟨(hl.fit i om).2.2.1,(hl.fit i om).2.2.2.1⟩) ?_|refine aO (agw (l.getD i .z) (hl.fit i om)) ?_|refine kF (TG (l.getD ((i:Int)-1).toNat .z) (l.getD i .z)) ?_|refine aj.mk (λh=>?_) (λh=>?_)|refine ag.a ?_|refine Fin.tell (vq (ah iV ?_) tv)|refine ag.mk ?_ ?_))<;>(try(refine dm.mk ?_;repeat'(first|exact tv|exact rfl|refine aZ _ (fM (λht=>af.tell (TG (l.getD ((i:Int)-1).toNat .z) (l.getD i .z)) ⟨agg,agg,tv⟩ ⟨rfl,rfl⟩) ?_)|refine an ?_ ?_|refine ag.mk ?_ ?_)))
 all_goals try exact cls
 all_goals first|exact ai ((auz (hl.alone i om)).symm.trans h) (by decide)|((try simp only[gq,iy]at *);have h9:i<l.length:=qo;have h8:=Oe (hl.fit i h9);have h7:=Nc hl i;have h6:=hl.len;have h5:=hl.big i h9;first|omega|(simp only[dM];omega)|(exfalso;by_cases h0:0<i <;> first|(have h4:=hl.GK i h0 h9;simp_all;done)|(simp_all;done)|(simp_all;omega))|(rw[hp,kR bu.z h9,QX,bP];done))|((try simp only[gq,iy]at *);have h7:=Nc hl i;exfalso;omega)
def ajq(num since:Int)(kM:Bool):aQ 215 [iV num,iV since,.b kM] (Ey ⟨num,0,since,kM,false⟩):=by
 refine ay func215 λX=>?_
 (repeat'(first|refine aC ?_|refine ag.a ?_|refine Fin.tell agg))<;>try exact cls
def akH(num since:Int)(kM many:Bool):aQ 216 [iV num,iV since,.b kM,.b many] (Ey ⟨num,2,since,kM,many⟩):=by
 refine ay func216 λX=>?_
 (repeat'(first|refine aC ?_|refine ag.a ?_|refine Fin.tell agg))<;>try exact cls
def ap0  : aQ 174 [iV 1] (.d (xH (oz 1))):=by
 refine ay func174 λX=>?_
 (repeat'(first|refine aC ?_|refine aO (ajq _ _ _) ?_|refine aO (akH _ _ _ _) ?_|refine lq (λh=>?_)|refine ag.a ?_|refine zg (C:=Dj) (z:=kT.z) (L:=oz 1) rfl rfl ?_ ?_))<;>try exact cls
 all_goals(intro j hj k hk;(obtain _|_|_|_|_|_|_|_|j:=j) <;> (obtain _|_|_|_|_|k:=k) <;> first|omega|kernel_rfl)
def adG(version:Int)(h1:1<=version)(h3:version<=3):aQ 123 [iV 1,iV version] (.d (xH (fK 1 version))):=by
 have hl:=Yn 1;refine ay func123 λX=>?_
 (repeat'(first|refine aC ?_|refine dU (oz 1).length (λi (a:List kT)=>⟨40,[(1,iV version),(5,.row 0 a.length),(6,.d (xH (oz 1))),(7,iV i)],⟨[(0,bQ 214 5 Dj .z a)],1⟩⟩) (λi a=>a=((oz 1).take i).filter (λs=>decide (s.since<=version))/\a.length<=i) [] ?_ ?_ (λi a hi hp=>?_)|refine aO (ap0) ?_|refine aj.mk (λh=>?_) (λh=>?_)|refine ag.a ?_|refine zg (C:=Dj) (z:=kT.z) (L:=fK 1 version) rfl rfl ?_ ?_|refine ag.mk ?_ ?_))<;>try exact cls
 all_goals(try(first|(have hh:=h;rw[aX h1,aX h3]at hh;have hh:((oz 1).getD i .z).since<=version:=bT hh;refine aZ (a++[(oz 1).getD i .z]) ⟨?_,⟨?_,?_⟩,?_⟩)|(have hh:=h;rw[aX h1,aX h3]at hh;have hh:¬((oz 1).getD i .z).since<=version:=bV hh;refine aZ a ⟨?_,⟨?_,?_⟩,?_⟩)))
 all_goals(try(refine leq ?_ ?_ <;> repeat'(first|exact tv|exact qV|exact qW|refine vq (ah (V.row _) ?_) qN|refine an ⟨nb rfl,aW.row ?_ (λj hj k hk=>vq ?_ trivial)⟩ ?_|refine an ?_ ?_)))
 all_goals first|(exact⟨rfl,bF _⟩)|(simp;done)|(simp only[dM];omega)|omega|((try simp only[gq,iy,nY,o9]at *);have h9:i<(oz 1).length:=qo;obtain⟨hp1,hp2⟩:=hp;first|omega|(simp;omega)|(rw[QW kT.z _ h9,<-hp1,if_pos (aX hh)];done)|(rw[QW kT.z _ h9,<-hp1,if_neg (by rw[aT hh];decide),pO];done)|(refine Ak rfl (by simp;omega) fr (λj hj=>?_);obtain rfl:j=0:=(by simp at hj;omega);obtain _|_|_|_|_|k:=k <;> first|rfl|omega))|(have h:=bV h;have e:i=(oz 1).length:=qo;have e2:a=fK 1 version:=(by rw[hp.1,e,mM];unfold fK;rw[if_neg qo]);subst e2;first|rfl|exact λj hj k hk=>rfl)
def asE(version:Int)(h1:1<=version)(h3:version<=3):aQ 83 [iV 1,iV version] (iV (Gv 1 version)):=by
 have hl:=acK 1 version;refine ay func83 λX=>?_
 (repeat'(first|refine aC ?_|refine dU (fK 1 version).length (λi (a:Int)=>⟨25,[(5,iV a),(6,.d (xH (fK 1 version))),(7,iV i)],e0⟩) (λi a=>a=((fK 1 version).take i).foldl (λt s=>max t s.num) 0) 0 ?_ ?_ (λi a hi hp=>?_)|refine aO (adG version h1 h3) ?_|refine aZ (max a ((fK 1 version).getD i .z).num) ⟨?_,?_,?_⟩|refine aj.mk (λh=>?_) (λh=>?_)|refine ag.a ?_|refine Fin.tell (vq (ah iV ?_) tv)|refine ag.mk ?_ ?_))<;>try exact cls
 all_goals first|((try simp only[gq,iy,nY,o9]at *);have h9:i<(fK 1 version).length:=qo;first|omega|(rw[hp,H7 _ _ kT.z h9];done))|((try simp only[gq,iy,nY,o9]at *);have e:i=(fK 1 version).length:=qo;rw[hp,e,mM];rfl)
