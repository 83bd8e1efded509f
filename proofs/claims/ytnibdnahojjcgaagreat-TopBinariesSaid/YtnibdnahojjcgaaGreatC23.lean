/- Lemmas. -/
import Derived.Test.YtnibdnahojjcgaaGreatC17
namespace Go.Proofs.YtnibdnahojjcgaaGreat
set_option linter.all false
set_option maxRecDepth 100000
set_option maxHeartbeats 0
open Go.RowKit Tryz
def fN(f:bu):Nat:=if f.aU=0 then f.n else f.b.length
def yZ(f:bu):Nat:=(iC f.num f.aU).1.length
def TI{f:bu}(h:oI f=true):jk f=(iC f.num f.aU).1++(dK (fN f)++f.b):=by
 rw[J8];unfold fN;obtain⟨_,_,h3|h3⟩:=yu h
 ·rw[if_pos h3.1,if_pos h3.1,h3.2,pO]
 ·rw[if_neg qO,if_neg qO]
def Yg{f:bu}(h:oI f=true):(jk f).length=yZ f+(gZ (fN f)+f.b.length):=by
 rw[TI h,bP,bP];rfl
def akv{l:List bu}(hl:pM l){i:Nat}(h:i<l.length):aQ 119 [.d (bW ((bK l).drop (bK (l.take i)).length))] (bI [iV (jk (l.getD i .z)).length,iV 0]):=by
 have hz:=hl.size;have:=amd ((bK l).drop (bK (l.take i)).length) (by rw[eY];omega);unfold Vh at this;rw[BF h,acD (hl.alone i h) (hl.fit i h) (hl.big i h)]at this;rw[BF h];exact this
def akt{l:List bu}(hl:pM l){i:Nat}(h:i<l.length):aQ 120 [.d (bW ((bK l).drop (bK (l.take i)).length))] (bI [iV (l.getD i .z).num,iV (l.getD i .z).aU,iV (yZ (l.getD i .z)),iV 0]):=by
 have hz:=hl.size;have:=amc ((bK l).drop (bK (l.take i)).length) (by rw[eY];omega);unfold Vg at this;rw[BF h]at this ⊢;rw[TI (hl.alone i h),jV]at this ⊢;rw[Rq (hl.alone i h)]at this;obtain⟨h1,h2,h3⟩:=yu (hl.alone i h);have e1:(((l.getD i .z).num.toNat:Nat):Int)=(l.getD i .z).num:=qO;have e2:(((l.getD i .z).aU.toNat:Nat):Int)=(l.getD i .z).aU:=qO;simp only[e1,e2]at this;exact this
def akn{l:List bu}(hl:pM l){i:Nat}(h:i<l.length):aQ 121 [.d (bW (((bK l).drop (bK (l.take i)).length).drop (yZ (l.getD i .z))))] (bI [.d (.v (.int .u64 (fN (l.getD i .z)))),iV (gZ (fN (l.getD i .z))),iV 0]):=by
 have hz:=hl.size;have hf:=hl.fit i h;have:=al9 (((bK l).drop (bK (l.take i)).length).drop (yZ (l.getD i .z))) (by rw[eY,eY];omega);unfold PK at this;rw[BF h,TI (hl.alone i h),jV]at this ⊢;unfold yZ at *;rw[List.drop_left,jV,wM _ _ (by unfold fN;have:=hf.2.2.2.2;split <;> omega)]at this;rw[List.drop_left,jV];exact this
def auw{l:List bu}(hl:pM l){i:Nat}(h:i<l.length):(bif decide (0<((l.take i).length:Int)) then !(xC ((l.take i).getD (((l.take i).length:Int)-1).toNat .z) (l.getD i .z)) else false)=false:=by
 have h1:=agA hl h;unfold U7 at h1;by_cases e:((l.take i).length:Int)=0
 ·rw[aT qO];rfl
 ·rw[aT e,bz]at h1;rw[aX qO,h1];rfl
def aid{f:bu}(h:oI f=true)(hw:f.aU=0):fN f=f.n/\f.b=[]:=by
 obtain⟨_,_,h3|h3⟩:=yu h
 ·exact⟨by unfold fN;rw[if_pos hw],h3.2⟩
 ·omega
def aa7{f:bu}(h:oI f=true)(hw:¬f.aU=0):fN f=f.b.length/\f.n=0:=by
 obtain⟨_,_,h3|h3⟩:=yu h
 ·omega
 ·exact⟨by unfold fN;rw[if_neg hw],h3.2⟩
def anj{l:List bu}(hl:pM l){i:Nat}(h:i<l.length)(j:Nat):(((bK l).drop (bK (l.take i)).length).getD (yZ (l.getD i .z)+gZ (fN (l.getD i .z))+j) 0)=((l.getD i .z).b++bK (l.drop (i+1))).getD j 0:=by
 rw[BF h,TI (hl.alone i h),jV,jV];have e:yZ (l.getD i .z)+gZ (fN (l.getD i .z))+j=(iC (l.getD i .z).num (l.getD i .z).aU).1.length+((dK (fN (l.getD i .z))).length+j):=by unfold yZ;rw[Nat.add_assoc];rfl
 rw[e,bn,oP (Nat.le_add_right _ _),Nat.add_sub_cancel_left,oP (Nat.le_add_right _ _),Nat.add_sub_cancel_left,<-bn]
def ak9{a b:List UInt8}{j:Nat}(h:j<a.length):(a++b).getD j 0=a.getD j 0:=by rw[bn,bn,lS h]
def avs{l:List bu}(hl:pM l){i:Nat}(h:i<l.length)(hw:¬(l.getD i .z).aU=0){j k:Nat}(hk:k<1)(hj:j<(l.getD i .z).b.length){g:Nat->Nat->V} :
  axE 0 g (λj _=>.d (gG (((bK l).drop (bK (l.take i)).length).getD (((yZ (l.getD i .z):Int)+(gZ (fN (l.getD i .z)):Int)).toNat+j) 0))) j k = .d (gG ((l.getD i .z).b.getD j 0)):=by
 show V.d (gG (((bK l).drop (bK (l.take i)).length).getD (((yZ (l.getD i .z):Int)+(gZ (fN (l.getD i .z)):Int)).toNat+(j-0)) 0))=_;refine ah (λx=>V.d (gG x)) ?_;rw[Nat.sub_zero,show((yZ (l.getD i .z):Int)+(gZ (fN (l.getD i .z)):Int)).toNat=yZ (l.getD i .z)+gZ (fN (l.getD i .z)) by omega,anj hl h,ak9 hj]
def alP{N n k m M:Nat}{b:List UInt8}(hn:n=(b.drop m).length-k)(hM:m+k=M):VW N (.d (.sl n 1 (λj=>(λj _=>gG ((b.drop m).getD j 0)) (k+j)))) (.d (bW (b.drop M))):=by
 have:=@JY N n k (b.drop m) hn;rwa [List.drop_drop,hM]at this
def aks(l:List bu)(hl:pM l):aQ 80 [.d (bW (bK l))] (bI [.d (jv l),iV 0]):=by
 have hsz:=hl.size;have hln:=hl.len;refine ay func80 λX=>?_
 (repeat'(first|refine T.eG (c:=.seq (.seq (.region 14 _ _) _) _) (i:=2) (h:=λj _=>gG ((l.getD i .z).b.getD j 0)) (iI.of qN rfl ?_) (T.le ⟨82,[(0,.d (bW ((bK l).drop (bK (l.take i)).length))),(4,.row 0 (l.take i).length),(5,iV (jk (l.getD i .z)).length),(11,.ptr 1 0)],⟨[(0,bQ 163 4 kP .z (l.take i)),(1,.Wp 4 (λk=>.d (kP (l.getD i .z) k)))],2⟩⟩ ?_ (T.seq ?_))|refine T.le (c:=.seq (.seq (.region 14 _ _) _) _) ⟨82,[(0,.d (bW ((bK l).drop (bK (l.take i)).length))),(4,.row 0 (l.take i).length),(5,iV (jk (l.getD i .z)).length),(11,.ptr 1 0)],⟨[(0,bQ 163 4 kP .z (l.take i)),(1,.Wp 4 (λk=>.d (kP (l.getD i .z) k)))],2⟩⟩ ?_ (T.seq ?_)|refine aC ?_|refine bU 14 [] (ooz 13 []) ?_|refine mc ?_ ?_|refine dU l.length (λi (a:Unit)=>⟨82,[(0,.d (bW ((bK l).drop (bK (l.take i)).length))),(4,.row 0 (l.take i).length)],⟨[(0,bQ 163 4 kP .z (l.take i))],1⟩⟩) (λi a=>True) () ?_ True.intro (λi a hi hp=>?_)|refine aZ () ⟨?_,tv,?_⟩|refine aj.n (λh=>?_)|refine aj.mk (λh=>ai h (by rw[auw hl (wH hi (by have h9:=bT ‹decide (0<(((bK l).drop (bK (l.take i)).length).length:Int))=true›;rw[eY]at h9;omega))];decide)) (λh=>?_)|refine aO (akv hl (wH hi (by have h9:=bT ‹decide (0<(((bK l).drop (bK (l.take i)).length).length:Int))=true›;rw[eY]at h9;omega))) ?_|refine aO (akt hl (wH hi (by have h9:=bT ‹decide (0<(((bK l).drop (bK (l.take i)).length).length:Int))=true›;rw[eY]at h9;omega))) ?_|refine af.tell (akn hl (wH hi (by have h9:=bT ‹decide (0<(((bK l).drop (bK (l.take i)).length).length:Int))=true›;rw[eY]at h9;omega))) ⟨JY rfl,tv⟩ ?_|refine kF (TG ((l.take i).getD (((l.take i).length:Int)-1).toNat .z) (l.getD i .z)) ?_|refine aj.n (λh=>?_)|refine aj.mk (λh=>?_) (λh=>?_)|refine ag.a ?_|refine FD (C:=kP) (z:=bu.z) (L:=l) rfl rfl ?_ ?_ qV|refine ag.mk ?_ ?_))<;>(try(refine dm.mk ?_;repeat'(first|exact tv|exact rfl|refine aZ _ (fM (λht=>af.tell (TG ((l.take i).getD (((l.take i).length:Int)-1).toNat .z) (l.getD i .z)) ⟨agg,agg,tv⟩ ⟨rfl,rfl⟩) ?_)|refine an ?_ ?_|refine ag.mk ?_ ?_)))
 all_goals try exact cls
 all_goals(try(refine leq ?_ ?_ <;> repeat'(first|exact tv|exact qV|exact qW|refine vq (ah (V.row _) ?_) qN|refine jQ qN (λk hk=>?_) ?_|refine gU qN ?_ (λj hj k hk=>?_) ?_|exact alP rfl (JE hl (wH hi (by have h9:=bT ‹decide (0<(((bK l).drop (bK (l.take i)).length).length:Int))=true›;rw[eY]at h9;omega))).1.symm|refine an ?_ ?_)))
 all_goals first|exact rfl|(have h9:i<l.length:=(wH hi (by have h9:=bT ‹decide (0<(((bK l).drop (bK (l.take i)).length).length:Int))=true›;rw[eY]at h9;omega));have q6:=Yg (hl.alone i h9);intro j hj k hk;refine avs hl h9 (bV h) hk ?_;have qb:=(aa7 (hl.alone i h9) (bV h)).1;omega)|(exact cm qV)|exact ai hj nz|(have h9:=(wH hi (by have h9:=bT ‹decide (0<(((bK l).drop (bK (l.take i)).length).length:Int))=true›;rw[eY]at h9;omega));have ha:=hl.alone i h9;have hk:k<4:=hk;have hw:=bT h;refine cm ?_;obtain _|_|_|_|k:=k;exact qV;exact qV;exact vq (ah (λn:Nat=>V.int .u64 n) (aid ha hw).1) tv;exact pg (ah List.length (aid ha hw).2);omega)|(have h9:=(wH hi (by have h9:=bT ‹decide (0<(((bK l).drop (bK (l.take i)).length).length:Int))=true›;rw[eY]at h9;omega));have ha:=hl.alone i h9;have hk:k<4:=hk;have hw:=bV h;refine cm ?_;obtain _|_|_|_|k:=k;exact qV;exact qV;exact vq (ah (λn:Nat=>V.int .u64 n) (aa7 ha hw).2.symm) tv;refine vq (jB.trans (ah (λn=>V.d (D.sl n 1 (λj _=>gG ((l.getD i .z).b.getD j 0)))) (?_:_=(l.getD i .z).b.length))) tv;(have q6:=Yg ha;have q9:=(aa7 ha hw).1;omega);omega)|(have h9:i<l.length:=(wH hi (by have h9:=bT ‹decide (0<(((bK l).drop (bK (l.take i)).length).length:Int))=true›;rw[eY]at h9;omega));obtain⟨q1,q2,q3⟩:=JE hl h9;have q4:(l.take i).length=i:=(by rw[dG];omega);have q5:(l.take (i+1)).length=i+1:=(by rw[dG];omega);have q6:=Yg (hl.alone i h9);have q7:=hl.big i h9;have q8:((bK l).drop (bK (l.take i)).length).length=(bK l).length-(bK (l.take i)).length:=eY;have q9:=FI (fN (l.getD i .z));have qa:yZ (l.getD i .z)<=10:=Ij _ _;first|omega|(simp only[dM];omega)|(intro h0;have h0:=bT h0;first|omega|(refine⟨rfl,?_,nb rfl⟩;omega))|(have hj:j<(l.take i).length+1:=hj;have hk:k<4:=hk;rw[kR bu.z h9];refine cm (kU rfl hj fr (λj hj=>?_));obtain rfl:j=0:=Nat.lt_one_iff.1 hj;obtain _|_|_|_|k:=k;exact qV;exact qV;exact qV;exact qV;omega))|(have h9:=bV h;rw[eY]at h9;have e:i=l.length:=(by obtain h8|h8:=l7 i l.length;exact ai (JE hl h8).2 qo;omega);subst e;first|(rw[mM];done)|(intro j hj k hk;rw[mM]))
structure Nt where
 row:List aV
 dA:Nat
 uw:Int
 taken:Int
 lost:Int
def kH(p:Nt):List (List UInt8):=p.row.map lU++List.replicate p.dA []
def VM(p:Nt):Nat->V
 |0=>.vw 1 (p.row.length+p.dA) 0 p.row.length|1=>iV p.uw|2=>iV p.taken|_=>iV p.lost
def uT(l:List (List UInt8)):aK:=bQ 48 1 (λb _=>bW b) [] l
abbrev PS(p:Nt):ST:=⟨[(0,.Wp 4 (VM p)),(1,uT (kH p))],2⟩
def FU(p:Nt):(kH p).length=p.row.length+p.dA:=by
 unfold kH;rw[bP,lZ,List.length_replicate]
def Il(p:Nt){j:Nat}(h:j<p.row.length):(kH p).getD j []=lU (p.row.getD j .z):=by
 unfold kH;rw[bn,lS (by rw[lZ];exact h),qQ,dV h,bn,dV h];rfl
def SI{j m:Nat}:(List.replicate m ([]:List UInt8)).getD j []=[]:=by
 rw[bn,List.getElem?_replicate];split <;> rfl
def JD{α:Type}{z:α}{a b:List α}{j:Nat}:(a++b).getD j z=if j<a.length then a.getD j z else b.getD (j-a.length) z:=by
 rw[bn,List.getElem?_append];split <;> rw[bn]
def zU(p:Nt)(i:Nat):Nt:={ p with row:=p.row.eraseIdx i,dA:=p.dA+1 }
def Zm{p:Nt}{i:Nat}(h:i<p.row.length):(p.row.eraseIdx i).length=p.row.length-1:=List.length_eraseIdx_of_lt h
def Zn{p:Nt}{i:Nat}(h:i<p.row.length)(j:Nat):(kH (zU p i)).getD j []=if j<i then(kH p).getD j [] else if j<p.row.length-1 then(kH p).getD (j+1) [] else []:=by
 have hl:=Zm h;have e1:kH (zU p i)=(p.row.eraseIdx i).map lU++List.replicate (p.dA+1) []:=rfl;rw[e1,JD,lZ,hl];by_cases h1:j<p.row.length-1
 ·rw[if_pos h1,bn,qQ,List.getElem?_eraseIdx];by_cases h2:j<i
  ·rw[if_pos h2,if_pos h2,Il p qO,bn,dV qO];rfl
  ·rw[if_neg h2,if_neg h2,if_pos h1,Il p qO,bn,dV qO];rfl
 ·rw[if_neg h1,SI,if_neg qO,if_neg h1]
def room(p:Nt)(l:List aV):Nat:=min l.length (256-p.row.length)
def mP(p:Nt)(l:List aV):Nt:=⟨p.row++l.take (room p l),p.dA-room p l,p.uw+l.length,p.taken,p.lost+(l.length-room p l:Nat)⟩
def auv(p:Nt)(l:List aV):Int:=bif decide ((room p l:Int)<(l.length:Int)) then 20 else 0
def al3{p:Nt}{l:List aV}{j:Nat}:(kH (mP p l)).getD j []=if j<p.row.length then(kH p).getD j [] else if j<p.row.length+room p l then(l.map lU).getD (j-p.row.length) [] else []:=by
 have hr:room p l<=l.length:=Nat.min_le_left _ _;have e1:kH (mP p l)=(p.row++l.take (room p l)).map lU++List.replicate (p.dA-room p l) []:=rfl;rw[e1,JD,lZ,bP,dG,Nat.min_eq_left hr,List.map_append,JD,lZ];by_cases h1:j<p.row.length
 ·rw[if_pos qO,if_pos h1,if_pos h1,Il p h1,bn,qQ,dV h1,bn,dV h1];rfl
 ·by_cases h2:j<p.row.length+room p l
  ·rw[if_pos h2,if_neg h1,if_neg h1,if_pos h2,List.map_take,bn,List.getElem?_take_of_lt qO,bn]
  ·rw[if_neg h2,if_neg h1,if_neg h2,SI]
def X9{p:Nt}{j:Nat}(h:p.row.length<=j):(kH p).getD j []=[]:=by
 unfold kH;rw[JD,lZ,if_neg qO,SI]
def ary{N:Nat}{p:Nt}{i a a2 q:Nat}(hi:i<p.row.length)(ha:a=i+1)(ha2:a2=i+1)(hq:q=i+(p.row.length-(i+1))){j k:Nat}(hk:k<1):VW N (qE (0+q) (p.row.length-q) (qE i (p.row.length-a) (λj k=>V.d (bW ((kH p).getD j []))) (λj k=>V.d (bW ((kH p).getD (a2+j) [])))) (λx k=>iM 48 k) j k) (.d (bW ((kH (zU p i)).getD j []))):=by
 obtain rfl:k=0:=Nat.lt_one_iff.1 hk;subst ha ha2;rw[wL,wL];by_cases h1:j<i
 ·rw[Zn hi,if_pos h1,if_pos qO,if_pos h1];exact VW.refl tv
 ·by_cases h2:j<p.row.length-1
  ·rw[Zn hi,if_neg h1,if_pos h2,if_pos qO,if_neg h1,if_pos qO,show i+1+(j-i)=j+1 by omega];exact VW.refl tv
  ·have e:(kH (zU p i)).getD j []=[]:=by rw[Zn hi,if_neg h1,if_neg h2]
   rw[e,if_neg qO];by_cases h3:j<p.row.length
   ·rw[if_pos qO];exact pg rfl
   ·rw[if_neg qO,if_neg h1,if_neg qO,X9 qO];exact VW.refl tv
def asR(p:Nt):af 90 [.ptr 0 0] (PS p) (λv t=>v=iV p.row.length/\t=PS p):=by
 refine ay func90 λX=>?_
 (repeat'(first|refine aC ?_|refine ag.a ?_|refine uh qN qV ?_))<;>exact uF
def Sv(p:Nt)(i:Int):af 71 [.ptr 0 0,iV i] (PS p) (λv t=>v = .b (bif decide (0<=i) then decide (i<(p.row.length:Int)) else false)/\t=PS p):=by
 refine ay func71 λX=>?_
 (repeat'(first|refine aC ?_|refine ag.a ?_|refine uh qN qV ?_))<;>exact uF
def atx(p:Nt)(i:Nat)(hi:i<p.row.length)(hq:p.row.length+p.dA<=100000):af 109 [.vw 0 (p.row.length+p.dA) 0 p.row.length,iV i,iV ((i:Int)+1)] ⟨[(0,uT (kH p))],1⟩ (λv t=>v = .vw 0 (p.row.length+p.dA) 0 (p.row.length-1)/\t=⟨[(0,uT (kH (zU p i)))],1⟩):=by
 have hx:Nat.max (p.row.length+p.dA) (i+(p.row.length-(i+1)))=p.row.length+p.dA:=Nat.max_eq_left qO;have hb:=FU p;refine ay func109 λX=>?_
 (repeat'(first|refine aC ?_|refine bU 5 [6] (ooz 6 [o1,o3]) ?_|refine mc ?_ ?_|refine aj.n (λh=>?_)|refine bM qN qN (vq (En ?_ ?_) qN) ⟨⟨nb rfl,aW.row ?_ (λj hj k hk=>dR ?_)⟩,tv⟩|refine ag.mk ?_ ?_))<;>(try(refine dm.mk ?_;repeat'(first|exact tv|exact rfl|refine an ?_ ?_|refine ag.mk ?_ ?_)))
 all_goals first|omega|exact hx|exact cm (ary hi qo qo qo hk)|(have e1:((i:Int)+1).toNat=i+1:=qo;have e2:(i:Int).toNat=i:=qo;have e3:=FU (zU p i);have e4:(zU p i).row.length=p.row.length-1:=Zm hi;have e5:(zU p i).dA=p.dA+1:=rfl;simp only[e1,e2,hx,jg]at *;first|omega|(refine⟨tv,?_,?_,?_⟩ <;> omega)|(refine⟨tv,?_⟩;omega))
def asP(p:Nt)(i:Nat)(hi:i<p.row.length)(hq:p.row.length+p.dA<=100000):af 72 [.ptr 0 0,iV i] (PS p) (λv t=>v = .d (bW (lU (p.row.getD i .z)))/\t=PS (zU p i)):=by
 refine ay func72 λX=>?_
 (repeat'(first|refine aC ?_|refine fO [1] (atx p i hi hq) ?_|refine ag.a ?_|refine bM qN qN ?_ ?_|refine ag.mk ?_ ?_))<;>first|(have hb:=FU p;first|omega|(simp only[dM];omega))|(refine vq (ah V.d ?_) tv;show bW ((kH p).getD (0+i) [])=_;rw[jq,Il p hi];done)|(refine⟨⟨nb rfl,fB rfl (λk hk=>?_)⟩,⟨nb rfl,aW.row rfl fv⟩,tv⟩;have hk:k<4:=hk;have e1:=Zm hi;obtain _|_|_|_|k:=k <;> first|exact qV|exact vq (En (by show _=(p.row.eraseIdx i).length+(p.dA+1);omega) (by show _=(p.row.eraseIdx i).length;omega)) qN)
