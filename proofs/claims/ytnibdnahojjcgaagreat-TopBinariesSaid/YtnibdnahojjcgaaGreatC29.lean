/- Lemmas. -/
import Derived.Test.YtnibdnahojjcgaaGreatC23
import Derived.Test.YtnibdnahojjcgaaGreatC27
namespace Go.Proofs.YtnibdnahojjcgaaGreat
set_option linter.all false
set_option maxRecDepth 100000
set_option maxHeartbeats 0
open Go.RowKit Tryz
structure zQ (p:Nt):Prop where
 fits:p.row.length+p.dA<=256
 s:0<=p.uw/\p.uw<=1000000000
 t:0<=p.taken/\p.taken<=1000000000
 l:0<=p.lost/\p.lost<=1000000000
 ok:∀ x∈p.row,jY x
def qx(p:Nt)(i:Int):Bool:=bif decide (0<=i) then decide (i<(p.row.length:Int)) else false
def jH(p:Nt)(i:Nat):Nt:={ zU p i with taken:=p.taken+1 }
def UW(p:Nt)(i:Nat):Nt:={ zU p i with lost:=p.lost+1 }
def BZ(p:Nt)(i:Nat):Nt:=⟨p.row++[p.row.getD i .z],p.dA-1,p.uw+1,p.taken,p.lost⟩
def zQ.at{p:Nt}(h:zQ p){i:Nat}(hi:i<p.row.length):jY (p.row.getD i .z):=h.ok _ (ja hi)
def ZB{x:aV}(h:jY x):(lU x).length<=1000000:=by have:=(TF h).size;show(bK (kz x)).length<=_;omega
def aaj{b:Bool}(h:(!b)=true):b=false:=by simpa using h
def auY{b:Bool}(h:(!b)=false):b=true:=by simpa using h
def amz(p:Nt)(i:Int)(ho:qx p i=false):af 69 [.ptr 0 0,iV i] (PS p) (λv t=>v=bI [jT .z,iV 1]/\t=PS p):=by refine ay func69 λX=>?_;exact Wh
def ap8(p:Nt)(i:Nat)(hi:i<p.row.length)(hp:zQ p):af 69 [.ptr 0 0,iV i] (PS p) (λv t=>v=bI [jT (p.row.getD i .z),iV 0]/\t=PS (jH p i)):=by refine ay func69 λX=>?_;exact ab7
def amF(p:Nt)(i:Int)(ho:qx p i=false):af 36 [.ptr 0 0,iV i] (PS p) (λv t=>v=iV 1/\t=PS p):=by refine ay func36 λX=>?_;exact Wh
def aqc(p:Nt)(i:Nat)(hi:i<p.row.length)(hp:zQ p):af 36 [.ptr 0 0,iV i] (PS p) (λv t=>v=iV 0/\t=PS (UW p i)):=by refine ay func36 λX=>?_;exact ab7
def akN(p:Nt)(i:Int)(ho:qx p i=false):af 37 [.ptr 0 0,iV i] (PS p) (λv t=>v=iV 1/\t=PS p):=by refine ay func37 λX=>?_;exact Wh
def akM(p:Nt)(i:Nat)(hi:i<p.row.length)(hf:256<=p.row.length):af 37 [.ptr 0 0,iV i] (PS p) (λv t=>v=iV 20/\t=PS p):=by
 refine ay func37 λX=>?_
 (repeat'(first|refine aj.mk (λh=>ai ((show qx p (i:Int)=true by unfold qx;rw[aX (show(0:Int)<=(i:Int) by omega),aX (show(i:Int)<(p.row.length:Int) by omega)];rfl).symm.trans (aaj h)) (by decide)) (λh=>?_)|refine lq (λh=>?_)|refine aC ?_|refine fO [0,1] (Sv p (i:Int)) ?_|refine ag.a ?_|refine bM qN qN qV ?_))<;>try exact cls
 all_goals(refine⟨⟨nb rfl,fB rfl (λk hk=>?_)⟩,⟨nb rfl,aW.row rfl fv⟩,tv⟩;have hk:k<4:=hk;obtain _|_|_|_|k:=k <;> first|exact qV|exact qW)
def aj9{p:Nt}{i j:Nat}(hi:i<p.row.length):(kH (BZ p i)).getD j []=if j<p.row.length then(kH p).getD j [] else if j<p.row.length+1 then lU (p.row.getD i .z) else []:=by
 have e1:kH (BZ p i)=(p.row++[p.row.getD i .z]).map lU++List.replicate (p.dA-1) []:=rfl;rw[e1,JD,lZ,bP,List.length_singleton,List.map_append,JD,lZ];by_cases h1:j<p.row.length
 ·rw[if_pos qO,if_pos h1,if_pos h1,Il p h1,bn,qQ,dV h1,bn,dV h1];rfl
 ·by_cases h2:j<p.row.length+1
  ·rw[if_pos h2,if_neg h1,if_neg h1,if_pos h2,show j-p.row.length=0 by omega];rfl
  ·rw[if_neg h2,if_neg h1,if_neg h2,SI]
def agj{p:Nt}{i:Nat}(h:p.row.length<256):Nat.max (p.row.length+p.dA) (p.row.length+1)=(BZ p i).row.length+(BZ p i).dA:=by
 show max _ _=(p.row++[p.row.getD i .z]).length+(p.dA-1);rw[bP,List.length_singleton];omega
def asn{N:Nat}{p:Nt}{i:Nat}(hi:i<p.row.length){g:Nat->V}{j k:Nat}(hj:j<Nat.max (p.row.length+p.dA) (p.row.length+1))(hk:k<1)(h0:g 0 = .d (bW (lU (p.row.getD i .z))):=by exact rfl):VW N (qE p.row.length 1 (λj k=>V.d (bW ((kH p).getD j []))) (λj k=>g (j*1+k)) j k) (.d (bW ((kH (BZ p i)).getD j []))):=by
 obtain rfl:k=0:=Nat.lt_one_iff.1 hk;rw[wL,aj9 hi];by_cases h1:j<p.row.length
 ·rw[if_pos h1,if_pos h1];exact VW.refl tv
 ·by_cases h2:j<p.row.length+1
  ·obtain rfl:j=p.row.length:=qO;rw[if_neg h1,if_pos h2,if_neg h1,if_pos h2,Nat.sub_self];exact vq h0 trivial
  ·rw[if_neg h1,if_neg h2,if_neg h1,if_neg h2,X9 qO];exact VW.refl tv
def amy(p:Nt)(i:Nat)(hi:i<p.row.length)(hf:p.row.length<256)(hp:zQ p):af 37 [.ptr 0 0,iV i] (PS p) (λv t=>v=iV 0/\t=PS (BZ p i)):=by
 refine ay func37 λX=>?_
 (repeat'(first|refine aj.mk (λh=>ai ((show qx p (i:Int)=true by unfold qx;rw[aX (show(0:Int)<=(i:Int) by omega),aX (show(i:Int)<(p.row.length:Int) by omega)];rfl).symm.trans (aaj h)) (by decide)) (λh=>?_)|refine aj.n (λh=>?_)|refine aC ?_|refine bU 5 [13,14,17] [(0,2,false,[]),o2,o2,o2,o2,o0,o0,o0,o0,o0,o0,o0,o0,o1,(1,1,true,[]),(2,2,false,[]),(2,2,false,[]),(2,2,true,[])] ?_|refine mc ?_ ?_|refine fO [0,1] (Sv p (i:Int)) ?_|refine MQ (p.uw) 1 (by exact rfl) (by exact rfl) (by exact nb rfl) (by exact rfl) (by have:=hp.s;omega) ?_|refine jd.tell (Ii (lU (p.row.getD i .z)).length (λj _=>gG ((lU (p.row.getD i .z)).getD j 0)) (ZB (hp.at hi))) ⟨vq (ah (λb=>V.d (bW b)) (show(kH p).getD (0+(i:Int).toNat) []=lU (p.row.getD i .z) by rw[jq];exact Il p hi)) tv,tv⟩ ?_|refine ag.a ?_|refine bM qN qN qV ?_|refine ag.mk ?_ ?_))<;>(try(refine dm.mk ?_;repeat'(first|exact tv|exact rfl|refine af.tell (Ii (lU (p.row.getD i .z)).length (λj _=>gG ((lU (p.row.getD i .z)).getD j 0)) (ZB (hp.at hi))) ⟨vq (ah (λb=>V.d (bW b)) (show(kH p).getD (0+(i:Int).toNat) []=lU (p.row.getD i .z) by rw[jq];exact Il p hi)) tv,tv⟩ ?_|refine an ?_ ?_|refine ag.mk ?_ ?_)))
 all_goals try exact cls
 all_goals(have hb:=FU p;have h9:=bV h;have hq:=hp.fits;first|omega|(refine⟨⟨nb rfl,fB rfl (λk hk=>?_)⟩,⟨nb rfl,aW.row ?_ (λj hj k hk=>?_)⟩,tv⟩;have hk:k<4:=hk;obtain _|_|_|_|k:=k;exact vq (En (agj qo) (by show _=(p.row++[p.row.getD i .z]).length;rw[bP];rfl)) qN;exact qV;exact qV;exact qV;omega;exact(agj qo).trans (FU (BZ p i)).symm;exact asn hi hj hk))
def al2{N:Nat}{p:Nt}{l:List aV}{r:Nat}(hr:r=room p l){j k:Nat}(hk:k<1):VW N (qE p.row.length r (λj k=>V.d (bW ((kH p).getD j []))) (λj k=>V.d (bW ((l.map lU).getD (0+j) []))) j k) (.d (bW ((kH (mP p l)).getD j []))):=by
 subst hr;rw[wL,al3];by_cases h1:j<p.row.length
 ·rw[if_pos h1,if_pos h1];exact VW.refl tv
 ·by_cases h2:j<p.row.length+room p l
  ·rw[if_neg h1,if_pos h2,if_neg h1,if_pos h2,jq];exact VW.refl tv
  ·rw[if_neg h1,if_neg h2,if_neg h1,if_neg h2,X9 qO];exact VW.refl tv
def amk(p:Nt)(l:List aV):min (l.length:Int) (max (256-(p.row.length:Int)) 0)=(room p l:Nat):=by
 unfold room;omega
def adD{p:Nt}{l:List aV}{r:Nat}(hr:r=room p l):Nat.max (p.row.length+p.dA) (p.row.length+r)=(mP p l).row.length+(mP p l).dA:=by
 subst hr;have h2:room p l<=l.length:=Nat.min_le_left _ _;show max _ _=(p.row++l.take (room p l)).length+(p.dA-room p l);rw[bP,dG,Nat.min_eq_left h2];omega
def apy{p:Nt}{l:List aV}{r:Nat}(hr:r=room p l):p.row.length+r=(mP p l).row.length:=by
 subst hr;have h2:room p l<=l.length:=Nat.min_le_left _ _;show _=(p.row++l.take (room p l)).length;rw[bP,dG,Nat.min_eq_left h2]
def YL(p:Nt)(l:List aV)(hl:l.length<=1000)(hx:∀ x∈l,jY x)(hp:zQ p):af 52 [.ptr 0 0,.d (iU l)] (PS p) (λv t=>v=iV (auv p l)/\t=PS (mP p l)):=by
 refine ay func52 λX=>?_
 (repeat'(first|refine rQ (c:=.seq (.seq (.region 2 _ _) _) _) 5 48 (λj k=>.d (bW (([]:List (List UInt8)).getD j []))) rfl rfl qN (T.seq ?_)|refine T.cut (x:=.region 10 _ _) ⟨69,[(0,.ptr 0 0),(5,.row 2 l.length),(10,iV (room p l))],⟨[(0,.Wp 4 (VM p)),(1,uT (kH p)),(2,uT (l.map lU))],3⟩⟩ ?_ ?_|refine T.cut (x:=.region 11 _ _) ⟨69,[(0,.ptr 0 0),(5,.row 2 l.length),(10,iV (room p l))],⟨[(0,.Wp 4 (VM { mP p l with uw:=p.uw,lost:=p.lost })),(1,uT (kH (mP p l))),(2,uT (l.map lU))],3⟩⟩ ?_ ?_|refine aC ?_|refine bU 11 [8,11] [o2,o0,o0,o0,o0,o0,o0,o0,o1,o3,o3,(1,1,true,[])] ?_|refine mc ?_ ?_|refine dU l.length (λi (a:Unit)=>⟨69,[(0,.ptr 0 0),(4,iV 0),(5,.row 2 i),(11,.d (iU l)),(12,iV l.length),(13,iV i)],⟨[(0,.Wp 4 (VM p)),(1,uT (kH p)),(2,uT ((l.take i).map lU))],3⟩⟩) (λ_ _=>True) () ?_ True.intro (λi a hi hp2=>?_)|refine aZ () ⟨?_,tv,?_⟩|refine af.tell (ad5 (l.getD i .z) (hx _ (ja om))) vw ?_|refine aO (Ii (lU (l.getD i .z)).length (λj _=>gG ((lU (l.getD i .z)).getD j 0)) (ZB (hx _ (ja om)))) ?_|refine MQ (p.uw) ((l.length:Int)) (by exact rfl) (by exact rfl) (by exact nb rfl) (by exact rfl) (by have:=hp.s;omega) ?_|refine MQ (p.lost) ((l.length:Int)-(room p l:Int)) (by exact rfl) (by exact rfl) (by exact nb rfl) (by exact rfl) (by have:=hp.l;have:room p l<=l.length:=Nat.min_le_left _ _;omega) ?_|refine aj.n (λh=>?_)|refine aj.mk (λh=>?_) (λh=>?_)|refine ag.a ?_|refine bM qN qN (vq (ah iV ?_) tv) ?_|refine ag.mk ?_ ?_))<;>(try(refine dm.mk ?_;repeat'(first|exact tv|exact rfl|refine an ?_ ?_|refine ag.mk ?_ ?_)))
 all_goals(try(refine leq ?_ ?_ <;> repeat'(first|exact tv|exact qV|exact qW|refine vq (ah (V.row _) ?_) qN|refine vq (ah iV ?_) tv|refine jQ qN (λk hk=>?_) ?_|refine gU qN ?_ (λj hj k hk=>?_) ?_|refine an ?_ ?_)))
 all_goals first|exact rfl|exact nb rfl|exact cm qV|(have hk:k<4:=hk;obtain _|_|_|_|k:=k <;> first|exact cm qV|exact cm qW|(refine cm (vq (En (adD rfl) (apy rfl)) qN);done))|exact(dH h).symm|exact(bG h).symm|(have hq:=hp.fits;have hb:=FU p;have hm:(l.map lU).length=l.length:=lZ lU;have hr:room p l<=l.length:=Nat.min_le_left _ _;first|omega|(simp only[dM];omega)|exact(adD rfl).trans (FU (mP p l)).symm|exact cm (al2 rfl hk))|(refine⟨⟨nb rfl,fB rfl (λk hk=>?_)⟩,⟨nb rfl,aW.row rfl fv⟩,tv⟩;have hk:k<4:=hk;have hr:room p l<=l.length:=Nat.min_le_left _ _;obtain _|_|_|_|k:=k <;> first|exact qV|exact qW|exact vq (ah iV (show p.lost+((l.length:Int)-(room p l:Int))=p.lost+((l.length-room p l:Nat):Int) by omega)) tv|omega)|(have h9:i<l.length:=om;have hq:=hp.fits;have hb:=FU p;have hm:(l.map lU).length=l.length:=lZ lU;have hr:room p l<=l.length:=Nat.min_le_left _ _;have hz:(List.map lU (List.take i l)).length=i:=JI (Nat.le_of_lt h9);have hz2:(List.map lU (List.take (i+1) l)).length=i+1:=JI h9;first|omega|(rw[Xr (z:=.z) h9];refine cm (kU (C:=λb _=>bW b) (z:=[]) (b:=[lU (l.getD i .z)]) hz.symm hj fr (λj hj=>?_));obtain rfl:j=0:=Nat.lt_one_iff.1 hj;obtain rfl:k=0:=Nat.lt_one_iff.1 hk;exact qV))|(have e:i=l.length:=om;subst e;first|exact rfl|exact amk p l|(rw[mM];first|done|exact cm (VW.refl tv)))
def aaV:Nt:=⟨[],0,0,0,0⟩
def asQ  : af 47 [] e0 (λv t=>v = .ptr 0 0/\t=PS aaV):=by
 refine ay func47 λX=>?_
 (repeat'(first|refine T.cut (x:=.region 1 _ _) (y:=.ret) ⟨3,[(0,.ptr 0 0)],⟨[(0,.Wp 4 (λk=>match k with|0=>.dC|_=>iV 0))],1⟩⟩ ?_ (aeP 0 0 48 (λj k=>.d (bW (([]:List (List UInt8)).getD j []))) rfl rfl qN rfl qN (T.ret ?_))|refine aC ?_|refine bM qN qN qW ?_))<;>(try(refine leq ?_ ?_ <;> repeat'(first|exact tv|exact qW|refine jQ qN (λk hk=>?_) ?_|refine an ?_ ?_)))
 all_goals first|(have hk:k<4:=hk;obtain _|_|_|_|k:=k <;> first|exact cm qV|omega)|exact uF
