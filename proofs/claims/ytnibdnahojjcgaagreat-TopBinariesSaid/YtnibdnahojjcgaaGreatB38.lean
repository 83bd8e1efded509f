/- A part of the proof. -/
import Derived.Test.YtnibdnahojjcgaaGreatB32
import Derived.Test.YtnibdnahojjcgaaGreatB33
import Derived.Test.YtnibdnahojjcgaaGreatB34
namespace Go.Proofs.YtnibdnahojjcgaaGreat
set_option maxRecDepth 100000
set_option maxHeartbeats 16000000
set_option linter.unusedVariables false
set_option linter.unusedSimpArgs false
open Go.RowKit
structure y8 (p:Nt):Prop where
 fits:p.row.length+p.bU<=256
 s:0<=p.tV/\p.tV<=1000000000
 t:0<=p.taken/\p.taken<=1000000000
 l:0<=p.lost/\p.lost<=1000000000
 ok:∀ x∈p.row,jJ x
def qC(p:Nt)(i:Int):Bool:=bif decide (0<=i) then decide (i<(p.row.length:Int)) else false
def jf(p:Nt)(i:Nat):Nt:={ zg p i with taken:=p.taken+1 }
def RN(p:Nt)(i:Nat):Nt:={ zg p i with lost:=p.lost+1 }
def Bh(p:Nt)(i:Nat):Nt:=⟨p.row++[p.row.getD i .z],p.bU-1,p.tV+1,p.taken,p.lost⟩
theorem y8.at{p:Nt}(h:y8 p){i:Nat}(hi:i<p.row.length):jJ (p.row.getD i .z):=h.ok _ (iT hi)
theorem Xr{x:aP}(h:jJ x):(kU x).length<=1000000:=by have:=(QB h).size;show(bF (jM x)).length<=_;omega
theorem RF{b:Bool}(h:(!b)=true):b=false:=by simpa using h
theorem XU{b:Bool}(h:(!b)=false):b=true:=by simpa using h
theorem ajh(p:Nt)(i:Int)(ho:qC p i=false):ae 69 [.ptr 0 0,iV i] (PS p) (λv t=>v=bQ [jy .z,iV 1]/\t=PS p):=by
 refine asz Tryz.func69 λX=>?_
 (repeat' (first|refine ai.mk (λh=>?_) (λh=>au (ho.symm.trans (XU h)) (by decide))|refine oz ?_|refine asH [0,1] (Gt p i) ?_|refine ag.a ?_|refine asC qN qN (asG [jy .z,iV 1] rfl fr ⟨(asK (by repeat' (first|exact tv|exact qV|exact asQ rfl|refine an ?_ ?_))),qV,tv⟩) ?_))<;>try exact aB
 all_goals (refine⟨⟨nb rfl,asE rfl (λk hk=>?_)⟩,⟨nb rfl,af.row rfl fv⟩,tv⟩;have hk:k<4:=hk;rcases k with _|_|_|_|k <;> first|exact qV|exact qW)
theorem ac4(p:Nt)(i:Nat)(hi:i<p.row.length)(hp:y8 p):ae 69 [.ptr 0 0,iV i] (PS p) (λv t=>v=bQ [jy (p.row.getD i .z),iV 0]/\t=PS (jf p i)):=by
 refine asz Tryz.func69 λX=>?_
 (repeat' (first|refine ai.mk (λh=>au ((show qC p (i:Int)=true by unfold qC;rw[bg (show(0:Int)<=(i:Int) by omega),bg (show(i:Int)<(p.row.length:Int) by omega)];rfl).symm.trans (RF h)) (by decide)) (λh=>?_)|refine oz ?_|refine asH [0,1] (Gt p (i:Int)) ?_|refine asH [0,1] (ad1 p i hi (by have:=hp.fits;omega)) ?_|refine atv (p.taken) 1 (by exact rfl) (by exact rfl) (by exact nb rfl) (by exact rfl) (by have:=hp.t;omega) ?_|refine asA (ah4 (p.row.getD i .z) (hp.at hi)) ?_|refine ai.n (λh=>?_)|refine ag.a ?_|refine asC qN qN (asG [jy (p.row.getD i .z),iV 0] rfl fr vw) ?_))<;>try exact aB
theorem ajm(p:Nt)(i:Int)(ho:qC p i=false):ae 36 [.ptr 0 0,iV i] (PS p) (λv t=>v=iV 1/\t=PS p):=by
 refine asz Tryz.func36 λX=>?_
 (repeat' (first|refine ai.mk (λh=>?_) (λh=>au (ho.symm.trans (XU h)) (by decide))|refine oz ?_|refine asH [0,1] (Gt p i) ?_|refine asC qN qN qV ?_))<;>try exact aB
 all_goals (refine⟨⟨nb rfl,asE rfl (λk hk=>?_)⟩,⟨nb rfl,af.row rfl fv⟩,tv⟩;have hk:k<4:=hk;rcases k with _|_|_|_|k <;> first|exact qV|exact qW)
theorem amn(p:Nt)(i:Nat)(hi:i<p.row.length)(hp:y8 p):ae 36 [.ptr 0 0,iV i] (PS p) (λv t=>v=iV 0/\t=PS (RN p i)):=by
 refine asz Tryz.func36 λX=>?_
 (repeat' (first|refine ai.mk (λh=>au ((show qC p (i:Int)=true by unfold qC;rw[bg (show(0:Int)<=(i:Int) by omega),bg (show(i:Int)<(p.row.length:Int) by omega)];rfl).symm.trans (RF h)) (by decide)) (λh=>?_)|refine oz ?_|refine asH [0,1] (Gt p (i:Int)) ?_|refine asH [0,1] (ad1 p i hi (by have:=hp.fits;omega)) ?_|refine atv (p.lost) 1 (by exact rfl) (by exact rfl) (by exact nb rfl) (by exact rfl) (by have:=hp.l;omega) ?_|refine asC qN qN qV ?_))<;>try exact aB
theorem ahU(p:Nt)(i:Int)(ho:qC p i=false):ae 37 [.ptr 0 0,iV i] (PS p) (λv t=>v=iV 1/\t=PS p):=by
 refine asz Tryz.func37 λX=>?_
 (repeat' (first|refine ai.mk (λh=>?_) (λh=>au (ho.symm.trans (XU h)) (by decide))|refine oz ?_|refine asH [0,1] (Gt p i) ?_|refine asC qN qN qV ?_))<;>try exact aB
 all_goals (refine⟨⟨nb rfl,asE rfl (λk hk=>?_)⟩,⟨nb rfl,af.row rfl fv⟩,tv⟩;have hk:k<4:=hk;rcases k with _|_|_|_|k <;> first|exact qV|exact qW)
theorem ahT(p:Nt)(i:Nat)(hi:i<p.row.length)(hf:256<=p.row.length):ae 37 [.ptr 0 0,iV i] (PS p) (λv t=>v=iV 20/\t=PS p):=by
 refine asz Tryz.func37 λX=>?_
 (repeat' (first|refine ai.mk (λh=>au ((show qC p (i:Int)=true by unfold qC;rw[bg (show(0:Int)<=(i:Int) by omega),bg (show(i:Int)<(p.row.length:Int) by omega)];rfl).symm.trans (RF h)) (by decide)) (λh=>?_)|refine asL (λh=>?_)|refine oz ?_|refine asH [0,1] (Gt p (i:Int)) ?_|refine ag.a ?_|refine asC qN qN qV ?_))<;>try exact aB
 all_goals (refine⟨⟨nb rfl,asE rfl (λk hk=>?_)⟩,⟨nb rfl,af.row rfl fv⟩,tv⟩;have hk:k<4:=hk;rcases k with _|_|_|_|k <;> first|exact qV|exact qW)
theorem ahl{p:Nt}{i j:Nat}(hi:i<p.row.length):(iK (Bh p i)).getD j []=if j<p.row.length then (iK p).getD j [] else if j<p.row.length+1 then kU (p.row.getD i .z) else []:=by
 have e1:iK (Bh p i)=(p.row++[p.row.getD i .z]).map kU++List.replicate (p.bU-1) []:=rfl;rw[e1,IA,lJ,bW,List.length_singleton,List.map_append,IA,lJ];by_cases h1:j<p.row.length
 ·rw[if_pos qO,if_pos h1,if_pos h1,Gz p h1,bC,qY,dW h1,bC,dW h1];rfl
 ·by_cases h2:j<p.row.length+1
  ·rw[if_pos h2,if_neg h1,if_neg h1,if_pos h2,show j-p.row.length=0 by omega];rfl
  ·rw[if_neg h2,if_neg h1,if_neg h2,Qa]
theorem adP{p:Nt}{i:Nat}(h:p.row.length<256):Nat.max (p.row.length+p.bU) (p.row.length+1)=(Bh p i).row.length+(Bh p i).bU:=by
 show max _ _=(p.row++[p.row.getD i .z]).length+(p.bU-1);rw[bW,List.length_singleton];omega
theorem an8{N:Nat}{p:Nt}{i:Nat}(hi:i<p.row.length){g:Nat->V}{j k:Nat}(hj:j<Nat.max (p.row.length+p.bU) (p.row.length+1))(hk:k<1)(h0:g 0 = .d (dB (kU (p.row.getD i .z))):=by exact rfl):VW N (qg p.row.length 1 (λj k=>V.d (dB ((iK p).getD j []))) (λj k=>g (j*1+k)) j k) (.d (dB ((iK (Bh p i)).getD j []))):=by
 obtain rfl:k=0:=Nat.lt_one_iff.1 hk;rw[vN,ahl hi];by_cases h1:j<p.row.length
 ·rw[if_pos h1,if_pos h1];exact VW.refl tv
 ·by_cases h2:j<p.row.length+1
  ·obtain rfl:j=p.row.length:=qO;rw[if_neg h1,if_pos h2,if_neg h1,if_pos h2,Nat.sub_self];exact vq h0 trivial
  ·rw[if_neg h1,if_neg h2,if_neg h1,if_neg h2,VI qO];exact VW.refl tv
theorem ajg(p:Nt)(i:Nat)(hi:i<p.row.length)(hf:p.row.length<256)(hp:y8 p):ae 37 [.ptr 0 0,iV i] (PS p) (λv t=>v=iV 0/\t=PS (Bh p i)):=by
 refine asz Tryz.func37 λX=>?_
 (repeat' (first|refine ai.mk (λh=>au ((show qC p (i:Int)=true by unfold qC;rw[bg (show(0:Int)<=(i:Int) by omega),bg (show(i:Int)<(p.row.length:Int) by omega)];rfl).symm.trans (RF h)) (by decide)) (λh=>?_)|refine ai.n (λh=>?_)|refine oz ?_|refine asD 5 [13,14,17] [(0,2,false,[]),o2,o2,o2,o2,o0,o0,o0,o0,o0,o0,o0,o0,o1,(1,1,true,[]),(2,2,false,[]),(2,2,false,[]),(2,2,true,[])] ?_|refine mc ?_ ?_|refine asH [0,1] (Gt p (i:Int)) ?_|refine atv (p.tV) 1 (by exact rfl) (by exact rfl) (by exact nb rfl) (by exact rfl) (by have:=hp.s;omega) ?_|refine bn.tell (Gw (kU (p.row.getD i .z)).length (λj _=>fO ((kU (p.row.getD i .z)).getD j 0)) (Xr (hp.at hi))) ⟨vq (gz (λb=>V.d (dB b)) (show(iK p).getD (0+(i:Int).toNat) []=kU (p.row.getD i .z) by rw[jm];exact Gz p hi)) tv,tv⟩ ?_|refine ag.a ?_|refine asC qN qN qV ?_|refine ag.mk ?_ ?_))<;>(try(refine dh.mk ?_;repeat' (first|exact tv|exact rfl|refine ae.tell (Gw (kU (p.row.getD i .z)).length (λj _=>fO ((kU (p.row.getD i .z)).getD j 0)) (Xr (hp.at hi))) ⟨vq (gz (λb=>V.d (dB b)) (show(iK p).getD (0+(i:Int).toNat) []=kU (p.row.getD i .z) by rw[jm];exact Gz p hi)) tv,tv⟩ ?_|refine an ?_ ?_|refine ag.mk ?_ ?_)))
 all_goals try exact aB
 all_goals (have hb:=EJ p;have h9:=bJ h;have hq:=hp.fits;first|omega|(refine⟨⟨nb rfl,asE rfl (λk hk=>?_)⟩,⟨nb rfl,af.row ?_ (λj hj k hk=>?_)⟩,tv⟩;have hk:k<4:=hk;rcases k with _|_|_|_|k;exact vq (Dw (adP (by omega)) (by show _=(p.row++[p.row.getD i .z]).length;rw[bW];rfl)) qN;exact qV;exact qV;exact qV;omega;exact(adP (by omega)).trans (EJ (Bh p i)).symm;exact an8 hi hj hk))
theorem aiQ{N:Nat}{p:Nt}{l:List aP}{r:Nat}(hr:r=room p l){j k:Nat}(hk:k<1):VW N (qg p.row.length r (λj k=>V.d (dB ((iK p).getD j []))) (λj k=>V.d (dB ((l.map kU).getD (0+j) []))) j k) (.d (dB ((iK (lL p l)).getD j []))):=by
 subst hr;rw[vN,aiR];by_cases h1:j<p.row.length
 ·rw[if_pos h1,if_pos h1];exact VW.refl tv
 ·by_cases h2:j<p.row.length+room p l
  ·rw[if_neg h1,if_pos h2,if_neg h1,if_pos h2,jm];exact VW.refl tv
  ·rw[if_neg h1,if_neg h2,if_neg h1,if_neg h2,VI qO];exact VW.refl tv
theorem ai6(p:Nt)(l:List aP):min (l.length:Int) (max (256-(p.row.length:Int)) 0)=(room p l:Nat):=by
 unfold room;omega
theorem abm{p:Nt}{l:List aP}{r:Nat}(hr:r=room p l):Nat.max (p.row.length+p.bU) (p.row.length+r)=(lL p l).row.length+(lL p l).bU:=by
 subst hr;have h2:room p l<=l.length:=Nat.min_le_left _ _;show max _ _=(p.row++l.take (room p l)).length+(p.bU-room p l);rw[bW,dP,Nat.min_eq_left h2];omega
theorem alQ{p:Nt}{l:List aP}{r:Nat}(hr:r=room p l):p.row.length+r=(lL p l).row.length:=by
 subst hr;have h2:room p l<=l.length:=Nat.min_le_left _ _;show _=(p.row++l.take (room p l)).length;rw[bW,dP,Nat.min_eq_left h2]
theorem Ws(p:Nt)(l:List aP)(hl:l.length<=1000)(hx:∀ x∈l,jJ x)(hp:y8 p):ae 52 [.ptr 0 0,.d (gu l)] (PS p) (λv t=>v=iV (apK p l)/\t=PS (lL p l)):=by
 refine asz Tryz.func52 λX=>?_
 (repeat' (first|refine asW (c:=.seq (.seq (.region 2 _ _) _) _) 5 48 (λj k=>.d (dB (([]:List (List UInt8)).getD j []))) rfl rfl qN (T.seq ?_)|refine T.cut (x:=.region 10 _ _) ⟨69,[(0,.ptr 0 0),(5,.row 2 l.length),(10,iV (room p l))],⟨[(0,.blk 4 (TQ p)),(1,nS (iK p)),(2,nS (l.map kU))],3⟩⟩ ?_ ?_|refine T.cut (x:=.region 11 _ _) ⟨69,[(0,.ptr 0 0),(5,.row 2 l.length),(10,iV (room p l))],⟨[(0,.blk 4 (TQ { lL p l with tV:=p.tV,lost:=p.lost })),(1,nS (iK (lL p l))),(2,nS (l.map kU))],3⟩⟩ ?_ ?_|refine oz ?_|refine asD 11 [8,11] [o2,o0,o0,o0,o0,o0,o0,o0,o1,o3,o3,(1,1,true,[])] ?_|refine mc ?_ ?_|refine asI l.length (λi (a:Unit)=>⟨69,[(0,.ptr 0 0),(4,iV 0),(5,.row 2 i),(11,.d (gu l)),(12,iV l.length),(13,iV i)],⟨[(0,.blk 4 (TQ p)),(1,nS (iK p)),(2,nS ((l.take i).map kU))],3⟩⟩) (λ_ _=>True) () ?_ True.intro (λi a hi hp2=>?_)|refine aU () ⟨?_,tv,?_⟩|refine ae.tell (abN (l.getD i .z) (hx _ (iT (by have h9:=aS (aj:decide ((i:Int)<(l.length:Int))=true);omega)))) vw ?_|refine asA (Gw (kU (l.getD i .z)).length (λj _=>fO ((kU (l.getD i .z)).getD j 0)) (Xr (hx _ (iT (by have h9:=aS (aj:decide ((i:Int)<(l.length:Int))=true);omega))))) ?_|refine atv (p.tV) ((l.length:Int)) (by exact rfl) (by exact rfl) (by exact nb rfl) (by exact rfl) (by have:=hp.s;omega) ?_|refine atv (p.lost) ((l.length:Int)-(room p l:Int)) (by exact rfl) (by exact rfl) (by exact nb rfl) (by exact rfl) (by have:=hp.l;have:room p l<=l.length:=Nat.min_le_left _ _;omega) ?_|refine ai.n (λh=>?_)|refine ai.mk (λh=>?_) (λh=>?_)|refine ag.a ?_|refine asC qN qN (vq (gz iV ?_) tv) ?_|refine ag.mk ?_ ?_))<;>(try(refine dh.mk ?_;repeat' (first|exact tv|exact rfl|refine an ?_ ?_|refine ag.mk ?_ ?_)))
 all_goals (try(refine aV.mk rfl qN qN ?_ ?_ <;> repeat' (first|exact tv|exact qV|exact qW|refine vq (gz (V.row _) ?_) qN|refine vq (gz iV ?_) tv|refine an ⟨nb rfl,asE rfl (λk hk=>asB ?_)⟩ ?_|refine an ⟨nb rfl,af.row ?_ (λj hj k hk=>asB ?_)⟩ ?_|refine an ?_ ?_)))
 all_goals first|exact rfl|exact nb rfl|exact cm qV|(have hk:k<4:=hk;rcases k with _|_|_|_|k <;> first|exact cm qV|exact cm qW|(refine cm (vq (Dw (abm rfl) (alQ rfl)) qN);done))|exact(dF h).symm|exact(bz h).symm|(have hq:=hp.fits;have hb:=EJ p;have hm:(l.map kU).length=l.length:=lJ kU;have hr:room p l<=l.length:=Nat.min_le_left _ _;first|omega|(simp only[dQ];omega)|exact(abm rfl).trans (EJ (lL p l)).symm|exact cm (aiQ rfl hk))|(refine⟨⟨nb rfl,asE rfl (λk hk=>?_)⟩,⟨nb rfl,af.row rfl fv⟩,tv⟩;have hk:k<4:=hk;have hr:room p l<=l.length:=Nat.min_le_left _ _;rcases k with _|_|_|_|k <;> first|exact qV|exact qW|exact vq (gz iV (show p.lost+((l.length:Int)-(room p l:Int))=p.lost+((l.length-room p l:Nat):Int) by omega)) tv|omega)|(have h9:i<l.length:=(by have h9:=aS (aj:decide ((i:Int)<(l.length:Int))=true);omega);have hq:=hp.fits;have hb:=EJ p;have hm:(l.map kU).length=l.length:=lJ kU;have hr:room p l<=l.length:=Nat.min_le_left _ _;have hz:(List.map kU (List.take i l)).length=i:=IJ (Nat.le_of_lt h9);have hz2:(List.map kU (List.take (i+1) l)).length=i+1:=IJ h9;first|omega|(rw[U8 (z:=.z) h9];refine cm (oq (C:=λb _=>dB b) (z:=[]) (b:=[kU (l.getD i .z)]) hz.symm hj fr (λj hj=>?_));obtain rfl:j=0:=Nat.lt_one_iff.1 hj;obtain rfl:k=0:=Nat.lt_one_iff.1 hk;exact qV))|(have e:i=l.length:=(by have h9:=bJ (aj:decide ((i:Int)<(l.length:Int))=false);omega);subst e;first|exact rfl|exact ai6 p l|(rw[oJ];first|done|exact cm (VW.refl tv)))
def wU:Nt:=⟨[],0,0,0,0⟩
theorem Xl  : ae 47 [] e0 (λv t=>v = .ptr 0 0/\t=PS wU):=by
 refine asz Tryz.func47 λX=>?_
 (repeat' (first|refine T.cut (x:=.region 1 _ _) (y:=.ret) ⟨3,[(0,.ptr 0 0)],⟨[(0,.blk 4 (λk=>match k with|0=>.dE|_=>iV 0))],1⟩⟩ ?_ (aum 0 0 48 (λj k=>.d (dB (([]:List (List UInt8)).getD j []))) rfl rfl qN rfl qN (T.ret ?_))|refine oz ?_|refine asC qN qN qW ?_))<;>(try(refine aV.mk rfl qN qN ?_ ?_ <;> repeat' (first|exact tv|exact qW|refine an ⟨nb rfl,asE rfl (λk hk=>asB ?_)⟩ ?_|refine an ?_ ?_)))
 all_goals first|(have hk:k<4:=hk;rcases k with _|_|_|_|k <;> first|exact cm qV|omega)|exact qM
section
attribute [local irreducible] ae
structure kL where
 node:Int
 number:Int
 term:Int
 at_:Int
 Yl:Int
 c:aI
 done:Bool
 vW:eY
def kL.z:kL:=⟨0,0,0,0,0,.z,false,.z⟩
def uf(x:kL):Nat->D
 |0=>iD x.node|1=>iD x.number|2=>iD x.term|3=>iD x.at_|4=>iD x.Yl
 |5=>kY x.c 0|6=>kY x.c 1|7=>kY x.c 2|8=>kY x.c 3|9=>kY x.c 4|10=>kY x.c 5|11=>kY x.c 6|12=>kY x.c 7
 |13=>bD x.done|14=>jU x.vW 0|_=>jU x.vW 1
def afJ(x:kL):V:=.agg 16 (λk=>.d (uf x k))
def ae5(l:List kL):D:=.sl l.length 16 (λj=>uf (l.getD j .z))
structure aF where
 nd:Nat->az
 ax:Nt
 calls:List kL
 steps:Int
def aF.at(C:aF)(i:Nat):az:=C.nd i
def aF.put(C:aF)(i:Nat)(n:az):aF:={ C with nd:=λj=>bif Nat.beq j i then n else C.nd j }
def FB(b:Nat)(n:az):Nat->V
 |0=>iV n.me|1=>iV n.many|2=>.ptr (b+1) 0|3=>iV n.bin|4=>iV n.ah.floor|5=>iV n.ah.term|6=>iV n.ah.gZ|7=>.d (jg n.ah.log)
 |8=>iV n.dn|9=>iV n.eQ|10=>iV n.fA
 |11=>.d (fH n.st 0)|12=>.d (fH n.st 1)|13=>.d (fH n.st 2)|14=>.d (fH n.st 3)|15=>.d (fH n.st 4)|16=>.d (fH n.st 5)|17=>.d (fH n.st 6)
 |18=>.row (b+3) n.fF.length|19=>.row (b+4) n.iL.length|20=>.row (b+5) n.fD.length|21=>.row (b+6) n.next.length|_=>.row (b+7) n.fJ.length
def yZ(b:Nat)(d:dJ):Nat->V
 |0=>.vw (b+2) (d.b++d.bU).length 0 d.b.length|1=>iV d.uZ|2=>.b d.down|3=>.b d.mD|_=>iV d.keep
def jA(b:Nat)(n:az):List (Nat×aG):=[(b,.blk 23 (FB b n)),(b+1,.blk 5 (yZ b n.aA)),(b+2,iy (n.aA.b++n.aA.bU)),(b+3,dw 52 2 jU .z n.fF),(b+4,sK n.iL),(b+5,fM n.fD),(b+6,fM n.next),(b+7,fM n.fJ)]
def Cb(k:Nat)(C:aF):Nat->V
 |0=>.row 1 k|1=>.ptr 2 0|2=>.row 4 C.calls.length|_=>iV C.steps
def vF(p:Nt):Nat->V
 |0=>.vw 3 (p.row.length+p.bU) 0 p.row.length|1=>iV p.tV|2=>iV p.taken|_=>iV p.lost
def ry(k:Nat):aG:=.row 76 1 k (λj _=>.ptr (8*j+24) 0)
def lm(C:aF):Nat->Nat->List (Nat×aG)
 |_,0=>[]
 |i,m+1=>jA (8*i+24) (C.at i)++lm C (i+1) m
def CL(k:Nat)(C:aF):List (Nat×aG):=[(0,.blk 4 (Cb k C)),(1,ry k),(2,.blk 4 (vF C.ax)),(3,nS (iK C.ax)),(4,dw 69 16 uf .z C.calls)]++lm C 0 k
abbrev CS(k:Nat)(C:aF):ST:=⟨CL k C,8*k+24⟩
theorem Vy{b N:Nat}{n:az}(h:b+8<=N):∀ k,k<23->iO (λi=>i<N) (FB b n k):=λk hk=>by
 rcases k with _|_|_|_|_|_|_|_|_|_|_|_|_|_|_|_|_|_|_|_|_|_|_|k
 all_goals first|exact tv|(show _<N;omega)
theorem VP{b N:Nat}{d:dJ}(h:b+8<=N):∀ k,k<5->iO (λi=>i<N) (yZ b d k):=λk hk=>by
 rcases k with _|_|_|_|_|k
 all_goals first|exact tv|(show _<N;omega)
theorem P6{k N:Nat}(h:8*k+24<=N):kX (λi=>i<N) (ry k):=λj hj i hi=>by show 8*j+24<N;omega
theorem Qh{k N:Nat}{C:aF}(h:5<=N):∀ i,i<4->iO (λi=>i<N) (Cb k C i):=λi hi=>by
 rcases i with _|_|_|_|i
 all_goals first|exact tv|(show _<N;omega)
theorem VA{N:Nat}{p:Nt}(h:5<=N):∀ i,i<4->iO (λi=>i<N) (vF p i):=λi hi=>by
 rcases i with _|_|_|_|i
 all_goals first|exact tv|(show _<N;omega)
theorem yw{b N:Nat}{n:az}(h:Nat.ble (b+8) N=true):af N (.blk 23 (FB b n)) (.blk 23 (FB b n)):=as2 (Vy (nb h))
theorem vY{b N:Nat}{d:dJ}(h:Nat.ble (b+8) N=true):af N (.blk 5 (yZ b d)) (.blk 5 (yZ b d)):=as2 (VP (nb h))
theorem jO{k N:Nat}(h:Nat.ble (8*k+24) N=true):af N (ry k) (ry k):=as2 (P6 (nb h))
theorem IQ{n:Nat}:∀ {a b:List (Nat×aG)},mJ n a->mJ n b->mJ n (a++b)
 |[],_,_,h=>h
 |_::_,_,h1,h2=>⟨h1.1,IQ h1.2 h2⟩
theorem LX{C:aF}{N:Nat}:∀ {m i:Nat},8*(i+m)+24<=N->mJ N (lm C i m)
 |0,_,_=>True.intro
 |m+1,i,h=>by
  have hb:8*i+24+8<=N:=qO;refine IQ ?_ (LX qO);exact⟨⟨by omega,Vy hb⟩,⟨by omega,VP hb⟩,⟨by omega,λj hj k hk=>True.intro⟩,⟨by omega,λj hj k hk=>True.intro⟩,⟨by omega,λj hj k hk=>True.intro⟩,⟨by omega,λj hj k hk=>True.intro⟩,⟨by omega,λj hj k hk=>True.intro⟩,⟨by omega,λj hj k hk=>True.intro⟩,tv⟩
theorem Du{k N:Nat}{C:aF}(h:8*k+24<=N):mJ N (CL k C):=
 IQ ⟨⟨by omega,Qh qO⟩,⟨by omega,P6 h⟩,⟨by omega,VA qO⟩,⟨by omega,λj hj k hk=>True.intro⟩,⟨by omega,λj hj k hk=>True.intro⟩,tv⟩ (LX qO)
theorem three{k:Nat}(h:3<=k/\k<=5):k=3\/k=4\/k=5:=qO
theorem anA(k:Nat)(hk:k=3\/k=4\/k=5)(C:aF):ae 48 [.ptr 0 0] (CS k C) (λv t=>v=iV k/\t=CS k C):=by
 rcases hk with rfl|rfl|rfl
 all_goals refine asz Tryz.func48 λX=>?_
 all_goals repeat' (first|((with_reducible refine dI ?_);(refine oz ?_))|((conv=>whnf);first|(with_reducible refine dI ?_)|refine ag.a ?_|refine asY qN qV ?_))
 all_goals try exact aB
 all_goals (try(repeat' (first|exact tv|refine an ⟨nb rfl,?_⟩ ?_|exact yw rfl|exact vY rfl|exact af.row rfl fv|exact jO rfl|refine asE rfl (λk hk=>asB ?_))))
 all_goals exact kk
theorem ag5(k:Nat)(hk:k=3\/k=4\/k=5)(C:aF):ae 49 [.ptr 0 0] (CS k C) (λv t=>v=iV C.ax.row.length/\t=CS k C):=by
 rcases hk with rfl|rfl|rfl
 all_goals refine asz Tryz.func49 λX=>?_
 all_goals repeat' (first|((with_reducible refine dI ?_);(refine oz ?_))|((conv=>whnf);first|(with_reducible refine dI ?_)|refine asH [2,3] (aow C.ax) ?_|refine ag.a ?_|refine asY qN qV ?_))
 all_goals try exact aB
 all_goals (try(repeat' (first|exact tv|refine an ⟨nb rfl,?_⟩ ?_|exact yw rfl|exact vY rfl|exact af.row rfl fv|exact jO rfl|refine asE rfl (λk hk=>asB ?_))))
 all_goals exact kk
theorem VQ(k:Nat)(hk:k=3\/k=4\/k=5)(C:aF)(i:Int):ae 38 [.ptr 0 0,iV i] (CS k C) (λv t=>v = .b (bif decide (0<=i) then decide (i<(k:Int)) else false)/\t=CS k C):=by
 rcases hk with rfl|rfl|rfl
 all_goals refine asz Tryz.func38 λX=>?_
 all_goals repeat' (first|((with_reducible refine dI ?_);(refine oz ?_))|((conv=>whnf);first|(with_reducible refine dI ?_)|refine ag.a ?_|refine asY qN qV ?_))
 all_goals try exact aB
 all_goals (try(repeat' (first|exact tv|refine an ⟨nb rfl,?_⟩ ?_|exact yw rfl|exact vY rfl|exact af.row rfl fv|exact jO rfl|refine asE rfl (λk hk=>asB ?_))))
 all_goals exact kk
theorem anw(k:Nat)(hk:k=3\/k=4\/k=5)(C:aF)(l:List aP)(e:Int)(hl:l.length<=1000)(hx:∀ x∈l,jJ x)(hp:y8 C.ax):ae 23 [.ptr 0 0,.d (gu l),iV e] (CS k C) (λv t=>v=iV e/\t=CS k { C with ax:=lL C.ax l }):=by
 rcases hk with rfl|rfl|rfl
 all_goals refine asz Tryz.func23 λX=>?_
 all_goals repeat' (first|((with_reducible refine dI ?_);(refine oz ?_))|((conv=>whnf);first|(with_reducible refine dI ?_)|refine asH [2,3] (Ws C.ax l hl hx hp) ?_|refine ag.a ?_|refine asC qN qN qV ?_))
 all_goals try exact aB
 all_goals (try(repeat' (first|exact tv|refine an ⟨nb rfl,?_⟩ ?_|exact yw rfl|exact vY rfl|exact af.row rfl fv|exact jO rfl|refine asE rfl (λk hk=>asB ?_))))
 all_goals exact kk
end
def Tag (k A : Nat) : Prop := (k = 3 /\ A = 0) \/ (k = 3 /\ A = 1) \/ (k = 3 /\ A = 2) \/ (k = 4 /\ A = 0) \/ (k = 4 /\ A = 1) \/ (k = 4 /\ A = 2) \/ (k = 4 /\ A = 3) \/ (k = 5 /\ A = 0) \/ (k = 5 /\ A = 1) \/ (k = 5 /\ A = 2) \/ (k = 5 /\ A = 3) \/ (k = 5 /\ A = 4)
theorem apX {k A : Nat} (h : 3 <= k /\ k <= 5) (hA : A < k) : Tag k A := by unfold Tag; omega
def Zu (k A : Nat) (p : Nat -> Value) (C : aF) (n : az) : List (Nat × aG) := [(0, .blk 4 (Cb k C)), (1, .row 76 1 k (gx A (λ_ _ => .ptr 5 0) p)), (2, .blk 4 (vF C.ax)), (3, nS (iK C.ax)), (4, dw 69 16 uf .z C.calls), (5, .blk 23 (FB 5 n)), (6, .blk 5 (yZ 5 n.aA)), (7, iy (n.aA.b ++ n.aA.bU)), (8, dw 52 2 jU .z n.fF), (9, sK n.iL), (10, fM n.fD), (11, fM n.next), (12, fM n.fJ)]
abbrev S1 (k A : Nat) (p : Nat -> Value) (C : aF) (n : az) : ST := ⟨Zu k A p C n, 13⟩
theorem aqt {N A j i : Nat} {φ : Nat -> Option Nat} {p : Nat -> Value} (h : φ (8 * A + 24) = some 5) (hb : 5 < N) : VW N (dO φ (gx A (λj _ => .ptr (8 * j + 24) 0) p j i)) (gx A (λ_ _ => .ptr 5 0) p j i) := by
  unfold gx;rcases hj : Nat.beq j A with _ | _
  · exact asF rfl trivial
  · have := dH hj;subst this;refine asF ?_ hb;show dO φ (.ptr (8 * j + 24) 0) = _;simp only [dO, h];rfl
theorem aoU {N A j i : Nat} {φ : Nat -> Option Nat} {p : Nat -> Value} (h : φ 5 = some (8 * A + 24)) (hb : 8 * A + 24 < N) : VW N (dO φ (gx A (λ_ _ => .ptr 5 0) p j i)) (gx A (λj _ => .ptr (8 * j + 24) 0) p j i) := by
  unfold gx;rcases hj : Nat.beq j A with _ | _
  · exact asF rfl trivial
  · have := dH hj;subst this;refine asF ?_ hb;show dO φ (.ptr 5 0) = _;simp only [dO, h];rfl
theorem atO {f : Nat} {args : List V} {st T2 : ST} {Q : V -> ST -> Prop} {r : V} (h : ae f args st Q) (hlo : st.nx <= T2.nx) (hq : ∀ v t, Q v t -> T2.nx <= t.nx /\ VW T2.nx v r /\ qB T2.nx t T2.st) : ae f args st (λv t => v = r /\ t = T2) := h.told hlo (λv t hv => ⟨(hq v t hv).1, (hq v t hv).2.1, II (hq v t hv).2.2⟩) ⟨rfl, rfl⟩
def wZ : aG := .blk 1 (λ_ => .ptr 0 0)
def wY (e : bT) : aG := .blk 11 (λk => .d (Ap e k))
abbrev SX (k A : Nat) (p : Nat -> Value) (C : aF) (n : az) (e : bT) : ST := ⟨(14, wY e) :: (13, wZ) :: Zu k A p C n, 15⟩
abbrev CX (k : Nat) (C : aF) (e : bT) : ST := ⟨(8 * k + 25, wY e) :: (8 * k + 24, wZ) :: CL k C, 8 * k + 26⟩
def Fj (k A : Nat) : List Nat := [0, 1, 2, 3, 4, 8 * A + 24, 8 * A + 25, 8 * A + 26, 8 * A + 27, 8 * A + 28, 8 * A + 29, 8 * A + 30, 8 * A + 31, 8 * k + 24, 8 * k + 25]
theorem tg {p : Prop} (h : p := by unfold Tag at sW; rcases sW with ⟨rfl,rfl⟩|⟨rfl,rfl⟩|⟨rfl,rfl⟩|⟨rfl,rfl⟩|⟨rfl,rfl⟩|⟨rfl,rfl⟩|⟨rfl,rfl⟩|⟨rfl,rfl⟩|⟨rfl,rfl⟩|⟨rfl,rfl⟩|⟨rfl,rfl⟩|⟨rfl,rfl⟩ <;> rfl) : p := h
theorem Ed {p : Prop} (h : p := by
  unfold Tag at sW;rcases sW with ⟨rfl,rfl⟩|⟨rfl,rfl⟩|⟨rfl,rfl⟩|⟨rfl,rfl⟩|⟨rfl,rfl⟩|⟨rfl,rfl⟩|⟨rfl,rfl⟩|⟨rfl,rfl⟩|⟨rfl,rfl⟩|⟨rfl,rfl⟩|⟨rfl,rfl⟩|⟨rfl,rfl⟩
  all_goals repeat' (first | exact tv | refine an ⟨_, rfl, ?_⟩ ?_ | exact af.row rfl fv | exact af.row rfl (λj hj i hi => aqt rfl qN) | refine asE rfl (λk hk => asB ?_))
  all_goals first | exact kk | exact cm qV) : p := h
theorem TC {p : Prop} (h : p := by
  unfold Tag at sW;rcases sW with ⟨rfl,rfl⟩|⟨rfl,rfl⟩|⟨rfl,rfl⟩|⟨rfl,rfl⟩|⟨rfl,rfl⟩|⟨rfl,rfl⟩|⟨rfl,rfl⟩|⟨rfl,rfl⟩|⟨rfl,rfl⟩|⟨rfl,rfl⟩|⟨rfl,rfl⟩|⟨rfl,rfl⟩
  all_goals refine ⟨nb rfl, ?_⟩
  all_goals repeat' (first | exact tv | refine an ⟨nb rfl, ?_⟩ ?_ | exact yw rfl | exact vY rfl | exact Yw rfl | exact af.row rfl fv | exact af.row rfl (λj hj i hi => aoU rfl qN) | exact jO rfl | exact uk rfl | refine asE rfl (λk hk => asB ?_) | refine af.row ?_ (λj hj k hk => asB ?_))
  all_goals first | exact kk | exact cm qV) : p := h
abbrev Yy (k A : Nat) (C : aF) (e : bT) (p : Nat -> Value) (s : ST) : ST := sG ((CX k C e).set 1 (.row 76 1 k (gx A (λj _ => .ptr (8 * j + 24) 0) p))) (Fj k A) s
abbrev Yz (k A : Nat) (T2 : ST) (p : Nat -> Value) : ST := T2.set 1 (.row 76 1 k (gx A (λj _ => .ptr (8 * j + 24) 0) p))
theorem atP {k A : Nat} (sW : Tag k A) {f : Nat} {us uj : List V} {r : V} {C : aF} {e : bT} {S : (Nat -> Value) -> ST} {T2 : ST} (h : ∀ p, ae f uj (SX k A p C (C.at A) e) (λv t => v = r /\ t = S p)) (ha : ∀ φ : Nat -> Option Nat, φ 0 = some 0 -> φ (8 * A + 24) = some 5 -> φ (8 * k + 24) = some 13 -> φ (8 * k + 25) = some 14 -> kS 15 φ us uj) (hr : ∀ (φ : Nat -> Option Nat) (N : Nat), VW N (dO φ r) r)
    (hx : 8 * k + 26 <= T2.nx) (h1 : T2.get 1 = .row 76 1 k (λj _ => .ptr (8 * j + 24) 0)) (hT : ∀ p, (Yz k A T2 p).nx <= (Yy k A C e p (S p)).nx /\ qB (Yz k A T2 p).nx (Yy k A C e p (S p)) (Yz k A T2 p).st) : ae f us (CX k C e) (λv t => v = r /\ t = T2) := by
  refine auQ (i := 1) (E := 76) (s := 1) (n := k) (A := A) (g := λj _ => .ptr (8 * j + 24) 0) (q := λj => 8 * j + 24) tg (λ_ _ => rfl) rfl ?_ h1 (λp => ?_)
  · intro j hj;unfold Tag at sW;rcases sW with ⟨rfl,rfl⟩|⟨rfl,rfl⟩|⟨rfl,rfl⟩|⟨rfl,rfl⟩|⟨rfl,rfl⟩|⟨rfl,rfl⟩|⟨rfl,rfl⟩|⟨rfl,rfl⟩|⟨rfl,rfl⟩|⟨rfl,rfl⟩|⟨rfl,rfl⟩|⟨rfl,rfl⟩
    all_goals
      rcases j with _ | _ | _ | _ | _ | j
      all_goals first | exact ⟨23, _, rfl⟩ | omega
  · have hn : ik (Fj k A) = true := tg;have hs : rY (Fj k A) (8 * k + 26) = true := tg;have h5 : bZ (Fj k A) (8 * A + 24) = some 5 := tg;have h13 : bZ (Fj k A) (8 * k + 24) = some 13 := tg;have vJ : bZ (Fj k A) (8 * k + 25) = some 14 := tg;refine atO (ae.frame (aC := Fj k A) (K := λv t => v = o8 (Fj k A) (8 * k + 26) r /\ t = Yy k A C e p (S p)) (h p) hn (I4 hs) rfl (ha _ rfl h5 h13 vJ) Ed (λv t h12 => by obtain ⟨h1, h2⟩ := h12; subst h1 h2; exact ⟨rfl, rfl⟩)) hx (λv t h12 => ?_);obtain ⟨h1, h2⟩ := h12;subst h1 h2;exact ⟨(hT p).1, hr _ _, (hT p).2⟩
theorem ato {k A : Nat} (sW : Tag k A) {f : Nat} {us uj : List V} {r : V} {C C' : aF} {n' : az} {e : bT} (hC : C' = ⟨λj => bif Nat.beq j A then n' else C.nd j, C'.ax, C'.calls, C'.steps⟩) (h : ∀ p, ae f uj (SX k A p C (C.at A) e) (λv t => v = r /\ t = SX k A p C' n' e)) (ha : ∀ φ : Nat -> Option Nat, φ 0 = some 0 -> φ (8 * A + 24) = some 5 -> φ (8 * k + 24) = some 13 -> φ (8 * k + 25) = some 14 -> kS 15 φ us uj) (hr : ∀ (φ : Nat -> Option Nat) (N : Nat), VW N (dO φ r) r) : ae f us (CX k C e) (λv t => v = r /\ t = CX k C' e) := by
  obtain ⟨Oz, afq, calls', steps'⟩ := C';have hC : Oz = λj => bif Nat.beq j A then n' else C.nd j := gz aF.nd hC
  subst hC;exact atP sW h ha hr (bu _) tg (λp => TC)
section
attribute [local irreducible] ae
theorem Xm(x:kL)(hz:x.c.chunks.length<=1000):aQ 50 [afJ x] (afJ x):=by
 refine asz Tryz.func50 λX=>?_
 (repeat' (first|((with_reducible refine dI ?_);(refine oz ?_))|((conv=>whnf);first|(with_reducible refine dI ?_)|refine asA (IP x.c.chunks.length (λj _=>iD (x.c.chunks.getD j 0)) (by omega)) ?_|refine ag.a ?_|refine Fin.tell (asK ?_))))<;>try exact aB
 all_goals (try(repeat' (first|exact tv|exact qV|refine an ?_ ?_)))
structure Ol (n:az) (c:aI):Prop where
 hz:nZ c
 hv : -1000000<=n.st.version/\n.st.version<=1000000
 hb:n.fD.length<=1000
 hl:n.ah.log.length<=1000
 hn:n.aA.down=false->vI n
 hL:fZ c n.st.version->¬(64<(n.ah.log.length:Int)+1)->lM n.ah [(⟨3,(n.ah.log.length:Int)+1,n.ah.term,gU c⟩:aT)]
theorem amF{n:az}{c:aI}(h:Ol n c):ae 60 [.ptr 0 0,jI c] (NS n) (λv t=>v=bQ [iV (oD n c).2.1,iV (oD n c).2.2.1,iV (oD n c).2.2.2]/\t=NS (oD n c).1):=amE n c h.hz h.hv h.hb h.hl h.hn h.hL
theorem abC{α:Type}{l:List α}{x:α}:l.length+1=(l++[x]).length:=by rw[bW];rfl
def Sv(C:aF)(e:bT)(num term:Int):kL:=⟨e.a,num,term,C.steps,0,e.c,false,.z⟩
def vC(C:aF)(A:Nat)(e:bT):aF×Int:=
 bif !decide ((oD (C.at A) e.c).2.2.2=0) then (C.put A (oD (C.at A) e.c).1,(oD (C.at A) e.c).2.2.2)
 else ({ C.put A (oD (C.at A) e.c).1 with calls:=C.calls++[Sv C e (oD (C.at A) e.c).2.1 (oD (C.at A) e.c).2.2.1] },0)
theorem uk{N A k:Nat}{p:Nat->Value}(h:Nat.blt 5 N=true):af N (.row 76 1 k (gx A (λ_ _=>.ptr 5 0) p)) (.row 76 1 k (gx A (λ_ _=>.ptr 5 0) p)):=as2 λj hj i hi=>by
 unfold gx;cases Nat.beq j A
 ·exact tv
 ·exact lS h
theorem Bv{k A:Nat}{p:Nat->Value}{C:aF}{n:az}:mJ 13 (Zu k A p C n):=
 ⟨⟨nb rfl,Qh qD⟩,⟨nb rfl,λj hj i hi=>by
  unfold gx;cases Nat.beq j A
  ·exact tv
  ·show 5<13;decide⟩,⟨nb rfl,VA qD⟩,⟨nb rfl,λj hj k hk=>True.intro⟩,⟨nb rfl,λj hj k hk=>True.intro⟩,⟨nb rfl,Vy qD⟩,⟨nb rfl,VP qD⟩,⟨nb rfl,λj hj k hk=>True.intro⟩,⟨nb rfl,λj hj k hk=>True.intro⟩,⟨nb rfl,λj hj k hk=>True.intro⟩,⟨nb rfl,λj hj k hk=>True.intro⟩,⟨nb rfl,λj hj k hk=>True.intro⟩,⟨nb rfl,λj hj k hk=>True.intro⟩,tv⟩
def KF(k A:Nat)(p:Nat->Value)(n:az)(q:aF×Int)(v:V)(t:ST):Prop:=v=iV q.2/\t=S1 k A p q.1 n
theorem KF.of{t0:ST}{X:Cx t0}{v:V}{t:ST}{k A:Nat}{p:Nat->Value}{n:az}{a q:aF×Int}(e:q=a)(h:Fin X v t (KF k A p n a)):Fin X v t (KF k A p n q):=e▸h
theorem akE(k A:Nat)(p:Nat->Value)(C:aF)(e:bT)(H:Ol (C.at A) e.c)(hc:C.calls.length<=1000)(hz:e.c.chunks.length<=1000):ae 28 [.ptr 0 0,.ptr 5 0,nX e] (S1 k A p C (C.at A)) (KF k A p (oD (C.at A) e.c).1 (vC C A e)):=by
 refine asz Tryz.func28 λX=>?_
 (repeat' (first|((with_reducible refine dI ?_);first|refine oz ?_|refine asD 4 [17,18,21] [(0,2,false,[]),o2,o2,o2,o2,o0,o0,o0,o0,o0,o0,o0,o0,o0,o0,o0,o0,o1,(1,1,true,[]),(2,2,false,[]),(2,2,false,[]),(2,2,true,[])] ?_)|((conv=>whnf);first|(with_reducible refine dI ?_)|refine mc ?_ ?_|refine asH [5,6,7,8,9,10,11,12] (amF H) ?_|refine asN (Xm (Sv C e (oD (C.at _) e.c).2.1 (oD (C.at _) e.c).2.2.1) hz) ?_|refine ai.mk (λh=>?_) (λh=>?_)|refine ag.a ?_|refine KF.of (dF h) (asC qN qN qV ?_)|refine KF.of (bz h) (asC qN qN qV ?_)|refine ag.mk ?_ ?_)))<;>(try(refine dh.mk ?_;repeat' (first|exact tv|((conv=>whnf);first|exact rfl|refine asA (Xm (Sv C e (oD (C.at _) e.c).2.1 (oD (C.at _) e.c).2.2.1) hz) ?_|refine an ?_ ?_|refine ag.mk ?_ ?_))))
 all_goals try exact aB
 all_goals (try(repeat' (first|exact tv|refine an ⟨nb rfl,?_⟩ ?_|exact af.row rfl fv|exact uk rfl|refine asE rfl (λk hk=>asB ?_)|refine af.row ?_ (λj hj k hk=>asB ?_))))
 all_goals first|exact kk|exact abC|(have hk:k<4:=hk;rcases k with _|_|_|_|k <;> first|exact cm qV|exact cm qW|exact cm (vq (gz (V.row 4) abC) qN))|(refine cm (oq (C:=uf) (z:=.z) rfl hj fr (λj hj=>?_));obtain rfl:j=0:=Nat.lt_one_iff.1 hj;have hk:k<16:=hk;rcases k with _|_|_|_|_|_|_|_|_|_|_|_|_|_|_|_|k <;> first|exact qV|omega)
theorem aio(C:aF)(A:Nat)(e:bT):(vC C A e).1=⟨λj=>bif Nat.beq j A then (oD (C.at A) e.c).1 else C.nd j,(vC C A e).1.ax,(vC C A e).1.calls,(vC C A e).1.steps⟩:=by
 unfold vC;cases !decide ((oD (C.at A) e.c).2.2.2=0) <;> rfl
theorem asV{φ:Nat->Option Nat}{N:Nat}{x:D}:VW N (dO φ (.d x)) (.d x):=vq rfl tv
theorem asR{φ:Nat->Option Nat}{i j o N:Nat}(h:φ i=some j)(hj:j<N):VW N (dO φ (.ptr i o)) (.ptr j o):=vq (by simp only[dO,h]) hj
end
section
attribute [local irreducible] ae
theorem akp(k A:Nat)(p:Nat->Value)(C:aF)(n:az)(l:List aP)(e:Int)(hl:l.length<=1000)(hx:∀ x∈l,jJ x)(hp:y8 C.ax):ae 23 [.ptr 0 0,.d (gu l),iV e] (S1 k A p C n) (λv t=>v=iV e/\t=S1 k A p { C with ax:=lL C.ax l } n):=by
 refine asz Tryz.func23 λX=>?_
 (repeat' (first|((with_reducible refine dI ?_);(refine oz ?_))|((conv=>whnf);first|(with_reducible refine dI ?_)|refine asH [2,3] (Ws C.ax l hl hx hp) ?_|refine ag.a ?_|refine asC qN qN qV ?_)))<;>try exact aB
 all_goals (try(repeat' (first|exact tv|refine an ⟨nb rfl,?_⟩ ?_|exact yw rfl|exact vY rfl|exact af.row rfl fv|exact uk rfl|refine asE rfl (λk hk=>asB ?_))))
 all_goals exact kk
theorem aul{f:Nat}{args args':List V}{st:ST}{l l1:List (Nat×aG)}{n:Nat}{r:V}{K:V->ST->Prop}(q:Nat)(h:ae f args' ⟨l,n⟩ (λv t=>v=r/\t=⟨l1,n⟩))(hst:st.st.drop q=l)(hex:EW n (st.st.take q)=true)(hlt:rY (kF (st.st.take q)) st.nx=true)(hn:Nat.ble n st.nx=true)(hd:ik (kF l)=true)(hl:mJ n l)(hl1:mJ n l1)(hr:iO (λi=>i<n) r)(hc:FK st.nx (st.st.take q))(ha:kS n (wQ n) args args')(hk:K r ⟨st.st.take q++l1,st.nx⟩):bn f args st K:=bn.mk _ _ hk
theorem LW{e:bT}:FK 15 [(14,wY e),(13,wZ)]:=⟨λk hk=>True.intro,λk hk=>(show 0<15 from nb rfl),tv⟩
structure ES (p:Nt) (l:List aP):Prop where
 hl:l.length<=1000
 hx:∀ x∈l,jJ x
 hp:y8 p
theorem Qg{k A:Nat}{p:Nat->Value}{C:aF}{n:az}{l:List aP}{e:Int}(h:ES C.ax l):ae 23 [.ptr 0 0,.d (gu l),iV e] (S1 k A p C n) (λv t=>v=iV e/\t=S1 k A p { C with ax:=lL C.ax l } n):=akp k A p C n l e h.hl h.hx h.hp
theorem akF(k A:Nat)(p:Nat->Value)(C:aF)(n:az)(e:bT)(m:Nat)(hm:n.many=m)(h5:m<=5)(hd:n.aA.down=false->n.dn=2->∀ d∈(gY n m),wI n d)(hs:ES C.ax (mf n m).1):ae 25 [.ptr 5 0,.ptr 13 0] (SX k A p C n e) (λv t=>v=iV (mf n m).2/\t=SX k A p { C with ax:=lL C.ax (mf n m).1 } n e):=by
 refine asz Tryz.func25 λX=>?_
 (repeat' (first|((with_reducible refine dI ?_);first|refine oz ?_|refine asD 1 [2,5] [o2,o0,o1,o3,o3,(1,1,true,[]),(2,2,false,[])] ?_)|((conv=>whnf);first|(with_reducible refine dI ?_)|refine mc ?_ ?_|refine as3 [5,6,7,8,9,10,11,12] (Qz n m hm h5 hd) ?_|refine atx (args':=[.ptr 0 0,.d (gu (mf n m).1),iV (mf n m).2]) (SX k A p C n e) rfl (by(repeat' (first|exact tv|refine an ⟨nb rfl,?_⟩ ?_|exact af.row rfl fv|exact uk rfl|refine asE rfl (λk hk=>asB ?_)));all_goals first|exact cm qV|exact cm qW|exact kk) vw (aul 2 (Qg (e:=(mf n m).2) hs) rfl rfl rfl rfl rfl Bv Bv trivial LW vw ?_)|refine asC qN qN qV ?_)))<;>(try(refine dh.mk ?_;repeat' (first|exact tv|((conv=>whnf);first|exact rfl|refine asH [5,6,7,8,9,10,11,12] (Qz n m hm h5 hd) ?_|refine atl (args':=[.ptr 0 0,.d (gu (mf n m).1),iV (mf n m).2]) (SX k A p C n e) rfl (by(repeat' (first|exact tv|refine an ⟨nb rfl,?_⟩ ?_|exact af.row rfl fv|exact uk rfl|refine asE rfl (λk hk=>asB ?_)));all_goals first|exact cm qV|exact cm qW|exact kk) vw (atw 2 (Qg (e:=(mf n m).2) hs) rfl rfl rfl rfl rfl Bv Bv trivial LW vw ?_)|refine an ?_ ?_|refine ag.mk ?_ ?_))))
 all_goals try exact aB
 all_goals (try(repeat' (first|exact tv|refine an ⟨nb rfl,?_⟩ ?_|exact yw rfl|exact vY rfl|exact af.row rfl fv|exact uk rfl|refine asE rfl (λk hk=>asB ?_))))
 all_goals first|exact cm qV|exact cm qW|exact kk
theorem akB(k A:Nat)(p:Nat->Value)(C:aF)(n:az)(e:bT):ae 31 [.ptr 5 0,.ptr 14 0] (SX k A p C n e) (λv t=>v=iV 0/\t=SX k A p C (G7 n e.b) e):=by
 refine asz Tryz.func31 λX=>?_
 (repeat' (first|((with_reducible refine dI ?_);(refine oz ?_))|((conv=>whnf);first|(with_reducible refine dI ?_)|refine asH [5,6,7,8,9,10,11,12] (amB n e.b) ?_|refine ag.a ?_|refine asC qN qN qV ?_)))<;>try exact aB
 all_goals (try(repeat' (first|exact tv|refine an ⟨nb rfl,?_⟩ ?_|exact af.row rfl fv|exact uk rfl|refine asE rfl (λk hk=>asB ?_))))
 all_goals first|exact cm qV|exact cm qW|exact kk
theorem ain(k A:Nat)(p:Nat->Value)(C:aF)(n:az)(e:bT)(hd:n.aA.ok)(hb : -9223372036854775808<=e.b):ae 33 [.ptr 5 0,.ptr 14 0] (SX k A p C n e) (λv t=>v=iV 0/\t=SX k A p C (GL n e.b) e):=by
 refine asz Tryz.func33 λX=>?_
 (repeat' (first|((with_reducible refine dI ?_);(refine oz ?_))|((conv=>whnf);first|(with_reducible refine dI ?_)|refine asH [5,6,7,8,9,10,11,12] (ajx n e.b hd hb) ?_|refine ag.a ?_|refine asC qN qN qV ?_)))<;>try exact aB
 all_goals (try(repeat' (first|exact tv|refine an ⟨nb rfl,?_⟩ ?_|exact af.row rfl fv|exact uk rfl|refine asE rfl (λk hk=>asB ?_))))
 all_goals first|exact cm qV|exact cm qW|exact kk
theorem akD(k A:Nat)(p:Nat->Value)(C:aF)(e:bT)(H:Ol (C.at A) e.c)(hc:C.calls.length<=1000)(hz:e.c.chunks.length<=1000):ae 27 [.ptr 5 0,.ptr 13 0,.ptr 14 0] (SX k A p C (C.at A) e) (λv t=>v=iV (vC C A e).2/\t=SX k A p (vC C A e).1 (oD (C.at A) e.c).1 e):=by
 refine asz Tryz.func27 λX=>?_
 (repeat' (first|((with_reducible refine dI ?_);(refine oz ?_))|((conv=>whnf);first|(with_reducible refine dI ?_)|refine atw 2 (akE k A p C e H hc hz) rfl rfl rfl rfl rfl Bv Bv trivial LW vw ?_|refine ag.a ?_|refine asC qN qN qV ?_)))<;>try exact aB
 all_goals (try(repeat' (first|exact tv|refine an ⟨nb rfl,?_⟩ ?_|exact yw rfl|exact vY rfl|exact af.row rfl fv|exact uk rfl|refine asE rfl (λk hk=>asB ?_))))
 all_goals first|exact cm qV|exact cm qW|exact kk
end
section
attribute [local irreducible] ae
theorem akC(C:aF)(hl:C.calls.length<=1000)(hc:∀ x∈C.calls,x.c.chunks.length<=1000):ae 19 [.ptr 0 0] (CS 3 C) (λv t=>v = .d (ae5 C.calls)/\t=CS 3 C):=by
 refine asz Tryz.func19 λX=>?_
 (repeat' (first|((with_reducible refine dI ?_);first|refine asW (c:=.seq (.region 2 _ _) _) 3 69 (λj k=>.d (uf (([]:List kL).getD j .z) k)) rfl rfl qN (T.seq ?_)|refine oz ?_|refine asI C.calls.length (λi (a:Unit)=>⟨22,[(0,.ptr 0 0),(3,.row 48 (C.calls.take i).length),(9,.row 4 C.calls.length),(10,iV C.calls.length),(11,iV i)],⟨(48,dw 69 16 uf .z (C.calls.take i))::CL 3 C,49⟩⟩) (λ_ _=>True) () ?_ True.intro (λi a hi hp=>?_))|((conv=>whnf);first|(with_reducible refine dI ?_)|refine aU () ⟨?_,tv,?_⟩|refine asA (Xm (C.calls.getD i .z) (hc _ (kM (z:=kL.z) (l:=C.calls) (i:=i) (by have h9:=aS (aj:decide ((i:Int)<(C.calls.length:Int))=true);omega)))) ?_|refine ai.mk (λh=>?_) (λh=>?_)|refine ag.a ?_|(rw[show C.calls.take i=C.calls from lW (by have h9:=bJ (aj:decide ((i:Int)<(C.calls.length:Int))=false);omega)];refine Fin.dC (i:=48) (h:=λj=>uf (C.calls.getD j .z)) (jB.of qN rfl fr) (asC qN qN (vq jR trivial) ?_))|refine ag.mk ?_ ?_)))<;>try exact aB
 all_goals (try(refine aV.mk rfl qN qN ?_ ?_ <;> repeat' (first|exact tv|refine an qW ?_|refine an qV ?_|refine an (vq (gz (V.row _) ?_) qN) ?_|refine an ⟨nb rfl,?_⟩ ?_|exact yw rfl|exact vY rfl|exact af.row rfl fv|exact jO rfl|refine asE rfl (λk hk=>asB ?_)|refine an ?_ ?_)))
 all_goals (try(repeat' (first|exact tv|refine an ⟨nb rfl,?_⟩ ?_|exact af.row rfl fv|exact jO rfl|refine asE rfl (λk hk=>asB ?_))))
 all_goals first|exact rfl|exact kk|(have h9:i<C.calls.length:=(by have h9:=aS (aj:decide ((i:Int)<(C.calls.length:Int))=true);omega);first|omega|(refine⟨rfl,?_,nb rfl⟩;omega)|(refine⟨rfl,?_⟩;rw[dP];omega)|(intro j hj k hk;rw[lX .z h9];(have hk:k<16:=hk;refine(oq rfl hj fr (λj hj=>?_));obtain rfl:j=0:=Nat.lt_one_iff.1 hj;rcases k with _|_|_|_|_|_|_|_|_|_|_|_|_|_|_|_|k;exact qV;exact qV;exact qV;exact qV;exact qV;exact qV;exact qV;exact qV;exact qV;exact qV;exact qV;exact qV;exact qV;exact qV;exact qV;exact qV;omega))|(rw[dP,dP];omega))
end
end Go.Proofs.YtnibdnahojjcgaaGreat
