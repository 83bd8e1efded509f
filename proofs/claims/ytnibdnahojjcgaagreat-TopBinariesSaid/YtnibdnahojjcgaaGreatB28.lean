/- A part of the proof. -/
import Derived.Test.YtnibdnahojjcgaaGreatB18
import Derived.Test.YtnibdnahojjcgaaGreatB24
import Derived.Test.YtnibdnahojjcgaaGreatB25
import Derived.Test.YtnibdnahojjcgaaGreatB26
namespace Go.Proofs.YtnibdnahojjcgaaGreat
set_option maxRecDepth 100000
set_option maxHeartbeats 16000000
set_option linter.unusedVariables false
set_option linter.unusedSimpArgs false
open Go.RowKit
theorem Xd(s:bP)(r:aT)(h0:iR r=true)(hf:mF s r=true)(hl:s.log.length<=200):aQ 102 [jc s,yc r] (bQ [jc (qh s r),iV 0]):=by
 have h:=yH h0;rcases(show r.kind=1\/r.kind=2\/r.kind=3\/r.kind=4 by omega) with e|e|e|e
 ·rw[ap5 e];exact aly s r h0 e hf hl
 ·rw[ap4 e];exact alx s r h0 e hf hl
 ·rw[ap3 e];exact alv s r h0 e hf hl
 ·rw[ap2 e];exact alu s r h0 e hf hl
structure lM (s:bP) (L:List aT):Prop where
 ok:L.all iR=true
 st:(steps s L).2=0
 log:s.log.length<=70
 len:L.length<=100
def sJ(d:dJ)(s:bP)(L:List aT):bP×Int×dJ:=
 bif decide ((L.length:Int)=0) then (s,0,d)
 else bif decide (65536<d.b.length+(bY L).length) then (s,20,d)
 else bif d.mD then (s,30,(d.append (bY L)).sync)
 else ((steps s L).1,0,(d.append (bY L)).sync)
theorem aiU{s:bP}{r:aT}(h:(kQ s r).2=0):iR r=true/\mF s r=true/\kQ s r=(qh s r,0):=by
 unfold kQ at h ⊢;rcases h1:iR r with _|_
 ·rw[h1]at h;simp at h
 ·rcases h2:mF s r with _|_
  ·rw[h1,h2]at h;simp at h
  ·simp
theorem CY{s:bP}{L:List aT}(h:(steps s L).2=0){i:Nat}(hi:i<L.length):(steps s (L.take i)).2=0/\iR (L.getD i .z)=true/\mF (steps s (L.take i)).1 (L.getD i .z)=true/\(steps s (L.take (i+1))).1=qh (steps s (L.take i)).1 (L.getD i .z):=by
 have h1:=Us s L i h;have h2:=Us s L (i+1) h;rw[lX .z hi]at h2 ⊢;rw[agA _ _ _ h1]at h2 ⊢;by_cases h3:(kQ (steps s (L.take i)).1 (L.getD i .z)).2=0
 ·obtain⟨a,b,c⟩:=aiU h3;rw[if_pos h3,c];exact⟨h1,a,b,rfl⟩
 ·rw[if_neg h3]at h2;exact au h2 h3
theorem UO{s:bP}{L:List aT}(hl:s.log.length<=70):(steps s L).1.log.length<=70:=by
 induction L generalizing s with
 |nil=>exact hl
 |cons r L ih=>
  unfold steps;split
  ·exact ih (ahv s r hl)
  ·exact hl
theorem XK{L:List aT}(h:L.all iR=true){i:Nat}(hi:i<L.length):iR (L.getD i .z)=true:=List.all_eq_true.1 h _ (iT hi)
theorem ati{L:List aT}(h:L.all iR=true){i:Nat}(hi:i<L.length):bY (L.take (i+1))=bY (L.take i)++rD (mQ (L.getD i .z)):=by
 rw[lX .z hi,auI,(VM (XK h hi)).1]
theorem atV{L:List aT}(h:L.all iR=true)(i:Nat):(bY (L.take i)).length<=i*211:=by
 have:=ahu (L.take i) (by
  rw[zF];intro x hx;exact List.all_eq_true.1 h x (List.mem_of_mem_take hx))
 have h2:(L.take i).length<=i:=by rw[dP];omega
 omega
theorem li{i n:Nat}(h:decide ((i:Int)<(n:Int))=true:=by assumption):i<n:=by have:=aS h;omega
theorem aex{d:dJ}(hd:d.ok){x:List UInt8}(h:d.b.length+x.length<=65536):(d.append x).ok:=⟨hd.s0,by have:=hd.s1;show d.uZ<=((d.b++x).length:Nat);rw[bW];omega,by show(d.b++x).length<=65536;rw[bW];omega,by show(d.bU.drop x.length).length<=100000;have:=hd.bU;rw[fE];omega⟩
theorem Wi{s:bP}{L:List aT}(hL:lM s L):(bY L).length<=100000:=by
 have:=ahu L hL.ok;have:=hL.len;omega
theorem afm{d:dJ}{x:List UInt8}(h:d.mD=true):(d.append x).Ry=30:=by show(bif d.mD then (30:Int) else 0)=30;rw[h];rfl
theorem ark{d:dJ}{x:List UInt8}(h:d.mD=false):(d.append x).Ry=0:=by show(bif d.mD then (30:Int) else 0)=0;rw[h];rfl
theorem alU(d:dJ)(s:bP)(L:List aT)(hL:lM s L)(hd:d.ok)(h0:d.down=false)(hk : -9223372036854775808<=d.keep)(he:L.length≠0)(hfull:¬65536<d.b.length+(bY L).length)(hdm:d.mD=true):ae 94 [.ptr 0 0,jc s,.d (iq L)] (DS d) (λrv rt=>rv=(bQ [jc (s),iV 30])/\rt=(DS (d.append (bY L)).sync)):=by
 refine asz Tryz.func94 λX=>?_
 (repeat' (first|refine T.cut (x:=.seq (.region 2 _ _) _) ⟨90,[(0,.ptr 0 0),(2,.d (iq L)),(4,.ptr 2 0),(6,.ptr 3 0),(7,iV 0),(8,.row 4 (bY L).length)],⟨[(0,.blk 5 (uI d)),(1,iy (d.b++d.bU)),(2,.blk 4 (λk=>.d (kW s k))),(3,.blk 4 (λ_=>.top)),(4,iy (bY L))],5⟩⟩ ?_ (T.dC (i:=4) (h:=λq=>(λb _=>fO b) ((bY L).getD q 0)) (jB.of qN rfl fr) (T.le ⟨90,[(0,.ptr 0 0),(2,.d (iq L)),(4,.ptr 2 0),(6,.ptr 3 0),(7,iV 0),(8,.d (dB (bY L)))],⟨[(0,.blk 5 (uI d)),(1,iy (d.b++d.bU)),(2,.blk 4 (λk=>.d (kW s k))),(3,.blk 4 (λ_=>.top))],5⟩⟩ ?_ ?_))|refine T.cut (x:=.seq (.region 14 _ _) _) ⟨90,[(0,.ptr 0 0),(2,.d (iq L)),(4,.ptr 2 0),(6,.ptr 3 0),(7,iV 0),(8,.d (dB (bY L))),(14,.ptr 5 0)],⟨[(0,.blk 5 (uI d)),(1,iy (d.b++d.bU)),(2,.blk 4 (λk=>.d (kW s k))),(3,.blk 4 (λ_=>.top)),(5,.blk 4 (λk=>.d (kW (steps s L).1 k)))],6⟩⟩ ?_ ?_|refine asW 8 5 (λj _=>.d (fO (([]:List UInt8).getD j 0))) rfl rfl qN (asI (c:=.seq (.region 3 _ _) _) L.length (λi (a:List UInt8)=>⟨90,[(0,.ptr 0 0),(2,.d (iq L)),(4,.ptr 2 0),(6,.ptr 3 0),(7,iV 0),(8,.row 4 a.length),(20,.d (iq L)),(21,iV L.length),(22,iV i)],⟨[(0,.blk 5 (uI d)),(1,iy (d.b++d.bU)),(2,.blk 4 (λk=>.d (kW s k))),(3,.blk 4 (λ_=>.top)),(4,iy a)],5⟩⟩) (λi a=>a=bY (L.take i)) [] ?_ ?_ (λi a hi hp=>?_))|refine asI (c:=.seq (.region 15 _ _) _) L.length (λi (a:bP)=>⟨90,[(0,.ptr 0 0),(2,.d (iq L)),(4,.ptr 2 0),(6,.ptr 3 0),(7,iV 0),(8,.d (dB (bY L))),(14,.ptr 5 0),(52,.d (iq L)),(53,iV L.length),(54,iV i)],⟨[(0,.blk 5 (uI d)),(1,iy (d.b++d.bU)),(2,.blk 4 (λk=>.d (kW s k))),(3,.blk 4 (λ_=>.top)),(5,.blk 4 (λk=>.d (kW a k)))],6⟩⟩) (λi a=>a=(steps s (L.take i)).1) s ?_ ?_ (λi a hi hp=>?_)|refine aU (qh a (L.getD i .z)) ⟨?_,?_,?_⟩|refine aU (a++rD (mQ (L.getD i .z))) ⟨?_,?_,?_⟩|refine T.seq ?_|refine T.region ?_|refine T.cond ?_|refine T.block ?_|refine T.ret ?_|refine T.skip ?_|refine T.exit ?_|refine ae.tell (GI (L.getD i .z) (XK hL.ok li)) ⟨(asK (by repeat' (first|exact tv|exact qV|refine an ?_ ?_))),tv⟩ ?_|refine ae.tell (atM (mQ (L.getD i .z)) (VM (XK hL.ok li)).2) vw ?_|refine ae.tell (GU s (by have:=hL.log;omega)) ⟨(asK (by repeat' (first|exact tv|exact qV|refine an ?_ ?_))),tv⟩ ?_|refine ae.tell (Xd a (L.getD i .z) (CY hL.st li).2.1 (by rw[hp];exact(CY hL.st li).2.2.1) (by rw[hp];have:=UO (L:=L.take i) hL.log;omega)) ⟨(asK (by repeat' (first|exact tv|exact qV|refine an ?_ ?_))),(asK (by repeat' (first|exact tv|exact qV|refine an ?_ ?_))),tv⟩ ?_|refine asO [0,1] (acv d (bY L) hd (Wi hL) h0 (by omega)) rfl rfl rfl vw (by repeat' (first|exact tv|refine an ⟨_,rfl,af.blk ?_⟩ ?_|refine an ⟨_,rfl,af.row rfl fv⟩ ?_|exact qV|exact qW|refine an ?_ ?_)) ?_|refine asO [0,1] (adR (d.append (bY L)) (aex hd (by omega)) h0 hk) rfl rfl rfl vw (by repeat' (first|exact tv|refine an ⟨_,rfl,af.blk ?_⟩ ?_|refine an ⟨_,rfl,af.row rfl fv⟩ ?_|exact qV|exact qW|refine an ?_ ?_)) ?_|refine ai.mk (λh=>?_) (λh=>au h (by rw[afm hdm];decide))|refine ai.n (λh=>?_)|refine ai.mk (λh=>?_) (λh=>?_)|refine ag.mk qN ?_|exact asC qN qN (asG [jc (s),iV 30] rfl fr ⟨asK vw,vq (gz iV (afm hdm)) tv,tv⟩) ⟨⟨nb rfl,af.blk vw⟩,⟨nb rfl,af.row rfl fv⟩,tv⟩|refine ag.mk ?_ ?_))<;>(try(refine aV.mk rfl qN qN ?_ ?_ <;> repeat' (first|exact tv|exact qV|exact vq jR trivial|refine vq (gz (λx:bP=>V.d (jg x.log)) ?_) tv|exact VW.top|exact qW|refine vq (gz (V.row _) ?_) qN|refine vq (gz iV ?_) tv|refine an ⟨nb rfl,af.blk ?_⟩ ?_|refine an ⟨nb rfl,af.row ?_ (λj hj k hk=>asB ?_)⟩ ?_|refine an ?_ ?_)))
 all_goals first|exact rfl|exact cm qV|exact li|(have h8:=aS (aj:decide ((i:Int)<(L.length:Int))=true);omega)|(have h9:=hL.len;simp only[dQ];omega)|(rw[hp];exact(CY hL.st li).2.2.2.symm)|(have e:a=bY L:=(by rw[hp,lW (by have h8:=bJ (aj:decide ((i:Int)<(L.length:Int))=false);omega)]);first|(rw[e];done)|(rw[e];exact cm qV))|(have e:a=(steps s L).1:=(by rw[hp,lW (by have h8:=bJ (aj:decide ((i:Int)<(L.length:Int))=false);omega)]);(rw[e];done))|(have h8:=atV hL.ok (i+1);rw[ati hL.ok li,bW,<-hp]at h8;have h9:=hL.len;exact⟨rfl,by omega⟩)|(rw[hp];exact(ati hL.ok li).symm)|(have hk:k<1:=hk;obtain rfl:k=0:=Nat.lt_one_iff.1 hk;refine cm (vq ?_ tv);exact A7 (C:=λb _=>fO b) (z:=0) rfl hj fr fr)|exact List.length_append.symm
theorem alV(d:dJ)(s:bP)(L:List aT)(hL:lM s L)(hd:d.ok)(h0:d.down=false)(hk : -9223372036854775808<=d.keep)(he:L.length≠0)(hfull:¬65536<d.b.length+(bY L).length)(hdm:d.mD=false):ae 94 [.ptr 0 0,jc s,.d (iq L)] (DS d) (λrv rt=>rv=(bQ [jc ((steps s L).1),iV 0])/\rt=(DS (d.append (bY L)).sync)):=by
 refine asz Tryz.func94 λX=>?_
 (repeat' (first|refine T.cut (x:=.seq (.region 2 _ _) _) ⟨90,[(0,.ptr 0 0),(2,.d (iq L)),(4,.ptr 2 0),(6,.ptr 3 0),(7,iV 0),(8,.row 4 (bY L).length)],⟨[(0,.blk 5 (uI d)),(1,iy (d.b++d.bU)),(2,.blk 4 (λk=>.d (kW s k))),(3,.blk 4 (λ_=>.top)),(4,iy (bY L))],5⟩⟩ ?_ (T.dC (i:=4) (h:=λq=>(λb _=>fO b) ((bY L).getD q 0)) (jB.of qN rfl fr) (T.le ⟨90,[(0,.ptr 0 0),(2,.d (iq L)),(4,.ptr 2 0),(6,.ptr 3 0),(7,iV 0),(8,.d (dB (bY L)))],⟨[(0,.blk 5 (uI d)),(1,iy (d.b++d.bU)),(2,.blk 4 (λk=>.d (kW s k))),(3,.blk 4 (λ_=>.top))],5⟩⟩ ?_ ?_))|refine T.cut (x:=.seq (.region 14 _ _) _) ⟨90,[(0,.ptr 0 0),(2,.d (iq L)),(4,.ptr 2 0),(6,.ptr 3 0),(7,iV 0),(8,.d (dB (bY L))),(14,.ptr 5 0)],⟨[(0,.blk 5 (uI d)),(1,iy (d.b++d.bU)),(2,.blk 4 (λk=>.d (kW s k))),(3,.blk 4 (λ_=>.top)),(5,.blk 4 (λk=>.d (kW (steps s L).1 k)))],6⟩⟩ ?_ ?_|refine asW 8 5 (λj _=>.d (fO (([]:List UInt8).getD j 0))) rfl rfl qN (asI (c:=.seq (.region 3 _ _) _) L.length (λi (a:List UInt8)=>⟨90,[(0,.ptr 0 0),(2,.d (iq L)),(4,.ptr 2 0),(6,.ptr 3 0),(7,iV 0),(8,.row 4 a.length),(20,.d (iq L)),(21,iV L.length),(22,iV i)],⟨[(0,.blk 5 (uI d)),(1,iy (d.b++d.bU)),(2,.blk 4 (λk=>.d (kW s k))),(3,.blk 4 (λ_=>.top)),(4,iy a)],5⟩⟩) (λi a=>a=bY (L.take i)) [] ?_ ?_ (λi a hi hp=>?_))|refine asI (c:=.seq (.region 15 _ _) _) L.length (λi (a:bP)=>⟨90,[(0,.ptr 0 0),(2,.d (iq L)),(4,.ptr 2 0),(6,.ptr 3 0),(7,iV 0),(8,.d (dB (bY L))),(14,.ptr 5 0),(52,.d (iq L)),(53,iV L.length),(54,iV i)],⟨[(0,.blk 5 (uI d)),(1,iy (d.b++d.bU)),(2,.blk 4 (λk=>.d (kW s k))),(3,.blk 4 (λ_=>.top)),(5,.blk 4 (λk=>.d (kW a k)))],6⟩⟩) (λi a=>a=(steps s (L.take i)).1) s ?_ ?_ (λi a hi hp=>?_)|refine aU (qh a (L.getD i .z)) ⟨?_,?_,?_⟩|refine aU (a++rD (mQ (L.getD i .z))) ⟨?_,?_,?_⟩|refine T.seq ?_|refine T.region ?_|refine T.cond ?_|refine T.block ?_|refine T.ret ?_|refine T.skip ?_|refine T.exit ?_|refine ae.tell (GI (L.getD i .z) (XK hL.ok li)) ⟨(asK (by repeat' (first|exact tv|exact qV|refine an ?_ ?_))),tv⟩ ?_|refine ae.tell (atM (mQ (L.getD i .z)) (VM (XK hL.ok li)).2) vw ?_|refine ae.tell (GU s (by have:=hL.log;omega)) ⟨(asK (by repeat' (first|exact tv|exact qV|refine an ?_ ?_))),tv⟩ ?_|refine ae.tell (Xd a (L.getD i .z) (CY hL.st li).2.1 (by rw[hp];exact(CY hL.st li).2.2.1) (by rw[hp];have:=UO (L:=L.take i) hL.log;omega)) ⟨(asK (by repeat' (first|exact tv|exact qV|refine an ?_ ?_))),(asK (by repeat' (first|exact tv|exact qV|refine an ?_ ?_))),tv⟩ ?_|refine asO [0,1] (acv d (bY L) hd (Wi hL) h0 (by omega)) rfl rfl rfl vw (by repeat' (first|exact tv|refine an ⟨_,rfl,af.blk ?_⟩ ?_|refine an ⟨_,rfl,af.row rfl fv⟩ ?_|exact qV|exact qW|refine an ?_ ?_)) ?_|refine asO [0,1] (adR (d.append (bY L)) (aex hd (by omega)) h0 hk) rfl rfl rfl vw (by repeat' (first|exact tv|refine an ⟨_,rfl,af.blk ?_⟩ ?_|refine an ⟨_,rfl,af.row rfl fv⟩ ?_|exact qV|exact qW|refine an ?_ ?_)) ?_|refine ai.mk (λh=>au h (by rw[ark hdm];decide)) (λh=>?_)|refine ai.n (λh=>?_)|refine ai.mk (λh=>?_) (λh=>?_)|refine ag.mk qN ?_|exact asC qN qN (asG [jc ((steps s L).1),iV 0] rfl fr vw) ⟨⟨nb rfl,af.blk vw⟩,⟨nb rfl,af.row rfl fv⟩,tv⟩|refine ag.mk ?_ ?_))<;>(try(refine aV.mk rfl qN qN ?_ ?_ <;> repeat' (first|exact tv|exact qV|exact vq jR trivial|refine vq (gz (λx:bP=>V.d (jg x.log)) ?_) tv|exact VW.top|exact qW|refine vq (gz (V.row _) ?_) qN|refine vq (gz iV ?_) tv|refine an ⟨nb rfl,af.blk ?_⟩ ?_|refine an ⟨nb rfl,af.row ?_ (λj hj k hk=>asB ?_)⟩ ?_|refine an ?_ ?_)))
 all_goals first|exact rfl|exact cm qV|exact li|(have h8:=aS (aj:decide ((i:Int)<(L.length:Int))=true);omega)|(have h9:=hL.len;simp only[dQ];omega)|(rw[hp];exact(CY hL.st li).2.2.2.symm)|(have e:a=bY L:=(by rw[hp,lW (by have h8:=bJ (aj:decide ((i:Int)<(L.length:Int))=false);omega)]);first|(rw[e];done)|(rw[e];exact cm qV))|(have e:a=(steps s L).1:=(by rw[hp,lW (by have h8:=bJ (aj:decide ((i:Int)<(L.length:Int))=false);omega)]);(rw[e];done))|(have h8:=atV hL.ok (i+1);rw[ati hL.ok li,bW,<-hp]at h8;have h9:=hL.len;exact⟨rfl,by omega⟩)|(rw[hp];exact(ati hL.ok li).symm)|(have hk:k<1:=hk;obtain rfl:k=0:=Nat.lt_one_iff.1 hk;refine cm (vq ?_ tv);exact A7 (C:=λb _=>fO b) (z:=0) rfl hj fr fr)|exact List.length_append.symm
theorem alT(d:dJ)(s:bP)(L:List aT)(hL:lM s L)(hd:d.ok)(h0:d.down=false)(hk : -9223372036854775808<=d.keep)(he:L.length≠0)(hfull:65536<d.b.length+(bY L).length)  : ae 94 [.ptr 0 0,jc s,.d (iq L)] (DS d) (λrv rt=>rv=(bQ [jc (s),iV 20])/\rt=(DS d)):=by
 refine asz Tryz.func94 λX=>?_
 (repeat' (first|refine T.cut (x:=.seq (.region 2 _ _) _) ⟨90,[(0,.ptr 0 0),(2,.d (iq L)),(4,.ptr 2 0),(6,.ptr 3 0),(7,iV 0),(8,.row 4 (bY L).length)],⟨[(0,.blk 5 (uI d)),(1,iy (d.b++d.bU)),(2,.blk 4 (λk=>.d (kW s k))),(3,.blk 4 (λ_=>.top)),(4,iy (bY L))],5⟩⟩ ?_ (T.dC (i:=4) (h:=λq=>(λb _=>fO b) ((bY L).getD q 0)) (jB.of qN rfl fr) (T.le ⟨90,[(0,.ptr 0 0),(2,.d (iq L)),(4,.ptr 2 0),(6,.ptr 3 0),(7,iV 0),(8,.d (dB (bY L)))],⟨[(0,.blk 5 (uI d)),(1,iy (d.b++d.bU)),(2,.blk 4 (λk=>.d (kW s k))),(3,.blk 4 (λ_=>.top))],5⟩⟩ ?_ ?_))|refine T.cut (x:=.seq (.region 14 _ _) _) ⟨90,[(0,.ptr 0 0),(2,.d (iq L)),(4,.ptr 2 0),(6,.ptr 3 0),(7,iV 0),(8,.d (dB (bY L))),(14,.ptr 5 0)],⟨[(0,.blk 5 (uI d)),(1,iy (d.b++d.bU)),(2,.blk 4 (λk=>.d (kW s k))),(3,.blk 4 (λ_=>.top)),(5,.blk 4 (λk=>.d (kW (steps s L).1 k)))],6⟩⟩ ?_ ?_|refine asW 8 5 (λj _=>.d (fO (([]:List UInt8).getD j 0))) rfl rfl qN (asI (c:=.seq (.region 3 _ _) _) L.length (λi (a:List UInt8)=>⟨90,[(0,.ptr 0 0),(2,.d (iq L)),(4,.ptr 2 0),(6,.ptr 3 0),(7,iV 0),(8,.row 4 a.length),(20,.d (iq L)),(21,iV L.length),(22,iV i)],⟨[(0,.blk 5 (uI d)),(1,iy (d.b++d.bU)),(2,.blk 4 (λk=>.d (kW s k))),(3,.blk 4 (λ_=>.top)),(4,iy a)],5⟩⟩) (λi a=>a=bY (L.take i)) [] ?_ ?_ (λi a hi hp=>?_))|refine asI (c:=.seq (.region 15 _ _) _) L.length (λi (a:bP)=>⟨90,[(0,.ptr 0 0),(2,.d (iq L)),(4,.ptr 2 0),(6,.ptr 3 0),(7,iV 0),(8,.d (dB (bY L))),(14,.ptr 5 0),(52,.d (iq L)),(53,iV L.length),(54,iV i)],⟨[(0,.blk 5 (uI d)),(1,iy (d.b++d.bU)),(2,.blk 4 (λk=>.d (kW s k))),(3,.blk 4 (λ_=>.top)),(5,.blk 4 (λk=>.d (kW a k)))],6⟩⟩) (λi a=>a=(steps s (L.take i)).1) s ?_ ?_ (λi a hi hp=>?_)|refine aU (qh a (L.getD i .z)) ⟨?_,?_,?_⟩|refine aU (a++rD (mQ (L.getD i .z))) ⟨?_,?_,?_⟩|refine T.seq ?_|refine T.region ?_|refine T.cond ?_|refine T.block ?_|refine T.ret ?_|refine T.skip ?_|refine T.exit ?_|refine ae.tell (GI (L.getD i .z) (XK hL.ok li)) ⟨(asK (by repeat' (first|exact tv|exact qV|refine an ?_ ?_))),tv⟩ ?_|refine ae.tell (atM (mQ (L.getD i .z)) (VM (XK hL.ok li)).2) vw ?_|refine ae.tell (GU s (by have:=hL.log;omega)) ⟨(asK (by repeat' (first|exact tv|exact qV|refine an ?_ ?_))),tv⟩ ?_|refine ae.tell (Xd a (L.getD i .z) (CY hL.st li).2.1 (by rw[hp];exact(CY hL.st li).2.2.1) (by rw[hp];have:=UO (L:=L.take i) hL.log;omega)) ⟨(asK (by repeat' (first|exact tv|exact qV|refine an ?_ ?_))),(asK (by repeat' (first|exact tv|exact qV|refine an ?_ ?_))),tv⟩ ?_|refine asO [0,1] (ait d (bY L) hd (Wi hL) h0 hfull) rfl rfl rfl vw (by repeat' (first|exact tv|refine an ⟨_,rfl,af.blk ?_⟩ ?_|refine an ⟨_,rfl,af.row rfl fv⟩ ?_|exact qV|exact qW|refine an ?_ ?_)) ?_|refine ai.n (λh=>?_)|refine asL (λh=>?_)|refine ai.mk (λh=>?_) (λh=>?_)|refine ag.mk qN ?_|exact asC qN qN (asG [jc (s),iV 20] rfl fr vw) ⟨⟨nb rfl,af.blk vw⟩,⟨nb rfl,af.row rfl fv⟩,tv⟩|refine ag.mk ?_ ?_))<;>(try(refine aV.mk rfl qN qN ?_ ?_ <;> repeat' (first|exact tv|exact qV|exact vq jR trivial|refine vq (gz (λx:bP=>V.d (jg x.log)) ?_) tv|exact VW.top|exact qW|refine vq (gz (V.row _) ?_) qN|refine vq (gz iV ?_) tv|refine an ⟨nb rfl,af.blk ?_⟩ ?_|refine an ⟨nb rfl,af.row ?_ (λj hj k hk=>asB ?_)⟩ ?_|refine an ?_ ?_)))
 all_goals first|exact rfl|exact cm qV|exact li|(have h8:=aS (aj:decide ((i:Int)<(L.length:Int))=true);omega)|(have h9:=hL.len;simp only[dQ];omega)|(rw[hp];exact(CY hL.st li).2.2.2.symm)|(have e:a=bY L:=(by rw[hp,lW (by have h8:=bJ (aj:decide ((i:Int)<(L.length:Int))=false);omega)]);first|(rw[e];done)|(rw[e];exact cm qV))|(have e:a=(steps s L).1:=(by rw[hp,lW (by have h8:=bJ (aj:decide ((i:Int)<(L.length:Int))=false);omega)]);(rw[e];done))|(have h8:=atV hL.ok (i+1);rw[ati hL.ok li,bW,<-hp]at h8;have h9:=hL.len;exact⟨rfl,by omega⟩)|(rw[hp];exact(ati hL.ok li).symm)|(have hk:k<1:=hk;obtain rfl:k=0:=Nat.lt_one_iff.1 hk;refine cm (vq ?_ tv);exact A7 (C:=λb _=>fO b) (z:=0) rfl hj fr fr)|exact List.length_append.symm
theorem alR(d:dJ)(s:bP)(hl:s.log.length<=70):ae 94 [.ptr 0 0,jc s,.d (iq [])] (DS d) (λrv rt=>rv=(bQ [jc s,iV 0])/\rt=(DS d)):=by
 refine asz Tryz.func94 λX=>?_
 repeat' (first|refine T.seq ?_|refine T.region ?_|refine T.cond ?_|refine T.block ?_|refine T.ret ?_|refine T.exit ?_|refine as5 ?_|refine TL.round ?_|refine ae.tell (atM (mQ (L.getD i .z)) (VM (XK hL.ok li)).2) vw ?_|refine ae.tell (GU s (by omega)) ⟨(asK (by repeat' (first|exact tv|exact qV|refine an ?_ ?_))),tv⟩ ?_|refine ai.n (λh=>?_)|refine asL (λh=>?_)|refine ag.mk qN ?_|exact asC qN qN (asG [jc s,iV 0] rfl fr vw) ⟨⟨nb rfl,af.blk vw⟩,⟨nb rfl,af.row rfl fv⟩,tv⟩)
theorem YO{p:Prop}[Decidable p](h:(!decide p)=true):¬p:=by simpa using h
theorem Og{p:Prop}[Decidable p](h:(!decide p)=false):p:=by simpa using h
theorem aon(d:dJ)(s:bP)(L:List aT)(hL:lM s L)(hd:d.ok)(h0:d.down=false)(hk : -9223372036854775808<=d.keep):ae 94 [.ptr 0 0,jc s,.d (iq L)] (DS d) (λv t=>v=bQ [jc (sJ d s L).1,iV (sJ d s L).2.1]/\t=DS (sJ d s L).2.2):=by
 unfold sJ;by_cases e:L.length=0
 ·obtain rfl:=uw e;exact alR d s hL.log
 ·rw[aX (show ¬((L.length:Int)=0) by omega),di];by_cases hf:65536<d.b.length+(bY L).length
  ·rw[bg hf,dR];exact alT d s L hL hd h0 hk e hf
  ·rw[aX hf,di];cases hdm:d.mD
   ·exact alV d s L hL hd h0 hk e hf hdm
   ·exact alU d s L hL hd h0 hk e hf hdm
theorem aht{d:dJ}{s:bP}{L:List aT}(h:¬(sJ d s L).2.1=0):(sJ d s L).1=s:=by
 unfold sJ at *;cases h1:decide ((L.length:Int)=0) <;> rw[h1]at h
 ·cases h2:decide (65536<d.b.length+(bY L).length) <;> rw[h2]at h
  ·cases h3:d.mD <;> rw[h3]at h
   ·exact au rfl h
   ·rfl
  ·rfl
 ·rfl
def aW(n:az)(L:List aT):az×Int:=({ n with ah:=(sJ n.aA n.ah L).1,aA:=(sJ n.aA n.ah L).2.2 },(sJ n.aA n.ah L).2.1)
structure vI (n:az):Prop where
 ok:n.aA.ok
 up:n.aA.down=false
 keep : -9223372036854775808<=n.aA.keep
def iG(n:az)(s:bP)(d:dJ)(b10 b14 b15:Bool):ST:=⟨[(0,.blk 23 (yX n)),(1,.blk 5 (bif b10 then sO d else sO n.aA)),(2,bif b10 then iy (d.b++d.bU) else iy (n.aA.b++n.aA.bU)),(3,dw 52 2 jU .z n.fF),(4,sK n.iL),(5,fM n.fD),(6,fM n.next),(7,fM n.fJ),(8,bif b14 then .blk 4 (bif b15 then (λk=>.d (kW s k)) else iE 110) else .dead)],9⟩
def aeE(n:az)(L:List aT)(s:bP)(e:Int):List V:=[.ptr 0 0,.ptr 0 0,.ptr 0 2,.ptr 1 0,.ptr 0 0,.ptr 0 0,.ptr 0 3,.ptr 0 4,jc n.ah,.d (iq L),bQ [jc s,iV e],bQ [jc s,iV e],jc s,iV e,.ptr 8 0,.top,iV e]
theorem avc{N i k n lo m:Nat}{φ:Nat->Option Nat}(h:φ i=some k)(hk:k<N):VW N (dO φ (.vw i n lo m)) (.vw k n lo m):=by
 refine vq ?_ hk;simp only[dO,h]
theorem V8{P:Nat->Prop}{s:bP}:iO P (jc s):=λk hk=>True.intro
theorem abd{P:Nat->Prop}{s:bP}{e:Int}:iO P (bQ [jc s,iV e]):=λk hk=>by
 rcases k with _|_|k
 ·exact V8
 ·exact tv
 ·exact au hk (by simp)
theorem uC {p:Prop} (h:p:=by
 (repeat' (first|refine asH [1,2] hcall ?_|exact asZ (P:=λ_=>False) (λk h=>h.elim) V8|exact asZ (P:=λ_=>False) (λk h=>h.elim) abd|exact atK rfl rfl rfl|refine xk.new ?_|exact tv|exact qV|exact as9 (hr.old _ rfl) qN|exact as9 (hr.new _ 0 rfl) qN|exact avc (hr.old _ rfl) qN|refine asG [jc s,iV e] rfl fr vw|refine asK ?_|refine ag.mk qN ?_|refine af.blk ?_|refine af.row rfl fv|refine an ?_ ?_))<;>fail):p:=h
theorem aiT(n:az)(L:List aT)(hL:lM n.ah L)(hn:vI n){X:Cx (NS n)}{id:Nat}{Q:Exit->AS->Prop}(hq:Q .normal ⟨29,ru (mW Tryz.f55 1).toList (aeE n L (sJ n.aA n.ah L).1 (sJ n.aA n.ah L).2.1)++[(4,iV 0),(0,.ptr 0 0),(1,.d (iq L))],iG n (sJ n.aA n.ah L).1 (sJ n.aA n.ah L).2.2 true true true⟩):T X (.region id (mW Tryz.f55 1) true) Q ⟨29,[(4,iV 0),(0,.ptr 0 0),(1,.d (iq L))],NS n⟩:=by
 have hsv:∃ s e d,sJ n.aA n.ah L=(s,e,d):=⟨_,_,_,rfl⟩;obtain⟨s,e,d,hsv⟩:=hsv;have hcall:=aon n.aA n.ah L hL hn.ok hn.up hn.keep;rw[hsv]at hq hcall;refine as1 (aeE n L s e) 9 [none,none,none,none,none,none,none,none,some (14,0)] (λD=>iG n s d (D 10) (D 14) (D 15)) qK ?_ ?_;refine { len:=rfl,vz:=rfl,dst:=rfl,back:=rfl,GV:=rfl,nx:=λD=>rfl,keys:=λD=>rfl,small:=λD=>rfl,low:=?_,base:=?_,Jt:=?_,NC:=?_,ids:=?_,Jd:=?_,step:=?_ }
 ·intro k hk;rcases k with _|_|_|_|_|_|_|_|k
  all_goals first|rfl|exact au hk (by show ¬(k+8<8);omega)
 ·refine⟨nb rfl,λk hk=>?_⟩;rcases k with _|_|_|_|_|_|_|_|_|k
  ·exact .inr (asE rfl λk hk=>VW.refl (LJ qN n k hk))
  ·exact .inr (asE rfl λk hk=>VW.refl (QF qN n.aA k hk))
  ·exact .inr (af.row rfl λj hj k hk=>vq rfl tv)
  ·exact .inr (af.row rfl λj hj k hk=>vq rfl tv)
  ·exact .inr (af.row rfl λj hj k hk=>vq rfl tv)
  ·exact .inr (af.row rfl λj hj k hk=>vq rfl tv)
  ·exact .inr (af.row rfl λj hj k hk=>vq rfl tv)
  ·exact .inr (af.row rfl λj hj k hk=>vq rfl tv)
  ·exact .inl rfl
  ·omega
 ·exact⟨tv,rfl,tv,tv⟩
 ·intro i v hv;rcases i with _|_|_|_|_|_|_|_|_|_|_|_|_|_|_|_|_|i
  all_goals first|(obtain rfl:=fG hv;first|exact tv|exact .inl rfl|exact .inr ⟨_,_,rfl,.inl rfl⟩|exact V8|exact abd)|exact au (show(none:Option V)=some v from hv) nofun
 ·intro D hc k hk;rcases k with _|_|_|_|_|_|_|_|_|k
  ·intro j hj;rcases j with _|_|_|_|_|_|_|_|_|_|_|_|_|_|_|_|_|_|_|_|_|_|_|j
   all_goals first|exact tv|exact .inl rfl
  ·show kX _ (.blk 5 (bif D 10 then sO d else sO n.aA));cases D 10;all_goals
    intro j hj;rcases j with _|_|_|_|_|j
    all_goals first|exact tv|exact .inl rfl
  ·show kX _ (bif D 10 then iy (d.b++d.bU) else iy (n.aA.b++n.aA.bU));cases D 10 <;> exact λj hj k hk=>True.intro
  ·exact λj hj k hk=>True.intro
  ·exact λj hj k hk=>True.intro
  ·exact λj hj k hk=>True.intro
  ·exact λj hj k hk=>True.intro
  ·exact λj hj k hk=>True.intro
  ·show kX _ (bif D 14 then .blk 4 (bif D 15 then (λk=>.d (kW s k)) else iE 110) else .dead);cases D 14
   ·exact tv
   ·cases D 15
    ·intro j hj;rcases j with _|_|_|_|j
     all_goals (exact tv)
    ·exact λj hj=>True.intro
  ·omega
 ·intro D k q r hD hk;rcases k with _|_|_|_|_|_|_|_|_|k
  all_goals first|cases hk;done|(obtain⟨rfl,_⟩:=Prod.mk.inj (fG (fG hk));show(bif D 14 then _ else .dead)=aG.dead;rw[hD];rfl)
 ·skip
  intro i o v ho hv;rcases i with _|_|_|_|_|_|_|_|_|_|_|_|_|_|_|_|_|i
  all_goals first|exact au (show(none:Option Oper)=some o from ho) nofun|(obtain rfl:=fG ho;obtain rfl:=fG hv;refine⟨by(rfl),λD φ hk hc hr=>?_⟩)
  ·have e10:D 10=false:=hk.2.2.2.2.2.2.1;have e15:D 15=false:=hk.2.1;clear hk;show gG _ _ (gq _ _ _ _ _ (iG n s d (D 10) (D 14) (D 15))) (λV t=>VW _ _ _/\fU _ _ _ _ (iG n s d (D 10) (D 14) (D 15)) (iG n s d (D 10) (D 14) (D 15)) t _);rw[e10,e15];generalize D 14=b14 at *;all_goals exact uC
  ·have e10:D 10=false:=hk.2.2.2.2.2.2.1;have e15:D 15=false:=hk.2.1;clear hk;show gG _ _ (gq _ _ _ _ _ (iG n s d (D 10) (D 14) (D 15))) (λV t=>VW _ _ _/\fU _ _ _ _ (iG n s d (D 10) (D 14) (D 15)) (iG n s d (D 10) (D 14) (D 15)) t _);rw[e10,e15];generalize D 14=b14 at *;all_goals exact uC
  ·have e10:D 10=false:=hk.2.2.2.2.2.2.1;have e15:D 15=false:=hk.2.1;clear hk;show gG _ _ (gq _ _ _ _ _ (iG n s d (D 10) (D 14) (D 15))) (λV t=>VW _ _ _/\fU _ _ _ _ (iG n s d (D 10) (D 14) (D 15)) (iG n s d (D 10) (D 14) (D 15)) t _);rw[e10,e15];generalize D 14=b14 at *;all_goals exact uC
  ·have e10:D 10=false:=hk.2.2.2.2.2.2.1;have e15:D 15=false:=hk.2.1;clear hk;show gG _ _ (gq _ _ _ _ _ (iG n s d (D 10) (D 14) (D 15))) (λV t=>VW _ _ _/\fU _ _ _ _ (iG n s d (D 10) (D 14) (D 15)) (iG n s d (D 10) (D 14) (D 15)) t _);rw[e10,e15];generalize D 14=b14 at *;all_goals exact uC
  ·have e10:D 10=false:=hk.2.2.2.2.2.2.1;have e15:D 15=false:=hk.2.1;clear hk;show gG _ _ (gq _ _ _ _ _ (iG n s d (D 10) (D 14) (D 15))) (λV t=>VW _ _ _/\fU _ _ _ _ (iG n s d (D 10) (D 14) (D 15)) (iG n s d (D 10) (D 14) (D 15)) t _);rw[e10,e15];generalize D 14=b14 at *;all_goals exact uC
  ·have e10:D 10=false:=hk.2.2.2.2.2.2.1;have e15:D 15=false:=hk.2.1;clear hk;show gG _ _ (gq _ _ _ _ _ (iG n s d (D 10) (D 14) (D 15))) (λV t=>VW _ _ _/\fU _ _ _ _ (iG n s d (D 10) (D 14) (D 15)) (iG n s d (D 10) (D 14) (D 15)) t _);rw[e10,e15];generalize D 14=b14 at *;all_goals exact uC
  ·have e10:D 10=false:=hk.2.2.2.2.2.2.1;have e15:D 15=false:=hk.2.1;clear hk;show gG _ _ (gq _ _ _ _ _ (iG n s d (D 10) (D 14) (D 15))) (λV t=>VW _ _ _/\fU _ _ _ _ (iG n s d (D 10) (D 14) (D 15)) (iG n s d (D 10) (D 14) (D 15)) t _);rw[e10,e15];generalize D 14=b14 at *;all_goals exact uC
  ·have e10:D 10=false:=hk.2.2.2.2.2.2.1;have e15:D 15=false:=hk.2.1;clear hk;show gG _ _ (gq _ _ _ _ _ (iG n s d (D 10) (D 14) (D 15))) (λV t=>VW _ _ _/\fU _ _ _ _ (iG n s d (D 10) (D 14) (D 15)) (iG n s d (D 10) (D 14) (D 15)) t _);rw[e10,e15];generalize D 14=b14 at *;all_goals exact uC
  ·have e10:D 10=false:=hk.2.2.2.2.2.2.1;have e15:D 15=false:=hk.2.1;clear hk;show gG _ _ (gq _ _ _ _ _ (iG n s d (D 10) (D 14) (D 15))) (λV t=>VW _ _ _/\fU _ _ _ _ (iG n s d (D 10) (D 14) (D 15)) (iG n s d (D 10) (D 14) (D 15)) t _);rw[e10,e15];generalize D 14=b14 at *;all_goals exact uC
  ·have e10:D 10=false:=hk.2.2.2.2.2.2.1;have e15:D 15=false:=hk.2.1;clear hk;show gG _ _ (gq _ _ _ _ _ (iG n s d (D 10) (D 14) (D 15))) (λV t=>VW _ _ _/\fU _ _ _ _ (iG n s d (D 10) (D 14) (D 15)) (iG n s d (D 10) (D 14) (D 15)) t _);rw[e10,e15];generalize D 14=b14 at *;all_goals exact uC
  ·have e10:D 10=false:=hk.2.2.2.2.2.2.1;have e15:D 15=false:=hk.2.1;clear hk;show gG _ _ (gq _ _ _ _ _ (iG n s d (D 10) (D 14) (D 15))) (λV t=>VW _ _ _/\fU _ _ _ _ (iG n s d (D 10) (D 14) (D 15)) (iG n s d true (D 14) (D 15)) t _);rw[e10,e15];generalize D 14=b14 at *;cases b14;all_goals exact uC
  ·have e10:D 10=true:=hk.2.2.2.2.2.2.1;have e15:D 15=false:=hk.2.1;clear hk;show gG _ _ (gq _ _ _ _ _ (iG n s d (D 10) (D 14) (D 15))) (λV t=>VW _ _ _/\fU _ _ _ _ (iG n s d (D 10) (D 14) (D 15)) (iG n s d (D 10) (D 14) (D 15)) t _);rw[e10,e15];generalize D 14=b14 at *;all_goals exact uC
  ·have e10:D 10=true:=hk.2.2.2.2.2.2.1;have e15:D 15=false:=hk.2.1;clear hk;show gG _ _ (gq _ _ _ _ _ (iG n s d (D 10) (D 14) (D 15))) (λV t=>VW _ _ _/\fU _ _ _ _ (iG n s d (D 10) (D 14) (D 15)) (iG n s d (D 10) (D 14) (D 15)) t _);rw[e10,e15];generalize D 14=b14 at *;all_goals exact uC
  ·have e10:D 10=true:=hk.2.2.2.2.2.2.1;clear hk;show gG _ _ (gq _ _ _ _ _ (iG n s d (D 10) (D 14) (D 15))) (λV t=>VW _ _ _/\fU _ _ _ _ (iG n s d (D 10) (D 14) (D 15)) (iG n s d (D 10) (D 14) (D 15)) t _);rw[e10];generalize D 14=b14,D 15=b15 at *;all_goals exact uC
  ·have e14:D 14=false:=hk.2.2.1;have e15:D 15=false:=hk.2.1;clear hk;show gG _ _ (gq _ _ _ _ _ (iG n s d (D 10) (D 14) (D 15))) (λV t=>VW _ _ _/\fU _ _ _ _ (iG n s d (D 10) (D 14) (D 15)) (iG n s d (D 10) true (D 15)) t _);rw[e14,e15];generalize D 10=b10 at *;all_goals exact uC
  ·have e10:D 10=true:=hk.2.2.2.2.2.2.1;have e14:D 14=true:=hk.2.2.1;have e15:D 15=false:=hk.2.1;clear hk;show gG _ _ (gq _ _ _ _ _ (iG n s d (D 10) (D 14) (D 15))) (λV t=>VW _ _ _/\fU _ _ _ _ (iG n s d (D 10) (D 14) (D 15)) (iG n s d (D 10) (D 14) true) t _);rw[e10,e14,e15];all_goals exact uC
  ·have e10:D 10=true:=hk.2.2.2.2.2.2.1;have e14:D 14=true:=hk.2.2.1;have e15:D 15=true:=hk.2.1;clear hk;show gG _ _ (gq _ _ _ _ _ (iG n s d (D 10) (D 14) (D 15))) (λV t=>VW _ _ _/\fU _ _ _ _ (iG n s d (D 10) (D 14) (D 15)) (iG n s d (D 10) (D 14) (D 15)) t _);rw[e10,e14,e15];all_goals exact uC
 ·exact hq
theorem Dc(n:az)(L:List aT)(hL:lM n.ah L)(hn:vI n):ae 55 [.ptr 0 0,.d (iq L)] (NS n) (λrv rt=>rv=(iV (aW n L).2)/\rt=(NS (aW n L).1)):=by
 refine asz Tryz.func55 λX=>?_
 (repeat' (first|refine aiT n L hL hn ?_|refine oz ?_|refine ai.mk (λh=>?_) (λh=>?_)|refine ag.a ?_|refine asC qN qN (vq (gz iV ?_) tv) ?_))<;>first|exact rfl|(exact(Og h).symm)|(rw[show(aW n L).1={ n with aA:=(sJ n.aA n.ah L).2.2 } by unfold aW;rw[aht (YO h)]];exact(by repeat' (first|exact tv|refine an ⟨nb rfl,af.blk ?_⟩ ?_|refine an ⟨nb rfl,af.row rfl fv⟩ ?_|exact qV|exact qW|refine an ?_ ?_)))|exact(by repeat' (first|exact tv|refine an ⟨nb rfl,af.blk ?_⟩ ?_|refine an ⟨nb rfl,af.row rfl fv⟩ ?_|exact qV|exact qW|refine an ?_ ?_))
def afp(n:az)(m a b c d:Nat):Nat->V
 |0=>iV n.me|1=>iV n.many|2=>.ptr 1 0|3=>iV n.bin|4=>iV n.ah.floor|5=>iV n.ah.term|6=>iV n.ah.gZ|7=>.d (jg n.ah.log)
 |8=>iV n.dn|9=>iV n.eQ|10=>iV n.fA
 |11=>.d (fH n.st 0)|12=>.d (fH n.st 1)|13=>.d (fH n.st 2)|14=>.d (fH n.st 3)|15=>.d (fH n.st 4)|16=>.d (fH n.st 5)|17=>.d (fH n.st 6)
 |18=>.row 3 n.fF.length|19=>.row a m|20=>.row b m|21=>.row c m|_=>.row d m
def dX(n:az)(b5 b10 b15 b20 b25:Bool):ST:=⟨[(0,.blk 23 (bif b25 then afp n n.many.toNat 8 9 10 11 else yX n)),(1,.blk 5 (sO n.aA)),(2,iy (n.aA.b++n.aA.bU)),(3,dw 52 2 jU .z n.fF),(4,sK n.iL),(5,fM n.fD),(6,fM n.next),(7,fM n.fJ),(8,bif b5 then .row 4 1 n.many.toNat (λ_ k=>iE 4 k) else .dead),(9,bif b10 then .row 3 1 n.many.toNat (λ_ k=>iE 3 k) else .dead),(10,bif b15 then .row 3 1 n.many.toNat (λ_ k=>iE 3 k) else .dead),(11,bif b20 then .row 3 1 n.many.toNat (λ_ k=>iE 3 k) else .dead)],12⟩
def XO(n:az):List V:=[.ptr 0 0,.ptr 0 0,.ptr 0 0,.ptr 0 1,iV n.many,.row 8 n.many.toNat,.ptr 0 0,.ptr 0 0,.ptr 0 1,iV n.many,.row 9 n.many.toNat,.ptr 0 0,.ptr 0 0,.ptr 0 1,iV n.many,.row 10 n.many.toNat,.ptr 0 0,.ptr 0 0,.ptr 0 1,iV n.many,.row 11 n.many.toNat,.agg 4 (λk=>match k with|0=>.row 8 n.many.toNat|1=>.row 9 n.many.toNat|2=>.row 10 n.many.toNat|_=>.row 11 n.many.toNat),.ptr 0 0,.ptr 0 3,.ptr 0 19,.top]
theorem atY{N i k n:Nat}{φ:Nat->Option Nat}(h:φ i=some k)(hk:k<N):VW N (dO φ (.row i n)) (.row k n):=by
 refine vq ?_ hk;simp only[dO,h]
theorem oM {p:Prop} (h:p:=by
 (repeat' (first|exact atK rfl rfl rfl|refine xk.new ?_|exact tv|exact qV|exact as9 (hr.old _ rfl) qN|exact atY (hr.old _ rfl) qN|exact atY (hr.new _ 0 rfl) qN|exact atY (hr.done _ _ _ rfl (by decide) aj) qN|refine asK ?_|refine ag.mk qN ?_|refine ag.mk ?_ ?_|refine af.blk ?_|refine an ?_ ?_))<;>first|exact rfl|exact hm.1|(have:=hm.2;omega)|(intro j hj k hk;rcases k with _|k <;> (exact qV))):p:=h
theorem alf(n0 n:az)(hm:0<=n.many/\n.many<=1000){X:Cx (NS n0)}{id:Nat}{Q:Exit->AS->Prop}(hq:Q .normal ⟨132,ru (mW Tryz.f24 12).toList (XO n)++[(0,.ptr 0 0)],dX n true true true true true⟩):T X (.region id (mW Tryz.f24 12) true) Q ⟨132,[(0,.ptr 0 0)],NS n⟩:=by
 refine as1 (XO n) 12 [none,none,none,none,none,none,none,none,some (5,0),some (10,0),some (15,0),some (20,0)] (λD=>dX n (D 5) (D 10) (D 15) (D 20) (D 25)) qK ?_ ?_;refine { len:=rfl,vz:=rfl,dst:=rfl,back:=rfl,GV:=rfl,nx:=λD=>rfl,keys:=λD=>rfl,small:=λD=>rfl,low:=?_,base:=?_,Jt:=?_,NC:=?_,ids:=?_,Jd:=?_,step:=?_ }
 ·intro k hk;rcases k with _|_|_|_|_|_|_|_|k
  all_goals first|rfl|exact au hk (by show ¬(k+8<8);omega)
 ·refine⟨nb rfl,λk hk=>?_⟩;rcases k with _|_|_|_|_|_|_|_|_|_|_|_|k
  ·exact .inr (asE rfl λk hk=>VW.refl (LJ qN n k hk))
  ·exact .inr (asE rfl λk hk=>VW.refl (QF qN n.aA k hk))
  ·exact .inr (af.row rfl λj hj k hk=>vq rfl tv)
  ·exact .inr (af.row rfl λj hj k hk=>vq rfl tv)
  ·exact .inr (af.row rfl λj hj k hk=>vq rfl tv)
  ·exact .inr (af.row rfl λj hj k hk=>vq rfl tv)
  ·exact .inr (af.row rfl λj hj k hk=>vq rfl tv)
  ·exact .inr (af.row rfl λj hj k hk=>vq rfl tv)
  ·exact .inl rfl
  ·exact .inl rfl
  ·exact .inl rfl
  ·exact .inl rfl
  ·omega
 ·exact⟨rfl,tv⟩
 ·intro i v hv;rcases i with _|_|_|_|_|_|_|_|_|_|_|_|_|_|_|_|_|_|_|_|_|_|_|_|_|_|i
  all_goals first|(obtain rfl:=fG hv;first|exact tv|exact .inl rfl|exact .inr ⟨_,_,rfl,.inl rfl⟩|(intro k hk;rcases k with _|_|_|_|k <;> (exact .inr ⟨_,_,rfl,.inr (by decide)⟩)))|exact au (show(none:Option V)=some v from hv) nofun
 ·intro D hc k hk;rcases k with _|_|_|_|_|_|_|_|_|_|_|_|k
  ·show kX _ (.blk 23 (bif D 25 then afp n n.many.toNat 8 9 10 11 else yX n));have hc5:D 25=true->D 5=true/\D 10=true/\D 15=true/\D 20=true:=λh=>by refine⟨?_,?_,?_,?_⟩ <;> exact hc 25 _ qD h
   rcases hb:D 25 with _|_
   ·intro j hj;rcases j with _|_|_|_|_|_|_|_|_|_|_|_|_|_|_|_|_|_|_|_|_|_|_|j
    all_goals first|exact tv|exact .inl rfl
   ·obtain⟨c1,c2,c3,c4⟩:=hc5 hb;intro j hj;rcases j with _|_|_|_|_|_|_|_|_|_|_|_|_|_|_|_|_|_|_|_|_|_|_|j
    all_goals first|exact tv|exact .inl rfl|exact .inr ⟨_,_,rfl,c1⟩|exact .inr ⟨_,_,rfl,c2⟩|exact .inr ⟨_,_,rfl,c3⟩|exact .inr ⟨_,_,rfl,c4⟩
  ·intro j hj;rcases j with _|_|_|_|_|j
   all_goals first|exact tv|exact .inl rfl
  ·exact λj hj k hk=>True.intro
  ·exact λj hj k hk=>True.intro
  ·exact λj hj k hk=>True.intro
  ·exact λj hj k hk=>True.intro
  ·exact λj hj k hk=>True.intro
  ·exact λj hj k hk=>True.intro
  ·show kX _ (bif D 5 then aG.row 4 1 n.many.toNat (λ_ k=>iE 4 k) else .dead);cases D 5
   ·exact tv
   ·intro j hj k hk;rcases k with _|k
    ·exact tv
    ·exact au hk (by show ¬(k+1<1);omega)
  ·show kX _ (bif D 10 then aG.row 3 1 n.many.toNat (λ_ k=>iE 3 k) else .dead);cases D 10
   ·exact tv
   ·intro j hj k hk;rcases k with _|k
    ·exact tv
    ·exact au hk (by show ¬(k+1<1);omega)
  ·show kX _ (bif D 15 then aG.row 3 1 n.many.toNat (λ_ k=>iE 3 k) else .dead);cases D 15
   ·exact tv
   ·intro j hj k hk;rcases k with _|k
    ·exact tv
    ·exact au hk (by show ¬(k+1<1);omega)
  ·show kX _ (bif D 20 then aG.row 3 1 n.many.toNat (λ_ k=>iE 3 k) else .dead);cases D 20
   ·exact tv
   ·intro j hj k hk;rcases k with _|k
    ·exact tv
    ·exact au hk (by show ¬(k+1<1);omega)
  ·omega
 ·intro D k q r hD hk;rcases k with _|_|_|_|_|_|_|_|_|_|_|_|k
  ·cases hk
  ·cases hk
  ·cases hk
  ·cases hk
  ·cases hk
  ·cases hk
  ·cases hk
  ·cases hk
  ·obtain⟨rfl,_⟩:=Prod.mk.inj (fG (fG hk));show(bif D 5 then _ else .dead)=aG.dead;rw[hD];rfl
  ·obtain⟨rfl,_⟩:=Prod.mk.inj (fG (fG hk));show(bif D 10 then _ else .dead)=aG.dead;rw[hD];rfl
  ·obtain⟨rfl,_⟩:=Prod.mk.inj (fG (fG hk));show(bif D 15 then _ else .dead)=aG.dead;rw[hD];rfl
  ·obtain⟨rfl,_⟩:=Prod.mk.inj (fG (fG hk));show(bif D 20 then _ else .dead)=aG.dead;rw[hD];rfl
  ·cases hk
 ·skip
  intro i o v ho hv;rcases i with _|_|_|_|_|_|_|_|_|_|_|_|_|_|_|_|_|_|_|_|_|_|_|_|_|_|i
  all_goals first|exact au (show(none:Option Oper)=some o from ho) nofun|(obtain rfl:=fG ho;obtain rfl:=fG hv;refine⟨by(rfl),λD φ hk hc hr=>?_⟩)
  ·have e25:D 25=false:=hk.1;clear hk;show gG _ _ (gq _ _ _ _ _ (dX n (D 5) (D 10) (D 15) (D 20) (D 25))) (λV t=>VW _ _ _/\fU _ _ _ _ (dX n (D 5) (D 10) (D 15) (D 20) (D 25)) (dX n (D 5) (D 10) (D 15) (D 20) (D 25)) t _);rw[e25];generalize D 5=b5,D 10=b10,D 15=b15,D 20=b20 at *;all_goals exact oM
  ·have e5:D 5=false:=(jY (jY hk)).1;have e25:D 25=false:=hk.1;clear hk;show gG _ _ (gq _ _ _ _ _ (dX n (D 5) (D 10) (D 15) (D 20) (D 25))) (λV t=>VW _ _ _/\fU _ _ _ _ (dX n (D 5) (D 10) (D 15) (D 20) (D 25)) (dX n (D 5) (D 10) (D 15) (D 20) (D 25)) t _);rw[e5,e25];generalize D 10=b10,D 15=b15,D 20=b20 at *;all_goals exact oM
  ·have e5:D 5=false:=(jY (jY hk)).1;have e25:D 25=false:=hk.1;clear hk;show gG _ _ (gq _ _ _ _ _ (dX n (D 5) (D 10) (D 15) (D 20) (D 25))) (λV t=>VW _ _ _/\fU _ _ _ _ (dX n (D 5) (D 10) (D 15) (D 20) (D 25)) (dX n (D 5) (D 10) (D 15) (D 20) (D 25)) t _);rw[e5,e25];generalize D 10=b10,D 15=b15,D 20=b20 at *;all_goals exact oM
  ·have e5:D 5=false:=(jY (jY hk)).1;have e25:D 25=false:=hk.1;clear hk;show gG _ _ (gq _ _ _ _ _ (dX n (D 5) (D 10) (D 15) (D 20) (D 25))) (λV t=>VW _ _ _/\fU _ _ _ _ (dX n (D 5) (D 10) (D 15) (D 20) (D 25)) (dX n (D 5) (D 10) (D 15) (D 20) (D 25)) t _);rw[e5,e25];generalize D 10=b10,D 15=b15,D 20=b20 at *;all_goals exact oM
  ·have e5:D 5=false:=(jY (jY hk)).1;have e25:D 25=false:=hk.1;clear hk;show gG _ _ (gq _ _ _ _ _ (dX n (D 5) (D 10) (D 15) (D 20) (D 25))) (λV t=>VW _ _ _/\fU _ _ _ _ (dX n (D 5) (D 10) (D 15) (D 20) (D 25)) (dX n (D 5) (D 10) (D 15) (D 20) (D 25)) t _);rw[e5,e25];generalize D 10=b10,D 15=b15,D 20=b20 at *;all_goals exact oM
  ·have e5:D 5=false:=(jY (jY hk)).1;have e25:D 25=false:=hk.1;clear hk;show gG _ _ (gq _ _ _ _ _ (dX n (D 5) (D 10) (D 15) (D 20) (D 25))) (λV t=>VW _ _ _/\fU _ _ _ _ (dX n (D 5) (D 10) (D 15) (D 20) (D 25)) (dX n true (D 10) (D 15) (D 20) (D 25)) t _);rw[e5,e25];generalize D 10=b10,D 15=b15,D 20=b20 at *;all_goals exact oM
  ·have e10:D 10=false:=(jY hk).2.2.2.2.2.1;have e25:D 25=false:=hk.1;clear hk;show gG _ _ (gq _ _ _ _ _ (dX n (D 5) (D 10) (D 15) (D 20) (D 25))) (λV t=>VW _ _ _/\fU _ _ _ _ (dX n (D 5) (D 10) (D 15) (D 20) (D 25)) (dX n (D 5) (D 10) (D 15) (D 20) (D 25)) t _);rw[e10,e25];generalize D 5=b5,D 15=b15,D 20=b20 at *;all_goals exact oM
  ·have e10:D 10=false:=(jY hk).2.2.2.2.2.1;have e25:D 25=false:=hk.1;clear hk;show gG _ _ (gq _ _ _ _ _ (dX n (D 5) (D 10) (D 15) (D 20) (D 25))) (λV t=>VW _ _ _/\fU _ _ _ _ (dX n (D 5) (D 10) (D 15) (D 20) (D 25)) (dX n (D 5) (D 10) (D 15) (D 20) (D 25)) t _);rw[e10,e25];generalize D 5=b5,D 15=b15,D 20=b20 at *;all_goals exact oM
  ·have e10:D 10=false:=(jY hk).2.2.2.2.2.1;have e25:D 25=false:=hk.1;clear hk;show gG _ _ (gq _ _ _ _ _ (dX n (D 5) (D 10) (D 15) (D 20) (D 25))) (λV t=>VW _ _ _/\fU _ _ _ _ (dX n (D 5) (D 10) (D 15) (D 20) (D 25)) (dX n (D 5) (D 10) (D 15) (D 20) (D 25)) t _);rw[e10,e25];generalize D 5=b5,D 15=b15,D 20=b20 at *;all_goals exact oM
  ·have e10:D 10=false:=(jY hk).2.2.2.2.2.1;have e25:D 25=false:=hk.1;clear hk;show gG _ _ (gq _ _ _ _ _ (dX n (D 5) (D 10) (D 15) (D 20) (D 25))) (λV t=>VW _ _ _/\fU _ _ _ _ (dX n (D 5) (D 10) (D 15) (D 20) (D 25)) (dX n (D 5) (D 10) (D 15) (D 20) (D 25)) t _);rw[e10,e25];generalize D 5=b5,D 15=b15,D 20=b20 at *;all_goals exact oM
  ·have e10:D 10=false:=(jY hk).2.2.2.2.2.1;have e25:D 25=false:=hk.1;clear hk;show gG _ _ (gq _ _ _ _ _ (dX n (D 5) (D 10) (D 15) (D 20) (D 25))) (λV t=>VW _ _ _/\fU _ _ _ _ (dX n (D 5) (D 10) (D 15) (D 20) (D 25)) (dX n (D 5) true (D 15) (D 20) (D 25)) t _);rw[e10,e25];generalize D 5=b5,D 15=b15,D 20=b20 at *;all_goals exact oM
  ·have e15:D 15=false:=(jY hk).1;have e25:D 25=false:=hk.1;clear hk;show gG _ _ (gq _ _ _ _ _ (dX n (D 5) (D 10) (D 15) (D 20) (D 25))) (λV t=>VW _ _ _/\fU _ _ _ _ (dX n (D 5) (D 10) (D 15) (D 20) (D 25)) (dX n (D 5) (D 10) (D 15) (D 20) (D 25)) t _);rw[e15,e25];generalize D 5=b5,D 10=b10,D 20=b20 at *;all_goals exact oM
  ·have e15:D 15=false:=(jY hk).1;have e25:D 25=false:=hk.1;clear hk;show gG _ _ (gq _ _ _ _ _ (dX n (D 5) (D 10) (D 15) (D 20) (D 25))) (λV t=>VW _ _ _/\fU _ _ _ _ (dX n (D 5) (D 10) (D 15) (D 20) (D 25)) (dX n (D 5) (D 10) (D 15) (D 20) (D 25)) t _);rw[e15,e25];generalize D 5=b5,D 10=b10,D 20=b20 at *;all_goals exact oM
  ·have e15:D 15=false:=(jY hk).1;have e25:D 25=false:=hk.1;clear hk;show gG _ _ (gq _ _ _ _ _ (dX n (D 5) (D 10) (D 15) (D 20) (D 25))) (λV t=>VW _ _ _/\fU _ _ _ _ (dX n (D 5) (D 10) (D 15) (D 20) (D 25)) (dX n (D 5) (D 10) (D 15) (D 20) (D 25)) t _);rw[e15,e25];generalize D 5=b5,D 10=b10,D 20=b20 at *;all_goals exact oM
  ·have e15:D 15=false:=(jY hk).1;have e25:D 25=false:=hk.1;clear hk;show gG _ _ (gq _ _ _ _ _ (dX n (D 5) (D 10) (D 15) (D 20) (D 25))) (λV t=>VW _ _ _/\fU _ _ _ _ (dX n (D 5) (D 10) (D 15) (D 20) (D 25)) (dX n (D 5) (D 10) (D 15) (D 20) (D 25)) t _);rw[e15,e25];generalize D 5=b5,D 10=b10,D 20=b20 at *;all_goals exact oM
  ·have e15:D 15=false:=(jY hk).1;have e25:D 25=false:=hk.1;clear hk;show gG _ _ (gq _ _ _ _ _ (dX n (D 5) (D 10) (D 15) (D 20) (D 25))) (λV t=>VW _ _ _/\fU _ _ _ _ (dX n (D 5) (D 10) (D 15) (D 20) (D 25)) (dX n (D 5) (D 10) true (D 20) (D 25)) t _);rw[e15,e25];generalize D 5=b5,D 10=b10,D 20=b20 at *;all_goals exact oM
  ·have e20:D 20=false:=hk.2.2.2.2.2.1;have e25:D 25=false:=hk.1;clear hk;show gG _ _ (gq _ _ _ _ _ (dX n (D 5) (D 10) (D 15) (D 20) (D 25))) (λV t=>VW _ _ _/\fU _ _ _ _ (dX n (D 5) (D 10) (D 15) (D 20) (D 25)) (dX n (D 5) (D 10) (D 15) (D 20) (D 25)) t _);rw[e20,e25];generalize D 5=b5,D 10=b10,D 15=b15 at *;all_goals exact oM
  ·have e20:D 20=false:=hk.2.2.2.2.2.1;have e25:D 25=false:=hk.1;clear hk;show gG _ _ (gq _ _ _ _ _ (dX n (D 5) (D 10) (D 15) (D 20) (D 25))) (λV t=>VW _ _ _/\fU _ _ _ _ (dX n (D 5) (D 10) (D 15) (D 20) (D 25)) (dX n (D 5) (D 10) (D 15) (D 20) (D 25)) t _);rw[e20,e25];generalize D 5=b5,D 10=b10,D 15=b15 at *;all_goals exact oM
  ·have e20:D 20=false:=hk.2.2.2.2.2.1;have e25:D 25=false:=hk.1;clear hk;show gG _ _ (gq _ _ _ _ _ (dX n (D 5) (D 10) (D 15) (D 20) (D 25))) (λV t=>VW _ _ _/\fU _ _ _ _ (dX n (D 5) (D 10) (D 15) (D 20) (D 25)) (dX n (D 5) (D 10) (D 15) (D 20) (D 25)) t _);rw[e20,e25];generalize D 5=b5,D 10=b10,D 15=b15 at *;all_goals exact oM
  ·have e20:D 20=false:=hk.2.2.2.2.2.1;have e25:D 25=false:=hk.1;clear hk;show gG _ _ (gq _ _ _ _ _ (dX n (D 5) (D 10) (D 15) (D 20) (D 25))) (λV t=>VW _ _ _/\fU _ _ _ _ (dX n (D 5) (D 10) (D 15) (D 20) (D 25)) (dX n (D 5) (D 10) (D 15) (D 20) (D 25)) t _);rw[e20,e25];generalize D 5=b5,D 10=b10,D 15=b15 at *;all_goals exact oM
  ·have e20:D 20=false:=hk.2.2.2.2.2.1;have e25:D 25=false:=hk.1;clear hk;show gG _ _ (gq _ _ _ _ _ (dX n (D 5) (D 10) (D 15) (D 20) (D 25))) (λV t=>VW _ _ _/\fU _ _ _ _ (dX n (D 5) (D 10) (D 15) (D 20) (D 25)) (dX n (D 5) (D 10) (D 15) true (D 25)) t _);rw[e20,e25];generalize D 5=b5,D 10=b10,D 15=b15 at *;all_goals exact oM
  ·have e5:D 5=true:=(jY (jY hk)).1;have e10:D 10=true:=(jY hk).2.2.2.2.2.1;have e15:D 15=true:=(jY hk).1;have e20:D 20=true:=hk.2.2.2.2.2.1;have e25:D 25=false:=hk.1;clear hk;show gG _ _ (gq _ _ _ _ _ (dX n (D 5) (D 10) (D 15) (D 20) (D 25))) (λV t=>VW _ _ _/\fU _ _ _ _ (dX n (D 5) (D 10) (D 15) (D 20) (D 25)) (dX n (D 5) (D 10) (D 15) (D 20) (D 25)) t _);rw[e5,e10,e15,e20,e25];all_goals exact oM
  ·have e5:D 5=true:=(jY (jY hk)).1;have e10:D 10=true:=(jY hk).2.2.2.2.2.1;have e15:D 15=true:=(jY hk).1;have e20:D 20=true:=hk.2.2.2.2.2.1;have e25:D 25=false:=hk.1;clear hk;show gG _ _ (gq _ _ _ _ _ (dX n (D 5) (D 10) (D 15) (D 20) (D 25))) (λV t=>VW _ _ _/\fU _ _ _ _ (dX n (D 5) (D 10) (D 15) (D 20) (D 25)) (dX n (D 5) (D 10) (D 15) (D 20) (D 25)) t _);rw[e5,e10,e15,e20,e25];all_goals exact oM
  ·have e5:D 5=true:=(jY (jY hk)).1;have e10:D 10=true:=(jY hk).2.2.2.2.2.1;have e15:D 15=true:=(jY hk).1;have e20:D 20=true:=hk.2.2.2.2.2.1;have e25:D 25=false:=hk.1;clear hk;show gG _ _ (gq _ _ _ _ _ (dX n (D 5) (D 10) (D 15) (D 20) (D 25))) (λV t=>VW _ _ _/\fU _ _ _ _ (dX n (D 5) (D 10) (D 15) (D 20) (D 25)) (dX n (D 5) (D 10) (D 15) (D 20) (D 25)) t _);rw[e5,e10,e15,e20,e25];all_goals exact oM
  ·have e5:D 5=true:=(jY (jY hk)).1;have e10:D 10=true:=(jY hk).2.2.2.2.2.1;have e15:D 15=true:=(jY hk).1;have e20:D 20=true:=hk.2.2.2.2.2.1;have e25:D 25=false:=hk.1;clear hk;show gG _ _ (gq _ _ _ _ _ (dX n (D 5) (D 10) (D 15) (D 20) (D 25))) (λV t=>VW _ _ _/\fU _ _ _ _ (dX n (D 5) (D 10) (D 15) (D 20) (D 25)) (dX n (D 5) (D 10) (D 15) (D 20) (D 25)) t _);rw[e5,e10,e15,e20,e25];all_goals exact oM
  ·have e5:D 5=true:=(jY (jY hk)).1;have e10:D 10=true:=(jY hk).2.2.2.2.2.1;have e15:D 15=true:=(jY hk).1;have e20:D 20=true:=hk.2.2.2.2.2.1;have e25:D 25=false:=hk.1;clear hk;show gG _ _ (gq _ _ _ _ _ (dX n (D 5) (D 10) (D 15) (D 20) (D 25))) (λV t=>VW _ _ _/\fU _ _ _ _ (dX n (D 5) (D 10) (D 15) (D 20) (D 25)) (dX n (D 5) (D 10) (D 15) (D 20) true) t _);rw[e5,e10,e15,e20,e25];all_goals exact oM
 ·exact hq
structure Sit where
 up:Bool
 dn:Int
 bin:Int
 floor:Int
 term:Int
 gZ:Int
 eQ:Int
 fA:Int
 log:List dm
 st:aZ
def afj(s:Sit):Nat->D
 |0=>bD s.up|1=>iD s.dn|2=>iD s.bin|3=>iD s.floor|4=>iD s.term|5=>iD s.gZ|6=>iD s.eQ|7=>iD s.fA|8=>jg s.log
 |9=>fH s.st 0|10=>fH s.st 1|11=>fH s.st 2|12=>fH s.st 3|13=>fH s.st 4|14=>fH s.st 5|_=>fH s.st 6
def aZ.nil:aZ:=⟨0,0,0,0,[],[],[]⟩
def BR(s:Sit):V:=.agg 16 (λk=>.d (afj s k))
def mX(n:az):Sit:=bif n.aA.down then ⟨false,0,0,0,0,0,0,0,[],aZ.nil⟩ else ⟨true,n.dn,n.bin,n.ah.floor,n.ah.term,n.ah.gZ,n.eQ,n.fA,n.ah.log,n.st⟩
theorem asi.mk{p q:Prop}(h:p)(hq:q):q:=hq
theorem aur{t0:ST}{X:Cx t0}{v:V}{t t1:ST}{p q:Sit}(e:p=q)(h:Fin X v t (λv t=>v=BR q/\t=t1)):Fin X v t (λv t=>v=BR p/\t=t1):=e▸h
theorem amw(n:az)(hs:EN n.st)(hl:CE n.ah.log):ae 43 [.ptr 0 0] (NS n) (λv t=>v=BR (mX n)/\t=NS n):=by
 refine asz Tryz.func43 λX=>?_
 (repeat' (first|refine oz ?_|refine asD 3 [52] [o0,o0,o0,o0,o0,o0,o0,o0,o0,o0,o0,o0,o0,o0,o0,o0,o0,o0,o0,o0,o0,o0,o0,o0,o0,o0,o0,o0,o0,o0,o0,o0,o0,o0,o0,o0,o0,o0,o0,o0,o0,o0,o0,o0,o0,o0,o0,o0,o0,o0,o0,o0,o1] ?_|refine mc ?_ ?_|refine asH [1,2] (yM n.aA) ?_|refine asN (LV n.st hs) ?_|refine asN (Vd n.ah.log hl) ?_|refine ai.mk (λh=>?_) (λh=>?_)|refine ag.a ?_|(refine asi.mk (p:=n.aA.down=true) ?_ ?_;exact h;refine aur (q:=⟨false,0,0,0,0,0,0,0,[],aZ.nil⟩) ?_ (asC qN qN (VW.agg (λk hk=>?_)) ?_))|refine aur (q:=⟨true,n.dn,n.bin,n.ah.floor,n.ah.term,n.ah.gZ,n.eQ,n.fA,n.ah.log,n.st⟩) ?_ (asC qN qN (VW.agg (λk hk=>?_)) ?_)))<;>(try(refine dh.mk ?_;repeat' (first|exact tv|exact rfl|refine asA (LV n.st hs) ?_|refine asA (Vd n.ah.log hl) ?_|refine an ?_ ?_|refine ag.mk ?_ ?_)))
 all_goals try exact aB
 all_goals first|exact dF h|exact bz h|(have hk:k<16:=hk;rcases k with _|_|_|_|_|_|_|_|_|_|_|_|_|_|_|_|k <;> first|exact qV|exact asQ rfl|omega)|exact qM
end Go.Proofs.YtnibdnahojjcgaaGreat
