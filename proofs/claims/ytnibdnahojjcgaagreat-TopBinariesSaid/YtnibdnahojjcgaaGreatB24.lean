/- A part of the proof. -/
import Derived.Test.YtnibdnahojjcgaaGreatB19
import Derived.Test.YtnibdnahojjcgaaGreatB21
import Derived.Test.YtnibdnahojjcgaaGreatB22
namespace Go.Proofs.YtnibdnahojjcgaaGreat
set_option maxRecDepth 100000
set_option maxHeartbeats 16000000
set_option linter.unusedVariables false
set_option linter.unusedSimpArgs false
open Go.RowKit
def rT2(r:aT):List UInt8:=(if (kd r.kind).second=true then dV r.b.toNat else [])++r.x
def rT1(r:aT):List UInt8:=dV r.a.toNat++rT2 r
theorem auq(r:aT):mQ r=jE r.kind.toNat::rT1 r:=by
 unfold mQ rT1 rT2;simp[kE]
theorem atq(n:Nat)(l:List UInt8)(h:n<18446744073709551616):aQ 194 [.d (dB (dV n++l))] (bQ [.d (.v (.int .u64 n)),iV (gV n),iV 0]):=by
 have:=ak3 (dV n++l);unfold SB at this;rw[wo n l qO]at this;exact this
theorem as7{l m:List UInt8}{j:Nat}:(l++m).getD (l.length+j) 0=m.getD j 0:=by
 rw[bC,bC,oW qO,Nat.add_sub_cancel_left]
theorem atr{r:aT}(h:(kd r.kind).second=true):rT2 r=dV r.b.toNat++r.x:=by unfold rT2;rw[if_pos h]
theorem auw{r:aT}(h:(kd r.kind).second=false):rT2 r=r.x:=by unfold rT2;rw[if_neg (by rw[h];decide)];rfl
theorem EK:ae 152 [] e0 (λv t=>v = .mp 0/\t=⟨[(0,TT)],1⟩):=by
 refine asz Tryz.func152 λX=>?_
 (repeat' (first|refine oz ?_|refine asC qN qN qW ⟨⟨nb rfl,atW ?_⟩,tv⟩|refine asK ?_|refine asJ ?_|exact tv|exact qV|refine ag.mk qN ?_|refine an ?_ ?_))<;>try exact aB
def pC(k a b:V):Nat->V
 |0=>k|1=>a|2=>b|_=>.dE
theorem auV(r:aT)(h0:iR r=true)(hrk:r.kind=1):aQ 150 [.d (dB (jE r.kind.toNat::rT1 r))] (bQ [yc r,.b true]):=by
 refine asz Tryz.func150 λX=>?_
 (repeat' (first|refine T.cut (x:=.region 4 _ _) ⟨58,[(2,.ptr 0 0),(3,.b false),(4,.ptr 1 0),(0,.d (dB (rT1 r)))],⟨[(0,.blk 4 (iE 138)),(1,.blk 4 (pC (iV r.kind) (iV 0) (iV 0)))],2⟩⟩ ?_ ?_|refine T.cut (x:=.region 8 _ _) ⟨58,[(2,.ptr 0 0),(3,.b false),(4,.ptr 1 0),(0,.d (dB (rT2 r)))],⟨[(0,.blk 4 (iE 138)),(1,.blk 4 (pC (iV r.kind) (iV r.a) (iV 0)))],2⟩⟩ ?_ ?_|refine ai.mk (λh=>au (aS h) (by rw[ny];omega)) (λh=>?_)|refine oz ?_|refine asD 8 [6] [o0,o0,o2,o2,o2,o0,o1,o3] ?_|refine asD 9 [0] [o1,o2,o2,o3,o3] ?_|refine mc ?_ ?_|refine ai.n (λh=>?_)|refine asL (λh=>?_)|refine asA (atq r.a.toNat (rT2 r) (by have:=zT h0;omega)) ?_|refine ae.tell (adT r.x (by have:=zT h0;omega)) ⟨vq (gz (λl=>V.d (dB l)) (auw (r:=r) (by rw[hrk];decide))) tv,tv⟩ ?_|refine as8 EK ?_|refine ai.n (λh=>?_)|refine ag.a ?_|exact asM rfl ⟨asK ⟨⟨vw,vq (gz iV (show(0:Int)=r.b from (((zT h0).2.2.2.2.2.1 (by rw[hrk];rfl)).1).symm)) tv⟩,qV⟩,qV,tv⟩|refine ag.mk ?_ ?_))<;>(try(refine dh.mk ?_;repeat' (first|exact tv|exact rfl|refine ai.n (λh=>?_)|refine asL (λh=>?_)|refine asP EK ?_|refine an ?_ ?_|refine ag.mk ?_ ?_)))
 all_goals try exact aB
 all_goals (try(refine aV.mk rfl qN qN ?_ ?_ <;> repeat' (first|exact tv|exact qV|refine VW.sl ?_ (λj hj k hk=>asB ?_)|exact qW|refine vq (gz iV ?_) tv|refine an ⟨nb rfl,af.blk ?_⟩ ?_|refine an ?_ ?_)))
 all_goals first|exact rfl|(have h8:=zT h0;simp only[dQ];omega)|(rw[ny];omega)|(have h8:=((jE r.kind.toNat::rT1 r).getD (Int.toNat 0) 0).toNat_lt;simp only[dQ];omega)|(unfold rT1 gV;rw[bW];omega)|(have h8:=zT h0;omega)|(have h8:=yH h0;show(((jE r.kind.toNat).toNat:Nat):Int)=r.kind;rw[xA];omega)|(exact cm (gz fO (as7 (l:=[jE r.kind.toNat]) (m:=rT1 r))))|(exact cm (gz fO (as7 (l:=dV r.a.toNat) (m:=rT2 r))))
theorem auU(r:aT)(h0:iR r=true)(hrk:r.kind=2):aQ 150 [.d (dB (jE r.kind.toNat::rT1 r))] (bQ [yc r,.b true]):=by
 refine asz Tryz.func150 λX=>?_
 (repeat' (first|refine T.cut (x:=.region 4 _ _) ⟨58,[(2,.ptr 0 0),(3,.b false),(4,.ptr 1 0),(0,.d (dB (rT1 r)))],⟨[(0,.blk 4 (iE 138)),(1,.blk 4 (pC (iV r.kind) (iV 0) (iV 0)))],2⟩⟩ ?_ ?_|refine T.cut (x:=.region 8 _ _) ⟨58,[(2,.ptr 0 0),(3,.b false),(4,.ptr 1 0),(0,.d (dB (rT2 r)))],⟨[(0,.blk 4 (iE 138)),(1,.blk 4 (pC (iV r.kind) (iV r.a) (iV 0)))],2⟩⟩ ?_ ?_|refine T.cut (x:=.seq (.region 9 _ _) _) ⟨58,[(2,.ptr 0 0),(3,.b false),(4,.ptr 1 0),(0,.d (dB (r.x)))],⟨[(0,.blk 4 (iE 138)),(1,.blk 4 (pC (iV r.kind) (iV r.a) (iV r.b)))],2⟩⟩ ?_ ?_|refine ai.mk (λh=>au (aS h) (by rw[ny];omega)) (λh=>?_)|refine oz ?_|refine asD 8 [6] [o0,o0,o2,o2,o2,o0,o1,o3] ?_|refine asD 9 [0] [o1,o2,o2,o3,o3] ?_|refine asD 13 [6] [o0,o0,o2,o2,o2,o0,o1,o3] ?_|refine mc ?_ ?_|refine ai.n (λh=>?_)|refine asL (λh=>?_)|refine asA (atq r.a.toNat (rT2 r) (by have:=zT h0;omega)) ?_|refine ae.tell (atq r.b.toNat r.x (by have:=zT h0;omega)) ⟨vq (gz (λl=>V.d (dB l)) (atr (r:=r) (by rw[hrk];decide))) tv,tv⟩ ?_|refine asA (adT r.x (by have:=zT h0;omega)) ?_|refine as8 EK ?_|refine ai.n (λh=>?_)|refine asL (λh=>?_)|refine ag.a ?_|exact asM rfl vw|refine ag.mk ?_ ?_))<;>(try(refine dh.mk ?_;repeat' (first|exact tv|exact rfl|refine ai.n (λh=>?_)|refine asL (λh=>?_)|refine asP EK ?_|refine an ?_ ?_|refine ag.mk ?_ ?_)))
 all_goals try exact aB
 all_goals (try(refine aV.mk rfl qN qN ?_ ?_ <;> repeat' (first|exact tv|exact qV|refine VW.sl ?_ (λj hj k hk=>asB ?_)|exact qW|refine vq (gz iV ?_) tv|refine an ⟨nb rfl,af.blk ?_⟩ ?_|refine an ?_ ?_)))
 all_goals first|exact rfl|(have h8:=zT h0;simp only[dQ];omega)|(rw[ny];omega)|(have h8:=((jE r.kind.toNat::rT1 r).getD (Int.toNat 0) 0).toNat_lt;simp only[dQ];omega)|(unfold rT1 gV;rw[bW];omega)|(have h8:=zT h0;omega)|(have h8:=yH h0;show(((jE r.kind.toNat).toNat:Nat):Int)=r.kind;rw[xA];omega)|(exact cm (gz fO (as7 (l:=[jE r.kind.toNat]) (m:=rT1 r))))|(exact cm (gz fO (as7 (l:=dV r.a.toNat) (m:=rT2 r))))|(rw[atr (r:=r) (by rw[hrk];decide)];unfold gV;rw[bW];omega)|(refine cm (gz fO ?_);show(rT2 r).getD ((dV r.b.toNat).length+j) 0=r.x.getD j 0;rw[atr (r:=r) (by rw[hrk];decide)];exact as7 (l:=dV r.b.toNat) (m:=r.x))
theorem auT(r:aT)(h0:iR r=true)(hrk:r.kind=3):aQ 150 [.d (dB (jE r.kind.toNat::rT1 r))] (bQ [yc r,.b true]):=by
 refine asz Tryz.func150 λX=>?_
 (repeat' (first|refine T.cut (x:=.region 4 _ _) ⟨58,[(2,.ptr 0 0),(3,.b false),(4,.ptr 1 0),(0,.d (dB (rT1 r)))],⟨[(0,.blk 4 (iE 138)),(1,.blk 4 (pC (iV r.kind) (iV 0) (iV 0)))],2⟩⟩ ?_ ?_|refine T.cut (x:=.region 8 _ _) ⟨58,[(2,.ptr 0 0),(3,.b false),(4,.ptr 1 0),(0,.d (dB (rT2 r)))],⟨[(0,.blk 4 (iE 138)),(1,.blk 4 (pC (iV r.kind) (iV r.a) (iV 0)))],2⟩⟩ ?_ ?_|refine T.cut (x:=.seq (.region 9 _ _) _) ⟨58,[(2,.ptr 0 0),(3,.b false),(4,.ptr 1 0),(0,.d (dB (r.x)))],⟨[(0,.blk 4 (iE 138)),(1,.blk 4 (pC (iV r.kind) (iV r.a) (iV r.b)))],2⟩⟩ ?_ ?_|refine ai.mk (λh=>au (aS h) (by rw[ny];omega)) (λh=>?_)|refine oz ?_|refine asD 8 [6] [o0,o0,o2,o2,o2,o0,o1,o3] ?_|refine asD 9 [0] [o1,o2,o2,o3,o3] ?_|refine asD 13 [6] [o0,o0,o2,o2,o2,o0,o1,o3] ?_|refine mc ?_ ?_|refine ai.n (λh=>?_)|refine asL (λh=>?_)|refine asA (atq r.a.toNat (rT2 r) (by have:=zT h0;omega)) ?_|refine ae.tell (atq r.b.toNat r.x (by have:=zT h0;omega)) ⟨vq (gz (λl=>V.d (dB l)) (atr (r:=r) (by rw[hrk];decide))) tv,tv⟩ ?_|refine asA (adT r.x (by have:=zT h0;omega)) ?_|refine as8 EK ?_|refine ai.n (λh=>?_)|refine asL (λh=>?_)|refine ag.a ?_|exact asM rfl vw|refine ag.mk ?_ ?_))<;>(try(refine dh.mk ?_;repeat' (first|exact tv|exact rfl|refine ai.n (λh=>?_)|refine asL (λh=>?_)|refine asP EK ?_|refine an ?_ ?_|refine ag.mk ?_ ?_)))
 all_goals try exact aB
 all_goals (try(refine aV.mk rfl qN qN ?_ ?_ <;> repeat' (first|exact tv|exact qV|refine VW.sl ?_ (λj hj k hk=>asB ?_)|exact qW|refine vq (gz iV ?_) tv|refine an ⟨nb rfl,af.blk ?_⟩ ?_|refine an ?_ ?_)))
 all_goals first|exact rfl|(have h8:=zT h0;simp only[dQ];omega)|(rw[ny];omega)|(have h8:=((jE r.kind.toNat::rT1 r).getD (Int.toNat 0) 0).toNat_lt;simp only[dQ];omega)|(unfold rT1 gV;rw[bW];omega)|(have h8:=zT h0;omega)|(have h8:=yH h0;show(((jE r.kind.toNat).toNat:Nat):Int)=r.kind;rw[xA];omega)|(exact cm (gz fO (as7 (l:=[jE r.kind.toNat]) (m:=rT1 r))))|(exact cm (gz fO (as7 (l:=dV r.a.toNat) (m:=rT2 r))))|(rw[atr (r:=r) (by rw[hrk];decide)];unfold gV;rw[bW];omega)|(refine cm (gz fO ?_);show(rT2 r).getD ((dV r.b.toNat).length+j) 0=r.x.getD j 0;rw[atr (r:=r) (by rw[hrk];decide)];exact as7 (l:=dV r.b.toNat) (m:=r.x))
theorem auS(r:aT)(h0:iR r=true)(hrk:r.kind=4):aQ 150 [.d (dB (jE r.kind.toNat::rT1 r))] (bQ [yc r,.b true]):=by
 refine asz Tryz.func150 λX=>?_
 (repeat' (first|refine T.cut (x:=.region 4 _ _) ⟨58,[(2,.ptr 0 0),(3,.b false),(4,.ptr 1 0),(0,.d (dB (rT1 r)))],⟨[(0,.blk 4 (iE 138)),(1,.blk 4 (pC (iV r.kind) (iV 0) (iV 0)))],2⟩⟩ ?_ ?_|refine T.cut (x:=.region 8 _ _) ⟨58,[(2,.ptr 0 0),(3,.b false),(4,.ptr 1 0),(0,.d (dB (rT2 r)))],⟨[(0,.blk 4 (iE 138)),(1,.blk 4 (pC (iV r.kind) (iV r.a) (iV 0)))],2⟩⟩ ?_ ?_|refine ai.mk (λh=>au (aS h) (by rw[ny];omega)) (λh=>?_)|refine oz ?_|refine asD 8 [6] [o0,o0,o2,o2,o2,o0,o1,o3] ?_|refine asD 9 [0] [o1,o2,o2,o3,o3] ?_|refine mc ?_ ?_|refine asL (λh=>?_)|refine asA (atq r.a.toNat (rT2 r) (by have:=zT h0;omega)) ?_|refine ae.tell (adT r.x (by have:=zT h0;omega)) ⟨vq (gz (λl=>V.d (dB l)) (auw (r:=r) (by rw[hrk];decide))) tv,tv⟩ ?_|refine as8 EK ?_|refine ai.n (λh=>?_)|refine ag.a ?_|exact asM rfl ⟨asK ⟨⟨vw,vq (gz iV (show(0:Int)=r.b from (((zT h0).2.2.2.2.2.1 (by rw[hrk];rfl)).1).symm)) tv⟩,qV⟩,qV,tv⟩|refine ag.mk ?_ ?_))<;>(try(refine dh.mk ?_;repeat' (first|exact tv|exact rfl|refine asL (λh=>?_)|refine asP EK ?_|refine an ?_ ?_|refine ag.mk ?_ ?_)))
 all_goals try exact aB
 all_goals (try(refine aV.mk rfl qN qN ?_ ?_ <;> repeat' (first|exact tv|exact qV|refine VW.sl ?_ (λj hj k hk=>asB ?_)|exact qW|refine vq (gz iV ?_) tv|refine an ⟨nb rfl,af.blk ?_⟩ ?_|refine an ?_ ?_)))
 all_goals first|exact rfl|(have h8:=zT h0;simp only[dQ];omega)|(rw[ny];omega)|(have h8:=((jE r.kind.toNat::rT1 r).getD (Int.toNat 0) 0).toNat_lt;simp only[dQ];omega)|(unfold rT1 gV;rw[bW];omega)|(have h8:=zT h0;omega)|(have h8:=yH h0;show(((jE r.kind.toNat).toNat:Nat):Int)=r.kind;rw[xA];omega)|(exact cm (gz fO (as7 (l:=[jE r.kind.toNat]) (m:=rT1 r))))|(exact cm (gz fO (as7 (l:=dV r.a.toNat) (m:=rT2 r))))
theorem au5(r:aT)(h0:iR r=true):aQ 150 [.d (dB (jE r.kind.toNat::rT1 r))] (bQ [yc r,.b true]):=by
 have h:=yH h0;rcases(show r.kind=1\/r.kind=2\/r.kind=3\/r.kind=4 by omega) with e|e|e|e
 ·exact auV r h0 e
 ·exact auU r h0 e
 ·exact auT r h0 e
 ·exact auS r h0 e
theorem ae1{s:bP}{r:aT}(hk:r.kind=1)(h:mF s r=true):s.floor<=r.a:=by
 unfold mF at h;rw[if_pos hk]at h;exact aS h
theorem Sm{s:bP}{r:aT}(hk:r.kind=2)(h:mF s r=true):s.term<=r.a/\(r.a=s.term->s.gZ=0\/s.gZ=r.b):=by
 unfold mF at h;rw[if_neg qO,if_pos hk]at h;simp only[mr,Bool.or_eq_false_iff,fQ]at h;refine⟨by omega,λe=>?_⟩;have h2:=h.2;rw[show(r.a == s.term)=true by simp[e]]at h2;by_cases h3:s.gZ=0
 ·exact .inl h3
 ·right;simpa [h3] using h2
theorem ae0{s:bP}{r:aT}(hk:r.kind=3)(h:mF s r=true):r.a=s.log.length+1:=by
 unfold mF at h;rw[if_neg qO,if_neg qO,if_pos hk]at h;simpa using h
theorem aeZ{s:bP}{r:aT}(hk:r.kind=4)(h:mF s r=true):r.a<=s.log.length:=by
 unfold mF at h;rw[if_neg qO,if_neg qO,if_neg qO]at h;exact aS h
theorem ap5{s:bP}{r:aT}(hk:r.kind=1):qh s r={ s with floor:=r.a }:=by unfold qh;rw[if_pos hk]
theorem ap4{s:bP}{r:aT}(hk:r.kind=2):qh s r={ s with term:=r.a,gZ:=r.b }:=by unfold qh;rw[if_neg qO,if_pos hk]
theorem ap3{s:bP}{r:aT}(hk:r.kind=3):qh s r={ s with log:=s.log++[⟨r.b,r.x⟩] }:=by unfold qh;rw[if_neg qO,if_neg qO,if_pos hk]
theorem ap2{s:bP}{r:aT}(hk:r.kind=4):qh s r={ s with log:=s.log.take (r.a-1).toNat }:=by unfold qh;rw[if_neg qO,if_neg qO,if_neg qO]
theorem aly(s:bP)(r:aT)(h0:iR r=true)(hrk:r.kind=1)(hf:mF s r=true)(hl:s.log.length<=200):aQ 102 [jc s,yc r] (bQ [jc ({ s with floor:=r.a }),iV 0]):=by
 refine asz Tryz.func102 λX=>?_
 (repeat' (first|refine oz ?_|refine asD 5 [0,6] [o1,o2,o2,o3,o3,o2,(1,1,true,[]),(2,2,false,[])] ?_|refine mc ?_ ?_|refine ai.n (λh=>?_)|refine asL (λh=>?_)|refine asA (GI r h0) ?_|refine asA (GU s (by omega)) ?_|refine as8 EK ?_|refine as3 [3] (ab5 s r (ae1 hrk hf)) ?_|refine ai.n (λh=>?_)|refine ag.a ?_|refine asM rfl vw))<;>(try(refine dh.mk ?_;repeat' (first|exact tv|exact rfl|refine ai.n (λh=>?_)|refine asL (λh=>?_)|refine asP EK ?_|refine asH [3] (ab5 s r (ae1 hrk hf)) ?_|refine an ?_ ?_|refine ag.mk ?_ ?_)))
 all_goals try exact aB
theorem alx(s:bP)(r:aT)(h0:iR r=true)(hrk:r.kind=2)(hf:mF s r=true)(hl:s.log.length<=200):aQ 102 [jc s,yc r] (bQ [jc ({ s with term:=r.a,gZ:=r.b }),iV 0]):=by
 refine asz Tryz.func102 λX=>?_
 (repeat' (first|refine oz ?_|refine asD 5 [0,6] [o1,o2,o2,o3,o3,o2,(1,1,true,[]),(2,2,false,[])] ?_|refine mc ?_ ?_|refine ai.n (λh=>?_)|refine asL (λh=>?_)|refine asA (GI r h0) ?_|refine asA (GU s (by omega)) ?_|refine as8 EK ?_|refine as3 [3] (acH s r (Sm hrk hf).1 (Sm hrk hf).2) ?_|refine ai.n (λh=>?_)|refine ag.a ?_|refine asM rfl vw))<;>(try(refine dh.mk ?_;repeat' (first|exact tv|exact rfl|refine ai.n (λh=>?_)|refine asL (λh=>?_)|refine asP EK ?_|refine asH [3] (acH s r (Sm hrk hf).1 (Sm hrk hf).2) ?_|refine an ?_ ?_|refine ag.mk ?_ ?_)))
 all_goals try exact aB
theorem alu(s:bP)(r:aT)(h0:iR r=true)(hrk:r.kind=4)(hf:mF s r=true)(hl:s.log.length<=200):aQ 102 [jc s,yc r] (bQ [jc ({ s with log:=s.log.take (r.a-1).toNat }),iV 0]):=by
 refine asz Tryz.func102 λX=>?_
 (repeat' (first|refine oz ?_|refine asD 5 [0,6] [o1,o2,o2,o3,o3,o2,(1,1,true,[]),(2,2,false,[])] ?_|refine mc ?_ ?_|refine asL (λh=>?_)|refine asA (GI r h0) ?_|refine asA (GU s (by omega)) ?_|refine as8 EK ?_|refine as3 [3] (aen s r ⟨by have:=yH h0;rw[hrk]at this;exact this.2.2.1,aeZ hrk hf⟩ (by omega)) ?_|refine ai.n (λh=>?_)|refine ag.a ?_|refine asM rfl vw))<;>(try(refine dh.mk ?_;repeat' (first|exact tv|exact rfl|refine asL (λh=>?_)|refine asP EK ?_|refine asH [3] (aen s r ⟨by have:=yH h0;rw[hrk]at this;exact this.2.2.1,aeZ hrk hf⟩ (by omega)) ?_|refine an ?_ ?_|refine ag.mk ?_ ?_)))
 all_goals try exact aB
theorem alv(s:bP)(r:aT)(h0:iR r=true)(hrk:r.kind=3)(hf:mF s r=true)(hl:s.log.length<=200):aQ 102 [jc s,yc r] (bQ [jc ({ s with log:=s.log++[⟨r.b,r.x⟩] }),iV 0]):=by
 refine asz Tryz.func102 λX=>?_
 (repeat' (first|refine oz ?_|refine asD 5 [0,6] [o1,o2,o2,o3,o3,o2,(1,1,true,[]),(2,2,false,[])] ?_|refine mc ?_ ?_|refine ai.n (λh=>?_)|refine asL (λh=>?_)|refine asA (GI r h0) ?_|refine asP (apY s (by omega)) ?_|refine as8 EK ?_|refine as3 [6,5] (ab9 s r (ae0 hrk hf) (by omega) (by have:=zT h0;omega)) ?_|refine ai.n (λh=>?_)|refine ag.a ?_|refine Fin.dC (i:=5) (h:=λj=>qx ((s.log++[dm.mk r.b r.x]).getD j .z)) iw (Fin.tell (asG [jc ({ s with log:=s.log++[⟨r.b,r.x⟩] }),iV 0] rfl fr vw))))<;>(try(refine dh.mk ?_;repeat' (first|exact tv|exact rfl|refine ai.n (λh=>?_)|refine asL (λh=>?_)|refine asP EK ?_|refine asH [6,5] (ab9 s r (ae0 hrk hf) (by omega) (by have:=zT h0;omega)) ?_|refine an ?_ ?_|refine ag.mk ?_ ?_)))
 all_goals try exact aB
theorem apN{f:aY}(h:nR f=true):(bif bif !decide (((gI f.num f.aJ).2:Int)=0) then true else bif decide (f.aJ=0) then decide (0<(f.b.length:Int)) else false then true else bif decide (f.aJ=2) then !decide ((f.n:Int)=0) else false)=false:=by
 rw[(Ru h).1];obtain⟨_,_,h3|h3⟩:=xB h
 ·rw[h3.1,h3.2];rfl
 ·rw[h3.1,h3.2];rfl
theorem QC(a f:aY):aQ 122 [wW a,wW f] (.b (!(wG a f))):=by
 refine asz Tryz.func122 λX=>?_
 (repeat' (first|refine oz ?_|refine ag.a ?_|refine Fin.tell (vq (gz V.b ?_) tv)))<;>try exact aB
 all_goals ((simp[zG,wG]at *;grind))
theorem ad2(f:aY)(hf:f.fit):aQ 175 [wW f] (.d (dB (iJ f))):=by
 have q1:=Gx f.num f.aJ;have q2:=uY f.n;have q3:=uY f.b.length;have q4:=hf.2.2.2.2.2;have e1:f.aJ=0->iJ f=(gI f.num f.aJ).1++dV f.n:=λh=>by unfold iJ;rw[if_pos h]
 have e2:¬f.aJ=0->iJ f=(gI f.num f.aJ).1++dV f.b.length++f.b:=λh=>by unfold iJ;rw[if_neg h,kE]
 refine asz Tryz.func175 λX=>?_
 (repeat' (first|refine oz ?_|refine asD 4 [6,9] [o0,o0,o0,o0,o0,o0,o1,o2,o2,(1,1,true,[]),(2,2,false,[])] ?_|refine mc ?_ ?_|refine asP (alZ f.num f.aJ ⟨hf.1,hf.2.1⟩ ⟨hf.2.2.1,hf.2.2.2.1⟩) ?_|refine asA (Qu f.n hf.2.2.2.2.1) ?_|refine asN (Qu f.b.length (by have:=hf.2.2.2.2.2;omega)) ?_|refine ai.mk (λh=>?_) (λh=>?_)|refine ag.a ?_|refine Fin.bytes rfl rfl ?_ ?_|refine ag.mk ?_ ?_))<;>(try(refine dh.mk ?_;repeat' (first|exact tv|exact rfl|refine asA (Qu f.b.length (by have:=hf.2.2.2.2.2;omega)) ?_|refine an ?_ ?_|refine ag.mk ?_ ?_)))
 all_goals try exact aB
 all_goals first|(rw[e1 (aS h)];simp only[bW];done)|(rw[e1 (aS h)];exact λj _=>AV rfl (λ_=>rfl) (λ_=>rfl) j)|(rw[e2 (bJ h)];simp only[bW];done)|(rw[e2 (bJ h)];exact λj _=>AV (by simp) (AV rfl (λ_=>rfl) (λ_=>rfl)) (λ_=>rfl) j)
theorem acW(l:List aY)(hl:oV l):aQ 124 [.d (iW l)] (iV 0):=by
 refine asz Tryz.func124 λX=>?_
 (repeat' (first|refine oz ?_|refine asD 8 [] [o0,o0,o0,o0,o0,o0,o0,o0,o0,o0,o0] ?_|refine mc ?_ ?_|refine asI (c:=.seq (.seq (.region 2 _ _) _) _) l.length (λi (a:Unit)=>⟨81,[(0,.d (iW l)),(3,iV i)],e0⟩) (λ_ _=>True) () ?_ True.intro (λi a hi hp=>?_)|refine asI (c:=.seq (.seq (.region 14 _ _) _) _) l.length (λi (a:Nat)=>⟨81,[(0,.d (iW l)),(7,iV a),(8,iV i)],e0⟩) (λi a=>a=(bF (l.take i)).length) 0 ?_ ?_ (λi a hi hp=>?_)|refine aU () ⟨?_,tv,?_⟩|refine aU (a+(iJ (l.getD i .z)).length) ⟨?_,?_,?_⟩|refine asA (alY (l.getD i .z).num (l.getD i .z).aJ ⟨(hl.fit i (by have h9:=aS ‹decide ((i:Int)<(l.length:Int))=true›;omega)).1,(hl.fit i (by have h9:=aS ‹decide ((i:Int)<(l.length:Int))=true›;omega)).2.1⟩ ⟨(hl.fit i (by have h9:=aS ‹decide ((i:Int)<(l.length:Int))=true›;omega)).2.2.1,(hl.fit i (by have h9:=aS ‹decide ((i:Int)<(l.length:Int))=true›;omega)).2.2.2.1⟩) ?_|refine asA (ad2 (l.getD i .z) (hl.fit i (by have h9:=aS ‹decide ((i:Int)<(l.length:Int))=true›;omega))) ?_|refine asN (QC (l.getD ((i:Int)-1).toNat .z) (l.getD i .z)) ?_|refine ai.mk (λh=>?_) (λh=>?_)|refine ag.a ?_|refine Fin.tell (vq (gz iV ?_) tv)|refine ag.mk ?_ ?_))<;>(try(refine dh.mk ?_;repeat' (first|exact tv|exact rfl|refine aU _ (ed (λht=>ae.tell (QC (l.getD ((i:Int)-1).toNat .z) (l.getD i .z)) ⟨agg,agg,tv⟩ ⟨rfl,rfl⟩) ?_)|refine an ?_ ?_|refine ag.mk ?_ ?_)))
 all_goals try exact aB
 all_goals first|exact au ((apN (hl.alone i om)).symm.trans h) (by decide)|((try simp only[fC,fQ]at *);have h9:i<l.length:=(by omega);have h8:=I8 (hl.fit i h9);have h7:=IE hl i;have h6:=hl.len;have h5:=hl.Ii i h9;first|omega|(simp only[dQ];omega)|(exfalso;by_cases h0:0<i <;> first|(have h4:=hl.Hq i h0 h9;simp_all;done)|(simp_all;done)|(simp_all;omega))|(rw[hp,lX aY.z h9,KI,bW];done))|((try simp only[fC,fQ]at *);have h7:=IE hl i;exfalso;omega)
theorem agI(num since:Int)(kz:Bool):aQ 215 [iV num,iV since,.b kz] (DT ⟨num,0,since,kz,false⟩):=by
 refine asz Tryz.func215 λX=>?_
 (repeat' (first|refine oz ?_|refine ag.a ?_|refine Fin.tell agg))<;>try exact aB
theorem ahQ(num since:Int)(kz many:Bool):aQ 216 [iV num,iV since,.b kz,.b many] (DT ⟨num,2,since,kz,many⟩):=by
 refine asz Tryz.func216 λX=>?_
 (repeat' (first|refine oz ?_|refine ag.a ?_|refine Fin.tell agg))<;>try exact aB
theorem amh  : aQ 174 [iV 1] (.d (wK (nK 1))):=by
 refine asz Tryz.func174 λX=>?_
 (repeat' (first|refine oz ?_|refine asA (agI _ _ _) ?_|refine asA (ahQ _ _ _ _) ?_|refine asL (λh=>?_)|refine ag.a ?_|refine atj (C:=BP) (z:=kD.z) (L:=nK 1) rfl rfl ?_ ?_))<;>try exact aB
 all_goals (intro j hj k hk;(rcases j with _|_|_|_|_|_|_|_|j) <;> (rcases k with _|_|_|_|_|k) <;> first|omega|kernel_rfl)
theorem abo(version:Int)(h1:1<=version)(h3:version<=3):aQ 123 [iV 1,iV version] (.d (wK (eG 1 version))):=by
 have hl:=VY 1;refine asz Tryz.func123 λX=>?_
 (repeat' (first|refine oz ?_|refine asI (nK 1).length (λi (a:List kD)=>⟨40,[(1,iV version),(5,.row 0 a.length),(6,.d (wK (nK 1))),(7,iV i)],⟨[(0,dw 214 5 BP .z a)],1⟩⟩) (λi a=>a=((nK 1).take i).filter (λs=>decide (s.since<=version))/\a.length<=i) [] ?_ ?_ (λi a hi hp=>?_)|refine asA (amh) ?_|refine ai.mk (λh=>?_) (λh=>?_)|refine ag.a ?_|refine atj (C:=BP) (z:=kD.z) (L:=eG 1 version) rfl rfl ?_ ?_|refine ag.mk ?_ ?_))<;>try exact aB
 all_goals (try(first|(have hh:=h;rw[bg h1,bg h3]at hh;have hh:((nK 1).getD i .z).since<=version:=aS hh;refine aU (a++[(nK 1).getD i .z]) ⟨?_,⟨?_,?_⟩,?_⟩)|(have hh:=h;rw[bg h1,bg h3]at hh;have hh:¬((nK 1).getD i .z).since<=version:=bJ hh;refine aU a ⟨?_,⟨?_,?_⟩,?_⟩)))
 all_goals (try(refine aV.mk rfl qN qN ?_ ?_ <;> repeat' (first|exact tv|exact qV|exact qW|refine vq (gz (V.row _) ?_) qN|refine an ⟨nb rfl,af.row ?_ (λj hj k hk=>vq ?_ trivial)⟩ ?_|refine an ?_ ?_)))
 all_goals first|(exact⟨rfl,bu _⟩)|(simp;done)|(simp only[dQ];omega)|omega|((try simp only[fC,fQ,mr,nO]at *);have h9:i<(nK 1).length:=(by omega);obtain⟨hp1,hp2⟩:=hp;first|omega|(simp;omega)|(rw[Pe kD.z _ h9,<-hp1,if_pos (bg hh)];done)|(rw[Pe kD.z _ h9,<-hp1,if_neg (by rw[aX hh];decide),pG];done)|(refine A7 rfl (by simp;omega) fr (λj hj=>?_);obtain rfl:j=0:=(by simp at hj;omega);rcases k with _|_|_|_|_|k <;> first|rfl|omega))|(have h:=bJ h;have e:i=(nK 1).length:=(by omega);have e2:a=eG 1 version:=(by rw[hp.1,e,oJ];unfold eG;rw[if_neg (by omega)]);subst e2;first|rfl|exact λj hj k hk=>rfl)
theorem aoo(version:Int)(h1:1<=version)(h3:version<=3):aQ 83 [iV 1,iV version] (iV (Fa 1 version)):=by
 have hl:=aax 1 version;refine asz Tryz.func83 λX=>?_
 (repeat' (first|refine oz ?_|refine asI (eG 1 version).length (λi (a:Int)=>⟨25,[(5,iV a),(6,.d (wK (eG 1 version))),(7,iV i)],e0⟩) (λi a=>a=((eG 1 version).take i).foldl (λt s=>max t s.num) 0) 0 ?_ ?_ (λi a hi hp=>?_)|refine asA (abo version h1 h3) ?_|refine aU (max a ((eG 1 version).getD i .z).num) ⟨?_,?_,?_⟩|refine ai.mk (λh=>?_) (λh=>?_)|refine ag.a ?_|refine Fin.tell (vq (gz iV ?_) tv)|refine ag.mk ?_ ?_))<;>try exact aB
 all_goals first|((try simp only[fC,fQ,mr,nO]at *);have h9:i<(eG 1 version).length:=(by omega);first|omega|(rw[hp,Io _ _ kD.z h9];done))|((try simp only[fC,fQ,mr,nO]at *);have e:i=(eG 1 version).length:=(by omega);rw[hp,e,oJ];rfl)
def xq(l:List aY)(k:Int):Int:=(l.countP (λf=>decide (f.num=k)):Nat)
theorem ajs{l:List aY}{i:Nat}(h:i<l.length)(k:Int):xq (l.take (i+1)) k=xq (l.take i) k+(if (l.getD i .z).num=k then 1 else 0):=by
 unfold xq;rw[lX .z h,List.countP_append,List.countP_singleton];generalize l.getD i .z=f;by_cases e:f.num=k <;> simp[e]
theorem aoE(l:List aY)(k:Int):0<=xq l k/\xq l k<=l.length:=by
 have:=List.countP_le_length (p:=λf:aY=>decide (f.num=k)) (l:=l);unfold xq;omega
structure SQ (jS:List kD) (l:List aY):Prop where
 ok:oV l
 ne:0<jS.length
 len:jS.length<=10
 Zd:∀ i,i<l.length->∀ j,j<jS.length->(l.getD i .z).num=(jS.getD j .z).num->(l.getD i .z).aJ=(jS.getD j .z).aJ/\((l.getD i .z).aJ=0->(l.getD i .z).n≠0)/\((l.getD i .z).aJ=2->(l.getD i .z).b≠[])
 kz:∀ j,j<jS.length->(jS.getD j .z).kz=true->xq l (jS.getD j .z).num≠0
 one:∀ j,j<jS.length->xq l (jS.getD j .z).num<=1
theorem aev{p:Prop}[Decidable p](h:(!decide p)=true):¬p:=by simpa using h
theorem XH{p:Prop}[Decidable p](h:(!decide p)=false):p:=by simpa using h
theorem apO{jS:List kD}{l:List aY}(hc:SQ jS l){i j:Nat}(hi:i<l.length)(hj:j<jS.length)(h:(l.getD i .z).num=(jS.getD j .z).num) :
  (bif (bif !decide ((l.getD i .z).aJ=(jS.getD j .z).aJ) then true else (bif decide ((l.getD i .z).aJ=0) then decide (((l.getD i .z).n:Int)=0) else false)) then true else (bif decide ((l.getD i .z).aJ=2) then decide (((l.getD i .z).b.length:Int)=0) else false))=false:=by
 obtain⟨h1,h2,h3⟩:=hc.Zd i hi j hj h;rw[bg h1];by_cases e:(l.getD i .z).aJ=0
 ·rw[bg e,aX (show ¬(((l.getD i .z).n:Int)=0) by have:=h2 e;omega),aX (show ¬(l.getD i .z).aJ=2 by omega)];rfl
 ·rw[aX e];by_cases e2:(l.getD i .z).aJ=2
  ·rw[bg e2,aX (show ¬(((l.getD i .z).b.length:Int)=0) from λh=>h3 e2 (uw qO))];rfl
  ·rw[aX e2];rfl
theorem aot{jS:List kD}{l:List aY}(hc:SQ jS l){i j:Nat}(hi:l.length<=i)(hj:j<jS.length) :
  (bif (bif decide (1<xq (l.take i) (jS.getD j .z).num) then !(jS.getD j .z).many else false) then true else (bif decide (xq (l.take i) (jS.getD j .z).num=0) then (jS.getD j .z).kz else false))=false:=by
 rw[lW hi,aX (show ¬1<xq l (jS.getD j .z).num by have:=hc.one j hj;omega)];cases h:(jS.getD j .z).kz
 ·cases decide (xq l (jS.getD j .z).num=0) <;> rfl
 ·rw[aX (hc.kz j hj h)];rfl
theorem ajd(version:Int)(h1:1<=version)(h3:version<=3)(l:List aY)(hc:SQ (eG 1 version) l):aQ 81 [iV 1,iV version,.d (iW l)] (iV 0):=by
 have hne:=hc.ne;have hsl:=hc.len;have hln:=hc.ok.len;refine asz Tryz.func81 λX=>?_
 (repeat' (first|refine oz ?_|refine asD 15 [] [o0,o0,o0,o0,o0,o0,o0,o0] ?_|refine asD 17 [] [o0,o0,o0,o0,o0,o0,o0,o0,o0,o0,o0,o0,o0,o0,o0,o0,o0,o0,o0,o0,o0,o0,o0,o0,o0,o0,o0,o0,o0,o0,o0,o0,o0,o0,o0,o0,o0,o0,o0,o0,o0] ?_|refine mc ?_ ?_|refine asI (c:=.seq (.seq (.region 13 _ _) _) _) l.length (λi (a:Unit)=>⟨106,[(2,.d (iW l)),(7,.d (wK (eG 1 version))),(9,iV j),(10,.ptr 0 0),(11,iV (xq (l.take i) ((eG 1 version).getD j .z).num)),(12,iV i)],⟨[(0,.blk 5 (λk=>.d (BP ((eG 1 version).getD j .z) k)))],1⟩⟩) (λ_ _=>True) () ?_ True.intro (λi a hi hp=>?_)|refine asI (c:=.seq (.seq (.region 8 _ _) _) _) (eG 1 version).length (λj (b:Unit)=>⟨106,[(2,.d (iW l)),(7,.d (wK (eG 1 version))),(9,iV j)],e0⟩) (λ_ _=>True) () ?_ True.intro (λj b hj hq=>?_)|refine ai.n (λh=>?_)|refine ai.mk (λh=>au ((apO hc (by have h9:=aS (aj:decide ((i:Int)<(l.length:Int))=true);omega) (by have h9:=aS (aj:decide ((j:Int)<((eG 1 version).length:Int))=true);omega) (show(l.getD i .z).num=((eG 1 version).getD j .z).num from XH aj)).symm.trans h) (by decide)) (λh=>?_)|refine ai.mk (λh=>au ((aot hc (by have h9:=bJ (aj:decide ((i:Int)<(l.length:Int))=false);omega) (by have h9:=aS (aj:decide ((j:Int)<((eG 1 version).length:Int))=true);omega)).symm.trans h) (by decide)) (λh=>?_)|refine asA (abo version h1 h3) ?_|refine asA (acW l hc.ok) ?_|refine aU () ⟨?_,tv,?_⟩|refine ai.n (λh=>?_)|refine ai.mk (λh=>?_) (λh=>?_)|refine ag.a ?_|refine Fin.tell (vq (gz iV ?_) tv)|refine ag.mk ?_ ?_))<;>(try(refine dh.mk ?_;repeat' (first|exact tv|exact rfl|refine an ?_ ?_|refine ag.mk ?_ ?_)))
 all_goals try exact aB
 all_goals (try(refine aV.mk rfl qN qN ?_ ?_ <;> repeat' (first|exact tv|exact qV|exact qW|refine vq (gz iV ?_) tv|refine an ⟨nb rfl,af.blk ?_⟩ ?_|refine an ?_ ?_)))
 all_goals first|(have h8:j<(eG 1 version).length:=(by have h9:=aS (aj:decide ((j:Int)<((eG 1 version).length:Int))=true);omega);have h9:i<l.length:=(by have h9:=aS (aj:decide ((i:Int)<(l.length:Int))=true);omega);have q1:=aoE (l.take i) ((eG 1 version).getD j .z).num;have q2:(l.take i).length<=i:=(by rw[dP];omega);have q3:=ajs h9 ((eG 1 version).getD j .z).num;first|omega|(simp only[dQ];omega)|(rw[q3,if_neg (show ¬(l.getD i .z).num=((eG 1 version).getD j .z).num from aev h),Int.add_zero];done)|(rw[q3,if_pos (show(l.getD i .z).num=((eG 1 version).getD j .z).num from XH aj)];done))|(have h8:j<(eG 1 version).length:=(by have h9:=aS (aj:decide ((j:Int)<((eG 1 version).length:Int))=true);omega);(omega))
def fN(f:aY):Nat:=if f.aJ=0 then f.n else f.b.length
def yB(f:aY):Nat:=(gI f.num f.aJ).1.length
theorem QD{f:aY}(h:nR f=true):iJ f=(gI f.num f.aJ).1++(dV (fN f)++f.b):=by
 rw[I9];unfold fN;obtain⟨_,_,h3|h3⟩:=xB h
 ·rw[if_pos h3.1,if_pos h3.1,h3.2,pG]
 ·rw[if_neg qO,if_neg qO]
theorem VO{f:aY}(h:nR f=true):(iJ f).length=yB f+(gV (fN f)+f.b.length):=by
 rw[QD h,bW,bW];rfl
theorem ahE{l:List aY}(hl:oV l){i:Nat}(h:i<l.length):aQ 119 [.d (dB ((bF l).drop (bF (l.take i)).length))] (bQ [iV (iJ (l.getD i .z)).length,iV 0]):=by
 have hz:=hl.size;have:=aiZ ((bF l).drop (bF (l.take i)).length) (by rw[fE];omega);unfold SI at this;rw[AP h,aar (hl.alone i h) (hl.fit i h) (hl.Ii i h)]at this;rw[AP h];exact this
theorem ahC{l:List aY}(hl:oV l){i:Nat}(h:i<l.length):aQ 120 [.d (dB ((bF l).drop (bF (l.take i)).length))] (bQ [iV (l.getD i .z).num,iV (l.getD i .z).aJ,iV (yB (l.getD i .z)),iV 0]):=by
 have hz:=hl.size;have:=aiY ((bF l).drop (bF (l.take i)).length) (by rw[fE];omega);unfold SH at this;rw[AP h]at this ⊢;rw[QD (hl.alone i h),kE]at this ⊢;rw[Py (hl.alone i h)]at this;obtain⟨h1,h2,h3⟩:=xB (hl.alone i h);have e1:(((l.getD i .z).num.toNat:Nat):Int)=(l.getD i .z).num:=qO;have e2:(((l.getD i .z).aJ.toNat:Nat):Int)=(l.getD i .z).aJ:=qO;simp only[e1,e2]at this;exact this
theorem ahw{l:List aY}(hl:oV l){i:Nat}(h:i<l.length):aQ 121 [.d (dB (((bF l).drop (bF (l.take i)).length).drop (yB (l.getD i .z))))] (bQ [.d (.v (.int .u64 (fN (l.getD i .z)))),iV (gV (fN (l.getD i .z))),iV 0]):=by
 have hz:=hl.size;have hf:=hl.fit i h;have:=aiV (((bF l).drop (bF (l.take i)).length).drop (yB (l.getD i .z))) (by rw[fE,fE];omega);unfold SB at this;rw[AP h,QD (hl.alone i h),kE]at this ⊢;unfold yB at *;rw[List.drop_left,kE,wo _ _ (by unfold fN;have:=hf.2.2.2.2;split <;> omega)]at this;rw[List.drop_left,kE];exact this
theorem apL{l:List aY}(hl:oV l){i:Nat}(h:i<l.length):(bif decide (0<((l.take i).length:Int)) then !(wG ((l.take i).getD (((l.take i).length:Int)-1).toNat .z) (l.getD i .z)) else false)=false:=by
 have h1:=ad6 hl h;unfold Sr at h1;by_cases e:((l.take i).length:Int)=0
 ·rw[aX qO];rfl
 ·rw[aX e,di]at h1;rw[bg qO,h1];rfl
theorem afF{f:aY}(h:nR f=true)(hw:f.aJ=0):fN f=f.n/\f.b=[]:=by
 obtain⟨_,_,h3|h3⟩:=xB h
 ·exact⟨by unfold fN;rw[if_pos hw],h3.2⟩
 ·omega
theorem YI{f:aY}(h:nR f=true)(hw:¬f.aJ=0):fN f=f.b.length/\f.n=0:=by
 obtain⟨_,_,h3|h3⟩:=xB h
 ·omega
 ·exact⟨by unfold fN;rw[if_neg hw],h3.2⟩
theorem ajT{l:List aY}(hl:oV l){i:Nat}(h:i<l.length)(j:Nat):(((bF l).drop (bF (l.take i)).length).getD (yB (l.getD i .z)+gV (fN (l.getD i .z))+j) 0)=((l.getD i .z).b++bF (l.drop (i+1))).getD j 0:=by
 rw[AP h,QD (hl.alone i h),kE,kE];have e:yB (l.getD i .z)+gV (fN (l.getD i .z))+j=(gI (l.getD i .z).num (l.getD i .z).aJ).1.length+((dV (fN (l.getD i .z))).length+j):=by unfold yB;rw[Nat.add_assoc];rfl
 rw[e,bC,oW (Nat.le_add_right _ _),Nat.add_sub_cancel_left,oW (Nat.le_add_right _ _),Nat.add_sub_cancel_left,<-bC]
theorem ah9{a b:List UInt8}{j:Nat}(h:j<a.length):(a++b).getD j 0=a.getD j 0:=by rw[bC,bC,mO h]
theorem aqu{l:List aY}(hl:oV l){i:Nat}(h:i<l.length)(hw:¬(l.getD i .z).aJ=0){j k:Nat}(hk:k<1)(hj:j<(l.getD i .z).b.length){g:Nat->Nat->V} :
  appG 0 g (λj _=>.d (fO (((bF l).drop (bF (l.take i)).length).getD (((yB (l.getD i .z):Int)+(gV (fN (l.getD i .z)):Int)).toNat+j) 0))) j k = .d (fO ((l.getD i .z).b.getD j 0)):=by
 show V.d (fO (((bF l).drop (bF (l.take i)).length).getD (((yB (l.getD i .z):Int)+(gV (fN (l.getD i .z)):Int)).toNat+(j-0)) 0))=_;refine gz (λx=>V.d (fO x)) ?_;rw[Nat.sub_zero,show((yB (l.getD i .z):Int)+(gV (fN (l.getD i .z)):Int)).toNat=yB (l.getD i .z)+gV (fN (l.getD i .z)) by omega,ajT hl h,ah9 hj]
theorem aiE{N n k m M:Nat}{b:List UInt8}(hn:n=(b.drop m).length-k)(hM:m+k=M):VW N (.d (.sl n 1 (λj=>(λj _=>fO ((b.drop m).getD j 0)) (k+j)))) (.d (dB (b.drop M))):=by
 have:=@IW N n k (b.drop m) hn;rwa [List.drop_drop,hM]at this
theorem ahB(l:List aY)(hl:oV l):aQ 80 [.d (dB (bF l))] (bQ [.d (iW l),iV 0]):=by
 have hsz:=hl.size;have hln:=hl.len;refine asz Tryz.func80 λX=>?_
 (repeat' (first|refine T.dC (c:=.seq (.seq (.region 14 _ _) _) _) (i:=2) (h:=λj _=>fO ((l.getD i .z).b.getD j 0)) (jB.of qN rfl ?_) (T.le ⟨82,[(0,.d (dB ((bF l).drop (bF (l.take i)).length))),(4,.row 0 (l.take i).length),(5,iV (iJ (l.getD i .z)).length),(11,.ptr 1 0)],⟨[(0,dw 163 4 jW .z (l.take i)),(1,.blk 4 (λk=>.d (jW (l.getD i .z) k)))],2⟩⟩ ?_ (T.seq ?_))|refine T.le (c:=.seq (.seq (.region 14 _ _) _) _) ⟨82,[(0,.d (dB ((bF l).drop (bF (l.take i)).length))),(4,.row 0 (l.take i).length),(5,iV (iJ (l.getD i .z)).length),(11,.ptr 1 0)],⟨[(0,dw 163 4 jW .z (l.take i)),(1,.blk 4 (λk=>.d (jW (l.getD i .z) k)))],2⟩⟩ ?_ (T.seq ?_)|refine oz ?_|refine asD 14 [] [o0,o0,o0,o0,o0,o0,o0,o0,o0,o0,o0,o0,o0] ?_|refine mc ?_ ?_|refine asI l.length (λi (a:Unit)=>⟨82,[(0,.d (dB ((bF l).drop (bF (l.take i)).length))),(4,.row 0 (l.take i).length)],⟨[(0,dw 163 4 jW .z (l.take i))],1⟩⟩) (λi a=>True) () ?_ True.intro (λi a hi hp=>?_)|refine aU () ⟨?_,tv,?_⟩|refine ai.n (λh=>?_)|refine ai.mk (λh=>au h (by rw[apL hl (vM hi (by have h9:=aS ‹decide (0<(((bF l).drop (bF (l.take i)).length).length:Int))=true›;rw[fE]at h9;omega))];decide)) (λh=>?_)|refine asA (ahE hl (vM hi (by have h9:=aS ‹decide (0<(((bF l).drop (bF (l.take i)).length).length:Int))=true›;rw[fE]at h9;omega))) ?_|refine asA (ahC hl (vM hi (by have h9:=aS ‹decide (0<(((bF l).drop (bF (l.take i)).length).length:Int))=true›;rw[fE]at h9;omega))) ?_|refine ae.tell (ahw hl (vM hi (by have h9:=aS ‹decide (0<(((bF l).drop (bF (l.take i)).length).length:Int))=true›;rw[fE]at h9;omega))) ⟨IW rfl,tv⟩ ?_|refine asN (QC ((l.take i).getD (((l.take i).length:Int)-1).toNat .z) (l.getD i .z)) ?_|refine ai.n (λh=>?_)|refine ai.mk (λh=>?_) (λh=>?_)|refine ag.a ?_|refine atc (C:=jW) (z:=aY.z) (L:=l) rfl rfl ?_ ?_ qV|refine ag.mk ?_ ?_))<;>(try(refine dh.mk ?_;repeat' (first|exact tv|exact rfl|refine aU _ (ed (λht=>ae.tell (QC ((l.take i).getD (((l.take i).length:Int)-1).toNat .z) (l.getD i .z)) ⟨agg,agg,tv⟩ ⟨rfl,rfl⟩) ?_)|refine an ?_ ?_|refine ag.mk ?_ ?_)))
 all_goals try exact aB
 all_goals (try(refine aV.mk rfl qN qN ?_ ?_ <;> repeat' (first|exact tv|exact qV|exact qW|refine vq (gz (V.row _) ?_) qN|refine an ⟨nb rfl,asE rfl (λk hk=>asB ?_)⟩ ?_|refine an ⟨nb rfl,af.row ?_ (λj hj k hk=>asB ?_)⟩ ?_|exact aiE rfl (IC hl (vM hi (by have h9:=aS ‹decide (0<(((bF l).drop (bF (l.take i)).length).length:Int))=true›;rw[fE]at h9;omega))).1.symm|refine an ?_ ?_)))
 all_goals first|exact rfl|(have h9:i<l.length:=(vM hi (by have h9:=aS ‹decide (0<(((bF l).drop (bF (l.take i)).length).length:Int))=true›;rw[fE]at h9;omega));have q6:=VO (hl.alone i h9);intro j hj k hk;refine aqu hl h9 (bJ h) hk ?_;have qb:=(YI (hl.alone i h9) (bJ h)).1;omega)|(exact cm qV)|exact au hj nz|(have h9:=(vM hi (by have h9:=aS ‹decide (0<(((bF l).drop (bF (l.take i)).length).length:Int))=true›;rw[fE]at h9;omega));have ha:=hl.alone i h9;have hk:k<4:=hk;have hw:=aS h;refine cm ?_;rcases k with _|_|_|_|k;exact qV;exact qV;exact vq (gz (λn:Nat=>V.int .u64 n) (afF ha hw).1) tv;exact asQ (gz List.length (afF ha hw).2);omega)|(have h9:=(vM hi (by have h9:=aS ‹decide (0<(((bF l).drop (bF (l.take i)).length).length:Int))=true›;rw[fE]at h9;omega));have ha:=hl.alone i h9;have hk:k<4:=hk;have hw:=bJ h;refine cm ?_;rcases k with _|_|_|_|k;exact qV;exact qV;exact vq (gz (λn:Nat=>V.int .u64 n) (YI ha hw).2.symm) tv;refine vq (jR.trans (gz (λn=>V.d (D.sl n 1 (λj _=>fO ((l.getD i .z).b.getD j 0)))) (?_:_=(l.getD i .z).b.length))) tv;(have q6:=VO ha;have q9:=(YI ha hw).1;omega);omega)|(have h9:i<l.length:=(vM hi (by have h9:=aS ‹decide (0<(((bF l).drop (bF (l.take i)).length).length:Int))=true›;rw[fE]at h9;omega));obtain⟨q1,q2,q3⟩:=IC hl h9;have q4:(l.take i).length=i:=(by rw[dP];omega);have q5:(l.take (i+1)).length=i+1:=(by rw[dP];omega);have q6:=VO (hl.alone i h9);have q7:=hl.Ii i h9;have q8:((bF l).drop (bF (l.take i)).length).length=(bF l).length-(bF (l.take i)).length:=fE;have q9:=Ez (fN (l.getD i .z));have qa:yB (l.getD i .z)<=10:=Gx _ _;first|omega|(simp only[dQ];omega)|(intro h0;have h0:=aS h0;first|omega|(refine⟨rfl,?_,nb rfl⟩;omega))|(have hj:j<(l.take i).length+1:=hj;have hk:k<4:=hk;rw[lX aY.z h9];refine cm (oq rfl hj fr (λj hj=>?_));obtain rfl:j=0:=Nat.lt_one_iff.1 hj;rcases k with _|_|_|_|k;exact qV;exact qV;exact qV;exact qV;omega))|(have h9:=bJ h;rw[fE]at h9;have e:i=l.length:=(by rcases mP i l.length with h8|h8;exact au (IC hl h8).2 (by omega);omega);subst e;first|(rw[oJ];done)|(intro j hj k hk;rw[oJ]))
theorem ai0(l:List aY)(hl:oV l):aQ 127 [.d (iW l)] (bQ [.d (dB (bF l)),iV 0]):=by
 refine asz Tryz.func127 λX=>?_
 (repeat' (first|refine oz ?_|refine asI l.length (λi (a:List UInt8)=>⟨27,[(0,.d (iW l)),(5,.row 0 a.length),(6,iV i)],⟨[(0,iy a)],1⟩⟩) (λi a=>a=bF (l.take i)) [] ?_ ?_ (λi a hi hp=>?_)|refine aU (a++iJ (l.getD i .z)) ⟨?_,?_,?_⟩|refine asA (acW l hl) ?_|refine asA (ad2 (l.getD i .z) (hl.fit i (by have h9:=aS ‹decide ((i:Int)<(l.length:Int))=true›;omega))) ?_|refine ai.n (λh=>?_)|refine ai.mk (λh=>?_) (λh=>?_)|refine ag.a ?_|refine atc (C:=λb _=>fO b) (z:=0) (L:=bF l) rfl rfl ?_ ?_ qV|refine ag.mk ?_ ?_))<;>try exact aB
 all_goals (try(refine aV.mk rfl qN qN ?_ ?_ <;> repeat' (first|exact tv|exact qV|exact qW|refine vq (gz (V.row _) ?_) qN|refine an ⟨nb rfl,af.row ?_ (λj hj k hk=>vq ?_ trivial)⟩ ?_|refine an ?_ ?_)))
 all_goals first|omega|(simp[bF];done)|(obtain rfl:k=0:=(by omega);exact AV rfl (λ_=>rfl) (λ_=>rfl) j)|((try simp only[fC,fQ]at *);have h9:i<l.length:=(by omega);have h8:=I8 (hl.fit i h9);have h7:=IE hl i;have h6:=hl.len;have h5:=hl.Ii i h9;first|omega|(simp only[dQ];omega)|(rw[hp,lX aY.z h9,KI];done)|(rw[<-hp]at h7;refine⟨?_,?_⟩ <;> first|trivial|omega))|((try simp only[fC,fQ,mr,nO]at *);obtain rfl:i=l.length:=(by omega);rw[hp,oJ];done)|((try simp only[fC,fQ,mr,nO]at *);obtain rfl:i=l.length:=(by omega);have e:a=bF l:=(by rw[hp,oJ]);subst e;exact λj hj k hk=>rfl)
end Go.Proofs.YtnibdnahojjcgaaGreat
