/- A part of the proof. -/
import Derived.Test.YtnibdnahojjcgaaGreatB34
import Derived.Test.YtnibdnahojjcgaaGreatB35
namespace Go.Proofs.YtnibdnahojjcgaaGreat
set_option maxRecDepth 100000
set_option maxHeartbeats 16000000
set_option linter.unusedVariables false
set_option linter.unusedSimpArgs false
open Go.RowKit
theorem afD{x p:Bool}(h:(bif x == true then p else !false)=false):p=false:=by cases x;cases h;exact h
theorem aiN{v:Int}{x:gX}(h:BQ v x):(bif ((iU x.tag).toList == ({ data:=#[] }:ByteArray).toList) then true else decide (3<=v))=true:=by
 by_cases e:3<=v
 ·rw[bg e];cases ((iU x.tag).toList == ({ data:=#[] }:ByteArray).toList) <;> rfl
 ·rw[h.SL qO,show((iU ([]:List UInt8)).toList == ({ data:=#[] }:ByteArray).toList)=true from by rw[show({ data:=#[] }:ByteArray)=iU [] from rfl];simp];rfl
theorem ahp{v:Int}{x:gX}(h:BQ v x):(bif !x.held then true else decide (2<=v))=true:=by
 cases e:x.held
 ·rfl
 ·exact bg (h.held e)
theorem DX{x a b:Int}(h1:a<=x)(h2:x<=b):dN x a b=true:=bg ⟨h1,h2⟩
theorem Xg{α:Type}{key:α->Int}{dK:Int}{l:List α}{z:α}(h:pX key dK l){i:Nat}(hi:i<l.length):(bif decide ((i:Int)=0) then true else decide (key (l.getD ((i:Int)-1).toNat z)<key (l.getD i z)))=true:=by
 by_cases e:i=0
 ·rw[bg qO];rfl
 ·rw[aX qO,di];refine bg ?_;rw[show((i:Int)-1).toNat=i-1 by omega];have hp:=List.pairwise_iff_getElem.1 h.1 (i-1) i (by rw[lJ];omega) (by rw[lJ];omega) qO;rw[List.getElem_map,List.getElem_map]at hp;rw[bC,bC,dW hi,dW (show i-1<l.length by omega)];exact hp
theorem acS(x:gX)(next v:Int)(h:BQ v x)(h1:1<=x.id)(h2:x.id<=next-1)(hn:next<=100000000):aQ 45 [Yn x,iV next,iV v] (.b true):=by
 have hr:=h.row;have e1:=DX h1 h2;have e2:=DX h.set.1 h.set.2;have e3:=ahp h;have e4:=aiN h;have e5:decide (((iU x.tag).size:Int)<=16)=true:=(by rw[V5];exact bg (by have:=h.tag;omega));refine asz Tryz.func45 λX=>?_
 (repeat' (first|refine oz ?_|refine asA (QS x.chunks (by have:=(zQ h.row).2.1;omega)) ?_|refine aU _ (ed (λht=>ae.tell (MC _ _ _) vw ⟨rfl,rfl⟩) ?_)|refine ag.a ?_|refine Fin.tell (vq (gz V.b ?_) tv)|refine ag.mk ?_ ?_))<;>try exact aB
 all_goals (rw[hr,e1,e2,e3,e5];exact e4)
theorem apV{s:aZ}{v:Int}(h:kC s v):(bif decide (s.l7=0) then true else decide (3<=v))=true:=by
 by_cases e:3<=v
 ·rw[bg e];cases decide (s.l7=0) <;> rfl
 ·rw[h.Md qO];rfl
theorem aoj{s:aZ}{v:Int}(h:kC s v){i:Nat}(hi:i<s.aN.length):(bif (bif (bif (bif (bif true then dN (s.aN.getD i .z).bf 1 8 else false) then dN (s.aN.getD i .z).seq 0 1048576 else false) then dN (s.aN.getD i .z).last.code 0 99 else false) then dN (s.aN.getD i .z).last.n 0 1048576 else false) then (bif decide ((i:Int)=0) then true else decide ((s.aN.getD ((i:Int)-1).toNat .z).bf<(s.aN.getD i .z).bf)) else false)=true:=by
 have hm:s.aN.getD i .z∈s.aN:=iT hi;have h1:=h.Dy _ hm;have h2:=h.aN.2 _ hm;have h3:=h.tN _ hm;unfold tN at h3;rw[Dv,Dv]at h3;rw[DX (show 1<=(s.aN.getD i .z).bf by omega) h2,h3.1.1,h3.1.2,h3.2,Xg (z:=uS.z) h.aN hi];rfl
theorem amo{s:aZ}{v:Int}(h:kC s v){i:Nat}(hi:i<s.opens.length):(bif (bif (bif true then dN (s.opens.getD i .z).set 1 8 else false) then dN (s.opens.getD i .z).bf 1 8 else false) then (bif decide ((i:Int)=0) then true else decide ((s.opens.getD ((i:Int)-1).toNat .z).set<(s.opens.getD i .z).set)) else false)=true:=by
 have hm:s.opens.getD i .z∈s.opens:=iT hi;have h1:=h.Bl _ hm;have h2:=h.opens.2 _ hm;have h3:=h.tY _ hm;unfold tY at h3;rw[DX (show 1<=(s.opens.getD i .z).set by omega) h2,h3,Xg (z:=uo.z) h.opens hi];rfl
theorem aiM{s:aZ}{v:Int}(h:kC s v){i:Nat}(hi:i<s.ay.length):(bif (bif true then true else false) then (bif decide ((i:Int)=0) then true else decide ((s.ay.getD ((i:Int)-1).toNat .z).id<(s.ay.getD i .z).id)) else false)=true:=by
 rw[Xg (z:=gX.z) h.ay hi];rfl
theorem al3(s:aZ)(v:Int)(hv:kC s v):aQ 15 [jk s,iV v] (iV 0):=by
 have q1:=hv.mi.fit.l1;have q2:=hv.mi.fit.l2;have q3:=hv.len;refine asz Tryz.func15 λX=>?_
 (repeat' (first|refine oz ?_|refine asD 9 [] [o0,o0,o0,o0,o0,o0,o0,o0,o0,o0,o0,o0,o0,o0,o0,o0,o0,o0] ?_|refine asD 14 [] [o0,o0,o0,o0,o0,o0,o0,o0,o0,o0,o0,o0,o0,o0,o0,o0,o0,o0,o0,o0,o0,o0,o0,o0,o0,o0,o0,o0] ?_|refine asD 18 [] [o0,o0,o0,o0,o0,o0,o0,o0,o0,o0] ?_|refine asD 19 [] [o0,o0,o0,o0,o0,o0,o0,o0,o0,o0,o0,o0,o0,o0,o0,o0,o0,o0,o0,o0,o0,o0,o0,o0,o0] ?_|refine mc ?_ ?_|refine asI (c:=.seq (.seq (.region 5 _ _) _) _) s.aN.length (λi (a:Unit)=>⟨181,[(1,iV v),(2,.ptr 0 0),(5,.b true),(6,iV i)],⟨[(0,.blk 7 (λk=>.d (fH s k)))],1⟩⟩) (λ_ _=>True) () ?_ True.intro (λi a hi hp=>?_)|refine asI (c:=.seq (.seq (.region 11 _ _) _) _) s.opens.length (λi (a:Unit)=>⟨181,[(1,iV v),(2,.ptr 0 0),(5,.b true),(8,iV i)],⟨[(0,.blk 7 (λk=>.d (fH s k)))],1⟩⟩) (λ_ _=>True) () ?_ True.intro (λi a hi hp=>?_)|refine asI (c:=.seq (.seq (.region 16 _ _) _) _) s.ay.length (λi (a:Unit)=>⟨181,[(1,iV v),(2,.ptr 0 0),(5,.b true),(10,iV i)],⟨[(0,.blk 7 (λk=>.d (fH s k)))],1⟩⟩) (λ_ _=>True) () ?_ True.intro (λi a hi hp=>?_)|refine aU () ⟨?_,tv,?_⟩|refine asA (MC _ _ _) ?_|refine aU _ (ed (λht=>ae.tell (MC _ _ _) vw ⟨rfl,rfl⟩) ?_)|refine ai.mk (λh=>au ((show(!dN v 1 3)=false by rw[DX hv.v3.1 hv.v3.2];rfl).symm.trans h) (by decide)) (λh=>?_)|refine ai.n (λh=>?_)|refine asN (MC _ _ _) ?_|refine asN (acS (s.ay.getD i .z) s.next v (hv.sn (s.ay.getD i .z) (iT (z:=gX.z) (i:=i) (by have h9:=aS (aj:decide ((i:Int)<(s.ay.length:Int))=true);omega))) (by have:=hv.zN (s.ay.getD i .z) (iT (z:=gX.z) (i:=i) (by have h9:=aS (aj:decide ((i:Int)<(s.ay.length:Int))=true);omega));omega) (hv.ay.2 (s.ay.getD i .z) (iT (z:=gX.z) (i:=i) (by have h9:=aS (aj:decide ((i:Int)<(s.ay.length:Int))=true);omega))) (by have:=hv.next;omega)) ?_|refine ai.mk (λh=>?_) (λh=>?_)|refine ag.a ?_|refine Fin.tell (vq (gz iV ?_) tv)|refine ag.mk ?_ ?_))<;>(try(refine dh.mk ?_;repeat' (first|exact tv|exact rfl|refine aU _ (ed (λht=>ae.tell (MC _ _ _) vw ⟨rfl,rfl⟩) ?_)|refine asA (acS (s.ay.getD i .z) s.next v (hv.sn (s.ay.getD i .z) (iT (z:=gX.z) (i:=i) (by have h9:=aS (aj:decide ((i:Int)<(s.ay.length:Int))=true);omega))) (by have:=hv.zN (s.ay.getD i .z) (iT (z:=gX.z) (i:=i) (by have h9:=aS (aj:decide ((i:Int)<(s.ay.length:Int))=true);omega));omega) (hv.ay.2 (s.ay.getD i .z) (iT (z:=gX.z) (i:=i) (by have h9:=aS (aj:decide ((i:Int)<(s.ay.length:Int))=true);omega))) (by have:=hv.next;omega)) ?_|refine an ?_ ?_|refine ag.mk ?_ ?_)))
 all_goals try exact aB
 all_goals (try(refine aV.mk rfl qN qN ?_ ?_ <;> repeat' (first|exact tv|exact qV|exact qW|refine vq (gz V.b ?_) tv|refine an ⟨nb rfl,asE rfl (λk hk=>asB ?_)⟩ ?_|refine an ?_ ?_)))
 all_goals first|exact cm qV|(rw[DX hv.oU.1 hv.oU.2,DX hv.next.1 hv.next.2,DX hv.keep.1 hv.keep.2,DX hv.l7.1 hv.l7.2,bg (show(s.ay.length:Int)<=16 by omega),apV hv];rfl)|(have h9:i<s.aN.length:=(by have h9:=aS (aj:decide ((i:Int)<(s.aN.length:Int))=true);omega);first|omega|(intro e;have e:=bJ (afD e);(omega))|exact aoj hv h9)|(have h9:i<s.opens.length:=(by have h9:=aS (aj:decide ((i:Int)<(s.opens.length:Int))=true);omega);first|omega|(intro e;have e:=bJ (afD e);(omega))|exact amo hv h9)|(have h9:i<s.ay.length:=(by have h9:=aS (aj:decide ((i:Int)<(s.ay.length:Int))=true);omega);first|omega|(intro h0;(have h0:=bJ h0;(omega)))|exact aiM hv h9)
end Go.Proofs.YtnibdnahojjcgaaGreat
