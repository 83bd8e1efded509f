/- A part of the proof. -/
import Derived.Test.YtnibdnahojjcgaaGreatB39
namespace Go.Proofs.YtnibdnahojjcgaaGreat
set_option maxRecDepth 100000
set_option maxHeartbeats 16000000
set_option linter.unusedVariables false
set_option linter.unusedSimpArgs false
open Go.RowKit
theorem EX{b:Bool}(h:(!b)=false):b=true:=by simpa using h
structure Yh (n:az) (x:aP):Prop where
 hx:jJ x
 cZ:x.kind=1
 hl:n.ah.log.length<=1000
 hL:lM n.ah (lK n.ah x).1
 hn:vI n
theorem abJ{n:az}{x:aP}(h:Yh n x):ae 106 [.ptr 0 0,jy x] (NS n) (NR (Bz n x)):=ajy n x h.hx h.cZ h.hl h.hL h.hn
structure Yg (n:az) (x:aP) (os:List (Option aI)):Prop where
 hx:jJ x
 cZ:x.kind=3
 jQ:x.a+x.l.length<=64
 hl:n.ah.log.length<=1000
 hL:lM n.ah (bi n.ah x).1
 hn:vI n
 pq:(aW n (bi n.ah x).1).1.ah.log.length<=1000
 xu:(!decide ((aW n (bi n.ah x).1).2=0))=false->(bi n.ah x).2.1=true->HY (D6 (ng (aW n (bi n.ah x).1).1 x) x (bi n.ah x).2.2) os
theorem aaN{n:az}{x:aP}{os:List (Option aI)}(h:Yg n x os):ae 107 [.ptr 0 0,jy x] (NS n) (NR (xH n x os)):=ah3 n x os h.hx h.cZ h.jQ h.hl h.hL h.hn h.pq h.xu
structure Yi (n:az) (x:aP) (m:Nat) (os:List (Option aI)):Prop where
 hL:lM n.ah (iI n.ah x.term)
 hn:vI n
 OC:0<=x.src
 hs:¬n.dn=0->x.src<n.fD.length/\x.src<n.iL.length/\n.iL.length<=100
 Eh:uF n x=false->Jb (mY n x) x=true->Rl (rO n x)=true->Ri (rO n x) m
 Kv:uF n x=false->Jb (mY n x) x=false->Jc (mY n x) x=true->Rj (mY n x) x os
theorem O9{n:az}{x:aP}{m:Nat}{os:List (Option aI)}(h:Yi n x m os):ae 108 [.ptr 0 0,jy x] (NS n) (NR (xE n x m os)):=agr n x m os h.hL h.hn h.OC h.hs h.Eh h.Kv
def mZ(n:az)(x:aP):az:={ n with dn:=bif decide (n.ah.term<x.term) then 0 else n.dn }
def DC(n:az)(x:aP)(m:Nat)(os:List (Option aI)):az×List aP×Int:=
 bif decide (x.kind=1) then Bz n x else bif decide (x.kind=3) then xH n x os else xE n x m os
def Gs(n:az)(x:aP)(m:Nat)(os:List (Option aI)):az×List aP×Int:=
 bif n.aA.down then (n,[],30) else bif !pR n x then (n,[],1) else DC (mZ n x) x m os
structure Hf (n:az) (x:aP) (m:Nat) (os:List (Option aI)):Prop where
 hx:x.l.length<=10000
 AO:x.kind=3->Aj x=0->jJ x/\x.a+x.l.length<=64
 hl:n.ah.log.length<=1000
 hr:(bi n.ah x).1.length<=100000
 sz:CE x.l
 kd:1<=x.kind/\x.kind<=4
 ask:n.aA.down=false->pR n x=true->x.kind=1->Yh (mZ n x) x
 Ua:n.aA.down=false->pR n x=true->x.kind=3->Yg (mZ n x) x os
 Kz:n.aA.down=false->pR n x=true->¬x.kind=1->¬x.kind=3->Yi (mZ n x) x m os
theorem adX{n:az}{x:aP}{m:Nat}{os:List (Option aI)}(h:x.kind=1):DC n x m os=Bz n x:=by
 unfold DC;rw[bg h];rfl
theorem adW{n:az}{x:aP}{m:Nat}{os:List (Option aI)}(h:x.kind=3):DC n x m os=xH n x os:=by
 unfold DC;rw[aX (show ¬x.kind=1 by omega),bg h];rfl
theorem Xi{n:az}{x:aP}{m:Nat}{os:List (Option aI)}(h:¬x.kind=1)(h3:¬x.kind=3):DC n x m os=xE n x m os:=by
 unfold DC;rw[aX h,aX h3];rfl
theorem agq(n:az)(x:aP)(m:Nat)(os:List (Option aI))(H:Hf n x m os)(cZ:x.kind=1):ae 70 [.ptr 0 0,jy x] (NS n) (NR (Gs n x m os)):=by
 refine asz Tryz.func70 λX=>?_
 (repeat' (first|refine T.cut (x:=.seq (.region 5 _ _) _) ⟨48,[(0,.ptr 0 0),(3,.ptr 8 0)],⟨NL (mZ n x)++[(8,.blk 10 (λk=>.d (jF x k)))],9⟩⟩ ?_ ?_|refine oz ?_|refine asD 5 [] [o0,o0,o0,o0,o0,o0,o0,o0,o0] ?_|refine asD 8 [6] [o0,o0,o0,o0,o0,o0,o1,o3,o3,o3,o3] ?_|refine mc ?_ ?_|refine ai.n (λh=>?_)|refine asL (λh=>?_)|refine asH [1,2] (yM n.aA) ?_|refine asH [0,1,2,3,4,5,6,7] (Q3 n x H.hx H.AO H.hl H.hr) ?_|refine asN (Dq x H.sz) ?_|refine as3 [0,1,2,3,4,5,6,7] (abJ (H.ask aj (EX aj) (by omega))) ?_|refine ai.mk (λh=>?_) (λh=>?_)|refine ag.a ?_|(refine nT.mk (p:=n.aA.down=true) ?_ ?_;(with_reducible_and_instances assumption);refine NR.of (p:=(n,[],30)) ?_ (asC qN qN (asG [.d (gu []),iV (30)] rfl fr vw) ?_))|(refine nT.mk (p:=(!pR n x)=true) ?_ ?_;(with_reducible_and_instances assumption);refine NR.of (p:=(n,[],1)) ?_ (asC qN qN (asG [.d (gu []),iV (1)] rfl fr vw) ?_))|refine NR.of (p:=(Bz (mZ n x) x)) ?_ (asC qN qN (asG [.d (gu (Bz (mZ n x) x).2.1),iV (Bz (mZ n x) x).2.2] rfl fr vw) ?_)))<;>(try(refine dh.mk ?_;repeat' (first|exact tv|exact rfl|refine ai.n (λh=>?_)|refine asL (λh=>?_)|refine asA (Dq x H.sz) ?_|refine asH [0,1,2,3,4,5,6,7] (abJ (H.ask aj (EX aj) (by omega))) ?_|refine an ?_ ?_|refine ag.mk ?_ ?_)))
 all_goals try exact aB
 all_goals (try(refine aV.mk rfl qN qN ?_ ?_ <;> repeat' (first|exact tv|exact qW|refine an ⟨nb rfl,asE rfl (λk hk=>asB ?_)⟩ ?_|refine an ⟨nb rfl,af.row ?_ (λj hj k hk=>asB ?_)⟩ ?_|refine an ?_ ?_)))
 all_goals first|exact rfl|exact cm qV|exact dF h|(exact(bz (aj:n.aA.down=false)).trans (dF (aj:(!pR n x)=true)))|(exact(bz (aj:n.aA.down=false)).trans ((bz (aj:(!pR n x)=false)).trans (adX cZ)))|(have hk:k<23:=hk;rcases k with _|_|_|_|_|_|_|_|_|_|_|_|_|_|_|_|_|_|_|_|_|_|_|k <;> first|exact cm qV|exact cm qW|exact cm (vq (gz iV (show(0:Int)=bif decide (n.ah.term<x.term) then 0 else n.dn by rw[h];rfl)) tv)|exact cm (vq (gz iV (show n.dn=bif decide (n.ah.term<x.term) then 0 else n.dn by rw[h];rfl)) tv))|exact kk|exact qM
theorem agn(n:az)(x:aP)(m:Nat)(os:List (Option aI))(H:Hf n x m os)(cZ:x.kind=3):ae 70 [.ptr 0 0,jy x] (NS n) (NR (Gs n x m os)):=by
 refine asz Tryz.func70 λX=>?_
 (repeat' (first|refine T.cut (x:=.seq (.region 5 _ _) _) ⟨48,[(0,.ptr 0 0),(3,.ptr 8 0)],⟨NL (mZ n x)++[(8,.blk 10 (λk=>.d (jF x k)))],9⟩⟩ ?_ ?_|refine oz ?_|refine asD 5 [] [o0,o0,o0,o0,o0,o0,o0,o0,o0] ?_|refine asD 8 [6] [o0,o0,o0,o0,o0,o0,o1,o3,o3,o3,o3] ?_|refine mc ?_ ?_|refine ai.n (λh=>?_)|refine asL (λh=>?_)|refine asH [1,2] (yM n.aA) ?_|refine asH [0,1,2,3,4,5,6,7] (Q3 n x H.hx H.AO H.hl H.hr) ?_|refine asN (Dq x H.sz) ?_|refine as3 [0,1,2,3,4,5,6,7] (aaN (H.Ua aj (EX aj) (by omega))) ?_|refine ai.mk (λh=>?_) (λh=>?_)|refine ag.a ?_|(refine nT.mk (p:=n.aA.down=true) ?_ ?_;(with_reducible_and_instances assumption);refine NR.of (p:=(n,[],30)) ?_ (asC qN qN (asG [.d (gu []),iV (30)] rfl fr vw) ?_))|(refine nT.mk (p:=(!pR n x)=true) ?_ ?_;(with_reducible_and_instances assumption);refine NR.of (p:=(n,[],1)) ?_ (asC qN qN (asG [.d (gu []),iV (1)] rfl fr vw) ?_))|refine NR.of (p:=(xH (mZ n x) x os)) ?_ (asC qN qN (asG [.d (gu (xH (mZ n x) x os).2.1),iV (xH (mZ n x) x os).2.2] rfl fr vw) ?_)))<;>(try(refine dh.mk ?_;repeat' (first|exact tv|exact rfl|refine ai.n (λh=>?_)|refine asL (λh=>?_)|refine asA (Dq x H.sz) ?_|refine asH [0,1,2,3,4,5,6,7] (aaN (H.Ua aj (EX aj) (by omega))) ?_|refine an ?_ ?_|refine ag.mk ?_ ?_)))
 all_goals try exact aB
 all_goals (try(refine aV.mk rfl qN qN ?_ ?_ <;> repeat' (first|exact tv|exact qW|refine an ⟨nb rfl,asE rfl (λk hk=>asB ?_)⟩ ?_|refine an ⟨nb rfl,af.row ?_ (λj hj k hk=>asB ?_)⟩ ?_|refine an ?_ ?_)))
 all_goals first|exact rfl|exact cm qV|exact dF h|(exact(bz (aj:n.aA.down=false)).trans (dF (aj:(!pR n x)=true)))|(exact(bz (aj:n.aA.down=false)).trans ((bz (aj:(!pR n x)=false)).trans (adW cZ)))|(have hk:k<23:=hk;rcases k with _|_|_|_|_|_|_|_|_|_|_|_|_|_|_|_|_|_|_|_|_|_|_|k <;> first|exact cm qV|exact cm qW|exact cm (vq (gz iV (show(0:Int)=bif decide (n.ah.term<x.term) then 0 else n.dn by rw[h];rfl)) tv)|exact cm (vq (gz iV (show n.dn=bif decide (n.ah.term<x.term) then 0 else n.dn by rw[h];rfl)) tv))|exact kk|exact qM
theorem agp(n:az)(x:aP)(m:Nat)(os:List (Option aI))(H:Hf n x m os)(cZ:x.kind=2):ae 70 [.ptr 0 0,jy x] (NS n) (NR (Gs n x m os)):=by
 refine asz Tryz.func70 λX=>?_
 (repeat' (first|refine T.cut (x:=.seq (.region 5 _ _) _) ⟨48,[(0,.ptr 0 0),(3,.ptr 8 0)],⟨NL (mZ n x)++[(8,.blk 10 (λk=>.d (jF x k)))],9⟩⟩ ?_ ?_|refine oz ?_|refine asD 5 [] [o0,o0,o0,o0,o0,o0,o0,o0,o0] ?_|refine asD 8 [6] [o0,o0,o0,o0,o0,o0,o1,o3,o3,o3,o3] ?_|refine mc ?_ ?_|refine ai.n (λh=>?_)|refine asL (λh=>?_)|refine asH [1,2] (yM n.aA) ?_|refine asH [0,1,2,3,4,5,6,7] (Q3 n x H.hx H.AO H.hl H.hr) ?_|refine asN (Dq x H.sz) ?_|refine as3 [0,1,2,3,4,5,6,7] (O9 (H.Kz aj (EX aj) (by omega) (by omega))) ?_|refine ai.mk (λh=>?_) (λh=>?_)|refine ag.a ?_|(refine nT.mk (p:=n.aA.down=true) ?_ ?_;(with_reducible_and_instances assumption);refine NR.of (p:=(n,[],30)) ?_ (asC qN qN (asG [.d (gu []),iV (30)] rfl fr vw) ?_))|(refine nT.mk (p:=(!pR n x)=true) ?_ ?_;(with_reducible_and_instances assumption);refine NR.of (p:=(n,[],1)) ?_ (asC qN qN (asG [.d (gu []),iV (1)] rfl fr vw) ?_))|refine NR.of (p:=(xE (mZ n x) x m os)) ?_ (asC qN qN (asG [.d (gu (xE (mZ n x) x m os).2.1),iV (xE (mZ n x) x m os).2.2] rfl fr vw) ?_)))<;>(try(refine dh.mk ?_;repeat' (first|exact tv|exact rfl|refine ai.n (λh=>?_)|refine asL (λh=>?_)|refine asA (Dq x H.sz) ?_|refine asH [0,1,2,3,4,5,6,7] (O9 (H.Kz aj (EX aj) (by omega) (by omega))) ?_|refine an ?_ ?_|refine ag.mk ?_ ?_)))
 all_goals try exact aB
 all_goals (try(refine aV.mk rfl qN qN ?_ ?_ <;> repeat' (first|exact tv|exact qW|refine an ⟨nb rfl,asE rfl (λk hk=>asB ?_)⟩ ?_|refine an ⟨nb rfl,af.row ?_ (λj hj k hk=>asB ?_)⟩ ?_|refine an ?_ ?_)))
 all_goals first|exact rfl|exact cm qV|exact dF h|(exact(bz (aj:n.aA.down=false)).trans (dF (aj:(!pR n x)=true)))|(exact(bz (aj:n.aA.down=false)).trans ((bz (aj:(!pR n x)=false)).trans (Xi (by omega) (by omega))))|(have hk:k<23:=hk;rcases k with _|_|_|_|_|_|_|_|_|_|_|_|_|_|_|_|_|_|_|_|_|_|_|k <;> first|exact cm qV|exact cm qW|exact cm (vq (gz iV (show(0:Int)=bif decide (n.ah.term<x.term) then 0 else n.dn by rw[h];rfl)) tv)|exact cm (vq (gz iV (show n.dn=bif decide (n.ah.term<x.term) then 0 else n.dn by rw[h];rfl)) tv))|exact kk|exact qM
theorem agm(n:az)(x:aP)(m:Nat)(os:List (Option aI))(H:Hf n x m os)(cZ:x.kind=4):ae 70 [.ptr 0 0,jy x] (NS n) (NR (Gs n x m os)):=by
 refine asz Tryz.func70 λX=>?_
 (repeat' (first|refine T.cut (x:=.seq (.region 5 _ _) _) ⟨48,[(0,.ptr 0 0),(3,.ptr 8 0)],⟨NL (mZ n x)++[(8,.blk 10 (λk=>.d (jF x k)))],9⟩⟩ ?_ ?_|refine oz ?_|refine asD 5 [] [o0,o0,o0,o0,o0,o0,o0,o0,o0] ?_|refine asD 8 [6] [o0,o0,o0,o0,o0,o0,o1,o3,o3,o3,o3] ?_|refine mc ?_ ?_|refine asL (λh=>?_)|refine asH [1,2] (yM n.aA) ?_|refine asH [0,1,2,3,4,5,6,7] (Q3 n x H.hx H.AO H.hl H.hr) ?_|refine asN (Dq x H.sz) ?_|refine as3 [0,1,2,3,4,5,6,7] (O9 (H.Kz aj (EX aj) (by omega) (by omega))) ?_|refine ai.mk (λh=>?_) (λh=>?_)|refine ag.a ?_|(refine nT.mk (p:=n.aA.down=true) ?_ ?_;(with_reducible_and_instances assumption);refine NR.of (p:=(n,[],30)) ?_ (asC qN qN (asG [.d (gu []),iV (30)] rfl fr vw) ?_))|(refine nT.mk (p:=(!pR n x)=true) ?_ ?_;(with_reducible_and_instances assumption);refine NR.of (p:=(n,[],1)) ?_ (asC qN qN (asG [.d (gu []),iV (1)] rfl fr vw) ?_))|refine NR.of (p:=(xE (mZ n x) x m os)) ?_ (asC qN qN (asG [.d (gu (xE (mZ n x) x m os).2.1),iV (xE (mZ n x) x m os).2.2] rfl fr vw) ?_)))<;>(try(refine dh.mk ?_;repeat' (first|exact tv|exact rfl|refine asL (λh=>?_)|refine asA (Dq x H.sz) ?_|refine asH [0,1,2,3,4,5,6,7] (O9 (H.Kz aj (EX aj) (by omega) (by omega))) ?_|refine an ?_ ?_|refine ag.mk ?_ ?_)))
 all_goals try exact aB
 all_goals (try(refine aV.mk rfl qN qN ?_ ?_ <;> repeat' (first|exact tv|exact qW|refine an ⟨nb rfl,asE rfl (λk hk=>asB ?_)⟩ ?_|refine an ⟨nb rfl,af.row ?_ (λj hj k hk=>asB ?_)⟩ ?_|refine an ?_ ?_)))
 all_goals first|exact rfl|exact cm qV|exact dF h|(exact(bz (aj:n.aA.down=false)).trans (dF (aj:(!pR n x)=true)))|(exact(bz (aj:n.aA.down=false)).trans ((bz (aj:(!pR n x)=false)).trans (Xi (by omega) (by omega))))|(have hk:k<23:=hk;rcases k with _|_|_|_|_|_|_|_|_|_|_|_|_|_|_|_|_|_|_|_|_|_|_|k <;> first|exact cm qV|exact cm qW|exact cm (vq (gz iV (show(0:Int)=bif decide (n.ah.term<x.term) then 0 else n.dn by rw[h];rfl)) tv)|exact cm (vq (gz iV (show n.dn=bif decide (n.ah.term<x.term) then 0 else n.dn by rw[h];rfl)) tv))|exact kk|exact qM
end Go.Proofs.YtnibdnahojjcgaaGreat
