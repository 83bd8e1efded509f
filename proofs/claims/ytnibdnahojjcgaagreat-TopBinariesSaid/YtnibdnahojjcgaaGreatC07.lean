/- Lemmas. -/
import Derived.Test.YtnibdnahojjcgaaGreatC04
import Derived.Test.YtnibdnahojjcgaaGreatC05
namespace Go.Proofs.YtnibdnahojjcgaaGreat
set_option linter.all false
set_option maxRecDepth 100000
set_option maxHeartbeats 0
open Go.RowKit Tryz
def uZ(p:aN×Rep)(v:V)(t:ST):Prop:=v=bI [.agg 7 (rZ p.1 (.row 6 p.1.aJ.length) (.d (og p.1.opens)) (.d (jO p.1.az))),lJ p.2]/\t=⟨[(6,bQ 54 4 iE .z p.1.aJ)],7⟩
def uZ.of{X:Cx e0}{v:V}{t:ST}{p q:aN×Rep}(e:q=p)(h:Fin X v t (uZ p)):Fin X v t (uZ q):=e▸h
def ac9{i n lo m z:Nat}{h:Nat->Nat->D}(e:lo+m<=n):jf i n z h (.vw i n lo m) = .d (.sl m z (λq=>h (lo+q))):=by
 simp[jf,Nat.ble_eq_true_of_le e]
def aeX{m:Nat}{l:List iT}(e:m=l.length):V.d (.sl m 2 (λq=>iw (l.getD (0+q) .z))) = .d (og l):=by
 subst e;exact ah (λg=>V.d (.sl l.length 2 g)) (funext λq=>by rw[jq])
def NW{E s n:Nat}{g:Nat->Nat->D}:Ha (.row E s n (λj k=>.d (g j k))):=λj hj k hk=>True.intro
def aqk(s:aN):Ha (.Wp 7 (zt s 6 7 8)):=λk hk=>by
 obtain _|_|_|_|_|_|_|k:=k
 all_goals first|exact tv|(show(_:Nat)<10;decide)|omega
def ag2{s:aN}{c:aF}{p:aN×Rep}(hm:jD s c=0)(h:vU s c=some p):kC s c=p:=by
 unfold kC;rw[hm,h];rfl
def zG{X:Cx e0}{v:V}{t:ST}{s:aN}{c:aF}{E7 z7 n7 E8 z8 n8:Nat}{g7 g8:Nat->Nat->V}{g:Nat->V}(S:aN)(R:Rep)(x:Nat.ble 7 t.nx=true:=by first|exact rfl|fail)(hm:jD s c=0:=by assumption)
 (h:vU s c=some (S,R):=by unfold vU;rw[fF];first|exact ah some hp|exact ah some hq|exact ah some hq.1|exact ah some (ahj h)|exact ah some (KP (aG:decide (iq s c.id<0)=false))|exact ah some ((KP (aG:decide (iq s c.id<0)=false)).trans (dH h))|exact ah some ((KP (aG:decide (iq s c.id<0)=false)).trans (bG h))|exact rfl|fail)
 (f7:iI X t 7 E7 z7 n7 g7 (λj=>iw (S.opens.getD j .z)):=by exact sF)
 (f8:iI X (wW 7 n7 z7 (λj=>iw (S.opens.getD j .z)) t) 8 E8 z8 n8 g8 (λj=>iP (S.az.getD j .z)):=by first|exact sF|exact iI.of (cZ _) rfl (λj hj k hk=>(ah (jf 7 _ _ _) (by first|exact Yc (OA aG)|exact ae8 (OA aG) hk)).trans rfl)|fail)
 (e:jf 8 n8 z8 (λj=>iP (S.az.getD j .z)) (jf 7 n7 z7 (λj=>iw (S.opens.getD j .z)) v) = .gQ 2 g:=by first|exact rfl|fail)
 (w:Iy 7 g 0 [.agg 7 (rZ S (.row 6 S.aJ.length) (.d (og S.opens)) (.d (jO S.az))),lJ R]:=by first|exact vw|exact⟨gu ⟨vw,vq (jB.trans (Tq YC)) tv⟩,gu vw,tv⟩|fail)
 (o:pX 7 (wW 8 n8 z8 (λj=>iP (S.az.getD j .z)) (wW 7 n7 z7 (λj=>iw (S.opens.getD j .z)) t)) [(6,bQ 54 4 iE .z S.aJ)]:=by first|exact⟨⟨nb rfl,aW.row rfl fv⟩,tv⟩|fail):Fin X v t (uZ (kC s c)):=
 uZ.of (p:=(S,R)) (ag2 hm h) (Fin.eG f7 (Fin.eG f8 (bM qN (nb x) (e▸fH _ rfl (λ_ _=>rfl) w) o)))
def Em{X:Cx e0}{y z:Code}{Q:Exit->AS->Prop}{st:AS}{ops:Array Oper}(s:aN)(c:aF)(F:V)(O:List (Nat×aK))
 (h1:T X y (KL (λs'=>bf e0.nx s' ⟨58,Lc,⟨LD c (.Wp 7 (zt s 6 7 8)) (.row 54 4 s.aJ.length (λj k=>.d (iE (s.aJ.getD j .z) k))) (.row 97 2 s.opens.length (λj k=>.d (iw (s.opens.getD j .z) k))) (.row 71 5 s.az.length (λj k=>.d (iP (s.az.getD j .z) k))),10⟩⟩) Q) st)
 (h2:T X z Q ⟨58,[(2,.ptr 0 0),(3,.ptr 1 0),(4,.ptr 2 0),(5,.ptr 3 0),(9,F),(10,.b true)],⟨[(0,.Wp 7 (zt s 6 7 8)),(1,.Wp 8 (λk=>.d (lW c k))),(2,.Wp 7 (λ_=>.top)),(3,.Wp 2 (λ_=>.top)),(6,.row 54 4 s.aJ.length (λj k=>.d (iE (s.aJ.getD j .z) k))),(7,.row 97 2 s.opens.length (λj k=>.d (iw (s.opens.getD j .z) k))),(8,.row 71 5 s.az.length (λj k=>.d (iP (s.az.getD j .z) k)))]++O,18⟩⟩)
 (z0:Nat.blt 0 ops.size=true:=by first|exact rfl|fail)
 (hF:yO c.kind=F:=by first|(rw[fF];rfl)|fail)
 (e:ops=nP f251 7:=by exact rfl)
 (l:bf e0.nx ⟨58,rf (nP f251 7).toList (La c)++Lc,abg c (.Wp 7 (zt s 6 7 8)) (.row 54 4 s.aJ.length (λj k=>.d (iE (s.aJ.getD j .z) k))) (.row 97 2 s.opens.length (λj k=>.d (iw (s.opens.getD j .z) k))) (.row 71 5 s.az.length (λj k=>.d (iP (s.az.getD j .z) k))) true true true true true true true true true true true true true true true true⟩ ⟨58,[(2,.ptr 0 0),(3,.ptr 1 0),(4,.ptr 2 0),(5,.ptr 3 0),(9,F),(10,.b true)],⟨[(0,.Wp 7 (zt s 6 7 8)),(1,.Wp 8 (λk=>.d (lW c k))),(2,.Wp 7 (λ_=>.top)),(3,.Wp 2 (λ_=>.top)),(6,.row 54 4 s.aJ.length (λj k=>.d (iE (s.aJ.getD j .z) k))),(7,.row 97 2 s.opens.length (λj k=>.d (iw (s.opens.getD j .z) k))),(8,.row 71 5 s.az.length (λj k=>.d (iP (s.az.getD j .z) k)))]++O,18⟩⟩:=by
  (refine leq ?_ ?_ <;> repeat'(first|exact tv|exact qV|exact vq (show yO c.kind=_ by rw[fF];rfl) (KC (P:=λk=>k<18) (λk hk=>hk) (by first|exact vO (by decide) (by decide)|exact xx (by decide) (by decide) (by decide)))|exact vq (show V.b (EM c.kind) = .b true by rw[fF];rfl) tv|exact VW.top|exact qW|refine gX ?_|refine fE qN ?_ ?_|refine gU qN ?_ (λj hj k hk=>?_) ?_|refine an ?_ ?_));all_goals first|exact rfl|exact cm qV)
 :T X (.seq y (.seq (.region 7 ops true) z)) Q st:=by
 subst e;exact T.cut (y:=.seq (.region 7 _ _) _) _ h1 (T.seq (Oq (La c) 18 KF _ qK (aeN c (G0:=zt s 6 7 8) (n6:=s.aJ.length) (g6:=λj k=>.d (iE (s.aJ.getD j .z) k)) (n7:=s.opens.length) (g7:=λj k=>.d (iw (s.opens.getD j .z) k)) (n8:=s.az.length) (g8:=λj k=>.d (iP (s.az.getD j .z) k)) false (aqk s) NW NW NW) (T.le _ l h2)))
def atS(s:aN)(c:aF)(hs:jw s)(hz:nV c)(hm:jD s c=0)(fF:c.kind=2):af 251 [dZ s,jl c] e0 (uZ (kC s c)):=by refine ay func251 λX=>?_;exact MW
