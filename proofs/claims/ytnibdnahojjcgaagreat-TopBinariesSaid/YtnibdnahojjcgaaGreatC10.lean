/- Lemmas. -/
import Derived.Test.YtnibdnahojjcgaaGreatC07
import Derived.Test.YtnibdnahojjcgaaGreatC09
namespace Go.Proofs.YtnibdnahojjcgaaGreat
set_option linter.all false
set_option maxRecDepth 100000
set_option maxHeartbeats 0
open Go.RowKit Tryz
def Tq{m:Nat}{l:List eH}(e:m=l.length):V.d (.sl m 5 (λj=>iP (l.getD j .z))) = .d (jO l):=by subst e;rfl
def atz{s:aN}{c:aF}:s.az.length+1=(Oj s c).az.length:=by show _=(s.az++_).length;rw[bP,List.length_singleton]
def arL{s:aN}{c:aF}(hm:jD s c=0)(hz:nV c):c.chunks.length<=1000:=by
 rcases(J4 (Ep hm).2 hz).fit.chunks with h|h
 ·have:=(zl h.2).2.1;omega
 ·rw[h.2];exact cZ _
def ars{s:aN}{c:aF}(h:0<=jM s c):s.opens.length-1=(s.opens.eraseIdx (jM s c).toNat).length:=by
 have:=Xn s c;rw[List.length_eraseIdx_of_lt qO]
def atQ(s:aN)(c:aF)(hs:jw s)(hz:nV c)(hm:jD s c=0)(fF:c.kind=3):af 251 [dZ s,jl c] e0 (uZ (kC s c)):=by refine ay func251 λX=>?_;exact MW
def atP(s:aN)(c:aF)(hs:jw s)(hz:nV c)(hm:jD s c=0)(fF:c.kind=4):af 251 [dZ s,jl c] e0 (uZ (kC s c)):=by refine ay func251 λX=>?_;exact MW
def atN(s:aN)(c:aF)(hs:jw s)(hz:nV c)(hm:jD s c=0)(fF:c.kind=6):af 251 [dZ s,jl c] e0 (uZ (kC s c)):=by refine ay func251 λX=>?_;exact MW
def ar5(s:aN)(c:aF)(hs:jw s)(hz:nV c)(hm:jD s c=0)(fF:c.kind=12):af 251 [dZ s,jl c] e0 (uZ (kC s c)):=by refine ay func251 λX=>?_;exact MW
def ahj{s:aN}{c:aF}{f:Nat->aN×Rep}(h:decide (iq s c.id<0)=true):Au s c f=(s,⟨15,0⟩):=dH h
def KP{s:aN}{c:aF}{f:Nat->aN×Rep}(h:decide (iq s c.id<0)=false):Au s c f=f (iq s c.id).toNat:=bG h
def UM{s:aN}{c:aF}(h:decide (iq s c.id<0)=false):0<=iq s c.id/\iq s c.id<s.az.length:=by
 have:=bV h;have:=Tt s c.id;omega
def OA{s:aN}{c:aF}(h:decide (iq s c.id<0)=false):(iq s c.id).toNat<s.az.length:=by
 have:=UM h;omega
def atM(s:aN)(c:aF)(hs:jw s)(hz:nV c)(hm:jD s c=0)(fF:c.kind=7):af 251 [dZ s,jl c] e0 (uZ (kC s c)):=by refine ay func251 λX=>?_;exact Rt
def apt{l:List eH}{p cell:Nat}{f:eH->eH}{v:D}(hp:p<l.length)(hc:∀ x,iP (f x) cell=v)(ho:∀ x k,k≠cell->iP (f x) k=iP x k){j k:Nat}:mr (λj k=>V.d (iP (l.getD j .z) k)) p cell 1 (λ_=>V.d v) j k=V.d (iP ((l.set p (f (l.getD p .z))).getD j .z) k):=by
 rw[ag6];by_cases h1:j=p
 ·subst h1;rw[show(l.set j (f (l.getD j .z))).getD j .z=f (l.getD j .z) by rw[bn,List.getElem?_set_self hp];rfl];by_cases h2:k=cell
  ·subst h2;rw[if_pos ⟨rfl,rfl⟩,hc]
  ·rw[if_neg (λe=>h2 e.2),ho _ _ h2]
 ·rw[if_neg (λe=>h1 e.1),show(l.set p (f (l.getD p .z))).getD j .z=l.getD j .z by rw[bn,List.getElem?_set_ne (λe=>h1 e.symm),bn]]
def YC{s:aN}{p:Nat}{f:eH->eH}:s.az.length=(nO s p f).az.length:=by unfold nO;rw[nM]
def Yc{s:aN}{p:Nat}{b:Bool}(hp:p<s.az.length){j k:Nat}:mr (λj k=>V.d (iP (s.az.getD j .z) k)) p 3 1 (λ_=>V.b b) j k=V.d (iP ((nO s p (λx=>{ x with held:=b })).az.getD j .z) k):=
 apt (f:=λx=>{ x with held:=b }) (v:=bD b) hp (λx=>rfl) (λx k hk=>by obtain _|_|_|_|k:=k;rfl;rfl;rfl;exact ai rfl hk;rfl)
def ae8{s:aN}{p:Nat}{t:List UInt8}(hp:p<s.az.length){j k:Nat}(hk:k<5):mr (λj k=>V.d (iP (s.az.getD j .z) k)) p 4 1 (λ_=>V.d (IY t)) j k=V.d (iP ((nO s p (λx=>{ x with tag:=t })).az.getD j .z) k):=by
 rw[ag6];unfold nO;by_cases h1:j=p
 ·subst h1;rw[show(s.az.set j { s.az.getD j .z with tag:=t }).getD j .z={ s.az.getD j .z with tag:=t } by rw[bn,List.getElem?_set_self hp];rfl];by_cases h2:k=4
  ·subst h2;rw[if_pos ⟨rfl,rfl⟩];rfl
  ·rw[if_neg (λe=>h2 e.2)];obtain _|_|_|_|_|k:=k
   all_goals first|rfl|omega
 ·rw[if_neg (λe=>h1 e.1),show(s.az.set p { s.az.getD p .z with tag:=t }).getD j .z=s.az.getD j .z by rw[bn,List.getElem?_set_ne (λe=>h1 e.symm),bn]]
def atL(s:aN)(c:aF)(hs:jw s)(hz:nV c)(hm:jD s c=0)(fF:c.kind=9):af 251 [dZ s,jl c] e0 (uZ (kC s c)):=by refine ay func251 λX=>?_;exact Rt
def ar7(s:aN)(c:aF)(hs:jw s)(hz:nV c)(hm:jD s c=0)(fF:c.kind=10):af 251 [dZ s,jl c] e0 (uZ (kC s c)):=by refine ay func251 λX=>?_;exact Rt
def ar6(s:aN)(c:aF)(hs:jw s)(hz:nV c)(hm:jD s c=0)(fF:c.kind=11):af 251 [dZ s,jl c] e0 (uZ (kC s c)):=by refine ay func251 λX=>?_;exact Rt
def aql(s:aN):Ha (.Wp 7 (rZ s (.row 6 s.aJ.length) (.row 7 s.opens.length) (.d (jO s.az)))):=λk hk=>by
 obtain _|_|_|_|_|_|_|k:=k
 all_goals first|exact tv|(show(_:Nat)<10;decide)|omega
def asO(s:aN)(p:Nat):aN:={ s with az:=lh s.az (s.az.getD p .z).id }
def Va{X:Cx e0}{v:V}{t:ST}{s:aN}{c:aF}{E7 z7 n7:Nat}{g7:Nat->Nat->V}{g:Nat->V}(S:aN)(R:Rep)(x:Nat.ble 7 t.nx=true:=by first|exact rfl|fail)(hm:jD s c=0:=by assumption)
 (h:vU s c=some (S,R):=by unfold vU;rw[fF];first|exact ah some (ahj h)|exact ah some ((KP (aG:decide (iq s c.id<0)=false)).trans (dH h))|exact ah some ((KP (aG:decide (iq s c.id<0)=false)).trans ((bG aG).trans (dH h)))|exact ah some ((KP (aG:decide (iq s c.id<0)=false)).trans ((bG aG).trans (bG h)))|fail)
 (f7:iI X t 7 E7 z7 n7 g7 (λj=>iw (S.opens.getD j .z)):=by exact sF)
 (e:jf 7 n7 z7 (λj=>iw (S.opens.getD j .z)) v = .gQ 2 g:=by first|exact rfl|fail)
 (w:Iy 7 g 0 [.agg 7 (rZ S (.row 6 S.aJ.length) (.d (og S.opens)) (.d (jO S.az))),lJ R]:=by first|exact vw|exact⟨gu ⟨vw,vq (jB.trans (Tq YC)) tv⟩,gu vw,tv⟩|fail)
 (o:pX 7 (wW 7 n7 z7 (λj=>iw (S.opens.getD j .z)) t) [(6,bQ 54 4 iE .z S.aJ)]:=by first|exact⟨⟨nb rfl,aW.row rfl fv⟩,tv⟩|fail):Fin X v t (uZ (kC s c)):=
 uZ.of (p:=(S,R)) (ag2 hm h) (Fin.eG f7 (bM qN (nb x) (e▸fH _ rfl (λ_ _=>rfl) w) o))
def atO(s:aN)(c:aF)(hs:jw s)(hz:nV c)(hm:jD s c=0)(fF:c.kind=5):af 251 [dZ s,jl c] e0 (uZ (kC s c)):=by
 refine ay func251 λX=>?_
 (repeat'(first|refine Va s ⟨15,0⟩|refine Va s ⟨17,0⟩|refine Va s ⟨18,0⟩|refine Va (asO s (iq s c.id).toNat) (⟨0,(Cj s.az (s.az.getD (iq s c.id).toNat .z).id).length⟩)|refine T.cut (y:=.seq (.region 7 _ _) _) ⟨58,Lc,⟨LD c (.Wp 7 (zt s 6 7 8)) (.row 54 4 s.aJ.length (λj k=>.d (iE (s.aJ.getD j .z) k))) (.row 97 2 s.opens.length (λj k=>.d (iw (s.opens.getD j .z) k))) (.row 71 5 s.az.length (λj k=>.d (iP (s.az.getD j .z) k))),10⟩⟩ ?_ (T.eG (i:=8) (h:=λj=>iP (s.az.getD j .z)) sF (T.le ⟨58,Lc,⟨LD c (.Wp 7 (rZ s (.row 6 s.aJ.length) (.row 7 s.opens.length) (.d (jO s.az)))) (.row 54 4 s.aJ.length (λj k=>.d (iE (s.aJ.getD j .z) k))) (.row 97 2 s.opens.length (λj k=>.d (iw (s.opens.getD j .z) k))) .dead,10⟩⟩ ?_ (T.seq (Oq (La c) 18 KF _ (by kernel_rfl) (aeN c (G0:=rZ s (.row 6 s.aJ.length) (.row 7 s.opens.length) (.d (jO s.az))) (n6:=s.aJ.length) (g6:=λj k=>.d (iE (s.aJ.getD j .z) k)) (n7:=s.opens.length) (g7:=λj k=>.d (iw (s.opens.getD j .z) k)) (n8:=0) (g8:=λj k=>.top) true (aql s) NW NW True.intro) (T.le ⟨58,[(2,.ptr 0 0),(3,.ptr 1 0),(4,.ptr 2 0),(5,.ptr 3 0),(9,ry 11),(10,.b true)],⟨[(0,.Wp 7 (rZ s (.row 6 s.aJ.length) (.row 7 s.opens.length) (.d (jO s.az)))),(1,.Wp 8 (λk=>.d (lW c k))),(2,.Wp 7 (λ_=>.top)),(3,.Wp 2 (λ_=>.top)),(6,.row 54 4 s.aJ.length (λj k=>.d (iE (s.aJ.getD j .z) k))),(7,.row 97 2 s.opens.length (λj k=>.d (iw (s.opens.getD j .z) k))),(11,.Wp 1 (λ_=>Hw 279))],18⟩⟩ ?_ ?_)))))|refine aj.n (λh=>?_)|refine bU 6 [6] (ooz 6 [o1,o3]) ?_|refine bU 7 [7,10] [o2,o0,o0,o0,o0,o0,o0,o1,o3,o3,(1,1,true,[])] ?_|refine aC ?_|refine bU 11 [2,3] [o0,o2,o1,(1,1,true,[])] ?_|refine mc ?_ ?_|refine mY (Oi s hs.fit) ?_|refine vM (OV s c hs hz.chunks) tv bw ?_|refine ay (f:=266) func266 λX2=>?_|refine ay (f:=279) func279 λX2=>?_|refine ay (f:=280) func280 λX2=>?_|refine vM (acH s c.id hs.may.l3) tv bw ?_|refine vM (ath s (iq s c.id).toNat hs.fit (OA (aG:decide (iq s c.id<0)=false))) tv ⟨agb bw,BW.eq BW.d (ah iV (show iq s c.id=(((iq s c.id).toNat:Nat):Int) by have:=UM (aG:decide (iq s c.id<0)=false);omega)),tv⟩ ?_|refine aO (qR 15) ?_|refine aO (qR 17) ?_|refine aO (qR 18) ?_|refine Fin.here ?_|refine kF (afW s.az (s.az.getD (iq s c.id).toNat .z).id hs.fit.l3) ?_|refine kF (WZ s.az (s.az.getD (iq s c.id).toNat .z).id hs.fit.l3) ?_|refine aj.n (λh=>?_)|refine aj.mk (λh=>?_) (λh=>?_)|refine ag.a ?_|refine ag.mk ?_ ?_))<;>(try(refine dm.mk ?_;repeat'(first|exact tv|exact rfl|refine aO (afW s.az (s.az.getD (iq s c.id).toNat .z).id hs.fit.l3) ?_|refine aO (WZ s.az (s.az.getD (iq s c.id).toNat .z).id hs.fit.l3) ?_|refine an ?_ ?_|refine ag.mk ?_ ?_)))
 all_goals try exact cls
 all_goals(try(refine leq ?_ ?_ <;> repeat'(first|exact tv|exact qV|exact vq jB trivial|exact vq (show yO c.kind=ry 11 by rw[fF];rfl) (KC (P:=λk=>k<18) (λk hk=>hk) (xx (by decide) (by decide) (by decide)))|exact vq (show V.b (EM c.kind) = .b true by rw[fF];rfl) tv|exact VW.top|exact qW|refine gX ?_|refine fE qN ?_ ?_|refine gU qN ?_ (λj hj k hk=>?_) ?_|refine an ?_ ?_)))
 all_goals first|exact rfl|exact nb rfl|exact cm qV|exact UM (aG:decide (iq s c.id<0)=false)
def avR(s:aN)(c:aF)(hs:jw s)(hz:nV c)(hm:jD s c=0)(h1:c.kind≠1)(h8:c.kind≠8):af 251 [dZ s,jl c] e0 (λv t=>v=bI [.agg 7 (rZ (kC s c).1 (.row 6 (kC s c).1.aJ.length) (.d (og (kC s c).1.opens)) (.d (jO (kC s c).1.az))),lJ (kC s c).2]/\t=⟨[(6,bQ 54 4 iE .z (kC s c).1.aJ)],7⟩):=by
 have hk:=BI (UU (Ep hm).2).1;rcases(show c.kind=2\/c.kind=3\/c.kind=4\/c.kind=5\/c.kind=6\/c.kind=7\/c.kind=9\/c.kind=10\/c.kind=11\/c.kind=12 by omega) with e|e|e|e|e|e|e|e|e|e
 ·exact atS s c hs hz hm e
 ·exact atQ s c hs hz hm e
 ·exact atP s c hs hz hm e
 ·exact atO s c hs hz hm e
 ·exact atN s c hs hz hm e
 ·exact atM s c hs hz hm e
 ·exact atL s c hs hz hm e
 ·exact ar7 s c hs hz hm e
 ·exact ar6 s c hs hz hm e
 ·exact ar5 s c hs hz hm e
def Us{s:aN}{c:aF}(h:decide (dE s c.ax<0)=false):0<=dE s c.ax/\dE s c.ax<s.aJ.length:=by
 have:=bV h;have:=NF s c.ax;omega
def TT{s:aN}{c:aF}(h:decide (dE s c.ax<0)=false):(dE s c.ax).toNat<s.aJ.length:=by
 have:=Us h;omega
def asC{s:aN}{c:aF}(hm:jD s c=0)(h:decide (dE s c.ax<0)=false):0<=(s.aJ.getD (dE s c.ax).toNat .z).seq/\(s.aJ.getD (dE s c.ax).toNat .z).seq<=1048576:=by
 have h1:=(Ep hm).1.su _ (axB (z:=.z) (TT h));unfold su at h1;exact Gn (wR.1 (wR.1 h1).1).1
def asB{s:aN}{c:aF}(hm:jD s c=0)(h:decide (dE s c.ax<0)=false):(dM .i64).1<=(s.aJ.getD (dE s c.ax).toNat .z).seq+1/\(s.aJ.getD (dE s c.ax).toNat .z).seq+1<=(dM .i64).2:=by
 have:=asC hm h;simp only[dM];omega
abbrev Vy(s:aN)(c:aF):aN:={ (kC s c).1 with aJ:=(kC s c).1.aJ.set (dE s c.ax).toNat ⟨((kC s c).1.aJ.getD (dE s c.ax).toNat .z).ax,c.seq,(kC s c).2⟩ }
def apw{l:List iW}{p:Nat}{q:Int}{r:Rep}{g1 g2:Nat->V}(hp:p<l.length){j k:Nat}(hk:k<4)(e1:g1 0=iV q)(e2:g2 0=V.d (ji r 0))(e3:g2 1=V.d (ji r 1)):mr (mr (λj k=>V.d (iE (l.getD j .z) k)) p 1 1 g1) p 2 2 g2 j k=V.d (iE ((l.set p ⟨(l.getD p .z).ax,q,r⟩).getD j .z) k):=by
 unfold mr;rcases hb:Nat.beq j p with _|_
 ·have:j≠p:=λe=>by subst e;simp at hb
  rw[show(l.set p ⟨(l.getD p .z).ax,q,r⟩).getD j .z=l.getD j .z by rw[bn,List.getElem?_set_ne (λe=>this e.symm),bn]];rfl
 ·have:=dJ hb;subst this;rw[show(l.set j ⟨(l.getD j .z).ax,q,r⟩).getD j .z=⟨(l.getD j .z).ax,q,r⟩ by rw[bn,List.getElem?_set_self hp];rfl];obtain _|_|_|_|k:=k
  ·rfl
  ·exact e1
  ·exact e2
  ·exact e3
  ·omega
def Ask.of{X:Cx e0}{v:V}{t:ST}{p q:aN×Rep}(e:q=p)(h:Fin X v t (λv t=>v=bI [dZ p.1,lJ p.2]/\t=e0)):Fin X v t (λv t=>v=bI [dZ q.1,lJ q.2]/\t=e0):=e▸h
def YA{m:Nat}{l:List iW}(e:m=l.length):V.d (.sl m 4 (λj=>iE (l.getD j .z))) = .d (yD l):=by subst e;rfl
def asv{s:aN}{c:aF}:(kC s c).1.aJ.length=(Vy s c).aJ.length:=by show _=(List.set _ _ _).length;rw[nM]
def arZ(s:aN)(c:aF)(hs:jw s)(hz:nV c)(hm:jD s c=0)(h1:c.kind≠1)(h8:c.kind≠8):aQ 242 [dZ s,jl c] (bI [dZ (Ej s c).1,lJ (Ej s c).2]):=by
 refine ay func242 λX=>?_
 (repeat'(first|refine Ask.of (p:=(s,⟨11,0⟩)) (dH h) (kJ rfl vw)|refine Ask.of (p:=(s,(s.aJ.getD (dE s c.ax).toNat .z).last)) ((bG aG).trans (dH h)) (kJ rfl vw)|refine Ask.of (p:=(s,⟨13,0⟩)) ((bG aG).trans ((bG aG).trans (dH h))) (kJ rfl vw)|refine Ask.of (p:=(s,⟨14,0⟩)) ((bG aG).trans ((bG aG).trans ((bG aG).trans (dH h)))) (kJ rfl vw)|refine Ask.of (p:=(Vy s c,(kC s c).2)) ((bG aG).trans ((bG aG).trans ((bG aG).trans (bG aG)))) (Fin.eG (i:=11) (h:=λj=>iE ((Vy s c).aJ.getD j .z)) (iI.of (cZ _) rfl (λj hj k hk=>apw (by rw[(IC (Ep hm).1 hz).aJ];exact TT (aG:decide (dE s c.ax<0)=false)) hk rfl rfl rfl)) (Fin.tell (fH [dZ (Vy s c),lJ (kC s c).2] rfl fr ⟨gu ⟨⟨⟨vw,vq (jB.trans (YA asv)) tv⟩,qV⟩,qV⟩,(gu vw),tv⟩)))|refine aC ?_|refine bU 3 [1,2,3] [o2,o1,(1,1,true,[]),(2,2,true,[])] ?_|refine bU 6 [3,4] [o0,o2,o2,o1,(1,1,true,[])] ?_|refine bU 8 [1,2,3] [o2,o1,(1,1,true,[]),(2,2,true,[])] ?_|refine bU 10 [1,2,3] [o2,o1,(1,1,true,[]),(2,2,true,[])] ?_|refine bU 12 [11,14] [o0,o0,o0,o2,o2,o2,o0,o0,o2,o0,o0,o1,o3,o3,(1,1,true,[])] ?_|refine bU 13 [2,3] [o0,o2,o1,(1,1,true,[])] ?_|refine mc ?_ ?_|refine aO (abJ s c.ax hs.may.l1) ?_|refine mY (avR s c hs hz hm h1 h8) ?_|refine kF (qR 11) ?_|refine kF (qR 13) ?_|refine kF (qR 14) ?_|refine aj.mk (λh=>?_) (λh=>?_)|refine ag.a ?_|refine ag.mk ?_ ?_))<;>(try(refine dm.mk ?_;repeat'(first|exact tv|exact rfl|refine aO (qR 11) ?_|refine aO (qR 13) ?_|refine aO (qR 14) ?_|refine an ?_ ?_|refine ag.mk ?_ ?_)))
 all_goals try exact cls
 all_goals first|exact Us (aG:decide (dE s c.ax<0)=false)|exact(Us (aG:decide (dE s c.ax<0)=false)).1|(rw[(IC (Ep hm).1 hz).aJ];exact(Us (aG:decide (dE s c.ax<0)=false)).2)|(rw[(IC (Ep hm).1 hz).aJ];exact TT (aG:decide (dE s c.ax<0)=false))|exact asB hm (aG:decide (dE s c.ax<0)=false)|exact⟨rfl,(by rw[(IC (Ep hm).1 hz).aJ];exact TT (aG:decide (dE s c.ax<0)=false)),nb rfl⟩
def as9{s:aN}{c:aF}(h:(!decide (jD s c=0))=false):jD s c=0:=by
 rcases hd:decide (jD s c=0) with _|_
 ·rw[hd]at h;cases h
 ·exact bT hd
def atG{s:aN}(hs:jw s):(dM .i64).1<=s.version+1/\s.version+1<=(dM .i64).2:=by
 have:=hs.ver;simp only[dM];omega
def avz(s:aN)(c:aF)(hs:jw s)(hz:nV c)(hk1:c.kind≠1):aQ 230 [dZ s,jl c] (bI [dZ (oC s c).1,lJ (oC s c).2]):=by
 refine ay func230 λX=>?_
 (repeat'(first|refine Ask.of (p:=(s,⟨jD s c,0⟩)) (dH h) (kJ rfl vw)|refine Ask.of (p:=(s,⟨1,0⟩)) ((bG (aG:(!decide (jD s c=0))=false)).trans ((dH (aG:decide (c.kind=8)=true)).trans (dH h))) (kJ rfl vw)|refine Ask.of (p:=({ s with version:=c.n },⟨0,c.n⟩)) ((bG (aG:(!decide (jD s c=0))=false)).trans ((dH (aG:decide (c.kind=8)=true)).trans (bG h))) (kJ rfl vw)|refine Ask.of (p:=Ej s c) ((bG (aG:(!decide (jD s c=0))=false)).trans ((bG (aG:decide (c.kind=8)=false)).trans (bG (aG:decide (c.kind=1)=false)))) (kJ rfl vw)|refine aj.mk (λh=>ai (bT h) hk1) (λh=>?_)|refine aC ?_|refine bU 4 [3,4] [o0,o0,o0,o1,(1,1,true,[])] ?_|refine bU 8 [2,3] [o0,o0,o1,(1,1,true,[])] ?_|refine bU 10 [4,5] [o0,o2,o2,o2,o1,(1,1,true,[])] ?_|refine mc ?_ ?_|refine aO (Oh s hs.fit) ?_|refine aO (OV s c hs hz.chunks) ?_|refine aO (arZ s c hs hz (as9 aG) hk1 (λe=>ai (aG:decide (c.kind=8)=false) (by rw[e];decide))) ?_|refine kF (qR (jD s c)) ?_|refine kF (qR 1) ?_|refine aj.mk (λh=>?_) (λh=>?_)|refine ag.a ?_|refine ag.mk ?_ ?_))<;>(try(refine dm.mk ?_;repeat'(first|exact tv|exact rfl|refine aO (qR (jD s c)) ?_|refine aO (qR 1) ?_|refine an ?_ ?_|refine ag.mk ?_ ?_)))
 all_goals try exact cls
 all_goals(exact atG hs)
abbrev GM(s:aN)(c:aF):Nat:=ahead (λx=>decide (x.ax<c.ax)) s.aJ
abbrev PT(s:aN)(c:aF):aN:={ s with aJ:=oV s.aJ (GM s c) ⟨c.ax,0,.z⟩ }
def amr{s:aN}{c:aF}{i:Nat}(hi:i<=s.aJ.length)(hp:GM s c=i+ahead (λx=>decide (x.ax<c.ax)) (s.aJ.drop i))(h:(bif decide ((i:Int)<(s.aJ.length:Int)) then decide ((s.aJ.getD i .z).ax<c.ax) else false)=false):GM s c=i:=by
 obtain h7|h7:=l7 i s.aJ.length
 ·obtain h8|h8:=ahE h
  ·have h8:=bV h8;omega
  ·rw[hp,Rl .z h7,show decide ((s.aJ.getD i .z).ax<c.ax)=false from h8];rfl
 ·rw[hp,qM h7];rfl
def XT{s:aN}{c:aF}{i:Nat}(hp:GM s c=i+ahead (λx=>decide (x.ax<c.ax)) (s.aJ.drop i))(h:(bif decide ((i:Int)<(s.aJ.length:Int)) then decide ((s.aJ.getD i .z).ax<c.ax) else false)=true):i<s.aJ.length/\GM s c=i+1+ahead (λx=>decide (x.ax<c.ax)) (s.aJ.drop (i+1)):=by
 have h8:=U9 h;have h9:=bT h8.1;refine⟨by omega,?_⟩;rw[hp,Rl .z qO,show decide ((s.aJ.getD i .z).ax<c.ax)=true from h8.2,dw];omega
def apO{s:aN}{c:aF}{i j k:Nat}(hi:i<=s.aJ.length)(hr:GM s c=i):V.d (Be i (λj k=>iE (s.aJ.getD j .z) k) (iE ⟨c.ax,0,.z⟩) j k)=V.d (iE ((PT s c).aJ.getD j .z) k):=by
 show _=V.d (iE ((oV s.aJ (GM s c) ⟨c.ax,0,.z⟩).getD j .z) k);rw[hr];exact ah V.d (ac6 iE .z _ s.aJ hi)
def apP{s:aN}{c:aF}:s.aJ.length+1=(PT s c).aJ.length:=(ac7 (Yo _ _)).symm
def avA(s:aN)(c:aF)(hs:jw s)(hz:nV c)(fF:c.kind=1):aQ 230 [dZ s,jl c] (bI [dZ (oC s c).1,lJ (oC s c).2]):=by
 refine ay func230 λX=>?_
 (repeat'(first|refine Ask.of (p:=(s,⟨jD s c,0⟩)) (dH h) (Fin.eG (i:=6) (h:=λj=>iE ((s).aJ.getD j .z)) sF (Fin.eG (i:=7) (h:=λj=>iw (s.opens.getD j .z)) sF (Fin.eG (i:=8) (h:=λj=>iP (s.az.getD j .z)) sF (Fin.tell (fH [dZ (s),lJ ⟨jD s c,0⟩] rfl fr ⟨gu ⟨⟨⟨vw,vq ((ah (λv=>jf 8 _ _ _ (jf 7 _ _ _ v)) jB).trans (rfl)) tv⟩,vq ((ah (λv=>jf 8 _ _ _ v) jB).trans rfl) tv⟩,vq jB trivial⟩,(gu vw),tv⟩)))))|refine Ask.of (p:=(s,⟨12,0⟩)) ((bG (aG:(!decide (jD s c=0))=false)).trans ((bG (by rw[fF];decide)).trans ((dH (by rw[fF];decide)).trans (dH (aG:decide (0<=dE s c.ax)=true))))) (Fin.eG (i:=6) (h:=λj=>iE ((s).aJ.getD j .z)) sF (Fin.eG (i:=7) (h:=λj=>iw (s.opens.getD j .z)) sF (Fin.eG (i:=8) (h:=λj=>iP (s.az.getD j .z)) sF (Fin.tell (fH [dZ (s),lJ ⟨12,0⟩] rfl fr ⟨gu ⟨⟨⟨vw,vq ((ah (λv=>jf 8 _ _ _ (jf 7 _ _ _ v)) jB).trans (rfl)) tv⟩,vq ((ah (λv=>jf 8 _ _ _ v) jB).trans rfl) tv⟩,vq jB trivial⟩,(gu vw),tv⟩)))))|refine Ask.of (p:=(PT s c,Rep.z)) ((bG (aG:(!decide (jD s c=0))=false)).trans ((bG (by rw[fF];decide)).trans ((dH (by rw[fF];decide)).trans (bG (aG:decide (0<=dE s c.ax)=false))))) (Fin.eG (i:=6) (h:=λj=>iE ((PT s c).aJ.getD j .z)) (iI.of (cZ _) rfl (λj hj k hk=>apO hi (amr hi hp h))) (Fin.eG (i:=7) (h:=λj=>iw (s.opens.getD j .z)) sF (Fin.eG (i:=8) (h:=λj=>iP (s.az.getD j .z)) sF (Fin.tell (fH [dZ (PT s c),lJ Rep.z] rfl fr ⟨gu ⟨⟨⟨vw,vq ((ah (λv=>jf 8 _ _ _ (jf 7 _ _ _ v)) jB).trans (YA apP)) tv⟩,vq ((ah (λv=>jf 8 _ _ _ v) jB).trans rfl) tv⟩,vq jB trivial⟩,(gu vw),tv⟩)))))|refine dU s.aJ.length (λi (a:Unit)=>⟨80,[(2,.ptr 0 0),(3,.ptr 1 0),(4,.ptr 2 0),(5,.ptr 3 0),(7,iV i)],⟨[(0,.Wp 7 (zt s 6 7 8)),(1,.Wp 8 (λk=>.d (lW c k))),(2,.Wp 7 (λ_=>.top)),(3,.Wp 2 (λ_=>.top)),(6,bQ 54 4 iE .z s.aJ),(7,bQ 97 2 iw .z s.opens),(8,bQ 71 5 iP .z s.az)],9⟩⟩) (λi a=>GM s c=i+ahead (λx=>decide (x.ax<c.ax)) (s.aJ.drop i)) () ?_ ?_ (λi a hi hp=>?_)|refine aZ () ⟨?_,?_,?_⟩|refine aC ?_|refine bU 4 [3,4] [o0,o0,o0,o1,(1,1,true,[])] ?_|refine bU 13 [2,3] [o0,o0,o1,(1,1,true,[])] ?_|refine bU 15 [] (ooz 16 []) ?_|refine mc ?_ ?_|refine aj.n (λh=>?_)|refine lq (λh=>?_)|refine mY (Oi s hs.fit) ?_|refine vM (OV s c hs hz.chunks) tv bw ?_|refine vM (abJ s c.ax hs.may.l1) tv bw ?_|refine nZ [6,9] (aq6 (n:=s.aJ.length) (p:=i) (g:=λj k=>iE (s.aJ.getD j .z) k) (x:=λ_ k=>iE ⟨c.ax,0,.z⟩ k) hi (by have:=hs.fit.l1;omega)) rfl rfl rfl vw ⟨⟨_,rfl,aW.row rfl fv⟩,⟨_,rfl,aW.row rfl (λj hj k hk=>(by obtain rfl:=Nat.lt_one_iff.1 hj;have hk:k<4:=hk;obtain _|_|_|_|k:=k;exact qV;exact qV;exact qV;exact qV;exact ai hk qo))⟩,tv⟩ ?_|refine kF (qR (jD s c)) ?_|refine kF (qR 12) ?_|refine aj.mk (λh=>?_) (λh=>?_)|refine ag.a ?_|refine ag.mk ?_ ?_))<;>(try(refine dm.mk ?_;repeat'(first|exact tv|exact rfl|refine aO (qR (jD s c)) ?_|refine aO (qR 12) ?_|refine an ?_ ?_|refine ag.mk ?_ ?_)))
 all_goals try exact cls
 all_goals(try(refine leq ?_ ?_ <;> repeat'(first|exact tv|exact qV|exact VW.top|exact qW|refine fE qN ?_ ?_|refine gU qN ?_ (λj hj k hk=>?_) ?_|refine an ?_ ?_)))
 all_goals first|exact rfl|exact cm qV|exact(jq _).symm|exact(XT hp h).1|exact(XT hp h).2|(have h7:=(XT hp h).1;have h8:=hs.fit.l1;(simp only[dM];omega))|(intro h7;have h8:=bT h7;omega)
