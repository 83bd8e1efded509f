/- Lemmas. -/
import Derived.Test.YtnibdnahojjcgaaGreatC17
import Derived.Test.YtnibdnahojjcgaaGreatC18
namespace Go.Proofs.YtnibdnahojjcgaaGreat
set_option linter.all false
set_option maxRecDepth 100000
set_option maxHeartbeats 0
open Go.RowKit Tryz
def Le(C:aF)(th:Bool)(k:Nat):V:=bif Nat.blt k 8 then .d (lW C k) else(bif Nat.beq k 8 then .b th else iV 0)
def amC(s:aN)(t v:Int)(hs:uO s)(h1:1<=v)(h3:v<=3):aQ 212 [dZ s,.d (gY [(⟨t,[]⟩:bH)]),iV v] (bI [dZ s,.d (xJ [(⟨0,0⟩:Rep)]),iV 0]):=by
 refine abX (f:=212) (fn:=f212) (t1:=⟨[(0,.Wp 7 (λk=>.d (dW s k))),(1,.Wp 7 (λ_=>.top)),(2,.Wp 1 (λ_=>.top)),(3,.Wp 1 (λ_=>.top)),(4,.Wp 1 (λ_=>.row 5 ([]:List Rep).length)),(5,bQ 52 2 ji .z ([]:List Rep)),(6,.Wp 1 (λ_=>.d (gY [(⟨t,[]⟩:bH)]))),(7,.Wp 1 (λ_=>iV v))],8⟩) (t3:=⟨[(0,.Wp 7 (λk=>.d (dW s k))),(1,.Wp 7 (λ_=>.top)),(2,.Wp 1 (λ_=>.top)),(3,.Wp 1 (λ_=>.top)),(4,.Wp 1 (λ_=>.row 5 ([(⟨0,0⟩:Rep)]:List Rep).length)),(5,bQ 52 2 ji .z ([(⟨0,0⟩:Rep)]:List Rep))],9⟩) (sL:=⟨40,[(3,.ptr 0 0),(6,.ptr 1 0),(7,.ptr 2 0),(8,.ptr 3 0),(9,.ptr 4 0),(16,.fn 236 0 2 (λk=>match k with|0=>.ptr 6 0|_=>.ptr 7 0))],⟨[(0,.Wp 7 (λk=>.d (dW s k))),(1,.Wp 7 (λ_=>.top)),(2,.Wp 1 (λ_=>.top)),(3,.Wp 1 (λ_=>.top)),(4,.Wp 1 (λ_=>.row 5 ([]:List Rep).length)),(5,bQ 52 2 ji .z ([]:List Rep)),(6,.Wp 1 (λ_=>.d (gY [(⟨t,[]⟩:bH)]))),(7,.Wp 1 (λ_=>iV v))],8⟩⟩) (sA:=⟨40,[(3,.ptr 0 0),(6,.ptr 1 0),(7,.ptr 2 0),(8,.ptr 3 0),(9,.ptr 4 0),(10,.ptr 8 0)],⟨[(0,.Wp 7 (λk=>.d (dW s k))),(1,.Wp 7 (λ_=>.top)),(2,.Wp 1 (λ_=>.top)),(3,.Wp 1 (λ_=>.top)),(4,.Wp 1 (λ_=>.row 5 ([]:List Rep).length)),(5,bQ 52 2 ji .z ([]:List Rep)),(8,.Wp 10 (Le aF.z false))],9⟩⟩) (sE:=⟨40,[],⟨[(0,.Wp 7 (λk=>.d (dW s k))),(1,.Wp 7 (λ_=>.top)),(2,.Wp 1 (λ_=>.top)),(3,.Wp 1 (λ_=>.top)),(4,.Wp 1 (λ_=>.row 5 ([(⟨0,0⟩:Rep)]:List Rep).length)),(5,bQ 52 2 ji .z ([(⟨0,0⟩:Rep)]:List Rep))],9⟩⟩) (mD:=λk=>match k with|0=>.ptr 6 0|_=>.ptr 7 0) (vF:=f236) (.agg 10 (Le aF.z false)) func212 rfl rfl qN ?_ rfl qN func236 rfl rfl qN ?_ ?_ ?_ ?_
 ·intro X;repeat'(first|refine Kw ?_|refine uN (c:=.region 3 _ _) 4 0 52 (λj k=>.d (ji (([]:List Rep).getD j .z) k)) rfl rfl qN rfl qN (T.region ?_)|refine aC ?_|refine aO (Oh s hs) ?_|refine ay (f:=229) func229 λX2=>?_|refine ag.a ?_|refine Fin.here ?_)
  all_goals try exact cls
  all_goals(try(refine leq ?_ ?_ <;> repeat'(first|exact tv|exact qW|refine gX ?_|refine jQ qN (λk hk=>?_) ?_|refine gU qN ?_ (λj hj k hk=>?_) ?_|refine an ?_ ?_)))
  all_goals first|exact rfl|exact cm qV|exact cm VW.top|(have hk:k<7:=hk;obtain _|_|_|_|_|_|_|k:=k <;> (exact cm qV))|exact kk
 ·intro X1 l hds hY;repeat'(first|refine adi (id:=4) (pre:=(nP f236 4).toList.take 5) (sY:=⟨30,[(9,.d (gY [(⟨t,[]⟩:bH)])),(10,iV 1),(11,iV 0),(22,.d (.v (.func (.yield l) #[] #[]))),(26,(.agg 10 (Le aF.z false)))],⟨[(0,.Wp 7 (λk=>.d (dW s k))),(1,.Wp 7 (λ_=>.top)),(2,.Wp 1 (λ_=>.top)),(3,.Wp 1 (λ_=>.top)),(4,.Wp 1 (λ_=>.row 5 ([]:List Rep).length)),(5,bQ 52 2 ji .z ([]:List Rep)),(6,.Wp 1 (λ_=>.d (gY [(⟨t,[]⟩:bH)]))),(7,.Wp 1 (λ_=>iV v))],8⟩⟩) hY rfl rfl rfl rfl ?_ rfl rfl rfl rfl ?_|refine aC ?_|refine aO (apT t v h1 h3) ?_|refine BN ?_|refine TL.round ?_|refine aj.n (λh=>?_)|refine lq (λh=>?_)|refine ag.a ?_|refine bM qN qN VW.top ?_|refine ag.mk ?_ ?_)
  all_goals try exact cls
  all_goals(try(refine leq ?_ ?_ <;> repeat'(first|exact tv|exact qV|refine gu ?_|refine jQ qN (λk hk=>?_) ?_|refine gU qN ?_ (λj hj k hk=>?_) ?_|refine an ?_ ?_)))
  all_goals first|exact rfl|exact cm qV|exact⟨dL _,(show(0:Int)<1 by decide)⟩|exact kk|(repeat'(first|exact tv|refine fE qN ?_ ?_|refine an ⟨nb rfl,aW.row rfl fv⟩ ?_|exact qV|exact qW|refine an ?_ ?_))
 ·intro l X2 hds;repeat'(first|refine Kw ?_|refine TR.region rfl ?_|refine ag.a ?_)
  all_goals(try(refine leq ?_ ?_ <;> repeat'(first|exact tv|exact qW|refine jQ qN (λk hk=>?_) ?_|refine gU qN ?_ (λj hj k hk=>?_) ?_|refine an ?_ ?_)))
  all_goals first|exact rfl|exact cm qV|(have hk:k<10:=hk;obtain _|_|_|_|_|_|_|_|_|_|k:=k <;> first|exact cm qV|omega)|exact kk
 ·intro l X3 hds;repeat'(first|refine Kw ?_|refine TR.seq ?_|refine TR.region rfl ?_|refine TR.cond ?_|refine TR.block ?_|refine TR.skip ?_|refine aj.n (λh=>?_)|refine ag.a ?_)
  all_goals(try(refine leq ?_ ?_ <;> repeat'(first|exact tv|refine jQ qN (λk hk=>?_) ?_|refine gU qN ?_ (λj hj k hk=>?_) ?_)))
  all_goals first|exact rfl|exact cm qV|exact kk|(rw[show j=0 from Nat.lt_one_iff.1 hj];have hk:k<2:=hk;obtain _|_|k:=k <;> first|exact cm qV|omega)
 ·intro X4 X;repeat'(first|refine aC ?_|refine bU 11 [2,3,4] [o0,o2,o1,(1,1,true,[]),(2,2,true,[])] ?_|refine mc ?_ ?_|refine ag.a ?_|refine Fin.eG (i:=5) (h:=λj=>ji (([(⟨0,0⟩:Rep)]:List Rep).getD j .z)) (iI.of (n:=1) (z:=2) (E:=52) (cZ _) rfl fr) (Fin.tell (fH [dZ s,.d (xJ [(⟨0,0⟩:Rep)]),iV 0] rfl fr vw)))
  all_goals(try(refine dm.mk ?_;repeat'(first|exact tv|exact rfl|refine an ?_ ?_|refine ag.mk ?_ ?_)))
  all_goals try exact cls
def amB(s:aN)(t v:Int)(c:aF)(hs:jw s)(hz:nV c)(hc:fZ c v):aQ 212 [dZ s,.d (gY [(⟨t,fQ c⟩:bH)]),iV v] (bI [dZ (oC s c).1,.d (xJ [(oC s c).2]),iV 0]):=by
 refine abX (f:=212) (fn:=f212) (t1:=⟨[(0,.Wp 7 (λk=>.d (dW s k))),(1,.Wp 7 (λ_=>.top)),(2,.Wp 1 (λ_=>.top)),(3,.Wp 1 (λ_=>.top)),(4,.Wp 1 (λ_=>.row 5 ([]:List Rep).length)),(5,bQ 52 2 ji .z ([]:List Rep)),(6,.Wp 1 (λ_=>.d (gY [(⟨t,fQ c⟩:bH)]))),(7,.Wp 1 (λ_=>iV v))],8⟩) (t3:=⟨[(0,.Wp 7 (λk=>.d (dW (oC s c).1 k))),(1,.Wp 7 (λ_=>.top)),(2,.Wp 1 (λ_=>.top)),(3,.Wp 1 (λ_=>.top)),(4,.Wp 1 (λ_=>.row 5 ([(oC s c).2]:List Rep).length)),(5,bQ 52 2 ji .z ([(oC s c).2]:List Rep))],9⟩) (sL:=⟨40,[(3,.ptr 0 0),(6,.ptr 1 0),(7,.ptr 2 0),(8,.ptr 3 0),(9,.ptr 4 0),(16,.fn 236 0 2 (λk=>match k with|0=>.ptr 6 0|_=>.ptr 7 0))],⟨[(0,.Wp 7 (λk=>.d (dW s k))),(1,.Wp 7 (λ_=>.top)),(2,.Wp 1 (λ_=>.top)),(3,.Wp 1 (λ_=>.top)),(4,.Wp 1 (λ_=>.row 5 ([]:List Rep).length)),(5,bQ 52 2 ji .z ([]:List Rep)),(6,.Wp 1 (λ_=>.d (gY [(⟨t,fQ c⟩:bH)]))),(7,.Wp 1 (λ_=>iV v))],8⟩⟩) (sA:=⟨40,[(3,.ptr 0 0),(6,.ptr 1 0),(7,.ptr 2 0),(8,.ptr 3 0),(9,.ptr 4 0),(10,.ptr 8 0)],⟨[(0,.Wp 7 (λk=>.d (dW s k))),(1,.Wp 7 (λ_=>.top)),(2,.Wp 1 (λ_=>.top)),(3,.Wp 1 (λ_=>.top)),(4,.Wp 1 (λ_=>.row 5 ([]:List Rep).length)),(5,bQ 52 2 ji .z ([]:List Rep)),(8,.Wp 10 (Le c true))],9⟩⟩) (sE:=⟨40,[],⟨[(0,.Wp 7 (λk=>.d (dW (oC s c).1 k))),(1,.Wp 7 (λ_=>.top)),(2,.Wp 1 (λ_=>.top)),(3,.Wp 1 (λ_=>.top)),(4,.Wp 1 (λ_=>.row 5 ([(oC s c).2]:List Rep).length)),(5,bQ 52 2 ji .z ([(oC s c).2]:List Rep))],9⟩⟩) (mD:=λk=>match k with|0=>.ptr 6 0|_=>.ptr 7 0) (vF:=f236) (.agg 10 (Le c true)) func212 rfl rfl qN ?_ rfl qN func236 rfl rfl qN ?_ ?_ ?_ ?_
 ·intro X;repeat'(first|refine Kw ?_|refine uN (c:=.region 3 _ _) 4 0 52 (λj k=>.d (ji (([]:List Rep).getD j .z) k)) rfl rfl qN rfl qN (T.region ?_)|refine aC ?_|refine aO (Oh s hs.fit) ?_|refine ay (f:=229) func229 λX2=>?_|refine ag.a ?_|refine Fin.here ?_)
  all_goals try exact cls
  all_goals(try(refine leq ?_ ?_ <;> repeat'(first|exact tv|exact qW|refine gX ?_|refine jQ qN (λk hk=>?_) ?_|refine gU qN ?_ (λj hj k hk=>?_) ?_|refine an ?_ ?_)))
  all_goals first|exact rfl|exact cm qV|exact cm VW.top|(have hk:k<7:=hk;obtain _|_|_|_|_|_|_|k:=k <;> (exact cm qV))|exact kk
 ·intro X1 l hds hY;repeat'(first|refine adi (id:=4) (pre:=(nP f236 4).toList.take 5) (sY:=⟨30,[(9,.d (gY [(⟨t,fQ c⟩:bH)])),(10,iV 1),(11,iV 0),(22,.d (.v (.func (.yield l) #[] #[]))),(26,(.agg 10 (Le c true)))],⟨[(0,.Wp 7 (λk=>.d (dW s k))),(1,.Wp 7 (λ_=>.top)),(2,.Wp 1 (λ_=>.top)),(3,.Wp 1 (λ_=>.top)),(4,.Wp 1 (λ_=>.row 5 ([]:List Rep).length)),(5,bQ 52 2 ji .z ([]:List Rep)),(6,.Wp 1 (λ_=>.d (gY [(⟨t,fQ c⟩:bH)]))),(7,.Wp 1 (λ_=>iV v))],8⟩⟩) hY rfl rfl rfl rfl ?_ rfl rfl rfl rfl ?_|refine aC ?_|refine aO (apS t c v hc) ?_|refine BN ?_|refine TL.round ?_|refine aj.n (λh=>?_)|refine lq (λh=>?_)|refine ag.a ?_|refine bM qN qN VW.top ?_|refine ag.mk ?_ ?_)
  all_goals try exact cls
  all_goals(try(refine leq ?_ ?_ <;> repeat'(first|exact tv|exact qV|refine gu ?_|refine jQ qN (λk hk=>?_) ?_|refine gU qN ?_ (λj hj k hk=>?_) ?_|refine an ?_ ?_)))
  all_goals first|exact rfl|exact cm qV|exact⟨dL _,(show(0:Int)<1 by decide)⟩|exact kk|(repeat'(first|exact tv|refine fE qN ?_ ?_|refine an ⟨nb rfl,aW.row rfl fv⟩ ?_|exact qV|exact qW|refine an ?_ ?_))
 ·intro l X2 hds;repeat'(first|refine Kw ?_|refine TR.region rfl ?_|refine ag.a ?_)
  all_goals(try(refine leq ?_ ?_ <;> repeat'(first|exact tv|exact qW|refine jQ qN (λk hk=>?_) ?_|refine gU qN ?_ (λj hj k hk=>?_) ?_|refine an ?_ ?_)))
  all_goals first|exact rfl|exact cm qV|(have hk:k<10:=hk;obtain _|_|_|_|_|_|_|_|_|_|k:=k <;> first|exact cm qV|omega)|exact kk
 ·intro l X3 hds;repeat'(first|refine Kw ?_|refine TR.seq ?_|refine TR.region rfl ?_|refine TR.cond ?_|refine TR.block ?_|refine TR.skip ?_|refine aO (axc s c hs hz) ?_|refine aj.n (λh=>?_)|refine lq (λh=>?_)|refine ag.a ?_)
  all_goals(try(refine leq ?_ ?_ <;> repeat'(first|exact tv|refine jQ qN (λk hk=>?_) ?_|refine gU qN ?_ (λj hj k hk=>?_) ?_)))
  all_goals first|exact rfl|exact cm qV|(have hk:k<7:=hk;obtain _|_|_|_|_|_|_|k:=k <;> first|exact cm qV|omega)|exact kk|(rw[show j=0 from Nat.lt_one_iff.1 hj];have hk:k<2:=hk;obtain _|_|k:=k <;> first|exact cm qV|omega)
 ·intro X4 X;repeat'(first|refine aC ?_|refine bU 11 [2,3,4] [o0,o2,o1,(1,1,true,[]),(2,2,true,[])] ?_|refine mc ?_ ?_|refine ag.a ?_|refine Fin.eG (i:=5) (h:=λj=>ji (([(oC s c).2]:List Rep).getD j .z)) (iI.of (n:=1) (z:=2) (E:=52) (cZ _) rfl fr) (Fin.tell (fH [dZ (oC s c).1,.d (xJ [(oC s c).2]),iV 0] rfl fr vw)))
  all_goals(try(refine dm.mk ?_;repeat'(first|exact tv|exact rfl|refine an ?_ ?_|refine ag.mk ?_ ?_)))
  all_goals try exact cls
def Vd(e:bH)(o:Option aF)(v:Int):Prop:=match o with|none=>e.b=[]|some c=>e.b=fQ c/\fZ c v/\nV c
def lL(s:aN)(o:Option aF):aN×Rep:=match o with|none=>(s,⟨0,0⟩)|some c=>oC s c
def nU(s:aN)(os:List (Option aF)):aN×List Rep:=os.foldl (λp o=>((lL p.1 o).1,p.2++[(lL p.1 o).2])) (s,[])
def adP{s:aN}{os:List (Option aF)}{i:Nat}(h:i<os.length):nU s (os.take (i+1))=((lL (nU s (os.take i)).1 (os.getD i none)).1,(nU s (os.take i)).2++[(lL (nU s (os.take i)).1 (os.getD i none)).2]):=H7 _ _ none h
def afu{s:aN}{os:List (Option aF)}:∀ {i:Nat},i<=os.length->(nU s (os.take i)).2.length=i
 |0,_=>rfl
 |i+1,h=>by
  rw[adP qO];rw[bP,List.length_singleton,afu (i:=i) qO]
def aft(s:aN)(e:bH)(o:Option aF)(v:Int)(he:Vd e o v)(hs:jw s)(h1:1<=v)(h3:v<=3):aQ 212 [dZ s,.d (gY [e]),iV v] (bI [dZ (lL s o).1,.d (xJ [(lL s o).2]),iV 0]):=by
 obtain⟨t,b⟩:=e;cases o with
 |none=>
  obtain rfl:b=[]:=he;exact amC s t v hs.fit h1 h3
 |some c=>
  obtain⟨rfl,hc,hz⟩:b=fQ c/\fZ c v/\nV c:=he;exact amB s t v c hs hz hc
def applyN(n:aA)(os:List (Option aF)):aA:={ n with st:=(nU n.st os).1,fV:=n.fV++(nU n.st os).2,dn:=n.dn+os.length }
def yB(n:aA)(os:List (Option aF))(i:Nat):aA:={ n with st:=(nU n.st (os.take i)).1,fV:=n.fV++(nU n.st (os.take i)).2,dn:=n.dn+i }
def agY(n:aA)(o:Option aF):aA:={ n with st:=(lL n.st o).1,fV:=n.fV++[(lL n.st o).2],dn:=n.dn+1 }
def aor{n:aA}{os:List (Option aF)}:yB n os 0=n:=by
 unfold yB nU;simp
def ai9{n:aA}{os:List (Option aF)}{i:Nat}(h:i<os.length):yB n os (i+1)=agY (yB n os i) (os.getD i none):=by
 unfold yB agY;rw[adP h];simp only[jV];rw[show n.dn+((i+1:Nat):Int)=n.dn+(i:Int)+1 by omega]
def ajQ{n:aA}{os:List (Option aF)}{i:Nat}(h:i=os.length):yB n os i=applyN n os:=by
 subst h;unfold yB applyN;rw[mM]
def aja{n:aA}{os:List (Option aF)}{i:Nat}(h:i<=os.length):(yB n os i).fV.length=n.fV.length+i:=by
 show(n.fV++(nU n.st (os.take i)).2).length=_;rw[bP,afu h]
def amX(n:aA)(os:List (Option aF))(hc:os.length=(n.dN-n.dn).toNat)(ha:0<=n.dn)(hl:n.dN<=n.ae.log.length)(h70:n.ae.log.length<=70)(hr:n.fV.length<=1000)(hb:1<=n.bin/\n.bin<=3)(wC:∀ i,i<os.length->Vd (n.ae.log.getD (n.dn.toNat+i) .z) (os.getD i none) n.bin)(iY:∀ i,i<=os.length->jw (nU n.st (os.take i)).1):af 161 [.ptr 0 0] (NS n) (λv t=>v = .top/\t=NS (applyN n os)):=by
 refine ay func161 λX=>?_
 (repeat'(first|refine aC ?_|refine bU 0 [] (ooz 11 []) ?_|refine bU 1 [33,34] [o2,o2,o2,o2,o2,o2,o2,o2,o2,o2,o2,o2,o2,o2,o2,o2,o2,o2,o2,o2,o2,o2,o2,o2,o2,o2,o2,o2,o2,o2,o2,(0,2,false,[]),(0,2,false,[]),o1,(1,1,true,[]),(2,2,false,[]),(2,2,false,[])] ?_|refine mc ?_ ?_|refine dU os.length (λi (a:Unit)=>⟨76,[(0,.ptr 0 0)],NS (yB n os i)⟩) (λ_ _=>True) () ?_ True.intro (λi a hi hp=>?_)|refine aZ () ⟨?_,tv,?_⟩|refine jd.tell (aft (nU n.st (os.take i)).1 (n.ae.log.getD (n.dn.toNat+i) .z) (os.getD i none) n.bin (wC i (by have h9:=bT (aG:decide (n.dn+(i:Int)<n.dN)=true);omega)) (iY i (Nat.le_of_lt (by have h9:=bT (aG:decide (n.dn+(i:Int)<n.dN)=true);omega))) hb.1 hb.2) ⟨agg,VW.sl ?_ (λj hj k hk=>?_),qV,tv⟩ ?_|refine aj.n (λh=>?_)|refine aj.mk (λh=>?_) (λh=>?_)|refine ag.a ?_|refine bM qN qN VW.top ?_|refine ag.mk ?_ ?_))<;>(try(refine dm.mk ?_;repeat'(first|exact tv|exact rfl|refine af.tell (aft (nU n.st (os.take i)).1 (n.ae.log.getD (n.dn.toNat+i) .z) (os.getD i none) n.bin (wC i (by have h9:=bT (aG:decide (n.dn+(i:Int)<n.dN)=true);omega)) (iY i (Nat.le_of_lt (by have h9:=bT (aG:decide (n.dn+(i:Int)<n.dN)=true);omega))) hb.1 hb.2) ⟨agg,VW.sl ?_ (λj hj k hk=>?_),qV,tv⟩ ?_|refine an ?_ ?_|refine ag.mk ?_ ?_)))
 all_goals try exact cls
 all_goals(try(refine leq ?_ ?_ <;> repeat'(first|exact tv|exact qW|refine jQ qN (λk hk=>?_) ?_|refine gU qN ?_ (λj hj k hk=>?_) ?_|refine an ?_ ?_)))
 all_goals first|exact rfl|exact cm qV|(exact ah (V.gQ 3) (funext λk=>by obtain _|_|_|k:=k <;> rfl))|(rw[aor];first|done|exact cm (VW.refl (NZ qN n k hk))|exact cm qV)|exact cm (VW.refl (TN qN n.aB k hk))|(rw[<-ajQ (show i=os.length by have h9:=bV (aG:decide (n.dn+(i:Int)<n.dN)=false);omega)];(repeat'(first|exact tv|refine fE qN ?_ ?_|refine an ⟨nb rfl,aW.row rfl fv⟩ ?_|exact qV|exact qW|refine an ?_ ?_));done)|(have h9:i<os.length:=(by have h9:=bT (aG:decide (n.dn+(i:Int)<n.dN)=true);omega);have q:=aja (n:=n) (os:=os) hi;have qa:(yB n os i).dn=n.dn+i:=rfl;have qs:(yB n os i).ae.log.length=n.ae.log.length:=rfl;first|omega|(simp only[dM,jg];omega)|(show _=1;omega)|(refine⟨rfl,?_⟩;show _+1<=_;omega)|(obtain rfl:j=0:=qo;show pJ (n.ae.log.getD ((yB n os i).dn.toNat+0) .z) k=pJ (n.ae.log.getD (n.dn.toNat+i) .z) k;rw[show(yB n os i).dn.toNat+0=n.dn.toNat+i by omega])|(rw[ai9 h9];first|exact List.length_append.symm|(have hk:k<23:=hk;obtain _|_|_|_|_|_|_|_|_|_|_|_|_|_|_|_|_|_|_|_|_|_|_|k:=k <;> first|exact cm qV|exact cm qW|exact cm (vq (ah (V.row 3) List.length_append.symm) qN))|(have hk:k<2:=hk;refine cm (kU rfl hj fr (λj hj=>?_));obtain rfl:j=0:=Nat.lt_one_iff.1 hj;obtain _|_|k:=k;exact qV;exact qV;omega)))
structure Jc (n:aA) (os:List (Option aF)):Prop where
 hc:os.length=(n.dN-n.dn).toNat
 ha:0<=n.dn
 hl:n.dN<=n.ae.log.length
 h70:n.ae.log.length<=70
 hr:n.fV.length<=1000
 hb:1<=n.bin/\n.bin<=3
 wC:∀ i,i<os.length->Vd (n.ae.log.getD (n.dn.toNat+i) .z) (os.getD i none) n.bin
 iY:∀ i,i<=os.length->jw (nU n.st (os.take i)).1
def agz(n:aA)(os:List (Option aF))(h:Jc n os):af 161 [.ptr 0 0] (NS n) (λv t=>v = .top/\t=NS (applyN n os)):=amX n os h.hc h.ha h.hl h.h70 h.hr h.hb h.wC h.iY
def ny(n:aA)(x:aV):aA:={ n with role:=bif decide (x.term=n.ae.term) then 0 else n.role }
def Dv(n:aA)(x:aV)(u:Int):aA:={ n with dN:=max n.dN (min x.c u) }
def abo.mk{p q:Prop}(h:p)(hq:q):q:=hq
def vP(n:aA)(x:aV)(os:List (Option aF)):aA×List aV×Int:=
 bif !decide ((aS n (bg n.ae x).1).2=0) then((aS n (bg n.ae x).1).1,[],(aS n (bg n.ae x).1).2)
 else bif (bg n.ae x).2.1 then(applyN (Dv (ny (aS n (bg n.ae x).1).1 x) x (bg n.ae x).2.2) os,[{ sJ (ny (aS n (bg n.ae x).1).1 x) 4 x.src with ok:=(bg n.ae x).2.1,a:=(bg n.ae x).2.2 }],0)
 else bif decide (x.term=(aS n (bg n.ae x).1).1.ae.term) then(ny (aS n (bg n.ae x).1).1 x,[{ sJ (ny (aS n (bg n.ae x).1).1 x) 4 x.src with ok:=(bg n.ae x).2.1,a:=min 64 (aS n (bg n.ae x).1).1.ae.log.length }],0)
 else(ny (aS n (bg n.ae x).1).1 x,[{ sJ (ny (aS n (bg n.ae x).1).1 x) 4 x.src with ok:=(bg n.ae x).2.1 }],0)
def ak1(n:aA)(x:aV)(os:List (Option aF))(hx:jY x)(fF:x.kind=3)(jP:x.a+x.l.length<=64)(hl:n.ae.log.length<=1000)(hL:mV n.ae (bg n.ae x).1)(hn:wB n)(pK:(aS n (bg n.ae x).1).1.ae.log.length<=1000)(sH:(!decide ((aS n (bg n.ae x).1).2=0))=false->(bg n.ae x).2.1=true->Jc (Dv (ny (aS n (bg n.ae x).1).1 x) x (bg n.ae x).2.2) os):af 107 [.ptr 0 0,jT x] (NS n) (NR (vP n x os)):=by
 refine ay func107 λX=>?_
 (repeat'(first|refine T.cut (x:=.seq (.region 7 _ _) _) ⟨93,[(0,.ptr 0 0),(3,.ptr 8 0),(7,.b (bg n.ae x).2.1),(8,iV (bg n.ae x).2.2)],⟨NL (ny (aS n (bg n.ae x).1).1 x)++[(8,.Wp 10 (λk=>.d (kN x k)))],9⟩⟩ ?_ ?_|refine aC ?_|refine bU 1 [6] (ooz 6 [o1,o3,o3,o3,o3,o3,o3,o3,o3,o3]) ?_|refine bU 7 [] (ooz 9 []) ?_|refine bU 12 [14] (ooz 14 [o1]) ?_|refine bU 15 [] (ooz 10 []) ?_|refine mc ?_ ?_|refine fO [0,1,2,3,4,5,6,7] (Ea n (bg n.ae x).1 hL hn) ?_|refine fO [0,1,2,3,4,5,6,7] (X7 (ny (aS n (bg n.ae x).1).1 x) 4 x.src) ?_|refine fO [0,1,2,3,4,5,6,7] (agz (Dv (ny (aS n (bg n.ae x).1).1 x) x (bg n.ae x).2.2) os (sH aG aG)) ?_|refine kF (TZ n.ae x hx fF jP hl) ?_|refine aj.n (λh=>?_)|refine aj.mk (λh=>?_) (λh=>?_)|refine ag.a ?_|refine NR.of (p:=((aS n (bg n.ae x).1).1,[],(aS n (bg n.ae x).1).2)) ?_ (bM qN qN (fH [.d (iU []),iV ((aS n (bg n.ae x).1).2)] rfl fr vw) ?_)|(refine abo.mk (p:=(bg n.ae x).2.1=true) ?_ ?_;((exact h));refine NR.of (p:=(applyN (Dv (ny (aS n (bg n.ae x).1).1 x) x (bg n.ae x).2.2) os,[({ sJ (ny (aS n (bg n.ae x).1).1 x) 4 x.src with ok:=(bg n.ae x).2.1,a:=(bg n.ae x).2.2 }:aV)],0)) ?_ (Fin.eG (i:=10) (h:=λj=>kN (([({ sJ (ny (aS n (bg n.ae x).1).1 x) 4 x.src with ok:=(bg n.ae x).2.1,a:=(bg n.ae x).2.2 }:aV)]:List aV).getD j .z)) (iI.of (n:=1) (z:=10) (E:=126) qN rfl (λj hj k hk=>NT hj hk rfl rfl rfl rfl rfl rfl rfl rfl rfl rfl)) (bM qN qN (fH [.d (iU [({ sJ (ny (aS n (bg n.ae x).1).1 x) 4 x.src with ok:=(bg n.ae x).2.1,a:=(bg n.ae x).2.2 }:aV)]),iV 0] rfl fr vw) ?_)))|(refine abo.mk (p:=decide (x.term=(aS n (bg n.ae x).1).1.ae.term)=true) ?_ ?_;((exact h));refine NR.of (p:=((ny (aS n (bg n.ae x).1).1 x),[({ sJ (ny (aS n (bg n.ae x).1).1 x) 4 x.src with ok:=(bg n.ae x).2.1,a:=min 64 (aS n (bg n.ae x).1).1.ae.log.length }:aV)],0)) ?_ (Fin.eG (i:=10) (h:=λj=>kN (([({ sJ (ny (aS n (bg n.ae x).1).1 x) 4 x.src with ok:=(bg n.ae x).2.1,a:=min 64 (aS n (bg n.ae x).1).1.ae.log.length }:aV)]:List aV).getD j .z)) (iI.of (n:=1) (z:=10) (E:=126) qN rfl (λj hj k hk=>NT hj hk rfl rfl rfl rfl rfl rfl rfl rfl rfl rfl)) (bM qN qN (fH [.d (iU [({ sJ (ny (aS n (bg n.ae x).1).1 x) 4 x.src with ok:=(bg n.ae x).2.1,a:=min 64 (aS n (bg n.ae x).1).1.ae.log.length }:aV)]),iV 0] rfl fr vw) ?_)))|(refine abo.mk (p:=decide (x.term=(aS n (bg n.ae x).1).1.ae.term)=false) ?_ ?_;((exact h));refine NR.of (p:=((ny (aS n (bg n.ae x).1).1 x),[({ sJ (ny (aS n (bg n.ae x).1).1 x) 4 x.src with ok:=(bg n.ae x).2.1 }:aV)],0)) ?_ (Fin.eG (i:=10) (h:=λj=>kN (([({ sJ (ny (aS n (bg n.ae x).1).1 x) 4 x.src with ok:=(bg n.ae x).2.1 }:aV)]:List aV).getD j .z)) (iI.of (n:=1) (z:=10) (E:=126) qN rfl (λj hj k hk=>NT hj hk rfl rfl rfl rfl rfl rfl rfl rfl rfl rfl)) (bM qN qN (fH [.d (iU [({ sJ (ny (aS n (bg n.ae x).1).1 x) 4 x.src with ok:=(bg n.ae x).2.1 }:aV)]),iV 0] rfl fr vw) ?_)))))<;>(try(refine dm.mk ?_;repeat'(first|exact tv|exact rfl|refine aO (TZ n.ae x hx fF jP hl) ?_|refine an ?_ ?_|refine ag.mk ?_ ?_)))
 all_goals try exact cls
 all_goals(try(refine leq ?_ ?_ <;> repeat'(first|exact tv|exact qV|exact qW|refine jQ qN (λk hk=>?_) ?_|refine gU qN ?_ (λj hj k hk=>?_) ?_|refine an ?_ ?_)))
 all_goals first|exact rfl|exact cm qV|(unfold vP;simp only[*,dw,bz];done)|(rename_i h1 h2;first|exact(bG h1).trans ((bG h2).trans (dH h))|exact(bG h1).trans ((bG h2).trans (bG h)))|exact kk|(have hk:k<23:=hk;obtain _|_|_|_|_|_|_|_|_|_|_|_|_|_|_|_|_|_|_|_|_|_|_|k:=k <;> first|exact cm qV|exact cm qW|exact cm (vq (ah iV (show(0:Int)=bif decide (x.term=(aS n (bg n.ae x).1).1.ae.term) then 0 else(aS n (bg n.ae x).1).1.role by rw[h];rfl)) tv)|exact cm (vq (ah iV (show(aS n (bg n.ae x).1).1.role=bif decide (x.term=(aS n (bg n.ae x).1).1.ae.term) then 0 else(aS n (bg n.ae x).1).1.role by rw[h];rfl)) tv))|exact uF
