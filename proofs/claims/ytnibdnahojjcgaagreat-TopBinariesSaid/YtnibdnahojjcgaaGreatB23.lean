/- A part of the proof. -/
import Derived.Test.YtnibdnahojjcgaaGreatB19
namespace Go.Proofs.YtnibdnahojjcgaaGreat
set_option maxRecDepth 100000
set_option maxHeartbeats 16000000
set_option linter.unusedVariables false
set_option linter.unusedSimpArgs false
open Go.RowKit
section
abbrev jX(l:List V):Nat->V:=λk=>l.getD k .top
abbrev lV(f:Nat)(a b:Nat):V:=.fn f 0 2 (jX [.ptr a 0,.ptr b 0])
abbrev F8(f:Nat):V:=.fn f 0 1 (jX [.ptr 0 0])
abbrev f265:V:=lV 265 0 1
abbrev f268:V:=lV 268 9 0
abbrev oQ(b:Nat):V:=.fn 266 0 3 (jX [.ptr 0 0,.ptr 1 0,.ptr b 0])
abbrev f269(b:Nat):V:=lV 269 0 b
def rW(k:Int):V:=bif decide (2=k) then lV 270 0 1 else bif decide (3=k) then lV 272 0 1 else bif decide (4=k) then lV 274 0 1 else bif decide (6=k) then lV 276 1 0 else bif decide (12=k) then lV 277 1 0
 else bif decide (5=k) then oQ 11 else bif decide (7=k) then oQ 12 else bif decide (9=k) then oQ 14 else bif decide (10=k) then oQ 16 else bif decide (11=k) then oQ 17 else .top
def uM(k:Int):Bool:=bif decide (2=k) then true else bif decide (3=k) then true else bif decide (4=k) then true else bif decide (6=k) then true else bif decide (12=k) then true
 else bif decide (5=k) then true else bif decide (7=k) then true else bif decide (9=k) then true else bif decide (10=k) then true else bif decide (11=k) then true else false
abbrev Nw(k:Int):V:=.fV 2 (λj=>match j with|0=>rW k|_=>.b (uM k))
abbrev afL(b2 b4 b6 b8 b10 b14 b18 OO OM b28:Bool):List (Int×Bool×V):=[(2,b2,lV 270 0 1),(3,b4,lV 272 0 1),(4,b6,lV 274 0 1),(6,b8,lV 276 1 0),(12,b10,lV 277 1 0),(5,b14,oQ 11),(7,b18,oQ 12),(9,OO,oQ 14),(10,OM,oQ 16),(11,b28,oQ 17)]
def xg(c:aI)(O0 O6 O7 O8:aG):List (Nat×aG):=[(0,O0),(1,.blk 8 (λk=>.d (kY c k))),(2,.blk 7 (λ_=>.top)),(3,.blk 2 (λ_=>.top)),(6,O6),(7,O7),(8,O8),(9,.blk 1 (λ_=>f265))]
def asg(b0 b2 b4 b6 b8 b10 b13 b14 b17 b18 b20 OO Ub OM b27 b28:Bool):List (Nat×aG):=[(10,bif b0 then .map (uO (afL b2 b4 b6 b8 b10 b14 b18 OO OM b28)) else .dead),(11,bif b13 then .blk 1 (λ_=>F8 279) else .dead),(12,bif b17 then .blk 1 (λ_=>F8 281) else .dead),
 (13,bif b20 then .blk 1 (λ_=>.b true) else .dead),(14,bif b20 then .blk 1 (λ_=>f269 13) else .dead),(15,bif Ub then .blk 1 (λ_=>.b false) else .dead),(16,bif Ub then .blk 1 (λ_=>f269 15) else .dead),(17,bif b27 then .blk 1 (λ_=>lV 282 1 0) else .dead)]
def afM(c:aI)(O0 O6 O7 O8:aG)(b0 b2 b4 b6 b8 b10 b13 b14 b17 b18 b20 OO Ub OM b27 b28:Bool):ST:=⟨xg c O0 O6 O7 O8++asg b0 b2 b4 b6 b8 b10 b13 b14 b17 b18 b20 OO Ub OM b27 b28,18⟩
def xZ(c:aI):List V:=[.mp 10,lV 270 0 1,.top,lV 272 0 1,.top,lV 274 0 1,.top,lV 276 1 0,.top,lV 277 1 0,.top,f265,F8 279,oQ 11,.top,f265,F8 281,oQ 12,.top,f268,oQ 14,.top,f268,oQ 16,.top,f265,lV 282 1 0,oQ 17,.top,.mp 10,.ptr 1 0,iV c.kind,Nw c.kind,Nw c.kind,rW c.kind,.b (uM c.kind),rW c.kind,.b (uM c.kind)]
abbrev wH:nN:=[none,none,none,none,none,none,none,none,none,none,some (0,0),some (13,0),some (17,0),some (20,0),some (20,1),some (23,0),some (23,1),some (27,0)]
abbrev x8:List (Nat×V):=[(8,f268),(7,.ptr 9 0),(2,.ptr 0 0),(3,.ptr 1 0),(4,.ptr 2 0),(5,.ptr 3 0)]
def FO(o:aG):Prop:=kX (λk=>k<10) o
theorem wF{P:Nat->Prop}{N:Nat}(hP:∀ k,P k->k<N):∀ {v:V},iO P v->wV N v:=by
 intro v;induction v with
 |ptr i o=>exact hP i
 |rp i n j c=>exact hP i
 |row i n=>exact hP i
 |vw i n lo m=>exact hP i
 |mp i=>exact hP i
 |agg n g ih=>exact λh k hk=>ih k (h k hk)
 |fV n g ih=>exact λh k hk=>ih k (h k hk)
 |fn f nf n g ih=>exact λh k hk=>ih k (h k hk)
 |ku t w v ih=>exact ih
 |_=>exact λ_=>trivial
theorem Va{P Q:Nat->Prop}(Ei:∀ k,P k->Q k):∀ {v:V},iO P v->iO Q v:=by
 intro v;induction v with
 |ptr i o=>exact Ei i
 |rp i n j c=>exact Ei i
 |row i n=>exact Ei i
 |vw i n lo m=>exact Ei i
 |mp i=>exact Ei i
 |agg n g ih=>exact λh k hk=>ih k (h k hk)
 |fV n g ih=>exact λh k hk=>ih k (h k hk)
 |fn f nf n g ih=>exact λh k hk=>ih k (h k hk)
 |ku t w v ih=>exact ih
 |_=>exact λ_=>trivial
theorem PK{P Q:Nat->Prop}(Ei:∀ k,P k->Q k){o:aG}(h:kX P o):kX Q o:=by
 cases o with
 |dead=>exact tv
 |blk n g=>exact λk hk=>Va Ei (h k hk)
 |row E s n g=>exact λj hj k hk=>Va Ei (h j hj k hk)
 |map es=>exact λk v he=>Va Ei (h k v he)
theorem atJ{o:aG}(h:FO o):af 18 o o:=by
 have hP:∀ k,k<10->k<18:=λk hk=>by omega
 cases o with
 |dead=>exact tv
 |blk n g=>exact⟨rfl,λk hk=>VW.refl (wF hP (h k hk))⟩
 |row E s n g=>exact⟨rfl,rfl,rfl,λj hj k hk=>VW.refl (wF hP (h j hj k hk))⟩
 |map es=>
  intro k;rcases he:dU es k with _|v
  ·trivial
  ·exact VW.refl (wF hP (h k v he))
theorem ap0:∀ k,k<10->wH[k]?=some none:=by
 intro k hk;rcases k with _|_|_|_|_|_|_|_|_|_|k
 all_goals first|rfl|omega
theorem rJ{P:Nat->Prop}{f a b:Nat}(ha:P a)(hb:P b):iO P (lV f a b):=λk hk=>by
 rcases k with _|_|k
 ·exact ha
 ·exact hb
 ·omega
theorem uB{P:Nat->Prop}{b:Nat}(h0:P 0)(h1:P 1)(hb:P b):iO P (oQ b):=λk hk=>by
 rcases k with _|_|_|k
 ·exact h0
 ·exact h1
 ·exact hb
 ·omega
theorem Qj{P:Nat->Prop}{k:Int}(h0:P 0)(h1:P 1)(a:P 11)(b:P 12)(c:P 14)(d:P 16)(e:P 17):iO P (rW k):=by
 unfold rW;cases decide (2=k);cases decide (3=k);cases decide (4=k);cases decide (6=k);cases decide (12=k);cases decide (5=k);cases decide (7=k);cases decide (9=k);cases decide (10=k);cases decide (11=k);all_goals first|exact tv|exact rJ h0 h1|exact rJ h1 h0|exact uB h0 h1 a|exact uB h0 h1 b|exact uB h0 h1 c|exact uB h0 h1 d|exact uB h0 h1 e
theorem acy{P:Nat->Prop}{k:Int}(h:iO P (rW k)):iO P (Nw k):=λj hj=>by
 rcases j with _|j
 ·exact h
 ·exact tv
theorem lkA{N:Nat}{φ:Nat->Option Nat}{k:Int}{F:V}(hF:rW k=F)(hB:uM k=true)(hv:VW N (dO φ F) F):VW N (dO φ (okV true F true)) (Nw k):=VW.fV λj hj=>by
 rcases j with _|j
 ·show VW N (dO φ F) (rW k);rw[hF];exact hv
 ·show VW N (V.b true) (V.b (uM k));rw[hB];exact VW.refl tv
theorem lkN{N:Nat}{φ:Nat->Option Nat}{k:Int}{F:V}(h1:decide (2=k)=false)(h2:decide (3=k)=false)(h3:decide (4=k)=false)(h4:decide (6=k)=false)(h5:decide (12=k)=false)(h6:decide (5=k)=false)(h7:decide (7=k)=false)(h8:decide (9=k)=false)(h9:decide (10=k)=false)(h10:decide (11=k)=false):VW N (dO φ (okV true F false)) (Nw k):=VW.fV λj hj=>by
 rcases j with _|j
 ·show VW N (dO φ F) (rW k);unfold rW;rw[h1,h2,h3,h4,h5,h6,h7,h8,h9,h10];exact VW.top
 ·show VW N (V.b false) (V.b (uM k));unfold uM;rw[h1,h2,h3,h4,h5,h6,h7,h8,h9,h10];exact VW.refl tv
theorem FQ.at{M:List Nat}{D:Nat->Bool}{e c:Nat}(h:FQ M D)(hb:D e=true)(ht:(M.getD e 0).testBit c=true):D c=true:=h e c ht hb
def ae9:List Nat:=0::0::3::0::9::0::33::0::129::0::513::0::0::6144::14337::0::0::112640::243713::0::768000::1816577::0::6010880::14399489::0::0::115062784::249280513::536870911::0::1073741824::4294967295::8589934591::17179869183::17179869183::34359738367::137438953471::[]
theorem Ye {p:Prop}(h:p:=by
 intro k hk;refine⟨hk,?_⟩;rcases k with _|_|_|_|_|_|_|_|_|_|_|_|_|_|_|_|_|_|k
 all_goals first|exact hr.old _ rfl|exact hr.done _ _ _ rfl (by decide) rfl|omega):p:=h
theorem aog(D:Nat->Bool)(i:Nat):∃(b:Bool)(D2:Nat->Bool),D=λe=>bif Nat.beq e i then b else D2 e:=⟨D i,D,funext λe=>by
 rcases h:Nat.beq e i with _|_
 ·rfl
 ·rw[dH h];rfl⟩
theorem zA {p:Prop}(h:p:=by
 repeat' (first|refine oz ?_|refine asz (f:=265) Tryz.func265 λX2=>?_|refine asz (f:=268) Tryz.func268 λX2=>?_|refine Fin.here ?_|exact fU.refl rfl|exact atK rfl rfl rfl|refine xk.new ?_|exact tv|exact qV|exact as9 (hr.old _ rfl) qN|exact as9 (hr.new _ 0 rfl) qN|exact as9 (hr.new _ 1 rfl) qN|exact at6 (hr.new _ 0 rfl) qN|exact at6 (hr.done _ _ _ rfl (by decide) rfl) qN|exact as9 (hr.done _ _ _ rfl (by decide) rfl) qN|exact as9 (hr.done _ _ _ rfl (by decide) (hc.at hb rfl)) qN|exact asZ (P:=λk=>k<18) Ye (acy (Qj (by decide) (by decide) (by decide) (by decide) (by decide) (by decide) (by decide)))|exact asZ (P:=λk=>k<18) Ye (Qj (by decide) (by decide) (by decide) (by decide) (by decide) (by decide) (by decide))|exact lkA (by rw[<-aS h];rfl) (by rw[<-aS h];rfl) (asZ (P:=λk=>k<18) Ye (by first|exact rJ (by decide) (by decide)|exact uB (by decide) (by decide) (by decide)))|exact lkN aj aj aj aj aj aj aj aj aj aj|refine asJ ?_|refine ag.mk qN ?_|refine af.blk ?_|exact(λx=>tv:af 18 (.map []) (.map []))|refine ata [] ?_ ?_ ?_|refine ata [_] ?_ ?_ ?_|refine ata [_,_] ?_ ?_ ?_|refine ata [_,_,_] ?_ ?_ ?_|refine ata [_,_,_,_] ?_ ?_ ?_|refine ata [_,_,_,_,_] ?_ ?_ ?_|refine ata [_,_,_,_,_,_] ?_ ?_ ?_|refine ata [_,_,_,_,_,_,_] ?_ ?_ ?_|refine ata [_,_,_,_,_,_,_,_] ?_ ?_ ?_|refine ata [_,_,_,_,_,_,_,_,_] ?_ ?_ ?_|exact au hb (by decide)|exact bJ rfl|(refine λhb=>?_;try dsimp only at hb)|refine ai.mk (λh=>?_) (λh=>?_)|refine an ?_ ?_)):p:=h
theorem zB {p:Prop}(h:p:=by
 obtain⟨b0,D,rfl⟩:=aog D 0;cases b0 <;> cases fz <;> exact zA):p:=h
def aq1(l:List Oper)(vs:List V)(s:AS)(N:Nat)(own:nN)(S:(Nat->Bool)->ST)(M:List Nat)(n i:Nat)(o:Oper)(v:V):Prop:=s.fits o.dst=true/\∀ (D:Nat->Bool)(φ:Nat->Option Nat),FQ M (yV M i n D)->Ren own N i (yV M i n D) φ->gG l o (gq l vs s i o (S (yV M i n D))) λV t=>VW N (dO φ V) v/\fU own N i φ (S (yV M i n D)) (S (wP (yV M i n D) i)) t N
section
variable{c:aI}{G0:Nat->V}{n6 n7 n8:Nat}{g6 g7 g8:Nat->Nat->V}{fz:Bool}
abbrev E5(c:aI)(G0:Nat->V)(n6:Nat)(g6:Nat->Nat->V)(n7:Nat)(g7:Nat->Nat->V)(fz:Bool)(n8:Nat)(g8:Nat->Nat->V)(a b:Nat):Prop:=∀ i o v,(mW Tryz.f251 7).toList[i]?=some o->(xZ c)[i]?=some v->a<=i/\i<b->aq1 (mW Tryz.f251 7).toList (xZ c) ⟨58,x8,⟨xg c (.blk 7 G0) (.row 54 4 n6 g6) (.row 97 2 n7 g7) (bif fz then .dead else .row 71 5 n8 g8),10⟩⟩ 18 wH (λD=>afM c (.blk 7 G0) (.row 54 4 n6 g6) (.row 97 2 n7 g7) (bif fz then .dead else .row 71 5 n8 g8) (D 0) (D 2) (D 4) (D 6) (D 8) (D 10) (D 13) (D 14) (D 17) (D 18) (D 20) (D 21) (D 23) (D 24) (D 27) (D 28)) ae9 38 i o v
theorem zC {p:Prop}(h:p:=by
 intro i o v ho hv hi;rcases i with _|_|_|_|_|_|_|_|_|_|_|_|_|_|_|_|_|_|_|_|_|_|_|_|_|_|_|_|_|_|_|_|_|_|_|_|_|_|i
 all_goals first|exact au hi (by decide)|exact au (show(none:Option Oper)=some o from ho) nofun|(obtain rfl:=fG ho;obtain rfl:=fG hv;refine⟨by(rfl),λD φ hc hr=>?_⟩)
 ·exact zB
 all_goals exact zA):p:=h
theorem aq0:E5 c G0 n6 g6 n7 g7 fz n8 g8 0 7:=zC
theorem aqZ:E5 c G0 n6 g6 n7 g7 fz n8 g8 7 13:=zC
theorem aqY:E5 c G0 n6 g6 n7 g7 fz n8 g8 13 17:=zC
theorem aqX:E5 c G0 n6 g6 n7 g7 fz n8 g8 17 20:=zC
end
end
end Go.Proofs.YtnibdnahojjcgaaGreat
