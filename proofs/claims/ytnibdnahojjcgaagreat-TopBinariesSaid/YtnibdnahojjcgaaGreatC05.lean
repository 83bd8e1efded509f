/- Lemmas. -/
import Derived.Test.YtnibdnahojjcgaaGreatC03
namespace Go.Proofs.YtnibdnahojjcgaaGreat
set_option linter.all false
set_option maxRecDepth 100000
set_option maxHeartbeats 0
open Go.RowKit Tryz
section
abbrev mD(l:List V):Nat->V:=λk=>l.getD k .top
abbrev oN(f:Nat)(a b:Nat):V:=.fn f 0 2 (mD [.ptr a 0,.ptr b 0])
abbrev Hw(f:Nat):V:=.fn f 0 1 (mD [.ptr 0 0])
abbrev f265:V:=oN 265 0 1
abbrev f268:V:=oN 268 9 0
abbrev ry(b:Nat):V:=.fn 266 0 3 (mD [.ptr 0 0,.ptr 1 0,.ptr b 0])
abbrev f269(b:Nat):V:=oN 269 0 b
def yO(k:Int):V:=bif decide (2=k) then oN 270 0 1 else bif decide (3=k) then oN 272 0 1 else bif decide (4=k) then oN 274 0 1 else bif decide (6=k) then oN 276 1 0 else bif decide (12=k) then oN 277 1 0
 else bif decide (5=k) then ry 11 else bif decide (7=k) then ry 12 else bif decide (9=k) then ry 14 else bif decide (10=k) then ry 16 else bif decide (11=k) then ry 17 else .top
def EM(k:Int):Bool:=bif decide (2=k) then true else bif decide (3=k) then true else bif decide (4=k) then true else bif decide (6=k) then true else bif decide (12=k) then true
 else bif decide (5=k) then true else bif decide (7=k) then true else bif decide (9=k) then true else bif decide (10=k) then true else bif decide (11=k) then true else false
abbrev PH(k:Int):V:=.gQ 2 (λj=>match j with|0=>yO k|_=>.b (EM k))
abbrev aii(b2 b4 b6 b8 b10 b14 b18 QA Qz b28:Bool):List (Int×Bool×V):=[(2,b2,oN 270 0 1),(3,b4,oN 272 0 1),(4,b6,oN 274 0 1),(6,b8,oN 276 1 0),(12,b10,oN 277 1 0),(5,b14,ry 11),(7,b18,ry 12),(9,QA,ry 14),(10,Qz,ry 16),(11,b28,ry 17)]
def LD(c:aF)(O0 O6 O7 O8:aK):List (Nat×aK):=[(0,O0),(1,.Wp 8 (λk=>.d (lW c k))),(2,.Wp 7 (λ_=>.top)),(3,.Wp 2 (λ_=>.top)),(6,O6),(7,O7),(8,O8),(9,.Wp 1 (λ_=>f265))]
def axk(b0 b2 b4 b6 b8 b10 b13 b14 b17 b18 b20 QA VZ Qz b27 b28:Bool):List (Nat×aK):=[(10,bif b0 then .map (vC (aii b2 b4 b6 b8 b10 b14 b18 QA Qz b28)) else .dead),(11,bif b13 then .Wp 1 (λ_=>Hw 279) else .dead),(12,bif b17 then .Wp 1 (λ_=>Hw 281) else .dead),
 (13,bif b20 then .Wp 1 (λ_=>.b true) else .dead),(14,bif b20 then .Wp 1 (λ_=>f269 13) else .dead),(15,bif VZ then .Wp 1 (λ_=>.b false) else .dead),(16,bif VZ then .Wp 1 (λ_=>f269 15) else .dead),(17,bif b27 then .Wp 1 (λ_=>oN 282 1 0) else .dead)]
def abg(c:aF)(O0 O6 O7 O8:aK)(b0 b2 b4 b6 b8 b10 b13 b14 b17 b18 b20 QA VZ Qz b27 b28:Bool):ST:=⟨LD c O0 O6 O7 O8++axk b0 b2 b4 b6 b8 b10 b13 b14 b17 b18 b20 QA VZ Qz b27 b28,18⟩
def La(c:aF):List V:=[.mp 10,oN 270 0 1,.top,oN 272 0 1,.top,oN 274 0 1,.top,oN 276 1 0,.top,oN 277 1 0,.top,f265,Hw 279,ry 11,.top,f265,Hw 281,ry 12,.top,f268,ry 14,.top,f268,ry 16,.top,f265,oN 282 1 0,ry 17,.top,.mp 10,.ptr 1 0,iV c.kind,PH c.kind,PH c.kind,yO c.kind,.b (EM c.kind),yO c.kind,.b (EM c.kind)]
abbrev KF:oD:=[none,none,none,none,none,none,none,none,none,none,some (0,0),some (13,0),some (17,0),some (20,0),some (20,1),some (23,0),some (23,1),some (27,0)]
abbrev Lc:List (Nat×V):=[(8,f268),(7,.ptr 9 0),(2,.ptr 0 0),(3,.ptr 1 0),(4,.ptr 2 0),(5,.ptr 3 0)]
def Ha(o:aK):Prop:=ni (λk=>k<10) o
def KC{P:Nat->Prop}{N:Nat}(hP:∀ k,P k->k<N):∀ {v:V},je P v->xQ N v:=by
 intro v;induction v with
 |ptr i o=>exact hP i
 |rp i n j c=>exact hP i
 |row i n=>exact hP i
 |vw i n lo m=>exact hP i
 |mp i=>exact hP i
 |agg n g ih=>exact λh k hk=>ih k (h k hk)
 |gQ n g ih=>exact λh k hk=>ih k (h k hk)
 |fn f nf n g ih=>exact λh k hk=>ih k (h k hk)
 |kQ t w v ih=>exact ih
 |_=>exact λ_=>trivial
def Xv{P Q:Nat->Prop}(Fa:∀ k,P k->Q k):∀ {v:V},je P v->je Q v:=by
 intro v;induction v with
 |ptr i o=>exact Fa i
 |rp i n j c=>exact Fa i
 |row i n=>exact Fa i
 |vw i n lo m=>exact Fa i
 |mp i=>exact Fa i
 |agg n g ih=>exact λh k hk=>ih k (h k hk)
 |gQ n g ih=>exact λh k hk=>ih k (h k hk)
 |fn f nf n g ih=>exact λh k hk=>ih k (h k hk)
 |kQ t w v ih=>exact ih
 |_=>exact λ_=>trivial
def RI{P Q:Nat->Prop}(Fa:∀ k,P k->Q k){o:aK}(h:ni P o):ni Q o:=by
 cases o with
 |dead=>exact tv
 |Wp n g=>exact λk hk=>Xv Fa (h k hk)
 |row E s n g=>exact λj hj k hk=>Xv Fa (h j hj k hk)
 |map es=>exact λk v he=>Xv Fa (h k v he)
def RQ{o:aK}(h:Ha o):aW 18 o o:=by
 have hP:∀ k,k<10->k<18:=λk hk=>by omega
 cases o with
 |dead=>exact tv
 |Wp n g=>exact⟨rfl,λk hk=>VW.refl (KC hP (h k hk))⟩
 |row E s n g=>exact⟨rfl,rfl,rfl,λj hj k hk=>VW.refl (KC hP (h j hj k hk))⟩
 |map es=>
  intro k;rcases he:dY es k with _|v
  ·trivial
  ·exact VW.refl (KC hP (h k v he))
def auR:∀ k,k<10->KF[k]?=some none:=by
 intro k hk;obtain _|_|_|_|_|_|_|_|_|_|k:=k
 all_goals first|rfl|omega
def vO{P:Nat->Prop}{f a b:Nat}(ha:P a)(hb:P b):je P (oN f a b):=λk hk=>by
 obtain _|_|k:=k
 ·exact ha
 ·exact hb
 ·omega
def xx{P:Nat->Prop}{b:Nat}(h0:P 0)(h1:P 1)(hb:P b):je P (ry b):=λk hk=>by
 obtain _|_|_|k:=k
 ·exact h0
 ·exact h1
 ·exact hb
 ·omega
def S9{P:Nat->Prop}{k:Int}(h0:P 0)(h1:P 1)(a:P 11)(b:P 12)(c:P 14)(d:P 16)(e:P 17):je P (yO k):=by
 unfold yO;cases decide (2=k);cases decide (3=k);cases decide (4=k);cases decide (6=k);cases decide (12=k);cases decide (5=k);cases decide (7=k);cases decide (9=k);cases decide (10=k);cases decide (11=k);all_goals first|exact tv|exact vO h0 h1|exact vO h1 h0|exact xx h0 h1 a|exact xx h0 h1 b|exact xx h0 h1 c|exact xx h0 h1 d|exact xx h0 h1 e
def aeO{P:Nat->Prop}{k:Int}(h:je P (yO k)):je P (PH k):=λj hj=>by
 obtain _|j:=j
 ·exact h
 ·exact tv
def lkA{N:Nat}{φ:Nat->Option Nat}{k:Int}{F:V}(hF:yO k=F)(hB:EM k=true)(hv:VW N (dI φ F) F):VW N (dI φ (okV true F true)) (PH k):=VW.gQ λj hj=>by
 obtain _|j:=j
 ·show VW N (dI φ F) (yO k);rw[hF];exact hv
 ·show VW N (V.b true) (V.b (EM k));rw[hB];exact VW.refl tv
def lkN{N:Nat}{φ:Nat->Option Nat}{k:Int}{F:V}(h1:decide (2=k)=false)(h2:decide (3=k)=false)(h3:decide (4=k)=false)(h4:decide (6=k)=false)(h5:decide (12=k)=false)(h6:decide (5=k)=false)(h7:decide (7=k)=false)(h8:decide (9=k)=false)(h9:decide (10=k)=false)(h10:decide (11=k)=false):VW N (dI φ (okV true F false)) (PH k):=VW.gQ λj hj=>by
 obtain _|j:=j
 ·show VW N (dI φ F) (yO k);unfold yO;rw[h1,h2,h3,h4,h5,h6,h7,h8,h9,h10];exact VW.top
 ·show VW N (V.b false) (V.b (EM k));unfold EM;rw[h1,h2,h3,h4,h5,h6,h7,h8,h9,h10];exact VW.refl tv
def He.at{M:List Nat}{D:Nat->Bool}{e c:Nat}(h:He M D)(hb:D e=true)(ht:(M.getD e 0).testBit c=true):D c=true:=h e c ht hb
def ahF:List Nat:=0::0::3::0::9::0::33::0::129::0::513::0::0::6144::14337::0::0::112640::243713::0::768000::1816577::0::6010880::14399489::0::0::115062784::249280513::536870911::0::1073741824::4294967295::8589934591::17179869183::17179869183::34359738367::137438953471::[]
def aay {p:Prop}(h:p:=by
 intro k hk;refine⟨hk,?_⟩;obtain _|_|_|_|_|_|_|_|_|_|_|_|_|_|_|_|_|_|k:=k
 all_goals first|exact hr.old _ rfl|exact hr.done _ _ _ rfl (by decide) rfl|omega):p:=h
def zA {p:Prop}(h:p:=by
 repeat'(first|refine aC ?_|refine ay (f:=265) func265 λX2=>?_|refine ay (f:=268) func268 λX2=>?_|refine Fin.here ?_|exact Bi.refl rfl|exact x9.same rfl rfl rfl|refine x9.new ?_|exact tv|exact qV|exact BR (hr.old _ rfl) qN|exact BR (hr.new _ 0 rfl) qN|exact BR (hr.new _ 1 rfl) qN|exact ZW (hr.new _ 0 rfl) qN|exact ZW (hr.done _ _ _ rfl (by decide) rfl) qN|exact BR (hr.done _ _ _ rfl (by decide) rfl) qN|exact BR (hr.done _ _ _ rfl (by decide) (hc.at hb rfl)) qN|exact xu (P:=λk=>k<18) aay (aeO (S9 (by decide) (by decide) (by decide) (by decide) (by decide) (by decide) (by decide)))|exact xu (P:=λk=>k<18) aay (S9 (by decide) (by decide) (by decide) (by decide) (by decide) (by decide) (by decide))|exact lkA (by rw[<-bT h];rfl) (by rw[<-bT h];rfl) (xu (P:=λk=>k<18) aay (by first|exact vO (by decide) (by decide)|exact xx (by decide) (by decide) (by decide)))|exact lkN aG aG aG aG aG aG aG aG aG aG|refine gX ?_|refine ag.mk qN ?_|refine aW.Wp ?_|exact(λx=>tv:aW 18 (.map []) (.map []))|refine BV [] ?_ ?_ ?_|refine BV [_] ?_ ?_ ?_|refine BV [_,_] ?_ ?_ ?_|refine BV [_,_,_] ?_ ?_ ?_|refine BV [_,_,_,_] ?_ ?_ ?_|refine BV [_,_,_,_,_] ?_ ?_ ?_|refine BV [_,_,_,_,_,_] ?_ ?_ ?_|refine BV [_,_,_,_,_,_,_] ?_ ?_ ?_|refine BV [_,_,_,_,_,_,_,_] ?_ ?_ ?_|refine BV [_,_,_,_,_,_,_,_,_] ?_ ?_ ?_|exact ai hb (by decide)|exact bV rfl|(refine λhb=>?_;try dsimp only at hb)|refine aj.mk (λh=>?_) (λh=>?_)|refine an ?_ ?_)):p:=h
def zB {p:Prop}(h:p:=by
 obtain⟨b0,D,rfl⟩:=Ud D 0;cases b0 <;> cases fz <;> exact zA):p:=h
def av2(l:List Oper)(vs:List V)(s:AS)(N:Nat)(own:oD)(S:(Nat->Bool)->ST)(M:List Nat)(n i:Nat)(o:Oper)(v:V):Prop:=s.fits o.dst=true/\∀ (D:Nat->Bool)(φ:Nat->Option Nat),He M (zJ M i n D)->Ren own N i (zJ M i n D) φ->Gf l o (Ei l vs s i o (S (zJ M i n D))) λV t=>VW N (dI φ V) v/\Bi own N i φ (S (zJ M i n D)) (S (xN (zJ M i n D) i)) t N
section
variable{c:aF}{G0:Nat->V}{n6 n7 n8:Nat}{g6 g7 g8:Nat->Nat->V}{fz:Bool}
abbrev Gu(c:aF)(G0:Nat->V)(n6:Nat)(g6:Nat->Nat->V)(n7:Nat)(g7:Nat->Nat->V)(fz:Bool)(n8:Nat)(g8:Nat->Nat->V)(a b:Nat):Prop:=∀ i o v,(nP f251 7).toList[i]?=some o->(La c)[i]?=some v->a<=i/\i<b->av2 (nP f251 7).toList (La c) ⟨58,Lc,⟨LD c (.Wp 7 G0) (.row 54 4 n6 g6) (.row 97 2 n7 g7) (bif fz then .dead else .row 71 5 n8 g8),10⟩⟩ 18 KF (λD=>abg c (.Wp 7 G0) (.row 54 4 n6 g6) (.row 97 2 n7 g7) (bif fz then .dead else .row 71 5 n8 g8) (D 0) (D 2) (D 4) (D 6) (D 8) (D 10) (D 13) (D 14) (D 17) (D 18) (D 20) (D 21) (D 23) (D 24) (D 27) (D 28)) ahF 38 i o v
def zC {p:Prop}(h:p:=by
 intro i o v ho hv hi;obtain _|_|_|_|_|_|_|_|_|_|_|_|_|_|_|_|_|_|_|_|_|_|_|_|_|_|_|_|_|_|_|_|_|_|_|_|_|_|i:=i
 all_goals first|exact ai hi (by decide)|exact ai (show(none:Option Oper)=some o from ho) nofun|(obtain rfl:=fD ho;obtain rfl:=fD hv;refine⟨by(rfl),λD φ hc hr=>?_⟩)
 ·exact zB
 all_goals exact zA):p:=h
def avZ:Gu c G0 n6 g6 n7 g7 fz n8 g8 0 7:=zC
def avY:Gu c G0 n6 g6 n7 g7 fz n8 g8 7 13:=zC
def avX:Gu c G0 n6 g6 n7 g7 fz n8 g8 13 17:=zC
def avW:Gu c G0 n6 g6 n7 g7 fz n8 g8 17 20:=zC
end
end
section
section
variable{c:aF}{G0:Nat->V}{n6 n7 n8:Nat}{g6 g7 g8:Nat->Nat->V}{fz:Bool}
def avV:Gu c G0 n6 g6 n7 g7 fz n8 g8 20 23:=zC
def avU:Gu c G0 n6 g6 n7 g7 fz n8 g8 23 27:=zC
def avT:Gu c G0 n6 g6 n7 g7 fz n8 g8 27 32:=zC
def avS:Gu c G0 n6 g6 n7 g7 fz n8 g8 32 38:=zC
end
def aeN(c:aF){G0:Nat->V}{n6 n7 n8:Nat}{g6 g7 g8:Nat->Nat->V}(fz:Bool)(h0:Ha (.Wp 7 G0))(h6:Ha (.row 54 4 n6 g6))(h7:Ha (.row 97 2 n7 g7))(h8:Ha (bif fz then .dead else .row 71 5 n8 g8)){X:Cx e0}:PI X ⟨58,Lc,⟨LD c (.Wp 7 G0) (.row 54 4 n6 g6) (.row 97 2 n7 g7) (bif fz then .dead else .row 71 5 n8 g8),10⟩⟩ (nP f251 7).toList (La c) 18 KF (λD=>abg c (.Wp 7 G0) (.row 54 4 n6 g6) (.row 97 2 n7 g7) (bif fz then .dead else .row 71 5 n8 g8) (D 0) (D 2) (D 4) (D 6) (D 8) (D 10) (D 13) (D 14) (D 17) (D 18) (D 20) (D 21) (D 23) (D 24) (D 27) (D 28)):=by
 refine { len:=rfl,vT:=rfl,dst:=rfl,back:=rfl,II:=rfl,nx:=λD=>rfl,keys:=λD=>rfl,small:=λD=>rfl,low:=?_,base:=?_,KN:=?_,axI:=?_,ids:=?_,Ko:=?_,step:=?_ }
 ·intro k hk;exact ai hk (qh k)
 ·refine⟨nb rfl,λk hk=>?_⟩;obtain _|_|_|_|_|_|_|_|_|_|_|_|_|_|_|_|_|_ |  k:=k
  ·exact .inr (RQ h0)
  ·exact .inr ⟨rfl,λk hk=>VW.refl tv⟩
  ·exact .inr ⟨rfl,λk hk=>VW.refl tv⟩
  ·exact .inr ⟨rfl,λk hk=>VW.refl tv⟩
  ·exact .inl rfl
  ·exact .inl rfl
  ·exact .inr (RQ h6)
  ·exact .inr (RQ h7)
  ·exact .inr (RQ h8)
  ·exact .inr ⟨rfl,λk hk=>VW.refl (KC (P:=λk=>k<10) (λk hk=>by omega) (vO qD qD))⟩
  all_goals(exact .inl rfl)
 ·exact⟨vO rfl rfl,rfl,rfl,rfl,rfl,rfl,tv⟩
 ·intro e v hv;obtain _|_|_|_|_|_|_|_|_|_|_|_|_|_|_|_|_|_|_|_|_|_|_|_|_|_|_|_|_|_|_|_|_|_|_|_|_|_ |  e:=e
  all_goals first|(obtain rfl:=fD hv;first|exact tv|exact .inl rfl|exact .inr ⟨_,_,rfl,.inl rfl⟩|exact .inr ⟨_,_,rfl,.inr rfl⟩|exact vO (.inl rfl) (.inl rfl)|exact(λk hk=>by obtain rfl:=Nat.lt_one_iff.1 hk;exact .inl rfl)|exact xx (.inl rfl) (.inl rfl) (.inr ⟨_,_,rfl,.inl rfl⟩)|exact S9 (.inl rfl) (.inl rfl) (.inr ⟨_,_,rfl,.inr rfl⟩) (.inr ⟨_,_,rfl,.inr rfl⟩) (.inr ⟨_,_,rfl,.inr rfl⟩) (.inr ⟨_,_,rfl,.inr rfl⟩) (.inr ⟨_,_,rfl,.inr rfl⟩)|exact aeO (S9 (.inl rfl) (.inl rfl) (.inr ⟨_,_,rfl,.inr rfl⟩) (.inr ⟨_,_,rfl,.inr rfl⟩) (.inr ⟨_,_,rfl,.inr rfl⟩) (.inr ⟨_,_,rfl,.inr rfl⟩) (.inr ⟨_,_,rfl,.inr rfl⟩)))|exact ai (show(none:Option V)=some v from hv) nofun
 ·intro D hc k hk;have ho:∀ k,k<10->UN KF D k:=λk hk=>.inl (auR k hk)
  obtain _|_|_|_|_|_|_|_|_|_|_|_|_|_|_|_|_|_ |  k:=k
  ·exact RI ho h0
  ·exact λj hj=>True.intro
  ·exact λj hj=>True.intro
  ·exact λj hj=>True.intro
  ·exact tv
  ·exact tv
  ·exact RI ho h6
  ·exact RI ho h7
  ·exact RI ho h8
  ·exact λj hj=>vO (.inl rfl) (.inl rfl)
  ·show ni _ (bif D 0 then .map (vC (aii (D 2) (D 4) (D 6) (D 8) (D 10) (D 14) (D 18) (D 21) (D 24) (D 28))) else .dead);cases D 0
   ·exact tv
   ·refine Yb (afI λp hp hb=>?_);simp only[List.mem_cons,List.not_mem_nil,or_false]at hp;obtain rfl|rfl|rfl|rfl|rfl|rfl|rfl|rfl|rfl|rfl:=hp
    ·exact vO (.inl rfl) (.inl rfl)
    ·exact vO (.inl rfl) (.inl rfl)
    ·exact vO (.inl rfl) (.inl rfl)
    ·exact vO (.inl rfl) (.inl rfl)
    ·exact vO (.inl rfl) (.inl rfl)
    ·exact xx (.inl rfl) (.inl rfl) (.inr ⟨13,0,rfl,hc 14 13 rfl hb⟩)
    ·exact xx (.inl rfl) (.inl rfl) (.inr ⟨17,0,rfl,hc 18 17 rfl hb⟩)
    ·exact xx (.inl rfl) (.inl rfl) (.inr ⟨20,1,rfl,hc 21 20 rfl hb⟩)
    ·exact xx (.inl rfl) (.inl rfl) (.inr ⟨23,1,rfl,hc 24 23 rfl hb⟩)
    ·exact xx (.inl rfl) (.inl rfl) (.inr ⟨27,0,rfl,hc 28 27 rfl hb⟩)
  ·show ni _ (bif D 13 then .Wp 1 (λ_=>Hw 279) else .dead);rcases hD:D 13 with _|_
   ·exact tv
   ·exact λj hj k hk=>by obtain rfl:=Nat.lt_one_iff.1 hk;exact .inl rfl
  ·show ni _ (bif D 17 then .Wp 1 (λ_=>Hw 281) else .dead);rcases hD:D 17 with _|_
   ·exact tv
   ·exact λj hj k hk=>by obtain rfl:=Nat.lt_one_iff.1 hk;exact .inl rfl
  ·show ni _ (bif D 20 then .Wp 1 (λ_=>.b true) else .dead);rcases hD:D 20 with _|_
   ·exact tv
   ·exact λj hj=>True.intro
  ·show ni _ (bif D 20 then .Wp 1 (λ_=>f269 13) else .dead);rcases hD:D 20 with _|_
   ·exact tv
   ·exact λj hj=>vO (.inl rfl) (.inr ⟨20,0,rfl,hD⟩)
  ·show ni _ (bif D 23 then .Wp 1 (λ_=>.b false) else .dead);rcases hD:D 23 with _|_
   ·exact tv
   ·exact λj hj=>True.intro
  ·show ni _ (bif D 23 then .Wp 1 (λ_=>f269 15) else .dead);rcases hD:D 23 with _|_
   ·exact tv
   ·exact λj hj=>vO (.inl rfl) (.inr ⟨23,0,rfl,hD⟩)
  ·show ni _ (bif D 27 then .Wp 1 (λ_=>oN 282 1 0) else .dead);rcases hD:D 27 with _|_
   ·exact tv
   ·exact λj hj=>vO (.inl rfl) (.inl rfl)
  ·omega
 ·intro D k e q hD hk;obtain _|_|_|_|_|_|_|_|_|_|_|_|_|_|_|_|_|_ |  k:=k
  all_goals first|(obtain⟨rfl,_⟩:=Prod.mk.inj (fD (fD hk));first|(show(bif D 0 then _ else .dead)=aK.dead;rw[hD];rfl)|(show(bif D 13 then _ else .dead)=aK.dead;rw[hD];rfl)|(show(bif D 17 then _ else .dead)=aK.dead;rw[hD];rfl)|(show(bif D 20 then _ else .dead)=aK.dead;rw[hD];rfl)|(show(bif D 23 then _ else .dead)=aK.dead;rw[hD];rfl)|(show(bif D 27 then _ else .dead)=aK.dead;rw[hD];rfl))|exact ai (show some none=some (some (e,q)) from hk) nofun|exact ai (show(none:Option (Option (Nat×Nat)))=some (some (e,q)) from hk) nofun
 ·refine UL ahF 38 rfl rfl (λi o v ho hv=>?_);have hi:i<38:=(List.getElem?_eq_some_iff.1 ho).1;by_cases h10:i<7
  ·exact avZ i o v ho hv ⟨by omega,h10⟩
  by_cases h11:i<13
  ·exact avY i o v ho hv ⟨by omega,h11⟩
  by_cases h12:i<17
  ·exact avX i o v ho hv ⟨by omega,h12⟩
  by_cases h13:i<20
  ·exact avW i o v ho hv ⟨by omega,h13⟩
  by_cases wE:i<23
  ·exact avV i o v ho hv ⟨by omega,wE⟩
  by_cases h15:i<27
  ·exact avU i o v ho hv ⟨by omega,h15⟩
  by_cases h16:i<32
  ·exact avT i o v ho hv ⟨by omega,h16⟩
  exact avS i o v ho hv ⟨by omega,hi⟩
end
def GX(p n:Nat)(g:Nat->Nat->D)(j k:Nat):D:=bif Nat.blt j p then g j k else bif Nat.blt j (n-1) then g (j+1) k else .v (.int .i64 0)
def atw{n p E:Nat}{g:Nat->Nat->D}{j k:Nat}(hp:p<n)(hj:j<n)(hz:iM E k = .d (.v (.int .i64 0))):qE (0+(p+(n-(p+1)))) (n-(p+(n-(p+1)))) (qE p (n-(p+1)) (λj k=>V.d (g j k)) (λj k=>V.d (g (p+1+j) k))) (λ_ k=>iM E k) j k = .d (GX p n g j k):=by
 have e:∀ a b:Nat,Nat.blt a b=decide (a<b):=λa b=>by
  rw[Bool.eq_iff_iff,Nat.blt_eq,gq]
 rw[wL,wL];unfold GX;rw[e,e];by_cases h1:j<p
 ·rw[if_pos qO,if_pos h1,aX h1];rfl
 ·by_cases h2:j<n-1
  ·rw[if_pos qO,if_neg h1,if_pos qO,aT h1,aX h2,show p+1+(j-p)=j+1 from qO];rfl
  ·rw[if_neg qO,if_pos qO,aT h1,aT h2];exact hz
def alf{α:Type}(c:α->Nat->D)(d:α)(l:List α){p:Nat}(hp:p<l.length){j k:Nat}(hj:j<l.length-1):GX p l.length (λj k=>c (l.getD j d) k) j k=c ((l.eraseIdx p).getD j d) k:=by
 have e:∀ a b:Nat,Nat.blt a b=decide (a<b):=λa b=>by
  rw[Bool.eq_iff_iff,Nat.blt_eq,gq]
 unfold GX;rw[e,e,aX hj,bn (l:=l.eraseIdx p),List.getElem?_eraseIdx];by_cases h1:j<p
 ·rw[if_pos h1,aX h1];exact ah (c · k) (bn ..)
 ·rw[if_neg h1,aT h1];exact ah (c · k) (bn ..)
def agR{n p:Nat}{g:Nat->Nat->D}(hp:p<n)(hn:n<=100000):af 304 [.row 0 n,iV p,iV ((p:Int)+1)] ⟨[(0,.row 97 2 n (λj k=>.d (g j k)))],1⟩ (λrv rt=>rv=(.vw 0 n 0 (n-1))/\rt=⟨[(0,.row 97 2 n (λj k=>.d (GX p n g j k)))],1⟩):=by
 have hx:Nat.max n (p+(n-(p+1)))=n:=Nat.max_eq_left qO;refine ay func304 λX=>?_
 (repeat'(first|refine aC ?_|refine bU 5 [6] (ooz 6 [o1,o3]) ?_|refine mc ?_ ?_|refine aj.n (λh=>?_)|refine bM qN qN (vq (En ?_ ?_) qN) ⟨⟨nb rfl,aW.row ?_ (λj hj k hk=>dR ?_)⟩,tv⟩|refine ag.mk ?_ ?_))<;>(try(refine dm.mk ?_;repeat'(first|exact tv|exact rfl|refine an ?_ ?_|refine ag.mk ?_ ?_)))
 all_goals try exact cls
 all_goals first|exact hx|(show Nat.max n (p+(n-(p+1)))=Nat.max n (p+(n-(p+1)))/\0<=((p+(n-(p+1)):Nat):Int)/\((p+(n-(p+1)):Nat):Int)<=(n:Int)/\((0:Nat):Int)+(n:Int)<=((Nat.max n (p+(n-(p+1))):Nat):Int);rw[hx];omega)|(show Nat.max n (p+(n-(p+1)))=Nat.max n (p+(n-(p+1)))/\0+(p+(n-(p+1)))+(n-(p+(n-(p+1))))<=Nat.max n (p+(n-(p+1)));rw[hx];omega)|(have hj:j<Nat.max n (p+(n-(p+1))):=hj;rw[hx]at hj;refine cm (vq (atw hp hj ?_) tv);obtain _|_|k:=k;rfl;rfl;omega)
