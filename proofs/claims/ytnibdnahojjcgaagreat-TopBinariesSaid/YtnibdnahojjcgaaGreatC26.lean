/- Lemmas. -/
import Derived.Test.YtnibdnahojjcgaaGreatC21
namespace Go.Proofs.YtnibdnahojjcgaaGreat
set_option linter.all false
set_option maxRecDepth 100000
set_option maxHeartbeats 0
open Go.RowKit
def ahW(n:aA)(m a b c d:Nat):Nat->V
 |0=>iV n.me|1=>iV n.many|2=>.ptr 1 0|3=>iV n.bin|4=>iV n.ae.floor|5=>iV n.ae.term|6=>iV n.ae.cu|7=>.d (gY n.ae.log)
 |8=>iV n.role|9=>iV n.dN|10=>iV n.dn
 |11=>.d (dW n.st 0)|12=>.d (dW n.st 1)|13=>.d (dW n.st 2)|14=>.d (dW n.st 3)|15=>.d (dW n.st 4)|16=>.d (dW n.st 5)|17=>.d (dW n.st 6)
 |18=>.row 3 n.fV.length|19=>.row a m|20=>.row b m|21=>.row c m|_=>.row d m
def aaG(n:aA)(b5 b10 b15 b20 b25:Bool):ST:=⟨[(0,.Wp 23 (bif b25 then ahW n n.many.toNat 8 9 10 11 else zK n)),(1,.Wp 5 (tN n.aB)),(2,kL (n.aB.b++n.aB.dA)),(3,bQ 52 2 ji .z n.fV),(4,tH n.ig),(5,gJ n.eF),(6,gJ n.next),(7,gJ n.gz),(8,bif b5 then .row 4 1 n.many.toNat (λ_ k=>iM 4 k) else .dead),(9,bif b10 then .row 3 1 n.many.toNat (λ_ k=>iM 3 k) else .dead),(10,bif b15 then .row 3 1 n.many.toNat (λ_ k=>iM 3 k) else .dead),(11,bif b20 then .row 3 1 n.many.toNat (λ_ k=>iM 3 k) else .dead)],12⟩
def aab(n:aA):List V:=[.ptr 0 0,.ptr 0 0,.ptr 0 0,.ptr 0 1,iV n.many,.row 8 n.many.toNat,.ptr 0 0,.ptr 0 0,.ptr 0 1,iV n.many,.row 9 n.many.toNat,.ptr 0 0,.ptr 0 0,.ptr 0 1,iV n.many,.row 10 n.many.toNat,.ptr 0 0,.ptr 0 0,.ptr 0 1,iV n.many,.row 11 n.many.toNat,.agg 4 (λk=>match k with|0=>.row 8 n.many.toNat|1=>.row 9 n.many.toNat|2=>.row 10 n.many.toNat|_=>.row 11 n.many.toNat),.ptr 0 0,.ptr 0 3,.ptr 0 19,.top]
def Zd{N i k n:Nat}{φ:Nat->Option Nat}(h:φ i=some k)(hk:k<N):VW N (dI φ (.row i n)) (.row k n):=by
 refine vq ?_ hk;simp only[dI,h]
def idr{P:Nat->Prop}{b:Bool}{E n:Nat}(h:je P (iM E 0)):ni P (bif b then .row E 1 n (λ_ k=>iM E k) else .dead):=by
 cases b
 ·exact tv
 ·intro j hj k hk;obtain rfl:=Nat.lt_one_iff.1 hk;exact h
def aoC {p:Prop} (h:p:=by
 (repeat'(first|exact x9.same rfl rfl rfl|refine x9.new ?_|exact tv|exact qV|exact BR (hr.old _ rfl) qN|exact Zd (hr.old _ rfl) qN|exact Zd (hr.new _ 0 rfl) qN|exact Zd (hr.done _ _ _ rfl (by decide) rfl) qN|refine gu ?_|refine ag.mk qN ?_|refine ag.mk ?_ ?_|refine aW.Wp ?_|refine an ?_ ?_))<;>first|exact rfl|exact hm.1|(have:=hm.2;omega)|(intro j hj k hk;obtain _|k:=k <;> (exact qV))):p:=h
def aoT(n0 n:aA)(hm:0<=n.many/\n.many<=1000){X:Cx (NS n0)}{id:Nat}{Q:Exit->AS->Prop}(hq:Q .normal ⟨132,rf (nP Tryz.f24 12).toList (aab n)++[(0,.ptr 0 0)],aaG n true true true true true⟩):T X (.region id (nP Tryz.f24 12) true) Q ⟨132,[(0,.ptr 0 0)],NS n⟩:=by
 refine Oq (aab n) 12 [none,none,none,none,none,none,none,none,some (5,0),some (10,0),some (15,0),some (20,0)] (λD=>aaG n (D 5) (D 10) (D 15) (D 20) (D 25)) qK ?_ ?_;refine { len:=rfl,vT:=rfl,dst:=rfl,back:=rfl,II:=rfl,nx:=λD=>rfl,keys:=λD=>rfl,small:=λD=>rfl,low:=?_,base:=?_,KN:=?_,axI:=?_,ids:=?_,Ko:=?_,step:=?_ }
 ·intro k hk;obtain _|_|_|_|_|_|_|_|k:=k
  all_goals first|rfl|exact ai hk (by show ¬(k+8<8);omega)
 ·refine⟨nb rfl,λk hk=>?_⟩;obtain _|_|_|_|_|_|_|_|_|_|_|_|k:=k
  all_goals first|exact .inr (fB rfl λk hk=>VW.refl (NZ qN n k hk))|exact .inr (fB rfl λk hk=>VW.refl (TN qN n.aB k hk))|exact .inr (aW.row rfl λj hj k hk=>vq rfl tv)|exact .inl rfl|omega
 ·exact⟨rfl,tv⟩
 ·intro i v hv;obtain _|_|_|_|_|_|_|_|_|_|_|_|_|_|_|_|_|_|_|_|_|_|_|_|_|_|i:=i
  all_goals first|(obtain rfl:=fD hv;first|exact tv|exact .inl rfl|exact .inr ⟨_,_,rfl,.inl rfl⟩|(intro k hk;obtain _|_|_|_|k:=k <;> (exact .inr ⟨_,_,rfl,.inr (by decide)⟩)))|exact ai (show(none:Option V)=some v from hv) nofun
 ·intro D hc k hk;obtain _|_|_|_|_|_|_|_|_|_|_|_|k:=k
  ·show ni _ (.Wp 23 (bif D 25 then ahW n n.many.toNat 8 9 10 11 else zK n));have hc5:D 25=true->D 5=true/\D 10=true/\D 15=true/\D 20=true:=λh=>by refine⟨?_,?_,?_,?_⟩ <;> exact hc 25 _ qD h
   rcases hb:D 25 with _|_
   ·intro j hj;obtain _|_|_|_|_|_|_|_|_|_|_|_|_|_|_|_|_|_|_|_|_|_|_|j:=j
    all_goals first|exact tv|exact .inl rfl
   ·obtain⟨c1,c2,c3,c4⟩:=hc5 hb;intro j hj;obtain _|_|_|_|_|_|_|_|_|_|_|_|_|_|_|_|_|_|_|_|_|_|_|j:=j
    all_goals first|exact tv|exact .inl rfl|exact .inr ⟨_,_,rfl,c1⟩|exact .inr ⟨_,_,rfl,c2⟩|exact .inr ⟨_,_,rfl,c3⟩|exact .inr ⟨_,_,rfl,c4⟩
  ·intro j hj;obtain _|_|_|_|_|j:=j
   all_goals first|exact tv|exact .inl rfl
  all_goals first|exact λj hj k hk=>tv|exact idr tv|omega
 ·intro D k q r hD hk;obtain _|_|_|_|_|_|_|_|_|_|_|_|k:=k
  all_goals first|(obtain⟨rfl,_⟩:=Prod.mk.inj (fD (fD hk));first|(show(bif D 5 then _ else .dead)=aK.dead;rw[hD];rfl)|(show(bif D 10 then _ else .dead)=aK.dead;rw[hD];rfl)|(show(bif D 15 then _ else .dead)=aK.dead;rw[hD];rfl)|(show(bif D 20 then _ else .dead)=aK.dead;rw[hD];rfl))|cases hk
 ·refine UL (0::0::2::6::14::30::0::64::192::448::960::0::2048::6144::14336::30720::0::65536::196608::458752::983040::2097150::4194303::8388607::16777215::33554431::[]) 26 rfl rfl λi o v ho hv=>?_
  obtain _|_|_|_|_|_|_|_|_|_|_|_|_|_|_|_|_|_|_|_|_|_|_|_|_|_|i:=i
  all_goals first|exact ai (show(none:Option Oper)=some o from ho) nofun|(obtain rfl:=fD ho;obtain rfl:=fD hv;refine⟨by(rfl),λD φ hc hr=>?_⟩;exact aoC)
 ·exact hq
