/- A part of the proof. -/
import Derived.Test.YtnibdnahojjcgaaGreatB23
namespace Go.Proofs.YtnibdnahojjcgaaGreat
set_option maxRecDepth 100000
set_option maxHeartbeats 16000000
set_option linter.unusedVariables false
set_option linter.unusedSimpArgs false
open Go.RowKit
section
section
variable{c:aI}{G0:Nat->V}{n6 n7 n8:Nat}{g6 g7 g8:Nat->Nat->V}{fz:Bool}
theorem aqW:E5 c G0 n6 g6 n7 g7 fz n8 g8 20 23:=zC
theorem aqV:E5 c G0 n6 g6 n7 g7 fz n8 g8 23 27:=zC
theorem aqU:E5 c G0 n6 g6 n7 g7 fz n8 g8 27 32:=zC
theorem aqT:E5 c G0 n6 g6 n7 g7 fz n8 g8 32 38:=zC
end
theorem Bc(c:aI){G0:Nat->V}{n6 n7 n8:Nat}{g6 g7 g8:Nat->Nat->V}(fz:Bool)(h0:FO (.blk 7 G0))(h6:FO (.row 54 4 n6 g6))(h7:FO (.row 97 2 n7 g7))(h8:FO (bif fz then .dead else .row 71 5 n8 g8)){X:Cx e0}:Ny X ⟨58,x8,⟨xg c (.blk 7 G0) (.row 54 4 n6 g6) (.row 97 2 n7 g7) (bif fz then .dead else .row 71 5 n8 g8),10⟩⟩ (mW Tryz.f251 7).toList (xZ c) 18 wH (λD=>afM c (.blk 7 G0) (.row 54 4 n6 g6) (.row 97 2 n7 g7) (bif fz then .dead else .row 71 5 n8 g8) (D 0) (D 2) (D 4) (D 6) (D 8) (D 10) (D 13) (D 14) (D 17) (D 18) (D 20) (D 21) (D 23) (D 24) (D 27) (D 28)):=by
 refine { len:=rfl,vz:=rfl,dst:=rfl,back:=rfl,GV:=rfl,nx:=λD=>rfl,keys:=λD=>rfl,small:=λD=>rfl,low:=?_,base:=?_,Jt:=?_,NC:=?_,ids:=?_,Jd:=?_,step:=?_ }
 ·intro k hk;exact au hk (qZ k)
 ·refine⟨nb rfl,λk hk=>?_⟩;rcases k with _|_|_|_|_|_|_|_|_|_|_|_|_|_|_|_|_|_ |  k
  ·exact .inr (atJ h0)
  ·exact .inr ⟨rfl,λk hk=>VW.refl tv⟩
  ·exact .inr ⟨rfl,λk hk=>VW.refl tv⟩
  ·exact .inr ⟨rfl,λk hk=>VW.refl tv⟩
  ·exact .inl rfl
  ·exact .inl rfl
  ·exact .inr (atJ h6)
  ·exact .inr (atJ h7)
  ·exact .inr (atJ h8)
  ·exact .inr ⟨rfl,λk hk=>VW.refl (wF (P:=λk=>k<10) (λk hk=>by omega) (rJ qD qD))⟩
  all_goals (exact .inl rfl)
 ·exact⟨rJ rfl rfl,rfl,rfl,rfl,rfl,rfl,tv⟩
 ·intro e v hv;rcases e with _|_|_|_|_|_|_|_|_|_|_|_|_|_|_|_|_|_|_|_|_|_|_|_|_|_|_|_|_|_|_|_|_|_|_|_|_|_ |  e
  all_goals first|(obtain rfl:=fG hv;first|exact tv|exact .inl rfl|exact .inr ⟨_,_,rfl,.inl rfl⟩|exact .inr ⟨_,_,rfl,.inr rfl⟩|exact rJ (.inl rfl) (.inl rfl)|exact(λk hk=>by obtain rfl:=Nat.lt_one_iff.1 hk;exact .inl rfl)|exact uB (.inl rfl) (.inl rfl) (.inr ⟨_,_,rfl,.inl rfl⟩)|exact Qj (.inl rfl) (.inl rfl) (.inr ⟨_,_,rfl,.inr rfl⟩) (.inr ⟨_,_,rfl,.inr rfl⟩) (.inr ⟨_,_,rfl,.inr rfl⟩) (.inr ⟨_,_,rfl,.inr rfl⟩) (.inr ⟨_,_,rfl,.inr rfl⟩)|exact acy (Qj (.inl rfl) (.inl rfl) (.inr ⟨_,_,rfl,.inr rfl⟩) (.inr ⟨_,_,rfl,.inr rfl⟩) (.inr ⟨_,_,rfl,.inr rfl⟩) (.inr ⟨_,_,rfl,.inr rfl⟩) (.inr ⟨_,_,rfl,.inr rfl⟩)))|exact au (show(none:Option V)=some v from hv) nofun
 ·intro D hc k hk;have ho:∀ k,k<10->RD wH D k:=λk hk=>.inl (ap0 k hk)
  rcases k with _|_|_|_|_|_|_|_|_|_|_|_|_|_|_|_|_|_ |  k
  ·exact PK ho h0
  ·exact λj hj=>True.intro
  ·exact λj hj=>True.intro
  ·exact λj hj=>True.intro
  ·exact tv
  ·exact tv
  ·exact PK ho h6
  ·exact PK ho h7
  ·exact PK ho h8
  ·exact λj hj=>rJ (.inl rfl) (.inl rfl)
  ·show kX _ (bif D 0 then .map (uO (afL (D 2) (D 4) (D 6) (D 8) (D 10) (D 14) (D 18) (D 21) (D 24) (D 28))) else .dead);cases D 0
   ·exact tv
   ·refine VJ (adm λp hp hb=>?_);simp only[List.mem_cons,List.not_mem_nil,or_false]at hp;rcases hp with rfl|rfl|rfl|rfl|rfl|rfl|rfl|rfl|rfl|rfl
    ·exact rJ (.inl rfl) (.inl rfl)
    ·exact rJ (.inl rfl) (.inl rfl)
    ·exact rJ (.inl rfl) (.inl rfl)
    ·exact rJ (.inl rfl) (.inl rfl)
    ·exact rJ (.inl rfl) (.inl rfl)
    ·exact uB (.inl rfl) (.inl rfl) (.inr ⟨13,0,rfl,hc 14 13 rfl hb⟩)
    ·exact uB (.inl rfl) (.inl rfl) (.inr ⟨17,0,rfl,hc 18 17 rfl hb⟩)
    ·exact uB (.inl rfl) (.inl rfl) (.inr ⟨20,1,rfl,hc 21 20 rfl hb⟩)
    ·exact uB (.inl rfl) (.inl rfl) (.inr ⟨23,1,rfl,hc 24 23 rfl hb⟩)
    ·exact uB (.inl rfl) (.inl rfl) (.inr ⟨27,0,rfl,hc 28 27 rfl hb⟩)
  ·show kX _ (bif D 13 then .blk 1 (λ_=>F8 279) else .dead);rcases hD:D 13 with _|_
   ·exact tv
   ·exact λj hj k hk=>by obtain rfl:=Nat.lt_one_iff.1 hk;exact .inl rfl
  ·show kX _ (bif D 17 then .blk 1 (λ_=>F8 281) else .dead);rcases hD:D 17 with _|_
   ·exact tv
   ·exact λj hj k hk=>by obtain rfl:=Nat.lt_one_iff.1 hk;exact .inl rfl
  ·show kX _ (bif D 20 then .blk 1 (λ_=>.b true) else .dead);rcases hD:D 20 with _|_
   ·exact tv
   ·exact λj hj=>True.intro
  ·show kX _ (bif D 20 then .blk 1 (λ_=>f269 13) else .dead);rcases hD:D 20 with _|_
   ·exact tv
   ·exact λj hj=>rJ (.inl rfl) (.inr ⟨20,0,rfl,hD⟩)
  ·show kX _ (bif D 23 then .blk 1 (λ_=>.b false) else .dead);rcases hD:D 23 with _|_
   ·exact tv
   ·exact λj hj=>True.intro
  ·show kX _ (bif D 23 then .blk 1 (λ_=>f269 15) else .dead);rcases hD:D 23 with _|_
   ·exact tv
   ·exact λj hj=>rJ (.inl rfl) (.inr ⟨23,0,rfl,hD⟩)
  ·show kX _ (bif D 27 then .blk 1 (λ_=>lV 282 1 0) else .dead);rcases hD:D 27 with _|_
   ·exact tv
   ·exact λj hj=>rJ (.inl rfl) (.inl rfl)
  ·omega
 ·intro D k e q hD hk;rcases k with _|_|_|_|_|_|_|_|_|_|_|_|_|_|_|_|_|_ |  k
  all_goals first|(obtain⟨rfl,_⟩:=Prod.mk.inj (fG (fG hk));first|(show(bif D 0 then _ else .dead)=aG.dead;rw[hD];rfl)|(show(bif D 13 then _ else .dead)=aG.dead;rw[hD];rfl)|(show(bif D 17 then _ else .dead)=aG.dead;rw[hD];rfl)|(show(bif D 20 then _ else .dead)=aG.dead;rw[hD];rfl)|(show(bif D 23 then _ else .dead)=aG.dead;rw[hD];rfl)|(show(bif D 27 then _ else .dead)=aG.dead;rw[hD];rfl))|exact au (show some none=some (some (e,q)) from hk) nofun|exact au (show(none:Option (Option (Nat×Nat)))=some (some (e,q)) from hk) nofun
 ·refine apD ae9 38 rfl rfl (λi o v ho hv=>?_);have hi:i<38:=(List.getElem?_eq_some_iff.1 ho).1;by_cases h10:i<7
  ·exact aq0 i o v ho hv ⟨by omega,h10⟩
  by_cases h11:i<13
  ·exact aqZ i o v ho hv ⟨by omega,h11⟩
  by_cases h12:i<17
  ·exact aqY i o v ho hv ⟨by omega,h12⟩
  by_cases h13:i<20
  ·exact aqX i o v ho hv ⟨by omega,h13⟩
  by_cases vJ:i<23
  ·exact aqW i o v ho hv ⟨by omega,vJ⟩
  by_cases h15:i<27
  ·exact aqV i o v ho hv ⟨by omega,h15⟩
  by_cases h16:i<32
  ·exact aqU i o v ho hv ⟨by omega,h16⟩
  exact aqT i o v ho hv ⟨by omega,hi⟩
end
end Go.Proofs.YtnibdnahojjcgaaGreat
