/- A part of the proof. -/
import Derived.BigQuiet
import Derived.WalkSpells
import Derived.Test.YtnibdnahojjcgaaGreatB03
import Derived.Test.YtnibdnahojjcgaaGreatB04
namespace Go.Proofs.YtnibdnahojjcgaaGreat
set_option maxRecDepth 100000
set_option maxHeartbeats 16000000
set_option linter.unusedVariables false
set_option linter.unusedSimpArgs false
open Go.RowKit
def avg(w:World)(l:List UInt8)(n:Nat)(e:Ending)(w':World):Prop:=
 ∃ A c,e = .returned (.slice A n c)/\Own w' w.heap.size A n c l/\Below w.heap.size w w'
theorem auJ(a:Addr)(l:List UInt8)(n c:Nat)(w:World)(hn:l.length=n)(hs:n<=140737488351232)(hA:Bs w w.heap.size (some a) l) :
  Calls Tryz.prog 74 #[.slice (some a) n c] w (avg w l n):=by
 have HN:=Lib.hid hn;clear hn;have r0:=Below.refl w.heap.size w;have b0:=r0.alloc (bu _) (.cells #[] 5);have he:=aun (w:=w) (base:=w.heap.size) (E:=5) (bu _);have s0:=hA.below b0;have hq:=λ(w:World) (c:Nat)=>Lib.run_eql_slice_nil (P:=Tryz.prog) w 48 5 (some a) n c 0 0 Tryz.underlying48
 go_enter Tryz.func74,Tryz.ntmps74;go_wp2_with (at_builtin;refine app rfl (.tmp 5) (.tmp 6) rfl rfl he rfl HN.out s0 qO b0.size ?_;intro A1 c1 w1 o1 g1 _;simp only[jm,List.nil_append]at o1;have b1:Below w.heap.size w w1:=Own.grown he b0 g1);go_ret;exact⟨A1,c1,rfl,o1,b1⟩
def auA(w:World)(x:List UInt8)(m:Nat)(k:Int)(e:Ending)(w':World):Prop:=
 ∃ A c,e = .returned (.tuple #[.slice A x.length c,.int .i64 m,.int .i64 k])/\Own w' w.heap.size A x.length c x/\Below w.heap.size w w'
theorem auM(A:Option Addr)(n c:Nat)(w:World)(hn:n<2) :
  Calls Tryz.prog 100 #[.slice A n c] w (auA w [] 0 2):=by
 go_enter Tryz.func100,Tryz.ntmps100;go_wp2;go_ret3;exact⟨none,0,rfl,atf _ _ _,Below.refl _ _⟩
theorem auF(a:Nat)(b:UInt8)(h2:a<65536):bits .or .i64 ((a:Int)*256) (b.toNat:Int)=((256*a+b.toNat:Nat):Int):=by
 have hb:=b.toNat_lt;rw[bits_join .i64 40 qD (λn h1 h2=>IntWalk.i64_in n qO) 8 _ _ qO qO qO qO qO qO];omega
theorem auE(a:Nat)(b:UInt8)(h2:a<16777216):bits .or .u32 ((a:Int)*256) (b.toNat:Int)=((a*256+b.toNat:Nat):Int):=by
 have hb:=b.toNat_lt;rw[bits_join .u32 32 qD (λn h1 h2=>IntWalk.u32_in n qO) 8 _ _ qO qO qO qO qO qO];omega
theorem auR(A:Option Addr)(b:List UInt8)(n c:Nat)(w:World)(hn:b.length=n)(hcap:n<=c)(hm:n<=140737488351232)(hA:Bs w w.heap.size A b) :
  Calls Tryz.prog 100 #[.slice A n c] w (auA w (jL b).1 (jL b).2.1 (jL b).2.2):=by
 by_cases h2:n<2
 ·have hf:jL b=([],0,2):=by unfold jL;rw[if_pos qO]
  rw[hf];exact auM A n c w h2
 have HN:=Lib.hid hn;obtain⟨g,off,rfl,hg,hc⟩:=id hA qO;have c0:=hc 0 qO;have c1:=hc 1 qO;rw[Nat.add_zero]at c0;obtain⟨M,hM⟩:∃ M,ja b=M:=⟨_,rfl⟩;have hor:=auF (b.getD 0 0).toNat (b.getD 1 0) (by have:=(b.getD 0 0).toNat_lt;omega);rw[show 256*(b.getD 0 0).toNat+(b.getD 1 0).toNat=M from hM]at hor;have l0:=(b.getD 0 0).toNat_lt;have l1:=(b.getD 1 0).toNat_lt;generalize b.getD 0 0=x0 at *;generalize b.getD 1 0=x1 at *;have HF:=Lib.hid (show jL b=if M=0\/4096<M then ([],0,3) else if n<M+6 then ([],0,2) else if wO 1 (b.take (M+2))=(JH ((b.drop (M+2)).take 4):Nat) then ((b.drop 2).take M,M+6,0) else ([],0,3) by
  unfold jL;rw[if_neg qO,hM,hn])
 clear hn hM;go_enter Tryz.func100,Tryz.ntmps100;go_wp2_with fail
 go_quiet (fail)
 clear hor c0 c1 l0 l1 hc;by_cases hbad:M=0\/4096<M
 ·have HF2:=Lib.hid (show jL b=([],0,3) by rw[HF.out,if_pos hbad]);rcases hbad with rfl|hbad
  ·go_wp2_with fail;go_ret3;rw[HF2.out];exact⟨none,0,rfl,atf _ _ _,below_drewN (Below.refl _ _) _⟩
  ·have hz:((M:Int) == 0)=false:=by simp;omega
   go_wp2_with fail;go_ret3;rw[HF2.out];exact⟨none,0,rfl,atf _ _ _,below_drewN (Below.refl _ _) _⟩
 ·obtain⟨m1,m2⟩:0<M/\M<=4096:=qO;have hz:((M:Int) == 0)=false:=by simp;omega
  by_cases hs:n<M+6
  ·have HF2:=Lib.hid (show jL b=([],0,2) by rw[HF.out,if_neg hbad,if_pos hs]);clear hbad;go_wp2_with fail;go_ret3;rw[HF2.out];exact⟨none,0,rfl,atf _ _ _,below_drewN (Below.refl _ _) _⟩
  ·have HF2:=Lib.hid (show jL b=if wO 1 (b.take (M+2))=(JH ((b.drop (M+2)).take 4):Nat) then ((b.drop 2).take M,M+6,0) else ([],0,3) by rw[HF.out,if_neg hbad,if_neg hs]);clear hbad HF;go_wp2_with fail;obtain⟨z,hz4⟩:∃ z,(b.drop (M+2)).take 4=z:=⟨_,rfl⟩;have hzl:z.length=4:=by rw[<-hz4];simp;have:=HN.out;omega
   have hAz:Bs w w.heap.size (some ⟨g,off+(2+M),none⟩) z:=by
    rw[<-hz4,show M+2=2+M by omega];exact(hA.drop (2+M)).take 4
   rw[hz4]at HF2;have HZ:=Lib.hid hzl;have avm:z.length<=4:=qO;clear hzl hz4;obtain⟨g',off',he,lU,hcz⟩:=id hAz (by have:=HZ.out;omega);injection he with he
   injection he with h1 h2
   subst h1 h2
   go_loop [7,9,42] (λs _ i=>∃ k:Nat,k<=4/\i = .int .i64 k/\s = .int .u32 (JH (z.take k):Nat)) (λ_ _ i=>4-(intOf i).toNat)
   case atStart=>exact⟨0,by omega,rfl,rfl⟩
   case round=>
    obtain⟨k,hk,rfl,rfl⟩:=hrel;by_cases hlt:k<4
    ·have hcx:=hcz k (by have:=HZ.out;omega);have hbv:=au0 (z.take k);have hlen:(z.take k).length<=3:=by simp;omega
     have hp:256^(z.take k).length<=256^3:=Nat.pow_le_pow_right qO hlen;have avn:JH (z.take k)<16777216:=qO;have hsn:JH (z.take (k+1))=JH (z.take k)*256+(z.getD k 0).toNat:=by
      rw[List.take_succ_eq_append_getElem (by have:=HZ.out;omega),auK,bC,dW (by have:=HZ.out;omega)];rfl
     have hor:=auE (JH (z.take k)) (z.getD k 0) avn;have HS:=Lib.hid hsn;clear hbv hlen hp hsn;generalize JH (z.take k)=v at *;generalize z.getD k 0=y at *;have hy:(y.toNat:Int)<=255:=by have:=y.toNat_lt;omega
     go_wp2
     go_round
     case rel=>exact⟨k+1,by omega,by go_num,by rw[HS.out];go_num⟩
     case measure=>simp[intOf];omega
    ·obtain rfl:k=4:=qO;rw[lW avm];have hbl:((b.take (2+M)).length=2+M):=by have:=HN.out;simp;omega
     have HB:=Lib.hid hbl;clear hbl;have s1:Bs (w.drewN nq) (w.drewN nq).heap.size (some ⟨g,off,none⟩) (b.take (2+M)):=(hA.take (2+M)).drewN nq;rw[show M+2=2+M by omega]at HF2;go_wp2_with fail;refine(au9 _ (b.take (2+M)) _ _ _ _ HB.out s1 (by rw[HB.out];omega)).mono ?_;rintro e w1 ⟨rfl,d1⟩;have b1:Below w.heap.size w w1:=(below_drewN (Below.refl _ _) nq).trans d1;by_cases heq:wO 1 (b.take (2+M))=(JH z:Nat)
     ·have HF3:=Lib.hid (show jL b=((b.drop 2).take M,M+6,0) by rw[HF2.out,if_pos heq]);have hdec:(wO 1 (b.take (2+M)) == ((JH z:Nat):Int))=true:=by rw[heq,beq_self_eq_true]
      rw[hdec];clear heq hdec;have hxl:((b.drop 2).take M).length=M:=by have:=HN.out;simp;omega
      have HX:=Lib.hid hxl;clear hxl;have s2:Bs w1 w1.heap.size (some ⟨g,off+2,none⟩) ((b.drop 2).take M):=(((hA.drop 2).take M).below b1).more b1.size;go_wp2_with fail;refine(auJ ⟨g,off+2,none⟩ _ M M _ HX.out qO s2).mono ?_;rintro e w2 ⟨A2,c2,rfl,o2,d2⟩;have b2:Below w.heap.size w w2:=b1.trans (d2.mono b1.size);have o2':=o2.mono b1.size;go_wp2_with fail;go_ret3;rw[HF3.out];refine⟨A2,c2,?_,?_,b2⟩
      ·have hN:((M+6:Nat):Int)=2+(M:Int)+4:=qO;simp only;rw[HX.out,hN];rfl
      ·simp only;rw[HX.out];exact o2'
     ·have HF3:=Lib.hid (show jL b=([],0,3) by rw[HF2.out,if_neg heq]);have hdec:(wO 1 (b.take (2+M)) == ((JH z:Nat):Int))=false:=by rw[beq_eq_false_iff_ne];exact heq
      rw[hdec];clear heq hdec;go_wp2_with fail;go_ret3;rw[HF3.out];exact⟨none,0,rfl,atf _ _ _,b1⟩
end Go.Proofs.YtnibdnahojjcgaaGreat
