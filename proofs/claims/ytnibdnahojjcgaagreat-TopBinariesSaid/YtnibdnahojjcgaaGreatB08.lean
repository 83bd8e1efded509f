/- A part of the proof. -/
import Derived.Test.YtnibdnahojjcgaaGreatB03
import Derived.Test.YtnibdnahojjcgaaGreatB04
namespace Go.Proofs.YtnibdnahojjcgaaGreat
set_option maxRecDepth 100000
set_option maxHeartbeats 16000000
set_option linter.unusedVariables false
set_option linter.unusedSimpArgs false
open Go.RowKit
theorem au4(A:Option Addr)(n c:Nat)(w:World)(h:n=0\/4096<n)(hn:n<=9223372036854775807) :
  Calls Tryz.prog 139 #[.slice A n c] w λe w'=>e = .returned (.tuple #[.slice none 0 0,.int .i64 4])/\w=w':=by
 rcases h with rfl|h
 ·go_enter Tryz.func139,Tryz.ntmps139;go_wp2;go_ret2;exact⟨rfl,rfl⟩
 ·have h0:((n:Int) == 0)=false:=by simp;omega
  go_enter Tryz.func139,Tryz.ntmps139;go_wp2;go_ret2;exact⟨rfl,rfl⟩
def avl(w:World)(x:List UInt8)(e:Ending)(w':World):Prop:=
 ∃ A c,e = .returned (.tuple #[.slice A (x.length+6) c,.int .i64 0])/\Own w' w.heap.size A (x.length+6) c (rD x)/\Below w.heap.size w w'
theorem auO(n:Nat)(h:n<65536):(#[Value.int .u8 ((n:Int) / 256),.int .u8 ((n:Int) % 256)]:Array Value).toList.take (OL n).length=(OL n).map bv:=by
 simp[OL,bv,ZF];omega
theorem auN(q:Nat)(h:q<4294967296):(#[Value.int .u8 ((q:Int) / 16777216),.int .u8 ((q:Int) / 65536 % 256),.int .u8 ((q:Int) / 256 % 256),.int .u8 ((q:Int) % 256)]:Array Value).toList.take (Ij q).length=(Ij q).map bv:=by
 simp[Ij,bv,ZF];omega
theorem au8(A:Option Addr)(x:List UInt8)(n c:Nat)(w:World)(hn:x.length=n)(h0:0<n)(h1:n<=4096)(hA:Bs w w.heap.size A x) :
  Calls Tryz.prog 139 #[.slice A n c] w (avl w x):=by
 have HN:=Lib.hid hn;clear hn;have hz:((n:Int) == 0)=false:=by simp;omega
 have r0:=Below.refl w.heap.size w;have hb2:=Lib.hid (auO n qO);go_enter Tryz.func139,Tryz.ntmps139;go_wp2_with (first
  |(at_make;refine mk0 rfl (.const (.int .i64 0)) (.tmp 17) rfl .i64 .i64 _ (n+6) rfl rfl qO qO (bu _) ?_;intro w1 o1 g1;have b1:Below w.heap.size w w1:=r0.grown g1 (bu _) (by simp))
  |(at_builtin;refine app rfl (.tmp 19) (.tmp 27) rfl rfl (o1.alloc _) rfl rfl (Bs.new (Nat.lt_succ_self _) hb2.out) qO (jV b1.size (by simp)) ?_;intro A2 c2 w2 o2 g2 _;simp only[jm,List.nil_append]at o2;have b2:Below w.heap.size w w2:=Own.grown (o1.alloc _) (b1.alloc b1.size _) g2;have s2:=hA.below b2)
  |(at_builtin;refine app rfl (.tmp 29) (.tmp 30) rfl rfl o2 rfl HN.out s2 qO b2.size ?_;intro A3 c3 w3 o3 g3 _;have b3:Below w.heap.size w w3:=Own.grown o2 b2 g3))
 have hfb:OL n++x=BI x:=by rw[<-HN.out];rfl
 rw[hfb]at o3;have hfl:=Lib.hid (show(BI x).length=2+n by rw[Ui,HN.out,Nat.add_comm]);clear hfb g1 g2 g3 o1 o2 b1 b2 s2;refine(aup A3 (BI x) _ c3 _ hfl.out o3.bs (by rw[hfl.out];omega)).mono ?_;rintro e w4 ⟨rfl,d4⟩;have o4:=o3.step d4;have b4:=b3.trans (d4.mono b3.size);have hs:=akX 1 (BI x);obtain⟨q,hq⟩:∃ q:Nat,wO 1 (BI x)=(q:Int):=⟨_,(Int.toNat_of_nonneg hs.1).symm⟩;have HQ:=Lib.hid hq;rw[hq];have hq2:q<4294967296:=qO;clear hq hs;have hb4:=Lib.hid (auN q hq2);have hL:=Lib.hid (show 2+n+4=x.length+6 by rw[HN.out];omega);have hfin:=Lib.hid (show BI x++Ij q=rD x by unfold rD;rw[HQ.out];rfl);go_wp2_with (at_builtin;refine app rfl (.tmp 34) (.tmp 46) rfl rfl (o4.alloc _) rfl rfl (Bs.new (Nat.lt_succ_self _) hb4.out) qO (jV b4.size (by simp)) ?_;intro A5 c5 w5 o5 g5 _;have b5:Below w.heap.size w w5:=Own.grown (o4.alloc _) (b4.alloc b4.size _) g5);go_ret2;refine⟨A5,c5,by rw[<-hL.out];rfl,?_,b5⟩;rw[<-hL.out,<-hfin.out];exact o5
def ave(w:World)(x:List UInt8)(e:Ending)(w':World):Prop:=
 ∃ A c,e = .returned (.tuple #[.slice A (fp x).1.length c,.int .i64 (fp x).2])/\Own w' w.heap.size A (fp x).1.length c (fp x).1/\Below w.heap.size w w'
theorem auW(A:Option Addr)(x:List UInt8)(n c:Nat)(w:World)(hn:x.length=n)(hm:n<=9223372036854775807)(hA:Bs w w.heap.size A x) :
  Calls Tryz.prog 139 #[.slice A n c] w (ave w x):=by
 by_cases h:n=0\/4096<n
 ·have hf:fp x=([],4):=by unfold fp;rw[if_pos (by rw[hn];exact h)]
  refine(au4 A n c w h hm).mono ?_;rintro e w' ⟨rfl,rfl⟩;exact⟨none,0,by rw[hf];rfl,by rw[hf];exact atf _ _ _,Below.refl _ _⟩
 ·have hf:fp x=(rD x,0):=by unfold fp;rw[if_neg (by rw[hn];exact h)]
  refine(au8 A x n c w hn qO qO hA).mono ?_;rintro e w' ⟨A1,c1,rfl,o1,b1⟩;exact⟨A1,c1,by rw[hf,KH];rfl,by rw[hf,KH];exact o1,b1⟩
end Go.Proofs.YtnibdnahojjcgaaGreat
