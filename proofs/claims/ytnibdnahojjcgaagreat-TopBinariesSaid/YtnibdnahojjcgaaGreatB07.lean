/- A part of the proof. -/
import Derived.Deep.LoopGhost
import Derived.Deep.RegionHeld3
import Derived.Deep.RegionWith
import Derived.Test.YtnibdnahojjcgaaGreatB03
import Derived.Test.YtnibdnahojjcgaaGreatB04
import Derived.Test.YtnibdnahojjcgaaGreatB05
namespace Go.Proofs.YtnibdnahojjcgaaGreat
set_option maxRecDepth 100000
set_option maxHeartbeats 16000000
set_option linter.unusedVariables false
set_option linter.unusedSimpArgs false
open Go.RowKit
theorem aiO(n:Nat)(w:World)(h:Hid (n<18446744073709551616)) :
  Calls Tryz.prog 220 #[.int .u64 n] w λe w'=>e = .returned (.int .i64 (gV n:Nat))/\w=w':=by
 go_enter Tryz.func220,Tryz.ntmps220;go_wp2
 go_loop [0,3] (λx s=>∃ m k:Nat,x = .int .u64 m/\s = .int .i64 k/\Hid (m<18446744073709551616)/\1<=k/\k<=10/\k-1+gV m=gV n) (λx _=>(intOf x).toNat)
 case atStart=>exact⟨n,1,rfl,rfl,h,by omega,by omega,by omega⟩
 case round=>
  obtain⟨m,k,rfl,rfl,hm,hk,hk2,hs⟩:=hrel;have hle:=Ez n;have hmi:(m:Int)<=18446744073709551615:=by have:=hm.out;omega
  by_cases hlt:m<128
  ·have HV:=Lib.hid (show k=gV n by rw[Ep m hlt]at hs;omega);clear hs hle;go_wp2;go_ret;exact⟨by rw[<-HV.out];rfl,rfl⟩
  ·have hb:=KO m hlt hm.out;have HM:=Lib.hid (show m / 128<18446744073709551616 by have:=hm.out;omega);have hp:=KN (m / 128);have HV:=Lib.hid (show k+1-1+gV (m / 128)=gV n by omega);have hk9:k<=9:=qO;clear hs hle hb hp;go_wp2
   go_round
   case rel=>exact⟨m / 128,k+1,by go_num,by go_num,HM,by omega,by omega,HV.out⟩
   case measure=>simp[intOf];omega
theorem ahV:∀ x:Fin 256,Nat.lor x.val 128=x.val % 128+128:=by decide +kernel
theorem ag9:∀ x:Fin 256,Nat.land x.val 127=x.val % 128:=by decide +kernel
theorem u8_or128(m:Nat):bits .or .u8 ((m:Int) % 256) 128=((jE (m % 128+128)).toNat:Int):=by
 rw[u8_or _ _ qO qO qO qO,xA];have h:Nat.lor (m % 256) 128=m % 256 % 128+128:=ahV ⟨m % 256,by omega⟩;have e:((m:Int) % 256).toNat=m % 256:=qO;rw[e];show((Nat.lor (m % 256) 128:Nat):Int)=_;rw[h];omega
theorem aap(b:UInt8):bits .and .u8 (b.toNat:Int) 127=((jE (b.toNat % 128)).toNat:Int):=by
 have hb:=b.toNat_lt;rw[u8_and _ _ qO qO qO qO,xA];have h:Nat.land b.toNat 127=b.toNat % 128:=ag9 ⟨b.toNat,hb⟩;show((Nat.land ((b.toNat:Int).toNat) 127:Nat):Int)=_;rw[jD,h];omega
def afP(w:World)(n:Nat)(e:Ending)(w':World):Prop:=
 ∃ A c,e = .returned (.slice A (gV n) c)/\Own w' w.heap.size A (gV n) c (dV n)/\Below w.heap.size w w'
theorem aa3(n:Nat)(w:World)(h:Hid (n<18446744073709551616)) :
  Calls Tryz.prog 181 #[.int .u64 n] w (afP w n):=by
 have hni:(n:Int)<=18446744073709551615:=by have:=h.out;omega
 go_enter Tryz.func181,Tryz.ntmps181;go_wp2_with fail;refine(aiO n _ h).mono ?_;rintro e w1 ⟨rfl,rfl⟩;have hle:=Ez n;have hpos:=KN n;obtain⟨s,hs⟩:∃ s,gV n=s+1:=⟨gV n-1,by omega⟩;have HS:=Lib.hid hs;rw[hs];have hs9:s<=9:=qO;have hfin:=Lib.hid (ajM n s h.out hs);clear hs hle hpos;go_wp2_with (at_make;refine mk rfl (.tmp 8) (.tmp 8) rfl .i64 .i64 _ _ (s+1) rfl rfl rfl rfl qO (bu _) ?_;intro w2 o2 g2;have b2:Below w.heap.size w w2:=(Below.refl _ _).grown g2 (bu _) (by simp))
 go_loopw [0,5,11] (λx _ i wr=>∃ k:Nat,i = .int .i64 k/\k<=s+1/\x = .int .u64 (n / 128^k:Nat)/\Own wr w.heap.size (some ⟨w.heap.size,0,none⟩) (s+1) (s+1) (yz n k++List.replicate (s+1-k) 0)/\Below w.heap.size w wr) (λ_ _ i _=>s+1-(intOf i).toNat)
 case atStart=>exact⟨0,rfl,by omega,by simp,by simpa [yz] using o2,b2⟩
 case round=>
  obtain⟨k,rfl,hk,rfl,oo,hb⟩:=hrel;have hdm:((n / 128^k:Nat):Int)<=18446744073709551615:=by have:=Nat.div_le_self n (128^k);have:=h.out;omega
  by_cases hlt:k<s+1
  ·have fk:=oo.free k;have hor:=u8_or128 (n / 128^k);have os:=oo.set k (jE (n / 128^k % 128+128));rw[show s+1-k=(s+1-(k+1))+1 by omega,am7]at os;have ck:=oo.cell k (by have:=oo.1;omega);have HD:=Lib.hid (show n / 128^k / 128=n / 128^(k+1) by rw[Nat.div_div_eq_div_mul,Nat.pow_succ]);generalize n / 128^k=m at *;go_wp2
   go_roundw
   case rel=>exact⟨k+1,by go_num,by omega,by rw[<-HD.out];go_num,os,hb.setCell (by simp) _⟩
   case measure=>simp[intOf];omega
  ·obtain rfl:k=s+1:=qO;rw[Nat.sub_self,List.replicate_zero,pG]at oo;have ck:=oo.cell s (by rw[Gl];omega);have fk:=oo.free s;have hg:(yz n (s+1))[s]'(by rw[Gl];omega)=jE (n / 128^s % 128+128):=by
    have:=ab1 n (s+1) s qO;rw[dW (by rw[Gl];omega)]at this;exact fG this
   rw[hg]at ck;have hand:=aap (jE (n / 128^s % 128+128));have he:jE ((jE (n / 128^s % 128+128)).toNat % 128)=jE (n / 128^s % 128):=VV (by rw[xA,xA];omega);rw[he]at hand;have os:=oo.set s (jE (n / 128^s % 128));rw[hfin.out]at os;clear he hg hlt;go_wp2;go_ret;exact⟨some ⟨w.heap.size,0,none⟩,s+1,by rw[HS.out];rfl,by rw[HS.out];exact os,hb.setCell (by simp) _⟩
theorem af7(x y:Int):bits .or .u64 x y=bits .or .u64 y x:=by simp only[bits,BitVec.or_comm]
theorem ahk(acc q k:Nat)(hacc:acc<128^k)(hk:k<=9)(hq:k=9->q % 128<=1) :
  bits .or .u64 (acc:Int) (IntKind.u64.wrap ((q:Int) % 128*2^(7*k)))=((acc+q % 128*128^k:Nat):Int):=by
 have e1:(2:Int)^(7*k)=((128^k:Nat):Int):=by rw[Int.pow_mul];norm_cast
 have e0:(q:Int) % 128=((q % 128:Nat):Int):=qO;have hb:q % 128*128^k<=9223372036854775808/\128^k<=9223372036854775808:=by
  by_cases h9:k=9
  ·subst h9;have h1:=hq rfl;rw[Yu];omega
  ·have h8:128^k<=128^8:=Nat.pow_le_pow_right qO qO;have e8:(128:Nat)^8=72057594037927936:=by decide
   rw[e8]at h8;have hmul:q % 128*128^k<=127*72057594037927936:=Nat.mul_le_mul qO h8;omega
 rw[e1,e0,<-Int.natCast_mul,IntWalk.u64_in _ qO,af7];have hp:(128^k:Nat)=2^(7*k):=by rw[Nat.pow_mul]
 rw[bits_join .u64 64 qD (λn h1 h2=>IntWalk.u64_in n qO) (7*k) _ _ qO ?_ qO qO ?_ qO]
 ·omega
 ·rw[hp];have:((q % 128*2^(7*k):Nat):Int) % 2^(7*k)=(((q % 128*2^(7*k)) % 2^(7*k):Nat):Int):=by push_cast;rfl
  rw[this,Nat.mul_mod_left];rfl
 ·have:((2:Int)^(7*k))=((2^(7*k):Nat):Int):=by push_cast;rfl
  rw[this,<-hp];omega
theorem UL(A:Option Addr)(b:List UInt8)(n c:Nat)(w:World)(hn:b.length=n)(hm:n<=9223372036854775807)(hA:Bs w w.heap.size A b) :
  Calls Tryz.prog 194 #[.slice A n c] w λe w'=>e = .returned (.tuple #[.int .u64 ((cO b).1:Nat),.int .i64 ((cO b).2.1:Nat),.int .i64 ((cO b).2.2:Nat)])/\w=w':=by
 have HN:=Lib.hid hn;clear hn;go_enter Tryz.func194,Tryz.ntmps194;go_wp2_with fail
 go_step3
 go_wp2_with fail
 go_step3
 go_wp2_with fail
 go_loop [5,6,7,8,9] (λa s e _ i=>∃ k acc:Nat,i = .int .i64 k/\a = .int .u64 acc/\s = .int .i64 0/\e = .int .i64 3/\k<=9/\k<=n/\Hid (acc<128^k)/\cO b=vt k acc (b.drop k)) (λ_ _ _ _ i=>10-(intOf i).toNat)
 case atStart=>exact⟨0,0,rfl,rfl,rfl,rfl,by omega,by omega,by simp[Hid],rfl⟩
 case round=>
  obtain⟨k,acc,rfl,rfl,rfl,rfl,hk,hkn,hacc,hv⟩:=hrel;have HV:=Lib.hid hv;clear hv;by_cases hlt:k<n
  ·obtain⟨g,off,rfl,hg,hc⟩:=hA (by rw[HN.out];omega);have ck:=hc k (by rw[HN.out];omega);have hd:b.drop k=b.getD k 0::b.drop (k+1):=by
    rw[List.drop_eq_getElem_cons (by rw[HN.out];omega),bC,dW (by rw[HN.out];omega)];rfl
   have hkn2:((k:Int) == (n:Int))=false:=by rw[beq_eq_false_iff_ne];omega
   have hand:=aap (b.getD k 0);rw[xA]at hand;have hql:=(b.getD k 0).toNat_lt;have hv2:=HV.out;rw[hd]at hv2;unfold vt at hv2;clear hd hc hA;generalize (b.getD k 0).toNat=q at *;have hqm:((q % 128 % 256:Nat):Int)=(q:Int) % 128:=qO;rw[hqm]at hand;clear hqm;by_cases hbad:(0<k/\q=0)\/(k=9/\1<q)
   ·rw[if_pos hbad]at hv2;have HF:=Lib.hid hv2;clear hv2 HV hacc hand;rcases hbad with ⟨hk0,rfl⟩|⟨rfl,hq1⟩
    ·have Tj:decide (0<k)=true:=by simp;omega
     go_wp2_with fail;go_ret3;exact⟨by rw[HF.out];rfl,rfl⟩
    ·have hq0:((q:Int) == 0)=false:=by rw[beq_eq_false_iff_ne];omega
     go_wp2_with fail;go_ret3;exact⟨by rw[HF.out];rfl,rfl⟩
   ·rw[if_neg hbad]at hv2;have hg:=ahk acc q k hacc.out hk qO;by_cases hsm:q<128
    ·rw[if_pos hsm]at hv2;have HF:=Lib.hid hv2;rw[Nat.mod_eq_of_lt hsm]at hg;clear hv2 HV hacc;have Ti:k=9->decide (1<(q:Int))=false:=by intro h;simp;omega
     by_cases hk0:0<k
     ·have hq0:((q:Int) == 0)=false:=by rw[beq_eq_false_iff_ne];omega
      have Tj:decide (0<k)=true:=by simp;omega
      by_cases hk9:k=9
      ·have YF:((k:Int) == 9)=true:=by rw[beq_iff_eq];omega
       have hq2:=Ti hk9;clear hbad hk9 Ti;generalize acc+q*128^k=v at *;go_wp2_with fail;go_ret3;exact⟨by rw[HF.out];rfl,rfl⟩
      ·have YF:((k:Int) == 9)=false:=by rw[beq_eq_false_iff_ne];omega
       clear hbad hk9 Ti;generalize acc+q*128^k=v at *;go_wp2_with fail;go_ret3;exact⟨by rw[HF.out];rfl,rfl⟩
     ·have Tj:decide (0<k)=false:=by simp;omega
      have YF:((k:Int) == 9)=false:=by rw[beq_eq_false_iff_ne];omega
      clear hbad hk0 Ti;generalize acc+q*128^k=v at *;go_wp2_with fail;go_ret3;exact⟨by rw[HF.out];rfl,rfl⟩
    ·rw[if_neg hsm]at hv2;have HF:=Lib.hid hv2;have e128:q % 128=q-128:=qO;rw[e128]at hg;have hk8:k<=8:=qO;have aeX:=Lib.hid (show acc+(q-128)*128^k<128^(k+1) by
      have h1:=hacc.out;have h2:(q-128)*128^k<=127*128^k:=uV _ qO;rw[Nat.pow_succ];omega)
     have hq0:((q:Int) == 0)=false:=by rw[beq_eq_false_iff_ne];omega
     have YF:((k:Int) == 9)=false:=by rw[beq_eq_false_iff_ne];omega
     clear hv2 HV hacc e128 hbad;generalize acc+(q-128)*128^k=v at *;by_cases hk0:0<k
     ·have Tj:decide (0<k)=true:=by simp;omega
      go_wp2_with fail
      go_round
      case rel=>exact⟨k+1,v,by go_num,rfl,rfl,rfl,by omega,by omega,aeX,HF.out⟩
      case measure=>simp[intOf];omega
     ·have Tj:decide (0<k)=false:=by simp;omega
      have HK:=Lib.hid hk0;clear hk0;go_wp2_with fail
      go_round
      case rel=>exact⟨k+1,v,by go_num,rfl,rfl,rfl,by omega,by omega,aeX,HF.out⟩
      case measure=>simp[intOf];omega
  ·obtain rfl:k=n:=qO;have hd:b.drop k=[]:=uw (by rw[fE,HN.out];omega);have HF:=Lib.hid (show cO b=(0,0,2) by rw[HV.out,hd];rfl);have cZ:((k:Int) == (k:Int))=true:=by simp
   clear hd HV hlt;go_wp2_with fail;go_ret3;exact⟨by rw[HF.out];rfl,rfl⟩
def Uc(n m:Nat)(l:List UInt8):Prop:=dV n=l++dV m/\m<18446744073709551616/\l.length+1<=10
theorem Uc.next{n m:Nat}{l:List UInt8}(h:Uc n m l)(hm:¬m<128):Uc n (m / 128) (l++[jE (m % 128+128)]):=by
 obtain⟨h1,h2,h3⟩:=h;have hb:=PQ m hm h2;refine⟨by rw[h1,hb,kE];rfl,by omega,?_⟩;have hs:=Ez n;unfold gV at hs;have hp:=V4 (m / 128);rw[h1,hb,bW,ny]at hs;rw[bW,List.length_singleton];omega
theorem PE(n:Nat)(w:World)(h:Hid (n<18446744073709551616)) :
  Calls Tryz.prog 173 #[.int .u64 n] w (afP w n):=by
 go_enter Tryz.func173,Tryz.ntmps173;go_wp2_with fail
 go_loopw [0,3] (λx b wr=>∃(m k:Nat) (A:Option Addr) (c:Nat) (l:List UInt8),x = .int .u64 m/\b = .slice A k c/\k<=9/\Hid (Uc n m l)/\Own wr w.heap.size A k c l/\Below w.heap.size w wr) (λx _ _=>(intOf x).toNat)
 case atStart=>exact⟨n,0,some ⟨w.heap.size,0,none⟩,0,[],rfl,rfl,by omega,Lib.hid ⟨rfl,h.out,by decide⟩,aun (bu _),(Below.refl _ _).alloc (bu _) _⟩
 case round=>
  obtain⟨m,k,A,c,l,rfl,rfl,hk,hv,oo,hb⟩:=hrel;have hmi:(m:Int)<=18446744073709551615:=by have:=hv.out.2.1;omega
  have hkl:=oo.1;by_cases hlt:m<128
  ·have hcell:(#[Value.int .u8 (m:Int)]:Array Value).toList.take [jE m].length=[jE m].map bv:=by
    simp[bv,xA];omega
   have HC:=Lib.hid hcell;have hfin:=Lib.hid (show dV n=l++[jE m] by rw[hv.out.1,CQ m hlt]);have hsz:=Lib.hid (show k+1=gV n by unfold gV;rw[hv.out.1,CQ m hlt,bW,hkl];rfl);clear hcell hkl;go_wp2_with (at_builtin;refine app rfl (.tmp 16) (.tmp 19) rfl rfl (oo.alloc _) rfl rfl (Bs.new (Nat.lt_succ_self _) HC.out) qO (jV hb.size (by simp)) ?_;intro A2 c2 w2 o2 g2 _;have b2:Below w.heap.size w w2:=Own.grown (oo.alloc _) (hb.alloc hb.size _) g2);go_ret;refine⟨A2,c2,by rw[<-hsz.out];rfl,?_,b2⟩;rw[<-hsz.out,hfin.out];exact o2
  ·have hcell:(#[Value.int .u8 ((m:Int) % 128+128)]:Array Value).toList.take [jE (m % 128+128)].length=[jE (m % 128+128)].map bv:=by
    simp[bv,xA];omega
   have HC:=Lib.hid hcell;have hnx:=hv.out.next hlt
   have hk8:k<=8:=by have:=hnx.2.2;rw[bW,hkl]at this;simp at this;omega
   have HX:=Lib.hid hnx;clear hcell hkl hnx;go_wp2_with (at_builtin;refine app rfl (.tmp 7) (.tmp 12) rfl rfl (oo.alloc _) rfl rfl (Bs.new (Nat.lt_succ_self _) HC.out) qO (jV hb.size (by simp)) ?_;intro A2 c2 w2 o2 g2 _;have b2:Below w.heap.size w w2:=Own.grown (oo.alloc _) (hb.alloc hb.size _) g2)
   go_roundw
   case rel=>exact⟨m / 128,k+1,A2,c2,_,by go_num,rfl,by omega,HX,o2,b2⟩
   case measure=>simp[intOf];omega
def NE(num aJ:Int):Bool:=decide (1<=num/\num<=1000/\(aJ=0\/aJ=2))
def qL(num aJ:Int):Nat:=(8*num+aJ).toNat
def gI(num aJ:Int):List UInt8×Nat:=if NE num aJ=true then (dV (qL num aJ),0) else ([],1)
def fP(b:List UInt8):Nat×Nat×Nat×Nat:=
 if (cO b).2.2=0 then
  (if 1<=(cO b).1 / 8/\(cO b).1 / 8<=1000/\((cO b).1 % 8=0\/(cO b).1 % 8=2) then ((cO b).1 / 8,(cO b).1 % 8,(cO b).2.1,0) else (0,0,0,6))
 else (0,0,0,(cO b).2.2)
def pI(b:List UInt8):Nat×Nat:=
 let t:=fP b
 if t.2.2.2=0 then
  let v:=cO (b.drop t.2.2.1)
  if v.2.2=0 then
   (if t.2.1=0 then (t.2.2.1+v.2.1,0) else if 16384<v.1 then (0,4) else if b.length-(t.2.2.1+v.2.1)<v.1 then (0,2) else (t.2.2.1+v.2.1+v.1,0))
  else (0,v.2.2)
 else (0,t.2.2.2)
theorem CO{fn:Func}{t u v x:Tmp}(h:fn.results=#[.tmp t,.tmp u,.tmp v,.tmp x])(tmps:Array Value)(P:Program)(w:World) :
  (results fn tmps).run P w = .ok (.tuple #[tmps.getD t undef,tmps.getD u undef,tmps.getD v undef,tmps.getD x undef]) w:=by
 simp[results,h]
def Rk(w:World)(r:List UInt8×Nat)(e:Ending)(w':World):Prop:=
 ∃ A n c,e = .returned (.tuple #[.slice A n c,.int .i64 (r.2:Nat)])/\Own w' w.heap.size A n c r.1/\Below w.heap.size w w'
theorem aiG(num aJ:Int)(w:World)(h1 : -9223372036854775808<=num/\num<=9223372036854775807)(h2 : -9223372036854775808<=aJ/\aJ<=9223372036854775807) :
  Calls Tryz.prog 219 #[.int .i64 num,.int .i64 aJ] w (Rk w (gI num aJ)):=by
 by_cases h:NE num aJ=true
 ·have hf:gI num aJ=(dV (qL num aJ),0):=if_pos h;have h':=jb h;have HF:=Lib.hid hf;have hn:=Lib.hid (show((qL num aJ:Nat):Int)=8*num+aJ by unfold qL;omega);have hlt:=Lib.hid (show qL num aJ<18446744073709551616 by unfold qL;omega);have q1:¬num<1:=qO;have q2:¬1000<num:=qO;have q3:IntKind.i64.wrap (8*num)=8*num:=IntWalk.i64_in _ qO;have q4:IntKind.i64.wrap (8*num+aJ)=8*num+aJ:=IntWalk.i64_in _ qO;have q5:IntKind.u64.wrap (8*num+aJ)=((qL num aJ:Nat):Int):=by rw[hn.out];exact IntWalk.u64_in _ qO
  go_enter Tryz.func219,Tryz.ntmps219;have hw:=h'.2.2;clear h h' hf;rcases hw with rfl|rfl
  all_goals
   go_wp2_with fail;first
    |rw[show(8*num:Int)=((qL num 0:Nat):Int) by rw[hn.out];omega]
    |rw[<-hn.out]
   refine(aa3 _ _ hlt).mono ?_;rintro e w1 ⟨A,c,rfl,o1,b1⟩;go_wp2_with fail;go_ret2;exact⟨A,_,c,by rw[HF.out];rfl,by rw[HF.out];exact o1,b1⟩
 ·have hf:gI num aJ=([],1):=if_neg h;have h':¬(1<=num/\num<=1000/\(aJ=0\/aJ=2)):=λhh=>h (bg hh)
  go_enter Tryz.func219,Tryz.ntmps219;have G9:Rk w (gI num aJ) (.returned (.tuple #[.slice none 0 0,.int .i64 1])) w:=⟨none,0,0,by rw[hf];rfl,by rw[hf];exact atf _ _ _,Below.refl _ _⟩;clear h hf;by_cases c1:num<1
  ·clear h';go_wp2_with fail;go_ret2;exact G9
  ·by_cases c2:1000<num
   ·clear h';go_wp2_with fail;go_ret2;exact G9
   ·have c3:aJ≠0:=λe=>h' ⟨by omega,by omega,.inl e⟩
    have c4:aJ≠2:=λe=>h' ⟨by omega,by omega,.inr e⟩
    have d3:(aJ != 0)=true:=by simp[c3]
    have d4:(aJ != 2)=true:=by simp[c4]
    clear h';go_wp2_with fail;go_ret2;exact G9
theorem aaq(A:Option Addr)(b:List UInt8)(n c:Nat)(w:World)(hn:b.length=n)(hm:n<=9223372036854775807)(hA:Bs w w.heap.size A b) :
  Calls Tryz.prog 227 #[.slice A n c] w λe w'=>e = .returned (.tuple #[.int .i64 ((fP b).1:Nat),.int .i64 ((fP b).2.1:Nat),.int .i64 ((fP b).2.2.1:Nat),.int .i64 ((fP b).2.2.2:Nat)])/\w=w':=by
 have HV:=Lib.hid (UL A b n c w hn hm hA);go_enter Tryz.func227,Tryz.ntmps227;go_wp2_with fail;refine HV.out.mono ?_;rintro e w1 ⟨rfl,rfl⟩;by_cases h0:(cO b).2.2=0
 ·obtain⟨-,-,-,-,hlt,-⟩:=Ey b h0;rcases hv:cO b with ⟨v,size,er⟩
  simp only[hv]at h0 hlt ⊢;subst h0;have HT:=Lib.hid (show fP b=if 1<=v / 8/\v / 8<=1000/\(v % 8=0\/v % 8=2) then (v / 8,v % 8,size,0) else (0,0,0,6) by unfold fP;rw[hv];rfl);clear hv;by_cases hg:1<=v / 8/\v / 8<=1000/\(v % 8=0\/v % 8=2)
  ·have Zv:=(show fP b=(v / 8,v % 8,size,0) by rw[HT.out,if_pos hg]);clear HT;obtain⟨g1,g2,g3⟩:=hg;have gi:(v:Int)<=8007:=qO;rcases g3 with g3|g3
   all_goals
    rw[g3]at Zv;have HF:=Lib.hid Zv;clear Zv;have e8:(v:Int) % 8=((v % 8:Nat):Int):=qO;rw[g3]at e8;clear g3;go_wp2_with fail;refine bodyPost_ret (CO rfl _ _ _) rfl ?_;exact⟨by rw[HF.out];rfl,rfl⟩
  ·have HF:=Lib.hid (show fP b=(0,0,0,6) by rw[HT.out,if_neg hg]);clear HT;by_cases c1:v / 8<1
   ·have c1':(v:Int)<8:=qO;clear hg c1;go_wp2_with fail;refine bodyPost_ret (CO rfl _ _ _) rfl ?_;exact⟨by rw[HF.out];rfl,rfl⟩
   ·by_cases c2:1000<v / 8
    ·have c2':8008<=(v:Int):=qO;clear hg c1 c2;go_wp2_with fail;refine bodyPost_ret (CO rfl _ _ _) rfl ?_;exact⟨by rw[HF.out];rfl,rfl⟩
    ·have d3:((v:Int) % 8 != 0)=true:=by simp;omega
     have d4:((v:Int) % 8 != 2)=true:=by simp;omega
     clear hg c1 c2;go_wp2_with fail;all_goals
      refine bodyPost_ret (CO rfl _ _ _) rfl ?_;exact⟨by rw[HF.out];rfl,rfl⟩
 ·have HF:fP b=(0,0,0,(cO b).2.2):=by unfold fP;rw[if_neg h0]
  have HG:=Lib.hid HF;generalize (cO b).2.2=e2 at *;go_wp2_with fail;refine bodyPost_ret (CO rfl _ _ _) rfl ?_;exact⟨by rw[HG.out];rfl,rfl⟩
theorem ahc(b:List UInt8)(k:Nat)(h:k<b.length):jv (b.take (k+1))=jv (b.take k)+(b.getD k 0).toNat % 128*128^k:=by
 rw[List.take_succ_eq_append_getElem h,Uj,bC,dW h,dP,Nat.min_eq_left qO];simp only[jv,Option.getD_some,Nat.mul_zero,Nat.add_zero];rw[Nat.mul_comm]
theorem Zx(n:Nat):IntKind.u64.wrap (n:Int)=((n % 18446744073709551616:Nat):Int):=by
 rw[IntKind.wrap_u64];omega
theorem aou(v q k:Nat):IntKind.u64.wrap (((v % 18446744073709551616:Nat):Int)+IntKind.u64.wrap ((q:Int) % 128*2^(7*k)))=(((v+q % 128*128^k) % 18446744073709551616:Nat):Int):=by
 have e1:(2:Int)^(7*k)=((128^k:Nat):Int):=by rw[Int.pow_mul];norm_cast
 have e0:(q:Int) % 128=((q % 128:Nat):Int):=qO;rw[e1,e0,<-Int.natCast_mul,Zx,<-Int.natCast_add,Zx,<-Nat.add_mod]
theorem UY(A:Option Addr)(b:List UInt8)(n c:Nat)(w:World)(hn:b.length=n)(hnc:n<=c)(hm:n<=1000000)(hA:Bs w w.heap.size A b) :
  Calls Tryz.prog 121 #[.slice A n c] w λe w'=>e = .returned (.tuple #[.int .u64 ((cO b).1:Nat),.int .i64 ((cO b).2.1:Nat),.int .i64 ((cO b).2.2:Nat)])/\Below w.heap.size w w':=by
 have HN:=Lib.hid hn;clear hn;go_enter Tryz.func121,Tryz.ntmps121;go_wp2_with fail
 go_loop [5,6] (λa i=>∃ k v:Nat,i = .int .i64 k/\a = .int .u64 v/\k<=10/\k<=n/\Hid (v=jv (b.take k) % 18446744073709551616/\∀ i,i<k->128<=(b.getD i 0).toNat)) (λ_ i=>10-(intOf i).toNat)
 case atStart=>exact⟨0,0,rfl,rfl,by omega,by omega,Lib.hid ⟨rfl,λi hi=>au hi qO⟩⟩
 case round=>
  obtain⟨k,v,rfl,rfl,hk,hkn,hv⟩:=hrel;by_cases h10:k<10
  ·by_cases hlt:k<n
   ·have hA0:=hA;obtain⟨g,off,rfl,hg,hc⟩:=hA (by rw[HN.out];omega);have ck:=hc k (by rw[HN.out];omega);have hvs:=ahc b k (by rw[HN.out];omega);have hrg:=aou (jv (b.take k)) (b.getD k 0).toNat k;rw[<-hvs,<-hv.out.1]at hrg;have hql:=(b.getD k 0).toNat_lt;by_cases hsm:(b.getD k 0).toNat<128
    ·have afx:=Lib.hid (ahd b k (by rw[HN.out];omega) hv.out.2 hsm);have hzl:=Lib.hid (show jv (b.take (k+1)) % 18446744073709551616<18446744073709551616 from Nat.mod_lt _ qD);have hbl:=Lib.hid (show(b.take (k+1)).length=k+1 by rw[dP];have:=HN.out;omega);have s1:=Lib.hid (hA0.take (k+1));clear hc hA hA0 hvs hv;generalize jv (b.take (k+1)) % 18446744073709551616=z at *;generalize (b.getD k 0).toNat=q at *;have hkc:k+1<=c:=qO;have b0:Below w.heap.size w w.drew:=(Below.refl _ _).drew;have h0:(convert 48 9 (.slice (some ⟨g,off,none⟩) (k+1) c)).run Tryz.prog w.drew = .ok (.string (iU (b.take (k+1)))) w.drew:=conv hbl.out (s1.out.below b0)
     have hse:=str_eq (dV z) (b.take (k+1));have hi1:(0:Int)<=(k:Int)+1:=qO;have hi2:(k:Int)+1<=(c:Int):=qO;have hi3:IntKind.i64.wrap ((k:Int)+1)=(k:Int)+1:=IntWalk.i64_in _ qO;have hi4:((k:Int)+1).toNat=k+1:=qO;go_wp2_with fail;by_cases heq:dV z=b.take (k+1)
     ·have HF:=Lib.hid (show cO b=(z,k+1,0) by rw[afx.out,if_pos heq]);have hdec:(!(dV z == b.take (k+1)))=false:=by rw[nO,beq_iff_eq];exact heq
      clear heq
      go_region_with (first|(go_at_call 173;refine(PE z _ hzl).mono ?_;rintro e w1 ⟨A1,c1,rfl,o1,d1⟩;have b1:Below w.heap.size w w1:=b0.trans d1;have h1:(convert 48 9 (.slice (some ⟨g,off,none⟩) (k+1) c)).run Tryz.prog w1 = .ok (.string (iU (b.take (k+1)))) w1:=conv hbl.out (s1.out.below b1);have h2:(convert 48 9 (.slice A1 (gV z) c1)).run Tryz.prog w1 = .ok (.string (iU (dV z))) w1:=conv rfl o1.bs))
      all_goals
       go_wp2;go_ret3;exact⟨by rw[HF.out];rfl,b1⟩
     ·have HF:=Lib.hid (show cO b=(0,0,3) by rw[afx.out,if_neg heq]);have hdec:(!(dV z == b.take (k+1)))=true:=by rw[mr,beq_eq_false_iff_ne];exact heq
      clear heq
      go_region_with (first|(go_at_call 173;refine(PE z _ hzl).mono ?_;rintro e w1 ⟨A1,c1,rfl,o1,d1⟩;have b1:Below w.heap.size w w1:=b0.trans d1;have h1:(convert 48 9 (.slice (some ⟨g,off,none⟩) (k+1) c)).run Tryz.prog w1 = .ok (.string (iU (b.take (k+1)))) w1:=conv hbl.out (s1.out.below b1);have h2:(convert 48 9 (.slice A1 (gV z) c1)).run Tryz.prog w1 = .ok (.string (iU (dV z))) w1:=conv rfl o1.bs))
      all_goals
       go_wp2;go_ret3;exact⟨by rw[HF.out];rfl,b1⟩
    ·have hall:=Lib.hid (show jv (b.take (k+1)) % 18446744073709551616=jv (b.take (k+1)) % 18446744073709551616/\∀ i,i<k+1->128<=(b.getD i 0).toNat by
      refine⟨rfl,λi hi=>?_⟩;by_cases he:i=k
      ·subst he;omega
      ·exact hv.out.2 i qO)
     clear hc hA hA0 hvs;generalize hz:jv (b.take (k+1)) % 18446744073709551616=z at *;have HZ:=Lib.hid hz;clear hz;generalize (b.getD k 0).toNat=q at *;go_wp2_with fail
     go_round
     case rel=>exact⟨k+1,z,by go_num,rfl,by omega,by omega,Lib.hid ⟨HZ.out.symm,hall.out.2⟩⟩
     case measure=>simp[intOf];omega
   ·obtain rfl:k=n:=qO;have hf:=Lib.hid ((Uk b).2 ⟨λx hx=>by
     obtain⟨i,hi,rfl⟩:=List.getElem_of_mem hx;have h:=hv.out.2 i (by have:=HN.out;omega);rwa [bC,dW hi]at h,by rw[HN.out];omega⟩)
    go_wp2_with fail;go_ret3;exact⟨by rw[hf.out];rfl,Below.refl _ _⟩
  ·obtain rfl:k=10:=qO;have hf:cO b=(0,0,3):=by
    rcases KL b with h|h|h
    ·obtain⟨h1,_,h3,_,_,_,h7,_⟩:=Ey b h;have:=hv.out.2 ((cO b).2.1-1) qO;omega
    ·have:=((Uk b).1 h).2;rw[HN.out]at this;omega
    ·exact h
   have HF:=Lib.hid hf;clear hf;go_wp2_with fail;go_ret3;exact⟨by rw[HF.out];rfl,Below.refl _ _⟩
theorem ZV(b:List UInt8){num aJ size:Nat}(h:fP b=(num,aJ,size,0)):1<=size/\size<=b.length:=by
 unfold fP at h;by_cases h0:(cO b).2.2=0
 ·obtain⟨h1,h2,-⟩:=Ey b h0;rw[if_pos h0]at h;split at h
  ·simp only[Prod.mk.injEq]at h;omega
  ·simp at h
 ·rw[if_neg h0]at h;simp only[Prod.mk.injEq]at h;omega
theorem agz(g h gb off:Nat)(b:List UInt8)(n c size:Nat)(w:World)(hn:b.length=n)(hnc:n<=c)(hm:n<=9223372036854775807)(hs:size<=n)(hA:Bs w w.heap.size (some ⟨gb,off,none⟩) b)
  (hc:w.cell? ⟨g,0,none⟩=some (.slice (some ⟨gb,off,none⟩) n c)) (hk:oI w h 3 #[.int .i64 (size:Nat)]) :
  Calls Tryz.prog 228 #[.pointer (some ⟨g,0,none⟩),.pointer (some ⟨h,0,none⟩)] w λe w'=>
   e = .returned (.tuple #[.int .u64 ((cO (b.drop size)).1:Nat),.int .i64 ((cO (b.drop size)).2.2:Nat)])/\w'=w.setCell ⟨h,0,none⟩ (.int .i64 ((size+(cO (b.drop size)).2.1:Nat):Int)):=by
 have HV:=Lib.hid (λA' c' (h:Bs w w.heap.size A' (b.drop size))=>UL A' (b.drop size) (n-size) c' w (by rw[fE,hn]) qO h);have hd:=Lib.hid (hA.drop size);have he:=Lib.hid (λ(hz:n<=size) A'=>(λhl=>au hl (by rw[fE];omega):Bs w w.heap.size A' (b.drop size)));have hle:size+(cO (b.drop size)).2.1<=n:=by
  by_cases h0:(cO (b.drop size)).2.2=0
  ·obtain⟨-,h2,-⟩:=Ey _ h0;rw[fE]at h2;omega
  ·rcases KL (b.drop size) with h|h|h
   ·exact au h h0
   ·rw[h];exact hs
   ·rw[h];exact hs
 generalize cO (b.drop size)=z at *;obtain⟨z1,z2,z3⟩:=z;have hk0:=hk.cell 0;have hkf:=hk.free 0;have hsi:((size:Nat):Int)<=(n:Int):=qO;have hle2:((size:Nat):Int)+((z2:Nat):Int)<=9223372036854775807:=by simp at hle;omega
 clear hA hle;go_enter Tryz.func228,Tryz.ntmps228;go_wp2_with fail;all_goals
  refine(HV.out _ _ (by first|exact hd.out|exact he.out (by omega) _)).mono ?_;rintro e w1 ⟨rfl,rfl⟩;go_wp2_with fail;go_ret2;exact⟨rfl,rfl⟩
theorem ahm(A:Option Addr)(b:List UInt8)(n c:Nat)(w:World)(hn:b.length=n)(hnc:n<=c)(hm:n<=9223372036854775807)(hA:Bs w w.heap.size A b) :
  Calls Tryz.prog 202 #[.slice A n c] w λe w'=>e = .returned (.tuple #[.int .i64 ((pI b).1:Nat),.int .i64 ((pI b).2:Nat)])/\Below w.heap.size w w':=by
 have HS:=Lib.hid (λnum aJ size (h:fP b=(num,aJ,size,0))=>ZV b h);have HV:=Lib.hid (λw' (hb:Below w.heap.size w w')=>aaq A b n c w' hn hm ((hA.below hb).more hb.size));go_enter Tryz.func202,Tryz.ntmps202;go_wp2_with fail;refine(HV.out _ ((Below.refl _ _).alloc (bu _) _)).mono ?_;rintro e w1 ⟨rfl,rfl⟩;by_cases h0:(fP b).2.2.2=0
 ·rcases ht:fP b with ⟨num,aJ,size,er⟩
  simp only[ht]at h0 ⊢;subst h0;have HT:=Lib.hid ht;clear ht;obtain⟨s1,s2⟩:=HS.out num aJ size HT.out;have hb:0<b.length:=qO;obtain⟨gb,off,rfl,hgb,-⟩:=id hA hb;have HB:=Lib.hid hA;go_wp2_with fail;have bb:Below w.heap.size w ((w.alloc (.cells #[.slice (some ⟨gb,off,none⟩) n c] 48)).alloc (.cells #[.int .i64 size] 3)):=((Below.refl _ _).alloc (bu _) _).alloc (by simp) _;refine(agz w.heap.size (w.heap.size+1) gb off b n c size _ hn hnc hm qO ((HB.out.below bb).more bb.size) ?_ ?_).mono ?_
  ·exact(((oI.new w _ _).alloc _).cell 0)
  ·have:=oI.new (w.alloc (.cells #[.slice (some ⟨gb,off,none⟩) n c] 48)) 3 #[.int .i64 (size:Nat)];rw[World.size_alloc]at this;exact this
  rintro e w2 ⟨rfl,rfl⟩;have hk1:=oI.new (w.alloc (.cells #[.slice (some ⟨gb,off,none⟩) n c] 48)) 3 #[.int .i64 (size:Nat)];rw[World.size_alloc]at hk1;have hle:size+(cO (b.drop size)).2.1<=n:=by
   by_cases h0:(cO (b.drop size)).2.2=0
   ·obtain⟨-,h2,-⟩:=Ey _ h0;rw[fE]at h2;omega
   ·rcases KL (b.drop size) with h|h|h
    ·exact au h h0
    ·rw[h];simp;omega
    ·rw[h];simp;omega
  rcases hz:cO (b.drop size) with ⟨z1,z2,z3⟩
  simp only[hz]at hle ⊢;have bb2:Below w.heap.size w ((w.alloc (.cells #[.slice (some ⟨gb,off,none⟩) n c] 48)).alloc (.cells #[.int .i64 ((size:Int)+(z2:Int))] 3)):=((Below.refl _ _).alloc (bu _) _).alloc (by simp) _;have hk2:=(hk1.set 0 (.int .i64 ((size:Int)+(z2:Int)))).cell 0;have HZ:=Lib.hid hz;clear hz hk1;have HF:=Lib.hid (show pI b=if z3=0 then (if aJ=0 then (size+z2,0) else if 16384<z1 then (0,4) else if b.length-(size+z2)<z1 then (0,2) else (size+z2+z1,0)) else (0,z3) by unfold pI;simp only[HT.out,HZ.out];simp);by_cases e0:z3=0
  ·subst e0;by_cases w0:aJ=0
   ·subst w0;go_wp2_with fail;go_ret2;exact⟨by rw[HF.out];rfl,bb2⟩
   ·have w1:((aJ:Int) == 0)=false:=by simp;omega
    by_cases g1:16384<z1
    ·have HF2:=Lib.hid (show pI b=(0,4) by rw[HF.out];simp[w0,g1]);have g2:(16384:Int)<(z1:Int):=qO;clear g1 w0;go_wp2_with fail;go_ret2;exact⟨by rw[HF2.out];rfl,bb2⟩
    ·have g2:(z1:Int)<=16384:=qO;by_cases g3:b.length-(size+z2)<z1
     ·have HF2:=Lib.hid (show pI b=(0,2) by rw[HF.out];simp[w0,g1,g3]);have g4:(n:Int)-((size:Int)+(z2:Int))<(z1:Int):=qO;clear g1 w0 g3;go_wp2_with fail;go_ret2;exact⟨by rw[HF2.out];rfl,bb2⟩
     ·have HF2:=Lib.hid (show pI b=(size+z2+z1,0) by rw[HF.out];simp[w0,g1,g3]);have g4:(z1:Int)<=(n:Int)-((size:Int)+(z2:Int)):=qO;clear g1 w0 g3;go_wp2_with fail;go_ret2;exact⟨by rw[HF2.out];rfl,bb2⟩
  ·have HF2:=Lib.hid (show pI b=(0,z3) by rw[HF.out,if_neg e0]);go_wp2_with fail;go_ret2;exact⟨by rw[HF2.out];rfl,bb2⟩
 ·have HG:=Lib.hid (show pI b=(0,(fP b).2.2.2) by unfold pI;simp only[];rw[if_neg h0]);generalize (fP b).2.2.2=e2 at *;go_wp2_with fail;go_ret2;exact⟨by rw[HG.out];rfl,((Below.refl w.heap.size w).alloc (bu _) _).alloc (by simp) _⟩
theorem UX(num aJ:Int)(w:World)(h1 : -9223372036854775808<=num/\num<=9223372036854775807)(h2 : -9223372036854775808<=aJ/\aJ<=9223372036854775807) :
  Calls Tryz.prog 172 #[.int .i64 num,.int .i64 aJ] w (Rk w (gI num aJ)):=by
 by_cases h:NE num aJ=true
 ·have hf:gI num aJ=(dV (qL num aJ),0):=if_pos h;have h':=jb h;have HF:=Lib.hid hf;have hn:=Lib.hid (show((qL num aJ:Nat):Int)=8*num+aJ by unfold qL;omega);have hlt:=Lib.hid (show qL num aJ<18446744073709551616 by unfold qL;omega);have q1:¬num<1:=qO;have q2:¬1000<num:=qO;have q3:IntKind.i64.wrap (8*num)=8*num:=IntWalk.i64_in _ qO;have q4:IntKind.i64.wrap (8*num+aJ)=8*num+aJ:=IntWalk.i64_in _ qO;have q5:IntKind.u64.wrap (8*num+aJ)=((qL num aJ:Nat):Int):=by rw[hn.out];exact IntWalk.u64_in _ qO
  go_enter Tryz.func172,Tryz.ntmps172;have hw:=h'.2.2;clear h h' hf;rcases hw with rfl|rfl
  all_goals
   go_wp2_with fail;first
    |rw[show(8*num:Int)=((qL num 0:Nat):Int) by rw[hn.out];omega]
    |rw[<-hn.out]
   refine(PE _ _ hlt).mono ?_;rintro e w1 ⟨A,c,rfl,o1,b1⟩;go_wp2_with fail;go_ret2;exact⟨A,_,c,by rw[HF.out];rfl,by rw[HF.out];exact o1,b1⟩
 ·have hf:gI num aJ=([],1):=if_neg h;have h':¬(1<=num/\num<=1000/\(aJ=0\/aJ=2)):=λhh=>h (bg hh)
  go_enter Tryz.func172,Tryz.ntmps172;have G9:Rk w (gI num aJ) (.returned (.tuple #[.slice none 0 0,.int .i64 1])) w:=⟨none,0,0,by rw[hf];rfl,by rw[hf];exact atf _ _ _,Below.refl _ _⟩;clear h hf;by_cases c1:num<1
  ·clear h';go_wp2_with fail;go_ret2;exact G9
  ·by_cases c2:1000<num
   ·clear h';go_wp2_with fail;go_ret2;exact G9
   ·have c3:aJ≠0:=λe=>h' ⟨by omega,by omega,.inl e⟩
    have c4:aJ≠2:=λe=>h' ⟨by omega,by omega,.inr e⟩
    have d3:(aJ != 0)=true:=by simp[c3]
    have d4:(aJ != 2)=true:=by simp[c4]
    clear h';go_wp2_with fail;go_ret2;exact G9
theorem Z4(A:Option Addr)(b:List UInt8)(n c:Nat)(w:World)(hn:b.length=n)(hnc:n<=c)(hm:n<=1000000)(hA:Bs w w.heap.size A b) :
  Calls Tryz.prog 120 #[.slice A n c] w λe w'=>e = .returned (.tuple #[.int .i64 ((fP b).1:Nat),.int .i64 ((fP b).2.1:Nat),.int .i64 ((fP b).2.2.1:Nat),.int .i64 ((fP b).2.2.2:Nat)])/\Below w.heap.size w w':=by
 have HV:=Lib.hid (UY A b n c w hn hnc hm hA);go_enter Tryz.func120,Tryz.ntmps120;go_wp2_with fail;refine HV.out.mono ?_;rintro e w1 ⟨rfl,b1⟩;by_cases h0:(cO b).2.2=0
 ·obtain⟨-,-,-,-,hlt,-⟩:=Ey b h0;rcases hv:cO b with ⟨v,size,er⟩
  simp only[hv]at h0 hlt ⊢;subst h0;have HT:=Lib.hid (show fP b=if 1<=v / 8/\v / 8<=1000/\(v % 8=0\/v % 8=2) then (v / 8,v % 8,size,0) else (0,0,0,6) by unfold fP;rw[hv];rfl);clear hv;by_cases hbig:8008<=v
  ·have HF:=Lib.hid (show fP b=(0,0,0,6) by rw[HT.out,if_neg qO]);have hb2:(8008:Int)<=(v:Int):=qO;clear HT hbig;go_wp2_with fail;refine bodyPost_ret (CO rfl _ _ _) rfl ?_;exact⟨by rw[HF.out];rfl,b1⟩
  ·have hb2:(v:Int)<8008:=qO;clear hbig;have f1:IntKind.i64.wrap ((v:Int) / 8)=(v:Int) / 8:=IntWalk.i64_in _ qO;have f2:IntKind.i64.wrap ((v:Int) % 8)=(v:Int) % 8:=IntWalk.i64_in _ qO;have HP:=Lib.hid (λw=>UX ((v:Int) / 8) ((v:Int) % 8) w qO qO);by_cases hg:NE ((v:Int) / 8) ((v:Int) % 8)=true
   ·have hp':(gI ((v:Int) / 8) ((v:Int) % 8)).2=0:=by unfold gI;rw[if_pos hg]
    have hp:=Lib.hid hp';clear hp';have HF:=Lib.hid (show fP b=(v / 8,v % 8,size,0) by rw[HT.out,if_pos (by have:=jb hg;omega)]);clear HT hg;go_wp2_with fail;refine(HP.out _).mono ?_;rintro e w2 ⟨A2,n2,c2,rfl,o2,b2⟩;rw[hp.out];go_wp2_with fail;refine bodyPost_ret (CO rfl _ _ _) rfl ?_;exact⟨by rw[HF.out];rfl,b1.trans (b2.mono b1.size)⟩
   ·have hp':(gI ((v:Int) / 8) ((v:Int) % 8)).2=1:=by unfold gI;rw[if_neg hg]
    have hp:=Lib.hid hp';clear hp';have HF:=Lib.hid (show fP b=(0,0,0,6) by rw[HT.out,if_neg (λh=>hg (bg qO))]);clear HT hg;go_wp2_with fail;refine(HP.out _).mono ?_;rintro e w2 ⟨A2,n2,c2,rfl,o2,b2⟩;rw[hp.out];go_wp2_with fail;refine bodyPost_ret (CO rfl _ _ _) rfl ?_;exact⟨by rw[HF.out];rfl,b1.trans (b2.mono b1.size)⟩
 ·have HG:=Lib.hid (show fP b=(0,0,0,(cO b).2.2) by unfold fP;rw[if_neg h0]);generalize (cO b).2.2=e2 at *;go_wp2_with fail;refine bodyPost_ret (CO rfl _ _ _) rfl ?_;exact⟨by rw[HG.out];rfl,b1⟩
theorem agH(A:Option Addr)(b:List UInt8)(n c:Nat)(w:World)(hn:b.length=n)(hnc:n<=c)(hm:n<=1000000)(hA:Bs w w.heap.size A b) :
  Calls Tryz.prog 119 #[.slice A n c] w λe w'=>e = .returned (.tuple #[.int .i64 ((pI b).1:Nat),.int .i64 ((pI b).2:Nat)])/\Below w.heap.size w w':=by
 have HV:=Lib.hid (Z4 A b n c w hn hnc hm hA);have HS:=Lib.hid (λnum aJ size (h:fP b=(num,aJ,size,0))=>ZV b h);go_enter Tryz.func119,Tryz.ntmps119;go_wp2_with fail;refine HV.out.mono ?_;rintro e w1 ⟨rfl,b1⟩;by_cases h0:(fP b).2.2.2=0
 ·rcases ht:fP b with ⟨num,aJ,size,er⟩
  simp only[ht]at h0 ⊢;subst h0;have HT:=Lib.hid ht;clear ht;obtain⟨s1,s2⟩:=HS.out num aJ size HT.out;have hb:0<b.length:=qO;obtain⟨gb,off,rfl,hgb,-⟩:=id hA hb;have hA1:=(hA.below b1).more b1.size;have HR:=Lib.hid (λA' c' (h:Bs w1 w1.heap.size A' (b.drop size)) (hc':n-size<=c')=>UY A' (b.drop size) (n-size) c' w1 (by rw[fE,hn]) hc' qO h);have hd:=Lib.hid (hA1.drop size);have he:=Lib.hid (λ(hz:n<=size) A'=>(λhl=>au hl (by rw[fE];omega):Bs w1 w1.heap.size A' (b.drop size)));have hle:size+(cO (b.drop size)).2.1<=n:=by
   by_cases h0:(cO (b.drop size)).2.2=0
   ·obtain⟨-,h2,-⟩:=Ey _ h0;rw[fE]at h2;omega
   ·rcases KL (b.drop size) with h|h|h
    ·exact au h h0
    ·rw[h];simp;omega
    ·rw[h];simp;omega
  have s2i:(size:Int)<=(n:Int):=qO;rcases hz:cO (b.drop size) with ⟨z1,z2,z3⟩
  simp only[hz]at hle HR;have HZ:=Lib.hid hz;clear hz hA hA1 hgb hb;have HF:=Lib.hid (show pI b=if z3=0 then (if aJ=0 then (size+z2,0) else if 16384<z1 then (0,4) else if b.length-(size+z2)<z1 then (0,2) else (size+z2+z1,0)) else (0,z3) by unfold pI;simp only[HT.out,HZ.out];simp);have fin:∀ w2,Below w1.heap.size w1 w2->Below w.heap.size w w2:=λw2 h=>b1.trans (h.mono b1.size)
  have FIN:=Lib.hid fin;clear fin;go_wp2_with fail;all_goals
   refine(HR.out _ _ (by first|exact hd.out|exact he.out (by omega) _) (by omega)).mono ?_;rintro e w2 ⟨rfl,b2⟩;by_cases e0:z3=0
   ·subst e0;by_cases w0:aJ=0
    ·subst w0;go_wp2_with fail;go_ret2;exact⟨by rw[HF.out];rfl,FIN.out _ b2⟩
    ·have w1:((aJ:Int) == 0)=false:=by simp;omega
     by_cases g1:16384<z1
     ·have HF2:=Lib.hid (show pI b=(0,4) by rw[HF.out];simp[w0,g1]);have g2:(16384:Int)<(z1:Int):=qO;clear g1 w0;go_wp2_with fail;go_ret2;exact⟨by rw[HF2.out];rfl,FIN.out _ b2⟩
     ·have g2:(z1:Int)<=16384:=qO;by_cases g3:b.length-(size+z2)<z1
      ·have HF2:=Lib.hid (show pI b=(0,2) by rw[HF.out];simp[w0,g1,g3]);have g4:(n:Int)-(size:Int)-(z2:Int)<(z1:Int):=qO;clear g1 w0 g3;go_wp2_with fail;go_ret2;exact⟨by rw[HF2.out];rfl,FIN.out _ b2⟩
      ·have HF2:=Lib.hid (show pI b=(size+z2+z1,0) by rw[HF.out];simp[w0,g1,g3]);have g4:(z1:Int)<=(n:Int)-(size:Int)-(z2:Int):=qO;clear g1 w0 g3;go_wp2_with fail;go_ret2;exact⟨by rw[HF2.out];rfl,FIN.out _ b2⟩
   ·have HF2:=Lib.hid (show pI b=(0,z3) by rw[HF.out,if_neg e0]);go_wp2_with fail;go_ret2;exact⟨by rw[HF2.out];rfl,FIN.out _ b2⟩
 ·have HG:=Lib.hid (show pI b=(0,(fP b).2.2.2) by unfold pI;simp only[];rw[if_neg h0]);generalize (fP b).2.2.2=e2 at *;go_wp2_with fail;go_ret2;exact⟨by rw[HG.out];rfl,b1⟩
end Go.Proofs.YtnibdnahojjcgaaGreat
