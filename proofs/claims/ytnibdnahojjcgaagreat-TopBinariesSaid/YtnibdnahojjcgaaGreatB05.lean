/- A part of the proof. -/
import Derived.Below
import Derived.IntWalk
import Derived.Lib.Hide
import Derived.Test.YtnibdnahojjcgaaGreatB01
namespace Go.Proofs.YtnibdnahojjcgaaGreat
set_option maxRecDepth 100000
set_option maxHeartbeats 16000000
set_option linter.unusedVariables false
set_option linter.unusedSimpArgs false
open Go.RowKit
def jE(n:Nat):UInt8:=UInt8.ofNat n
theorem xA(n:Nat):(jE n).toNat=n % 256:=by unfold jE;rw[UInt8.toNat_ofNat']
theorem VV{n:Nat}{b:UInt8}(h:n % 256=b.toNat):jE n=b:=UInt8.toNat_inj.1 (by rw[xA,h])
def tH:Nat->Nat->List UInt8
 |0,n=>[jE n]
 |f+1,n=>if n<128 then [jE n] else jE (n % 128+128)::tH f (n / 128)
def dV(n:Nat):List UInt8:=tH 9 n
def gV(n:Nat):Nat:=(dV n).length
theorem agy(f:Nat):∀(g n:Nat),n<128^(f+1)->f<=g->tH f n=tH g n:=by
 induction f with
 |zero=>
  intro g n h _;cases g with
  |zero=>rfl
  |succ g=>unfold tH;rw[if_pos (by simpa using h)]
 |succ f ih=>
  intro g n h hg;cases g with
  |zero=>omega
  |succ g=>
   unfold tH;by_cases hn:n<128
   ·rw[if_pos hn,if_pos hn]
   ·rw[if_neg hn,if_neg hn,ih g (n / 128) (by rw[Nat.pow_succ]at h;exact Nat.div_lt_of_lt_mul (by rw[Nat.mul_comm];exact h)) qO]
theorem CQ(n:Nat)(h:n<128):dV n=[jE n]:=by unfold dV tH;rw[if_pos h]
theorem PQ(n:Nat)(h:¬n<128)(jQ:n<18446744073709551616):dV n=jE (n % 128+128)::dV (n / 128):=by
  conv=>lhs;unfold dV tH
  rw[if_neg h];congr 1;exact agy 8 9 (n / 128) (by have:(128:Nat)^(8+1)=9223372036854775808:=qD;omega) qO
theorem V4(n:Nat):0<(dV n).length:=by
 unfold dV tH;split <;> simp
theorem aiA(f:Nat):∀ n,(tH f n).length<=f+1:=by
 induction f with
 |zero=>intro n;exact bu _
 |succ f ih=>
  intro n;unfold tH;split
  ·simp
  ·rw[ny];have:=ih (n / 128);omega
theorem Ez(n:Nat):gV n<=10:=aiA 9 n
theorem Ep(n:Nat)(h:n<128):gV n=1:=by unfold gV;rw[CQ n h];rfl
theorem KO(n:Nat)(h:¬n<128)(jQ:n<18446744073709551616):gV n=gV (n / 128)+1:=by unfold gV;rw[PQ n h jQ];rfl
theorem KN(n:Nat):1<=gV n:=V4 n
theorem ahg(k:Nat):∀ n,n<18446744073709551616->k<gV n->(dV n).getD k 0=if k+1=gV n then jE (n / 128^k) else jE (n / 128^k % 128+128):=by
 induction k with
 |zero=>
  intro n jQ hk;by_cases hn:n<128
  ·rw[Ep n hn,if_pos rfl,CQ n hn];simp
  ·have h1:=KO n hn jQ;have h2:=KN (n / 128);rw[if_neg qO,PQ n hn jQ];simp
 |succ k ih=>
  intro n jQ hk;by_cases hn:n<128
  ·rw[Ep n hn]at hk;omega
  ·have h1:=KO n hn jQ;have hi:=ih (n / 128) qO qO;rw[PQ n hn jQ,List.getD_cons_succ,hi,h1,Nat.div_div_eq_div_mul,Nat.mul_comm 128,<-Nat.pow_succ];by_cases he:k+1=gV (n / 128)
   ·rw[if_pos he,if_pos qO]
   ·rw[if_neg he,if_neg qO]
theorem ZU(k:Nat):∀ n,n<18446744073709551616->(n / 128^k<128↔gV n<=k+1):=by
 induction k with
 |zero=>
  intro n jQ;rw[Nat.pow_zero,Nat.div_one];constructor
  ·intro h;rw[Ep n h];omega
  ·intro h;by_cases hn:n<128
   ·exact hn
   ·have h1:=KO n hn jQ;have h2:=KN (n / 128);omega
 |succ k ih=>
  intro n jQ;have hi:=ih (n / 128) qO;rw[Nat.div_div_eq_div_mul,Nat.mul_comm 128,<-Nat.pow_succ]at hi;rw[hi];by_cases hn:n<128
  ·rw[Ep n hn,Ep (n / 128) qO];omega
  ·rw[KO n hn jQ];omega
def jv:List UInt8->Nat
 |[]=>0
 |b::l=>b.toNat % 128+128*jv l
theorem Uj(a b:List UInt8):jv (a++b)=jv a+128^a.length*jv b:=by
 induction a with
 |nil=>simp[jv]
 |cons x a ih=>
  rw[List.cons_append,jv,ih,jv,ny,Nat.pow_succ,Nat.mul_add,<-Nat.mul_assoc,Nat.mul_comm 128 (128^a.length)];omega
theorem ak2(a:List UInt8):jv a<128^a.length:=by
 induction a with
 |nil=>simp[jv]
 |cons x a ih=>
  rw[jv,ny,Nat.pow_succ];omega
theorem apW:(128:Nat)^10=1180591620717411303424:=by decide
def vt(at_ n:Nat):List UInt8->Nat×Nat×Nat
 |[]=>(0,0,2)
 |c::r=>if (0<at_/\c.toNat=0)\/(at_=9/\1<c.toNat) then (0,0,3) else if c.toNat<128 then (n+c.toNat*128^at_,at_+1,0) else vt (at_+1) (n+(c.toNat-128)*128^at_) r
def cO(b:List UInt8):Nat×Nat×Nat:=vt 0 0 b
theorem an1(l:List UInt8):∀ k n,(vt k n l).2.2=0\/vt k n l=(0,0,2)\/vt k n l=(0,0,3):=by
 induction l with
 |nil=>intro k n;exact .inr (.inl rfl)
 |cons c r ih=>
  intro k n;unfold vt;split
  ·exact .inr (.inr rfl)
  ·split
   ·exact .inl rfl
   ·exact ih _ _
theorem apn(l:List UInt8):∀(k n:Nat),k<=9->(vt k n l).2.2=0->∃ m,k+m+1=(vt k n l).2.1/\k+m<=9/\m<l.length/\(∀ i,i<m->128<=(l.getD i 0).toNat)/\(l.getD m 0).toNat<128/\(0<k+m->0<(l.getD m 0).toNat)/\(k+m=9->(l.getD m 0).toNat<=1)/\(vt k n l).1=n+jv (l.take (m+1))*128^k:=by
 induction l with
 |nil=>intro k n _ h;simp[vt]at h
 |cons c r ih=>
  intro k n hk h;unfold vt at h ⊢;by_cases hc:(0<k/\c.toNat=0)\/(k=9/\1<c.toNat)
  ·rw[if_pos hc]at h;simp at h
  ·rw[if_neg hc]at h ⊢;by_cases hs:c.toNat<128
   ·rw[if_pos hs];refine⟨0,by simp,by omega,by simp,by simp,by simpa using hs,by simp;omega,by simp;omega,?_⟩;simp only[List.take_succ_cons,List.take_zero,jv,Nat.mod_eq_of_lt hs];simp
   ·rw[if_neg hs]at h ⊢;have hcl:=c.toNat_lt;have hk9:k≠9:=qO;obtain⟨m,h1,h2,h3,h4,h5,h6,h7,h8⟩:=ih (k+1) (n+(c.toNat-128)*128^k) qO h;refine⟨m+1,by omega,by omega,by rw[ny];omega,?_,by simpa using h5,?_,?_,?_⟩
    ·intro i hi;cases i with
     |zero=>simp;omega
     |succ i=>simpa using h4 i qO
    ·intro _;simpa using h6 qO
    ·intro h9;simpa using h7 qO
    ·rw[h8];simp only[List.take_succ_cons,jv];have:c.toNat % 128=c.toNat-128:=qO;rw[this,Nat.pow_succ,Nat.add_mul];have e:128*jv (r.take (m+1))*128^k=jv (r.take (m+1))*(128^k*128):=by
      rw[Nat.mul_comm (128^k) 128,<-Nat.mul_assoc,Nat.mul_comm 128]
     omega
theorem ak4(p:List UInt8):∀(q:UInt8),(∀ b∈p,128<=b.toNat)->q.toNat<128->(p≠[]->0<q.toNat)->∀ f,p.length<=f->tH f (jv (p++[q]))=p++[q]:=by
 induction p with
 |nil=>
  intro q _ hq _ f _;simp only[List.nil_append,jv,Nat.mod_eq_of_lt hq];have e:jE (q.toNat+128*0)=q:=VV (by have:=q.toNat_lt;omega);cases f with
  |zero=>unfold tH;rw[e]
  |succ f=>unfold tH;rw[if_pos qO,e]
 |cons b p ih=>
  intro q hb hq h0 f hf;cases f with
  |zero=>simp at hf
  |succ f=>
   have hbb:=hb b jC;have hbl:=b.toNat_lt;have hq0:=h0 (by simp);have hi:=ih q (λx hx=>hb x (je _ hx)) hq (λ_=>hq0) f (by simp at hf;omega);have hpos:0<jv (p++[q]):=by
    rw[Uj];have h1:jv [q]=q.toNat:=by simp only[jv];omega
    rw[h1];have h2:0<128^p.length*q.toNat:=Nat.mul_pos (Nat.pos_of_ne_zero (by simp)) hq0;omega
   rw[List.cons_append,jv];unfold tH;rw[if_neg qO];have e1:(b.toNat % 128+128*jv (p++[q])) / 128=jv (p++[q]):=qO;have e2:jE ((b.toNat % 128+128*jv (p++[q])) % 128+128)=b:=VV qO;rw[e1,hi,e2]
theorem Yu:(128:Nat)^9=9223372036854775808:=by decide
theorem Ey(b:List UInt8)(h:(cO b).2.2=0) :
  1<=(cO b).2.1/\(cO b).2.1<=b.length/\(cO b).2.1<=10/\dV (cO b).1=b.take (cO b).2.1/\(cO b).1<18446744073709551616/\(∀ i,i+1<(cO b).2.1->128<=(b.getD i 0).toNat)/\(b.getD ((cO b).2.1-1) 0).toNat<128/\(cO b).1=jv (b.take (cO b).2.1):=by
 obtain⟨m,h1,h2,h3,h4,h5,h6,h7,h8⟩:=apn b 0 0 qO h;have e1:(cO b).2.1=m+1:=by unfold cO;omega
 have e2:(cO b).1=jv (b.take (m+1)):=by unfold cO;rw[h8];simp
 have hsplit:b.take (m+1)=b.take m++[b.getD m 0]:=by
  rw[List.take_succ_eq_append_getElem h3,bC,dW h3];rfl
 have hall:∀ x∈b.take m,128<=x.toNat:=by
  intro x hx;obtain⟨i,hi,rfl⟩:=List.getElem_of_mem hx;have hi':i<m:=by rw[dP]at hi;omega
  have:=h4 i hi';rw[bC,dW qO]at this;rw[List.getElem_take];exact this
 have hne:b.take m≠[]->0<(b.getD m 0).toNat:=by
  intro hn;apply h6;rcases uz m with h0|h0
  ·rw[h0]at hn;simp at hn
  ·omega
 have hp:=ak4 (b.take m) (b.getD m 0) hall h5 hne 9 (by rw[dP];omega);rw[e1,e2];refine⟨by omega,by omega,by omega,?_,?_,λi hi=>h4 i qO,by rw[Nat.add_sub_cancel];exact h5,rfl⟩
 ·rw[hsplit];exact hp
 ·rw[hsplit,Uj];have hv:=ak2 (b.take m);have hml:(b.take m).length=m:=by rw[dP];omega
  rw[hml]at hv ⊢;have hq:jv [b.getD m 0]=(b.getD m 0).toNat:=by simp only[jv];omega
  rw[hq];by_cases h9:m=9
  ·subst h9;have:=h7 qO;rw[Yu]at hv ⊢;omega
  ·have TW:128^m<=128^8:=Nat.pow_le_pow_right qO qO;have e8:(128:Nat)^8=72057594037927936:=by decide
   rw[e8]at TW;have h128:128^m*(b.getD m 0).toNat<=72057594037927936*127:=Nat.mul_le_mul TW qO;omega
theorem an0(f:Nat):∀(k acc n:Nat) (r:List UInt8),n<128^(f+1)->k+f<=9->(0<k->0<n)->n*128^k<18446744073709551616->vt k acc (tH f n++r)=(acc+n*128^k,k+(tH f n).length,0):=by
 have key:∀(k acc n:Nat) (r:List UInt8),n<128->(0<k->0<n)->n*128^k<18446744073709551616->vt k acc ([jE n]++r)=(acc+n*128^k,k+1,0):=by
  intro k acc n r hn h0 jQ;have hb:(jE n).toNat=n:=by rw[xA];omega
  simp only[List.cons_append,List.nil_append,vt,hb];rw[if_neg,if_pos hn];intro h;rcases h with ⟨h1,h2⟩|⟨h1,h2⟩
  ·have:=h0 h1;omega
  ·subst h1;rw[Yu]at jQ;omega
 induction f with
 |zero=>intro k acc n r hn _ h0 jQ;exact key k acc n r (by simpa using hn) h0 jQ
 |succ f ih=>
  intro k acc n r hn hkf h0 jQ;unfold tH;by_cases hs:n<128
  ·rw[if_pos hs];exact key k acc n r hs h0 jQ
  ·rw[if_neg hs];have hb:(jE (n % 128+128)).toNat=n % 128+128:=by rw[xA];omega
   simp only[List.cons_append,vt,hb];rw[if_neg qO,if_neg qO];have hd:n / 128*128^(k+1)+n % 128*128^k=n*128^k:=by
    rw[Nat.pow_succ,Nat.mul_comm (128^k) 128,<-Nat.mul_assoc,<-Nat.add_mul];congr 1;omega
   rw[ih (k+1) _ (n / 128) r (by rw[Nat.pow_succ]at hn;exact Nat.div_lt_of_lt_mul (by rw[Nat.mul_comm];exact hn)) qO (λ_=>by omega) qO];rw[Nat.add_sub_cancel,ny];simp only[Prod.mk.injEq,and_true];omega
theorem wo(n:Nat)(r:List UInt8)(h:n<18446744073709551616):cO (dV n++r)=(n,gV n,0):=by
 unfold cO dV;rw[an0 9 0 0 n r (by rw[apW];omega) qO qO qO];simp[gV,dV]
theorem aiz(l:List UInt8):∀ k n,k<=9->(vt k n l=(0,0,2)↔(∀ c∈l,128<=c.toNat)/\k+l.length<10):=by
 induction l with
 |nil=>intro k n hk;simp[vt];omega
 |cons c r ih=>
  intro k n hk;have hcl:=c.toNat_lt;unfold vt;by_cases hc:(0<k/\c.toNat=0)\/(k=9/\1<c.toNat)
  ·rw[if_pos hc];simp only[Prod.mk.injEq,ny];constructor
   ·intro h;omega
   ·rintro⟨h1,h2⟩;have:=h1 c jC;omega
  ·rw[if_neg hc];by_cases hs:c.toNat<128
   ·rw[if_pos hs];constructor
    ·intro h;simp at h
    ·rintro⟨h1,h2⟩;have:=h1 c jC;omega
   ·rw[if_neg hs,ih (k+1) _ qO];constructor
    ·rintro⟨h1,h2⟩;refine⟨λx hx=>?_,by rw[ny];omega⟩;rcases List.mem_cons.1 hx with rfl|hx
     ·omega
     ·exact h1 x hx
    ·rintro⟨h1,h2⟩;exact⟨λx hx=>h1 x (je _ hx),by rw[ny]at h2;omega⟩
theorem Uk(b:List UInt8):cO b=(0,0,2)↔(∀ c∈b,128<=c.toNat)/\b.length<10:=by
 have h:=aiz b 0 0 qO;rw[jm]at h;exact h
theorem KL(b:List UInt8):(cO b).2.2=0\/cO b=(0,0,2)\/cO b=(0,0,3):=an1 b 0 0
theorem ahd(b:List UInt8)(m:Nat)(hm:m<b.length)(hall:∀ i,i<m->128<=(b.getD i 0).toNat)(hs:(b.getD m 0).toNat<128) :
  cO b=if dV (jv (b.take (m+1)) % 18446744073709551616)=b.take (m+1) then (jv (b.take (m+1)) % 18446744073709551616,m+1,0) else (0,0,3):=by
 have hlt:jv (b.take (m+1)) % 18446744073709551616<18446744073709551616:=Nat.mod_lt _ qO;by_cases he:dV (jv (b.take (m+1)) % 18446744073709551616)=b.take (m+1)
 ·rw[if_pos he];have h:=wo (jv (b.take (m+1)) % 18446744073709551616) (b.drop (m+1)) hlt;rw[he,List.take_append_drop]at h;have hsz:gV (jv (b.take (m+1)) % 18446744073709551616)=m+1:=by
   unfold gV;rw[he,dP];omega
  rw[h,hsz]
 ·rw[if_neg he];rcases KL b with h|h|h
  ·exfalso;obtain⟨h1,h2,h3,h4,h5,h6,h7,h8⟩:=Ey b h;have e:(cO b).2.1=m+1:=by
    rcases Nat.lt_trichotomy ((cO b).2.1) (m+1) with hl|hl|hl
    ·have:=hall ((cO b).2.1-1) qO;omega
    ·exact hl
    ·have:=h6 m qO;omega
   rw[e]at h4 h8;rw[h8]at h4 h5;rw[Nat.mod_eq_of_lt h5]at he;exact he h4
  ·exfalso;have:=((Uk b).1 h).1 (b.getD m 0) (by rw[bC,dW hm];exact List.getElem_mem hm);omega
  ·exact h
def yz(n k:Nat):List UInt8:=(List.range k).map (λi=>jE (n / 128^i % 128+128))
theorem Gl(n k:Nat):(yz n k).length=k:=by simp[yz]
theorem ajN(n k:Nat):yz n (k+1)=yz n k++[jE (n / 128^k % 128+128)]:=by unfold yz;rw[List.range_succ,List.map_append];rfl
theorem ab1(n k i:Nat)(h:i<k):(yz n k)[i]?=some (jE (n / 128^i % 128+128)):=by simp[yz,h]
theorem am7(n k r:Nat):(yz n k++List.replicate (r+1) 0).set k (jE (n / 128^k % 128+128))=yz n (k+1)++List.replicate r 0:=by
 rw[List.set_append_right _ _ (by rw[Gl];omega),Gl,Nat.sub_self,List.replicate_succ,List.set_cons_zero,ajN,kE];rfl
theorem ajM(n s:Nat)(h:n<18446744073709551616)(hs:gV n=s+1):(yz n (s+1)).set s (jE (n / 128^s % 128))=dV n:=by
 refine List.ext_getElem? λi=>?_
 have hl:(dV n).length=s+1:=hs;have hlast:=(ZU s n h).2 qO;by_cases hi:i<s+1
 ·have hg:=ahg i n h qO;rw[bC,dW qO,Option.getD_some]at hg;rw[dW (show i<(dV n).length by omega),hg,hs];by_cases he:i=s
  ·subst he;rw[List.getElem?_set_self (by rw[Gl];omega),if_pos rfl,Nat.mod_eq_of_lt hlast]
  ·rw[List.getElem?_set_ne qO,ab1 _ _ _ hi,if_neg qO]
 ·rw[List.getElem?_eq_none (by rw[oK,Gl];omega),List.getElem?_eq_none qO]
structure aT where
 kind:Int
 a:Int
 b:Int
 x:List UInt8
structure Kd where
 least:Int
 dK:Int
 second:Bool
 RI:Int
 RH:Nat
def kd(k:Int):Kd:=if k=1 then ⟨1,3,false,0,0⟩ else if k=2 then ⟨0,1048576,true,5,0⟩ else if k=3 then ⟨1,64,true,1048576,200⟩ else if k=4 then ⟨1,64,false,0,0⟩ else ⟨0,0,false,0,0⟩
def iR(r:aT):Bool:=decide (1<=r.kind/\r.kind<=4/\(kd r.kind).least<=r.a/\r.a<=(kd r.kind).dK/\0<=r.b/\r.b<=(kd r.kind).RI/\r.x.length<=(kd r.kind).RH)
def mQ(r:aT):List UInt8:=[jE r.kind.toNat]++dV r.a.toNat++(if (kd r.kind).second=true then dV r.b.toNat else [])++r.x
theorem yH{r:aT}(h:iR r=true):1<=r.kind/\r.kind<=4/\(kd r.kind).least<=r.a/\r.a<=(kd r.kind).dK/\0<=r.b/\r.b<=(kd r.kind).RI/\r.x.length<=(kd r.kind).RH:=by
 unfold iR at h;exact jb h
theorem ajG{k:Int}(h1:1<=k)(h2:k<=4):(k=1/\kd k=⟨1,3,false,0,0⟩)\/(k=2/\kd k=⟨0,1048576,true,5,0⟩)\/(k=3/\kd k=⟨1,64,true,1048576,200⟩)\/(k=4/\kd k=⟨1,64,false,0,0⟩):=by
 rcases(show k=1\/k=2\/k=3\/k=4 by omega) with h|h|h|h <;> subst h
 ·exact .inl ⟨rfl,rfl⟩
 ·exact .inr (.inl ⟨rfl,rfl⟩)
 ·exact .inr (.inr (.inl ⟨rfl,rfl⟩))
 ·exact .inr (.inr (.inr ⟨rfl,rfl⟩))
theorem zT{r:aT}(h:iR r=true):0<=r.a/\r.a<=1048576/\0<=r.b/\r.b<=1048576/\r.x.length<=200/\((kd r.kind).second=false->r.b=0/\r.x=[])/\(r.kind≠3->r.x=[]):=by
 obtain⟨h1,h2,h3,h4,h5,h6,h7⟩:=yH h;rcases ajG h1 h2 with ⟨e,k⟩|⟨e,k⟩|⟨e,k⟩|⟨e,k⟩ <;> rw[k]at h3 h4 h6 h7 <;> rw[k] <;> simp only at h3 h4 h6 h7 ⊢
 ·exact⟨by omega,by omega,by omega,by omega,by omega,λ_=>⟨by omega,uw qO⟩,λ_=>uw qO⟩
 ·exact⟨by omega,by omega,by omega,by omega,by omega,(λh=>by cases h),λ_=>uw qO⟩
 ·exact⟨by omega,by omega,by omega,by omega,by omega,(λh=>by cases h),λh=>au e h⟩
 ·exact⟨by omega,by omega,by omega,by omega,by omega,λ_=>⟨by omega,uw qO⟩,λ_=>uw qO⟩
def wrapN(n:Nat):Int:=IntKind.i64.wrap (n:Int)
def Xj:List UInt8->Option aT
 |[]=>none
 |k::t=>
  if (cO t).2.2=0 then
   if (kd (k.toNat:Int)).second=true then
    if (cO (t.drop (cO t).2.1)).2.2=0 then some ⟨(k.toNat:Int),wrapN (cO t).1,wrapN (cO (t.drop (cO t).2.1)).1,(t.drop (cO t).2.1).drop (cO (t.drop (cO t).2.1)).2.1⟩ else none
   else some ⟨(k.toNat:Int),wrapN (cO t).1,0,t.drop (cO t).2.1⟩
  else none
def r0:aT:=⟨0,0,0,[]⟩
def yO(b:List UInt8):aT×Int:=match Xj b with
 |some r=>if iR r=true/\mQ r=b then (r,0) else (r0,3)
 |none=>(r0,3)
theorem Vj{n:Nat}(h:n<=9223372036854775807):wrapN n=(n:Int):=by
 unfold wrapN;exact IntWalk.i64_in _ qO
theorem agN{r:aT}(h:iR r=true):2<=(mQ r).length/\(mQ r).length<=221:=by
 obtain⟨_,_,_,_,h5,_,_⟩:=zT h;have h1:=V4 r.a.toNat;have h2:=Ez r.a.toNat;have h3:=Ez r.b.toNat;unfold gV at h2 h3;unfold mQ;simp only[bW,ny,List.length_nil];split
 ·omega
 ·simp only[List.length_nil];omega
theorem ahR{r:aT}(h:iR r=true):yO (mQ r)=(r,0):=by
 obtain⟨b1,b2,b3,b4,b5,b6,b7⟩:=zT h;obtain⟨h1,h2,_⟩:=yH h;have hk:(jE r.kind.toNat).toNat=r.kind.toNat:=by rw[xA];omega
 have hk':(((jE r.kind.toNat).toNat:Nat):Int)=r.kind:=by rw[hk];omega
 have hp:Xj (mQ r)=some r:=by
  unfold mQ;rw[kE,kE,List.singleton_append];rw[show ∀ k t,Xj (k::t)=(if (cO t).2.2=0 then
   if (kd (k.toNat:Int)).second=true then
    if (cO (t.drop (cO t).2.1)).2.2=0 then some ⟨(k.toNat:Int),wrapN (cO t).1,wrapN (cO (t.drop (cO t).2.1)).1,(t.drop (cO t).2.1).drop (cO (t.drop (cO t).2.1)).2.1⟩ else none
   else some ⟨(k.toNat:Int),wrapN (cO t).1,0,t.drop (cO t).2.1⟩
  else none) from λ_ _=>rfl]
  rw[hk',wo _ _ qO];rw[if_pos rfl];simp only;have hd:∀ l:List UInt8,(dV r.a.toNat++l).drop (gV r.a.toNat)=l:=λl=>by unfold gV;simp
  rw[hd];split
  ·rename_i hs
   rw[wo _ _ qO];have ja:∀ l:List UInt8,(dV r.b.toNat++l).drop (gV r.b.toNat)=l:=λl=>by unfold gV;simp
   rw[if_pos rfl,ja,Vj qO,Vj qO];congr 1;obtain⟨k,a,b,x⟩:=r;simp only at b1 b3 ⊢;congr 1 <;> omega
  ·rename_i hs
   rw[List.nil_append];obtain⟨e1,e2⟩:=b6 (by simpa using hs);rw[Vj qO];congr 1;obtain⟨k,a,b,x⟩:=r;simp only at b1 e1 ⊢;subst e1;congr 1;omega
 unfold yO;rw[hp];show(if iR r=true/\mQ r=mQ r then (r,(0:Int)) else (r0,3))=(r,0);rw[if_pos ⟨h,rfl⟩]
structure dm where
 term:Int
 b:List UInt8
deriving DecidableEq
structure bP where
 floor:Int
 term:Int
 gZ:Int
 log:List dm
deriving DecidableEq
instance:Inhabited dm:=⟨⟨0,[]⟩⟩
end Go.Proofs.YtnibdnahojjcgaaGreat
