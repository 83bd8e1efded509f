/- A part of the proof. -/
import Derived.Below
import Derived.Deep.Draws
import Derived.Orders
import Derived.Test.YtnibdnahojjcgaaGreatProg
import Derived.Test.YtnibdnahojjcgaaGreatB01
namespace Go.Proofs.YtnibdnahojjcgaaGreat
set_option maxRecDepth 100000
set_option maxHeartbeats 16000000
set_option linter.unusedVariables false
set_option linter.unusedSimpArgs false
open Go.RowKit
section
structure Sl where
 p:Value->World->Prop
 st:∀ v w w',Below w.heap.size w w'->p v w->p v w'
section
variable {P:Program} {ops:Array Oper} {Q:Exit->Act->World->Prop}
def JF:List Oper->Bool
 |[]=>true
 |o::r=>r.all (λo'=>o.dst.isNone||o.dst != o'.dst)&&JF r
def He:List Oper->Nat->Bool
 |[],_=>true
 |o::r,k=>o.after.toList.all (λe=>!Region.binds .any e||decide (e.on<k))&&He r (k+1)
def upd(vs:Nat->Value)(k:Nat)(v:Value):Nat->Value:=λj=>if j=k then v else vs j
def Giv(w1:World)(s:Sl)(v:Value)(w:World):Prop:=Below w1.heap.size w1 w/\s.p v w
def PL(P:Program)(G:Value->World->Prop):Result Next->Prop
 |.ok (.value v) w'=>G v w'
 |.ok .skip w'=>G undef w'
 |.ok (.enter f args) w'=>Calls P f args w' λe w''=>∃ v,e = .returned v/\G v w''
 |_=>False
def YW(I:Nat->Sl)(vs:Nat->Value)(w:World):List Edge->Prop
 |[]=>True
 |e::es=>(match Region.binds .any e with|true=>(I e.on).p (vs e.on) w|false=>True)/\YW I vs w es
def TA(P:Program)(ops:Array Oper)(I:Nat->Sl)(T:(Nat->Value)->Act)(w0:World):List Oper->Nat->Prop
 |[],_=>True
 |o::r,k=>(∀ vs w1,Below w0.heap.size w0 w1->YW I vs w1 o.after.toList ->
   if Region.wanted o (yielded ops (T vs).tmps) then PL P (Giv w1 (I k)) ((execOp (T vs).eval o).run P w1) else (I k).p undef w1)/\TA P ops I T w0 r (k+1)
theorem TA.at{I:Nat->Sl}{T:(Nat->Value)->Act}{w0:World}:∀ {l:List Oper} {k j:Nat} {o:Oper},TA P ops I T w0 l k->l[j]?=some o ->
  ∀ vs w1,Below w0.heap.size w0 w1->YW I vs w1 o.after.toList ->
   if Region.wanted o (yielded ops (T vs).tmps) then PL P (Giv w1 (I (k+j))) ((execOp (T vs).eval o).run P w1) else (I (k+j)).p undef w1
 |[],_,_,_,_,h=>by simp at h
 |o0::l,k,0,o,h,ho=>by
  obtain rfl:o0=o:=by simpa using ho
  exact h.1
 |o0::l,k,j+1,o,h,ho=>by
  have h2:=TA.at (j:=j) h.2 (by simpa using ho);rw[show k+1+j=k+(j+1) by omega]at h2;exact h2
theorem Ir:∀ {l:List Oper} {k j:Nat} {o:Oper},He l k=true->l[j]?=some o->∀ e∈o.after,Region.binds .any e=true->e.on<k+j
 |[],_,_,_,_,h=>by simp at h
 |o0::l,k,0,o,h,ho=>by
  obtain rfl:o0=o:=by simpa using ho
  simp only[He,qc,zF]at h;intro e he hb;have:=h.1 e (by simpa using he);simpa [hb] using this
 |o0::l,k,j+1,o,h,ho=>by
  simp only[He,qc]at h;have h2:=Ir (j:=j) h.2 (by simpa using ho);intro e he hb;have:=h2 e he hb;omega
def Aw(listed:Array Bool):Nat:=listed.toList.countP (λb=>!b)
theorem acI(listed:Array Bool)(i:Nat)(h:listed.getD i true=false):Aw (listed.setIfInBounds i true)+1=Aw listed:=by
 have hi:i<listed.size:=by
  rcases mP i listed.size with h'|h'
  ·exact h'
  ·simp[Array.getElem?_eq_none h']at h
 have hv:listed.toList[i]'(by simpa using hi)=false:=by simpa [hi] using h
 unfold Aw;rw[Array.toList_setIfInBounds,List.countP_set (by simpa using hi),hv];have hpos:0<listed.toList.countP (λb=>!b):=List.countP_pos_iff.2 ⟨false,by rw[<-hv];exact List.getElem_mem _,rfl⟩;generalize listed.toList.countP (λb=>!b)=m at *;simp;omega
theorem PR{listed:Array Bool}(h:Aw listed=0)(j:Nat):listed.getD j true=true:=by
 unfold Aw at h;rw[List.countP_eq_zero]at h;rcases mP j listed.size with h'|h'
 ·have:=h listed[j] (by simp);simpa [h'] using this
 ·simp[Array.getElem?_eq_none h']
theorem acJ(n:Nat):Aw (Array.replicate n false)=n:=by
 unfold Aw;rw[Array.toList_replicate,List.countP_replicate];rfl
end
end
section
structure Sx (B:Nat) where
 lo:Nat
 hi:Nat
 fx:Bool
 born:Nat
 afv:Option Nat
 Zt:List Nat
 p:(Nat->Value)->Value->World->Prop
 loc:∀ f f' v w,(∀ j∈Zt,f j=f' j)->p f v w->p f' v w
 st:∀ f v w w',Below w.heap.size w w'->p f v w->p f v w'
 keep:∀ s f v w w',born<=s->(∀ j,afv=some j->s<j)->Below B w w'->p f v w->p f v w'
 asq:born<=lo+fx.toNat
def Sx.at{B:Nat}(j:Nat)(p:Value->World->Prop)(st:∀ v w w',Below w.heap.size w w'->p v w->p v w'):Sx B:=⟨j,j,false,j,some j,[],λ_=>p,λ_ _ _ _ _ h=>h,λ_=>st,λs _ _ _ _ h1 h2 _ _=>au (h2 j rfl) qO,Nat.le_add_right _ _⟩
def Sx.av{B:Nat}(x:Sx B)(s:Nat)(f:Nat->Value)(v:Value)(w:World):Prop:=match x.afv with|none=>x.p f v w|some j=>s<=j->x.p f v w
section
variable {P:Program} {B:Nat} {Q:Exit->Act->World->Prop}
def xK(acc:List Nat):List Edge->Nat
 |[]=>0
 |e::es=>match Region.binds .any e with
  |true=>(1 <<< e.on) ||| acc.getD e.on 0 ||| xK acc es
  |false=>xK acc es
def vG:List Oper->List Nat->List Nat
 |[],acc=>acc
 |o::r,acc=>vG r (acc++[xK acc o.after.toList])
def Closed(l:List Oper)(L:Nat->Prop):Prop:=∀ k o,l[k]?=some o->L k->∀ e∈o.after.toList,Region.binds .any e=true->L e.on
theorem ZM{acc:List Nat}{L:Nat->Prop}(hacc:∀ k e,(acc.getD k 0).testBit e=true->L k->L e){j:Nat} :
  ∀ {es:List Edge},(∀ e∈es,Region.binds .any e=true->L e.on)->(xK acc es).testBit j=true->L j
 |[],_,h=>by simp[xK]at h
 |e::es,hes,h=>by
  unfold xK at h;have ih:=ZM hacc (j:=j) (es:=es) (λe' he'=>hes e' (je _ he'));split at h
  ·rename_i hb
   have hon:=hes e jC hb;rw[Nat.testBit_or,Nat.testBit_or,Bool.or_eq_true,Bool.or_eq_true]at h;rcases h with (h|h)|h
   ·rw[Nat.one_shiftLeft,Nat.testBit_two_pow]at h;have:e.on=j:=by simpa using h
    exact this▸hon
   ·exact hacc _ _ h hon
   ·exact ih h
  ·exact ih h
theorem KZ{l:List Oper}{L:Nat->Prop}(hc:Closed l L):∀(r pre:List Oper) (acc:List Nat),l=pre++r->acc.length=pre.length->(∀ k e,(acc.getD k 0).testBit e=true->L k->L e) ->
  ∀ k e,((vG r acc).getD k 0).testBit e=true->L k->L e
 |[],_,_,_,_,h=>h
 |o::r,pre,acc,hl,hlen,h=>by
  refine KZ hc r (pre++[o]) _ (by simp[hl]) (by simp[hlen]) λk e hb hk=>?_
  rcases Nat.lt_trichotomy k acc.length with hlt|heq|hgt
  ·refine h k e ?_ hk;rw[bC,mO hlt]at hb;rw[bC];exact hb
  ·subst heq;have e1:(acc++[xK acc o.after.toList]).getD acc.length 0=xK acc o.after.toList:=by simp[bC]
   rw[e1]at hb;refine ZM h (λe' he' hbd=>hc acc.length o ?_ hk e' he' hbd) hb;rw[hl,hlen];simp
  ·rw[bC,List.getElem?_eq_none (by simp;omega)]at hb;simp at hb
theorem aaO{acc:List Nat}(hacc:∀ k e,(acc.getD k 0).testBit e=true->e<k){n j:Nat} :
  ∀ {es:List Edge},(∀ e∈es,Region.binds .any e=true->e.on<n)->(xK acc es).testBit j=true->j<n
 |[],_,h=>by simp[xK]at h
 |e::es,hes,h=>by
  unfold xK at h;have ih:=aaO hacc (n:=n) (j:=j) (es:=es) (λe' he'=>hes e' (je _ he'));split at h
  ·rename_i hb
   have hon:=hes e jC hb;rw[Nat.testBit_or,Nat.testBit_or,Bool.or_eq_true,Bool.or_eq_true]at h;rcases h with (h|h)|h
   ·rw[Nat.one_shiftLeft,Nat.testBit_two_pow]at h;have:e.on=j:=by simpa using h
    omega
   ·have:=hacc _ _ h;omega
   ·exact ih h
  ·exact ih h
theorem WX{l:List Oper}(hbk:He l 0=true):∀(r pre:List Oper) (acc:List Nat),l=pre++r->acc.length=pre.length->(∀ k e,(acc.getD k 0).testBit e=true->e<k) ->
  ∀ k e,((vG r acc).getD k 0).testBit e=true->e<k
 |[],_,_,_,_,h=>h
 |o::r,pre,acc,hl,hlen,h=>by
  refine WX hbk r (pre++[o]) _ (by simp[hl]) (by simp[hlen]) λk e hb=>?_
  rcases Nat.lt_trichotomy k acc.length with hlt|heq|hgt
  ·refine h k e ?_;rw[bC,mO hlt]at hb;rw[bC];exact hb
  ·subst heq;have e1:(acc++[xK acc o.after.toList]).getD acc.length 0=xK acc o.after.toList:=by simp[bC]
   rw[e1]at hb;refine aaO h (λe' he' hbd=>?_) hb;have:=Ir hbk (j:=acc.length) (o:=o) (by rw[hl,hlen];simp) e' (by simpa using he') hbd;omega
  ·rw[bC,List.getElem?_eq_none (by simp;omega)]at hb;simp at hb
def Me(M:List Nat):List Nat->Bool
 |[]=>true
 |e::r=>r.all (λe'=>(M.getD e' 0).testBit e&&decide (e<e'))&&Me M r
def Zc(M:List Nat)(eff:List Nat)(k lo:Nat):Bool:=match lo with|0=>true|j+1=>match eff[j]? with|some e=>(M.getD k 0).testBit e|none=>false
def Zl(M:List Nat)(eff:List Nat)(k hi:Nat):Bool:=match eff[hi]? with|some e=>(M.getD e 0).testBit k||e == k|none=>true
def TF(M:List Nat)(eff:List Nat):List (Nat×Nat×Bool×List Nat)->Nat->Bool
 |[],_=>true
 |(lo,hi,fx,Zt)::r,k=>Zc M eff k lo&&Zl M eff k hi&&(fx == eff.contains k)&&Zt.all (λe=>(M.getD k 0).testBit e)&&TF M eff r (k+1)
theorem Un{M:List Nat}:∀ {eff:List Nat} {i j a b:Nat},Me M eff=true->i<j->eff[i]?=some a->eff[j]?=some b->(M.getD b 0).testBit a=true/\a<b
 |[],_,_,_,_,_,_,h,_=>by simp at h
 |e::r,0,j+1,a,b,h,_,ha,hb=>by
  simp only[Me,qc,zF]at h;obtain rfl:e=a:=by simpa using ha
  have:=h.1 b (uX (by simpa using hb));exact⟨this.1,by simpa using this.2⟩
 |e::r,i+1,j+1,a,b,h,hij,ha,hb=>by
  simp only[Me,qc]at h;exact Un (eff:=r) (i:=i) (j:=j) h.2 qO (by simpa using ha) (by simpa using hb)
 |_::_,_,0,_,_,_,h,_,_=>by omega
def Tv(St:Nat->World->Prop)(w1:World)(x:Sx B)(s:Nat)(f:Nat->Value)(v:Value)(w:World):Prop:=x.p f v w/\match x.fx with
 |true=>Below B w1 w/\St (s+1) w
 |false=>Below w1.heap.size w1 w
def YV(I:Nat->Sx B)(vs:Nat->Value)(w:World)(s:Nat):List Edge->Prop
 |[]=>True
 |e::es=>(match Region.binds .any e with|true=>(I e.on).av s vs (vs e.on) w|false=>True)/\YV I vs w s es
def Yet(l:List Oper)(a:Act)(vs:Nat->Value)(k:Nat):Prop:=∀ e o d,l[e]?=some o->o.dst=some d->((vG l []).getD e 0).testBit k=true->vs e=a.tmps.getD d undef
def Tz(P:Program)(l0:List Oper)(a0:Act)(ops:Array Oper)(I:Nat->Sx B)(T:(Nat->Value)->Act)(w0:World)(St:Nat->World->Prop):List Oper->Nat->Prop
 |[],_=>True
 |o::r,k=>(∀ vs w1 s,(I k).lo<=s->s<=(I k).hi->Below B w0 w1->St s w1->YV I vs w1 s o.after.toList->Yet l0 a0 vs k ->
   if Region.wanted o (yielded ops (T vs).tmps) then PL P (Tv St w1 (I k) s vs) ((execOp (T vs).eval o).run P w1) else Tv St w1 (I k) s vs undef w1)/\Tz P l0 a0 ops I T w0 St r (k+1)
theorem Tz.at{l0:List Oper}{a0:Act}{ops:Array Oper}{I:Nat->Sx B}{T:(Nat->Value)->Act}{w0:World}{St:Nat->World->Prop}:∀ {l:List Oper} {k j:Nat} {o:Oper},Tz P l0 a0 ops I T w0 St l k->l[j]?=some o ->
  ∀ vs w1 s,(I (k+j)).lo<=s->s<=(I (k+j)).hi->Below B w0 w1->St s w1->YV I vs w1 s o.after.toList->Yet l0 a0 vs (k+j) ->
   if Region.wanted o (yielded ops (T vs).tmps) then PL P (Tv St w1 (I (k+j)) s vs) ((execOp (T vs).eval o).run P w1) else Tv St w1 (I (k+j)) s vs undef w1
 |[],_,_,_,_,h=>by simp at h
 |o0::l,k,0,o,h,ho=>by
  obtain rfl:o0=o:=by simpa using ho
  exact h.1
 |o0::l,k,j+1,o,h,ho=>by
  have h2:=Tz.at (j:=j) h.2 (by simpa using ho);rw[show k+1+j=k+(j+1) by omega]at h2;exact h2
def Ou(l:List Oper)(eff:List Nat)(sigs:List (Nat×Nat×Bool×List Nat)):Bool:=
 JF l&&He l 0&&(sigs.length == l.length)&&Me (vG l []) eff&&TF (vG l []) eff sigs 0&&eff.all (λe=>decide (e<l.length))
end
end
def BM(p:Int×Int)(b:UInt8):Int×Int:=((p.1+b.toNat) % 65521,(p.2+(p.1+b.toNat) % 65521) % 65521)
def afK(p:Int×Int):Int:=65536*p.2+p.1
def Jp(s:Int):Int×Int:=(s % 65536 % 65521,s / 65536 % 65521)
def wO(s:Int)(l:List UInt8):Int:=afK (l.foldl BM (Jp s))
theorem akP(p:Int×Int)(b:UInt8):0<=(BM p b).1/\(BM p b).1<65521/\0<=(BM p b).2/\(BM p b).2<65521:=by unfold BM;simp only;omega
theorem ais(s:Int):0<=(Jp s).1/\(Jp s).1<65521/\0<=(Jp s).2/\(Jp s).2<65521:=by unfold Jp;simp only;omega
theorem akW(l:List UInt8):∀ p:Int×Int,(0<=p.1/\p.1<65521/\0<=p.2/\p.2<65521)->0<=(l.foldl BM p).1/\(l.foldl BM p).1<65521/\0<=(l.foldl BM p).2/\(l.foldl BM p).2<65521:=by
 induction l with
 |nil=>intro p h;exact h
 |cons b l ih=>intro p _;exact ih _ (akP p b)
def ak(s:Int)(l:List UInt8)(k:Nat):Int×Int:=(l.take k).foldl BM (Jp s)
theorem avb(s:Int)(l:List UInt8):afK (ak s l l.length)=wO s l:=by unfold ak wO;rw[oJ]
theorem avj(s:Int)(l:List UInt8)(k:Nat):0<=(ak s l k).1/\(ak s l k).1<65521/\0<=(ak s l k).2/\(ak s l k).2<65521:=akW _ _ (ais s)
theorem au6(s:Int)(l:List UInt8)(k:Nat)(h:k<l.length):ak s l (k+1)=BM (ak s l k) (l.getD k 0):=by
 unfold ak;rw[List.take_succ_eq_append_getElem h,List.foldl_append];simp[List.getD,h]
theorem akX(s:Int)(l:List UInt8):0<=wO s l/\wO s l<4294967296:=by
 have h:=akW l _ (ais s);unfold wO afK;omega
def byteOf(n:Nat):UInt8:=UInt8.ofNat n
def OL(n:Nat):List UInt8:=[byteOf (n / 256),byteOf n]
def Ij(n:Nat):List UInt8:=[byteOf (n / 16777216),byteOf (n / 65536),byteOf (n / 256),byteOf n]
def BI(x:List UInt8):List UInt8:=OL x.length++x
def rD(x:List UInt8):List UInt8:=BI x++Ij (wO 1 (BI x)).toNat
theorem ZF(n:Nat):(byteOf n).toNat=n % 256:=by unfold byteOf;rw[UInt8.toNat_ofNat']
theorem UH(n:Nat):(OL n).length=2:=rfl
theorem UF(n:Nat):(Ij n).length=4:=rfl
theorem Ui(x:List UInt8):(BI x).length=x.length+2:=by unfold BI;rw[bW,UH];omega
theorem KH(x:List UInt8):(rD x).length=x.length+6:=by unfold rD;rw[bW,Ui,UF]
def ja(b:List UInt8):Nat:=256*(b.getD 0 0).toNat+(b.getD 1 0).toNat
def JH(l:List UInt8):Nat:=l.foldl (λs b=>s*256+b.toNat) 0
theorem auK(l:List UInt8)(b:UInt8):JH (l++[b])=JH l*256+b.toNat:=by unfold JH;rw[List.foldl_append];rfl
theorem auZ(l:List UInt8):∀ s k:Nat,s<256^k->l.foldl (λs b=>s*256+b.toNat) s<256^(k+l.length):=by
 induction l with
 |nil=>intro s k h;exact h
 |cons b l ih=>
  intro s k h;have hb:=b.toNat_lt;have h2:=ih (s*256+b.toNat) (k+1) (by rw[Nat.pow_succ];omega);rw[ny,show k+(l.length+1)=k+1+l.length by omega];exact h2
theorem au0(l:List UInt8):JH l<256^l.length:=by
 have h:=auZ l 0 0 qD;rwa [jm]at h
def jL(b:List UInt8):List UInt8×Nat×Nat:=
 if b.length<2 then ([],0,2)
 else if ja b=0\/4096<ja b then ([],0,3)
 else if b.length<ja b+6 then ([],0,2)
 else if wO 1 (b.take (ja b+2))=(JH ((b.drop (ja b+2)).take 4):Nat) then ((b.drop 2).take (ja b),ja b+6,0)
 else ([],0,3)
theorem ajQ(b:List UInt8)(h:(jL b).2.2=0):2<=b.length/\0<ja b/\ja b<=4096/\ja b+6<=b.length/\wO 1 (b.take (ja b+2))=(JH ((b.drop (ja b+2)).take 4):Nat)/\jL b=((b.drop 2).take (ja b),ja b+6,0):=by
 unfold jL at h ⊢;by_cases h1:b.length<2
 ·rw[if_pos h1]at h;simp at h
 ·rw[if_neg h1]at h ⊢;by_cases h2:ja b=0\/4096<ja b
  ·rw[if_pos h2]at h;simp at h
  ·rw[if_neg h2]at h ⊢;by_cases h3:b.length<ja b+6
   ·rw[if_pos h3]at h;simp at h
   ·rw[if_neg h3]at h ⊢;by_cases h4:wO 1 (b.take (ja b+2))=(JH ((b.drop (ja b+2)).take 4):Nat)
    ·rw[if_pos h4];exact⟨by omega,by omega,by omega,by omega,h4,rfl⟩
    ·rw[if_neg h4]at h;simp at h
theorem aag(b:List UInt8)(h:(jL b).2.2=0):7<=(jL b).2.1/\(jL b).2.1<=b.length/\(jL b).1.length+6=(jL b).2.1/\(jL b).1.length<=4096:=by
 obtain⟨h1,h2,h3,h4,_,h6⟩:=ajQ b h;rw[h6];simp only[dP,fE];omega
theorem air(q:Nat)(h:q<4294967296):JH (Ij q)=q:=by
 simp only[Ij,JH,List.foldl_cons,List.foldl_nil,ZF];omega
def fp(x:List UInt8):List UInt8×Nat:=if x.length=0\/4096<x.length then ([],4) else (rD x,0)
def Hu(L:List (List UInt8)):List (List UInt8):=(L.map (·.take 300)).filter (λx=>decide (0<x.length))
theorem ava(s:Int)(A:Option Addr)(l:List UInt8)(n cap:Nat)(w:World)(hn:l.length=n)(h0:0<=s)(h1:s<4294967296)(hA:Bs w w.heap.size A l)(hl:l.length<=140737488351232) :
  Calls Tryz.prog 221 #[.int .u32 s,.slice A n cap] w λe w'=>e = .returned (.int .u32 (wO s l))/\Below w.heap.size w w':=by
 subst hn;go_enter Tryz.func221,Tryz.ntmps221;go_wp2
 go_loopw [7,17] (λ_ i wr=>∃ k:Nat,k<=l.length/\i = .int .i64 k/\oI wr w.heap.size 303 #[.int .u32 (ak s l k).1,.int .u32 (ak s l k).2]/\Below w.heap.size w wr) (λ_ i _=>l.length-(intOf i).toNat)
 case atStart=>exact⟨0,by omega,rfl,oI.new _ _ _,(Below.refl _ _).alloc (bu _) _⟩
 case round=>
  obtain⟨k,hk,rfl,hblk,hb⟩:=hrel;obtain⟨a1,a2,a3,a4⟩:=avj s l k;have c0:=hblk.cell 0;have c1:=hblk.cell 1;have f0:=hblk.free 0;have f1:=hblk.free 1;simp at c0 c1;by_cases hlt:k<l.length
  ·obtain⟨b,off,rfl,hbB,hc⟩:=hA qO;have hcx:=(hb.cell (p:=⟨b,off+k,none⟩) hbB).trans (hc k hlt);have hbt:(l[k].toNat:Int)<=255:=by have:=l[k].toNat_lt;omega
   have hsucc:=Lib.hid (au6 s l k hlt);go_wp2
   go_roundw
   case rel=>
    have e:=hsucc.out;simp only[bC,dW hlt,Option.getD_some]at e;exact⟨k+1,by omega,by go_num,by rw[e];simpa [BM] using(hblk.set 0 _).set 1 _,(hb.setCell (by simp) _).setCell (by simp) _⟩
   case measure=>simp[intOf];omega
  ·obtain rfl:k=l.length:=qO;have hv:65536*(ak s l l.length).2+(ak s l l.length).1=wO s l:=avb s l;have HV:=Lib.hid hv;clear hv;go_wp2;go_ret;exact⟨by rw[<-HV.out];rfl,hb⟩
theorem aup(A:Option Addr)(l:List UInt8)(n cap:Nat)(w:World)(hn:l.length=n)(hA:Bs w w.heap.size A l)(hl:l.length<=140737488351232) :
  Calls Tryz.prog 183 #[.slice A n cap] w λe w'=>e = .returned (.int .u32 (wO 1 l))/\Below w.heap.size w w':=by
 have HN:=Lib.hid hn;clear hn;go_enter Tryz.func183,Tryz.ntmps183;go_wp2_with fail;refine(ava 1 A l n cap _ HN.out qO qO hA hl).mono ?_;rintro e w' ⟨rfl,hb⟩;go_wp2;go_ret;exact⟨rfl,hb⟩
theorem au9(A:Option Addr)(l:List UInt8)(n cap:Nat)(s:Int)(w:World)(hn:l.length=n)(hA:Bs w w.heap.size A l)(hl:l.length<=140737488351232) :
  Calls Tryz.prog 149 #[.slice A n cap,.int .u32 s] w λe w'=>e = .returned (.bool (wO 1 l == s))/\Below w.heap.size w w':=by
 have HN:=Lib.hid hn;clear hn;go_enter Tryz.func149,Tryz.ntmps149;go_wp2_with fail;refine(aup A l n cap _ HN.out hA hl).mono ?_;rintro e w' ⟨rfl,hb⟩;go_wp2;go_ret;exact⟨rfl,hb⟩
theorem ajR(b:List UInt8)(n:Nat)(h:ja b=n)(h0:0<n)(h1:n<=4096)(hl:n+6<=b.length) :
  jL b=if wO 1 (b.take (n+2))=(JH ((b.drop (n+2)).take 4):Nat) then ((b.drop 2).take n,n+6,0) else ([],0,3):=by
 unfold jL;rw[if_neg qO,h,if_neg qO,if_neg qO]
theorem adw(n:Nat)(r:List UInt8)(h:n<65536):ja (OL n++r)=n:=by
 simp only[ja,OL,List.cons_append,List.nil_append,List.getD_cons_zero,List.getD_cons_succ,ZF];omega
theorem Uy(x r:List UInt8):rD x++r=OL x.length++(x++(Ij (wO 1 (BI x)).toNat++r)):=by
 unfold rD BI;simp only[kE]
theorem ZT(l:List UInt8):((wO 1 l).toNat:Int)=wO 1 l/\(wO 1 l).toNat<4294967296:=by
 have h:=akX 1 l;omega
theorem agX(x r:List UInt8)(h0:0<x.length)(h1:x.length<=4096):jL (rD x++r)=(x,x.length+6,0):=by
 have hh:ja (rD x++r)=x.length:=by rw[Uy];exact adw _ _ qO
 have hl:x.length+6<=(rD x++r).length:=by rw[bW,KH];omega
 rw[ajR _ _ hh h0 h1 hl];have e1:(rD x++r).take (x.length+2)=BI x:=by
  unfold rD;rw[kE,List.take_left' (Ui x)]
 have e2:((rD x++r).drop (x.length+2)).take 4=Ij (wO 1 (BI x)).toNat:=by
  unfold rD;rw[kE,List.drop_left' (Ui x),List.take_left' (UF _)]
 have e3:((rD x++r).drop 2).take x.length=x:=by
  rw[Uy,List.drop_left' (UH _),List.take_left' rfl]
 rw[e1,e2,e3,air _ (ZT _).2,if_pos (ZT _).1.symm]
theorem ZP(p:List UInt8)(h:p.length<2\/(0<ja p/\ja p<=4096/\p.length<ja p+6)):jL p=([],0,2):=by
 unfold jL;by_cases h2:p.length<2
 ·rw[if_pos h2]
 ·rcases h with h|⟨h3,h4,h5⟩
  ·exact au h h2
  ·rw[if_neg h2,if_neg qO,if_pos h5]
theorem af6(x:List UInt8)(j:Nat)(h0:0<x.length)(h1:x.length<=4096)(hj:j<x.length+6):jL ((rD x).take j)=([],0,2):=by
 have hl0:=KH x;by_cases h2:j<2
 ·exact ZP _ (.inl (by rw[dP];omega))
 ·refine ZP _ (.inr ?_);have h:=adw x.length (x++(Ij (wO 1 (BI x)).toNat++[])) qO;rw[<-Uy,pG]at h;have hh:ja ((rD x).take j)=x.length:=by
   rw[<-h];unfold ja;simp[show 0<j by omega,show 1<j by omega]
  rw[hh,dP];omega
end Go.Proofs.YtnibdnahojjcgaaGreat
