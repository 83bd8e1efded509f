/- Lemmas. -/
import Derived.Below
import Derived.BigQuiet
import Derived.Lib.SlBytesConst
import Derived.Test.YtnibdnahojjcgaaGreatProg
import Derived.WalkSpells
import Derived.Test.YtnibdnahojjcgaaGreatC03
namespace Go.Proofs.YtnibdnahojjcgaaGreat
set_option linter.all false
set_option maxRecDepth 100000
set_option maxHeartbeats 0
open Go.RowKit Tryz
def yG(p:Int×Int)(b:UInt8):Int×Int:=((p.1+b.toNat) % 65521,(p.2+(p.1+b.toNat) % 65521) % 65521)
def abe(p:Int×Int):Int:=65536*p.2+p.1
def IB(s:Int):Int×Int:=(s % 65536 % 65521,s / 65536 % 65521)
def pG(s:Int)(l:List UInt8):Int:=abe (l.foldl yG (IB s))
def aoo(p:Int×Int)(b:UInt8):0<=(yG p b).1/\(yG p b).1<65521/\0<=(yG p b).2/\(yG p b).2<65521:=by unfold yG;simp only;omega
def adh(s:Int):0<=(IB s).1/\(IB s).1<65521/\0<=(IB s).2/\(IB s).2<65521:=by unfold IB;simp only;omega
def aeL(l:List UInt8):∀ p:Int×Int,(0<=p.1/\p.1<65521/\0<=p.2/\p.2<65521)->0<=(l.foldl yG p).1/\(l.foldl yG p).1<65521/\0<=(l.foldl yG p).2/\(l.foldl yG p).2<65521:=by
 induction l with
 |nil=>intro p h;exact h
 |cons b l ih=>intro p _;exact ih _ (aoo p b)
def ak(s:Int)(l:List UInt8)(k:Nat):Int×Int:=(l.take k).foldl yG (IB s)
def atK(s:Int)(l:List UInt8):abe (ak s l l.length)=pG s l:=by unfold ak pG;rw[mM]
def avP(s:Int)(l:List UInt8)(k:Nat):0<=(ak s l k).1/\(ak s l k).1<65521/\0<=(ak s l k).2/\(ak s l k).2<65521:=aeL _ _ (adh s)
def ar2(s:Int)(l:List UInt8)(k:Nat)(h:k<l.length):ak s l (k+1)=yG (ak s l k) (l.getD k 0):=by
 unfold ak;rw[List.take_succ_eq_append_getElem h,List.foldl_append];simp[List.getD,h]
def aeM(s:Int)(l:List UInt8):0<=pG s l/\pG s l<4294967296:=by
 have h:=aeL l _ (adh s);unfold pG abe;omega
def byteOf(n:Nat):UInt8:=UInt8.ofNat n
def Ff(n:Nat):List UInt8:=[byteOf (n / 256),byteOf n]
def BC(n:Nat):List UInt8:=[byteOf (n / 16777216),byteOf (n / 65536),byteOf (n / 256),byteOf n]
def vW(x:List UInt8):List UInt8:=Ff x.length++x
def oh(x:List UInt8):List UInt8:=vW x++BC (pG 1 (vW x)).toNat
def axJ(n:Nat):(byteOf n).toNat=n % 256:=by unfold byteOf;rw[UInt8.toNat_ofNat']
def WV(n:Nat):(Ff n).length=2:=rfl
def WU(n:Nat):(BC n).length=4:=rfl
def QI(x:List UInt8):(vW x).length=x.length+2:=by unfold vW;rw[bP,WV];omega
def Fj(x:List UInt8):(oh x).length=x.length+6:=by unfold oh;rw[bP,QI,WU]
def jo(b:List UInt8):Nat:=256*(b.getD 0 0).toNat+(b.getD 1 0).toNat
def rY(l:List UInt8):Nat:=l.foldl (λs b=>s*256+b.toNat) 0
def ajO(l:List UInt8)(b:UInt8):rY (l++[b])=rY l*256+b.toNat:=by unfold rY;rw[List.foldl_append];rfl
def aoj(l:List UInt8):∀ s k:Nat,s<256^k->l.foldl (λs b=>s*256+b.toNat) s<256^(k+l.length):=by
 induction l with
 |nil=>intro s k h;exact h
 |cons b l ih=>
  intro s k h;have hb:=b.toNat_lt;have h2:=ih (s*256+b.toNat) (k+1) (by rw[Nat.pow_succ];omega);rw[lT,show k+(l.length+1)=k+1+l.length by omega];exact h2
def aok(l:List UInt8):rY l<256^l.length:=by
 have h:=aoj l 0 0 qD;rwa [jq]at h
def ik(b:List UInt8):List UInt8×Nat×Nat:=
 if b.length<2 then([],0,2)
 else if jo b=0\/4096<jo b then([],0,3)
 else if b.length<jo b+6 then([],0,2)
 else if pG 1 (b.take (jo b+2))=(rY ((b.drop (jo b+2)).take 4):Nat) then((b.drop 2).take (jo b),jo b+6,0)
 else([],0,3)
def ane(b:List UInt8)(h:(ik b).2.2=0):2<=b.length/\0<jo b/\jo b<=4096/\jo b+6<=b.length/\pG 1 (b.take (jo b+2))=(rY ((b.drop (jo b+2)).take 4):Nat)/\ik b=((b.drop 2).take (jo b),jo b+6,0):=by
 unfold ik at h ⊢;by_cases h1:b.length<2
 ·rw[if_pos h1]at h;simp at h
 ·rw[if_neg h1]at h ⊢;by_cases h2:jo b=0\/4096<jo b
  ·rw[if_pos h2]at h;simp at h
  ·rw[if_neg h2]at h ⊢;by_cases h3:b.length<jo b+6
   ·rw[if_pos h3]at h;simp at h
   ·rw[if_neg h3]at h ⊢;by_cases h4:pG 1 (b.take (jo b+2))=(rY ((b.drop (jo b+2)).take 4):Nat)
    ·rw[if_pos h4];exact⟨by omega,by omega,by omega,by omega,h4,rfl⟩
    ·rw[if_neg h4]at h;simp at h
def WJ(b:List UInt8)(h:(ik b).2.2=0):7<=(ik b).2.1/\(ik b).2.1<=b.length/\(ik b).1.length+6=(ik b).2.1/\(ik b).1.length<=4096:=by
 obtain⟨h1,h2,h3,h4,_,h6⟩:=ane b h;rw[h6];simp only[dG,eY];omega
def alu(q:Nat)(h:q<4294967296):rY (BC q)=q:=by
 simp only[BC,rY,List.foldl_cons,List.foldl_nil,axJ];omega
def fp(x:List UInt8):List UInt8×Nat:=if x.length=0\/4096<x.length then([],4) else(oh x,0)
def I4(L:List (List UInt8)):List (List UInt8):=(L.map (·.take 300)).filter (λx=>decide (0<x.length))
def anf(b:List UInt8)(n:Nat)(h:jo b=n)(h0:0<n)(h1:n<=4096)(hl:n+6<=b.length) :
  ik b=if pG 1 (b.take (n+2))=(rY ((b.drop (n+2)).take 4):Nat) then((b.drop 2).take n,n+6,0) else([],0,3):=by
 unfold ik;rw[if_neg qO,h,if_neg qO,if_neg qO]
def afU(n:Nat)(r:List UInt8)(h:n<65536):jo (Ff n++r)=n:=by
 simp only[jo,Ff,List.cons_append,List.nil_append,List.getD_cons_zero,List.getD_cons_succ,axJ];omega
def WL(x r:List UInt8):oh x++r=Ff x.length++(x++(BC (pG 1 (vW x)).toNat++r)):=by
 unfold oh vW;simp only[jV]
def abV(l:List UInt8):((pG 1 l).toNat:Int)=pG 1 l/\(pG 1 l).toNat<4294967296:=by
 have h:=aeM 1 l;omega
def aco(x r:List UInt8)(h0:0<x.length)(h1:x.length<=4096):ik (oh x++r)=(x,x.length+6,0):=by
 have hh:jo (oh x++r)=x.length:=by rw[WL];exact afU _ _ qO
 have hl:x.length+6<=(oh x++r).length:=by rw[bP,Fj];omega
 rw[anf _ _ hh h0 h1 hl];have e1:(oh x++r).take (x.length+2)=vW x:=by
  unfold oh;rw[jV,List.take_left' (QI x)]
 have e2:((oh x++r).drop (x.length+2)).take 4=BC (pG 1 (vW x)).toNat:=by
  unfold oh;rw[jV,List.drop_left' (QI x),List.take_left' (WU _)]
 have e3:((oh x++r).drop 2).take x.length=x:=by
  rw[WL,List.drop_left' (WV _),List.take_left' rfl]
 rw[e1,e2,e3,alu _ (abV _).2,if_pos (abV _).1.symm]
def abS(p:List UInt8)(h:p.length<2\/(0<jo p/\jo p<=4096/\p.length<jo p+6)):ik p=([],0,2):=by
 unfold ik;by_cases h2:p.length<2
 ·rw[if_pos h2]
 ·obtain h|⟨h3,h4,h5⟩:=h
  ·exact ai h h2
  ·rw[if_neg h2,if_neg qO,if_pos h5]
def aiI(x:List UInt8)(j:Nat)(h0:0<x.length)(h1:x.length<=4096)(hj:j<x.length+6):ik ((oh x).take j)=([],0,2):=by
 have hl0:=Fj x;by_cases h2:j<2
 ·exact abS _ (.inl (by rw[dG];omega))
 ·refine abS _ (.inr ?_);have h:=afU x.length (x++(BC (pG 1 (vW x)).toNat++[])) qO;rw[<-WL,pO]at h;have hh:jo ((oh x).take j)=x.length:=by
   rw[<-h];unfold jo;simp[show 0<j by omega,show 1<j by omega]
  rw[hh,dG];omega
def mO(s:bC)(r:aP):Bool:=
 if r.kind=1 then decide (s.floor<=r.a)
 else if r.kind=2 then !(decide (r.a<s.term)||(r.a == s.term&&s.cu != 0&&s.cu != r.b))
 else if r.kind=3 then r.a == (s.log.length:Int)+1
 else decide (r.a<=(s.log.length:Int))
def mZ(s:bC)(r:aP):bC:=
 if r.kind=1 then { s with floor:=r.a }
 else if r.kind=2 then { s with term:=r.a,cu:=r.b }
 else if r.kind=3 then { s with log:=s.log++[⟨r.b,r.x⟩] }
 else { s with log:=s.log.take (r.a-1).toNat }
def ku(s:bC)(r:aP):bC×Int:=if iG r=true then(if mO s r=true then(mZ s r,0) else(s,5)) else(s,1)
def aeZ (n : Nat) (h : n < 2097152) : gZ n <= 3 := by
  have := (ab2 2 n qO).1 (by have : (128 : Nat) ^ 2 = 16384 := qD;omega);omega
def acg{r:aP}(h:iG r=true):(kS r).length<=205:=by
 obtain⟨h1,h2,h3,h4,h5,h6,h7⟩:=wP h;obtain⟨b1,b2,b3,b4,b5,b6,b7⟩:=rV h;have v1:=aeZ r.a.toNat qO;have v2:=aeZ r.b.toNat qO;have v3:r.kind=3->gZ r.a.toNat=1:=λhk=>Fh _ (by
  rw[hk]at h4;have:(kd 3).dO=64:=rfl;omega)
 have v4:r.kind≠3->r.x.length=0:=λhk=>by rw[b7 hk];rfl
 unfold gZ at v1 v2 v3;unfold kS;simp only[bP,lT,List.length_nil];by_cases hk:r.kind=3
 ·have:=v3 hk;split <;> simp <;> omega
 ·have:=v4 hk;split <;> simp <;> omega
def steps:bC->List aP->bC×Int
 |s,[]=>(s,0)
 |s,r::rs=>if (ku s r).2=0 then steps (ku s r).1 rs else(s,(ku s r).2)
def yX(r:aP):List UInt8:=(fp (kS r)).1
def di(L:List aP):List UInt8:=(L.map yX).flatten
def ajh (s : bC) (L : List aP) (r : aP) (h : (steps s L).2 = 0) : steps s (L ++ [r]) = if (ku (steps s L).1 r).2 = 0 then((ku (steps s L).1 r).1, 0) else((steps s L).1, (ku (steps s L).1 r).2) := by
  induction L generalizing s with
  | nil => by_cases h0 : (ku s r).2 = 0
           · simp [steps, h0]
           · simp [steps, h0]
  | cons x xs ih =>
    by_cases h0 : (ku s x).2 = 0
    · rw [steps, if_pos h0] at h;rw [List.cons_append, steps, if_pos h0, ih _ h];simp only [steps, if_pos h0]
    · rw [steps, if_neg h0] at h;exact ai h h0
def ajj(L:List aP)(r:aP):di (L++[r])=di L++yX r:=by unfold di;simp
def akm(s:bC)(r:aP)(h:s.log.length<=70):(ku s r).1.log.length<=70:=by
 unfold ku;split
 ·rename_i hok
  split
  ·rename_i hf
   obtain⟨q1,q2,q3,q4,_⟩:=wP hok;unfold mZ;split
   ·exact h
   ·split
    ·exact h
    ·split
     ·rename_i h1 h2 h3
      unfold mO at hf;rw[if_neg h1,if_neg h2,if_pos h3]at hf;rw[h3]at q4;have:(kd 3).dO=64:=rfl;simp at hf;simp;omega
     ·simp only[dG];omega
  ·exact h
 ·exact h
def atq{r:aP}(h:iG r=true):fp (kS r)=(yX r,0)/\(yX r).length<=211:=by
 have hl:=acg h;have hne:(kS r).length≠0:=by unfold kS;simp
 have hf:fp (kS r)=(oh (kS r),0):=by unfold fp;rw[if_neg qO]
 unfold yX;rw[hf];refine⟨rfl,?_⟩;show(oh (kS r)).length<=211;have:(oh (kS r)).length=(kS r).length+6:=by unfold oh vW;simp[WV,WU];omega
 omega
abbrev zT:bC:=⟨0,0,0,[]⟩
def acM(L:List aP)(h:L.all iG=true):(di L).length<=L.length*211:=by
 induction L with
 |nil=>simp[di]
 |cons r L ih=>
  rw[List.all_cons,qf]at h;have:=ih h.2;have h2:=(atq h.1).2;have e:di (r::L)=yX r++di L:=by unfold di;simp
  rw[e,bP,lT];omega
def Ba:Nat->bC->List UInt8->bC×Nat
 |0,s,_=>(s,0)
 |f+1,s,b=>
  if (ik b).2.2=0 then
   if (zx (ik b).1).2=0 then
    if (ku s (zx (ik b).1).1).2=0 then
     ((Ba f (ku s (zx (ik b).1).1).1 (b.drop (ik b).2.1)).1,(ik b).2.1+(Ba f (ku s (zx (ik b).1).1).1 (b.drop (ik b).2.1)).2)
    else(s,0)
   else(s,0)
  else(s,0)
def GL(s:bC)(b:List UInt8):bC×Nat:=Ba (b.length+1) s b
def akD(f:Nat):∀(m:Nat) (s:bC) (b:List UInt8),b.length<f->b.length<m->Ba f s b=Ba m s b:=by
 induction f with
 |zero=>intro m s b h;omega
 |succ f ih=>
  intro m s b hf hm;cases m with
  |zero=>omega
  |succ m=>
   unfold Ba;by_cases h1:(ik b).2.2=0
   ·have hs:=WJ b h1;rw[if_pos h1,if_pos h1,ih m _ (b.drop (ik b).2.1) (by rw[eY];omega) (by rw[eY];omega)]
   ·rw[if_neg h1,if_neg h1]
def akC{s:bC}{b:List UInt8}(h1:(ik b).2.2=0)(h2:(zx (ik b).1).2=0)(h3:(ku s (zx (ik b).1).1).2=0) :
  GL s b=((GL (ku s (zx (ik b).1).1).1 (b.drop (ik b).2.1)).1,(ik b).2.1+(GL (ku s (zx (ik b).1).1).1 (b.drop (ik b).2.1)).2):=by
 have hs:=WJ b h1;have e:GL (ku s (zx (ik b).1).1).1 (b.drop (ik b).2.1)=Ba b.length (ku s (zx (ik b).1).1).1 (b.drop (ik b).2.1):=akD _ _ _ _ (Nat.lt_succ_self _) (by rw[eY];omega);rw[e];show Ba (b.length+1) s b=_;rw[Ba,if_pos h1,if_pos h2,if_pos h3]
def amo{s:bC}{b:List UInt8}(h1:(ik b).2.2≠0):GL s b=(s,0):=by show Ba (b.length+1) s b=_;rw[Ba,if_neg h1]
def Dz(L:List aP):Prop:=L.all iG=true/\(steps zT L).2=0
def fJ(L:List aP):bC:=(steps zT L).1
def DY(s:bC)(L M:List aP)(h:(steps s L).2=0):steps s (L++M)=steps (steps s L).1 M:=by
 induction L generalizing s with
 |nil=>rfl
 |cons r L ih=>
  by_cases h0:(ku s r).2=0
  ·rw[steps,if_pos h0]at h;rw[List.cons_append,steps,if_pos h0,ih _ h,steps,if_pos h0]
  ·rw[steps,if_neg h0]at h;exact ai h h0
def WB(s:bC)(L:List aP)(k:Nat)(h:(steps s L).2=0):(steps s (L.take k)).2=0:=by
 induction L generalizing s k with
 |nil=>simpa using h
 |cons r L ih=>
  cases k with
  |zero=>rfl
  |succ k=>
   by_cases h0:(ku s r).2=0
   ·rw[steps,if_pos h0]at h;rw[List.take_succ_cons,steps,if_pos h0];exact ih _ _ h
   ·rw[steps,if_neg h0]at h;exact ai h h0
def Dz.nil:Dz []:=⟨rfl,rfl⟩
def aoz{L M:List aP}(h:Dz L)(h1:M.all iG=true)(h2:(steps (fJ L) M).2=0):Dz (L++M):=by
 refine⟨by rw[List.all_append,h.1,h1];rfl,?_⟩;rw[DY _ _ _ h.2];exact h2
def Si{L M:List aP}(h:Dz L):fJ (L++M)=(steps (fJ L) M).1:=by unfold fJ;rw[DY _ _ _ h.2]
def MN(r:aP)(L:List aP):di (r::L)=yX r++di L:=by unfold di;simp
def Rx(L M:List aP):di (L++M)=di L++di M:=by unfold di;simp
def JK{r:aP}(h:iG r=true):yX r=oh (kS r)/\0<(kS r).length/\(kS r).length<=4096:=by
 have h1:=ajv h;refine⟨?_,by omega,by omega⟩;unfold yX fp;rw[if_neg qO]
def ajE{r:aP}(h:iG r=true):(yX r).length=(kS r).length+6:=by rw[(JK h).1,Fj]
def ahR(s:bC)(x:V):Nat->V
 |3=>x
 |k=>.d (rq s k)
abbrev SS(s:bC):ST:=⟨[(0,.Wp 4 (λk=>.d (rq s k)))],1⟩
abbrev SR(s:bC):ST:=⟨[(0,.Wp 4 (ahR s (.row 1 s.log.length))),(1,bQ 50 2 pJ .z s.log)],2⟩
def Ue(b:List UInt8)(hb:b.length<=100000):aQ 195 [.d (bW b)] (.d (bW b)):=by
 refine ay func195 λX=>?_
 (repeat'(first|refine aC ?_|refine aO (Ii b.length (λj _=>gG (b.getD j 0)) qo) ?_|refine aj.mk (λh=>?_) (λh=>?_)|refine Fin.tell (VW.refl tv)|refine Fin.tell (pg ?_)))<;>try exact cls
 all_goals(have h9:=bT h;omega)
def ael(s:bC)(r:aP)(hf:s.floor<=r.a):af 196 [.ptr 0 0,tK r] (SS s) (λrv rt=>rv=(.b true)/\rt=(SS { s with floor:=r.a })):=by
 refine ay func196 λX=>?_
 (repeat'(first|refine aC ?_|refine bU 1 [] (ooz 7 []) ?_|refine mc ?_ ?_|refine aj.n (λh=>?_)|refine ag.a ?_|refine bM qN qN (vq (ah V.b ?_) tv) ?_))<;>(try(refine dm.mk ?_;repeat'(first|exact tv|exact rfl|refine an ?_ ?_|refine ag.mk ?_ ?_)))
 all_goals try exact cls
 all_goals(try(repeat'(first|exact tv|refine fE qN ?_ ?_|exact qV|refine an ?_ ?_)))
def aoK{s:bC}{r:aP}(h1:s.term<=r.a)(h2:r.a=s.term->s.cu=0\/s.cu=r.b):(bif decide (r.a<s.term) then true else bif bif decide (r.a=s.term) then !decide (s.cu=0) else false then !decide (s.cu=r.b) else false)=false:=by
 rw[aT qO,bz];by_cases e:r.a=s.term
 ·obtain e2|e2:=h2 e
  ·rw[aX e2];cases decide (r.a=s.term) <;> rfl
  ·rw[aX e2];cases (bif decide (r.a=s.term) then !decide (s.cu=0) else false) <;> rfl
 ·rw[aT e];rfl
def ae0(s:bC)(r:aP)(h1:s.term<=r.a)(h2:r.a=s.term->s.cu=0\/s.cu=r.b):af 197 [.ptr 0 0,tK r] (SS s) (λrv rt=>rv=(.b true)/\rt=(SS { s with term:=r.a,cu:=r.b })):=by
 refine ay func197 λX=>?_
 (repeat'(first|refine aC ?_|refine bU 1 [] (ooz 32 []) ?_|refine bU 3 [8,11] [o0,o2,o0,o0,o2,o2,o0,o0,o1,o3,o3,(1,1,true,[])] ?_|refine mc ?_ ?_|refine aj.mk (λh=>ai h (by rw[aoK h1 h2];decide)) (λh=>?_)|refine ag.a ?_|refine bM qN qN (vq (ah V.b ?_) tv) ?_))<;>(try(refine dm.mk ?_;repeat'(first|exact tv|exact rfl|refine an ?_ ?_|refine ag.mk ?_ ?_)))
 all_goals try exact cls
 all_goals(try(repeat'(first|exact tv|refine fE qN ?_ ?_|exact qV|refine an ?_ ?_)))
def ass{α:Type}{z:α}{l:List α}{a j:Nat}(h:j<a):l.getD j z=(l.take a).getD j z:=by rw[bn,bn,nX,if_pos h]
def agS(s:bC)(r:aP)(h1:1<=r.a/\r.a<=s.log.length)(hl:s.log.length<=100000):af 199 [.ptr 0 0,tK r] (SS s) (λrv rt=>rv=(.b true)/\rt=(SS { s with log:=s.log.take (r.a-1).toNat })):=by
 refine ay func199 λX=>?_
 (repeat'(first|refine aC ?_|refine bU 1 [] (ooz 8 []) ?_|refine bU 3 [11] (ooz 11 [o1]) ?_|refine mc ?_ ?_|refine aj.n (λh=>?_)|refine ag.a ?_|refine bM qN qN (vq (ah V.b ?_) tv) ?_))<;>(try(refine dm.mk ?_;repeat'(first|exact tv|exact rfl|refine an ?_ ?_|refine ag.mk ?_ ?_)))
 all_goals try exact cls
 all_goals(try(repeat'(first|exact tv|refine fE qN ?_ ?_|exact qV|refine VW.sl ?_ (λj hj k hk=>dR ?_)|refine an ?_ ?_)))
 all_goals first|(show(r.a-1).toNat=(s.log.take (r.a-1).toNat).length;rw[dG];omega)|(exact cm (ah (λe=>pJ e k) (ass hj)))
def aer(s:bC)(r:aP)(h1:r.a=s.log.length+1)(hl:s.log.length<=1000)(hx:r.x.length<=100000):af 198 [.ptr 0 0,tK r] (SR s) (λrv rt=>rv=(.b true)/\rt=(SR { s with log:=s.log++[⟨r.b,r.x⟩] })):=by
 refine ay func198 λX=>?_
 (repeat'(first|refine aC ?_|refine bU 1 [] (ooz 9 []) ?_|refine bU 3 [9,11,12,15] [(0,3,false,[]),(0,2,false,[]),(0,2,false,[]),(0,2,false,[]),(0,2,false,[]),o2,o2,o0,o0,o1,o3,(1,1,true,[]),(2,2,true,[]),(3,3,false,[]),(3,3,false,[]),(3,3,true,[])] ?_|refine mc ?_ ?_|refine aj.mk (λh=>ai h (by rw[aX h1];decide)) (λh=>?_)|refine kF (Ue r.x hx) ?_|refine ag.a ?_|refine bM qN qN (vq (ah V.b ?_) tv) ?_|refine ag.mk ?_ ?_))<;>(try(refine dm.mk ?_;repeat'(first|exact tv|exact rfl|refine aO (Ue r.x hx) ?_|refine an ?_ ?_|refine ag.mk ?_ ?_)))
 all_goals try exact cls
 all_goals(try(repeat'(first|exact tv|refine fE qN ?_ ?_|refine gU qN ?_ (λj hj k hk=>?_) ?_|exact qV|refine vq (ah (V.row _) ?_) qN|refine an ?_ ?_)))
 all_goals first|(simp;done)|(have hj:j<s.log.length+1:=hj;have hk:k<2:=hk;refine cm (vq ?_ trivial);refine Ak rfl hj fr (λj hj=>?_);obtain rfl:j=0:=Nat.lt_one_iff.1 hj;obtain _|_|k:=k;rfl;rfl;omega)
def auL(s:bC)(hl:s.log.length<=100000):af 138 [jC s] e0 (λrv rt=>rv=(.agg 4 (ahR s (.row 2 s.log.length)))/\rt=⟨[(2,bQ 50 2 pJ .z s.log)],3⟩):=by
 refine ay func138 λX=>?_
 (repeat'(first|refine aC ?_|refine mY (an1 s.log.length (λj=>pJ (s.log.getD j .z)) qo) ?_|refine ag.a ?_|refine bM qN qN (gu vw) ⟨⟨nb rfl,aW.row rfl fv⟩,tv⟩))<;>try exact cls
def aaf(s:bC)(hl:s.log.length<=100000):aQ 138 [jC s] (jC s):=by
 refine ay func138 λX=>?_
 (repeat'(first|refine aC ?_|refine aO (Yj s.log.length (λj=>pJ (s.log.getD j .z)) qo) ?_|refine ag.a ?_|refine Fin.tell (gu vw)))<;>try exact cls
def fnK(k:Int):Nat:=if k=1 then 196 else if k=2 then 197 else if k=3 then 198 else 199
def Qq(k:Int):Nat->V
 |0=>iV (kd k).least|1=>iV (kd k).dO|2=>.b (kd k).second|3=>iV (kd k).UT|4=>iV ((kd k).UQ:Nat)|_=>.fn (fnK k) 0 0 (λ_=>.top)
abbrev Bv(k:Int):V:=.agg 6 (Qq k)
abbrev VP:aK:=.map [(4,Bv 4),(3,Bv 3),(2,Bv 2),(1,Bv 1)]
def ah0(N:Nat):List (Int×V)->List (Int×V)->Prop
 |[],[]=>True
 |(j,v)::r,(k,u)::q=>(j=k/\VW N v u)/\ah0 N r q
 |_,_=>False
def Yr{N:Nat}:∀ {a b:List (Int×V)},ah0 N a b->aW N (.map a) (.map b)
 |[],[],_=>λk=>trivial
 |(j,v)::r,(k,u)::q,h=>λx=>by
  obtain⟨⟨rfl,h1⟩,h2⟩:=h;have ih:=Yr h2 x;show match (bif decide (j=x) then some v else dY r x),(bif decide (j=x) then some u else dY q x) with
   |some v,some v'=>VW N v v'
   |none,none=>True
   |_,_=>False
  cases decide (j=x)
  ·exact ih
  ·exact h1
 |[],_::_,h=>h.elim
 |_::_,[],h=>h.elim
def FZ{P:Nat->Prop}{k:Int}:je P (Bv k):=λj hj=>by
 obtain _|_|_|_|_|j:=j
 all_goals first|exact tv|exact λi hi=>ai hi (qh i)
def YT{P:Nat->Prop}{k:Int}:je P (.gQ 2 (λj=>match j with|0=>Bv k|_=>.b true)):=λj hj=>by
 obtain _|j:=j
 ·exact FZ
 ·exact tv
def atY{P:Nat->Prop}:∀ j,j<6->je P (iM 241 j):=λj hj=>by
 obtain _|_|_|_|_|_|j:=j
 all_goals first|exact tv|(exact λi hi=>ai hi (qh i))|omega
def au5{N:Nat}{φ:Nat->Option Nat}{j k:Int}(h:decide (j=k)=true):VW N (dI φ (okV true (Bv j) true)) (.gQ 2 (λq=>match q with|0=>Bv k|_=>.b true)):=by
 obtain rfl:=bT h;exact xu (P:=λ_=>False) (λk h=>h.elim) YT
def no4{k:Int}(h4:decide (4=k)=false)(h3:decide (3=k)=false)(h2:decide (2=k)=false)(h1:decide (1=k)=false):¬(1<=k/\k<=4):=by
 have:=bV h4;have:=bV h3;have:=bV h2;have:=bV h1;omega
def ahU(r:aP)(b0 b7 b8:Bool):ST:=⟨[(0,.Wp 4 (λk=>.d (pI r k))),(1,bif b0 then VP else .dead),(2,bif b7 then .Wp 6 (bif b8 then Qq r.kind else iM 241) else .dead)],3⟩
def ahi(r:aP):List V:=[.mp 1,.ptr 0 0,iV r.kind,.gQ 2 (λk=>match k with|0=>Bv r.kind|_=>.b true),.gQ 2 (λk=>match k with|0=>Bv r.kind|_=>.b true),Bv r.kind,.b true,.ptr 2 0,.top,.b true]
def ajU {p:Prop} (h:p:=by
 (repeat'(first|refine aC ?_|refine ay (f:=152) func152 λX2=>?_|exact xu (P:=λ_=>False) (λk h=>h.elim) YT|exact xu (P:=λ_=>False) (λk h=>h.elim) FZ|exact au5 h|exact ai h1 (no4 aG aG aG aG)|refine Fin.here ?_|refine Yr ?_|exact x9.same rfl rfl rfl|refine x9.new ?_|exact tv|exact qV|exact BR (hr.old _ rfl) qN|exact BR (hr.new _ 0 rfl) qN|exact ZW (hr.new _ 0 rfl) qN|refine gu ?_|refine gX ?_|refine ag.mk qN ?_|refine aj.mk (λh=>?_) (λh=>?_)|refine aW.Wp ?_|refine an ?_ ?_))<;>(exact rfl)):p:=h
def ap6(r:aP)(h1:1<=r.kind/\r.kind<=4){X:Cx e0}{id:Nat}{Q:Exit->AS->Prop}(hq:Q .normal ⟨72,rf (nP f137 1).toList (ahi r)++[(3,iV 0),(2,.dC),(1,.ptr 0 0),(0,tK r)],ahU r true true true⟩):T X (.region id (nP f137 1) true) Q ⟨72,[(3,iV 0),(2,.dC),(1,.ptr 0 0),(0,tK r)],⟨[(0,.Wp 4 (λk=>.d (pI r k)))],1⟩⟩:=by
 refine Oq (ahi r) 3 [none,some (0,0),some (7,0)] (λD=>ahU r (D 0) (D 7) (D 8)) qK ?_ ?_;refine { len:=rfl,vT:=rfl,dst:=rfl,back:=rfl,II:=rfl,nx:=λD=>rfl,keys:=λD=>rfl,small:=λD=>rfl,low:=?_,base:=?_,KN:=?_,axI:=?_,ids:=?_,Ko:=?_,step:=?_ }
 ·intro k hk;exact ai hk (qh k)
 ·refine⟨nb rfl,λk hk=>?_⟩;obtain _|_|_|k:=k
  ·exact .inr (aW.Wp vw)
  ·exact .inl rfl
  ·exact .inl rfl
  ·omega
 ·exact⟨tv,tv,rfl,λj hj=>True.intro,tv⟩
 ·intro e v hv;obtain _|_|_|_|_|_|_|_|_|_|e:=e
  all_goals first|(obtain rfl:=fD hv;first|exact tv|exact .inl rfl|exact .inr ⟨_,_,rfl,.inl rfl⟩|exact FZ|exact YT)|exact ai (show(none:Option V)=some v from hv) nofun
 ·intro D hc k hk;obtain _|_|_|k:=k
  ·exact λj hj=>True.intro
  ·show ni _ (bif D 0 then VP else .dead);cases D 0
   ·exact tv
   ·exact Yb ⟨FZ,FZ,FZ,FZ,tv⟩
  ·show ni _ (bif D 7 then .Wp 6 (bif D 8 then Qq r.kind else iM 241) else .dead);cases D 7
   ·exact tv
   ·cases D 8
    ·exact atY
    ·exact FZ
  ·omega
 ·intro D k e q hD hk;obtain _|_|_|k:=k
  ·cases hk
  ·obtain⟨rfl,_⟩:=Prod.mk.inj (fD (fD hk));show(bif D 0 then VP else .dead)=aK.dead;rw[hD];rfl
  ·obtain⟨rfl,_⟩:=Prod.mk.inj (fD (fD hk));show(bif D 7 then _ else .dead)=aK.dead;rw[hD];rfl
  ·cases hk
 ·refine UL (0::0::2::7::15::31::31::0::191::511::[]) 10 rfl rfl λi o v ho hv=>?_
  obtain _|_|_|_|_|_|_|_|_|_|i:=i
  all_goals first|exact ai (show(none:Option Oper)=some o from ho) nofun|(obtain rfl:=fD ho;obtain rfl:=fD hv;refine⟨by(rfl),λD φ hc hr=>?_⟩;obtain⟨b0,D,rfl⟩:=Ud D 0;obtain⟨b7,D,rfl⟩:=Ud D 7;cases b0 <;> cases b7 <;> exact ajU)
 ·exact hq
def awr{r:aP}(h:iG r=true){b:Bool}(hb:(bif (bif (bif (bif (bif !true then true else decide (r.a<(kd r.kind).least)) then true else decide ((kd r.kind).dO<r.a)) then true else decide (r.b<0)) then true else decide ((kd r.kind).UT<r.b)) then true else decide (((kd r.kind).UQ:Int)<(r.x.length:Int)))=b):b=false:=by
 obtain⟨h1,h2,h3,h4,h5,h6,h7⟩:=wP h;rw[<-hb,aT qO,aT qO,aT qO,aT qO,aT qO];rfl
def VJ(r:aP):List UInt8:=[iK r.kind.toNat]++dK r.a.toNat
def EY(r:aP):List UInt8:=VJ r++(if (kd r.kind).second=true then dK r.b.toNat else [])
def ahh(r:aP):kS r=EY r++r.x:=rfl
def ap5{r:aP}(h:iG r=true):(EY r).length<=300:=by
 have:=acg h;rw[ahh,bP]at this;omega
def byk{r:aP}(h:iG r=true):V.d (.v (.int .u8 r.kind))=V.d (gG ([iK r.kind.toNat].getD 0 0)):=by
 have h9:=wP h;show V.d (.v (.int .u8 r.kind))=V.d (.v (.int .u8 ((iK r.kind.toNat).toNat:Nat)));rw[wJ,show((r.kind.toNat % 256:Nat):Int)=r.kind by omega]
def Uc(r:aP)(h0:iG r=true):aQ 137 [tK r] (bI [.d (bW (kS r)),iV 0]):=by
 refine ay func137 λX=>?_
 (repeat'(first|refine ap6 r ⟨(wP h0).1,(wP h0).2.1⟩ ?_|refine T.cut (x:=.region 5 _ _) ⟨72,[(1,.ptr 0 0),(4,.ptr 2 0),(6,.row 3 (VJ r).length)],⟨[(0,.Wp 4 (λk=>.d (pI r k))),(2,.Wp 6 (Qq r.kind)),(3,kL (VJ r))],4⟩⟩ ?_ ?_|refine T.cut (x:=.seq (.region 6 _ _) _) ⟨72,[(1,.ptr 0 0),(4,.ptr 2 0),(6,.row 3 (EY r).length)],⟨[(0,.Wp 4 (λk=>.d (pI r k))),(2,.Wp 6 (Qq r.kind)),(3,kL (EY r))],4⟩⟩ ?_ ?_|refine aj.mk (λh=>ai (awr h0 h) (by decide)) (λh=>?_)|refine aC ?_|refine af.tell (Ou r.a.toNat (by have:=rV h0;omega)) ⟨vq (ah (V.int .u64) (by have:=rV h0;omega)) tv,tv⟩ ?_|refine af.tell (Ou r.b.toNat (by have:=rV h0;omega)) ⟨vq (ah (V.int .u64) (by have:=rV h0;omega)) tv,tv⟩ ?_|refine aj.mk (λh=>?_) (λh=>?_)|refine ag.a ?_|refine FD (C:=λb _=>gG b) (z:=0) (L:=kS r) rfl ?_ ?_ (λj hj k hk=>?_) qV|refine ag.mk ?_ ?_))<;>(try(refine leq ?_ ?_ <;> repeat'(first|exact tv|exact qV|exact qW|refine vq (ah (V.row _) ?_) qN|refine gX ?_|refine fE qN ?_ ?_|refine gU qN ?_ (λj hj k hk=>?_) ?_|refine an ?_ ?_)))
 all_goals first|exact rfl|(unfold EY;rw[if_pos aG,bP];done)|(unfold EY;rw[if_neg (by rw[show(kd r.kind).second=false from by assumption];decide),pO];done)|(have h8:=rV h0;have h9:=wP h0;simp only[dM];omega)|(have q2:=vN r.a.toNat;have q3:=vN r.b.toNat;have h8:=rV h0;have h9:=ap5 h0;first|omega|(simp[VJ,EY,ahh];omega))|(have hk:k<1:=hk;obtain rfl:k=0:=Nat.lt_one_iff.1 hk;refine cm (kU (C:=λb _=>gG b) (z:=0) (a:=[iK r.kind.toNat]) (b:=dK r.a.toNat) rfl hj (λj hj=>?_) fv);obtain rfl:j=0:=Nat.lt_one_iff.1 hj;exact byk h0)|(have hk:k<1:=hk;obtain rfl:k=0:=Nat.lt_one_iff.1 hk;refine cm (vq ?_ trivial);unfold EY;rw[if_pos aG];exact Ak (C:=λb _=>gG b) (z:=0) rfl (by simpa using hj) fr fr)|(have hk:k<1:=hk;obtain rfl:k=0:=Nat.lt_one_iff.1 hk;refine cm (vq ?_ trivial);unfold EY;rw[if_neg (by rw[show(kd r.kind).second=false from by assumption];decide),pO];done)|(have hk:k<1:=hk;obtain rfl:k=0:=Nat.lt_one_iff.1 hk;exact Ak (C:=λb _=>gG b) (z:=0) rfl (by simpa using hj) fr fr)
def yT(r:aP):List UInt8:=(if (kd r.kind).second=true then dK r.b.toNat else [])++r.x
def vz(r:aP):List UInt8:=dK r.a.toNat++yT r
def afr(r:aP):kS r=iK r.kind.toNat::vz r:=by
 unfold kS vz yT;simp[jV]
def Yu(n:Nat)(l:List UInt8)(h:n<18446744073709551616):aQ 194 [.d (bW (dK n++l))] (bI [.d (.v (.int .u64 n)),iV (gZ n),iV 0]):=by
 have:=aeY (dK n++l);unfold PK at this;rw[wM n l qO]at this;exact this
def NH{l m:List UInt8}{j:Nat}:(l++m).getD (l.length+j) 0=m.getD j 0:=by
 rw[bn,bn,oP qO,Nat.add_sub_cancel_left]
def aac{r:aP}(h:(kd r.kind).second=true):yT r=dK r.b.toNat++r.x:=by unfold yT;rw[if_pos h]
def auG{r:aP}(h:(kd r.kind).second=false):yT r=r.x:=by unfold yT;rw[if_neg (by rw[h];decide)];rfl
def FV:af 152 [] e0 (λv t=>v = .mp 0/\t=⟨[(0,VP)],1⟩):=by
 refine ay func152 λX=>?_
 (repeat'(first|refine aC ?_|refine bM qN qN qW ⟨⟨nb rfl,Yr ?_⟩,tv⟩|refine gu ?_|refine gX ?_|exact tv|exact qV|refine ag.mk qN ?_|refine an ?_ ?_))<;>try exact cls
def pC(k a b:V):Nat->V
 |0=>k|1=>a|2=>b|_=>.dC
def amJ(r:aP)(h0:iG r=true)(hrk:r.kind=1):aQ 150 [.d (bW (iK r.kind.toNat::vz r))] (bI [tK r,.b true]):=by refine ay func150 λX=>?_;exact abE
def amI(r:aP)(h0:iG r=true)(hrk:r.kind=2):aQ 150 [.d (bW (iK r.kind.toNat::vz r))] (bI [tK r,.b true]):=by refine ay func150 λX=>?_;exact abD
def amH(r:aP)(h0:iG r=true)(hrk:r.kind=3):aQ 150 [.d (bW (iK r.kind.toNat::vz r))] (bI [tK r,.b true]):=by refine ay func150 λX=>?_;exact abD
def amG(r:aP)(h0:iG r=true)(hrk:r.kind=4):aQ 150 [.d (bW (iK r.kind.toNat::vz r))] (bI [tK r,.b true]):=by refine ay func150 λX=>?_;exact abE
def aqd(r:aP)(h0:iG r=true):aQ 150 [.d (bW (iK r.kind.toNat::vz r))] (bI [tK r,.b true]):=by
 have h:=wP h0;rcases(show r.kind=1\/r.kind=2\/r.kind=3\/r.kind=4 by omega) with e|e|e|e
 ·exact amJ r h0 e
 ·exact amI r h0 e
 ·exact amH r h0 e
 ·exact amG r h0 e
def ahv{s:bC}{r:aP}(hk:r.kind=1)(h:mO s r=true):s.floor<=r.a:=by
 unfold mO at h;rw[if_pos hk]at h;exact bT h
def U6{s:bC}{r:aP}(hk:r.kind=2)(h:mO s r=true):s.term<=r.a/\(r.a=s.term->s.cu=0\/s.cu=r.b):=by
 unfold mO at h;rw[if_neg qO,if_pos hk]at h;simp only[nY,Bool.or_eq_false_iff,iy]at h;refine⟨by omega,λe=>?_⟩;have h2:=h.2;rw[show(r.a == s.term)=true by simp[e]]at h2;by_cases h3:s.cu=0
 ·exact .inl h3
 ·right;simpa [h3] using h2
def ahu{s:bC}{r:aP}(hk:r.kind=3)(h:mO s r=true):r.a=s.log.length+1:=by
 unfold mO at h;rw[if_neg qO,if_neg qO,if_pos hk]at h;simpa using h
def aht{s:bC}{r:aP}(hk:r.kind=4)(h:mO s r=true):r.a<=s.log.length:=by
 unfold mO at h;rw[if_neg qO,if_neg qO,if_neg qO]at h;exact bT h
def auW{s:bC}{r:aP}(hk:r.kind=1):mZ s r={ s with floor:=r.a }:=by unfold mZ;rw[if_pos hk]
def auV{s:bC}{r:aP}(hk:r.kind=2):mZ s r={ s with term:=r.a,cu:=r.b }:=by unfold mZ;rw[if_neg qO,if_pos hk]
def auU{s:bC}{r:aP}(hk:r.kind=3):mZ s r={ s with log:=s.log++[⟨r.b,r.x⟩] }:=by unfold mZ;rw[if_neg qO,if_neg qO,if_pos hk]
def auT{s:bC}{r:aP}(hk:r.kind=4):mZ s r={ s with log:=s.log.take (r.a-1).toNat }:=by unfold mZ;rw[if_neg qO,if_neg qO,if_neg qO]
def ao7(s:bC)(r:aP)(h0:iG r=true)(hrk:r.kind=1)(hf:mO s r=true)(hl:s.log.length<=200):aQ 102 [jC s,tK r] (bI [jC ({ s with floor:=r.a }),iV 0]):=by refine ay func102 λX=>?_;exact WA
def ao6(s:bC)(r:aP)(h0:iG r=true)(hrk:r.kind=2)(hf:mO s r=true)(hl:s.log.length<=200):aQ 102 [jC s,tK r] (bI [jC ({ s with term:=r.a,cu:=r.b }),iV 0]):=by refine ay func102 λX=>?_;exact WA
def ao4(s:bC)(r:aP)(h0:iG r=true)(hrk:r.kind=4)(hf:mO s r=true)(hl:s.log.length<=200):aQ 102 [jC s,tK r] (bI [jC ({ s with log:=s.log.take (r.a-1).toNat }),iV 0]):=by refine ay func102 λX=>?_;exact WA
def ao5(s:bC)(r:aP)(h0:iG r=true)(hrk:r.kind=3)(hf:mO s r=true)(hl:s.log.length<=200):aQ 102 [jC s,tK r] (bI [jC ({ s with log:=s.log++[⟨r.b,r.x⟩] }),iV 0]):=by
 refine ay func102 λX=>?_
 (repeat'(first|refine aC ?_|refine bU 5 [0,6] [o1,o2,o2,o3,o3,o2,(1,1,true,[]),(2,2,false,[])] ?_|refine mc ?_ ?_|refine aj.n (λh=>?_)|refine lq (λh=>?_)|refine aO (Uc r h0) ?_|refine mY (auL s qo) ?_|refine JV FV ?_|refine Am [6,5] (aer s r (ahu hrk hf) qo (by have:=rV h0;omega)) ?_|refine aj.n (λh=>?_)|refine ag.a ?_|refine Fin.eG (i:=5) (h:=λj=>pJ ((s.log++[bH.mk r.b r.x]).getD j .z)) sF (Fin.tell (fH [jC ({ s with log:=s.log++[⟨r.b,r.x⟩] }),iV 0] rfl fr vw))))<;>(try(refine dm.mk ?_;repeat'(first|exact tv|exact rfl|refine aj.n (λh=>?_)|refine lq (λh=>?_)|refine mY FV ?_|refine fO [6,5] (aer s r (ahu hrk hf) qo (by have:=rV h0;omega)) ?_|refine an ?_ ?_|refine ag.mk ?_ ?_)))
 all_goals try exact cls
def atp(s:Int)(A:Option Addr)(l:List UInt8)(n cap:Nat)(w:World)(hn:l.length=n)(h0:0<=s)(h1:s<4294967296)(hA:Bs w w.heap.size A l)(hl:l.length<=140737488351232) :
  Calls prog 221 #[.int .u32 s,.slice A n cap] w λe w'=>e = .returned (.int .u32 (pG s l))/\Below w.heap.size w w':=by
 subst hn;go_enter func221,ntmps221;go_wp2
 go_loopw [7,17] (λ_ i wr=>∃ k:Nat,k<=l.length/\i = .int .i64 k/\qc wr w.heap.size 303 #[.int .u32 (ak s l k).1,.int .u32 (ak s l k).2]/\Below w.heap.size w wr) (λ_ i _=>l.length-(intOf i).toNat)
 case atStart=>exact⟨0,by omega,rfl,qc.new _ _ _,(Below.refl _ _).alloc (bF _) _⟩
 case round=>
  obtain⟨k,hk,rfl,hblk,hb⟩:=hrel;obtain⟨a1,a2,a3,a4⟩:=avP s l k;have c0:=hblk.cell 0;have c1:=hblk.cell 1;have f0:=hblk.free 0;have f1:=hblk.free 1;simp at c0 c1;by_cases hlt:k<l.length
  ·obtain⟨b,off,rfl,hbB,hc⟩:=hA qO;have hcx:=(hb.cell (p:=⟨b,off+k,none⟩) hbB).trans (hc k hlt);have hbt:(l[k].toNat:Int)<=255:=by have:=l[k].toNat_lt;omega
   have hsucc:=Lib.hid (ar2 s l k hlt);go_wp2
   go_roundw
   case rel=>
    have e:=hsucc.out;simp only[bn,dV hlt,Option.getD_some]at e;exact⟨k+1,by omega,by go_num,by rw[e];simpa [yG] using(hblk.set 0 _).set 1 _,(hb.setCell (by simp) _).setCell (by simp) _⟩
   case measure=>simp[intOf];omega
  ·obtain rfl:k=l.length:=qO;have hv:65536*(ak s l l.length).2+(ak s l l.length).1=pG s l:=atK s l;have HV:=Lib.hid hv;clear hv;go_wp2;go_ret;exact⟨by rw[<-HV.out];rfl,hb⟩
def ae9(A:Option Addr)(l:List UInt8)(n cap:Nat)(w:World)(hn:l.length=n)(hA:Bs w w.heap.size A l)(hl:l.length<=140737488351232) :
  Calls prog 183 #[.slice A n cap] w λe w'=>e = .returned (.int .u32 (pG 1 l))/\Below w.heap.size w w':=by
 have HN:=Lib.hid hn;clear hn;go_enter func183,ntmps183;go_wp2_with fail;refine(atp 1 A l n cap _ HN.out qO qO hA hl).mono ?_;rintro e w' ⟨rfl,hb⟩;go_wp2;go_ret;exact⟨rfl,hb⟩
def ati(A:Option Addr)(l:List UInt8)(n cap:Nat)(s:Int)(w:World)(hn:l.length=n)(hA:Bs w w.heap.size A l)(hl:l.length<=140737488351232) :
  Calls prog 149 #[.slice A n cap,.int .u32 s] w λe w'=>e = .returned (.bool (pG 1 l == s))/\Below w.heap.size w w':=by
 have HN:=Lib.hid hn;clear hn;go_enter func149,ntmps149;go_wp2_with fail;refine(ae9 A l n cap _ HN.out hA hl).mono ?_;rintro e w' ⟨rfl,hb⟩;go_wp2;go_ret;exact⟨rfl,hb⟩
def ap7(A:Option Addr)(n c:Nat)(w:World)(h:n=0\/4096<n)(hn:n<=9223372036854775807) :
  Calls prog 139 #[.slice A n c] w λe w'=>e = .returned (.tuple #[.slice none 0 0,.int .i64 4])/\w=w':=by
 obtain rfl|h:=h
 ·go_enter func139,ntmps139;go_wp2;go_ret2;exact⟨rfl,rfl⟩
 ·have h0:((n:Int) == 0)=false:=by simp;omega
  go_enter func139,ntmps139;go_wp2;go_ret2;exact⟨rfl,rfl⟩
def av3(w:World)(x:List UInt8)(e:Ending)(w':World):Prop:=
 ∃ A c,e = .returned (.tuple #[.slice A (x.length+6) c,.int .i64 0])/\Own w' w.heap.size A (x.length+6) c (oh x)/\Below w.heap.size w w'
def alx(n:Nat)(h:n<65536):(#[Value.int .u8 ((n:Int) / 256),.int .u8 ((n:Int) % 256)]:Array Value).toList.take (Ff n).length=(Ff n).map bv:=by
 simp[Ff,bv,axJ];omega
def alv(q:Nat)(h:q<4294967296):(#[Value.int .u8 ((q:Int) / 16777216),.int .u8 ((q:Int) / 65536 % 256),.int .u8 ((q:Int) / 256 % 256),.int .u8 ((q:Int) % 256)]:Array Value).toList.take (BC q).length=(BC q).map bv:=by
 simp[BC,bv,axJ];omega
def asN(A:Option Addr)(x:List UInt8)(n c:Nat)(w:World)(hn:x.length=n)(h0:0<n)(h1:n<=4096)(hA:Bs w w.heap.size A x) :
  Calls prog 139 #[.slice A n c] w (av3 w x):=by
 have HN:=Lib.hid hn;clear hn;have hz:((n:Int) == 0)=false:=by simp;omega
 have r0:=Below.refl w.heap.size w;have hb2:=Lib.hid (alx n qO);go_enter func139,ntmps139;go_wp2_with (first
  |(at_make;refine mk0 rfl (.const (.int .i64 0)) (.tmp 17) rfl .i64 .i64 _ (n+6) rfl rfl qO qO (bF _) ?_;intro w1 o1 g1;have b1:Below w.heap.size w w1:=r0.grown g1 (bF _) (by simp))
  |(at_builtin;refine app rfl (.tmp 19) (.tmp 27) rfl rfl (o1.alloc _) rfl rfl (Bs.new (Nat.lt_succ_self _) hb2.out) qO (kE b1.size (by simp)) ?_;intro A2 c2 w2 o2 g2 _;simp only[jq,List.nil_append]at o2;have b2:Below w.heap.size w w2:=Own.grown (o1.alloc _) (b1.alloc b1.size _) g2;have s2:=hA.below b2)
  |(at_builtin;refine app rfl (.tmp 29) (.tmp 30) rfl rfl o2 rfl HN.out s2 qO b2.size ?_;intro A3 c3 w3 o3 g3 _;have b3:Below w.heap.size w w3:=Own.grown o2 b2 g3))
 have hfb:Ff n++x=vW x:=by rw[<-HN.out];rfl
 rw[hfb]at o3;have hfl:=Lib.hid (show(vW x).length=2+n by rw[QI,HN.out,Nat.add_comm]);clear hfb g1 g2 g3 o1 o2 b1 b2 s2;refine(ae9 A3 (vW x) _ c3 _ hfl.out o3.bs (by rw[hfl.out];omega)).mono ?_;rintro e w4 ⟨rfl,d4⟩;have o4:=o3.step d4;have b4:=b3.trans (d4.mono b3.size);have hs:=aeM 1 (vW x);obtain⟨q,hq⟩:∃ q:Nat,pG 1 (vW x)=(q:Int):=⟨_,(Int.toNat_of_nonneg hs.1).symm⟩;have HQ:=Lib.hid hq;rw[hq];have hq2:q<4294967296:=qO;clear hq hs;have hb4:=Lib.hid (alv q hq2);have hL:=Lib.hid (show 2+n+4=x.length+6 by rw[HN.out];omega);have hfin:=Lib.hid (show vW x++BC q=oh x by unfold oh;rw[HQ.out];rfl);go_wp2_with (at_builtin;refine app rfl (.tmp 34) (.tmp 46) rfl rfl (o4.alloc _) rfl rfl (Bs.new (Nat.lt_succ_self _) hb4.out) qO (kE b4.size (by simp)) ?_;intro A5 c5 w5 o5 g5 _;have b5:Below w.heap.size w w5:=Own.grown (o4.alloc _) (b4.alloc b4.size _) g5);go_ret2;refine⟨A5,c5,by rw[<-hL.out];rfl,?_,b5⟩;rw[<-hL.out,<-hfin.out];exact o5
def atX(w:World)(l:List UInt8)(n:Nat)(e:Ending)(w':World):Prop:=
 ∃ A c,e = .returned (.slice A n c)/\Own w' w.heap.size A n c l/\Below w.heap.size w w'
def ajL(a:Addr)(l:List UInt8)(n c:Nat)(w:World)(hn:l.length=n)(hs:n<=140737488351232)(hA:Bs w w.heap.size (some a) l) :
  Calls prog 74 #[.slice (some a) n c] w (atX w l n):=by
 have HN:=Lib.hid hn;clear hn;have r0:=Below.refl w.heap.size w;have b0:=r0.alloc (bF _) (.cells #[] 5);have he:=aeQ (w:=w) (base:=w.heap.size) (E:=5) (bF _);have s0:=hA.below b0;have hq:=λ(w:World) (c:Nat)=>Lib.run_eql_slice_nil (P:=prog) w 48 5 (some a) n c 0 0 underlying48
 go_enter func74,ntmps74;go_wp2_with (at_builtin;refine app rfl (.tmp 5) (.tmp 6) rfl rfl he rfl HN.out s0 qO b0.size ?_;intro A1 c1 w1 o1 g1 _;simp only[jq,List.nil_append]at o1;have b1:Below w.heap.size w w1:=Own.grown he b0 g1);go_ret;exact⟨A1,c1,rfl,o1,b1⟩
def ail(w:World)(x:List UInt8)(m:Nat)(k:Int)(e:Ending)(w':World):Prop:=
 ∃ A c,e = .returned (.tuple #[.slice A x.length c,.int .i64 m,.int .i64 k])/\Own w' w.heap.size A x.length c x/\Below w.heap.size w w'
def akc(A:Option Addr)(n c:Nat)(w:World)(hn:n<2) :
  Calls prog 100 #[.slice A n c] w (ail w [] 0 2):=by
 go_enter func100,ntmps100;go_wp2;go_ret3;exact⟨none,0,rfl,FY _ _ _,Below.refl _ _⟩
def ai6(a:Nat)(b:UInt8)(h2:a<65536):bits .or .i64 ((a:Int)*256) (b.toNat:Int)=((256*a+b.toNat:Nat):Int):=by
 have hb:=b.toNat_lt;rw[bits_join .i64 40 qD (λn h1 h2=>IntWalk.i64_in n qO) 8 _ _ qO qO qO qO qO qO];omega
def aiM(a:Nat)(b:UInt8)(h2:a<16777216):bits .or .u32 ((a:Int)*256) (b.toNat:Int)=((a*256+b.toNat:Nat):Int):=by
 have hb:=b.toNat_lt;rw[bits_join .u32 32 qD (λn h1 h2=>IntWalk.u32_in n qO) 8 _ _ qO qO qO qO qO qO];omega
def alS(A:Option Addr)(b:List UInt8)(n c:Nat)(w:World)(hn:b.length=n)(hcap:n<=c)(hm:n<=140737488351232)(hA:Bs w w.heap.size A b) :
  Calls prog 100 #[.slice A n c] w (ail w (ik b).1 (ik b).2.1 (ik b).2.2):=by
 by_cases h2:n<2
 ·have hf:ik b=([],0,2):=by unfold ik;rw[if_pos qO]
  rw[hf];exact akc A n c w h2
 have HN:=Lib.hid hn;obtain⟨g,off,rfl,hg,hc⟩:=id hA qO;have c0:=hc 0 qO;have c1:=hc 1 qO;rw[Nat.add_zero]at c0;obtain⟨M,hM⟩:∃ M,jo b=M:=⟨_,rfl⟩;have hor:=ai6 (b.getD 0 0).toNat (b.getD 1 0) (by have:=(b.getD 0 0).toNat_lt;omega);rw[show 256*(b.getD 0 0).toNat+(b.getD 1 0).toNat=M from hM]at hor;have l0:=(b.getD 0 0).toNat_lt;have l1:=(b.getD 1 0).toNat_lt;generalize b.getD 0 0=x0 at *;generalize b.getD 1 0=x1 at *;have HF:=Lib.hid (show ik b=if M=0\/4096<M then([],0,3) else if n<M+6 then([],0,2) else if pG 1 (b.take (M+2))=(rY ((b.drop (M+2)).take 4):Nat) then((b.drop 2).take M,M+6,0) else([],0,3) by
  unfold ik;rw[if_neg qO,hM,hn])
 clear hn hM;go_enter func100,ntmps100;go_wp2_with fail
 go_quiet (fail)
 clear hor c0 c1 l0 l1 hc;by_cases hbad:M=0\/4096<M
 ·have HF2:=Lib.hid (show ik b=([],0,3) by rw[HF.out,if_pos hbad]);obtain rfl|hbad:=hbad
  ·go_wp2_with fail;go_ret3;rw[HF2.out];exact⟨none,0,rfl,FY _ _ _,below_drewN (Below.refl _ _) _⟩
  ·have hz:((M:Int) == 0)=false:=by simp;omega
   go_wp2_with fail;go_ret3;rw[HF2.out];exact⟨none,0,rfl,FY _ _ _,below_drewN (Below.refl _ _) _⟩
 ·obtain⟨m1,m2⟩:0<M/\M<=4096:=qO;have hz:((M:Int) == 0)=false:=by simp;omega
  by_cases hs:n<M+6
  ·have HF2:=Lib.hid (show ik b=([],0,2) by rw[HF.out,if_neg hbad,if_pos hs]);clear hbad;go_wp2_with fail;go_ret3;rw[HF2.out];exact⟨none,0,rfl,FY _ _ _,below_drewN (Below.refl _ _) _⟩
  ·have HF2:=Lib.hid (show ik b=if pG 1 (b.take (M+2))=(rY ((b.drop (M+2)).take 4):Nat) then((b.drop 2).take M,M+6,0) else([],0,3) by rw[HF.out,if_neg hbad,if_neg hs]);clear hbad HF;go_wp2_with fail;obtain⟨z,VT⟩:∃ z,(b.drop (M+2)).take 4=z:=⟨_,rfl⟩;have hzl:z.length=4:=by rw[<-VT];simp;have:=HN.out;omega
   have hAz:Bs w w.heap.size (some ⟨g,off+(2+M),none⟩) z:=by
    rw[<-VT,show M+2=2+M by omega];exact(hA.drop (2+M)).take 4
   rw[VT]at HF2;have HZ:=Lib.hid hzl;have awQ:z.length<=4:=qO;clear hzl VT;obtain⟨g',off',he,lN,hcz⟩:=id hAz (by have:=HZ.out;omega);injection he with he
   injection he with h1 h2
   subst h1 h2
   go_loop [7,9,42] (λs _ i=>∃ k:Nat,k<=4/\i = .int .i64 k/\s = .int .u32 (rY (z.take k):Nat)) (λ_ _ i=>4-(intOf i).toNat)
   case atStart=>exact⟨0,by omega,rfl,rfl⟩
   case round=>
    obtain⟨k,hk,rfl,rfl⟩:=hrel;by_cases hlt:k<4
    ·have hcx:=hcz k (by have:=HZ.out;omega);have hbv:=aok (z.take k);have hlen:(z.take k).length<=3:=by simp;omega
     have hp:256^(z.take k).length<=256^3:=Nat.pow_le_pow_right qO hlen;have aw0:rY (z.take k)<16777216:=qO;have hsn:rY (z.take (k+1))=rY (z.take k)*256+(z.getD k 0).toNat:=by
      rw[List.take_succ_eq_append_getElem (by have:=HZ.out;omega),ajO,bn,dV (by have:=HZ.out;omega)];rfl
     have hor:=aiM (rY (z.take k)) (z.getD k 0) aw0;have HS:=Lib.hid hsn;clear hbv hlen hp hsn;generalize rY (z.take k)=v at *;generalize z.getD k 0=y at *;have hy:(y.toNat:Int)<=255:=by have:=y.toNat_lt;omega
     go_wp2
     go_round
     case rel=>exact⟨k+1,by omega,by go_num,by rw[HS.out];go_num⟩
     case measure=>simp[intOf];omega
    ·obtain rfl:k=4:=qO;rw[jU awQ];have hbl:((b.take (2+M)).length=2+M):=by have:=HN.out;simp;omega
     have HB:=Lib.hid hbl;clear hbl;have s1:Bs (w.drewN nq) (w.drewN nq).heap.size (some ⟨g,off,none⟩) (b.take (2+M)):=(hA.take (2+M)).drewN nq;rw[show M+2=2+M by omega]at HF2;go_wp2_with fail;refine(ati _ (b.take (2+M)) _ _ _ _ HB.out s1 (by rw[HB.out];omega)).mono ?_;rintro e w1 ⟨rfl,d1⟩;have b1:Below w.heap.size w w1:=(below_drewN (Below.refl _ _) nq).trans d1;by_cases heq:pG 1 (b.take (2+M))=(rY z:Nat)
     ·have HF3:=Lib.hid (show ik b=((b.drop 2).take M,M+6,0) by rw[HF2.out,if_pos heq]);have hdec:(pG 1 (b.take (2+M)) == ((rY z:Nat):Int))=true:=by rw[heq,beq_self_eq_true]
      rw[hdec];clear heq hdec;have hxl:((b.drop 2).take M).length=M:=by have:=HN.out;simp;omega
      have HX:=Lib.hid hxl;clear hxl;have s2:Bs w1 w1.heap.size (some ⟨g,off+2,none⟩) ((b.drop 2).take M):=(((hA.drop 2).take M).below b1).more b1.size;go_wp2_with fail;refine(ajL ⟨g,off+2,none⟩ _ M M _ HX.out qO s2).mono ?_;rintro e w2 ⟨A2,c2,rfl,o2,d2⟩;have b2:Below w.heap.size w w2:=b1.trans (d2.mono b1.size);have o2':=o2.mono b1.size;go_wp2_with fail;go_ret3;rw[HF3.out];refine⟨A2,c2,?_,?_,b2⟩
      ·have hN:((M+6:Nat):Int)=2+(M:Int)+4:=qO;simp only;rw[HX.out,hN];rfl
      ·simp only;rw[HX.out];exact o2'
     ·have HF3:=Lib.hid (show ik b=([],0,3) by rw[HF2.out,if_neg heq]);have hdec:(pG 1 (b.take (2+M)) == ((rY z:Nat):Int))=false:=by rw[beq_eq_false_iff_ne];exact heq
      rw[hdec];clear heq hdec;go_wp2_with fail;go_ret3;rw[HF3.out];exact⟨none,0,rfl,FY _ _ _,b1⟩
def atV(w:World)(x:List UInt8)(e:Ending)(w':World):Prop:=
 ∃ A c,e = .returned (.tuple #[.slice A (fp x).1.length c,.int .i64 (fp x).2])/\Own w' w.heap.size A (fp x).1.length c (fp x).1/\Below w.heap.size w w'
def ani(A:Option Addr)(x:List UInt8)(n c:Nat)(w:World)(hn:x.length=n)(hm:n<=9223372036854775807)(hA:Bs w w.heap.size A x) :
  Calls prog 139 #[.slice A n c] w (atV w x):=by
 by_cases h:n=0\/4096<n
 ·have hf:fp x=([],4):=by unfold fp;rw[if_pos (by rw[hn];exact h)]
  refine(ap7 A n c w h hm).mono ?_;rintro e w' ⟨rfl,rfl⟩;exact⟨none,0,by rw[hf];rfl,by rw[hf];exact FY _ _ _,Below.refl _ _⟩
 ·have hf:fp x=(oh x,0):=by unfold fp;rw[if_neg (by rw[hn];exact h)]
  refine(asN A x n c w hn qO qO hA).mono ?_;rintro e w' ⟨A1,c1,rfl,o1,b1⟩;exact⟨A1,c1,by rw[hf,Fj];rfl,by rw[hf,Fj];exact o1,b1⟩
def atr(x:List UInt8)(h:0<x.length/\x.length<=4096):aQ 139 [.d (bW x)] (bI [.d (bW (oh x)),iV 0]):=
 af.data (wI func139 rfl rfl) λG w us hF hl hv=>by
  obtain⟨u,rfl,h1⟩:=Dy (P:=λ_ v u=>aY G e0.get w v u) hl hv;obtain⟨A,n,c,rfl,q1,q2,q3,q4⟩:=F7 h1;have hf:fp x=(oh x,0):=by unfold fp;rw[if_neg qO]
  refine(ani A x n c w q1 qO q4).mono λe w' ⟨A',c',r1,r2,r3⟩=>?_
  rw[hf]at r1 r2;exact⟨_,r1,r3,⟨_,rfl,rfl,λk x hx=>by
   match k,hx with
   |0,hx=>obtain rfl:=fD hx;exact NP r2
   |1,hx=>obtain rfl:=fD hx;rfl
   |k+2,hx=>simp at hx⟩⟩
def avt(b:List UInt8)(hb:b.length<=1000000):aQ 100 [.d (bW b)] (bI [.d (bW (ik b).1),iV (ik b).2.1,iV (ik b).2.2]):=
 af.data (wI func100 rfl rfl) λG w us hF hl hv=>by
  obtain⟨u,rfl,h1⟩:=Dy (P:=λ_ v u=>aY G e0.get w v u) hl hv;obtain⟨A,n,c,rfl,q1,q2,q3,q4⟩:=F7 h1;refine(alS A b n c w q1 q2 qO q4).mono λe w' ⟨A',c',r1,r2,r3⟩=>?_
  exact⟨_,r1,r3,⟨_,rfl,rfl,λk x hx=>by
   match k,hx with
   |0,hx=>obtain rfl:=fD hx;exact NP r2
   |1,hx=>obtain rfl:=fD hx;rfl
   |2,hx=>obtain rfl:=fD hx;rfl
   |k+3,hx=>simp at hx⟩⟩
