/- Lemmas. -/
import Derived.Test.YtnibdnahojjcgaaGreatC32
import Derived.Test.YtnibdnahojjcgaaGreatC33
namespace Go.Proofs.YtnibdnahojjcgaaGreat
set_option linter.all false
set_option maxRecDepth 100000
set_option maxHeartbeats 0
open Go.RowKit Tryz
def jJ:List UInt8->Option aF
 |[]=>none
 |x::r=>some (Vx (x::r))
def jS(n:aA):List (Option aF):=((n.ae.log.drop n.dn.toNat).take (n.dN-n.dn).toNat).map (λe=>jJ e.b)
def pW(n:aA)(x:aV):List (Option aF):=bif decide (x.kind=3) then jS (Dv (ny (aS n (bg n.ae x).1).1 x) x (bg n.ae x).2.2) else jS (rE (jE (mQ n x) x))
def uk(n:aA)(x:aV)(k:Nat):aA×List aV×Int:=FO n x k (pW (nG n x) x)
def sZ(n:aA):Bool:=bif n.aB.down then false else bif decide (n.role=2) then false else decide ((vX n).2=0)
def xw(n:aA):aA×List aV×Int:=bif sZ n then(eX n,yH (eX n),0) else nD n
def Bc(n:aA):bC×Nat:=GL zT n.aB.b
def DZ(n:aA)(b:Int):Int:=bif !n.aB.down then 31 else Cc b (max (Bc n).1.floor 1)
def C9(n:aA)(b:Int):aA:={ n with aB:=fC.cut { n.aB with down:=false,oU:=false,axz:=0 } (Bc n).2,bin:=b,ae:=(Bc n).1,role:=0,dN:=0,dn:=0,st:=AA,fV:=[],ig:=[],eF:=[],next:=[],gz:=[] }
def wQ(n:aA)(b:Int):aA×Int:=
 bif decide ((Bc n).1.floor<b) then
  (bif !decide ((aS (C9 n b) (iH b)).2=0) then({ (aS (C9 n b) (iH b)).1 with aB:=(aS (C9 n b) (iH b)).1.aB.lF 0 },(aS (C9 n b) (iH b)).2) else((aS (C9 n b) (iH b)).1,0))
 else(C9 n b,0)
def vS(n:aA)(b:Int):Bool:=decide (DZ n b=0)
def l9(k:Nat)(i:Int):Bool:=bif decide (0<=i) then decide (i<(k:Int)) else false
def aH.tell(C:aH)(A:Nat)(n:aA)(l:List aV):aH:={ C.put A n with au:=mP C.au l }
def axD(k:Nat)(C:aH)(i:Int):aH×Int:=
 bif !qx C.au i then(C,1)
 else bif !l9 k (C.au.row.getD i.toNat .z).dst then({ C with au:=jH C.au i.toNat },1)
 else({ C with au:=jH C.au i.toNat }.tell (C.au.row.getD i.toNat .z).dst.toNat (uk (C.at (C.au.row.getD i.toNat .z).dst.toNat) (C.au.row.getD i.toNat .z) k).1 (uk (C.at (C.au.row.getD i.toNat .z).dst.toNat) (C.au.row.getD i.toNat .z) k).2.1,
  (uk (C.at (C.au.row.getD i.toNat .z).dst.toNat) (C.au.row.getD i.toNat .z) k).2.2)
def AY(C:aH)(i:Int):aH×Int:=bif !qx C.au i then(C,1) else({ C with au:=UW C.au i.toNat },0)
def Ap(C:aH)(i:Int):aH×Int:=bif !qx C.au i then(C,1) else bif decide (256<=(C.au.row.length:Int)) then(C,20) else({ C with au:=BZ C.au i.toNat },0)
def zH(C:aH)(A:Nat):aH×Int:=(C.tell A (xw (C.at A)).1 (xw (C.at A)).2.1,(xw (C.at A)).2.2)
def Df(k:Nat)(C:aH)(A:Nat):aH×Int:=({ C with au:=mP C.au (lu (C.at A) k).1 },(lu (C.at A) k).2)
def ui(C:aH)(A:Nat)(b:Int):aH×Int:=bif vS (C.at A) b then(C.put A (wQ (C.at A) b).1,(wQ (C.at A) b).2) else(C,DZ (C.at A) b)
def wS(k:Nat)(C:aH)(A:Nat)(e:cO):aH×Int:=
 bif decide (e.kind=1) then zH C A
 else bif decide (e.kind=2) then Df k C A
 else bif decide (e.kind=6) then uq C A e
 else bif decide (e.kind=9) then ui C A e.b
 else bif decide (e.kind=7) then(C.put A (Gs (C.at A) e.b),0)
 else bif decide (e.kind=8) then(C.put A (Eg (C.at A) e.b),0)
 else(C,1)
def nJ(k:Nat)(C:aH)(e:cO):aH×Int:=
 bif decide (e.kind=3) then axD k C e.a
 else bif decide (e.kind=4) then AY C e.a
 else bif decide (e.kind=5) then Ap C e.a
 else bif l9 k e.a then wS k C e.a.toNat e else(C,1)
def xI(C:aH)(x:Cal):Cal:=bif x.done then x else bif decide ((uP (C.at x.node.toNat) x.number x.term).2=0) then { x with done:=true,vk:=(uP (C.at x.node.toNat) x.number x.term).1,aaF:=C.steps } else x
def Tu(C:aH):aH:={ C with calls:=C.calls.map (xI C) }
def jI(k:Nat)(C:aH)(e:cO):aH×Int:=({ Tu (nJ k C e).1 with steps:=(nJ k C e).1.steps+1 },(nJ k C e).2)
def qp(k:Nat):aH:=⟨λj=>Vq j k,aaV,[],0⟩
def fZ.up{c:aF}{v w:Int}(h:fZ c v)(hw:v<=w)(h3:w<=3):fZ c w:=⟨h.kM,by have:=h.le;omega,h3,h.fits,h.chunks,h.text⟩
structure EG (v T:Int) (e:bH):Prop where
 term:1<=e.term/\e.term<=T
 b:e.b=[]\/∃ c,e.b=fQ c/\fZ c v/\(c.kind=8->c.n<=v)
def EG.up{v w T U:Int}{e:bH}(h:EG v T e)(hw:v<=w)(h3:w<=3)(hT:T<=U):EG w U e:=
 ⟨⟨h.term.1,by have:=h.term.2;omega⟩,h.b.imp id λ⟨c,h1,h2,h4⟩=>⟨c,h1,h2.up hw h3,λhk=>by have:=h4 hk;omega⟩⟩
def EG.len{v T:Int}{e:bH}(h:EG v T e):e.b.length<=200:=by
 obtain h|⟨c,h1,h2,_⟩:=h.b
 ·rw[h];exact cZ _
 ·rw[h1];exact(MO h2).2
def EG.pY{v T:Int}{e:bH}(h:EG v T e)(hT:T<=1048576):pY e:=⟨⟨h.term.1,by have:=h.term.2;omega⟩,h.len⟩
def OL{c:aF}{v:Int}(h:fZ c v):jJ (fQ c)=some c:=by
 have h1:=(MO h).1;have h2:=aty h;rcases hb:fQ c with _|⟨x,r⟩
 ·rw[hb]at h1;simp at h1
 ·rw[hb]at h2;show some (Vx (x::r))=_;rw[h2]
def EG.is{v T:Int}{e:bH}(h:EG v T e):Vd e (jJ e.b) v:=by
 obtain h|⟨c,h1,h2,_⟩:=h.b
 ·rw[h];exact h
 ·rw[h1,OL h2];exact⟨h1,h2,⟨h2.chunks,h2.text⟩⟩
def EG.bump{v T:Int}{e:bH}(h:EG v T e){c:aF}(hc:jJ e.b=some c):fZ c v/\(c.kind=8->c.n<=v):=by
 obtain h|⟨d,h1,h2,h3⟩:=h.b
 ·rw[h]at hc;cases hc
 ·rw[h1,OL h2]at hc;cases hc;exact⟨h2,h3⟩
structure RG (v T:Int) (r:aP):Prop where
 ok:iG r=true
 cu:r.kind=2->r.a<=T
 ent:r.kind=3->EG v T ⟨r.b,r.x⟩
def RG.up{v w T U:Int}{r:aP}(h:RG v T r)(hw:v<=w)(h3:w<=3)(hT:T<=U):RG w U r:=⟨h.ok,λe=>by have:=h.cu e;omega,λe=>(h.ent e).up hw h3 hT⟩
def agr{r:aP}(h:iG r=true):(r.kind=1/\1<=r.a/\r.a<=3)\/(r.kind=2/\0<=r.a/\r.a<=1048576/\0<=r.b/\r.b<=5)\/(r.kind=3/\1<=r.a/\r.a<=64/\0<=r.b/\r.b<=1048576)\/(r.kind=4/\1<=r.a/\r.a<=64):=by
 have h:=fU h;obtain⟨h1,h2,h3,h4,h5,h6,h7⟩:=h;have hk:r.kind=1\/r.kind=2\/r.kind=3\/r.kind=4:=qO;obtain hk|hk|hk|hk:=hk <;> rw[hk]at h3 h4 h6
 ·exact .inl ⟨hk,h3,h4⟩
 ·exact .inr (.inl ⟨hk,h3,h4,h5,h6⟩)
 ·exact .inr (.inr (.inl ⟨hk,h3,h4,h5,h6⟩))
 ·exact .inr (.inr (.inr ⟨hk,h3,h4⟩))
structure SG (v T:Int) (s:bC):Prop where
 floor:0<=s.floor/\s.floor<=3
 term:0<=s.term/\s.term<=T
 cu:0<=s.cu/\s.cu<=5
 len:s.log.length<=64
 log:∀ e∈s.log,EG v T e
def SG.up{v w T U:Int}{s:bC}(h:SG v T s)(hw:v<=w)(h3:w<=3)(hT:T<=U):SG w U s:=⟨h.floor,⟨h.term.1,by have:=h.term.2;omega⟩,h.cu,h.len,λe he=>(h.log e he).up hw h3 hT⟩
def YF{s:bC}{r:aP}(h:(ku s r).2=0):iG r=true/\mO s r=true/\(ku s r).1=mZ s r:=by
 unfold ku at h ⊢;by_cases h1:iG r=true
 ·rw[if_pos h1]at h ⊢;by_cases h2:mO s r=true
  ·rw[if_pos h2]at h ⊢;exact⟨h1,h2,rfl⟩
  ·rw[if_neg h2]at h;cases h
 ·rw[if_neg h1]at h;cases h
def Jy{s:bC}{r:aP}(h1:iG r=true)(h2:mO s r=true):ku s r=(mZ s r,0):=by
 unfold ku;rw[if_pos h1,if_pos h2]
def SG.next{v T:Int}{s:bC}{r:aP}(h:SG v T s)(hr:RG v T r)(hf:mO s r=true):SG v T (mZ s r)/\s.floor<=(mZ s r).floor:=by
 unfold mO at hf;unfold mZ;obtain⟨k,h1⟩|⟨k,h1⟩|⟨k,h1⟩|⟨k,h1⟩:=agr hr.ok
 ·rw[if_pos k]at hf ⊢;have hf:=fU hf;exact⟨⟨⟨by have:=h.floor.1;show 0<=r.a;omega,h1.2⟩,h.term,h.cu,h.len,h.log⟩,hf⟩
 ·rw[if_neg qO,if_pos k]at hf ⊢;exact⟨⟨h.floor,⟨h1.1,hr.cu k⟩,h1.2.2,h.len,h.log⟩,dL _⟩
 ·rw[if_neg qO,if_neg qO,if_pos k]at hf ⊢;have hf:r.a=(s.log.length:Int)+1:=by simpa using hf
  refine⟨⟨h.floor,h.term,h.cu,?_,λe he=>?_⟩,dL _⟩
  ·show(s.log++[_]).length<=64;rw[bP];show s.log.length+1<=64;omega
  ·obtain he|he:=List.mem_append.1 he
   ·exact h.log e he
   ·obtain rfl:=List.mem_singleton.1 he;exact hr.ent k
 ·rw[if_neg qO,if_neg qO,if_neg qO]at hf ⊢;refine⟨⟨h.floor,h.term,h.cu,?_,λe he=>h.log e (List.mem_of_mem_take he)⟩,dL _⟩;show(s.log.take _).length<=64;rw[dG];have:=h.len;omega
def SG.steps{v T:Int}:∀ {L:List aP} {s:bC},SG v T s->(∀ r∈L,RG v T r)->(steps s L).2=0->SG v T (steps s L).1/\s.floor<=(steps s L).1.floor
 |[],s,h,_,_=>⟨h,dL _⟩
 |r::L,s,h,hr,he=>by
  unfold Go.Proofs.YtnibdnahojjcgaaGreat.steps at he ⊢;by_cases h0:(ku s r).2=0
  ·rw[if_pos h0]at he ⊢;obtain⟨_,hf,e⟩:=YF h0;obtain⟨p1,p2⟩:=h.next (hr r jL) hf
   rw[e]at he ⊢;obtain⟨q1,q2⟩:=SG.steps p1 (λx hx=>hr x (jA _ hx)) he;exact⟨q1,Int.le_trans p2 q2⟩
  ·rw[if_neg h0]at he;exact ai he h0
def SG.zero{v T:Int}(hT:0<=T):SG v T zT:=⟨⟨dL _,by decide⟩,⟨dL _,hT⟩,⟨dL _,by decide⟩,cZ _,nofun⟩
structure DG (v T:Int) (d:fC) (L:List aP) (t:List UInt8):Prop where
 sync:d.synced=d.b.length
 dA:d.b.length+d.dA.length<=65536
 axz : -9223372036854775808<=d.axz
 laid:Laid d.b L t
 I4:∀ r∈L,RG v T r
def DG.ok{v T:Int}{d:fC}{L:List aP}{t:List UInt8}(h:DG v T d L t):d.ok:=
 ⟨by rw[h.sync];omega,by rw[h.sync];omega,by have:=h.dA;omega,by have:=h.dA;omega⟩
def DG.up{v w T U:Int}{d:fC}{L:List aP}{t:List UInt8}(h:DG v T d L t)(hw:v<=w)(h3:w<=3)(hT:T<=U):DG w U d L t:=⟨h.sync,h.dA,h.axz,h.laid,λr hr=>(h.I4 r hr).up hw h3 hT⟩
def DG.ae{v T:Int}{d:fC}{L:List aP}{t:List UInt8}(h:DG v T d L t)(hT:0<=T):SG v T (fJ L):=(SG.steps (SG.zero hT) h.I4 h.laid.ok.2).1
def Laid.vk{b:List UInt8}{L:List aP}{t:List UInt8}(h:Laid b L t):GL zT b=(fJ L,(di L).length):=by
 have key:∀(L:List aP) (s:bC),L.all iG=true->(steps s L).2=0->GL s (di L++t)=((steps s L).1,(di L).length):=by
  intro L;induction L with
  |nil=>intro s _ _;exact amo h.ahO
  |cons r L ih=>
   intro s ha hs;rw[List.all_cons,qf]at ha;have h0:(ku s r).2=0:=by
    by_cases h:(ku s r).2=0
    ·exact h
    ·rw[steps,if_neg h]at hs;exact ai hs h
   rw[steps,if_pos h0]at hs;obtain⟨f1,f2,f3⟩:=JK ha.1;have hf:ik (oh (kS r)++(di L++t))=(kS r,(kS r).length+6,0):=aco _ _ f2 f3;have ht:=akI ha.1;rw[MN,f1,jV,akC (by rw[hf]) (by rw[hf];simp only;rw[ht]) (by rw[hf];simp only;rw[ht];exact h0),hf];simp only;rw[ht];simp only;rw[List.drop_left' (Fj _),ih _ ha.2 hs,steps,if_pos h0,bP,Fj]
 rw[h.eq];exact key L zT h.ok.1 h.ok.2
def aew:∀(R:List aP) (m:Nat),R.all iG=true->∃ j t,j<=R.length/\(di R).take m=di (R.take j)++t/\(ik t).2.2≠0
 |[],m,_=>⟨0,[],bF _,by simp[di],by decide⟩
 |r::R,m,h=>by
  rw[List.all_cons,qf]at h;obtain⟨f1,f2,f3⟩:=JK h.1;have hfl:=ajE h.1;by_cases hm:m<(yX r).length
  ·refine⟨0,(yX r).take m,cZ _,?_,?_⟩
   ·rw[MN,List.take_append_of_le_length qO];simp[di]
   ·rw[f1,aiI _ _ f2 f3 qO];decide
  ·obtain⟨j,t,h1,h2,h3⟩:=aew R (m-(yX r).length) h.2;refine⟨j+1,t,by simp;omega,?_,h3⟩;rw[MN,List.take_append,jU qO,h2,List.take_succ_cons,MN,jV]
def MX{s:bC}{R:List aP}(h:(steps s R).2=0)(j:Nat):(steps s (R.take j)).2=0:=WB s R j h
def aot{R:List aP}(h:R.all iG=true)(j:Nat):(R.take j).all iG=true:=by
 rw[y7]at h ⊢;exact λx hx=>h x (List.mem_of_mem_take hx)
structure ahH (v T:Int) (n:aA) (L R:List aP) (p:aA×Int):Prop where
 ex:∃ j t,DG v T p.1.aB (L++R.take j) t/\(p.2=0->j=R.length/\t=[]/\p.1.aB.down=false/\p.1.ae=(steps n.ae R).1)/\(p.2≠0->p.1.ae=n.ae/\((p.1.aB=n.aB/\j=0/\t=[])\/p.1.aB.down=true))
def mV.of{v T:Int}{s:bC}{R:List aP}(hR:∀ r∈R,RG v T r)(hst:(steps s R).2=0)(GR:s.log.length<=64)(hlen:R.length<=100):mV s R:=
 ⟨List.all_eq_true.2 λr hr=>(hR r hr).ok,hst,by omega,hlen⟩
def UY:(-9223372036854775808:Int)<=0:=by decide
def awK:¬(30:Int)=0:=by decide
def awL:¬(20:Int)=0:=by decide
def Z7:(ik []).2.2≠0:=by decide
def Ru{v T:Int}{n:aA}{L R:List aP}(hd:DG v T n.aB L [])(hs:n.ae=fJ L)(hu:n.aB.down=false)(hR:∀ r∈R,RG v T r)(hst:(steps n.ae R).2=0):ahH v T n L R (aS n R):=by
 have hall:R.all iG=true:=List.all_eq_true.2 λr hr=>(hR r hr).ok
 have hb:n.aB.b=di L:=by have:=hd.laid.eq;simpa using this
 have IL:∀ j,Dz (L++R.take j):=λj=>aoz hd.laid.ok (aot hall j) (by rw[<-hs];exact MX hst j)
 have ahp:∀ j,∀ r∈L++R.take j,RG v T r:=λj r hr=>by
  obtain hr|hr:=List.mem_append.1 hr
  ·exact hd.I4 r hr
  ·exact hR r (List.mem_of_mem_take hr)
 unfold aS tC;obtain _|⟨r,R⟩:=R
 ·exact⟨0,[],by simpa using hd,λ_=>⟨rfl,rfl,hu,rfl⟩,λh=>ai rfl h⟩
 rw[aT (show ¬(((r::R).length:Nat):Int)=0 by simp;omega)];generalize r::R=R at *;simp only[bz];rcases hf:decide (65536<n.aB.b.length+(di R).length) with _|_
 ·have hf:=mJ hf;simp only[bz];rcases hdm:n.aB.oU with _|_
  ·simp only[bz];have e:(n.aB.append (di R)).sync={ n.aB.append (di R) with synced:=(n.aB.append (di R)).b.length }:=by
    show(bif n.aB.oU then _ else _)=_;rw[hdm];rfl
   rw[e];refine⟨R.length,[],⟨rfl,?_,hd.axz,⟨?_,IL _,Z7,?_⟩,ahp _⟩,λ_=>⟨rfl,rfl,hu,rfl⟩,λh=>ai rfl h⟩
   ·show(n.aB.b++di R).length+(n.aB.dA.drop (di R).length).length<=65536;rw[bP,eY];have:=hd.dA;omega
   ·show n.aB.b++di R=di (L++R.take R.length)++[];rw[mM,Rx,hb,pO]
   ·show(n.aB.b++di R).length<=100000;rw[bP];omega
  ·simp only[dw];have e:(n.aB.append (di R)).sync=(n.aB.append (di R)).lF n.aB.axz:=by
    show(bif n.aB.oU then _ else _)=_;rw[hdm];rfl
   rw[e];obtain⟨m,hm,hm1⟩:∃ m,(n.aB.append (di R)).lF n.aB.axz=⟨(n.aB.b++di R).take m,m,true,false,0,(n.aB.b++di R).drop m++n.aB.dA.drop (di R).length⟩/\n.aB.b.length<=m/\m<=(n.aB.b++di R).length:=by
    refine⟨_,rfl,?_⟩;have h1:(n.aB.append (di R)).synced=n.aB.b.length:=hd.sync;have h2:(n.aB.append (di R)).b=n.aB.b++di R:=rfl;rw[h1,h2,bP];omega
   rw[hm];obtain⟨j,t,c1,c2,c3⟩:=aew R (m-n.aB.b.length) hall;have hl:((n.aB.b++di R).take m).length=m:=by rw[dG];omega
   refine⟨j,t,⟨by show(m:Int)=_;rw[hl],?_,UY,⟨?_,IL j,c3,?_⟩,ahp j⟩,λh=>ai h awK,λ_=>⟨rfl,.inr rfl⟩⟩
   ·show((n.aB.b++di R).take m).length+((n.aB.b++di R).drop m++n.aB.dA.drop (di R).length).length<=65536;rw[hl,bP,eY,eY,bP];rw[bP]at hm1;have:=hd.dA;omega
   ·show(n.aB.b++di R).take m=di (L++R.take j)++t;rw[List.take_append,jU qO,c2,Rx,hb,jV]
   ·show((n.aB.b++di R).take m).length<=100000;rw[hl];rw[bP]at hm1;omega
 ·exact⟨0,[],by simpa using hd,λh=>ai h awL,λ_=>⟨rfl,.inl ⟨rfl,rfl,rfl⟩⟩⟩
def DG.lF{v T:Int}{d:fC}{L:List aP}{t:List UInt8}(h:DG v T d L t)(k:Int):DG v T (d.lF k) L t/\(d.lF k).b=d.b:=by
 obtain⟨m,hm,hm1⟩:∃ m,d.lF k=⟨d.b.take m,m,true,false,0,d.b.drop m++d.dA⟩/\m=d.b.length:=by
  refine⟨_,rfl,?_⟩;rw[h.sync];omega
 rw[hm];subst hm1;refine⟨⟨by simp,by simpa using h.dA,UY,?_,h.I4⟩,by simp⟩;show Laid (d.b.take d.b.length) L t;rw[mM];exact h.laid
def DG.P8{v T:Int}{d:fC}{L:List aP}{t:List UInt8}(h:DG v T d L t)(k:Int)(hk : -9223372036854775808<=k):DG v T { d with oU:=true,axz:=k } L t:=⟨h.sync,h.dA,hk,h.laid,h.I4⟩
def DG.GK{v T:Int}{d:fC}{L:List aP}{t:List UInt8}(h:DG v T d L t):DG v T (fC.cut { d with down:=false,oU:=false,axz:=0 } (di L).length) L []:=by
 have hb:=h.laid.eq;have e:d.b.take (di L).length=di L:=by rw[hb,List.take_left]
 refine⟨?_,?_,UY,⟨?_,h.laid.ok,Z7,?_⟩,h.I4⟩
 ·show((di L).length:Int)=(d.b.take (di L).length).length;rw[e]
 ·show(d.b.take (di L).length).length+(d.b.drop (di L).length++d.dA).length<=65536;have:=h.dA;rw[bP,eY,dG];omega
 ·show d.b.take (di L).length=di L++[];rw[e,pO]
 ·show(d.b.take (di L).length).length<=100000;have:=h.laid.len;rw[dG];omega
section
structure LG (k:Nat) (v T:Int) (fl:Nat->Int) (x:aV):Prop where
 ok:jY x
 src:x.src<k
 dst:x.dst<k
 bin:x.bin<=fl x.src.toNat
 term:x.term<=T
 es:∀ e∈x.l,EG v T e
 len:x.kind=3->x.a+x.l.length<=64
def LG.up{k:Nat}{v w T U:Int}{fl lX:Nat->Int}{x:aV}(h:LG k v T fl x)(hw:v<=w)(h3:w<=3)(hT:T<=U)(hf:∀ i,fl i<=lX i):LG k w U lX x:=
 ⟨h.ok,h.src,h.dst,by have:=h.bin;have:=hf x.src.toNat;omega,by have:=h.term;omega,λe he=>(h.es e he).up hw h3 hT,h.len⟩
structure UG (v:Int) (n:aA) (L:List aP) (t:List UInt8):Prop where
 t:t=[]
 ae:n.ae=fJ L
 bin:n.bin=n.ae.floor
 GZ:1<=n.bin
 st:gK n.st n.st.version
 ver:n.st.version<=v
structure lQ (k:Nat) (v T:Int) (fl:Nat->Int) (j:Nat) (n:aA) (L:List aP) (t:List UInt8):Prop where
 me:n.me=j
 many:n.many=k
 dg:DG v T n.aB L t
 fl:(fJ L).floor=fl j
 log:SG v T n.ae
 fit:uO n.st
 verb:0<=n.st.version/\n.st.version<=3
 ap:0<=n.dn/\n.dn<=n.dN/\n.dN<=n.ae.log.length
 fV:(n.fV.length:Int)=n.dn
 up:n.aB.down=false->UG v n L t
structure VG (k:Nat) (fl:Nat->Int) (j:Nat) (n:aA):Prop where
 role:n.role=0\/n.role=1\/n.role=2
 vec:n.role≠0->n.ig.length=k/\n.eF.length=k/\n.next.length=k/\n.gz.length=k
 eF:∀ i,i<k->n.eF.getD i 0<=fl i
 next:n.role=2->∀ i,i<k->i≠j->1<=n.next.getD i 0/\n.next.getD i 0<=(n.ae.log.length:Int)+1
 term:n.role≠0->1<=n.ae.term
structure NG (k:Nat) (v T:Int) (fl:Nat->Int) (j:Nat) (n:aA) (L:List aP) (t:List UInt8):Prop where
 g:lQ k v T fl j n L t
 vg:n.aB.down=false->VG k fl j n
 bl:n.eF.length<=5
def lQ.raise{k:Nat}{v w T U:Int}{fl lX:Nat->Int}{j:Nat}{n:aA}{L:List aP}{t:List UInt8}(h:lQ k v T fl j n L t)(hw:v<=w)(h3:w<=3)(hT:T<=U)(hf:lX j=fl j):lQ k w U lX j n L t:=
 ⟨h.me,h.many,h.dg.up hw h3 hT,by rw[hf];exact h.fl,h.log.up hw h3 hT,h.fit,h.verb,h.ap,h.fV,λhu=>⟨(h.up hu).t,(h.up hu).ae,(h.up hu).bin,(h.up hu).GZ,(h.up hu).st,by have:=(h.up hu).ver;omega⟩⟩
def VG.up{k:Nat}{fl lX:Nat->Int}{j:Nat}{n:aA}(h:VG k fl j n)(hf:∀ i,fl i<=lX i):VG k lX j n:=⟨h.role,h.vec,λi hi=>Int.le_trans (h.eF i hi) (hf i),h.next,h.term⟩
def NG.up{k:Nat}{v w T U:Int}{fl lX:Nat->Int}{j:Nat}{n:aA}{L:List aP}{t:List UInt8}(h:NG k v T fl j n L t)(hw:v<=w)(h3:w<=3)(hT:T<=U)(hf:∀ i,fl i<=lX i)(hj:lX j=fl j):NG k w U lX j n L t:=
 ⟨h.g.raise hw h3 hT hj,λhu=>(h.vg hu).up hf,h.bl⟩
def Ae(k:Nat)(v:Int)(fl:Nat->Int):Prop:=1<=v/\v<=3/\(v=1\/∀ i,i<k->v<=fl i)
section
variable {k:Nat} {v T:Int} {fl:Nat->Int} {j:Nat} {n:aA} {L:List aP} {t:List UInt8}
def lQ.Ve(h:lQ k v T fl j n L t)(hu:n.aB.down=false)(hs:Ae k v fl)(hj:j<k):v<=n.bin/\1<=n.bin/\n.bin<=3:=by
 have u:=h.up hu;have h1:=h.log.floor;have h2:=h.fl;rw[<-u.ae,<-u.bin]at h2;rw[<-u.bin]at h1;refine⟨?_,u.GZ,h1.2⟩;obtain h3|h3:=hs.2.2
 ·rw[h3];exact u.GZ
 ·rw[h2];exact h3 j hj
def lQ.EZ(h:lQ k v T fl j n L t)(hu:n.aB.down=false):wB n:=⟨h.dg.ok,hu,h.dg.axz⟩
def SG.DT{v T:Int}{s:bC}(h:SG v T s):DT s.log:=⟨by have:=h.len;omega,λi hi=>by have:=(h.log _ (axB (z:=.z) hi)).len;omega⟩
def amE{s:aN}{e:bH}(hs:gK s s.version)(hv:s.version<=v)(he:EG v T e):gK (lL s (jJ e.b)).1 (lL s (jJ e.b)).1.version/\(lL s (jJ e.b)).1.version<=v:=by
 rcases hd:jJ e.b with _|c
 ·exact⟨hs,hv⟩
 ·obtain⟨h1,h2⟩:=he.bump hd;obtain⟨q1,q2⟩:=ahy (c:=c) hs ⟨h1.chunks,h1.text⟩;refine⟨q1,?_⟩;show(oC s c).1.version<=v;obtain q2|⟨q2,q3,q4,_⟩:=q2
  ·rw[q2];exact hv
  ·rw[q4];exact h2 q2
def adQ:∀(l:List bH) (s:aN) (r:List Rep),gK s s.version->s.version<=v->(∀ e∈l,EG v T e) ->
  gK ((l.map (λe=>jJ e.b)).foldl (λp o=>((lL p.1 o).1,p.2++[(lL p.1 o).2])) (s,r)).1 ((l.map (λe=>jJ e.b)).foldl (λp o=>((lL p.1 o).1,p.2++[(lL p.1 o).2])) (s,r)).1.version /\
  ((l.map (λe=>jJ e.b)).foldl (λp o=>((lL p.1 o).1,p.2++[(lL p.1 o).2])) (s,r)).1.version<=v /\
  ((l.map (λe=>jJ e.b)).foldl (λp o=>((lL p.1 o).1,p.2++[(lL p.1 o).2])) (s,r)).2.length=r.length+l.length
 |[],s,r,h1,h2,_=>⟨h1,h2,rfl⟩
 |e::l,s,r,h1,h2,h3=>by
  obtain⟨p1,p2⟩:=amE h1 h2 (h3 e jL);obtain⟨q1,q2,q3⟩:=adQ l _ (r++[(lL s (jJ e.b)).2]) p1 p2 λx hx=>h3 x (jA _ hx)
  refine⟨q1,q2,q3.trans ?_⟩;simp only[bP,lT,List.length_nil];omega
def XW{s:aN}{l:List bH}(h1:gK s s.version)(h2:s.version<=v)(h3:∀ e∈l,EG v T e):gK (nU s (l.map (λe=>jJ e.b))).1 (nU s (l.map (λe=>jJ e.b))).1.version/\(nU s (l.map (λe=>jJ e.b))).1.version<=v/\(nU s (l.map (λe=>jJ e.b))).2.length=l.length:=by
 obtain⟨q1,q2,q3⟩:=adQ l s [] h1 h2 h3;exact⟨q1,q2,q3.trans (by simp)⟩
structure axG (v T:Int) (n:aA):Prop where
 ap:0<=n.dn/\n.dn<=n.dN/\n.dN<=n.ae.log.length
 fV:(n.fV.length:Int)=n.dn
 st:gK n.st n.st.version
 ver:n.st.version<=v
 bin:v<=n.bin/\n.bin<=3
 v1:1<=v
 log:SG v T n.ae
def axG.os(h:axG v T n):(jS n).length=(n.dN-n.dn).toNat:=by
 unfold jS;have:=h.ap;rw[lZ,dG,eY];omega
def axG.sub(h:axG v T n):∀ e∈(n.ae.log.drop n.dn.toNat).take (n.dN-n.dn).toNat,EG v T e:=λe he=>h.log.log e (List.mem_of_mem_drop (List.mem_of_mem_take he))
def axG.axj(h:axG v T n):Jc n (jS n):=by
 have ha:=h.ap;have hlen:=h.log.len;refine⟨h.os,ha.1,ha.2.2,by omega,?_,by have:=h.bin;have:=h.v1;omega,λi hi=>?_,λi hi=>?_⟩
 ·have:=h.fV;omega
 ·rw[h.os]at hi;have hi2:n.dn.toNat+i<n.ae.log.length:=qO;have hg:=h.log.log _ (axB (z:=.z) hi2);have e:(jS n).getD i none=jJ (n.ae.log.getD (n.dn.toNat+i) .z).b:=by
   unfold jS;rw[bn,qQ,nX,if_pos qO,rP,bn,dV hi2];rfl
  rw[e];have h1:=hg.is;rcases hd:jJ (n.ae.log.getD (n.dn.toNat+i) .z).b with _|c
  ·rw[hd]at h1;exact h1
  ·rw[hd]at h1;exact⟨h1.1,h1.2.1.up h.bin.1 h.bin.2,h1.2.2⟩
 ·unfold jS;rw[<-List.map_take];exact(XW h.st h.ver λe he=>h.sub e (List.mem_of_mem_take he)).1.jw
structure axl (v:Int) (n n':aA):Prop where
 ap:n'.dn=n.dN/\n'.dN=n.dN
 fV:(n'.fV.length:Int)=n'.dn
 st:gK n'.st n'.st.version
 ver:n'.st.version<=v
def axG.done(h:axG v T n):axl v n (applyN n (jS n)):=by
 obtain⟨q1,q2,q3⟩:=XW h.st h.ver h.sub;have ha:=h.ap;have hr:=h.fV;have ho:=h.os;refine⟨⟨?_,rfl⟩,?_,q1,q2⟩
 ·show n.dn+((jS n).length:Nat)=n.dN;rw[ho];omega
 ·show((n.fV++(nU n.st (jS n)).2).length:Int)=n.dn+((jS n).length:Nat);have q4:(nU n.st (jS n)).2.length=(jS n).length:=by
   unfold jS;rw[q3,lZ]
  rw[bP,q4];omega
def lQ.ready(h:lQ k v T fl j n L t)(hu:n.aB.down=false)(hs:Ae k v fl)(hj:j<k){m:aA}(e1:m.dn=n.dn)(e2:m.fV=n.fV)(e3:m.st=n.st)(e4:m.bin=n.bin)(hc:n.dn<=m.dN/\m.dN<=m.ae.log.length)(hl:SG v T m.ae):axG v T m:=by
 have u:=h.up hu;have b:=h.Ve hu hs hj;refine⟨⟨by rw[e1];exact h.ap.1,by rw[e1];exact hc.1,hc.2⟩,by rw[e1,e2];exact h.fV,by rw[e3];exact u.st,by rw[e3];exact u.ver,by rw[e4];exact⟨b.1,b.2.2⟩,hs.1,hl⟩
def acr{R:List aP}:∀ {s:bC},(steps s R).2=0->(∀ r∈R,r.kind≠1)->(steps s R).1.floor=s.floor:=by
 induction R with
 |nil=>intro s _ _;rfl
 |cons r R ih=>
  intro s he hk;unfold steps at he ⊢;by_cases h0:(ku s r).2=0
  ·rw[if_pos h0]at he ⊢;obtain⟨_,_,e⟩:=YF h0;rw[ih he λx hx=>hk x (jA _ hx),e];unfold mZ;rw[if_neg (hk r jL)];split
   ·rfl
   ·split <;> rfl
  ·rw[if_neg h0]at he;exact ai he h0
structure ag4 (k:Nat) (v T:Int) (fl:Nat->Int) (j:Nat) (n:aA) (R:List aP) (p:aA×Int):Prop where
 ex:∃ L t,lQ k v T fl j p.1 L t
 ok:p.2=0->p.1.aB.down=false/\p.1.ae=(steps n.ae R).1
 bad:p.2≠0->p.1.ae=n.ae/\(p.1.aB=n.aB\/p.1.aB.down=true)
def lQ.save(h:lQ k v T fl j n L t)(hT:0<=T)(hu:n.aB.down=false){R:List aP}(hR:∀ r∈R,RG v T r)(hst:(steps n.ae R).2=0)(hk:∀ r∈R,r.kind≠1)(hc:n.dN<=(steps n.ae R).1.log.length):ag4 k v T fl j n R (aS n R):=by
 have u:=h.up hu;obtain rfl:=u.t;obtain⟨i,t',h1,h2,h3⟩:=(Ru h.dg u.ae hu hR hst).ex;have IL:Dz L:=h.dg.laid.ok;have hfl:(fJ (L++R.take i)).floor=fl j:=by
  rw[Si IL,<-u.ae,acr (MX hst i) λx hx=>hk x (List.mem_of_mem_take hx),u.ae,h.fl]
 refine⟨⟨L++R.take i,t',?_⟩,λe=>⟨(h2 e).2.2.1,(h2 e).2.2.2⟩,λe=>⟨(h3 e).1,(h3 e).2.imp (·.1) id⟩⟩;by_cases e:(aS n R).2=0
 ·obtain⟨e1,e2,e3,e4⟩:=h2 e;have hs:=SG.steps h.log hR hst;refine⟨h.me,h.many,h1,hfl,by rw[e4];exact hs.1,h.fit,h.verb,⟨h.ap.1,h.ap.2.1,by rw[e4];exact hc⟩,h.fV,λ_=>⟨e2,?_,?_,u.GZ,u.st,u.ver⟩⟩
  ·rw[e4,e1,mM,Si IL,<-u.ae]
  ·show n.bin=_;rw[e4,acr hst hk];exact u.bin
 ·obtain⟨e1,e2⟩:=h3 e;refine⟨h.me,h.many,h1,hfl,by rw[e1];exact h.log,h.fit,h.verb,⟨h.ap.1,h.ap.2.1,by rw[e1];exact h.ap.2.2⟩,h.fV,λhd=>?_⟩;obtain⟨e2,e3,e4⟩|e2:=e2
  ·subst e3;refine⟨e4,?_,?_,u.GZ,u.st,u.ver⟩
   ·rw[e1,u.ae,List.take_zero,pO]
   ·rw[e1];exact u.bin
  ·rw[e2]at hd;cases hd
def lQ.vec(h:lQ k v T fl j n L t)(r:Int)(a:List Bool)(b c d:List Int):lQ k v T fl j { n with role:=r,ig:=a,eF:=b,next:=c,gz:=d } L t:=⟨h.me,h.many,h.dg,h.fl,h.log,h.fit,h.verb,h.ap,h.fV,λhu=>⟨(h.up hu).t,(h.up hu).ae,(h.up hu).bin,(h.up hu).GZ,(h.up hu).st,(h.up hu).ver⟩⟩
def lQ.did(h:lQ k v T fl j n L t)(hu:n.aB.down=false)(hs:Ae k v fl)(hj:j<k){c:Int}(hc:n.dN<=c/\c<=n.ae.log.length):Jc { n with dN:=c } (jS { n with dN:=c })/\lQ k v T fl j (applyN { n with dN:=c } (jS { n with dN:=c })) L t:=by
 have hr:axG v T { n with dN:=c }:=h.ready hu hs hj rfl rfl rfl rfl ⟨by have:=h.ap.2.1;show n.dn<=c;omega,hc.2⟩ h.log;have hd:=hr.done;have u:=h.up hu;have ha:=h.ap;have q:=hd.ap.1;refine⟨hr.axj,⟨h.me,h.many,h.dg,h.fl,h.log,hd.st.jw.fit,by have:=hd.st.ver;omega,⟨by rw[q];show 0<=c;omega,by rw[q,hd.ap.2];exact dL _,by rw[hd.ap.2];exact hc.2⟩,hd.fV,λ_=>⟨u.t,u.ae,u.bin,u.GZ,hd.st,hd.ver⟩⟩⟩
end
end
section
structure qJ (k:Nat) (v T:Int) (fl:Nat->Int) (j:Nat) (n:aA) (l:List aV):Prop where
 ex:∃ L t,NG k v T fl j n L t
 ls:∀ x∈l,LG k v T fl x
 len:l.length<=8
structure Env (k:Nat) (v T:Int) (fl:Nat->Int) (j:Nat):Prop where
 jm:3<=k/\k<=5
 T0:0<=T/\T<=1048576
 sup:Ae k v fl
 j:j<k
def VG.of{k:Nat}{fl:Nat->Int}{j:Nat}{n m:aA}(h:VG k fl j n)(e1:m.role=n.role)(e2:m.ig=n.ig)(e3:m.eF=n.eF)(e4:m.next=n.next)(e5:m.gz=n.gz)(hl:n.role=2->n.ae.log.length<=m.ae.log.length)(ht:n.role≠0->1<=m.ae.term):VG k fl j m:=
 ⟨by rw[e1];exact h.role,by rw[e1,e2,e3,e4,e5];exact h.vec,by rw[e3];exact h.eF,by
  rw[e1,e4];intro hr i hi hj;have:=h.next hr i hi hj
  have:=hl hr;omega,by rw[e1];exact ht⟩
def VG.zero{k:Nat}{fl:Nat->Int}{j:Nat}{n:aA}(hr:n.role=0)(hb:∀ i,i<k->n.eF.getD i 0<=fl i):VG k fl j n:=⟨.inl hr,λh=>ai hr h,hb,λh=>by omega,λh=>ai hr h⟩
structure VR (v T:Int) (s:bC) (R:List aP) (a:Int):Prop where
 rg:∀ r∈R,RG v T r
 ok:(steps s R).2=0
 log:(steps s R).1.log=s.log
 term:(steps s R).1.term=a
 k:∀ r∈R,r.kind≠1
 len:R.length<=1
def VR.nil{v T:Int}{s:bC}:VR v T s [] s.term:=⟨nofun,rfl,rfl,rfl,nofun,cZ _⟩
def amx{a b:Int}(ha:0<=a/\a<=1048576)(hb:0<=b/\b<=5):iG ⟨2,a,b,[]⟩=true:=by
 unfold iG;exact aX ⟨(by decide:(1:Int)<=2),(by decide:(2:Int)<=4),ha.1,ha.2,hb.1,hb.2,cZ _⟩
def VR.cu{v T:Int}{s:bC}{a b:Int}(ha:0<=a/\a<=T)(hT:T<=1048576)(hb:0<=b/\b<=5)(hf:s.term<a\/(s.term=a/\(s.cu=0\/s.cu=b))):VR v T s (jh a b) a:=by
 have hok:=amx (a:=a) (b:=b) qO hb;have iY:mO s ⟨2,a,b,[]⟩=true:=by
  unfold mO;rw[if_neg (by show ¬(2:Int)=1;decide),if_pos rfl];simp;omega
 have e:steps s (jh a b)=({ s with term:=a,cu:=b },0):=by
  show steps s [⟨2,a,b,[]⟩]=_;unfold steps;rw[Jy hok iY];rfl
 refine⟨λr hr=>?_,by rw[e],by rw[e],by rw[e],λr hr=>?_,bF _⟩
 ·obtain rfl:=List.mem_singleton.1 hr;exact⟨hok,λ_=>ha.2,λh=>ai (show(2:Int)=3 from h) qD⟩
 ·obtain rfl:=List.mem_singleton.1 hr;show ¬(2:Int)=1;decide
def SB{v T:Int}{s:bC}{a:Int}(ha:0<=a/\a<=T)(hT:T<=1048576):VR v T s (gW s a) (max s.term a):=by
 unfold gW;rcases h:decide (a<=s.term) with _|_
 ·have h:=mJ h;rw[show max s.term a=a by omega];exact VR.cu ha hT qD (.inl qO)
 ·have h:=fU h;rw[show max s.term a=s.term by omega];exact VR.nil
def ag0{v T:Int}{s:bC}{x:aV}(hx:jY x)(hT:T<=1048576)(ht:x.term<=T):VR v T s (jG s x).1 (max s.term x.term):=by
 have h0:=hx.term;have h1:=hx.src;unfold jG;rcases h:G9 s x with _|_
 ·have hr:s.term<=x.term/\(s.term<x.term\/s.cu=0\/s.cu=x.src+1):=by
   unfold G9 at h;rcases e1:decide (x.term<s.term) with _|_ <;> rw[e1]at h
   ·have e1:=mJ e1;refine⟨by omega,?_⟩;rcases e2:decide (s.term<x.term) with _|_ <;> rw[e2]at h
    ·rcases e3:decide (s.cu=0) with _|_ <;> rw[e3]at h
     ·rcases e4:decide (s.cu=x.src+1) with _|_ <;> rw[e4]at h
      ·exact ai h (by simp)
      ·exact .inr (.inr (fU e4))
     ·exact .inr (.inl (fU e3))
    ·exact .inl (fU e2)
   ·exact ai h (by simp)
  rw[show max s.term x.term=x.term by omega];simp only[bz];rcases e:(bif decide (x.term=s.term) then decide (s.cu=x.src+1) else false) with _|_
  ·exact VR.cu qO hT qO qO
  ·have e:x.term=s.term:=by
    rcases e5:decide (x.term=s.term) with _|_
    ·rw[e5]at e;cases e
    ·exact fU e5
   rw[e];exact VR.nil
 ·exact SB qO hT
section
variable {k:Nat} {v T:Int} {fl:Nat->Int} {j:Nat} {n:aA} {L:List aP} {t:List UInt8}
def lQ.ltr(h:lQ k v T fl j n L t)(E:Env k v T fl j)(hu:n.aB.down=false){kd d a b:Int}{ok:Bool}(hkd:kd=1\/kd=2\/kd=4)(hd:0<=d/\d<k/\d≠j)(ht:1<=n.ae.term)(ha:0<=a/\a<=64/\(kd=2->a=0))(hb:0<=b/\b<=1048576/\(kd=2\/kd=4->b=0))(hok:ok=true->kd=2\/kd=4):LG k v T fl { sJ n kd d with a:=a,b:=b,ok:=ok }:=by
 have hb3:=h.Ve hu E.sup E.j;have hT:=h.log.term;have hE:=E.T0;have hj:=E.j;have Me:=E.jm;have qy:=h.me;have hfl:=h.fl;have P6:=(h.up hu).bin;rw[<-(h.up hu).ae,<-P6]at hfl;refine⟨⟨?_,?_,?_,?_,?_,?_,ha,hb,⟨by show(0:Int)<=0;decide,by show(0:Int)<=64;decide,λ_=>rfl⟩,hok,⟨cZ _,λ_=>rfl⟩,nofun⟩,?_,?_,?_,?_,nofun,λh3=>?_⟩
 ·show 1<=kd/\kd<=4;omega
 ·show 0<=n.me/\n.me<=4;omega
 ·show 0<=d/\d<=4;omega
 ·show n.me≠d;omega
 ·show 1<=n.ae.term/\n.ae.term<=1048576;omega
 ·show 1<=n.bin/\n.bin<=3;omega
 ·show n.me<k;omega
 ·show d<k;omega
 ·show n.bin<=fl n.me.toNat;rw[qy,hfl];exact dL _
 ·show n.ae.term<=T;omega
 ·exact ai (show kd=3 from h3) qO
def am1{v T:Int}{l:List bH}(h:∀ e∈l,EG v T e)(hT:0<=T){i:Int}(hi:0<=i/\i<=l.length):0<=mi l i/\mi l i<=T:=by
 unfold mi;rcases e:decide (i=0) with _|_
 ·have e:=mJ e;rw[aT (show ¬i<0 by omega),aT (show ¬(l.length:Int)<i by omega)];have:=(h _ (axB (z:=.z) (show(i-1).toNat<l.length by omega))).term;show 0<=(l.getD (i-1).toNat .z).term/\(l.getD (i-1).toNat .z).term<=T;omega
 ·exact⟨dL _,hT⟩
def ack{l:List bH}{i:Int}(hi:0<=i/\i<=l.length):zh l i 4=(l.drop i.toNat).take (min 4 ((l.length:Int)-i)).toNat:=by
 unfold zh;rw[aT (show ¬i<0 by omega),aT (show ¬(l.length:Int)<i by omega)];rfl
def lQ.copy(h:lQ k v T fl j n L t)(E:Env k v T fl j)(hu:n.aB.down=false){d:Int}(hd:0<=d/\d<k/\d≠j)(ht:1<=n.ae.term)(hl:n.next.length=k)(hx:1<=n.next.getD d.toNat 0/\n.next.getD d.toNat 0<=(n.ae.log.length:Int)+1):xE n d/\LG k v T fl (oW n d):=by
 have hb3:=h.Ve hu E.sup E.j;have hT:=h.log.term;have hE:=E.T0;have hj:=E.j;have Me:=E.jm;have qy:=h.me;have hfl:=h.fl;have P6:=(h.up hu).bin;have hlen:=h.log.len;have sH:=h.ap;rw[<-(h.up hu).ae,<-P6]at hfl;have hi:0<=n.next.getD d.toNat 0-1/\n.next.getD d.toNat 0-1<=(n.ae.log.length:Int):=qO
 have ht2:=am1 h.log.log hE.1 hi;have hbl:=ack hi;have hes:∀ e∈(oW n d).l,EG v T e:=λe he=>by
  have he:e∈zh n.ae.log (n.next.getD d.toNat 0-1) 4:=he;rw[hbl]at he;exact h.log.log e (List.mem_of_mem_drop (List.mem_of_mem_take he))
 have hll:(oW n d).l.length<=4/\n.next.getD d.toNat 0-1+(oW n d).l.length<=64:=by
  show(zh n.ae.log (n.next.getD d.toNat 0-1) 4).length<=4/\n.next.getD d.toNat 0-1+(zh n.ae.log (n.next.getD d.toNat 0-1) 4).length<=64
  rw[hbl,dG,eY];omega
 have hok:jY (oW n d):=by
  refine⟨?_,?_,?_,?_,?_,?_,?_,?_,?_,λh=>ai (show false=true from h) qD,⟨hll.1,λh=>ai (show(3:Int)=3 from rfl) h⟩,λe he=>(hes e he).pY hE.2⟩
  ·show(1:Int)<=3/\(3:Int)<=4;decide
  ·show 0<=n.me/\n.me<=4;omega
  ·show 0<=d/\d<=4;omega
  ·show n.me≠d;omega
  ·show 1<=n.ae.term/\n.ae.term<=1048576;omega
  ·show 1<=n.bin/\n.bin<=3;omega
  ·show 0<=n.next.getD d.toNat 0-1/\n.next.getD d.toNat 0-1<=64/\((3:Int)=2->_);omega
  ·show 0<=mi n.ae.log (n.next.getD d.toNat 0-1)/\mi n.ae.log (n.next.getD d.toNat 0-1)<=1048576/\((3:Int)=2\/(3:Int)=4->_);omega
  ·show 0<=n.dN/\n.dN<=64/\((3:Int)≠3->_);omega
 refine⟨⟨hd.1,by rw[hl];omega,⟨hx.1,by omega⟩,by omega,hok,⟨by omega,λi hi=>?_⟩⟩,⟨hok,?_,?_,?_,?_,hes,λ_=>hll.2⟩⟩
 ·have:=(hes _ (axB (z:=.z) hi)).len;omega
 ·show n.me<k;omega
 ·show d<k;omega
 ·show n.bin<=fl n.me.toNat;rw[qy,hfl];exact dL _
 ·show n.ae.term<=T;omega
def WE{m:Nat}{d:Int}(hd:d∈jb n m)(qy:n.me=j):0<=d/\d<m/\d≠j:=by
 unfold jb at hd;obtain⟨h1,h2⟩:=List.mem_filter.1 hd;obtain⟨i,h3,rfl⟩:=List.mem_map.1 h1;have h3:=List.mem_range.1 h3;have h2:¬(i:Int)=n.me:=by simpa using h2
 omega
def ach{m:Nat}:(jb n m).length<=m:=by
 unfold jb;refine kE (List.length_filter_le _ _) ?_;rw[lZ,List.length_range];exact bF _
def NG.G7(h:NG k v T fl j n L t)(E:Env k v T fl j):(n.aB.down=false->n.role=2->∀ d∈jb n k,xE n d)/\(∀ x∈(lu n k).1,LG k v T fl x)/\(lu n k).1.length<=8:=by
 have key:n.aB.down=false->n.role=2->∀ d∈jb n k,xE n d/\LG k v T fl (oW n d):=λhu hr d hd=>by
  have ho:=WE hd h.g.me;have hg:=h.vg hu;exact h.g.copy E hu ho (hg.term qO) (hg.vec qO).2.2.1 (hg.next hr d.toNat qO qO)
 refine⟨λhu hr d hd=>(key hu hr d hd).1,?_⟩;unfold lu;rcases hu:n.aB.down with _|_
 ·rcases hr:decide (n.role=2) with _|_
  ·exact⟨nofun,cZ _⟩
  ·refine⟨λx hx=>?_,?_⟩
   ·obtain⟨d,hd,rfl⟩:=List.mem_map.1 (show x∈(jb n k).map (oW n) from hx);exact(key hu (fU hr) d hd).2
   ·show((jb n k).map (oW n)).length<=8;rw[lZ];have:=ach (n:=n) (m:=k);have:=E.jm;omega
 ·exact⟨nofun,cZ _⟩
def NG.rcv(h:NG k v T fl j n L t)(x:aV):NG k v T fl j (nG n x) L t:=by
 refine⟨h.g.vec _ _ _ _ _,λhu=>?_,h.bl⟩;have hg:=h.vg hu;rcases e:decide (n.ae.term<x.term) with _|_
 ·refine hg.of ?_ rfl rfl rfl rfl (λ_=>bF _) hg.term;show(bif decide (n.ae.term<x.term) then 0 else n.role)=_;rw[e];rfl
 ·refine VG.zero ?_ hg.eF;show(bif decide (n.ae.term<x.term) then 0 else n.role)=_;rw[e];rfl
def NG.IE(h:NG k v T fl j n L t)(E:Env k v T fl j)(hu:n.aB.down=false){R:List aP}{a:Int}(hR:VR v T n.ae R a)(ha:1<=a):∃ L' t',NG k v T fl j (aS n R).1 L' t':=by
 have hs:=h.g.save E.T0.1 hu hR.rg hR.ok hR.k (by rw[hR.log];exact h.g.ap.2.2);obtain⟨L',t',h0⟩:=hs.ex;refine⟨L',t',h0,λhd=>?_,h.bl⟩;have hg:=h.vg hu;by_cases e:(aS n R).2=0
 ·have e1:=(hs.ok e).2;exact hg.of rfl rfl rfl rfl rfl (λ_=>by rw[e1,hR.log];exact bF _) (λ_=>by rw[e1,hR.term];exact ha)
 ·have e1:=(hs.bad e).1;exact hg.of rfl rfl rfl rfl rfl (λ_=>by rw[e1];exact bF _) (by rw[e1];exact hg.term)
def VR.put{R:List aP}{a:Int}(h:VR v T n.ae R a)(hl:n.ae.log.length<=64):mV n.ae R:=mV.of h.rg h.ok hl (by have:=h.len;omega)
def NG.ask(h:NG k v T fl j n L t)(E:Env k v T fl j)(hu:n.aB.down=false){x:aV}(hx:LG k v T fl x)(hk:x.kind=1)(hd:x.dst=n.me):aaB n x/\qJ k v T fl j (yA n x).1 (yA n x).2.1:=by
 have hR:VR v T n.ae (jG n.ae x).1 _:=ag0 hx.ok E.T0.2 hx.term;have ht:=hx.ok.term;have hlen:=h.g.log.len;obtain⟨L',t',h'⟩:=h.IE E hu hR qO;have hs:=h.g.save E.T0.1 hu hR.rg hR.ok hR.k (by rw[hR.log];exact h.g.ap.2.2);refine⟨⟨hx.ok,hk,by omega,hR.put hlen,h.g.EZ hu⟩,?_⟩;unfold yA;by_cases e:(aS n (jG n.ae x).1).2=0
 ·rw[aX e];refine⟨⟨L',t',h'⟩,λy hy=>?_,by show(1:Nat)<=8;decide⟩;obtain rfl:=List.mem_singleton.1 hy;obtain⟨e1,e2⟩:=hs.ok e;have hne:=hx.ok.ne;have zX:=hx.ok.src;have hsk:=hx.src;have qy:=h.g.me;exact h'.g.ltr E e1 (kd:=2) (d:=x.src) (a:=0) (b:=0) (ok:=(jG n.ae x).2) qO qO (by rw[e2,hR.term];omega) qO qO (λ_=>.inl rfl)
 ·rw[aT e];exact⟨⟨L',t',h'⟩,nofun,cZ _⟩
end
end
