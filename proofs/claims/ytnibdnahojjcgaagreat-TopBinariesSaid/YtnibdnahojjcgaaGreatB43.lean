/- A part of the proof. -/
import Derived.Test.YtnibdnahojjcgaaGreatB38
import Derived.Test.YtnibdnahojjcgaaGreatB41
import Derived.Test.YtnibdnahojjcgaaGreatB42
namespace Go.Proofs.YtnibdnahojjcgaaGreat
set_option maxRecDepth 100000
set_option maxHeartbeats 16000000
set_option linter.unusedVariables false
set_option linter.unusedSimpArgs false
open Go.RowKit
def sQ:List UInt8->Option aI
 |[]=>none
 |x::r=>some (Tq (x::r))
def oP(n:az):List (Option aI):=((n.ah.log.drop n.fA.toNat).take (n.eQ-n.fA).toNat).map (λe=>sQ e.b)
def vX(n:az)(x:aP):List (Option aI):=bif decide (x.kind=3) then oP (D6 (ng (aW n (bi n.ah x).1).1 x) x (bi n.ah x).2.2) else oP (wX (kT (mY n x) x))
def vO(n:az)(x:aP)(k:Nat):az×List aP×Int:=Gs n x k (vX (mZ n x) x)
def vk(n:az):Bool:=bif n.aA.down then false else bif decide (n.dn=2) then false else decide ((wR n).2=0)
def zL(n:az):az×List aP×Int:=bif vk n then (fB n,xX (fB n),0) else nP n
def JJ(n:az):bP×Nat:=Fv FW n.aA.b
def Eu(n:az)(b:Int):Int:=bif !n.aA.down then 31 else EM b (max (JJ n).1.floor 1)
def EZ(n:az)(b:Int):az:={ n with aA:=dJ.cut { n.aA with down:=false,mD:=false,keep:=0 } (JJ n).2,bin:=b,ah:=(JJ n).1,dn:=0,eQ:=0,fA:=0,st:=Jm,fF:=[],iL:=[],fD:=[],next:=[],fJ:=[] }
def xJ(n:az)(b:Int):az×Int:=
 bif decide ((JJ n).1.floor<b) then
  (bif !decide ((aW (EZ n b) (jq b)).2=0) then ({ (aW (EZ n b) (jq b)).1 with aA:=(aW (EZ n b) (jq b)).1.aA.nG 0 },(aW (EZ n b) (jq b)).2) else ((aW (EZ n b) (jq b)).1,0))
 else (EZ n b,0)
def xI(n:az)(b:Int):Bool:=decide (Eu n b=0)
def lY(k:Nat)(i:Int):Bool:=bif decide (0<=i) then decide (i<(k:Int)) else false
def aF.tell(C:aF)(A:Nat)(n:az)(l:List aP):aF:={ C.put A n with ax:=lL C.ax l }
def uH(k:Nat)(C:aF)(i:Int):aF×Int:=
 bif !qC C.ax i then (C,1)
 else bif !lY k (C.ax.row.getD i.toNat .z).dst then ({ C with ax:=jf C.ax i.toNat },1)
 else ({ C with ax:=jf C.ax i.toNat }.tell (C.ax.row.getD i.toNat .z).dst.toNat (vO (C.at (C.ax.row.getD i.toNat .z).dst.toNat) (C.ax.row.getD i.toNat .z) k).1 (vO (C.at (C.ax.row.getD i.toNat .z).dst.toNat) (C.ax.row.getD i.toNat .z) k).2.1,
  (vO (C.at (C.ax.row.getD i.toNat .z).dst.toNat) (C.ax.row.getD i.toNat .z) k).2.2)
def DJ(C:aF)(i:Int):aF×Int:=bif !qC C.ax i then (C,1) else ({ C with ax:=RN C.ax i.toNat },0)
def Dn(C:aF)(i:Int):aF×Int:=bif !qC C.ax i then (C,1) else bif decide (256<=(C.ax.row.length:Int)) then (C,20) else ({ C with ax:=Bh C.ax i.toNat },0)
def yT(C:aF)(A:Nat):aF×Int:=(C.tell A (zL (C.at A)).1 (zL (C.at A)).2.1,(zL (C.at A)).2.2)
def BL(k:Nat)(C:aF)(A:Nat):aF×Int:=({ C with ax:=lL C.ax (mf (C.at A) k).1 },(mf (C.at A) k).2)
def ve(C:aF)(A:Nat)(b:Int):aF×Int:=bif xI (C.at A) b then (C.put A (xJ (C.at A) b).1,(xJ (C.at A) b).2) else (C,Eu (C.at A) b)
def xQ(k:Nat)(C:aF)(A:Nat)(e:bT):aF×Int:=
 bif decide (e.kind=1) then yT C A
 else bif decide (e.kind=2) then BL k C A
 else bif decide (e.kind=6) then vC C A e
 else bif decide (e.kind=9) then ve C A e.b
 else bif decide (e.kind=7) then (C.put A (G7 (C.at A) e.b),0)
 else bif decide (e.kind=8) then (C.put A (GL (C.at A) e.b),0)
 else (C,1)
def nM(k:Nat)(C:aF)(e:bT):aF×Int:=
 bif decide (e.kind=3) then uH k C e.a
 else bif decide (e.kind=4) then DJ C e.a
 else bif decide (e.kind=5) then Dn C e.a
 else bif lY k e.a then xQ k C e.a.toNat e else (C,1)
def wL(C:aF)(x:kL):kL:=bif x.done then x else bif decide ((uD (C.at x.node.toNat) x.number x.term).2=0) then { x with done:=true,vW:=(uD (C.at x.node.toNat) x.number x.term).1,Yl:=C.steps } else x
def Qs(C:aF):aF:={ C with calls:=C.calls.map (wL C) }
def iF(k:Nat)(C:aF)(e:bT):aF×Int:=({ Qs (nM k C e).1 with steps:=(nM k C e).1.steps+1 },(nM k C e).2)
def rC(k:Nat):aF:=⟨λj=>lD j k,wU,[],0⟩
theorem fZ.up{c:aI}{v w:Int}(h:fZ c v)(hw:v<=w)(h3:w<=3):fZ c w:=⟨h.kz,by have:=h.le;omega,h3,h.fits,h.chunks,h.text⟩
structure EG (v T:Int) (e:dm):Prop where
 term:1<=e.term/\e.term<=T
 b:e.b=[]\/∃ c,e.b=gU c/\fZ c v/\(c.kind=8->c.n<=v)
theorem EG.up{v w T U:Int}{e:dm}(h:EG v T e)(hw:v<=w)(h3:w<=3)(hT:T<=U):EG w U e:=
 ⟨⟨h.term.1,by have:=h.term.2;omega⟩,h.b.imp id λ⟨c,h1,h2,h4⟩=>⟨c,h1,h2.up hw h3,λhk=>by have:=h4 hk;omega⟩⟩
theorem EG.len{v T:Int}{e:dm}(h:EG v T e):e.b.length<=200:=by
 rcases h.b with h|⟨c,h1,h2,_⟩
 ·rw[h];exact cu _
 ·rw[h1];exact(KJ h2).2
theorem EG.pz{v T:Int}{e:dm}(h:EG v T e)(hT:T<=1048576):pz e:=⟨⟨h.term.1,by have:=h.term.2;omega⟩,h.len⟩
theorem aem{c:aI}{v:Int}(h:fZ c v):sQ (gU c)=some c:=by
 have h1:=(KJ h).1;have h2:=ao2 h;rcases hb:gU c with _|⟨x,r⟩
 ·rw[hb]at h1;simp at h1
 ·rw[hb]at h2;show some (Tq (x::r))=_;rw[h2]
theorem EG.is{v T:Int}{e:dm}(h:EG v T e):SA e (sQ e.b) v:=by
 rcases h.b with h|⟨c,h1,h2,_⟩
 ·rw[h];exact h
 ·rw[h1,aem h2];exact⟨h1,h2,⟨h2.chunks,h2.text⟩⟩
theorem EG.bump{v T:Int}{e:dm}(h:EG v T e){c:aI}(hc:sQ e.b=some c):fZ c v/\(c.kind=8->c.n<=v):=by
 rcases h.b with h|⟨d,h1,h2,h3⟩
 ·rw[h]at hc;cases hc
 ·rw[h1,aem h2]at hc;cases hc;exact⟨h2,h3⟩
structure RG (v T:Int) (r:aT):Prop where
 ok:iR r=true
 gZ:r.kind=2->r.a<=T
 ent:r.kind=3->EG v T ⟨r.b,r.x⟩
theorem RG.up{v w T U:Int}{r:aT}(h:RG v T r)(hw:v<=w)(h3:w<=3)(hT:T<=U):RG w U r:=⟨h.ok,λe=>by have:=h.gZ e;omega,λe=>(h.ent e).up hw h3 hT⟩
theorem aov{r:aT}(h:iR r=true):(r.kind=1/\1<=r.a/\r.a<=3)\/(r.kind=2/\0<=r.a/\r.a<=1048576/\0<=r.b/\r.b<=5)\/(r.kind=3/\1<=r.a/\r.a<=64/\0<=r.b/\r.b<=1048576)\/(r.kind=4/\1<=r.a/\r.a<=64):=by
 have h:=jb h;obtain⟨h1,h2,h3,h4,h5,h6,h7⟩:=h;have hk:r.kind=1\/r.kind=2\/r.kind=3\/r.kind=4:=qO;rcases hk with hk|hk|hk|hk <;> rw[hk]at h3 h4 h6
 ·exact .inl ⟨hk,h3,h4⟩
 ·exact .inr (.inl ⟨hk,h3,h4,h5,h6⟩)
 ·exact .inr (.inr (.inl ⟨hk,h3,h4,h5,h6⟩))
 ·exact .inr (.inr (.inr ⟨hk,h3,h4⟩))
structure SG (v T:Int) (s:bP):Prop where
 floor:0<=s.floor/\s.floor<=3
 term:0<=s.term/\s.term<=T
 gZ:0<=s.gZ/\s.gZ<=5
 len:s.log.length<=64
 log:∀ e∈s.log,EG v T e
theorem SG.up{v w T U:Int}{s:bP}(h:SG v T s)(hw:v<=w)(h3:w<=3)(hT:T<=U):SG w U s:=⟨h.floor,⟨h.term.1,by have:=h.term.2;omega⟩,h.gZ,h.len,λe he=>(h.log e he).up hw h3 hT⟩
theorem acR{s:bP}{r:aT}(h:(kQ s r).2=0):iR r=true/\mF s r=true/\(kQ s r).1=qh s r:=by
 unfold kQ at h ⊢;by_cases h1:iR r=true
 ·rw[if_pos h1]at h ⊢;by_cases h2:mF s r=true
  ·rw[if_pos h2]at h ⊢;exact⟨h1,h2,rfl⟩
  ·rw[if_neg h2]at h;cases h
 ·rw[if_neg h1]at h;cases h
theorem KR{s:bP}{r:aT}(h1:iR r=true)(h2:mF s r=true):kQ s r=(qh s r,0):=by
 unfold kQ;rw[if_pos h1,if_pos h2]
theorem SG.next{v T:Int}{s:bP}{r:aT}(h:SG v T s)(hr:RG v T r)(hf:mF s r=true):SG v T (qh s r)/\s.floor<=(qh s r).floor:=by
 unfold mF at hf;unfold qh;rcases aov hr.ok with ⟨k,h1⟩|⟨k,h1⟩|⟨k,h1⟩|⟨k,h1⟩
 ·rw[if_pos k]at hf ⊢;have hf:=jb hf;exact⟨⟨⟨by have:=h.floor.1;show 0<=r.a;omega,h1.2⟩,h.term,h.gZ,h.len,h.log⟩,hf⟩
 ·rw[if_neg qO,if_pos k]at hf ⊢;exact⟨⟨h.floor,⟨h1.1,hr.gZ k⟩,h1.2.2,h.len,h.log⟩,eF _⟩
 ·rw[if_neg qO,if_neg qO,if_pos k]at hf ⊢;have hf:r.a=(s.log.length:Int)+1:=by simpa using hf
  refine⟨⟨h.floor,h.term,h.gZ,?_,λe he=>?_⟩,eF _⟩
  ·show(s.log++[_]).length<=64;rw[bW];show s.log.length+1<=64;omega
  ·rcases List.mem_append.1 he with he|he
   ·exact h.log e he
   ·obtain rfl:=List.mem_singleton.1 he;exact hr.ent k
 ·rw[if_neg qO,if_neg qO,if_neg qO]at hf ⊢;refine⟨⟨h.floor,h.term,h.gZ,?_,λe he=>h.log e (List.mem_of_mem_take he)⟩,eF _⟩;show(s.log.take _).length<=64;rw[dP];have:=h.len;omega
theorem SG.steps{v T:Int}:∀ {L:List aT} {s:bP},SG v T s->(∀ r∈L,RG v T r)->(steps s L).2=0->SG v T (steps s L).1/\s.floor<=(steps s L).1.floor
 |[],s,h,_,_=>⟨h,eF _⟩
 |r::L,s,h,hr,he=>by
  unfold Go.Proofs.YtnibdnahojjcgaaGreat.steps at he ⊢;by_cases h0:(kQ s r).2=0
  ·rw[if_pos h0]at he ⊢;obtain⟨_,hf,e⟩:=acR h0;obtain⟨p1,p2⟩:=h.next (hr r jC) hf
   rw[e]at he ⊢;obtain⟨q1,q2⟩:=SG.steps p1 (λx hx=>hr x (je _ hx)) he;exact⟨q1,Int.le_trans p2 q2⟩
  ·rw[if_neg h0]at he;exact au he h0
theorem SG.zero{v T:Int}(hT:0<=T):SG v T FW:=⟨⟨eF _,by decide⟩,⟨eF _,hT⟩,⟨eF _,by decide⟩,cu _,nofun⟩
structure DG (v T:Int) (d:dJ) (L:List aT) (t:List UInt8):Prop where
 sync:d.uZ=d.b.length
 bU:d.b.length+d.bU.length<=65536
 keep : -9223372036854775808<=d.keep
 laid:Laid d.b L t
 Hu:∀ r∈L,RG v T r
theorem DG.ok{v T:Int}{d:dJ}{L:List aT}{t:List UInt8}(h:DG v T d L t):d.ok:=
 ⟨by rw[h.sync];omega,by rw[h.sync];omega,by have:=h.bU;omega,by have:=h.bU;omega⟩
theorem DG.up{v w T U:Int}{d:dJ}{L:List aT}{t:List UInt8}(h:DG v T d L t)(hw:v<=w)(h3:w<=3)(hT:T<=U):DG w U d L t:=⟨h.sync,h.bU,h.keep,h.laid,λr hr=>(h.Hu r hr).up hw h3 hT⟩
theorem DG.ah{v T:Int}{d:dJ}{L:List aT}{t:List UInt8}(h:DG v T d L t)(hT:0<=T):SG v T (iM L):=(SG.steps (SG.zero hT) h.Hu h.laid.ok.2).1
theorem Laid.vW{b:List UInt8}{L:List aT}{t:List UInt8}(h:Laid b L t):Fv FW b=(iM L,(bY L).length):=by
 have key:∀(L:List aT) (s:bP),L.all iR=true->(steps s L).2=0->Fv s (bY L++t)=((steps s L).1,(bY L).length):=by
  intro L;induction L with
  |nil=>intro s _ _;exact ai8 h.aq7
  |cons r L ih=>
   intro s ha hs;rw[List.all_cons,qc]at ha;have h0:(kQ s r).2=0:=by
    by_cases h:(kQ s r).2=0
    ·exact h
    ·rw[steps,if_neg h]at hs;exact au hs h
   rw[steps,if_pos h0]at hs;obtain⟨f1,f2,f3⟩:=VM ha.1;have hf:jL (rD (mQ r)++(bY L++t))=(mQ r,(mQ r).length+6,0):=agX _ _ f2 f3;have ht:=ahR ha.1;rw[Pg,f1,kE,ahL (by rw[hf]) (by rw[hf];simp only;rw[ht]) (by rw[hf];simp only;rw[ht];exact h0),hf];simp only;rw[ht];simp only;rw[List.drop_left' (KH _),ih _ ha.2 hs,steps,if_pos h0,bW,KH]
 rw[h.eq];exact key L FW h.ok.1 h.ok.2
theorem acf:∀(R:List aT) (m:Nat),R.all iR=true->∃ j t,j<=R.length/\(bY R).take m=bY (R.take j)++t/\(jL t).2.2≠0
 |[],m,_=>⟨0,[],bu _,by simp[bY],by decide⟩
 |r::R,m,h=>by
  rw[List.all_cons,qc]at h;obtain⟨f1,f2,f3⟩:=VM h.1;have hfl:=agY h.1;by_cases hm:m<(zl r).length
  ·refine⟨0,(zl r).take m,cu _,?_,?_⟩
   ·rw[Pg,List.take_append_of_le_length qO];simp[bY]
   ·rw[f1,af6 _ _ f2 f3 qO];decide
  ·obtain⟨j,t,h1,h2,h3⟩:=acf R (m-(zl r).length) h.2;refine⟨j+1,t,by simp;omega,?_,h3⟩;rw[Pg,List.take_append,lW qO,h2,List.take_succ_cons,Pg,kE]
theorem aat{s:bP}{R:List aT}(h:(steps s R).2=0)(j:Nat):(steps s (R.take j)).2=0:=Us s R j h
theorem akS{R:List aT}(h:R.all iR=true)(j:Nat):(R.take j).all iR=true:=by
 rw[zF]at h ⊢;exact λx hx=>h x (List.mem_of_mem_take hx)
structure afa (v T:Int) (n:az) (L R:List aT) (p:az×Int):Prop where
 ex:∃ j t,DG v T p.1.aA (L++R.take j) t/\(p.2=0->j=R.length/\t=[]/\p.1.aA.down=false/\p.1.ah=(steps n.ah R).1)/\(p.2≠0->p.1.ah=n.ah/\((p.1.aA=n.aA/\j=0/\t=[])\/p.1.aA.down=true))
theorem lM.of{v T:Int}{s:bP}{R:List aT}(hR:∀ r∈R,RG v T r)(hst:(steps s R).2=0)(afB:s.log.length<=64)(hlen:R.length<=100):lM s R:=
 ⟨List.all_eq_true.2 λr hr=>(hR r hr).ok,hst,by omega,hlen⟩
theorem RS:(-9223372036854775808:Int)<=0:=by decide
theorem arH:¬(30:Int)=0:=by decide
theorem arI:¬(20:Int)=0:=by decide
theorem toY3:(jL []).2.2≠0:=by decide
theorem aaz{v T:Int}{n:az}{L R:List aT}(hd:DG v T n.aA L [])(hs:n.ah=iM L)(hu:n.aA.down=false)(hR:∀ r∈R,RG v T r)(hst:(steps n.ah R).2=0):afa v T n L R (aW n R):=by
 have hall:R.all iR=true:=List.all_eq_true.2 λr hr=>(hR r hr).ok
 have hb:n.aA.b=bY L:=by have:=hd.laid.eq;simpa using this
 have GY:∀ j,zf (L++R.take j):=λj=>au2 hd.laid.ok (akS hall j) (by rw[<-hs];exact aat hst j)
 have aeV:∀ j,∀ r∈L++R.take j,RG v T r:=λj r hr=>by
  rcases List.mem_append.1 hr with hr|hr
  ·exact hd.Hu r hr
  ·exact hR r (List.mem_of_mem_take hr)
 unfold aW sJ;rcases R with _|⟨r,R⟩
 ·exact⟨0,[],by simpa using hd,λ_=>⟨rfl,rfl,hu,rfl⟩,λh=>au rfl h⟩
 rw[aX (show ¬(((r::R).length:Nat):Int)=0 by simp;omega)];generalize r::R=R at *;simp only[di];rcases hf:decide (65536<n.aA.b.length+(bY R).length) with _|_
 ·have hf:=oZ hf;simp only[di];rcases hdm:n.aA.mD with _|_
  ·simp only[di];have e:(n.aA.append (bY R)).sync={ n.aA.append (bY R) with uZ:=(n.aA.append (bY R)).b.length }:=by
    show(bif n.aA.mD then _ else _)=_;rw[hdm];rfl
   rw[e];refine⟨R.length,[],⟨rfl,?_,hd.keep,⟨?_,GY _,toY3,?_⟩,aeV _⟩,λ_=>⟨rfl,rfl,hu,rfl⟩,λh=>au rfl h⟩
   ·show(n.aA.b++bY R).length+(n.aA.bU.drop (bY R).length).length<=65536;rw[bW,fE];have:=hd.bU;omega
   ·show n.aA.b++bY R=bY (L++R.take R.length)++[];rw[oJ,PD,hb,pG]
   ·show(n.aA.b++bY R).length<=100000;rw[bW];omega
  ·simp only[dR];have e:(n.aA.append (bY R)).sync=(n.aA.append (bY R)).nG n.aA.keep:=by
    show(bif n.aA.mD then _ else _)=_;rw[hdm];rfl
   rw[e];obtain⟨m,hm,hm1⟩:∃ m,(n.aA.append (bY R)).nG n.aA.keep=⟨(n.aA.b++bY R).take m,m,true,false,0,(n.aA.b++bY R).drop m++n.aA.bU.drop (bY R).length⟩/\n.aA.b.length<=m/\m<=(n.aA.b++bY R).length:=by
    refine⟨_,rfl,?_⟩;have h1:(n.aA.append (bY R)).uZ=n.aA.b.length:=hd.sync;have h2:(n.aA.append (bY R)).b=n.aA.b++bY R:=rfl;rw[h1,h2,bW];omega
   rw[hm];obtain⟨j,t,c1,c2,c3⟩:=acf R (m-n.aA.b.length) hall;have hl:((n.aA.b++bY R).take m).length=m:=by rw[dP];omega
   refine⟨j,t,⟨by show(m:Int)=_;rw[hl],?_,RS,⟨?_,GY j,c3,?_⟩,aeV j⟩,λh=>au h arH,λ_=>⟨rfl,.inr rfl⟩⟩
   ·show((n.aA.b++bY R).take m).length+((n.aA.b++bY R).drop m++n.aA.bU.drop (bY R).length).length<=65536;rw[hl,bW,fE,fE,bW];rw[bW]at hm1;have:=hd.bU;omega
   ·show(n.aA.b++bY R).take m=bY (L++R.take j)++t;rw[List.take_append,lW qO,c2,PD,hb,kE]
   ·show((n.aA.b++bY R).take m).length<=100000;rw[hl];rw[bW]at hm1;omega
 ·exact⟨0,[],by simpa using hd,λh=>au h arI,λ_=>⟨rfl,.inl ⟨rfl,rfl,rfl⟩⟩⟩
theorem DG.nG{v T:Int}{d:dJ}{L:List aT}{t:List UInt8}(h:DG v T d L t)(k:Int):DG v T (d.nG k) L t/\(d.nG k).b=d.b:=by
 obtain⟨m,hm,hm1⟩:∃ m,d.nG k=⟨d.b.take m,m,true,false,0,d.b.drop m++d.bU⟩/\m=d.b.length:=by
  refine⟨_,rfl,?_⟩;rw[h.sync];omega
 rw[hm];subst hm1;refine⟨⟨by simp,by simpa using h.bU,RS,?_,h.Hu⟩,by simp⟩;show Laid (d.b.take d.b.length) L t;rw[oJ];exact h.laid
theorem DG.YL{v T:Int}{d:dJ}{L:List aT}{t:List UInt8}(h:DG v T d L t)(k:Int)(hk : -9223372036854775808<=k):DG v T { d with mD:=true,keep:=k } L t:=⟨h.sync,h.bU,hk,h.laid,h.Hu⟩
theorem DG.Hq{v T:Int}{d:dJ}{L:List aT}{t:List UInt8}(h:DG v T d L t):DG v T (dJ.cut { d with down:=false,mD:=false,keep:=0 } (bY L).length) L []:=by
 have hb:=h.laid.eq;have e:d.b.take (bY L).length=bY L:=by rw[hb,List.take_left]
 refine⟨?_,?_,RS,⟨?_,h.laid.ok,toY3,?_⟩,h.Hu⟩
 ·show((bY L).length:Int)=(d.b.take (bY L).length).length;rw[e]
 ·show(d.b.take (bY L).length).length+(d.b.drop (bY L).length++d.bU).length<=65536;have:=h.bU;rw[bW,fE,dP];omega
 ·show d.b.take (bY L).length=bY L++[];rw[e,pG]
 ·show(d.b.take (bY L).length).length<=100000;have:=h.laid.len;rw[dP];omega
section
structure LG (k:Nat) (v T:Int) (fl:Nat->Int) (x:aP):Prop where
 ok:jJ x
 src:x.src<k
 dst:x.dst<k
 bin:x.bin<=fl x.src.toNat
 term:x.term<=T
 es:∀ e∈x.l,EG v T e
 len:x.kind=3->x.a+x.l.length<=64
theorem LG.up{k:Nat}{v w T U:Int}{fl lh:Nat->Int}{x:aP}(h:LG k v T fl x)(hw:v<=w)(h3:w<=3)(hT:T<=U)(hf:∀ i,fl i<=lh i):LG k w U lh x:=
 ⟨h.ok,h.src,h.dst,by have:=h.bin;have:=hf x.src.toNat;omega,by have:=h.term;omega,λe he=>(h.es e he).up hw h3 hT,h.len⟩
structure UG (v:Int) (n:az) (L:List aT) (t:List UInt8):Prop where
 t:t=[]
 ah:n.ah=iM L
 bin:n.bin=n.ah.floor
 FM:1<=n.bin
 st:kC n.st n.st.version
 oU:n.st.version<=v
structure mM (k:Nat) (v T:Int) (fl:Nat->Int) (j:Nat) (n:az) (L:List aT) (t:List UInt8):Prop where
 me:n.me=j
 many:n.many=k
 dg:DG v T n.aA L t
 fl:(iM L).floor=fl j
 log:SG v T n.ah
 fit:EN n.st
 verb:0<=n.st.version/\n.st.version<=3
 ap:0<=n.fA/\n.fA<=n.eQ/\n.eQ<=n.ah.log.length
 fF:(n.fF.length:Int)=n.fA
 up:n.aA.down=false->UG v n L t
structure VG (k:Nat) (fl:Nat->Int) (j:Nat) (n:az):Prop where
 dn:n.dn=0\/n.dn=1\/n.dn=2
 vec:n.dn≠0->n.iL.length=k/\n.fD.length=k/\n.next.length=k/\n.fJ.length=k
 fD:∀ i,i<k->n.fD.getD i 0<=fl i
 next:n.dn=2->∀ i,i<k->i≠j->1<=n.next.getD i 0/\n.next.getD i 0<=(n.ah.log.length:Int)+1
 term:n.dn≠0->1<=n.ah.term
structure NG (k:Nat) (v T:Int) (fl:Nat->Int) (j:Nat) (n:az) (L:List aT) (t:List UInt8):Prop where
 g:mM k v T fl j n L t
 vg:n.aA.down=false->VG k fl j n
 bl:n.fD.length<=5
theorem mM.raise{k:Nat}{v w T U:Int}{fl lh:Nat->Int}{j:Nat}{n:az}{L:List aT}{t:List UInt8}(h:mM k v T fl j n L t)(hw:v<=w)(h3:w<=3)(hT:T<=U)(hf:lh j=fl j):mM k w U lh j n L t:=
 ⟨h.me,h.many,h.dg.up hw h3 hT,by rw[hf];exact h.fl,h.log.up hw h3 hT,h.fit,h.verb,h.ap,h.fF,λhu=>⟨(h.up hu).t,(h.up hu).ah,(h.up hu).bin,(h.up hu).FM,(h.up hu).st,by have:=(h.up hu).oU;omega⟩⟩
theorem VG.up{k:Nat}{fl lh:Nat->Int}{j:Nat}{n:az}(h:VG k fl j n)(hf:∀ i,fl i<=lh i):VG k lh j n:=⟨h.dn,h.vec,λi hi=>Int.le_trans (h.fD i hi) (hf i),h.next,h.term⟩
theorem NG.up{k:Nat}{v w T U:Int}{fl lh:Nat->Int}{j:Nat}{n:az}{L:List aT}{t:List UInt8}(h:NG k v T fl j n L t)(hw:v<=w)(h3:w<=3)(hT:T<=U)(hf:∀ i,fl i<=lh i)(hj:lh j=fl j):NG k w U lh j n L t:=
 ⟨h.g.raise hw h3 hT hj,λhu=>(h.vg hu).up hf,h.bl⟩
def zD(k:Nat)(v:Int)(fl:Nat->Int):Prop:=1<=v/\v<=3/\(v=1\/∀ i,i<k->v<=fl i)
section
variable {k:Nat} {v T:Int} {fl:Nat->Int} {j:Nat} {n:az} {L:List aT} {t:List UInt8}
theorem mM.SC(h:mM k v T fl j n L t)(hu:n.aA.down=false)(hs:zD k v fl)(hj:j<k):v<=n.bin/\1<=n.bin/\n.bin<=3:=by
 have u:=h.up hu;have h1:=h.log.floor;have h2:=h.fl;rw[<-u.ah,<-u.bin]at h2;rw[<-u.bin]at h1;refine⟨?_,u.FM,h1.2⟩;rcases hs.2.2 with h3|h3
 ·rw[h3];exact u.FM
 ·rw[h2];exact h3 j hj
theorem mM.Ef(h:mM k v T fl j n L t)(hu:n.aA.down=false):vI n:=⟨h.dg.ok,hu,h.dg.keep⟩
theorem SG.CE{v T:Int}{s:bP}(h:SG v T s):CE s.log:=⟨by have:=h.len;omega,λi hi=>by have:=(h.log _ (kM (z:=.z) hi)).len;omega⟩
theorem ajl{s:aZ}{e:dm}(hs:kC s s.version)(hv:s.version<=v)(he:EG v T e):kC (rX s (sQ e.b)).1 (rX s (sQ e.b)).1.version/\(rX s (sQ e.b)).1.version<=v:=by
 rcases hd:sQ e.b with _|c
 ·exact⟨hs,hv⟩
 ·obtain⟨h1,h2⟩:=he.bump hd;obtain⟨q1,q2⟩:=aqA (c:=c) hs ⟨h1.chunks,h1.text⟩;refine⟨q1,?_⟩;show(pW s c).1.version<=v;rcases q2 with q2|⟨q2,q3,q4,_⟩
  ·rw[q2];exact hv
  ·rw[q4];exact h2 q2
theorem aby:∀(l:List dm) (s:aZ) (r:List eY),kC s s.version->s.version<=v->(∀ e∈l,EG v T e) ->
  kC ((l.map (λe=>sQ e.b)).foldl (λp o=>((rX p.1 o).1,p.2++[(rX p.1 o).2])) (s,r)).1 ((l.map (λe=>sQ e.b)).foldl (λp o=>((rX p.1 o).1,p.2++[(rX p.1 o).2])) (s,r)).1.version /\
  ((l.map (λe=>sQ e.b)).foldl (λp o=>((rX p.1 o).1,p.2++[(rX p.1 o).2])) (s,r)).1.version<=v /\
  ((l.map (λe=>sQ e.b)).foldl (λp o=>((rX p.1 o).1,p.2++[(rX p.1 o).2])) (s,r)).2.length=r.length+l.length
 |[],s,r,h1,h2,_=>⟨h1,h2,rfl⟩
 |e::l,s,r,h1,h2,h3=>by
  obtain⟨p1,p2⟩:=ajl h1 h2 (h3 e jC);obtain⟨q1,q2,q3⟩:=aby l _ (r++[(rX s (sQ e.b)).2]) p1 p2 λx hx=>h3 x (je _ hx)
  refine⟨q1,q2,q3.trans ?_⟩;simp only[bW,ny,List.length_nil];omega
theorem abx{s:aZ}{l:List dm}(h1:kC s s.version)(h2:s.version<=v)(h3:∀ e∈l,EG v T e):kC (rF s (l.map (λe=>sQ e.b))).1 (rF s (l.map (λe=>sQ e.b))).1.version/\(rF s (l.map (λe=>sQ e.b))).1.version<=v/\(rF s (l.map (λe=>sQ e.b))).2.length=l.length:=by
 obtain⟨q1,q2,q3⟩:=aby l s [] h1 h2 h3;exact⟨q1,q2,q3.trans (by simp)⟩
structure Ready (v T:Int) (n:az):Prop where
 ap:0<=n.fA/\n.fA<=n.eQ/\n.eQ<=n.ah.log.length
 fF:(n.fF.length:Int)=n.fA
 st:kC n.st n.st.version
 oU:n.st.version<=v
 bin:v<=n.bin/\n.bin<=3
 v1:1<=v
 log:SG v T n.ah
theorem Ready.os(h:Ready v T n):(oP n).length=(n.eQ-n.fA).toNat:=by
 unfold oP;have:=h.ap;rw[lJ,dP,fE];omega
theorem Ready.sub(h:Ready v T n):∀ e∈(n.ah.log.drop n.fA.toNat).take (n.eQ-n.fA).toNat,EG v T e:=λe he=>h.log.log e (List.mem_of_mem_drop (List.mem_of_mem_take he))
theorem Ready.asf(h:Ready v T n):HY n (oP n):=by
 have ha:=h.ap;have hlen:=h.log.len;refine⟨h.os,ha.1,ha.2.2,by omega,?_,by have:=h.bin;have:=h.v1;omega,λi hi=>?_,λi hi=>?_⟩
 ·have:=h.fF;omega
 ·rw[h.os]at hi;have hi2:n.fA.toNat+i<n.ah.log.length:=qO;have hg:=h.log.log _ (kM (z:=.z) hi2);have e:(oP n).getD i none=sQ (n.ah.log.getD (n.fA.toNat+i) .z).b:=by
   unfold oP;rw[bC,qY,oh,if_pos qO,sD,bC,dW hi2];rfl
  rw[e];have h1:=hg.is;rcases hd:sQ (n.ah.log.getD (n.fA.toNat+i) .z).b with _|c
  ·rw[hd]at h1;exact h1
  ·rw[hd]at h1;exact⟨h1.1,h1.2.1.up h.bin.1 h.bin.2,h1.2.2⟩
 ·unfold oP;rw[<-List.map_take];exact(abx h.st h.oU λe he=>h.sub e (List.mem_of_mem_take he)).1.mi
structure ash (v:Int) (n n':az):Prop where
 ap:n'.fA=n.eQ/\n'.eQ=n.eQ
 fF:(n'.fF.length:Int)=n'.fA
 st:kC n'.st n'.st.version
 oU:n'.st.version<=v
theorem Ready.done(h:Ready v T n):ash v n (zX n (oP n)):=by
 obtain⟨q1,q2,q3⟩:=abx h.st h.oU h.sub;have ha:=h.ap;have hr:=h.fF;have ho:=h.os;refine⟨⟨?_,rfl⟩,?_,q1,q2⟩
 ·show n.fA+((oP n).length:Nat)=n.eQ;rw[ho];omega
 ·show((n.fF++(rF n.st (oP n)).2).length:Int)=n.fA+((oP n).length:Nat);have q4:(rF n.st (oP n)).2.length=(oP n).length:=by
   unfold oP;rw[q3,lJ]
  rw[bW,q4];omega
theorem mM.ready(h:mM k v T fl j n L t)(hu:n.aA.down=false)(hs:zD k v fl)(hj:j<k){m:az}(e1:m.fA=n.fA)(e2:m.fF=n.fF)(e3:m.st=n.st)(e4:m.bin=n.bin)(hc:n.fA<=m.eQ/\m.eQ<=m.ah.log.length)(hl:SG v T m.ah):Ready v T m:=by
 have u:=h.up hu;have b:=h.SC hu hs hj;refine⟨⟨by rw[e1];exact h.ap.1,by rw[e1];exact hc.1,hc.2⟩,by rw[e1,e2];exact h.fF,by rw[e3];exact u.st,by rw[e3];exact u.oU,by rw[e4];exact⟨b.1,b.2.2⟩,hs.1,hl⟩
theorem aai{R:List aT}:∀ {s:bP},(steps s R).2=0->(∀ r∈R,r.kind≠1)->(steps s R).1.floor=s.floor:=by
 induction R with
 |nil=>intro s _ _;rfl
 |cons r R ih=>
  intro s he hk;unfold steps at he ⊢;by_cases h0:(kQ s r).2=0
  ·rw[if_pos h0]at he ⊢;obtain⟨_,_,e⟩:=acR h0;rw[ih he λx hx=>hk x (je _ hx),e];unfold qh;rw[if_neg (hk r jC)];split
   ·rfl
   ·split <;> rfl
  ·rw[if_neg h0]at he;exact au he h0
structure aey (k:Nat) (v T:Int) (fl:Nat->Int) (j:Nat) (n:az) (R:List aT) (p:az×Int):Prop where
 ex:∃ L t,mM k v T fl j p.1 L t
 ok:p.2=0->p.1.aA.down=false/\p.1.ah=(steps n.ah R).1
 bad:p.2≠0->p.1.ah=n.ah/\(p.1.aA=n.aA\/p.1.aA.down=true)
theorem mM.save(h:mM k v T fl j n L t)(hT:0<=T)(hu:n.aA.down=false){R:List aT}(hR:∀ r∈R,RG v T r)(hst:(steps n.ah R).2=0)(hk:∀ r∈R,r.kind≠1)(hc:n.eQ<=(steps n.ah R).1.log.length):aey k v T fl j n R (aW n R):=by
 have u:=h.up hu;obtain rfl:=u.t;obtain⟨i,t',h1,h2,h3⟩:=(aaz h.dg u.ah hu hR hst).ex;have GY:zf L:=h.dg.laid.ok;have hfl:(iM (L++R.take i)).floor=fl j:=by
  rw[Vr GY,<-u.ah,aai (aat hst i) λx hx=>hk x (List.mem_of_mem_take hx),u.ah,h.fl]
 refine⟨⟨L++R.take i,t',?_⟩,λe=>⟨(h2 e).2.2.1,(h2 e).2.2.2⟩,λe=>⟨(h3 e).1,(h3 e).2.imp (·.1) id⟩⟩;by_cases e:(aW n R).2=0
 ·obtain⟨e1,e2,e3,e4⟩:=h2 e;have hs:=SG.steps h.log hR hst;refine⟨h.me,h.many,h1,hfl,by rw[e4];exact hs.1,h.fit,h.verb,⟨h.ap.1,h.ap.2.1,by rw[e4];exact hc⟩,h.fF,λ_=>⟨e2,?_,?_,u.FM,u.st,u.oU⟩⟩
  ·rw[e4,e1,oJ,Vr GY,<-u.ah]
  ·show n.bin=_;rw[e4,aai hst hk];exact u.bin
 ·obtain⟨e1,e2⟩:=h3 e;refine⟨h.me,h.many,h1,hfl,by rw[e1];exact h.log,h.fit,h.verb,⟨h.ap.1,h.ap.2.1,by rw[e1];exact h.ap.2.2⟩,h.fF,λhd=>?_⟩;rcases e2 with ⟨e2,e3,e4⟩|e2
  ·subst e3;refine⟨e4,?_,?_,u.FM,u.st,u.oU⟩
   ·rw[e1,u.ah,List.take_zero,pG]
   ·rw[e1];exact u.bin
  ·rw[e2]at hd;cases hd
theorem mM.vec(h:mM k v T fl j n L t)(r:Int)(a:List Bool)(b c d:List Int):mM k v T fl j { n with dn:=r,iL:=a,fD:=b,next:=c,fJ:=d } L t:=⟨h.me,h.many,h.dg,h.fl,h.log,h.fit,h.verb,h.ap,h.fF,λhu=>⟨(h.up hu).t,(h.up hu).ah,(h.up hu).bin,(h.up hu).FM,(h.up hu).st,(h.up hu).oU⟩⟩
theorem mM.did(h:mM k v T fl j n L t)(hu:n.aA.down=false)(hs:zD k v fl)(hj:j<k){c:Int}(hc:n.eQ<=c/\c<=n.ah.log.length):HY { n with eQ:=c } (oP { n with eQ:=c })/\mM k v T fl j (zX { n with eQ:=c } (oP { n with eQ:=c })) L t:=by
 have hr:Ready v T { n with eQ:=c }:=h.ready hu hs hj rfl rfl rfl rfl ⟨by have:=h.ap.2.1;show n.fA<=c;omega,hc.2⟩ h.log;have hd:=hr.done;have u:=h.up hu;have ha:=h.ap;have q:=hd.ap.1;refine⟨hr.asf,⟨h.me,h.many,h.dg,h.fl,h.log,hd.st.mi.fit,by have:=hd.st.oU;omega,⟨by rw[q];show 0<=c;omega,by rw[q,hd.ap.2];exact eF _,by rw[hd.ap.2];exact hc.2⟩,hd.fF,λ_=>⟨u.t,u.ah,u.bin,u.FM,hd.st,hd.oU⟩⟩⟩
end
end
section
structure qA (k:Nat) (v T:Int) (fl:Nat->Int) (j:Nat) (n:az) (l:List aP):Prop where
 ex:∃ L t,NG k v T fl j n L t
 ls:∀ x∈l,LG k v T fl x
 len:l.length<=8
structure Env (k:Nat) (v T:Int) (fl:Nat->Int) (j:Nat):Prop where
 iY:3<=k/\k<=5
 T0:0<=T/\T<=1048576
 sup:zD k v fl
 j:j<k
theorem VG.of{k:Nat}{fl:Nat->Int}{j:Nat}{n m:az}(h:VG k fl j n)(e1:m.dn=n.dn)(e2:m.iL=n.iL)(e3:m.fD=n.fD)(e4:m.next=n.next)(e5:m.fJ=n.fJ)(hl:n.dn=2->n.ah.log.length<=m.ah.log.length)(ht:n.dn≠0->1<=m.ah.term):VG k fl j m:=
 ⟨by rw[e1];exact h.dn,by rw[e1,e2,e3,e4,e5];exact h.vec,by rw[e3];exact h.fD,by
  rw[e1,e4];intro hr i hi hj;have:=h.next hr i hi hj
  have:=hl hr;omega,by rw[e1];exact ht⟩
theorem VG.zero{k:Nat}{fl:Nat->Int}{j:Nat}{n:az}(hr:n.dn=0)(hb:∀ i,i<k->n.fD.getD i 0<=fl i):VG k fl j n:=⟨.inl hr,λh=>au hr h,hb,λh=>by omega,λh=>au hr h⟩
structure VR (v T:Int) (s:bP) (R:List aT) (a:Int):Prop where
 rg:∀ r∈R,RG v T r
 ok:(steps s R).2=0
 log:(steps s R).1.log=s.log
 term:(steps s R).1.term=a
 k:∀ r∈R,r.kind≠1
 len:R.length<=1
theorem VR.nil{v T:Int}{s:bP}:VR v T s [] s.term:=⟨nofun,rfl,rfl,rfl,nofun,cu _⟩
theorem ajf{a b:Int}(ha:0<=a/\a<=1048576)(hb:0<=b/\b<=5):iR ⟨2,a,b,[]⟩=true:=by
 unfold iR;exact bg ⟨(by decide:(1:Int)<=2),(by decide:(2:Int)<=4),ha.1,ha.2,hb.1,hb.2,cu _⟩
theorem VR.gZ{v T:Int}{s:bP}{a b:Int}(ha:0<=a/\a<=T)(hT:T<=1048576)(hb:0<=b/\b<=5)(hf:s.term<a\/(s.term=a/\(s.gZ=0\/s.gZ=b))):VR v T s (kP a b) a:=by
 have hok:=ajf (a:=a) (b:=b) qO hb;have iC:mF s ⟨2,a,b,[]⟩=true:=by
  unfold mF;rw[if_neg (by show ¬(2:Int)=1;decide),if_pos rfl];simp;omega
 have e:steps s (kP a b)=({ s with term:=a,gZ:=b },0):=by
  show steps s [⟨2,a,b,[]⟩]=_;unfold steps;rw[KR hok iC];rfl
 refine⟨λr hr=>?_,by rw[e],by rw[e],by rw[e],λr hr=>?_,bu _⟩
 ·obtain rfl:=List.mem_singleton.1 hr;exact⟨hok,λ_=>ha.2,λh=>au (show(2:Int)=3 from h) qD⟩
 ·obtain rfl:=List.mem_singleton.1 hr;show ¬(2:Int)=1;decide
theorem Vz{v T:Int}{s:bP}{a:Int}(ha:0<=a/\a<=T)(hT:T<=1048576):VR v T s (iI s a) (max s.term a):=by
 unfold iI;rcases h:decide (a<=s.term) with _|_
 ·have h:=oZ h;rw[show max s.term a=a by omega];exact VR.gZ ha hT qD (.inl qO)
 ·have h:=jb h;rw[show max s.term a=s.term by omega];exact VR.nil
theorem apd{v T:Int}{s:bP}{x:aP}(hx:jJ x)(hT:T<=1048576)(ht:x.term<=T):VR v T s (lK s x).1 (max s.term x.term):=by
 have h0:=hx.term;have h1:=hx.src;unfold lK;rcases h:YQ s x with _|_
 ·have hr:s.term<=x.term/\(s.term<x.term\/s.gZ=0\/s.gZ=x.src+1):=by
   unfold YQ at h;rcases e1:decide (x.term<s.term) with _|_ <;> rw[e1]at h
   ·have e1:=oZ e1;refine⟨by omega,?_⟩;rcases e2:decide (s.term<x.term) with _|_ <;> rw[e2]at h
    ·rcases e3:decide (s.gZ=0) with _|_ <;> rw[e3]at h
     ·rcases e4:decide (s.gZ=x.src+1) with _|_ <;> rw[e4]at h
      ·exact au h (by simp)
      ·exact .inr (.inr (jb e4))
     ·exact .inr (.inl (jb e3))
    ·exact .inl (jb e2)
   ·exact au h (by simp)
  rw[show max s.term x.term=x.term by omega];simp only[di];rcases e:(bif decide (x.term=s.term) then decide (s.gZ=x.src+1) else false) with _|_
  ·exact VR.gZ qO hT qO qO
  ·have e:x.term=s.term:=by
    rcases e5:decide (x.term=s.term) with _|_
    ·rw[e5]at e;cases e
    ·exact jb e5
   rw[e];exact VR.nil
 ·exact Vz qO hT
section
variable {k:Nat} {v T:Int} {fl:Nat->Int} {j:Nat} {n:az} {L:List aT} {t:List UInt8}
theorem mM.Za(h:mM k v T fl j n L t)(E:Env k v T fl j)(hu:n.aA.down=false){kd d a b:Int}{ok:Bool}(hkd:kd=1\/kd=2\/kd=4)(hd:0<=d/\d<k/\d≠j)(ht:1<=n.ah.term)(ha:0<=a/\a<=64/\(kd=2->a=0))(hb:0<=b/\b<=1048576/\(kd=2\/kd=4->b=0))(hok:ok=true->kd=2\/kd=4):LG k v T fl { rH n kd d with a:=a,b:=b,ok:=ok }:=by
 have hb3:=h.SC hu E.sup E.j;have hT:=h.log.term;have hE:=E.T0;have hj:=E.j;have Ky:=E.iY;have uP:=h.me;have hfl:=h.fl;have N8:=(h.up hu).bin;rw[<-(h.up hu).ah,<-N8]at hfl;refine⟨⟨?_,?_,?_,?_,?_,?_,ha,hb,⟨by show(0:Int)<=0;decide,by show(0:Int)<=64;decide,λ_=>rfl⟩,hok,⟨cu _,λ_=>rfl⟩,nofun⟩,?_,?_,?_,?_,nofun,λh3=>?_⟩
 ·show 1<=kd/\kd<=4;omega
 ·show 0<=n.me/\n.me<=4;omega
 ·show 0<=d/\d<=4;omega
 ·show n.me≠d;omega
 ·show 1<=n.ah.term/\n.ah.term<=1048576;omega
 ·show 1<=n.bin/\n.bin<=3;omega
 ·show n.me<k;omega
 ·show d<k;omega
 ·show n.bin<=fl n.me.toNat;rw[uP,hfl];exact eF _
 ·show n.ah.term<=T;omega
 ·exact au (show kd=3 from h3) qO
theorem ajD{v T:Int}{l:List dm}(h:∀ e∈l,EG v T e)(hT:0<=T){i:Int}(hi:0<=i/\i<=l.length):0<=qo l i/\qo l i<=T:=by
 unfold qo;rcases e:decide (i=0) with _|_
 ·have e:=oZ e;rw[aX (show ¬i<0 by omega),aX (show ¬(l.length:Int)<i by omega)];have:=(h _ (kM (z:=.z) (show(i-1).toNat<l.length by omega))).term;show 0<=(l.getD (i-1).toNat .z).term/\(l.getD (i-1).toNat .z).term<=T;omega
 ·exact⟨eF _,hT⟩
theorem agU{l:List dm}{i:Int}(hi:0<=i/\i<=l.length):Bf l i 4=(l.drop i.toNat).take (min 4 ((l.length:Int)-i)).toNat:=by
 unfold Bf;rw[aX (show ¬i<0 by omega),aX (show ¬(l.length:Int)<i by omega)];rfl
theorem mM.copy(h:mM k v T fl j n L t)(E:Env k v T fl j)(hu:n.aA.down=false){d:Int}(hd:0<=d/\d<k/\d≠j)(ht:1<=n.ah.term)(hl:n.next.length=k)(hx:1<=n.next.getD d.toNat 0/\n.next.getD d.toNat 0<=(n.ah.log.length:Int)+1):wI n d/\LG k v T fl (o7 n d):=by
 have hb3:=h.SC hu E.sup E.j;have hT:=h.log.term;have hE:=E.T0;have hj:=E.j;have Ky:=E.iY;have uP:=h.me;have hfl:=h.fl;have N8:=(h.up hu).bin;have hlen:=h.log.len;have xu:=h.ap;rw[<-(h.up hu).ah,<-N8]at hfl;have hi:0<=n.next.getD d.toNat 0-1/\n.next.getD d.toNat 0-1<=(n.ah.log.length:Int):=qO
 have ht2:=ajD h.log.log hE.1 hi;have hbl:=agU hi;have hes:∀ e∈(o7 n d).l,EG v T e:=λe he=>by
  have he:e∈Bf n.ah.log (n.next.getD d.toNat 0-1) 4:=he;rw[hbl]at he;exact h.log.log e (List.mem_of_mem_drop (List.mem_of_mem_take he))
 have hll:(o7 n d).l.length<=4/\n.next.getD d.toNat 0-1+(o7 n d).l.length<=64:=by
  show(Bf n.ah.log (n.next.getD d.toNat 0-1) 4).length<=4/\n.next.getD d.toNat 0-1+(Bf n.ah.log (n.next.getD d.toNat 0-1) 4).length<=64
  rw[hbl,dP,fE];omega
 have hok:jJ (o7 n d):=by
  refine⟨?_,?_,?_,?_,?_,?_,?_,?_,?_,λh=>au (show false=true from h) qD,⟨hll.1,λh=>au (show(3:Int)=3 from rfl) h⟩,λe he=>(hes e he).pz hE.2⟩
  ·show(1:Int)<=3/\(3:Int)<=4;decide
  ·show 0<=n.me/\n.me<=4;omega
  ·show 0<=d/\d<=4;omega
  ·show n.me≠d;omega
  ·show 1<=n.ah.term/\n.ah.term<=1048576;omega
  ·show 1<=n.bin/\n.bin<=3;omega
  ·show 0<=n.next.getD d.toNat 0-1/\n.next.getD d.toNat 0-1<=64/\((3:Int)=2->_);omega
  ·show 0<=qo n.ah.log (n.next.getD d.toNat 0-1)/\qo n.ah.log (n.next.getD d.toNat 0-1)<=1048576/\((3:Int)=2\/(3:Int)=4->_);omega
  ·show 0<=n.eQ/\n.eQ<=64/\((3:Int)≠3->_);omega
 refine⟨⟨hd.1,by rw[hl];omega,⟨hx.1,by omega⟩,by omega,hok,⟨by omega,λi hi=>?_⟩⟩,⟨hok,?_,?_,?_,?_,hes,λ_=>hll.2⟩⟩
 ·have:=(hes _ (kM (z:=.z) hi)).len;omega
 ·show n.me<k;omega
 ·show d<k;omega
 ·show n.bin<=fl n.me.toNat;rw[uP,hfl];exact eF _
 ·show n.ah.term<=T;omega
theorem Z8{m:Nat}{d:Int}(hd:d∈gY n m)(uP:n.me=j):0<=d/\d<m/\d≠j:=by
 unfold gY at hd;obtain⟨h1,h2⟩:=List.mem_filter.1 hd;obtain⟨i,h3,rfl⟩:=List.mem_map.1 h1;have h3:=List.mem_range.1 h3;have h2:¬(i:Int)=n.me:=by simpa using h2
 omega
theorem Z9{m:Nat}:(gY n m).length<=m:=by
 unfold gY;refine jV (List.length_filter_le _ _) ?_;rw[lJ,List.length_range];exact bu _
theorem NG.Tt(h:NG k v T fl j n L t)(E:Env k v T fl j):(n.aA.down=false->n.dn=2->∀ d∈gY n k,wI n d)/\(∀ x∈(mf n k).1,LG k v T fl x)/\(mf n k).1.length<=8:=by
 have key:n.aA.down=false->n.dn=2->∀ d∈gY n k,wI n d/\LG k v T fl (o7 n d):=λhu hr d hd=>by
  have ho:=Z8 hd h.g.me;have hg:=h.vg hu;exact h.g.copy E hu ho (hg.term qO) (hg.vec qO).2.2.1 (hg.next hr d.toNat qO qO)
 refine⟨λhu hr d hd=>(key hu hr d hd).1,?_⟩;unfold mf;rcases hu:n.aA.down with _|_
 ·rcases hr:decide (n.dn=2) with _|_
  ·exact⟨nofun,cu _⟩
  ·refine⟨λx hx=>?_,?_⟩
   ·obtain⟨d,hd,rfl⟩:=List.mem_map.1 (show x∈(gY n k).map (o7 n) from hx);exact(key hu (jb hr) d hd).2
   ·show((gY n k).map (o7 n)).length<=8;rw[lJ];have:=Z9 (n:=n) (m:=k);have:=E.iY;omega
 ·exact⟨nofun,cu _⟩
theorem NG.rcv(h:NG k v T fl j n L t)(x:aP):NG k v T fl j (mZ n x) L t:=by
 refine⟨h.g.vec _ _ _ _ _,λhu=>?_,h.bl⟩;have hg:=h.vg hu;rcases e:decide (n.ah.term<x.term) with _|_
 ·refine hg.of ?_ rfl rfl rfl rfl (λ_=>bu _) hg.term;show(bif decide (n.ah.term<x.term) then 0 else n.dn)=_;rw[e];rfl
 ·refine VG.zero ?_ hg.fD;show(bif decide (n.ah.term<x.term) then 0 else n.dn)=_;rw[e];rfl
theorem NG.Rn(h:NG k v T fl j n L t)(E:Env k v T fl j)(hu:n.aA.down=false){R:List aT}{a:Int}(hR:VR v T n.ah R a)(ha:1<=a):∃ L' t',NG k v T fl j (aW n R).1 L' t':=by
 have hs:=h.g.save E.T0.1 hu hR.rg hR.ok hR.k (by rw[hR.log];exact h.g.ap.2.2);obtain⟨L',t',h0⟩:=hs.ex;refine⟨L',t',h0,λhd=>?_,h.bl⟩;have hg:=h.vg hu;by_cases e:(aW n R).2=0
 ·have e1:=(hs.ok e).2;exact hg.of rfl rfl rfl rfl rfl (λ_=>by rw[e1,hR.log];exact bu _) (λ_=>by rw[e1,hR.term];exact ha)
 ·have e1:=(hs.bad e).1;exact hg.of rfl rfl rfl rfl rfl (λ_=>by rw[e1];exact bu _) (by rw[e1];exact hg.term)
theorem VR.put{R:List aT}{a:Int}(h:VR v T n.ah R a)(hl:n.ah.log.length<=64):lM n.ah R:=lM.of h.rg h.ok hl (by have:=h.len;omega)
theorem NG.ask(h:NG k v T fl j n L t)(E:Env k v T fl j)(hu:n.aA.down=false){x:aP}(hx:LG k v T fl x)(hk:x.kind=1)(hd:x.dst=n.me):Yh n x/\qA k v T fl j (Bz n x).1 (Bz n x).2.1:=by
 have hR:VR v T n.ah (lK n.ah x).1 _:=apd hx.ok E.T0.2 hx.term;have ht:=hx.ok.term;have hlen:=h.g.log.len;obtain⟨L',t',h'⟩:=h.Rn E hu hR qO;have hs:=h.g.save E.T0.1 hu hR.rg hR.ok hR.k (by rw[hR.log];exact h.g.ap.2.2);refine⟨⟨hx.ok,hk,by omega,hR.put hlen,h.g.Ef hu⟩,?_⟩;unfold Bz;by_cases e:(aW n (lK n.ah x).1).2=0
 ·rw[bg e];refine⟨⟨L',t',h'⟩,λy hy=>?_,by show(1:Nat)<=8;decide⟩;obtain rfl:=List.mem_singleton.1 hy;obtain⟨e1,e2⟩:=hs.ok e;have hne:=hx.ok.ne;have Eg:=hx.ok.src;have hsk:=hx.src;have uP:=h.g.me;exact h'.g.Za E e1 (kd:=2) (d:=x.src) (a:=0) (b:=0) (ok:=(lK n.ah x).2) qO qO (by rw[e2,hR.term];omega) qO qO (λ_=>.inl rfl)
 ·rw[aX e];exact⟨⟨L',t',h'⟩,nofun,cu _⟩
end
end
section
attribute [local irreducible] ae
def zh:Nat->Nat
 |0=>0|j+1=>12+9*j
def yR(i:Nat):Nat->V
 |0=>.row 8 i|1=>.ptr 9 0|2=>.dE|_=>iV 0
def yQ:Nat->V
 |0=>.vw 10 0 0 0|_=>iV 0
theorem adD  : ae 16 [iV 3] e0 (λv t => v = bQ [.ptr 0 0, iV 0] /\ t = CS 3 (rC 3)) := by
  refine ae.of Tryz.func16 rfl rfl (by simp [Tryz.f16]) λX => ?_
  (repeat' (first | ((with_reducible refine dI ?_); first | refine asX (c := .ret) 11 2 69 (λj k => .d (uf (([] : List kL).getD j .z) k)) rfl rfl qN rfl qN (T.Ec [11, 8, 9, 10, 30, 1000, 1001, 1002, 1003, 1004, 1005, 1006, 1007, 1008, 1009, 1010, 1011, 1012, 1013, 1014, 1015, 1016, 1017, 1018, 0, 1, 2, 3, 4, 5, 6, 7, 12, 13, 14, 15, 16, 17, 18, 19, 21, 22, 23, 24, 25, 26, 27, 28] ⟨48, [(2, .ptr 0 0), (3, iV 0)], CS 3 (rC 3)⟩ ⟨rfl, rfl, rfl, rfl, ?_, ⟨asF rfl qN, asF rfl trivial, trivial⟩⟩ (T.ret ?_)) | refine as5 ?_ | refine oz ?_) | ((conv => whnf); first | (with_reducible refine dI ?_) | refine TL.le ⟨48, [(0, iV 3), (6, .ptr 11 0), (7, iV 1)], ⟨[(11, .blk 4 (yR 1)), (8, .row 76 1 1 (λj _ => .ptr (zh j) 0)), (9, .blk 4 yQ), (10, nS (iK wU))] ++ jA 0 (lD 0 3), 12⟩⟩ ⟨rfl, cu _, nb rfl, ⟨asF rfl trivial, asF rfl qN, asF rfl trivial, trivial⟩, ?_⟩ (TL.round ?_) | refine TL.le ⟨48, [(0, iV 3), (6, .ptr 11 0), (7, iV 2)], ⟨[(11, .blk 4 (yR 2)), (8, .row 76 1 2 (λj _ => .ptr (zh j) 0)), (9, .blk 4 yQ), (10, nS (iK wU))] ++ jA 0 (lD 0 3) ++ jA 12 (lD 1 3), 21⟩⟩ ⟨rfl, cu _, nb rfl, ⟨asF rfl trivial, asF rfl qN, asF rfl trivial, trivial⟩, ?_⟩ (TL.round ?_) | refine TL.le ⟨48, [(0, iV 3), (6, .ptr 11 0), (7, iV 3)], ⟨[(11, .blk 4 (yR 3)), (8, .row 76 1 3 (λj _ => .ptr (zh j) 0)), (9, .blk 4 yQ), (10, nS (iK wU))] ++ jA 0 (lD 0 3) ++ jA 12 (lD 1 3) ++ jA 21 (lD 2 3), 30⟩⟩ ⟨rfl, cu _, nb rfl, ⟨asF rfl trivial, asF rfl qN, asF rfl trivial, trivial⟩, ?_⟩ (TL.round ?_) | refine atg (Xo _ 3 (by decide) (by decide)) ⟨VW.refl trivial, VW.refl trivial, trivial⟩ ?_ | refine atg Xl trivial ?_ | refine ai.mk (λh => au (show false = true from h) (by decide)) (λh => ?_) | refine ai.mk (λh => ?_) (λh => au (show true = false from h) (by decide)) | refine ag.a ?_ | refine asC qN qN (asG [.ptr 0 0, iV 0] rfl (λk hk => rfl) ⟨asF rfl qN, asF rfl trivial, trivial⟩) ?_)))<;>try exact aB
  all_goals (try (repeat' (first | exact True.intro | refine ed ⟨_, rfl, ?_⟩ ?_ | refine ed ⟨nb rfl, ?_⟩ ?_ | exact yw rfl | exact vY rfl | exact af.row rfl (λj hj k hk => asF rfl trivial) | refine af.row rfl (λj hj k hk => asB ?_) | refine asE rfl (λk hk => asB ?_))))
  all_goals first | (have hk : k < 4 := hk; rcases k with _ | _ | _ | _ | k <;> first | exact aH.mk (asF rfl trivial) | exact aH.mk (asF rfl qN) | omega) | (have hk : k < 23 := hk; rcases k with _ | _ | _ | _ | _ | _ | _ | _ | _ | _ | _ | _ | _ | _ | _ | _ | _ | _ | _ | _ | _ | _ | _ | k <;> first | exact aH.mk (asF rfl trivial) | exact aH.mk (asF rfl qN)) | (have hk : k < 5 := hk; rcases k with _ | _ | _ | _ | _ | k <;> first | exact aH.mk (asF rfl trivial) | exact aH.mk (asF rfl qN)) | (have hk : k < 1 := hk; obtain rfl : k = 0 := Nat.lt_one_iff.1 hk; have hj : j < _ := hj; rcases j with _ | _ | _ | j <;> first | exact aH.mk (asF rfl qN) | (exfalso; revert hj; exact Nat.not_lt_of_le (Nat.le_add_left _ _)))
theorem anz  : ae 16 [iV 4] e0 (λv t => v = bQ [.ptr 0 0, iV 0] /\ t = CS 4 (rC 4)) := by
  refine ae.of Tryz.func16 rfl rfl (by simp [Tryz.f16]) λX => ?_
  (repeat' (first | ((with_reducible refine dI ?_); first | refine asX (c := .ret) 11 2 69 (λj k => .d (uf (([] : List kL).getD j .z) k)) rfl rfl qN rfl qN (T.Ec [11, 8, 9, 10, 39, 1000, 1001, 1002, 1003, 1004, 1005, 1006, 1007, 1008, 1009, 1010, 1011, 1012, 1013, 1014, 1015, 1016, 1017, 1018, 0, 1, 2, 3, 4, 5, 6, 7, 12, 13, 14, 15, 16, 17, 18, 19, 21, 22, 23, 24, 25, 26, 27, 28, 30, 31, 32, 33, 34, 35, 36, 37] ⟨48, [(2, .ptr 0 0), (3, iV 0)], CS 4 (rC 4)⟩ ⟨rfl, rfl, rfl, rfl, ?_, ⟨asF rfl qN, asF rfl trivial, trivial⟩⟩ (T.ret ?_)) | refine as5 ?_ | refine oz ?_) | ((conv => whnf); first | (with_reducible refine dI ?_) | refine TL.le ⟨48, [(0, iV 4), (6, .ptr 11 0), (7, iV 1)], ⟨[(11, .blk 4 (yR 1)), (8, .row 76 1 1 (λj _ => .ptr (zh j) 0)), (9, .blk 4 yQ), (10, nS (iK wU))] ++ jA 0 (lD 0 4), 12⟩⟩ ⟨rfl, cu _, nb rfl, ⟨asF rfl trivial, asF rfl qN, asF rfl trivial, trivial⟩, ?_⟩ (TL.round ?_) | refine TL.le ⟨48, [(0, iV 4), (6, .ptr 11 0), (7, iV 2)], ⟨[(11, .blk 4 (yR 2)), (8, .row 76 1 2 (λj _ => .ptr (zh j) 0)), (9, .blk 4 yQ), (10, nS (iK wU))] ++ jA 0 (lD 0 4) ++ jA 12 (lD 1 4), 21⟩⟩ ⟨rfl, cu _, nb rfl, ⟨asF rfl trivial, asF rfl qN, asF rfl trivial, trivial⟩, ?_⟩ (TL.round ?_) | refine TL.le ⟨48, [(0, iV 4), (6, .ptr 11 0), (7, iV 3)], ⟨[(11, .blk 4 (yR 3)), (8, .row 76 1 3 (λj _ => .ptr (zh j) 0)), (9, .blk 4 yQ), (10, nS (iK wU))] ++ jA 0 (lD 0 4) ++ jA 12 (lD 1 4) ++ jA 21 (lD 2 4), 30⟩⟩ ⟨rfl, cu _, nb rfl, ⟨asF rfl trivial, asF rfl qN, asF rfl trivial, trivial⟩, ?_⟩ (TL.round ?_) | refine TL.le ⟨48, [(0, iV 4), (6, .ptr 11 0), (7, iV 4)], ⟨[(11, .blk 4 (yR 4)), (8, .row 76 1 4 (λj _ => .ptr (zh j) 0)), (9, .blk 4 yQ), (10, nS (iK wU))] ++ jA 0 (lD 0 4) ++ jA 12 (lD 1 4) ++ jA 21 (lD 2 4) ++ jA 30 (lD 3 4), 39⟩⟩ ⟨rfl, cu _, nb rfl, ⟨asF rfl trivial, asF rfl qN, asF rfl trivial, trivial⟩, ?_⟩ (TL.round ?_) | refine atg (Xo _ 4 (by decide) (by decide)) ⟨VW.refl trivial, VW.refl trivial, trivial⟩ ?_ | refine atg Xl trivial ?_ | refine ai.mk (λh => au (show false = true from h) (by decide)) (λh => ?_) | refine ai.mk (λh => ?_) (λh => au (show true = false from h) (by decide)) | refine ag.a ?_ | refine asC qN qN (asG [.ptr 0 0, iV 0] rfl (λk hk => rfl) ⟨asF rfl qN, asF rfl trivial, trivial⟩) ?_)))<;>try exact aB
  all_goals (try (repeat' (first | exact True.intro | refine ed ⟨_, rfl, ?_⟩ ?_ | refine ed ⟨nb rfl, ?_⟩ ?_ | exact yw rfl | exact vY rfl | exact af.row rfl (λj hj k hk => asF rfl trivial) | refine af.row rfl (λj hj k hk => asB ?_) | refine asE rfl (λk hk => asB ?_))))
  all_goals first | (have hk : k < 4 := hk; rcases k with _ | _ | _ | _ | k <;> first | exact aH.mk (asF rfl trivial) | exact aH.mk (asF rfl qN) | omega) | (have hk : k < 23 := hk; rcases k with _ | _ | _ | _ | _ | _ | _ | _ | _ | _ | _ | _ | _ | _ | _ | _ | _ | _ | _ | _ | _ | _ | _ | k <;> first | exact aH.mk (asF rfl trivial) | exact aH.mk (asF rfl qN)) | (have hk : k < 5 := hk; rcases k with _ | _ | _ | _ | _ | k <;> first | exact aH.mk (asF rfl trivial) | exact aH.mk (asF rfl qN)) | (have hk : k < 1 := hk; obtain rfl : k = 0 := Nat.lt_one_iff.1 hk; have hj : j < _ := hj; rcases j with _ | _ | _ | _ | j <;> first | exact aH.mk (asF rfl qN) | (exfalso; revert hj; exact Nat.not_lt_of_le (Nat.le_add_left _ _)))
theorem anx  : ae 16 [iV 5] e0 (λv t => v = bQ [.ptr 0 0, iV 0] /\ t = CS 5 (rC 5)) := by
  refine ae.of Tryz.func16 rfl rfl (by simp [Tryz.f16]) λX => ?_
  (repeat' (first | ((with_reducible refine dI ?_); first | refine asX (c := .ret) 11 2 69 (λj k => .d (uf (([] : List kL).getD j .z) k)) rfl rfl qN rfl qN (T.Ec [11, 8, 9, 10, 48, 1000, 1001, 1002, 1003, 1004, 1005, 1006, 1007, 1008, 1009, 1010, 1011, 1012, 1013, 1014, 1015, 1016, 1017, 1018, 0, 1, 2, 3, 4, 5, 6, 7, 12, 13, 14, 15, 16, 17, 18, 19, 21, 22, 23, 24, 25, 26, 27, 28, 30, 31, 32, 33, 34, 35, 36, 37, 39, 40, 41, 42, 43, 44, 45, 46] ⟨48, [(2, .ptr 0 0), (3, iV 0)], CS 5 (rC 5)⟩ ⟨rfl, rfl, rfl, rfl, ?_, ⟨asF rfl qN, asF rfl trivial, trivial⟩⟩ (T.ret ?_)) | refine as5 ?_ | refine oz ?_) | ((conv => whnf); first | (with_reducible refine dI ?_) | refine TL.le ⟨48, [(0, iV 5), (6, .ptr 11 0), (7, iV 1)], ⟨[(11, .blk 4 (yR 1)), (8, .row 76 1 1 (λj _ => .ptr (zh j) 0)), (9, .blk 4 yQ), (10, nS (iK wU))] ++ jA 0 (lD 0 5), 12⟩⟩ ⟨rfl, cu _, nb rfl, ⟨asF rfl trivial, asF rfl qN, asF rfl trivial, trivial⟩, ?_⟩ (TL.round ?_) | refine TL.le ⟨48, [(0, iV 5), (6, .ptr 11 0), (7, iV 2)], ⟨[(11, .blk 4 (yR 2)), (8, .row 76 1 2 (λj _ => .ptr (zh j) 0)), (9, .blk 4 yQ), (10, nS (iK wU))] ++ jA 0 (lD 0 5) ++ jA 12 (lD 1 5), 21⟩⟩ ⟨rfl, cu _, nb rfl, ⟨asF rfl trivial, asF rfl qN, asF rfl trivial, trivial⟩, ?_⟩ (TL.round ?_) | refine TL.le ⟨48, [(0, iV 5), (6, .ptr 11 0), (7, iV 3)], ⟨[(11, .blk 4 (yR 3)), (8, .row 76 1 3 (λj _ => .ptr (zh j) 0)), (9, .blk 4 yQ), (10, nS (iK wU))] ++ jA 0 (lD 0 5) ++ jA 12 (lD 1 5) ++ jA 21 (lD 2 5), 30⟩⟩ ⟨rfl, cu _, nb rfl, ⟨asF rfl trivial, asF rfl qN, asF rfl trivial, trivial⟩, ?_⟩ (TL.round ?_) | refine TL.le ⟨48, [(0, iV 5), (6, .ptr 11 0), (7, iV 4)], ⟨[(11, .blk 4 (yR 4)), (8, .row 76 1 4 (λj _ => .ptr (zh j) 0)), (9, .blk 4 yQ), (10, nS (iK wU))] ++ jA 0 (lD 0 5) ++ jA 12 (lD 1 5) ++ jA 21 (lD 2 5) ++ jA 30 (lD 3 5), 39⟩⟩ ⟨rfl, cu _, nb rfl, ⟨asF rfl trivial, asF rfl qN, asF rfl trivial, trivial⟩, ?_⟩ (TL.round ?_) | refine TL.le ⟨48, [(0, iV 5), (6, .ptr 11 0), (7, iV 5)], ⟨[(11, .blk 4 (yR 5)), (8, .row 76 1 5 (λj _ => .ptr (zh j) 0)), (9, .blk 4 yQ), (10, nS (iK wU))] ++ jA 0 (lD 0 5) ++ jA 12 (lD 1 5) ++ jA 21 (lD 2 5) ++ jA 30 (lD 3 5) ++ jA 39 (lD 4 5), 48⟩⟩ ⟨rfl, cu _, nb rfl, ⟨asF rfl trivial, asF rfl qN, asF rfl trivial, trivial⟩, ?_⟩ (TL.round ?_) | refine atg (Xo _ 5 (by decide) (by decide)) ⟨VW.refl trivial, VW.refl trivial, trivial⟩ ?_ | refine atg Xl trivial ?_ | refine ai.mk (λh => au (show false = true from h) (by decide)) (λh => ?_) | refine ai.mk (λh => ?_) (λh => au (show true = false from h) (by decide)) | refine ag.a ?_ | refine asC qN qN (asG [.ptr 0 0, iV 0] rfl (λk hk => rfl) ⟨asF rfl qN, asF rfl trivial, trivial⟩) ?_)))<;>try exact aB
  all_goals (try (repeat' (first | exact True.intro | refine ed ⟨_, rfl, ?_⟩ ?_ | refine ed ⟨nb rfl, ?_⟩ ?_ | exact yw rfl | exact vY rfl | exact af.row rfl (λj hj k hk => asF rfl trivial) | refine af.row rfl (λj hj k hk => asB ?_) | refine asE rfl (λk hk => asB ?_))))
  all_goals first | (have hk : k < 4 := hk; rcases k with _ | _ | _ | _ | k <;> first | exact aH.mk (asF rfl trivial) | exact aH.mk (asF rfl qN) | omega) | (have hk : k < 23 := hk; rcases k with _ | _ | _ | _ | _ | _ | _ | _ | _ | _ | _ | _ | _ | _ | _ | _ | _ | _ | _ | _ | _ | _ | _ | k <;> first | exact aH.mk (asF rfl trivial) | exact aH.mk (asF rfl qN)) | (have hk : k < 5 := hk; rcases k with _ | _ | _ | _ | _ | k <;> first | exact aH.mk (asF rfl trivial) | exact aH.mk (asF rfl qN)) | (have hk : k < 1 := hk; obtain rfl : k = 0 := Nat.lt_one_iff.1 hk; have hj : j < _ := hj; rcases j with _ | _ | _ | _ | _ | j <;> first | exact aH.mk (asF rfl qN) | (exfalso; revert hj; exact Nat.not_lt_of_le (Nat.le_add_left _ _)))
end
end Go.Proofs.YtnibdnahojjcgaaGreat
