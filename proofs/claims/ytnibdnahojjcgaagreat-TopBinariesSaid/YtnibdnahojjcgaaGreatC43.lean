/- Lemmas. -/
import Derived.Test.YtnibdnahojjcgaaGreatC39
namespace Go.Proofs.YtnibdnahojjcgaaGreat
set_option linter.all false
set_option maxRecDepth 100000
set_option maxHeartbeats 0
open Go.RowKit Tryz
def inK(N:Nat):List Nat->Bool
 |[]=>true
 |i::r=>(Nat.ble 5 i&&Nat.blt i N)&&inK N r
def U1{N:Nat}:∀ {R:List (Nat×aK)},inK N (kV R)=true->∀ p∈R,5<=p.1/\p.1<N
 |[],_,p,hp=>by cases hp
 |q::r,h,p,hp=>by
  obtain⟨h1,h2⟩:=kZ (show((Nat.ble 5 q.1&&Nat.blt q.1 N)&&inK N (kV r))=true from h);obtain⟨h3,h4⟩:=kZ h1;obtain rfl|hp:=List.mem_cons.1 hp
  ·exact⟨nb h3,mX h4⟩
  ·exact U1 h2 p hp
def an2{N b e a1 a2 a3 a4:Nat}{n:aA}(hb:b+3<=N)(h0:e<N)(h1:a1<N)(h2:a2<N)(h3:a3<N)(h4:a4<N):nI N (EP b e a1 a2 a3 a4 n):=
 ⟨⟨by omega,acY qO h0 h1 h2 h3 h4⟩,⟨by omega,λk hk=>by
  obtain _|_|_|_|_|k:=k
  all_goals first|exact tv|(show b+2<N;omega)⟩,⟨by omega,λj hj k hk=>True.intro⟩,⟨h0,λj hj k hk=>True.intro⟩,⟨h1,λj hj k hk=>True.intro⟩,⟨h2,λj hj k hk=>True.intro⟩,⟨h3,λj hj k hk=>True.intro⟩,⟨h4,λj hj k hk=>True.intro⟩,tv⟩
def Yk{N A e a1 a2 a3 a4:Nat}{C:aH}(h0:e<N)(h1:a1<N)(h2:a2<N)(h3:a3<N)(h4:a4<N):∀ {m i:Nat},8*(i+m)+24<=N->nI N (zS A e a1 a2 a3 a4 C i m)
 |0,_,_=>True.intro
 |m+1,i,h=>by
  refine JQ ?_ (Yk h0 h1 h2 h3 h4 qO);obtain _|_:=Nat.beq i A
  ·have:=Om (C:=C) (N:=N) (m:=1) (i:=i) qO;simpa [lY] using this
  ·exact an2 qO h0 h1 h2 h3 h4
def Za{M N:Nat}{e:cO}{R:List (Nat×aK)}(h:nI M R)(hN:N+1<M):nI M (oO N e R):=
 ⟨⟨hN,λk hk=>True.intro⟩,⟨by omega,λk hk=>by show 0<M;omega⟩,h⟩
def Bo(k:Nat)(C:aH):List (Nat×aK):=lY C 0 k
def DF(k A:Nat)(C:aH):List (Nat×aK):=zS A (8*A+27) (8*k+26) (8*k+27) (8*k+28) (8*k+29) C 0 k
def DI(k A:Nat)(C:aH):List (Nat×aK):=zS A (8*k+27) (8*k+28) (8*k+29) (8*k+30) (8*k+31) C 0 k
def Zl{k:Nat}{C:aH}{e:cO}(h:3<=k/\k<=5):Tl k (8*k+26) (oO (8*k+24) e (Bo k C)):=
 ⟨by omega,by obtain rfl|rfl|rfl:=three h <;> exact U1 rfl,by obtain rfl|rfl|rfl:=three h <;> rfl,Za (Om qO) qO⟩
def Zj{k A:Nat}{C:aH}{e:cO}(h:Tag k A):Tl k (8*k+30) (oO (8*k+24) e (DF k A C)):=by
 have hk:3<=k/\k<=5/\A<k:=by unfold Tag at h;omega
 refine⟨by omega,?_,?_,Za (Yk qO qO qO qO qO qO) qO⟩
 ·unfold Tag at h;obtain⟨rfl,rfl⟩|⟨rfl,rfl⟩|⟨rfl,rfl⟩|⟨rfl,rfl⟩|⟨rfl,rfl⟩|⟨rfl,rfl⟩|⟨rfl,rfl⟩|⟨rfl,rfl⟩|⟨rfl,rfl⟩|⟨rfl,rfl⟩|⟨rfl,rfl⟩|⟨rfl,rfl⟩:=h <;> exact U1 rfl
 ·unfold Tag at h;obtain⟨rfl,rfl⟩|⟨rfl,rfl⟩|⟨rfl,rfl⟩|⟨rfl,rfl⟩|⟨rfl,rfl⟩|⟨rfl,rfl⟩|⟨rfl,rfl⟩|⟨rfl,rfl⟩|⟨rfl,rfl⟩|⟨rfl,rfl⟩|⟨rfl,rfl⟩|⟨rfl,rfl⟩:=h <;> rfl
def Zk{k A:Nat}{C:aH}{e:cO}(h:Tag k A):Tl k (8*k+32) (oO (8*k+24) e (DI k A C)):=by
 have hk:3<=k/\k<=5/\A<k:=by unfold Tag at h;omega
 refine⟨by omega,?_,?_,Za (Yk qO qO qO qO qO qO) qO⟩
 ·unfold Tag at h;obtain⟨rfl,rfl⟩|⟨rfl,rfl⟩|⟨rfl,rfl⟩|⟨rfl,rfl⟩|⟨rfl,rfl⟩|⟨rfl,rfl⟩|⟨rfl,rfl⟩|⟨rfl,rfl⟩|⟨rfl,rfl⟩|⟨rfl,rfl⟩|⟨rfl,rfl⟩|⟨rfl,rfl⟩:=h <;> exact U1 rfl
 ·unfold Tag at h;obtain⟨rfl,rfl⟩|⟨rfl,rfl⟩|⟨rfl,rfl⟩|⟨rfl,rfl⟩|⟨rfl,rfl⟩|⟨rfl,rfl⟩|⟨rfl,rfl⟩|⟨rfl,rfl⟩|⟨rfl,rfl⟩|⟨rfl,rfl⟩|⟨rfl,rfl⟩|⟨rfl,rfl⟩:=h <;> rfl
def zO.of{k N:Nat}{v U c s:Int}{fl:Nat->Int}{K:Nat}{C:aH}{R:List (Nat×aK)}(H:CG k v U fl c s K C)(h:∀(D:aH) (j:Nat),j<k->∃ e a1 a2 a3 a4,LJ ⟨iF k D++R,N⟩ (C.nd j) (8*j+24) e a1 a2 a3 a4):zO k N C R:=λD x hx _=>by
 have hA:x.node.toNat<k:=hx.lt;obtain⟨e,a1,a2,a3,a4,hg⟩:=h D _ hA;obtain⟨h1,h2,h3,h4⟩:=H.vk hx;exact apN hg _ _ h2 h3 h4
def aw1{k:Nat}{C D:aH}{e:cO}(h:3<=k/\k<=5){j:Nat}(hj:j<k):∃ e0 a1 a2 a3 a4,LJ ⟨iF k D++oO (8*k+24) e (Bo k C),8*k+26⟩ (C.nd j) (8*j+24) e0 a1 a2 a3 a4:=by
 have ht:=Tag.of h hj;unfold Tag at ht;refine⟨8*j+27,8*j+28,8*j+29,8*j+30,8*j+31,?_⟩;obtain⟨rfl,rfl⟩|⟨rfl,rfl⟩|⟨rfl,rfl⟩|⟨rfl,rfl⟩|⟨rfl,rfl⟩|⟨rfl,rfl⟩|⟨rfl,rfl⟩|⟨rfl,rfl⟩|⟨rfl,rfl⟩|⟨rfl,rfl⟩|⟨rfl,rfl⟩|⟨rfl,rfl⟩:=ht
 all_goals exact⟨ah (aK.Wp 23) (Ul _ _),rfl,rfl,rfl,rfl,rfl,rfl,rfl,rfl,rfl⟩
def auD{k:Nat}{v U c s:Int}{fl:Nat->Int}{K:Nat}{C:aH}{e:cO}(H:CG k v U fl c s K C):zO k (8*k+26) C (oO (8*k+24) e (Bo k C)):=zO.of H λD j hj=>aw1 H.jm hj
def avp{k A:Nat}{C D:aH}{e:cO}(ht:Tag k A){j:Nat}(hj:j<k):∃ e0 a1 a2 a3 a4,LJ ⟨iF k D++oO (8*k+24) e (DF k A C),8*k+30⟩ (C.nd j) (8*j+24) e0 a1 a2 a3 a4:=by
 unfold Tag at ht;obtain⟨rfl,rfl⟩|⟨rfl,rfl⟩|⟨rfl,rfl⟩|⟨rfl,rfl⟩|⟨rfl,rfl⟩|⟨rfl,rfl⟩|⟨rfl,rfl⟩|⟨rfl,rfl⟩|⟨rfl,rfl⟩|⟨rfl,rfl⟩|⟨rfl,rfl⟩|⟨rfl,rfl⟩:=ht
 all_goals
  obtain _|_|_|_|_|j:=j
  all_goals first
   |omega
   |exact⟨_,_,_,_,_,⟨ah (aK.Wp 23) (Ul _ _),rfl,rfl,rfl,rfl,rfl,rfl,rfl,rfl,rfl⟩⟩
   |exact⟨_,_,_,_,_,⟨(rfl:_=aK.Wp 23 (AU _ _ _ _ _ _ _)),rfl,rfl,rfl,rfl,rfl,rfl,rfl,rfl,rfl⟩⟩
def auB{k A:Nat}{v U c s:Int}{fl:Nat->Int}{K:Nat}{C:aH}{e:cO}(ht:Tag k A)(H:CG k v U fl c s K C):zO k (8*k+30) C (oO (8*k+24) e (DF k A C)):=zO.of H λD j hj=>avp ht hj
def avq{k A:Nat}{C D:aH}{e:cO}(ht:Tag k A){j:Nat}(hj:j<k):∃ e0 a1 a2 a3 a4,LJ ⟨iF k D++oO (8*k+24) e (DI k A C),8*k+32⟩ (C.nd j) (8*j+24) e0 a1 a2 a3 a4:=by
 unfold Tag at ht;obtain⟨rfl,rfl⟩|⟨rfl,rfl⟩|⟨rfl,rfl⟩|⟨rfl,rfl⟩|⟨rfl,rfl⟩|⟨rfl,rfl⟩|⟨rfl,rfl⟩|⟨rfl,rfl⟩|⟨rfl,rfl⟩|⟨rfl,rfl⟩|⟨rfl,rfl⟩|⟨rfl,rfl⟩:=ht
 all_goals
  obtain _|_|_|_|_|j:=j
  all_goals first
   |omega
   |exact⟨_,_,_,_,_,⟨ah (aK.Wp 23) (Ul _ _),rfl,rfl,rfl,rfl,rfl,rfl,rfl,rfl,rfl⟩⟩
   |exact⟨_,_,_,_,_,⟨(rfl:_=aK.Wp 23 (AU _ _ _ _ _ _ _)),rfl,rfl,rfl,rfl,rfl,rfl,rfl,rfl,rfl⟩⟩
def auC{k A:Nat}{v U c s:Int}{fl:Nat->Int}{K:Nat}{C:aH}{e:cO}(ht:Tag k A)(H:CG k v U fl c s K C):zO k (8*k+32) C (oO (8*k+24) e (DI k A C)):=zO.of H λD j hj=>avq ht hj
def TY{k:Nat}(h:3<=k/\k<=5):(k=3/\8*k+24=48)\/(k=4/\8*k+24=56)\/(k=5/\8*k+24=64):=qO
def CG.send{k:Nat}{v U c s:Int}{fl:Nat->Int}{K:Nat}{C:aH}(h:CG k v U fl c s K C)(hc:c<=1000000000){w U2:Int}{A:Nat}{n:aA}{l:List aV}(r:qJ k w U2 fl A n l):F9 C.au l:=⟨by have:=r.len;omega,λx hx=>(r.ls x hx).ok,h.au hc⟩
def arC{k:Nat}{v U c s:Int}{fl:Nat->Int}{K:Nat}{C:aH}(h:CG k v U fl c s K C)(hc:c<=100000000)(i:Int):af 35 [.ptr 0 0,iV i] (CS k C) (λv t=>v=iV (axD k C i).2/\t=CS k (axD k C i).1):=by
 have hk:=h.jm;have hT:=OX (C:=C) hk;rcases hi:qx C.au i with _|_
 ·have e:axD k C i=(C,1):=by unfold axD;rw[hi];rfl
  rw[e];exact anJ k (8*k+24) (TY hk) C _ hT i hi
 ·have hb:=Gm hi;obtain⟨j,rfl⟩:∃ j:Nat,i=(j:Int):=⟨i.toNat,by omega⟩;have hj:j<C.au.row.length:=qO;have ah8:=h.au qO;have hD:∀ N1:Nt,lY { C with au:=N1 } 0 k=lY C 0 k:=λN1=>O1 (C:=C) (D:={ C with au:=N1 }) rfl
  have hth:af 38 [.ptr 0 0,iV (C.au.row.getD j .z).dst] (hT.cs { C with au:=jH C.au j }) (λv t=>v = .b (l9 k (C.au.row.getD j .z).dst)/\t=hT.cs { C with au:=jH C.au j }):=by
   have:=Yi k (three hk) { C with au:=jH C.au j } (C.au.row.getD j .z).dst;show af 38 _ ⟨iF k { C with au:=jH C.au j }++lY C 0 k,8*k+24⟩ (λv t=>v=_/\t=⟨iF k { C with au:=jH C.au j }++lY C 0 k,8*k+24⟩);rw[<-hD (jH C.au j)];exact this
  rcases hf:l9 k (C.au.row.getD j .z).dst with _|_
  ·have e:axD k C (j:Int)=({ C with au:=jH C.au j },1):=by
    unfold axD;rw[hi];show(bif !l9 k (C.au.row.getD j .z).dst then _ else _)=_;rw[hf];rfl
   rw[e];have:=anI k (8*k+24) (TY hk) C _ hT j hj ah8 hth hf;show af 35 _ _ (λv t=>v=iV 1/\t=⟨iF k { C with au:=jH C.au j }++lY { C with au:=jH C.au j } 0 k,8*k+24⟩);rw[hD (jH C.au j)];exact this
  ·have hd:=JF hf;have hA:(C.au.row.getD j .z).dst.toNat<k:=qO;have ht:=h.taken hj;obtain⟨L,t,g⟩:=h.nd _ hA;have hx:=h.row _ (axB (z:=.z) hj);have hr:=g.recv (h.env hA) hx;obtain⟨p,hp⟩:∃ p,uk (C.nd (C.au.row.getD j .z).dst.toNat) (C.au.row.getD j .z) k=p:=⟨_,rfl⟩;rw[hp]at hr;obtain⟨D,hDe⟩:∃ D,({ C with au:=jH C.au j }:aH).put (C.au.row.getD j .z).dst.toNat p.1=D:=⟨_,rfl⟩;have hrc:af 70 [.ptr (8*(C.au.row.getD j .z).dst.toNat+24) 0,jT (C.au.row.getD j .z)] (CS k { C with au:=jH C.au j }) (λv t=>v=bI [.d (iU p.2.1),iV p.2.2]/\t=CS k D):=by
    rw[<-hDe,<-hp];exact anV (Tag.of hk hA) { C with au:=jH C.au j } (C.au.row.getD j .z) (g.recv (h.env hA) hx).1
   have e:axD k C (j:Int)=({ D with au:=mP D.au p.2.1 },p.2.2):=by
    unfold axD;rw[hi];show(bif !l9 k (C.au.row.getD j .z).dst then _ else _)=_;rw[hf,<-hDe,<-hp];rfl
   rw[e];have ahq:D.au=jH C.au j:=by rw[<-hDe];rfl
   have hcD:D.calls=C.calls:=by rw[<-hDe];rfl
   have hsD:D.steps=C.steps:=by rw[<-hDe];rfl
   have hpre:∀ N1:Nt,iF k { D with au:=N1 }=iF k { C with au:=N1 }:=λN1=>by rw[<-hDe];rfl
   have avk:iF k D=iF k { C with au:=jH C.au j }:=by rw[<-hDe];rfl
   have hs:F9 (jH C.au j) p.2.1:=ht.send qO hr.2;have hT1:=OX (C:=D) hk;have e2:lY ({ D with au:=mP D.au p.2.1 }:aH) 0 k=lY D 0 k:=O1 (C:=D) (D:={ D with au:=mP D.au p.2.1 }) rfl;have es:(hT.cs { C with au:=jH C.au j }:ST)=CS k { C with au:=jH C.au j }:=by
    show(⟨iF k _++lY C 0 k,_⟩:ST)=⟨iF k _++lY { C with au:=jH C.au j } 0 k,_⟩;rw[hD (jH C.au j)]
   have es1:(hT1.cs { C with au:=jH C.au j }:ST)=CS k D:=by
    show(⟨iF k _++lY D 0 k,_⟩:ST)=⟨iF k D++lY D 0 k,_⟩;rw[avk]
   have es2:(hT1.cs { C with au:=mP (jH C.au j) p.2.1 }:ST)=CS k { D with au:=mP D.au p.2.1 }:=by
    show(⟨iF k _++lY D 0 k,_⟩:ST)=⟨iF k { D with au:=mP D.au p.2.1 }++lY { D with au:=mP D.au p.2.1 } 0 k,_⟩;rw[e2,hpre,ahq]
   have hsd:af 23 [.ptr 0 0,.d (iU p.2.1),iV p.2.2] (hT1.cs { C with au:=jH C.au j }) (λv t=>v=iV p.2.2/\t=hT1.cs { C with au:=mP (jH C.au j) p.2.1 }):=by
    rw[es1,es2];exact arF k (three hk) D p.2.1 p.2.2 hs.hl hs.hx (by rw[ahq];exact hs.hp)
   have awU:af 70 [.ptr (8*(C.au.row.getD j .z).dst.toNat+24) 0,jT (C.au.row.getD j .z)] (hT.cs { C with au:=jH C.au j }) (λv t=>v=bI [.d (iU p.2.1),iV p.2.2]/\t=hT1.cs { C with au:=jH C.au j }):=by
    rw[es,es1];exact hrc
   have:=arB k (8*k+24) (TY hk) C _ hT _ hT1 j hj ah8 hth hf p.2.1 p.2.2 awU hsd hd qO;rw[es2]at this;exact this
abbrev BX(k:Nat)(C:aH)(e:cO):ST:=⟨(8*k+24+1,xW e)::(8*k+24,xX)::(iF k C++Bo k C),8*k+24+2⟩
def Ro{f:Nat}{args:List V}{r:V}{k:Nat}{C C1:aH}{e:cO}(hk:3<=k/\k<=5)(h:af f args (CS k C) (λv t=>v=r/\t=CS k C1))(hr:je (λi=>i<8*k+24) r)(ha:lI (8*k+24) (xO (8*k+24)) args args):af f args (BX k C e) (λv t=>v=r/\t=BX k C1 e):=by
 refine af.pre 2 h rfl ?_ ?_ ?_ (Nv hk) (Eh (bF _)) (Eh (bF _)) hr ?_ ha ⟨rfl,rfl⟩
 ·obtain rfl|rfl|rfl:=three hk <;> rfl
 ·obtain rfl|rfl|rfl:=three hk <;> rfl
 ·obtain rfl|rfl|rfl:=three hk <;> rfl
 ·exact⟨λk hk=>True.intro,λq hq=>by show 0<8*k+24+2;omega,tv⟩
def Uj{N i o:Nat}(h:i<N):VW N (dI (xO N) (.ptr i o)) (.ptr i o):=oG (Td h) h
def arS{k:Nat}{v U c s:Int}{fl:Nat->Int}{K:Nat}{C:aH}{e:cO}(h:CG k v U fl c s K C)(hc:c<=100000000)(i:Int):af 35 [.ptr 0 0,iV i] (BX k C e) (λv t=>v=iV (axD k C i).2/\t=BX k (axD k C i).1 e):=
 Ro h.jm (arC h hc i) tv ⟨Uj qO,qC,tv⟩
def aoe{k:Nat}{C:aH}{e:cO}(hk:3<=k/\k<=5)(i:Int):af 38 [.ptr 0 0,iV i] (BX k C e) (λv t=>v = .b (l9 k i)/\t=BX k C e):=
 Ro hk (Yi k (three hk) C i) tv ⟨Uj qO,qC,tv⟩
def MP{f:Nat}{args args':List V}{r:V}{k:Nat}{C:aH}{p:Nt}(hk:3<=k/\k<=5)(h:af f args' (PS C.au) (λv t=>v=r/\t=PS p))(ha:lI 2 (bY [2,3]) args args')(hr:pR [2,3] (8*k+24) r=r)(hrr:VW (8*k+24) r r):af f args (CS k C) (λv t=>v=r/\t=CS k { C with au:=p }):=by
 have hT:=OX (C:=C) hk;have e2:lY ({ C with au:=p }:aH) 0 k=lY C 0 k:=O1 (C:=C) (D:={ C with au:=p }) rfl;show af f args ⟨iF k C++lY C 0 k,8*k+24⟩ (λv t=>v=r/\t=⟨iF k { C with au:=p }++lY { C with au:=p } 0 k,8*k+24⟩);rw[e2];generalize lY C 0 k=R at hT;refine Wu (af.frame (aI:=[2,3]) (K:=λv t=>v=r/\t=tq ⟨iF k C++R,8*k+24⟩ [2,3] (PS p)) h rfl (by intro i hi;show i<8*k+24;simp at hi;omega) rfl ha ?_ (λv t h12=>by obtain⟨h1,h2⟩:=h12;subst h1 h2;exact⟨hr,rfl⟩)) (bF _) (λv t h12=>?_)
 ·refine⟨⟨2,rfl,fB rfl λk hk=>?_⟩,⟨3,rfl,aW.row rfl fv⟩,tv⟩;obtain _|_|_|_|k:=k <;> first|exact qV|exact qW|omega
 ·obtain⟨h1,h2⟩:=h12;subst h1 h2;have l0:0<8*k+24:=qO;have l1:1<8*k+24:=qO;have l2:2<8*k+24:=qO;have l3:3<8*k+24:=qO;have l4:4<8*k+24:=qO;have l5:5<=8*k+24:=qO;refine⟨bF _,hrr,⟨l0,zf (SY (C:=C) l5)⟩,⟨l1,zf (Su (bF _))⟩,⟨l2,fB rfl λq hq=>?_⟩,⟨l3,aW.row rfl fv⟩,⟨l4,aW.row rfl fv⟩,pq 7 hT rfl rfl (by obtain rfl|rfl|rfl:=three hk <;> rfl)⟩;obtain _|_|_|_|q:=q <;> first|exact qV|exact vq rfl (show 3<8*k+24 by omega)|omega
section
section
variable {k:Nat} {v U c s:Int} {fl:Nat->Int} {K:Nat} {C:aH} {e:cO}
def PG{i:Int}:lI 2 (bY [2,3]) [.ptr 2 0,iV i] [.ptr 0 0,iV i]:=⟨vq rfl (show 0<2 by decide),qC,tv⟩
def arV(h:CG k v U fl c s K C)(hc:c<=100000000)(i:Int):af 36 [.ptr 2 0,iV i] (BX k C e) (λv t=>v=iV (AY C i).2/\t=BX k (AY C i).1 e):=by
 have hk:=h.jm;refine Ro hk ?_ True.intro ⟨Uj qO,qC,tv⟩;unfold AY;rcases hi:qx C.au i with _|_
 ·exact MP (p:=C.au) hk (amF C.au i hi) PG rfl (VW.refl tv)
 ·have hb:=Gm hi;obtain⟨j,rfl⟩:∃ j:Nat,i=(j:Int):=⟨i.toNat,by omega⟩;exact MP (p:=UW C.au j) hk (aqc C.au j qO (h.au qO)) PG rfl (VW.refl tv)
def aod(h:CG k v U fl c s K C)(hc:c<=100000000)(i:Int):af 37 [.ptr 2 0,iV i] (BX k C e) (λv t=>v=iV (Ap C i).2/\t=BX k (Ap C i).1 e):=by
 have hk:=h.jm;refine Ro hk ?_ True.intro ⟨Uj qO,qC,tv⟩;unfold Ap;rcases hi:qx C.au i with _|_
 ·exact MP (p:=C.au) hk (akN C.au i hi) PG rfl (VW.refl tv)
 ·have hb:=Gm hi;obtain⟨j,rfl⟩:∃ j:Nat,i=(j:Int):=⟨i.toNat,by omega⟩;rcases hf:decide (256<=(C.au.row.length:Int)) with _|_
  ·have hf:=bV hf;exact MP (p:=BZ C.au j) hk (amy C.au j qO qO (h.au qO)) PG rfl (VW.refl tv)
  ·have hf:=bT hf;exact MP (p:=C.au) hk (akM C.au j qO qO) PG rfl (VW.refl tv)
def arY(h:CG k v U fl c s K C)(hc:c<=100000000){A:Nat}(hA:A<k):af 25 [.ptr (8*A+24) 0,.ptr (8*k+24) 0] (BX k C e) (λv t=>v=iV (Df k C A).2/\t=BX k (Df k C A).1 e):=by
 obtain⟨L,t,g⟩:=h.nd A hA;have hb:=g.G7 (h.env hA);have r:qJ k v U fl A (C.nd A) (lu (C.nd A) k).1:=⟨⟨L,t,g⟩,hb.2.1,hb.2.2⟩;have hs:=h.send qO r;have ht:=Tag.of h.jm hA;have hC:(Df k C A).1=⟨λj=>bif Nat.beq j A then C.nd A else C.nd j,(Df k C A).1.au,(Df k C A).1.calls,(Df k C A).1.steps⟩:=by
  have:=Xz C A;have e1:(λj=>bif Nat.beq j A then C.nd A else C.nd j)=C.nd:=ah aH.nd this;rw[e1];rfl
 exact Jq (n':=C.nd A) (by unfold Tag at ht;exact ht) hC (λp=>aoa k A p C (C.at A) e k g.g.many (by have:=h.jm;omega) hb.1 hs) (λφ h0 h5 h13 wE=>⟨oG h5 qD,oG h13 qD,tv⟩) (λφ N=>qC)
def arX(h:CG k v U fl c s K C)(hK:K<=1000)(he:wG e){A:Nat}(hA:A<k):af 27 [.ptr (8*A+24) 0,.ptr (8*k+24) 0,.ptr (8*k+25) 0] (BX k C e) (λv t=>v=iV (uq C A e).2/\t=BX k (uq C A e).1 e):=by
 obtain⟨L,t,g⟩:=h.nd A hA;have hcl:=(g.call (h.env hA) he.sz).1;have ht:=Tag.of h.jm hA;exact Jq (n':=(nR (C.at A) e.c).1) (by unfold Tag at ht;exact ht) (alq C A e) (λp=>an8 k A p C e hcl (by have:=h.calls;omega) he.ch) (λφ h0 h5 h13 wE=>⟨oG h5 qD,oG h13 qD,oG wE qD,tv⟩) (λφ N=>qC)
def arW(h:CG k v U fl c s K C){A:Nat}(hA:A<k):af 31 [.ptr (8*A+24) 0,.ptr (8*k+25) 0] (BX k C e) (λv t=>v=iV 0/\t=BX k (C.put A (Gs (C.at A) e.b)) e):=by
 have ht:=Tag.of h.jm hA;exact Jq (n':=Gs (C.at A) e.b) (by unfold Tag at ht;exact ht) rfl (λp=>an6 k A p C (C.at A) e) (λφ h0 h5 h13 wE=>⟨oG h5 qD,oG wE qD,tv⟩) (λφ N=>qC)
def aol(h:CG k v U fl c s K C)(he:wG e){A:Nat}(hA:A<k):af 33 [.ptr (8*A+24) 0,.ptr (8*k+25) 0] (BX k C e) (λv t=>v=iV 0/\t=BX k (C.put A (Eg (C.at A) e.b)) e):=by
 obtain⟨L,t,g⟩:=h.nd A hA;have ht:=Tag.of h.jm hA;exact Jq (n':=Eg (C.at A) e.b) (by unfold Tag at ht;exact ht) rfl (λp=>alp k A p C (C.at A) e g.g.dg.ok he.b) (λφ h0 h5 h13 wE=>⟨oG h5 qD,oG wE qD,tv⟩) (λφ N=>qC)
abbrev BXT(k A:Nat)(C:aH)(e:cO):ST:=⟨(8*k+24+1,xW e)::(8*k+24,xX)::(iF k C++DF k A C),8*k+30⟩
abbrev BXS(k A:Nat)(C:aH)(e:cO):ST:=⟨(8*k+24+1,xW e)::(8*k+24,xX)::(iF k C++DI k A C),8*k+32⟩
def adr(h:CG k v U fl c s K C)(hc:c<=100000000)(hU:U<1048576){A:Nat}(hA:A<k):LH (C.at A)/\F9 C.au (xw (C.at A)).2.1:=by
 obtain⟨L,t,g⟩:=h.nd A hA;obtain⟨q1,q2⟩:=g.LQ (h.env hA) hU h.yY;exact⟨q1,h.send qO q2⟩
def auj{n:aA}(h:sZ n=false):xw n=nD n:=by unfold xw;rw[h];rfl
def aui{n:aA}(h:sZ n=true):xw n=(eX n,yH (eX n),0):=by unfold xw;rw[h];rfl
def arR(h:CG k v U fl c s K C)(hc:c<=100000000)(hU:U<1048576){A:Nat}(hA:A<k)(hst:sZ (C.at A)=false):af 22 [.ptr (8*A+24) 0,.ptr (8*k+24) 0] (BX k C e) (λv t=>v=iV (zH C A).2/\t=BX k (zH C A).1 e):=by
 obtain⟨q1,q2⟩:=adr h hc hU hA;have ht:=Tag.of h.jm hA;unfold zH;rw[auj hst]at q2 ⊢;exact Jq (n':=(nD (C.at A)).1) (by unfold Tag at ht;exact ht) rfl (λp=>anH k A p C (C.at A) e q1 hst q2) (λφ h0 h5 h13 wE=>⟨oG h5 qD,oG h13 qD,tv⟩) (λφ N=>qC)
def arQ(h:CG k v U fl c s K C)(hc:c<=100000000)(hU:U<1048576){A:Nat}(hA:A<k)(hst:sZ (C.at A)=true):af 22 [.ptr (8*A+24) 0,.ptr (8*k+24) 0] (BX k C e) (λv t=>v=iV (zH C A).2/\t=BXT k A (zH C A).1 e):=by
 obtain⟨q1,q2⟩:=adr h hc hU hA;have ht:=Tag.of h.jm hA;unfold zH;rw[aui hst]at q2 ⊢;exact aiK (n':=eX (C.at A)) ht rfl (λp=>anG k A p C (C.at A) e q1 hst q2) (λφ h0 h5 h13 wE=>⟨oG h5 qD,oG h13 qD,tv⟩) (λφ N=>qC)
def als(h:CG k v U fl c s K C){A:Nat}(hA:A<k)(hst:vS (C.at A) e.b=false):af 29 [.ptr (8*A+24) 0,.ptr (8*k+25) 0] (BX k C e) (λv t=>v=iV (ui C A e.b).2/\t=BX k (ui C A e.b).1 e):=by
 obtain⟨L,t,g⟩:=h.nd A hA;have hS:=(g.start (h.env hA) h.yY e.b).1;have ht:=Tag.of h.jm hA;have e1:ui C A e.b=(C.put A (C.at A),DZ (C.at A) e.b):=by unfold ui;rw[hst,Xz];rfl
 rw[e1];exact Jq (n':=C.at A) (by unfold Tag at ht;exact ht) rfl (λp=>ajK k A p C (C.at A) e L t hS hst) (λφ h0 h5 h13 wE=>⟨oG h5 qD,oG wE qD,tv⟩) (λφ N=>qC)
def alr(h:CG k v U fl c s K C){A:Nat}(hA:A<k)(hst:vS (C.at A) e.b=true):af 29 [.ptr (8*A+24) 0,.ptr (8*k+25) 0] (BX k C e) (λv t=>v=iV (ui C A e.b).2/\t=BXS k A (ui C A e.b).1 e):=by
 obtain⟨L,t,g⟩:=h.nd A hA;have hS:=(g.start (h.env hA) h.yY e.b).1;have ht:=Tag.of h.jm hA;have e1:ui C A e.b=(C.put A (wQ (C.at A) e.b).1,(wQ (C.at A) e.b).2):=by unfold ui;rw[hst];rfl
 rw[e1];exact aiL (n':=(wQ (C.at A) e.b).1) ht rfl (λp=>ajJ k A p C (C.at A) e L t hS hst) (λφ h0 h5 h13 wE=>⟨oG h5 qD,oG wE qD,tv⟩) (λφ N=>qC)
end
end
