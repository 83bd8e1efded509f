/- Lemmas. -/
import Derived.Test.YtnibdnahojjcgaaGreatC29
import Derived.Test.YtnibdnahojjcgaaGreatC30
import Derived.Test.YtnibdnahojjcgaaGreatC31
namespace Go.Proofs.YtnibdnahojjcgaaGreat
set_option linter.all false
set_option maxRecDepth 100000
set_option maxHeartbeats 0
open Go.RowKit Tryz
section
attribute [local irreducible] af
structure Cal where
 node:Int
 number:Int
 term:Int
 at_:Int
 aaF:Int
 c:aF
 done:Bool
 vk:Rep
def Cal.z:Cal:=⟨0,0,0,0,0,.z,false,.z⟩
def wo(x:Cal):Nat->D
 |0=>iD x.node|1=>iD x.number|2=>iD x.term|3=>iD x.at_|4=>iD x.aaF
 |5=>lW x.c 0|6=>lW x.c 1|7=>lW x.c 2|8=>lW x.c 3|9=>lW x.c 4|10=>lW x.c 5|11=>lW x.c 6|12=>lW x.c 7
 |13=>bD x.done|14=>ji x.vk 0|_=>ji x.vk 1
def aih(x:Cal):V:=.agg 16 (λk=>.d (wo x k))
def ahB(l:List Cal):D:=.sl l.length 16 (λj=>wo (l.getD j .z))
structure aH where
 nd:Nat->aA
 au:Nt
 calls:List Cal
 steps:Int
def aH.at(C:aH)(i:Nat):aA:=C.nd i
def aH.put(C:aH)(i:Nat)(n:aA):aH:={ C with nd:=λj=>bif Nat.beq j i then n else C.nd j }
def GN(b:Nat)(n:aA):Nat->V
 |0=>iV n.me|1=>iV n.many|2=>.ptr (b+1) 0|3=>iV n.bin|4=>iV n.ae.floor|5=>iV n.ae.term|6=>iV n.ae.cu|7=>.d (gY n.ae.log)
 |8=>iV n.role|9=>iV n.dN|10=>iV n.dn
 |11=>.d (dW n.st 0)|12=>.d (dW n.st 1)|13=>.d (dW n.st 2)|14=>.d (dW n.st 3)|15=>.d (dW n.st 4)|16=>.d (dW n.st 5)|17=>.d (dW n.st 6)
 |18=>.row (b+3) n.fV.length|19=>.row (b+4) n.ig.length|20=>.row (b+5) n.eF.length|21=>.row (b+6) n.next.length|_=>.row (b+7) n.gz.length
def zN(b:Nat)(d:fC):Nat->V
 |0=>.vw (b+2) (d.b++d.dA).length 0 d.b.length|1=>iV d.synced|2=>.b d.down|3=>.b d.oU|_=>iV d.axz
def yl(b:Nat)(n:aA):List (Nat×aK):=[(b,.Wp 23 (GN b n)),(b+1,.Wp 5 (zN b n.aB)),(b+2,kL (n.aB.b++n.aB.dA)),(b+3,bQ 52 2 ji .z n.fV),(b+4,tH n.ig),(b+5,gJ n.eF),(b+6,gJ n.next),(b+7,gJ n.gz)]
def Dw(k:Nat)(C:aH):Nat->V
 |0=>.row 1 k|1=>.ptr 2 0|2=>.row 4 C.calls.length|_=>iV C.steps
def Dp(p:Nt):Nat->V
 |0=>.vw 3 (p.row.length+p.dA) 0 p.row.length|1=>iV p.uw|2=>iV p.taken|_=>iV p.lost
def Dn(k:Nat):aK:=.row 76 1 k (λj _=>.ptr (8*j+24) 0)
def lY(C:aH):Nat->Nat->List (Nat×aK)
 |_,0=>[]
 |i,m+1=>yl (8*i+24) (C.at i)++lY C (i+1) m
def CL(k:Nat)(C:aH):List (Nat×aK):=[(0,.Wp 4 (Dw k C)),(1,Dn k),(2,.Wp 4 (Dp C.au)),(3,uT (kH C.au)),(4,bQ 69 16 wo .z C.calls)]++lY C 0 k
abbrev CS(k:Nat)(C:aH):ST:=⟨CL k C,8*k+24⟩
def XX{b N:Nat}{n:aA}(h:b+8<=N):∀ k,k<23->je (λi=>i<N) (GN b n k):=λk hk=>by
 obtain _|_|_|_|_|_|_|_|_|_|_|_|_|_|_|_|_|_|_|_|_|_|_|k:=k
 all_goals first|exact tv|(show _<N;omega)
def Yh{b N:Nat}{d:fC}(h:b+8<=N):∀ k,k<5->je (λi=>i<N) (zN b d k):=λk hk=>by
 obtain _|_|_|_|_|k:=k
 all_goals first|exact tv|(show _<N;omega)
def Su{k N:Nat}(h:8*k+24<=N):ni (λi=>i<N) (Dn k):=λj hj i hi=>by show 8*j+24<N;omega
def SY{k N:Nat}{C:aH}(h:5<=N):∀ i,i<4->je (λi=>i<N) (Dw k C i):=λi hi=>by
 obtain _|_|_|_|i:=i
 all_goals first|exact tv|(show _<N;omega)
def XY{N:Nat}{p:Nt}(h:5<=N):∀ i,i<4->je (λi=>i<N) (Dp p i):=λi hi=>by
 obtain _|_|_|_|i:=i
 all_goals first|exact tv|(show _<N;omega)
def DK{b N:Nat}{n:aA}(h:Nat.ble (b+8) N=true):aW N (.Wp 23 (GN b n)) (.Wp 23 (GN b n)):=zf (XX (nb h))
def zV{b N:Nat}{d:fC}(h:Nat.ble (b+8) N=true):aW N (.Wp 5 (zN b d)) (.Wp 5 (zN b d)):=zf (Yh (nb h))
def o8{k N:Nat}(h:Nat.ble (8*k+24) N=true):aW N (Dn k) (Dn k):=zf (Su (nb h))
def JQ{n:Nat}:∀ {a b:List (Nat×aK)},nI n a->nI n b->nI n (a++b)
 |[],_,_,h=>h
 |_::_,_,h1,h2=>⟨h1.1,JQ h1.2 h2⟩
def Om{C:aH}{N:Nat}:∀ {m i:Nat},8*(i+m)+24<=N->nI N (lY C i m)
 |0,_,_=>True.intro
 |m+1,i,h=>by
  have hb:8*i+24+8<=N:=qO;refine JQ ?_ (Om qO);exact⟨⟨by omega,XX hb⟩,⟨by omega,Yh hb⟩,⟨by omega,λj hj k hk=>True.intro⟩,⟨by omega,λj hj k hk=>True.intro⟩,⟨by omega,λj hj k hk=>True.intro⟩,⟨by omega,λj hj k hk=>True.intro⟩,⟨by omega,λj hj k hk=>True.intro⟩,⟨by omega,λj hj k hk=>True.intro⟩,tv⟩
def Eh{k N:Nat}{C:aH}(h:8*k+24<=N):nI N (CL k C):=
 JQ ⟨⟨by omega,SY qO⟩,⟨by omega,Su h⟩,⟨by omega,XY qO⟩,⟨by omega,λj hj k hk=>True.intro⟩,⟨by omega,λj hj k hk=>True.intro⟩,tv⟩ (Om qO)
def three{k:Nat}(h:3<=k/\k<=5):k=3\/k=4\/k=5:=qO
def arJ(k:Nat)(hk:k=3\/k=4\/k=5)(C:aH):af 48 [.ptr 0 0] (CS k C) (λv t=>v=iV k/\t=CS k C):=by
 obtain rfl|rfl|rfl:=hk
 all_goals refine ay func48 λX=>?_
 all_goals repeat'(first|((with_reducible refine fP ?_);(refine aC ?_))|((conv=>whnf);first|(with_reducible refine fP ?_)|refine ag.a ?_|refine uh qN qV ?_))
 all_goals try exact cls
 all_goals(try(repeat'(first|exact tv|refine an ⟨nb rfl,?_⟩ ?_|exact DK rfl|exact zV rfl|exact aW.row rfl fv|exact o8 rfl|refine fB rfl (λk hk=>dR ?_))))
 all_goals exact kk
def ajM(k:Nat)(hk:k=3\/k=4\/k=5)(C:aH):af 49 [.ptr 0 0] (CS k C) (λv t=>v=iV C.au.row.length/\t=CS k C):=by
 obtain rfl|rfl|rfl:=hk
 all_goals refine ay func49 λX=>?_
 all_goals repeat'(first|((with_reducible refine fP ?_);(refine aC ?_))|((conv=>whnf);first|(with_reducible refine fP ?_)|refine fO [2,3] (asR C.au) ?_|refine ag.a ?_|refine uh qN qV ?_))
 all_goals try exact cls
 all_goals(try(repeat'(first|exact tv|refine an ⟨nb rfl,?_⟩ ?_|exact DK rfl|exact zV rfl|exact aW.row rfl fv|exact o8 rfl|refine fB rfl (λk hk=>dR ?_))))
 all_goals exact kk
def Yi(k:Nat)(hk:k=3\/k=4\/k=5)(C:aH)(i:Int):af 38 [.ptr 0 0,iV i] (CS k C) (λv t=>v = .b (bif decide (0<=i) then decide (i<(k:Int)) else false)/\t=CS k C):=by
 obtain rfl|rfl|rfl:=hk
 all_goals refine ay func38 λX=>?_
 all_goals repeat'(first|((with_reducible refine fP ?_);(refine aC ?_))|((conv=>whnf);first|(with_reducible refine fP ?_)|refine ag.a ?_|refine uh qN qV ?_))
 all_goals try exact cls
 all_goals(try(repeat'(first|exact tv|refine an ⟨nb rfl,?_⟩ ?_|exact DK rfl|exact zV rfl|exact aW.row rfl fv|exact o8 rfl|refine fB rfl (λk hk=>dR ?_))))
 all_goals exact kk
def arF(k:Nat)(hk:k=3\/k=4\/k=5)(C:aH)(l:List aV)(e:Int)(hl:l.length<=1000)(hx:∀ x∈l,jY x)(hp:zQ C.au):af 23 [.ptr 0 0,.d (iU l),iV e] (CS k C) (λv t=>v=iV e/\t=CS k { C with au:=mP C.au l }):=by
 obtain rfl|rfl|rfl:=hk
 all_goals refine ay func23 λX=>?_
 all_goals repeat'(first|((with_reducible refine fP ?_);(refine aC ?_))|((conv=>whnf);first|(with_reducible refine fP ?_)|refine fO [2,3] (YL C.au l hl hx hp) ?_|refine ag.a ?_|refine bM qN qN qV ?_))
 all_goals try exact cls
 all_goals(try(repeat'(first|exact tv|refine an ⟨nb rfl,?_⟩ ?_|exact DK rfl|exact zV rfl|exact aW.row rfl fv|exact o8 rfl|refine fB rfl (λk hk=>dR ?_))))
 all_goals exact kk
end
def Tag(k A:Nat):Prop:=(k=3/\A=0)\/(k=3/\A=1)\/(k=3/\A=2)\/(k=4/\A=0)\/(k=4/\A=1)\/(k=4/\A=2)\/(k=4/\A=3)\/(k=5/\A=0)\/(k=5/\A=1)\/(k=5/\A=2)\/(k=5/\A=3)\/(k=5/\A=4)
def auK{k A:Nat}(h:3<=k/\k<=5)(hA:A<k):Tag k A:=by unfold Tag;omega
def S1L(k A:Nat)(p:Nat->Value)(C:aH)(n:aA):List (Nat×aK):=[(0,.Wp 4 (Dw k C)),(1,.row 76 1 k (gx A (λ_ _=>.ptr 5 0) p)),(2,.Wp 4 (Dp C.au)),(3,uT (kH C.au)),(4,bQ 69 16 wo .z C.calls),(5,.Wp 23 (GN 5 n)),(6,.Wp 5 (zN 5 n.aB)),(7,kL (n.aB.b++n.aB.dA)),(8,bQ 52 2 ji .z n.fV),(9,tH n.ig),(10,gJ n.eF),(11,gJ n.next),(12,gJ n.gz)]
abbrev S1(k A:Nat)(p:Nat->Value)(C:aH)(n:aA):ST:=⟨S1L k A p C n,13⟩
def avr{N A j i:Nat}{φ:Nat->Option Nat}{p:Nat->Value}(h:φ (8*A+24)=some 5)(hb:5<N):VW N (dI φ (gx A (λj _=>.ptr (8*j+24) 0) p j i)) (gx A (λ_ _=>.ptr 5 0) p j i):=by
 unfold gx;rcases hj:Nat.beq j A with _|_
 ·exact fA rfl trivial
 ·have:=dJ hj;subst this;refine fA ?_ hb;show dI φ (.ptr (8*j+24) 0)=_;simp only[dI,h];rfl
def atn{N A j i:Nat}{φ:Nat->Option Nat}{p:Nat->Value}(h:φ 5=some (8*A+24))(hb:8*A+24<N):VW N (dI φ (gx A (λ_ _=>.ptr 5 0) p j i)) (gx A (λj _=>.ptr (8*j+24) 0) p j i):=by
 unfold gx;rcases hj:Nat.beq j A with _|_
 ·exact fA rfl trivial
 ·have:=dJ hj;subst this;refine fA ?_ hb;show dI φ (.ptr 5 0)=_;simp only[dI,h];rfl
def Wu{f:Nat}{args:List V}{st T2:ST}{Q:V->ST->Prop}{r:V}(h:af f args st Q)(hlo:st.nx<=T2.nx)(hq:∀ v t,Q v t->T2.nx<=t.nx/\VW T2.nx v r/\pX T2.nx t T2.st):af f args st (λv t=>v=r/\t=T2):=h.told hlo (λv t hv=>⟨(hq v t hv).1,(hq v t hv).2.1,JH (hq v t hv).2.2⟩) ⟨rfl,rfl⟩
def xX:aK:=.Wp 1 (λ_=>.ptr 0 0)
def xW(e:cO):aK:=.Wp 11 (λk=>.d (Bf e k))
abbrev SX(k A:Nat)(p:Nat->Value)(C:aH)(n:aA)(e:cO):ST:=⟨(14,xW e)::(13,xX)::S1L k A p C n,15⟩
abbrev CX(k:Nat)(C:aH)(e:cO):ST:=⟨(8*k+25,xW e)::(8*k+24,xX)::CL k C,8*k+26⟩
def GH(k A:Nat):List Nat:=[0,1,2,3,4,8*A+24,8*A+25,8*A+26,8*A+27,8*A+28,8*A+29,8*A+30,8*A+31,8*k+24,8*k+25]
def tg{p:Prop}(h:p:=by unfold Tag at tZ;obtain⟨rfl,rfl⟩|⟨rfl,rfl⟩|⟨rfl,rfl⟩|⟨rfl,rfl⟩|⟨rfl,rfl⟩|⟨rfl,rfl⟩|⟨rfl,rfl⟩|⟨rfl,rfl⟩|⟨rfl,rfl⟩|⟨rfl,rfl⟩|⟨rfl,rfl⟩|⟨rfl,rfl⟩:=tZ <;> rfl):p:=h
def tI0 {p:Prop} (h:p:=by
 unfold Tag at tZ;obtain⟨rfl,rfl⟩|⟨rfl,rfl⟩|⟨rfl,rfl⟩|⟨rfl,rfl⟩|⟨rfl,rfl⟩|⟨rfl,rfl⟩|⟨rfl,rfl⟩|⟨rfl,rfl⟩|⟨rfl,rfl⟩|⟨rfl,rfl⟩|⟨rfl,rfl⟩|⟨rfl,rfl⟩:=tZ
 all_goals repeat'(first|exact tv|refine an ⟨_,rfl,?_⟩ ?_|exact aW.row rfl fv|exact aW.row rfl (λj hj i hi=>avr rfl qN)|refine fB rfl (λk hk=>dR ?_))
 all_goals first|exact kk|exact cm qV):p:=h
def VC {p:Prop} (h:p:=by
 unfold Tag at tZ;obtain⟨rfl,rfl⟩|⟨rfl,rfl⟩|⟨rfl,rfl⟩|⟨rfl,rfl⟩|⟨rfl,rfl⟩|⟨rfl,rfl⟩|⟨rfl,rfl⟩|⟨rfl,rfl⟩|⟨rfl,rfl⟩|⟨rfl,rfl⟩|⟨rfl,rfl⟩|⟨rfl,rfl⟩:=tZ
 all_goals refine⟨nb rfl,?_⟩
 all_goals repeat'(first|exact tv|refine an ⟨nb rfl,?_⟩ ?_|exact DK rfl|exact zV rfl|exact aaR rfl|exact aW.row rfl fv|exact aW.row rfl (λj hj i hi=>atn rfl qN)|exact o8 rfl|exact xg rfl|refine fB rfl (λk hk=>dR ?_)|refine aW.row ?_ (λj hj k hk=>dR ?_))
 all_goals first|exact kk|exact cm qV):p:=h
abbrev aaX(k A:Nat)(C:aH)(e:cO)(p:Nat->Value)(s:ST):ST:=tq ((CX k C e).set 1 (.row 76 1 k (gx A (λj _=>.ptr (8*j+24) 0) p))) (GH k A) s
abbrev aaY(k A:Nat)(T2:ST)(p:Nat->Value):ST:=T2.set 1 (.row 76 1 k (gx A (λj _=>.ptr (8*j+24) 0) p))
def Wv{k A:Nat}(tZ:Tag k A){f:Nat}{us uD:List V}{r:V}{C:aH}{e:cO}{S:(Nat->Value)->ST}{T2:ST}(h:∀ p,af f uD (SX k A p C (C.at A) e) (λv t=>v=r/\t=S p))(ha:∀ φ:Nat->Option Nat,φ 0=some 0->φ (8*A+24)=some 5->φ (8*k+24)=some 13->φ (8*k+25)=some 14->lI 15 φ us uD)(hr:∀(φ:Nat->Option Nat) (N:Nat),VW N (dI φ r) r)
  (hx:8*k+26<=T2.nx) (h1:T2.get 1 = .row 76 1 k (λj _=>.ptr (8*j+24) 0)) (hT:∀ p,(aaY k A T2 p).nx<=(aaX k A C e p (S p)).nx/\pX (aaY k A T2 p).nx (aaX k A C e p (S p)) (aaY k A T2 p).st):af f us (CX k C e) (λv t=>v=r/\t=T2):=by
 refine alB (i:=1) (E:=76) (s:=1) (n:=k) (A:=A) (g:=λj _=>.ptr (8*j+24) 0) (q:=λj=>8*j+24) tg (λ_ _=>rfl) rfl ?_ h1 (λp=>?_)
 ·intro j hj;unfold Tag at tZ;obtain⟨rfl,rfl⟩|⟨rfl,rfl⟩|⟨rfl,rfl⟩|⟨rfl,rfl⟩|⟨rfl,rfl⟩|⟨rfl,rfl⟩|⟨rfl,rfl⟩|⟨rfl,rfl⟩|⟨rfl,rfl⟩|⟨rfl,rfl⟩|⟨rfl,rfl⟩|⟨rfl,rfl⟩:=tZ
  all_goals
   obtain _|_|_|_|_|j:=j
   all_goals first|exact⟨23,_,rfl⟩|omega
 ·have hn:iJ (GH k A)=true:=tg;have hs:sQ (GH k A) (8*k+26)=true:=tg;have h5:bY (GH k A) (8*A+24)=some 5:=tg;have h13:bY (GH k A) (8*k+24)=some 13:=tg;have wE:bY (GH k A) (8*k+25)=some 14:=tg;refine Wu (af.frame (aI:=GH k A) (K:=λv t=>v=pR (GH k A) (8*k+26) r/\t=aaX k A C e p (S p)) (h p) hn (J5 hs) rfl (ha _ rfl h5 h13 wE) tI0 (λv t h12=>by obtain⟨h1,h2⟩:=h12;subst h1 h2;exact⟨rfl,rfl⟩)) hx (λv t h12=>?_);obtain⟨h1,h2⟩:=h12;subst h1 h2;exact⟨(hT p).1,hr _ _,(hT p).2⟩
def Jq{k A:Nat}(tZ:Tag k A){f:Nat}{us uD:List V}{r:V}{C C':aH}{n':aA}{e:cO}(hC:C'=⟨λj=>bif Nat.beq j A then n' else C.nd j,C'.au,C'.calls,C'.steps⟩)(h:∀ p,af f uD (SX k A p C (C.at A) e) (λv t=>v=r/\t=SX k A p C' n' e))(ha:∀ φ:Nat->Option Nat,φ 0=some 0->φ (8*A+24)=some 5->φ (8*k+24)=some 13->φ (8*k+25)=some 14->lI 15 φ us uD)(hr:∀(φ:Nat->Option Nat) (N:Nat),VW N (dI φ r) r):af f us (CX k C e) (λv t=>v=r/\t=CX k C' e):=by
 obtain⟨Qo,ahX,calls',steps'⟩:=C';have hC:Qo=λj=>bif Nat.beq j A then n' else C.nd j:=ah aH.nd hC
 subst hC;exact Wv tZ h ha hr (bF _) tg (λp=>VC)
section
attribute [local irreducible] af
def Zw(x:Cal)(hz:x.c.chunks.length<=1000):aQ 50 [aih x] (aih x):=by
 refine ay func50 λX=>?_
 (repeat'(first|((with_reducible refine fP ?_);(refine aC ?_))|((conv=>whnf);first|(with_reducible refine fP ?_)|refine aO (JP x.c.chunks.length (λj _=>iD (x.c.chunks.getD j 0)) qo) ?_|refine ag.a ?_|refine Fin.tell (gu ?_))))<;>try exact cls
 all_goals(try(repeat'(first|exact tv|exact qV|refine an ?_ ?_)))
structure Qg (n:aA) (c:aF):Prop where
 hz:nV c
 hv : -1000000<=n.st.version/\n.st.version<=1000000
 hb:n.eF.length<=1000
 hl:n.ae.log.length<=1000
 hn:n.aB.down=false->wB n
 hL:fZ c n.st.version->¬(64<(n.ae.log.length:Int)+1)->mV n.ae [(⟨3,(n.ae.log.length:Int)+1,n.ae.term,fQ c⟩:aP)]
def aqA{n:aA}{c:aF}(h:Qg n c):af 60 [.ptr 0 0,jl c] (NS n) (λv t=>v=bI [iV (nR n c).2.1,iV (nR n c).2.2.1,iV (nR n c).2.2.2]/\t=NS (nR n c).1):=aqz n c h.hz h.hv h.hb h.hl h.hn h.hL
def adU{α:Type}{l:List α}{x:α}:l.length+1=(l++[x]).length:=by rw[bP];rfl
def U8(C:aH)(e:cO)(num term:Int):Cal:=⟨e.a,num,term,C.steps,0,e.c,false,.z⟩
def uq(C:aH)(A:Nat)(e:cO):aH×Int:=
 bif !decide ((nR (C.at A) e.c).2.2.2=0) then(C.put A (nR (C.at A) e.c).1,(nR (C.at A) e.c).2.2.2)
 else({ C.put A (nR (C.at A) e.c).1 with calls:=C.calls++[U8 C e (nR (C.at A) e.c).2.1 (nR (C.at A) e.c).2.2.1] },0)
def xg{N A k:Nat}{p:Nat->Value}(h:Nat.blt 5 N=true):aW N (.row 76 1 k (gx A (λ_ _=>.ptr 5 0) p)) (.row 76 1 k (gx A (λ_ _=>.ptr 5 0) p)):=zf λj hj i hi=>by
 unfold gx;cases Nat.beq j A
 ·exact tv
 ·exact mX h
def Cm{k A:Nat}{p:Nat->Value}{C:aH}{n:aA}:nI 13 (S1L k A p C n):=
 ⟨⟨nb rfl,SY qD⟩,⟨nb rfl,λj hj i hi=>by
  unfold gx;cases Nat.beq j A
  ·exact tv
  ·show 5<13;decide⟩,⟨nb rfl,XY qD⟩,⟨nb rfl,λj hj k hk=>True.intro⟩,⟨nb rfl,λj hj k hk=>True.intro⟩,⟨nb rfl,XX qD⟩,⟨nb rfl,Yh qD⟩,⟨nb rfl,λj hj k hk=>True.intro⟩,⟨nb rfl,λj hj k hk=>True.intro⟩,⟨nb rfl,λj hj k hk=>True.intro⟩,⟨nb rfl,λj hj k hk=>True.intro⟩,⟨nb rfl,λj hj k hk=>True.intro⟩,⟨nb rfl,λj hj k hk=>True.intro⟩,tv⟩
def MJ(k A:Nat)(p:Nat->Value)(n:aA)(q:aH×Int)(v:V)(t:ST):Prop:=v=iV q.2/\t=S1 k A p q.1 n
def MJ.of{t0:ST}{X:Cx t0}{v:V}{t:ST}{k A:Nat}{p:Nat->Value}{n:aA}{a q:aH×Int}(e:q=a)(h:Fin X v t (MJ k A p n a)):Fin X v t (MJ k A p n q):=e▸h
def an9(k A:Nat)(p:Nat->Value)(C:aH)(e:cO)(H:Qg (C.at A) e.c)(hc:C.calls.length<=1000)(hz:e.c.chunks.length<=1000):af 28 [.ptr 0 0,.ptr 5 0,oL e] (S1 k A p C (C.at A)) (MJ k A p (nR (C.at A) e.c).1 (uq C A e)):=by
 refine ay func28 λX=>?_
 (repeat'(first|((with_reducible refine fP ?_);first|refine aC ?_|refine bU 4 [17,18,21] [(0,2,false,[]),o2,o2,o2,o2,o0,o0,o0,o0,o0,o0,o0,o0,o0,o0,o0,o0,o1,(1,1,true,[]),(2,2,false,[]),(2,2,false,[]),(2,2,true,[])] ?_)|((conv=>whnf);first|(with_reducible refine fP ?_)|refine mc ?_ ?_|refine fO [5,6,7,8,9,10,11,12] (aqA H) ?_|refine kF (Zw (U8 C e (nR (C.at _) e.c).2.1 (nR (C.at _) e.c).2.2.1) hz) ?_|refine aj.mk (λh=>?_) (λh=>?_)|refine ag.a ?_|refine MJ.of (dH h) (bM qN qN qV ?_)|refine MJ.of (bG h) (bM qN qN qV ?_)|refine ag.mk ?_ ?_)))<;>(try(refine dm.mk ?_;repeat'(first|exact tv|((conv=>whnf);first|exact rfl|refine aO (Zw (U8 C e (nR (C.at _) e.c).2.1 (nR (C.at _) e.c).2.2.1) hz) ?_|refine an ?_ ?_|refine ag.mk ?_ ?_))))
 all_goals try exact cls
 all_goals(try(repeat'(first|exact tv|refine an ⟨nb rfl,?_⟩ ?_|exact aW.row rfl fv|exact xg rfl|refine fB rfl (λk hk=>dR ?_)|refine aW.row ?_ (λj hj k hk=>dR ?_))))
 all_goals first|exact kk|exact adU|(have hk:k<4:=hk;obtain _|_|_|_|k:=k <;> first|exact cm qV|exact cm qW|exact cm (vq (ah (V.row 4) adU) qN))|(refine cm (kU (C:=wo) (z:=.z) rfl hj fr (λj hj=>?_));obtain rfl:j=0:=Nat.lt_one_iff.1 hj;have hk:k<16:=hk;obtain _|_|_|_|_|_|_|_|_|_|_|_|_|_|_|_|k:=k <;> first|exact qV|omega)
def alq(C:aH)(A:Nat)(e:cO):(uq C A e).1=⟨λj=>bif Nat.beq j A then(nR (C.at A) e.c).1 else C.nd j,(uq C A e).1.au,(uq C A e).1.calls,(uq C A e).1.steps⟩:=by
 unfold uq;cases !decide ((nR (C.at A) e.c).2.2.2=0) <;> rfl
def qC{φ:Nat->Option Nat}{N:Nat}{x:D}:VW N (dI φ (.d x)) (.d x):=vq rfl tv
def oG{φ:Nat->Option Nat}{i j o N:Nat}(h:φ i=some j)(hj:j<N):VW N (dI φ (.ptr i o)) (.ptr j o):=vq (by simp only[dI,h]) hj
end
section
attribute [local irreducible] af
def anU(k A:Nat)(p:Nat->Value)(C:aH)(n:aA)(l:List aV)(e:Int)(hl:l.length<=1000)(hx:∀ x∈l,jY x)(hp:zQ C.au):af 23 [.ptr 0 0,.d (iU l),iV e] (S1 k A p C n) (λv t=>v=iV e/\t=S1 k A p { C with au:=mP C.au l } n):=by
 refine ay func23 λX=>?_
 (repeat'(first|((with_reducible refine fP ?_);(refine aC ?_))|((conv=>whnf);first|(with_reducible refine fP ?_)|refine fO [2,3] (YL C.au l hl hx hp) ?_|refine ag.a ?_|refine bM qN qN qV ?_)))<;>try exact cls
 all_goals(try(repeat'(first|exact tv|refine an ⟨nb rfl,?_⟩ ?_|exact DK rfl|exact zV rfl|exact aW.row rfl fv|exact xg rfl|refine fB rfl (λk hk=>dR ?_))))
 all_goals exact kk
def jd.pre{f:Nat}{args args':List V}{st:ST}{l l1:List (Nat×aK)}{n:Nat}{r:V}{K:V->ST->Prop}(q:Nat)(h:af f args' ⟨l,n⟩ (λv t=>v=r/\t=⟨l1,n⟩))(hst:st.st.drop q=l)(hex:Gi n (st.st.take q)=true)(hlt:sQ (kV (st.st.take q)) st.nx=true)(hn:Nat.ble n st.nx=true)(hd:iJ (kV l)=true)(hl:nI n l)(hl1:nI n l1)(hr:je (λi=>i<n) r)(hc:GY st.nx (st.st.take q))(ha:lI n (xO n) args args')(hk:K r ⟨st.st.take q++l1,st.nx⟩):jd f args st K:=jd.mk _ _ hk
def Ol{e:cO}:GY 15 [(14,xW e),(13,xX)]:=⟨λk hk=>True.intro,λk hk=>(show 0<15 from nb rfl),tv⟩
structure F9 (p:Nt) (l:List aV):Prop where
 hl:l.length<=1000
 hx:∀ x∈l,jY x
 hp:zQ p
def SV{k A:Nat}{p:Nat->Value}{C:aH}{n:aA}{l:List aV}{e:Int}(h:F9 C.au l):af 23 [.ptr 0 0,.d (iU l),iV e] (S1 k A p C n) (λv t=>v=iV e/\t=S1 k A p { C with au:=mP C.au l } n):=anU k A p C n l e h.hl h.hx h.hp
def aoa(k A:Nat)(p:Nat->Value)(C:aH)(n:aA)(e:cO)(m:Nat)(hm:n.many=m)(h5:m<=5)(hd:n.aB.down=false->n.role=2->∀ d∈(jb n m),xE n d)(hs:F9 C.au (lu n m).1):af 25 [.ptr 5 0,.ptr 13 0] (SX k A p C n e) (λv t=>v=iV (lu n m).2/\t=SX k A p { C with au:=mP C.au (lu n m).1 } n e):=by refine ay func25 λX=>?_;exact QR
def an6(k A:Nat)(p:Nat->Value)(C:aH)(n:aA)(e:cO):af 31 [.ptr 5 0,.ptr 14 0] (SX k A p C n e) (λv t=>v=iV 0/\t=SX k A p C (Gs n e.b) e):=by refine ay func31 λX=>?_;exact QR
def alp(k A:Nat)(p:Nat->Value)(C:aH)(n:aA)(e:cO)(hd:n.aB.ok)(hb : -9223372036854775808<=e.b):af 33 [.ptr 5 0,.ptr 14 0] (SX k A p C n e) (λv t=>v=iV 0/\t=SX k A p C (Eg n e.b) e):=by refine ay func33 λX=>?_;exact QR
def an8(k A:Nat)(p:Nat->Value)(C:aH)(e:cO)(H:Qg (C.at A) e.c)(hc:C.calls.length<=1000)(hz:e.c.chunks.length<=1000):af 27 [.ptr 5 0,.ptr 13 0,.ptr 14 0] (SX k A p C (C.at A) e) (λv t=>v=iV (uq C A e).2/\t=SX k A p (uq C A e).1 (nR (C.at A) e.c).1 e):=by refine ay func27 λX=>?_;exact QR
end
