/- Lemmas. -/
import Derived.Test.YtnibdnahojjcgaaGreatC36
namespace Go.Proofs.YtnibdnahojjcgaaGreat
set_option linter.all false
set_option maxRecDepth 100000
set_option maxHeartbeats 0
open Go.RowKit Tryz
def wK{l:List (Nat×aK)}{K:List (Nat×aK)->Prop}(h:K l):J7 l K:=by rw[WM];exact h
def Lj(a b:Nat):List (Nat×aK)->Bool
 |[]=>true
 |p::r=>(Nat.blt p.1 a||Nat.ble b p.1)&&Lj a b r
def acU{a b:Nat}:∀ {e l:List (Nat×aK)},Lj a b e=true->∀ i,a<=i->i<b->axA (e++l) i=axA l i
 |[],_,_,_,_,_=>rfl
 |(k,v)::r,l,h,i,h1,h2=>by
  obtain⟨h3,h4⟩:=kZ (show((Nat.blt k a||Nat.ble b k)&&Lj a b r)=true from h);show(bif Nat.beq k i then v else axA (r++l) i)=_;rcases hb:Nat.beq k i with _|_
  ·exact acU h4 i h1 h2
  ·have:=dJ hb;subst this;obtain h5|h5:=Bool.or_eq_true _ _▸h3
   ·have:=mX h5;omega
   ·have:=nb h5;omega
def aeS{C:aH}:∀ {m i:Nat},∀ p∈lY C i m,8*i+24<=p.1/\p.1<8*(i+m)+24
 |0,_,p,h=>by cases h
 |m+1,i,p,h=>by
  obtain h|h:=List.mem_append.1 (show p∈yl (8*i+24) (C.at i)++lY C (i+1) m from h)
  ·simp only[yl,List.mem_cons,List.not_mem_nil,or_false]at h;obtain rfl|rfl|rfl|rfl|rfl|rfl|rfl|rfl:=h <;> (dsimp only;omega)
  ·have:=aeS p h;omega
def amN{N a b nx:Nat}{P R:List (Nat×aK)}(hP:Lj a b P=true)(hR:∀ p∈R,a<=p.1/\p.1<b)(hd:iJ (kV R)=true)(hc:nI N R):pX N ⟨P++R,nx⟩ R:=by
 have key:∀ Q:List (Nat×aK),(∀ p∈Q,p∈R)->pX N ⟨P++R,nx⟩ Q:=by
  intro Q;induction Q with
  |nil=>exact λ_=>True.intro
  |cons p r ih=>
   intro hq;obtain⟨i,o⟩:=p;refine⟨?_,ih λp hp=>hq p (jA _ hp)⟩;have hm:=hq _ jL;have hk:=hR _ hm;have hl:=Fq hd _ hm;have e:(⟨P++R,nx⟩:ST).get i=o:=(acU hP i hk.1 hk.2).trans hl;rw[e];obtain h0|⟨h0,h1⟩:=yw hc i
   ·have ho:o = .dead:=hl.symm.trans h0;subst ho;exact⟨zk hc _ hm,tv⟩
   ·rw[show axA R i=o from hl]at h1;exact⟨h0,zf h1⟩
 exact key R λ_ h=>h
def ak0{k:Nat}{C:aH}(h:3<=k/\k<=5):iJ (kV (lY C 0 k))=true:=by obtain rfl|rfl|rfl:=three h <;> rfl
def Nv{k:Nat}{C:aH}(h:3<=k/\k<=5):iJ (kV (CL k C))=true:=by obtain rfl|rfl|rfl:=three h <;> rfl
def Pm{P:Nat->Prop}{a b:V}(ha:je P a)(hb:je P b):je P (bI [a,b]):=λk hk=>by
 have hk:k<2:=hk;obtain _|_|k:=k
 ·exact ha
 ·exact hb
 ·omega
def iF(k:Nat)(C:aH):List (Nat×aK):=[(0,.Wp 4 (Dw k C)),(1,Dn k),(2,.Wp 4 (Dp C.au)),(3,uT (kH C.au)),(4,bQ 69 16 wo .z C.calls)]
structure Tl (k N:Nat) (R:List (Nat×aK)):Prop where
 le:8*k+24<=N
 keys:∀ p∈R,5<=p.1/\p.1<N
 nd:iJ (kV R)=true
 Qx:nI N R
def YW{N M:Nat}(h:N<=M){v:V}:je (λi=>i<N) v->je (λi=>i<M) v:=by
 induction v with
 |agg n g ih=>exact λhq k hk=>ih k (hq k hk)
 |gQ n g ih=>exact λhq k hk=>ih k (hq k hk)
 |fn f nf n g ih=>exact λhq k hk=>ih k (hq k hk)
 |kQ t w x ih=>exact λhq=>ih hq
 |ptr i o=>exact λ(hq:i<N)=>sV hq h
 |rp i a b c=>exact λ(hq:i<N)=>sV hq h
 |row i a=>exact λ(hq:i<N)=>sV hq h
 |vw i a b c=>exact λ(hq:i<N)=>sV hq h
 |mp i=>exact λ(hq:i<N)=>sV hq h
 |_=>exact λhq=>hq
def ara{N M:Nat}(h:N<=M){o:aK}(ho:ni (λi=>i<N) o):ni (λi=>i<M) o:=by
 cases o with
 |dead=>exact tv
 |Wp n g=>exact λk hk=>YW h (ho k hk)
 |row E s n g=>exact λj hj k hk=>YW h (ho j hj k hk)
 |map es=>exact λk v e=>YW h (ho k v e)
def TS{N M:Nat}(h:N<=M):∀ {l:List (Nat×aK)},nI N l->nI M l
 |[],_=>True.intro
 |_::_,hc=>⟨⟨sV hc.1.1 h,ara h hc.1.2⟩,TS h hc.2⟩
def af2{k N:Nat}{C:aH}(h:8*k+24<=N):nI N (iF k C):=
 ⟨⟨by omega,SY qO⟩,⟨by omega,Su h⟩,⟨by omega,XY qO⟩,⟨by omega,λj hj k hk=>True.intro⟩,⟨by omega,λj hj k hk=>True.intro⟩,tv⟩
def Ci{k i:Nat}{l:List Nat}(h:Nat.beq k i=false)(hl:bY l i=none):bY (k::l) i=none:=by
 show(bif Nat.beq k i then some 0 else(match bY l i with|some k=>some (k+1)|none=>none))=none;rw[h,hl];rfl
def nodup_cons{i:Nat}{l:List Nat}(h:bY l i=none)(hd:iJ l=true):iJ (i::l)=true:=by
 show((match bY l i with|some _=>false|none=>true)&&iJ l)=true;rw[h,hd];rfl
def akZ{k N:Nat}{C:aH}{R:List (Nat×aK)}(h:Tl k N R):iJ (kV (iF k C++R))=true:=by
 have key:∀ i,i<5->bY (kV R) i=none:=λi hi=>by
  rcases e:bY (kV R) i with _|j
  ·rfl
  ·have hs:=yx e;have hm:i∈kV R:=vK hs;obtain⟨p,hp,rfl⟩:=List.mem_map.1 hm;have:=h.keys p hp;omega
 exact nodup_cons (Ci rfl (Ci rfl (Ci rfl (Ci rfl (key 0 qD))))) (nodup_cons (Ci rfl (Ci rfl (Ci rfl (key 1 qD)))) (nodup_cons (Ci rfl (Ci rfl (key 2 qD))) (nodup_cons (Ci rfl (key 3 qD)) (nodup_cons (key 4 qD) h.nd))))
def auS{k N M nx:Nat}{P R:List (Nat×aK)}(h:Tl k N R)(hP:Lj 5 N P=true)(hM:Nat.ble N M=true):pX M ⟨P++R,nx⟩ R:=amN hP h.keys h.nd (TS (nb hM) h.Qx)
def pq{k N M:Nat}{t:ST}{R:List (Nat×aK)}(q:Nat)(h:Tl k N R)(hst:t.st.drop q=R)(hP:Lj 5 N (t.st.take q)=true)(hM:Nat.ble N M=true):pX M t R:=by
 have:=auS (nx:=t.nx) h hP hM;rw[<-hst]at this;rw[List.take_append_drop,hst]at this;exact this
def yR.lt{k:Nat}{x:Cal}(hx:yR k x):x.node.toNat<k:=by have:=hx.node;omega
def OX{k:Nat}{C:aH}(h:3<=k/\k<=5):Tl k (8*k+24) (lY C 0 k):=⟨bF _,λp hp=>by have:=aeS p hp;omega,ak0 h,Om qO⟩
def Fv{f:Nat}{args args':List V}{st:ST}{k N:Nat}{C C1:aH}{R R1:List (Nat×aK)}{r:V}{K:V->ST->Prop}(q:Nat)(hT:Tl k N R)(hT1:Tl k N R1)(h:af f args' ⟨iF k C++R,N⟩ (λv t=>v=r/\t=⟨iF k C1++R1,N⟩))(hst:st.st.drop q=iF k C++R)(hex:Gi N (st.st.take q)=true)(hlt:sQ (kV (st.st.take q)) st.nx=true)(hn:Nat.ble N st.nx=true)(hr:je (λi=>i<N) r)(hc:GY st.nx (st.st.take q))(ha:lI N (xO N) args args')(fF:K r ⟨st.st.take q++(iF k C1++R1),st.nx⟩):af f args st K:=
 af.pre q h hst hex hlt hn (akZ hT) (JQ (af2 hT.le) hT.Qx) (JQ (af2 hT.le) hT1.Qx) hr hc ha fF
def WW{f:Nat}{args args':List V}{st:ST}{k N:Nat}{C C1:aH}{R R1:List (Nat×aK)}{r:V}{K:V->ST->Prop}(q:Nat)(hT:Tl k N R)(hT1:Tl k N R1)(h:af f args' ⟨iF k C++R,N⟩ (λv t=>v=r/\t=⟨iF k C1++R1,N⟩))(hst:st.st.drop q=iF k C++R)(hex:Gi N (st.st.take q)=true)(hlt:sQ (kV (st.st.take q)) st.nx=true)(hn:Nat.ble N st.nx=true)(hr:je (λi=>i<N) r)(hc:GY st.nx (st.st.take q))(ha:lI N (xO N) args args')(fF:K r ⟨st.st.take q++(iF k C1++R1),st.nx⟩):jd f args st K:=jd.mk _ _ fF
section
attribute [local irreducible] af
structure xZ (k:Nat) (C:aH) (i:Nat) (l:List Cal):Prop where
 len:l.length=C.calls.length
 yj:∀ x∈l,yR k x
 get:∀ j,j<l.length->l.getD j .z=if j<i then xI C (C.calls.getD j .z) else C.calls.getD j .z
def xZ.here{k:Nat}{C:aH}{i:Nat}{l:List Cal}(h:xZ k C i l)(hi:i<C.calls.length):l.getD i .z=C.calls.getD i .z/\yR k (l.getD i .z):=by
 have hl:i<l.length:=by rw[h.len];exact hi
 exact⟨by rw[h.get i hl,if_neg (Nat.lt_irrefl i)],h.yj _ (axB hl)⟩
def xZ.axz{k:Nat}{C:aH}{i:Nat}{l:List Cal}(h:xZ k C i l)(hi:i<C.calls.length)(he:xI C (l.getD i .z)=l.getD i .z):xZ k C (i+1) l:=by
 refine⟨h.len,h.yj,λj hj=>?_⟩;have hh:=h.here hi;rw[h.get j hj];by_cases e:j=i
 ·subst e;rw[if_neg (Nat.lt_irrefl j),if_pos (Nat.lt_succ_self j),<-hh.1,he]
 ·by_cases h1:j<i
  ·rw[if_pos h1,if_pos qO]
  ·rw[if_neg h1,if_neg qO]
def xZ.set{k:Nat}{C:aH}{i:Nat}{l:List Cal}{y:Cal}(h:xZ k C i l)(hi:i<C.calls.length)(he:xI C (l.getD i .z)=y):xZ k C (i+1) (l.set i y):=by
 have hh:=h.here hi;have hy:yR k y:=by rw[<-he];exact adA hh.2
 refine⟨by rw[nM];exact h.len,λx hx=>?_,λj hj=>?_⟩
 ·obtain hx|rfl:=List.mem_or_eq_of_mem_set hx
  ·exact h.yj x hx
  ·exact hy
 ·rw[nM]at hj;rw[D9];by_cases e:i=j
  ·subst e;rw[if_pos ⟨rfl,hj⟩,if_pos (Nat.lt_succ_self i),<-hh.1,he]
  ·rw[if_neg (λh=>e h.1),h.get j hj];by_cases h1:j<i
   ·rw[if_pos h1,if_pos qO]
   ·rw[if_neg h1,if_neg qO]
def xZ.zero{k:Nat}{C:aH}(h:∀ x∈C.calls,yR k x):xZ k C 0 C.calls:=⟨rfl,h,λj hj=>by rw[if_neg (qh j)]⟩
def xZ.full{k:Nat}{C:aH}{l:List Cal}(h:xZ k C C.calls.length l):l=C.calls.map (xI C):=by
 refine List.ext_getElem (by rw[lZ];exact h.len) λj h1 h2=>?_
 have:=h.get j h1;rw[if_pos (by rw[<-h.len];exact h1),bn,dV h1,bn,dV (by rw[<-h.len];exact h1)]at this;rw[List.getElem_map];exact this
def ZV(C:aH)(x:Cal):Cal:={ x with done:=true,vk:=(uP (C.at x.node.toNat) x.number x.term).1,aaF:=C.steps }
def akk{C:aH}{x:Cal}(h:x.done=true):xI C x=x:=by unfold xI;rw[h];rfl
def aps{C:aH}{x:Cal}(h:x.done=false)(h2:decide ((uP (C.at x.node.toNat) x.number x.term).2=0)=false):xI C x=x:=by unfold xI;rw[h,h2];rfl
def al0{C:aH}{x:Cal}(h:x.done=false)(h2:decide ((uP (C.at x.node.toNat) x.number x.term).2=0)=true):xI C x=ZV C x:=by unfold xI;rw[h,h2];rfl
def arM{C:aH}{l:List Cal}{i:Nat}(hi:i<l.length){j k:Nat}{a b c:Nat->V}(hk:k<16)(ha:a 0 = .b true)(hb:∀ q,q<2->b q = .d (ji (uP (C.at (l.getD i .z).node.toNat) (l.getD i .z).number (l.getD i .z).term).1 q))(hc:c 0=iV C.steps) :
  mr (mr (mr (λj k=>V.d (wo (l.getD j .z) k)) i 13 1 a) i 14 2 b) i 4 1 c j k=V.d (wo ((l.set i (ZV C (l.getD i .z))).getD j .z) k):=by
 unfold mr;rw[D9];rcases e:Nat.beq j i with _|_
 ·have hne:¬(i=j/\j<l.length):=λh=>by obtain⟨rfl,_⟩:=h;simp at e
  rw[if_neg hne];rfl
 ·have:=Nat.eq_of_beq_eq_true e;subst this;rw[if_pos ⟨rfl,hi⟩];have b0:=hb 0 qD;have b1:=hb 1 qD;obtain _|_|_|_|_|_|_|_|_|_|_|_|_|_|_|_|k:=k
  all_goals first|rfl|exact hc|exact ha|exact b0|exact b1|omega
def CG.vk{k:Nat}{v T c s:Int}{fl:Nat->Int}{K:Nat}{C:aH}(h:CG k v T fl c s K C){x:Cal}(hx:yR k x):Tag k x.node.toNat/\(C.at x.node.toNat).dn<=(C.at x.node.toNat).ae.log.length/\(C.at x.node.toNat).dn<=(C.at x.node.toNat).fV.length/\(C.at x.node.toNat).fV.length<=1000:=by
 have hA:x.node.toNat<k:=by have:=hx.node;omega
 obtain⟨L,t,g⟩:=h.nd _ hA;have h1:=g.g.ap;have h2:=g.g.fV;have h3:=g.g.log.len;exact⟨Tag.of h.jm hA,by show(C.nd x.node.toNat).dn<=(C.nd x.node.toNat).ae.log.length;omega,by show(C.nd x.node.toNat).dn<=(C.nd x.node.toNat).fV.length;omega,by show(C.nd x.node.toNat).fV.length<=1000;omega⟩
def zO(k N:Nat)(C:aH)(R:List (Nat×aK)):Prop:=∀(D:aH) (x:Cal),yR k x->D.nd=C.nd->af 51 [.ptr (8*x.node.toNat+24) 0,iV x.number,iV x.term] ⟨iF k D++R,N⟩ (λv t=>v=bI [lJ (uP (C.at x.node.toNat) x.number x.term).1,iV (uP (C.at x.node.toNat) x.number x.term).2]/\t=⟨iF k D++R,N⟩)
def zO.at{k N:Nat}{C:aH}{R:List (Nat×aK)}(h:zO k N C R){l:List Cal}{x:Cal}(hx:yR k x):af 51 [.ptr (8*x.node.toNat+24) 0,iV x.number,iV x.term] ⟨iF k { C with calls:=l }++R,N⟩ (λv t=>v=bI [lJ (uP (C.at x.node.toNat) x.number x.term).1,iV (uP (C.at x.node.toNat) x.number x.term).2]/\t=⟨iF k { C with calls:=l }++R,N⟩):=h _ x hx rfl
def aaN{k N:Nat}{R:List (Nat×aK)}(hT:Tl k N R){x:Cal}(hx:yR k x):VW N (dI (xO N) (.ptr (8*x.node.toNat+24) 0)) (.ptr (8*x.node.toNat+24) 0):=by
 have h:8*x.node.toNat+24<N:=by have:=hx.node;have:=hT.le;omega
 exact oG (Td h) h
abbrev Tl.cs{k N:Nat}{R:List (Nat×aK)}(h:Tl k N R)(D:aH):ST:=⟨iF k D++R,N⟩
def aaD.mk{p q:Prop}(h:p)(hq:q):q:=hq
def alg(k N:Nat)(hk:(k=3/\N=50)\/(k=3/\N=54)\/(k=3/\N=56)\/(k=4/\N=58)\/(k=4/\N=62)\/(k=4/\N=64)\/(k=5/\N=66)\/(k=5/\N=70)\/(k=5/\N=72))(C:aH)(R:List (Nat×aK))(hT:Tl k N R)(hrep:zO k N C R){v U c s:Int}{fl:Nat->Int}{K:Nat}(H:CG k v U fl c s K C)(hK:K<=1000)(hs:s<=1000000):af 21 [.ptr 0 0] ⟨iF k C++R,N⟩ (λv t=>v = .gQ 0 (λ_=>.top)/\t=⟨iF k (Tu C)++R,N⟩):=by
 obtain⟨rfl,rfl⟩|⟨rfl,rfl⟩|⟨rfl,rfl⟩|⟨rfl,rfl⟩|⟨rfl,rfl⟩|⟨rfl,rfl⟩|⟨rfl,rfl⟩|⟨rfl,rfl⟩|⟨rfl,rfl⟩:=hk
 all_goals refine ay Tryz.func21 λX=>?_
 all_goals repeat'(first|((with_reducible refine fP ?_);first|refine aC ?_|refine bU 5 [22,23] [o2,o2,o2,o2,o2,o2,o2,o2,o2,o2,o2,o2,o2,o2,o2,o2,o2,o2,o2,o2,o2,(0,2,false,[]),o1,(1,1,true,[]),(2,2,false,[])] ?_|refine bU 7 [10,13,16] [o0,o2,(0,2,false,[]),o2,o0,o0,o0,o0,o0,o0,o1,o3,o3,(1,1,true,[]),(2,2,false,[]),(2,2,false,[]),(2,2,true,[])] ?_|refine dU C.calls.length (λi (a:List Cal)=>⟨63,[(0,.ptr 0 0),(10,iV C.calls.length),(11,iV i)],hT.cs { C with calls:=a }⟩) (λi a=>xZ _ C i a) C.calls ?_ (xZ.zero H.yj) (λi a hi hp=>?_))|((conv=>whnf);first|(with_reducible refine fP ?_)|refine mc ?_ ?_|(refine aaD.mk (p:=(({ C with calls:=a }:aH).calls.getD ((i:Nat):Int).toNat .z).done=true) ?_ ?_;(exact jc);refine aZ a ⟨?_,hp.axz (by have h9:=bT (aG:decide ((i:Int)<(C.calls.length:Int))=true);omega:i<C.calls.length) (akk aG),?_⟩)|(refine aaD.mk (p:=decide ((uP (C.at (a.getD i .z).node.toNat) (a.getD i .z).number (a.getD i .z).term).2=0)=false) ?_ ?_;(exact jc);refine aZ a ⟨?_,hp.axz (by have h9:=bT (aG:decide ((i:Int)<(C.calls.length:Int))=true);omega:i<C.calls.length) (aps aG aG),?_⟩)|(refine aaD.mk (p:=decide ((uP (C.at (a.getD i .z).node.toNat) (a.getD i .z).number (a.getD i .z).term).2=0)=true) ?_ ?_;(exact jc);refine aZ (a.set i (ZV C (a.getD i .z))) ⟨?_,hp.set (by have h9:=bT (aG:decide ((i:Int)<(C.calls.length:Int))=true);omega:i<C.calls.length) (al0 aG aG),?_⟩)|refine wK ?_|refine WW 0 hT hT (hrep.at (l:=a) (hp.here (by have h9:=bT (aG:decide ((i:Int)<(C.calls.length:Int))=true);omega:i<C.calls.length)).2) rfl rfl rfl rfl (Pm (λk hk=>True.intro) tv) tv ⟨aaN hT (hp.here (by have h9:=bT (aG:decide ((i:Int)<(C.calls.length:Int))=true);omega:i<C.calls.length)).2,VW.refl tv,VW.refl tv,tv⟩ ?_|refine aj.mk (λh=>?_) (λh=>?_)|refine ag.a ?_|refine bM qN qN (VW.gQ λk hk=>ai hk (qh k)) ?_|refine ag.mk ?_ ?_))
 all_goals(try(refine dm.mk ?_;repeat'(first|exact tv|((conv=>whnf);first|exact rfl|refine Fv 0 hT hT (hrep.at (l:=a) (hp.here (by have h9:=bT (aG:decide ((i:Int)<(C.calls.length:Int))=true);omega:i<C.calls.length)).2) rfl rfl rfl rfl (Pm (λk hk=>True.intro) tv) tv ⟨aaN hT (hp.here (by have h9:=bT (aG:decide ((i:Int)<(C.calls.length:Int))=true);omega:i<C.calls.length)).2,VW.refl tv,VW.refl tv,tv⟩ ?_|refine Fv 1 hT hT (hrep.at (l:=a) (hp.here (by have h9:=bT (aG:decide ((i:Int)<(C.calls.length:Int))=true);omega:i<C.calls.length)).2) rfl rfl rfl rfl (Pm (λk hk=>True.intro) tv) (by refine⟨λk hk=>?_,tv⟩;have hk:k<2:=hk;obtain _|_|k:=k <;> (exact tv)) ⟨aaN hT (hp.here (by have h9:=bT (aG:decide ((i:Int)<(C.calls.length:Int))=true);omega:i<C.calls.length)).2,VW.refl tv,VW.refl tv,tv⟩ ?_|refine an ?_ ?_|refine ag.mk ?_ ?_))))
 all_goals try exact cls
 all_goals(try(refine leq ?_ ?_ <;> repeat'(first|exact tv|exact pq 5 hT rfl rfl rfl|exact pq 6 hT rfl rfl rfl|refine an qW ?_|refine an qV ?_|refine an ⟨nb rfl,?_⟩ ?_|exact aW.row rfl fv|exact o8 rfl|refine fB rfl (λk hk=>dR ?_)|refine an ?_ ?_)))
 all_goals(try(repeat'(first|exact pq 5 hT rfl rfl rfl|refine an ⟨nb rfl,?_⟩ ?_|exact aW.row rfl fv|exact o8 rfl|refine fB rfl (λk hk=>dR ?_)|refine aW.row ?_ (λj hj k hk=>dR ?_))))
 all_goals first|exact rfl|exact kk|(have h9:=bT (aG:decide ((i:Int)<(C.calls.length:Int))=true);have h8:=(hp.here qo).2.node;have h7:=hp.len;have h6:=H.calls;first|exact(hp.here qo).2.lt|exact h8.1|exact h8.2|omega|(simp only[dM];omega)|(refine⟨rfl,?_,?_⟩ <;> (try dsimp only) <;> omega)|(refine⟨rfl,?_,nb rfl⟩;dsimp only;omega))|exact(nM).symm|(have hk:k<4:=hk;obtain _|_|_|_|k:=k <;> first|exact cm qV|exact cm qW|exact cm (vq (ah (V.row 4) (nM).symm) qN))|(intro j hj k hk;refine vq ?_ trivial;refine arM (C:=C) (l:=a) (i:=i) ?_ hk ?_ ?_ ?_;all_goals first|exact rfl|(have h7:=hp.len;have h9:=bT (aG:decide ((i:Int)<(C.calls.length:Int))=true);omega)|(intro q hq;obtain _|_|q:=q <;> first|exact rfl|omega))|(obtain rfl:i=C.calls.length:=om;obtain rfl:=hp.full;first|exact rfl|exact cm qV|exact kk)
end
