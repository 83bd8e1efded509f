/- Lemmas. -/
import Derived.Test.YtnibdnahojjcgaaGreatC38
namespace Go.Proofs.YtnibdnahojjcgaaGreat
set_option linter.all false
set_option maxRecDepth 100000
set_option maxHeartbeats 0
open Go.RowKit Tryz
section
attribute [local irreducible] af
def O1{C D:aH}(h:D.nd=C.nd):∀ {m i:Nat},lY D i m=lY C i m
 |0,_=>rfl
 |m+1,i=>by
  show yl (8*i+24) (D.nd i)++lY D (i+1) m=yl (8*i+24) (C.nd i)++lY C (i+1) m;rw[h,O1 h]
def aaM{N j:Nat}(h:8*j+24<N):VW N (dI (xO N) (.ptr (8*j+24) 0)) (.ptr (8*j+24) 0):=oG (Td h) h
def anJ(k N:Nat)(hk:(k=3/\N=48)\/(k=4/\N=56)\/(k=5/\N=64))(C:aH)(R:List (Nat×aK))(hT:Tl k N R)(i:Int)(hi:qx C.au i=false):af 35 [.ptr 0 0,iV i] (hT.cs C) (λv t=>v=iV 1/\t=hT.cs C):=Wi
abbrev Tl.ex{k N:Nat}{R:List (Nat×aK)}(h:Tl k N R)(D:aH)(x:aV):ST:=⟨(N,.Wp 10 (λk=>.d (kN x k)))::(iF k D++R),N+1⟩
def anI(k N:Nat)(hk:(k=3/\N=48)\/(k=4/\N=56)\/(k=5/\N=64))(C:aH)(R:List (Nat×aK))(hT:Tl k N R)(i:Nat)(hi:i<C.au.row.length)(hp:zQ C.au)(hth:af 38 [.ptr 0 0,iV (C.au.row.getD i .z).dst] (hT.cs { C with au:=jH C.au i }) (λv t=>v = .b (l9 k (C.au.row.getD i .z).dst)/\t=hT.cs { C with au:=jH C.au i }))(hf:l9 k (C.au.row.getD i .z).dst=false):af 35 [.ptr 0 0,iV (i:Int)] (hT.cs C) (λv t=>v=iV 1/\t=hT.cs { C with au:=jH C.au i }):=Wi
def arB(k N:Nat)(hk:(k=3/\N=48)\/(k=4/\N=56)\/(k=5/\N=64))(C:aH)(R:List (Nat×aK))(hT:Tl k N R)(R1:List (Nat×aK))(hT1:Tl k N R1)(i:Nat)(hi:i<C.au.row.length)(hp:zQ C.au)(hth:af 38 [.ptr 0 0,iV (C.au.row.getD i .z).dst] (hT.cs { C with au:=jH C.au i }) (λv t=>v = .b (l9 k (C.au.row.getD i .z).dst)/\t=hT.cs { C with au:=jH C.au i }))(hf:l9 k (C.au.row.getD i .z).dst=true)(l:List aV)(e:Int)(hrc:af 70 [.ptr (8*(C.au.row.getD i .z).dst.toNat+24) 0,jT (C.au.row.getD i .z)] (hT.cs { C with au:=jH C.au i }) (λv t=>v=bI [.d (iU l),iV e]/\t=hT1.cs { C with au:=jH C.au i }))(hsd:af 23 [.ptr 0 0,.d (iU l),iV e] (hT1.cs { C with au:=jH C.au i }) (λv t=>v=iV e/\t=hT1.cs { C with au:=mP (jH C.au i) l }))(hd:0<=(C.au.row.getD i .z).dst/\(C.au.row.getD i .z).dst<k)(hpx:8*(C.au.row.getD i .z).dst.toNat+24<N):af 35 [.ptr 0 0,iV (i:Int)] (hT.cs C) (λv t=>v=iV e/\t=hT1.cs { C with au:=mP (jH C.au i) l }):=Wi
end
section
attribute [local irreducible] af
def Iz(f:Func):Code:=f.body.getD .skip
def Qy(k:Nat)(e:cO)(R:List (Nat×aK)):List (Nat×aK):=(8*k+25,xW e)::(8*k+24,xX)::R
def lC(C:aH):aH:={ Tu C with steps:=C.steps+1 }
abbrev Tl.mid{k M:Nat}{e:cO}{R:List (Nat×aK)}(h:Tl k M (Qy k e R))(D:aH):ST:=⟨iF k D++Qy k e R,M⟩
def ZQ(k M:Nat)(hk:(k=3/\M=50)\/(k=3/\M=54)\/(k=3/\M=56)\/(k=4/\M=58)\/(k=4/\M=62)\/(k=4/\M=64)\/(k=5/\M=66)\/(k=5/\M=70)\/(k=5/\M=72))(C:aH)(e:cO)(R:List (Nat×aK))(hT:Tl k M (Qy k e R))(hrep:zO k M C (Qy k e R)){v U c s:Int}{fl:Nat->Int}{K:Nat}(H:CG k v U fl c s K C)(hK:K<=1000)(hs:s<=1000000):∀ X:Cx (hT.mid C),T X (Iz f20) (uY f20 X (λv t=>v = .gQ 0 (λ_=>.top)/\t=hT.mid (lC C))) ⟨f20.ntmps,pU [.ptr (8*k+24) 0],hT.mid C⟩:=by
 obtain⟨rfl,rfl⟩|⟨rfl,rfl⟩|⟨rfl,rfl⟩|⟨rfl,rfl⟩|⟨rfl,rfl⟩|⟨rfl,rfl⟩|⟨rfl,rfl⟩|⟨rfl,rfl⟩|⟨rfl,rfl⟩:=hk
 all_goals refine λX=>?_
 all_goals repeat'(first|((with_reducible refine fP ?_);(refine aC ?_))|((conv=>whnf);first|(with_reducible refine fP ?_)|refine wK ?_|refine Fv 0 hT hT (alg _ _ (by decide) C (Qy _ e R) hT hrep H hK hs) rfl rfl rfl rfl (λk hk=>ai hk (qh k)) tv ⟨qW,tv⟩ ?_|refine ag.a ?_|refine bM qN qN (VW.gQ λk hk=>ai hk (qh k)) ?_|refine ag.mk ?_ ?_))
 all_goals try exact cls
 all_goals(try(repeat'(first|exact pq 5 hT rfl rfl rfl|refine an ⟨nb rfl,?_⟩ ?_|exact aW.row rfl (λj hj k hk=>vq rfl tv)|exact o8 rfl|refine fB rfl (λk hk=>dR ?_))))
 all_goals first|(have hk:k<4:=hk;obtain _|_|_|_|k:=k <;> first|exact cm qV|exact cm qW|omega)|(have h9:=H.steps;simp only[dM];show _<=C.steps+1/\C.steps+1<=_;omega)
end
section
attribute [local irreducible] af
def oO(N:Nat)(e:cO)(R:List (Nat×aK)):List (Nat×aK):=(N+1,xW e)::(N,xX)::R
abbrev Tl.b0{k N:Nat}{R:List (Nat×aK)}(h:Tl k N R):V:=.ptr N 0
abbrev Tl.b1{k N:Nat}{R:List (Nat×aK)}(h:Tl k N R):V:=.ptr (N+1) 0
abbrev Tl.bx{k N:Nat}{R:List (Nat×aK)}(h:Tl k N R)(D:aH)(e:cO):ST:=⟨(N+1,xW e)::(N,xX)::(iF k D++R),N+2⟩
abbrev Tl.sl{k N:Nat}{R:List (Nat×aK)}(h:Tl k N R)(D:aH)(e:cO):AS:=⟨65,[(7,.fn 20 0 1 (λ_=>.ptr N 0)),(2,.ptr N 0),(3,.ptr (N+1) 0),(4,iV 0)],h.bx D e⟩
abbrev Tl.m1{k N M:Nat}{e:cO}{R1:List (Nat×aK)}(h:Tl k M (oO N e R1))(D:aH):ST:=⟨(N+1,xW e)::(N,xX)::(iF k D++R1),M⟩
abbrev Tl.m2{k N M:Nat}{e:cO}{R1:List (Nat×aK)}(h:Tl k M (oO N e R1))(D:aH):ST:=⟨iF k D++oO N e R1,M⟩
abbrev Tl.m3{k N M:Nat}{e:cO}{R1:List (Nat×aK)}(h:Tl k M (oO N e R1))(D:aH):ST:=⟨iF k D++R1,M⟩
def Vo(N M:Nat):List (Nat×aK)->Bool
 |[]=>true
 |p::r=>(Nat.blt p.1 5||Nat.ble M p.1||Nat.beq p.1 N||Nat.beq p.1 (N+1))&&Vo N M r
def acT{N M:Nat}:∀ {e l:List (Nat×aK)},Vo N M e=true->∀ i,5<=i->i<M->i≠N->i≠N+1->axA (e++l) i=axA l i
 |[],_,_,_,_,_,_,_=>rfl
 |(k,v)::r,l,h,i,h1,h2,h3,h4=>by
  obtain⟨h5,h6⟩:=kZ (show((Nat.blt k 5||Nat.ble M k||Nat.beq k N||Nat.beq k (N+1))&&Vo N M r)=true from h);show(bif Nat.beq k i then v else axA (r++l) i)=_;rcases hb:Nat.beq k i with _|_
  ·exact acT h6 i h1 h2 h3 h4
  ·have:=dJ hb;subst this;simp only[Bool.or_eq_true]at h5;obtain ((h5|h5)|h5)|h5:=h5
   ·have:=mX h5;omega
   ·have:=nb h5;omega
   ·exact ai (dJ h5) h3
   ·exact ai (dJ h5) h4
def Tl.tail{k M N:Nat}{e:cO}{R:List (Nat×aK)}(h:Tl k M (oO N e R)):Tl k M R/\∀ p∈R,p.1≠N/\p.1≠N+1:=by
 have hnd:=h.nd;obtain⟨n1,n2⟩:=kZ (show((match bY (N::kV R) (N+1) with|some _=>false|none=>true)&&iJ (N::kV R))=true from hnd);obtain⟨n3,n4⟩:=kZ (show((match bY (kV R) N with|some _=>false|none=>true)&&iJ (kV R))=true from n2);refine⟨⟨h.le,λp hp=>h.keys p (jA _ (jA _ hp)),n4,h.Qx.2.2⟩,λp hp=>?_⟩;have hm:p.1∈kV R:=List.mem_map_of_mem (f:=λq:Nat×aK=>q.1) hp;obtain⟨i,hi,he⟩:=List.getElem_of_mem hm;have h3:=nC n4 (i:=p.1) (k:=i) (by rw[dV hi,he]);refine⟨λe=>?_,λe=>?_⟩
 ·rw[<-e,h3]at n3;cases n3
 ·have:bY (N::kV R) (N+1)=some (i+1):=by
   show(bif Nat.beq N (N+1) then some 0 else(match bY (kV R) (N+1) with|some k=>some (k+1)|none=>none))=_;rw[<-e,h3];rcases hb:Nat.beq N p.1 with _|_
   ·rfl
   ·have:=dJ hb;omega
  rw[this]at n1;cases n1
def Kv{k N M M':Nat}{e:cO}{t:ST}{R:List (Nat×aK)}(q:Nat)(h:Tl k M (oO N e R))(hst:t.st.drop q=R)(hP:Vo N M (t.st.take q)=true)(hM:Nat.ble M M'=true):pX M' t R:=by
 obtain⟨hT,hne⟩:=h.tail;have hc:=TS (nb hM) hT.Qx;have ht:∀ i,axA t.st i=axA (t.st.take q++R) i:=λi=>by rw[<-hst,List.take_append_drop]
 have key:∀ Q:List (Nat×aK),(∀ p∈Q,p∈R)->pX M' t Q:=by
  intro Q;induction Q with
  |nil=>exact λ_=>True.intro
  |cons p r ih=>
   intro hq;obtain⟨i,o⟩:=p;refine⟨?_,ih λp hp=>hq p (jA _ hp)⟩;have hm:=hq _ jL;have hk:=hT.keys _ hm;have hn:=hne _ hm;have hl:=Fq hT.nd _ hm;have e:t.get i=o:=((ht i).trans (acT hP i hk.1 hk.2 hn.1 hn.2)).trans hl;rw[e];obtain h0|⟨h0,h1⟩:=yw hc i
   ·have ho:o = .dead:=hl.symm.trans h0;subst ho;exact⟨zk hc _ hm,tv⟩
   ·rw[show axA R i=o from hl]at h1;exact⟨h0,zf h1⟩
 exact key R λ_ h=>h
def yf{k N M:Nat}{e:cO}{R1:List (Nat×aK)}(h:Tl k M (oO N e R1))(D:aH):Prop:=∀ X:Cx (h.m2 D),T X (Iz f20) (uY f20 X (λv t=>v = .gQ 0 (λ_=>.top)/\t=h.m2 (lC D))) ⟨f20.ntmps,pU [.ptr N 0],h.m2 D⟩
def anS(k N M:Nat)(hk:(k=3/\N=48/\M=50)\/(k=4/\N=56/\M=58)\/(k=5/\N=64/\M=66))(C C1:aH)(e:cO)(R R1:List (Nat×aK))(hT:Tl k N R)(hT1:Tl k M (oO N e R1))(r:Int)(hdef:yf hT1 C1)(hkd:e.kind=3)(hcl:af 35 [.ptr 0 0,iV e.a] (hT.bx C e) (λv t=>v=iV r/\t=hT1.m1 C1)):af 8 [.ptr 0 0,oL e] (hT.cs C) (λv t=>v=iV r/\t=hT1.m3 (lC C1)):=Wj
def anQ(k N M:Nat)(hk:(k=3/\N=48/\M=50)\/(k=4/\N=56/\M=58)\/(k=5/\N=64/\M=66))(C C1:aH)(e:cO)(R R1:List (Nat×aK))(hT:Tl k N R)(hT1:Tl k M (oO N e R1))(r:Int)(hdef:yf hT1 C1)(hkd:e.kind=4)(hcl:af 36 [.ptr 2 0,iV e.a] (hT.bx C e) (λv t=>v=iV r/\t=hT1.m1 C1)):af 8 [.ptr 0 0,oL e] (hT.cs C) (λv t=>v=iV r/\t=hT1.m3 (lC C1)):=Wj
def anP(k N M:Nat)(hk:(k=3/\N=48/\M=50)\/(k=4/\N=56/\M=58)\/(k=5/\N=64/\M=66))(C C1:aH)(e:cO)(R R1:List (Nat×aK))(hT:Tl k N R)(hT1:Tl k M (oO N e R1))(r:Int)(hdef:yf hT1 C1)(hkd:e.kind=5)(hcl:af 37 [.ptr 2 0,iV e.a] (hT.bx C e) (λv t=>v=iV r/\t=hT1.m1 C1)):af 8 [.ptr 0 0,oL e] (hT.cs C) (λv t=>v=iV r/\t=hT1.m3 (lC C1)):=Wj
end
