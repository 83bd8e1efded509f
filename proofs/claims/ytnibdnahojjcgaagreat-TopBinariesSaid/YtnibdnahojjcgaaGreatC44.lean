/- Lemmas. -/
import Derived.Test.YtnibdnahojjcgaaGreatC41
import Derived.Test.YtnibdnahojjcgaaGreatC42
import Derived.Test.YtnibdnahojjcgaaGreatC43
namespace Go.Proofs.YtnibdnahojjcgaaGreat
set_option linter.all false
set_option maxRecDepth 100000
set_option maxHeartbeats 0
open Go.RowKit Tryz
section
def Zg{C D:aH}{A e a1 a2 a3 a4:Nat}(h:D.nd=C.nd):∀ {m i:Nat},zS A e a1 a2 a3 a4 D i m=zS A e a1 a2 a3 a4 C i m
 |0,_=>rfl
 |m+1,i=>by
  show(bif Nat.beq i A then EP (8*i+24) e a1 a2 a3 a4 (D.nd i) else yl (8*i+24) (D.nd i))++zS A e a1 a2 a3 a4 D (i+1) m=(bif Nat.beq i A then EP (8*i+24) e a1 a2 a3 a4 (C.nd i) else yl (8*i+24) (C.nd i))++zS A e a1 a2 a3 a4 C (i+1) m;rw[h,Zg h]
def MG(k:Nat)(D:aH)(t:ST):Prop:=t=⟨iF k D++Bo k D,8*k+26⟩\/(∃ A,A<k/\t=⟨iF k D++DF k A D,8*k+30⟩)\/∃ A,A<k/\t=⟨iF k D++DI k A D,8*k+32⟩
def Xc(k:Nat)(C:aH)(e:cO):jI k C e=(lC (nJ k C e).1,(nJ k C e).2):=rfl
section
variable {k:Nat} {v U c s:Int} {fl:Nat->Int} {K:Nat} {C:aH} {e:cO}
def Bh(H:CG k v U fl c s K C)(hK:K<=1000)(hs:s<=1000000):yf (Zl (C:=C) (e:=e) H.jm) C:=
 ZQ k (8*k+26) (by have:=H.jm;omega) C e (Bo k C) (Zl H.jm) (auD H) H hK hs
def avC(H:CG k v U fl c s K C)(hK:K<=1000)(hs:s<=1000000){A:Nat}(ht:Tag k A):yf (Zj (C:=C) (e:=e) ht) C:=
 ZQ k (8*k+30) (by have:=H.jm;omega) C e (DF k A C) (Zj ht) (auB ht H) H hK hs
def avD(H:CG k v U fl c s K C)(hK:K<=1000)(hs:s<=1000000){A:Nat}(ht:Tag k A):yf (Zk (C:=C) (e:=e) ht) C:=
 ZQ k (8*k+32) (by have:=H.jm;omega) C e (DI k A C) (Zk ht) (auC ht H) H hK hs
def Bg{D:aH}{r:Int}(hk:3<=k/\k<=5)(ha:nJ k C e=(D,r)){f:Nat}{args:List V}{st:ST}(h:af f args st (λv t=>v=iV r/\t=(Zl (C:=D) (e:=e) hk).m3 (lC D))):af f args st (λv t=>v=iV (jI k C e).2/\MG k (jI k C e).1 t):=h.mono λv t ⟨h1,h2⟩=>by
 rw[Xc,ha];refine⟨h1,.inl (h2.trans ?_)⟩;show(⟨iF k (lC D)++Bo k D,_⟩:ST)=⟨iF k (lC D)++Bo k (lC D),_⟩;rw[show Bo k (lC D)=Bo k D from O1 (C:=D) (D:=lC D) rfl]
def axa{D:aH}{r:Int}{A:Nat}(ht:Tag k A)(hA:A<k)(ha:nJ k C e=(D,r)){f:Nat}{args:List V}{st:ST}(h:af f args st (λv t=>v=iV r/\t=(Zj (C:=D) (e:=e) ht).m3 (lC D))):af f args st (λv t=>v=iV (jI k C e).2/\MG k (jI k C e).1 t):=h.mono λv t ⟨h1,h2⟩=>by
 rw[Xc,ha];refine⟨h1,.inr (.inl ⟨A,hA,h2.trans ?_⟩)⟩;show(⟨iF k (lC D)++DF k A D,_⟩:ST)=⟨iF k (lC D)++DF k A (lC D),_⟩;rw[show DF k A (lC D)=DF k A D from Zg (C:=D) (D:=lC D) rfl]
def axb{D:aH}{r:Int}{A:Nat}(ht:Tag k A)(hA:A<k)(ha:nJ k C e=(D,r)){f:Nat}{args:List V}{st:ST}(h:af f args st (λv t=>v=iV r/\t=(Zk (C:=D) (e:=e) ht).m3 (lC D))):af f args st (λv t=>v=iV (jI k C e).2/\MG k (jI k C e).1 t):=h.mono λv t ⟨h1,h2⟩=>by
 rw[Xc,ha];refine⟨h1,.inr (.inr ⟨A,hA,h2.trans ?_⟩)⟩;show(⟨iF k (lC D)++DI k A D,_⟩:ST)=⟨iF k (lC D)++DI k A (lC D),_⟩;rw[show DI k A (lC D)=DI k A D from Zg (C:=D) (D:=lC D) rfl]
def Fe(h:3<=k/\k<=5):(k=3/\8*k+24=48/\8*k+26=50)\/(k=4/\8*k+24=56/\8*k+26=58)\/(k=5/\8*k+24=64/\8*k+26=66):=qO
def arD(h:CG k v U fl c s K C)(hc:c<=100000000)(hK:K<=900)(hs:s<=1000000)(he:wG e)(hU:U<1048576):af 8 [.ptr 0 0,oL e] (CS k C) (λv t=>v=iV (jI k C e).2/\MG k (jI k C e).1 t):=by
 have hk:=h.jm;obtain⟨w,lX,g⟩:=h.act he hU;have hT:=OX (C:=C) hk;by_cases k3:e.kind=3
 ·have ha:nJ k C e=axD k C e.a:=by unfold nJ;rw[aX k3];rfl
  rw[ha]at g;refine Bg hk (D:=(axD k C e.a).1) (r:=(axD k C e.a).2) ha ?_;exact anS k _ _ (Fe hk) C _ e _ _ hT _ _ (Bh g qO qO) k3 (arS h hc e.a)
 by_cases k4:e.kind=4
 ·have ha:nJ k C e=AY C e.a:=by unfold nJ;rw[aT k3,aX k4];rfl
  rw[ha]at g;refine Bg hk (D:=(AY C e.a).1) (r:=(AY C e.a).2) ha ?_;exact anQ k _ _ (Fe hk) C _ e _ _ hT _ _ (Bh g qO qO) k4 (arV h hc e.a)
 by_cases k5:e.kind=5
 ·have ha:nJ k C e=Ap C e.a:=by unfold nJ;rw[aT k3,aT k4,aX k5];rfl
  rw[ha]at g;refine Bg hk (D:=(Ap C e.a).1) (r:=(Ap C e.a).2) ha ?_;exact anP k _ _ (Fe hk) C _ e _ _ hT _ _ (Bh g qO qO) k5 (aod h hc e.a)
 have hact:nJ k C e=bif l9 k e.a then wS k C e.a.toNat e else(C,1):=by unfold nJ;rw[aT k3,aT k4,aT k5];rfl
 have hth:=aoe (C:=C) (e:=e) hk e.a;by_cases kn:e.kind=1\/e.kind=2\/e.kind=6\/e.kind=7\/e.kind=8\/e.kind=9;rotate_left
 ·have hn:wS k C e.a.toNat e=(C,1):=by
   unfold wS;rw[aT (show ¬e.kind=1 by omega),aT (show ¬e.kind=2 by omega),aT (show ¬e.kind=6 by omega),aT (show ¬e.kind=9 by omega),aT (show ¬e.kind=7 by omega),aT (show ¬e.kind=8 by omega)];rfl
  have ha:nJ k C e=(C,1):=by rw[hact,hn];cases l9 k e.a <;> rfl
  refine Bg hk ha ?_;exact anK k _ _ (Fe hk) C _ e _ _ hT _ _ (Bh h qO qO) qO rfl rfl rfl
 rcases hf:l9 k e.a with _|_
 ·have ha:nJ k C e=(C,1):=by rw[hact,hf];rfl
  refine Bg hk ha ?_;exact anL k _ _ (Fe hk) C _ e _ _ hT _ _ (Bh h qO qO) kn hth hf rfl rfl rfl
 have hA:=JF hf;have hAk:e.a.toNat<k:=qO;have ht:=Tag.of hk hAk;have hact:nJ k C e=wS k C e.a.toNat e:=by rw[hact,hf];rfl
 by_cases k2:e.kind=2
 ·have ha:nJ k C e=Df k C e.a.toNat:=by rw[hact];unfold wS;rw[aT (show ¬e.kind=1 by omega),aX k2];rfl
  rw[ha]at g;refine Bg hk (D:=(Df k C e.a.toNat).1) (r:=(Df k C e.a.toNat).2) ha ?_;exact anT k _ _ (Fe hk) C _ e _ _ hT _ _ (Bh g qO qO) k2 hth hf hA (arY h hc hAk)
 by_cases k6:e.kind=6
 ·have ha:nJ k C e=uq C e.a.toNat e:=by rw[hact];unfold wS;rw[aT (show ¬e.kind=1 by omega),aT k2,aX k6];rfl
  rw[ha]at g;refine Bg hk (D:=(uq C e.a.toNat e).1) (r:=(uq C e.a.toNat e).2) ha ?_;exact anO k _ _ (Fe hk) C _ e _ _ hT _ _ (Bh g qO qO) k6 hth hf hA (arX h qO he hAk)
 by_cases k7:e.kind=7
 ·have ha:nJ k C e=(C.put e.a.toNat (Gs (C.at e.a.toNat) e.b),0):=by rw[hact];unfold wS;rw[aT (show ¬e.kind=1 by omega),aT k2,aT k6,aT (show ¬e.kind=9 by omega),aX k7];rfl
  rw[ha]at g;refine Bg hk ha ?_;exact anN k _ _ (Fe hk) C _ e _ _ hT _ _ (Bh g qO qO) k7 hth hf hA (arW h hAk)
 by_cases k8:e.kind=8
 ·have ha:nJ k C e=(C.put e.a.toNat (Eg (C.at e.a.toNat) e.b),0):=by rw[hact];unfold wS;rw[aT (show ¬e.kind=1 by omega),aT k2,aT k6,aT (show ¬e.kind=9 by omega),aT k7,aX k8];rfl
  rw[ha]at g;refine Bg hk ha ?_;exact anM k _ _ (Fe hk) C _ e _ _ hT _ _ (Bh g qO qO) k8 hth hf hA (aol h he hAk)
 by_cases k1:e.kind=1
 ·have ha:nJ k C e=zH C e.a.toNat:=by rw[hact];unfold wS;rw[aX k1];rfl
  rw[ha]at g;rcases hst:sZ (C.at e.a.toNat) with _|_
  ·refine Bg hk (D:=(zH C e.a.toNat).1) (r:=(zH C e.a.toNat).2) ha ?_;exact aey k _ _ qO C _ e _ _ hT _ _ (Bh g qO qO) k1 hth hf hA (arR h hc hU hAk hst)
  ·refine axa ht hAk (D:=(zH C e.a.toNat).1) (r:=(zH C e.a.toNat).2) ha ?_;exact aey k _ _ qO C _ e _ _ hT _ _ (avC g qO qO ht) k1 hth hf hA (arQ h hc hU hAk hst)
 ·have k9:e.kind=9:=qO;have ha:nJ k C e=ui C e.a.toNat e.b:=by rw[hact];unfold wS;rw[aT k1,aT k2,aT k6,aX k9];rfl
  rw[ha]at g;rcases hst:vS (C.at e.a.toNat) e.b with _|_
  ·refine Bg hk (D:=(ui C e.a.toNat e.b).1) (r:=(ui C e.a.toNat e.b).2) ha ?_;exact aex k _ _ qO C _ e _ _ hT _ _ (Bh g qO qO) k9 hth hf hA (als h hAk hst)
  ·refine axb ht hAk (D:=(ui C e.a.toNat e.b).1) (r:=(ui C e.a.toNat e.b).2) ha ?_;exact aex k _ _ qO C _ e _ _ hT _ _ (avD g qO qO ht) k9 hth hf hA (alr h hAk hst)
end
end
section
def af7{τ:Nat->Nat}{b e a1 a2 a3 a4:Nat}{n:aA}(h0:τ b=b)(h1:τ (b+1)=b+1)(h2:τ (b+2)=b+2)(h3:τ (b+3)=e)(h4:τ (b+4)=a1)(h5:τ (b+5)=a2)(h6:τ (b+6)=a3)(h7:τ (b+7)=a4):EP b e a1 a2 a3 a4 n=iQ τ (yl b n):=by
 have e0:AU b e a1 a2 a3 a4 n=λk=>tY τ (GN b n k):=by
  funext k;obtain _|_|_|_|_|_|_|_|_|_|_|_|_|_|_|_|_|_|_|_|_|_|k:=k
  all_goals first
   |rfl
   |exact ah (λi=>V.ptr i 0) h1.symm
   |exact ah (λi=>V.row i n.fV.length) h3.symm
   |exact ah (λi=>V.row i n.ig.length) h4.symm
   |exact ah (λi=>V.row i n.eF.length) h5.symm
   |exact ah (λi=>V.row i n.next.length) h6.symm
   |exact ah (λi=>V.row i n.gz.length) h7.symm
 have e1:zN b n.aB=λk=>tY τ (zN b n.aB k):=by
  funext k;obtain _|_|_|_|k:=k
  all_goals first|rfl|exact ah (λi=>V.vw i (n.aB.b++n.aB.dA).length 0 n.aB.b.length) h2.symm
 show [(b,.Wp 23 (AU b e a1 a2 a3 a4 n)),(b+1,.Wp 5 (zN b n.aB)),(b+2,kL (n.aB.b++n.aB.dA)),(e,bQ 52 2 ji .z n.fV),(a1,tH n.ig),(a2,gJ n.eF),(a3,gJ n.next),(a4,gJ n.gz)]
  = [(τ b,.Wp 23 (λk=>tY τ (GN b n k))),(τ (b+1),.Wp 5 (λk=>tY τ (zN b n.aB k))),(τ (b+2),kL (n.aB.b++n.aB.dA)),(τ (b+3),bQ 52 2 ji .z n.fV),(τ (b+4),tH n.ig),(τ (b+5),gJ n.eF),(τ (b+6),gJ n.next),(τ (b+7),gJ n.gz)]
 rw[<-e0,<-e1,h0,h1,h2,h3,h4,h5,h6,h7]
def aaz(b:Nat)(n:aA):yl b n=EP b (b+3) (b+4) (b+5) (b+6) (b+7) n:=by
 unfold yl EP;rw[Ul]
structure Rw (A:Nat) (τ:Nat->Nat) (e a1 a2 a3 a4:Nat):Prop where
 o:∀ i,i<8*A+27\/8*A+32<=i->τ i=i
 h3:τ (8*A+27)=e
 h4:τ (8*A+28)=a1
 h5:τ (8*A+29)=a2
 h6:τ (8*A+30)=a3
 h7:τ (8*A+31)=a4
def af8{A e a1 a2 a3 a4:Nat}{τ:Nat->Nat}{C:aH}(h:Rw A τ e a1 a2 a3 a4):∀(m i:Nat),zS A e a1 a2 a3 a4 C i m=iQ τ (lY C i m)
 |0,_=>rfl
 |m+1,i=>by
  show(bif Nat.beq i A then EP (8*i+24) e a1 a2 a3 a4 (C.at i) else yl (8*i+24) (C.at i))++zS A e a1 a2 a3 a4 C (i+1) m=iQ τ (yl (8*i+24) (C.at i)++lY C (i+1) m);rw[YG,af8 h m (i+1)];congr 1;rcases hb:Nat.beq i A with _|_
  ·have hne:i≠A:=λe=>by subst e;simp at hb
   rw[bz,aaz];rw[<-aaz];rw[aaz];refine(af7 ?_ ?_ ?_ ?_ ?_ ?_ ?_ ?_);all_goals exact h.o _ qO
  ·have:=dJ hb;subst this;exact af7 (h.o _ qO) (h.o _ qO) (h.o _ qO) h.h3 h.h4 h.h5 h.h6 h.h7
def ap9{k A e a1 a2 a3 a4:Nat}{τ:Nat->Nat}{C:aH}(h:Rw A τ e a1 a2 a3 a4):iF k C=iQ τ (iF k C):=by
 have e0:Dw k C=λi=>tY τ (Dw k C i):=by
  funext i;obtain _|_|_|i:=i
  ·exact ah (λj=>V.row j k) (h.o 1 qO).symm
  ·exact ah (λj=>V.ptr j 0) (h.o 2 qO).symm
  ·exact ah (λj=>V.row j C.calls.length) (h.o 4 qO).symm
  ·rfl
 have e1:Dp C.au=λi=>tY τ (Dp C.au i):=by
  funext i;obtain _|_|_|i:=i
  ·exact ah (λj=>V.vw j (C.au.row.length+C.au.dA) 0 C.au.row.length) (h.o 3 qO).symm
  all_goals rfl
 have e2:Dn k=xe τ (Dn k):=by
  show aK.row 76 1 k (λj _=>.ptr (8*j+24) 0)=aK.row 76 1 k (λj _=>.ptr (τ (8*j+24)) 0);congr 1;funext j _;rw[h.o (8*j+24) qO]
 show [(0,.Wp 4 (Dw k C)),(1,Dn k),(2,.Wp 4 (Dp C.au)),(3,uT (kH C.au)),(4,bQ 69 16 wo .z C.calls)]
  = [(τ 0,.Wp 4 (λi=>tY τ (Dw k C i))),(τ 1,xe τ (Dn k)),(τ 2,.Wp 4 (λi=>tY τ (Dp C.au i))),(τ 3,uT (kH C.au)),(τ 4,bQ 69 16 wo .z C.calls)]
 rw[<-e0,<-e1,<-e2,h.o 0 qO,h.o 1 qO,h.o 2 qO,h.o 3 qO,h.o 4 qO]
def ahJ{k A e a1 a2 a3 a4:Nat}{τ:Nat->Nat}{C:aH}(h:Rw A τ e a1 a2 a3 a4):iF k C++zS A e a1 a2 a3 a4 C 0 k=iQ τ (CL k C):=by
 show _=iQ τ (iF k C++lY C 0 k);rw[YG,<-af8 h k 0,<-ap9 h]
def GS(k:Nat)(C:aH)(σ:Nat->Nat)(N:Nat):ST:=⟨iQ σ (CL k C),N⟩
structure rM (k:Nat) (σ:Nat->Nat) (N:Nat):Prop where
 s:Sg (8*k+24) σ N
 z:σ 0=0
def PO(k A i:Nat):Nat:=if 8*A+28<=i/\i<8*A+32 then i-(8*A+28)+(8*k+26) else i
def PQ(k A i:Nat):Nat:=if 8*A+27<=i/\i<8*A+32 then i-(8*A+27)+(8*k+27) else i
def rwT(k A:Nat):Rw A (PO k A) (8*A+27) (8*k+26) (8*k+27) (8*k+28) (8*k+29):=by
 refine⟨λi hi=>if_neg qO,if_neg qO,?_,?_,?_,?_⟩;all_goals(unfold PO;rw[if_pos qO];omega)
def rwS(k A:Nat):Rw A (PQ k A) (8*k+27) (8*k+28) (8*k+29) (8*k+30) (8*k+31):=by
 refine⟨λi hi=>if_neg qO,?_,?_,?_,?_,?_⟩;all_goals(unfold PQ;rw[if_pos qO];omega)
def sgT(k A:Nat):rM k (PO k A) (8*k+30):=by
 refine⟨⟨λi j hi hj e=>?_,λi hi=>?_⟩,if_neg qO⟩
 ·unfold PO at e;by_cases h1:8*A+28<=i/\i<8*A+32 <;> by_cases h2:8*A+28<=j/\j<8*A+32
  ·rw[if_pos h1,if_pos h2]at e;omega
  ·rw[if_pos h1,if_neg h2]at e;omega
  ·rw[if_neg h1,if_pos h2]at e;omega
  ·rw[if_neg h1,if_neg h2]at e;exact e
 ·unfold PO;by_cases h1:8*A+28<=i/\i<8*A+32
  ·rw[if_pos h1];omega
  ·rw[if_neg h1];omega
def sgS(k A:Nat):rM k (PQ k A) (8*k+32):=by
 refine⟨⟨λi j hi hj e=>?_,λi hi=>?_⟩,if_neg qO⟩
 ·unfold PQ at e;by_cases h1:8*A+27<=i/\i<8*A+32 <;> by_cases h2:8*A+27<=j/\j<8*A+32
  ·rw[if_pos h1,if_pos h2]at e;omega
  ·rw[if_pos h1,if_neg h2]at e;omega
  ·rw[if_neg h1,if_pos h2]at e;omega
  ·rw[if_neg h1,if_neg h2]at e;exact e
 ·unfold PQ;by_cases h1:8*A+27<=i/\i<8*A+32
  ·rw[if_pos h1];omega
  ·rw[if_neg h1];omega
def VI{k N:Nat}(h:8*k+24<=N):rM k (λi=>i) N:=⟨⟨λ_ _ _ _ e=>e,λi hi=>by show i<N;omega⟩,rfl⟩
def aio(k:Nat)(C:aH):iF k C++Bo k C=iQ (λi=>i) (CL k C):=by
 have key:∀ l:List (Nat×aK),iQ (λi=>i) l=l:=by
  intro l;induction l with
  |nil=>rfl
  |cons p r ih=>
   show(p.1,mW (λk=>some k) p.2)::iQ (λi=>i) r=p::r;rw[ih];obtain⟨i,o⟩:=p;congr 2;cases o with
   |dead=>rfl
   |Wp n g=>exact ah (aK.Wp n) (funext λk=>Rz _)
   |row E s n g=>exact ah (aK.row E s n) (funext λj=>funext λk=>Rz _)
   |map es=>
    show aK.map (es.map λp=>(p.1,dI (λk=>some k) p.2))=_;exact ah aK.map ((List.map_congr_left (g:=id) λp _=>by rw[Rz];rfl).trans (List.map_id _))
 exact(key _).symm
def MG.rn{k:Nat}{D:aH}{t:ST}(h:MG k D t):∃ τ,rM k τ t.nx/\8*k+24<=t.nx/\t=GS k D τ t.nx:=by
 obtain rfl|⟨A,hA,rfl⟩|⟨A,hA,rfl⟩:=h
 ·exact⟨_,VI (by show 8*k+24<=8*k+26;omega),by show 8*k+24<=8*k+26;omega,by show(⟨_,_⟩:ST)=⟨_,_⟩;rw[aio]⟩
 ·exact⟨_,sgT k A,by show 8*k+24<=8*k+30;omega,by show(⟨_,_⟩:ST)=⟨_,_⟩;rw[<-ahJ (rwT k A)];rfl⟩
 ·exact⟨_,sgS k A,by show 8*k+24<=8*k+32;omega,by show(⟨_,_⟩:ST)=⟨_,_⟩;rw[<-ahJ (rwS k A)];rfl⟩
def ZP{σ:Nat->Nat}{n N:Nat}(h:∀ i,i<n->σ i<N):∀ {l:List (Nat×aK)},nI n l->nI N (iQ σ l)
 |[],_=>True.intro
 |p::r,hc=>by
  have key:∀ {v:V},je (λi=>i<n) v->je (λi=>i<N) (tY σ v):=by
   intro v;induction v with
   |agg n g ih=>exact λhq k hk=>ih k (hq k hk)
   |gQ n g ih=>exact λhq k hk=>ih k (hq k hk)
   |fn f nf n g ih=>exact λhq k hk=>ih k (hq k hk)
   |kQ t w x ih=>exact λhq=>ih hq
   |ptr i o=>exact λhq=>h i hq
   |rp i a b c=>exact λhq=>h i hq
   |row i a=>exact λhq=>h i hq
   |vw i a b c=>exact λhq=>h i hq
   |mp i=>exact λhq=>h i hq
   |_=>exact λ_=>True.intro
  refine⟨⟨h _ hc.1.1,?_⟩,ZP h hc.2⟩;have h2:=hc.1.2;obtain⟨i,o⟩:=p;cases o with
  |dead=>exact tv
  |Wp n g=>exact λk hk=>key (h2 k hk)
  |row E s n g=>exact λj hj k hk=>key (h2 j hj k hk)
  |map es=>
   intro k v e;show je _ v;have e:dY (es.map λp=>(p.1,tY σ p.2)) k=some v:=e;rw[Jr]at e;rcases hm:dY es k with _|u
   ·rw[hm]at e;cases e
   ·rw[hm]at e;injection e with e
    subst e;exact key (h2 k u hm)
section
variable {k N:Nat} {σ:Nat->Nat} {C C1:aH}
def XD{f:Nat}{l:List V}{r:V}(hk:3<=k/\k<=5)(hs:rM k σ N)(h:af f (.ptr 0 0::l) (CS k C) (λv t=>v=r/\t=CS k C1))(hl:∀(φ:Nat->Option Nat) (n:Nat),lI n φ l l)(hr:tY σ r=r)(hi:je (λi=>i<8*k+24) r):af f (.ptr 0 0::l) (GS k C σ N) (λv t=>v=r/\t=GS k C1 σ N):=by
 refine af.rn h hs.s (Nv hk) (Eh (bF _)) (λφ hφ=>⟨oG (by have:=hφ 0 qO;rwa [hs.z]at this) qO,hl φ _⟩) λv t ⟨e1,e2⟩=>?_
 subst e1 e2;exact⟨σ,bF _,λi hi=>agP hi,Eh (bF _),hi,hr,by show(⟨iQ σ (CL k C1),N+(8*k+24-(8*k+24))⟩:ST)=⟨_,N⟩;rw[Nat.sub_self,Nat.add_zero]⟩
def Fg(k:Nat)(D:aH)(N:Nat)(t:ST):Prop:=∃ σ M,N<=M/\rM k σ M/\t=GS k D σ M
def ard{v U c s:Int}{fl:Nat->Int}{K:Nat}{e:cO}(hs:rM k σ N)(h:CG k v U fl c s K C)(hc:c<=100000000)(hK:K<=900)(hst:s<=1000000)(he:wG e)(hU:U<1048576):af 8 [.ptr 0 0,oL e] (GS k C σ N) (λv t=>v=iV (jI k C e).2/\Fg k (jI k C e).1 N t):=by
 have hk:=h.jm;refine af.rn (arD h hc hK hst he hU) hs.s (Nv hk) (Eh (bF _)) (λφ hφ=>⟨oG (by have:=hφ 0 qO;rwa [hs.z]at this) qO,VW.agg λk hk=>qC,tv⟩) λv t ⟨e1,e2⟩=>?_
 subst e1;obtain⟨τ,h1,h2,h3⟩:=e2.rn;have hx:=hs.s.ext h2;refine⟨_,h2,λi hi=>rfl,?_,tv,rfl,λi=>ext (8*k+24) σ N (τ i),N+(t.nx-(8*k+24)),Nat.le_add_right _ _,⟨⟨λi j hi hj e=>h1.s.inj i j hi hj (hx.inj _ _ (h1.s.lt i hi) (h1.s.lt j hj) e),λi hi=>hx.lt _ (h1.s.lt i hi)⟩,?_⟩,?_⟩
 ·have:=ah ST.st h3;rw[this];exact ZP h1.s.lt (Eh (bF _))
 ·show ext _ σ N (τ 0)=0;rw[h1.z,agP qO,hs.z]
 ·have:=ah ST.st h3;show(⟨iQ _ t.st,_⟩:ST)=⟨iQ _ (CL k _),_⟩;rw[this];show(⟨iQ _ (iQ τ (CL k _)),_⟩:ST)=_;rw[adJ]
end
end
