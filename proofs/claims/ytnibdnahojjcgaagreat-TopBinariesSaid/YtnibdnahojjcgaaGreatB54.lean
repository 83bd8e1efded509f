/- A part of the proof. -/
import Derived.Test.YtnibdnahojjcgaaGreatB48
import Derived.Test.YtnibdnahojjcgaaGreatB52
import Derived.Test.YtnibdnahojjcgaaGreatB53
namespace Go.Proofs.YtnibdnahojjcgaaGreat
set_option maxRecDepth 100000
set_option maxHeartbeats 16000000
set_option linter.unusedVariables false
set_option linter.unusedSimpArgs false
open Go.RowKit
section
theorem WY{C D:aF}{A e a1 a2 a3 a4:Nat}(h:D.nd=C.nd):∀ {m i:Nat},y9 A e a1 a2 a3 a4 D i m=y9 A e a1 a2 a3 a4 C i m
 |0,_=>rfl
 |m+1,i=>by
  show(bif Nat.beq i A then D8 (8*i+24) e a1 a2 a3 a4 (D.nd i) else jA (8*i+24) (D.nd i))++y9 A e a1 a2 a3 a4 D (i+1) m=(bif Nat.beq i A then D8 (8*i+24) e a1 a2 a3 a4 (C.nd i) else jA (8*i+24) (C.nd i))++y9 A e a1 a2 a3 a4 C (i+1) m;rw[h,WY h]
def KC(k:Nat)(D:aF)(t:ST):Prop:=t=⟨gK k D++Az k D,8*k+26⟩\/(∃ A,A<k/\t=⟨gK k D++Cf k A D,8*k+30⟩)\/∃ A,A<k/\t=⟨gK k D++Ci k A D,8*k+32⟩
theorem UQ(k:Nat)(C:aF)(e:bT):iF k C e=(jH (nM k C e).1,(nM k C e).2):=rfl
section
variable {k:Nat} {v U c s:Int} {fl:Nat->Int} {K:Nat} {C:aF} {e:bT}
theorem Ar(H:CG k v U fl c s K C)(hK:K<=1000)(hs:s<=1000000):xm (Xc (C:=C) (e:=e) H.iY) C:=
 XE k (8*k+26) (by have:=H.iY;omega) C e (Az k C) (Xc H.iY) (apR H) H hK hs
theorem aqD(H:CG k v U fl c s K C)(hK:K<=1000)(hs:s<=1000000){A:Nat}(ht:Tag k A):xm (Xa (C:=C) (e:=e) ht) C:=
 XE k (8*k+30) (by have:=H.iY;omega) C e (Cf k A C) (Xa ht) (apP ht H) H hK hs
theorem aqE(H:CG k v U fl c s K C)(hK:K<=1000)(hs:s<=1000000){A:Nat}(ht:Tag k A):xm (Xb (C:=C) (e:=e) ht) C:=
 XE k (8*k+32) (by have:=H.iY;omega) C e (Ci k A C) (Xb ht) (apQ ht H) H hK hs
theorem Aq{D:aF}{r:Int}(hk:3<=k/\k<=5)(ha:nM k C e=(D,r)){f:Nat}{args:List V}{st:ST}(h:ae f args st (λv t=>v=iV r/\t=(Xc (C:=D) (e:=e) hk).m3 (jH D))):ae f args st (λv t=>v=iV (iF k C e).2/\KC k (iF k C e).1 t):=h.mono λv t ⟨h1,h2⟩=>by
 rw[UQ,ha];refine⟨h1,.inl (h2.trans ?_)⟩;show(⟨gK k (jH D)++Az k D,_⟩:ST)=⟨gK k (jH D)++Az k (jH D),_⟩;rw[show Az k (jH D)=Az k D from MO (C:=D) (D:=jH D) rfl]
theorem ar5{D:aF}{r:Int}{A:Nat}(ht:Tag k A)(hA:A<k)(ha:nM k C e=(D,r)){f:Nat}{args:List V}{st:ST}(h:ae f args st (λv t=>v=iV r/\t=(Xa (C:=D) (e:=e) ht).m3 (jH D))):ae f args st (λv t=>v=iV (iF k C e).2/\KC k (iF k C e).1 t):=h.mono λv t ⟨h1,h2⟩=>by
 rw[UQ,ha];refine⟨h1,.inr (.inl ⟨A,hA,h2.trans ?_⟩)⟩;show(⟨gK k (jH D)++Cf k A D,_⟩:ST)=⟨gK k (jH D)++Cf k A (jH D),_⟩;rw[show Cf k A (jH D)=Cf k A D from WY (C:=D) (D:=jH D) rfl]
theorem ar6{D:aF}{r:Int}{A:Nat}(ht:Tag k A)(hA:A<k)(ha:nM k C e=(D,r)){f:Nat}{args:List V}{st:ST}(h:ae f args st (λv t=>v=iV r/\t=(Xb (C:=D) (e:=e) ht).m3 (jH D))):ae f args st (λv t=>v=iV (iF k C e).2/\KC k (iF k C e).1 t):=h.mono λv t ⟨h1,h2⟩=>by
 rw[UQ,ha];refine⟨h1,.inr (.inr ⟨A,hA,h2.trans ?_⟩)⟩;show(⟨gK k (jH D)++Ci k A D,_⟩:ST)=⟨gK k (jH D)++Ci k A (jH D),_⟩;rw[show Ci k A (jH D)=Ci k A D from WY (C:=D) (D:=jH D) rfl]
theorem Ej(h:3<=k/\k<=5):(k=3/\8*k+24=48/\8*k+26=50)\/(k=4/\8*k+24=56/\8*k+26=58)\/(k=5/\8*k+24=64/\8*k+26=66):=qO
theorem anu(h:CG k v U fl c s K C)(hc:c<=100000000)(hK:K<=900)(hs:s<=1000000)(he:yD e)(hU:U<1048576):ae 8 [.ptr 0 0,nX e] (CS k C) (λv t=>v=iV (iF k C e).2/\KC k (iF k C e).1 t):=by
 have hk:=h.iY;obtain⟨w,lh,g⟩:=h.act he hU;have hT:=atz (C:=C) hk;by_cases k3:e.kind=3
 ·have ha:nM k C e=uH k C e.a:=by unfold nM;rw[bg k3];rfl
  rw[ha]at g;refine Aq hk (D:=(uH k C e.a).1) (r:=(uH k C e.a).2) ha ?_;exact akn k _ _ (Ej hk) C _ e _ _ hT _ _ (Ar g qO qO) k3 (anI h hc e.a)
 by_cases k4:e.kind=4
 ·have ha:nM k C e=DJ C e.a:=by unfold nM;rw[aX k3,bg k4];rfl
  rw[ha]at g;refine Aq hk (D:=(DJ C e.a).1) (r:=(DJ C e.a).2) ha ?_;exact akm k _ _ (Ej hk) C _ e _ _ hT _ _ (Ar g qO qO) k4 (anL h hc e.a)
 by_cases k5:e.kind=5
 ·have ha:nM k C e=Dn C e.a:=by unfold nM;rw[aX k3,aX k4,bg k5];rfl
  rw[ha]at g;refine Aq hk (D:=(Dn C e.a).1) (r:=(Dn C e.a).2) ha ?_;exact akl k _ _ (Ej hk) C _ e _ _ hT _ _ (Ar g qO qO) k5 (akI h hc e.a)
 have hact:nM k C e=bif lY k e.a then xQ k C e.a.toNat e else (C,1):=by unfold nM;rw[aX k3,aX k4,aX k5];rfl
 have hth:=akJ (C:=C) (e:=e) hk e.a;by_cases kn:e.kind=1\/e.kind=2\/e.kind=6\/e.kind=7\/e.kind=8\/e.kind=9;rotate_left
 ·have hn:xQ k C e.a.toNat e=(C,1):=by
   unfold xQ;rw[aX (show ¬e.kind=1 by omega),aX (show ¬e.kind=2 by omega),aX (show ¬e.kind=6 by omega),aX (show ¬e.kind=9 by omega),aX (show ¬e.kind=7 by omega),aX (show ¬e.kind=8 by omega)];rfl
  have ha:nM k C e=(C,1):=by rw[hact,hn];cases lY k e.a <;> rfl
  refine Aq hk ha ?_;exact akg k _ _ (Ej hk) C _ e _ _ hT _ _ (Ar h qO qO) qO rfl rfl rfl
 rcases hf:lY k e.a with _|_
 ·have ha:nM k C e=(C,1):=by rw[hact,hf];rfl
  refine Aq hk ha ?_;exact akh k _ _ (Ej hk) C _ e _ _ hT _ _ (Ar h qO qO) kn hth hf rfl rfl rfl
 have hA:=PV hf;have hAk:e.a.toNat<k:=qO;have ht:=Tag.of hk hAk;have hact:nM k C e=xQ k C e.a.toNat e:=by rw[hact,hf];rfl
 by_cases k2:e.kind=2
 ·have ha:nM k C e=BL k C e.a.toNat:=by rw[hact];unfold xQ;rw[aX (show ¬e.kind=1 by omega),bg k2];rfl
  rw[ha]at g;refine Aq hk (D:=(BL k C e.a.toNat).1) (r:=(BL k C e.a.toNat).2) ha ?_;exact ako k _ _ (Ej hk) C _ e _ _ hT _ _ (Ar g qO qO) k2 hth hf hA (anO h hc hAk)
 by_cases k6:e.kind=6
 ·have ha:nM k C e=vC C e.a.toNat e:=by rw[hact];unfold xQ;rw[aX (show ¬e.kind=1 by omega),aX k2,bg k6];rfl
  rw[ha]at g;refine Aq hk (D:=(vC C e.a.toNat e).1) (r:=(vC C e.a.toNat e).2) ha ?_;exact akk k _ _ (Ej hk) C _ e _ _ hT _ _ (Ar g qO qO) k6 hth hf hA (anN h qO he hAk)
 by_cases k7:e.kind=7
 ·have ha:nM k C e=(C.put e.a.toNat (G7 (C.at e.a.toNat) e.b),0):=by rw[hact];unfold xQ;rw[aX (show ¬e.kind=1 by omega),aX k2,aX k6,aX (show ¬e.kind=9 by omega),bg k7];rfl
  rw[ha]at g;refine Aq hk ha ?_;exact akj k _ _ (Ej hk) C _ e _ _ hT _ _ (Ar g qO qO) k7 hth hf hA (anM h hAk)
 by_cases k8:e.kind=8
 ·have ha:nM k C e=(C.put e.a.toNat (GL (C.at e.a.toNat) e.b),0):=by rw[hact];unfold xQ;rw[aX (show ¬e.kind=1 by omega),aX k2,aX k6,aX (show ¬e.kind=9 by omega),aX k7,bg k8];rfl
  rw[ha]at g;refine Aq hk ha ?_;exact aki k _ _ (Ej hk) C _ e _ _ hT _ _ (Ar g qO qO) k8 hth hf hA (akM h he hAk)
 by_cases k1:e.kind=1
 ·have ha:nM k C e=yT C e.a.toNat:=by rw[hact];unfold xQ;rw[bg k1];rfl
  rw[ha]at g;rcases hst:vk (C.at e.a.toNat) with _|_
  ·refine Aq hk (D:=(yT C e.a.toNat).1) (r:=(yT C e.a.toNat).2) ha ?_;exact ach k _ _ qO C _ e _ _ hT _ _ (Ar g qO qO) k1 hth hf hA (anH h hc hU hAk hst)
  ·refine ar5 ht hAk (D:=(yT C e.a.toNat).1) (r:=(yT C e.a.toNat).2) ha ?_;exact ach k _ _ qO C _ e _ _ hT _ _ (aqD g qO qO ht) k1 hth hf hA (anG h hc hU hAk hst)
 ·have k9:e.kind=9:=qO;have ha:nM k C e=ve C e.a.toNat e.b:=by rw[hact];unfold xQ;rw[aX k1,aX k2,aX k6,bg k9];rfl
  rw[ha]at g;rcases hst:xI (C.at e.a.toNat) e.b with _|_
  ·refine Aq hk (D:=(ve C e.a.toNat e.b).1) (r:=(ve C e.a.toNat e.b).2) ha ?_;exact acg k _ _ qO C _ e _ _ hT _ _ (Ar g qO qO) k9 hth hf hA (aiq h hAk hst)
  ·refine ar6 ht hAk (D:=(ve C e.a.toNat e.b).1) (r:=(ve C e.a.toNat e.b).2) ha ?_;exact acg k _ _ qO C _ e _ _ hT _ _ (aqE g qO qO ht) k9 hth hf hA (aip h hAk hst)
end
end
section
theorem adI{τ:Nat->Nat}{b e a1 a2 a3 a4:Nat}{n:az}(h0:τ b=b)(h1:τ (b+1)=b+1)(h2:τ (b+2)=b+2)(h3:τ (b+3)=e)(h4:τ (b+4)=a1)(h5:τ (b+5)=a2)(h6:τ (b+6)=a3)(h7:τ (b+7)=a4):D8 b e a1 a2 a3 a4 n=ig τ (jA b n):=by
 have e0:Aa b e a1 a2 a3 a4 n=λk=>sV τ (FB b n k):=by
  funext k;rcases k with _|_|_|_|_|_|_|_|_|_|_|_|_|_|_|_|_|_|_|_|_|_|k
  all_goals first
   |rfl
   |exact gz (λi=>V.ptr i 0) h1.symm
   |exact gz (λi=>V.row i n.fF.length) h3.symm
   |exact gz (λi=>V.row i n.iL.length) h4.symm
   |exact gz (λi=>V.row i n.fD.length) h5.symm
   |exact gz (λi=>V.row i n.next.length) h6.symm
   |exact gz (λi=>V.row i n.fJ.length) h7.symm
 have e1:yZ b n.aA=λk=>sV τ (yZ b n.aA k):=by
  funext k;rcases k with _|_|_|_|k
  all_goals first|rfl|exact gz (λi=>V.vw i (n.aA.b++n.aA.bU).length 0 n.aA.b.length) h2.symm
 show [(b,.blk 23 (Aa b e a1 a2 a3 a4 n)),(b+1,.blk 5 (yZ b n.aA)),(b+2,iy (n.aA.b++n.aA.bU)),(e,dw 52 2 jU .z n.fF),(a1,sK n.iL),(a2,fM n.fD),(a3,fM n.next),(a4,fM n.fJ)]
  = [(τ b,.blk 23 (λk=>sV τ (FB b n k))),(τ (b+1),.blk 5 (λk=>sV τ (yZ b n.aA k))),(τ (b+2),iy (n.aA.b++n.aA.bU)),(τ (b+3),dw 52 2 jU .z n.fF),(τ (b+4),sK n.iL),(τ (b+5),fM n.fD),(τ (b+6),fM n.next),(τ (b+7),fM n.fJ)]
 rw[<-e0,<-e1,h0,h1,h2,h3,h4,h5,h6,h7]
theorem Yf(b:Nat)(n:az):jA b n=D8 b (b+3) (b+4) (b+5) (b+6) (b+7) n:=by
 unfold jA D8;rw[QY]
structure Rw (A:Nat) (τ:Nat->Nat) (e a1 a2 a3 a4:Nat):Prop where
 o:∀ i,i<8*A+27\/8*A+32<=i->τ i=i
 h3:τ (8*A+27)=e
 h4:τ (8*A+28)=a1
 h5:τ (8*A+29)=a2
 h6:τ (8*A+30)=a3
 h7:τ (8*A+31)=a4
theorem adJ{A e a1 a2 a3 a4:Nat}{τ:Nat->Nat}{C:aF}(h:Rw A τ e a1 a2 a3 a4):∀(m i:Nat),y9 A e a1 a2 a3 a4 C i m=ig τ (lm C i m)
 |0,_=>rfl
 |m+1,i=>by
  show(bif Nat.beq i A then D8 (8*i+24) e a1 a2 a3 a4 (C.at i) else jA (8*i+24) (C.at i))++y9 A e a1 a2 a3 a4 C (i+1) m=ig τ (jA (8*i+24) (C.at i)++lm C (i+1) m);rw[Wj,adJ h m (i+1)];congr 1;rcases hb:Nat.beq i A with _|_
  ·have hne:i≠A:=λe=>by subst e;simp at hb
   rw[di,Yf];rw[<-Yf];rw[Yf];refine(adI ?_ ?_ ?_ ?_ ?_ ?_ ?_ ?_);all_goals exact h.o _ qO
  ·have:=dH hb;subst this;exact adI (h.o _ qO) (h.o _ qO) (h.o _ qO) h.h3 h.h4 h.h5 h.h6 h.h7
theorem amm{k A e a1 a2 a3 a4:Nat}{τ:Nat->Nat}{C:aF}(h:Rw A τ e a1 a2 a3 a4):gK k C=ig τ (gK k C):=by
 have e0:Cb k C=λi=>sV τ (Cb k C i):=by
  funext i;rcases i with _|_|_|i
  ·exact gz (λj=>V.row j k) (h.o 1 qO).symm
  ·exact gz (λj=>V.ptr j 0) (h.o 2 qO).symm
  ·exact gz (λj=>V.row j C.calls.length) (h.o 4 qO).symm
  ·rfl
 have e1:vF C.ax=λi=>sV τ (vF C.ax i):=by
  funext i;rcases i with _|_|_|i
  ·exact gz (λj=>V.vw j (C.ax.row.length+C.ax.bU) 0 C.ax.row.length) (h.o 3 qO).symm
  all_goals rfl
 have e2:ry k=vV τ (ry k):=by
  show aG.row 76 1 k (λj _=>.ptr (8*j+24) 0)=aG.row 76 1 k (λj _=>.ptr (τ (8*j+24)) 0);congr 1;funext j _;rw[h.o (8*j+24) qO]
 show [(0,.blk 4 (Cb k C)),(1,ry k),(2,.blk 4 (vF C.ax)),(3,nS (iK C.ax)),(4,dw 69 16 uf .z C.calls)]
  = [(τ 0,.blk 4 (λi=>sV τ (Cb k C i))),(τ 1,vV τ (ry k)),(τ 2,.blk 4 (λi=>sV τ (vF C.ax i))),(τ 3,nS (iK C.ax)),(τ 4,dw 69 16 uf .z C.calls)]
 rw[<-e0,<-e1,<-e2,h.o 0 qO,h.o 1 qO,h.o 2 qO,h.o 3 qO,h.o 4 qO]
theorem afc{k A e a1 a2 a3 a4:Nat}{τ:Nat->Nat}{C:aF}(h:Rw A τ e a1 a2 a3 a4):gK k C++y9 A e a1 a2 a3 a4 C 0 k=ig τ (CL k C):=by
 show _=ig τ (gK k C++lm C 0 k);rw[Wj,<-adJ h k 0,<-amm h]
def GS(k:Nat)(C:aF)(σ:Nat->Nat)(N:Nat):ST:=⟨ig σ (CL k C),N⟩
structure qU (k:Nat) (σ:Nat->Nat) (N:Nat):Prop where
 s:Sg (8*k+24) σ N
 z:σ 0=0
def NF(k A i:Nat):Nat:=if 8*A+28<=i/\i<8*A+32 then i-(8*A+28)+(8*k+26) else i
def NH(k A i:Nat):Nat:=if 8*A+27<=i/\i<8*A+32 then i-(8*A+27)+(8*k+27) else i
theorem rwT(k A:Nat):Rw A (NF k A) (8*A+27) (8*k+26) (8*k+27) (8*k+28) (8*k+29):=by
 refine⟨λi hi=>if_neg qO,if_neg qO,?_,?_,?_,?_⟩;all_goals (unfold NF;rw[if_pos qO];omega)
theorem rwS(k A:Nat):Rw A (NH k A) (8*k+27) (8*k+28) (8*k+29) (8*k+30) (8*k+31):=by
 refine⟨λi hi=>if_neg qO,?_,?_,?_,?_,?_⟩;all_goals (unfold NH;rw[if_pos qO];omega)
theorem sgT(k A:Nat):qU k (NF k A) (8*k+30):=by
 refine⟨⟨λi j hi hj e=>?_,λi hi=>?_⟩,if_neg qO⟩
 ·unfold NF at e;by_cases h1:8*A+28<=i/\i<8*A+32 <;> by_cases h2:8*A+28<=j/\j<8*A+32
  ·rw[if_pos h1,if_pos h2]at e;omega
  ·rw[if_pos h1,if_neg h2]at e;omega
  ·rw[if_neg h1,if_pos h2]at e;omega
  ·rw[if_neg h1,if_neg h2]at e;exact e
 ·unfold NF;by_cases h1:8*A+28<=i/\i<8*A+32
  ·rw[if_pos h1];omega
  ·rw[if_neg h1];omega
theorem sgS(k A:Nat):qU k (NH k A) (8*k+32):=by
 refine⟨⟨λi j hi hj e=>?_,λi hi=>?_⟩,if_neg qO⟩
 ·unfold NH at e;by_cases h1:8*A+27<=i/\i<8*A+32 <;> by_cases h2:8*A+27<=j/\j<8*A+32
  ·rw[if_pos h1,if_pos h2]at e;omega
  ·rw[if_pos h1,if_neg h2]at e;omega
  ·rw[if_neg h1,if_pos h2]at e;omega
  ·rw[if_neg h1,if_neg h2]at e;exact e
 ·unfold NH;by_cases h1:8*A+27<=i/\i<8*A+32
  ·rw[if_pos h1];omega
  ·rw[if_neg h1];omega
theorem TJ{k N:Nat}(h:8*k+24<=N):qU k (λi=>i) N:=⟨⟨λ_ _ _ _ e=>e,λi hi=>by show i<N;omega⟩,rfl⟩
theorem afR(k:Nat)(C:aF):gK k C++Az k C=ig (λi=>i) (CL k C):=by
 have key:∀ l:List (Nat×aG),ig (λi=>i) l=l:=by
  intro l;induction l with
  |nil=>rfl
  |cons p r ih=>
   show(p.1,lQ (λk=>some k) p.2)::ig (λi=>i) r=p::r;rw[ih];obtain⟨i,o⟩:=p;congr 2;cases o with
   |dead=>rfl
   |blk n g=>exact gz (aG.blk n) (funext λk=>PG _)
   |row E s n g=>exact gz (aG.row E s n) (funext λj=>funext λk=>PG _)
   |map es=>
    show aG.map (es.map λp=>(p.1,dO (λk=>some k) p.2))=_;exact gz aG.map ((List.map_congr_left (g:=id) λp _=>by rw[PG];rfl).trans (List.map_id _))
 exact(key _).symm
theorem KC.rn{k:Nat}{D:aF}{t:ST}(h:KC k D t):∃ τ,qU k τ t.nx/\8*k+24<=t.nx/\t=GS k D τ t.nx:=by
 rcases h with rfl|⟨A,hA,rfl⟩|⟨A,hA,rfl⟩
 ·exact⟨_,TJ (by show 8*k+24<=8*k+26;omega),by show 8*k+24<=8*k+26;omega,by show(⟨_,_⟩:ST)=⟨_,_⟩;rw[afR]⟩
 ·exact⟨_,sgT k A,by show 8*k+24<=8*k+30;omega,by show(⟨_,_⟩:ST)=⟨_,_⟩;rw[<-afc (rwT k A)];rfl⟩
 ·exact⟨_,sgS k A,by show 8*k+24<=8*k+32;omega,by show(⟨_,_⟩:ST)=⟨_,_⟩;rw[<-afc (rwS k A)];rfl⟩
theorem XD{σ:Nat->Nat}{n N:Nat}(h:∀ i,i<n->σ i<N):∀ {l:List (Nat×aG)},mJ n l->mJ N (ig σ l)
 |[],_=>True.intro
 |p::r,hc=>by
  have key:∀ {v:V},iO (λi=>i<n) v->iO (λi=>i<N) (sV σ v):=by
   intro v;induction v with
   |agg n g ih=>exact λhq k hk=>ih k (hq k hk)
   |fV n g ih=>exact λhq k hk=>ih k (hq k hk)
   |fn f nf n g ih=>exact λhq k hk=>ih k (hq k hk)
   |ku t w x ih=>exact λhq=>ih hq
   |ptr i o=>exact λhq=>h i hq
   |rp i a b c=>exact λhq=>h i hq
   |row i a=>exact λhq=>h i hq
   |vw i a b c=>exact λhq=>h i hq
   |mp i=>exact λhq=>h i hq
   |_=>exact λ_=>True.intro
  refine⟨⟨h _ hc.1.1,?_⟩,XD h hc.2⟩;have h2:=hc.1.2;obtain⟨i,o⟩:=p;cases o with
  |dead=>exact tv
  |blk n g=>exact λk hk=>key (h2 k hk)
  |row E s n g=>exact λj hj k hk=>key (h2 j hj k hk)
  |map es=>
   intro k v e;show iO _ v;have e:dU (es.map λp=>(p.1,sV σ p.2)) k=some v:=e;rw[Il]at e;rcases hm:dU es k with _|u
   ·rw[hm]at e;cases e
   ·rw[hm]at e;injection e with e
    subst e;exact key (h2 k u hm)
section
variable {k N:Nat} {σ:Nat->Nat} {C C1:aF}
theorem atU{f:Nat}{l:List V}{r:V}(hk:3<=k/\k<=5)(hs:qU k σ N)(h:ae f (.ptr 0 0::l) (CS k C) (λv t=>v=r/\t=CS k C1))(hl:∀(φ:Nat->Option Nat) (n:Nat),kS n φ l l)(hr:sV σ r=r)(hi:iO (λi=>i<8*k+24) r):ae f (.ptr 0 0::l) (GS k C σ N) (λv t=>v=r/\t=GS k C1 σ N):=by
 refine ae.rn h hs.s (Lj hk) (Du (bu _)) (λφ hφ=>⟨asR (by have:=hφ 0 qO;rwa [hs.z]at this) qO,hl φ _⟩) λv t ⟨e1,e2⟩=>?_
 subst e1 e2;exact⟨σ,bu _,λi hi=>aei hi,Du (bu _),hi,hr,by show(⟨ig σ (CL k C1),N+(8*k+24-(8*k+24))⟩:ST)=⟨_,N⟩;rw[Nat.sub_self,Nat.add_zero]⟩
def Em(k:Nat)(D:aF)(N:Nat)(t:ST):Prop:=∃ σ M,N<=M/\qU k σ M/\t=GS k D σ M
theorem am9{v U c s:Int}{fl:Nat->Int}{K:Nat}{e:bT}(hs:qU k σ N)(h:CG k v U fl c s K C)(hc:c<=100000000)(hK:K<=900)(hst:s<=1000000)(he:yD e)(hU:U<1048576):ae 8 [.ptr 0 0,nX e] (GS k C σ N) (λv t=>v=iV (iF k C e).2/\Em k (iF k C e).1 N t):=by
 have hk:=h.iY;refine ae.rn (anu h hc hK hst he hU) hs.s (Lj hk) (Du (bu _)) (λφ hφ=>⟨asR (by have:=hφ 0 qO;rwa [hs.z]at this) qO,VW.agg λk hk=>asV,tv⟩) λv t ⟨e1,e2⟩=>?_
 subst e1;obtain⟨τ,h1,h2,h3⟩:=e2.rn;have hx:=hs.s.ext h2;refine⟨_,h2,λi hi=>rfl,?_,tv,rfl,λi=>ext (8*k+24) σ N (τ i),N+(t.nx-(8*k+24)),Nat.le_add_right _ _,⟨⟨λi j hi hj e=>h1.s.inj i j hi hj (hx.inj _ _ (h1.s.lt i hi) (h1.s.lt j hj) e),λi hi=>hx.lt _ (h1.s.lt i hi)⟩,?_⟩,?_⟩
 ·have:=gz ST.st h3;rw[this];exact XD h1.s.lt (Du (bu _))
 ·show ext _ σ N (τ 0)=0;rw[h1.z,aei qO,hs.z]
 ·have:=gz ST.st h3;show(⟨ig _ t.st,_⟩:ST)=⟨ig _ (CL k _),_⟩;rw[this];show(⟨ig _ (ig τ (CL k _)),_⟩:ST)=_;rw[abp]
end
end
section
attribute [local irreducible] ae GG
theorem ath{f:Nat}{args args':List V}{st:ST}{K:V->ST->Prop}(ha:Nu st.nx args args')(h:ae f args' st K):ae f args st K:=by
 unfold ae at h ⊢;refine⟨h.1,λG w us hg hl hv=>h.2 G w us hg (hl.trans (PO ha).1) λk v u e1 e2=>?_⟩;obtain⟨a,h1,h2⟩:=(PO ha).2 k v e1;exact h2.2 _ _ _ _ (hv k a u h1 e2)
section
variable {k N:Nat} {σ:Nat->Nat} {C:aF}
theorem abS:∀ {l:List (Nat×aG)},kF (ig σ l)=(kF l).map σ
 |[]=>rfl
 |p::r=>gz (List.cons (σ p.1)) (abS (l:=r))
theorem abG:∀ {l:List Nat},ik l=true->l.Nodup
 |[],_=>List.nodup_nil
 |a::r,h=>by
  obtain⟨h1,h2⟩:=kJ (show((match bZ r a with|some _=>false|none=>true)&&ik r)=true from h);refine List.nodup_cons.2 ⟨?_,abG h2⟩;rcases e:bZ r a with _|j
  ·exact Lp e
  ·rw[e]at h1;cases h1
theorem ad3(hs:qU k σ N)(hk:3<=k/\k<=5):qB N (GS k C σ N) (GS k C σ N).st:=by
 have hc:mJ N (ig σ (CL k C)):=XD hs.s.lt (Du (bu _));have hd:ik (kF (ig σ (CL k C)))=true:=by
  rw[abS];refine U6 (List.pairwise_map.2 (List.Pairwise.imp_of_mem (λ{a b} ha hb hne e=>hne ?_) (abG (Lj hk))));have hlt:∀ a∈kF (CL k C),a<8*k+24:=λa ha=>by
   obtain⟨p,hp,rfl⟩:=List.mem_map.1 ha;exact yJ (Du (bu _)) p hp
  exact hs.s.inj a b (hlt a ha) (hlt b hb) e
 have key:∀ q:List (Nat×aG),(∀ p∈q,p∈ig σ (CL k C))->qB N ⟨ig σ (CL k C),N⟩ q:=by
  intro q;induction q with
  |nil=>exact λ_=>True.intro
  |cons p r ih=>
   intro hq;obtain⟨i,o⟩:=p;refine⟨?_,ih λp hp=>hq p (je _ hp)⟩;have hm:=hq _ jC;have hl:dM (ig σ (CL k C)) i=o:=Et hd _ hm;show i<N/\af N (dM (ig σ (CL k C)) i) o;rcases xC hc i with h0|⟨h0,h1⟩
   ·have ho:o = .dead:=hl.symm.trans h0;subst ho;exact⟨yJ hc _ hm,by rw[hl];exact tv⟩
   ·rw[hl]at h1 ⊢;exact⟨h0,as2 h1⟩
 exact key _ λ_ h=>h
theorem qU.z0(hs:qU k σ N):0<N:=by have:=hs.s.lt 0 qO;rw[hs.z]at this;exact this
theorem as6{n0 nt:Nat}{sl sl2:List (Nat×V)}(hs:qU k σ N)(hk:3<=k/\k<=5)(hn:n0<=N)(h:TG N ⟨nt,sl,GS k C σ N⟩ sl2):aV n0 ⟨nt,sl,GS k C σ N⟩ ⟨nt,sl2,GS k C σ N⟩:=⟨rfl,hn,bu _,h,ad3 hs hk⟩
theorem auc{t0:ST}{X:Cx t0}{v v':V}{K:V->ST->Prop}(hs:qU k σ N)(hk:3<=k/\k<=5)(hn:t0.nx<=N)(hv:VW N v v')(h:K v' (GS k C σ N)):Fin X v (GS k C σ N) K:=Fin.done v' _ hn (bu _) (ad3 hs hk) hv h
theorem Nj{N:Nat}{g:Nat->V}{kind a b:Int}(h0:g 0=iV kind)(h1:g 1=iV a)(h2:g 2=iV b)(h3:g 3=iV 0)(h4:g 4=iV 0)(h5:g 5=iV 0)(h6:g 6=iV 0)(h7:g 7=iV 0)(h8:g 8=iV 0)(h9:g 9 = .dE)(h10:g 10=iE 35 10):VW N (.agg 11 g) (nX (qQ kind a b)):=VW.agg λk hk=>by
 rcases k with _|_|_|_|_|_|_|_|_|_|_|k
 ·exact vq h0 trivial
 ·exact vq h1 trivial
 ·exact vq h2 trivial
 ·exact vq h3 trivial
 ·exact vq h4 trivial
 ·exact vq h5 trivial
 ·exact vq h6 trivial
 ·exact vq h7 trivial
 ·exact vq h8 trivial
 ·rw[h9];exact asQ rfl
 ·exact vq h10 trivial
 ·omega
theorem agW(hs:qU k σ N)(hk:3<=k/\k<=5):ae 49 [.ptr 0 0] (GS k C σ N) (λv t=>v=iV C.ax.row.length/\t=GS k C σ N):=atU hk hs (ag5 k (three hk) C) (λ_ _=>True.intro) rfl tv
theorem WM(hs:qU k σ N)(hk:3<=k/\k<=5):ae 48 [.ptr 0 0] (GS k C σ N) (λv t=>v=iV k/\t=GS k C σ N):=atU hk hs (anA k (three hk) C) (λ_ _=>True.intro) rfl tv
theorem Mc{a n:Nat}(h:dZ k a n C){i:Nat}(hi:i<k):ae 14 [.ptr 0 0,iV i] (CS k C) (λv t=>v=BR (mX (C.at i))/\t=CS k C):=by
 obtain⟨T,hT,v,fl,g⟩:=h;have hk:=g.iY;obtain⟨L,t,g2⟩:=g.nd i hi;refine anv k _ (QO hk) C (lm C 0 k) (atz hk) i hi qO (mX (C.at i)) ?_ (aks (Tag.of hk hi) C g2.g.fit g2.g.log.CE);have:=VQ k (three hk) C (i:Int);rw[show(bif decide (0<=(i:Int)) then decide ((i:Int)<(k:Int)) else false)=true by rw[bg qO,bg qO];rfl]at this;exact this
theorem WL{a n:Nat}(hs:qU k σ N)(h:dZ k a n C){i:Nat}(hi:i<k):ae 14 [.ptr 0 0,iV i] (GS k C σ N) (λv t=>v=BR (mX (C.at i))/\t=GS k C σ N):=
 atU h.iY hs (Mc h hi) (λ_ _=>⟨asV,tv⟩) rfl (λ_ _=>True.intro)
theorem Lr{a n:Nat}{e:bT}(hs:qU k σ N)(h:dZ k a n C)(ha:a<=900)(hn:n<=1000000)(he:yD e):ae 8 [.ptr 0 0,nX e] (GS k C σ N) (λv t=>v=iV (iF k C e).2/\Em k (iF k C e).1 N t):=by
 obtain⟨T,hT,v,fl,g⟩:=h;exact am9 hs g qO ha qO he qO
end
theorem WR{x y:Prop}[Decidable x][Decidable y](h:cond (decide x) (decide y) false=true):x/\y:=by
 rcases e:decide x with _|_ <;> rw[e]at h
 ·cases h
 ·exact⟨aS e,aS h⟩
theorem ag1{k i:Nat}{C D:aF}(h:cond (decide ((i:Int)<4000)) (decide ((0:Int)<(C.ax.row.length:Int))) false=true)(e:qj k (4000-i) C=qj k 4000 D):qj k (4000-(i+1)) (iF k C (qQ 3 0 0)).1=qj k 4000 D:=by
 obtain⟨h1,h2⟩:=WR h;rw[<-e,show 4000-i=4000-(i+1)+1 by omega];show _=bif decide ((0:Int)<(C.ax.row.length:Int)) then _ else C
 rw[bg h2];rfl
theorem aid{k i:Nat}{C D:aF}(h:cond (decide ((i:Int)<4000)) (decide ((0:Int)<(C.ax.row.length:Int))) false=false)(e:qj k (4000-i) C=qj k 4000 D):C=qj k 4000 D:=by
 rw[<-e];rcases hm:4000-i with _|m
 ·rfl
 ·have h1:(i:Int)<4000:=qO;rw[bg h1]at h;show C=bif decide ((0:Int)<(C.ax.row.length:Int)) then _ else C
  rw[show decide ((0:Int)<(C.ax.row.length:Int))=false from h];rfl
theorem Qb{k N:Nat}{σ:Nat->Nat}{C:aF}{a n:Nat}(hs:qU k σ N)(h:dZ k a n C)(ha:a<=900)(hn:n+4001<=1000000):ae 18 [.ptr 0 0] (GS k C σ N) (λv t=>v = .top/\Em k (qj k 4000 C) N t):=by
  have hk:=h.iY;refine asz Tryz.func18 λX=>?_
  (repeat' (first|((with_reducible refine dI ?_);first|refine atA (λi (p:aF×(Nat->Nat)×Nat)=>⟨17,[(0,.ptr 0 0),(3,iV i)],GS k p.1 p.2.1 p.2.2⟩) (λi p=>qU k p.2.1 p.2.2/\N<=p.2.2/\dZ k a (n+i) p.1/\qj k (4000-i) p.1=qj k 4000 C) 4000 ⟨C,σ,N⟩ ?_ ?_ (λi p hi hp=>?_)|refine oz ?_)|((conv=>whnf);first|(with_reducible refine dI ?_)|refine aah ?_|refine aU _ (ed (λht=>agW hp.1 hk) ?_)|(refine ath (args':=[.ptr 0 0,nX (qQ 3 0 0)]) ⟨VW.refl hp.1.z0,Nj rfl rfl rfl rfl rfl rfl rfl rfl rfl rfl rfl,tv⟩ (ae.mono (Lr hp.1 hp.2.2.1 ?_ ?_ (Af ?_)) ?_);rotate_right;rintro v t ⟨rfl,YY,N2,F6,hs2,rfl⟩)|refine an ?_ (aU ((iF k p.1 (qQ 3 0 0)).1,YY,N2) (ed ⟨hs2,?_,?_,?_⟩ (as6 hs2 hk ?_ ?_)))|refine auc hp.1 hk ?_ VW.top ⟨rfl,p.2.1,p.2.2,hp.2.1,hp.1,?_⟩|refine ai.mk (λh=>?_) (λh=>?_)|refine ag.mk (by decide) ?_|refine ag.mk (λh=>h) ?_|refine ag.mk ?_ ?_)))<;>try exact aB
  all_goals first
    | exact⟨hs,bu _,‹dZ k a n C›,rfl⟩
    | exact as6 hs hk (bu _) ⟨vq rfl hs.z0,qV,tv⟩
    | exact ha
    | exact jV hp.2.1 F6
    | exact hp.2.1
    | exact hp.2.2.1.take 0 0
    | exact⟨vq rfl hs2.z0,qV,tv⟩
    | exact ag1 h hp.2.2.2
    | exact(by rw[aid h hp.2.2.2])
    | (simp only[dQ];omega)
    | (have h5:=WR h;omega)
    | omega
    | decide
theorem ab7{j k:Nat}(hk:3<=k/\k<=5):j % k<k:=Nat.mod_lt _ qO
theorem OA{j k:Nat}(h:decide ((j:Int)<2*(k:Int))=true):j<2*k:=by have:=aS h;omega
theorem Kt{j k:Nat}(h:decide ((j:Int)<(k:Int))=true):j<k:=by have:=aS h;omega
theorem ge2{j k:Nat}(h:decide ((j:Int)<2*(k:Int))=false):¬j<2*k:=by have:=bJ h;omega
theorem ge1{j k:Nat}(h:decide ((j:Int)<(k:Int))=false):¬j<k:=by have:=bJ h;omega
theorem nt{b:Bool}(h:(!b)=true):b=false:=by cases b <;> first|rfl|cases h
theorem nf{b:Bool}(h:(!b)=false):b=true:=by cases b <;> first|rfl|cases h
theorem apr{k:Nat}{b:Int}{i:Nat}{C:aF}(h:(mX (C.at i)).up=false):FT k b i C=(iF k C (qQ 9 i b)).1:=by unfold FT;rw[h];rfl
theorem apq{k:Nat}{b:Int}{i:Nat}{C:aF}(h:(mX (C.at i)).up=true):FT k b i C=C:=by unfold FT;rw[h];rfl
theorem aoI(j k:Nat):iV ((j:Int) % (k:Int))=iV ((j % k:Nat):Int):=by rw[Int.natCast_emod]
theorem m2{m:Nat}(hm:m<=2)(h:decide ((m:Int)<2)=false):m=2:=by have:=bJ h;omega
theorem ana{k N:Nat}{σ:Nat->Nat}{C:aF}{a n:Nat}{b:Int}(hs:qU k σ N)(h:dZ k a n C)(ha:a+40<=900)(hn:n+140000<=1000000)(hb : -9223372036854775808<=b):ae 17 [.ptr 0 0,iV b] (GS k C σ N) (λv t=>v=iV (BJ k b C).2/\Em k (BJ k b C).1 N t):=by
 have hk:=h.iY;have h0:=h;refine asz Tryz.func17 λX=>?_
 (repeat' (first|((with_reducible refine dI ?_);first|refine atA (c:=.seq (.region 2 _ _) _) (λi (p:aF×(Nat->Nat)×Nat)=>⟨63,[(0,.ptr 0 0),(1,iV b),(9,iV k),(10,iV i)],GS k p.1 p.2.1 p.2.2⟩) (λi p=>qU k p.2.1 p.2.2/\N<=p.2.2/\dZ k (a+i) (n+i) p.1/\BN k b (k-i) i p.1=BN k b k 0 C) k ⟨C,σ,N⟩ ?_ ?_ (λi p hi hp=>?_)|refine T.cut (x:=.region 11 _ _) ⟨63,[(0,.ptr 0 0),(7,iV (j % k:Nat)),(28,iV (2*(k:Int))),(29,iV j)],GS k p.1 p.2.1 p.2.2⟩ ?_ ?_|refine atA (c:=.seq (.region 16 _ _) _) (λm (q:aF×(Nat->Nat)×Nat)=>⟨63,[(0,.ptr 0 0),(7,iV (j % k:Nat)),(28,iV (2*(k:Int))),(29,iV j),(47,iV m)],GS k q.1 q.2.1 q.2.2⟩) (λm q=>qU k q.2.1 q.2.2/\N<=q.2.2/\dZ k (a+k+3*j+1+m) (n+k+4000+j*12003+4001+m*4001) q.1/\q.1=Q8 k (j % k) m (nJ k 1 (j % k) p.1)) 2 ⟨nJ k 1 (j % k) p.1,Bd,N5⟩ ?_ ?_ (λm q hm hq=>?_)|refine atA (c:=.seq (.region 9 _ _) _) (λj (p:aF×(Nat->Nat)×Nat)=>⟨63,[(0,.ptr 0 0),(28,iV (2*(k:Int))),(29,iV j)],GS k p.1 p.2.1 p.2.2⟩) (λj p=>qU k p.2.1 p.2.2/\N<=p.2.2/\dZ k (a+k+3*j) (n+k+4000+j*12003) p.1/\qp k (2*k-j) j p.1=BJ k b C) (2*k) ⟨qj k 4000 p.1,σ3,N3⟩ ?_ ?_ (λj p hi hp=>?_)|refine oz ?_)|((conv=>whnf);first|(with_reducible refine dI ?_)|refine aah ?_|refine ae.to (WM hs hk) ?_|refine ae.to (WM hs3 hk) ?_|refine ae.to (WM hp.1 hk) ?_|refine ae.to (WL hp.1 hp.2.2.1 (i:=i) ?_) ?_|(refine ath (args':=[.ptr 0 0,nX (qQ 9 i b)]) ⟨VW.refl (hp.1).z0,Nj rfl rfl rfl rfl rfl rfl rfl rfl rfl rfl rfl,tv⟩ (ae.mono (Lr hp.1 hp.2.2.1 ?_ ?_ (Af ?_)) ?_);rotate_right;rintro v t ⟨rfl,YY,N2,F6,hs2,rfl⟩)|refine an ?_ (aU ((iF k p.1 (qQ 9 i b)).1,YY,N2) (ed ⟨hs2,jV hp.2.1 F6,?_,?_⟩ (as6 hs2 hk ?_ ⟨vq rfl hs2.z0,qV,qV,qV,tv⟩)))|refine an ?_ (aU (p.1,p.2.1,p.2.2) (ed ⟨hp.1,hp.2.1,?_,?_⟩ (as6 (C:=p.1) hp.1 hk ?_ ⟨vq rfl hp.1.z0,qV,qV,qV,tv⟩)))|(refine ae.mono (Qb hp.1 hp.2.2.1 ?_ ?_) ?_;rotate_right;rintro v t ⟨rfl,σ3,N3,hN3,hs3,rfl⟩)|(refine ath (args':=[.ptr 0 0,nX (qQ 1 (j % k:Nat) 0)]) ⟨VW.refl (hp.1).z0,Nj rfl rfl rfl rfl rfl rfl rfl rfl rfl rfl rfl,tv⟩ (ae.mono (Lr hp.1 hp.2.2.1 ?_ ?_ (Af ?_)) ?_);rotate_right;rintro v t ⟨rfl,σ4,N4,TZ,hs4,rfl⟩)|(refine ae.mono (Qb hs4 (hp.2.2.1.step ?_ (Af (by decide))) ?_ ?_) ?_;rotate_right;rintro v t ⟨rfl,Bd,N5,TY,hs5,rfl⟩)|refine ae.to (WL hs5 (hp.2.2.1.Ih ?_ 1 (j % k)) (i:=j % k) (ab7 hk)) ?_|refine an ?_ (aU (nJ k 1 (j % k) p.1,Bd,N5) (ed ⟨hs5,jV hp.2.1 (jV TZ TY),?_,?_⟩ (as6 (C:=nJ k 1 (j % k) p.1) hs5 hk ?_ ⟨vq rfl hs5.z0,qV,qV,tv⟩)))|(refine ath (args':=[.ptr 0 0,nX (qQ 2 (j % k:Nat) 0)]) ⟨VW.refl (hq.1).z0,Nj rfl rfl rfl rfl rfl rfl rfl rfl rfl rfl rfl,tv⟩ (ae.mono (Lr hq.1 hq.2.2.1 ?_ ?_ (Af ?_)) ?_);rotate_right;rintro v t ⟨rfl,σ6,N6,hN6,hs6,rfl⟩)|(refine ae.mono (Qb hs6 (hq.2.2.1.step ?_ (Af (by decide))) ?_ ?_) ?_;rotate_right;rintro v t ⟨rfl,σ7,N7,hN7,hs7,rfl⟩)|refine an ?_ (aU (nJ k 2 (j % k) q.1,σ7,N7) (ed ⟨hs7,jV hq.2.1 (jV hN6 hN7),?_,?_⟩ (as6 (C:=nJ k 2 (j % k) q.1) hs7 hk ?_ ⟨vq rfl hs7.z0,qV,qV,qV,qV,tv⟩)))|refine ae.to (WL hq.1 hq.2.2.1 (i:=j % k) (ab7 hk)) ?_|refine an ?_ (aU (q.1,q.2.1,q.2.2) (ed ⟨hq.1,hq.2.1,?_,?_⟩ (as6 (C:=q.1) hq.1 hk ?_ ⟨vq rfl hq.1.z0,qV,qV,tv⟩)))|refine auc (C:=q.1) hq.1 hk ?_ (vq (gz iV ?_) tv) ⟨rfl,q.2.1,q.2.2,hq.2.1,hq.1,?_⟩|refine auc (C:=p.1) hp.1 hk ?_ (vq (gz iV ?_) tv) ⟨rfl,p.2.1,p.2.2,hp.2.1,hp.1,?_⟩|refine ai.mk (λh=>?_) (λh=>?_)|refine ag.mk (by decide) ?_|refine ag.mk ⟨?_,?_⟩ ?_)))<;>try exact aB
 all_goals first
  |exact⟨hs,bu _,h0,rfl⟩
  |exact as6 hs hk (bu _) ⟨vq rfl hs.z0,qV,qV,qV,tv⟩
  |exact as6 hs3 hk (jV hp.2.1 hN3) ⟨vq rfl hs3.z0,qV,qV,tv⟩
  |(show aV _ _ _;exact as6 (C:=p.1) hp.1 hk hp.2.1 ⟨vq rfl hp.1.z0,vq (aoI j k) tv,qV,qV,tv⟩)
  |exact as6 (C:=nJ k 1 (j % k) p.1) hs5 hk (jV hp.2.1 (jV TZ TY)) ⟨vq rfl hs5.z0,qV,qV,qV,qV,tv⟩
  |(with_reducible exact hb)
  |(simp only[dQ];omega)
  |(with_reducible exact Kt aj)
  |(with_reducible exact OA aj)
  |exact hp.2.2.1.step qO (Af hb)
  |exact hp.2.2.1.up qO qO
  |exact(hp.2.2.1.Ih qO 1 (j % k)).up qO qO
  |exact(gz (BN k b (k-(i+1)) (i+1)) (apr (nt aj)).symm).trans (aa5 (Kt aj) hp.2.2.2)
  |exact(gz (BN k b (k-(i+1)) (i+1)) (apq (nf aj)).symm).trans (aa5 (Kt aj) hp.2.2.2)
  |exact jV hp.2.1 F6
  |(show N<=_;with_reducible exact hp.2.1)
  |(show N<=_;with_reducible exact hq.2.1)
  |exact jV hp.2.1 (jV TZ TY)
  |exact jV hq.2.1 (jV hN6 hN7)
  |exact⟨hs3,jV hp.2.1 hN3,hp.2.2.1.drain.up qO qO,by have e:=ak8 (ge1 aj) hp.2.2.2;show qp k (2*k) 0 (qj k 4000 p.1)=_;rw[e];rfl⟩
  |exact⟨hs5,jV hp.2.1 (jV TZ TY),(hp.2.2.1.Ih qO 1 (j % k)).up qO qO,rfl⟩
  |exact(hq.2.2.1.Ih qO 2 (j % k)).up qO qO
  |exact hq.2.2.1.up qO qO
  |exact gz (nJ k 2 (j % k)) hq.2.2.2
  |exact aj0 (OA aj) hp.2.2.2 rfl (nt aj)
  |exact ajZ (OA aj) hp.2.2.2 rfl (nf aj) (by have e:=hq.2.2.2;rw[m2 hm aj]at e;exact e) aj
  |(have e:=ajY (E:=q.1) (OA aj) hp.2.2.2 rfl (nf aj) (by have e:=hq.2.2.2;rw[m2 hm aj]at e;exact e) aj;rw[e])
  |exact gz Prod.snd (ab8 (ge2 aj) hp.2.2.2).symm
  |exact(by rw[ab8 (ge2 aj) hp.2.2.2])
  |decide
  |omega
  |(simp only[dQ];omega)
  |(have h5:=Kt aj;omega)
  |(have h5:=OA aj;omega)
  |(have h5:=aS (aj:decide ((m:Int)<2)=true);omega)
  |(refine⟨?_,?_⟩ <;> fail)
end
section
attribute [local irreducible] ae
def KA(n:Nat)(R:List (Nat×aG))(t:ST):Prop:=∃ σ M,Sg n σ M/\σ 0=0/\t=⟨ig σ R,M⟩
theorem aty{X:Cx e0}{n M nt:Nat}{σ:Nat->Nat}{R:List (Nat×aG)}{sl sl2:List (Nat×V)}(hs:Sg n σ M)(hn:0<n)(hz:σ 0=0)(hR:uu n R)(h:∀ φ:Nat->Option Nat,φ 0=some 0->Ot n φ ⟨nt,sl,⟨ig σ R,M⟩⟩ sl2):Conv X ⟨nt,sl,⟨ig σ R,M⟩⟩ ⟨nt,sl2,⟨R,n⟩⟩:=
 Conv.Ec (KE.of hs hR.d hR.c λφ hφ=>h φ (by have:=hφ 0 hn;rwa [hz]at this))
def Np(l:List aI):D:=.sl l.length 8 (λj=>kY (l.getD j .z))
theorem aqv{N:Nat}{g:Nat->V}{c:aI}(h0:g 0=iV 6)(h1:g 1=iV 0)(h2:g 2=iV 0)(h3:∀ k,k<8->g (k+3) = .d (kY c k)):VW N (.agg 11 g) (nX ⟨6,0,0,c⟩):=VW.agg λk hk=>by
 rcases k with _|_|_|k
 ·exact vq h0 trivial
 ·exact vq h1 trivial
 ·exact vq h2 trivial
 ·exact vq (h3 k qO) tv
theorem Kr{i:Nat}(h:decide ((i:Int)<3)=true):i<3:=by have:=aS h;omega
theorem eq3{i:Nat}(hi:i<=3)(h:decide ((i:Int)<3)=false):i=3:=by have:=bJ h;omega
theorem amY{R:aF->List (Nat×aG)}{D:Nat->aF}{i:Nat}{sl:List (Nat×V)}(hR:∀ C,uu 48 (R C))(hi:i<=3)(h:decide ((i:Int)<3)=false)(h1:VW 48 (dG sl 1) (.ptr 0 0)):aV 0 ⟨86,sl,⟨R (D (3*i+1)),48⟩⟩ ⟨86,[(1,.ptr 0 0)],⟨R (D 10),48⟩⟩:=by
 obtain rfl:=eq3 hi h;exact⟨rfl,cu _,bu _,⟨h1,tv⟩,(hR (D 10)).ob 0 rfl rfl rfl⟩
theorem asb{a b c d e:Bool}(ha:a=true)(hb:b=true)(hc:c=true)(hd:d=true)(he:e=true):cond (cond (cond (cond a b false) c false) d false) e false=true:=by subst ha hb hc hd he;rfl
theorem alK(R:aF->List (Nat×aG))(hR:∀ C,uu 48 (R C))(D:Nat->aF)(hN:ae 16 [iV 3] e0 (λv t=>v=bQ [.ptr 0 0,iV 0]/\t=⟨R (D 0),48⟩))(hF:ae 17 [.ptr 0 0,iV 1] ⟨R (D 0),48⟩ (λv t=>v=iV 0/\KA 48 (R (D 1)) t))(hC:∀ i,i<3->ae 8 [.ptr 0 0,nX (FD i)] ⟨R (D (3*i+1)),48⟩ (λv t=>v=iV 0/\KA 48 (R (D (3*i+2))) t))(hB:∀ i,i<3->ae 8 [.ptr 0 0,nX (qQ 2 0 0)] ⟨R (D (3*i+2)),48⟩ (λv t=>v=iV 0/\KA 48 (R (D (3*i+3))) t))(hD:∀ i,i<3->ae 18 [.ptr 0 0] ⟨R (D (3*i+3)),48⟩ (λv t=>v = .top/\KA 48 (R (D (3*i+4))) t))(L:List kL)(hK:ae 19 [.ptr 0 0] ⟨R (D 10),48⟩ (λv t=>v = .d (ae5 L)/\t=⟨R (D 10),48⟩))(hL:L.length=3)(h2:(L.getD 2 .z).done=true)(h3:(L.getD 2 .z).vW.n=1)(x:Sit)(hS:ae 14 [.ptr 0 0,iV 0] ⟨R (D 10),48⟩ (λv t=>v=BR x/\t=⟨R (D 10),48⟩))(hx:x.st.ay.length=1)(CB:(x.st.ay.getD 0 .z).chunks.length=2):ae 5 [] e0 (λv t=>v = .b true/\t=e0):=by
  refine asz Tryz.func5 λX=>?_
  (repeat' (first|((with_reducible refine dI ?_);first|refine atC (id:=2) ?_|refine atC (id:=8) ?_|refine atC (id:=10) ?_|refine atC (id:=4) ?_|refine aue (λi=>⟨86,[(1,.ptr 0 0),(3,.d (Np DU)),(4,iV i)],⟨R (D (3*i+1)),48⟩⟩) 3 ?_ (λi hi=>?_)|refine T.le (c:=.seq (.region 11 _ _) _) ⟨86,[(1,.ptr 0 0)],⟨R (D 10),48⟩⟩ ?_ (T.seq ?_)|refine oz ?_)|((conv=>whnf);first|(with_reducible refine dI ?_)|refine qF ?_|refine ae.to hN ?_|refine ae.to hK ?_|refine ae.to hS ?_|(refine ae.mono (hF) ?_;rintro v t ⟨rfl,σ,M,hs,hz,rfl⟩)|refine atm (aty (nt:=86) (sl2:=[(1,.ptr 0 0),(17,.b false),(19,iV 0)]) hs qN hz (hR (D (1))) (λφ hφ=>⟨asR hφ qN,qV,qV,tv⟩)) ?_|(refine ath (args':=[.ptr 0 0,nX (FD i)]) ⟨VW.refl qN,?_,tv⟩ (ae.mono (hC i (Kr aj)) ?_);rotate_left;rintro v t ⟨rfl,σ,M,hs,hz,rfl⟩)|refine atm (aty (nt:=86) (sl2:=[(1,.ptr 0 0),(3,.d (Np DU)),(4,iV i),(39,iV 0)]) hs qN hz (hR (D (3*i+2))) (λφ hφ=>⟨asR hφ qN,qV,qV,qV,tv⟩)) ?_|(refine ath (args':=[.ptr 0 0,nX (qQ 2 0 0)]) ⟨VW.refl qN,?_,tv⟩ (ae.mono (hB i (Kr aj)) ?_);rotate_left;rintro v t ⟨rfl,σ,M,hs,hz,rfl⟩)|refine atm (aty (nt:=86) (sl2:=[(1,.ptr 0 0),(3,.d (Np DU)),(4,iV i),(41,.b false),(44,iV 0)]) hs qN hz (hR (D (3*i+3))) (λφ hφ=>⟨asR hφ qN,qV,qV,qV,qV,tv⟩)) ?_|(refine ae.mono (hD i (Kr aj)) ?_;rintro v t ⟨rfl,σ,M,hs,hz,rfl⟩)|refine atm (aty (nt:=86) (sl2:=[(1,.ptr 0 0),(3,.d (Np DU)),(4,iV i)]) hs qN hz (hR (D (3*i+4))) (λφ hφ=>⟨asR hφ qN,qV,qV,tv⟩)) ?_|(refine atm (ops:=#[_,_,_,_,_,_]) (rest:=[_,_]) (Conv.le (s2:=⟨86,[(1,.ptr 0 0),(22,jI (DU.getD 0 .z)),(23,jI (DU.getD 1 .z)),(25,jI (DU.getD 2 .z))],⟨R (D 1),48⟩⟩) ⟨rfl,cu _,nb rfl,⟨qW,VW.agg λk hk=>atd ?_,VW.agg λk hk=>atd ?_,VW.agg λk hk=>atd ?_,tv⟩,(hR (D 1)).ob 0 rfl rfl rfl⟩) (auu rfl rfl rfl ?_))|(refine atm (ops:=#[_,_,_,_,_,_]) (rest:=[]) (Conv.le (s2:=⟨86,[(1,.ptr 0 0),(3,.d (Np DU))],⟨R (D 1),48⟩⟩) ⟨rfl,cu _,nb rfl,⟨qW,VW.sl rfl (λj hj k hk=>?_),tv⟩,(hR (D 1)).ob 0 rfl rfl rfl⟩) (TO.nil ?_))|refine TO.nil ?_|refine auu rfl rfl rfl ?_|refine TO.run rfl rfl ?_|refine avd rfl rfl rfl rfl ?_|refine ai.n (λh=>?_)|refine an (Kr (i:=i) aj) ?_|refine ai.mk (λh=>?_) (λh=>?_)|refine ag.a ?_|refine Fin.tell (vq (gz V.b ?_) tv)|refine ag.mk ?_ ?_)))<;>try exact aB
  all_goals first
    | (have h9:=Kr (i:=i) aj;exact⟨by omega,by show(i:Int)<3;omega⟩)
    | (have h9:=Kr (i:=i) aj;simp only[dQ];omega)
    | (intro _;omega)
    | (refine dh.mk ?_;have hk:k<8:=hk;rcases k with _|_|_|_|_|_|_|_|k <;> first|exact qV|exact asQ rfl|exact VW.sl rfl (λj hj k hk=>by have hj:j<2:=hj;have hk:k<1:=hk;rcases j with _|_|j <;> rcases k with _|k <;> first|rfl|omega)|omega)
    | (have hj:j<3:=hj;have hk:k<8:=hk;rcases j with _|_|_|j <;> rcases k with _|_|_|_|_|_|_|_|k <;> first|exact rfl|omega)
    | exact⟨rfl,cu _,nb rfl,vw,(hR (D 1)).ob 0 rfl rfl rfl⟩
    | exact⟨rfl,cu _,nb rfl,vw,(hR (D (3*i+4))).ob 0 rfl rfl rfl⟩
    | exact amY hR hi aj qW
    | exact Nj rfl rfl rfl rfl rfl rfl rfl rfl rfl rfl rfl
    | exact aqv rfl rfl rfl (λk hk=>by rcases k with _|_|_|_|_|_|_|_|k <;> first|rfl|omega)
    | exact asb (bg qO) h2 (bg h3) (bg qO) (bg (show(((x.st.ay.getD 0 .z).chunks.length:Nat):Int)=2 by omega))
end
section
attribute [local irreducible] ae
def bT.z:bT:=⟨0,0,0,.z⟩
def xU(L:List bT):D:=.sl L.length 11 (λj=>Ap (L.getD j .z))
def ar9(e:bT):bT:={ e with c:={ e.c with chunks:=e.c.chunks.take 12 } }
def uK(e:bT):bT:={ e with c:={ e.c with chunks:=e.c.chunks.take 12,text:=e.c.text.take 40 } }
def jG(L:List bT):List bT:=(L.take 120).map uK
theorem aqM{N:Nat}{l:List Int}(h:decide ((12:Int)<(l.length:Int))=true):VW N (.d (.sl 12 1 (λj _=>iD (l.getD j 0)))) (.d (iH (l.take 12))):=by
 have h:=aS h;refine VW.sl (by rw[dP];omega) (λj hj k hk=>?_);rw[bC,bC,oh,if_pos hj]
theorem aqL{N:Nat}{l:List Int}(h:decide ((12:Int)<(l.length:Int))=false):VW N (.d (iH l)) (.d (iH (l.take 12))):=by
 have h:=bJ h;rw[lW qO];exact VW.refl tv
theorem apt{N:Nat}{l:List UInt8}:VW N (.str ((iU l).extract 0 40)) (.d (Ho (l.take 40))):=by
 refine vq ?_ trivial;show V.d (D.v (.string _))=V.d (D.v (.string _));congr 3;show _=(⟨(l.take 40).toArray⟩:ByteArray);apply ByteArray.ext;show((iU l).extract 0 40).data=_;rw[ByteArray.data_extract];show l.toArray.extract 0 40=_;simp
theorem aps{N:Nat}{l:List UInt8}(h:decide ((40:Int)<((iU l).size:Int))=false):VW N (.d (Ho l)) (.d (Ho (l.take 40))):=by
 have h:=bJ h;have e:(iU l).size=l.length:=rfl;rw[lW qO];exact VW.refl tv
theorem afZ{L:List bT}{i:Nat}(h:i<L.length):(L.take (i+1)).map uK=(L.take i).map uK++[uK (L.getD i .z)]:=by
 rw[lX .z h,List.map_append];rfl
theorem ZA{L:List bT}{i:Nat}(h:i<=L.length):((L.take i).map uK).length=i:=by
 rw[lJ,dP];omega
theorem aqw{x y:Prop}[Decidable x][Decidable y](h:cond (decide x) (decide y) false=true):x/\y:=WR h
theorem aoY{L:List bT}{i:Nat}(hi:i<=min L.length 120)(h:cond (decide ((i:Int)<(L.length:Int))) (decide ((i:Int)<120)) false=false):(L.take i).map uK=jG L:=by
 have e:i=min L.length 120:=by
  by_cases h1:(i:Int)<(L.length:Int)
  ·rw[bg h1]at h;have:=bJ h;omega
  ·omega
 unfold jG;by_cases h2:L.length<=120
 ·rw[lW qO,lW h2]
 ·rw[show i=120 by omega]
theorem aj7(L:List bT):ae 7 [.d (xU L)] e0 (λv t=>v = .d (xU (jG L))/\t=e0):=by
 refine asz Tryz.func7 λX=>?_
 (repeat' (first|((with_reducible refine dI ?_);first|refine T.cut (x:=.seq (.region 6 _ _) _) ⟨48,[(0,.d (xU L)),(3,.row 0 ((L.take i).map uK).length),(4,iV i),(5,.ptr 1 0)],⟨[(0,dw 35 11 Ap .z ((L.take i).map uK)),(1,.blk 11 (λk=>.d (Ap (ar9 (L.getD i .z)) k)))],2⟩⟩ ?_ ?_|refine T.cut (x:=.seq (.region 8 _ _) _) ⟨48,[(0,.d (xU L)),(3,.row 0 ((L.take i).map uK).length),(4,iV i),(5,.ptr 1 0)],⟨[(0,dw 35 11 Ap .z ((L.take i).map uK)),(1,.blk 11 (λk=>.d (Ap (uK (L.getD i .z)) k)))],2⟩⟩ ?_ ?_|refine oz ?_|refine asI (min L.length 120) (λi (a:Unit)=>⟨48,[(0,.d (xU L)),(3,.row 0 ((L.take i).map uK).length),(4,iV i)],⟨[(0,dw 35 11 Ap .z ((L.take i).map uK))],1⟩⟩) (λ_ _=>True) () ?_ True.intro (λi a hi hp=>?_))|((conv=>whnf);first|(with_reducible refine dI ?_)|refine aU () ⟨?_,tv,?_⟩|refine ai.mk (λh=>?_) (λh=>?_)|refine ag.a ?_|((rw[aoY aj aj]);refine Fin.dC (i:=0) (h:=λj=>Ap ((jG L).getD j .z)) (jB.of qN rfl fr) (asC qN qN (vq jR trivial) ?_))|refine ag.mk ?_ ?_)))<;>try exact aB
 all_goals (try(refine aV.mk rfl qN qN ?_ ?_ <;> repeat' (first|exact tv|refine an qW ?_|refine an qV ?_|refine an (vq (gz (V.row _) ?_) qN) ?_|refine an ⟨nb rfl,?_⟩ ?_|exact af.row rfl fv|refine asE rfl (λk hk=>asB ?_)|refine an ?_ ?_)))
 all_goals first|exact rfl|exact(λj hj=>au hj nz)|(have hk:k<11:=hk;rcases k with _|_|_|_|_|_|_|_|_|_|_|k <;> first|exact cm qV|exact cm (aqM aj)|exact cm (aqL aj)|exact cm apt|exact cm (aps aj)|omega)|(have h9:=(aqw (aj:cond (decide ((i:Int)<(L.length:Int))) (decide ((i:Int)<120)) false=true));have h8:=ZA (L:=L) (i:=i) (by omega);first|omega|exact⟨by decide,Int.le_of_lt (aS aj)⟩|(rw[h8,ZA (L:=L) (i:=i+1) (by omega)];done)|(rw[afZ (by omega)];(intro j hj k hk;(have hk:k<11:=hk;refine(oq rfl hj fr (λj hj=>?_));obtain rfl:j=0:=Nat.lt_one_iff.1 hj;rcases k with _|_|_|_|_|_|_|_|_|_|_|k;exact qV;exact qV;exact qV;exact qV;exact qV;exact qV;exact qV;exact qV;exact qV;exact qV;exact qV;omega))))
end
section
attribute [local irreducible] ae
section
variable {k N:Nat} {σ:Nat->Nat} {C:aF}
theorem YU(k:Nat)(C:aF):GS k C (λi=>i) (8*k+24)=CS k C:=gz (λl=>(⟨l,8*k+24⟩:ST)) (afR k C).symm
theorem Lu{a n:Nat}{e:bT}(h:dZ k a n C)(ha:a<=900)(hn:n<=1000000)(he:yD e):ae 8 [.ptr 0 0,nX e] (CS k C) (λv t=>v=iV (iF k C e).2/\Em k (iF k C e).1 (8*k+24) t):=by
 rw[<-YU];exact Lr (TJ (bu _)) h ha hn he
theorem aiS{a n:Nat}(h:dZ k a n C)(ha:a<=900)(hn:n+4001<=1000000):ae 18 [.ptr 0 0] (CS k C) (λv t=>v = .top/\Em k (qj k 4000 C) (8*k+24) t):=by
 rw[<-YU];exact Qb (TJ (bu _)) h ha hn
theorem alL{a n:Nat}{b:Int}(h:dZ k a n C)(ha:a+40<=900)(hn:n+140000<=1000000)(hb : -9223372036854775808<=b):ae 17 [.ptr 0 0,iV b] (CS k C) (λv t=>v=iV (BJ k b C).2/\Em k (BJ k b C).1 (8*k+24) t):=by
 rw[<-YU];exact ana (TJ (bu _)) h ha hn hb
end
end
section
theorem Em.r{k N:Nat}{D:aF}{t:ST}(h:Em k D N t):KA (8*k+24) (CL k D) t:=by
 obtain⟨σ,M,_,hs,rfl⟩:=h;exact⟨σ,M,hs.s,hs.z,rfl⟩
theorem akG{a n:Nat}{C:aF}(h:dZ 3 a n C)(ha:a<=1000):C.calls.length<=1000/\∀ x∈C.calls,x.c.chunks.length<=1000:=by
 obtain⟨T,hT,v,fl,g⟩:=h;exact⟨jV g.calls ha,λx hx=>(g.xx x hx).ch⟩
theorem ae2{i:Nat}(hi:i<3):yD (FD i):=by
 rcases i with _|_|_|i
 ·exact⟨by decide,⟨by decide,by decide⟩,by decide⟩
 ·exact⟨by decide,⟨by decide,by decide⟩,by decide⟩
 ·exact⟨by decide,⟨by decide,by decide⟩,by decide⟩
 ·omega
theorem alI(c:Nat->aF)(h0:c 0=rC 3)(hf:BJ 3 1 (c 0)=(c 1,0))(hc:∀ i,i<3->iF 3 (c (3*i+1)) (FD i)=(c (3*i+2),0))(hb:∀ i,i<3->iF 3 (c (3*i+2)) (qQ 2 0 0)=(c (3*i+3),0))(hd:∀ i,i<3->qj 3 4000 (c (3*i+3))=c (3*i+4))(hl:(c 10).calls.length=3)(h2:((c 10).calls.getD 2 .z).done=true)(h3:((c 10).calls.getD 2 .z).vW.n=1)(hx:(mX ((c 10).at 0)).st.ay.length=1)(CB:((mX ((c 10).at 0)).st.ay.getD 0 .z).chunks.length=2):aQ 5 [] (.b true):=by
 have k3:3<=3/\3<=5:=by decide
 have i0:dZ 3 0 0 (c 0):=by rw[h0];exact dZ.new k3
 have i1:dZ 3 21 80000 (c 1):=by
  have:=i0.fair (b:=1) qD qD;rw[hf]at this;exact this.up qD qD
 have ic:∀ i,i<3->dZ 3 (21+2*i) (80000+5000*i) (c (3*i+1))->dZ 3 (22+2*i) (80001+5000*i) (c (3*i+2)):=λi hi h=>by
  have:=h.step qO (ae2 hi);rw[hc i hi]at this;exact this.up qO qO
 have ib:∀ i,i<3->dZ 3 (22+2*i) (80001+5000*i) (c (3*i+2))->dZ 3 (23+2*i) (80002+5000*i) (c (3*i+3)):=λi hi h=>by
  have:=h.step qO (Af (kind:=2) (a:=0) (b:=0) qD);rw[hb i hi]at this;exact this.up qO qO
 have id:∀ i,i<3->dZ 3 (23+2*i) (80002+5000*i) (c (3*i+3))->dZ 3 (21+2*(i+1)) (80000+5000*(i+1)) (c (3*i+4)):=λi hi h=>by
  have:=h.drain (m:=4000);rw[hd i hi]at this;exact this.up qO qO
 have iv:∀ i,i<=3->dZ 3 (21+2*i) (80000+5000*i) (c (3*i+1)):=by
  intro i;induction i with
  |zero=>exact λ_=>i1
  |succ i ih=>exact λhi=>id i qO (ib i qO (ic i qO (ih qO)))
 have i10:dZ 3 27 95000 (c 10):=iv 3 qD;have co:=akG i10 qD;refine alK (CL 3) (λC=>atn (k:=3) k3) c ?_ ?_ ?_ ?_ ?_ (c 10).calls (akC (c 10) co.1 co.2) hl h2 h3 (mX ((c 10).at 0)) (Mc i10 (i:=0) qD) hx CB
 ·rw[h0];exact adD
 ·refine(alL (b:=1) i0 qD qD qD).mono λv t ⟨e1,e2⟩=>?_
  rw[hf]at e1 e2;exact⟨e1,e2.r⟩
 ·intro i hi;refine(Lu (iv i qO) qO qO (ae2 hi)).mono λv t ⟨e1,e2⟩=>?_
  rw[hc i hi]at e1 e2;exact⟨e1,e2.r⟩
 ·intro i hi;refine(Lu (ic i hi (iv i qO)) qO qO (Af qD)).mono λv t ⟨e1,e2⟩=>?_
  rw[hb i hi]at e1 e2;exact⟨e1,e2.r⟩
 ·intro i hi;refine(aiS (ib i hi (ic i hi (iv i qO))) qO qO).mono λv t ⟨e1,e2⟩=>?_
  rw[hd i hi]at e2;exact⟨e1,e2.r⟩
def shS:Nat->aF
 |0=>TI|1=>Ia|2=>H9|3=>J8|4=>FZ|5=>H8|6=>J7|7=>FY|8=>H7|9=>J6|_=>DV
theorem Gy{p:aF×Int}{C:aF}(h1:p.1=C)(h2:p.2=0):p=(C,0):=by rw[<-h1,<-h2]
theorem p_f:BJ 3 1 TI=(Ia,0):=Gy (p:=Y1) rfl ari
theorem arw:iF 3 Ia (FD 0)=(H9,0):=Gy (p:=Ea 0 Ia) rfl apG
theorem arz:iF 3 H9 (qQ 2 0 0)=(J8,0):=Gy (p:=Eb H9) rfl apJ
theorem art:qj 3 4000 J8=FZ:=(rfl:J5 J8=FZ)
theorem arv:iF 3 FZ (FD 1)=(H8,0):=Gy (p:=Ea 1 FZ) rfl apF
theorem ary:iF 3 H8 (qQ 2 0 0)=(J7,0):=Gy (p:=Eb H8) rfl apI
theorem ars:qj 3 4000 J7=FY:=(rfl:J5 J7=FY)
theorem aru:iF 3 FY (FD 2)=(H7,0):=Gy (p:=Ea 2 FY) rfl apE
theorem arx:iF 3 H7 (qQ 2 0 0)=(J6,0):=Gy (p:=Eb H7) rfl apH
theorem arq:qj 3 4000 J6=DV:=(rfl:J5 J6=DV)
theorem p_0:TI=rC 3:=rfl
section
attribute [local irreducible] TI Ia H9 J8 FZ H8 J7 FY H7 J6 DV BJ iF qj
theorem alJ:aQ 5 [] (.b true):=by
 refine alI shS p_0 p_f ?_ ?_ ?_ arf arj ard arc arh
 ·intro i hi;rcases i with _|_|_|i
  ·exact arw
  ·exact arv
  ·exact aru
  ·omega
 ·intro i hi;rcases i with _|_|_|i
  ·exact arz
  ·exact ary
  ·exact arx
  ·omega
 ·intro i hi;rcases i with _|_|_|i
  ·exact art
  ·exact ars
  ·exact arq
  ·omega
end
end
end Go.Proofs.YtnibdnahojjcgaaGreat
