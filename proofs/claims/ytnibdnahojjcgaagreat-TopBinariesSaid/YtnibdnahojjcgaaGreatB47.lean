/- A part of the proof. -/
import Derived.Test.YtnibdnahojjcgaaGreatB45
namespace Go.Proofs.YtnibdnahojjcgaaGreat
set_option maxRecDepth 100000
set_option maxHeartbeats 16000000
set_option linter.unusedVariables false
set_option linter.unusedSimpArgs false
open Go.RowKit
theorem Tag.of{k A:Nat}(h:3<=k/\k<=5)(hA:A<k):Tag k A:=apX h hA
def y9(A e a1 a2 a3 a4:Nat)(C:aF):Nat->Nat->List (Nat×aG)
 |_,0=>[]
 |i,m+1=>(bif Nat.beq i A then D8 (8*i+24) e a1 a2 a3 a4 (C.at i) else jA (8*i+24) (C.at i))++y9 A e a1 a2 a3 a4 C (i+1) m
def CLq(k A e a1 a2 a3 a4:Nat)(C:aF):List (Nat×aG):=[(0,.blk 4 (Cb k C)),(1,ry k),(2,.blk 4 (vF C.ax)),(3,nS (iK C.ax)),(4,dw 69 16 uf .z C.calls)]++y9 A e a1 a2 a3 a4 C 0 k
abbrev CXT(k A:Nat)(C:aF)(e:bT):ST:=⟨(8*k+25,wY e)::(8*k+24,wZ)::CLq k A (8*A+27) (8*k+26) (8*k+27) (8*k+28) (8*k+29) C,8*k+30⟩
abbrev CXS(k A:Nat)(C:aF)(e:bT):ST:=⟨(8*k+25,wY e)::(8*k+24,wZ)::CLq k A (8*k+27) (8*k+28) (8*k+29) (8*k+30) (8*k+31) C,8*k+32⟩
theorem auC{k A:Nat}(sW:Tag k A){f:Nat}{us uj:List V}{r:V}{C C':aF}{n':az}{e:bT}(hC:C'=⟨λj=>bif Nat.beq j A then n' else C.nd j,C'.ax,C'.calls,C'.steps⟩)(h:∀ p,ae f uj (SX k A p C (C.at A) e) (λv t=>v=r/\t=KD k A p C' n' e))(ha:∀ φ:Nat->Option Nat,φ 0=some 0->φ (8*A+24)=some 5->φ (8*k+24)=some 13->φ (8*k+25)=some 14->kS 15 φ us uj)(hr:∀(φ:Nat->Option Nat) (N:Nat),VW N (dO φ r) r):ae f us (CX k C e) (λv t=>v=r/\t=CXT k A C' e):=by
 obtain⟨Oz,afq,calls',steps'⟩:=C';have hC:Oz=λj=>bif Nat.beq j A then n' else C.nd j:=gz aF.nd hC
 subst hC;exact atP sW h ha hr (show 8*k+26<=8*k+30 by omega) tg (λp=>TC)
theorem auD{k A:Nat}(sW:Tag k A){f:Nat}{us uj:List V}{r:V}{C C':aF}{n':az}{e:bT}(hC:C'=⟨λj=>bif Nat.beq j A then n' else C.nd j,C'.ax,C'.calls,C'.steps⟩)(h:∀ p,ae f uj (SX k A p C (C.at A) e) (λv t=>v=r/\t=SS1 k A p C' n' e))(ha:∀ φ:Nat->Option Nat,φ 0=some 0->φ (8*A+24)=some 5->φ (8*k+24)=some 13->φ (8*k+25)=some 14->kS 15 φ us uj)(hr:∀(φ:Nat->Option Nat) (N:Nat),VW N (dO φ r) r):ae f us (CX k C e) (λv t=>v=r/\t=CXS k A C' e):=by
 obtain⟨Oz,afq,calls',steps'⟩:=C';have hC:Oz=λj=>bif Nat.beq j A then n' else C.nd j:=gz aF.nd hC
 subst hC;exact atP sW h ha hr (show 8*k+26<=8*k+32 by omega) tg (λp=>TC)
def Fp(A:Nat):List Nat:=[8*A+24,8*A+25,8*A+26,8*A+27,8*A+28,8*A+29,8*A+30,8*A+31]
theorem auh{k A:Nat}(sW:Tag k A){f:Nat}{us uj:List V}{r:V}{C:aF}{n':az}(h:ae f uj (NS (C.at A)) (λv t=>v=r/\t=NS n'))(ha:∀ φ:Nat->Option Nat,φ (8*A+24)=some 0->kS 8 φ us uj)(hr:∀(φ:Nat->Option Nat) (N:Nat),VW N (dO φ r) r):ae f us (CS k C) (λv t=>v=r/\t=CS k (C.put A n')):=by
 have hn:ik (Fp A)=true:=tg;have hs:rY (Fp A) (8*k+24)=true:=tg;have h5:bZ (Fp A) (8*A+24)=some 0:=tg;have hO:(CS k (C.put A n')).nx<=(sG (CS k C) (Fp A) (NS n')).nx/\qB (CS k (C.put A n')).nx (sG (CS k C) (Fp A) (NS n')) (CS k (C.put A n')).st:=TC;refine atO (ae.frame (aC:=Fp A) (K:=λv t=>v=o8 (Fp A) (8*k+24) r/\t=sG (CS k C) (Fp A) (NS n')) h hn (I4 hs) rfl (ha _ h5) Ed (λv t h12=>by obtain⟨h1,h2⟩:=h12;subst h1 h2;exact⟨rfl,rfl⟩)) (bu _) (λv t h12=>?_);obtain⟨h1,h2⟩:=h12;subst h1 h2;exact⟨hO.1,hr _ _,hO.2⟩
theorem Vf(C:aF)(A:Nat):C.put A (C.at A)=C:=by
 have:(λj=>bif Nat.beq j A then C.nd A else C.nd j)=C.nd:=funext λj=>by
  rcases e:Nat.beq j A with _|_
  ·rfl
  ·rw[Nat.eq_of_beq_eq_true e];rfl
 show(⟨λj=>bif Nat.beq j A then C.nd A else C.nd j,C.ax,C.calls,C.steps⟩:aF)=C;rw[this]
theorem Yd{φ:Nat->Option Nat}{N b:Nat}{l:List V}(h:φ b=some 0)(hN:0<N)(hl:kS N φ l l):kS N φ (.ptr b 0::l) (.ptr 0 0::l):=⟨asR h hN,hl⟩
theorem aks{k A:Nat}(sW:Tag k A)(C:aF)(hs:EN (C.at A).st)(hl:CE (C.at A).ah.log):ae 43 [.ptr (8*A+24) 0] (CS k C) (λv s=>v=BR (mX (C.at A))/\s=CS k C):=by
 have:=auh sW (C:=C) (n':=C.at A) (us:=[.ptr (8*A+24) 0]) (amw (C.at A) hs hl) (λφ h=>Yd h qD True.intro) (λφ N=>VW.agg λk hk=>asV);rwa [Vf]at this
theorem ams{n:az}{x:aP}{m:Nat}{os:List (Option aI)}(H:Hf n x m os):ae 70 [.ptr 0 0,jy x] (NS n) (NR (Gs n x m os)):=by
 have hk:x.kind=1\/x.kind=2\/x.kind=3\/x.kind=4:=by have:=H.kd;omega
 rcases hk with hk|hk|hk|hk
 ·exact agq n x m os H hk
 ·exact agp n x m os H hk
 ·exact agn n x m os H hk
 ·exact agm n x m os H hk
theorem akq{k A:Nat}(sW:Tag k A)(C:aF)(x:aP)(H:Hf (C.at A) x k (vX (mZ (C.at A) x) x)):ae 70 [.ptr (8*A+24) 0,jy x] (CS k C) (λv s=>v=bQ [.d (gu (vO (C.at A) x k).2.1),iV (vO (C.at A) x k).2.2]/\s=CS k (C.put A (vO (C.at A) x k).1)):=
 auh sW (us:=[.ptr (8*A+24) 0,jy x]) (r:=bQ [.d (gu (vO (C.at A) x k).2.1),iV (vO (C.at A) x k).2.2]) (n':=(vO (C.at A) x k).1) (ams H) (λφ h=>Yd h qD ⟨VW.agg λk hk=>asV,True.intro⟩) (λφ N=>asG [.d (gu (vO (C.at A) x k).2.1),iV (vO (C.at A) x k).2.2] rfl (λk hk=>rfl) ⟨asV,asV,True.intro⟩)
structure JZ (st:ST) (n:az) (b e a1 a2 a3 a4:Nat):Prop where
 g0:st.get b = .blk 23 (Aa b e a1 a2 a3 a4 n)
 g1:st.get (b+1) = .blk 5 (yZ b n.aA)
 g2:st.get (b+2)=iy (n.aA.b++n.aA.bU)
 g3:st.get e=dw 52 2 jU .z n.fF
 g4:st.get a1=sK n.iL
 g5:st.get a2=fM n.fD
 g6:st.get a3=fM n.next
 g7:st.get a4=fM n.fJ
 nd:ik [b,b+1,b+2,e,a1,a2,a3,a4]=true
 lt:rY [b,b+1,b+2,e,a1,a2,a3,a4] st.nx=true
theorem auG{f:Nat}{us uj:List V}{r:V}{n:az}{st:ST}{b e a1 a2 a3 a4:Nat}(hg:JZ st n b e a1 a2 a3 a4)(h:ae f uj (NS n) (λv t=>v=r/\t=NS n))(ha:∀ φ:Nat->Option Nat,φ b=some 0->kS 8 φ us uj)(hr:∀ aC nx,o8 aC nx r=r):ae f us st (λv t=>v=r/\t=st):=by
 have i0:=oL hg.nd (k:=0) (i:=b) rfl;have i1:=oL hg.nd (k:=1) (i:=b+1) rfl;have i2:=oL hg.nd (k:=2) (i:=b+2) rfl;have i3:=oL hg.nd (k:=3) (i:=e) rfl;have i4:=oL hg.nd (k:=4) (i:=a1) rfl;have i5:=oL hg.nd (k:=5) (i:=a2) rfl;have i6:=oL hg.nd (k:=6) (i:=a3) rfl;have i7:=oL hg.nd (k:=7) (i:=a4) rfl;have hb:∀ j i,[b,b+1,b+2,e,a1,a2,a3,a4][j]?=some i->kV [b,b+1,b+2,e,a1,a2,a3,a4] st.nx j=i:=λj i hj=>zK hj
 refine ate [b,b+1,b+2,e,a1,a2,a3,a4] h hg.nd hg.lt rfl (ha _ i0) ?_ ?_ (by rw[uA];exact⟨hr _ _,rfl⟩)
 ·have e0:af 8 (lQ (bZ [b,b+1,b+2,e,a1,a2,a3,a4]) (st.get b)) (.blk 23 (yX n)):=by
   rw[hg.g0];refine⟨rfl,λk hk=>?_⟩;show VW 8 (dO _ (Aa b e a1 a2 a3 a4 n k)) (yX n k);rcases k with _|_|_|_|_|_|_|_|_|_|_|_|_|_|_|_|_|_|_|_|_|_|_|k
   case succ.succ.zero=>exact vq (show(match bZ [b,b+1,b+2,e,a1,a2,a3,a4] (b+1) with|some k=>V.ptr k 0|none=>.top)=V.ptr 1 0 by rw[i1]) (show 1<8 by decide)
   all_goals first
    |exact qV
    |exact vq (show(match bZ [b,b+1,b+2,e,a1,a2,a3,a4] e with|some k=>V.row k n.fF.length|none=>.top)=V.row 3 n.fF.length by rw[i3]) (show 3<8 by decide)
    |exact vq (show(match bZ [b,b+1,b+2,e,a1,a2,a3,a4] a1 with|some k=>V.row k n.iL.length|none=>.top)=V.row 4 n.iL.length by rw[i4]) (show 4<8 by decide)
    |exact vq (show(match bZ [b,b+1,b+2,e,a1,a2,a3,a4] a2 with|some k=>V.row k n.fD.length|none=>.top)=V.row 5 n.fD.length by rw[i5]) (show 5<8 by decide)
    |exact vq (show(match bZ [b,b+1,b+2,e,a1,a2,a3,a4] a3 with|some k=>V.row k n.next.length|none=>.top)=V.row 6 n.next.length by rw[i6]) (show 6<8 by decide)
    |exact vq (show(match bZ [b,b+1,b+2,e,a1,a2,a3,a4] a4 with|some k=>V.row k n.fJ.length|none=>.top)=V.row 7 n.fJ.length by rw[i7]) (show 7<8 by decide)
    |omega
  have e1:af 8 (lQ (bZ [b,b+1,b+2,e,a1,a2,a3,a4]) (st.get (b+1))) (.blk 5 (sO n.aA)):=by
   rw[hg.g1];refine⟨rfl,λk hk=>?_⟩;show VW 8 (dO _ (yZ b n.aA k)) (sO n.aA k);rcases k with _|_|_|_|_|k
   ·exact vq (show(match bZ [b,b+1,b+2,e,a1,a2,a3,a4] (b+2) with|some k=>V.vw k (n.aA.b++n.aA.bU).length 0 n.aA.b.length|none=>.top)=V.vw 2 (n.aA.b++n.aA.bU).length 0 n.aA.b.length by rw[i2]) (show 2<8 by decide)
   all_goals first|exact qV|omega
  exact⟨⟨b,rfl,e0⟩,⟨b+1,rfl,e1⟩,⟨b+2,rfl,by rw[hg.g2];exact af.row rfl fv⟩,⟨e,rfl,by rw[hg.g3];exact af.row rfl fv⟩,⟨a1,rfl,by rw[hg.g4];exact af.row rfl fv⟩,⟨a2,rfl,by rw[hg.g5];exact af.row rfl fv⟩,⟨a3,rfl,by rw[hg.g6];exact af.row rfl fv⟩,⟨a4,rfl,by rw[hg.g7];exact af.row rfl fv⟩,tv⟩
 ·have c0:lQ (λk=>some (kV [b,b+1,b+2,e,a1,a2,a3,a4] st.nx k)) (.blk 23 (yX n))=st.get b:=by
   rw[hg.g0];show aG.blk 23 (λk=>dO _ (yX n k))=_;congr 1;funext k;rcases k with _|_|_|_|_|_|_|_|_|_|_|_|_|_|_|_|_|_|_|_|_|_|k
   all_goals first
    |rfl
    |exact gz (λi=>V.ptr i 0) (hb 1 (b+1) rfl)
    |exact gz (λi=>V.row i n.fF.length) (hb 3 e rfl)
    |exact gz (λi=>V.row i n.iL.length) (hb 4 a1 rfl)
    |exact gz (λi=>V.row i n.fD.length) (hb 5 a2 rfl)
    |exact gz (λi=>V.row i n.next.length) (hb 6 a3 rfl)
    |exact gz (λi=>V.row i n.fJ.length) (hb 7 a4 rfl)
  have c1:lQ (λk=>some (kV [b,b+1,b+2,e,a1,a2,a3,a4] st.nx k)) (.blk 5 (sO n.aA))=st.get (b+1):=by
   rw[hg.g1];show aG.blk 5 (λk=>dO _ (sO n.aA k))=_;congr 1;funext k;rcases k with _|_|_|_|k
   all_goals first|rfl|exact gz (λi=>V.vw i (n.aA.b++n.aA.bU).length 0 n.aA.b.length) (hb 2 (b+2) rfl)
  exact⟨c0,c1,hg.g2.symm,hg.g3.symm,hg.g4.symm,hg.g5.symm,hg.g6.symm,hg.g7.symm,tv⟩
theorem QY(b:Nat)(n:az):FB b n=Aa b (b+3) (b+4) (b+5) (b+6) (b+7) n:=by
 funext k;rcases k with _|_|_|_|_|_|_|_|_|_|_|_|_|_|_|_|_|_|_|_|_|_|k <;> rfl
theorem al6{st:ST}{n:az}{b e a1 a2 a3 a4:Nat}(hg:JZ st n b e a1 a2 a3 a4)(m t:Int)(h1:n.fA<=n.ah.log.length)(h2:n.fA<=n.fF.length)(h3:n.fF.length<=1000):ae 51 [.ptr b 0,iV m,iV t] st (λv s=>v=bQ [iQ (uD n m t).1,iV (uD n m t).2]/\s=st):=
 auG hg (uj:=[.ptr 0 0,iV m,iV t]) (ajr n m t h1 h2 h3) (λφ h=>Yd h qD ⟨asV,asV,tv⟩) (λaC nx=>by
  show V.fV 2 (λk=>dO _ (Yk _ k))=V.fV 2 (Yk _);congr 1;funext k;rcases k with _|_|k <;> rfl)
end Go.Proofs.YtnibdnahojjcgaaGreat
