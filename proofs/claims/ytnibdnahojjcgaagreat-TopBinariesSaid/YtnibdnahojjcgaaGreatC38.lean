/- Lemmas. -/
import Derived.Test.YtnibdnahojjcgaaGreatC37
namespace Go.Proofs.YtnibdnahojjcgaaGreat
set_option linter.all false
set_option maxRecDepth 100000
set_option maxHeartbeats 0
open Go.RowKit Tryz
structure LJ (st:ST) (n:aA) (b e a1 a2 a3 a4:Nat):Prop where
 g0:st.get b = .Wp 23 (AU b e a1 a2 a3 a4 n)
 g1:st.get (b+1) = .Wp 5 (zN b n.aB)
 g2:st.get (b+2)=kL (n.aB.b++n.aB.dA)
 g3:st.get e=bQ 52 2 ji .z n.fV
 g4:st.get a1=tH n.ig
 g5:st.get a2=gJ n.eF
 g6:st.get a3=gJ n.next
 g7:st.get a4=gJ n.gz
 nd:iJ [b,b+1,b+2,e,a1,a2,a3,a4]=true
 lt:sQ [b,b+1,b+2,e,a1,a2,a3,a4] st.nx=true
def ajc{f:Nat}{us uD:List V}{r:V}{n:aA}{st:ST}{b e a1 a2 a3 a4:Nat}(hg:LJ st n b e a1 a2 a3 a4)(h:af f uD (NS n) (λv t=>v=r/\t=NS n))(ha:∀ φ:Nat->Option Nat,φ b=some 0->lI 8 φ us uD)(hr:∀ aI nx,pR aI nx r=r):af f us st (λv t=>v=r/\t=st):=by
 have i0:=nC hg.nd (k:=0) (i:=b) rfl;have i1:=nC hg.nd (k:=1) (i:=b+1) rfl;have i2:=nC hg.nd (k:=2) (i:=b+2) rfl;have i3:=nC hg.nd (k:=3) (i:=e) rfl;have i4:=nC hg.nd (k:=4) (i:=a1) rfl;have i5:=nC hg.nd (k:=5) (i:=a2) rfl;have i6:=nC hg.nd (k:=6) (i:=a3) rfl;have i7:=nC hg.nd (k:=7) (i:=a4) rfl;have hb:∀ j i,[b,b+1,b+2,e,a1,a2,a3,a4][j]?=some i->lV [b,b+1,b+2,e,a1,a2,a3,a4] st.nx j=i:=λj i hj=>Aj hj
 refine Fp [b,b+1,b+2,e,a1,a2,a3,a4] h hg.nd hg.lt rfl (ha _ i0) ?_ ?_ (by rw[uM];exact⟨hr _ _,rfl⟩)
 ·have e0:aW 8 (mW (bY [b,b+1,b+2,e,a1,a2,a3,a4]) (st.get b)) (.Wp 23 (zK n)):=by
   rw[hg.g0];refine⟨rfl,λk hk=>?_⟩;show VW 8 (dI _ (AU b e a1 a2 a3 a4 n k)) (zK n k);obtain _|_|_|_|_|_|_|_|_|_|_|_|_|_|_|_|_|_|_|_|_|_|_|k:=k
   case succ.succ.zero=>exact vq (show(match bY [b,b+1,b+2,e,a1,a2,a3,a4] (b+1) with|some k=>V.ptr k 0|none=>.top)=V.ptr 1 0 by rw[i1]) (show 1<8 by decide)
   all_goals first
    |exact qV
    |exact vq (show(match bY [b,b+1,b+2,e,a1,a2,a3,a4] e with|some k=>V.row k n.fV.length|none=>.top)=V.row 3 n.fV.length by rw[i3]) (show 3<8 by decide)
    |exact vq (show(match bY [b,b+1,b+2,e,a1,a2,a3,a4] a1 with|some k=>V.row k n.ig.length|none=>.top)=V.row 4 n.ig.length by rw[i4]) (show 4<8 by decide)
    |exact vq (show(match bY [b,b+1,b+2,e,a1,a2,a3,a4] a2 with|some k=>V.row k n.eF.length|none=>.top)=V.row 5 n.eF.length by rw[i5]) (show 5<8 by decide)
    |exact vq (show(match bY [b,b+1,b+2,e,a1,a2,a3,a4] a3 with|some k=>V.row k n.next.length|none=>.top)=V.row 6 n.next.length by rw[i6]) (show 6<8 by decide)
    |exact vq (show(match bY [b,b+1,b+2,e,a1,a2,a3,a4] a4 with|some k=>V.row k n.gz.length|none=>.top)=V.row 7 n.gz.length by rw[i7]) (show 7<8 by decide)
    |omega
  have e1:aW 8 (mW (bY [b,b+1,b+2,e,a1,a2,a3,a4]) (st.get (b+1))) (.Wp 5 (tN n.aB)):=by
   rw[hg.g1];refine⟨rfl,λk hk=>?_⟩;show VW 8 (dI _ (zN b n.aB k)) (tN n.aB k);obtain _|_|_|_|_|k:=k
   ·exact vq (show(match bY [b,b+1,b+2,e,a1,a2,a3,a4] (b+2) with|some k=>V.vw k (n.aB.b++n.aB.dA).length 0 n.aB.b.length|none=>.top)=V.vw 2 (n.aB.b++n.aB.dA).length 0 n.aB.b.length by rw[i2]) (show 2<8 by decide)
   all_goals first|exact qV|omega
  exact⟨⟨b,rfl,e0⟩,⟨b+1,rfl,e1⟩,⟨b+2,rfl,by rw[hg.g2];exact aW.row rfl fv⟩,⟨e,rfl,by rw[hg.g3];exact aW.row rfl fv⟩,⟨a1,rfl,by rw[hg.g4];exact aW.row rfl fv⟩,⟨a2,rfl,by rw[hg.g5];exact aW.row rfl fv⟩,⟨a3,rfl,by rw[hg.g6];exact aW.row rfl fv⟩,⟨a4,rfl,by rw[hg.g7];exact aW.row rfl fv⟩,tv⟩
 ·have c0:mW (λk=>some (lV [b,b+1,b+2,e,a1,a2,a3,a4] st.nx k)) (.Wp 23 (zK n))=st.get b:=by
   rw[hg.g0];show aK.Wp 23 (λk=>dI _ (zK n k))=_;congr 1;funext k;obtain _|_|_|_|_|_|_|_|_|_|_|_|_|_|_|_|_|_|_|_|_|_|k:=k
   all_goals first
    |rfl
    |exact ah (λi=>V.ptr i 0) (hb 1 (b+1) rfl)
    |exact ah (λi=>V.row i n.fV.length) (hb 3 e rfl)
    |exact ah (λi=>V.row i n.ig.length) (hb 4 a1 rfl)
    |exact ah (λi=>V.row i n.eF.length) (hb 5 a2 rfl)
    |exact ah (λi=>V.row i n.next.length) (hb 6 a3 rfl)
    |exact ah (λi=>V.row i n.gz.length) (hb 7 a4 rfl)
  have c1:mW (λk=>some (lV [b,b+1,b+2,e,a1,a2,a3,a4] st.nx k)) (.Wp 5 (tN n.aB))=st.get (b+1):=by
   rw[hg.g1];show aK.Wp 5 (λk=>dI _ (tN n.aB k))=_;congr 1;funext k;obtain _|_|_|_|k:=k
   all_goals first|rfl|exact ah (λi=>V.vw i (n.aB.b++n.aB.dA).length 0 n.aB.b.length) (hb 2 (b+2) rfl)
  exact⟨c0,c1,hg.g2.symm,hg.g3.symm,hg.g4.symm,hg.g5.symm,hg.g6.symm,hg.g7.symm,tv⟩
def Ul(b:Nat)(n:aA):GN b n=AU b (b+3) (b+4) (b+5) (b+6) (b+7) n:=by
 funext k;obtain _|_|_|_|_|_|_|_|_|_|_|_|_|_|_|_|_|_|_|_|_|_|k:=k <;> rfl
def apN{st:ST}{n:aA}{b e a1 a2 a3 a4:Nat}(hg:LJ st n b e a1 a2 a3 a4)(m t:Int)(h1:n.dn<=n.ae.log.length)(h2:n.dn<=n.fV.length)(h3:n.fV.length<=1000):af 51 [.ptr b 0,iV m,iV t] st (λv s=>v=bI [lJ (uP n m t).1,iV (uP n m t).2]/\s=st):=
 ajc hg (uD:=[.ptr 0 0,iV m,iV t]) (amO n m t h1 h2 h3) (λφ h=>aax h qD ⟨qC,qC,tv⟩) (λaI nx=>by
  show V.gQ 2 (λk=>dI _ (aaE _ k))=V.gQ 2 (aaE _);congr 1;funext k;obtain _|_|k:=k <;> rfl)
