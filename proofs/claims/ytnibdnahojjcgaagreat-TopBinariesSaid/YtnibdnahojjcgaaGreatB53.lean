/- A part of the proof. -/
import Derived.Test.YtnibdnahojjcgaaGreatB50
import Derived.Test.YtnibdnahojjcgaaGreatB51
namespace Go.Proofs.YtnibdnahojjcgaaGreat
set_option maxRecDepth 100000
set_option maxHeartbeats 16000000
set_option linter.unusedVariables false
set_option linter.unusedSimpArgs false
open Go.RowKit
abbrev BX(k:Nat)(C:aF)(e:bT):ST:=⟨(8*k+24+1,wY e)::(8*k+24,wZ)::(gK k C++Az k C),8*k+24+2⟩
theorem atI{f:Nat}{args:List V}{r:V}{k:Nat}{C C1:aF}{e:bT}(hk:3<=k/\k<=5)(h:ae f args (CS k C) (λv t=>v=r/\t=CS k C1))(hr:iO (λi=>i<8*k+24) r)(ha:kS (8*k+24) (wQ (8*k+24)) args args):ae f args (BX k C e) (λv t=>v=r/\t=BX k C1 e):=by
 refine atw 2 h rfl ?_ ?_ ?_ (Lj hk) (Du (bu _)) (Du (bu _)) hr ?_ ha ⟨rfl,rfl⟩
 ·rcases three hk with rfl|rfl|rfl <;> rfl
 ·rcases three hk with rfl|rfl|rfl <;> rfl
 ·rcases three hk with rfl|rfl|rfl <;> rfl
 ·exact⟨λk hk=>True.intro,λq hq=>by show 0<8*k+24+2;omega,tv⟩
theorem QW{N i o:Nat}(h:i<N):VW N (dO (wQ N) (.ptr i o)) (.ptr i o):=asR (Qk h) h
theorem anI{k:Nat}{v U c s:Int}{fl:Nat->Int}{K:Nat}{C:aF}{e:bT}(h:CG k v U fl c s K C)(hc:c<=100000000)(i:Int):ae 35 [.ptr 0 0,iV i] (BX k C e) (λv t=>v=iV (uH k C i).2/\t=BX k (uH k C i).1 e):=
 atI h.iY (ant h hc i) tv ⟨QW qO,asV,tv⟩
theorem akJ{k:Nat}{C:aF}{e:bT}(hk:3<=k/\k<=5)(i:Int):ae 38 [.ptr 0 0,iV i] (BX k C e) (λv t=>v = .b (lY k i)/\t=BX k C e):=
 atI hk (VQ k (three hk) C i) tv ⟨QW qO,asV,tv⟩
theorem atu{f:Nat}{args args':List V}{r:V}{k:Nat}{C:aF}{p:Nt}(hk:3<=k/\k<=5)(h:ae f args' (PS C.ax) (λv t=>v=r/\t=PS p))(ha:kS 2 (bZ [2,3]) args args')(hr:o8 [2,3] (8*k+24) r=r)(hrr:VW (8*k+24) r r):ae f args (CS k C) (λv t=>v=r/\t=CS k { C with ax:=p }):=by
 have hT:=atz (C:=C) hk;have e2:lm ({ C with ax:=p }:aF) 0 k=lm C 0 k:=MO (C:=C) (D:={ C with ax:=p }) rfl;show ae f args ⟨gK k C++lm C 0 k,8*k+24⟩ (λv t=>v=r/\t=⟨gK k { C with ax:=p }++lm { C with ax:=p } 0 k,8*k+24⟩);rw[e2];generalize lm C 0 k=R at hT;refine atO (ae.frame (aC:=[2,3]) (K:=λv t=>v=r/\t=sG ⟨gK k C++R,8*k+24⟩ [2,3] (PS p)) h rfl (by intro i hi;show i<8*k+24;simp at hi;omega) rfl ha ?_ (λv t h12=>by obtain⟨h1,h2⟩:=h12;subst h1 h2;exact⟨hr,rfl⟩)) (bu _) (λv t h12=>?_)
 ·refine⟨⟨2,rfl,asE rfl λk hk=>?_⟩,⟨3,rfl,af.row rfl fv⟩,tv⟩;rcases k with _|_|_|_|k <;> first|exact qV|exact qW|omega
 ·obtain⟨h1,h2⟩:=h12;subst h1 h2;have l0:0<8*k+24:=qO;have l1:1<8*k+24:=qO;have l2:2<8*k+24:=qO;have l3:3<8*k+24:=qO;have l4:4<8*k+24:=qO;have l5:5<=8*k+24:=qO;refine⟨bu _,hrr,⟨l0,as2 (Qh (C:=C) l5)⟩,⟨l1,as2 (P6 (bu _))⟩,⟨l2,asE rfl λq hq=>?_⟩,⟨l3,af.row rfl fv⟩,⟨l4,af.row rfl fv⟩,kw 7 hT rfl rfl (by rcases three hk with rfl|rfl|rfl <;> rfl)⟩;rcases q with _|_|_|_|q <;> first|exact qV|exact vq rfl (show 3<8*k+24 by omega)|omega
section
section
variable {k:Nat} {v U c s:Int} {fl:Nat->Int} {K:Nat} {C:aF} {e:bT}
theorem Nv{i:Int}:kS 2 (bZ [2,3]) [.ptr 2 0,iV i] [.ptr 0 0,iV i]:=⟨vq rfl (show 0<2 by decide),asV,tv⟩
theorem anL(h:CG k v U fl c s K C)(hc:c<=100000000)(i:Int):ae 36 [.ptr 2 0,iV i] (BX k C e) (λv t=>v=iV (DJ C i).2/\t=BX k (DJ C i).1 e):=by
 have hk:=h.iY;refine atI hk ?_ True.intro ⟨QW qO,asV,tv⟩;unfold DJ;rcases hi:qC C.ax i with _|_
 ·exact atu (p:=C.ax) hk (ajm C.ax i hi) Nv rfl (VW.refl tv)
 ·have hb:=JA hi;obtain⟨j,rfl⟩:∃ j:Nat,i=(j:Int):=⟨i.toNat,by omega⟩;exact atu (p:=RN C.ax j) hk (amn C.ax j qO (h.ax qO)) Nv rfl (VW.refl tv)
theorem akI(h:CG k v U fl c s K C)(hc:c<=100000000)(i:Int):ae 37 [.ptr 2 0,iV i] (BX k C e) (λv t=>v=iV (Dn C i).2/\t=BX k (Dn C i).1 e):=by
 have hk:=h.iY;refine atI hk ?_ True.intro ⟨QW qO,asV,tv⟩;unfold Dn;rcases hi:qC C.ax i with _|_
 ·exact atu (p:=C.ax) hk (ahU C.ax i hi) Nv rfl (VW.refl tv)
 ·have hb:=JA hi;obtain⟨j,rfl⟩:∃ j:Nat,i=(j:Int):=⟨i.toNat,by omega⟩;rcases hf:decide (256<=(C.ax.row.length:Int)) with _|_
  ·have hf:=bJ hf;exact atu (p:=Bh C.ax j) hk (ajg C.ax j qO qO (h.ax qO)) Nv rfl (VW.refl tv)
  ·have hf:=aS hf;exact atu (p:=C.ax) hk (ahT C.ax j qO qO) Nv rfl (VW.refl tv)
theorem anO(h:CG k v U fl c s K C)(hc:c<=100000000){A:Nat}(hA:A<k):ae 25 [.ptr (8*A+24) 0,.ptr (8*k+24) 0] (BX k C e) (λv t=>v=iV (BL k C A).2/\t=BX k (BL k C A).1 e):=by
 obtain⟨L,t,g⟩:=h.nd A hA;have hb:=g.Tt (h.env hA);have r:qA k v U fl A (C.nd A) (mf (C.nd A) k).1:=⟨⟨L,t,g⟩,hb.2.1,hb.2.2⟩;have hs:=h.send qO r;have ht:=Tag.of h.iY hA;have hC:(BL k C A).1=⟨λj=>bif Nat.beq j A then C.nd A else C.nd j,(BL k C A).1.ax,(BL k C A).1.calls,(BL k C A).1.steps⟩:=by
  have:=Vf C A;have e1:(λj=>bif Nat.beq j A then C.nd A else C.nd j)=C.nd:=gz aF.nd this;rw[e1];rfl
 exact ato (n':=C.nd A) (by unfold Tag at ht;exact ht) hC (λp=>akF k A p C (C.at A) e k g.g.many (by have:=h.iY;omega) hb.1 hs) (λφ h0 h5 h13 vJ=>⟨asR h5 qD,asR h13 qD,tv⟩) (λφ N=>asV)
theorem anN(h:CG k v U fl c s K C)(hK:K<=1000)(he:yD e){A:Nat}(hA:A<k):ae 27 [.ptr (8*A+24) 0,.ptr (8*k+24) 0,.ptr (8*k+25) 0] (BX k C e) (λv t=>v=iV (vC C A e).2/\t=BX k (vC C A e).1 e):=by
 obtain⟨L,t,g⟩:=h.nd A hA;have hcl:=(g.call (h.env hA) he.sz).1;have ht:=Tag.of h.iY hA;exact ato (n':=(oD (C.at A) e.c).1) (by unfold Tag at ht;exact ht) (aio C A e) (λp=>akD k A p C e hcl (by have:=h.calls;omega) he.ch) (λφ h0 h5 h13 vJ=>⟨asR h5 qD,asR h13 qD,asR vJ qD,tv⟩) (λφ N=>asV)
theorem anM(h:CG k v U fl c s K C){A:Nat}(hA:A<k):ae 31 [.ptr (8*A+24) 0,.ptr (8*k+25) 0] (BX k C e) (λv t=>v=iV 0/\t=BX k (C.put A (G7 (C.at A) e.b)) e):=by
 have ht:=Tag.of h.iY hA;exact ato (n':=G7 (C.at A) e.b) (by unfold Tag at ht;exact ht) rfl (λp=>akB k A p C (C.at A) e) (λφ h0 h5 h13 vJ=>⟨asR h5 qD,asR vJ qD,tv⟩) (λφ N=>asV)
theorem akM(h:CG k v U fl c s K C)(he:yD e){A:Nat}(hA:A<k):ae 33 [.ptr (8*A+24) 0,.ptr (8*k+25) 0] (BX k C e) (λv t=>v=iV 0/\t=BX k (C.put A (GL (C.at A) e.b)) e):=by
 obtain⟨L,t,g⟩:=h.nd A hA;have ht:=Tag.of h.iY hA;exact ato (n':=GL (C.at A) e.b) (by unfold Tag at ht;exact ht) rfl (λp=>ain k A p C (C.at A) e g.g.dg.ok he.b) (λφ h0 h5 h13 vJ=>⟨asR h5 qD,asR vJ qD,tv⟩) (λφ N=>asV)
abbrev BXT(k A:Nat)(C:aF)(e:bT):ST:=⟨(8*k+24+1,wY e)::(8*k+24,wZ)::(gK k C++Cf k A C),8*k+30⟩
abbrev BXS(k A:Nat)(C:aF)(e:bT):ST:=⟨(8*k+24+1,wY e)::(8*k+24,wZ)::(gK k C++Ci k A C),8*k+32⟩
theorem aa8(h:CG k v U fl c s K C)(hc:c<=100000000)(hU:U<1048576){A:Nat}(hA:A<k):JY (C.at A)/\ES C.ax (zL (C.at A)).2.1:=by
 obtain⟨L,t,g⟩:=h.nd A hA;obtain⟨q1,q2⟩:=g.TB (h.env hA) hU h.yA;exact⟨q1,h.send qO q2⟩
theorem apy{n:az}(h:vk n=false):zL n=nP n:=by unfold zL;rw[h];rfl
theorem apx{n:az}(h:vk n=true):zL n=(fB n,xX (fB n),0):=by unfold zL;rw[h];rfl
theorem anH(h:CG k v U fl c s K C)(hc:c<=100000000)(hU:U<1048576){A:Nat}(hA:A<k)(hst:vk (C.at A)=false):ae 22 [.ptr (8*A+24) 0,.ptr (8*k+24) 0] (BX k C e) (λv t=>v=iV (yT C A).2/\t=BX k (yT C A).1 e):=by
 obtain⟨q1,q2⟩:=aa8 h hc hU hA;have ht:=Tag.of h.iY hA;unfold yT;rw[apy hst]at q2 ⊢;exact ato (n':=(nP (C.at A)).1) (by unfold Tag at ht;exact ht) rfl (λp=>akd k A p C (C.at A) e q1 hst q2) (λφ h0 h5 h13 vJ=>⟨asR h5 qD,asR h13 qD,tv⟩) (λφ N=>asV)
theorem anG(h:CG k v U fl c s K C)(hc:c<=100000000)(hU:U<1048576){A:Nat}(hA:A<k)(hst:vk (C.at A)=true):ae 22 [.ptr (8*A+24) 0,.ptr (8*k+24) 0] (BX k C e) (λv t=>v=iV (yT C A).2/\t=BXT k A (yT C A).1 e):=by
 obtain⟨q1,q2⟩:=aa8 h hc hU hA;have ht:=Tag.of h.iY hA;unfold yT;rw[apx hst]at q2 ⊢;exact auC (n':=fB (C.at A)) ht rfl (λp=>akc k A p C (C.at A) e q1 hst q2) (λφ h0 h5 h13 vJ=>⟨asR h5 qD,asR h13 qD,tv⟩) (λφ N=>asV)
theorem aiq(h:CG k v U fl c s K C){A:Nat}(hA:A<k)(hst:xI (C.at A) e.b=false):ae 29 [.ptr (8*A+24) 0,.ptr (8*k+25) 0] (BX k C e) (λv t=>v=iV (ve C A e.b).2/\t=BX k (ve C A e.b).1 e):=by
 obtain⟨L,t,g⟩:=h.nd A hA;have hS:=(g.start (h.env hA) h.yA e.b).1;have ht:=Tag.of h.iY hA;have e1:ve C A e.b=(C.put A (C.at A),Eu (C.at A) e.b):=by unfold ve;rw[hst,Vf];rfl
 rw[e1];exact ato (n':=C.at A) (by unfold Tag at ht;exact ht) rfl (λp=>ag4 k A p C (C.at A) e L t hS hst) (λφ h0 h5 h13 vJ=>⟨asR h5 qD,asR vJ qD,tv⟩) (λφ N=>asV)
theorem aip(h:CG k v U fl c s K C){A:Nat}(hA:A<k)(hst:xI (C.at A) e.b=true):ae 29 [.ptr (8*A+24) 0,.ptr (8*k+25) 0] (BX k C e) (λv t=>v=iV (ve C A e.b).2/\t=BXS k A (ve C A e.b).1 e):=by
 obtain⟨L,t,g⟩:=h.nd A hA;have hS:=(g.start (h.env hA) h.yA e.b).1;have ht:=Tag.of h.iY hA;have e1:ve C A e.b=(C.put A (xJ (C.at A) e.b).1,(xJ (C.at A) e.b).2):=by unfold ve;rw[hst];rfl
 rw[e1];exact auD (n':=(xJ (C.at A) e.b).1) ht rfl (λp=>ag3 k A p C (C.at A) e L t hS hst) (λφ h0 h5 h13 vJ=>⟨asR h5 qD,asR vJ qD,tv⟩) (λφ N=>asV)
end
end
end Go.Proofs.YtnibdnahojjcgaaGreat
