/- A part of the proof. -/
import Derived.Test.YtnibdnahojjcgaaGreatB46
import Derived.Test.YtnibdnahojjcgaaGreatB47
namespace Go.Proofs.YtnibdnahojjcgaaGreat
set_option maxRecDepth 100000
set_option maxHeartbeats 16000000
set_option linter.unusedVariables false
set_option linter.unusedSimpArgs false
open Go.RowKit
section
attribute [local irreducible] ae
structure xh (k:Nat) (C:aF) (i:Nat) (l:List kL):Prop where
 len:l.length=C.calls.length
 xx:∀ x∈l,yt k x
 get:∀ j,j<l.length->l.getD j .z=if j<i then wL C (C.calls.getD j .z) else C.calls.getD j .z
theorem xh.here{k:Nat}{C:aF}{i:Nat}{l:List kL}(h:xh k C i l)(hi:i<C.calls.length):l.getD i .z=C.calls.getD i .z/\yt k (l.getD i .z):=by
 have hl:i<l.length:=by rw[h.len];exact hi
 exact⟨by rw[h.get i hl,if_neg (Nat.lt_irrefl i)],h.xx _ (kM hl)⟩
theorem xh.keep{k:Nat}{C:aF}{i:Nat}{l:List kL}(h:xh k C i l)(hi:i<C.calls.length)(he:wL C (l.getD i .z)=l.getD i .z):xh k C (i+1) l:=by
 refine⟨h.len,h.xx,λj hj=>?_⟩;have hh:=h.here hi;rw[h.get j hj];by_cases e:j=i
 ·subst e;rw[if_neg (Nat.lt_irrefl j),if_pos (Nat.lt_succ_self j),<-hh.1,he]
 ·by_cases h1:j<i
  ·rw[if_pos h1,if_pos qO]
  ·rw[if_neg h1,if_neg qO]
theorem xh.set{k:Nat}{C:aF}{i:Nat}{l:List kL}{y:kL}(h:xh k C i l)(hi:i<C.calls.length)(he:wL C (l.getD i .z)=y):xh k C (i+1) (l.set i y):=by
 have hh:=h.here hi;have hy:yt k y:=by rw[<-he];exact abj hh.2
 refine⟨by rw[oK];exact h.len,λx hx=>?_,λj hj=>?_⟩
 ·rcases List.mem_or_eq_of_mem_set hx with hx|rfl
  ·exact h.xx x hx
  ·exact hy
 ·rw[oK]at hj;rw[IX];by_cases e:i=j
  ·subst e;rw[if_pos ⟨rfl,hj⟩,if_pos (Nat.lt_succ_self i),<-hh.1,he]
  ·rw[if_neg (λh=>e h.1),h.get j hj];by_cases h1:j<i
   ·rw[if_pos h1,if_pos qO]
   ·rw[if_neg h1,if_neg qO]
theorem xh.zero{k:Nat}{C:aF}(h:∀ x∈C.calls,yt k x):xh k C 0 C.calls:=⟨rfl,h,λj hj=>by rw[if_neg (qZ j)]⟩
theorem xh.full{k:Nat}{C:aF}{l:List kL}(h:xh k C C.calls.length l):l=C.calls.map (wL C):=by
 refine List.ext_getElem (by rw[lJ];exact h.len) λj h1 h2=>?_
 have:=h.get j h1;rw[if_pos (by rw[<-h.len];exact h1),bC,dW h1,bC,dW (by rw[<-h.len];exact h1)]at this;rw[List.getElem_map];exact this
def XJ(C:aF)(x:kL):kL:={ x with done:=true,vW:=(uD (C.at x.node.toNat) x.number x.term).1,Yl:=C.steps }
theorem ahs{C:aF}{x:kL}(h:x.done=true):wL C x=x:=by unfold wL;rw[h];rfl
theorem alM{C:aF}{x:kL}(h:x.done=false)(h2:decide ((uD (C.at x.node.toNat) x.number x.term).2=0)=false):wL C x=x:=by unfold wL;rw[h,h2];rfl
theorem aiP{C:aF}{x:kL}(h:x.done=false)(h2:decide ((uD (C.at x.node.toNat) x.number x.term).2=0)=true):wL C x=XJ C x:=by unfold wL;rw[h,h2];rfl
theorem anD{C:aF}{l:List kL}{i:Nat}(hi:i<l.length){j k:Nat}{a b c:Nat->V}(hk:k<16)(ha:a 0 = .b true)(hb:∀ q,q<2->b q = .d (jU (uD (C.at (l.getD i .z).node.toNat) (l.getD i .z).number (l.getD i .z).term).1 q))(hc:c 0=iV C.steps) :
  lN (lN (lN (λj k=>V.d (uf (l.getD j .z) k)) i 13 1 a) i 14 2 b) i 4 1 c j k=V.d (uf ((l.set i (XJ C (l.getD i .z))).getD j .z) k):=by
 unfold lN;rw[IX];rcases e:Nat.beq j i with _|_
 ·have hne:¬(i=j/\j<l.length):=λh=>by obtain⟨rfl,_⟩:=h;simp at e
  rw[if_neg hne];rfl
 ·have:=Nat.eq_of_beq_eq_true e;subst this;rw[if_pos ⟨rfl,hi⟩];have b0:=hb 0 qD;have b1:=hb 1 qD;rcases k with _|_|_|_|_|_|_|_|_|_|_|_|_|_|_|_|k
  all_goals first|rfl|exact hc|exact ha|exact b0|exact b1|omega
theorem CG.vW{k:Nat}{v T c s:Int}{fl:Nat->Int}{K:Nat}{C:aF}(h:CG k v T fl c s K C){x:kL}(hx:yt k x):Tag k x.node.toNat/\(C.at x.node.toNat).fA<=(C.at x.node.toNat).ah.log.length/\(C.at x.node.toNat).fA<=(C.at x.node.toNat).fF.length/\(C.at x.node.toNat).fF.length<=1000:=by
 have hA:x.node.toNat<k:=by have:=hx.node;omega
 obtain⟨L,t,g⟩:=h.nd _ hA;have h1:=g.g.ap;have h2:=g.g.fF;have h3:=g.g.log.len;exact⟨Tag.of h.iY hA,by show(C.nd x.node.toNat).fA<=(C.nd x.node.toNat).ah.log.length;omega,by show(C.nd x.node.toNat).fA<=(C.nd x.node.toNat).fF.length;omega,by show(C.nd x.node.toNat).fF.length<=1000;omega⟩
def y7(k N:Nat)(C:aF)(R:List (Nat×aG)):Prop:=∀(D:aF) (x:kL),yt k x->D.nd=C.nd->ae 51 [.ptr (8*x.node.toNat+24) 0,iV x.number,iV x.term] ⟨gK k D++R,N⟩ (λv t=>v=bQ [iQ (uD (C.at x.node.toNat) x.number x.term).1,iV (uD (C.at x.node.toNat) x.number x.term).2]/\t=⟨gK k D++R,N⟩)
theorem y7.at{k N:Nat}{C:aF}{R:List (Nat×aG)}(h:y7 k N C R){l:List kL}{x:kL}(hx:yt k x):ae 51 [.ptr (8*x.node.toNat+24) 0,iV x.number,iV x.term] ⟨gK k { C with calls:=l }++R,N⟩ (λv t=>v=bQ [iQ (uD (C.at x.node.toNat) x.number x.term).1,iV (uD (C.at x.node.toNat) x.number x.term).2]/\t=⟨gK k { C with calls:=l }++R,N⟩):=h _ x hx rfl
theorem Yt{k N:Nat}{R:List (Nat×aG)}(hT:Tl k N R){x:kL}(hx:yt k x):VW N (dO (wQ N) (.ptr (8*x.node.toNat+24) 0)) (.ptr (8*x.node.toNat+24) 0):=by
 have h:8*x.node.toNat+24<N:=by have:=hx.node;have:=hT.le;omega
 exact asR (Qk h) h
abbrev Tl.cs{k N:Nat}{R:List (Nat×aG)}(h:Tl k N R)(D:aF):ST:=⟨gK k D++R,N⟩
theorem Yj.mk{p q:Prop}(h:p)(hq:q):q:=hq
theorem aif(k N:Nat)(hk:(k=3/\N=50)\/(k=3/\N=54)\/(k=3/\N=56)\/(k=4/\N=58)\/(k=4/\N=62)\/(k=4/\N=64)\/(k=5/\N=66)\/(k=5/\N=70)\/(k=5/\N=72))(C:aF)(R:List (Nat×aG))(hT:Tl k N R)(hrep:y7 k N C R){v U c s:Int}{fl:Nat->Int}{K:Nat}(H:CG k v U fl c s K C)(hK:K<=1000)(hs:s<=1000000):ae 21 [.ptr 0 0] ⟨gK k C++R,N⟩ (λv t=>v = .fV 0 (λ_=>.top)/\t=⟨gK k (Qs C)++R,N⟩):=by
 rcases hk with ⟨rfl,rfl⟩|⟨rfl,rfl⟩|⟨rfl,rfl⟩|⟨rfl,rfl⟩|⟨rfl,rfl⟩|⟨rfl,rfl⟩|⟨rfl,rfl⟩|⟨rfl,rfl⟩|⟨rfl,rfl⟩
 all_goals refine asz Tryz.func21 λX=>?_
 all_goals repeat' (first|((with_reducible refine dI ?_);first|refine oz ?_|refine asD 5 [22,23] [o2,o2,o2,o2,o2,o2,o2,o2,o2,o2,o2,o2,o2,o2,o2,o2,o2,o2,o2,o2,o2,(0,2,false,[]),o1,(1,1,true,[]),(2,2,false,[])] ?_|refine asD 7 [10,13,16] [o0,o2,(0,2,false,[]),o2,o0,o0,o0,o0,o0,o0,o1,o3,o3,(1,1,true,[]),(2,2,false,[]),(2,2,false,[]),(2,2,true,[])] ?_|refine asI C.calls.length (λi (a:List kL)=>⟨63,[(0,.ptr 0 0),(10,iV C.calls.length),(11,iV i)],hT.cs { C with calls:=a }⟩) (λi a=>xh _ C i a) C.calls ?_ (xh.zero H.xx) (λi a hi hp=>?_))|((conv=>whnf);first|(with_reducible refine dI ?_)|refine mc ?_ ?_|(refine Yj.mk (p:=(({ C with calls:=a }:aF).calls.getD ((i:Nat):Int).toNat .z).done=true) ?_ ?_;(with_reducible_and_instances assumption);refine aU a ⟨?_,hp.keep (by have h9:=aS (aj:decide ((i:Int)<(C.calls.length:Int))=true);omega:i<C.calls.length) (ahs aj),?_⟩)|(refine Yj.mk (p:=decide ((uD (C.at (a.getD i .z).node.toNat) (a.getD i .z).number (a.getD i .z).term).2=0)=false) ?_ ?_;(with_reducible_and_instances assumption);refine aU a ⟨?_,hp.keep (by have h9:=aS (aj:decide ((i:Int)<(C.calls.length:Int))=true);omega:i<C.calls.length) (alM aj aj),?_⟩)|(refine Yj.mk (p:=decide ((uD (C.at (a.getD i .z).node.toNat) (a.getD i .z).number (a.getD i .z).term).2=0)=true) ?_ ?_;(with_reducible_and_instances assumption);refine aU (a.set i (XJ C (a.getD i .z))) ⟨?_,hp.set (by have h9:=aS (aj:decide ((i:Int)<(C.calls.length:Int))=true);omega:i<C.calls.length) (aiP aj aj),?_⟩)|refine qF ?_|refine atS 0 hT hT (hrep.at (l:=a) (hp.here (by have h9:=aS (aj:decide ((i:Int)<(C.calls.length:Int))=true);omega:i<C.calls.length)).2) rfl rfl rfl rfl (Nc (λk hk=>True.intro) tv) tv ⟨Yt hT (hp.here (by have h9:=aS (aj:decide ((i:Int)<(C.calls.length:Int))=true);omega:i<C.calls.length)).2,VW.refl tv,VW.refl tv,tv⟩ ?_|refine ai.mk (λh=>?_) (λh=>?_)|refine ag.a ?_|refine asC qN qN (VW.fV λk hk=>au hk (qZ k)) ?_|refine ag.mk ?_ ?_))
 all_goals (try(refine dh.mk ?_;repeat' (first|exact tv|((conv=>whnf);first|exact rfl|refine atb 0 hT hT (hrep.at (l:=a) (hp.here (by have h9:=aS (aj:decide ((i:Int)<(C.calls.length:Int))=true);omega:i<C.calls.length)).2) rfl rfl rfl rfl (Nc (λk hk=>True.intro) tv) tv ⟨Yt hT (hp.here (by have h9:=aS (aj:decide ((i:Int)<(C.calls.length:Int))=true);omega:i<C.calls.length)).2,VW.refl tv,VW.refl tv,tv⟩ ?_|refine atb 1 hT hT (hrep.at (l:=a) (hp.here (by have h9:=aS (aj:decide ((i:Int)<(C.calls.length:Int))=true);omega:i<C.calls.length)).2) rfl rfl rfl rfl (Nc (λk hk=>True.intro) tv) (by refine⟨λk hk=>?_,tv⟩;have hk:k<2:=hk;rcases k with _|_|k <;> (exact tv)) ⟨Yt hT (hp.here (by have h9:=aS (aj:decide ((i:Int)<(C.calls.length:Int))=true);omega:i<C.calls.length)).2,VW.refl tv,VW.refl tv,tv⟩ ?_|refine an ?_ ?_|refine ag.mk ?_ ?_))))
 all_goals try exact aB
 all_goals (try(refine aV.mk rfl qN qN ?_ ?_ <;> repeat' (first|exact tv|exact kw 5 hT rfl rfl rfl|exact kw 6 hT rfl rfl rfl|refine an qW ?_|refine an qV ?_|refine an ⟨nb rfl,?_⟩ ?_|exact af.row rfl fv|exact jO rfl|refine asE rfl (λk hk=>asB ?_)|refine an ?_ ?_)))
 all_goals (try(repeat' (first|exact kw 5 hT rfl rfl rfl|refine an ⟨nb rfl,?_⟩ ?_|exact af.row rfl fv|exact jO rfl|refine asE rfl (λk hk=>asB ?_)|refine af.row ?_ (λj hj k hk=>asB ?_))))
 all_goals first|exact rfl|exact kk|(have h9:=aS (aj:decide ((i:Int)<(C.calls.length:Int))=true);have h8:=(hp.here (by omega)).2.node;have h7:=hp.len;have h6:=H.calls;first|exact(hp.here (by omega)).2.lt|exact h8.1|exact h8.2|omega|(simp only[dQ];omega)|(refine⟨rfl,?_,?_⟩ <;> (try dsimp only) <;> omega)|(refine⟨rfl,?_,nb rfl⟩;dsimp only;omega))|exact(oK).symm|(have hk:k<4:=hk;rcases k with _|_|_|_|k <;> first|exact cm qV|exact cm qW|exact cm (vq (gz (V.row 4) (oK).symm) qN))|(intro j hj k hk;refine vq ?_ trivial;refine anD (C:=C) (l:=a) (i:=i) ?_ hk ?_ ?_ ?_;all_goals first|exact rfl|(have h7:=hp.len;have h9:=aS (aj:decide ((i:Int)<(C.calls.length:Int))=true);omega)|(intro q hq;rcases q with _|_|q <;> first|exact rfl|omega))|(obtain rfl:i=C.calls.length:=(by have h9:=bJ (aj:decide ((i:Int)<(C.calls.length:Int))=false);omega);obtain rfl:=hp.full;first|exact rfl|exact cm qV|exact kk)
end
section
attribute [local irreducible] ae
def xM(f:Func):Code:=f.body.getD .skip
def OJ(k:Nat)(e:bT)(R:List (Nat×aG)):List (Nat×aG):=(8*k+25,wY e)::(8*k+24,wZ)::R
def jH(C:aF):aF:={ Qs C with steps:=C.steps+1 }
abbrev Tl.Y8{k M:Nat}{e:bT}{R:List (Nat×aG)}(h:Tl k M (OJ k e R))(D:aF):ST:=⟨gK k D++OJ k e R,M⟩
theorem XE(k M:Nat)(hk:(k=3/\M=50)\/(k=3/\M=54)\/(k=3/\M=56)\/(k=4/\M=58)\/(k=4/\M=62)\/(k=4/\M=64)\/(k=5/\M=66)\/(k=5/\M=70)\/(k=5/\M=72))(C:aF)(e:bT)(R:List (Nat×aG))(hT:Tl k M (OJ k e R))(hrep:y7 k M C (OJ k e R)){v U c s:Int}{fl:Nat->Int}{K:Nat}(H:CG k v U fl c s K C)(hK:K<=1000)(hs:s<=1000000):∀ X:Cx (hT.Y8 C),T X (xM Tryz.f20) (BU Tryz.f20 X (λv t=>v = .fV 0 (λ_=>.top)/\t=hT.Y8 (jH C))) ⟨Tryz.f20.ntmps,pO [.ptr (8*k+24) 0],hT.Y8 C⟩:=by
 rcases hk with ⟨rfl,rfl⟩|⟨rfl,rfl⟩|⟨rfl,rfl⟩|⟨rfl,rfl⟩|⟨rfl,rfl⟩|⟨rfl,rfl⟩|⟨rfl,rfl⟩|⟨rfl,rfl⟩|⟨rfl,rfl⟩
 all_goals refine λX=>?_
 all_goals repeat' (first|((with_reducible refine dI ?_);(refine oz ?_))|((conv=>whnf);first|(with_reducible refine dI ?_)|refine qF ?_|refine atb 0 hT hT (aif _ _ (by decide) C (OJ _ e R) hT hrep H hK hs) rfl rfl rfl rfl (λk hk=>au hk (qZ k)) tv ⟨qW,tv⟩ ?_|refine ag.a ?_|refine asC qN qN (VW.fV λk hk=>au hk (qZ k)) ?_|refine ag.mk ?_ ?_))
 all_goals try exact aB
 all_goals (try(repeat' (first|exact kw 5 hT rfl rfl rfl|refine an ⟨nb rfl,?_⟩ ?_|exact af.row rfl (λj hj k hk=>vq rfl tv)|exact jO rfl|refine asE rfl (λk hk=>asB ?_))))
 all_goals first|(have hk:k<4:=hk;rcases k with _|_|_|_|k <;> first|exact cm qV|exact cm qW|omega)|(have h9:=H.steps;simp only[dQ];show _<=C.steps+1/\C.steps+1<=_;omega)
end
end Go.Proofs.YtnibdnahojjcgaaGreat
