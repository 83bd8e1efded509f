/- A part of the proof. -/
import Derived.Test.YtnibdnahojjcgaaGreatB49
namespace Go.Proofs.YtnibdnahojjcgaaGreat
set_option maxRecDepth 100000
set_option maxHeartbeats 16000000
set_option linter.unusedVariables false
set_option linter.unusedSimpArgs false
open Go.RowKit
section
attribute [local irreducible] ae
theorem MO{C D:aF}(h:D.nd=C.nd):∀ {m i:Nat},lm D i m=lm C i m
 |0,_=>rfl
 |m+1,i=>by
  show jA (8*i+24) (D.nd i)++lm D (i+1) m=jA (8*i+24) (C.nd i)++lm C (i+1) m;rw[h,MO h]
theorem Yr{N j:Nat}(h:8*j+24<N):VW N (dO (wQ N) (.ptr (8*j+24) 0)) (.ptr (8*j+24) 0):=asR (Qk h) h
theorem akf(k N:Nat)(hk:(k=3/\N=48)\/(k=4/\N=56)\/(k=5/\N=64))(C:aF)(R:List (Nat×aG))(hT:Tl k N R)(i:Int)(hi:qC C.ax i=false):ae 35 [.ptr 0 0,iV i] (hT.cs C) (λv t=>v=iV 1/\t=hT.cs C):=by
 rcases hk with ⟨rfl,rfl⟩|⟨rfl,rfl⟩|⟨rfl,rfl⟩
 all_goals refine asz Tryz.func35 λX=>?_
 all_goals repeat' (first|((with_reducible refine dI ?_);(refine oz ?_))|((conv=>whnf);first|(with_reducible refine dI ?_)|refine qF ?_|refine asH [2,3] (ajh C.ax i hi) ?_|refine asL (λh=>?_)|refine ag.a ?_|refine asC qN qN qV ?_))
 all_goals try exact aB
 all_goals (try(repeat' (first|exact kw 8 hT rfl rfl rfl|refine an ⟨nb rfl,?_⟩ ?_|exact af.row rfl fv|exact jO rfl|refine asE rfl (λk hk=>asB ?_))))
 all_goals exact kk
abbrev Tl.ex{k N:Nat}{R:List (Nat×aG)}(h:Tl k N R)(D:aF)(x:aP):ST:=⟨(N,.blk 10 (λk=>.d (jF x k)))::(gK k D++R),N+1⟩
theorem ake(k N:Nat)(hk:(k=3/\N=48)\/(k=4/\N=56)\/(k=5/\N=64))(C:aF)(R:List (Nat×aG))(hT:Tl k N R)(i:Nat)(hi:i<C.ax.row.length)(hp:y8 C.ax)(hth:ae 38 [.ptr 0 0,iV (C.ax.row.getD i .z).dst] (hT.cs { C with ax:=jf C.ax i }) (λv t=>v = .b (lY k (C.ax.row.getD i .z).dst)/\t=hT.cs { C with ax:=jf C.ax i }))(hf:lY k (C.ax.row.getD i .z).dst=false):ae 35 [.ptr 0 0,iV (i:Int)] (hT.cs C) (λv t=>v=iV 1/\t=hT.cs { C with ax:=jf C.ax i }):=by
 rcases hk with ⟨rfl,rfl⟩|⟨rfl,rfl⟩|⟨rfl,rfl⟩
 all_goals refine asz Tryz.func35 λX=>?_
 all_goals repeat' (first|((with_reducible refine dI ?_);(refine oz ?_))|((conv=>whnf);first|(with_reducible refine dI ?_)|refine qF ?_|refine asH [2,3] (ac4 C.ax i hi hp) ?_|refine atl (args':=[.ptr 0 0,iV (C.ax.row.getD i .z).dst]) (hT.ex { C with ax:=jf C.ax i } (C.ax.row.getD i .z)) rfl (by(repeat' (first|exact kw 8 hT rfl rfl rfl|refine an ⟨nb rfl,?_⟩ ?_|exact af.row rfl fv|exact jO rfl|refine asE rfl (λk hk=>asB ?_)));all_goals first|exact kk|(have hk:k<10:=hk;rcases k with _|_|_|_|_|_|_|_|_|_|k <;> first|exact cm qV|omega)) vw (atb 1 hT hT (hth) rfl rfl rfl rfl tv (by refine⟨λk hk=>True.intro,tv⟩) vw ?_)|refine ai.mk (λh=>?_) (λh=>au (hf.symm.trans (by simpa using h)) (by decide))|refine ai.n (λh=>?_)|refine ag.a ?_|refine asC qN qN qV ?_))
 all_goals try exact aB
 all_goals (try(repeat' (first|exact kw 6 hT rfl rfl rfl|refine an ⟨nb rfl,?_⟩ ?_|exact af.row rfl fv|exact jO rfl|refine asE rfl (λk hk=>asB ?_))))
 all_goals exact kk
theorem anr(k N:Nat)(hk:(k=3/\N=48)\/(k=4/\N=56)\/(k=5/\N=64))(C:aF)(R:List (Nat×aG))(hT:Tl k N R)(R1:List (Nat×aG))(hT1:Tl k N R1)(i:Nat)(hi:i<C.ax.row.length)(hp:y8 C.ax)(hth:ae 38 [.ptr 0 0,iV (C.ax.row.getD i .z).dst] (hT.cs { C with ax:=jf C.ax i }) (λv t=>v = .b (lY k (C.ax.row.getD i .z).dst)/\t=hT.cs { C with ax:=jf C.ax i }))(hf:lY k (C.ax.row.getD i .z).dst=true)(l:List aP)(e:Int)(hrc:ae 70 [.ptr (8*(C.ax.row.getD i .z).dst.toNat+24) 0,jy (C.ax.row.getD i .z)] (hT.cs { C with ax:=jf C.ax i }) (λv t=>v=bQ [.d (gu l),iV e]/\t=hT1.cs { C with ax:=jf C.ax i }))(hsd:ae 23 [.ptr 0 0,.d (gu l),iV e] (hT1.cs { C with ax:=jf C.ax i }) (λv t=>v=iV e/\t=hT1.cs { C with ax:=lL (jf C.ax i) l }))(hd:0<=(C.ax.row.getD i .z).dst/\(C.ax.row.getD i .z).dst<k)(hpx:8*(C.ax.row.getD i .z).dst.toNat+24<N):ae 35 [.ptr 0 0,iV (i:Int)] (hT.cs C) (λv t=>v=iV e/\t=hT1.cs { C with ax:=lL (jf C.ax i) l }):=by
 rcases hk with ⟨rfl,rfl⟩|⟨rfl,rfl⟩|⟨rfl,rfl⟩
 all_goals refine asz Tryz.func35 λX=>?_
 all_goals repeat' (first|((with_reducible refine dI ?_);first|refine oz ?_|refine asD 6 [10,13] [o2,o0,o0,o0,o0,o0,o0,o0,o0,o0,o1,o3,o3,(1,1,true,[]),(2,2,false,[])] ?_)|((conv=>whnf);first|(with_reducible refine dI ?_)|refine mc ?_ ?_|refine qF ?_|refine asH [2,3] (ac4 C.ax i hi hp) ?_|refine atl (args':=[.ptr 0 0,iV (C.ax.row.getD i .z).dst]) (hT.ex { C with ax:=jf C.ax i } (C.ax.row.getD i .z)) rfl (by(repeat' (first|exact kw 8 hT rfl rfl rfl|refine an ⟨nb rfl,?_⟩ ?_|exact af.row rfl fv|exact jO rfl|refine asE rfl (λk hk=>asB ?_)));all_goals first|exact kk|(have hk:k<10:=hk;rcases k with _|_|_|_|_|_|_|_|_|_|k <;> first|exact cm qV|omega)) vw (atb 1 hT hT (hth) rfl rfl rfl rfl tv (by refine⟨λk hk=>True.intro,tv⟩) vw ?_)|refine ai.mk (λh=>au (hf.symm.trans (by simpa using h)) (by decide)) (λh=>?_)|refine atx (args':=[.ptr (8*(C.ax.row.getD i .z).dst.toNat+24) 0,jy (C.ax.row.getD i .z)]) (hT.ex { C with ax:=jf C.ax i } (C.ax.row.getD i .z)) rfl (by(repeat' (first|exact kw 6 hT rfl rfl rfl|refine an ⟨nb rfl,?_⟩ ?_|exact af.row rfl fv|exact jO rfl|refine asE rfl (λk hk=>asB ?_)));all_goals first|exact cm qV|exact kk) ⟨vq rfl (Nat.lt_succ_of_lt hpx),agg,tv⟩ (atS 1 hT hT1 (hrc) rfl rfl rfl rfl (Nc True.intro True.intro) (by refine⟨λk hk=>True.intro,tv⟩) ⟨Yr hpx,VW.agg λk hk=>asV,tv⟩ ?_)|refine atx (args':=[.ptr 0 0,.d (gu l),iV e]) (hT1.ex { C with ax:=jf C.ax i } (C.ax.row.getD i .z)) rfl (by(repeat' (first|exact kw 6 hT1 rfl rfl rfl|refine an ⟨nb rfl,?_⟩ ?_|exact af.row rfl fv|exact jO rfl|refine asE rfl (λk hk=>asB ?_)));all_goals first|exact cm qV|exact kk) vw (atS 1 hT1 hT1 (hsd) rfl rfl rfl rfl tv (by refine⟨λk hk=>True.intro,tv⟩) vw ?_)|refine ai.n (λh=>?_)|refine ag.a ?_|refine asC qN qN qV ?_))
 all_goals (try(refine dh.mk ?_;repeat' (first|exact tv|((conv=>whnf);first|exact rfl|refine atl (args':=[.ptr (8*(C.ax.row.getD i .z).dst.toNat+24) 0,jy (C.ax.row.getD i .z)]) (hT.ex { C with ax:=jf C.ax i } (C.ax.row.getD i .z)) rfl (by(repeat' (first|exact kw 6 hT rfl rfl rfl|refine an ⟨nb rfl,?_⟩ ?_|exact af.row rfl fv|exact jO rfl|refine asE rfl (λk hk=>asB ?_)));all_goals first|exact cm qV|exact kk) ⟨vq rfl (Nat.lt_succ_of_lt hpx),agg,tv⟩ (atb 1 hT hT1 (hrc) rfl rfl rfl rfl (Nc True.intro True.intro) (by refine⟨λk hk=>True.intro,tv⟩) ⟨Yr hpx,VW.agg λk hk=>asV,tv⟩ ?_)|refine atl (args':=[.ptr 0 0,.d (gu l),iV e]) (hT1.ex { C with ax:=jf C.ax i } (C.ax.row.getD i .z)) rfl (by(repeat' (first|exact kw 6 hT1 rfl rfl rfl|refine an ⟨nb rfl,?_⟩ ?_|exact af.row rfl fv|exact jO rfl|refine asE rfl (λk hk=>asB ?_)));all_goals first|exact cm qV|exact kk) vw (atb 1 hT1 hT1 (hsd) rfl rfl rfl rfl tv (by refine⟨λk hk=>True.intro,tv⟩) vw ?_)|refine an ?_ ?_|refine ag.mk ?_ ?_))))
 all_goals try exact aB
 all_goals (try(repeat' (first|exact kw 6 hT1 rfl rfl rfl|refine an ⟨nb rfl,?_⟩ ?_|exact af.row rfl fv|exact jO rfl|refine asE rfl (λk hk=>asB ?_))))
 all_goals exact kk
end
theorem QO{k:Nat}(h:3<=k/\k<=5):(k=3/\8*k+24=48)\/(k=4/\8*k+24=56)\/(k=5/\8*k+24=64):=qO
theorem CG.send{k:Nat}{v U c s:Int}{fl:Nat->Int}{K:Nat}{C:aF}(h:CG k v U fl c s K C)(hc:c<=1000000000){w U2:Int}{A:Nat}{n:az}{l:List aP}(r:qA k w U2 fl A n l):ES C.ax l:=⟨by have:=r.len;omega,λx hx=>(r.ls x hx).ok,h.ax hc⟩
theorem ant{k:Nat}{v U c s:Int}{fl:Nat->Int}{K:Nat}{C:aF}(h:CG k v U fl c s K C)(hc:c<=100000000)(i:Int):ae 35 [.ptr 0 0,iV i] (CS k C) (λv t=>v=iV (uH k C i).2/\t=CS k (uH k C i).1):=by
 have hk:=h.iY;have hT:=atz (C:=C) hk;rcases hi:qC C.ax i with _|_
 ·have e:uH k C i=(C,1):=by unfold uH;rw[hi];rfl
  rw[e];exact akf k (8*k+24) (QO hk) C _ hT i hi
 ·have hb:=JA hi;obtain⟨j,rfl⟩:∃ j:Nat,i=(j:Int):=⟨i.toNat,by omega⟩;have hj:j<C.ax.row.length:=qO;have afz:=h.ax qO;have hD:∀ N1:Nt,lm { C with ax:=N1 } 0 k=lm C 0 k:=λN1=>MO (C:=C) (D:={ C with ax:=N1 }) rfl
  have hth:ae 38 [.ptr 0 0,iV (C.ax.row.getD j .z).dst] (hT.cs { C with ax:=jf C.ax j }) (λv t=>v = .b (lY k (C.ax.row.getD j .z).dst)/\t=hT.cs { C with ax:=jf C.ax j }):=by
   have:=VQ k (three hk) { C with ax:=jf C.ax j } (C.ax.row.getD j .z).dst;show ae 38 _ ⟨gK k { C with ax:=jf C.ax j }++lm C 0 k,8*k+24⟩ (λv t=>v=_/\t=⟨gK k { C with ax:=jf C.ax j }++lm C 0 k,8*k+24⟩);rw[<-hD (jf C.ax j)];exact this
  rcases hf:lY k (C.ax.row.getD j .z).dst with _|_
  ·have e:uH k C (j:Int)=({ C with ax:=jf C.ax j },1):=by
    unfold uH;rw[hi];show(bif !lY k (C.ax.row.getD j .z).dst then _ else _)=_;rw[hf];rfl
   rw[e];have:=ake k (8*k+24) (QO hk) C _ hT j hj afz hth hf;show ae 35 _ _ (λv t=>v=iV 1/\t=⟨gK k { C with ax:=jf C.ax j }++lm { C with ax:=jf C.ax j } 0 k,8*k+24⟩);rw[hD (jf C.ax j)];exact this
  ·have hd:=PV hf;have hA:(C.ax.row.getD j .z).dst.toNat<k:=qO;have ht:=h.taken hj;obtain⟨L,t,g⟩:=h.nd _ hA;have hx:=h.row _ (kM (z:=.z) hj);have hr:=g.recv (h.env hA) hx;obtain⟨p,hp⟩:∃ p,vO (C.nd (C.ax.row.getD j .z).dst.toNat) (C.ax.row.getD j .z) k=p:=⟨_,rfl⟩;rw[hp]at hr;obtain⟨D,hDe⟩:∃ D,({ C with ax:=jf C.ax j }:aF).put (C.ax.row.getD j .z).dst.toNat p.1=D:=⟨_,rfl⟩;have hrc:ae 70 [.ptr (8*(C.ax.row.getD j .z).dst.toNat+24) 0,jy (C.ax.row.getD j .z)] (CS k { C with ax:=jf C.ax j }) (λv t=>v=bQ [.d (gu p.2.1),iV p.2.2]/\t=CS k D):=by
    rw[<-hDe,<-hp];exact akq (Tag.of hk hA) { C with ax:=jf C.ax j } (C.ax.row.getD j .z) (g.recv (h.env hA) hx).1
   have e:uH k C (j:Int)=({ D with ax:=lL D.ax p.2.1 },p.2.2):=by
    unfold uH;rw[hi];show(bif !lY k (C.ax.row.getD j .z).dst then _ else _)=_;rw[hf,<-hDe,<-hp];rfl
   rw[e];have aeW:D.ax=jf C.ax j:=by rw[<-hDe];rfl
   have hcD:D.calls=C.calls:=by rw[<-hDe];rfl
   have hsD:D.steps=C.steps:=by rw[<-hDe];rfl
   have hpre:∀ N1:Nt,gK k { D with ax:=N1 }=gK k { C with ax:=N1 }:=λN1=>by rw[<-hDe];rfl
   have aqm:gK k D=gK k { C with ax:=jf C.ax j }:=by rw[<-hDe];rfl
   have hs:ES (jf C.ax j) p.2.1:=ht.send qO hr.2;have hT1:=atz (C:=D) hk;have e2:lm ({ D with ax:=lL D.ax p.2.1 }:aF) 0 k=lm D 0 k:=MO (C:=D) (D:={ D with ax:=lL D.ax p.2.1 }) rfl;have es:(hT.cs { C with ax:=jf C.ax j }:ST)=CS k { C with ax:=jf C.ax j }:=by
    show(⟨gK k _++lm C 0 k,_⟩:ST)=⟨gK k _++lm { C with ax:=jf C.ax j } 0 k,_⟩;rw[hD (jf C.ax j)]
   have es1:(hT1.cs { C with ax:=jf C.ax j }:ST)=CS k D:=by
    show(⟨gK k _++lm D 0 k,_⟩:ST)=⟨gK k D++lm D 0 k,_⟩;rw[aqm]
   have es2:(hT1.cs { C with ax:=lL (jf C.ax j) p.2.1 }:ST)=CS k { D with ax:=lL D.ax p.2.1 }:=by
    show(⟨gK k _++lm D 0 k,_⟩:ST)=⟨gK k { D with ax:=lL D.ax p.2.1 }++lm { D with ax:=lL D.ax p.2.1 } 0 k,_⟩;rw[e2,hpre,aeW]
   have hsd:ae 23 [.ptr 0 0,.d (gu p.2.1),iV p.2.2] (hT1.cs { C with ax:=jf C.ax j }) (λv t=>v=iV p.2.2/\t=hT1.cs { C with ax:=lL (jf C.ax j) p.2.1 }):=by
    rw[es1,es2];exact anw k (three hk) D p.2.1 p.2.2 hs.hl hs.hx (by rw[aeW];exact hs.hp)
   have arQ:ae 70 [.ptr (8*(C.ax.row.getD j .z).dst.toNat+24) 0,jy (C.ax.row.getD j .z)] (hT.cs { C with ax:=jf C.ax j }) (λv t=>v=bQ [.d (gu p.2.1),iV p.2.2]/\t=hT1.cs { C with ax:=jf C.ax j }):=by
    rw[es,es1];exact hrc
   have:=anr k (8*k+24) (QO hk) C _ hT _ hT1 j hj afz hth hf p.2.1 p.2.2 arQ hsd hd qO;rw[es2]at this;exact this
section
attribute [local irreducible] ae
theorem adL{P:Nat->Prop}{i:Nat}(h:i<16):iO P (iE 58 i):=by
 rcases i with _|_|_|_|_|_|_|_|_|_|_|_|_|_|_|_|i
 all_goals first|exact tv|omega
theorem anv(k N:Nat)(hk:(k=3/\N=48)\/(k=4/\N=56)\/(k=5/\N=64))(C:aF)(R:List (Nat×aG))(hT:Tl k N R)(A:Nat)(hA:A<k)(hpx:8*A+24<N)(x:Sit)(hth:ae 38 [.ptr 0 0,iV (A:Int)] (hT.cs C) (λv t=>v = .b true/\t=hT.cs C))(hlk:ae 43 [.ptr (8*A+24) 0] (hT.cs C) (λv t=>v=BR x/\t=hT.cs C)):ae 14 [.ptr 0 0,iV (A:Int)] (hT.cs C) (λv t=>v=BR x/\t=hT.cs C):=by
 rcases hk with ⟨rfl,rfl⟩|⟨rfl,rfl⟩|⟨rfl,rfl⟩
 all_goals refine asz Tryz.func14 λX=>?_
 all_goals repeat' (first|((with_reducible refine dI ?_);(refine oz ?_))|((conv=>whnf);first|(with_reducible refine dI ?_)|refine qF ?_|refine atb 1 hT hT hth rfl rfl rfl rfl tv ⟨λi hi=>adL hi,tv⟩ vw ?_|refine atb 1 hT hT hlk rfl rfl rfl rfl (λi hi=>True.intro) ⟨λi hi=>adL hi,tv⟩ ⟨Yr hpx,tv⟩ ?_|refine ai.n (λh=>?_)|refine ag.a ?_|refine asC qN qN (VW.agg λk hk=>?_) ?_|refine ag.mk ?_ ?_))
 all_goals try exact aB
 all_goals (try(repeat' (first|exact kw 6 hT rfl rfl rfl|refine an ⟨nb rfl,?_⟩ ?_|exact af.row rfl fv|exact jO rfl|refine asE rfl (λk hk=>asB ?_))))
 all_goals first|exact kk|(have hk:k<16:=hk;rcases k with _|_|_|_|_|_|_|_|_|_|_|_|_|_|_|_|k <;> first|exact qV|omega)
end
end Go.Proofs.YtnibdnahojjcgaaGreat
