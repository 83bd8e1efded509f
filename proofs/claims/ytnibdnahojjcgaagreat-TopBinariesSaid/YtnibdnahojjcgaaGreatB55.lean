/- A part of the proof. -/
import Derived.ChangeOld
import Derived.Deep.Slices
import Derived.OpenShut
import Derived.ProofKit
import Derived.Test.YtnibdnahojjcgaaGreatB40
import Derived.Test.YtnibdnahojjcgaaGreatB54
namespace Go.Proofs.YtnibdnahojjcgaaGreat
set_option maxRecDepth 100000
set_option maxHeartbeats 16000000
set_option linter.unusedVariables false
set_option linter.unusedSimpArgs false
open Go.RowKit
section
attribute [local irreducible] ae
theorem aj6(L:List bT):(jG L).length<=120:=by
 unfold jG;rw[lJ,dP];omega
theorem wC{L:List bT}(h:∀ e∈L,-9223372036854775808<=e.b):∀ e∈jG L,yD e:=λe he=>by
 obtain⟨y,hy,rfl⟩:=List.mem_map.1 he;have h1:(y.c.chunks.take 12).length<=12:=by rw[dP];omega
 have h2:(y.c.text.take 40).length<=40:=by rw[dP];omega
 exact⟨h y (List.mem_of_mem_take hy),⟨jV h1 qD,jV h2 qD⟩,jV h1 qD⟩
theorem r15{k:Nat}{x:Sit}(h:y5 k x):cond (cond (decide (x.bin<x.st.version)) true (!decide (x.floor=x.bin))) true (decide ((x.log.length:Int)<x.eQ))=false:=by
 rw[aX (show ¬x.bin<x.st.version by have:=h.oU;omega),bg h.floor,aX (show ¬(x.log.length:Int)<x.eQ by have:=h.eQ;omega)];rfl
theorem acT{e:dm}{v:Int}(hv:1<=v/\v<=3)(h:e.b=[]\/∃ c,e.b=gU c/\fZ c v):aQ 12 [yj e,iV v] (bQ [.agg 8 (λ_=>.top),.top,iV 0]):=by
 have key:∀ {a b:V} (c:Nat->V),ae 12 [yj e,iV v] e0 (λrv t=>rv=bQ [.agg 8 c,b,iV 0]/\t=e0)->aQ 12 [yj e,iV v] (bQ [.agg 8 (λ_=>.top),.top,iV 0]):=λc hc=>
  ae.told hc (bu _) (λrv t ⟨e1,e2⟩=>by
   subst e1 e2;exact⟨bu _,asG [.agg 8 (λ_=>.top),.top,iV 0] rfl fr ⟨VW.agg λk hk=>VW.top,VW.top,VW.refl tv,tv⟩,λi=>.inl rfl⟩) ⟨rfl,rfl⟩
 obtain⟨t,b⟩:=e;rcases h with h|⟨c,h,hc⟩
 ·obtain rfl:b=[]:=h;exact key (a:=.top) _ (ai3 t v hv.1 hv.2)
 ·obtain rfl:b=gU c:=h;exact key (a:=.top) _ (ai2 t c v hc)
theorem ni{n k:Nat}(h:decide ((n:Int)<(k:Int))=true):n<k:=by have:=aS h;omega
theorem ltc{j:Nat}{c:Int}(h:decide ((j:Int)<c)=true):j<c.toNat:=by have:=aS h;omega
theorem Zb{k:Nat}{x:Sit}{j:Nat}(hx:y5 k x)(h:decide ((j:Int)<x.eQ)=true):j<x.log.length:=by have:=aS h;have:=hx.eQ;omega
theorem y5.e{k:Nat}{x:Sit}(h:y5 k x){j:Nat}(hj:j<x.log.length):(x.log.getD j .z).b=[]\/∃ c,(x.log.getD j .z).b=gU c/\fZ c x.bin:=h.es _ (kM hj)
def IR(F5:Int)(jZ:Nat)(xR:Nat):Prop:=∀ (R:aF->List (Nat×aG)) (hR:∀ C,uu xR (R C)) (hstep:∀ {a n:Nat} {C:aF} {e:bT},dZ jZ a n C->a<=900->n<=1000000->yD e->ae 8 [.ptr 0 0,nX e] ⟨R C,xR⟩ (λv t=>v=iV (iF jZ C e).2/\KA xR (R (iF jZ C e).1) t)) (RZ:∀ {a n:Nat} {C:aF} {i:Nat},dZ jZ a n C->i<jZ->ae 14 [.ptr 0 0,iV i] ⟨R C,xR⟩ (λv t=>v=BR (mX (C.at i))/\t=⟨R C,xR⟩)) (m:Int) (Sj:ae 6 [.d (.v (.int .u8 m))] e0 (λv t=>v=bQ [.ptr 0 0,iV F5,.b true]/\t=⟨R (rC jZ),xR⟩)) (L0:List bT) (hb:∀ e∈L0,-9223372036854775808<=e.b),ae 4 [.d (.v (.int .u8 m)),.d (xU L0)] e0 (λv t=>v = .b true/\t=e0)
theorem V3 {p:Prop}(h:p:=by
 have hlen:=aj6 L0;refine asz Tryz.func4 λX=>?_
 (repeat' (first|((with_reducible refine dI ?_);first|refine atC (id:=9) ?_|refine atA (c:=.seq (.seq (.region 7 _ _) _) _) (λi (C:aF)=>⟨103,[(1,.d (xU (jG L0))),(6,.ptr 0 0),(7,iV F5),(9,iV i)],⟨R C,xR⟩⟩) (λi C=>dZ jZ i i C) (jG L0).length (rC jZ) ?_ ?_ (λi C hi hp=>?_)|refine aue (c:=.seq (.seq (.region 11 _ _) _) _) (λn=>⟨103,[(1,.d (xU (jG L0))),(6,.ptr 0 0),(7,iV F5),(9,iV i),(10,iV n)],⟨R (iF jZ C ((jG L0).getD i .z)).1,xR⟩⟩) jZ ?_ (λn hn=>?_)|refine aue (c:=.seq (.seq (.region 21 _ _) _) _) (λj=>⟨103,[(1,.d (xU (jG L0))),(6,.ptr 0 0),(7,iV F5),(9,iV i),(10,iV n),(11,.ptr xR 0),(13,iV j)],⟨(xR,.blk 16 (λq=>.d (afj (mX ((iF jZ C ((jG L0).getD i .z)).1.at n)) q)))::R (iF jZ C ((jG L0).getD i .z)).1,XY⟩⟩) (mX ((iF jZ C ((jG L0).getD i .z)).1.at n)).eQ.toNat ?_ (λj hj=>?_)|refine oz ?_|refine asD 23 [12,13] [o2,o2,o2,o2,o2,o2,o2,o2,o2,o2,(0,2,false,[]),(0,2,false,[]),o1,(1,1,true,[]),(2,2,false,[]),(2,2,false,[])] ?_)|((conv=>whnf);first|(with_reducible refine dI ?_)|refine mc ?_ ?_|refine qF ?_|refine asA alJ ?_|refine ae.to Sj ?_|refine asA (aj7 L0) ?_|refine ae.to (RZ (i:=n) (hp.step (by omega) (wC hb _ (kM (z:=bT.z) (ni (n:=i) (k:=(jG L0).length) aj)))) (ni (n:=n) (k:=jZ) aj)) ?_|refine asA (al3 (mX ((iF jZ C ((jG L0).getD i .z)).1.at n)).st (mX ((iF jZ C ((jG L0).getD i .z)).1.at n)).bin (y5.st (as4 (i:=n) (hp.step (by omega) (wC hb _ (kM (z:=bT.z) (ni (n:=i) (k:=(jG L0).length) aj)))) (ni (n:=n) (k:=jZ) aj) (nf aj)))) ?_|(refine ath (args':=[.ptr 0 0,nX ((jG L0).getD i .z)]) ⟨VW.refl qN,VW.agg λq hq=>vq rfl tv,tv⟩ (ae.mono (hstep (C:=C) (e:=((jG L0).getD i .z)) hp (by omega) (by omega) (wC hb _ (kM (z:=bT.z) (ni (n:=i) (k:=(jG L0).length) aj)))) ?_);rintro v t ⟨rfl,σ,M,hs,hz,rfl⟩)|refine atm (aty (nt:=103) (sl2:=[(1,.d (xU (jG L0))),(6,.ptr 0 0),(7,iV F5),(9,iV i)]) hs qN hz (hR (iF jZ C ((jG L0).getD i .z)).1) (λφ hφ=>⟨qV,asR hφ qN,qV,qV,tv⟩)) ?_|refine TO.nil ?_|refine TO.run rfl rfl ?_|refine an (ni (n:=n) (k:=jZ) aj) ?_|refine an (ni (n:=i) (k:=(jG L0).length) aj) (aU (iF jZ C ((jG L0).getD i .z)).1 (ed (hp.step (by omega) (wC hb _ (kM (z:=bT.z) (ni (n:=i) (k:=(jG L0).length) aj)))) ?_))|refine an (ltc (j:=j) aj) ?_|refine ai.mk (λh=>au ((r15 (as4 (i:=n) (hp.step (by omega) (wC hb _ (kM (z:=bT.z) (ni (n:=i) (k:=(jG L0).length) aj)))) (ni (n:=n) (k:=jZ) aj) (nf aj))).symm.trans h) (by decide)) (λh=>?_)|refine ai.n (λh=>?_)|refine asN (acT (e:=(mX ((iF jZ C ((jG L0).getD i .z)).1.at n)).log.getD j .z) (v:=(mX ((iF jZ C ((jG L0).getD i .z)).1.at n)).bin) (y5.bin (as4 (i:=n) (hp.step (by omega) (wC hb _ (kM (z:=bT.z) (ni (n:=i) (k:=(jG L0).length) aj)))) (ni (n:=n) (k:=jZ) aj) (nf aj))) (y5.e (as4 (i:=n) (hp.step (by omega) (wC hb _ (kM (z:=bT.z) (ni (n:=i) (k:=(jG L0).length) aj)))) (ni (n:=n) (k:=jZ) aj) (nf aj)) (Zb (as4 (i:=n) (hp.step (by omega) (wC hb _ (kM (z:=bT.z) (ni (n:=i) (k:=(jG L0).length) aj)))) (ni (n:=n) (k:=jZ) aj) (nf aj)) (j:=j) aj))) ?_|refine ai.mk (λh=>?_) (λh=>?_)|refine ag.a ?_|refine Fin.tell (vq (gz V.b ?_) tv)|refine ag.mk ?_ ?_)))<;>(try(refine dh.mk ?_;repeat' (first|exact tv|((conv=>whnf);first|exact rfl|refine asA (acT (e:=(mX ((iF jZ C ((jG L0).getD i .z)).1.at n)).log.getD j .z) (v:=(mX ((iF jZ C ((jG L0).getD i .z)).1.at n)).bin) (y5.bin (as4 (i:=n) (hp.step (by omega) (wC hb _ (kM (z:=bT.z) (ni (n:=i) (k:=(jG L0).length) aj)))) (ni (n:=n) (k:=jZ) aj) (nf aj))) (y5.e (as4 (i:=n) (hp.step (by omega) (wC hb _ (kM (z:=bT.z) (ni (n:=i) (k:=(jG L0).length) aj)))) (ni (n:=n) (k:=jZ) aj) (nf aj)) (Zb (as4 (i:=n) (hp.step (by omega) (wC hb _ (kM (z:=bT.z) (ni (n:=i) (k:=(jG L0).length) aj)))) (ni (n:=n) (k:=jZ) aj) (nf aj)) (j:=j) aj))) ?_|refine an ?_ ?_|refine ag.mk ?_ ?_))))
 all_goals try exact aB
 all_goals (try(refine aV.mk rfl (cu _) qN ?_ ?_ <;> repeat' (first|exact tv|exact(hR _).ob 0 rfl rfl rfl|exact(hR _).ob 1 rfl rfl rfl|exact(hR _).ob 2 rfl rfl rfl|refine an qV ?_|refine an qW ?_|refine an ⟨nb rfl,asE rfl (λk hk=>asB ?_)⟩ ?_)))
 all_goals first|(have h9:=ni (n:=n) (k:=jZ) aj;have h8:jZ<=5:=(by decide);simp only[dQ];omega)|exact cm qV|(have hk:k<16:=hk;rcases k with _|_|_|_|_|_|_|_|_|_|_|_|_|_|_|_|k <;> first|exact cm qV|omega)|exact dZ.new (by decide)|(have h9:=aS (aj:decide ((j:Int)<(mX ((iF jZ C ((jG L0).getD i .z)).1.at n)).eQ)=true);have h8:=(y5.eQ (as4 (i:=n) (hp.step (by omega) (wC hb _ (kM (z:=bT.z) (ni (n:=i) (k:=(jG L0).length) aj)))) (ni (n:=n) (k:=jZ) aj) (nf aj))).2;exact Int.lt_of_lt_of_le h9 h8)|(have h9:=ni (n:=i) (k:=(jG L0).length) aj;omega)|(have h9:=Zb (j:=j) (as4 (i:=n) (hp.step (by omega) (wC hb _ (kM (z:=bT.z) (ni (n:=i) (k:=(jG L0).length) aj)))) (ni (n:=n) (k:=jZ) aj) (nf aj)) aj;have h8:=(y5.len (as4 (i:=n) (hp.step (by omega) (wC hb _ (kM (z:=bT.z) (ni (n:=i) (k:=(jG L0).length) aj)))) (ni (n:=n) (k:=jZ) aj) (nf aj)));simp only[dQ];omega)|(exact gz (V.fV 3) (funext λk=>by rcases k with _|_|_|k <;> rfl))):p:=h
section
open K3
theorem ale:IR 3 3 48:=by
 unfold IR;intro R hR hstep RZ m Sj L0 hb;exact V3
end
section
open K4
theorem ald:IR 4 4 56:=by
 unfold IR;intro R hR hstep RZ m Sj L0 hb;exact V3
end
section
open K5
theorem alc:IR 5 5 64:=by
 unfold IR;intro R hR hstep RZ m Sj L0 hb;exact V3
end
end
section
open Go.ChangeShapes Go.WideShapes Go.ChangeAt Go.RowKit Go.Deep
theorem Rh{W:World}{b off:Nat}{spot:Option Nat}{v:Value}(h:W.cell? ((⟨b,off,spot⟩:Addr).add 0)=some v):spot=none/\b<W.heap.size:=by
 have h1:=World.cell?_spot h;have h2:=World.block_lt_of_cell? W _ h;unfold Addr.add at h1 h2;rw[if_pos rfl]at h1 h2;exact⟨h1,h2⟩
section
variable {H:Type} {enc:TypeId×Value->H} {W:World} {base:Nat} {sp:Nat->Bool} {hd:Bool}
theorem yY{fs:Array Field}{n:Nat}{cs:List Value}{ys:List (DataW H×List MemPlace)}(hf:∀(i:Nat) (f:Field),fs[i]?=some f->DataW.trod enc Tryz.prog W base sp hd n f.type ((cs.drop f.offset).take (Tryz.prog.cellsOf f.type))=ys[i]?)(hl:ys.length=fs.size){i:Nat}{f:Field}(hi:fs[i]?=some f){ty off c:Nat}(h1:f.type=ty)(h2:f.offset=off)(h3:Tryz.prog.cellsOf ty=c):∃ y,DataW.trod enc Tryz.prog W base sp hd n ty ((cs.drop off).take c)=some y:=by
 subst h1 h2 h3;have hlt:i<fs.size:=(Array.getElem?_eq_some_iff.1 hi).1;exact⟨_,(hf i f hi).trans (dW qO)⟩
theorem Rx{cs:List Value}{off:Nat}{v:Value}(h:(cs.drop off).take 1=[v]):cs[off]?=some v:=by
 rcases hd:cs.drop off with _|⟨x,r⟩
 ·rw[hd]at h;cases h
 ·rw[hd]at h;injection h with h
  have:(cs.drop off)[0]?=some x:=by rw[hd];rfl
  rw[sD,Nat.add_zero]at this;rw[this,h]
theorem DW{n off:Nat}{cs:List Value}{y:DataW H×List MemPlace}(h:DataW.trod enc Tryz.prog W base sp hd n 3 ((cs.drop off).take 1)=some y):∃ z:Int,cs[off]?=some (.int .i64 z) /\ -9223372036854775808<=z:=by
 obtain⟨z,h1,_,h2⟩:=DataW.trod_int Tryz.underlying3 h;exact⟨z,Rx h1,(bounds_i64 h2).1⟩
theorem aq9{n off:Nat}{cs:List Value}{y:DataW H×List MemPlace}(h:DataW.trod enc Tryz.prog W base sp hd n 9 ((cs.drop off).take 1)=some y):∃ l:List UInt8,cs[off]?=some (.string (iU l)):=by
 obtain⟨s,h1,_,_⟩:=DataW.trod_string Tryz.underlying9 h;exact⟨s.data.toList,(Rx h1).trans (by unfold iU;simp)⟩
theorem aqg{n off:Nat}{cs:List Value}{y:DataW H×List MemPlace}(h:DataW.trod enc Tryz.prog W base sp hd n 31 ((cs.drop off).take 1)=some y):∃(l:List Int) (v:Value),cs[off]?=some v/\v.oneCell'=true/\jh (λb=>b<W.heap.size) W (iH l) v:=by
 rcases open_ints Tryz.underlying31 Tryz.underlying3 qK h with ⟨hcs,_⟩|⟨a,len,cap,zs,hcs,_,hl,hm,hz,_,hcell,_⟩
 ·exact⟨[],_,Rx hcs,rfl,none,0,rfl,bu _,cu _,λ_=>rfl,λj hj=>au hj (qZ _)⟩
 ·have hlz:len<=zs.length:=by rw[hz];split <;> omega
  have hlen:(zs.take len).length=len:=by rw[dP];omega
  refine⟨zs.take len,_,Rx hcs,rfl,some a,cap,by rw[hlen],by rw[hlen];exact hl,hm,nofun,λj hj k hk=>?_⟩;have hj:j<len:=by rw[<-hlen];exact hj
  obtain rfl:k=0:=Nat.lt_one_iff.1 hk;have hc:=hcell j qO;obtain⟨b,off',spot⟩:=a;have hspot:spot=none:=(Rh (hcell 0 qO)).1;subst hspot;have hb:b<W.heap.size:=(Rh (hcell 0 qO)).2;refine⟨b,off',_,rfl,hb,hb,(by rw[<-Addr.add_lit];rw[show j*1+0=j by omega];exact hc),rfl,?_⟩;show Value.int .i64 (zs.getD j 0)=Value.int .i64 ((zs.take len).getD j 0);rw[bC,bC,oh,if_pos hj]
theorem aj8{n:Nat}{cs:List Value}{x:DataW H×List MemPlace}(h:DataW.trod enc Tryz.prog W base sp hd n 35 cs=some x):∃ e:bT,-9223372036854775808<=e.b/\∀ k,k<11->∃ v,cs[k]?=some v/\v.oneCell'=true/\jh (λb=>b<W.heap.size) W (Ap e k) v:=by
 obtain⟨ys,n1,_,_,hlen,hyl,hf⟩:=DataW.trod_struct Tryz.underlying35 h;obtain⟨y0,q0⟩:=yY hf hyl (i:=0) rfl (ty:=3) (off:=0) (c:=1) rfl rfl qK;obtain⟨y1,q1⟩:=yY hf hyl (i:=1) rfl (ty:=3) (off:=1) (c:=1) rfl rfl qK;obtain⟨y2,q2⟩:=yY hf hyl (i:=2) rfl (ty:=3) (off:=2) (c:=1) rfl rfl qK;obtain⟨y3,q3⟩:=yY hf hyl (i:=3) rfl (ty:=33) (off:=3) (c:=8) rfl rfl qK;obtain⟨zs,n2,_,_,hlen2,hzl,hg⟩:=DataW.trod_struct Tryz.underlying33 q3;obtain⟨_,r0⟩:=yY hg hzl (i:=0) rfl (ty:=3) (off:=0) (c:=1) rfl rfl qK;obtain⟨_,r1⟩:=yY hg hzl (i:=1) rfl (ty:=3) (off:=1) (c:=1) rfl rfl qK;obtain⟨_,r2⟩:=yY hg hzl (i:=2) rfl (ty:=3) (off:=2) (c:=1) rfl rfl qK;obtain⟨_,r3⟩:=yY hg hzl (i:=3) rfl (ty:=3) (off:=3) (c:=1) rfl rfl qK;obtain⟨_,r4⟩:=yY hg hzl (i:=4) rfl (ty:=3) (off:=4) (c:=1) rfl rfl qK;obtain⟨_,r5⟩:=yY hg hzl (i:=5) rfl (ty:=3) (off:=5) (c:=1) rfl rfl qK;obtain⟨_,r6⟩:=yY hg hzl (i:=6) rfl (ty:=31) (off:=6) (c:=1) rfl rfl qK;obtain⟨_,r7⟩:=yY hg hzl (i:=7) rfl (ty:=9) (off:=7) (c:=1) rfl rfl qK;obtain⟨e0,h0,_⟩:=DW q0;obtain⟨e1,h1,_⟩:=DW q1;obtain⟨e2,h2,hb⟩:=DW q2;obtain⟨c0,g0,_⟩:=DW r0;obtain⟨c1,g1,_⟩:=DW r1;obtain⟨c2,g2,_⟩:=DW r2;obtain⟨c3,g3,_⟩:=DW r3;obtain⟨c4,g4,_⟩:=DW r4;obtain⟨c5,g5,_⟩:=DW r5;obtain⟨l,v6,g6,o6,d6⟩:=aqg r6;obtain⟨tx,g7⟩:=aq9 r7;have up:∀ {k:Nat} {v:Value},k<8->((cs.drop 3).take 8)[k]?=some v->cs[k+3]?=some v:=λ{k v} hk h=>by
  rw[oh,if_pos hk,sD,Nat.add_comm]at h;exact h
 refine⟨⟨e0,e1,e2,⟨c0,c1,c2,c3,c4,c5,l,tx⟩⟩,hb,λk hk=>?_⟩;rcases k with _|_|_|_|_|_|_|_|_|_|_|k
 ·exact⟨_,h0,rfl,rfl⟩
 ·exact⟨_,h1,rfl,rfl⟩
 ·exact⟨_,h2,rfl,rfl⟩
 ·exact⟨_,up qD g0,rfl,rfl⟩
 ·exact⟨_,up qD g1,rfl,rfl⟩
 ·exact⟨_,up qD g2,rfl,rfl⟩
 ·exact⟨_,up qD g3,rfl,rfl⟩
 ·exact⟨_,up qD g4,rfl,rfl⟩
 ·exact⟨_,up qD g5,rfl,rfl⟩
 ·exact⟨_,up qD g6,o6,d6⟩
 ·exact⟨_,up qD g7,rfl,rfl⟩
 ·omega
theorem aim{n:Nat}{p:Nat->bT->Prop}(h:∀ i,i<n->∃ e,p i e):∃ L:List bT,L.length=n/\∀ i,i<n->p i (L.getD i .z):=by
 induction n with
 |zero=>exact⟨[],rfl,λi hi=>au hi (qZ _)⟩
 |succ n ih=>
  obtain⟨L,hl,hp⟩:=ih λi hi=>h i qO
  obtain⟨e,he⟩:=h n (Nat.lt_succ_self n);refine⟨L++[e],by rw[bW,hl];rfl,λi hi=>?_⟩;rw[bC];by_cases hin:i<n
  ·rw[mO qO,<-bC];exact hp i hin
  ·obtain rfl:i=L.length:=qO;rw[List.getElem?_concat_length];rw[hl];exact he
theorem ahW{a:Option Addr}{len cap:Nat}{d:DataW H}{ps:List MemPlace}(h:DataW.Trod enc Tryz.prog W 0 sp hd 22 (.slice a len cap) d ps):∃ L:List bT,(∀ e∈L,-9223372036854775808<=e.b)/\jh (λb=>b<W.heap.size) W (xU L) (.slice a len cap):=by
 obtain⟨fuel,hf⟩:=h;rcases open_slice Tryz.underlying22 hf with ⟨hcs,_⟩|⟨y,l,c,m,n,D,Pl,hcs,_,hl,hm,hmm,_,hi⟩
 ·simp[Value.cells]at hcs;obtain⟨rfl,rfl,rfl⟩:=hcs;exact⟨[],nofun,none,0,rfl,bu _,cu _,λ_=>rfl,λj hj=>au hj (qZ _)⟩
 ·simp[Value.cells]at hcs;obtain⟨rfl,rfl,rfl⟩:=hcs;have hlm:len<=m:=by rw[hmm];split <;> omega
  have hC:Tryz.prog.cellsOf 35=11:=by kernel_rfl
  obtain⟨L,hL,hp⟩:=aim (n:=len) (p:=λi e=>-9223372036854775808<=e.b/\∀ k,k<11->∃ v,W.cell? (y.add (i*11+k))=some v/\v.oneCell'=true/\jh (λb=>b<W.heap.size) W (Ap e k) v) λi hlt=>by
   obtain⟨cs',hc,ht⟩:=hi i qO;rw[hC]at hc;obtain⟨e,he,hk⟩:=aj8 ht;obtain⟨_,hcl,hat⟩:=World.cells?_some hc;refine⟨e,he,λk hk'=>?_⟩;obtain⟨v,h1,h2,h3⟩:=hk k hk';refine⟨v,?_,h2,h3⟩;rw[<-h1,<-hat k hk',Go.Deep.add_add]
  refine⟨L,λe he=>?_,some y,cap,by rw[hL],by rw[hL];exact hl,hm,nofun,λj hj k hk=>?_⟩
  ·obtain⟨i,hi,rfl⟩:=List.getElem_of_mem he;have:=(hp i qO).1;rwa [bC,dW hi]at this
  ·obtain⟨v,h1,h2,h3⟩:=(hp j qO).2 k hk;obtain⟨b,off,spot⟩:=y;obtain⟨v0,z1,_,_⟩:=(hp 0 qO).2 0 qD;have hspot:spot=none:=(Rh z1).1;subst hspot;have hb:b<W.heap.size:=(Rh z1).2;exact⟨b,off,v,rfl,hb,hb,by rw[<-Addr.add_lit];exact h1,h2,h3⟩
end
theorem auL{f:Nat}{args:List V}{b:Bool}(h:ae f args e0 (λv t=>v = .b b/\t=e0))(W:World)(us:List Value)(hl:us.length=args.length)(hv:∀(k:Nat) (v:V) (u:Value),args[k]?=some v->us[k]?=some u->aO ⟨λb=>b<W.heap.size,λ_=>none⟩ e0.get W v u):Calls Tryz.prog f us.toArray W λe w'=>e = .returned (.bool b)/\Below W.heap.size W w':=by
 have hg:bV ⟨λb=>b<W.heap.size,λ_=>none⟩ e0 W:=
  ⟨⟨λi n g e=>(by cases e),λi E s n g e=>(by cases e),λi es e=>(by cases e),λi b e=>(show False from e).elim,λb h=>h,λi j b e=>(show False from e).elim⟩,λi _=>⟨rfl,rfl⟩⟩
 refine(h.2 _ W us hg hl hv).mono λe w' ⟨v,V,t',G',e1,⟨e2,e3⟩,_,hs,hr⟩=>?_
 subst e2 e3;obtain rfl:v = .bool b:=hr;exact⟨e1,hs.os,hs.tape,hs.output,hs.size,λk hk=>hs.keep k hk λi hi=>hi⟩
theorem aob(m:Int)(hm:0<=m/\m<=255)(L0:List bT)(hb:∀ e∈L0,-9223372036854775808<=e.b):ae 4 [.d (.v (.int .u8 m)),.d (xU L0)] e0 (λv t=>v = .b true/\t=e0):=by
 have hr:m % 3=0\/m % 3=1\/m % 3=2:=qO;rcases hr with h|h|h
 ·exact ale (CL 3) (λC=>atn (k:=3) qD) (λh ha hn he=>(Lu h ha hn he).mono λv t ⟨e1,e2⟩=>⟨e1,e2.r⟩) (λh hi=>Mc h hi) m (amR m hm h) L0 hb
 ·exact ald (CL 4) (λC=>atn (k:=4) qD) (λh ha hn he=>(Lu h ha hn he).mono λv t ⟨e1,e2⟩=>⟨e1,e2.r⟩) (λh hi=>Mc h hi) m (amP m hm h) L0 hb
 ·exact alc (CL 5) (λC=>atn (k:=5) qD) (λh ha hn he=>(Lu h ha hn he).mono λv t ⟨e1,e2⟩=>⟨e1,e2.r⟩) (λh hi=>Mc h hi) m (amN m hm h) L0 hb
theorem afT(W:World)(m:Int)(hm:0<=m/\m<=255)(a:Option Addr)(len cap:Nat)(L:List bT)(hb:∀ e∈L,-9223372036854775808<=e.b)(hd:jh (λb=>b<W.heap.size) W (xU L) (.slice a len cap)):Calls Tryz.prog 4 #[.int .u8 m,.slice a len cap] W λe w'=>e = .returned (.bool true)/\Below W.heap.size W w':=by
 refine auL (aob m hm L hb) W [.int .u8 m,.slice a len cap] rfl λk v u h1 h2=>?_
 rcases k with _|_|k
 ·injection h1 with h1
  injection h2 with h2
  subst h1 h2;exact rfl
 ·injection h1 with h1
  injection h2 with h2
  subst h1 h2;exact hd
 ·cases h1
end
end Go.Proofs.YtnibdnahojjcgaaGreat
