/- Lemmas. -/
import Derived.ChangeOld
import Derived.Deep.Slices
import Derived.OpenShut
import Derived.ProofKit
import Derived.Test.YtnibdnahojjcgaaGreatC49
import Derived.Test.YtnibdnahojjcgaaGreatC50
namespace Go.Proofs.YtnibdnahojjcgaaGreat
set_option linter.all false
set_option maxRecDepth 100000
set_option maxHeartbeats 0
open Go.RowKit Tryz
section
open Go.ChangeShapes Go.WideShapes Go.ChangeAt Go.RowKit Go.Deep
def Uy{W:World}{b off:Nat}{spot:Option Nat}{v:Value}(h:W.cell? ((⟨b,off,spot⟩:Addr).add 0)=some v):spot=none/\b<W.heap.size:=by
 have h1:=World.cell?_spot h;have h2:=World.block_lt_of_cell? W _ h;unfold Addr.add at h1 h2;rw[if_pos rfl]at h1 h2;exact⟨h1,h2⟩
section
variable {H:Type} {enc:TypeId×Value->H} {W:World} {base:Nat} {sp:Nat->Bool} {hd:Bool}
def zL{fs:Array Field}{n:Nat}{cs:List Value}{ys:List (DataW H×List MemPlace)}(hf:∀(i:Nat) (f:Field),fs[i]?=some f->DataW.trod enc prog W base sp hd n f.type ((cs.drop f.offset).take (prog.cellsOf f.type))=ys[i]?)(hl:ys.length=fs.size){i:Nat}{f:Field}(hi:fs[i]?=some f){ty off c:Nat}(h1:f.type=ty)(h2:f.offset=off)(h3:prog.cellsOf ty=c):∃ y,DataW.trod enc prog W base sp hd n ty ((cs.drop off).take c)=some y:=by
 subst h1 h2 h3;have hlt:i<fs.size:=(Array.getElem?_eq_some_iff.1 hi).1;exact⟨_,(hf i f hi).trans (dV qO)⟩
def axK{cs:List Value}{off:Nat}{v:Value}(h:(cs.drop off).take 1=[v]):cs[off]?=some v:=by
 rcases hd:cs.drop off with _|⟨x,r⟩
 ·rw[hd]at h;cases h
 ·rw[hd]at h;injection h with h
  have:(cs.drop off)[0]?=some x:=by rw[hd];rfl
  rw[rP,Nat.add_zero]at this;rw[this,h]
def EH{n off:Nat}{cs:List Value}{y:DataW H×List MemPlace}(h:DataW.trod enc prog W base sp hd n 3 ((cs.drop off).take 1)=some y):∃ z:Int,cs[off]?=some (.int .i64 z) /\ -9223372036854775808<=z:=by
 obtain⟨z,h1,_,h2⟩:=DataW.trod_int underlying3 h;exact⟨z,axK h1,(bounds_i64 h2).1⟩
def awe{n off:Nat}{cs:List Value}{y:DataW H×List MemPlace}(h:DataW.trod enc prog W base sp hd n 9 ((cs.drop off).take 1)=some y):∃ l:List UInt8,cs[off]?=some (.string (jr l)):=by
 obtain⟨s,h1,_,_⟩:=DataW.trod_string underlying9 h;exact⟨s.data.toList,(axK h1).trans (by unfold jr;simp)⟩
def avc{n off:Nat}{cs:List Value}{y:DataW H×List MemPlace}(h:DataW.trod enc prog W base sp hd n 31 ((cs.drop off).take 1)=some y):∃(l:List Int) (v:Value),cs[off]?=some v/\v.oneCell'=true/\jK (λb=>b<W.heap.size) W (iR l) v:=by
 obtain⟨hcs,_⟩|⟨a,len,cap,zs,hcs,_,hl,hm,hz,_,hcell,_⟩:=open_ints underlying31 underlying3 qK h
 ·exact⟨[],_,axK hcs,rfl,none,0,rfl,bF _,cZ _,λ_=>rfl,λj hj=>ai hj (qh _)⟩
 ·have hlz:len<=zs.length:=by rw[hz];split <;> omega
  have hlen:(zs.take len).length=len:=by rw[dG];omega
  refine⟨zs.take len,_,axK hcs,rfl,some a,cap,by rw[hlen],by rw[hlen];exact hl,hm,nofun,λj hj k hk=>?_⟩;have hj:j<len:=by rw[<-hlen];exact hj
  obtain rfl:k=0:=Nat.lt_one_iff.1 hk;have hc:=hcell j qO;obtain⟨b,off',spot⟩:=a;have hspot:spot=none:=(Uy (hcell 0 qO)).1;subst hspot;have hb:b<W.heap.size:=(Uy (hcell 0 qO)).2;refine⟨b,off',_,rfl,hb,hb,(by rw[<-Addr.add_lit];rw[show j*1+0=j by omega];exact hc),rfl,?_⟩;show Value.int .i64 (zs.getD j 0)=Value.int .i64 ((zs.take len).getD j 0);rw[bn,bn,nX,if_pos hj]
def anx{n:Nat}{cs:List Value}{x:DataW H×List MemPlace}(h:DataW.trod enc prog W base sp hd n 35 cs=some x):∃ e:cO,-9223372036854775808<=e.b/\∀ k,k<11->∃ v,cs[k]?=some v/\v.oneCell'=true/\jK (λb=>b<W.heap.size) W (Bf e k) v:=by
 obtain⟨ys,n1,_,_,hlen,hyl,hf⟩:=DataW.trod_struct underlying35 h;obtain⟨y0,q0⟩:=zL hf hyl (i:=0) rfl (ty:=3) (off:=0) (c:=1) rfl rfl qK;obtain⟨y1,q1⟩:=zL hf hyl (i:=1) rfl (ty:=3) (off:=1) (c:=1) rfl rfl qK;obtain⟨y2,q2⟩:=zL hf hyl (i:=2) rfl (ty:=3) (off:=2) (c:=1) rfl rfl qK;obtain⟨y3,q3⟩:=zL hf hyl (i:=3) rfl (ty:=33) (off:=3) (c:=8) rfl rfl qK;obtain⟨zs,n2,_,_,hlen2,hzl,hg⟩:=DataW.trod_struct underlying33 q3;obtain⟨_,r0⟩:=zL hg hzl (i:=0) rfl (ty:=3) (off:=0) (c:=1) rfl rfl qK;obtain⟨_,r1⟩:=zL hg hzl (i:=1) rfl (ty:=3) (off:=1) (c:=1) rfl rfl qK;obtain⟨_,r2⟩:=zL hg hzl (i:=2) rfl (ty:=3) (off:=2) (c:=1) rfl rfl qK;obtain⟨_,r3⟩:=zL hg hzl (i:=3) rfl (ty:=3) (off:=3) (c:=1) rfl rfl qK;obtain⟨_,r4⟩:=zL hg hzl (i:=4) rfl (ty:=3) (off:=4) (c:=1) rfl rfl qK;obtain⟨_,r5⟩:=zL hg hzl (i:=5) rfl (ty:=3) (off:=5) (c:=1) rfl rfl qK;obtain⟨_,r6⟩:=zL hg hzl (i:=6) rfl (ty:=31) (off:=6) (c:=1) rfl rfl qK;obtain⟨_,r7⟩:=zL hg hzl (i:=7) rfl (ty:=9) (off:=7) (c:=1) rfl rfl qK;obtain⟨e0,h0,_⟩:=EH q0;obtain⟨e1,h1,_⟩:=EH q1;obtain⟨e2,h2,hb⟩:=EH q2;obtain⟨c0,g0,_⟩:=EH r0;obtain⟨c1,g1,_⟩:=EH r1;obtain⟨c2,g2,_⟩:=EH r2;obtain⟨c3,g3,_⟩:=EH r3;obtain⟨c4,g4,_⟩:=EH r4;obtain⟨c5,g5,_⟩:=EH r5;obtain⟨l,v6,g6,o6,d6⟩:=avc r6;obtain⟨tx,g7⟩:=awe r7;have up:∀ {k:Nat} {v:Value},k<8->((cs.drop 3).take 8)[k]?=some v->cs[k+3]?=some v:=λ{k v} hk h=>by
  rw[nX,if_pos hk,rP,Nat.add_comm]at h;exact h
 refine⟨⟨e0,e1,e2,⟨c0,c1,c2,c3,c4,c5,l,tx⟩⟩,hb,λk hk=>?_⟩;obtain _|_|_|_|_|_|_|_|_|_|_|k:=k
 ·exact⟨_,h0,rfl,rfl⟩
 ·exact⟨_,h1,rfl,rfl⟩
 ·exact⟨_,h2,rfl,rfl⟩
 ·exact⟨_,up qD g0,rfl,rfl⟩
 ·exact⟨_,up qD g1,rfl,rfl⟩
 ·exact⟨_,up qD g2,rfl,rfl⟩
 ·exact⟨_,up qD g3,rfl,rfl⟩
 ·exact⟨_,up qD g4,rfl,rfl⟩
 ·exact⟨_,up qD g5,rfl,rfl⟩
 ·exact⟨_,up qD g6,o6,d6⟩
 ·exact⟨_,up qD g7,rfl,rfl⟩
 ·omega
def alo{n:Nat}{p:Nat->cO->Prop}(h:∀ i,i<n->∃ e,p i e):∃ L:List cO,L.length=n/\∀ i,i<n->p i (L.getD i .z):=by
 induction n with
 |zero=>exact⟨[],rfl,λi hi=>ai hi (qh _)⟩
 |succ n ih=>
  obtain⟨L,hl,hp⟩:=ih λi hi=>h i qO
  obtain⟨e,he⟩:=h n (Nat.lt_succ_self n);refine⟨L++[e],by rw[bP,hl];rfl,λi hi=>?_⟩;rw[bn];by_cases hin:i<n
  ·rw[lS qO,<-bn];exact hp i hin
  ·obtain rfl:i=L.length:=qO;rw[List.getElem?_concat_length];rw[hl];exact he
def akR{a:Option Addr}{len cap:Nat}{d:DataW H}{ps:List MemPlace}(h:DataW.Trod enc prog W 0 sp hd 22 (.slice a len cap) d ps):∃ L:List cO,(∀ e∈L,-9223372036854775808<=e.b)/\jK (λb=>b<W.heap.size) W (AV L) (.slice a len cap):=by
 obtain⟨fuel,hf⟩:=h;obtain⟨hcs,_⟩|⟨y,l,c,m,n,D,Pl,hcs,_,hl,hm,hmm,_,hi⟩:=open_slice underlying22 hf
 ·simp[Value.cells]at hcs;obtain⟨rfl,rfl,rfl⟩:=hcs;exact⟨[],nofun,none,0,rfl,bF _,cZ _,λ_=>rfl,λj hj=>ai hj (qh _)⟩
 ·simp[Value.cells]at hcs;obtain⟨rfl,rfl,rfl⟩:=hcs;have hlm:len<=m:=by rw[hmm];split <;> omega
  have hC:prog.cellsOf 35=11:=by kernel_rfl
  obtain⟨L,hL,hp⟩:=alo (n:=len) (p:=λi e=>-9223372036854775808<=e.b/\∀ k,k<11->∃ v,W.cell? (y.add (i*11+k))=some v/\v.oneCell'=true/\jK (λb=>b<W.heap.size) W (Bf e k) v) λi hlt=>by
   obtain⟨cs',hc,ht⟩:=hi i qO;rw[hC]at hc;obtain⟨e,he,hk⟩:=anx ht;obtain⟨_,hcl,hat⟩:=World.cells?_some hc;refine⟨e,he,λk hk'=>?_⟩;obtain⟨v,h1,h2,h3⟩:=hk k hk';refine⟨v,?_,h2,h3⟩;rw[<-h1,<-hat k hk',Go.Deep.add_add]
  refine⟨L,λe he=>?_,some y,cap,by rw[hL],by rw[hL];exact hl,hm,nofun,λj hj k hk=>?_⟩
  ·obtain⟨i,hi,rfl⟩:=List.getElem_of_mem he;have:=(hp i qO).1;rwa [bn,dV hi]at this
  ·obtain⟨v,h1,h2,h3⟩:=(hp j qO).2 k hk;obtain⟨b,off,spot⟩:=y;obtain⟨v0,z1,_,_⟩:=(hp 0 qO).2 0 qD;have hspot:spot=none:=(Uy z1).1;subst hspot;have hb:b<W.heap.size:=(Uy z1).2;exact⟨b,off,v,rfl,hb,hb,by rw[<-Addr.add_lit];exact h1,h2,h3⟩
end
def ajS{f:Nat}{args:List V}{b:Bool}(h:af f args e0 (λv t=>v = .b b/\t=e0))(W:World)(us:List Value)(hl:us.length=args.length)(hv:∀(k:Nat) (v:V) (u:Value),args[k]?=some v->us[k]?=some u->aY ⟨λb=>b<W.heap.size,λ_=>none⟩ e0.get W v u):Calls prog f us.toArray W λe w'=>e = .returned (.bool b)/\Below W.heap.size W w':=by
 have hg:bZ ⟨λb=>b<W.heap.size,λ_=>none⟩ e0 W:=
  ⟨⟨λi n g e=>(by cases e),λi E s n g e=>(by cases e),λi es e=>(by cases e),λi b e=>(show False from e).elim,λb h=>h,λi j b e=>(show False from e).elim⟩,λi _=>⟨rfl,rfl⟩⟩
 refine(h.2 _ W us hg hl hv).mono λe w' ⟨v,V,t',G',e1,⟨e2,e3⟩,_,hs,hr⟩=>?_
 subst e2 e3;obtain rfl:v = .bool b:=hr;exact⟨e1,hs.os,hs.tape,hs.output,hs.size,λk hk=>hs.axz k hk λi hi=>hi⟩
end
