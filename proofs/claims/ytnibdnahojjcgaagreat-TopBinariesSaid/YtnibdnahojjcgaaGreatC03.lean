/- Lemmas. -/
import Derived.Test.YtnibdnahojjcgaaGreatC02
namespace Go.Proofs.YtnibdnahojjcgaaGreat
set_option linter.all false
set_option maxRecDepth 100000
set_option maxHeartbeats 0
open Go.RowKit Tryz
section
section
variable {t0:ST} {X:Cx t0} {Q:Exit->AS->Prop} {s s2:AS}
def rQ{c:Code}(j E:Nat)(g:Nat->Nat->V)(hj:dD s.sl j = .dC)(hE:(tI E).ok=true)(hz:0<(tI E).size)(h:T X c Q ⟨s.nt,(j,.row s.s.nx 0)::s.sl,s.s.new (.row E (tI E).size 0 g)⟩):T X c Q s:=T.mk λa w hm=>by
 obtain⟨G,hg,hs,hx⟩:=hm;have hu:=hs.sl j;rw[hj]at hu;obtain⟨A,hu⟩:=hu;obtain⟨p1,p2,p3⟩:=JJ (A:=A) (c:=0) (n:=0) (E:=E) (g:=g) hg (Below.refl _ _) hE rfl hz (λh=>by omega) (λ_=>.inl ⟨rfl,rfl⟩);refine h.h a w ⟨_,p1,⟨⟨hs.nt,λi=>?_⟩,hs.df⟩,hx.trans p2⟩;show aY _ _ w (bif Nat.beq j i then V.row s.s.nx 0 else dD s.sl i) _;rcases hb:Nat.beq j i with _|_
 ·exact(hs.sl i).dX p2 hg.axy
 ·rw[<-dJ hb,hu];exact p3
def uN{c:Code}(i off E:Nat)(g:Nat->Nat->V){n:Nat}{g0:Nat->V}(hob:s.s.get i = .Wp n g0)(hc:g0 off = .dC)(hoff:off<n)(hE:(tI E).ok=true)(hz:0<(tI E).size)(h:T X c Q ⟨s.nt,s.sl,(s.s.new (.row E (tI E).size 0 g)).set i (.Wp n (oK g0 off 1 (λ_=>.row s.s.nx 0)))⟩):T X c Q s:=T.mk λa w hm=>by
 obtain⟨G,hg,hs,hx⟩:=hm;obtain⟨b,cs,ty,e1,e2,e3,e4⟩:=hg.axy.Wp _ _ _ hob;have hcx:=vI (xs:=cs) (i:=off) qO;obtain⟨q1,q2⟩:=e4 off _ hcx;rw[hc]at q2;obtain⟨A,q2⟩:=q2;obtain⟨p1,p2,p3⟩:=JJ (A:=A) (c:=0) (n:=0) (E:=E) (g:=g) hg (Below.refl _ _) hE rfl hz (λh=>by omega) (λ_=>.inl ⟨rfl,rfl⟩);have hlt:i<s.s.nx:=by
  refine Nat.lt_of_not_le λhle=>?_
  have:=(hg.jZ i hle).2;rw[hob]at this;cases this
 have aa3:(s.s.new (.row E (tI E).size 0 g)).get i = .Wp n g0:=by rw[Oa,if_neg qO,hob]
 have I5:(G.upd s.s.nx (.row A 0)).ρ i=some (.Wp b):=by
  show uQ G.ρ s.s.nx _ i=_;rw[uQ,if_neg qO,e1]
 have hch:vG (G.upd s.s.nx (.row A 0)) (s.s.new (.row E (tI E).size 0 g)) ((s.s.new (.row E (tI E).size 0 g)).set i (.Wp n (oK g0 off 1 (λ_=>.row s.s.nx 0)))) w w i (.Wp b) (.Wp n (oK g0 off 1 (λ_=>.row s.s.nx 0))):=
  ⟨qU _ i _,⟨bF _,Nat.lt_succ_of_lt hlt⟩,rfl,rfl,rfl,bF _,λ_ _ _=>rfl,λb' hb'=>by
   have hb':Loc.Wp b=Loc.Wp b':=hb';injection hb' with hb'
   subst hb';exact .inl (by unfold dB;rw[aa3];exact I5),λb' hb'=>by rw[I5]at hb';exact fD hb',λA' c' hb'=>by rw[I5]at hb';cases hb'⟩
 have hs2:=hch.dX;have hgd:=hch.axy p1 ⟨b,cs,ty,rfl,e2,e3,λk x hk=>⟨(e4 k x hk).1,by
  rw[JX];split
  ·rename_i hk2
   obtain rfl:k=off:=qO;rw[hcx]at hk;injection hk with hk
   rw[<-hk,q2];exact p3.dX hs2 p1.axy
  ·exact((e4 k x hk).2.dX p2 hg.axy).dX hs2 p1.axy⟩⟩ (λk hk=>(p1.jZ k hk).1)
 exact h.h a w ⟨_,hgd,⟨⟨hs.nt,λj=>((hs.sl j).dX p2 hg.axy).dX hs2 p1.axy⟩,hs.df⟩,(hx.trans p2).trans hs2⟩
def dU{α:Type}{c:Code}(n:Nat)(S:Nat->α->AS)(P:Nat->α->Prop)(a0:α)(h0:bf t0.nx s (S 0 a0))(hp0:P 0 a0)
  (hr:∀ i a,i<=n->P i a->T X c (λe s'=>match e with|.normal=>∃ a',i<n/\P (i+1) a'/\bf t0.nx s' (S (i+1) a')|e=>Q e s') (S i a)):T X (.loop c) Q s:=
 T.loop (ι:={ p:Nat×α // p.1<=n/\P p.1 p.2 }) (λp=>S p.1.1 p.1.2) (λp=>n-p.1.1) ⟨(0,a0),cZ _,hp0⟩ h0 λ⟨(i,a),hi,hp⟩=>T.mono (hr i a hi hp) λe s' h=>by
  cases e
  case normal=>
   obtain⟨a',h1,h2,h3⟩:=h;exact⟨⟨(i+1,a'),h1,h2⟩,h3,by show n-(i+1)<n-i;omega⟩
  all_goals exact h
def T.cut{x y:Code}(S:AS)(h1:T X x (KL (λs'=>bf t0.nx s' S) Q) s)(h2:T X y Q S):T X (.seq x y) Q s:=T.seq (T.mono h1 λe s' h=>by
 cases e
 case normal=>exact T.le S h h2
 all_goals exact h)
end
def wO{α:Type}(z:α){l:List α}{i:Nat}(h:i<l.length):l.drop i=l.getD i z::l.drop (i+1):=by
 rw[List.drop_eq_getElem_cons h,bn,dV h];rfl
def kR{α:Type}(z:α){l:List α}{i:Nat}(h:i<l.length):l.take (i+1)=l.take i++[l.getD i z]:=by
 rw[List.take_add_one,bn,dV h];rfl
def avy{a b c w:Bool}(h:(bif (a == b) then c else !w)=w):a=b:=by cases a <;> cases b <;> cases c <;> cases w <;> first|rfl|cases h
def avx{a b c w:Bool}(h:a=b/\c=w):(bif (a == b) then c else !w)=w:=by obtain⟨rfl,rfl⟩:=h;cases a <;> cases c <;> rfl
@[irreducible] def dm (p:Prop):Prop:=p
def dm.mk{p:Prop}(h:p):dm p:=by unfold dm;exact h
def nN{p:Prop}(h:dm p):p:=by unfold dm at h;exact h
def alO{N n k m:Nat}{b:List UInt8}(hn:n=m)(hm:m<=b.length-k):VW N (.d (.sl n 1 (λj=>(λj _=>gG (b.getD j 0)) (k+j)))) (.d (bW ((b.drop k).take m))):=by
 refine VW.sl (by rw[dG,eY];omega) λj hj q hq=>?_
 show gG (b.getD (k+j) 0)=gG (((b.drop k).take m).getD j 0);rw[bn,bn,nX,if_pos qO,rP]
def JY{N n k:Nat}{b:List UInt8}(hn:n=b.length-k):VW N (.d (.sl n 1 (λj=>(λj _=>gG (b.getD j 0)) (k+j)))) (.d (bW (b.drop k))):=by
 refine VW.sl (by rw[eY];omega) λj hj q hq=>?_
 show gG (b.getD (k+j) 0)=gG ((b.drop k).getD j 0);rw[bn,bn,rP]
def D8(N:Nat)(g h:Nat->V):Nat->Prop
 |0=>True
 |n+1=>D8 N g h n/\VW N (g n) (h n)
def Jp{N:Nat}{g h:Nat->V}:∀ {n:Nat},D8 N g h n->∀ k,k<n->VW N (g k) (h k)
 |0,_,k,hk=>by omega
 |n+1,hc,k,hk=>by
  by_cases e:k=n
  ·subst e;exact hc.2
  ·exact Jp hc.1 k qO
def gu{N n:Nat}{g h:Nat->V}(hc:D8 N g h n):VW N (.agg n g) (.agg n h):=VW.agg (Jp hc)
def gX{N f nf n:Nat}{g h:Nat->V}(hc:D8 N g h n):VW N (.fn f nf n g) (.fn f nf n h):=
 ⟨λk hk=>(Jp hc k hk).1,λG o w u ⟨fs,cs,e,h1,h2,h3⟩=>⟨fs,cs,e,h1,h2,λk x hx=>(Jp hc k (by rw[<-h2,<-Array.size_append];exact(Array.getElem?_eq_some_iff.1 hx).1)).2 _ _ _ _ (h3 k x hx)⟩⟩
def aW.Wp{N n:Nat}{g h:Nat->V}(hc:D8 N g h n):aW N (.Wp n g) (.Wp n h):=⟨rfl,Jp hc⟩
def aW.row{N E s n m:Nat}{g h:Nat->Nat->V}(e:n=m)(hh:∀ j,j<n->∀ k,k<s->VW N (g j k) (h j k)):aW N (.row E s n g) (.row E s m h):=⟨rfl,rfl,e,hh⟩
def aeR{N:Nat}{a b:List (Int×V)}(e:a=b)(h:∀ k v,dY b k=some v->∃ n,v=V.i n):aW N (.map a) (.map b):=λk=>by
 subst e;rcases hm:dY a k with _|v
 ·trivial
 ·obtain⟨n,rfl⟩:=h k v hm;exact VW.refl trivial
def sQ:List Nat->Nat->Bool
 |[],_=>true
 |i::r,n=>Nat.blt i n&&sQ r n
def J5:∀ {l:List Nat} {n:Nat},sQ l n=true->∀ i∈l,i<n
 |[],_,_,i,hi=>by cases hi
 |j::r,n,h,i,hi=>by
  have h:(Nat.blt j n&&sQ r n)=true:=h;obtain⟨h1,h2⟩:=kZ h;obtain rfl|hi:=List.mem_cons.1 hi
  ·exact mX h1
  ·exact J5 h2 i hi
def nZ{f:Nat}{args args':List V}{st bJ t1:ST}(aI:List Nat){r:V}{K:V->ST->Prop}(h:af f args' bJ (λv t=>v=r/\t=t1))(hn:iJ aI=true)(hs:sQ aI st.nx=true)(hnx:bJ.nx=aI.length)(ha:lI bJ.nx (bY aI) args args')(ho:pV bJ.nx (bY aI) st aI bJ.st)(hk:pz st.nx λn=>K (pR aI n r) (Aw st aI n t1)):af f args st K:=
 acA h hn (J5 hs) hnx ha ho hk
def uh{t0:ST}{X:Cx t0}{v r:V}{t:ST}(hhi:t0.nx<=t.nx)(h:VW t0.nx v r)(hob:pX t0.nx t t0.st):Fin X v t (λv t=>v=r/\t=t0):=
 Fin.done r t0 (bF _) hhi hob h ⟨rfl,rfl⟩
def bM{t0:ST}{X:Cx t0}{v r:V}{t t1:ST}(hlo:t0.nx<=t1.nx)(hhi:t1.nx<=t.nx)(h:VW t1.nx v r)(hob:pX t1.nx t t1.st):Fin X v t (λv t=>v=r/\t=t1):=
 Fin.done r t1 hlo hhi hob h ⟨rfl,rfl⟩
def bQ{α:Type}(E s:Nat)(C:α->Nat->D)(z:α)(l:List α):aK:=.row E s l.length (λj k=>.d (C (l.getD j z) k))
def Ak{α:Type}{C:α->Nat->D}{z:α}{a b:List α}{n:Nat}{g h:Nat->Nat->V}(hn:n=a.length){j k:Nat}(hj:j<n+b.length)(h1:∀ j,j<n->g j k = .d (C (a.getD j z) k))(h2:∀ j,j<b.length->h j k = .d (C (b.getD j z) k)):axE n g h j k = .d (C ((a++b).getD j z) k):=by
 rw[Ec];subst hn;split
 ·rename_i hj
  rw[h1 j hj,bn,bn,lS hj]
 ·rename_i hj'
  rw[h2 _ qO,bn,bn,oP qO]
def kU{α:Type}{C:α->Nat->D}{z:α}{a b:List α}{N n:Nat}{g h:Nat->Nat->V}(hn:n=a.length){j k:Nat}(hj:j<n+b.length)(h1:∀ j,j<n->g j k = .d (C (a.getD j z) k))(h2:∀ j,j<b.length->VW N (h j k) (.d (C (b.getD j z) k))):VW N (axE n g h j k) (.d (C ((a++b).getD j z) k)):=by
 rw[Ec];subst hn;split
 ·rename_i hj
  rw[h1 j hj,bn,bn,lS hj];exact VW.refl trivial
 ·rename_i hj'
  have:=h2 (j-a.length) qO;rw[bn]at this;rw[bn,oP qO];exact this
def zg{α:Type}{X:Cx e0}{t:ST}{i n m E s:Nat}{g:Nat->Nat->V}{C:α->Nat->D}{z:α}{L:List α}(ho:t.get i = .row E s n g)(hm:m=n)(hL:L.length=n)(hg:∀ j,j<n->∀ k,k<s->g j k = .d (C (L.getD j z) k)):Fin X (.row i m) t (λv t=>v = .d (.sl L.length s (λj=>C (L.getD j z)))/\t=e0):=by
 subst hm;subst hL;refine Fin.eG (h:=λj=>C (L.getD j z)) ⟨cZ _,ho,λj hj k hk G o w u hu=>?_⟩ ?_
 ·rw[hg j hj k hk]at hu;exact hu
 ·have e:jf i L.length s (λj=>C (L.getD j z)) (.row i L.length) = .d (.sl L.length s (λj=>C (L.getD j z))):=by
   show(bif Nat.beq i i&&Nat.beq L.length L.length then _ else _)=_;simp
  rw[e];exact Fin.tell (VW.refl trivial)
def iI.of{t0:ST}{X:Cx t0}{t:ST}{i E z n:Nat}{g:Nat->Nat->V}{h:Nat->Nat->D}(lo:t0.nx<=i)(ob:t.get i = .row E z n g)(hg:∀ j,j<n->∀ k,k<z->g j k = .d (h j k)):iI X t i E z n g h:=
 ⟨lo,ob,λj hj k hk G o w u hu=>by rw[hg j hj k hk]at hu;exact hu⟩
def jB{i n z:Nat}{h:Nat->Nat->D}:jf i n z h (.row i n) = .d (.sl n z h):=by
 show(bif Nat.beq i i&&Nat.beq n n then _ else _)=_;simp
def ag3{α:Type}{t0:ST}{X:Cx t0}{Q:Exit->AS->Prop}{c:Code}{nt j i E z nx:Nat}{C:α->Nat->D}{d:α}{L:List α}{sl:List (Nat×V)}{st:List (Nat×aK)}(hlo:t0.nx<=i)
  (e1:sl.map (λp=>(p.1,jf i L.length z (λq=>C (L.getD q d)) p.2))=sl)
  (e2:st.map (λp=>(p.1,bif Nat.beq p.1 i then aK.dead else P7 i L.length z (λq=>C (L.getD q d)) p.2))=st)
  (h:T X c Q ⟨nt,(j,.d (.sl L.length z (λq=>C (L.getD q d))))::sl,⟨(i,.dead)::st,nx⟩⟩):T X c Q ⟨nt,(j,.row i L.length)::sl,⟨(i,bQ E z C d L)::st,nx⟩⟩:=by
 have hob:(⟨(i,bQ E z C d L)::st,nx⟩:ST).get i = .row E z L.length (λj k=>.d (C (L.getD j d) k)):=by
  show(bif Nat.beq i i then bQ E z C d L else _)=_;simp;rfl
 refine T.eG (s:=⟨nt,(j,.row i L.length)::sl,⟨(i,bQ E z C d L)::st,nx⟩⟩) (i:=i) (h:=λq=>C (L.getD q d)) (iI.of hlo hob λj hj k hk=>rfl) ?_;have e:Lu i L.length z (λq=>C (L.getD q d)) ⟨nt,(j,.row i L.length)::sl,⟨(i,bQ E z C d L)::st,nx⟩⟩=⟨nt,(j,.d (.sl L.length z (λq=>C (L.getD q d))))::sl,⟨(i,.dead)::st,nx⟩⟩:=by
  unfold Lu wW;simp only[List.map_cons,e1,e2,jB,Nat.beq_refl,dw]
 rw[e];exact h
def aoA{X:Cx e0}{t:ST}{i n m q E s:Nat}{g:Nat->Nat->V}{h:Nat->Nat->D}(ho:t.get i = .row E s n g)(hm:m=n)(hL:q=n)(hg:∀ j,j<n->∀ k,k<s->g j k = .d (h j k)):Fin X (.row i m) t (λv t=>v = .d (.sl q s h)/\t=e0):=by
 subst hm;subst hL;refine Fin.eG (h:=h) ⟨cZ _,ho,λj hj k hk G o w u hu=>?_⟩ ?_
 ·rw[hg j hj k hk]at hu;exact hu
 ·have e:jf i q s h (.row i q) = .d (.sl q s h):=by
   show(bif Nat.beq i i&&Nat.beq q q then _ else _)=_;simp
  rw[e];exact Fin.tell (VW.refl trivial)
def aos{n:Nat}{g h:Nat->Nat->V}(hn:n=0)(j k:Nat):axE n g h j k=h j k:=by
 rw[Ec,if_neg qO];subst hn;rfl
def FD{α:Type}{X:Cx e0}{t:ST}{i n m E s:Nat}{g:Nat->Nat->V}{C:α->Nat->D}{z:α}{L:List α}{v v':V}(ho:t.get i = .row E s n g)(hm:m=n)(hL:L.length=n)(hg:∀ j,j<n->∀ k,k<s->g j k = .d (C (L.getD j z) k))(hv:VW 0 (jf i n s (λj=>C (L.getD j z)) v) v') :
  Fin X (.gQ [V.row i m,v].length (λk=>[V.row i m,v].getD k .top)) t (λu t=>u=bI [.d (.sl L.length s (λj=>C (L.getD j z))),v']/\t=e0):=by
 subst hm;subst hL;refine Fin.eG (h:=λj=>C (L.getD j z)) ⟨cZ _,ho,λj hj k hk G o w u hu=>?_⟩ ?_
 ·rw[hg j hj k hk]at hu;exact hu
 ·refine Fin.tell ?_;refine fH [.d (.sl L.length s (λj=>C (L.getD j z))),v'] rfl (λk hk=>rfl) ⟨?_,hv,trivial⟩;refine fA ?_ trivial;show(bif Nat.beq i i&&Nat.beq L.length L.length then V.d (.sl L.length s (λj=>C (L.getD j z))) else _)=_;simp
end
def Pn:V->Prop
 |.top=>True
 |.d (.v _)=>True
 |.gQ n g=>∀ k,k<n->Pn (g k)
 |.agg n g=>∀ k,k<n->Pn (g k)
 |_=>False
def aj0{G G':Gh}{o o':Nat->aK}{w w':World}{v:V}:∀ {u:Value},Pn v->aY G o w v u->aY G' o' w' v u:=by
 induction v with
 |top=>exact λ_ _=>trivial
 |d x=>
  cases x with
  |v y=>exact λ_ h=>h
  |sl n s g=>exact λh=>h.elim
 |agg n g ih=>
  rintro u hf ⟨cs,e,hn,hc⟩;exact⟨cs,e,hn,λk x hx=>⟨(hc k x hx).1,ih k (hf k (by rw[<-hn];exact(Array.getElem?_eq_some_iff.1 hx).1)) (hc k x hx).2⟩⟩
 |gQ n g ih=>
  rintro u hf ⟨cs,e,hn,hc⟩;exact⟨cs,e,hn,λk x hx=>ih k (hf k (by rw[<-hn];exact(Array.getElem?_eq_some_iff.1 hx).1)) (hc k x hx)⟩
 |_=>exact λh=>h.elim
def ahs{F:Nat->Prop}{w:World}(h:∀ b,F b->b<w.heap.size):bZ ⟨F,λ_=>none⟩ e0 w where
 axy:={
  Wp:=λi n g e=>aK.noConfusion e
  row:=λi E s n g e=>aK.noConfusion e
  map:=λi es e=>aK.noConfusion e
  xP:=λi b ho=>(show False from ho).elim
  wF:=h
  sep:=λi j b ho=>(show False from ho).elim }
 jZ:=λi _=>⟨rfl,rfl⟩
def Gh.all(G:Gh)(t:ST):Gh:=⟨λb=>G.F b\/∃ i,dB G t.get i b,λ_=>none⟩
def BW(st:ST)(a b:V):Prop:=∀(G:Gh) (w:World) (u:Value),bZ G st w->aY G st.get w a u->aY (G.all st) e0.get w b u
def BW.d{st:ST}{x:D}:BW st (.d x) (.d x):=λG w u hg hu=>jK.mono (bF _) (λ_ _ _=>rfl) (λb hb _=>.inl hb) hu
def BW.eq{st:ST}{a b c:V}(h:BW st a b)(e:b=c):BW st a c:=e▸h
def BW.row{st:ST}{i E z n:Nat}{g:Nat->Nat->V}{h:Nat->Nat->D}(ho:st.get i = .row E z n g)(hg:∀ j,j<n->∀ k,k<z->g j k = .d (h j k)):BW st (.row i n) (.d (.sl n z h)):=λG w u hgd hu=>by
 have g0:bZ ⟨λ_=>False,λ_=>none⟩ e0 w:=ahs λb h=>h.elim
 let X:Cx e0:=⟨⟨λ_=>False,λ_=>none⟩,w,g0,[]⟩
 have hz:=IM (X:=X) (iI.of (X:=X) (cZ _) ho hg) hgd.axy hu;rw[jB]at hz;have hz:jK (G.eG st.get i).F w (.sl n z h) u:=hz;exact hz.mono (bF _) (λ_ _ _=>rfl) (λb hb _=>hb.imp id λhb=>⟨i,hb⟩)
def V5(st:ST):List V->List V->Prop
 |[],[]=>True
 |a::r,b::q=>BW st a b/\V5 st r q
 |_,_=>False
def aga{st:ST}:∀ {l q:List V},V5 st l q->l.length=q.length/\∀(k:Nat) (b:V),q[k]?=some b->∃ a,l[k]?=some a/\BW st a b
 |[],[],_=>⟨rfl,λk b h=>by simp at h⟩
 |a::r,b::q,h=>by
  obtain⟨h1,h2⟩:=aga h.2;refine⟨by simp[h1],λk b' hk=>?_⟩;cases k with
  |zero=>simp at hk;subst hk;exact⟨a,rfl,h.1⟩
  |succ k=>exact h2 k b' (by simpa using hk)
 |[],_::_,h=>h.elim
 |_::_,[],h=>h.elim
def anb{G:Gh}{st:ST}{w:World}(hg:bZ G st w):bZ (G.all st) e0 w:=ahs λb h=>by
 obtain h|⟨i,h⟩:=h
 ·exact hg.axy.wF b h
 ·exact hg.axy.lt h
def vM{f:Nat}{args args':List V}{st:ST}{r:V}{K:V->ST->Prop}(h:aQ f args' r)(hf:Pn r)(ha:V5 st args args')(hk:K r st):af f args st K:=by
 refine⟨h.1,λG w us hg hl hv=>?_⟩;obtain⟨hal,hag⟩:=aga ha;refine(h.2 (G.all st) w us (anb hg) (hl.trans hal) λk v u hk1 hk2=>?_).mono λe w' hh=>?_
 ·obtain⟨a,h1,h2⟩:=hag k v hk1;exact h2 G w u hg (hv k a u h1 hk2)
 ·obtain⟨v,V,t',G',e1,⟨e2,e3⟩,e4,e5,e6⟩:=hh;subst e2 e3;have hb:Below w.heap.size w w':=⟨e5.os,e5.tape,e5.output,e5.size,λk hk=>e5.axz k hk λi hi=>hi.elim⟩;obtain⟨p1,p2⟩:=Nw hg hb;exact⟨v,_,st,_,e1,hk,p1,p2,aj0 hf e6⟩
section
section
variable {f:Nat} {args args':List V} {st bJ t1:ST} {r:V} {K:V->ST->Prop}
def jd.tell(h:aQ f args' r)(ha:lI 0 (bY []) args args')(hk:pz st.nx λn=>K (pR [] n r) st):jd f args st K:=by
 rw[uM]at hk;exact jd.mk _ _ hk
def ajd(h:af f args' e0 (λv t=>v=r/\t=t1))(ha:lI 0 (bY []) args args')(hk:pz st.nx λn=>K (pR [] n r) (Aw st [] n t1)):jd f args st K:=by
 rw[uM]at hk;exact jd.mk _ _ hk
def abZ(aI:List Nat)(h:af f args' bJ (λv t=>v=r/\t=t1))(hn:iJ aI=true)(hs:sQ aI st.nx=true)(hnx:bJ.nx=aI.length)(ha:lI bJ.nx (bY aI) args args')(ho:pV bJ.nx (bY aI) st aI bJ.st)(hk:pz st.nx λn=>K (pR aI n r) (Aw st aI n t1)):jd f args st K:=by
 rw[uM]at hk;exact jd.mk _ _ hk
def QJ(h:aQ f args' r)(hf:Pn r)(ha:V5 st args args')(hk:K r st):jd f args st K:=jd.mk _ _ hk
def Uw(st bJ:ST)(aI:List Nat)(n:Nat):Nat->List Nat->Prop
 |_,[]=>True
 |k,i::r=>mW (λk=>some (lV aI n k)) (bJ.get k)=st.get i/\Uw st bJ aI n (k+1) r
def acz{ahS:List Nat}{n:Nat}:∀ {aI:List Nat} {k:Nat},Uw st bJ ahS n k aI->∀ j i,aI[j]?=some i->mW (λk=>some (lV ahS n k)) (bJ.get (k+j))=st.get i
 |[],_,_,j,i,h=>by simp at h
 |x::q,k,h,0,i,hj=>by
  obtain rfl:x=i:=by simpa using hj
  exact h.1
 |x::q,k,h,j+1,i,hj=>by
  rw[show k+(j+1)=k+1+j by omega];exact acz h.2 j i (by simpa using hj)
def abW{G:Gh}{t t':ST}{w:World}(h:bZ G t w)(hx:t'.nx=t.nx)(he:t'.get=t.get):bZ G t' w:=
 ⟨by rw[he];exact h.axy,λi hi=>by rw[he];exact h.jZ i qO⟩
def Fp(aI:List Nat)(h:af f args' bJ (λv t=>v=r/\t=bJ))(hn:iJ aI=true)(hs:sQ aI st.nx=true)(hnx:bJ.nx=aI.length)(ha:lI bJ.nx (bY aI) args args')(ho:pV bJ.nx (bY aI) st aI bJ.st)(hb:Uw st bJ aI st.nx 0 aI)(hk:pz st.nx λn=>K (pR aI n r) st):af f args st K:=by
 rw[uM]at hk;refine⟨h.1,λG w us hg hl hv=>?_⟩;have hm:=J5 hs;have hu:∀ i,st.nx<=i->st.get i = .dead:=λi hi=>(hg.jZ i hi).2
 obtain⟨hal,hag⟩:=XB ha;refine(h.2 (G.sub aI) w us (RZ hg hn hnx ho) (hl.trans hal) λk v u hk1 hk2=>?_).mono λe w' hh=>?_
 ·obtain⟨a,h1,h2⟩:=hag k v hk1;exact FK ho h2 (hv k a u h1 hk2)
 ·obtain⟨v,V,t',G',e1,⟨e2,e3⟩,e4,e5,e6⟩:=hh;subst e2 e3;have hf:uH aI st t' t' G G' w w':=⟨hg,hn,hm,ho,e4,e5⟩;have hget:(tq st aI t').get=st.get:=funext λi=>by
   obtain⟨k,rfl,hk⟩|⟨h1,h2⟩:=Ah (nx:=st.nx) hm i
   ·rw[hf.back];obtain hk|⟨h1,h2,h3,h4⟩:=hk
    ·have:=acz hb k _ (yx hk);rw[jq]at this;exact this
    ·rw[(e4.jZ k qO).2,hu _ h2];rfl
   ·exact H5 hm h1 h2
  have hgd:=hf.axy;have hst:=hf.dX;have hv:=hf.PL e6;rw[hget]at hst hv;refine⟨v,_,st,_,e1,hk,abW hgd ?_ hget.symm,hst,hv⟩;show st.nx=st.nx+(t'.nx-aI.length);omega
def Q4(aI:List Nat)(h:af f args' bJ (λv t=>v=r/\t=bJ))(hn:iJ aI=true)(hs:sQ aI st.nx=true)(hnx:bJ.nx=aI.length)(ha:lI bJ.nx (bY aI) args args')(ho:pV bJ.nx (bY aI) st aI bJ.st)(hb:Uw st bJ aI st.nx 0 aI)(hk:pz st.nx λn=>K (pR aI n r) st):jd f args st K:=by
 rw[uM]at hk;exact jd.mk _ _ hk
end
@[irreducible] def vH (p:Prop):Prop:=p
def vH.mk{p:Prop}(h:p):vH p:=by unfold vH;exact h
def dR{p:Prop}(h:vH p):p:=by unfold vH at h;exact h
def En{i n n' lo m m':Nat}(h1:n=n')(h2:m=m'):V.vw i n lo m=V.vw i n' lo m':=by subst h1 h2;rfl
def Ar{i n n':Nat}(h1:n=n'):V.row i n=V.row i n':=by subst h1;rfl
def ZR{a b:Bool}(h:(bif a then true else b)=true):(a||b)=true:=by cases a <;> exact h
def anc{a b:List UInt8}{i j:Nat}(h:j<a.length)(e:i=j:=by omega):(a++b).getD i 0=a.getD j 0:=by
 subst e;rw[bn,bn,lS h]
def Yt{α:Type}{t0:ST}{X:Cx t0}{t t1:ST}{i n m E s:Nat}{g:Nat->Nat->V}{C:α->Nat->D}{z:α}(L:List α)(hlo:t0.nx<=i)(ho:t.get i = .row E s n g)(hm:m=n)(hL:L.length=n)(hg:∀ j,j<n->∀ k,k<s->g j k = .d (C (L.getD j z) k))(h1:t0.nx<=t1.nx)(h2:t1.nx<=t.nx)(hob:pX t1.nx (wW i n s (λj=>C (L.getD j z)) t) t1.st) :
  Fin X (.row i m) t (λv t=>v = .d (.sl L.length s (λj=>C (L.getD j z)))/\t=t1):=by
 subst hm;subst hL;refine Fin.eG (iI.of hlo ho hg) ?_;rw[jB];exact bM h1 h2 (VW.refl trivial) hob
end
section
section
variable {t0:ST} {X:Cx t0} {G:Gh} {w:World} {st bJ:ST} {aI:List Nat}
def afa(hg:bZ G st w)(hx:Stp X.G t0.get X.w G st.get w)(hn:iJ aI=true)(ho:pV bJ.nx (bY aI) st aI bJ.st)(hl:∀ k,k<t0.nx->aI[k]?=some k):Stp X.G t0.get X.w (G.sub aI) bJ.get w where
 os:=hx.os
 tape:=hx.tape
 output:=hx.output
 size:=hx.size
 axz:=hx.axz
 F1:=hx.F1
 F2:=hx.F2
 own:=λi b h=>by
  obtain⟨i',h1,h2⟩:=FM ho h;obtain h3|h3:=hx.own i' b h2
  ·left;have hi:i'<t0.nx:=by
    refine Nat.lt_of_not_le λhle=>?_
    unfold dB at h3;rw[(X.hg.jZ i' hle).2]at h3;exact h3
   have h4:=nC hn h1;rw[nC hn (hl i' hi)]at h4;injection h4 with h4
   subst h4;exact h3
  ·exact .inr h3
 loc:=λi b h=>by
  have hi:i<t0.nx:=by
   refine Nat.lt_of_not_le λhle=>?_
   rw[(X.hg.jZ i hle).1]at h;cases h
  rw[Cb (hl i hi)];exact hx.loc i b h
 row:=λi A c h=>by
  have hi:i<t0.nx:=by
   refine Nat.lt_of_not_le λhle=>?_
   rw[(X.hg.jZ i hle).1]at h;cases h
  obtain⟨A',c',h1,h2⟩:=hx.row i A c h;refine⟨A',c',by rw[Cb (hl i hi)];exact h1,λE s m g e=>?_⟩;obtain⟨g0,h3⟩:=Ti ho (hl i hi) e;exact h2 E s m g0 h3
def Qk(N:Nat)(φ:Nat->Option Nat)(s:AS):List (Nat×V)->Prop
 |[]=>True
 |(j,v)::r=>VW N (dI φ (dD s.sl j)) v/\Qk N φ s r
def ady{N:Nat}{φ:Nat->Option Nat}{s:AS}:∀ {l:List (Nat×V)},Qk N φ s l->∀ j,VW N (dI φ (dD s.sl j)) (dD l j)
 |[],_,j=>VW.top
 |(k,v)::r,h,j=>by
  show VW N _ (bif Nat.beq k j then v else dD r j);rcases hk:Nat.beq k j with _|_
  ·exact ady h.2 j
  ·rw[<-dJ hk];exact h.1
def PV(n:Nat):Nat->List Nat->Bool
 |k,[]=>Nat.ble n k
 |k,x::r=>(bif Nat.blt k n then Nat.beq x k else true)&&PV n (k+1) r
def ad6{n:Nat}:∀ {l:List Nat} {k:Nat},PV n k l=true->∀ j,k+j<n->l[j]?=some (k+j)
 |[],k,h,j,hj=>by
  have:=uf h;omega
 |x::r,k,h,j,hj=>by
  obtain⟨h1,h2⟩:=kZ h;cases j with
  |zero=>
   rw[show Nat.blt k n=true by rw[Nat.blt_eq];omega,dw]at h1;have:=dJ h1;subst this;simp
  |succ j=>
   rw[show k+(j+1)=k+1+j by omega]at hj ⊢;exact ad6 h2 j hj
structure MI (n0:Nat) (aI:List Nat) (s s2:AS):Prop where
 nt:s2.nt=s.nt
 nx:s2.s.nx=aI.length
 dup:iJ aI=true
 low:PV n0 0 aI=true
 ob:pV s2.s.nx (bY aI) s.s aI s2.s.st
 sl:Qk s2.s.nx (bY aI) s s2.sl
def Mod.EX{s s2:AS}{a:Act}(h:Mod X s a w)(hr:MI t0.nx aI s s2):Mod X s2 a w:=by
 obtain⟨G,hg,hs,hx⟩:=h;refine⟨G.sub aI,RZ hg hr.dup hr.nx hr.ob,⟨⟨by rw[hr.nt];exact hs.nt,λj=>FK hr.ob (ady hr.sl j) (hs.sl j)⟩,hs.df⟩,afa hg hx hr.dup hr.ob λk hk=>?_⟩;have:=ad6 hr.low k qO;rwa [jq]at this
def T.EX{c:Code}{Q:Exit->AS->Prop}{s:AS}(aI:List Nat)(s2:AS)(hr:MI t0.nx aI s s2)(h:T X c Q s2):T X c Q s:=T.mk λa w hm=>h.h a w (hm.EX hr)
def ZY{α:Type}{x y:Code}{Q:Exit->AS->Prop}{s:AS}(S:α->AS)(P:α->Prop)(h1:T X x (KL (λs'=>∃ a,P a/\bf t0.nx s' (S a)) Q) s)(h2:∀ a,P a->T X y Q (S a)):T X (.seq x y) Q s:=T.seq (T.mono h1 λe s' h=>by
 cases e
 case normal=>obtain⟨a,hp,h⟩:=h;exact T.le (S a) h (h2 a hp)
 all_goals exact h)
end
def fB{N n m:Nat}{g h:Nat->V}(e:n=m)(hc:∀ k,k<n->VW N (g k) (h k)):aW N (.Wp n g) (.Wp m h):=⟨e,hc⟩
end
section
abbrev oD:=List (Option (Nat×Nat))
def sW(N i:Nat)(D:Nat->Bool):Nat->oD->List Nat
 |_,[]=>[]
 |k,none::r=>k::sW N i D (k+1) r
 |k,some (e,q)::r=>(bif Nat.beq e i then N+q else(bif D e then k else N+100+k))::sW N i D (k+1) r
def je(P:Nat->Prop):V->Prop
 |.ptr i _=>P i
 |.rp i _ _ _=>P i
 |.row i _=>P i
 |.vw i _ _ _=>P i
 |.agg n g=>∀ k,k<n->je P (g k)
 |.gQ n g=>∀ k,k<n->je P (g k)
 |.fn _ _ n g=>∀ k,k<n->je P (g k)
 |.mp i=>P i
 |.kQ _ _ v=>je P v
 |_=>True
def xu{φ:Nat->Option Nat}{N:Nat}{P:Nat->Prop}(hP:∀ k,P k->k<N/\φ k=some k):∀ {v:V},je P v->VW N (dI φ v) v:=by
 intro v;induction v with
 |ptr i o=>intro h;obtain⟨h1,h2⟩:=hP i h;simp only[dI,h2];exact VW.refl h1
 |rp i n j c=>intro h;obtain⟨h1,h2⟩:=hP i h;simp only[dI,h2];exact VW.refl h1
 |row i n=>intro h;obtain⟨h1,h2⟩:=hP i h;simp only[dI,h2];exact VW.refl h1
 |vw i n lo m=>intro h;obtain⟨h1,h2⟩:=hP i h;simp only[dI,h2];exact VW.refl h1
 |mp i=>intro h;obtain⟨h1,h2⟩:=hP i h;simp only[dI,h2];exact VW.refl h1
 |agg n g ih=>intro h;exact VW.agg λk hk=>ih k (h k hk)
 |gQ n g ih=>intro h;exact VW.gQ λk hk=>ih k (h k hk)
 |fn f nf n g ih=>
  intro h;exact⟨λk hk=>(ih k (h k hk)).1,λG o w u ⟨fs,cs,e,h1,h2,h3⟩=>⟨fs,cs,e,h1,h2,λk x hx=>(ih k (h k (by rw[<-h2,<-Array.size_append];exact(Array.getElem?_eq_some_iff.1 hx).1))).2 _ _ _ _ (h3 k x hx)⟩⟩
 |kQ t w v ih=>intro h;exact⟨(ih h).1,λG o w' u hu=>⟨λe=>(ih h).2 _ _ _ _ (hu.1 e),hu.2⟩⟩
 |top=>exact λ_=>VW.top
 |d x=>exact λ_=>VW.refl trivial
 |dC=>exact λ_=>VW.refl trivial
 |dp s g=>exact λ_=>VW.refl trivial
def adW:∀ {l:List Nat},(∀ i j a:Nat,l[i]?=some a->l[j]?=some a->i=j)->iJ l=true
 |[],_=>rfl
 |a::r,h=>by
  have ih:iJ r=true:=adW λi j b h1 h2=>by
   have:=h (i+1) (j+1) b (by simpa using h1) (by simpa using h2);omega
  unfold iJ;rw[ih,Bool.and_true];rcases he:bY r a with _|k
  ·rfl
  ·have:=h 0 (k+1) a (by simp) (by simpa using yx he);omega
def AQ:oD->Bool
 |[]=>true
 |none::r=>AQ r
 |some (e,q)::r=>Nat.blt q 100&&(r.all λx=>match x with|some (e',q')=>!(Nat.beq e e'&&Nat.beq q q')|none=>true)&&AQ r
def NY:∀ {own:oD} {i e q:Nat},AQ own=true->own[i]?=some (some (e,q))->q<100
 |[],i,_,_,_,h=>by simp at h
 |x::r,0,e,q,ho,h=>by
  obtain rfl:x=some (e,q):=by simpa using h
  have ho:(Nat.blt q 100&&_&&AQ r)=true:=ho;obtain⟨h1,_⟩:=kZ ho;exact mX (kZ h1).1
 |x::r,i+1,e,q,ho,h=>by
  have ho':AQ r=true:=by
   obtain _|⟨e',q'⟩:=x
   ·exact ho
   ·exact(kZ ho).2
  exact NY ho' (by simpa using h)
def adV:∀ {own:oD} {i j e q:Nat},AQ own=true->own[i]?=some (some (e,q))->own[j]?=some (some (e,q))->i=j
 |[],i,_,_,_,_,h,_=>by simp at h
 |x::r,i,j,e,q,ho,h1,h2=>by
  have ho':AQ r=true:=by
   obtain _|⟨e',q'⟩:=x
   ·exact ho
   ·exact(kZ ho).2
  have key:∀ k:Nat,r[k]?=some (some (e,q))->x=some (e,q)->False:=by
   intro k hk hx;subst hx;have ho:(Nat.blt q 100&&(r.all λx=>match x with|some (e',q')=>!(Nat.beq e e'&&Nat.beq q q')|none=>true)&&AQ r)=true:=ho;have h3:=(kZ (kZ ho).1).2;rw[y7]at h3;have:=h3 _ (vK hk);simp at this
  obtain _|i:=i <;> obtain _|j:=j
  ·rfl
  ·exact(key j (by simpa using h2) (by simpa using h1)).elim
  ·exact(key i (by simpa using h1) (by simpa using h2)).elim
  ·have:=adV (i:=i) (j:=j) (e:=e) (q:=q) ho' (by simpa using h1) (by simpa using h2);omega
def Ns(N i:Nat)(D:Nat->Bool):∀(k:Nat) (own:oD),(sW N i D k own).length=own.length
 |_,[]=>rfl
 |k,none::r=>by simp[sW,Ns N i D (k+1) r]
 |k,some (e,q)::r=>by simp[sW,Ns N i D (k+1) r]
def BM(N i:Nat)(D:Nat->Bool):∀(k:Nat) (own:oD) (j:Nat) (x:Option (Nat×Nat)),own[j]?=some x->(sW N i D k own)[j]?=some (match x with|none=>k+j|some (e,q)=>bif Nat.beq e i then N+q else(bif D e then k+j else N+100+(k+j)))
 |_,[],j,x,h=>by simp at h
 |k,y::r,0,x,h=>by
  obtain rfl:y=x:=by simpa using h
  obtain _|⟨e,q⟩:=y <;> simp[sW]
 |k,y::r,j+1,x,h=>by
  have:=BM N i D (k+1) r j x (by simpa using h);rw[show k+(j+1)=k+1+j by omega,<-this];obtain _|⟨e,q⟩:=y <;> simp[sW]
def Q8{N i:Nat}{D:Nat->Bool}{own:oD}(ho:AQ own=true)(hN:own.length=N):iJ (sW N i D 0 own)=true:=by
  refine adW λa b c h1 h2=>?_
  have la:a<own.length:=by rw[<-Ns N i D 0 own];exact(List.getElem?_eq_some_iff.1 h1).1
  have lb:b<own.length:=by rw[<-Ns N i D 0 own];exact(List.getElem?_eq_some_iff.1 h2).1
  have ea:=dV la;have eb:=dV lb;rw[BM N i D 0 own a _ ea]at h1;rw[BM N i D 0 own b _ eb]at h2;rcases hx:own[a] with _|⟨e,q⟩ <;> rcases hy:own[b] with _|⟨e',q'⟩ <;> rw[hx]at h1 ea <;> rw[hy]at h2 eb <;> simp only[jq,Option.some.injEq]at h1 h2
  · omega
  · have q1:=NY ho eb;cases h3:Nat.beq e' i <;> cases h4:D e' <;> simp only[h3,h4,dw,bz]at h2 <;> omega
  · have q1:=NY ho ea;cases h3:Nat.beq e i <;> cases h4:D e <;> simp only[h3,h4,dw,bz]at h1 <;> omega
  · have q1:=NY ho ea;have q2:=NY ho eb;rcases h3:Nat.beq e i with _|_ <;> rcases h5:Nat.beq e' i with _|_ <;> rcases h4:D e with _|_ <;> rcases h6:D e' with _|_ <;> simp only[h3,h4,h5,h6,dw,bz]at h1 h2
    all_goals first
      | omega
      | (have e1:=dJ h3
         have e2:=dJ h5;subst e1 e2;obtain rfl:q=q':=qO;exact adV ho ea eb)
def KA(M:List Nat)(i:Nat)(D:Nat->Bool):Nat->Prop
 |0=>True
 |n+1=>(bif (M.getD i 0).testBit n then D n=true else(bif (M.getD n 0).testBit i||Nat.beq n i then D n=false else True))/\KA M i D n
def ad8{M:List Nat}{i:Nat}{D:Nat->Bool}:∀ {n:Nat},(∀ e,e<n->(M.getD i 0).testBit e=true->D e=true)->(∀ e,e<n->(M.getD e 0).testBit i=true\/e=i->D e=false)->KA M i D n
 |0,_,_=>trivial
 |n+1,h1,h2=>by
  refine⟨?_,ad8 (λe he=>h1 e qO) (λe he=>h2 e qO)⟩;rcases ha:(M.getD i 0).testBit n with _|_
  ·rcases hb:(M.getD n 0).testBit i||Nat.beq n i with _|_
   ·exact trivial
   ·refine h2 n qO ?_;rw[Bool.or_eq_true]at hb;exact hb.imp id dJ
  ·exact h1 n qO ha
def xN(D:Nat->Bool)(i:Nat)(k:Nat):Bool:=bif Nat.beq k i then true else D k
def aag(own:oD)(k:Nat):Prop:=own[k]?=some none
def awG(own:oD)(M:List Nat)(e k:Nat):Prop:=own[k]?=some none\/∃ c q,own[k]?=some (some (c,q))/\(c=e\/(M.getD e 0).testBit c=true)
def slQ(P:Nat->Prop):List (Nat×V)->Prop
 |[]=>True
 |(j,v)::r=>je P v/\slQ P r
def XN{P:Nat->Prop}:∀ {l:List (Nat×V)},slQ P l->∀ j,je P (dD l j)
 |[],_,j=>trivial
 |(k,v)::r,h,j=>by
  show je P (bif Nat.beq k j then v else dD r j);cases Nat.beq k j
  ·exact XN h.2 j
  ·exact h.1
section
variable {t0:ST} {X:Cx t0}
variable {s:AS} {l:List Oper} {vs:List V} {N:Nat} {own:oD} {S:(Nat->Bool)->ST} {Q:Exit->Act->World->Prop}
def rG(listed:Array Bool)(k:Nat):Bool:=listed.getD k true
structure aij (X:Cx t0) (s:AS) (l:List Oper) (vs:List V) (S:(Nat->Bool)->ST) (listed:Array Bool) (a:Act) (w:World):Prop where
 size:listed.size=l.length
 closed:Closed l (λk=>listed.getD k true=true)
 mod:∃ G,bZ G (S (rG listed)) w/\a.tmps.size=s.nt/\a.defers=X.ds/\Stp X.G X.t.get X.w G (S (rG listed)).get w /\
  (∀(i:Nat) (o:Oper) (d:Nat) (v:V),l[i]?=some o->o.dst=some d->listed.getD i true=true->vs[i]?=some v->aY G (S (rG listed)).get w v (a.tmps.getD d undef)) /\
  ∀ j,(∀ k o,l[k]?=some o->o.dst=some j->listed.getD k true=true->False)->aY G (S (rG listed)).get w (dD s.sl j) (a.tmps.getD j undef)
end
end
def af.fin{f:Nat}{args:List V}{t:ST}{Q K:V->ST->Prop}(h:af f args t Q)(hk:∀(X:Cx t) (v:V) (t':ST),Q v t'->Fin X v t' K):af f args t K:=
 ⟨h.1,λG w us hg hl hv=>(h.2 G w us hg hl hv).mono λe w' ⟨v,V,t',G',h1,h2,h3,h4,h5⟩=>by
  obtain⟨v',t2,G2,q1,q2,q3,q4⟩:=(hk ⟨G,w,hg,[]⟩ V t' h2).h G' w' v h3 h4 h5;exact⟨v,v',t2,G2,h1,q1,q2,q3,q4⟩⟩
def af.I7{f:Nat}{args:List V}{t t1:ST}{r:V}{K:V->ST->Prop}(h:af f args t (λv t=>v=r/\t=t1))(hk:∀ X:Cx t,Fin X r t1 K):af f args t K:=
 h.fin λX v t' ⟨e1,e2⟩=>by subst e1 e2;exact hk X
def BW.agg{st:ST}{n:Nat}{g h:Nat->V}(hh:∀ k,k<n->BW st (g k) (h k)):BW st (.agg n g) (.agg n h):=λG w u hg ⟨cs,e,hn,hc⟩=>
 ⟨cs,e,hn,λk x hx=>⟨(hc k x hx).1,hh k (by rw[<-hn];exact(Array.getElem?_eq_some_iff.1 hx).1) G w x hg (hc k x hx).2⟩⟩
def aau(st:ST)(g h:Nat->V):Nat->Prop
 |0=>True
 |n+1=>aau st g h n/\BW st (g n) (h n)
def adg{st:ST}{g h:Nat->V}:∀ {n:Nat},aau st g h n->∀ k,k<n->BW st (g k) (h k)
 |0,_,k,hk=>by omega
 |n+1,hc,k,hk=>by
  by_cases e:k=n
  ·subst e;exact hc.2
  ·exact adg hc.1 k qO
def agb{st:ST}{n:Nat}{g h:Nat->V}(hh:aau st g h n):BW st (.agg n g) (.agg n h):=BW.agg (adg hh)
def aj3{g:Nat->Nat->V}{j c a b:Nat}{h:Nat->V}(e:h 0=g j c):mr g j c 1 h a b=g a b:=by
 unfold mr;rcases h1:Nat.beq a j with _|_
 ·rfl
 ·rcases h2:Nat.ble c b&&Nat.blt b (c+1) with _|_
  ·rfl
  ·obtain⟨q1,q2⟩:=kZ h2;have:=dJ h1;subst this;have:=uf q1;have:=mX q2;obtain rfl:b=c:=qO;show h (b-b)=g a b;rw[Nat.sub_self,e]
def ag6{g:Nat->Nat->V}{j c a b:Nat}{h:Nat->V}:mr g j c 1 h a b=if a=j/\b=c then h 0 else g a b:=by
 unfold mr;by_cases h1:a=j
 ·subst h1;by_cases h2:b=c
  ·subst h2;rw[if_pos ⟨rfl,rfl⟩,show Nat.beq a a=true by simp,show Nat.ble b b=true from Nat.ble_eq_true_of_le (bF _),show Nat.blt b (b+1)=true from by rw[Nat.blt_eq];omega,Nat.sub_self];rfl
  ·rw[if_neg (λe=>h2 e.2)];have:(Nat.ble c b&&Nat.blt b (c+1))=false:=Bool.eq_false_iff.2 λe=>by
    obtain⟨q1,q2⟩:=kZ e;have:=uf q1;have:=mX q2;omega
   rw[this];simp
 ·rw[if_neg (λe=>h1 e.1)];have:Nat.beq a j=false:=Bool.eq_false_iff.2 λe=>h1 (dJ e)
  rw[this];rfl
section
def U9{a b:Bool}(h:(bif a then b else false)=true):a=true/\b=true:=by cases a <;> first|exact⟨rfl,h⟩|cases h
def ahE{a b:Bool}(h:(bif a then b else false)=false):a=false\/b=false:=by cases a <;> first|exact .inl rfl|exact .inr h
section
variable {α:Type} {f:Nat} {args args':List V} {st bJ t1 t2:ST} {p:α->Prop} {q:Prop} {r:α->V} {r':V} {K:V->ST->Prop}
def LK(p:α->Prop)(r:α->V)(t1:ST)(q:Prop)(r':V)(t2:ST)(v:V)(t:ST):Prop:=(∃ a,p a/\v=r a/\t=t1)\/(q/\v=r'/\t=t2)
def Wx(aI:List Nat)(h:af f args' bJ (LK p r t1 q r' t2))(hn:iJ aI=true)(hs:sQ aI st.nx=true)(hnx:bJ.nx=aI.length)(ha:lI bJ.nx (bY aI) args args')(ho:pV bJ.nx (bY aI) st aI bJ.st)
  (hk1:∀ a,p a->pz st.nx λn=>K (pR aI n (r a)) (Aw st aI n t1)) (hk2:q->pz st.nx λn=>K (pR aI n r') (Aw st aI n t2)):af f args st K:=
 af.frame h hn (J5 hs) hnx ha ho λv t e=>by
  obtain⟨a,e1,e2,e3⟩|⟨e1,e2,e3⟩:=e
  ·have:=hk1 a e1;rw[uM]at this;subst e2 e3;exact this
  ·have:=hk2 e1;rw[uM]at this;subst e2 e3;exact this
def Fin.mono{t0:ST}{X:Cx t0}{v:V}{t:ST}{K K':V->ST->Prop}(h:Fin X v t K)(hk:∀ v t,K v t->K' v t):Fin X v t K':=Fin.mk λG w u h1 h2 h3=>by
 obtain⟨v',t2,G2,q1,q2⟩:=h.h G w u h1 h2 h3;exact⟨v',t2,G2,hk _ _ q1,q2⟩
def O3{t0:ST}{X:Cx t0}{v:V}{t:ST}(a:α)(hp:p a)(h:Fin X v t (λv t=>v=r a/\t=t1)):Fin X v t (LK p r t1 q r' t2):=h.mono λ_ _ e=>.inl ⟨a,hp,e⟩
def Z4{t0:ST}{X:Cx t0}{v:V}{t:ST}(hq:q)(h:Fin X v t (λv t=>v=r'/\t=t2)):Fin X v t (LK p r t1 q r' t2):=h.mono λ_ _ e=>.inr ⟨hq,e⟩
end
end
section
def CQ(n:Nat):Code->Option (Array Oper)
 |.region i ops _=>bif Nat.beq i n then some ops else none
 |.seq a b=>match CQ n a with|some x=>some x|none=>CQ n b
 |.cond _ a b=>match CQ n a with|some x=>some x|none=>CQ n b
 |.block _ a=>CQ n a
 |.loop a=>CQ n a
 |.rangeFunc _ _ a b=>match CQ n a with|some x=>some x|none=>CQ n b
 |.scope a=>CQ n a
 |_=>none
def nP(f:Func)(n:Nat):Array Oper:=match f.body with|some c=>(match CQ n c with|some x=>x|none=>#[])|none=>#[]
def ni(P:Nat->Prop):aK->Prop
 |.dead=>True
 |.Wp n g=>∀ k,k<n->je P (g k)
 |.row _ s n g=>∀ j,j<n->∀ k,k<s->je P (g j k)
 |.map es=>∀ k v,dY es k=some v->je P v
def aa1(P:Nat->Prop):List (Int×V)->Prop
 |[]=>True
 |p::r=>je P p.2/\aa1 P r
def Yb{P:Nat->Prop}:∀ {l:List (Int×V)},aa1 P l->ni P (.map l)
 |[],_=>λk v h=>by cases h
 |(j,u)::r,h=>λk v hv=>by
  have hv:(bif decide (j=k) then some u else dY r k)=some v:=hv;cases hd:decide (j=k)
  ·rw[hd]at hv;exact Yb h.2 k v hv
  ·rw[hd]at hv;obtain rfl:=fD hv;exact h.1
def Jv{φ:Nat->Option Nat}{N:Nat}{P:Nat->Prop}(hP:∀ k,P k->k<N/\φ k=some k){o:aK}(h:ni P o):aW N (mW φ o) o:=by
 cases o with
 |dead=>exact trivial
 |Wp n g=>exact⟨rfl,λk hk=>xu hP (h k hk)⟩
 |row E s n g=>exact⟨rfl,rfl,rfl,λj hj k hk=>xu hP (h j hj k hk)⟩
 |map es=>
  intro k;rw[Jr];rcases he:dY es k with _|v
  ·trivial
  ·exact xu hP (h k v he)
def He(M:List Nat)(D:Nat->Bool):Prop:=∀ e c,(M.getD e 0).testBit c=true->D e=true->D c=true
def UN(own:oD)(D:Nat->Bool)(k:Nat):Prop:=own[k]?=some none\/∃ e q,own[k]?=some (some (e,q))/\D e=true
def XC{N:Nat}{o:aK}:aW N o .dead:=by cases o <;> trivial
structure Ren (own:oD) (N i:Nat) (D:Nat->Bool) (φ:Nat->Option Nat):Prop where
 old:∀ k,own[k]?=some none->φ k=some k
 done:∀ k e q,own[k]?=some (some (e,q))->e≠i->D e=true->φ k=some k
 new:∀ k q,own[k]?=some (some (i,q))->φ (N+q)=some k
def Gy(own:oD)(N i k:Nat):Nat:=match own[k]? with
 |some (some (e,q))=>bif Nat.beq e i then N+q else k
 |_=>k
def x9(own:oD)(N i:Nat)(φ:Nat->Option Nat)(S1 S2 t:ST)(k:Nat):Prop:=
 (t.get k=S1.get k/\S2.get k=S1.get k/\Gy own N i k=k)\/aW N (mW φ (t.get (Gy own N i k))) (S2.get k)
def x9.same{own:oD}{N i:Nat}{φ:Nat->Option Nat}{S1 S2 t:ST}{k:Nat}(h1:t.get k=S1.get k)(h2:S2.get k=S1.get k)(h3:Gy own N i k=k):x9 own N i φ S1 S2 t k:=.inl ⟨h1,h2,h3⟩
def x9.new{own:oD}{N i:Nat}{φ:Nat->Option Nat}{S1 S2 t:ST}{k:Nat}(h:aW N (mW φ (t.get (Gy own N i k))) (S2.get k)):x9 own N i φ S1 S2 t k:=.inr h
def Bi(own:oD)(N i:Nat)(φ:Nat->Option Nat)(S1 S2 t:ST):Nat->Prop
 |0=>True
 |k+1=>Bi own N i φ S1 S2 t k/\x9 own N i φ S1 S2 t k
def aeC{own:oD}{N i:Nat}{φ:Nat->Option Nat}{S1 S2 t:ST}:∀ {n:Nat},Bi own N i φ S1 S2 t n->∀ k,k<n->x9 own N i φ S1 S2 t k
 |0,_,k,hk=>by omega
 |n+1,h,k,hk=>by
  by_cases e:k=n
  ·subst e;exact h.2
  ·exact aeC h.1 k qO
def Kz(i:Nat):oD->Bool
 |[]=>true
 |none::r=>Kz i r
 |some (e,_)::r=>!Nat.beq e i&&Kz i r
def WG{i:Nat}:∀ {own:oD} {k e q:Nat},Kz i own=true->own[k]?=some (some (e,q))->Nat.beq e i=false
 |[],k,e,q,_,h=>by simp at h
 |none::r,0,e,q,h,hk=>by simp at hk
 |some (a,b)::r,0,e,q,h,hk=>by
  have h:(!Nat.beq a i&&Kz i r)=true:=h;obtain⟨rfl,rfl⟩:=Prod.mk.inj (fD (fD hk));simpa using(kZ h).1
 |none::r,k+1,e,q,h,hk=>WG (own:=r) (k:=k) h (by simpa using hk)
 |some (a,b)::r,k+1,e,q,h,hk=>by
  have h:(!Nat.beq a i&&Kz i r)=true:=h;exact WG (own:=r) (k:=k) (kZ h).2 (by simpa using hk)
def Bi.refl{own:oD}{N i:Nat}{φ:Nat->Option Nat}{S1:ST}(h:Kz i own=true):∀ {n:Nat},Bi own N i φ S1 S1 S1 n
 |0=>trivial
 |n+1=>⟨Bi.refl h,.inl ⟨rfl,rfl,by
  unfold Gy;rcases ho:own[n]? with _|_|⟨e,q⟩
  ·rfl
  ·rfl
  ·simp only[WG h ho,bz]⟩⟩
def vC:List (Int×Bool×V)->List (Int×V)
 |[]=>[]
 |(k,b,v)::r=>bif b then(k,v)::vC r else vC r
def aai(k:Int):List (Int×Bool×V)->Prop
 |[]=>True
 |p::r=>p.1≠k/\aai k r
def aaZ(N:Nat)(φ:Nat->Option Nat):List (Int×Bool×V)->Prop
 |[]=>True
 |p::r=>(p.2.1=true->VW N (dI φ p.2.2) p.2.2)/\aaZ N φ r
def afG{N:Nat}{φ:Nat->Option Nat}:∀ {L:List (Int×Bool×V)},aaZ N φ L->∀ x,match dY ((vC L).map λp=>(p.1,dI φ p.2)) x,dY (vC L) x with
  |some v,some v'=>VW N v v'
  |none,none=>True
  |_,_=>False
 |[],_,x=>trivial
 |(k,b,v)::r,h,x=>by
  have ih:=afG (L:=r) h.2 x;cases b
  ·exact ih
  ·show match (bif decide (k=x) then some (dI φ v) else dY ((vC r).map λp=>(p.1,dI φ p.2)) x),(bif decide (k=x) then some v else dY (vC r) x) with
    |some v,some v'=>VW N v v'
    |none,none=>True
    |_,_=>False
   cases decide (k=x)
   ·exact ih
   ·exact h.1 rfl
def afH{k:Int}{v:V}{L2:List (Int×Bool×V)}:∀ {L1:List (Int×Bool×V)},aai k L1->∀ x,dY (vC (L1++(k,true,v)::L2)) x=bif decide (k=x) then some v else dY (vC (L1++(k,false,v)::L2)) x
 |[],_,x=>rfl
 |(j,b,u)::r,h,x=>by
  have ih:=afH (v:=v) (L2:=L2) (L1:=r) h.2 x;cases b
  ·exact ih
  ·show(bif decide (j=x) then some u else dY (vC (r++(k,true,v)::L2)) x)=bif decide (k=x) then some v else(bif decide (j=x) then some u else dY (vC (r++(k,false,v)::L2)) x)
   by_cases e:j=x
   ·rw[aX e,aT (λe2=>h.1 (e.trans e2.symm))];rfl
   ·rw[aT e];exact ih
def BV{N:Nat}{φ:Nat->Option Nat}{k:Int}{v v':V}{L2:List (Int×Bool×V)}(L1:List (Int×Bool×V))(hk:aai k L1)(hv:VW N (dI φ v') v)(hL:aaZ N φ (L1++(k,false,v)::L2)) :
  aW N (mW φ (.map ((k,v')::vC (L1++(k,false,v)::L2)))) (.map (vC (L1++(k,true,v)::L2))):=λx=>by
 have ih:=afG hL x;rw[afH hk x];show match (bif decide (k=x) then some (dI φ v') else dY ((vC (L1++(k,false,v)::L2)).map λp=>(p.1,dI φ p.2)) x),(bif decide (k=x) then some v else dY (vC (L1++(k,false,v)::L2)) x) with
  |some v,some v'=>VW N v v'
  |none,none=>True
  |_,_=>False
 cases decide (k=x)
 ·exact ih
 ·exact hv
def afI{P:Nat->Prop}:∀ {L:List (Int×Bool×V)},(∀ p∈L,p.2.1=true->je P p.2.2)->aa1 P (vC L)
 |[],_=>trivial
 |(k,b,v)::r,h=>by
  have ih:=afI (P:=P) (L:=r) λp hp=>h p (jA _ hp)
  cases b
  ·exact ih
  ·exact⟨h (k,true,v) jL rfl,ih⟩
def BR{N i k o:Nat}{φ:Nat->Option Nat}(h:φ i=some k)(hk:k<N):VW N (dI φ (.ptr i o)) (.ptr k o):=by
 refine fA ?_ hk;simp only[dI,h]
def ZW{N i k:Nat}{φ:Nat->Option Nat}(h:φ i=some k)(hk:k<N):VW N (dI φ (.mp i)) (.mp k):=by
 refine fA ?_ hk;simp only[dI,h]
def ad7:∀ {l:List (Nat×aK)} {k:Nat} {ob:aK},iJ (l.map (·.1))=true->(k,ob)∈l->axA l k=ob
 |[],k,ob,_,h=>by simp at h
 |(j,o)::r,k,ob,hn,h=>by
  have hn:((match bY (r.map (·.1)) j with|some _=>false|none=>true)&&iJ (r.map (·.1)))=true:=hn;obtain⟨h1,h2⟩:=kZ hn;show(bif Nat.beq j k then o else axA r k)=ob;obtain e|e:=List.mem_cons.1 h
  ·injection e with e1 e2
   subst e1 e2;rw[show Nat.beq k k=true by simp];rfl
  ·have hb:Nat.beq j k=false:=Bool.eq_false_iff.2 λhb=>by
    have:=dJ hb;subst this;obtain⟨i,hi,he⟩:=List.getElem_of_mem (List.mem_map_of_mem (f:=(·.1)) e);have:=nC h2 (l:=r.map (·.1)) (i:=j) (k:=i) (by rw[dV hi,he]);rw[this]at h1;cases h1
   rw[hb];exact ad7 h2 e
section
variable {t0:ST} {X:Cx t0}
def ac2:∀ {l:List (Nat×aK)} {k:Nat},(∀ j o,(j,o)∈l->j≠k)->axA l k = .dead
 |[],k,_=>rfl
 |(j,o)::r,k,h=>by
  show(bif Nat.beq j k then o else axA r k) = .dead;rw[show Nat.beq j k=false from Bool.eq_false_iff.2 λhb=>h j o jL (dJ hb)];exact ac2 λa b hab=>h a b (jA _ hab)
structure PI (X:Cx t0) (s:AS) (l:List Oper) (vs:List V) (N:Nat) (own:oD) (S:(Nat->Bool)->ST):Prop where
 len:vs.length=l.length
 vT:own.length=N
 dst:KY l=true
 back:IU l 0=true
 II:AQ own=true
 nx:∀ D,(S D).nx=N
 keys:∀ D,iJ ((S D).st.map (·.1))=true
 small:∀ D,((S D).st.map (·.1)).all (λk=>Nat.blt k N)=true
 low:∀ k,k<t0.nx->own[k]?=some none
 base:s.s.nx<=N/\∀ k,k<N->(S λk=>Nat.ble l.length k).get k = .dead\/aW N (s.s.get k) ((S λk=>Nat.ble l.length k).get k)
 KN:slQ (aag own) s.sl
 axI:∀ e v,vs[e]?=some v->je (awG own (wu l []) e) v
 ids:∀ D,He (wu l []) D->∀ k,k<N->ni (UN own D) ((S D).get k)
 Ko:∀(D:Nat->Bool) {k e q:Nat},D e=false->own[k]?=some (some (e,q))->(S D).get k = .dead
 step:∀ i o v,l[i]?=some o->vs[i]?=some v->s.fits o.dst=true/\∀(D:Nat->Bool) (φ:Nat->Option Nat),KA (wu l []) i D l.length->He (wu l []) D->Ren own N i D φ->Gf l o (Ei l vs s i o (S D)) λV t=>VW N (dI φ V) v/\Bi own N i φ (S D) (S (xN D i)) t N
def zJ(M:List Nat)(i n:Nat)(D:Nat->Bool)(e:Nat):Bool:=bif Nat.blt e n then(bif (M.getD i 0).testBit e then true else bif (M.getD e 0).testBit i||Nat.beq e i then false else D e) else D e
def aqn{M:List Nat}{i:Nat}{D:Nat->Bool}{n:Nat}(h:KA M i D n):zJ M i n D=D:=by
 have key:∀(n e:Nat),KA M i D n->e<n->(bif (M.getD i 0).testBit e then D e=true else(bif (M.getD e 0).testBit i||Nat.beq e i then D e=false else True)):=by
  intro n;induction n with
  |zero=>exact λe _ he=>ai he (qh e)
  |succ n ih=>
   intro e hk he;obtain h1|h1:=l7 e n
   ·exact ih e hk.2 h1
   ·obtain rfl:e=n:=qO;exact hk.1
 funext e;unfold zJ;rcases hb:Nat.blt e n with _|_
 ·rfl
 ·have hk:=key n e h (mX hb);revert hk;rcases(M.getD i 0).testBit e with _|_
  ·rcases(M.getD e 0).testBit i||Nat.beq e i with _|_
   ·exact λ_=>rfl
   ·exact λh=>h.symm
  ·exact λh=>h.symm
def Ud(D:Nat->Bool)(i:Nat):∃(b:Bool)(D2:Nat->Bool),D=λe=>bif Nat.beq e i then b else D2 e:=⟨D i,D,funext λe=>by
 rcases h:Nat.beq e i with _|_
 ·rfl
 ·rw[dJ h];rfl⟩
def UL{l:List Oper}{vs:List V}{s:AS}{N:Nat}{own:oD}{S:(Nat->Bool)->ST}(M:List Nat)(n:Nat)(hM:wu l []=M)(hn:l.length=n)(h:∀ i o v,l[i]?=some o->vs[i]?=some v->s.fits o.dst=true/\∀(D:Nat->Bool) (φ:Nat->Option Nat),He M (zJ M i n D)->Ren own N i (zJ M i n D) φ->Gf l o (Ei l vs s i o (S (zJ M i n D))) λV t=>VW N (dI φ V) v/\Bi own N i φ (S (zJ M i n D)) (S (xN (zJ M i n D) i)) t N) :
  ∀ i o v,l[i]?=some o->vs[i]?=some v->s.fits o.dst=true/\∀(D:Nat->Bool) (φ:Nat->Option Nat),KA (wu l []) i D l.length->He (wu l []) D->Ren own N i D φ->Gf l o (Ei l vs s i o (S D)) λV t=>VW N (dI φ V) v/\Bi own N i φ (S D) (S (xN D i)) t N:=λi o v ho hv=>⟨(h i o v ho hv).1,λD φ hk hc hr=>by
 subst hM hn;have:=(h i o v ho hv).2 D φ;rw[aqn hk]at this;exact this hc hr⟩
def adL{N i:Nat}{D:Nat->Bool}{own:oD}(ho:AQ own=true)(hN:own.length=N):Ren own N i D (bY (sW N i D 0 own)) where
 old:=λk h=>by
  have:=BM N i D 0 own k _ h;rw[jq]at this;exact nC (Q8 ho hN) this
 done:=λk e q h hne hd=>by
  have:=BM N i D 0 own k _ h;rw[jq]at this;have hb:Nat.beq e i=false:=Bool.eq_false_iff.2 λe=>hne (dJ e)
  simp only[hb,hd,bz,dw]at this;exact nC (Q8 ho hN) this
 new:=λk q h=>by
  have:=BM N i D 0 own k _ h;have hb:Nat.beq i i=true:=by simp
  simp only[hb,dw]at this;exact nC (Q8 ho hN) this
def afz{N:Nat}{φ:Nat->Option Nat}{t:ST}{aI:List Nat}:∀ {l:List (Nat×aK)},(∀ k ob,(k,ob)∈l->∃ i,aI[k]?=some i/\aW N (mW φ (t.get i)) ob)->pV N φ t aI l
 |[],_=>trivial
 |(k,ob)::r,h=>⟨h k ob jL,afz λj o hj=>h j o (jA _ hj)⟩
def PI.bJ{s:AS}{l:List Oper}{vs:List V}{N:Nat}{own:oD}{S:(Nat->Bool)->ST}(h:PI X s l vs N own S){i:Nat}{D:Nat->Bool}(hc:He (wu l []) D)(hi:D i=false){t:ST}(hch:Bi own N i (bY (sW N i D 0 own)) (S D) (S (xN D i)) t N):pV N (bY (sW N i D 0 own)) t (sW N i D 0 own) (S (xN D i)).st:=by
 have hr:=adL (i:=i) (D:=D) h.II h.vT;refine afz λk ob hk=>?_
 have hkN:k<N:=by
  have:=List.all_eq_true.1 (h.small (xN D i)) k (List.mem_map_of_mem (f:=(·.1)) hk);exact mX this
 have hob:(S (xN D i)).get k=ob:=ad7 (h.keys _) hk;have hko:k<own.length:=by rw[h.vT];exact hkN
 have hp:=BM N i D 0 own k _ (dV hko);rw[jq]at hp;refine⟨_,hp,?_⟩;obtain⟨q1,q2,q3⟩|q:=aeC hch k hkN
 ·rw[<-hob,q2];have hid:=h.ids D hc k hkN;rcases hx:own[k] with _|⟨e,q⟩
  ·show aW N (mW _ (t.get k)) _;rw[q1];refine Jv (P:=UN own D) (λj hj=>?_) hid;obtain hj|⟨e,q,hj,hd⟩:=hj
   ·exact⟨by rw[<-h.vT];exact(List.getElem?_eq_some_iff.1 hj).1,hr.old j hj⟩
   ·exact⟨by rw[<-h.vT];exact(List.getElem?_eq_some_iff.1 hj).1,hr.done j e q hj (λe'=>by rw[e',hi]at hd;cases hd) hd⟩
  ·have hgo:own[k]?=some (some (e,q)):=by rw[dV hko,hx]
   by_cases Qv:e=i
   ·exfalso;unfold Gy at q3;rw[hgo]at q3;simp only[Qv,show Nat.beq i i=true by simp,dw]at q3;omega
   ·have hb:Nat.beq e i=false:=Bool.eq_false_iff.2 λe=>Qv (dJ e)
    simp only[hb,bz];rcases hd:D e with _|_
    ·simp only[bz];have:=h.Ko D hd hgo;rw[this];exact XC
    ·simp only[dw];rw[q1];refine Jv (P:=UN own D) (λj hj=>?_) hid;obtain hj|⟨e,q,hj,hd⟩:=hj
     ·exact⟨by rw[<-h.vT];exact(List.getElem?_eq_some_iff.1 hj).1,hr.old j hj⟩
     ·exact⟨by rw[<-h.vT];exact(List.getElem?_eq_some_iff.1 hj).1,hr.done j e q hj (λe'=>by rw[e',hi]at hd;cases hd) hd⟩
 ·rw[<-hob];rcases hx:own[k] with _|⟨e,q9⟩
  ·have hgo:own[k]?=some none:=by rw[dV hko,hx]
   unfold Gy at q;rw[hgo]at q;exact q
  ·have hgo:own[k]?=some (some (e,q9)):=by rw[dV hko,hx]
   unfold Gy at q;rw[hgo]at q;simp only at q;by_cases Qv:e=i
   ·subst Qv;simp only[show Nat.beq e e=true by simp,dw]at q ⊢;exact q
   ·have hb:Nat.beq e i=false:=Bool.eq_false_iff.2 λe=>Qv (dJ e)
    simp only[hb,bz]at q ⊢;rcases hd:D e with _|_
    ·have hu:xN D i e=false:=by unfold xN;rw[hb];exact hd
     have:=h.Ko _ hu hgo;rw[this];exact XC
    ·simp only[dw];exact q
variable {s:AS} {l:List Oper} {vs:List V} {N:Nat} {own:oD} {S:(Nat->Bool)->ST} {Q:Exit->Act->World->Prop}
def aoD(h:PI X s l vs N own S)(hend:∀ a w,Mod X ⟨s.nt,rf l vs++s.sl,S (λ_=>true)⟩ a w->Q .normal a w) :
  ∀(fuel:Nat) (listed:Array Bool) (a:Act) (w:World),Bl listed=fuel->aij X s l vs S listed a w->wpAny prog .any l.toArray Q fuel listed a w:=by
 have fin:∀ listed a w,aij X s l vs S listed a w->(∀ i,i<l.length->listed.getD i true=true)->Q .normal a w:=by
  intro listed a w hW hall;have e:rG listed=λ_=>true:=funext λk=>by
   show listed.getD k true=true;obtain h1|h1:=l7 k l.length
   ·exact hall k h1
   ·have:=hW.size;have h2:¬k<listed.size:=qO;simp[h2]
  obtain⟨G,hg,h1,h2,hx,h3,h4⟩:=hW.mod;rw[e]at hg hx h3 h4;refine hend a w ⟨G,hg,⟨⟨h1,λj=>?_⟩,h2⟩,hx⟩;obtain⟨q1,q2⟩|⟨i,o,v,q1,q2,q3,q4⟩:=X5 s.sl j l vs h.len.symm
  ·rw[show dD (AS.mk s.nt (rf l vs++s.sl) (S λ_=>true)).sl j=dD s.sl j from q2];exact h4 j (λk o hk hd _=>q1 o (vK hk) hd)
  ·rw[show dD (AS.mk s.nt (rf l vs++s.sl) (S λ_=>true)).sl j=v from q4];exact h3 i o j v q1 q2 (hall i (List.getElem?_eq_some_iff.1 q1).1) q3
 intro fuel;induction fuel with
 |zero=>
  intro listed a w hu hW;refine⟨?_,fin listed a w hW λi _=>RV hu i⟩;refine List.eq_nil_iff_forall_not_mem.2 λj hj=>?_
  have:=(mem_ready.1 hj).1;rw[RV hu j]at this;cases this
 |succ fuel ih=>
  intro listed a w hu hW;have hs:=hW.size;have Lt:=Nj hW.closed l [] [] rfl rfl (by intro k e h;simp[List.getD]at h);constructor
  ·intro hr;have hall:∀ m k,k<m->k<l.length->listed.getD k true=true:=by
    intro m;induction m with
    |zero=>intro k h;omega
    |succ m ih=>
     intro k hkm hkl;by_cases hlt:k<m
     ·exact ih k hlt hkl
     ·obtain rfl:k=m:=qO;cases hg:listed.getD k true with
      |true=>rfl
      |false=>
       exfalso;have hk':l[k]?=some l[k]:=dV hkl;have:k∈Region.ready .any l.toArray listed:=mem_ready.2 ⟨hg,l[k],by simp,λe he hbd=>by
        have hlt:=Ju h.back hk' e he hbd;have:=ih e.on qO qO;obtain h'|h':=l7 e.on listed.size
        ·simpa [h'] using this
        ·omega⟩
       rw[hr]at this;cases this
   exact fin listed a w hW λi hi=>hall (i+1) i qO hi
  ·intro i hi;obtain⟨hun,o,ho,hafter⟩:=mem_ready.1 hi;have ho':l[i]?=some o:=by simpa using ho
   have hil:i<l.length:=(List.getElem?_eq_some_iff.1 ho').1;have hdl:∀ e∈o.after.toList,Region.binds .any e=true->listed.getD e.on true=true:=by
    intro e he hbd;have h1:=hafter e (by simpa using he) hbd;have h2:=Ju h.back ho' e (by simpa using he) hbd;obtain h'|h':=l7 e.on listed.size
    ·simpa [h'] using h1
    ·omega
   have U3:∀ e,((wu l []).getD i 0).testBit e=true->e≠i/\listed.getD e true=true:=by
    have hc2:Closed l (λk=>k=i\/listed.getD k true=true):=by
     intro k o2 hk hL e he hbd;obtain rfl|hL:=hL
     ·rw[hk]at ho';injection ho' with ho'
      subst ho';exact .inr (hdl e he hbd)
     ·exact .inr (hW.closed k o2 hk hL e he hbd)
    intro e he;have hne:e≠i:=by
     have:=Zc h.back l [] [] rfl rfl (by intro k e h;simp[List.getD]at h) i e he;omega
    exact⟨hne,(Nj hc2 l [] [] rfl rfl (by intro k e h;simp[List.getD]at h) i e he (.inl rfl)).resolve_left hne⟩
   have hiv:i<vs.length:=by have:=h.len;omega
   have hv:vs[i]?=some (vs[i]'hiv):=dV hiv;obtain⟨iY,hstep⟩:=h.step i o _ ho' hv;have hst:=hstep (rG listed) _ (ad8 (λe _ he=>(U3 e he).2) (λe _ he=>by
    obtain he|rfl:=he
    ·rcases hl:listed.getD e true with _|_
     ·exact hl
     ·have:=Lt e i he hl;rw[hun]at this;cases this
    ·exact hun)) (λe c hc he=>Lt e c hc he) (adL h.II h.vT)
   obtain⟨G,hg,hnt,hdf,hx,h3,h4⟩:=hW.mod;have ZG:oZ G (Ei l vs s i o (S (rG listed))) a w:=⟨hnt,λj=>by
    show aY G (S (rG listed)).get w (dD (sG l vs o.after.toList++yE i l s.sl o.op.operands.toList) j) _;obtain h|⟨e,he,hb,o',v,q1,q2,q3,q4⟩:=X6 (yE i l s.sl o.op.operands.toList) j o.after.toList
    ·rw[h];obtain h|⟨q1,q2⟩:=H9 l s.sl i j o.op.operands.toList
     ·rw[h];trivial
     ·rw[q2];refine h4 j λk o2 hk jo hlk=>?_
      obtain⟨e,he,hb,hon⟩:=QL (q1 o2 (vK hk) jo);have:=hW.closed k o2 hk hlk e (by simpa using he) hb;rw[hon,hun]at this;cases this
    ·rw[q4];exact h3 e.on o' j v q1 q2 (hdl e he hb) q3⟩
   refine abI l.toArray ho hg ZG hst λu V t' G' w' hK lN hst' Jk=>?_
   obtain⟨hVW,hch⟩:=hK;have hob:=h.bJ (D:=rG listed) (λe c hc he=>Lt e c hc he) hun hch;have hgs:∀ k,(listed.setIfInBounds i true).getD k true=true↔(k=i\/listed.getD k true=true):=by
    intro k;by_cases hki:k=i
    ·subst hki;rw[uJ,Array.getElem?_setIfInBounds_self];simp only[true_or,iff_true];split <;> simp
    ·rw[getD_set_ne _ (Ne.symm hki)];simp[hki]
   have eD:rG (listed.setIfInBounds i true)=xN (rG listed) i:=funext λk=>by
    show(listed.setIfInBounds i true).getD k true=bif Nat.beq k i then true else listed.getD k true
    rcases hb:Nat.beq k i with _|_
    ·rw[bz,getD_set_ne _ (λe=>by subst e;simp at hb)]
    ·rw[dw];exact(hgs k).2 (.inl (dJ hb))
   have hcl:Closed l (λk=>(listed.setIfInBounds i true).getD k true=true):=by
    intro k o2 hk hL e he hbd;rw[hgs]at hL;refine(hgs _).2 (.inr ?_);obtain rfl|hL:=hL
    ·rw[hk]at ho';injection ho' with ho'
     subst ho';exact hdl e he hbd
    ·exact hW.closed k o2 hk hL e he hbd
   have hu2:Bl (listed.setIfInBounds i true)=fuel:=by have:=ae2 listed i hun;omega
   have hnd:iJ (sW N i (rG listed) 0 own)=true:=Q8 h.II h.vT;have hnx:(S (xN (rG listed) i)).nx=(sW N i (rG listed) 0 own).length:=by rw[h.nx,Ns,h.vT]
   have PY:pV (S (xN (rG listed) i)).nx (bY (sW N i (rG listed) 0 own)) t' (sW N i (rG listed) 0 own) (S (xN (rG listed) i)).st:=by rw[h.nx];exact hob
   have hsame:∀ k,own[k]?=some none\/(∃ c q,own[k]?=some (some (c,q))/\c≠i/\listed.getD c true=true)->k<N/\bY (sW N i (rG listed) 0 own) k=some k:=by
    intro k hk;have hlt:k<N:=by
     rw[<-h.vT];obtain hk|⟨c,q,hk,_⟩:=hk <;> exact(List.getElem?_eq_some_iff.1 hk).1
    refine⟨hlt,nC hnd ?_⟩;obtain hk|⟨c,q,hk,hc,hlc⟩:=hk
    ·rw[BM _ _ _ _ _ _ _ hk];simp
    ·rw[BM _ _ _ _ _ _ _ hk];have hb:Nat.beq c i=false:=Bool.eq_false_iff.2 λe=>hc (dJ e)
     have hl:rG listed c=true:=hlc;simp[hb,hl]
   refine ih _ _ _ hu2 ⟨by simpa using hs,hcl,?_⟩;rw[eD];refine⟨G'.sub (sW N i (rG listed) 0 own),RZ lN hnd hnx PY,?_,?_,afa lN (hx.trans hst') hnd PY (λk hk=>?_),?_,?_⟩
   ·cases o.dst <;> simp[Act.put,hnt]
   ·cases o.dst <;> simp[Act.put,hdf]
   ·rw[BM _ _ _ _ _ _ _ (h.low k hk)];simp
   ·intro j o' d v q1 q2 q3 q4;by_cases hji:j=i
    ·subst hji;rw[q1]at ho';injection ho' with ho'
     subst ho';rw[hv]at q4;injection q4 with q4
     rw[q2,adN a d u (by rw[hnt];rw[q2]at iY;exact mX iY),<-q4];exact FK PY (by rw[h.nx];exact hVW) Jk
    ·rw[RD a o.dst u d (aet h.dst q1 ho' hji q2)];have hlj:=((hgs j).1 q3).resolve_left hji;have hvj:=(h3 j o' d v q1 q2 hlj q4).dX hst' hg.axy;refine FK PY ?_ hvj;rw[h.nx];refine xu (λk hk=>hsame k ?_) (h.axI j v q4);obtain hk|⟨c,q,hk,hc⟩:=hk
     ·exact .inl hk
     ·have hlc:listed.getD c true=true:=by
       obtain rfl|hc:=hc
       ·exact hlj
       ·exact Lt j c hc hlj
      exact .inr ⟨c,q,hk,λe=>(by subst e;rw[hun]at hlc;cases hlc),hlc⟩
   ·intro j q;rw[RD a o.dst u j (λe=>q i o ho' e ((hgs i).2 (.inl rfl)))];have hvj:=(h4 j λk o2 hk jo pK=>q k o2 hk jo ((hgs k).2 (.inr pK))).dX hst' hg.axy;refine FK PY ?_ hvj;rw[h.nx];exact xu (λk hk=>hsame k (.inl hk)) (XN h.KN j)
def Oq{id:Nat}{ops:Array Oper}{Q:Exit->AS->Prop}{s:AS}(vs:List V)(N:Nat)(own:oD)(S:(Nat->Bool)->ST)(hm:prog.follows .mixedOrders=true)(h:PI X s ops.toList vs N own S)
  (hq:Q .normal ⟨s.nt,rf ops.toList vs++s.sl,S (λ_=>true)⟩):T X (.region id ops true) Q s:=T.mk λa w hmod=>by
 refine wp_region_any hm ?_;have e:ops=ops.toList.toArray:=by simp
 have key:=aoD (X:=X) (Q:=λe a' w'=>∃ s',Q e s'/\Mod X s' a' w') h (λa w hm=>⟨_,hq,hm⟩) ops.toList.length (Array.replicate ops.toList.length false) a { w with drawn:=w.drawn+1 } (ae3 _) ⟨by simp,λk o hk hl=>by
   have:=(List.getElem?_eq_some_iff.1 hk).1;have h2:k<ops.size:=by simpa using this
   simp[h2]at hl,?_⟩
 ·rw[<-e]at key;simpa using key
 ·obtain⟨G,hg,hs,hx⟩:=hmod;have eL:rG (Array.replicate ops.toList.length false)=λk=>Nat.ble ops.toList.length k:=funext λk=>by
   show(Array.replicate ops.toList.length false).getD k true=Nat.ble ops.toList.length k;by_cases hk:k<ops.size
   ·have:Nat.ble ops.size k=false:=Bool.eq_false_iff.2 λh=>by have:=uf h;omega
    simp[hk,this]
   ·have:Nat.ble ops.size k=true:=Nat.ble_eq_true_of_le qO;simp[hk,this]
  rw[eL];have hless:yQ N s.s (S λk=>Nat.ble ops.toList.length k):=λk=>by
   obtain hk|hk:=l7 k N
   ·obtain h1|h1:=h.base.2 k hk
    ·exact .inl h1
    ·exact .inr ⟨hk,h1⟩
   ·exact .inl (ac2 (λj o hj=>by
     have:=mX (List.all_eq_true.1 (h.small (λk=>Nat.ble ops.toList.length k)) j (List.mem_map_of_mem (f:=(·.1)) hj));omega))
  have hd:Stp G s.s.get w G s.s.get { w with drawn:=w.drawn+1 }:=XL;have hg2:bZ G ⟨s.s.st,N⟩ { w with drawn:=w.drawn+1 }:=⟨(acm hg).axy,λi hi=>hg.jZ i (kE h.base.1 hi)⟩;have hlow:t0.nx<=N:=by
   refine Nat.le_of_not_lt λhlt=>?_
   have:=h.low N hlt;have:=(List.getElem?_eq_some_iff.1 this).1;rw[h.vT]at this;omega
  have ZH:yQ N ⟨s.s.st,N⟩ (S λk=>Nat.ble ops.toList.length k):=hless;refine⟨G.drop N,Ia hg2 ZH (bF _) (h.nx _),hs.nt,hs.df,JG (t:=⟨s.s.st,N⟩) (hx.trans hd) ZH hlow,λi o d v h1 h2 h3 h4=>?_,λj _=>?_⟩
  ·have:=(List.getElem?_eq_some_iff.1 h1).1;have h2:i<ops.size:=by simpa using this
   simp[h2]at h3
  ·have hv:=(hs.sl j).dX hd hg.axy;refine Ai (t:=⟨s.s.st,N⟩) ZH ⟨?_,λ_ _ _ _ h=>h⟩ hv;have hq:=XN h.KN j;have:∀ v,je (aag own) v->xQ N v:=by
    intro v;have hP:∀ k,aag own k->k<N:=λk hk=>by rw[<-h.vT];exact(List.getElem?_eq_some_iff.1 hk).1
    induction v with
    |ptr i o=>exact hP i
    |rp i n j c=>exact hP i
    |row i n=>exact hP i
    |vw i n lo m=>exact hP i
    |mp i=>exact hP i
    |agg n g ih=>exact λh k hk=>ih k (h k hk)
    |gQ n g ih=>exact λh k hk=>ih k (h k hk)
    |fn f nf n g ih=>exact λh k hk=>ih k (h k hk)
    |kQ t w v ih=>exact ih
    |_=>exact λ_=>trivial
   exact this _ hq
end
end
section
def nb{n m:Nat}(h:Nat.ble n m=true):n<=m:=uf h
abbrev o0:y5:=(0,0,false,[])
abbrev o1:y5:=(0,0,true,[])
abbrev o2:y5:=(0,1,false,[])
def ooz:Nat->List y5->List y5|0,l=>l|n+1,l=>o0::ooz n l
abbrev o3:y5:=(1,1,false,[])
section
variable {t0:ST} {X:Cx t0} {Q:Exit->AS->Prop} {s:AS}
def goT(X:Cx t0)(c:Code)(Q:Exit->AS->Prop)(s:AS):Prop:=
 match c with
 |.seq x y=>T X x (KL (T X y Q) Q) s
 |.cond c x y=>Pv s c λt=>aj t (T X x Q s) (T X y Q s)
 |.block id c=>T X c (ZU id Q) s
 |.region _ ops false=>uy af ops.toList ops.toList s (Q .normal)
 |.ret=>Q .ret s
 |.skip=>Q .normal s
 |.exit id=>Q (.exit id) s
 |_=>False
def okT:Code->Bool
 |.seq _ _=>true|.cond _ _ _=>true|.block _ _=>true|.region _ _ false=>true|.ret=>true|.skip=>true|.exit _=>true|_=>false
def aC{c:Code}(h:goT X c Q s)(hc:okT c=true:=by exact rfl):T X c Q s:=by
 unfold goT at h;split at h
 ·exact T.seq h
 ·exact T.cond h
 ·exact T.block h
 ·exact T.region h
 ·exact T.ret h
 ·exact T.skip h
 ·exact T.exit h
 ·exact h.elim
def bU(id:Nat){ops:Array Oper}(eff:List Nat)(sigs:List y5)(h:Gq ops.toList s ops.toList sigs [] [] s.s λvs Ss=>aap ops.toList eff vs Ss (ag (Qa ops.toList s vs Ss 0 ops.toList sigs vs/\Ss.head?=some s.s) (aa8 s (rf ops.toList vs) (Ss.getD eff.length s.s) (Q .normal))))(hm:prog.follows .mixedOrders=true:=by kernel_rfl)(hok:Ql ops.toList eff sigs=true:=by kernel_rfl):T X (.region id ops true) Q s:=ZX eff sigs hm hok h
end
def ag.a{p k:Prop}(hk:k)(h:p:=by first|exact nb rfl|decide|exact λ_=>by decide|exact λh=>h|exact λh=>h.1|exact λh=>avy h|exact λh=>avx h|fail):ag p k:=ag.mk h hk
def aj.n{t:Bool}{a b:Prop}(hb:t=false->b)(hx:¬t=true:=by(intro h;first|exact ai h (by decide)|exact ai (show false=true from h) (by decide)|exact ai (fU h) qo|exact ai h (by rw[hrk];decide)|exact ai h (by rw[hm];decide)|exact ai h (by rw[fF];decide)|fail)):aj t a b:=aj.mk (λe=>ai e hx) hb
def lq{t:Bool}{a b:Prop}(ha:t=true->a)(hx:¬t=false:=by(intro h;first|exact ai h (by decide)|exact ai (show true=false from h) (by decide)|exact ai (mJ h) qo|exact ai h (by rw[hrk];decide)|exact ai h (by rw[fF];decide)|fail)):aj t a b:=aj.mk ha (λe=>ai e hx)
def bJ{p:Prop}(h:p:=by first|((repeat'(first|exact trivial|refine fM ⟨_,rfl,aW.Wp ?_⟩ ?_|refine fM ⟨_,rfl,aW.row rfl (λj hj k hk=>fA rfl trivial)⟩ ?_|exact fA rfl trivial|exact fA rfl (nb rfl)|refine fM ?_ ?_));done)|fail):p:=h
def agg{N n:Nat}{g h:Nat->V}(hc:D8 N g h n:=by first|((repeat'(first|exact trivial|exact fA rfl trivial|refine fM ?_ ?_));done)|fail):VW N (.agg n g) (.agg n h):=gu hc
def vH.all{N n k:Nat}{g h:Nat->V}(hk:k<n)(hc:D8 N g h n):vH (VW N (g k) (h k)):=vH.mk (Jp hc k hk)
def cls {p:Prop} (h:p:=by first
 |exact True.intro|exact rfl|exact nb rfl|exact λh=>h|exact λ_=>nb rfl|exact λ_ j hj=>⟨_,rfl⟩|exact vH.mk (fA rfl trivial)
 |exact ai hj (qh _)|exact vH.mk (ai hj (qh _))|exact λj hj=>ai hj (qh _)|(rintro⟨e1,e2⟩;rw[e1,e2];rfl)
 |(refine vH.all hk ?_;repeat'(first|exact True.intro|exact fA rfl trivial|exact fA rfl (nb rfl)|refine fM ?_ ?_))
 |(refine bf.mk rfl (nb rfl) (nb rfl) ?_ ?_ <;> (repeat'(first|exact True.intro|exact fA rfl trivial|exact fA rfl (nb rfl)|refine fM (fA rfl trivial) ?_|refine fM (fA rfl (nb rfl)) ?_|refine fM ⟨nb rfl,?_⟩ ?_|exact aW.row rfl (λj hj k hk=>fA rfl trivial)|refine fB rfl (λk hk=>dR ?_))) <;> (refine vH.all hk ?_;repeat'(first|exact True.intro|exact fA rfl trivial|exact fA rfl (nb rfl)|refine fM ?_ ?_)))
 |((repeat'(first|exact True.intro|refine fM ⟨nb rfl,?_⟩ ?_|exact aW.row rfl (λj hj k hk=>fA rfl trivial)|refine fB rfl (λk hk=>dR ?_))) <;> (refine vH.all hk ?_;repeat'(first|exact True.intro|exact fA rfl trivial|exact fA rfl (nb rfl)|refine fM ?_ ?_)))
 |omega|(simp only[dM,jg];omega)|fail):p:=h
end
section
def tv:True:=True.intro
def an{a b:Prop}(h:a)(k:b):a/\b:=⟨h,k⟩
def vq{N:Nat}{a b:V}(e:a=b)(h:xQ N b):VW N a b:=fA e h
def bT{p:Prop}[Decidable p](h:decide p=true):p:=fU h
def bV{p:Prop}[Decidable p](h:decide p=false):¬p:=mJ h
def nz{n:Nat}:¬n<0:=qh n
def cm{p:Prop}(h:p):vH p:=vH.mk h
def om{p:Prop}(h:p:=by(try simp only[gq,iy]at *);omega):p:=h
def ar{p:Prop}(h:p:=by first|((repeat'(first|exact trivial|exact VW.refl trivial|exact fA rfl (nb rfl)|exact agg|refine fM ?_ ?_));done)|fail):p:=h
section
variable {f:Nat} {args args':List V} {st bJ t1:ST} {r:V} {K:V->ST->Prop}
def aO(h:aQ f args' r)(hk:pz st.nx λn=>K (pR [] n r) st)(ha:lI 0 (bY []) args args':=by exact ar):af f args st K:=af.tell h ha hk
def kF(h:aQ f args' r)(hk:pz st.nx λn=>K (pR [] n r) st)(ha:lI 0 (bY []) args args':=by exact ar):jd f args st K:=jd.tell h ha hk
def mY(h:af f args' e0 (λv t=>v=r/\t=t1))(hk:pz st.nx λn=>K (pR [] n r) (Aw st [] n t1))(ha:lI 0 (bY []) args args':=by exact ar):af f args st K:=Q3 h ha hk
def JV(h:af f args' e0 (λv t=>v=r/\t=t1))(hk:pz st.nx λn=>K (pR [] n r) (Aw st [] n t1))(ha:lI 0 (bY []) args args':=by exact ar):jd f args st K:=ajd h ha hk
def fO(aI:List Nat)(h:af f args' bJ (λv t=>v=r/\t=t1))(hk:pz st.nx λn=>K (pR aI n r) (Aw st aI n t1))(hn:iJ aI=true:=by exact rfl)(hs:sQ aI st.nx=true:=by exact rfl)(hnx:bJ.nx=aI.length:=by exact rfl)(ha:lI bJ.nx (bY aI) args args':=by exact ar)(ho:pV bJ.nx (bY aI) st aI bJ.st:=by exact Go.Proofs.YtnibdnahojjcgaaGreat.bJ):af f args st K:=nZ aI h hn hs hnx ha ho hk
def Am(aI:List Nat)(h:af f args' bJ (λv t=>v=r/\t=t1))(hk:pz st.nx λn=>K (pR aI n r) (Aw st aI n t1))(hn:iJ aI=true:=by exact rfl)(hs:sQ aI st.nx=true:=by exact rfl)(hnx:bJ.nx=aI.length:=by exact rfl)(ha:lI bJ.nx (bY aI) args args':=by exact ar)(ho:pV bJ.nx (bY aI) st aI bJ.st:=by exact Go.Proofs.YtnibdnahojjcgaaGreat.bJ):jd f args st K:=abZ aI h hn hs hnx ha ho hk
end
def ay{f:Nat}{fn:Func}{c:Code}{args:List V}{t:ST}{K:V->ST->Prop}(hf:prog.funcs[f]?=some fn)(h:∀ X:Cx t,T X c (uY fn X K) ⟨fn.ntmps,pU args,t⟩)(hb:fn.body=some c:=by exact rfl)(hname:(fn.name == "runtime.NumGoroutine")=false:=by exact rfl)(hn:args.length<=fn.ntmps:=by exact nb rfl):af f args t K:=af.of hf hb hname hn h
def axn{f:Nat}{fn:Func}{c:Code}{args:List V}{t:ST}{K:V->ST->Prop}(hf:prog.funcs[f]?=some fn)(hb:fn.body=some c:=by exact rfl)(h:∀ X:Cx t,T X c (uY fn X K) ⟨fn.ntmps,pU args,t⟩)(hname:(fn.name == "runtime.NumGoroutine")=false:=by exact rfl)(hn:args.length<=fn.ntmps:=by exact nb rfl):af f args t K:=af.of hf hb hname hn h
def aG{p:Prop}(h:p:=by first|(assumption)|fail):p:=h
def fv{p:Prop}(h:p:=by first|(intros;exact vq rfl tv)|fail):p:=h
def fr{p:Prop}(h:p:=by first|(intros;exact rfl)|fail):p:=h
def sF{p:Prop}(h:p:=by first|(exact iI.of (cZ _) rfl (λj hj k hk=>rfl))|fail):p:=h
def bw{p:Prop}(h:p:=by first|((repeat'(first|exact tv|exact BW.d|exact BW.row rfl (λj hj k hk=>rfl)|refine agb ?_|refine an ?_ ?_));done)|fail):p:=h
def vw{p:Prop}(h:p:=by first|((repeat'(first|exact tv|exact VW.refl tv|exact vq rfl tv|exact vq rfl (nb rfl)|exact pg rfl|exact vq jB tv|exact vq ((ah (λv=>jf 8 _ _ _ v) jB).trans rfl) tv|refine gu ?_|refine an ?_ ?_));done)|fail):p:=h
def kk {p:Prop} (h:p:=by first
 |(have hk:k<4:=hk;obtain _|_|_|_|k:=k <;> first|exact cm (vq rfl tv)|exact cm (vq rfl (nb rfl))|omega)
 |(have hk:k<5:=hk;obtain _|_|_|_|_|k:=k <;> first|exact cm (vq rfl tv)|exact cm (vq rfl (nb rfl))|omega)
 |(have hk:k<23:=hk;obtain _|_|_|_|_|_|_|_|_|_|_|_|_|_|_|_|_|_|_|_|_|_|_|k:=k <;> first|exact cm (vq rfl tv)|exact cm (vq rfl (nb rfl))|omega)
 |(have hk:k<1:=hk;obtain rfl:k=0:=Nat.lt_one_iff.1 hk;first|exact cm (vq rfl tv)|exact cm (vq rfl (nb rfl))|omega)|fail):p:=h
def sN{p:Prop}(h:p:=by first|((try simp only[gq,iy,nY,o9]at *);omega)|fail):p:=h
def uF{p:Prop}(h:p:=by first|((repeat'(first|exact tv|refine an ⟨nb rfl,aW.Wp ?_⟩ ?_|refine an ⟨nb rfl,aW.row rfl fv⟩ ?_|exact vq rfl tv|exact vq rfl (nb rfl)|refine an ?_ ?_));done)|fail):p:=h
def mc{p q k:Prop}(h:dm p)(hk:k)(e:q:=by exact rfl):ag (p/\q) k:=ag.mk ⟨nN h,e⟩ hk
def leq{n0:Nat}{s s2:AS}(sl:VE s2.s.nx s s2.sl)(ob:pX s2.s.nx s.s s2.s.st)(nt:s2.nt=s.nt:=by first|exact rfl|fail)(lo:n0<=s2.s.nx:=by first|exact nb rfl|fail)(hi:s2.s.nx<=s.s.nx:=by first|exact nb rfl|fail):bf n0 s s2:=⟨nt,lo,hi,sl,ob⟩
def jc{p:Prop}(h:p:=by first|(with_reducible_and_instances assumption)|fail):p:=h
def gU{N i E s n m:Nat}{g h:Nat->Nat->V}{B:Prop}(p:i<N)(e:n=m)(c:∀ j,j<n->∀ k,k<s->vH (VW N (g j k) (h j k)))(r:B):(i<N/\aW N (.row E s n g) (.row E s m h))/\B:=⟨⟨p,aW.row e λj hj k hk=>dR (c j hj k hk)⟩,r⟩
def fE{N i n:Nat}{g h:Nat->V}{B:Prop}(p:i<N)(c:D8 N g h n)(r:B):(i<N/\aW N (.Wp n g) (.Wp n h))/\B:=⟨⟨p,aW.Wp c⟩,r⟩
def jQ{N i n:Nat}{g h:Nat->V}{B:Prop}(p:i<N)(c:∀ k,k<n->vH (VW N (g k) (h k)))(r:B):(i<N/\aW N (.Wp n g) (.Wp n h))/\B:=⟨⟨p,rfl,λk hk=>dR (c k hk)⟩,r⟩
def qN{n m:Nat}(h:Nat.ble n m=true:=by first|exact rfl|fail):n<=m:=nb h
def qV{p:Prop}(h:p:=by first|exact vq rfl tv|fail):p:=h
def qW{p:Prop}(h:p:=by first|exact vq rfl (nb rfl)|fail):p:=h
end
def Wj{p:Prop}(h:p:=by
 obtain⟨rfl,rfl,rfl⟩|⟨rfl,rfl,rfl⟩|⟨rfl,rfl,rfl⟩:=hk
 all_goals refine af.defer (fd:=20) (n:=1) (mD:=λ_=>hT.b0) (xh:=f20) (cD:=Iz f20) (sL:=hT.sl C e) (f:=8) func8 rfl rfl (nb rfl) (λX=>?_) rfl rfl rfl rfl rfl rfl rfl func20 rfl rfl (nb rfl) (λX4 X'=>?_)
 all_goals repeat'(first|((with_reducible refine fP ?_);first|refine T.cut (x:=.region 2 _ _) ⟨65,[(2,hT.b0),(3,hT.b1),(4,iV 0)],hT.bx C e⟩ ?_ ?_|refine aC ?_|refine bU 7 [6] (ooz 6 [o1,o3]) ?_|refine bU 9 [6] (ooz 6 [o1,o3]) ?_)|((conv=>whnf);first|(with_reducible refine fP ?_)|refine mc ?_ ?_|refine wK ?_|refine af.to hcl ?_|refine aj.n (λh=>?_)|refine lq (λh=>?_)|refine an (rfl:Exit.normal=Exit.normal) ?_|refine aZ ⟨65,[(4,iV r)],hT1.m2 C1⟩ (aZ (hT1.m2 (lC C1)) ⟨?_,λk hk=>vq rfl (nb rfl),hdef,?_⟩)|refine jd.to hcl ?_|refine ag.a ?_|refine bM (nb rfl) (nb rfl) (vq rfl tv) ?_))
 all_goals(try(refine dm.mk ?_;repeat'(first|exact tv|((conv=>whnf);first|exact rfl|refine af.to hcl ?_|refine an ?_ ?_|refine ag.mk ?_ ?_))))
 all_goals try exact cls
 all_goals(try(refine leq ?_ ?_ <;> repeat'(first|exact tv|exact pq 7 hT rfl rfl rfl|exact pq 8 hT rfl rfl rfl|exact Kv 7 hT1 rfl rfl rfl|exact vq rfl (nb rfl)|refine an (vq rfl (nb rfl)) ?_|refine an (vq rfl tv) ?_|refine an ⟨nb rfl,?_⟩ ?_|exact aW.row rfl fv|exact o8 rfl|refine fB rfl (λk hk=>dR ?_)|refine gX ?_|refine an ?_ ?_)))
 all_goals(try(repeat'(first|exact Kv 7 hT1 rfl rfl rfl|refine an ⟨nb rfl,?_⟩ ?_|exact aW.row rfl fv|exact o8 rfl|refine fB rfl (λk hk=>dR ?_))))
 all_goals first|exact cm (vq rfl tv)|exact kk):p:=h
def QP{p:Prop}(h:p:=by
 obtain⟨rfl,rfl,rfl⟩|⟨rfl,rfl,rfl⟩|⟨rfl,rfl,rfl⟩:=hk
 all_goals refine af.defer (fd:=20) (n:=1) (mD:=λ_=>hT.b0) (xh:=f20) (cD:=Iz f20) (sL:=hT.sl C e) (f:=8) func8 rfl rfl (nb rfl) (λX=>?_) rfl rfl rfl rfl rfl rfl rfl func20 rfl rfl (nb rfl) (λX4 X'=>?_)
 all_goals repeat'(first|((with_reducible refine fP ?_);first|(have hg:e.kind=2:=jc;refine T.cut (x:=.region 10 _ _) ⟨65,[(6,.fn 25 0 1 (λ_=>hT.b0)),(2,hT.b0),(3,hT.b1),(4,iV 0)],hT.bx C e⟩ ?_ ?_)|(have hg:e.kind=6:=jc;refine T.cut (x:=.region 10 _ _) ⟨65,[(6,.fn 27 0 2 (λj=>match j with|0=>hT.b0|_=>hT.b1)),(2,hT.b0),(3,hT.b1),(4,iV 0)],hT.bx C e⟩ ?_ ?_)|(have hg:e.kind=7:=jc;refine T.cut (x:=.region 10 _ _) ⟨65,[(6,.fn 31 0 1 (λ_=>hT.b1)),(2,hT.b0),(3,hT.b1),(4,iV 0)],hT.bx C e⟩ ?_ ?_)|(have hg:e.kind=8:=jc;refine T.cut (x:=.region 10 _ _) ⟨65,[(6,.fn 33 0 1 (λ_=>hT.b1)),(2,hT.b0),(3,hT.b1),(4,iV 0)],hT.bx C e⟩ ?_ ?_)|refine aC ?_|refine bU 13 [9] (ooz 9 [o1,o3]) ?_)|((conv=>whnf);first|(with_reducible refine fP ?_)|refine mc ?_ ?_|refine wK ?_|refine aZ _ (fM (λht=>af.to hth ⟨rfl,rfl⟩) ?_)|refine aj.mk (λh=>ai (hf.symm.trans (by simpa using h)) (by decide)) (λh=>?_)|refine aj.n (λh=>?_)|refine lq (λh=>?_)|refine an (rfl:Exit.normal=Exit.normal) ?_|refine aZ ⟨65,[(4,iV r)],hT1.m2 C1⟩ (aZ (hT1.m2 (lC C1)) ⟨?_,λk hk=>vq rfl (nb rfl),hdef,?_⟩)|refine jd.to hcl ?_|refine ag.a ?_|refine bM (nb rfl) (nb rfl) (vq rfl tv) ?_))
 all_goals(try(refine dm.mk ?_;repeat'(first|exact tv|((conv=>whnf);first|exact rfl|refine af.to hcl ?_|refine an ?_ ?_|refine ag.mk ?_ ?_))))
 all_goals try exact cls
 all_goals(try(refine leq ?_ ?_ <;> repeat'(first|exact tv|exact pq 7 hT rfl rfl rfl|exact pq 8 hT rfl rfl rfl|exact Kv 7 hT1 rfl rfl rfl|exact vq rfl (nb rfl)|refine an (vq rfl (nb rfl)) ?_|refine an (vq rfl tv) ?_|refine an ⟨nb rfl,?_⟩ ?_|exact aW.row rfl fv|exact o8 rfl|refine fB rfl (λk hk=>dR ?_)|refine gX ?_|refine an ?_ ?_)))
 all_goals(try(repeat'(first|exact Kv 7 hT1 rfl rfl rfl|refine an ⟨nb rfl,?_⟩ ?_|exact aW.row rfl fv|exact o8 rfl|refine fB rfl (λk hk=>dR ?_))))
 all_goals first|exact cm (vq rfl tv)|exact kk):p:=h
def abH{p:Prop}(h:p:=by
 obtain⟨rfl,rfl,rfl⟩|⟨rfl,rfl,rfl⟩|⟨rfl,rfl,rfl⟩|⟨rfl,rfl,rfl⟩|⟨rfl,rfl,rfl⟩|⟨rfl,rfl,rfl⟩:=hk
 all_goals refine af.defer (fd:=20) (n:=1) (mD:=λ_=>hT.b0) (xh:=f20) (cD:=Iz f20) (sL:=hT.sl C e) (f:=8) func8 rfl rfl (nb rfl) (λX=>?_) rfl rfl rfl rfl rfl rfl rfl func20 rfl rfl (nb rfl) (λX4 X'=>?_)
 all_goals repeat'(first|((with_reducible refine fP ?_);first|(have hg:e.kind=1:=jc;refine T.cut (x:=.region 10 _ _) ⟨65,[(6,.fn 22 0 1 (λ_=>hT.b0)),(2,hT.b0),(3,hT.b1),(4,iV 0)],hT.bx C e⟩ ?_ ?_)|(have hg:e.kind=9:=jc;refine T.cut (x:=.region 10 _ _) ⟨65,[(6,.fn 29 0 1 (λ_=>hT.b1)),(2,hT.b0),(3,hT.b1),(4,iV 0)],hT.bx C e⟩ ?_ ?_)|refine aC ?_|refine bU 13 [9] (ooz 9 [o1,o3]) ?_)|((conv=>whnf);first|(with_reducible refine fP ?_)|refine mc ?_ ?_|refine wK ?_|refine aZ _ (fM (λht=>af.to hth ⟨rfl,rfl⟩) ?_)|refine aj.mk (λh=>ai (hf.symm.trans (by simpa using h)) (by decide)) (λh=>?_)|refine aj.n (λh=>?_)|refine lq (λh=>?_)|refine an (rfl:Exit.normal=Exit.normal) ?_|refine aZ ⟨65,[(4,iV r)],hT1.m2 C1⟩ (aZ (hT1.m2 (lC C1)) ⟨?_,λk hk=>vq rfl (nb rfl),hdef,?_⟩)|refine jd.to hcl ?_|refine ag.a ?_|refine bM (nb rfl) (nb rfl) (vq rfl tv) ?_))
 all_goals(try(refine dm.mk ?_;repeat'(first|exact tv|((conv=>whnf);first|exact rfl|refine af.to hcl ?_|refine an ?_ ?_|refine ag.mk ?_ ?_))))
 all_goals try exact cls
 all_goals(try(refine leq ?_ ?_ <;> repeat'(first|exact tv|exact pq 7 hT rfl rfl rfl|exact pq 8 hT rfl rfl rfl|exact Kv 7 hT1 rfl rfl rfl|exact vq rfl (nb rfl)|refine an (vq rfl (nb rfl)) ?_|refine an (vq rfl tv) ?_|refine an ⟨nb rfl,?_⟩ ?_|exact aW.row rfl fv|exact o8 rfl|refine fB rfl (λk hk=>dR ?_)|refine gX ?_|refine an ?_ ?_)))
 all_goals(try(repeat'(first|exact Kv 7 hT1 rfl rfl rfl|refine an ⟨nb rfl,?_⟩ ?_|exact aW.row rfl fv|exact o8 rfl|refine fB rfl (λk hk=>dR ?_))))
 all_goals first|exact cm (vq rfl tv)|exact kk):p:=h
def abD{p:Prop}(h:p:=by
 (repeat'(first|refine T.cut (x:=.region 4 _ _) ⟨58,[(2,.ptr 0 0),(3,.b false),(4,.ptr 1 0),(0,.d (bW (vz r)))],⟨[(0,.Wp 4 (iM 138)),(1,.Wp 4 (pC (iV r.kind) (iV 0) (iV 0)))],2⟩⟩ ?_ ?_|refine T.cut (x:=.region 8 _ _) ⟨58,[(2,.ptr 0 0),(3,.b false),(4,.ptr 1 0),(0,.d (bW (yT r)))],⟨[(0,.Wp 4 (iM 138)),(1,.Wp 4 (pC (iV r.kind) (iV r.a) (iV 0)))],2⟩⟩ ?_ ?_|refine T.cut (x:=.seq (.region 9 _ _) _) ⟨58,[(2,.ptr 0 0),(3,.b false),(4,.ptr 1 0),(0,.d (bW (r.x)))],⟨[(0,.Wp 4 (iM 138)),(1,.Wp 4 (pC (iV r.kind) (iV r.a) (iV r.b)))],2⟩⟩ ?_ ?_|refine aj.mk (λh=>ai (bT h) (by rw[lT];omega)) (λh=>?_)|refine aC ?_|refine bU 8 [6] [o0,o0,o2,o2,o2,o0,o1,o3] ?_|refine bU 9 [0] [o1,o2,o2,o3,o3] ?_|refine bU 13 [6] [o0,o0,o2,o2,o2,o0,o1,o3] ?_|refine mc ?_ ?_|refine aj.n (λh=>?_)|refine lq (λh=>?_)|refine aO (Yu r.a.toNat (yT r) (by have:=rV h0;omega)) ?_|refine af.tell (Yu r.b.toNat r.x (by have:=rV h0;omega)) ⟨vq (ah (λl=>V.d (bW l)) (aac (r:=r) (by rw[hrk];decide))) tv,tv⟩ ?_|refine aO (Ue r.x (by have:=rV h0;omega)) ?_|refine JV FV ?_|refine aj.n (λh=>?_)|refine lq (λh=>?_)|refine ag.a ?_|exact kJ rfl vw|refine ag.mk ?_ ?_))<;>(try(refine dm.mk ?_;repeat'(first|exact tv|exact rfl|refine aj.n (λh=>?_)|refine lq (λh=>?_)|refine mY FV ?_|refine an ?_ ?_|refine ag.mk ?_ ?_)))
 all_goals try exact cls
 all_goals(try(refine leq ?_ ?_ <;> repeat'(first|exact tv|exact vq rfl tv|refine VW.sl ?_ (λj hj k hk=>dR ?_)|exact vq rfl (nb rfl)|refine vq (ah iV ?_) tv|refine fE (nb rfl) ?_ ?_|refine an ?_ ?_)))
 all_goals first|exact rfl|(have h8:=rV h0;simp only[dM];omega)|(rw[lT];omega)|(have h8:=((iK r.kind.toNat::vz r).getD (Int.toNat 0) 0).toNat_lt;simp only[dM];omega)|(unfold vz gZ;rw[bP];omega)|(have h8:=rV h0;omega)|(have h8:=wP h0;show(((iK r.kind.toNat).toNat:Nat):Int)=r.kind;rw[wJ];omega)|(exact cm (ah gG (NH (l:=[iK r.kind.toNat]) (m:=vz r))))|(exact cm (ah gG (NH (l:=dK r.a.toNat) (m:=yT r))))|(rw[aac (r:=r) (by rw[hrk];decide)];unfold gZ;rw[bP];omega)|(refine cm (ah gG ?_);show(yT r).getD ((dK r.b.toNat).length+j) 0=r.x.getD j 0;rw[aac (r:=r) (by rw[hrk];decide)];exact NH (l:=dK r.b.toNat) (m:=r.x))):p:=h
def abE{p:Prop}(h:p:=by
 (repeat'(first|refine T.cut (x:=.region 4 _ _) ⟨58,[(2,.ptr 0 0),(3,.b false),(4,.ptr 1 0),(0,.d (bW (vz r)))],⟨[(0,.Wp 4 (iM 138)),(1,.Wp 4 (pC (iV r.kind) (iV 0) (iV 0)))],2⟩⟩ ?_ ?_|refine T.cut (x:=.region 8 _ _) ⟨58,[(2,.ptr 0 0),(3,.b false),(4,.ptr 1 0),(0,.d (bW (yT r)))],⟨[(0,.Wp 4 (iM 138)),(1,.Wp 4 (pC (iV r.kind) (iV r.a) (iV 0)))],2⟩⟩ ?_ ?_|refine aj.mk (λh=>ai (bT h) (by rw[lT];omega)) (λh=>?_)|refine aC ?_|refine bU 8 [6] [o0,o0,o2,o2,o2,o0,o1,o3] ?_|refine bU 9 [0] [o1,o2,o2,o3,o3] ?_|refine mc ?_ ?_|refine aj.n (λh=>?_)|refine lq (λh=>?_)|refine aO (Yu r.a.toNat (yT r) (by have:=rV h0;omega)) ?_|refine af.tell (Ue r.x (by have:=rV h0;omega)) ⟨vq (ah (λl=>V.d (bW l)) (auG (r:=r) (by rw[hrk];decide))) tv,tv⟩ ?_|refine JV FV ?_|refine ag.a ?_|exact kJ rfl ⟨gu ⟨⟨vw,vq (ah iV (show(0:Int)=r.b from (((rV h0).2.2.2.2.2.1 (by rw[hrk];rfl)).1).symm)) tv⟩,vq rfl tv⟩,vq rfl tv,tv⟩|refine ag.mk ?_ ?_))<;>(try(refine dm.mk ?_;repeat'(first|exact tv|exact rfl|refine aj.n (λh=>?_)|refine lq (λh=>?_)|refine mY FV ?_|refine an ?_ ?_|refine ag.mk ?_ ?_)))
 all_goals try exact cls
 all_goals(try(refine leq ?_ ?_ <;> repeat'(first|exact tv|exact vq rfl tv|refine VW.sl ?_ (λj hj k hk=>dR ?_)|exact vq rfl (nb rfl)|refine vq (ah iV ?_) tv|refine fE (nb rfl) ?_ ?_|refine an ?_ ?_)))
 all_goals first|exact rfl|(have h8:=rV h0;simp only[dM];omega)|(rw[lT];omega)|(have h8:=((iK r.kind.toNat::vz r).getD (Int.toNat 0) 0).toNat_lt;simp only[dM];omega)|(unfold vz gZ;rw[bP];omega)|(have h8:=rV h0;omega)|(have h8:=wP h0;show(((iK r.kind.toNat).toNat:Nat):Int)=r.kind;rw[wJ];omega)|(exact cm (ah gG (NH (l:=[iK r.kind.toNat]) (m:=vz r))))|(exact cm (ah gG (NH (l:=dK r.a.toNat) (m:=yT r))))):p:=h
def QD{p:Prop}(h:p:=by
 (repeat'(first|refine T.cut (x:=.seq (.region 5 _ _) _) ⟨48,[(0,.ptr 0 0),(3,.ptr 8 0)],⟨NL (nG n x)++[(8,.Wp 10 (λk=>.d (kN x k)))],9⟩⟩ ?_ ?_|refine aC ?_|refine bU 5 [] (ooz 9 []) ?_|refine bU 8 [6] (ooz 6 [o1,o3,o3,o3,o3]) ?_|refine mc ?_ ?_|refine aj.n (λh=>?_)|refine lq (λh=>?_)|refine fO [1,2] (Iw n.aB) ?_|refine fO [0,1,2,3,4,5,6,7] (as3 n x H.hx H.DR H.hl H.hr) ?_|refine kF (Zv x H.sz) ?_|refine Am [0,1,2,3,4,5,6,7] (abN (H.MC aG (KR aG) qo qo)) ?_|refine Am [0,1,2,3,4,5,6,7] (ad2 (H.ask aG (KR aG) qo)) ?_|refine Am [0,1,2,3,4,5,6,7] (acZ (H.MB aG (KR aG) qo)) ?_|refine aj.mk (λh=>?_) (λh=>?_)|refine ag.a ?_|(refine qZ.mk (p:=n.aB.down=true) ?_ ?_;(exact jc);refine NR.of (p:=(n,[],30)) ?_ (bM (nb rfl) (nb rfl) (fH [.d (iU []),iV (30)] rfl fr vw) ?_))|(refine qZ.mk (p:=(!uA n x)=true) ?_ ?_;(exact jc);refine NR.of (p:=(n,[],1)) ?_ (bM (nb rfl) (nb rfl) (fH [.d (iU []),iV (1)] rfl fr vw) ?_))|refine NR.of (p:=(xq (nG n x) x m os)) ?_ (bM (nb rfl) (nb rfl) (fH [.d (iU (xq (nG n x) x m os).2.1),iV (xq (nG n x) x m os).2.2] rfl fr vw) ?_)|refine NR.of (p:=(yA (nG n x) x)) ?_ (bM (nb rfl) (nb rfl) (fH [.d (iU (yA (nG n x) x).2.1),iV (yA (nG n x) x).2.2] rfl fr vw) ?_)|refine NR.of (p:=(vP (nG n x) x os)) ?_ (bM (nb rfl) (nb rfl) (fH [.d (iU (vP (nG n x) x os).2.1),iV (vP (nG n x) x os).2.2] rfl fr vw) ?_)))<;>(try(refine dm.mk ?_;repeat'(first|exact tv|exact rfl|refine aj.n (λh=>?_)|refine lq (λh=>?_)|refine aO (Zv x H.sz) ?_|refine fO [0,1,2,3,4,5,6,7] (abN (H.MC aG (KR aG) qo qo)) ?_|refine fO [0,1,2,3,4,5,6,7] (ad2 (H.ask aG (KR aG) qo)) ?_|refine fO [0,1,2,3,4,5,6,7] (acZ (H.MB aG (KR aG) qo)) ?_|refine an ?_ ?_|refine ag.mk ?_ ?_)))
 all_goals try exact cls
 all_goals(try(refine leq ?_ ?_ <;> repeat'(first|exact tv|exact vq rfl (nb rfl)|refine jQ (nb rfl) (λk hk=>?_) ?_|refine gU (nb rfl) ?_ (λj hj k hk=>?_) ?_|refine an ?_ ?_)))
 all_goals first|exact rfl|exact cm (vq rfl tv)|exact dH h|(exact(bG (aG:n.aB.down=false)).trans (dH (aG:(!uA n x)=true)))|(exact(bG (aG:n.aB.down=false)).trans ((bG (aG:(!uA n x)=false)).trans (Zr qo qo)))|(exact(bG (aG:n.aB.down=false)).trans ((bG (aG:(!uA n x)=false)).trans (Zt fF)))|(exact(bG (aG:n.aB.down=false)).trans ((bG (aG:(!uA n x)=false)).trans (Zq fF)))|(have hk:k<23:=hk;obtain _|_|_|_|_|_|_|_|_|_|_|_|_|_|_|_|_|_|_|_|_|_|_|k:=k <;> first|exact cm (vq rfl tv)|exact cm (vq rfl (nb rfl))|exact cm (vq (ah iV (show(0:Int)=bif decide (n.ae.term<x.term) then 0 else n.role by rw[h];rfl)) tv)|exact cm (vq (ah iV (show n.role=bif decide (n.ae.term<x.term) then 0 else n.role by rw[h];rfl)) tv))|exact kk|exact uF):p:=h
def QR{p:Prop}(h:p:=by
 (repeat'(first|((with_reducible refine fP ?_);(refine aC ?_))|((with_reducible refine fP ?_);first|refine aC ?_|refine bU 1 [2,5] [o2,o0,o1,o3,o3,(1,1,true,[]),(2,2,false,[])] ?_)|((conv=>whnf);first|(with_reducible refine fP ?_)|refine af.pre 2 (an9 k A p C e H hc hz) rfl rfl rfl rfl rfl Cm Cm trivial Ol vw ?_|refine fO [5,6,7,8,9,10,11,12] (aqw n e.b) ?_|refine fO [5,6,7,8,9,10,11,12] (amV n e.b hd hb) ?_|refine ag.a ?_|refine mc ?_ ?_|refine Am [5,6,7,8,9,10,11,12] (TD n m hm h5 hd) ?_|refine NI (args':=[.ptr 0 0,.d (iU (lu n m).1),iV (lu n m).2]) (SX k A p C n e) rfl (by(repeat'(first|exact tv|refine an ⟨nb rfl,?_⟩ ?_|exact aW.row rfl fv|exact xg rfl|refine fB rfl (λk hk=>dR ?_)));all_goals first|exact cm (vq rfl tv)|exact cm (vq rfl (nb rfl))|exact kk) vw (jd.pre 2 (SV (e:=(lu n m).2) hs) rfl rfl rfl rfl rfl Cm Cm trivial Ol vw ?_)|refine bM (nb rfl) (nb rfl) (vq rfl tv) ?_)))<;>(try(refine dm.mk ?_;repeat'(first|exact tv|((conv=>whnf);first|exact rfl|refine fO [5,6,7,8,9,10,11,12] (TD n m hm h5 hd) ?_|refine JU (args':=[.ptr 0 0,.d (iU (lu n m).1),iV (lu n m).2]) (SX k A p C n e) rfl (by(repeat'(first|exact tv|refine an ⟨nb rfl,?_⟩ ?_|exact aW.row rfl fv|exact xg rfl|refine fB rfl (λk hk=>dR ?_)));all_goals first|exact cm (vq rfl tv)|exact cm (vq rfl (nb rfl))|exact kk) vw (af.pre 2 (SV (e:=(lu n m).2) hs) rfl rfl rfl rfl rfl Cm Cm trivial Ol vw ?_)|refine an ?_ ?_|refine ag.mk ?_ ?_))))
 all_goals try exact cls
 all_goals(try(repeat'(first|exact tv|refine an ⟨nb rfl,?_⟩ ?_|exact DK rfl|exact zV rfl|exact aW.row rfl fv|exact xg rfl|refine fB rfl (λk hk=>dR ?_))))
 all_goals first|exact cm (vq rfl tv)|exact cm (vq rfl (nb rfl))|exact kk):p:=h
def Rt{p:Prop}(h:p:=by
 (repeat'(first|refine zG s ⟨15,0⟩|refine zG s .z|refine zG (nO s (iq s c.id).toNat (λx=>{ x with held:=true })) ⟨0,1⟩|refine zG (nO s (iq s c.id).toNat (λx=>{ x with held:=false })) ⟨0,1⟩|refine Em s c (ry 14) [(13,.Wp 1 (λ_=>.b true)),(14,.Wp 1 (λ_=>f269 13))] ?_ ?_|refine Em s c (ry 16) [(15,.Wp 1 (λ_=>.b false)),(16,.Wp 1 (λ_=>f269 15))] ?_ ?_|refine zG s (⟨0,(s.az.getD (iq s c.id).toNat .z).chunks.length⟩)|refine Em s c (ry 12) [(12,.Wp 1 (λ_=>Hw 281))] ?_ ?_|refine zG (nO s (iq s c.id).toNat (λx=>{ x with tag:=c.text })) .z|refine Em s c (ry 17) [(17,.Wp 1 (λ_=>oN 282 1 0))] ?_ ?_|refine aj.n (λh=>?_)|refine bU 2 [] (ooz 6 []) ?_|refine aC ?_|refine bU 11 [2,3] [o0,o2,o1,(1,1,true,[])] ?_|refine mc ?_ ?_|refine mY (Oi s hs.fit) ?_|refine vM (OV s c hs hz.chunks) tv bw ?_|refine ay (f:=266) func266 λX2=>?_|refine ay (f:=269) func269 λX2=>?_|refine ay (f:=281) func281 λX2=>?_|refine ay (f:=282) func282 λX2=>?_|refine vM (acH s c.id hs.may.l3) tv bw ?_|refine aO (qR 15) ?_|refine Fin.here ?_|refine aj.mk (λh=>?_) (λh=>?_)|refine ag.a ?_|refine ag.mk ?_ ?_))<;>(try(refine dm.mk ?_;repeat'(first|exact tv|exact rfl|refine an ?_ ?_|refine ag.mk ?_ ?_)))
 all_goals try exact cls
 all_goals(try(refine leq ?_ ?_ <;> repeat'(first|exact tv|exact vq rfl tv|exact VW.top|exact vq rfl (nb rfl)|refine gX ?_|refine fE (nb rfl) ?_ ?_|refine gU (nb rfl) ?_ (λj hj k hk=>?_) ?_|refine an ?_ ?_)))
 all_goals first|exact rfl|exact cm (vq rfl tv)|exact OA (aG:decide (iq s c.id<0)=false)|exact⟨rfl,UM (aG:decide (iq s c.id<0)=false)⟩|exact⟨rfl,OA (aG:decide (iq s c.id<0)=false),nb rfl⟩):p:=h
def MW{p:Prop}(h:p:=by
 (repeat'(first|refine zG s a|refine zG (OU s c) .z|refine Em s c (oN 270 0 1) [] ?_ ?_|refine zG ({ s with axz:=c.n }) .z|refine Em s c (oN 276 1 0) [] ?_ ?_|refine zG (Oj s c) ⟨0,s.next⟩ (w:=by exact⟨(gu ⟨⟨vw,vq ((ah (λv=>jf 8 _ _ _ v) (ac9 qo)).trans (aeX (ars hq.2))) tv⟩,vq (jB.trans (Tq atz)) tv⟩),(gu vw),tv⟩)|refine Em s c (oN 272 0 1) [] ?_ ?_|refine zG ({ s with mg:=c.n }) ⟨0,CY s.az⟩|refine Em s c (oN 277 1 0) [] ?_ ?_|refine zG (Uz s c) .z (w:=by exact⟨(gu ⟨⟨vw,vq ((ah (λv=>jf 8 _ _ _ v) (ac9 (by have:=List.length_eraseIdx_le s.opens (jM s c).toNat;show 0+(s.opens.eraseIdx (jM s c).toNat).length<=_;omega))).trans (aeX rfl)) tv⟩,vq jB trivial⟩),(gu vw),tv⟩)|refine Em s c (oN 274 0 1) [] ?_ ?_|refine aj.n (λh=>?_)|refine aC ?_|refine bU 11 [2,3] [o0,o2,o1,(1,1,true,[])] ?_|refine mc ?_ ?_|refine mY (Oi s hs.fit) ?_|refine vM (OV s c hs hz.chunks) tv bw ?_|refine ay (f:=270) func270 λX2=>?_|refine Wx [0,6,7,8] (arU s c hs) rfl rfl rfl vw bJ (λa hp=>?_) (λhq=>?_)|refine ay (f:=276) func276 λX2=>?_|refine ay (f:=272) func272 λX2=>?_|refine Wx [0,6,7,8] (anW s c hs (arL hm hz)) rfl rfl rfl vw bJ (λa hp=>?_) (λhq=>?_)|refine ay (f:=277) func277 λX2=>?_|refine vM (ajI s.az hs.fit.l3) tv bw ?_|refine ay (f:=274) func274 λX2=>?_|refine Wx [0,6,7,8] (ar8 s c hs) rfl rfl rfl vw bJ (λa hp=>?_) (λhq=>?_)|refine Fin.here ?_|refine ag.a ?_))<;>(try(refine dm.mk ?_;repeat'(first|exact tv|exact rfl|refine an ?_ ?_|refine ag.mk ?_ ?_)))
 all_goals try exact cls
 all_goals(try(refine leq ?_ ?_ <;> repeat'(first|exact tv|exact vq rfl tv|exact VW.top|exact vq rfl (nb rfl)|refine gX ?_|refine fE (nb rfl) ?_ ?_|refine gU (nb rfl) ?_ (λj hj k hk=>?_) ?_|refine an ?_ ?_)))
 all_goals first|exact rfl|exact cm (vq rfl tv)):p:=h
def WA{p:Prop}(h:p:=by
 (repeat'(first|refine aC ?_|refine bU 5 [0,6] [o1,o2,o2,o3,o3,o2,(1,1,true,[]),(2,2,false,[])] ?_|refine mc ?_ ?_|refine lq (λh=>?_)|refine aO (Uc r h0) ?_|refine aO (aaf s qo) ?_|refine JV FV ?_|refine Am [3] (agS s r ⟨by have:=wP h0;rw[hrk]at this;exact this.2.2.1,aht hrk hf⟩ qo) ?_|refine Am [3] (ael s r (ahv hrk hf)) ?_|refine Am [3] (ae0 s r (U6 hrk hf).1 (U6 hrk hf).2) ?_|refine aj.n (λh=>?_)|refine ag.a ?_|refine kJ rfl vw))<;>(try(refine dm.mk ?_;repeat'(first|exact tv|exact rfl|refine aj.n (λh=>?_)|refine lq (λh=>?_)|refine mY FV ?_|refine fO [3] (agS s r ⟨by have:=wP h0;rw[hrk]at this;exact this.2.2.1,aht hrk hf⟩ qo) ?_|refine fO [3] (ael s r (ahv hrk hf)) ?_|refine fO [3] (ae0 s r (U6 hrk hf).1 (U6 hrk hf).2) ?_|refine an ?_ ?_|refine ag.mk ?_ ?_)))
 all_goals try exact cls):p:=h
def Wi{p:Prop}(h:p:=by
 obtain⟨rfl,rfl⟩|⟨rfl,rfl⟩|⟨rfl,rfl⟩:=hk
 all_goals refine ay func35 λX=>?_
 all_goals repeat'(first|((with_reducible refine fP ?_);(refine aC ?_))|((with_reducible refine fP ?_);first|refine aC ?_|refine bU 6 [10,13] [o2,o0,o0,o0,o0,o0,o0,o0,o0,o0,o1,o3,o3,(1,1,true,[]),(2,2,false,[])] ?_)|((conv=>whnf);first|(with_reducible refine fP ?_)|refine mc ?_ ?_|refine wK ?_|refine fO [2,3] (amz C.au i hi) ?_|refine lq (λh=>?_)|refine fO [2,3] (ap8 C.au i hi hp) ?_|refine JU (args':=[.ptr 0 0,iV (C.au.row.getD i .z).dst]) (hT.ex { C with au:=jH C.au i } (C.au.row.getD i .z)) rfl (by(repeat'(first|exact pq 8 hT rfl rfl rfl|refine an ⟨nb rfl,?_⟩ ?_|exact aW.row rfl fv|exact o8 rfl|refine fB rfl (λk hk=>dR ?_)));all_goals first|exact kk|(have hk:k<10:=hk;obtain _|_|_|_|_|_|_|_|_|_|k:=k <;> first|exact cm (vq rfl tv)|omega)) vw (Fv 1 hT hT (hth) rfl rfl rfl rfl tv (by refine⟨λk hk=>True.intro,tv⟩) vw ?_)|refine aj.mk (λh=>?_) (λh=>ai (hf.symm.trans (by simpa using h)) (by decide))|refine aj.mk (λh=>ai (hf.symm.trans (by simpa using h)) (by decide)) (λh=>?_)|refine NI (args':=[.ptr (8*(C.au.row.getD i .z).dst.toNat+24) 0,jT (C.au.row.getD i .z)]) (hT.ex { C with au:=jH C.au i } (C.au.row.getD i .z)) rfl (by(repeat'(first|exact pq 6 hT rfl rfl rfl|refine an ⟨nb rfl,?_⟩ ?_|exact aW.row rfl fv|exact o8 rfl|refine fB rfl (λk hk=>dR ?_)));all_goals first|exact cm (vq rfl tv)|exact kk) ⟨vq rfl (Nat.lt_succ_of_lt hpx),agg,tv⟩ (WW 1 hT hT1 (hrc) rfl rfl rfl rfl (Pm True.intro True.intro) (by refine⟨λk hk=>True.intro,tv⟩) ⟨aaM hpx,VW.agg λk hk=>qC,tv⟩ ?_)|refine NI (args':=[.ptr 0 0,.d (iU l),iV e]) (hT1.ex { C with au:=jH C.au i } (C.au.row.getD i .z)) rfl (by(repeat'(first|exact pq 6 hT1 rfl rfl rfl|refine an ⟨nb rfl,?_⟩ ?_|exact aW.row rfl fv|exact o8 rfl|refine fB rfl (λk hk=>dR ?_)));all_goals first|exact cm (vq rfl tv)|exact kk) vw (WW 1 hT1 hT1 (hsd) rfl rfl rfl rfl tv (by refine⟨λk hk=>True.intro,tv⟩) vw ?_)|refine aj.n (λh=>?_)|refine ag.a ?_|refine bM (nb rfl) (nb rfl) (vq rfl tv) ?_))
 all_goals(try(refine dm.mk ?_;repeat'(first|exact tv|((conv=>whnf);first|exact rfl|refine JU (args':=[.ptr (8*(C.au.row.getD i .z).dst.toNat+24) 0,jT (C.au.row.getD i .z)]) (hT.ex { C with au:=jH C.au i } (C.au.row.getD i .z)) rfl (by(repeat'(first|exact pq 6 hT rfl rfl rfl|refine an ⟨nb rfl,?_⟩ ?_|exact aW.row rfl fv|exact o8 rfl|refine fB rfl (λk hk=>dR ?_)));all_goals first|exact cm (vq rfl tv)|exact kk) ⟨vq rfl (Nat.lt_succ_of_lt hpx),agg,tv⟩ (Fv 1 hT hT1 (hrc) rfl rfl rfl rfl (Pm True.intro True.intro) (by refine⟨λk hk=>True.intro,tv⟩) ⟨aaM hpx,VW.agg λk hk=>qC,tv⟩ ?_)|refine JU (args':=[.ptr 0 0,.d (iU l),iV e]) (hT1.ex { C with au:=jH C.au i } (C.au.row.getD i .z)) rfl (by(repeat'(first|exact pq 6 hT1 rfl rfl rfl|refine an ⟨nb rfl,?_⟩ ?_|exact aW.row rfl fv|exact o8 rfl|refine fB rfl (λk hk=>dR ?_)));all_goals first|exact cm (vq rfl tv)|exact kk) vw (Fv 1 hT1 hT1 (hsd) rfl rfl rfl rfl tv (by refine⟨λk hk=>True.intro,tv⟩) vw ?_)|refine an ?_ ?_|refine ag.mk ?_ ?_))))
 all_goals try exact cls
 all_goals(try(repeat'(first|exact pq 8 hT rfl rfl rfl|exact pq 6 hT rfl rfl rfl|exact pq 6 hT1 rfl rfl rfl|refine an ⟨nb rfl,?_⟩ ?_|exact aW.row rfl fv|exact o8 rfl|refine fB rfl (λk hk=>dR ?_))))
 all_goals exact kk):p:=h
def abr{p:Prop}(h:p:=by
 (repeat'(first|((with_reducible refine fP ?_);first|refine T.cut (x:=.region 11 _ _) ⟨132,[(0,.ptr 0 0)],NS (wV n)⟩ ?_ ?_|refine T.cut (x:=.region 13 _ _) ⟨132,[(0,.ptr 0 0)],NV (eX n)⟩ ?_ ?_|refine QY (id:=8) (pre:=(nP f24 8).toList.take 2) (wZ:=(nP f24 8).toList.drop 2) rfl rfl ?_|refine rQ (c:=.seq (.seq (.region 16 _ _) _) _) 9 126 (λj k=>.d (kN (([]:List aV).getD j .z) k)) rfl rfl (nb rfl) (T.seq ?_)|refine T.LQ n (wV n) (asu hm) ?_|refine aC ?_|refine bU 5 [9] (ooz 9 [o1,o3,o3,o3,o3,o3]) ?_|refine bU 13 [26,28] (ooz 26 [o1,o3,(1,1,true,[])]) ?_|refine dU (jb (eX n) n.many.toNat).length (λi (a:Unit)=>⟨132,[(0,.ptr 0 0),(7,iV ((eX n).ae.log.length:Int)),(8,iV (Es (eX n).ae.log)),(9,.row 12 (((jb (eX n) n.many.toNat).take i).map (Dx (eX n))).length),(113,.d (iR (jb (eX n) n.many.toNat))),(114,iV (jb (eX n) n.many.toNat).length),(115,iV i)],⟨[(0,.Wp 23 (Lm (eX n) 3 8 9 10 11)),(1,.Wp 5 (tN (eX n).aB)),(2,kL ((eX n).aB.b++(eX n).aB.dA)),(3,bQ 52 2 ji .z (eX n).fV),(8,tH (eX n).ig),(9,gJ (eX n).eF),(10,gJ (eX n).next),(11,gJ (eX n).gz),(12,bQ 126 10 kN .z (((jb (eX n) n.many.toNat).take i).map (Dx (eX n))))],13⟩⟩) (λ_ _=>True) () ?_ True.intro (λi a hi hp=>?_))|((conv=>whnf);first|(with_reducible refine fP ?_)|refine aj.mk (λh=>ai h (by rw[hu];decide)) (λh=>?_)|refine aj.mk (λh=>ai h (by rw[aT hr];decide)) (λh=>?_)|refine aj.mk (λh=>ai h (by rw[aX hq];decide)) (λh=>?_)|refine aj.mk (λh=>?_) (λh=>ai h (by rw[aT (hE aG (bV aG))];decide))|refine mc ?_ ?_|refine aZ _ (fM ((Conv.eG (i:=9) (h:=λj=>pI (((jh (n.ae.term+1) (n.me+1))).getD j .z)) (iI.of (n:=1) (z:=4) (E:=138) (nb rfl) rfl fr)).trans (Conv.le (s2:=⟨132,[(0,.ptr 0 0),(40,.ptr 0 0),(41,.d (kK (jh (n.ae.term+1) (n.me+1))))],NS n⟩) ?_)) ?_)|refine fO [1,2] (Iw n.aB) ?_|refine fO [0,1,2,3,4,5,6,7] (Ea n (jh (n.ae.term+1) (n.me+1)) hL (hn hu)) ?_|refine aO (agF (eX n).ae.log (ao9 pK)) ?_|refine fO [0,1,2,3,8,9,10,11] (adR (eX n) n.many.toNat (ao8 hm) (adv hm)) ?_|refine fO [0,1,2,3,8,9,10,11] (X7 (eX n) 1 ((jb (eX n) n.many.toNat).getD i 0)) ?_|refine aZ () ⟨?_,tv,?_⟩|refine fO [0,1,2,3,4,5,6,7] (Ea n (jh (n.ae.term+1) (n.me+1)) hL (hn aG)) ?_|refine aj.n (λh=>?_)|refine JV (afb n.ae n.me qy hT) ?_|refine aj.mk (λh=>?_) (λh=>?_)|refine ag.a ?_|(rw[show(jb (eX n) n.many.toNat).take i=(jb (eX n) n.many.toNat) from jU om];refine Fin.eG (i:=12) (h:=λj=>kN (((jb (eX n) n.many.toNat).map (Dx (eX n))).getD j .z)) (iI.of (nb rfl) rfl fr) (bM (nb rfl) (nb rfl) (fH [.d (iU (yH (eX n))),iV 0] rfl fr vw) ?_))|refine ag.mk ?_ ?_|(refine qZ.mk (p:=n.aB.down=true) ?_ ?_;(exact jc);refine NR.of (aum aG) (bM (nb rfl) (nb rfl) (fH [.d (iU []),iV (30)] rfl fr vw) ?_))|(refine qZ.mk (p:=decide (n.role=2)=true) ?_ ?_;(exact jc);refine NR.of (aul aG aG) (bM (nb rfl) (nb rfl) (fH [.d (iU []),iV (0)] rfl fr vw) ?_))|refine NR.of (auk aG aG) (bM (nb rfl) (nb rfl) (fH [.d (iU []),iV ((aS n (jh (n.ae.term+1) (n.me+1))).2)] rfl fr vw) ?_))))<;>(try(refine dm.mk ?_;repeat'(first|exact tv|((conv=>whnf);first|exact rfl|refine mY (afb n.ae n.me qy hT) ?_|refine an ?_ ?_|refine ag.mk ?_ ?_))))
 all_goals try exact cls
 all_goals(try(refine leq ?_ ?_ <;> repeat'(first|exact tv|exact vq rfl tv|exact vq rfl (nb rfl)|refine vq (ah (V.row _) ?_) (nb rfl)|refine jQ (nb rfl) (λk hk=>?_) ?_|refine gU (nb rfl) ?_ (λj hj k hk=>?_) ?_|refine an ?_ ?_)))
 all_goals first|exact rfl|exact cm (vq rfl tv)|exact kk|(have hk:k<23:=hk;obtain _|_|_|_|_|_|_|_|_|_|_|_|_|_|_|_|_|_|_|_|_|_|_|k:=k <;> first|exact cm (vq rfl tv)|exact cm (vq rfl (nb rfl))|exact cm (vq (ah (V.row 8) (show(wV n).many.toNat=(eX n).ig.length by rw[MZ];exact ahc.symm)) (nb rfl))|exact cm (vq (ah (V.row 9) (show(wV n).many.toNat=(eX n).eF.length by rw[MZ];exact ahf.symm)) (nb rfl))|exact cm (vq (ah (V.row 10) (show(wV n).many.toNat=(eX n).next.length by rw[MZ];exact ahe.symm)) (nb rfl))|exact cm (vq (ah (V.row 11) (show(wV n).many.toNat=(eX n).gz.length by rw[MZ];exact ahd.symm)) (nb rfl)))|(have q1:(wV n).many=n.many:=MZ;have q2:(wV n).me=n.me:=apc;have q3:=ahc (n:=n);have q4:=ahf (n:=n);have q5:=ahe (n:=n);have q6:=ahd (n:=n);first|omega|(rw[q2];first|exact cm (vq (amS qo hk rfl) tv)|exact cm (vq (amR qo hk rfl) tv))|exact cm (vq (amQ hk) tv))|(have h9:i<(jb (eX n) n.many.toNat).length:=om;have q:=JI (f:=Dx (eX n)) hi;have q2:=Wq (eX n) n.many.toNat;have q3:=adv hm;first|omega|(simp only[dM,jg];omega)|(rw[q,JI (f:=Dx (eX n)) (show i+1<=(jb (eX n) n.many.toNat).length from h9)];done)|(rw[Xr (z:=0) h9];(have hk:k<10:=hk;refine cm (kU rfl hj fr (λj hj=>?_));obtain rfl:j=0:=Nat.lt_one_iff.1 hj;obtain _|_|_|_|_|_|_|_|_|_|k:=k;exact vq rfl tv;exact vq rfl tv;exact vq rfl tv;exact vq rfl tv;exact vq rfl tv;exact vq rfl tv;exact vq rfl tv;exact vq rfl tv;exact vq rfl tv;exact vq rfl tv;omega)))|exact uF):p:=h
def ab4{p:Prop}(h:p:=by
 (repeat'(first|refine aC ?_|refine rQ 5 5 (λj _=>.d (gG (([]:List UInt8).getD j 0))) rfl rfl (nb rfl) (dU l.length (λi (a:List UInt8)=>⟨25,[(5,.row 0 a.length),(13,.d (jv l)),(14,iV l.length),(15,iV i)],⟨[(0,kL a)],1⟩⟩) (λi a=>a=bK (l.take i)) [] ?_ ?_ (λi a hi hp=>?_))|refine dU l.length (λi (a:List UInt8)=>⟨27,[(0,.d (jv l)),(5,.row 0 a.length),(6,iV i)],⟨[(0,kL a)],1⟩⟩) (λi a=>a=bK (l.take i)) [] ?_ ?_ (λi a hi hp=>?_)|refine aZ (a++jk (l.getD i .z)) ⟨?_,?_,?_⟩|refine aO (agD l hl) ?_|refine aO (afl l hl) ?_|refine aO (agu (l.getD i .z) (hl.fit i om)) ?_|refine aO (agw (l.getD i .z) (hl.fit i om)) ?_|refine aj.n (λh=>?_)|refine aj.mk (λh=>?_) (λh=>?_)|refine ag.mk (by decide) ?_|refine ag.a ?_|refine FD (C:=λb _=>gG b) (z:=0) (L:=bK l) rfl rfl ?_ ?_ (vq rfl tv)|refine ag.mk ?_ ?_))<;>try exact cls
 all_goals(try(refine leq ?_ ?_ <;> repeat'(first|exact tv|refine an (vq rfl tv) ?_|refine an (vq (ah (V.row 0) ?_) (nb rfl)) ?_|refine an ⟨nb rfl,rfl,rfl,?_,λj hj k hk=>vq ?_ trivial⟩ ?_|exact vq rfl tv|exact vq rfl (nb rfl)|refine vq (ah (V.row _) ?_) (nb rfl)|refine an ⟨nb rfl,aW.row ?_ (λj hj k hk=>vq ?_ trivial)⟩ ?_|refine an ?_ ?_)))
 all_goals first|omega|(simp[bK];done)|(obtain rfl:k=0:=qo;exact DX rfl (λ_=>rfl) (λ_=>rfl) j)|((try simp only[gq,iy]at *);have h9:i<l.length:=qo;have h8:=Oe (hl.fit i h9);have h7:=Nc hl i;have h6:=hl.len;have h5:=hl.big i h9;first|omega|(simp only[dM];omega)|(rw[hp,kR bu.z h9,QX];done)|(rw[<-hp]at h7;refine⟨?_,?_⟩ <;> first|trivial|omega))|((try simp only[gq,iy,nY,o9]at *);obtain rfl:i=l.length:=qo;rw[hp,mM];done)|((try simp only[gq,iy,nY,o9]at *);obtain rfl:i=l.length:=qo;have e:a=bK l:=(by rw[hp,mM]);subst e;exact λj hj k hk=>rfl)):p:=h
def QQ{p:Prop}(h:p:=by
 (repeat'(first|refine aC ?_|refine aj.mk (λh=>?_) (λh=>?_)|refine ag.mk (by decide) ?_|refine wz.mk (λt ht=>?_)|refine aoA rfl rfl ?_ ?_|refine Fin.tell (pg ?_)|refine ag.mk ?_ ?_))<;>try exact cls
 all_goals first|(exact λj hj k hk=>aos rfl j k)|(exact ht aG)):p:=h
def Wh{p:Prop}(h:p:=by
 (repeat'(first|refine aj.mk (λh=>?_) (λh=>ai (ho.symm.trans (auY h)) (by decide))|refine aC ?_|refine fO [0,1] (Sv p i) ?_|refine ag.a ?_|refine bM (nb rfl) (nb rfl) (fH [jT .z,iV 1] rfl fr ⟨(gu (by repeat'(first|exact tv|exact vq rfl tv|exact pg rfl|refine an ?_ ?_))),vq rfl tv,tv⟩) ?_|refine bM (nb rfl) (nb rfl) (vq rfl tv) ?_))<;>try exact cls
 all_goals(refine⟨⟨nb rfl,fB rfl (λk hk=>?_)⟩,⟨nb rfl,aW.row rfl fv⟩,tv⟩;have hk:k<4:=hk;obtain _|_|_|_|k:=k <;> first|exact vq rfl tv|exact vq rfl (nb rfl))):p:=h
def ab7{p:Prop}(h:p:=by
 (repeat'(first|refine aj.mk (λh=>ai ((show qx p (i:Int)=true by unfold qx;rw[aX (show(0:Int)<=(i:Int) by omega),aX (show(i:Int)<(p.row.length:Int) by omega)];rfl).symm.trans (aaj h)) (by decide)) (λh=>?_)|refine aC ?_|refine fO [0,1] (Sv p (i:Int)) ?_|refine fO [0,1] (asP p i hi (by have:=hp.fits;omega)) ?_|refine MQ (p.taken) 1 (by exact rfl) (by exact rfl) (by exact nb rfl) (by exact rfl) (by have:=hp.t;omega) ?_|refine aO (ak2 (p.row.getD i .z) (hp.at hi)) ?_|refine aj.n (λh=>?_)|refine ag.a ?_|refine bM (nb rfl) (nb rfl) (fH [jT (p.row.getD i .z),iV 0] rfl fr vw) ?_|refine MQ (p.lost) 1 (by exact rfl) (by exact rfl) (by exact nb rfl) (by exact rfl) (by have:=hp.l;omega) ?_|refine bM (nb rfl) (nb rfl) (vq rfl tv) ?_))<;>try exact cls):p:=h
def ab6{p:Prop}(h:p:=by
 have d1:=hd.s0;have d2:=hd.s1;have d3:=hd.len;have d4:=hd.dA;refine ay func141 λX=>?_
 (repeat'(first|refine aC ?_|refine aj.mk (λh2=>ai h2 (by rw[h];decide)) (λh=>?_)|refine aj.mk (λh=>?_) (λh2=>ai h2 (by rw[h1];decide))|refine nZ [0,1] (TP d d.axz hd hk) rfl rfl rfl vw ⟨⟨_,rfl,aW.Wp vw⟩,⟨_,rfl,aW.row rfl fv⟩,tv⟩ ?_|refine aj.mk (λh2=>ai h2 (by rw[h1];decide)) (λh=>?_)|refine ag.a ?_|refine bM (nb rfl) (nb rfl) (vq (ah iV ?_) tv) ⟨⟨nb rfl,aW.Wp ⟨⟨⟨⟨⟨tv,?_⟩,?_⟩,?_⟩,?_⟩,?_⟩⟩,⟨nb rfl,aW.row ?_ (λj hj k hk=>dR ?_)⟩,tv⟩))<;>try exact cls
 all_goals first|exact vq rfl (nb rfl)|exact vq rfl tv):p:=h
def abw{p:Prop}(h:p:=by
 have d1:=hd.s0;have d2:=hd.s1;have d3:=hd.len;have d4:=hd.dA;refine ay func140 λX=>?_
 (repeat'(first|refine aC ?_|refine aj.mk (λh2=>ai h2 (by rw[h];decide)) (λh=>?_)|refine lq (λh=>?_)|refine aj.n (λh=>?_)|refine ag.a ?_|refine bM (nb rfl) (nb rfl) (vq (ah iV ?_) tv) ⟨⟨nb rfl,aW.Wp ⟨⟨⟨⟨⟨tv,?_⟩,?_⟩,?_⟩,?_⟩,?_⟩⟩,⟨nb rfl,aW.row ?_ (λj hj k hk=>dR ?_)⟩,tv⟩|refine ag.mk ?_ ?_))<;>try exact cls
 all_goals first|exact vq rfl (nb rfl)|exact vq rfl tv|((try simp only[bP,dM,true_and]);omega)|(refine vq (En ?_ ?_) (nb rfl) <;> first|(simp only[fC.append,bP,eY];done)|(simp only[fC.append,bP,eY];(show max _ _=_;omega)))|(refine cm (vq ?_ trivial);(simp only[fC.append];exact ajV))|(simp only[fC.append,bP,eY];show max _ _=_;omega)):p:=h
def abq{p:Prop}(h:p:=by
 have ht:=he.term;refine ay func206 λX=>?_
 (repeat'(first|refine aC ?_|refine BN ?_|refine TL.round ?_|refine aO (RY [⟨1,0,e.term.toNat,[]⟩] hf) ?_|refine aO (TV 7 1 (.inr (.inr rfl)) [⟨1,0,e.term.toNat,[]⟩] hc) ?_|refine aO (RY [⟨1,0,e.term.toNat,[]⟩,⟨2,2,0,e.b⟩] hf) ?_|refine aO (TV 7 1 (.inr (.inr rfl)) [⟨1,0,e.term.toNat,[]⟩,⟨2,2,0,e.b⟩] hc) ?_|refine aO (Ii e.b.length (λj _=>gG (e.b.getD j 0)) (by have:=he.b;omega)) ?_|refine aj.n (λh=>?_)|refine lq (λh=>?_)|refine ag.a ?_|refine kJ rfl ⟨gu ⟨⟨tv,vq (ah iV ?_) tv⟩,pg (by rw[hb];rfl)⟩,VW.refl tv,tv⟩|refine kJ rfl ⟨gu ⟨⟨tv,vq (ah iV ?_) tv⟩,vq rfl tv⟩,VW.refl tv,tv⟩|refine ag.mk ?_ ?_))<;>try exact cls
 all_goals first|(simp;done)|(show((e.term.toNat:Nat):Int)=e.term;omega)|(show(dM .i64).1<=((e.term.toNat:Nat):Int)/\((e.term.toNat:Nat):Int)<=(dM .i64).2;simp only[dM];omega)):p:=h
def ab8{p:Prop}(h:p:=by
 obtain rfl:k=0:=Nat.lt_one_iff.1 hk;unfold mr;rcases hb:Nat.beq j p with _|_
 ·have:j≠p:=λe=>by subst e;simp at hb
  rw[show(l.set p v).getD j 0=l.getD j 0 by rw[bn,List.getElem?_set_ne (λe=>this e.symm),bn]];rfl
 ·have:=dJ hb;subst this;rw[show(l.set j v).getD j 0=v by rw[bn,List.getElem?_set_self hp];rfl];exact e):p:=h
def abG{p:Prop}(h:p:=by
 (repeat'(first|refine aC ?_|refine aj.mk (λh=>?_) (λh2=>ai h2 (by rw[aX rfl];decide))|refine aj.n (λh=>?_)|refine ag.a ?_|refine bM (nb rfl) (nb rfl) (vq rfl (nb rfl)) ⟨⟨nb rfl,aW.row rfl (λj hj k hk=>vq (aq9 hj) tv)⟩,⟨nb rfl,aW.row rfl fv⟩,tv⟩|refine ag.mk ?_ ?_))<;>try exact cls):p:=h
def ab5{p:Prop}(h:p:=by
 (repeat'(first|refine aj.mk (λh=>ai h (by rw[Ih.2 hx,fF,aT (show ¬(64:Int)<x.a+x.l.length by omega)];decide)) (λh=>?_)|refine aj.mk (λh=>?_) (λh=>ai h (by rw[aT hn];decide))|refine aC ?_|refine aO (FP x (by have:=hx.len;omega)) ?_|refine lq (λh=>?_)|refine aO (TC s x.term) ?_|refine aO (YS s.log x.a x.b qo) ?_|refine aj.n (λh=>?_)|refine ag.a ?_|exact kJ rfl ⟨pg (by rw[show bg s x=_ from dH (aX ht)];rfl),vq (ah V.b (by rw[show bg s x=_ from dH (aX ht)])) tv,vq (ah iV (by rw[show bg s x=_ from dH (aX ht)])) tv,vq rfl tv,tv⟩|exact kJ rfl ⟨vq (ah (λL=>V.d (kK L)) (by rw[show bg s x=_ from (bG (aT ht)).trans (dH h)])) tv,vq (ah V.b (by rw[show bg s x=_ from (bG (aT ht)).trans (dH h)])) tv,vq (ah iV (by rw[show bg s x=_ from (bG (aT ht)).trans (dH h)])) tv,vq rfl tv,tv⟩|refine ag.mk ?_ ?_))<;>try exact cls
 all_goals(have:=hx.a;simp only[dM];omega)):p:=h
def abv{p:Prop}(h:p:=by
 (repeat'(first|refine aj.mk (λh=>?_) (λh=>ai ((bG (aG:(!n.aB.down)=false)).trans (Qc h)) hE)|refine aj.mk (λh=>ai ((show(!n.aB.down)=false by rw[hu];rfl).symm.trans h) (by decide)) (λh=>?_)|refine aj.mk (λh=>ai hE (abd h)) (λh=>?_)|refine T.cut (x:=.region 13 _ _) ⟨75,[(0,.ptr 0 0),(1,iV b),(5,.ptr 8 0)],⟨[(0,.Wp 23 (awI (eQ n b L))),(1,.Wp 5 (tN (eQ n b L).aB)),(2,kL ((eQ n b L).aB.b++(eQ n b L).aB.dA)),(8,.Wp 4 (λk=>.d (rq (fJ L) k)))],9⟩⟩ ?_ (uN 0 18 52 (λj k=>.d (ji (([]:List Rep).getD j .z) k)) rfl rfl (nb rfl) rfl (nb rfl) (uN 0 19 4 (λj k=>.d (bD (([]:List Bool).getD j false))) rfl rfl (nb rfl) rfl (nb rfl) (uN 0 20 3 (λj k=>.d (iD (([]:List Int).getD j 0))) rfl rfl (nb rfl) rfl (nb rfl) (uN 0 21 3 (λj k=>.d (iD (([]:List Int).getD j 0))) rfl rfl (nb rfl) rfl (nb rfl) (uN 0 22 3 (λj k=>.d (iD (([]:List Int).getD j 0))) rfl rfl (nb rfl) rfl (nb rfl) (T.le ⟨75,[(0,.ptr 0 0),(1,iV b),(5,.ptr 8 0)],⟨[(0,.Wp 23 (Lm (eQ n b L) 9 10 11 12 13)),(1,.Wp 5 (tN (eQ n b L).aB)),(2,kL ((eQ n b L).aB.b++(eQ n b L).aB.dA)),(8,.Wp 4 (λk=>.d (rq (fJ L) k))),(9,bQ 52 2 ji .z (eQ n b L).fV),(10,tH (eQ n b L).ig),(11,gJ (eQ n b L).eF),(12,gJ (eQ n b L).next),(13,gJ (eQ n b L).gz)],14⟩⟩ ?_ ?_))))))|refine QY (id:=15) (pre:=(nP f30 15).toList.take 4) (wZ:=(nP f30 15).toList.drop 4) rfl rfl ?_|refine aC ?_|refine bU 13 [7] (ooz 7 [o1]) ?_|refine ag.mk (fM (nN ?_) rfl) ?_|refine aZ _ (fM (((Conv.le (s2:=⟨75,[(0,.ptr 0 0),(1,iV b),(5,.ptr 8 0),(62,.ptr 0 0),(65,.row 14 1)],⟨[(0,.Wp 23 (Lm (eQ n b L) 9 10 11 12 13)),(1,.Wp 5 (tN (eQ n b L).aB)),(2,kL ((eQ n b L).aB.b++(eQ n b L).aB.dA)),(8,.Wp 4 (λk=>.d (rq (fJ L) k))),(9,bQ 52 2 ji .z (eQ n b L).fV),(10,tH (eQ n b L).ig),(11,gJ (eQ n b L).eF),(12,gJ (eQ n b L).next),(13,gJ (eQ n b L).gz),(14,bQ 138 4 pI .z (iH b))],15⟩⟩) ?_).trans (Conv.eG (i:=14) (h:=λj=>pI ((iH b).getD j .z)) (iI.of (n:=1) (z:=4) (E:=138) (nb rfl) rfl (λj hj k hk=>rfl)))).trans (Conv.le (s2:=⟨75,[(0,.ptr 0 0),(1,iV b),(5,.ptr 8 0),(62,.ptr 0 0),(65,.d (kK (iH b)))],⟨[(0,.Wp 23 (Lm (eQ n b L) 9 10 11 12 13)),(1,.Wp 5 (tN (eQ n b L).aB)),(2,kL ((eQ n b L).aB.b++(eQ n b L).aB.dA)),(8,.Wp 4 (λk=>.d (rq (fJ L) k))),(9,bQ 52 2 ji .z (eQ n b L).fV),(10,tH (eQ n b L).ig),(11,gJ (eQ n b L).eF),(12,gJ (eQ n b L).next),(13,gJ (eQ n b L).gz)],15⟩⟩) ?_)) ?_)|refine fO [1,2] (Iw n.aB) ?_|refine fO [1,2] (arP n.aB hd) ?_|refine aO (amn n.aB.b L t hL) ?_|refine aO (alV b (max (fJ L).floor 1)) ?_|refine fO [1,2] (av6 n.aB hu) ?_|refine fO [1,2] (avE { n.aB with down:=false,oU:=false,axz:=0 } (di L).length ⟨hd.s0,hd.s1,hd.len,hd.dA⟩ hL.le rfl) ?_|refine fO [0,1,2,9,10,11,12,13] (Ea (eQ n b L) (iH b) hP ⟨hup,rfl,by show(-9223372036854775808:Int)<=0;decide⟩) ?_|refine fO [1,2] (TP (aS (eQ n b L) (iH b)).1.aB 0 (hc (abd (by assumption))) (by decide)) ?_|refine kF acI ?_|refine aj.n (λh=>?_)|refine aj.mk (λh=>?_) (λh=>?_)|refine ag.a ?_|(refine uh (nb rfl) (vq (ah iV ?_) tv) ?_)|(refine qZ.mk (p:=(!decide ((aS (eQ n b L) (iH b)).2=0))=true) ?_ ?_;(exact jc);refine UR.of (p:=({ (aS (eQ n b L) (iH b)).1 with aB:=(aS (eQ n b L) (iH b)).1.aB.lF 0 },(aS (eQ n b L) (iH b)).2)) ?_ (bM (nb rfl) (nb rfl) (vq rfl tv) ?_))|(refine qZ.mk (p:=(!decide ((aS (eQ n b L) (iH b)).2=0))=false) ?_ ?_;(exact jc);refine UR.of (p:=((aS (eQ n b L) (iH b)).1,0)) ?_ (bM (nb rfl) (nb rfl) (vq rfl tv) ?_))|refine UR.of (p:=((eQ n b L),0)) ?_ (bM (nb rfl) (nb rfl) (vq rfl tv) ?_)))<;>(try(refine dm.mk ?_;repeat'(first|exact tv|exact rfl|refine aO acI ?_|refine an ?_ ?_|refine ag.mk ?_ ?_)))
 all_goals try exact cls
 all_goals(try(refine leq ?_ ?_ <;> repeat'(first|exact tv|exact vq rfl tv|exact vq rfl (nb rfl)|refine jQ (nb rfl) (λk hk=>?_) ?_|refine gU (nb rfl) ?_ (λj hj k hk=>?_) ?_|refine an ?_ ?_)))
 all_goals first|exact(dH (aG:(!n.aB.down)=true)).symm|exact(bG (aG:(!n.aB.down)=false)).symm|exact uF|exact rfl|exact cm (vq rfl tv)|(unfold Kq;simp only[*,dw,bz];done)|(have hk:k<23:=hk;obtain _|_|_|_|_|_|_|_|_|_|_|_|_|_|_|_|_|_|_|_|_|_|_|k:=k <;> first|exact cm (vq rfl tv)|exact cm (vq rfl (nb rfl))|omega)|(have hk:k<5:=hk;obtain _|_|_|_|_|k:=k <;> first|exact cm (vq rfl tv)|exact cm (vq rfl (nb rfl)))|((repeat'(first|exact tv|refine fE (nb rfl) ?_ ?_|refine an ⟨nb rfl,aW.row rfl (λj hj k hk=>vq rfl tv)⟩ ?_|exact vq rfl tv|exact vq rfl (nb rfl)|refine an ?_ ?_));done)|(have hk:k<4:=hk;obtain _|_|_|_|k:=k <;> first|exact cm (vq rfl tv)|omega)|(have hk:k<4:=hk;obtain rfl:j=0:=Nat.lt_one_iff.1 hj;obtain _|_|_|_|k:=k <;> first|exact cm (vq rfl tv)|exact cm (pg rfl)|omega)):p:=h
def abt{p:Prop}(h:p:=by
 (repeat'(first|refine aC ?_|refine aj.mk (λh=>?_) (λh=>?_)|refine ag.a ?_|refine bM (nb rfl) (nb rfl) VW.top ⟨⟨nb rfl,aW.Wp ⟨tv,vq (ah (V.row 1) ?_) (nb rfl)⟩⟩,⟨nb rfl,aW.row ?_ ?_⟩,tv⟩|refine ag.mk ?_ ?_))<;>try exact cls
 all_goals first|(have e:n≠0:=(by simpa using h);unfold lD;rw[if_neg e];first|(simp;done)|(refine aeJ (λk hk=>by obtain _|_|_|_|k:=k;exact vq rfl tv;exact vq rfl tv;exact vq (ah (V.int .u64) (show n=(n.toNat:Int) by omega)) tv;exact VW.dC;omega)))|(have e:b≠[]:=(by intro e;subst e;simp at h);unfold ql;rw[if_neg e];first|(simp;done)|(refine aeJ (λk hk=>by obtain _|_|_|_|k:=k;exact vq rfl tv;exact vq rfl tv;exact vq rfl tv;exact vq rfl tv;omega)))|(have e:n=0:=(by simpa using h);unfold lD;rw[if_pos e,pO];done)|(have e:b=[]:=(by simpa using h);unfold ql;rw[if_pos e,pO];done)|(have e:n=0:=(by simpa using h);unfold lD;rw[if_pos e,pO];exact λj hj k hk=>VW.refl tv)|(have e:b=[]:=(by simpa using h);unfold ql;rw[if_pos e,pO];exact λj hj k hk=>VW.refl tv)):p:=h
def dQ(x a b:Int):Bool:=decide (a<=x/\x<=b)
def OH(x a b:Int):aQ 44 [iV x,iV a,iV b] (.b (dQ x a b)):=by
 refine ay func44 λX=>?_
 (repeat'(first|refine aC ?_|refine ag.mk (λh=>h) ?_|refine Fin.tell (vq (ah V.b ?_) tv)))<;>try exact cls
 all_goals((simp[Af,dQ]at *;done))
def zq(x a b:Int):aQ 79 [iV x,iV a,iV b] (.b (dQ x a b)):=by
 refine ay func79 λX=>?_
 (repeat'(first|refine aC ?_|refine ag.mk (λh=>h) ?_|refine Fin.tell (vq (ah V.b ?_) tv)))<;>try exact cls
 all_goals((simp[Af,dQ]at *;done))
def aan(x a b:Int):aQ 177 [iV x,iV a,iV b] (.b (dQ x a b)):=by
 refine ay func177 λX=>?_
 (repeat'(first|refine aC ?_|refine ag.mk (λh=>h) ?_|refine Fin.tell (vq (ah V.b ?_) tv)))<;>try exact cls
 all_goals((simp[Af,dQ]at *;done))
def D7(x a b:Int):aQ 255 [iV x,iV a,iV b] (.b (dQ x a b)):=by
 refine ay func255 λX=>?_
 (repeat'(first|refine aC ?_|refine ag.mk (λh=>h) ?_|refine Fin.tell (vq (ah V.b ?_) tv)))<;>try exact cls
 all_goals((simp[Af,dQ]at *;done))
def XG(x:Int):aQ 103 [iV x] (.b (dQ x 1 3)):=by
 refine ay func103 λX=>?_
 (repeat'(first|refine aC ?_|refine ag.mk (λh=>h) ?_|refine Fin.tell (vq (ah V.b ?_) tv)))<;>try exact cls
 all_goals((simp[Af,dQ]at *;done))
def XH(x:Int):aQ 145 [iV x] (.b (dQ x 1 3)):=by
 refine ay func145 λX=>?_
 (repeat'(first|refine aC ?_|refine ag.mk (λh=>h) ?_|refine Fin.tell (vq (ah V.b ?_) tv)))<;>try exact cls
 all_goals((simp[Af,dQ]at *;done))
def aao(a b x:Int):aQ 187 [.agg 2 (λk=>match k with|0=>iV a|_=>iV b),iV x] (.b (dQ x a b)):=by
 refine ay func187 λX=>?_
 (repeat'(first|refine aC ?_|refine ag.mk (by decide) ?_|refine ag.mk (λ_=>by decide) ?_|refine ag.mk (λh=>h) ?_|refine Fin.tell (vq (ah V.b ?_) tv)))<;>try exact cls
 all_goals((simp[Af,dQ]at *;done))
def IG(n dO:Int)(named:Bool):Bool:=dQ n 0 (if named then dO else 0)
def asj(n dO:Int)(named:Bool):aQ 176 [iV n,iV dO,.b named] (.b (IG n dO named)):=by
 refine ay func176 λX=>?_
 (repeat'(first|refine aC ?_|refine aO (aan _ _ _) ?_|refine aj.mk (λh=>?_) (λh=>?_)|refine Fin.tell (vq (ah V.b ?_) tv)))<;>try exact cls
 all_goals((simp[Af,IG,dQ]at *;grind))
def Cf(x:Int)(used:Bool)(a b:Int):Bool:=if used then dQ x a b else decide (x=0)
def YQ(x:Int)(used:Bool)(a b:Int):aQ 166 [iV x,.b used,iV a,iV b] (.b (Cf x used a b)):=by
 refine ay func166 λX=>?_
 (repeat'(first|refine aC ?_|refine aO (zq _ _ _) ?_|refine aj.mk (λh=>?_) (λh=>?_)|refine Fin.tell (vq (ah V.b ?_) tv)))<;>try exact cls
 all_goals((simp[Af,Cf,dQ]at *;grind))
def jX(k:Int):Int:=if 1<=k/\k<=8 then 1 else if k=9\/k=10 then 2 else if k=11\/k=12 then 3 else 0
def SC(k:Int):aQ 42 [iV k] (iV (jX k)):=by
 refine ay func42 λX=>?_
 (repeat'(first|refine aC ?_|refine aO (zq _ _ _) ?_|refine aj.mk (λh=>?_) (λh=>?_)|refine Fin.tell (vq (ah iV ?_) tv)))<;>try exact cls
 all_goals((simp[dM,jX,dQ]at *;omega))
def Zy(k:Int):aQ 144 [iV k] (iV (jX k)):=by
 refine ay func144 λX=>?_
 repeat'(first|refine aC ?_|refine Fin.tell (vq (ah iV ?_) tv)|refine ag.mk ?_ ?_)
 ·exact(ah1 [(12,3),(11,3),(10,2),(9,2),(8,1),(7,1),(6,1),(5,1),(4,1),(3,1),(2,1),(1,1)] k).1
 ·refine(ah1 [(12,3),(11,3),(10,2),(9,2),(8,1),(7,1),(6,1),(5,1),(4,1),(3,1),(2,1),(1,1)] k).2.trans ?_;by_cases hk:1<=k/\k<=12
  ·have h:k=1\/k=2\/k=3\/k=4\/k=5\/k=6\/k=7\/k=8\/k=9\/k=10\/k=11\/k=12:=qO;obtain rfl|rfl|rfl|rfl|rfl|rfl|rfl|rfl|rfl|rfl|rfl|rfl:=h <;> rfl
  ·simp only[UX];unfold jX;rw[if_neg qO,if_neg qO,if_neg qO,if_neg qO,if_neg qO,if_neg qO,if_neg qO,if_neg qO,if_neg qO,if_neg qO,if_neg qO,if_neg qO,if_neg qO,if_neg qO,if_neg qO]
def xC(a f:bu):Bool:=if f.num=a.num then decide (f.aU=2)&&decide (a.aU=2) else decide (f.num>a.num)
def oI(f:bu):Bool:=decide (1<=f.num/\f.num<=1000)&&(if f.aU=0 then decide (f.b.length=0) else if f.aU=2 then decide (f.n=0) else false)
def afm(a f:bu):aQ 201 [xR a,xR f] (.b (xC a f)):=by
 refine ay func201 λX=>?_
 (repeat'(first|refine aC ?_|refine aj.mk (λh=>?_) (λh=>?_)|refine ag.mk (by decide) ?_|refine ag.mk (λ_=>by decide) ?_|refine ag.mk (λh=>h) ?_|refine Fin.tell (vq (ah V.b ?_) tv)))<;>try exact cls
 all_goals((simp[dM,xC]at *;omega))
def ar1(f:bu):aQ 218 [xR f] (.b (oI f)):=by
 refine ay func218 λX=>?_
 (repeat'(first|refine aC ?_|refine aj.mk (λh=>?_) (λh=>?_)|refine ag.mk (by decide) ?_|refine ag.mk (λ_=>by decide) ?_|refine ag.mk (λh=>h) ?_|refine Fin.tell (vq (ah V.b ?_) tv)))<;>try exact cls
 all_goals(first|(simp[dM,oI]at *;omega)|(simp[Af,oI]at *;grind))
def jk(f:bu):List UInt8:=(iC f.num f.aU).1++(if f.aU=0 then dK f.n else dK f.b.length++f.b)
def bu.fit(f:bu):Prop:=-9223372036854775808<=f.num/\f.num<=9223372036854775807 /\ -9223372036854775808<=f.aU/\f.aU<=9223372036854775807/\f.n<18446744073709551616/\f.b.length<=100000
def agu(f:bu)(hf:f.fit):aQ 180 [xR f] (.d (bW (jk f))):=by
 have q1:=Ij f.num f.aU;have q2:=vN f.n;have q3:=vN f.b.length;have q4:=hf.2.2.2.2.2;have e1:f.aU=0->jk f=(iC f.num f.aU).1++dK f.n:=λh=>by unfold jk;rw[if_pos h]
 have e2:¬f.aU=0->jk f=(iC f.num f.aU).1++dK f.b.length++f.b:=λh=>by unfold jk;rw[if_neg h,jV]
 refine ay func180 λX=>?_
 (repeat'(first|refine aC ?_|refine mY (aso f.num f.aU ⟨hf.1,hf.2.1⟩ ⟨hf.2.2.1,hf.2.2.2.1⟩) ?_|refine aO (Ou f.n hf.2.2.2.2.1) ?_|refine aO (Ou f.b.length (by have:=hf.2.2.2.2.2;omega)) ?_|refine aj.mk (λh=>?_) (λh=>?_)|refine ag.mk (by decide) ?_|refine Fin.bytes rfl rfl ?_ ?_|refine ag.mk ?_ ?_))<;>try exact cls
 all_goals first|(rw[e1 (bT h)];simp only[bP];done)|(rw[e1 (bT h)];exact λj _=>DX rfl (λ_=>rfl) (λ_=>rfl) j)|(rw[e2 (bV h)];simp only[bP];done)|(rw[e2 (bV h)];exact λj _=>DX (by simp) (DX rfl (λ_=>rfl) (λ_=>rfl)) (λ_=>rfl) j)
def Oe{f:bu}(h:f.fit):(jk f).length<=20+f.b.length:=by
 have h1:=Ij f.num f.aU;have h2:=vN f.n;have h3:=vN f.b.length;unfold jk;split <;> simp only[bP] <;> omega
def bK(l:List bu):List UInt8:=(l.map jk).flatten
def QX(l:List bu)(f:bu):bK (l++[f])=bK l++jk f:=by simp[bK]
structure pM (l:List bu):Prop where
 fit:∀ i,i<l.length->(l.getD i .z).fit
 alone:∀ i,i<l.length->oI (l.getD i .z)=true
 big:∀ i,i<l.length->(l.getD i .z).b.length<=16384
 GK:∀ i,0<i->i<l.length->xC (l.getD ((i:Int)-1).toNat .z) (l.getD i .z)=true
 size:(bK l).length<=16384
 len:l.length<=10000
def Nc{l:List bu}(h:pM l)(i:Nat):(bK (l.take i)).length<=16384:=by
 have h1:=h.size;have h2:bK l=bK (l.take i)++bK (l.drop i):=by
  unfold bK;rw[<-List.flatten_append,<-List.map_append,List.take_append_drop]
 rw[h2,bP]at h1;omega
def agD(l:List bu)(hl:pM l):aQ 179 [.d (jv l)] (iV 0):=by
 refine ay func179 λX=>?_
 (repeat'(first|refine aC ?_|refine bU 7 [] (ooz 13 []) ?_|refine mc ?_ ?_|refine dU l.length (λi (a:Nat)=>⟨43,[(0,.d (jv l)),(3,iV a),(6,.d (jv l)),(7,iV l.length),(8,iV i)],e0⟩) (λi a=>a=(bK (l.take i)).length) 0 ?_ ?_ (λi a hi hp=>?_)|refine aZ (a+(jk (l.getD i .z)).length) ⟨?_,?_,?_⟩|refine aO (ar1 (l.getD i .z)) ?_|refine aO (agu (l.getD i .z) (hl.fit i om)) ?_|refine jd.val (.b (xC (l.getD ((i:Int)-1).toNat .z) (l.getD i .z))) ?_|refine aj.mk (λh=>?_) (λh=>?_)|refine ag.a ?_|refine Fin.tell (vq (ah iV ?_) tv)|refine ag.mk ?_ ?_))<;>(try(refine dm.mk ?_;repeat'(first|exact tv|exact rfl|refine⟨_,λht=>af.tell (afm (l.getD ((i:Int)-1).toNat .z) (l.getD i .z)) ⟨agg,agg,tv⟩ ⟨rfl,rfl⟩,?_⟩|refine an ?_ ?_|refine ag.mk ?_ ?_)))
 all_goals try exact cls
 all_goals first|((try simp only[gq,iy]at *);have h9:i<l.length:=qo;have h8:=Oe (hl.fit i h9);have h7:=Nc hl i;have h6:=hl.len;have h5:=hl.big i h9;first|omega|(simp only[dM];omega)|(exfalso;have h4:=hl.alone i h9;simp_all;done)|(exfalso;by_cases h0:0<i <;> first|(have h4:=hl.GK i h0 h9;simp_all;done)|(simp_all;done)|(simp_all;omega))|(rw[hp,kR bu.z h9,QX,bP];done))|((try simp only[gq,iy]at *);have h7:=Nc hl i;exfalso;omega)
def Yx(l:List bu)(hl:pM l):aQ 136 [.d (jv l)] (bI [.d (bW (bK l)),iV 0]):=by refine ay func136 λX=>?_;exact ab4
def Ii(n:Nat)(g:Nat->Nat->D)(hn:n<=1000000):aQ 74 [.d (.sl n 1 g)] (.d (.sl n 1 g)):=by refine ay func74 λX=>?_;exact QQ
def aom(n:Nat)(g:Nat->Nat->D)(hn:n<=1000000):aQ 205 [.d (.sl n 1 g)] (.d (.sl n 1 g)):=by refine ay func205 λX=>?_;exact QQ
def JP(n:Nat)(g:Nat->Nat->D)(hn:n<=1000000):aQ 91 [.d (.sl n 1 g)] (.d (.sl n 1 g)):=by refine ay func91 λX=>?_;exact QQ
def Yj(n:Nat)(g:Nat->Nat->D)(hn:n<=1000000):aQ 182 [.d (.sl n 2 g)] (.d (.sl n 2 g)):=by refine ay func182 λX=>?_;exact QQ
def akW(num since:Int):aQ 232 [iV num,iV since] (Ey ⟨num,0,since,false,false⟩):=by
 refine ay func232 λX=>?_
 repeat'(first|refine aC ?_|refine ag.a ?_|refine Fin.tell agg)
 skip
def aoc(num since:Int):aQ 233 [iV num,iV since] (Ey ⟨num,2,since,false,false⟩):=by
 refine ay func233 λX=>?_
 repeat'(first|refine aC ?_|refine ag.a ?_|refine Fin.tell agg)
 skip
def aqv(s:kT):aQ 234 [Ey s] (Ey { s with kM:=true }):=by
 refine ay func234 λX=>?_
 repeat'(first|refine aC ?_|refine ag.a ?_|refine Fin.tell agg)
 skip
def aqF(s:kT):aQ 235 [Ey s] (Ey { s with many:=true }):=by
 refine ay func235 λX=>?_
 repeat'(first|refine aC ?_|refine ag.a ?_|refine Fin.tell agg)
 skip
def yh(f:bu)(s:kT)(times:Int):Bool:=bif (bif !decide (f.aU=s.aU) then true else bif decide (1<times) then !s.many else false) then false else bif decide (f.aU=0) then !decide ((f.n:Int)=0) else decide ((0:Int)<f.b.length)
def n4(num since:Int):kT:=⟨num,0,since,false,false⟩
def b4(num since:Int):kT:=⟨num,2,since,false,false⟩
def uo(s:kT):kT:={ s with kM:=true }
def Pe(s:kT):kT:={ s with many:=true }
def oz(kind:Int):List kT:=
 if kind=1 then [uo (n4 1 1),n4 2 1,n4 3 1,n4 4 1,n4 5 1,n4 6 1,b4 7 1,b4 8 3]
 else if kind=2 then [uo (n4 1 1),uo (n4 2 1),uo (b4 3 1),n4 4 2,b4 5 3]
 else if kind=3 then [uo (n4 1 1),uo (n4 2 1)]
 else if kind=4 then [uo (n4 1 1),n4 2 1,n4 3 1,n4 4 1]
 else if kind=5 then [uo (n4 1 1),uo (n4 2 1),n4 3 1,Pe (b4 4 1),Pe (b4 5 1),Pe (b4 6 1),n4 7 3]
 else if kind=6 then [uo (n4 1 1),uo (n4 2 1),uo (n4 3 1),uo (n4 4 1),n4 5 1,n4 6 1,n4 7 1,n4 8 1,n4 9 1,Pe (b4 10 1)]
 else if kind=7 then [uo (n4 1 1),b4 2 1] else []
def avb(f:bu)(s:kT)(times:Int):aQ 204 [xR f,Ey s,iV times] (.b (yh f s times)):=by
 refine ay func204 λX=>?_
 (repeat'(first|refine aC ?_|refine aj.mk (λh=>?_) (λh=>?_)|refine ag.a ?_|refine Fin.tell (vq (ah V.b ?_) tv)))<;>try exact cls
 all_goals first|(unfold yh;rw[h,dw];done)|(rename_i h0;unfold yh;rw[h0,h,bz];first|(rw[dw];done)|(rw[bz];done))
def atJ(kind:Int)(hk:kind=1\/kind=6\/kind=7):aQ 217 [iV kind] (.d (xH (oz kind))):=by
 refine ay func217 λX=>?_
 (repeat'(first|refine aC ?_|refine aO (akW _ _) ?_|refine aO (aoc _ _) ?_|refine aO (aqv ⟨_,_,_,_,_⟩) ?_|refine aO (aqF ⟨_,_,_,_,_⟩) ?_|refine aj.n (λh=>?_)|refine aj.mk (λh=>?_) (λh=>?_)|refine ag.a ?_|refine zg (C:=Dj) (z:=kT.z) (L:=oz kind) rfl rfl ?_ ?_|refine Fin.tell (pg ?_)))<;>try exact cls
 all_goals first|(obtain rfl:=bT h;decide)|(obtain rfl:=bT h;intro j hj k hk;(obtain _|_|_|_|_|_|_|_|_|_|j:=j) <;> (obtain _|_|_|_|_|k:=k) <;> first|omega|kernel_rfl)|(simp only[iy]at *;unfold oz;rw[if_neg qo,if_neg qo,if_neg qo,if_neg qo,if_neg qo,if_neg qo,if_neg qo];rfl)
def fK(kind version:Int):List kT:=if version<1\/3<version then [] else(oz kind).filter (λs=>decide (s.since<=version))
def Yn(kind:Int):(oz kind).length<=10:=by
 unfold oz;repeat' split
 all_goals simp
def QW{α:Type}(z:α)(p:α->Bool){l:List α}{i:Nat}(h:i<l.length):(l.take (i+1)).filter p=(l.take i).filter p++(if p (l.getD i z) then [l.getD i z] else []):=by
 rw[kR z h,List.filter_append];congr 1;generalize l.getD i z=x;cases hp:p x <;> simp[hp]
def ash{v:Int}(h:(bif decide (v<1) then true else decide (3<v))=true):v<1\/3<v:=by
 by_cases e:v<1
 ·exact .inl e
 ·rw[aT e,bz]at h;exact .inr (bT h)
def asi{v:Int}(h:(bif decide (v<1) then true else decide (3<v))=false):¬(v<1\/3<v):=by
 by_cases e:v<1
 ·rw[aX e,dw]at h;cases h
 ·rw[aT e,bz]at h;have:=bV h;omega
def afc(kind version:Int)(hk:kind=1\/kind=6\/kind=7):aQ 178 [iV kind,iV version] (.d (xH (fK kind version))):=by
 have hl:=Yn kind;refine ay func178 λX=>?_
 (repeat'(first|refine aC ?_|refine rQ 5 214 (λj k=>.d (Dj (([]:List kT).getD j .z) k)) rfl rfl qN (dU (oz kind).length (λi (a:List kT)=>⟨31,[(1,iV version),(5,.row 0 a.length),(15,.d (xH (oz kind))),(16,iV (oz kind).length),(17,iV i)],⟨[(0,bQ 214 5 Dj .z a)],1⟩⟩) (λi a=>a=((oz kind).take i).filter (λs=>decide (s.since<=version))/\a.length<=i) [] ?_ ?_ (λi a hi hp=>?_))|refine aO (atJ kind hk) ?_|refine aj.mk (λh=>?_) (λh=>?_)|refine ag.a ?_|refine zg (C:=Dj) (z:=kT.z) (L:=fK kind version) rfl rfl ?_ ?_|refine Fin.tell (pg ?_)|refine ag.mk ?_ ?_))<;>try exact cls
 all_goals(try(first|(have hh:((oz kind).getD i .z).since<=version:=bT h;refine aZ (a++[(oz kind).getD i .z]) ⟨?_,⟨?_,?_⟩,?_⟩)|(have hh:¬((oz kind).getD i .z).since<=version:=bV h;refine aZ a ⟨?_,⟨?_,?_⟩,?_⟩)))
 all_goals(try(refine leq ?_ ?_ <;> repeat'(first|exact tv|exact qV|exact qW|refine vq (ah (V.row _) ?_) qN|refine an ⟨nb rfl,aW.row ?_ (λj hj k hk=>vq ?_ trivial)⟩ ?_|refine an ?_ ?_)))
 all_goals first|(exact⟨rfl,bF _⟩)|(simp;done)|(unfold fK;rw[if_pos (ash h)];rfl)|omega|((try simp only[gq,iy,nY,o9]at *);have h9:i<(oz kind).length:=qo;obtain⟨hp1,hp2⟩:=hp;first|omega|(simp;omega)|(rw[QW kT.z _ h9,<-hp1,if_pos (aX hh)];done)|(rw[QW kT.z _ h9,<-hp1,if_neg (by rw[aT hh];decide),pO];done)|(refine Ak rfl (by simp;omega) fr (λj hj=>?_);obtain rfl:j=0:=(by simp at hj;omega);obtain _|_|_|_|_|k:=k <;> first|rfl|omega))|(rename_i hv;have hv:=asi hv;have h:=bV h;have e:i=(oz kind).length:=qo;have e2:a=fK kind version:=(by rw[hp.1,e,mM];unfold fK;rw[if_neg hv]);subst e2;first|rfl|exact λj hj k hk=>rfl)
def Gv(kind version:Int):Int:=(fK kind version).foldl (λt s=>max t s.num) 0
def acK(kind version:Int):(fK kind version).length<=10:=by
 unfold fK;split
 ·simp
 ·exact kE (List.length_filter_le _ _) (Yn kind)
def H7{α β:Type}(f:β->α->β)(b:β)(z:α){l:List α}{i:Nat}(h:i<l.length):(l.take (i+1)).foldl f b=f ((l.take i).foldl f b) (l.getD i z):=by
 rw[kR z h,List.foldl_append];rfl
def UI(kind version:Int)(hk:kind=1\/kind=6\/kind=7):aQ 133 [iV kind,iV version] (iV (Gv kind version)):=by
 have hl:=acK kind version;refine ay func133 λX=>?_
 (repeat'(first|refine aC ?_|refine dU (fK kind version).length (λi (a:Int)=>⟨22,[(5,iV a),(10,.d (xH (fK kind version))),(11,iV (fK kind version).length),(12,iV i)],e0⟩) (λi a=>a=((fK kind version).take i).foldl (λt s=>max t s.num) 0) 0 ?_ ?_ (λi a hi hp=>?_)|refine aO (afc kind version hk) ?_|refine aZ (max a ((fK kind version).getD i .z).num) ⟨?_,?_,?_⟩|refine aj.mk (λh=>?_) (λh=>?_)|refine ag.a ?_|refine Fin.tell (vq (ah iV ?_) tv)|refine ag.mk ?_ ?_))<;>try exact cls
 all_goals first|((try simp only[gq,iy,nY,o9]at *);have h9:i<(fK kind version).length:=qo;first|omega|(rw[hp,H7 _ _ kT.z h9];done))|((try simp only[gq,iy,nY,o9]at *);have e:i=(fK kind version).length:=qo;rw[hp,e,mM];rfl)
def avJ{specs:List kT}{l:List bu}{i j:Nat}{n:Int}(h:yh (l.getD i .z) (specs.getD j .z) n=true\/(specs.getD j .z).num≠(l.getD i .z).num)(hh:(bif decide ((specs.getD j .z).num=(l.getD i .z).num) then !yh (l.getD i .z) (specs.getD j .z) n else false)=true):False:=by
 by_cases e:(specs.getD j .z).num=(l.getD i .z).num
 ·rw[aX e,dw]at hh;obtain h|h:=h
  ·rw[h]at hh;cases hh
  ·exact h e
 ·rw[aT e,bz]at hh;cases hh
def arK{a:Bool}{n:Int}(h:a=true->n≠0)(hh:(bif a then decide (n=0) else false)=true):False:=by
 cases a
 ·cases hh
 ·exact h rfl (bT hh)
def Hg(es:List (Int×V))(f:bu):List (Int×V):=(f.num,V.i (qw (dY es f.num)+1))::es
def tm(l:List bu):List (Int×V):=l.foldl Hg []
def cnt(l:List bu)(k:Int):Int:=qw (dY (tm l) k)
def ae4{l:List bu}{i:Nat}(h:i<l.length):tm (l.take (i+1))=((l.getD i .z).num,V.i (qw (dY (tm (l.take i)) (l.getD i .z).num)+1))::tm (l.take i):=H7 Hg [] bu.z h
def PW(n:Nat)(es:List (Int×V)):Prop:=∀ k,(∀ v,dY es k=some v->∃ n,v=V.i n)/\0<=qw (dY es k)/\qw (dY es k)<=n
def ac4{n:Nat}{es:List (Int×V)}(h:PW n es)(f:bu):PW (n+1) (Hg es f):=λk=>by
 have e:dY (Hg es f) k=if f.num=k then some (V.i (qw (dY es f.num)+1)) else dY es k:=by
  show(bif decide (f.num=k) then some (V.i (qw (dY es f.num)+1)) else dY es k)=_;by_cases e:f.num=k <;> simp[e]
 rw[e];have h1:=(h f.num).2;have h2:=h k;split
 ·exact⟨λv hv=>⟨_,(fD hv).symm⟩,by show 0<=qw (dY es f.num)+1/\qw (dY es f.num)+1<=((n+1:Nat):Int);omega⟩
 ·exact⟨h2.1,by omega,by omega⟩
def ag9:∀(l:List bu) (n:Nat) (es:List (Int×V)),PW n es->PW (n+l.length) (l.foldl Hg es)
 |[],n,es,h=>h
 |f::r,n,es,h=>by
  have:=ag9 r (n+1) (Hg es f) (ac4 h f);rwa [show n+1+r.length=n+(f::r).length by simp;omega]at this
def Yy(l:List bu):PW l.length (tm l):=by
 have:=ag9 l 0 [] (λk=>⟨(λv h=>by cases h),dL _,dL _⟩);rwa [jq]at this
def Zi(l:List bu)(k:Int)(v:V)(h:dY (tm l) k=some v):∃ n,v=V.i n:=(Yy l k).1 v h
def ae5(l:List bu)(f:bu)(k:Int)(v:V)(h:dY ((f.num,V.i (qw (dY (tm l) f.num)+1))::tm l) k=some v):∃ n,v=V.i n:=(ac4 (Yy l) f k).1 v h
structure Ja (specs:List kT) (l:List bu):Prop where
 ok:pM l
 ne:0<specs.length
 len:specs.length<=10
 is':∀ i,i<l.length->∀ j,j<specs.length->(specs.getD j .z).num=(l.getD i .z).num->yh (l.getD i .z) (specs.getD j .z) (cnt (l.take (i+1)) (l.getD i .z).num)=true
 kM:∀ j,j<specs.length->(specs.getD j .z).kM=true->cnt l (specs.getD j .z).num≠0
def TV(kind version:Int)(hk:kind=1\/kind=6\/kind=7)(l:List bu)(hc:Ja (fK kind version) l):aQ 154 [iV kind,iV version,.d (jv l)] (iV 0):=by
 have hne:=hc.ne;have hsl:=hc.len;have hln:=hc.ok.len;refine ay func154 λX=>?_
 (repeat'(first|refine aC ?_|refine dU (c:=.seq (.region 13 _ _) _) (fK kind version).length (λj (b:Unit)=>⟨78,[(7,.d (xH (fK kind version))),(9,.mp 0),(11,.ptr 1 0),(28,.d (jv l)),(29,iV l.length),(30,iV i),(39,.d (xH (fK kind version))),(40,iV (fK kind version).length),(41,iV j)],⟨[(0,.map (((l.getD i .z).num,V.i (qw (dY (tm (l.take i)) (l.getD i .z).num)+1))::tm (l.take i))),(1,.Wp 4 (λk=>.d (kP (l.getD i .z) k)))],2⟩⟩) (λ_ _=>True) () ?_ True.intro (λj b hj hq=>?_)|refine dU (c:=.seq (.region 9 _ _) _) l.length (λi (a:Unit)=>⟨78,[(7,.d (xH (fK kind version))),(9,.mp 0),(28,.d (jv l)),(29,iV l.length),(30,iV i)],⟨[(0,.map (tm (l.take i)))],1⟩⟩) (λ_ _=>True) () ?_ True.intro (λi a hi hp=>?_)|refine dU (c:=.seq (.region 20 _ _) _) (fK kind version).length (λj (b:Unit)=>⟨78,[(9,.mp 0),(62,.d (xH (fK kind version))),(63,iV (fK kind version).length),(64,iV j)],⟨[(0,.map (tm (l.take i)))],1⟩⟩) (λ_ _=>True) () ?_ True.intro (λj b hj hq=>?_)|refine aj.n (λh=>?_)|refine aO (afc kind version hk) ?_|refine aO (agD l hc.ok) ?_|refine aZ _ (fM (λht=>af.tell (avb (l.getD i .z) ((fK kind version).getD j .z) (qw (dY (((l.getD i .z).num,V.i (qw (dY (tm (l.take i)) (l.getD i .z).num)+1))::tm (l.take i)) (l.getD i .z).num))) vw ⟨rfl,rfl⟩) ?_)|refine aZ () ⟨?_,tv,?_⟩|refine aj.n (λh=>?_)|refine aj.mk (λh=>?_) (λh=>?_)|refine ag.a ?_|refine Fin.tell (vq (ah iV ?_) tv)|refine ag.mk ?_ ?_))<;>try exact cls
 all_goals(try(refine leq ?_ ?_ <;> repeat'(first|exact tv|exact qV|exact qW|refine fE qN ?_ ?_|refine an ⟨nb rfl,aeR rfl ?_⟩ ?_|refine an ⟨nb rfl,aeR ?_ ?_⟩ ?_|exact Zi _|exact ae5 _ _|refine an ?_ ?_)))
 all_goals first|(exact(ae4 om).symm)|(have h9:i<l.length:=om;have h8:j<(fK kind version).length:=om;exfalso;refine avJ (specs:=fK kind version) (l:=l) (i:=i) (j:=j) ?_ h;by_cases e:((fK kind version).getD j .z).num=(l.getD i .z).num;(· left;have q:=hc.is' i h9 j h8 e;unfold cnt at q;rw[ae4 h9]at q;exact q);exact .inr e)|(have h8:j<(fK kind version).length:=om;have e:l.take i=l:=jU om;exfalso;refine arK (λhn=>?_) h;have q:=hc.kM j h8 hn;unfold cnt at q;rw[e];exact q)|((try simp only[gq,iy,nY,o9]at *);(omega))|exact Zi _ _|(exact λ_=>Zi _ _)|(exact λ_=>ae5 _ _ _)|(have q:=(Yy (l.take i) (l.getD i .z).num).2;have q2:(l.take i).length<=l.length:=(by rw[dG];omega);simp only[dM];(simp at *;omega))
def vY(ahead:Int):List Int->Bool
 |[]=>true
 |n::r=>bif (bif decide (n<=ahead) then true else decide (64<n)) then false else vY n r
def kW(l:List Int):Bool:=bif (bif decide ((l.length:Int)<1) then true else decide (8<(l.length:Int))) then false else vY 0 l
def zl{l:List Int}(h:kW l=true):1<=l.length/\l.length<=8/\vY 0 l=true:=by
 unfold kW at h;by_cases e:(l.length:Int)<1
 ·rw[aX e,dw,dw]at h;cases h
 ·rw[aT e,bz]at h;by_cases e2:8<(l.length:Int)
  ·rw[aX e2,dw]at h;cases h
  ·rw[aT e2,bz]at h;exact⟨by omega,by omega,h⟩
def Nr:∀ {l:List Int} {a:Int},vY a l=true->∀ n∈l,a<n/\n<=64
 |[],_,_,n,hn=>by cases hn
 |m::r,a,h,n,hn=>by
  unfold vY at h;by_cases e:m<=a
  ·rw[aX e,dw,dw]at h;cases h
  ·rw[aT e,bz]at h;by_cases e2:64<m
   ·rw[aX e2,dw]at h;cases h
   ·rw[aT e2,bz]at h;obtain rfl|hn:=List.mem_cons.1 hn
    ·exact⟨by omega,by omega⟩
    ·have:=Nr h n hn;exact⟨by omega,this.2⟩
def dH{α:Type}{b:Bool}{x y:α}(h:b=true):(bif b then x else y)=x:=by rw[h,dw]
def bG{α:Type}{b:Bool}{x y:α}(h:b=false):(bif b then x else y)=y:=by rw[h,bz]
def afi{l:List Int}(h:(bif decide ((l.length:Int)<1) then true else decide (8<(l.length:Int)))=false):kW l=vY 0 l:=bG h
def row_step{l:List Int}{i:Nat}{a:Int}(h:i<l.length):vY a (l.drop i)=bif (bif decide (l.getD i 0<=a) then true else decide (64<l.getD i 0)) then false else vY (l.getD i 0) (l.drop (i+1)):=by
 rw[wO 0 h];rfl
def Uh(l:List Int)(hl:l.length<=100000):aQ 188 [.d (iR l)] (.b (kW l)):=by
 refine ay func188 λX=>?_
 (repeat'(first|refine aC ?_|refine dU l.length (λi (a:Int)=>⟨29,[(3,iV a),(14,.d (iR l)),(15,iV l.length),(16,iV i)],e0⟩) (λi a=>vY 0 l=vY a (l.drop i)) 0 ?_ ?_ (λi a hi hp=>?_)|refine aZ (l.getD i 0) ⟨?_,?_,?_⟩|refine aj.mk (λh=>?_) (λh=>?_)|refine ag.a ?_|refine Fin.tell (vq (ah V.b ?_) tv)|refine ag.mk ?_ ?_))<;>try exact cls
 all_goals first|exact(dH h).symm|exact sN|(rename_i h0 h1;have h9:i<l.length:=om;rw[afi h0,hp,row_step h9];exact(dH h).symm)|(have h9:i<l.length:=om;rw[hp,row_step h9];exact bG h)|(rename_i h0;have h9:=bV h;rw[afi h0,hp,qM qo];rfl)
def jy(l:List Int):List UInt8:=(l.map λn=>dK n.toNat).flatten
def aeD(l:List Int)(n:Int):jy (l++[n])=jy l++dK n.toNat:=by simp[jy]
def an3(l:List Int)(hr:kW l=true):aQ 226 [.d (iR l)] (bI [.d (bW (jy l)),iV 0]):=by
 obtain⟨hr1,hr2,hr3⟩:=zl hr;have hm:∀ i,i<l.length->l.getD i 0=((l.getD i 0).toNat:Int)/\(l.getD i 0).toNat<=64:=λi hi=>by
  have:=Nr hr3 (l.getD i 0) (by rw[bn,dV hi];exact List.getElem_mem hi);omega
 refine ay func226 λX=>?_
 (repeat'(first|refine aC ?_|refine rQ 4 5 (λj _=>.d (gG (([]:List UInt8).getD j 0))) rfl rfl qN (dU l.length (λi (a:List UInt8)=>⟨23,[(4,.row 0 a.length),(10,.d (iR l)),(11,iV l.length),(12,iV i)],⟨[(0,kL a)],1⟩⟩) (λi a=>a=jy (l.take i)/\a.length<=i*10) [] ?_ ?_ (λi a hi hp=>?_))|refine aZ (a++dK (l.getD i 0).toNat) ⟨?_,?_,?_⟩|refine aj.mk (λh=>ai h (by rw[hr];decide)) (λh=>?_)|refine aO (Uh l qo) ?_|refine af.tell (Ou (l.getD i 0).toNat (by have:=(hm i om).2;omega)) ⟨vq (ah (V.int .u64) (hm i om).1) tv,tv⟩ ?_|refine aj.mk (λh=>?_) (λh=>?_)|refine ag.a ?_|refine FD (C:=λb _=>gG b) (z:=0) (L:=jy l) rfl rfl ?_ ?_ qV|refine ag.mk ?_ ?_))<;>try exact cls
 all_goals(try(refine leq ?_ ?_ <;> repeat'(first|exact tv|exact qV|refine vq (ah (V.row _) ?_) qN|refine an ⟨nb rfl,aW.row ?_ (λj hj k hk=>vq ?_ trivial)⟩ ?_|refine an ?_ ?_)))
 all_goals first|(simp;done)|(exact⟨rfl,bF _⟩)|(simp only[dM];(try simp only[gq,iy,nY,o9]at *);have h9:i<l.length:=qo;have q:=hm i h9;have q2:=vN (l.getD i 0).toNat;simp only[jg];omega)|((try simp only[gq,iy,nY,o9]at *);have h9:i<l.length:=qo;have q:=hm i h9;have q2:=vN (l.getD i 0).toNat;obtain⟨hp1,hp2⟩:=hp;first|omega|(refine⟨?_,?_⟩ <;> first|trivial|omega)|(refine⟨?_,?_⟩;(· rw[hp1,kR 0 h9,aeD]);rw[bP];omega))|(obtain rfl:k=0:=qo;exact DX rfl (λ_=>rfl) (λ_=>rfl) j)|((try simp only[gq,iy,nY,o9]at *);have e:i=l.length:=qo;have e2:a=jy l:=(by rw[hp.1,e,mM]);subst e2;first|rfl|exact λj hj k hk=>rfl)
def aaL(l:List Int):aK:=bQ 3 1 (λn _=>iD n) 0 l
def qG(i:Nat):List Int->List bu
 |[]=>[]
 |n::r=>(if n=0 then [] else [⟨(i:Int)+1,0,n.toNat,[]⟩])++qG (i+1) r
def qj(l:List Int):List bu:=qG 0 l
def acW{l:List Int}{i:Nat}(h:i<l.length):qG i (l.drop i)=(if l.getD i 0=0 then [] else [⟨(i:Int)+1,0,(l.getD i 0).toNat,[]⟩])++qG (i+1) (l.drop (i+1)):=by
 rw[wO 0 h];rfl
def acX(l:List Int)(hn:l.length<=100)(hl:∀ i,i<l.length->0<=l.getD i 0/\l.getD i 0<=9223372036854775807):af 134 [.row 0 l.length] ⟨[(0,aaL l)],1⟩ (λv t=>v=(.row 1 (qj l).length)/\t=⟨[(0,aaL l),(1,bQ 163 4 kP .z (qj l))],2⟩):=by
 refine ay func134 λX=>?_
 (repeat'(first|refine aC ?_|refine rQ 3 163 (λj k=>.d (kP (([]:List bu).getD j .z) k)) rfl rfl qN (dU l.length (λi (a:List bu)=>⟨25,[(3,.row 1 a.length),(6,.row 0 l.length),(7,iV l.length),(8,iV i)],⟨[(0,aaL l),(1,bQ 163 4 kP .z a)],2⟩⟩) (λi a=>qj l=a++qG i (l.drop i)/\a.length<=i) [] ?_ ?_ (λi a hi hp=>?_))|refine aj.mk (λh=>?_) (λh=>?_)|refine ag.a ?_|refine bM qN qN (vq (ah (V.row 1) ?_) qN) ?_|refine ag.mk ?_ ?_))<;>try exact cls
 all_goals(try(first|(have hh:¬(l.getD i 0)=0:=bV (by simpa using h);refine aZ (a++[⟨(i:Int)+1,0,(l.getD i 0).toNat,[]⟩]) ⟨?_,⟨?_,?_⟩,?_⟩)|(have hh:(l.getD i 0)=0:=bT (by simpa using h);refine aZ a ⟨?_,⟨?_,?_⟩,?_⟩)))
 all_goals(try(refine leq ?_ ?_ <;> repeat'(first|exact tv|exact qV|exact qW|refine vq (ah (V.row _) ?_) qN|refine an ⟨nb rfl,aW.row ?_ (λj hj k hk=>nN ?_)⟩ ?_|refine an ?_ ?_)))
 all_goals(try(repeat'(first|exact tv|refine an ⟨nb rfl,aW.row ?_ (λj hj k hk=>nN ?_)⟩ ?_)))
 all_goals first|(refine dm.mk qV;done)|(exact⟨rfl,bF _⟩)|(simp;done)|((try simp only[gq,iy,nY,o9]at *);have h9:i<l.length:=qo;have q:=hl i h9;obtain⟨hp1,hp2⟩:=hp;first|omega|(refine⟨?_,?_⟩ <;> first|trivial|omega)|(simp only[dM,jg];omega)|(rw[hp1,acW h9,if_neg hh,jV];done)|(rw[hp1,acW h9,if_pos hh,List.nil_append];done)|(simp;omega)|(refine dm.mk (kU rfl (by simp;omega) fr (λj hj=>?_));obtain rfl:j=0:=(by simp at hj;omega);obtain _|_|_|_|k:=k <;> first|exact qV|exact vq (ah (V.int .u64) (by simp only[jg];show l.getD i 0=((l.getD i 0).toNat:Int);omega)) tv|exact VW.dC|omega))|((try simp only[gq,iy,nY,o9]at *);have e:i=l.length:=qo;have e2:a=qj l:=(by rw[hp.1,e,List.drop_length];simp[qG]);subst e2;first|rfl|exact dm.mk qV)
structure pY (e:bH):Prop where
 term:1<=e.term/\e.term<=1048576
 b:e.b.length<=200
def kY(e:bH):List bu:=if e.b=[] then [⟨1,0,e.term.toNat,[]⟩] else [⟨1,0,e.term.toNat,[]⟩,⟨2,2,0,e.b⟩]
def aah{n:Int}(h:n≠0):qj [n]=[⟨1,0,n.toNat,[]⟩]:=by
 unfold qj qG;rw[if_neg h];rfl
def ajw(e:bH)(he:pY e)(hf:pM (kY e)):aQ 135 [zM e] (bI [.d (bW (bK (kY e))),iV 0]):=by
 have h1:∀ i,i<[e.term].length->0<=[e.term].getD i 0/\[e.term].getD i 0<=9223372036854775807:=λi hi=>by
  have h0:i=0:=by simpa using hi
  subst h0;have:=he.term;simp;omega
 have h2:(qj [e.term]).length=1:=by rw[aah (by have:=he.term;omega)];rfl
 have hE1:e.b≠[]->kY e=qj [e.term]++[⟨2,2,0,e.b⟩]:=λhb=>by rw[aah (by have:=he.term;omega)];unfold kY;rw[if_neg hb];rfl
 have hE0:e.b=[]->kY e=qj [e.term]:=λhb=>by rw[aah (by have:=he.term;omega)];unfold kY;rw[if_pos hb]
 refine ay func135 λX=>?_
 (repeat'(first|refine T.cut (y:=.seq (.region 4 _ _) _) ⟨23,[(4,.row 2 (kY e).length)],⟨[(2,bQ 163 4 kP .z (kY e))],3⟩⟩ ?_ (ag3 (cZ _) rfl rfl (T.seq ?_))|refine aC ?_|refine nZ [1] (acX [e.term] (by simp) h1) rfl rfl rfl vw ⟨⟨_,rfl,aW.row rfl (λj hj k hk=>by obtain rfl:j=0:=Nat.lt_one_iff.1 hj;obtain rfl:k=0:=Nat.lt_one_iff.1 hk;exact qV)⟩,tv⟩ ?_|refine aO (Yx (kY e) hf) ?_|refine aj.mk (λh=>?_) (λh=>?_)|refine ag.a ?_|refine kJ rfl vw|refine ag.mk ?_ ?_))<;>try exact cls
 all_goals(try(refine leq ?_ ?_ <;> repeat'(first|exact tv|refine vq (ah (V.row _) ?_) qN|refine an ⟨nb rfl,aW.row ?_ (λj hj k hk=>nN ?_)⟩ ?_|refine an ?_ ?_)))
 all_goals first|(have hb:e.b≠[]:=(λhb=>by rw[hb]at h;cases h);first|(rw[hE1 hb,bP];rfl)|(refine dm.mk (show VW 3 _ _ from ?_);rw[hE1 hb];refine kU rfl hj fr (λj hj=>?_);obtain rfl:j=0:=Nat.lt_one_iff.1 hj;obtain _|_|_|_|k:=k <;> first|exact qV|omega))|(have hb:e.b=[]:=uI (by have:=bV h;omega);first|(rw[hE0 hb];done)|(refine dm.mk (show VW 3 _ _ from ?_);rw[hE0 hb];exact qV))
def eU{α:Type}(p:α->Bool)(i:Nat):List α->Int
 |[]=>-1
 |x::r=>bif p x then(i:Int) else eU p (i+1) r
def D5{α:Type}(z:α){p:α->Bool}{l:List α}{i:Nat}(h:i<l.length):eU p i (l.drop i)=bif p (l.getD i z) then(i:Int) else eU p (i+1) (l.drop (i+1)):=by
 rw[wO z h];rfl
def rX{α:Type}(key:α->Int)(dO:Int)(ahead:Int):List α->Bool
 |[]=>true
 |x::r=>bif !dQ (key x) (ahead+1) dO then false else rX key dO (key x) r
def Xi{α:Type}(z:α){key:α->Int}{dO ahead:Int}{l:List α}{i:Nat}(h:i<l.length):rX key dO ahead (l.drop i)=bif !dQ (key (l.getD i z)) (ahead+1) dO then false else rX key dO (key (l.getD i z)) (l.drop (i+1)):=by
 rw[wO z h];rfl
def aec(x:iW):aQ 248 [aaJ x] (iV x.ax):=by
 refine ay func248 λX=>?_
 repeat'(first|refine aC ?_|refine ag.a ?_|refine Fin.tell (VW.refl tv))
 skip
def ajy(l:List iW)(want:Int)(hn:l.length<=100000):aQ 247 [.d (yD l),iV want,.fn 248 0 0 (λ_=>.top)] (iV (eU (λx=>decide (x.ax=want)) 0 l)):=by
 refine ay func247 λX=>?_
 (repeat'(first|refine aC ?_|refine dU l.length (λi (a:Unit)=>⟨23,[(1,iV want),(2,.fn 248 0 0 (λ_=>.top)),(9,.d (yD l)),(10,iV l.length),(11,iV i)],e0⟩) (λi a=>eU (λx=>decide (x.ax=want)) 0 l=eU (λx=>decide (x.ax=want)) i (l.drop i)) () ?_ ?_ (λi a hi hp=>?_)|refine aZ () ⟨?_,?_,?_⟩|refine aO (aec (l.getD i .z)) ?_|refine aj.mk (λh=>?_) (λh=>?_)|refine ag.a ?_|refine Fin.tell (vq (ah iV ?_) tv)|refine ag.mk ?_ ?_))<;>try exact cls
 all_goals(try(refine leq ?_ ?_ <;> repeat'(first|exact tv|exact qV|refine gX ?_|refine an ?_ ?_)))
 all_goals first|exact sN|(have h9:i<l.length:=om;rw[hp,D5 .z h9];first|exact(dH h).symm|exact bG h)|(have h9:=bV h;rw[hp,qM qo];rfl)
def aiU(l:List iW)(dO:Int)(hn:l.length<=100000)(hk:∀ x∈l,-9223372036854775808<=x.ax/\x.ax<=1000000000000):aQ 256 [.d (yD l),iV dO,.fn 248 0 0 (λ_=>.top)] (.b (rX (λx=>x.ax) dO 0 l)):=by
 have hm:∀ i,i<l.length -> -9223372036854775808<=(l.getD i .z).ax/\(l.getD i .z).ax<=1000000000000:=λi hi=>hk _ (by rw[bn,dV hi];exact List.getElem_mem hi)
 refine ay func256 λX=>?_
 (repeat'(first|refine aC ?_|refine dU l.length (λi (a:Int)=>⟨28,[(1,iV dO),(2,.fn 248 0 0 (λ_=>.top)),(7,iV a),(10,.d (yD l)),(11,iV l.length),(12,iV i)],e0⟩) (λi a=>rX (λx=>x.ax) dO 0 l=rX (λx=>x.ax) dO a (l.drop i) /\ -9223372036854775808<=a/\a<=1000000000000) 0 ?_ ?_ (λi a hi hp=>?_)|refine aZ (l.getD i .z).ax ⟨?_,⟨?_,?_⟩,?_⟩|refine aO (aec (l.getD i .z)) ?_|refine aO (D7 _ _ _) ?_|refine aj.mk (λh=>?_) (λh=>?_)|refine ag.a ?_|refine Fin.tell (vq (ah V.b ?_) tv)|refine ag.mk ?_ ?_))<;>try exact cls
 all_goals(try(refine leq ?_ ?_ <;> repeat'(first|exact tv|exact qV|refine gX ?_|refine an ?_ ?_)))
 all_goals first|(exact⟨rfl,by omega⟩)|(obtain⟨hp1,hp2⟩:=hp;first|exact sN|(have h9:i<l.length:=om;first|exact hm i h9|(rw[hp1,Xi .z h9];first|exact(dH h).symm|exact bG h))|(have h9:=bV h;rw[hp1,qM qo];rfl))
def aed(x:iT):aQ 260 [aaP x] (iV x.set):=by
 refine ay func260 λX=>?_
 repeat'(first|refine aC ?_|refine ag.a ?_|refine Fin.tell (VW.refl tv))
 skip
def ajz(l:List iT)(want:Int)(hn:l.length<=100000):aQ 315 [.d (og l),iV want,.fn 260 0 0 (λ_=>.top)] (iV (eU (λx=>decide (x.set=want)) 0 l)):=by
 refine ay func315 λX=>?_
 (repeat'(first|refine aC ?_|refine dU l.length (λi (a:Unit)=>⟨23,[(1,iV want),(2,.fn 260 0 0 (λ_=>.top)),(9,.d (og l)),(10,iV l.length),(11,iV i)],e0⟩) (λi a=>eU (λx=>decide (x.set=want)) 0 l=eU (λx=>decide (x.set=want)) i (l.drop i)) () ?_ ?_ (λi a hi hp=>?_)|refine aZ () ⟨?_,?_,?_⟩|refine aO (aed (l.getD i .z)) ?_|refine aj.mk (λh=>?_) (λh=>?_)|refine ag.a ?_|refine Fin.tell (vq (ah iV ?_) tv)|refine ag.mk ?_ ?_))<;>try exact cls
 all_goals(try(refine leq ?_ ?_ <;> repeat'(first|exact tv|exact qV|refine gX ?_|refine an ?_ ?_)))
 all_goals first|exact sN|(have h9:i<l.length:=om;rw[hp,D5 .z h9];first|exact(dH h).symm|exact bG h)|(have h9:=bV h;rw[hp,qM qo];rfl)
def aiV(l:List iT)(dO:Int)(hn:l.length<=100000)(hk:∀ x∈l,-9223372036854775808<=x.set/\x.set<=1000000000000):aQ 259 [.d (og l),iV dO,.fn 260 0 0 (λ_=>.top)] (.b (rX (λx=>x.set) dO 0 l)):=by
 have hm:∀ i,i<l.length -> -9223372036854775808<=(l.getD i .z).set/\(l.getD i .z).set<=1000000000000:=λi hi=>hk _ (by rw[bn,dV hi];exact List.getElem_mem hi)
 refine ay func259 λX=>?_
 (repeat'(first|refine aC ?_|refine dU l.length (λi (a:Int)=>⟨28,[(1,iV dO),(2,.fn 260 0 0 (λ_=>.top)),(7,iV a),(10,.d (og l)),(11,iV l.length),(12,iV i)],e0⟩) (λi a=>rX (λx=>x.set) dO 0 l=rX (λx=>x.set) dO a (l.drop i) /\ -9223372036854775808<=a/\a<=1000000000000) 0 ?_ ?_ (λi a hi hp=>?_)|refine aZ (l.getD i .z).set ⟨?_,⟨?_,?_⟩,?_⟩|refine aO (aed (l.getD i .z)) ?_|refine aO (D7 _ _ _) ?_|refine aj.mk (λh=>?_) (λh=>?_)|refine ag.a ?_|refine Fin.tell (vq (ah V.b ?_) tv)|refine ag.mk ?_ ?_))<;>try exact cls
 all_goals(try(refine leq ?_ ?_ <;> repeat'(first|exact tv|exact qV|refine gX ?_|refine an ?_ ?_)))
 all_goals first|(exact⟨rfl,by omega⟩)|(obtain⟨hp1,hp2⟩:=hp;first|exact sN|(have h9:i<l.length:=om;first|exact hm i h9|(rw[hp1,Xi .z h9];first|exact(dH h).symm|exact bG h))|(have h9:=bV h;rw[hp1,qM qo];rfl))
def aeb(x:eH):aQ 295 [aaI x] (iV x.id):=by
 refine ay func295 λX=>?_
 repeat'(first|refine aC ?_|refine ag.a ?_|refine Fin.tell (VW.refl tv))
 skip
def ajx(l:List eH)(want:Int)(hn:l.length<=100000):aQ 299 [.d (jO l),iV want,.fn 295 0 0 (λ_=>.top)] (iV (eU (λx=>decide (x.id=want)) 0 l)):=by
 refine ay func299 λX=>?_
 (repeat'(first|refine aC ?_|refine dU l.length (λi (a:Unit)=>⟨23,[(1,iV want),(2,.fn 295 0 0 (λ_=>.top)),(9,.d (jO l)),(10,iV l.length),(11,iV i)],e0⟩) (λi a=>eU (λx=>decide (x.id=want)) 0 l=eU (λx=>decide (x.id=want)) i (l.drop i)) () ?_ ?_ (λi a hi hp=>?_)|refine aZ () ⟨?_,?_,?_⟩|refine aO (aeb (l.getD i .z)) ?_|refine aj.mk (λh=>?_) (λh=>?_)|refine ag.a ?_|refine Fin.tell (vq (ah iV ?_) tv)|refine ag.mk ?_ ?_))<;>try exact cls
 all_goals(try(refine leq ?_ ?_ <;> repeat'(first|exact tv|exact qV|refine gX ?_|refine an ?_ ?_)))
 all_goals first|exact sN|(have h9:i<l.length:=om;rw[hp,D5 .z h9];first|exact(dH h).symm|exact bG h)|(have h9:=bV h;rw[hp,qM qo];rfl)
def aiT(l:List eH)(dO:Int)(hn:l.length<=100000)(hk:∀ x∈l,-9223372036854775808<=x.id/\x.id<=1000000000000):aQ 294 [.d (jO l),iV dO,.fn 295 0 0 (λ_=>.top)] (.b (rX (λx=>x.id) dO 0 l)):=by
 have hm:∀ i,i<l.length -> -9223372036854775808<=(l.getD i .z).id/\(l.getD i .z).id<=1000000000000:=λi hi=>hk _ (by rw[bn,dV hi];exact List.getElem_mem hi)
 refine ay func294 λX=>?_
 (repeat'(first|refine aC ?_|refine dU l.length (λi (a:Int)=>⟨28,[(1,iV dO),(2,.fn 295 0 0 (λ_=>.top)),(7,iV a),(10,.d (jO l)),(11,iV l.length),(12,iV i)],e0⟩) (λi a=>rX (λx=>x.id) dO 0 l=rX (λx=>x.id) dO a (l.drop i) /\ -9223372036854775808<=a/\a<=1000000000000) 0 ?_ ?_ (λi a hi hp=>?_)|refine aZ (l.getD i .z).id ⟨?_,⟨?_,?_⟩,?_⟩|refine aO (aeb (l.getD i .z)) ?_|refine aO (D7 _ _ _) ?_|refine aj.mk (λh=>?_) (λh=>?_)|refine ag.a ?_|refine Fin.tell (vq (ah V.b ?_) tv)|refine ag.mk ?_ ?_))<;>try exact cls
 all_goals(try(refine leq ?_ ?_ <;> repeat'(first|exact tv|exact qV|refine gX ?_|refine an ?_ ?_)))
 all_goals first|(exact⟨rfl,by omega⟩)|(obtain⟨hp1,hp2⟩:=hp;first|exact sN|(have h9:i<l.length:=om;first|exact hm i h9|(rw[hp1,Xi .z h9];first|exact(dH h).symm|exact bG h))|(have h9:=bV h;rw[hp1,qM qo];rfl))
def abJ(s:aN)(want:Int)(hn:s.aJ.length<=100000):aQ 240 [dZ s,iV want] (iV (eU (λx=>decide (x.ax=want)) 0 s.aJ)):=by
 refine af.of func240 rfl rfl (by simp[f240]) λX=>?_
 repeat'(first|refine aC ?_|refine af.tell (ajy s.aJ want hn) ⟨VW.refl trivial,VW.refl trivial,gX trivial,trivial⟩ ?_|refine ag.a ?_|refine Fin.tell (VW.refl trivial))
 skip
def acH(s:aN)(want:Int)(hn:s.az.length<=100000):aQ 267 [dZ s,iV want] (iV (eU (λx=>decide (x.id=want)) 0 s.az)):=by
 refine af.of func267 rfl rfl (by simp[f267]) λX=>?_
 repeat'(first|refine aC ?_|refine af.tell (ajx s.az want hn) ⟨VW.refl trivial,VW.refl trivial,gX trivial,trivial⟩ ?_|refine ag.a ?_|refine Fin.tell (VW.refl trivial))
 skip
def QT(s:aN)(want:Int)(hn:s.opens.length<=100000):aQ 300 [dZ s,iV want] (iV (eU (λx=>decide (x.set=want)) 0 s.opens)):=by
 refine af.of func300 rfl rfl (by simp[f300]) λX=>?_
 repeat'(first|refine aC ?_|refine af.tell (ajz s.opens want hn) ⟨VW.refl trivial,VW.refl trivial,gX trivial,trivial⟩ ?_|refine ag.a ?_|refine Fin.tell (VW.refl trivial))
 skip
def an4(l:List Int)(hl:l.length<=100000)(hr:kW l=false):aQ 226 [.d (iR l)] (bI [.d (bW []),iV 1]):=by
 refine ay func226 λX=>?_
 repeat'(first|refine aC ?_|refine aj.mk (λh=>?_) (λh=>ai h (by rw[hr];decide))|refine aO (Uh l hl) ?_|refine kJ rfl ⟨VW.dC,VW.refl tv,tv⟩)
 skip
def xA(l:List Int):List UInt8:=if kW l=true then jy l else []
def adf(l:List Int)(hl:l.length<=100000):aQ 226 [.d (iR l)] (bI [.d (bW (xA l)),iV (if kW l=true then 0 else 1)]):=by
 unfold xA;cases hr:kW l
 ·exact an4 l hl hr
 ·exact an3 l hr
def su(x:iW):Bool:=bif (bif dQ x.seq 0 1048576 then dQ x.last.code 0 99 else false) then dQ x.last.n 0 1048576 else false
def uz(x:iT):Bool:=dQ x.ax 1 8
def GG(v t:Int)(x:eH):Bool:=bif (bif (bif decide ((if kW x.chunks=true then 0 else 1:Int)=0) then dQ x.set 1 8 else false) then(bif !x.held then true else decide (2<=v)) else false) then decide ((x.tag.length:Int)<=t) else false
def Ym{α:Type}(z:α){p:α->Bool}{l:List α}{i:Nat}(h:i<l.length):(l.drop i).all p=bif !p (l.getD i z) then false else(l.drop (i+1)).all p:=by
 rw[wO z h,List.all_cons];cases p (l.getD i z) <;> rfl
def asA(x:iW):aQ 258 [aaJ x] (.b (su x)):=by
 refine ay func258 λX=>?_
 (repeat'(first|refine aC ?_|refine aO (D7 _ _ _) ?_|refine aZ _ (fM (λht=>af.tell (D7 _ _ _) vw ⟨rfl,rfl⟩) ?_)|refine ag.a ?_|refine Fin.tell (vq (ah V.b ?_) tv)))<;>try exact cls
def asV(x:iT):aQ 262 [aaP x] (.b (uz x)):=by
 refine ay func262 λX=>?_
 (repeat'(first|refine aC ?_|refine aO (D7 _ _ _) ?_|refine ag.a ?_|refine Fin.tell (vq (ah V.b ?_) tv)))<;>try exact cls
def aov(l:List iW)(hn:l.length<=100000):aQ 257 [.d (yD l),.fn 258 0 0 (λ_=>.top)] (.b (l.all su)):=by
 refine ay func257 λX=>?_
 (repeat'(first|refine aC ?_|refine dU l.length (λi (a:Unit)=>⟨18,[(1,.fn 258 0 0 (λ_=>.top)),(7,.d (yD l)),(8,iV l.length),(9,iV i)],e0⟩) (λi a=>l.all su=(l.drop i).all su) () ?_ ?_ (λi a hi hp=>?_)|refine aZ () ⟨?_,?_,?_⟩|refine aO (asA (l.getD i .z)) ?_|refine aj.mk (λh=>?_) (λh=>?_)|refine ag.a ?_|refine Fin.tell (vq (ah V.b ?_) tv)|refine ag.mk ?_ ?_))<;>try exact cls
 all_goals(try(refine leq ?_ ?_ <;> repeat'(first|exact tv|exact qV|refine gX ?_|refine an ?_ ?_)))
 all_goals first|(have h9:i<l.length:=om;first|omega|(rw[hp,Ym .z h9];first|exact(dH h).symm|exact bG h))|(have h9:=bV h;rw[hp,qM qo];rfl)
def aow(l:List iT)(hn:l.length<=100000):aQ 261 [.d (og l),.fn 262 0 0 (λ_=>.top)] (.b (l.all uz)):=by
 refine ay func261 λX=>?_
 (repeat'(first|refine aC ?_|refine dU l.length (λi (a:Unit)=>⟨18,[(1,.fn 262 0 0 (λ_=>.top)),(7,.d (og l)),(8,iV l.length),(9,iV i)],e0⟩) (λi a=>l.all uz=(l.drop i).all uz) () ?_ ?_ (λi a hi hp=>?_)|refine aZ () ⟨?_,?_,?_⟩|refine aO (asV (l.getD i .z)) ?_|refine aj.mk (λh=>?_) (λh=>?_)|refine ag.a ?_|refine Fin.tell (vq (ah V.b ?_) tv)|refine ag.mk ?_ ?_))<;>try exact cls
 all_goals(try(refine leq ?_ ?_ <;> repeat'(first|exact tv|exact qV|refine gX ?_|refine an ?_ ?_)))
 all_goals first|(have h9:i<l.length:=om;first|omega|(rw[hp,Ym .z h9];first|exact(dH h).symm|exact bG h))|(have h9:=bV h;rw[hp,qM qo];rfl)
def asy(v t:Int)(x:eH)(hn:x.chunks.length<=100000):af 297 [aaI x,.ptr 0 0,.ptr 1 0] ⟨[(0,.Wp 1 (λ_=>iV v)),(1,.Wp 1 (λ_=>iV t))],2⟩ (λrv rt=>rv=(.b (GG v t x))/\rt=⟨[(0,.Wp 1 (λ_=>iV v)),(1,.Wp 1 (λ_=>iV t))],2⟩):=by
 refine ay func297 λX=>?_
 (repeat'(first|refine aC ?_|refine aO (adf x.chunks hn) ?_|refine aZ _ (fM (λht=>af.tell (D7 _ _ _) vw ⟨rfl,rfl⟩) ?_)|refine ag.a ?_|refine uh qN (vq (ah V.b ?_) tv) (by repeat'(first|exact tv|refine fE qN ?_ ?_|exact qV|refine an ?_ ?_))))<;>try exact cls
def AA:aN:=⟨1,1,0,0,[],[],[]⟩
def acI  : aQ 66 [] (dZ AA):=by
 refine ay func66 λX=>?_
 repeat'(first|refine aC ?_|refine ag.a ?_|refine Fin.tell (gu ⟨⟨⟨vw,VW.dC⟩,VW.dC⟩,VW.dC⟩))
 skip
def alb  : aQ 10 [] (dZ AA):=by
 refine ay func10 λX=>?_
 repeat'(first|refine aC ?_|refine ag.a ?_|refine Fin.tell (gu ⟨⟨⟨vw,VW.dC⟩,VW.dC⟩,VW.dC⟩))
 skip
def aou(v t:Int)(l:List eH)(hn:l.length<=100000)(hc:∀ i,i<l.length->(l.getD i .z).chunks.length<=100000):af 296 [.d (jO l),.fn 297 0 2 (λk=>.ptr k 0)] ⟨[(0,.Wp 1 (λ_=>iV v)),(1,.Wp 1 (λ_=>iV t))],2⟩ (λrv rt=>rv=(.b (l.all (GG v t)))/\rt=⟨[(0,.Wp 1 (λ_=>iV v)),(1,.Wp 1 (λ_=>iV t))],2⟩):=by
 refine ay func296 λX=>?_
 (repeat'(first|refine aC ?_|refine dU l.length (λi (a:Unit)=>⟨18,[(1,.fn 297 0 2 (λk=>.ptr k 0)),(7,.d (jO l)),(8,iV l.length),(9,iV i)],⟨[(0,.Wp 1 (λ_=>iV v)),(1,.Wp 1 (λ_=>iV t))],2⟩⟩) (λi a=>l.all (GG v t)=(l.drop i).all (GG v t)) () ?_ ?_ (λi a hi hp=>?_)|refine aZ () ⟨?_,?_,?_⟩|refine fO [0,1] (asy v t (l.getD i .z) (hc i om)) ?_|refine aj.mk (λh=>?_) (λh=>?_)|refine ag.a ?_|refine uh qN (vq (ah V.b ?_) tv) (by repeat'(first|exact tv|refine fE qN ?_ ?_|exact qV|refine an ?_ ?_))|refine ag.mk ?_ ?_))<;>try exact cls
 all_goals(try(refine leq ?_ ?_ <;> repeat'(first|exact tv|exact qV|exact qW|refine gX ?_|refine fE qN ?_ ?_|refine an ?_ ?_)))
 all_goals first|(have h9:i<l.length:=om;first|omega|(rw[hp,Ym .z h9];first|exact(dH h).symm|exact bG h))|(have h9:=bV h;rw[hp,qM qo];rfl)
structure aaK (s:aN):Prop where
 l1:s.aJ.length<=100000
 l2:s.opens.length<=100000
 l3:s.az.length<=100000
 k1:∀ x∈s.aJ,-9223372036854775808<=x.ax/\x.ax<=1000000000000
 k2:∀ x∈s.opens,-9223372036854775808<=x.set/\x.set<=1000000000000
 k3:∀ x∈s.az,-9223372036854775808<=x.id/\x.id<=1000000000000
 ch:∀ i,i<s.az.length->(s.az.getD i .z).chunks.length<=100000
 nx : -9223372036854775807<=s.next/\s.next<=9223372036854775807
def Oz(s:aN)(v:Int):Bool:=bif (bif decide (16<(s.az.length:Int)) then true else !rX (λx=>x.id) (s.next-1) 0 s.az) then false else bif decide (v<3) then s.az.all (GG v 0) else s.az.all (GG v 16)
def api(s:aN)(v:Int)(hs:aaK s):aQ 263 [dZ s,iV v] (.b (Oz s v)):=by
 have hnx:=hs.nx;refine ay func263 λX=>?_
 (repeat'(first|refine aC ?_|refine aZ _ (fM (λht=>af.tell (aiT s.az (s.next-1) hs.l3 hs.k3) ⟨VW.refl tv,VW.refl tv,gX trivial,tv⟩ ⟨rfl,rfl⟩) ?_)|refine nZ [1,2] (aou v _ s.az hs.l3 hs.ch) rfl rfl rfl ⟨VW.refl tv,gX vw,tv⟩ bJ ?_|refine aj.mk (λh=>?_) (λh=>?_)|refine ag.a ?_|refine Fin.tell (vq (ah V.b ?_) tv)|refine ag.mk ?_ ?_))<;>try exact cls
 all_goals first|exact(dH h).symm|(rename_i h0;exact((bG h0).trans (dH h)).symm)|(rename_i h0;exact((bG h0).trans (bG h)).symm)
def Vs(l:List Int)(k:Int):Int:=eU (λx=>decide (k=x)) 0 l
def sD(l:List Int)(k:Int):Bool:=decide (0<=Vs l k)
def tX(n dO:Int)(named:Bool):Bool:=bif named then dQ n 1 dO else decide (n=0)
def am8(l:List Int)(v:Int)(hn:l.length<=100000):aQ 222 [.d (iR l),iV v] (iV (Vs l v)):=by
 refine ay func222 λX=>?_
 (repeat'(first|refine aC ?_|refine dU l.length (λi (a:Unit)=>⟨19,[(0,.d (iR l)),(1,iV v),(7,iV l.length),(8,iV i)],e0⟩) (λi a=>Vs l v=eU (λx=>decide (v=x)) i (l.drop i)) () ?_ ?_ (λi a hi hp=>?_)|refine aZ () ⟨?_,?_,?_⟩|refine aj.mk (λh=>?_) (λh=>?_)|refine ag.a ?_|refine Fin.tell (vq (ah iV ?_) tv)|refine ag.mk ?_ ?_))<;>try exact cls
 all_goals first|exact sN|(have h9:i<l.length:=om;rw[hp,D5 0 h9];first|exact(dH h).symm|exact bG h)|(have h9:=bV h;rw[hp,qM qo];rfl)
def ai8(l:List Int)(v:Int)(hn:l.length<=100000):aQ 185 [.d (iR l),iV v] (.b (sD l v)):=by
 refine ay func185 λX=>?_
 (repeat'(first|refine aC ?_|refine aO (am8 l v hn) ?_|refine Fin.tell (vq (ah V.b ?_) tv)))<;>try exact cls
def FW(l:List Int)(c:aF)(hn:l.length<=100000):af 184 [.d (iR l),.ptr 0 0] ⟨[(0,.Wp 8 (λk=>.d (lW c k)))],1⟩ (λrv rt=>rv=(.b (sD l c.kind))/\rt=⟨[(0,.Wp 8 (λk=>.d (lW c k)))],1⟩):=by
 refine ay func184 λX=>?_
 (repeat'(first|refine aC ?_|refine aO (ai8 l c.kind hn) ?_|refine ag.a ?_|refine uh qN (vq (ah V.b ?_) tv) (by repeat'(first|exact tv|refine fE qN ?_ ?_|exact qV|refine an ?_ ?_))))<;>try exact cls
def afY(n dO:Int)(named:Bool):aQ 186 [iV n,iV dO,.b named] (.b (tX n dO named)):=by
 refine ay func186 λX=>?_
 (repeat'(first|refine aC ?_|refine af.tell (aao _ _ _) vw ?_|refine aj.mk (λh=>?_) (λh=>?_)|refine ag.a ?_|refine Fin.tell (vq (ah V.b ?_) tv)))<;>try exact cls
 all_goals first|exact(dH h).symm|exact(bG h).symm
def LP(c:aF):Bool:=(jr c.text).toList == ({ data:=#[] }:ByteArray).toList
def yF(c:aF)(lo hi:Int)(ch tx:Bool):Bool:=
 bif (bif (bif (bif (bif (bif dQ c.n lo hi then ch else false) then tx else false) then tX c.ax 8 (!sD [8] c.kind) else false) then tX c.seq 1048576 (!sD [1,8] c.kind) else false) then tX c.set 8 (sD [2,3,4] c.kind) else false) then tX c.id 1048576 (sD [5,7,9,10,11] c.kind) else false
def xM(c:aF)(lo hi:Int):Bool:=bif decide (c.kind=3) then yF c lo hi (kW c.chunks) (LP c) else bif decide (c.kind=11) then yF c lo hi (decide ((c.chunks.length:Int)=0)) (decide (((jr c.text).size:Int)<=16)) else yF c lo hi (decide ((c.chunks.length:Int)=0)) (LP c)
def vV(c:aF):Bool:=bif decide (12=c.kind) then xM c 0 64 else bif decide (8=c.kind) then xM c 2 3 else bif decide (6=c.kind) then xM c 0 8 else xM c 0 0
def att(c:aF)(hc:c.chunks.length<=100000):aQ 146 [jl c] (.b (vV c)):=by
 refine ay func146 λX=>?_
 (repeat'(first|refine ZY (x:=.region 3 _ _) (λ(a:Int×Int)=>⟨85,[(1,.ptr 0 0),(3,.fn 184 0 1 (λ_=>.ptr 0 0)),(4,.fn 186 0 0 (λ_=>.top)),(5,.ptr 2 0)],⟨[(0,.Wp 8 (λk=>.d (lW c k))),(2,.Wp 2 (λk=>match k with|0=>iV a.1|_=>iV a.2))],3⟩⟩) (λa=>vV c=xM c a.1 a.2) (T.region ?_) (λb hb=>T.seq ?_)|refine ZY (y:=.seq (.region 10 _ _) _) (λ(a:Bool×Bool)=>⟨85,[(1,.ptr 0 0),(3,.fn 184 0 1 (λ_=>.ptr 0 0)),(4,.fn 186 0 0 (λ_=>.top)),(5,.ptr 2 0),(6,.b a.1),(7,.b a.2)],⟨[(0,.Wp 8 (λk=>.d (lW c k))),(2,.Wp 2 (λk=>match k with|0=>iV b.1|_=>iV b.2))],3⟩⟩) (λa=>vV c=yF c b.1 b.2 a.1 a.2) ?_ (λa ha=>T.seq ?_)|refine aC ?_|refine bU 4 [] (ooz 9 []) ?_|refine bU 10 [] (ooz 49 []) ?_|refine mc ?_ ?_|refine aO (Uh c.chunks hc) ?_|refine jd.tell (aao _ _ _) vw ?_|refine Q4 [0] (FW [8] c (by simp)) rfl rfl rfl ⟨VW.sl rfl (λj hj k hk=>by obtain rfl:k=0:=Nat.lt_one_iff.1 hk;obtain _|j:=j <;> first|rfl|(exact ai hj qo)),qW,tv⟩ bJ ⟨rfl,tv⟩ ?_|refine Q4 [0] (FW [1,8] c (by simp)) rfl rfl rfl ⟨VW.sl rfl (λj hj k hk=>by obtain rfl:k=0:=Nat.lt_one_iff.1 hk;obtain _|_|j:=j <;> first|rfl|(exact ai hj qo)),qW,tv⟩ bJ ⟨rfl,tv⟩ ?_|refine Q4 [0] (FW [2,3,4] c (by simp)) rfl rfl rfl ⟨VW.sl rfl (λj hj k hk=>by obtain rfl:k=0:=Nat.lt_one_iff.1 hk;obtain _|_|_|j:=j <;> first|rfl|(exact ai hj qo)),qW,tv⟩ bJ ⟨rfl,tv⟩ ?_|refine Q4 [0] (FW [5,7,9,10,11] c (by simp)) rfl rfl rfl ⟨VW.sl rfl (λj hj k hk=>by obtain rfl:k=0:=Nat.lt_one_iff.1 hk;obtain _|_|_|_|_|j:=j <;> first|rfl|(exact ai hj qo)),qW,tv⟩ bJ ⟨rfl,tv⟩ ?_|refine kF (afY _ _ _) ?_|refine aj.mk (λh=>?_) (λh=>?_)|refine ag.a ?_|refine Fin.tell (vq (ah V.b ?_) tv)))<;>(try(refine dm.mk ?_;repeat'(first|exact tv|exact rfl|refine af.tell (aao _ _ _) vw ?_|refine aZ _ (fM (λht=>Fp [0] (FW [8] c (by simp)) rfl rfl rfl ⟨VW.sl rfl (λj hj k hk=>by obtain rfl:k=0:=Nat.lt_one_iff.1 hk;obtain _|j:=j <;> first|rfl|(exact ai hj qo)),qW,tv⟩ bJ ⟨rfl,tv⟩ ⟨rfl,rfl⟩) ?_)|refine aZ _ (fM (λht=>Fp [0] (FW [1,8] c (by simp)) rfl rfl rfl ⟨VW.sl rfl (λj hj k hk=>by obtain rfl:k=0:=Nat.lt_one_iff.1 hk;obtain _|_|j:=j <;> first|rfl|(exact ai hj qo)),qW,tv⟩ bJ ⟨rfl,tv⟩ ⟨rfl,rfl⟩) ?_)|refine aZ _ (fM (λht=>Fp [0] (FW [2,3,4] c (by simp)) rfl rfl rfl ⟨VW.sl rfl (λj hj k hk=>by obtain rfl:k=0:=Nat.lt_one_iff.1 hk;obtain _|_|_|j:=j <;> first|rfl|(exact ai hj qo)),qW,tv⟩ bJ ⟨rfl,tv⟩ ⟨rfl,rfl⟩) ?_)|refine aZ _ (fM (λht=>Fp [0] (FW [5,7,9,10,11] c (by simp)) rfl rfl rfl ⟨VW.sl rfl (λj hj k hk=>by obtain rfl:k=0:=Nat.lt_one_iff.1 hk;obtain _|_|_|_|_|j:=j <;> first|rfl|(exact ai hj qo)),qW,tv⟩ bJ ⟨rfl,tv⟩ ⟨rfl,rfl⟩) ?_)|refine aZ _ (fM (λht=>af.tell (afY _ _ _) vw ⟨rfl,rfl⟩) ?_)|refine an ?_ ?_|refine ag.mk ?_ ?_)))
 all_goals try exact cls
 all_goals first|exact ha.symm|(refine aZ ((0,64):Int×Int) ⟨(by simp only[vV,dw,bz, *];done),?_⟩;(refine leq ?_ ?_ <;> repeat'(first|exact tv|exact qV|exact qW|refine gX ?_|refine vq (ah iV ?_) tv|refine fE qN ?_ ?_|refine an ?_ ?_));done)|(refine aZ ((2,3):Int×Int) ⟨(by simp only[vV,dw,bz, *];done),?_⟩;(refine leq ?_ ?_ <;> repeat'(first|exact tv|exact qV|exact qW|refine gX ?_|refine vq (ah iV ?_) tv|refine fE qN ?_ ?_|refine an ?_ ?_));done)|(refine aZ ((0,8):Int×Int) ⟨(by simp only[vV,dw,bz, *];done),?_⟩;(refine leq ?_ ?_ <;> repeat'(first|exact tv|exact qV|exact qW|refine gX ?_|refine vq (ah iV ?_) tv|refine fE qN ?_ ?_|refine an ?_ ?_));done)|(refine aZ ((0,0):Int×Int) ⟨(by simp only[vV,dw,bz, *];done),?_⟩;(refine leq ?_ ?_ <;> repeat'(first|exact tv|exact qV|exact qW|refine gX ?_|refine fE qN ?_ ?_|refine an ?_ ?_));done)|(refine aZ ((kW c.chunks,LP c):Bool×Bool) ⟨(by rw[hb];simp only[xM,dw,bz, *];done),?_⟩;(refine leq ?_ ?_ <;> repeat'(first|exact tv|exact qV|exact qW|refine gX ?_|refine fE qN ?_ ?_|refine an ?_ ?_));done)|(refine aZ ((decide ((c.chunks.length:Int)=0),decide (((jr c.text).size:Int)<=16)):Bool×Bool) ⟨(by rw[hb];simp only[xM,dw,bz, *];done),?_⟩;(refine leq ?_ ?_ <;> repeat'(first|exact tv|exact qV|exact qW|refine gX ?_|refine fE qN ?_ ?_|refine an ?_ ?_));done)|(refine aZ ((decide ((c.chunks.length:Int)=0),LP c):Bool×Bool) ⟨(by rw[hb];simp only[xM,dw,bz, *];done),?_⟩;(refine leq ?_ ?_ <;> repeat'(first|exact tv|exact qV|exact qW|refine gX ?_|refine fE qN ?_ ?_|refine an ?_ ?_));done)
def lD(num n:Int):List bu:=if n=0 then [] else [⟨num,0,n.toNat,[]⟩]
def ql(num:Int)(b:List UInt8):List bu:=if b=[] then [] else [⟨num,2,0,b⟩]
def aeJ{l:List bu}{f:bu}{N:Nat}{h:Nat->Nat->V}(hc:∀ k,k<4->VW N (h 0 k) (.d (kP f k))):∀ j,j<l.length+1->∀ k,k<4->VW N (axE l.length (λj k=>.d (kP (l.getD j .z) k)) h j k) (.d (kP ((l++[f]).getD j .z) k)):=λj hj k hk=>by
 refine kU rfl (by simpa using hj) fr (λj hj=>?_);obtain rfl:j=0:=by simpa using hj
 exact hc k hk
def Js(num n:Int)(l:List bu)(hl:l.length<=1000)(h0:0<=n/\n<=1000000000):af 224 [iV num,iV n,.ptr 0 0] ⟨[(0,.Wp 1 (λ_=>.row 1 l.length)),(1,bQ 163 4 kP .z l)],2⟩ (λrv rt=>rv = .top/\rt=⟨[(0,.Wp 1 (λ_=>.row 1 (l++lD num n).length)),(1,bQ 163 4 kP .z (l++lD num n))],2⟩):=by refine ay func224 λX=>?_;exact abt
def acu(num:Int)(b:List UInt8)(l:List bu)(hl:l.length<=1000):af 225 [iV num,.d (bW b),.ptr 0 0] ⟨[(0,.Wp 1 (λ_=>.row 1 l.length)),(1,bQ 163 4 kP .z l)],2⟩ (λrv rt=>rv = .top/\rt=⟨[(0,.Wp 1 (λ_=>.row 1 (l++ql num b).length)),(1,bQ 163 4 kP .z (l++ql num b))],2⟩):=by refine ay func225 λX=>?_;exact abt
def Ad(c:aF):List bu:=[]++lD 1 c.kind
def Ac(c:aF):List bu:=Ad c++lD 2 c.ax
def Aa(c:aF):List bu:=Ac c++lD 3 c.seq
def zZ(c:aF):List bu:=Aa c++lD 4 c.set
def zY(c:aF):List bu:=zZ c++lD 5 c.id
def xk(c:aF):List bu:=zY c++lD 6 c.n
def rJ(c:aF):List bu:=xk c++ql 7 (xA c.chunks)
def sS(c:aF):List bu:=rJ c++ql 8 c.text
def iL(c:aF)(v:Int):List bu:=bif decide (3<=v) then sS c else rJ c
def Ig(a n:Int):(lD a n).length<=1:=by unfold lD;split <;> simp
def aeF(a:Int)(b:List UInt8):(ql a b).length<=1:=by unfold ql;split <;> simp
def CZ(c:aF):(Ad c).length<=1/\(Ac c).length<=2/\(Aa c).length<=3/\(zZ c).length<=4/\(zY c).length<=5/\(xk c).length<=6/\(rJ c).length<=7/\(sS c).length<=8:=by
 have h1:=Ig 1 c.kind;have h2:=Ig 2 c.ax;have h3:=Ig 3 c.seq;have h4:=Ig 4 c.set;have h5:=Ig 5 c.id;have h6:=Ig 6 c.n;have h7:=aeF 7 (xA c.chunks);have h8:=aeF 8 c.text;simp only[sS,rJ,xk,zY,zZ,Aa,Ac,Ad,bP,List.length_nil];omega
structure abb (c:aF):Prop where
 kind:0<=c.kind/\c.kind<=1000000000
 ax:0<=c.ax/\c.ax<=1000000000
 seq:0<=c.seq/\c.seq<=1000000000
 set:0<=c.set/\c.set<=1000000000
 id:0<=c.id/\c.id<=1000000000
 n:0<=c.n/\c.n<=1000000000
 chunks:c.chunks.length<=100000
 text:c.text.length<=1000
def ahb{N:Nat}(b:List UInt8):VW N (.d (axN (jr b))) (.d (bW b)):=by
 refine VW.sl (by simp[jr,ByteArray.size]) (λj hj k hk=>?_);simp[jr,gG]
def ank(c:aF)(v:Int)(hc:abb c):aQ 193 [jl c,iV v] (.d (jv (iL c v))):=by
 refine ay func193 λX=>?_
 (repeat'(first|refine uN 1 0 163 (λj k=>.d (kP (([]:List bu).getD j .z) k)) rfl rfl qN rfl qN (T.seq ?_)|refine aC ?_|refine nZ [1,2] (Js 1 c.kind [] (by simp) hc.kind) rfl rfl rfl vw (by repeat'(first|exact tv|refine an ⟨_,rfl,aW.Wp ?_⟩ ?_|refine an ⟨_,rfl,aW.row rfl fv⟩ ?_|exact qW|refine an ?_ ?_)) ?_|refine nZ [1,2] (Js 2 c.ax (Ad c) (by have:=CZ c;omega) hc.ax) rfl rfl rfl vw (by repeat'(first|exact tv|refine an ⟨_,rfl,aW.Wp ?_⟩ ?_|refine an ⟨_,rfl,aW.row rfl fv⟩ ?_|exact qW|refine an ?_ ?_)) ?_|refine nZ [1,2] (Js 3 c.seq (Ac c) (by have:=CZ c;omega) hc.seq) rfl rfl rfl vw (by repeat'(first|exact tv|refine an ⟨_,rfl,aW.Wp ?_⟩ ?_|refine an ⟨_,rfl,aW.row rfl fv⟩ ?_|exact qW|refine an ?_ ?_)) ?_|refine nZ [1,2] (Js 4 c.set (Aa c) (by have:=CZ c;omega) hc.set) rfl rfl rfl vw (by repeat'(first|exact tv|refine an ⟨_,rfl,aW.Wp ?_⟩ ?_|refine an ⟨_,rfl,aW.row rfl fv⟩ ?_|exact qW|refine an ?_ ?_)) ?_|refine nZ [1,2] (Js 5 c.id (zZ c) (by have:=CZ c;omega) hc.id) rfl rfl rfl vw (by repeat'(first|exact tv|refine an ⟨_,rfl,aW.Wp ?_⟩ ?_|refine an ⟨_,rfl,aW.row rfl fv⟩ ?_|exact qW|refine an ?_ ?_)) ?_|refine nZ [1,2] (Js 6 c.n (zY c) (by have:=CZ c;omega) hc.n) rfl rfl rfl vw (by repeat'(first|exact tv|refine an ⟨_,rfl,aW.Wp ?_⟩ ?_|refine an ⟨_,rfl,aW.row rfl fv⟩ ?_|exact qW|refine an ?_ ?_)) ?_|refine aO (adf c.chunks hc.chunks) ?_|refine nZ [1,2] (acu 7 (xA c.chunks) (xk c) (by have:=CZ c;omega)) rfl rfl rfl vw (by repeat'(first|exact tv|refine an ⟨_,rfl,aW.Wp ?_⟩ ?_|refine an ⟨_,rfl,aW.row rfl fv⟩ ?_|exact qW|refine an ?_ ?_)) ?_|refine nZ [1,2] (acu 8 c.text (rJ c) (by have:=CZ c;omega)) rfl rfl rfl ⟨qV,ahb c.text,qW,tv⟩ (by repeat'(first|exact tv|refine an ⟨_,rfl,aW.Wp ?_⟩ ?_|refine an ⟨_,rfl,aW.row rfl fv⟩ ?_|exact qW|refine an ?_ ?_)) ?_|refine aj.mk (λh=>?_) (λh=>?_)|refine ag.a ?_|refine zg (C:=kP) (z:=.z) (L:=iL c v) rfl rfl ?_ ?_|refine ag.mk ?_ ?_))<;>try exact cls
 all_goals first|(exact ah List.length (dH h))|(exact ah List.length (bG h))|(simp only[jr,ByteArray.size];have:=hc.text;simp;omega)|(have e:iL c v=sS c:=dH h;rw[e];exact λj hj k hk=>rfl)|(have e:iL c v=rJ c:=bG h;rw[e];exact λj hj k hk=>rfl)
def Hz(l:List bu):Prop:=l.Pairwise (λa b=>a.num<b.num)
def agT(k:Int):∀(l:List bu) (es:List (Int×V)),qw (dY (l.foldl Hg es) k)=qw (dY es k)+(l.countP (λf=>decide (f.num=k)):Nat)
 |[],es=>by simp
 |f::r,es=>by
  rw[List.foldl_cons,agT k r,List.countP_cons];have e:qw (dY (Hg es f) k)=if f.num=k then qw (dY es k)+1 else qw (dY es k):=by
   show qw (bif decide (f.num=k) then some (V.i (qw (dY es f.num)+1)) else dY es k)=_;by_cases e:f.num=k
   ·subst e;simp[qw]
   ·simp[e]
  rw[e];by_cases h:f.num=k <;> simp[h] <;> omega
def ZN(l:List bu)(k:Int):cnt l k=(l.countP (λf=>decide (f.num=k)):Nat):=by
 have:=agT k l [];unfold cnt tm;rw[this];show(0:Int)+_=_;omega
def acB{l:List bu}(h:Hz l)(k:Int):l.countP (λf=>decide (f.num=k))<=1:=by
 induction l with
 |nil=>simp
 |cons f r ih=>
  have h2:=List.pairwise_cons.1 h;rw[List.countP_cons];have:=ih h2.2;split
  ·rename_i e
   have e:f.num=k:=by simpa using e
   have h0:r.countP (λf=>decide (f.num=k))=0:=by
    rw[List.countP_eq_zero];intro a ha hk;have hk:a.num=k:=by simpa using hk
    have:=h2.1 a ha;omega
   omega
  ·omega
def Y8{l:List bu}(h:Hz l){i:Nat}(hi:i<l.length):cnt (l.take (i+1)) (l.getD i .z).num=1:=by
 rw[ZN];have h1:Hz (l.take (i+1)):=List.Pairwise.sublist (List.take_sublist _ _) h;have h2:=acB h1 (l.getD i .z).num;have h3:0<(l.take (i+1)).countP (λf=>decide (f.num=(l.getD i .z).num)):=by
  rw[List.countP_pos_iff];refine⟨l.getD i .z,?_,by simp⟩;rw[kR .z hi];simp
 omega
def Y9{l:List bu}{f:bu}(h:f∈l){k:Int}(hk:f.num=k):cnt l k≠0:=by
 rw[ZN];have h3:0<l.countP (λf=>decide (f.num=k)):=by
  rw[List.countP_pos_iff];exact⟨f,h,by simpa using hk⟩
 omega
def ja{α:Type}{l:List α}{z:α}{i:Nat}(h:i<l.length):l.getD i z∈l:=by
 rw[bn,dV h];exact List.getElem_mem h
def adn{l:List bu}(h:Hz l){i:Nat}(h0:0<i)(hi:i<l.length):xC (l.getD ((i:Int)-1).toNat .z) (l.getD i .z)=true:=by
 obtain⟨j,rfl⟩:∃ j,i=j+1:=⟨i-1,by omega⟩;rw[show((((j+1:Nat):Int))-1).toNat=j by omega];have:=List.pairwise_iff_getElem.1 h j (j+1) qO hi qO;rw[bn,bn,dV hi,dV (show j<l.length by omega)];simp only[Option.getD_some];unfold xC;rw[if_neg qO];simpa using this
def acw{l:List bu}{B:Nat}(h:∀ f∈l,(jk f).length<=B):(bK l).length<=l.length*B:=by
 induction l with
 |nil=>simp[bK]
 |cons f r ih=>
  have h1:=ih (λf hf=>h f (jA _ hf));have h2:=h f jL;have e:bK (f::r)=jk f++bK r:=rfl;rw[e,bP,lT,Nat.succ_mul];omega
def Py(v:Int)(f:bu):Prop:=(f.aU=0/\1<=f.num/\f.num<=6/\0<f.n/\f.n<=1000000000/\f.b=[])\/(f.aU=2/\7<=f.num/\f.num<=8/\(f.num=8->3<=v)/\f.n=0/\f.b≠[]/\f.b.length<=1000)
structure wY (v k:Int) (l:List bu):Prop where
 Bj:Hz l
 le:∀ f∈l,f.num<=k
 axy:∀ f∈l,Py v f
def wY.num{v k n:Int}{l:List bu}(h:wY v k l)(hk:0<=k/\k<=5)(hn:0<=n/\n<=1000000000):wY v (k+1) (l++lD (k+1) n):=by
 unfold lD;split
 ·rw[pO];exact⟨h.Bj,λf hf=>by have:=h.le f hf;omega,h.axy⟩
 ·refine⟨List.pairwise_append.2 ⟨h.Bj,by simp,λa ha b hb=>?_⟩,λf hf=>?_,λf hf=>?_⟩
  ·obtain rfl:=List.mem_singleton.1 hb;have:=h.le a ha;show a.num<k+1;omega
  ·obtain hf|hf:=List.mem_append.1 hf
   ·have:=h.le f hf;omega
   ·obtain rfl:=List.mem_singleton.1 hf;exact dL _
  ·obtain hf|hf:=List.mem_append.1 hf
   ·exact h.axy f hf
   ·obtain rfl:=List.mem_singleton.1 hf;exact .inl ⟨rfl,by show 1<=k+1;omega,by show k+1<=6;omega,by show 0<n.toNat;omega,by show n.toNat<=_;omega,rfl⟩
def wY.byt{v k:Int}{b:List UInt8}{l:List bu}(h:wY v k l)(hk:k=6\/(k=7/\(b≠[]->3<=v)))(hb:b.length<=1000):wY v (k+1) (l++ql (k+1) b):=by
 unfold ql;split
 ·rw[pO];exact⟨h.Bj,λf hf=>by have:=h.le f hf;omega,h.axy⟩
 ·rename_i hne
  refine⟨List.pairwise_append.2 ⟨h.Bj,by simp,λa ha b hb=>?_⟩,λf hf=>?_,λf hf=>?_⟩
  ·obtain rfl:=List.mem_singleton.1 hb;have:=h.le a ha;show a.num<k+1;omega
  ·obtain hf|hf:=List.mem_append.1 hf
   ·have:=h.le f hf;omega
   ·obtain rfl:=List.mem_singleton.1 hf;exact dL _
  ·obtain hf|hf:=List.mem_append.1 hf
   ·exact h.axy f hf
   ·obtain rfl:=List.mem_singleton.1 hf;refine .inr ⟨rfl,by show 7<=k+1;omega,by show k+1<=8;omega,λe=>?_,rfl,hne,hb⟩;have e:k+1=8:=e;obtain hk|hk:=hk
    ·omega
    ·exact hk.2 hne
structure fZ (c:aF) (v:Int):Prop where
 kM:jX c.kind≠0
 le:jX c.kind<=v
 v3:v<=3
 fits:vV c=true
 chunks:c.chunks.length<=100000
 text:c.text.length<=1000000
def BI{k:Int}(h:jX k≠0):1<=k/\k<=12:=by
 unfold jX at h;split at h
 ·omega
 ·split at h
  ·omega
  ·split at h
   ·omega
   ·exact ai rfl h
structure Qb (c:aF):Prop where
 ax:0<=c.ax/\c.ax<=8/\(c.kind≠8->1<=c.ax)
 seq:0<=c.seq/\c.seq<=1048576/\(c.kind≠1->c.kind≠8->1<=c.seq)
 set:0<=c.set/\c.set<=8/\(c.kind=2\/c.kind=3\/c.kind=4->1<=c.set)
 id:0<=c.id/\c.id<=1048576
 n:0<=c.n/\c.n<=64/\(c.kind=8->2<=c.n/\c.n<=3)/\(c.kind=6->c.n<=8)
 chunks:(c.kind=3/\kW c.chunks=true)\/(c.kind≠3/\c.chunks=[])
 text:c.text.length<=16/\(c.kind≠11->c.text=[])
def TW{a b:Bool}:(bif a then b else false)=(a&&b):=by cases a <;> rfl
def Tf{c:aF}(h:LP c=true):c.text=[]:=by
 unfold LP at h;rw[show({ data:=#[] }:ByteArray)=jr [] from rfl,QG,QG]at h;simpa using h
def fZ.fit{c:aF}{v:Int}(h:fZ c v):Qb c:=by
 obtain⟨hk1,hk2⟩:=BI h.kM;have hf:=h.fits;have hsz:(jr c.text).size=c.text.length:=by simp[jr,ByteArray.size]
 have key:∀ lo hi ch tx,yF c lo hi ch tx=true->(lo<=c.n/\c.n<=hi)/\ch=true/\tx=true/\tX c.ax 8 (!sD [8] c.kind)=true/\tX c.seq 1048576 (!sD [1,8] c.kind)=true/\tX c.set 8 (sD [2,3,4] c.kind)=true/\tX c.id 1048576 (sD [5,7,9,10,11] c.kind)=true:=by
  intro lo hi ch tx h;unfold yF at h;simp only[TW,qf,dQ,gq]at h;obtain⟨⟨⟨⟨⟨⟨h1,h2⟩,h3⟩,h4⟩,h5⟩,h6⟩,h7⟩:=h;exact⟨h1,h2,h3,h4,h5,h6,h7⟩
 have hw:∀ {n dO:Int} {b:Bool},tX n dO b=true->(b=true->1<=n/\n<=dO)/\(b=false->n=0):=by
  intro n dO b h;unfold tX at h;cases b
  ·exact⟨(λe=>by cases e),λ_=>fU h⟩
  ·exact⟨λ_=>fU h,λe=>by cases e⟩
 have all:∃ lo hi ch tx,yF c lo hi ch tx=true/\(0<=lo/\hi<=64/\(c.kind=8->2<=lo/\hi<=3)/\(c.kind=6->hi<=8))/\(ch=true->(c.kind=3/\kW c.chunks=true)\/(c.kind≠3/\c.chunks=[]))/\(tx=true->c.text.length<=16/\(c.kind≠11->c.text=[])):=by
  have hK:∀ lo hi,xM c lo hi=true->∃ ch tx,yF c lo hi ch tx=true/\(ch=true->(c.kind=3/\kW c.chunks=true)\/(c.kind≠3/\c.chunks=[]))/\(tx=true->c.text.length<=16/\(c.kind≠11->c.text=[])):=by
   intro lo hi h;unfold xM at h;by_cases e3:c.kind=3
   ·rw[aX e3,dw]at h;exact⟨_,_,h,λe=>.inl ⟨e3,e⟩,λe=>⟨by rw[Tf e];simp,λ_=>Tf e⟩⟩
   ·rw[aT e3,bz]at h;have hch:decide ((c.chunks.length:Int)=0)=true->(c.kind=3/\kW c.chunks=true)\/(c.kind≠3/\c.chunks=[]):=λe=>.inr ⟨e3,uI (by have:=fU e;omega)⟩
    by_cases e11:c.kind=11
    ·rw[aX e11,dw]at h;exact⟨_,_,h,hch,λe=>⟨by have:=fU e;omega,λhn=>ai e11 hn⟩⟩
    ·rw[aT e11,bz]at h;exact⟨_,_,h,hch,λe=>⟨by rw[Tf e];simp,λ_=>Tf e⟩⟩
  unfold vV at hf;by_cases e12:(12:Int)=c.kind
  ·rw[aX e12,dw]at hf;obtain⟨ch,tx,h1,h2,h3⟩:=hK _ _ hf;exact⟨0,64,ch,tx,h1,⟨by omega,by omega,λe=>by omega,λe=>by omega⟩,h2,h3⟩
  ·rw[aT e12,bz]at hf;by_cases e8:(8:Int)=c.kind
   ·rw[aX e8,dw]at hf;obtain⟨ch,tx,h1,h2,h3⟩:=hK _ _ hf;exact⟨2,3,ch,tx,h1,⟨by omega,by omega,λe=>by omega,λe=>by omega⟩,h2,h3⟩
   ·rw[aT e8,bz]at hf;by_cases e6:(6:Int)=c.kind
    ·rw[aX e6,dw]at hf;obtain⟨ch,tx,h1,h2,h3⟩:=hK _ _ hf;exact⟨0,8,ch,tx,h1,⟨by omega,by omega,λe=>by omega,λe=>by omega⟩,h2,h3⟩
    ·rw[aT e6,bz]at hf;obtain⟨ch,tx,h1,h2,h3⟩:=hK _ _ hf;exact⟨0,0,ch,tx,h1,⟨by omega,by omega,λe=>by omega,λe=>by omega⟩,h2,h3⟩
 obtain⟨lo,hi,ch,tx,h1,⟨a1,a2,a3,a4⟩,h2,h3⟩:=all;obtain⟨b1,b2,b3,b4,b5,b6,b7⟩:=key _ _ _ _ h1;have hs:∀ l:List Int,sD l c.kind=l.contains c.kind:=by
  intro l;unfold sD Vs;have:∀(l:List Int) (i:Nat),decide (0<=eU (λx=>decide (c.kind=x)) i l)=l.contains c.kind:=by
   intro l;induction l with
   |nil=>intro i;rfl
   |cons a r ih=>
    intro i;unfold eU;rw[List.contains_cons];by_cases e:c.kind=a
    ·simp[e]
    ·simp only[e,decide_false,bz,ih];simp[e]
  exact this l 0
 rw[hs]at b4 b5 b6 b7;have w4:=hw b4;have w5:=hw b5;have w6:=hw b6;have w7:=hw b7;refine⟨?_,?_,?_,?_,⟨by omega,by omega,λe=>by have:=a3 e;omega,λe=>by have:=a4 e;omega⟩,h2 b2,h3 b3⟩
 ·by_cases e:c.kind=8
  ·have:=w4.2 (by simp[e]);omega
  ·have:=w4.1 (by simp[e]);omega
 ·by_cases e:c.kind=1\/c.kind=8
  ·have:=w5.2 (by obtain e|e:=e <;> simp[e]);omega
  ·have:=w5.1 (by simp only[not_or]at e;simp[e.1,e.2]);omega
 ·by_cases e:c.kind=2\/c.kind=3\/c.kind=4
  ·have:=w6.1 (by obtain e|e|e:=e <;> simp[e]);omega
  ·have:=w6.2 (by simp only[not_or]at e;simp[e.1,e.2.1,e.2.2]);omega
 ·rcases hb:[5,7,9,10,11].contains c.kind with _|_
  ·have:=w7.2 hb;omega
  ·have:=w7.1 hb;omega
def anY(n:Nat)(g:Nat->Nat->D)(hn:n<=1000000):af 129 [.d (.sl n 4 g)] e0 (λrv rt=>rv=(.row 0 n)/\rt=⟨[(0,.row 54 4 n (λj k=>.d (g j k)))],1⟩):=by
 refine ay func129 λX=>?_
 (repeat'(first|refine rQ 2 54 (λj k=>.d (g j k)) rfl rfl qN (T.ret ?_)|refine aC ?_|refine aj.mk (λh=>?_) (λh=>?_)|refine ag.a ?_|refine wz.mk (λt ht=>?_)|refine bM qN qN (vq (ah (V.row 0) ?_) qN) ⟨⟨nb rfl,aW.row ?_ (λj hj k hk=>dR ?_)⟩,tv⟩|refine ag.mk ?_ ?_))<;>try exact cls
 all_goals(exact(ht aG).symm)
def anZ(n:Nat)(g:Nat->Nat->D)(hn:n<=1000000):af 130 [.d (.sl n 2 g)] e0 (λrv rt=>rv=(.row 0 n)/\rt=⟨[(0,.row 97 2 n (λj k=>.d (g j k)))],1⟩):=by
 refine ay func130 λX=>?_
 (repeat'(first|refine rQ 2 97 (λj k=>.d (g j k)) rfl rfl qN (T.ret ?_)|refine aC ?_|refine aj.mk (λh=>?_) (λh=>?_)|refine ag.a ?_|refine wz.mk (λt ht=>?_)|refine bM qN qN (vq (ah (V.row 0) ?_) qN) ⟨⟨nb rfl,aW.row ?_ (λj hj k hk=>dR ?_)⟩,tv⟩|refine ag.mk ?_ ?_))<;>try exact cls
 all_goals(exact(ht aG).symm)
def an0(n:Nat)(g:Nat->Nat->D)(hn:n<=1000000):af 131 [.d (.sl n 5 g)] e0 (λrv rt=>rv=(.row 0 n)/\rt=⟨[(0,.row 71 5 n (λj k=>.d (g j k)))],1⟩):=by
 refine ay func131 λX=>?_
 (repeat'(first|refine rQ 2 71 (λj k=>.d (g j k)) rfl rfl qN (T.ret ?_)|refine aC ?_|refine aj.mk (λh=>?_) (λh=>?_)|refine ag.a ?_|refine wz.mk (λt ht=>?_)|refine bM qN qN (vq (ah (V.row 0) ?_) qN) ⟨⟨nb rfl,aW.row ?_ (λj hj k hk=>dR ?_)⟩,tv⟩|refine ag.mk ?_ ?_))<;>try exact cls
 all_goals(exact(ht aG).symm)
def an1(n:Nat)(g:Nat->Nat->D)(hn:n<=1000000):af 182 [.d (.sl n 2 g)] e0 (λrv rt=>rv=(.row 0 n)/\rt=⟨[(0,.row 50 2 n (λj k=>.d (g j k)))],1⟩):=by
 refine ay func182 λX=>?_
 (repeat'(first|refine rQ 2 50 (λj k=>.d (g j k)) rfl rfl qN (T.ret ?_)|refine aC ?_|refine aj.mk (λh=>?_) (λh=>?_)|refine ag.a ?_|refine wz.mk (λt ht=>?_)|refine bM qN qN (vq (ah (V.row 0) ?_) qN) ⟨⟨nb rfl,aW.row ?_ (λj hj k hk=>dR ?_)⟩,tv⟩|refine ag.mk ?_ ?_))<;>try exact cls
 all_goals(exact(ht aG).symm)
def oH(t:Nat->Int)(l:List Int):Nat->Int:=λk=>t k+(l.countP (λn=>decide (n=(k:Int)/\1<=n/\n<=64)):Nat)
def awd:Nat->Int:=λ_=>0
def jW(l:List eH):Nat->Int:=l.foldl (λt x=>oH t x.chunks) awd
def ajg(t:Nat->Int):oH t []=t:=by funext k;simp[oH]
def QO(t:Nat->Int)(l:List Int)(n:Int)(k:Nat):oH t (l++[n]) k=oH t l k+(if n=(k:Int)/\1<=n/\n<=64 then 1 else 0):=by
 unfold oH;rw[List.countP_append,List.countP_singleton];by_cases h:n=(k:Int)/\1<=n/\n<=64
 ·rw[if_pos h,if_pos (aX h)];omega
 ·rw[if_neg h,if_neg (by simpa using h)];omega
def Xa(t:Nat->Int)(l:List Int)(k:Nat):t k<=oH t l k/\oH t l k<=t k+l.length:=by
 unfold oH;have:=List.countP_le_length (p:=λn:Int=>decide (n=(k:Int)/\1<=n/\n<=64)) (l:=l);omega
def aua{g h:Nat->V}{off k:Nat}:oK g off 1 h k=if k=off then h 0 else g k:=by
 unfold oK;by_cases e:k=off
 ·subst e;rw[if_pos rfl,show Nat.ble k k=true from Nat.ble_eq_true_of_le (bF _),show Nat.blt k (k+1)=true from by rw[Nat.blt_eq];omega,Nat.sub_self];rfl
 ·rw[if_neg e];have:(Nat.ble off k&&Nat.blt k (off+1))=false:=Bool.eq_false_iff.2 λh=>by
   obtain⟨h1,h2⟩:=kZ h;have:=nb h1;have:=mX h2;omega
  rw[this];rfl
def ast{t:Nat->Int}{l:List Int}{i off k:Nat}{v:Nat->V}(hi:i<l.length)(h1:1<=l.getD i 0)(h2:l.getD i 0<=64)(ho:off=(l.getD i 0).toNat)(hv:v 0=iV (oH t (l.take i) (l.getD i 0).toNat+1)):oK (λk=>iV (oH t (l.take i) k)) off 1 v k=iV (oH t (l.take (i+1)) k):=by
 rw[aua,kR 0 hi,QO];split
 ·rename_i e
  rw[hv,if_pos ⟨by omega,h1,h2⟩,e,ho]
 ·rw[if_neg qO];simp
def aoU{t:Nat->Int}{l:List Int}{i k:Nat}(hi:i<l.length)(h:(bif decide (1<=l.getD i 0) then decide (l.getD i 0<=64) else false)=false):oH t (l.take i) k=oH t (l.take (i+1)) k:=by
 rw[kR 0 hi,QO,if_neg]
 ·simp
 ·rintro⟨_,h1,h2⟩;rw[aX h1,aX h2]at h;cases h
def aeG{n:Int}(h:(bif decide (1<=n) then decide (n<=64) else false)=true):1<=n/\n<=64:=by
 by_cases h1:1<=n
 ·rw[aX h1]at h;exact⟨h1,bT h⟩
 ·rw[aT h1]at h;cases h
def adt(t:Nat->Int)(l:List Int)(hn:l.length<=100000)(ht:∀ k,k<65->0<=t k/\t k<=1000000000):af 318 [.ptr 0 0,.d (iR l)] ⟨[(0,.Wp 65 (λk=>iV (t k)))],1⟩ (λrv rt=>rv = .top/\rt=⟨[(0,.Wp 65 (λk=>iV (oH t l k)))],1⟩):=by
 refine ay func318 λX=>?_
 (repeat'(first|refine aC ?_|refine bU 4 [8] (ooz 8 [o1]) ?_|refine mc ?_ ?_|refine dU l.length (λi (a:Unit)=>⟨27,[(0,.ptr 0 0),(6,.d (iR l)),(7,iV l.length),(8,iV i)],⟨[(0,.Wp 65 (λk=>iV (oH t (l.take i) k)))],1⟩⟩) (λi a=>i<=l.length) () ?_ ?_ (λi a hi hp=>?_)|refine aZ () ⟨?_,?_,?_⟩|refine aj.mk (λh=>?_) (λh=>?_)|refine ag.a ?_|refine bM qN qN VW.top ⟨⟨nb rfl,fB rfl (λk hk=>dR ?_)⟩,tv⟩|refine ag.mk ?_ ?_))<;>(try(refine dm.mk ?_;repeat'(first|exact tv|exact rfl|refine an ?_ ?_|refine ag.mk ?_ ?_)))
 all_goals try exact cls
 all_goals(try(refine leq ?_ ?_ <;> repeat'(first|exact tv|exact qV|exact qW|refine jQ qN (λk hk=>?_) ?_|refine an ?_ ?_)))
 all_goals first|(refine cm (vq (ah iV ?_) tv);simp[oH];done)|(refine cm (vq ?_ trivial);have h9:i<l.length:=om;have hb:=aeG h;exact ast h9 hb.1 hb.2 (by show 0+(l.getD i 0).toNat*1=_;omega) (by show iV (oH t (l.take i) (0+(l.getD i 0).toNat*1)+1)=_;rw[show 0+(l.getD i 0).toNat*1=(l.getD i 0).toNat by omega]))|(refine cm (vq (ah iV ?_) tv);have h9:i<l.length:=om;exact aoU h9 ‹_›)|(have h9:=bV h;have e:i=l.length:=qo;subst e;refine cm (vq (ah iV ?_) tv);rw[mM];done)|(have hb:=aeG h;have hi9:=bT ‹decide ((i:Int)<(l.length:Int))=true›;simp only[jg]at *;first|omega|(show 0+(l.getD i 0).toNat*1+1<=65;omega)|(show l.getD i 0<((65:Nat):Int);omega)|(have hq:=ht (l.getD i 0).toNat qo;have hw:=Xa t (l.take i) (l.getD i 0).toNat;rw[dG]at hw;simp only[dM];show _<=oH t (l.take i) (0+(l.getD i 0).toNat*1)+1;rw[show 0+(l.getD i 0).toNat*1=(l.getD i 0).toNat by omega];omega)|(have hq:=ht (l.getD i 0).toNat qo;have hw:=Xa t (l.take i) (l.getD i 0).toNat;rw[dG]at hw;simp only[dM];show oH t (l.take i) (0+(l.getD i 0).toNat*1)+1<=_;rw[show 0+(l.getD i 0).toNat*1=(l.getD i 0).toNat by omega];omega))|exact sN
def ag7{g h:Nat->V}{m k:Nat}(hk:k<m):oK g 0 m h (0+k)=h k:=by
 unfold oK;rw[show Nat.ble 0 (0+k)=true from Nat.ble_eq_true_of_le (cZ _),show Nat.blt (0+k) (0+m)=true from by rw[Nat.blt_eq];omega,Nat.sub_zero,jq];rfl
def aoB:(tI 352).zero=List.replicate 65 (iV 0):=rfl
def ajT{k:Nat}(h:k<65):iM 352 k=iV 0:=by
 unfold iM;rw[aoB,bn,List.getElem?_replicate,if_pos h];rfl
structure uS (l:List eH):Prop where
 len:l.length<=100
 ch:∀ i,i<l.length->(l.getD i .z).chunks.length<=1000
def Wy{l:List eH}{i:Nat}(h:i<l.length):jW (l.take (i+1))=oH (jW (l.take i)) (l.getD i .z).chunks:=by
 unfold jW;rw[kR .z h,List.foldl_append];rfl
def XJ{l:List eH}(h:uS l):∀ i,i<=l.length->∀ k,0<=jW (l.take i) k/\jW (l.take i) k<=1000*i:=by
 intro i;induction i with
 |zero=>intro _ k;rw[List.take_zero];exact⟨dL _,dL _⟩
 |succ i ih=>
  intro hi k;have h1:=ih qO k;have h2:=Xa (jW (l.take i)) (l.getD i .z).chunks k;have h3:=h.ch i qO;rw[Wy qO];omega
def ahP(t:Nat->Int):V:=.agg 65 (λk=>iV (t k))
def DC(p:Int->Bool):List Int:=((List.range 64).map (λk:Nat=>(k:Int)+1)).filter p
def qL(p:Int->Bool)(i:Nat):List Int:=((List.range i).map (λk:Nat=>(k:Int)+1)).filter p
def Nk(p:Int->Bool)(i:Nat):qL p (i+1)=if p ((i:Int)+1)=true then qL p i++[(i:Int)+1] else qL p i:=by
 unfold qL;rw[List.range_succ,List.map_append,List.filter_append];cases h:p ((i:Int)+1) <;> simp[h]
def Tc(p:Int->Bool)(i:Nat):(qL p i).length<=i:=by
 unfold qL;have:=List.length_filter_le p ((List.range i).map (λk:Nat=>(k:Int)+1));simpa using this
def TQ(l:List eH)(hl:uS l):aQ 306 [.d (jO l)] (ahP (jW l)):=by
 refine ay func306 λX=>?_
 (repeat'(first|refine aC ?_|refine dU l.length (λi (a:Unit)=>⟨17,[(2,.ptr 0 0),(3,.ptr 1 0),(6,.d (jO l)),(7,iV l.length),(8,iV i)],⟨[(0,.Wp 65 (λ_=>.top)),(1,.Wp 65 (λk=>iV (jW (l.take i) k)))],2⟩⟩) (λi a=>i<=l.length) () ?_ ?_ (λi a hi hp=>?_)|refine aZ () ⟨?_,?_,?_⟩|refine nZ [1] (adt (jW (l.take i)) (l.getD i .z).chunks (by have:=hl.ch i om;omega) (λk hk=>by have:=XJ hl i hi k;have:=hl.len;omega)) rfl rfl rfl vw ⟨⟨_,rfl,fB rfl fv⟩,tv⟩ ?_|refine aj.mk (λh=>?_) (λh=>?_)|refine ag.a ?_|refine Fin.tell (VW.agg (λk hk=>dR ?_))|refine ag.mk ?_ ?_))<;>try exact cls
 all_goals(try(refine leq ?_ ?_ <;> repeat'(first|exact tv|exact qV|exact qW|refine jQ qN (λk hk=>?_) ?_|refine an ?_ ?_)))
 all_goals first|exact cm qV|(exact cm VW.top)|(refine cm (vq (ajT hk) tv);done)|(refine cm (vq (ah iV ?_) tv);have h9:i<l.length:=om;rw[Wy h9];done)|(have h9:=bV h;have e:i=l.length:=qo;subst e;refine cm (vq ?_ trivial);rw[ag7 hk];simp only[jq,mM];done)|(have:=hl.len;simp only[dM];(try simp only[gq,iy,nY,o9]at *);omega)|exact sN
def aoL(t:Nat->Int)(n:Int)(h1:1<=n/\n<=64):af 320 [iV n,.ptr 0 0] ⟨[(0,.Wp 65 (λk=>iV (t k)))],1⟩ (λrv rt=>rv=(.b (decide (0<t n.toNat)))/\rt=⟨[(0,.Wp 65 (λk=>iV (t k)))],1⟩):=by
 refine ay func320 λX=>?_
 (repeat'(first|refine aC ?_|refine uh qN (vq (ah V.b ?_) tv) ⟨⟨nb rfl,fB rfl fv⟩,tv⟩|refine ag.mk ?_ ?_))<;>try exact cls
 all_goals first|(show 0+n.toNat*1<65;omega)|(show 0<=n/\n<((65:Nat):Int);omega)|(show decide (0<t (0+n.toNat*1))=_;rw[show 0+n.toNat*1=n.toNat by omega])
def anh(t u:Nat->Int)(n:Int)(h1:1<=n/\n<=64):af 321 [iV n,.ptr 0 0,.ptr 1 0] ⟨[(0,.Wp 65 (λk=>iV (t k))),(1,.Wp 65 (λk=>iV (u k)))],2⟩ (λrv rt=>rv=(.b (bif decide (0<t n.toNat) then decide (u n.toNat=0) else false))/\rt=⟨[(0,.Wp 65 (λk=>iV (t k))),(1,.Wp 65 (λk=>iV (u k)))],2⟩):=by
 refine ay func321 λX=>?_
 (repeat'(first|refine aC ?_|refine ag.a ?_|refine uh qN (vq (ah V.b ?_) tv) ⟨⟨nb rfl,fB rfl fv⟩,⟨nb rfl,fB rfl fv⟩,tv⟩|refine ag.mk ?_ ?_))<;>try exact cls
 all_goals first|(intro _;show 0+n.toNat*1<65;omega)|(show 0+n.toNat*1<65;omega)|(show 0<=n/\n<((65:Nat):Int);omega)|(intro _;show 0<=n/\n<((65:Nat):Int);omega)|(show(bif decide (0<t (0+n.toNat*1)) then decide (u (0+n.toNat*1)=0) else false)=_;rw[show 0+n.toNat*1=n.toNat by omega])
def aeV{p:Int->Bool}{i:Nat}(h:p ((i+1:Nat):Int)=true):qL p (i+1)=qL p i++[((i+1:Nat):Int)]:=by
 have e:((i+1:Nat):Int)=(i:Int)+1:=qO;rw[e]at h ⊢;rw[Nk,if_pos h]
def agh{p:Int->Bool}{i:Nat}(h:p ((i+1:Nat):Int)=false):qL p (i+1)=qL p i:=by
 have e:((i+1:Nat):Int)=(i:Int)+1:=qO;rw[e]at h;rw[Nk,if_neg (by rw[h];decide)]
def alG(t:Nat->Int):af 319 [.fn 320 0 1 (λk=>.ptr k 0)] ⟨[(0,.Wp 65 (λk=>iV (t k)))],1⟩ (λrv rt=>rv=(.d (iR (DC (λn=>decide (0<t n.toNat)))))/\rt=⟨[(0,.Wp 65 (λk=>iV (t k)))],1⟩):=by
 refine ay func319 λX=>?_
 (repeat'(first|refine aC ?_|refine rQ 3 3 (λj _=>.d (iD (([]:List Int).getD j 0))) rfl rfl qN (dU 64 (λi (a:List Int)=>⟨17,[(0,.fn 320 0 1 (λk=>.ptr k 0)),(3,.row 1 a.length),(4,iV ((i+1:Nat):Int))],⟨[(0,.Wp 65 (λk=>iV (t k))),(1,bQ 3 1 (λn _=>iD n) 0 a)],2⟩⟩) (λi a=>a=qL (λn=>decide (0<t n.toNat)) i) [] ?_ ?_ (λi a hi hp=>?_))|refine Fp [0] (aoL t ((i+1:Nat):Int) (by have:=bT ‹decide (((i+1:Nat):Int)<=64)=true›;omega)) rfl rfl rfl vw ⟨⟨_,rfl,fB rfl fv⟩,tv⟩ ⟨rfl,tv⟩ ?_|refine aj.mk (λh=>?_) (λh=>?_)|refine ag.a ?_|refine Yt (C:=λn _=>iD n) (z:=0) (DC (λn=>decide (0<t n.toNat))) qN rfl ?_ ?_ ?_ qN qN ⟨⟨nb rfl,fB rfl fv⟩,tv⟩|refine ag.mk ?_ ?_))<;>try exact cls
 all_goals(try(refine leq ?_ ?_ <;> repeat'(first|exact tv|exact qV|exact qW|refine gX ?_|refine jQ qN (λk hk=>?_) ?_|refine an ⟨nb rfl,aW.row ?_ (λj hj k hk=>vq ?_ trivial)⟩ ?_|refine an ?_ ?_)))
 all_goals first|exact cm qV|(simp[qL];done)|(have e:a=DC (λn=>decide (0<t n.toNat)):=(by have h9:=bV h;rw[hp];have e2:i=64:=qo;rw[e2];rfl);subst e;first|rfl|exact λj hj k hk=>rfl)|(have:=Tc (λn=>decide (0<t n.toNat)) i;rw[<-hp]at this;(omega))|(refine aZ (a++[((i+1:Nat):Int)]) ⟨by(try simp only[gq]at *);omega,(by rw[hp];exact(aeV h).symm),?_⟩;(refine leq ?_ ?_ <;> repeat'(first|exact tv|exact qV|exact qW|refine vq (ah (V.row _) ?_) qN|refine gX ?_|refine jQ qN (λk hk=>?_) ?_|refine an ⟨nb rfl,aW.row ?_ (λj hj k hk=>vq ?_ trivial)⟩ ?_|refine an ?_ ?_));all_goals first|exact cm qV|(simp;done)|(obtain rfl:k=0:=qo;exact Ak (C:=λn _=>iD n) (z:=0) (b:=[((i+1:Nat):Int)]) rfl hj fr (λj hj=>by obtain rfl:j=0:=(by simpa using hj);rfl));done)|(refine aZ a ⟨by(try simp only[gq]at *);omega,(hp.trans (agh h).symm),?_⟩;(refine leq ?_ ?_ <;> repeat'(first|exact tv|exact qV|exact qW|refine gX ?_|refine jQ qN (λk hk=>?_) ?_|refine an ⟨nb rfl,aW.row ?_ (λj hj k hk=>vq ?_ trivial)⟩ ?_|refine an ?_ ?_));all_goals first|exact cm qV|exact rfl;done)
def alH(t u:Nat->Int):af 319 [.fn 321 0 2 (λk=>.ptr k 0)] ⟨[(0,.Wp 65 (λk=>iV (t k))),(1,.Wp 65 (λk=>iV (u k)))],2⟩ (λrv rt=>rv=(.d (iR (DC (λn=>bif decide (0<t n.toNat) then decide (u n.toNat=0) else false))))/\rt=⟨[(0,.Wp 65 (λk=>iV (t k))),(1,.Wp 65 (λk=>iV (u k)))],2⟩):=by
 refine ay func319 λX=>?_
 (repeat'(first|refine aC ?_|refine rQ 3 3 (λj _=>.d (iD (([]:List Int).getD j 0))) rfl rfl qN (dU 64 (λi (a:List Int)=>⟨17,[(0,.fn 321 0 2 (λk=>.ptr k 0)),(3,.row 2 a.length),(4,iV ((i+1:Nat):Int))],⟨[(0,.Wp 65 (λk=>iV (t k))),(1,.Wp 65 (λk=>iV (u k))),(2,bQ 3 1 (λn _=>iD n) 0 a)],3⟩⟩) (λi a=>a=qL (λn=>bif decide (0<t n.toNat) then decide (u n.toNat=0) else false) i) [] ?_ ?_ (λi a hi hp=>?_))|refine Fp [0,1] (anh t u ((i+1:Nat):Int) (by have:=bT ‹decide (((i+1:Nat):Int)<=64)=true›;omega)) rfl rfl rfl vw ⟨⟨_,rfl,fB rfl fv⟩,⟨_,rfl,fB rfl fv⟩,tv⟩ ⟨rfl,rfl,tv⟩ ?_|refine aj.mk (λh=>?_) (λh=>?_)|refine ag.a ?_|refine Yt (C:=λn _=>iD n) (z:=0) (DC (λn=>bif decide (0<t n.toNat) then decide (u n.toNat=0) else false)) qN rfl ?_ ?_ ?_ qN qN ⟨⟨nb rfl,fB rfl fv⟩,⟨nb rfl,fB rfl fv⟩,tv⟩|refine ag.mk ?_ ?_))<;>try exact cls
 all_goals(try(refine leq ?_ ?_ <;> repeat'(first|exact tv|exact qV|exact qW|refine gX ?_|refine jQ qN (λk hk=>?_) ?_|refine an ⟨nb rfl,aW.row ?_ (λj hj k hk=>vq ?_ trivial)⟩ ?_|refine an ?_ ?_)))
 all_goals first|exact cm qV|(simp[qL];done)|(have e:a=DC (λn=>bif decide (0<t n.toNat) then decide (u n.toNat=0) else false):=(by have h9:=bV h;rw[hp];have e2:i=64:=qo;rw[e2];rfl);subst e;first|rfl|exact λj hj k hk=>rfl)|(have:=Tc (λn=>bif decide (0<t n.toNat) then decide (u n.toNat=0) else false) i;rw[<-hp]at this;(omega))|(refine aZ (a++[((i+1:Nat):Int)]) ⟨by(try simp only[gq]at *);omega,(by rw[hp];exact(aeV h).symm),?_⟩;(refine leq ?_ ?_ <;> repeat'(first|exact tv|exact qV|exact qW|refine vq (ah (V.row _) ?_) qN|refine gX ?_|refine jQ qN (λk hk=>?_) ?_|refine an ⟨nb rfl,aW.row ?_ (λj hj k hk=>vq ?_ trivial)⟩ ?_|refine an ?_ ?_));all_goals first|exact cm qV|(simp;done)|(obtain rfl:k=0:=qo;exact Ak (C:=λn _=>iD n) (z:=0) (b:=[((i+1:Nat):Int)]) rfl hj fr (λj hj=>by obtain rfl:j=0:=(by simpa using hj);rfl));done)|(refine aZ a ⟨by(try simp only[gq]at *);omega,(hp.trans (agh h).symm),?_⟩;(refine leq ?_ ?_ <;> repeat'(first|exact tv|exact qV|exact qW|refine gX ?_|refine jQ qN (λk hk=>?_) ?_|refine an ⟨nb rfl,aW.row ?_ (λj hj k hk=>vq ?_ trivial)⟩ ?_|refine an ?_ ?_));all_goals first|exact cm qV|exact rfl;done)
