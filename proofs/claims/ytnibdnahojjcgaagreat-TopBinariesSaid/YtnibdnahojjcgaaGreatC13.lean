/- Lemmas. -/
import Derived.RangeFuncFrom
import Derived.RangeFuncLeaves
import Derived.Test.YtnibdnahojjcgaaGreatC06
import Derived.Test.YtnibdnahojjcgaaGreatC09
namespace Go.Proofs.YtnibdnahojjcgaaGreat
set_option linter.all false
set_option maxRecDepth 100000
set_option maxHeartbeats 0
open Go.RowKit Tryz
section
abbrev MK(l:Nat):Fence:=Fence.wide.inRound l
def O9:List Oper->Bool
 |[]=>true
 |o::r=>(match o.op with|.defer _=>false|_=>true)&&O9 r
def afC:∀ {l:List Oper},O9 l=true->∀ o∈l,∀ c,o.op ≠ .defer c
 |[],_,o,ho=>by cases ho
 |x::r,h,o,ho=>λc e=>by
  have h:=Bool.and_eq_true_iff.1 (show(_&&O9 r)=true from h);obtain rfl|ho:=List.mem_cons.1 ho
  ·have h1:=h.1;rw[e]at h1;cases h1
  ·exact afC h.2 o ho c e
def auy{l n:Nat}{row:String}{args:Array Value}{w:World}{R:Value->World->Prop}(h:Rows prog row args w R):RowsIn (MK l) n prog row args w R:=λc cs _=>
 let ⟨v,w',r,s⟩:=h c cs
 ⟨v,w',r,stepsIn_wide.2 s⟩
def opR{l n:Nat}{o:Oper}{a:Act}{w:World}{K:Act->World->Prop}{Q:Exit->Act->World->Prop}(h:o.wp prog a w K Q)(hnd:∀ c,o.op ≠ .defer c):o.wpIn (MK l) n prog a w K Q:=by
 refine⟨λf _=>trivial,?_⟩;rw[Oper.semAt_eq _ _ _ hnd];unfold Oper.wp at h;generalize (execOp a.eval o).run prog w=r at h ⊢;cases r with
 |ok x w'=>
  cases x with
  |value v=>exact h
  |skip=>exact h
  |defer d=>exact h
  |enter f args=>exact⟨λe=>(by cases e),callsIn_wide.2 h⟩
  |row q args=>exact⟨λe=>(by cases e),auy h⟩
  |_=>exact h.elim
 |halt x w'=>
  cases x with
  |panic v=>exact h
  |_=>exact h.elim
section
variable {t0:ST} {X:Cx t0} {Q:Exit->AS->Prop} {s s2:AS} {l:Nat}
def awD{ops:Array Oper}(hnd:O9 ops.toList=true):∀(L:List Nat) (a:Act) (w:World),wpOps prog ops (QN X (Q .normal)) L a w->wpOpsIn (MK l) 0 prog ops (λe a' w'=>∃ s',Q e s'/\Mod X s' a' w') L a w:=by
 intro L;induction L with
 |nil=>intro a w h;obtain⟨e,s',h1,h2⟩:=h;exact⟨s',h1,h2⟩
 |cons i L ih=>
  intro a w h;unfold wpOps at h;unfold wpOpsIn;split at h
  ·rename_i ho
   rw[ho];exact ih a w h
  ·rename_i o ho
   rw[ho];simp only;split at h
   ·rename_i hw
    rw[if_pos hw];obtain h|⟨_,a0,w0,h⟩:=h
    ·refine opR (y8 h (λa w h=>ih a w h) (λe a w h=>?_)) (afC hnd o (vK (by rw[qP];exact ho)));obtain⟨rfl,s',h1,h2⟩:=h;exact⟨s',h1,h2⟩
    ·exact ai h.1 (by intro e;cases e)
   ·rename_i hw
    rw[if_neg hw];exact⟨λf _=>trivial,ih _ w h⟩
@[irreducible] def TR {t0:ST} (X:Cx t0) (l:Nat) (c:Code) (Q:Exit->AS->Prop) (s:AS):Prop:=
 ∀ a w,Mod X s a w->c.wpIn (MK l) 0 prog (λe a' w'=>∃ s',Q e s'/\Mod X s' a' w') a w
def TR.h{c:Code}(h:TR X l c Q s):∀ a w,Mod X s a w->c.wpIn (MK l) 0 prog (λe a' w'=>∃ s',Q e s'/\Mod X s' a' w') a w:=by unfold TR at h;exact h
def TR.mk{c:Code}(h:∀ a w,Mod X s a w->c.wpIn (MK l) 0 prog (λe a' w'=>∃ s',Q e s'/\Mod X s' a' w') a w):TR X l c Q s:=by unfold TR;exact h
def TR.skip(h:Q .normal s):TR X l .skip Q s:=TR.mk λa w hm=>wpIn_skip ⟨s,h,hm⟩
def TR.seq{x y:Code}(h:TR X l x (KL (TR X l y Q) Q) s):TR X l (.seq x y) Q s:=TR.mk λa w hm=>by
 refine wpIn_seq (wpIn_mono (h.h a w hm) λe a w ⟨s',h1,h2⟩=>?_);cases e with
 |normal=>exact TR.h h1 a w h2
 |_=>exact⟨s',h1,h2⟩
def TR.cond{c:Operand}{x y:Code}(h:Pv s c λt=>aj t (TR X l x Q s) (TR X l y Q s)):TR X l (.cond c x y) Q s:=TR.mk λa w hm=>by
 unfold Pv at h;split at h
 ·rename_i t ht
  obtain⟨G,hg,hs,hx⟩:=hm;have hc:=hs.ev c;rw[ht]at hc;have hc:a.eval c = .bool t:=hc;exact wpIn_cond_split hc (λe=>(h.h.1 e).h a w ⟨G,hg,hs,hx⟩) (λe=>(h.h.2 e).h a w ⟨G,hg,hs,hx⟩)
 ·exact h.elim
def TR.block{id:Nat}{c:Code}(h:TR X l c (ZU id Q) s):TR X l (.block id c) Q s:=TR.mk λa w hm=>by
 refine wpIn_block (wpIn_mono (h.h a w hm) λe a w ⟨s',h1,h2⟩=>?_);cases e with
 |exit i=>
  have h1:_root_.cond (Nat.beq i id) (Q .normal s') (Q (.exit i) s'):=h1;show if i=id then _ else _
  rcases hb:Nat.beq i id with _|_
  ·rw[hb]at h1;rw[if_neg (λe=>by subst e;simp at hb)];exact⟨s',h1,h2⟩
  ·rw[hb]at h1;rw[if_pos (dJ hb)];exact⟨s',h1,h2⟩
 |_=>exact⟨s',h1,h2⟩
def TR.region{id:Nat}{ops:Array Oper}(hnd:O9 ops.toList=true)(h:uy af ops.toList ops.toList s (Q .normal)):TR X l (.region id ops false) Q s:=TR.mk λa w hm=>by
 have h1:=BJ (X:=X) ops ops.toList 0 rfl s a w _ h hm;rw[<-List.range_eq_range',rO]at h1;exact wpIn_region (awD hnd _ a w h1)
end
section
variable {G G':Gh} {o o':Nat->aK} {w w':World}
def aY.side(hs:w.heap.size<=w'.heap.size)(hk:∀ b,G.F b->b<w.heap.size->w'.heap[b]?=w.heap[b]?){v:V}:∀ {u:Value},aY G o w v u->aY G o w' v u:=by
 induction v with
 |top=>exact λ_=>trivial
 |d x=>intro u hd;exact hd.mono hs hk (λ_ h _=>h)
 |dC=>exact λh=>h
 |dp s g=>
  rintro u ⟨b,off,rfl,h1,h2⟩;refine⟨b,off,rfl,λhs'=>⟨(h1 hs').1,sV (h1 hs').2 hs⟩,λk hk'=>?_⟩;obtain⟨x,hx,ho,hd⟩:=h2 k hk';exact⟨x,(World.cell?_of_block (a:=⟨b,off+k,none⟩) (hk b (h1 qO).1 (h1 qO).2)).trans hx,ho,hd.mono hs hk (λ_ h _=>h)⟩
 |ptr i off=>exact λh=>h
 |rp i n j c=>exact λh=>h
 |row i n=>exact λh=>h
 |vw i n lo m=>exact λh=>h
 |agg n g ih=>
  rintro u ⟨cs,rfl,hn,hc⟩;exact⟨cs,rfl,hn,λk x hx=>⟨(hc k x hx).1,ih k (hc k x hx).2⟩⟩
 |gQ n g ih=>
  rintro u ⟨cs,rfl,hn,hc⟩;exact⟨cs,rfl,hn,λk x hx=>ih k (hc k x hx)⟩
 |fn f nf n g ih=>
  rintro u ⟨fs,cs,rfl,hn,hm,hc⟩;exact⟨fs,cs,rfl,hn,hm,λk x hx=>ih k (hc k x hx)⟩
 |mp i=>exact λh=>h
 |kQ t w' x ih=>intro u hu;exact⟨λe=>ih (hu.1 e),hu.2⟩
def Good.side(hg:Good G o w)(hs:w.heap.size<=w'.heap.size)(hk:∀ b,(G.F b\/∃ i,dB G o i b)->w'.heap[b]?=w.heap[b]?):Good G o w':=by
 have hv:∀ {v:V} {u:Value},aY G o w v u->aY G o w' v u:=λh=>aY.side hs (λb hb _=>hk b (.inl hb)) h
 refine { Wp:=?_,row:=?_,map:=?_,xP:=hg.xP,wF:=λb hb=>sV (hg.wF b hb) hs,sep:=hg.sep }
 ·intro i n g ho;obtain⟨b,cs,t,h1,h2,h3,h4⟩:=hg.Wp i n g ho;refine⟨b,cs,t,h1,(hk b (.inr ⟨i,?_⟩)).trans h2,h3,λk x hx=>⟨(h4 k x hx).1,hv (h4 k x hx).2⟩⟩;unfold dB;rw[ho];exact h1
 ·intro i E s n g ho;obtain⟨h1,h2,h3,A,c,h4,h5⟩:=hg.row i E s n g ho;refine⟨h1,h2,h3,A,c,h4,?_⟩;obtain h5|⟨hc,b,cs,rfl,h6,h7,h8,h9,h10⟩:=h5
  ·exact .inl h5
  ·refine .inr ⟨hc,b,cs,rfl,(hk b (.inr ⟨i,?_⟩)).trans h6,h7,h8,h9,λj hj k hk'=>?_⟩
   ·unfold dB;rw[ho];exact⟨_,c,h4,hc,0,rfl⟩
   ·obtain⟨x,hx,Bz,DN⟩:=h10 j hj k hk';exact⟨x,hx,Bz,hv DN⟩
 ·intro i es ho;obtain⟨b,jF,cl,h1,h2,h3⟩:=hg.map i es ho;refine⟨b,jF,cl,h1,(hk b (.inr ⟨i,?_⟩)).trans h2,h3.to λk=>?_⟩
  ·unfold dB;rw[ho];exact h1
  ·cases dY es k
   ·trivial
   ·exact λu hu=>hv hu
def bZ.side{t:ST}(hg:bZ G t w)(hs:w.heap.size<=w'.heap.size)(hk:∀ b,(G.F b\/∃ i,dB G t.get i b)->w'.heap[b]?=w.heap[b]?):bZ G t w':=⟨hg.axy.side hs hk,hg.jZ⟩
def bZ.putObj{t:ST}{l:Nat}{ob:Obj}(hg:bZ G t w)(hF:¬G.F l)(ho:∀ i,¬dB G t.get i l):bZ G t (w.putObj l ob):=by
 refine hg.side (by simp[World.putObj]) λb hb=>World.putObj_heap_other ?_
 rintro rfl;obtain hb|⟨i,hb⟩:=hb
 ·exact hF hb
 ·exact ho i hb
def bZ.alloc{t:ST}{ob:Obj}(hg:bZ G t w):bZ G t (w.alloc ob):=by
 refine hg.side (by simp) λb hb=>Below.heap_alloc w ob b ?_
 obtain hb|⟨i,hb⟩:=hb
 ·exact hg.axy.wF b hb
 ·exact hg.axy.lt hb
def Stp.alloc(ob:Obj):Stp G o w G o (w.alloc ob):=
 ⟨rfl,rfl,rfl,by simp,λb hb _=>Below.heap_alloc w ob b hb,λ_ h _=>h,λ_ h=>.inl h,λ_ _ h=>.inl h,λ_ _ h=>h,λ_ A c h=>⟨A,c,h,λ_ _ m g ho=>⟨m,g,ho,bF _,λ_=>⟨rfl,rfl⟩⟩⟩⟩
def Stp.putObj{l:Nat}(ob:Obj)(h:Stp G o w G' o' w')(hl:w.heap.size<=l):Stp G o w G' o' (w'.putObj l ob) where
 os:=h.os
 tape:=h.tape
 output:=h.output
 size:=by have:=h.size;simpa [World.putObj] using this
 axz:=λb hb hn=>(World.putObj_heap_other qO).trans (h.axz b hb hn)
 F1:=h.F1
 F2:=h.F2
 own:=h.own
 loc:=h.loc
 row:=h.row
def Stp.round{l:Nat}{ob ob':Obj}(hl:w.heap[l]?=some ob)(h:Stp G o (w.putObj l ob') G' o' w'):Stp G o w G' o' (w'.putObj l ob) where
 os:=h.os
 tape:=h.tape
 output:=h.output
 size:=by have:=h.size;simpa [World.putObj] using this
 axz:=λb hb hn=>by
  by_cases e:b=l
  ·subst e;have hlt:b<w'.heap.size:=sV (by simpa [World.putObj] using hb) h.size;rw[World.putObj_heap_same hlt,hl]
  ·exact(World.putObj_heap_other e).trans ((h.axz b (by simpa [World.putObj] using hb) hn).trans (World.putObj_heap_other e))
 F1:=λb hf hb=>h.F1 b hf (by simpa [World.putObj] using hb)
 F2:=λb hf=>by have:=h.F2 b hf;simpa [World.putObj] using this
 own:=λi b ho=>by have:=h.own i b ho;simpa [World.putObj] using this
 loc:=h.loc
 row:=h.row
end
end
def OW{t:ST}(X1:Cx t)(l:Nat)(enc:V)(t1 t2:ST):Prop:=
 ∀(G:Gh) (w:World) (u:Value),bZ G t1 w->Stp X1.G t.get X1.w G t1.get w->aY G t1.get w enc u ->
  YieldAt Fence.wide 0 prog l #[u] w λe w'=>e = .returned (.bool true)/\∃ G',bZ G' t2 w'/\Stp G t1.get w G' t2.get w'
def alC{t t1:ST}(X1:Cx t){s sA sE:AS}{a:Act}{r:Loop}{p l:Nat}{enc:V}(hst:s.s=t)(hs:oZ X1.G s a X1.w)(hp:p<s.nt)(hl:X1.w.heap[l]?=some (.loop r))(hF:¬X1.G.F l)(hO:∀ i,¬dB X1.G t.get i l)
  (hr:r.state = .ready) (hpe:r.pending=none) (htm:r.tmps=a.tmps) (ah7:r.params=#[p])
  (hass:∀ X2:Cx t1,X2.ds=[]->TR X2 l r.assign (λe s'=>e = .normal/\bf t1.nx s' sA) ⟨s.nt,(p,enc)::s.sl,t1⟩)
  (hbody:∀ X3:Cx sA.s,X3.ds=[]->TR X3 l r.body (λe s'=>e = .normal/\bf sA.s.nx s' sE) sA):OW X1 l enc t1 sE.s:=by
 intro G w u hg hx hu;have hlt1:l<X1.w.heap.size:=(Array.getElem?_eq_some_iff.1 hl).1;have hlw:w.heap[l]?=some (.loop r):=(hx.axz l hlt1 hO).trans hl;have hlt:l<w.heap.size:=(Array.getElem?_eq_some_iff.1 hlw).1;have hFw:¬G.F l:=λh=>by
  obtain h|h:=hx.F2 l h
  ·exact hF h
  ·omega
 have hOw:∀ i,¬dB G t1.get i l:=λi h=>by
  obtain h|h:=hx.own i l h
  ·exact hO i h
  ·omega
 have hy:=run_yield (P:=prog) (args:=#[u]) hlw (by rw[ah7];rfl);have ave:((r.params.zip #[u]).foldl (λtmps (t,a)=>tmps.setIfInBounds t a) r.tmps)=a.tmps.setIfInBounds p u:=by
  rw[ah7,htm];simp
 rw[ave]at hy;refine⟨r.fn,_,r.assign,r.body,hy,roundIn_of_wpIn trivial ?_⟩
 let X2:Cx t1:=⟨G,w,hg,[]⟩
 have hm2:Mod X2 ⟨s.nt,(p,enc)::s.sl,t1⟩ { tmps:=a.tmps.setIfInBounds p u,defers:=[] } w:=by
  refine⟨G,hg,⟨⟨?_,λj=>?_⟩,rfl⟩,Stp.refl _ _ _⟩
  ·show(a.tmps.setIfInBounds p u).size=s.nt;rw[Array.size_setIfInBounds];exact hs.nt
  ·show aY G t1.get w (bif Nat.beq p j then enc else dD s.sl j) ((a.tmps.setIfInBounds p u).getD j undef);by_cases e:p=j
   ·subst e;rw[Nat.beq_refl,dw];rw[show(a.tmps.setIfInBounds p u).getD p undef=u by
     rw[uJ,Array.getElem?_setIfInBounds_self,if_pos (by rw[hs.nt];exact hp)];rfl]
    exact hu
   ·rw[show Nat.beq p j=false by rcases hb:Nat.beq p j with _|_;rfl;exact ai (dJ hb) e,bz];rw[show(a.tmps.setIfInBounds p u).getD j undef=a.tmps.getD j undef by
     rw[uJ,Array.getElem?_setIfInBounds_ne e,<-uJ]]
    have h1:=hs.sl j;rw[hst]at h1;exact h1.dX hx X1.hg.axy
 refine wpIn_mono ((hass X2 rfl).h _ w hm2) ?_;rintro e a3 w3 ⟨s',⟨rfl,hle⟩,hm3⟩;obtain⟨Ga,hga,hsa,hxa⟩:=hm3.le hle;have hl3:w3.heap[l]?=some (.loop r):=(hxa.axz l hlt hOw).trans hlw;have hlt3:l<w3.heap.size:=(Array.getElem?_eq_some_iff.1 hl3).1;have hFa:¬Ga.F l:=λh=>by
  obtain h|h:=hxa.F2 l h
  ·exact hFw h
  ·exact ai hlt (Nat.not_lt.2 h)
 have hOa:∀ i,¬dB Ga sA.s.get i l:=λi h=>by
  obtain h|h:=hxa.own i l h
  ·exact hOw i h
  ·exact ai hlt (Nat.not_lt.2 h)
 refine⟨_,run_beginRound hl3 hr,?_⟩
 let X3:Cx sA.s:=⟨Ga,w3.putObj l (.loop { r with state:=.busy }),hga.putObj hFa hOa,[]⟩
 have hsz:(w3.putObj l (.loop { r with state:=.busy })).heap.size=w3.heap.size:=by simp[World.putObj]
 have hm4:Mod X3 sA a3 (w3.putObj l (.loop { r with state:=.busy })):=by
  refine⟨Ga,X3.hg,⟨⟨hsa.nt,λj=>?_⟩,hsa.df⟩,Stp.refl _ _ _⟩;exact aY.side (by rw[hsz];exact bF _) (λb hb _=>World.putObj_heap_other (λ(e:b=l)=>hFa (e▸hb))) (hsa.sl j)
 refine wpIn_mono ((hbody X3 rfl).h a3 _ hm4) ?_;rintro e a4 w4 ⟨s4,⟨rfl,awW⟩,BA⟩;obtain⟨G4,hg4,hs4,hx4⟩:=BA.le awW;have hl4:w4.heap[l]?=some (.loop { r with state:=.busy }):=(hx4.axz l (by rw[hsz];exact hlt3) hOa).trans (World.putObj_heap_same hlt3);have hF4:¬G4.F l:=λh=>by
  obtain h|h:=hx4.F2 l h
  ·exact hFa h
  ·exact ai hlt3 (Nat.not_lt.2 (hsz▸h))
 have hO4:∀ i,¬dB G4 sE.s.get i l:=λi h=>by
  obtain h|h:=hx4.own i l h
  ·exact hOa i h
  ·exact ai hlt3 (Nat.not_lt.2 (hsz▸h))
 have hre:(({ ({ r with state:=.busy }:Loop) with state:=if (none:Option Code).isNone then .ready else .done,pending:=none }):Loop)=r:=by
  obtain⟨q1,q2,q3,q4,q5,q6,q7,q8⟩:=r;simp only at hr hpe;subst hr hpe;rfl
 have hend:=run_endRound (P:=prog) none hl4;rw[hre]at hend;exact⟨_,_,hend,rfl,G4,hg4.putObj hF4 hO4,hxa.trans (Stp.round hl3 hx4)⟩
section
def Lp:List Oper->Bool
 |[]=>true
 |o::r=>o.guard.isNone&&(match o.op with|.defer _=>false|_=>true)&&Lp r
def Um:∀ {l:List Oper},Lp l=true->∀ o∈l,o.guard=none/\∀ c,o.op ≠ .defer c
 |[],_,o,ho=>by cases ho
 |x::r,h,o,ho=>by
  have h:=Bool.and_eq_true_iff.1 (show(_&&Lp r)=true from h);have h2:=Bool.and_eq_true_iff.1 h.1;obtain rfl|ho:=List.mem_cons.1 ho
  ·refine⟨Option.isNone_iff_eq_none.1 h2.1,λc e=>?_⟩;have h1:=h2.2;rw[e]at h1;cases h1
  ·exact Um h.2 o ho
def opW{t:ST}{X:Cx t}{K0:AS->Prop}{n:Nat}{o:Oper}{a:Act}{w:World}{K K':Act->World->Prop}{Q':Exit->Act->World->Prop}(h:o.wp prog a w K (QN X K0))(hk:∀ a w,K a w->K' a w):o.wpIn Fence.wide n prog a w K' Q':=by
 refine⟨λf _=>trivial,?_⟩;rw[show Fence.wide.round=none from rfl,Oper.semAt_none];unfold Oper.wp at h;generalize (execOp a.eval o).run prog w=r at h ⊢;cases r with
 |ok x w'=>
  cases x with
  |value v=>exact hk _ _ h
  |skip=>exact hk _ _ h
  |defer d=>exact hk _ _ h
  |enter f args=>
   refine⟨λe=>(by cases e),callsIn_wide.2 (h.mono λe w'' he=>?_)⟩;cases e with
   |returned v=>exact hk _ _ he
   |panicked ch=>exact ai he.1 (by intro e;cases e)
   |outgrown=>
    obtain⟨a0,w0,he⟩:=he;exact ai he.1 (by intro e;cases e)
  |row q args=>exact⟨λe=>(by cases e),λc cs _=>let ⟨v,w',r,s⟩:=h c cs;⟨v,w',hk _ _ r,stepsIn_wide.2 s⟩⟩
  |_=>exact h.elim
 |halt x w'=>
  cases x with
  |panic v=>exact ai h.1 (by intro e;cases e)
  |_=>exact h.elim
section
variable {t:ST} {X:Cx t} {Q:Exit->AS->Prop} {s sY:AS}
def asU{ops PU:Array Oper}{K:AS->Prop}{n:Nat}{Q':Exit->Act->World->Prop}{L2:List Nat}(hQ:∀ a w,(∃ s',K s'/\Mod X s' a w)->wpOpsIn Fence.wide n prog ops Q' L2 a w) :
  ∀(L:List Nat) (a:Act) (w:World),(∀ i∈L,∃ o,PU[i]?=some o/\ops[i]?=some o/\o.guard=none)->wpOps prog PU (QN X K) L a w->wpOpsIn Fence.wide n prog ops Q' (L++L2) a w:=by
 intro L;induction L with
 |nil=>intro a w _ h;obtain⟨_,s',h1,h2⟩:=h;exact hQ a w ⟨s',h1,h2⟩
 |cons i L ih=>
  intro a w hL h;obtain⟨o,h1,h2,h3⟩:=hL i (jL ..);have hL':=λj hj=>hL j (jA _ hj)
  unfold wpOps at h;rw[h1]at h;simp only at h;rw[if_pos (by unfold Region.wanted;rw[h3])]at h;rw[List.cons_append];unfold wpOpsIn;rw[h2];simp only;rw[if_pos (by unfold Region.wanted;rw[h3])];obtain h|⟨_,a0,w0,h⟩:=h
  ·exact opW h (λa w h=>ih a w hL' h)
  ·exact ai h.1 (by intro e;cases e)
def adi{id l f x d:Nat}{ops:Array Oper}{pre:List Oper}{oc on:Oper}{ty:Array TypeId}{enc:V}{t1 t2:ST}(hY:OW X l enc t1 t2)(hops:ops.toList=pre++[oc,on])(Qs:Lp (pre++[oc,on])=true)
  (hoc:oc.op = .call { callee:=.value (.tmp f),args:=#[.tmp x],argTypes:=ty }) (hd:oc.dst=some d) (h1:uy af pre pre s (λs5=>bf t.nx s5 sY)) (hs1:sY.s=t1) (hf:dD sY.sl f = .d (.v (.func (.yield l) #[] #[]))) (hx:dD sY.sl x=enc)
  (iY:sY.fits (some d)=true) (h2:uy af [on] [on] ⟨sY.nt,(d,.b true)::sY.sl,t2⟩ (Q .normal)):T X (.region id ops false) Q s:=T.mk λa w hm=>by
 have hgd:=Um Qs;have hsz:ops.size=pre.length+2:=by rw[<-rO,hops];simp
 refine(wpIn_wide (n:=1)).1 (wpIn_region ?_);have hpre:=BJ (X:=X) pre.toArray pre 0 rfl s a w _ (by simpa using h1) hm;rw[hsz,List.range_eq_range',<-List.range'_append_1];refine asU (K:=λs5=>bf t.nx s5 sY) ?_ _ a w (λi hi=>?_) hpre
 ·rintro a5 w5 ⟨s5,hle,BA⟩;obtain⟨G5,hg5,hs5,hx5⟩:=BA.le hle;have e1:ops[pre.length]?=some oc:=by rw[<-qP,hops];simp
  have e2:ops[pre.length+1]?=some on:=by rw[<-qP,hops];simp
  rw[show List.range' (0+pre.length) 2=[pre.length,pre.length+1] by rw[jq];rfl];unfold wpOpsIn;rw[e1];simp only;rw[if_pos (by unfold Region.wanted;rw[(hgd oc (by simp)).1])];refine⟨λf _=>trivial,?_⟩;rw[show Fence.wide.round=none from rfl,Oper.semAt_none];have VU:=hs5.sl f;rw[hf]at VU;have VU:a5.eval (.tmp f) = .func (.yield l) #[] #[]:=VU;have hvx:=hs5.sl x;rw[hx,hs1]at hvx;rw[hs1]at hg5 hx5;obtain⟨fn,tmps,assign,body,hy,hR⟩:=hY G5 w5 (a5.eval (.tmp x)) hg5 hx5 hvx;have hrun:(execOp a5.eval oc).run prog w5 = .ok (.round l fn tmps assign body) w5:=by
   unfold execOp;simp only[hoc,resolve,VU,Deferred.ofValue,Sem.run_bind,Sem.run_pure,Result.andThen_ok,invoke];simpa using hy
  rw[hrun];refine⟨λe=>(by cases e),hR.mono λe w6 he=>?_⟩;obtain⟨rfl,G6,Qu,hx6⟩:=he;have hm6:Mod X ⟨sY.nt,(d,.b true)::sY.sl,t2⟩ (a5.put oc.dst (.bool true)) w6:=by
   have hsl:V4 X.ds G5 ⟨sY.nt,sY.sl,t1⟩ a5 w5:=⟨⟨hs5.nt,λj=>by have:=hs5.sl j;rw[hs1]at this;exact this⟩,hs5.df⟩;have:=N8 (X:=X) (s:=⟨sY.nt,sY.sl,t1⟩) (d:=oc.dst) (v:=.bool true) (x:=.b true) hx5 hsl hg5.axy Qu hx6 (by rw[hd];exact iY) rfl;rw[hd]at this ⊢;exact this
  unfold wpOpsIn;rw[e2];simp only;rw[if_pos (by unfold Region.wanted;rw[(hgd on (by simp)).1])];have hlast:=BJ (X:=X) #[on] [on] 0 rfl _ _ w6 _ h2 hm6;have pK:wpOps prog #[on] (QN X (Q .normal)) [0] (a5.put oc.dst (.bool true)) w6:=hlast;unfold wpOps at pK;rw[show(#[on]:Array Oper)[0]?=some on from rfl]at pK;simp only at pK;rw[if_pos (by unfold Region.wanted;rw[(hgd on (by simp)).1])]at pK;obtain pK|⟨_,a0,w0,pK⟩:=pK
  ·refine opW pK (λa w h=>?_);unfold wpOpsIn;obtain⟨_,s',q1,q2⟩:=h;exact⟨s',q1,q2⟩
  ·exact ai pK.1 (by intro e;cases e)
 ·have hi:=List.mem_range'_1.1 hi;have hlt:i<pre.length:=qO;refine⟨pre[i],by simp[hlt],?_,(hgd _ (List.mem_append_left _ (List.getElem_mem hlt))).1⟩;rw[<-qP,hops,lS hlt,dV hlt]
end
end
section
def opM{t:ST}{X:Cx t}{K0:AS->Prop}{o:Oper}{a:Act}{w:World}{K K':Act->World->Prop}{Q':Exit->Act->World->Prop}(h:o.wp prog a w K (QN X K0))(hk:∀ a w,K a w->K' a w):o.wp prog a w K' Q':=by
 unfold Oper.wp at h ⊢;generalize (execOp a.eval o).run prog w=r at h ⊢;cases r with
 |ok x w'=>
  cases x with
  |value v=>exact hk _ _ h
  |skip=>exact hk _ _ h
  |defer d=>exact hk _ _ h
  |enter f args=>
   refine Calls.mono (show Calls _ _ _ _ _ from h) λe w'' he=>?_
   cases e with
   |returned v=>exact hk _ _ he
   |panicked ch=>exact ai he.1 (by intro e;cases e)
   |outgrown=>
    obtain⟨a0,w0,he⟩:=he;exact ai he.1 (by intro e;cases e)
  |row q args=>exact λc cs=>let ⟨v,w',r,s⟩:=h c cs;⟨v,w',hk _ _ r,s⟩
  |_=>exact h.elim
 |halt x w'=>
  cases x with
  |panic v=>exact ai h.1 (by intro e;cases e)
  |_=>exact h.elim
section
variable {t:ST} {X:Cx t} {Q:Exit->AS->Prop} {s s1 s2 s3:AS}
structure Conv {t:ST} (X:Cx t) (s s':AS):Prop where
 c:∀ a w,Mod X s a w->Mod X s' a w
def Conv.trans(h:Conv X s1 s2)(k:Conv X s2 s3):Conv X s1 s3:=⟨λa w hm=>k.c a w (h.c a w hm)⟩
def Conv.le(hl:bf t.nx s1 s2):Conv X s1 s2:=⟨λa w hm=>hm.le hl⟩
def Conv.eG{i E z n:Nat}{g:Nat->Nat->V}{h:Nat->Nat->D}(hf:iI X s.s i E z n g h):Conv X s (Lu i n z h s):=⟨λa w hm=>by
 obtain⟨G,hg,hs,hx⟩:=hm;refine⟨G.eG s.s.get i,Ye hf hg,⟨⟨hs.nt,λj=>?_⟩,hs.df⟩,Y1 hf hx⟩;rw[show dD (Lu i n z h s).sl j=jf i n z h (dD s.sl j) from Yd s.sl j];exact IM hf hg.axy (hs.sl j)⟩
def YN{ops PU:Array Oper}{K:AS->Prop}{Q':Exit->Act->World->Prop}{L2:List Nat}(hQ:∀ a w,(∃ s',K s'/\Mod X s' a w)->wpOps prog ops Q' L2 a w) :
  ∀(L:List Nat) (a:Act) (w:World),(∀ i∈L,∃ o,PU[i]?=some o/\ops[i]?=some o/\o.guard=none)->wpOps prog PU (QN X K) L a w->wpOps prog ops Q' (L++L2) a w:=by
 intro L;induction L with
 |nil=>intro a w _ h;obtain⟨_,s',h1,h2⟩:=h;exact hQ a w ⟨s',h1,h2⟩
 |cons i L ih=>
  intro a w hL h;obtain⟨o,h1,h2,h3⟩:=hL i (jL ..);have hL':=λj hj=>hL j (jA _ hj)
  unfold wpOps at h;rw[h1]at h;simp only at h;rw[if_pos (by unfold Region.wanted;rw[h3])]at h;rw[List.cons_append];unfold wpOps;rw[h2];simp only;rw[if_pos (by unfold Region.wanted;rw[h3])];obtain h|⟨_,a0,w0,h⟩:=h
  ·exact .inl (opM h (λa w h=>ih a w hL' h))
  ·exact ai h.1 (by intro e;cases e)
def adS{ops Vp:Array Oper}{K:AS->Prop}{Q':Exit->Act->World->Prop}{d:Nat}(hQ:∀ a w,(∃ s',K s'/\Mod X s' a w)->Q' .normal a w)(hd:∀ i,i<Vp.size->∃ o,Vp[i]?=some o/\ops[d+i]?=some o/\o.guard=none) :
  ∀(L:List Nat) (a:Act) (w:World),(∀ i∈L,i<Vp.size)->wpOps prog Vp (QN X K) L a w->wpOps prog ops Q' (L.map (d + ·)) a w:=by
 intro L;induction L with
 |nil=>intro a w _ h;obtain⟨_,s',h1,h2⟩:=h;exact hQ a w ⟨s',h1,h2⟩
 |cons i L ih=>
  intro a w hL h;obtain⟨o,h1,h2,h3⟩:=hd i (hL i (jL ..));have hL':=λj hj=>hL j (jA _ hj)
  unfold wpOps at h;rw[h1]at h;simp only at h;rw[if_pos (by unfold Region.wanted;rw[h3])]at h;rw[List.map_cons];unfold wpOps;rw[h2];simp only;rw[if_pos (by unfold Region.wanted;rw[h3])];obtain h|⟨_,a0,w0,h⟩:=h
  ·exact .inl (opM h (λa w h=>ih a w hL' h))
  ·exact ai h.1 (by intro e;cases e)
def QY{id:Nat}{ops:Array Oper}{pre wZ:List Oper}(hops:ops.toList=pre++wZ)(Qs:Lp (pre++wZ)=true)(h:uy af pre pre s (λs5=>∃ s6,Conv X s5 s6/\uy af wZ wZ s6 (Q .normal))):T X (.region id ops false) Q s:=T.mk λa w hm=>by
 have hgd:=Um Qs;have hsz:ops.size=pre.length+wZ.length:=by rw[<-rO,hops];simp
 refine wp_region ?_;have hpre:=BJ (X:=X) pre.toArray pre 0 rfl s a w _ (by simpa using h) hm;rw[hsz,List.range_eq_range',<-List.range'_append_1];refine YN (K:=λs5=>∃ s6,Conv X s5 s6/\uy af wZ wZ s6 (Q .normal)) ?_ _ a w (λi hi=>?_) hpre
 ·rintro a5 w5 ⟨s5,⟨s6,hc,h2⟩,BA⟩;have aa2:=BJ (X:=X) wZ.toArray wZ 0 rfl s6 a5 w5 _ (by simpa using h2) (hc.c _ _ BA);have:=adS (X:=X) (K:=Q .normal) (Q':=λe a' w'=>∃ s',Q e s'/\Mod X s' a' w') (ops:=ops) (d:=0+pre.length) (λa w h=>h) (λi hi=>?_) _ a5 w5 (λi hi=>?_) aa2
  ·rw[List.map_add_range']at this;simpa using this
  ·have hi:i<wZ.length:=by simpa using hi
   refine⟨wZ[i],by simp[hi],?_,(hgd _ (List.mem_append_right _ (List.getElem_mem hi))).1⟩;rw[<-qP,hops,jq,oP (Nat.le_add_right _ _),Nat.add_sub_cancel_left,dV hi]
  ·have:=List.mem_range'_1.1 hi;simpa using this
 ·have hi:=List.mem_range'_1.1 hi;have hlt:i<pre.length:=qO;refine⟨pre[i],by simp[hlt],?_,(hgd _ (List.mem_append_left _ (List.getElem_mem hlt))).1⟩;rw[<-qP,hops,lS hlt,dV hlt]
def Rn{id:Nat}{ops:Array Oper}{pre rest:List Oper}{o:Oper}(V:V)(hops:ops.toList=pre++o::rest)(Qs:Lp (pre++o::rest)=true)(h:uy af pre pre s (λs5=>s5.fits o.dst=true/\(∀ G a w,bZ G s5.s w->oZ G s5 a w->fG o a G s5.s w (λv t=>v=V/\t=s5.s))/\uy af rest rest (s5.put o.dst V s5.s) (Q .normal))):T X (.region id ops false) Q s:=T.mk λa w hm=>by
 have hgd:=Um Qs;have hsz:ops.size=pre.length+(1+rest.length):=by rw[<-rO,hops];simp;omega
 refine wp_region ?_;have hpre:=BJ (X:=X) pre.toArray pre 0 rfl s a w _ (by simpa using h) hm;rw[hsz,List.range_eq_range',<-List.range'_append_1];refine YN (K:=λs5=>s5.fits o.dst=true/\(∀ G a w,bZ G s5.s w->oZ G s5 a w->fG o a G s5.s w (λv t=>v=V/\t=s5.s))/\uy af rest rest (s5.put o.dst V s5.s) (Q .normal)) ?_ _ a w (λi hi=>?_) hpre
 ·rintro a5 w5 ⟨s5,⟨iY,hres,h2⟩,BA⟩;rw[Nat.add_comm 1,List.range'_succ];have e1:ops[0+pre.length]?=some o:=by rw[<-qP,hops];simp
  unfold wpOps;rw[e1];simp only;rw[if_pos (by unfold Region.wanted;rw[(hgd o (by simp)).1])];obtain⟨G,hg,hs,hx⟩:=BA;refine .inl (y8 ((hres G a5 w5 hg hs.tooZ).step hx hs hg iY) (λa' w' hh=>?_) (λ_ _ _ h=>h.elim));obtain⟨x,t',⟨rfl,rfl⟩,hm'⟩:=hh;have aa2:=BJ (X:=X) rest.toArray rest 0 rfl _ a' w' _ (by simpa using h2) hm';have:=adS (X:=X) (K:=Q .normal) (Q':=λe a' w'=>∃ s',Q e s'/\Mod X s' a' w') (ops:=ops) (d:=0+pre.length+1) (λa w h=>h) (λi hi=>?_) _ a' w' (λi hi=>?_) aa2
  ·rw[List.map_add_range']at this;simpa using this
  ·have hi:i<rest.length:=by simpa using hi
   refine⟨rest[i],by simp[hi],?_,(hgd _ (List.mem_append_right _ (jA _ (List.getElem_mem hi)))).1⟩;rw[<-qP,hops,oP qO,show 0+pre.length+1+i-pre.length=i+1 by omega,List.getElem?_cons_succ,dV hi]
  ·have:=List.mem_range'_1.1 hi;simpa using this
 ·have hi:=List.mem_range'_1.1 hi;have hlt:i<pre.length:=qO;refine⟨pre[i],by simp[hlt],?_,(hgd _ (List.mem_append_left _ (List.getElem_mem hlt))).1⟩;rw[<-qP,hops,lS hlt,dV hlt]
end
end
def mi(l:List bH)(i:Int):Int:=bif decide (i=0) then 0 else bif (bif decide (i<0) then true else decide ((l.length:Int)<i)) then -1 else(l.getD (i-1).toNat .z).term
def Es(l:List bH):Int:=bif decide ((l.length:Int)=0) then 0 else(l.getD ((l.length:Int)-1).toNat .z).term
def agG(l:List bH)(n t:Int):Bool:=bif decide (Es l<t) then true else bif decide (t=Es l) then decide ((l.length:Int)<=n) else false
def ahD{p q:Prop}[Decidable p][Decidable q](h:(bif decide p then true else decide q)=false):¬p/\¬q:=by
 by_cases hp:p
 ·rw[aX hp]at h;cases h
 ·rw[aT hp,bz]at h;exact⟨hp,bV h⟩
def atF{p q:Prop}[Decidable p][Decidable q](h:(bif decide p then true else decide q)=true):p\/q:=by
 by_cases hp:p
 ·exact .inl hp
 ·rw[aT hp,bz]at h;exact .inr (bT h)
def Oy(l:List bH)(i:Int)(hl:l.length<100000):aQ 142 [.d (gY l),iV i] (iV (mi l i)):=by
 refine ay func142 λX=>?_
 (repeat'(first|refine aC ?_|refine aj.mk (λh=>?_) (λh=>?_)|refine ag.a ?_|refine Fin.tell (vq (ah iV ?_) tv)|refine ag.mk ?_ ?_))<;>try exact cls
 all_goals first|exact(dH h).symm|(rename_i h0;unfold mi;rw[h0,bz];first|exact(dH h).symm|exact(bG h).symm)|(have hb:=ahD h;first|(simp only[dM];omega)|(rename_i h0;have h0:=bV h0;(omega)))
def agF(l:List bH)(hl:l.length<100000):aQ 56 [.d (gY l)] (bI [iV l.length,iV (Es l)]):=by
 refine ay func56 λX=>?_
 (repeat'(first|refine aC ?_|refine ZX [] [(0,0,false,[]),(0,0,false,[]),(0,0,false,[]),(0,0,false,[]),(0,0,false,[]),(0,0,false,[]),(0,0,false,[]),(0,0,false,[]),(0,0,false,[]),(0,0,false,[]),(0,0,false,[])] (by kernel_rfl) (by kernel_rfl) ?_|refine mc ?_ ?_|refine aj.mk (λh=>?_) (λh=>?_)|refine kJ rfl ⟨vq (ah iV ?_) tv,vq (ah iV ?_) tv,tv⟩))<;>(try(refine dm.mk ?_;repeat'(first|exact tv|exact rfl|refine an ?_ ?_|refine ag.mk ?_ ?_)))
 all_goals try exact cls
 all_goals first|(have h0:=bT h;first|omega|exact(dH h).symm)|(have h0:=bV h;first|omega|exact(bG h).symm)
def YS(l:List bH)(n t:Int)(hl:l.length<100000):aQ 207 [.d (gY l),iV n,iV t] (.b (decide (mi l n=t))):=by
 refine ay func207 λX=>?_
 repeat'(first|refine aC ?_|refine aO (Oy l n hl) ?_|refine Fin.tell (vq (ah V.b ?_) tv))
 exact rfl
def arj(l:List bH)(n t:Int)(hl:l.length<100000):aQ 211 [.d (gY l),iV n,iV t] (.b (agG l n t)):=by
 refine ay func211 λX=>?_
 repeat'(first|refine aC ?_|refine aO (agF l hl) ?_|refine ag.a ?_|refine Fin.tell (vq (ah V.b ?_) tv))
 exact rfl
def KO(next:Int)(x:aV):Int:=bif x.ok then x.a+1 else bif decide (1<next) then min (next-1) (x.a+1) else 1
def Cc(b f:Int):Int:=bif (bif !dQ b 1 3 then true else !dQ f 1 3) then 1 else bif decide (b<f) then 32 else 0
def ahZ(l:List Int):Int:=l.tail.foldl min (l.getD 0 0)
def Ux(l:List Int):Int:=bif (bif decide ((l.length:Int)=0) then true else decide (0<=eU (λv=>!dQ v 1 3) 0 l)) then 0 else ahZ l
def xB(v:Int)(l:List Int):Bool:=bif (bif decide (1<=v) then decide (v<3) else false) then decide (v<Ux l) else false
def agy(next:Int)(x:aV)(h1 : -10<=next/\next<=100000)(h2 : -10<=x.a/\x.a<=100000):aQ 213 [iV next,jT x] (iV (KO next x)):=by
 refine ay func213 λX=>?_
 (repeat'(first|refine aC ?_|refine aj.mk (λh=>?_) (λh=>?_)|refine ag.a ?_|refine Fin.tell (vq (ah iV ?_) tv)|refine ag.mk ?_ ?_))<;>try exact cls
 all_goals first|exact(dH h).symm|(rename_i h0;exact((bG h0).trans (dH h)).symm)|(rename_i h0;exact((bG h0).trans (bG h)).symm)
def alV(b f:Int):aQ 63 [iV b,iV f] (iV (Cc b f)):=by
 refine ay func63 λX=>?_
 (repeat'(first|refine aC ?_|refine aO (XG _) ?_|refine aZ _ (fM (λht=>af.tell (XG _) vw ⟨rfl,rfl⟩) ?_)|refine aj.mk (λh=>?_) (λh=>?_)|refine ag.a ?_|refine Fin.tell (vq (ah iV ?_) tv)))<;>try exact cls
 all_goals first|exact(dH h).symm|(rename_i h0;exact((bG h0).trans (dH h)).symm)|(rename_i h0;exact((bG h0).trans (bG h)).symm)
def aqo(v:Int):aQ 189 [iV v] (.b (!dQ v 1 3)):=by
 refine ay func189 λX=>?_
 repeat'(first|refine aC ?_|refine aO (XG _) ?_|refine Fin.tell (vq (ah V.b ?_) tv))
 exact rfl
def am7(l:List Int)(hn:l.length<=100000):aQ 223 [.d (iR l),.fn 189 0 0 (λ_=>.top)] (iV (eU (λv=>!dQ v 1 3) 0 l)):=by
 refine ay func223 λX=>?_
 (repeat'(first|refine aC ?_|refine dU l.length (λi (a:Unit)=>⟨19,[(0,.d (iR l)),(1,.fn 189 0 0 (λ_=>.top)),(7,iV l.length),(8,iV i)],e0⟩) (λi a=>eU (λv=>!dQ v 1 3) 0 l=eU (λv=>!dQ v 1 3) i (l.drop i)) () ?_ ?_ (λi a hi hp=>?_)|refine aZ () ⟨?_,?_,?_⟩|refine aO (aqo (l.getD i 0)) ?_|refine aj.mk (λh=>?_) (λh=>?_)|refine ag.a ?_|refine Fin.tell (vq (ah iV ?_) tv)|refine ag.mk ?_ ?_))<;>try exact cls
 all_goals(try(refine leq ?_ ?_ <;> repeat'(first|exact tv|exact qV|refine gX ?_|refine an ?_ ?_)))
 all_goals first|exact sN|(have h9:i<l.length:=om;rw[hp,D5 0 h9];first|exact(dH h).symm|exact bG h)|(have h9:=bV h;rw[hp,qM qo];rfl)
def ai7 (l : List Int) (hn : l.length <= 100000) : aQ 190 [.d (iR l), .fn 189 0 0 (λ_ => .top)] (.b (decide (0 <= eU (λv => !dQ v 1 3) 0 l))) := by
  refine af.of func190 rfl rfl (by simp [f190]) λX => ?_
  repeat'(first | refine aC ?_ | refine af.tell (am7 l hn) ⟨VW.refl trivial, gX trivial, trivial⟩ ?_ | refine Fin.tell (fA (ah V.b ?_) trivial))
  exact rfl
def akg{l:List Int}{i:Nat}:l.tail.getD i 0=l.getD (i+1) 0:=by cases l <;> rfl
def au4(l:List Int)(h0:1<=l.length)(hn:l.length<=100000):aQ 191 [.d (iR l)] (iV (ahZ l)):=by
 refine ay func191 λX=>?_
 (repeat'(first|refine aC ?_|refine aj.n (λh=>?_)|refine dU (l.length-1) (λi (a:Int)=>⟨25,[(0,.d (iR l)),(3,iV a),(4,iV (i+1:Nat))],e0⟩) (λi a=>a=(l.tail.take i).foldl min (l.getD 0 0)) (l.getD 0 0) ?_ ?_ (λi a hi hp=>?_)|refine aZ (min a (l.getD (i+1) 0)) ⟨?_,?_,?_⟩|refine aj.mk (λh=>?_) (λh=>?_)|refine ag.a ?_|refine Fin.tell (vq (ah iV ?_) tv)|refine ag.mk ?_ ?_))<;>try exact cls
 all_goals first|exact sN|(have h9:i<l.tail.length:=(by(try simp only[gq,iy]at *);rw[List.length_tail];omega);rw[hp,H7 _ _ 0 h9,akg])|(have h9:=bV h;have e:i=l.tail.length:=(by rw[List.length_tail];omega);rw[hp,e,mM];rfl)
def ar4(l:List Int)(hn:l.length<=100000):aQ 147 [.d (iR l)] (iV (Ux l)):=by
 refine ay func147 λX=>?_
 (repeat'(first|refine aC ?_|refine aZ _ (fM (λht=>af.tell (ai7 l hn) ⟨VW.refl tv,gX trivial,tv⟩ ⟨rfl,rfl⟩) ?_)|refine aO (au4 l (by have:=(ahD ‹_›).1;omega) hn) ?_|refine aj.mk (λh=>?_) (λh=>?_)|refine ag.a ?_|refine Fin.tell (vq (ah iV ?_) tv)))<;>try exact cls
 all_goals first|exact(dH h).symm|exact(bG h).symm
def apQ(v:Int)(l:List Int)(hn:l.length<=100000):aQ 98 [iV v,.d (iR l)] (.b (xB v l)):=by
 refine ay func98 λX=>?_
 (repeat'(first|refine aC ?_|refine aZ _ (fM (λht=>af.tell (ar4 l hn) vw ⟨rfl,rfl⟩) ?_)|refine ag.a ?_|refine Fin.tell (vq (ah V.b ?_) tv)))<;>try exact cls
def rcR(l:List aP):aK:=bQ 138 4 pI .z l
def jh(t w:Int):List aP:=[⟨2,t,w,[]⟩]
def tH(l:List Bool):aK:=bQ 4 1 (λb _=>bD b) false l
def Zh(t w:Int):af 93 [iV t,iV w] e0 (λrv rt=>rv=(.row 0 1)/\rt=⟨[(0,rcR (jh t w))],1⟩):=by
 refine ay func93 λX=>?_
 repeat'(first|refine aC ?_|refine ag.a ?_|refine bM qN qN qW ⟨⟨nb rfl,aW.row rfl (λj hj k hk=>?_)⟩,tv⟩)
 obtain rfl:j=0:=Nat.lt_one_iff.1 hj;obtain _|_|_|_|k:=k <;> first|exact qV|exact VW.dC|exact ai (show k+4<4 from hk) qo
def ad1(s:bC)(t:Int)(h:t<=s.term):aQ 162 [jC s,iV t] .dC:=by
 refine ay func162 λX=>?_
 repeat'(first|refine aC ?_|refine lq (λh=>?_)|refine ag.a ?_|refine Fin.tell (VW.refl tv))
 skip
def adZ(s:bC)(t:Int)(h:s.term<t):af 162 [jC s,iV t] e0 (λrv rt=>rv=(.row 1 1)/\rt=⟨[(1,rcR (jh t 0))],2⟩):=by
 refine ay func162 λX=>?_
 repeat'(first|refine aC ?_|refine aj.n (λh=>?_)|refine mY (Zh t 0) ?_|refine ag.a ?_|refine bM qN qN qW ⟨⟨nb rfl,aW.row rfl fv⟩,tv⟩)
 skip
def afb(s:bC)(me:Int)(h1:0<=me/\me<5)(h2 : -10<=s.term/\s.term<1048576):af 54 [jC s,iV me] e0 (λrv rt=>rv=(bI [.row 1 1,iV 0])/\rt=⟨[(1,rcR (jh (s.term+1) (me+1)))],2⟩):=by
 refine ay func54 λX=>?_
 (repeat'(first|refine aC ?_|refine aj.n (λh=>?_)|refine aj.mk (λh=>ai (atF h) qo) (λh=>?_)|refine mY (Zh (s.term+1) (me+1)) ?_|refine ag.a ?_|refine bM qN qN (fH [.row 1 1,iV 0] rfl fr vw) ⟨⟨nb rfl,aW.row rfl fv⟩,tv⟩|refine ag.mk ?_ ?_))<;>try exact cls
def A7(l:List Bool):Int:=(l.foldl (λn b=>bif b then n+1 else n) (0:Int))
def aeU:∀(l:List Bool) (n:Int),n<=l.foldl (λn b=>bif b then n+1 else n) n/\l.foldl (λn b=>bif b then n+1 else n) n<=n+l.length
 |[],n=>by simp
 |b::r,n=>by
  have:=aeU r (bif b then n+1 else n);rw[List.foldl_cons,lT];cases b <;> simp only[dw,bz]at this ⊢ <;> omega
def asc(l:List Bool)(hn:l.length<=100):af 163 [.row 0 l.length] ⟨[(0,tH l)],1⟩ (λrv rt=>rv=(.b (decide ((l.length:Int) / 2<A7 l)))/\rt=⟨[(0,tH l)],1⟩):=by
 refine ay func163 λX=>?_
 (repeat'(first|refine aC ?_|refine dU l.length (λi (a:Int)=>⟨21,[(0,.row 0 l.length),(3,iV a),(6,.row 0 l.length),(7,iV l.length),(8,iV i)],⟨[(0,tH l)],1⟩⟩) (λi a=>a=A7 (l.take i)) 0 ?_ ?_ (λi a hi hp=>?_)|refine aj.mk (λh=>?_) (λh=>?_)|refine uh qN (vq (ah V.b ?_) tv) ⟨⟨nb rfl,aW.row rfl fv⟩,tv⟩|refine ag.mk ?_ ?_))<;>try exact cls
 all_goals(try(first|(have hh:l.getD i false=true:=h;refine aZ (a+1) ⟨?_,?_,?_⟩)|(have hh:l.getD i false=false:=h;refine aZ a ⟨?_,?_,?_⟩)))
 all_goals(try(refine leq ?_ ?_ <;> repeat'(first|exact tv|exact qV|exact qW|refine an ⟨nb rfl,aW.row ?_ (λj hj k hk=>vq ?_ trivial)⟩ ?_|refine an ?_ ?_)))
 all_goals first|exact rfl|((try simp only[gq,iy,nY,o9]at *);have q:=aeU (l.take i) 0;have q2:(l.take i).length<=l.length:=(by rw[dG];omega);first|omega|(refine⟨?_,?_⟩ <;> first|trivial|omega)|(simp only[dM];have e:A7 (l.take i)=(l.take i).foldl (λn b=>bif b then n+1 else n) (0:Int):=rfl;omega)|(have h9:i<l.length:=qo;unfold A7;rw[H7 _ _ false h9,hh,hp];rfl))|((try simp only[gq,iy,nY,o9]at *);have e:i=l.length:=qo;rw[hp,e,mM];done)
def fZ.at3{c:aF}{v:Int}(h:fZ c v):fZ c 3:=⟨h.kM,by have:=h.le;have:=h.v3;omega,by decide,h.fits,h.chunks,h.text⟩
def apI(c:aF)(v:Int)(hc:fZ c v):aQ 85 [jl c,.d (jv []),iV v] (bI [.d (bW (fQ c)),iV 0]):=by
 refine ay func85 λX=>?_
 (repeat'(first|refine aC ?_|refine dU 0 (λi (a:Unit)=>⟨45,[(1,.d (jv [])),(2,iV v),(3,.ptr 0 0),(9,iV i)],⟨[(0,.Wp 8 (λk=>.d (lW c k)))],1⟩⟩) (λ_ _=>True) () ?_ True.intro (λi a hi hp=>?_)|refine aj.mk (λh=>ai (bT h) (by have h9:i=0:=Nat.le_zero.1 hi;subst h9;decide)) (λh=>?_)|refine aO (zq v 1 3) ?_|refine aj.mk (λh=>ai ((show(!dQ v 1 3)=false by rw[show dQ v 1 3=true from aX ⟨hc.v1,hc.v3⟩];rfl).symm.trans h) (by decide)) (λh=>?_)|refine aO (ajr c v hc.kM hc.le hc.chunks) ?_|refine aO (afk c v hc.at3 hc.v1 hc.v3) ?_|refine aj.mk (λh=>ai ((show(!decide (kX c v=0))=false by rw[show kX c v=0 from hc.may];rfl).symm.trans h) (by decide)) (λh=>?_)|refine aO (akx c v hc) ?_|refine aO (ame (iL c v) (Iq hc)) ?_|refine lq (λh=>?_)|refine ag.a ?_|refine kJ rfl ⟨vq (ah (λl=>V.d (bW l)) (ZO hc)) tv,VW.refl tv,tv⟩))<;>try exact cls
 all_goals(try(refine leq ?_ ?_ <;> repeat'(first|exact tv|exact qV|exact qW|refine jQ qN (λk hk=>?_) ?_|refine an ?_ ?_)))
 all_goals(exact cm qV)
def ajl{b:List UInt8}(h:∃ r,kW r=true/\b=jy r):aQ 84 [.d (bW b)] (bI [.d (iR (yC b)),iV 0]):=by
 obtain⟨r,h1,rfl⟩:=h;rw[RX (FQ h1)];exact ajk r h1
def LY(a:aF):Nat->Int
 |1=>a.kind|2=>a.ax|3=>a.seq|4=>a.set|5=>a.id|6=>a.n|_=>0
def DJ(a:aF):Nat->D
 |6=>iR a.chunks|7=>IY a.text|_=>iD 0
structure O5 (f:bu):Prop where
 ok:Vm f
 n:f.num<=6->f.n<=1048576
 num:1<=f.num/\f.num<=8
def JA(a n:Int)(hn:0<=n/\n<=1048576)(h1:1<=a)(ha:a<=6):∀ f∈lD a n,O5 f:=by
 intro f hf;refine⟨Ie a n ⟨hn.1,by omega⟩ ha f hf,?_,?_⟩;all_goals
  unfold lD at hf;split at hf
  ·cases hf
  ·obtain rfl:=List.mem_singleton.1 hf;first|exact⟨h1,by show a<=8;omega⟩|(intro _;show n.toNat<=_;omega)
def arN{c:aF}{v:Int}(h:fZ c v):∀ f∈sS c,O5 f:=by
 have hn:=h.fit;have hk:=BI h.kM;have h7:∀(k:Int) (b:List UInt8),7<=k->k<=8->∀ f∈ql k b,f.num=k:=λk b h1 h2 f hf=>by
  unfold ql at hf;split at hf
  ·cases hf
  ·obtain rfl:=List.mem_singleton.1 hf;rfl
 intro f hf;have ho:=agX h f hf;simp only[sS,rJ,xk,zY,zZ,Aa,Ac,Ad,List.mem_append]at hf;obtain ((((((((hf|hf)|hf)|hf)|hf)|hf)|hf)|hf)|hf):=hf
 ·cases hf
 ·exact JA _ _ ⟨by omega,by omega⟩ qD qD f hf
 ·exact JA _ _ ⟨hn.ax.1,by have:=hn.ax.2.1;omega⟩ qD qD f hf
 ·exact JA _ _ ⟨hn.seq.1,hn.seq.2.1⟩ qD qD f hf
 ·exact JA _ _ ⟨hn.set.1,by have:=hn.set.2.1;omega⟩ qD qD f hf
 ·exact JA _ _ ⟨hn.id.1,hn.id.2⟩ qD qD f hf
 ·exact JA _ _ ⟨hn.n.1,by have:=hn.n.2.1;omega⟩ qD qD f hf
 ·have e:=h7 7 _ qD qD f hf;exact⟨ho,λh=>by omega,by omega⟩
 ·have e:=h7 8 _ qD qD f hf;exact⟨ho,λh=>by omega,by omega⟩
