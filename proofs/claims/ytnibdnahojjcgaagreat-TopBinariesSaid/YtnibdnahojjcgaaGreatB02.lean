/- A part of the proof. -/
import Derived.Test.YtnibdnahojjcgaaGreatB01
namespace Go.Proofs.YtnibdnahojjcgaaGreat
set_option maxRecDepth 100000
set_option maxHeartbeats 16000000
set_option linter.unusedVariables false
set_option linter.unusedSimpArgs false
open Go.RowKit
section
def jh(F:Nat->Prop)(w:World):D->Value->Prop
 |.v x,u=>u=x
 |.sl n s g,u=>∃ A c,u = .slice A n c/\n<=c/\c<=maxLen/\(A=none->c=0)/\∀ j,j<n->∀ k,k<s->∃ b off x,A=some ⟨b,off,none⟩/\F b/\b<w.heap.size/\w.cell? ⟨b,off+(j*s+k),none⟩=some x/\x.oneCell'=true/\jh F w (g j k) x
theorem jh.mono{F F':Nat->Prop}{w w':World}{d:D}(hs:w.heap.size<=w'.heap.size)(hk:∀ b,F b->b<w.heap.size->w'.heap[b]?=w.heap[b]?)(hF:∀ b,F b->b<w.heap.size->F' b):∀ {u:Value},jh F w d u->jh F' w' d u:=by
 induction d with
 |v x=>intro u h;exact h
 |sl n s g ih=>
  rintro u ⟨A,c,rfl,h1,h2,h3,h4⟩;refine⟨A,c,rfl,h1,h2,h3,λj hj k hk'=>?_⟩;obtain⟨b,off,x,rfl,hf,hb,hc,ho,hd⟩:=h4 j hj k hk';exact⟨b,off,x,rfl,hF b hf hb,by omega,(World.cell?_of_block (a:=⟨b,off+(j*s+k),none⟩) (hk b hf hb)).trans hc,ho,ih j k hd⟩
inductive Loc where
 |blk (b:Nat)
 |row (A:Option Addr) (c:Nat)
structure Gh where
 F:Nat->Prop
 ρ:Nat->Option Loc
def aO(G:Gh)(o:Nat->aG)(w:World):V->Value->Prop
 |.top,_=>True
 |.d x,u=>jh G.F w x u
 |.dE,u=>∃ A,u = .slice A 0 0
 |.dp s g,u=>∃ b off,u = .pointer (some ⟨b,off,none⟩)/\(0<s->G.F b/\b<w.heap.size)/\∀ k,k<s->∃ x,w.cell? ⟨b,off+k,none⟩=some x/\x.oneCell'=true/\jh G.F w (g k) x
 |.ptr i off,u=>∃ b,G.ρ i=some (.blk b)/\u = .pointer (some ⟨b,off,none⟩)
 |.rp i n j c,u=>∃ A cc,G.ρ i=some (.row A cc)/\(∃ a,u = .pointer (some a))/\∀ E s m g,o i = .row E s m g->n<=m/\(n=m->∃ b,A=some ⟨b,0,none⟩/\u = .pointer (some ⟨b,j*s+c,none⟩))
 |.row i n,u=>∃ A c,G.ρ i=some (.row A c)/\(∃ A' c',u = .slice A' n c')/\∀ E s m g,o i = .row E s m g->n<=m/\(n=m->u = .slice A n c)
 |.vw i n lo m,u=>∃ A c,G.ρ i=some (.row A c)/\(∃ B c',u = .slice B m c')/\∀ E s q g,o i = .row E s q g->n<=q/\(n=q->∃ B c',u = .slice B m c'/\m<=c'/\c'<=maxLen/\(B=none->c'=0)/\(0<m->B=A.map (·.add (lo*s)))/\c'=c-lo/\(0<c'->B=A.map (·.add (lo*s))))
 |.agg n g,u=>∃ cs:Array Value,u = .agg cs/\cs.size=n/\∀ k x,cs[k]?=some x->x.oneCell'=true/\aO G o w (g k) x
 |.fV n g,u=>∃ cs:Array Value,u = .tuple cs/\cs.size=n/\∀ k x,cs[k]?=some x->aO G o w (g k) x
 |.fn f nf n g,u=>∃ fs cs:Array Value,u = .func (.func f) fs cs/\fs.size=nf/\fs.size+cs.size=n/\∀ k x,(fs++cs)[k]?=some x->aO G o w (g k) x
 |.mp i,u=>∃ b,G.ρ i=some (.blk b)/\u = .map (some b)
 |.ku t w' x,u=>(t=w'->aO G o w x u)/\(t≠w'->u=undef)
def dA(G:Gh)(o:Nat->aG)(i b:Nat):Prop:=
 match o i with
 |.dead=>False
 |.row _ _ _ _=>∃ A c,G.ρ i=some (.row A c)/\0<c/\∃ off,A=some ⟨b,off,none⟩
 |_=>G.ρ i=some (.blk b)
def DN(G:Gh)(o:Nat->aG)(w:World)(E s n:Nat)(g:Nat->Nat->V)(A:Option Addr)(c:Nat):Prop:=
 (c=0/\n=0)\/(0<c/\∃ b cs,A=some ⟨b,0,none⟩/\w.heap[b]?=some (.cells cs E (0,0))/\cs.size=c*s/\n<=c/\c<=maxLen/\∀ j,j<n->∀ k,k<s->∃ x,cs[j*s+k]?=some x/\x.oneCell'=true/\aO G o w (g j k) x)
def sN:List MapEntry->Int->Option Value
 |[],_=>none
 |e::r,k=>match e.key with
  |.int .i64 j=>if j=k then some e.val else sN r k
  |_=>sN r k
def tK(G:Gh)(o:Nat->aG)(w:World)(l:List MapEntry)(q:List (Int×V)):Prop:=
 (∀ e∈l,∃ k,e.key = .int .i64 k)/\∀ k,match dU q k with
  |some v=>∃ u,sN l k=some u/\aO G o w v u
  |none=>sN l k=none
theorem tK.to{G G':Gh}{o o':Nat->aG}{w w':World}{l:List MapEntry}{q q':List (Int×V)}(h:tK G o w l q)
  (hv:∀ k,match dU q k,dU q' k with|some v,some v'=>∀ u,aO G o w v u->aO G' o' w' v' u|none,none=>True|_,_=>False):tK G' o' w' l q':=by
 refine⟨h.1,λk=>?_⟩;have h1:=h.2 k;have h2:=hv k;rcases e1:dU q k with _|v <;> rcases e2:dU q' k with _|v' <;> rw[e1]at h1 h2 <;> rw[e2]at h2
 ·exact h1
 ·exact h2.elim
 ·exact h2.elim
 ·obtain⟨u,h3,h4⟩:=h1;exact⟨u,h3,h2 u h4⟩
theorem Il(f:V->V):∀(q:List (Int×V)) (k:Int),dU (q.map λp=>(p.1,f p.2)) k=(dU q k).map f
 |[],_=>rfl
 |(j,v)::r,k=>by
  show(bif decide (j=k) then some (f v) else dU (r.map λp=>(p.1,f p.2)) k)=(bif decide (j=k) then some v else dU r k).map f;cases decide (j=k)
  ·exact Il f r k
  ·rfl
theorem tK.map{G G':Gh}{o o':Nat->aG}{w w':World}{l:List MapEntry}{q:List (Int×V)}(f:V->V)(h:tK G o w l q)(hv:∀ v u,aO G o w v u->aO G' o' w' (f v) u):tK G' o' w' l (q.map λp=>(p.1,f p.2)):=h.to λk=>by
 rw[Il];cases dU q k
 ·trivial
 ·exact λu h=>hv _ u h
structure Good (G:Gh) (o:Nat->aG) (w:World):Prop where
 blk:∀ i n g,o i = .blk n g->∃ b cs t,G.ρ i=some (.blk b)/\w.heap[b]?=some (.cells cs t (0,0))/\cs.size=n/\∀ k x,cs[k]?=some x->x.oneCell'=true/\aO G o w (g k) x
 row:∀ i E s n g,o i = .row E s n g->(tI E).ok=true/\(tI E).size=s/\0<s/\∃ A c,G.ρ i=some (.row A c)/\DN G o w E s n g A c
 map:∀ i es,o i = .map es->∃ b jd cl,G.ρ i=some (.blk b)/\w.heap[b]?=some (.map jd cl)/\tK G o w jd.toList es
 wS:∀ i b,dA G o i b->¬G.F b
 vK:∀ b,G.F b->b<w.heap.size
 sep:∀ i j b,dA G o i b->dA G o j b->i=j
theorem Good.lt{G:Gh}{o:Nat->aG}{w:World}(h:Good G o w){i b:Nat}(ho:dA G o i b):b<w.heap.size:=by
 unfold dA at ho;split at ho
 ·exact ho.elim
 ·rename_i E s n g ho'
  obtain⟨A,c,h1,h2,off,rfl⟩:=ho;obtain⟨_,_,_,A',c',h3,h4⟩:=h.row _ _ _ _ _ ho';rw[h1]at h3;injection h3 with h3
  injection h3 with h3 h5
  subst h3 h5;rcases h4 with ⟨h4,_⟩|⟨_,b',cs,h4,h5,_⟩
  ·omega
  ·injection h4 with h4
   injection h4 with h4
   subst h4;exact(Array.getElem?_eq_some_iff.1 h5).1
 ·rename_i hn hr
  rcases ho':o i with _|⟨n,g⟩|⟨E,s,n,g⟩|es
  ·exact au ho' hn
  ·obtain⟨b',cs,t,h1,h2,_⟩:=h.blk _ _ _ ho';rw[ho]at h1;injection h1 with h1
   injection h1 with h1
   subst h1;exact(Array.getElem?_eq_some_iff.1 h2).1
  ·exact au ho' (hr _ _ _ _)
  ·obtain⟨b',jd,cl,h1,h2,_⟩:=h.map _ _ ho';rw[ho]at h1;injection h1 with h1
   injection h1 with h1
   subst h1;exact(Array.getElem?_eq_some_iff.1 h2).1
structure Stp (G:Gh) (o:Nat->aG) (w:World) (G':Gh) (o':Nat->aG) (w':World):Prop where
 os:w'.os=w.os
 tape:w'.tape=w.tape
 output:w'.output=w.output
 size:w.heap.size<=w'.heap.size
 keep:∀ b,b<w.heap.size->(∀ i,¬dA G o i b)->w'.heap[b]?=w.heap[b]?
 F1:∀ b,G.F b->b<w.heap.size->G'.F b
 F2:∀ b,G'.F b->G.F b\/w.heap.size<=b
 own:∀ i b,dA G' o' i b->dA G o i b\/w.heap.size<=b
 loc:∀ i b,G.ρ i=some (.blk b)->G'.ρ i=some (.blk b)
 row:∀ i A c,G.ρ i=some (.row A c)->∃ A' c',G'.ρ i=some (.row A' c')/\∀ E s m g,o' i = .row E s m g->∃ m0 g0,o i = .row E s m0 g0/\m0<=m/\(m0=m->A'=A/\c'=c)
theorem Stp.refl(G:Gh)(o:Nat->aG)(w:World):Stp G o w G o w:=
 ⟨rfl,rfl,rfl,bu _,λ_ _ _=>rfl,λ_ h _=>h,λ_ h=>.inl h,λ_ _ h=>.inl h,λ_ _ h=>h,λ_ A c h=>⟨A,c,h,λ_ _ m g ho=>⟨m,g,ho,bu _,λ_=>⟨rfl,rfl⟩⟩⟩⟩
theorem Stp.trans{G G1 G2:Gh}{o o1 o2:Nat->aG}{w w1 w2:World}(h:Stp G o w G1 o1 w1)(k:Stp G1 o1 w1 G2 o2 w2):Stp G o w G2 o2 w2 where
 os:=k.os.trans h.os
 tape:=k.tape.trans h.tape
 output:=k.output.trans h.output
 size:=jV h.size k.size
 keep:=λb hb hn=>(k.keep b (su hb h.size) λi hi=>by
  rcases h.own i b hi with h1|h1
  ·exact hn i h1
  ·omega).trans (h.keep b hb hn)
 F1:=λb hf hb=>k.F1 b (h.F1 b hf hb) (su hb h.size)
 F2:=λb hf=>by
  rcases k.F2 b hf with h1|h1
  ·exact h.F2 b h1
  ·exact .inr (jV h.size h1)
 own:=λi b ho=>by
  rcases k.own i b ho with h1|h1
  ·exact h.own i b h1
  ·exact .inr (jV h.size h1)
 loc:=λi b hi=>k.loc i b (h.loc i b hi)
 row:=λi A c hi=>by
  obtain⟨A1,c1,h1,h2⟩:=h.row i A c hi;obtain⟨A2,c2,h3,h4⟩:=k.row i A1 c1 h1;refine⟨A2,c2,h3,λE s m g ho=>?_⟩;obtain⟨m1,g1,ho1,l1,e1⟩:=h4 E s m g ho;obtain⟨m0,g0,ho0,l0,e0⟩:=h2 E s m1 g1 ho1;refine⟨m0,g0,ho0,jV l0 l1,λe=>?_⟩;have q1:m0=m1:=qO;have q2:m1=m:=qO;exact⟨(e1 q2).1.trans (e0 q1).1,(e1 q2).2.trans (e0 q1).2⟩
section
variable {G G':Gh} {o o':Nat->aG} {w w':World}
theorem Stp.aeT(h:Stp G o w G' o' w')(hg:Good G o w):∀ b,G.F b->b<w.heap.size->w'.heap[b]?=w.heap[b]?:=λb hf hb=>h.keep b hb λi hi=>hg.wS i b hi hf
theorem jh.dS{d:D}{u:Value}(h:Stp G o w G' o' w')(hg:Good G o w)(hd:jh G.F w d u):jh G'.F w' d u:=hd.mono h.size (h.aeT hg) h.F1
theorem aO.dS(h:Stp G o w G' o' w')(hg:Good G o w){v:V}:∀ {u:Value},aO G o w v u->aO G' o' w' v u:=by
 induction v with
 |top=>exact λ_=>trivial
 |d x=>intro u hd;exact jh.dS h hg hd
 |dE=>exact λh=>h
 |dp s g=>
  rintro u ⟨b,off,rfl,h1,h2⟩;refine⟨b,off,rfl,λhs=>⟨h.F1 b (h1 hs).1 (h1 hs).2,su (h1 hs).2 h.size⟩,λk hk=>?_⟩;obtain⟨x,hx,ho,hd⟩:=h2 k hk;exact⟨x,(World.cell?_of_block (a:=⟨b,off+k,none⟩) (h.aeT hg b (h1 qO).1 (h1 qO).2)).trans hx,ho,jh.dS h hg hd⟩
 |ptr i off=>rintro u ⟨b,h1,h2⟩;exact⟨b,h.loc _ _ h1,h2⟩
 |rp i n j c=>
  rintro u ⟨A,cc,h1,h2,h3⟩;obtain⟨A',cc',h4,h5⟩:=h.row _ _ _ h1;refine⟨A',cc',h4,h2,λE s m g ho=>?_⟩;obtain⟨m0,g0,ho0,hl,he⟩:=h5 E s m g ho;obtain⟨l0,e0⟩:=h3 E s m0 g0 ho0;refine⟨jV l0 hl,λe=>?_⟩;rw[(he qO).1];exact e0 qO
 |row i n=>
  rintro u ⟨A,c,h1,h2,h3⟩;obtain⟨A',c',h4,h5⟩:=h.row _ _ _ h1;refine⟨A',c',h4,h2,λE s m g ho=>?_⟩;obtain⟨m0,g0,ho0,hl,he⟩:=h5 E s m g ho;obtain⟨l0,e0⟩:=h3 E s m0 g0 ho0;refine⟨jV l0 hl,λe=>?_⟩;obtain⟨q1,q2⟩:=he qO;rw[q1,q2];exact e0 qO
 |vw i n lo m=>
  rintro u ⟨A,c,h1,h2,h3⟩;obtain⟨A',c',h4,h5⟩:=h.row _ _ _ h1;refine⟨A',c',h4,h2,λE s q g ho=>?_⟩;obtain⟨m0,g0,ho0,hl,he⟩:=h5 E s q g ho;obtain⟨l0,e0⟩:=h3 E s m0 g0 ho0;refine⟨jV l0 hl,λe=>?_⟩;obtain⟨q1,q2⟩:=he qO;rw[q1,q2];exact e0 qO
 |agg n g ih=>
  rintro u ⟨cs,rfl,hn,hc⟩;exact⟨cs,rfl,hn,λk x hx=>⟨(hc k x hx).1,ih k (hc k x hx).2⟩⟩
 |fV n g ih=>
  rintro u ⟨cs,rfl,hn,hc⟩;exact⟨cs,rfl,hn,λk x hx=>ih k (hc k x hx)⟩
 |fn f nf n g ih=>
  rintro u ⟨fs,cs,rfl,hn,hm,hc⟩;exact⟨fs,cs,rfl,hn,hm,λk x hx=>ih k (hc k x hx)⟩
 |mp i=>rintro u ⟨b,h1,h2⟩;exact⟨b,h.loc _ _ h1,h2⟩
 |ku t w' x ih=>intro u hu;exact⟨λe=>ih (hu.1 e),hu.2⟩
theorem tK.dS(h:Stp G o w G' o' w')(hg:Good G o w){l:List MapEntry}{q:List (Int×V)}(hm:tK G o w l q):tK G' o' w' l q:=hm.to λk=>by
 cases dU q k
 ·trivial
 ·exact λu hu=>hu.dS h hg
end
structure bV (G:Gh) (t:ST) (w:World):Prop where
 aK:Good G t.get w
 jK:∀ i,t.nx<=i->G.ρ i=none/\t.get i = .dead
def wB(k:Nat):Prop:=(Tryz.prog.funcs[k]?).map (λfn=>fn.body.isSome && !(fn.name == "runtime.NumGoroutine"))=some true
def ae(f:Nat)(args:List V)(t:ST)(K:V->ST->Prop):Prop:=wB f /\
 ∀(G:Gh) (w:World) (us:List Value),bV G t w->us.length=args.length->(∀(k:Nat) (v:V) (u:Value),args[k]?=some v->us[k]?=some u->aO G t.get w v u) ->
  Calls Tryz.prog f us.toArray w λe w'=>∃ v V t' G',e = .returned v/\K V t'/\bV G' t' w'/\Stp G t.get w G' t'.get w'/\aO G' t'.get w' V v
theorem ae.mono{f:Nat}{args:List V}{t:ST}{K K':V->ST->Prop}(h:ae f args t K)(hk:∀ v s,K v s->K' v s):ae f args t K':=
 ⟨h.1,λG w us hg hl hv=>(h.2 G w us hg hl hv).mono λe w' ⟨v,V,t',G',h1,h2,h3⟩=>⟨v,V,t',G',h1,hk _ _ h2,h3⟩⟩
structure oG (G:Gh) (s:AS) (a:Act) (w:World):Prop where
 nt:a.tmps.size=s.nt
 sl:∀ j,aO G s.s.get w (dG s.sl j) (a.tmps.getD j undef)
end
section
def eu(o:Oper)(a:Act)(G:Gh)(t:ST)(w:World)(K:V->ST->Prop):Prop:=
 o.wp Tryz.prog a w (λa' w'=>∃ v V t' G',a'=a.put o.dst v/\K V t'/\bV G' t' w'/\Stp G t.get w G' t'.get w'/\aO G' t'.get w' V v) (λ_ _ _=>False)
theorem eu.val{o:Oper}{a:Act}{G:Gh}{t:ST}{w:World}{K:V->ST->Prop}{v:Value}{V:V}(hg:bV G t w)(h:(execOp a.eval o).run Tryz.prog w = .ok (.value v) w)(hv:aO G t.get w V v)(hk:K V t):eu o a G t w K:=by
 unfold eu Oper.wp Oper.upon;rw[h];exact⟨v,V,t,G,rfl,hk,hg,Stp.refl _ _ _,hv⟩
theorem anj(G:Gh)(o:Nat->aG)(w:World)(x:Value):aO G o w (Zr x) x:=by
 unfold Zr;split
 ·exact⟨none,rfl⟩
 ·rfl
theorem oG.ev{G:Gh}{s:AS}{a:Act}{w:World}(h:oG G s a w)(x:Operand):aO G s.s.get w (s.ev x) (a.eval x):=by
 cases x with
 |tmp t=>exact h.sl t
 |const v=>exact anj _ _ _ v
 |global g=>trivial
 |func f=>exact⟨#[],#[],rfl,rfl,rfl,λk x hx=>by simp at hx⟩
theorem Ls{k:IntKind}{n:Int}(h:(dQ k).1<=n/\n<=(dQ k).2):k.wrap n=n:=by
 cases k <;> simp only[dQ]at h
 ·exact IntWalk.i8_in _ h
 ·exact IntWalk.i16_in _ h
 ·exact IntWalk.i32_in _ h
 ·exact IntWalk.i64_in _ h
 ·exact IntWalk.u8_in _ h
 ·exact IntWalk.u16_in _ h
 ·exact IntWalk.u32_in _ h
 ·exact IntWalk.u64_in _ h
section
variable {G:Gh} {ob:Nat->aG} {w:World} {M:Prop->Prop->Prop} {gd:Prop} {K:V->Prop}
theorem ahy{k:IntKind}{a b:Int}{op:BinOp}{t:Nat}(hM:∀ p q,M p q->q/\(gd->p))(hgd:gd)(h:Nb M op k a b K):∃ v V,(binOp op t (.int k a) (.int k b)).run Tryz.prog w = .ok v w/\K V/\aO G ob w V v:=by
 cases op <;> simp only[Nb]at h
 case add=>exact⟨_,_,by simp[binOp,Op.intArith,Ls ((hM _ _ h).2 hgd)],(hM _ _ h).1,rfl⟩
 case sub=>exact⟨_,_,by simp[binOp,Op.intArith,Ls ((hM _ _ h).2 hgd)],(hM _ _ h).1,rfl⟩
 case mul=>exact⟨_,_,by simp[binOp,Op.intArith,Ls ((hM _ _ h).2 hgd)],(hM _ _ h).1,rfl⟩
 case quo=>
  obtain⟨h0,h1,h2⟩:=(hM _ _ h).2 hgd;have hr:(dQ k).1<=0:=by cases k <;> simp[dQ]
  have hb:b≠0:=qO;have hq:k.wrap (a.tdiv b)=a / b:=by
   rw[Int.tdiv_eq_ediv_of_nonneg h0];have:=IntWalk.tdiv_le a b h0 qO;exact Ls ⟨by omega,by omega⟩
  exact⟨_,_,by simp[binOp,Op.intDiv,hb,hq],(hM _ _ h).1,rfl⟩
 case rem=>
  obtain⟨h0,h1,h2⟩:=(hM _ _ h).2 hgd;have hb:b≠0:=qO;exact⟨_,_,by simp[binOp,Op.intDiv,hb,IntWalk.rem_in a b h0],(hM _ _ h).1,rfl⟩
 case eql=>exact⟨.bool (decide (a=b)),_,by simp[binOp,Op.intCmp];rfl,h,rfl⟩
 case neq=>exact⟨.bool (!decide (a=b)),_,by simp[binOp,Op.intCmp];rfl,h,rfl⟩
 case lss=>exact⟨_,_,by simp[binOp,Op.intCmp],h,rfl⟩
 case leq=>exact⟨_,_,by simp[binOp,Op.intCmp],h,rfl⟩
 case gtr=>exact⟨_,_,by simp[binOp,Op.intCmp],h,rfl⟩
 case geq=>exact⟨_,_,by simp[binOp,Op.intCmp],h,rfl⟩
 all_goals exact h.elim
theorem Ce(t:Nat){k:Nat}(h:(tI t).k=k)(hk:k≠9):∃ d,Tryz.prog.underlying t=some d/\vT d (tI t)=true:=(XN t (by unfold uh.ok;rw[h];rcases hb:Nat.beq k 9 with _|_;rfl;exact au (Nat.eq_of_beq_eq_true hb) hk)).desc
theorem qw{t:Nat}(h:(tI t).k=3):Tryz.prog.underlying t=some (.slice (tI t).elem):=by
 obtain⟨d,h1,h2⟩:=Ce t h qD;rw[h1];cases d <;> simp[vT,h]at h2;rw[h2]
theorem aq5{t:Nat}(h:(tI t).k=7):Tryz.prog.underlying t=some .bool:=by
 obtain⟨d,h1,h2⟩:=Ce t h qD;rw[h1];cases d <;> simp[vT,h]at h2;rfl
theorem aq4{t:Nat}(h:(tI t).k=8):∃ e,Tryz.prog.underlying t=some (.pointer e):=by
 obtain⟨d,h1,h2⟩:=Ce t h qD;rw[h1];cases d <;> simp[vT,h]at h2;exact⟨_,rfl⟩
theorem aeC{t:Nat}(h:(tI t).k=10):∃ a b c,Tryz.prog.underlying t=some (.func a b c):=by
 obtain⟨d,h1,h2⟩:=Ce t h qD;rw[h1];cases d <;> simp[vT,h]at h2;exact⟨_,_,_,rfl⟩
theorem Iq(t:Nat)(x y:Value):Op.equal t x y=Op.equalIn (9999+1) t x y:=rfl
theorem ZJ{t:Nat}(h:(tI t).k=7)(a b:Bool):(Op.equal t (.bool a) (.bool b)).run Tryz.prog w = .ok (a == b) w:=by
 rw[Iq,Op.equalIn];simp[run_underlying (aq5 h)]
theorem Uf{t:Nat}(h:(tI t).k=3)(A:Option Addr)(n c m d:Nat):(Op.equal t (.slice A n c) (.slice none m d)).run Tryz.prog w = .ok A.isNone w:=by
 rw[Iq,Op.equalIn];cases A <;> simp[run_underlying (qw h)]
theorem Ph{t:Nat}(h:(tI t).k=8)(A:Option Addr):(Op.equal t (.pointer A) (.pointer none)).run Tryz.prog w = .ok A.isNone w:=by
 obtain⟨e,he⟩:=aq4 h;rw[Iq,Op.equalIn];cases A <;> simp[run_underlying he]
theorem aaB{t:Nat}(h:(tI t).k=10)(f:Fn)(a b:Array Value):(Op.equal t (.func f a b) .nilFunc).run Tryz.prog w = .ok false w:=by
 obtain⟨x,y,z,he⟩:=aeC h;rw[Iq,Op.equalIn];simp[run_underlying he]
theorem Zy{t:Nat}(h:(tI t).k=10):(Op.equal t .nilFunc .nilFunc).run Tryz.prog w = .ok true w:=by
 obtain⟨x,y,z,he⟩:=aeC h;rw[Iq,Op.equalIn];simp[run_underlying he]
theorem ar2:Tryz.prog.eqGuardType Tryz.prog.depth 52=false:=by kernel_rfl
theorem arb:Tryz.prog.stoodInHeld 52=false:=by kernel_rfl
theorem am8{op:BinOp}{ox oy:Operand}(x y:Array Value):(eqGuard op 52 ox oy (.agg x) (.agg y)).run Tryz.prog w = .ok () w:=by
 cases op <;> simp[eqGuard,ar2,Result.andThen]
theorem aaC(d:Nat){t:Nat}{q:IntKind}(h:Tryz.prog.underlying t=some (.int q))(k:IntKind)(a b:Int):(Op.equalIn (d+1) t (.int k a) (.int k b)).run Tryz.prog w = .ok (a == b) w:=by
 rw[Op.equalIn];simp[run_underlying h]
theorem abn{t:Nat}{d:TypeDesc}(h:Tryz.prog.underlying t=some d)(hd:∀ x,d ≠ .struct x)(ja:∀ x y,d ≠ .array x y){cs:Array Value}{off:Nat}{x:Value}(hx:cs[off]?=some x):(part t cs off).run Tryz.prog w = .ok x w:=by
 unfold part isAgg;cases d
 case struct x=>exact au rfl (hd x)
 case array x y=>exact au rfl (ja x y)
 all_goals simp[run_underlying h,hx,Result.andThen]
theorem ahz(a b c d:Int):(Op.equal 52 (.agg ⟨[.int .i64 a,.int .i64 b]⟩) (.agg ⟨[.int .i64 c,.int .i64 d]⟩)).run Tryz.prog w = .ok (decide (a=c)&&decide (b=d)) w:=by
 rw[Iq,Op.equalIn];have p0:=λx y=>abn (w:=w) Tryz.underlying29 (by simp) (by simp) (cs:=⟨[x,y]⟩) (off:=0) (x:=x) rfl
 have p1:=λx y=>abn (w:=w) Tryz.underlying3 (by simp) (by simp) (cs:=⟨[x,y]⟩) (off:=1) (x:=y) rfl
 have e0:∀ x y,(Op.equalIn 9999 29 (.int .i64 x) (.int .i64 y)).run Tryz.prog w = .ok (x == y) w:=λx y=>aaC (w:=w) 9998 Tryz.underlying29 .i64 x y
 have e1:∀ x y,(Op.equalIn 9999 3 (.int .i64 x) (.int .i64 y)).run Tryz.prog w = .ok (x == y) w:=λx y=>aaC (w:=w) 9998 Tryz.underlying3 .i64 x y
 by_cases h0:a=c <;> by_cases h1:b=d <;> simp[h0,h1,run_underlying Tryz.underlying52,arb,Result.andThen,p0,p1,e0,e1]
theorem wu{t:Nat}{op:BinOp}{u v:Value}{ox oy:Operand}{r:Bool}(hop:op = .eql\/op = .neq)(hg:(eqGuard op t ox oy u v).run Tryz.prog w = .ok () w)(hb:binOp op t u v=if op = .eql then (do pure (.bool (<-Op.equal t u v))) else (do pure (.bool (!(<-Op.equal t u v)))))(h:(Op.equal t u v).run Tryz.prog w = .ok r w) :
  (do eqGuard op t ox oy u v;binOp op t u v:Sem Value).run Tryz.prog w = .ok (.bool (if op = .eql then r else !r)) w:=by
 rw[hb];rcases hop with rfl|rfl <;> simp[hg,h,Result.andThen]
theorem aiX{op:BinOp}{t:Nat}{x y:V}{u v:Value}{ox oy:Operand}(hM:∀ p q,M p q->q/\(gd->p))(hgd:gd)(hx:aO G ob w x u)(hy:aO G ob w y v)(h:Oh M op t x y K) :
  ∃ r R,(do eqGuard op t ox oy u v;binOp op t u v:Sem Value).run Tryz.prog w = .ok r w/\K R/\aO G ob w R r:=by
 unfold Oh at h;split at h
 ·rename_i k a k' b
  simp only[aO,jh]at hx hy;subst hx hy;split at h
  ·rename_i hk
   obtain rfl:k=k':=jb hk;obtain⟨r,R,h1,h2⟩:=ahy (G:=G) (ob:=ob) (w:=w) (t:=t) hM hgd h;refine⟨r,R,?_,h2⟩;rw[<-h1];cases op <;> simp[eqGuard]
  ·exact h.elim
 ·simp only[aO,jh]at hx hy;subst hx hy;split at h
  ·rename_i hk
   exact⟨_,_,wu (.inl rfl) (by simp[eqGuard]) rfl (ZJ hk _ _),h,rfl⟩
  ·rename_i hk
   exact⟨_,_,wu (.inr rfl) (by simp[eqGuard]) rfl (ZJ hk _ _),h,rfl⟩
  ·exact h.elim
 ·simp only[aO,jh]at hx hy;subst hx hy;split at h
  ·exact⟨_,_,by simp[eqGuard,binOp,Op.stringOp],h,rfl⟩
  ·exact⟨_,_,by simp[eqGuard,binOp,Op.stringOp],h,rfl⟩
  ·exact h.elim
 ·simp only[aO,jh]at hx hy;obtain⟨A,c,rfl,h1,h2,h3,h4⟩:=hx;subst hy;split at h
  ·rename_i hk
   exact⟨_,_,wu (.inl rfl) (by simp[eqGuard]) rfl (Uf hk _ _ _ _ _),h.h A.isNone (λe=>by have:c=0:=h3 (by simpa using e);omega),rfl⟩
  ·exact h.elim
 ·simp only[aO,jh]at hx hy;obtain⟨A,rfl⟩:=hx;subst hy;split at h
  ·rename_i hk
   exact⟨_,_,wu (.inl rfl) (by simp[eqGuard]) rfl (Uf hk _ _ _ _ _),h.h A.isNone (λ_=>rfl),rfl⟩
  ·exact h.elim
 ·simp only[aO,jh]at hx hy;obtain⟨b,h1,rfl⟩:=hx;subst hy;split at h
  ·rename_i hk
   exact⟨_,_,wu (.inl rfl) (by simp[eqGuard]) rfl (Ph hk _),h,rfl⟩
  ·rename_i hk
   exact⟨_,_,wu (.inr rfl) (by simp[eqGuard]) rfl (Ph hk _),h,rfl⟩
  ·exact h.elim
 ·simp only[aO,jh]at hx hy;subst hx hy;split at h
  ·rename_i hk
   exact⟨_,_,wu (.inl rfl) (by simp[eqGuard]) rfl (Ph hk _),h,rfl⟩
  ·rename_i hk
   exact⟨_,_,wu (.inr rfl) (by simp[eqGuard]) rfl (Ph hk _),h,rfl⟩
  ·exact h.elim
 ·simp only[aO,jh]at hx hy;obtain⟨fs,cs,rfl,_⟩:=hx;subst hy;split at h
  ·rename_i hk
   exact⟨_,_,wu (.inl rfl) (by simp[eqGuard]) rfl (aaB hk _ _ _),h,rfl⟩
  ·rename_i hk
   exact⟨_,_,wu (.inr rfl) (by simp[eqGuard]) rfl (aaB hk _ _ _),h,rfl⟩
  ·exact h.elim
 ·simp only[aO,jh]at hx hy;subst hx hy;split at h
  ·rename_i hk
   exact⟨_,_,wu (.inl rfl) (by simp[eqGuard]) rfl (Zy hk),h,rfl⟩
  ·rename_i hk
   exact⟨_,_,wu (.inr rfl) (by simp[eqGuard]) rfl (Zy hk),h,rfl⟩
  ·exact h.elim
 ·simp only[aO]at hx hy;obtain⟨cs,rfl,hn,hc⟩:=hx;obtain⟨ds,rfl,hm,hd⟩:=hy;split at h
  ·rename_i g h' a b c d e0 e1 e2 e3 e4
   obtain rfl:t=52:=Nat.eq_of_beq_eq_true e0
   match cs,hn,hc with
   |⟨[x0,x1]⟩,_,hc=>
    match ds,hm,hd with
    |⟨[y0,y1]⟩,_,hd=>
     have q0:=(hc 0 x0 rfl).2;have q1:=(hc 1 x1 rfl).2;have r0:=(hd 0 y0 rfl).2;have r1:=(hd 1 y1 rfl).2;rw[e1]at q0;rw[e2]at q1;rw[e3]at r0;rw[e4]at r1;simp only[aO,jh]at q0 q1 r0 r1;subst q0 q1 r0 r1;exact⟨_,_,wu (.inr rfl) (am8 _ _) rfl (ahz a b c d),h,rfl⟩
  ·exact h.elim
 ·exact h.elim
end
end
section
structure aez (t:Nat) (i:TypeInfo) (z:Value):Prop where
 h:Tryz.prog.info? t=some i
 size:i.size=(tI t).size
 bytes:i.bytes=(tI t).bytes
 zero:i.zero=some z
 rel:x9 z.cells.toList (tI t).zero=true
 BC:z.cells.size=(tI t).size
 agg:(∃ cs,z = .agg cs)↔(tI t).agg=true
 fV:∀ vs,z ≠ .tuple vs
theorem EP{t:Nat}(h:(tI t).ok=true):∃ i z,aez t i z:=by
 have h1:=(XN t h).arM;rcases hi:Tryz.prog.info? t with _|i
 ·rw[hi]at h1;cases h1
 ·rw[hi]at h1;simp only[pF,Option.some.injEq,RV,qc,beq_iff_eq]at h1;obtain⟨⟨h1,h2⟩,h3⟩:=h1;rcases hz:i.zero with _|z
  ·rw[hz]at h3;cases h3
  ·rw[hz]at h3;simp only[qc,beq_iff_eq]at h3;obtain⟨⟨h3,h4⟩,h5⟩:=h3;refine⟨i,z,hi,h1,h2,hz,h3,h4,?_,?_⟩
   ·unfold uh.agg;have e:∀ a b:Nat,Nat.beq a b=(a == b):=λ_ _=>by rw[Bool.eq_iff_iff];simp[Nat.beq_eq]
    rw[e,e];cases z <;> simp_all
   ·intro vs e;subst e;simp at h5
theorem aqR{t:Nat}(h:(tI t).ok=true):∃ d,Tryz.prog.underlying t=some d/\(match d with|.struct _|.array _ _=>true|_=>false)=(tI t).agg:=by
 obtain⟨d,h1,h2⟩:=(XN t h).desc;refine⟨d,h1,?_⟩;have e:∀ a b:Nat,Nat.beq a b=(a == b):=λ_ _=>by rw[Bool.eq_iff_iff];simp[Nat.beq_eq]
 unfold uh.agg;rw[e,e];cases d <;> simp[vT]at h2 <;> simp_all
theorem aff{t:Nat}(h:(tI t).k=1):∃ fs,Tryz.prog.underlying t=some (.struct fs)/\fs.toList.map (λf=>(f.offset,f.type))=(tI t).DY:=by
 obtain⟨d,h1,h2⟩:=Ce t h qD;rw[h1];cases d <;> simp[vT,h]at h2;exact⟨_,rfl,h2⟩
theorem afe{t:Nat}(h:(tI t).k=2):Tryz.prog.underlying t=some (.array (tI t).len (tI t).elem):=by
 obtain⟨d,h1,h2⟩:=Ce t h qD;rw[h1];cases d <;> simp[vT,h]at h2;rw[h2.1,h2.2]
theorem Hm{t:Nat}(h:(tI t).k=6):Tryz.prog.underlying t=some .string:=by
 obtain⟨d,h1,h2⟩:=Ce t h qD;rw[h1];cases d <;> simp[vT,h]at h2;rfl
theorem ug(b o k:Nat):(⟨b,o,none⟩:Addr).add k=⟨b,o+k,none⟩:=by
 unfold Addr.add;split <;> simp_all
section
variable {w:World}
theorem qf{t:Nat}(h:(tI t).ok=true):(sizeOf t).run Tryz.prog w = .ok (tI t).size w:=by
 obtain⟨i,z,hi⟩:=EP h;simp[sizeOf,typeInfo,hi.h,hi.size]
theorem UW{t:Nat}(h:(tI t).ok=true):(isAgg t).run Tryz.prog w = .ok (tI t).agg w:=by
 obtain⟨d,h1,h2⟩:=aqR h;unfold isAgg;rw[Sem.run_bind,run_underlying h1 w,<-h2];cases d <;> simp[Result.andThen]
theorem Xx{t f off ft:Nat}(hk:(tI t).k=1)(hf:(tI t).DY[f]?=some (off,ft)):∃ fs x,Tryz.prog.underlying t=some (.struct fs)/\fs[f]?=some x/\x.offset=off/\x.type=ft:=by
 obtain⟨fs,h1,h2⟩:=aff hk;rw[<-h2,qY]at hf;rcases hx:fs.toList[f]? with _|x
 ·rw[hx]at hf;cases hf
 ·rw[hx]at hf;simp only[pF,Option.some.injEq,Prod.mk.injEq]at hf;exact⟨fs,x,h1,by rw[<-hx];simp,hf.1,hf.2⟩
theorem agd{t f off ft:Nat}(hk:(tI t).k=1)(hf:(tI t).DY[f]?=some (off,ft))(hok:(tI ft).ok=true)(hpos:0<(tI ft).size)(b o:Nat) :
  (Instr.fieldAt t (.pointer (some ⟨b,o,none⟩)) f).run Tryz.prog w = .ok (.pointer (some ⟨b,o+off,none⟩)) w:=by
 obtain⟨fs,x,h1,h2,h3,h4⟩:=Xx hk hf;have hz:(sizeOf x.type).run Tryz.prog w = .ok (tI ft).size w:=by rw[h4];exact qf hok
 have hp:(tI ft).size≠0:=qO;unfold Instr.fieldAt;simp[run_underlying h1,h2,Instr.sureAddr,fieldPlace,hz,hp,Result.andThen,ug,h3]
theorem Um{t:Nat}(hk:(tI t).k=3)(hok:(tI (tI t).elem).ok=true)(b o n c:Nat)(k:IntKind)(i:Int)(h0:0<=i)(h1:i<n) :
  (Instr.indexAt t (.slice (some ⟨b,o,none⟩) n c) (.int k i)).run Tryz.prog w = .ok (.pointer (some ⟨b,o+i.toNat*(tI (tI t).elem).size,none⟩)) w:=by
 have hz:=qf (w:=w) hok;unfold Instr.indexAt;simp[run_underlying (qw hk),asIntOf,Result.andThen,h0,h1,hz,ug]
theorem agc{t:Nat}(hk:(tI t).k=2)(hok:(tI (tI t).elem).ok=true)(b o:Nat)(k:IntKind)(i:Int)(h0:0<=i)(h1:i<(tI t).len)(h2:1<(tI t).len) :
  (Instr.indexAt t (.pointer (some ⟨b,o,none⟩)) (.int k i)).run Tryz.prog w = .ok (.pointer (some ⟨b,o+i.toNat*(tI (tI t).elem).size,none⟩)) w:=by
 have hz:=qf (w:=w) hok;unfold Instr.indexAt;simp[run_underlying (afe hk),asIntOf,Instr.sureAddr,Result.andThen,h0,h1,hz,ug]
theorem UU{t:Nat}(h:(tI t).ok=true)(ha:(tI t).agg=false){b o:Nat}{x:Value}(hx:w.cell? ⟨b,o,none⟩=some x) :
  (Instr.loadAt t (.pointer (some ⟨b,o,none⟩))).run Tryz.prog w = .ok x w:=by
 have h1:=UW (w:=w) h;rw[ha]at h1;simp[Instr.loadAt,Instr.sureAddr,loadVar,h1,hx,Result.andThen]
theorem UT{t:Nat}(h:(tI t).ok=true)(ha:(tI t).agg=true){b o:Nat}{cs:List Value}(hl:cs.length=(tI t).size)(hx:∀ j v,cs[j]?=some v->w.cell? ⟨b,o+j,none⟩=some v) :
  (Instr.loadAt t (.pointer (some ⟨b,o,none⟩))).run Tryz.prog w = .ok (.agg cs.toArray) w:=by
 have h1:=UW (w:=w) h;have h2:=qf (w:=w) h;rw[ha]at h1;have h3:=run_loadCells_list (P:=Tryz.prog) w ⟨b,o,none⟩ cs (λj v hv=>by rw[ug];exact hx j v hv);rw[hl]at h3;simp[Instr.loadAt,Instr.sureAddr,loadVar,h1,h2,h3,Result.andThen]
end
section
variable {G:Gh} {ob:Nat->aG} {w:World} {M:Prop->Prop->Prop} {gd:Prop} {K:V->Prop}
theorem Q5(n:Nat)(p:Nat->Value->Prop)(h:∀ k,k<n->∃ x,p k x):∃ cs:List Value,cs.length=n/\∀ k x,cs[k]?=some x->p k x:=by
 induction n with
 |zero=>exact⟨[],rfl,λk x hx=>by simp at hx⟩
 |succ n ih=>
  obtain⟨cs,hl,hc⟩:=ih (λk hk=>h k qO);obtain⟨x,hx⟩:=h n qO;refine⟨cs++[x],by simp[hl],λk y hy=>?_⟩;by_cases hk:k<cs.length
  ·rw[mO hk]at hy;exact hc k y hy
  ·rw[oW qO]at hy;have:k-cs.length=0:=by
    rcases uz (k-cs.length) with h0|h0
    ·exact h0
    ·rw[List.getElem?_eq_none (by simp;omega)]at hy;cases hy
   rw[this]at hy;simp at hy;subst hy;have:k=n:=qO;subst this;exact hx
theorem cellOf{b:Nat}{cs:Array Value}{t:TypeId}{fr:Nat×Nat}(h:w.heap[b]?=some (.cells cs t fr))(o:Nat):w.cell? ⟨b,o,none⟩=cs[o]?:=cell_of_row w b o cs t fr h
theorem aaA{t:Nat}{x:V}{u:Value}{s:ST}(hM:∀ p q,M p q->q/\(gd->p))(hgd:gd)(hg:Good G s.get w)(hx:aO G s.get w x u)(h:Jy M t x s K) :
  ∃ r R,(Instr.loadAt t u).run Tryz.prog w = .ok r w/\K R/\aO G s.get w R r:=by
 unfold Jy at h;split at h
 ·exact h.elim
 rename_i hok
 split at h
 ·rename_i i off
  obtain⟨b,hr,rfl⟩:=hx;split at h
  ·rename_i n g ho
   obtain⟨b',cs,t',hr',hh,hn,hc⟩:=hg.blk _ _ _ ho;rw[hr]at hr';injection hr' with hr'
   injection hr' with hr'
   subst hr';split at h
   ·rename_i ha
    obtain⟨h1,h2⟩:=hM _ _ h;have h2:=h2 hgd;obtain⟨l,hl,hlc⟩:=Q5 (tI t).size (λk x=>cs[off+k]?=some x) (λk hk=>⟨cs[off+k]'qO,uU _⟩);exact⟨_,_,UT hok ha hl (λj v hv=>(cellOf hh _).trans (hlc j v hv)),h1,_,rfl,by simpa using hl,λk x hx=>hc _ _ (hlc k x (by simpa using hx))⟩
   ·rename_i ha
    obtain⟨h1,h2⟩:=hM _ _ h;have h2:=h2 hgd;have hx:=uU (xs:=cs) (i:=off) qO;exact⟨_,_,UU hok ha ((cellOf hh _).trans hx),h1,(hc _ _ hx).2⟩
  ·exact h.elim
 ·rename_i i n j c
  obtain⟨A,cc,hr,⟨a,hu⟩,hv⟩:=hx;split at h
  ·rename_i E z m g ho
   obtain⟨hEo,hE,hz,A',c',hr',hrow⟩:=hg.row _ _ _ _ _ ho;rw[hr]at hr';injection hr' with hr'
   injection hr' with hr' hr2
   subst hr' hr2;have hv:=(hv _ _ _ _ ho).2;split at h
   ·rename_i ha
    obtain⟨h1,h2⟩:=hM _ _ h;obtain⟨rfl,hj,hcz⟩:=h2 hgd;obtain⟨b,rfl,rfl⟩:=hv rfl;rcases hrow with ⟨_,h0⟩|⟨_,b',cs,hb',hh,hsz,hnc,hcm,hcell⟩
    ·omega
    injection hb' with hb'
    injection hb' with hb'
    subst hb';obtain⟨l,hl,hlc⟩:=Q5 (tI t).size (λk x=>cs[j*z+(c+k)]?=some x/\x.oneCell'=true/\aO G s.get w (g j (c+k)) x) (λk hk=>hcell j hj (c+k) qO);exact⟨_,_,UT hok ha hl (λk v hv=>by rw[cellOf hh,Nat.add_assoc];exact(hlc k v hv).1),h1,_,rfl,by simpa using hl,λk x hx=>(hlc k x (by simpa using hx)).2⟩
   ·rename_i ha
    obtain⟨h1,h2⟩:=hM _ _ h;obtain⟨rfl,hj,hcz⟩:=h2 hgd;obtain⟨b,rfl,rfl⟩:=hv rfl;rcases hrow with ⟨_,h0⟩|⟨_,b',cs,hb',hh,hsz,hnc,hcm,hcell⟩
    ·omega
    injection hb' with hb'
    injection hb' with hb'
    subst hb';obtain⟨x,hx,ho1,hv1⟩:=hcell j hj c hcz;exact⟨_,_,UU hok ha ((cellOf hh _).trans hx),h1,hv1⟩
  ·exact h.elim
 ·rename_i n g
  obtain⟨b,off,rfl,h1,h2⟩:=hx;split at h
  ·rename_i ha
   obtain⟨h3,h4⟩:=hM _ _ h;have h4:=h4 hgd;obtain⟨l,hl,hlc⟩:=Q5 (tI t).size (λk x=>w.cell? ⟨b,off+k,none⟩=some x/\x.oneCell'=true/\jh G.F w (g k) x) (λk hk=>h2 k qO);exact⟨_,_,UT hok ha hl (λk v hv=>(hlc k v hv).1),h3,_,rfl,by simpa using hl,λk x hx=>(hlc k x (by simpa using hx)).2⟩
  ·rename_i ha
   obtain⟨h3,h4⟩:=hM _ _ h;have h4:=h4 hgd;obtain⟨x,hx,ho,hd⟩:=h2 0 h4;exact⟨_,_,UU hok ha hx,h3,hd⟩
 ·exact h.elim
end
end
section
theorem dH{a b:Nat}(h:Nat.beq a b=true):a=b:=Nat.eq_of_beq_eq_true h
section
variable {G:Gh} {w:World} {M:Prop->Prop->Prop} {gd:Prop} {K:V->Prop} {s:ST}
theorem rowOf(hg:Good G s.get w){i E z m n:Nat}{g:Nat->Nat->V}{A:Option Addr}{c:Nat}(ho:s.get i = .row E z m g)(hr:G.ρ i=some (.row A c)):(tI E).ok=true/\(tI E).size=z/\0<z/\DN G s.get w E z m g A c:=by
 obtain⟨h1,h2,h3,A',c',hr',h4⟩:=hg.row _ _ _ _ _ ho;rw[hr]at hr';injection hr' with hr'
 injection hr' with hr' hr2
 subst hr' hr2;exact⟨h1,h2,h3,h4⟩
theorem agG{t:Nat}{x ix:V}{u v:Value}(hM:∀ p q,M p q->q/\(gd->p))(hgd:gd)(hg:Good G s.get w)(hx:aO G s.get w x u)(hi:aO G s.get w ix v)(h:MB M t x ix s K) :
  ∃ r R,(Instr.indexAt t u v).run Tryz.prog w = .ok r w/\K R/\aO G s.get w R r:=by
 unfold MB at h;split at h;rotate_left
 ·exact h.elim
 rename_i q i
 simp only[aO,jh]at hi;subst hi;split at h
 ·rename_i n z g
  split at h;rotate_left
  ·exact h.elim
  rename_i hz hk hok
  obtain⟨h1,h2⟩:=hM _ _ h;obtain⟨h2,h3⟩:=h2 hgd;obtain⟨A,c,rfl,h4,h5,h6,h7⟩:=hx;rw[qc,Nat.blt_eq]at hz;obtain⟨hz,h0⟩:=hz;have hi0:i.toNat<n:=qO;obtain⟨b,off,x,rfl,hf,hb,hc⟩:=h7 i.toNat hi0 0 h0;refine⟨_,_,Um hk hok _ _ _ _ _ _ h2 h3,h1,b,off+i.toNat*(tI (tI t).elem).size,rfl,λ_=>⟨hf,hb⟩,λk hk'=>?_⟩;obtain⟨b',off',x',he,hf',hb',hc',ho',hd'⟩:=h7 i.toNat hi0 k hk';injection he with he
  injection he with he1 he2
  subst he1 he2;exact⟨x',by rw[<-dH hz,Nat.add_assoc];exact hc',ho',hd'⟩
 ·rename_i r n
  obtain⟨A,c,hr,hu',hu⟩:=hx;split at h;rotate_left
  ·exact h.elim
  rename_i E z m g ho hk hok
  split at h;rotate_left
  ·exact h.elim
  rename_i hE
  obtain rfl:=dH hE;obtain⟨h1,h2⟩:=hM _ _ h;obtain⟨rfl,h2,h3⟩:=h2 hgd;obtain⟨q1,q2,q3,q4⟩:=rowOf (n:=0) hg ho hr;obtain rfl:=(hu _ _ _ _ ho).2 rfl;rcases q4 with ⟨_,h0⟩|⟨_,b,cs,rfl,q5⟩
  ·omega
  refine⟨_,_,Um hk hok _ _ _ _ _ _ h2 h3,h1,_,_,hr,⟨_,rfl⟩,λE' s' m' g' ho'=>?_⟩;rw[ho]at ho';injection ho' with e1 e2 e3 e4
  subst e3 e2;exact⟨bu _,λ_=>⟨b,rfl,by rw[jm,q2,Nat.add_zero]⟩⟩
 ·rename_i r n lo m
  obtain⟨A,c,hr,hu',hu⟩:=hx;split at h;rotate_left
  ·exact h.elim
  rename_i E z q' g ho hk hok
  split at h;rotate_left
  ·exact h.elim
  rename_i hE
  obtain rfl:=dH hE;obtain⟨h1,h2⟩:=hM _ _ h;obtain⟨rfl,hlo,h2,h3⟩:=h2 hgd;obtain⟨q1,q2,q3,q4⟩:=rowOf (n:=0) hg ho hr;obtain⟨B,c',rfl,hmc,hcm,hB,Zq,_⟩:=(hu _ _ _ _ ho).2 rfl;rcases q4 with ⟨_,h0⟩|⟨_,b,cs,rfl,q5⟩
  ·omega
  have hB':=Zq qO;rw[pF,ug,jm]at hB';subst hB';refine⟨_,_,Um hk hok _ _ _ _ _ _ h2 h3,h1,_,_,hr,⟨_,rfl⟩,λE' s' m' g' ho'=>?_⟩;rw[ho]at ho';injection ho' with e1 e2 e3 e4
  subst e3 e2;exact⟨bu _,λ_=>⟨b,rfl,by rw[q2,Nat.add_mul,Nat.add_zero]⟩⟩
 ·rename_i r off
  obtain⟨b,hr,rfl⟩:=hx;split at h;rotate_left
  ·exact h.elim
  rename_i hk hok hl
  obtain⟨h1,h2⟩:=hM _ _ h;obtain⟨h2,h3⟩:=h2 hgd;exact⟨_,_,agc hk hok _ _ _ _ h2 h3 (by simpa [Nat.blt_eq] using hl),h1,b,hr,rfl⟩
 ·exact h.elim
theorem CP{t:Nat}(hk:(tI t).k=3)(hok:(tI (tI t).elem).ok=true)(A:Option Addr)(n c:Nat)(lo hi:Option Value)(l h:Nat)(hh:hi=none/\h=n\/∃ k,hi=some (.int k (h:Int)))(hl:lo=none/\l=0\/∃ k,lo=some (.int k (l:Int)))(h1:l<=h)(h2:h<=c) :
  (Instr.sliceAt t (.slice A n c) lo hi none).run Tryz.prog w = .ok (.slice (if c=l then A else A.map (·.add (l*(tI (tI t).elem).size))) (h-l) (c-l)) w:=by
 have hz:=qf (w:=w) hok;have hlh:(l:Int)<=(h:Int):=qO;have hhc:(h:Int)<=(c:Int):=qO;have h0:(0:Int)<=(l:Int):=qO;have h00:(0:Int)<=(h:Int):=qO;unfold Instr.sliceAt Instr.slice;rcases hh with ⟨rfl,rfl⟩|⟨k,rfl⟩ <;> rcases hl with ⟨rfl,rfl⟩|⟨k',rfl⟩ <;> simp[run_underlying (qw hk),Instr.sliceBounds,Instr.sliceBound,asIntOf,Result.andThen,hz,hlh,hhc,h0,h00,h1,h2]
theorem ZY{t:Nat}(hk:(tI t).k=3)(hok:(tI (tI t).elem).ok=true)(A:Option Addr)(n c:Nat)(k k' k2:IntKind)(l h q:Nat)(h1:l<=h)(h2:h<=q)(h3:q<=c) :
  ∃ r,(Instr.sliceAt t (.slice A n c) (some (.int k (l:Int))) (some (.int k' (h:Int))) (some (.int k2 (q:Int)))).run Tryz.prog w = .ok r w:=by
 have hz:=qf (w:=w) hok;have e1:(l:Int)<=(h:Int):=qO;have e2:(h:Int)<=(q:Int):=qO;have e3:(q:Int)<=(c:Int):=qO;have h0:(0:Int)<=(l:Int):=qO;have h00:(0:Int)<=(h:Int):=qO;have ar1:(0:Int)<=(q:Int):=qO;unfold Instr.sliceAt Instr.slice;exact⟨_,by simp[run_underlying (qw hk),Instr.sliceBounds,Instr.sliceBound,asIntOf,Result.andThen,hz,e1,e2,e3,h0,h00,ar1,h1,h2,h3];rfl⟩
theorem tq{h:Int}(h0:0<=h):h=((h.toNat:Nat):Int):=qO
theorem Wn{A:Option Addr}{n z c l m:Nat}{g:Nat->Nat->D}(hx:jh G.F w (.sl n z g) (.slice A n c))(hlm:l+m<=n):jh G.F w (.sl m z (λj=>g (l+j))) (.slice (if c=l then A else A.map (·.add (l*z))) m (c-l)):=by
 obtain⟨A',c',he,h4,h5,h6,h7⟩:=hx;injection he with e1 e2 e3
 subst e1 e3;refine⟨_,_,rfl,by omega,by omega,λe=>?_,λj hj k hk=>?_⟩
 ·split at e
  ·omega
  ·rcases A with _|a
   ·have:=h6 rfl;omega
   ·cases e
 ·obtain⟨b,off,x,rfl,hf,hb,hc,ho,hd⟩:=h7 (l+j) qO k hk;rw[if_neg qO,pF,ug];exact⟨b,off+l*z,x,rfl,hf,hb,by rw[<-hc,Nat.add_mul,Nat.add_assoc,Nat.add_assoc],ho,hd⟩
theorem QV{i n lo m c:Nat}{A:Option Addr}{E z r:Nat}{g:Nat->Nat->V}(ho:s.get i = .row E z r g)(hr:G.ρ i=some (.row A c))(hn:n=r)(hnc:n<=c)(hcm:c<=maxLen)(hA:A=none->c=0)(hlm:lo+m<=n):aO G s.get w (.vw i n lo m) (.slice (if c=lo then A else A.map (·.add (lo*z))) m (c-lo)):=by
 refine⟨A,c,hr,⟨_,_,rfl⟩,λE' s' q g' ho'=>?_⟩;rw[ho]at ho';injection ho' with e1 e2 e3 e4
 subst e3 e2;refine⟨by omega,λ_=>⟨_,_,rfl,by omega,by omega,λe=>?_,λhm=>by rw[if_neg qO],rfl,λhm=>by rw[if_neg qO]⟩⟩;split at e
 ·omega
 ·rcases A with _|a
  ·have:=hA rfl;omega
  ·cases e
theorem Xh{i n lo l m c:Nat}{A B:Option Addr}{E z r c':Nat}{g:Nat->Nat->V}(ho:s.get i = .row E z r g)(hr:G.ρ i=some (.row A c))(hn:n=r)(hnc:n<=c)(hcm:c<=maxLen)(hA:A=none->c=0)(hA2:0<c->∃ b,A=some ⟨b,0,none⟩)(hc:c'=c-lo)(hB:0<c'->B=A.map (·.add (lo*z)))(hlm:lo+l+m<=n):aO G s.get w (.vw i n (lo+l) m) (.slice (if c'=l then B else B.map (·.add (l*z))) m (c'-l)):=by
 have e:c'-l=c-(lo+l):=qO;refine⟨A,c,hr,⟨_,_,rfl⟩,λE' s' q g' ho'=>?_⟩;rw[ho]at ho';injection ho' with e1 e2 e3 e4
 subst e3 e2;have hb:0<c'-l->(if c'=l then B else B.map (·.add (l*z)))=A.map (·.add ((lo+l)*z)):=λh=>by
  rw[if_neg qO,hB qO];obtain⟨b,rfl⟩:=hA2 qO;rw[pF,pF,pF,ug,ug,ug,Nat.add_mul,jm,jm]
 refine⟨by omega,λ_=>⟨_,_,rfl,by omega,by omega,λe=>?_,λhm=>hb qO,e,hb⟩⟩;rcases uz (c'-l) with h|h
 ·exact h
 ·rw[hb h]at e;obtain⟨b,rfl⟩:=hA2 qO;cases e
theorem acV{E z n c:Nat}{g:Nat->Nat->V}{A:Option Addr}(h:DN G s.get w E z n g A c)(hc:0<c):∃ b,A=some ⟨b,0,none⟩:=by
 rcases h with ⟨h1,h2⟩|⟨h1,b,cs,h2,_⟩
 ·omega
 ·exact⟨b,h2⟩
theorem Dp{E z n c:Nat}{g:Nat->Nat->V}{A:Option Addr}(h:DN G s.get w E z n g A c):n<=c/\c<=maxLen/\(A=none->c=0):=by
 rcases h with ⟨h1,h2⟩|⟨h1,b,cs,h2,h3,h4,h5,h6,_⟩
 ·exact⟨by omega,by unfold maxLen;omega,λ_=>h1⟩
 ·exact⟨h5,h6,λe=>by rw[h2]at e;cases e⟩
def Jq(G:Gh)(s:ST)(w:World):Option V->Option Value->Prop
 |none,none=>True
 |some v,some u=>aO G s.get w v u
 |_,_=>False
theorem agF{t:Nat}{x:V}{u:Value}{lo hi mx:Option V}{Ac Dk XL:Option Value}(hM:∀ p q,M p q->q/\(gd->p))(hgd:gd)(hg:Good G s.get w)(hx:aO G s.get w x u)(hlo:Jq G s w lo Ac)(hhi:Jq G s w hi Dk)(hmx:Jq G s w mx XL)(h:L9 M t x lo hi mx s K) :
  ∃ r R,(Instr.sliceAt t u Ac Dk XL).run Tryz.prog w = .ok r w/\K R/\aO G s.get w R r:=by
 have Be:∀ {y:Option Value},Jq G s w none y->y=none:=λ{y} h=>by cases y;rfl;exact h.elim
 have sH:∀ {y:Option Value} {k:IntKind} {i:Int},Jq G s w (some (.d (.v (.int k i)))) y->y=some (.int k i):=λ{y k i} h=>by
  cases y with
  |none=>exact h.elim
  |some y=>rw[show y = .int k i from h]
 unfold L9 at h;split at h
 ·rename_i hk hok
  obtain rfl:=Be hmx;split at h
  ·rename_i n z g
   obtain⟨A,c,rfl,h4,h5,h6,h7⟩:=id hx;split at h
   ·rename_i hh hz
    obtain rfl:=Be hlo;obtain rfl:=sH hhi;obtain⟨h1,h2⟩:=hM _ _ h;obtain⟨h2,h3⟩:=h2 hgd;obtain rfl:=dH hz;have r:=Wn (l:=0) (m:=hh.toNat) hx qO;simp only[jm]at r;exact⟨_,_,CP hk hok A n c _ _ 0 hh.toNat (.inr ⟨_,by rw[<-tq h2]⟩) (.inl ⟨rfl,rfl⟩) qO qO,h1,r⟩
   ·rename_i ll hz
    obtain rfl:=Be hhi;obtain rfl:=sH hlo;obtain⟨h1,h2⟩:=hM _ _ h;obtain⟨h2,h3⟩:=h2 hgd;obtain rfl:=dH hz;have r:=Wn (l:=ll.toNat) (m:=n-ll.toNat) hx qO;exact⟨_,_,CP hk hok A n c _ _ ll.toNat n (.inl ⟨rfl,rfl⟩) (.inr ⟨_,by rw[<-tq h2]⟩) qO qO,h1,r⟩
   ·rename_i ll _ hh hz
    obtain rfl:=sH hlo;obtain rfl:=sH hhi;obtain⟨h1,h2⟩:=hM _ _ h;obtain⟨h2,h3,h8⟩:=h2 hgd;obtain rfl:=dH hz;have r:=Wn (l:=ll.toNat) (m:=hh.toNat-ll.toNat) hx qO;exact⟨_,_,CP hk hok A n c _ _ ll.toNat hh.toNat (.inr ⟨_,by rw[<-tq qO]⟩) (.inr ⟨_,by rw[<-tq h2]⟩) qO qO,h1,r⟩
   ·exact h.elim
  ·rename_i i n
   obtain⟨A,c,hr,hu',hu⟩:=hx;split at h
   ·rename_i E z r g ho
    obtain⟨q1,q2,q3,q4⟩:=rowOf (n:=0) hg ho hr;obtain⟨q5,q6,q7⟩:=Dp q4;split at h
    ·rename_i hh hE
     obtain rfl:=dH hE;obtain rfl:=Be hlo;obtain rfl:=sH hhi;obtain⟨h1,h2⟩:=hM _ _ h;obtain⟨rfl,h2,h3⟩:=h2 hgd;obtain rfl:=(hu _ _ _ _ ho).2 rfl;subst q2;exact⟨_,_,CP hk hok A n c _ _ 0 hh.toNat (.inr ⟨_,by rw[<-tq h2]⟩) (.inl ⟨rfl,rfl⟩) qO qO,h1,QV (lo:=0) (m:=hh.toNat) ho hr rfl q5 q6 q7 qO⟩
    ·rename_i ll hE
     obtain rfl:=dH hE;obtain rfl:=Be hhi;obtain rfl:=sH hlo;obtain⟨h1,h2⟩:=hM _ _ h;obtain⟨rfl,h2,h3⟩:=h2 hgd;obtain rfl:=(hu _ _ _ _ ho).2 rfl;subst q2;exact⟨_,_,CP hk hok A n c _ _ ll.toNat n (.inl ⟨rfl,rfl⟩) (.inr ⟨_,by rw[<-tq h2]⟩) qO qO,h1,QV (lo:=ll.toNat) (m:=n-ll.toNat) ho hr rfl q5 q6 q7 qO⟩
    ·rename_i ll _ hh hE
     obtain rfl:=dH hE;obtain rfl:=sH hlo;obtain rfl:=sH hhi;obtain⟨h1,h2⟩:=hM _ _ h;obtain⟨rfl,h2,h3,h8⟩:=h2 hgd;obtain rfl:=(hu _ _ _ _ ho).2 rfl;subst q2;exact⟨_,_,CP hk hok A n c _ _ ll.toNat hh.toNat (.inr ⟨_,by rw[<-tq qO]⟩) (.inr ⟨_,by rw[<-tq h2]⟩) qO qO,h1,QV (lo:=ll.toNat) (m:=hh.toNat-ll.toNat) ho hr rfl q5 q6 q7 qO⟩
    ·exact h.elim
   ·exact h.elim
  ·rename_i i n zi q
   obtain⟨A,c,hr,hu',hu⟩:=hx;split at h
   ·rename_i E z r g ho
    obtain⟨q1,q2,q3,q4⟩:=rowOf (n:=0) hg ho hr;obtain⟨q5,q6,q7⟩:=Dp q4;have q8:=acV q4;subst q2;split at h
    ·rename_i hh hE
     obtain rfl:=dH hE;obtain rfl:=Be hlo;obtain rfl:=sH hhi;obtain⟨h1,h2⟩:=hM _ _ h;obtain⟨rfl,h2,h3⟩:=h2 hgd;obtain⟨B,c',rfl,p1,p2,p3,p4,p5,p6⟩:=(hu _ _ _ _ ho).2 rfl;exact⟨_,_,CP hk hok B q c' _ _ 0 hh.toNat (.inr ⟨_,by rw[<-tq h2]⟩) (.inl ⟨rfl,rfl⟩) qO qO,h1,Xh (l:=0) (m:=hh.toNat) ho hr rfl q5 q6 q7 q8 p5 p6 qO⟩
    ·rename_i ll hE
     obtain rfl:=dH hE;obtain rfl:=Be hhi;obtain rfl:=sH hlo;obtain⟨h1,h2⟩:=hM _ _ h;obtain⟨rfl,h2,h3,h4⟩:=h2 hgd;obtain⟨B,c',rfl,p1,p2,p3,p4,p5,p6⟩:=(hu _ _ _ _ ho).2 rfl;exact⟨_,_,CP hk hok B q c' _ _ ll.toNat q (.inl ⟨rfl,rfl⟩) (.inr ⟨_,by rw[<-tq h2]⟩) qO qO,h1,Xh (l:=ll.toNat) (m:=q-ll.toNat) ho hr rfl q5 q6 q7 q8 p5 p6 qO⟩
    ·rename_i ll _ hh hE
     obtain rfl:=dH hE;obtain rfl:=sH hlo;obtain rfl:=sH hhi;obtain⟨h1,h2⟩:=hM _ _ h;obtain⟨rfl,h2,h3,h8⟩:=h2 hgd;obtain⟨B,c',rfl,p1,p2,p3,p4,p5,p6⟩:=(hu _ _ _ _ ho).2 rfl;exact⟨_,_,CP hk hok B q c' _ _ ll.toNat hh.toNat (.inr ⟨_,by rw[<-tq qO]⟩) (.inr ⟨_,by rw[<-tq h2]⟩) qO qO,h1,Xh (l:=ll.toNat) (m:=hh.toNat-ll.toNat) ho hr rfl q5 q6 q7 q8 p5 p6 qO⟩
    ·exact h.elim
   ·exact h.elim
  ·exact h.elim
 ·rename_i qk qq hk hok
  obtain rfl:=sH hmx;split at h
  ·rename_i i n kl ll kh hh
   obtain⟨A,c,hr,hu',hu⟩:=hx;obtain rfl:=sH hlo;obtain rfl:=sH hhi;split at h
   ·rename_i E z r g ho
    obtain⟨q1,q2,q3,q4⟩:=rowOf (n:=0) hg ho hr;obtain⟨q5,q6,q7⟩:=Dp q4;split at h
    ·obtain⟨h1,h2⟩:=hM _ _ h;obtain⟨rfl,h2,h3,h4,h5⟩:=h2 hgd;obtain rfl:=(hu _ _ _ _ ho).2 rfl;obtain⟨v,hv⟩:=ZY (w:=w) hk hok A n c kl kh qk ll.toNat hh.toNat qq.toNat qO qO qO;rw[<-tq qO,<-tq qO,<-tq qO]at hv;exact⟨_,_,hv,h1,trivial⟩
    ·exact h.elim
   ·exact h.elim
  ·rename_i i n zi m kl ll kh hh
   obtain⟨A,c,hr,hu',hu⟩:=hx;obtain rfl:=sH hlo;obtain rfl:=sH hhi;split at h
   ·rename_i E z r g ho
    obtain⟨q1,q2,q3,q4⟩:=rowOf (n:=0) hg ho hr;obtain⟨q5,q6,q7⟩:=Dp q4;split at h
    ·obtain⟨h1,h2⟩:=hM _ _ h;obtain⟨rfl,h2,h3,h4,h5⟩:=h2 hgd;obtain⟨B,c',rfl,p1,p2,p3,p4,p5,p6⟩:=(hu _ _ _ _ ho).2 rfl;obtain⟨v,hv⟩:=ZY (w:=w) hk hok B m c' kl kh qk ll.toNat hh.toNat qq.toNat qO qO qO;rw[<-tq qO,<-tq qO,<-tq qO]at hv;exact⟨_,_,hv,h1,trivial⟩
    ·exact h.elim
   ·exact h.elim
  ·exact h.elim
 ·rename_i hk
  obtain rfl:=Be hmx;split at h
  ·rename_i b
   simp only[aO,jh]at hx;subst hx;split at h
   ·rename_i q hh
    obtain rfl:=Be hlo;obtain rfl:=sH hhi;obtain⟨h1,h2⟩:=hM _ _ h;obtain⟨h2,h3⟩:=h2 hgd;exact⟨_,_,by unfold Instr.sliceAt Instr.slice;simp[run_underlying (Hm hk),Instr.sliceBounds,Instr.sliceBound,asIntOf,Result.andThen,h2,h3],h1,rfl⟩
   ·rename_i q ll
    obtain rfl:=Be hhi;obtain rfl:=sH hlo;obtain⟨h1,h2⟩:=hM _ _ h;obtain⟨h2,h3⟩:=h2 hgd;exact⟨_,_,by unfold Instr.sliceAt Instr.slice;simp[run_underlying (Hm hk),Instr.sliceBounds,Instr.sliceBound,asIntOf,Result.andThen,h2,h3],h1,rfl⟩
   ·exact h.elim
  ·exact h.elim
 ·exact h.elim
theorem aiW{t ty:Nat}{x:V}{u:Value}(hg:Good G s.get w)(hx:aO G s.get w x u)(h:Td t x s K) :
  ∃ r R,(Builtin.len_ #[t] ty #[u]).run Tryz.prog w = .ok r w/\K R/\aO G s.get w R r:=by
 unfold Td at h;split at h
 ·rename_i n z g hk
  obtain⟨A,c,rfl,_⟩:=hx;exact⟨_,_,by simp[Builtin.len_,run_underlying (qw hk)];rfl,h,rfl⟩
 ·rename_i i n hk
  obtain⟨A,c,hr,⟨A',c',rfl⟩,_⟩:=hx;exact⟨_,_,by simp[Builtin.len_,run_underlying (qw hk)];rfl,h,rfl⟩
 ·rename_i i n lo m hk
  obtain⟨A,c,hr,⟨A',c',rfl⟩,_⟩:=hx;exact⟨_,_,by simp[Builtin.len_,run_underlying (qw hk)];rfl,h,rfl⟩
 ·rename_i hk
  obtain⟨A,rfl⟩:=hx;exact⟨_,_,by simp[Builtin.len_,run_underlying (qw hk)];rfl,h,rfl⟩
 ·rename_i b hk
  simp only[aO,jh]at hx;subst hx;exact⟨_,_,by simp[Builtin.len_,run_underlying (Hm hk)];rfl,h,rfl⟩
 ·exact h.elim
end
end
end Go.Proofs.YtnibdnahojjcgaaGreat
