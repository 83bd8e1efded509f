/- A part of the proof. -/
import Derived.Test.YtnibdnahojjcgaaGreatB03
import Derived.Test.YtnibdnahojjcgaaGreatB05
import Derived.Test.YtnibdnahojjcgaaGreatB06
namespace Go.Proofs.YtnibdnahojjcgaaGreat
set_option maxRecDepth 100000
set_option maxHeartbeats 16000000
set_option linter.unusedVariables false
set_option linter.unusedSimpArgs false
open Go.RowKit
section
structure Cx (t:ST) where
 G:Gh
 w:World
 hg:bV G t w
 ds:List Deferred
structure Ud (ds:List Deferred) (G:Gh) (s:AS) (a:Act) (w:World):Prop extends oG G s a w where
 df:a.defers=ds
def Cx.t{t:ST}(X:Cx t):ST:=t
def Mod{t0:ST}(X:Cx t0)(s:AS)(a:Act)(w:World):Prop:=∃ G,bV G s.s w/\Ud X.ds G s a w/\Stp X.G X.t.get X.w G s.s.get w
theorem ajC{s:AS}{d:Option Nat}{v:V}{t:ST}{j:Nat}:dG (s.put d v t).sl j=if d=some j then v else dG s.sl j:=by
 cases d with
 |none=>rw[if_neg (by intro e;cases e)];rfl
 |some k=>
  show(bif Nat.beq k j then v else dG s.sl j)=_;rcases h:Nat.beq k j with _|_
  ·rw[if_neg (λe=>by injection e with e;subst e;simp at h)];rfl
  ·rw[if_pos (by rw[dH h])];rfl
section
variable {t0:ST} {X:Cx t0} {G:Gh} {w w':World} {t:ST} {s:AS} {o:Oper} {a:Act} {K:V->ST->Prop}
theorem ahq{G':Gh}{t':ST}{d:Option Nat}{v:Value}{x:V}(hs:oG G s a w)(hg:Good G s.s.get w)(hst:Stp G s.s.get w G' t'.get w')(hf:s.fits d=true)(hv:aO G' t'.get w' x v):oG G' (s.put d x t') (a.put d v) w':=by
 refine⟨?_,λj=>?_⟩
 ·cases d <;> simp[Act.put,AS.put,hs.nt]
 ·rw[ajC];have hold:aO G' t'.get w' (dG s.sl j) (a.tmps.getD j undef):=(hs.sl j).dS hst hg;have e:(s.put d x t').s=t':=by cases d <;> rfl
  rw[e];cases d with
  |none=>rw[if_neg (by intro e;cases e)];exact hold
  |some k=>
   have hk:k<a.tmps.size:=by rw[hs.nt];exact lS hf
   by_cases hkj:k=j
   ·subst hkj;rw[if_pos rfl];simp only[Act.put];rw[uy,Array.getElem?_setIfInBounds,if_pos rfl,if_pos hk];exact hv
   ·rw[if_neg (by intro e;injection e with e;exact hkj e)];simp only[Act.put];rw[uy,Array.getElem?_setIfInBounds,if_neg hkj,<-uy];exact hold
theorem LK{G':Gh}{t':ST}{d:Option Nat}{v:Value}{x:V}(hx:Stp X.G X.t.get X.w G s.s.get w)(hs:Ud X.ds G s a w)(hg:Good G s.s.get w)(lU:bV G' t' w')(hst:Stp G s.s.get w G' t'.get w')(hf:s.fits d=true)(hv:aO G' t'.get w' x v):Mod X (s.put d x t') (a.put d v) w':=by
 have e:(s.put d x t').s=t':=by cases d <;> rfl
 exact⟨G',by rw[e];exact lU,⟨ahq hs.tooG hg hst hf hv,by cases d <;> simp[Act.put,hs.df]⟩,by rw[e];exact hx.trans hst⟩
theorem eu.step(hx:Stp X.G X.t.get X.w G s.s.get w)(hs:Ud X.ds G s a w)(hg:bV G s.s w)(hf:s.fits o.dst=true)(h:eu o a G s.s w K):o.wp Tryz.prog a w (λa' w'=>∃ x t',K x t'/\Mod X (s.put o.dst x t') a' w') (λ_ _ _=>False):=by
 unfold eu at h;unfold Oper.wp Oper.upon at *;have fin:∀ a' w',(∃ v V t' G',a'=a.put o.dst v/\K V t'/\bV G' t' w'/\Stp G s.s.get w G' t'.get w'/\aO G' t'.get w' V v)->∃ x t',K x t'/\Mod X (s.put o.dst x t') a' w':=by
  rintro a' w' ⟨v,V,t',G',rfl,hk,lU,hst,hv⟩;exact⟨V,t',hk,LK hx hs hg.aK lU hst hf hv⟩
 split at h
 ·exact fin _ _ h
 ·exact fin _ _ h
 ·exact fin _ _ h
 ·refine h.mono λe w' hh=>?_
  rcases e with x|x|x
  ·exact fin _ _ hh
  ·exact hh
  ·exact hh
 ·exact h.mono λv w' hh=>fin _ _ hh
 ·exact h
 ·exact h
def QQ:V->V
 |.ku _ _ v=>v
 |v=>v
theorem agT(s:AS)(j:Nat):dG (ql s).sl j=QQ (dG s.sl j):=by
 unfold ql;simp only;generalize s.sl=l;induction l with
 |nil=>rfl
 |cons p l ih=>
  obtain⟨k,v⟩:=p;show(bif Nat.beq k j then _ else dG _ j)=QQ (bif Nat.beq k j then v else dG l j);cases Nat.beq k j
  ·exact ih
  ·cases v <;> rfl
def only(s:AS)(l:List Operand):AS:=⟨s.nt,l.filterMap (fun|.tmp t=>some (t,dG s.sl t)|_=>none),s.s⟩
theorem ah6(s:AS)(l:List Operand)(j:Nat):dG (only s l).sl j = .top\/(.tmp j∈l/\dG (only s l).sl j=dG s.sl j):=by
 unfold only;simp only;induction l with
 |nil=>exact .inl rfl
 |cons x l ih=>
  cases x with
  |tmp t=>
   rw[List.filterMap_cons_some (by rfl)];show(bif Nat.beq t j then _ else dG _ j)=_\/(_/\(bif Nat.beq t j then _ else dG _ j)=_);rcases h:Nat.beq t j with _|_
   ·rcases ih with ih|⟨ih1,ih2⟩
    ·exact .inl ih
    ·exact .inr ⟨je _ ih1,ih2⟩
   ·have:=dH h;subst this;exact .inr ⟨jC,rfl⟩
  |const v=>
   rw[List.filterMap_cons_none (by rfl)];exact ih.imp id λh=>⟨je _ h.1,h.2⟩
  |global v=>
   rw[List.filterMap_cons_none (by rfl)];exact ih.imp id λh=>⟨je _ h.1,h.2⟩
  |func v=>
   rw[List.filterMap_cons_none (by rfl)];exact ih.imp id λh=>⟨je _ h.1,h.2⟩
theorem ajo(s:AS)(l:List Operand)(t:Nat)(h : .tmp t∈l):dG (only s l).sl t=dG s.sl t:=by
 unfold only;simp only;induction l with
 |nil=>cases h
 |cons x l ih=>
  have go : .tmp t∈l->dG (l.filterMap (fun|.tmp t=>some (t,dG s.sl t)|_=>none)) t=dG s.sl t:=ih;cases x with
  |tmp t'=>
   rw[List.filterMap_cons_some (by rfl)];show(bif Nat.beq t' t then _ else dG _ t)=_;rcases h':Nat.beq t' t with _|_
   ·rcases List.mem_cons.1 h with e|e
    ·injection e with e;subst e;simp at h'
    ·exact go e
   ·rw[dH h'];rfl
  |const v=>
   rw[List.filterMap_cons_none (by rfl)];exact go ((List.mem_cons.1 h).resolve_left (by intro e;cases e))
  |global v=>
   rw[List.filterMap_cons_none (by rfl)];exact go ((List.mem_cons.1 h).resolve_left (by intro e;cases e))
  |func v=>
   rw[List.filterMap_cons_none (by rfl)];exact go ((List.mem_cons.1 h).resolve_left (by intro e;cases e))
theorem Wx(s:AS)(l:List Operand)(x:Operand)(h:x∈l):(only s l).ev x=s.ev x:=by
 cases x with
 |tmp t=>exact ajo s l t h
 |const v=>rfl
 |global v=>rfl
 |func v=>rfl
theorem ajn{s s3:AS}{M:Prop->Prop->Prop}{C:Nat->List V->ST->(V->ST->Prop)->Prop}{op:Op}(hst:s3.s=s.s)(h:∀ x∈op.operands.toList,s3.ev x=s.ev x)(hc:calm op=true):dD M C op s3 K=dD M C op s K:=by
 cases op
 case move x=>simp only[dD,h x (by simp[Op.operands]),hst]
 case pick x y z=>simp only[dD,h x (by simp[Op.operands]),h y (by simp[Op.operands]),h z (by simp[Op.operands]),hst]
 case load t x=>simp only[dD,h x (by simp[Op.operands]),hst]
 case fieldAddr t x f=>simp only[dD,h x (by simp[Op.operands]),hst]
 case field t x f=>simp only[dD,h x (by simp[Op.operands]),hst]
 case indexAddr t x y=>simp only[dD,h x (by simp[Op.operands]),h y (by simp[Op.operands]),hst]
 case lookup t x y ok=>simp only[dD,h x (by simp[Op.operands]),h y (by simp[Op.operands]),hst]
 case slice t x lo hi mx=>
  have e1:yg s3 lo=yg s lo:=by cases lo with|none=>rfl|some y=>simp only[yg,h y (by simp[Op.operands])]
  have e2:yg s3 hi=yg s hi:=by cases hi with|none=>rfl|some y=>simp only[yg,h y (by simp[Op.operands])]
  have e3:yg s3 mx=yg s mx:=by cases mx with|none=>rfl|some y=>simp only[yg,h y (by simp[Op.operands])]
  simp only[dD,h x (by simp[Op.operands]),e1,e2,e3,hst]
 case unOp op t x=>cases op <;> simp only[dD,h x (by simp[Op.operands]),hst]
 case extract x i=>simp only[dD,h x (by simp[Op.operands]),hst]
 case nilCheck x=>simp only[dD,h x (by simp[Op.operands]),hst]
 case binOp op t x y t2=>
  have hx:=h x (by simp[Op.operands]);cases y with
  |const c=>simp only[dD,hx,hst]
  |tmp t=>simp only[dD,hx,h (.tmp t) (by simp[Op.operands]),hst]
  |global g=>
   have e:s3.ev (.global g)=s.ev (.global g):=rfl;simp only[dD,hx,e,hst]
  |func f=>
   have e:s3.ev (.func f)=s.ev (.func f):=rfl;simp only[dD,hx,e,hst]
 case convert t1 t2 x=>simp only[dD,h x (by simp[Op.operands]),hst]
 case call c=>
  obtain⟨callee,args,ats⟩:=c;obtain⟨args⟩:=args;have ha:∀ x∈args,s3.ev x=s.ev x:=λx hx=>h x (by cases callee <;> simp[Op.operands,Call.operands,hx])
  cases callee
  case builtin b=>
   cases b <;> simp only[calm]at hc <;> first|(cases hc;done)|skip
   all_goals
    rcases args with _|⟨x,_|⟨y,_|⟨z,l⟩⟩⟩
    ·simp only[dD,hst]
    ·rcases hl:ats.toList with _|⟨t,_|⟨u,l⟩⟩ <;> simp only[dD,hst,ha x (by simp),hl]
    ·simp only[dD,hst,ha x (by simp),ha y (by simp)]
    ·simp only[dD,hst]
  all_goals cases hc
 all_goals cases hc
end
end
section
def wV(N:Nat):V->Prop
 |.ptr i _=>i<N
 |.rp i _ _ _=>i<N
 |.row i _=>i<N
 |.vw i _ _ _=>i<N
 |.agg n g=>∀ k,k<n->wV N (g k)
 |.fV n g=>∀ k,k<n->wV N (g k)
 |.fn _ _ n g=>∀ k,k<n->wV N (g k)
 |.mp i=>i<N
 |.ku _ _ v=>wV N v
 |_=>True
def VW(N:Nat)(a b:V):Prop:=wV N b/\∀(G:Gh) (o:Nat->aG) (w:World) (u:Value),aO G o w a u->aO G o w b u
theorem VW.refl{N:Nat}{a:V}(h:wV N a):VW N a a:=⟨h,λ_ _ _ _ h=>h⟩
theorem VW.top{N:Nat}{a:V}:VW N a .top:=⟨trivial,λ_ _ _ _ _=>trivial⟩
theorem asF{N:Nat}{a b:V}(e:a=b)(h:wV N b):VW N a b:=⟨h,λ_ _ _ _ h=>e▸h⟩
theorem VW.agg{N n:Nat}{g h:Nat->V}(hh:∀ k,k<n->VW N (g k) (h k)):VW N (.agg n g) (.agg n h):=
 ⟨λk hk=>(hh k hk).1,λG o w u ⟨cs,e,hn,hc⟩=>⟨cs,e,hn,λk x hx=>⟨(hc k x hx).1,(hh k (by rw[<-hn];exact(Array.getElem?_eq_some_iff.1 hx).1)).2 _ _ _ _ (hc k x hx).2⟩⟩⟩
theorem VW.fV{N n:Nat}{g h:Nat->V}(hh:∀ k,k<n->VW N (g k) (h k)):VW N (.fV n g) (.fV n h):=
 ⟨λk hk=>(hh k hk).1,λG o w u ⟨cs,e,hn,hc⟩=>⟨cs,e,hn,λk x hx=>(hh k (by rw[<-hn];exact(Array.getElem?_eq_some_iff.1 hx).1)).2 _ _ _ _ (hc k x hx)⟩⟩
def Gg:D->D->Prop:=λa b=>∀(F:Nat->Prop) (w:World) (u:Value),jh F w a u->jh F w b u
theorem Gg.sl{n m s:Nat}{g h:Nat->Nat->D}(e:n=m)(hh:∀ j,j<n->∀ k,k<s->Gg (g j k) (h j k)):Gg (.sl n s g) (.sl m s h):=by
 subst e;rintro F w u ⟨A,c,rfl,h1,h2,h3,h4⟩;refine⟨A,c,rfl,h1,h2,h3,λj hj k hk=>?_⟩;obtain⟨b,off,x,e1,e2,e3,e4,e5,e6⟩:=h4 j hj k hk;exact⟨b,off,x,e1,e2,e3,e4,e5,hh j hj k hk F w x e6⟩
theorem auP{a b:D}(e:a=b):Gg a b:=λ_ _ _ h=>e▸h
theorem VW.d{N:Nat}{a b:D}(h:Gg a b):VW N (.d a) (.d b):=⟨trivial,λG o w u hu=>h G.F w u hu⟩
theorem VW.sl{N n m s:Nat}{g h:Nat->Nat->D}(e:n=m)(hh:∀ j,j<n->∀ k,k<s->g j k=h j k):VW N (.d (.sl n s g)) (.d (.sl m s h)):=VW.d (Gg.sl e λj hj k hk=>auP (hh j hj k hk))
theorem VW.dE{N s:Nat}{g:Nat->Nat->D}:VW N .dE (.d (.sl 0 s g)):=⟨trivial,λG o w u ⟨A,e⟩=>⟨A,0,e,bu _,cu _,λ_=>rfl,λj hj=>by omega⟩⟩
theorem asQ{N n s:Nat}{g:Nat->Nat->D}(h:n=0):VW N .dE (.d (.sl n s g)):=by subst h;exact VW.dE
def af(N:Nat):aG->aG->Prop
 |_,.dead=>True
 |.blk n g,.blk m h=>n=m/\∀ k,k<n->VW N (g k) (h k)
 |.row E s n g,.row E' s' m h=>E=E'/\s=s'/\n=m/\∀ j,j<n->∀ k,k<s->VW N (g j k) (h j k)
 |.map a,.map b=>∀ k,match dU a k,dU b k with
  |some v,some v'=>VW N v v'
  |none,none=>True
  |_,_=>False
 |_,_=>False
theorem tK.told{N:Nat}{G:Gh}{o:Nat->aG}{w:World}{l:List MapEntry}{q q':List (Int×V)}(h:tK G o w l q)(hq:af N (.map q) (.map q')):tK G o w l q':=h.to λk=>by
 have h:=hq k;revert h;generalize dU q k=a;generalize dU q' k=b;intro h;cases a <;> cases b
 ·trivial
 ·exact h.elim
 ·exact h.elim
 ·exact λu hu=>h.2 _ _ _ _ hu
def TG(N:Nat)(s:AS):List (Nat×V)->Prop
 |[]=>True
 |(j,v)::r=>VW N (dG s.sl j) v/\TG N s r
def qB(N:Nat)(t:ST):List (Nat×aG)->Prop
 |[]=>True
 |(i,ob)::r=>(i<N/\af N (t.get i) ob)/\qB N t r
structure aV (n0:Nat) (s s2:AS):Prop where
 nt:s2.nt=s.nt
 lo:n0<=s2.s.nx
 hi:s2.s.nx<=s.s.nx
 sl:TG s2.s.nx s s2.sl
 ob:qB s2.s.nx s.s s2.s.st
section
variable {t0:ST} {X:Cx t0} {G:Gh} {w w':World} {t t':ST} {s s2:AS} {a:Act} {N:Nat}
theorem Vs:∀ {l:List (Nat×V)},TG N s l->∀ j,VW N (dG s.sl j) (dG l j)
 |[],_,j=>VW.top
 |(k,v)::r,h,j=>by
  show VW N _ (bif Nat.beq k j then v else dG r j);rcases hk:Nat.beq k j with _|_
  ·exact Vs h.2 j
  ·rw[<-dH hk];exact h.1
theorem II:∀ {l:List (Nat×aG)},qB N t l->∀ j,dM l j = .dead\/(j<N/\af N (t.get j) (dM l j))
 |[],_,j=>.inl rfl
 |(k,v)::r,h,j=>by
  show(bif Nat.beq k j then v else dM r j)=_\/(_/\af N _ (bif Nat.beq k j then v else dM r j));rcases hk:Nat.beq k j with _|_
  ·exact II h.2 j
  ·rw[<-dH hk];exact .inr h.1
def Gh.drop(G:Gh)(N:Nat):Gh:=⟨G.F,λi=>if i<N then G.ρ i else none⟩
def yl(N:Nat)(t t':ST):Prop:=∀ i,t'.get i = .dead\/(i<N/\af N (t.get i) (t'.get i))
theorem ahf{o o':Nat->aG}(ho:∀ i E s n g,o' i = .row E s n g->∃ g0,o i = .row E s n g0){v:V}:∀ {u:Value},wV N v->aO G o w v u->aO (G.drop N) o' w v u:=by
 have hρ:∀ i,i<N->(G.drop N).ρ i=G.ρ i:=λi hi=>if_pos hi
 induction v with
 |top=>exact λ_ _=>trivial
 |d x=>exact λ_ h=>h
 |dE=>exact λ_ h=>h
 |dp s g=>exact λ_ h=>h
 |ptr i off=>intro u hi h;obtain⟨b,h1,h2⟩:=h;exact⟨b,by rw[hρ i hi];exact h1,h2⟩
 |rp i n j c=>
  intro u hi h;obtain⟨A,cc,h1,h2,h3⟩:=h;refine⟨A,cc,by rw[hρ i hi];exact h1,h2,λE s m g e=>?_⟩;obtain⟨g0,h4⟩:=ho i E s m g e;exact h3 E s m g0 h4
 |row i n=>
  intro u hi h;obtain⟨A,cc,h1,h2,h3⟩:=h;refine⟨A,cc,by rw[hρ i hi];exact h1,h2,λE s m g e=>?_⟩;obtain⟨g0,h4⟩:=ho i E s m g e;exact h3 E s m g0 h4
 |vw i n lo m=>
  intro u hi h;obtain⟨A,cc,h1,h2,h3⟩:=h;refine⟨A,cc,by rw[hρ i hi];exact h1,h2,λE s m g e=>?_⟩;obtain⟨g0,h4⟩:=ho i E s m g e;exact h3 E s m g0 h4
 |agg n g ih=>
  intro u hi h;obtain⟨cs,h1,h2,h3⟩:=h;exact⟨cs,h1,h2,λk x hx=>⟨(h3 k x hx).1,ih k (hi k (by rw[<-h2];exact(Array.getElem?_eq_some_iff.1 hx).1)) (h3 k x hx).2⟩⟩
 |fV n g ih=>
  intro u hi h;obtain⟨cs,h1,h2,h3⟩:=h;exact⟨cs,h1,h2,λk x hx=>ih k (hi k (by rw[<-h2];exact(Array.getElem?_eq_some_iff.1 hx).1)) (h3 k x hx)⟩
 |fn f nf n g ih=>
  intro u hi h;obtain⟨fs,cs,h1,h2,h3,h4⟩:=h;exact⟨fs,cs,h1,h2,h3,λk x hx=>ih k (hi k (by rw[<-h3,<-Array.size_append];exact(Array.getElem?_eq_some_iff.1 hx).1)) (h4 k x hx)⟩
 |mp i=>intro u hi h;obtain⟨b,h1,h2⟩:=h;exact⟨b,by rw[hρ i hi];exact h1,h2⟩
 |ku t w' x ih=>intro u hi h;exact⟨λe=>ih hi (h.1 e),h.2⟩
theorem VH(hl:yl N t t'):∀ i E s n g,t'.get i = .row E s n g->∃ g0,t.get i = .row E s n g0:=by
 intro i E s n g e;rcases hl i with h|⟨_,h⟩
 ·rw[e]at h;cases h
 ·rw[e]at h;rcases hi:t.get i with _|_|⟨E',s',n',g'⟩|_
  all_goals rw[hi]at h
  ·exact h.elim
  ·exact h.elim
  ·obtain⟨rfl,rfl,rfl,_⟩:=h;exact⟨g',rfl⟩
  ·exact h.elim
theorem zJ{v b:V}{u:Value}(hl:yl N t t')(hv:VW N v b)(h:aO G t.get w v u):aO (G.drop N) t'.get w b u:=ahf (VH hl) hv.1 (hv.2 _ _ _ _ h)
theorem Iu{i b:Nat}(hl:yl N t t')(h:dA (G.drop N) t'.get i b):dA G t.get i b/\i<N:=by
 rcases hl i with h1|⟨hi,h1⟩
 ·unfold dA at h;rw[h1]at h;exact h.elim
 ·refine⟨?_,hi⟩;have hρ:(G.drop N).ρ i=G.ρ i:=if_pos hi;unfold dA at h ⊢;rcases h2:t.get i with _|_|⟨E',s',n',g'⟩|_ <;> rcases h3:t'.get i with _|_|⟨E2,s2,n2,g2⟩|_
  all_goals rw[h2,h3]at h1
  all_goals rw[h3]at h
  all_goals first|exact h.elim|exact h1.elim|(simp only at h ⊢;rw[hρ]at h;exact h)
theorem Gp(hg:bV G t w)(hl:yl N t t')(hN:N<=t.nx)(hnx:t'.nx=N):bV (G.drop N) t' w:=by
 have hρ:∀ i,i<N->(G.drop N).ρ i=G.ρ i:=λi hi=>if_pos hi
 refine⟨⟨λi n g ho=>?_,λi E s n g ho=>?_,λi es ho=>?_,λi b ho=>hg.aK.wS i b (Iu hl ho).1,hg.aK.vK,λi j b h1 h2=>hg.aK.sep i j b (Iu hl h1).1 (Iu hl h2).1⟩,λi hi=>⟨if_neg qO,?_⟩⟩
 ·rcases hl i with h|⟨hi,h⟩
  ·rw[ho]at h;cases h
  ·rw[ho]at h;rcases h2:t.get i with _|⟨n',g'⟩|_|_
   all_goals rw[h2]at h
   ·exact h.elim
   ·obtain⟨rfl,h⟩:=h;obtain⟨b,cs,ty,e1,e2,e3,e4⟩:=hg.aK.blk _ _ _ h2;exact⟨b,cs,ty,by rw[hρ i hi];exact e1,e2,e3,λk x hx=>⟨(e4 k x hx).1,zJ hl (h k (by rw[<-e3];exact(Array.getElem?_eq_some_iff.1 hx).1)) (e4 k x hx).2⟩⟩
   ·exact h.elim
   ·exact h.elim
 ·rcases hl i with h|⟨hi,h⟩
  ·rw[ho]at h;cases h
  ·rw[ho]at h;rcases h2:t.get i with _|_|⟨E',s',n',g'⟩|_
   all_goals rw[h2]at h
   ·exact h.elim
   ·exact h.elim
   ·obtain⟨rfl,rfl,rfl,h⟩:=h;obtain⟨e1,e2,e3,A,c,e4,e5⟩:=hg.aK.row _ _ _ _ _ h2;refine⟨e1,e2,e3,A,c,by rw[hρ i hi];exact e4,?_⟩;rcases e5 with e5|⟨e5,b,cs,e6,e7,e8,e9,e10,e11⟩
    ·exact .inl e5
    ·refine .inr ⟨e5,b,cs,e6,e7,e8,e9,e10,λj hj k hk=>?_⟩;obtain⟨x,p1,p2,p3⟩:=e11 j hj k hk;exact⟨x,p1,p2,zJ hl (h j hj k hk) p3⟩
   ·exact h.elim
 ·rcases hl i with h|⟨hi,h⟩
  ·rw[ho]at h;cases h
  ·rw[ho]at h;rcases h2:t.get i with _|_|_|es'
   all_goals rw[h2]at h
   ·exact h.elim
   ·exact h.elim
   ·exact h.elim
   ·obtain⟨b,jd,cl,e1,e2,e3⟩:=hg.aK.map _ _ h2;refine⟨b,jd,cl,by rw[hρ i hi];exact e1,e2,e3.to λk=>?_⟩;have h:=h k;rcases q1:dU es' k with _|v <;> rcases q2:dU es k with _|v' <;> rw[q1,q2]at h
    ·trivial
    ·exact h.elim
    ·exact h.elim
    ·exact λu hu=>zJ hl h hu
 ·rcases hl i with h|⟨hi',h⟩
  ·exact h
  ·omega
theorem IG(hx:Stp X.G t0.get X.w G t.get w)(hl:yl N t t')(hN:t0.nx<=N):Stp X.G t0.get X.w (G.drop N) t'.get w where
 os:=hx.os
 tape:=hx.tape
 output:=hx.output
 size:=hx.size
 keep:=hx.keep
 F1:=hx.F1
 F2:=hx.F2
 own:=λi b h=>hx.own i b (Iu hl h).1
 loc:=λi b h=>by
  have hi:i<N:=by
   rcases mP i t0.nx with h1|h1
   ·omega
   ·rw[(X.hg.jK i h1).1]at h;cases h
  exact(if_pos hi).trans (hx.loc i b h)
 row:=λi A c h=>by
  have hi:i<N:=by
   rcases mP i t0.nx with h1|h1
   ·omega
   ·rw[(X.hg.jK i h1).1]at h;cases h
  obtain⟨A',c',e1,e2⟩:=hx.row i A c h;refine⟨A',c',(if_pos hi).trans e1,λE s m g ho=>?_⟩;obtain⟨g0,h0⟩:=VH hl i E s m g ho;exact e2 E s m g0 h0
theorem Mod.le(h:Mod X s a w)(hl:aV t0.nx s s2):Mod X s2 a w:=by
 obtain⟨G,hg,hs,hx⟩:=h;have hless:yl s2.s.nx s.s s2.s:=II hl.ob;exact⟨G.drop s2.s.nx,Gp hg hless hl.hi rfl,⟨⟨by rw[hl.nt];exact hs.nt,λj=>zJ hless (Vs hl.sl j) (hs.sl j)⟩,hs.df⟩,IG hx hless hl.lo⟩
end
end
def mF(s:bP)(r:aT):Bool:=
 if r.kind=1 then decide (s.floor<=r.a)
 else if r.kind=2 then !(decide (r.a<s.term)||(r.a == s.term&&s.gZ != 0&&s.gZ != r.b))
 else if r.kind=3 then r.a == (s.log.length:Int)+1
 else decide (r.a<=(s.log.length:Int))
def qh(s:bP)(r:aT):bP:=
 if r.kind=1 then { s with floor:=r.a }
 else if r.kind=2 then { s with term:=r.a,gZ:=r.b }
 else if r.kind=3 then { s with log:=s.log++[⟨r.b,r.x⟩] }
 else { s with log:=s.log.take (r.a-1).toNat }
def kQ(s:bP)(r:aT):bP×Int:=if iR r=true then (if mF s r=true then (qh s r,0) else (s,5)) else (s,1)
theorem acG (n : Nat) (h : n < 2097152) : gV n <= 3 := by
  have := (ZU 2 n qO).1 (by have : (128 : Nat) ^ 2 = 16384 := qD;omega);omega
theorem Z7{r:aT}(h:iR r=true):(mQ r).length<=205:=by
 obtain⟨h1,h2,h3,h4,h5,h6,h7⟩:=yH h;obtain⟨b1,b2,b3,b4,b5,b6,b7⟩:=zT h;have v1:=acG r.a.toNat qO;have v2:=acG r.b.toNat qO;have v3:r.kind=3->gV r.a.toNat=1:=λhk=>Ep _ (by
  rw[hk]at h4;have:(kd 3).dK=64:=rfl;omega)
 have v4:r.kind≠3->r.x.length=0:=λhk=>by rw[b7 hk];rfl
 unfold gV at v1 v2 v3;unfold mQ;simp only[bW,ny,List.length_nil];by_cases hk:r.kind=3
 ·have:=v3 hk;split <;> simp <;> omega
 ·have:=v4 hk;split <;> simp <;> omega
def steps:bP->List aT->bP×Int
 |s,[]=>(s,0)
 |s,r::rs=>if (kQ s r).2=0 then steps (kQ s r).1 rs else (s,(kQ s r).2)
def zl(r:aT):List UInt8:=(fp (mQ r)).1
def bY(L:List aT):List UInt8:=(L.map zl).flatten
theorem agA (s : bP) (L : List aT) (r : aT) (h : (steps s L).2 = 0) : steps s (L ++ [r]) = if (kQ (steps s L).1 r).2 = 0 then ((kQ (steps s L).1 r).1, 0) else ((steps s L).1, (kQ (steps s L).1 r).2) := by
  induction L generalizing s with
  | nil => by_cases h0 : (kQ s r).2 = 0
           · simp [steps, h0]
           · simp [steps, h0]
  | cons x xs ih =>
    by_cases h0 : (kQ s x).2 = 0
    · rw [steps, if_pos h0] at h;rw [List.cons_append, steps, if_pos h0, ih _ h];simp only [steps, if_pos h0]
    · rw [steps, if_neg h0] at h;exact au h h0
theorem auI(L:List aT)(r:aT):bY (L++[r])=bY L++zl r:=by unfold bY;simp
theorem ahv(s:bP)(r:aT)(h:s.log.length<=70):(kQ s r).1.log.length<=70:=by
 unfold kQ;split
 ·rename_i hok
  split
  ·rename_i hf
   obtain⟨q1,q2,q3,q4,_⟩:=yH hok;unfold qh;split
   ·exact h
   ·split
    ·exact h
    ·split
     ·rename_i h1 h2 h3
      unfold mF at hf;rw[if_neg h1,if_neg h2,if_pos h3]at hf;rw[h3]at q4;have:(kd 3).dK=64:=rfl;simp at hf;simp;omega
     ·simp only[dP];omega
  ·exact h
 ·exact h
theorem aoW{r:aT}(h:iR r=true):fp (mQ r)=(zl r,0)/\(zl r).length<=211:=by
 have hl:=Z7 h;have hne:(mQ r).length≠0:=by unfold mQ;simp
 have hf:fp (mQ r)=(rD (mQ r),0):=by unfold fp;rw[if_neg qO]
 unfold zl;rw[hf];refine⟨rfl,?_⟩;show(rD (mQ r)).length<=211;have:(rD (mQ r)).length=(mQ r).length+6:=by unfold rD BI;simp[UH,UF];omega
 omega
abbrev FW:bP:=⟨0,0,0,[]⟩
theorem ahu(L:List aT)(h:L.all iR=true):(bY L).length<=L.length*211:=by
 induction L with
 |nil=>simp[bY]
 |cons r L ih=>
  rw[List.all_cons,qc]at h;have:=ih h.2;have h2:=(aoW h.1).2;have e:bY (r::L)=zl r++bY L:=by unfold bY;simp
  rw[e,bW,ny];omega
def Ai:Nat->bP->List UInt8->bP×Nat
 |0,s,_=>(s,0)
 |f+1,s,b=>
  if (jL b).2.2=0 then
   if (yO (jL b).1).2=0 then
    if (kQ s (yO (jL b).1).1).2=0 then
     ((Ai f (kQ s (yO (jL b).1).1).1 (b.drop (jL b).2.1)).1,(jL b).2.1+(Ai f (kQ s (yO (jL b).1).1).1 (b.drop (jL b).2.1)).2)
    else (s,0)
   else (s,0)
  else (s,0)
def Fv(s:bP)(b:List UInt8):bP×Nat:=Ai (b.length+1) s b
theorem ahM(f:Nat):∀(m:Nat) (s:bP) (b:List UInt8),b.length<f->b.length<m->Ai f s b=Ai m s b:=by
 induction f with
 |zero=>intro m s b h;omega
 |succ f ih=>
  intro m s b hf hm;cases m with
  |zero=>omega
  |succ m=>
   unfold Ai;by_cases h1:(jL b).2.2=0
   ·have hs:=aag b h1;rw[if_pos h1,if_pos h1,ih m _ (b.drop (jL b).2.1) (by rw[fE];omega) (by rw[fE];omega)]
   ·rw[if_neg h1,if_neg h1]
theorem ahL{s:bP}{b:List UInt8}(h1:(jL b).2.2=0)(h2:(yO (jL b).1).2=0)(h3:(kQ s (yO (jL b).1).1).2=0) :
  Fv s b=((Fv (kQ s (yO (jL b).1).1).1 (b.drop (jL b).2.1)).1,(jL b).2.1+(Fv (kQ s (yO (jL b).1).1).1 (b.drop (jL b).2.1)).2):=by
 have hs:=aag b h1;have e:Fv (kQ s (yO (jL b).1).1).1 (b.drop (jL b).2.1)=Ai b.length (kQ s (yO (jL b).1).1).1 (b.drop (jL b).2.1):=ahM _ _ _ _ (Nat.lt_succ_self _) (by rw[fE];omega);rw[e];show Ai (b.length+1) s b=_;rw[Ai,if_pos h1,if_pos h2,if_pos h3]
theorem ai8{s:bP}{b:List UInt8}(h1:(jL b).2.2≠0):Fv s b=(s,0):=by show Ai (b.length+1) s b=_;rw[Ai,if_neg h1]
def zf(L:List aT):Prop:=L.all iR=true/\(steps FW L).2=0
def iM(L:List aT):bP:=(steps FW L).1
theorem Pz(s:bP)(L M:List aT)(h:(steps s L).2=0):steps s (L++M)=steps (steps s L).1 M:=by
 induction L generalizing s with
 |nil=>rfl
 |cons r L ih=>
  by_cases h0:(kQ s r).2=0
  ·rw[steps,if_pos h0]at h;rw[List.cons_append,steps,if_pos h0,ih _ h,steps,if_pos h0]
  ·rw[steps,if_neg h0]at h;exact au h h0
theorem Us(s:bP)(L:List aT)(k:Nat)(h:(steps s L).2=0):(steps s (L.take k)).2=0:=by
 induction L generalizing s k with
 |nil=>simpa using h
 |cons r L ih=>
  cases k with
  |zero=>rfl
  |succ k=>
   by_cases h0:(kQ s r).2=0
   ·rw[steps,if_pos h0]at h;rw[List.take_succ_cons,steps,if_pos h0];exact ih _ _ h
   ·rw[steps,if_neg h0]at h;exact au h h0
theorem zf.nil:zf []:=⟨rfl,rfl⟩
theorem au2{L M:List aT}(h:zf L)(h1:M.all iR=true)(h2:(steps (iM L) M).2=0):zf (L++M):=by
 refine⟨by rw[List.all_append,h.1,h1];rfl,?_⟩;rw[Pz _ _ _ h.2];exact h2
theorem Vr{L M:List aT}(h:zf L):iM (L++M)=(steps (iM L) M).1:=by unfold iM;rw[Pz _ _ _ h.2]
theorem Pg(r:aT)(L:List aT):bY (r::L)=zl r++bY L:=by unfold bY;simp
theorem PD(L M:List aT):bY (L++M)=bY L++bY M:=by unfold bY;simp
theorem VM{r:aT}(h:iR r=true):zl r=rD (mQ r)/\0<(mQ r).length/\(mQ r).length<=4096:=by
 have h1:=agN h;refine⟨?_,by omega,by omega⟩;unfold zl fp;rw[if_neg qO]
theorem agY{r:aT}(h:iR r=true):(zl r).length=(mQ r).length+6:=by rw[(VM h).1,KH]
end Go.Proofs.YtnibdnahojjcgaaGreat
