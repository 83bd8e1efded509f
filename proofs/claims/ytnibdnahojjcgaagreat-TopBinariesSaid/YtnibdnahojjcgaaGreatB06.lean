/- A part of the proof. -/
import Derived.Great.BuildSlice
import Derived.Test.YtnibdnahojjcgaaGreatB02
namespace Go.Proofs.YtnibdnahojjcgaaGreat
set_option maxRecDepth 100000
set_option maxHeartbeats 16000000
set_option linter.unusedVariables false
set_option linter.unusedSimpArgs false
open Go.RowKit
section
def uG(ρ:Nat->Option Loc)(i:Nat)(l:Loc)(j:Nat):Option Loc:=if j=i then some l else ρ j
def Gh.upd(G:Gh)(i:Nat)(l:Loc):Gh:=⟨G.F,uG G.ρ i l⟩
def MN(l:Loc)(o:aG)(b:Nat):Prop:=
 match o with
 |.dead=>False
 |.row _ _ _ _=>∃ A c,l = .row A c/\0<c/\∃ off,A=some ⟨b,off,none⟩
 |_=>l = .blk b
def YT(G:Gh)(o:Nat->aG)(w:World)(l:Loc):aG->Prop
 |.dead=>True
 |.blk n g=>∃ b cs t,l = .blk b/\w.heap[b]?=some (.cells cs t (0,0))/\cs.size=n/\∀ k x,cs[k]?=some x->x.oneCell'=true/\aO G o w (g k) x
 |.row E s n g=>(tI E).ok=true/\(tI E).size=s/\0<s/\∃ A c,l = .row A c/\DN G o w E s n g A c
 |.map es=>∃ b jd cl,l = .blk b/\w.heap[b]?=some (.map jd cl)/\tK G o w jd.toList es
theorem LQ(t:ST)(ob:aG)(i:Nat):(t.new ob).get i=if i=t.nx then ob else t.get i:=by
 show(bif Nat.beq t.nx i then ob else dM t.st i)=if i=t.nx then ob else dM t.st i
 rcases h:Nat.beq t.nx i with _|_
 ·rw[if_neg (λe=>by subst e;simp at h)];rfl
 ·rw[if_pos (dH h).symm];rfl
theorem qG(t:ST)(j:Nat)(ob:aG)(i:Nat):(t.set j ob).get i=if i=j then ob else t.get i:=by
 show dM (NI t.st j ob) i=if i=j then ob else dM t.st i
 induction t.st with
 |nil=>
  show(bif Nat.beq j i then ob else aG.dead)=if i=j then ob else aG.dead
  rcases h:Nat.beq j i with _|_
  ·rw[if_neg (λe=>by subst e;simp at h)];rfl
  ·rw[if_pos (dH h).symm];rfl
 |cons p r ih=>
  obtain⟨k,x⟩:=p;unfold NI;rcases hk:Nat.beq k j with _|_
  ·show(bif Nat.beq k i then x else dM (NI r j ob) i)=if i=j then ob else (bif Nat.beq k i then x else dM r i)
   rcases hi:Nat.beq k i with _|_
   ·exact ih
   ·have e:=dH hi;subst e;rw[if_neg (λe=>by subst e;simp at hk)];rfl
  ·have e:=dH hk;subst e;show(bif Nat.beq k i then ob else dM r i)=if i=k then ob else (bif Nat.beq k i then x else dM r i)
   rcases hi:Nat.beq k i with _|_
   ·rw[if_neg (λe=>by subst e;simp at hi)];rfl
   ·rw[if_pos (dH hi).symm];rfl
section
variable {G:Gh} {t t':ST} {w w':World} {i:Nat} {l:Loc} {ob:aG}
theorem P7{j b:Nat}(ht:∀ k,t'.get k=if k=i then ob else t.get k)(h:dA (G.upd i l) t'.get j b):(j=i/\MN l ob b)\/(j≠i/\dA G t.get j b):=by
 by_cases hj:j=i
 ·subst hj;refine .inl ⟨rfl,?_⟩;unfold dA at h;rw[ht,if_pos rfl]at h;unfold MN;cases ob with
  |dead=>exact h
  |blk n g=>have h:uG G.ρ j l j=some (.blk b):=h;rw[uG,if_pos rfl]at h;exact fG h
  |map es=>have h:uG G.ρ j l j=some (.blk b):=h;rw[uG,if_pos rfl]at h;exact fG h
  |row E s n g=>
   obtain⟨A,c,h1,h2⟩:=h;have h1:uG G.ρ j l j=some (.row A c):=h1;rw[uG,if_pos rfl]at h1;exact⟨A,c,fG h1,h2⟩
 ·refine .inr ⟨hj,?_⟩;unfold dA at h ⊢;rw[ht,if_neg hj]at h;have e:(G.upd i l).ρ j=G.ρ j:=if_neg hj;rw[e]at h;exact h
structure uT (G:Gh) (t t':ST) (w w':World) (i:Nat) (l:Loc) (ob:aG):Prop where
 get:∀ k,t'.get k=if k=i then ob else t.get k
 nx:t.nx<=t'.nx/\i<t'.nx
 os:w'.os=w.os
 tape:w'.tape=w.tape
 output:w'.output=w.output
 size:w.heap.size<=w'.heap.size
 keep:∀ b,b<w.heap.size->¬dA G t.get i b->w'.heap[b]?=w.heap[b]?
 own:∀ b,MN l ob b->dA G t.get i b\/w.heap.size<=b
 loc:∀ b,G.ρ i=some (.blk b)->l = .blk b
 row:∀ A c,G.ρ i=some (.row A c)->∃ A' c',l = .row A' c'/\∀ E s m g,ob = .row E s m g->∃ m0 g0,t.get i = .row E s m0 g0/\m0<=m/\(m0=m->A'=A/\c'=c)
theorem uT.dS(h:uT G t t' w w' i l ob):Stp G t.get w (G.upd i l) t'.get w' where
 os:=h.os
 tape:=h.tape
 output:=h.output
 size:=h.size
 keep:=λb hb hn=>h.keep b hb (hn i)
 F1:=λ_ hf _=>hf
 F2:=λ_ hf=>.inl hf
 own:=λj b ho=>by
  rcases P7 h.get ho with ⟨rfl,h1⟩|⟨h1,h2⟩
  ·exact h.own b h1
  ·exact .inl h2
 loc:=λj b hj=>by
  show uG G.ρ i l j=_;unfold uG;by_cases e:j=i
  ·subst e;rw[if_pos rfl,h.loc b hj]
  ·rw[if_neg e,hj]
 row:=λj A c hj=>by
  show ∃ A' c',uG G.ρ i l j=_/\_;unfold uG;by_cases e:j=i
  ·subst e;obtain⟨A',c',h1,h2⟩:=h.row A c hj;refine⟨A',c',by rw[if_pos rfl,h1],λE s m g ho=>?_⟩;rw[h.get,if_pos rfl]at ho;exact h2 E s m g ho
  ·refine⟨A,c,by rw[if_neg e,hj],λE s m g ho=>?_⟩;rw[h.get,if_neg e]at ho;exact⟨m,g,ho,bu _,λ_=>⟨rfl,rfl⟩⟩
theorem uT.aK(h:uT G t t' w w' i l ob)(hg:bV G t w)(hok:YT (G.upd i l) t'.get w' l ob)(hun:∀ k,t'.nx<=k->G.ρ k=none):bV (G.upd i l) t' w':=by
 have hs:=h.dS;have hself:(G.upd i l).ρ i=some l:=if_pos rfl;have hother:∀ j,j≠i->(G.upd i l).ρ j=G.ρ j:=λj hj=>if_neg hj
 have hkeep:∀ j b,j≠i->dA G t.get j b->w'.heap[b]?=w.heap[b]?:=λj b hj ho=>h.keep b (hg.aK.lt ho) λho'=>hj (hg.aK.sep _ _ _ ho ho')
 refine⟨⟨λj n g ho=>?_,λj E s n g ho=>?_,λj es ho=>?_,λj b ho hf=>?_,λb hf=>su (hg.aK.vK b hf) h.size,λj k b ho hk=>?_⟩,λk hk=>?_⟩
 ·rw[h.get]at ho;split at ho
  ·rename_i e
   subst e ho;obtain⟨b,cs,ty,h1,h2⟩:=hok;exact⟨b,cs,ty,by rw[hself,h1],h2⟩
  ·rename_i e
   obtain⟨b,cs,ty,h1,h2,h3,h4⟩:=hg.aK.blk _ _ _ ho;exact⟨b,cs,ty,by rw[hother j e,h1],by rw[hkeep j b e (by unfold dA;rw[ho];exact h1),h2],h3,λk x hx=>⟨(h4 k x hx).1,(h4 k x hx).2.dS hs hg.aK⟩⟩
 ·rw[h.get]at ho;split at ho
  ·rename_i e
   subst e ho;obtain⟨h1,h2,h3,A,c,h4,h5⟩:=hok;exact⟨h1,h2,h3,A,c,by rw[hself,h4],h5⟩
  ·rename_i e
   obtain⟨h1,h2,h3,A,c,h4,h5⟩:=hg.aK.row _ _ _ _ _ ho;refine⟨h1,h2,h3,A,c,by rw[hother j e,h4],?_⟩;rcases h5 with h5|⟨h5,b,cs,rfl,h6,h7,h8,h9,h10⟩
   ·exact .inl h5
   ·refine .inr ⟨h5,b,cs,rfl,by rw[hkeep j b e (by unfold dA;rw[ho];exact⟨_,_,h4,h5,_,rfl⟩),h6],h7,h8,h9,λa ha k hk=>?_⟩;obtain⟨x,q1,q2,q3⟩:=h10 a ha k hk;exact⟨x,q1,q2,q3.dS hs hg.aK⟩
 ·rw[h.get]at ho;split at ho
  ·rename_i e
   subst e ho;obtain⟨b,jd,cl,h1,h2⟩:=hok;exact⟨b,jd,cl,by rw[hself,h1],h2⟩
  ·rename_i e
   obtain⟨b,jd,cl,h1,h2,h3⟩:=hg.aK.map _ _ ho;exact⟨b,jd,cl,by rw[hother j e,h1],by rw[hkeep j b e (by unfold dA;rw[ho];exact h1),h2],h3.dS hs hg.aK⟩
 ·rcases P7 h.get ho with ⟨rfl,h1⟩|⟨h1,h2⟩
  ·rcases h.own b h1 with h2|h2
   ·exact hg.aK.wS _ _ h2 hf
   ·have:=hg.aK.vK b hf;omega
  ·exact hg.aK.wS _ _ h2 hf
 ·rcases P7 h.get ho with ⟨rfl,h1⟩|⟨h1,h2⟩ <;> rcases P7 h.get hk with ⟨rfl,h3⟩|⟨h3,h4⟩
  ·rfl
  ·rcases h.own b h1 with h5|h5
   ·exact hg.aK.sep _ _ _ h5 h4
   ·have:=hg.aK.lt h4;omega
  ·rcases h.own b h3 with h5|h5
   ·exact hg.aK.sep _ _ _ h2 h5
   ·have:=hg.aK.lt h2;omega
  ·exact hg.aK.sep _ _ _ h2 h4
 ·have hki:k≠i:=by have:=h.nx.2;omega
  exact⟨by rw[hother k hki];exact hun k hk,by rw[h.get,if_neg hki];exact(hg.jK k (by have:=h.nx.1;omega)).2⟩
theorem QL(hg:bV G t w)(hb:Below w.heap.size w w')(hl:∀ b,MN l ob b->w.heap.size<=b):uT G t (t.new ob) w w' t.nx l ob where
 get:=LQ t ob
 nx:=⟨by show t.nx<=t.nx+1;omega,by show t.nx<t.nx+1;omega⟩
 os:=hb.os
 tape:=hb.tape
 output:=hb.output
 size:=hb.size
 keep:=λb h _=>hb.block b h
 own:=λb h=>.inr (hl b h)
 loc:=λb h=>by rw[(hg.jK t.nx (bu _)).1]at h;cases h
 row:=λA c h=>by rw[(hg.jK t.nx (bu _)).1]at h;cases h
theorem uT.QX(h:uT G t (t.new ob) w w' t.nx l ob)(hg:bV G t w)(hok:YT (G.upd t.nx l) (t.new ob).get w' l ob):bV (G.upd t.nx l) (t.new ob) w':=
 h.aK hg hok λk hk=>(hg.jK k (by have:t.nx+1<=k:=hk;omega)).1
theorem adh(hg:bV G t w){n:Nat}{g:Nat->V}{cs:Array Value}(ty:TypeId)(hn:cs.size=n)(hc:∀ k x,cs[k]?=some x->x.oneCell'=true/\aO G t.get w (g k) x) :
  let G':=G.upd t.nx (.blk w.heap.size)
  let w':=w.alloc (.cells cs ty)
  bV G' (t.new (.blk n g)) w'/\Stp G t.get w G' (t.new (.blk n g)).get w'/\aO G' (t.new (.blk n g)).get w' (.ptr t.nx 0) (.pointer (some ⟨w.heap.size,0,none⟩)):=by
 intro G' w';have hch:uT G t (t.new (.blk n g)) w w' t.nx (.blk w.heap.size) (.blk n g):=QL hg ((Below.refl _ _).alloc (bu _) _) (λb h=>by injection h with h;omega);have hs:=hch.dS;refine⟨hch.QX hg ⟨w.heap.size,cs,ty,rfl,heap_alloc_new w _,hn,λk x hx=>⟨(hc k x hx).1,(hc k x hx).2.dS hs hg.aK⟩⟩,hs,w.heap.size,if_pos rfl,rfl⟩
end
end
section
section
variable {G:Gh} {ob:Nat->aG} {w:World} {t:ST} {o:Oper} {a:Act} {K:V->ST->Prop}
theorem aa1:∀ {l:List Value} {q:List V},x9 l q=true->l.length=q.length/\∀ k x,l[k]?=some x->x.oneCell'=true/\aO G ob w (q.getD k .top) x:=by
  intro l;induction l with
  | nil=>
    intro q h;cases q with
    | nil=>exact⟨rfl,λk x hx=>by simp at hx⟩
    | cons a b=>simp[x9]at h
  | cons a l ih=>
    intro q h;unfold x9 at h;split at h
    · rename_i e;cases e
    · rename_i e1
      injection e1 with e1 e3
      subst e1 e3;obtain⟨h1,h2⟩:=ih h;refine⟨by simp[h1],λk x hx=>?_⟩;cases k with
      | zero=>simp at hx;subst hx;exact⟨rfl,none,rfl⟩
      | succ k=>exact h2 k x (by simpa using hx)
    · rename_i e1
      injection e1 with e1 e3
      subst e1 e3;simp only[qc,beq_iff_eq]at h;obtain⟨rfl,h⟩:=h;obtain⟨h1,h2⟩:=ih h;refine⟨by simp[h1],λk x hx=>?_⟩;cases k with
      | zero=>simp at hx;subst hx;exact⟨rfl,rfl⟩
      | succ k=>exact h2 k x (by simpa using hx)
    · rename_i e1
      injection e1 with e1 e3
      subst e1 e3;obtain⟨h1,h2⟩:=ih h;refine⟨by simp[h1],λk x hx=>?_⟩;cases k with
      | zero=>simp at hx;subst hx;exact⟨rfl,rfl⟩
      | succ k=>exact h2 k x (by simpa using hx)
    · rename_i s1 _ s2 _ e1
      injection e1 with e1 e3
      subst e1 e3;simp only[qc,List.isEmpty_iff]at h;obtain⟨⟨q1,q2⟩,h⟩:=h;obtain⟨h1,h2⟩:=ih h;refine⟨by simp[h1],λk x hx=>?_⟩;cases k with
      | zero=>
        simp at hx;subst hx;refine⟨rfl,?_⟩;obtain⟨⟨d1⟩⟩:=s1;obtain⟨⟨d2⟩⟩:=s2;simp only at q1 q2;subst q1 q2;rfl
      | succ k=>exact h2 k x (by simpa using hx)
    all_goals first
      | exact au h Bool.false_ne_true
      | (rename_i e1
         injection e1 with e1 e3
         subst e1 e3;obtain⟨h1,h2⟩:=ih h;refine⟨by simp[h1],λk x hx=>?_⟩;cases k with
         | zero=>simp at hx;subst hx;exact⟨rfl,rfl⟩
         | succ k=>exact h2 k x (by simpa using hx))
theorem ajp{v:V}{u:Value}(h:Yv v=true)(hv:aO G ob w v u):u.oneCell'=true:=by
 unfold Yv at h;split at h
 ·exact(show u=_ from hv)▸h
 ·obtain⟨A,c,rfl,_⟩:=hv;rfl
 ·obtain⟨A,rfl⟩:=hv;rfl
 ·obtain⟨b,o,rfl,_⟩:=hv;rfl
 ·obtain⟨b,_,rfl⟩:=hv;rfl
 ·obtain⟨A,c,_,⟨a,rfl⟩,_⟩:=hv;rfl
 ·obtain⟨A,c,_,⟨A',c',rfl⟩,_⟩:=hv;rfl
 ·obtain⟨A,c,_,⟨A',c',rfl⟩,_⟩:=hv;rfl
 ·obtain⟨fs,cs,rfl,_⟩:=hv;rfl
 ·obtain⟨b,_,rfl⟩:=hv;rfl
 ·cases h
theorem aaJ{u:Value}(h:u.oneCell'=true):u.cells=#[u]:=by cases u <;> first|rfl|cases h
theorem UD{v:V}{u:Value}{k:Nat->(Nat->V)->Prop}(h:EQ v k)(hv:aO G ob w v u):∃ n g,k n g/\u.cells.size=n/\∀ j x,u.cells[j]?=some x->x.oneCell'=true/\aO G ob w (g j) x:=by
 unfold EQ at h;split at h
 ·obtain⟨cs,rfl,hn,hc⟩:=hv;exact⟨_,_,h,hn,hc⟩
 ·split at h
  ·rename_i h1
   have ho:=ajp h1 hv;refine⟨_,_,h,by rw[aaJ ho];rfl,λj x hx=>?_⟩;rw[aaJ ho]at hx
   match j,hx with
   |0,hx=>
    obtain rfl:u=x:=by simpa using hx
    exact⟨ho,hv⟩
  ·exact h.elim
theorem ahK{ty:Nat}(hg:bV G t w)(ho:o.op = .alloc ty)(hok:(tI ty).ok=true)(hk:K (.ptr t.nx 0) (t.new (.blk (tI ty).size (iE ty)))):eu o a G t w K:=by
 obtain⟨i,z,hi⟩:=EP hok;obtain⟨z1,z2⟩:=aa1 (G:=G) (ob:=t.get) (w:=w) hi.rel;obtain⟨h1,h2,h3⟩:=adh (w:=w) hg (n:=(tI ty).size) (g:=iE ty) (cs:=z.cells) ty hi.BC (λk x hx=>z2 k x (by simpa using hx));unfold eu Oper.wp Oper.upon;have hrun:(execOp a.eval o).run Tryz.prog w = .ok (.value (.pointer (some ⟨w.heap.size,0,none⟩))) (w.alloc (.cells z.cells ty)):=by
  simp[execOp,ho,Instr.alloc,zeroValue,typeInfo,hi.h,hi.zero,newVar,newRow,Result.andThen]
 rw[hrun];exact⟨_,_,_,_,rfl,hk,h1,h2,h3⟩
theorem al5{ty:Nat}{x:Operand}{v:V}(hg:bV G t w)(ho:o.op = .box ty x)(hv:aO G t.get w v (a.eval x))(h:EQ v λn g=>K (.ptr t.nx 0) (t.new (.blk n g))):eu o a G t w K:=by
 obtain⟨n,g,hk,hn,hc⟩:=UD h hv;obtain⟨h1,h2,h3⟩:=adh (w:=w) hg (n:=n) (g:=g) (cs:=(a.eval x).cells) ty hn hc;unfold eu Oper.wp Oper.upon;have hrun:(execOp a.eval o).run Tryz.prog w = .ok (.value (.pointer (some ⟨w.heap.size,0,none⟩))) (w.alloc (.cells (a.eval x).cells ty)):=by
  simp[execOp,ho,Instr.box,newVar,newRow,Result.andThen]
 rw[hrun];exact⟨_,_,_,_,rfl,hk,h1,h2,h3⟩
end
end
section
theorem Wh(cur vs:List Value)(o:Nat)(h:o+vs.length<=cur.length)(k:Nat):(cur.take o++vs++cur.drop (o+vs.length))[k]?=if o<=k/\k<o+vs.length then vs[k-o]? else cur[k]?:=by
 rw[kE,List.getElem?_append,dP,Nat.min_eq_left qO];split
 ·rename_i h1
  rw[if_neg qO,oh,if_pos h1]
 ·rename_i h1
  rw[List.getElem?_append];split
  ·rename_i h2
   rw[if_pos qO]
  ·rename_i h2
   rw[if_neg qO,sD];congr 1;omega
theorem IV(g:Nat->V)(off m:Nat)(h:Nat->V)(k:Nat):nU g off m h k=if off<=k/\k<off+m then h (k-off) else g k:=by
 unfold nU;by_cases h1:off<=k
 ·by_cases h2:k<off+m
  ·rw[if_pos ⟨h1,h2⟩,show(Nat.ble off k&&Nat.blt k (off+m))=true by rw[qc,Nat.ble_eq,Nat.blt_eq];exact⟨h1,h2⟩];rfl
  ·rw[if_neg (λh=>h2 h.2),show(Nat.ble off k&&Nat.blt k (off+m))=false by rw[Bool.and_eq_false_iff];exact .inr (by rw[yE];intro e;exact h2 ((Nat.blt_eq).mp e))];rfl
 ·rw[if_neg (λh=>h1 h.1),show(Nat.ble off k&&Nat.blt k (off+m))=false by rw[Bool.and_eq_false_iff];exact .inl (by rw[yE];intro e;exact h1 (CJ e))];rfl
theorem ak9(g:Nat->Nat->V)(j c m:Nat)(h:Nat->V)(a b:Nat):lN g j c m h a b=if a=j/\c<=b/\b<c+m then h (b-c) else g a b:=by
 have e:=IV (g a) c m h b;unfold nU at e;unfold lN;by_cases h1:a=j
 ·subst h1;rw[show Nat.beq a a=true by simp[Nat.beq_eq],Bool.true_and,e];simp
 ·rw[if_neg (λh=>h1 h.1),show Nat.beq a j=false by rw[yE];intro e;exact h1 (dH e)];rfl
section
variable {G:Gh} {w:World} {t:ST} {o:Oper} {a:Act} {K:V->ST->Prop}
theorem agE{ty:Nat}(hok:(tI ty).ok=true){b off:Nat}{cur:Array Value}{te:TypeId}{v:Value}(hh:w.heap[b]?=some (.cells cur te (0,0)))(hs:v.cells.size=(tI ty).size)(iC:off+v.cells.size<=cur.size)(h1:∀(j:Nat) (x:Value),v.cells[j]?=some x->x.oneCell'=true) :
  (Instr.storeAt ty (.pointer (some ⟨b,off,none⟩)) v).run Tryz.prog w = .ok () (w.setRow b (cur.toList.take off++v.cells.toList++cur.toList.drop (off+v.cells.toList.length)).toArray):=by
 have hz:=qf (w:=w) hok;have hst:=run_storeCells_at Tryz.prog b off te v.cells.toList 0 cur w hh (by simpa using iC) (λx hx=>by
  obtain⟨j,hj,rfl⟩:=List.getElem_of_mem hx;exact h1 j _ (by simp at hj;rw[uU hj];simp))
 rw[Nat.add_zero]at hst;unfold Instr.storeAt storeVar;simp only[Instr.sureAddr,Sem.run_bind,Sem.run_pure,Result.andThen_ok,hz,hs];simp only[ne_eq,not_true_eq_false,if_false,Sem.run_bind,Sem.run_pure,Result.andThen_ok,hst]
theorem aas{ty i:Nat}{l:Loc}{ob':aG}{b off:Nat}{cur:Array Value}{te:TypeId}{x y:Operand}(hg:bV G t w)(ho:o.op = .store ty x y)(hok:(tI ty).ok=true)(hx:a.eval x = .pointer (some ⟨b,off,none⟩))(hh:w.heap[b]?=some (.cells cur te (0,0)))(hs:(a.eval y).cells.size=(tI ty).size)(iC:off+(a.eval y).cells.size<=cur.size)(h1:∀(j:Nat) (x:Value),(a.eval y).cells[j]?=some x->x.oneCell'=true)
  (hi:t.get i ≠ .dead) (hin:i<t.nx) (hown:dA G t.get i b) (hloc:G.ρ i=some l) (hoa:∀ b',MN l ob' b'->dA G t.get i b') (hrow:∀ A c,l = .row A c->∀ E s m g,ob' = .row E s m g->∃ g0,t.get i = .row E s m g0)
  (arR:∀ w':World,w'.heap[b]?=some (.cells (cur.toList.take off++(a.eval y).cells.toList++cur.toList.drop (off+(a.eval y).cells.toList.length)).toArray te (0,0))->Stp G t.get w (G.upd i l) (t.set i ob').get w'->YT (G.upd i l) (t.set i ob').get w' l ob')
  (hk:K .top (t.set i ob')):eu o a G t w K:=by
 have hrun:=agE hok hh hs iC h1;obtain⟨w',hw'⟩:∃ w',w'=w.setRow b (cur.toList.take off++(a.eval y).cells.toList++cur.toList.drop (off+(a.eval y).cells.toList.length)).toArray:=⟨_,rfl⟩;have hch:uT G t (t.set i ob') w w' i l ob':={
  get:=qG t i ob'
  nx:=⟨bu _,hin⟩
  os:=by rw[hw'];rfl
  tape:=by rw[hw'];rfl
  output:=by rw[hw'];rfl
  size:=by rw[hw'];simp
  keep:=λb' hb' hn=>by rw[hw',setRow_other _ _ _ _ (λe=>hn (by rw[e];exact hown))]
  own:=λb' hb'=>.inl (hoa b' hb')
  loc:=λb' hb'=>by rw[hloc]at hb';exact fG hb'
  row:=λA c hb'=>by
   rw[hloc]at hb';have hl:=fG hb';refine⟨A,c,hl,λE s m g e=>?_⟩;obtain⟨g0,hg0⟩:=hrow A c hl E s m g e;exact⟨m,g0,hg0,bu _,λ_=>⟨rfl,rfl⟩⟩ }
 have hs':=hch.dS;have hgd:=hch.aK hg (arR w' (by rw[hw',setRow_heap w b cur _ te _ hh]) hs') (λk hk'=>(hg.jK k hk').1);unfold eu Oper.wp Oper.upon;have hr:(execOp a.eval o).run Tryz.prog w = .ok .skip w':=by
  simp only[execOp,ho,hx,Sem.run_bind,hrun,Result.andThen_ok,Sem.run_pure,hw']
 rw[hr];exact⟨_,_,_,_,rfl,hk,hgd,hs',trivial⟩
theorem ahH{ty:Nat}{x y:Operand}{vx vy:V}(hg:bV G t w)(ho:o.op = .store ty x y)(hx:aO G t.get w vx (a.eval x))(hy:aO G t.get w vy (a.eval y))(h:QR ty vx vy t λs'=>K .top s'):eu o a G t w K:=by
 unfold QR at h;split at h
 ·exact h.elim
 rename_i hok
 have hcr:=UD h hy;clear h;obtain⟨m,hc,h,hsz,hcell⟩:=hcr;split at h
 ·exact h.elim
 rename_i hm
 have hm:=dH hm;split at h
 ·rename_i i off
  obtain⟨b,hr,hxe⟩:=hx;split at h
  ·rename_i n g ho'
   obtain⟨b',cs,te,hr',hh,hn,hcs⟩:=hg.aK.blk _ _ _ ho';rw[hr]at hr';injection hr' with hr'
   injection hr' with hr'
   subst hr';obtain⟨iC,hk⟩:=h.h;have hin:i<t.nx:=by
    rcases mP i t.nx with h1|h1
    ·exact h1
    ·have:=(hg.jK i h1).2;rw[ho']at this;cases this
   have hown:dA G t.get i b:=by unfold dA;rw[ho'];exact hr
   refine aas (ob':=.blk n (nU g off m hc)) hg ho hok hxe hh (by rw[hsz,hm]) qO (λj x hx=>(hcell j x hx).1) (by rw[ho'];intro e;cases e) hin hown hr (λb' hb'=>by
    have:Loc.blk b = .blk b':=hb';injection this with e
    rw[<-e];exact hown) (λA c e=>by cases e) (λw' hw' hs'=>⟨b,_,te,rfl,hw',?_,λk x hx=>?_⟩) hk
   ·simp;omega
   ·have hl:(a.eval y).cells.toList.length=m:=by simpa using hsz
    rw[List.getElem?_toArray,Wh _ _ _ (by rw[hl];simp;omega),hl]at hx;rw[IV];by_cases hr1:off<=k/\k<off+m
    ·rw[if_pos hr1]at hx ⊢;obtain⟨q1,q2⟩:=hcell (k-off) x (by simpa using hx);exact⟨q1,q2.dS hs' hg.aK⟩
    ·rw[if_neg hr1]at hx ⊢;obtain⟨q1,q2⟩:=hcs k x (by simpa using hx);exact⟨q1,q2.dS hs' hg.aK⟩
  ·exact h.elim
 ·rename_i i n j c
  obtain⟨A,cc,hr,⟨ad,_⟩,hu⟩:=hx;split at h
  ·rename_i E z r g ho'
   obtain⟨q1,q2,q3,q4⟩:=rowOf (n:=0) hg.aK ho' hr;obtain⟨⟨rfl,hj,hcz⟩,hk⟩:=h.h;obtain⟨b,rfl,hxe⟩:=(hu _ _ _ _ ho').2 rfl;rcases q4 with ⟨_,h0⟩|⟨hc0,b',cs,hb',hh,hsz',hnc,hcm,hcl⟩
   ·omega
   injection hb' with hb'
   injection hb' with hb'
   subst hb';have hin:i<t.nx:=by
    rcases mP i t.nx with h1|h1
    ·exact h1
    ·have:=(hg.jK i h1).2;rw[ho']at this;cases this
   have hown:dA G t.get i b:=by unfold dA;rw[ho'];exact⟨_,_,hr,hc0,_,rfl⟩
   have hjz:j*z+z<=cc*z:=by
    have:=uV z (show j+1<=cc by omega);rw[Nat.add_mul,Nat.one_mul]at this;exact this
   have hl:(a.eval y).cells.toList.length=m:=by simpa using hsz
   refine aas (ob':=.row E z n (lN g j c m hc)) hg ho hok hxe hh (by rw[hsz,hm]) qO (λj x hx=>(hcell j x hx).1) (by rw[ho'];intro e;cases e) hin hown hr (λb' hb'=>by
    obtain⟨A',c',e,hc',off,rfl⟩:=hb';injection e with e1 e2
    injection e1 with e1
    injection e1 with e1
    rw[<-e1];exact hown) (λA c e E s m g e2=>by injection e2 with e3 e4 e5 e6;subst e3 e4 e5;exact⟨_,ho'⟩) (λw' hw' hs'=>⟨q1,q2,q3,_,_,rfl,.inr ⟨hc0,b,_,rfl,hw',?_,hnc,hcm,λa' ha' k hk'=>?_⟩⟩) hk
   ·simp;omega
   ·obtain⟨x,e1,e2,e3⟩:=hcl a' ha' k hk';rw[List.getElem?_toArray,Wh _ _ _ (by rw[hl];simp;omega),hl,ak9];by_cases hr1:a'=j/\c<=k/\k<c+m
    ·obtain⟨rfl,hr1⟩:=hr1;rw[if_pos qO,if_pos ⟨rfl,hr1⟩];have hlt:k-c<(a.eval y).cells.size:=qO;obtain⟨p1,p2⟩:=hcell (k-c) _ (uU hlt);refine⟨_,?_,p1,p2.dS hs' hg.aK⟩;rw[show a'*z+k-(a'*z+c)=k-c by omega];simp
    ·rw[if_neg hr1,if_neg]
     ·exact⟨x,by simpa using e1,e2,e3.dS hs' hg.aK⟩
     ·intro hh2;apply hr1;have:a'=j:=by
       rcases Nat.lt_trichotomy a' j with hlt|hlt|hlt
       ·have:=uV z (show a'+1<=j by omega);rw[Nat.add_mul,Nat.one_mul]at this;omega
       ·exact hlt
       ·have:=uV z (show j+1<=a' by omega);rw[Nat.add_mul,Nat.one_mul]at this;omega
      subst this;exact⟨rfl,by omega⟩
  ·exact h.elim
 ·exact h.elim
end
end
section
theorem ab4:∀(l:List Value) (s off:Nat) (cs:Array Value),off+s+l.length<=cs.size ->
  ((l.zipIdx s).foldl (λcs (p:Value×Nat)=>cs.setIfInBounds (off+p.2) p.1) cs).size=cs.size /\
  ∀ k,((l.zipIdx s).foldl (λcs (p:Value×Nat)=>cs.setIfInBounds (off+p.2) p.1) cs)[k]?=if off+s<=k/\k<off+s+l.length then l[k-(off+s)]? else cs[k]?
 |[],s,off,cs,h=>⟨rfl,λk=>by rw[if_neg (λ⟨h1,h2⟩=>by rw[List.length_nil]at h2;omega)];rfl⟩
 |x::l,s,off,cs,h=>by
  have h':off+s+(l.length+1)<=cs.size:=h;obtain⟨h1,h2⟩:=ab4 l (s+1) off (cs.setIfInBounds (off+s) x) (by simp;omega);rw[List.zipIdx_cons,List.foldl_cons];refine⟨by rw[h1];simp,λk=>?_⟩;rw[h2 k,ny];by_cases e:k=off+s
  ·subst e;rw[if_neg qO,if_pos qO,Nat.sub_self,Array.getElem?_setIfInBounds,if_pos rfl,if_pos qO];rfl
  ·by_cases e2:off+(s+1)<=k/\k<off+(s+1)+l.length
   ·rw[if_pos e2,if_pos qO,show k-(off+s)=(k-(off+(s+1)))+1 by omega,List.getElem?_cons_succ]
   ·rw[if_neg e2,if_neg qO,Array.getElem?_setIfInBounds,if_neg (λh=>e h.symm)]
section
variable {G:Gh} {w:World} {t:ST} {s:AS} {o:Oper} {a:Act} {K:V->ST->Prop}
theorem Qe(hs:oG G s a w)(pl:Nat->Option (Nat×Nat))(place:Nat->(Nat->Nat->Prop)->Prop)(hpl:∀ i k,place i k->∃ off size,pl i=some (off,size)/\k off size)(n:Nat)(z:Nat->V)(P:(Nat->V)->Prop) :
  ∀(ps:List (Nat×Operand)) (g:Nat->V) (cells:Array Value),yK s n z place ps g P->cells.size=n->(∀ k x,cells[k]?=some x->x.oneCell'=true/\aO G s.s.get w (g k) x) ->
  ∃ cells' g',Instr.fill pl cells (ps.map λp=>(p.1,a.eval p.2))=some cells'/\P g'/\cells'.size=n/\∀ k x,cells'[k]?=some x->x.oneCell'=true/\aO G s.s.get w (g' k) x
 |[],g,cells,h,hn,hc=>⟨cells,g,rfl,h,hn,hc⟩
 |(i,x)::r,g,cells,h,hn,hc=>by
  unfold yK at h;obtain⟨off,size,hp,h⟩:=hpl i _ h;have hcr:=UD h (hs.ev x);clear h;obtain⟨m,hv,h,hm,Zg⟩:=hcr;split at h;rotate_left
  ·exact h.elim
  rename_i hms
  have hms:=dH hms;obtain⟨iC,h⟩:=h.h;obtain⟨q1,q2⟩:=ab4 (a.eval x).cells.toList 0 off cells (by simp;omega);have hl:(a.eval x).cells.toList.length=m:=by simpa using hm
  simp only[Nat.add_zero,hl]at q1 q2;have hf:((a.eval x).cells.zipIdx.foldl (λcs (p:Value×Nat)=>cs.setIfInBounds (off+p.2) p.1) cells)=((a.eval x).cells.toList.zipIdx.foldl (λcs (p:Value×Nat)=>cs.setIfInBounds (off+p.2) p.1) cells):=by
   rw[<-Array.foldl_toList,Array.toList_zipIdx]
  rw[<-hf]at q1 q2;obtain⟨cells',g',e1,e2⟩:=Qe hs pl place hpl n z P r _ _ h (by rw[q1,hn]) (λk y hy=>by
   rw[q2 k]at hy;rw[IV];by_cases hr:off<=k/\k<off+m
   ·rw[if_pos hr]at hy ⊢;exact Zg _ y (by simpa using hy)
   ·rw[if_neg hr]at hy ⊢;exact hc k y hy)
  refine⟨cells',g',?_,e2⟩;rw[List.map_cons,Instr.fill];simp only[hp];rw[if_neg (by rw[hm,hms,hn];simp;omega)];exact e1
theorem Gi{ty:Nat}(hok:(tI ty).ok=true):∃ i z,aez ty i z/\∀ k x,z.cells[k]?=some x->x.oneCell'=true/\aO G t.get w (iE ty k) x:=by
 obtain⟨i,z,hi⟩:=EP hok;obtain⟨z1,z2⟩:=aa1 (G:=G) (ob:=t.get) (w:=w) hi.rel;exact⟨i,z,hi,λk x hx=>z2 k x (by simpa using hx)⟩
theorem ZN:∀(fs:List Field),(∀ f∈fs,(tI f.type).ok=true)->fs.mapM (λf=>(Tryz.prog.info? f.type).map λi=>(f.offset,i.size))=some (fs.map λf=>(f.offset,(tI f.type).size))
 |[],_=>rfl
 |f::fs,h=>by
  obtain⟨i,z,hi⟩:=EP (h f (by simp));rw[List.mapM_cons,hi.h,ZN fs (λg hg=>h g (by simp[hg]))];simp[hi.size]
theorem ahJ{ty:Nat}{ps:Array (Nat×Operand)}(hg:bV G s.s w)(hs:oG G s a w)(ho:o.op = .build ty ps)(hk1:(tI ty).k=1)(hall:(tI ty).DY.all (λp=>(tI p.2).ok)=true)
  (h:yK s (tI ty).size (iE ty) (λi K'=>BH ty i λoff ft=>(match (tI ft).ok with|true=>K' off (tI ft).size|false=>False)) ps.toList (iE ty) λg=>K (.agg (tI ty).size g) s.s):eu o a G s.s w K:=by
 have hok:(tI ty).ok=true:=by unfold uh.ok;rw[hk1];rfl
 obtain⟨i,z,hi,hz⟩:=Gi (G:=G) (t:=s.s) (w:=w) hok;obtain⟨fs,hu,hfl⟩:=aff hk1;have hpl:=ZN fs.toList (λf hf=>by
  rw[zF]at hall;exact hall (f.offset,f.type) (by rw[<-hfl];exact List.mem_map.2 ⟨f,hf,rfl⟩))
 obtain⟨cells',g',e1,e2,e3,e4⟩:=Qe hs (λi=>((fs.toList.map λf=>(f.offset,(tI f.type).size)).toArray)[i]?) _ (λi k hk=>by
  unfold BH at hk;split at hk
  ·rename_i off ft _ hfi
   split at hk
   ·split at hk
    ·refine⟨off,(tI ft).size,?_,hk⟩;rw[<-hfl,qY]at hfi;rcases hx:fs.toList[i]? with _|x
     ·rw[hx]at hfi;cases hfi
     ·rw[hx]at hfi;simp only[pF,Option.some.injEq,Prod.mk.injEq]at hfi;simp only[List.getElem?_toArray,qY,hx,pF,hfi.1,hfi.2]
    ·exact hk.elim
   ·exact hk.elim
  ·exact hk.elim) (tI ty).size (iE ty) (λg=>K (.agg (tI ty).size g) s.s) ps.toList (iE ty) z.cells h hi.BC hz
 have hb:Tryz.prog.built ty ((ps.map λ(i,x)=>(i,a.eval x)).toList)=some cells':=by
  unfold Program.built;rw[hi.h,hu];have e:((ps.map λ(i,x)=>(i,a.eval x)).toList)=ps.toList.map (λp=>(p.1,a.eval p.2)):=by simp
  rw[e];simp only[hi.zero,hpl];exact e1
 have hrun:(execOp a.eval o).run Tryz.prog w = .ok (.value (.agg cells')) w:=by
  unfold execOp;simp only[ho,Sem.run_bind,run_build w ty _ cells' hb,Result.andThen_ok];rfl
 exact eu.val (V:=.agg _ _) hg hrun ⟨cells',rfl,e3,e4⟩ e2
end
end
section
theorem kJ{a b:Bool}(h:(a&&b)=true):a=true/\b=true:=by rwa [qc]at h
theorem lS{a b:Nat}(h:Nat.blt a b=true):a<b:=by rwa [Nat.blt_eq]at h
theorem vP{n s j k:Nat}(hj:j<n)(hk:k<s):j*s+k<n*s:=by
 have:=uV s (show j+1<=n from hj);rw[Nat.add_mul,Nat.one_mul]at this;omega
theorem Xt{s j k:Nat}(hk:k<s):(j*s+k) % s=k:=by rw[Nat.add_comm,Nat.add_mul_mod_self_right,Nat.mod_eq_of_lt hk]
section
variable {G:Gh} {w:World} {t:ST} {s:AS} {o:Oper} {a:Act} {K:V->ST->Prop}
theorem adg(hg:bV G t w){E z n c:Nat}{g:Nat->Nat->V}{cs:Array Value}(hE:(tI E).ok=true)(hz:(tI E).size=z)(hz0:0<z)(hsz:cs.size=c*z)(hnc:n<=c)(hcm:c<=maxLen)(hc:∀ j,j<n->∀ k,k<z->∃ x,cs[j*z+k]?=some x/\x.oneCell'=true/\aO G t.get w (g j k) x) :
  let G':=G.upd t.nx (.row (some ⟨w.heap.size,0,none⟩) c)
  let w':=w.alloc (.cells cs E)
  bV G' (t.new (.row E z n g)) w'/\Stp G t.get w G' (t.new (.row E z n g)).get w'/\aO G' (t.new (.row E z n g)).get w' (.row t.nx n) (.slice (some ⟨w.heap.size,0,none⟩) n c):=by
 intro G' w';have hch:uT G t (t.new (.row E z n g)) w w' t.nx (.row (some ⟨w.heap.size,0,none⟩) c) (.row E z n g):=QL hg ((Below.refl _ _).alloc (bu _) _) (λb h=>by
  obtain⟨A,c',e,_,off,rfl⟩:=h;injection e with e1 e2
  injection e1 with e1
  injection e1 with e1
  omega)
 have hs:=hch.dS;refine⟨hch.QX hg ⟨hE,hz,hz0,_,_,rfl,?_⟩,hs,_,_,if_pos rfl,⟨_,_,rfl⟩,λE' s' m g' ho=>?_⟩
 ·rcases uz c with h0|h0
  ·exact .inl ⟨h0,by omega⟩
  ·refine .inr ⟨h0,w.heap.size,cs,rfl,heap_alloc_new w _,hsz,hnc,hcm,λj hj k hk=>?_⟩;obtain⟨x,e1,e2,e3⟩:=hc j hj k hk;exact⟨x,e1,e2,e3.dS hs hg.aK⟩
 ·rw[LQ,if_pos rfl]at ho;injection ho with e1 e2 e3 e4
  subst e3;exact⟨bu _,λ_=>rfl⟩
theorem UI{E:Nat}{z:Value}{N:Nat}(hz:z.cells.size=(tI E).size)(hpos:0<(tI E).size)(hr:∀ k x,z.cells[k]?=some x->x.oneCell'=true/\aO G t.get w (iE E k) x) :
  ∀ k x,((Array.range N).map (z.cells[· % z.cells.size]!))[k]?=some x->x.oneCell'=true/\aO G t.get w (iE E (k % (tI E).size)) x:=by
 intro k x hx;rw[Array.getElem?_map,Array.getElem?_range]at hx;split at hx
 ·simp only[pF,Option.some.injEq]at hx;refine hr _ x ?_;have hlt:k % z.cells.size<z.cells.size:=Nat.mod_lt _ qO;rw[getElem!_pos z.cells _ hlt]at hx;rw[<-hz,uU hlt,hx]
 ·cases hx
theorem afU{ty n:Nat}{ps:Array (Nat×Operand)}(hg:bV G s.s w)(hs:oG G s a w)(ho:o.op = .buildSlice ty n ps)(hk1:(tI ty).k=3)(hE:((tI (tI ty).elem).ok&&Nat.blt 0 (tI (tI ty).elem).size)=true)
  (h:ag (n*(tI (tI ty).elem).size<=1000000) (yK s (n*(tI (tI ty).elem).size) (λ_=>.top) (λi K'=>K' (i*(tI (tI ty).elem).size) (tI (tI ty).elem).size) ps.toList (λk=>iE (tI ty).elem (k % (tI (tI ty).elem).size)) λg=>
    K (.row s.s.nx n) (s.s.new (.row (tI ty).elem (tI (tI ty).elem).size n (λj k=>g (j*(tI (tI ty).elem).size+k)))))):eu o a G s.s w K:=by
 obtain⟨hok,hpos⟩:=kJ hE;have hpos:=lS hpos;obtain⟨hle,h⟩:=h.h;obtain⟨i,z,hi,hz⟩:=Gi (G:=G) (t:=s.s) (w:=w) hok;obtain⟨cells',g',e1,e2,e3,e4⟩:=Qe hs (λi=>some (i*(tI (tI ty).elem).size,(tI (tI ty).elem).size)) _ (λi k hk=>⟨_,_,rfl,hk⟩) (n*(tI (tI ty).elem).size) (λ_=>.top) (λg=>
    K (.row s.s.nx n) (s.s.new (.row (tI ty).elem (tI (tI ty).elem).size n (λj k=>g (j*(tI (tI ty).elem).size+k))))) ps.toList _ ((Array.range (n*(tI (tI ty).elem).size)).map (z.cells[· % z.cells.size]!)) h (by simp) (UI hi.BC hpos hz)
 have e:((ps.map λ(i,x)=>(i,a.eval x)).toList)=ps.toList.map (λp=>(p.1,a.eval p.2)):=by simp
 rw[<-e]at e1;have hnn:n<=n*(tI (tI ty).elem).size:=Nat.le_mul_of_pos_right _ hpos;obtain⟨h1,h2,h3⟩:=adg (E:=(tI ty).elem) (z:=(tI (tI ty).elem).size) (n:=n) (c:=n) (g:=λj k=>g' (j*(tI (tI ty).elem).size+k)) (cs:=cells') hg hok rfl hpos e3 (bu _) (by unfold maxLen;omega) (λj hj k hk=>by
  have hlt:j*(tI (tI ty).elem).size+k<cells'.size:=by rw[e3];exact vP hj hk
  have hx:=uU hlt;exact⟨_,hx,e4 _ _ hx⟩)
 have hrun:(Instr.buildSlice ty n (ps.map λ(i,x)=>(i,a.eval x))).run Tryz.prog w = .ok (.slice (some ⟨w.heap.size,0,none⟩) n n) (w.alloc (.cells cells' (tI ty).elem)):=by
  by_cases h0:n*(tI (tI ty).elem).size=0
  ·have hn0:n=0:=by
    rcases Nat.mul_eq_zero.1 h0 with h|h
    ·exact h
    ·omega
   subst hn0;rw[h0]at e1;rw[Array.range_zero',Array.map_empty]at e1;rw[e]at e1;have e1':Instr.fill (λi=>some (i*(tI (tI ty).elem).size,(tI (tI ty).elem).size)) #[] (List.map (λx=>(x.1,a.eval x.2)) ps.toList)=some cells':=e1;have hzz:=qf (w:=w) hok;simp[Instr.buildSlice,run_underlying (qw hk1),hzz,newRow,e1',Array.range_zero']
  ·have:=run_buildSlice (P:=Tryz.prog) w ty (tI ty).elem n (ps.map λ(i,x)=>(i,a.eval x)) cells' i z (qw hk1) hi.h hi.zero (by rw[hi.size];omega) (by rw[hi.size];exact h0) (by rw[hi.size];exact e1);exact this
 unfold eu Oper.wp Oper.upon execOp;simp only[ho,Sem.run_bind,hrun,Result.andThen_ok,Sem.run_pure];exact⟨_,_,_,_,rfl,e2,h1,h2,h3⟩
theorem ace{g:Nat->V}:∀ {n:Nat},YM g n=true->∀ k,k<n->g k = .d (afH (g k))
 |0,_,k,hk=>by omega
 |n+1,h,k,hk=>by
  obtain⟨h1,h2⟩:=kJ h;by_cases e:k=n
  ·subst e;rcases hg:g k with _|_|_|_|_|_|_|_|_|_|_|_|_
   all_goals rw[hg]at h1
   all_goals first|rfl|cases h1
  ·exact ace h2 k qO
theorem ZZ{ty n:Nat}{ps:Array (Nat×Operand)}{K:V->Prop}(hg:bV G s.s w)(hs:oG G s a w)(h:Bg ty n ps.toList s K) :
  ∃ cells,(Instr.buildSlice ty n (ps.map λ(i,x)=>(i,a.eval x))).run Tryz.prog w = .ok (.slice (some ⟨w.heap.size,0,none⟩) n n) (w.alloc (.cells cells (tI ty).elem)) /\
   ∃ D,K (.d D)/\∀ F:Nat->Prop,(∀ b,G.F b->F b)->F w.heap.size->jh F (w.alloc (.cells cells (tI ty).elem)) D (.slice (some ⟨w.heap.size,0,none⟩) n n):=by
 unfold Bg at h;split at h;rotate_left
 ·exact h.elim
 rename_i hk1 hE hle
 have hle:=CJ hle;obtain⟨hok,hpos⟩:=kJ hE;have hpos:=lS hpos;obtain⟨i,z,hi,hz⟩:=Gi (G:=G) (t:=s.s) (w:=w) hok;obtain⟨cells',g',e1,e2,e3,e4⟩:=Qe hs (λi=>some (i*(tI (tI ty).elem).size,(tI (tI ty).elem).size)) _ (λi k hk=>⟨_,_,rfl,hk⟩) (n*(tI (tI ty).elem).size) (λ_=>.top) _ ps.toList _ ((Array.range (n*(tI (tI ty).elem).size)).map (z.cells[· % z.cells.size]!)) h (by simp) (UI hi.BC hpos hz);have e:((ps.map λ(i,x)=>(i,a.eval x)).toList)=ps.toList.map (λp=>(p.1,a.eval p.2)):=by simp
 rw[<-e]at e1;split at e2;rotate_left
 ·exact e2.elim
 rename_i hall
 have hnn:n<=n*(tI (tI ty).elem).size:=Nat.le_mul_of_pos_right _ hpos;refine⟨cells',?_,_,e2,λF hF hnew=>?_⟩
 ·by_cases h0:n*(tI (tI ty).elem).size=0
  ·have hn0:n=0:=by
    rcases Nat.mul_eq_zero.1 h0 with h|h
    ·exact h
    ·omega
   subst hn0;rw[h0]at e1;rw[Array.range_zero',Array.map_empty]at e1;rw[e]at e1;have e1':Instr.fill (λi=>some (i*(tI (tI ty).elem).size,(tI (tI ty).elem).size)) #[] (List.map (λx=>(x.1,a.eval x.2)) ps.toList)=some cells':=e1;have hzz:=qf (w:=w) hok;simp[Instr.buildSlice,run_underlying (qw hk1),hzz,newRow,e1',Array.range_zero']
  ·have:=run_buildSlice (P:=Tryz.prog) w ty (tI ty).elem n (ps.map λ(i,x)=>(i,a.eval x)) cells' i z (qw hk1) hi.h hi.zero (by rw[hi.size];omega) (by rw[hi.size];exact h0) (by rw[hi.size];exact e1);exact this
 ·have hm:n<=maxLen:=jV (jV hnn hle) (show 1000000<=maxLen from by unfold maxLen;omega);refine⟨some ⟨w.heap.size,0,none⟩,n,rfl,bu _,hm,(λe=>au e (by simp)),λj hj k hk=>?_⟩;have hlt:j*(tI (tI ty).elem).size+k<cells'.size:=by rw[e3];exact vP hj hk
  have hx:=uU hlt;obtain⟨q1,q2⟩:=e4 _ _ hx;rw[ace hall _ (by rw[<-e3];exact hlt)]at q2;have hb:Below w.heap.size w (w.alloc (.cells cells' (tI ty).elem)):=(Below.refl _ _).alloc (bu _) _;refine⟨w.heap.size,0,_,rfl,hnew,by simp,?_,q1,?_⟩
  ·have hh:=heap_alloc_new w (.cells cells' (tI ty).elem);simp only[World.cell?,hh,jm];exact hx
  ·have q2:jh G.F w _ _:=q2;exact q2.mono hb.size (λb hf hlt=>hb.block b hlt) (λb hf _=>hF b hf)
theorem afY{ty:Nat}{x y:Operand}{k k':IntKind}{n m:Int}(hg:bV G t w)(ho:o.op = .makeSlice ty x y)(hk1:(tI ty).k=3)(hE:((tI (tI ty).elem).ok&&Nat.blt 0 (tI (tI ty).elem).size)=true)(hb:(tI (tI ty).elem).bytes<1000)(hx:a.eval x = .int k n)(hy:a.eval y = .int k' m)
  (h:ag (0<=n/\n<=100000/\m=n) (K (.row t.nx n.toNat) (t.new (.row (tI ty).elem (tI (tI ty).elem).size n.toNat (λ_ k=>iE (tI ty).elem k))))):eu o a G t w K:=by
 obtain⟨hok,hpos⟩:=kJ hE;have hpos:=lS hpos;obtain⟨⟨h0,h1,rfl⟩,hk⟩:=h.h;obtain⟨i,z,hi,hz⟩:=Gi (G:=G) (t:=t) (w:=w) hok;have hbytes:(i.bytes:Int)*m<=281474976710656:=by
  rw[hi.bytes];have:=Int.mul_le_mul (show((tI (tI ty).elem).bytes:Int)<=1000 by omega) h1 h0 qO;omega
 have hrun:=run_make (P:=Tryz.prog) w ty (tI ty).elem i z (qw hk1) hi.h hi.zero k k' m m h0 (eF _) hbytes qO;obtain⟨h1',h2,h3⟩:=adg (E:=(tI ty).elem) (z:=(tI (tI ty).elem).size) (n:=m.toNat) (c:=m.toNat) (g:=λ_ k=>iE (tI ty).elem k) (cs:=madeCells z.cells (m.toNat*i.size)) hg hok rfl hpos (by rw[size_madeCells,hi.size]) (bu _) (by unfold maxLen;omega) (λj hj q hq=>by
  have hsz:(madeCells z.cells (m.toNat*i.size)).size=m.toNat*(tI (tI ty).elem).size:=by rw[size_madeCells,hi.size]
  have hlt:j*(tI (tI ty).elem).size+q<(madeCells z.cells (m.toNat*i.size)).size:=by rw[hsz];exact vP hj hq
  have hx':=uU hlt;refine⟨_,hx',?_⟩;have:=UI (G:=G) (t:=t) (w:=w) (E:=(tI ty).elem) (N:=m.toNat*i.size) hi.BC hpos hz _ _ hx';rw[Xt hq]at this;exact this)
 unfold eu Oper.wp Oper.upon execOp;simp only[ho,hx,hy,Sem.run_bind,hrun,Result.andThen_ok,Sem.run_pure];exact⟨_,_,_,_,rfl,hk,h1',h2,h3⟩
end
end
section
theorem XA{q n z:Nat}(hz:0<z)(h:q<n*z):q / z<n/\q % z<z/\q / z*z+q % z=q:=by
 refine⟨(Nat.div_lt_iff_lt_mul hz).2 h,Nat.mod_lt _ hz,?_⟩;rw[Nat.mul_comm];exact Nat.div_add_mod q z
section
variable {G:Gh} {w:World} {t:ST} {s:AS} {o:Oper} {a:Act} {K:V->ST->Prop}
theorem Qq{E:Nat}{y:V}{u:Value}{k:Nat->(Nat->Nat->V)->Prop}(hg:Good G t.get w)(hE:0<(tI E).size)(hy:aO G t.get w y u)(h:Fg E y t k) :
  ∃ m g Ay cy news,k m g/\u = .slice Ay m cy/\news.length=m*(tI E).size/\Rd w w.heap.size Ay news/\∀ j,j<m->∀ q,q<(tI E).size->∃ x,news[j*(tI E).size+q]?=some x/\x.oneCell'=true/\aO G t.get w (g j q) x:=by
 unfold Fg at h;split at h
 ·obtain⟨A,rfl⟩:=hy;exact⟨0,_,A,0,[],h,rfl,by simp,Rd.nil,λj hj=>by omega⟩
 ·rename_i n z g
  split at h;rotate_left
  ·exact h.elim
  rename_i hz
  obtain rfl:=dH hz;obtain⟨A,c,rfl,h1,h2,h3,h4⟩:=hy;obtain⟨news,hl,hn⟩:=Q5 (n*(tI E).size) (λq x=>∃ b off,A=some ⟨b,off,none⟩/\b<w.heap.size/\w.cell? ⟨b,off+q,none⟩=some x/\x.oneCell'=true/\jh G.F w (g (q / (tI E).size) (q % (tI E).size)) x) (λq hq=>by
   obtain⟨e1,e2,e3⟩:=XA hE hq;obtain⟨b,off,x,hA,hf,hb,hc,ho,hd⟩:=h4 _ e1 _ e2;rw[e3]at hc;exact⟨x,b,off,hA,hb,hc,ho,hd⟩)
  refine⟨n,_,A,c,news,h,rfl,hl,λhpos=>?_,λj hj q hq=>?_⟩
  ·obtain⟨b,off,hA,hb,_⟩:=hn 0 _ (dW hpos);refine⟨b,off,hA,hb,λi hi=>?_⟩;obtain⟨b',off',hA',_,hc,_⟩:=hn i _ (dW hi);rw[hA]at hA';injection hA' with e
   injection e with e1 e2
   subst e1 e2;rw[hc,dW hi]
  ·have hlt:j*(tI E).size+q<news.length:=by rw[hl];exact vP hj hq
   have hx:=dW hlt;obtain⟨_,_,_,_,_,ho,hd⟩:=hn _ _ hx;have e1:(j*(tI E).size+q) / (tI E).size=j:=by rw[Nat.mul_comm,Nat.mul_add_div hE,Nat.div_eq_of_lt hq,Nat.add_zero]
   rw[e1,Xt hq]at hd;exact⟨_,hx,ho,hd⟩
 ·rename_i i n
  obtain⟨A,c,hr,⟨A',c',hu'⟩,hu⟩:=hy;split at h;rotate_left
  ·exact h.elim
  rename_i E' z m g ho
  split at h;rotate_left
  ·exact h.elim
  rename_i hE'
  obtain rfl:=dH hE';obtain⟨ul,hk⟩:=h.h;clear h;subst ul;obtain rfl:=(hu _ _ _ _ ho).2 rfl;obtain⟨q1,q2,q3,q4⟩:=rowOf (n:=0) hg ho hr;subst q2;rcases q4 with ⟨_,rfl⟩|⟨_,b,cs,rfl,hh,hsz,hnc,hcm,hcell⟩
  ·exact⟨0,_,A,c,[],hk,rfl,by simp,Rd.nil,λj hj=>by omega⟩
  ·have hle:=uV (tI E').size hnc;refine⟨n,_,_,c,cs.toList.take (n*(tI E').size),hk,rfl,by rw[dP];simp;omega,λhpos=>⟨b,0,rfl,(Array.getElem?_eq_some_iff.1 hh).1,λi hi=>?_⟩,λj hj q hq=>?_⟩
   ·rw[jm,cellOf hh,oh,if_pos (by rw[dP]at hi;omega)];simp
   ·obtain⟨x,e1,e2,e3⟩:=hcell j hj q hq;exact⟨x,by rw[oh,if_pos (vP hj hq)];simpa using e1,e2,e3⟩
 ·rename_i i n lo mm
  obtain⟨A,c,hr,⟨A',c',hu'⟩,hu⟩:=hy;split at h;rotate_left
  ·exact h.elim
  rename_i E' z m g ho
  split at h;rotate_left
  ·exact h.elim
  rename_i hE'
  obtain rfl:=dH hE';obtain⟨⟨ul,hlo⟩,hk⟩:=h.h;clear h;subst ul;obtain⟨B,cb,rfl,hmc,hcm',hB,Zq,_⟩:=(hu _ _ _ _ ho).2 rfl;obtain⟨q1,q2,q3,q4⟩:=rowOf (n:=0) hg ho hr;subst q2;rcases uz mm with h0|h0
  ·subst h0;exact⟨0,_,B,cb,[],hk,rfl,by simp,Rd.nil,λj hj=>by omega⟩
  rcases q4 with ⟨_,h1⟩|⟨_,b,cs,rfl,hh,hsz,hnc,hcm,hcell⟩
  ·omega
  ·have hB':=Zq h0;rw[pF,ug,jm]at hB';subst hB';have hle:=uV (tI E').size (show lo+mm<=c by omega);rw[Nat.add_mul]at hle;refine⟨mm,_,_,cb,(cs.toList.drop (lo*(tI E').size)).take (mm*(tI E').size),hk,rfl,by rw[dP,fE];simp;omega,λhpos=>⟨b,_,rfl,(Array.getElem?_eq_some_iff.1 hh).1,λi hi=>?_⟩,λj hj q hq=>?_⟩
   ·rw[cellOf hh,oh,if_pos (by rw[dP]at hi;omega),sD];simp
   ·obtain⟨x,e1,e2,e3⟩:=hcell (lo+j) qO q hq;refine⟨x,?_,e2,e3⟩;rw[oh,if_pos (vP hj hq),sD,<-Nat.add_assoc,<-Nat.add_mul];simpa using e1
 ·exact h.elim
theorem Di(n:Nat)(g h:Nat->Nat->V)(j k:Nat):appG n g h j k=if j<n then g j k else h (j-n) k:=by
 unfold appG;by_cases e:j<n
 ·rw[if_pos e,show Nat.blt j n=true by rw[Nat.blt_eq];exact e];rfl
 ·rw[if_neg e,show Nat.blt j n=false by rw[yE];intro h;exact e (lS h)];rfl
theorem Lc{ty E n c m cy:Nat}{A Ay:Option Addr}{t2:TypeId}{cells news:List Value}(hk1:(tI ty).k=3)(hE:E=(tI ty).elem)(hok:(tI E).ok=true)(hz0:0<(tI E).size)(hby:(tI E).bytes<1000)(hown:Ov w 0 E (tI E).size A n c cells)(hl:news.length=m*(tI E).size)(hr:Rd w w.heap.size Ay news)(h1:∀ u∈news,u.oneCell'=true)(ul:n+m<=1000000) :
  ∃ A' c' w',(Builtin.append_ #[ty,ty] t2 #[.slice A n c,.slice Ay m cy]).run Tryz.prog w = .ok (.slice A' (n+m) c') w'/\Ov w' 0 E (tI E).size A' (n+m) c' (cells++news)/\w.grownBy w' (Value.slice A n c).ownBlock/\(A'=A\/A'=some ⟨w.heap.size,0,none⟩):=by
 subst hE;obtain⟨i,z,hi⟩:=EP hok;refine afW (P:=Tryz.prog) ty t2 (tI ty).elem i z (tI (tI ty).elem).size (tI (tI ty).elem).bytes (qw hk1) hi.h hi.zero hi.size hi.bytes hi.BC hz0 hown hl hr h1 qO ?_ (cu _);have:=Nat.mul_le_mul ul (show(tI (tI ty).elem).bytes<=1000 by omega);omega
theorem PY{ty n c cy:Nat}{A Ay:Option Addr}{t2:TypeId}(hk1:(tI ty).k=3)(hok:(tI (tI ty).elem).ok=true)(hnc:n<=c):(Builtin.append_ #[ty,ty] t2 #[.slice A n c,.slice Ay 0 cy]).run Tryz.prog w = .ok (.slice A n c) w:=by
 have hz:=qf (w:=w) hok;rcases A with _|A <;> rcases Ay with _|Ay <;> simp[Builtin.append_,run_underlying (qw hk1),hz,Builtin.lenOf,Builtin.firstCells,hnc,loadCells,loadCellsFrom,storeCells,Result.andThen]
theorem Vu{ty m cy:Nat}{A:Addr}{Ay:Option Addr}{t2:TypeId}(hk1:(tI ty).k=3)(hok:(tI (tI ty).elem).ok=true)(hby:(tI (tI ty).elem).bytes<1000)(hm:0<m)(hm2:m<=1000000):(Builtin.append_ #[ty,ty] t2 #[.slice (some A) 0 0,.slice Ay m cy]).run Tryz.prog w=(Builtin.append_ #[ty,ty] t2 #[.slice none 0 0,.slice Ay m cy]).run Tryz.prog w:=by
 have hz:=qf (w:=w) hok;obtain⟨i,z,hi⟩:=EP hok;have hm':m≠0:=qO;have hnx:Builtin.nextslicecap m 0=m:=by unfold Builtin.nextslicecap;rw[if_pos qO]
 have hb:¬(2^48<m*i.bytes):=by
  rw[hi.bytes];have:=Nat.mul_le_mul hm2 (show(tI (tI ty).elem).bytes<=1000 by omega);omega
 simp[Builtin.append_,run_underlying (qw hk1),hz,Builtin.lenOf,Builtin.firstCells,hm',hnx,typeInfo,hi.h,hb,loadCells,loadCellsFrom,Result.andThen]
end
end
section
section
variable {G:Gh} {w w':World} {t:ST} {s:AS} {o:Oper} {a:Act} {K:V->ST->Prop}
theorem Jg{E z n c:Nat}{A:Option Addr}{cells:List Value}{o':Nat->aG}{G':Gh}{g:Nat->Nat->V}(hz:0<z)(h:Ov w 0 E z A n c cells)(hc:∀ j,j<n->∀ q,q<z->∃ x,cells[j*z+q]?=some x/\x.oneCell'=true/\aO G' o' w (g j q) x):DN G' o' w E z n g A c:=by
 rcases h.2 with ⟨hv,h0⟩|⟨b,cap,cur,hv,hb,hg,hnc,hcm,hsz,ht⟩
 ·injection hv with _ _ hcc
  exact .inl ⟨hcc,h0⟩
 ·injection hv with hA _ hcc
  subst hA hcc;rcases uz c with h0|h0
  ·exact .inl ⟨h0,by omega⟩
  ·refine .inr ⟨h0,b,cur,rfl,hg,hsz,hnc,hcm,λj hj q hq=>?_⟩;obtain⟨x,e1,e2,e3⟩:=hc j hj q hq;refine⟨x,?_,e2,e3⟩;rw[<-ht,oh,if_pos (vP hj hq)]at e1;simpa using e1
theorem aor{E z n c:Nat}{A:Option Addr}{g:Nat->Nat->V}(hc0:0<c)(h:DN G t.get w E z n g A c):∃ cells b,A=some ⟨b,0,none⟩/\(∃ cs,w.heap[b]?=some (.cells cs E (0,0)))/\Ov w 0 E z A n c cells/\∀ j,j<n->∀ q,q<z->∃ x,cells[j*z+q]?=some x/\x.oneCell'=true/\aO G t.get w (g j q) x:=by
 rcases h with ⟨h0,_⟩|⟨_,b,cs,rfl,hh,hsz,hnc,hcm,hcell⟩
 ·omega
 ·have hle:=uV z hnc;refine⟨cs.toList.take (n*z),b,rfl,⟨cs,hh⟩,⟨by rw[dP];simp;omega,.inr ⟨b,c,cs,rfl,cu _,hh,hnc,hcm,hsz,rfl⟩⟩,λj hj q hq=>?_⟩;obtain⟨x,e1,e2,e3⟩:=hcell j hj q hq;exact⟨x,by rw[oh,if_pos (vP hj hq)];simpa using e1,e2,e3⟩
theorem Xn{m z:Nat}{news:List Value}{P:Nat->Nat->Value->Prop}(hz:0<z)(hl:news.length=m*z)(hn:∀ j,j<m->∀ q,q<z->∃ x,news[j*z+q]?=some x/\x.oneCell'=true/\P j q x):∀ u∈news,u.oneCell'=true:=by
 intro u hu;obtain⟨j,hj,rfl⟩:=List.getElem_of_mem hu;obtain⟨e1,e2,e3⟩:=XA hz (by rw[<-hl];exact hj);obtain⟨x,h1,h2,_⟩:=hn _ e1 _ e2;rw[e3,dW hj]at h1;rw[fG h1];exact h2
theorem Ur{A:Option Addr}{n c:Nat}(hA:A=none)(h:w.grownBy w' (Value.slice A n c).ownBlock):Below w.heap.size w w':=by
 subst hA;exact⟨h.os,h.tape,h.output,h.size,λk hk=>h.block k hk (by intro e;cases e)⟩
theorem IK(hg:bV G t w)(hb:Below w.heap.size w w'){E z n c:Nat}{A:Option Addr}{g:Nat->Nat->V}(hE:(tI E).ok=true)(hz:(tI E).size=z)(hz0:0<z)(hA:0<c->∀ b off,A=some ⟨b,off,none⟩->w.heap.size<=b)(hrow:Stp G t.get w (G.upd t.nx (.row A c)) (t.new (.row E z n g)).get w'->DN (G.upd t.nx (.row A c)) (t.new (.row E z n g)).get w' E z n g A c) :
  bV (G.upd t.nx (.row A c)) (t.new (.row E z n g)) w'/\Stp G t.get w (G.upd t.nx (.row A c)) (t.new (.row E z n g)).get w'/\aO (G.upd t.nx (.row A c)) (t.new (.row E z n g)).get w' (.row t.nx n) (.slice A n c):=by
 have hch:uT G t (t.new (.row E z n g)) w w' t.nx (.row A c) (.row E z n g):=QL hg hb (λb h=>by
  obtain⟨A',c',e,hc,off,rfl⟩:=h;injection e with e1 e2
  subst e1 e2;exact hA hc b off rfl)
 have hs:=hch.dS;refine⟨hch.QX hg ⟨hE,hz,hz0,_,_,rfl,hrow hs⟩,hs,_,_,if_pos rfl,⟨_,_,rfl⟩,λE' s' m' g' ho=>?_⟩;rw[LQ,if_pos rfl]at ho;injection ho with e1 e2 e3 e4
 subst e3;exact⟨bu _,λ_=>rfl⟩
theorem AZ(hg:bV G t w){i E z n m c c':Nat}{A A':Option Addr}{g g':Nat->Nat->V}(ho:t.get i = .row E z n g)(hr:G.ρ i=some (.row A c))(hsame:m=0->A'=A/\c'=c)(zk:w'.os=w.os)(htape:w'.tape=w.tape)(hout:w'.output=w.output)(hsize:w.heap.size<=w'.heap.size)(hkeep:∀ b,b<w.heap.size->¬dA G t.get i b->w'.heap[b]?=w.heap[b]?)
  (hA:0<c'->∀ b off,A'=some ⟨b,off,none⟩->dA G t.get i b\/w.heap.size<=b) (hrow:Stp G t.get w (G.upd i (.row A' c')) (t.set i (.row E z (n+m) g')).get w'->DN (G.upd i (.row A' c')) (t.set i (.row E z (n+m) g')).get w' E z (n+m) g' A' c') :
  bV (G.upd i (.row A' c')) (t.set i (.row E z (n+m) g')) w'/\Stp G t.get w (G.upd i (.row A' c')) (t.set i (.row E z (n+m) g')).get w'/\aO (G.upd i (.row A' c')) (t.set i (.row E z (n+m) g')).get w' (.row i (n+m)) (.slice A' (n+m) c'):=by
 obtain⟨q1,q2,q3,_⟩:=rowOf (n:=0) hg.aK ho hr;have hin:i<t.nx:=by
  rcases mP i t.nx with h1|h1
  ·exact h1
  ·have:=(hg.jK i h1).2;rw[ho]at this;cases this
 have hch:uT G t (t.set i (.row E z (n+m) g')) w w' i (.row A' c') (.row E z (n+m) g'):={
  get:=qG t i _
  nx:=⟨bu _,hin⟩
  os:=zk
  tape:=htape
  output:=hout
  size:=hsize
  keep:=hkeep
  own:=λb h=>by
   obtain⟨A2,c2,e,hc,off,rfl⟩:=h;injection e with e1 e2
   subst e1 e2;exact hA hc b off rfl
  loc:=λb h=>by rw[hr]at h;cases h
  row:=λA2 c2 h=>by
   rw[hr]at h;injection h with h
   injection h with h1 h2
   subst h1 h2;refine⟨A',c',rfl,λE' s' m' g2 e=>?_⟩;injection e with e1 e2 e3 e4
   subst e1 e2 e3;exact⟨n,g,ho,by omega,λe=>hsame qO⟩ }
 have hs:=hch.dS;refine⟨hch.aK hg ⟨q1,q2,q3,_,_,rfl,hrow hs⟩ (λk hk=>(hg.jK k hk).1),hs,_,_,if_pos rfl,⟨_,_,rfl⟩,λE' s' m' g2 e=>?_⟩;rw[qG,if_pos rfl]at e;injection e with e1 e2 e3 e4
 subst e3;exact⟨bu _,λ_=>rfl⟩
end
end
end Go.Proofs.YtnibdnahojjcgaaGreat
