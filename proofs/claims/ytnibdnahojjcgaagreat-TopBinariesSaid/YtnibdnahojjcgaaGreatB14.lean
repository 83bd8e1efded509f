/- A part of the proof. -/
import Derived.Test.YtnibdnahojjcgaaGreatB04
import Derived.Test.YtnibdnahojjcgaaGreatB13
namespace Go.Proofs.YtnibdnahojjcgaaGreat
set_option maxRecDepth 100000
set_option maxHeartbeats 16000000
set_option linter.unusedVariables false
set_option linter.unusedSimpArgs false
open Go.RowKit
section
def dO(φ:Nat->Option Nat):V->V
 |.ptr i off=>match φ i with|some k=>.ptr k off|none=>.top
 |.rp i n j c=>match φ i with|some k=>.rp k n j c|none=>.top
 |.row i n=>match φ i with|some k=>.row k n|none=>.top
 |.vw i n lo m=>match φ i with|some k=>.vw k n lo m|none=>.top
 |.agg n g=>.agg n (λk=>dO φ (g k))
 |.fV n g=>.fV n (λk=>dO φ (g k))
 |.fn f nf n g=>.fn f nf n (λk=>dO φ (g k))
 |.mp i=>match φ i with|some k=>.mp k|none=>.top
 |.ku t w v=>.ku t w (dO φ v)
 |v=>v
def lQ(φ:Nat->Option Nat):aG->aG
 |.dead=>.dead
 |.blk n g=>.blk n (λk=>dO φ (g k))
 |.row E s n g=>.row E s n (λj k=>dO φ (g j k))
 |.map es=>.map (es.map λp=>(p.1,dO φ p.2))
theorem PP{G G':Gh}{o o':Nat->aG}{w:World}{φ:Nat->Option Nat}(hF:G'.F=G.F)(hρ:∀ i k,φ i=some k->G'.ρ k=G.ρ i)(ho:∀ i k,φ i=some k->∀ E s n g,o' k = .row E s n g->∃ g0,o i = .row E s n g0){v:V}:∀ {u:Value},aO G o w v u->aO G' o' w (dO φ v) u:=by
 induction v with
 |top=>exact λ_=>trivial
 |d x=>intro u h;show jh G'.F w x u;rw[hF];exact h
 |dE=>exact λh=>h
 |dp s g=>intro u h;show ∃ b off,_;rw[hF];exact h
 |ptr i off=>
  intro u h;obtain⟨b,h1,h2⟩:=h;unfold dO;rcases hi:φ i with _|k
  ·trivial
  ·exact⟨b,by rw[hρ i k hi];exact h1,h2⟩
 |rp i n j c=>
  intro u h;obtain⟨A,cc,h1,h2,h3⟩:=h;unfold dO;rcases hi:φ i with _|k
  ·trivial
  ·refine⟨A,cc,by rw[hρ i k hi];exact h1,h2,λE s m g e=>?_⟩;obtain⟨g0,h4⟩:=ho i k hi E s m g e;exact h3 E s m g0 h4
 |row i n=>
  intro u h;obtain⟨A,cc,h1,h2,h3⟩:=h;unfold dO;rcases hi:φ i with _|k
  ·trivial
  ·refine⟨A,cc,by rw[hρ i k hi];exact h1,h2,λE s m g e=>?_⟩;obtain⟨g0,h4⟩:=ho i k hi E s m g e;exact h3 E s m g0 h4
 |vw i n lo m=>
  intro u h;obtain⟨A,cc,h1,h2,h3⟩:=h;unfold dO;rcases hi:φ i with _|k
  ·trivial
  ·refine⟨A,cc,by rw[hρ i k hi];exact h1,h2,λE s m g e=>?_⟩;obtain⟨g0,h4⟩:=ho i k hi E s m g e;exact h3 E s m g0 h4
 |agg n g ih=>intro u h;obtain⟨cs,h1,h2,h3⟩:=h;exact⟨cs,h1,h2,λk x hx=>⟨(h3 k x hx).1,ih k (h3 k x hx).2⟩⟩
 |fV n g ih=>intro u h;obtain⟨cs,h1,h2,h3⟩:=h;exact⟨cs,h1,h2,λk x hx=>ih k (h3 k x hx)⟩
 |fn f nf n g ih=>intro u h;obtain⟨fs,cs,h1,h2,h3,h4⟩:=h;exact⟨fs,cs,h1,h2,h3,λk x hx=>ih k (h4 k x hx)⟩
 |mp i=>
  intro u h;obtain⟨b,h1,h2⟩:=h;unfold dO;rcases hi:φ i with _|k
  ·trivial
  ·exact⟨b,by rw[hρ i k hi];exact h1,h2⟩
 |ku t w' x ih=>intro u h;exact⟨λe=>ih (h.1 e),h.2⟩
def bZ:List Nat->Nat->Option Nat
 |[],_=>none
 |a::r,i=>bif Nat.beq a i then some 0 else (match bZ r i with|some k=>some (k+1)|none=>none)
theorem xG:∀ {l:List Nat} {i k:Nat},bZ l i=some k->l[k]?=some i
 |a::r,i,k,h=>by
  have h:(bif Nat.beq a i then some 0 else (match bZ r i with|some k=>some (k+1)|none=>none))=some k:=h;rcases hb:Nat.beq a i with _|_
  ·rw[hb]at h;rcases hr:bZ r i with _|j
   ·rw[hr]at h;cases h
   ·rw[hr]at h;injection h with h
    subst h;have:=xG hr;simpa using this
  ·rw[hb]at h;injection h with h
   subst h;rw[dH hb];rfl
 |[],i,k,h=>by cases h
theorem Lp:∀ {l:List Nat} {i:Nat},bZ l i=none->i ∉ l
 |[],i,_=>by simp
 |a::r,i,h=>by
  have h:(bif Nat.beq a i then some 0 else (match bZ r i with|some k=>some (k+1)|none=>none))=none:=h;rcases hb:Nat.beq a i with _|_
  ·rw[hb]at h;rcases hr:bZ r i with _|j
   ·intro hm;rcases List.mem_cons.1 hm with e|e
    ·subst e;simp at hb
    ·exact Lp hr e
   ·rw[hr]at h;cases h
  ·rw[hb]at h;cases h
def ik:List Nat->Bool
 |[]=>true
 |a::r=>(match bZ r a with|some _=>false|none=>true)&&ik r
theorem oL:∀ {l:List Nat} {i k:Nat},ik l=true->l[k]?=some i->bZ l i=some k
 |a::r,i,k,hd,h=>by
  obtain⟨h1,h2⟩:=kJ hd;show(bif Nat.beq a i then some 0 else (match bZ r i with|some k=>some (k+1)|none=>none))=some k;cases k with
  |zero=>
   injection h with h
   subst h;rw[show Nat.beq a a=true by simp[Nat.beq_eq]];rfl
  |succ k=>
   have hk:r[k]?=some i:=h;have:=oL h2 hk;rcases hb:Nat.beq a i with _|_
   ·rw[this];rfl
   ·have e:=dH hb;subst e;rw[this]at h1;cases h1
 |[],i,k,_,h=>by cases h
def kV(aC:List Nat)(nx:Nat)(k:Nat):Nat:=match aC[k]? with|some i=>i|none=>nx+(k-aC.length)
def o8(aC:List Nat)(nx:Nat)(v:V):V:=dO (λk=>some (kV aC nx k)) v
def sG(st:ST)(aC:List Nat)(t:ST):ST:=⟨(List.range (aC.length+(t.nx-aC.length))).map (λk=>(kV aC st.nx k,lQ (λk=>some (kV aC st.nx k)) (t.get k)))++st.st,st.nx+(t.nx-aC.length)⟩
def kS(N:Nat)(φ:Nat->Option Nat):List V->List V->Prop
 |[],[]=>True
 |a::r,b::q=>VW N (dO φ a) b/\kS N φ r q
 |_,_=>False
theorem Vh{N:Nat}{φ:Nat->Option Nat}:∀ {l q:List V},kS N φ l q->l.length=q.length/\∀(k:Nat) (b:V),q[k]?=some b->∃ a,l[k]?=some a/\VW N (dO φ a) b
 |[],[],_=>⟨rfl,λk b h=>by simp at h⟩
 |a::r,b::q,h=>by
  obtain⟨h1,h2⟩:=Vh h.2;refine⟨by simp[h1],λk b' hk=>?_⟩;cases k with
  |zero=>simp at hk;subst hk;exact⟨a,rfl,h.1⟩
  |succ k=>exact h2 k b' (by simpa using hk)
 |[],_::_,h=>h.elim
 |_::_,[],h=>h.elim
def o9(N:Nat)(φ:Nat->Option Nat)(st:ST)(aC:List Nat):List (Nat×aG)->Prop
 |[]=>True
 |(k,ob)::r=>(∃ i,aC[k]?=some i/\af N (lQ φ (st.get i)) ob)/\o9 N φ st aC r
theorem Gm{N:Nat}{φ:Nat->Option Nat}{st:ST}{aC:List Nat}:∀ {l:List (Nat×aG)},o9 N φ st aC l->∀ j,dM l j = .dead\/∃ i,aC[j]?=some i/\af N (lQ φ (st.get i)) (dM l j)
 |[],_,j=>.inl rfl
 |(k,v)::r,h,j=>by
  show(bif Nat.beq k j then v else dM r j)=_\/∃ i,_/\af N _ (bif Nat.beq k j then v else dM r j);rcases hk:Nat.beq k j with _|_
  ·exact Gm h.2 j
  ·rw[<-dH hk];exact .inr h.1
theorem aab(f:Nat->aG)(b:Nat->Nat)(hb:∀ i j,b i=b j->i=j)(l:List (Nat×aG)):∀(n s k:Nat),dM ((List.range' s n).map (λk=>(b k,f k))++l) (b k)=if s<=k/\k<s+n then f k else dM l (b k)
 |0,s,k=>by rw[if_neg qO];rfl
 |n+1,s,k=>by
  rw[List.range'_succ,List.map_cons,List.cons_append];show(bif Nat.beq (b s) (b k) then f s else dM _ (b k))=_;rcases h:Nat.beq (b s) (b k) with _|_
  ·have hne:s≠k:=λe=>by subst e;simp at h
   rw[di,aab f b hb l n (s+1) k];by_cases e:s+1<=k/\k<s+1+n
   ·rw[if_pos e,if_pos qO]
   ·rw[if_neg e,if_neg qO]
  ·have:=hb _ _ (dH h);subst this;rw[dR,if_pos qO]
theorem aac(f:Nat->aG)(b:Nat->Nat)(l:List (Nat×aG))(i:Nat):∀(n s:Nat),(∀ k,s<=k->k<s+n->b k≠i)->dM ((List.range' s n).map (λk=>(b k,f k))++l) i=dM l i
 |0,s,_=>rfl
 |n+1,s,h=>by
  rw[List.range'_succ,List.map_cons,List.cons_append];show(bif Nat.beq (b s) i then f s else dM _ i)=_;rcases hb:Nat.beq (b s) i with _|_
  ·rw[di];exact aac f b l i n (s+1) λk h1 h2=>h k qO qO
  ·exact au (dH hb) (h s (bu _) qO)
theorem WG{l:List Nat}{i k:Nat}(h:bZ l i=some k):i∈l:=uX (xG h)
section
variable {aC:List Nat} {st t:ST} {nx:Nat}
theorem zK{k i:Nat}(h:aC[k]?=some i):kV aC nx k=i:=by unfold kV;rw[h]
theorem CV{k:Nat}(h:aC[k]?=none):kV aC nx k=nx+(k-aC.length)/\aC.length<=k:=by unfold kV;rw[h];exact⟨rfl,List.getElem?_eq_none_iff.1 h⟩
theorem akO(hn:ik aC=true)(hs:∀ i∈aC,i<nx)(i j:Nat)(h:kV aC nx i=kV aC nx j):i=j:=by
 rcases hi:aC[i]? with _|a <;> rcases hj:aC[j]? with _|b
 ·have h1:=CV (nx:=nx) hi;have h2:=CV (nx:=nx) hj;omega
 ·have h1:=CV (nx:=nx) hi;have h2:=zK (nx:=nx) hj;have h3:=hs b (uX hj);omega
 ·have h1:=zK (nx:=nx) hi;have h2:=CV (nx:=nx) hj;have h3:=hs a (uX hi);omega
 ·rw[zK hi,zK hj]at h;subst h;have h1:=oL hn hi;have h2:=oL hn hj;rw[h1]at h2;injection h2
theorem zI(hs:∀ i∈aC,i<nx)(i:Nat):(∃ k,kV aC nx k=i/\(bZ aC i=some k\/(bZ aC i=none/\nx<=i/\aC[k]?=none/\k=i-nx+aC.length)))\/(bZ aC i=none/\i<nx):=by
 rcases h:bZ aC i with _|k
 ·rcases mP i nx with h1|h1
  ·exact .inr ⟨rfl,h1⟩
  ·have e:aC[i-nx+aC.length]?=none:=List.getElem?_eq_none_iff.2 qO;refine .inl ⟨i-nx+aC.length,?_,.inr ⟨rfl,h1,e,rfl⟩⟩;rw[(CV e).1];omega
 ·exact .inl ⟨k,zK (xG h),.inl rfl⟩
theorem ag7(hs:∀ i∈aC,i<nx){i k:Nat}(h:bZ aC i=none)(hi:i<nx):kV aC nx k≠i:=by
 rcases hk:aC[k]? with _|a
 ·have:=CV (nx:=nx) hk;omega
 ·rw[zK hk];intro e;subst e;exact Lp h (uX hk)
theorem Uw(hn:ik aC=true)(hs:∀ i∈aC,i<st.nx)(hu:∀ i,st.nx<=i->st.get i = .dead)(ht:∀ i,t.nx<=i->t.get i = .dead)(k:Nat):(sG st aC t).get (kV aC st.nx k)=lQ (λk=>some (kV aC st.nx k)) (t.get k):=by
 have e:=aab (λk=>lQ (λk=>some (kV aC st.nx k)) (t.get k)) (kV aC st.nx) (akO hn hs) st.st (aC.length+(t.nx-aC.length)) 0 k;rw[<-List.range_eq_range']at e;refine Eq.trans e ?_;by_cases hk:0<=k/\k<0+(aC.length+(t.nx-aC.length))
 ·rw[if_pos hk]
 ·rw[if_neg hk,ht k qO];refine hu _ ?_;rw[(CV (List.getElem?_eq_none_iff.2 qO)).1];omega
theorem Gj(hs:∀ i∈aC,i<st.nx){i:Nat}(h:bZ aC i=none)(hi:i<st.nx):(sG st aC t).get i=st.get i:=by
 have e:=aac (λk=>lQ (λk=>some (kV aC st.nx k)) (t.get k)) (kV aC st.nx) st.st i (aC.length+(t.nx-aC.length)) 0 λk _ _=>ag7 hs h hi
 rw[<-List.range_eq_range']at e;exact e
def Gh.sub(G:Gh)(aC:List Nat):Gh:=⟨G.F,λk=>match aC[k]? with|some i=>G.ρ i|none=>none⟩
def Gh.jP(G G':Gh)(aC:List Nat)(nx:Nat):Gh:=⟨G'.F,λi=>match bZ aC i with|some k=>G'.ρ k|none=>if i<nx then G.ρ i else G'.ρ (i-nx+aC.length)⟩
theorem Bi{G:Gh}{k i:Nat}(h:aC[k]?=some i):(G.sub aC).ρ k=G.ρ i:=by unfold Gh.sub;simp only[h]
theorem ajA{G G':Gh}(hn:ik aC=true)(hs:∀ i∈aC,i<nx)(k:Nat):(G.jP G' aC nx).ρ (kV aC nx k)=G'.ρ k:=by
 unfold Gh.jP;rcases hk:aC[k]? with _|a
 ·obtain⟨h1,h2⟩:=CV (nx:=nx) hk;rcases hi:bZ aC (kV aC nx k) with _|j
  ·simp only[hi];rw[if_neg qO,h1,show nx+(k-aC.length)-nx+aC.length=k by omega]
  ·have:=hs _ (WG hi);omega
 ·rw[zK hk];simp only[oL hn hk]
theorem Iy{G G':Gh}{i:Nat}(h:bZ aC i=none)(hi:i<nx):(G.jP G' aC nx).ρ i=G.ρ i:=by
 unfold Gh.jP;simp only[h];rw[if_pos hi]
theorem LC{φ:Nat->Option Nat}{ob:aG}{E s n:Nat}{g:Nat->Nat->V}(h:lQ φ ob = .row E s n g):∃ g0,ob = .row E s n g0/\g=λj k=>dO φ (g0 j k):=by
 cases ob with
 |row E' s' n' g'=>injection h with a b c d;subst a b c d;exact⟨g',rfl,rfl⟩
 |_=>cases h
theorem acZ{φ:Nat->Option Nat}{ob:aG}{n:Nat}{g:Nat->V}(h:lQ φ ob = .blk n g):∃ g0,ob = .blk n g0/\g=λk=>dO φ (g0 k):=by
 cases ob with
 |blk n' g'=>injection h with a b;subst a b;exact⟨g',rfl,rfl⟩
 |_=>cases h
theorem acY{φ:Nat->Option Nat}{ob:aG}{es:List (Int×V)}(h:lQ φ ob = .map es):∃ e0,ob = .map e0/\es=e0.map λp=>(p.1,dO φ p.2):=by
 cases ob with
 |map e'=>injection h with a;subst a;exact⟨e',rfl,rfl⟩
 |_=>cases h
theorem ai9{φ:Nat->Option Nat}{G G':Gh}{o o':Nat->aG}{i k b:Nat}(hρ:G'.ρ k=G.ρ i)(ho:o' k=lQ φ (o i)):dA G' o' k b↔dA G o i b:=by
 unfold dA;rw[ho,hρ];cases o i <;> exact Iff.rfl
theorem aaP{φ:Nat->Option Nat}{G G':Gh}{o o':Nat->aG}{w:World}(hv:∀ v u,aO G o w v u->aO G' o' w (dO φ v) u){l:List MapEntry}{q:List (Int×V)}(h:tK G o w l q):tK G' o' w l (q.map λp=>(p.1,dO φ p.2)):=h.map (dO φ) hv
end
end
section
section
variable {aC:List Nat} {st bG t:ST} {G G':Gh} {w w':World}
theorem Qm(ho:o9 bG.nx (bZ aC) st aC bG.st){i k E s n:Nat}{g:Nat->Nat->V}(hi:aC[k]?=some i)(h:bG.get k = .row E s n g):∃ g0,st.get i = .row E s n g0:=by
 rcases Gm ho k with h1|⟨i',h1,h2⟩
 ·rw[show dM bG.st k=bG.get k from rfl,h]at h1;cases h1
 ·rw[hi]at h1;injection h1 with h1
  subst h1;rw[show dM bG.st k=bG.get k from rfl,h]at h2;rcases hr:lQ (bZ aC) (st.get i) with _|_|⟨E',s',n',g'⟩|_
  all_goals rw[hr]at h2
  ·exact h2.elim
  ·exact h2.elim
  ·obtain⟨rfl,rfl,rfl,_⟩:=h2;obtain⟨g0,h3,_⟩:=LC hr;exact⟨g0,h3⟩
  ·exact h2.elim
theorem EC(ho:o9 bG.nx (bZ aC) st aC bG.st){v b:V}{u:Value}(hv:VW bG.nx (dO (bZ aC) v) b)(h:aO G st.get w v u):aO (G.sub aC) bG.get w b u:=
 hv.2 _ _ _ _ (PP (G:=G) (G':=G.sub aC) rfl (λi k hi=>Bi (xG hi)) (λi k hi E s n g e=>Qm ho (xG hi) e) h)
theorem ED(ho:o9 bG.nx (bZ aC) st aC bG.st){k b:Nat}(h:dA (G.sub aC) bG.get k b):∃ i,aC[k]?=some i/\dA G st.get i b:=by
 rcases Gm ho k with h1|⟨i,h1,h2⟩
 ·unfold dA at h;rw[show bG.get k=dM bG.st k from rfl,h1]at h;exact h.elim
 ·refine⟨i,h1,?_⟩;unfold dA at h ⊢;rw[show bG.get k=dM bG.st k from rfl,Bi h1]at h;rcases e1:st.get i with _|_|⟨E',s',n',g'⟩|_ <;> rcases e2:dM bG.st k with _|_|⟨E2,s2,n2,g2⟩|_
  all_goals rw[e1,e2]at h2
  all_goals rw[e2]at h
  all_goals first|exact h.elim|exact h2.elim|exact h
theorem PW(hg:bV G st w)(hn:ik aC=true)(hnx:bG.nx=aC.length)(ho:o9 bG.nx (bZ aC) st aC bG.st):bV (G.sub aC) bG w:=by
 have hφ:∀ i k,bZ aC i=some k->(G.sub aC).ρ k=G.ρ i:=λi k hi=>Bi (xG hi)
 refine⟨⟨λk n g h=>?_,λk E s n g h=>?_,λk es h=>?_,λk b h=>?_,hg.aK.vK,λi j b h1 h2=>?_⟩,λi hi=>⟨?_,?_⟩⟩
 ·rcases Gm ho k with h1|⟨i,h1,h2⟩
  ·rw[show dM bG.st k=bG.get k from rfl,h]at h1;cases h1
  ·rw[show dM bG.st k=bG.get k from rfl,h]at h2;rcases hr:lQ (bZ aC) (st.get i) with _|⟨n',g'⟩|_|_
   all_goals rw[hr]at h2
   ·exact h2.elim
   ·obtain⟨rfl,h2⟩:=h2;obtain⟨g0,h3,rfl⟩:=acZ hr;obtain⟨b,cs,ty,e1,e2,e3,e4⟩:=hg.aK.blk _ _ _ h3;exact⟨b,cs,ty,by rw[Bi h1];exact e1,e2,e3,λj x hx=>⟨(e4 j x hx).1,EC ho (h2 j (by rw[<-e3];exact(Array.getElem?_eq_some_iff.1 hx).1)) (e4 j x hx).2⟩⟩
   ·exact h2.elim
   ·exact h2.elim
 ·rcases Gm ho k with h1|⟨i,h1,h2⟩
  ·rw[show dM bG.st k=bG.get k from rfl,h]at h1;cases h1
  ·rw[show dM bG.st k=bG.get k from rfl,h]at h2;rcases hr:lQ (bZ aC) (st.get i) with _|_|⟨E',s',n',g'⟩|_
   all_goals rw[hr]at h2
   ·exact h2.elim
   ·exact h2.elim
   ·obtain⟨rfl,rfl,rfl,h2⟩:=h2;obtain⟨g0,h3,rfl⟩:=LC hr;obtain⟨e1,e2,e3,A,c,e4,e5⟩:=hg.aK.row _ _ _ _ _ h3;refine⟨e1,e2,e3,A,c,by rw[Bi h1];exact e4,?_⟩;rcases e5 with e5|⟨e5,b,cs,e6,e7,e8,e9,e10,e11⟩
    ·exact .inl e5
    ·refine .inr ⟨e5,b,cs,e6,e7,e8,e9,e10,λj hj l hl=>?_⟩;obtain⟨x,p1,p2,p3⟩:=e11 j hj l hl;exact⟨x,p1,p2,EC ho (h2 j hj l hl) p3⟩
   ·exact h2.elim
 ·rcases Gm ho k with h1|⟨i,h1,h2⟩
  ·rw[show dM bG.st k=bG.get k from rfl,h]at h1;cases h1
  ·rw[show dM bG.st k=bG.get k from rfl,h]at h2;rcases hr:lQ (bZ aC) (st.get i) with _|_|_|es'
   all_goals rw[hr]at h2
   ·exact h2.elim
   ·exact h2.elim
   ·exact h2.elim
   ·obtain⟨e0,h3,rfl⟩:=acY hr;obtain⟨b,jd,cl,e1,e2,e3⟩:=hg.aK.map _ _ h3;have e4:=aaP (φ:=bZ aC) (G':=G.sub aC) (o':=bG.get) (λv u hv=>PP (G:=G) (G':=G.sub aC) rfl hφ (λi k hi E s n g e=>Qm ho (xG hi) e) hv) e3;exact⟨b,jd,cl,by rw[Bi h1];exact e1,e2,e4.told h2⟩
 ·obtain⟨i,_,h1⟩:=ED ho h;exact hg.aK.wS i b h1
 ·obtain⟨i',a1,a2⟩:=ED ho h1;obtain⟨j',b1,b2⟩:=ED ho h2;have:=hg.aK.sep _ _ _ a2 b2;subst this;have c1:=oL hn a1;rw[oL hn b1]at c1;injection c1 with c1
  exact c1.symm
 ·unfold Gh.sub;simp only[List.getElem?_eq_none_iff.2 (show aC.length<=i by omega)]
 ·rcases Gm ho i with h1|⟨i',h1,h2⟩
  ·exact h1
  ·rw[List.getElem?_eq_none_iff.2 (show aC.length<=i by omega)]at h1;cases h1
structure uq (aC:List Nat) (st bG t:ST) (G G':Gh) (w w':World):Prop where
 hg:bV G st w
 hn:ik aC=true
 hs:∀ i∈aC,i<st.nx
 ho:o9 bG.nx (bZ aC) st aC bG.st
 lU:bV G' t w'
 hx:Stp (G.sub aC) bG.get w G' t.get w'
theorem uq.back(h:uq aC st bG t G G' w w')(k:Nat):(sG st aC t).get (kV aC st.nx k)=lQ (λk=>some (kV aC st.nx k)) (t.get k):=Uw h.hn h.hs (λi hi=>(h.hg.jK i hi).2) (λi hi=>(h.lU.jK i hi).2) k
theorem uq.F9(h:uq aC st bG t G G' w w')(k:Nat):(G.jP G' aC st.nx).ρ (kV aC st.nx k)=G'.ρ k:=ajA h.hn h.hs k
theorem uq.JG(h:uq aC st bG t G G' w w'){k b:Nat}(ho:dA (G.jP G' aC st.nx) (sG st aC t).get (kV aC st.nx k) b):dA G' t.get k b:=(ai9 (h.F9 k) (h.back k)).1 ho
theorem uq.JD(h:uq aC st bG t G G' w w'){i b:Nat}(hi:bZ aC i=none)(hl:i<st.nx)(ho:dA (G.jP G' aC st.nx) (sG st aC t).get i b):dA G st.get i b:=by
 unfold dA at ho ⊢;rw[Gj h.hs hi hl,Iy hi hl]at ho;exact ho
theorem uq.dS(h:uq aC st bG t G G' w w'):Stp G st.get w (G.jP G' aC st.nx) (sG st aC t).get w' where
 os:=h.hx.os
 tape:=h.hx.tape
 output:=h.hx.output
 size:=h.hx.size
 keep:=λb hb hn=>h.hx.keep b hb λk hk=>by obtain⟨i,_,h1⟩:=ED h.ho hk;exact hn i h1
 F1:=h.hx.F1
 F2:=h.hx.F2
 own:=λi b hw=>by
  rcases zI h.hs i with ⟨k,rfl,hk⟩|⟨h1,h2⟩
  ·rcases h.hx.own k b (h.JG hw) with h1|h1
   ·obtain⟨i,h2,h3⟩:=ED h.ho h1;rw[zK h2];exact .inl h3
   ·exact .inr h1
  ·exact .inl (h.JD h1 h2 hw)
 loc:=λi b hi=>by
  rcases zI h.hs i with ⟨k,rfl,hk⟩|⟨h1,h2⟩
  ·rw[h.F9];rcases hk with hk|⟨_,hk,_⟩
   ·exact h.hx.loc k b (by rw[Bi (xG hk)];exact hi)
   ·rw[(h.hg.jK _ hk).1]at hi;cases hi
  ·rw[Iy h1 h2];exact hi
 row:=λi A c hi=>by
  rcases zI h.hs i with ⟨k,rfl,hk⟩|⟨h1,h2⟩
  ·rw[h.F9];rcases hk with hk|⟨_,hk,_⟩
   ·obtain⟨A',c',e1,e2⟩:=h.hx.row k A c (by rw[Bi (xG hk)];exact hi);refine⟨A',c',e1,λE s m g e=>?_⟩;rw[h.back]at e;obtain⟨g1,e3,_⟩:=LC e;obtain⟨m0,g0,e4,e5,e6⟩:=e2 E s m g1 e3;obtain⟨g2,e7⟩:=Qm h.ho (xG hk) e4;exact⟨m0,g2,e7,e5,e6⟩
   ·rw[(h.hg.jK _ hk).1]at hi;cases hi
  ·rw[Iy h1 h2];refine⟨A,c,hi,λE s m g e=>?_⟩;rw[Gj h.hs h1 h2]at e;exact⟨m,g,e,bu _,λ_=>⟨rfl,rfl⟩⟩
theorem uq.Nz(h:uq aC st bG t G G' w w'){v:V}{u:Value}(hv:aO G' t.get w' v u):aO (G.jP G' aC st.nx) (sG st aC t).get w' (o8 aC st.nx v) u:=
 PP (G:=G') (G':=G.jP G' aC st.nx) rfl (λi k e=>by injection e with e;subst e;exact h.F9 i) (λi k e E s n g e2=>by
  injection e with e;subst e
  rw[h.back]at e2;obtain⟨g0,e3,_⟩:=LC e2;exact⟨g0,e3⟩) hv
theorem uq.X7(h:uq aC st bG t G G' w w'){i b:Nat}(hi:bZ aC i=none)(ho:dA G st.get i b):w'.heap[b]?=w.heap[b]?:=
 h.hx.keep b (h.hg.aK.lt ho) λk hk=>by
  obtain⟨j,h1,h2⟩:=ED h.ho hk;have:=h.hg.aK.sep _ _ _ h2 ho;subst this;exact Lp hi (uX h1)
theorem uq.aK(h:uq aC st bG t G G' w w'):bV (G.jP G' aC st.nx) (sG st aC t) w':=by
 have hx:=h.dS;refine⟨⟨λi n g e=>?_,λi E s n g e=>?_,λi es e=>?_,λi b e hf=>?_,h.lU.aK.vK,λi j b e1 e2=>?_⟩,λi hi=>?_⟩
 ·rcases zI h.hs i with ⟨k,rfl,hk⟩|⟨h1,h2⟩
  ·rw[h.back]at e;obtain⟨g0,e1,rfl⟩:=acZ e;obtain⟨b,cs,ty,p1,p2,p3,p4⟩:=h.lU.aK.blk _ _ _ e1;exact⟨b,cs,ty,by rw[h.F9];exact p1,p2,p3,λj x hx=>⟨(p4 j x hx).1,h.Nz (p4 j x hx).2⟩⟩
  ·rw[Gj h.hs h1 h2]at e;obtain⟨b,cs,ty,p1,p2,p3,p4⟩:=h.hg.aK.blk _ _ _ e;have hw:dA G st.get i b:=by unfold dA;rw[e];exact p1
   exact⟨b,cs,ty,by rw[Iy h1 h2];exact p1,(h.X7 h1 hw).trans p2,p3,λj x hj=>⟨(p4 j x hj).1,(p4 j x hj).2.dS hx h.hg.aK⟩⟩
 ·rcases zI h.hs i with ⟨k,rfl,hk⟩|⟨h1,h2⟩
  ·rw[h.back]at e;obtain⟨g0,e1,rfl⟩:=LC e;obtain⟨p1,p2,p3,A,c,p4,p5⟩:=h.lU.aK.row _ _ _ _ _ e1;refine⟨p1,p2,p3,A,c,by rw[h.F9];exact p4,?_⟩;rcases p5 with p5|⟨p5,b,cs,p6,p7,p8,p9,p10,p11⟩
   ·exact .inl p5
   ·refine .inr ⟨p5,b,cs,p6,p7,p8,p9,p10,λj hj l hl=>?_⟩;obtain⟨x,q1,q2,q3⟩:=p11 j hj l hl;exact⟨x,q1,q2,h.Nz q3⟩
  ·rw[Gj h.hs h1 h2]at e;obtain⟨p1,p2,p3,A,c,p4,p5⟩:=h.hg.aK.row _ _ _ _ _ e;refine⟨p1,p2,p3,A,c,by rw[Iy h1 h2];exact p4,?_⟩;rcases p5 with p5|⟨p5,b,cs,p6,p7,p8,p9,p10,p11⟩
   ·exact .inl p5
   ·have hw:dA G st.get i b:=by unfold dA;rw[e];exact⟨A,c,p4,p5,0,p6⟩
    refine .inr ⟨p5,b,cs,p6,(h.X7 h1 hw).trans p7,p8,p9,p10,λj hj l hl=>?_⟩;obtain⟨x,q1,q2,q3⟩:=p11 j hj l hl;exact⟨x,q1,q2,q3.dS hx h.hg.aK⟩
 ·rcases zI h.hs i with ⟨k,rfl,hk⟩|⟨h1,h2⟩
  ·rw[h.back]at e;obtain⟨e0,e1,rfl⟩:=acY e;obtain⟨b,jd,cl,p1,p2,p3⟩:=h.lU.aK.map _ _ e1;exact⟨b,jd,cl,by rw[h.F9];exact p1,p2,aaP (λv u hv=>h.Nz hv) p3⟩
  ·rw[Gj h.hs h1 h2]at e;obtain⟨b,jd,cl,p1,p2,p3⟩:=h.hg.aK.map _ _ e;have hw:dA G st.get i b:=by unfold dA;rw[e];exact p1
   exact⟨b,jd,cl,by rw[Iy h1 h2];exact p1,(h.X7 h1 hw).trans p2,p3.dS hx h.hg.aK⟩
 ·rcases zI h.hs i with ⟨k,rfl,hk⟩|⟨h1,h2⟩
  ·exact h.lU.aK.wS k b (h.JG e) hf
  ·have hw:=h.JD h1 h2 e;rcases h.hx.F2 b hf with h3|h3
   ·exact h.hg.aK.wS i b hw h3
   ·have:=h.hg.aK.lt hw;omega
 ·have mix:∀ k i,bZ aC i=none->dA G' t.get k b->dA G st.get i b->False:=by
   intro k i h1 h2 h3;rcases h.hx.own k b h2 with h4|h4
   ·obtain⟨j,h5,h6⟩:=ED h.ho h4;have:=h.hg.aK.sep _ _ _ h6 h3;subst this;exact Lp h1 (uX h5)
   ·have:=h.hg.aK.lt h3;omega
  rcases zI h.hs i with ⟨k,rfl,hk⟩|⟨h1,h2⟩ <;> rcases zI h.hs j with ⟨k',rfl,hk'⟩|⟨h1',h2'⟩
  ·rw[h.lU.aK.sep k k' b (h.JG e1) (h.JG e2)]
  ·exact(mix k j h1' (h.JG e1) (h.JD h1' h2' e2)).elim
  ·exact(mix k' i h1 (h.JG e2) (h.JD h1 h2 e1)).elim
  ·exact h.hg.aK.sep i j b (h.JD h1 h2 e1) (h.JD h1' h2' e2)
 ·have hi:st.nx+(t.nx-aC.length)<=i:=hi;rcases zI h.hs i with ⟨k,rfl,hk⟩|⟨h1,h2⟩
  ·rcases hk with hk|⟨hk,h1,h2,h3⟩
   ·have:=h.hs _ (WG hk);omega
   ·obtain⟨u1,u2⟩:=h.lU.jK k qO;refine⟨by rw[h.F9];exact u1,?_⟩;rw[h.back,u2];rfl
  ·omega
end
theorem ae.frame{f:Nat}{args args':List V}{st bG:ST}{aC:List Nat}{Q K:V->ST->Prop}(h:ae f args' bG Q)(hn:ik aC=true)(hs:∀ i∈aC,i<st.nx)(hnx:bG.nx=aC.length)(ha:kS bG.nx (bZ aC) args args')(ho:o9 bG.nx (bZ aC) st aC bG.st)(hk:∀ r t,Q r t->K (o8 aC st.nx r) (sG st aC t)):ae f args st K:=by
 refine⟨h.1,λG w us hg hl hv=>?_⟩;obtain⟨hal,hag⟩:=Vh ha;refine(h.2 (G.sub aC) w us (PW hg hn hnx ho) (hl.trans hal) λk v u hk1 hk2=>?_).mono λe w' hh=>?_
 ·obtain⟨a,h1,h2⟩:=hag k v hk1;exact EC ho h2 (hv k a u h1 hk2)
 ·obtain⟨v,V,t',G',e1,e2,e3,e4,e5⟩:=hh;have hf:uq aC st bG t' G G' w w':=⟨hg,hn,hs,ho,e3,e4⟩;exact⟨v,_,_,_,e1,hk _ _ e2,hf.aK,hf.dS,hf.Nz e5⟩
end
section
def gG(all:List Oper)(o:Oper)(s:AS)(K:V->ST->Prop):Prop:=
 match o.guard with
 |none=>dD ag ae o.op s K
 |some (j,w)=>match (all[j]?).map (·.dst) with
  |some (some d)=>Ig w (dG s.sl d) λt=>Tm ae t w o s (λv=>K (.ku t w v) s.s)
  |_=>False
section
variable {G:Gh} {w w':World} {t:ST} {s:AS} {a:Act} {Q:Exit->Act->World->Prop}
theorem ZH(ops:Array Oper){i:Nat}{o:Oper}(ho:ops[i]?=some o){K:V->ST->Prop}(hg:bV G s.s w)(hs:oG G s a w)(h:gG ops.toList o s K){N:Act->World->Prop}
  (hN:∀ v V t' G' w',K V t'->bV G' t' w'->Stp G s.s.get w G' t'.get w'->aO G' t'.get w' V v->N (a.put o.dst v) w'):wpOp Tryz.prog ops Q i N a w:=by
 unfold wpOp;rw[ho];simp only;unfold gG at h;split at h
 ·rename_i hgd
  have hw:Region.wanted o (yielded ops a.tmps)=true:=by unfold Region.wanted;rw[hgd]
  rw[if_pos hw];refine .inl ?_;have hres:=Qv (M:=ag) (gd:=True) (o:=o) (λp q h=>⟨h.h.2,λ_=>h.h.1⟩) trivial hg hs h;unfold eu at hres;refine yF hres (λa' w' hh=>?_) (λ_ _ _ h=>h.elim);obtain⟨v,V,t',G',rfl,h1,h2,h3,h4⟩:=hh;exact hN v V t' G' w' h1 h2 h3 h4
 ·rename_i j w1 hgd
  split at h;rotate_left
  ·exact h.elim
  rename_i d hd
  obtain⟨t,h,hw⟩:=WJ hs hgd hd h;obtain⟨hyes,hno⟩:=aaV hg hs h;rw[hw];by_cases e:t=w1
  ·rw[if_pos (by rw[e];cases w1 <;> rfl)];refine .inl ?_;refine yF (hyes e) (λa' w' hh=>?_) (λ_ _ _ h=>h.elim);obtain⟨v,V,G',rfl,hk,lU,hst,hv⟩:=hh;exact hN v _ _ G' w' hk lU hst ⟨λ_=>hv,λe'=>au e e'⟩
  ·rw[if_neg (by intro e';exact e (by cases t <;> cases w1 <;> first|rfl|cases e'))];obtain⟨V,hk⟩:=hno e;exact hN undef _ _ G w hk hg (Stp.refl _ _ _) ⟨λe'=>au e' e,λ_=>rfl⟩
end
@[irreducible] def bn (f:Nat) (args:List V) (st:ST) (K:V->ST->Prop):Prop:=∃ R T,K R T
theorem bn.mk{f:Nat}{args:List V}{st:ST}{K:V->ST->Prop}(R:V)(T:ST)(h:K R T):bn f args st K:=by unfold bn;exact⟨R,T,h⟩
theorem bn.val{f:Nat}{args:List V}{st:ST}{K:V->ST->Prop}(R:V)(h:K R st):bn f args st K:=bn.mk R st h
theorem bn.any{f:Nat}{args:List V}{st:ST}{K:V->ST->Prop}(h:bn f args st K):∃ v t,K v t:=by unfold bn at h;exact h
def aef(c:Call)(s:AS)(K:V->Prop):Prop:=
 match c.callee with
 |.value f=>(match s.ev f with
  |.fn k nf n g=>bn k ((xY nf g)++(c.args.toList.map s.ev)++((xY n g).drop nf)) s.s (λv _=>K v)
  |_=>False)
 |_=>False
def Nr(v:V)(K:Bool->Prop):Prop:=
 match v with
 |.d (.v (.bool p))=>K p
 |.ku _ _ (.d (.v (.bool p)))=>K p
 |_=>False
def YK(all:List Oper)(o:Oper)(s:AS)(K:V->ST->Prop):Prop:=
 match o.guard with
 |none=>dD (λ_ q=>q) bn o.op s K
 |some (j,w)=>match (all[j]?).map (·.dst) with
  |some (some d)=>Ig w (dG s.sl d) λt=>(match o.op with
   |.pick c a b=>Nr (s.ev c) λx=>Nr (s.ev a) λp=>Nr (s.ev b) λq=>K (.ku t w (.b (cond x p q))) s.s
   |op=>(match calm op with
    |true=>dD (λ_ q=>q) bn op (ql s) (λv _=>K (.ku t w v) s.s)
    |false=>(match op with
     |.call c=>aef c (ql s) (λv=>K (.ku t w v) s.s)
     |.buildSlice ty n ps=>Bg ty n ps.toList (ql s) (λv=>K (.ku t w v) s.s)
     |_=>False)))
  |_=>False
theorem Vg{v:V}{K:Bool->Prop}(h:Nr v K):∃ p,K p:=by
 unfold Nr at h;repeat' (first|exact h.elim|exact⟨_,h⟩|split at h)
theorem anb{w:Bool}{v:V}{K:Bool->Prop}(h:Ig w v K):∃ t,K t:=by
 unfold Ig at h;repeat' (first|exact h.elim|exact⟨_,h⟩|split at h)
section
variable {s:AS} {M:Prop->Prop->Prop} {C:Nat->List V->ST->(V->ST->Prop)->Prop}
theorem abf{E:Nat}{x:V}{t:ST}{K:Nat->(Nat->Nat->V)->Prop}(h:Fg E x t K):∃ n g,K n g:=by
 unfold Fg at h;repeat' (first|exact h.elim|exact⟨_,_,h⟩|replace h:=(ag.h h).2|split at h)
theorem agx{ty:Nat}{x y:V}{t:ST}{K:V->ST->Prop}(h:LY ty x y t K):∃ v t,K v t:=by
 unfold LY at h;split at h;rotate_left
 ·exact h.elim
 obtain⟨m,g,h⟩:=abf h;repeat' (first|exact h.elim|exact⟨_,_,h⟩|replace h:=(ag.h h).2|split at h)
theorem aii{ty:Nat}{x y:V}{t:ST}{K:V->ST->Prop}(h:Nk ty x y t K):∃ v t,K v t:=by
 unfold Nk at h;split at h;rotate_left
 ·exact h.elim
 obtain⟨m,g,h⟩:=abf h;repeat' (first|exact h.elim|exact⟨_,_,h⟩|replace h:=(ag.h h).2|split at h)
theorem ag6{ty:Nat}{x:V}{t:ST}{K:V->ST->Prop}(h:MH ty x t K):∃ v t,K v t:=by
 unfold MH at h;repeat' (first|exact h.elim|exact⟨_,_,h⟩|replace h:=(ag.h h).2|split at h)
theorem ac9(hM:∀ p q,M p q->q)(hC:∀ f args st K,C f args st K->∃ v t,K v t){op:Op}{K:V->ST->Prop}(h:dD M C op s K):∃ v t,K v t:=by
  rcases hc:calm op with _|_
  rotate_left
  · obtain⟨v,hv⟩:=acp hM hc h;exact⟨v,_,hv⟩
  cases op
  case assign x=>exact⟨_,_,h⟩
  case alloc t=>
    simp only[dD]at h;repeat' (first|exact h.elim|exact⟨_,_,h⟩|split at h)
  case box t x=>
    simp only[dD]at h;obtain⟨n,g,h⟩:=UE h;exact⟨_,_,h⟩
  case store t x v=>
    simp only[dD,QR]at h;split at h
    · exact h.elim
    obtain⟨n,g,h⟩:=UE h;repeat' (first|exact h.elim|exact⟨_,_,h⟩|replace h:=(ag.h h).2|split at h)
  case build t ps=>
    simp only[dD]at h;split at h;rotate_left
    · exact h.elim
    obtain⟨g,h⟩:=Pm (λi K h=>by
      unfold BH at h;repeat' (first|exact h.elim|exact⟨_,_,h⟩|split at h)) _ _ _ h
    exact⟨_,_,h⟩
  case buildSlice t n ps=>
    simp only[dD]at h;split at h;rotate_left
    · exact h.elim
    obtain⟨g,h⟩:=Pm (λi K h=>⟨_,_,h⟩) _ _ _ h.h.2;exact⟨_,_,h⟩
  case makeSlice t a b=>
    simp only[dD]at h;repeat' (first|exact h.elim|exact⟨_,_,h⟩|replace h:=(ag.h h).2|split at h)
  case makeFunc f a b=>
    cases f <;> simp only[dD]at h;exact⟨_,_,h⟩
  case makeMap t r=>
    cases r <;> simp only[dD]at h;exact⟨_,_,h⟩
  case insert t m x v=>
    simp only[dD,IU,force_eq]at h;repeat' (first|exact h.elim|exact⟨_,_,h⟩|split at h)
  case mapUpdate t m x v=>
    simp only[dD,IU,force_eq]at h;repeat' (first|exact h.elim|exact⟨_,_,h⟩|split at h)
  case convert t1 t2 x=>
    simp only[dD,Ha]at h;repeat' (first|exact h.elim|exact⟨_,_,h⟩|replace h:=(ag.h h).2|replace h:=hM _ _ h|split at h)
  case call c=>
    obtain⟨callee,args,ats⟩:=c;cases callee
    case value f=>
      simp only[dD]at h;split at h
      · exact hC _ _ _ _ h
      · exact h.elim
    case builtin b=>
      cases b <;> simp only[calm]at hc;all_goals first
        | (cases hc;done)
        | (simp only[dD]at h;done)
        | skip
      all_goals
        simp only[dD]at h;split at h;rotate_left
        · exact h.elim
        first
          | exact ag6 h
          | (split at h
             rotate_left
             · exact h.elim
             first|exact agx h|exact aii h)
    all_goals (simp only[dD]at h)
  all_goals first|(cases hc;done)|(simp only[dD]at h;done)|skip
theorem aj9{all:List Oper}{o:Oper}{K:V->ST->Prop}(h:YK all o s K):∃ v t,K v t:=by
 have hC:∀ f args st (K:V->ST->Prop),bn f args st K->∃ v t,K v t:=λf args st K h=>by unfold bn at h;exact h
 unfold YK at h;split at h
 ·exact ac9 (λ_ _ h=>h) hC h
 split at h;rotate_left
 ·exact h.elim
 obtain⟨t,h⟩:=anb h;split at h
 ·obtain⟨x,h⟩:=Vg h;obtain⟨p,h⟩:=Vg h;obtain⟨q,h⟩:=Vg h;exact⟨_,_,h⟩
 ·split at h
  ·obtain⟨v,t,h⟩:=ac9 (λ_ _ h=>h) hC h;exact⟨_,_,h⟩
  ·split at h
   ·unfold aef at h;split at h
    ·split at h
     ·obtain⟨v,t,h⟩:=h.any;exact⟨_,_,h⟩
     ·exact h.elim
    ·exact h.elim
   ·obtain⟨v,h⟩:=ZO h;exact⟨_,_,h⟩
   ·exact h.elim
end
end
section
def nth{α:Type}:List α->Nat->Option α
 |[],_=>none
 |a::_,0=>some a
 |_::r,n+1=>nth r n
theorem Jj{α:Type}:∀(l:List α) (n:Nat),nth l n=l[n]?
 |[],_=>by simp[nth]
 |a::_,0=>by simp[nth]
 |_::r,n+1=>by simp[nth,Jj r n]
def snoc{α:Type}:List α->α->List α
 |[],b=>[b]
 |a::r,b=>a::snoc r b
def MR{α:Type}:List α->α->(List α->Prop)->Prop
 |[],b,K=>K [b]
 |a::r,b,K=>MR r b λr=>K (a::r)
theorem La{α:Type}:∀(l:List α) (b:α) (K:List α->Prop),MR l b K=K (snoc l b)
 |[],_,_=>rfl
 |_::r,b,_=>La r b _
def rE(l:List Oper)(vs:List V):List Edge->List (Nat×V)
 |[]=>[]
 |e::es=>match Region.binds .any e,nth l e.on,nth vs e.on with
  |true,some o,some v=>(match o.dst with|some d=>(d,v)::rE l vs es|none=>rE l vs es)
  |_,_,_=>rE l vs es
def Dl(i:Nat):List Edge->Bool
 |[]=>false
 |e::es=>bif Nat.beq e.on i then (bif Region.binds .any e then true else Dl i es) else Dl i es
def Dj(i d:Nat):List Oper->Bool
 |[]=>false
 |o::r=>match o.dst with
  |some e=>bif Nat.beq e d then (bif Dl i o.after.toList then Dj i d r else true) else Dj i d r
  |none=>Dj i d r
def xP(i:Nat)(l:List Oper)(sl:List (Nat×V)):List Operand->List (Nat×V)
 |[]=>[]
 |.tmp d::r=>(match Dj i d l with|true=>xP i l sl r|false=>(d,dG sl d)::xP i l sl r)
 |_::r=>xP i l sl r
def ru:List Oper->List V->List (Nat×V)
 |o::r,v::q=>match o.dst with|some d=>(d,v)::ru r q|none=>ru r q
 |_,_=>[]
def gq(l:List Oper)(vs:List V)(s:AS)(i:Nat)(o:Oper)(S:ST):AS:=⟨s.nt,rE l vs o.after.toList++xP i l s.sl o.op.operands.toList,S⟩
abbrev yC:=Nat×Nat×Bool×List Nat
def EY(l:List Oper)(s:AS):List Oper->List yC->List V->List ST->ST->(List V->List ST->Prop)->Prop
 |o::r,(_,_,fx,_)::q,vs,Ss,S,K=>MF (gq l vs s vs.length o S).sl λsl=>YK l o ⟨s.nt,sl,S⟩ λv t=>force v λv=>GG t λt=>MR vs v λvs=>match fx with
  |true=>MR Ss S λSs=>EY l s r q vs Ss t K
  |false=>EY l s r q vs Ss S K
 |_,_,vs,Ss,S,K=>MR Ss S λSs=>K vs Ss
def Qp(P:ST->ST->Prop):List ST->Nat->Prop
 |S::S'::r,n+1=>P S S'/\Qp P (S'::r) n
 |[S],_+1=>P S S
 |_,_=>True
def Oc(l:List Oper)(s:AS)(vs:List V)(Ss:List ST):Nat->List Oper->List yC->List V->Prop
 |i,o::r,(lo,hi,fx,_)::q,v::vr=>(match s.fits o.dst with
  |true=>MF (gq l vs s i o s.s).sl λsl=>Qp (λS S'=>gG l o ⟨s.nt,sl,S⟩ λv' t=>v'=v/\t=(match fx with|true=>S'|false=>S)) (Ss.drop lo) (hi+1-lo)
  |false=>False)/\Oc l s vs Ss (i+1) r q vr
 |_,_,_,_=>True
def X5(l:List Oper)(eff:List Nat)(vs:List V)(Ss:List ST)(p:Prop):Prop:=match Nat.beq vs.length l.length,Nat.beq Ss.length (eff.length+1) with
 |true,true=>p
 |_,_=>False
section
variable {t0:ST} {X:Cx t0} {G:Gh} {w w':World} {s:AS} {a:Act} {l:List Oper} {vs:List V} {Ss:List ST} {sigs:List yC} {eff:List Nat}
theorem Ve:∀(r:List Oper) (q:List yC) (vs:List V) (Ss:List ST) (S:ST) (K:List V->List ST->Prop),EY l s r q vs Ss S K->∃ vs Ss,K vs Ss
 |o::r,(lo,hi,fx,dp)::q,vs,Ss,S,K,h=>by
  unfold EY at h;rw[PM]at h;obtain⟨v,t,h⟩:=aj9 h;rw[force_eq,Pq,La]at h;cases fx with
  |true=>
   simp only[La]at h;exact Ve r q _ _ _ _ h
  |false=>exact Ve r q _ _ _ _ h
 |[],_,vs,Ss,S,K,h=>⟨_,_,by unfold EY at h;rw[La]at h;exact h⟩
 |_::_,[],vs,Ss,S,K,h=>⟨_,_,by unfold EY at h;rw[La]at h;exact h⟩
theorem aau{P:ST->ST->Prop}:∀ {Ss:List ST} {n k:Nat} {S:ST},Qp P Ss n->k<n->Ss[k]?=some S->P S (Ss.getD (k+1) S)
 |[],n,k,S,_,_,hS=>by simp at hS
 |_,0,k,S,_,hk,_=>au hk qO
 |[S0],n+1,k,S,h,hk,hS=>by
  cases k with
  |zero=>simp at hS;subst hS;exact h
  |succ k=>simp at hS
 |S0::S1::r,n+1,k,S,h,hk,hS=>by
  cases k with
  |zero=>simp at hS;subst hS;exact h.1
  |succ k=>
   have:=aau (Ss:=S1::r) (k:=k) h.2 qO (by simpa using hS);simpa using this
theorem aer:∀ {r:List Oper} {q:List yC} {vr:List V} {n i:Nat} {o:Oper} {v:V} {lo hi:Nat} {fx:Bool} {dp:List Nat},Oc l s vs Ss n r q vr->r[i]?=some o->q[i]?=some (lo,hi,fx,dp)->vr[i]?=some v ->
  s.fits o.dst=true/\Qp (λS S'=>gG l o (gq l vs s (n+i) o S) λv' t=>v'=v/\t=(match fx with|true=>S'|false=>S)) (Ss.drop lo) (hi+1-lo)
 |[],_,_,_,i,_,_,_,_,_,_,_,h,_,_=>by simp at h
 |_::_,[],_,_,i,_,_,_,_,_,_,_,_,h,_=>by simp at h
 |_::_,_::_,[],_,i,_,_,_,_,_,_,_,_,_,h=>by simp at h
 |o0::r,(zi,hi0,fx0,dp0)::q,v0::vr,n,i,o,v,lo,hi,fx,dp,hc,h1,h2,h3=>by
  cases i with
  |zero=>
   simp at h1 h2 h3;obtain⟨rfl,rfl,rfl,rfl⟩:=h2;subst h1 h3;have hc:=hc.1;split at hc
   ·rw[PM]at hc;exact⟨by assumption,hc⟩
   ·exact hc.elim
  |succ i=>
   rw[show n+(i+1)=n+1+i by omega];exact aer hc.2 (by simpa using h1) (by simpa using h2) (by simpa using h3)
theorem adU{M:List Nat}:∀ {q:List yC} {k j:Nat} {lo hi:Nat} {fx:Bool} {dp:List Nat},TF M eff q k=true->q[j]?=some (lo,hi,fx,dp)->Zc M eff (k+j) lo=true/\Zl M eff (k+j) hi=true/\fx=eff.contains (k+j)
 |[],k,j,_,_,_,_,_,h=>by simp at h
 |(zi,hi0,fx0,dp0)::q,k,j,lo,hi,fx,dp,hs,h=>by
  simp only[TF,qc,beq_iff_eq]at hs;cases j with
  |zero=>
   simp at h;obtain⟨rfl,rfl,rfl,rfl⟩:=h;exact⟨hs.1.1.1.1,hs.1.1.1.2,hs.1.1.2⟩
  |succ j=>
   have:=adU (q:=q) (k:=k+1) (j:=j) hs.2 (by simpa using h);rw[show k+(j+1)=k+1+j by omega];exact this
theorem VE(tl:List (Nat×V))(j:Nat):∀(es:List Edge),dG (rE l vs es++tl) j=dG tl j\/∃ e∈es,Region.binds .any e=true/\∃ o v,l[e.on]?=some o/\o.dst=some j/\vs[e.on]?=some v/\dG (rE l vs es++tl) j=v
 |[]=>.inl rfl
 |e::es=>by
  have ih:=VE tl j es;have skip:rE l vs (e::es)=rE l vs es->(dG (rE l vs (e::es)++tl) j=dG tl j\/∃ e'∈e::es,Region.binds .any e'=true/\∃ o v,l[e'.on]?=some o/\o.dst=some j/\vs[e'.on]?=some v/\dG (rE l vs (e::es)++tl) j=v):=by
   intro hh;rw[hh];rcases ih with ih|⟨e',h1,h2⟩
   ·exact .inl ih
   ·exact .inr ⟨e',je _ h1,h2⟩
  rcases hb:Region.binds .any e with _|_
  ·exact skip (by simp[rE,Jj,hb])
  rcases ho:l[e.on]? with _|o
  ·exact skip (by simp[rE,Jj,hb,ho])
  rcases hd:o.dst with _|d
  ·rcases hv:vs[e.on]? with _|v <;> exact skip (by simp[rE,Jj,hb,ho,hd,hv])
  rcases hv:vs[e.on]? with _|v
  ·exact skip (by simp[rE,Jj,hb,ho,hd,hv])
  have hh:rE l vs (e::es)=(d,v)::rE l vs es:=by
   simp[rE,Jj,hb,ho,hd,hv]
  rw[hh];show(bif Nat.beq d j then v else dG (rE l vs es++tl) j)=_\/∃ e'∈e::es,_/\∃ o v',_/\_/\_/\(bif Nat.beq d j then v else dG (rE l vs es++tl) j)=v';rcases hj:Nat.beq d j with _|_
  ·rcases ih with ih|⟨e',h1,h2⟩
   ·exact .inl ih
   ·exact .inr ⟨e',je _ h1,h2⟩
  ·exact .inr ⟨e,jC,hb,o,v,ho,by rw[hd,dH hj],hv,rfl⟩
theorem OZ{i:Nat}:∀ {es:List Edge},Dl i es=true->∃ e∈es,Region.binds .any e=true/\e.on=i
 |[],h=>by cases h
 |e::es,h=>by
  unfold Dl at h;rcases h1:Nat.beq e.on i with _|_
  ·rw[h1,di]at h;obtain⟨e',q1,q2⟩:=OZ h;exact⟨e',je _ q1,q2⟩
  ·rw[h1,dR]at h;rcases h2:Region.binds .any e with _|_
   ·rw[h2,di]at h;obtain⟨e',q1,q2⟩:=OZ h;exact⟨e',je _ q1,q2⟩
   ·exact⟨e,jC,h2,dH h1⟩
theorem OY{i d:Nat}:∀ {l:List Oper},Dj i d l=false->∀ o∈l,o.dst=some d->Dl i o.after.toList=true
 |[],_,o,ho,_=>by cases ho
 |o0::r,h,o,ho,hd=>by
  unfold Dj at h;rcases hd0:o0.dst with _|e
  ·rw[hd0]at h;rcases List.mem_cons.1 ho with rfl|ho
   ·rw[hd0]at hd;cases hd
   ·exact OY h o ho hd
  ·rw[hd0]at h;have h:(bif Nat.beq e d then (bif Dl i o0.after.toList then Dj i d r else true) else Dj i d r)=false:=h;rcases hb:Nat.beq e d with _|_
   ·rw[hb,di]at h;rcases List.mem_cons.1 ho with rfl|ho
    ·rw[hd0]at hd;injection hd with hd;subst hd;simp at hb
    ·exact OY h o ho hd
   ·rw[hb,dR]at h;rcases hw:Dl i o0.after.toList with _|_
    ·rw[hw]at h;cases h
    ·rw[hw,dR]at h;rcases List.mem_cons.1 ho with rfl|ho
     ·exact hw
     ·exact OY h o ho hd
theorem Gn(l:List Oper)(sl:List (Nat×V))(i j:Nat):∀(ops:List Operand),dG (xP i l sl ops) j = .top\/((∀ o∈l,o.dst=some j->Dl i o.after.toList=true)/\dG (xP i l sl ops) j=dG sl j)
 |[]=>.inl rfl
 |.tmp d::r=>by
  unfold xP;rcases hw:Dj i d l with _|_
  ·show(bif Nat.beq d j then dG sl d else dG (xP i l sl r) j)=_\/(_/\(bif Nat.beq d j then dG sl d else dG (xP i l sl r) j)=_);rcases hj:Nat.beq d j with _|_
   ·exact Gn l sl i j r
   ·obtain rfl:=dH hj;exact .inr ⟨OY hw,rfl⟩
  ·exact Gn l sl i j r
 |.const _::r=>Gn l sl i j r
 |.global _::r=>Gn l sl i j r
 |.func _::r=>Gn l sl i j r
theorem VD(tl:List (Nat×V))(j:Nat):∀(l:List Oper) (vs:List V),l.length=vs.length->((∀ o∈l,o.dst≠some j)/\dG (ru l vs++tl) j=dG tl j)\/∃(i:Nat) (o:Oper) (v:V),l[i]?=some o/\o.dst=some j/\vs[i]?=some v/\dG (ru l vs++tl) j=v
 |[],vs,_=>.inl ⟨(λo h=>by cases h),by unfold ru;rfl⟩
 |o::r,[],h=>by simp at h
 |o::r,v::q,h=>by
  have ih:=VD tl j r q (by simpa using h);unfold ru;rcases hd:o.dst with _|d
  ·rcases ih with ⟨h1,h2⟩|⟨i,o',v',h1,h2⟩
   ·exact .inl ⟨λo' ho'=>by
     rcases List.mem_cons.1 ho' with rfl|ho'
     ·rw[hd];intro e;cases e
     ·exact h1 o' ho',h2⟩
   ·exact .inr ⟨i+1,o',v',by simpa using h1,h2.1,by simpa using h2.2.1,h2.2.2⟩
  ·show(_/\(bif Nat.beq d j then v else dG (ru r q++tl) j)=_)\/∃ i o' v',_/\_/\_/\(bif Nat.beq d j then v else dG (ru r q++tl) j)=v';rcases hj:Nat.beq d j with _|_
   ·rcases ih with ⟨h1,h2⟩|⟨i,o',v',h1,h2⟩
    ·exact .inl ⟨λo' ho'=>by
      rcases List.mem_cons.1 ho' with rfl|ho'
      ·rw[hd];intro e;injection e with e;subst e;simp at hj
      ·exact h1 o' ho',h2⟩
    ·exact .inr ⟨i+1,o',v',by simpa using h1,h2.1,by simpa using h2.2.1,h2.2.2⟩
   ·exact .inr ⟨0,o,v,rfl,by rw[hd,dH hj],rfl,rfl⟩
structure afO (X:Cx t0) (s:AS) (l:List Oper) (eff:List Nat) (vs:List V) (Ss:List ST) (listed:Array Bool) (k:Nat) (a:Act) (w:World):Prop where
 size:listed.size=l.length
 le:k<=eff.length
 at':∀ j e,eff[j]?=some e->(listed.getD e true=true↔j<k)
 closed:Closed l (λk=>listed.getD k true=true)
 mod:∃ G S,Ss[k]?=some S/\bV G S w/\a.tmps.size=s.nt/\a.defers=X.ds/\Stp X.G X.t.get X.w G S.get w /\
  (∀(i:Nat) (o:Oper) (d:Nat) (v:V),l[i]?=some o->o.dst=some d->listed.getD i true=true->vs[i]?=some v->aO G S.get w v (a.tmps.getD d undef)) /\
  ∀ j,(∀ k o,l[k]?=some o->o.dst=some j->listed.getD k true=true->False)->aO G S.get w (dG s.sl j) (a.tmps.getD j undef)
end
end
end Go.Proofs.YtnibdnahojjcgaaGreat
