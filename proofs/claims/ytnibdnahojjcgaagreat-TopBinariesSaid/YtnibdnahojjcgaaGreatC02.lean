/- Lemmas. -/
import Derived.Below
import Derived.Deep.Draws
import Derived.Deep.LoopGhost
import Derived.Deep.RegionHeld3
import Derived.Deep.RegionWith
import Derived.IntWalk
import Derived.Laws.CopyOwn
import Derived.Lib.Hide
import Derived.Maps.AppendAt
import Derived.Orders
import Derived.Test.YtnibdnahojjcgaaGreatProg
import Derived.Test.YtnibdnahojjcgaaGreatC01
namespace Go.Proofs.YtnibdnahojjcgaaGreat
set_option linter.all false
set_option maxRecDepth 100000
set_option maxHeartbeats 0
open Go.RowKit Tryz
section
def y8{P:Program}{o:Oper}{a:Act}{w:World}{n n':Act->World->Prop}{Q Q':Exit->Act->World->Prop}(h:o.wp P a w n Q)(hn:∀ a w,n a w->n' a w)(hq:∀ e a w,Q e a w->Q' e a w):o.wp P a w n' Q':=by
 unfold Oper.wp Oper.upon at *;split at h
 ·exact hn _ _ h
 ·exact hn _ _ h
 ·exact hn _ _ h
 ·refine h.mono λe w' hh=>?_
  obtain x|x|x:=e
  ·exact hn _ _ hh
  ·exact hq _ _ _ hh
  ·obtain⟨a,w,h⟩:=hh;exact⟨a,w,hq _ _ _ h⟩
 ·exact h.mono λv w' hh=>hn _ _ hh
 ·exact hq _ _ _ h
 ·exact h
def QN{t0:ST}(X:Cx t0)(K:AS->Prop):Exit->Act->World->Prop:=λe a w=>e = .normal/\∃ s,K s/\Mod X s a w
section
variable {t0:ST} {X:Cx t0} {G:Gh} {w w':World} {t:ST} {s:AS} {a:Act}
def Xb{t w':Bool}:∀ {l:List Operand} {k:Prop},NK s t w' l k->k/\(t=w'->∀ x∈l,∀ u,aY G s.s.get w (s.ev x) u->aY G s.s.get w (Ua (s.ev x)) u)
 |[],k,h=>⟨h,λ_ x hx=>by cases hx⟩
 |x::r,k,h=>by
  unfold NK at h;split at h
  ·rename_i t1 w1 v e
   obtain⟨h1,h2⟩:=h.h;obtain⟨q1,q2⟩:=Xb h2;refine⟨q1,λe1 y hy u hu=>?_⟩;obtain rfl|hy:=List.mem_cons.1 hy
   ·rw[e]at hu ⊢;exact hu.1 (h1 e1)
   ·exact q2 e1 y hy u hu
  ·rename_i hne
   obtain⟨q1,q2⟩:=Xb h;refine⟨q1,λe1 y hy u hu=>?_⟩;obtain rfl|hy:=List.mem_cons.1 hy
   ·have e:Ua (s.ev y)=s.ev y:=by
     rcases hv:s.ev y with _|_|_|_|_|_|_|_|_|_|_|_|⟨t2,w2,v⟩
     all_goals first|rfl|exact ai hv (hne _ _ _)
    rw[e];exact hu
   ·exact q2 e1 y hy u hu
def ak8{M:Prop->Prop->Prop}{op:BinOp}{k:IntKind}{x y:Int}{K:V->Prop}(hM:∀ p q,M p q->q)(h:Pj M op k x y K):∃ v,K v:=by
 unfold Pj at h;split at h;all_goals first|exact h.elim|exact⟨_,h⟩|exact⟨_,hM _ _ h⟩
def aof{M:Prop->Prop->Prop}{op:BinOp}{t:Nat}{x y:V}{K:V->Prop}(hM:∀ p q,M p q->q)(h:Qd M op t x y K):∃ v,K v:=by
 unfold Qd at h;split at h;all_goals first|exact h.elim|skip
 all_goals(split at h)
 all_goals first
  |exact h.elim
  |exact ak8 hM h
  |exact⟨_,h⟩
  |exact⟨_,h.h false (λe=>by cases e)⟩
def ak5{M:Prop->Prop->Prop}{t:Nat}{x:V}{z:ST}{K:V->Prop}(hM:∀ p q,M p q->q)(h:KT M t x z K):∃ v,K v:=by
 unfold KT at h;split at h
 ·exact h.elim
 split at h;all_goals first|exact h.elim|skip
 all_goals(split at h)
 all_goals first|exact h.elim|exact⟨_,hM _ _ h⟩|skip
 all_goals(split at h)
 all_goals first|exact h.elim|exact⟨_,hM _ _ h⟩
def ajC{M:Prop->Prop->Prop}{t:Nat}{x y:V}{z:ST}{K:V->Prop}(hM:∀ p q,M p q->q)(h:OG M t x y z K):∃ v,K v:=by
 unfold OG at h;split at h;rotate_left
 ·exact h.elim
 split at h;all_goals first|exact h.elim|skip
 all_goals(split at h)
 all_goals first|exact h.elim|exact⟨_,hM _ _ h⟩|skip
 all_goals(split at h)
 all_goals first|exact h.elim|exact⟨_,hM _ _ h⟩
def aji{M:Prop->Prop->Prop}{t:Nat}{x:V}{lo hi mx:Option V}{z:ST}{K:V->Prop}(hM:∀ p q,M p q->q)(h:OB M t x lo hi mx z K):∃ v,K v:=by
 unfold OB at h;split at h;all_goals first|exact h.elim|skip
 all_goals(split at h)
 all_goals first|exact h.elim|skip
 all_goals(split at h)
 all_goals first|exact h.elim|exact⟨_,hM _ _ h⟩|skip
 all_goals(split at h)
 all_goals first|exact h.elim|exact⟨_,hM _ _ h⟩
def ali{M:Prop->Prop->Prop}{t1 t2:Nat}{x:V}{z:ST}{K:V->ST->Prop}(hM:∀ p q,M p q->q)(hk:(tI t2).k≠3)(h:IQ M t1 t2 x z K):∃ v,K v z:=by
 unfold IQ at h;split at h
 ·split at h
  ·exact⟨_,hM _ _ h⟩
  ·exact h.elim
 ·split at h;rotate_left
  ·exact h.elim
  split at h
  ·split at h
   ·exact⟨_,hM _ _ h⟩
   ·exact h.elim
  ·exact⟨_,h⟩
  ·split at h
   ·split at h
    ·exact⟨_,hM _ _ h⟩
    ·exact h.elim
   ·exact h.elim
  ·exact h.elim
 ·rename_i e _
  exact ai e hk
 ·exact h.elim
def ac3{z:V}{k:Int}{ok:Bool}:∀ {es:List (Int×V)} {K:V->Prop},KU z k ok K es->∃ v,K v
 |[],_,h=>⟨_,h⟩
 |(j,v)::r,K,h=>by
  have h:aj (decide (j=k)) (K (okV ok v true)) (KU z k ok K r):=h;rcases hd:decide (j=k) with _|_
  ·exact ac3 (h.h.2 hd)
  ·exact⟨_,h.h.1 hd⟩
def ai5{M:Prop->Prop->Prop}(hM:∀ p q,M p q->q){t:Nat}{m x:V}{ok:Bool}{st:ST}{K:V->Prop}(h:N9 M t m x ok st K):∃ v,K v:=by
 unfold N9 at h;repeat'(first|exact h.elim|exact⟨_,hM _ _ h⟩|exact ac3 h|split at h)
def aeE{M:Prop->Prop->Prop}{C:Nat->List V->ST->(V->ST->Prop)->Prop}{op:Op}{K:V->ST->Prop}(hM:∀ p q,M p q->q)(hc:calm op=true)(h:dF M C op s K):∃ v,K v s.s:=by
 cases op
 case move x=>exact⟨_,h⟩
 case pick x y z=>
  simp only[dF]at h;split at h;rotate_left
  ·exact h.elim
  split at h
  ·exact⟨_,h⟩
  ·exact⟨_,hM _ _ h⟩
  ·exact⟨_,hM _ _ h⟩
  ·rename_i t _ _ _ _ _ _
   cases t
   ·exact⟨_,h.h.2 rfl⟩
   ·exact⟨_,h.h.1 rfl⟩
 case load t x=>exact ak5 (K:=λv=>K v s.s) hM h
 case fieldAddr t x f=>
  simp only[dF,CV]at h;split at h
  ·split at h
   ·split at h
    ·exact⟨_,h⟩
    ·exact⟨_,hM _ _ h⟩
    ·exact⟨_,h⟩
    ·exact h.elim
   ·exact h.elim
  ·exact h.elim
 case field t x f=>
  simp only[dF,CV]at h;split at h
  ·split at h
   ·split at h
    ·split at h
     ·exact⟨_,hM _ _ h⟩
     ·exact⟨_,hM _ _ h⟩
    ·exact h.elim
   ·exact h.elim
  ·exact h.elim
 case indexAddr t x y=>exact ajC (K:=λv=>K v s.s) hM h
 case lookup t x y ok=>exact ai5 (K:=λv=>K v s.s) hM h
 case slice t x lo hi mx=>exact aji (K:=λv=>K v s.s) hM h
 case unOp op t x=>
  cases op <;> simp only[dF]at h;split at h
  ·exact⟨_,h⟩
  ·exact h.elim
 case extract x i=>
  simp only[dF]at h;split at h
  ·exact⟨_,hM _ _ h⟩
  ·exact h.elim
 case nilCheck x=>
  simp only[dF]at h;split at h;all_goals first|exact h.elim|exact⟨_,h⟩
 case binOp op t x y t2=>exact aof (K:=λv=>K v s.s) hM h
 case convert t1 t2 x=>
  refine ali hM ?_ h;intro e;simp only[calm,e]at hc;cases hc
 case call c=>
  obtain⟨callee,args,ats⟩:=c;cases callee
  case builtin b=>
   cases b <;> simp only[calm]at hc <;> first|(cases hc;done)|skip
   ·simp only[dF]at h;split at h
    ·unfold Vr at h;split at h;all_goals first|exact h.elim|exact⟨_,h⟩
    ·exact h.elim
   all_goals
    simp only[dF]at h;split at h;rotate_left
    ·exact h.elim
    split at h;rotate_left
    ·exact h.elim
    split at h
    ·exact⟨_,h⟩
    ·exact h.elim
  all_goals cases hc
 all_goals cases hc
def akU{M:Prop->Prop->Prop}{C:Nat->List V->ST->(V->ST->Prop)->Prop}{op:Op}{K K':V->ST->Prop}(hK:∀ v,K v s.s=K' v s.s)(hc:calm op=true):dF M C op s K=dF M C op s K':=by
 cases op
 case move x=>simp only[dF,hK]
 case pick x y z=>simp only[dF,hK]
 case load t x=>simp only[dF,hK]
 case fieldAddr t x f=>simp only[dF,hK]
 case field t x f=>simp only[dF,hK]
 case indexAddr t x y=>simp only[dF,hK]
 case lookup t x y ok=>simp only[dF,hK]
 case slice t x lo hi mx=>simp only[dF,hK]
 case unOp op t x=>cases op <;> simp only[dF,hK]
 case extract x i=>simp only[dF,hK]
 case nilCheck x=>simp only[dF,hK]
 case binOp op t x y t2=>simp only[dF,hK]
 case convert t1 t2 x=>
  have h3:(tI t2).k≠3:=by
   intro e;simp only[calm,e]at hc;cases hc
  simp only[dF,IQ];split
  ·simp only[hK]
  ·simp only[hK]
  ·rename_i e _
   exact ai e h3
  ·rfl
 case call c=>
  obtain⟨callee,args,ats⟩:=c;cases callee
  case builtin b=>
   cases b <;> simp only[calm]at hc <;> first|(cases hc;done)|(simp only[dF,hK])
  all_goals cases hc
 all_goals cases hc
def ZT{G:Gh}{o:Nat->aK}{w:World}{v:V}{hyp:Prop}{K:Bool->Prop}(h:PD v hyp K):∃ p,K p/\∀ u,aY G o w v u->hyp->u = .bool p:=by
 unfold PD at h;split at h
 ·exact⟨_,h,λu hu _=>hu⟩
 ·exact⟨_,h.h.2,λu hu hh=>hu.1 (h.h.1 hh)⟩
 ·exact h.elim
def YY{ops:Array Oper}{s:AS}{a:Act}{w:World}{G:Gh}{o:Oper}{j d:Nat}{w1:Bool}{K:Bool->Prop}(hs:oZ G s a w)(hgd:o.guard=some (j,w1))(hd:(ops.toList[j]?).map (·.dst)=some (some d))(h:Jn w1 (dD s.sl d) K):∃ t,K t/\Region.wanted o (yielded ops a.tmps)=(t == w1):=by
 have hjd:(ops[j]?).bind (·.dst)=some d:=by
  rcases hoj:ops[j]? with _|oj
  ·rw[<-qP]at hoj;rw[hoj]at hd;cases hd
  ·rw[<-qP]at hoj;rw[hoj]at hd;simpa using hd
 have hv:=hs.sl d;unfold Jn at h;have key:∀ u:Value,a.tmps.getD d undef=u->Region.wanted o (yielded ops a.tmps)=(match u with|.bool t=>(t == w1)|_=>false):=λu hu=>by
  unfold Region.wanted yielded;rw[hgd];simp only[hjd,Option.bind_some];rw[uJ]at hu;rcases hx:a.tmps[d]? with _|x
  ·rw[hx]at hu;have hu:undef=u:=hu;subst hu;rfl
  ·rw[hx]at hu;have hu:x=u:=hu;subst hu;cases x
   case bool t=>cases t <;> cases w1 <;> rfl
   all_goals rfl
 split at h
 ·rename_i t e
  rw[e]at hv;exact⟨t,h,key _ hv⟩
 ·rename_i t1 w2 c e
  rw[e]at hv;refine⟨_,h,?_⟩;by_cases et:t1=w2
  ·rw[key _ (hv.1 et)];subst et;cases t1 <;> cases c <;> cases w1 <;> rfl
  ·rw[key _ (hv.2 et)];cases t1 <;> cases w2 <;> cases c <;> cases w1 <;> first|rfl|exact ai rfl et
 ·exact h.elim
def WT{v:V}{K:Nat->(Nat->V)->Prop}(h:F6 v K):∃ n g,K n g:=by
 unfold F6 at h;repeat'(first|exact h.elim|exact⟨_,_,h⟩|split at h)
def Q9{s:AS}{n:Nat}{z:Nat->V}{place:Nat->(Nat->Nat->Prop)->Prop}(hp:∀ i K,place i K->∃ a b,K a b):∀(l:List (Nat×Operand)) (g:Nat->V) (K:(Nat->V)->Prop),zn s n z place l g K->∃ g,K g
 |[],g,K,h=>⟨g,h⟩
 |(i,x)::r,g,K,h=>by
  obtain⟨a,b,h⟩:=hp _ _ h;obtain⟨m,g2,h⟩:=WT h;split at h
  ·exact Q9 hp r _ K h.h.2
  ·exact h.elim
def abR{t n:Nat}{ps:List (Nat×Operand)}{s:AS}{K:V->Prop}(h:BQ t n ps s K):∃ v,K v:=by
 unfold BQ at h;split at h;rotate_left
 ·exact h.elim
 obtain⟨g,h⟩:=Q9 (λi K h=>⟨_,_,h⟩) _ _ _ h;split at h
 ·exact⟨_,h⟩
 ·exact h.elim
def abM{s s3:AS}{n:Nat}{z:Nat->V}{place:Nat->(Nat->Nat->Prop)->Prop}:∀(l:List (Nat×Operand)) (g:Nat->V) (K:(Nat->V)->Prop),(∀ p∈l,s.ev p.2=s3.ev p.2)->zn s n z place l g K=zn s3 n z place l g K
 |[],_,_,_=>rfl
 |(i,x)::r,g,K,h=>by
  unfold zn;rw[h (i,x) jL];simp only[abM r _ K (λp hp=>h p (jA _ hp))]
def aiH{t n:Nat}{ps:List (Nat×Operand)}{s s3:AS}{K:V->Prop}(h:∀ p∈ps,s.ev p.2=s3.ev p.2):BQ t n ps s K=BQ t n ps s3 K:=by
 unfold BQ;simp only[abM ps _ _ h]
def ac8{s:AS}{a:Act}{w:World}{G:Gh}{o:Oper}{t w1:Bool}{K:V->Prop}(hg:bZ G s.s w)(hs:oZ G s a w)(h:Vw af t w1 o s K) :
  (t=w1->o.wp prog a w (λa' w'=>∃ v V G',a'=a.put o.dst v/\K V/\bZ G' s.s w'/\Stp G s.s.get w G' s.s.get w'/\aY G' s.s.get w' V v) (λ_ _ _=>False))/\(t≠w1->∃ V,K V):=by
 unfold Vw at h;split at h
 ·rename_i c x y hop
  obtain⟨p,h,hc⟩:=ZT (G:=G) (o:=s.s.get) (w:=w) h;obtain⟨q,h,hx⟩:=ZT (G:=G) (o:=s.s.get) (w:=w) h;obtain⟨r,h,hy⟩:=ZT (G:=G) (o:=s.s.get) (w:=w) h;refine⟨λe=>?_,λ_=>⟨_,h⟩⟩;have hc:=hc _ (hs.ev c) e;have hrun:(execOp a.eval o).run prog w = .ok (.value (if p=true then a.eval x else a.eval y)) w:=by
   simp[execOp,hop,hc,asBool]
  unfold Oper.wp Oper.upon;rw[hrun];refine⟨_,_,G,rfl,h,hg,Stp.refl _ _ _,?_⟩;cases p
  ·exact hy _ (hs.ev y) ⟨e,rfl⟩
  ·exact hx _ (hs.ev x) ⟨e,rfl⟩
 ·obtain⟨h,atj⟩:=Xb (w:=w) (G:=G) h;have hs3:t=w1->oZ G (only (strip s) o.op.operands.toList) a w:=λe=>⟨hs.nt,λq=>by
   obtain h1|⟨h1,h2⟩:=ak4 (strip s) o.op.operands.toList q
   ·rw[h1];trivial
   ·rw[h2];have:=atj e (.tmp q) h1 _ (hs.sl q);rw[ajB];exact this⟩
  split at h
  ·rename_i hcalm
   have hM:∀ p q,(λp k=>ag (t=w1->p) k) p q->q/\(t=w1->p):=λp q h=>⟨h.h.2,h.h.1⟩
   refine⟨λe=>?_,λe=>?_⟩
   ·have h3:dF (λp k=>ag (t=w1->p) k) af o.op (only (strip s) o.op.operands.toList) (λv t'=>t'=s.s/\K v):=by
     rw[amK (s:=strip s) (s3:=only (strip s) o.op.operands.toList) rfl (λx hx=>YP _ _ x hx) hcalm];rw[akU (s:=strip s) (K':=λv _=>K v) (λv=>by simp[strip]) hcalm];exact h
    have hres:=Tz (s:=only (strip s) o.op.operands.toList) (o:=o) hM e hg (hs3 e) h3;unfold fG at hres;refine y8 hres (λa' w' hh=>?_) (λ_ _ _ h=>h.elim);obtain⟨v,V,t',G',rfl,⟨rfl,hk⟩,lN,hst,hv⟩:=hh;exact⟨v,V,G',rfl,hk,lN,hst,hv⟩
   ·obtain⟨v,hv⟩:=aeE (λp q h=>(hM p q h).1) hcalm h;exact⟨v,hv⟩
  ·split at h;rotate_left
   ·rename_i ty n ps hoc
    refine⟨λe=>?_,λ_=>abR h⟩;have hmem:∀ p∈ps.toList,(only (strip s) o.op.operands.toList).ev p.2=(strip s).ev p.2:=λp hp=>YP _ _ p.2 (by
     rw[hoc];simp only[Op.operands];simp;exact⟨p.1,by simpa using hp⟩)
    rw[<-aiH (s:=only (strip s) o.op.operands.toList) hmem]at h;obtain⟨cells,hrun,D,hk,hd⟩:=acd (s:=only (strip s) o.op.operands.toList) hg (hs3 e) h;obtain⟨h1,h2⟩:=Nw hg ((Below.refl w.heap.size w).alloc (bF _) (.cells cells (tI ty).elem));unfold Oper.wp Oper.upon execOp;simp only[hoc,Sem.run_bind,hrun,Result.andThen_ok,Sem.run_pure];exact⟨_,_,_,rfl,hk,h1,h2,hd _ (λb hb=>.inl hb) (.inr ⟨bF _,by simp⟩)⟩
   ·exact h.elim
   rename_i c hoc
   unfold agN at h;split at h;rotate_left
   ·exact h.elim
   rename_i f hcf
   split at h;rotate_left
   ·exact h.elim
   rename_i k nf n g hf
   obtain⟨R,hcall,hk⟩:=h;refine⟨λe=>?_,λe=>⟨R,hk⟩⟩;have hmem:∀ x,x=f\/x∈c.args.toList->(only (strip s) o.op.operands.toList).ev x=(strip s).ev x:=λx hx=>YP _ _ x (by
    rw[hoc];simp only[Op.operands,Call.operands,hcf];obtain rfl|hx:=hx
    ·simp
    ·simp at hx;simp[hx])
   have agL:=hcall e;rw[List.map_congr_left (λx hx=>(hmem x (.inr hx)).symm)]at agL;have hres:=adK (o:=o) (s:=only (strip s) o.op.operands.toList) hg (hs3 e) hoc hcf (by rw[hmem f (.inl rfl)];exact hf) agL;unfold fG at hres;refine y8 hres (λa' w' hh=>?_) (λ_ _ _ h=>h.elim);obtain⟨v,V,t',G',rfl,⟨rfl,e2⟩,lN,hst,hv⟩:=hh;have e2:t'=s.s:=e2;subst e2;exact⟨v,_,G',rfl,hk,lN,hst,hv⟩
def BJ(ops:Array Oper):∀(rest:List Oper) (i:Nat),ops.toList.drop i=rest->∀(s:AS) (a:Act) (w:World) (K:AS->Prop),uy af ops.toList rest s K->Mod X s a w->wpOps prog ops (QN X K) (List.range' i rest.length) a w:=by
 intro rest;induction rest with
 |nil=>intro i hi s a w K h hm;exact⟨rfl,s,h,hm⟩
 |cons o r ih=>
  intro i hi s a w K h hm;have hlt:i<ops.toList.length:=by
   obtain h1|h1:=l7 i ops.toList.length
   ·exact h1
   ·rw[List.drop_of_length_le h1]at hi;cases hi
  have ho:ops[i]?=some o:=by
   rw[List.drop_eq_getElem_cons hlt]at hi;injection hi with h1 h2
   rw[<-qP,dV hlt,h1]
  have hr:ops.toList.drop (i+1)=r:=by
   rw[List.drop_eq_getElem_cons hlt]at hi;injection hi
  rw[lT,List.range'_succ];unfold wpOps;rw[ho];simp only;unfold uy at h;simp only[afs,force_eq]at h;split at h
  ·exact h.elim
  rename_i iY
  obtain⟨G,hg,hs,hx⟩:=hm;split at h
  ·rename_i hgd
   have hw:Region.wanted o (yielded ops a.tmps)=true:=by unfold Region.wanted;rw[hgd]
   rw[if_pos hw];refine .inl ?_;have hres:=Tz (M:=ag) (gd:=True) (o:=o) (λp q h=>⟨h.h.2,λ_=>h.h.1⟩) trivial hg hs.tooZ h;refine y8 (hres.step hx hs hg iY) (λa' w' hh=>?_) (λ_ _ _ h=>h.elim);obtain⟨x,t',hk,hm'⟩:=hh;exact ih (i+1) hr _ a' w' K hk hm'
  ·rename_i j w1 hgd
   split at h;rotate_left
   ·exact h.elim
   rename_i d hd
   obtain⟨t,h,hw⟩:=YY hs.tooZ hgd hd h;obtain⟨hyes,hno⟩:=ac8 hg hs.tooZ h;rw[hw];by_cases e:t=w1
   ·rw[if_pos (by rw[e];cases w1 <;> rfl)];refine .inl ?_;refine y8 (hyes e) (λa' w' hh=>?_) (λ_ _ _ h=>h.elim);obtain⟨v,V,G',rfl,hk,lN,hst,hv⟩:=hh;exact ih (i+1) hr _ _ w' K hk (N8 hx hs hg.axy lN hst iY ⟨λ_=>hv,λe'=>ai e e'⟩)
   ·rw[if_neg (by intro e';exact e (by cases t <;> cases w1 <;> first|rfl|cases e'))];obtain⟨V,hk⟩:=hno e;exact ih (i+1) hr _ _ w K hk (N8 hx hs hg.axy hg (Stp.refl _ _ _) iY ⟨λe'=>ai e' e,λ_=>rfl⟩)
end
end
section
def xQ(N:Nat):V->Prop
 |.ptr i _=>i<N
 |.rp i _ _ _=>i<N
 |.row i _=>i<N
 |.vw i _ _ _=>i<N
 |.agg n g=>∀ k,k<n->xQ N (g k)
 |.gQ n g=>∀ k,k<n->xQ N (g k)
 |.fn _ _ n g=>∀ k,k<n->xQ N (g k)
 |.mp i=>i<N
 |.kQ _ _ v=>xQ N v
 |_=>True
def VW(N:Nat)(a b:V):Prop:=xQ N b/\∀(G:Gh) (o:Nat->aK) (w:World) (u:Value),aY G o w a u->aY G o w b u
def VW.refl{N:Nat}{a:V}(h:xQ N a):VW N a a:=⟨h,λ_ _ _ _ h=>h⟩
def VW.top{N:Nat}{a:V}:VW N a .top:=⟨trivial,λ_ _ _ _ _=>trivial⟩
def fA{N:Nat}{a b:V}(e:a=b)(h:xQ N b):VW N a b:=⟨h,λ_ _ _ _ h=>e▸h⟩
def VW.agg{N n:Nat}{g h:Nat->V}(hh:∀ k,k<n->VW N (g k) (h k)):VW N (.agg n g) (.agg n h):=
 ⟨λk hk=>(hh k hk).1,λG o w u ⟨cs,e,hn,hc⟩=>⟨cs,e,hn,λk x hx=>⟨(hc k x hx).1,(hh k (by rw[<-hn];exact(Array.getElem?_eq_some_iff.1 hx).1)).2 _ _ _ _ (hc k x hx).2⟩⟩⟩
def VW.gQ{N n:Nat}{g h:Nat->V}(hh:∀ k,k<n->VW N (g k) (h k)):VW N (.gQ n g) (.gQ n h):=
 ⟨λk hk=>(hh k hk).1,λG o w u ⟨cs,e,hn,hc⟩=>⟨cs,e,hn,λk x hx=>(hh k (by rw[<-hn];exact(Array.getElem?_eq_some_iff.1 hx).1)).2 _ _ _ _ (hc k x hx)⟩⟩
def ML:D->D->Prop:=λa b=>∀(F:Nat->Prop) (w:World) (u:Value),jK F w a u->jK F w b u
def ML.sl{n m s:Nat}{g h:Nat->Nat->D}(e:n=m)(hh:∀ j,j<n->∀ k,k<s->ML (g j k) (h j k)):ML (.sl n s g) (.sl m s h):=by
 subst e;rintro F w u ⟨A,c,rfl,h1,h2,h3,h4⟩;refine⟨A,c,rfl,h1,h2,h3,λj hj k hk=>?_⟩;obtain⟨b,off,x,e1,e2,e3,e4,e5,e6⟩:=h4 j hj k hk;exact⟨b,off,x,e1,e2,e3,e4,e5,hh j hj k hk F w x e6⟩
def alA{a b:D}(e:a=b):ML a b:=λ_ _ _ h=>e▸h
def VW.d{N:Nat}{a b:D}(h:ML a b):VW N (.d a) (.d b):=⟨trivial,λG o w u hu=>h G.F w u hu⟩
def VW.sl{N n m s:Nat}{g h:Nat->Nat->D}(e:n=m)(hh:∀ j,j<n->∀ k,k<s->g j k=h j k):VW N (.d (.sl n s g)) (.d (.sl m s h)):=VW.d (ML.sl e λj hj k hk=>alA (hh j hj k hk))
def VW.dC{N s:Nat}{g:Nat->Nat->D}:VW N .dC (.d (.sl 0 s g)):=⟨trivial,λG o w u ⟨A,e⟩=>⟨A,0,e,bF _,cZ _,λ_=>rfl,λj hj=>by omega⟩⟩
def pg{N n s:Nat}{g:Nat->Nat->D}(h:n=0):VW N .dC (.d (.sl n s g)):=by subst h;exact VW.dC
def aW(N:Nat):aK->aK->Prop
 |_,.dead=>True
 |.Wp n g,.Wp m h=>n=m/\∀ k,k<n->VW N (g k) (h k)
 |.row E s n g,.row E' s' m h=>E=E'/\s=s'/\n=m/\∀ j,j<n->∀ k,k<s->VW N (g j k) (h j k)
 |.map a,.map b=>∀ k,match dY a k,dY b k with
  |some v,some v'=>VW N v v'
  |none,none=>True
  |_,_=>False
 |_,_=>False
def uu.told{N:Nat}{G:Gh}{o:Nat->aK}{w:World}{l:List MapEntry}{q q':List (Int×V)}(h:uu G o w l q)(hq:aW N (.map q) (.map q')):uu G o w l q':=h.to λk=>by
 have h:=hq k;revert h;generalize dY q k=a;generalize dY q' k=b;intro h;cases a <;> cases b
 ·trivial
 ·exact h.elim
 ·exact h.elim
 ·exact λu hu=>h.2 _ _ _ _ hu
def VE(N:Nat)(s:AS):List (Nat×V)->Prop
 |[]=>True
 |(j,v)::r=>VW N (dD s.sl j) v/\VE N s r
def pX(N:Nat)(t:ST):List (Nat×aK)->Prop
 |[]=>True
 |(i,ob)::r=>(i<N/\aW N (t.get i) ob)/\pX N t r
structure bf (n0:Nat) (s s2:AS):Prop where
 nt:s2.nt=s.nt
 lo:n0<=s2.s.nx
 hi:s2.s.nx<=s.s.nx
 sl:VE s2.s.nx s s2.sl
 ob:pX s2.s.nx s.s s2.s.st
section
variable {t0:ST} {X:Cx t0} {G:Gh} {w w':World} {t t':ST} {s s2:AS} {a:Act} {N:Nat}
def XM:∀ {l:List (Nat×V)},VE N s l->∀ j,VW N (dD s.sl j) (dD l j)
 |[],_,j=>VW.top
 |(k,v)::r,h,j=>by
  show VW N _ (bif Nat.beq k j then v else dD r j);rcases hk:Nat.beq k j with _|_
  ·exact XM h.2 j
  ·rw[<-dJ hk];exact h.1
def JH:∀ {l:List (Nat×aK)},pX N t l->∀ j,axA l j = .dead\/(j<N/\aW N (t.get j) (axA l j))
 |[],_,j=>.inl rfl
 |(k,v)::r,h,j=>by
  show(bif Nat.beq k j then v else axA r j)=_\/(_/\aW N _ (bif Nat.beq k j then v else axA r j));rcases hk:Nat.beq k j with _|_
  ·exact JH h.2 j
  ·rw[<-dJ hk];exact .inr h.1
def Gh.drop(G:Gh)(N:Nat):Gh:=⟨G.F,λi=>if i<N then G.ρ i else none⟩
def yQ(N:Nat)(t t':ST):Prop:=∀ i,t'.get i = .dead\/(i<N/\aW N (t.get i) (t'.get i))
def aj1{o o':Nat->aK}(ho:∀ i E s n g,o' i = .row E s n g->∃ g0,o i = .row E s n g0){v:V}:∀ {u:Value},xQ N v->aY G o w v u->aY (G.drop N) o' w v u:=by
 have hρ:∀ i,i<N->(G.drop N).ρ i=G.ρ i:=λi hi=>if_pos hi
 induction v with
 |top=>exact λ_ _=>trivial
 |d x=>exact λ_ h=>h
 |dC=>exact λ_ h=>h
 |dp s g=>exact λ_ h=>h
 |ptr i off=>intro u hi h;obtain⟨b,h1,h2⟩:=h;exact⟨b,by rw[hρ i hi];exact h1,h2⟩
 |rp i n j c=>
  intro u hi h;obtain⟨A,cc,h1,h2,h3⟩:=h;refine⟨A,cc,by rw[hρ i hi];exact h1,h2,λE s m g e=>?_⟩;obtain⟨g0,h4⟩:=ho i E s m g e;exact h3 E s m g0 h4
 |row i n=>
  intro u hi h;obtain⟨A,cc,h1,h2,h3⟩:=h;refine⟨A,cc,by rw[hρ i hi];exact h1,h2,λE s m g e=>?_⟩;obtain⟨g0,h4⟩:=ho i E s m g e;exact h3 E s m g0 h4
 |vw i n lo m=>
  intro u hi h;obtain⟨A,cc,h1,h2,h3⟩:=h;refine⟨A,cc,by rw[hρ i hi];exact h1,h2,λE s m g e=>?_⟩;obtain⟨g0,h4⟩:=ho i E s m g e;exact h3 E s m g0 h4
 |agg n g ih=>
  intro u hi h;obtain⟨cs,h1,h2,h3⟩:=h;exact⟨cs,h1,h2,λk x hx=>⟨(h3 k x hx).1,ih k (hi k (by rw[<-h2];exact(Array.getElem?_eq_some_iff.1 hx).1)) (h3 k x hx).2⟩⟩
 |gQ n g ih=>
  intro u hi h;obtain⟨cs,h1,h2,h3⟩:=h;exact⟨cs,h1,h2,λk x hx=>ih k (hi k (by rw[<-h2];exact(Array.getElem?_eq_some_iff.1 hx).1)) (h3 k x hx)⟩
 |fn f nf n g ih=>
  intro u hi h;obtain⟨fs,cs,h1,h2,h3,h4⟩:=h;exact⟨fs,cs,h1,h2,h3,λk x hx=>ih k (hi k (by rw[<-h3,<-Array.size_append];exact(Array.getElem?_eq_some_iff.1 hx).1)) (h4 k x hx)⟩
 |mp i=>intro u hi h;obtain⟨b,h1,h2⟩:=h;exact⟨b,by rw[hρ i hi];exact h1,h2⟩
 |kQ t w' x ih=>intro u hi h;exact⟨λe=>ih hi (h.1 e),h.2⟩
def X8(hl:yQ N t t'):∀ i E s n g,t'.get i = .row E s n g->∃ g0,t.get i = .row E s n g0:=by
 intro i E s n g e;obtain h|⟨_,h⟩:=hl i
 ·rw[e]at h;cases h
 ·rw[e]at h;rcases hi:t.get i with _|_|⟨E',s',n',g'⟩|_
  all_goals rw[hi]at h
  ·exact h.elim
  ·exact h.elim
  ·obtain⟨rfl,rfl,rfl,_⟩:=h;exact⟨g',rfl⟩
  ·exact h.elim
def Ai{v b:V}{u:Value}(hl:yQ N t t')(hv:VW N v b)(h:aY G t.get w v u):aY (G.drop N) t'.get w b u:=aj1 (X8 hl) hv.1 (hv.2 _ _ _ _ h)
def Jz{i b:Nat}(hl:yQ N t t')(h:dB (G.drop N) t'.get i b):dB G t.get i b/\i<N:=by
 obtain h1|⟨hi,h1⟩:=hl i
 ·unfold dB at h;rw[h1]at h;exact h.elim
 ·refine⟨?_,hi⟩;have hρ:(G.drop N).ρ i=G.ρ i:=if_pos hi;unfold dB at h ⊢;rcases h2:t.get i with _|_|⟨E',s',n',g'⟩|_ <;> rcases h3:t'.get i with _|_|⟨E2,s2,n2,g2⟩|_
  all_goals rw[h2,h3]at h1
  all_goals rw[h3]at h
  all_goals first|exact h.elim|exact h1.elim|(simp only at h ⊢;rw[hρ]at h;exact h)
def Ia(hg:bZ G t w)(hl:yQ N t t')(hN:N<=t.nx)(hnx:t'.nx=N):bZ (G.drop N) t' w:=by
 have hρ:∀ i,i<N->(G.drop N).ρ i=G.ρ i:=λi hi=>if_pos hi
 refine⟨⟨λi n g ho=>?_,λi E s n g ho=>?_,λi es ho=>?_,λi b ho=>hg.axy.xP i b (Jz hl ho).1,hg.axy.wF,λi j b h1 h2=>hg.axy.sep i j b (Jz hl h1).1 (Jz hl h2).1⟩,λi hi=>⟨if_neg qO,?_⟩⟩
 ·obtain h|⟨hi,h⟩:=hl i
  ·rw[ho]at h;cases h
  ·rw[ho]at h;rcases h2:t.get i with _|⟨n',g'⟩|_|_
   all_goals rw[h2]at h
   ·exact h.elim
   ·obtain⟨rfl,h⟩:=h;obtain⟨b,cs,ty,e1,e2,e3,e4⟩:=hg.axy.Wp _ _ _ h2;exact⟨b,cs,ty,by rw[hρ i hi];exact e1,e2,e3,λk x hx=>⟨(e4 k x hx).1,Ai hl (h k (by rw[<-e3];exact(Array.getElem?_eq_some_iff.1 hx).1)) (e4 k x hx).2⟩⟩
   ·exact h.elim
   ·exact h.elim
 ·obtain h|⟨hi,h⟩:=hl i
  ·rw[ho]at h;cases h
  ·rw[ho]at h;rcases h2:t.get i with _|_|⟨E',s',n',g'⟩|_
   all_goals rw[h2]at h
   ·exact h.elim
   ·exact h.elim
   ·obtain⟨rfl,rfl,rfl,h⟩:=h;obtain⟨e1,e2,e3,A,c,e4,e5⟩:=hg.axy.row _ _ _ _ _ h2;refine⟨e1,e2,e3,A,c,by rw[hρ i hi];exact e4,?_⟩;obtain e5|⟨e5,b,cs,e6,e7,e8,e9,e10,e11⟩:=e5
    ·exact .inl e5
    ·refine .inr ⟨e5,b,cs,e6,e7,e8,e9,e10,λj hj k hk=>?_⟩;obtain⟨x,p1,p2,p3⟩:=e11 j hj k hk;exact⟨x,p1,p2,Ai hl (h j hj k hk) p3⟩
   ·exact h.elim
 ·obtain h|⟨hi,h⟩:=hl i
  ·rw[ho]at h;cases h
  ·rw[ho]at h;rcases h2:t.get i with _|_|_|es'
   all_goals rw[h2]at h
   ·exact h.elim
   ·exact h.elim
   ·exact h.elim
   ·obtain⟨b,jF,cl,e1,e2,e3⟩:=hg.axy.map _ _ h2;refine⟨b,jF,cl,by rw[hρ i hi];exact e1,e2,e3.to λk=>?_⟩;have h:=h k;rcases q1:dY es' k with _|v <;> rcases q2:dY es k with _|v' <;> rw[q1,q2]at h
    ·trivial
    ·exact h.elim
    ·exact h.elim
    ·exact λu hu=>Ai hl h hu
 ·obtain h|⟨hi',h⟩:=hl i
  ·exact h
  ·omega
def JG(hx:Stp X.G t0.get X.w G t.get w)(hl:yQ N t t')(hN:t0.nx<=N):Stp X.G t0.get X.w (G.drop N) t'.get w where
 os:=hx.os
 tape:=hx.tape
 output:=hx.output
 size:=hx.size
 axz:=hx.axz
 F1:=hx.F1
 F2:=hx.F2
 own:=λi b h=>hx.own i b (Jz hl h).1
 loc:=λi b h=>by
  have hi:i<N:=by
   obtain h1|h1:=l7 i t0.nx
   ·omega
   ·rw[(X.hg.jZ i h1).1]at h;cases h
  exact(if_pos hi).trans (hx.loc i b h)
 row:=λi A c h=>by
  have hi:i<N:=by
   obtain h1|h1:=l7 i t0.nx
   ·omega
   ·rw[(X.hg.jZ i h1).1]at h;cases h
  obtain⟨A',c',e1,e2⟩:=hx.row i A c h;refine⟨A',c',(if_pos hi).trans e1,λE s m g ho=>?_⟩;obtain⟨g0,h0⟩:=X8 hl i E s m g ho;exact e2 E s m g0 h0
def Mod.le(h:Mod X s a w)(hl:bf t0.nx s s2):Mod X s2 a w:=by
 obtain⟨G,hg,hs,hx⟩:=h;have hless:yQ s2.s.nx s.s s2.s:=JH hl.ob;exact⟨G.drop s2.s.nx,Ia hg hless hl.hi rfl,⟨⟨by rw[hl.nt];exact hs.nt,λj=>Ai hless (XM hl.sl j) (hs.sl j)⟩,hs.df⟩,JG hx hless hl.lo⟩
end
end
section
@[irreducible] def T {t0:ST} (X:Cx t0) (c:Code) (Q:Exit->AS->Prop) (s:AS):Prop:=
 ∀ a w,Mod X s a w->c.wp prog (λe a' w'=>∃ s',Q e s'/\Mod X s' a' w') a w
def KL(K:AS->Prop)(Q:Exit->AS->Prop):Exit->AS->Prop
 |.normal,s=>K s
 |e,s=>Q e s
def ZU(id:Nat)(Q:Exit->AS->Prop):Exit->AS->Prop
 |.exit i,s=>cond (Nat.beq i id) (Q .normal s) (Q (.exit i) s)
 |e,s=>Q e s
def Pv(s:AS)(c:Operand)(K:Bool->Prop):Prop:=
 match s.ev c with
 |.d (.v (.bool t))=>K t
 |_=>False
section
variable {t0:ST} {X:Cx t0} {Q:Exit->AS->Prop} {s s2:AS}
def T.h{c:Code}(h:T X c Q s):∀ a w,Mod X s a w->c.wp prog (λe a' w'=>∃ s',Q e s'/\Mod X s' a' w') a w:=by unfold T at h;exact h
def T.mk{c:Code}(h:∀ a w,Mod X s a w->c.wp prog (λe a' w'=>∃ s',Q e s'/\Mod X s' a' w') a w):T X c Q s:=by unfold T;exact h
def T.le{c:Code}(s2:AS)(hl:bf t0.nx s s2)(h:T X c Q s2):T X c Q s:=T.mk λa w hm=>h.h a w (hm.le hl)
def T.mono{c:Code}{Q':Exit->AS->Prop}(h:T X c Q' s)(hq:∀ e s,Q' e s->Q e s):T X c Q s:=T.mk λa w hm=>wp_mono (h.h a w hm) λe a w ⟨s',h1,h2⟩=>⟨s',hq _ _ h1,h2⟩
def T.skip(h:Q .normal s):T X .skip Q s:=T.mk λa w hm=>wp_skip ⟨s,h,hm⟩
def T.ret(h:Q .ret s):T X .ret Q s:=T.mk λa w hm=>wp_ret ⟨s,h,hm⟩
def T.exit{id:Nat}(h:Q (.exit id) s):T X (.exit id) Q s:=T.mk λa w hm=>wp_exit ⟨s,h,hm⟩
def T.seq{x y:Code}(h:T X x (KL (T X y Q) Q) s):T X (.seq x y) Q s:=T.mk λa w hm=>by
 refine wp_seq (wp_mono (h.h a w hm) λe a w ⟨s',h1,h2⟩=>?_);cases e with
 |normal=>exact T.h h1 a w h2
 |_=>exact⟨s',h1,h2⟩
def T.cond{c:Operand}{x y:Code}(h:Pv s c λt=>aj t (T X x Q s) (T X y Q s)):T X (.cond c x y) Q s:=T.mk λa w hm=>by
 unfold Pv at h;split at h
 ·rename_i t ht
  obtain⟨G,hg,hs,hx⟩:=hm;have hc:=hs.ev c;rw[ht]at hc;have hc:a.eval c = .bool t:=hc;exact wp_cond_split hc (λe=>(h.h.1 e).h a w ⟨G,hg,hs,hx⟩) (λe=>(h.h.2 e).h a w ⟨G,hg,hs,hx⟩)
 ·exact h.elim
def T.block{id:Nat}{c:Code}(h:T X c (ZU id Q) s):T X (.block id c) Q s:=T.mk λa w hm=>by
 refine wp_block (wp_mono (h.h a w hm) λe a w ⟨s',h1,h2⟩=>?_);cases e with
 |exit i=>
  have h1:_root_.cond (Nat.beq i id) (Q .normal s') (Q (.exit i) s'):=h1;show if i=id then _ else _
  rcases hb:Nat.beq i id with _|_
  ·rw[hb]at h1;rw[if_neg (λe=>by subst e;simp at hb)];exact⟨s',h1,h2⟩
  ·rw[hb]at h1;rw[if_pos (dJ hb)];exact⟨s',h1,h2⟩
 |_=>exact⟨s',h1,h2⟩
def T.region{id:Nat}{ops:Array Oper}(h:uy af ops.toList ops.toList s (Q .normal)):T X (.region id ops false) Q s:=T.mk λa w hm=>by
 have h1:=BJ (X:=X) ops ops.toList 0 rfl s a w _ h hm;rw[<-List.range_eq_range',rO]at h1;refine wp_region ?_;have mono:∀(l:List Nat) (a:Act) (w:World),wpOps prog ops (QN X (Q .normal)) l a w->wpOps prog ops (λe a' w'=>∃ s',Q e s'/\Mod X s' a' w') l a w:=by
  intro l;induction l with
  |nil=>intro a w h;obtain⟨_,s',h1,h2⟩:=h;exact⟨s',h1,h2⟩
  |cons i l ih=>
   intro a w h;unfold wpOps at h ⊢;split at h
   ·exact ih a w h
   ·split at h
    ·rename_i hw
     rw[if_pos hw];obtain h|⟨_,a0,w0,h⟩:=h
     ·exact .inl (y8 h (λa w h=>ih a w h) (λe a w h=>by
       obtain⟨rfl,s',h1,h2⟩:=h;exact⟨s',h1,h2⟩))
     ·exact ai h.1 (by intro e;cases e)
    ·rename_i hw
     rw[if_neg hw];exact ih _ w h
 exact mono _ a w h1
def T.loop{ι:Type}{c:Code}(S:ι->AS)(μ:ι->Nat)(i0:ι)(h0:bf t0.nx s (S i0))(hr:∀ i,T X c (λe s'=>match e with|.normal=>∃ j,bf t0.nx s' (S j)/\μ j<μ i|e=>Q e s') (S i)):T X (.loop c) Q s:=T.mk λa w hm=>by
 intro b k cs;have key:∀ n i a w,μ i=n->Mod X (S i) a w ->
   ∃ e a' w',(∃ s',Q e s'/\Mod X s' a' w')/\Arrives prog (lone (b.at a (.code c :: .inLoop c::k)) cs w) b k cs e a' w':=by
  intro n;induction n using Nat.strongRecOn with
  |_ n ih=>
   intro i a w hn hI;obtain⟨e,a₁,w₁,⟨s',hq,hm'⟩,harr⟩:=(hr i).h a w hI b (.inLoop c::k) cs;cases e with
   |normal=>
    obtain⟨j,hj,hlt⟩:=hq;obtain⟨e₂,a₂,w₂,hq₂,harr₂⟩:=ih (μ j) (hn▸hlt) j a₁ w₁ rfl (hm'.le hj);exact⟨e₂,a₂,w₂,hq₂,.of_steps (Steps.trans harr (.one step_inLoop)) harr₂⟩
   |exit id=>exact⟨_,a₁,w₁,⟨s',hq,hm'⟩,.pass (x:=.inLoop c) rfl (λ_ _=>.inl (by simp)) harr⟩
   |goto l=>exact⟨_,a₁,w₁,⟨s',hq,hm'⟩,.pass (x:=.inLoop c) rfl (λ_ _=>.inl (by simp)) harr⟩
   |ret=>exact⟨_,a₁,w₁,⟨s',hq,hm'⟩,.pass (x:=.inLoop c) rfl (λ_ _=>.inl (by simp)) harr⟩
   |panic ch=>exact⟨_,a₁,w₁,⟨s',hq,hm'⟩,.pass (x:=.inLoop c) rfl (λ_ _=>.inl (by simp)) harr⟩
   |outgrown=>exact⟨_,a₁,w₁,⟨s',hq,hm'⟩,.pass (x:=.inLoop c) rfl (λ_ _=>.inl (by simp)) harr⟩
 obtain⟨e,a',w',hq,harr⟩:=key _ i0 a w rfl (hm.le h0);exact⟨e,a',w',hq,.of_steps (.one step_loop) harr⟩
@[irreducible] def Fin (X:Cx t0) (v:V) (t:ST) (K:V->ST->Prop):Prop:=
 ∀(G:Gh) (w:World) (u:Value),bZ G t w->Stp X.G t0.get X.w G t.get w->aY G t.get w v u->∃ v' t' G',K v' t'/\bZ G' t' w/\Stp X.G t0.get X.w G' t'.get w/\aY G' t'.get w v' u
def Fin.mk{v:V}{t:ST}{K:V->ST->Prop}(h:∀(G:Gh) (w:World) (u:Value),bZ G t w->Stp X.G t0.get X.w G t.get w->aY G t.get w v u->∃ v' t' G',K v' t'/\bZ G' t' w/\Stp X.G t0.get X.w G' t'.get w/\aY G' t'.get w v' u):Fin X v t K:=by unfold Fin;exact h
def Fin.h{v:V}{t:ST}{K:V->ST->Prop}(h:Fin X v t K):∀(G:Gh) (w:World) (u:Value),bZ G t w->Stp X.G t0.get X.w G t.get w->aY G t.get w v u->∃ v' t' G',K v' t'/\bZ G' t' w/\Stp X.G t0.get X.w G' t'.get w/\aY G' t'.get w v' u:=by unfold Fin at h;exact h
def Fin.here{v:V}{t:ST}{K:V->ST->Prop}(h:K v t):Fin X v t K:=Fin.mk λG w u hg hx hv=>⟨v,t,G,h,hg,hx,hv⟩
def Fin.le{v:V}{t:ST}{K:V->ST->Prop}(v':V)(t':ST)(hlo:t0.nx<=t'.nx)(hhi:t'.nx<=t.nx)(hob:pX t'.nx t t'.st)(hv:VW t'.nx v v')(h:Fin X v' t' K):Fin X v t K:=Fin.mk λG w u hg hx hu=>by
 have hless:yQ t'.nx t t':=JH hob;exact h.h _ w u (Ia hg hless hhi rfl) (JG hx hless hlo) (Ai hless hv hu)
def Fin.done{v:V}{t:ST}{K:V->ST->Prop}(v':V)(t':ST)(hlo:t0.nx<=t'.nx)(hhi:t'.nx<=t.nx)(hob:pX t'.nx t t'.st)(hv:VW t'.nx v v')(h:K v' t'):Fin X v t K:=Fin.le v' t' hlo hhi hob hv (Fin.here h)
def yK(s:AS):List ResultVar->List V->(List V->Prop)->Prop
 |[],acc,K=>K acc
 |.tmp t::r,acc,K=>yK s r (acc++[dD s.sl t]) K
 |.cell p ty::r,acc,K=>KT ag ty (dD s.sl p) s.s λv=>yK s r (acc++[v]) K
def uY(fn:Func)(X:Cx t0)(K:V->ST->Prop):Exit->AS->Prop
 |.ret,s=>yK s fn.results.toList [] λl=>(match l with|[v]=>Fin X v s.s K|l=>Fin X (.gQ l.length (λk=>l.getD k .top)) s.s K)
 |.normal,s=>yK s fn.results.toList [] λl=>(match l with|[v]=>Fin X v s.s K|l=>Fin X (.gQ l.length (λk=>l.getD k .top)) s.s K)
 |_,_=>False
def IZ(a:Act):ResultVar->Sem Value
 |.tmp t=>pure (a.tmps.getD t undef)
 |.cell p t=>do loadVar t (<-asAddr (a.tmps.getD p undef))
def abL{G:Gh}{w:World}{s:AS}{a:Act}(hg:Good G s.s.get w)(hs:oZ G s a w):∀(l:List ResultVar) (acc:List V) (vs:List Value) (K:List V->Prop),yK s l acc K->acc.length=vs.length->(∀(k:Nat) (v:V) (u:Value),acc[k]?=some v->vs[k]?=some u->aY G s.s.get w v u) ->
  ∃ acc' us,K acc'/\acc'.length=(vs++us).length/\(l.mapM (IZ a):Sem (List Value)).run prog w = .ok us w/\∀(k:Nat) (v:V) (u:Value),acc'[k]?=some v->(vs++us)[k]?=some u->aY G s.s.get w v u
 |[],acc,vs,K,h,hl,hv=>⟨acc,[],h,by simpa using hl,by simp,by simpa using hv⟩
 |r::l,acc,vs,K,h,hl,hv=>by
  have step:∀(x:V) (u:Value),aY G s.s.get w x u->yK s l (acc++[x]) K->∃ acc' us,K acc'/\acc'.length=(vs++(u::us)).length/\(l.mapM (IZ a):Sem (List Value)).run prog w = .ok us w/\∀(k:Nat) (v:V) (y:Value),acc'[k]?=some v->(vs++(u::us))[k]?=some y->aY G s.s.get w v y:=λx u hx hh=>by
   obtain⟨acc',us,e1,e2,e3,e4⟩:=abL hg hs l (acc++[x]) (vs++[u]) K hh (by simp[hl]) (λk v y h1 h2=>by
    by_cases hk:k<acc.length
    ·rw[lS hk]at h1;rw[lS qO]at h2;exact hv k v y h1 h2
    ·rw[oP qO]at h1;rw[oP qO,<-hl]at h2;rcases hd:k-acc.length with _|d
     ·rw[hd]at h1 h2;simp at h1 h2;subst h1 h2;exact hx
     ·rw[hd]at h1;simp at h1)
   rw[jV]at e2 e4;exact⟨acc',us,e1,e2,e3,e4⟩
  cases r with
  |tmp t=>
   obtain⟨acc',us,e1,e2,e3,e4⟩:=step _ _ (hs.sl t) h;exact⟨acc',_,e1,e2,by simp[List.mapM_cons,IZ,e3,Result.andThen],e4⟩
  |cell p ty=>
   obtain⟨r,R,h1,h2,h3⟩:=acN (gd:=True) (λp q h=>⟨h.h.2,λ_=>h.h.1⟩) trivial hg (hs.sl p) h;obtain⟨acc',us,e1,e2,e3,e4⟩:=step R r h3 h2;refine⟨acc',_,e1,e2,?_,e4⟩;have hp:∃ ad,a.tmps.getD p undef = .pointer (some ad):=by
    rcases hpv:a.tmps.getD p undef with _|_|_|_|_|⟨_|ad⟩|_|_|_|_|_|_|_|_|_
    case pointer.some=>exact⟨ad,rfl⟩
    all_goals(rw[hpv]at h1;simp[Instr.loadAt,Instr.sureAddr]at h1)
   obtain⟨ad,hp⟩:=hp;rw[hp]at h1;have h1':(loadVar ty ad).run prog w = .ok r w:=by simpa [Instr.loadAt,Instr.sureAddr] using h1
   simp[List.mapM_cons,IZ,hp,asAddr,h1',e3,Result.andThen]
end
end
section
def pU(args:List V):List (Nat×V):=args.zipIdx.map (λp=>(p.2,p.1))
def JC:∀(args:List V) (s j:Nat),dD ((args.zipIdx s).map (λp=>(p.2,p.1))) j=if s<=j then args.getD (j-s) .top else .top
 |[],s,j=>by simp[dD]
 |v::r,s,j=>by
  rw[List.zipIdx_cons,List.map_cons];show(bif Nat.beq s j then v else dD _ j)=_;rcases h:Nat.beq s j with _|_
  ·have hne:s≠j:=λe=>by subst e;simp at h
   rw[bz,JC r (s+1) j];by_cases hle:s+1<=j
   ·rw[if_pos hle,if_pos qO,show j-s=(j-(s+1))+1 by omega];simp[List.getD]
   ·rw[if_neg hle,if_neg qO]
  ·have:=dJ h;subst this;simp
section
variable {t0:ST} {X:Cx t0} {s:AS} {K:V->ST->Prop}
def apF{fn:Func}{a:Act}{w:World}{us:List Value}(h:(fn.results.toList.mapM (IZ a):Sem (List Value)).run prog w = .ok us w):(results fn a.tmps).run prog w = .ok (match us with|[u]=>u|us=>.tuple us.toArray) w:=by
 have e:results fn a.tmps=(do let vs <-fn.results.mapM (IZ a);pure (if h:vs.size=1 then vs[0] else .tuple vs)):=rfl;rw[e,Array.mapM_eq_mapM_toList];have h2:(Functor.map List.toArray (fn.results.toList.mapM (IZ a)):Sem (Array Value)).run prog w = .ok us.toArray w:=by
  simp[h,Result.andThen]
 rw[Sem.run_bind,h2,Result.andThen_ok];obtain _|⟨u,_|⟨u2,r⟩⟩:=us
 ·rfl
 ·rfl
 ·simp
def Fz{fn:Func}{a:Act}{w:World}(h:yK s fn.results.toList [] λl=>(match l with|[v]=>Fin X v s.s K|l=>Fin X (.gQ l.length (λk=>l.getD k .top)) s.s K))(hm:Mod X s a w) :
  ∃ v,(results fn a.tmps).run prog w = .ok v w/\∃ V t' G',K V t'/\bZ G' t' w/\Stp X.G t0.get X.w G' t'.get w/\aY G' t'.get w V v:=by
 obtain⟨G,hg,hs,hx⟩:=hm;obtain⟨l,us,h1,h2,h3,h4⟩:=abL hg.axy hs.tooZ fn.results.toList [] [] _ h rfl (λk v u h=>by simp at h);refine⟨_,apF h3,?_⟩;rw[List.nil_append]at h2 h4;obtain _|⟨v,_|⟨v2,r⟩⟩:=l
 ·obtain rfl:us=[]:=uI h2.symm;exact h1.h G w _ hg hx ⟨#[],rfl,rfl,λk x hx=>by simp at hx⟩
 ·obtain _|⟨u,_|⟨u2,q⟩⟩:=us
  ·simp at h2
  ·exact h1.h G w _ hg hx (h4 0 v u rfl rfl)
  ·simp at h2
 ·obtain _|⟨u,_|⟨u2,q⟩⟩:=us
  ·simp at h2
  ·simp at h2
  ·refine h1.h G w _ hg hx ⟨_,rfl,by simpa using h2.symm,λk x hx=>?_⟩;have hx:(u::u2::q)[k]?=some x:=by simpa using hx
   have hk:k<(v::v2::r).length:=by rw[h2];exact(List.getElem?_eq_some_iff.1 hx).1
   have e:=dV hk;have:=h4 k _ x e hx;show aY G s.s.get w ((v::v2::r).getD k .top) x;rw[bn,e];exact this
def af.of{f:Nat}{fn:Func}{c:Code}{args:List V}{t:ST}{K:V->ST->Prop}(hf:prog.funcs[f]?=some fn)(hb:fn.body=some c)(hname:(fn.name == "runtime.NumGoroutine")=false)(hn:args.length<=fn.ntmps)(h:∀ X:Cx t,T X c (uY fn X K) ⟨fn.ntmps,pU args,t⟩):af f args t K:=by
 refine⟨?_,λG w us hg hl hv=>?_⟩
 ·unfold xy;rw[hf,qg,hb,hname];rfl
 ·let X:Cx t:=⟨G,w,hg,[]⟩
  refine calls_of_wp hf hb ?_;have hm:Mod X ⟨fn.ntmps,pU args,t⟩ { tmps:=us.toArray++Array.replicate (fn.ntmps-us.toArray.size) undef,defers:=[] } w:=by
   refine⟨G,hg,⟨⟨by simp;omega,λj=>?_⟩,rfl⟩,Stp.refl _ _ _⟩;show aY G t.get w (dD (pU args) j) _;unfold pU;rw[JC args 0 j,if_pos (cZ _),Nat.sub_zero,bn];rcases ha:args[j]? with _|v
   ·exact trivial
   ·have hj:j<us.length:=by rw[hl];exact(List.getElem?_eq_some_iff.1 ha).1
    have e:=dV hj;have:=hv j v _ ha e;rw[uJ,Array.getElem?_append_left (by simpa using hj)];simpa [hj] using this
  refine wp_mono ((h X).h _ w hm) λe a' w' hh=>?_
  obtain⟨s',hq,hm'⟩:=hh;have hd:a'.defers=[]:=by obtain⟨_,_,hs,_⟩:=hm';exact hs.df
  cases e with
  |ret=>
   obtain⟨v,h1,V,t',G',h2,h3,h4,h5⟩:=Fz hq hm';exact⟨hd,v,h1,v,V,t',G',rfl,h2,h3,h4,h5⟩
  |normal=>
   obtain⟨v,h1,V,t',G',h2,h3,h4,h5⟩:=Fz hq hm';exact⟨hd,v,h1,v,V,t',G',rfl,h2,h3,h4,h5⟩
  |exit i=>exact hq.elim
  |goto l=>exact hq.elim
  |panic c=>exact hq.elim
  |outgrown=>exact hq.elim
end
end
section
def dI(φ:Nat->Option Nat):V->V
 |.ptr i off=>match φ i with|some k=>.ptr k off|none=>.top
 |.rp i n j c=>match φ i with|some k=>.rp k n j c|none=>.top
 |.row i n=>match φ i with|some k=>.row k n|none=>.top
 |.vw i n lo m=>match φ i with|some k=>.vw k n lo m|none=>.top
 |.agg n g=>.agg n (λk=>dI φ (g k))
 |.gQ n g=>.gQ n (λk=>dI φ (g k))
 |.fn f nf n g=>.fn f nf n (λk=>dI φ (g k))
 |.mp i=>match φ i with|some k=>.mp k|none=>.top
 |.kQ t w v=>.kQ t w (dI φ v)
 |v=>v
def mW(φ:Nat->Option Nat):aK->aK
 |.dead=>.dead
 |.Wp n g=>.Wp n (λk=>dI φ (g k))
 |.row E s n g=>.row E s n (λj k=>dI φ (g j k))
 |.map es=>.map (es.map λp=>(p.1,dI φ p.2))
def RS{G G':Gh}{o o':Nat->aK}{w:World}{φ:Nat->Option Nat}(hF:G'.F=G.F)(hρ:∀ i k,φ i=some k->G'.ρ k=G.ρ i)(ho:∀ i k,φ i=some k->∀ E s n g,o' k = .row E s n g->∃ g0,o i = .row E s n g0){v:V}:∀ {u:Value},aY G o w v u->aY G' o' w (dI φ v) u:=by
 induction v with
 |top=>exact λ_=>trivial
 |d x=>intro u h;show jK G'.F w x u;rw[hF];exact h
 |dC=>exact λh=>h
 |dp s g=>intro u h;show ∃ b off,_;rw[hF];exact h
 |ptr i off=>
  intro u h;obtain⟨b,h1,h2⟩:=h;unfold dI;rcases hi:φ i with _|k
  ·trivial
  ·exact⟨b,by rw[hρ i k hi];exact h1,h2⟩
 |rp i n j c=>
  intro u h;obtain⟨A,cc,h1,h2,h3⟩:=h;unfold dI;rcases hi:φ i with _|k
  ·trivial
  ·refine⟨A,cc,by rw[hρ i k hi];exact h1,h2,λE s m g e=>?_⟩;obtain⟨g0,h4⟩:=ho i k hi E s m g e;exact h3 E s m g0 h4
 |row i n=>
  intro u h;obtain⟨A,cc,h1,h2,h3⟩:=h;unfold dI;rcases hi:φ i with _|k
  ·trivial
  ·refine⟨A,cc,by rw[hρ i k hi];exact h1,h2,λE s m g e=>?_⟩;obtain⟨g0,h4⟩:=ho i k hi E s m g e;exact h3 E s m g0 h4
 |vw i n lo m=>
  intro u h;obtain⟨A,cc,h1,h2,h3⟩:=h;unfold dI;rcases hi:φ i with _|k
  ·trivial
  ·refine⟨A,cc,by rw[hρ i k hi];exact h1,h2,λE s m g e=>?_⟩;obtain⟨g0,h4⟩:=ho i k hi E s m g e;exact h3 E s m g0 h4
 |agg n g ih=>intro u h;obtain⟨cs,h1,h2,h3⟩:=h;exact⟨cs,h1,h2,λk x hx=>⟨(h3 k x hx).1,ih k (h3 k x hx).2⟩⟩
 |gQ n g ih=>intro u h;obtain⟨cs,h1,h2,h3⟩:=h;exact⟨cs,h1,h2,λk x hx=>ih k (h3 k x hx)⟩
 |fn f nf n g ih=>intro u h;obtain⟨fs,cs,h1,h2,h3,h4⟩:=h;exact⟨fs,cs,h1,h2,h3,λk x hx=>ih k (h4 k x hx)⟩
 |mp i=>
  intro u h;obtain⟨b,h1,h2⟩:=h;unfold dI;rcases hi:φ i with _|k
  ·trivial
  ·exact⟨b,by rw[hρ i k hi];exact h1,h2⟩
 |kQ t w' x ih=>intro u h;exact⟨λe=>ih (h.1 e),h.2⟩
def bY:List Nat->Nat->Option Nat
 |[],_=>none
 |a::r,i=>bif Nat.beq a i then some 0 else(match bY r i with|some k=>some (k+1)|none=>none)
def yx:∀ {l:List Nat} {i k:Nat},bY l i=some k->l[k]?=some i
 |a::r,i,k,h=>by
  have h:(bif Nat.beq a i then some 0 else(match bY r i with|some k=>some (k+1)|none=>none))=some k:=h;rcases hb:Nat.beq a i with _|_
  ·rw[hb]at h;rcases hr:bY r i with _|j
   ·rw[hr]at h;cases h
   ·rw[hr]at h;injection h with h
    subst h;have:=yx hr;simpa using this
  ·rw[hb]at h;injection h with h
   subst h;rw[dJ hb];rfl
 |[],i,k,h=>by cases h
def NC:∀ {l:List Nat} {i:Nat},bY l i=none->i ∉ l
 |[],i,_=>by simp
 |a::r,i,h=>by
  have h:(bif Nat.beq a i then some 0 else(match bY r i with|some k=>some (k+1)|none=>none))=none:=h;rcases hb:Nat.beq a i with _|_
  ·rw[hb]at h;rcases hr:bY r i with _|j
   ·intro hm;obtain e|e:=List.mem_cons.1 hm
    ·subst e;simp at hb
    ·exact NC hr e
   ·rw[hr]at h;cases h
  ·rw[hb]at h;cases h
def iJ:List Nat->Bool
 |[]=>true
 |a::r=>(match bY r a with|some _=>false|none=>true)&&iJ r
def nC:∀ {l:List Nat} {i k:Nat},iJ l=true->l[k]?=some i->bY l i=some k
 |a::r,i,k,hd,h=>by
  obtain⟨h1,h2⟩:=kZ hd;show(bif Nat.beq a i then some 0 else(match bY r i with|some k=>some (k+1)|none=>none))=some k;cases k with
  |zero=>
   injection h with h
   subst h;rw[show Nat.beq a a=true by simp[Nat.beq_eq]];rfl
  |succ k=>
   have hk:r[k]?=some i:=h;have:=nC h2 hk;rcases hb:Nat.beq a i with _|_
   ·rw[this];rfl
   ·have e:=dJ hb;subst e;rw[this]at h1;cases h1
 |[],i,k,_,h=>by cases h
def lV(aI:List Nat)(nx:Nat)(k:Nat):Nat:=match aI[k]? with|some i=>i|none=>nx+(k-aI.length)
def pR(aI:List Nat)(nx:Nat)(v:V):V:=dI (λk=>some (lV aI nx k)) v
def tq(st:ST)(aI:List Nat)(t:ST):ST:=⟨(List.range (aI.length+(t.nx-aI.length))).map (λk=>(lV aI st.nx k,mW (λk=>some (lV aI st.nx k)) (t.get k)))++st.st,st.nx+(t.nx-aI.length)⟩
def lI(N:Nat)(φ:Nat->Option Nat):List V->List V->Prop
 |[],[]=>True
 |a::r,b::q=>VW N (dI φ a) b/\lI N φ r q
 |_,_=>False
def XB{N:Nat}{φ:Nat->Option Nat}:∀ {l q:List V},lI N φ l q->l.length=q.length/\∀(k:Nat) (b:V),q[k]?=some b->∃ a,l[k]?=some a/\VW N (dI φ a) b
 |[],[],_=>⟨rfl,λk b h=>by simp at h⟩
 |a::r,b::q,h=>by
  obtain⟨h1,h2⟩:=XB h.2;refine⟨by simp[h1],λk b' hk=>?_⟩;cases k with
  |zero=>simp at hk;subst hk;exact⟨a,rfl,h.1⟩
  |succ k=>exact h2 k b' (by simpa using hk)
 |[],_::_,h=>h.elim
 |_::_,[],h=>h.elim
def pV(N:Nat)(φ:Nat->Option Nat)(st:ST)(aI:List Nat):List (Nat×aK)->Prop
 |[]=>True
 |(k,ob)::r=>(∃ i,aI[k]?=some i/\aW N (mW φ (st.get i)) ob)/\pV N φ st aI r
def H8{N:Nat}{φ:Nat->Option Nat}{st:ST}{aI:List Nat}:∀ {l:List (Nat×aK)},pV N φ st aI l->∀ j,axA l j = .dead\/∃ i,aI[j]?=some i/\aW N (mW φ (st.get i)) (axA l j)
 |[],_,j=>.inl rfl
 |(k,v)::r,h,j=>by
  show(bif Nat.beq k j then v else axA r j)=_\/∃ i,_/\aW N _ (bif Nat.beq k j then v else axA r j);rcases hk:Nat.beq k j with _|_
  ·exact H8 h.2 j
  ·rw[<-dJ hk];exact .inr h.1
def aci(f:Nat->aK)(b:Nat->Nat)(hb:∀ i j,b i=b j->i=j)(l:List (Nat×aK)):∀(n s k:Nat),axA ((List.range' s n).map (λk=>(b k,f k))++l) (b k)=if s<=k/\k<s+n then f k else axA l (b k)
 |0,s,k=>by rw[if_neg qO];rfl
 |n+1,s,k=>by
  rw[List.range'_succ,List.map_cons,List.cons_append];show(bif Nat.beq (b s) (b k) then f s else axA _ (b k))=_;rcases h:Nat.beq (b s) (b k) with _|_
  ·have hne:s≠k:=λe=>by subst e;simp at h
   rw[bz,aci f b hb l n (s+1) k];by_cases e:s+1<=k/\k<s+1+n
   ·rw[if_pos e,if_pos qO]
   ·rw[if_neg e,if_neg qO]
  ·have:=hb _ _ (dJ h);subst this;rw[dw,if_pos qO]
def acj(f:Nat->aK)(b:Nat->Nat)(l:List (Nat×aK))(i:Nat):∀(n s:Nat),(∀ k,s<=k->k<s+n->b k≠i)->axA ((List.range' s n).map (λk=>(b k,f k))++l) i=axA l i
 |0,s,_=>rfl
 |n+1,s,h=>by
  rw[List.range'_succ,List.map_cons,List.cons_append];show(bif Nat.beq (b s) i then f s else axA _ i)=_;rcases hb:Nat.beq (b s) i with _|_
  ·rw[bz];exact acj f b l i n (s+1) λk h1 h2=>h k qO qO
  ·exact ai (dJ hb) (h s (bF _) qO)
def YV{l:List Nat}{i k:Nat}(h:bY l i=some k):i∈l:=vK (yx h)
section
variable {aI:List Nat} {st t:ST} {nx:Nat}
def Aj{k i:Nat}(h:aI[k]?=some i):lV aI nx k=i:=by unfold lV;rw[h]
def D6{k:Nat}(h:aI[k]?=none):lV aI nx k=nx+(k-aI.length)/\aI.length<=k:=by unfold lV;rw[h];exact⟨rfl,List.getElem?_eq_none_iff.1 h⟩
def aon(hn:iJ aI=true)(hs:∀ i∈aI,i<nx)(i j:Nat)(h:lV aI nx i=lV aI nx j):i=j:=by
 rcases hi:aI[i]? with _|a <;> rcases hj:aI[j]? with _|b
 ·have h1:=D6 (nx:=nx) hi;have h2:=D6 (nx:=nx) hj;omega
 ·have h1:=D6 (nx:=nx) hi;have h2:=Aj (nx:=nx) hj;have h3:=hs b (vK hj);omega
 ·have h1:=Aj (nx:=nx) hi;have h2:=D6 (nx:=nx) hj;have h3:=hs a (vK hi);omega
 ·rw[Aj hi,Aj hj]at h;subst h;have h1:=nC hn hi;have h2:=nC hn hj;rw[h1]at h2;injection h2
def Ah(hs:∀ i∈aI,i<nx)(i:Nat):(∃ k,lV aI nx k=i/\(bY aI i=some k\/(bY aI i=none/\nx<=i/\aI[k]?=none/\k=i-nx+aI.length)))\/(bY aI i=none/\i<nx):=by
 rcases h:bY aI i with _|k
 ·obtain h1|h1:=l7 i nx
  ·exact .inr ⟨rfl,h1⟩
  ·have e:aI[i-nx+aI.length]?=none:=List.getElem?_eq_none_iff.2 qO;refine .inl ⟨i-nx+aI.length,?_,.inr ⟨rfl,h1,e,rfl⟩⟩;rw[(D6 e).1];omega
 ·exact .inl ⟨k,Aj (yx h),.inl rfl⟩
def ajP(hs:∀ i∈aI,i<nx){i k:Nat}(h:bY aI i=none)(hi:i<nx):lV aI nx k≠i:=by
 rcases hk:aI[k]? with _|a
 ·have:=D6 (nx:=nx) hk;omega
 ·rw[Aj hk];intro e;subst e;exact NC h (vK hk)
def WH(hn:iJ aI=true)(hs:∀ i∈aI,i<st.nx)(hu:∀ i,st.nx<=i->st.get i = .dead)(ht:∀ i,t.nx<=i->t.get i = .dead)(k:Nat):(tq st aI t).get (lV aI st.nx k)=mW (λk=>some (lV aI st.nx k)) (t.get k):=by
 have e:=aci (λk=>mW (λk=>some (lV aI st.nx k)) (t.get k)) (lV aI st.nx) (aon hn hs) st.st (aI.length+(t.nx-aI.length)) 0 k;rw[<-List.range_eq_range']at e;refine Eq.trans e ?_;by_cases hk:0<=k/\k<0+(aI.length+(t.nx-aI.length))
 ·rw[if_pos hk]
 ·rw[if_neg hk,ht k qO];refine hu _ ?_;rw[(D6 (List.getElem?_eq_none_iff.2 qO)).1];omega
def H5(hs:∀ i∈aI,i<st.nx){i:Nat}(h:bY aI i=none)(hi:i<st.nx):(tq st aI t).get i=st.get i:=by
 have e:=acj (λk=>mW (λk=>some (lV aI st.nx k)) (t.get k)) (lV aI st.nx) st.st i (aI.length+(t.nx-aI.length)) 0 λk _ _=>ajP hs h hi
 rw[<-List.range_eq_range']at e;exact e
def Gh.sub(G:Gh)(aI:List Nat):Gh:=⟨G.F,λk=>match aI[k]? with|some i=>G.ρ i|none=>none⟩
def Gh.kD(G G':Gh)(aI:List Nat)(nx:Nat):Gh:=⟨G'.F,λi=>match bY aI i with|some k=>G'.ρ k|none=>if i<nx then G.ρ i else G'.ρ (i-nx+aI.length)⟩
def Cb{G:Gh}{k i:Nat}(h:aI[k]?=some i):(G.sub aI).ρ k=G.ρ i:=by unfold Gh.sub;simp only[h]
def amY{G G':Gh}(hn:iJ aI=true)(hs:∀ i∈aI,i<nx)(k:Nat):(G.kD G' aI nx).ρ (lV aI nx k)=G'.ρ k:=by
 unfold Gh.kD;rcases hk:aI[k]? with _|a
 ·obtain⟨h1,h2⟩:=D6 (nx:=nx) hk;rcases hi:bY aI (lV aI nx k) with _|j
  ·simp only[hi];rw[if_neg qO,h1,show nx+(k-aI.length)-nx+aI.length=k by omega]
  ·have:=hs _ (YV hi);omega
 ·rw[Aj hk];simp only[nC hn hk]
def JB{G G':Gh}{i:Nat}(h:bY aI i=none)(hi:i<nx):(G.kD G' aI nx).ρ i=G.ρ i:=by
 unfold Gh.kD;simp only[h];rw[if_pos hi]
def NQ{φ:Nat->Option Nat}{ob:aK}{E s n:Nat}{g:Nat->Nat->V}(h:mW φ ob = .row E s n g):∃ g0,ob = .row E s n g0/\g=λj k=>dI φ (g0 j k):=by
 cases ob with
 |row E' s' n' g'=>injection h with a b c d;subst a b c d;exact⟨g',rfl,rfl⟩
 |_=>cases h
def afo{φ:Nat->Option Nat}{ob:aK}{n:Nat}{g:Nat->V}(h:mW φ ob = .Wp n g):∃ g0,ob = .Wp n g0/\g=λk=>dI φ (g0 k):=by
 cases ob with
 |Wp n' g'=>injection h with a b;subst a b;exact⟨g',rfl,rfl⟩
 |_=>cases h
def afn{φ:Nat->Option Nat}{ob:aK}{es:List (Int×V)}(h:mW φ ob = .map es):∃ e0,ob = .map e0/\es=e0.map λp=>(p.1,dI φ p.2):=by
 cases ob with
 |map e'=>injection h with a;subst a;exact⟨e',rfl,rfl⟩
 |_=>cases h
def amq{φ:Nat->Option Nat}{G G':Gh}{o o':Nat->aK}{i k b:Nat}(hρ:G'.ρ k=G.ρ i)(ho:o' k=mW φ (o i)):dB G' o' k b↔dB G o i b:=by
 unfold dB;rw[ho,hρ];cases o i <;> exact Iff.rfl
def ac1{φ:Nat->Option Nat}{G G':Gh}{o o':Nat->aK}{w:World}(hv:∀ v u,aY G o w v u->aY G' o' w (dI φ v) u){l:List MapEntry}{q:List (Int×V)}(h:uu G o w l q):uu G' o' w l (q.map λp=>(p.1,dI φ p.2)):=h.map (dI φ) hv
end
end
section
section
variable {aI:List Nat} {st bJ t:ST} {G G':Gh} {w w':World}
def Ti(ho:pV bJ.nx (bY aI) st aI bJ.st){i k E s n:Nat}{g:Nat->Nat->V}(hi:aI[k]?=some i)(h:bJ.get k = .row E s n g):∃ g0,st.get i = .row E s n g0:=by
 obtain h1|⟨i',h1,h2⟩:=H8 ho k
 ·rw[show axA bJ.st k=bJ.get k from rfl,h]at h1;cases h1
 ·rw[hi]at h1;injection h1 with h1
  subst h1;rw[show axA bJ.st k=bJ.get k from rfl,h]at h2;rcases hr:mW (bY aI) (st.get i) with _|_|⟨E',s',n',g'⟩|_
  all_goals rw[hr]at h2
  ·exact h2.elim
  ·exact h2.elim
  ·obtain⟨rfl,rfl,rfl,_⟩:=h2;obtain⟨g0,h3,_⟩:=NQ hr;exact⟨g0,h3⟩
  ·exact h2.elim
def FK(ho:pV bJ.nx (bY aI) st aI bJ.st){v b:V}{u:Value}(hv:VW bJ.nx (dI (bY aI) v) b)(h:aY G st.get w v u):aY (G.sub aI) bJ.get w b u:=
 hv.2 _ _ _ _ (RS (G:=G) (G':=G.sub aI) rfl (λi k hi=>Cb (yx hi)) (λi k hi E s n g e=>Ti ho (yx hi) e) h)
def FM(ho:pV bJ.nx (bY aI) st aI bJ.st){k b:Nat}(h:dB (G.sub aI) bJ.get k b):∃ i,aI[k]?=some i/\dB G st.get i b:=by
 obtain h1|⟨i,h1,h2⟩:=H8 ho k
 ·unfold dB at h;rw[show bJ.get k=axA bJ.st k from rfl,h1]at h;exact h.elim
 ·refine⟨i,h1,?_⟩;unfold dB at h ⊢;rw[show bJ.get k=axA bJ.st k from rfl,Cb h1]at h;rcases e1:st.get i with _|_|⟨E',s',n',g'⟩|_ <;> rcases e2:axA bJ.st k with _|_|⟨E2,s2,n2,g2⟩|_
  all_goals rw[e1,e2]at h2
  all_goals rw[e2]at h
  all_goals first|exact h.elim|exact h2.elim|exact h
def RZ(hg:bZ G st w)(hn:iJ aI=true)(hnx:bJ.nx=aI.length)(ho:pV bJ.nx (bY aI) st aI bJ.st):bZ (G.sub aI) bJ w:=by
 have hφ:∀ i k,bY aI i=some k->(G.sub aI).ρ k=G.ρ i:=λi k hi=>Cb (yx hi)
 refine⟨⟨λk n g h=>?_,λk E s n g h=>?_,λk es h=>?_,λk b h=>?_,hg.axy.wF,λi j b h1 h2=>?_⟩,λi hi=>⟨?_,?_⟩⟩
 ·obtain h1|⟨i,h1,h2⟩:=H8 ho k
  ·rw[show axA bJ.st k=bJ.get k from rfl,h]at h1;cases h1
  ·rw[show axA bJ.st k=bJ.get k from rfl,h]at h2;rcases hr:mW (bY aI) (st.get i) with _|⟨n',g'⟩|_|_
   all_goals rw[hr]at h2
   ·exact h2.elim
   ·obtain⟨rfl,h2⟩:=h2;obtain⟨g0,h3,rfl⟩:=afo hr;obtain⟨b,cs,ty,e1,e2,e3,e4⟩:=hg.axy.Wp _ _ _ h3;exact⟨b,cs,ty,by rw[Cb h1];exact e1,e2,e3,λj x hx=>⟨(e4 j x hx).1,FK ho (h2 j (by rw[<-e3];exact(Array.getElem?_eq_some_iff.1 hx).1)) (e4 j x hx).2⟩⟩
   ·exact h2.elim
   ·exact h2.elim
 ·obtain h1|⟨i,h1,h2⟩:=H8 ho k
  ·rw[show axA bJ.st k=bJ.get k from rfl,h]at h1;cases h1
  ·rw[show axA bJ.st k=bJ.get k from rfl,h]at h2;rcases hr:mW (bY aI) (st.get i) with _|_|⟨E',s',n',g'⟩|_
   all_goals rw[hr]at h2
   ·exact h2.elim
   ·exact h2.elim
   ·obtain⟨rfl,rfl,rfl,h2⟩:=h2;obtain⟨g0,h3,rfl⟩:=NQ hr;obtain⟨e1,e2,e3,A,c,e4,e5⟩:=hg.axy.row _ _ _ _ _ h3;refine⟨e1,e2,e3,A,c,by rw[Cb h1];exact e4,?_⟩;obtain e5|⟨e5,b,cs,e6,e7,e8,e9,e10,e11⟩:=e5
    ·exact .inl e5
    ·refine .inr ⟨e5,b,cs,e6,e7,e8,e9,e10,λj hj l hl=>?_⟩;obtain⟨x,p1,p2,p3⟩:=e11 j hj l hl;exact⟨x,p1,p2,FK ho (h2 j hj l hl) p3⟩
   ·exact h2.elim
 ·obtain h1|⟨i,h1,h2⟩:=H8 ho k
  ·rw[show axA bJ.st k=bJ.get k from rfl,h]at h1;cases h1
  ·rw[show axA bJ.st k=bJ.get k from rfl,h]at h2;rcases hr:mW (bY aI) (st.get i) with _|_|_|es'
   all_goals rw[hr]at h2
   ·exact h2.elim
   ·exact h2.elim
   ·exact h2.elim
   ·obtain⟨e0,h3,rfl⟩:=afn hr;obtain⟨b,jF,cl,e1,e2,e3⟩:=hg.axy.map _ _ h3;have e4:=ac1 (φ:=bY aI) (G':=G.sub aI) (o':=bJ.get) (λv u hv=>RS (G:=G) (G':=G.sub aI) rfl hφ (λi k hi E s n g e=>Ti ho (yx hi) e) hv) e3;exact⟨b,jF,cl,by rw[Cb h1];exact e1,e2,e4.told h2⟩
 ·obtain⟨i,_,h1⟩:=FM ho h;exact hg.axy.xP i b h1
 ·obtain⟨i',a1,a2⟩:=FM ho h1;obtain⟨j',b1,b2⟩:=FM ho h2;have:=hg.axy.sep _ _ _ a2 b2;subst this;have c1:=nC hn a1;rw[nC hn b1]at c1;injection c1 with c1
  exact c1.symm
 ·unfold Gh.sub;simp only[List.getElem?_eq_none_iff.2 (show aI.length<=i by omega)]
 ·obtain h1|⟨i',h1,h2⟩:=H8 ho i
  ·exact h1
  ·rw[List.getElem?_eq_none_iff.2 (show aI.length<=i by omega)]at h1;cases h1
structure uH (aI:List Nat) (st bJ t:ST) (G G':Gh) (w w':World):Prop where
 hg:bZ G st w
 hn:iJ aI=true
 hs:∀ i∈aI,i<st.nx
 ho:pV bJ.nx (bY aI) st aI bJ.st
 lN:bZ G' t w'
 hx:Stp (G.sub aI) bJ.get w G' t.get w'
def uH.back(h:uH aI st bJ t G G' w w')(k:Nat):(tq st aI t).get (lV aI st.nx k)=mW (λk=>some (lV aI st.nx k)) (t.get k):=WH h.hn h.hs (λi hi=>(h.hg.jZ i hi).2) (λi hi=>(h.lN.jZ i hi).2) k
def uH.Hy(h:uH aI st bJ t G G' w w')(k:Nat):(G.kD G' aI st.nx).ρ (lV aI st.nx k)=G'.ρ k:=amY h.hn h.hs k
def uH.KZ(h:uH aI st bJ t G G' w w'){k b:Nat}(ho:dB (G.kD G' aI st.nx) (tq st aI t).get (lV aI st.nx k) b):dB G' t.get k b:=(amq (h.Hy k) (h.back k)).1 ho
def uH.KW(h:uH aI st bJ t G G' w w'){i b:Nat}(hi:bY aI i=none)(hl:i<st.nx)(ho:dB (G.kD G' aI st.nx) (tq st aI t).get i b):dB G st.get i b:=by
 unfold dB at ho ⊢;rw[H5 h.hs hi hl,JB hi hl]at ho;exact ho
def uH.dX(h:uH aI st bJ t G G' w w'):Stp G st.get w (G.kD G' aI st.nx) (tq st aI t).get w' where
 os:=h.hx.os
 tape:=h.hx.tape
 output:=h.hx.output
 size:=h.hx.size
 axz:=λb hb hn=>h.hx.axz b hb λk hk=>by obtain⟨i,_,h1⟩:=FM h.ho hk;exact hn i h1
 F1:=h.hx.F1
 F2:=h.hx.F2
 own:=λi b hw=>by
  obtain⟨k,rfl,hk⟩|⟨h1,h2⟩:=Ah h.hs i
  ·obtain h1|h1:=h.hx.own k b (h.KZ hw)
   ·obtain⟨i,h2,h3⟩:=FM h.ho h1;rw[Aj h2];exact .inl h3
   ·exact .inr h1
  ·exact .inl (h.KW h1 h2 hw)
 loc:=λi b hi=>by
  obtain⟨k,rfl,hk⟩|⟨h1,h2⟩:=Ah h.hs i
  ·rw[h.Hy];obtain hk|⟨_,hk,_⟩:=hk
   ·exact h.hx.loc k b (by rw[Cb (yx hk)];exact hi)
   ·rw[(h.hg.jZ _ hk).1]at hi;cases hi
  ·rw[JB h1 h2];exact hi
 row:=λi A c hi=>by
  obtain⟨k,rfl,hk⟩|⟨h1,h2⟩:=Ah h.hs i
  ·rw[h.Hy];obtain hk|⟨_,hk,_⟩:=hk
   ·obtain⟨A',c',e1,e2⟩:=h.hx.row k A c (by rw[Cb (yx hk)];exact hi);refine⟨A',c',e1,λE s m g e=>?_⟩;rw[h.back]at e;obtain⟨g1,e3,_⟩:=NQ e;obtain⟨m0,g0,e4,e5,e6⟩:=e2 E s m g1 e3;obtain⟨g2,e7⟩:=Ti h.ho (yx hk) e4;exact⟨m0,g2,e7,e5,e6⟩
   ·rw[(h.hg.jZ _ hk).1]at hi;cases hi
  ·rw[JB h1 h2];refine⟨A,c,hi,λE s m g e=>?_⟩;rw[H5 h.hs h1 h2]at e;exact⟨m,g,e,bF _,λ_=>⟨rfl,rfl⟩⟩
def uH.PL(h:uH aI st bJ t G G' w w'){v:V}{u:Value}(hv:aY G' t.get w' v u):aY (G.kD G' aI st.nx) (tq st aI t).get w' (pR aI st.nx v) u:=
 RS (G:=G') (G':=G.kD G' aI st.nx) rfl (λi k e=>by injection e with e;subst e;exact h.Hy i) (λi k e E s n g e2=>by
  injection e with e;subst e
  rw[h.back]at e2;obtain⟨g0,e3,_⟩:=NQ e2;exact⟨g0,e3⟩) hv
def uH.aar(h:uH aI st bJ t G G' w w'){i b:Nat}(hi:bY aI i=none)(ho:dB G st.get i b):w'.heap[b]?=w.heap[b]?:=
 h.hx.axz b (h.hg.axy.lt ho) λk hk=>by
  obtain⟨j,h1,h2⟩:=FM h.ho hk;have:=h.hg.axy.sep _ _ _ h2 ho;subst this;exact NC hi (vK h1)
def uH.axy(h:uH aI st bJ t G G' w w'):bZ (G.kD G' aI st.nx) (tq st aI t) w':=by
 have hx:=h.dX;refine⟨⟨λi n g e=>?_,λi E s n g e=>?_,λi es e=>?_,λi b e hf=>?_,h.lN.axy.wF,λi j b e1 e2=>?_⟩,λi hi=>?_⟩
 ·obtain⟨k,rfl,hk⟩|⟨h1,h2⟩:=Ah h.hs i
  ·rw[h.back]at e;obtain⟨g0,e1,rfl⟩:=afo e;obtain⟨b,cs,ty,p1,p2,p3,p4⟩:=h.lN.axy.Wp _ _ _ e1;exact⟨b,cs,ty,by rw[h.Hy];exact p1,p2,p3,λj x hx=>⟨(p4 j x hx).1,h.PL (p4 j x hx).2⟩⟩
  ·rw[H5 h.hs h1 h2]at e;obtain⟨b,cs,ty,p1,p2,p3,p4⟩:=h.hg.axy.Wp _ _ _ e;have hw:dB G st.get i b:=by unfold dB;rw[e];exact p1
   exact⟨b,cs,ty,by rw[JB h1 h2];exact p1,(h.aar h1 hw).trans p2,p3,λj x hj=>⟨(p4 j x hj).1,(p4 j x hj).2.dX hx h.hg.axy⟩⟩
 ·obtain⟨k,rfl,hk⟩|⟨h1,h2⟩:=Ah h.hs i
  ·rw[h.back]at e;obtain⟨g0,e1,rfl⟩:=NQ e;obtain⟨p1,p2,p3,A,c,p4,p5⟩:=h.lN.axy.row _ _ _ _ _ e1;refine⟨p1,p2,p3,A,c,by rw[h.Hy];exact p4,?_⟩;obtain p5|⟨p5,b,cs,p6,p7,p8,p9,p10,p11⟩:=p5
   ·exact .inl p5
   ·refine .inr ⟨p5,b,cs,p6,p7,p8,p9,p10,λj hj l hl=>?_⟩;obtain⟨x,q1,q2,q3⟩:=p11 j hj l hl;exact⟨x,q1,q2,h.PL q3⟩
  ·rw[H5 h.hs h1 h2]at e;obtain⟨p1,p2,p3,A,c,p4,p5⟩:=h.hg.axy.row _ _ _ _ _ e;refine⟨p1,p2,p3,A,c,by rw[JB h1 h2];exact p4,?_⟩;obtain p5|⟨p5,b,cs,p6,p7,p8,p9,p10,p11⟩:=p5
   ·exact .inl p5
   ·have hw:dB G st.get i b:=by unfold dB;rw[e];exact⟨A,c,p4,p5,0,p6⟩
    refine .inr ⟨p5,b,cs,p6,(h.aar h1 hw).trans p7,p8,p9,p10,λj hj l hl=>?_⟩;obtain⟨x,q1,q2,q3⟩:=p11 j hj l hl;exact⟨x,q1,q2,q3.dX hx h.hg.axy⟩
 ·obtain⟨k,rfl,hk⟩|⟨h1,h2⟩:=Ah h.hs i
  ·rw[h.back]at e;obtain⟨e0,e1,rfl⟩:=afn e;obtain⟨b,jF,cl,p1,p2,p3⟩:=h.lN.axy.map _ _ e1;exact⟨b,jF,cl,by rw[h.Hy];exact p1,p2,ac1 (λv u hv=>h.PL hv) p3⟩
  ·rw[H5 h.hs h1 h2]at e;obtain⟨b,jF,cl,p1,p2,p3⟩:=h.hg.axy.map _ _ e;have hw:dB G st.get i b:=by unfold dB;rw[e];exact p1
   exact⟨b,jF,cl,by rw[JB h1 h2];exact p1,(h.aar h1 hw).trans p2,p3.dX hx h.hg.axy⟩
 ·obtain⟨k,rfl,hk⟩|⟨h1,h2⟩:=Ah h.hs i
  ·exact h.lN.axy.xP k b (h.KZ e) hf
  ·have hw:=h.KW h1 h2 e;obtain h3|h3:=h.hx.F2 b hf
   ·exact h.hg.axy.xP i b hw h3
   ·have:=h.hg.axy.lt hw;omega
 ·have mix:∀ k i,bY aI i=none->dB G' t.get k b->dB G st.get i b->False:=by
   intro k i h1 h2 h3;obtain h4|h4:=h.hx.own k b h2
   ·obtain⟨j,h5,h6⟩:=FM h.ho h4;have:=h.hg.axy.sep _ _ _ h6 h3;subst this;exact NC h1 (vK h5)
   ·have:=h.hg.axy.lt h3;omega
  obtain⟨k,rfl,hk⟩|⟨h1,h2⟩:=Ah h.hs i <;> obtain⟨k',rfl,hk'⟩|⟨h1',h2'⟩:=Ah h.hs j
  ·rw[h.lN.axy.sep k k' b (h.KZ e1) (h.KZ e2)]
  ·exact(mix k j h1' (h.KZ e1) (h.KW h1' h2' e2)).elim
  ·exact(mix k' i h1 (h.KZ e2) (h.KW h1 h2 e1)).elim
  ·exact h.hg.axy.sep i j b (h.KW h1 h2 e1) (h.KW h1' h2' e2)
 ·have hi:st.nx+(t.nx-aI.length)<=i:=hi;obtain⟨k,rfl,hk⟩|⟨h1,h2⟩:=Ah h.hs i
  ·obtain hk|⟨hk,h1,h2,h3⟩:=hk
   ·have:=h.hs _ (YV hk);omega
   ·obtain⟨u1,u2⟩:=h.lN.jZ k qO;refine⟨by rw[h.Hy];exact u1,?_⟩;rw[h.back,u2];rfl
  ·omega
end
def af.frame{f:Nat}{args args':List V}{st bJ:ST}{aI:List Nat}{Q K:V->ST->Prop}(h:af f args' bJ Q)(hn:iJ aI=true)(hs:∀ i∈aI,i<st.nx)(hnx:bJ.nx=aI.length)(ha:lI bJ.nx (bY aI) args args')(ho:pV bJ.nx (bY aI) st aI bJ.st)(hk:∀ r t,Q r t->K (pR aI st.nx r) (tq st aI t)):af f args st K:=by
 refine⟨h.1,λG w us hg hl hv=>?_⟩;obtain⟨hal,hag⟩:=XB ha;refine(h.2 (G.sub aI) w us (RZ hg hn hnx ho) (hl.trans hal) λk v u hk1 hk2=>?_).mono λe w' hh=>?_
 ·obtain⟨a,h1,h2⟩:=hag k v hk1;exact FK ho h2 (hv k a u h1 hk2)
 ·obtain⟨v,V,t',G',e1,e2,e3,e4,e5⟩:=hh;have hf:uH aI st bJ t' G G' w w':=⟨hg,hn,hs,ho,e3,e4⟩;exact⟨v,_,_,_,e1,hk _ _ e2,hf.axy,hf.dX,hf.PL e5⟩
end
section
structure Sl where
 p:Value->World->Prop
 st:∀ v w w',Below w.heap.size w w'->p v w->p v w'
section
variable {P:Program} {ops:Array Oper} {Q:Exit->Act->World->Prop}
def KY:List Oper->Bool
 |[]=>true
 |o::r=>r.all (λo'=>o.dst.isNone||o.dst != o'.dst)&&KY r
def IU:List Oper->Nat->Bool
 |[],_=>true
 |o::r,k=>o.after.toList.all (λe=>!Region.binds .any e||decide (e.on<k))&&IU r (k+1)
def upd(vs:Nat->Value)(k:Nat)(v:Value):Nat->Value:=λj=>if j=k then v else vs j
def Giv(w1:World)(s:Sl)(v:Value)(w:World):Prop:=Below w1.heap.size w1 w/\s.p v w
def RJ(P:Program)(G:Value->World->Prop):Result Next->Prop
 |.ok (.value v) w'=>G v w'
 |.ok .skip w'=>G undef w'
 |.ok (.enter f args) w'=>Calls P f args w' λe w''=>∃ v,e = .returned v/\G v w''
 |_=>False
def abn(I:Nat->Sl)(vs:Nat->Value)(w:World):List Edge->Prop
 |[]=>True
 |e::es=>(match Region.binds .any e with|true=>(I e.on).p (vs e.on) w|false=>True)/\abn I vs w es
def VB(P:Program)(ops:Array Oper)(I:Nat->Sl)(T:(Nat->Value)->Act)(w0:World):List Oper->Nat->Prop
 |[],_=>True
 |o::r,k=>(∀ vs w1,Below w0.heap.size w0 w1->abn I vs w1 o.after.toList ->
   if Region.wanted o (yielded ops (T vs).tmps) then RJ P (Giv w1 (I k)) ((execOp (T vs).eval o).run P w1) else(I k).p undef w1)/\VB P ops I T w0 r (k+1)
def VB.at{I:Nat->Sl}{T:(Nat->Value)->Act}{w0:World}:∀ {l:List Oper} {k j:Nat} {o:Oper},VB P ops I T w0 l k->l[j]?=some o ->
  ∀ vs w1,Below w0.heap.size w0 w1->abn I vs w1 o.after.toList ->
   if Region.wanted o (yielded ops (T vs).tmps) then RJ P (Giv w1 (I (k+j))) ((execOp (T vs).eval o).run P w1) else(I (k+j)).p undef w1
 |[],_,_,_,_,h=>by simp at h
 |o0::l,k,0,o,h,ho=>by
  obtain rfl:o0=o:=by simpa using ho
  exact h.1
 |o0::l,k,j+1,o,h,ho=>by
  have h2:=VB.at (j:=j) h.2 (by simpa using ho);rw[show k+1+j=k+(j+1) by omega]at h2;exact h2
def Ju:∀ {l:List Oper} {k j:Nat} {o:Oper},IU l k=true->l[j]?=some o->∀ e∈o.after,Region.binds .any e=true->e.on<k+j
 |[],_,_,_,_,h=>by simp at h
 |o0::l,k,0,o,h,ho=>by
  obtain rfl:o0=o:=by simpa using ho
  simp only[IU,qf,y7]at h;intro e he hb;have:=h.1 e (by simpa using he);simpa [hb] using this
 |o0::l,k,j+1,o,h,ho=>by
  simp only[IU,qf]at h;have h2:=Ju (j:=j) h.2 (by simpa using ho);intro e he hb;have:=h2 e he hb;omega
def Bl(listed:Array Bool):Nat:=listed.toList.countP (λb=>!b)
def ae2(listed:Array Bool)(i:Nat)(h:listed.getD i true=false):Bl (listed.setIfInBounds i true)+1=Bl listed:=by
 have hi:i<listed.size:=by
  obtain h'|h':=l7 i listed.size
  ·exact h'
  ·simp[Array.getElem?_eq_none h']at h
 have hv:listed.toList[i]'(by simpa using hi)=false:=by simpa [hi] using h
 unfold Bl;rw[Array.toList_setIfInBounds,List.countP_set (by simpa using hi),hv];have hpos:0<listed.toList.countP (λb=>!b):=List.countP_pos_iff.2 ⟨false,by rw[<-hv];exact List.getElem_mem _,rfl⟩;generalize listed.toList.countP (λb=>!b)=m at *;simp;omega
def RV{listed:Array Bool}(h:Bl listed=0)(j:Nat):listed.getD j true=true:=by
 unfold Bl at h;rw[List.countP_eq_zero]at h;obtain h'|h':=l7 j listed.size
 ·have:=h listed[j] (by simp);simpa [h'] using this
 ·simp[Array.getElem?_eq_none h']
def ae3(n:Nat):Bl (Array.replicate n false)=n:=by
 unfold Bl;rw[Array.toList_replicate,List.countP_replicate];rfl
end
end
section
def Ob(w:World)(base:Nat)(E:TypeId)(A:Option Addr)(n c:Nat)(l:List UInt8):Prop:=l.length=n/\w.ownsRow base E 1 (.slice A n c) n (l.map bv)
def ajA(l:List UInt8):∀ u∈l.map bv,u.oneCell'=true:=by
 intro u hu;obtain⟨b,_,rfl⟩:=List.mem_map.1 hu;rfl
def Ob.bs{w:World}{base n c:Nat}{E:TypeId}{A:Option Addr}{l:List UInt8}(h:Ob w base E A n c l):Bs w w.heap.size A l:=by
 intro hl;obtain⟨hn,hlen,hv⟩:=h;obtain⟨hv,h0⟩|⟨g,cap,cur,hv,hb,hg,hnc,hcm,hsz,htake⟩:=hv
 ·omega
 ·injection hv with hA _ hc
  refine⟨g,0,hA,(Array.getElem?_eq_some_iff.1 hg).1,λi hi=>?_⟩;rw[jq,cell_of_row w g i cur E (0,0) hg];have h2:(cur.toList.take (n*1))[i]?=(l.map bv)[i]?:=by rw[htake]
  rw[nX,if_pos qO]at h2;simp[hi,bv]at h2 ⊢;exact h2
def Ob.len{w:World}{base n c:Nat}{E:TypeId}{A:Option Addr}{l:List UInt8}(h:Ob w base E A n c l):l.length=n:=h.1
def atW{w:World}{base n c:Nat}{E:TypeId}{A:Option Addr}{l:List UInt8}(h:Ob w base E A n c l):n<=c/\c<=maxLen:=by
 obtain⟨hn,hlen,hv⟩:=h;obtain⟨hv,h0⟩|⟨g,cap,cur,hv,hb,hg,hnc,hcm,hsz,htake⟩:=hv
 ·injection hv with _ _ hc
  subst hc;omega
 ·injection hv with _ _ hc
  subst hc;exact⟨hnc,hcm⟩
def FY(w:World)(base:Nat)(E:TypeId):Ob w base E none 0 0 []:=⟨rfl,World.ownsRow_nil w base E 1⟩
def aeQ{w:World}{base:Nat}{E:TypeId}(hb:base<=w.heap.size):Ob (w.alloc (.cells #[] E)) base E (some ⟨w.heap.size,0,none⟩) 0 0 []:=
 ⟨rfl,World.ownsRow_made w #[] 0 hb (cZ _) rfl⟩
def Ob.kept{w w':World}{base n c:Nat}{E:TypeId}{A:Option Addr}{l:List UInt8}{row:Option Nat}(h:Ob w base E A n c l)(hg:w.grownBy w' row)(hne:∀ a,A=some a->row≠some a.block):Ob w' base E A n c l:=by
 refine⟨h.1,h.2.kept hg ?_⟩;cases A with
 |none=>exact .inl rfl
 |some a=>exact .inr (λe=>hne a rfl (by rw[<-e];rfl))
def Ob.alloc{w:World}{base n c:Nat}{E:TypeId}{A:Option Addr}{l:List UInt8}(h:Ob w base E A n c l)(o:Obj):Ob (w.alloc o) base E A n c l:=⟨h.1,h.2.alloc o⟩
def Ob.mono{w:World}{base base' n c:Nat}{E:TypeId}{A:Option Addr}{l:List UInt8}(h:Ob w base E A n c l)(hb:base'<=base):Ob w base' E A n c l:=by
 refine⟨h.1,h.2.1,?_⟩;obtain h'|⟨g,cap,cur,hv,hg,r⟩:=h.2.2
 ·exact .inl h'
 ·exact .inr ⟨g,cap,cur,hv,kE hb hg,r⟩
def Ob.step{w w':World}{base n c:Nat}{E:TypeId}{A:Option Addr}{l:List UInt8}(h:Ob w base E A n c l)(hb:Below w.heap.size w w'):Ob w' base E A n c l:=by
 refine h.kept (row:=none) ⟨hb.os,hb.tape,hb.output,hb.size,λk hk _=>hb.block k hk⟩ (by simp)
def Ob.at_{w:World}{base n c:Nat}{E:TypeId}{A:Option Addr}{l:List UInt8}(h:Ob w base E A n c l)(hn:0<n) :
  ∃ g,A=some ⟨g,0,none⟩/\base<=g/\g<w.heap.size:=by
 obtain⟨_,h0⟩|⟨g,cap,cur,hv,hb,hg,_⟩:=h.2.2
 ·omega
 ·injection hv with hA
  exact⟨g,hA,hb,(Array.getElem?_eq_some_iff.1 hg).1⟩
def Ob.cell{w:World}{base n c g:Nat}{E:TypeId}{l:List UInt8}(h:Ob w base E (some ⟨g,0,none⟩) n c l)(i:Nat)(hi:i<l.length):w.cell? ⟨g,i,none⟩=some (.int .u8 ((l[i]'hi).toNat:Int)):=by
 rw[h.2.cellAt i (by have:=h.1;omega)];simp[hi,bv]
def Ob.free{w:World}{base n c g:Nat}{E:TypeId}{l:List UInt8}(h:Ob w base E (some ⟨g,0,none⟩) n c l)(i:Nat):w.frozen? ⟨g,i,none⟩=false:=h.2.frozenAt i
def Ob.set{w:World}{base n c g:Nat}{E:TypeId}{l:List UInt8}(h:Ob w base E (some ⟨g,0,none⟩) n c l)(i:Nat)(b:UInt8):Ob (w.setCell ⟨g,i,none⟩ (.int .u8 (b.toNat:Int))) base E (some ⟨g,0,none⟩) n c (l.set i b):=by
 refine⟨by rw[nM];exact h.1,?_⟩;rw[List.map_set];exact(h.2.stored i (bv b)).1
def Ob.ov{w:World}{base n c:Nat}{E:TypeId}{A:Option Addr}{l:List UInt8}(h:Ob w base E A n c l):Ov w base E 1 A n c (l.map bv):=h.2
section
variable {P:Program} {w:World}
def aiv(t ty E:TypeId)(i:TypeInfo)(ht:P.underlying t=some (.slice E))(hi:P.info? E=some i)(hz:i.zero=some (.int .u8 0))(hsize:i.size=1)(hby:i.bytes=1)
  {base n c:Nat} {A:Option Addr} {l:List UInt8} (hown:Ob w base E A n c l) {B m c2:Nat} {A2:Option Addr} {l2:List UInt8} (hm:l2.length=m) (hr:Bs w B A2 l2)
  (hbytes:n+m<=140737488355328) (hbase:base<=w.heap.size) :
  ∃ A' c' w',(Builtin.append_ #[t,t] ty #[.slice A n c,.slice A2 m c2]).run P w = .ok (.slice A' (n+m) c') w'/\Ob w' base E A' (n+m) c' (l++l2)/\w.grownBy w' (Value.slice A n c).ownBlock /\
   (A'=A\/A'=some ⟨w.heap.size,0,none⟩):=by
 have shape:∀(v':Value) (w':World),w'.ownsRow base E 1 v' (n+m) ((l++l2).map bv)->(v'.ownBlock=(Value.slice A n c).ownBlock\/v'.ownBlock=some w.heap.size) ->
   ∃ A' c',v' = .slice A' (n+m) c'/\(A'=A\/A'=some ⟨w.heap.size,0,none⟩):=by
  intro v' w' ho hb;obtain⟨rfl,h0⟩|⟨g,cap,cur,rfl,hrest⟩:=ho.2
  ·refine⟨none,0,by rw[h0],?_⟩;cases A with
   |none=>exact .inl rfl
   |some a=>simp[Value.ownBlock]at hb
  ·refine⟨_,_,rfl,?_⟩;obtain hb|hb:=hb
   ·cases A with
    |none=>simp[Value.ownBlock]at hb
    |some a=>
     obtain⟨h1,_⟩|⟨g2,_,_,h1,_⟩:=hown.2.2
     ·simp at h1
     ·injection h1 with h1
      injection h1 with h1
      subst h1;simp[Value.ownBlock]at hb;subst hb;exact .inl rfl
   ·simp[Value.ownBlock]at hb;subst hb;exact .inr rfl
 obtain _|ad:=A2
 ·obtain rfl:l2=[]:=by
   obtain h0|h0:=uK l2.length
   ·exact uI h0
   ·obtain⟨b,off,he,_⟩:=hr h0;cases he
  obtain rfl:m=0:=hm.symm;refine⟨A,c,w,?_,by simpa using hown,World.grownBy.refl w _,.inl rfl⟩;obtain⟨hv,_⟩|⟨g,cap,cur,hv,_,_,hnc,_⟩:=hown.2.2
  ·rw[hv];simp at hv;simp[Builtin.append_,run_underlying ht,sizeOf,typeInfo,hi,Builtin.lenOf,Builtin.firstCells,hv]
  ·simp at hv;obtain⟨rfl,rfl⟩:=hv;simp[Builtin.append_,run_underlying ht,sizeOf,typeInfo,hi,Builtin.lenOf,Builtin.firstCells,hnc,storeCells]
 ·have hcells:∀ j u,(l2.map bv)[j]?=some u->w.cell? (ad.add j)=some u:=by
   intro j u hu;have hj:j<l2.length:=by have:=(List.getElem?_eq_some_iff.1 hu).1;simpa using this
   obtain⟨b,off,he,_,hc⟩:=hr qO;injection he with he
   subst he;rw[Addr.add_lit,hc j hj,<-hu];simp[hj,bv]
  obtain⟨v',w',hrun,h2,h3,_,h5⟩:=run_append_own_at (P:=P) w base t ty E i (.int .u8 0) 1 1 ht hi hz hsize hby rfl qO _ n (l.map bv) hown.2 ad m c2 (l2.map bv) (by simpa using hm) hcells (ajA l2) (by unfold maxLen;omega) qO hbase;rw[<-List.map_append]at h2;obtain⟨A',c',rfl,hA'⟩:=shape v' w' h2 h5;exact⟨A',c',w',hrun,⟨by rw[bP,hown.1,hm],h2⟩,h3,hA'⟩
def aiz{o:Oper}{a:Act}{K:Act->World->Prop}{Q:Exit->Act->World->Prop}(s x:Operand)(t:TypeId)
  (ho:o.op = .call { callee:=.builtin .append,args:=#[s,x],argTypes:=#[t,t] })
  (E:TypeId) (i:TypeInfo) (ht:P.underlying t=some (.slice E)) (hi:P.info? E=some i) (hz:i.zero=some (.int .u8 0)) (hsize:i.size=1) (hby:i.bytes=1)
  {base n c:Nat} {A:Option Addr} {l:List UInt8} (hs:a.eval s = .slice A n c) (hown:Ob w base E A n c l) {B m c2:Nat} {A2:Option Addr} {l2:List UInt8} (hx:a.eval x = .slice A2 m c2) (hm:l2.length=m) (hr:Bs w B A2 l2)
  (hbytes:n+m<=140737488355328) (hbase:base<=w.heap.size)
  (h:∀ A' c' w',Ob w' base E A' (n+m) c' (l++l2)->w.grownBy w' (Value.slice A n c).ownBlock->(A'=A\/A'=some ⟨w.heap.size,0,none⟩)->K (a.put o.dst (.slice A' (n+m) c')) w'):o.wp P a w K Q:=by
 obtain⟨A',c',w',hrun,h2,h3,h4⟩:=aiv (P:=P) t o.type E i ht hi hz hsize hby hown hm hr hbytes hbase;unfold Oper.wp;simp[execOp,ho,resolve,invoke,builtin,hs,hx,Result.andThen];rw[hrun];exact h A' c' w' h2 h3 h4
def aiq{ops:Array Oper}{rest:List Oper}{o:Oper}{a:Act}{Q:Exit->Act->World->Prop}(hgd:o.guard=none)(s x:Operand)(t:TypeId)
  (ho:o.op = .call { callee:=.builtin .append,args:=#[s,x],argTypes:=#[t,t] })
  (E:TypeId) (i:TypeInfo) (ht:P.underlying t=some (.slice E)) (hi:P.info? E=some i) (hz:i.zero=some (.int .u8 0)) (hsize:i.size=1) (hby:i.bytes=1)
  {base n c:Nat} {A:Option Addr} {l:List UInt8} (hs:a.eval s = .slice A n c) (hown:Ob w base E A n c l) {B m c2:Nat} {A2:Option Addr} {l2:List UInt8} (hx:a.eval x = .slice A2 m c2) (hm:l2.length=m) (hr:Bs w B A2 l2)
  (hbytes:n+m<=140737488355328) (hbase:base<=w.heap.size)
  (h:∀ A' c' w',Ob w' base E A' (n+m) c' (l++l2)->w.grownBy w' (Value.slice A n c).ownBlock->(A'=A\/A'=some ⟨w.heap.size,0,none⟩)->wpList P ops Q rest (a.put o.dst (.slice A' (n+m) c')) w'):wpList P ops Q (o::rest) a w:=
 wpList_plain hgd λ_ hK=>aiz s x t ho E i ht hi hz hsize hby hs hown hx hm hr hbytes hbase λA' c' w' h2 h3 h4=>hK _ _ (h A' c' w' h2 h3 h4)
end
end
def axL:(prog.info? 5).map (λi=>(i.zero,i.size,i.bytes))=some (some (.int .u8 0),1,1):=by kernel_rfl
abbrev Own(w:World)(base:Nat)(A:Option Addr)(n c:Nat)(l:List UInt8):Prop:=Ob w base 5 A n c l
def app{w:World}{ops:Array Oper}{rest:List Oper}{o:Oper}{a:Act}{Q:Exit->Act->World->Prop}(hgd:o.guard=none)(s x:Operand)
  (ho:o.op = .call { callee:=.builtin .append,args:=#[s,x],argTypes:=#[48,48] })
  {base n c:Nat} {A:Option Addr} {l:List UInt8} (hs:a.eval s = .slice A n c) (hown:Own w base A n c l) {B m c2:Nat} {A2:Option Addr} {l2:List UInt8} (hx:a.eval x = .slice A2 m c2) (hm:l2.length=m) (hr:Bs w B A2 l2)
  (hbytes:n+m<=140737488355328) (hbase:base<=w.heap.size)
  (h:∀ A' c' w',Own w' base A' (n+m) c' (l++l2)->w.grownBy w' (Value.slice A n c).ownBlock->(A'=A\/A'=some ⟨w.heap.size,0,none⟩)->wpList prog ops Q rest (a.put o.dst (.slice A' (n+m) c')) w'):wpList prog ops Q (o::rest) a w:=by
 obtain⟨i,hi,hz,hsz,hby⟩:=info_parts axL;exact aiq hgd s x _ ho 5 i underlying48 hi hz hsz hby hs hown hx hm hr hbytes hbase h
def mk{w:World}{ops:Array Oper}{rest:List Oper}{o:Oper}{a:Act}{Q:Exit->Act->World->Prop}(hgd:o.guard=none)(x y:Operand)
  (ho:o.op=Op.makeSlice 48 x y) (kl kc:IntKind) (L C:Int) (n:Nat) (hx:a.eval x = .int kl L) (hy:a.eval y = .int kc C) (hL:L=(n:Int)) (hC:C=(n:Int)) {base:Nat} (hn:n<=140737488355328) (hb:base<=w.heap.size)
  (h:∀ w',Own w' base (some ⟨w.heap.size,0,none⟩) n n (List.replicate n 0)->w.grownBy w' none->wpList prog ops Q rest (a.put o.dst (.slice (some ⟨w.heap.size,0,none⟩) n n)) w'):wpList prog ops Q (o::rest) a w:=by
 obtain⟨i,hi,hz,hsz,hby⟩:=info_parts axL;refine wpList_make_full w hgd x y _ ho base 5 i (.int .u8 0) 1 underlying48 hi hz hsz kl kc L C n hx hy hL hC (by rw[hby];omega) (by unfold maxLen;omega) hb (λw' ho' lN=>h w' ⟨by simp,?_⟩ lN);have e:(madeCells (Value.int .u8 0).cells (n*1)).toList=(List.replicate n (0:UInt8)).map bv:=by
  refine List.ext_getElem? λj=>?_
  by_cases hj:j<n
  ·simp[madeCells,bv,hj,Value.cells,Nat.mod_one]
  ·simp[madeCells,hj]
 rw[<-e];exact ho'
def mk0{w:World}{ops:Array Oper}{rest:List Oper}{o:Oper}{a:Act}{Q:Exit->Act->World->Prop}(hgd:o.guard=none)(x y:Operand)
  (ho:o.op=Op.makeSlice 48 x y) (kl kc:IntKind) (C:Int) (n:Nat) (hx:a.eval x = .int kl 0) (hy:a.eval y = .int kc C) (hC:C=(n:Int)) {base:Nat} (hn:n<=140737488355328) (hb:base<=w.heap.size)
  (h:∀ w',Own w' base (some ⟨w.heap.size,0,none⟩) 0 n []->w.grownBy w' none->wpList prog ops Q rest (a.put o.dst (.slice (some ⟨w.heap.size,0,none⟩) 0 n)) w'):wpList prog ops Q (o::rest) a w:=by
 obtain⟨i,hi,hz,hsz,hby⟩:=info_parts axL;exact wpList_make_own w hgd x y _ ho base 5 i (.int .u8 0) 1 underlying48 hi hz hsz kl kc C n hx hy hC (by rw[hby];omega) (by unfold maxLen;omega) hb (λw' ho' lN=>h w' ⟨rfl,ho'⟩ lN)
def Own.grown{w0 w w':World}{A:Option Addr}{n c:Nat}{l:List UInt8}(h:Own w w0.heap.size A n c l)(hb:Below w0.heap.size w0 w)(hg:w.grownBy w' (Value.slice A n c).ownBlock):Below w0.heap.size w0 w':=
 hb.grown hg hb.size (λk hk=>(h.2.lt k hk).1)
section
structure Sx (B:Nat) where
 lo:Nat
 hi:Nat
 fx:Bool
 born:Nat
 ah3:Option Nat
 dep:List Nat
 p:(Nat->Value)->Value->World->Prop
 loc:∀ f f' v w,(∀ j∈dep,f j=f' j)->p f v w->p f' v w
 st:∀ f v w w',Below w.heap.size w w'->p f v w->p f v w'
 axz:∀ s f v w w',born<=s->(∀ j,ah3=some j->s<j)->Below B w w'->p f v w->p f v w'
 axr:born<=lo+fx.toNat
def Sx.at{B:Nat}(j:Nat)(p:Value->World->Prop)(st:∀ v w w',Below w.heap.size w w'->p v w->p v w'):Sx B:=⟨j,j,false,j,some j,[],λ_=>p,λ_ _ _ _ _ h=>h,λ_=>st,λs _ _ _ _ h1 h2 _ _=>ai (h2 j rfl) qO,Nat.le_add_right _ _⟩
def Sx.av{B:Nat}(x:Sx B)(s:Nat)(f:Nat->Value)(v:Value)(w:World):Prop:=match x.ah3 with|none=>x.p f v w|some j=>s<=j->x.p f v w
section
variable {P:Program} {B:Nat} {Q:Exit->Act->World->Prop}
def yz(acc:List Nat):List Edge->Nat
 |[]=>0
 |e::es=>match Region.binds .any e with
  |true=>(1 <<< e.on) ||| acc.getD e.on 0 ||| yz acc es
  |false=>yz acc es
def wu:List Oper->List Nat->List Nat
 |[],acc=>acc
 |o::r,acc=>wu r (acc++[yz acc o.after.toList])
def Closed(l:List Oper)(L:Nat->Prop):Prop:=∀ k o,l[k]?=some o->L k->∀ e∈o.after.toList,Region.binds .any e=true->L e.on
def abO{acc:List Nat}{L:Nat->Prop}(hacc:∀ k e,(acc.getD k 0).testBit e=true->L k->L e){j:Nat} :
  ∀ {es:List Edge},(∀ e∈es,Region.binds .any e=true->L e.on)->(yz acc es).testBit j=true->L j
 |[],_,h=>by simp[yz]at h
 |e::es,hes,h=>by
  unfold yz at h;have ih:=abO hacc (j:=j) (es:=es) (λe' he'=>hes e' (jA _ he'));split at h
  ·rename_i hb
   have hon:=hes e jL hb;rw[Nat.testBit_or,Nat.testBit_or,Bool.or_eq_true,Bool.or_eq_true]at h;obtain (h|h)|h:=h
   ·rw[Nat.one_shiftLeft,Nat.testBit_two_pow]at h;have:e.on=j:=by simpa using h
    exact this▸hon
   ·exact hacc _ _ h hon
   ·exact ih h
  ·exact ih h
def Nj{l:List Oper}{L:Nat->Prop}(hc:Closed l L):∀(r pre:List Oper) (acc:List Nat),l=pre++r->acc.length=pre.length->(∀ k e,(acc.getD k 0).testBit e=true->L k->L e) ->
  ∀ k e,((wu r acc).getD k 0).testBit e=true->L k->L e
 |[],_,_,_,_,h=>h
 |o::r,pre,acc,hl,hlen,h=>by
  refine Nj hc r (pre++[o]) _ (by simp[hl]) (by simp[hlen]) λk e hb hk=>?_
  obtain hlt|heq|hgt:=Nat.lt_trichotomy k acc.length
  ·refine h k e ?_ hk;rw[bn,lS hlt]at hb;rw[bn];exact hb
  ·subst heq;have e1:(acc++[yz acc o.after.toList]).getD acc.length 0=yz acc o.after.toList:=by simp[bn]
   rw[e1]at hb;refine abO h (λe' he' hbd=>hc acc.length o ?_ hk e' he' hbd) hb;rw[hl,hlen];simp
  ·rw[bn,List.getElem?_eq_none (by simp;omega)]at hb;simp at hb
def ac0{acc:List Nat}(hacc:∀ k e,(acc.getD k 0).testBit e=true->e<k){n j:Nat} :
  ∀ {es:List Edge},(∀ e∈es,Region.binds .any e=true->e.on<n)->(yz acc es).testBit j=true->j<n
 |[],_,h=>by simp[yz]at h
 |e::es,hes,h=>by
  unfold yz at h;have ih:=ac0 hacc (n:=n) (j:=j) (es:=es) (λe' he'=>hes e' (jA _ he'));split at h
  ·rename_i hb
   have hon:=hes e jL hb;rw[Nat.testBit_or,Nat.testBit_or,Bool.or_eq_true,Bool.or_eq_true]at h;obtain (h|h)|h:=h
   ·rw[Nat.one_shiftLeft,Nat.testBit_two_pow]at h;have:e.on=j:=by simpa using h
    omega
   ·have:=hacc _ _ h;omega
   ·exact ih h
  ·exact ih h
def Zc{l:List Oper}(hbk:IU l 0=true):∀(r pre:List Oper) (acc:List Nat),l=pre++r->acc.length=pre.length->(∀ k e,(acc.getD k 0).testBit e=true->e<k) ->
  ∀ k e,((wu r acc).getD k 0).testBit e=true->e<k
 |[],_,_,_,_,h=>h
 |o::r,pre,acc,hl,hlen,h=>by
  refine Zc hbk r (pre++[o]) _ (by simp[hl]) (by simp[hlen]) λk e hb=>?_
  obtain hlt|heq|hgt:=Nat.lt_trichotomy k acc.length
  ·refine h k e ?_;rw[bn,lS hlt]at hb;rw[bn];exact hb
  ·subst heq;have e1:(acc++[yz acc o.after.toList]).getD acc.length 0=yz acc o.after.toList:=by simp[bn]
   rw[e1]at hb;refine ac0 h (λe' he' hbd=>?_) hb;have:=Ju hbk (j:=acc.length) (o:=o) (by rw[hl,hlen];simp) e' (by simpa using he') hbd;omega
  ·rw[bn,List.getElem?_eq_none (by simp;omega)]at hb;simp at hb
def OE(M:List Nat):List Nat->Bool
 |[]=>true
 |e::r=>r.all (λe'=>(M.getD e' 0).testBit e&&decide (e<e'))&&OE M r
def loB(M:List Nat)(eff:List Nat)(k lo:Nat):Bool:=match lo with|0=>true|j+1=>match eff[j]? with|some e=>(M.getD k 0).testBit e|none=>false
def hiB(M:List Nat)(eff:List Nat)(k hi:Nat):Bool:=match eff[hi]? with|some e=>(M.getD e 0).testBit k||e == k|none=>true
def VD(M:List Nat)(eff:List Nat):List (Nat×Nat×Bool×List Nat)->Nat->Bool
 |[],_=>true
 |(lo,hi,fx,dep)::r,k=>loB M eff k lo&&hiB M eff k hi&&(fx == eff.contains k)&&dep.all (λe=>(M.getD k 0).testBit e)&&VD M eff r (k+1)
def Wn{M:List Nat}:∀ {eff:List Nat} {i j a b:Nat},OE M eff=true->i<j->eff[i]?=some a->eff[j]?=some b->(M.getD b 0).testBit a=true/\a<b
 |[],_,_,_,_,_,_,h,_=>by simp at h
 |e::r,0,j+1,a,b,h,_,ha,hb=>by
  simp only[OE,qf,y7]at h;obtain rfl:e=a:=by simpa using ha
  have:=h.1 b (vK (by simpa using hb));exact⟨this.1,by simpa using this.2⟩
 |e::r,i+1,j+1,a,b,h,hij,ha,hb=>by
  simp only[OE,qf]at h;exact Wn (eff:=r) (i:=i) (j:=j) h.2 qO (by simpa using ha) (by simpa using hb)
 |_::_,_,0,_,_,_,h,_,_=>by omega
def Vz(St:Nat->World->Prop)(w1:World)(x:Sx B)(s:Nat)(f:Nat->Value)(v:Value)(w:World):Prop:=x.p f v w/\match x.fx with
 |true=>Below B w1 w/\St (s+1) w
 |false=>Below w1.heap.size w1 w
def abm(I:Nat->Sx B)(vs:Nat->Value)(w:World)(s:Nat):List Edge->Prop
 |[]=>True
 |e::es=>(match Region.binds .any e with|true=>(I e.on).av s vs (vs e.on) w|false=>True)/\abm I vs w s es
def Yet(l:List Oper)(a:Act)(vs:Nat->Value)(k:Nat):Prop:=∀ e o d,l[e]?=some o->o.dst=some d->((wu l []).getD e 0).testBit k=true->vs e=a.tmps.getD d undef
def VA(P:Program)(l0:List Oper)(a0:Act)(ops:Array Oper)(I:Nat->Sx B)(T:(Nat->Value)->Act)(w0:World)(St:Nat->World->Prop):List Oper->Nat->Prop
 |[],_=>True
 |o::r,k=>(∀ vs w1 s,(I k).lo<=s->s<=(I k).hi->Below B w0 w1->St s w1->abm I vs w1 s o.after.toList->Yet l0 a0 vs k ->
   if Region.wanted o (yielded ops (T vs).tmps) then RJ P (Vz St w1 (I k) s vs) ((execOp (T vs).eval o).run P w1) else Vz St w1 (I k) s vs undef w1)/\VA P l0 a0 ops I T w0 St r (k+1)
def VA.at{l0:List Oper}{a0:Act}{ops:Array Oper}{I:Nat->Sx B}{T:(Nat->Value)->Act}{w0:World}{St:Nat->World->Prop}:∀ {l:List Oper} {k j:Nat} {o:Oper},VA P l0 a0 ops I T w0 St l k->l[j]?=some o ->
  ∀ vs w1 s,(I (k+j)).lo<=s->s<=(I (k+j)).hi->Below B w0 w1->St s w1->abm I vs w1 s o.after.toList->Yet l0 a0 vs (k+j) ->
   if Region.wanted o (yielded ops (T vs).tmps) then RJ P (Vz St w1 (I (k+j)) s vs) ((execOp (T vs).eval o).run P w1) else Vz St w1 (I (k+j)) s vs undef w1
 |[],_,_,_,_,h=>by simp at h
 |o0::l,k,0,o,h,ho=>by
  obtain rfl:o0=o:=by simpa using ho
  exact h.1
 |o0::l,k,j+1,o,h,ho=>by
  have h2:=VA.at (j:=j) h.2 (by simpa using ho);rw[show k+1+j=k+(j+1) by omega]at h2;exact h2
def Ql(l:List Oper)(eff:List Nat)(sigs:List (Nat×Nat×Bool×List Nat)):Bool:=
 KY l&&IU l 0&&(sigs.length == l.length)&&OE (wu l []) eff&&VD (wu l []) eff sigs 0&&eff.all (λe=>decide (e<l.length))
end
end
section
def Gf(all:List Oper)(o:Oper)(s:AS)(K:V->ST->Prop):Prop:=
 match o.guard with
 |none=>dF ag af o.op s K
 |some (j,w)=>match (all[j]?).map (·.dst) with
  |some (some d)=>Jn w (dD s.sl d) λt=>Vw af t w o s (λv=>K (.kQ t w v) s.s)
  |_=>False
section
variable {G:Gh} {w w':World} {t:ST} {s:AS} {a:Act} {Q:Exit->Act->World->Prop}
def abI(ops:Array Oper){i:Nat}{o:Oper}(ho:ops[i]?=some o){K:V->ST->Prop}(hg:bZ G s.s w)(hs:oZ G s a w)(h:Gf ops.toList o s K){N:Act->World->Prop}
  (hN:∀ v V t' G' w',K V t'->bZ G' t' w'->Stp G s.s.get w G' t'.get w'->aY G' t'.get w' V v->N (a.put o.dst v) w'):wpOp prog ops Q i N a w:=by
 unfold wpOp;rw[ho];simp only;unfold Gf at h;split at h
 ·rename_i hgd
  have hw:Region.wanted o (yielded ops a.tmps)=true:=by unfold Region.wanted;rw[hgd]
  rw[if_pos hw];refine .inl ?_;have hres:=Tz (M:=ag) (gd:=True) (o:=o) (λp q h=>⟨h.h.2,λ_=>h.h.1⟩) trivial hg hs h;unfold fG at hres;refine y8 hres (λa' w' hh=>?_) (λ_ _ _ h=>h.elim);obtain⟨v,V,t',G',rfl,h1,h2,h3,h4⟩:=hh;exact hN v V t' G' w' h1 h2 h3 h4
 ·rename_i j w1 hgd
  split at h;rotate_left
  ·exact h.elim
  rename_i d hd
  obtain⟨t,h,hw⟩:=YY hs hgd hd h;obtain⟨hyes,hno⟩:=ac8 hg hs h;rw[hw];by_cases e:t=w1
  ·rw[if_pos (by rw[e];cases w1 <;> rfl)];refine .inl ?_;refine y8 (hyes e) (λa' w' hh=>?_) (λ_ _ _ h=>h.elim);obtain⟨v,V,G',rfl,hk,lN,hst,hv⟩:=hh;exact hN v _ _ G' w' hk lN hst ⟨λ_=>hv,λe'=>ai e e'⟩
  ·rw[if_neg (by intro e';exact e (by cases t <;> cases w1 <;> first|rfl|cases e'))];obtain⟨V,hk⟩:=hno e;exact hN undef _ _ G w hk hg (Stp.refl _ _ _) ⟨λe'=>ai e' e,λ_=>rfl⟩
end
@[irreducible] def jd (f:Nat) (args:List V) (st:ST) (K:V->ST->Prop):Prop:=∃ R T,K R T
def jd.mk{f:Nat}{args:List V}{st:ST}{K:V->ST->Prop}(R:V)(T:ST)(h:K R T):jd f args st K:=by unfold jd;exact⟨R,T,h⟩
def jd.val{f:Nat}{args:List V}{st:ST}{K:V->ST->Prop}(R:V)(h:K R st):jd f args st K:=jd.mk R st h
def jd.any{f:Nat}{args:List V}{st:ST}{K:V->ST->Prop}(h:jd f args st K):∃ v t,K v t:=by unfold jd at h;exact h
def agM(c:Call)(s:AS)(K:V->Prop):Prop:=
 match c.callee with
 |.value f=>(match s.ev f with
  |.fn k nf n g=>jd k ((yI nf g)++(c.args.toList.map s.ev)++((yI n g).drop nf)) s.s (λv _=>K v)
  |_=>False)
 |_=>False
def Pz(v:V)(K:Bool->Prop):Prop:=
 match v with
 |.d (.v (.bool p))=>K p
 |.kQ _ _ (.d (.v (.bool p)))=>K p
 |_=>False
def aa9(all:List Oper)(o:Oper)(s:AS)(K:V->ST->Prop):Prop:=
 match o.guard with
 |none=>dF (λ_ q=>q) jd o.op s K
 |some (j,w)=>match (all[j]?).map (·.dst) with
  |some (some d)=>Jn w (dD s.sl d) λt=>(match o.op with
   |.pick c a b=>Pz (s.ev c) λx=>Pz (s.ev a) λp=>Pz (s.ev b) λq=>K (.kQ t w (.b (cond x p q))) s.s
   |op=>(match calm op with
    |true=>dF (λ_ q=>q) jd op (strip s) (λv _=>K (.kQ t w v) s.s)
    |false=>(match op with
     |.call c=>agM c (strip s) (λv=>K (.kQ t w v) s.s)
     |.buildSlice ty n ps=>BQ ty n ps.toList (strip s) (λv=>K (.kQ t w v) s.s)
     |_=>False)))
  |_=>False
def XA{v:V}{K:Bool->Prop}(h:Pz v K):∃ p,K p:=by
 unfold Pz at h;repeat'(first|exact h.elim|exact⟨_,h⟩|split at h)
def arh{w:Bool}{v:V}{K:Bool->Prop}(h:Jn w v K):∃ t,K t:=by
 unfold Jn at h;repeat'(first|exact h.elim|exact⟨_,h⟩|split at h)
section
variable {s:AS} {M:Prop->Prop->Prop} {C:Nat->List V->ST->(V->ST->Prop)->Prop}
def adx{E:Nat}{x:V}{t:ST}{K:Nat->(Nat->Nat->V)->Prop}(h:Gz E x t K):∃ n g,K n g:=by
 unfold Gz at h;repeat'(first|exact h.elim|exact⟨_,_,h⟩|replace h:=(ag.h h).2|split at h)
def ajb{ty:Nat}{x y:V}{t:ST}{K:V->ST->Prop}(h:Oo ty x y t K):∃ v t,K v t:=by
 unfold Oo at h;split at h;rotate_left
 ·exact h.elim
 obtain⟨m,g,h⟩:=adx h;repeat'(first|exact h.elim|exact⟨_,_,h⟩|replace h:=(ag.h h).2|split at h)
def alh{ty:Nat}{x y:V}{t:ST}{K:V->ST->Prop}(h:Pq ty x y t K):∃ v t,K v t:=by
 unfold Pq at h;split at h;rotate_left
 ·exact h.elim
 obtain⟨m,g,h⟩:=adx h;repeat'(first|exact h.elim|exact⟨_,_,h⟩|replace h:=(ag.h h).2|split at h)
def ajN{ty:Nat}{x:V}{t:ST}{K:V->ST->Prop}(h:OQ ty x t K):∃ v t,K v t:=by
 unfold OQ at h;repeat'(first|exact h.elim|exact⟨_,_,h⟩|replace h:=(ag.h h).2|split at h)
def afx(hM:∀ p q,M p q->q)(hC:∀ f args st K,C f args st K->∃ v t,K v t){op:Op}{K:V->ST->Prop}(h:dF M C op s K):∃ v t,K v t:=by
  rcases hc:calm op with _|_
  rotate_left
  · obtain⟨v,hv⟩:=aeE hM hc h;exact⟨v,_,hv⟩
  cases op
  case assign x=>exact⟨_,_,h⟩
  case alloc t=>
    simp only[dF]at h;repeat'(first|exact h.elim|exact⟨_,_,h⟩|split at h)
  case box t x=>
    simp only[dF]at h;obtain⟨n,g,h⟩:=WT h;exact⟨_,_,h⟩
  case store t x v=>
    simp only[dF,Ub]at h;split at h
    · exact h.elim
    obtain⟨n,g,h⟩:=WT h;repeat'(first|exact h.elim|exact⟨_,_,h⟩|replace h:=(ag.h h).2|split at h)
  case build t ps=>
    simp only[dF]at h;split at h;rotate_left
    · exact h.elim
    obtain⟨g,h⟩:=Q9 (λi K h=>by
      unfold CV at h;repeat'(first|exact h.elim|exact⟨_,_,h⟩|split at h)) _ _ _ h
    exact⟨_,_,h⟩
  case buildSlice t n ps=>
    simp only[dF]at h;split at h;rotate_left
    · exact h.elim
    obtain⟨g,h⟩:=Q9 (λi K h=>⟨_,_,h⟩) _ _ _ h.h.2;exact⟨_,_,h⟩
  case makeSlice t a b=>
    simp only[dF]at h;repeat'(first|exact h.elim|exact⟨_,_,h⟩|replace h:=(ag.h h).2|split at h)
  case makeFunc f a b=>
    cases f <;> simp only[dF]at h;exact⟨_,_,h⟩
  case makeMap t r=>
    cases r <;> simp only[dF]at h;exact⟨_,_,h⟩
  case insert t m x v=>
    simp only[dF,JW,force_eq]at h;repeat'(first|exact h.elim|exact⟨_,_,h⟩|split at h)
  case mapUpdate t m x v=>
    simp only[dF,JW,force_eq]at h;repeat'(first|exact h.elim|exact⟨_,_,h⟩|split at h)
  case convert t1 t2 x=>
    simp only[dF,IQ]at h;repeat'(first|exact h.elim|exact⟨_,_,h⟩|replace h:=(ag.h h).2|replace h:=hM _ _ h|split at h)
  case call c=>
    obtain⟨callee,args,ats⟩:=c;cases callee
    case value f=>
      simp only[dF]at h;split at h
      · exact hC _ _ _ _ h
      · exact h.elim
    case builtin b=>
      cases b <;> simp only[calm]at hc;all_goals first
        | (cases hc;done)
        | (simp only[dF]at h;done)
        | skip
      all_goals
        simp only[dF]at h;split at h;rotate_left
        · exact h.elim
        first
          | exact ajN h
          | (split at h
             rotate_left
             · exact h.elim
             first|exact ajb h|exact alh h)
    all_goals(simp only[dF]at h)
  all_goals first|(cases hc;done)|(simp only[dF]at h;done)|skip
def anA{all:List Oper}{o:Oper}{K:V->ST->Prop}(h:aa9 all o s K):∃ v t,K v t:=by
 have hC:∀ f args st (K:V->ST->Prop),jd f args st K->∃ v t,K v t:=λf args st K h=>by unfold jd at h;exact h
 unfold aa9 at h;split at h
 ·exact afx (λ_ _ h=>h) hC h
 split at h;rotate_left
 ·exact h.elim
 obtain⟨t,h⟩:=arh h;split at h
 ·obtain⟨x,h⟩:=XA h;obtain⟨p,h⟩:=XA h;obtain⟨q,h⟩:=XA h;exact⟨_,_,h⟩
 ·split at h
  ·obtain⟨v,t,h⟩:=afx (λ_ _ h=>h) hC h;exact⟨_,_,h⟩
  ·split at h
   ·unfold agM at h;split at h
    ·split at h
     ·obtain⟨v,t,h⟩:=h.any;exact⟨_,_,h⟩
     ·exact h.elim
    ·exact h.elim
   ·obtain⟨v,h⟩:=abR h;exact⟨_,_,h⟩
   ·exact h.elim
end
end
section
def nth{α:Type}:List α->Nat->Option α
 |[],_=>none
 |a::_,0=>some a
 |_::r,n+1=>nth r n
def Ky{α:Type}:∀(l:List α) (n:Nat),nth l n=l[n]?
 |[],_=>by simp[nth]
 |a::_,0=>by simp[nth]
 |_::r,n+1=>by simp[nth,Ky r n]
def snoc{α:Type}:List α->α->List α
 |[],b=>[b]
 |a::r,b=>a::snoc r b
def O4{α:Type}:List α->α->(List α->Prop)->Prop
 |[],b,K=>K [b]
 |a::r,b,K=>O4 r b λr=>K (a::r)
def Np{α:Type}:∀(l:List α) (b:α) (K:List α->Prop),O4 l b K=K (snoc l b)
 |[],_,_=>rfl
 |_::r,b,_=>Np r b _
def sG(l:List Oper)(vs:List V):List Edge->List (Nat×V)
 |[]=>[]
 |e::es=>match Region.binds .any e,nth l e.on,nth vs e.on with
  |true,some o,some v=>(match o.dst with|some d=>(d,v)::sG l vs es|none=>sG l vs es)
  |_,_,_=>sG l vs es
def Ee(i:Nat):List Edge->Bool
 |[]=>false
 |e::es=>bif Nat.beq e.on i then(bif Region.binds .any e then true else Ee i es) else Ee i es
def Ed(i d:Nat):List Oper->Bool
 |[]=>false
 |o::r=>match o.dst with
  |some e=>bif Nat.beq e d then(bif Ee i o.after.toList then Ed i d r else true) else Ed i d r
  |none=>Ed i d r
def yE(i:Nat)(l:List Oper)(sl:List (Nat×V)):List Operand->List (Nat×V)
 |[]=>[]
 |.tmp d::r=>(match Ed i d l with|true=>yE i l sl r|false=>(d,dD sl d)::yE i l sl r)
 |_::r=>yE i l sl r
def rf:List Oper->List V->List (Nat×V)
 |o::r,v::q=>match o.dst with|some d=>(d,v)::rf r q|none=>rf r q
 |_,_=>[]
def Ei(l:List Oper)(vs:List V)(s:AS)(i:Nat)(o:Oper)(S:ST):AS:=⟨s.nt,sG l vs o.after.toList++yE i l s.sl o.op.operands.toList,S⟩
abbrev y5:=Nat×Nat×Bool×List Nat
def Gq(l:List Oper)(s:AS):List Oper->List y5->List V->List ST->ST->(List V->List ST->Prop)->Prop
 |o::r,(_,_,fx,_)::q,vs,Ss,S,K=>OI (Ei l vs s vs.length o S).sl λsl=>aa9 l o ⟨s.nt,sl,S⟩ λv t=>force v λv=>Io t λt=>O4 vs v λvs=>match fx with
  |true=>O4 Ss S λSs=>Gq l s r q vs Ss t K
  |false=>Gq l s r q vs Ss S K
 |_,_,vs,Ss,S,K=>O4 Ss S λSs=>K vs Ss
def Tm(P:ST->ST->Prop):List ST->Nat->Prop
 |S::S'::r,n+1=>P S S'/\Tm P (S'::r) n
 |[S],_+1=>P S S
 |_,_=>True
def Qa(l:List Oper)(s:AS)(vs:List V)(Ss:List ST):Nat->List Oper->List y5->List V->Prop
 |i,o::r,(lo,hi,fx,_)::q,v::vr=>(match s.fits o.dst with
  |true=>OI (Ei l vs s i o s.s).sl λsl=>Tm (λS S'=>Gf l o ⟨s.nt,sl,S⟩ λv' t=>v'=v/\t=(match fx with|true=>S'|false=>S)) (Ss.drop lo) (hi+1-lo)
  |false=>False)/\Qa l s vs Ss (i+1) r q vr
 |_,_,_,_=>True
def aap(l:List Oper)(eff:List Nat)(vs:List V)(Ss:List ST)(p:Prop):Prop:=match Nat.beq vs.length l.length,Nat.beq Ss.length (eff.length+1) with
 |true,true=>p
 |_,_=>False
section
variable {t0:ST} {X:Cx t0} {G:Gh} {w w':World} {s:AS} {a:Act} {l:List Oper} {vs:List V} {Ss:List ST} {sigs:List y5} {eff:List Nat}
def Xy:∀(r:List Oper) (q:List y5) (vs:List V) (Ss:List ST) (S:ST) (K:List V->List ST->Prop),Gq l s r q vs Ss S K->∃ vs Ss,K vs Ss
 |o::r,(lo,hi,fx,dp)::q,vs,Ss,S,K,h=>by
  unfold Gq at h;rw[RN]at h;obtain⟨v,t,h⟩:=anA h;rw[force_eq,Rj,Np]at h;cases fx with
  |true=>
   simp only[Np]at h;exact Xy r q _ _ _ _ h
  |false=>exact Xy r q _ _ _ _ h
 |[],_,vs,Ss,S,K,h=>⟨_,_,by unfold Gq at h;rw[Np]at h;exact h⟩
 |_::_,[],vs,Ss,S,K,h=>⟨_,_,by unfold Gq at h;rw[Np]at h;exact h⟩
def acG{P:ST->ST->Prop}:∀ {Ss:List ST} {n k:Nat} {S:ST},Tm P Ss n->k<n->Ss[k]?=some S->P S (Ss.getD (k+1) S)
 |[],n,k,S,_,_,hS=>by simp at hS
 |_,0,k,S,_,hk,_=>ai hk qO
 |[S0],n+1,k,S,h,hk,hS=>by
  cases k with
  |zero=>simp at hS;subst hS;exact h
  |succ k=>simp at hS
 |S0::S1::r,n+1,k,S,h,hk,hS=>by
  cases k with
  |zero=>simp at hS;subst hS;exact h.1
  |succ k=>
   have:=acG (Ss:=S1::r) (k:=k) h.2 qO (by simpa using hS);simpa using this
def agV:∀ {r:List Oper} {q:List y5} {vr:List V} {n i:Nat} {o:Oper} {v:V} {lo hi:Nat} {fx:Bool} {dp:List Nat},Qa l s vs Ss n r q vr->r[i]?=some o->q[i]?=some (lo,hi,fx,dp)->vr[i]?=some v ->
  s.fits o.dst=true/\Tm (λS S'=>Gf l o (Ei l vs s (n+i) o S) λv' t=>v'=v/\t=(match fx with|true=>S'|false=>S)) (Ss.drop lo) (hi+1-lo)
 |[],_,_,_,i,_,_,_,_,_,_,_,h,_,_=>by simp at h
 |_::_,[],_,_,i,_,_,_,_,_,_,_,_,h,_=>by simp at h
 |_::_,_::_,[],_,i,_,_,_,_,_,_,_,_,_,h=>by simp at h
 |o0::r,(zW,hi0,fx0,dp0)::q,v0::vr,n,i,o,v,lo,hi,fx,dp,hc,h1,h2,h3=>by
  cases i with
  |zero=>
   simp at h1 h2 h3;obtain⟨rfl,rfl,rfl,rfl⟩:=h2;subst h1 h3;have hc:=hc.1;split at hc
   ·rw[RN]at hc;exact⟨by assumption,hc⟩
   ·exact hc.elim
  |succ i=>
   rw[show n+(i+1)=n+1+i by omega];exact agV hc.2 (by simpa using h1) (by simpa using h2) (by simpa using h3)
def agp{M:List Nat}:∀ {q:List y5} {k j:Nat} {lo hi:Nat} {fx:Bool} {dp:List Nat},VD M eff q k=true->q[j]?=some (lo,hi,fx,dp)->loB M eff (k+j) lo=true/\hiB M eff (k+j) hi=true/\fx=eff.contains (k+j)
 |[],k,j,_,_,_,_,_,h=>by simp at h
 |(zW,hi0,fx0,dp0)::q,k,j,lo,hi,fx,dp,hs,h=>by
  simp only[VD,qf,beq_iff_eq]at hs;cases j with
  |zero=>
   simp at h;obtain⟨rfl,rfl,rfl,rfl⟩:=h;exact⟨hs.1.1.1.1,hs.1.1.1.2,hs.1.1.2⟩
  |succ j=>
   have:=agp (q:=q) (k:=k+1) (j:=j) hs.2 (by simpa using h);rw[show k+(j+1)=k+1+j by omega];exact this
def X6(tl:List (Nat×V))(j:Nat):∀(es:List Edge),dD (sG l vs es++tl) j=dD tl j\/∃ e∈es,Region.binds .any e=true/\∃ o v,l[e.on]?=some o/\o.dst=some j/\vs[e.on]?=some v/\dD (sG l vs es++tl) j=v
 |[]=>.inl rfl
 |e::es=>by
  have ih:=X6 tl j es;have skip:sG l vs (e::es)=sG l vs es->(dD (sG l vs (e::es)++tl) j=dD tl j\/∃ e'∈e::es,Region.binds .any e'=true/\∃ o v,l[e'.on]?=some o/\o.dst=some j/\vs[e'.on]?=some v/\dD (sG l vs (e::es)++tl) j=v):=by
   intro hh;rw[hh];obtain ih|⟨e',h1,h2⟩:=ih
   ·exact .inl ih
   ·exact .inr ⟨e',jA _ h1,h2⟩
  rcases hb:Region.binds .any e with _|_
  ·exact skip (by simp[sG,Ky,hb])
  rcases ho:l[e.on]? with _|o
  ·exact skip (by simp[sG,Ky,hb,ho])
  rcases hd:o.dst with _|d
  ·rcases hv:vs[e.on]? with _|v <;> exact skip (by simp[sG,Ky,hb,ho,hd,hv])
  rcases hv:vs[e.on]? with _|v
  ·exact skip (by simp[sG,Ky,hb,ho,hd,hv])
  have hh:sG l vs (e::es)=(d,v)::sG l vs es:=by
   simp[sG,Ky,hb,ho,hd,hv]
  rw[hh];show(bif Nat.beq d j then v else dD (sG l vs es++tl) j)=_\/∃ e'∈e::es,_/\∃ o v',_/\_/\_/\(bif Nat.beq d j then v else dD (sG l vs es++tl) j)=v';rcases hj:Nat.beq d j with _|_
  ·obtain ih|⟨e',h1,h2⟩:=ih
   ·exact .inl ih
   ·exact .inr ⟨e',jA _ h1,h2⟩
  ·exact .inr ⟨e,jL,hb,o,v,ho,by rw[hd,dJ hj],hv,rfl⟩
def QL{i:Nat}:∀ {es:List Edge},Ee i es=true->∃ e∈es,Region.binds .any e=true/\e.on=i
 |[],h=>by cases h
 |e::es,h=>by
  unfold Ee at h;rcases h1:Nat.beq e.on i with _|_
  ·rw[h1,bz]at h;obtain⟨e',q1,q2⟩:=QL h;exact⟨e',jA _ q1,q2⟩
  ·rw[h1,dw]at h;rcases h2:Region.binds .any e with _|_
   ·rw[h2,bz]at h;obtain⟨e',q1,q2⟩:=QL h;exact⟨e',jA _ q1,q2⟩
   ·exact⟨e,jL,h2,dJ h1⟩
def QK{i d:Nat}:∀ {l:List Oper},Ed i d l=false->∀ o∈l,o.dst=some d->Ee i o.after.toList=true
 |[],_,o,ho,_=>by cases ho
 |o0::r,h,o,ho,hd=>by
  unfold Ed at h;rcases hd0:o0.dst with _|e
  ·rw[hd0]at h;obtain rfl|ho:=List.mem_cons.1 ho
   ·rw[hd0]at hd;cases hd
   ·exact QK h o ho hd
  ·rw[hd0]at h;have h:(bif Nat.beq e d then(bif Ee i o0.after.toList then Ed i d r else true) else Ed i d r)=false:=h;rcases hb:Nat.beq e d with _|_
   ·rw[hb,bz]at h;obtain rfl|ho:=List.mem_cons.1 ho
    ·rw[hd0]at hd;injection hd with hd;subst hd;simp at hb
    ·exact QK h o ho hd
   ·rw[hb,dw]at h;rcases hw:Ee i o0.after.toList with _|_
    ·rw[hw]at h;cases h
    ·rw[hw,dw]at h;obtain rfl|ho:=List.mem_cons.1 ho
     ·exact hw
     ·exact QK h o ho hd
def H9(l:List Oper)(sl:List (Nat×V))(i j:Nat):∀(ops:List Operand),dD (yE i l sl ops) j = .top\/((∀ o∈l,o.dst=some j->Ee i o.after.toList=true)/\dD (yE i l sl ops) j=dD sl j)
 |[]=>.inl rfl
 |.tmp d::r=>by
  unfold yE;rcases hw:Ed i d l with _|_
  ·show(bif Nat.beq d j then dD sl d else dD (yE i l sl r) j)=_\/(_/\(bif Nat.beq d j then dD sl d else dD (yE i l sl r) j)=_);rcases hj:Nat.beq d j with _|_
   ·exact H9 l sl i j r
   ·obtain rfl:=dJ hj;exact .inr ⟨QK hw,rfl⟩
  ·exact H9 l sl i j r
 |.const _::r=>H9 l sl i j r
 |.global _::r=>H9 l sl i j r
 |.func _::r=>H9 l sl i j r
def X5(tl:List (Nat×V))(j:Nat):∀(l:List Oper) (vs:List V),l.length=vs.length->((∀ o∈l,o.dst≠some j)/\dD (rf l vs++tl) j=dD tl j)\/∃(i:Nat) (o:Oper) (v:V),l[i]?=some o/\o.dst=some j/\vs[i]?=some v/\dD (rf l vs++tl) j=v
 |[],vs,_=>.inl ⟨(λo h=>by cases h),by unfold rf;rfl⟩
 |o::r,[],h=>by simp at h
 |o::r,v::q,h=>by
  have ih:=X5 tl j r q (by simpa using h);unfold rf;rcases hd:o.dst with _|d
  ·obtain⟨h1,h2⟩|⟨i,o',v',h1,h2⟩:=ih
   ·exact .inl ⟨λo' ho'=>by
     obtain rfl|ho':=List.mem_cons.1 ho'
     ·rw[hd];intro e;cases e
     ·exact h1 o' ho',h2⟩
   ·exact .inr ⟨i+1,o',v',by simpa using h1,h2.1,by simpa using h2.2.1,h2.2.2⟩
  ·show(_/\(bif Nat.beq d j then v else dD (rf r q++tl) j)=_)\/∃ i o' v',_/\_/\_/\(bif Nat.beq d j then v else dD (rf r q++tl) j)=v';rcases hj:Nat.beq d j with _|_
   ·obtain⟨h1,h2⟩|⟨i,o',v',h1,h2⟩:=ih
    ·exact .inl ⟨λo' ho'=>by
      obtain rfl|ho':=List.mem_cons.1 ho'
      ·rw[hd];intro e;injection e with e;subst e;simp at hj
      ·exact h1 o' ho',h2⟩
    ·exact .inr ⟨i+1,o',v',by simpa using h1,h2.1,by simpa using h2.2.1,h2.2.2⟩
   ·exact .inr ⟨0,o,v,rfl,by rw[hd,dJ hj],rfl,rfl⟩
structure aik (X:Cx t0) (s:AS) (l:List Oper) (eff:List Nat) (vs:List V) (Ss:List ST) (listed:Array Bool) (k:Nat) (a:Act) (w:World):Prop where
 size:listed.size=l.length
 le:k<=eff.length
 at':∀ j e,eff[j]?=some e->(listed.getD e true=true↔j<k)
 closed:Closed l (λk=>listed.getD k true=true)
 mod:∃ G S,Ss[k]?=some S/\bZ G S w/\a.tmps.size=s.nt/\a.defers=X.ds/\Stp X.G X.t.get X.w G S.get w /\
  (∀(i:Nat) (o:Oper) (d:Nat) (v:V),l[i]?=some o->o.dst=some d->listed.getD i true=true->vs[i]?=some v->aY G S.get w v (a.tmps.getD d undef)) /\
  ∀ j,(∀ k o,l[k]?=some o->o.dst=some j->listed.getD k true=true->False)->aY G S.get w (dD s.sl j) (a.tmps.getD j undef)
end
end
section
def Y4:∀ {l:List Oper} {i j:Nat} {o o':Oper} {d:Nat},KY l=true->l[i]?=some o->l[j]?=some o'->i<j->o.dst=some d->o'.dst≠some d
 |[],_,_,_,_,_,_,h,_,_,_=>by simp at h
 |o0::r,i,j,o,o',d,hb,h1,h2,hij,hd=>by
  simp only[KY,qf,y7]at hb;cases j with
  |zero=>omega
  |succ j=>
   have h2:r[j]?=some o':=by simpa using h2
   cases i with
   |zero=>
    obtain rfl:o0=o:=by simpa using h1
    have:=hb.1 o' (vK h2);intro e;rw[hd,e]at this;simp at this
   |succ i=>exact Y4 hb.2 (by simpa using h1) h2 qO hd
def aet{l:List Oper}{i j:Nat}{o o':Oper}{d:Nat}(hb:KY l=true)(h1:l[i]?=some o)(h2:l[j]?=some o')(hij:i≠j)(hd:o.dst=some d):o'.dst≠some d:=by
 obtain h|h:=l7 i j
 ·exact Y4 hb h1 h2 h hd
 ·intro e;exact Y4 hb h2 h1 qO e hd
def RD(a:Act)(x:Option Tmp)(v:Value)(j:Nat)(h:x≠some j):(a.put x v).tmps.getD j undef=a.tmps.getD j undef:=by
 cases x with
 |none=>rfl
 |some d=>
  simp only[Act.put];rw[uJ,Array.getElem?_setIfInBounds,if_neg (λe=>h (by rw[e])),<-uJ]
def adN(a:Act)(d:Nat)(v:Value)(h:d<a.tmps.size):(a.put (some d) v).tmps.getD d undef=v:=by
 simp only[Act.put];rw[uJ,Array.getElem?_setIfInBounds,if_pos rfl,if_pos h];rfl
section
variable {t0:ST} {X:Cx t0} {G:Gh} {w w':World} {s:AS} {a:Act} {l:List Oper} {vs:List V} {Ss:List ST} {sigs:List y5} {eff:List Nat} {Q:Exit->Act->World->Prop}
def XL{o:Nat->aK}{n:Nat}:Stp G o w G o { w with drawn:=n }:=
 ⟨rfl,rfl,rfl,bF _,λ_ _ _=>rfl,λ_ h _=>h,λ_ h=>.inl h,λ_ _ h=>.inl h,λ_ _ h=>h,λ_ A c h=>⟨A,c,h,λ_ _ m g ho=>⟨m,g,ho,bF _,λ_=>⟨rfl,rfl⟩⟩⟩⟩
def acm{t:ST}{n:Nat}(h:bZ G t w):bZ G t { w with drawn:=n }:=by
 have hx:Stp G t.get w G t.get { w with drawn:=n }:=XL;refine⟨⟨λi m g e=>?_,λi E z m g e=>?_,λi es e=>?_,h.axy.xP,h.axy.wF,h.axy.sep⟩,h.jZ⟩
 ·obtain⟨b,cs,ty,p1,p2,p3,p4⟩:=h.axy.Wp _ _ _ e;exact⟨b,cs,ty,p1,p2,p3,λk x hk=>⟨(p4 k x hk).1,(p4 k x hk).2.dX hx h.axy⟩⟩
 ·obtain⟨p1,p2,p3,A,c,p4,p5⟩:=h.axy.row _ _ _ _ _ e;refine⟨p1,p2,p3,A,c,p4,?_⟩;obtain p5|⟨p5,b,cs,p6,p7,p8,p9,p10,p11⟩:=p5
  ·exact .inl p5
  ·refine .inr ⟨p5,b,cs,p6,p7,p8,p9,p10,λj hj k hk=>?_⟩;obtain⟨x,q1,q2,q3⟩:=p11 j hj k hk;exact⟨x,q1,q2,q3.dX hx h.axy⟩
 ·obtain⟨b,jF,cl,p1,p2,p3⟩:=h.axy.map _ _ e;exact⟨b,jF,cl,p1,p2,p3.dX hx h.axy⟩
def aoE(hok:Ql l eff sigs=true)(hvs:vs.length=l.length)(hSs:Ss.length=eff.length+1)(aa5:Qa l s vs Ss 0 l sigs vs)(hend:∀ a w,Mod X ⟨s.nt,rf l vs++s.sl,Ss.getD eff.length s.s⟩ a w->Q .normal a w) :
  ∀(fuel:Nat) (listed:Array Bool) (k:Nat) (a:Act) (w:World),Bl listed=fuel->aik X s l eff vs Ss listed k a w->wpAny prog .any l.toArray Q fuel listed a w:=by
 have hok2:=hok;simp only[Ql,qf,beq_iff_eq,y7,gq]at hok2;obtain⟨⟨⟨⟨⟨hd,hbk⟩,hlen⟩,agK⟩,awS⟩,hlt⟩:=hok2;have fin:∀ listed k a w,aik X s l eff vs Ss listed k a w->(∀ i,i<l.length->listed.getD i true=true)->Q .normal a w:=by
  intro listed k a w hW hall;have hk:k=eff.length:=by
   obtain h|h:=l7 k eff.length
   ·have he:=hlt eff[k] (List.getElem_mem h);have:=(hW.at' k eff[k] (by simp[h])).1 (hall _ he);omega
   ·have:=hW.le;omega
  subst hk;obtain⟨G,S,hS,hg,h1,h2,hx,h3,h4⟩:=hW.mod;have e:Ss.getD eff.length s.s=S:=by rw[bn,hS];rfl
  refine hend a w ⟨G,?_,⟨⟨h1,λj=>?_⟩,h2⟩,?_⟩
  ·rw[e];exact hg
  ·show aY G (Ss.getD eff.length s.s).get w _ _;rw[e];obtain⟨q1,q2⟩|⟨i,o,v,q1,q2,q3,q4⟩:=X5 s.sl j l vs hvs.symm
   ·rw[show dD (AS.mk s.nt (rf l vs++s.sl) (Ss.getD eff.length s.s)).sl j=dD s.sl j from q2];exact h4 j (λk o hk hd _=>q1 o (vK hk) hd)
   ·rw[show dD (AS.mk s.nt (rf l vs++s.sl) (Ss.getD eff.length s.s)).sl j=v from q4];exact h3 i o j v q1 q2 (hall i (List.getElem?_eq_some_iff.1 q1).1) q3
  ·show Stp X.G X.t.get X.w G (Ss.getD eff.length s.s).get w;rw[e];exact hx
 intro fuel;induction fuel with
 |zero=>
  intro listed k a w hu hW;refine⟨?_,fin listed k a w hW λi _=>RV hu i⟩;refine List.eq_nil_iff_forall_not_mem.2 λj hj=>?_
  have:=(mem_ready.1 hj).1;rw[RV hu j]at this;cases this
 |succ fuel ih=>
  intro listed k a w hu hW;have hs:=hW.size;have Lt:=Nj hW.closed l [] [] rfl rfl (by intro k e h;simp[List.getD]at h);constructor
  ·intro hr;have hall:∀ m k,k<m->k<l.length->listed.getD k true=true:=by
    intro m;induction m with
    |zero=>intro k h;omega
    |succ m ih=>
     intro k hkm hkl;by_cases hlt:k<m
     ·exact ih k hlt hkl
     ·obtain rfl:k=m:=qO;cases hg:listed.getD k true with
      |true=>rfl
      |false=>
       exfalso;have hk':l[k]?=some l[k]:=dV hkl;have:k∈Region.ready .any l.toArray listed:=mem_ready.2 ⟨hg,l[k],by simp,λe he hbd=>by
        have hlt:=Ju hbk hk' e he hbd;have:=ih e.on qO qO;obtain h'|h':=l7 e.on listed.size
        ·simpa [h'] using this
        ·omega⟩
       rw[hr]at this;cases this
   exact fin listed k a w hW λi hi=>hall (i+1) i qO hi
  ·intro i hi;obtain⟨hun,o,ho,hafter⟩:=mem_ready.1 hi;have ho':l[i]?=some o:=by simpa using ho
   have hil:i<l.length:=(List.getElem?_eq_some_iff.1 ho').1;have hdl:∀ e∈o.after.toList,Region.binds .any e=true->listed.getD e.on true=true:=by
    intro e he hbd;have h1:=hafter e (by simpa using he) hbd;have h2:=Ju hbk ho' e (by simpa using he) hbd;obtain h'|h':=l7 e.on listed.size
    ·simpa [h'] using h1
    ·omega
   have U3:∀ e,((wu l []).getD i 0).testBit e=true->e=i\/listed.getD e true=true:=by
    have hc2:Closed l (λk=>k=i\/listed.getD k true=true):=by
     intro k o2 hk hL e he hbd;obtain rfl|hL:=hL
     ·rw[hk]at ho';injection ho' with ho'
      subst ho';exact .inr (hdl e he hbd)
     ·exact .inr (hW.closed k o2 hk hL e he hbd)
    exact λe he=>Nj hc2 l [] [] rfl rfl (by intro k e h;simp[List.getD]at h) i e he (.inl rfl)
   have hsig:∃ lo hi fx dp,sigs[i]?=some (lo,hi,fx,dp):=by
    rcases hq:sigs[i]? with _|⟨lo,hi,fx,dp⟩
    ·rw[List.getElem?_eq_none_iff]at hq;omega
    ·exact⟨lo,hi,fx,dp,rfl⟩
   obtain⟨lo,hi',fx,dp,hsig⟩:=hsig;obtain⟨hlo,hhi,hfx⟩:=agp awS hsig;rw[jq]at hlo hhi hfx;have hHi:k<=hi':=by
    unfold hiB at hhi;split at hhi
    ·rename_i e he
     refine Nat.le_of_not_lt λhlt2=>?_
     have hl:=(hW.at' _ e he).2 hlt2;rw[Bool.or_eq_true]at hhi;obtain h|h:=hhi
     ·have:=Lt e i h hl;simp only[hun]at this;cases this
     ·have:e=i:=by simpa using h
      rw[this,hun]at hl;cases hl
    ·rename_i he
     have:=hW.le;have h3:eff.length<=hi':=by simpa using he
     omega
   have hLo:lo<=k:=by
    unfold loB at hlo;split at hlo
    ·omega
    ·rename_i j
     split at hlo
     ·rename_i e he
      obtain h|h:=U3 e hlo
      ·exact ai (Zc hbk l [] [] rfl rfl (by intro k e h;simp[List.getD]at h) i e hlo) qO
      ·have:=(hW.at' j e he).1 h;omega
     ·cases hlo
   have hv:vs[i]?=some vs[i]:=dV qO;obtain⟨iY,atl⟩:=agV aa5 ho' hsig hv;obtain⟨G,S,hS,hg,hnt,hdf,hx,h3,h4⟩:=hW.mod;have hS2:(Ss.drop lo)[k-lo]?=some S:=by rw[rP,show lo+(k-lo)=k by omega];exact hS
   have hst:=acG atl (k:=k-lo) qO hS2;have ZG:oZ G (Ei l vs s (0+i) o S) a w:=⟨hnt,λj=>by
    show aY G S.get w (dD (sG l vs o.after.toList++yE (0+i) l s.sl o.op.operands.toList) j) _;obtain h|⟨e,he,hb,o',v,q1,q2,q3,q4⟩:=X6 (yE (0+i) l s.sl o.op.operands.toList) j o.after.toList
    ·rw[h];obtain h|⟨q1,q2⟩:=H9 l s.sl (0+i) j o.op.operands.toList
     ·rw[h];trivial
     ·rw[q2];refine h4 j λk o2 hk jo hlk=>?_
      obtain⟨e,he,hb,hon⟩:=QL (q1 o2 (vK hk) jo);have:=hW.closed k o2 hk hlk e (by simpa using he) hb;rw[hon,jq,hun]at this;cases this
    ·rw[q4];exact h3 e.on o' j v q1 q2 (hdl e he hb) q3⟩
   refine abI l.toArray ho hg ZG hst λu V t' G' w' hK lN hst' Jk=>?_
   obtain⟨rfl,ht'⟩:=hK;have hgs:∀ k,(listed.setIfInBounds i true).getD k true=true↔(k=i\/listed.getD k true=true):=by
    intro k;by_cases hki:k=i
    ·subst hki;rw[uJ,Array.getElem?_setIfInBounds_self];simp only[true_or,iff_true];split <;> simp
    ·rw[getD_set_ne _ (Ne.symm hki)];simp[hki]
   have hcl:Closed l (λk=>(listed.setIfInBounds i true).getD k true=true):=by
    intro k o2 hk hL e he hbd;rw[hgs]at hL;refine(hgs _).2 (.inr ?_);obtain rfl|hL:=hL
    ·rw[hk]at ho';injection ho' with ho'
     subst ho';exact hdl e he hbd
    ·exact hW.closed k o2 hk hL e he hbd
   have hu2:Bl (listed.setIfInBounds i true)=fuel:=by have:=ae2 listed i hun;omega
   have hmod:∀ k':Nat,Ss[k']?=some t'->∃ G S,Ss[k']?=some S/\bZ G S w'/\(a.put o.dst u).tmps.size=s.nt/\(a.put o.dst u).defers=X.ds/\Stp X.G X.t.get X.w G S.get w' /\
     (∀(j:Nat) (o':Oper) (d:Nat) (v:V),l[j]?=some o'->o'.dst=some d->(listed.setIfInBounds i true).getD j true=true->vs[j]?=some v->aY G S.get w' v ((a.put o.dst u).tmps.getD d undef)) /\
     ∀ j,(∀ k o,l[k]?=some o->o.dst=some j->(listed.setIfInBounds i true).getD k true=true->False)->aY G S.get w' (dD s.sl j) ((a.put o.dst u).tmps.getD j undef):=by
    intro k' hk';refine⟨G',t',hk',lN,?_,?_,hx.trans hst',?_,?_⟩
    ·cases o.dst <;> simp[Act.put,hnt]
    ·cases o.dst <;> simp[Act.put,hdf]
    ·intro j o' d v q1 q2 q3 q4;by_cases hji:j=i
     ·subst hji;rw[q1]at ho';injection ho' with ho'
      subst ho';rw[hv]at q4;injection q4 with q4
      rw[q2,adN a d u (by rw[hnt];rw[q2]at iY;exact mX iY),<-q4];exact Jk
     ·rw[RD a o.dst u d (aet hd q1 ho' hji q2)];exact(h3 j o' d v q1 q2 (((hgs j).1 q3).resolve_left hji) q4).dX hst' hg.axy
    ·intro j q;rw[RD a o.dst u j (λe=>q i o ho' e ((hgs i).2 (.inl rfl)))];exact(h4 j λk o2 hk jo pK=>q k o2 hk jo ((hgs k).2 (.inr pK))).dX hst' hg.axy
   cases hf:fx with
   |false=>
    subst hf;have ht':t'=S:=ht';subst ht';have hni:i ∉ eff:=by
     intro hmem;have:eff.contains i=true:=by simpa using hmem
     rw[this]at hfx;cases hfx
    refine ih _ k _ _ hu2 ⟨by simpa using hs,hW.le,?_,hcl,hmod k hS⟩;intro j e he;rw[hgs,<-hW.at' j e he];have hne:e≠i:=λh=>hni (h▸vK he)
    simp[hne]
   |true=>
    subst hf;have hmem:i∈eff:=by simpa using hfx.symm
    obtain⟨j,hj,hij⟩:=List.getElem_of_mem hmem;have hj':eff[j]?=some i:=by rw[dV hj,hij]
    have hjs:¬j<k:=λh=>by
     have:=(hW.at' j i hj').2 h;rw[hun]at this;cases this
    have awX:j=k:=by
     obtain h|h:=l7 k j
     ·exfalso;have h1:eff[k]?=some (eff[k]'qO):=dV qO;have h2:=Wn agK h h1 hj';have h3:=(U3 _ h2.1).resolve_left (by have:=h2.2;omega);have:=(hW.at' k _ h1).1 h3;omega
     ·omega
    subst awX;have ht':t'=(Ss.drop lo).getD (j-lo+1) S:=ht';have hn:Ss[j+1]?=some Ss[j+1]:=dV qO;have ht2:Ss[j+1]?=some t':=by
     rw[hn,ht',bn,rP,show lo+(j-lo+1)=j+1 by omega,hn];rfl
    refine ih _ (j+1) _ _ hu2 ⟨by simpa using hs,by omega,?_,hcl,hmod (j+1) ht2⟩;intro j2 e he;rw[hgs,hW.at' j2 e he];constructor
    ·rintro(h|h)
     ·obtain h4|h4|h4:=Nat.lt_trichotomy j2 j
      ·omega
      ·omega
      ·have:=(Wn agK h4 hj' he).2;omega
     ·omega
    ·intro h;obtain h4|h4:=l7 j2 j
     ·exact .inr h4
     ·left;obtain rfl:j2=j:=qO;rw[hj']at he;injection he with he
      exact he.symm
def aa8(s:AS)(l:List (Nat×V))(t:ST)(K:AS->Prop):Prop:=match s with
 |⟨nt,sl,_⟩=>OI (l++sl) λsl=>Io t λt=>K ⟨nt,sl,t⟩
def arw(s:AS)(l:List (Nat×V))(t:ST)(K:AS->Prop):aa8 s l t K=K ⟨s.nt,l++s.sl,t⟩:=by
 obtain⟨nt,sl,t'⟩:=s;exact(RN (l++sl) λsl=>Io t λt=>K ⟨nt,sl,t⟩).trans (Rj t λt=>K ⟨nt,l++sl,t⟩)
def ZX{id:Nat}{ops:Array Oper}{Q:Exit->AS->Prop}(eff:List Nat)(sigs:List y5)(hm:prog.follows .mixedOrders=true)(hok:Ql ops.toList eff sigs=true)
  (h:Gq ops.toList s ops.toList sigs [] [] s.s λvs Ss=>aap ops.toList eff vs Ss (ag (Qa ops.toList s vs Ss 0 ops.toList sigs vs/\Ss.head?=some s.s) (aa8 s (rf ops.toList vs) (Ss.getD eff.length s.s) (Q .normal)))):T X (.region id ops true) Q s:=T.mk λa w hmod=>by
 obtain⟨vs,Ss,h⟩:=Xy _ _ _ _ _ _ h;unfold aap at h;split at h;rotate_left
 ·exact h.elim
 rename_i e1 e2
 obtain⟨⟨aa5,hhd⟩,hq⟩:=h.h;rw[arw]at hq;refine wp_region_any hm ?_;have e:ops=ops.toList.toArray:=by simp
 have hlen:∀ e∈eff,e<ops.toList.length:=by
  simp only[Ql,qf,y7,gq]at hok;exact hok.2
 have key:=aoE (X:=X) (Q:=λe a' w'=>∃ s',Q e s'/\Mod X s' a' w') hok (dJ e1) (dJ e2) aa5 (λa w hm=>⟨_,hq,hm⟩) ops.toList.length (Array.replicate ops.toList.length false) 0 a { w with drawn:=w.drawn+1 } (ae3 _) ⟨by simp,cZ _,λj e he=>by
   have:=hlen e (vK he);have h2:e<ops.size:=by simpa using this
   simp[h2],λk o hk hl=>by
   have:=(List.getElem?_eq_some_iff.1 hk).1;have h2:k<ops.size:=by simpa using this
   simp[h2]at hl,?_⟩
 ·rw[<-e]at key;simpa using key
 ·obtain⟨G,hg,hs,hx⟩:=hmod;have hh:Ss[0]?=some s.s:=by rw[<-List.head?_eq_getElem?];exact hhd
  have hd:Stp G s.s.get w G s.s.get { w with drawn:=w.drawn+1 }:=XL;refine⟨G,s.s,hh,acm hg,hs.nt,hs.df,hx.trans hd,λi o d v h1 h2 h3 h4=>?_,λj _=>(hs.sl j).dX hd hg.axy⟩;have:=(List.getElem?_eq_some_iff.1 h1).1;have h2:i<ops.size:=by simpa using this
  simp[h2]at h3
end
end
section
def jf(i n z:Nat)(h:Nat->Nat->D):V->V
 |.row j m=>bif Nat.beq j i&&Nat.beq m n then .d (.sl n z h) else(bif Nat.beq j i then .top else .row j m)
 |.vw j m lo k=>bif Nat.beq j i&&(Nat.beq m n&&Nat.ble (lo+k) n) then .d (.sl k z (λq=>h (lo+q))) else(bif Nat.beq j i then .top else .vw j m lo k)
 |.rp j m q c=>bif Nat.beq j i then .top else .rp j m q c
 |.agg m g=>.agg m (λk=>jf i n z h (g k))
 |.gQ m g=>.gQ m (λk=>jf i n z h (g k))
 |.fn f nf m g=>.fn f nf m (λk=>jf i n z h (g k))
 |.kQ t w v=>.kQ t w (jf i n z h v)
 |v=>v
def P7(i n z:Nat)(h:Nat->Nat->D):aK->aK
 |.dead=>.dead
 |.Wp m g=>.Wp m (λk=>jf i n z h (g k))
 |.row E s m g=>.row E s m (λj k=>jf i n z h (g j k))
 |.map es=>.map (es.map λp=>(p.1,jf i n z h p.2))
def wW(i n z:Nat)(h:Nat->Nat->D)(t:ST):ST:=⟨t.st.map (λp=>(p.1,bif Nat.beq p.1 i then .dead else P7 i n z h p.2)),t.nx⟩
def Lu(i n z:Nat)(h:Nat->Nat->D)(s:AS):AS:=⟨s.nt,s.sl.map (λp=>(p.1,jf i n z h p.2)),wW i n z h s.s⟩
section
variable {i n z:Nat} {h:Nat->Nat->D}
def Yd:∀(l:List (Nat×V)) (j:Nat),dD (l.map λp=>(p.1,jf i n z h p.2)) j=jf i n z h (dD l j)
 |[],j=>rfl
 |(k,v)::r,j=>by
  show(bif Nat.beq k j then _ else dD _ j)=jf i n z h (bif Nat.beq k j then v else dD r j);cases Nat.beq k j
  ·exact Yd r j
  ·rfl
def Oc(t:ST)(j:Nat):(wW i n z h t).get j=bif Nat.beq j i then .dead else P7 i n z h (t.get j):=by
 show axA (t.st.map _) j=_;show _=bif Nat.beq j i then aK.dead else P7 i n z h (axA t.st j)
 induction t.st with
 |nil=>show aK.dead=_;cases Nat.beq j i <;> rfl
 |cons p r ih=>
  obtain⟨k,v⟩:=p;show(bif Nat.beq k j then _ else axA _ j)=bif Nat.beq j i then aK.dead else P7 i n z h (bif Nat.beq k j then v else axA r j)
  rcases hk:Nat.beq k j with _|_
  ·exact ih
  ·have:=dJ hk;subst this;rfl
def Y2{t:ST}{j E s m:Nat}{g:Nat->Nat->V}(e:(wW i n z h t).get j = .row E s m g):j≠i/\∃ g0,t.get j = .row E s m g0/\g=λa b=>jf i n z h (g0 a b):=by
 rw[Oc]at e;rcases hj:Nat.beq j i with _|_
 ·rw[hj,bz]at e;refine⟨λe2=>by subst e2;simp at hj,?_⟩;rcases ho:t.get j with _|_|⟨E',s',m',g'⟩|_
  all_goals rw[ho]at e
  all_goals first|(cases e;done)|skip
  injection e with a b c d
  subst a b c d;exact⟨g',rfl,rfl⟩
 ·rw[hj]at e;cases e
end
structure iI {t0:ST} (X:Cx t0) (t:ST) (i E z n:Nat) (g:Nat->Nat->V) (h:Nat->Nat->D):Prop where
 lo:t0.nx<=i
 ob:t.get i = .row E z n g
 cells:∀ j,j<n->∀ k,k<z->∀(G:Gh) (o:Nat->aK) (w:World) (u:Value),aY G o w (g j k) u->jK G.F w (h j k) u
def Gh.eG(G:Gh)(o:Nat->aK)(i:Nat):Gh:=⟨λb=>G.F b\/dB G o i b,G.ρ⟩
section
variable {t0:ST} {X:Cx t0} {G:Gh} {w:World} {t:ST} {i E z n:Nat} {g:Nat->Nat->V} {h:Nat->Nat->D}
def aaq(hg:Good G t.get w){d:D}{u:Value}(hd:jK G.F w d u):jK (G.eG t.get i).F w d u:=hd.mono (bF _) (λ_ _ _=>rfl) (λb hb _=>.inl hb)
def agO(hf:iI X t i E z n g h)(hg:Good G t.get w){A:Option Addr}{c:Nat}(hρ:G.ρ i=some (.row A c)):∀ lo m,lo+m<=n->∀ B c',(m<=c'/\c'<=maxLen/\(B=none->c'=0)/\(0<m->B=A.map (·.add (lo*z))))->jK (G.eG t.get i).F w (.sl m z (λq=>h (lo+q))) (.slice B m c'):=by
 intro lo m hm B c' ⟨h1,h2,h3,h4⟩;obtain⟨_,_,hz,A',cc,h5,h6⟩:=hg.row _ _ _ _ _ hf.ob;rw[hρ]at h5;injection h5 with h5
 injection h5 with h5 h7
 subst h5 h7;refine⟨B,c',rfl,h1,h2,h3,λj hj k hk=>?_⟩;obtain⟨_,h6⟩|⟨hc,b,cs,rfl,p1,p2,p3,p4,p5⟩:=h6
 ·omega
 ·obtain⟨x,q1,q2,q3⟩:=p5 (lo+j) qO k hk;have hw:dB G t.get i b:=by unfold dB;rw[hf.ob];exact⟨_,c,hρ,hc,0,rfl⟩
  refine⟨b,lo*z,x,?_,.inr hw,(Array.getElem?_eq_some_iff.1 p1).1,?_,q2,aaq hg (hf.cells _ qO k hk _ _ _ _ q3)⟩
  ·rw[h4 qO];simp[Addr.add];exact λe=>e.symm
  ·simp only[World.cell?,p1];rw[show lo*z+(j*z+k)=(lo+j)*z+k by rw[Nat.add_mul];omega];exact q1
def IM(hf:iI X t i E z n g h)(hg:Good G t.get w){v:V}:∀ {u:Value},aY G t.get w v u->aY (G.eG t.get i) (wW i n z h t).get w (jf i n z h v) u:=by
 have hrow:∀ j E' s m g',(wW i n z h t).get j = .row E' s m g'->∃ g0,t.get j = .row E' s m g0:=λj E' s m g' e=>by
  obtain⟨_,g0,e1,_⟩:=Y2 e;exact⟨g0,e1⟩
 induction v with
 |top=>exact λ_=>trivial
 |d x=>intro u hu;exact aaq hg hu
 |dC=>exact λhu=>hu
 |dp s q=>
  rintro u ⟨b,off,rfl,h1,h2⟩;exact⟨b,off,rfl,λhs=>⟨.inl (h1 hs).1,(h1 hs).2⟩,λk hk=>by obtain⟨x,p1,p2,p3⟩:=h2 k hk;exact⟨x,p1,p2,aaq hg p3⟩⟩
 |ptr j off=>exact λhu=>hu
 |rp j m q c=>
  intro u hu;show aY _ _ _ (bif Nat.beq j i then .top else .rp j m q c) u;rcases hj:Nat.beq j i with _|_
  ·obtain⟨A,cc,h1,h2,h3⟩:=hu;refine⟨A,cc,h1,h2,λE' s m' g' e=>?_⟩;obtain⟨g0,e1⟩:=hrow _ _ _ _ _ e;exact h3 E' s m' g0 e1
  ·trivial
 |row j m=>
  intro u hu;obtain⟨A,c,h1,h2,h3⟩:=hu;show aY _ _ _ (bif Nat.beq j i&&Nat.beq m n then .d (.sl n z h) else(bif Nat.beq j i then .top else .row j m)) u;rcases hj:Nat.beq j i with _|_
  ·refine⟨A,c,h1,h2,λE' s m' g' e=>?_⟩;obtain⟨g0,e1⟩:=hrow _ _ _ _ _ e;exact h3 E' s m' g0 e1
  ·rcases hm:Nat.beq m n with _|_
   ·trivial
   ·have:=dJ hj;subst this;have:=dJ hm;subst this;have hu2:=(h3 _ _ _ _ hf.ob).2 rfl;subst hu2;have hc:m<=c/\c<=maxLen/\(A=none->c=0):=by
     obtain⟨_,_,_,A',cc,q1,q2⟩:=hg.row _ _ _ _ _ hf.ob;rw[h1]at q1;injection q1 with q1
     injection q1 with q1 q3
     subst q1 q3;obtain⟨q2,q3⟩|⟨q2,b,cs,rfl,p1,p2,p3,p4,p5⟩:=q2
     ·subst q2 q3;exact⟨bF _,cZ _,λ_=>rfl⟩
     ·exact⟨p3,p4,λe=>by cases e⟩
    have:=agO hf hg h1 0 m qO A c ⟨hc.1,hc.2.1,hc.2.2,λ_=>by cases A <;> simp[Addr.add]⟩;simp only[jq]at this;exact this
 |vw j m lo k=>
  intro u hu;obtain⟨A,c,h1,h2,h3⟩:=hu;show aY _ _ _ (bif Nat.beq j i&&(Nat.beq m n&&Nat.ble (lo+k) n) then .d (.sl k z (λq=>h (lo+q))) else(bif Nat.beq j i then .top else .vw j m lo k)) u;rcases hj:Nat.beq j i with _|_
  ·refine⟨A,c,h1,h2,λE' s m' g' e=>?_⟩;obtain⟨g0,e1⟩:=hrow _ _ _ _ _ e;exact h3 E' s m' g0 e1
  ·rcases hm:Nat.beq m n&&Nat.ble (lo+k) n with _|_
   ·trivial
   ·obtain⟨hm1,hm2⟩:=kZ hm;have:=dJ hj;subst this;have:=dJ hm1;subst this;obtain⟨B,c',rfl,q1,q2,q3,q4,_⟩:=(h3 _ _ _ _ hf.ob).2 rfl;exact agO hf hg h1 lo k (uf hm2) B c' ⟨q1,q2,q3,q4⟩
 |agg m q ih=>rintro u ⟨cs,rfl,hn,hc⟩;exact⟨cs,rfl,hn,λk x hx=>⟨(hc k x hx).1,ih k (hc k x hx).2⟩⟩
 |gQ m q ih=>rintro u ⟨cs,rfl,hn,hc⟩;exact⟨cs,rfl,hn,λk x hx=>ih k (hc k x hx)⟩
 |fn f nf m q ih=>rintro u ⟨fs,cs,rfl,hn,hm,hc⟩;exact⟨fs,cs,rfl,hn,hm,λk x hx=>ih k (hc k x hx)⟩
 |mp j=>exact λhu=>hu
 |kQ b b' v ih=>intro u hu;exact⟨λe=>ih (hu.1 e),hu.2⟩
def SN{j b:Nat}(ho:dB (G.eG t.get i) (wW i n z h t).get j b):j≠i/\dB G t.get j b:=by
 unfold dB at ho ⊢;rw[Oc]at ho;rcases hj:Nat.beq j i with _|_
 ·rw[hj,bz]at ho;refine⟨λe=>by subst e;simp at hj,?_⟩;rcases e:t.get j with _|_|_|_
  all_goals(rw[e]at ho;exact ho)
 ·rw[hj]at ho;exact ho.elim
def Ye(hf:iI X t i E z n g h)(hg:bZ G t w):bZ (G.eG t.get i) (wW i n z h t) w:=by
 refine⟨⟨λj m q e=>?_,λj E' s m q e=>?_,λj es e=>?_,λj b ho hF=>?_,λb hF=>?_,λj k b h1 h2=>?_⟩,λj hj=>⟨(hg.jZ j hj).1,?_⟩⟩
 ·rw[Oc]at e;rcases hj:Nat.beq j i with _|_
  ·rw[hj,bz]at e;rcases ho:t.get j with _|⟨m',g'⟩|_|_
   all_goals rw[ho]at e
   all_goals first|(cases e;done)|skip
   injection e with a b
   subst a b;obtain⟨b,cs,ty,p1,p2,p3,p4⟩:=hg.axy.Wp _ _ _ ho;exact⟨b,cs,ty,p1,p2,p3,λk x hk=>⟨(p4 k x hk).1,IM hf hg.axy (p4 k x hk).2⟩⟩
  ·rw[hj]at e;cases e
 ·obtain⟨_,g0,e1,rfl⟩:=Y2 e;obtain⟨p1,p2,p3,A,c,p4,p5⟩:=hg.axy.row _ _ _ _ _ e1;refine⟨p1,p2,p3,A,c,p4,?_⟩;obtain p5|⟨p5,b,cs,p6,p7,p8,p9,p10,p11⟩:=p5
  ·exact .inl p5
  ·refine .inr ⟨p5,b,cs,p6,p7,p8,p9,p10,λj hj k hk=>?_⟩;obtain⟨x,q1,q2,q3⟩:=p11 j hj k hk;exact⟨x,q1,q2,IM hf hg.axy q3⟩
 ·rw[Oc]at e;rcases hj:Nat.beq j i with _|_
  ·rw[hj,bz]at e;rcases ho:t.get j with _|_|_|es'
   all_goals rw[ho]at e
   all_goals first|(cases e;done)|skip
   injection e with a
   subst a;obtain⟨b,jF,cl,p1,p2,p3⟩:=hg.axy.map _ _ ho;refine⟨b,jF,cl,p1,p2,?_⟩;exact p3.map (jf i n z h) λv u hv=>IM hf hg.axy hv
  ·rw[hj]at e;cases e
 ·obtain⟨hne,ho⟩:=SN ho;obtain hF|hF:=hF
  ·exact hg.axy.xP j b ho hF
  ·exact hne (hg.axy.sep j i b ho hF)
 ·obtain hF|hF:=hF
  ·exact hg.axy.wF b hF
  ·exact hg.axy.lt hF
 ·exact hg.axy.sep j k b (SN h1).2 (SN h2).2
 ·rw[Oc,(hg.jZ j hj).2];cases Nat.beq j i <;> rfl
def Y1(hf:iI X t i E z n g h)(hx:Stp X.G X.t.get X.w G t.get w):Stp X.G X.t.get X.w (G.eG t.get i) (wW i n z h t).get w where
 os:=hx.os
 tape:=hx.tape
 output:=hx.output
 size:=hx.size
 axz:=hx.axz
 F1:=λb hb hl=>.inl (hx.F1 b hb hl)
 F2:=λb hb=>by
  obtain hb|hb:=hb
  ·exact hx.F2 b hb
  ·obtain h1|h1:=hx.own i b hb
   ·have:=(X.hg.jZ i hf.lo).2;unfold dB at h1;rw[show X.t.get i=t0.get i from rfl,this]at h1;exact h1.elim
   ·exact .inr h1
 own:=λj b ho=>hx.own j b (SN ho).2
 loc:=hx.loc
 row:=λj A c hj=>by
  obtain⟨A',c',e1,e2⟩:=hx.row j A c hj;refine⟨A',c',e1,λE' s m q e=>?_⟩;obtain⟨_,g0,e3,_⟩:=Y2 e;exact e2 E' s m g0 e3
def T.eG{c:Code}{Q:Exit->AS->Prop}{s:AS}(hf:iI X s.s i E z n g h)(hh:T X c Q (Lu i n z h s)):T X c Q s:=T.mk λa w hm=>by
 obtain⟨G,hg,hs,hx⟩:=hm;refine hh.h a w ⟨G.eG s.s.get i,Ye hf hg,⟨⟨hs.nt,λj=>?_⟩,hs.df⟩,Y1 hf hx⟩;rw[show dD (Lu i n z h s).sl j=jf i n z h (dD s.sl j) from Yd s.sl j];exact IM hf hg.axy (hs.sl j)
def Fin.eG{v:V}{K:V->ST->Prop}(hf:iI X t i E z n g h)(hh:Fin X (jf i n z h v) (wW i n z h t) K):Fin X v t K:=Fin.mk λG w u hg hx hu=>
 hh.h _ w u (Ye hf hg) (Y1 hf hx) (IM hf hg.axy hu)
end
end
section
section
variable {t0:ST} {X:Cx t0} {Q:Exit->AS->Prop} {s s2:AS}
@[irreducible] def TL (X:Cx t0) (c:Code) (Q:Exit->AS->Prop) (s:AS):Prop:=
 ∀ a w,Mod X s a w->∀ b k cs,∃ e a' w',(∃ s',Q e s'/\Mod X s' a' w')/\Arrives prog (lone (b.at a (.code c :: .inLoop c::k)) cs w) b k cs e a' w'
def TL.h{c:Code}(h:TL X c Q s):∀ a w,Mod X s a w->∀ b k cs,∃ e a' w',(∃ s',Q e s'/\Mod X s' a' w')/\Arrives prog (lone (b.at a (.code c :: .inLoop c::k)) cs w) b k cs e a' w':=by unfold TL at h;exact h
def BN{c:Code}(h:TL X c Q s):T X (.loop c) Q s:=T.mk λa w hm=>by
 intro b k cs;obtain⟨e,a',w',hq,harr⟩:=h.h a w hm b k cs;exact⟨e,a',w',hq,.of_steps (.one step_loop) harr⟩
def asI(K:AS->Prop)(Q:Exit->AS->Prop):Exit->AS->Prop
 |.normal,s=>K s
 |e,s=>Q e s
def TL.round{c:Code}(h:T X c (asI (TL X c Q) Q) s):TL X c Q s:=by
 unfold TL;intro a w hm b k cs;obtain⟨e,a₁,w₁,⟨s',hq,hm'⟩,harr⟩:=h.h a w hm b (.inLoop c::k) cs;cases e with
 |normal=>
  have hq:TL X c Q s':=hq;obtain⟨e₂,a₂,w₂,hq₂,harr₂⟩:=hq.h a₁ w₁ hm' b k cs;exact⟨e₂,a₂,w₂,hq₂,.of_steps (Steps.trans harr (.one step_inLoop)) harr₂⟩
 |exit id=>exact⟨_,a₁,w₁,⟨s',hq,hm'⟩,.pass (x:=.inLoop c) rfl (λ_ _=>.inl (by simp)) harr⟩
 |goto l=>exact⟨_,a₁,w₁,⟨s',hq,hm'⟩,.pass (x:=.inLoop c) rfl (λ_ _=>.inl (by simp)) harr⟩
 |ret=>exact⟨_,a₁,w₁,⟨s',hq,hm'⟩,.pass (x:=.inLoop c) rfl (λ_ _=>.inl (by simp)) harr⟩
 |panic ch=>exact⟨_,a₁,w₁,⟨s',hq,hm'⟩,.pass (x:=.inLoop c) rfl (λ_ _=>.inl (by simp)) harr⟩
 |outgrown=>exact⟨_,a₁,w₁,⟨s',hq,hm'⟩,.pass (x:=.inLoop c) rfl (λ_ _=>.inl (by simp)) harr⟩
def TL.le{c:Code}(s2:AS)(hl:bf t0.nx s s2)(h:TL X c Q s2):TL X c Q s:=by
 unfold TL;exact λa w hm=>h.h a w (hm.le hl)
def Vb{c:Code}(S:Nat->AS)(n:Nat)(h0:bf t0.nx s (S 0))(hr:∀ i,i<=n->T X c (λe s'=>match e with|.normal=>i<n/\bf t0.nx s' (S (i+1))|e=>Q e s') (S i)):T X (.loop c) Q s:=
 T.loop (ι:={ i:Nat // i<=n }) (λi=>S i.1) (λi=>n-i.1) ⟨0,cZ _⟩ h0 λ⟨i,hi⟩=>T.mono (hr i hi) λe s' h=>by
  cases e
  case normal=>
   have h:i<n/\bf t0.nx s' (S (i+1)):=h;exact⟨⟨i+1,h.1⟩,h.2,by show n-(i+1)<n-i;omega⟩
  all_goals exact h
end
def Iy(N:Nat)(g:Nat->V):Nat->List V->Prop
 |_,[]=>True
 |k,v::r=>VW N (g k) v/\Iy N g (k+1) r
def WR {N : Nat} {g : Nat -> V} : ∀ {l : List V} {s : Nat}, Iy N g s l -> ∀ k v, l[k]? = some v -> VW N (g (s + k)) v
  | [], s, _, k, v, h => by simp at h
  | x :: r, s, hc, k, v, h => by
    cases k with
    | zero => obtain rfl : x = v := by simpa using h
              exact hc.1
    | succ k => rw [show s + (k + 1) = s + 1 + k by omega]; exact WR hc.2 k v (by simpa using h)
def lg(l:List V)(k:Nat):V:=l.getD k .top
def VW.cells{N n:Nat}{g h:Nat->V}(l:List V)(hl:l.length=n)(hh:∀ k,k<n->h k=lg l k)(hc:Iy N g 0 l):VW N (.agg n g) (.agg n h):=VW.agg λk hk=>by
 have e:l[k]?=some (lg l k):=by unfold lg;rw[bn,dV qO];rfl
 rw[hh k hk];have:=WR hc k _ e;rwa [jq]at this
def fH{N n:Nat}{g h:Nat->V}(l:List V)(hl:l.length=n)(hh:∀ k,k<n->h k=lg l k)(hc:Iy N g 0 l):VW N (.gQ n g) (.gQ n h):=VW.gQ λk hk=>by
 have e:l[k]?=some (lg l k):=by unfold lg;rw[bn,dV qO];rfl
 rw[hh k hk];have:=WR hc k _ e;rwa [jq]at this
def e0:ST:=⟨[],0⟩
abbrev aQ(f:Nat)(args:List V)(r:V):Prop:=af f args e0 (λv t=>v=r/\t=e0)
def Fin.tell{X:Cx e0}{v r:V}{t:ST}(h:VW 0 v r):Fin X v t (λv t=>v=r/\t=e0):=
 Fin.done r e0 (bF _) (cZ _) trivial h ⟨rfl,rfl⟩
def af.tell{f:Nat}{args args':List V}{st:ST}{r:V}{K:V->ST->Prop}(h:aQ f args' r)(ha:lI 0 (bY []) args args')(hk:pz st.nx λn=>K (pR [] n r) st):af f args st K:=by
 rw[uM]at hk;exact af.frame h rfl (by simp) rfl ha trivial (λv t ⟨e1,e2⟩=>by subst e1 e2;exact hk)
def Aw(st:ST)(aI:List Nat)(n:Nat)(t:ST):ST:=⟨(List.range (aI.length+(t.nx-aI.length))).map (λk=>(lV aI n k,mW (λk=>some (lV aI n k)) (t.get k)))++st.st,n+(t.nx-aI.length)⟩
end
def iK(n:Nat):UInt8:=UInt8.ofNat n
def wJ(n:Nat):(iK n).toNat=n % 256:=by unfold iK;rw[UInt8.toNat_ofNat']
def Yl{n:Nat}{b:UInt8}(h:n % 256=b.toNat):iK n=b:=UInt8.toNat_inj.1 (by rw[wJ,h])
def uj:Nat->Nat->List UInt8
 |0,n=>[iK n]
 |f+1,n=>if n<128 then [iK n] else iK (n % 128+128)::uj f (n / 128)
def dK(n:Nat):List UInt8:=uj 9 n
def gZ(n:Nat):Nat:=(dK n).length
def aje(f:Nat):∀(g n:Nat),n<128^(f+1)->f<=g->uj f n=uj g n:=by
 induction f with
 |zero=>
  intro g n h _;cases g with
  |zero=>rfl
  |succ g=>unfold uj;rw[if_pos (by simpa using h)]
 |succ f ih=>
  intro g n h hg;cases g with
  |zero=>omega
  |succ g=>
   unfold uj;by_cases hn:n<128
   ·rw[if_pos hn,if_pos hn]
   ·rw[if_neg hn,if_neg hn,ih g (n / 128) (by rw[Nat.pow_succ]at h;exact Nat.div_lt_of_lt_mul (by rw[Nat.mul_comm];exact h)) qO]
def DW(n:Nat)(h:n<128):dK n=[iK n]:=by unfold dK uj;rw[if_pos h]
def RU(n:Nat)(h:¬n<128)(jP:n<18446744073709551616):dK n=iK (n % 128+128)::dK (n / 128):=by
  conv=>lhs;unfold dK uj
  rw[if_neg h];congr 1;exact aje 8 9 (n / 128) (by have:(128:Nat)^(8+1)=9223372036854775808:=qD;omega) qO
def Yv(n:Nat):0<(dK n).length:=by
 unfold dK uj;split <;> simp
def alL(f:Nat):∀ n,(uj f n).length<=f+1:=by
 induction f with
 |zero=>intro n;exact bF _
 |succ f ih=>
  intro n;unfold uj;split
  ·simp
  ·rw[lT];have:=ih (n / 128);omega
def FI(n:Nat):gZ n<=10:=alL 9 n
def Fh(n:Nat)(h:n<128):gZ n=1:=by unfold gZ;rw[DW n h];rfl
def MV(n:Nat)(h:¬n<128)(jP:n<18446744073709551616):gZ n=gZ (n / 128)+1:=by unfold gZ;rw[RU n h jP];rfl
def MS(n:Nat):1<=gZ n:=Yv n
def aj2(k:Nat):∀ n,n<18446744073709551616->k<gZ n->(dK n).getD k 0=if k+1=gZ n then iK (n / 128^k) else iK (n / 128^k % 128+128):=by
 induction k with
 |zero=>
  intro n jP hk;by_cases hn:n<128
  ·rw[Fh n hn,if_pos rfl,DW n hn];simp
  ·have h1:=MV n hn jP;have h2:=MS (n / 128);rw[if_neg qO,RU n hn jP];simp
 |succ k ih=>
  intro n jP hk;by_cases hn:n<128
  ·rw[Fh n hn]at hk;omega
  ·have h1:=MV n hn jP;have hi:=ih (n / 128) qO qO;rw[RU n hn jP,List.getD_cons_succ,hi,h1,Nat.div_div_eq_div_mul,Nat.mul_comm 128,<-Nat.pow_succ];by_cases he:k+1=gZ (n / 128)
   ·rw[if_pos he,if_pos qO]
   ·rw[if_neg he,if_neg qO]
def ab2(k:Nat):∀ n,n<18446744073709551616->(n / 128^k<128↔gZ n<=k+1):=by
 induction k with
 |zero=>
  intro n jP;rw[Nat.pow_zero,Nat.div_one];constructor
  ·intro h;rw[Fh n h];omega
  ·intro h;by_cases hn:n<128
   ·exact hn
   ·have h1:=MV n hn jP;have h2:=MS (n / 128);omega
 |succ k ih=>
  intro n jP;have hi:=ih (n / 128) qO;rw[Nat.div_div_eq_div_mul,Nat.mul_comm 128,<-Nat.pow_succ]at hi;rw[hi];by_cases hn:n<128
  ·rw[Fh n hn,Fh (n / 128) qO];omega
  ·rw[MV n hn jP];omega
def jR:List UInt8->Nat
 |[]=>0
 |b::l=>b.toNat % 128+128*jR l
def V9(a b:List UInt8):jR (a++b)=jR a+128^a.length*jR b:=by
 induction a with
 |nil=>simp[jR]
 |cons x a ih=>
  rw[List.cons_append,jR,ih,jR,lT,Nat.pow_succ,Nat.mul_add,<-Nat.mul_assoc,Nat.mul_comm 128 (128^a.length)];omega
def aoI(a:List UInt8):jR a<128^a.length:=by
 induction a with
 |nil=>simp[jR]
 |cons x a ih=>
  rw[jR,lT,Nat.pow_succ];omega
def auJ:(128:Nat)^10=1180591620717411303424:=by decide
def vt(at_ n:Nat):List UInt8->Nat×Nat×Nat
 |[]=>(0,0,2)
 |c::r=>if (0<at_/\c.toNat=0)\/(at_=9/\1<c.toNat) then(0,0,3) else if c.toNat<128 then(n+c.toNat*128^at_,at_+1,0) else vt (at_+1) (n+(c.toNat-128)*128^at_) r
def dh(b:List UInt8):Nat×Nat×Nat:=vt 0 0 b
def asf(l:List UInt8):∀ k n,(vt k n l).2.2=0\/vt k n l=(0,0,2)\/vt k n l=(0,0,3):=by
 induction l with
 |nil=>intro k n;exact .inr (.inl rfl)
 |cons c r ih=>
  intro k n;unfold vt;split
  ·exact .inr (.inr rfl)
  ·split
   ·exact .inl rfl
   ·exact ih _ _
def at7(l:List UInt8):∀(k n:Nat),k<=9->(vt k n l).2.2=0->∃ m,k+m+1=(vt k n l).2.1/\k+m<=9/\m<l.length/\(∀ i,i<m->128<=(l.getD i 0).toNat)/\(l.getD m 0).toNat<128/\(0<k+m->0<(l.getD m 0).toNat)/\(k+m=9->(l.getD m 0).toNat<=1)/\(vt k n l).1=n+jR (l.take (m+1))*128^k:=by
 induction l with
 |nil=>intro k n _ h;simp[vt]at h
 |cons c r ih=>
  intro k n hk h;unfold vt at h ⊢;by_cases hc:(0<k/\c.toNat=0)\/(k=9/\1<c.toNat)
  ·rw[if_pos hc]at h;simp at h
  ·rw[if_neg hc]at h ⊢;by_cases hs:c.toNat<128
   ·rw[if_pos hs];refine⟨0,by simp,by omega,by simp,by simp,by simpa using hs,by simp;omega,by simp;omega,?_⟩;simp only[List.take_succ_cons,List.take_zero,jR,Nat.mod_eq_of_lt hs];simp
   ·rw[if_neg hs]at h ⊢;have hcl:=c.toNat_lt;have hk9:k≠9:=qO;obtain⟨m,h1,h2,h3,h4,h5,h6,h7,h8⟩:=ih (k+1) (n+(c.toNat-128)*128^k) qO h;refine⟨m+1,by omega,by omega,by rw[lT];omega,?_,by simpa using h5,?_,?_,?_⟩
    ·intro i hi;cases i with
     |zero=>simp;omega
     |succ i=>simpa using h4 i qO
    ·intro _;simpa using h6 qO
    ·intro h9;simpa using h7 qO
    ·rw[h8];simp only[List.take_succ_cons,jR];have:c.toNat % 128=c.toNat-128:=qO;rw[this,Nat.pow_succ,Nat.add_mul];have e:128*jR (r.take (m+1))*128^k=jR (r.take (m+1))*(128^k*128):=by
      rw[Nat.mul_comm (128^k) 128,<-Nat.mul_assoc,Nat.mul_comm 128]
     omega
def aoJ(p:List UInt8):∀(q:UInt8),(∀ b∈p,128<=b.toNat)->q.toNat<128->(p≠[]->0<q.toNat)->∀ f,p.length<=f->uj f (jR (p++[q]))=p++[q]:=by
 induction p with
 |nil=>
  intro q _ hq _ f _;simp only[List.nil_append,jR,Nat.mod_eq_of_lt hq];have e:iK (q.toNat+128*0)=q:=Yl (by have:=q.toNat_lt;omega);cases f with
  |zero=>unfold uj;rw[e]
  |succ f=>unfold uj;rw[if_pos qO,e]
 |cons b p ih=>
  intro q hb hq h0 f hf;cases f with
  |zero=>simp at hf
  |succ f=>
   have hbb:=hb b jL;have hbl:=b.toNat_lt;have hq0:=h0 (by simp);have hi:=ih q (λx hx=>hb x (jA _ hx)) hq (λ_=>hq0) f (by simp at hf;omega);have hpos:0<jR (p++[q]):=by
    rw[V9];have h1:jR [q]=q.toNat:=by simp only[jR];omega
    rw[h1];have h2:0<128^p.length*q.toNat:=Nat.mul_pos (Nat.pos_of_ne_zero (by simp)) hq0;omega
   rw[List.cons_append,jR];unfold uj;rw[if_neg qO];have e1:(b.toNat % 128+128*jR (p++[q])) / 128=jR (p++[q]):=qO;have e2:iK ((b.toNat % 128+128*jR (p++[q])) % 128+128)=b:=Yl qO;rw[e1,hi,e2]
def aaO:(128:Nat)^9=9223372036854775808:=by decide
def FH(b:List UInt8)(h:(dh b).2.2=0) :
  1<=(dh b).2.1/\(dh b).2.1<=b.length/\(dh b).2.1<=10/\dK (dh b).1=b.take (dh b).2.1/\(dh b).1<18446744073709551616/\(∀ i,i+1<(dh b).2.1->128<=(b.getD i 0).toNat)/\(b.getD ((dh b).2.1-1) 0).toNat<128/\(dh b).1=jR (b.take (dh b).2.1):=by
 obtain⟨m,h1,h2,h3,h4,h5,h6,h7,h8⟩:=at7 b 0 0 qO h;have e1:(dh b).2.1=m+1:=by unfold dh;omega
 have e2:(dh b).1=jR (b.take (m+1)):=by unfold dh;rw[h8];simp
 have hsplit:b.take (m+1)=b.take m++[b.getD m 0]:=by
  rw[List.take_succ_eq_append_getElem h3,bn,dV h3];rfl
 have hall:∀ x∈b.take m,128<=x.toNat:=by
  intro x hx;obtain⟨i,hi,rfl⟩:=List.getElem_of_mem hx;have hi':i<m:=by rw[dG]at hi;omega
  have:=h4 i hi';rw[bn,dV qO]at this;rw[List.getElem_take];exact this
 have hne:b.take m≠[]->0<(b.getD m 0).toNat:=by
  intro hn;apply h6;obtain h0|h0:=uK m
  ·rw[h0]at hn;simp at hn
  ·omega
 have hp:=aoJ (b.take m) (b.getD m 0) hall h5 hne 9 (by rw[dG];omega);rw[e1,e2];refine⟨by omega,by omega,by omega,?_,?_,λi hi=>h4 i qO,by rw[Nat.add_sub_cancel];exact h5,rfl⟩
 ·rw[hsplit];exact hp
 ·rw[hsplit,V9];have hv:=aoI (b.take m);have hml:(b.take m).length=m:=by rw[dG];omega
  rw[hml]at hv ⊢;have hq:jR [b.getD m 0]=(b.getD m 0).toNat:=by simp only[jR];omega
  rw[hq];by_cases h9:m=9
  ·subst h9;have:=h7 qO;rw[aaO]at hv ⊢;omega
  ·have VV:128^m<=128^8:=Nat.pow_le_pow_right qO qO;have e8:(128:Nat)^8=72057594037927936:=by decide
   rw[e8]at VV;have h128:128^m*(b.getD m 0).toNat<=72057594037927936*127:=Nat.mul_le_mul VV qO;omega
def ase(f:Nat):∀(k acc n:Nat) (r:List UInt8),n<128^(f+1)->k+f<=9->(0<k->0<n)->n*128^k<18446744073709551616->vt k acc (uj f n++r)=(acc+n*128^k,k+(uj f n).length,0):=by
 have key:∀(k acc n:Nat) (r:List UInt8),n<128->(0<k->0<n)->n*128^k<18446744073709551616->vt k acc ([iK n]++r)=(acc+n*128^k,k+1,0):=by
  intro k acc n r hn h0 jP;have hb:(iK n).toNat=n:=by rw[wJ];omega
  simp only[List.cons_append,List.nil_append,vt,hb];rw[if_neg,if_pos hn];intro h;obtain⟨h1,h2⟩|⟨h1,h2⟩:=h
  ·have:=h0 h1;omega
  ·subst h1;rw[aaO]at jP;omega
 induction f with
 |zero=>intro k acc n r hn _ h0 jP;exact key k acc n r (by simpa using hn) h0 jP
 |succ f ih=>
  intro k acc n r hn hkf h0 jP;unfold uj;by_cases hs:n<128
  ·rw[if_pos hs];exact key k acc n r hs h0 jP
  ·rw[if_neg hs];have hb:(iK (n % 128+128)).toNat=n % 128+128:=by rw[wJ];omega
   simp only[List.cons_append,vt,hb];rw[if_neg qO,if_neg qO];have hd:n / 128*128^(k+1)+n % 128*128^k=n*128^k:=by
    rw[Nat.pow_succ,Nat.mul_comm (128^k) 128,<-Nat.mul_assoc,<-Nat.add_mul];congr 1;omega
   rw[ih (k+1) _ (n / 128) r (by rw[Nat.pow_succ]at hn;exact Nat.div_lt_of_lt_mul (by rw[Nat.mul_comm];exact hn)) qO (λ_=>by omega) qO];rw[Nat.add_sub_cancel,lT];simp only[Prod.mk.injEq,and_true];omega
def wM(n:Nat)(r:List UInt8)(h:n<18446744073709551616):dh (dK n++r)=(n,gZ n,0):=by
 unfold dh dK;rw[ase 9 0 0 n r (by rw[auJ];omega) qO qO qO];simp[gZ,dK]
def alK(l:List UInt8):∀ k n,k<=9->(vt k n l=(0,0,2)↔(∀ c∈l,128<=c.toNat)/\k+l.length<10):=by
 induction l with
 |nil=>intro k n hk;simp[vt];omega
 |cons c r ih=>
  intro k n hk;have hcl:=c.toNat_lt;unfold vt;by_cases hc:(0<k/\c.toNat=0)\/(k=9/\1<c.toNat)
  ·rw[if_pos hc];simp only[Prod.mk.injEq,lT];constructor
   ·intro h;omega
   ·rintro⟨h1,h2⟩;have:=h1 c jL;omega
  ·rw[if_neg hc];by_cases hs:c.toNat<128
   ·rw[if_pos hs];constructor
    ·intro h;simp at h
    ·rintro⟨h1,h2⟩;have:=h1 c jL;omega
   ·rw[if_neg hs,ih (k+1) _ qO];constructor
    ·rintro⟨h1,h2⟩;refine⟨λx hx=>?_,by rw[lT];omega⟩;obtain rfl|hx:=List.mem_cons.1 hx
     ·omega
     ·exact h1 x hx
    ·rintro⟨h1,h2⟩;exact⟨λx hx=>h1 x (jA _ hx),by rw[lT]at h2;omega⟩
def We(b:List UInt8):dh b=(0,0,2)↔(∀ c∈b,128<=c.toNat)/\b.length<10:=by
 have h:=alK b 0 0 qO;rw[jq]at h;exact h
def MR(b:List UInt8):(dh b).2.2=0\/dh b=(0,0,2)\/dh b=(0,0,3):=asf b 0 0
def ajZ(b:List UInt8)(m:Nat)(hm:m<b.length)(hall:∀ i,i<m->128<=(b.getD i 0).toNat)(hs:(b.getD m 0).toNat<128) :
  dh b=if dK (jR (b.take (m+1)) % 18446744073709551616)=b.take (m+1) then(jR (b.take (m+1)) % 18446744073709551616,m+1,0) else(0,0,3):=by
 have hlt:jR (b.take (m+1)) % 18446744073709551616<18446744073709551616:=Nat.mod_lt _ qO;by_cases he:dK (jR (b.take (m+1)) % 18446744073709551616)=b.take (m+1)
 ·rw[if_pos he];have h:=wM (jR (b.take (m+1)) % 18446744073709551616) (b.drop (m+1)) hlt;rw[he,List.take_append_drop]at h;have hsz:gZ (jR (b.take (m+1)) % 18446744073709551616)=m+1:=by
   unfold gZ;rw[he,dG];omega
  rw[h,hsz]
 ·rw[if_neg he];obtain h|h|h:=MR b
  ·exfalso;obtain⟨h1,h2,h3,h4,h5,h6,h7,h8⟩:=FH b h;have e:(dh b).2.1=m+1:=by
    obtain hl|hl|hl:=Nat.lt_trichotomy ((dh b).2.1) (m+1)
    ·have:=hall ((dh b).2.1-1) qO;omega
    ·exact hl
    ·have:=h6 m qO;omega
   rw[e]at h4 h8;rw[h8]at h4 h5;rw[Nat.mod_eq_of_lt h5]at he;exact he h4
  ·exfalso;have:=((We b).1 h).1 (b.getD m 0) (by rw[bn,dV hm];exact List.getElem_mem hm);omega
  ·exact h
def yV(n k:Nat):List UInt8:=(List.range k).map (λi=>iK (n / 128^i % 128+128))
def H6(n k:Nat):(yV n k).length=k:=by simp[yV]
def ana(n k:Nat):yV n (k+1)=yV n k++[iK (n / 128^k % 128+128)]:=by unfold yV;rw[List.range_succ,List.map_append];rfl
def aei(n k i:Nat)(h:i<k):(yV n k)[i]?=some (iK (n / 128^i % 128+128)):=by simp[yV,h]
def arb(n k r:Nat):(yV n k++List.replicate (r+1) 0).set k (iK (n / 128^k % 128+128))=yV n (k+1)++List.replicate r 0:=by
 rw[List.set_append_right _ _ (by rw[H6];omega),H6,Nat.sub_self,List.replicate_succ,List.set_cons_zero,ana,jV];rfl
def am9(n s:Nat)(h:n<18446744073709551616)(hs:gZ n=s+1):(yV n (s+1)).set s (iK (n / 128^s % 128))=dK n:=by
 refine List.ext_getElem? λi=>?_
 have hl:(dK n).length=s+1:=hs;have hlast:=(ab2 s n h).2 qO;by_cases hi:i<s+1
 ·have hg:=aj2 i n h qO;rw[bn,dV qO,Option.getD_some]at hg;rw[dV (show i<(dK n).length by omega),hg,hs];by_cases he:i=s
  ·subst he;rw[List.getElem?_set_self (by rw[H6];omega),if_pos rfl,Nat.mod_eq_of_lt hlast]
  ·rw[List.getElem?_set_ne qO,aei _ _ _ hi,if_neg qO]
 ·rw[List.getElem?_eq_none (by rw[nM,H6];omega),List.getElem?_eq_none qO]
structure aP where
 kind:Int
 a:Int
 b:Int
 x:List UInt8
structure Kd where
 least:Int
 dO:Int
 second:Bool
 UT:Int
 UQ:Nat
def kd(k:Int):Kd:=if k=1 then ⟨1,3,false,0,0⟩ else if k=2 then ⟨0,1048576,true,5,0⟩ else if k=3 then ⟨1,64,true,1048576,200⟩ else if k=4 then ⟨1,64,false,0,0⟩ else ⟨0,0,false,0,0⟩
def iG(r:aP):Bool:=decide (1<=r.kind/\r.kind<=4/\(kd r.kind).least<=r.a/\r.a<=(kd r.kind).dO/\0<=r.b/\r.b<=(kd r.kind).UT/\r.x.length<=(kd r.kind).UQ)
def kS(r:aP):List UInt8:=[iK r.kind.toNat]++dK r.a.toNat++(if (kd r.kind).second=true then dK r.b.toNat else [])++r.x
def wP{r:aP}(h:iG r=true):1<=r.kind/\r.kind<=4/\(kd r.kind).least<=r.a/\r.a<=(kd r.kind).dO/\0<=r.b/\r.b<=(kd r.kind).UT/\r.x.length<=(kd r.kind).UQ:=by
 unfold iG at h;exact fU h
def am3{k:Int}(h1:1<=k)(h2:k<=4):(k=1/\kd k=⟨1,3,false,0,0⟩)\/(k=2/\kd k=⟨0,1048576,true,5,0⟩)\/(k=3/\kd k=⟨1,64,true,1048576,200⟩)\/(k=4/\kd k=⟨1,64,false,0,0⟩):=by
 rcases(show k=1\/k=2\/k=3\/k=4 by omega) with h|h|h|h <;> subst h
 ·exact .inl ⟨rfl,rfl⟩
 ·exact .inr (.inl ⟨rfl,rfl⟩)
 ·exact .inr (.inr (.inl ⟨rfl,rfl⟩))
 ·exact .inr (.inr (.inr ⟨rfl,rfl⟩))
def rV{r:aP}(h:iG r=true):0<=r.a/\r.a<=1048576/\0<=r.b/\r.b<=1048576/\r.x.length<=200/\((kd r.kind).second=false->r.b=0/\r.x=[])/\(r.kind≠3->r.x=[]):=by
 obtain⟨h1,h2,h3,h4,h5,h6,h7⟩:=wP h;obtain⟨e,k⟩|⟨e,k⟩|⟨e,k⟩|⟨e,k⟩:=am3 h1 h2 <;> rw[k]at h3 h4 h6 h7 <;> rw[k] <;> simp only at h3 h4 h6 h7 ⊢
 ·exact⟨by omega,by omega,by omega,by omega,by omega,λ_=>⟨by omega,uI qO⟩,λ_=>uI qO⟩
 ·exact⟨by omega,by omega,by omega,by omega,by omega,(λh=>by cases h),λ_=>uI qO⟩
 ·exact⟨by omega,by omega,by omega,by omega,by omega,(λh=>by cases h),λh=>ai e h⟩
 ·exact⟨by omega,by omega,by omega,by omega,by omega,λ_=>⟨by omega,uI qO⟩,λ_=>uI qO⟩
def wrapN(n:Nat):Int:=IntKind.i64.wrap (n:Int)
def Zu:List UInt8->Option aP
 |[]=>none
 |k::t=>
  if (dh t).2.2=0 then
   if (kd (k.toNat:Int)).second=true then
    if (dh (t.drop (dh t).2.1)).2.2=0 then some ⟨(k.toNat:Int),wrapN (dh t).1,wrapN (dh (t.drop (dh t).2.1)).1,(t.drop (dh t).2.1).drop (dh (t.drop (dh t).2.1)).2.1⟩ else none
   else some ⟨(k.toNat:Int),wrapN (dh t).1,0,t.drop (dh t).2.1⟩
  else none
def r0:aP:=⟨0,0,0,[]⟩
def zx(b:List UInt8):aP×Int:=match Zu b with
 |some r=>if iG r=true/\kS r=b then(r,0) else(r0,3)
 |none=>(r0,3)
def XE{n:Nat}(h:n<=9223372036854775807):wrapN n=(n:Int):=by
 unfold wrapN;exact IntWalk.i64_in _ qO
def ajv{r:aP}(h:iG r=true):2<=(kS r).length/\(kS r).length<=221:=by
 obtain⟨_,_,_,_,h5,_,_⟩:=rV h;have h1:=Yv r.a.toNat;have h2:=FI r.a.toNat;have h3:=FI r.b.toNat;unfold gZ at h2 h3;unfold kS;simp only[bP,lT,List.length_nil];split
 ·omega
 ·simp only[List.length_nil];omega
def akI{r:aP}(h:iG r=true):zx (kS r)=(r,0):=by
 obtain⟨b1,b2,b3,b4,b5,b6,b7⟩:=rV h;obtain⟨h1,h2,_⟩:=wP h;have hk:(iK r.kind.toNat).toNat=r.kind.toNat:=by rw[wJ];omega
 have hk':(((iK r.kind.toNat).toNat:Nat):Int)=r.kind:=by rw[hk];omega
 have hp:Zu (kS r)=some r:=by
  unfold kS;rw[jV,jV,List.singleton_append];rw[show ∀ k t,Zu (k::t)=(if (dh t).2.2=0 then
   if (kd (k.toNat:Int)).second=true then
    if (dh (t.drop (dh t).2.1)).2.2=0 then some ⟨(k.toNat:Int),wrapN (dh t).1,wrapN (dh (t.drop (dh t).2.1)).1,(t.drop (dh t).2.1).drop (dh (t.drop (dh t).2.1)).2.1⟩ else none
   else some ⟨(k.toNat:Int),wrapN (dh t).1,0,t.drop (dh t).2.1⟩
  else none) from λ_ _=>rfl]
  rw[hk',wM _ _ qO];rw[if_pos rfl];simp only;have hd:∀ l:List UInt8,(dK r.a.toNat++l).drop (gZ r.a.toNat)=l:=λl=>by unfold gZ;simp
  rw[hd];split
  ·rename_i hs
   rw[wM _ _ qO];have jo:∀ l:List UInt8,(dK r.b.toNat++l).drop (gZ r.b.toNat)=l:=λl=>by unfold gZ;simp
   rw[if_pos rfl,jo,XE qO,XE qO];congr 1;obtain⟨k,a,b,x⟩:=r;simp only at b1 b3 ⊢;congr 1 <;> omega
  ·rename_i hs
   rw[List.nil_append];obtain⟨e1,e2⟩:=b6 (by simpa using hs);rw[XE qO];congr 1;obtain⟨k,a,b,x⟩:=r;simp only at b1 e1 ⊢;subst e1;congr 1;omega
 unfold zx;rw[hp];show(if iG r=true/\kS r=kS r then(r,(0:Int)) else(r0,3))=(r,0);rw[if_pos ⟨h,rfl⟩]
structure bH where
 term:Int
 b:List UInt8
deriving DecidableEq
structure bC where
 floor:Int
 term:Int
 cu:Int
 log:List bH
deriving DecidableEq
instance:Inhabited bH:=⟨⟨0,[]⟩⟩
abbrev iD(n:Int):D:=.v (.int .i64 n)
abbrev bD(t:Bool):D:=.v (.bool t)
def IY(b:List UInt8):D:=.v (.string (jr b))
def gG(b:UInt8):D:=.v (.int .u8 b.toNat)
def bW(b:List UInt8):D:=.sl b.length 1 (λj _=>gG (b.getD j 0))
def iR(l:List Int):D:=.sl l.length 1 (λj _=>iD (l.getD j 0))
structure bu where
 num:Int
 aU:Int
 n:Nat
 b:List UInt8
def bu.z:bu:=⟨0,0,0,[]⟩
def kP(f:bu):Nat->D
 |0=>iD f.num|1=>iD f.aU|2=>.v (.int .u64 f.n)|_=>bW f.b
def jv(l:List bu):D:=.sl l.length 4 (λj=>kP (l.getD j .z))
structure kT where
 num:Int
 aU:Int
 since:Int
 kM:Bool
 many:Bool
def kT.z:kT:=⟨0,0,0,false,false⟩
def Dj(f:kT):Nat->D
 |0=>iD f.num|1=>iD f.aU|2=>iD f.since|3=>bD f.kM|_=>bD f.many
def xH(l:List kT):D:=.sl l.length 5 (λj=>Dj (l.getD j .z))
structure aF where
 kind:Int
 ax:Int
 seq:Int
 set:Int
 id:Int
 n:Int
 chunks:List Int
 text:List UInt8
def aF.z:aF:=⟨0,0,0,0,0,0,[],[]⟩
def lW(c:aF):Nat->D
 |0=>iD c.kind|1=>iD c.ax|2=>iD c.seq|3=>iD c.set|4=>iD c.id|5=>iD c.n|6=>iR c.chunks|_=>IY c.text
structure Rep where
 code:Int
 n:Int
def Rep.z:Rep:=⟨0,0⟩
def ji(r:Rep):Nat->D
 |0=>iD r.code|_=>iD r.n
def xJ(l:List Rep):D:=.sl l.length 2 (λj=>ji (l.getD j .z))
structure eH where
 id:Int
 set:Int
 chunks:List Int
 held:Bool
 tag:List UInt8
def eH.z:eH:=⟨0,0,[],false,[]⟩
def iP(x:eH):Nat->D
 |0=>iD x.id|1=>iD x.set|2=>iR x.chunks|3=>bD x.held|_=>IY x.tag
def jO(l:List eH):D:=.sl l.length 5 (λj=>iP (l.getD j .z))
structure iT where
 set:Int
 ax:Int
def iT.z:iT:=⟨0,0⟩
def iw(x:iT):Nat->D
 |0=>iD x.set|_=>iD x.ax
def og(l:List iT):D:=.sl l.length 2 (λj=>iw (l.getD j .z))
structure iW where
 ax:Int
 seq:Int
 last:Rep
def iW.z:iW:=⟨0,0,.z⟩
def iE(x:iW):Nat->D
 |0=>iD x.ax|1=>iD x.seq|2=>iD x.last.code|_=>iD x.last.n
def yD(l:List iW):D:=.sl l.length 4 (λj=>iE (l.getD j .z))
structure aN where
 version:Int
 next:Int
 axz:Int
 mg:Int
 aJ:List iW
 opens:List iT
 az:List eH
def dW(s:aN):Nat->D
 |0=>iD s.version|1=>iD s.next|2=>iD s.axz|3=>iD s.mg|4=>yD s.aJ|5=>og s.opens|_=>jO s.az
def aP.z:aP:=⟨0,0,0,[]⟩
def pI(r:aP):Nat->D
 |0=>iD r.kind|1=>iD r.a|2=>iD r.b|_=>bW r.x
def kK(l:List aP):D:=.sl l.length 4 (λj=>pI (l.getD j .z))
def bH.z:bH:=⟨0,[]⟩
def pJ(e:bH):Nat->D
 |0=>iD e.term|_=>bW e.b
def gY(l:List bH):D:=.sl l.length 2 (λj=>pJ (l.getD j .z))
def rq(s:bC):Nat->D
 |0=>iD s.floor|1=>iD s.term|2=>iD s.cu|_=>gY s.log
structure aV where
 kind:Int
 src:Int
 dst:Int
 term:Int
 a:Int
 b:Int
 c:Int
 bin:Int
 ok:Bool
 l:List bH
def aV.z:aV:=⟨0,0,0,0,0,0,0,0,false,[]⟩
def kN(x:aV):Nat->D
 |0=>iD x.kind|1=>iD x.src|2=>iD x.dst|3=>iD x.term|4=>iD x.a|5=>iD x.b|6=>iD x.c|7=>iD x.bin|8=>bD x.ok|_=>gY x.l
def iU(l:List aV):D:=.sl l.length 10 (λj=>kN (l.getD j .z))
structure QC where
 src:Int
 dst:Int
 next:Int
 dN:Int
 bin:Int
def awp(x:QC):Nat->D
 |0=>iD x.src|1=>iD x.dst|2=>iD x.next|3=>iD x.dN|_=>iD x.bin
structure cO where
 kind:Int
 a:Int
 b:Int
 c:aF
def Bf(e:cO):Nat->D
 |0=>iD e.kind|1=>iD e.a|2=>iD e.b|k+3=>lW e.c k
def xY(n:Nat)(c:Nat->D):V:=.agg n (λk=>.d (c k))
abbrev xR(f:bu):V:=xY 4 (kP f)
abbrev Ey(f:kT):V:=xY 5 (Dj f)
abbrev jl(c:aF):V:=xY 8 (lW c)
abbrev lJ(c:Rep):V:=xY 2 (ji c)
abbrev aaI(c:eH):V:=xY 5 (iP c)
abbrev aaP(c:iT):V:=xY 2 (iw c)
abbrev aaJ(c:iW):V:=xY 4 (iE c)
abbrev dZ(c:aN):V:=xY 7 (dW c)
abbrev tK(c:aP):V:=xY 4 (pI c)
abbrev zM(c:bH):V:=xY 2 (pJ c)
abbrev jC(c:bC):V:=xY 4 (rq c)
abbrev jT(c:aV):V:=xY 10 (kN c)
abbrev awo(c:QC):V:=xY 5 (awp c)
abbrev oL(c:cO):V:=xY 11 (Bf c)
def aaE(l:List V)(k:Nat):V:=lg l k
def bI(l:List V):V:=.gQ l.length (aaE l)
def kJ{X:Cx e0}{l q:List V}{t:ST}(hl:l.length=q.length)(h:Iy 0 (λk=>l.getD k .top) 0 q):Fin X (.gQ l.length (λk=>l.getD k .top)) t (λv t=>v=bI q/\t=e0):=by
 refine Fin.tell ?_;unfold bI;rw[<-hl];exact fH q hl.symm (λk hk=>rfl) h
def UX:List (Int×Int)->Int->Int
 |[],_=>0
 |(j,n)::r,k=>if j=k then n else UX r k
def ah1(l:List (Int×Int))(k:Int):(∀ v,dY (l.map λp=>(p.1,V.i p.2)) k=some v->∃ n,v=V.i n)/\qw (dY (l.map λp=>(p.1,V.i p.2)) k)=UX l k:=by
 induction l with
 |nil=>exact⟨(λv h=>by cases h),rfl⟩
 |cons p r ih=>
  obtain⟨j,n⟩:=p;show(∀ v,(bif decide (j=k) then some (V.i n) else dY (r.map λp=>(p.1,V.i p.2)) k)=some v->∃ n,v=V.i n)/\qw (bif decide (j=k) then some (V.i n) else dY (r.map λp=>(p.1,V.i p.2)) k)=if j=k then n else UX r k
  by_cases e:j=k
  ·rw[aX e,if_pos e];exact⟨λv h=>⟨n,(fD h).symm⟩,rfl⟩
  ·rw[aT e,if_neg e];exact ih
abbrev iV(n:Int):V:=.d (iD n)
def axO(n:Nat)(w:World)(h:Hid (n<18446744073709551616)) :
  Calls prog 220 #[.int .u64 n] w λe w'=>e = .returned (.int .i64 (gZ n:Nat))/\w=w':=by
 go_enter func220,ntmps220;go_wp2
 go_loop [0,3] (λx s=>∃ m k:Nat,x = .int .u64 m/\s = .int .i64 k/\Hid (m<18446744073709551616)/\1<=k/\k<=10/\k-1+gZ m=gZ n) (λx _=>(intOf x).toNat)
 case atStart=>exact⟨n,1,rfl,rfl,h,by omega,by omega,by omega⟩
 case round=>
  obtain⟨m,k,rfl,rfl,hm,hk,hk2,hs⟩:=hrel;have hle:=FI n;have hmi:(m:Int)<=18446744073709551615:=by have:=hm.out;omega
  by_cases hlt:m<128
  ·have HV:=Lib.hid (show k=gZ n by rw[Fh m hlt]at hs;omega);clear hs hle;go_wp2;go_ret;exact⟨by rw[<-HV.out];rfl,rfl⟩
  ·have hb:=MV m hlt hm.out;have HM:=Lib.hid (show m / 128<18446744073709551616 by have:=hm.out;omega);have hp:=MS (m / 128);have HV:=Lib.hid (show k+1-1+gZ (m / 128)=gZ n by omega);have hk9:k<=9:=qO;clear hs hle hb hp;go_wp2
   go_round
   case rel=>exact⟨m / 128,k+1,by go_num,by go_num,HM,by omega,by omega,HV.out⟩
   case measure=>simp[intOf];omega
def akO:∀ x:_root_.Fin 256,Nat.lor x.val 128=x.val % 128+128:=by decide +kernel
def ajR:∀ x:_root_.Fin 256,Nat.land x.val 127=x.val % 128:=by decide +kernel
def u8_or128(m:Nat):bits .or .u8 ((m:Int) % 256) 128=((iK (m % 128+128)).toNat:Int):=by
 rw[u8_or _ _ qO qO qO qO,wJ];have h:Nat.lor (m % 256) 128=m % 256 % 128+128:=akO ⟨m % 256,by omega⟩;have e:((m:Int) % 256).toNat=m % 256:=qO;rw[e];show((Nat.lor (m % 256) 128:Nat):Int)=_;rw[h];omega
def axM(b:UInt8):bits .and .u8 (b.toNat:Int) 127=((iK (b.toNat % 128)).toNat:Int):=by
 have hb:=b.toNat_lt;rw[u8_and _ _ qO qO qO qO,wJ];have h:Nat.land b.toNat 127=b.toNat % 128:=ajR ⟨b.toNat,hb⟩;show((Nat.land ((b.toNat:Int).toNat) 127:Nat):Int)=_;rw[jg,h];omega
def aim(w:World)(n:Nat)(e:Ending)(w':World):Prop:=
 ∃ A c,e = .returned (.slice A (gZ n) c)/\Own w' w.heap.size A (gZ n) c (dK n)/\Below w.heap.size w w'
def adm(n:Nat)(w:World)(h:Hid (n<18446744073709551616)) :
  Calls prog 181 #[.int .u64 n] w (aim w n):=by
 have hni:(n:Int)<=18446744073709551615:=by have:=h.out;omega
 go_enter func181,ntmps181;go_wp2_with fail;refine(axO n _ h).mono ?_;rintro e w1 ⟨rfl,rfl⟩;have hle:=FI n;have hpos:=MS n;obtain⟨s,hs⟩:∃ s,gZ n=s+1:=⟨gZ n-1,by omega⟩;have HS:=Lib.hid hs;rw[hs];have hs9:s<=9:=qO;have hfin:=Lib.hid (am9 n s h.out hs);clear hs hle hpos;go_wp2_with (at_make;refine mk rfl (.tmp 8) (.tmp 8) rfl .i64 .i64 _ _ (s+1) rfl rfl rfl rfl qO (bF _) ?_;intro w2 o2 g2;have b2:Below w.heap.size w w2:=(Below.refl _ _).grown g2 (bF _) (by simp))
 go_loopw [0,5,11] (λx _ i wr=>∃ k:Nat,i = .int .i64 k/\k<=s+1/\x = .int .u64 (n / 128^k:Nat)/\Own wr w.heap.size (some ⟨w.heap.size,0,none⟩) (s+1) (s+1) (yV n k++List.replicate (s+1-k) 0)/\Below w.heap.size w wr) (λ_ _ i _=>s+1-(intOf i).toNat)
 case atStart=>exact⟨0,rfl,by omega,by simp,by simpa [yV] using o2,b2⟩
 case round=>
  obtain⟨k,rfl,hk,rfl,oo,hb⟩:=hrel;have hdm:((n / 128^k:Nat):Int)<=18446744073709551615:=by have:=Nat.div_le_self n (128^k);have:=h.out;omega
  by_cases hlt:k<s+1
  ·have fk:=oo.free k;have hor:=u8_or128 (n / 128^k);have os:=oo.set k (iK (n / 128^k % 128+128));rw[show s+1-k=(s+1-(k+1))+1 by omega,arb]at os;have ck:=oo.cell k (by have:=oo.1;omega);have HD:=Lib.hid (show n / 128^k / 128=n / 128^(k+1) by rw[Nat.div_div_eq_div_mul,Nat.pow_succ]);generalize n / 128^k=m at *;go_wp2
   go_roundw
   case rel=>exact⟨k+1,by go_num,by omega,by rw[<-HD.out];go_num,os,hb.setCell (by simp) _⟩
   case measure=>simp[intOf];omega
  ·obtain rfl:k=s+1:=qO;rw[Nat.sub_self,List.replicate_zero,pO]at oo;have ck:=oo.cell s (by rw[H6];omega);have fk:=oo.free s;have hg:(yV n (s+1))[s]'(by rw[H6];omega)=iK (n / 128^s % 128+128):=by
    have:=aei n (s+1) s qO;rw[dV (by rw[H6];omega)]at this;exact fD this
   rw[hg]at ck;have hand:=axM (iK (n / 128^s % 128+128));have he:iK ((iK (n / 128^s % 128+128)).toNat % 128)=iK (n / 128^s % 128):=Yl (by rw[wJ,wJ];omega);rw[he]at hand;have os:=oo.set s (iK (n / 128^s % 128));rw[hfin.out]at os;clear he hg hlt;go_wp2;go_ret;exact⟨some ⟨w.heap.size,0,none⟩,s+1,by rw[HS.out];rfl,by rw[HS.out];exact os,hb.setCell (by simp) _⟩
def aiJ(x y:Int):bits .or .u64 x y=bits .or .u64 y x:=by simp only[bits,BitVec.or_comm]
def aj8(acc q k:Nat)(hacc:acc<128^k)(hk:k<=9)(hq:k=9->q % 128<=1) :
  bits .or .u64 (acc:Int) (IntKind.u64.wrap ((q:Int) % 128*2^(7*k)))=((acc+q % 128*128^k:Nat):Int):=by
 have e1:(2:Int)^(7*k)=((128^k:Nat):Int):=by rw[Int.pow_mul];norm_cast
 have e0:(q:Int) % 128=((q % 128:Nat):Int):=qO;have hb:q % 128*128^k<=9223372036854775808/\128^k<=9223372036854775808:=by
  by_cases h9:k=9
  ·subst h9;have h1:=hq rfl;rw[aaO];omega
  ·have h8:128^k<=128^8:=Nat.pow_le_pow_right qO qO;have e8:(128:Nat)^8=72057594037927936:=by decide
   rw[e8]at h8;have hmul:q % 128*128^k<=127*72057594037927936:=Nat.mul_le_mul qO h8;omega
 rw[e1,e0,<-Int.natCast_mul,IntWalk.u64_in _ qO,aiJ];have hp:(128^k:Nat)=2^(7*k):=by rw[Nat.pow_mul]
 rw[bits_join .u64 64 qD (λn h1 h2=>IntWalk.u64_in n qO) (7*k) _ _ qO ?_ qO qO ?_ qO]
 ·omega
 ·rw[hp];have:((q % 128*2^(7*k):Nat):Int) % 2^(7*k)=(((q % 128*2^(7*k)) % 2^(7*k):Nat):Int):=by push_cast;rfl
  rw[this,Nat.mul_mod_left];rfl
 ·have:((2:Int)^(7*k))=((2^(7*k):Nat):Int):=by push_cast;rfl
  rw[this,<-hp];omega
def W9(A:Option Addr)(b:List UInt8)(n c:Nat)(w:World)(hn:b.length=n)(hm:n<=9223372036854775807)(hA:Bs w w.heap.size A b) :
  Calls prog 194 #[.slice A n c] w λe w'=>e = .returned (.tuple #[.int .u64 ((dh b).1:Nat),.int .i64 ((dh b).2.1:Nat),.int .i64 ((dh b).2.2:Nat)])/\w=w':=by
 have HN:=Lib.hid hn;clear hn;go_enter func194,ntmps194;go_wp2_with fail
 go_step3
 go_wp2_with fail
 go_step3
 go_wp2_with fail
 go_loop [5,6,7,8,9] (λa s e _ i=>∃ k acc:Nat,i = .int .i64 k/\a = .int .u64 acc/\s = .int .i64 0/\e = .int .i64 3/\k<=9/\k<=n/\Hid (acc<128^k)/\dh b=vt k acc (b.drop k)) (λ_ _ _ _ i=>10-(intOf i).toNat)
 case atStart=>exact⟨0,0,rfl,rfl,rfl,rfl,by omega,by omega,by simp[Hid],rfl⟩
 case round=>
  obtain⟨k,acc,rfl,rfl,rfl,rfl,hk,hkn,hacc,hv⟩:=hrel;have HV:=Lib.hid hv;clear hv;by_cases hlt:k<n
  ·obtain⟨g,off,rfl,hg,hc⟩:=hA (by rw[HN.out];omega);have ck:=hc k (by rw[HN.out];omega);have hd:b.drop k=b.getD k 0::b.drop (k+1):=by
    rw[List.drop_eq_getElem_cons (by rw[HN.out];omega),bn,dV (by rw[HN.out];omega)];rfl
   have hkn2:((k:Int) == (n:Int))=false:=by rw[beq_eq_false_iff_ne];omega
   have hand:=axM (b.getD k 0);rw[wJ]at hand;have hql:=(b.getD k 0).toNat_lt;have hv2:=HV.out;rw[hd]at hv2;unfold vt at hv2;clear hd hc hA;generalize (b.getD k 0).toNat=q at *;have hqm:((q % 128 % 256:Nat):Int)=(q:Int) % 128:=qO;rw[hqm]at hand;clear hqm;by_cases hbad:(0<k/\q=0)\/(k=9/\1<q)
   ·rw[if_pos hbad]at hv2;have HF:=Lib.hid hv2;clear hv2 HV hacc hand;obtain⟨hk0,rfl⟩|⟨rfl,hq1⟩:=hbad
    ·have Vu:decide (0<k)=true:=by simp;omega
     go_wp2_with fail;go_ret3;exact⟨by rw[HF.out];rfl,rfl⟩
    ·have hq0:((q:Int) == 0)=false:=by rw[beq_eq_false_iff_ne];omega
     go_wp2_with fail;go_ret3;exact⟨by rw[HF.out];rfl,rfl⟩
   ·rw[if_neg hbad]at hv2;have hg:=aj8 acc q k hacc.out hk qO;by_cases hsm:q<128
    ·rw[if_pos hsm]at hv2;have HF:=Lib.hid hv2;rw[Nat.mod_eq_of_lt hsm]at hg;clear hv2 HV hacc;have Vt:k=9->decide (1<(q:Int))=false:=by intro h;simp;omega
     by_cases hk0:0<k
     ·have hq0:((q:Int) == 0)=false:=by rw[beq_eq_false_iff_ne];omega
      have Vu:decide (0<k)=true:=by simp;omega
      by_cases hk9:k=9
      ·have aa4:((k:Int) == 9)=true:=by rw[beq_iff_eq];omega
       have hq2:=Vt hk9;clear hbad hk9 Vt;generalize acc+q*128^k=v at *;go_wp2_with fail;go_ret3;exact⟨by rw[HF.out];rfl,rfl⟩
      ·have aa4:((k:Int) == 9)=false:=by rw[beq_eq_false_iff_ne];omega
       clear hbad hk9 Vt;generalize acc+q*128^k=v at *;go_wp2_with fail;go_ret3;exact⟨by rw[HF.out];rfl,rfl⟩
     ·have Vu:decide (0<k)=false:=by simp;omega
      have aa4:((k:Int) == 9)=false:=by rw[beq_eq_false_iff_ne];omega
      clear hbad hk0 Vt;generalize acc+q*128^k=v at *;go_wp2_with fail;go_ret3;exact⟨by rw[HF.out];rfl,rfl⟩
    ·rw[if_neg hsm]at hv2;have HF:=Lib.hid hv2;have e128:q % 128=q-128:=qO;rw[e128]at hg;have hk8:k<=8:=qO;have ahr:=Lib.hid (show acc+(q-128)*128^k<128^(k+1) by
      have h1:=hacc.out;have h2:(q-128)*128^k<=127*128^k:=vJ _ qO;rw[Nat.pow_succ];omega)
     have hq0:((q:Int) == 0)=false:=by rw[beq_eq_false_iff_ne];omega
     have aa4:((k:Int) == 9)=false:=by rw[beq_eq_false_iff_ne];omega
     clear hv2 HV hacc e128 hbad;generalize acc+(q-128)*128^k=v at *;by_cases hk0:0<k
     ·have Vu:decide (0<k)=true:=by simp;omega
      go_wp2_with fail
      go_round
      case rel=>exact⟨k+1,v,by go_num,rfl,rfl,rfl,by omega,by omega,ahr,HF.out⟩
      case measure=>simp[intOf];omega
     ·have Vu:decide (0<k)=false:=by simp;omega
      have HK:=Lib.hid hk0;clear hk0;go_wp2_with fail
      go_round
      case rel=>exact⟨k+1,v,by go_num,rfl,rfl,rfl,by omega,by omega,ahr,HF.out⟩
      case measure=>simp[intOf];omega
  ·obtain rfl:k=n:=qO;have hd:b.drop k=[]:=uI (by rw[eY,HN.out];omega);have HF:=Lib.hid (show dh b=(0,0,2) by rw[HV.out,hd];rfl);have fF:((k:Int) == (k:Int))=true:=by simp
   clear hd HV hlt;go_wp2_with fail;go_ret3;exact⟨by rw[HF.out];rfl,rfl⟩
def V3(n m:Nat)(l:List UInt8):Prop:=dK n=l++dK m/\m<18446744073709551616/\l.length+1<=10
def V3.next{n m:Nat}{l:List UInt8}(h:V3 n m l)(hm:¬m<128):V3 n (m / 128) (l++[iK (m % 128+128)]):=by
 obtain⟨h1,h2,h3⟩:=h;have hb:=RU m hm h2;refine⟨by rw[h1,hb,jV];rfl,by omega,?_⟩;have hs:=FI n;unfold gZ at hs;have hp:=Yv (m / 128);rw[h1,hb,bP,lT]at hs;rw[bP,List.length_singleton];omega
def Ry(n:Nat)(w:World)(h:Hid (n<18446744073709551616)) :
  Calls prog 173 #[.int .u64 n] w (aim w n):=by
 go_enter func173,ntmps173;go_wp2_with fail
 go_loopw [0,3] (λx b wr=>∃(m k:Nat) (A:Option Addr) (c:Nat) (l:List UInt8),x = .int .u64 m/\b = .slice A k c/\k<=9/\Hid (V3 n m l)/\Own wr w.heap.size A k c l/\Below w.heap.size w wr) (λx _ _=>(intOf x).toNat)
 case atStart=>exact⟨n,0,some ⟨w.heap.size,0,none⟩,0,[],rfl,rfl,by omega,Lib.hid ⟨rfl,h.out,by decide⟩,aeQ (bF _),(Below.refl _ _).alloc (bF _) _⟩
 case round=>
  obtain⟨m,k,A,c,l,rfl,rfl,hk,hv,oo,hb⟩:=hrel;have hmi:(m:Int)<=18446744073709551615:=by have:=hv.out.2.1;omega
  have hkl:=oo.1;by_cases hlt:m<128
  ·have hcell:(#[Value.int .u8 (m:Int)]:Array Value).toList.take [iK m].length=[iK m].map bv:=by
    simp[bv,wJ];omega
   have HC:=Lib.hid hcell;have hfin:=Lib.hid (show dK n=l++[iK m] by rw[hv.out.1,DW m hlt]);have hsz:=Lib.hid (show k+1=gZ n by unfold gZ;rw[hv.out.1,DW m hlt,bP,hkl];rfl);clear hcell hkl;go_wp2_with (at_builtin;refine app rfl (.tmp 16) (.tmp 19) rfl rfl (oo.alloc _) rfl rfl (Bs.new (Nat.lt_succ_self _) HC.out) qO (kE hb.size (by simp)) ?_;intro A2 c2 w2 o2 g2 _;have b2:Below w.heap.size w w2:=Own.grown (oo.alloc _) (hb.alloc hb.size _) g2);go_ret;refine⟨A2,c2,by rw[<-hsz.out];rfl,?_,b2⟩;rw[<-hsz.out,hfin.out];exact o2
  ·have hcell:(#[Value.int .u8 ((m:Int) % 128+128)]:Array Value).toList.take [iK (m % 128+128)].length=[iK (m % 128+128)].map bv:=by
    simp[bv,wJ];omega
   have HC:=Lib.hid hcell;have hnx:=hv.out.next hlt
   have hk8:k<=8:=by have:=hnx.2.2;rw[bP,hkl]at this;simp at this;omega
   have HX:=Lib.hid hnx;clear hcell hkl hnx;go_wp2_with (at_builtin;refine app rfl (.tmp 7) (.tmp 12) rfl rfl (oo.alloc _) rfl rfl (Bs.new (Nat.lt_succ_self _) HC.out) qO (kE hb.size (by simp)) ?_;intro A2 c2 w2 o2 g2 _;have b2:Below w.heap.size w w2:=Own.grown (oo.alloc _) (hb.alloc hb.size _) g2)
   go_roundw
   case rel=>exact⟨m / 128,k+1,A2,c2,_,by go_num,rfl,by omega,HX,o2,b2⟩
   case measure=>simp[intOf];omega
def PN(num aU:Int):Bool:=decide (1<=num/\num<=1000/\(aU=0\/aU=2))
def rF(num aU:Int):Nat:=(8*num+aU).toNat
def iC(num aU:Int):List UInt8×Nat:=if PN num aU=true then(dK (rF num aU),0) else([],1)
def gV(b:List UInt8):Nat×Nat×Nat×Nat:=
 if (dh b).2.2=0 then
  (if 1<=(dh b).1 / 8/\(dh b).1 / 8<=1000/\((dh b).1 % 8=0\/(dh b).1 % 8=2) then((dh b).1 / 8,(dh b).1 % 8,(dh b).2.1,0) else(0,0,0,6))
 else(0,0,0,(dh b).2.2)
def qi(b:List UInt8):Nat×Nat:=
 let t:=gV b
 if t.2.2.2=0 then
  let v:=dh (b.drop t.2.2.1)
  if v.2.2=0 then
   (if t.2.1=0 then(t.2.2.1+v.2.1,0) else if 16384<v.1 then(0,4) else if b.length-(t.2.2.1+v.2.1)<v.1 then(0,2) else(t.2.2.1+v.2.1+v.1,0))
  else(0,v.2.2)
 else(0,t.2.2.2)
def DU{fn:Func}{t u v x:Tmp}(h:fn.results=#[.tmp t,.tmp u,.tmp v,.tmp x])(tmps:Array Value)(P:Program)(w:World) :
  (results fn tmps).run P w = .ok (.tuple #[tmps.getD t undef,tmps.getD u undef,tmps.getD v undef,tmps.getD x undef]) w:=by
 simp[results,h]
def UE(w:World)(r:List UInt8×Nat)(e:Ending)(w':World):Prop:=
 ∃ A n c,e = .returned (.tuple #[.slice A n c,.int .i64 (r.2:Nat)])/\Own w' w.heap.size A n c r.1/\Below w.heap.size w w'
def alR(num aU:Int)(w:World)(h1 : -9223372036854775808<=num/\num<=9223372036854775807)(h2 : -9223372036854775808<=aU/\aU<=9223372036854775807) :
  Calls prog 219 #[.int .i64 num,.int .i64 aU] w (UE w (iC num aU)):=by
 by_cases h:PN num aU=true
 ·have hf:iC num aU=(dK (rF num aU),0):=if_pos h;have h':=fU h;have HF:=Lib.hid hf;have hn:=Lib.hid (show((rF num aU:Nat):Int)=8*num+aU by unfold rF;omega);have hlt:=Lib.hid (show rF num aU<18446744073709551616 by unfold rF;omega);have q1:¬num<1:=qO;have q2:¬1000<num:=qO;have q3:IntKind.i64.wrap (8*num)=8*num:=IntWalk.i64_in _ qO;have q4:IntKind.i64.wrap (8*num+aU)=8*num+aU:=IntWalk.i64_in _ qO;have q5:IntKind.u64.wrap (8*num+aU)=((rF num aU:Nat):Int):=by rw[hn.out];exact IntWalk.u64_in _ qO
  go_enter func219,ntmps219;have hw:=h'.2.2;clear h h' hf;obtain rfl|rfl:=hw
  all_goals
   go_wp2_with fail;first
    |rw[show(8*num:Int)=((rF num 0:Nat):Int) by rw[hn.out];omega]
    |rw[<-hn.out]
   refine(adm _ _ hlt).mono ?_;rintro e w1 ⟨A,c,rfl,o1,b1⟩;go_wp2_with fail;go_ret2;exact⟨A,_,c,by rw[HF.out];rfl,by rw[HF.out];exact o1,b1⟩
 ·have hf:iC num aU=([],1):=if_neg h;have h':¬(1<=num/\num<=1000/\(aU=0\/aU=2)):=λhh=>h (aX hh)
  go_enter func219,ntmps219;have IP:UE w (iC num aU) (.returned (.tuple #[.slice none 0 0,.int .i64 1])) w:=⟨none,0,0,by rw[hf];rfl,by rw[hf];exact FY _ _ _,Below.refl _ _⟩;clear h hf;by_cases c1:num<1
  ·clear h';go_wp2_with fail;go_ret2;exact IP
  ·by_cases c2:1000<num
   ·clear h';go_wp2_with fail;go_ret2;exact IP
   ·have c3:aU≠0:=λe=>h' ⟨by omega,by omega,.inl e⟩
    have c4:aU≠2:=λe=>h' ⟨by omega,by omega,.inr e⟩
    have d3:(aU != 0)=true:=by simp[c3]
    have d4:(aU != 2)=true:=by simp[c4]
    clear h';go_wp2_with fail;go_ret2;exact IP
def acC(A:Option Addr)(b:List UInt8)(n c:Nat)(w:World)(hn:b.length=n)(hm:n<=9223372036854775807)(hA:Bs w w.heap.size A b) :
  Calls prog 227 #[.slice A n c] w λe w'=>e = .returned (.tuple #[.int .i64 ((gV b).1:Nat),.int .i64 ((gV b).2.1:Nat),.int .i64 ((gV b).2.2.1:Nat),.int .i64 ((gV b).2.2.2:Nat)])/\w=w':=by
 have HV:=Lib.hid (W9 A b n c w hn hm hA);go_enter func227,ntmps227;go_wp2_with fail;refine HV.out.mono ?_;rintro e w1 ⟨rfl,rfl⟩;by_cases h0:(dh b).2.2=0
 ·obtain⟨-,-,-,-,hlt,-⟩:=FH b h0;rcases hv:dh b with ⟨v,size,er⟩
  simp only[hv]at h0 hlt ⊢;subst h0;have HT:=Lib.hid (show gV b=if 1<=v / 8/\v / 8<=1000/\(v % 8=0\/v % 8=2) then(v / 8,v % 8,size,0) else(0,0,0,6) by unfold gV;rw[hv];rfl);clear hv;by_cases hg:1<=v / 8/\v / 8<=1000/\(v % 8=0\/v % 8=2)
  ·have HF0:=(show gV b=(v / 8,v % 8,size,0) by rw[HT.out,if_pos hg]);clear HT;obtain⟨g1,g2,g3⟩:=hg;have gi:(v:Int)<=8007:=qO;obtain g3|g3:=g3
   all_goals
    rw[g3]at HF0;have HF:=Lib.hid HF0;clear HF0;have e8:(v:Int) % 8=((v % 8:Nat):Int):=qO;rw[g3]at e8;clear g3;go_wp2_with fail;refine bodyPost_ret (DU rfl _ _ _) rfl ?_;exact⟨by rw[HF.out];rfl,rfl⟩
  ·have HF:=Lib.hid (show gV b=(0,0,0,6) by rw[HT.out,if_neg hg]);clear HT;by_cases c1:v / 8<1
   ·have c1':(v:Int)<8:=qO;clear hg c1;go_wp2_with fail;refine bodyPost_ret (DU rfl _ _ _) rfl ?_;exact⟨by rw[HF.out];rfl,rfl⟩
   ·by_cases c2:1000<v / 8
    ·have c2':8008<=(v:Int):=qO;clear hg c1 c2;go_wp2_with fail;refine bodyPost_ret (DU rfl _ _ _) rfl ?_;exact⟨by rw[HF.out];rfl,rfl⟩
    ·have d3:((v:Int) % 8 != 0)=true:=by simp;omega
     have d4:((v:Int) % 8 != 2)=true:=by simp;omega
     clear hg c1 c2;go_wp2_with fail;all_goals
      refine bodyPost_ret (DU rfl _ _ _) rfl ?_;exact⟨by rw[HF.out];rfl,rfl⟩
 ·have HF:gV b=(0,0,0,(dh b).2.2):=by unfold gV;rw[if_neg h0]
  have HG:=Lib.hid HF;generalize (dh b).2.2=e2 at *;go_wp2_with fail;refine bodyPost_ret (DU rfl _ _ _) rfl ?_;exact⟨by rw[HG.out];rfl,rfl⟩
def ab3(b:List UInt8){num aU size:Nat}(h:gV b=(num,aU,size,0)):1<=size/\size<=b.length:=by
 unfold gV at h;by_cases h0:(dh b).2.2=0
 ·obtain⟨h1,h2,-⟩:=FH b h0;rw[if_pos h0]at h;split at h
  ·simp only[Prod.mk.injEq]at h;omega
  ·simp at h
 ·rw[if_neg h0]at h;simp only[Prod.mk.injEq]at h;omega
def ajf(g h gb off:Nat)(b:List UInt8)(n c size:Nat)(w:World)(hn:b.length=n)(hnc:n<=c)(hm:n<=9223372036854775807)(hs:size<=n)(hA:Bs w w.heap.size (some ⟨gb,off,none⟩) b)
  (hc:w.cell? ⟨g,0,none⟩=some (.slice (some ⟨gb,off,none⟩) n c)) (hk:qc w h 3 #[.int .i64 (size:Nat)]) :
  Calls prog 228 #[.pointer (some ⟨g,0,none⟩),.pointer (some ⟨h,0,none⟩)] w λe w'=>
   e = .returned (.tuple #[.int .u64 ((dh (b.drop size)).1:Nat),.int .i64 ((dh (b.drop size)).2.2:Nat)])/\w'=w.setCell ⟨h,0,none⟩ (.int .i64 ((size+(dh (b.drop size)).2.1:Nat):Int)):=by
 have HV:=Lib.hid (λA' c' (h:Bs w w.heap.size A' (b.drop size))=>W9 A' (b.drop size) (n-size) c' w (by rw[eY,hn]) qO h);have hd:=Lib.hid (hA.drop size);have he:=Lib.hid (λ(hz:n<=size) A'=>(λhl=>ai hl (by rw[eY];omega):Bs w w.heap.size A' (b.drop size)));have hle:size+(dh (b.drop size)).2.1<=n:=by
  by_cases h0:(dh (b.drop size)).2.2=0
  ·obtain⟨-,h2,-⟩:=FH _ h0;rw[eY]at h2;omega
  ·obtain h|h|h:=MR (b.drop size)
   ·exact ai h h0
   ·rw[h];exact hs
   ·rw[h];exact hs
 generalize dh (b.drop size)=z at *;obtain⟨z1,z2,z3⟩:=z;have hk0:=hk.cell 0;have hkf:=hk.free 0;have hsi:((size:Nat):Int)<=(n:Int):=qO;have hle2:((size:Nat):Int)+((z2:Nat):Int)<=9223372036854775807:=by simp at hle;omega
 clear hA hle;go_enter func228,ntmps228;go_wp2_with fail;all_goals
  refine(HV.out _ _ (by first|exact hd.out|exact he.out qo _)).mono ?_;rintro e w1 ⟨rfl,rfl⟩;go_wp2_with fail;go_ret2;exact⟨rfl,rfl⟩
def aka(A:Option Addr)(b:List UInt8)(n c:Nat)(w:World)(hn:b.length=n)(hnc:n<=c)(hm:n<=9223372036854775807)(hA:Bs w w.heap.size A b) :
  Calls prog 202 #[.slice A n c] w λe w'=>e = .returned (.tuple #[.int .i64 ((qi b).1:Nat),.int .i64 ((qi b).2:Nat)])/\Below w.heap.size w w':=by
 have HS:=Lib.hid (λnum aU size (h:gV b=(num,aU,size,0))=>ab3 b h);have HV:=Lib.hid (λw' (hb:Below w.heap.size w w')=>acC A b n c w' hn hm ((hA.below hb).more hb.size));go_enter func202,ntmps202;go_wp2_with fail;refine(HV.out _ ((Below.refl _ _).alloc (bF _) _)).mono ?_;rintro e w1 ⟨rfl,rfl⟩;by_cases h0:(gV b).2.2.2=0
 ·rcases ht:gV b with ⟨num,aU,size,er⟩
  simp only[ht]at h0 ⊢;subst h0;have HT:=Lib.hid ht;clear ht;obtain⟨s1,s2⟩:=HS.out num aU size HT.out;have hb:0<b.length:=qO;obtain⟨gb,off,rfl,hgb,-⟩:=id hA hb;have HB:=Lib.hid hA;go_wp2_with fail;have bb:Below w.heap.size w ((w.alloc (.cells #[.slice (some ⟨gb,off,none⟩) n c] 48)).alloc (.cells #[.int .i64 size] 3)):=((Below.refl _ _).alloc (bF _) _).alloc (by simp) _;refine(ajf w.heap.size (w.heap.size+1) gb off b n c size _ hn hnc hm qO ((HB.out.below bb).more bb.size) ?_ ?_).mono ?_
  ·exact(((qc.new w _ _).alloc _).cell 0)
  ·have:=qc.new (w.alloc (.cells #[.slice (some ⟨gb,off,none⟩) n c] 48)) 3 #[.int .i64 (size:Nat)];rw[World.size_alloc]at this;exact this
  rintro e w2 ⟨rfl,rfl⟩;have hk1:=qc.new (w.alloc (.cells #[.slice (some ⟨gb,off,none⟩) n c] 48)) 3 #[.int .i64 (size:Nat)];rw[World.size_alloc]at hk1;have hle:size+(dh (b.drop size)).2.1<=n:=by
   by_cases h0:(dh (b.drop size)).2.2=0
   ·obtain⟨-,h2,-⟩:=FH _ h0;rw[eY]at h2;omega
   ·obtain h|h|h:=MR (b.drop size)
    ·exact ai h h0
    ·rw[h];simp;omega
    ·rw[h];simp;omega
  rcases hz:dh (b.drop size) with ⟨z1,z2,z3⟩
  simp only[hz]at hle ⊢;have bb2:Below w.heap.size w ((w.alloc (.cells #[.slice (some ⟨gb,off,none⟩) n c] 48)).alloc (.cells #[.int .i64 ((size:Int)+(z2:Int))] 3)):=((Below.refl _ _).alloc (bF _) _).alloc (by simp) _;have hk2:=(hk1.set 0 (.int .i64 ((size:Int)+(z2:Int)))).cell 0;have HZ:=Lib.hid hz;clear hz hk1;have HF:=Lib.hid (show qi b=if z3=0 then(if aU=0 then(size+z2,0) else if 16384<z1 then(0,4) else if b.length-(size+z2)<z1 then(0,2) else(size+z2+z1,0)) else(0,z3) by unfold qi;simp only[HT.out,HZ.out];simp);by_cases e0:z3=0
  ·subst e0;by_cases w0:aU=0
   ·subst w0;go_wp2_with fail;go_ret2;exact⟨by rw[HF.out];rfl,bb2⟩
   ·have w1:((aU:Int) == 0)=false:=by simp;omega
    by_cases g1:16384<z1
    ·have HF2:=Lib.hid (show qi b=(0,4) by rw[HF.out];simp[w0,g1]);have g2:(16384:Int)<(z1:Int):=qO;clear g1 w0;go_wp2_with fail;go_ret2;exact⟨by rw[HF2.out];rfl,bb2⟩
    ·have g2:(z1:Int)<=16384:=qO;by_cases g3:b.length-(size+z2)<z1
     ·have HF2:=Lib.hid (show qi b=(0,2) by rw[HF.out];simp[w0,g1,g3]);have g4:(n:Int)-((size:Int)+(z2:Int))<(z1:Int):=qO;clear g1 w0 g3;go_wp2_with fail;go_ret2;exact⟨by rw[HF2.out];rfl,bb2⟩
     ·have HF2:=Lib.hid (show qi b=(size+z2+z1,0) by rw[HF.out];simp[w0,g1,g3]);have g4:(z1:Int)<=(n:Int)-((size:Int)+(z2:Int)):=qO;clear g1 w0 g3;go_wp2_with fail;go_ret2;exact⟨by rw[HF2.out];rfl,bb2⟩
  ·have HF2:=Lib.hid (show qi b=(0,z3) by rw[HF.out,if_neg e0]);go_wp2_with fail;go_ret2;exact⟨by rw[HF2.out];rfl,bb2⟩
 ·have HG:=Lib.hid (show qi b=(0,(gV b).2.2.2) by unfold qi;simp only[];rw[if_neg h0]);generalize (gV b).2.2.2=e2 at *;go_wp2_with fail;go_ret2;exact⟨by rw[HG.out];rfl,((Below.refl w.heap.size w).alloc (bF _) _).alloc (by simp) _⟩
structure Touch (w w':World) (g:Nat) (q:Option Nat):Prop where
 os:w'.os=w.os
 tape:w'.tape=w.tape
 output:w'.output=w.output
 size:w.heap.size<=w'.heap.size
 block:∀ k,k<w.heap.size->k≠g->some k≠q->w'.heap[k]?=w.heap[k]?
def Touch.set{w w':World}{g:Nat}{q:Option Nat}(h:Touch w w' g q)(i:Nat)(u:Value):Touch w (w'.setCell ⟨g,i,none⟩ u) g q:=
 ⟨h.os,h.tape,h.output,by simp;exact h.size,λk hk h1 h2=>(Below.heap_setCell w' ⟨g,i,none⟩ u k h1).trans (h.block k hk h1 h2)⟩
def Own.row{w:World}{base n c:Nat}{A:Option Addr}{l:List UInt8}(h:Own w base A n c l):∀ k,(Value.slice A n c).ownBlock=some k->base<=k/\k<w.heap.size/\∃ cs,w.heap[k]?=some (.cells cs 5 (0,0)):=h.ov.row
def conv{w:World}{B n c:Nat}{A:Option Addr}{l:List UInt8}(hn:l.length=n)(hA:Bs w B A l):(convert 48 9 (.slice A n c)).run prog w = .ok (.string (jr l)) w:=
 QE _ _ _ underlying48 underlying5 underlying9 hn hA
def ajY(b:List UInt8)(k:Nat)(h:k<b.length):jR (b.take (k+1))=jR (b.take k)+(b.getD k 0).toNat % 128*128^k:=by
 rw[List.take_succ_eq_append_getElem h,V9,bn,dV h,dG,Nat.min_eq_left qO];simp only[jR,Option.getD_some,Nat.mul_zero,Nat.add_zero];rw[Nat.mul_comm]
def abu(n:Nat):IntKind.u64.wrap (n:Int)=((n % 18446744073709551616:Nat):Int):=by
 rw[IntKind.wrap_u64];omega
def asK(v q k:Nat):IntKind.u64.wrap (((v % 18446744073709551616:Nat):Int)+IntKind.u64.wrap ((q:Int) % 128*2^(7*k)))=(((v+q % 128*128^k) % 18446744073709551616:Nat):Int):=by
 have e1:(2:Int)^(7*k)=((128^k:Nat):Int):=by rw[Int.pow_mul];norm_cast
 have e0:(q:Int) % 128=((q % 128:Nat):Int):=qO;rw[e1,e0,<-Int.natCast_mul,abu,<-Int.natCast_add,abu,<-Nat.add_mod]
def Xh(A:Option Addr)(b:List UInt8)(n c:Nat)(w:World)(hn:b.length=n)(hnc:n<=c)(hm:n<=1000000)(hA:Bs w w.heap.size A b) :
  Calls prog 121 #[.slice A n c] w λe w'=>e = .returned (.tuple #[.int .u64 ((dh b).1:Nat),.int .i64 ((dh b).2.1:Nat),.int .i64 ((dh b).2.2:Nat)])/\Below w.heap.size w w':=by
 have HN:=Lib.hid hn;clear hn;go_enter func121,ntmps121;go_wp2_with fail
 go_loop [5,6] (λa i=>∃ k v:Nat,i = .int .i64 k/\a = .int .u64 v/\k<=10/\k<=n/\Hid (v=jR (b.take k) % 18446744073709551616/\∀ i,i<k->128<=(b.getD i 0).toNat)) (λ_ i=>10-(intOf i).toNat)
 case atStart=>exact⟨0,0,rfl,rfl,by omega,by omega,Lib.hid ⟨rfl,λi hi=>ai hi qO⟩⟩
 case round=>
  obtain⟨k,v,rfl,rfl,hk,hkn,hv⟩:=hrel;by_cases h10:k<10
  ·by_cases hlt:k<n
   ·have hA0:=hA;obtain⟨g,off,rfl,hg,hc⟩:=hA (by rw[HN.out];omega);have ck:=hc k (by rw[HN.out];omega);have hvs:=ajY b k (by rw[HN.out];omega);have hrg:=asK (jR (b.take k)) (b.getD k 0).toNat k;rw[<-hvs,<-hv.out.1]at hrg;have hql:=(b.getD k 0).toNat_lt;by_cases hsm:(b.getD k 0).toNat<128
    ·have ah6:=Lib.hid (ajZ b k (by rw[HN.out];omega) hv.out.2 hsm);have hzl:=Lib.hid (show jR (b.take (k+1)) % 18446744073709551616<18446744073709551616 from Nat.mod_lt _ qD);have hbl:=Lib.hid (show(b.take (k+1)).length=k+1 by rw[dG];have:=HN.out;omega);have s1:=Lib.hid (hA0.take (k+1));clear hc hA hA0 hvs hv;generalize jR (b.take (k+1)) % 18446744073709551616=z at *;generalize (b.getD k 0).toNat=q at *;have hkc:k+1<=c:=qO;have b0:Below w.heap.size w w.drew:=(Below.refl _ _).drew;have h0:(convert 48 9 (.slice (some ⟨g,off,none⟩) (k+1) c)).run prog w.drew = .ok (.string (jr (b.take (k+1)))) w.drew:=conv hbl.out (s1.out.below b0)
     have hse:=str_eq (dK z) (b.take (k+1));have hi1:(0:Int)<=(k:Int)+1:=qO;have hi2:(k:Int)+1<=(c:Int):=qO;have hi3:IntKind.i64.wrap ((k:Int)+1)=(k:Int)+1:=IntWalk.i64_in _ qO;have hi4:((k:Int)+1).toNat=k+1:=qO;go_wp2_with fail;by_cases heq:dK z=b.take (k+1)
     ·have HF:=Lib.hid (show dh b=(z,k+1,0) by rw[ah6.out,if_pos heq]);have hdec:(!(dK z == b.take (k+1)))=false:=by rw[o9,beq_iff_eq];exact heq
      clear heq
      go_region_with (first|(go_at_call 173;refine(Ry z _ hzl).mono ?_;rintro e w1 ⟨A1,c1,rfl,o1,d1⟩;have b1:Below w.heap.size w w1:=b0.trans d1;have h1:(convert 48 9 (.slice (some ⟨g,off,none⟩) (k+1) c)).run prog w1 = .ok (.string (jr (b.take (k+1)))) w1:=conv hbl.out (s1.out.below b1);have h2:(convert 48 9 (.slice A1 (gZ z) c1)).run prog w1 = .ok (.string (jr (dK z))) w1:=conv rfl o1.bs))
      all_goals
       go_wp2;go_ret3;exact⟨by rw[HF.out];rfl,b1⟩
     ·have HF:=Lib.hid (show dh b=(0,0,3) by rw[ah6.out,if_neg heq]);have hdec:(!(dK z == b.take (k+1)))=true:=by rw[nY,beq_eq_false_iff_ne];exact heq
      clear heq
      go_region_with (first|(go_at_call 173;refine(Ry z _ hzl).mono ?_;rintro e w1 ⟨A1,c1,rfl,o1,d1⟩;have b1:Below w.heap.size w w1:=b0.trans d1;have h1:(convert 48 9 (.slice (some ⟨g,off,none⟩) (k+1) c)).run prog w1 = .ok (.string (jr (b.take (k+1)))) w1:=conv hbl.out (s1.out.below b1);have h2:(convert 48 9 (.slice A1 (gZ z) c1)).run prog w1 = .ok (.string (jr (dK z))) w1:=conv rfl o1.bs))
      all_goals
       go_wp2;go_ret3;exact⟨by rw[HF.out];rfl,b1⟩
    ·have hall:=Lib.hid (show jR (b.take (k+1)) % 18446744073709551616=jR (b.take (k+1)) % 18446744073709551616/\∀ i,i<k+1->128<=(b.getD i 0).toNat by
      refine⟨rfl,λi hi=>?_⟩;by_cases he:i=k
      ·subst he;omega
      ·exact hv.out.2 i qO)
     clear hc hA hA0 hvs;generalize hz:jR (b.take (k+1)) % 18446744073709551616=z at *;have HZ:=Lib.hid hz;clear hz;generalize (b.getD k 0).toNat=q at *;go_wp2_with fail
     go_round
     case rel=>exact⟨k+1,z,by go_num,rfl,by omega,by omega,Lib.hid ⟨HZ.out.symm,hall.out.2⟩⟩
     case measure=>simp[intOf];omega
   ·obtain rfl:k=n:=qO;have hf:=Lib.hid ((We b).2 ⟨λx hx=>by
     obtain⟨i,hi,rfl⟩:=List.getElem_of_mem hx;have h:=hv.out.2 i (by have:=HN.out;omega);rwa [bn,dV hi]at h,by rw[HN.out];omega⟩)
    go_wp2_with fail;go_ret3;exact⟨by rw[hf.out];rfl,Below.refl _ _⟩
  ·obtain rfl:k=10:=qO;have hf:dh b=(0,0,3):=by
    obtain h|h|h:=MR b
    ·obtain⟨h1,_,h3,_,_,_,h7,_⟩:=FH b h;have:=hv.out.2 ((dh b).2.1-1) qO;omega
    ·have:=((We b).1 h).2;rw[HN.out]at this;omega
    ·exact h
   have HF:=Lib.hid hf;clear hf;go_wp2_with fail;go_ret3;exact⟨by rw[HF.out];rfl,Below.refl _ _⟩
def Xg(num aU:Int)(w:World)(h1 : -9223372036854775808<=num/\num<=9223372036854775807)(h2 : -9223372036854775808<=aU/\aU<=9223372036854775807) :
  Calls prog 172 #[.int .i64 num,.int .i64 aU] w (UE w (iC num aU)):=by
 by_cases h:PN num aU=true
 ·have hf:iC num aU=(dK (rF num aU),0):=if_pos h;have h':=fU h;have HF:=Lib.hid hf;have hn:=Lib.hid (show((rF num aU:Nat):Int)=8*num+aU by unfold rF;omega);have hlt:=Lib.hid (show rF num aU<18446744073709551616 by unfold rF;omega);have q1:¬num<1:=qO;have q2:¬1000<num:=qO;have q3:IntKind.i64.wrap (8*num)=8*num:=IntWalk.i64_in _ qO;have q4:IntKind.i64.wrap (8*num+aU)=8*num+aU:=IntWalk.i64_in _ qO;have q5:IntKind.u64.wrap (8*num+aU)=((rF num aU:Nat):Int):=by rw[hn.out];exact IntWalk.u64_in _ qO
  go_enter func172,ntmps172;have hw:=h'.2.2;clear h h' hf;obtain rfl|rfl:=hw
  all_goals
   go_wp2_with fail;first
    |rw[show(8*num:Int)=((rF num 0:Nat):Int) by rw[hn.out];omega]
    |rw[<-hn.out]
   refine(Ry _ _ hlt).mono ?_;rintro e w1 ⟨A,c,rfl,o1,b1⟩;go_wp2_with fail;go_ret2;exact⟨A,_,c,by rw[HF.out];rfl,by rw[HF.out];exact o1,b1⟩
 ·have hf:iC num aU=([],1):=if_neg h;have h':¬(1<=num/\num<=1000/\(aU=0\/aU=2)):=λhh=>h (aX hh)
  go_enter func172,ntmps172;have IP:UE w (iC num aU) (.returned (.tuple #[.slice none 0 0,.int .i64 1])) w:=⟨none,0,0,by rw[hf];rfl,by rw[hf];exact FY _ _ _,Below.refl _ _⟩;clear h hf;by_cases c1:num<1
  ·clear h';go_wp2_with fail;go_ret2;exact IP
  ·by_cases c2:1000<num
   ·clear h';go_wp2_with fail;go_ret2;exact IP
   ·have c3:aU≠0:=λe=>h' ⟨by omega,by omega,.inl e⟩
    have c4:aU≠2:=λe=>h' ⟨by omega,by omega,.inr e⟩
    have d3:(aU != 0)=true:=by simp[c3]
    have d4:(aU != 2)=true:=by simp[c4]
    clear h';go_wp2_with fail;go_ret2;exact IP
def ace(A:Option Addr)(b:List UInt8)(n c:Nat)(w:World)(hn:b.length=n)(hnc:n<=c)(hm:n<=1000000)(hA:Bs w w.heap.size A b) :
  Calls prog 120 #[.slice A n c] w λe w'=>e = .returned (.tuple #[.int .i64 ((gV b).1:Nat),.int .i64 ((gV b).2.1:Nat),.int .i64 ((gV b).2.2.1:Nat),.int .i64 ((gV b).2.2.2:Nat)])/\Below w.heap.size w w':=by
 have HV:=Lib.hid (Xh A b n c w hn hnc hm hA);go_enter func120,ntmps120;go_wp2_with fail;refine HV.out.mono ?_;rintro e w1 ⟨rfl,b1⟩;by_cases h0:(dh b).2.2=0
 ·obtain⟨-,-,-,-,hlt,-⟩:=FH b h0;rcases hv:dh b with ⟨v,size,er⟩
  simp only[hv]at h0 hlt ⊢;subst h0;have HT:=Lib.hid (show gV b=if 1<=v / 8/\v / 8<=1000/\(v % 8=0\/v % 8=2) then(v / 8,v % 8,size,0) else(0,0,0,6) by unfold gV;rw[hv];rfl);clear hv;by_cases hbig:8008<=v
  ·have HF:=Lib.hid (show gV b=(0,0,0,6) by rw[HT.out,if_neg qO]);have hb2:(8008:Int)<=(v:Int):=qO;clear HT hbig;go_wp2_with fail;refine bodyPost_ret (DU rfl _ _ _) rfl ?_;exact⟨by rw[HF.out];rfl,b1⟩
  ·have hb2:(v:Int)<8008:=qO;clear hbig;have f1:IntKind.i64.wrap ((v:Int) / 8)=(v:Int) / 8:=IntWalk.i64_in _ qO;have f2:IntKind.i64.wrap ((v:Int) % 8)=(v:Int) % 8:=IntWalk.i64_in _ qO;have HP:=Lib.hid (λw=>Xg ((v:Int) / 8) ((v:Int) % 8) w qO qO);by_cases hg:PN ((v:Int) / 8) ((v:Int) % 8)=true
   ·have hp':(iC ((v:Int) / 8) ((v:Int) % 8)).2=0:=by unfold iC;rw[if_pos hg]
    have hp:=Lib.hid hp';clear hp';have HF:=Lib.hid (show gV b=(v / 8,v % 8,size,0) by rw[HT.out,if_pos (by have:=fU hg;omega)]);clear HT hg;go_wp2_with fail;refine(HP.out _).mono ?_;rintro e w2 ⟨A2,n2,c2,rfl,o2,b2⟩;rw[hp.out];go_wp2_with fail;refine bodyPost_ret (DU rfl _ _ _) rfl ?_;exact⟨by rw[HF.out];rfl,b1.trans (b2.mono b1.size)⟩
   ·have hp':(iC ((v:Int) / 8) ((v:Int) % 8)).2=1:=by unfold iC;rw[if_neg hg]
    have hp:=Lib.hid hp';clear hp';have HF:=Lib.hid (show gV b=(0,0,0,6) by rw[HT.out,if_neg (λh=>hg (aX qO))]);clear HT hg;go_wp2_with fail;refine(HP.out _).mono ?_;rintro e w2 ⟨A2,n2,c2,rfl,o2,b2⟩;rw[hp.out];go_wp2_with fail;refine bodyPost_ret (DU rfl _ _ _) rfl ?_;exact⟨by rw[HF.out];rfl,b1.trans (b2.mono b1.size)⟩
 ·have HG:=Lib.hid (show gV b=(0,0,0,(dh b).2.2) by unfold gV;rw[if_neg h0]);generalize (dh b).2.2=e2 at *;go_wp2_with fail;refine bodyPost_ret (DU rfl _ _ _) rfl ?_;exact⟨by rw[HG.out];rfl,b1⟩
def ajp(A:Option Addr)(b:List UInt8)(n c:Nat)(w:World)(hn:b.length=n)(hnc:n<=c)(hm:n<=1000000)(hA:Bs w w.heap.size A b) :
  Calls prog 119 #[.slice A n c] w λe w'=>e = .returned (.tuple #[.int .i64 ((qi b).1:Nat),.int .i64 ((qi b).2:Nat)])/\Below w.heap.size w w':=by
 have HV:=Lib.hid (ace A b n c w hn hnc hm hA);have HS:=Lib.hid (λnum aU size (h:gV b=(num,aU,size,0))=>ab3 b h);go_enter func119,ntmps119;go_wp2_with fail;refine HV.out.mono ?_;rintro e w1 ⟨rfl,b1⟩;by_cases h0:(gV b).2.2.2=0
 ·rcases ht:gV b with ⟨num,aU,size,er⟩
  simp only[ht]at h0 ⊢;subst h0;have HT:=Lib.hid ht;clear ht;obtain⟨s1,s2⟩:=HS.out num aU size HT.out;have hb:0<b.length:=qO;obtain⟨gb,off,rfl,hgb,-⟩:=id hA hb;have hA1:=(hA.below b1).more b1.size;have HR:=Lib.hid (λA' c' (h:Bs w1 w1.heap.size A' (b.drop size)) (hc':n-size<=c')=>Xh A' (b.drop size) (n-size) c' w1 (by rw[eY,hn]) hc' qO h);have hd:=Lib.hid (hA1.drop size);have he:=Lib.hid (λ(hz:n<=size) A'=>(λhl=>ai hl (by rw[eY];omega):Bs w1 w1.heap.size A' (b.drop size)));have hle:size+(dh (b.drop size)).2.1<=n:=by
   by_cases h0:(dh (b.drop size)).2.2=0
   ·obtain⟨-,h2,-⟩:=FH _ h0;rw[eY]at h2;omega
   ·obtain h|h|h:=MR (b.drop size)
    ·exact ai h h0
    ·rw[h];simp;omega
    ·rw[h];simp;omega
  have s2i:(size:Int)<=(n:Int):=qO;rcases hz:dh (b.drop size) with ⟨z1,z2,z3⟩
  simp only[hz]at hle HR;have HZ:=Lib.hid hz;clear hz hA hA1 hgb hb;have HF:=Lib.hid (show qi b=if z3=0 then(if aU=0 then(size+z2,0) else if 16384<z1 then(0,4) else if b.length-(size+z2)<z1 then(0,2) else(size+z2+z1,0)) else(0,z3) by unfold qi;simp only[HT.out,HZ.out];simp);have fin:∀ w2,Below w1.heap.size w1 w2->Below w.heap.size w w2:=λw2 h=>b1.trans (h.mono b1.size)
  have FIN:=Lib.hid fin;clear fin;go_wp2_with fail;all_goals
   refine(HR.out _ _ (by first|exact hd.out|exact he.out qo _) qo).mono ?_;rintro e w2 ⟨rfl,b2⟩;by_cases e0:z3=0
   ·subst e0;by_cases w0:aU=0
    ·subst w0;go_wp2_with fail;go_ret2;exact⟨by rw[HF.out];rfl,FIN.out _ b2⟩
    ·have w1:((aU:Int) == 0)=false:=by simp;omega
     by_cases g1:16384<z1
     ·have HF2:=Lib.hid (show qi b=(0,4) by rw[HF.out];simp[w0,g1]);have g2:(16384:Int)<(z1:Int):=qO;clear g1 w0;go_wp2_with fail;go_ret2;exact⟨by rw[HF2.out];rfl,FIN.out _ b2⟩
     ·have g2:(z1:Int)<=16384:=qO;by_cases g3:b.length-(size+z2)<z1
      ·have HF2:=Lib.hid (show qi b=(0,2) by rw[HF.out];simp[w0,g1,g3]);have g4:(n:Int)-(size:Int)-(z2:Int)<(z1:Int):=qO;clear g1 w0 g3;go_wp2_with fail;go_ret2;exact⟨by rw[HF2.out];rfl,FIN.out _ b2⟩
      ·have HF2:=Lib.hid (show qi b=(size+z2+z1,0) by rw[HF.out];simp[w0,g1,g3]);have g4:(z1:Int)<=(n:Int)-(size:Int)-(z2:Int):=qO;clear g1 w0 g3;go_wp2_with fail;go_ret2;exact⟨by rw[HF2.out];rfl,FIN.out _ b2⟩
   ·have HF2:=Lib.hid (show qi b=(0,z3) by rw[HF.out,if_neg e0]);go_wp2_with fail;go_ret2;exact⟨by rw[HF2.out];rfl,FIN.out _ b2⟩
 ·have HG:=Lib.hid (show qi b=(0,(gV b).2.2.2) by unfold qi;simp only[];rw[if_neg h0]);generalize (gV b).2.2.2=e2 at *;go_wp2_with fail;go_ret2;exact⟨by rw[HG.out];rfl,b1⟩
def wI{f:Nat}{fn:Func}{c:Code}(hf:prog.funcs[f]?=some fn)(hb:fn.body=some c)(hname:(fn.name == "runtime.NumGoroutine")=false):xy f:=by
 unfold xy;rw[hf,qg,hb,hname];rfl
def ain(F:Nat->Prop)(w w':World)(b:Nat):Prop:=F b\/(w.heap.size<=b/\b<w'.heap.size)
def af.data{f:Nat}{args:List V}{r:V}(hc:xy f)
  (h:∀(G:Gh) (w:World) (us:List Value),(∀ b,G.F b->b<w.heap.size)->us.length=args.length->(∀(k:Nat) (v:V) (u:Value),args[k]?=some v->us[k]?=some u->aY G e0.get w v u) ->
   Calls prog f us.toArray w λe w'=>∃ v,e = .returned v/\Below w.heap.size w w'/\aY ⟨ain G.F w w',G.ρ⟩ e0.get w' r v):aQ f args r:=
 ⟨hc,λG w us hg hl hv=>(h G w us hg.axy.wF hl hv).mono λe w' ⟨v,e1,e2,e3⟩=>by
  obtain⟨h1,h2⟩:=Nw hg e2;exact⟨v,r,e0,_,e1,⟨rfl,rfl⟩,h1,h2,e3⟩⟩
def F7{F:Nat->Prop}{w:World}{b:List UInt8}{u:Value}(h:jK F w (bW b) u):∃ A n c,u = .slice A n c/\b.length=n/\n<=c/\c<=maxLen/\Bs w w.heap.size A b:=by
 obtain⟨A,c,rfl,h1,h2,h3,h4⟩:=h;refine⟨A,_,c,rfl,rfl,h1,h2,λhp=>?_⟩;obtain⟨g,off,x,rfl,hf,hb,_⟩:=h4 0 hp 0 qO;refine⟨g,off,rfl,hb,λi hi=>?_⟩;obtain⟨g',off',x',e,_,_,hc',_,hd⟩:=h4 i hi 0 qO;injection e with e
 injection e with e1 e2
 subst e1 e2;rw[Nat.mul_one,Nat.add_zero]at hc';rw[hc'];exact ah some hd
def NP{F:Nat->Prop}{w w':World}{A:Option Addr}{n c:Nat}{l:List UInt8}(h:Own w' w.heap.size A n c l):jK (ain F w w') w' (bW l) (.slice A n c):=by
 have hl:=Ob.len h;have hcap:=atW h;refine⟨A,c,by rw[hl],by omega,hcap.2,λe=>?_,λj hj k hk=>?_⟩
 ·obtain⟨hn,hlen,hv⟩:=h;obtain⟨hv,h0⟩|⟨g,cap,cur,hv,_⟩:=hv
  ·injection hv with _ _ hc
  ·injection hv with hA
   rw[e]at hA;cases hA
 ·obtain⟨g,rfl,hb,hlt⟩:=Ob.at_ h qO;have hk0:k=0:=qO;subst hk0;have hc:=Ob.cell h j hj;refine⟨g,0,_,rfl,.inr ⟨hb,hlt⟩,hlt,by rw[Nat.mul_one,Nat.add_zero,jq];exact hc,rfl,?_⟩;show Value.int .u8 _=Value.int .u8 _;rw[bn,dV hj];rfl
def acy{w:World}:Below w.heap.size w w:=Below.refl _ _
def Dy{P:Nat->V->Value->Prop}{a:V}{us:List Value}(hl:us.length=1)(h:∀ k v u,[a][k]?=some v->us[k]?=some u->P k v u):∃ u,us=[u]/\P 0 a u:=by
 obtain _|⟨u,_|⟨x,r⟩⟩:=us
 ·simp at hl
 ·exact⟨u,rfl,h 0 a u rfl rfl⟩
 ·simp at hl
def abf{P:Nat->V->Value->Prop}{a b:V}{us:List Value}(hl:us.length=2)(h:∀ k v u,[a,b][k]?=some v->us[k]?=some u->P k v u):∃ u v,us=[u,v]/\P 0 a u/\P 1 b v:=by
 obtain _|⟨u,_|⟨x,_|⟨y,r⟩⟩⟩:=us
 ·simp at hl
 ·simp at hl
 ·exact⟨u,x,rfl,h 0 a u rfl rfl,h 1 b x rfl rfl⟩
 ·simp at hl
def kL(l:List UInt8):aK:=.row 5 1 l.length (λj _=>.d (gG (l.getD j 0)))
def afv{t:ST}{G:Gh}{w w':World}{A:Option Addr}{n c:Nat}{l:List UInt8}(hg:bZ G t w)(h:Own w' w.heap.size A n c l)(hb:Below w.heap.size w w') :
  bZ (G.upd t.nx (.row A c)) (t.new (kL l)) w'/\Stp G t.get w (G.upd t.nx (.row A c)) (t.new (kL l)).get w'/\aY (G.upd t.nx (.row A c)) (t.new (kL l)).get w' (.row t.nx l.length) (.slice A n c):=by
 have hl:=Ob.len h;subst hl;have hh:=JJ (A:=A) (c:=c) (n:=l.length) (E:=5) (z:=1) (g:=λj _=>.d (gG (l.getD j 0))) hg hb rfl rfl qO (λhc b off e=>by
  obtain⟨hn,hlen,hv⟩:=h;obtain⟨hv,h0⟩|⟨g,cap,cur,hv,hb,_⟩:=hv
  ·injection hv with _ _ hc'
   omega
  ·injection hv with hA
   rw[e]at hA;injection hA with hA
   injection hA with hA
   omega) (λhs=>by
  refine Kt qO (Ob.mono h (cZ _)).ov λj hj q hq=>?_
  have hq0:q=0:=qO;subst hq0;refine⟨bv (l.getD j 0),?_,rfl,rfl⟩;rw[Nat.mul_one,Nat.add_zero,qQ,bn,dV hj];rfl)
 exact hh
def Fin.bytes{X:Cx e0}{t:ST}{i n m:Nat}{g:Nat->Nat->V}{L:List UInt8}(ho:t.get i = .row 5 1 n g)(hm:m=n)(hL:L.length=n)(hg:∀ j,j<n->g j 0 = .d (gG (L.getD j 0))):Fin X (.row i m) t (λv t=>v = .d (bW L)/\t=e0):=by
 subst hm;subst hL;refine Fin.eG (h:=λj _=>gG (L.getD j 0)) ⟨cZ _,ho,λj hj k hk G o w u hu=>?_⟩ ?_
 ·obtain rfl:k=0:=qO;rw[hg j hj]at hu;exact hu
 ·have e:jf i L.length 1 (λj _=>gG (L.getD j 0)) (.row i L.length) = .d (bW L):=by
   show(bif Nat.beq i i&&Nat.beq L.length L.length then _ else _)=_;simp;rfl
  rw[e];exact Fin.tell (VW.refl trivial)
def DX{n:Nat}{g h:Nat->Nat->V}{a b:List UInt8}(hn:n=a.length)(h1:∀ j,g j 0 = .d (gG (a.getD j 0)))(h2:∀ j,h j 0 = .d (gG (b.getD j 0)))(j:Nat):axE n g h j 0 = .d (gG ((a++b).getD j 0)):=by
 rw[Ec];subst hn;split
 ·rename_i hj
  rw[h1,bn,bn,lS hj]
 ·rename_i hj
  rw[h2,bn,bn,oP qO]
def vN(n:Nat):(dK n).length<=10:=FI n
def Ij(a b:Int):(iC a b).1.length<=10:=by
 unfold iC;split
 ·exact vN _
 ·simp
def acA{f:Nat}{args args':List V}{st bJ t1:ST}{aI:List Nat}{r:V}{K:V->ST->Prop}(h:af f args' bJ (λv t=>v=r/\t=t1))(hn:iJ aI=true)(hs:∀ i∈aI,i<st.nx)(hnx:bJ.nx=aI.length)(ha:lI bJ.nx (bY aI) args args')(ho:pV bJ.nx (bY aI) st aI bJ.st)(hk:pz st.nx λn=>K (pR aI n r) (Aw st aI n t1)):af f args st K:=by
 rw[uM]at hk;exact af.frame h hn hs hnx ha ho λv t ⟨e1,e2⟩=>by subst e1 e2;exact hk
def Q3{f:Nat}{args args':List V}{st t1:ST}{r:V}{K:V->ST->Prop}(h:af f args' e0 (λv t=>v=r/\t=t1))(ha:lI 0 (bY []) args args')(hk:pz st.nx λn=>K (pR [] n r) (Aw st [] n t1)):af f args st K:=
 acA h rfl (by simp) rfl ha trivial hk
abbrev ahI(f:Nat)(args:List V)(r:V)(t1:ST):Prop:=af f args e0 (λv t=>v=r/\t=t1)
def Ou(n:Nat)(h:n<18446744073709551616):aQ 181 [.d (.v (.int .u64 n))] (.d (bW (dK n))):=
 af.data (wI func181 rfl rfl) λG w us hF hl hv=>by
  obtain⟨u,rfl,h1⟩:=Dy (P:=λ_ v u=>aY G e0.get w v u) hl hv;have h1:u = .int .u64 n:=h1;subst h1;refine(adm n w (Lib.hid h)).mono λe w' hh=>?_
  obtain⟨A,c,rfl,q1,q2⟩:=hh;exact⟨_,rfl,q2,NP q1⟩
def Tv(n:Nat)(h:n<18446744073709551616):aQ 173 [.d (.v (.int .u64 n))] (.d (bW (dK n))):=
 af.data (wI func173 rfl rfl) λG w us hF hl hv=>by
  obtain⟨u,rfl,h1⟩:=Dy (P:=λ_ v u=>aY G e0.get w v u) hl hv;have h1:u = .int .u64 n:=h1;subst h1;refine(Ry n w (Lib.hid h)).mono λe w' hh=>?_
  obtain⟨A,c,rfl,q1,q2⟩:=hh;exact⟨_,rfl,q2,NP q1⟩
def Xq:maxLen<=9223372036854775807:=by unfold maxLen;omega
def PK(b:List UInt8):V:=bI [.d (.v (.int .u64 (dh b).1)),iV (dh b).2.1,iV (dh b).2.2]
def aeY(b:List UInt8):aQ 194 [.d (bW b)] (PK b):=
 af.data (wI func194 rfl rfl) λG w us hF hl hv=>by
  obtain⟨u,rfl,h1⟩:=Dy (P:=λ_ v u=>aY G e0.get w v u) hl hv;obtain⟨A,n,c,rfl,q1,q2,q3,q4⟩:=F7 h1;refine(W9 A b n c w q1 (by have:=Xq;omega) q4).mono λe w' ⟨r1,r2⟩=>?_
  subst r2;exact⟨_,r1,acy,⟨_,rfl,rfl,λk x hx=>by
   match k,hx with
   |0,hx=>obtain rfl:=fD hx;rfl
   |1,hx=>obtain rfl:=fD hx;rfl
   |2,hx=>obtain rfl:=fD hx;rfl
   |k+3,hx=>simp at hx⟩⟩
def al9(b:List UInt8)(hb:b.length<=1000000):aQ 121 [.d (bW b)] (PK b):=
 af.data (wI func121 rfl rfl) λG w us hF hl hv=>by
  obtain⟨u,rfl,h1⟩:=Dy (P:=λ_ v u=>aY G e0.get w v u) hl hv;obtain⟨A,n,c,rfl,q1,q2,q3,q4⟩:=F7 h1;refine(Xh A b n c w q1 q2 qO q4).mono λe w' ⟨r1,r2⟩=>?_
  exact⟨_,r1,r2,⟨_,rfl,rfl,λk x hx=>by
   match k,hx with
   |0,hx=>obtain rfl:=fD hx;rfl
   |1,hx=>obtain rfl:=fD hx;rfl
   |2,hx=>obtain rfl:=fD hx;rfl
   |k+3,hx=>simp at hx⟩⟩
def aug(num aU:Int):V:=bI [.d (bW (iC num aU).1),iV (iC num aU).2]
def apG(num aU:Int)(h1 : -9223372036854775808<=num/\num<=9223372036854775807)(h2 : -9223372036854775808<=aU/\aU<=9223372036854775807):aQ 172 [iV num,iV aU] (aug num aU):=
 af.data (wI func172 rfl rfl) λG w us hF hl hv=>by
  obtain⟨u,v,rfl,q1,q2⟩:=abf (P:=λ_ v u=>aY G e0.get w v u) hl hv;have q1:u = .int .i64 num:=q1;have q2:v = .int .i64 aU:=q2;subst q1 q2;refine(Xg num aU w h1 h2).mono λe w' ⟨A,n,c,r1,r2,r3⟩=>?_
  exact⟨_,r1,r3,⟨_,rfl,rfl,λk x hx=>by
   match k,hx with
   |0,hx=>obtain rfl:=fD hx;exact NP r2
   |1,hx=>obtain rfl:=fD hx;rfl
   |k+2,hx=>simp at hx⟩⟩
def Vg(b:List UInt8):V:=bI [iV (gV b).1,iV (gV b).2.1,iV (gV b).2.2.1,iV (gV b).2.2.2]
def aoO(b:List UInt8):aQ 227 [.d (bW b)] (Vg b):=
 af.data (wI func227 rfl rfl) λG w us hF hl hv=>by
  obtain⟨u,rfl,h1⟩:=Dy (P:=λ_ v u=>aY G e0.get w v u) hl hv;obtain⟨A,n,c,rfl,q1,q2,q3,q4⟩:=F7 h1;refine(acC A b n c w q1 (by have:=Xq;omega) q4).mono λe w' ⟨r1,r2⟩=>?_
  subst r2;exact⟨_,r1,acy,⟨_,rfl,rfl,λk x hx=>by
   match k,hx with
   |0,hx=>obtain rfl:=fD hx;rfl
   |1,hx=>obtain rfl:=fD hx;rfl
   |2,hx=>obtain rfl:=fD hx;rfl
   |3,hx=>obtain rfl:=fD hx;rfl
   |k+4,hx=>simp at hx⟩⟩
def amc(b:List UInt8)(hb:b.length<=1000000):aQ 120 [.d (bW b)] (Vg b):=
 af.data (wI func120 rfl rfl) λG w us hF hl hv=>by
  obtain⟨u,rfl,h1⟩:=Dy (P:=λ_ v u=>aY G e0.get w v u) hl hv;obtain⟨A,n,c,rfl,q1,q2,q3,q4⟩:=F7 h1;refine(ace A b n c w q1 q2 qO q4).mono λe w' ⟨r1,r2⟩=>?_
  exact⟨_,r1,r2,⟨_,rfl,rfl,λk x hx=>by
   match k,hx with
   |0,hx=>obtain rfl:=fD hx;rfl
   |1,hx=>obtain rfl:=fD hx;rfl
   |2,hx=>obtain rfl:=fD hx;rfl
   |3,hx=>obtain rfl:=fD hx;rfl
   |k+4,hx=>simp at hx⟩⟩
def Vh(b:List UInt8):V:=bI [iV (qi b).1,iV (qi b).2]
def aoP(b:List UInt8):aQ 202 [.d (bW b)] (Vh b):=
 af.data (wI func202 rfl rfl) λG w us hF hl hv=>by
  obtain⟨u,rfl,h1⟩:=Dy (P:=λ_ v u=>aY G e0.get w v u) hl hv;obtain⟨A,n,c,rfl,q1,q2,q3,q4⟩:=F7 h1;refine(aka A b n c w q1 q2 (by have:=Xq;omega) q4).mono λe w' ⟨r1,r2⟩=>?_
  exact⟨_,r1,r2,⟨_,rfl,rfl,λk x hx=>by
   match k,hx with
   |0,hx=>obtain rfl:=fD hx;rfl
   |1,hx=>obtain rfl:=fD hx;rfl
   |k+2,hx=>simp at hx⟩⟩
def amd(b:List UInt8)(hb:b.length<=1000000):aQ 119 [.d (bW b)] (Vh b):=
 af.data (wI func119 rfl rfl) λG w us hF hl hv=>by
  obtain⟨u,rfl,h1⟩:=Dy (P:=λ_ v u=>aY G e0.get w v u) hl hv;obtain⟨A,n,c,rfl,q1,q2,q3,q4⟩:=F7 h1;refine(ajp A b n c w q1 q2 qO q4).mono λe w' ⟨r1,r2⟩=>?_
  exact⟨_,r1,r2,⟨_,rfl,rfl,λk x hx=>by
   match k,hx with
   |0,hx=>obtain rfl:=fD hx;rfl
   |1,hx=>obtain rfl:=fD hx;rfl
   |k+2,hx=>simp at hx⟩⟩
def aso(num aU:Int)(h1 : -9223372036854775808<=num/\num<=9223372036854775807)(h2 : -9223372036854775808<=aU/\aU<=9223372036854775807):ahI 219 [iV num,iV aU] (bI [.row 0 (iC num aU).1.length,iV (iC num aU).2]) ⟨[(0,kL (iC num aU).1)],1⟩:=
 ⟨wI func219 rfl rfl,λG w us hg hl hv=>by
  obtain⟨u,v,rfl,q1,q2⟩:=abf (P:=λ_ v u=>aY G e0.get w v u) hl hv;have q1:u = .int .i64 num:=q1;have q2:v = .int .i64 aU:=q2;subst q1 q2;refine(alR num aU w h1 h2).mono λe w' ⟨A,n,c,r1,r2,r3⟩=>?_
  obtain⟨p1,p2,p3⟩:=afv hg r2 r3;exact⟨_,_,_,_,r1,⟨rfl,rfl⟩,p1,p2,⟨_,rfl,rfl,λk x hx=>by
   match k,hx with
   |0,hx=>obtain rfl:=fD hx;exact p3
   |1,hx=>obtain rfl:=fD hx;rfl
   |k+2,hx=>simp at hx⟩⟩⟩
def apH(num aU:Int)(h1 : -9223372036854775808<=num/\num<=9223372036854775807)(h2 : -9223372036854775808<=aU/\aU<=9223372036854775807):ahI 172 [iV num,iV aU] (bI [.row 0 (iC num aU).1.length,iV (iC num aU).2]) ⟨[(0,kL (iC num aU).1)],1⟩:=
 ⟨wI func172 rfl rfl,λG w us hg hl hv=>by
  obtain⟨u,v,rfl,q1,q2⟩:=abf (P:=λ_ v u=>aY G e0.get w v u) hl hv;have q1:u = .int .i64 num:=q1;have q2:v = .int .i64 aU:=q2;subst q1 q2;refine(Xg num aU w h1 h2).mono λe w' ⟨A,n,c,r1,r2,r3⟩=>?_
  obtain⟨p1,p2,p3⟩:=afv hg r2 r3;exact⟨_,_,_,_,r1,⟨rfl,rfl⟩,p1,p2,⟨_,rfl,rfl,λk x hx=>by
   match k,hx with
   |0,hx=>obtain rfl:=fD hx;exact p3
   |1,hx=>obtain rfl:=fD hx;rfl
   |k+2,hx=>simp at hx⟩⟩⟩
