/- Lemmas. -/
import Derived.Test.YtnibdnahojjcgaaGreatC16
namespace Go.Proofs.YtnibdnahojjcgaaGreat
set_option linter.all false
set_option maxRecDepth 100000
set_option maxHeartbeats 0
open Go.RowKit Tryz
def af.told{f:Nat}{args:List V}{st t2:ST}{Q K:V->ST->Prop}{r:V}(h:af f args st Q)(hlo:st.nx<=t2.nx)(hq:∀ v t,Q v t->t2.nx<=t.nx/\VW t2.nx v r/\yQ t2.nx t t2)(hk:K r t2):af f args st K:=
 ⟨h.1,λG w us hg hl hv=>(h.2 G w us hg hl hv).mono λe w' ⟨v,V,t',G',e1,hQ,lN,hs,Jk⟩=>by
  obtain⟨q1,q2,q3⟩:=hq _ _ hQ
  let X:Cx st:=⟨G,w,hg,[]⟩
  exact⟨v,r,t2,G'.drop t2.nx,e1,hk,Ia lN q3 q1 rfl,JG (X:=X) hs q3 hlo,Ai q3 q2 Jk⟩⟩
def nI(n:Nat):List (Nat×aK)->Prop
 |[]=>True
 |p::r=>(p.1<n/\ni (λi=>i<n) p.2)/\nI n r
def GY(n:Nat):List (Nat×aK)->Prop
 |[]=>True
 |p::r=>ni (λi=>i<n) p.2/\GY n r
def yw{n:Nat}:∀ {l:List (Nat×aK)},nI n l->∀ i,axA l i = .dead\/(i<n/\ni (λi=>i<n) (axA l i))
 |[],_,_=>.inl rfl
 |(k,v)::r,h,i=>by
  show(bif Nat.beq k i then v else axA r i) = .dead\/(_/\ni _ (bif Nat.beq k i then v else axA r i));rcases hb:Nat.beq k i with _|_
  ·exact yw h.2 i
  ·have:=dJ hb;subst this;exact .inr h.1
def adb{n:Nat}:∀ {l:List (Nat×aK)},GY n l->∀ i,ni (λi=>i<n) (axA l i)
 |[],_,_=>True.intro
 |(k,v)::r,h,i=>by
  show ni _ (bif Nat.beq k i then v else axA r i);rcases hb:Nat.beq k i with _|_
  ·exact adb h.2 i
  ·exact h.1
def Gi(n:Nat):List (Nat×aK)->Bool
 |[]=>true
 |p::r=>Nat.ble n p.1&&Gi n r
def Rf{n:Nat}:∀ {e l:List (Nat×aK)},Gi n e=true->∀ i,i<n->axA (e++l) i=axA l i
 |[],_,_,_,_=>rfl
 |(k,v)::r,l,h,i,hi=>by
  obtain⟨h1,h2⟩:=kZ h;show(bif Nat.beq k i then v else axA (r++l) i)=_;rcases hb:Nat.beq k i with _|_
  ·exact Rf h2 i hi
  ·have:=dJ hb;have:=uf h1;omega
def QM{n:Nat}{l:List (Nat×aK)}(hl:nI n l):∀ {e:List (Nat×aK)} (i:Nat),n<=i->axA (e++l) i=axA e i
 |[],i,hi=>by
  obtain h|⟨h,_⟩:=yw hl i
  ·exact h
  ·omega
 |(k,v)::r,i,hi=>by
  show(bif Nat.beq k i then v else axA (r++l) i)=(bif Nat.beq k i then v else axA r i);rw[QM hl i hi]
def kV(l:List (Nat×aK)):List Nat:=l.map (·.1)
def Fq:∀ {l:List (Nat×aK)},iJ (kV l)=true->∀ p∈l,axA l p.1=p.2
 |[],_,p,hp=>by cases hp
 |(k,v)::r,h,p,hp=>by
  obtain⟨h1,h2⟩:=kZ h;show(bif Nat.beq k p.1 then v else axA r p.1)=p.2;obtain rfl|hp:=List.mem_cons.1 hp
  ·simp
  ·rcases hb:Nat.beq k p.1 with _|_
   ·exact Fq h2 p hp
   ·have e:=dJ hb;have hm:p.1∈kV r:=List.mem_map_of_mem (f:=λq:Nat×aK=>q.1) hp;obtain⟨i,hi,he⟩:=List.getElem_of_mem hm;have h3:=nC (l:=kV r) (i:=p.1) (k:=i) h2 (by rw[dV hi,he]);have h1:(match bY (kV r) k with|some _=>false|none=>true)=true:=h1;rw[e,h3]at h1;cases h1
def zk{n:Nat}:∀ {l:List (Nat×aK)},nI n l->∀ p∈l,p.1<n
 |[],_,p,hp=>by cases hp
 |q::r,h,p,hp=>by
  obtain rfl|hp:=List.mem_cons.1 hp
  ·exact h.1.1
  ·exact zk h.2 p hp
def xO(n i:Nat):Option Nat:=bif Nat.blt i n then some i else none
def WI:∀(n s i:Nat),bY (List.range' s n) i=if s<=i/\i<s+n then some (i-s) else none
 |0,s,i=>by rw[if_neg qO];rfl
 |n+1,s,i=>by
  rw[List.range'_succ];show(bif Nat.beq s i then some 0 else(match bY (List.range' (s+1) n) i with|some k=>some (k+1)|none=>none))=_;rw[WI n (s+1) i];rcases hb:Nat.beq s i with _|_
  ·have hne:s≠i:=λe=>by subst e;simp at hb
   by_cases h:s+1<=i/\i<s+1+n
   ·rw[if_pos h,if_pos qO,bz];show some (i-(s+1)+1)=_;congr 1;omega
   ·rw[if_neg h,if_neg qO];rfl
  ·have:=dJ hb;subst this;show some 0=(if s<=s/\s<s+(n+1) then some (s-s) else none);rw[if_pos ⟨bF _,by omega⟩,Nat.sub_self]
def Xu(n:Nat):bY (List.range n)=xO n:=funext λi=>by
 rw[List.range_eq_range',WI];unfold xO;by_cases h:i<n
 ·rw[if_pos qO,show Nat.blt i n=true by rw[Nat.blt_eq];exact h];rfl
 ·rw[if_neg qO,show Nat.blt i n=false by rw[xm,ne_eq,Nat.blt_eq];exact h];rfl
def nodup_range(n:Nat):iJ (List.range n)=true:=by
 have:∀(n s:Nat),iJ (List.range' s n)=true:=by
  intro n;induction n with
  |zero=>intro s;rfl
  |succ n ih=>
   intro s;rw[List.range'_succ];show((match bY (List.range' (s+1) n) s with|some _=>false|none=>true)&&iJ (List.range' (s+1) n))=true;rw[ih,WI,if_neg qO];rfl
 rw[List.range_eq_range'];exact this n 0
def Td{n i:Nat}(h:i<n):xO n i=some i:=by
 unfold xO;rw[show Nat.blt i n=true by rw[Nat.blt_eq];exact h];rfl
def afM{m:Nat}:∀ {E:List (Nat×aK)} {i:Nat},sQ (kV E) m=true->m<=i->axA E i = .dead
 |[],_,_,_=>rfl
 |(k,v)::r,i,h,hi=>by
  obtain⟨g1,g2⟩:=kZ (show(Nat.blt k m&&sQ (kV r) m)=true from h);show(bif Nat.beq k i then v else axA r i) = .dead;rcases hb:Nat.beq k i with _|_
  ·exact afM g2 hi
  ·have:=dJ hb;have:=mX g1;omega
def YX{N:Nat}{v:V}:je (λi=>i<N) v->xQ N v:=by
 induction v with
 |agg n g ih=>exact λh k hk=>ih k (h k hk)
 |gQ n g ih=>exact λh k hk=>ih k (h k hk)
 |fn f nf n g ih=>exact λh k hk=>ih k (h k hk)
 |kQ t w x ih=>exact λh=>ih h
 |_=>exact λh=>h
def zf{N:Nat}{o:aK}(h:ni (λi=>i<N) o):aW N o o:=by
 cases o with
 |dead=>exact True.intro
 |Wp n g=>exact⟨rfl,λk hk=>VW.refl (YX (h k hk))⟩
 |row E s n g=>exact⟨rfl,rfl,rfl,λj hj k hk=>VW.refl (YX (h j hj k hk))⟩
 |map es=>
  intro k;rcases he:dY es k with _|v
  ·exact True.intro
  ·exact VW.refl (YX (h k v he))
def af.pre{f:Nat}{args args':List V}{st:ST}{l l1:List (Nat×aK)}{n:Nat}{r:V}{K:V->ST->Prop}(q:Nat)(h:af f args' ⟨l,n⟩ (λv t=>v=r/\t=⟨l1,n⟩))(hst:st.st.drop q=l)(hex:Gi n (st.st.take q)=true)(hlt:sQ (kV (st.st.take q)) st.nx=true)(hn:Nat.ble n st.nx=true)(hd:iJ (kV l)=true)(hl:nI n l)(hl1:nI n l1)(hr:je (λi=>i<n) r)(hc:GY st.nx (st.st.take q))(ha:lI n (xO n) args args')(hk:K r ⟨st.st.take q++l1,st.nx⟩):af f args st K:=by
 obtain⟨s,m⟩:=st;have hn:=uf hn;have hs:s=s.take q++l:=by
  have hst:s.drop q=l:=hst;rw[<-hst,List.take_append_drop]
 have hex:Gi n (s.take q)=true:=hex;have hc:GY m (s.take q):=hc;have hlt:sQ (kV (s.take q)) m=true:=hlt;generalize hE:s.take q=E at *;subst hs;have hφ:∀ k,k<n->k<n/\xO n k=some k:=λk hk=>⟨hk,Td hk⟩
 have hob:∀ k:List (Nat×aK),(∀ p∈k,p∈l)->pV n (bY (List.range n)) ⟨E++l,m⟩ (List.range n) k:=by
  intro k;induction k with
  |nil=>exact λ_=>True.intro
  |cons p r ih=>
   intro hk;obtain⟨i,o⟩:=p;refine⟨?_,ih λp hp=>hk p (jA _ hp)⟩;have hm:=hk _ jL;have hlook:=Fq hd _ hm;obtain h0|⟨h0,h1⟩:=yw hl i
   ·have ho:o = .dead:=hlook.symm.trans h0;subst ho;have hi:i<n:=zk hl _ hm;exact⟨i,by rw[List.getElem?_range hi],XC⟩
   ·refine⟨i,by rw[List.getElem?_range h0],?_⟩;have e:(⟨E++l,m⟩:ST).get i=o:=(Rf hex i h0).trans hlook;rw[e,Xu];rw[hlook]at h1;exact Jv hφ h1
 have hsel:∀ i∈List.range n,i<m:=λi hi=>sV (List.mem_range.1 hi) hn
 have hfr:=af.frame (K:=λv t=>v=pR (List.range n) m r/\t=tq ⟨E++l,m⟩ (List.range n) ⟨l1,n⟩) h (nodup_range n) hsel (by rw[List.length_range]) (by rw[Xu];exact ha) (hob l λp hp=>hp) λv t ⟨h1,h2⟩=>by subst h1 h2;exact⟨rfl,rfl⟩
 have hback:∀ k,k<n->lV (List.range n) m k=k:=λk hk=>Aj (by rw[List.getElem?_range hk])
 have hE0:∀ i,m<=i->axA E i = .dead:=λi hi=>afM hlt hi
 have hu:∀ i,m<=i->(⟨E++l,m⟩:ST).get i = .dead:=λi hi=>(QM hl i (kE hn hi)).trans (hE0 i hi)
 have ht:∀ i,n<=i->(⟨l1,n⟩:ST).get i = .dead:=λi hi=>by
  obtain h0|⟨h0,_⟩:=yw hl1 i
  ·exact h0
  ·omega
 refine hfr.told (t2:=⟨E++l1,m⟩) (bF _) (λv t ⟨h1,h2⟩=>?_) hk;subst h1 h2;refine⟨Nat.le_add_right _ _,xu (P:=λi=>i<n) (λk hk=>⟨sV hk hn,by rw[hback k hk]⟩) hr,λi=>?_⟩;by_cases hi:i<n
 ·have e1:(⟨E++l1,m⟩:ST).get i=axA l1 i:=Rf hex i hi;have e2:(tq ⟨E++l,m⟩ (List.range n) ⟨l1,n⟩).get i=mW (λk=>some (lV (List.range n) m k)) (axA l1 i):=by
   have:=WH (st:=⟨E++l,m⟩) (t:=⟨l1,n⟩) (nodup_range n) hsel hu ht i;rw[hback i hi]at this;exact this
  rw[e1,e2];obtain h0|⟨h0,h1⟩:=yw hl1 i
  ·exact .inl h0
  ·exact .inr ⟨sV hi hn,Jv (P:=λi=>i<n) (λk hk=>⟨sV hk hn,by rw[hback k hk]⟩) h1⟩
 ·have hi2:n<=i:=Nat.le_of_not_lt hi;have e1:(⟨E++l1,m⟩:ST).get i=axA E i:=QM hl1 i hi2;by_cases hm:i<m
  ·have e2:(tq ⟨E++l,m⟩ (List.range n) ⟨l1,n⟩).get i=axA E i:=by
    refine(H5 hsel ?_ hm).trans (QM hl i hi2);rw[Xu];unfold xO;rw[show Nat.blt i n=false by rw[xm,ne_eq,Nat.blt_eq];exact hi];rfl
   rw[e1,e2];rcases hE0:axA E i with _|_|_|_
   ·exact .inl rfl
   all_goals exact .inr ⟨hm,by rw[<-hE0];exact zf (adb hc i)⟩
  ·exact .inl (e1.trans (hE0 i (Nat.le_of_not_lt hm)))
def P9(a b:Int):Int:=bif decide (b<a) then -1 else bif decide (a<b) then 1 else 0
def Gw(l:List Int)(j:Nat):List Int:=(l.set j (l.getD (j-1) 0)).set (j-1) (l.getD j 0)
def CP:Nat->List Int->List Int
 |0,l=>l
 |j+1,l=>bif decide (P9 (l.getD (j+1) 0) (l.getD j 0)<0) then CP j (Gw l (j+1)) else l
def zI(l:List Int):Nat->List Int
 |0=>l
 |i+1=>CP (i+1) (zI l i)
def XK{l:List Int}{j:Nat}:(Gw l j).length=l.length:=by unfold Gw;rw[nM,nM]
def acL:∀ {j:Nat} {l:List Int},(CP j l).length=l.length
 |0,_=>rfl
 |j+1,l=>by
  unfold CP;cases decide (P9 (l.getD (j+1) 0) (l.getD j 0)<0)
  ·rfl
  ·exact acL.trans XK
def FN{l:List Int}:∀ {i:Nat},(zI l i).length=l.length
 |0=>rfl
 |i+1=>acL.trans FN
abbrev Hu(l:List Int)(j:Nat):Bool:=bif decide ((0:Int)<(j:Int)) then decide (P9 (l.getD ((j:Int)).toNat 0) (l.getD ((j:Int)-1).toNat 0)<0) else false
def akj:∀ {j:Nat} {l:List Int},Hu l j=false->CP j l=l
 |0,_,_=>rfl
 |j+1,l,h=>by
  unfold Hu at h;rw[aX (show(0:Int)<((j+1:Nat):Int) by omega),dw,jg,show(((j+1:Nat):Int)-1).toNat=j by omega]at h;unfold CP;rw[h];rfl
def ato{l:List Int}{j:Nat}(h:Hu l j=true):0<j:=by
 obtain _|j:=j
 ·cases h
 ·omega
def apm:∀ {j:Nat} {l:List Int},Hu l j=true->CP j l=CP (j-1) (Gw l j)
 |0,_,h=>by cases h
 |j+1,l,h=>by
  unfold Hu at h;rw[aX (show(0:Int)<((j+1:Nat):Int) by omega),dw,jg,show(((j+1:Nat):Int)-1).toNat=j by omega]at h;show(bif decide (P9 (l.getD (j+1) 0) (l.getD j 0)<0) then CP j (Gw l (j+1)) else l)=_;rw[h];rfl
abbrev I9:V:=.fn 244 0 0 (λ_=>.top)
def aeg{l:List Int}{p:Nat}{v:Int}{g:Nat->V}(hp:p<l.length){j k:Nat}(hk:k<1)(e:g 0=iV v):mr (λj k=>V.d (iD (l.getD j 0))) p 0 1 g j k=V.d (iD ((l.set p v).getD j 0)):=ab8
def ao3{l:List Int}{p:Nat}{g1 g2:Nat->V}(hp:0<p)(hl:p<l.length){j k:Nat}(hk:k<1)(e1:g1 0=iV (l.getD ((p:Int)-1).toNat 0))(e2:g2 0=iV (l.getD ((p:Int)).toNat 0)):mr (mr (λj k=>V.d (iD (l.getD j 0))) ((p:Int)).toNat 0 1 g1) ((p:Int)-1).toNat 0 1 g2 j k=V.d (iD ((Gw l p).getD j 0)):=by
 have h1:((p:Int)).toNat=p:=jg p;have h2:((p:Int)-1).toNat=p-1:=qO;rw[h1]at e2 ⊢;rw[h2]at e1 ⊢;have h3:(mr (λj k=>V.d (iD (l.getD j 0))) p 0 1 g1) j k=V.d (iD ((l.set p (l.getD (p-1) 0)).getD j 0)):=aeg hl hk e1;have h4:=aeg (l:=l.set p (l.getD (p-1) 0)) (p:=p-1) (v:=l.getD p 0) (g:=g2) (by rw[nM];omega) (j:=j) hk e2;unfold Gw;rw[<-h4];unfold mr;rcases hb:Nat.beq j (p-1) with _|_
 ·unfold mr at h3;exact h3
 ·obtain rfl:k=0:=Nat.lt_one_iff.1 hk;rfl
def ahz(a b:Int):aQ 244 [iV a,iV b] (iV (P9 a b)):=by
 refine ay func244 λX=>?_
 (repeat'(first|refine aC ?_|refine aj.mk (λh=>?_) (λh=>?_)|refine Fin.tell (vq (ah iV ?_) tv)))<;>try exact cls
 all_goals first|exact(dH h).symm|(rename_i h0;exact((bG h0).trans (dH h)).symm)|(rename_i h0;exact((bG h0).trans (bG h)).symm)
def aq4(l:List Int)(hl:l.length<=1000):af 283 [.row 0 l.length,iV 0,iV l.length,I9] ⟨[(0,gJ l)],1⟩ (λv t=>v = .top/\t=⟨[(0,gJ (zI l (l.length-1)))],1⟩):=by
 refine ay func283 λX=>?_
 (repeat'(first|refine aC ?_|refine bU 4 [14] (ooz 14 [o1,o3,o3]) ?_|refine bU 6 [15,17] [o0,o0,o2,o2,o2,o0,o0,o0,o0,o0,o0,o0,o0,o0,o0,o1,o3,(1,1,true,[])] ?_|refine mc ?_ ?_|refine dU (c:=.seq (.seq (.region 1 _ _) _) _) (l.length-1) (λi (a:Unit)=>⟨53,[(0,.row 0 l.length),(1,iV 0),(2,iV l.length),(3,I9),(8,iV ((i:Int)+1))],⟨[(0,gJ (zI l i))],1⟩⟩) (λ_ _=>True) () ?_ True.intro (λi a hi hp=>?_)|refine T.loop (ι:={ p:Nat×List Int // CP p.1 p.2=zI l (i+1)/\p.2.length=l.length/\p.1<=i+1 }) (λp=>⟨53,[(0,.row 0 l.length),(1,iV 0),(2,iV l.length),(3,I9),(8,iV ((i:Int)+1)),(9,iV p.1.1)],⟨[(0,gJ p.1.2)],1⟩⟩) (λp=>p.1.1) ⟨(i+1,zI l i),rfl,FN,bF _⟩ ?_ (λp=>?_)|refine aZ () ⟨?_,tv,?_⟩|refine aZ ⟨(p.1.1-1,Gw p.1.2 p.1.1),(apm (aG:Hu p.1.2 p.1.1=true)).symm.trans p.2.1,XK.trans p.2.2.1,kE (Nat.sub_le _ _) p.2.2.2⟩ (fM ?_ ?_)|refine kF (ahz _ _) ?_|refine aj.mk (λh=>?_) (λh=>?_)|refine ag.a ?_|(rw[show l.length-1=i from om];refine bM qN qN VW.top ?_)|refine ag.mk ?_ ?_))<;>(try(refine dm.mk ?_;repeat'(first|exact tv|exact rfl|refine aZ _ (fM (λht=>af.tell (ahz _ _) vw ⟨rfl,rfl⟩) ?_)|refine an ?_ ?_|refine ag.mk ?_ ?_)))
 all_goals try exact cls
 all_goals(try(refine leq ?_ ?_ <;> repeat'(first|exact tv|exact qV|exact qW|refine gX ?_|refine vq (ah iV ?_) tv|refine gU qN ?_ (λj hj k hk=>?_) ?_|refine an ?_ ?_)))
 all_goals first|exact rfl|exact cm qV|(have h9:=bT (aG:decide ((i:Int)+1<(l.length:Int))=true);first|omega|(have q1:=p.2.2.1;have q2:=p.2.2.2;first|(intro e;have e:=bT e;(refine⟨q1.symm,?_,?_⟩ <;> omega))|(have q3:=ato (aG:Hu p.1.2 p.1.1=true);first|omega|(simp only[dM];omega)|exact XK.symm|exact cm (vq (ao3 q3 qo hk rfl rfl) tv))|(have q4:=akj (aG:Hu p.1.2 p.1.1=false);have q5:zI l (i+1)=p.1.2:=p.2.1.symm.trans q4;first|exact ah List.length q5.symm|exact cm (vq (ah (λL:List Int=>V.d (iD (L.getD j 0))) q5.symm) tv))))
def awO{l:List Int}(h:l.length<=12):decide ((l.length:Int)-0<=12)=true:=aX qO
def aae (l : List Int) (k : Int) (hl : l.length <= 12) : af 252 [.row 0 l.length, iV 0, iV l.length, iV k, I9] ⟨[(0, gJ l)], 1⟩ (λv t => v = .top /\ t = ⟨[(0, gJ (zI l (l.length - 1)))], 1⟩) := by
  refine af.of func252 rfl rfl (by simp [f252]) λX => ?_
  (repeat'(first | refine aj.mk (λh => ?_) (λh => ai ((awO hl).symm.trans h) (by decide)) | refine aC ?_ | refine nZ [0] (aq4 l qo) rfl rfl rfl ⟨fA rfl qN, VW.refl trivial, VW.refl trivial, gX trivial, trivial⟩ bJ ?_ | refine BN ?_ | refine TL.round ?_ | refine bM qN qN VW.top ?_ | refine ag.mk ?_ ?_))<;>try exact cls
def Ls(l:List Int):Int:=(zI l (l.length-1)).getD (l.length / 2) 0
def au8  : aQ 253 [.d (.v (.int .u64 3))] (iV 2):=by
 refine ay func253 λX=>?_
 (repeat'(first|refine aC ?_|refine aO (aqY) ?_|refine aj.n (λh=>?_)|refine Fin.tell (vq (ah iV ?_) tv)))<;>try exact cls
def aph(a b c:Int):af 243 [.row 0 [a,b,c].length,I9] ⟨[(0,gJ [a,b,c])],1⟩ (λv t=>v = .top/\t=⟨[(0,gJ (zI [a,b,c] ([a,b,c].length-1)))],1⟩):=by
 refine af.of func243 rfl rfl (by simp[f243]) λX=>?_
 (repeat'(first|refine aC ?_|refine af.tell (au8) ⟨fA rfl trivial,trivial⟩ ?_|refine nZ [0] (aae [a,b,c] 2 qN) rfl rfl rfl ⟨fA rfl qN,fA rfl trivial,fA rfl trivial,fA rfl trivial,gX trivial,trivial⟩ bJ ?_|refine bM qN qN VW.top ?_|refine ag.mk ?_ ?_))<;>try exact cls
 all_goals(exact⟨(show(0:Int)<=3 by decide),(show(3:Int)<=18446744073709551615 by decide)⟩)
def au7  : aQ 253 [.d (.v (.int .u64 4))] (iV 3):=by
 refine ay func253 λX=>?_
 (repeat'(first|refine aC ?_|refine aO (aqX) ?_|refine aj.n (λh=>?_)|refine Fin.tell (vq (ah iV ?_) tv)))<;>try exact cls
def apg(a b c d:Int):af 243 [.row 0 [a,b,c,d].length,I9] ⟨[(0,gJ [a,b,c,d])],1⟩ (λv t=>v = .top/\t=⟨[(0,gJ (zI [a,b,c,d] ([a,b,c,d].length-1)))],1⟩):=by
 refine af.of func243 rfl rfl (by simp[f243]) λX=>?_
 (repeat'(first|refine aC ?_|refine af.tell (au7) ⟨fA rfl trivial,trivial⟩ ?_|refine nZ [0] (aae [a,b,c,d] 3 qN) rfl rfl rfl ⟨fA rfl qN,fA rfl trivial,fA rfl trivial,fA rfl trivial,gX trivial,trivial⟩ bJ ?_|refine bM qN qN VW.top ?_|refine ag.mk ?_ ?_))<;>try exact cls
 all_goals(exact⟨(show(0:Int)<=4 by decide),(show(4:Int)<=18446744073709551615 by decide)⟩)
def au6  : aQ 253 [.d (.v (.int .u64 5))] (iV 3):=by
 refine ay func253 λX=>?_
 (repeat'(first|refine aC ?_|refine aO (aqW) ?_|refine aj.n (λh=>?_)|refine Fin.tell (vq (ah iV ?_) tv)))<;>try exact cls
def apf(a b c d e:Int):af 243 [.row 0 [a,b,c,d,e].length,I9] ⟨[(0,gJ [a,b,c,d,e])],1⟩ (λv t=>v = .top/\t=⟨[(0,gJ (zI [a,b,c,d,e] ([a,b,c,d,e].length-1)))],1⟩):=by
 refine af.of func243 rfl rfl (by simp[f243]) λX=>?_
 (repeat'(first|refine aC ?_|refine af.tell (au6) ⟨fA rfl trivial,trivial⟩ ?_|refine nZ [0] (aae [a,b,c,d,e] 3 qN) rfl rfl rfl ⟨fA rfl qN,fA rfl trivial,fA rfl trivial,fA rfl trivial,gX trivial,trivial⟩ bJ ?_|refine bM qN qN VW.top ?_|refine ag.mk ?_ ?_))<;>try exact cls
 all_goals(exact⟨(show(0:Int)<=5 by decide),(show(5:Int)<=18446744073709551615 by decide)⟩)
def aqI(a b c:Int):aQ 231 [.d (iR [a,b,c])] (iV (Ls [a,b,c])):=by
 refine af.of func231 rfl rfl (by simp[f231]) λX=>?_
 (repeat'(first|refine T.cut (x:=.region 3 _ _) (y:=.seq (.region 4 _ _) _) ⟨17,[(0,.d (iR [a,b,c])),(3,.row 0 [a,b,c].length)],⟨[(0,gJ [a,b,c])],1⟩⟩ ?_ ?_|refine aj.mk (λh=>ai (ht h) (Nat.succ_ne_zero _)) (λh=>?_)|refine aC ?_|refine af.of (f:=91) func91 rfl rfl qN λX2=>?_|refine nZ [0] (aph a b c) rfl rfl rfl ⟨fA rfl qN,gX trivial,trivial⟩ bJ ?_|refine aj.mk (λh=>ai (show false=true from h) (by decide)) (λh=>?_)|refine ag.a ?_|refine wz.mk (λt ht=>?_)|refine Fin.tell (fA (ah iV ?_) trivial)|refine Fin.here ?_|refine ag.mk ?_ ?_))<;>try exact cls
 all_goals first|exact⟨(show(0:Int)<=3 by decide),(show(3:Int)<=9223372036854775807 by decide),(by decide)⟩|exact⟨FN.symm,(show(0:Int)<=(3:Int) / 2 by decide),(show(3:Int) / 2<3 by decide)⟩|exact⟨FN.symm,(show((3:Int) / 2).toNat<3 by decide),Nat.zero_lt_one⟩|exact⟨rfl,(show 0+3<=1000000 by decide)⟩
def aqH(a b c d:Int):aQ 231 [.d (iR [a,b,c,d])] (iV (Ls [a,b,c,d])):=by
 refine af.of func231 rfl rfl (by simp[f231]) λX=>?_
 (repeat'(first|refine T.cut (x:=.region 3 _ _) (y:=.seq (.region 4 _ _) _) ⟨17,[(0,.d (iR [a,b,c,d])),(3,.row 0 [a,b,c,d].length)],⟨[(0,gJ [a,b,c,d])],1⟩⟩ ?_ ?_|refine aj.mk (λh=>ai (ht h) (Nat.succ_ne_zero _)) (λh=>?_)|refine aC ?_|refine af.of (f:=91) func91 rfl rfl qN λX2=>?_|refine nZ [0] (apg a b c d) rfl rfl rfl ⟨fA rfl qN,gX trivial,trivial⟩ bJ ?_|refine aj.mk (λh=>ai (show false=true from h) (by decide)) (λh=>?_)|refine ag.a ?_|refine wz.mk (λt ht=>?_)|refine Fin.tell (fA (ah iV ?_) trivial)|refine Fin.here ?_|refine ag.mk ?_ ?_))<;>try exact cls
 all_goals first|exact⟨(show(0:Int)<=4 by decide),(show(4:Int)<=9223372036854775807 by decide),(by decide)⟩|exact⟨FN.symm,(show(0:Int)<=(4:Int) / 2 by decide),(show(4:Int) / 2<4 by decide)⟩|exact⟨FN.symm,(show((4:Int) / 2).toNat<4 by decide),Nat.zero_lt_one⟩|exact⟨rfl,(show 0+4<=1000000 by decide)⟩
def aqG(a b c d e:Int):aQ 231 [.d (iR [a,b,c,d,e])] (iV (Ls [a,b,c,d,e])):=by
 refine af.of func231 rfl rfl (by simp[f231]) λX=>?_
 (repeat'(first|refine T.cut (x:=.region 3 _ _) (y:=.seq (.region 4 _ _) _) ⟨17,[(0,.d (iR [a,b,c,d,e])),(3,.row 0 [a,b,c,d,e].length)],⟨[(0,gJ [a,b,c,d,e])],1⟩⟩ ?_ ?_|refine aj.mk (λh=>ai (ht h) (Nat.succ_ne_zero _)) (λh=>?_)|refine aC ?_|refine af.of (f:=91) func91 rfl rfl qN λX2=>?_|refine nZ [0] (apf a b c d e) rfl rfl rfl ⟨fA rfl qN,gX trivial,trivial⟩ bJ ?_|refine aj.mk (λh=>ai (show false=true from h) (by decide)) (λh=>?_)|refine ag.a ?_|refine wz.mk (λt ht=>?_)|refine Fin.tell (fA (ah iV ?_) trivial)|refine Fin.here ?_|refine ag.mk ?_ ?_))<;>try exact cls
 all_goals first|exact⟨(show(0:Int)<=5 by decide),(show(5:Int)<=9223372036854775807 by decide),(by decide)⟩|exact⟨FN.symm,(show(0:Int)<=(5:Int) / 2 by decide),(show(5:Int) / 2<5 by decide)⟩|exact⟨FN.symm,(show((5:Int) / 2).toNat<5 by decide),Nat.zero_lt_one⟩|exact⟨rfl,(show 0+5<=1000000 by decide)⟩
def afL(l:List Int)(h:3<=l.length/\l.length<=5):aQ 231 [.d (iR l)] (iV (Ls l)):=by
 obtain _|⟨a,_|⟨b,_|⟨c,_|⟨d,_|⟨e,_|⟨f,l⟩⟩⟩⟩⟩⟩:=l
 ·exact ai h.1 (by simp)
 ·exact ai h.1 (by simp)
 ·exact ai h.1 (by simp)
 ·exact aqI a b c
 ·exact aqH a b c d
 ·exact aqG a b c d e
 ·exact ai h.2 (by simp)
def Ew(s:bC)(l:List Int):Int:=min (Ls l) (s.log.length:Int)
def Ip(s:bC)(l:List Int)(c:Int):Int:=bif (bif decide (c<Ew s l) then decide (mi s.log (Ew s l)=s.term) else false) then Ew s l else c
def ada(s:bC)(l:List Int)(c:Int)(hn:3<=l.length/\l.length<=5)(hl:s.log.length<=1000):aQ 214 [jC s,.d (iR l),iV c] (iV (Ip s l c)):=by
 refine ay func214 λX=>?_
 (repeat'(first|refine aC ?_|refine bU 1 [] (ooz 7 []) ?_|refine bU 2 [] (ooz 12 []) ?_|refine mc ?_ ?_|refine kF (afL l hn) ?_|refine kF (Oy s.log (Ew s l) qo) ?_|refine aj.mk (λh=>?_) (λh=>?_)|refine Fin.tell (vq (ah iV ?_) tv)))<;>(try(refine dm.mk ?_;repeat'(first|exact tv|exact rfl|refine aO (afL l hn) ?_|refine aZ _ (fM (λht=>af.tell (Oy s.log (Ew s l) qo) vw ⟨rfl,rfl⟩) ?_)|refine an ?_ ?_|refine ag.mk ?_ ?_)))
 all_goals try exact cls
 all_goals first|exact(dH h).symm|exact(bG h).symm
