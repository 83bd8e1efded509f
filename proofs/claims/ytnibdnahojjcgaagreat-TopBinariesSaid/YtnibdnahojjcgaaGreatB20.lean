/- A part of the proof. -/
import Derived.Deep.RegionLaw
import Derived.Lib.AppendZerosOnto
import Derived.Lib.Overlaps
import Derived.Test.YtnibdnahojjcgaaGreatB17
namespace Go.Proofs.YtnibdnahojjcgaaGreat
set_option maxRecDepth 100000
set_option maxHeartbeats 16000000
set_option linter.unusedVariables false
set_option linter.unusedSimpArgs false
open Go.RowKit
def Tf(l:List Int)(k:Int):Int:=ji (λx=>decide (k=x)) 0 l
def rV(l:List Int)(k:Int):Bool:=decide (0<=Tf l k)
def sU(n dK:Int)(named:Bool):Bool:=bif named then dN n 1 dK else decide (n=0)
theorem ajL(l:List Int)(v:Int)(hn:l.length<=100000):aQ 222 [.d (iH l),iV v] (iV (Tf l v)):=by
 refine asz Tryz.func222 λX=>?_
 (repeat' (first|refine oz ?_|refine asI l.length (λi (a:Unit)=>⟨19,[(0,.d (iH l)),(1,iV v),(7,iV l.length),(8,iV i)],e0⟩) (λi a=>Tf l v=ji (λx=>decide (v=x)) i (l.drop i)) () ?_ ?_ (λi a hi hp=>?_)|refine aU () ⟨?_,?_,?_⟩|refine ai.mk (λh=>?_) (λh=>?_)|refine ag.a ?_|refine Fin.tell (vq (gz iV ?_) tv)|refine ag.mk ?_ ?_))<;>try exact aB
 all_goals first|exact uN|(have h9:i<l.length:=om;rw[hp,IB 0 h9];first|exact(dF h).symm|exact bz h)|(have h9:=bJ h;rw[hp,sZ (by omega)];rfl)
theorem agu(l:List Int)(v:Int)(hn:l.length<=100000):aQ 185 [.d (iH l),iV v] (.b (rV l v)):=by
 refine asz Tryz.func185 λX=>?_
 (repeat' (first|refine oz ?_|refine asA (ajL l v hn) ?_|refine Fin.tell (vq (gz V.b ?_) tv)))<;>try exact aB
theorem EL(l:List Int)(c:aI)(hn:l.length<=100000):ae 184 [.d (iH l),.ptr 0 0] ⟨[(0,.blk 8 (λk=>.d (kY c k)))],1⟩ (λrv rt=>rv=(.b (rV l c.kind))/\rt=⟨[(0,.blk 8 (λk=>.d (kY c k)))],1⟩):=by
 refine asz Tryz.func184 λX=>?_
 (repeat' (first|refine oz ?_|refine asA (agu l c.kind hn) ?_|refine ag.a ?_|refine asY qN (vq (gz V.b ?_) tv) (by repeat' (first|exact tv|refine an ⟨nb rfl,af.blk ?_⟩ ?_|exact qV|refine an ?_ ?_))))<;>try exact aB
theorem adA(n dK:Int)(named:Bool):aQ 186 [iV n,iV dK,.b named] (.b (sU n dK named)):=by
 refine asz Tryz.func186 λX=>?_
 (repeat' (first|refine oz ?_|refine ae.tell (X0 _ _ _) vw ?_|refine ai.mk (λh=>?_) (λh=>?_)|refine ag.a ?_|refine Fin.tell (vq (gz V.b ?_) tv)))<;>try exact aB
 all_goals first|exact(dF h).symm|exact(bz h).symm
def J4(c:aI):Bool:=(iU c.text).toList == ({ data:=#[] }:ByteArray).toList
def Ae(c:aI)(lo hi:Int)(ch tx:Bool):Bool:=
 bif (bif (bif (bif (bif (bif dN c.n lo hi then ch else false) then tx else false) then sU c.bf 8 (!rV [8] c.kind) else false) then sU c.seq 1048576 (!rV [1,8] c.kind) else false) then sU c.set 8 (rV [2,3,4] c.kind) else false) then sU c.id 1048576 (rV [5,7,9,10,11] c.kind) else false
def yS(c:aI)(lo hi:Int):Bool:=bif decide (c.kind=3) then Ae c lo hi (kG c.chunks) (J4 c) else bif decide (c.kind=11) then Ae c lo hi (decide ((c.chunks.length:Int)=0)) (decide (((iU c.text).size:Int)<=16)) else Ae c lo hi (decide ((c.chunks.length:Int)=0)) (J4 c)
def wM(c:aI):Bool:=bif decide (12=c.kind) then yS c 0 64 else bif decide (8=c.kind) then yS c 2 3 else bif decide (6=c.kind) then yS c 0 8 else yS c 0 0
theorem aoX(c:aI)(hc:c.chunks.length<=100000):aQ 146 [jI c] (.b (wM c)):=by
 refine asz Tryz.func146 λX=>?_
 (repeat' (first|refine aua (x:=.region 3 _ _) (λ(a:Int×Int)=>⟨85,[(1,.ptr 0 0),(3,.fn 184 0 1 (λ_=>.ptr 0 0)),(4,.fn 186 0 0 (λ_=>.top)),(5,.ptr 2 0)],⟨[(0,.blk 8 (λk=>.d (kY c k))),(2,.blk 2 (λk=>match k with|0=>iV a.1|_=>iV a.2))],3⟩⟩) (λa=>wM c=yS c a.1 a.2) (T.region ?_) (λb hb=>T.seq ?_)|refine aua (y:=.seq (.region 10 _ _) _) (λ(a:Bool×Bool)=>⟨85,[(1,.ptr 0 0),(3,.fn 184 0 1 (λ_=>.ptr 0 0)),(4,.fn 186 0 0 (λ_=>.top)),(5,.ptr 2 0),(6,.b a.1),(7,.b a.2)],⟨[(0,.blk 8 (λk=>.d (kY c k))),(2,.blk 2 (λk=>match k with|0=>iV b.1|_=>iV b.2))],3⟩⟩) (λa=>wM c=Ae c b.1 b.2 a.1 a.2) ?_ (λa ha=>T.seq ?_)|refine oz ?_|refine asD 4 [] [o0,o0,o0,o0,o0,o0,o0,o0,o0] ?_|refine asD 10 [] [o0,o0,o0,o0,o0,o0,o0,o0,o0,o0,o0,o0,o0,o0,o0,o0,o0,o0,o0,o0,o0,o0,o0,o0,o0,o0,o0,o0,o0,o0,o0,o0,o0,o0,o0,o0,o0,o0,o0,o0,o0,o0,o0,o0,o0,o0,o0,o0,o0] ?_|refine mc ?_ ?_|refine asA (QU c.chunks hc) ?_|refine bn.tell (X0 _ _ _) vw ?_|refine atG [0] (EL [8] c (by simp)) rfl rfl rfl ⟨VW.sl rfl (λj hj k hk=>by obtain rfl:k=0:=Nat.lt_one_iff.1 hk;rcases j with _|j <;> first|rfl|(exact au hj (by omega))),qW,tv⟩ bG ⟨rfl,tv⟩ ?_|refine atG [0] (EL [1,8] c (by simp)) rfl rfl rfl ⟨VW.sl rfl (λj hj k hk=>by obtain rfl:k=0:=Nat.lt_one_iff.1 hk;rcases j with _|_|j <;> first|rfl|(exact au hj (by omega))),qW,tv⟩ bG ⟨rfl,tv⟩ ?_|refine atG [0] (EL [2,3,4] c (by simp)) rfl rfl rfl ⟨VW.sl rfl (λj hj k hk=>by obtain rfl:k=0:=Nat.lt_one_iff.1 hk;rcases j with _|_|_|j <;> first|rfl|(exact au hj (by omega))),qW,tv⟩ bG ⟨rfl,tv⟩ ?_|refine atG [0] (EL [5,7,9,10,11] c (by simp)) rfl rfl rfl ⟨VW.sl rfl (λj hj k hk=>by obtain rfl:k=0:=Nat.lt_one_iff.1 hk;rcases j with _|_|_|_|_|j <;> first|rfl|(exact au hj (by omega))),qW,tv⟩ bG ⟨rfl,tv⟩ ?_|refine asN (adA _ _ _) ?_|refine ai.mk (λh=>?_) (λh=>?_)|refine ag.a ?_|refine Fin.tell (vq (gz V.b ?_) tv)))<;>(try(refine dh.mk ?_;repeat' (first|exact tv|exact rfl|refine ae.tell (X0 _ _ _) vw ?_|refine aU _ (ed (λht=>ate [0] (EL [8] c (by simp)) rfl rfl rfl ⟨VW.sl rfl (λj hj k hk=>by obtain rfl:k=0:=Nat.lt_one_iff.1 hk;rcases j with _|j <;> first|rfl|(exact au hj (by omega))),qW,tv⟩ bG ⟨rfl,tv⟩ ⟨rfl,rfl⟩) ?_)|refine aU _ (ed (λht=>ate [0] (EL [1,8] c (by simp)) rfl rfl rfl ⟨VW.sl rfl (λj hj k hk=>by obtain rfl:k=0:=Nat.lt_one_iff.1 hk;rcases j with _|_|j <;> first|rfl|(exact au hj (by omega))),qW,tv⟩ bG ⟨rfl,tv⟩ ⟨rfl,rfl⟩) ?_)|refine aU _ (ed (λht=>ate [0] (EL [2,3,4] c (by simp)) rfl rfl rfl ⟨VW.sl rfl (λj hj k hk=>by obtain rfl:k=0:=Nat.lt_one_iff.1 hk;rcases j with _|_|_|j <;> first|rfl|(exact au hj (by omega))),qW,tv⟩ bG ⟨rfl,tv⟩ ⟨rfl,rfl⟩) ?_)|refine aU _ (ed (λht=>ate [0] (EL [5,7,9,10,11] c (by simp)) rfl rfl rfl ⟨VW.sl rfl (λj hj k hk=>by obtain rfl:k=0:=Nat.lt_one_iff.1 hk;rcases j with _|_|_|_|_|j <;> first|rfl|(exact au hj (by omega))),qW,tv⟩ bG ⟨rfl,tv⟩ ⟨rfl,rfl⟩) ?_)|refine aU _ (ed (λht=>ae.tell (adA _ _ _) vw ⟨rfl,rfl⟩) ?_)|refine an ?_ ?_|refine ag.mk ?_ ?_)))
 all_goals try exact aB
 all_goals first|exact ha.symm|(refine aU ((0,64):Int×Int) ⟨(by simp only[wM,dR,di, *];done),?_⟩;(refine aV.mk rfl qN qN ?_ ?_ <;> repeat' (first|exact tv|exact qV|exact qW|refine asJ ?_|refine vq (gz iV ?_) tv|refine an ⟨nb rfl,af.blk ?_⟩ ?_|refine an ?_ ?_));done)|(refine aU ((2,3):Int×Int) ⟨(by simp only[wM,dR,di, *];done),?_⟩;(refine aV.mk rfl qN qN ?_ ?_ <;> repeat' (first|exact tv|exact qV|exact qW|refine asJ ?_|refine vq (gz iV ?_) tv|refine an ⟨nb rfl,af.blk ?_⟩ ?_|refine an ?_ ?_));done)|(refine aU ((0,8):Int×Int) ⟨(by simp only[wM,dR,di, *];done),?_⟩;(refine aV.mk rfl qN qN ?_ ?_ <;> repeat' (first|exact tv|exact qV|exact qW|refine asJ ?_|refine vq (gz iV ?_) tv|refine an ⟨nb rfl,af.blk ?_⟩ ?_|refine an ?_ ?_));done)|(refine aU ((0,0):Int×Int) ⟨(by simp only[wM,dR,di, *];done),?_⟩;(refine aV.mk rfl qN qN ?_ ?_ <;> repeat' (first|exact tv|exact qV|exact qW|refine asJ ?_|refine an ⟨nb rfl,af.blk ?_⟩ ?_|refine an ?_ ?_));done)|(refine aU ((kG c.chunks,J4 c):Bool×Bool) ⟨(by rw[hb];simp only[yS,dR,di, *];done),?_⟩;(refine aV.mk rfl qN qN ?_ ?_ <;> repeat' (first|exact tv|exact qV|exact qW|refine asJ ?_|refine an ⟨nb rfl,af.blk ?_⟩ ?_|refine an ?_ ?_));done)|(refine aU ((decide ((c.chunks.length:Int)=0),decide (((iU c.text).size:Int)<=16)):Bool×Bool) ⟨(by rw[hb];simp only[yS,dR,di, *];done),?_⟩;(refine aV.mk rfl qN qN ?_ ?_ <;> repeat' (first|exact tv|exact qV|exact qW|refine asJ ?_|refine an ⟨nb rfl,af.blk ?_⟩ ?_|refine an ?_ ?_));done)|(refine aU ((decide ((c.chunks.length:Int)=0),J4 c):Bool×Bool) ⟨(by rw[hb];simp only[yS,dR,di, *];done),?_⟩;(refine aV.mk rfl qN qN ?_ ?_ <;> repeat' (first|exact tv|exact qV|exact qW|refine asJ ?_|refine an ⟨nb rfl,af.blk ?_⟩ ?_|refine an ?_ ?_));done)
def oO(cs:Array Value)(o:Nat)(news:List Value):Array Value:=(cs.toList.take o++news++cs.toList.drop (o+news.length)).toArray
theorem OX{w:World}{ops:Array Oper}{o:Oper}{a:Act}{K:Act->World->Prop}{Q:Exit->Act->World->Prop}{E:Prop}(hg:o.guard=none)(d x:Operand)(t:TypeId)(hop:o.op = .call { callee:=.builtin .copy,args:=#[d,x],argTypes:=#[t,t] })
  (v u:Value) (hd:a.eval d=v) (hx:a.eval x=u) {v':Value} {w':World} (hr:(Builtin.copy_ #[t,t] o.type #[v,u]).run Tryz.prog w = .ok v' w') (hK:K (a.put o.dst v') w'):if Region.wanted o (yielded ops a.tmps)=true then Oper.wp Tryz.prog o a w K Q else E:=by
 rw[if_pos (by simp[Region.wanted,hg])];unfold Oper.wp;simp[execOp,hop,resolve,invoke,builtin,hd,hx,hr,Result.andThen];exact hK
theorem AU{cs:Array Value}{o:Nat}{news:List Value}(h:o+news.length<=cs.size):(oO cs o news).size=cs.size:=by
 unfold oO;rw[List.size_toArray,bW,bW,dP,fE,qX];omega
theorem PI{cs:Array Value}{o:Nat}{news:List Value}(h:o+news.length<=cs.size)(k:Nat):(oO cs o news)[k]?=if o<=k/\k<o+news.length then news[k-o]? else cs[k]?:=by
 unfold oO;rw[List.getElem?_toArray,Wh _ _ _ (by rw[qX];exact h)];split
 ·rfl
 ·rw[qE]
theorem O5{ty E o o2 n c m c2 b b2 k:Nat}{t2:TypeId}{te YZ:TypeId}{cs cs2:Array Value}(hk1:(tI ty).k=3)(hE:E=(tI ty).elem)(hok:(tI E).ok=true){w:World}(hh:w.heap[b]?=some (.cells cs te (0,0)))(hh2:w.heap[b2]?=some (.cells cs2 YZ (0,0)))(hmin:Nat.min m n=k)(hk:0<k)(hz0:0<(tI E).size)
  (iC:o+k*(tI E).size<=cs.size) (aso:o2+k*(tI E).size<=cs2.size) (h1:∀(j:Nat) (x:Value),o2<=j->j<o2+k*(tI E).size->cs2[j]?=some x->x.oneCell'=true) :
  (Builtin.copy_ #[ty,ty] t2 #[.slice (some ⟨b,o,none⟩) n c,.slice (some ⟨b2,o2,none⟩) m c2]).run Tryz.prog w = .ok (goInt k) (w.setRow b (oO cs o ((cs2.toList.drop o2).take (k*(tI E).size)))):=by
 have hl:((cs2.toList.drop o2).take (k*(tI E).size)).length=k*(tI E).size:=by rw[dP,fE,qX];omega
 have hget:∀ j,j<k*(tI E).size->((cs2.toList.drop o2).take (k*(tI E).size))[j]?=cs2[o2+j]?:=λj hj=>by rw[oh,if_pos hj,sD,qE]
 have:=aaD (ty:=ty) (E:=E) (o:=o) (n:=n) (c:=c) (m:=m) (cy:=c2) (b:=b) (Ay:=some ⟨b2,o2,none⟩) (t2:=t2) (te:=te) (cs:=cs) (news:=(cs2.toList.drop o2).take (k*(tI E).size)) hk1 hE hok hh (by rw[hl];exact iC) (by rw[hl,hmin]) (λ_=>⟨b2,o2,rfl,(Array.getElem?_eq_some_iff.1 hh2).1,λi hi=>by
  rw[hl]at hi;rw[cellOf hh2,hget i hi]⟩) (λu hu=>by
  obtain⟨j,hj,e⟩:=List.getElem_of_mem hu;rw[hl]at hj;have e2:=hget j hj;rw[dW (by rw[hl];exact hj),e]at e2;exact h1 (o2+j) u qO qO e2.symm) (by rw[hmin];exact hk) hz0
 rw[hmin]at this;exact this
def yh(p:Nat)(g:Nat->Nat->V)(y:Nat->V)(j k:Nat):V:=bif Nat.blt j p then g j k else bif Nat.beq j p then y k else g (j-1) k
theorem ads{p:Nat}{g:Nat->Nat->V}{y:Nat->V}{j k:Nat}(h:j<p):yh p g y j k=g j k:=by
 unfold yh;rw[show Nat.blt j p=true from (by rw[Nat.blt_eq];exact h)];rfl
theorem adt{p:Nat}{g:Nat->Nat->V}{y:Nat->V}{k:Nat}:yh p g y p k=y k:=by
 unfold yh;rw[show Nat.blt p p=false from (by rw[yE,ne_eq,Nat.blt_eq];omega),show Nat.beq p p=true from Nat.beq_refl p];rfl
theorem am5{p:Nat}{g:Nat->Nat->V}{y:Nat->V}{j k:Nat}(h:p<j):yh p g y j k=g (j-1) k:=by
 unfold yh;rw[show Nat.blt j p=false from (by rw[yE,ne_eq,Nat.blt_eq];omega),show Nat.beq j p=false from (by rw[yE,ne_eq,Nat.beq_eq];omega)];rfl
def Ak(p:Nat)(g:Nat->Nat->D)(y:Nat->D)(j k:Nat):D:=bif Nat.blt j p then g j k else bif Nat.beq j p then y k else g (j-1) k
theorem Xu{p:Nat}{g:Nat->Nat->D}{y:Nat->D}:yh p (λj k=>.d (g j k)) (λk=>.d (y k))=λj k=>.d (Ak p g y j k):=by
 funext j k;unfold yh Ak;cases Nat.blt j p <;> cases Nat.beq j p <;> rfl
theorem adu{n:Nat}{g x:Nat->Nat->D}{j k:Nat}(hj:j<n+1):(appG n (λj k=>V.d (g j k)) (λj k=>V.d (x j k)) j k:V) = .d (Ak n g (x 0) j k):=by
 have e:=congrFun (congrFun (Xu (p:=n) (g:=g) (y:=x 0)) j) k;rw[<-e,Di];by_cases h:j<n
 ·rw[if_pos h,ads h]
 ·obtain rfl:j=n:=qO;rw[if_neg h,adt,Nat.sub_self]
theorem aaT{α:Type}(c:α->Nat->D)(d y:α)(l:List α){p:Nat}(hp:p<=l.length){j k:Nat}:Ak p (λj k=>c (l.getD j d) k) (c y) j k=c ((l.take p++y::l.drop p).getD j d) k:=by
 unfold Ak;simp only[];rw[bC,bC,bC];rcases Nat.lt_trichotomy j p with h|h|h
 ·rw[show Nat.blt j p=true from (by rw[Nat.blt_eq];exact h),mO (by rw[dP];omega),oh,if_pos h];rfl
 ·subst h;rw[show Nat.blt j j=false from (by rw[yE,ne_eq,Nat.blt_eq];omega),show Nat.beq j j=true from Nat.beq_refl j,oW (by rw[dP];omega),dP,show j-min j l.length=0 from qO];rfl
 ·rw[show Nat.blt j p=false from (by rw[yE,ne_eq,Nat.blt_eq];omega),show Nat.beq j p=false from (by rw[yE,ne_eq,Nat.beq_eq];omega),oW (by rw[dP];omega),dP,show j-min p l.length=(j-1-p)+1 from qO,List.getElem?_cons_succ,sD,show p+(j-1-p)=j-1 from qO];rfl
theorem abY{G:Gh}{t:ST}{w w':World}(hg:bV G t w){E z n p b nb C:Nat}{A:Option Addr}{c:Nat}{g x:Nat->Nat->V}{CS VS FC:Array Value}(h0:t.get 0 = .row E z n g)(hr:G.ρ 0=some (.row A c))(hA:A=some ⟨b,0,none⟩)(hc0:0<c)
  (hcell:∀ j,j<n->∀ k,k<z->∃ u,CS[j*z+k]?=some u/\u.oneCell'=true/\aO G t.get w (g j k) u) (hv:∀ k,k<z->∃ u,VS[k]?=some u/\u.oneCell'=true/\aO G t.get w (x 0 k) u) (hp:p<n)
  (zk:w'.os=w.os) (htape:w'.tape=w.tape) (hout:w'.output=w.output) (hsize:w.heap.size<=w'.heap.size) (hkeep:∀ q,q<w.heap.size->q≠b->w'.heap[q]?=w.heap[q]?) (hnb:nb=b\/w.heap.size<=nb) (hnn:n+1<=C) (Zp:C<=maxLen)
  (hF:w'.heap[nb]?=some (.cells FC E (0,0))) (hFs:FC.size=C*z) (hFC:∀ j,j<n+1->∀ k,k<z->FC[j*z+k]?=if j<p then CS[j*z+k]? else if j=p then VS[k]? else CS[(j-1)*z+k]?) :
  bV (G.upd 0 (.row (some ⟨nb,0,none⟩) C)) (t.set 0 (.row E z (n+1) (yh p g (x 0)))) w'/\Stp G t.get w (G.upd 0 (.row (some ⟨nb,0,none⟩) C)) (t.set 0 (.row E z (n+1) (yh p g (x 0)))).get w'/\aO (G.upd 0 (.row (some ⟨nb,0,none⟩) C)) (t.set 0 (.row E z (n+1) (yh p g (x 0)))).get w' (.row 0 (n+1)) (.slice (some ⟨nb,0,none⟩) (n+1) C):=by
 have hown:dA G t.get 0 b:=by unfold dA;rw[h0];exact⟨A,c,hr,hc0,_,hA⟩
 refine AZ (m:=1) (c':=C) (A':=some ⟨nb,0,none⟩) (g':=yh p g (x 0)) hg h0 hr (λh=>by omega) zk htape hout hsize (λq hq hn=>hkeep q hq (λe=>hn (by rw[e];exact hown)))
  (λ_ b' off e=>by injection e with e;injection e with e;rw[<-e];rcases hnb with rfl|h;exact .inl hown;exact .inr h)
  (λhs=>.inr ⟨by omega,nb,FC,rfl,hF,hFs,hnn,Zp,λj hj k hk=>?_⟩)
 rw[hFC j hj k hk];rcases Nat.lt_trichotomy j p with h1|h1|h1
 ·obtain⟨u,e1,e2,e3⟩:=hcell j qO k hk;exact⟨u,by rw[if_pos h1];exact e1,e2,by rw[ads h1];exact e3.dS hs hg.aK⟩
 ·subst h1;obtain⟨u,e1,e2,e3⟩:=hv k hk;exact⟨u,by rw[if_neg qO,if_pos rfl];exact e1,e2,by rw[adt];exact e3.dS hs hg.aK⟩
 ·obtain⟨u,e1,e2,e3⟩:=hcell (j-1) qO k hk;exact⟨u,by rw[if_neg qO,if_neg qO];exact e1,e2,by rw[am5 h1];exact e3.dS hs hg.aK⟩
theorem ase{P:Nat->V->Value->Prop}{a b c:V}{us:List Value}(hl:us.length=3)(h:∀ k v u,[a,b,c][k]?=some v->us[k]?=some u->P k v u):∃ u v x,us=[u,v,x]/\P 0 a u/\P 1 b v/\P 2 c x:=by
 rcases us with _|⟨u,_|⟨v,_|⟨x,_|⟨y,r⟩⟩⟩⟩
 ·simp at hl
 ·simp at hl
 ·simp at hl
 ·exact⟨u,v,x,rfl,h 0 a u rfl rfl,h 1 b v rfl rfl,h 2 c x rfl rfl⟩
 ·simp at hl
theorem adV{G:Gh}{t:ST}{w:World}(hg:bV G t w){i E z n:Nat}{g:Nat->Nat->V}{u:Value}(h0:t.get i = .row E z n g)(hu:aO G t.get w (.row i n) u)(hn:0<n) :
  ∃ b c cs,u = .slice (some ⟨b,0,none⟩) n c/\G.ρ i=some (.row (some ⟨b,0,none⟩) c)/\w.heap[b]?=some (.cells cs E (0,0))/\cs.size=c*z/\n<=c/\c<=maxLen/\∀ j,j<n->∀ k,k<z->∃ x,cs[j*z+k]?=some x/\x.oneCell'=true/\aO G t.get w (g j k) x:=by
 obtain⟨A,c,hr,_,hu⟩:=hu;have e:=(hu _ _ _ _ h0).2 rfl;obtain⟨_,_,_,q⟩:=rowOf (n:=0) hg.aK h0 hr;rcases q with ⟨_,q⟩|⟨_,b,cs,rfl,q2,q3,q4,q5,q6⟩
 ·omega
 ·exact⟨b,c,cs,e,hr,q2,q3,q4,q5,q6⟩
def D9(E z S ov f:Nat):Prop:=(E=97/\z=2/\S=38/\ov=316/\f=301)\/(E=54/\z=4/\S=37/\ov=249/\f=241)
theorem zo{p:Prop}(h:p:=by unfold D9 at hP;rcases hP with ⟨rfl,rfl,rfl,rfl,rfl⟩|⟨rfl,rfl,rfl,rfl,rfl⟩ <;> omega):p:=h
theorem zr{p:Prop}(h:p:=by unfold D9 at hP;rcases hP with ⟨rfl,rfl,rfl,rfl,rfl⟩|⟨rfl,rfl,rfl,rfl,rfl⟩ <;> first|rfl|exact Nat.lt_of_sub_ne_zero (by decide)):p:=h
theorem am4{E z S ov f:Nat}(hP:D9 E z S ov f){w:World}{b vb n c vc i:Nat}{CS VS:Array Value}(hne:vb≠b)(hh:w.heap[b]?=some (.cells CS E (0,0)))(hv:w.heap[vb]?=some (.cells VS E (0,0)))(hs:CS.size=c*z)(hvs:VS.size=vc*z)(Zg:1<=vc)(hnc:n+1<=c)(hcm:c<=maxLen)(hi:i<n)(hn:n<=100000)
  (h1:∀(j:Nat) (x:Value),j<n*z->CS[j]?=some x->x.oneCell'=true) (h2:∀(j:Nat) (x:Value),j<z->VS[j]?=some x->x.oneCell'=true) :
  Calls Tryz.prog f #[.slice (some ⟨b,0,none⟩) n c,.int .i64 (i:Int),.slice (some ⟨vb,0,none⟩) 1 vc] w λe w'=>e = .returned (.slice (some ⟨b,0,none⟩) (n+1) c) /\
   w'=((w.drew).setRow b (oO CS ((i+1)*z) ((CS.toList.drop (i*z)).take ((n-i)*z)))).setRow b (oO (oO CS ((i+1)*z) ((CS.toList.drop (i*z)).take ((n-i)*z))) (i*z) (VS.toList.take z)):=by
 have hE:(tI E).ok=true:=zr;have hts:(tI E).size=z:=zr;have hsz:(sizeOf E).run Tryz.prog w = .ok z w:=hts▸qf (w:=w) hE;have asu:(sizeOf E).run Tryz.prog w.drew = .ok z w.drew:=hts▸qf (w:=w.drew) hE;have hmid:((CS.toList.drop (i*z)).take ((n-i)*z)).length=(n-i)*z:=by rw[dP,fE,qX,hs];exact zo
 have hvl:(VS.toList.take z).length=z:=by rw[dP,qX,hvs];exact zo
 have hov:∀ lb cb,(callFunc ov #[.slice (some ⟨vb,0,none⟩) 1 vc,.slice (some ⟨b,(i+1)*z,none⟩) lb cb]).run Tryz.prog w = .ok (.value (.bool false)) w:=λlb cb=>by
  have hrun:=Lib.run_overlaps_apart (P:=Tryz.prog) w S 4 E zr z (λw=>hts▸qf hE) ⟨vb,0,none⟩ ⟨b,(i+1)*z,none⟩ 1 vc lb cb hne E E VS.size CS.size (by simp[World.shape?,hv]) (by simp[World.shape?,hh]) zo (frozen_of_row w vb 0 VS _ hv) (frozen_of_row w vb VS.size VS _ hv);unfold D9 at hP;rcases hP with ⟨rfl,rfl,rfl,rfl,rfl⟩|⟨rfl,rfl,rfl,rfl,rfl⟩
  ·rw[run_callFunc_extern Tryz.func316 qK qK qK (e:=Extern.SlicesOverlaps.overlaps #[38,38] #[4]) qK,hrun];rfl
  ·rw[run_callFunc_extern Tryz.func249 qK qK qK (e:=Extern.SlicesOverlaps.overlaps #[37,37] #[4]) qK,hrun];rfl
 have hz1:¬((i:Int)=(n:Int)):=qO;have hw1:IntKind.i64.wrap ((i:Int)+1)=(i:Int)+1:=by rw[IntKind.wrap_i64];unfold maxLen at hcm;omega
 have hw2:IntKind.i64.wrap ((n:Int)+1)=(n:Int)+1:=by rw[IntKind.wrap_i64];unfold maxLen at hcm;omega
 have hb1:(0:Int)<=(i:Int)+1:=qO;have hin:i<=n:=qO;have htn:((i:Int)+1).toNat=i+1:=qO;have hb2:¬(c=i+1):=qO;have hb3:(i:Int)<=(n:Int)+1:=qO;have hb4:¬(c=i):=qO;obtain⟨M,hM⟩:∃ M,M=(CS.toList.drop (i*z)).take ((n-i)*z):=⟨_,rfl⟩;obtain⟨N,hN⟩:∃ N,N=VS.toList.take z:=⟨_,rfl⟩;rw[<-hM]at hmid;rw[<-hN]at hvl;have aqp:(i+1)*z+M.length<=CS.size:=by rw[hmid];exact zo
 obtain⟨R,hR⟩:∃ R,R=oO CS ((i+1)*z) M:=⟨_,rfl⟩;have hRs:R.size=CS.size:=by rw[hR];exact AU aqp
 have hcp1:∀(W:World),W.heap=w.heap->∀ ty dc sc,(Builtin.copy_ #[S,S] ty #[.slice (some ⟨b,(i+1)*z,none⟩) (n-i) dc,.slice (some ⟨b,i*z,none⟩) (n+1-i) sc]).run Tryz.prog W = .ok (goInt ((n-i:Nat):Int)) (W.setRow b R):=λW hW ty dc sc=>by
  rw[hR,hM];have:=O5 (ty:=S) (E:=E) (k:=n-i) (o:=(i+1)*z) (o2:=i*z) (n:=n-i) (m:=n+1-i) (b:=b) (b2:=b) (cs:=CS) (cs2:=CS) (c:=dc) (c2:=sc) (t2:=ty) (te:=E) (YZ:=E) zr zr hE (by rw[hW];exact hh) (by rw[hW];exact hh) (by simp only[Nat.min_def];split <;> omega) qO zr (by rw[hts];exact zo) (by rw[hts];exact zo) (λj x _ hj=>h1 j x (by rw[hts]at hj;exact zo));rw[hts]at this;exact this
 have hcp2:∀(W:World),W.heap[b]?=some (.cells R E (0,0))->W.heap[vb]?=some (.cells VS E (0,0))->∀ ty dc,(Builtin.copy_ #[S,S] ty #[.slice (some ⟨b,i*z,none⟩) (n+1-i) dc,.slice (some ⟨vb,0,none⟩) 1 vc]).run Tryz.prog W = .ok (goInt 1) (W.setRow b (oO R (i*z) N)):=λW hW hV ty dc=>by
  have:=O5 (ty:=S) (E:=E) (k:=1) (n:=n+1-i) (c:=dc) (m:=1) (c2:=vc) (t2:=ty) zr zr hE (o:=i*z) (o2:=0) hW hV (by simp only[Nat.min_def];split <;> omega) qO zr (by rw[hts];exact zo) (by rw[hts];exact zo) (λj x _ hj=>h2 j x (by rw[hts]at hj;exact zo));rw[hts,List.drop_zero,Nat.one_mul]at this;rw[hN];exact this
 have hb:b<w.heap.size:=(Array.getElem?_eq_some_iff.1 hh).1;have hWb:((w.drew).setRow b R).heap[b]?=some (.cells R E (0,0)):=setRow_heap _ b CS R E (0,0) hh;have hWv:((w.drew).setRow b R).heap[vb]?=some (.cells VS E (0,0)):=(setRow_other _ b vb R hne).trans hv;have arN:(sizeOf E).run Tryz.prog ((w.drew).setRow b R) = .ok z ((w.drew).setRow b R):=hts▸qf hE;rw[<-hM,<-hN,<-hR];clear hM hN hR;unfold D9 at hP;rcases hP with ⟨rfl,rfl,rfl,rfl,rfl⟩|⟨rfl,rfl,rfl,rfl,rfl⟩
 ·clear hts;go_enter Tryz.func301,Tryz.ntmps301;go_wp2_with (simp only[hov])
  go_region_law (refine OX rfl (.tmp 73) (.tmp 76) 38 rfl (.slice (some ⟨b,(i+1)*2,none⟩) (n-i) (c-(i+1))) (.slice (some ⟨b,i*2,none⟩) (n+1-i) (c-i)) ?_ ?_ (hcp1 _ ?_ 3 (c-(i+1)) (c-i)) ?_;(simp[Act.eval,Act.put]);(simp[Act.eval,Act.put]);rfl)
  go_wp2_with (rw[hcp2 _ hWb hWv]);go_ret;exact⟨rfl,rfl⟩
 ·clear hts;go_enter Tryz.func241,Tryz.ntmps241;go_wp2_with (simp only[hov])
  go_region_law (refine OX rfl (.tmp 73) (.tmp 76) 37 rfl (.slice (some ⟨b,(i+1)*4,none⟩) (n-i) (c-(i+1))) (.slice (some ⟨b,i*4,none⟩) (n+1-i) (c-i)) ?_ ?_ (hcp1 _ ?_ 3 (c-(i+1)) (c-i)) ?_;(simp[Act.eval,Act.put]);(simp[Act.eval,Act.put]);rfl)
  go_wp2_with (rw[hcp2 _ hWb hWv]);go_ret;exact⟨rfl,rfl⟩
theorem ajH{E z S ov f:Nat}(hP:D9 E z S ov f){w:World}{b vb n c vc i:Nat}{CS VS:Array Value}(hh:w.heap[b]?=some (.cells CS E (0,0)))(hv:w.heap[vb]?=some (.cells VS E (0,0)))(hs:CS.size=c*z)(hvs:VS.size=vc*z)(Zg:1<=vc)(hnc:n<=c)(hgr:c<n+1)(hi:i<n)(hn:n<=100000)
  (h1:∀(j:Nat) (x:Value),j<n*z->CS[j]?=some x->x.oneCell'=true) (h2:∀(j:Nat) (x:Value),j<z->VS[j]?=some x->x.oneCell'=true) :
  Calls Tryz.prog f #[.slice (some ⟨b,0,none⟩) n c,.int .i64 (i:Int),.slice (some ⟨vb,0,none⟩) 1 vc] w λe w'=>∃(G:Nat) (Q:List Value),n+1<=G/\G<=maxLen/\Q.length=(G-i)*z/\e = .returned (.slice (some ⟨w.heap.size,0,none⟩) (n+1) G) /\
   w'=(((w.drew.alloc (.cells (CS.toList.take (i*z)++Q).toArray E)).setRow w.heap.size (oO (CS.toList.take (i*z)++Q).toArray (i*z) (VS.toList.take z))).drew).setRow w.heap.size (oO (oO (CS.toList.take (i*z)++Q).toArray (i*z) (VS.toList.take z)) ((i+1)*z) ((CS.toList.drop (i*z)).take ((n-i)*z))):=by
 have hE:(tI E).ok=true:=zr;have hts:(tI E).size=z:=zr;have hsz:(sizeOf E).run Tryz.prog w = .ok z w:=hts▸qf (w:=w) hE;obtain⟨i0,z0,hI⟩:=EP hE;have hmid:((CS.toList.drop (i*z)).take ((n-i)*z)).length=(n-i)*z:=by rw[dP,fE,qX,hs];exact zo
 have hvl:(VS.toList.take z).length=z:=by rw[dP,qX,hvs];exact zo
 have hol:(CS.toList.take (i*z)).length=i*z:=by rw[dP,qX,hs];exact zo
 have hz1:¬((i:Int)=(n:Int)):=qO;have hz3:(c:Int)<(n:Int)+1:=qO;have cZ:(n:Int)+1-(i:Int)=((n+1-i:Nat):Int):=qO;have hik:i+(n+1-i)=n+1:=qO;have hbytes:i0.bytes<1000:=by rw[hI.bytes];exact zr
 have hsize:i0.size=z:=hI.size.trans hts;have hold:(Builtin.firstCells i0.size i (.slice (some ⟨b,0,none⟩) i c)).run Tryz.prog w.drew = .ok (CS.toList.take (i*z)).toArray w.drew:=by
  rw[hsize];exact run_firstCells_some w.drew z i ⟨b,0,none⟩ i c (CS.toList.take (i*z)) hol (λj v hj=>by
   have hlt:=(List.getElem?_eq_some_iff.1 hj).1;rw[hol]at hlt;rw[ug,jm,show w.drew.cell? ⟨b,j,none⟩=_ from cellOf hh j,<-qE];rw[oh,if_pos hlt]at hj;exact hj)
 have hfits:Builtin.nextslicecap (n+1) c*i0.bytes<=281474976710656:=growslice_fits hgr (by have:=Nat.mul_le_mul (show n+1<=100001 by omega) (show i0.bytes<=1000 by omega);omega);have hrz:∀ ty,(Builtin.append_ #[S,3] ty #[.slice (some ⟨b,0,none⟩) i c,.int .i64 ((n:Int)+1-(i:Int))]).run Tryz.prog w =
   .ok (.slice (some ⟨w.heap.size,0,none⟩) (n+1) (grownCap w (n+1) c E)) (w.drew.alloc (.cells ((CS.toList.take (i*z)).toArray++Builtin.zeroCells z0.cells (n+1-i)++Builtin.zeroCells z0.cells (grownCap w (n+1) c E-(n+1))) E)):=λty=>by
  have h:=Lib.run_append_grow_zeros (P:=Tryz.prog) w S 3 ty E i0 z0 .i64 .i64 zr (afd (t:=3) rfl rfl) hI.h hI.zero (some ⟨b,0,none⟩) i c (CS.toList.take (i*z)) hold (n+1-i) qO (by rw[hsize];exact zo) qO qO (by have:=Nat.mul_le_mul (show n+1-i<=100001 by omega) (show i0.bytes<=1000 by omega);omega) (by rw[hik];exact hfits);rw[hik]at h;rw[cZ];exact h
 obtain⟨G,hG⟩:∃ G,G=grownCap w (n+1) c E:=⟨_,rfl⟩;have hGn:n+1<=G:=by rw[hG];exact grownCap_ge w _ _ _
 have hGm:G<=maxLen:=by rw[hG];exact grownCap_le_maxLen w (n+1) c E (by unfold maxLen;omega)
 obtain⟨Q,hQ⟩:∃ Q,Q=(Builtin.zeroCells z0.cells (n+1-i)++Builtin.zeroCells z0.cells (G-(n+1))).toList:=⟨_,rfl⟩;have hQl:Q.length=(G-i)*z:=by
  have hzc:z0.cells.size=z:=hI.BC.trans hts;rw[hQ,qX,Array.size_append];have e:∀ k,(Builtin.zeroCells z0.cells k).size=k*z:=λk=>by rw[size_zeroCells,hzc]
  rw[e,e];exact zo
 have hROW:(CS.toList.take (i*z)).toArray++Builtin.zeroCells z0.cells (n+1-i)++Builtin.zeroCells z0.cells (G-(n+1))=(CS.toList.take (i*z)++Q).toArray:=by
  apply Array.toList_inj.1;rw[hQ];simp
 rw[<-hG,hROW]at hrz;refine Calls.mono ?_ (λe w' (h:e=_/\w'=_)=>⟨G,Q,hGn,hGm,hQl,h.1,h.2⟩);obtain⟨M,hM⟩:∃ M,M=(CS.toList.drop (i*z)).take ((n-i)*z):=⟨_,rfl⟩;obtain⟨N,hN⟩:∃ N,N=VS.toList.take z:=⟨_,rfl⟩;obtain⟨ROW,OH⟩:∃ ROW,ROW=(CS.toList.take (i*z)++Q).toArray:=⟨_,rfl⟩;have ar0:ROW.size=G*z:=by rw[OH,List.size_toArray,bW,hol,hQl];exact zo
 rw[<-hM]at hmid ⊢;rw[<-hN]at hvl ⊢;rw[<-OH]at hrz ⊢;obtain⟨R,hR⟩:∃ R,R=oO ROW (i*z) N:=⟨_,rfl⟩;have hRs:R.size=G*z:=by rw[hR,AU zo];exact ar0
 have hb:b<w.heap.size:=(Array.getElem?_eq_some_iff.1 hh).1;have hvb:vb<w.heap.size:=(Array.getElem?_eq_some_iff.1 hv).1;rw[<-hR];obtain⟨W1,hW1⟩:∃ W1,W1=w.drew.alloc (.cells ROW E):=⟨_,rfl⟩;have afC:W1.heap[w.heap.size]?=some (.cells ROW E (0,0)):=by rw[hW1];exact heap_alloc_new w.drew _
 have arY:W1.heap[vb]?=some (.cells VS E (0,0)):=by rw[hW1];exact(heap_alloc_old w.drew _ hvb).trans hv
 have arZ:W1.heap[b]?=some (.cells CS E (0,0)):=by rw[hW1];exact(heap_alloc_old w.drew _ hb).trans hh
 rw[<-hW1]at hrz ⊢;have hcp1:∀ ty dc,(Builtin.copy_ #[S,S] ty #[.slice (some ⟨w.heap.size,i*z,none⟩) (n+1-i) dc,.slice (some ⟨vb,0,none⟩) 1 vc]).run Tryz.prog W1 = .ok (goInt 1) (W1.setRow w.heap.size R):=λty dc=>by
  have:=O5 (ty:=S) (E:=E) (k:=1) (n:=n+1-i) (c:=dc) (m:=1) (c2:=vc) (t2:=ty) zr zr hE (o:=i*z) (o2:=0) afC arY (by simp only[Nat.min_def];split <;> omega) qO zr (by rw[hts];exact zo) (by rw[hts];exact zo) (λj x _ hj=>h2 j x (by rw[hts]at hj;exact zo));rw[hts,List.drop_zero,Nat.one_mul]at this;rw[hR,hN];exact this
 have arW:(W1.setRow w.heap.size R).heap[w.heap.size]?=some (.cells R E (0,0)):=setRow_heap _ _ ROW R E (0,0) afC;have arX:(W1.setRow w.heap.size R).heap[b]?=some (.cells CS E (0,0)):=(setRow_other _ _ b R qO).trans arZ;have hcp2:∀(W:World),W.heap=(W1.setRow w.heap.size R).heap->∀ ty dc sc,(Builtin.copy_ #[S,S] ty #[.slice (some ⟨w.heap.size,(i+1)*z,none⟩) (n-i) dc,.slice (some ⟨b,i*z,none⟩) (n-i) sc]).run Tryz.prog W = .ok (goInt ((n-i:Nat):Int)) (W.setRow w.heap.size (oO R ((i+1)*z) M)):=λW hW ty dc sc=>by
  rw[hM];have:=O5 (ty:=S) (E:=E) (k:=n-i) (o:=(i+1)*z) (o2:=i*z) (n:=n-i) (m:=n-i) (b:=w.heap.size) (b2:=b) (cs:=R) (cs2:=CS) (c:=dc) (c2:=sc) (t2:=ty) (te:=E) (YZ:=E) zr zr hE (by rw[hW];exact arW) (by rw[hW];exact arX) (Nat.min_self _) qO zr (by rw[hts];exact zo) (by rw[hts];exact zo) (λj x _ hj=>h1 j x (by rw[hts]at hj;exact zo));rw[hts]at this;exact this
 have arN:(sizeOf E).run Tryz.prog W1 = .ok z W1:=hts▸qf hE;have asj:(sizeOf E).run Tryz.prog ((W1.setRow w.heap.size R).drew) = .ok z ((W1.setRow w.heap.size R).drew):=hts▸qf hE;have hw1:IntKind.i64.wrap ((i:Int)+1)=(i:Int)+1:=by rw[IntKind.wrap_i64];omega
 have hw2:IntKind.i64.wrap ((n:Int)+1)=(n:Int)+1:=by rw[IntKind.wrap_i64];omega
 have hw3:IntKind.i64.wrap ((n:Int)+1-(i:Int))=(n:Int)+1-(i:Int):=by rw[IntKind.wrap_i64];omega
 have hb1:(0:Int)<=(i:Int)+1:=qO;have hin:i<=n:=qO;have htn:((i:Int)+1).toNat=i+1:=qO;have hb3:(i:Int)<=(n:Int)+1:=qO;have hGi:¬(G=i):=qO;have hGim:¬(G=i+1):=qO;have hci:¬(c=i):=qO;clear cZ hik hold hROW hG hQ hfits hI OH hW1 hM hN hR;unfold D9 at hP;rcases hP with ⟨rfl,rfl,rfl,rfl,rfl⟩|⟨rfl,rfl,rfl,rfl,rfl⟩
 ·clear hts;go_enter Tryz.func301,Tryz.ntmps301;go_wp2_with (first|(at_builtin;refine Lib.wpList_append_run _ rfl _ _ _ _ rfl _ _ rfl rfl _ _ (hrz _) ?_)|rw[hcp1])
  go_region_law (refine OX rfl (.tmp 50) (.tmp 53) 38 rfl (.slice (some ⟨w.heap.size,(i+1)*2,none⟩) (n-i) (G-(i+1))) (.slice (some ⟨b,i*2,none⟩) (n-i) (c-i)) ?_ ?_ (hcp2 _ ?_ 3 (G-(i+1)) (c-i)) ?_;(simp[Act.eval,Act.put]);(simp[Act.eval,Act.put]);rfl)
  go_wp2;go_ret;exact⟨rfl,rfl⟩
 ·clear hts;go_enter Tryz.func241,Tryz.ntmps241;go_wp2_with (first|(at_builtin;refine Lib.wpList_append_run _ rfl _ _ _ _ rfl _ _ rfl rfl _ _ (hrz _) ?_)|rw[hcp1])
  go_region_law (refine OX rfl (.tmp 50) (.tmp 53) 37 rfl (.slice (some ⟨w.heap.size,(i+1)*4,none⟩) (n-i) (G-(i+1))) (.slice (some ⟨b,i*4,none⟩) (n-i) (c-i)) ?_ ?_ (hcp2 _ ?_ 3 (G-(i+1)) (c-i)) ?_;(simp[Act.eval,Act.put]);(simp[Act.eval,Act.put]);rfl)
  go_wp2;go_ret;exact⟨rfl,rfl⟩
theorem aec{E z S ov f:Nat}(hP:D9 E z S ov f){n p:Nat}{g x:Nat->Nat->V}(hp:p<n)(hn:n<=100000):ae f [.row 0 n,iV p,.row 1 1] ⟨[(0,.row E z n g),(1,.row E z 1 x)],2⟩ (λv t=>v = .row 0 (n+1)/\t=⟨[(0,.row E z (n+1) (yh p g (x 0))),(1,.row E z 1 x)],2⟩):=by
 refine⟨by unfold D9 at hP;rcases hP with ⟨rfl,rfl,rfl,rfl,rfl⟩|⟨rfl,rfl,rfl,rfl,rfl⟩;exact xy Tryz.func301 rfl rfl;exact xy Tryz.func241 rfl rfl,λG w us hg hl hv=>?_⟩;obtain⟨u0,u1,u2,rfl,hu0,hu1,hu2⟩:=ase (P:=λ_ v u=>aO G (ST.get ⟨[(0,.row E z n g),(1,.row E z 1 x)],2⟩) w v u) hl hv;obtain⟨b,c,CS,rfl,hr,hh,hs,hnc,hcm,hcell⟩:=adV (i:=0) hg rfl hu0 qO;obtain⟨vb,vc,VS,rfl,hr2,hh2,hs2,afA,hcm2,hcell2⟩:=adV (i:=1) hg rfl hu2 qO;have hu1:u1 = .int .i64 (p:Int):=hu1;subst hu1;have hE:(tI E).ok=true:=zr;have o0:dA G (ST.get ⟨[(0,.row E z n g),(1,.row E z 1 x)],2⟩) 0 b:=⟨_,c,hr,by omega,_,rfl⟩;have o1:dA G (ST.get ⟨[(0,.row E z n g),(1,.row E z 1 x)],2⟩) 1 vb:=⟨_,vc,hr2,by omega,_,rfl⟩;have hne:vb≠b:=λe=>au (hg.aK.sep 0 1 b o0 (e▸o1)) qD
 have h1:∀(j:Nat) (u:Value),j<n*z->CS[j]?=some u->u.oneCell'=true:=λj u hj hu=>by
  obtain⟨e1,e2,e3⟩:=XA (z:=z) zo hj;obtain⟨y,e4,e5,_⟩:=hcell _ e1 _ e2;rw[e3,hu]at e4;injection e4 with e4
  rw[e4];exact e5
 have h2:∀(j:Nat) (u:Value),j<z->VS[j]?=some u->u.oneCell'=true:=λj u hj hu=>by
  obtain⟨y,e4,e5,_⟩:=hcell2 0 qO j hj;rw[Nat.zero_mul,jm,hu]at e4;injection e4 with e4
  rw[e4];exact e5
 have adx:∀ k,k<z->∃ u,VS[k]?=some u/\u.oneCell'=true/\aO G (ST.get ⟨[(0,.row E z n g),(1,.row E z 1 x)],2⟩) w (x 0 k) u:=λk hk=>by
  have:=hcell2 0 qO k hk;rwa [Nat.zero_mul,jm]at this
 have hmid:((CS.toList.drop (p*z)).take ((n-p)*z)).length=(n-p)*z:=by rw[dP,fE,qX,hs];exact zo
 have hvl:(VS.toList.take z).length=z:=by rw[dP,qX,hs2];exact zo
 have hM:∀ j,j<(n-p)*z->((CS.toList.drop (p*z)).take ((n-p)*z))[j]?=CS[p*z+j]?:=λj hj=>by rw[oh,if_pos hj,sD,qE]
 have hV:∀ j,j<z->(VS.toList.take z)[j]?=VS[j]?:=λj hj=>by rw[oh,if_pos hj,qE]
 have hb:b<w.heap.size:=(Array.getElem?_eq_some_iff.1 hh).1;by_cases hroom:n+1<=c
 ·refine(am4 hP hne hh hh2 hs hs2 afA hroom hcm hp hn h1 h2).mono λe w' ⟨he,hw⟩=>?_
  have hR:=setRow_heap (w.drew) b CS (oO CS ((p+1)*z) ((CS.toList.drop (p*z)).take ((n-p)*z))) E (0,0) hh;have hF:=setRow_heap _ b _ (oO (oO CS ((p+1)*z) ((CS.toList.drop (p*z)).take ((n-p)*z))) (p*z) (VS.toList.take z)) E (0,0) hR;obtain⟨k1,k2,k3⟩:=abY (z:=z) (p:=p) (x:=x) (VS:=VS) (C:=c) (nb:=b) (w':=w') (FC:=oO (oO CS ((p+1)*z) ((CS.toList.drop (p*z)).take ((n-p)*z))) (p*z) (VS.toList.take z)) (CS:=CS) hg rfl hr rfl qO hcell adx hp (by rw[hw];rfl) (by rw[hw];rfl) (by rw[hw];rfl) (by rw[hw];simp) (λq hq Zh=>by rw[hw];exact(setRow_other _ _ _ _ Zh).trans (setRow_other _ _ _ _ Zh)) (.inl rfl) hroom hcm (by rw[hw];exact hF)
   (by rw[AU (by rw[AU zo];exact zo),AU zo];exact hs) (λj hj k hk=>by
    rw[PI (by rw[AU zo];exact zo),hvl,PI zo,hmid];rcases Nat.lt_trichotomy j p with q|q|q
    ·rw[if_neg zo,if_neg zo,if_pos q]
    ·subst q;rw[if_pos zo,if_neg zo,if_pos rfl,hV _ zo];exact gz (λi=>VS[i]?) zo
    ·rw[if_neg zo,if_pos zo,if_neg zo,if_neg zo,hM _ zo];exact gz (λi=>CS[i]?) zo)
  exact⟨_,_,_,_,he,⟨rfl,rfl⟩,k1,k2,k3⟩
 ·refine(ajH hP hh hh2 hs hs2 afA hnc qO hp hn h1 h2).mono λe w' ⟨C,Q,hC,Zp,hQ,he,hw⟩=>?_
  have hol:(CS.toList.take (p*z)).length=p*z:=by rw[dP,qX,hs];exact zo
  have OH:(CS.toList.take (p*z)++Q).toArray.size=C*z:=by rw[List.size_toArray,bW,hol,hQ];exact zo
  have hA:=heap_alloc_new w.drew (.cells (CS.toList.take (p*z)++Q).toArray E);have hR:=setRow_heap (w.drew.alloc (.cells (CS.toList.take (p*z)++Q).toArray E)) w.heap.size _ (oO (CS.toList.take (p*z)++Q).toArray (p*z) (VS.toList.take z)) E (0,0) hA;have hF:=setRow_heap (((w.drew.alloc (.cells (CS.toList.take (p*z)++Q).toArray E)).setRow w.heap.size (oO (CS.toList.take (p*z)++Q).toArray (p*z) (VS.toList.take z))).drew) w.heap.size _ (oO (oO (CS.toList.take (p*z)++Q).toArray (p*z) (VS.toList.take z)) ((p+1)*z) ((CS.toList.drop (p*z)).take ((n-p)*z))) E (0,0) hR;obtain⟨k1,k2,k3⟩:=abY (z:=z) (p:=p) (x:=x) (VS:=VS) (C:=C) (nb:=w.heap.size) (w':=w') (FC:=oO (oO (CS.toList.take (p*z)++Q).toArray (p*z) (VS.toList.take z)) ((p+1)*z) ((CS.toList.drop (p*z)).take ((n-p)*z))) (CS:=CS) hg rfl hr rfl qO hcell adx hp (by rw[hw];rfl) (by rw[hw];rfl) (by rw[hw];rfl) (by rw[hw];simp) (λq hq Zh=>by rw[hw];exact(setRow_other _ _ _ _ qO).trans ((setRow_other _ _ _ _ qO).trans (heap_alloc_old w.drew _ hq))) (.inr (bu _)) hC Zp (by rw[hw];exact hF)
   (by rw[AU (by rw[AU zo];exact zo),AU zo];exact OH) (λj hj k hk=>by
    rw[PI (by rw[AU zo];exact zo),hmid,PI zo,hvl];rcases Nat.lt_trichotomy j p with q|q|q
    ·rw[if_neg zo,if_neg zo,if_pos q,List.getElem?_toArray,mO zo,oh,if_pos zo,qE]
    ·subst q;rw[if_neg zo,if_pos zo,if_neg zo,if_pos rfl,hV _ zo];exact gz (λi=>VS[i]?) zo
    ·rw[if_pos zo,if_neg zo,if_neg zo,hM _ zo];exact gz (λi=>CS[i]?) zo)
  exact⟨_,_,_,_,he,⟨rfl,rfl⟩,k1,k2,k3⟩
theorem ajJ{n:Nat}{g x:Nat->Nat->D}(hn:n<=100000):ae 301 [.row 0 n,iV n,.row 1 1] ⟨[(0,.row 97 2 n (λj k=>.d (g j k))),(1,.row 97 2 1 (λj k=>.d (x j k)))],2⟩ (λrv rt=>rv=(.row 0 (n+1))/\rt=⟨[(0,.row 97 2 (n+1) (λj k=>.d (Ak n g (x 0) j k))),(1,.row 97 2 1 (λj k=>.d (x j k)))],2⟩):=by
 refine asz Tryz.func301 λX=>?_
 (repeat' (first|refine oz ?_|refine ai.mk (λh=>?_) (λh2=>au h2 (by rw[bg rfl];decide))|refine ai.n (λh=>?_)|refine ag.a ?_|refine asC qN qN qW ⟨⟨nb rfl,af.row rfl (λj hj k hk=>vq (adu hj) tv)⟩,⟨nb rfl,af.row rfl fv⟩,tv⟩|refine ag.mk ?_ ?_))<;>try exact aB
theorem adr{n p:Nat}{g x:Nat->Nat->D}(hp:p<=n)(hn:n<=100000):ae 301 [.row 0 n,iV p,.row 1 1] ⟨[(0,.row 97 2 n (λj k=>.d (g j k))),(1,.row 97 2 1 (λj k=>.d (x j k)))],2⟩ (λv t=>v = .row 0 (n+1)/\t=⟨[(0,.row 97 2 (n+1) (λj k=>.d (Ak p g (x 0) j k))),(1,.row 97 2 1 (λj k=>.d (x j k)))],2⟩):=by
 rcases mP p n with h|h
 ·rw[<-Xu];exact aec (S:=38) (ov:=316) (.inl ⟨rfl,rfl,rfl,rfl,rfl⟩) h hn
 ·obtain rfl:p=n:=qO;exact ajJ hn
theorem ajI{n:Nat}{g x:Nat->Nat->D}(hn:n<=100000):ae 241 [.row 0 n,iV n,.row 1 1] ⟨[(0,.row 54 4 n (λj k=>.d (g j k))),(1,.row 54 4 1 (λj k=>.d (x j k)))],2⟩ (λrv rt=>rv=(.row 0 (n+1))/\rt=⟨[(0,.row 54 4 (n+1) (λj k=>.d (Ak n g (x 0) j k))),(1,.row 54 4 1 (λj k=>.d (x j k)))],2⟩):=by
 refine asz Tryz.func241 λX=>?_
 (repeat' (first|refine oz ?_|refine ai.mk (λh=>?_) (λh2=>au h2 (by rw[bg rfl];decide))|refine ai.n (λh=>?_)|refine ag.a ?_|refine asC qN qN qW ⟨⟨nb rfl,af.row rfl (λj hj k hk=>vq (adu hj) tv)⟩,⟨nb rfl,af.row rfl fv⟩,tv⟩|refine ag.mk ?_ ?_))<;>try exact aB
theorem am3{n p:Nat}{g x:Nat->Nat->D}(hp:p<=n)(hn:n<=100000):ae 241 [.row 0 n,iV p,.row 1 1] ⟨[(0,.row 54 4 n (λj k=>.d (g j k))),(1,.row 54 4 1 (λj k=>.d (x j k)))],2⟩ (λv t=>v = .row 0 (n+1)/\t=⟨[(0,.row 54 4 (n+1) (λj k=>.d (Ak p g (x 0) j k))),(1,.row 54 4 1 (λj k=>.d (x j k)))],2⟩):=by
 rcases mP p n with h|h
 ·rw[<-Xu];exact aec (S:=37) (ov:=249) (.inr ⟨rfl,rfl,rfl,rfl,rfl⟩) h hn
 ·obtain rfl:p=n:=qO;exact ajI hn
def jP:Int->List dm->List dm->Int×List dm
 |b,_,[]=>(0,[])
 |b,[],x::r=>(0,x::r)
 |b,h::t,x::r=>bif decide (h.term=x.term) then jP (b+1) t r else (b+1,x::r)
def qi(l:List dm)(b:Nat)(add:List dm):Int×List dm:=jP b (l.drop b) add
theorem adi{l add:List dm}{b i:Nat}(h:add.length<=i):jP (b+i:Nat) (l.drop (b+i)) (add.drop i)=(0,[]):=by
 rw[sZ h];cases l.drop (b+i) <;> rfl
theorem VB{l add:List dm}{b i:Nat}(h:l.length<=b+i)(hi:i<add.length):jP (b+i:Nat) (l.drop (b+i)) (add.drop i)=(0,add.drop i):=by
 rw[sZ h,wz .z hi];rfl
theorem Xq{l add:List dm}{b i:Nat}(h:b+i<l.length)(hi:i<add.length)(hn:(l.getD (b+i) .z).term≠(add.getD i .z).term):jP (b+i:Nat) (l.drop (b+i)) (add.drop i)=(((b+i:Nat):Int)+1,add.drop i):=by
 rw[wz .z h,wz .z hi];show(bif decide ((l.getD (b+i) .z).term=(add.getD i .z).term) then _ else _)=_;rw[aX hn];rfl
theorem aoH{l add:List dm}{b i:Nat}(h:b+i<l.length)(hi:i<add.length)(hn:(l.getD (b+i) .z).term=(add.getD i .z).term):jP (b+i:Nat) (l.drop (b+i)) (add.drop i)=jP (b+(i+1):Nat) (l.drop (b+(i+1))) (add.drop (i+1)):=by
 rw[wz .z h,wz .z hi];show(bif decide ((l.getD (b+i) .z).term=(add.getD i .z).term) then _ else _)=_;rw[bg hn];rfl
theorem XV{a b:Int}(h:(!decide (a=b))=true):a≠b:=by
 intro e;rw[bg e]at h;cases h
theorem ap7{a b:Int}(h:(!decide (a=b))=false):a=b:=by
 rcases hd:decide (a=b) with _|_
 ·rw[hd]at h;cases h
 ·exact aS hd
theorem aaf{l:List dm}{i j:Nat}:l.getD (i+j) .z=(l.drop i).getD j .z:=by rw[bC,bC,sD]
theorem adn(l:List dm)(b:Nat)(add:List dm)(hb:b<=l.length)(hl:l.length<=1000)(ha:add.length<=1000):aQ 208 [.d (jg l),iV b,.d (jg add)] (bQ [iV (qi l b add).1,.d (jg (qi l b add).2)]):=by
 refine asz Tryz.func208 λX=>?_
 (repeat' (first|refine asI add.length (λi (a:Unit)=>⟨54,[(1,iV b),(2,.d (jg add)),(6,iV 0),(7,.dE),(8,.d (.sl (l.length-b) 2 (λj=>qx (l.getD (b+j) .z)))),(22,.d (jg add)),(23,iV add.length),(24,iV i)],⟨[],0⟩⟩) (λi a=>qi l b add=jP (b+i:Nat) (l.drop (b+i)) (add.drop i)) () ?_ ?_ (λi a hi hp=>?_)|refine aU () ⟨?_,?_,?_⟩|exact asM rfl ⟨vq (gz iV (by rw[show qi l b add=_ from hp.trans (VB (by have h8:=aS (aj:decide (((l.length-b:Nat):Int)<=(i:Int))=true);omega) (by have h8:=aS (aj:decide ((i:Int)<(add.length:Int))=true);omega))])) tv,VW.sl (by rw[show qi l b add=_ from hp.trans (VB (by have h8:=aS (aj:decide (((l.length-b:Nat):Int)<=(i:Int))=true);omega) (by have h8:=aS (aj:decide ((i:Int)<(add.length:Int))=true);omega)),fE]) (λj hj k hk=>gz (λe=>qx e k) (by rw[show qi l b add=_ from hp.trans (VB (by have h8:=aS (aj:decide (((l.length-b:Nat):Int)<=(i:Int))=true);omega) (by have h8:=aS (aj:decide ((i:Int)<(add.length:Int))=true);omega))];exact aaf)),tv⟩|exact asM rfl ⟨vq (gz iV (by rw[show qi l b add=_ from hp.trans (Xq (by have h8:=bJ (aj:decide (((l.length-b:Nat):Int)<=(i:Int))=false);omega) (by have h8:=aS (aj:decide ((i:Int)<(add.length:Int))=true);omega) (XV h))];show(b:Int)+i+1=((b+i:Nat):Int)+1;omega)) tv,VW.sl (by rw[show qi l b add=_ from hp.trans (Xq (by have h8:=bJ (aj:decide (((l.length-b:Nat):Int)<=(i:Int))=false);omega) (by have h8:=aS (aj:decide ((i:Int)<(add.length:Int))=true);omega) (XV h)),fE]) (λj hj k hk=>gz (λe=>qx e k) (by rw[show qi l b add=_ from hp.trans (Xq (by have h8:=bJ (aj:decide (((l.length-b:Nat):Int)<=(i:Int))=false);omega) (by have h8:=aS (aj:decide ((i:Int)<(add.length:Int))=true);omega) (XV h))];exact aaf)),tv⟩|exact asM rfl ⟨vq (gz iV (by rw[show qi l b add=_ from hp.trans (adi (by have h8:=bJ (aj:decide ((i:Int)<(add.length:Int))=false);omega))])) tv,asQ (by rw[show qi l b add=_ from hp.trans (adi (by have h8:=bJ (aj:decide ((i:Int)<(add.length:Int))=false);omega))];rfl),tv⟩|refine oz ?_|refine asD 9 [] [o0,o0,o0,o0,o0,o0,o0,o0] ?_|refine mc ?_ ?_|refine ai.mk (λh=>au (XF h) (by rw[aX (by omega),aX (by omega)];decide)) (λh=>?_)|refine asA (VT (add.length-i) (λj=>qx (add.getD (i+j) .z)) (by omega)) ?_|refine ai.mk (λh=>?_) (λh=>?_)|refine ag.a ?_|refine ag.mk ?_ ?_))<;>(try(refine dh.mk ?_;repeat' (first|exact tv|exact rfl|refine an ?_ ?_|refine ag.mk ?_ ?_)))
 all_goals try exact aB
 all_goals first|exact(by have h8:=aS (aj:decide ((i:Int)<(add.length:Int))=true);omega)|exact hp.trans (aoH (by have h8:=bJ (aj:decide (((l.length-b:Nat):Int)<=(i:Int))=false);omega) (by have h8:=aS (aj:decide ((i:Int)<(add.length:Int))=true);omega) (ap7 h))|(have h7:=bJ (aj:decide (((l.length-b:Nat):Int)<=(i:Int))=false);omega)
section
section
variable {t0:ST} {X:Cx t0} {Q:Exit->AS->Prop} {s:AS}
theorem aiv{ops:Array Oper}:∀(l:List Nat) (a:Act) (w:World),wpOps Tryz.prog ops (QN X (Q .normal)) l a w->wpOps Tryz.prog ops (λe a' w'=>∃ s',Q e s'/\Mod X s' a' w') l a w:=by
 intro l;induction l with
 |nil=>intro a w h;obtain⟨_,s',h1,h2⟩:=h;exact⟨s',h1,h2⟩
 |cons i l ih=>
  intro a w h;unfold wpOps at h ⊢;split at h
  ·exact ih a w h
  ·split at h
   ·rename_i hw
    rw[if_pos hw];rcases h with h|⟨_,a0,w0,h⟩
    ·exact .inl (yF h (λa w h=>ih a w h) (λe a w h=>by
      obtain⟨rfl,s',h1,h2⟩:=h;exact⟨s',h1,h2⟩))
    ·exact au h.1 (by intro e;cases e)
   ·rename_i hw
    rw[if_neg hw];exact ih _ w h
theorem avk{id:Nat}{ops:Array Oper}{o:Oper}{rest:List Oper}(V:V)(hops:ops.toList=o::rest)(hgd:o.guard=none)(iC:s.fits o.dst=true)
  (hres:∀ G a w,bV G s.s w->oG G s a w->eu o a G s.s w (λv t=>v=V/\t=s.s)) (h:JK s o.dst V s.s λs'=>tX ae ops.toList rest s' (Q .normal)):T X (.region id ops false) Q s:=T.mk λa w hm=>by
 refine wp_region ?_;refine aiv _ a w ?_;have hsz:ops.size=rest.length+1:=by rw[<-qX,hops];rfl
 rw[List.range_eq_range',hsz,List.range'_succ];unfold wpOps;have ho:ops[0]?=some o:=by rw[<-qE,hops];rfl
 rw[ho];obtain⟨G,hg,hs,hx⟩:=hm;have hw:Region.wanted o (yielded ops a.tmps)=true:=by unfold Region.wanted;rw[hgd]
 simp only;rw[if_pos hw];refine .inl ?_;rw[ac3]at h;have hr2:=hres G a w hg hs.tooG;refine yF (hr2.step hx hs hg iC) (λa' w' hh=>?_) (λ_ _ _ h=>h.elim);obtain⟨x,t',⟨rfl,rfl⟩,hm'⟩:=hh;exact AY ops rest 1 (by rw[hops];rfl) _ a' w' _ h hm'
theorem agK{G:Gh}{w:World}{a:Act}{o:Oper}{ty:Nat}(hg:bV G s.s w)(ho:o.op = .build ty #[])(hk:(tI ty).k=2)(hk2:(tI (tI ty).elem).ok=true):eu o a G s.s w (λv t=>v=V.agg (tI ty).size (iE ty)/\t=s.s):=by
 have hok:(tI ty).ok=true:=by unfold uh.ok;rw[hk];rfl
 obtain⟨i,z,hi,hz⟩:=Gi (G:=G) (t:=s.s) (w:=w) hok;have hu:=afe hk;obtain⟨i2,z2,hi2⟩:=EP hk2;have hb:Tryz.prog.built ty ((#[]:Array (Nat×Operand)).map λ(i,x)=>(i,a.eval x)).toList=some z.cells:=by
  unfold Program.built;rw[hi.h,hu];simp[hi.zero,Instr.fill,hi2.h]
 have hrun:(execOp a.eval o).run Tryz.prog w = .ok (.value (.agg z.cells)) w:=by
  unfold execOp;simp only[ho,Sem.run_bind,run_build w ty _ z.cells hb,Result.andThen_ok];rfl
 exact eu.val (V:=.agg _ _) hg hrun ⟨z.cells,rfl,hi.BC,hz⟩ ⟨rfl,rfl⟩
theorem au1{id:Nat}{ops:Array Oper}{o:Oper}{rest:List Oper}(ty:Nat)(hops:ops.toList=o::rest)(ho:o.op = .build ty #[])(hk:(tI ty).k=2)(hk2:(tI (tI ty).elem).ok=true)(hgd:o.guard=none)(iC:s.fits o.dst=true)
  (h:JK s o.dst (.agg (tI ty).size (iE ty)) s.s λs'=>tX ae ops.toList rest s' (Q .normal)):T X (.region id ops false) Q s:=
 avk _ hops hgd iC (λG a w hg hs=>agK hg ho hk hk2) h
end
end
theorem ahD(l:List aY)(dK:Int)(hl:l.length<=10000)(hm:∀ i,i<l.length->(l.getD i .z).num<=dK):aQ 82 [.d (iW l),iV dK] (bQ [.d (iW l),.d (iW [])]):=by
 refine asz Tryz.func82 λX=>?_
 (repeat' (first|refine oz ?_|refine asI l.length (λi (a:Unit)=>⟨40,[(0,.d (iW l)),(1,iV dK),(6,.row 0 (l.take i).length),(7,.row 1 0),(8,iV i)],⟨[(0,dw 163 4 jW .z (l.take i)),(1,dw 163 4 jW .z [])],2⟩⟩) (λi a=>True) () ?_ True.intro (λi a hi hp=>?_)|refine aU () ⟨?_,tv,?_⟩|refine ai.mk (λh=>?_) (λh=>au (bJ h) (by have:=hm i om;simp only[jD];omega))|refine ai.mk (λh=>?_) (λh=>?_)|refine ag.a ?_|(rw[show l.take i=l from lW (by have h9:=bJ h;omega)];refine Fin.dC (i:=0) (h:=λj=>jW (l.getD j .z)) iw (Fin.dC (i:=1) (h:=λj=>jW (([]:List aY).getD j .z)) (jB.of (cu _) rfl (λj hj=>au hj nz)) (Fin.tell (asG [.d (iW l),.d (iW [])] rfl fr ⟨vq ((gz (jl 1 _ _ _) jR).trans rfl) tv,vq jR trivial,tv⟩))))|refine ag.mk ?_ ?_))<;>try exact aB
 all_goals (try(refine aV.mk rfl qN qN ?_ ?_ <;> repeat' (first|exact tv|exact qV|exact qW|refine vq (gz (V.row _) ?_) qN|refine an ⟨nb rfl,af.row ?_ (λj hj k hk=>asB ?_)⟩ ?_|refine an ?_ ?_)))
 all_goals first|exact rfl|(exact cm qV)|exact au hj nz|(have h9:i<l.length:=(by have h9:=aS (aj:decide ((i:Int)<(l.length:Int))=true);omega);have q4:(l.take i).length=i:=(by rw[dP];omega);have q5:(l.take (i+1)).length=i+1:=(by rw[dP];omega);first|omega|(have hj:j<(l.take i).length+1:=hj;have hk:k<4:=hk;rw[lX aY.z h9];refine cm (oq rfl hj fr (λj hj=>?_));obtain rfl:j=0:=Nat.lt_one_iff.1 hj;rcases k with _|_|_|_|k;exact qV;exact qV;exact qV;exact qV;omega))
end Go.Proofs.YtnibdnahojjcgaaGreat
