/- Lemmas. -/
import Derived.Test.YtnibdnahojjcgaaGreatC04
namespace Go.Proofs.YtnibdnahojjcgaaGreat
set_option linter.all false
set_option maxRecDepth 100000
set_option maxHeartbeats 0
open Go.RowKit Tryz
def agW{l:List Int}(h:kW l=true):jy l≠[]:=λe=>by
 have h1:=Rk (FQ h);have:=(zl h).1;rw[e]at h1;simp at h1;omega
def acR{c:aF}{v:Int}(h:fZ c v):mf (sS c)=c:=by
 have hn:=h.num;have hf:=h.fit;have hk:=BI h.kM;have n1:=hn.kind;have n2:=hn.ax;have n3:=hn.seq;have n4:=hn.set;have n5:=hn.id;have n6:=hn.n;have e1:mf (Ad c)={ aF.z with kind:=c.kind }:=by
  unfold Ad lD mf;split
  ·rename_i e;omega
  ·simp[oM,aF.z];omega
 have e2:mf (Ac c)={ aF.z with kind:=c.kind,ax:=c.ax }:=by
  unfold Ac mf;rw[List.foldl_append];have:=e1;unfold mf at this;rw[this];unfold lD;split
  ·rename_i e;rw[e];rfl
  ·simp[oM,aF.z];omega
 have e3:mf (Aa c)={ aF.z with kind:=c.kind,ax:=c.ax,seq:=c.seq }:=by
  unfold Aa mf;rw[List.foldl_append];have:=e2;unfold mf at this;rw[this];unfold lD;split
  ·rename_i e;rw[e];rfl
  ·simp[oM,aF.z];omega
 have e4:mf (zZ c)={ aF.z with kind:=c.kind,ax:=c.ax,seq:=c.seq,set:=c.set }:=by
  unfold zZ mf;rw[List.foldl_append];have:=e3;unfold mf at this;rw[this];unfold lD;split
  ·rename_i e;rw[e];rfl
  ·simp[oM,aF.z];omega
 have e5:mf (zY c)={ aF.z with kind:=c.kind,ax:=c.ax,seq:=c.seq,set:=c.set,id:=c.id }:=by
  unfold zY mf;rw[List.foldl_append];have:=e4;unfold mf at this;rw[this];unfold lD;split
  ·rename_i e;rw[e];rfl
  ·simp[oM,aF.z];omega
 have e6:mf (xk c)={ aF.z with kind:=c.kind,ax:=c.ax,seq:=c.seq,set:=c.set,id:=c.id,n:=c.n }:=by
  unfold xk mf;rw[List.foldl_append];have:=e5;unfold mf at this;rw[this];unfold lD;split
  ·rename_i e;rw[e];rfl
  ·simp[oM,aF.z];omega
 have e7:mf (rJ c)={ aF.z with kind:=c.kind,ax:=c.ax,seq:=c.seq,set:=c.set,id:=c.id,n:=c.n,chunks:=c.chunks }:=by
  unfold rJ mf;rw[List.foldl_append];have:=e6;unfold mf at this;rw[this];unfold ql xA;obtain⟨_,hr⟩|⟨_,hc⟩:=hf.chunks
  ·rw[if_pos hr,if_neg (agW hr)];simp[oM,aF.z,RX (FQ hr)]
  ·rw[hc];rfl
 unfold sS mf;rw[List.foldl_append];have:=e7;unfold mf at this;rw[this];unfold ql;split
 ·rename_i e
  rw[show([]:List bu).foldl oM _=_ from rfl];obtain⟨a1,a2,a3,a4,a5,a6,a7,a8⟩:=c;simp only at e ⊢;rw[e];rfl
 ·simp[oM]
def Ie(a n:Int)(hn:0<=n/\n<=1000000000)(ha:a<=6):∀ f∈lD a n,Vm f:=by
 intro f hf;unfold lD at hf;split at hf
 ·cases hf
 ·obtain rfl:=List.mem_singleton.1 hf;exact⟨λ_=>by show n.toNat<=_;omega,λ(e:a=7)=>by omega⟩
def agX{c:aF}{v:Int}(h:fZ c v):∀ f∈sS c,Vm f:=by
 have hn:=h.num;intro f hf;simp only[sS,rJ,xk,zY,zZ,Aa,Ac,Ad,List.mem_append]at hf;obtain ((((((((hf|hf)|hf)|hf)|hf)|hf)|hf)|hf)|hf):=hf
 ·cases hf
 ·exact Ie _ _ hn.kind qD f hf
 ·exact Ie _ _ hn.ax qD f hf
 ·exact Ie _ _ hn.seq qD f hf
 ·exact Ie _ _ hn.set qD f hf
 ·exact Ie _ _ hn.id qD f hf
 ·exact Ie _ _ hn.n qD f hf
 ·unfold ql at hf;split at hf
  ·cases hf
  ·rename_i hne
   obtain rfl:=List.mem_singleton.1 hf;refine⟨λ_=>cZ _,λ_=>?_⟩;unfold xA at hne ⊢;split at hne
   ·rename_i hr
    exact⟨_,hr,by rw[if_pos hr]⟩
   ·exact ai rfl hne
 ·unfold ql at hf;split at hf
  ·cases hf
  ·obtain rfl:=List.mem_singleton.1 hf;exact⟨λ_=>cZ _,λ(e:(8:Int)=7)=>ai e qD⟩
def aeB{c:aF}{v:Int}(h:fZ c v):∀ f∈iL c v,f.num<=Gv 1 v:=by
 have h1:=h.v1;have h3:=h.v3;rcases(show v=3\/v=1\/v=2 by omega) with rfl|rfl|rfl
 ·exact(JM h).le
 ·exact(Zb h).le
 ·exact(Zb h).le
def atB{c:aF}{v:Int}(h:fZ c v)(i:Nat)(hi:i<(iL c v).length):((iL c v).getD i .z).b.length<=100000:=by
 have:=((JM h).axy _ (ja (z:=.z) hi)).put.2.2;omega
def ZO{c:aF}{v:Int}(h:fZ c v):bK (iL c v)=fQ c:=ah bK (Eb h)
def af1{c:aF}{v:Int}(h:fZ c v):mf (iL c v)=c:=by rw[Eb h];exact acR h
def apX{c:aF}{v:Int}(h:fZ c v):aQ 254 [.d (jv (iL c v))] (jl c):=by
 have:=apW (iL c v) (by have:=JO c v;omega) (λi hi=>agX h _ (by rw[<-Eb h];exact ja hi));rwa [af1 h]at this
def aoZ(c:aF)(v:Int)(hc:fZ c v):aQ 245 [.d (bW (fQ c)),iV v] (bI [jl c,.d (jv []),iV 0]):=by
 refine ay func245 λX=>?_
 (repeat'(first|refine aC ?_|refine aO (XH v) ?_|refine aj.mk (λh2=>ai h2 (by rw[hc.VQ];decide)) (λh=>?_)|refine af.tell (RY (iL c v) (Iq hc)) ⟨vq (ah (λl=>V.d (bW l)) (ZO hc).symm) tv,tv⟩ ?_|refine aO (TV 1 v (.inl rfl) (iL c v) (agU hc)) ?_|refine aO (UI 1 v (.inl rfl)) ?_|refine aO (adq (iL c v) (Gv 1 v) (by have:=JO c v;omega) (atB hc) (λi hi=>aeB hc _ (ja hi))) ?_|refine aO (apX hc) ?_|refine aO (agt c v hc) ?_|refine aZ _ (fM (λht=>af.tell (Y3 (fQ c) (fQ c)) vw ⟨rfl,rfl⟩) ?_)|refine aj.mk (λh2=>ai h2 (by rw[show(fQ c == fQ c)=true from (by simp)];decide)) (λh=>?_)|refine aj.n (λh=>?_)|refine lq (λh=>?_)|refine ag.a ?_|refine kJ rfl vw))<;>try exact cls
def apS(t:Int)(c:aF)(v:Int)(hc:fZ c v):aQ 237 [zM ⟨t,fQ c⟩,iV v] (bI [jl c,.b true,iV 0]):=by
 refine ay func237 λX=>?_
 (repeat'(first|refine aC ?_|refine aO (aoZ c v hc) ?_|refine aO (Zy c.kind) ?_|refine aj.mk (λh2=>ai (bT h2) (by have:=(MO hc).1;show ¬(((fQ c).length:Int)=0);omega)) (λh=>?_)|refine aj.mk (λh2=>ai h2 (by rw[aT hc.kM,aT (show ¬v<jX c.kind by have:=hc.le;omega)];decide)) (λh=>?_)|refine aj.n (λh=>?_)|refine ag.a ?_|refine kJ rfl vw))<;>try exact cls
def apT(t:Int)(v:Int)(h1:1<=v)(h3:v<=3):aQ 237 [zM ⟨t,[]⟩,iV v] (bI [jl aF.z,.b false,iV 0]):=by
 refine ay func237 λX=>?_
 (repeat'(first|refine aC ?_|refine aj.mk (λh2=>ai h2 (by rw[aT (show ¬v<1 by omega),aT (show ¬3<v by omega)];decide)) (λh=>?_)|refine lq (λh=>?_)|refine ag.a ?_|refine kJ rfl ⟨gu (by repeat'(first|exact tv|exact qV|exact VW.dC|refine an ?_ ?_)),VW.refl tv,VW.refl tv,tv⟩))<;>try exact cls
def alN{b:List UInt8}{i:Nat}(h:i<b.length):(yC b).getD i 0=((b.getD i 0).toNat:Int):=by
 unfold yC;rw[bn,bn,qQ,dV h];rfl
def ahg{b:List UInt8}:(bif !decide ((0:Int)=0) then true else !((Di b.length (λj _=>.d (gG (b.getD j 0)))).toList == (Di b.length (λj _=>.d (gG (b.getD j 0)))).toList))=false:=by simp
def aw9{x w p:Bool}(h:(bif x == w then p else !true)=true):p=true:=by cases x <;> cases w <;> simp_all
def akw{x a p:Int}{i:Nat}(hi:i=0->a=0)(hp:i≠0->a=p/\1<=a) :
  (bif !(dQ x 1 64) then true else(bif decide (0<(i:Int)) then decide (x<=p) else false))=(bif decide (x<=a) then true else decide (64<x)):=by
 unfold dQ;by_cases h0:i=0
 ·rw[hi h0,h0];by_cases e1:1<=x/\x<=64
  ·rw[aX e1,aT (show ¬x<=0 by omega),aT (show ¬64<x by omega)];rfl
  ·rw[aT e1];by_cases e2:x<=0
   ·rw[aX e2];rfl
   ·rw[aX (show 64<x by omega)];cases decide (x<=0) <;> rfl
 ·obtain⟨e,h1⟩:=hp h0;subst e;rw[aX (show 0<(i:Int) by omega)];by_cases e1:1<=x/\x<=64
  ·rw[aX e1,aT (show ¬64<x by omega)];cases decide (x<=a) <;> rfl
  ·rw[aT e1];by_cases e2:x<=a
   ·rw[aX e2];rfl
   ·rw[aX (show 64<x by omega)];cases decide (x<=a) <;> rfl
def CB(l:List Int)(i:Nat):Int:=if i=0 then 0 else l.getD ((i:Int)-1).toNat 0
def apK{l:List Int}{i:Nat}(h:i<l.length)(hg:vY 0 l=vY (CB l i) (l.drop i))(ht:(bif decide (l.getD i 0<=CB l i) then true else decide (64<l.getD i 0))=true):false=kW l:=by
 unfold kW;rw[hg,row_step h,dH ht];cases (bif decide ((l.length:Int)<1) then true else decide (8<(l.length:Int))) <;> rfl
def amj{l:List Int}{i:Nat}(h:l.length<=i)(hg:vY 0 l=vY (CB l i) (l.drop i)):(bif decide (1<=(l.length:Int)) then decide ((l.length:Int)<=8) else false)=kW l:=by
 unfold kW;rw[hg,qM h];by_cases e:(l.length:Int)<1
 ·rw[aX e,aT qO];rfl
 ·rw[aT e,aX (show 1<=(l.length:Int) by omega)];by_cases e2:8<(l.length:Int)
  ·rw[aX e2,aT qO];rfl
  ·rw[aT e2,aX qO];rfl
structure rowP (l:List Int) (i:Nat):Prop where
 g:vY 0 l=vY (CB l i) (l.drop i)
 p:i≠0->1<=CB l i
def rowP.cond{l:List Int}{i:Nat}(h:rowP l i):(bif !(dQ (l.getD i 0) 1 64) then true else(bif decide (0<(i:Int)) then decide (l.getD i 0<=l.getD ((i:Int)-1).toNat 0) else false))=(bif decide (l.getD i 0<=CB l i) then true else decide (64<l.getD i 0)):=
 akw (λe=>by unfold CB;rw[if_pos e]) (λe=>⟨by unfold CB;rw[if_neg e],h.p e⟩)
def rowP.next{l:List Int}{i:Nat}(h:rowP l i)(hi:i<l.length)(ht:(bif !(dQ (l.getD i 0) 1 64) then true else(bif decide (0<(i:Int)) then decide (l.getD i 0<=l.getD ((i:Int)-1).toNat 0) else false))=false):rowP l (i+1):=by
 have e:CB l (i+1)=l.getD i 0:=by unfold CB;rw[if_neg qO,show(((i+1:Nat):Int)-1).toNat=i by omega]
 refine⟨?_,λ_=>?_⟩
 ·rw[e,h.g,row_step hi,bG (h.cond.symm.trans ht)]
 ·rw[e];unfold dQ at ht;by_cases e1:1<=l.getD i 0/\l.getD i 0<=64
  ·exact e1.1
  ·rw[aT e1]at ht;cases ht
def Uf(l:List Int)(hl:l.length<=100000):aQ 88 [.d (iR l)] (.b (kW l)):=by
 refine ay func88 λX=>?_
 (repeat'(first|refine aC ?_|refine bU 4 [] (ooz 22 []) ?_|refine mc ?_ ?_|refine dU l.length (λi (a:Unit)=>⟨40,[(0,.d (iR l)),(3,iV i)],e0⟩) (λi a=>rowP l i) () ?_ ⟨rfl,λh=>ai rfl h⟩ (λi a hi hp=>?_)|refine aZ () ⟨?_,hp.next om h,?_⟩|refine kF (zq (l.getD i 0) 1 64) ?_|refine aj.mk (λh=>?_) (λh=>?_)|refine ag.a ?_|refine Fin.tell (vq (ah V.b ?_) tv)|refine ag.mk ?_ ?_))<;>(try(refine dm.mk ?_;repeat'(first|exact tv|exact rfl|refine aO (zq (l.getD i 0) 1 64) ?_|refine an ?_ ?_|refine ag.mk ?_ ?_)))
 all_goals try exact cls
 all_goals first|(exact apK om hp.g (hp.cond.symm.trans h))|(exact amj om hp.g)|(have h9:i<l.length:=om;first|omega|(intro e;have e:=bT (aw9 e);(omega)))
def acS(l:List Int)(hr:kW l=true):aQ 125 [.d (iR l)] (bI [.d (bW (jy l)),iV 0]):=by
 obtain⟨hr1,hr2,hr3⟩:=zl hr;have hm:∀ i,i<l.length->l.getD i 0=((l.getD i 0).toNat:Int)/\(l.getD i 0).toNat<=64:=λi hi=>by
  have:=Nr hr3 (l.getD i 0) (ja (z:=0) hi);omega
 refine ay func125 λX=>?_
 (repeat'(first|refine aC ?_|refine dU l.length (λi (a:List UInt8)=>⟨25,[(0,.d (iR l)),(4,.row 0 a.length),(5,iV i)],⟨[(0,kL a)],1⟩⟩) (λi a=>a=jy (l.take i)/\a.length<=i*10) [] ?_ ?_ (λi a hi hp=>?_)|refine aZ (a++dK (l.getD i 0).toNat) ⟨?_,?_,?_⟩|refine aj.mk (λh=>ai ((show(!kW l)=false by rw[hr];rfl).symm.trans h) (by decide)) (λh=>?_)|refine aO (Uf l qo) ?_|refine af.tell (Tv (l.getD i 0).toNat (by have:=(hm i om).2;omega)) ⟨vq (ah (V.int .u64) (hm i om).1) tv,tv⟩ ?_|refine aj.mk (λh=>?_) (λh=>?_)|refine ag.a ?_|refine FD (C:=λb _=>gG b) (z:=0) (L:=jy l) rfl rfl ?_ ?_ qV|refine ag.mk ?_ ?_))<;>try exact cls
 all_goals(try(refine leq ?_ ?_ <;> repeat'(first|exact tv|exact qV|exact qW|refine vq (ah (V.row _) ?_) qN|refine gU qN ?_ (λj hj k hk=>?_) ?_|refine an ?_ ?_)))
 all_goals first|exact rfl|exact ai hj nz|(exact⟨rfl,bF _⟩)|(have h9:i<l.length:=om;have q:=hm i h9;have q2:=vN (l.getD i 0).toNat;have q3:=hp.2;first|omega|(simp only[dM,jg];omega)|(refine⟨?_,?_⟩;(rw[hp.1,kR 0 h9,aeD]);rw[bP];omega)|(simp only[bP];done)|(obtain rfl:k=0:=Nat.lt_one_iff.1 hk;exact cm (vq (DX rfl (λ_=>rfl) (λ_=>rfl) j) tv)))|(have e2:a=jy l:=(by rw[hp.1,jU om]);subst e2;first|rfl|exact λj hj k hk=>rfl)
def ajk(l:List Int)(hr:kW l=true):aQ 84 [.d (bW (jy l))] (bI [.d (iR l),iV 0]):=by
 have hm:=FQ hr;have hl:=Rk hm;have h8:=(zl hr).2.1;have hu:(yC (jy l)).length=(jy l).length:=lZ ..;refine ay func84 λX=>?_
 (repeat'(first|(have e:a=l:=(by rw[hp,RX (FQ hr),jU (by rw[<-Rk (FQ hr)];exact om)]);refine T.eG (c:=.seq (.region 6 _ _) _) (i:=0) (h:=λj _=>iD (a.getD j 0)) sF (T.le ⟨38,[(0,.d (bW (jy l))),(4,.d (iR l))],e0⟩ ?_ (T.seq ?_)))|refine aC ?_|refine dU (jy l).length (λi (a:List Int)=>⟨38,[(0,.d (bW (jy l))),(4,.row 0 a.length),(5,iV i)],⟨[(0,bQ 3 1 (λn _=>iD n) 0 a)],1⟩⟩) (λi a=>a=(yC (jy l)).take i) [] ?_ ?_ (λi a hi hp=>?_)|refine aZ (a++[(yC (jy l)).getD i 0]) ⟨?_,?_,?_⟩|refine aO (acS l hr) ?_|refine aj.mk (λh=>ai ((ahg (b:=jy l)).symm.trans h) (by decide)) (λh=>?_)|refine aj.mk (λh=>?_) (λh=>?_)|refine ag.a ?_|refine kJ rfl vw|refine ag.mk ?_ ?_))<;>try exact cls
 all_goals(try(refine leq ?_ ?_ <;> repeat'(first|exact tv|exact qV|exact vq (jB.trans (ah (λL=>V.d (iR L)) e)) tv|exact qW|refine vq (ah (V.row _) ?_) qN|refine gU qN ?_ (λj hj k hk=>?_) ?_|refine an ?_ ?_)))
 all_goals first|exact rfl|exact ai hj nz|(have h9:i<(jy l).length:=om;have q:=ah List.length hp;rw[dG]at q;have qb:=((jy l).getD i 0).toNat_lt;first|omega|(simp only[dM,jg];omega)|(simp only[bP,List.length_singleton];done)|(rw[hp,kR 0 qo];done)|(have hk:k<1:=hk;refine cm (kU (C:=λn _=>iD n) (z:=0) (b:=[(yC (jy l)).getD i 0]) rfl hj fr (λj hj=>?_));obtain rfl:j=0:=Nat.lt_one_iff.1 hj;obtain _|k:=k;exact vq (ah iV (alN h9).symm) tv;omega))
def yg(l:List bu)(k:Int):Int:=(l.countP (λf=>decide (f.num=k)):Nat)
def amP{l:List bu}{i:Nat}(h:i<l.length)(k:Int):yg (l.take (i+1)) k=yg (l.take i) k+(if (l.getD i .z).num=k then 1 else 0):=by
 unfold yg;rw[kR .z h,List.countP_append,List.countP_singleton];generalize l.getD i .z=f;by_cases e:f.num=k <;> simp[e]
def as4(l:List bu)(k:Int):0<=yg l k/\yg l k<=l.length:=by
 have:=List.countP_le_length (p:=λf:bu=>decide (f.num=k)) (l:=l);unfold yg;omega
structure Vl (specs:List kT) (l:List bu):Prop where
 ok:pM l
 ne:0<specs.length
 len:specs.length<=10
 is':∀ i,i<l.length->∀ j,j<specs.length->(l.getD i .z).num=(specs.getD j .z).num->(l.getD i .z).aU=(specs.getD j .z).aU/\((l.getD i .z).aU=0->(l.getD i .z).n≠0)/\((l.getD i .z).aU=2->(l.getD i .z).b≠[])
 kM:∀ j,j<specs.length->(specs.getD j .z).kM=true->yg l (specs.getD j .z).num≠0
 one:∀ j,j<specs.length->yg l (specs.getD j .z).num<=1
def Ut{p:Prop}[Decidable p](h:(!decide p)=true):¬p:=by simpa using h
def OT{p:Prop}[Decidable p](h:(!decide p)=false):p:=by simpa using h
def auA{specs:List kT}{l:List bu}(hc:Vl specs l){i j:Nat}(hi:i<l.length)(hj:j<specs.length)(h:(l.getD i .z).num=(specs.getD j .z).num) :
  (bif (bif !decide ((l.getD i .z).aU=(specs.getD j .z).aU) then true else(bif decide ((l.getD i .z).aU=0) then decide (((l.getD i .z).n:Int)=0) else false)) then true else(bif decide ((l.getD i .z).aU=2) then decide (((l.getD i .z).b.length:Int)=0) else false))=false:=by
 obtain⟨h1,h2,h3⟩:=hc.is' i hi j hj h;rw[aX h1];by_cases e:(l.getD i .z).aU=0
 ·rw[aX e,aT (show ¬(((l.getD i .z).n:Int)=0) by have:=h2 e;omega),aT (show ¬(l.getD i .z).aU=2 by omega)];rfl
 ·rw[aT e];by_cases e2:(l.getD i .z).aU=2
  ·rw[aX e2,aT (show ¬(((l.getD i .z).b.length:Int)=0) from λh=>h3 e2 (uI qO))];rfl
  ·rw[aT e2];rfl
def asJ{specs:List kT}{l:List bu}(hc:Vl specs l){i j:Nat}(hi:l.length<=i)(hj:j<specs.length) :
  (bif (bif decide (1<yg (l.take i) (specs.getD j .z).num) then !(specs.getD j .z).many else false) then true else(bif decide (yg (l.take i) (specs.getD j .z).num=0) then(specs.getD j .z).kM else false))=false:=by
 rw[jU hi,aT (show ¬1<yg l (specs.getD j .z).num by have:=hc.one j hj;omega)];cases h:(specs.getD j .z).kM
 ·cases decide (yg l (specs.getD j .z).num=0) <;> rfl
 ·rw[aT (hc.kM j hj h)];rfl
def amv(version:Int)(h1:1<=version)(h3:version<=3)(l:List bu)(hc:Vl (fK 1 version) l):aQ 81 [iV 1,iV version,.d (jv l)] (iV 0):=by
 have hne:=hc.ne;have hsl:=hc.len;have hln:=hc.ok.len;refine ay func81 λX=>?_
 (repeat'(first|refine aC ?_|refine bU 15 [] (ooz 8 []) ?_|refine bU 17 [] (ooz 41 []) ?_|refine mc ?_ ?_|refine dU (c:=.seq (.seq (.region 13 _ _) _) _) l.length (λi (a:Unit)=>⟨106,[(2,.d (jv l)),(7,.d (xH (fK 1 version))),(9,iV j),(10,.ptr 0 0),(11,iV (yg (l.take i) ((fK 1 version).getD j .z).num)),(12,iV i)],⟨[(0,.Wp 5 (λk=>.d (Dj ((fK 1 version).getD j .z) k)))],1⟩⟩) (λ_ _=>True) () ?_ True.intro (λi a hi hp=>?_)|refine dU (c:=.seq (.seq (.region 8 _ _) _) _) (fK 1 version).length (λj (b:Unit)=>⟨106,[(2,.d (jv l)),(7,.d (xH (fK 1 version))),(9,iV j)],e0⟩) (λ_ _=>True) () ?_ True.intro (λj b hj hq=>?_)|refine aj.n (λh=>?_)|refine aj.mk (λh=>ai ((auA hc om om (show(l.getD i .z).num=((fK 1 version).getD j .z).num from OT aG)).symm.trans h) (by decide)) (λh=>?_)|refine aj.mk (λh=>ai ((asJ hc om om).symm.trans h) (by decide)) (λh=>?_)|refine aO (adG version h1 h3) ?_|refine aO (afl l hc.ok) ?_|refine aZ () ⟨?_,tv,?_⟩|refine aj.n (λh=>?_)|refine aj.mk (λh=>?_) (λh=>?_)|refine ag.a ?_|refine Fin.tell (vq (ah iV ?_) tv)|refine ag.mk ?_ ?_))<;>(try(refine dm.mk ?_;repeat'(first|exact tv|exact rfl|refine an ?_ ?_|refine ag.mk ?_ ?_)))
 all_goals try exact cls
 all_goals(try(refine leq ?_ ?_ <;> repeat'(first|exact tv|exact qV|exact qW|refine vq (ah iV ?_) tv|refine fE qN ?_ ?_|refine an ?_ ?_)))
 all_goals first|(have h8:j<(fK 1 version).length:=om;have h9:i<l.length:=om;have q1:=as4 (l.take i) ((fK 1 version).getD j .z).num;have q2:(l.take i).length<=i:=(by rw[dG];omega);have q3:=amP h9 ((fK 1 version).getD j .z).num;first|omega|(simp only[dM];omega)|(rw[q3,if_neg (show ¬(l.getD i .z).num=((fK 1 version).getD j .z).num from Ut h),Int.add_zero];done)|(rw[q3,if_pos (show(l.getD i .z).num=((fK 1 version).getD j .z).num from OT aG)];done))|(have h8:j<(fK 1 version).length:=om;(omega))
def rU(k:Int):Bool:=bif (bif decide (k=6) then true else decide (k=8)) then true else decide (k=12)
structure auH (c:aF):Prop where
 ax:Cf c.ax (!decide (c.kind=8)) 1 8=true
 seq:Cf c.seq (bif !decide (c.kind=8) then !decide (c.kind=1) else false) 1 1048576=true
 set:Cf c.set (dQ c.kind 2 4) 1 8=true
 id:Cf c.id (bif (bif decide (c.kind=5) then true else decide (c.kind=7)) then true else dQ c.kind 9 11) 1 1048576=true
 n8:c.kind=8->Cf c.n (rU c.kind) 2 3=true
 n12:c.kind=12->Cf c.n (rU c.kind) 0 64=true
 n0:c.kind≠8->c.kind≠12->Cf c.n (rU c.kind) 0 8=true
 text:(bif decide (((jr c.text).size:Int)=0) then true else(bif decide (c.kind=11) then decide (((jr c.text).size:Int)<=16) else false))=true
def fZ.awq{c:aF}{v:Int}(h:fZ c v):auH c:=by
 have hk:=BI h.kM;have hf:=h.fits;have ht:=h.fit.text;have hsz:(jr c.text).size=c.text.length:=by simp[jr,ByteArray.size]
 have key:∀ lo hi ch tx,yF c lo hi ch tx=true->dQ c.n lo hi=true/\tX c.ax 8 (!sD [8] c.kind)=true/\tX c.seq 1048576 (!sD [1,8] c.kind)=true/\tX c.set 8 (sD [2,3,4] c.kind)=true/\tX c.id 1048576 (sD [5,7,9,10,11] c.kind)=true:=by
  intro lo hi ch tx h;unfold yF at h;simp only[TW,qf]at h;obtain⟨⟨⟨⟨⟨⟨h1,h2⟩,h3⟩,h4⟩,h5⟩,h6⟩,h7⟩:=h;exact⟨h1,h4,h5,h6,h7⟩
 have hK:∀ lo hi,xM c lo hi=true->∃ ch tx,yF c lo hi ch tx=true:=by
  intro lo hi h;unfold xM at h;cases h3:decide (c.kind=3) <;> rw[h3]at h
  ·rw[bz]at h;cases h11:decide (c.kind=11) <;> rw[h11]at h
   ·exact⟨_,_,h⟩
   ·exact⟨_,_,h⟩
  ·exact⟨_,_,h⟩
 have all:∃ lo hi,(dQ c.n lo hi=true/\tX c.ax 8 (!sD [8] c.kind)=true/\tX c.seq 1048576 (!sD [1,8] c.kind)=true/\tX c.set 8 (sD [2,3,4] c.kind)=true/\tX c.id 1048576 (sD [5,7,9,10,11] c.kind)=true)/\((c.kind=12/\lo=0/\hi=64)\/(c.kind=8/\lo=2/\hi=3)\/(c.kind=6/\lo=0/\hi=8)\/(c.kind≠12/\c.kind≠8/\c.kind≠6/\lo=0/\hi=0)):=by
  unfold vV at hf;by_cases e12:(12:Int)=c.kind
  ·rw[aX e12,dw]at hf;obtain⟨_,_,h1⟩:=hK _ _ hf;exact⟨_,_,key _ _ _ _ h1,by omega⟩
  ·rw[aT e12,bz]at hf;by_cases e8:(8:Int)=c.kind
   ·rw[aX e8,dw]at hf;obtain⟨_,_,h1⟩:=hK _ _ hf;exact⟨_,_,key _ _ _ _ h1,by omega⟩
   ·rw[aT e8,bz]at hf;by_cases e6:(6:Int)=c.kind
    ·rw[aX e6,dw]at hf;obtain⟨_,_,h1⟩:=hK _ _ hf;exact⟨_,_,key _ _ _ _ h1,by omega⟩
    ·rw[aT e6,bz]at hf;obtain⟨_,_,h1⟩:=hK _ _ hf;exact⟨_,_,key _ _ _ _ h1,by omega⟩
 obtain⟨lo,hi,⟨b1,b2,b3,b4,b5⟩,hb⟩:=all;have htx:(bif decide (((jr c.text).size:Int)=0) then true else(bif decide (c.kind=11) then decide (((jr c.text).size:Int)<=16) else false))=true:=by
  rw[hsz];by_cases e:c.kind=11
  ·rw[aX e,aX (show((c.text.length:Int))<=16 by omega)];cases decide ((c.text.length:Int)=0) <;> rfl
  ·rw[ht.2 e];rfl
 clear hf hK key ht hsz;have fF:c.kind=1\/c.kind=2\/c.kind=3\/c.kind=4\/c.kind=5\/c.kind=6\/c.kind=7\/c.kind=8\/c.kind=9\/c.kind=10\/c.kind=11\/c.kind=12:=qO;refine⟨?_,?_,?_,?_,?_,?_,?_,htx⟩ <;> obtain e|e|e|e|e|e|e|e|e|e|e|e:=fF <;> rw[e]at b2 b3 b4 b5 ⊢ <;> first|exact b2|exact b3|exact b4|exact b5|(intro h;exact ai h (by decide))|(intro h h';exact ai rfl h')|(unfold Cf rU dQ;unfold dQ at b1;have b1:=bT b1;simp;omega)
def awH{A B C D N K T:Bool}(a:A=true)(b:B=true)(c:C=true)(d:D=true)(n:N=true)(k:K=true)(t:T=true):(bif (bif (bif (bif (bif (bif !A then true else !B) then true else !C) then true else !D) then true else !N) then true else !K) then true else !T)=false:=by subst a b c d n k t;rfl
def fZ.ch3{c:aF}{v:Int}(h:fZ c v)(e:c.kind=3):kW c.chunks=true:=by obtain h|h:=h.fit.chunks;exact h.2;exact ai e h.1
def fZ.ch0{c:aF}{v:Int}(h:fZ c v)(e:¬c.kind=3):decide ((c.chunks.length:Int)=0)=true:=by obtain h|h:=h.fit.chunks;exact ai h.1 e;rw[h.2];rfl
def afk(c:aF)(v:Int)(hc:fZ c 3)(h1:1<=v)(h3:v<=3):aQ 111 [jl c,iV v] (iV (kX c v)):=by
 have hm:=hc.awq;refine ay func111 λX=>?_
 (repeat'(first|refine aC ?_|refine bU 8 [] (ooz 6 []) ?_|refine bU 9 [] (ooz 14 []) ?_|refine mc ?_ ?_|refine aj.mk (λh=>ai ((show(bif !(dQ v 1 3) then true else decide (jX c.kind=0))=false by rw[show dQ v 1 3=true from aX ⟨h1,h3⟩,aT hc.kM];rfl).symm.trans h) (by decide)) (λh=>?_)|refine aO (zq v 1 3) ?_|refine aZ _ (fM (λht=>af.tell (SC c.kind) vw ⟨rfl,rfl⟩) ?_)|refine aO (SC c.kind) ?_|refine aO (YQ _ _ _ _) ?_|refine aO (Uf c.chunks hc.chunks) ?_|refine kF (YQ _ _ _ _) ?_|refine kF (zq _ _ _) ?_|refine aj.mk (λh=>?_) (λh=>?_)|refine ag.a ?_|refine Fin.tell (vq (ah iV ?_) tv)))<;>(try(refine dm.mk ?_;repeat'(first|exact tv|exact rfl|refine aO (YQ _ _ _ _) ?_|refine aO (zq _ _ _) ?_|refine aZ _ (fM (λht=>af.tell (zq _ _ _) vw ⟨rfl,rfl⟩) ?_)|refine an ?_ ?_|refine ag.mk ?_ ?_)))
 all_goals try exact cls
 all_goals first|(rename_i h0;exact((bG h0).trans (dH h)).symm)|exact((bG (aG:(bif !dQ v 1 3 then true else decide (jX c.kind=0))=false)).trans ((bG (aG:decide (v<jX c.kind)=false)).trans (bG (by rw[hc.fits];rfl)))).symm|(exfalso;have a8:=bT (aG:decide (c.kind=8)=true);have a12:=bT (aG:decide (c.kind=12)=true);omega)|(exfalso;refine ai ((awH hm.ax hm.seq hm.set hm.id ?_ ?_ hm.text).symm.trans h) (by decide);(first|exact hm.n8 (bT aG)|exact hm.n12 (bT aG)|exact hm.n0 (bV aG) (bV aG));(first|exact hc.ch3 (bT aG)|exact hc.ch0 (bV aG)))
def ajr(c:aF)(v:Int)(h0:jX c.kind≠0)(h1:jX c.kind<=v)(hc:c.chunks.length<=100000):aQ 126 [jl c,iV v] (.b false):=by
 refine ay func126 λX=>?_
 (repeat'(first|refine aC ?_|refine aO (SC c.kind) ?_|refine aZ _ (fM (λht=>af.tell (Uf c.chunks hc) vw ⟨rfl,rfl⟩) ?_)|refine aO (zq _ _ _) ?_|refine aZ _ (fM (λht=>af.tell (zq _ _ _) vw ⟨rfl,rfl⟩) ?_)|refine ag.a ?_|refine Fin.tell (vq (ah V.b ?_) tv)))<;>try exact cls
 all_goals(rw[aT h0,aT (show ¬v<jX c.kind by omega)];cases dQ c.kind 1 99 <;> rfl)
def xG(c:aF):List Int:=[c.kind,c.ax,c.seq,c.set,c.id,c.n]
def zy(c:aF):Nat->List bu
 |0=>[]
 |i+1=>zy c i++lD ((i:Int)+1) ((xG c).getD i 0)
def akK(c:aF)(i:Nat):(zy c i).length<=i:=by
 induction i with
 |zero=>exact bF _
 |succ i ih=>
  unfold zy;rw[bP];have:=Ig ((i:Int)+1) ((xG c).getD i 0);omega
def ap4{c:aF}{i:Nat}(h:(xG c).getD i 0=0):zy c (i+1)=zy c i:=by
 show zy c i++lD ((i:Int)+1) ((xG c).getD i 0)=_;unfold lD;rw[if_pos h,pO]
def ap3{c:aF}{i:Nat}(h:¬(xG c).getD i 0=0):zy c (i+1)=zy c i++[⟨(i:Int)+1,0,((xG c).getD i 0).toNat,[]⟩]:=by
 show zy c i++lD ((i:Int)+1) ((xG c).getD i 0)=_;unfold lD;rw[if_neg h]
def alM{c:aF}(h:abb c)(i:Nat):0<=(xG c).getD i 0/\(xG c).getD i 0<=1000000000:=by
 obtain _|_|_|_|_|_|i:=i
 ·exact h.kind
 ·exact h.ax
 ·exact h.seq
 ·exact h.set
 ·exact h.id
 ·exact h.n
 ·exact⟨dL 0,show(0:Int)<=1000000000 by decide⟩
def avO{c:aF}(h:c.chunks=[]):rJ c=xk c:=by
 have e:xA c.chunks=[]:=by unfold xA;rw[h];rfl
 unfold rJ ql;rw[if_pos e,pO]
def avN{c:aF}(h:kW c.chunks=true):rJ c=xk c++[⟨7,2,0,jy c.chunks⟩]:=by
 have e:xA c.chunks=jy c.chunks:=by unfold xA;rw[if_pos h]
 unfold rJ ql;rw[e,if_neg (agW h)]
def atD{c:aF}{v:Int}(h:¬(3<=v/\c.text≠[])):iL c v=rJ c:=by
 unfold iL;by_cases e:3<=v
 ·rw[aX e,dw];unfold sS ql;rw[if_pos (by by_cases e2:c.text=[];exact e2;exact ai ⟨e,e2⟩ h),pO]
 ·rw[aT e];rfl
def atC{c:aF}{v:Int}(h:3<=v)(e:c.text≠[]):iL c v=rJ c++[⟨8,2,0,c.text⟩]:=by
 unfold iL sS ql;rw[aX h,dw,if_neg e]
def Yw(b:List UInt8):(jr b).size=b.length:=by simp[jr,ByteArray.size]
def ahN{c:aF}{v:Int}(h:(bif decide (0<((jr c.text).size:Int)) then decide (3<=v) else false)=true):3<=v/\c.text≠[]:=by
 rw[Yw]at h;by_cases e:0<(c.text.length:Int)
 ·rw[aX e]at h;exact⟨bT h,λe2=>by rw[e2]at e;exact ai e qD⟩
 ·rw[aT e]at h;cases h
def awc{c:aF}{v:Int}(h:(bif decide (0<((jr c.text).size:Int)) then decide (3<=v) else false)=false):¬(3<=v/\c.text≠[]):=λ⟨h1,h2⟩=>by
 rw[Yw,aX h1,aX (show 0<(c.text.length:Int) by have:=List.length_pos_iff.2 h2;omega)]at h;cases h
def aif{c:aF}{v:Int}(hc:fZ c v)(h:decide (0<(c.chunks.length:Int))=true):kW c.chunks=true:=by
 have h9:=bT h;obtain h8|h8:=hc.fit.chunks
 ·exact h8.2
 ·rw[h8.2]at h9;exact ai h9 qD
def axf{c:aF}(h:decide (0<(c.chunks.length:Int))=false):c.chunks=[]:=uI (by have:=bV h;omega)
def akx(c:aF)(v:Int)(hc:fZ c v):aQ 128 [jl c,iV v] (.d (jv (iL c v))):=by
 have hn:=hc.num;have hl6:=(CZ c).2.2.2.2.2.1;have hl7:=(CZ c).2.2.2.2.2.2.1;have hsz:(jr c.text).size=c.text.length:=(by simp[jr,ByteArray.size]);refine ay func128 λX=>?_
 (repeat'(first|(have e6:zy c i=xk c:=(by rw[show i=6 from om];rfl);rw[e6];refine T.cut (x:=.seq (.region 8 _ _) _) ⟨77,[(1,iV v),(2,.ptr 0 0),(5,.row 1 (rJ c).length)],⟨[(0,.Wp 8 (λk=>.d (lW c k))),(1,bQ 163 4 kP .z (rJ c))],2⟩⟩ ?_ ?_)|refine T.cut (x:=.seq (.region 11 _ _) _) ⟨77,[(1,iV v),(2,.ptr 0 0),(5,.row 1 (iL c v).length)],⟨[(0,.Wp 8 (λk=>.d (lW c k))),(1,bQ 163 4 kP .z (iL c v))],2⟩⟩ ?_ ?_|refine dU (c:=.seq (.seq (.region 4 _ _) _) _) 6 (λi (a:Unit)=>⟨77,[(1,iV v),(2,.ptr 0 0),(5,.row 1 (zy c i).length),(6,.row 2 6),(7,iV i)],⟨[(0,.Wp 8 (λk=>.d (lW c k))),(1,bQ 163 4 kP .z (zy c i)),(2,.row 3 1 6 (λj _=>iV ((xG c).getD j 0)))],3⟩⟩) (λ_ _=>True) () ?_ True.intro (λi a hi hp=>?_)|refine aC ?_|refine aO (acS c.chunks (aif hc aG)) ?_|refine aZ () ⟨?_,tv,?_⟩|refine aj.mk (λh=>?_) (λh=>?_)|refine ag.a ?_|refine zg (C:=kP) (z:=.z) (L:=iL c v) rfl rfl rfl fr|refine ag.mk ?_ ?_))<;>try exact cls
 all_goals(try(refine leq ?_ ?_ <;> repeat'(first|exact tv|exact qV|exact qW|refine vq (ah (V.row _) ?_) qN|refine jQ qN (λk hk=>?_) ?_|refine gU qN ?_ (λj hj k hk=>?_) ?_|refine an ?_ ?_)))
 all_goals first|exact rfl|exact cm qV|exact ai hj nz|(obtain rfl:k=0:=Nat.lt_one_iff.1 hk;obtain _|_|_|_|_|_|j:=j;exact cm qV;exact cm qV;exact cm qV;exact cm qV;exact cm qV;exact cm qV;omega)|(have h9:i<6:=om;have hv:=alM hn i;have hl:=akK c i;first|omega|(simp only[dM,jg];omega)|(rw[ap4 (show(xG c).getD i 0=0 from OT h)];first|done|exact cm qV)|(rw[ap3 (show ¬(xG c).getD i 0=0 from Ut h)];first|(rw[bP];rfl)|(have hk:k<4:=hk;refine cm (kU rfl hj fr (λj hj=>?_));obtain rfl:j=0:=Nat.lt_one_iff.1 hj;obtain _|_|_|_|k:=k;exact qV;exact qV;exact vq (ah (V.int .u64) (show(xG c).getD i 0=(((xG c).getD i 0).toNat:Int) by omega)) tv;exact pg rfl;omega)))|(rw[avO (axf h)];first|done|exact cm qV)|(rw[avN (aif hc h)];first|(rw[bP];rfl)|(have hk:k<4:=hk;refine cm (kU rfl hj fr (λj hj=>?_));obtain rfl:j=0:=Nat.lt_one_iff.1 hj;obtain _|_|_|_|k:=k;exact qV;exact qV;exact qV;exact qV;omega))|(rw[atD (awc h)];first|done|exact cm qV)|(rw[atC (ahN h).1 (ahN h).2];first|(rw[bP];rfl)|(have hk:k<4:=hk;refine cm (kU rfl hj fr (λj hj=>?_));obtain rfl:j=0:=Nat.lt_one_iff.1 hj;obtain _|_|_|_|k:=k;exact qV;exact qV;exact qV;exact ahb c.text;omega))|(have:=hn.text;(omega))
