/- Lemmas. -/
import Derived.Test.YtnibdnahojjcgaaGreatC25
import Derived.Test.YtnibdnahojjcgaaGreatC35
namespace Go.Proofs.YtnibdnahojjcgaaGreat
set_option linter.all false
set_option maxRecDepth 100000
set_option maxHeartbeats 0
open Go.RowKit Tryz
section
def rH(kind a b:Int):cO:=⟨kind,a,b,.z⟩
def qF(k:Nat):Nat->aH->aH
 |0,C=>C
 |n+1,C=>bif decide ((0:Int)<(C.au.row.length:Int)) then qF k n (jI k C (rH 3 0 0)).1 else C
def Hf(k:Nat)(b:Int)(i:Nat)(C:aH):aH:=bif (iO (C.at i)).up then C else(jI k C (rH 9 i b)).1
def Dh(k:Nat)(b:Int):Nat->Nat->aH->aH
 |0,_,C=>C
 |n+1,i,C=>Dh k b n (i+1) (Hf k b i C)
def oq(k:Nat)(kind:Int)(i:Nat)(C:aH):aH:=qF k 4000 (jI k C (rH kind i 0)).1
def Az(i:Nat)(C:aH):Bool:=decide ((iO (C.at i)).role=2)
def qH(k:Nat):Nat->Nat->aH->aH×Int
 |0,_,C=>(C,-1)
 |n+1,j,C=>OJ k (λD=>qH k n (j+1) D) (j % k) (oq k 1 (j % k) C)
where
 OJ (k:Nat) (yU:aH->aH×Int) (i:Nat) (D:aH):aH×Int:=bif Az i D then ZJ yU i (oq k 2 i (oq k 2 i D)) else yU D
 ZJ (yU:aH->aH×Int) (i:Nat) (E:aH):aH×Int:=bif Az i E then(E,i) else yU E
def CW(k:Nat)(b:Int)(C:aH):aH×Int:=qH k (2*k) 0 (qF k 4000 (Dh k b k 0 C))
def gB(k a n:Nat)(C:aH):Prop:=∃ T:Int,T<=a/\Inv k T (10*n) n a C
def AX{kind a b:Int}(h : -9223372036854775808<=b):wG (rH kind a b):=⟨h,⟨cZ _,cZ _⟩,cZ _⟩
section
variable {k a n:Nat} {C:aH}
def gB.up(h:gB k a n C){a' n':Nat}(ha:a<=a')(hn:n<=n'):gB k a' n' C:=by
 obtain⟨T,hT,v,fl,g⟩:=h;exact⟨T,by omega,v,fl,g.mono ⟨dL _,g.T0.2⟩ qO qO ha⟩
def gB.step(h:gB k a n C)(ha:a<=1000){e:cO}(he:wG e):gB k (a+1) (n+1) (jI k C e).1:=by
 obtain⟨T,hT,g⟩:=h;obtain⟨v,fl,g2⟩:=g.step he qO;exact⟨T+1,by omega,v,fl,g2.mono ⟨dL _,g2.T0.2⟩ qO qO (bF _)⟩
def gB.take(h:gB k a n C)(i b:Int):gB k a (n+1) (jI k C (rH 3 i b)).1:=by
 obtain⟨T,hT,v,fl,g⟩:=h;exact⟨T,hT,v,fl,(g.alT (e:=rH 3 i b) rfl).mono ⟨dL _,g.T0.2⟩ qO qO (bF _)⟩
def gB.jm(h:gB k a n C):3<=k/\k<=5:=by obtain⟨_,_,_,_,g⟩:=h;exact g.jm
def gB.new(hk:3<=k/\k<=5):gB k 0 0 (qp k):=⟨0,by omega,1,_,amT hk⟩
def gB.drain:∀ {m n:Nat} {C:aH},gB k a n C->gB k a (n+m) (qF k m C)
 |0,_,_,h=>h
 |m+1,n,C,h=>by
  show gB k a _ (bif decide ((0:Int)<(C.au.row.length:Int)) then _ else C);cases decide ((0:Int)<(C.au.row.length:Int))
  ·exact h.up (bF _) qO
  ·have:=gB.drain (m:=m) (h.take 0 0);rw[show n+(m+1)=n+1+m by omega];exact this
def Uu(k i:Nat):Nat->aH->aH
 |0,D=>D
 |m+1,D=>oq k 2 i (Uu k i m D)
def gB.Jo(h:gB k a n C)(ha:a<=1000)(kind:Int)(i:Nat):gB k (a+1) (n+4001) (oq k kind i C):=by
 have:=(h.step ha (AX (kind:=kind) (a:=i) (b:=0) qD)).drain (m:=4000);rw[show n+4001=n+1+4000 by omega];exact this
variable {R:aH×Int} {D E:aH} {j:Nat}
def Xw(hj:j<2*k)(e:qH k (2*k-j) j C=R):qH.OJ k (λD=>qH k (2*k-(j+1)) (j+1) D) (j % k) (oq k 1 (j % k) C)=R:=by
 rw[<-e,show 2*k-j=2*k-(j+1)+1 by omega];rfl
def anq(hj:j<2*k)(e:qH k (2*k-j) j C=R)(hD:D=oq k 1 (j % k) C)(hl:Az (j % k) D=false):qH k (2*k-(j+1)) (j+1) D=R:=by
 have e:=Xw hj e;unfold qH.OJ at e;rw[<-hD,hl]at e;exact e
def anp(hj:j<2*k)(e:qH k (2*k-j) j C=R)(hD:D=oq k 1 (j % k) C)(hl:Az (j % k) D=true)(hE:E=Uu k (j % k) 2 D)(pK:Az (j % k) E=false):qH k (2*k-(j+1)) (j+1) E=R:=by
 have e:=Xw hj e;unfold qH.OJ qH.ZJ at e;rw[<-hD,hl,dw]at e;rw[show oq k 2 (j % k) (oq k 2 (j % k) D)=E from hE.symm,pK]at e;exact e
def ano(hj:j<2*k)(e:qH k (2*k-j) j C=R)(hD:D=oq k 1 (j % k) C)(hl:Az (j % k) D=true)(hE:E=Uu k (j % k) 2 D)(pK:Az (j % k) E=true):R=(E,((j % k:Nat):Int)):=by
 have e:=Xw hj e;unfold qH.OJ qH.ZJ at e;rw[<-hD,hl,dw]at e;rw[show oq k 2 (j % k) (oq k 2 (j % k) D)=E from hE.symm,pK]at e;exact e.symm
def aeq(hj:¬j<2*k)(e:qH k (2*k-j) j C=R):R=(C,-1):=by
 rw[show 2*k-j=0 by omega]at e;exact e.symm
def ado{b:Int}{i:Nat}{D:aH}(hi:i<k)(e:Dh k b (k-i) i C=D):Dh k b (k-(i+1)) (i+1) (Hf k b i C)=D:=by
 rw[<-e,show k-i=k-(i+1)+1 by omega];rfl
def aoM{b:Int}{i:Nat}{D:aH}(hi:¬i<k)(e:Dh k b (k-i) i C=D):C=D:=by
 rw[show k-i=0 by omega]at e;exact e
end
end
section
def Ez:List aF:=[⟨1,1,0,0,0,0,[],[]⟩,⟨2,1,1,2,0,0,[],[]⟩,⟨3,1,2,2,0,0,[5,9],[]⟩]
def GU(i:Nat):cO:=⟨6,0,0,Ez.getD i .z⟩
def shF:aH×Int:=CW 3 1 (qp 3)
def ET(i:Nat)(C:aH):aH×Int:=jI 3 C (GU i)
def EW(C:aH):aH×Int:=jI 3 C (rH 2 0 0)
def LU(C:aH):aH:=qF 3 4000 C
def VH:aH:=qp 3
def Jj:aH:=shF.1
def Ji:aH:=(ET 0 Jj).1
def LX:aH:=(EW Ji).1
def Hq:aH:=LU LX
def Jh:aH:=(ET 1 Hq).1
def LW:aH:=(EW Jh).1
def Ho:aH:=LU LW
def Jg:aH:=(ET 2 Ho).1
def LV:aH:=(EW Jg).1
def EC:aH:=LU LV
def awm:shF.2=0:=by decide +kernel
def auq:(ET 0 Jj).2=0:=by decide +kernel
def aut:(EW Ji).2=0:=by decide +kernel
def aup:(ET 1 Hq).2=0:=by decide +kernel
def aus:(EW Jh).2=0:=by decide +kernel
def auo:(ET 2 Ho).2=0:=by decide +kernel
def aur:(EW Jg).2=0:=by decide +kernel
def awk:EC.calls.length=3:=by decide +kernel
def awn:(EC.calls.getD 2 .z).done=true:=by decide +kernel
def awj:(EC.calls.getD 2 .z).vk.n=1:=by decide +kernel
def awi:(iO (EC.at 0)).st.az.length=1:=by decide +kernel
def awl:((iO (EC.at 0)).st.az.getD 0 .z).chunks.length=2:=by decide +kernel
section
variable {k a n:Nat} {C:aH}
def gB.av7{b:Int}(hb : -9223372036854775808<=b)(h:gB k a n C)(ha:a<=1000)(i:Nat):gB k (a+1) (n+1) (Hf k b i C):=by
 unfold Hf;cases (iO (C.at i)).up
 ·exact h.step ha (AX hb)
 ·exact h.up qO qO
def gB.Bj{b:Int}(hb : -9223372036854775808<=b):∀ {m a n i:Nat} {C:aH},gB k a n C->a+m<=1000->gB k (a+m) (n+m) (Dh k b m i C)
 |0,_,_,_,_,h,_=>h
 |m+1,a,n,i,C,h,ha=>by
  have:=gB.Bj hb (m:=m) (i:=i+1) (h.av7 hb qO i) qO;rw[show a+(m+1)=a+1+m by omega,show n+(m+1)=n+1+m by omega];exact this
def gB.qH:∀ {m a n j:Nat} {C:aH},gB k a n C->a+3*m<=1000->gB k (a+3*m) (n+12003*m) (qH k m j C).1
 |0,_,_,_,_,h,_=>h
 |m+1,a,n,j,C,h,ha=>by
  have h1:=h.Jo qO 1 (j % k);have nx:∀ {D:aH} {a' n':Nat},gB k a' n' D->a'<=a+3->n'<=n+12003->gB k (a+3*(m+1)) (n+12003*(m+1)) (Go.Proofs.YtnibdnahojjcgaaGreat.qH k m (j+1) D).1:=λhD q1 q2=>by
   have:=gB.qH (m:=m) (j:=j+1) (hD.up q1 q2) qO;exact this.up qO qO
  show gB k _ _ (bif Az (j % k) (oq k 1 (j % k) C) then bif Az (j % k) (oq k 2 (j % k) (oq k 2 (j % k) (oq k 1 (j % k) C))) then(_,_) else _ else _:aH×Int).1;have h3:=(h1.Jo qO 2 (j % k)).Jo qO 2 (j % k);cases Az (j % k) (oq k 1 (j % k) C)
  ·exact nx h1 qO qO
  ·cases Az (j % k) (oq k 2 (j % k) (oq k 2 (j % k) (oq k 1 (j % k) C)))
   ·exact nx h3 qO qO
   ·exact h3.up qO qO
def gB.fair{b:Int}(hb : -9223372036854775808<=b)(h:gB k a n C)(ha:a+7*k<=1000):gB k (a+7*k) (n+k+4000+24006*k) (CW k b C).1:=by
 have h1:=(h.Bj hb (m:=k) (i:=0) qO).drain (m:=4000);have:=h1.qH (m:=2*k) (j:=0) qO;exact this.up qO qO
structure abh (k:Nat) (x:Sit):Prop where
 ver:x.st.version<=x.bin
 floor:x.floor=x.bin
 dN:0<=x.dN/\x.dN<=x.log.length
 len:x.log.length<=64
 st:gK x.st x.bin
 bin:1<=x.bin/\x.bin<=3
 es:∀ e∈x.log,e.b=[]\/∃ c,e.b=fQ c/\fZ c x.bin
def gB.site(h:gB k a n C){i:Nat}(hi:i<k)(hu:(iO (C.at i)).up=true):abh k (iO (C.at i)):=by
 obtain⟨T,hT,v,fl,g⟩:=h;obtain⟨L,t,g2⟩:=g.nd i hi;have hd:(C.at i).aB.down=false:=by
  rcases e:(C.at i).aB.down with _|_
  ·rfl
  ·unfold iO at hu;rw[e]at hu;cases hu
 have e:iO (C.at i)=⟨true,(C.at i).role,(C.at i).bin,(C.at i).ae.floor,(C.at i).ae.term,(C.at i).ae.cu,(C.at i).dN,(C.at i).dn,(C.at i).ae.log,(C.at i).st⟩:=by unfold iO;rw[hd];rfl
 rw[e];have u:=g2.g.up hd;have hv:=g2.g.Ve hd g.sup hi;have ha:=g2.g.ap;have ah4:=u.ver;have hst:(C.nd i).st.version<=(C.nd i).bin:=Int.le_trans ah4 hv.1;refine⟨hst,u.bin.symm,⟨Int.le_trans ha.1 ha.2.1,ha.2.2⟩,g2.g.log.len,u.st.mono hst hv.2.2,hv.2,λx hx=>?_⟩;rcases(g2.g.log.log x hx).b with hb|⟨c,h1,h2,_⟩
 ·exact .inl hb
 ·exact .inr ⟨c,h1,h2.up hv.1 hv.2.2⟩
end
end
section
def aem{c:aF}(h:vV c=true)(hk:c.kind=8\/c.kind=1):c.seq=0:=by
 have key:∀ lo hi ch tx,yF c lo hi ch tx=true->c.seq=0:=by
  intro lo hi ch tx h;unfold yF at h;simp only[TW,qf]at h;have h5:=h.1.1.2;have e:(!sD [1,8] c.kind)=false:=by obtain e|e:=hk <;> rw[e] <;> rfl
  rw[e]at h5;exact fU h5
 have hK:∀ lo hi,xM c lo hi=true->c.seq=0:=by
  intro lo hi h;unfold xM at h;cases h3:decide (c.kind=3) <;> rw[h3]at h
  ·cases h11:decide (c.kind=11) <;> rw[h11]at h <;> exact key _ _ _ _ h
  ·exact key _ _ _ _ h
 unfold vV at h;cases h12:decide (12=c.kind) <;> rw[h12]at h
 ·cases h8:decide (8=c.kind) <;> rw[h8]at h
  ·cases h6:decide (6=c.kind) <;> rw[h6]at h <;> exact hK _ _ h
  ·exact hK _ _ h
 ·exact hK _ _ h
def aen{α:Type}{key:α->Int}{z:α}:∀ {l:List α} {x:α},(l.map key).Pairwise (· < ·)->x∈l->0<=eU (λy=>decide (key y=key x)) 0 l/\l.getD (eU (λy=>decide (key y=key x)) 0 l).toNat z=x
 |[],x,_,h=>by simp at h
 |y::r,x,hp,h=>by
  rw[List.map_cons,List.pairwise_cons]at hp;unfold eU;obtain rfl|h:=List.mem_cons.1 h
  ·simp
  ·have:=hp.1 _ (List.mem_map_of_mem h);rw[aT (show ¬key y=key x by omega),bz,MM r 1];obtain⟨q1,q2⟩:=aen (z:=z) hp.2 h;rw[aX q1,dw];refine⟨by omega,?_⟩;have e2:(eU (λy=>decide (key y=key x)) 0 r+((1:Nat):Int)).toNat=(eU (λy=>decide (key y=key x)) 0 r).toNat+1:=qO;rw[e2,List.getD_cons_succ];exact q2
structure x8 (s:aN) (o:Option aF) (p:aN×Rep):Prop where
 new:∀ x∈p.1.aJ,dE s x.ax<0->x.seq=0/\∃ c,o=some c/\c.kind=1
 next:∀ x∈p.1.aJ,¬dE s x.ax<0->x.seq≠(s.aJ.getD (dE s x.ax).toNat .z).seq->x.seq=(s.aJ.getD (dE s x.ax).toNat .z).seq+1/\∃ c,o=some c/\c.ax=x.ax/\c.seq=x.seq/\x.last=p.2
 again:∀ x∈p.1.aJ,¬dE s x.ax<0->∀ c,o=some c->c.ax=x.ax->c.seq=(s.aJ.getD (dE s x.ax).toNat .z).seq->0<c.seq->p.2=(s.aJ.getD (dE s x.ax).toNat .z).last
section
variable {s:aN} {c:aF}
def gK.own(h:gK s s.version){x:iW}(hx:x∈s.aJ):¬dE s x.ax<0/\s.aJ.getD (dE s x.ax).toNat .z=x:=by
 obtain⟨q1,q2⟩:=aen (key:=λx:iW=>x.ax) (z:=iW.z) h.aJ.1 hx;exact⟨by unfold dE;omega,q2⟩
def x8.same(h:gK s s.version){o:Option aF}{p:aN×Rep}(e:p.1.aJ=s.aJ)(ha:∀ c,o=some c->0<=dE s c.ax->c.seq=(s.aJ.getD (dE s c.ax).toNat .z).seq->0<c.seq->p.2=(s.aJ.getD (dE s c.ax).toNat .z).last):x8 s o p:=by
 refine⟨λx hx hn=>?_,λx hx hn hq=>?_,λx hx hn c hc hcl hs h0=>?_⟩ <;> rw[e]at hx <;> obtain⟨q1,q2⟩:=h.own hx
 ·exact ai hn q1
 ·exact ai (by rw[q2]) hq
 ·rw[<-hcl]at hs hn ⊢;exact ha c hc qO hs h0
def amU(h:gK s s.version)(hc:fZ c 3)(hn:jX c.kind<=s.version):kX c s.version=0:=by
 unfold kX;rw[IK h.ver,aT hc.kM,aT (show ¬s.version<jX c.kind by omega),hc.fits];rfl
def aqh(h:gK s s.version)(hc:fZ c 3)(hn:jX c.kind<=s.version):x8 s (some c) (oC s c):=by
 have hm:=amU h hc hn;unfold oC;rw[ZA h,hm];simp only[decide_true,Bool.not_true,bz];by_cases k8:c.kind=8
 ·rw[aX k8,dw];have h0:=aem hc.fits (.inl k8);cases (!decide (c.n=s.version+1)) <;> refine x8.same h rfl λd hd _ _ h1=>?_ <;> (obtain rfl:=fD hd;omega)
 rw[aT k8,bz];by_cases k1:c.kind=1
 ·rw[aX k1,dw];have h0:=aem hc.fits (.inr k1);by_cases hcl:0<=dE s c.ax
  ·rw[aX hcl];exact x8.same h rfl λd hd _ _ h1=>by obtain rfl:=fD hd;omega
  ·rw[aT hcl,bz];have mem:∀ x∈oV s.aJ (ahead (λx=>decide (x.ax<c.ax)) s.aJ) (⟨c.ax,0,.z⟩:iW),x=⟨c.ax,0,.z⟩\/x∈s.aJ:=λx hx=>by
    unfold oV at hx;obtain hx|hx:=List.mem_append.1 hx
    ·exact .inr (List.mem_of_mem_take hx)
    ·obtain rfl|hx:=List.mem_cons.1 hx
     ·exact .inl rfl
     ·exact .inr (List.mem_of_mem_drop hx)
   refine⟨λx hx hn=>?_,λx hx hn hq=>?_,λx hx hn d hd hcl hs h1=>by obtain rfl:=fD hd;omega⟩
   ·obtain rfl|hx:=mem x hx
    ·exact⟨rfl,c,rfl,k1⟩
    ·exact ai hn (h.own hx).1
   ·obtain rfl|hx:=mem x hx
    ·exact ai hcl (by simp only at hn;omega)
    ·exact ai (by rw[(h.own hx).2]) hq
 rw[aT k1,bz];unfold Ej;by_cases hcl:dE s c.ax<0
 ·rw[aX hcl];exact x8.same h rfl λd hd h0 _ _=>by obtain rfl:=fD hd;omega
 rw[aT hcl,bz];by_cases hq:c.seq=(s.aJ.getD (dE s c.ax).toNat .z).seq
 ·rw[aX hq];exact x8.same h rfl λd hd _ _ _=>by obtain rfl:=fD hd;rfl
 rw[aT hq,bz];by_cases hl:c.seq<(s.aJ.getD (dE s c.ax).toNat .z).seq
 ·rw[aX hl];exact x8.same h rfl λd hd _ h1 _=>by obtain rfl:=fD hd;exact ai h1 hq
 rw[aT hl,bz];by_cases hg:(s.aJ.getD (dE s c.ax).toNat .z).seq+1<c.seq
 ·rw[aX hg];exact x8.same h rfl λd hd _ h1 _=>by obtain rfl:=fD hd;exact ai h1 hq
 rw[aT hg,bz];have avg:=(IC h ⟨hc.chunks,hc.text⟩).aJ;have awZ:=af4 (s:=s) (c:=c) qO;have mem:∀ x∈(kC s c).1.aJ.set (dE s c.ax).toNat ⟨((kC s c).1.aJ.getD (dE s c.ax).toNat .z).ax,c.seq,(kC s c).2⟩,x∈s.aJ\/(x.ax=c.ax/\x.seq=c.seq/\x.last=(kC s c).2):=λx hx=>by
  rw[avg]at hx;obtain hx|rfl:=List.mem_or_eq_of_mem_set hx
  ·exact .inl hx
  ·exact .inr ⟨awZ,rfl,rfl⟩
 refine⟨λx hx hn=>?_,λx hx hn hq2=>?_,λx hx hn d hd e1 hs h1=>?_⟩
 ·obtain hx|⟨e,_,_⟩:=mem x hx
  ·exact ai hn (h.own hx).1
  ·rw[e]at hn;exact ai hn hcl
 ·obtain hx|⟨e1,e2,e3⟩:=mem x hx
  ·exact ai (by rw[(h.own hx).2]) hq2
  ·rw[e1]at hq2 ⊢;exact⟨by omega,c,rfl,rfl,e2.symm,e3⟩
 ·obtain rfl:=fD hd;rw[<-e1]at hs;exact ai hs hq
def akV(h:gK s s.version):x8 s none (s,⟨0,0⟩):=x8.same h rfl nofun
def kG(l:List bH):aN:=(nU AA (l.map λe=>jJ e.b)).1
def yt(l:List bH):Prop:=∀ n,n<l.length->∀ c,jJ (l.getD n .z).b=some c->jX c.kind<=(kG (l.take n)).version
def amD(s:aN)(l:List (Option aF))(o:Option aF):(nU s (l++[o])).1=(lL (nU s l).1 o).1:=by
 unfold nU;rw[List.foldl_append];rfl
def aqb(s:aN)(l m:List (Option aF)):(nU s (l++m)).1=(nU (nU s l).1 m).1:=by
 have key:∀(m:List (Option aF)) (s:aN) (r r':List Rep),(m.foldl (λp o=>((lL p.1 o).1,p.2++[(lL p.1 o).2])) (s,r)).1=(m.foldl (λp o=>((lL p.1 o).1,p.2++[(lL p.1 o).2])) (s,r')).1:=by
  intro m;induction m with
  |nil=>intro s r r';rfl
  |cons o m ih=>intro s r r';exact ih _ _ _
 unfold nU;rw[List.foldl_append];exact key m _ _ _
def air{α:Type}{z:α}{l:List α}{n:Nat}(h:n<l.length):l.take (n+1)=l.take n++[l.getD n z]:=by
 rw[List.take_succ_eq_append_getElem h,bn,dV h];rfl
def Sz{l:List bH}{n:Nat}(h:n<l.length):kG (l.take (n+1))=(lL (kG (l.take n)) (jJ (l.getD n .z).b)).1:=by
 unfold kG;rw[air (z:=bH.z) h,List.map_append];exact amD _ _ _
def yt.take{l:List bH}(h:yt l)(m:Nat):yt (l.take m):=λn hn c hc=>by
 rw[dG]at hn;have e:(l.take m).getD n .z=l.getD n .z:=by
  rw[bn,bn,nX,if_pos qO]
 rw[e]at hc;rw[List.take_take,Nat.min_eq_left qO];exact h n qO c hc
def ari:gK AA AA.version:=SE.1 (by rfl)
def aad{v T:Int}{l:List bH}(h1:1<=v)(h:∀ e∈l,EG v T e):gK (kG l) (kG l).version/\(kG l).version<=v:=by
 obtain⟨q1,q2,_⟩:=XW ari (v:=v) (show(1:Int)<=v from h1) h;exact⟨q1,q2⟩
def yt.once{v T:Int}{l:List bH}(hg:yt l)(h1:1<=v)(h3:v<=3)(h:∀ e∈l,EG v T e){n:Nat}(hn:n<l.length):x8 (kG (l.take n)) (jJ (l.getD n .z).b) (lL (kG (l.take n)) (jJ (l.getD n .z).b)):=by
 obtain⟨q1,q2⟩:=aad h1 (λe he=>h e (List.mem_of_mem_take he):∀ e∈l.take n,EG v T e);have he:=h _ (axB (z:=.z) hn);rcases hd:jJ (l.getD n .z).b with _|c
 ·exact akV q1
 ·obtain⟨h4,_⟩:=he.bump hd;exact aqh q1 (h4.up h3 qO) (hg n hn c hd)
end
end
section
structure mG where
 V:Nat->Int->Int
 B:Int->Int
 G:Int->List bH
def LM(g:mG)(l:List bH):Prop:=∀ n,n<l.length->l.take (n+1)=(g.G (l.getD n .z).term).take (n+1)
structure Ext (j:Nat) (g h:mG):Prop where
 own:∀ i,i≠j->h.V i=g.V i
 V:∀ i T,g.V i T≠0->h.V i T=g.V i T
 B:∀ T,h.B T=g.B T\/(g.B T=0/\h.B T=(j:Int)+1)
 G:∀ T,g.G T <+: h.G T
 VN:∀ T,h.G T≠g.G T->h.B T=(j:Int)+1
def Ext.refl(j:Nat)(g:mG):Ext j g g:=⟨λ_ _=>rfl,λ_ _ _=>rfl,λ_=>.inl rfl,λ_=>List.prefix_rfl,λ_ h=>ai rfl h⟩
def Ext.Bup{j:Nat}{g h:mG}(a:Ext j g h){T:Int}(hb:g.B T≠0):h.B T=g.B T:=(a.B T).resolve_right λe=>hb e.1
def Ext.Bdn{j i:Nat}{g h:mG}(a:Ext j g h){T:Int}(hi:i≠j)(hb:h.B T=(i:Int)+1):g.B T=(i:Int)+1:=by
 obtain e|⟨_,e⟩:=a.B T
 ·rw[<-e];exact hb
 ·omega
def adO{α:Type}{l m:List α}(h:l <+: m){n:Nat}(hn:n<=l.length):m.take n=l.take n:=by
 obtain⟨r,rfl⟩:=h;rw[List.take_append_of_le_length hn]
def LM.len{g:mG}{l:List bH}(h:LM g l){n:Nat}(hn:n<l.length):n<(g.G (l.getD n .z).term).length:=by
 have e:=ah List.length (h n hn);rw[dG,dG]at e;omega
def LM.up{g h:mG}(hG:∀ T,g.G T <+: h.G T){l:List bH}(hl:LM g l):LM h l:=λn hn=>by
 rw[adO (hG _) (hl.len hn)];exact hl n hn
def SK{α:Type}{z:α}{l:List α}{n m:Nat}(h:n<m):(l.take m).getD n z=l.getD n z:=by
 rw[bn,bn,nX,if_pos h]
def LM.take{g:mG}{l:List bH}(h:LM g l)(m:Nat):LM g (l.take m):=λn hn=>by
 rw[dG]at hn;rw[SK qO,List.take_take,Nat.min_eq_left qO];exact h n qO
def LM.pre{g:mG}{l m:List bH}(h:LM g m)(hp:l <+: m):LM g l:=by
 rw[List.prefix_iff_eq_take.1 hp];exact h.take _
def LM.nil{g:mG}:LM g []:=λn hn=>ai hn (qh _)
def LM.snoc{g:mG}{l:List bH}{e:bH}(h:LM g l)(hG:(l++[e]) <+: g.G e.term):LM g (l++[e]):=λn hn=>by
 rw[bP]at hn;have hn:n<l.length+1:=hn;by_cases hl:n<l.length
 ·have e1:(l++[e]).getD n .z=l.getD n .z:=by
   rw[bn,bn,lS hl]
  rw[e1,List.take_append_of_le_length qO];exact h n hl
 ·obtain rfl:n=l.length:=qO;have e1:(l++[e]).getD l.length .z=e:=by simp[bn]
  rw[e1,adO hG (by simp)]
def LM.same{g:mG}{l m:List bH}(h:LM g l)(h':LM g m){n:Nat}(hl:n<l.length)(hm:n<m.length)(e:(l.getD n .z).term=(m.getD n .z).term):l.take (n+1)=m.take (n+1):=by
 rw[h n hl,h' n hm,e]
def aiG{α:Type}{z:α}{l m:List α}{n:Nat}(h:l.take (n+1)=m.take (n+1)):l.getD n z=m.getD n z:=by
 rw[<-SK (l:=l) (Nat.lt_succ_self n),h,SK (Nat.lt_succ_self n)]
def aiB{α:Type}{l m:List α}{n p:Nat}(h:l.take n=m.take n)(hp:p<=n):l.take p=m.take p:=by
 have:=ah (List.take p) h;rwa [List.take_take,List.take_take,Nat.min_eq_left hp]at this
def LM.Fb{g:mG}(hg:∀ T,yt (g.G T)){l:List bH}(h:LM g l):yt l:=λn hn c hc=>by
 have e:=h n hn;rw[aiG e]at hc;rw[aiB e (Nat.le_succ n)];exact hg _ n (h.len hn) c hc
def yt.snoc{l:List bH}{e:bH}(h:yt l)(he:∀ c,jJ e.b=some c->jX c.kind<=(kG l).version):yt (l++[e]):=λn hn c hc=>by
 rw[bP]at hn;have hn:n<l.length+1:=hn;by_cases hl:n<l.length
 ·have e1:(l++[e]).getD n .z=l.getD n .z:=by
   rw[bn,bn,lS hl]
  rw[e1]at hc;rw[List.take_append_of_le_length qO];exact h n hl c hc
 ·obtain rfl:n=l.length:=qO;have e1:(l++[e]).getD l.length .z=e:=by simp[bn]
  rw[e1]at hc;rw[List.take_left']
  ·exact he c hc
  ·rfl
def xU(g:mG)(k:Nat)(T:Int)(i:Int):Nat:=(List.range k).countP λm=>decide (g.V m T=i)
def acx{α:Type}(p q:α->Bool):∀ l:List α,l.countP p+l.countP q<=l.length+l.countP (λx=>p x&&q x)
 |[]=>bF _
 |x::l=>by
  have ih:=acx p q l;rw[List.countP_cons,List.countP_cons,List.countP_cons,lT];cases p x <;> cases q x <;> simp <;> omega
def ags{g:mG}{k:Nat}{T a b:Int}(ha:k / 2<xU g k T a)(hb:k / 2<xU g k T b):a=b:=by
 have h:=acx (λm=>decide (g.V m T=a)) (λm=>decide (g.V m T=b)) (List.range k);rw[List.length_range]at h;unfold xU at ha hb;have hp:0<(List.range k).countP (λm=>decide (g.V m T=a)&&decide (g.V m T=b)):=qO;obtain⟨m,_,hm⟩:=List.countP_pos_iff.1 hp;simp at hm;omega
def arG{g h:mG}{j k:Nat}{T:Int}{i:Nat}(a:Ext j g h):xU g k T ((i:Int)+1)<=xU h k T ((i:Int)+1):=by
 unfold xU;refine List.countP_mono_left λm _ hm=>?_
 have hm:=fU hm;exact aX (by rw[a.V m T qO,hm])
def alF(l:List Bool):A7 l=(l.countP id:Nat):=by
 have key:∀(l:List Bool) (n:Int),l.foldl (λn b=>bif b then n+1 else n) n=n+(l.countP id:Nat):=by
  intro l;induction l with
  |nil=>intro n;simp
  |cons b l ih=>
   intro n;rw[List.foldl_cons,ih,List.countP_cons];cases b <;> simp <;> omega
 unfold A7;rw[key];omega
def ajX{g:mG}{k:Nat}{T i:Int}{l:List Bool}(hl:l.length=k)(h:∀ m,l.getD m false=true->g.V m T=i):(A7 l).toNat<=xU g k T i:=by
 rw[alF,jg];have e:l=(List.range k).map (λm=>l.getD m false):=by
  apply List.ext_getElem?;intro m;rw[qQ];by_cases hm:m<k
  ·rw[List.getElem?_range hm,dV qO];simp[bn,dV (show m<l.length by omega)]
  ·rw[List.getElem?_eq_none qO,List.getElem?_eq_none (by rw[List.length_range];omega)];rfl
 rw[e,List.countP_map];unfold xU;exact List.countP_mono_left λm _ hm=>aX (h m hm)
structure nK (k:Nat) (g:mG):Prop where
 Qh:∀ T,g.B T=0\/∃ i:Nat,i<k/\g.B T=(i:Int)+1/\k / 2<xU g k T ((i:Int)+1)
 no:∀ T,g.B T=0->g.G T=[]
 lm:∀ T,LM g (g.G T)
 Fb:∀ T,yt (g.G T)
def dS(n:aA):bC:=(Bc n).1
structure ED (g:mG) (j:Nat) (d:bC):Prop where
 vt:g.V j d.term=d.cu
 v0:∀ T,d.term<T->g.V j T=0
 lm:LM g d.log
 bd:∀ T,g.B T=(j:Int)+1->T<=d.term
structure EU (g:mG) (j:Nat) (n:aA):Prop where
 cu:n.role≠0->n.ae.cu=(j:Int)+1
 Jb:n.role=1->g.B n.ae.term≠(j:Int)+1/\∀ i,n.ig.getD i false=true->g.V i n.ae.term=(j:Int)+1
 lead:n.role=2->g.B n.ae.term=(j:Int)+1/\g.G n.ae.term=n.ae.log
 st:n.st=kG (n.ae.log.take n.dn.toNat)
structure EN (g:mG) (j:Nat) (n:aA):Prop where
 d:ED g j (dS n)
 u:n.aB.down=false->EU g j n
structure EL (g:mG) (x:aV):Prop where
 cu:x.kind=2->x.ok=true->g.V x.src.toNat x.term=x.dst+1
 copy:x.kind=3->g.B x.term≠0/\x.a<=(g.G x.term).length/\mi (g.G x.term) x.a=x.b/\x.l=((g.G x.term).drop x.a.toNat).take x.l.length
section
variable {k i j:Nat} {g h:mG}
def ED.other{d:bC}(a:Ext j g h)(hi:i≠j)(e:ED g i d):ED h i d:=
 ⟨by rw[a.own i hi];exact e.vt,λT hT=>by rw[a.own i hi];exact e.v0 T hT,e.lm.up a.G,λT hT=>e.bd T (a.Bdn hi hT)⟩
def EU.other{n:aA}(a:Ext j g h)(hi:i≠j)(e:EU g i n):EU h i n:=by
 refine⟨e.cu,λhr=>⟨λhb=>(e.Jb hr).1 (a.Bdn hi hb),λm hm=>?_⟩,λhr=>?_,e.st⟩
 ·have:=(e.Jb hr).2 m hm;rw[a.V m _ qO,this]
 ·obtain⟨h1,h2⟩:=e.lead hr;have hb:h.B n.ae.term=(i:Int)+1:=by rw[a.Bup qO,h1]
  refine⟨hb,?_⟩;by_cases hg:h.G n.ae.term=g.G n.ae.term
  ·rw[hg,h2]
  ·have:=a.VN _ hg;omega
def EN.other{n:aA}(a:Ext j g h)(hi:i≠j)(e:EN g i n):EN h i n:=⟨e.d.other a hi,λhu=>(e.u hu).other a hi⟩
def ak6{l m:List bH}(hp:l <+: m){i:Int}(hi:i<=l.length):mi m i=mi l i:=by
 unfold mi;have hl:=hp.length_le;rcases e:decide (i=0) with _|_
 ·have e:=mJ e;rcases e2:decide (i<0) with _|_
  ·have e2:=mJ e2;rw[aT (show ¬(m.length:Int)<i by omega),aT (show ¬(l.length:Int)<i by omega)];have e3:m.getD (i-1).toNat .z=l.getD (i-1).toNat .z:=by
    obtain⟨r,rfl⟩:=hp;rw[bn,bn,lS qO]
   simp only[bz,e3]
  ·rfl
 ·rfl
def EL.up{x:aV}(a:Ext j g h)(hs:0<=x.dst)(ha:0<=x.a)(e:EL g x):EL h x:=by
 refine⟨λhk ho=>?_,λhk=>?_⟩
 ·have:=e.cu hk ho;rw[a.V _ _ qO,this]
 ·obtain⟨h1,h2,h3,h4⟩:=e.copy hk;have hp:=a.G x.term;have hl:=hp.length_le;refine⟨by rw[a.Bup h1];exact h1,by omega,by rw[ak6 hp h2,h3],?_⟩;have hlen:=ah List.length h4;rw[dG,eY]at hlen;obtain⟨r,e1⟩:=hp;rw[<-e1,List.drop_append_of_le_length qO,List.take_append_of_le_length (by rw[eY];omega)];exact h4
def ED.cu{d:bC}{a b:Int}(e:ED g j d)(gl:nK k g)(hf:d.term<a\/(d.term=a/\(d.cu=0\/d.cu=b))) :
  ∃ h,Ext j g h/\nK k h/\h.B=g.B/\h.G=g.G/\ED h j { d with term:=a,cu:=b }:=by
 have ext:Ext j g ⟨λm T=>if m=j/\T=a then b else g.V m T,g.B,g.G⟩:=by
  refine⟨λm hm=>funext λT=>if_neg λhh=>hm hh.1,λm T hv=>?_,λT=>.inl rfl,λT=>List.prefix_rfl,λT hh=>ai rfl hh⟩;show(if m=j/\T=a then b else g.V m T)=g.V m T;split
  ·rename_i hh
   obtain⟨rfl,rfl⟩:=hh;obtain hf|⟨hf,hv2⟩:=hf
   ·exact ai (e.v0 _ hf) hv
   ·rw[<-hf,e.vt]at hv ⊢;obtain hv2|hv2:=hv2
    ·exact ai hv2 hv
    ·exact hv2.symm
  ·rfl
 refine⟨_,ext,?_,rfl,rfl,?_⟩
 ·exact⟨λT=>(gl.Qh T).imp id λ⟨i,h1,h2,h3⟩=>⟨i,h1,h2,sV h3 (arG ext)⟩,gl.no,gl.lm,gl.Fb⟩
 ·refine⟨if_pos ⟨rfl,rfl⟩,λT hT=>?_,e.lm,λT hT=>?_⟩
  ·have hT:a<T:=hT;show(if j=j/\T=a then b else g.V j T)=0;rw[if_neg qO];exact e.v0 T qO
  ·have:=e.bd T hT;show T<=a;omega
end
end
section
def OM{m n:aA}(e:m.aB.b=n.aB.b):dS m=dS n:=by
 unfold dS Bc;rw[e]
def Og{v T:Int}{n:aA}{L:List aP}{t:List UInt8}(h:DG v T n.aB L t):dS n=fJ L:=ah Prod.fst h.laid.vk
def lQ.dS{k:Nat}{v T:Int}{fl:Nat->Int}{j:Nat}{n:aA}{L:List aP}{t:List UInt8}(h:lQ k v T fl j n L t)(hu:n.aB.down=false):n.ae=Go.Proofs.YtnibdnahojjcgaaGreat.dS n:=by
 rw[Og h.dg,(h.up hu).ae]
structure SD (n:aA) (R:List aP):Prop where
 ex:∃ i,dS (aS n R).1=(steps n.ae (R.take i)).1
 ok:(aS n R).2=0->dS (aS n R).1=(steps n.ae R).1/\(aS n R).1.ae=(steps n.ae R).1/\(aS n R).1.aB.down=false
 bad:(aS n R).2≠0->(aS n R).1.ae=n.ae/\((aS n R).1.aB=n.aB\/(aS n R).1.aB.down=true)
def aff{v T:Int}{n:aA}{L R:List aP}(hd:DG v T n.aB L [])(hs:n.ae=fJ L)(hu:n.aB.down=false)(hR:∀ r∈R,RG v T r)(hst:(steps n.ae R).2=0):SD n R:=by
 obtain⟨i,t',h1,h2,h3⟩:=(Ru hd hs hu hR hst).ex;have e:dS (aS n R).1=(steps n.ae (R.take i)).1:=by rw[Og h1,Si hd.laid.ok,<-hs]
 refine⟨⟨i,e⟩,λh0=>?_,λh0=>⟨(h3 h0).1,(h3 h0).2.imp (·.1) id⟩⟩;obtain⟨q1,q2,q3,q4⟩:=h2 h0;refine⟨?_,q4,q3⟩;rw[e,q1,mM]
def lQ.SD{k:Nat}{v T:Int}{fl:Nat->Int}{j:Nat}{n:aA}{L:List aP}{t:List UInt8}(h:lQ k v T fl j n L t)(hu:n.aB.down=false){R:List aP}(hR:∀ r∈R,RG v T r)(hst:(steps n.ae R).2=0):Go.Proofs.YtnibdnahojjcgaaGreat.SD n R:=by
 have u:=h.up hu;obtain rfl:=u.t;exact aff h.dg u.ae hu hR hst
def XO(n:aA):aS n []=(n,0):=rfl
def adE(s:bC)(r:aP):(ku s r).1=mZ s r\/(ku s r).1=s:=by
 unfold ku;split
 ·split
  ·exact .inl rfl
  ·exact .inr rfl
 ·exact .inr rfl
def Jw{P:bC->Prop}:∀ {R:List aP} {s:bC},P s->(∀ r∈R,∀ q,P q->P (mZ q r))->P (steps s R).1
 |[],s,h,_=>h
 |r::R,s,h,hr=>by
  have h1:P (ku s r).1:=by
   obtain e|e:=adE s r
   ·rw[e];exact hr r jL s h
   ·rw[e];exact h
  unfold Go.Proofs.YtnibdnahojjcgaaGreat.steps;by_cases h0:(ku s r).2=0
  ·rw[if_pos h0];exact Jw h1 λx hx=>hr x (jA _ hx)
  ·rw[if_neg h0];obtain e|e:=adE s r
   ·first|exact h1|exact h
   ·first|exact h1|exact h
def ahV{s:bC}{r:aP}(k:r.kind=1):mZ s r={ s with floor:=r.a }:=by unfold mZ;rw[if_pos k]
def aaU{s:bC}{r:aP}(k:r.kind=2):mZ s r={ s with term:=r.a,cu:=r.b }:=by unfold mZ;rw[if_neg qO,if_pos k]
def aaT{s:bC}{r:aP}(k:r.kind=3):mZ s r={ s with log:=s.log++[⟨r.b,r.x⟩] }:=by unfold mZ;rw[if_neg qO,if_neg qO,if_pos k]
def aaS{s:bC}{r:aP}(k:r.kind=4):mZ s r={ s with log:=s.log.take (r.a-1).toNat }:=by unfold mZ;rw[if_neg qO,if_neg qO,if_neg qO]
def arv{R:List aP}{s:bC}(h:∀ r∈R,r.kind=3)(i:Nat)(h0:(steps s R).2=0):(steps s (R.take i)).1.log <+: (steps s R).1.log:=by
 have e:(steps s R).1=(steps (steps s (R.take i)).1 (R.drop i)).1:=by
  rw[<-DY _ _ _ (MX h0 i),List.take_append_drop]
 rw[e];refine Jw (P:=λq=>(steps s (R.take i)).1.log <+: q.log) List.prefix_rfl λr hr q hq=>?_
 rw[aaT (h r (List.mem_of_mem_drop hr))];exact hq.trans (List.prefix_append _ _)
def arA{R:List aP}{s:bC}(h:∀ r∈R,r.kind=2\/r.kind=4):(steps s R).1.log <+: s.log:=by
 refine Jw (P:=λq=>q.log <+: s.log) List.prefix_rfl λr hr q hq=>?_
 obtain k|k:=h r hr
 ·rw[aaU k];exact hq
 ·rw[aaS k];exact(List.take_prefix _ _).trans hq
def aqV{A M:List aP}{s:bC}(hA:∀ r∈A,r.kind=2\/r.kind=4)(hM:∀ r∈M,r.kind=3)(h0:(steps s (A++M)).2=0)(i:Nat) :
  (steps s ((A++M).take i)).1.log <+: s.log\/(steps s ((A++M).take i)).1.log <+: (steps s (A++M)).1.log:=by
 have hA0:(steps s A).2=0:=by
  have:=MX h0 A.length;rwa [List.take_left]at this
 rw[List.take_append];by_cases hi:i<=A.length
 ·left;rw[show i-A.length=0 by omega,List.take_zero,pO];exact arA λr hr=>hA r (List.mem_of_mem_take hr)
 ·right;rw[jU qO,DY _ _ _ hA0,DY _ _ _ hA0];refine arv hM _ ?_;rw[<-DY _ _ _ hA0];exact h0
def ak7{R:List aP}{s:bC}{c:Nat}(hc:c<=s.log.length)(h:∀ r∈R,r.kind=4->¬r.a<=c)(hk:∀ r∈R,1<=r.kind/\r.kind<=4):c<=(steps s R).1.log.length/\(steps s R).1.log.take c=s.log.take c:=by
 refine Jw (P:=λq=>c<=q.log.length/\q.log.take c=s.log.take c) ⟨hc,rfl⟩ λr hr q ⟨q1,q2⟩=>?_
 have hk:=hk r hr;have fF:r.kind=1\/r.kind=2\/r.kind=3\/r.kind=4:=qO;obtain k|k|k|k:=fF
 ·rw[ahV k];exact⟨q1,q2⟩
 ·rw[aaU k];exact⟨q1,q2⟩
 ·rw[aaT k];refine⟨?_,?_⟩
  ·show c<=(q.log++[_]).length;rw[bP];omega
  ·show(q.log++[_]).take c=_;rw[List.take_append_of_le_length q1];exact q2
 ·rw[aaS k];have:=h r hr k;refine⟨?_,?_⟩
  ·show c<=(q.log.take _).length;rw[dG];omega
  ·show(q.log.take _).take c=_;rw[List.take_take,Nat.min_eq_left qO];exact q2
def noV{R:List aP}{s:bC}(h:∀ r∈R,r.kind=3\/r.kind=4):(steps s R).1.term=s.term/\(steps s R).1.cu=s.cu:=by
 refine Jw (P:=λq=>q.term=s.term/\q.cu=s.cu) ⟨rfl,rfl⟩ λr hr q hq=>?_
 obtain k|k:=h r hr
 ·rw[aaT k];exact hq
 ·rw[aaS k];exact hq
def Q5{s:bC}{a b:Int}(h:(steps s (jh a b)).2=0):(steps s (jh a b)).1={ s with term:=a,cu:=b }:=by
 unfold jh at h ⊢;unfold Go.Proofs.YtnibdnahojjcgaaGreat.steps at h ⊢;by_cases h0:(ku s ⟨2,a,b,[]⟩).2=0
 ·rw[if_pos h0]at h ⊢;obtain⟨_,_,e⟩:=YF h0;rw[e,aaU rfl];rfl
 ·rw[if_neg h0]at h;exact ai h h0
structure EO (k:Nat) (g:mG) (j:Nat) (n:aA) (l:List aV):Prop where
 ex:∃ h,Ext j g h/\nK k h/\EN h j n/\∀ x∈l,EL h x
section
variable {k:Nat} {v T:Int} {fl:Nat->Int} {j:Nat} {n:aA} {L:List aP} {t:List UInt8} {g:mG}
def ED.of{d d':bC}(e:ED g j d)(h1:d'.term=d.term)(h2:d'.cu=d.cu)(h3:LM g d'.log):ED g j d':=
 ⟨by rw[h1,h2];exact e.vt,λT hT=>e.v0 T (by rw[<-h1];exact hT),h3,λT hT=>by rw[h1];exact e.bd T hT⟩
def ED.au0{d:bC}{a:Int}(e:ED g j d)(h:d.term<a){l:List bH}(hl:LM g l):ED g j { d with term:=a,cu:=0,log:=l }:=
 ⟨e.v0 a h,λT hT=>e.v0 T (by have hT:a<T:=hT;omega),hl,λT hT=>by have:=e.bd T hT;show T<=a;omega⟩
def EU.zero{g:mG}(hr:n.role=0)(hs:n.st=kG (n.ae.log.take n.dn.toNat)):EU g j n:=⟨λh=>ai hr h,λh=>by omega,λh=>by omega,hs⟩
def EU.of{m:aA}(e:EU g j n)(h1:m.role=n.role)(h2:m.ae=n.ae)(h3:m.ig=n.ig)(h4:m.dn=n.dn)(h5:m.st=n.st):EU g j m:=
 ⟨by rw[h1,h2];exact e.cu,by rw[h1,h2,h3];exact e.Jb,by rw[h1,h2];exact e.lead,by rw[h2,h4,h5];exact e.st⟩
def EN.of{m:aA}(e:EN g j n)(h0:m.aB=n.aB)(h1:m.role=n.role)(h2:m.ae=n.ae)(h3:m.ig=n.ig)(h4:m.dn=n.dn)(h5:m.st=n.st):EN g j m:=
 ⟨by rw[OM (m:=m) (n:=n) (by rw[h0])];exact e.d,λhu=>(e.u (by rw[<-h0];exact hu)).of h1 h2 h3 h4 h5⟩
def EN.fail(e:EN g j n)(gl:nK k g){R:List aP}(hs:SD n R)(h0:(aS n R).2≠0)(HD:∀ i,∃ h,Ext j g h/\nK k h/\ED h j (steps n.ae (R.take i)).1):∃ h,Ext j g h/\nK k h/\EN h j (aS n R).1:=by
 obtain⟨q1,q2⟩:=hs.bad h0;obtain q2|q2:=q2
 ·exact⟨g,Ext.refl j g,gl,e.of q2 rfl q1 rfl rfl rfl⟩
 ·obtain⟨i,hi⟩:=hs.ex;obtain⟨h,a1,a2,a3⟩:=HD i;exact⟨h,a1,a2,by rw[hi];exact a3,λhu=>by rw[q2]at hu;cases hu⟩
def adu{α:Type}(l:List α)(q:Nat):l.take q=l.take (l.take q).length:=by
 rw[dG];by_cases h:q<=l.length
 ·rw[Nat.min_eq_left h]
 ·rw[Nat.min_eq_right qO,mM,jU qO]
def aoq(h0:0<=n.dn)(hs:n.st=kG (n.ae.log.take n.dn.toNat)):(applyN n (jS n)).st=kG ((applyN n (jS n)).ae.log.take (applyN n (jS n)).dn.toNat):=by
 show(nU n.st (jS n)).1=kG (n.ae.log.take (n.dn+((jS n).length:Nat)).toNat);rw[show(n.dn+((jS n).length:Nat)).toNat=n.dn.toNat+(jS n).length by omega,List.take_add,hs];unfold kG;rw[List.map_append,aqb];congr 2;unfold jS;rw[lZ,<-adu]
def EN.dn(e:EN g j n)(h0:0<=n.dn){c:Int}:EN g j (applyN { n with dN:=c } (jS { n with dN:=c })):=
 ⟨e.d,λhu=>⟨(e.u hu).cu,(e.u hu).Jb,(e.u hu).lead,aoq (n:={ n with dN:=c }) h0 (e.u hu).st⟩⟩
def EU.copy(e:EU g j n)(hr:n.role=2){d:Int}(hx:1<=n.next.getD d.toNat 0/\n.next.getD d.toNat 0<=(n.ae.log.length:Int)+1):EL g (oW n d):=by
 obtain⟨h1,h2⟩:=e.lead hr;refine⟨λhk=>ai (show(3:Int)=2 from hk) qD,λ_=>⟨?_,?_,?_,?_⟩⟩
 ·show g.B n.ae.term≠0;omega
 ·show n.next.getD d.toNat 0-1<=((g.G n.ae.term).length:Int)
  rw[h2];omega
 ·show mi (g.G n.ae.term) (n.next.getD d.toNat 0-1)=mi n.ae.log (n.next.getD d.toNat 0-1);rw[h2]
 ·show zh n.ae.log (n.next.getD d.toNat 0-1) 4=((g.G n.ae.term).drop (n.next.getD d.toNat 0-1).toNat).take (zh n.ae.log (n.next.getD d.toNat 0-1) 4).length;rw[h2,ack qO];exact adu _ _
def EU.G7(e:EU g j n)(h:NG k v T fl j n L t)(hu:n.aB.down=false):∀ x∈(lu n k).1,EL g x:=by
 unfold lu;rw[hu];rcases hr:decide (n.role=2) with _|_
 ·exact nofun
 ·have hr:=fU hr;intro x hx;obtain⟨d,hd,rfl⟩:=List.mem_map.1 (show x∈(jb n k).map (oW n) from hx);have ho:=WE hd h.g.me;exact e.copy hr ((h.vg hu).next hr d.toNat qO qO)
def nK.lead(gl:nK k g){l l':List bH}{U:Int}(hlm:LM g l)(hj:j<k)(hB:(g.B U=(j:Int)+1/\g.G U=l)\/(g.B U≠(j:Int)+1/\k / 2<xU g k U ((j:Int)+1)))
  (hl:l'=l\/∃ e:bH,l'=l++[e]/\e.term=U/\∀ c,jJ e.b=some c->jX c.kind<=(kG l).version) :
  ∃ h,Ext j g h/\nK k h/\h.V=g.V/\h.B U=(j:Int)+1/\h.G U=l'/\LM h l'/\∀ S,h.B S=(j:Int)+1->S=U\/g.B S=(j:Int)+1:=by
 have hpl:l <+: l':=by
  obtain rfl|⟨e,rfl,_⟩:=hl
  ·exact List.prefix_rfl
  ·exact List.prefix_append _ _
 have hG:g.G U <+: l':=by
  obtain⟨_,h⟩|⟨h1,h2⟩:=hB
  ·rw[h];exact hpl
  ·obtain h|⟨i,_,h3,h4⟩:=gl.Qh U
   ·rw[gl.no U h];exact List.nil_prefix
   ·have:=ags h2 h4;exact ai (by rw[h3,<-this]) h1
 have hB0:g.B U=(j:Int)+1\/g.B U=0:=by
  obtain⟨h,_⟩|⟨h1,h2⟩:=hB
  ·exact .inl h
  ·obtain h|⟨i,_,h3,h4⟩:=gl.Qh U
   ·exact .inr h
   ·have:=ags h2 h4;exact ai (by rw[h3,<-this]) h1
 have ext:Ext j g ⟨g.V,λS=>if S=U then(j:Int)+1 else g.B S,λS=>if S=U then l' else g.G S⟩:=by
  refine⟨λ_ _=>rfl,λ_ _ _=>rfl,λS=>?_,λS=>?_,λS hS=>?_⟩
  ·show(if S=U then(j:Int)+1 else g.B S)=g.B S\/(g.B S=0/\(if S=U then(j:Int)+1 else g.B S)=(j:Int)+1);split
   ·rename_i e
    subst e;obtain h|h:=hB0
    ·exact .inl h.symm
    ·exact .inr ⟨h,rfl⟩
   ·exact .inl rfl
  ·show g.G S <+: if S=U then l' else g.G S
   split
   ·rename_i e;rw[e];exact hG
   ·exact List.prefix_rfl
  ·show(if S=U then(j:Int)+1 else g.B S)=_;have hS:(if S=U then l' else g.G S)≠g.G S:=hS;split
   ·rfl
   ·rename_i e;rw[if_neg e]at hS;exact ai rfl hS
 have aia:LM (⟨g.V,λS=>if S=U then(j:Int)+1 else g.B S,λS=>if S=U then l' else g.G S⟩:mG) l':=by
  obtain rfl|⟨e,rfl,he,_⟩:=hl
  ·exact hlm.up ext.G
  ·refine LM.snoc (hlm.up ext.G) ?_;show _ <+: if e.term=U then _ else _
   rw[if_pos he];exact List.prefix_rfl
 refine⟨_,ext,⟨λS=>?_,λS hS=>?_,λS=>?_,λS=>?_⟩,rfl,if_pos rfl,if_pos rfl,aia,λS hS=>?_⟩
 ·show(if S=U then(j:Int)+1 else g.B S)=0\/∃ i:Nat,i<k/\(if S=U then(j:Int)+1 else g.B S)=(i:Int)+1/\k / 2<xU g k S ((i:Int)+1);split
  ·rename_i e
   subst e;refine .inr ⟨j,hj,rfl,?_⟩;obtain⟨h,_⟩|⟨_,h⟩:=hB
   ·obtain h1|⟨i,_,h3,h4⟩:=gl.Qh S
    ·omega
    ·rw[show(j:Int)+1=(i:Int)+1 by omega];exact h4
   ·exact h
  ·exact gl.Qh S
 ·have hS:(if S=U then(j:Int)+1 else g.B S)=0:=hS;show(if S=U then l' else g.G S)=[];split at hS
  ·omega
  ·rename_i e;rw[if_neg e];exact gl.no S hS
 ·show LM _ (if S=U then l' else g.G S);split
  ·exact aia
  ·exact(gl.lm S).up ext.G
 ·show yt (if S=U then l' else g.G S);split
  ·have h:=hlm.Fb gl.Fb;obtain rfl|⟨e,rfl,_,he⟩:=hl
   ·exact h
   ·exact h.snoc he
  ·exact gl.Fb S
 ·have hS:(if S=U then(j:Int)+1 else g.B S)=(j:Int)+1:=hS;by_cases e:S=U
  ·exact .inl e
  ·rw[if_neg e]at hS;exact .inr hS
end
end
section
def VF(s:bC)(R:List aP):Prop:=R=[]\/∃ a b,R=jh a b/\(s.term<a\/(s.term=a/\(s.cu=0\/s.cu=b)))
def adY(s:bC)(a:Int):VF s (gW s a):=by
 unfold gW;rcases h:decide (a<=s.term) with _|_
 ·have h:=mJ h;exact .inr ⟨a,0,rfl,.inl qO⟩
 ·exact .inl rfl
def RH{s:bC}{a:Int}(h:a<=s.term):gW s a=[]:=by
 unfold gW;rw[aX h];rfl
def ag1{s:bC}{x:aV}(h:G9 s x=false):s.term<=x.term/\(s.term<x.term\/s.cu=0\/s.cu=x.src+1):=by
 unfold G9 at h;rcases e1:decide (x.term<s.term) with _|_ <;> rw[e1]at h
 ·have e1:=mJ e1;refine⟨by omega,?_⟩;rcases e2:decide (s.term<x.term) with _|_ <;> rw[e2]at h
  ·rcases e3:decide (s.cu=0) with _|_ <;> rw[e3]at h
   ·rcases e4:decide (s.cu=x.src+1) with _|_ <;> rw[e4]at h
    ·exact ai h (by simp)
    ·exact .inr (.inr (fU e4))
   ·exact .inr (.inl (fU e3))
  ·exact .inl (fU e2)
 ·exact ai h (by simp)
def atI(s:bC)(x:aV):VF s (jG s x).1:=by
 unfold jG;rcases h:G9 s x with _|_
 ·obtain⟨h1,h2⟩:=ag1 h;simp only[bz];rcases e:(bif decide (x.term=s.term) then decide (s.cu=x.src+1) else false) with _|_
  ·exact .inr ⟨x.term,x.src+1,rfl,by omega⟩
  ·exact .inl rfl
 ·exact adY s x.term
def alz{s:bC}{x:aV}(h:(jG s x).2=true)(h0:(steps s (jG s x).1).2=0):(steps s (jG s x).1).1.term=x.term/\(steps s (jG s x).1).1.cu=x.src+1:=by
 unfold jG at h h0 ⊢;rcases e:G9 s x with _|_ <;> rw[e]at h h0
 ·simp only[bz]at h h0 ⊢;rcases e2:(bif decide (x.term=s.term) then decide (s.cu=x.src+1) else false) with _|_ <;> rw[e2]at h0
  ·rw[bz]at h0 ⊢;rw[Q5 h0];exact⟨rfl,rfl⟩
  ·rcases e3:decide (x.term=s.term) with _|_ <;> rw[e3]at e2
   ·cases e2
   ·exact⟨(fU e3).symm,fU e2⟩
 ·cases h
def ar0{s:bC}{x:aV}{j:Nat}(ht:x.term<=s.term)(hv:s.cu=(j:Int)+1)(hs:x.src≠j):(jG s x).1=[]:=by
 unfold jG;rcases e:G9 s x with _|_
 ·have:=ag1 e;omega
 ·exact RH ht
section
variable {k:Nat} {v T:Int} {fl:Nat->Int} {j:Nat} {n:aA} {L:List aP} {t:List UInt8} {g:mG}
def af6(gl:nK k g){d:bC}(e:ED g j d){R:List aP}(hf:VF d R)(h0:(steps d R).2=0)(i:Nat):∃ h,Ext j g h/\nK k h/\ED h j (steps d (R.take i)).1:=by
 obtain rfl|⟨a,b,rfl,hf⟩:=hf
 ·rw[List.take_nil];exact⟨g,Ext.refl j g,gl,e⟩
 ·cases i with
  |zero=>exact⟨g,Ext.refl j g,gl,e⟩
  |succ i=>
   rw[jU (show(jh a b).length<=i+1 from Nat.succ_le_succ (cZ i)),Q5 h0];obtain⟨h,h1,h2,_,_,h3⟩:=e.cu gl hf;exact⟨h,h1,h2,h3⟩
def EN.IE(h:NG k v T fl j n L t)(hu:n.aB.down=false)(e:EN g j n)(gl:nK k g){R:List aP}{a:Int}(hR:VR v T n.ae R a)(hf:VF n.ae R)(h0:n.role≠0->R=[]) :
  ∃ u,Ext j g u/\nK k u/\EN u j (aS n R).1:=by
 have hd:=h.g.dS hu;have ed:ED g j n.ae:=by rw[hd];exact e.d
 by_cases hr:n.role=0
 ·have hs:=h.g.SD hu hR.rg hR.ok;have HD:=af6 gl ed hf hR.ok;by_cases hq:(aS n R).2=0
  ·obtain⟨q1,q2,q3⟩:=hs.ok hq;obtain⟨u,u1,u2,u3⟩:=HD R.length;rw[mM]at u3;refine⟨u,u1,u2,by rw[q1];exact u3,λ_=>EU.zero hr ?_⟩;show n.st=kG ((aS n R).1.ae.log.take n.dn.toNat);rw[q2,hR.log];exact(e.u hu).st
  ·exact e.fail gl hs hq HD
 ·rw[h0 hr,XO];exact⟨g,Ext.refl j g,gl,e⟩
def EN.ask(h:NG k v T fl j n L t)(E:Env k v T fl j)(hu:n.aB.down=false)(e:EN g j n)(gl:nK k g){x:aV}(hx:LG k v T fl x)(hd:x.dst=n.me)(hrc:n.ae.term<x.term->n.role=0):EO k g j (yA n x).1 (yA n x).2.1:=by
 have hR:VR v T n.ae (jG n.ae x).1 _:=ag0 hx.ok E.T0.2 hx.term;have hs:=h.g.SD hu hR.rg hR.ok;have hne:=hx.ok.ne;have zX:=hx.ok.src;have qy:=h.g.me;obtain⟨u,u1,u2,u3⟩:=e.IE h hu gl hR (atI _ _) λhr=>ar0 (Int.not_lt.1 λhlt=>hr (hrc hlt)) ((e.u hu).cu hr) qO
 unfold yA;by_cases hq:(aS n (jG n.ae x).1).2=0
 ·rw[aX hq];refine⟨u,u1,u2,u3,λy hy=>?_⟩;obtain rfl:=List.mem_singleton.1 hy;refine⟨λ_ ho=>?_,λhk=>ai (show(2:Int)=3 from hk) qD⟩;have ho:(jG n.ae x).2=true:=ho;obtain⟨q1,q2,q3⟩:=hs.ok hq;obtain⟨r1,r2⟩:=alz ho hR.ok;show u.V n.me.toNat (aS n (jG n.ae x).1).1.ae.term=x.src+1;have:=u3.d.vt;rw[q1,r2,r1]at this;rw[q2,r1,show n.me.toNat=j by omega];exact this
 ·rw[aT hq];exact⟨u,u1,u2,u3,nofun⟩
def ake(s:bC)(x:aV):∃ C M,(bg s x).1=gW s x.term++(C++M)/\(∀ r∈C,r.kind=4)/\(∀ r∈M,r.kind=3):=by
 unfold bg;rcases e1:decide (x.term<s.term) with _|_
 ·rcases e2:decide (mi s.log x.a=x.b) with _|_
  ·exact⟨[],[],by simp,nofun,nofun⟩
  ·refine⟨tV (oQ s.log x.a.toNat x.l).1,oJ (x.a+x.l.length-(oQ s.log x.a.toNat x.l).2.length) (oQ s.log x.a.toNat x.l).2,?_,λr hr=>?_,λr hr=>?_⟩
   ·simp only[bz,Bool.not_true];rw[jV]
   ·unfold tV at hr;cases h:decide ((oQ s.log x.a.toNat x.l).1=0) <;> rw[h]at hr
    ·obtain rfl:=List.mem_singleton.1 hr;rfl
    ·cases hr
   ·obtain⟨i,_,rfl⟩:=Xl hr;rfl
 ·refine⟨[],[],?_,nofun,nofun⟩;rw[RH (by have:=fU e1;omega)];rfl
def LM.copied(gl:nK k g){s:bC}{x:aV}(hl:LM g s.log)(hx:LG k v T fl x)(hk:x.kind=3)(ex:EL g x)(hR:TK v T s x (bg s x)):LM g (steps s (bg s x).1).1.log:=by
 obtain⟨h1,h2,h3,h4⟩:=ex.copy hk;have hG:=gl.lm x.term;have hxa:=hx.ok.a;rcases hf:(bg s x).2.1 with _|_
 ·rw[hR.log hf];exact hl
 ·obtain⟨l1,l2,m,m1,m2,m3,m4⟩:=hR.awM hf;have hlen:=ah List.length h4;rw[dG,eY]at hlen;have hG2:x.a.toNat+x.l.length<=(g.G x.term).length:=qO;have hat:∀ i,i<x.l.length->x.l.getD i .z=(g.G x.term).getD (x.a.toNat+i) .z:=λi hi=>by
   rw[h4,SK hi,bn,bn,rP]
  have hpre:s.log.take (x.a.toNat+m)=(g.G x.term).take (x.a.toNat+m):=by
   cases m with
   |zero=>
    by_cases ha:x.a=0
    ·rw[ha];rfl
    ·have e1:mi s.log x.a=(s.log.getD (x.a-1).toNat .z).term:=by
      unfold mi;rw[aT ha,aT (show ¬x.a<0 by omega),aT (show ¬(s.log.length:Int)<x.a by omega)];rfl
     have e2:mi (g.G x.term) x.a=((g.G x.term).getD (x.a-1).toNat .z).term:=by
      unfold mi;rw[aT ha,aT (show ¬x.a<0 by omega),aT (show ¬((g.G x.term).length:Int)<x.a by omega)];rfl
     have:=hl.same hG (n:=(x.a-1).toNat) qO qO (by rw[<-e1,<-e2,l2,h3]);rwa [show(x.a-1).toNat+1=x.a.toNat+0 by omega]at this
   |succ m=>
    have:=hl.same hG (n:=x.a.toNat+m) qO qO (by rw[m3 m (Nat.lt_succ_self m),hat m qO]);exact this
  obtain⟨_,m4⟩|m4:=m4
  ·rw[m4];exact hl
  ·rw[m4,hpre];have e:∀ q,x.l=((g.G x.term).drop x.a.toNat).take q->m<=q->(g.G x.term).take (x.a.toNat+m)++x.l.drop m=(g.G x.term).take (x.a.toNat+q):=λq hq hmq=>by
    have e2:(g.G x.term).take ((x.a.toNat+m)+(q-m))=_:=List.take_add;rw[hq,List.drop_take,List.drop_drop,show x.a.toNat+q=(x.a.toNat+m)+(q-m) by omega,e2]
   rw[e _ h4 m1];exact hG.take _
def akf(gl:nK k g){s:bC}{x:aV}(e:ED g j s)(hx:LG k v T fl x)(hk:x.kind=3)(ex:EL g x)(hR:TK v T s x (bg s x))(i:Nat):ED g j (steps s ((bg s x).1.take i)).1:=by
 obtain⟨C,M,h1,h2,h3⟩:=ake s x;have hlm:=e.lm.copied gl hx hk ex hR;have hN:∀ r∈gW s x.term,r.kind=2:=λr hr=>by
  unfold gW at hr;cases h:decide (x.term<=s.term) <;> rw[h]at hr
  ·obtain rfl:=List.mem_singleton.1 hr;rfl
  ·cases hr
 have GR:LM g (steps s ((bg s x).1.take i)).1.log:=by
  have e1:(bg s x).1=(gW s x.term++C)++M:=by rw[h1,jV]
  have:=aqV (A:=gW s x.term++C) (M:=M) (s:=s) (λr hr=>(List.mem_append.1 hr).imp (hN r) (h2 r)) h3 (by rw[<-e1];exact hR.ok) i;rw[<-e1]at this;obtain q|q:=this
  ·exact e.lm.pre q
  ·exact hlm.pre q
 by_cases ht:x.term<=s.term
 ·rw[h1,RH ht,List.nil_append]at GR ⊢;obtain⟨q1,q2⟩:=noV (R:=(C++M).take i) (s:=s) λr hr=>by
   obtain hr|hr:=List.mem_append.1 (List.mem_of_mem_take hr)
   ·exact .inr (h2 r hr)
   ·exact .inl (h3 r hr)
  exact e.of q1 q2 GR
 ·have en:gW s x.term=jh x.term 0:=by
   unfold gW;rw[aT ht];rfl
  have h0:=hR.ok;rw[h1,en]at h0;rw[h1,en]at GR ⊢;cases i with
  |zero=>exact e
  |succ i=>
   have hv0:(steps s (jh x.term 0)).2=0:=by
    have:=MX h0 1;rwa [show(jh x.term 0++(C++M)).take 1=jh x.term 0 from rfl]at this
   have e2:(jh x.term 0++(C++M)).take (i+1)=jh x.term 0++(C++M).take i:=rfl;rw[e2,DY _ _ _ hv0,Q5 hv0]at GR ⊢;obtain⟨q1,q2⟩:=noV (R:=(C++M).take i) (s:={ s with term:=x.term,cu:=0 }) λr hr=>by
    obtain hr|hr:=List.mem_append.1 (List.mem_of_mem_take hr)
    ·exact .inr (h2 r hr)
    ·exact .inl (h3 r hr)
   exact(e.au0 (a:=x.term) qO e.lm).of q1 q2 GR
def EN.MB(h:NG k v T fl j n L t)(E:Env k v T fl j)(hu:n.aB.down=false)(e:EN g j n)(gl:nK k g){x:aV}(hx:LG k v T fl x)(hk:x.kind=3)(ex:EL g x)(hcut:∀ r∈(bg n.ae x).1,r.kind=4->¬r.a<=n.dN)(hrc:n.ae.term<x.term->n.role=0) :
  EO k g j (vP n x (pW n x)).1 (vP n x (pW n x)).2.1:=by
 have wC:pW n x=jS (Dv (ny (aS n (bg n.ae x).1).1 x) x (bg n.ae x).2.2):=by
  unfold pW;rw[aX hk];rfl
 rw[wC];have hR:=ae7 h.g.log hx hk E.T0;have sH:=h.g.ap;have hs:=h.g.SD hu hR.rg hR.ok;have hd:=h.g.dS hu;have ed:ED g j n.ae:=by rw[hd];exact e.d
 have HD:∀ i,ED g j (steps n.ae ((bg n.ae x).1.take i)).1:=akf gl ed hx hk ex hR;have hkeep:∀ {q:Nat},q<=n.dN.toNat->(steps n.ae (bg n.ae x).1).1.log.take q=n.ae.log.take q:=λ{q} hq=>by
  refine(ak7 (c:=q) qO (λr hr hk4=>?_) λr hr=>?_).2
  ·have:=hcut r hr hk4;omega
  ·have:=agr (hR.rg r hr).ok;omega
 unfold vP;by_cases hq:(aS n (bg n.ae x).1).2=0
 ·rw[aX hq];obtain⟨q1,q2,q3⟩:=hs.ok hq;have hD:=HD (bg n.ae x).1.length;rw[mM,<-q1]at hD;have zF:(aS n (bg n.ae x).1).1.ae.term=max n.ae.term x.term:=by rw[q2];exact hR.term
  have hst:n.st=kG ((aS n (bg n.ae x).1).1.ae.log.take n.dn.toNat):=by
   rw[q2,hkeep qO];exact(e.u hu).st
  have hF:EN g j (ny (aS n (bg n.ae x).1).1 x):=by
   refine⟨hD,λ_=>?_⟩;by_cases hr:x.term=(aS n (bg n.ae x).1).1.ae.term
   ·refine EU.zero ?_ hst;show(bif decide (x.term=(aS n (bg n.ae x).1).1.ae.term) then 0 else n.role)=0;rw[aX hr];rfl
   ·have hlt:x.term<n.ae.term:=by rw[zF]at hr;omega
    have e0:(bg n.ae x).1=[]:=by
     unfold bg;rw[aX hlt];rfl
    have eq:(aS n (bg n.ae x).1).1=n:=by rw[e0,XO]
    refine(e.u hu).of ?_ ?_ rfl rfl rfl
    ·show(bif decide (x.term=(aS n (bg n.ae x).1).1.ae.term) then 0 else n.role)=n.role;rw[aT hr];rfl
    ·show(aS n (bg n.ae x).1).1.ae=n.ae;rw[eq]
  have l4:∀ y:aV,y.kind=4->EL g y:=λy hy=>⟨λhk=>by omega,λhk=>by omega⟩
  rcases hf:(bg n.ae x).2.1 with _|_
  ·cases hr:decide (x.term=(aS n (bg n.ae x).1).1.ae.term)
   ·refine⟨g,Ext.refl j g,gl,hF,λy hy=>?_⟩;obtain rfl:=List.mem_singleton.1 hy;exact l4 _ rfl
   ·refine⟨g,Ext.refl j g,gl,hF,λy hy=>?_⟩;obtain rfl:=List.mem_singleton.1 hy;exact l4 _ rfl
  ·refine⟨g,Ext.refl j g,gl,?_,λy hy=>?_⟩
   ·exact hF.dn (c:=max n.dN (min x.c (bg n.ae x).2.2)) sH.1
   ·obtain rfl:=List.mem_singleton.1 hy;exact l4 _ rfl
 ·rw[aT hq];obtain⟨u,u1,u2,u3⟩:=e.fail gl hs hq λi=>⟨g,Ext.refl j g,gl,HD i⟩
  exact⟨u,u1,u2,u3,nofun⟩
end
end
section
section
variable {k:Nat} {v T:Int} {fl:Nat->Int} {j:Nat} {n b:aA} {L:List aP} {t:List UInt8} {g:mG}
def leads(gl:nK k g)(hj:j<k)(ed:ED g j b.ae)(hv:b.ae.cu=(j:Int)+1)(hst:b.st=kG (b.ae.log.take b.dn.toNat))(sH:b.dn.toNat<=b.ae.log.length)
  (hB:(g.B b.ae.term=(j:Int)+1/\g.G b.ae.term=b.ae.log)\/(g.B b.ae.term≠(j:Int)+1/\k / 2<xU g k b.ae.term ((j:Int)+1)))
  {m:aA} (m1:(dS m).term=b.ae.term) (m2:(dS m).cu=b.ae.cu) (m3:(dS m).log=b.ae.log\/∃ e:bH,(dS m).log=b.ae.log++[e]/\e.term=b.ae.term/\∀ c,jJ e.b=some c->jX c.kind<=(kG b.ae.log).version)
  (m4:m.aB.down=false->m.ae=dS m/\m.role=2/\m.st=b.st/\m.dn=b.dn):∃ u,Ext j g u/\nK k u/\EN u j m:=by
 obtain⟨u,u1,u2,u3,u4,u5,u6,u7⟩:=gl.lead ed.lm hj hB m3;refine⟨u,u1,u2,⟨?_,λS hS=>?_,u6,λS hS=>?_⟩,λhu=>?_⟩
 ·rw[u3,m1,m2];exact ed.vt
 ·rw[u3];exact ed.v0 S (by rw[<-m1];exact hS)
 ·rw[m1];obtain e|e:=u7 S hS
  ·rw[e];exact dL _
  ·exact ed.bd S e
 ·obtain⟨q1,q2,q3,q4⟩:=m4 hu;refine⟨λ_=>by rw[q1,m2,hv],λh=>by omega,λ_=>by rw[q1,m1];exact⟨u4,u5⟩,?_⟩;rw[q1,q3,q4,hst];obtain e|⟨x,e,_⟩:=m3
  ·rw[e]
  ·rw[e,List.take_append_of_le_length sH]
def abQ(h:lQ k v T fl j b L t)(hu:b.aB.down=false)(gl:nK k g)(hj:j<k)(ed:ED g j b.ae)(hv:b.ae.cu=(j:Int)+1)(hst:b.st=kG (b.ae.log.take b.dn.toNat))(hr:b.role=2)
  (hB:(g.B b.ae.term=(j:Int)+1/\g.G b.ae.term=b.ae.log)\/(g.B b.ae.term≠(j:Int)+1/\k / 2<xU g k b.ae.term ((j:Int)+1)))
  {e:bH} {R:List aP} (hR:ER v T b.ae e R) (he:e.term=b.ae.term) (hg:∀ c,jJ e.b=some c->jX c.kind<=(kG b.ae.log).version):∃ u,Ext j g u/\nK k u/\EN u j (aS b R).1:=by
 have hs:=h.SD hu hR.rg hR.ok;have sH:=h.ap;have hd:=h.dS hu;obtain⟨i,hi⟩:=hs.ex;have form:(steps b.ae (R.take i)).1=b.ae\/(steps b.ae (R.take i)).1={ b.ae with log:=b.ae.log++[e] }:=by
  have hl:=hR.len;cases i with
  |zero=>exact .inl rfl
  |succ i=>
   rw[jU qO];exact .inr hR.st
 rw[<-hi]at form;refine leads gl hj ed hv hst qO hB (m:=(aS b R).1) ?_ ?_ ?_ λhu2=>?_
 ·obtain q|q:=form <;> rw[q]
 ·obtain q|q:=form <;> rw[q]
 ·obtain q|q:=form
  ·exact .inl (by rw[q])
  ·exact .inr ⟨e,by rw[q],he,hg⟩
 ·refine⟨?_,hr,rfl,rfl⟩;by_cases hq:(aS b R).2=0
  ·obtain⟨q1,q2,_⟩:=hs.ok hq;rw[q1,q2]
  ·obtain⟨q1,q2⟩:=hs.bad hq;obtain q2|q2:=q2
   ·rw[q1,hd,OM (m:=(aS b R).1) (n:=b) (by rw[q2])]
   ·rw[q2]at hu2;cases hu2
def EN.lead(h:NG k v T fl j n L t)(E:Env k v T fl j)(hu:n.aB.down=false)(e:EN g j n)(gl:nK k g)(hr:n.role=1)(hw:KH n=true):EO k g j (xK n k).1 (xK n k).2.1:=by
 have hg:=h.vg hu;have eu:=e.u hu;have hd:=h.g.dS hu;have ed:ED g j n.ae:=by rw[hd];exact e.d
 obtain⟨h1,h2,h3,h4⟩:=hg.vec qO;have hlen:=h.g.log.len;have sH:=h.g.ap;have ht:=hg.term qO;have htT:=h.g.log.term;obtain⟨c1,c2⟩:=eu.Jb hr;have hq:k / 2<xU g k n.ae.term ((j:Int)+1):=by
  have q1:=ajX h1 c2;have q2:(n.ig.length:Int) / 2<A7 n.ig:=fU hw;omega
 have hl:=h.VN (n:=n) hu qO;obtain⟨L',t',h5⟩:=(h.lead E hu qO).2.ex;have Mc:(gI n k).aB.down=false:=hu;have edl:ED g j (gI n k).ae:=ed;unfold xK at h5 ⊢;rcases e64:decide (o7 n<=64) with _|_ <;> rw[e64]at h5
 ·obtain⟨u,u1,u2,u3⟩:=leads (b:=gI n k) gl E.j edl (eu.cu qO) eu.st (show n.dn.toNat<=n.ae.log.length by omega) (.inr ⟨c1,hq⟩) (m:=gI n k)
   (by show(Go.Proofs.YtnibdnahojjcgaaGreat.dS n).term=n.ae.term;rw[hd]) (by show(Go.Proofs.YtnibdnahojjcgaaGreat.dS n).cu=n.ae.cu;rw[hd]) (.inl (by show(Go.Proofs.YtnibdnahojjcgaaGreat.dS n).log=n.ae.log;rw[hd])) (λ_=>⟨hd,rfl,rfl,rfl⟩)
  exact⟨u,u1,u2,u3,(u3.u Mc).G7 hl Mc⟩
 ·have e':=fU e64;have hR:ER v T (gI n k).ae ⟨n.ae.term,[]⟩ (lK n):=by
   unfold o7 at e';exact UC (s:=n.ae) qO ⟨⟨ht,htT.2⟩,.inl rfl⟩ E.T0.2
  obtain⟨u,u1,u2,u3⟩:=abQ (b:=gI n k) hl.g Mc gl E.j edl (eu.cu qO) eu.st rfl (.inr ⟨c1,hq⟩) hR rfl (λc hc=>by cases hc);have hs:=hl.g.SD Mc hR.rg hR.ok;by_cases e2:(aS (gI n k) (lK n)).2=0
  ·rw[aX e2]at h5 ⊢;have hu2:=(hs.ok e2).2.2;exact⟨u,u1,u2,u3,(u3.u hu2).G7 h5 hu2⟩
  ·rw[aT e2];exact⟨u,u1,u2,u3,nofun⟩
def EN.done(h:NG k v T fl j n L t)(E:Env k v T fl j)(hu:n.aB.down=false)(e:EN g j n)(gl:nK k g)(hr:n.role=2){x:aV}(hx:LG k v T fl x)(hd:x.dst=n.me):EO k g j (axF n x (jS (rE (jE n x)))).1 (axF n x (jS (rE (jE n x)))).2.1:=by
 have hne:=hx.ok.ne;have zX:=hx.ok.src;have hsk:=hx.src;have qy:=h.g.me;have hres:=(h.done E hu hr hx hd).2.ex;have e2:EN g j (jE n x):=e.of rfl rfl rfl rfl rfl rfl;have e4:EN g j (rD n x (jS (rE (jE n x)))):=e2.dn (c:=Ip (jE n x).ae (EE (jE n x)) (jE n x).dN) h.g.ap.1;have e1:(axF n x (jS (rE (jE n x)))).1=rD n x (jS (rE (jE n x))):=by
  unfold axF;cases decide ((n.ae.log.length:Int)<(rD n x (jS (rE (jE n x)))).next.getD x.src.toNat 0) <;> rfl
 rw[e1]at hres ⊢;obtain⟨L',t',h4⟩:=hres;refine⟨g,Ext.refl j g,gl,e4,?_⟩;unfold axF;cases decide ((n.ae.log.length:Int)<(rD n x (jS (rE (jE n x)))).next.getD x.src.toNat 0)
 ·intro y hy;obtain rfl:=List.mem_singleton.1 hy;exact(e4.u hu).copy hr ((h4.vg hu).next hr x.src.toNat qO qO)
 ·exact nofun
def NG.eF(h:NG k v T fl j n L t){x:aV}(hx:LG k v T fl x):NG k v T fl j (Dc n x) L t:=by
 refine⟨h.g.vec _ _ _ _ _,λhu=>?_,by show(n.eF.set _ _).length<=5;rw[nM];exact h.bl⟩;have hg:=h.vg hu;refine⟨hg.role,λhr=>?_,λi hi=>?_,hg.next,hg.term⟩
 ·obtain⟨v1,v2,v3,v4⟩:=hg.vec hr;exact⟨v1,by show(n.eF.set _ _).length=k;rw[nM];exact v2,v3,v4⟩
 ·show(n.eF.set x.src.toNat x.bin).getD i 0<=fl i;rw[D9];split
  ·rename_i e
   rw[<-e.1];exact hx.bin
  ·exact hg.eF i hi
def NG.ig(h:NG k v T fl j n L t)(x:aV):NG k v T fl j (Ox n x) L t:=by
 refine⟨h.g.vec _ _ _ _ _,λhu=>?_,h.bl⟩;have hg:=h.vg hu;refine⟨hg.role,λhr=>?_,hg.eF,hg.next,hg.term⟩;obtain⟨v1,v2,v3,v4⟩:=hg.vec hr;exact⟨by show(n.ig.set _ _).length=k;rw[nM];exact v1,v2,v3,v4⟩
def EN.MC(h:NG k v T fl j n L t)(E:Env k v T fl j)(hu:n.aB.down=false)(e:EN g j n)(gl:nK k g){x:aV}(hx:LG k v T fl x)(ex:EL g x)(hd:x.dst=n.me)(DR:x.kind≠3)(hrc:n.ae.term<x.term->n.role=0) :
  EO k g j (xq n x k (pW n x)).1 (xq n x k (pW n x)).2.1:=by
 have wC:pW n x=jS (rE (jE (mQ n x) x)):=by
  unfold pW;rw[aT DR];rfl
 rw[wC];have hxt:=hx.ok.term;have hdst:=hx.ok.dst;have zX:=hx.ok.src;have qy:=h.g.me;have hR:VR v T n.ae (gW n.ae x.term) _:=SB ⟨by omega,hx.term⟩ E.T0.2;by_cases hr:n.role=0
 ·obtain⟨u,u1,u2,u3⟩:=e.IE h hu gl hR (adY _ _) λh=>ai hr h
  have ho:rW n x=true:=by
   unfold rW;rw[show(ou n x).1.role=0 from hr];cases !decide (x.term=(ou n x).1.ae.term) <;> rfl
  unfold xq;rw[ho];cases !decide ((ou n x).2=0) <;> exact⟨u,u1,u2,u3,nofun⟩
 ·have hle:x.term<=n.ae.term:=Int.not_lt.1 λhlt=>hr (hrc hlt)
  have e1:ou n x=(n,0):=by
   unfold ou;rw[RH hle,XO]
  have e2:mQ n x=Dc n x:=by unfold mQ;rw[e1]
  have h2:=h.eF hx;have en2:EN g j (Dc n x):=e.of rfl rfl rfl rfl rfl rfl;unfold xq;rw[e1,e2];simp only[decide_true,Bool.not_true,bz];rcases ho:rW n x with _|_
  ·have hte:x.term=n.ae.term:=by
    unfold rW at ho;rw[e1]at ho;rcases q:decide (x.term=n.ae.term) with _|_
    ·rw[q]at ho;cases ho
    ·exact fU q
   rcases hv:Ir (Dc n x) x with _|_
   ·rcases ha:FX (Dc n x) x with _|_
    ·exact⟨g,Ext.refl j g,gl,en2,nofun⟩
    ·have hr2:(Dc n x).role=2:=by
      unfold FX at ha;rcases q:decide (x.kind=4) with _|_ <;> rw[q]at ha
      ·cases ha
      ·exact fU ha
     exact en2.done h2 E hu gl hr2 hx hd
   ·have hv:(bif (bif decide (x.kind=2) then x.ok else false) then decide (n.role=1) else false)=true:=hv;obtain⟨v1,v2⟩:=wR.1 hv;obtain⟨v3,v4⟩:=wR.1 v1;have v2:=fU v2;have v3:=fU v3;have avd:=ex.cu v3 v4;have h3:=h2.ig x;have e3:qY n x=Ox (Dc n x) x:=by unfold qY;rw[e2]
    have en3:EN g j (Ox (Dc n x) x):=by
     refine⟨e.d,λ_=>⟨(e.u hu).cu,λ_=>⟨((e.u hu).Jb v2).1,λi hi=>?_⟩,λh=>ai (show n.role=2 from h) qO,(e.u hu).st⟩⟩;have hi:(n.ig.set x.src.toNat true).getD i false=true:=hi;rw[D9]at hi;split at hi
     ·rename_i q
      show g.V i n.ae.term=_;rw[<-q.1,<-hte,avd,hd,qy]
     ·exact((e.u hu).Jb v2).2 i hi
    rw[e3];rcases hw:KH (Ox (Dc n x) x) with _|_
    ·exact⟨g,Ext.refl j g,gl,en3,nofun⟩
    ·exact en3.lead h3 E hu gl v2 hw
  ·exact⟨g,Ext.refl j g,gl,e,nofun⟩
def EN.recv(h:NG k v T fl j n L t)(E:Env k v T fl j)(e:EN g j n)(gl:nK k g){x:aV}(hx:LG k v T fl x)(ex:EL g x):EO k g j (uk n x k).1 (uk n x k).2.1:=by
 have hr:=h.rcv x;have hrc:(nG n x).ae.term<x.term->(nG n x).role=0:=λhlt=>by
  show(bif decide (n.ae.term<x.term) then 0 else n.role)=0;rw[aX (show n.ae.term<x.term from hlt)];rfl
 have er:EN g j (nG n x):=by
  refine⟨e.d,λhu=>?_⟩;rcases q:decide (n.ae.term<x.term) with _|_
  ·refine(e.u hu).of ?_ rfl rfl rfl rfl;show(bif decide (n.ae.term<x.term) then 0 else n.role)=n.role;rw[q];rfl
  ·refine EU.zero ?_ (e.u hu).st;show(bif decide (n.ae.term<x.term) then 0 else n.role)=0;rw[q];rfl
 unfold uk FO;rcases hu:n.aB.down with _|_
 ·rcases hm:uA n x with _|_
  ·exact⟨g,Ext.refl j g,gl,e,nofun⟩
  ·show EO k g j (AO (nG n x) x k (pW (nG n x) x)).1 (AO (nG n x) x k (pW (nG n x) x)).2.1;by_cases e1:x.kind=1
   ·rw[Zt e1];exact er.ask hr E hu gl hx (IJ hm).2.1 hrc
   ·by_cases e3:x.kind=3
    ·rw[Zq e3];exact er.MB hr E hu gl hx e3 ex ((IJ hm).2.2.2 e3) hrc
    ·rw[Zr e1 e3];exact er.MC hr E hu gl hx ex (IJ hm).2.1 e3 hrc
 ·exact⟨g,Ext.refl j g,gl,e,nofun⟩
end
end
section
section
variable {k:Nat} {v T:Int} {fl:Nat->Int} {j:Nat} {n:aA} {L:List aP} {t:List UInt8} {g:mG}
def al6(n:aA)(R:List aP):(aS n R).1.dn=n.dn:=rfl
def apb(n:aA):(eX n).dn=n.dn:=by
 unfold eX vX;exact al6 n (jh (n.ae.term+1) (n.me+1))
def apa(n:aA):dS (eX n)=dS (aS n (jh (n.ae.term+1) (n.me+1))).1:=by
 refine OM ?_;unfold eX vX;rfl
def anz{u:mG}{m:aA}(qy:n.me=(j:Int))(u3:u.B=g.B)(ed:ED g j n.ae)(u5:ED u j { n.ae with term:=n.ae.term+1,cu:=n.me+1 })(hst:n.st=kG (n.ae.log.take n.dn.toNat))
  (m1:m.role=1) (m2:m.ae={ n.ae with term:=n.ae.term+1,cu:=n.me+1 }) (m3:dS m={ n.ae with term:=n.ae.term+1,cu:=n.me+1 }) (m4:m.ig=(List.replicate n.many.toNat false).set n.me.toNat true) (m5:m.st=n.st) (m6:m.dn=n.dn):EN u j m:=by
 refine⟨by rw[m3];exact u5,λ_=>⟨λ_=>by rw[m2,<-qy],λ_=>⟨λhb=>?_,λi hi=>?_⟩,λh=>by omega,by rw[m2,m5,m6];exact hst⟩⟩
 ·rw[m2,u3]at hb;have:=ed.bd _ hb;have:n.ae.term+1<=n.ae.term:=this;omega
 ·rw[m4,D9]at hi;split at hi
  ·rename_i q
   rw[m2,<-q.1,show n.me.toNat=j by omega,<-qy];exact u5.vt
  ·rw[bn,List.getElem?_replicate]at hi;split at hi <;> cases hi
def EN.LQ(h:NG k v T fl j n L t)(E:Env k v T fl j)(hT:T<1048576)(e:EN g j n)(gl:nK k g):EO k g j (xw n).1 (xw n).2.1:=by
 have zF:=h.g.log.term;have hk5:=E.jm;have hj:=E.j;have qy:=h.g.me;have avn:=h.g.many;have hT0:=E.T0;have h':NG k v (T+1) fl j n L t:=h.up (dL _) E.sup.2.1 qO (λ_=>dL _) rfl;have hR:VR v (T+1) n.ae (jh (n.ae.term+1) (n.me+1)) (n.ae.term+1):=VR.cu ⟨by omega,by omega⟩ qO ⟨by omega,by omega⟩ (.inl qO);have hf:VF n.ae (jh (n.ae.term+1) (n.me+1)):=.inr ⟨_,_,rfl,.inl qO⟩;have same:EO k g j n []:=⟨g,Ext.refl j g,gl,e,nofun⟩;have l1:∀(u:mG) (y:aV),y.kind=1->EL u y:=λu y hy=>⟨λhk=>by omega,λhk=>by omega⟩
 unfold xw;rcases hst:sZ n with _|_
 ·show EO k g j (nD n).1 (nD n).2.1;unfold nD;unfold sZ at hst;rcases hu:n.aB.down with _|_ <;> rw[hu]at hst
  ·rcases hr:decide (n.role=2) with _|_ <;> rw[hr]at hst
   ·have hq:(aS n (jh (n.ae.term+1) (n.me+1))).2≠0:=mJ hst;have hd:=h.g.dS hu;have ed:ED g j n.ae:=by rw[hd];exact e.d
    obtain⟨u,u1,u2,u3⟩:=e.fail gl (h'.g.SD hu hR.rg hR.ok) hq (af6 gl ed hf hR.ok);exact⟨u,u1,u2,u3,nofun⟩
   ·exact same
  ·exact same
 ·unfold sZ at hst;rcases hu:n.aB.down with _|_ <;> rw[hu]at hst
  ·rcases hr:decide (n.role=2) with _|_ <;> rw[hr]at hst
   ·have hq:(aS n (jh (n.ae.term+1) (n.me+1))).2=0:=fU hst;have hd:=h.g.dS hu;have ed:ED g j n.ae:=by rw[hd];exact e.d
    obtain⟨q1,q2,q3⟩:=(h'.g.SD hu hR.rg hR.ok).ok hq;rw[Q5 hR.ok]at q1 q2;obtain⟨u,u1,u2,u3,u4,u5⟩:=ed.cu gl (a:=n.ae.term+1) (b:=n.me+1) (.inl qO);refine⟨u,u1,u2,anz (m:=eX n) qy u3 ed u5 (e.u hu).st rfl q2 ?_ rfl rfl (apb n),λy hy=>?_⟩
    ·rw[apa];exact q1
    ·obtain⟨d,hd,rfl⟩:=List.mem_map.1 (show y∈(jb (eX n) (eX n).many.toNat).map (Dx (eX n)) from hy);exact l1 _ _ rfl
   ·exact ai (show false=true from hst) qD
  ·exact ai (show false=true from hst) qD
def asT{s:aN}{x:bH}(hs:gK s s.version)(hx:EG v T x):s.version<=(lL s (jJ x.b)).1.version:=by
 rcases hd:jJ x.b with _|c
 ·exact dL _
 ·obtain⟨h1,_⟩:=hx.bump hd;show s.version<=(oC s c).1.version;rcases(ahy (c:=c) hs ⟨h1.chunks,h1.text⟩).2 with q|⟨_,q2,q3,_⟩
  ·rw[q];exact dL _
  ·rw[q3];omega
def agv{l:List bH}(hv:1<=v)(h:∀ x∈l,EG v T x)(a:Nat):∀ d,(kG (l.take a)).version<=(kG (l.take (a+d))).version
 |0=>dL _
 |d+1=>by
  refine Int.le_trans (agv hv h a d) ?_;by_cases hl:a+d<l.length
  ·rw[show a+(d+1)=a+d+1 by omega,Sz hl];exact asT (aad hv λx hx=>h x (List.mem_of_mem_take hx)).1 (h _ (axB hl))
  ·rw[jU (show l.length<=a+d by omega),jU (show l.length<=a+(d+1) by omega)];exact dL _
def EN.call(h:NG k v T fl j n L t)(E:Env k v T fl j)(e:EN g j n)(gl:nK k g){c:aF}(hz:nV c):EO k g j (nR n c).1 []:=by
 have hlen:=h.g.log.len;have zF:=h.g.log.term;have sH:=h.g.ap;have same:EO k g j n []:=⟨g,Ext.refl j g,gl,e,nofun⟩;unfold nR;rcases hu:n.aB.down with _|_
 rotate_left
 ·exact same
 rcases hr:decide (n.role=2) with _|_
 ·exact same
 rcases hm:decide (kX c n.st.version=0) with _|_
 ·exact same
 rcases hb:(bif decide (c.kind=8) then !decide (c.n=n.st.version+1) else false) with _|_
 rotate_left
 ·exact same
 rcases hrd:(bif decide (c.kind=8) then !xB n.st.version n.eF else false) with _|_
 rotate_left
 ·exact same
 rcases jP:decide (64<(n.ae.log.length:Int)+1) with _|_
 rotate_left
 ·exact same
 have hr:=fU hr;have hm:=fU hm;have jP:=mJ jP;obtain⟨w1,w2⟩:=ae1 (c:=c) E.sup h hu hr;have h':NG k (A8 v c n) T fl j n L t:=h.up w1 w2.2.1 (dL _) (λ_=>dL _) rfl;have hg:=h.vg hu;have hc:=J4 hm hz;have hvv:=(h.g.up hu).ver;have he:EG (A8 v c n) T ⟨n.ae.term,fQ c⟩:=by
  refine⟨⟨hg.term qO,zF.2⟩,.inr ⟨c,rfl,hc.up qO w2.2.1,λh8=>?_⟩⟩;rw[aX h8]at hb hrd;have hb:(!decide (c.n=n.st.version+1))=false:=hb;have hrd:(!xB n.st.version n.eF)=false:=hrd;have hb:c.n=n.st.version+1:=by simpa using hb
  have hrd:xB n.st.version n.eF=true:=by simpa using hrd
  unfold A8;rw[aX h8,hrd];show c.n<=max v (n.st.version+1);omega
 have hR:=UC (s:=n.ae) qO he E.T0.2;have eu:=e.u hu;have hd:=h.g.dS hu;have ed:ED g j n.ae:=by rw[hd];exact e.d
 have hgate:∀ d,jJ (fQ c)=some d->jX d.kind<=(kG n.ae.log).version:=λd hd=>by
  rw[OL hc]at hd;obtain rfl:=fD hd;have q1:=(UU hm).2.1;rw[eu.st]at q1;have q2:=agv E.sup.1 h.g.log.log n.dn.toNat (n.ae.log.length-n.dn.toNat);rw[show n.dn.toNat+(n.ae.log.length-n.dn.toNat)=n.ae.log.length by omega,mM]at q2;omega
 obtain⟨u,u1,u2,u3⟩:=abQ (b:=n) h'.g hu gl E.j ed (eu.cu qO) eu.st hr (.inl (eu.lead hr)) hR rfl hgate;show EO k g j (bif !decide ((aS n [(⟨3,(n.ae.log.length:Int)+1,n.ae.term,fQ c⟩:aP)]).2=0) then((aS n [(⟨3,(n.ae.log.length:Int)+1,n.ae.term,fQ c⟩:aP)]).1,(0:Int),(0:Int),(aS n [(⟨3,(n.ae.log.length:Int)+1,n.ae.term,fQ c⟩:aP)]).2) else((aS n [(⟨3,(n.ae.log.length:Int)+1,n.ae.term,fQ c⟩:aP)]).1,(n.ae.log.length:Int)+1,n.ae.term,0)).1 [];cases !decide ((aS n [(⟨3,(n.ae.log.length:Int)+1,n.ae.term,fQ c⟩:aP)]).2=0)
 ·exact⟨u,u1,u2,u3,nofun⟩
 ·exact⟨u,u1,u2,u3,nofun⟩
def EN.start(h:NG k v T fl j n L t)(E:Env k v T fl j)(e:EN g j n)(gl:nK k g)(b:Int)(hst:vS n b=true):EO k g j (wQ n b).1 []:=by
 have hrep:=h.g.dg.laid.vk;have e1:(Bc n).1=fJ L:=ah Prod.fst hrep;have e2:(Bc n).2=(di L).length:=ah Prod.snd hrep;have ed:ED g j (fJ L):=by rw[<-Og h.g.dg];exact e.d
 have hdg:DG v T (Jd n.aB L) L []:=h.g.dg.GK;have eb:C9 n b=eQ n b L:=by
  unfold C9 eQ Jd;rw[e1,e2]
 have key:∀ m:aA,(dS m).term=(fJ L).term->(dS m).cu=(fJ L).cu->(dS m).log=(fJ L).log->(m.aB.down=false->m.role=0/\m.st=AA/\m.dn=0)->EO k g j m []:=λm m1 m2 m3 m4=>
  ⟨g,Ext.refl j g,gl,⟨ed.of m1 m2 (by rw[m3];exact ed.lm),λhu=>by
   obtain⟨q1,q2,q3⟩:=m4 hu;refine EU.zero q1 ?_;rw[q2,q3];rfl⟩,nofun⟩
 have hb0:dS (eQ n b L)=fJ L:=Og (n:=eQ n b L) hdg;unfold wQ;rw[eb,e1];rcases hlt:decide ((fJ L).floor<b) with _|_
 ·exact key _ (by show(dS (eQ n b L)).term=_;rw[hb0]) (by show(dS (eQ n b L)).cu=_;rw[hb0]) (by show(dS (eQ n b L)).log=_;rw[hb0]) λ_=>⟨rfl,rfl,rfl⟩
 ·have hlt:=fU hlt;have hb3:1<=b/\b<=3:=by
   unfold vS at hst;have he:=fU hst;unfold DZ at he;rcases hd:n.aB.down with _|_ <;> rw[hd]at he
   ·exact ai (show(31:Int)=0 from he) qD
   ·have he:Cc b (max (Bc n).1.floor 1)=0:=he;unfold Cc at he;rcases h1:dQ b 1 3 with _|_ <;> rw[h1]at he
    ·exact ai (show(1:Int)=0 from he) qD
    ·exact Gn h1
  have hok:iG ⟨1,b,0,[]⟩=true:=by
   unfold iG;exact aX ⟨(by decide:(1:Int)<=1),(by decide:(1:Int)<=4),hb3.1,hb3.2,(by decide:(0:Int)<=0),(by decide:(0:Int)<=0),cZ _⟩
  have hf2:mO (fJ L) ⟨1,b,0,[]⟩=true:=by
   unfold mO;rw[if_pos rfl];exact aX (by show(fJ L).floor<=b;omega)
  have ah5:(steps (fJ L) (iH b)).2=0:=by
   show(steps (fJ L) [⟨1,b,0,[]⟩]).2=0;rw[QS (Jy hok hf2)];rfl
  have hs:SD (eQ n b L) (iH b):=aff (n:=eQ n b L) hdg rfl rfl (λr hr=>by
   obtain rfl:=List.mem_singleton.1 hr;exact⟨hok,λh=>ai (show(1:Int)=2 from h) qD,λh=>ai (show(1:Int)=3 from h) qD⟩) ah5
  have same:∀ i,(steps (fJ L) ((iH b).take i)).1.term=(fJ L).term/\(steps (fJ L) ((iH b).take i)).1.cu=(fJ L).cu/\(steps (fJ L) ((iH b).take i)).1.log=(fJ L).log:=λi=>
   Jw (P:=λq=>q.term=(fJ L).term/\q.cu=(fJ L).cu/\q.log=(fJ L).log) ⟨rfl,rfl,rfl⟩ λr hr q hq=>by
    obtain rfl:=List.mem_singleton.1 (List.mem_of_mem_take hr);rw[ahV rfl];exact hq
  obtain⟨i,hi⟩:=hs.ex;have hi:dS (aS (eQ n b L) (iH b)).1=(steps (fJ L) ((iH b).take i)).1:=hi;obtain⟨s1,s2,s3⟩:=same i;rw[<-hi]at s1 s2 s3;by_cases e0:(aS (eQ n b L) (iH b)).2=0
  ·rw[aX e0];exact key (aS (eQ n b L) (iH b)).1 s1 s2 s3 λ_=>⟨rfl,rfl,rfl⟩
  ·rw[aT e0];have hsg:=Ru (n:=eQ n b L) (R:=iH b) hdg rfl rfl (λr hr=>by
    obtain rfl:=List.mem_singleton.1 hr;exact⟨hok,λh=>ai (show(1:Int)=2 from h) qD,λh=>ai (show(1:Int)=3 from h) qD⟩) ah5
   obtain⟨i2,t',q1,_⟩:=hsg.ex;have hcr:dS { (aS (eQ n b L) (iH b)).1 with aB:=(aS (eQ n b L) (iH b)).1.aB.lF 0 }=dS (aS (eQ n b L) (iH b)).1:=OM (q1.lF 0).2;exact key { (aS (eQ n b L) (iH b)).1 with aB:=(aS (eQ n b L) (iH b)).1.aB.lF 0 } (by rw[hcr];exact s1) (by rw[hcr];exact s2) (by rw[hcr];exact s3) λh=>ai (show true=false from h) qD
def EN.P8(e:EN g j n)(gl:nK k g)(b:Int):EO k g j (Gs n b) []:=⟨g,Ext.refl j g,gl,⟨e.d,λhu=>(e.u hu).of rfl rfl rfl rfl rfl⟩,nofun⟩
def EN.lF(h:NG k v T fl j n L t)(e:EN g j n)(gl:nK k g)(b:Int):EO k g j (Eg n b) []:=
 ⟨g,Ext.refl j g,gl,⟨by rw[OM (m:=Eg n b) (n:=n) (h.g.dg.lF b).2];exact e.d,λhu=>ai (show true=false from hu) qD⟩,nofun⟩
end
structure CE (k:Nat) (g:mG) (C:aH):Prop where
 BB:nK k g
 nd:∀ i,i<k->EN g i (C.nd i)
 row:∀ x∈C.au.row,EL g x
section
variable {k:Nat} {v T c s:Int} {fl:Nat->Int} {K:Nat} {C:aH} {g:mG}
def CE.tell(h:CG k v T fl c s K C)(e:CE k g C){A:Nat}(hA:A<k){n:aA}{l:List aV}(r:EO k g A n l):∃ u,CE k u (C.tell A n l):=by
 obtain⟨u,u1,u2,u3,u4⟩:=r.ex;refine⟨u,u2,λi hi=>?_,λx hx=>?_⟩
 ·show EN u i (bif Nat.beq i A then n else C.nd i);rcases q:Nat.beq i A with _|_
  ·exact(e.nd i hi).other u1 λq2=>by subst q2;simp at q
  ·rw[Nat.eq_of_beq_eq_true q];exact u3
 ·obtain hx|hx:=List.mem_append.1 (show x∈C.au.row++l.take (room C.au l) from hx)
  ·have hl:=(h.row x hx).ok;exact(e.row x hx).up u1 hl.dst.1 hl.a.1
  ·exact u4 x (List.mem_of_mem_take hx)
def CE.put(h:CG k v T fl c s K C)(e:CE k g C){A:Nat}(hA:A<k){n:aA}(r:EO k g A n []):∃ u,CE k u (C.put A n):=by
 have:=e.tell h hA r;rwa [ads]at this
def CE.au(e:CE k g C){p:Nt}(hp:∀ x∈p.row,x∈C.au.row):CE k g { C with au:=p }:=⟨e.BB,e.nd,λx hx=>e.row x (hp x hx)⟩
def CE.take(h:CG k v T fl c s K C)(e:CE k g C)(i:Int):∃ u,CE k u (axD k C i).1:=by
 unfold axD;rcases hi:qx C.au i with _|_
 ·exact⟨g,e⟩
 ·have hi:=Gm hi;have hin:i.toNat<C.au.row.length:=qO;have ht:=h.taken hin;have et:CE k g { C with au:=jH C.au i.toNat }:=e.au λx hx=>List.mem_of_mem_eraseIdx hx
  rcases hd:l9 k (C.au.row.getD i.toNat .z).dst with _|_
  ·exact⟨g,et⟩
  ·have hd:=JF hd;have hA:(C.au.row.getD i.toNat .z).dst.toNat<k:=qO;obtain⟨L,t,q⟩:=h.nd _ hA;exact et.tell ht hA ((e.nd _ hA).recv q (h.env hA) e.BB (h.row _ (axB (z:=.z) hin)) (e.row _ (axB (z:=.z) hin)))
def CE.act(h:CG k v T fl c s K C)(e:CE k g C){x:cO}(he:wG x)(hT:T<1048576):∃ u,CE k u (nJ k C x).1:=by
 have same:∃ u,CE k u C:=⟨g,e⟩;unfold nJ;rcases e3:decide (x.kind=3) with _|_
 rotate_left
 ·exact e.take h x.a
 rcases e4:decide (x.kind=4) with _|_
 rotate_left
 ·show ∃ u,CE k u (AY C x.a).1;unfold AY;cases qx C.au x.a
  ·exact same
  ·exact⟨g,e.au λy hy=>List.mem_of_mem_eraseIdx hy⟩
 rcases e5:decide (x.kind=5) with _|_
 rotate_left
 ·show ∃ u,CE k u (Ap C x.a).1;unfold Ap;rcases hi:qx C.au x.a with _|_
  ·exact same
  ·have hi:=Gm hi;cases decide (256<=(C.au.row.length:Int))
   ·refine⟨g,e.au λy hy=>?_⟩;obtain hy|hy:=List.mem_append.1 (show y∈C.au.row++[C.au.row.getD x.a.toNat .z] from hy)
    ·exact hy
    ·obtain rfl:=List.mem_singleton.1 hy;exact axB qO
   ·exact same
 rcases hth:l9 k x.a with _|_
 ·exact same
 have hA0:=JF hth;have hA:x.a.toNat<k:=qO;obtain⟨L,t,q⟩:=h.nd _ hA;have E:=h.env hA;have en:=e.nd _ hA;show ∃ u,CE k u (wS k C x.a.toNat x).1;unfold wS;rcases k1:decide (x.kind=1) with _|_
 rotate_left
 ·exact e.tell h hA (en.LQ q E hT e.BB)
 rcases k2:decide (x.kind=2) with _|_
 rotate_left
 ·refine⟨g,e.BB,e.nd,λy hy=>?_⟩;obtain hy|hy:=List.mem_append.1 (show y∈C.au.row++(lu (C.nd x.a.toNat) k).1.take (room C.au (lu (C.nd x.a.toNat) k).1) from hy)
  ·exact e.row y hy
  ·have hy:=List.mem_of_mem_take hy;rcases hu:(C.nd x.a.toNat).aB.down with _|_
   ·exact(en.u hu).G7 q hu y hy
   ·unfold lu at hy;rw[hu]at hy;cases hy
 rcases k6:decide (x.kind=6) with _|_
 rotate_left
 ·obtain⟨u,hu⟩:=e.put h hA (en.call q E e.BB he.sz);show ∃ u,CE k u (uq C x.a.toNat x).1;unfold uq;cases decide ((nR (C.at x.a.toNat) x.c).2.2.2=0)
  ·exact⟨u,hu⟩
  ·exact⟨u,hu.BB,hu.nd,hu.row⟩
 rcases k9:decide (x.kind=9) with _|_
 rotate_left
 ·show ∃ u,CE k u (ui C x.a.toNat x.b).1;unfold ui;rcases hst:vS (C.at x.a.toNat) x.b with _|_
  ·exact same
  ·exact e.put h hA (en.start q E e.BB x.b hst)
 rcases k7:decide (x.kind=7) with _|_
 rotate_left
 ·exact e.put h hA (en.P8 e.BB x.b)
 rcases k8:decide (x.kind=8) with _|_
 rotate_left
 ·exact e.put h hA (en.lF q e.BB x.b)
 exact same
def CE.step(h:CG k v T fl c s K C)(e:CE k g C){x:cO}(he:wG x)(hT:T<1048576):∃ u,CE k u (jI k C x).1:=by
 obtain⟨u,hu⟩:=e.act h he hT;exact⟨u,hu.BB,hu.nd,hu.row⟩
def aqt{k:Nat}:CE k ⟨λ_ _=>0,λ_=>0,λ_=>[]⟩ (qp k):=by
 have hn:∀ i,dS ((qp k).nd i)=zT:=λi=>Og (n:=(qp k).nd i) (v:=1) (T:=0) (L:=[]) (t:=[]) dg0
 refine⟨⟨λ_=>.inl rfl,λ_ _=>rfl,λ_=>LM.nil,λ_ n hn=>ai hn (qh _)⟩,λi hi=>⟨?_,λhu=>?_⟩,λx hx=>ai (show x∈([]:List aV) from hx) List.not_mem_nil⟩
 ·rw[hn];exact⟨rfl,λ_ _=>rfl,LM.nil,λU hU=>ai (show(0:Int)=(i:Int)+1 from hU) qO⟩
 ·have Hr:((qp k).nd i).aB.down=true:=by
   show(Dt.lF 0).down=true;rw[ZM]
  exact ai (Hr.symm.trans hu) qD
def CE.log(h:CG k v T fl c s K C)(e:CE k g C){i:Nat}(hi:i<k)(hu:(C.nd i).aB.down=false):yt (C.nd i).ae.log/\∀ x∈(C.nd i).ae.log,EG v T x:=by
 obtain⟨L,t,q⟩:=h.nd i hi;refine⟨?_,q.g.log.log⟩;rw[q.g.dS hu];exact(e.nd i hi).d.lm.Fb e.BB.Fb
end
end
section
def CU(C:aH)(i:Nat)(all:List bH):List bH:=
 bif (bif (bif (iO (C.at i)).up then decide ((all.length:Int)<(iO (C.at i)).dN) else false) then decide ((iO (C.at i)).dN<=((iO (C.at i)).log.length:Int)) else false) then(iO (C.at i)).log.take (iO (C.at i)).dN.toNat else all
def Gj(C:aH):Nat->List bH->List bH
 |0,all=>all
 |n+1,all=>CU C n (Gj C n all)
structure uX (l:List bH):Prop where
 Fb:yt l
 len:l.length<=64
 es:∀ e∈l,EG 3 1048576 e
def yc(k a n:Nat)(C:aH):Prop:=gB k a n C/\∃ g,CE k g C
section
variable {k a n:Nat} {C:aH}
def yc.step(h:yc k a n C)(ha:a<=1000){e:cO}(he:wG e):yc k (a+1) (n+1) (jI k C e).1:=by
 obtain⟨hb,g,hg⟩:=h;refine⟨hb.step ha he,?_⟩;obtain⟨T,hT,v,fl,q⟩:=hb;exact hg.step q he qO
def yc.new(hk:3<=k/\k<=5):yc k 0 0 (qp k):=⟨gB.new hk,_,aqt⟩
def uX.nil:uX []:=⟨λn hn=>ai hn (qh _),cZ _,nofun⟩
def yc.CU(h:yc k a n C){i:Nat}(hi:i<k){all:List bH}(ha:uX all):uX (Go.Proofs.YtnibdnahojjcgaaGreat.CU C i all):=by
 obtain⟨hb,g,hg⟩:=h;unfold Go.Proofs.YtnibdnahojjcgaaGreat.CU;rcases hu:(iO (C.at i)).up with _|_
 ·exact ha
 cases decide ((all.length:Int)<(iO (C.at i)).dN)
 ·exact ha
 cases decide ((iO (C.at i)).dN<=((iO (C.at i)).log.length:Int))
 ·exact ha
 have hd:(C.at i).aB.down=false:=by
  rcases e:(C.at i).aB.down with _|_
  ·rfl
  ·unfold iO at hu;rw[e]at hu;cases hu
 have e:(iO (C.at i)).log=(C.at i).ae.log:=by unfold iO;rw[hd];rfl
 have hs:=hb.site hi hu;obtain⟨T,hT,v,fl,q⟩:=hb;obtain⟨h1,h2⟩:=hg.log q hi hd;show uX ((iO (C.at i)).log.take _);refine⟨?_,?_,λx hx=>?_⟩
 ·rw[e];exact h1.take _
 ·have:=hs.len;rw[dG];omega
 ·rw[e]at hx;exact(h2 x (List.mem_of_mem_take hx)).up q.sup.2.1 (dL _) q.T0.2
def yc.Ph(h:yc k a n C){all:List bH}(ha:uX all):∀ {m:Nat},m<=k->uX (Gj C m all)
 |0,_=>ha
 |m+1,hm=>h.CU qO (h.Ph ha qO)
def yc.long(h:yc k a n C){all:List bH}(ha:uX all):uX (Gj C k all):=h.Ph ha (bF _)
end
def uX.at{l:List bH}(h:uX l)(i:Nat):gK (kG (l.take i)) (kG (l.take i)).version/\(kG (l.take i)).version<=3:=
 aad qD λe he=>h.es e (List.mem_of_mem_take he)
def uX.once{l:List bH}(h:uX l){i:Nat}(hi:i<l.length):x8 (kG (l.take i)) (jJ (l.getD i .z).b) (lL (kG (l.take i)) (jJ (l.getD i .z).b)):=h.Fb.once qD qD h.es hi
end
