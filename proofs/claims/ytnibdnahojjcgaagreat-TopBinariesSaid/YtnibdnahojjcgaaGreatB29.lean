/- A part of the proof. -/
import Derived.Test.YtnibdnahojjcgaaGreatB25
import Derived.Test.YtnibdnahojjcgaaGreatB26
namespace Go.Proofs.YtnibdnahojjcgaaGreat
set_option maxRecDepth 100000
set_option maxHeartbeats 16000000
set_option linter.unusedVariables false
set_option linter.unusedSimpArgs false
open Go.RowKit
theorem kM{α:Type}{z:α}{l:List α}{i:Nat}(h:i<l.length):l.getD i z∈l:=by
 rw[bC,dW h];exact List.getElem_mem h
theorem Kq:(0:Int)<=0/\(0:Int)<=99:=by decide
theorem Y3:(0:Int)<=0/\(0:Int)<=1048576:=by decide
structure pY (s:aZ) (p:aZ×eY):Prop where
 ok:kC p.1 s.version
 oU:p.1.version=s.version
 code:0<=p.2.code/\p.2.code<=99
 n:0<=p.2.n/\p.2.n<=1048576
 aN:p.1.aN=s.aN
theorem pY.err{s:aZ}(h:kC s s.version)(e n:Int)(he:0<=e/\e<=99)(hn:0<=n/\n<=1048576):pY s (s,⟨e,n⟩):=⟨h,rfl,he,hn,rfl⟩
theorem Qd{α:Type}{p:α->Bool}:∀ {l:List α} {i:Nat},ji p i l<0->∀ x∈l,p x=false
 |[],i,h,x,hx=>by simp at hx
 |y::r,i,h,x,hx=>by
  unfold ji at h;rcases hy:p y with _|_
  ·rw[hy,di]at h;rcases List.mem_cons.1 hx with rfl|hx
   ·exact hy
   ·exact Qd h x hx
  ·rw[hy,dR]at h;omega
theorem akL{s:aZ}{c:aI}(h:kC s s.version)(hc:Oe c)(hk:c.kind=2):pY s (MJ s c):=by
 unfold MJ;rcases hb:decide (0<=opAt s c.set) with _|_
 ·rw[di];have hb:=oZ hb;have hno:=Qd (p:=λx:uo=>decide (x.set=c.set)) (l:=s.opens) (i:=0) (by unfold opAt at hb;omega);have h1:=hc.set.2.2 (.inl hk);have h2:=hc.bf.2.2 qO;have hmem:∀ x∈rM s.opens (Jh s c.set) ⟨c.set,c.bf⟩,x∈s.opens\/x=⟨c.set,c.bf⟩:=λx hx=>by
   unfold rM at hx;rcases List.mem_append.1 hx with hx|hx
   ·exact .inl (List.mem_of_mem_take hx)
   ·rcases List.mem_cons.1 hx with rfl|hx
    ·exact .inr rfl
    ·exact .inl (List.mem_of_mem_drop hx)
  refine⟨{ h with opens:=?_,Bl:=?_,tY:=?_ },rfl,Kq,Y3,rfl⟩
  ·exact atZ (key:=λx:uo=>x.set) h.opens (y:=⟨c.set,c.bf⟩) hc.set.2.1 (λx hx=>oZ (hno x hx))
  ·intro x hx;rcases hmem x hx with hx|rfl
   ·exact h.Bl x hx
   ·show 0<c.set;omega
  ·intro x hx;rcases hmem x hx with hx|rfl
   ·exact h.tY x hx
   ·exact JC ⟨h2,hc.bf.2.1⟩
 ·rw[dR];have hb:=jb hb;have h1:=ac8 s c.set;have h2:=JB (h.tY _ (kM (z:=.z) (show(opAt s c.set).toNat<s.opens.length by omega)));exact pY.err h _ _ qD qO
theorem ZE{α:Type}(l:List α)(i:Nat):(l.eraseIdx i).Sublist l:=List.eraseIdx_sublist l i
theorem akY{s:aZ}{c:aI}(h:kC s s.version):pY s (ML s c):=by
 unfold ML;rcases decide (jo s c<0) with _|_
 ·have hs:=ZE s.opens (jo s c).toNat;exact⟨{ h with opens:=h.opens.sub hs,Bl:=λx hx=>h.Bl x (hs.subset hx),tY:=λx hx=>h.tY x (hs.subset hx) },rfl,Kq,Y3,rfl⟩
 ·exact pY.err h _ _ qD qD
theorem aik{s:aZ}{c:aI}(h:kC s s.version)(hc:Oe c)(hk:c.kind=3):pY s (Df s c):=by
 unfold Df;rcases decide (jo s c<0) with _|_
 ·rw[di];rcases h1:(bif decide (16<=(s.ay.length:Int)) then true else decide (1048576<=s.next)) with _|_
  ·rw[di];rw[Jo,fQ,fQ]at h1;rcases(bif !decide (s.l7=0) then decide (s.l7<MP s.ay c.chunks) else false) with _|_
   ·rw[di];have hs:=ZE s.opens (jo s c).toNat;have hset:=hc.set;have aqi:=hset.2.2 (.inr (.inl hk));have hrow:kG c.chunks=true:=by
     rcases hc.chunks with e|e
     ·exact e.2
     ·exact au hk e.1
    have hn:=h.next
    refine⟨{ h with opens:=h.opens.sub hs,Bl:=λx hx=>h.Bl x (hs.subset hx),tY:=λx hx=>h.tY x (hs.subset hx),next:=?_,ay:=?_,zN:=?_,len:=?_,sn:=?_ },rfl,Kq,⟨?_,?_⟩,rfl⟩
    ·show 1<=s.next+1/\s.next+1<=1048576;omega
    ·exact h.ay.snoc (y:=⟨s.next,c.set,c.chunks,false,[]⟩) (by show s.next-1<s.next;omega) (by show s.next<=s.next+1-1;omega)
    ·intro x hx;rcases List.mem_append.1 hx with hx|hx
     ·exact h.zN x hx
     ·obtain rfl:=List.mem_singleton.1 hx;show 0<s.next;omega
    ·show(s.ay++_).length<=16;rw[bW,List.length_singleton];omega
    ·intro x hx;rcases List.mem_append.1 hx with hx|hx
     ·exact h.sn x hx
     ·obtain rfl:=List.mem_singleton.1 hx;exact⟨hrow,⟨aqi,hset.2.1⟩,(λe=>by cases e),by simp,λ_=>rfl⟩
    ·show 0<=s.next;omega
    ·show s.next<=1048576;omega
   ·exact pY.err h _ _ qD qD
  ·exact pY.err h _ _ qD qD
 ·exact pY.err h _ _ qD qD
theorem acE(p:Int->Bool):(Cc p).length<=64:=by
 unfold Cc;have:=List.length_filter_le p ((List.range 64).map (λk:Nat=>(k:Int)+1));rw[lJ,List.length_range]at this;exact this
theorem aji{s:aZ}{p:Nat}(h:kC s s.version):pY s (Xk s p):=by
 unfold Xk;rcases(s.ay.getD p .z).held with _|_
 ·rcases RQ s p with _|_
  ·have hs:(ui s.ay (s.ay.getD p .z).id).Sublist s.ay:=List.filter_sublist;have hl:=hs.length_le;have hw:=acE (λn=>bif decide (0<pJ s.ay n.toNat) then decide (pJ (ui s.ay (s.ay.getD p .z).id) n.toNat=0) else false);refine⟨{ h with ay:=h.ay.sub hs,zN:=λx hx=>h.zN x (hs.subset hx),sn:=λx hx=>h.sn x (hs.subset hx),len:=by have:=h.len;show(ui s.ay _).length<=16;omega },rfl,Kq,⟨?_,?_⟩,rfl⟩
   ·show(0:Int)<=((GK s.ay _).length:Nat);omega
   ·show((GK s.ay (s.ay.getD p .z).id).length:Int)<=1048576;unfold GK;omega
  ·exact pY.err h _ _ qD qD
 ·exact pY.err h _ _ qD qD
theorem abk{s:aZ}{p:Nat}{f:gX->gX}{r:eY}(h:kC s s.version)(hp:p<s.ay.length)(hid:∀ x,(f x).id=x.id)(hf:∀ x,BQ s.version x->BQ s.version (f x))(h1:0<=r.code/\r.code<=99)(h2:0<=r.n/\r.n<=1048576):pY s (nD s p f,r):=by
 have hmem:∀ x∈s.ay.set p (f (s.ay.getD p .z)),x∈s.ay\/x=f (s.ay.getD p .z):=λx hx=>List.mem_or_eq_of_mem_set hx
 refine⟨{ h with ay:=h.ay.set (hid _),zN:=?_,len:=?_,sn:=?_ },rfl,h1,h2,rfl⟩
 ·intro x hx;rcases hmem x hx with hx|rfl
  ·exact h.zN x hx
  ·rw[hid];exact h.zN _ (kM hp)
 ·show(s.ay.set _ _).length<=16;rw[oK];exact h.len
 ·intro x hx;rcases hmem x hx with hx|rfl
  ·exact h.sn x hx
  ·exact hf _ (h.sn _ (kM hp))
theorem KU{s:aZ}{c:aI}{f:Nat->aZ×eY}(h:kC s s.version)(hf:∀ p,p<s.ay.length->pY s (f p)):pY s (Dt s c f):=by
 unfold Dt;rcases hb:decide (eH s c.id<0) with _|_
 ·rw[di];have:=oZ hb;have:=acQ s c.id;exact hf _ qO
 ·exact pY.err h _ _ qD qD
theorem adv{s:aZ}{p:Nat}{b:Bool}(h:kC s s.version)(hp:p<s.ay.length)(hv:2<=s.version):pY s (Si b s p):=by
 unfold Si;rcases decide ((s.ay.getD p .z).held=b) with _|_
 ·exact abk h hp (λ_=>rfl) (λx hx=>⟨hx.row,hx.set,λ_=>hv,hx.tag,hx.SL⟩) qD qD
 ·exact pY.err h _ _ qD qD
theorem amz{k:Int}(n:Int)(h:lC k<=n):(k=9\/k=10->2<=n)/\(k=11\/k=12->3<=n):=by
 unfold lC at h;constructor <;> intro e <;> split at h <;> (try split at h) <;> (try split at h) <;> omega
theorem am1{s:aZ}{c:aI}{p:aZ×eY}(h:kC s s.version)(hc:fZ c s.version)(e:oC s c=some p):pY s p:=by
 have hf:=hc.fit;have hne:=amz _ hc.le;unfold oC at e;by_cases k2:c.kind=2
 ·rw[bg k2,dR]at e;injection e with e;subst e;exact akL h hf k2
 rw[aX k2,di]at e;by_cases k3:c.kind=3
 ·rw[bg k3,dR]at e;injection e with e;subst e;exact aik h hf k3
 rw[aX k3,di]at e;by_cases k4:c.kind=4
 ·rw[bg k4,dR]at e;injection e with e;subst e;exact akY h
 rw[aX k4,di]at e;by_cases k6:c.kind=6
 ·rw[bg k6,dR]at e;injection e with e;subst e
  exact⟨{ h with keep:=⟨hf.n.1,hf.n.2.2.2 k6⟩ },rfl,Kq,Y3,rfl⟩
 rw[aX k6,di]at e;by_cases k12:c.kind=12
 ·rw[bg k12,dR]at e;injection e with e;subst e
  have hw:=acE (λn=>decide (0<pJ s.ay n.toNat));have:=hne.2 (.inr k12);refine⟨{ h with l7:=⟨hf.n.1,hf.n.2.1⟩,Md:=λe=>by omega },rfl,Kq,⟨?_,?_⟩,rfl⟩
  ·show(0:Int)<=((Jr (pJ s.ay)).length:Nat);omega
  ·show((Jr (pJ s.ay)).length:Int)<=1048576;unfold Jr;omega
 rw[aX k12,di]at e;by_cases k5:c.kind=5
 ·rw[bg k5,dR]at e;injection e with e;subst e;exact KU h λp hp=>aji h
 rw[aX k5,di]at e;by_cases k7:c.kind=7
 ·rw[bg k7,dR]at e;injection e with e;subst e
  refine KU h λp hp=>?_
  have h1:=zQ (h.sn _ (kM (z:=.z) hp)).row;exact pY.err h _ _ qD qO
 rw[aX k7,di]at e;by_cases k9:c.kind=9
 ·rw[bg k9,dR]at e;injection e with e;subst e;exact KU h λp hp=>adv h hp (hne.1 (.inl k9))
 rw[aX k9,di]at e;by_cases k10:c.kind=10
 ·rw[bg k10,dR]at e;injection e with e;subst e;exact KU h λp hp=>adv h hp (hne.1 (.inr k10))
 rw[aX k10,di]at e;by_cases k11:c.kind=11
 ·rw[bg k11,dR]at e;injection e with e;subst e
  have h3:=hne.2 (.inl k11);exact KU h λp hp=>abk h hp (λ_=>rfl) (λx hx=>⟨hx.row,hx.set,hx.held,hf.text.1,λe=>by omega⟩) qD qD
 rw[aX k11,di]at e;cases e
theorem aeQ{c:aI}{v:Int}(h:qJ c v=0):lC c.kind≠0/\lC c.kind<=v/\(1<=v/\v<=3)/\wM c=true:=by
 unfold qJ at h;rcases h1:(bif !dN v 1 3 then true else decide (lC c.kind=0)) with _|_
 ·rw[h1,di]at h;rw[Jo,Jv,fQ]at h1;rcases h2:decide (v<lC c.kind) with _|_
  ·rw[h2,di]at h;rcases h3:wM c with _|_
   ·rw[h3]at h;cases h
   ·exact⟨h1.2,by have:=oZ h2;omega,JB h1.1,rfl⟩
  ·rw[h2]at h;cases h
 ·rw[h1]at h;cases h
structure nZ (c:aI):Prop where
 chunks:c.chunks.length<=100000
 text:c.text.length<=1000000
theorem LM{c:aI}{v:Int}(h:qJ c v=0)(hz:nZ c):fZ c v:=by
 obtain⟨h1,h2,h3,h4⟩:=aeQ h;exact⟨h1,h2,h3.2,h4,hz.chunks,hz.text⟩
theorem DF{s:aZ}{c:aI}(h:jw s c=0):kC s s.version/\qJ c s.version=0:=by
 unfold jw at h;rcases h1:decide (JR s s.version=0) with _|_
 ·rw[h1]at h;cases h
 ·rw[h1]at h;exact⟨abL.1 (jb h1),h⟩
theorem amG(c:aI)(v:Int):0<=qJ c v/\qJ c v<=10:=by
 unfold qJ;cases (bif !dN v 1 3 then true else decide (lC c.kind=0)) <;> cases decide (v<lC c.kind) <;> cases (!wM c) <;> decide
theorem amH(s:aZ)(c:aI):0<=jw s c/\jw s c<=10:=by
 unfold jw;cases (!decide (JR s s.version=0))
 ·exact amG _ _
 ·exact⟨by show(0:Int)<=1;decide,by show(1:Int)<=10;decide⟩
theorem MK{s:aZ}{c:aI}(h:kC s s.version)(hz:nZ c):pY s (lT s c):=by
 unfold lT;have hb:=amH s c;rcases h1:decide (jw s c=0) with _|_
 ·exact pY.err h _ _ qO qD
 ·have h2:=(DF (jb h1)).2;have hc:=LM h2 hz;rcases hk:oC s c with _|p
  ·exact pY.err h _ _ qD qD
  ·exact am1 h hc hk
theorem akQ{s:aZ}{c:aI}(h:kC s s.version)(hz:nZ c)(hc:Oe c):kC (GM s c).1 s.version/\(GM s c).1.version=s.version:=by
 unfold GM;rcases h1:decide (jT s c.bf<0) with _|_
 ·rcases decide (c.seq=(s.aN.getD (jT s c.bf).toNat .z).seq) with _|_
  ·rcases decide (c.seq<(s.aN.getD (jT s c.bf).toNat .z).seq) with _|_
   ·rcases decide ((s.aN.getD (jT s c.bf).toNat .z).seq+1<c.seq) with _|_
    ·have ha:=MK h hz (c:=c);have h1:=oZ h1;have hb:=acm s c.bf;have hp:(jT s c.bf).toNat<(lT s c).1.aN.length:=by rw[ha.aN];omega
     refine⟨{ ha.ok with aN:=ha.ok.aN.set (z:=.z) rfl,Dy:=?_,tN:=?_ },ha.oU⟩
     ·intro x hx;rcases List.mem_or_eq_of_mem_set hx with hx|rfl
      ·exact ha.ok.Dy x hx
      ·have h9:=ha.ok.Dy _ (kM (z:=.z) hp);exact h9
     ·intro x hx;rcases List.mem_or_eq_of_mem_set hx with hx|rfl
      ·exact ha.ok.tN x hx
      ·have e1:=JC (x:=c.seq) (a:=0) (b:=1048576) ⟨hc.seq.1,hc.seq.2.1⟩;have e2:=JC ha.code;have e3:=JC ha.n;unfold tN;simp only[e1,e2,e3,dR]
    ·exact⟨h,rfl⟩
   ·exact⟨h,rfl⟩
  ·exact⟨h,rfl⟩
 ·exact⟨h,rfl⟩
theorem aqA{s:aZ}{c:aI}(h:kC s s.version)(hz:nZ c):kC (pW s c).1 (pW s c).1.version/\((pW s c).1.version=s.version\/(c.kind=8/\c.n=s.version+1/\(pW s c).1.version=c.n/\qJ c s.version=0)):=by
 unfold pW;rcases h1:decide (jw s c=0) with _|_
 ·exact⟨h,.inl rfl⟩
 ·have h2:=(DF (jb h1)).2;have hc:=LM h2 hz;have hf:=hc.fit;simp only[Bool.not_true,di];by_cases k8:c.kind=8
  ·rw[bg k8,dR];by_cases hn:c.n=s.version+1
   ·rw[bg hn];have h3:=(hf.n.2.2.1 k8);refine⟨?_,.inr ⟨k8,hn,rfl,h2⟩⟩;have hm:=h.mono (w:=c.n) qO h3.2;exact { hm with oU:=by show 1<=c.n/\c.n<=3;omega }
   ·rw[aX hn];exact⟨h,.inl rfl⟩
  ·rw[aX k8,di];by_cases k1:c.kind=1
   ·rw[bg k1,dR];rcases h4:decide (0<=jT s c.bf) with _|_
    ·rw[di];have h4:=oZ h4;have hno:=Qd (p:=λx:uS=>decide (x.bf=c.bf)) (l:=s.aN) (i:=0) (by unfold jT at h4;omega);have hcl:=hf.bf;have asx:=hcl.2.2 k8;have hmem:∀ x∈rM s.aN (ahead (λx=>decide (x.bf<c.bf)) s.aN) ⟨c.bf,0,.z⟩,x∈s.aN\/x=⟨c.bf,0,.z⟩:=λx hx=>by
      unfold rM at hx;rcases List.mem_append.1 hx with hx|hx
      ·exact .inl (List.mem_of_mem_take hx)
      ·rcases List.mem_cons.1 hx with rfl|hx
       ·exact .inr rfl
       ·exact .inl (List.mem_of_mem_drop hx)
     refine⟨{ h with aN:=?_,Dy:=?_,tN:=?_ },.inl rfl⟩
     ·exact atZ (key:=λx:uS=>x.bf) h.aN (y:=⟨c.bf,0,.z⟩) hcl.2.1 (λx hx=>oZ (hno x hx))
     ·intro x hx;rcases hmem x hx with hx|rfl
      ·exact h.Dy x hx
      ·show 0<c.bf;omega
     ·intro x hx;rcases hmem x hx with hx|rfl
      ·exact h.tN x hx
      ·rfl
    ·exact⟨h,.inl rfl⟩
   ·rw[aX k1,di];have ha:=akQ h hz hf (c:=c);exact⟨by rw[ha.2];exact ha.1,.inl ha.2⟩
theorem adB{f:aY}{s:kD}(h1:f.aJ=0)(h2:s.aJ=0)(h3:0<f.n):xw f s 1=true:=by
 unfold xw;rw[h1,h2];simp;omega
theorem anh{f:aY}{s:kD}(h1:f.aJ=2)(h2:s.aJ=2)(h3:f.b≠[]):xw f s 1=true:=by
 have:=List.length_pos_iff.2 h3;unfold xw;rw[h1,h2];simp;omega
theorem aj1{f:aY}{s:kD}{n:Int}(h1:f.aJ=2)(h2:s.aJ=2)(h3:f.b≠[])(h4:s.many=true):xw f s n=true:=by
 have:=List.length_pos_iff.2 h3;unfold xw;rw[h1,h2,h4];simp;omega
theorem apc{a b:Bool}:(bif a then true else b)=(a||b):=by cases a <;> rfl
def XW(f:aY):Prop:=f.aJ=0/\0<f.n/\f.n<=1000000000/\f.b=[]
theorem Po:∀(l:List Int) (i:Nat),(∀ n∈l,0<=n/\n<=1000000000)->Gf (qm i l)/\∀ f∈qm i l,(i:Int)+1<=f.num/\f.num<=(i:Int)+l.length/\XW f
 |[],i,_=>⟨List.Pairwise.nil,λf hf=>by cases hf⟩
 |n::r,i,h=>by
  obtain⟨h1,h2⟩:=Po r (i+1) (λx hx=>h x (je _ hx));have hn:=h n jC;have e:qm i (n::r)=(if n=0 then [] else [⟨(i:Int)+1,0,n.toNat,[]⟩])++qm (i+1) r:=rfl;rw[e,ny];split
  ·rw[List.nil_append];exact⟨h1,λf hf=>by have:=h2 f hf;exact⟨by omega,by omega,this.2.2⟩⟩
  ·refine⟨?_,λf hf=>?_⟩
   ·rw[List.singleton_append];exact List.pairwise_cons.2 ⟨λf hf=>by have:=h2 f hf;show(i:Int)+1<f.num;omega,h1⟩
   ·rcases List.mem_append.1 hf with hf|hf
    ·obtain rfl:=List.mem_singleton.1 hf;exact⟨eF _,by show(i:Int)+1<=_;omega,rfl,by show 0<n.toNat;omega,by show n.toNat<=_;omega,rfl⟩
    ·have:=h2 f hf;exact⟨by omega,by omega,this.2.2⟩
theorem U5:∀(l:List Int) (i:Nat),(qm i l).length<=l.length
 |[],_=>bu _
 |n::r,i=>by
  have e:qm i (n::r)=(if n=0 then [] else [⟨(i:Int)+1,0,n.toNat,[]⟩])++qm (i+1) r:=rfl;have:=U5 r (i+1);rw[e,bW,ny];split <;> simp <;> omega
theorem adQ:(gI 1 0).1=[8]:=by decide
theorem aoa:(gI 2 2).1=[18]:=by decide
theorem Xz(e:dm):bF (kH e)=[8]++dV e.term.toNat++(if e.b=[] then [] else [18]++(dV e.b.length++e.b)):=by
 unfold kH bF;split
 ·simp[iJ,adQ]
 ·simp[iJ,adQ,aoa]
def JX(b:List UInt8):dm:=
 let p:=cO (b.drop 1)
 let r:=(b.drop 1).drop p.2.1
 ⟨p.1,match r with|[]=>[]|_::q=>q.drop (cO q).2.1⟩
theorem acd{e:dm}(he:pz e):JX (bF (kH e))=e:=by
 have ht:=he.term;have hb:=he.b;have e1:(bF (kH e)).drop 1=dV e.term.toNat++(if e.b=[] then [] else [18]++(dV e.b.length++e.b)):=by
  rw[Xz];simp
 have hv:=wo e.term.toNat (if e.b=[] then [] else [18]++(dV e.b.length++e.b)) qO;have hd:∀ r:List UInt8,(dV e.term.toNat++r).drop (gV e.term.toNat)=r:=λr=>by unfold gV;simp
 unfold JX;rw[e1,hv];simp only[hd];obtain⟨t,b⟩:=e;simp only at ht hb ⊢;congr 1
 ·omega
 ·by_cases h0:b=[]
  ·rw[if_pos h0,h0]
  ·rw[if_neg h0];simp only[List.singleton_append];rw[wo b.length b qO];simp[gV]
theorem KY{e:dm}(he:pz e):oV (kH e)/\Hz (eG 7 1) (kH e)/\(bF (kH e)).length<=250/\bF (kH e)≠[]:=by
 have ht:=he.term;have hb:=he.b;have hg:∀ f∈kH e,(f.num=1/\XW f)\/(f.num=2/\f.aJ=2/\f.n=0/\f.b≠[]/\f.b.length<=200):=by
  intro f hf;unfold kH at hf;split at hf
  ·obtain rfl:=List.mem_singleton.1 hf;exact .inl ⟨rfl,rfl,by show 0<e.term.toNat;omega,by show e.term.toNat<=_;omega,rfl⟩
  ·rename_i hne
   rcases List.mem_cons.1 hf with rfl|hf
   ·exact .inl ⟨rfl,rfl,by show 0<e.term.toNat;omega,by show e.term.toNat<=_;omega,rfl⟩
   ·obtain rfl:=List.mem_singleton.1 hf;exact .inr ⟨rfl,rfl,rfl,hne,hb⟩
 have hu:Gf (kH e):=by
  unfold kH Gf;split <;> simp
 have hl:(kH e).length<=2:=by unfold kH;split <;> simp
 have iC:∀ f∈kH e,f.fit/\nR f=true/\f.b.length<=200:=by
  intro f hf;unfold aY.fit nR;rcases hg f hf with ⟨h1,h2,h3,h4,h5⟩|⟨h1,h2,h3,h4,h5⟩
  ·rw[h1,h2,h5];exact⟨⟨by omega,by omega,by omega,by omega,by omega,by simp⟩,by simp,by simp⟩
  ·rw[h1,h2,h3];exact⟨⟨by omega,by omega,by omega,by omega,by omega,by omega⟩,by simp,by omega⟩
 have hlen:(bF (kH e)).length<=250:=by
  rw[Xz];have:=uY e.term.toNat;have:=uY e.b.length;split <;> simp <;> omega
 have hok:oV (kH e):=⟨λi hi=>(iC _ (iT hi)).1,λi hi=>(iC _ (iT hi)).2.1,λi hi=>by have:=(iC _ (iT (z:=.z) hi)).2.2;omega,λi h0 hi=>aa4 hu h0 hi,by omega,by omega⟩;refine⟨hok,⟨hok,by decide,by decide,λi hi j hj he2=>?_,λj hj hn=>?_⟩,hlen,?_⟩
 ·rw[WS hu hi];have hs:∀ s∈eG 7 1,(s.num=1/\s.aJ=0)\/(s.num=2/\s.aJ=2):=by simp[eG,nK,tJ,n4,b4]
  have h1:=hs _ (iT (z:=.z) hj);rcases hg _ (iT (z:=.z) hi) with ⟨g1,g2,g3,g4,g5⟩|⟨g1,g2,g3,g4,g5⟩ <;> rcases h1 with ⟨k1,k2⟩|⟨k1,k2⟩
  ·exact adB g2 k2 g3
  ·omega
  ·omega
  ·exact anh g2 k2 g4
 ·have hs:∀ s∈eG 7 1,s.kz=true->s.num=1:=by simp[eG,nK,tJ,n4,b4]
  have e1:=hs _ (iT (z:=.z) hj) hn;refine WT (f:=⟨1,0,e.term.toNat,[]⟩) ?_ (by rw[e1]);unfold kH;split <;> simp
 ·rw[Xz];simp
structure jJ (x:aP):Prop where
 kind:1<=x.kind/\x.kind<=4
 src:0<=x.src/\x.src<=4
 dst:0<=x.dst/\x.dst<=4
 ne:x.src≠x.dst
 term:1<=x.term/\x.term<=1048576
 bin:1<=x.bin/\x.bin<=3
 a:0<=x.a/\x.a<=64/\(x.kind=2->x.a=0)
 b:0<=x.b/\x.b<=1048576/\(x.kind=2\/x.kind=4->x.b=0)
 c:0<=x.c/\x.c<=64/\(x.kind≠3->x.c=0)
 ok:x.ok=true->x.kind=2\/x.kind=4
 len:x.l.length<=4/\(x.kind≠3->x.l=[])
 es:∀ e∈x.l,pz e
theorem aqd{l:List dm}(h:lG l=0):∀ e∈l,pz e:=by
 induction l with
 |nil=>intro e he;cases he
 |cons y r ih=>
  have h:(bif FH y then 1 else lG r)=(0:Int):=h;cases hb:FH y
  ·rw[hb,di]at h;intro e he;rcases List.mem_cons.1 he with rfl|he
   ·unfold FH dN at hb;by_cases h1:1<=e.term/\e.term<=1048576
    ·rw[bg h1]at hb;have hb:decide (200<(e.b.length:Int))=false:=hb;have:=oZ hb;exact⟨h1,by omega⟩
    ·rw[aX h1]at hb;cases hb
   ·exact ih h e he
  ·rw[hb]at h;cases h
theorem aqx{l:List dm}(h:∀ e∈l,pz e):lG l=0:=by
 induction l with
 |nil=>rfl
 |cons y r ih=>
  have hy:=h y jC;have hb:FH y=false:=by
   unfold FH dN;rw[bg hy.term];show decide (200<(y.b.length:Int))=false;have:=hy.b;exact aX qO
  show(bif FH y then 1 else lG r)=0;rw[hb];exact ih λe he=>h e (je _ he)
theorem EF{x:aP}:Aj x=0↔jJ x:=by
 have hsz:Aj x=0↔lH x=true/\lG x.l=0:=by
  unfold Aj;cases lH x <;> simp
 rw[hsz];unfold lH;simp only[WW,apc,qc,dN,GN,fC,Bool.or_eq_true,mr,fQ];constructor
 ·rintro⟨⟨⟨⟨⟨⟨⟨⟨⟨⟨⟨h1,h2⟩,h3⟩,h4⟩,h5⟩,h6⟩,h7⟩,h8⟩,h9⟩,h10⟩,h11⟩,h12⟩;have hk:1<=x.kind/\x.kind<=4:=qO;refine⟨hk,h2,h3,h4,h5,h6,?_,?_,?_,?_,?_,aqd h12⟩
  ·split at h7 <;> omega
  ·split at h8 <;> omega
  ·split at h9 <;> omega
  ·intro e;rcases h10 with (h10|h10)|h10
   ·rw[h10]at e;cases e
   ·exact .inl h10
   ·exact .inr h10
  ·refine⟨by split at h11 <;> omega,λhne=>uw (by rw[if_neg hne]at h11;omega)⟩
 ·intro h;have hk:=h.kind;have ha:=h.a;have hb:=h.b;have hc:=h.c;have hl:=h.len;refine⟨⟨⟨⟨⟨⟨⟨⟨⟨⟨⟨by omega,h.src⟩,h.dst⟩,h.ne⟩,h.term⟩,h.bin⟩,?_⟩,?_⟩,?_⟩,?_⟩,?_⟩,aqx h.es⟩
  ·split <;> omega
  ·split <;> omega
  ·split <;> omega
  ·cases ho:x.ok
   ·exact .inl (.inl rfl)
   ·rcases h.ok ho with h|h
    ·exact .inl (.inr h)
    ·exact .inr h
  ·split
   ·omega
   ·rename_i hne
    rw[hl.2 hne];simp
def mG(x:aP):List Int:=[x.kind,x.src+1,x.dst+1,x.term,x.bin,x.a,x.b,x.c,if x.ok=true then 1 else 0]
def DZ(e:dm):aY:=⟨10,2,0,bF (kH e)⟩
def jM(x:aP):List aY:=pK (mG x)++x.l.map DZ
def kU(x:aP):List UInt8:=bF (jM x)
theorem jJ.nums{x:aP}(h:jJ x):∀ n∈mG x,0<=n/\n<=1000000000:=by
 have h1:=h.kind;have h2:=h.src;have h3:=h.dst;have h4:=h.term;have h5:=h.bin;have h6:=h.a;have h7:=h.b;have h8:=h.c;intro n hn;simp only[mG,List.mem_cons,List.not_mem_nil,or_false]at hn;rcases hn with rfl|rfl|rfl|rfl|rfl|rfl|rfl|rfl|rfl
 all_goals first|omega|(split <;> omega)
theorem VC{x:aP}(h:jJ x):(jM x).length<=13:=by
 have h1:=U5 (mG x) 0;have h2:=h.len;have h3:(mG x).length=9:=rfl;unfold jM pK;rw[bW,lJ];omega
theorem KW{x:aP}(h:jJ x):∀ f∈jM x,(1<=f.num/\f.num<=9/\XW f)\/(f.num=10/\f.aJ=2/\f.n=0/\∃ e,pz e/\f.b=bF (kH e)):=by
 intro f hf;rcases List.mem_append.1 hf with hf|hf
 ·obtain⟨_,h2⟩:=Po (mG x) 0 h.nums;obtain⟨q1,q2,q3⟩:=h2 f hf;have h3:(mG x).length=9:=rfl;exact .inl ⟨by omega,by omega,q3⟩
 ·obtain⟨e,he,rfl⟩:=List.mem_map.1 hf;exact .inr ⟨rfl,rfl,rfl,e,h.es e he,rfl⟩
theorem Lm{x:aP}(h:jJ x):∀ f∈jM x,f.fit/\nR f=true/\f.b.length<=250:=by
 intro f hf;unfold aY.fit nR;rcases KW h f hf with ⟨h1,h2,h3,h4,h5,h6⟩|⟨h1,h2,h3,e,he,h4⟩
 ·rw[h3,h6];refine⟨⟨by omega,by omega,by omega,by omega,by omega,by simp⟩,?_,by simp⟩;simp;omega
 ·have:=(KY he).2.2.1;rw[h1,h2,h3,h4];exact⟨⟨by omega,by omega,by omega,by omega,by omega,by omega⟩,by simp,by omega⟩
theorem ah5{x:aP}(h:jJ x){i:Nat}(h0:0<i)(hi:i<(jM x).length):wG ((jM x).getD ((i:Int)-1).toNat .z) ((jM x).getD i .z)=true:=by
 obtain⟨j,rfl⟩:∃ j,i=j+1:=⟨i-1,by omega⟩;rw[show((((j+1:Nat):Int))-1).toNat=j by omega];obtain⟨hu,h2⟩:=Po (mG x) 0 h.nums;have h3:(mG x).length=9:=rfl;have hn:qm 0 (mG x)=pK (mG x):=rfl;rw[hn]at hu h2;by_cases hj:j+1<(pK (mG x)).length
 ·have:=List.pairwise_iff_getElem.1 hu j (j+1) qO hj qO;unfold jM;rw[bC,bC,mO hj,mO qO,dW hj,dW (show j<_ by omega)];simp only[Option.getD_some];unfold wG;rw[if_neg qO];simpa using this
 ·have e2:((jM x).getD (j+1) .z).num=10/\((jM x).getD (j+1) .z).aJ=2:=by
   unfold jM at hi ⊢;rw[bW]at hi;rw[bC,oW qO,qY,dW (by rw[lJ]at hi;omega)];exact⟨rfl,rfl⟩
  have hm:=iT (z:=aY.z) (show j<(jM x).length by omega);unfold wG;rw[e2.1,e2.2];rcases KW h _ hm with ⟨q1,q2,_⟩|⟨q1,q2,_⟩
  ·rw[if_neg qO];exact bg qO
  ·rw[if_pos q1.symm,q2];rfl
theorem QB{x:aP}(h:jJ x):oV (jM x):=by
 have hl:=VC h;refine⟨λi hi=>(Lm h _ (iT hi)).1,λi hi=>(Lm h _ (iT hi)).2.1,λi hi=>by have:=(Lm h _ (iT (z:=.z) hi)).2.2;omega,λi h0 hi=>ah5 h h0 hi,?_,by omega⟩;have:=aal (l:=jM x) (B:=270) (λf hf=>by
  have:=Lm h f hf;have:=I8 this.1;omega)
 have:=uV 270 hl;omega
theorem aoh:0<(eG 6 1).length/\(eG 6 1).length<=10/\(∀ s∈eG 6 1,(s.num<=9/\s.aJ=0)\/(s.num=10/\s.aJ=2/\s.many=true))/\∀ s∈eG 6 1,s.kz=true->1<=s.num/\s.num<=4:=by
 refine⟨by decide,by decide,?_,?_⟩ <;> simp[eG,nK,tJ,MZ,n4,b4]
theorem aoO{x:aP}(h:jJ x):Hz (eG 6 1) (jM x):=by
 obtain⟨s1,s2,s3,s4⟩:=aoh;obtain⟨hu,h2⟩:=Po (mG x) 0 h.nums;have hn:qm 0 (mG x)=pK (mG x):=rfl;have h3:(mG x).length=9:=rfl;rw[hn]at hu h2;refine⟨QB h,s1,s2,λi hi j hj he=>?_,λj hj aqn=>?_⟩
 ·have hs:=s3 _ (iT (z:=.z) hj);have hm:=iT (z:=aY.z) hi;rcases KW h _ hm with ⟨q1,q2,q3,q4,q5,q6⟩|⟨q1,q2,q3,e,he2,q4⟩
  ·have hlt:i<(pK (mG x)).length:=by
    refine Nat.lt_of_not_le λhle=>?_
    have:((jM x).getD i .z).num=10:=by
     unfold jM at hi ⊢;rw[bW]at hi;rw[bC,oW qO,qY,dW (by rw[lJ]at hi;omega)];rfl
    omega
   have e1:(jM x).take (i+1)=(pK (mG x)).take (i+1):=by
    unfold jM;rw[List.take_append_of_le_length qO]
   have e2:(jM x).getD i .z=(pK (mG x)).getD i .z:=by
    unfold jM;rw[bC,bC,mO hlt]
   rw[e1,e2,WS hu hlt,<-e2];rcases hs with ⟨k1,k2⟩|⟨k1,k2,k3⟩
   ·exact adB q3 k2 q4
   ·omega
  ·rcases hs with ⟨k1,k2⟩|⟨k1,k2,k3⟩
   ·omega
   ·exact aj1 q2 k2 (by rw[q4];exact(KY he2).2.2.2) k3
 ·have hs:=s4 _ (iT (z:=.z) hj) aqn;have AB:=h.kind;have CB:=h.src;have hx3:=h.dst;have hx4:=h.term;have key:∀ k:Int,1<=k->k<=4->∃ f∈jM x,f.num=k:=by
   intro k hk1 hk2;unfold jM pK mG qm;rw[if_neg qO];unfold qm;rw[if_neg qO];unfold qm;rw[if_neg qO];unfold qm;rw[if_neg qO];rcases(show k=1\/k=2\/k=3\/k=4 by omega) with rfl|rfl|rfl|rfl <;> simp
  obtain⟨f,hf,hk⟩:=key _ hs.1 hs.2;exact WT hf hk
def iI(s:bP)(t:Int):List aT:=bif decide (t<=s.term) then [] else kP t 0
theorem Qy(s:bP)(t:Int):aQ 162 [jc s,iV t] (.d (iq (iI s t))):=by
 by_cases h:t<=s.term
 ·exact(abI s t h).Tn λX=>Fin.tell (asQ (by unfold iI;rw[bg h];rfl))
 ·refine(abH s t qO).Tn λX=>Fin.dC (i:=1) (h:=λj=>oH ((kP t 0).getD j .z)) iw (Fin.tell (vq (jR.trans ?_) tv))
  show V.d (iq (kP t 0))=V.d (iq (iI s t));unfold iI;rw[aX h];rfl
theorem an3(t w:Int):aQ 93 [iV t,iV w] (.d (iq (kP t w))):=
 (WZ t w).Tn λX=>Fin.dC (i:=0) (h:=λj=>oH ((kP t w).getD j .z)) iw (Fin.tell (vq jR trivial))
def YQ(s:bP)(x:aP):Bool:=bif (bif decide (x.term<s.term) then true else !(bif (bif decide (s.term<x.term) then true else decide (s.gZ=0)) then true else decide (s.gZ=x.src+1))) then true else !aeb s.log x.a x.b
def lK(s:bP)(x:aP):List aT×Bool:=bif YQ s x then (iI s x.term,false) else bif (bif decide (x.term=s.term) then decide (s.gZ=x.src+1) else false) then ([],true) else (kP x.term (x.src+1),true)
theorem acx(s:bP)(x:aP)(hx:jJ x)(cZ:x.kind=1)(hl:s.log.length<=1000):aQ 160 [jc s,jy x] (bQ [.d (iq (lK s x).1),.b (lK s x).2,iV 0]):=by
 refine asz Tryz.func160 λX=>?_
 (repeat' (first|exact asM rfl ⟨vq (gz (λL=>V.d (iq L)) (by rw[show lK s x=_ from dF h])) tv,vq (gz V.b (by rw[show lK s x=_ from dF h])) tv,qV,tv⟩|exact asM rfl ⟨asQ (by rw[show lK s x=_ from (bz aj).trans (dF h)];rfl),vq (gz V.b (by rw[show lK s x=_ from (bz aj).trans (dF h)])) tv,qV,tv⟩|exact asM rfl ⟨vq (gz (λL=>V.d (iq L)) (by rw[show lK s x=_ from (bz aj).trans (bz h)])) tv,vq (gz V.b (by rw[show lK s x=_ from (bz aj).trans (bz h)])) tv,qV,tv⟩|refine ai.mk (λh=>au h (by rw[EF.2 hx,cZ];decide)) (λh=>?_)|refine oz ?_|refine asA (CZ x (by have:=hx.len;omega)) ?_|refine aU (V.b (bif (bif decide (s.term<x.term) then true else decide (s.gZ=0)) then true else decide (s.gZ=x.src+1))) (ed (λht=>ae.of (f:=210) Tryz.func210 rfl rfl qN λX2=>?_) ?_)|refine aU _ (ed (λht=>ae.tell (anc s.log x.a x.b (by omega)) vw ⟨rfl,rfl⟩) ?_)|refine asA (Qy s x.term) ?_|refine asA (an3 x.term (x.src+1)) ?_|exact Fin.here ⟨rfl,rfl⟩|refine ai.mk (λh=>?_) (λh=>?_)|refine ag.a ?_|refine ag.mk ?_ ?_))<;>try exact aB
 all_goals (have:=hx.src;simp only[dQ];omega)
def Na(s:bP)(r:OT):aP:=⟨3,r.src,r.dst,s.term,r.next-1,qo s.log (r.next-1),r.eQ,r.bin,false,Bf s.log (r.next-1) 4⟩
theorem ad9(s:bP)(r:OT)(h1:1<=r.next/\r.next<=s.log.length+1)(hl:s.log.length<=1000)(hy:jJ (Na s r)):aQ 95 [jc s,arl r] (bQ [jy (Na s r),iV 0]):=by
 refine asz Tryz.func95 λX=>?_
 (repeat' (first|refine ai.mk (λh=>au h (by rw[aX (show ¬r.next<1 by omega),aX (show ¬(s.log.length:Int)+1<r.next by omega)];decide)) (λh=>?_)|refine ai.mk (λh=>au h (by rw[show Aj (Na s r)=0 from EF.2 hy];decide)) (λh=>?_)|refine oz ?_|refine asD 4 [20,21] [o2,o2,o2,o2,o2,o2,o2,o2,o2,o2,o2,o2,o2,o2,o2,o2,o2,o2,o2,o2,o1,(1,1,true,[])] ?_|refine mc ?_ ?_|refine asA (CZ (Na s r) (by have:=hy.len;omega)) ?_|refine asN (L6 s.log (r.next-1) (by omega)) ?_|refine asN (acu s.log (r.next-1) 4 (by omega)) ?_|refine ag.a ?_|exact asM rfl vw|refine ag.mk ?_ ?_))<;>(try(refine dh.mk ?_;repeat' (first|exact tv|exact rfl|refine asA (L6 s.log (r.next-1) (by omega)) ?_|refine asA (acu s.log (r.next-1) 4 (by omega)) ?_|refine an ?_ ?_|refine ag.mk ?_ ?_)))
 all_goals try exact aB
def ou(n:Int)(l:List dm):List aT:=(List.range l.length).map λ(i:Nat)=>⟨3,n+(i:Int)+1,(l.getD i .z).term,(l.getD i .z).b⟩
def uJ(c:Int):List aT:=bif !decide (c=0) then [⟨4,c,0,[]⟩] else []
def bi(s:bP)(x:aP):List aT×Bool×Int:=
 bif decide (x.term<s.term) then ([],false,0)
 else bif !decide (qo s.log x.a=x.b) then (iI s x.term,false,0)
 else ((iI s x.term++uJ (qi s.log x.a.toNat x.l).1)++ou (x.a+x.l.length-(qi s.log x.a.toNat x.l).2.length) (qi s.log x.a.toNat x.l).2,true,x.a+x.l.length)
theorem alo(s:bP)(x:aP)(hx:jJ x)(cZ:x.kind=3)(jQ:x.a+x.l.length<=64)(hl:s.log.length<=1000)(ht:x.term<s.term):aQ 157 [jc s,jy x] (bQ [.d (iq (bi s x).1),.b (bi s x).2.1,iV (bi s x).2.2,iV 0]):=by
 refine asz Tryz.func157 λX=>?_
 (repeat' (first|refine ai.mk (λh=>au h (by rw[EF.2 hx,cZ,aX (show ¬(64:Int)<x.a+x.l.length by omega)];decide)) (λh=>?_)|refine oz ?_|refine asA (CZ x (by have:=hx.len;omega)) ?_|refine asL (λh=>?_)|refine ag.a ?_|exact asM rfl ⟨asQ (by rw[show bi s x=_ from dF (bg ht)];rfl),vq (gz V.b (by rw[show bi s x=_ from dF (bg ht)])) tv,vq (gz iV (by rw[show bi s x=_ from dF (bg ht)])) tv,qV,tv⟩|refine ag.mk ?_ ?_))<;>try exact aB
 all_goals (have:=hx.a;simp only[dQ];omega)
theorem alj(s:bP)(x:aP)(hx:jJ x)(cZ:x.kind=3)(jQ:x.a+x.l.length<=64)(hl:s.log.length<=1000)(ht:¬x.term<s.term)(hn:qo s.log x.a≠x.b):aQ 157 [jc s,jy x] (bQ [.d (iq (bi s x).1),.b (bi s x).2.1,iV (bi s x).2.2,iV 0]):=by
 refine asz Tryz.func157 λX=>?_
 (repeat' (first|refine ai.mk (λh=>au h (by rw[EF.2 hx,cZ,aX (show ¬(64:Int)<x.a+x.l.length by omega)];decide)) (λh=>?_)|refine ai.mk (λh=>?_) (λh=>au h (by rw[aX hn];decide))|refine oz ?_|refine asA (CZ x (by have:=hx.len;omega)) ?_|refine asA (Qy s x.term) ?_|refine asA (WB s.log x.a x.b (by omega)) ?_|refine ai.n (λh=>?_)|refine ag.a ?_|exact asM rfl ⟨vq (gz (λL=>V.d (iq L)) (by rw[show bi s x=_ from (bz (aX ht)).trans (dF h)])) tv,vq (gz V.b (by rw[show bi s x=_ from (bz (aX ht)).trans (dF h)])) tv,vq (gz iV (by rw[show bi s x=_ from (bz (aX ht)).trans (dF h)])) tv,qV,tv⟩|refine ag.mk ?_ ?_))<;>try exact aB
 all_goals (have:=hx.a;simp only[dQ];omega)
abbrev kK(s:bP)(x:aP):Int×List dm:=qi s.log x.a.toNat x.l
abbrev FV(s:bP)(x:aP):List aT:=iI s x.term++uJ (kK s x).1
abbrev Oq(s:bP)(x:aP):Int:=x.a+x.l.length-(kK s x).2.length
theorem QA:∀(b:Int) (h l:List dm),(jP b h l).2.length<=l.length
 |b,h,[]=>by unfold jP;exact bu _
 |b,[],x::r=>by unfold jP;exact bu _
 |b,y::t,x::r=>by
  unfold jP;cases decide (y.term=x.term)
  ·exact bu _
  ·have:=QA (b+1) t r;simp only[dR,ny];omega
theorem abM{s:bP}{x:aP}(hx:jJ x)(h:qo s.log x.a=x.b):x.a.toNat<=s.log.length:=by
 unfold qo at h;have:=hx.a;have:=hx.b;by_cases h1:x.a=0
 ·omega
 ·rw[aX h1,di,aX (show ¬x.a<0 by omega),di]at h;by_cases h2:(s.log.length:Int)<x.a
  ·rw[bg h2,dR]at h;omega
  ·omega
theorem SK{s:bP}{x:aP}{B:List aT}(hb:iI s x.term=B)(h:(!decide ((kK s x).1=0))=true):FV s x=B++[⟨4,(kK s x).1,0,[]⟩]:=by
 show iI s x.term++uJ (kK s x).1=_;unfold uJ;rw[hb,h];rfl
theorem ND{s:bP}{x:aP}{B:List aT}(hb:iI s x.term=B)(h:(!decide ((kK s x).1=0))=false):FV s x=B:=by
 show iI s x.term++uJ (kK s x).1=_;unfold uJ;rw[hb,h];exact pG _
theorem TP{s:bP}{t:Int}(h:t=s.term):iI s t=[]:=by unfold iI;rw[bg qO];rfl
theorem Ox{s:bP}{t:Int}(h:s.term<t):iI s t=kP t 0:=by unfold iI;rw[aX qO];rfl
theorem P5{n:Int}{l:List dm}:(ou n l).length=l.length:=by unfold ou;rw[lJ,List.length_range]
theorem acM{s:bP}{x:aP}:(FV s x).length<=2:=by
 show(iI s x.term++uJ (kK s x).1).length<=2;unfold iI uJ;cases decide (x.term<=s.term) <;> cases decide ((kK s x).1=0) <;> simp[kP]
theorem ac1{n:Int}{l:List dm}{i:Nat}(h:i<l.length):(ou n l).getD i .z=⟨3,n+i+1,(l.getD i .z).term,(l.getD i .z).b⟩:=by
 unfold ou;rw[bC,qY,List.getElem?_range h];rfl
theorem Js{s:bP}{x:aP}(ht:¬x.term<s.term)(hn:qo s.log x.a=x.b):bi s x=(FV s x++ou (Oq s x) (kK s x).2,true,x.a+x.l.length):=(bz (aX ht)).trans (bz (by rw[bg hn];rfl))
theorem alm(s:bP)(x:aP)(hx:jJ x)(cZ:x.kind=3)(jQ:x.a+x.l.length<=64)(hl:s.log.length<=1000)(hn:qo s.log x.a=x.b)(ht:x.term=s.term):aQ 157 [jc s,jy x] (bQ [.d (iq (bi s x).1),.b (bi s x).2.1,iV (bi s x).2.2,iV 0]):=by
 have hml:(kK s x).2.length<=x.l.length:=QA _ _ _;have hxa:=hx.a;have hxl:=hx.len;refine asz Tryz.func157 λX=>?_
 (repeat' (first|refine Fin.dC (i:=2) (h:=λj=>oH (a.getD j .z)) iw (Fin.tell (asG [.d (iq (bi s x).1),.b (bi s x).2.1,iV (bi s x).2.2,iV 0] rfl fr ⟨vq (jR.trans (gz (λL=>V.d (iq L)) (show a=(bi s x).1 by rw[Js (show ¬x.term<s.term by omega) hn,hp,lW (by rw[P5];exact(by have h8:=bJ (aj:decide ((i:Int)<((kK s x).2.length:Int))=false);omega))]))) tv,vq (gz V.b (by rw[Js (show ¬x.term<s.term by omega) hn])) tv,vq (gz iV (by rw[Js (show ¬x.term<s.term by omega) hn])) tv,qV,tv⟩))|refine ai.mk (λh=>au h (by rw[EF.2 hx,cZ,aX (show ¬(64:Int)<x.a+x.l.length by omega)];decide)) (λh=>?_)|refine T.cut (y:=.seq (.seq (.region 10 _ _) _) _) ⟨95,[(2,.ptr 0 0),(3,.ptr 1 0),(4,.dE),(5,.b false),(6,iV (x.a+x.l.length)),(7,iV 0),(8,iV (kK s x).1),(9,.d (jg (kK s x).2))],⟨[(0,.blk 4 (λk=>.d (kW s k))),(1,.blk 10 (λk=>.d (jF x k)))],2⟩⟩ ?_ (asW 4 138 (λj k=>.d (oH (([]:List aT).getD j .z) k)) rfl rfl qN (T.seq ?_))|refine asI (c:=.seq (.region 13 _ _) _) (kK s x).2.length (λi (a:List aT)=>⟨95,[(2,.ptr 0 0),(3,.ptr 1 0),(4,.row 2 a.length),(5,.b false),(6,iV (x.a+x.l.length)),(7,iV 0),(8,iV (kK s x).1),(9,.d (jg (kK s x).2)),(70,.d (jg (kK s x).2)),(71,iV (kK s x).2.length),(72,iV i)],⟨[(0,.blk 4 (λk=>.d (kW s k))),(1,.blk 10 (λk=>.d (jF x k))),(2,dw 138 4 oH .z a)],3⟩⟩) (λi a=>a=FV s x++(ou (Oq s x) (kK s x).2).take i) (FV s x) ?_ ?_ (λi a hi hp=>?_)|refine aU (a++[(ou (Oq s x) (kK s x).2).getD i .z]) ⟨?_,?_,?_⟩|refine ai.mk (λh=>au h (by rw[bg hn];decide)) (λh=>?_)|refine oz ?_|refine asA (CZ x (by have:=hx.len;omega)) ?_|refine asA (abI s x.term (by omega)) ?_|refine asA (WB s.log x.a x.b (by omega)) ?_|refine ae.tell (adn s.log x.a.toNat x.l (abM hx hn) hl (by have:=hx.len;omega)) ⟨VW.refl tv,vq (gz iV (by have:=hx.a;omega)) tv,VW.refl tv,tv⟩ ?_|refine ai.n (λh=>?_)|refine ai.mk (λh=>?_) (λh=>?_)|refine ag.a ?_|refine ag.mk ?_ ?_))<;>try exact aB
 all_goals (try(refine aV.mk rfl qN qN ?_ ?_ <;> repeat' (first|exact tv|exact qV|exact qW|refine vq (gz (V.row _) ?_) qN|refine an ⟨nb rfl,af.blk ?_⟩ ?_|refine an ⟨nb rfl,af.row ?_ (λj hj k hk=>asB ?_)⟩ ?_|refine an ?_ ?_)))
 all_goals first|(rw[SK (TP ht) h];rfl)|(rw[ND (TP ht) h];rfl)|(have hk:k<4:=hk;rw[SK (TP ht) h];refine cm (oq (a:=([]:List aT)) rfl hj fr (λj hj=>?_));obtain rfl:j=0:=Nat.lt_one_iff.1 hj;rcases k with _|_|_|_|k;exact qV;exact qV;exact qV;exact asQ rfl;omega)|(rw[ND (TP ht) h];exact cm qV)|(rw[hp,kE,<-lX aT.z (by rw[P5];exact(by have h8:=aS (aj:decide ((i:Int)<((kK s x).2.length:Int))=true);omega))];done)|(have h7:=gz List.length hp;rw[bW,dP]at h7;have h8:=acM (s:=s) (x:=x);have h9:=hx.len;(omega))|(simp;done)|(have hj:j<a.length+1:=hj;have hk:k<4:=hk;rw[ac1 (by have h8:=aS (aj:decide ((i:Int)<((kK s x).2.length:Int))=true);omega)];refine cm (oq rfl hj fr (λj hj=>?_));obtain rfl:j=0:=Nat.lt_one_iff.1 hj;rcases k with _|_|_|_|k;exact qV;exact qV;exact qV;exact qV;omega)|exact(by have h8:=aS (aj:decide ((i:Int)<((kK s x).2.length:Int))=true);omega)
theorem alk(s:bP)(x:aP)(hx:jJ x)(cZ:x.kind=3)(jQ:x.a+x.l.length<=64)(hl:s.log.length<=1000)(hn:qo s.log x.a=x.b)(ht:s.term<x.term):aQ 157 [jc s,jy x] (bQ [.d (iq (bi s x).1),.b (bi s x).2.1,iV (bi s x).2.2,iV 0]):=by
 have hml:(kK s x).2.length<=x.l.length:=QA _ _ _;have hxa:=hx.a;have hxl:=hx.len;refine asz Tryz.func157 λX=>?_
 (repeat' (first|refine Fin.dC (i:=3) (h:=λj=>oH (a.getD j .z)) iw (Fin.tell (asG [.d (iq (bi s x).1),.b (bi s x).2.1,iV (bi s x).2.2,iV 0] rfl fr ⟨vq (jR.trans (gz (λL=>V.d (iq L)) (show a=(bi s x).1 by rw[Js (show ¬x.term<s.term by omega) hn,hp,lW (by rw[P5];exact(by have h8:=bJ (aj:decide ((i:Int)<((kK s x).2.length:Int))=false);omega))]))) tv,vq (gz V.b (by rw[Js (show ¬x.term<s.term by omega) hn])) tv,vq (gz iV (by rw[Js (show ¬x.term<s.term by omega) hn])) tv,qV,tv⟩))|refine ai.mk (λh=>au h (by rw[EF.2 hx,cZ,aX (show ¬(64:Int)<x.a+x.l.length by omega)];decide)) (λh=>?_)|refine T.cut (y:=.seq (.seq (.region 10 _ _) _) _) ⟨95,[(2,.ptr 0 0),(3,.ptr 1 0),(4,.row 3 (kP x.term 0).length),(5,.b false),(6,iV (x.a+x.l.length)),(7,iV 0),(8,iV (kK s x).1),(9,.d (jg (kK s x).2))],⟨[(0,.blk 4 (λk=>.d (kW s k))),(1,.blk 10 (λk=>.d (jF x k))),(3,dw 138 4 oH .z (kP x.term 0))],4⟩⟩ ?_ (T.seq ?_)|refine asI (c:=.seq (.region 13 _ _) _) (kK s x).2.length (λi (a:List aT)=>⟨95,[(2,.ptr 0 0),(3,.ptr 1 0),(4,.row 3 a.length),(5,.b false),(6,iV (x.a+x.l.length)),(7,iV 0),(8,iV (kK s x).1),(9,.d (jg (kK s x).2)),(70,.d (jg (kK s x).2)),(71,iV (kK s x).2.length),(72,iV i)],⟨[(0,.blk 4 (λk=>.d (kW s k))),(1,.blk 10 (λk=>.d (jF x k))),(3,dw 138 4 oH .z a)],4⟩⟩) (λi a=>a=FV s x++(ou (Oq s x) (kK s x).2).take i) (FV s x) ?_ ?_ (λi a hi hp=>?_)|refine aU (a++[(ou (Oq s x) (kK s x).2).getD i .z]) ⟨?_,?_,?_⟩|refine ai.mk (λh=>au h (by rw[bg hn];decide)) (λh=>?_)|refine oz ?_|refine asA (CZ x (by have:=hx.len;omega)) ?_|refine asP (abH s x.term ht) ?_|refine asA (WB s.log x.a x.b (by omega)) ?_|refine ae.tell (adn s.log x.a.toNat x.l (abM hx hn) hl (by have:=hx.len;omega)) ⟨VW.refl tv,vq (gz iV (by have:=hx.a;omega)) tv,VW.refl tv,tv⟩ ?_|refine ai.n (λh=>?_)|refine ai.mk (λh=>?_) (λh=>?_)|refine ag.a ?_|refine ag.mk ?_ ?_))<;>try exact aB
 all_goals (try(refine aV.mk rfl qN qN ?_ ?_ <;> repeat' (first|exact tv|exact qV|exact qW|refine vq (gz (V.row _) ?_) qN|refine an ⟨nb rfl,af.blk ?_⟩ ?_|refine an ⟨nb rfl,af.row ?_ (λj hj k hk=>asB ?_)⟩ ?_|refine an ?_ ?_)))
 all_goals first|exact rfl|exact cm qV|exact⟨rfl,nb rfl⟩|(rw[SK (Ox ht) h];rfl)|(rw[ND (Ox ht) h];done)|(rw[ND (Ox ht) h];rfl)|(have hk:k<4:=hk;rw[SK (Ox ht) h];refine cm (oq (a:=(kP x.term 0)) rfl hj fr (λj hj=>?_));obtain rfl:j=0:=Nat.lt_one_iff.1 hj;rcases k with _|_|_|_|k;exact qV;exact qV;exact qV;exact asQ rfl;omega)|(rw[ND (Ox ht) h];exact cm qV)|(rw[hp,kE,<-lX aT.z (by rw[P5];exact(by have h8:=aS (aj:decide ((i:Int)<((kK s x).2.length:Int))=true);omega))];done)|(have h7:=gz List.length hp;rw[bW,dP]at h7;have h8:=acM (s:=s) (x:=x);have h9:=hx.len;(omega))|(simp;done)|(have hj:j<a.length+1:=hj;have hk:k<4:=hk;rw[ac1 (by have h8:=aS (aj:decide ((i:Int)<((kK s x).2.length:Int))=true);omega)];refine cm (oq rfl hj fr (λj hj=>?_));obtain rfl:j=0:=Nat.lt_one_iff.1 hj;rcases k with _|_|_|_|k;exact qV;exact qV;exact qV;exact qV;omega)|exact(by have h8:=aS (aj:decide ((i:Int)<((kK s x).2.length:Int))=true);omega)
theorem QP(s:bP)(x:aP)(hx:jJ x)(cZ:x.kind=3)(jQ:x.a+x.l.length<=64)(hl:s.log.length<=1000):aQ 157 [jc s,jy x] (bQ [.d (iq (bi s x).1),.b (bi s x).2.1,iV (bi s x).2.2,iV 0]):=by
 by_cases h1:x.term<s.term
 ·exact alo s x hx cZ jQ hl h1
 ·by_cases h2:qo s.log x.a=x.b
  ·by_cases h3:x.term=s.term
   ·exact alm s x hx cZ jQ hl h2 h3
   ·exact alk s x hx cZ jQ hl h2 qO
  ·exact alj s x hx cZ jQ hl h1 h2
theorem amT{x:aP}(h:jJ x):∀ i,i<(mG x).length->0<=(mG x).getD i 0/\(mG x).getD i 0<=9223372036854775807:=λi hi=>by
 have:=h.nums _ (iT (z:=0) hi);omega
theorem aic{x:aP}{i:Nat}(h:i<x.l.length):pK (mG x)++(x.l.take (i+1)).map DZ=(pK (mG x)++(x.l.take i).map DZ)++[DZ (x.l.getD i .z)]:=by
 rw[lX .z h,List.map_append,kE];rfl
theorem abN(x:aP)(hx:jJ x):aQ 92 [jy x,.d (iW [])] (bQ [.d (dB (kU x)),iV 0]):=by
 have hl:=hx.len;have hs:=hx.src;have hd:=hx.dst;refine asz Tryz.func92 λX=>?_
 (repeat' (first|refine T.cut (y:=.seq (.region 14 _ _) _) ⟨83,[(1,.d (iW [])),(2,.ptr 0 0),(10,iV (if x.ok=true then 1 else 0))],⟨[(0,.blk 10 (λk=>.d (jF x k)))],1⟩⟩ ?_ (T.seq ?_)|refine T.cut (y:=.seq (.region 23 _ _) _) ⟨83,[(11,.row 2 (jM x).length),(1,.d (iW []))],⟨[(2,dw 163 4 jW .z (jM x))],3⟩⟩ ?_ (aut (cu _) rfl rfl (T.seq ?_))|refine oz ?_|refine asA (CZ x (by have:=hx.len;omega)) ?_|refine ai.mk (λh2=>au h2 (by rw[EF.2 hx];decide)) (λh=>?_)|refine asA (Rt 6 1 (.inr (.inl rfl))) ?_|refine asO [1] (aaL (mG x) (by show 9<=100;decide) (amT hx)) rfl rfl rfl vw ⟨⟨_,rfl,af.row rfl (λj hj k hk=>by obtain rfl:k=0:=Nat.lt_one_iff.1 hk;rcases j with _|_|_|_|_|_|_|_|_|j <;> first|exact qV|(exact au hj (by show ¬_<9;omega)))⟩,tv⟩ ?_|refine asI (c:=.seq (.region 16 _ _) _) x.l.length (λi (a:List aY)=>⟨83,[(1,.d (iW [])),(11,.row 2 a.length),(57,.d (jg x.l)),(58,iV x.l.length),(59,iV i)],⟨[(2,dw 163 4 jW .z a)],3⟩⟩) (λi a=>a=pK (mG x)++(x.l.take i).map DZ/\a.length<=9+i) (pK (mG x)) ?_ ?_ (λi a hi hp=>?_)|refine aU (a++[DZ (x.l.getD i .z)]) ⟨?_,?_,?_⟩|refine asA (agO (x.l.getD i .z) (hx.es _ (iT om)) (KY (hx.es _ (iT om))).1) ?_|refine asA (V6 (jM x) (QB hx)) ?_|refine as5 ?_|refine TL.round ?_|refine ai.n (λh=>?_)|refine ai.mk (λh=>?_) (λh=>?_)|refine ag.a ?_|refine asM rfl vw|refine ag.mk ?_ ?_))<;>try exact aB
 all_goals (try(refine aV.mk rfl qN qN ?_ ?_ <;> repeat' (first|exact tv|exact qV|exact qW|refine vq (gz (V.row _) ?_) qN|refine vq (gz iV ?_) tv|refine an ⟨nb rfl,af.blk ?_⟩ ?_|refine an ⟨nb rfl,af.row ?_ (λj hj k hk=>atd ?_)⟩ ?_|refine an ?_ ?_)))
 all_goals first|(refine⟨by simp,?_⟩;exact U5 (mG x) 0)|(simp;done)|exact(if_pos ‹_›).symm|(rw[‹x.ok=false›];rfl)|((try simp only[fC,fQ,mr,nO]at *);obtain⟨hp1,hp2⟩:=hp;have h9:i<x.l.length:=(by omega);first|omega|(refine⟨by rw[aic h9,<-hp1],by simp;omega⟩)|(refine dh.mk (oq rfl (by simpa using hj) fr (λj hj=>(by obtain rfl:j=0:=(by simp at hj;omega);rcases k with _|_|_|_|k <;> first|exact qV|omega)))))|((try simp only[fC,fQ,mr,nO]at *);have e:a=jM x:=(by rw[hp.1,lW (by omega)];rfl);subst e;first|rfl|exact dh.mk qV)
def G7(n:az)(k:Int):az:={ n with aA:={ n.aA with mD:=true,keep:=k } }
def GL(n:az)(k:Int):az:={ n with aA:=n.aA.nG k }
theorem amB(n:az)(k:Int):ae 32 [.ptr 0 0,iV k] (NS n) (λrv rt=>rv = .top/\rt=(NS (G7 n k))):=by
 refine asz Tryz.func32 λX=>?_
 (repeat' (first|refine oz ?_|refine asH [1,2] (aoZ n.aA k) ?_|refine ag.a ?_|refine asC qN qN VW.top (by repeat' (first|exact tv|refine an ⟨nb rfl,af.blk ?_⟩ ?_|refine an ⟨nb rfl,af.row rfl fv⟩ ?_|exact qV|exact qW|refine an ?_ ?_))))<;>try exact aB
theorem ajx(n:az)(k:Int)(hd:n.aA.ok)(hk : -9223372036854775808<=k):ae 34 [.ptr 0 0,iV k] (NS n) (λrv rt=>rv = .top/\rt=(NS (GL n k))):=by
 refine asz Tryz.func34 λX=>?_
 (repeat' (first|refine oz ?_|refine asH [1,2] (QH n.aA k hd hk) ?_|refine ag.a ?_|refine asC qN qN VW.top (by repeat' (first|exact tv|refine an ⟨nb rfl,af.blk ?_⟩ ?_|refine an ⟨nb rfl,af.row rfl fv⟩ ?_|exact qV|exact qW|refine an ?_ ?_))))<;>try exact aB
def uD(n:az)(k t:Int):eY×Int:=bif n.aA.down then (.z,30) else bif (bif (bif decide (k<1) then true else decide (n.fA<k)) then true else !decide ((n.ah.log.getD (k-1).toNat .z).term=t)) then (.z,15) else (n.fF.getD (k-1).toNat .z,0)
theorem Fin.vW{t0:ST}{X:Cx t0}{v:V}{t:ST}{p q:eY×Int}(e:q=p)(h:Fin X v t (λv t=>v=bQ [iQ p.1,iV p.2]/\t=t0)):Fin X v t (λv t=>v=bQ [iQ q.1,iV q.2]/\t=t0):=e▸h
theorem aop{a b c:Bool}(h:(bif (bif a then true else b) then true else c)=false):a=false/\b=false:=by cases a <;> cases b <;> simp_all
theorem aoq{a b:Bool}(h:(bif a then true else b)=false):a=false/\b=false:=by cases a <;> simp_all
theorem ajr(n:az)(k t:Int)(h1:n.fA<=n.ah.log.length)(h2:n.fA<=n.fF.length)(h3:n.fF.length<=1000):ae 51 [.ptr 0 0,iV k,iV t] (NS n) (λrv rt=>rv=(bQ [iQ (uD n k t).1,iV (uD n k t).2])/\rt=(NS n)):=by
 refine asz Tryz.func51 λX=>?_
 (repeat' (first|refine oz ?_|refine asH [1,2] (yM n.aA) ?_|refine ai.mk (λh=>?_) (λh=>?_)|refine ag.a ?_|refine Fin.vW (p:=(.z,30)) ?_ (asY qN (asG [iQ .z,iV 30] rfl fr vw) ?_)|refine Fin.vW (p:=(.z,15)) ?_ (asY qN (asG [iQ .z,iV 15] rfl fr vw) ?_)|refine Fin.vW (p:=((n.fF.getD (k-1).toNat .z),0)) ?_ (asY qN (asG [iQ (n.fF.getD (k-1).toNat .z),iV 0] rfl fr vw) ?_)|refine ag.mk ?_ ?_))<;>try exact aB
 all_goals first|exact dF h|(rename_i h0;exact(bz h0).trans (dF h))|(rename_i h0;exact(bz h0).trans (bz h))|(have q:=aop h;have q1:=bJ q.1;have q2:=bJ q.2;first|omega|(simp only[dQ,jD];omega)|(refine⟨rfl,?_,nb rfl⟩;omega))|(intro e;have q:=aoq e;have q1:=bJ q.1;have q2:=bJ q.2;first|omega|(simp only[dQ,jD];omega))|(repeat' (first|exact tv|refine an ⟨nb rfl,af.blk ?_⟩ ?_|refine an ⟨nb rfl,af.row rfl fv⟩ ?_|exact qV|exact qW|refine an ?_ ?_))
end Go.Proofs.YtnibdnahojjcgaaGreat
