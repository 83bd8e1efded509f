/- A part of the proof. -/
import Derived.Test.YtnibdnahojjcgaaGreatB44
namespace Go.Proofs.YtnibdnahojjcgaaGreat
set_option maxRecDepth 100000
set_option maxHeartbeats 16000000
set_option linter.unusedVariables false
set_option linter.unusedSimpArgs false
open Go.RowKit
section
structure yt (k:Nat) (x:kL):Prop where
 node:0<=x.node/\x.node<k
 ch:x.c.chunks.length<=1000
structure CG (k:Nat) (v T:Int) (fl:Nat->Int) (c s:Int) (K:Nat) (C:aF):Prop where
 iY:3<=k/\k<=5
 T0:0<=T/\T<=1048576
 sup:zD k v fl
 yA:∀ i,i<k->0<=fl i
 nd:∀ i,i<k->∃ L t,NG k v T fl i (C.nd i) L t
 row:∀ x∈C.ax.row,LG k v T fl x
 fits:C.ax.row.length+C.ax.bU<=256
 c1:0<=C.ax.tV/\C.ax.tV<=c
 c2:0<=C.ax.taken/\C.ax.taken<=c
 c3:0<=C.ax.lost/\C.ax.lost<=c
 calls:C.calls.length<=K
 xx:∀ x∈C.calls,yt k x
 steps:0<=C.steps/\C.steps<=s
section
variable {k:Nat} {v T c s:Int} {fl:Nat->Int} {K:Nat} {C:aF}
theorem CG.env(h:CG k v T fl c s K C){A:Nat}(hA:A<k):Env k v T fl A:=⟨h.iY,h.T0,h.sup,hA⟩
theorem CG.ax(h:CG k v T fl c s K C)(hc:c<=1000000000):y8 C.ax:=⟨h.fits,by have:=h.c1;omega,by have:=h.c2;omega,by have:=h.c3;omega,λx hx=>(h.row x hx).ok⟩
theorem CG.mono(h:CG k v T fl c s K C){U c' s':Int}{K':Nat}(hT:T<=U/\U<=1048576)(hc:c<=c')(hs:s<=s')(hK:K<=K'):CG k v U fl c' s' K' C:=
 ⟨h.iY,by have:=h.T0;omega,h.sup,h.yA,λi hi=>by obtain⟨L,t,g⟩:=h.nd i hi;exact⟨L,t,g.up (eF _) h.sup.2.1 hT.1 (λ_=>eF _) rfl⟩,λx hx=>(h.row x hx).up (eF _) h.sup.2.1 hT.1 (λ_=>eF _),h.fits,by have:=h.c1;omega,by have:=h.c2;omega,by have:=h.c3;omega,by have:=h.calls;omega,h.xx,by have:=h.steps;omega⟩
theorem room_le{p:Nt}{l:List aP}:room p l<=l.length/\room p l<=256-p.row.length:=by unfold room;omega
theorem CG.tell(h:CG k v T fl c s K C){A:Nat}(hA:A<k){w U:Int}{n:az}{l:List aP}(hw:v<=w)(hs:zD k w fl)(hT:T<=U/\U<=1048576)(r:qA k w U fl A n l):CG k w U fl (c+8) s K (C.tell A n l):=by
 have hrm:=room_le (p:=C.ax) (l:=l);have hl:=r.len;have hf:=h.fits;have h1:=h.c1;have h2:=h.c2;have h3:=h.c3;refine⟨h.iY,by have:=h.T0;omega,hs,h.yA,λi hi=>?_,λx hx=>?_,?_,?_,?_,?_,h.calls,h.xx,h.steps⟩
 ·show ∃ L t,NG k w U fl i (bif Nat.beq i A then n else C.nd i) L t;rcases e:Nat.beq i A with _|_
  ·obtain⟨L,t,g⟩:=h.nd i hi;exact⟨L,t,g.up hw hs.2.1 hT.1 (λ_=>eF _) rfl⟩
  ·rw[Nat.eq_of_beq_eq_true e];exact r.ex
 ·rcases List.mem_append.1 (show x∈C.ax.row++l.take (room C.ax l) from hx) with hx|hx
  ·exact(h.row x hx).up hw hs.2.1 hT.1 (λ_=>eF _)
  ·exact r.ls x (List.mem_of_mem_take hx)
 ·show(C.ax.row++l.take (room C.ax l)).length+(C.ax.bU-room C.ax l)<=256;rw[bW,dP];omega
 ·show 0<=C.ax.tV+(l.length:Int)/\C.ax.tV+(l.length:Int)<=c+8;omega
 ·show 0<=C.ax.taken/\C.ax.taken<=c+8;omega
 ·show 0<=C.ax.lost+((l.length-room C.ax l:Nat):Int)/\C.ax.lost+((l.length-room C.ax l:Nat):Int)<=c+8;omega
theorem aiH(C:aF)(A:Nat)(n:az):C.tell A n []=C.put A n:=by
 show(⟨_,lL C.ax [],_,_⟩:aF)=⟨_,C.ax,_,_⟩;have:lL C.ax []=C.ax:=by
  unfold lL room;simp
 rw[this];rfl
theorem CG.put(h:CG k v T fl c s K C){A:Nat}(hA:A<k){w U:Int}{n:az}(hw:v<=w)(hs:zD k w fl)(hT:T<=U/\U<=1048576)(r:qA k w U fl A n []):CG k w U fl (c+8) s K (C.put A n):=by
 have:=h.tell hA hw hs hT r;rwa [aiH]at this
theorem CG.Hq(h:CG k v T fl c s K C){A:Nat}(hA:A<k){lh:Nat->Int}{n:az}(h1:∀ i,i≠A->lh i=fl i)(h2:fl A<=lh A)(r:qA k v T lh A n []):CG k v T lh c s K (C.put A n):=by
 have hf:∀ i,fl i<=lh i:=λi=>by
  by_cases e:i=A
  ·rw[e];exact h2
  ·rw[h1 i e];exact eF _
 have hs:=h.sup;refine⟨h.iY,h.T0,⟨hs.1,hs.2.1,hs.2.2.imp id λh i hi=>Int.le_trans (h i hi) (hf i)⟩,λi hi=>Int.le_trans (h.yA i hi) (hf i),λi hi=>?_,λx hx=>(h.row x hx).up (eF _) hs.2.1 (eF _) hf,h.fits,h.c1,h.c2,h.c3,h.calls,h.xx,h.steps⟩;show ∃ L t,NG k v T lh i (bif Nat.beq i A then n else C.nd i) L t;rcases e:Nat.beq i A with _|_
 ·obtain⟨L,t,g⟩:=h.nd i hi;have hne:i≠A:=λe2=>by subst e2;simp at e
  exact⟨L,t,g.up (eF _) hs.2.1 (eF _) hf (h1 i hne)⟩
 ·rw[Nat.eq_of_beq_eq_true e];exact r.ex
theorem JA{p:Nt}{i:Int}(h:qC p i=true):0<=i/\i<p.row.length:=by
 unfold qC at h;rcases e:decide (0<=i) with _|_ <;> rw[e]at h
 ·cases h
 ·exact⟨jb e,jb h⟩
theorem PV{k:Nat}{i:Int}(h:lY k i=true):0<=i/\i<k:=by
 unfold lY at h;rcases e:decide (0<=i) with _|_ <;> rw[e]at h
 ·cases h
 ·exact⟨jb e,jb h⟩
theorem CG.gone(h:CG k v T fl c s K C){i:Nat}(hi:i<C.ax.row.length){a b:Int}(ha:0<=a/\a<=c+1)(hb:0<=b/\b<=c+1):CG k v T fl (c+1) s K { C with ax:={ zg C.ax i with taken:=a,lost:=b } }:=by
 have hf:=h.fits;have h1:=h.c1;refine⟨h.iY,h.T0,h.sup,h.yA,h.nd,λx hx=>h.row x (List.mem_of_mem_eraseIdx hx),?_,by show 0<=C.ax.tV/\C.ax.tV<=c+1;omega,ha,hb,h.calls,h.xx,h.steps⟩;show(C.ax.row.eraseIdx i).length+(C.ax.bU+1)<=256;rw[List.length_eraseIdx,if_pos hi];omega
theorem CG.taken(h:CG k v T fl c s K C){i:Nat}(hi:i<C.ax.row.length):CG k v T fl (c+1) s K { C with ax:=jf C.ax i }:=h.gone hi (a:=C.ax.taken+1) (b:=C.ax.lost) (by have:=h.c2;omega) (by have:=h.c3;omega)
theorem CG.lost(h:CG k v T fl c s K C){i:Nat}(hi:i<C.ax.row.length):CG k v T fl (c+1) s K { C with ax:=RN C.ax i }:=h.gone hi (a:=C.ax.taken) (b:=C.ax.lost+1) (by have:=h.c2;omega) (by have:=h.c3;omega)
theorem CG.apu(h:CG k v T fl c s K C){i:Nat}(hi:i<C.ax.row.length)(hf:C.ax.row.length<256):CG k v T fl (c+1) s K { C with ax:=Bh C.ax i }:=by
 have iC:=h.fits;have h1:=h.c1;have h2:=h.c2;have h3:=h.c3;refine⟨h.iY,h.T0,h.sup,h.yA,h.nd,λx hx=>?_,?_,?_,?_,?_,h.calls,h.xx,h.steps⟩
 ·rcases List.mem_append.1 (show x∈C.ax.row++[C.ax.row.getD i .z] from hx) with hx|hx
  ·exact h.row x hx
  ·obtain rfl:=List.mem_singleton.1 hx;exact h.row _ (kM hi)
 ·show(C.ax.row++[C.ax.row.getD i .z]).length+(C.ax.bU-1)<=256;rw[bW];show C.ax.row.length+1+(C.ax.bU-1)<=256;omega
 ·show 0<=C.ax.tV+1/\C.ax.tV+1<=c+1;omega
 ·show 0<=C.ax.taken/\C.ax.taken<=c+1;omega
 ·show 0<=C.ax.lost/\C.ax.lost<=c+1;omega
structure yD (e:bT):Prop where
 b : -9223372036854775808<=e.b
 sz:nZ e.c
 ch:e.c.chunks.length<=1000
theorem CG.take(h:CG k v T fl c s K C)(i:Int):CG k v T fl (c+10) s K (uH k C i).1:=by
 unfold uH;rcases hi:qC C.ax i with _|_
 ·exact h.mono ⟨eF _,h.T0.2⟩ qO (eF _) (bu _)
 ·have hi:=JA hi;have hin:i.toNat<C.ax.row.length:=qO;have ht:=h.taken hin;rcases hd:lY k (C.ax.row.getD i.toNat .z).dst with _|_
  ·exact ht.mono ⟨eF _,h.T0.2⟩ qO (eF _) (bu _)
  ·have hd:=PV hd;have hA:(C.ax.row.getD i.toNat .z).dst.toNat<k:=qO;obtain⟨L,t,g⟩:=h.nd _ hA;have hx:=h.row _ (kM (z:=.z) hin);have hr:=g.recv (h.env hA) hx;exact(ht.tell hA (eF _) h.sup ⟨eF _,h.T0.2⟩ hr.2).mono ⟨eF _,h.T0.2⟩ qO (eF _) (bu _)
def Inv(k:Nat)(T c s:Int)(K:Nat)(C:aF):Prop:=∃ v fl,CG k v T fl c s K C
theorem CG.inv(h:CG k v T fl c s K C):Inv k T c s K C:=⟨v,fl,h⟩
theorem CG.act(h:CG k v T fl c s K C){e:bT}(he:yD e)(hT:T<1048576):Inv k (T+1) (c+10) s (K+1) (nM k C e).1:=by
 have hu:T<=T+1/\T+1<=1048576:=qO;have same:Inv k (T+1) (c+10) s (K+1) C:=(h.mono hu qO (eF _) (Nat.le_succ _)).inv;have up:∀ {w:Int} {lh:Nat->Int} {c':Int} {K':Nat} {D:aF},CG k w T lh c' s K' D->c'<=c+10->K'<=K+1->Inv k (T+1) (c+10) s (K+1) D:=λg h1 h2=>(g.mono hu h1 (eF _) h2).inv
 unfold nM;rcases e3:decide (e.kind=3) with _|_
 rotate_left
 ·exact up (h.take e.a) (eF _) (Nat.le_succ _)
 rcases e4:decide (e.kind=4) with _|_
 rotate_left
 ·show Inv k (T+1) (c+10) s (K+1) (DJ C e.a).1;unfold DJ;rcases hi:qC C.ax e.a with _|_
  ·exact same
  ·have hi:=JA hi;exact up (h.lost (show e.a.toNat<_ by omega)) qO (Nat.le_succ _)
 rcases e5:decide (e.kind=5) with _|_
 rotate_left
 ·show Inv k (T+1) (c+10) s (K+1) (Dn C e.a).1;unfold Dn;rcases hi:qC C.ax e.a with _|_
  ·exact same
  ·have hi:=JA hi;rcases hf:decide (256<=(C.ax.row.length:Int)) with _|_
   ·have hf:=oZ hf;exact up (h.apu (show e.a.toNat<_ by omega) qO) qO (Nat.le_succ _)
   ·exact same
 rcases hth:lY k e.a with _|_
 ·exact same
 have hA0:=PV hth;have hA:e.a.toNat<k:=qO;obtain⟨L,t,g⟩:=h.nd _ hA;have E:=h.env hA;show Inv k (T+1) (c+10) s (K+1) (xQ k C e.a.toNat e).1;unfold xQ;rcases k1:decide (e.kind=1) with _|_
 rotate_left
 ·exact((h.tell hA (eF _) h.sup hu (g.TB E hT h.yA).2).mono ⟨eF _,hu.2⟩ qO (eF _) (Nat.le_succ _)).inv
 rcases k2:decide (e.kind=2) with _|_
 rotate_left
 ·have hb:=g.Tt E;have hr:qA k v T fl e.a.toNat (C.nd e.a.toNat) (mf (C.nd e.a.toNat) k).1:=⟨⟨L,t,g⟩,hb.2.1,hb.2.2⟩;have:=h.tell hA (eF _) h.sup ⟨eF _,h.T0.2⟩ hr;refine up (w:=v) (lh:=fl) (c':=c+8) (K':=K) (D:={ C with ax:=lL C.ax (mf (C.at e.a.toNat) k).1 }) ?_ qO (Nat.le_succ _);refine⟨this.iY,this.T0,this.sup,this.yA,h.nd,this.row,this.fits,this.c1,this.c2,this.c3,this.calls,this.xx,this.steps⟩
 rcases k6:decide (e.kind=6) with _|_
 rotate_left
 ·obtain⟨hcl,w,w1,w2,r⟩:=g.call E he.sz;have hp:=h.put hA w1 w2 ⟨eF _,h.T0.2⟩ r;show Inv k (T+1) (c+10) s (K+1) (vC C e.a.toNat e).1;unfold vC;rcases hz:decide ((oD (C.at e.a.toNat) e.c).2.2.2=0) with _|_
  ·exact up hp qO (Nat.le_succ _)
  ·refine up (w:=w) (lh:=fl) (c':=c+8) (K':=K+1) (D:={ C.put e.a.toNat (oD (C.at e.a.toNat) e.c).1 with calls:=C.calls++[Sv C e (oD (C.at e.a.toNat) e.c).2.1 (oD (C.at e.a.toNat) e.c).2.2.1] }) ?_ qO (bu _);refine⟨hp.iY,hp.T0,hp.sup,hp.yA,hp.nd,hp.row,hp.fits,hp.c1,hp.c2,hp.c3,?_,λx hx=>?_,hp.steps⟩
   ·show(C.calls++[_]).length<=K+1;rw[bW];exact Nat.succ_le_succ h.calls
   ·rcases List.mem_append.1 hx with hx|hx
    ·exact h.xx x hx
    ·obtain rfl:=List.mem_singleton.1 hx;exact⟨hA0,he.ch⟩
 rcases k9:decide (e.kind=9) with _|_
 rotate_left
 ·show Inv k (T+1) (c+10) s (K+1) (ve C e.a.toNat e.b).1;unfold ve;rcases hst:xI (C.at e.a.toNat) e.b with _|_
  ·exact same
  ·obtain⟨lh,f1,f2,r⟩:=(g.start E h.yA e.b).2 hst;exact up (h.Hq hA f1 f2 r) qO (Nat.le_succ _)
 rcases k7:decide (e.kind=7) with _|_
 rotate_left
 ·exact up (h.put hA (eF _) h.sup ⟨eF _,h.T0.2⟩ (g.YL he.b)) qO (Nat.le_succ _)
 rcases k8:decide (e.kind=8) with _|_
 rotate_left
 ·exact up (h.put hA (eF _) h.sup ⟨eF _,h.T0.2⟩ (g.nG e.b)) qO (Nat.le_succ _)
 exact same
theorem abj{x:kL}(hx:yt k x):yt k (wL C x):=by
 unfold wL;cases x.done
 ·cases decide ((uD (C.at x.node.toNat) x.number x.term).2=0)
  ·exact hx
  ·exact⟨hx.node,hx.ch⟩
 ·exact hx
theorem CG.settle(h:CG k v T fl c s K C):CG k v T fl c (s+1) K { Qs C with steps:=C.steps+1 }:=
 ⟨h.iY,h.T0,h.sup,h.yA,h.nd,h.row,h.fits,h.c1,h.c2,h.c3,by show(C.calls.map _).length<=K;rw[lJ];exact h.calls,λx hx=>by
  obtain⟨y,hy,rfl⟩:=List.mem_map.1 (show x∈C.calls.map (wL C) from hx);exact abj (h.xx y hy),by have:=h.steps;show 0<=C.steps+1/\C.steps+1<=s+1;omega⟩
theorem Inv.step(h:Inv k T c s K C){e:bT}(he:yD e)(hT:T<1048576):Inv k (T+1) (c+10) (s+1) (K+1) (iF k C e).1:=by
 obtain⟨v,fl,h⟩:=h;obtain⟨w,lh,g⟩:=h.act he hT;exact⟨w,lh,g.settle⟩
theorem CG.aiI(h:CG k v T fl c s K C){e:bT}(he:e.kind=3):CG k v T fl (c+10) (s+1) K (iF k C e).1:=by
 have e1:nM k C e=uH k C e.a:=by
  unfold nM;rw[bg he];rfl
 unfold iF;rw[e1];exact(h.take e.a).settle
end
theorem aeo:D5.nG 0=⟨[],0,true,false,0,[]⟩:=by simp[dJ.nG,D5]
theorem dg0:DG 1 0 (D5.nG 0) [] []:=by
 rw[aeo];exact⟨rfl,by decide,RS,⟨by simp[bY],zf.nil,toY3,by decide⟩,nofun⟩
theorem ajw{k:Nat}(hk:3<=k/\k<=5):CG k 1 0 (λ_=>0) 0 0 0 (rC k):=by
 have z0:(0:Int)<=0/\(0:Int)<=0:=by decide
 have z3:(0:Int)<=0/\(0:Int)<=3:=by decide
 have z5:(0:Int)<=0/\(0:Int)<=5:=by decide
 refine⟨hk,by decide,⟨by decide,by decide,.inl rfl⟩,λ_ _=>eF _,λi hi=>⟨[],[],?_⟩,λx hx=>au (show x∈([]:List aP) from hx) List.not_mem_nil,show 0+0<=256 by decide,z0,z0,z0,bu 0,λx hx=>au (show x∈([]:List kL) from hx) List.not_mem_nil,z0⟩;have Kv:((rC k).nd i).aA.down=true:=by
  show(D5.nG 0).down=true;rw[aeo]
 refine⟨⟨rfl,rfl,dg0,rfl,⟨z3,z0,z5,cu _,λx hx=>au (show x∈([]:List dm) from hx) List.not_mem_nil⟩,?_,z3,⟨eF 0,eF 0,eF 0⟩,rfl,λhu=>au (Kv.symm.trans hu) qD⟩,λhu=>au (Kv.symm.trans hu) qD,cu _⟩;exact⟨cu _,cu _,⟨cu _,λi hi=>au hi (qZ _)⟩⟩
end
theorem qF{l:List (Nat×aG)}{K:List (Nat×aG)->Prop}(h:K l):I7 l K:=by rw[Uz];exact h
def JL(a b:Nat):List (Nat×aG)->Bool
 |[]=>true
 |p::r=>(Nat.blt p.1 a||Nat.ble b p.1)&&JL a b r
theorem aaI{a b:Nat}:∀ {e l:List (Nat×aG)},JL a b e=true->∀ i,a<=i->i<b->dM (e++l) i=dM l i
 |[],_,_,_,_,_=>rfl
 |(k,v)::r,l,h,i,h1,h2=>by
  obtain⟨h3,h4⟩:=kJ (show((Nat.blt k a||Nat.ble b k)&&JL a b r)=true from h);show(bif Nat.beq k i then v else dM (r++l) i)=_;rcases hb:Nat.beq k i with _|_
  ·exact aaI h4 i h1 h2
  ·have:=dH hb;subst this;rcases Bool.or_eq_true _ _▸h3 with h5|h5
   ·have:=lS h5;omega
   ·have:=nb h5;omega
theorem acz{C:aF}:∀ {m i:Nat},∀ p∈lm C i m,8*i+24<=p.1/\p.1<8*(i+m)+24
 |0,_,p,h=>by cases h
 |m+1,i,p,h=>by
  rcases List.mem_append.1 (show p∈jA (8*i+24) (C.at i)++lm C (i+1) m from h) with h|h
  ·simp only[jA,List.mem_cons,List.not_mem_nil,or_false]at h;rcases h with rfl|rfl|rfl|rfl|rfl|rfl|rfl|rfl <;> (dsimp only;omega)
  ·have:=acz p h;omega
theorem ajq{N a b nx:Nat}{P R:List (Nat×aG)}(hP:JL a b P=true)(hR:∀ p∈R,a<=p.1/\p.1<b)(hd:ik (kF R)=true)(hc:mJ N R):qB N ⟨P++R,nx⟩ R:=by
 have key:∀ Q:List (Nat×aG),(∀ p∈Q,p∈R)->qB N ⟨P++R,nx⟩ Q:=by
  intro Q;induction Q with
  |nil=>exact λ_=>True.intro
  |cons p r ih=>
   intro hq;obtain⟨i,o⟩:=p;refine⟨?_,ih λp hp=>hq p (je _ hp)⟩;have hm:=hq _ jC;have hk:=hR _ hm;have hl:=Et hd _ hm;have e:(⟨P++R,nx⟩:ST).get i=o:=(aaI hP i hk.1 hk.2).trans hl;rw[e];rcases xC hc i with h0|⟨h0,h1⟩
   ·have ho:o = .dead:=hl.symm.trans h0;subst ho;exact⟨yJ hc _ hm,tv⟩
   ·rw[show dM R i=o from hl]at h1;exact⟨h0,as2 h1⟩
 exact key R λ_ h=>h
theorem ah2{k:Nat}{C:aF}(h:3<=k/\k<=5):ik (kF (lm C 0 k))=true:=by rcases three h with rfl|rfl|rfl <;> rfl
theorem Lj{k:Nat}{C:aF}(h:3<=k/\k<=5):ik (kF (CL k C))=true:=by rcases three h with rfl|rfl|rfl <;> rfl
theorem Nc{P:Nat->Prop}{a b:V}(ha:iO P a)(hb:iO P b):iO P (bQ [a,b]):=λk hk=>by
 have hk:k<2:=hk;rcases k with _|_|k
 ·exact ha
 ·exact hb
 ·omega
def gK(k:Nat)(C:aF):List (Nat×aG):=[(0,.blk 4 (Cb k C)),(1,ry k),(2,.blk 4 (vF C.ax)),(3,nS (iK C.ax)),(4,dw 69 16 uf .z C.calls)]
structure Tl (k N:Nat) (R:List (Nat×aG)):Prop where
 le:8*k+24<=N
 keys:∀ p∈R,5<=p.1/\p.1<N
 nd:ik (kF R)=true
 OI:mJ N R
theorem WH{N M:Nat}(h:N<=M){v:V}:iO (λi=>i<N) v->iO (λi=>i<M) v:=by
 induction v with
 |agg n g ih=>exact λhq k hk=>ih k (hq k hk)
 |fV n g ih=>exact λhq k hk=>ih k (hq k hk)
 |fn f nf n g ih=>exact λhq k hk=>ih k (hq k hk)
 |ku t w x ih=>exact λhq=>ih hq
 |ptr i o=>exact λ(hq:i<N)=>su hq h
 |rp i a b c=>exact λ(hq:i<N)=>su hq h
 |row i a=>exact λ(hq:i<N)=>su hq h
 |vw i a b c=>exact λ(hq:i<N)=>su hq h
 |mp i=>exact λ(hq:i<N)=>su hq h
 |_=>exact λhq=>hq
theorem am6{N M:Nat}(h:N<=M){o:aG}(ho:kX (λi=>i<N) o):kX (λi=>i<M) o:=by
 cases o with
 |dead=>exact tv
 |blk n g=>exact λk hk=>WH h (ho k hk)
 |row E s n g=>exact λj hj k hk=>WH h (ho j hj k hk)
 |map es=>exact λk v e=>WH h (ho k v e)
theorem QJ{N M:Nat}(h:N<=M):∀ {l:List (Nat×aG)},mJ N l->mJ M l
 |[],_=>True.intro
 |_::_,hc=>⟨⟨su hc.1.1 h,am6 h hc.1.2⟩,QJ h hc.2⟩
theorem adF{k N:Nat}{C:aF}(h:8*k+24<=N):mJ N (gK k C):=
 ⟨⟨by omega,Qh qO⟩,⟨by omega,P6 h⟩,⟨by omega,VA qO⟩,⟨by omega,λj hj k hk=>True.intro⟩,⟨by omega,λj hj k hk=>True.intro⟩,tv⟩
theorem Bq{k i:Nat}{l:List Nat}(h:Nat.beq k i=false)(hl:bZ l i=none):bZ (k::l) i=none:=by
 show(bif Nat.beq k i then some 0 else (match bZ l i with|some k=>some (k+1)|none=>none))=none;rw[h,hl];rfl
theorem nodup_cons{i:Nat}{l:List Nat}(h:bZ l i=none)(hd:ik l=true):ik (i::l)=true:=by
 show((match bZ l i with|some _=>false|none=>true)&&ik l)=true;rw[h,hd];rfl
theorem ah1{k N:Nat}{C:aF}{R:List (Nat×aG)}(h:Tl k N R):ik (kF (gK k C++R))=true:=by
 have key:∀ i,i<5->bZ (kF R) i=none:=λi hi=>by
  rcases e:bZ (kF R) i with _|j
  ·rfl
  ·have hs:=xG e;have hm:i∈kF R:=uX hs;obtain⟨p,hp,rfl⟩:=List.mem_map.1 hm;have:=h.keys p hp;omega
 exact nodup_cons (Bq rfl (Bq rfl (Bq rfl (Bq rfl (key 0 qD))))) (nodup_cons (Bq rfl (Bq rfl (Bq rfl (key 1 qD)))) (nodup_cons (Bq rfl (Bq rfl (key 2 qD))) (nodup_cons (Bq rfl (key 3 qD)) (nodup_cons (key 4 qD) h.nd))))
theorem ap1{k N M nx:Nat}{P R:List (Nat×aG)}(h:Tl k N R)(hP:JL 5 N P=true)(hM:Nat.ble N M=true):qB M ⟨P++R,nx⟩ R:=ajq hP h.keys h.nd (QJ (nb hM) h.OI)
theorem kw{k N M:Nat}{t:ST}{R:List (Nat×aG)}(q:Nat)(h:Tl k N R)(hst:t.st.drop q=R)(hP:JL 5 N (t.st.take q)=true)(hM:Nat.ble N M=true):qB M t R:=by
 have:=ap1 (nx:=t.nx) h hP hM;rw[<-hst]at this;rw[List.take_append_drop,hst]at this;exact this
theorem yt.lt{k:Nat}{x:kL}(hx:yt k x):x.node.toNat<k:=by have:=hx.node;omega
theorem atz{k:Nat}{C:aF}(h:3<=k/\k<=5):Tl k (8*k+24) (lm C 0 k):=⟨bu _,λp hp=>by have:=acz p hp;omega,ah2 h,LX qO⟩
theorem atb{f:Nat}{args args':List V}{st:ST}{k N:Nat}{C C1:aF}{R R1:List (Nat×aG)}{r:V}{K:V->ST->Prop}(q:Nat)(hT:Tl k N R)(hT1:Tl k N R1)(h:ae f args' ⟨gK k C++R,N⟩ (λv t=>v=r/\t=⟨gK k C1++R1,N⟩))(hst:st.st.drop q=gK k C++R)(hex:EW N (st.st.take q)=true)(hlt:rY (kF (st.st.take q)) st.nx=true)(hn:Nat.ble N st.nx=true)(hr:iO (λi=>i<N) r)(hc:FK st.nx (st.st.take q))(ha:kS N (wQ N) args args')(cZ:K r ⟨st.st.take q++(gK k C1++R1),st.nx⟩):ae f args st K:=
 atw q h hst hex hlt hn (ah1 hT) (IQ (adF hT.le) hT.OI) (IQ (adF hT.le) hT1.OI) hr hc ha cZ
theorem atS{f:Nat}{args args':List V}{st:ST}{k N:Nat}{C C1:aF}{R R1:List (Nat×aG)}{r:V}{K:V->ST->Prop}(q:Nat)(hT:Tl k N R)(hT1:Tl k N R1)(h:ae f args' ⟨gK k C++R,N⟩ (λv t=>v=r/\t=⟨gK k C1++R1,N⟩))(hst:st.st.drop q=gK k C++R)(hex:EW N (st.st.take q)=true)(hlt:rY (kF (st.st.take q)) st.nx=true)(hn:Nat.ble N st.nx=true)(hr:iO (λi=>i<N) r)(hc:FK st.nx (st.st.take q))(ha:kS N (wQ N) args args')(cZ:K r ⟨st.st.take q++(gK k C1++R1),st.nx⟩):bn f args st K:=bn.mk _ _ cZ
section
def qQ(kind a b:Int):bT:=⟨kind,a,b,.z⟩
def qj(k:Nat):Nat->aF->aF
 |0,C=>C
 |n+1,C=>bif decide ((0:Int)<(C.ax.row.length:Int)) then qj k n (iF k C (qQ 3 0 0)).1 else C
def FT(k:Nat)(b:Int)(i:Nat)(C:aF):aF:=bif (mX (C.at i)).up then C else (iF k C (qQ 9 i b)).1
def BN(k:Nat)(b:Int):Nat->Nat->aF->aF
 |0,_,C=>C
 |n+1,i,C=>BN k b n (i+1) (FT k b i C)
def nJ(k:Nat)(kind:Int)(i:Nat)(C:aF):aF:=qj k 4000 (iF k C (qQ kind i 0)).1
def zV(i:Nat)(C:aF):Bool:=decide ((mX (C.at i)).dn=2)
def qp(k:Nat):Nat->Nat->aF->aF×Int
 |0,_,C=>(C,-1)
 |n+1,j,C=>MG k (λD=>qp k n (j+1) D) (j % k) (nJ k 1 (j % k) C)
where
 MG (k:Nat) (yx:aF->aF×Int) (i:Nat) (D:aF):aF×Int:=bif zV i D then Xy yx i (nJ k 2 i (nJ k 2 i D)) else yx D
 Xy (yx:aF->aF×Int) (i:Nat) (E:aF):aF×Int:=bif zV i E then (E,i) else yx E
def BJ(k:Nat)(b:Int)(C:aF):aF×Int:=qp k (2*k) 0 (qj k 4000 (BN k b k 0 C))
def dZ(k a n:Nat)(C:aF):Prop:=∃ T:Int,T<=a/\Inv k T (10*n) n a C
theorem Af{kind a b:Int}(h : -9223372036854775808<=b):yD (qQ kind a b):=⟨h,⟨cu _,cu _⟩,cu _⟩
section
variable {k a n:Nat} {C:aF}
theorem dZ.up(h:dZ k a n C){a' n':Nat}(ha:a<=a')(hn:n<=n'):dZ k a' n' C:=by
 obtain⟨T,hT,v,fl,g⟩:=h;exact⟨T,by omega,v,fl,g.mono ⟨eF _,g.T0.2⟩ qO qO ha⟩
theorem dZ.step(h:dZ k a n C)(ha:a<=1000){e:bT}(he:yD e):dZ k (a+1) (n+1) (iF k C e).1:=by
 obtain⟨T,hT,g⟩:=h;obtain⟨v,fl,g2⟩:=g.step he qO;exact⟨T+1,by omega,v,fl,g2.mono ⟨eF _,g2.T0.2⟩ qO qO (bu _)⟩
theorem dZ.take(h:dZ k a n C)(i b:Int):dZ k a (n+1) (iF k C (qQ 3 i b)).1:=by
 obtain⟨T,hT,v,fl,g⟩:=h;exact⟨T,hT,v,fl,(g.aiI (e:=qQ 3 i b) rfl).mono ⟨eF _,g.T0.2⟩ qO qO (bu _)⟩
theorem dZ.iY(h:dZ k a n C):3<=k/\k<=5:=by obtain⟨_,_,_,_,g⟩:=h;exact g.iY
theorem dZ.new(hk:3<=k/\k<=5):dZ k 0 0 (rC k):=⟨0,by omega,1,_,ajw hk⟩
theorem dZ.drain:∀ {m n:Nat} {C:aF},dZ k a n C->dZ k a (n+m) (qj k m C)
 |0,_,_,h=>h
 |m+1,n,C,h=>by
  show dZ k a _ (bif decide ((0:Int)<(C.ax.row.length:Int)) then _ else C);cases decide ((0:Int)<(C.ax.row.length:Int))
  ·exact h.up (bu _) qO
  ·have:=dZ.drain (m:=m) (h.take 0 0);rw[show n+(m+1)=n+1+m by omega];exact this
def Q8(k i:Nat):Nat->aF->aF
 |0,D=>D
 |m+1,D=>nJ k 2 i (Q8 k i m D)
theorem dZ.Ih(h:dZ k a n C)(ha:a<=1000)(kind:Int)(i:Nat):dZ k (a+1) (n+4001) (nJ k kind i C):=by
 have:=(h.step ha (Af (kind:=kind) (a:=i) (b:=0) qD)).drain (m:=4000);rw[show n+4001=n+1+4000 by omega];exact this
variable {R:aF×Int} {D E:aF} {j:Nat}
theorem Vb(hj:j<2*k)(e:qp k (2*k-j) j C=R):qp.MG k (λD=>qp k (2*k-(j+1)) (j+1) D) (j % k) (nJ k 1 (j % k) C)=R:=by
 rw[<-e,show 2*k-j=2*k-(j+1)+1 by omega];rfl
theorem aj0(hj:j<2*k)(e:qp k (2*k-j) j C=R)(hD:D=nJ k 1 (j % k) C)(hl:zV (j % k) D=false):qp k (2*k-(j+1)) (j+1) D=R:=by
 have e:=Vb hj e;unfold qp.MG at e;rw[<-hD,hl]at e;exact e
theorem ajZ(hj:j<2*k)(e:qp k (2*k-j) j C=R)(hD:D=nJ k 1 (j % k) C)(hl:zV (j % k) D=true)(hE:E=Q8 k (j % k) 2 D)(pq:zV (j % k) E=false):qp k (2*k-(j+1)) (j+1) E=R:=by
 have e:=Vb hj e;unfold qp.MG qp.Xy at e;rw[<-hD,hl,dR]at e;rw[show nJ k 2 (j % k) (nJ k 2 (j % k) D)=E from hE.symm,pq]at e;exact e
theorem ajY(hj:j<2*k)(e:qp k (2*k-j) j C=R)(hD:D=nJ k 1 (j % k) C)(hl:zV (j % k) D=true)(hE:E=Q8 k (j % k) 2 D)(pq:zV (j % k) E=true):R=(E,((j % k:Nat):Int)):=by
 have e:=Vb hj e;unfold qp.MG qp.Xy at e;rw[<-hD,hl,dR]at e;rw[show nJ k 2 (j % k) (nJ k 2 (j % k) D)=E from hE.symm,pq]at e;exact e.symm
theorem ab8(hj:¬j<2*k)(e:qp k (2*k-j) j C=R):R=(C,-1):=by
 rw[show 2*k-j=0 by omega]at e;exact e.symm
theorem aa5{b:Int}{i:Nat}{D:aF}(hi:i<k)(e:BN k b (k-i) i C=D):BN k b (k-(i+1)) (i+1) (FT k b i C)=D:=by
 rw[<-e,show k-i=k-(i+1)+1 by omega];rfl
theorem ak8{b:Int}{i:Nat}{D:aF}(hi:¬i<k)(e:BN k b (k-i) i C=D):C=D:=by
 rw[show k-i=0 by omega]at e;exact e
end
end
section
def DU:List aI:=[⟨1,1,0,0,0,0,[],[]⟩,⟨2,1,1,2,0,0,[],[]⟩,⟨3,1,2,2,0,0,[5,9],[]⟩]
def FD(i:Nat):bT:=⟨6,0,0,DU.getD i .z⟩
def Y1:aF×Int:=BJ 3 1 (rC 3)
def Ea(i:Nat)(C:aF):aF×Int:=iF 3 C (FD i)
def Eb(C:aF):aF×Int:=iF 3 C (qQ 2 0 0)
def J5(C:aF):aF:=qj 3 4000 C
def TI:aF:=rC 3
def Ia:aF:=Y1.1
def H9:aF:=(Ea 0 Ia).1
def J8:aF:=(Eb H9).1
def FZ:aF:=J5 J8
def H8:aF:=(Ea 1 FZ).1
def J7:aF:=(Eb H8).1
def FY:aF:=J5 J7
def H7:aF:=(Ea 2 FY).1
def J6:aF:=(Eb H7).1
def DV:aF:=J5 J6
theorem ari:Y1.2=0:=by decide +kernel
theorem apG:(Ea 0 Ia).2=0:=by decide +kernel
theorem apJ:(Eb H9).2=0:=by decide +kernel
theorem apF:(Ea 1 FZ).2=0:=by decide +kernel
theorem apI:(Eb H8).2=0:=by decide +kernel
theorem apE:(Ea 2 FY).2=0:=by decide +kernel
theorem apH:(Eb H7).2=0:=by decide +kernel
theorem arf:DV.calls.length=3:=by decide +kernel
theorem arj:(DV.calls.getD 2 .z).done=true:=by decide +kernel
theorem ard:(DV.calls.getD 2 .z).vW.n=1:=by decide +kernel
theorem arc:(mX (DV.at 0)).st.ay.length=1:=by decide +kernel
theorem arh:((mX (DV.at 0)).st.ay.getD 0 .z).chunks.length=2:=by decide +kernel
section
variable {k a n:Nat} {C:aF}
theorem dZ.aq3{b:Int}(hb : -9223372036854775808<=b)(h:dZ k a n C)(ha:a<=1000)(i:Nat):dZ k (a+1) (n+1) (FT k b i C):=by
 unfold FT;cases (mX (C.at i)).up
 ·exact h.step ha (Af hb)
 ·exact h.up qO qO
theorem dZ.Au{b:Int}(hb : -9223372036854775808<=b):∀ {m a n i:Nat} {C:aF},dZ k a n C->a+m<=1000->dZ k (a+m) (n+m) (BN k b m i C)
 |0,_,_,_,_,h,_=>h
 |m+1,a,n,i,C,h,ha=>by
  have:=dZ.Au hb (m:=m) (i:=i+1) (h.aq3 hb qO i) qO;rw[show a+(m+1)=a+1+m by omega,show n+(m+1)=n+1+m by omega];exact this
theorem dZ.qp:∀ {m a n j:Nat} {C:aF},dZ k a n C->a+3*m<=1000->dZ k (a+3*m) (n+12003*m) (qp k m j C).1
 |0,_,_,_,_,h,_=>h
 |m+1,a,n,j,C,h,ha=>by
  have h1:=h.Ih qO 1 (j % k);have nx:∀ {D:aF} {a' n':Nat},dZ k a' n' D->a'<=a+3->n'<=n+12003->dZ k (a+3*(m+1)) (n+12003*(m+1)) (Go.Proofs.YtnibdnahojjcgaaGreat.qp k m (j+1) D).1:=λhD q1 q2=>by
   have:=dZ.qp (m:=m) (j:=j+1) (hD.up q1 q2) qO;exact this.up qO qO
  show dZ k _ _ (bif zV (j % k) (nJ k 1 (j % k) C) then bif zV (j % k) (nJ k 2 (j % k) (nJ k 2 (j % k) (nJ k 1 (j % k) C))) then (_,_) else _ else _:aF×Int).1;have h3:=(h1.Ih qO 2 (j % k)).Ih qO 2 (j % k);cases zV (j % k) (nJ k 1 (j % k) C)
  ·exact nx h1 qO qO
  ·cases zV (j % k) (nJ k 2 (j % k) (nJ k 2 (j % k) (nJ k 1 (j % k) C)))
   ·exact nx h3 qO qO
   ·exact h3.up qO qO
theorem dZ.fair{b:Int}(hb : -9223372036854775808<=b)(h:dZ k a n C)(ha:a+7*k<=1000):dZ k (a+7*k) (n+k+4000+24006*k) (BJ k b C).1:=by
 have h1:=(h.Au hb (m:=k) (i:=0) qO).drain (m:=4000);have:=h1.qp (m:=2*k) (j:=0) qO;exact this.up qO qO
structure y5 (k:Nat) (x:Sit):Prop where
 oU:x.st.version<=x.bin
 floor:x.floor=x.bin
 eQ:0<=x.eQ/\x.eQ<=x.log.length
 len:x.log.length<=64
 st:kC x.st x.bin
 bin:1<=x.bin/\x.bin<=3
 es:∀ e∈x.log,e.b=[]\/∃ c,e.b=gU c/\fZ c x.bin
theorem as4(h:dZ k a n C){i:Nat}(hi:i<k)(hu:(mX (C.at i)).up=true):y5 k (mX (C.at i)):=by
 obtain⟨T,hT,v,fl,g⟩:=h;obtain⟨L,t,g2⟩:=g.nd i hi;have hd:(C.at i).aA.down=false:=by
  rcases e:(C.at i).aA.down with _|_
  ·rfl
  ·unfold mX at hu;rw[e]at hu;cases hu
 have e:mX (C.at i)=⟨true,(C.at i).dn,(C.at i).bin,(C.at i).ah.floor,(C.at i).ah.term,(C.at i).ah.gZ,(C.at i).eQ,(C.at i).fA,(C.at i).ah.log,(C.at i).st⟩:=by unfold mX;rw[hd];rfl
 rw[e];have u:=g2.g.up hd;have hv:=g2.g.SC hd g.sup hi;have ha:=g2.g.ap;have afw:=u.oU;have hst:(C.nd i).st.version<=(C.nd i).bin:=Int.le_trans afw hv.1;refine⟨hst,u.bin.symm,⟨Int.le_trans ha.1 ha.2.1,ha.2.2⟩,g2.g.log.len,u.st.mono hst hv.2.2,hv.2,λx hx=>?_⟩;rcases(g2.g.log.log x hx).b with hb|⟨c,h1,h2,_⟩
 ·exact .inl hb
 ·exact .inr ⟨c,h1,h2.up hv.1 hv.2.2⟩
end
end
end Go.Proofs.YtnibdnahojjcgaaGreat
