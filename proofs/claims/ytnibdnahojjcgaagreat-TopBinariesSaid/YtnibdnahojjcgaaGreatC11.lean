/- Lemmas. -/
import Derived.Test.YtnibdnahojjcgaaGreatC08
import Derived.Test.YtnibdnahojjcgaaGreatC09
namespace Go.Proofs.YtnibdnahojjcgaaGreat
set_option linter.all false
set_option maxRecDepth 100000
set_option maxHeartbeats 0
open Go.RowKit Tryz
def aog{l:List UInt8}:(l == l)=true:=by simp
def apd(r:aP)(h0:iG r=true):aQ 101 [.d (bW (iK r.kind.toNat::vz r))] (bI [tK r,iV 0]):=by
 refine ay func101 λX=>?_
 (repeat'(first|refine aC ?_|refine aO (aqd r h0) ?_|refine aO (Uc r h0) ?_|refine aZ _ (fM (λht=>af.tell (Y3 (kS r) (iK r.kind.toNat::vz r)) vw ⟨rfl,rfl⟩) ?_)|refine aj.mk (λh=>ai h (by rw[afr,aog];decide)) (λh=>?_)|refine aj.n (λh=>?_)|refine ag.a ?_|refine kJ rfl vw))<;>try exact cls
def agm(s:bC)(r:aP)(h0:iG r=true)(hf:mO s r=true)(hl:s.log.length<=200):aQ 102 [jC s,tK r] (bI [jC (mZ s r),iV 0]):=by
 have h:=wP h0;rcases(show r.kind=1\/r.kind=2\/r.kind=3\/r.kind=4 by omega) with e|e|e|e
 ·rw[auW e];exact ao7 s r h0 e hf hl
 ·rw[auV e];exact ao6 s r h0 e hf hl
 ·rw[auU e];exact ao5 s r h0 e hf hl
 ·rw[auT e];exact ao4 s r h0 e hf hl
structure mV (s:bC) (L:List aP):Prop where
 ok:L.all iG=true
 st:(steps s L).2=0
 log:s.log.length<=70
 len:L.length<=100
def tC(d:fC)(s:bC)(L:List aP):bC×Int×fC:=
 bif decide ((L.length:Int)=0) then(s,0,d)
 else bif decide (65536<d.b.length+(di L).length) then(s,20,d)
 else bif d.oU then(s,30,(d.append (di L)).sync)
 else((steps s L).1,0,(d.append (di L)).sync)
def al8{s:bC}{r:aP}(h:(ku s r).2=0):iG r=true/\mO s r=true/\ku s r=(mZ s r,0):=by
 unfold ku at h ⊢;rcases h1:iG r with _|_
 ·rw[h1]at h;simp at h
 ·rcases h2:mO s r with _|_
  ·rw[h1,h2]at h;simp at h
  ·simp
def Nl{s:bC}{L:List aP}(h:(steps s L).2=0){i:Nat}(hi:i<L.length):(steps s (L.take i)).2=0/\iG (L.getD i .z)=true/\mO (steps s (L.take i)).1 (L.getD i .z)=true/\(steps s (L.take (i+1))).1=mZ (steps s (L.take i)).1 (L.getD i .z):=by
 have h1:=WB s L i h;have h2:=WB s L (i+1) h;rw[kR .z hi]at h2 ⊢;rw[ajh _ _ _ h1]at h2 ⊢;by_cases h3:(ku (steps s (L.take i)).1 (L.getD i .z)).2=0
 ·obtain⟨a,b,c⟩:=al8 h3;rw[if_pos h3,c];exact⟨h1,a,b,rfl⟩
 ·rw[if_neg h3]at h2;exact ai h2 h3
def acF{s:bC}{L:List aP}(hl:s.log.length<=70):(steps s L).1.log.length<=70:=by
 induction L generalizing s with
 |nil=>exact hl
 |cons r L ih=>
  unfold steps;split
  ·exact ih (akm s r hl)
  ·exact hl
def KE{L:List aP}(h:L.all iG=true){i:Nat}(hi:i<L.length):iG (L.getD i .z)=true:=List.all_eq_true.1 h _ (ja hi)
def XP{L:List aP}(h:L.all iG=true){i:Nat}(hi:i<L.length):di (L.take (i+1))=di (L.take i)++oh (kS (L.getD i .z)):=by
 rw[kR .z hi,ajj,(JK (KE h hi)).1]
def al7{L:List aP}(h:L.all iG=true)(i:Nat):(di (L.take i)).length<=i*211:=by
 have:=acM (L.take i) (by
  rw[y7];intro x hx;exact List.all_eq_true.1 h x (List.mem_of_mem_take hx))
 have h2:(L.take i).length<=i:=by rw[dG];omega
 omega
def li{i n:Nat}(h:decide ((i:Int)<(n:Int))=true:=by assumption):i<n:=by have:=bT h;omega
def agZ{d:fC}(hd:d.ok){x:List UInt8}(h:d.b.length+x.length<=65536):(d.append x).ok:=⟨hd.s0,by have:=hd.s1;show d.synced<=((d.b++x).length:Nat);rw[bP];omega,by show(d.b++x).length<=65536;rw[bP];omega,by show(d.dA.drop x.length).length<=100000;have:=hd.dA;rw[eY];omega⟩
def YE{s:bC}{L:List aP}(hL:mV s L):(di L).length<=100000:=by
 have:=acM L hL.ok;have:=hL.len;omega
def sv{p:Prop}(h:p:=by
 refine ay func94 λX=>?_
 (repeat'(first|refine T.cut (x:=.seq (.region 2 _ _) _) ⟨90,[(0,.ptr 0 0),(2,.d (kK L)),(4,.ptr 2 0),(6,.ptr 3 0),(7,iV 0),(8,.row 4 (di L).length)],⟨[(0,.Wp 5 (I8 d)),(1,kL (d.b++d.dA)),(2,.Wp 4 (λk=>.d (rq s k))),(3,.Wp 4 (λ_=>.top)),(4,kL (di L))],5⟩⟩ ?_ (T.eG (i:=4) (h:=λq=>(λb _=>gG b) ((di L).getD q 0)) (iI.of qN rfl fr) (T.le ⟨90,[(0,.ptr 0 0),(2,.d (kK L)),(4,.ptr 2 0),(6,.ptr 3 0),(7,iV 0),(8,.d (bW (di L)))],⟨[(0,.Wp 5 (I8 d)),(1,kL (d.b++d.dA)),(2,.Wp 4 (λk=>.d (rq s k))),(3,.Wp 4 (λ_=>.top))],5⟩⟩ ?_ ?_))|refine T.cut (x:=.seq (.region 14 _ _) _) ⟨90,[(0,.ptr 0 0),(2,.d (kK L)),(4,.ptr 2 0),(6,.ptr 3 0),(7,iV 0),(8,.d (bW (di L))),(14,.ptr 5 0)],⟨[(0,.Wp 5 (I8 d)),(1,kL (d.b++d.dA)),(2,.Wp 4 (λk=>.d (rq s k))),(3,.Wp 4 (λ_=>.top)),(5,.Wp 4 (λk=>.d (rq (steps s L).1 k)))],6⟩⟩ ?_ ?_|refine rQ 8 5 (λj _=>.d (gG (([]:List UInt8).getD j 0))) rfl rfl qN (dU (c:=.seq (.region 3 _ _) _) L.length (λi (a:List UInt8)=>⟨90,[(0,.ptr 0 0),(2,.d (kK L)),(4,.ptr 2 0),(6,.ptr 3 0),(7,iV 0),(8,.row 4 a.length),(20,.d (kK L)),(21,iV L.length),(22,iV i)],⟨[(0,.Wp 5 (I8 d)),(1,kL (d.b++d.dA)),(2,.Wp 4 (λk=>.d (rq s k))),(3,.Wp 4 (λ_=>.top)),(4,kL a)],5⟩⟩) (λi a=>a=di (L.take i)) [] ?_ ?_ (λi a hi hp=>?_))|refine dU (c:=.seq (.region 15 _ _) _) L.length (λi (a:bC)=>⟨90,[(0,.ptr 0 0),(2,.d (kK L)),(4,.ptr 2 0),(6,.ptr 3 0),(7,iV 0),(8,.d (bW (di L))),(14,.ptr 5 0),(52,.d (kK L)),(53,iV L.length),(54,iV i)],⟨[(0,.Wp 5 (I8 d)),(1,kL (d.b++d.dA)),(2,.Wp 4 (λk=>.d (rq s k))),(3,.Wp 4 (λ_=>.top)),(5,.Wp 4 (λk=>.d (rq a k)))],6⟩⟩) (λi a=>a=(steps s (L.take i)).1) s ?_ ?_ (λi a hi hp=>?_)|refine aZ (mZ a (L.getD i .z)) ⟨?_,?_,?_⟩|refine aZ (a++oh (kS (L.getD i .z))) ⟨?_,?_,?_⟩|refine T.seq ?_|refine T.region ?_|refine T.cond ?_|refine T.block ?_|refine T.ret ?_|refine T.skip ?_|refine T.exit ?_|refine af.tell (Uc (L.getD i .z) (KE hL.ok li)) ⟨(gu (by repeat'(first|exact tv|exact qV|refine an ?_ ?_))),tv⟩ ?_|refine af.tell (atr (kS (L.getD i .z)) (JK (KE hL.ok li)).2) vw ?_|refine af.tell (aaf s (by have:=hL.log;omega)) ⟨(gu (by repeat'(first|exact tv|exact qV|refine an ?_ ?_))),tv⟩ ?_|refine af.tell (agm a (L.getD i .z) (Nl hL.st li).2.1 (by rw[hp];exact(Nl hL.st li).2.2.1) (by rw[hp];have:=acF (L:=L.take i) hL.log;omega)) ⟨(gu (by repeat'(first|exact tv|exact qV|refine an ?_ ?_))),(gu (by repeat'(first|exact tv|exact qV|refine an ?_ ?_))),tv⟩ ?_|refine fO [0,1] ha ?_|refine fO [0,1] hy ?_|refine aj.mk (λh=>ai h (by rw[hz];decide)) (λh=>?_)|refine aj.mk (λh=>?_) (λh=>ai h (by rw[hz];decide))|refine aj.n (λh=>?_)|refine lq (λh=>?_)|refine aj.mk (λh=>?_) (λh=>?_)|refine ag.mk qN ?_|refine bM qN qN ?_ ⟨⟨nb rfl,aW.Wp vw⟩,⟨nb rfl,aW.row rfl fv⟩,tv⟩|exact fH [jC s,iV 30] rfl fr ⟨gu vw,vq (ah iV hz) tv,tv⟩|exact fH [jC (steps s L).1,iV 0] rfl fr vw|exact fH [jC s,iV 20] rfl fr vw|refine ag.mk ?_ ?_))<;>(try(refine leq ?_ ?_ <;> repeat'(first|exact tv|exact qV|exact vq jB trivial|refine vq (ah (λx:bC=>V.d (gY x.log)) ?_) tv|exact VW.top|exact qW|refine vq (ah (V.row _) ?_) qN|refine vq (ah iV ?_) tv|refine fE qN ?_ ?_|refine gU qN ?_ (λj hj k hk=>?_) ?_|refine an ?_ ?_)))
 all_goals first|exact rfl|exact cm qV|exact li|(have h8:=bT (aG:decide ((i:Int)<(L.length:Int))=true);omega)|(have h9:=hL.len;simp only[dM];omega)|(rw[hp];exact(Nl hL.st li).2.2.2.symm)|(have e:a=di L:=(by rw[hp,jU om]);first|(rw[e];done)|(rw[e];exact cm qV))|(have e:a=(steps s L).1:=(by rw[hp,jU om]);(rw[e];done))|(have h8:=al7 hL.ok (i+1);rw[XP hL.ok li,bP,<-hp]at h8;have h9:=hL.len;exact⟨rfl,by omega⟩)|(rw[hp];exact(XP hL.ok li).symm)|(have hk:k<1:=hk;obtain rfl:k=0:=Nat.lt_one_iff.1 hk;refine cm (vq ?_ tv);exact Ak (C:=λb _=>gG b) (z:=0) rfl hj fr fr)|exact List.length_append.symm):p:=h
def apC(d:fC)(s:bC)(L:List aP)(hL:mV s L)(hd:d.ok)(h0:d.down=false)(hk : -9223372036854775808<=d.axz)(he:L.length≠0)(hfull:¬65536<d.b.length+(di L).length)(hdm:d.oU=true):af 94 [.ptr 0 0,jC s,.d (kK L)] (DS d) (λrv rt=>rv=(bI [jC s,iV 30])/\rt=(DS (d.append (di L)).sync)):=by
 have ha:=aeI d (di L) hd (YE hL) h0 qO;have hy:=agl (d.append (di L)) (agZ hd qO) h0 hk;have hz:(d.append (di L)).UK=30:=by show(bif d.oU then(30:Int) else 0)=30;rw[hdm];rfl
 exact sv
def apD(d:fC)(s:bC)(L:List aP)(hL:mV s L)(hd:d.ok)(h0:d.down=false)(hk : -9223372036854775808<=d.axz)(he:L.length≠0)(hfull:¬65536<d.b.length+(di L).length)(hdm:d.oU=false):af 94 [.ptr 0 0,jC s,.d (kK L)] (DS d) (λrv rt=>rv=(bI [jC (steps s L).1,iV 0])/\rt=(DS (d.append (di L)).sync)):=by
 have ha:=aeI d (di L) hd (YE hL) h0 qO;have hy:=agl (d.append (di L)) (agZ hd qO) h0 hk;have hz:(d.append (di L)).UK=0:=by show(bif d.oU then(30:Int) else 0)=0;rw[hdm];rfl
 exact sv
def apB(d:fC)(s:bC)(L:List aP)(hL:mV s L)(hd:d.ok)(h0:d.down=false)(hk : -9223372036854775808<=d.axz)(he:L.length≠0)(hfull:65536<d.b.length+(di L).length):af 94 [.ptr 0 0,jC s,.d (kK L)] (DS d) (λrv rt=>rv=(bI [jC s,iV 20])/\rt=(DS d)):=by
 have ha:=aly d (di L) hd (YE hL) h0 hfull;exact sv
def apz(d:fC)(s:bC)(hl:s.log.length<=70):af 94 [.ptr 0 0,jC s,.d (kK [])] (DS d) (λrv rt=>rv=(bI [jC s,iV 0])/\rt=(DS d)):=by
 refine ay func94 λX=>?_
 repeat'(first|refine T.seq ?_|refine T.region ?_|refine T.cond ?_|refine T.block ?_|refine T.ret ?_|refine T.exit ?_|refine BN ?_|refine TL.round ?_|refine af.tell (aaf s qo) ⟨(gu (by repeat'(first|exact tv|exact qV|refine an ?_ ?_))),tv⟩ ?_|refine aj.n (λh=>?_)|refine lq (λh=>?_)|refine ag.mk qN ?_|exact bM qN qN (fH [jC s,iV 0] rfl fr vw) ⟨⟨nb rfl,aW.Wp vw⟩,⟨nb rfl,aW.row rfl fv⟩,tv⟩)
structure Laid (b:List UInt8) (L:List aP) (t:List UInt8):Prop where
 eq:b=di L++t
 ok:Dz L
 ahO:(ik t).2.2≠0
 len:b.length<=100000
def Laid.drop{b:List UInt8}{L:List aP}{t:List UInt8}(h:Laid b L t){i:Nat}(hi:i<=L.length):b.drop (di (L.take i)).length=di (L.drop i)++t:=by
 rw[h.eq]
 conv=>lhs;arg 2;rw[<-List.take_append_drop i L]
 rw[Rx,jV,List.drop_left' rfl]
def Laid.aaw{b:List UInt8}{L:List aP}{t:List UInt8}(h:Laid b L t){i:Nat}(hi:i<L.length):ik (b.drop (di (L.take i)).length)=(kS (L.getD i .z),(kS (L.getD i .z)).length+6,0):=by
 have ha:=KE h.ok.1 hi;obtain⟨f1,f2,f3⟩:=JK ha;rw[h.drop qO,wO .z hi,MN,f1,jV];exact aco _ _ f2 f3
def Laid.lt{b:List UInt8}{L:List aP}{t:List UInt8}(h:Laid b L t){i:Nat}(hi:i<=L.length)(he:(ik (b.drop (di (L.take i)).length)).2.2=0):i<L.length:=by
 obtain h1|h1:=l7 i L.length
 ·exact h1
 ·exfalso;rw[h.drop hi,qM h1]at he;exact h.ahO he
def Laid.end{b:List UInt8}{L:List aP}{t:List UInt8}(h:Laid b L t){i:Nat}(hi:i<=L.length)(he:(ik (b.drop (di (L.take i)).length)).2.2≠0):i=L.length:=by
 obtain h1|h1:=l7 i L.length
 ·exact ai (by rw[h.aaw h1]) he
 ·omega
def Laid.used{b:List UInt8}{L:List aP}{t:List UInt8}(h:Laid b L t)(i:Nat):(di (L.take i)).length<=b.length:=by
 have:di L=di (L.take i)++di (L.drop i):=by rw[<-Rx,List.take_append_drop]
 rw[h.eq,this,bP,bP];omega
def anC{b:List UInt8}{u j:Nat}:b.getD (u+j) 0=(b.drop u).getD j 0:=by rw[bn,bn,rP]
def au3{n:Nat}(h:(!decide ((n:Int)=0))=true):n≠0:=by
 intro e;subst e;cases h
def ahx{n:Nat}(h:(!decide ((n:Int)=0))=false):n=0:=by
 by_cases e:n=0
 ·exact e
 ·rw[aT qO]at h;cases h
def amn(b:List UInt8)(L:List aP)(t:List UInt8)(hL:Laid b L t):aQ 61 [.d (bW b)] (bI [jC (fJ L),iV ((di L).length:Nat)]):=by
 refine ay func61 λX=>?_
 have hI:∀{i:Nat}{a:bC×Nat},i<=L.length->(a.1=(steps zT (L.take i)).1/\a.2=(di (L.take i)).length)->(!decide (((ik (b.drop a.2)).2.2:Int)=0))=false->i<L.length:=λhi hp h=>hL.lt hi (by rw[<-hp.2];exact ahx h)
 have hE:∀{i:Nat}{a:bC×Nat},i<=L.length->(a.1=(steps zT (L.take i)).1/\a.2=(di (L.take i)).length)->(!decide (((ik (b.drop a.2)).2.2:Int)=0))=true->a.1=fJ L/\a.2=(di L).length:=λhi hp h=>by have e:=hL.end hi (by rw[<-hp.2];exact au3 h);rw[hp.1,hp.2,e,mM];exact⟨rfl,rfl⟩
 (repeat'(first|refine dU L.length (λi (a:bC×Nat)=>⟨46,[(0,.d (bW b)),(2,.ptr 0 0),(3,iV 0),(4,.ptr 1 0),(5,iV a.2)],⟨[(0,.Wp 4 (λ_=>.top)),(1,.Wp 4 (λk=>.d (rq a.1 k)))],2⟩⟩) (λi a=>a.1=(steps zT (L.take i)).1/\a.2=(di (L.take i)).length) (zT,0) ?_ ?_ (λi a hi hp=>?_)|refine aZ (mZ a.1 (L.getD i .z),a.2+((kS (L.getD i .z)).length+6)) ⟨?_,?_,?_⟩|refine T.seq ?_|refine T.region ?_|refine T.cond ?_|refine T.block ?_|refine T.ret ?_|refine T.skip ?_|refine T.exit ?_|refine af.tell (avt (b.drop a.2) (by have:=hL.len;rw[eY];omega)) ⟨VW.sl (by rw[eY];rfl) (λj hj k hk=>ah gG anC),tv⟩ ?_|refine af.tell (apd (L.getD i .z) (KE hL.ok.1 (hI hi hp aG))) ⟨vq (ah (λl=>V.d (bW l)) (by rw[hp.2,hL.aaw (hI hi hp aG)];exact afr _)) tv,tv⟩ ?_|refine af.tell (agm a.1 (L.getD i .z) (KE hL.ok.1 (hI hi hp aG)) (by rw[hp.1];exact(Nl hL.ok.2 (hI hi hp aG)).2.2.1) (by rw[hp.1];have:=acF (s:=zT) (L:=L.take i) (by decide);omega)) ⟨(gu (by repeat'(first|exact tv|exact qV|refine an ?_ ?_))),(gu (by repeat'(first|exact tv|exact qV|refine an ?_ ?_))),tv⟩ ?_|refine aj.n (λh=>?_)|refine lq (λh=>?_)|refine aj.mk (λh=>?_) (λh=>?_)|refine ag.mk qN ?_|(have q:=hE hi hp aG;refine kJ rfl ⟨gu (by repeat'(first|exact tv|exact qV|exact vq (ah (λs:bC=>V.d (rq s _)) q.1) tv|refine an ?_ ?_)),vq (ah iV (by rw[q.2])) tv,tv⟩)|refine ag.mk ?_ ?_))<;>(try(refine leq ?_ ?_ <;> repeat'(first|exact tv|exact qV|exact VW.top|exact VW.dC|exact qW|refine vq (ah iV ?_) tv|refine fE qN ?_ ?_|refine an ?_ ?_)))
 all_goals first|exact rfl|exact⟨rfl,rfl⟩|(have h8:=hL.used i;rw[hp.2];omega)|exact hI hi hp aG|(have h8:=WJ (b.drop a.2) (ahx (aG:(!decide (((ik (b.drop a.2)).2.2:Int)=0))=false));rw[eY]at h8;have h9:=hL.len;simp only[dM];omega)|exact⟨by rw[hp.1];exact(Nl hL.ok.2 (hI hi hp aG)).2.2.2.symm,by rw[hp.2,XP hL.ok.1 (hI hi hp aG),bP,Fj]⟩|(have e:=hL.aaw (hI hi hp aG);rw[<-hp.2]at e;rw[e];simp;done)
