/- Lemmas. -/
import Derived.Test.YtnibdnahojjcgaaGreatC10
import Derived.Test.YtnibdnahojjcgaaGreatC11
import Derived.Test.YtnibdnahojjcgaaGreatC12
import Derived.Test.YtnibdnahojjcgaaGreatC13
namespace Go.Proofs.YtnibdnahojjcgaaGreat
set_option linter.all false
set_option maxRecDepth 100000
set_option maxHeartbeats 0
open Go.RowKit Tryz
def amw{t t1 t3:ST}{s sA sE:AS}{a:Act}{w:World}{G:Gh}{p:Nat}{g:Operand}{assign body:Code}{abj:Exit->Act->World->Prop}{gf n:Nat}{mD:Nat->V}{vF:Func}{cG:Code}{enc:V}
  (hst:s.s=t) (hg:bZ G t w) (hs:oZ G s a w) (hev:s.ev g = .fn gf 0 n mD) (hp:p<s.nt) (hf:prog.funcs[gf]?=some vF) (hb:vF.body=some cG) (hname:(vF.name == "runtime.NumGoroutine")=false) (hn:n+1<=vF.ntmps)
  (hit:∀(X1:Cx t) (l:Nat),X1.ds=[]->OW X1 l enc t1 sE.s->T X1 cG (uY vF X1 (λv t'=>v=V.top/\t'=t3)) ⟨vF.ntmps,pU (.d (.v (.func (.yield l) #[] #[]))::(List.range n).map mD),t⟩)
  (hass:∀(l:Nat) (X2:Cx t1),X2.ds=[]->TR X2 l assign (λe s'=>e = .normal/\bf t1.nx s' sA) ⟨s.nt,(p,enc)::s.sl,t1⟩)
  (hbody:∀(l:Nat) (X3:Cx sA.s),X3.ds=[]->TR X3 l body (λe s'=>e = .normal/\bf sA.s.nx s' sE) sA)
  (hdone:∀(G3:Gh) (w3:World) (D:Nat),bZ G3 t3 w3->Stp G t.get w G3 t3.get w3->w3.heap[D]?=some (.deferred (some []))->w.heap.size<=D->¬G3.F D->(∀ i,¬dB G3 t3.get i D)->abj .normal { a with defers:={ target:=.collected D,args:=#[] }::a.defers } w3) :
  (Code.rangeFunc g #[p] assign body).wp prog abj a w:=by
 refine(wpIn_wide (n:=1)).1 (wpIn_rangeFunc ?_);intro fn _;have hgv:=hs.ev g;rw[hev]at hgv;obtain⟨fs,cs,hgv,hfs,hcs,hcv⟩:=hgv;obtain rfl:=Array.eq_empty_of_size_eq_zero hfs;have hcs:cs.size=n:=by simpa using hcs
 obtain⟨rec,hrec⟩:∃ rec:Loop,rec={ state:=.ready,pending:=none,fn,tmps:=a.tmps,params:=#[p],assign,body,defers:=w.heap.size }:=⟨_,rfl⟩;obtain⟨w1,hw1⟩:∃ w1,(w.alloc (.deferred (some []))).alloc (.loop rec)=w1:=⟨_,rfl⟩;have hg1:bZ G t w1:=by rw[<-hw1];exact hg.alloc.alloc
 have Bz:Stp G t.get w G t.get w1:=by rw[<-hw1];exact(Stp.alloc _).trans (Stp.alloc _)
 have hl1:w1.heap[w.heap.size+1]?=some (.loop rec):=by
  rw[<-hw1];have:=World.alloc_heap_new (w.alloc (.deferred (some []))) (.loop rec);rwa [World.size_alloc]at this
 have Jl:w1.heap[w.heap.size]?=some (.deferred (some [])):=by
  rw[<-hw1];exact(Below.heap_alloc _ _ _ (by simp)).trans (World.alloc_heap_new w _)
 have hbig:∀ k,w.heap.size<=k->¬G.F k/\∀ i,¬dB G t.get i k:=λk hk=>⟨λh=>by have:=hg.axy.wF k h;omega,λi h=>by have:=hg.axy.lt h;omega⟩
 let X1:Cx t:=⟨G,w1,hg1,[]⟩
 have hs1:oZ X1.G s a X1.w:=⟨hs.nt,λj=>by
  have h1:=hs.sl j;rw[hst]at h1 ⊢;exact h1.dX Bz hg.axy⟩
 have aa6:xy gf:=by
  unfold xy;rw[hf,qg,hb,hname];rfl
 have hY:OW X1 (w.heap.size+1) enc t1 sE.s:=alC X1 (r:=rec) hst hs1 hp hl1 (hbig _ qO).1 (hbig _ qO).2 (by rw[hrec]) (by rw[hrec]) (by rw[hrec]) (by rw[hrec]) (by rw[hrec];exact hass _) (by rw[hrec];exact hbody _);refine⟨w.heap.size+1,[{ target:=.collected w.heap.size,args:=#[] }],w1,{ target:=.fn (.func gf) cs,args:=#[.func (.yield (w.heap.size+1)) #[] #[]] },w1,gf,
  #[.func (.yield (w.heap.size+1)) #[] #[]]++cs,w1,?_,?_,λ_ _=>trivial,?_,λe=>(by cases e),callsIn_wide.2 (calls_of_wp hf hb ?_)⟩
 ·rw[<-hw1,hrec];exact run_enterLoop_outer _ _ _ _ _
 ·simp only[resolve,hgv];simp[go_sem]
 ·simp[invoke,go_sem,V7 aa6]
 have hm:Mod X1 ⟨vF.ntmps,pU (.d (.v (.func (.yield (w.heap.size+1)) #[] #[]))::(List.range n).map mD),t⟩ { tmps:=(#[Value.func (.yield (w.heap.size+1)) #[] #[]]++cs)++Array.replicate (vF.ntmps-(#[Value.func (.yield (w.heap.size+1)) #[] #[]]++cs).size) undef,defers:=[] } w1:=by
  refine⟨G,hg1,⟨⟨by simp[hcs];omega,λj=>?_⟩,rfl⟩,Stp.refl _ _ _⟩;show aY G t.get w1 (dD (pU _) j) _;unfold pU;rw[JC _ 0 j,if_pos (cZ _),Nat.sub_zero,bn];obtain _|j:=j
  ·show aY G t.get w1 (.d (.v (.func (.yield (w.heap.size+1)) #[] #[]))) _;rw[uJ,Array.getElem?_append_left (by simp;omega),Array.getElem?_append_left (by simp)];exact rfl
  ·rw[List.getElem?_cons_succ,qQ];by_cases hj:j<n
   ·rw[List.getElem?_range hj];show aY G t.get w1 (mD j) _;rw[uJ,Array.getElem?_append_left (by simp;omega),Array.getElem?_append_right (by simp)];have e:cs[j]?=some cs[j]:=vI qO;have h2:=hcv j cs[j] (by simp);rw[show j+1-(#[.func (.yield (w.heap.size+1)) #[] #[]]:Array Value).size=j by simp,e];rw[hst]at h2;exact h2.dX Bz hg.axy
   ·rw[List.getElem?_eq_none (by simp;omega)];exact trivial
 refine wp_mono ((hit X1 _ rfl hY).h _ w1 hm) λe a' w' hh=>?_
 obtain⟨s',hq,hm'⟩:=hh;have hd:a'.defers=[]:=by obtain⟨_,_,hs,_⟩:=hm';exact hs.df
 have fin:∀ v:Value,(∃ W t' G',(W=V.top/\t'=t3)/\bZ G' t' w'/\Stp X1.G t.get X1.w G' t'.get w'/\aY G' t'.get w' W v)->rangePost Fence.wide 1 prog (w.heap.size+1) abj { a with defers:=[{ target:=.collected w.heap.size,args:=#[] }]++a.defers } (.returned v) w':=by
  rintro v ⟨W,t',G',⟨_,rfl⟩,h3,h4,_⟩;have hlt1:w.heap.size+1<w1.heap.size:=(Array.getElem?_eq_some_iff.1 hl1).1;have hl3:w'.heap[w.heap.size+1]?=some (.loop rec):=(h4.axz _ hlt1 (hbig _ qO).2).trans hl1;have hd3:w'.heap[w.heap.size]?=some (.deferred (some [])):=(h4.axz _ (by show w.heap.size<w1.heap.size;omega) (hbig _ (bF _)).2).trans Jl;have hF3:∀ k,w.heap.size<=k->k<=w.heap.size+1->¬G'.F k/\∀ i,¬dB G' t'.get i k:=λk hk hk2=>⟨λh=>by
   obtain h|h:=h4.F2 k h
   ·exact(hbig k hk).1 h
   ·have h:w1.heap.size<=k:=h;omega,λi h=>by
   obtain h|h:=h4.own i k h
   ·exact(hbig k hk).2 i h
   ·have h:w1.heap.size<=k:=h;omega⟩
  have hend:=run_endLoop (P:=prog) hl3 (by rw[hrec];simp);refine⟨_,_,hend,?_⟩;rw[show rec.pending=none by rw[hrec]];exact hdone G' _ w.heap.size (h3.putObj (hF3 _ qO (bF _)).1 (hF3 _ qO (bF _)).2) ((Bz.trans h4).putObj _ qO) ((World.putObj_heap_other qO).trans hd3) (bF _) (hF3 _ (bF _) qO).1 (hF3 _ (bF _) qO).2
 cases e with
 |ret=>
  obtain⟨v,h1,V,t',G',h2,h3,h4,h5⟩:=Fz hq hm';exact⟨hd,v,h1,fin v ⟨V,t',G',h2,h3,h4,h5⟩⟩
 |normal=>
  obtain⟨v,h1,V,t',G',h2,h3,h4,h5⟩:=Fz hq hm';exact⟨hd,v,h1,fin v ⟨V,t',G',h2,h3,h4,h5⟩⟩
 |exit i=>exact hq.elim
 |goto l=>exact hq.elim
 |panic c=>exact hq.elim
 |outgrown=>exact hq.elim
structure aA where
 me:Int
 many:Int
 aB:fC
 bin:Int
 ae:bC
 role:Int
 dN:Int
 dn:Int
 st:aN
 fV:List Rep
 ig:List Bool
 eF:List Int
 next:List Int
 gz:List Int
def tN(d:fC):Nat->V
 |0=>.vw 2 (d.b++d.dA).length 0 d.b.length|1=>iV d.synced|2=>.b d.down|3=>.b d.oU|_=>iV d.axz
def zK(n:aA):Nat->V
 |0=>iV n.me|1=>iV n.many|2=>.ptr 1 0|3=>iV n.bin|4=>iV n.ae.floor|5=>iV n.ae.term|6=>iV n.ae.cu|7=>.d (gY n.ae.log)
 |8=>iV n.role|9=>iV n.dN|10=>iV n.dn
 |11=>.d (dW n.st 0)|12=>.d (dW n.st 1)|13=>.d (dW n.st 2)|14=>.d (dW n.st 3)|15=>.d (dW n.st 4)|16=>.d (dW n.st 5)|17=>.d (dW n.st 6)
 |18=>.row 3 n.fV.length|19=>.row 4 n.ig.length|20=>.row 5 n.eF.length|21=>.row 6 n.next.length|_=>.row 7 n.gz.length
def gJ(l:List Int):aK:=bQ 3 1 (λn _=>iD n) 0 l
def NL(n:aA):List (Nat×aK):=[(0,.Wp 23 (zK n)),(1,.Wp 5 (tN n.aB)),(2,kL (n.aB.b++n.aB.dA)),(3,bQ 52 2 ji .z n.fV),(4,tH n.ig),(5,gJ n.eF),(6,gJ n.next),(7,gJ n.gz)]
abbrev NS(n:aA):ST:=⟨[(0,.Wp 23 (zK n)),(1,.Wp 5 (tN n.aB)),(2,kL (n.aB.b++n.aB.dA)),(3,bQ 52 2 ji .z n.fV),(4,tH n.ig),(5,gJ n.eF),(6,gJ n.next),(7,gJ n.gz)],8⟩
def jb(n:aA)(m:Nat):List Int:=((List.range m).map (λk:Nat=>(k:Int))).filter (λi=>!decide (i=n.me))
def aby(n:aA)(i:Nat):jb n (i+1)=jb n i++(bif !decide ((i:Int)=n.me) then [(i:Int)] else []):=by
 unfold jb;rw[List.range_succ,List.map_append,List.filter_append];cases h:decide ((i:Int)=n.me) <;> simp[h]
def Wq(n:aA)(m:Nat):(jb n m).length<=m:=by
 unfold jb;have:=List.length_filter_le (λi:Int=>!decide (i=n.me)) ((List.range m).map (λk:Nat=>(k:Int)));simpa using this
def sJ(n:aA)(kind dst:Int):aV:=⟨kind,n.me,dst,n.ae.term,0,0,0,n.bin,false,[]⟩
def NZ{N:Nat}(h:8<=N)(n:aA):∀ k,k<23->xQ N (zK n k):=λk hk=>by
 obtain _|_|_|_|_|_|_|_|_|_|_|_|_|_|_|_|_|_|_|_|_|_|_|k:=k
 all_goals first|exact tv|(show _<N;omega)
def TN{N:Nat}(h:8<=N)(d:fC):∀ k,k<5->xQ N (tN d k):=λk hk=>by
 obtain _|_|_|_|_|k:=k
 all_goals first|exact tv|(show _<N;omega)
def adR(n:aA)(m:Nat)(hm:n.many=m)(h5:m<=5):af 57 [.ptr 0 0] (NS n) (λrv rt=>rv=(.d (iR (jb n m)))/\rt=(NS n)):=by
 refine ay func57 λX=>?_
 (repeat'(first|refine rQ (c:=.block 0 _) 3 3 (λj _=>.d (iD (([]:List Int).getD j 0))) rfl rfl qN (T.block ?_)|refine aC ?_|refine dU m (λi (a:Unit)=>⟨24,[(0,.ptr 0 0),(3,.row 8 (jb n i).length),(8,iV m),(9,iV i)],⟨NL n++[(8,gJ (jb n i))],9⟩⟩) (λ_ _=>True) () ?_ True.intro (λi a hi hp=>?_)|refine aZ () ⟨?_,tv,?_⟩|refine aj.mk (λh=>?_) (λh=>?_)|refine ag.a ?_|(have e:i=m:=(by have h9:=bV h;omega);rw[e];refine Fin.eG (i:=8) (h:=λj _=>iD ((jb n m).getD j 0)) (iI.of qN rfl fr) (uh qN (vq (jB.trans rfl) tv) (by repeat'(first|exact tv|refine fE qN ?_ ?_|refine an ⟨nb rfl,aW.row rfl fv⟩ ?_|exact qV|exact qW|refine an ?_ ?_))))|refine ag.mk ?_ ?_))<;>try exact cls
 all_goals(try(refine leq ?_ ?_ <;> repeat'(first|exact tv|exact qV|exact qW|refine vq (ah (V.row _) ?_) qN|refine vq (ah iV ?_) tv|refine jQ qN (λk hk=>?_) ?_|refine gU qN ?_ (λj hj k hk=>?_) ?_|refine an ?_ ?_)))
 all_goals first|exact rfl|exact cm qV|exact hm|exact cm (VW.refl (NZ qN n k hk))|exact cm (VW.refl (TN qN n.aB k hk))|(have h9:i<m:=om;have q:=Wq n i;first|omega|(rw[aby,dH h];first|(rw[bP];rfl)|(have hk:k<1:=hk;refine cm (kU (C:=λn _=>iD n) (z:=0) (b:=[(i:Int)]) rfl hj fr (λj hj=>?_));obtain rfl:j=0:=Nat.lt_one_iff.1 hj;obtain _|k:=k;exact qV;omega))|(rw[aby,bG h,pO];first|done|exact cm qV))
def X7(n:aA)(k dst:Int):af 58 [.ptr 0 0,iV k,iV dst] (NS n) (λrv rt=>rv=(jT (sJ n k dst))/\rt=(NS n)):=by
 refine ay func58 λX=>?_
 (repeat'(first|refine aC ?_|refine bU 1 [18] (ooz 18 [o1]) ?_|refine mc ?_ ?_|refine ag.a ?_|refine uh qN (gu (by repeat'(first|exact tv|exact qV|exact pg rfl|refine an ?_ ?_))) ?_))<;>(try(refine dm.mk ?_;repeat'(first|exact tv|exact rfl|refine an ?_ ?_|refine ag.mk ?_ ?_)))
 all_goals try exact cls
def abd{p:Prop}[Decidable p](h:(!decide p)=true):¬p:=by simpa using h
def Qc{p:Prop}[Decidable p](h:(!decide p)=false):p:=by simpa using h
def asD(d:fC)(s:bC)(L:List aP)(hL:mV s L)(hd:d.ok)(h0:d.down=false)(hk : -9223372036854775808<=d.axz):af 94 [.ptr 0 0,jC s,.d (kK L)] (DS d) (λv t=>v=bI [jC (tC d s L).1,iV (tC d s L).2.1]/\t=DS (tC d s L).2.2):=by
 unfold tC;by_cases e:L.length=0
 ·obtain rfl:=uI e;exact apz d s hL.log
 ·rw[aT (show ¬((L.length:Int)=0) by omega),bz];by_cases hf:65536<d.b.length+(di L).length
  ·rw[aX hf,dw];exact apB d s L hL hd h0 hk e hf
  ·rw[aT hf,bz];cases hdm:d.oU
   ·exact apD d s L hL hd h0 hk e hf hdm
   ·exact apC d s L hL hd h0 hk e hf hdm
def akl{d:fC}{s:bC}{L:List aP}(h:¬(tC d s L).2.1=0):(tC d s L).1=s:=by
 unfold tC at *;cases h1:decide ((L.length:Int)=0) <;> rw[h1]at h
 ·cases h2:decide (65536<d.b.length+(di L).length) <;> rw[h2]at h
  ·cases h3:d.oU <;> rw[h3]at h
   ·exact ai rfl h
   ·rfl
  ·rfl
 ·rfl
def aS(n:aA)(L:List aP):aA×Int:=({ n with ae:=(tC n.aB n.ae L).1,aB:=(tC n.aB n.ae L).2.2 },(tC n.aB n.ae L).2.1)
structure wB (n:aA):Prop where
 ok:n.aB.ok
 up:n.aB.down=false
 axz : -9223372036854775808<=n.aB.axz
def ahQ(n:aA)(s:bC)(d:fC)(b10 b14 b15:Bool):ST:=⟨[(0,.Wp 23 (zK n)),(1,.Wp 5 (bif b10 then tN d else tN n.aB)),(2,bif b10 then kL (d.b++d.dA) else kL (n.aB.b++n.aB.dA)),(3,bQ 52 2 ji .z n.fV),(4,tH n.ig),(5,gJ n.eF),(6,gJ n.next),(7,gJ n.gz),(8,bif b14 then .Wp 4 (bif b15 then(λk=>.d (rq s k)) else iM 110) else .dead)],9⟩
def aha(n:aA)(L:List aP)(s:bC)(e:Int):List V:=[.ptr 0 0,.ptr 0 0,.ptr 0 2,.ptr 1 0,.ptr 0 0,.ptr 0 0,.ptr 0 3,.ptr 0 4,jC n.ae,.d (kK L),bI [jC s,iV e],bI [jC s,iV e],jC s,iV e,.ptr 8 0,.top,iV e]
def atT{N i k n lo m:Nat}{φ:Nat->Option Nat}(h:φ i=some k)(hk:k<N):VW N (dI φ (.vw i n lo m)) (.vw k n lo m):=by
 refine vq ?_ hk;simp only[dI,h]
def Yz{P:Nat->Prop}{s:bC}:je P (jC s):=λk hk=>True.intro
def adw{P:Nat->Prop}{s:bC}{e:Int}:je P (bI [jC s,iV e]):=λk hk=>by
 obtain _|_|k:=k
 ·exact Yz
 ·exact tv
 ·exact ai hk (by simp)
def agd {p:Prop} (h:p:=by
 (repeat'(first|refine fO [1,2] hcall ?_|exact xu (P:=λ_=>False) (λk h=>h.elim) Yz|exact xu (P:=λ_=>False) (λk h=>h.elim) adw|exact x9.same rfl rfl rfl|refine x9.new ?_|exact tv|exact qV|exact BR (hr.old _ rfl) qN|exact BR (hr.new _ 0 rfl) qN|exact atT (hr.old _ rfl) qN|refine fH [jC s,iV e] rfl fr vw|refine gu ?_|refine ag.mk qN ?_|refine aW.Wp ?_|refine aW.row rfl fv|refine an ?_ ?_))<;>fail):p:=h
def al5(n:aA)(L:List aP)(hL:mV n.ae L)(hn:wB n){X:Cx (NS n)}{id:Nat}{Q:Exit->AS->Prop}(hq:Q .normal ⟨29,rf (nP f55 1).toList (aha n L (tC n.aB n.ae L).1 (tC n.aB n.ae L).2.1)++[(4,iV 0),(0,.ptr 0 0),(1,.d (kK L))],ahQ n (tC n.aB n.ae L).1 (tC n.aB n.ae L).2.2 true true true⟩):T X (.region id (nP f55 1) true) Q ⟨29,[(4,iV 0),(0,.ptr 0 0),(1,.d (kK L))],NS n⟩:=by
 have hsv:∃ s e d,tC n.aB n.ae L=(s,e,d):=⟨_,_,_,rfl⟩;obtain⟨s,e,d,hsv⟩:=hsv;have hcall:=asD n.aB n.ae L hL hn.ok hn.up hn.axz;rw[hsv]at hq hcall;refine Oq (aha n L s e) 9 [none,none,none,none,none,none,none,none,some (14,0)] (λD=>ahQ n s d (D 10) (D 14) (D 15)) qK ?_ ?_;refine { len:=rfl,vT:=rfl,dst:=rfl,back:=rfl,II:=rfl,nx:=λD=>rfl,keys:=λD=>rfl,small:=λD=>rfl,low:=?_,base:=?_,KN:=?_,axI:=?_,ids:=?_,Ko:=?_,step:=?_ }
 ·intro k hk;obtain _|_|_|_|_|_|_|_|k:=k
  all_goals first|rfl|exact ai hk (by show ¬(k+8<8);omega)
 ·refine⟨nb rfl,λk hk=>?_⟩;obtain _|_|_|_|_|_|_|_|_|k:=k
  all_goals first|exact .inr (fB rfl λk hk=>VW.refl (NZ qN n k hk))|exact .inr (fB rfl λk hk=>VW.refl (TN qN n.aB k hk))|exact .inr (aW.row rfl λj hj k hk=>vq rfl tv)|exact .inl rfl|omega
 ·exact⟨tv,rfl,tv,tv⟩
 ·intro i v hv;obtain _|_|_|_|_|_|_|_|_|_|_|_|_|_|_|_|_|i:=i
  all_goals first|(obtain rfl:=fD hv;first|exact tv|exact .inl rfl|exact .inr ⟨_,_,rfl,.inl rfl⟩|exact Yz|exact adw)|exact ai (show(none:Option V)=some v from hv) nofun
 ·intro D hc k hk;obtain _|_|_|_|_|_|_|_|_|k:=k
  ·intro j hj;obtain _|_|_|_|_|_|_|_|_|_|_|_|_|_|_|_|_|_|_|_|_|_|_|j:=j
   all_goals first|exact tv|exact .inl rfl
  ·show ni _ (.Wp 5 (bif D 10 then tN d else tN n.aB));cases D 10;all_goals
    intro j hj;obtain _|_|_|_|_|j:=j
    all_goals first|exact tv|exact .inl rfl
  ·show ni _ (bif D 10 then kL (d.b++d.dA) else kL (n.aB.b++n.aB.dA));cases D 10 <;> exact λj hj k hk=>True.intro
  iterate 5 exact λj hj k hk=>tv
  ·show ni _ (bif D 14 then .Wp 4 (bif D 15 then(λk=>.d (rq s k)) else iM 110) else .dead);cases D 14
   ·exact tv
   ·cases D 15
    ·intro j hj;obtain _|_|_|_|j:=j
     all_goals(exact tv)
    ·exact λj hj=>True.intro
  ·omega
 ·intro D k q r hD hk;obtain _|_|_|_|_|_|_|_|_|k:=k
  all_goals first|cases hk;done|(obtain⟨rfl,_⟩:=Prod.mk.inj (fD (fD hk));show(bif D 14 then _ else .dead)=aK.dead;rw[hD];rfl)
 ·refine UL (0::1::3::7::0::16::48::112::240::0::1023::2047::4095::4095::0::24575::65535::[]) 17 rfl rfl λi o v ho hv=>?_
  obtain _|_|_|_|_|_|_|_|_|_|_|_|_|_|_|_|_|i:=i
  all_goals first|exact ai (show(none:Option Oper)=some o from ho) nofun|(obtain rfl:=fD ho;obtain rfl:=fD hv;refine⟨by(rfl),λD φ hc hr=>?_⟩;first|exact agd|(obtain⟨b0,D,rfl⟩:=Ud D 14;cases b0 <;> exact agd))
 ·exact hq
def Ea(n:aA)(L:List aP)(hL:mV n.ae L)(hn:wB n):af 55 [.ptr 0 0,.d (kK L)] (NS n) (λrv rt=>rv=(iV (aS n L).2)/\rt=(NS (aS n L).1)):=by
 refine ay func55 λX=>?_
 (repeat'(first|refine al5 n L hL hn ?_|refine aC ?_|refine aj.mk (λh=>?_) (λh=>?_)|refine ag.a ?_|refine bM qN qN (vq (ah iV ?_) tv) ?_))<;>first|exact rfl|(exact(Qc h).symm)|(rw[show(aS n L).1={ n with aB:=(tC n.aB n.ae L).2.2 } by unfold aS;rw[akl (abd h)]];exact(by repeat'(first|exact tv|refine fE qN ?_ ?_|refine an ⟨nb rfl,aW.row rfl fv⟩ ?_|exact qV|exact qW|refine an ?_ ?_)))|exact(by repeat'(first|exact tv|refine fE qN ?_ ?_|refine an ⟨nb rfl,aW.row rfl fv⟩ ?_|exact qV|exact qW|refine an ?_ ?_))
def zh(l:List bH)(n dO:Int):List bH:=if (bif (bif decide (n<0) then true else decide ((l.length:Int)<n)) then true else decide (dO<1))=true then [] else(l.drop n.toNat).take (min dO ((l.length:Int)-n)).toNat
def aav{l:List bH}{n dO:Int}(h:(bif (bif decide (n<0) then true else decide ((l.length:Int)<n)) then true else decide (dO<1))=false):0<=n/\n<=l.length/\1<=dO:=by
 by_cases h1:n<0
 ·rw[aX h1]at h;cases h
 ·rw[aT h1,bz]at h;by_cases h2:(l.length:Int)<n
  ·rw[aX h2]at h;cases h
  ·rw[aT h2,bz]at h;have:=bV h;omega
def arT{l:List bH}{a j:Nat}{m:Nat}(hj:j<m):l.getD (a+j) .z=((l.drop a).take m).getD j .z:=by
 rw[bn,bn,nX,if_pos hj,rP]
def aeH(l:List bH)(n dO:Int)(hn:l.length<=100000):aQ 143 [.d (gY l),iV n,iV dO] (.d (gY (zh l n dO))):=by
 refine ay func143 λX=>?_
 (repeat'(first|refine aC ?_|refine aO (Yj (min dO (((l.length-n.toNat:Nat):Int))).toNat (λj=>pJ (l.getD (n.toNat+j) .z)) qo) ?_|refine aj.mk (λh=>?_) (λh=>?_)|refine ag.a ?_|refine Fin.tell (VW.sl ?_ (λj hj k hk=>?_))|refine Fin.tell (pg ?_)|refine ag.mk ?_ ?_))<;>try exact cls
 all_goals first|(have hb:=aav h;(omega))|(unfold zh;rw[if_pos h];rfl)|(have hb:=aav h;unfold zh;rw[if_neg (by rw[h];decide),dG,eY];omega)|(have hb:=aav h;unfold zh;rw[if_neg (by rw[h];decide)];exact ah (λe=>pJ e k) (arT qo))
def yU(K:AS->Prop):Exit->AS->Prop:=λe s=>e = .normal/\K s
def Kw{K:AS->Prop}{s:AS}(h:K s):yU K .normal s:=⟨rfl,h⟩
def abX{f:Nat}{fn:Func}{c0 c1 c2 c3 rest:Code}{args:List V}{t0 t1 t3:ST}{K:V->ST->Prop}{id p gf n:Nat}{g:Operand}{assign body:Code}{sL sA sE:AS}{mD:Nat->V}{vF:Func}{cG:Code}(enc:V)
  (hf:prog.funcs[f]?=some fn) (hb:fn.body=some (.seq c0 (.seq c1 (.seq c2 (.seq (.seq c3 (.block id (.rangeFunc g #[p] assign body))) rest))))) (hname:(fn.name == "runtime.NumGoroutine")=false) (hn:args.length<=fn.ntmps)
  (h0:∀ X:Cx t0,T X c0 (yU (T X c1 (yU (T X c2 (yU (T X c3 (yU λs'=>bf t0.nx s' sL))))))) ⟨fn.ntmps,pU args,t0⟩)
  (hev:sL.ev g = .fn gf 0 n mD) (hp:p<sL.nt) (hfG:prog.funcs[gf]?=some vF) (hbG:vF.body=some cG) (hnG:(vF.name == "runtime.NumGoroutine")=false) (hnn:n+1<=vF.ntmps)
  (hit:∀(X1:Cx sL.s) (l:Nat),X1.ds=[]->OW X1 l enc t1 sE.s->T X1 cG (uY vF X1 (λv t'=>v=V.top/\t'=t3)) ⟨vF.ntmps,pU (.d (.v (.func (.yield l) #[] #[]))::(List.range n).map mD),sL.s⟩)
  (hass:∀(l:Nat) (X2:Cx t1),X2.ds=[]->TR X2 l assign (yU λs'=>bf t1.nx s' sA) ⟨sL.nt,(p,enc)::sL.sl,t1⟩)
  (hbody:∀(l:Nat) (X3:Cx sA.s),X3.ds=[]->TR X3 l body (yU λs'=>bf sA.s.nx s' sE) sA)
  (hrest:∀(X4:Cx t3) (X':Cx t0),T X4 rest (uY fn X' K) ⟨sL.nt,sL.sl,t3⟩):af f args t0 K:=by
 refine⟨?_,λG w us hg hl hv=>?_⟩
 ·unfold xy;rw[hf,qg,hb,hname];rfl
 let X:Cx t0:=⟨G,w,hg,[]⟩
 refine callsIn_wide (n:=1).1 (callsIn_of_wp_marks hf hb trivial ((wpIn_wide (n:=1)).2 ?_));have hm:Mod X ⟨fn.ntmps,pU args,t0⟩ { tmps:=us.toArray++Array.replicate (fn.ntmps-us.toArray.size) undef,defers:=[] } w:=by
  refine⟨G,hg,⟨⟨by simp;omega,λj=>?_⟩,rfl⟩,Stp.refl _ _ _⟩;show aY G t0.get w (dD (pU args) j) _;unfold pU;rw[JC args 0 j,if_pos (cZ _),Nat.sub_zero,bn];rcases ha:args[j]? with _|v
  ·exact trivial
  ·have hj:j<us.length:=by rw[hl];exact(List.getElem?_eq_some_iff.1 ha).1
   have e:=dV hj;have:=hv j v _ ha e;rw[uJ,Array.getElem?_append_left (by simpa using hj)];simpa [hj] using this
 refine wp_seq (wp_mono ((h0 X).h _ w hm) ?_);rintro e a1 w1 ⟨s1,⟨rfl,h1⟩,hm1⟩;refine wp_seq (wp_mono (h1.h _ _ hm1) ?_);rintro e a2 w2 ⟨s2,⟨rfl,h2⟩,hm2⟩;refine wp_seq (wp_mono (h2.h _ _ hm2) ?_);rintro e a3 w3 ⟨s3,⟨rfl,h3⟩,hm3⟩;refine wp_seq (wp_seq (wp_mono (h3.h _ _ hm3) ?_));rintro e a4 w4 ⟨s4,⟨rfl,hle⟩,hm4⟩;obtain⟨G4,hg4,hs4,hx4⟩:=hm4.le hle;refine wp_block (amw (enc:=enc) rfl hg4 hs4.tooZ hev hp hfG hbG hnG hnn hit hass hbody ?_);intro G5 w5 D hg5 hx5 hD hDs hDF hDO;have hds:a4.defers=[]:=hs4.df;have hDlt:D<w5.heap.size:=(Array.getElem?_eq_some_iff.1 hD).1
 let X4:Cx t3:=⟨G5,w5,hg5,[{ target:=.collected D,args:=#[] }]⟩
 let X':Cx t0:=⟨G,w,hg,[{ target:=.collected D,args:=#[] }]⟩
 have BA:Mod X4 ⟨sL.nt,sL.sl,t3⟩ { a4 with defers:={ target:=.collected D,args:=#[] }::a4.defers } w5:=
  ⟨G5,hg5,⟨⟨hs4.nt,λj=>(hs4.sl j).dX hx5 hg4.axy⟩,by show _::a4.defers=_;rw[hds]⟩,Stp.refl _ _ _⟩
 refine wp_mono ((hrest X4 X').h _ w5 BA) ?_;rintro e a6 w6 ⟨s6,hq,G6,Qu,hs6,hx6⟩;have hD6:w6.heap[D]?=some (.deferred (some [])):=(hx6.axz D hDlt hDO).trans hD;have hF6:¬G6.F D:=λh=>by
  obtain h|h:=hx6.F2 D h
  ·exact hDF h
  ·exact ai hDlt (Nat.not_lt.2 h)
 have hO6:∀ i,¬dB G6 s6.s.get i D:=λi h=>by
  obtain h|h:=hx6.own i D h
  ·exact hDO i h
  ·exact ai hDlt (Nat.not_lt.2 h)
 have hm6:Mod X' s6 a6 (w6.putObj D (.deferred none)):=by
  refine⟨G6,Qu.putObj hF6 hO6,⟨⟨hs6.nt,λj=>?_⟩,hs6.df⟩,Stp.putObj _ ((hx4.trans hx5).trans hx6) ?_⟩
  ·exact aY.side (by simp[World.putObj]) (λb hb _=>World.putObj_heap_other (λ(e:b=D)=>hF6 (e▸hb))) (hs6.sl j)
  ·exact kE hx4.size hDs
 have fin:uY fn X' K .ret s6->LeavesInM Fence.wide 1 prog fn a6.tmps (λe w'=>∃ v V t' G',e = .returned v/\K V t'/\bZ G' t' w'/\Stp G t0.get w G' t'.get w'/\aY G' t'.get w' V v) a6.defers .returning w6:=λhq=>by
  obtain⟨v,h1,V,t',G',h2,h3,h4,h5⟩:=Fz hq hm6;rw[show a6.defers=[{ target:=.collected D,args:=#[] }] from hs6.df];exact⟨by simp,.inl ⟨D,_,rfl,run_takeDeferred hD6,v,h1,v,V,t',G',rfl,h2,h3,h4,h5⟩⟩
 cases e with
 |ret=>exact fin hq
 |normal=>exact fin hq
 |exit i=>exact hq.elim
 |goto l=>exact hq.elim
 |panic c=>exact hq.elim
 |outgrown=>exact hq.elim
def akb(t:Nat->Int)(l:List Int)(k:Nat):t k<=oH t l k/\oH t l k<=t k+l.length:=by
 unfold oH;have:=List.countP_le_length (p:=λn:Int=>decide (n=(k:Int)/\1<=n/\n<=64)) (l:=l);omega
def alE{l:List eH}{ch:List Int}(h:uS l)(hc:ch.length<=1000)(h9:l.length<=90):uS (l++[⟨0,0,ch,false,[]⟩]):=by
 refine⟨by simp;omega,λi hi=>?_⟩;rw[bn];obtain h1|h1:=l7 i l.length
 ·rw[lS h1,<-bn];exact h.ch i h1
 ·rw[oP h1];rcases hd:i-l.length with _|d
  ·exact hc
  ·simp at hi;omega
def aoH(l:List eH)(ch:List Int):AL l ch=CY (l++[⟨0,0,ch,false,[]⟩]):=by
 unfold AL CY jW;rw[List.foldl_append];rfl
def alI(p:Int->Bool)(i:Nat)(h:p ((i:Int)+1)=true):(qL p (i+1)).length=(qL p i).length+1:=by rw[Nk,if_pos h,bP];rfl
def adl(p:Int->Bool)(i:Nat)(h:p ((i:Int)+1)=false):qL p (i+1)=qL p i:=by rw[Nk,if_neg (by rw[h];decide)]
def at6(p:Int->Bool)(i:Nat)(h:p ((i:Int)+1)=true):qL p (i+1)=qL p i++[(i:Int)+1]:=by rw[Nk,if_pos h]
def XU(l:List eH)(k:Nat)(h1:1<=k)(h2:k<=64)(hl:uS l):aQ 168 [.d (jO l),iV k] (iV (jW l k)):=by
 have hl1:=hl.len;refine ay func168 λX=>?_
 (repeat'(first|refine aC ?_|refine dU (c:=.seq (.seq (.region 6 _ _) _) _) (l.getD i .z).chunks.length (λj (a:Unit)=>⟨37,[(0,.d (jO l)),(1,iV k),(5,iV (oH (jW (l.take i)) ((l.getD i .z).chunks.take j) k)),(6,iV i),(7,iV j)],e0⟩) (λ_ _=>True) () ?_ True.intro (λj b hj hq=>?_)|refine dU (c:=.seq (.seq (.region 3 _ _) _) _) l.length (λi (a:Unit)=>⟨37,[(0,.d (jO l)),(1,iV k),(5,iV (jW (l.take i) k)),(6,iV i)],e0⟩) (λ_ _=>True) () ?_ True.intro (λi a hi hp=>?_)|refine aZ () ⟨?_,tv,?_⟩|refine aj.mk (λh=>?_) (λh=>?_)|refine ag.a ?_|refine Fin.tell (vq (ah iV ?_) tv)|refine ag.mk ?_ ?_))<;>try exact cls
 all_goals(try(refine leq ?_ ?_ <;> repeat'(first|exact tv|exact qV|refine vq (ah iV ?_) tv|refine an ?_ ?_)))
 all_goals first|(have h9:i<l.length:=(by have h9:=bT (aG:decide ((i:Int)<(l.length:Int))=true);omega);have h8:j<(l.getD i .z).chunks.length:=(by have h9:=bT (aG:decide ((j:Int)<((l.getD i .z).chunks.length:Int))=true);omega);have q1:=XJ hl i hi k;have q2:=akb (jW (l.take i)) ((l.getD i .z).chunks.take j) k;have q3:=hl.ch i h9;have q4:((l.getD i .z).chunks.take j).length<=j:=(by rw[dG];omega);first|omega|(simp only[dM,jg];omega)|(rw[kR 0 h8,QO,if_pos (by have e:=bT h;exact⟨e,by rw[show(l.getD i .z).chunks.getD j 0=(k:Int) from e];omega,by rw[show(l.getD i .z).chunks.getD j 0=(k:Int) from e];omega⟩)];done)|(rw[kR 0 h8,QO,if_neg (λe=>bV h e.1),Int.add_zero];done))|(have h9:i<l.length:=(by have h9:=bT (aG:decide ((i:Int)<(l.length:Int))=true);omega);first|omega|(rw[show(l.getD i .z).chunks.take j=(l.getD i .z).chunks from jU (by have h9:=bV (aG:decide ((j:Int)<((l.getD i .z).chunks.length:Int))=false);omega),Wy h9];done)|(rw[List.take_zero,ajg];done))|(rw[jU (by have h9:=bV (aG:decide ((i:Int)<(l.length:Int))=false);omega)];done)
def YK(l:List eH)(hl:uS l):aQ 116 [.d (jO l)] (iV (CY l)):=by
 refine ay func116 λX=>?_
 (repeat'(first|refine aC ?_|refine dU 64 (λi (a:Unit)=>⟨16,[(0,.d (jO l)),(3,iV (qL (λn:Int=>decide (0<jW l n.toNat)) i).length),(4,iV ((i:Int)+1))],e0⟩) (λ_ _=>True) () ?_ True.intro (λi a hi hp=>?_)|refine aZ () ⟨?_,tv,?_⟩|refine af.tell (XU l (i+1) qo (by have h9:=bT (aG:decide ((i:Int)+1<=64)=true);omega) hl) ⟨VW.refl tv,vq (ah iV qo) tv,tv⟩ ?_|refine aj.mk (λh=>?_) (λh=>?_)|refine Fin.tell (vq (ah iV ?_) tv)|refine ag.mk ?_ ?_))<;>try exact cls
 all_goals(try(refine leq ?_ ?_ <;> repeat'(first|exact tv|exact qV|refine vq (ah iV ?_) tv|refine an ?_ ?_)))
 all_goals first|(have h9:i<64:=(by have h9:=bT (aG:decide ((i:Int)+1<=64)=true);omega);have q:=Tc (λn:Int=>decide (0<jW l n.toNat)) i;first|omega|(simp only[dM,jg];omega)|(rw[alI _ _ (show decide (0<jW l ((i:Int)+1).toNat)=true by rw[show((i:Int)+1).toNat=i+1 by omega];exact h)];omega)|(rw[adl _ _ (show decide (0<jW l ((i:Int)+1).toNat)=false by rw[show((i:Int)+1).toNat=i+1 by omega];exact h)];done))|(have h9:=bV h;have e:i=64:=qo;subst e;rfl)
def ajW{l:List eH}{x:eH}{j k:Nat}{g0 H:Nat->Nat->V}(hj:j<0+l.length+1)(hH:H 0 k = .d (iP x k)) :
  axE (0+l.length) (axE 0 g0 (λj k=>.d (iP (l.getD j .z) k))) H j k = .d (iP (bif Nat.blt j (0+l.length) then l.getD j .z else x) k):=by
 unfold axE;cases hb:Nat.blt j (0+l.length)
 ·rw[xm,ne_eq,Nat.blt_eq]at hb;rw[bz,bz,show j-(0+l.length)=0 by omega];exact hH
 ·rfl
def apY{l:List eH}{ch:List Int}(hl:uS l)(hc:ch.length<=1000)(h99:l.length<=90):aQ 116 [.d (.sl (0+l.length+1) 5 (λj=>iP (bif Nat.blt j (0+l.length) then l.getD j .z else ⟨0,0,ch,false,[]⟩)))] (iV (CY (l++[⟨0,0,ch,false,[]⟩]))):=by
 refine af.tell (YK _ (alE hl hc h99)) ⟨VW.sl (by rw[bP,List.length_singleton];omega) (λj hj k hk=>?_),tv⟩ ⟨rfl,rfl⟩;cases hb:Nat.blt j (0+l.length)
 ·rw[xm,ne_eq,Nat.blt_eq]at hb;obtain rfl:j=l.length:=qO;simp
 ·rw[Nat.blt_eq]at hb;rw[bn (l:=l++_),lS qO,<-bn];rfl
def afg(l:List eH)(ch:List Int)(hl:uS l)(hc:ch.length<=1000)(h99:l.length<=90):aQ 167 [.d (jO l),.d (iR ch)] (iV (AL l ch)):=by
 have hl1:=hl.len;have hw:AL l ch=CY (l++[⟨0,0,ch,false,[]⟩]):=aoH l ch;refine ay func167 λX=>?_
 (repeat'(first|refine aC ?_|refine vM (apY hl hc h99) tv ⟨BW.row rfl (λj hj k hk=>?_),tv⟩ ?_|refine ag.a ?_|refine Fin.tell (vq (ah iV ?_) tv)|refine ag.mk ?_ ?_))<;>try exact cls
 all_goals(have hk:k<5:=hk;refine ajW hj ?_;obtain _|_|_|_|_|k:=k;all_goals first|rfl|omega)
def av5{l:List eH}{i:Nat}{id:Int}(h:i<l.length)(e:(l.getD i .z).id=id):lh (l.take (i+1)) id=lh (l.take i) id:=by
 unfold lh;rw[kR .z h,List.filter_append];simp only[List.filter_cons,List.filter_nil,e,decide_true];simp
def av4{l:List eH}{i:Nat}{id:Int}(h:i<l.length)(e:¬(l.getD i .z).id=id):lh (l.take (i+1)) id=lh (l.take i) id++[l.getD i .z]:=by
 unfold lh;rw[kR .z h,List.filter_append];simp only[List.filter_cons,List.filter_nil,aT e];simp
def aoF(l:List eH)(i:Nat)(id:Int):(lh (l.take i) id).length<=i:=by
 unfold lh;have h1:=List.length_filter_le (λx:eH=>!decide (x.id=id)) (l.take i);rw[dG]at h1;omega
def aca(l:List eH)(id:Int)(hl:uS l):aQ 171 [.d (jO l),iV id] (.d (jO (lh l id))):=by
 have hl1:=hl.len;refine ay func171 λX=>?_
 (repeat'(first|refine aC ?_|refine dU l.length (λi (a:Unit)=>⟨29,[(0,.d (jO l)),(1,iV id),(5,.row 0 (lh (l.take i) id).length),(6,iV i)],⟨[(0,bQ 71 5 iP .z (lh (l.take i) id))],1⟩⟩) (λ_ _=>True) () ?_ True.intro (λi a hi hp=>?_)|refine aZ () ⟨?_,tv,?_⟩|refine aj.mk (λh=>?_) (λh=>?_)|refine ag.a ?_|(rw[show l.take i=l from jU om];refine zg (C:=iP) (z:=.z) (L:=lh l id) rfl rfl rfl fr)|refine ag.mk ?_ ?_))<;>try exact cls
 all_goals(try(refine leq ?_ ?_ <;> repeat'(first|exact tv|exact qV|exact qW|refine vq (ah (V.row _) ?_) qN|refine gU qN ?_ (λj hj k hk=>?_) ?_|refine an ?_ ?_)))
 all_goals first|exact rfl|exact ai hj nz|(have h9:i<l.length:=om;have q:=aoF l i id;first|omega|(rw[av4 h9 (show ¬(l.getD i .z).id=id from Ut h)];first|(rw[bP];rfl)|(have hk:k<5:=hk;refine cm (kU rfl hj fr (λj hj=>?_));obtain rfl:j=0:=Nat.lt_one_iff.1 hj;obtain _|_|_|_|_|k:=k;exact qV;exact qV;exact qV;exact qV;exact qV;omega))|(rw[av5 h9 (show(l.getD i .z).id=id from OT h)];first|done|exact cm qV))
def aml(l:List eH)(id:Int)(hl:uS l):aQ 170 [.d (jO l),iV id] (.d (iR (Cj l id))):=by
 have hl1:=hl.len;refine ay func170 λX=>?_
 (repeat'(first|refine aC ?_|refine dU 64 (λi (a:Unit)=>⟨29,[(0,.d (jO l)),(1,iV id),(5,.row 0 (qL (λn:Int=>bif decide (0<jW l n.toNat) then decide (jW (lh l id) n.toNat=0) else false) i).length),(6,iV ((i:Int)+1))],⟨[(0,bQ 3 1 (λn _=>iD n) 0 (qL (λn:Int=>bif decide (0<jW l n.toNat) then decide (jW (lh l id) n.toNat=0) else false) i))],1⟩⟩) (λ_ _=>True) () ?_ True.intro (λi a hi hp=>?_)|refine aZ () ⟨?_,tv,?_⟩|refine af.tell (XU l (i+1) qo om hl) ⟨VW.refl tv,vq (ah iV qo) tv,tv⟩ ?_|refine aZ _ (fM (λht=>af.tell (XU (lh l id) (i+1) qo om (age hl id)) ⟨VW.refl tv,vq (ah iV qo) tv,tv⟩ ⟨rfl,rfl⟩) ?_)|refine aZ _ (fM (λht=>af.tell (aca l id hl) vw ⟨rfl,rfl⟩) ?_)|refine aj.mk (λh=>?_) (λh=>?_)|refine ag.a ?_|(have e:i=64:=(by have h9:=bV h;omega);subst e;refine zg (C:=λn _=>iD n) (z:=0) (L:=Cj l id) rfl rfl rfl fr)|refine ag.mk ?_ ?_))<;>try exact cls
 all_goals(try(refine leq ?_ ?_ <;> repeat'(first|exact tv|exact qV|exact qW|refine vq (ah (V.row _) ?_) qN|refine gU qN ?_ (λj hj k hk=>?_) ?_|refine an ?_ ?_)))
 all_goals first|exact rfl|exact ai hj nz|(have h9:i<64:=om;have q:=Tc (λn:Int=>bif decide (0<jW l n.toNat) then decide (jW (lh l id) n.toNat=0) else false) i;first|omega|(rw[at6 _ _ (show(bif decide (0<jW l ((i:Int)+1).toNat) then decide (jW (lh l id) ((i:Int)+1).toNat=0) else false)=true by rw[show((i:Int)+1).toNat=i+1 by omega];exact h)];first|(rw[bP];rfl)|(have hk:k<1:=hk;refine cm (kU (C:=λn _=>iD n) (z:=0) (b:=[(i:Int)+1]) rfl hj fr (λj hj=>?_));obtain rfl:j=0:=Nat.lt_one_iff.1 hj;obtain _|k:=k;exact qV;omega))|(rw[adl _ _ (show(bif decide (0<jW l ((i:Int)+1).toNat) then decide (jW (lh l id) ((i:Int)+1).toNat=0) else false)=false by rw[show((i:Int)+1).toNat=i+1 by omega];exact h)];first|done|exact cm qV))
def RK(p:aN×Rep)(v:V)(t:ST):Prop:=v=bI [.agg 7 (rZ p.1 (.row 2 p.1.aJ.length) (.d (og p.1.opens)) (.d (jO p.1.az))),lJ p.2]/\t=⟨[(2,bQ 54 4 iE .z p.1.aJ)],3⟩
def qX{fn:Func}{Q:Exit->AS->Prop}{s:AS}{g h:Nat->V}{rc:Nat->Nat->V}{n:Nat}{q:aN×Rep}{X:Cx e0}(S:aN)(R:Rep)(A B i j r:Nat)(e:q=(S,R))(H:Q .ret=uY fn X (RK q) .ret/\fn.results=#[.cell A 41,.cell B 52]/\Nat.beq A B=false/\dD s.sl A = .ptr i 0/\dD s.sl B = .ptr j 0/\s.s.get i = .Wp 7 g/\s.s.get j = .Wp 2 h/\s.s.get r = .row 54 4 n rc/\iJ [i,j,r]=true/\g 0=iV S.version/\g 1=iV S.next/\g 2=iV S.axz/\g 3=iV S.mg/\g 4 = .row r n/\g 5 = .d (og S.opens)/\g 6 = .d (jO S.az)/\h 0=iV R.code/\h 1=iV R.n/\n=S.aJ.length/\∀ j,j<n->∀ k,k<4->rc j k = .d (iE (S.aJ.getD j .z) k):=by first|exact⟨rfl,rfl,rfl,rfl,rfl,rfl,rfl,rfl,rfl,rfl,rfl,rfl,rfl,rfl,rfl,rfl,rfl,rfl,rfl,fr⟩|fail):T X .ret Q s:=by
 obtain⟨hQ,hres,hAB,hA,hB,hi,hj,hr,hd,c0,c1,c2,c3,c4,c5,c6,d0,d1,hn,hrow⟩:=H;subst e;subst hn;have fi:bY [i,j,r] i=some 0:=nC hd rfl;have fj:bY [i,j,r] j=some 1:=nC hd rfl;have fr:bY [i,j,r] r=some 2:=nC hd rfl;refine T.EX [i,j,r] ⟨s.nt,[(A,.ptr 0 0),(B,.ptr 1 0)],⟨[(0,.Wp 7 (rZ S (.row 2 S.aJ.length) (.d (og S.opens)) (.d (jO S.az)))),(1,.Wp 2 (λk=>.d (ji R k))),(2,bQ 54 4 iE .z S.aJ)],3⟩⟩ ⟨rfl,rfl,hd,rfl,⟨⟨i,rfl,?_⟩,⟨j,rfl,?_⟩,⟨r,rfl,?_⟩,trivial⟩,⟨?_,?_,trivial⟩⟩ (T.ret ?_)
 ·rw[hi];refine fB rfl λk hk=>?_
  have hk:k<7:=hk;show VW 3 (dI _ (g k)) _;obtain _|_|_|_|_|_|_|k:=k
  ·rw[c0];exact fA rfl trivial
  ·rw[c1];exact fA rfl trivial
  ·rw[c2];exact fA rfl trivial
  ·rw[c3];exact fA rfl trivial
  ·rw[c4];refine fA ?_ (uf rfl);simp only[dI,fr];rfl
  ·rw[c5];exact fA rfl trivial
  ·rw[c6];exact fA rfl trivial
  ·omega
 ·rw[hj];refine fB rfl λk hk=>?_
  have hk:k<2:=hk;show VW 3 (dI _ (h k)) _;obtain _|_|k:=k
  ·rw[d0];exact fA rfl trivial
  ·rw[d1];exact fA rfl trivial
  ·omega
 ·rw[hr];refine aW.row rfl λa ha k hk=>?_
  show VW 3 (dI _ (rc a k)) _;rw[hrow a ha k hk];exact fA rfl trivial
 ·refine fA ?_ (uf rfl);rw[hA];simp only[dI,fi]
 ·refine fA ?_ (uf rfl);rw[hB];simp only[dI,fj]
 ·rw[hQ];unfold uY;rw[hres];have hl0:dD [(A,V.ptr 0 0),(B,V.ptr 1 0)] A = .ptr 0 0:=by show(bif Nat.beq A A then _ else _)=_;rw[Nat.beq_refl];rfl
  have hl1:dD [(A,V.ptr 0 0),(B,V.ptr 1 0)] B = .ptr 1 0:=by show(bif Nat.beq A B then _ else(bif Nat.beq B B then _ else _))=_;rw[hAB,Nat.beq_refl];rfl
  show yK _ [.cell A 41,.cell B 52] [] _;unfold yK;simp only[hl0];refine ag.mk (uf rfl) ?_;unfold yK;simp only[hl1];refine ag.mk (uf rfl) ?_;refine bM (uf rfl) (uf rfl) (fH [.agg 7 (rZ S (.row 2 S.aJ.length) (.d (og S.opens)) (.d (jO S.az))),lJ R] rfl (λk hk=>rfl) ⟨gu ?_,gu ?_,trivial⟩) ⟨⟨uf rfl,aW.row rfl (λj hj k hk=>fA rfl trivial)⟩,trivial⟩
  ·exact⟨⟨⟨⟨⟨⟨⟨trivial,fA rfl trivial⟩,fA rfl trivial⟩,fA rfl trivial⟩,fA rfl trivial⟩,fA rfl (uf rfl)⟩,fA rfl trivial⟩,fA rfl trivial⟩
  ·exact⟨⟨trivial,fA rfl trivial⟩,fA rfl trivial⟩
