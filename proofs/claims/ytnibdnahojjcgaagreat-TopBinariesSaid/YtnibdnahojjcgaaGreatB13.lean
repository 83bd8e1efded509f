/- A part of the proof. -/
import Derived.Test.YtnibdnahojjcgaaGreatB10
import Derived.Test.YtnibdnahojjcgaaGreatB11
import Derived.Test.YtnibdnahojjcgaaGreatB12
namespace Go.Proofs.YtnibdnahojjcgaaGreat
set_option maxRecDepth 100000
set_option maxHeartbeats 16000000
set_option linter.unusedVariables false
set_option linter.unusedSimpArgs false
open Go.RowKit
section
section
variable {G:Gh} {w w':World} {t:ST} {s:AS} {o:Oper} {a:Act} {K:V->ST->Prop} {M:Prop->Prop->Prop} {gd:Prop}
theorem Ug{k:Nat}(h:wB k)(args:Array Value):(callFunc k args).run Tryz.prog w = .ok (.enter k args) w:=by
 unfold wB at h;unfold callFunc;rcases hf:Tryz.prog.funcs[k]? with _|fn
 ·rw[hf]at h;cases h
 ·rw[hf]at h;simp only[pF,Option.some.injEq,qc,mr]at h;obtain⟨h1,h2⟩:=h;have h2':¬fn.name = "runtime.NumGoroutine":=by simpa using h2
  simp[hf,h2',Option.isNone_iff_eq_none,Option.isSome_iff_ne_none.1 h1,Result.andThen]
theorem af4{t f off ft:Nat}(hk:(tI t).k=1)(hf:(tI t).DY[f]?=some (off,ft))(hok:(tI ft).ok=true)(hpos:0<(tI ft).size)(ad:Addr) :
  (Instr.fieldAt t (.pointer (some ad)) f).run Tryz.prog w = .ok (.pointer (some (ad.add off))) w:=by
 obtain⟨fs,x,h1,h2,h3,h4⟩:=Xx hk hf;have hz:(sizeOf x.type).run Tryz.prog w = .ok (tI ft).size w:=by rw[h4];exact qf hok
 have hp:(tI ft).size≠0:=qO;unfold Instr.fieldAt;simp[run_underlying h1,h2,Instr.sureAddr,fieldPlace,hz,hp,Result.andThen,h3]
theorem Zw (n:Nat) (g:Nat->V) (k:Nat) (v:V) (h:(xY n g)[k]?=some v):k<n/\v=g k:=by
 unfold xY at h;rw[qY]at h;by_cases hk:k<n
 ·rw[List.getElem?_range hk]at h;exact⟨hk,(fG h).symm⟩
 ·rw[List.getElem?_eq_none (by simpa using hk)]at h;cases h
theorem abq{c:Call}{f:Operand}(hg:bV G s.s w)(hs:oG G s a w)(ho:o.op = .call c)(hc:c.callee = .value f){k nf n:Nat}{g:Nat->V}(hf:s.ev f = .fn k nf n g)(h:ae k ((xY nf g)++(c.args.toList.map s.ev)++((xY n g).drop nf)) s.s K):eu o a G s.s w K:=by
 have hv:=hs.ev f;rw[hf]at hv;obtain⟨fs,cs,hu,h1,h2,h3⟩:=hv;have hrun:(execOp a.eval o).run Tryz.prog w = .ok (.enter k (fs++c.args.map a.eval++cs)) w:=by
  unfold execOp;simp only[ho,resolve,hc,hu,Deferred.ofValue,Sem.run_bind,Sem.run_pure,Result.andThen_ok,invoke,Ug h.1]
 unfold eu Oper.wp Oper.upon;rw[hrun];have hcl:=h.2 G w (fs++c.args.map a.eval++cs).toList hg (by
  simp only[Array.toList_append,Array.toList_map,bW,lJ,fE,qX,xY,List.length_range];omega) (λi v u hv hu=>?_)
 ·rw[show(fs++c.args.map a.eval++cs).toList.toArray=fs++c.args.map a.eval++cs from by simp]at hcl;refine hcl.mono λe w' hh=>?_
  obtain⟨v,V,t',G',rfl,hk,hrest⟩:=hh;exact⟨v,V,t',G',rfl,hk,hrest⟩
 ·simp only[Array.toList_append,Array.toList_map]at hu;have hla:(xY nf g).length=nf:=by simp[xY]
  by_cases hi:i<nf
  ·rw[kE,mO qO]at hv;rw[kE,mO (by simp;omega)]at hu;obtain⟨_,rfl⟩:=Zw _ _ _ _ hv;exact h3 i u (by rw[Array.getElem?_append_left qO];simpa using hu)
  ·rw[kE,oW qO,hla]at hv;rw[kE,oW (by simp;omega),qX,h1]at hu;by_cases hj:i-nf<c.args.toList.length
   ·rw[mO (by simpa using hj),qY]at hv hu;rw[dW hj]at hv hu;simp only[pF,Option.some.injEq]at hv hu;subst hv hu;exact hs.ev _
   ·rw[oW (by rw[lJ];omega),lJ]at hv hu;rw[sD]at hv;obtain⟨hlt,rfl⟩:=Zw _ _ _ _ hv;refine h3 _ u ?_;rw[Array.getElem?_append_right qO,h1,<-hu];simp
theorem Wu(hs:oG G s a w)(x:Option Operand):Jq G s.s w (yg s x) (x.map a.eval):=by
 cases x with
 |none=>trivial
 |some x=>exact hs.ev x
attribute [local irreducible] tI in
theorem Qv(hM:∀ p q,M p q->q/\(gd->p))(hgd:gd)(hg:bV G s.s w)(hs:oG G s a w)(h:dD M ae o.op s K):eu o a G s.s w K:=by
 have one:∀ {q:Sem Value} {P:V->Prop},(execOp a.eval o)=(do pure (.value (<-q)))->(∃ r R,q.run Tryz.prog w = .ok r w/\P R/\aO G s.s.get w R r)->(∀ R,P R->K R s.s)->eu o a G s.s w K:=λ{q P} hq hh hK=>by
  obtain⟨r,R,h1,h2,h3⟩:=hh;refine eu.val hg ?_ h3 (hK R h2);rw[hq];simp only[Sem.run_bind,h1,Result.andThen_ok,Sem.run_pure]
 obtain⟨dst,op,ty,pos,after,guard⟩:=o;cases op
 case move x=>exact eu.val hg (V:=s.ev x) rfl (hs.ev x) h
 case assign x=>exact eu.val hg (V:=s.ev x) rfl (hs.ev x) h
 case pick c x y=>
  have h:dD M ae (.pick c x y) s K:=h;simp only[dD]at h;have hc:=hs.ev c;have hx:=hs.ev x;have hy:=hs.ev y;split at h;rotate_left
  ·exact h.elim
  rename_i t ht
  rw[ht]at hc;have hc:a.eval c = .bool t:=hc;have hrun:(execOp a.eval ⟨dst,.pick c x y,ty,pos,after,guard⟩).run Tryz.prog w = .ok (.value (if t=true then a.eval x else a.eval y)) w:=by
   simp[execOp,hc,asBool]
  split at h
  ·rename_i p q e1 e2
   rw[e1]at hx;rw[e2]at hy;refine eu.val (V:=.b (cond t p q)) hg hrun ?_ h;have hx:a.eval x = .bool p:=hx;have hy:a.eval y = .bool q:=hy;rw[hx,hy];cases t <;> rfl
  ·rename_i p t' w' q e1 e2
   rw[e1]at hx;rw[e2]at hy;obtain⟨h1,h2⟩:=hM _ _ h;refine eu.val (V:=.b (cond t p q)) hg hrun ?_ h1;have hx:a.eval x = .bool p:=hx;cases t
   ·have hy:a.eval y = .bool q:=hy.1 (h2 hgd rfl);rw[hy];rfl
   ·rw[hx];rfl
  ·rename_i t' w' p q e1 e2
   rw[e1]at hx;rw[e2]at hy;obtain⟨h1,h2⟩:=hM _ _ h;refine eu.val (V:=.b (cond t p q)) hg hrun ?_ h1;have hy:a.eval y = .bool q:=hy;cases t
   ·rw[hy];rfl
   ·have hx:a.eval x = .bool p:=hx.1 (h2 hgd rfl);rw[hx];rfl
  ·cases t
   ·exact eu.val (V:=s.ev y) hg hrun hy (h.h.2 rfl)
   ·exact eu.val (V:=s.ev x) hg hrun hx (h.h.1 rfl)
 case alloc t=>
  have h:dD M ae (.alloc t) s K:=h;simp only[dD]at h;split at h
  ·exact ahK hg rfl ‹_› h
  ·exact h.elim
 case box t x=>exact al5 hg rfl (hs.ev x) h
 case build t ps=>
  have h:dD M ae (.build t ps) s K:=h;simp only[dD]at h;split at h
  ·exact ahJ hg hs rfl ‹_› ‹_› h
  ·exact h.elim
 case buildSlice t n ps=>
  have h:dD M ae (.buildSlice t n ps) s K:=h;simp only[dD]at h;split at h
  ·exact afU hg hs rfl ‹_› ‹_› h
  ·exact h.elim
 case load t x=>exact one rfl (aaA (K:=λv=>K v s.s) hM hgd hg.aK (hs.ev x) h) λ_ h=>h
 case store t x v=>exact ahH hg rfl (hs.ev x) (hs.ev v) h
 case nilCheck x=>
  have h:dD M ae (.nilCheck x) s K:=h;simp only[dD]at h;have hx:=hs.ev x;have hrun:∀ ad,a.eval x = .pointer (some ad)->(execOp a.eval ⟨dst,.nilCheck x,ty,pos,after,guard⟩).run Tryz.prog w = .ok (.value (.pointer (some ad))) w:=λad e=>by simp[execOp,e]
  split at h
  ·rename_i e
   rw[e]at hx;obtain⟨b,h1,h2⟩:=id hx;exact eu.val hg (hrun _ h2) (by rw[h2]at hx;exact hx) h
  ·rename_i e
   rw[e]at hx;obtain⟨b,off,h2,_⟩:=id hx;exact eu.val hg (hrun _ h2) (by rw[h2]at hx;exact hx) h
  ·rename_i e
   rw[e]at hx;obtain⟨A,cc,h1,⟨ad,h2⟩,_⟩:=id hx;exact eu.val hg (hrun _ h2) (by rw[h2]at hx;exact hx) h
  ·exact h.elim
 case binOp op t x y t2=>
  refine one (P:=λv=>K v s.s) rfl ?_ λ_ h=>h
  refine aiX (gd:=gd) hM hgd (hs.ev x) ?_ h;cases y with
  |const v=>rfl
  |tmp t=>exact hs.ev (.tmp t)
  |global g=>exact hs.ev (.global g)
  |func f=>exact hs.ev (.func f)
 case unOp op t x=>
  have h:dD M ae (.unOp op t x) s K:=h;cases op
  case not=>
   simp only[dD]at h;have hx:=hs.ev x;split at h
   ·rename_i p e
    rw[e]at hx;have hx:a.eval x = .bool p:=hx;refine eu.val (V:=.b (!p)) hg ?_ rfl h;simp[execOp,hx,Op.unary]
   ·exact h.elim
  all_goals (simp only[dD]at h)
 case convert x y z=>exact agj hM hgd hg rfl (hs.ev z) h
 case makeFunc fn first jX=>
  have h:dD M ae (.makeFunc fn first jX) s K:=h;cases fn
  case func f=>
   simp only[dD]at h;refine eu.val (V:=.fn _ first.size (first.size+jX.size) _) hg rfl ⟨first.map a.eval,jX.map a.eval,rfl,by simp,by simp,λk x hx=>?_⟩ h;unfold ae4;rw[<-Array.map_append,Array.getElem?_map]at hx;rcases he:(first++jX)[k]? with _|y
   ·rw[he]at hx;cases hx
   ·rw[he]at hx;simp only[pF,Option.some.injEq]at hx;subst hx;have:((first.toList++jX.toList).map s.ev).getD k .top=s.ev y:=by
     rw[bC,qY,<-Array.toList_append,qE,he];rfl
    rw[this];exact hs.ev y
  all_goals (simp only[dD]at h)
 case makeMap t r=>
  have h:dD M ae (.makeMap t r) s K:=h;cases r <;> simp only[dD]at h;exact agi hg rfl h
 case insert t m x v=>exact Z5 hg (.inl rfl) (hs.ev m) (hs.ev x) (hs.ev v) h
 case mapUpdate t m x v=>exact Z5 hg (.inr rfl) (hs.ev m) (hs.ev x) (hs.ev v) h
 case lookup t m x ok=>exact one rfl (agb (P:=λv=>K v s.s) hM hgd hg.aK (hs.ev m) (hs.ev x) h) λ_ h=>h
 case makeSlice t x y=>
  have h:dD M ae (.makeSlice t x y) s K:=h;simp only[dD]at h;split at h
  ·rename_i h1 h2 hby h3 h4
   have hx:=hs.ev x;have hy:=hs.ev y;rw[h3]at hx;rw[h4]at hy;exact afY hg rfl h1 h2 (lS hby) hx hy h
  ·exact h.elim
 case slice t x lo hi mx=>exact one rfl (agF (K:=λv=>K v s.s) hM hgd hg.aK (hs.ev x) (Wu hs lo) (Wu hs hi) (Wu hs mx) h) λ_ h=>h
 case fieldAddr t x f=>
  have h:dD M ae (.fieldAddr t x f) s K:=h;simp only[dD,BH]at h;have hx:=hs.ev x;have hrun:∀ b o off ft,(tI t).k=1->(tI t).DY[f]?=some (off,ft)->((tI ft).ok&&Nat.blt 0 (tI ft).size)=true->a.eval x = .pointer (some ⟨b,o,none⟩)->(execOp a.eval ⟨dst,.fieldAddr t x f,ty,pos,after,guard⟩).run Tryz.prog w = .ok (.value (.pointer (some ⟨b,o+off,none⟩))) w:=λb o off ft h1 h2 h3 e=>by
   have:=agd (w:=w) h1 h2 (kJ h3).1 (lS (kJ h3).2) b o;simp only[execOp,e,Sem.run_bind,this,Result.andThen_ok,Sem.run_pure]
  split at h
  ·rename_i off ft h1 h2
   split at h
   ·rename_i h3
    split at h
    ·rename_i i o e
     rw[e]at hx;obtain⟨b,q1,q2⟩:=hx;exact eu.val (V:=.ptr i (o+off)) hg (hrun _ _ _ _ h1 h2 h3 q2) ⟨b,q1,rfl⟩ h
    ·rename_i n g e
     rw[e]at hx;obtain⟨b,o,q1,q2,q3⟩:=hx;obtain⟨hk,hle⟩:=hM _ _ h;have hle:=hle hgd;refine eu.val (V:=.dp (n-off) (λk=>g (off+k))) hg (hrun _ _ _ _ h1 h2 h3 q1) ⟨b,o+off,rfl,λhp=>q2 qO,λk hk=>?_⟩ hk;rw[Nat.add_assoc];exact q3 (off+k) qO
    ·rename_i i n j c e
     rw[e]at hx;obtain⟨A,cc,q1,⟨ad,q2⟩,q3⟩:=hx;have hr:=af4 (w:=w) h1 h2 (kJ h3).1 (lS (kJ h3).2) ad;refine eu.val (V:=.rp i n j (c+off)) (v:=.pointer (some (ad.add off))) hg ?_ ⟨A,cc,q1,⟨_,rfl⟩,λE s' m g ho=>⟨(q3 E s' m g ho).1,λul=>?_⟩⟩ h
     ·simp only[execOp,q2,Sem.run_bind,hr,Result.andThen_ok,Sem.run_pure]
     ·obtain⟨b,e1,e2⟩:=(q3 E s' m g ho).2 ul;rw[q2]at e2;injection e2 with e2
      injection e2 with e2
      subst e2;exact⟨b,e1,by rw[ug,Nat.add_assoc]⟩
    ·exact h.elim
   ·exact h.elim
  ·exact h.elim
 case field t x f=>
  have h:dD M ae (.field t x f) s K:=h;simp only[dD,BH]at h;have hx:=hs.ev x;split at h
  ·rename_i off ft h1 h2
   split at h
   ·rename_i h3
    split at h
    ·rename_i n g e hok
     rw[e]at hx;obtain⟨cs,q1,q2,q3⟩:=hx;obtain⟨fs,y,p1,p2,p3,p4⟩:=Xx h1 h2;have hz:=qf (w:=w) hok;have ha:=UW (w:=w) hok;split at h
     ·rename_i hag
      obtain⟨hk,hle⟩:=hM _ _ h;have hle:=hle hgd;rw[hag]at ha;refine eu.val (V:=.agg (tI ft).size (λk=>g (off+k))) (v:=.agg (cs.extract off (off+(tI ft).size))) hg ?_ ⟨_,rfl,by simp;omega,λk x' hx'=>?_⟩ hk
      ·simp[execOp,q1,Instr.field,run_underlying p1,p2,p3,p4,asAgg,part,ha,hz,Result.andThen]
      ·rw[Array.getElem?_extract]at hx';split at hx'
       ·exact q3 _ _ hx'
       ·cases hx'
     ·rename_i hag
      obtain⟨hk,hle⟩:=hM _ _ h;have hle:=hle hgd;rw[hag]at ha;have hc:=uU (xs:=cs) (i:=off) qO;refine eu.val (V:=g off) hg ?_ (q3 _ _ hc).2 hk;simp[execOp,q1,Instr.field,run_underlying p1,p2,p3,p4,asAgg,part,ha,hc,Result.andThen]
    ·exact h.elim
   ·exact h.elim
  ·exact h.elim
 case indexAddr t x i=>exact one rfl (agG (K:=λv=>K v s.s) hM hgd hg.aK (hs.ev x) (hs.ev i) h) λ_ h=>h
 case extract x i=>
  have h:dD M ae (.extract x i) s K:=h;simp only[dD]at h;have hx:=hs.ev x;split at h
  ·rename_i n g e
   rw[e]at hx;obtain⟨cs,q1,q2,q3⟩:=hx;obtain⟨hk,hlt⟩:=hM _ _ h;have hc:=uU (xs:=cs) (i:=i) (by have:=hlt hgd;omega);refine eu.val (V:=g i) hg ?_ (q3 _ _ hc) hk;simp[execOp,q1,Instr.extract,hc]
  ·exact h.elim
 case call c=>
  have h:dD M ae (.call c) s K:=h;simp only[dD]at h;split at h
  ·rename_i f hcf
   split at h
   ·rename_i hf
    exact abq hg hs rfl hcf hf h
   ·exact h.elim
  ·rename_i hcf
   split at h
   ·rename_i x t ha ht
    obtain⟨callee,args,ats⟩:=c;obtain⟨args⟩:=args;obtain⟨ats⟩:=ats;simp only at hcf ha ht;subst hcf ha ht;obtain⟨r,R,h1,h2,h3⟩:=aiW (ty:=ty) (K:=λv=>K v s.s) hg.aK (hs.ev x) h;refine eu.val hg ?_ h3 h2;unfold execOp;simp only[resolve,invoke,builtin,Sem.run_bind,Sem.run_pure,Result.andThen_ok];simp only[List.map_toArray,List.map_cons,List.map_nil,h1,Result.andThen_ok]
   ·exact h.elim
  ·rename_i hcf
   split at h
   ·rename_i x y t t' ha ht
    split at h
    ·rename_i htt
     obtain⟨callee,args,ats⟩:=c;obtain⟨args⟩:=args;obtain⟨ats⟩:=ats;simp only at hcf ha ht;subst hcf ha ht;have htt:=dH htt;subst htt
     rename_i h' _ _ _ _
     exact agL hg rfl (hs.ev x) (hs.ev y) (by assumption)
    ·exact h.elim
   ·exact h.elim
  ·rename_i hcf
   split at h
   ·rename_i x y t t' ha ht
    split at h
    ·rename_i htt
     obtain⟨callee,args,ats⟩:=c;obtain⟨args⟩:=args;obtain⟨ats⟩:=ats;simp only at hcf ha ht;subst hcf ha ht;have htt:=dH htt;subst htt;exact ai7 hg rfl (hs.ev x) (hs.ev y) (by assumption)
    ·exact h.elim
   ·exact h.elim
  ·rename_i hcf
   split at h
   ·rename_i x t ha ht
    obtain⟨callee,args,ats⟩:=c;obtain⟨args⟩:=args;obtain⟨ats⟩:=ats;simp only at hcf ha ht;subst hcf ha ht;exact ahI hg rfl (hs.ev x) h
   ·exact h.elim
  ·rename_i hcf
   split at h
   ·rename_i x y ha
    split at h
    ·rename_i k p k' q e1 e2
     split at h
     ·rename_i cZ
      have cZ:=jb cZ;subst cZ;obtain⟨callee,args,ats⟩:=c;obtain⟨args⟩:=args;simp only at hcf ha;subst hcf ha;have hx:=hs.ev x;have hy:=hs.ev y;rw[e1]at hx;rw[e2]at hy;have hx:a.eval x = .int k p:=hx;have hy:a.eval y = .int k q:=hy;refine eu.val (V:=.int k (min p q)) (v:=.int k (min p q)) hg ?_ rfl (by assumption);unfold execOp;simp only[resolve,invoke,builtin,Sem.run_bind,Sem.run_pure,Result.andThen_ok];have e:(if q<p then q else p)=min p q:=by rw[Int.min_def];split <;> split <;> omega
      simp[Builtin.min_,Builtin.min2,hx,hy,e]
     ·exact h.elim
    ·exact h.elim
   ·exact h.elim
  ·rename_i hcf
   split at h
   ·rename_i x y ha
    split at h
    ·rename_i k p k' q e1 e2
     split at h
     ·rename_i cZ
      have cZ:=jb cZ;subst cZ;obtain⟨callee,args,ats⟩:=c;obtain⟨args⟩:=args;simp only at hcf ha;subst hcf ha;have hx:=hs.ev x;have hy:=hs.ev y;rw[e1]at hx;rw[e2]at hy;have hx:a.eval x = .int k p:=hx;have hy:a.eval y = .int k q:=hy;refine eu.val (V:=.int k (max p q)) (v:=.int k (max p q)) hg ?_ rfl (by assumption);unfold execOp;simp only[resolve,invoke,builtin,Sem.run_bind,Sem.run_pure,Result.andThen_ok];have e:(if p<q then q else p)=max p q:=by rw[Int.max_def];split <;> split <;> omega
      simp[Builtin.max_,Builtin.max2,hx,hy,e]
     ·exact h.elim
    ·exact h.elim
   ·exact h.elim
  ·exact h.elim
 all_goals (exfalso;revert h;simp only[dD];exact λh=>h)
end
end
section
theorem yF{P:Program}{o:Oper}{a:Act}{w:World}{n n':Act->World->Prop}{Q Q':Exit->Act->World->Prop}(h:o.wp P a w n Q)(hn:∀ a w,n a w->n' a w)(hq:∀ e a w,Q e a w->Q' e a w):o.wp P a w n' Q':=by
 unfold Oper.wp Oper.upon at *;split at h
 ·exact hn _ _ h
 ·exact hn _ _ h
 ·exact hn _ _ h
 ·refine h.mono λe w' hh=>?_
  rcases e with x|x|x
  ·exact hn _ _ hh
  ·exact hq _ _ _ hh
  ·obtain⟨a,w,h⟩:=hh;exact⟨a,w,hq _ _ _ h⟩
 ·exact h.mono λv w' hh=>hn _ _ hh
 ·exact hq _ _ _ h
 ·exact h
def QN{t0:ST}(X:Cx t0)(K:AS->Prop):Exit->Act->World->Prop:=λe a w=>e = .normal/\∃ s,K s/\Mod X s a w
section
variable {t0:ST} {X:Cx t0} {G:Gh} {w w':World} {t:ST} {s:AS} {a:Act}
theorem UN{t w':Bool}:∀ {l:List Operand} {k:Prop},Lt s t w' l k->k/\(t=w'->∀ x∈l,∀ u,aO G s.s.get w (s.ev x) u->aO G s.s.get w (QQ (s.ev x)) u)
 |[],k,h=>⟨h,λ_ x hx=>by cases hx⟩
 |x::r,k,h=>by
  unfold Lt at h;split at h
  ·rename_i t1 w1 v e
   obtain⟨h1,h2⟩:=h.h;obtain⟨q1,q2⟩:=UN h2;refine⟨q1,λe1 y hy u hu=>?_⟩;rcases List.mem_cons.1 hy with rfl|hy
   ·rw[e]at hu ⊢;exact hu.1 (h1 e1)
   ·exact q2 e1 y hy u hu
  ·rename_i hne
   obtain⟨q1,q2⟩:=UN h;refine⟨q1,λe1 y hy u hu=>?_⟩;rcases List.mem_cons.1 hy with rfl|hy
   ·have e:QQ (s.ev y)=s.ev y:=by
     rcases hv:s.ev y with _|_|_|_|_|_|_|_|_|_|_|_|⟨t2,w2,v⟩
     all_goals first|rfl|exact au hv (hne _ _ _)
    rw[e];exact hu
   ·exact q2 e1 y hy u hu
theorem ah8{M:Prop->Prop->Prop}{op:BinOp}{k:IntKind}{x y:Int}{K:V->Prop}(hM:∀ p q,M p q->q)(h:Nb M op k x y K):∃ v,K v:=by
 unfold Nb at h;split at h;all_goals first|exact h.elim|exact⟨_,h⟩|exact⟨_,hM _ _ h⟩
theorem akK{M:Prop->Prop->Prop}{op:BinOp}{t:Nat}{x y:V}{K:V->Prop}(hM:∀ p q,M p q->q)(h:Oh M op t x y K):∃ v,K v:=by
 unfold Oh at h;split at h;all_goals first|exact h.elim|skip
 all_goals (split at h)
 all_goals first
  |exact h.elim
  |exact ah8 hM h
  |exact⟨_,h⟩
  |exact⟨_,h.h false (λe=>by cases e)⟩
theorem ah7{M:Prop->Prop->Prop}{t:Nat}{x:V}{z:ST}{K:V->Prop}(hM:∀ p q,M p q->q)(h:Jy M t x z K):∃ v,K v:=by
 unfold Jy at h;split at h
 ·exact h.elim
 split at h;all_goals first|exact h.elim|skip
 all_goals (split at h)
 all_goals first|exact h.elim|exact⟨_,hM _ _ h⟩|skip
 all_goals (split at h)
 all_goals first|exact h.elim|exact⟨_,hM _ _ h⟩
theorem agV{M:Prop->Prop->Prop}{t:Nat}{x y:V}{z:ST}{K:V->Prop}(hM:∀ p q,M p q->q)(h:MB M t x y z K):∃ v,K v:=by
 unfold MB at h;split at h;rotate_left
 ·exact h.elim
 split at h;all_goals first|exact h.elim|skip
 all_goals (split at h)
 all_goals first|exact h.elim|exact⟨_,hM _ _ h⟩|skip
 all_goals (split at h)
 all_goals first|exact h.elim|exact⟨_,hM _ _ h⟩
theorem agB{M:Prop->Prop->Prop}{t:Nat}{x:V}{lo hi mx:Option V}{z:ST}{K:V->Prop}(hM:∀ p q,M p q->q)(h:L9 M t x lo hi mx z K):∃ v,K v:=by
 unfold L9 at h;split at h;all_goals first|exact h.elim|skip
 all_goals (split at h)
 all_goals first|exact h.elim|skip
 all_goals (split at h)
 all_goals first|exact h.elim|exact⟨_,hM _ _ h⟩|skip
 all_goals (split at h)
 all_goals first|exact h.elim|exact⟨_,hM _ _ h⟩
theorem aij{M:Prop->Prop->Prop}{t1 t2:Nat}{x:V}{z:ST}{K:V->ST->Prop}(hM:∀ p q,M p q->q)(hk:(tI t2).k≠3)(h:Ha M t1 t2 x z K):∃ v,K v z:=by
 unfold Ha at h;split at h
 ·split at h
  ·exact⟨_,hM _ _ h⟩
  ·exact h.elim
 ·split at h;rotate_left
  ·exact h.elim
  split at h
  ·split at h
   ·exact⟨_,hM _ _ h⟩
   ·exact h.elim
  ·exact⟨_,h⟩
  ·split at h
   ·split at h
    ·exact⟨_,hM _ _ h⟩
    ·exact h.elim
   ·exact h.elim
  ·exact h.elim
 ·rename_i e _
  exact au e hk
 ·exact h.elim
theorem aaR{z:V}{k:Int}{ok:Bool}:∀ {es:List (Int×V)} {K:V->Prop},Jz z k ok K es->∃ v,K v
 |[],_,h=>⟨_,h⟩
 |(j,v)::r,K,h=>by
  have h:ai (decide (j=k)) (K (okV ok v true)) (Jz z k ok K r):=h;rcases hd:decide (j=k) with _|_
  ·exact aaR (h.h.2 hd)
  ·exact⟨_,h.h.1 hd⟩
theorem ags{M:Prop->Prop->Prop}(hM:∀ p q,M p q->q){t:Nat}{m x:V}{ok:Bool}{st:ST}{K:V->Prop}(h:LP M t m x ok st K):∃ v,K v:=by
 unfold LP at h;repeat' (first|exact h.elim|exact⟨_,hM _ _ h⟩|exact aaR h|split at h)
theorem acp{M:Prop->Prop->Prop}{C:Nat->List V->ST->(V->ST->Prop)->Prop}{op:Op}{K:V->ST->Prop}(hM:∀ p q,M p q->q)(hc:calm op=true)(h:dD M C op s K):∃ v,K v s.s:=by
 cases op
 case move x=>exact⟨_,h⟩
 case pick x y z=>
  simp only[dD]at h;split at h;rotate_left
  ·exact h.elim
  split at h
  ·exact⟨_,h⟩
  ·exact⟨_,hM _ _ h⟩
  ·exact⟨_,hM _ _ h⟩
  ·rename_i t _ _ _ _ _ _
   cases t
   ·exact⟨_,h.h.2 rfl⟩
   ·exact⟨_,h.h.1 rfl⟩
 case load t x=>exact ah7 (K:=λv=>K v s.s) hM h
 case fieldAddr t x f=>
  simp only[dD,BH]at h;split at h
  ·split at h
   ·split at h
    ·exact⟨_,h⟩
    ·exact⟨_,hM _ _ h⟩
    ·exact⟨_,h⟩
    ·exact h.elim
   ·exact h.elim
  ·exact h.elim
 case field t x f=>
  simp only[dD,BH]at h;split at h
  ·split at h
   ·split at h
    ·split at h
     ·exact⟨_,hM _ _ h⟩
     ·exact⟨_,hM _ _ h⟩
    ·exact h.elim
   ·exact h.elim
  ·exact h.elim
 case indexAddr t x y=>exact agV (K:=λv=>K v s.s) hM h
 case lookup t x y ok=>exact ags (K:=λv=>K v s.s) hM h
 case slice t x lo hi mx=>exact agB (K:=λv=>K v s.s) hM h
 case unOp op t x=>
  cases op <;> simp only[dD]at h;split at h
  ·exact⟨_,h⟩
  ·exact h.elim
 case extract x i=>
  simp only[dD]at h;split at h
  ·exact⟨_,hM _ _ h⟩
  ·exact h.elim
 case nilCheck x=>
  simp only[dD]at h;split at h;all_goals first|exact h.elim|exact⟨_,h⟩
 case binOp op t x y t2=>exact akK (K:=λv=>K v s.s) hM h
 case convert t1 t2 x=>
  refine aij hM ?_ h;intro e;simp only[calm,e]at hc;cases hc
 case call c=>
  obtain⟨callee,args,ats⟩:=c;cases callee
  case builtin b=>
   cases b <;> simp only[calm]at hc <;> first|(cases hc;done)|skip
   ·simp only[dD]at h;split at h
    ·unfold Td at h;split at h;all_goals first|exact h.elim|exact⟨_,h⟩
    ·exact h.elim
   all_goals
    simp only[dD]at h;split at h;rotate_left
    ·exact h.elim
    split at h;rotate_left
    ·exact h.elim
    split at h
    ·exact⟨_,h⟩
    ·exact h.elim
  all_goals cases hc
 all_goals cases hc
theorem ahX{M:Prop->Prop->Prop}{C:Nat->List V->ST->(V->ST->Prop)->Prop}{op:Op}{K K':V->ST->Prop}(hK:∀ v,K v s.s=K' v s.s)(hc:calm op=true):dD M C op s K=dD M C op s K':=by
 cases op
 case move x=>simp only[dD,hK]
 case pick x y z=>simp only[dD,hK]
 case load t x=>simp only[dD,hK]
 case fieldAddr t x f=>simp only[dD,hK]
 case field t x f=>simp only[dD,hK]
 case indexAddr t x y=>simp only[dD,hK]
 case lookup t x y ok=>simp only[dD,hK]
 case slice t x lo hi mx=>simp only[dD,hK]
 case unOp op t x=>cases op <;> simp only[dD,hK]
 case extract x i=>simp only[dD,hK]
 case nilCheck x=>simp only[dD,hK]
 case binOp op t x y t2=>simp only[dD,hK]
 case convert t1 t2 x=>
  have h3:(tI t2).k≠3:=by
   intro e;simp only[calm,e]at hc;cases hc
  simp only[dD,Ha];split
  ·simp only[hK]
  ·simp only[hK]
  ·rename_i e _
   exact au e h3
  ·rfl
 case call c=>
  obtain⟨callee,args,ats⟩:=c;cases callee
  case builtin b=>
   cases b <;> simp only[calm]at hc <;> first|(cases hc;done)|(simp only[dD,hK])
  all_goals cases hc
 all_goals cases hc
theorem XG{G:Gh}{o:Nat->aG}{w:World}{v:V}{hyp:Prop}{K:Bool->Prop}(h:Ns v hyp K):∃ p,K p/\∀ u,aO G o w v u->hyp->u = .bool p:=by
 unfold Ns at h;split at h
 ·exact⟨_,h,λu hu _=>hu⟩
 ·exact⟨_,h.h.2,λu hu hh=>hu.1 (h.h.1 hh)⟩
 ·exact h.elim
theorem WJ{ops:Array Oper}{s:AS}{a:Act}{w:World}{G:Gh}{o:Oper}{j d:Nat}{w1:Bool}{K:Bool->Prop}(hs:oG G s a w)(hgd:o.guard=some (j,w1))(hd:(ops.toList[j]?).map (·.dst)=some (some d))(h:Ig w1 (dG s.sl d) K):∃ t,K t/\Region.wanted o (yielded ops a.tmps)=(t == w1):=by
 have hjd:(ops[j]?).bind (·.dst)=some d:=by
  rcases hoj:ops[j]? with _|oj
  ·rw[<-qE]at hoj;rw[hoj]at hd;cases hd
  ·rw[<-qE]at hoj;rw[hoj]at hd;simpa using hd
 have hv:=hs.sl d;unfold Ig at h;have key:∀ u:Value,a.tmps.getD d undef=u->Region.wanted o (yielded ops a.tmps)=(match u with|.bool t=>(t == w1)|_=>false):=λu hu=>by
  unfold Region.wanted yielded;rw[hgd];simp only[hjd,Option.bind_some];rw[uy]at hu;rcases hx:a.tmps[d]? with _|x
  ·rw[hx]at hu;have hu:undef=u:=hu;subst hu;rfl
  ·rw[hx]at hu;have hu:x=u:=hu;subst hu;cases x
   case bool t=>cases t <;> cases w1 <;> rfl
   all_goals rfl
 split at h
 ·rename_i t e
  rw[e]at hv;exact⟨t,h,key _ hv⟩
 ·rename_i t1 w2 c e
  rw[e]at hv;refine⟨_,h,?_⟩;by_cases et:t1=w2
  ·rw[key _ (hv.1 et)];subst et;cases t1 <;> cases c <;> cases w1 <;> rfl
  ·rw[key _ (hv.2 et)];cases t1 <;> cases w2 <;> cases c <;> cases w1 <;> first|rfl|exact au rfl et
 ·exact h.elim
theorem UE{v:V}{K:Nat->(Nat->V)->Prop}(h:EQ v K):∃ n g,K n g:=by
 unfold EQ at h;repeat' (first|exact h.elim|exact⟨_,_,h⟩|split at h)
theorem Pm{s:AS}{n:Nat}{z:Nat->V}{place:Nat->(Nat->Nat->Prop)->Prop}(hp:∀ i K,place i K->∃ a b,K a b):∀(l:List (Nat×Operand)) (g:Nat->V) (K:(Nat->V)->Prop),yK s n z place l g K->∃ g,K g
 |[],g,K,h=>⟨g,h⟩
 |(i,x)::r,g,K,h=>by
  obtain⟨a,b,h⟩:=hp _ _ h;obtain⟨m,g2,h⟩:=UE h;split at h
  ·exact Pm hp r _ K h.h.2
  ·exact h.elim
theorem ZO{t n:Nat}{ps:List (Nat×Operand)}{s:AS}{K:V->Prop}(h:Bg t n ps s K):∃ v,K v:=by
 unfold Bg at h;split at h;rotate_left
 ·exact h.elim
 obtain⟨g,h⟩:=Pm (λi K h=>⟨_,_,h⟩) _ _ _ h;split at h
 ·exact⟨_,h⟩
 ·exact h.elim
theorem ZL{s s3:AS}{n:Nat}{z:Nat->V}{place:Nat->(Nat->Nat->Prop)->Prop}:∀(l:List (Nat×Operand)) (g:Nat->V) (K:(Nat->V)->Prop),(∀ p∈l,s.ev p.2=s3.ev p.2)->yK s n z place l g K=yK s3 n z place l g K
 |[],_,_,_=>rfl
 |(i,x)::r,g,K,h=>by
  unfold yK;rw[h (i,x) jC];simp only[ZL r _ K (λp hp=>h p (je _ hp))]
theorem af5{t n:Nat}{ps:List (Nat×Operand)}{s s3:AS}{K:V->Prop}(h:∀ p∈ps,s.ev p.2=s3.ev p.2):Bg t n ps s K=Bg t n ps s3 K:=by
 unfold Bg;simp only[ZL ps _ _ h]
theorem aaV{s:AS}{a:Act}{w:World}{G:Gh}{o:Oper}{t w1:Bool}{K:V->Prop}(hg:bV G s.s w)(hs:oG G s a w)(h:Tm ae t w1 o s K) :
  (t=w1->o.wp Tryz.prog a w (λa' w'=>∃ v V G',a'=a.put o.dst v/\K V/\bV G' s.s w'/\Stp G s.s.get w G' s.s.get w'/\aO G' s.s.get w' V v) (λ_ _ _=>False))/\(t≠w1->∃ V,K V):=by
 unfold Tm at h;split at h
 ·rename_i c x y hop
  obtain⟨p,h,hc⟩:=XG (G:=G) (o:=s.s.get) (w:=w) h;obtain⟨q,h,hx⟩:=XG (G:=G) (o:=s.s.get) (w:=w) h;obtain⟨r,h,hy⟩:=XG (G:=G) (o:=s.s.get) (w:=w) h;refine⟨λe=>?_,λ_=>⟨_,h⟩⟩;have hc:=hc _ (hs.ev c) e;have hrun:(execOp a.eval o).run Tryz.prog w = .ok (.value (if p=true then a.eval x else a.eval y)) w:=by
   simp[execOp,hop,hc,asBool]
  unfold Oper.wp Oper.upon;rw[hrun];refine⟨_,_,G,rfl,h,hg,Stp.refl _ _ _,?_⟩;cases p
  ·exact hy _ (hs.ev y) ⟨e,rfl⟩
  ·exact hx _ (hs.ev x) ⟨e,rfl⟩
 ·obtain⟨h,aoR⟩:=UN (w:=w) (G:=G) h;have hs3:t=w1->oG G (only (ql s) o.op.operands.toList) a w:=λe=>⟨hs.nt,λq=>by
   rcases ah6 (ql s) o.op.operands.toList q with h1|⟨h1,h2⟩
   ·rw[h1];trivial
   ·rw[h2];have:=aoR e (.tmp q) h1 _ (hs.sl q);rw[agT];exact this⟩
  split at h
  ·rename_i hcalm
   have hM:∀ p q,(λp k=>ag (t=w1->p) k) p q->q/\(t=w1->p):=λp q h=>⟨h.h.2,h.h.1⟩
   refine⟨λe=>?_,λe=>?_⟩
   ·have h3:dD (λp k=>ag (t=w1->p) k) ae o.op (only (ql s) o.op.operands.toList) (λv t'=>t'=s.s/\K v):=by
     rw[ajn (s:=ql s) (s3:=only (ql s) o.op.operands.toList) rfl (λx hx=>Wx _ _ x hx) hcalm];rw[ahX (s:=ql s) (K':=λv _=>K v) (λv=>by simp[ql]) hcalm];exact h
    have hres:=Qv (s:=only (ql s) o.op.operands.toList) (o:=o) hM e hg (hs3 e) h3;unfold eu at hres;refine yF hres (λa' w' hh=>?_) (λ_ _ _ h=>h.elim);obtain⟨v,V,t',G',rfl,⟨rfl,hk⟩,lU,hst,hv⟩:=hh;exact⟨v,V,G',rfl,hk,lU,hst,hv⟩
   ·obtain⟨v,hv⟩:=acp (λp q h=>(hM p q h).1) hcalm h;exact⟨v,hv⟩
  ·split at h;rotate_left
   ·rename_i ty n ps hoc
    refine⟨λe=>?_,λ_=>ZO h⟩;have hmem:∀ p∈ps.toList,(only (ql s) o.op.operands.toList).ev p.2=(ql s).ev p.2:=λp hp=>Wx _ _ p.2 (by
     rw[hoc];simp only[Op.operands];simp;exact⟨p.1,by simpa using hp⟩)
    rw[<-af5 (s:=only (ql s) o.op.operands.toList) hmem]at h;obtain⟨cells,hrun,D,hk,hd⟩:=ZZ (s:=only (ql s) o.op.operands.toList) hg (hs3 e) h;obtain⟨h1,h2⟩:=Ll hg ((Below.refl w.heap.size w).alloc (bu _) (.cells cells (tI ty).elem));unfold Oper.wp Oper.upon execOp;simp only[hoc,Sem.run_bind,hrun,Result.andThen_ok,Sem.run_pure];exact⟨_,_,_,rfl,hk,h1,h2,hd _ (λb hb=>.inl hb) (.inr ⟨bu _,by simp⟩)⟩
   ·exact h.elim
   rename_i c hoc
   unfold aeg at h;split at h;rotate_left
   ·exact h.elim
   rename_i f hcf
   split at h;rotate_left
   ·exact h.elim
   rename_i k nf n g hf
   obtain⟨R,hcall,hk⟩:=h;refine⟨λe=>?_,λe=>⟨R,hk⟩⟩;have hmem:∀ x,x=f\/x∈c.args.toList->(only (ql s) o.op.operands.toList).ev x=(ql s).ev x:=λx hx=>Wx _ _ x (by
    rw[hoc];simp only[Op.operands,Call.operands,hcf];rcases hx with rfl|hx
    ·simp
    ·simp at hx;simp[hx])
   have aee:=hcall e;rw[List.map_congr_left (λx hx=>(hmem x (.inr hx)).symm)]at aee;have hres:=abq (o:=o) (s:=only (ql s) o.op.operands.toList) hg (hs3 e) hoc hcf (by rw[hmem f (.inl rfl)];exact hf) aee;unfold eu at hres;refine yF hres (λa' w' hh=>?_) (λ_ _ _ h=>h.elim);obtain⟨v,V,t',G',rfl,⟨rfl,e2⟩,lU,hst,hv⟩:=hh;have e2:t'=s.s:=e2;subst e2;exact⟨v,_,G',rfl,hk,lU,hst,hv⟩
theorem AY(ops:Array Oper):∀(rest:List Oper) (i:Nat),ops.toList.drop i=rest->∀(s:AS) (a:Act) (w:World) (K:AS->Prop),tX ae ops.toList rest s K->Mod X s a w->wpOps Tryz.prog ops (QN X K) (List.range' i rest.length) a w:=by
 intro rest;induction rest with
 |nil=>intro i hi s a w K h hm;exact⟨rfl,s,h,hm⟩
 |cons o r ih=>
  intro i hi s a w K h hm;have hlt:i<ops.toList.length:=by
   rcases mP i ops.toList.length with h1|h1
   ·exact h1
   ·rw[List.drop_of_length_le h1]at hi;cases hi
  have ho:ops[i]?=some o:=by
   rw[List.drop_eq_getElem_cons hlt]at hi;injection hi with h1 h2
   rw[<-qE,dW hlt,h1]
  have hr:ops.toList.drop (i+1)=r:=by
   rw[List.drop_eq_getElem_cons hlt]at hi;injection hi
  rw[ny,List.range'_succ];unfold wpOps;rw[ho];simp only;unfold tX at h;simp only[ac3,force_eq]at h;split at h
  ·exact h.elim
  rename_i iC
  obtain⟨G,hg,hs,hx⟩:=hm;split at h
  ·rename_i hgd
   have hw:Region.wanted o (yielded ops a.tmps)=true:=by unfold Region.wanted;rw[hgd]
   rw[if_pos hw];refine .inl ?_;have hres:=Qv (M:=ag) (gd:=True) (o:=o) (λp q h=>⟨h.h.2,λ_=>h.h.1⟩) trivial hg hs.tooG h;refine yF (hres.step hx hs hg iC) (λa' w' hh=>?_) (λ_ _ _ h=>h.elim);obtain⟨x,t',hk,hm'⟩:=hh;exact ih (i+1) hr _ a' w' K hk hm'
  ·rename_i j w1 hgd
   split at h;rotate_left
   ·exact h.elim
   rename_i d hd
   obtain⟨t,h,hw⟩:=WJ hs.tooG hgd hd h;obtain⟨hyes,hno⟩:=aaV hg hs.tooG h;rw[hw];by_cases e:t=w1
   ·rw[if_pos (by rw[e];cases w1 <;> rfl)];refine .inl ?_;refine yF (hyes e) (λa' w' hh=>?_) (λ_ _ _ h=>h.elim);obtain⟨v,V,G',rfl,hk,lU,hst,hv⟩:=hh;exact ih (i+1) hr _ _ w' K hk (LK hx hs hg.aK lU hst iC ⟨λ_=>hv,λe'=>au e e'⟩)
   ·rw[if_neg (by intro e';exact e (by cases t <;> cases w1 <;> first|rfl|cases e'))];obtain⟨V,hk⟩:=hno e;exact ih (i+1) hr _ _ w K hk (LK hx hs hg.aK hg (Stp.refl _ _ _) iC ⟨λe'=>au e' e,λ_=>rfl⟩)
end
end
section
@[irreducible] def T {t0:ST} (X:Cx t0) (c:Code) (Q:Exit->AS->Prop) (s:AS):Prop:=
 ∀ a w,Mod X s a w->c.wp Tryz.prog (λe a' w'=>∃ s',Q e s'/\Mod X s' a' w') a w
def MQ(K:AS->Prop)(Q:Exit->AS->Prop):Exit->AS->Prop
 |.normal,s=>K s
 |e,s=>Q e s
def XI(id:Nat)(Q:Exit->AS->Prop):Exit->AS->Prop
 |.exit i,s=>cond (Nat.beq i id) (Q .normal s) (Q (.exit i) s)
 |e,s=>Q e s
def Nl(s:AS)(c:Operand)(K:Bool->Prop):Prop:=
 match s.ev c with
 |.d (.v (.bool t))=>K t
 |_=>False
section
variable {t0:ST} {X:Cx t0} {Q:Exit->AS->Prop} {s s2:AS}
theorem T.h{c:Code}(h:T X c Q s):∀ a w,Mod X s a w->c.wp Tryz.prog (λe a' w'=>∃ s',Q e s'/\Mod X s' a' w') a w:=by unfold T at h;exact h
theorem T.mk{c:Code}(h:∀ a w,Mod X s a w->c.wp Tryz.prog (λe a' w'=>∃ s',Q e s'/\Mod X s' a' w') a w):T X c Q s:=by unfold T;exact h
theorem T.le{c:Code}(s2:AS)(hl:aV t0.nx s s2)(h:T X c Q s2):T X c Q s:=T.mk λa w hm=>h.h a w (hm.le hl)
theorem T.mono{c:Code}{Q':Exit->AS->Prop}(h:T X c Q' s)(hq:∀ e s,Q' e s->Q e s):T X c Q s:=T.mk λa w hm=>wp_mono (h.h a w hm) λe a w ⟨s',h1,h2⟩=>⟨s',hq _ _ h1,h2⟩
theorem T.skip(h:Q .normal s):T X .skip Q s:=T.mk λa w hm=>wp_skip ⟨s,h,hm⟩
theorem T.ret(h:Q .ret s):T X .ret Q s:=T.mk λa w hm=>wp_ret ⟨s,h,hm⟩
theorem T.exit{id:Nat}(h:Q (.exit id) s):T X (.exit id) Q s:=T.mk λa w hm=>wp_exit ⟨s,h,hm⟩
theorem T.seq{x y:Code}(h:T X x (MQ (T X y Q) Q) s):T X (.seq x y) Q s:=T.mk λa w hm=>by
 refine wp_seq (wp_mono (h.h a w hm) λe a w ⟨s',h1,h2⟩=>?_);cases e with
 |normal=>exact T.h h1 a w h2
 |_=>exact⟨s',h1,h2⟩
theorem T.cond{c:Operand}{x y:Code}(h:Nl s c λt=>ai t (T X x Q s) (T X y Q s)):T X (.cond c x y) Q s:=T.mk λa w hm=>by
 unfold Nl at h;split at h
 ·rename_i t ht
  obtain⟨G,hg,hs,hx⟩:=hm;have hc:=hs.ev c;rw[ht]at hc;have hc:a.eval c = .bool t:=hc;exact wp_cond_split hc (λe=>(h.h.1 e).h a w ⟨G,hg,hs,hx⟩) (λe=>(h.h.2 e).h a w ⟨G,hg,hs,hx⟩)
 ·exact h.elim
theorem T.block{id:Nat}{c:Code}(h:T X c (XI id Q) s):T X (.block id c) Q s:=T.mk λa w hm=>by
 refine wp_block (wp_mono (h.h a w hm) λe a w ⟨s',h1,h2⟩=>?_);cases e with
 |exit i=>
  have h1:_root_.cond (Nat.beq i id) (Q .normal s') (Q (.exit i) s'):=h1;show if i=id then _ else _
  rcases hb:Nat.beq i id with _|_
  ·rw[hb]at h1;rw[if_neg (λe=>by subst e;simp at hb)];exact⟨s',h1,h2⟩
  ·rw[hb]at h1;rw[if_pos (dH hb)];exact⟨s',h1,h2⟩
 |_=>exact⟨s',h1,h2⟩
theorem T.region{id:Nat}{ops:Array Oper}(h:tX ae ops.toList ops.toList s (Q .normal)):T X (.region id ops false) Q s:=T.mk λa w hm=>by
 have h1:=AY (X:=X) ops ops.toList 0 rfl s a w _ h hm;rw[<-List.range_eq_range',qX]at h1;refine wp_region ?_;have mono:∀(l:List Nat) (a:Act) (w:World),wpOps Tryz.prog ops (QN X (Q .normal)) l a w->wpOps Tryz.prog ops (λe a' w'=>∃ s',Q e s'/\Mod X s' a' w') l a w:=by
  intro l;induction l with
  |nil=>intro a w h;obtain⟨_,s',h1,h2⟩:=h;exact⟨s',h1,h2⟩
  |cons i l ih=>
   intro a w h;unfold wpOps at h ⊢;split at h
   ·exact ih a w h
   ·split at h
    ·rename_i hw
     rw[if_pos hw];rcases h with h|⟨_,a0,w0,h⟩
     ·exact .inl (yF h (λa w h=>ih a w h) (λe a w h=>by
       obtain⟨rfl,s',h1,h2⟩:=h;exact⟨s',h1,h2⟩))
     ·exact au h.1 (by intro e;cases e)
    ·rename_i hw
     rw[if_neg hw];exact ih _ w h
 exact mono _ a w h1
theorem T.loop{ι:Type}{c:Code}(S:ι->AS)(μ:ι->Nat)(i0:ι)(h0:aV t0.nx s (S i0))(hr:∀ i,T X c (λe s'=>match e with|.normal=>∃ j,aV t0.nx s' (S j)/\μ j<μ i|e=>Q e s') (S i)):T X (.loop c) Q s:=T.mk λa w hm=>by
 intro b k cs;have key:∀ n i a w,μ i=n->Mod X (S i) a w ->
   ∃ e a' w',(∃ s',Q e s'/\Mod X s' a' w')/\Arrives Tryz.prog (lone (b.at a (.code c :: .inLoop c::k)) cs w) b k cs e a' w':=by
  intro n;induction n using Nat.strongRecOn with
  |_ n ih=>
   intro i a w hn hI;obtain⟨e,a₁,w₁,⟨s',hq,hm'⟩,harr⟩:=(hr i).h a w hI b (.inLoop c::k) cs;cases e with
   |normal=>
    obtain⟨j,hj,hlt⟩:=hq;obtain⟨e₂,a₂,w₂,hq₂,harr₂⟩:=ih (μ j) (hn▸hlt) j a₁ w₁ rfl (hm'.le hj);exact⟨e₂,a₂,w₂,hq₂,.of_steps (Steps.trans harr (.one step_inLoop)) harr₂⟩
   |exit id=>exact⟨_,a₁,w₁,⟨s',hq,hm'⟩,.pass (x:=.inLoop c) rfl (λ_ _=>.inl (by simp)) harr⟩
   |goto l=>exact⟨_,a₁,w₁,⟨s',hq,hm'⟩,.pass (x:=.inLoop c) rfl (λ_ _=>.inl (by simp)) harr⟩
   |ret=>exact⟨_,a₁,w₁,⟨s',hq,hm'⟩,.pass (x:=.inLoop c) rfl (λ_ _=>.inl (by simp)) harr⟩
   |panic ch=>exact⟨_,a₁,w₁,⟨s',hq,hm'⟩,.pass (x:=.inLoop c) rfl (λ_ _=>.inl (by simp)) harr⟩
   |outgrown=>exact⟨_,a₁,w₁,⟨s',hq,hm'⟩,.pass (x:=.inLoop c) rfl (λ_ _=>.inl (by simp)) harr⟩
 obtain⟨e,a',w',hq,harr⟩:=key _ i0 a w rfl (hm.le h0);exact⟨e,a',w',hq,.of_steps (.one step_loop) harr⟩
@[irreducible] def Fin (X:Cx t0) (v:V) (t:ST) (K:V->ST->Prop):Prop:=
 ∀(G:Gh) (w:World) (u:Value),bV G t w->Stp X.G t0.get X.w G t.get w->aO G t.get w v u->∃ v' t' G',K v' t'/\bV G' t' w/\Stp X.G t0.get X.w G' t'.get w/\aO G' t'.get w v' u
theorem Fin.mk{v:V}{t:ST}{K:V->ST->Prop}(h:∀(G:Gh) (w:World) (u:Value),bV G t w->Stp X.G t0.get X.w G t.get w->aO G t.get w v u->∃ v' t' G',K v' t'/\bV G' t' w/\Stp X.G t0.get X.w G' t'.get w/\aO G' t'.get w v' u):Fin X v t K:=by unfold Fin;exact h
theorem Fin.h{v:V}{t:ST}{K:V->ST->Prop}(h:Fin X v t K):∀(G:Gh) (w:World) (u:Value),bV G t w->Stp X.G t0.get X.w G t.get w->aO G t.get w v u->∃ v' t' G',K v' t'/\bV G' t' w/\Stp X.G t0.get X.w G' t'.get w/\aO G' t'.get w v' u:=by unfold Fin at h;exact h
theorem Fin.here{v:V}{t:ST}{K:V->ST->Prop}(h:K v t):Fin X v t K:=Fin.mk λG w u hg hx hv=>⟨v,t,G,h,hg,hx,hv⟩
theorem Fin.le{v:V}{t:ST}{K:V->ST->Prop}(v':V)(t':ST)(hlo:t0.nx<=t'.nx)(hhi:t'.nx<=t.nx)(hob:qB t'.nx t t'.st)(hv:VW t'.nx v v')(h:Fin X v' t' K):Fin X v t K:=Fin.mk λG w u hg hx hu=>by
 have hless:yl t'.nx t t':=II hob;exact h.h _ w u (Gp hg hless hhi rfl) (IG hx hless hlo) (zJ hless hv hu)
theorem Fin.done{v:V}{t:ST}{K:V->ST->Prop}(v':V)(t':ST)(hlo:t0.nx<=t'.nx)(hhi:t'.nx<=t.nx)(hob:qB t'.nx t t'.st)(hv:VW t'.nx v v')(h:K v' t'):Fin X v t K:=Fin.le v' t' hlo hhi hob hv (Fin.here h)
def Ht(s:AS):List ResultVar->List V->(List V->Prop)->Prop
 |[],acc,K=>K acc
 |.tmp t::r,acc,K=>Ht s r (acc++[dG s.sl t]) K
 |.cell p ty::r,acc,K=>Jy ag ty (dG s.sl p) s.s λv=>Ht s r (acc++[v]) K
def BU(fn:Func)(X:Cx t0)(K:V->ST->Prop):Exit->AS->Prop
 |.ret,s=>Ht s fn.results.toList [] λl=>(match l with|[v]=>Fin X v s.s K|l=>Fin X (.fV l.length (λk=>l.getD k .top)) s.s K)
 |.normal,s=>Ht s fn.results.toList [] λl=>(match l with|[v]=>Fin X v s.s K|l=>Fin X (.fV l.length (λk=>l.getD k .top)) s.s K)
 |_,_=>False
def Hr(a:Act):ResultVar->Sem Value
 |.tmp t=>pure (a.tmps.getD t undef)
 |.cell p t=>do loadVar t (<-asAddr (a.tmps.getD p undef))
theorem ZK{G:Gh}{w:World}{s:AS}{a:Act}(hg:Good G s.s.get w)(hs:oG G s a w):∀(l:List ResultVar) (acc:List V) (vs:List Value) (K:List V->Prop),Ht s l acc K->acc.length=vs.length->(∀(k:Nat) (v:V) (u:Value),acc[k]?=some v->vs[k]?=some u->aO G s.s.get w v u) ->
  ∃ acc' us,K acc'/\acc'.length=(vs++us).length/\(l.mapM (Hr a):Sem (List Value)).run Tryz.prog w = .ok us w/\∀(k:Nat) (v:V) (u:Value),acc'[k]?=some v->(vs++us)[k]?=some u->aO G s.s.get w v u
 |[],acc,vs,K,h,hl,hv=>⟨acc,[],h,by simpa using hl,by simp,by simpa using hv⟩
 |r::l,acc,vs,K,h,hl,hv=>by
  have step:∀(x:V) (u:Value),aO G s.s.get w x u->Ht s l (acc++[x]) K->∃ acc' us,K acc'/\acc'.length=(vs++(u::us)).length/\(l.mapM (Hr a):Sem (List Value)).run Tryz.prog w = .ok us w/\∀(k:Nat) (v:V) (y:Value),acc'[k]?=some v->(vs++(u::us))[k]?=some y->aO G s.s.get w v y:=λx u hx hh=>by
   obtain⟨acc',us,e1,e2,e3,e4⟩:=ZK hg hs l (acc++[x]) (vs++[u]) K hh (by simp[hl]) (λk v y h1 h2=>by
    by_cases hk:k<acc.length
    ·rw[mO hk]at h1;rw[mO qO]at h2;exact hv k v y h1 h2
    ·rw[oW qO]at h1;rw[oW qO,<-hl]at h2;rcases hd:k-acc.length with _|d
     ·rw[hd]at h1 h2;simp at h1 h2;subst h1 h2;exact hx
     ·rw[hd]at h1;simp at h1)
   rw[kE]at e2 e4;exact⟨acc',us,e1,e2,e3,e4⟩
  cases r with
  |tmp t=>
   obtain⟨acc',us,e1,e2,e3,e4⟩:=step _ _ (hs.sl t) h;exact⟨acc',_,e1,e2,by simp[List.mapM_cons,Hr,e3,Result.andThen],e4⟩
  |cell p ty=>
   obtain⟨r,R,h1,h2,h3⟩:=aaA (gd:=True) (λp q h=>⟨h.h.2,λ_=>h.h.1⟩) trivial hg (hs.sl p) h;obtain⟨acc',us,e1,e2,e3,e4⟩:=step R r h3 h2;refine⟨acc',_,e1,e2,?_,e4⟩;have hp:∃ ad,a.tmps.getD p undef = .pointer (some ad):=by
    rcases hpv:a.tmps.getD p undef with _|_|_|_|_|⟨_|ad⟩|_|_|_|_|_|_|_|_|_
    case pointer.some=>exact⟨ad,rfl⟩
    all_goals (rw[hpv]at h1;simp[Instr.loadAt,Instr.sureAddr]at h1)
   obtain⟨ad,hp⟩:=hp;rw[hp]at h1;have h1':(loadVar ty ad).run Tryz.prog w = .ok r w:=by simpa [Instr.loadAt,Instr.sureAddr] using h1
   simp[List.mapM_cons,Hr,hp,asAddr,h1',e3,Result.andThen]
end
end
section
def pO(args:List V):List (Nat×V):=args.zipIdx.map (λp=>(p.2,p.1))
theorem Iz:∀(args:List V) (s j:Nat),dG ((args.zipIdx s).map (λp=>(p.2,p.1))) j=if s<=j then args.getD (j-s) .top else .top
 |[],s,j=>by simp[dG]
 |v::r,s,j=>by
  rw[List.zipIdx_cons,List.map_cons];show(bif Nat.beq s j then v else dG _ j)=_;rcases h:Nat.beq s j with _|_
  ·have hne:s≠j:=λe=>by subst e;simp at h
   rw[di,Iz r (s+1) j];by_cases hle:s+1<=j
   ·rw[if_pos hle,if_pos qO,show j-s=(j-(s+1))+1 by omega];simp[List.getD]
   ·rw[if_neg hle,if_neg qO]
  ·have:=dH h;subst this;simp
section
variable {t0:ST} {X:Cx t0} {s:AS} {K:V->ST->Prop}
theorem alX{fn:Func}{a:Act}{w:World}{us:List Value}(h:(fn.results.toList.mapM (Hr a):Sem (List Value)).run Tryz.prog w = .ok us w):(results fn a.tmps).run Tryz.prog w = .ok (match us with|[u]=>u|us=>.tuple us.toArray) w:=by
 have e:results fn a.tmps=(do let vs <-fn.results.mapM (Hr a);pure (if h:vs.size=1 then vs[0] else .tuple vs)):=rfl;rw[e,Array.mapM_eq_mapM_toList];have h2:(List.toArray <$> fn.results.toList.mapM (Hr a):Sem (Array Value)).run Tryz.prog w = .ok us.toArray w:=by
  simp[h,Result.andThen]
 rw[Sem.run_bind,h2,Result.andThen_ok];rcases us with _|⟨u,_|⟨u2,r⟩⟩
 ·rfl
 ·rfl
 ·simp
theorem Ew{fn:Func}{a:Act}{w:World}(h:Ht s fn.results.toList [] λl=>(match l with|[v]=>Fin X v s.s K|l=>Fin X (.fV l.length (λk=>l.getD k .top)) s.s K))(hm:Mod X s a w) :
  ∃ v,(results fn a.tmps).run Tryz.prog w = .ok v w/\∃ V t' G',K V t'/\bV G' t' w/\Stp X.G t0.get X.w G' t'.get w/\aO G' t'.get w V v:=by
 obtain⟨G,hg,hs,hx⟩:=hm;obtain⟨l,us,h1,h2,h3,h4⟩:=ZK hg.aK hs.tooG fn.results.toList [] [] _ h rfl (λk v u h=>by simp at h);refine⟨_,alX h3,?_⟩;rw[List.nil_append]at h2 h4;rcases l with _|⟨v,_|⟨v2,r⟩⟩
 ·obtain rfl:us=[]:=uw h2.symm;exact h1.h G w _ hg hx ⟨#[],rfl,rfl,λk x hx=>by simp at hx⟩
 ·rcases us with _|⟨u,_|⟨u2,q⟩⟩
  ·simp at h2
  ·exact h1.h G w _ hg hx (h4 0 v u rfl rfl)
  ·simp at h2
 ·rcases us with _|⟨u,_|⟨u2,q⟩⟩
  ·simp at h2
  ·simp at h2
  ·refine h1.h G w _ hg hx ⟨_,rfl,by simpa using h2.symm,λk x hx=>?_⟩;have hx:(u::u2::q)[k]?=some x:=by simpa using hx
   have hk:k<(v::v2::r).length:=by rw[h2];exact(List.getElem?_eq_some_iff.1 hx).1
   have e:=dW hk;have:=h4 k _ x e hx;show aO G s.s.get w ((v::v2::r).getD k .top) x;rw[bC,e];exact this
theorem ae.of{f:Nat}{fn:Func}{c:Code}{args:List V}{t:ST}{K:V->ST->Prop}(hf:Tryz.prog.funcs[f]?=some fn)(hb:fn.body=some c)(hname:(fn.name == "runtime.NumGoroutine")=false)(hn:args.length<=fn.ntmps)(h:∀ X:Cx t,T X c (BU fn X K) ⟨fn.ntmps,pO args,t⟩):ae f args t K:=by
 refine⟨?_,λG w us hg hl hv=>?_⟩
 ·unfold wB;rw[hf,pF,hb,hname];rfl
 ·let X:Cx t:=⟨G,w,hg,[]⟩
  refine calls_of_wp hf hb ?_;have hm:Mod X ⟨fn.ntmps,pO args,t⟩ { tmps:=us.toArray++Array.replicate (fn.ntmps-us.toArray.size) undef,defers:=[] } w:=by
   refine⟨G,hg,⟨⟨by simp;omega,λj=>?_⟩,rfl⟩,Stp.refl _ _ _⟩;show aO G t.get w (dG (pO args) j) _;unfold pO;rw[Iz args 0 j,if_pos (cu _),Nat.sub_zero,bC];rcases ha:args[j]? with _|v
   ·exact trivial
   ·have hj:j<us.length:=by rw[hl];exact(List.getElem?_eq_some_iff.1 ha).1
    have e:=dW hj;have:=hv j v _ ha e;rw[uy,Array.getElem?_append_left (by simpa using hj)];simpa [hj] using this
  refine wp_mono ((h X).h _ w hm) λe a' w' hh=>?_
  obtain⟨s',hq,hm'⟩:=hh;have hd:a'.defers=[]:=by obtain⟨_,_,hs,_⟩:=hm';exact hs.df
  cases e with
  |ret=>
   obtain⟨v,h1,V,t',G',h2,h3,h4,h5⟩:=Ew hq hm';exact⟨hd,v,h1,v,V,t',G',rfl,h2,h3,h4,h5⟩
  |normal=>
   obtain⟨v,h1,V,t',G',h2,h3,h4,h5⟩:=Ew hq hm';exact⟨hd,v,h1,v,V,t',G',rfl,h2,h3,h4,h5⟩
  |exit i=>exact hq.elim
  |goto l=>exact hq.elim
  |panic c=>exact hq.elim
  |outgrown=>exact hq.elim
end
end
theorem dI{t0:ST}{X:Cx t0}{c:Code}{Q:Exit->AS->Prop}{s:AS}(h:T X c Q s):T X c Q s:=h
end Go.Proofs.YtnibdnahojjcgaaGreat
