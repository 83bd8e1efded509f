/- A part of the proof. -/
import Derived.Lib.ConvBytes
import Derived.MapKept
import Derived.Test.YtnibdnahojjcgaaGreatB06
namespace Go.Proofs.YtnibdnahojjcgaaGreat
set_option maxRecDepth 100000
set_option maxHeartbeats 16000000
set_option linter.unusedVariables false
set_option linter.unusedSimpArgs false
open Go.RowKit
section
theorem afd{t:Nat}{k:IntKind}{n:Int}(h:(tI t).k=5)(hz:(tI t).zero=[.d (.v (.int k n))]):Tryz.prog.underlying t=some (.int k):=by
 obtain⟨d,h1,h2⟩:=Ce t h qD;rw[h1];cases d <;> simp[vT,h,hz]at h2;rw[h2]
theorem Rq{t:Nat}(h:(tI t).k=5):∃ k,Tryz.prog.underlying t=some (.int k):=by
 obtain⟨d,h1,h2⟩:=Ce t h qD;rw[h1];cases d <;> simp[vT,h]at h2;exact⟨_,rfl⟩
theorem Ro:Tryz.prog.underlying 5=some (.int .u8):=Tryz.underlying5
section
variable {G:Gh} {w w':World} {t:ST} {s:AS} {o:Oper} {a:Act} {K:V->ST->Prop} {M:Prop->Prop->Prop} {gd:Prop}
theorem Ll(hg:bV G t w)(hb:Below w.heap.size w w'):bV ⟨λb=>G.F b\/(w.heap.size<=b/\b<w'.heap.size),G.ρ⟩ t w'/\Stp G t.get w ⟨λb=>G.F b\/(w.heap.size<=b/\b<w'.heap.size),G.ρ⟩ t.get w':=by
 have hs:Stp G t.get w ⟨λb=>G.F b\/(w.heap.size<=b/\b<w'.heap.size),G.ρ⟩ t.get w':=
  ⟨hb.os,hb.tape,hb.output,hb.size,λb h _=>hb.block b h,λ_ h _=>.inl h,λb h=>h.imp id (λh=>h.1),λi b h=>.inl h,λ_ _ h=>h,λi A c h=>⟨A,c,h,λE s m g ho=>⟨m,g,ho,bu _,λ_=>⟨rfl,rfl⟩⟩⟩⟩
 have hk:∀ i b,dA G t.get i b->w'.heap[b]?=w.heap[b]?:=λi b h=>hb.block b (hg.aK.lt h)
 refine⟨⟨⟨λi n g ho=>?_,λi E s n g ho=>?_,λi es ho=>?_,λi b ho hf=>?_,λb hf=>?_,λi j b h1 h2=>hg.aK.sep i j b h1 h2⟩,hg.jK⟩,hs⟩
 ·obtain⟨b,cs,ty,h1,h2,h3,h4⟩:=hg.aK.blk _ _ _ ho;exact⟨b,cs,ty,h1,by rw[hk i b (by unfold dA;rw[ho];exact h1),h2],h3,λk x hx=>⟨(h4 k x hx).1,(h4 k x hx).2.dS hs hg.aK⟩⟩
 ·obtain⟨h1,h2,h3,A,c,h4,h5⟩:=hg.aK.row _ _ _ _ _ ho;refine⟨h1,h2,h3,A,c,h4,?_⟩;rcases h5 with h5|⟨h5,b,cs,rfl,h6,h7,h8,h9,h10⟩
  ·exact .inl h5
  ·refine .inr ⟨h5,b,cs,rfl,by rw[hk i b (by unfold dA;rw[ho];exact⟨_,_,h4,h5,_,rfl⟩),h6],h7,h8,h9,λa ha k hk=>?_⟩;obtain⟨x,q1,q2,q3⟩:=h10 a ha k hk;exact⟨x,q1,q2,q3.dS hs hg.aK⟩
 ·obtain⟨b,jd,cl,h1,h2,h3⟩:=hg.aK.map _ _ ho;exact⟨b,jd,cl,h1,by rw[hk i b (by unfold dA;rw[ho];exact h1),h2],h3.dS hs hg.aK⟩
 ·have hlt:=hg.aK.lt (show dA G t.get i b from ho);rcases hf with hf|hf
  ·exact hg.aK.wS i b ho hf
  ·omega
 ·rcases hf with hf|hf
  ·exact su (hg.aK.vK b hf) hb.size
  ·exact hf.2
theorem an7{v:V}{u:Value}(h:RU v)(hv:aO G t.get w v u):u = .int .u8 ((Oo v).toNat:Int):=by
 obtain⟨b,rfl⟩:=h;have:u = .int .u8 (b.toNat:Int):=hv;rw[this];simp[Oo]
theorem ae6{n:Nat}{g:Nat->Nat->V}{A:Option Addr}{news:List Value}(hl:news.length=n*1)(hrd:Rd w w.heap.size A news)(hn:∀ j,j<n->∀ q,q<1->∃ x,news[j*1+q]?=some x/\x.oneCell'=true/\aO G t.get w (g j q) x)(hu:∀ j,j<n->RU (g j 0)):Bs w w.heap.size A ((List.range n).map λj=>Oo (g j 0)):=λhpos=>by
 have hpos':0<n:=by simpa using hpos
 obtain⟨b,off,rfl,hb,hc⟩:=hrd qO;refine⟨b,off,rfl,hb,λi hi=>?_⟩;have hi':i<n:=by simpa using hi
 obtain⟨x,e1,_,e3⟩:=hn i hi' 0 qO;rw[Nat.mul_one,Nat.add_zero]at e1;rw[hc i qO,e1,an7 (hu i hi') e3];simp[hi']
theorem aqN(n:Nat)(e:TypeId)(hn:n<=1000000):n<=grownCap w n 0 e/\grownCap w n 0 e<=maxLen:=by
 unfold grownCap Question.cut maxLen;simp only;have:w.tape w.drawn (.appendCap n 0 e) % (2^63-n)<2^63-n:=Nat.mod_lt _ qO;omega
theorem agj{H6 H5:Nat}{x:Operand}{vx:V}(hM:∀ p q,M p q->q/\(gd->p))(hgd:gd)(hg:bV G t w)(ho:o.op = .convert H6 H5 x)(hx:aO G t.get w vx (a.eval x))(h:Ha M H6 H5 vx t K):eu o a G t w K:=by
 have val:∀ {v:Value} {V:V},(convert H6 H5 (a.eval x)).run Tryz.prog w = .ok v w->aO G t.get w V v->K V t->eu o a G t w K:=λ{v V} hrun hv hk=>by
  refine eu.val hg ?_ hv hk;unfold execOp;simp only[ho,Sem.run_bind,hrun,Result.andThen_ok,Sem.run_pure]
 unfold Ha at h;split at h
 ·rename_i h2 h1
  split at h
  ·rename_i k n k' n' hz
   have hx:a.eval x = .int k n:=hx;obtain⟨hk,hr⟩:=hM _ _ h;obtain⟨q,hq⟩:=Rq h1;refine val (v:=.int k' n) (V:=.int k' n) ?_ rfl hk;rw[hx];simp[convert,run_underlying hq,run_underlying (afd h2 hz),Conv.intToInt,Ls (hr hgd)]
  ·exact h.elim
 ·rename_i h2 h1
  split at h;rotate_left
  ·exact h.elim
  rename_i he
  have he:=dH he;have hus:=qw h1;rw[he]at hus;have hs5:(tI 5).size=1:=rfl;split at h
  ·rename_i n z g
   split at h;rotate_left
   ·exact h.elim
   rename_i hz1
   have hz1:=dH hz1;subst hz1;obtain⟨hk,hr⟩:=hM _ _ h;obtain⟨m,g',Ay,cy,news,⟨rfl,rfl⟩,hye,hl,hrd,hn⟩:=Qq (E:=5) (k:=λm g'=>m=n/\g'=λj k=>.d (g j k)) hg.aK qD hx (by unfold Fg;exact⟨rfl,rfl⟩);rw[hs5]at hl hn;refine val (V:=.str _) ?_ rfl hk;rw[hye];exact OV H6 H5 5 hus Ro (Hm h2) (by simp) (ae6 hl hrd hn (hr hgd))
  ·obtain⟨A,hxe⟩:=hx;refine val (V:=.str _) ?_ rfl h;rw[hxe];exact OV H6 H5 5 hus Ro (Hm h2) rfl (Bs.nil (B:=0))
  ·rename_i i n
   split at h;rotate_left
   ·exact h.elim
   rename_i E z m g hob
   split at h;rotate_left
   ·exact h.elim
   rename_i hE
   have hE:=dH hE;subst hE;obtain⟨hk,hr⟩:=hM _ _ h;obtain⟨ul,hr2⟩:=hr hgd;clear hr;subst ul;obtain⟨A,c,hr',hu',hu⟩:=id hx;obtain⟨q1,q2,q3,q4⟩:=rowOf (n:=0) hg.aK hob hr';rw[hs5]at q2;subst q2;obtain⟨m,g',Ay,cy,news,⟨rfl,rfl⟩,hye,hl,hrd,hn⟩:=Qq (E:=5) (k:=λm g'=>m=n/\g'=g) hg.aK qD hx (by unfold Fg;simp only[hob];exact ag.mk trivial ⟨trivial,trivial⟩);rw[hs5]at hl hn;refine val (V:=.str _) ?_ rfl hk;rw[hye];exact OV H6 H5 5 hus Ro (Hm h2) (by simp) (ae6 hl hrd hn hr2)
  ·exact h.elim
 ·rename_i h2 h1
  split at h;rotate_left
  ·exact h.elim
  rename_i y he
  have he:=dH he;have hud:=qw h2;rw[he]at hud;obtain⟨hsz,hk⟩:=h.h;have hx:a.eval x = .string y:=hx;have hrun:=Lib.run_convert_string_bytes (P:=Tryz.prog) w H6 H5 5 y (Hm h1) hud Ro;have hb:Below w.heap.size w (Lib.bytesWorld w 5 y):=⟨rfl,rfl,rfl,by rw[Lib.bytesWorld_size];omega,λb hb=>Lib.bytesWorld_at_old w 5 y b hb⟩;obtain⟨lU,hs'⟩:=Ll hg hb;obtain⟨hc1,hc2⟩:=aqN (w:=w) y.size 5 hsz;unfold eu Oper.wp Oper.upon execOp;simp only[ho,hx,Sem.run_bind,hrun,Result.andThen_ok,Sem.run_pure];refine⟨_,_,_,_,rfl,hk,lU,hs',_,_,rfl,hc1,hc2,(λe=>by cases e),λj hj k hk'=>?_⟩;obtain rfl:k=0:=qO;refine⟨w.heap.size,0,_,rfl,.inr ⟨bu _,by rw[Lib.bytesWorld_size];omega⟩,by rw[Lib.bytesWorld_size];omega,by rw[jm,Nat.mul_one,Nat.add_zero];exact Lib.bytesWorld_cell w 5 y j hj,rfl,rfl⟩
 ·exact h.elim
end
end
section
theorem SE{t:Nat}(h:(tI t).k=4):Tryz.prog.underlying t=some (.map (tI t).len (tI t).elem):=by
 obtain⟨d,h1,h2⟩:=Ce t h qD;rw[h1];cases d <;> simp[vT,h]at h2;rw[h2.1,h2.2]
def aeR(l:List MapEntry):Prop:=∀ e∈l,∃ k,e.key = .int .i64 k
theorem UA{q:IntKind}{k:Int}:∀(l:List MapEntry) (i:Nat),aeR l->(∃ u,sN l k=some u/\∃ j,Instr.findNow (.int q) (.int .i64 k) l i=some (some (i+j,u))/\(∃ e,l[j]?=some e/\e.key = .int .i64 k)/\∀ e j',j'<j->l[j']?=some e->e.key ≠ .int .i64 k)\/(sN l k=none/\Instr.findNow (.int q) (.int .i64 k) l i=some none)
 |[],i,_=>.inr ⟨rfl,rfl⟩
 |e::r,i,hk=>by
  obtain⟨j,hj⟩:=hk e (by simp);have ih:=UA (q:=q) (k:=k) r (i+1) (λe he=>hk e (by simp[he]));unfold sN Instr.findNow;rw[hj];simp only[Instr.sameNow,if_pos];by_cases hjk:j=k
  ·subst hjk;simp only[BEq.rfl,if_pos];exact .inl ⟨_,rfl,0,by simp,⟨e,rfl,hj⟩,λ_ _ h=>by omega⟩
  ·have h2:(k == j)=false:=by simpa using λe=>hjk e.symm
   simp only[h2,if_neg hjk];rcases ih with ⟨u,h1,j',h3,h4,h5⟩|ih
   ·refine .inl ⟨u,h1,j'+1,by rw[h3];congr 3;omega,by simpa using h4,λe' a ha hae=>?_⟩;cases a with
    |zero=>
     obtain rfl:e=e':=by simpa using hae
     rw[hj];intro h;injection h with _ h;exact hjk h
    |succ a=>exact h5 e' a qO (by simpa using hae)
   ·exact .inr ih
theorem ZC{k:Int}{v:Value}:∀(l:List MapEntry) (j:Nat),aeR l->(∃ e,l[j]?=some e/\e.key = .int .i64 k)->(∀ e j',j'<j->l[j']?=some e->e.key ≠ .int .i64 k)->∀ m,sN (l.modify j λe=>{ e with key:=.int .i64 k,val:=v }) m=if k=m then some v else sN l m
 |[],j,_,⟨e,h,_⟩,_,m=>by simp at h
 |e::r,0,hk,⟨e',h1,h2⟩,_,m=>by
  obtain rfl:e=e':=by simpa using h1
  simp only[List.modify_zero_cons,sN];split
  ·rfl
  ·rename_i hne
   rw[h2];simp only[if_neg hne]
 |e::r,j+1,hk,⟨e',h1,h2⟩,h3,m=>by
  simp only[List.modify_succ_cons,sN];obtain⟨j0,hj0⟩:=hk e (by simp);rw[hj0];have ih:=ZC (k:=k) (v:=v) r j (λe he=>hk e (by simp[he])) ⟨e',by simpa using h1,h2⟩ (λe j' h h'=>h3 e (j'+1) qO (by simpa using h')) m;have hne:j0≠k:=λh=>h3 e 0 qO rfl (by rw[hj0,h])
  by_cases hm:j0=m
  ·subst hm;simp[hne.symm]
  ·simp only[if_neg hm];exact ih
theorem UB{k:Int}{v:Value}{b:Nat}:∀(l:List MapEntry),sN l k=none->∀ m,sN (l++[{ key:=.int .i64 k,val:=v,born:=b }]) m=if k=m then some v else sN l m
 |[],_,m=>by simp[sN]
 |e::r,h,m=>by
  simp only[List.cons_append,sN]at h ⊢;split at h
  ·rename_i j hj
   split at h
   ·cases h
   ·rename_i hjk
    by_cases hm:j=m
    ·subst hm;rw[if_pos rfl,if_neg (λe=>hjk e.symm),if_pos rfl]
    ·rw[if_neg hm,if_neg hm];exact UB r h m
  ·exact UB r h m
section
variable {G:Gh} {w w':World} {t:ST} {s:AS} {o:Oper} {a:Act} {K:V->ST->Prop} {M:Prop->Prop->Prop} {gd:Prop}
theorem run_checkKey{t:Nat}(h:(tI t).k=5)(e:Bool)(k:Int):(Instr.checkKey e 10000 t (.int .i64 k)).run Tryz.prog w = .ok () w:=by
 obtain⟨q,hq⟩:=Rq h;rw[show(10000:Nat)=9999+1 from rfl,Instr.checkKey];simp[run_underlying hq]
theorem ahx{t:Nat}(h:(tI t).ok=true):∃ z,(zeroValue t).run Tryz.prog w = .ok z w/\aO G s.s.get w (zeroV t) z:=by
 obtain⟨i,z,hi,hr⟩:=Gi (G:=G) (t:=s.s) (w:=w) h;refine⟨z,by simp[zeroValue,typeInfo,hi.h,hi.zero],?_⟩;unfold zeroV;split
 ·rename_i ha
  obtain⟨cs,rfl⟩:=hi.agg.2 ha;exact⟨cs,rfl,hi.BC,λk x hx=>hr k x hx⟩
 ·rename_i ha
  have hz:z.cells=#[z]:=by
   cases z
   case agg cs=>have:=hi.agg.1 ⟨cs,rfl⟩;rw[ha]at this;cases this
   case tuple vs=>exact au rfl (hi.fV vs)
   all_goals rfl
  exact(hr 0 z (by rw[hz];rfl)).2
theorem agi{ty:Nat}(hg:bV G t w)(ho:o.op = .makeMap ty none)(hk:K (.mp t.nx) (t.new (.map []))):eu o a G t w K:=by
 have hch:uT G t (t.new (.map [])) w (w.alloc (.map #[] 0)) t.nx (.blk w.heap.size) (.map []):=QL hg ((Below.refl _ _).alloc (bu _) _) (λb h=>by injection h with h;omega);unfold eu Oper.wp Oper.upon;have hrun:(execOp a.eval o).run Tryz.prog w = .ok (.value (.map (some w.heap.size))) (w.alloc (.map #[] 0)):=by
  unfold execOp;rw[ho];rfl
 rw[hrun];exact⟨_,.mp t.nx,_,_,rfl,hk,hch.QX hg ⟨w.heap.size,#[],0,rfl,heap_alloc_new w _,by simp,λk=>rfl⟩,hch.dS,w.heap.size,if_pos rfl,rfl⟩
theorem amI{es:List (Int×V)}{jd:Array MapEntry}{cl mt:Nat}{k:Int}{v:V}{u:Value}(h4:(tI mt).k=4)(h5:(tI (tI mt).len).k=5){b:Nat}(hb:w.heap[b]?=some (.map jd cl))(hm:tK G t.get w jd.toList es)(hv:aO G t.get w v u) :
  ∃ JE cl',(Instr.mapUpdate mt (.map (some b)) (.int .i64 k) u).run Tryz.prog w = .ok () { w with heap:=w.heap.setIfInBounds b (.map JE cl') }/\tK G t.get w JE.toList ((k,v)::es):=by
 obtain⟨q,hq⟩:=Rq h5;have cZ:(Instr.keyThatStays (.int .i64 k) (.int .i64 k)).run Tryz.prog w = .ok (.int .i64 k) w:=by
  simp[Instr.keyThatStays,Instr.sameBits]
 have hget:∀ m,dU ((k,v)::es) m=if k=m then some v else dU es m:=λm=>by
  show(bif decide (k=m) then some v else dU es m)=_;by_cases e:k=m <;> simp[e]
 rcases UA (q:=q) (k:=k) jd.toList 0 hm.1 with ⟨u0,h1,j,h2,⟨e,h3,h3'⟩,hj⟩|⟨h1,h2⟩
 ·have he:jd[j]?=some e:=by simpa using h3
  have hf:(Instr.findKey (tI mt).len (.int .i64 k) jd.toList).run Tryz.prog w = .ok (some (j,u0)) w:=by
   simp[Instr.findKey,run_underlying hq,h2]
  refine⟨jd.modify j λe=>{ e with key:=.int .i64 k,val:=u },cl,?_,?_,λm=>?_⟩
  ·simp[Instr.mapUpdate,run_underlying (SE h4),MapKept.run_getObj_map hb,run_checkKey h5,hf,he,h3',cZ,MapKept.run_setObj_map _ hb,Result.andThen]
  ·intro e' he';simp only[Array.toList_modify]at he';obtain⟨n,hn,hne⟩:=List.getElem_of_mem he';rw[List.getElem_modify]at hne;split at hne
   ·exact⟨k,by rw[<-hne]⟩
   ·exact hm.1 e' (by rw[<-hne];exact List.getElem_mem _)
  ·rw[hget,Array.toList_modify,ZC jd.toList j hm.1 ⟨e,h3,h3'⟩ hj];by_cases e1:k=m
   ·rw[if_pos e1,if_pos e1];exact⟨u,rfl,hv⟩
   ·rw[if_neg e1,if_neg e1];exact hm.2 m
 ·have hf:(Instr.findKey (tI mt).len (.int .i64 k) jd.toList).run Tryz.prog w = .ok none w:=by
   simp[Instr.findKey,run_underlying hq,h2]
  refine⟨jd.push { key:=.int .i64 k,val:=u,born:=cl },cl+1,?_,?_,λm=>?_⟩
  ·simp[Instr.mapUpdate,run_underlying (SE h4),MapKept.run_getObj_map hb,run_checkKey h5,hf,MapKept.run_setObj_map _ hb,Result.andThen]
  ·intro e' he';simp only[Array.toList_push,List.mem_append,List.mem_singleton]at he';rcases he' with he'|rfl
   ·exact hm.1 e' he'
   ·exact⟨k,rfl⟩
  ·rw[hget,Array.toList_push,UB jd.toList h1];by_cases e1:k=m
   ·rw[if_pos e1,if_pos e1];exact⟨u,rfl,hv⟩
   ·rw[if_neg e1,if_neg e1];exact hm.2 m
theorem Z5{mt:Nat}{m x y:Operand}{vm vx vy:V}(hg:bV G t w)(ho:o.op = .insert mt m x y\/o.op = .mapUpdate mt m x y)(h1:aO G t.get w vm (a.eval m))(h2:aO G t.get w vx (a.eval x))(h3:aO G t.get w vy (a.eval y))(h:IU mt vm vx vy t λt'=>K .top t'):eu o a G t w K:=by
 unfold IU at h;split at h;rotate_left
 ·exact h.elim
 rename_i i k h4 h5
 split at h;rotate_left
 ·exact h.elim
 rename_i es hob
 rw[force_eq]at h;obtain⟨b,jd,cl,e1,e2,e3⟩:=hg.aK.map _ _ hob;obtain⟨b',q1,q2⟩:=h1;rw[e1]at q1;obtain rfl:b=b':=by injection q1 with q1;injection q1
 have h2:a.eval x = .int .i64 k:=h2;obtain⟨JE,cl',r1,r2⟩:=amI (k:=k) h4 h5 e2 e3 h3;have hlt:=(Array.getElem?_eq_some_iff.1 e2).1;have hch:uT G t (t.set i (.map ((k,vy)::es))) w { w with heap:=w.heap.setIfInBounds b (.map JE cl') } i (.blk b) (.map ((k,vy)::es)):=by
  refine⟨qG t i _,⟨bu _,?_⟩,rfl,rfl,rfl,by simp,λc hc hn=>?_,λc hc=>?_,λc hc=>?_,λA c hc=>?_⟩
  ·refine Nat.lt_of_not_le λhle=>?_
   have:=(hg.jK i hle).2;rw[hob]at this;cases this
  ·have hne:b≠c:=λe=>hn (by unfold dA;rw[hob];exact e▸e1)
   simp[Array.getElem?_setIfInBounds_ne hne]
  ·have hc:Loc.blk b=Loc.blk c:=hc;injection hc with hc
   subst hc;exact .inl (by unfold dA;rw[hob];exact e1)
  ·rw[e1]at hc;exact fG hc
  ·rw[e1]at hc;cases hc
 have hs:=hch.dS;have hgood:=hch.aK hg ⟨b,JE,cl',rfl,by simp[hlt],r2.to λm=>by
  cases dU ((k,vy)::es) m
  ·trivial
  ·exact λu hu=>hu.dS hs hg.aK⟩ λn hn=>(hg.jK n hn).1
 unfold eu Oper.wp Oper.upon;have hrun:(execOp a.eval o).run Tryz.prog w = .ok .skip { w with heap:=w.heap.setIfInBounds b (.map JE cl') }:=by
  unfold execOp;rcases ho with ho|ho <;> rw[ho] <;> simp only[q2,h2,Sem.run_bind,r1,Result.andThen_ok,Sem.run_pure]
 rw[hrun];exact⟨undef,.top,_,_,rfl,h,hgood,hs,trivial⟩
def TN(ok:Bool)(zu:Value)(fo:Option Value):Value:=match ok with|true=>.tuple #[fo.getD zu,.bool fo.isSome]|false=>fo.getD zu
theorem abR {z : V} {zu : Value} {k : Int} {ok : Bool} {P : V -> Prop} {fo : Option Value} (hz : aO G s.s.get w z zu) : ∀ (es : List (Int × V)), (match dU es k with | some v => ∃ u, fo = some u /\ aO G s.s.get w v u | none => fo = none) -> Jz z k ok P es -> ∃ R, P R /\ aO G s.s.get w R (TN ok zu fo)
  | [], h, hk => by
    have h : fo = none := h;subst h;refine ⟨_, hk, ?_⟩;cases ok
    · exact hz
    · exact ⟨_, rfl, rfl, λi x hx => by
        match i, hx with
        | 0, hx => obtain rfl : zu = x := by simpa using hx
                   exact hz
        | 1, hx => obtain rfl : Value.bool false = x := by simpa using hx
                   rfl
        | i + 2, hx => simp at hx⟩
  | (j, v) :: r, h, hk => by
    have hk : ai (decide (j = k)) (P (okV ok v true)) (Jz z k ok P r) := hk;by_cases e : j = k
    · have h : match (bif decide (j = k) then some v else dU r k) with | some v => ∃ u, fo = some u /\ aO G s.s.get w v u | none => fo = none := h
      rw [bg e, dR] at h;obtain ⟨u, rfl, hv⟩ := h;refine ⟨_, hk.h.1 (bg e), ?_⟩;cases ok
      · exact hv
      · exact ⟨_, rfl, rfl, λi x hx => by
          match i, hx with
          | 0, hx => obtain rfl : u = x := by simpa using hx
                     exact hv
          | 1, hx => obtain rfl : Value.bool true = x := by simpa using hx
                     rfl
          | i + 2, hx => simp at hx⟩
    · refine abR hz r ?_ (hk.h.2 (aX e));have h : match (bif decide (j = k) then some v else dU r k) with | some v => ∃ u, fo = some u /\ aO G s.s.get w v u | none => fo = none := h
      rw [aX e, di] at h;exact h
attribute [local irreducible] tI in
theorem agb{mt:Nat}{vm vx:V}{um ux:Value}{ok:Bool}{P:V->Prop}(hM:∀ p q,M p q->q/\(gd->p))(hgd:gd)(hg:Good G s.s.get w)(h1:aO G s.s.get w vm um)(h2:aO G s.s.get w vx ux)(h:LP M mt vm vx ok s.s P):∃ r R,(Instr.lookup mt um ux ok).run Tryz.prog w = .ok r w/\P R/\aO G s.s.get w R r:=by
 unfold LP at h;split at h;rotate_left
 ·exact h.elim
 rename_i i k h4 h5 hok
 split at h;rotate_left
 ·exact h.elim
 rename_i es hob
 obtain⟨b,jd,cl,e1,e2,e3⟩:=hg.map _ _ hob;obtain⟨b',q1,q2⟩:=h1;rw[e1]at q1;obtain rfl:b=b':=by injection q1 with q1;injection q1
 have h2:ux = .int .i64 k:=h2;subst q2 h2;obtain⟨q,hq⟩:=Rq h5;obtain⟨zu,hz1,hz2⟩:=ahx (G:=G) (s:=s) (w:=w) hok;have hrun:(Instr.lookup mt (.map (some b)) (.int .i64 k) ok).run Tryz.prog w = .ok (TN ok zu (sN jd.toList k)) w:=by
  rcases UA (q:=q) (k:=k) jd.toList 0 e3.1 with ⟨u0,p1,j,p2,_⟩|⟨p1,p2⟩
  ·have hf:(Instr.findKey (tI mt).len (.int .i64 k) jd.toList).run Tryz.prog w = .ok (some (0+j,u0)) w:=by
    simp only[Instr.findKey,run_underlying hq,p2,Sem.run_bind,Result.andThen_ok,Sem.run_pure]
   cases ok <;> simp[TN,Instr.lookup,run_underlying (SE h4),MapKept.run_getObj_map e2,run_checkKey h5,hf,p1,Result.andThen]
  ·have hf:(Instr.findKey (tI mt).len (.int .i64 k) jd.toList).run Tryz.prog w = .ok none w:=by
    simp only[Instr.findKey,run_underlying hq,p2,Sem.run_bind,Result.andThen_ok,Sem.run_pure]
   cases ok <;> simp[TN,Instr.lookup,run_underlying (SE h4),MapKept.run_getObj_map e2,run_checkKey h5,hf,p1,hz1,Result.andThen]
 have hget:=e3.2 k;split at h
 ·rename_i _ hz0 hk0
  obtain⟨hP,hint⟩:=hM _ _ h;refine⟨_,_,hrun,hP,?_⟩;have hint:=hint hgd;rcases hm:dU es k with _|v <;> rw[hm]at hget hint
  ·have hget:sN jd.toList k=none:=hget;rw[hget];have:zeroV (tI mt).elem = .i 0:=by
    unfold zeroV iE uh.agg;rw[hk0,hz0];rfl
   rw[this]at hz2;exact hz2
  ·obtain⟨u,p1,p2⟩:=hget;rw[p1];obtain⟨n,rfl⟩:=hint v rfl;exact p2
 ·obtain⟨R,p1,p2⟩:=abR (fo:=sN jd.toList k) hz2 es hget h;exact⟨_,R,hrun,p1,p2⟩
end
end
end Go.Proofs.YtnibdnahojjcgaaGreat
