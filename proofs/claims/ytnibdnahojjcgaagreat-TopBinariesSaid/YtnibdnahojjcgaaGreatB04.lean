/- A part of the proof. -/
import Derived.Maps.AppendAt
import Derived.Test.YtnibdnahojjcgaaGreatProg
import Derived.Test.YtnibdnahojjcgaaGreatB01
namespace Go.Proofs.YtnibdnahojjcgaaGreat
set_option maxRecDepth 100000
set_option maxHeartbeats 16000000
set_option linter.unusedVariables false
set_option linter.unusedSimpArgs false
open Go.RowKit
section
def Ob(w:World)(base:Nat)(E:TypeId)(A:Option Addr)(n c:Nat)(l:List UInt8):Prop:=l.length=n/\w.ownsRow base E 1 (.slice A n c) n (l.map bv)
theorem agS(l:List UInt8):∀ u∈l.map bv,u.oneCell'=true:=by
 intro u hu;obtain⟨b,_,rfl⟩:=List.mem_map.1 hu;rfl
theorem Ob.bs{w:World}{base n c:Nat}{E:TypeId}{A:Option Addr}{l:List UInt8}(h:Ob w base E A n c l):Bs w w.heap.size A l:=by
 intro hl;obtain⟨hn,hlen,hv⟩:=h;rcases hv with ⟨hv,h0⟩|⟨g,cap,cur,hv,hb,hg,hnc,hcm,hsz,htake⟩
 ·omega
 ·injection hv with hA _ hc
  refine⟨g,0,hA,(Array.getElem?_eq_some_iff.1 hg).1,λi hi=>?_⟩;rw[jm,cell_of_row w g i cur E (0,0) hg];have h2:(cur.toList.take (n*1))[i]?=(l.map bv)[i]?:=by rw[htake]
  rw[oh,if_pos qO]at h2;simp[hi,bv]at h2 ⊢;exact h2
theorem Ob.len{w:World}{base n c:Nat}{E:TypeId}{A:Option Addr}{l:List UInt8}(h:Ob w base E A n c l):l.length=n:=h.1
theorem avf{w:World}{base n c:Nat}{E:TypeId}{A:Option Addr}{l:List UInt8}(h:Ob w base E A n c l):n<=c/\c<=maxLen:=by
 obtain⟨hn,hlen,hv⟩:=h;rcases hv with ⟨hv,h0⟩|⟨g,cap,cur,hv,hb,hg,hnc,hcm,hsz,htake⟩
 ·injection hv with _ _ hc
  subst hc;omega
 ·injection hv with _ _ hc
  subst hc;exact⟨hnc,hcm⟩
theorem atf(w:World)(base:Nat)(E:TypeId):Ob w base E none 0 0 []:=⟨rfl,World.ownsRow_nil w base E 1⟩
theorem aun{w:World}{base:Nat}{E:TypeId}(hb:base<=w.heap.size):Ob (w.alloc (.cells #[] E)) base E (some ⟨w.heap.size,0,none⟩) 0 0 []:=
 ⟨rfl,World.ownsRow_made w #[] 0 hb (cu _) rfl⟩
theorem Ob.kept{w w':World}{base n c:Nat}{E:TypeId}{A:Option Addr}{l:List UInt8}{row:Option Nat}(h:Ob w base E A n c l)(hg:w.grownBy w' row)(hne:∀ a,A=some a->row≠some a.block):Ob w' base E A n c l:=by
 refine⟨h.1,h.2.kept hg ?_⟩;cases A with
 |none=>exact .inl rfl
 |some a=>exact .inr (λe=>hne a rfl (by rw[<-e];rfl))
theorem Ob.alloc{w:World}{base n c:Nat}{E:TypeId}{A:Option Addr}{l:List UInt8}(h:Ob w base E A n c l)(o:Obj):Ob (w.alloc o) base E A n c l:=⟨h.1,h.2.alloc o⟩
theorem Ob.mono{w:World}{base base' n c:Nat}{E:TypeId}{A:Option Addr}{l:List UInt8}(h:Ob w base E A n c l)(hb:base'<=base):Ob w base' E A n c l:=by
 refine⟨h.1,h.2.1,?_⟩;rcases h.2.2 with h'|⟨g,cap,cur,hv,hg,r⟩
 ·exact .inl h'
 ·exact .inr ⟨g,cap,cur,hv,jV hb hg,r⟩
theorem Ob.step{w w':World}{base n c:Nat}{E:TypeId}{A:Option Addr}{l:List UInt8}(h:Ob w base E A n c l)(hb:Below w.heap.size w w'):Ob w' base E A n c l:=by
 refine h.kept (row:=none) ⟨hb.os,hb.tape,hb.output,hb.size,λk hk _=>hb.block k hk⟩ (by simp)
theorem Ob.at_{w:World}{base n c:Nat}{E:TypeId}{A:Option Addr}{l:List UInt8}(h:Ob w base E A n c l)(hn:0<n) :
  ∃ g,A=some ⟨g,0,none⟩/\base<=g/\g<w.heap.size:=by
 rcases h.2.2 with ⟨_,h0⟩|⟨g,cap,cur,hv,hb,hg,_⟩
 ·omega
 ·injection hv with hA
  exact⟨g,hA,hb,(Array.getElem?_eq_some_iff.1 hg).1⟩
theorem Ob.cell{w:World}{base n c g:Nat}{E:TypeId}{l:List UInt8}(h:Ob w base E (some ⟨g,0,none⟩) n c l)(i:Nat)(hi:i<l.length):w.cell? ⟨g,i,none⟩=some (.int .u8 ((l[i]'hi).toNat:Int)):=by
 rw[h.2.cellAt i (by have:=h.1;omega)];simp[hi,bv]
theorem Ob.free{w:World}{base n c g:Nat}{E:TypeId}{l:List UInt8}(h:Ob w base E (some ⟨g,0,none⟩) n c l)(i:Nat):w.frozen? ⟨g,i,none⟩=false:=h.2.frozenAt i
theorem Ob.set{w:World}{base n c g:Nat}{E:TypeId}{l:List UInt8}(h:Ob w base E (some ⟨g,0,none⟩) n c l)(i:Nat)(b:UInt8):Ob (w.setCell ⟨g,i,none⟩ (.int .u8 (b.toNat:Int))) base E (some ⟨g,0,none⟩) n c (l.set i b):=by
 refine⟨by rw[oK];exact h.1,?_⟩;rw[List.map_set];exact(h.2.stored i (bv b)).1
theorem Ob.ov{w:World}{base n c:Nat}{E:TypeId}{A:Option Addr}{l:List UInt8}(h:Ob w base E A n c l):Ov w base E 1 A n c (l.map bv):=h.2
section
variable {P:Program} {w:World}
theorem afX(t ty E:TypeId)(i:TypeInfo)(ht:P.underlying t=some (.slice E))(hi:P.info? E=some i)(hz:i.zero=some (.int .u8 0))(hsize:i.size=1)(hby:i.bytes=1)
  {base n c:Nat} {A:Option Addr} {l:List UInt8} (hown:Ob w base E A n c l) {B m c2:Nat} {A2:Option Addr} {l2:List UInt8} (hm:l2.length=m) (hr:Bs w B A2 l2)
  (hbytes:n+m<=140737488355328) (hbase:base<=w.heap.size) :
  ∃ A' c' w',(Builtin.append_ #[t,t] ty #[.slice A n c,.slice A2 m c2]).run P w = .ok (.slice A' (n+m) c') w'/\Ob w' base E A' (n+m) c' (l++l2)/\w.grownBy w' (Value.slice A n c).ownBlock /\
   (A'=A\/A'=some ⟨w.heap.size,0,none⟩):=by
 have shape:∀(v':Value) (w':World),w'.ownsRow base E 1 v' (n+m) ((l++l2).map bv)->(v'.ownBlock=(Value.slice A n c).ownBlock\/v'.ownBlock=some w.heap.size) ->
   ∃ A' c',v' = .slice A' (n+m) c'/\(A'=A\/A'=some ⟨w.heap.size,0,none⟩):=by
  intro v' w' ho hb;rcases ho.2 with ⟨rfl,h0⟩|⟨g,cap,cur,rfl,hrest⟩
  ·refine⟨none,0,by rw[h0],?_⟩;cases A with
   |none=>exact .inl rfl
   |some a=>simp[Value.ownBlock]at hb
  ·refine⟨_,_,rfl,?_⟩;rcases hb with hb|hb
   ·cases A with
    |none=>simp[Value.ownBlock]at hb
    |some a=>
     rcases hown.2.2 with ⟨h1,_⟩|⟨g2,_,_,h1,_⟩
     ·simp at h1
     ·injection h1 with h1
      injection h1 with h1
      subst h1;simp[Value.ownBlock]at hb;subst hb;exact .inl rfl
   ·simp[Value.ownBlock]at hb;subst hb;exact .inr rfl
 rcases A2 with _|ad
 ·obtain rfl:l2=[]:=by
   rcases uz l2.length with h0|h0
   ·exact uw h0
   ·obtain⟨b,off,he,_⟩:=hr h0;cases he
  obtain rfl:m=0:=hm.symm;refine⟨A,c,w,?_,by simpa using hown,World.grownBy.refl w _,.inl rfl⟩;rcases hown.2.2 with ⟨hv,_⟩|⟨g,cap,cur,hv,_,_,hnc,_⟩
  ·rw[hv];simp at hv;simp[Builtin.append_,run_underlying ht,sizeOf,typeInfo,hi,Builtin.lenOf,Builtin.firstCells,hv]
  ·simp at hv;obtain⟨rfl,rfl⟩:=hv;simp[Builtin.append_,run_underlying ht,sizeOf,typeInfo,hi,Builtin.lenOf,Builtin.firstCells,hnc,storeCells]
 ·have hcells:∀ j u,(l2.map bv)[j]?=some u->w.cell? (ad.add j)=some u:=by
   intro j u hu;have hj:j<l2.length:=by have:=(List.getElem?_eq_some_iff.1 hu).1;simpa using this
   obtain⟨b,off,he,_,hc⟩:=hr qO;injection he with he
   subst he;rw[Addr.add_lit,hc j hj,<-hu];simp[hj,bv]
  obtain⟨v',w',hrun,h2,h3,_,h5⟩:=run_append_own_at (P:=P) w base t ty E i (.int .u8 0) 1 1 ht hi hz hsize hby rfl qO _ n (l.map bv) hown.2 ad m c2 (l2.map bv) (by simpa using hm) hcells (agS l2) (by unfold maxLen;omega) qO hbase;rw[<-List.map_append]at h2;obtain⟨A',c',rfl,hA'⟩:=shape v' w' h2 h5;exact⟨A',c',w',hrun,⟨by rw[bW,hown.1,hm],h2⟩,h3,hA'⟩
theorem af0{o:Oper}{a:Act}{K:Act->World->Prop}{Q:Exit->Act->World->Prop}(s x:Operand)(t:TypeId)
  (ho:o.op = .call { callee:=.builtin .append,args:=#[s,x],argTypes:=#[t,t] })
  (E:TypeId) (i:TypeInfo) (ht:P.underlying t=some (.slice E)) (hi:P.info? E=some i) (hz:i.zero=some (.int .u8 0)) (hsize:i.size=1) (hby:i.bytes=1)
  {base n c:Nat} {A:Option Addr} {l:List UInt8} (hs:a.eval s = .slice A n c) (hown:Ob w base E A n c l) {B m c2:Nat} {A2:Option Addr} {l2:List UInt8} (hx:a.eval x = .slice A2 m c2) (hm:l2.length=m) (hr:Bs w B A2 l2)
  (hbytes:n+m<=140737488355328) (hbase:base<=w.heap.size)
  (h:∀ A' c' w',Ob w' base E A' (n+m) c' (l++l2)->w.grownBy w' (Value.slice A n c).ownBlock->(A'=A\/A'=some ⟨w.heap.size,0,none⟩)->K (a.put o.dst (.slice A' (n+m) c')) w'):o.wp P a w K Q:=by
 obtain⟨A',c',w',hrun,h2,h3,h4⟩:=afX (P:=P) t o.type E i ht hi hz hsize hby hown hm hr hbytes hbase;unfold Oper.wp;simp[execOp,ho,resolve,invoke,builtin,hs,hx,Result.andThen];rw[hrun];exact h A' c' w' h2 h3 h4
theorem afS{ops:Array Oper}{rest:List Oper}{o:Oper}{a:Act}{Q:Exit->Act->World->Prop}(hgd:o.guard=none)(s x:Operand)(t:TypeId)
  (ho:o.op = .call { callee:=.builtin .append,args:=#[s,x],argTypes:=#[t,t] })
  (E:TypeId) (i:TypeInfo) (ht:P.underlying t=some (.slice E)) (hi:P.info? E=some i) (hz:i.zero=some (.int .u8 0)) (hsize:i.size=1) (hby:i.bytes=1)
  {base n c:Nat} {A:Option Addr} {l:List UInt8} (hs:a.eval s = .slice A n c) (hown:Ob w base E A n c l) {B m c2:Nat} {A2:Option Addr} {l2:List UInt8} (hx:a.eval x = .slice A2 m c2) (hm:l2.length=m) (hr:Bs w B A2 l2)
  (hbytes:n+m<=140737488355328) (hbase:base<=w.heap.size)
  (h:∀ A' c' w',Ob w' base E A' (n+m) c' (l++l2)->w.grownBy w' (Value.slice A n c).ownBlock->(A'=A\/A'=some ⟨w.heap.size,0,none⟩)->wpList P ops Q rest (a.put o.dst (.slice A' (n+m) c')) w'):wpList P ops Q (o::rest) a w:=
 wpList_plain hgd λ_ hK=>af0 s x t ho E i ht hi hz hsize hby hs hown hx hm hr hbytes hbase λA' c' w' h2 h3 h4=>hK _ _ (h A' c' w' h2 h3 h4)
end
end
theorem abZ:(Tryz.prog.info? 5).map (λi=>(i.zero,i.size,i.bytes))=some (some (.int .u8 0),1,1):=by kernel_rfl
abbrev Own(w:World)(base:Nat)(A:Option Addr)(n c:Nat)(l:List UInt8):Prop:=Ob w base 5 A n c l
theorem app{w:World}{ops:Array Oper}{rest:List Oper}{o:Oper}{a:Act}{Q:Exit->Act->World->Prop}(hgd:o.guard=none)(s x:Operand)
  (ho:o.op = .call { callee:=.builtin .append,args:=#[s,x],argTypes:=#[48,48] })
  {base n c:Nat} {A:Option Addr} {l:List UInt8} (hs:a.eval s = .slice A n c) (hown:Own w base A n c l) {B m c2:Nat} {A2:Option Addr} {l2:List UInt8} (hx:a.eval x = .slice A2 m c2) (hm:l2.length=m) (hr:Bs w B A2 l2)
  (hbytes:n+m<=140737488355328) (hbase:base<=w.heap.size)
  (h:∀ A' c' w',Own w' base A' (n+m) c' (l++l2)->w.grownBy w' (Value.slice A n c).ownBlock->(A'=A\/A'=some ⟨w.heap.size,0,none⟩)->wpList Tryz.prog ops Q rest (a.put o.dst (.slice A' (n+m) c')) w'):wpList Tryz.prog ops Q (o::rest) a w:=by
 obtain⟨i,hi,hz,hsz,hby⟩:=info_parts abZ;exact afS hgd s x _ ho 5 i Tryz.underlying48 hi hz hsz hby hs hown hx hm hr hbytes hbase h
theorem mk{w:World}{ops:Array Oper}{rest:List Oper}{o:Oper}{a:Act}{Q:Exit->Act->World->Prop}(hgd:o.guard=none)(x y:Operand)
  (ho:o.op=Op.makeSlice 48 x y) (kl kc:IntKind) (L C:Int) (n:Nat) (hx:a.eval x = .int kl L) (hy:a.eval y = .int kc C) (hL:L=(n:Int)) (hC:C=(n:Int)) {base:Nat} (hn:n<=140737488355328) (hb:base<=w.heap.size)
  (h:∀ w',Own w' base (some ⟨w.heap.size,0,none⟩) n n (List.replicate n 0)->w.grownBy w' none->wpList Tryz.prog ops Q rest (a.put o.dst (.slice (some ⟨w.heap.size,0,none⟩) n n)) w'):wpList Tryz.prog ops Q (o::rest) a w:=by
 obtain⟨i,hi,hz,hsz,hby⟩:=info_parts abZ;refine wpList_make_full w hgd x y _ ho base 5 i (.int .u8 0) 1 Tryz.underlying48 hi hz hsz kl kc L C n hx hy hL hC (by rw[hby];omega) (by unfold maxLen;omega) hb (λw' ho' lU=>h w' ⟨by simp,?_⟩ lU);have e:(madeCells (Value.int .u8 0).cells (n*1)).toList=(List.replicate n (0:UInt8)).map bv:=by
  refine List.ext_getElem? λj=>?_
  by_cases hj:j<n
  ·simp[madeCells,bv,hj,Value.cells,Nat.mod_one]
  ·simp[madeCells,hj]
 rw[<-e];exact ho'
theorem mk0{w:World}{ops:Array Oper}{rest:List Oper}{o:Oper}{a:Act}{Q:Exit->Act->World->Prop}(hgd:o.guard=none)(x y:Operand)
  (ho:o.op=Op.makeSlice 48 x y) (kl kc:IntKind) (C:Int) (n:Nat) (hx:a.eval x = .int kl 0) (hy:a.eval y = .int kc C) (hC:C=(n:Int)) {base:Nat} (hn:n<=140737488355328) (hb:base<=w.heap.size)
  (h:∀ w',Own w' base (some ⟨w.heap.size,0,none⟩) 0 n []->w.grownBy w' none->wpList Tryz.prog ops Q rest (a.put o.dst (.slice (some ⟨w.heap.size,0,none⟩) 0 n)) w'):wpList Tryz.prog ops Q (o::rest) a w:=by
 obtain⟨i,hi,hz,hsz,hby⟩:=info_parts abZ;exact wpList_make_own w hgd x y _ ho base 5 i (.int .u8 0) 1 Tryz.underlying48 hi hz hsz kl kc C n hx hy hC (by rw[hby];omega) (by unfold maxLen;omega) hb (λw' ho' lU=>h w' ⟨rfl,ho'⟩ lU)
theorem Own.grown{w0 w w':World}{A:Option Addr}{n c:Nat}{l:List UInt8}(h:Own w w0.heap.size A n c l)(hb:Below w0.heap.size w0 w)(hg:w.grownBy w' (Value.slice A n c).ownBlock):Below w0.heap.size w0 w':=
 hb.grown hg hb.size (λk hk=>(h.2.lt k hk).1)
structure Touch (w w':World) (g:Nat) (q:Option Nat):Prop where
 os:w'.os=w.os
 tape:w'.tape=w.tape
 output:w'.output=w.output
 size:w.heap.size<=w'.heap.size
 block:∀ k,k<w.heap.size->k≠g->some k≠q->w'.heap[k]?=w.heap[k]?
theorem Touch.set{w w':World}{g:Nat}{q:Option Nat}(h:Touch w w' g q)(i:Nat)(u:Value):Touch w (w'.setCell ⟨g,i,none⟩ u) g q:=
 ⟨h.os,h.tape,h.output,by simp;exact h.size,λk hk h1 h2=>(Below.heap_setCell w' ⟨g,i,none⟩ u k h1).trans (h.block k hk h1 h2)⟩
theorem Own.row{w:World}{base n c:Nat}{A:Option Addr}{l:List UInt8}(h:Own w base A n c l):∀ k,(Value.slice A n c).ownBlock=some k->base<=k/\k<w.heap.size/\∃ cs,w.heap[k]?=some (.cells cs 5 (0,0)):=h.ov.row
end Go.Proofs.YtnibdnahojjcgaaGreat
