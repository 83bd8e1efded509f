/- A part of the proof. -/
import Derived.Deep.Draws
import Derived.Laws.IdiomStrings
import Derived.Lib.Hide
import Derived.Maps.AppendAt
import Derived.Test.YtnibdnahojjcgaaGreatProg
import Derived.WalkKit
import Derived.WalkLawsBesides
namespace Go.Proofs.YtnibdnahojjcgaaGreat
theorem gz.{u, v} {α:Sort u} {β:Sort v} {a₁ a₂:α} (f:α->β) (h:a₁=a₂):f a₁=f a₂:=congrArg f h
theorem au{a b:Prop} (h:a) (k:¬a):b:=absurd h k
theorem aU.{u} {α:Sort u} {p:α->Prop} (w:α) (h:p w):Exists p:=Exists.intro w h
theorem aX{p:Prop} [Decidable p]:¬p->decide p=false:=decide_eq_false
theorem bg{p:Prop} [inst:Decidable p]:p->decide p=true:=decide_eq_true
theorem bC.{u_1} {α:Type u_1} {l:List α} {i:Nat} {a:α}:l.getD i a=l[i]?.getD a:=List.getD_eq_getElem?_getD
theorem bu(n:Nat):n <= n:=Nat.le_refl n
theorem bW.{u} {α:Type u} {a1 b1:List α}:(a1 ++ b1).length=a1.length + b1.length:=List.length_append
theorem cu(n:Nat):0 <= n:=Nat.zero_le n
theorem di.{u_1} {α:Sort u_1} (a b:α):(bif false then a else b)=b:=cond_false a b
theorem dP.{u_1} {α:Type u_1} {i:Nat} {l:List α}:(List.take i l).length=min i l.length:=List.length_take
theorem dR.{u_1} {α:Sort u_1} (a b:α):(bif true then a else b)=a:=cond_true a b
theorem dW.{u_1} {α:Type u_1} {l:List α} {i:Nat} (h:i < l.length):l[i]?=some l[i]:=List.getElem?_eq_getElem h
theorem ed{a b:Prop} (left:a) (right:b):a/\b:=And.intro left right
theorem eF(a:Int):a <= a:=Int.le_refl a
theorem fE.{u_1} {α:Type u_1} {i:Nat} {l:List α}:(List.drop i l).length=l.length - i:=List.length_drop
theorem fG.{u} {α:Type u} {val valq:α}:some val=some valq->val=valq:=Option.some.inj
theorem fC{p:Prop} [Decidable p]:(decide p=true)=p:=decide_eq_true_eq
theorem fQ{p:Prop} {xq:Decidable p}:decide p=false↔¬p:=decide_eq_false_iff_not
theorem jb{p:Prop} [inst:Decidable p]:decide p=true->p:=of_decide_eq_true
theorem je.{u_1} {α:Type u_1} (y:α) {a:α} {l:List α}:a ∈ l->a ∈ y :: l:=List.mem_cons_of_mem y
theorem jm(n:Nat):0 + n=n:=Nat.zero_add n
theorem jC.{u_1} {α:Type u_1} {a:α} {l:List α}:a ∈ a :: l:=List.mem_cons_self
theorem jD(n:Nat):(n:Int).toNat=n:=Int.toNat_natCast n
theorem jV{n m k:Nat}:n <= m->m <= k->n <= k:=Nat.le_trans
theorem kE.{u} {α:Type u} (a1 b1 c1:List α):a1 ++ b1 ++ c1=a1 ++ (b1 ++ c1):=List.append_assoc a1 b1 c1
theorem ny.{u} {α:Type u} {a:α} {a1:List α}:(a :: a1).length=a1.length + 1:=List.length_cons
theorem lW.{u_1} {α:Type u_1} {i:Nat} {l:List α} (h:l.length <= i):List.take i l=l:=List.take_of_length_le h
theorem lJ.{u_1, u_2} {α:Type u_1} {β:Type u_2} {a1:List α} (f:α->β):(List.map f a1).length=a1.length:=List.length_map f
theorem mP(n m:Nat):n < m \/ n >= m:=Nat.lt_or_ge n m
theorem mr(b:Bool):((!b)=true)=(b=false):=Bool.not_eq_true' b
theorem mO.{u_1} {α:Type u_1} {l₁ l₂:List α} {i:Nat} (hn:i < l₁.length):(l₁ ++ l₂)[i]?=l₁[i]?:=List.getElem?_append_left hn
theorem nO(b:Bool):((!b)=false)=(b=true):=Bool.not_eq_false' b
theorem oJ.{u_1} {α:Type u_1} {l:List α}:List.take l.length l=l:=List.take_length
theorem oW.{u_1} {α:Type u_1} {l₁ l₂:List α} {i:Nat}:l₁.length <= i->(l₁ ++ l₂)[i]?=l₂[i - l₁.length]?:=List.getElem?_append_right
theorem oh.{u_1} {α:Type u_1} {l:List α} {i j:Nat}:(List.take i l)[j]?=if j < i then l[j]? else none:=List.getElem?_take
theorem oK.{u} {α:Type u} {a1:List α} {i:Nat} {a:α}:(a1.set i a).length=a1.length:=List.length_set
theorem oZ{p:Prop} [inst:Decidable p]:decide p=false->¬p:=of_decide_eq_false
theorem pF.{u_1, u_2} {α:Type u_1} {β:Type u_2} (a:α) (f:α->β):Option.map f (some a)=some (f a):=Option.map_some a f
theorem pG.{u} {α:Type u} (a1:List α):a1 ++ []=a1:=List.append_nil a1
theorem qc(a b:Bool):((a && b)=true)=(a=true/\b=true):=Bool.and_eq_true a b
theorem qE.{u} {α:Type u} {xs:Array α} {i:Nat}:xs.toList[i]?=xs[i]?:=Array.getElem?_toList
theorem qX.{u_1} {α:Type u_1} {xs:Array α}:xs.toList.length=xs.size:=Array.length_toList
theorem qY.{u_1, u_2} {α:Type u_1} {β:Type u_2} {f:α->β} {l:List α} {i:Nat}:(List.map f l)[i]?=Option.map f l[i]?:=List.getElem?_map
theorem qZ(n:Nat):¬n < 0:=Nat.not_lt_zero n
theorem sD.{u_1} {α:Type u_1} {xs:List α} {i j:Nat}:(List.drop i xs)[j]?=xs[i + j]?:=List.getElem?_drop
theorem sZ.{u} {α:Type u} {a1:List α} {i:Nat} (h:a1.length <= i):List.drop i a1=[]:=List.drop_eq_nil_of_le h
theorem su{n m k:Nat}:n < m->m <= k->n < k:=Nat.lt_of_lt_of_le
theorem uw.{u_1} {αq:Type u_1} {l:List αq}:l.length=0->l=[]:=List.eq_nil_of_length_eq_zero
theorem uy.{u_1} {α:Type u_1} {xs:Array α} {i:Nat} {d:α}:xs.getD i d=xs[i]?.getD d:=Array.getD_eq_getD_getElem?
theorem uz(n:Nat):n=0 \/ n > 0:=Nat.eq_zero_or_pos n
theorem uU.{u_1} {α:Type u_1} {xs:Array α} {i:Nat} (h:i < xs.size):xs[i]?=some xs[i]:=Array.getElem?_eq_getElem h
theorem uV{n m:Nat} (k:Nat) (h:n <= m):n * k <= m * k:=Nat.mul_le_mul_right k h
theorem uX.{u_1} {α:Type u_1} {l:List α} {i:Nat} {a:α} (e:l[i]?=some a):a ∈ l:=List.mem_of_getElem? e
theorem yE{b:Bool}:b=false↔b ≠ true:=Bool.eq_false_iff
theorem zF.{u_1} {α:Type u_1} {p:α->Bool} {l:List α}:l.all p=true↔∀ (x:α), x ∈ l->p x=true:=List.all_eq_true
theorem zG.{u_1} {α:Sort u_1} (b:Bool) (t e:α):(bif b then t else e)=if b=true then t else e:=Bool.cond_eq_ite b t e
theorem CJ{n m:Nat} (h:n.ble m=true):n <= m:=Nat.le_of_ble_eq_true h
set_option maxRecDepth 100000
set_option maxHeartbeats 16000000
set_option linter.unusedVariables false
set_option linter.unusedSimpArgs false
open Go.RowKit
theorem qO{p:Prop}(h:p:=by omega):p:=h
theorem qD{p:Prop}(h:p:=by decide):p:=h
theorem qK{p:Prop}(h:p:=by kernel_rfl):p:=h
inductive D where
 |v (x:Value)
 |sl (n s:Nat) (g:Nat->Nat->D)
inductive V where
 |top
 |d (x:D)
 |dE
 |dp (s:Nat) (g:Nat->D)
 |ptr (i off:Nat)
 |rp (i n j c:Nat)
 |row (i n:Nat)
 |vw (i n lo m:Nat)
 |agg (n:Nat) (g:Nat->V)
 |fV (n:Nat) (g:Nat->V)
 |fn (f nf n:Nat) (g:Nat->V)
 |mp (i:Nat)
 |ku (t want:Bool) (x:V)
inductive aG where
 |dead
 |blk (n:Nat) (g:Nat->V)
 |row (E s n:Nat) (g:Nat->Nat->V)
 |map (es:List (Int×V))
abbrev V.int(k:IntKind)(n:Int):V:=.d (.v (.int k n))
abbrev V.i(n:Int):V:=.d (.v (.int .i64 n))
abbrev V.b(t:Bool):V:=.d (.v (.bool t))
abbrev V.str(s:ByteArray):V:=.d (.v (.string s))
structure uh where
 size:Nat
 bytes:Nat
 k:Nat
 elem:Nat
 len:Nat
 zero:List V
 DY:List (Nat×Nat)
def lZ:uh:=⟨0,0,9,0,0,[],[]⟩
def uh.ok(i:uh):Bool:=!(Nat.beq i.k 9)
def uh.agg(i:uh):Bool:=Nat.beq i.k 1||Nat.beq i.k 2
def x9:List Value->List V->Bool
 |[],[]=>true
 |.slice none 0 0::a,.dE::b=>x9 a b
 |.int k 0::a,.d (.v (.int k' 0))::b=>k == k'&&x9 a b
 |.bool false::a,.d (.v (.bool false))::b=>x9 a b
 |.string s::a,.d (.v (.string s'))::b=>s.data.toList.isEmpty&&s'.data.toList.isEmpty&&x9 a b
 |.pointer none::a,.d (.v (.pointer none))::b=>x9 a b
 |.map none::a,.d (.v (.map none))::b=>x9 a b
 |.nilFunc::a,.d (.v .nilFunc)::b=>x9 a b
 |.nilIface::a,.d (.v .nilIface)::b=>x9 a b
 |_,_=>false
def vT(d:TypeDesc)(i:uh):Bool:=
 match d with
 |.struct fs=>i.k == 1&&fs.toList.map (λf=>(f.offset,f.type)) == i.DY
 |.array n e=>i.k == 2&&n == i.len&&e == i.elem
 |.slice e=>i.k == 3&&e == i.elem
 |.map k e=>i.k == 4&&k == i.len&&e == i.elem
 |.int q=>i.k == 5&&(match i.zero with|[.d (.v (.int k _))]=>k == q|_=>false)
 |.string=>i.k == 6
 |.bool=>i.k == 7
 |.pointer _=>i.k == 8
 |.func _ _ _=>i.k == 10
 |_=>i.k == 0
def RV(i:uh)(j:TypeInfo):Bool:=
 j.size == i.size&&j.bytes == i.bytes&&(match j.zero with|some z=>x9 z.cells.toList i.zero&&z.cells.size == i.size&&(match z with|.agg _=>i.k == 1||i.k == 2|.tuple _=>false|_=>!(i.k == 1||i.k == 2))|none=>false)
structure DL (t:Nat) (i:uh):Prop where
 arM:(Tryz.prog.info? t).map (RV i)=some true
 desc:∃ d,Tryz.prog.underlying t=some d/\vT d i=true
theorem DL.of{t:Nat}{i:uh}{d:TypeDesc}(h:(Tryz.prog.info? t).map (RV i)=some true)(hu:Tryz.prog.underlying t=some d)(hd:vT d i=true):DL t i:=⟨h,d,hu,hd⟩
section
def Bs(w:World)(B:Nat)(A:Option Addr)(l:List UInt8):Prop:=
 0<l.length->∃ b off,A=some ⟨b,off,none⟩/\b<B/\∀ i,i<l.length->w.cell? ⟨b,off+i,none⟩=some (.int .u8 ((l.getD i 0).toNat:Int))
theorem Bs.nil{w:World}{B:Nat}{A:Option Addr}:Bs w B A []:=λh=>au h (by simp)
theorem Bs.keep{w w':World}{B:Nat}{A:Option Addr}{l:List UInt8}(h:Bs w B A l)(hk:∀ p:Addr,p.block<B->w'.cell? p=w.cell? p):Bs w' B A l:=
 λhl=>by
  obtain⟨b,off,rfl,hb,hc⟩:=h hl;exact⟨b,off,rfl,hb,λi hi=>(hk _ hb).trans (hc i hi)⟩
theorem Bs.more{w:World}{B B':Nat}{A:Option Addr}{l:List UInt8}(h:Bs w B A l)(hB:B<=B'):Bs w B' A l:=
 λhl=>by
  obtain⟨b,off,rfl,hb,hc⟩:=h hl;exact⟨b,off,rfl,by omega,hc⟩
theorem Bs.below{w w':World}{B:Nat}{A:Option Addr}{l:List UInt8}(h:Bs w B A l)(hb:Below B w w'):Bs w' B A l:=h.keep λ_ hp=>hb.cell hp
theorem Bs.take{w:World}{B:Nat}{A:Option Addr}{l:List UInt8}(h:Bs w B A l)(n:Nat):Bs w B A (l.take n):=λhl=>by
 obtain⟨b,off,rfl,hb,hc⟩:=h (by simp at hl;omega);refine⟨b,off,rfl,hb,λi hi=>?_⟩;have hi':i<n/\i<l.length:=by simp at hi;omega
 rw[hc i hi'.2];simp[hi'.1]
theorem Bs.drop{w:World}{B b off:Nat}{l:List UInt8}(h:Bs w B (some ⟨b,off,none⟩) l)(n:Nat):Bs w B (some ⟨b,off+n,none⟩) (l.drop n):=λhl=>by
 have hl':n<l.length:=by simp at hl;omega
 obtain⟨b',off',he,hb,hc⟩:=h qO;injection he with he
 injection he with h1 h2
 subst h1 h2;refine⟨b,off+n,rfl,hb,λi hi=>?_⟩;have hi':n+i<l.length:=by simp at hi;omega
 rw[Nat.add_assoc,hc (n+i) hi'];simp
theorem Bs.drewN{w:World}{B:Nat}{A:Option Addr}{l:List UInt8}(h:Bs w B A l)(k:Nat):Bs (w.drewN k) B A l:=h.keep λ_ _=>rfl
theorem below_drewN{B:Nat}{a w:World}(h:Below B a w)(k:Nat):Below B a (w.drewN k):=⟨h.os,h.tape,h.output,h.size,h.block⟩
def bv(b:UInt8):Value:=.int .u8 (b.toNat:Int)
theorem Bs.new{w:World}{C:Array Value}{t:TypeId}{fr:Nat×Nat}{l:List UInt8}{B:Nat}(hB:w.heap.size<B)(h:C.toList.take l.length=l.map bv):Bs (w.alloc (.cells C t fr)) B (some ⟨w.heap.size,0,none⟩) l:=
 λ_=>⟨w.heap.size,0,rfl,hB,λi hi=>by
  rw[World.cell?_alloc_mark,jm];have h2:(C.toList.take l.length)[i]?=(l.map bv)[i]?:=by rw[h]
  rw[oh,if_pos hi]at h2;simp[hi,bv]at h2 ⊢;exact h2⟩
def oI(w:World)(g:Nat)(t:TypeId)(cs:Array Value):Prop:=w.heap[g]?=some (.cells cs t (0,0))
section
variable {w w':World} {g:Nat} {t:TypeId} {cs:Array Value}
theorem oI.cell(h:oI w g t cs)(i:Nat):w.cell? ⟨g,i,none⟩=cs[i]?:=cell_of_row w g i cs t (0,0) h
theorem oI.free(h:oI w g t cs)(i:Nat):w.frozen? ⟨g,i,none⟩=false:=by unfold oI at h;simp[World.frozen?,h]
theorem oI.lt(h:oI w g t cs):g<w.heap.size:=(Array.getElem?_eq_some_iff.1 h).1
theorem oI.new(w:World)(t:TypeId)(cs:Array Value):oI (w.alloc (.cells cs t)) w.heap.size t cs:=heap_alloc_new w _
theorem oI.set(h:oI w g t cs)(i:Nat)(u:Value):oI (w.setCell ⟨g,i,none⟩ u) g t (cs.setIfInBounds i u):=by
 unfold oI at h ⊢;simp[World.setCell,Array.getElem?_modify,h]
theorem oI.alloc(h:oI w g t cs)(o:Obj):oI (w.alloc o) g t cs:=(Below.heap_alloc w o g h.lt).trans h
end
end
abbrev iZ:V:=.d (.v (.int .i64 0))
abbrev tS(e:Nat):uh:=⟨1,24,3,e,0,[.dE],[]⟩
abbrev tP:uh:=⟨1,8,8,0,0,[.d (.v (.pointer none))],[]⟩
def tI(t:Nat):uh:=
  bif Nat.ble t 138 then (bif Nat.ble t 58 then (bif Nat.ble t 33 then (bif Nat.ble t 9 then (bif Nat.ble t 3 then (bif Nat.beq t 2 then ⟨1,8,5,0,0,[iZ],[]⟩ else bif Nat.beq t 3 then ⟨1,8,5,0,0,[iZ],[]⟩ else lZ)
      else (bif Nat.beq t 4 then ⟨1,1,7,0,0,[.d (.v (.bool false))],[]⟩ else bif Nat.beq t 5 then ⟨1,1,5,0,0,[.d (.v (.int .u8 0))],[]⟩ else bif Nat.beq t 9 then ⟨1,16,6,0,0,[.d (.v (.string ⟨#[]⟩))],[]⟩ else lZ))
     else (bif Nat.ble t 28 then (bif Nat.beq t 22 then tS 35 else bif Nat.beq t 24 then tP else bif Nat.beq t 28 then tS 50 else lZ)
      else (bif Nat.beq t 29 then ⟨1,8,5,0,0,[iZ],[]⟩ else bif Nat.beq t 31 then tS 3 else bif Nat.beq t 33 then ⟨8,88,1,0,0,[iZ,iZ,iZ,iZ,iZ,iZ,.dE,.d (.v (.string ⟨#[]⟩))],[(0,3),(1,3),(2,3),(3,3),(4,3),(5,3),(6,31),(7,9)]⟩ else lZ)))
    else (bif Nat.ble t 41 then (bif Nat.ble t 37 then (bif Nat.beq t 35 then ⟨11,112,1,0,0,[iZ,iZ,iZ,iZ,iZ,iZ,iZ,iZ,iZ,.dE,.d (.v (.string ⟨#[]⟩))],[(0,3),(1,3),(2,3),(3,33)]⟩ else bif Nat.beq t 37 then tS 54 else lZ)
      else (bif Nat.beq t 38 then tS 97 else bif Nat.beq t 39 then tS 71 else bif Nat.beq t 41 then ⟨7,104,1,0,0,[iZ,iZ,iZ,iZ,.dE,.dE,.dE],[(0,3),(1,3),(2,3),(3,3),(4,37),(5,38),(6,39)]⟩ else lZ))
     else (bif Nat.ble t 50 then (bif Nat.beq t 43 then tS 52 else bif Nat.beq t 48 then tS 5 else bif Nat.beq t 50 then ⟨2,32,1,0,0,[iZ,.dE],[(0,3),(1,48)]⟩ else lZ)
      else (bif Nat.beq t 52 then ⟨2,16,1,0,0,[iZ,iZ],[(0,29),(1,3)]⟩ else bif Nat.beq t 54 then ⟨4,32,1,0,0,[iZ,iZ,iZ,iZ],[(0,3),(1,3),(2,52)]⟩ else bif Nat.beq t 58 then ⟨16,192,1,0,0,[.d (.v (.bool false)),iZ,iZ,iZ,iZ,iZ,iZ,iZ,.dE,iZ,iZ,iZ,iZ,.dE,.dE,.dE],[(0,4),(1,3),(2,3),(3,3),(4,3),(5,3),(6,3),(7,3),(8,28),(9,41)]⟩ else lZ))))
   else (bif Nat.ble t 85 then (bif Nat.ble t 72 then (bif Nat.ble t 66 then (bif Nat.beq t 64 then tS 33 else bif Nat.beq t 66 then tS 69 else lZ)
      else (bif Nat.beq t 69 then ⟨16,152,1,0,0,[iZ,iZ,iZ,iZ,iZ,iZ,iZ,iZ,iZ,iZ,iZ,.dE,.d (.v (.string ⟨#[]⟩)),.d (.v (.bool false)),iZ,iZ],[(0,3),(1,3),(2,3),(3,3),(4,3),(5,33),(13,4),(14,52)]⟩ else bif Nat.beq t 71 then ⟨5,64,1,0,0,[iZ,iZ,.dE,.d (.v (.bool false)),.d (.v (.string ⟨#[]⟩))],[(0,3),(1,3),(2,31),(3,4),(4,9)]⟩ else bif Nat.beq t 72 then tS 76 else lZ))
     else (bif Nat.ble t 76 then (bif Nat.beq t 73 then tP else bif Nat.beq t 75 then ⟨4,64,1,0,0,[.dE,.d (.v (.pointer none)),.dE,iZ],[(0,72),(1,73),(2,66),(3,3)]⟩ else bif Nat.beq t 76 then tP else lZ)
      else (bif Nat.beq t 78 then tS 126 else bif Nat.beq t 81 then ⟨1,8,10,0,0,[.d (.v .nilFunc)],[]⟩ else bif Nat.beq t 85 then ⟨1,8,4,81,3,[.d (.v (.map none))],[]⟩ else lZ)))
    else (bif Nat.ble t 111 then (bif Nat.ble t 97 then (bif Nat.beq t 86 then ⟨1,8,10,0,0,[.d (.v .nilFunc)],[]⟩ else bif Nat.beq t 90 then tS 163 else bif Nat.beq t 97 then ⟨2,16,1,0,0,[iZ,iZ],[(0,3),(1,3)]⟩ else lZ)
      else (bif Nat.beq t 108 then tP else bif Nat.beq t 110 then ⟨4,48,1,0,0,[iZ,iZ,iZ,.dE],[(0,3),(1,3),(2,3),(3,28)]⟩ else bif Nat.beq t 111 then tS 4 else lZ))
     else (bif Nat.ble t 117 then (bif Nat.beq t 113 then ⟨4,96,1,0,0,[.dE,.dE,.dE,.dE],[(0,111),(1,31),(2,31),(3,31)]⟩ else bif Nat.beq t 115 then ⟨20,304,1,0,0,[iZ,iZ,iZ,iZ,.dE,iZ,iZ,iZ,iZ,iZ,iZ,iZ,.dE,.dE,.dE,.dE,.dE,.dE,.dE,.dE],[(0,3),(1,110),(5,3),(6,3),(7,3),(8,41),(15,43),(16,113)]⟩ else bif Nat.beq t 117 then ⟨23,328,1,0,0,[iZ,iZ,.d (.v (.pointer none)),iZ,iZ,iZ,iZ,.dE,iZ,iZ,iZ,iZ,iZ,iZ,iZ,.dE,.dE,.dE,.dE,.dE,.dE,.dE,.dE],[(0,3),(1,3),(2,108),(3,115)]⟩ else lZ)
      else (bif Nat.beq t 118 then tS 138 else bif Nat.beq t 126 then ⟨10,96,1,0,0,[iZ,iZ,iZ,iZ,iZ,iZ,iZ,iZ,.d (.v (.bool false)),.dE],[(0,3),(1,3),(2,3),(3,3),(4,3),(5,3),(6,3),(7,3),(8,4),(9,28)]⟩ else bif Nat.beq t 138 then ⟨4,48,1,0,0,[iZ,iZ,iZ,.dE],[(0,3),(1,3),(2,3),(3,48)]⟩ else lZ)))))
  else (bif Nat.ble t 244 then (bif Nat.ble t 174 then (bif Nat.ble t 146 then (bif Nat.ble t 141 then (bif Nat.beq t 139 then ⟨1,8,10,0,0,[.d (.v .nilFunc)],[]⟩ else bif Nat.beq t 141 then tS 48 else lZ)
      else (bif Nat.beq t 143 then ⟨0,0,1,0,0,[],[]⟩ else bif Nat.beq t 144 then ⟨0,0,1,0,0,[],[]⟩ else bif Nat.beq t 146 then ⟨1,8,1,0,0,[iZ],[(0,143),(0,144),(0,2)]⟩ else lZ))
     else (bif Nat.ble t 160 then (bif Nat.beq t 148 then ⟨4,48,1,0,0,[.dE,iZ,iZ,iZ],[(0,141),(1,146),(2,146),(3,146)]⟩ else bif Nat.beq t 159 then ⟨1,8,10,0,0,[.d (.v .nilFunc)],[]⟩ else bif Nat.beq t 160 then ⟨7,56,2,3,7,[iZ,iZ,iZ,iZ,iZ,iZ,iZ],[]⟩ else lZ)
      else (bif Nat.beq t 161 then ⟨1,8,5,0,0,[.d (.v (.int .u64 0))],[]⟩ else bif Nat.beq t 163 then ⟨4,48,1,0,0,[iZ,iZ,.d (.v (.int .u64 0)),.dE],[(0,3),(1,3),(2,161),(3,48)]⟩ else bif Nat.beq t 174 then ⟨5,48,1,0,0,[.dE,iZ,.d (.v (.bool false)),.d (.v (.bool false)),iZ],[(0,48),(1,3),(2,4),(3,4),(4,3)]⟩ else lZ)))
    else (bif Nat.ble t 214 then (bif Nat.ble t 194 then (bif Nat.beq t 180 then ⟨5,40,1,0,0,[iZ,iZ,iZ,iZ,iZ],[(0,3),(1,3),(2,3),(3,3),(4,3)]⟩ else bif Nat.beq t 194 then ⟨1,8,4,139,3,[.d (.v (.map none))],[]⟩ else lZ)
      else (bif Nat.beq t 198 then tP else bif Nat.beq t 210 then tS 214 else bif Nat.beq t 214 then ⟨5,32,1,0,0,[iZ,iZ,iZ,.d (.v (.bool false)),.d (.v (.bool false))],[(0,3),(1,3),(2,3),(3,4),(4,4)]⟩ else lZ))
     else (bif Nat.ble t 239 then (bif Nat.beq t 233 then ⟨1,8,5,0,0,[.d (.v (.int .u64 0))],[]⟩ else bif Nat.beq t 234 then ⟨1,4,5,0,0,[.d (.v (.int .u32 0))],[]⟩ else bif Nat.beq t 239 then ⟨1,8,10,0,0,[.d (.v .nilFunc)],[]⟩ else lZ)
      else (bif Nat.beq t 241 then ⟨6,48,1,0,0,[iZ,iZ,.d (.v (.bool false)),iZ,iZ,.d (.v .nilFunc)],[(0,3),(1,3),(2,4),(3,3),(4,3),(5,239)]⟩ else bif Nat.beq t 242 then ⟨1,8,4,241,3,[.d (.v (.map none))],[]⟩ else bif Nat.beq t 244 then tP else lZ))))
   else (bif Nat.ble t 319 then (bif Nat.ble t 290 then (bif Nat.ble t 267 then (bif Nat.beq t 249 then ⟨1,8,10,0,0,[.d (.v .nilFunc)],[]⟩ else bif Nat.beq t 267 then ⟨1,8,4,3,3,[.d (.v (.map none))],[]⟩ else lZ)
      else (bif Nat.beq t 271 then ⟨2,16,1,0,0,[iZ,iZ],[(0,3),(1,3)]⟩ else bif Nat.beq t 272 then ⟨1,8,4,271,3,[.d (.v (.map none))],[]⟩ else bif Nat.beq t 290 then ⟨5,40,2,3,5,[iZ,iZ,iZ,iZ,iZ],[]⟩ else lZ))
     else (bif Nat.ble t 303 then (bif Nat.beq t 299 then ⟨10,104,1,0,0,[iZ,iZ,iZ,iZ,iZ,iZ,.dE,.d (.v (.string ⟨#[]⟩)),.d (.v (.bool false)),iZ],[(0,33),(8,4),(9,29)]⟩ else bif Nat.beq t 302 then ⟨1,8,4,210,3,[.d (.v (.map none))],[]⟩ else bif Nat.beq t 303 then ⟨2,8,2,234,2,[.d (.v (.int .u32 0)),.d (.v (.int .u32 0))],[]⟩ else lZ)
      else (bif Nat.beq t 309 then ⟨1,8,10,0,0,[.d (.v .nilFunc)],[]⟩ else bif Nat.beq t 317 then ⟨1,8,10,0,0,[.d (.v .nilFunc)],[]⟩ else bif Nat.beq t 319 then ⟨1,8,10,0,0,[.d (.v .nilFunc)],[]⟩ else lZ)))
    else (bif Nat.ble t 331 then (bif Nat.ble t 323 then (bif Nat.beq t 321 then ⟨1,8,10,0,0,[.d (.v .nilFunc)],[]⟩ else bif Nat.beq t 322 then ⟨1,8,10,0,0,[.d (.v .nilFunc)],[]⟩ else bif Nat.beq t 323 then ⟨1,8,10,0,0,[.d (.v .nilFunc)],[]⟩ else lZ)
      else (bif Nat.beq t 324 then ⟨1,8,10,0,0,[.d (.v .nilFunc)],[]⟩ else bif Nat.beq t 329 then tP else bif Nat.beq t 331 then ⟨1,8,4,323,3,[.d (.v (.map none))],[]⟩ else lZ))
     else (bif Nat.ble t 344 then (bif Nat.beq t 333 then ⟨1,8,5,0,0,[iZ],[]⟩ else bif Nat.beq t 342 then ⟨1,8,10,0,0,[.d (.v .nilFunc)],[]⟩ else bif Nat.beq t 344 then ⟨1,8,10,0,0,[.d (.v .nilFunc)],[]⟩ else lZ)
      else (bif Nat.beq t 352 then ⟨65,520,2,3,65,(List.replicate 65 (iZ)),[]⟩ else bif Nat.beq t 354 then ⟨1,8,5,0,0,[.d (.v (.int .u64 0))],[]⟩ else bif Nat.beq t 358 then tP else lZ)))))
theorem nbf{t a:Nat}(h:t≠a):Nat.beq t a=false:=by
 rcases hb:Nat.beq t a with _|_
 ·rfl
 ·exact au (Nat.eq_of_beq_eq_true hb) h
theorem tz{n:Nat}{d:TypeDesc}(hu:Tryz.prog.underlying n=some d)(h1:(Tryz.prog.info? n).map (RV (tI n))=some true:=by kernel_rfl)(h2:vT d (tI n)=true:=by kernel_rfl):DL n (tI n):=DL.of (d:=d) h1 hu h2
theorem dL{t n:Nat}(hy:DL n (tI n))(k:Nat.beq t n=false->(tI t).ok=false\/DL t (tI t)):(tI t).ok=false\/DL t (tI t):=by
 by_cases h:t=n
 ·subst h;exact .inr hy
 ·exact k (nbf h)
theorem apC(t:Nat):(tI t).ok=false\/DL t (tI t):=by
 refine dL (tz Tryz.underlying2) λ_=>?_
 refine dL (tz Tryz.underlying3) λ_=>?_
 refine dL (tz Tryz.underlying4) λ_=>?_
 refine dL (tz Tryz.underlying5) λ_=>?_
 refine dL (tz Tryz.underlying9) λ_=>?_
 refine dL (tz Tryz.underlying22) λ_=>?_
 refine dL (tz Tryz.underlying24) λ_=>?_
 refine dL (tz Tryz.underlying28) λ_=>?_
 refine dL (tz Tryz.underlying29) λ_=>?_
 refine dL (tz Tryz.underlying31) λ_=>?_
 refine dL (tz Tryz.underlying33) λ_=>?_
 refine dL (tz Tryz.underlying35) λ_=>?_
 refine dL (tz Tryz.underlying37) λ_=>?_
 refine dL (tz Tryz.underlying38) λ_=>?_
 refine dL (tz Tryz.underlying39) λ_=>?_
 refine dL (tz Tryz.underlying41) λ_=>?_
 refine dL (tz Tryz.underlying43) λ_=>?_
 refine dL (tz Tryz.underlying48) λ_=>?_
 refine dL (tz Tryz.underlying50) λ_=>?_
 refine dL (tz Tryz.underlying52) λ_=>?_
 refine dL (tz Tryz.underlying54) λ_=>?_
 refine dL (tz Tryz.underlying58) λ_=>?_
 refine dL (tz Tryz.underlying64) λ_=>?_
 refine dL (tz Tryz.underlying66) λ_=>?_
 refine dL (tz Tryz.underlying69) λ_=>?_
 refine dL (tz Tryz.underlying71) λ_=>?_
 refine dL (tz Tryz.underlying72) λ_=>?_
 refine dL (tz Tryz.underlying73) λ_=>?_
 refine dL (tz Tryz.underlying75) λ_=>?_
 refine dL (tz Tryz.underlying76) λ_=>?_
 refine dL (tz Tryz.underlying78) λ_=>?_
 refine dL (tz Tryz.underlying81) λ_=>?_
 refine dL (tz Tryz.underlying85) λ_=>?_
 refine dL (tz Tryz.underlying86) λ_=>?_
 refine dL (tz Tryz.underlying90) λ_=>?_
 refine dL (tz Tryz.underlying97) λ_=>?_
 refine dL (tz Tryz.underlying108) λ_=>?_
 refine dL (tz Tryz.underlying110) λ_=>?_
 refine dL (tz Tryz.underlying111) λ_=>?_
 refine dL (tz Tryz.underlying113) λ_=>?_
 refine dL (tz Tryz.underlying115) λ_=>?_
 refine dL (tz Tryz.underlying117) λ_=>?_
 refine dL (tz Tryz.underlying118) λ_=>?_
 refine dL (tz Tryz.underlying126) λ_=>?_
 refine dL (tz Tryz.underlying138) λ_=>?_
 refine dL (tz Tryz.underlying139) λ_=>?_
 refine dL (tz Tryz.underlying141) λ_=>?_
 refine dL (tz Tryz.underlying143) λ_=>?_
 refine dL (tz Tryz.underlying144) λ_=>?_
 refine dL (tz Tryz.underlying146) λ_=>?_
 refine dL (tz Tryz.underlying148) λ_=>?_
 refine dL (tz Tryz.underlying159) λ_=>?_
 refine dL (tz Tryz.underlying160) λ_=>?_
 refine dL (tz Tryz.underlying161) λ_=>?_
 refine dL (tz Tryz.underlying163) λ_=>?_
 refine dL (tz Tryz.underlying174) λ_=>?_
 refine dL (tz Tryz.underlying180) λ_=>?_
 refine dL (tz Tryz.underlying194) λ_=>?_
 refine dL (tz Tryz.underlying198) λ_=>?_
 refine dL (tz Tryz.underlying210) λ_=>?_
 refine dL (tz Tryz.underlying214) λ_=>?_
 refine dL (tz Tryz.underlying233) λ_=>?_
 refine dL (tz Tryz.underlying234) λ_=>?_
 refine dL (tz Tryz.underlying239) λ_=>?_
 refine dL (tz Tryz.underlying241) λ_=>?_
 refine dL (tz Tryz.underlying242) λ_=>?_
 refine dL (tz Tryz.underlying244) λ_=>?_
 refine dL (tz Tryz.underlying249) λ_=>?_
 refine dL (tz Tryz.underlying267) λ_=>?_
 refine dL (tz Tryz.underlying271) λ_=>?_
 refine dL (tz Tryz.underlying272) λ_=>?_
 refine dL (tz Tryz.underlying290) λ_=>?_
 refine dL (tz Tryz.underlying299) λ_=>?_
 refine dL (tz Tryz.underlying302) λ_=>?_
 refine dL (tz Tryz.underlying303) λ_=>?_
 refine dL (tz Tryz.underlying309) λ_=>?_
 refine dL (tz Tryz.underlying317) λ_=>?_
 refine dL (tz Tryz.underlying319) λ_=>?_
 refine dL (tz Tryz.underlying321) λ_=>?_
 refine dL (tz Tryz.underlying322) λ_=>?_
 refine dL (tz Tryz.underlying323) λ_=>?_
 refine dL (tz Tryz.underlying324) λ_=>?_
 refine dL (tz Tryz.underlying329) λ_=>?_
 refine dL (tz Tryz.underlying331) λ_=>?_
 refine dL (tz Tryz.underlying333) λ_=>?_
 refine dL (tz Tryz.underlying342) λ_=>?_
 refine dL (tz Tryz.underlying344) λ_=>?_
 refine dL (tz Tryz.underlying352) λ_=>?_
 refine dL (tz Tryz.underlying354) λ_=>?_
 refine dL (tz Tryz.underlying358) λ_=>?_
 left;simp only [tI, di, Bool.cond_self, *];rfl
theorem XN(t:Nat)(h:(tI t).ok=true):DL t (tI t):=(apC t).resolve_left (by rw[h];decide)
def iU(l:List UInt8):ByteArray:=⟨l.toArray⟩
theorem af8(bs:ByteArray)(k:Nat):∀(i:Nat) (r:List UInt8),bs.size-i=k->ByteArray.toList.loop bs i r=r.reverse++bs.data.toList.drop i:=by
 induction k with
 |zero=>
  intro i r h;unfold ByteArray.toList.loop;have hsz:bs.data.toList.length=bs.size:=rfl;rw[if_neg qO,List.drop_of_length_le qO,pG]
 |succ k ih=>
  intro i r h;have hsz:bs.data.toList.length=bs.size:=rfl;unfold ByteArray.toList.loop;rw[if_pos qO,ih (i+1) _ qO,List.reverse_cons,kE];congr 1;have hi:i<bs.data.toList.length:=qO;rw[List.drop_eq_getElem_cons hi];show [bs.get! i]++_=_;rw[List.singleton_append];congr 1;simp[ByteArray.get!,hsz▸hi]
theorem OW(l:List UInt8):(iU l).toList=l:=by
 unfold iU ByteArray.toList;rw[af8 _ _ 0 [] rfl];simp
theorem str_eq(a b:List UInt8):((iU a).toList == (iU b).toList)=(a == b):=by rw[OW,OW]
theorem OV{P:Program}(src dst e:TypeId)(hs:P.underlying src=some (.slice e))(he:P.underlying e=some (.int .u8))(hd:P.underlying dst=some .string)
  {w:World} {B n c:Nat} {A:Option Addr} {l:List UInt8} (hn:l.length=n) (hA:Bs w B A l):(convert src dst (.slice A n c)).run P w = .ok (.string (iU l)) w:=by
 subst hn;rcases uz l.length with h0|h0
 ·obtain rfl:=uw h0;cases A with
  |none=>
   rw[run_convert_bytes_string w src dst e _ _ _ hs he hd];rfl
  |some a=>exact run_convert_bytes_back w src dst e a c [] hs he hd (λj hj=>au hj (by simp))
 ·obtain⟨b,off,rfl,_,hc⟩:=hA h0;refine run_convert_bytes_back w src dst e ⟨b,off,none⟩ c l hs he hd (λj hj=>?_);rw[Addr.add_lit,hc j hj];simp[List.getD,hj]
def dG:List (Nat×V)->Nat->V
 |[],_=>.top
 |(k,v)::r,j=>bif Nat.beq k j then v else dG r j
def dM:List (Nat×aG)->Nat->aG
 |[],_=>.dead
 |(k,v)::r,j=>bif Nat.beq k j then v else dM r j
structure ST where
 st:List (Nat×aG)
 nx:Nat
def ST.get(s:ST)(i:Nat):aG:=dM s.st i
def NI:List (Nat×aG)->Nat->aG->List (Nat×aG)
 |[],i,o=>[(i,o)]
 |(j,x)::r,i,o=>bif Nat.beq j i then (j,o)::r else (j,x)::NI r i o
def ST.set(s:ST)(i:Nat)(o:aG):ST:=⟨NI s.st i o,s.nx⟩
def ST.new(s:ST)(o:aG):ST:=⟨(s.nx,o)::s.st,s.nx+1⟩
structure AS where
 nt:Nat
 sl:List (Nat×V)
 s:ST
def Zr:Value->V
 |.slice none 0 0=>.dE
 |x=>.d (.v x)
def AS.ev(s:AS):Operand->V
 |.tmp t=>dG s.sl t
 |.const x=>Zr x
 |.global _=>.top
 |.func f=>.fn f 0 0 (λ_=>.top)
def AS.put(s:AS)(d:Option Nat)(v:V)(t:ST):AS:=match d with|some k=>⟨s.nt,(k,v)::s.sl,t⟩|none=>⟨s.nt,s.sl,t⟩
def AS.fits(s:AS):Option Nat->Bool
 |some k=>Nat.blt k s.nt
 |none=>true
def oN(n:Nat)(K:Nat->Prop):Prop:=match n with
 |0=>K 0
 |1=>K 1
 |2=>K 2
 |3=>K 3
 |4=>K 4
 |5=>K 5
 |6=>K 6
 |7=>K 7
 |8=>K 8
 |9=>K 9
 |10=>K 10
 |11=>K 11
 |12=>K 12
 |13=>K 13
 |14=>K 14
 |15=>K 15
 |16=>K 16
 |17=>K 17
 |18=>K 18
 |19=>K 19
 |20=>K 20
 |21=>K 21
 |22=>K 22
 |23=>K 23
 |n=>K n
theorem uA(n:Nat)(K:Nat->Prop):oN n K=K n:=by
 unfold oN;split <;> rfl
def force(v:V)(K:V->Prop):Prop:=
 match v with
 |.top=>K .top|.dE=>K .dE|.dp s g=>K (.dp s g)|.ptr i o=>oN i λi=>K (.ptr i o)|.rp i n j c=>oN i λi=>K (.rp i n j c)|.row i n=>oN i λi=>K (.row i n)
 |.vw i n lo m=>oN i λi=>K (.vw i n lo m)|.agg n g=>K (.agg n g)|.fV n g=>K (.fV n g)|.fn f nf n g=>K (.fn f nf n g)|.mp i=>oN i λi=>K (.mp i)|.ku t w x=>K (.ku t w x)
 |.d x=>(match x with|.v y=>K (.d (.v y))|.sl n s g=>K (.d (.sl n s g)))
theorem force_eq(v:V)(K:V->Prop):force v K=K v:=by
 cases v
 case d x=>cases x <;> rfl
 case ptr i o=>exact uA i λi=>K (.ptr i o)
 case rp i n j c=>exact uA i λi=>K (.rp i n j c)
 case row i n=>exact uA i λi=>K (.row i n)
 case vw i n lo m=>exact uA i λi=>K (.vw i n lo m)
 case mp i=>exact uA i λi=>K (.mp i)
 all_goals rfl
def adz(o:aG)(K:aG->Prop):Prop:=match o with|.dead=>K .dead|.blk n g=>K (.blk n g)|.row E s n g=>K (.row E s n g)|.map es=>K (.map es)
theorem agZ(o:aG)(K:aG->Prop):adz o K=K o:=by cases o <;> rfl
def I7:List (Nat×aG)->(List (Nat×aG)->Prop)->Prop
 |[],K=>K []
 |(i,o)::r,K=>oN i λi=>adz o λo=>I7 r λr=>K ((i,o)::r)
theorem Uz:∀(l:List (Nat×aG)) (K:List (Nat×aG)->Prop),I7 l K=K l
 |[],_=>rfl
 |(i,o)::r,K=>by unfold I7;rw[uA,agZ,Uz r]
def GG(t:ST)(K:ST->Prop):Prop:=match t with|⟨l,n⟩=>oN n λn=>I7 l λl=>K ⟨l,n⟩
theorem Pq(t:ST)(K:ST->Prop):GG t K=K t:=by
 obtain⟨l,n⟩:=t;exact(uA n λn=>I7 l λl=>K ⟨l,n⟩).trans (Uz l λl=>K ⟨l,n⟩)
def MF:List (Nat×V)->(List (Nat×V)->Prop)->Prop
 |[],K=>K []
 |p::r,K=>MF r λr=>K (p::r)
theorem PM:∀(l:List (Nat×V)) (K:List (Nat×V)->Prop),MF l K=K l
 |[],_=>rfl
 |p::r,K=>PM r _
def JK(s:AS)(d:Option Nat)(v:V)(t:ST)(K:AS->Prop):Prop:=
 force v λv=>GG t λt=>match s with
  |⟨nt,sl,_⟩=>match d with
   |some k=>K ⟨nt,(k,v)::sl,t⟩
   |none=>K ⟨nt,sl,t⟩
theorem ac3(s:AS)(d:Option Nat)(v:V)(t:ST)(K:AS->Prop):JK s d v t K=K (s.put d v t):=by
 unfold JK;rw[force_eq,Pq];cases d <;> rfl
@[irreducible] def ag (p k:Prop):Prop:=p/\k
@[irreducible] def ai (t:Bool) (a b:Prop):Prop:=(t=true->a)/\(t=false->b)
@[irreducible] def sS (p:Bool->Prop) (k:Bool->Prop):Prop:=∀ t,p t->k t
theorem ag.mk{p k:Prop}(h:p)(hk:k):ag p k:=by unfold ag;exact⟨h,hk⟩
theorem ag.h{p k:Prop}(h:ag p k):p/\k:=by unfold ag at h;exact h
theorem ai.mk{t:Bool}{a b:Prop}(h:t=true->a)(hk:t=false->b):ai t a b:=by unfold ai;exact⟨h,hk⟩
theorem ai.h{t:Bool}{a b:Prop}(h:ai t a b):(t=true->a)/\(t=false->b):=by unfold ai at h;exact h
theorem sS.mk{p k:Bool->Prop}(h:∀ t,p t->k t):sS p k:=by unfold sS;exact h
theorem sS.h{p k:Bool->Prop}(h:sS p k):∀ t,p t->k t:=by unfold sS at h;exact h
def Yv:V->Bool
 |.d (.v x)=>x.oneCell'
 |.d (.sl _ _ _)=>true
 |.dE=>true|.dp _ _=>true|.ptr _ _=>true|.rp _ _ _ _=>true|.row _ _=>true|.vw _ _ _ _=>true|.fn _ _ _ _=>true|.mp _=>true
 |_=>false
def EQ(v:V)(K:Nat->(Nat->V)->Prop):Prop:=
 match v with
 |.agg n g=>K n g
 |v=>match Yv v with|true=>K 1 (λ_=>v)|false=>False
def dQ:IntKind->Int×Int
 |.i8=>(-128,127)|.i16=>(-32768,32767)|.i32=>(-2147483648,2147483647)|.i64=>(-9223372036854775808,9223372036854775807)
 |.u8=>(0,255)|.u16=>(0,65535)|.u32=>(0,4294967295)|.u64=>(0,18446744073709551615)
def Nb(M:Prop->Prop->Prop)(op:BinOp)(k:IntKind)(a b:Int)(K:V->Prop):Prop:=
 match op with
 |.lss=>K (.b (decide (a<b)))
 |.gtr=>K (.b (decide (b<a)))
 |.leq=>K (.b (decide (a<=b)))
 |.geq=>K (.b (decide (b<=a)))
 |.eql=>K (.b (decide (a=b)))
 |.neq=>K (.b (!decide (a=b)))
 |.add=>M ((dQ k).1<=a+b/\a+b<=(dQ k).2) (K (.int k (a+b)))
 |.sub=>M ((dQ k).1<=a-b/\a-b<=(dQ k).2) (K (.int k (a-b)))
 |.mul=>M ((dQ k).1<=a*b/\a*b<=(dQ k).2) (K (.int k (a*b)))
 |.quo=>M (0<=a/\a<=(dQ k).2/\0<b) (K (.int k (a / b)))
 |.rem=>M (0<=a/\a<=(dQ k).2/\0<b) (K (.int k (a % b)))
 |_=>False
def Oh(M:Prop->Prop->Prop)(op:BinOp)(t:Nat)(x y:V)(K:V->Prop):Prop:=
 match x,y with
 |.d (.v (.int k a)),.d (.v (.int k' b))=>match decide (k=k') with|true=>Nb M op k a b K|false=>False
 |.d (.v (.bool a)),.d (.v (.bool b))=>(match (tI t).k,op with
  |7,.eql=>K (.b (a == b))|7,.neq=>K (.b (!(a == b)))|_,_=>False)
 |.d (.v (.string a)),.d (.v (.string b))=>(match op with
  |.eql=>K (.b (a.toList == b.toList))|.neq=>K (.b (!(a.toList == b.toList)))|_=>False)
 |.d (.sl n _ _),.d (.v (.slice none 0 0))=>(match (tI t).k,op with|3,.eql=>sS (λt=>t=true->n=0) (λt=>K (.b t))|_,_=>False)
 |.dE,.d (.v (.slice none 0 0))=>(match (tI t).k,op with|3,.eql=>sS (λt=>t=true->0=0) (λt=>K (.b t))|_,_=>False)
 |.ptr _ _,.d (.v (.pointer none))=>(match (tI t).k,op with|8,.eql=>K (.b false)|8,.neq=>K (.b true)|_,_=>False)
 |.d (.v (.pointer none)),.d (.v (.pointer none))=>(match (tI t).k,op with|8,.eql=>K (.b true)|8,.neq=>K (.b false)|_,_=>False)
 |.fn _ _ _ _,.d (.v .nilFunc)=>(match (tI t).k,op with|10,.eql=>K (.b false)|10,.neq=>K (.b true)|_,_=>False)
 |.d (.v .nilFunc),.d (.v .nilFunc)=>(match (tI t).k,op with|10,.eql=>K (.b true)|10,.neq=>K (.b false)|_,_=>False)
 |.agg 2 g,.agg 2 h=>(match Nat.beq t 52,g 0,g 1,h 0,h 1,op with
  |true,.d (.v (.int .i64 a)),.d (.v (.int .i64 b)),.d (.v (.int .i64 c)),.d (.v (.int .i64 d)),.neq=>K (.b (!(decide (a=c)&&decide (b=d))))
  |_,_,_,_,_,_=>False)
 |_,_=>False
def BH(t f:Nat)(K:Nat->Nat->Prop):Prop:=
 match (tI t).k,(tI t).DY[f]? with
 |1,some (off,ft)=>(match (tI ft).ok&&Nat.blt 0 (tI ft).size with|true=>K off ft|false=>False)
 |_,_=>False
def nU(g:Nat->V)(off m:Nat)(h:Nat->V)(k:Nat):V:=bif Nat.ble off k&&Nat.blt k (off+m) then h (k-off) else g k
def lN(g:Nat->Nat->V)(j c m:Nat)(h:Nat->V)(a b:Nat):V:=bif Nat.beq a j&&(Nat.ble c b&&Nat.blt b (c+m)) then h (b-c) else g a b
def appG(n:Nat)(g h:Nat->Nat->V)(j k:Nat):V:=bif Nat.blt j n then g j k else h (j-n) k
def qg(p m:Nat)(g h:Nat->Nat->V)(j k:Nat):V:=bif Nat.blt j p then g j k else (bif Nat.blt j (p+m) then h (j-p) k else g j k)
def iE(t k:Nat):V:=(tI t).zero.getD k .top
def Jy(M:Prop->Prop->Prop)(t:Nat)(x:V)(s:ST)(K:V->Prop):Prop:=
 match (tI t).ok with
 |false=>False
 |true=>match x with
  |.ptr i off=>(match s.get i with
   |.blk n g=>(match (tI t).agg with
    |true=>M (off+(tI t).size<=n) (K (.agg (tI t).size (λk=>g (off+k))))
    |false=>M (off<n) (K (g off)))
   |_=>False)
  |.rp i n j c=>(match s.get i with
   |.row E z m g=>(match (tI t).agg with
    |true=>M (n=m/\j<n/\c+(tI t).size<=z) (K (.agg (tI t).size (λk=>g j (c+k))))
    |false=>M (n=m/\j<n/\c<z) (K (g j c)))
   |_=>False)
  |.dp n g=>(match (tI t).agg with
   |true=>M ((tI t).size<=n) (K (.agg (tI t).size (λk=>.d (g k))))
   |false=>M (0<n) (K (.d (g 0))))
  |_=>False
def QR(t:Nat)(x v:V)(s:ST)(K:ST->Prop):Prop:=
 match (tI t).ok with
 |false=>False
 |true=>EQ v λm h=>match Nat.beq m (tI t).size with
  |false=>False
  |true=>match x with
   |.ptr i off=>(match s.get i with
    |.blk n g=>ag (off+m<=n) (K (s.set i (.blk n (nU g off m h))))
    |_=>False)
   |.rp i n j c=>(match s.get i with
    |.row E z r g=>ag (n=r/\j<n/\c+m<=z) (K (s.set i (.row E z r (lN g j c m h))))
    |_=>False)
   |_=>False
def Fg(E:Nat)(x:V)(s:ST)(K:Nat->(Nat->Nat->V)->Prop):Prop:=
 match x with
 |.dE=>K 0 (λ_ _=>.top)
 |.d (.sl n z g)=>(match Nat.beq z (tI E).size with|true=>K n (λj k=>.d (g j k))|false=>False)
 |.row i n=>(match s.get i with
  |.row E' z m g=>(match Nat.beq E' E with|true=>ag (n=m) (K n g)|false=>False)
  |_=>False)
 |.vw i n lo m=>(match s.get i with
  |.row E' z r g=>(match Nat.beq E' E with|true=>ag (n=r/\lo+m<=n) (K m (λj k=>g (lo+j) k))|false=>False)
  |_=>False)
 |_=>False
def LY(t:Nat)(x y:V)(s:ST)(K:V->ST->Prop):Prop:=
 match (tI t).k,(tI (tI t).elem).ok&&Nat.blt 0 (tI (tI t).elem).size&&Nat.blt (tI (tI t).elem).bytes 1000 with
 |3,true=>Fg (tI t).elem y s λm h=>match x with
  |.dE=>ag (m<=1000000) (K (.row s.nx m) (s.new (.row (tI t).elem (tI (tI t).elem).size m h)))
  |.row i n=>(match s.get i with
   |.row E z r g=>(match Nat.beq E (tI t).elem with
    |true=>ag (n=r/\n+m<=1000000) (K (.row i (n+m)) (s.set i (.row E z (n+m) (appG n g h))))
    |false=>False)
   |_=>False)
  |.vw i n lo q=>(match s.get i with
   |.row E z r g=>(match Nat.beq E (tI t).elem with
    |true=>ag (lo=0/\n=r/\q<=n/\q+m<=1000000) (K (.vw i (Nat.max n (q+m)) 0 (q+m)) (s.set i (.row E z (Nat.max n (q+m)) (qg q m g h))))
    |false=>False)
   |_=>False)
  |.d (.sl n z g)=>ag (m=0) (K (.d (.sl n z g)) s)
  |_=>False
 |_,_=>False
def Nk(t:Nat)(x y:V)(s:ST)(K:V->ST->Prop):Prop:=
 match (tI t).k,(tI (tI t).elem).ok&&Nat.blt 0 (tI (tI t).elem).size with
 |3,true=>Fg (tI t).elem y s λm h=>match x with
  |.row i n=>(match s.get i with
   |.row E z r g=>(match Nat.beq E (tI t).elem with
    |true=>ag (n=r) (K (.i (Nat.min m n)) (s.set i (.row E z n (qg 0 (Nat.min m n) g h))))
    |false=>False)
   |_=>False)
  |.vw i n lo q=>(match s.get i with
   |.row E z r g=>(match Nat.beq E (tI t).elem with
    |true=>ag (n=r/\lo+q<=n) (K (.i (Nat.min m q)) (s.set i (.row E z n (qg lo (Nat.min m q) g h))))
    |false=>False)
   |_=>False)
  |_=>False
 |_,_=>False
def MH(t:Nat)(x:V)(s:ST)(K:V->ST->Prop):Prop:=
 match (tI t).k,(tI (tI t).elem).ok&&Nat.blt 0 (tI (tI t).elem).size,x with
 |3,true,.vw i n lo q=>(match s.get i with
  |.row E z r g=>(match Nat.beq E (tI t).elem with
   |true=>ag (n=r/\lo+q<=n) (K .top (s.set i (.row E z n (qg lo q g (λ_ k=>iE E k)))))
   |false=>False)
  |_=>False)
 |_,_,_=>False
def L9(M:Prop->Prop->Prop)(t:Nat)(x:V)(lo hi mx:Option V)(s:ST)(K:V->Prop):Prop:=
 match mx,(tI t).k,(tI (tI t).elem).ok with
 |none,3,true=>(match x with
  |.d (.sl n z g)=>(match Nat.beq z (tI (tI t).elem).size,lo,hi with
   |true,none,some (.d (.v (.int _ h)))=>M (0<=h/\h<=n) (K (.d (.sl h.toNat z g)))
   |true,some (.d (.v (.int _ l))),none=>M (0<=l/\l<=n) (K (.d (.sl (n-l.toNat) z (λj=>g (l.toNat+j)))))
   |true,some (.d (.v (.int _ l))),some (.d (.v (.int _ h)))=>M (0<=l/\l<=h/\h<=n) (K (.d (.sl (h.toNat-l.toNat) z (λj=>g (l.toNat+j)))))
   |_,_,_=>False)
  |.row i n=>(match s.get i with
   |.row E z r g=>(match Nat.beq E (tI t).elem,lo,hi with
    |true,none,some (.d (.v (.int _ h)))=>M (n=r/\0<=h/\h<=n) (K (.vw i n 0 h.toNat))
    |true,some (.d (.v (.int _ l))),none=>M (n=r/\0<=l/\l<=n) (K (.vw i n l.toNat (n-l.toNat)))
    |true,some (.d (.v (.int _ l))),some (.d (.v (.int _ h)))=>M (n=r/\0<=l/\l<=h/\h<=n) (K (.vw i n l.toNat (h.toNat-l.toNat)))
    |_,_,_=>False)
   |_=>False)
  |.vw i n zi q=>(match s.get i with
   |.row E z r g=>(match Nat.beq E (tI t).elem,lo,hi with
    |true,none,some (.d (.v (.int _ h)))=>M (n=r/\0<=h/\zi+h<=n) (K (.vw i n zi h.toNat))
    |true,some (.d (.v (.int _ l))),none=>M (n=r/\0<=l/\l<=q/\zi+q<=n) (K (.vw i n (zi+l.toNat) (q-l.toNat)))
    |true,some (.d (.v (.int _ l))),some (.d (.v (.int _ h)))=>M (n=r/\0<=l/\l<=h/\zi+h<=n) (K (.vw i n (zi+l.toNat) (h.toNat-l.toNat)))
    |_,_,_=>False)
   |_=>False)
  |_=>False)
 |some (.d (.v (.int _ q))),3,true=>(match x,lo,hi with
  |.row i n,some (.d (.v (.int _ l))),some (.d (.v (.int _ h)))=>(match s.get i with
   |.row E z r g=>(match Nat.beq E (tI t).elem with
    |true=>M (n=r/\0<=l/\l<=h/\h<=q/\q<=n) (K .top)
    |false=>False)
   |_=>False)
  |.vw i n zi m,some (.d (.v (.int _ l))),some (.d (.v (.int _ h)))=>(match s.get i with
   |.row E z r g=>(match Nat.beq E (tI t).elem with
    |true=>M (n=r/\0<=l/\l<=h/\h<=q/\zi+q<=n) (K .top)
    |false=>False)
   |_=>False)
  |_,_,_=>False)
 |none,6,_=>(match x with
  |.d (.v (.string b))=>(match lo,hi with
   |none,some (.d (.v (.int _ h)))=>M (0<=h/\h<=b.size) (K (.str (b.extract 0 h.toNat)))
   |some (.d (.v (.int _ l))),none=>M (0<=l/\l<=b.size) (K (.str (b.extract l.toNat b.size)))
   |_,_=>False)
  |_=>False)
 |_,_,_=>False
def MB(M:Prop->Prop->Prop)(t:Nat)(x ix:V)(s:ST)(K:V->Prop):Prop:=
 match ix with
 |.d (.v (.int _ i))=>(match x with
  |.d (.sl n z g)=>(match Nat.beq z (tI (tI t).elem).size&&Nat.blt 0 z,(tI t).k,(tI (tI t).elem).ok with
   |true,3,true=>M (0<=i/\i<n) (K (.dp z (g i.toNat)))
   |_,_,_=>False)
  |.row r n=>(match s.get r,(tI t).k,(tI (tI t).elem).ok with
   |.row E z m g,3,true=>(match Nat.beq E (tI t).elem with|true=>M (n=m/\0<=i/\i<n) (K (.rp r n i.toNat 0))|false=>False)
   |_,_,_=>False)
  |.vw r n lo m=>(match s.get r,(tI t).k,(tI (tI t).elem).ok with
   |.row E z q g,3,true=>(match Nat.beq E (tI t).elem with|true=>M (n=q/\lo+m<=n/\0<=i/\i<m) (K (.rp r n (lo+i.toNat) 0))|false=>False)
   |_,_,_=>False)
  |.ptr r off=>(match (tI t).k,(tI (tI t).elem).ok,Nat.blt 1 (tI t).len with
   |2,true,true=>M (0<=i/\i<(tI t).len) (K (.ptr r (off+i.toNat*(tI (tI t).elem).size)))
   |_,_,_=>False)
  |_=>False)
 |_=>False
def Td(t:Nat)(x:V)(s:ST)(K:V->Prop):Prop:=
 match x,(tI t).k with
 |.d (.sl n _ _),3=>K (.i n)
 |.row _ n,3=>K (.i n)
 |.vw _ _ _ m,3=>K (.i m)
 |.dE,3=>K (.i 0)
 |.d (.v (.string b)),6=>K (.i b.size)
 |_,_=>False
def yK(s:AS)(n:Nat)(z:Nat->V)(place:Nat->(Nat->Nat->Prop)->Prop):List (Nat×Operand)->(Nat->V)->((Nat->V)->Prop)->Prop
 |[],g,K=>K g
 |(i,x)::r,g,K=>place i λoff size=>EQ (s.ev x) λm h=>match Nat.beq m size with
  |true=>ag (off+m<=n) (yK s n z place r (nU g off m h) K)
  |false=>False
def RU(v:V):Prop:=∃ b:UInt8,v = .d (.v (.int .u8 (b.toNat:Int)))
def Oo:V->UInt8
 |.d (.v (.int .u8 n))=>UInt8.ofNat n.toNat
 |_=>0
def BO(n:Nat)(g:Nat->Nat->V):ByteArray:=iU ((List.range n).map λj=>Oo (g j 0))
def aeu(b:ByteArray):D:=.sl b.size 1 (λj _=>.v (.int .u8 ((b.data.toList.getD j 0).toNat:Int)))
def Ha(M:Prop->Prop->Prop)(a b:Nat)(x:V)(s:ST)(K:V->ST->Prop):Prop:=
 match (tI b).k,(tI a).k with
 |5,5=>(match x,(tI b).zero with
  |.d (.v (.int _ n)),[.d (.v (.int k _))]=>M ((dQ k).1<=n/\n<=(dQ k).2) (K (.int k n) s)
  |_,_=>False)
 |6,3=>(match Nat.beq (tI a).elem 5 with
  |true=>(match x with
   |.d (.sl n z g)=>(match Nat.beq z 1 with
    |true=>M (∀ j,j<n->RU (.d (g j 0))) (K (.str (BO n (λj k=>.d (g j k)))) s)
    |false=>False)
   |.dE=>K (.str (iU [])) s
   |.row i n=>(match s.get i with
    |.row E z m g=>(match Nat.beq E 5 with
     |true=>M (n=m/\∀ j,j<n->RU (g j 0)) (K (.str (BO n g)) s)
     |false=>False)
    |_=>False)
   |_=>False)
  |false=>False)
 |3,6=>(match Nat.beq (tI b).elem 5,x with
  |true,.d (.v (.string y))=>ag (y.size<=1000000) (K (.d (aeu y)) s)
  |_,_=>False)
 |_,_=>False
def afH:V->D
 |.d x=>x
 |_=>.v undef
def dU:List (Int×V)->Int->Option V
 |[],_=>none
 |(k,v)::r,j=>bif decide (k=j) then some v else dU r j
def pU:Option V->Int
 |some (.d (.v (.int .i64 n)))=>n
 |_=>0
def zeroV(t:Nat):V:=match (tI t).agg with|true=>.agg (tI t).size (iE t)|false=>iE t 0
def okV(ok:Bool)(v:V)(there:Bool):V:=match ok with|true=>.fV 2 (λk=>match k with|0=>v|_=>.b there)|false=>v
def Jz(z:V)(k:Int)(ok:Bool)(K:V->Prop):List (Int×V)->Prop
 |[]=>K (okV ok z false)
 |(j,v)::r=>ai (decide (j=k)) (K (okV ok v true)) (Jz z k ok K r)
def LP(M:Prop->Prop->Prop)(t:Nat)(m x:V)(ok:Bool)(s:ST)(K:V->Prop):Prop:=
 match (tI t).k,(tI (tI t).len).k,(tI (tI t).elem).ok,m,x with
 |4,5,true,.mp i,.d (.v (.int .i64 k))=>(match s.get i with
  |.map es=>(match (tI (tI t).elem).zero,(tI (tI t).elem).k,ok with
   |[.d (.v (.int .i64 0))],5,false=>M (∀ v,dU es k=some v->∃ n,v = .i n) (K (.i (pU (dU es k))))
   |_,_,_=>Jz (zeroV (tI t).elem) k ok K es)
  |_=>False)
 |_,_,_,_,_=>False
def IU(t:Nat)(m x v:V)(s:ST)(K:ST->Prop):Prop:=
 match (tI t).k,(tI (tI t).len).k,m,x with
 |4,5,.mp i,.d (.v (.int .i64 k))=>(match s.get i with
  |.map es=>force v λv=>K (s.set i (.map ((k,v)::es)))
  |_=>False)
 |_,_,_,_=>False
def yg(s:AS):Option Operand->Option V
 |some x=>some (s.ev x)
 |none=>none
def ae4(n:Nat)(l:List V)(k:Nat):V:=l.getD k .top
def xY(n:Nat)(g:Nat->V):List V:=(List.range n).map g
def dD(M:Prop->Prop->Prop)(Ag:Nat->List V->ST->(V->ST->Prop)->Prop)(o:Op)(s:AS)(K:V->ST->Prop):Prop:=
 match o with
 |.move x=>K (s.ev x) s.s
 |.assign x=>K (s.ev x) s.s
 |.pick c a b=>(match s.ev c with
  |.d (.v (.bool t))=>(match s.ev a,s.ev b with
   |.d (.v (.bool x)),.d (.v (.bool y))=>K (.b (cond t x y)) s.s
   |.d (.v (.bool x)),.ku t' w (.d (.v (.bool y)))=>M (t=false->t'=w) (K (.b (cond t x y)) s.s)
   |.ku t' w (.d (.v (.bool x))),.d (.v (.bool y))=>M (t=true->t'=w) (K (.b (cond t x y)) s.s)
   |u,v=>ai t (K u s.s) (K v s.s))
  |_=>False)
 |.alloc t=>(match (tI t).ok with
  |true=>K (.ptr s.s.nx 0) (s.s.new (.blk (tI t).size (iE t)))
  |false=>False)
 |.box _ x=>EQ (s.ev x) λn g=>K (.ptr s.s.nx 0) (s.s.new (.blk n g))
 |.load t x=>Jy M t (s.ev x) s.s λv=>K v s.s
 |.store t x v=>QR t (s.ev x) (s.ev v) s.s λs'=>K .top s'
 |.fieldAddr t x f=>BH t f λoff _=>(match s.ev x with
  |.ptr i o=>K (.ptr i (o+off)) s.s
  |.dp n g=>M (off<=n) (K (.dp (n-off) (λk=>g (off+k))) s.s)
  |.rp i n j c=>K (.rp i n j (c+off)) s.s
  |_=>False)
 |.field t x f=>BH t f λoff ft=>(match s.ev x,(tI ft).ok with
  |.agg n g,true=>(match (tI ft).agg with
   |true=>M (off+(tI ft).size<=n) (K (.agg (tI ft).size (λk=>g (off+k))) s.s)
   |false=>M (off<n) (K (g off) s.s))
  |_,_=>False)
 |.indexAddr t x i=>MB M t (s.ev x) (s.ev i) s.s λv=>K v s.s
 |.slice t x lo hi mx=>L9 M t (s.ev x) (yg s lo) (yg s hi) (yg s mx) s.s λv=>K v s.s
 |.binOp op t x y _=>Oh M op t (s.ev x) (match y with|.const c=>.d (.v c)|y=>s.ev y) λv=>K v s.s
 |.unOp .not _ x=>(match s.ev x with|.d (.v (.bool t))=>K (.b !t) s.s|_=>False)
 |.convert a b x=>Ha M a b (s.ev x) s.s K
 |.extract x i=>(match s.ev x with|.fV n g=>M (i<n) (K (g i) s.s)|_=>False)
 |.nilCheck x=>(match s.ev x with
  |.ptr i o=>K (.ptr i o) s.s
  |.dp n g=>K (.dp n g) s.s
  |.rp i n j c=>K (.rp i n j c) s.s
  |_=>False)
 |.build t ps=>(match (tI t).k,(tI t).DY.all (λp=>(tI p.2).ok) with
  |1,true=>yK s (tI t).size (iE t) (λi K'=>BH t i λoff ft=>(match (tI ft).ok with|true=>K' off (tI ft).size|false=>False)) ps.toList (iE t) λg=>K (.agg (tI t).size g) s.s
  |_,_=>False)
 |.buildSlice t n ps=>(match (tI t).k,(tI (tI t).elem).ok&&Nat.blt 0 (tI (tI t).elem).size with
  |3,true=>ag (n*(tI (tI t).elem).size<=1000000) (yK s (n*(tI (tI t).elem).size) (λ_=>.top) (λi K'=>K' (i*(tI (tI t).elem).size) (tI (tI t).elem).size) ps.toList (λk=>iE (tI t).elem (k % (tI (tI t).elem).size)) λg=>
    K (.row s.s.nx n) (s.s.new (.row (tI t).elem (tI (tI t).elem).size n (λj k=>g (j*(tI (tI t).elem).size+k)))))
  |_,_=>False)
 |.makeSlice t a b=>(match (tI t).k,(tI (tI t).elem).ok&&Nat.blt 0 (tI (tI t).elem).size,Nat.blt (tI (tI t).elem).bytes 1000,s.ev a,s.ev b with
  |3,true,true,.d (.v (.int _ n)),.d (.v (.int _ m))=>ag (0<=n/\n<=100000/\m=n) (K (.row s.s.nx n.toNat) (s.s.new (.row (tI t).elem (tI (tI t).elem).size n.toNat (λ_ k=>iE (tI t).elem k))))
  |_,_,_,_,_=>False)
 |.makeMap _ none=>K (.mp s.s.nx) (s.s.new (.map []))
 |.insert t m x v=>IU t (s.ev m) (s.ev x) (s.ev v) s.s λt=>K .top t
 |.mapUpdate t m x v=>IU t (s.ev m) (s.ev x) (s.ev v) s.s λt=>K .top t
 |.lookup t m x ok=>LP M t (s.ev m) (s.ev x) ok s.s λv=>K v s.s
 |.makeFunc (.func f) a b=>K (.fn f a.size (a.size+b.size) (ae4 (a.size+b.size) ((a.toList++b.toList).map s.ev))) s.s
 |.call c=>(match c.callee with
  |.value f=>(match s.ev f with
   |.fn k nf n g=>Ag k ((xY nf g)++(c.args.toList.map s.ev)++((xY n g).drop nf)) s.s K
   |_=>False)
  |.builtin .len=>(match c.args.toList,c.argTypes.toList with|[x],[t]=>Td t (s.ev x) s.s λv=>K v s.s|_,_=>False)
  |.builtin .append=>(match c.args.toList,c.argTypes.toList with|[x,y],[t,t']=>(match Nat.beq t t' with|true=>LY t (s.ev x) (s.ev y) s.s K|false=>False)|_,_=>False)
  |.builtin .copy=>(match c.args.toList,c.argTypes.toList with|[x,y],[t,t']=>(match Nat.beq t t' with|true=>Nk t (s.ev x) (s.ev y) s.s K|false=>False)|_,_=>False)
  |.builtin .clear=>(match c.args.toList,c.argTypes.toList with|[x],[t]=>MH t (s.ev x) s.s K|_,_=>False)
  |.builtin .min=>(match c.args.toList with
   |[x,y]=>(match s.ev x,s.ev y with|.d (.v (.int k a)),.d (.v (.int k' b))=>(match decide (k=k') with|true=>K (.int k (min a b)) s.s|false=>False)|_,_=>False)
   |_=>False)
  |.builtin .max=>(match c.args.toList with
   |[x,y]=>(match s.ev x,s.ev y with|.d (.v (.int k a)),.d (.v (.int k' b))=>(match decide (k=k') with|true=>K (.int k (max a b)) s.s|false=>False)|_,_=>False)
   |_=>False)
  |_=>False)
 |_=>False
def calm:Op->Bool
 |.move _|.pick _ _ _|.load _ _|.fieldAddr _ _ _|.field _ _ _|.indexAddr _ _ _|.slice _ _ _ _ _|.unOp _ _ _|.extract _ _|.nilCheck _=>true
 |.binOp _ _ _ _ _=>true
 |.lookup _ _ _ _=>true
 |.convert _ b _=>(match (tI b).k with|3=>false|_=>true)
 |.call c=>(match c.callee with|.builtin .len=>true|.builtin .min=>true|.builtin .max=>true|_=>false)
 |_=>false
def ql(s:AS):AS:=⟨s.nt,s.sl.map (λp=>(p.1,match p.2 with|.ku _ _ v=>v|v=>v)),s.s⟩
def Lt(s:AS)(t w:Bool):List Operand->Prop->Prop
 |[],k=>k
 |x::r,k=>match s.ev x with
  |.ku t' w' _=>ag (t=w->t'=w') (Lt s t w r k)
  |_=>Lt s t w r k
def aeg(Ag:Nat->List V->ST->(V->ST->Prop)->Prop)(t w:Bool)(c:Call)(s:AS)(K:V->Prop):Prop:=
 match c.callee with
 |.value f=>(match s.ev f with
  |.fn k nf n g=>∃ R,(t=w->Ag k ((xY nf g)++(c.args.toList.map s.ev)++((xY n g).drop nf)) s.s (λv s'=>v=R/\s'=s.s))/\K R
  |_=>False)
 |_=>False
def arL:V->Bool
 |.d _=>true
 |_=>false
def YM(g:Nat->V):Nat->Bool
 |0=>true
 |n+1=>arL (g n)&&YM g n
def Bg(t n:Nat)(ps:List (Nat×Operand))(s:AS)(K:V->Prop):Prop:=
 match (tI t).k,(tI (tI t).elem).ok&&Nat.blt 0 (tI (tI t).elem).size,Nat.ble (n*(tI (tI t).elem).size) 1000000 with
 |3,true,true=>yK s (n*(tI (tI t).elem).size) (λ_=>.top) (λi K'=>K' (i*(tI (tI t).elem).size) (tI (tI t).elem).size) ps (λk=>iE (tI t).elem (k % (tI (tI t).elem).size)) λg=>
   match YM g (n*(tI (tI t).elem).size) with
   |true=>K (.d (.sl n (tI (tI t).elem).size (λj k=>afH (g (j*(tI (tI t).elem).size+k)))))
   |false=>False
 |_,_,_=>False
def Ig(w:Bool)(v:V)(K:Bool->Prop):Prop:=
 match v with
 |.d (.v (.bool t))=>K t
 |.ku t1 w1 (.d (.v (.bool c)))=>K (bif (t1 == w1) then c else !w)
 |_=>False
def Ns(v:V)(hyp:Prop)(K:Bool->Prop):Prop:=
 match v with
 |.d (.v (.bool p))=>K p
 |.ku t1 w1 (.d (.v (.bool p)))=>ag (hyp->t1=w1) (K p)
 |_=>False
def Tm(Ag:Nat->List V->ST->(V->ST->Prop)->Prop)(t w:Bool)(o:Oper)(s:AS)(K:V->Prop):Prop:=
 match o.op with
 |.pick c a b=>Ns (s.ev c) (t=w) λx=>Ns (s.ev a) (t=w/\x=true) λp=>Ns (s.ev b) (t=w/\x=false) λq=>K (.b (cond x p q))
 |op=>Lt s t w op.operands.toList (match calm op with
  |true=>dD (λp k=>ag (t=w->p) k) Ag op (ql s) (λv _=>K v)
  |false=>(match op with
   |.call c=>aeg Ag t w c (ql s) K
   |.buildSlice ty n ps=>Bg ty n ps.toList (ql s) K
   |_=>False))
def tX(Ag:Nat->List V->ST->(V->ST->Prop)->Prop)(all:List Oper):List Oper->AS->(AS->Prop)->Prop
 |[],s,K=>K s
 |o::r,s,K=>match s.fits o.dst with
  |false=>False
  |true=>match o.guard with
   |none=>dD ag Ag o.op s (λv t=>JK s o.dst v t λs=>tX Ag all r s K)
   |some (j,w)=>match (all[j]?).map (·.dst) with
    |some (some d)=>Ig w (dG s.sl d) λt=>Tm Ag t w o s (λv=>force v λv=>JK s o.dst (.ku t w v) s.s λs=>tX Ag all r s K)
    |_=>False
section
def Ov(w:World)(base:Nat)(E:TypeId)(size:Nat)(A:Option Addr)(n c:Nat)(vs:List Value):Prop:=w.ownsRow base E size (.slice A n c) n vs
section
variable {w w':World} {base size n c:Nat} {E:TypeId} {A:Option Addr} {vs:List Value}
theorem Ov.len(h:Ov w base E size A n c vs):vs.length=n*size:=h.1
theorem at1(w:World)(base:Nat)(E:TypeId)(size:Nat):Ov w base E size none 0 0 []:=World.ownsRow_nil w base E size
theorem Ov.row(h:Ov w base E size A n c vs):∀ g,(Value.slice A n c).ownBlock=some g->base<=g/\g<w.heap.size/\∃ cs,w.heap[g]?=some (.cells cs E (0,0)):=by
 intro g hg;rcases h.2 with ⟨hv,_⟩|⟨g',cap,cur,hv,hb,hgg,_⟩
 ·rw[hv]at hg;simp[Value.ownBlock]at hg
 ·rw[hv]at hg;simp[Value.ownBlock]at hg;subst hg;exact⟨hb,(Array.getElem?_eq_some_iff.1 hgg).1,cur,hgg⟩
end
section
variable {P:Program} {w:World}
theorem afV(t ty E:TypeId)(i:TypeInfo)(z:Value)(size bytes:Nat)(ht:P.underlying t=some (.slice E))(hi:P.info? E=some i)(hz:i.zero=some z)(hsize:i.size=size)(hby:i.bytes=bytes)(hzs:z.cells.size=size)(hsz:0<size)
  {base n c:Nat} {A:Option Addr} {vs:List Value} (hown:Ov w base E size A n c vs) (ad:Addr) (m c2:Nat) (news:List Value) (hl:news.length=m*size) (hnews:∀ j u,news[j]?=some u->w.cell? (ad.add j)=some u) (h1:∀ u∈news,u.oneCell'=true)
  (h63:n+m<=9223372036854775807) (hbytes:(n+m)*bytes<=140737488355328) (hbase:base<=w.heap.size) :
  ∃ A' c' w',(Builtin.append_ #[t,t] ty #[.slice A n c,.slice (some ad) m c2]).run P w = .ok (.slice A' (n+m) c') w'/\Ov w' base E size A' (n+m) c' (vs++news)/\w.grownBy w' (Value.slice A n c).ownBlock /\
   (A'=A\/A'=some ⟨w.heap.size,0,none⟩):=by
 obtain⟨v',w',hrun,h2,h3,_,h5⟩:=run_append_own_at (P:=P) w base t ty E i z size bytes ht hi hz hsize hby hzs hsz _ n vs hown ad m c2 news hl hnews h1 (by unfold maxLen;omega) hbytes hbase;have shape:∃ A' c',v' = .slice A' (n+m) c'/\(A'=A\/A'=some ⟨w.heap.size,0,none⟩):=by
  rcases h2.2 with ⟨rfl,h0⟩|⟨g,cap,cur,rfl,hrest⟩
  ·refine⟨none,0,by rw[h0],?_⟩;cases A with
   |none=>exact .inl rfl
   |some a=>simp[Value.ownBlock]at h5
  ·refine⟨_,_,rfl,?_⟩;rcases h5 with hb|hb
   ·cases A with
    |none=>simp[Value.ownBlock]at hb
    |some a=>
     rcases hown.2 with ⟨h1,_⟩|⟨g2,_,_,h1,_⟩
     ·simp at h1
     ·injection h1 with h1
      injection h1 with h1
      subst h1;simp[Value.ownBlock]at hb;subst hb;exact .inl rfl
   ·simp[Value.ownBlock]at hb;subst hb;exact .inr rfl
 obtain⟨A',c',rfl,hA'⟩:=shape;exact⟨A',c',w',hrun,h2,h3,hA'⟩
end
end
section
def Rd(w:World)(B:Nat)(A:Option Addr)(vs:List Value):Prop:=
 0<vs.length->∃ b off,A=some ⟨b,off,none⟩/\b<B/\∀ i,i<vs.length->w.cell? ⟨b,off+i,none⟩=vs[i]?
section
variable {w w':World} {B B':Nat} {A:Option Addr} {vs:List Value}
theorem Rd.nil:Rd w B A []:=λh=>au h (by simp)
end
section
variable {P:Program} {w:World}
theorem afW(t ty E:TypeId)(i:TypeInfo)(z:Value)(size bytes:Nat)(ht:P.underlying t=some (.slice E))(hi:P.info? E=some i)(hz:i.zero=some z)(hsize:i.size=size)(hby:i.bytes=bytes)(hzs:z.cells.size=size)(hsz:0<size)
  {base n c:Nat} {A:Option Addr} {vs:List Value} (hown:Ov w base E size A n c vs) {B m c2:Nat} {A2:Option Addr} {news:List Value} (hl:news.length=m*size) (hr:Rd w B A2 news) (h1:∀ u∈news,u.oneCell'=true)
  (h63:n+m<=9223372036854775807) (hbytes:(n+m)*bytes<=140737488355328) (hbase:base<=w.heap.size) :
  ∃ A' c' w',(Builtin.append_ #[t,t] ty #[.slice A n c,.slice A2 m c2]).run P w = .ok (.slice A' (n+m) c') w'/\Ov w' base E size A' (n+m) c' (vs++news)/\w.grownBy w' (Value.slice A n c).ownBlock /\
   (A'=A\/A'=some ⟨w.heap.size,0,none⟩):=by
 rcases A2 with _|ad
 ·obtain rfl:news=[]:=by
   rcases uz news.length with h0|h0
   ·exact uw h0
   ·obtain⟨b,off,he,_⟩:=hr h0;cases he
  obtain rfl:m=0:=by
   rcases uz m with h0|h0
   ·exact h0
   ·have:=Nat.mul_pos h0 hsz;simp at hl;omega
  refine⟨A,c,w,?_,by simpa using hown,World.grownBy.refl w _,.inl rfl⟩;rcases hown.2 with ⟨hv,_⟩|⟨g,cap,cur,hv,_,_,hnc,_⟩
  ·rw[hv];simp at hv;simp[Builtin.append_,run_underlying ht,sizeOf,typeInfo,hi,Builtin.lenOf,Builtin.firstCells,hv]
  ·simp at hv;obtain⟨rfl,rfl⟩:=hv;simp[Builtin.append_,run_underlying ht,sizeOf,typeInfo,hi,Builtin.lenOf,Builtin.firstCells,hnc,storeCells]
 ·refine afV (P:=P) t ty E i z size bytes ht hi hz hsize hby hzs hsz hown ad m c2 news hl (λj u hu=>?_) h1 h63 hbytes hbase;have hj:j<news.length:=(List.getElem?_eq_some_iff.1 hu).1;obtain⟨b,off,he,_,hc⟩:=hr qO;injection he with he
  subst he;rw[Addr.add_lit,hc j hj,hu]
end
def iv(n:Int):Value:=.int .i64 n
end
theorem conv{w:World}{B n c:Nat}{A:Option Addr}{l:List UInt8}(hn:l.length=n)(hA:Bs w B A l):(convert 48 9 (.slice A n c)).run Tryz.prog w = .ok (.string (iU l)) w:=
 OV _ _ _ Tryz.underlying48 Tryz.underlying5 Tryz.underlying9 hn hA
section
namespace K3
abbrev F5:Int:=3
abbrev jZ:Nat:=3
abbrev xR:Nat:=48
abbrev XY:Nat:=49
end K3
namespace K4
abbrev F5:Int:=4
abbrev jZ:Nat:=4
abbrev xR:Nat:=56
abbrev XY:Nat:=57
end K4
namespace K5
abbrev F5:Int:=5
abbrev jZ:Nat:=5
abbrev xR:Nat:=64
abbrev XY:Nat:=65
end K5
end
end Go.Proofs.YtnibdnahojjcgaaGreat
