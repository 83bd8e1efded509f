/- Lemmas. -/
import Derived.Deep.Draws
import Derived.Great.BuildSlice
import Derived.Laws.IdiomStrings
import Derived.Lib.ConvBytes
import Derived.Lib.Hide
import Derived.MapKept
import Derived.Maps.AppendAt
import Derived.Test.YtnibdnahojjcgaaGreatProg
import Derived.WalkKit
import Derived.WalkLawsBesides
namespace Go.Proofs.YtnibdnahojjcgaaGreat
set_option linter.all false
def ah.{u, v} {α:Sort u} {β:Sort v} {a₁ a₂:α} (f:α->β) (h:a₁=a₂):f a₁=f a₂:=congrArg f h
def ai{a b:Prop} (h:a) (k:¬a):b:=absurd h k
def aT{p:Prop} [Decidable p]:¬p->decide p=false:=decide_eq_false
def aX{p:Prop} [inst:Decidable p]:p->decide p=true:=decide_eq_true
def aZ.{u} {α:Sort u} {p:α->Prop} (w:α) (h:p w):Exists p:=Exists.intro w h
def bn.{u_1} {α:Type u_1} {l:List α} {i:Nat} {a:α}:l.getD i a=l[i]?.getD a:=List.getD_eq_getElem?_getD
def bz.{u_1} {α:Sort u_1} (a b:α):(bif false then a else b)=b:=cond_false a b
def bF(n:Nat):n <= n:=Nat.le_refl n
def bP.{u} {α:Type u} {a1 b1:List α}:(a1 ++ b1).length=a1.length + b1.length:=List.length_append
def cZ(n:Nat):0 <= n:=Nat.zero_le n
def dw.{u_1} {α:Sort u_1} (a b:α):(bif true then a else b)=a:=cond_true a b
def dG.{u_1} {α:Type u_1} {i:Nat} {l:List α}:(List.take i l).length=min i l.length:=List.length_take
def dL(a:Int):a <= a:=Int.le_refl a
def dV.{u_1} {α:Type u_1} {l:List α} {i:Nat} (h:i < l.length):l[i]?=some l[i]:=List.getElem?_eq_getElem h
def eY.{u_1} {α:Type u_1} {i:Nat} {l:List α}:(List.drop i l).length=l.length - i:=List.length_drop
def fD.{u} {α:Type u} {val valq:α}:some val=some valq->val=valq:=Option.some.inj
def fM{a b:Prop} (left:a) (right:b):a/\b:=And.intro left right
def fU{p:Prop} [inst:Decidable p]:decide p=true->p:=of_decide_eq_true
def gq{p:Prop} [Decidable p]:(decide p=true)=p:=decide_eq_true_eq
def iy{p:Prop} {xq:Decidable p}:decide p=false↔¬p:=decide_eq_false_iff_not
def jg(n:Nat):(n:Int).toNat=n:=Int.toNat_natCast n
def jq(n:Nat):0 + n=n:=Nat.zero_add n
def jA.{u_1} {α:Type u_1} (y:α) {a:α} {l:List α}:a ∈ l->a ∈ y :: l:=List.mem_cons_of_mem y
def jL.{u_1} {α:Type u_1} {a:α} {l:List α}:a ∈ a :: l:=List.mem_cons_self
def jU.{u_1} {α:Type u_1} {i:Nat} {l:List α} (h:l.length <= i):List.take i l=l:=List.take_of_length_le h
def jV.{u} {α:Type u} (a1 b1 c1:List α):a1 ++ b1 ++ c1=a1 ++ (b1 ++ c1):=List.append_assoc a1 b1 c1
def kE{n m k:Nat}:n <= m->m <= k->n <= k:=Nat.le_trans
def lS.{u_1} {α:Type u_1} {l₁ l₂:List α} {i:Nat} (hn:i < l₁.length):(l₁ ++ l₂)[i]?=l₁[i]?:=List.getElem?_append_left hn
def lT.{u} {α:Type u} {a:α} {a1:List α}:(a :: a1).length=a1.length + 1:=List.length_cons
def lZ.{u_1, u_2} {α:Type u_1} {β:Type u_2} {a1:List α} (f:α->β):(List.map f a1).length=a1.length:=List.length_map f
def l7(n m:Nat):n < m \/ n >= m:=Nat.lt_or_ge n m
def mJ{p:Prop} [inst:Decidable p]:decide p=false->¬p:=of_decide_eq_false
def mM.{u_1} {α:Type u_1} {l:List α}:List.take l.length l=l:=List.take_length
def nM.{u} {α:Type u} {a1:List α} {i:Nat} {a:α}:(a1.set i a).length=a1.length:=List.length_set
def nX.{u_1} {α:Type u_1} {l:List α} {i j:Nat}:(List.take i l)[j]?=if j < i then l[j]? else none:=List.getElem?_take
def nY(b:Bool):((!b)=true)=(b=false):=Bool.not_eq_true' b
def oP.{u_1} {α:Type u_1} {l₁ l₂:List α} {i:Nat}:l₁.length <= i->(l₁ ++ l₂)[i]?=l₂[i - l₁.length]?:=List.getElem?_append_right
def o9(b:Bool):((!b)=false)=(b=true):=Bool.not_eq_false' b
def pO.{u} {α:Type u} (a1:List α):a1 ++ []=a1:=List.append_nil a1
def qf(a b:Bool):((a && b)=true)=(a=true/\b=true):=Bool.and_eq_true a b
def qg.{u_1, u_2} {α:Type u_1} {β:Type u_2} (a:α) (f:α->β):Option.map f (some a)=some (f a):=Option.map_some a f
def qh(n:Nat):¬n < 0:=Nat.not_lt_zero n
def qM.{u} {α:Type u} {a1:List α} {i:Nat} (h:a1.length <= i):List.drop i a1=[]:=List.drop_eq_nil_of_le h
def qP.{u} {α:Type u} {xs:Array α} {i:Nat}:xs.toList[i]?=xs[i]?:=Array.getElem?_toList
def qQ.{u_1, u_2} {α:Type u_1} {β:Type u_2} {f:α->β} {l:List α} {i:Nat}:(List.map f l)[i]?=Option.map f l[i]?:=List.getElem?_map
def rO.{u_1} {α:Type u_1} {xs:Array α}:xs.toList.length=xs.size:=Array.length_toList
def rP.{u_1} {α:Type u_1} {xs:List α} {i j:Nat}:(List.drop i xs)[j]?=xs[i + j]?:=List.getElem?_drop
def sV{n m k:Nat}:n < m->m <= k->n < k:=Nat.lt_of_lt_of_le
def uf{n m:Nat} (h:n.ble m=true):n <= m:=Nat.le_of_ble_eq_true h
def uI.{u_1} {αq:Type u_1} {l:List αq}:l.length=0->l=[]:=List.eq_nil_of_length_eq_zero
def uJ.{u_1} {α:Type u_1} {xs:Array α} {i:Nat} {d:α}:xs.getD i d=xs[i]?.getD d:=Array.getD_eq_getD_getElem?
def uK(n:Nat):n=0 \/ n > 0:=Nat.eq_zero_or_pos n
def vI.{u_1} {α:Type u_1} {xs:Array α} {i:Nat} (h:i < xs.size):xs[i]?=some xs[i]:=Array.getElem?_eq_getElem h
def vJ{n m:Nat} (k:Nat) (h:n <= m):n * k <= m * k:=Nat.mul_le_mul_right k h
def vK.{u_1} {α:Type u_1} {l:List α} {i:Nat} {a:α} (e:l[i]?=some a):a ∈ l:=List.mem_of_getElem? e
def xm{b:Bool}:b=false↔b ≠ true:=Bool.eq_false_iff
def y7.{u_1} {α:Type u_1} {p:α->Bool} {l:List α}:l.all p=true↔∀ (x:α), x ∈ l->p x=true:=List.all_eq_true
def Af.{u_1} {α:Sort u_1} (b:Bool) (t e:α):(bif b then t else e)=if b=true then t else e:=Bool.cond_eq_ite b t e
set_option maxRecDepth 100000
set_option maxHeartbeats 0
open Go.RowKit Tryz
def qO{p:Prop}(h:p:=by omega):p:=h
def qo{p:Prop}(h:p:=by first|omega|fail):p:=h
def qD{p:Prop}(h:p:=by decide):p:=h
def qK{p:Prop}(h:p:=by kernel_rfl):p:=h
inductive D where
 |v (x:Value)
 |sl (n s:Nat) (g:Nat->Nat->D)
inductive V where
 |top
 |d (x:D)
 |dC
 |dp (s:Nat) (g:Nat->D)
 |ptr (i off:Nat)
 |rp (i n j c:Nat)
 |row (i n:Nat)
 |vw (i n lo m:Nat)
 |agg (n:Nat) (g:Nat->V)
 |gQ (n:Nat) (g:Nat->V)
 |fn (f nf n:Nat) (g:Nat->V)
 |mp (i:Nat)
 |kQ (t want:Bool) (x:V)
inductive aK where
 |dead
 |Wp (n:Nat) (g:Nat->V)
 |row (E s n:Nat) (g:Nat->Nat->V)
 |map (es:List (Int×V))
abbrev V.int(k:IntKind)(n:Int):V:=.d (.v (.int k n))
abbrev V.i(n:Int):V:=.d (.v (.int .i64 n))
abbrev V.b(t:Bool):V:=.d (.v (.bool t))
abbrev V.str(s:ByteArray):V:=.d (.v (.string s))
structure uC where
 size:Nat
 bytes:Nat
 k:Nat
 elem:Nat
 len:Nat
 zero:List V
 EJ:List (Nat×Nat)
def ng:uC:=⟨0,0,9,0,0,[],[]⟩
def uC.ok(i:uC):Bool:=!(Nat.beq i.k 9)
def uC.agg(i:uC):Bool:=Nat.beq i.k 1||Nat.beq i.k 2
def yJ:List Value->List V->Bool
 |[],[]=>true
 |.slice none 0 0::a,.dC::b=>yJ a b
 |.int k 0::a,.d (.v (.int k' 0))::b=>k == k'&&yJ a b
 |.bool false::a,.d (.v (.bool false))::b=>yJ a b
 |.string s::a,.d (.v (.string s'))::b=>s.data.toList.isEmpty&&s'.data.toList.isEmpty&&yJ a b
 |.pointer none::a,.d (.v (.pointer none))::b=>yJ a b
 |.map none::a,.d (.v (.map none))::b=>yJ a b
 |.nilFunc::a,.d (.v .nilFunc)::b=>yJ a b
 |.nilIface::a,.d (.v .nilIface)::b=>yJ a b
 |_,_=>false
def wX(d:TypeDesc)(i:uC):Bool:=
 match d with
 |.struct fs=>i.k == 1&&fs.toList.map (λf=>(f.offset,f.type)) == i.EJ
 |.array n e=>i.k == 2&&n == i.len&&e == i.elem
 |.slice e=>i.k == 3&&e == i.elem
 |.map k e=>i.k == 4&&k == i.len&&e == i.elem
 |.int q=>i.k == 5&&(match i.zero with|[.d (.v (.int k _))]=>k == q|_=>false)
 |.string=>i.k == 6
 |.bool=>i.k == 7
 |.pointer _=>i.k == 8
 |.func _ _ _=>i.k == 10
 |_=>i.k == 0
def U0(i:uC)(j:TypeInfo):Bool:=
 j.size == i.size&&j.bytes == i.bytes&&(match j.zero with|some z=>yJ z.cells.toList i.zero&&z.cells.size == i.size&&(match z with|.agg _=>i.k == 1||i.k == 2|.tuple _=>false|_=>!(i.k == 1||i.k == 2))|none=>false)
structure Et (t:Nat) (i:uC):Prop where
 info:(prog.info? t).map (U0 i)=some true
 desc:∃ d,prog.underlying t=some d/\wX d i=true
def Et.of{t:Nat}{i:uC}{d:TypeDesc}(h:(prog.info? t).map (U0 i)=some true)(hu:prog.underlying t=some d)(hd:wX d i=true):Et t i:=⟨h,d,hu,hd⟩
abbrev iZ:V:=.d (.v (.int .i64 0))
abbrev tS(e:Nat):uC:=⟨1,24,3,e,0,[.dC],[]⟩
abbrev tP:uC:=⟨1,8,8,0,0,[.d (.v (.pointer none))],[]⟩
def tI(t:Nat):uC:=
  bif Nat.ble t 138 then(bif Nat.ble t 58 then(bif Nat.ble t 33 then(bif Nat.ble t 9 then(bif Nat.ble t 3 then(bif Nat.beq t 2 then ⟨1,8,5,0,0,[iZ],[]⟩ else bif Nat.beq t 3 then ⟨1,8,5,0,0,[iZ],[]⟩ else ng)
      else(bif Nat.beq t 4 then ⟨1,1,7,0,0,[.d (.v (.bool false))],[]⟩ else bif Nat.beq t 5 then ⟨1,1,5,0,0,[.d (.v (.int .u8 0))],[]⟩ else bif Nat.beq t 9 then ⟨1,16,6,0,0,[.d (.v (.string ⟨#[]⟩))],[]⟩ else ng))
     else(bif Nat.ble t 28 then(bif Nat.beq t 22 then tS 35 else bif Nat.beq t 24 then tP else bif Nat.beq t 28 then tS 50 else ng)
      else(bif Nat.beq t 29 then ⟨1,8,5,0,0,[iZ],[]⟩ else bif Nat.beq t 31 then tS 3 else bif Nat.beq t 33 then ⟨8,88,1,0,0,[iZ,iZ,iZ,iZ,iZ,iZ,.dC,.d (.v (.string ⟨#[]⟩))],[(0,3),(1,3),(2,3),(3,3),(4,3),(5,3),(6,31),(7,9)]⟩ else ng)))
    else(bif Nat.ble t 41 then(bif Nat.ble t 37 then(bif Nat.beq t 35 then ⟨11,112,1,0,0,[iZ,iZ,iZ,iZ,iZ,iZ,iZ,iZ,iZ,.dC,.d (.v (.string ⟨#[]⟩))],[(0,3),(1,3),(2,3),(3,33)]⟩ else bif Nat.beq t 37 then tS 54 else ng)
      else(bif Nat.beq t 38 then tS 97 else bif Nat.beq t 39 then tS 71 else bif Nat.beq t 41 then ⟨7,104,1,0,0,[iZ,iZ,iZ,iZ,.dC,.dC,.dC],[(0,3),(1,3),(2,3),(3,3),(4,37),(5,38),(6,39)]⟩ else ng))
     else(bif Nat.ble t 50 then(bif Nat.beq t 43 then tS 52 else bif Nat.beq t 48 then tS 5 else bif Nat.beq t 50 then ⟨2,32,1,0,0,[iZ,.dC],[(0,3),(1,48)]⟩ else ng)
      else(bif Nat.beq t 52 then ⟨2,16,1,0,0,[iZ,iZ],[(0,29),(1,3)]⟩ else bif Nat.beq t 54 then ⟨4,32,1,0,0,[iZ,iZ,iZ,iZ],[(0,3),(1,3),(2,52)]⟩ else bif Nat.beq t 58 then ⟨16,192,1,0,0,[.d (.v (.bool false)),iZ,iZ,iZ,iZ,iZ,iZ,iZ,.dC,iZ,iZ,iZ,iZ,.dC,.dC,.dC],[(0,4),(1,3),(2,3),(3,3),(4,3),(5,3),(6,3),(7,3),(8,28),(9,41)]⟩ else ng))))
   else(bif Nat.ble t 85 then(bif Nat.ble t 72 then(bif Nat.ble t 66 then(bif Nat.beq t 64 then tS 33 else bif Nat.beq t 66 then tS 69 else ng)
      else(bif Nat.beq t 69 then ⟨16,152,1,0,0,[iZ,iZ,iZ,iZ,iZ,iZ,iZ,iZ,iZ,iZ,iZ,.dC,.d (.v (.string ⟨#[]⟩)),.d (.v (.bool false)),iZ,iZ],[(0,3),(1,3),(2,3),(3,3),(4,3),(5,33),(13,4),(14,52)]⟩ else bif Nat.beq t 71 then ⟨5,64,1,0,0,[iZ,iZ,.dC,.d (.v (.bool false)),.d (.v (.string ⟨#[]⟩))],[(0,3),(1,3),(2,31),(3,4),(4,9)]⟩ else bif Nat.beq t 72 then tS 76 else ng))
     else(bif Nat.ble t 76 then(bif Nat.beq t 73 then tP else bif Nat.beq t 75 then ⟨4,64,1,0,0,[.dC,.d (.v (.pointer none)),.dC,iZ],[(0,72),(1,73),(2,66),(3,3)]⟩ else bif Nat.beq t 76 then tP else ng)
      else(bif Nat.beq t 78 then tS 126 else bif Nat.beq t 81 then ⟨1,8,10,0,0,[.d (.v .nilFunc)],[]⟩ else bif Nat.beq t 85 then ⟨1,8,4,81,3,[.d (.v (.map none))],[]⟩ else ng)))
    else(bif Nat.ble t 111 then(bif Nat.ble t 97 then(bif Nat.beq t 86 then ⟨1,8,10,0,0,[.d (.v .nilFunc)],[]⟩ else bif Nat.beq t 90 then tS 163 else bif Nat.beq t 97 then ⟨2,16,1,0,0,[iZ,iZ],[(0,3),(1,3)]⟩ else ng)
      else(bif Nat.beq t 108 then tP else bif Nat.beq t 110 then ⟨4,48,1,0,0,[iZ,iZ,iZ,.dC],[(0,3),(1,3),(2,3),(3,28)]⟩ else bif Nat.beq t 111 then tS 4 else ng))
     else(bif Nat.ble t 117 then(bif Nat.beq t 113 then ⟨4,96,1,0,0,[.dC,.dC,.dC,.dC],[(0,111),(1,31),(2,31),(3,31)]⟩ else bif Nat.beq t 115 then ⟨20,304,1,0,0,[iZ,iZ,iZ,iZ,.dC,iZ,iZ,iZ,iZ,iZ,iZ,iZ,.dC,.dC,.dC,.dC,.dC,.dC,.dC,.dC],[(0,3),(1,110),(5,3),(6,3),(7,3),(8,41),(15,43),(16,113)]⟩ else bif Nat.beq t 117 then ⟨23,328,1,0,0,[iZ,iZ,.d (.v (.pointer none)),iZ,iZ,iZ,iZ,.dC,iZ,iZ,iZ,iZ,iZ,iZ,iZ,.dC,.dC,.dC,.dC,.dC,.dC,.dC,.dC],[(0,3),(1,3),(2,108),(3,115)]⟩ else ng)
      else(bif Nat.beq t 118 then tS 138 else bif Nat.beq t 126 then ⟨10,96,1,0,0,[iZ,iZ,iZ,iZ,iZ,iZ,iZ,iZ,.d (.v (.bool false)),.dC],[(0,3),(1,3),(2,3),(3,3),(4,3),(5,3),(6,3),(7,3),(8,4),(9,28)]⟩ else bif Nat.beq t 138 then ⟨4,48,1,0,0,[iZ,iZ,iZ,.dC],[(0,3),(1,3),(2,3),(3,48)]⟩ else ng)))))
  else(bif Nat.ble t 244 then(bif Nat.ble t 174 then(bif Nat.ble t 146 then(bif Nat.ble t 141 then(bif Nat.beq t 139 then ⟨1,8,10,0,0,[.d (.v .nilFunc)],[]⟩ else bif Nat.beq t 141 then tS 48 else ng)
      else(bif Nat.beq t 143 then ⟨0,0,1,0,0,[],[]⟩ else bif Nat.beq t 144 then ⟨0,0,1,0,0,[],[]⟩ else bif Nat.beq t 146 then ⟨1,8,1,0,0,[iZ],[(0,143),(0,144),(0,2)]⟩ else ng))
     else(bif Nat.ble t 160 then(bif Nat.beq t 148 then ⟨4,48,1,0,0,[.dC,iZ,iZ,iZ],[(0,141),(1,146),(2,146),(3,146)]⟩ else bif Nat.beq t 159 then ⟨1,8,10,0,0,[.d (.v .nilFunc)],[]⟩ else bif Nat.beq t 160 then ⟨7,56,2,3,7,[iZ,iZ,iZ,iZ,iZ,iZ,iZ],[]⟩ else ng)
      else(bif Nat.beq t 161 then ⟨1,8,5,0,0,[.d (.v (.int .u64 0))],[]⟩ else bif Nat.beq t 163 then ⟨4,48,1,0,0,[iZ,iZ,.d (.v (.int .u64 0)),.dC],[(0,3),(1,3),(2,161),(3,48)]⟩ else bif Nat.beq t 174 then ⟨5,48,1,0,0,[.dC,iZ,.d (.v (.bool false)),.d (.v (.bool false)),iZ],[(0,48),(1,3),(2,4),(3,4),(4,3)]⟩ else ng)))
    else(bif Nat.ble t 214 then(bif Nat.ble t 194 then(bif Nat.beq t 180 then ⟨5,40,1,0,0,[iZ,iZ,iZ,iZ,iZ],[(0,3),(1,3),(2,3),(3,3),(4,3)]⟩ else bif Nat.beq t 194 then ⟨1,8,4,139,3,[.d (.v (.map none))],[]⟩ else ng)
      else(bif Nat.beq t 198 then tP else bif Nat.beq t 210 then tS 214 else bif Nat.beq t 214 then ⟨5,32,1,0,0,[iZ,iZ,iZ,.d (.v (.bool false)),.d (.v (.bool false))],[(0,3),(1,3),(2,3),(3,4),(4,4)]⟩ else ng))
     else(bif Nat.ble t 239 then(bif Nat.beq t 233 then ⟨1,8,5,0,0,[.d (.v (.int .u64 0))],[]⟩ else bif Nat.beq t 234 then ⟨1,4,5,0,0,[.d (.v (.int .u32 0))],[]⟩ else bif Nat.beq t 239 then ⟨1,8,10,0,0,[.d (.v .nilFunc)],[]⟩ else ng)
      else(bif Nat.beq t 241 then ⟨6,48,1,0,0,[iZ,iZ,.d (.v (.bool false)),iZ,iZ,.d (.v .nilFunc)],[(0,3),(1,3),(2,4),(3,3),(4,3),(5,239)]⟩ else bif Nat.beq t 242 then ⟨1,8,4,241,3,[.d (.v (.map none))],[]⟩ else bif Nat.beq t 244 then tP else ng))))
   else(bif Nat.ble t 319 then(bif Nat.ble t 290 then(bif Nat.ble t 267 then(bif Nat.beq t 249 then ⟨1,8,10,0,0,[.d (.v .nilFunc)],[]⟩ else bif Nat.beq t 267 then ⟨1,8,4,3,3,[.d (.v (.map none))],[]⟩ else ng)
      else(bif Nat.beq t 271 then ⟨2,16,1,0,0,[iZ,iZ],[(0,3),(1,3)]⟩ else bif Nat.beq t 272 then ⟨1,8,4,271,3,[.d (.v (.map none))],[]⟩ else bif Nat.beq t 290 then ⟨5,40,2,3,5,[iZ,iZ,iZ,iZ,iZ],[]⟩ else ng))
     else(bif Nat.ble t 303 then(bif Nat.beq t 299 then ⟨10,104,1,0,0,[iZ,iZ,iZ,iZ,iZ,iZ,.dC,.d (.v (.string ⟨#[]⟩)),.d (.v (.bool false)),iZ],[(0,33),(8,4),(9,29)]⟩ else bif Nat.beq t 302 then ⟨1,8,4,210,3,[.d (.v (.map none))],[]⟩ else bif Nat.beq t 303 then ⟨2,8,2,234,2,[.d (.v (.int .u32 0)),.d (.v (.int .u32 0))],[]⟩ else ng)
      else(bif Nat.beq t 309 then ⟨1,8,10,0,0,[.d (.v .nilFunc)],[]⟩ else bif Nat.beq t 317 then ⟨1,8,10,0,0,[.d (.v .nilFunc)],[]⟩ else bif Nat.beq t 319 then ⟨1,8,10,0,0,[.d (.v .nilFunc)],[]⟩ else ng)))
    else(bif Nat.ble t 331 then(bif Nat.ble t 323 then(bif Nat.beq t 321 then ⟨1,8,10,0,0,[.d (.v .nilFunc)],[]⟩ else bif Nat.beq t 322 then ⟨1,8,10,0,0,[.d (.v .nilFunc)],[]⟩ else bif Nat.beq t 323 then ⟨1,8,10,0,0,[.d (.v .nilFunc)],[]⟩ else ng)
      else(bif Nat.beq t 324 then ⟨1,8,10,0,0,[.d (.v .nilFunc)],[]⟩ else bif Nat.beq t 329 then tP else bif Nat.beq t 331 then ⟨1,8,4,323,3,[.d (.v (.map none))],[]⟩ else ng))
     else(bif Nat.ble t 344 then(bif Nat.beq t 333 then ⟨1,8,5,0,0,[iZ],[]⟩ else bif Nat.beq t 342 then ⟨1,8,10,0,0,[.d (.v .nilFunc)],[]⟩ else bif Nat.beq t 344 then ⟨1,8,10,0,0,[.d (.v .nilFunc)],[]⟩ else ng)
      else(bif Nat.beq t 352 then ⟨65,520,2,3,65,(List.replicate 65 (iZ)),[]⟩ else bif Nat.beq t 354 then ⟨1,8,5,0,0,[.d (.v (.int .u64 0))],[]⟩ else bif Nat.beq t 358 then tP else ng)))))
def nbf{t a:Nat}(h:t≠a):Nat.beq t a=false:=by
 rcases hb:Nat.beq t a with _|_
 ·rfl
 ·exact ai (Nat.eq_of_beq_eq_true hb) h
def tz{n:Nat}{d:TypeDesc}(hu:prog.underlying n=some d)(h1:(prog.info? n).map (U0 (tI n))=some true:=by kernel_rfl)(h2:wX d (tI n)=true:=by kernel_rfl):Et n (tI n):=Et.of (d:=d) h1 hu h2
def dP{t n:Nat}(hy:Et n (tI n))(k:Nat.beq t n=false->(tI t).ok=false\/Et t (tI t)):(tI t).ok=false\/Et t (tI t):=by
 by_cases h:t=n
 ·subst h;exact .inr hy
 ·exact k (nbf h)
def aun(t:Nat):(tI t).ok=false\/Et t (tI t):=by
 refine dP (tz underlying2) λ_=>?_
 refine dP (tz underlying3) λ_=>?_
 refine dP (tz underlying4) λ_=>?_
 refine dP (tz underlying5) λ_=>?_
 refine dP (tz underlying9) λ_=>?_
 refine dP (tz underlying22) λ_=>?_
 refine dP (tz underlying24) λ_=>?_
 refine dP (tz underlying28) λ_=>?_
 refine dP (tz underlying29) λ_=>?_
 refine dP (tz underlying31) λ_=>?_
 refine dP (tz underlying33) λ_=>?_
 refine dP (tz underlying35) λ_=>?_
 refine dP (tz underlying37) λ_=>?_
 refine dP (tz underlying38) λ_=>?_
 refine dP (tz underlying39) λ_=>?_
 refine dP (tz underlying41) λ_=>?_
 refine dP (tz underlying43) λ_=>?_
 refine dP (tz underlying48) λ_=>?_
 refine dP (tz underlying50) λ_=>?_
 refine dP (tz underlying52) λ_=>?_
 refine dP (tz underlying54) λ_=>?_
 refine dP (tz underlying58) λ_=>?_
 refine dP (tz underlying64) λ_=>?_
 refine dP (tz underlying66) λ_=>?_
 refine dP (tz underlying69) λ_=>?_
 refine dP (tz underlying71) λ_=>?_
 refine dP (tz underlying72) λ_=>?_
 refine dP (tz underlying73) λ_=>?_
 refine dP (tz underlying75) λ_=>?_
 refine dP (tz underlying76) λ_=>?_
 refine dP (tz underlying78) λ_=>?_
 refine dP (tz underlying81) λ_=>?_
 refine dP (tz underlying85) λ_=>?_
 refine dP (tz underlying86) λ_=>?_
 refine dP (tz underlying90) λ_=>?_
 refine dP (tz underlying97) λ_=>?_
 refine dP (tz underlying108) λ_=>?_
 refine dP (tz underlying110) λ_=>?_
 refine dP (tz underlying111) λ_=>?_
 refine dP (tz underlying113) λ_=>?_
 refine dP (tz underlying115) λ_=>?_
 refine dP (tz underlying117) λ_=>?_
 refine dP (tz underlying118) λ_=>?_
 refine dP (tz underlying126) λ_=>?_
 refine dP (tz underlying138) λ_=>?_
 refine dP (tz underlying139) λ_=>?_
 refine dP (tz underlying141) λ_=>?_
 refine dP (tz underlying143) λ_=>?_
 refine dP (tz underlying144) λ_=>?_
 refine dP (tz underlying146) λ_=>?_
 refine dP (tz underlying148) λ_=>?_
 refine dP (tz underlying159) λ_=>?_
 refine dP (tz underlying160) λ_=>?_
 refine dP (tz underlying161) λ_=>?_
 refine dP (tz underlying163) λ_=>?_
 refine dP (tz underlying174) λ_=>?_
 refine dP (tz underlying180) λ_=>?_
 refine dP (tz underlying194) λ_=>?_
 refine dP (tz underlying198) λ_=>?_
 refine dP (tz underlying210) λ_=>?_
 refine dP (tz underlying214) λ_=>?_
 refine dP (tz underlying233) λ_=>?_
 refine dP (tz underlying234) λ_=>?_
 refine dP (tz underlying239) λ_=>?_
 refine dP (tz underlying241) λ_=>?_
 refine dP (tz underlying242) λ_=>?_
 refine dP (tz underlying244) λ_=>?_
 refine dP (tz underlying249) λ_=>?_
 refine dP (tz underlying267) λ_=>?_
 refine dP (tz underlying271) λ_=>?_
 refine dP (tz underlying272) λ_=>?_
 refine dP (tz underlying290) λ_=>?_
 refine dP (tz underlying299) λ_=>?_
 refine dP (tz underlying302) λ_=>?_
 refine dP (tz underlying303) λ_=>?_
 refine dP (tz underlying309) λ_=>?_
 refine dP (tz underlying317) λ_=>?_
 refine dP (tz underlying319) λ_=>?_
 refine dP (tz underlying321) λ_=>?_
 refine dP (tz underlying322) λ_=>?_
 refine dP (tz underlying323) λ_=>?_
 refine dP (tz underlying324) λ_=>?_
 refine dP (tz underlying329) λ_=>?_
 refine dP (tz underlying331) λ_=>?_
 refine dP (tz underlying333) λ_=>?_
 refine dP (tz underlying342) λ_=>?_
 refine dP (tz underlying344) λ_=>?_
 refine dP (tz underlying352) λ_=>?_
 refine dP (tz underlying354) λ_=>?_
 refine dP (tz underlying358) λ_=>?_
 left;simp only [tI, bz, Bool.cond_self, *];rfl
def Z9(t:Nat)(h:(tI t).ok=true):Et t (tI t):=(aun t).resolve_left (by rw[h];decide)
section
def Bs(w:World)(B:Nat)(A:Option Addr)(l:List UInt8):Prop:=
 0<l.length->∃ b off,A=some ⟨b,off,none⟩/\b<B/\∀ i,i<l.length->w.cell? ⟨b,off+i,none⟩=some (.int .u8 ((l.getD i 0).toNat:Int))
def Bs.nil{w:World}{B:Nat}{A:Option Addr}:Bs w B A []:=λh=>ai h (by simp)
def Bs.axz{w w':World}{B:Nat}{A:Option Addr}{l:List UInt8}(h:Bs w B A l)(hk:∀ p:Addr,p.block<B->w'.cell? p=w.cell? p):Bs w' B A l:=
 λhl=>by
  obtain⟨b,off,rfl,hb,hc⟩:=h hl;exact⟨b,off,rfl,hb,λi hi=>(hk _ hb).trans (hc i hi)⟩
def Bs.more{w:World}{B B':Nat}{A:Option Addr}{l:List UInt8}(h:Bs w B A l)(hB:B<=B'):Bs w B' A l:=
 λhl=>by
  obtain⟨b,off,rfl,hb,hc⟩:=h hl;exact⟨b,off,rfl,by omega,hc⟩
def Bs.below{w w':World}{B:Nat}{A:Option Addr}{l:List UInt8}(h:Bs w B A l)(hb:Below B w w'):Bs w' B A l:=h.axz λ_ hp=>hb.cell hp
def Bs.take{w:World}{B:Nat}{A:Option Addr}{l:List UInt8}(h:Bs w B A l)(n:Nat):Bs w B A (l.take n):=λhl=>by
 obtain⟨b,off,rfl,hb,hc⟩:=h (by simp at hl;omega);refine⟨b,off,rfl,hb,λi hi=>?_⟩;have hi':i<n/\i<l.length:=by simp at hi;omega
 rw[hc i hi'.2];simp[hi'.1]
def Bs.drop{w:World}{B b off:Nat}{l:List UInt8}(h:Bs w B (some ⟨b,off,none⟩) l)(n:Nat):Bs w B (some ⟨b,off+n,none⟩) (l.drop n):=λhl=>by
 have hl':n<l.length:=by simp at hl;omega
 obtain⟨b',off',he,hb,hc⟩:=h qO;injection he with he
 injection he with h1 h2
 subst h1 h2;refine⟨b,off+n,rfl,hb,λi hi=>?_⟩;have hi':n+i<l.length:=by simp at hi;omega
 rw[Nat.add_assoc,hc (n+i) hi'];simp
def Bs.drewN{w:World}{B:Nat}{A:Option Addr}{l:List UInt8}(h:Bs w B A l)(k:Nat):Bs (w.drewN k) B A l:=h.axz λ_ _=>rfl
def below_drewN{B:Nat}{a w:World}(h:Below B a w)(k:Nat):Below B a (w.drewN k):=⟨h.os,h.tape,h.output,h.size,h.block⟩
def bv(b:UInt8):Value:=.int .u8 (b.toNat:Int)
def Bs.new{w:World}{C:Array Value}{t:TypeId}{fr:Nat×Nat}{l:List UInt8}{B:Nat}(hB:w.heap.size<B)(h:C.toList.take l.length=l.map bv):Bs (w.alloc (.cells C t fr)) B (some ⟨w.heap.size,0,none⟩) l:=
 λ_=>⟨w.heap.size,0,rfl,hB,λi hi=>by
  rw[World.cell?_alloc_mark,jq];have h2:(C.toList.take l.length)[i]?=(l.map bv)[i]?:=by rw[h]
  rw[nX,if_pos hi]at h2;simp[hi,bv]at h2 ⊢;exact h2⟩
def qc(w:World)(g:Nat)(t:TypeId)(cs:Array Value):Prop:=w.heap[g]?=some (.cells cs t (0,0))
section
variable {w w':World} {g:Nat} {t:TypeId} {cs:Array Value}
def qc.cell(h:qc w g t cs)(i:Nat):w.cell? ⟨g,i,none⟩=cs[i]?:=cell_of_row w g i cs t (0,0) h
def qc.free(h:qc w g t cs)(i:Nat):w.frozen? ⟨g,i,none⟩=false:=by unfold qc at h;simp[World.frozen?,h]
def qc.lt(h:qc w g t cs):g<w.heap.size:=(Array.getElem?_eq_some_iff.1 h).1
def qc.new(w:World)(t:TypeId)(cs:Array Value):qc (w.alloc (.cells cs t)) w.heap.size t cs:=heap_alloc_new w _
def qc.set(h:qc w g t cs)(i:Nat)(u:Value):qc (w.setCell ⟨g,i,none⟩ u) g t (cs.setIfInBounds i u):=by
 unfold qc at h ⊢;simp[World.setCell,Array.getElem?_modify,h]
def qc.alloc(h:qc w g t cs)(o:Obj):qc (w.alloc o) g t cs:=(Below.heap_alloc w o g h.lt).trans h
end
end
def jr(l:List UInt8):ByteArray:=⟨l.toArray⟩
def aiN(bs:ByteArray)(k:Nat):∀(i:Nat) (r:List UInt8),bs.size-i=k->ByteArray.toList.loop bs i r=r.reverse++bs.data.toList.drop i:=by
 induction k with
 |zero=>
  intro i r h;unfold ByteArray.toList.loop;have hsz:bs.data.toList.length=bs.size:=rfl;rw[if_neg qO,List.drop_of_length_le qO,pO]
 |succ k ih=>
  intro i r h;have hsz:bs.data.toList.length=bs.size:=rfl;unfold ByteArray.toList.loop;rw[if_pos qO,ih (i+1) _ qO,List.reverse_cons,jV];congr 1;have hi:i<bs.data.toList.length:=qO;rw[List.drop_eq_getElem_cons hi];show [bs.get! i]++_=_;rw[List.singleton_append];congr 1;simp[ByteArray.get!,hsz▸hi]
def QG(l:List UInt8):(jr l).toList=l:=by
 unfold jr ByteArray.toList;rw[aiN _ _ 0 [] rfl];simp
def str_eq(a b:List UInt8):((jr a).toList == (jr b).toList)=(a == b):=by rw[QG,QG]
def QE{P:Program}(src dst e:TypeId)(hs:P.underlying src=some (.slice e))(he:P.underlying e=some (.int .u8))(hd:P.underlying dst=some .string)
  {w:World} {B n c:Nat} {A:Option Addr} {l:List UInt8} (hn:l.length=n) (hA:Bs w B A l):(convert src dst (.slice A n c)).run P w = .ok (.string (jr l)) w:=by
 subst hn;obtain h0|h0:=uK l.length
 ·obtain rfl:=uI h0;cases A with
  |none=>
   rw[run_convert_bytes_string w src dst e _ _ _ hs he hd];rfl
  |some a=>exact run_convert_bytes_back w src dst e a c [] hs he hd (λj hj=>ai hj (by simp))
 ·obtain⟨b,off,rfl,_,hc⟩:=hA h0;refine run_convert_bytes_back w src dst e ⟨b,off,none⟩ c l hs he hd (λj hj=>?_);rw[Addr.add_lit,hc j hj];simp[List.getD,hj]
def dD:List (Nat×V)->Nat->V
 |[],_=>.top
 |(k,v)::r,j=>bif Nat.beq k j then v else dD r j
def axA:List (Nat×aK)->Nat->aK
 |[],_=>.dead
 |(k,v)::r,j=>bif Nat.beq k j then v else axA r j
structure ST where
 st:List (Nat×aK)
 nx:Nat
def ST.get(s:ST)(i:Nat):aK:=axA s.st i
def PR:List (Nat×aK)->Nat->aK->List (Nat×aK)
 |[],i,o=>[(i,o)]
 |(j,x)::r,i,o=>bif Nat.beq j i then(j,o)::r else(j,x)::PR r i o
def ST.set(s:ST)(i:Nat)(o:aK):ST:=⟨PR s.st i o,s.nx⟩
def ST.new(s:ST)(o:aK):ST:=⟨(s.nx,o)::s.st,s.nx+1⟩
structure AS where
 nt:Nat
 sl:List (Nat×V)
 s:ST
def evC:Value->V
 |.slice none 0 0=>.dC
 |x=>.d (.v x)
def AS.ev(s:AS):Operand->V
 |.tmp t=>dD s.sl t
 |.const x=>evC x
 |.global _=>.top
 |.func f=>.fn f 0 0 (λ_=>.top)
def AS.put(s:AS)(d:Option Nat)(v:V)(t:ST):AS:=match d with|some k=>⟨s.nt,(k,v)::s.sl,t⟩|none=>⟨s.nt,s.sl,t⟩
def AS.fits(s:AS):Option Nat->Bool
 |some k=>Nat.blt k s.nt
 |none=>true
def pz(n:Nat)(K:Nat->Prop):Prop:=match n with
 |0=>K 0
 |1=>K 1
 |2=>K 2
 |3=>K 3
 |4=>K 4
 |5=>K 5
 |6=>K 6
 |7=>K 7
 |8=>K 8
 |9=>K 9
 |10=>K 10
 |11=>K 11
 |12=>K 12
 |13=>K 13
 |14=>K 14
 |15=>K 15
 |16=>K 16
 |17=>K 17
 |18=>K 18
 |19=>K 19
 |20=>K 20
 |21=>K 21
 |22=>K 22
 |23=>K 23
 |n=>K n
def uM(n:Nat)(K:Nat->Prop):pz n K=K n:=by
 unfold pz;split <;> rfl
def force(v:V)(K:V->Prop):Prop:=
 match v with
 |.top=>K .top|.dC=>K .dC|.dp s g=>K (.dp s g)|.ptr i o=>pz i λi=>K (.ptr i o)|.rp i n j c=>pz i λi=>K (.rp i n j c)|.row i n=>pz i λi=>K (.row i n)
 |.vw i n lo m=>pz i λi=>K (.vw i n lo m)|.agg n g=>K (.agg n g)|.gQ n g=>K (.gQ n g)|.fn f nf n g=>K (.fn f nf n g)|.mp i=>pz i λi=>K (.mp i)|.kQ t w x=>K (.kQ t w x)
 |.d x=>(match x with|.v y=>K (.d (.v y))|.sl n s g=>K (.d (.sl n s g)))
def force_eq(v:V)(K:V->Prop):force v K=K v:=by
 cases v
 case d x=>cases x <;> rfl
 case ptr i o=>exact uM i λi=>K (.ptr i o)
 case rp i n j c=>exact uM i λi=>K (.rp i n j c)
 case row i n=>exact uM i λi=>K (.row i n)
 case vw i n lo m=>exact uM i λi=>K (.vw i n lo m)
 case mp i=>exact uM i λi=>K (.mp i)
 all_goals rfl
def afX(o:aK)(K:aK->Prop):Prop:=match o with|.dead=>K .dead|.Wp n g=>K (.Wp n g)|.row E s n g=>K (.row E s n g)|.map es=>K (.map es)
def ajF(o:aK)(K:aK->Prop):afX o K=K o:=by cases o <;> rfl
def J7:List (Nat×aK)->(List (Nat×aK)->Prop)->Prop
 |[],K=>K []
 |(i,o)::r,K=>pz i λi=>afX o λo=>J7 r λr=>K ((i,o)::r)
def WM:∀(l:List (Nat×aK)) (K:List (Nat×aK)->Prop),J7 l K=K l
 |[],_=>rfl
 |(i,o)::r,K=>by unfold J7;rw[uM,ajF,WM r]
def Io(t:ST)(K:ST->Prop):Prop:=match t with|⟨l,n⟩=>pz n λn=>J7 l λl=>K ⟨l,n⟩
def Rj(t:ST)(K:ST->Prop):Io t K=K t:=by
 obtain⟨l,n⟩:=t;exact(uM n λn=>J7 l λl=>K ⟨l,n⟩).trans (WM l λl=>K ⟨l,n⟩)
def OI:List (Nat×V)->(List (Nat×V)->Prop)->Prop
 |[],K=>K []
 |p::r,K=>OI r λr=>K (p::r)
def RN:∀(l:List (Nat×V)) (K:List (Nat×V)->Prop),OI l K=K l
 |[],_=>rfl
 |p::r,K=>RN r _
def Lh(s:AS)(d:Option Nat)(v:V)(t:ST)(K:AS->Prop):Prop:=
 force v λv=>Io t λt=>match s with
  |⟨nt,sl,_⟩=>match d with
   |some k=>K ⟨nt,(k,v)::sl,t⟩
   |none=>K ⟨nt,sl,t⟩
def afs(s:AS)(d:Option Nat)(v:V)(t:ST)(K:AS->Prop):Lh s d v t K=K (s.put d v t):=by
 unfold Lh;rw[force_eq,Rj];cases d <;> rfl
@[irreducible] def ag (p k:Prop):Prop:=p/\k
@[irreducible] def aj (t:Bool) (a b:Prop):Prop:=(t=true->a)/\(t=false->b)
@[irreducible] def wz (p:Bool->Prop) (k:Bool->Prop):Prop:=∀ t,p t->k t
def ag.mk{p k:Prop}(h:p)(hk:k):ag p k:=by unfold ag;exact⟨h,hk⟩
def ag.h{p k:Prop}(h:ag p k):p/\k:=by unfold ag at h;exact h
def aj.mk{t:Bool}{a b:Prop}(h:t=true->a)(hk:t=false->b):aj t a b:=by unfold aj;exact⟨h,hk⟩
def aj.h{t:Bool}{a b:Prop}(h:aj t a b):(t=true->a)/\(t=false->b):=by unfold aj at h;exact h
def wz.mk{p k:Bool->Prop}(h:∀ t,p t->k t):wz p k:=by unfold wz;exact h
def wz.h{p k:Bool->Prop}(h:wz p k):∀ t,p t->k t:=by unfold wz at h;exact h
def aaQ:V->Bool
 |.d (.v x)=>x.oneCell'
 |.d (.sl _ _ _)=>true
 |.dC=>true|.dp _ _=>true|.ptr _ _=>true|.rp _ _ _ _=>true|.row _ _=>true|.vw _ _ _ _=>true|.fn _ _ _ _=>true|.mp _=>true
 |_=>false
def F6(v:V)(K:Nat->(Nat->V)->Prop):Prop:=
 match v with
 |.agg n g=>K n g
 |v=>match aaQ v with|true=>K 1 (λ_=>v)|false=>False
def dM:IntKind->Int×Int
 |.i8=>(-128,127)|.i16=>(-32768,32767)|.i32=>(-2147483648,2147483647)|.i64=>(-9223372036854775808,9223372036854775807)
 |.u8=>(0,255)|.u16=>(0,65535)|.u32=>(0,4294967295)|.u64=>(0,18446744073709551615)
def Pj(M:Prop->Prop->Prop)(op:BinOp)(k:IntKind)(a b:Int)(K:V->Prop):Prop:=
 match op with
 |.lss=>K (.b (decide (a<b)))
 |.gtr=>K (.b (decide (b<a)))
 |.leq=>K (.b (decide (a<=b)))
 |.geq=>K (.b (decide (b<=a)))
 |.eql=>K (.b (decide (a=b)))
 |.neq=>K (.b (!decide (a=b)))
 |.add=>M ((dM k).1<=a+b/\a+b<=(dM k).2) (K (.int k (a+b)))
 |.sub=>M ((dM k).1<=a-b/\a-b<=(dM k).2) (K (.int k (a-b)))
 |.mul=>M ((dM k).1<=a*b/\a*b<=(dM k).2) (K (.int k (a*b)))
 |.quo=>M (0<=a/\a<=(dM k).2/\0<b) (K (.int k (a / b)))
 |.rem=>M (0<=a/\a<=(dM k).2/\0<b) (K (.int k (a % b)))
 |_=>False
def Qd(M:Prop->Prop->Prop)(op:BinOp)(t:Nat)(x y:V)(K:V->Prop):Prop:=
 match x,y with
 |.d (.v (.int k a)),.d (.v (.int k' b))=>match decide (k=k') with|true=>Pj M op k a b K|false=>False
 |.d (.v (.bool a)),.d (.v (.bool b))=>(match (tI t).k,op with
  |7,.eql=>K (.b (a == b))|7,.neq=>K (.b (!(a == b)))|_,_=>False)
 |.d (.v (.string a)),.d (.v (.string b))=>(match op with
  |.eql=>K (.b (a.toList == b.toList))|.neq=>K (.b (!(a.toList == b.toList)))|_=>False)
 |.d (.sl n _ _),.d (.v (.slice none 0 0))=>(match (tI t).k,op with|3,.eql=>wz (λt=>t=true->n=0) (λt=>K (.b t))|_,_=>False)
 |.dC,.d (.v (.slice none 0 0))=>(match (tI t).k,op with|3,.eql=>wz (λt=>t=true->0=0) (λt=>K (.b t))|_,_=>False)
 |.ptr _ _,.d (.v (.pointer none))=>(match (tI t).k,op with|8,.eql=>K (.b false)|8,.neq=>K (.b true)|_,_=>False)
 |.d (.v (.pointer none)),.d (.v (.pointer none))=>(match (tI t).k,op with|8,.eql=>K (.b true)|8,.neq=>K (.b false)|_,_=>False)
 |.fn _ _ _ _,.d (.v .nilFunc)=>(match (tI t).k,op with|10,.eql=>K (.b false)|10,.neq=>K (.b true)|_,_=>False)
 |.d (.v .nilFunc),.d (.v .nilFunc)=>(match (tI t).k,op with|10,.eql=>K (.b true)|10,.neq=>K (.b false)|_,_=>False)
 |.agg 2 g,.agg 2 h=>(match Nat.beq t 52,g 0,g 1,h 0,h 1,op with
  |true,.d (.v (.int .i64 a)),.d (.v (.int .i64 b)),.d (.v (.int .i64 c)),.d (.v (.int .i64 d)),.neq=>K (.b (!(decide (a=c)&&decide (b=d))))
  |_,_,_,_,_,_=>False)
 |_,_=>False
def CV(t f:Nat)(K:Nat->Nat->Prop):Prop:=
 match (tI t).k,(tI t).EJ[f]? with
 |1,some (off,ft)=>(match (tI ft).ok&&Nat.blt 0 (tI ft).size with|true=>K off ft|false=>False)
 |_,_=>False
def oK(g:Nat->V)(off m:Nat)(h:Nat->V)(k:Nat):V:=bif Nat.ble off k&&Nat.blt k (off+m) then h (k-off) else g k
def mr(g:Nat->Nat->V)(j c m:Nat)(h:Nat->V)(a b:Nat):V:=bif Nat.beq a j&&(Nat.ble c b&&Nat.blt b (c+m)) then h (b-c) else g a b
def axE(n:Nat)(g h:Nat->Nat->V)(j k:Nat):V:=bif Nat.blt j n then g j k else h (j-n) k
def qE(p m:Nat)(g h:Nat->Nat->V)(j k:Nat):V:=bif Nat.blt j p then g j k else(bif Nat.blt j (p+m) then h (j-p) k else g j k)
def iM(t k:Nat):V:=(tI t).zero.getD k .top
def KT(M:Prop->Prop->Prop)(t:Nat)(x:V)(s:ST)(K:V->Prop):Prop:=
 match (tI t).ok with
 |false=>False
 |true=>match x with
  |.ptr i off=>(match s.get i with
   |.Wp n g=>(match (tI t).agg with
    |true=>M (off+(tI t).size<=n) (K (.agg (tI t).size (λk=>g (off+k))))
    |false=>M (off<n) (K (g off)))
   |_=>False)
  |.rp i n j c=>(match s.get i with
   |.row E z m g=>(match (tI t).agg with
    |true=>M (n=m/\j<n/\c+(tI t).size<=z) (K (.agg (tI t).size (λk=>g j (c+k))))
    |false=>M (n=m/\j<n/\c<z) (K (g j c)))
   |_=>False)
  |.dp n g=>(match (tI t).agg with
   |true=>M ((tI t).size<=n) (K (.agg (tI t).size (λk=>.d (g k))))
   |false=>M (0<n) (K (.d (g 0))))
  |_=>False
def Ub(t:Nat)(x v:V)(s:ST)(K:ST->Prop):Prop:=
 match (tI t).ok with
 |false=>False
 |true=>F6 v λm h=>match Nat.beq m (tI t).size with
  |false=>False
  |true=>match x with
   |.ptr i off=>(match s.get i with
    |.Wp n g=>ag (off+m<=n) (K (s.set i (.Wp n (oK g off m h))))
    |_=>False)
   |.rp i n j c=>(match s.get i with
    |.row E z r g=>ag (n=r/\j<n/\c+m<=z) (K (s.set i (.row E z r (mr g j c m h))))
    |_=>False)
   |_=>False
def Gz(E:Nat)(x:V)(s:ST)(K:Nat->(Nat->Nat->V)->Prop):Prop:=
 match x with
 |.dC=>K 0 (λ_ _=>.top)
 |.d (.sl n z g)=>(match Nat.beq z (tI E).size with|true=>K n (λj k=>.d (g j k))|false=>False)
 |.row i n=>(match s.get i with
  |.row E' z m g=>(match Nat.beq E' E with|true=>ag (n=m) (K n g)|false=>False)
  |_=>False)
 |.vw i n lo m=>(match s.get i with
  |.row E' z r g=>(match Nat.beq E' E with|true=>ag (n=r/\lo+m<=n) (K m (λj k=>g (lo+j) k))|false=>False)
  |_=>False)
 |_=>False
def Oo(t:Nat)(x y:V)(s:ST)(K:V->ST->Prop):Prop:=
 match (tI t).k,(tI (tI t).elem).ok&&Nat.blt 0 (tI (tI t).elem).size&&Nat.blt (tI (tI t).elem).bytes 1000 with
 |3,true=>Gz (tI t).elem y s λm h=>match x with
  |.dC=>ag (m<=1000000) (K (.row s.nx m) (s.new (.row (tI t).elem (tI (tI t).elem).size m h)))
  |.row i n=>(match s.get i with
   |.row E z r g=>(match Nat.beq E (tI t).elem with
    |true=>ag (n=r/\n+m<=1000000) (K (.row i (n+m)) (s.set i (.row E z (n+m) (axE n g h))))
    |false=>False)
   |_=>False)
  |.vw i n lo q=>(match s.get i with
   |.row E z r g=>(match Nat.beq E (tI t).elem with
    |true=>ag (lo=0/\n=r/\q<=n/\q+m<=1000000) (K (.vw i (Nat.max n (q+m)) 0 (q+m)) (s.set i (.row E z (Nat.max n (q+m)) (qE q m g h))))
    |false=>False)
   |_=>False)
  |.d (.sl n z g)=>ag (m=0) (K (.d (.sl n z g)) s)
  |_=>False
 |_,_=>False
def Pq(t:Nat)(x y:V)(s:ST)(K:V->ST->Prop):Prop:=
 match (tI t).k,(tI (tI t).elem).ok&&Nat.blt 0 (tI (tI t).elem).size with
 |3,true=>Gz (tI t).elem y s λm h=>match x with
  |.row i n=>(match s.get i with
   |.row E z r g=>(match Nat.beq E (tI t).elem with
    |true=>ag (n=r) (K (.i (Nat.min m n)) (s.set i (.row E z n (qE 0 (Nat.min m n) g h))))
    |false=>False)
   |_=>False)
  |.vw i n lo q=>(match s.get i with
   |.row E z r g=>(match Nat.beq E (tI t).elem with
    |true=>ag (n=r/\lo+q<=n) (K (.i (Nat.min m q)) (s.set i (.row E z n (qE lo (Nat.min m q) g h))))
    |false=>False)
   |_=>False)
  |_=>False
 |_,_=>False
def OQ(t:Nat)(x:V)(s:ST)(K:V->ST->Prop):Prop:=
 match (tI t).k,(tI (tI t).elem).ok&&Nat.blt 0 (tI (tI t).elem).size,x with
 |3,true,.vw i n lo q=>(match s.get i with
  |.row E z r g=>(match Nat.beq E (tI t).elem with
   |true=>ag (n=r/\lo+q<=n) (K .top (s.set i (.row E z n (qE lo q g (λ_ k=>iM E k)))))
   |false=>False)
  |_=>False)
 |_,_,_=>False
def OB(M:Prop->Prop->Prop)(t:Nat)(x:V)(lo hi mx:Option V)(s:ST)(K:V->Prop):Prop:=
 match mx,(tI t).k,(tI (tI t).elem).ok with
 |none,3,true=>(match x with
  |.d (.sl n z g)=>(match Nat.beq z (tI (tI t).elem).size,lo,hi with
   |true,none,some (.d (.v (.int _ h)))=>M (0<=h/\h<=n) (K (.d (.sl h.toNat z g)))
   |true,some (.d (.v (.int _ l))),none=>M (0<=l/\l<=n) (K (.d (.sl (n-l.toNat) z (λj=>g (l.toNat+j)))))
   |true,some (.d (.v (.int _ l))),some (.d (.v (.int _ h)))=>M (0<=l/\l<=h/\h<=n) (K (.d (.sl (h.toNat-l.toNat) z (λj=>g (l.toNat+j)))))
   |_,_,_=>False)
  |.row i n=>(match s.get i with
   |.row E z r g=>(match Nat.beq E (tI t).elem,lo,hi with
    |true,none,some (.d (.v (.int _ h)))=>M (n=r/\0<=h/\h<=n) (K (.vw i n 0 h.toNat))
    |true,some (.d (.v (.int _ l))),none=>M (n=r/\0<=l/\l<=n) (K (.vw i n l.toNat (n-l.toNat)))
    |true,some (.d (.v (.int _ l))),some (.d (.v (.int _ h)))=>M (n=r/\0<=l/\l<=h/\h<=n) (K (.vw i n l.toNat (h.toNat-l.toNat)))
    |_,_,_=>False)
   |_=>False)
  |.vw i n zW q=>(match s.get i with
   |.row E z r g=>(match Nat.beq E (tI t).elem,lo,hi with
    |true,none,some (.d (.v (.int _ h)))=>M (n=r/\0<=h/\zW+h<=n) (K (.vw i n zW h.toNat))
    |true,some (.d (.v (.int _ l))),none=>M (n=r/\0<=l/\l<=q/\zW+q<=n) (K (.vw i n (zW+l.toNat) (q-l.toNat)))
    |true,some (.d (.v (.int _ l))),some (.d (.v (.int _ h)))=>M (n=r/\0<=l/\l<=h/\zW+h<=n) (K (.vw i n (zW+l.toNat) (h.toNat-l.toNat)))
    |_,_,_=>False)
   |_=>False)
  |_=>False)
 |some (.d (.v (.int _ q))),3,true=>(match x,lo,hi with
  |.row i n,some (.d (.v (.int _ l))),some (.d (.v (.int _ h)))=>(match s.get i with
   |.row E z r g=>(match Nat.beq E (tI t).elem with
    |true=>M (n=r/\0<=l/\l<=h/\h<=q/\q<=n) (K .top)
    |false=>False)
   |_=>False)
  |.vw i n zW m,some (.d (.v (.int _ l))),some (.d (.v (.int _ h)))=>(match s.get i with
   |.row E z r g=>(match Nat.beq E (tI t).elem with
    |true=>M (n=r/\0<=l/\l<=h/\h<=q/\zW+q<=n) (K .top)
    |false=>False)
   |_=>False)
  |_,_,_=>False)
 |none,6,_=>(match x with
  |.d (.v (.string b))=>(match lo,hi with
   |none,some (.d (.v (.int _ h)))=>M (0<=h/\h<=b.size) (K (.str (b.extract 0 h.toNat)))
   |some (.d (.v (.int _ l))),none=>M (0<=l/\l<=b.size) (K (.str (b.extract l.toNat b.size)))
   |_,_=>False)
  |_=>False)
 |_,_,_=>False
def OG(M:Prop->Prop->Prop)(t:Nat)(x ix:V)(s:ST)(K:V->Prop):Prop:=
 match ix with
 |.d (.v (.int _ i))=>(match x with
  |.d (.sl n z g)=>(match Nat.beq z (tI (tI t).elem).size&&Nat.blt 0 z,(tI t).k,(tI (tI t).elem).ok with
   |true,3,true=>M (0<=i/\i<n) (K (.dp z (g i.toNat)))
   |_,_,_=>False)
  |.row r n=>(match s.get r,(tI t).k,(tI (tI t).elem).ok with
   |.row E z m g,3,true=>(match Nat.beq E (tI t).elem with|true=>M (n=m/\0<=i/\i<n) (K (.rp r n i.toNat 0))|false=>False)
   |_,_,_=>False)
  |.vw r n lo m=>(match s.get r,(tI t).k,(tI (tI t).elem).ok with
   |.row E z q g,3,true=>(match Nat.beq E (tI t).elem with|true=>M (n=q/\lo+m<=n/\0<=i/\i<m) (K (.rp r n (lo+i.toNat) 0))|false=>False)
   |_,_,_=>False)
  |.ptr r off=>(match (tI t).k,(tI (tI t).elem).ok,Nat.blt 1 (tI t).len with
   |2,true,true=>M (0<=i/\i<(tI t).len) (K (.ptr r (off+i.toNat*(tI (tI t).elem).size)))
   |_,_,_=>False)
  |_=>False)
 |_=>False
def Vr(t:Nat)(x:V)(s:ST)(K:V->Prop):Prop:=
 match x,(tI t).k with
 |.d (.sl n _ _),3=>K (.i n)
 |.row _ n,3=>K (.i n)
 |.vw _ _ _ m,3=>K (.i m)
 |.dC,3=>K (.i 0)
 |.d (.v (.string b)),6=>K (.i b.size)
 |_,_=>False
def zn(s:AS)(n:Nat)(z:Nat->V)(place:Nat->(Nat->Nat->Prop)->Prop):List (Nat×Operand)->(Nat->V)->((Nat->V)->Prop)->Prop
 |[],g,K=>K g
 |(i,x)::r,g,K=>place i λoff size=>F6 (s.ev x) λm h=>match Nat.beq m size with
  |true=>ag (off+m<=n) (zn s n z place r (oK g off m h) K)
  |false=>False
def UZ(v:V):Prop:=∃ b:UInt8,v = .d (.v (.int .u8 (b.toNat:Int)))
def Qi:V->UInt8
 |.d (.v (.int .u8 n))=>UInt8.ofNat n.toNat
 |_=>0
def Di(n:Nat)(g:Nat->Nat->V):ByteArray:=jr ((List.range n).map λj=>Qi (g j 0))
def axN(b:ByteArray):D:=.sl b.size 1 (λj _=>.v (.int .u8 ((b.data.toList.getD j 0).toNat:Int)))
def IQ(M:Prop->Prop->Prop)(a b:Nat)(x:V)(s:ST)(K:V->ST->Prop):Prop:=
 match (tI b).k,(tI a).k with
 |5,5=>(match x,(tI b).zero with
  |.d (.v (.int _ n)),[.d (.v (.int k _))]=>M ((dM k).1<=n/\n<=(dM k).2) (K (.int k n) s)
  |_,_=>False)
 |6,3=>(match Nat.beq (tI a).elem 5 with
  |true=>(match x with
   |.d (.sl n z g)=>(match Nat.beq z 1 with
    |true=>M (∀ j,j<n->UZ (.d (g j 0))) (K (.str (Di n (λj k=>.d (g j k)))) s)
    |false=>False)
   |.dC=>K (.str (jr [])) s
   |.row i n=>(match s.get i with
    |.row E z m g=>(match Nat.beq E 5 with
     |true=>M (n=m/\∀ j,j<n->UZ (g j 0)) (K (.str (Di n g)) s)
     |false=>False)
    |_=>False)
   |_=>False)
  |false=>False)
 |3,6=>(match Nat.beq (tI b).elem 5,x with
  |true,.d (.v (.string y))=>ag (y.size<=1000000) (K (.d (axN y)) s)
  |_,_=>False)
 |_,_=>False
def aie:V->D
 |.d x=>x
 |_=>.v undef
def dY:List (Int×V)->Int->Option V
 |[],_=>none
 |(k,v)::r,j=>bif decide (k=j) then some v else dY r j
def qw:Option V->Int
 |some (.d (.v (.int .i64 n)))=>n
 |_=>0
def zeroV(t:Nat):V:=match (tI t).agg with|true=>.agg (tI t).size (iM t)|false=>iM t 0
def okV(ok:Bool)(v:V)(there:Bool):V:=match ok with|true=>.gQ 2 (λk=>match k with|0=>v|_=>.b there)|false=>v
def KU(z:V)(k:Int)(ok:Bool)(K:V->Prop):List (Int×V)->Prop
 |[]=>K (okV ok z false)
 |(j,v)::r=>aj (decide (j=k)) (K (okV ok v true)) (KU z k ok K r)
def N9(M:Prop->Prop->Prop)(t:Nat)(m x:V)(ok:Bool)(s:ST)(K:V->Prop):Prop:=
 match (tI t).k,(tI (tI t).len).k,(tI (tI t).elem).ok,m,x with
 |4,5,true,.mp i,.d (.v (.int .i64 k))=>(match s.get i with
  |.map es=>(match (tI (tI t).elem).zero,(tI (tI t).elem).k,ok with
   |[.d (.v (.int .i64 0))],5,false=>M (∀ v,dY es k=some v->∃ n,v = .i n) (K (.i (qw (dY es k))))
   |_,_,_=>KU (zeroV (tI t).elem) k ok K es)
  |_=>False)
 |_,_,_,_,_=>False
def JW(t:Nat)(m x v:V)(s:ST)(K:ST->Prop):Prop:=
 match (tI t).k,(tI (tI t).len).k,m,x with
 |4,5,.mp i,.d (.v (.int .i64 k))=>(match s.get i with
  |.map es=>force v λv=>K (s.set i (.map ((k,v)::es)))
  |_=>False)
 |_,_,_,_=>False
def yL(s:AS):Option Operand->Option V
 |some x=>some (s.ev x)
 |none=>none
def ahA(n:Nat)(l:List V)(k:Nat):V:=l.getD k .top
def yI(n:Nat)(g:Nat->V):List V:=(List.range n).map g
def dF(M:Prop->Prop->Prop)(AZ:Nat->List V->ST->(V->ST->Prop)->Prop)(o:Op)(s:AS)(K:V->ST->Prop):Prop:=
 match o with
 |.move x=>K (s.ev x) s.s
 |.assign x=>K (s.ev x) s.s
 |.pick c a b=>(match s.ev c with
  |.d (.v (.bool t))=>(match s.ev a,s.ev b with
   |.d (.v (.bool x)),.d (.v (.bool y))=>K (.b (cond t x y)) s.s
   |.d (.v (.bool x)),.kQ t' w (.d (.v (.bool y)))=>M (t=false->t'=w) (K (.b (cond t x y)) s.s)
   |.kQ t' w (.d (.v (.bool x))),.d (.v (.bool y))=>M (t=true->t'=w) (K (.b (cond t x y)) s.s)
   |u,v=>aj t (K u s.s) (K v s.s))
  |_=>False)
 |.alloc t=>(match (tI t).ok with
  |true=>K (.ptr s.s.nx 0) (s.s.new (.Wp (tI t).size (iM t)))
  |false=>False)
 |.box _ x=>F6 (s.ev x) λn g=>K (.ptr s.s.nx 0) (s.s.new (.Wp n g))
 |.load t x=>KT M t (s.ev x) s.s λv=>K v s.s
 |.store t x v=>Ub t (s.ev x) (s.ev v) s.s λs'=>K .top s'
 |.fieldAddr t x f=>CV t f λoff _=>(match s.ev x with
  |.ptr i o=>K (.ptr i (o+off)) s.s
  |.dp n g=>M (off<=n) (K (.dp (n-off) (λk=>g (off+k))) s.s)
  |.rp i n j c=>K (.rp i n j (c+off)) s.s
  |_=>False)
 |.field t x f=>CV t f λoff ft=>(match s.ev x,(tI ft).ok with
  |.agg n g,true=>(match (tI ft).agg with
   |true=>M (off+(tI ft).size<=n) (K (.agg (tI ft).size (λk=>g (off+k))) s.s)
   |false=>M (off<n) (K (g off) s.s))
  |_,_=>False)
 |.indexAddr t x i=>OG M t (s.ev x) (s.ev i) s.s λv=>K v s.s
 |.slice t x lo hi mx=>OB M t (s.ev x) (yL s lo) (yL s hi) (yL s mx) s.s λv=>K v s.s
 |.binOp op t x y _=>Qd M op t (s.ev x) (match y with|.const c=>.d (.v c)|y=>s.ev y) λv=>K v s.s
 |.unOp .not _ x=>(match s.ev x with|.d (.v (.bool t))=>K (.b !t) s.s|_=>False)
 |.convert a b x=>IQ M a b (s.ev x) s.s K
 |.extract x i=>(match s.ev x with|.gQ n g=>M (i<n) (K (g i) s.s)|_=>False)
 |.nilCheck x=>(match s.ev x with
  |.ptr i o=>K (.ptr i o) s.s
  |.dp n g=>K (.dp n g) s.s
  |.rp i n j c=>K (.rp i n j c) s.s
  |_=>False)
 |.build t ps=>(match (tI t).k,(tI t).EJ.all (λp=>(tI p.2).ok) with
  |1,true=>zn s (tI t).size (iM t) (λi K'=>CV t i λoff ft=>(match (tI ft).ok with|true=>K' off (tI ft).size|false=>False)) ps.toList (iM t) λg=>K (.agg (tI t).size g) s.s
  |_,_=>False)
 |.buildSlice t n ps=>(match (tI t).k,(tI (tI t).elem).ok&&Nat.blt 0 (tI (tI t).elem).size with
  |3,true=>ag (n*(tI (tI t).elem).size<=1000000) (zn s (n*(tI (tI t).elem).size) (λ_=>.top) (λi K'=>K' (i*(tI (tI t).elem).size) (tI (tI t).elem).size) ps.toList (λk=>iM (tI t).elem (k % (tI (tI t).elem).size)) λg=>
    K (.row s.s.nx n) (s.s.new (.row (tI t).elem (tI (tI t).elem).size n (λj k=>g (j*(tI (tI t).elem).size+k)))))
  |_,_=>False)
 |.makeSlice t a b=>(match (tI t).k,(tI (tI t).elem).ok&&Nat.blt 0 (tI (tI t).elem).size,Nat.blt (tI (tI t).elem).bytes 1000,s.ev a,s.ev b with
  |3,true,true,.d (.v (.int _ n)),.d (.v (.int _ m))=>ag (0<=n/\n<=100000/\m=n) (K (.row s.s.nx n.toNat) (s.s.new (.row (tI t).elem (tI (tI t).elem).size n.toNat (λ_ k=>iM (tI t).elem k))))
  |_,_,_,_,_=>False)
 |.makeMap _ none=>K (.mp s.s.nx) (s.s.new (.map []))
 |.insert t m x v=>JW t (s.ev m) (s.ev x) (s.ev v) s.s λt=>K .top t
 |.mapUpdate t m x v=>JW t (s.ev m) (s.ev x) (s.ev v) s.s λt=>K .top t
 |.lookup t m x ok=>N9 M t (s.ev m) (s.ev x) ok s.s λv=>K v s.s
 |.makeFunc (.func f) a b=>K (.fn f a.size (a.size+b.size) (ahA (a.size+b.size) ((a.toList++b.toList).map s.ev))) s.s
 |.call c=>(match c.callee with
  |.value f=>(match s.ev f with
   |.fn k nf n g=>AZ k ((yI nf g)++(c.args.toList.map s.ev)++((yI n g).drop nf)) s.s K
   |_=>False)
  |.builtin .len=>(match c.args.toList,c.argTypes.toList with|[x],[t]=>Vr t (s.ev x) s.s λv=>K v s.s|_,_=>False)
  |.builtin .append=>(match c.args.toList,c.argTypes.toList with|[x,y],[t,t']=>(match Nat.beq t t' with|true=>Oo t (s.ev x) (s.ev y) s.s K|false=>False)|_,_=>False)
  |.builtin .copy=>(match c.args.toList,c.argTypes.toList with|[x,y],[t,t']=>(match Nat.beq t t' with|true=>Pq t (s.ev x) (s.ev y) s.s K|false=>False)|_,_=>False)
  |.builtin .clear=>(match c.args.toList,c.argTypes.toList with|[x],[t]=>OQ t (s.ev x) s.s K|_,_=>False)
  |.builtin .min=>(match c.args.toList with
   |[x,y]=>(match s.ev x,s.ev y with|.d (.v (.int k a)),.d (.v (.int k' b))=>(match decide (k=k') with|true=>K (.int k (min a b)) s.s|false=>False)|_,_=>False)
   |_=>False)
  |.builtin .max=>(match c.args.toList with
   |[x,y]=>(match s.ev x,s.ev y with|.d (.v (.int k a)),.d (.v (.int k' b))=>(match decide (k=k') with|true=>K (.int k (max a b)) s.s|false=>False)|_,_=>False)
   |_=>False)
  |_=>False)
 |_=>False
def calm:Op->Bool
 |.move _|.pick _ _ _|.load _ _|.fieldAddr _ _ _|.field _ _ _|.indexAddr _ _ _|.slice _ _ _ _ _|.unOp _ _ _|.extract _ _|.nilCheck _=>true
 |.binOp _ _ _ _ _=>true
 |.lookup _ _ _ _=>true
 |.convert _ b _=>(match (tI b).k with|3=>false|_=>true)
 |.call c=>(match c.callee with|.builtin .len=>true|.builtin .min=>true|.builtin .max=>true|_=>false)
 |_=>false
def strip(s:AS):AS:=⟨s.nt,s.sl.map (λp=>(p.1,match p.2 with|.kQ _ _ v=>v|v=>v)),s.s⟩
def NK(s:AS)(t w:Bool):List Operand->Prop->Prop
 |[],k=>k
 |x::r,k=>match s.ev x with
  |.kQ t' w' _=>ag (t=w->t'=w') (NK s t w r k)
  |_=>NK s t w r k
def agN(AZ:Nat->List V->ST->(V->ST->Prop)->Prop)(t w:Bool)(c:Call)(s:AS)(K:V->Prop):Prop:=
 match c.callee with
 |.value f=>(match s.ev f with
  |.fn k nf n g=>∃ R,(t=w->AZ k ((yI nf g)++(c.args.toList.map s.ev)++((yI n g).drop nf)) s.s (λv s'=>v=R/\s'=s.s))/\K R
  |_=>False)
 |_=>False
def awP:V->Bool
 |.d _=>true
 |_=>false
def aba(g:Nat->V):Nat->Bool
 |0=>true
 |n+1=>awP (g n)&&aba g n
def BQ(t n:Nat)(ps:List (Nat×Operand))(s:AS)(K:V->Prop):Prop:=
 match (tI t).k,(tI (tI t).elem).ok&&Nat.blt 0 (tI (tI t).elem).size,Nat.ble (n*(tI (tI t).elem).size) 1000000 with
 |3,true,true=>zn s (n*(tI (tI t).elem).size) (λ_=>.top) (λi K'=>K' (i*(tI (tI t).elem).size) (tI (tI t).elem).size) ps (λk=>iM (tI t).elem (k % (tI (tI t).elem).size)) λg=>
   match aba g (n*(tI (tI t).elem).size) with
   |true=>K (.d (.sl n (tI (tI t).elem).size (λj k=>aie (g (j*(tI (tI t).elem).size+k)))))
   |false=>False
 |_,_,_=>False
def Jn(w:Bool)(v:V)(K:Bool->Prop):Prop:=
 match v with
 |.d (.v (.bool t))=>K t
 |.kQ t1 w1 (.d (.v (.bool c)))=>K (bif (t1 == w1) then c else !w)
 |_=>False
def PD(v:V)(hyp:Prop)(K:Bool->Prop):Prop:=
 match v with
 |.d (.v (.bool p))=>K p
 |.kQ t1 w1 (.d (.v (.bool p)))=>ag (hyp->t1=w1) (K p)
 |_=>False
def Vw(AZ:Nat->List V->ST->(V->ST->Prop)->Prop)(t w:Bool)(o:Oper)(s:AS)(K:V->Prop):Prop:=
 match o.op with
 |.pick c a b=>PD (s.ev c) (t=w) λx=>PD (s.ev a) (t=w/\x=true) λp=>PD (s.ev b) (t=w/\x=false) λq=>K (.b (cond x p q))
 |op=>NK s t w op.operands.toList (match calm op with
  |true=>dF (λp k=>ag (t=w->p) k) AZ op (strip s) (λv _=>K v)
  |false=>(match op with
   |.call c=>agN AZ t w c (strip s) K
   |.buildSlice ty n ps=>BQ ty n ps.toList (strip s) K
   |_=>False))
def uy(AZ:Nat->List V->ST->(V->ST->Prop)->Prop)(all:List Oper):List Oper->AS->(AS->Prop)->Prop
 |[],s,K=>K s
 |o::r,s,K=>match s.fits o.dst with
  |false=>False
  |true=>match o.guard with
   |none=>dF ag AZ o.op s (λv t=>Lh s o.dst v t λs=>uy AZ all r s K)
   |some (j,w)=>match (all[j]?).map (·.dst) with
    |some (some d)=>Jn w (dD s.sl d) λt=>Vw AZ t w o s (λv=>force v λv=>Lh s o.dst (.kQ t w v) s.s λs=>uy AZ all r s K)
    |_=>False
section
def jK(F:Nat->Prop)(w:World):D->Value->Prop
 |.v x,u=>u=x
 |.sl n s g,u=>∃ A c,u = .slice A n c/\n<=c/\c<=maxLen/\(A=none->c=0)/\∀ j,j<n->∀ k,k<s->∃ b off x,A=some ⟨b,off,none⟩/\F b/\b<w.heap.size/\w.cell? ⟨b,off+(j*s+k),none⟩=some x/\x.oneCell'=true/\jK F w (g j k) x
def jK.mono{F F':Nat->Prop}{w w':World}{d:D}(hs:w.heap.size<=w'.heap.size)(hk:∀ b,F b->b<w.heap.size->w'.heap[b]?=w.heap[b]?)(hF:∀ b,F b->b<w.heap.size->F' b):∀ {u:Value},jK F w d u->jK F' w' d u:=by
 induction d with
 |v x=>intro u h;exact h
 |sl n s g ih=>
  rintro u ⟨A,c,rfl,h1,h2,h3,h4⟩;refine⟨A,c,rfl,h1,h2,h3,λj hj k hk'=>?_⟩;obtain⟨b,off,x,rfl,hf,hb,hc,ho,hd⟩:=h4 j hj k hk';exact⟨b,off,x,rfl,hF b hf hb,by omega,(World.cell?_of_block (a:=⟨b,off+(j*s+k),none⟩) (hk b hf hb)).trans hc,ho,ih j k hd⟩
inductive Loc where
 |Wp (b:Nat)
 |row (A:Option Addr) (c:Nat)
structure Gh where
 F:Nat->Prop
 ρ:Nat->Option Loc
def aY(G:Gh)(o:Nat->aK)(w:World):V->Value->Prop
 |.top,_=>True
 |.d x,u=>jK G.F w x u
 |.dC,u=>∃ A,u = .slice A 0 0
 |.dp s g,u=>∃ b off,u = .pointer (some ⟨b,off,none⟩)/\(0<s->G.F b/\b<w.heap.size)/\∀ k,k<s->∃ x,w.cell? ⟨b,off+k,none⟩=some x/\x.oneCell'=true/\jK G.F w (g k) x
 |.ptr i off,u=>∃ b,G.ρ i=some (.Wp b)/\u = .pointer (some ⟨b,off,none⟩)
 |.rp i n j c,u=>∃ A cc,G.ρ i=some (.row A cc)/\(∃ a,u = .pointer (some a))/\∀ E s m g,o i = .row E s m g->n<=m/\(n=m->∃ b,A=some ⟨b,0,none⟩/\u = .pointer (some ⟨b,j*s+c,none⟩))
 |.row i n,u=>∃ A c,G.ρ i=some (.row A c)/\(∃ A' c',u = .slice A' n c')/\∀ E s m g,o i = .row E s m g->n<=m/\(n=m->u = .slice A n c)
 |.vw i n lo m,u=>∃ A c,G.ρ i=some (.row A c)/\(∃ B c',u = .slice B m c')/\∀ E s q g,o i = .row E s q g->n<=q/\(n=q->∃ B c',u = .slice B m c'/\m<=c'/\c'<=maxLen/\(B=none->c'=0)/\(0<m->B=A.map (·.add (lo*s)))/\c'=c-lo/\(0<c'->B=A.map (·.add (lo*s))))
 |.agg n g,u=>∃ cs:Array Value,u = .agg cs/\cs.size=n/\∀ k x,cs[k]?=some x->x.oneCell'=true/\aY G o w (g k) x
 |.gQ n g,u=>∃ cs:Array Value,u = .tuple cs/\cs.size=n/\∀ k x,cs[k]?=some x->aY G o w (g k) x
 |.fn f nf n g,u=>∃ fs cs:Array Value,u = .func (.func f) fs cs/\fs.size=nf/\fs.size+cs.size=n/\∀ k x,(fs++cs)[k]?=some x->aY G o w (g k) x
 |.mp i,u=>∃ b,G.ρ i=some (.Wp b)/\u = .map (some b)
 |.kQ t w' x,u=>(t=w'->aY G o w x u)/\(t≠w'->u=undef)
def dB(G:Gh)(o:Nat->aK)(i b:Nat):Prop:=
 match o i with
 |.dead=>False
 |.row _ _ _ _=>∃ A c,G.ρ i=some (.row A c)/\0<c/\∃ off,A=some ⟨b,off,none⟩
 |_=>G.ρ i=some (.Wp b)
def Eu(G:Gh)(o:Nat->aK)(w:World)(E s n:Nat)(g:Nat->Nat->V)(A:Option Addr)(c:Nat):Prop:=
 (c=0/\n=0)\/(0<c/\∃ b cs,A=some ⟨b,0,none⟩/\w.heap[b]?=some (.cells cs E (0,0))/\cs.size=c*s/\n<=c/\c<=maxLen/\∀ j,j<n->∀ k,k<s->∃ x,cs[j*s+k]?=some x/\x.oneCell'=true/\aY G o w (g j k) x)
def tJ:List MapEntry->Int->Option Value
 |[],_=>none
 |e::r,k=>match e.key with
  |.int .i64 j=>if j=k then some e.val else tJ r k
  |_=>tJ r k
def uu(G:Gh)(o:Nat->aK)(w:World)(l:List MapEntry)(q:List (Int×V)):Prop:=
 (∀ e∈l,∃ k,e.key = .int .i64 k)/\∀ k,match dY q k with
  |some v=>∃ u,tJ l k=some u/\aY G o w v u
  |none=>tJ l k=none
def uu.to{G G':Gh}{o o':Nat->aK}{w w':World}{l:List MapEntry}{q q':List (Int×V)}(h:uu G o w l q)
  (hv:∀ k,match dY q k,dY q' k with|some v,some v'=>∀ u,aY G o w v u->aY G' o' w' v' u|none,none=>True|_,_=>False):uu G' o' w' l q':=by
 refine⟨h.1,λk=>?_⟩;have h1:=h.2 k;have h2:=hv k;rcases e1:dY q k with _|v <;> rcases e2:dY q' k with _|v' <;> rw[e1]at h1 h2 <;> rw[e2]at h2
 ·exact h1
 ·exact h2.elim
 ·exact h2.elim
 ·obtain⟨u,h3,h4⟩:=h1;exact⟨u,h3,h2 u h4⟩
def Jr(f:V->V):∀(q:List (Int×V)) (k:Int),dY (q.map λp=>(p.1,f p.2)) k=(dY q k).map f
 |[],_=>rfl
 |(j,v)::r,k=>by
  show(bif decide (j=k) then some (f v) else dY (r.map λp=>(p.1,f p.2)) k)=(bif decide (j=k) then some v else dY r k).map f;cases decide (j=k)
  ·exact Jr f r k
  ·rfl
def uu.map{G G':Gh}{o o':Nat->aK}{w w':World}{l:List MapEntry}{q:List (Int×V)}(f:V->V)(h:uu G o w l q)(hv:∀ v u,aY G o w v u->aY G' o' w' (f v) u):uu G' o' w' l (q.map λp=>(p.1,f p.2)):=h.to λk=>by
 rw[Jr];cases dY q k
 ·trivial
 ·exact λu h=>hv _ u h
structure Good (G:Gh) (o:Nat->aK) (w:World):Prop where
 Wp:∀ i n g,o i = .Wp n g->∃ b cs t,G.ρ i=some (.Wp b)/\w.heap[b]?=some (.cells cs t (0,0))/\cs.size=n/\∀ k x,cs[k]?=some x->x.oneCell'=true/\aY G o w (g k) x
 row:∀ i E s n g,o i = .row E s n g->(tI E).ok=true/\(tI E).size=s/\0<s/\∃ A c,G.ρ i=some (.row A c)/\Eu G o w E s n g A c
 map:∀ i es,o i = .map es->∃ b jF cl,G.ρ i=some (.Wp b)/\w.heap[b]?=some (.map jF cl)/\uu G o w jF.toList es
 xP:∀ i b,dB G o i b->¬G.F b
 wF:∀ b,G.F b->b<w.heap.size
 sep:∀ i j b,dB G o i b->dB G o j b->i=j
def Good.lt{G:Gh}{o:Nat->aK}{w:World}(h:Good G o w){i b:Nat}(ho:dB G o i b):b<w.heap.size:=by
 unfold dB at ho;split at ho
 ·exact ho.elim
 ·rename_i E s n g ho'
  obtain⟨A,c,h1,h2,off,rfl⟩:=ho;obtain⟨_,_,_,A',c',h3,h4⟩:=h.row _ _ _ _ _ ho';rw[h1]at h3;injection h3 with h3
  injection h3 with h3 h5
  subst h3 h5;obtain⟨h4,_⟩|⟨_,b',cs,h4,h5,_⟩:=h4
  ·omega
  ·injection h4 with h4
   injection h4 with h4
   subst h4;exact(Array.getElem?_eq_some_iff.1 h5).1
 ·rename_i hn hr
  rcases ho':o i with _|⟨n,g⟩|⟨E,s,n,g⟩|es
  ·exact ai ho' hn
  ·obtain⟨b',cs,t,h1,h2,_⟩:=h.Wp _ _ _ ho';rw[ho]at h1;injection h1 with h1
   injection h1 with h1
   subst h1;exact(Array.getElem?_eq_some_iff.1 h2).1
  ·exact ai ho' (hr _ _ _ _)
  ·obtain⟨b',jF,cl,h1,h2,_⟩:=h.map _ _ ho';rw[ho]at h1;injection h1 with h1
   injection h1 with h1
   subst h1;exact(Array.getElem?_eq_some_iff.1 h2).1
structure Stp (G:Gh) (o:Nat->aK) (w:World) (G':Gh) (o':Nat->aK) (w':World):Prop where
 os:w'.os=w.os
 tape:w'.tape=w.tape
 output:w'.output=w.output
 size:w.heap.size<=w'.heap.size
 axz:∀ b,b<w.heap.size->(∀ i,¬dB G o i b)->w'.heap[b]?=w.heap[b]?
 F1:∀ b,G.F b->b<w.heap.size->G'.F b
 F2:∀ b,G'.F b->G.F b\/w.heap.size<=b
 own:∀ i b,dB G' o' i b->dB G o i b\/w.heap.size<=b
 loc:∀ i b,G.ρ i=some (.Wp b)->G'.ρ i=some (.Wp b)
 row:∀ i A c,G.ρ i=some (.row A c)->∃ A' c',G'.ρ i=some (.row A' c')/\∀ E s m g,o' i = .row E s m g->∃ m0 g0,o i = .row E s m0 g0/\m0<=m/\(m0=m->A'=A/\c'=c)
def Stp.refl(G:Gh)(o:Nat->aK)(w:World):Stp G o w G o w:=
 ⟨rfl,rfl,rfl,bF _,λ_ _ _=>rfl,λ_ h _=>h,λ_ h=>.inl h,λ_ _ h=>.inl h,λ_ _ h=>h,λ_ A c h=>⟨A,c,h,λ_ _ m g ho=>⟨m,g,ho,bF _,λ_=>⟨rfl,rfl⟩⟩⟩⟩
def Stp.trans{G G1 G2:Gh}{o o1 o2:Nat->aK}{w w1 w2:World}(h:Stp G o w G1 o1 w1)(k:Stp G1 o1 w1 G2 o2 w2):Stp G o w G2 o2 w2 where
 os:=k.os.trans h.os
 tape:=k.tape.trans h.tape
 output:=k.output.trans h.output
 size:=kE h.size k.size
 axz:=λb hb hn=>(k.axz b (sV hb h.size) λi hi=>by
  obtain h1|h1:=h.own i b hi
  ·exact hn i h1
  ·omega).trans (h.axz b hb hn)
 F1:=λb hf hb=>k.F1 b (h.F1 b hf hb) (sV hb h.size)
 F2:=λb hf=>by
  obtain h1|h1:=k.F2 b hf
  ·exact h.F2 b h1
  ·exact .inr (kE h.size h1)
 own:=λi b ho=>by
  obtain h1|h1:=k.own i b ho
  ·exact h.own i b h1
  ·exact .inr (kE h.size h1)
 loc:=λi b hi=>k.loc i b (h.loc i b hi)
 row:=λi A c hi=>by
  obtain⟨A1,c1,h1,h2⟩:=h.row i A c hi;obtain⟨A2,c2,h3,h4⟩:=k.row i A1 c1 h1;refine⟨A2,c2,h3,λE s m g ho=>?_⟩;obtain⟨m1,g1,ho1,l1,e1⟩:=h4 E s m g ho;obtain⟨m0,g0,ho0,l0,e0⟩:=h2 E s m1 g1 ho1;refine⟨m0,g0,ho0,kE l0 l1,λe=>?_⟩;have q1:m0=m1:=qO;have q2:m1=m:=qO;exact⟨(e1 q2).1.trans (e0 q1).1,(e1 q2).2.trans (e0 q1).2⟩
section
variable {G G':Gh} {o o':Nat->aK} {w w':World}
def Stp.ahn(h:Stp G o w G' o' w')(hg:Good G o w):∀ b,G.F b->b<w.heap.size->w'.heap[b]?=w.heap[b]?:=λb hf hb=>h.axz b hb λi hi=>hg.xP i b hi hf
def jK.dX{d:D}{u:Value}(h:Stp G o w G' o' w')(hg:Good G o w)(hd:jK G.F w d u):jK G'.F w' d u:=hd.mono h.size (h.ahn hg) h.F1
def aY.dX(h:Stp G o w G' o' w')(hg:Good G o w){v:V}:∀ {u:Value},aY G o w v u->aY G' o' w' v u:=by
 induction v with
 |top=>exact λ_=>trivial
 |d x=>intro u hd;exact jK.dX h hg hd
 |dC=>exact λh=>h
 |dp s g=>
  rintro u ⟨b,off,rfl,h1,h2⟩;refine⟨b,off,rfl,λhs=>⟨h.F1 b (h1 hs).1 (h1 hs).2,sV (h1 hs).2 h.size⟩,λk hk=>?_⟩;obtain⟨x,hx,ho,hd⟩:=h2 k hk;exact⟨x,(World.cell?_of_block (a:=⟨b,off+k,none⟩) (h.ahn hg b (h1 qO).1 (h1 qO).2)).trans hx,ho,jK.dX h hg hd⟩
 |ptr i off=>rintro u ⟨b,h1,h2⟩;exact⟨b,h.loc _ _ h1,h2⟩
 |rp i n j c=>
  rintro u ⟨A,cc,h1,h2,h3⟩;obtain⟨A',cc',h4,h5⟩:=h.row _ _ _ h1;refine⟨A',cc',h4,h2,λE s m g ho=>?_⟩;obtain⟨m0,g0,ho0,hl,he⟩:=h5 E s m g ho;obtain⟨l0,e0⟩:=h3 E s m0 g0 ho0;refine⟨kE l0 hl,λe=>?_⟩;rw[(he qO).1];exact e0 qO
 |row i n=>
  rintro u ⟨A,c,h1,h2,h3⟩;obtain⟨A',c',h4,h5⟩:=h.row _ _ _ h1;refine⟨A',c',h4,h2,λE s m g ho=>?_⟩;obtain⟨m0,g0,ho0,hl,he⟩:=h5 E s m g ho;obtain⟨l0,e0⟩:=h3 E s m0 g0 ho0;refine⟨kE l0 hl,λe=>?_⟩;obtain⟨q1,q2⟩:=he qO;rw[q1,q2];exact e0 qO
 |vw i n lo m=>
  rintro u ⟨A,c,h1,h2,h3⟩;obtain⟨A',c',h4,h5⟩:=h.row _ _ _ h1;refine⟨A',c',h4,h2,λE s q g ho=>?_⟩;obtain⟨m0,g0,ho0,hl,he⟩:=h5 E s q g ho;obtain⟨l0,e0⟩:=h3 E s m0 g0 ho0;refine⟨kE l0 hl,λe=>?_⟩;obtain⟨q1,q2⟩:=he qO;rw[q1,q2];exact e0 qO
 |agg n g ih=>
  rintro u ⟨cs,rfl,hn,hc⟩;exact⟨cs,rfl,hn,λk x hx=>⟨(hc k x hx).1,ih k (hc k x hx).2⟩⟩
 |gQ n g ih=>
  rintro u ⟨cs,rfl,hn,hc⟩;exact⟨cs,rfl,hn,λk x hx=>ih k (hc k x hx)⟩
 |fn f nf n g ih=>
  rintro u ⟨fs,cs,rfl,hn,hm,hc⟩;exact⟨fs,cs,rfl,hn,hm,λk x hx=>ih k (hc k x hx)⟩
 |mp i=>rintro u ⟨b,h1,h2⟩;exact⟨b,h.loc _ _ h1,h2⟩
 |kQ t w' x ih=>intro u hu;exact⟨λe=>ih (hu.1 e),hu.2⟩
def uu.dX(h:Stp G o w G' o' w')(hg:Good G o w){l:List MapEntry}{q:List (Int×V)}(hm:uu G o w l q):uu G' o' w' l q:=hm.to λk=>by
 cases dY q k
 ·trivial
 ·exact λu hu=>hu.dX h hg
end
structure bZ (G:Gh) (t:ST) (w:World):Prop where
 axy:Good G t.get w
 jZ:∀ i,t.nx<=i->G.ρ i=none/\t.get i = .dead
def xy(k:Nat):Prop:=(prog.funcs[k]?).map (λfn=>fn.body.isSome && !(fn.name == "runtime.NumGoroutine"))=some true
def af(f:Nat)(args:List V)(t:ST)(K:V->ST->Prop):Prop:=xy f /\
 ∀(G:Gh) (w:World) (us:List Value),bZ G t w->us.length=args.length->(∀(k:Nat) (v:V) (u:Value),args[k]?=some v->us[k]?=some u->aY G t.get w v u) ->
  Calls prog f us.toArray w λe w'=>∃ v V t' G',e = .returned v/\K V t'/\bZ G' t' w'/\Stp G t.get w G' t'.get w'/\aY G' t'.get w' V v
def af.mono{f:Nat}{args:List V}{t:ST}{K K':V->ST->Prop}(h:af f args t K)(hk:∀ v s,K v s->K' v s):af f args t K':=
 ⟨h.1,λG w us hg hl hv=>(h.2 G w us hg hl hv).mono λe w' ⟨v,V,t',G',h1,h2,h3⟩=>⟨v,V,t',G',h1,hk _ _ h2,h3⟩⟩
structure oZ (G:Gh) (s:AS) (a:Act) (w:World):Prop where
 nt:a.tmps.size=s.nt
 sl:∀ j,aY G s.s.get w (dD s.sl j) (a.tmps.getD j undef)
end
section
def fG(o:Oper)(a:Act)(G:Gh)(t:ST)(w:World)(K:V->ST->Prop):Prop:=
 o.wp prog a w (λa' w'=>∃ v V t' G',a'=a.put o.dst v/\K V t'/\bZ G' t' w'/\Stp G t.get w G' t'.get w'/\aY G' t'.get w' V v) (λ_ _ _=>False)
def fG.val{o:Oper}{a:Act}{G:Gh}{t:ST}{w:World}{K:V->ST->Prop}{v:Value}{V:V}(hg:bZ G t w)(h:(execOp a.eval o).run prog w = .ok (.value v) w)(hv:aY G t.get w V v)(hk:K V t):fG o a G t w K:=by
 unfold fG Oper.wp Oper.upon;rw[h];exact⟨v,V,t,G,rfl,hk,hg,Stp.refl _ _ _,hv⟩
def arq(G:Gh)(o:Nat->aK)(w:World)(x:Value):aY G o w (evC x) x:=by
 unfold evC;split
 ·exact⟨none,rfl⟩
 ·rfl
def oZ.ev{G:Gh}{s:AS}{a:Act}{w:World}(h:oZ G s a w)(x:Operand):aY G s.s.get w (s.ev x) (a.eval x):=by
 cases x with
 |tmp t=>exact h.sl t
 |const v=>exact arq _ _ _ v
 |global g=>trivial
 |func f=>exact⟨#[],#[],rfl,rfl,rfl,λk x hx=>by simp at hx⟩
def NJ{k:IntKind}{n:Int}(h:(dM k).1<=n/\n<=(dM k).2):k.wrap n=n:=by
 cases k <;> simp only[dM]at h
 ·exact IntWalk.i8_in _ h
 ·exact IntWalk.i16_in _ h
 ·exact IntWalk.i32_in _ h
 ·exact IntWalk.i64_in _ h
 ·exact IntWalk.u8_in _ h
 ·exact IntWalk.u16_in _ h
 ·exact IntWalk.u32_in _ h
 ·exact IntWalk.u64_in _ h
section
variable {G:Gh} {ob:Nat->aK} {w:World} {M:Prop->Prop->Prop} {gd:Prop} {K:V->Prop}
def akp{k:IntKind}{a b:Int}{op:BinOp}{t:Nat}(hM:∀ p q,M p q->q/\(gd->p))(hgd:gd)(h:Pj M op k a b K):∃ v V,(binOp op t (.int k a) (.int k b)).run prog w = .ok v w/\K V/\aY G ob w V v:=by
 cases op <;> simp only[Pj]at h
 case add=>exact⟨_,_,by simp[binOp,Op.intArith,NJ ((hM _ _ h).2 hgd)],(hM _ _ h).1,rfl⟩
 case sub=>exact⟨_,_,by simp[binOp,Op.intArith,NJ ((hM _ _ h).2 hgd)],(hM _ _ h).1,rfl⟩
 case mul=>exact⟨_,_,by simp[binOp,Op.intArith,NJ ((hM _ _ h).2 hgd)],(hM _ _ h).1,rfl⟩
 case quo=>
  obtain⟨h0,h1,h2⟩:=(hM _ _ h).2 hgd;have hr:(dM k).1<=0:=by cases k <;> simp[dM]
  have hb:b≠0:=qO;have hq:k.wrap (a.tdiv b)=a / b:=by
   rw[Int.tdiv_eq_ediv_of_nonneg h0];have:=IntWalk.tdiv_le a b h0 qO;exact NJ ⟨by omega,by omega⟩
  exact⟨_,_,by simp[binOp,Op.intDiv,hb,hq],(hM _ _ h).1,rfl⟩
 case rem=>
  obtain⟨h0,h1,h2⟩:=(hM _ _ h).2 hgd;have hb:b≠0:=qO;exact⟨_,_,by simp[binOp,Op.intDiv,hb,IntWalk.rem_in a b h0],(hM _ _ h).1,rfl⟩
 case eql=>exact⟨.bool (decide (a=b)),_,by simp[binOp,Op.intCmp];rfl,h,rfl⟩
 case neq=>exact⟨.bool (!decide (a=b)),_,by simp[binOp,Op.intCmp];rfl,h,rfl⟩
 case lss=>exact⟨_,_,by simp[binOp,Op.intCmp],h,rfl⟩
 case leq=>exact⟨_,_,by simp[binOp,Op.intCmp],h,rfl⟩
 case gtr=>exact⟨_,_,by simp[binOp,Op.intCmp],h,rfl⟩
 case geq=>exact⟨_,_,by simp[binOp,Op.intCmp],h,rfl⟩
 all_goals exact h.elim
def DD(t:Nat){k:Nat}(h:(tI t).k=k)(hk:k≠9):∃ d,prog.underlying t=some d/\wX d (tI t)=true:=(Z9 t (by unfold uC.ok;rw[h];rcases hb:Nat.beq k 9 with _|_;rfl;exact ai (Nat.eq_of_beq_eq_true hb) hk)).desc
def qI{t:Nat}(h:(tI t).k=3):prog.underlying t=some (.slice (tI t).elem):=by
 obtain⟨d,h1,h2⟩:=DD t h qD;rw[h1];cases d <;> simp[wX,h]at h2;rw[h2]
def av9{t:Nat}(h:(tI t).k=7):prog.underlying t=some .bool:=by
 obtain⟨d,h1,h2⟩:=DD t h qD;rw[h1];cases d <;> simp[wX,h]at h2;rfl
def av8{t:Nat}(h:(tI t).k=8):∃ e,prog.underlying t=some (.pointer e):=by
 obtain⟨d,h1,h2⟩:=DD t h qD;rw[h1];cases d <;> simp[wX,h]at h2;exact⟨_,rfl⟩
def ag8{t:Nat}(h:(tI t).k=10):∃ a b c,prog.underlying t=some (.func a b c):=by
 obtain⟨d,h1,h2⟩:=DD t h qD;rw[h1];cases d <;> simp[wX,h]at h2;exact⟨_,_,_,rfl⟩
def Jt(t:Nat)(x y:Value):Op.equal t x y=Op.equalIn (9999+1) t x y:=rfl
def abK{t:Nat}(h:(tI t).k=7)(a b:Bool):(Op.equal t (.bool a) (.bool b)).run prog w = .ok (a == b) w:=by
 rw[Jt,Op.equalIn];simp[run_underlying (av9 h)]
def V6{t:Nat}(h:(tI t).k=3)(A:Option Addr)(n c m d:Nat):(Op.equal t (.slice A n c) (.slice none m d)).run prog w = .ok A.isNone w:=by
 rw[Jt,Op.equalIn];cases A <;> simp[run_underlying (qI h)]
def Q7{t:Nat}(h:(tI t).k=8)(A:Option Addr):(Op.equal t (.pointer A) (.pointer none)).run prog w = .ok A.isNone w:=by
 obtain⟨e,he⟩:=av8 h;rw[Jt,Op.equalIn];cases A <;> simp[run_underlying he]
def acO{t:Nat}(h:(tI t).k=10)(f:Fn)(a b:Array Value):(Op.equal t (.func f a b) .nilFunc).run prog w = .ok false w:=by
 obtain⟨x,y,z,he⟩:=ag8 h;rw[Jt,Op.equalIn];simp[run_underlying he]
def abx{t:Nat}(h:(tI t).k=10):(Op.equal t .nilFunc .nilFunc).run prog w = .ok true w:=by
 obtain⟨x,y,z,he⟩:=ag8 h;rw[Jt,Op.equalIn];simp[run_underlying he]
def aw8:prog.eqGuardType prog.depth 52=false:=by kernel_rfl
def awg:prog.stoodInHeld 52=false:=by kernel_rfl
def arc{op:BinOp}{ox oy:Operand}(x y:Array Value):(eqGuard op 52 ox oy (.agg x) (.agg y)).run prog w = .ok () w:=by
 cases op <;> simp[eqGuard,aw8,Result.andThen]
def acP(d:Nat){t:Nat}{q:IntKind}(h:prog.underlying t=some (.int q))(k:IntKind)(a b:Int):(Op.equalIn (d+1) t (.int k a) (.int k b)).run prog w = .ok (a == b) w:=by
 rw[Op.equalIn];simp[run_underlying h]
def adF{t:Nat}{d:TypeDesc}(h:prog.underlying t=some d)(hd:∀ x,d ≠ .struct x)(jo:∀ x y,d ≠ .array x y){cs:Array Value}{off:Nat}{x:Value}(hx:cs[off]?=some x):(part t cs off).run prog w = .ok x w:=by
 unfold part isAgg;cases d
 case struct x=>exact ai rfl (hd x)
 case array x y=>exact ai rfl (jo x y)
 all_goals simp[run_underlying h,hx,Result.andThen]
def akq(a b c d:Int):(Op.equal 52 (.agg ⟨[.int .i64 a,.int .i64 b]⟩) (.agg ⟨[.int .i64 c,.int .i64 d]⟩)).run prog w = .ok (decide (a=c)&&decide (b=d)) w:=by
 rw[Jt,Op.equalIn];have p0:=λx y=>adF (w:=w) underlying29 (by simp) (by simp) (cs:=⟨[x,y]⟩) (off:=0) (x:=x) rfl
 have p1:=λx y=>adF (w:=w) underlying3 (by simp) (by simp) (cs:=⟨[x,y]⟩) (off:=1) (x:=y) rfl
 have e0:∀ x y,(Op.equalIn 9999 29 (.int .i64 x) (.int .i64 y)).run prog w = .ok (x == y) w:=λx y=>acP (w:=w) 9998 underlying29 .i64 x y
 have e1:∀ x y,(Op.equalIn 9999 3 (.int .i64 x) (.int .i64 y)).run prog w = .ok (x == y) w:=λx y=>acP (w:=w) 9998 underlying3 .i64 x y
 by_cases h0:a=c <;> by_cases h1:b=d <;> simp[h0,h1,run_underlying underlying52,awg,Result.andThen,p0,p1,e0,e1]
def xn{t:Nat}{op:BinOp}{u v:Value}{ox oy:Operand}{r:Bool}(hop:op = .eql\/op = .neq)(hg:(eqGuard op t ox oy u v).run prog w = .ok () w)(hb:binOp op t u v=if op = .eql then(do pure (.bool (<-Op.equal t u v))) else(do pure (.bool (!(<-Op.equal t u v)))))(h:(Op.equal t u v).run prog w = .ok r w) :
  (do eqGuard op t ox oy u v;binOp op t u v:Sem Value).run prog w = .ok (.bool (if op = .eql then r else !r)) w:=by
 rw[hb];obtain rfl|rfl:=hop <;> simp[hg,h,Result.andThen]
def amb{op:BinOp}{t:Nat}{x y:V}{u v:Value}{ox oy:Operand}(hM:∀ p q,M p q->q/\(gd->p))(hgd:gd)(hx:aY G ob w x u)(hy:aY G ob w y v)(h:Qd M op t x y K) :
  ∃ r R,(do eqGuard op t ox oy u v;binOp op t u v:Sem Value).run prog w = .ok r w/\K R/\aY G ob w R r:=by
 unfold Qd at h;split at h
 ·rename_i k a k' b
  simp only[aY,jK]at hx hy;subst hx hy;split at h
  ·rename_i hk
   obtain rfl:k=k':=fU hk;obtain⟨r,R,h1,h2⟩:=akp (G:=G) (ob:=ob) (w:=w) (t:=t) hM hgd h;refine⟨r,R,?_,h2⟩;rw[<-h1];cases op <;> simp[eqGuard]
  ·exact h.elim
 ·simp only[aY,jK]at hx hy;subst hx hy;split at h
  ·rename_i hk
   exact⟨_,_,xn (.inl rfl) (by simp[eqGuard]) rfl (abK hk _ _),h,rfl⟩
  ·rename_i hk
   exact⟨_,_,xn (.inr rfl) (by simp[eqGuard]) rfl (abK hk _ _),h,rfl⟩
  ·exact h.elim
 ·simp only[aY,jK]at hx hy;subst hx hy;split at h
  ·exact⟨_,_,by simp[eqGuard,binOp,Op.stringOp],h,rfl⟩
  ·exact⟨_,_,by simp[eqGuard,binOp,Op.stringOp],h,rfl⟩
  ·exact h.elim
 ·simp only[aY,jK]at hx hy;obtain⟨A,c,rfl,h1,h2,h3,h4⟩:=hx;subst hy;split at h
  ·rename_i hk
   exact⟨_,_,xn (.inl rfl) (by simp[eqGuard]) rfl (V6 hk _ _ _ _ _),h.h A.isNone (λe=>by have:c=0:=h3 (by simpa using e);omega),rfl⟩
  ·exact h.elim
 ·simp only[aY,jK]at hx hy;obtain⟨A,rfl⟩:=hx;subst hy;split at h
  ·rename_i hk
   exact⟨_,_,xn (.inl rfl) (by simp[eqGuard]) rfl (V6 hk _ _ _ _ _),h.h A.isNone (λ_=>rfl),rfl⟩
  ·exact h.elim
 ·simp only[aY,jK]at hx hy;obtain⟨b,h1,rfl⟩:=hx;subst hy;split at h
  ·rename_i hk
   exact⟨_,_,xn (.inl rfl) (by simp[eqGuard]) rfl (Q7 hk _),h,rfl⟩
  ·rename_i hk
   exact⟨_,_,xn (.inr rfl) (by simp[eqGuard]) rfl (Q7 hk _),h,rfl⟩
  ·exact h.elim
 ·simp only[aY,jK]at hx hy;subst hx hy;split at h
  ·rename_i hk
   exact⟨_,_,xn (.inl rfl) (by simp[eqGuard]) rfl (Q7 hk _),h,rfl⟩
  ·rename_i hk
   exact⟨_,_,xn (.inr rfl) (by simp[eqGuard]) rfl (Q7 hk _),h,rfl⟩
  ·exact h.elim
 ·simp only[aY,jK]at hx hy;obtain⟨fs,cs,rfl,_⟩:=hx;subst hy;split at h
  ·rename_i hk
   exact⟨_,_,xn (.inl rfl) (by simp[eqGuard]) rfl (acO hk _ _ _),h,rfl⟩
  ·rename_i hk
   exact⟨_,_,xn (.inr rfl) (by simp[eqGuard]) rfl (acO hk _ _ _),h,rfl⟩
  ·exact h.elim
 ·simp only[aY,jK]at hx hy;subst hx hy;split at h
  ·rename_i hk
   exact⟨_,_,xn (.inl rfl) (by simp[eqGuard]) rfl (abx hk),h,rfl⟩
  ·rename_i hk
   exact⟨_,_,xn (.inr rfl) (by simp[eqGuard]) rfl (abx hk),h,rfl⟩
  ·exact h.elim
 ·simp only[aY]at hx hy;obtain⟨cs,rfl,hn,hc⟩:=hx;obtain⟨ds,rfl,hm,hd⟩:=hy;split at h
  ·rename_i g h' a b c d e0 e1 e2 e3 e4
   obtain rfl:t=52:=Nat.eq_of_beq_eq_true e0
   match cs,hn,hc with
   |⟨[x0,x1]⟩,_,hc=>
    match ds,hm,hd with
    |⟨[y0,y1]⟩,_,hd=>
     have q0:=(hc 0 x0 rfl).2;have q1:=(hc 1 x1 rfl).2;have r0:=(hd 0 y0 rfl).2;have r1:=(hd 1 y1 rfl).2;rw[e1]at q0;rw[e2]at q1;rw[e3]at r0;rw[e4]at r1;simp only[aY,jK]at q0 q1 r0 r1;subst q0 q1 r0 r1;exact⟨_,_,xn (.inr rfl) (arc _ _) rfl (akq a b c d),h,rfl⟩
  ·exact h.elim
 ·exact h.elim
end
end
section
structure ag5 (t:Nat) (i:TypeInfo) (z:Value):Prop where
 h:prog.info? t=some i
 size:i.size=(tI t).size
 bytes:i.bytes=(tI t).bytes
 zero:i.zero=some z
 rel:yJ z.cells.toList (tI t).zero=true
 CO:z.cells.size=(tI t).size
 agg:(∃ cs,z = .agg cs)↔(tI t).agg=true
 gQ:∀ vs,z ≠ .tuple vs
def F5{t:Nat}(h:(tI t).ok=true):∃ i z,ag5 t i z:=by
 have h1:=(Z9 t h).info;rcases hi:prog.info? t with _|i
 ·rw[hi]at h1;cases h1
 ·rw[hi]at h1;simp only[qg,Option.some.injEq,U0,qf,beq_iff_eq]at h1;obtain⟨⟨h1,h2⟩,h3⟩:=h1;rcases hz:i.zero with _|z
  ·rw[hz]at h3;cases h3
  ·rw[hz]at h3;simp only[qf,beq_iff_eq]at h3;obtain⟨⟨h3,h4⟩,h5⟩:=h3;refine⟨i,z,hi,h1,h2,hz,h3,h4,?_,?_⟩
   ·unfold uC.agg;have e:∀ a b:Nat,Nat.beq a b=(a == b):=λ_ _=>by rw[Bool.eq_iff_iff];simp[Nat.beq_eq]
    rw[e,e];cases z <;> simp_all
   ·intro vs e;subst e;simp at h5
def avQ{t:Nat}(h:(tI t).ok=true):∃ d,prog.underlying t=some d/\(match d with|.struct _|.array _ _=>true|_=>false)=(tI t).agg:=by
 obtain⟨d,h1,h2⟩:=(Z9 t h).desc;refine⟨d,h1,?_⟩;have e:∀ a b:Nat,Nat.beq a b=(a == b):=λ_ _=>by rw[Bool.eq_iff_iff];simp[Nat.beq_eq]
 unfold uC.agg;rw[e,e];cases d <;> simp[wX]at h2 <;> simp_all
def ahM{t:Nat}(h:(tI t).k=1):∃ fs,prog.underlying t=some (.struct fs)/\fs.toList.map (λf=>(f.offset,f.type))=(tI t).EJ:=by
 obtain⟨d,h1,h2⟩:=DD t h qD;rw[h1];cases d <;> simp[wX,h]at h2;exact⟨_,rfl,h2⟩
def ahL{t:Nat}(h:(tI t).k=2):prog.underlying t=some (.array (tI t).len (tI t).elem):=by
 obtain⟨d,h1,h2⟩:=DD t h qD;rw[h1];cases d <;> simp[wX,h]at h2;rw[h2.1,h2.2]
def IX{t:Nat}(h:(tI t).k=6):prog.underlying t=some .string:=by
 obtain⟨d,h1,h2⟩:=DD t h qD;rw[h1];cases d <;> simp[wX,h]at h2;rfl
def uB(b o k:Nat):(⟨b,o,none⟩:Addr).add k=⟨b,o+k,none⟩:=by
 unfold Addr.add;split <;> simp_all
section
variable {w:World}
def qB{t:Nat}(h:(tI t).ok=true):(sizeOf t).run prog w = .ok (tI t).size w:=by
 obtain⟨i,z,hi⟩:=F5 h;simp[sizeOf,typeInfo,hi.h,hi.size]
def Xf{t:Nat}(h:(tI t).ok=true):(isAgg t).run prog w = .ok (tI t).agg w:=by
 obtain⟨d,h1,h2⟩:=avQ h;unfold isAgg;rw[Sem.run_bind,run_underlying h1 w,<-h2];cases d <;> simp[Result.andThen]
def ZI{t f off ft:Nat}(hk:(tI t).k=1)(hf:(tI t).EJ[f]?=some (off,ft)):∃ fs x,prog.underlying t=some (.struct fs)/\fs[f]?=some x/\x.offset=off/\x.type=ft:=by
 obtain⟨fs,h1,h2⟩:=ahM hk;rw[<-h2,qQ]at hf;rcases hx:fs.toList[f]? with _|x
 ·rw[hx]at hf;cases hf
 ·rw[hx]at hf;simp only[qg,Option.some.injEq,Prod.mk.injEq]at hf;exact⟨fs,x,h1,by rw[<-hx];simp,hf.1,hf.2⟩
def aiS{t f off ft:Nat}(hk:(tI t).k=1)(hf:(tI t).EJ[f]?=some (off,ft))(hok:(tI ft).ok=true)(hpos:0<(tI ft).size)(b o:Nat) :
  (Instr.fieldAt t (.pointer (some ⟨b,o,none⟩)) f).run prog w = .ok (.pointer (some ⟨b,o+off,none⟩)) w:=by
 obtain⟨fs,x,h1,h2,h3,h4⟩:=ZI hk hf;have hz:(sizeOf x.type).run prog w = .ok (tI ft).size w:=by rw[h4];exact qB hok
 have hp:(tI ft).size≠0:=qO;unfold Instr.fieldAt;simp[run_underlying h1,h2,Instr.sureAddr,fieldPlace,hz,hp,Result.andThen,uB,h3]
def Wl{t:Nat}(hk:(tI t).k=3)(hok:(tI (tI t).elem).ok=true)(b o n c:Nat)(k:IntKind)(i:Int)(h0:0<=i)(h1:i<n) :
  (Instr.indexAt t (.slice (some ⟨b,o,none⟩) n c) (.int k i)).run prog w = .ok (.pointer (some ⟨b,o+i.toNat*(tI (tI t).elem).size,none⟩)) w:=by
 have hz:=qB (w:=w) hok;unfold Instr.indexAt;simp[run_underlying (qI hk),asIntOf,Result.andThen,h0,h1,hz,uB]
def aiR{t:Nat}(hk:(tI t).k=2)(hok:(tI (tI t).elem).ok=true)(b o:Nat)(k:IntKind)(i:Int)(h0:0<=i)(h1:i<(tI t).len)(h2:1<(tI t).len) :
  (Instr.indexAt t (.pointer (some ⟨b,o,none⟩)) (.int k i)).run prog w = .ok (.pointer (some ⟨b,o+i.toNat*(tI (tI t).elem).size,none⟩)) w:=by
 have hz:=qB (w:=w) hok;unfold Instr.indexAt;simp[run_underlying (ahL hk),asIntOf,Instr.sureAddr,Result.andThen,h0,h1,hz,uB]
def Xe{t:Nat}(h:(tI t).ok=true)(ha:(tI t).agg=false){b o:Nat}{x:Value}(hx:w.cell? ⟨b,o,none⟩=some x) :
  (Instr.loadAt t (.pointer (some ⟨b,o,none⟩))).run prog w = .ok x w:=by
 have h1:=Xf (w:=w) h;rw[ha]at h1;simp[Instr.loadAt,Instr.sureAddr,loadVar,h1,hx,Result.andThen]
def Xd{t:Nat}(h:(tI t).ok=true)(ha:(tI t).agg=true){b o:Nat}{cs:List Value}(hl:cs.length=(tI t).size)(hx:∀ j v,cs[j]?=some v->w.cell? ⟨b,o+j,none⟩=some v) :
  (Instr.loadAt t (.pointer (some ⟨b,o,none⟩))).run prog w = .ok (.agg cs.toArray) w:=by
 have h1:=Xf (w:=w) h;have h2:=qB (w:=w) h;rw[ha]at h1;have h3:=run_loadCells_list (P:=prog) w ⟨b,o,none⟩ cs (λj v hv=>by rw[uB];exact hx j v hv);rw[hl]at h3;simp[Instr.loadAt,Instr.sureAddr,loadVar,h1,h2,h3,Result.andThen]
end
section
variable {G:Gh} {ob:Nat->aK} {w:World} {M:Prop->Prop->Prop} {gd:Prop} {K:V->Prop}
def Uo(n:Nat)(p:Nat->Value->Prop)(h:∀ k,k<n->∃ x,p k x):∃ cs:List Value,cs.length=n/\∀ k x,cs[k]?=some x->p k x:=by
 induction n with
 |zero=>exact⟨[],rfl,λk x hx=>by simp at hx⟩
 |succ n ih=>
  obtain⟨cs,hl,hc⟩:=ih (λk hk=>h k qO);obtain⟨x,hx⟩:=h n qO;refine⟨cs++[x],by simp[hl],λk y hy=>?_⟩;by_cases hk:k<cs.length
  ·rw[lS hk]at hy;exact hc k y hy
  ·rw[oP qO]at hy;have:k-cs.length=0:=by
    obtain h0|h0:=uK (k-cs.length)
    ·exact h0
    ·rw[List.getElem?_eq_none (by simp;omega)]at hy;cases hy
   rw[this]at hy;simp at hy;subst hy;have:k=n:=qO;subst this;exact hx
def cellOf{b:Nat}{cs:Array Value}{t:TypeId}{fr:Nat×Nat}(h:w.heap[b]?=some (.cells cs t fr))(o:Nat):w.cell? ⟨b,o,none⟩=cs[o]?:=cell_of_row w b o cs t fr h
def acN{t:Nat}{x:V}{u:Value}{s:ST}(hM:∀ p q,M p q->q/\(gd->p))(hgd:gd)(hg:Good G s.get w)(hx:aY G s.get w x u)(h:KT M t x s K) :
  ∃ r R,(Instr.loadAt t u).run prog w = .ok r w/\K R/\aY G s.get w R r:=by
 unfold KT at h;split at h
 ·exact h.elim
 rename_i hok
 split at h
 ·rename_i i off
  obtain⟨b,hr,rfl⟩:=hx;split at h
  ·rename_i n g ho
   obtain⟨b',cs,t',hr',hh,hn,hc⟩:=hg.Wp _ _ _ ho;rw[hr]at hr';injection hr' with hr'
   injection hr' with hr'
   subst hr';split at h
   ·rename_i ha
    obtain⟨h1,h2⟩:=hM _ _ h;have h2:=h2 hgd;obtain⟨l,hl,hlc⟩:=Uo (tI t).size (λk x=>cs[off+k]?=some x) (λk hk=>⟨cs[off+k]'qO,vI _⟩);exact⟨_,_,Xd hok ha hl (λj v hv=>(cellOf hh _).trans (hlc j v hv)),h1,_,rfl,by simpa using hl,λk x hx=>hc _ _ (hlc k x (by simpa using hx))⟩
   ·rename_i ha
    obtain⟨h1,h2⟩:=hM _ _ h;have h2:=h2 hgd;have hx:=vI (xs:=cs) (i:=off) qO;exact⟨_,_,Xe hok ha ((cellOf hh _).trans hx),h1,(hc _ _ hx).2⟩
  ·exact h.elim
 ·rename_i i n j c
  obtain⟨A,cc,hr,⟨a,hu⟩,hv⟩:=hx;split at h
  ·rename_i E z m g ho
   obtain⟨hEo,hE,hz,A',c',hr',hrow⟩:=hg.row _ _ _ _ _ ho;rw[hr]at hr';injection hr' with hr'
   injection hr' with hr' hr2
   subst hr' hr2;have hv:=(hv _ _ _ _ ho).2;split at h
   ·rename_i ha
    obtain⟨h1,h2⟩:=hM _ _ h;obtain⟨rfl,hj,hcz⟩:=h2 hgd;obtain⟨b,rfl,rfl⟩:=hv rfl;obtain⟨_,h0⟩|⟨_,b',cs,hb',hh,hsz,hnc,hcm,hcell⟩:=hrow
    ·omega
    injection hb' with hb'
    injection hb' with hb'
    subst hb';obtain⟨l,hl,hlc⟩:=Uo (tI t).size (λk x=>cs[j*z+(c+k)]?=some x/\x.oneCell'=true/\aY G s.get w (g j (c+k)) x) (λk hk=>hcell j hj (c+k) qO);exact⟨_,_,Xd hok ha hl (λk v hv=>by rw[cellOf hh,Nat.add_assoc];exact(hlc k v hv).1),h1,_,rfl,by simpa using hl,λk x hx=>(hlc k x (by simpa using hx)).2⟩
   ·rename_i ha
    obtain⟨h1,h2⟩:=hM _ _ h;obtain⟨rfl,hj,hcz⟩:=h2 hgd;obtain⟨b,rfl,rfl⟩:=hv rfl;obtain⟨_,h0⟩|⟨_,b',cs,hb',hh,hsz,hnc,hcm,hcell⟩:=hrow
    ·omega
    injection hb' with hb'
    injection hb' with hb'
    subst hb';obtain⟨x,hx,ho1,hv1⟩:=hcell j hj c hcz;exact⟨_,_,Xe hok ha ((cellOf hh _).trans hx),h1,hv1⟩
  ·exact h.elim
 ·rename_i n g
  obtain⟨b,off,rfl,h1,h2⟩:=hx;split at h
  ·rename_i ha
   obtain⟨h3,h4⟩:=hM _ _ h;have h4:=h4 hgd;obtain⟨l,hl,hlc⟩:=Uo (tI t).size (λk x=>w.cell? ⟨b,off+k,none⟩=some x/\x.oneCell'=true/\jK G.F w (g k) x) (λk hk=>h2 k qO);exact⟨_,_,Xd hok ha hl (λk v hv=>(hlc k v hv).1),h3,_,rfl,by simpa using hl,λk x hx=>(hlc k x (by simpa using hx)).2⟩
  ·rename_i ha
   obtain⟨h3,h4⟩:=hM _ _ h;have h4:=h4 hgd;obtain⟨x,hx,ho,hd⟩:=h2 0 h4;exact⟨_,_,Xe hok ha hx,h3,hd⟩
 ·exact h.elim
end
end
section
def dJ{a b:Nat}(h:Nat.beq a b=true):a=b:=Nat.eq_of_beq_eq_true h
section
variable {G:Gh} {w:World} {M:Prop->Prop->Prop} {gd:Prop} {K:V->Prop} {s:ST}
def rowOf(hg:Good G s.get w){i E z m n:Nat}{g:Nat->Nat->V}{A:Option Addr}{c:Nat}(ho:s.get i = .row E z m g)(hr:G.ρ i=some (.row A c)):(tI E).ok=true/\(tI E).size=z/\0<z/\Eu G s.get w E z m g A c:=by
 obtain⟨h1,h2,h3,A',c',hr',h4⟩:=hg.row _ _ _ _ _ ho;rw[hr]at hr';injection hr' with hr'
 injection hr' with hr' hr2
 subst hr' hr2;exact⟨h1,h2,h3,h4⟩
def ajo{t:Nat}{x ix:V}{u v:Value}(hM:∀ p q,M p q->q/\(gd->p))(hgd:gd)(hg:Good G s.get w)(hx:aY G s.get w x u)(hi:aY G s.get w ix v)(h:OG M t x ix s K) :
  ∃ r R,(Instr.indexAt t u v).run prog w = .ok r w/\K R/\aY G s.get w R r:=by
 unfold OG at h;split at h;rotate_left
 ·exact h.elim
 rename_i q i
 simp only[aY,jK]at hi;subst hi;split at h
 ·rename_i n z g
  split at h;rotate_left
  ·exact h.elim
  rename_i hz hk hok
  obtain⟨h1,h2⟩:=hM _ _ h;obtain⟨h2,h3⟩:=h2 hgd;obtain⟨A,c,rfl,h4,h5,h6,h7⟩:=hx;rw[qf,Nat.blt_eq]at hz;obtain⟨hz,h0⟩:=hz;have hi0:i.toNat<n:=qO;obtain⟨b,off,x,rfl,hf,hb,hc⟩:=h7 i.toNat hi0 0 h0;refine⟨_,_,Wl hk hok _ _ _ _ _ _ h2 h3,h1,b,off+i.toNat*(tI (tI t).elem).size,rfl,λ_=>⟨hf,hb⟩,λk hk'=>?_⟩;obtain⟨b',off',x',he,hf',hb',hc',ho',hd'⟩:=h7 i.toNat hi0 k hk';injection he with he
  injection he with he1 he2
  subst he1 he2;exact⟨x',by rw[<-dJ hz,Nat.add_assoc];exact hc',ho',hd'⟩
 ·rename_i r n
  obtain⟨A,c,hr,hu',hu⟩:=hx;split at h;rotate_left
  ·exact h.elim
  rename_i E z m g ho hk hok
  split at h;rotate_left
  ·exact h.elim
  rename_i hE
  obtain rfl:=dJ hE;obtain⟨h1,h2⟩:=hM _ _ h;obtain⟨rfl,h2,h3⟩:=h2 hgd;obtain⟨q1,q2,q3,q4⟩:=rowOf (n:=0) hg ho hr;obtain rfl:=(hu _ _ _ _ ho).2 rfl;obtain⟨_,h0⟩|⟨_,b,cs,rfl,q5⟩:=q4
  ·omega
  refine⟨_,_,Wl hk hok _ _ _ _ _ _ h2 h3,h1,_,_,hr,⟨_,rfl⟩,λE' s' m' g' ho'=>?_⟩;rw[ho]at ho';injection ho' with e1 e2 e3 e4
  subst e3 e2;exact⟨bF _,λ_=>⟨b,rfl,by rw[jq,q2,Nat.add_zero]⟩⟩
 ·rename_i r n lo m
  obtain⟨A,c,hr,hu',hu⟩:=hx;split at h;rotate_left
  ·exact h.elim
  rename_i E z q' g ho hk hok
  split at h;rotate_left
  ·exact h.elim
  rename_i hE
  obtain rfl:=dJ hE;obtain⟨h1,h2⟩:=hM _ _ h;obtain⟨rfl,hlo,h2,h3⟩:=h2 hgd;obtain⟨q1,q2,q3,q4⟩:=rowOf (n:=0) hg ho hr;obtain⟨B,c',rfl,hmc,hcm,hB,hBA,_⟩:=(hu _ _ _ _ ho).2 rfl;obtain⟨_,h0⟩|⟨_,b,cs,rfl,q5⟩:=q4
  ·omega
  have hB':=hBA qO;rw[qg,uB,jq]at hB';subst hB';refine⟨_,_,Wl hk hok _ _ _ _ _ _ h2 h3,h1,_,_,hr,⟨_,rfl⟩,λE' s' m' g' ho'=>?_⟩;rw[ho]at ho';injection ho' with e1 e2 e3 e4
  subst e3 e2;exact⟨bF _,λ_=>⟨b,rfl,by rw[q2,Nat.add_mul,Nat.add_zero]⟩⟩
 ·rename_i r off
  obtain⟨b,hr,rfl⟩:=hx;split at h;rotate_left
  ·exact h.elim
  rename_i hk hok hl
  obtain⟨h1,h2⟩:=hM _ _ h;obtain⟨h2,h3⟩:=h2 hgd;exact⟨_,_,aiR hk hok _ _ _ _ h2 h3 (by simpa [Nat.blt_eq] using hl),h1,b,hr,rfl⟩
 ·exact h.elim
def DV{t:Nat}(hk:(tI t).k=3)(hok:(tI (tI t).elem).ok=true)(A:Option Addr)(n c:Nat)(lo hi:Option Value)(l h:Nat)(hh:hi=none/\h=n\/∃ k,hi=some (.int k (h:Int)))(hl:lo=none/\l=0\/∃ k,lo=some (.int k (l:Int)))(h1:l<=h)(h2:h<=c) :
  (Instr.sliceAt t (.slice A n c) lo hi none).run prog w = .ok (.slice (if c=l then A else A.map (·.add (l*(tI (tI t).elem).size))) (h-l) (c-l)) w:=by
 have hz:=qB (w:=w) hok;have hlh:(l:Int)<=(h:Int):=qO;have hhc:(h:Int)<=(c:Int):=qO;have h0:(0:Int)<=(l:Int):=qO;have h00:(0:Int)<=(h:Int):=qO;unfold Instr.sliceAt Instr.slice;obtain⟨rfl,rfl⟩|⟨k,rfl⟩:=hh <;> obtain⟨rfl,rfl⟩|⟨k',rfl⟩:=hl <;> simp[run_underlying (qI hk),Instr.sliceBounds,Instr.sliceBound,asIntOf,Result.andThen,hz,hlh,hhc,h0,h00,h1,h2]
def acb{t:Nat}(hk:(tI t).k=3)(hok:(tI (tI t).elem).ok=true)(A:Option Addr)(n c:Nat)(k k' k2:IntKind)(l h q:Nat)(h1:l<=h)(h2:h<=q)(h3:q<=c) :
  ∃ r,(Instr.sliceAt t (.slice A n c) (some (.int k (l:Int))) (some (.int k' (h:Int))) (some (.int k2 (q:Int)))).run prog w = .ok r w:=by
 have hz:=qB (w:=w) hok;have e1:(l:Int)<=(h:Int):=qO;have e2:(h:Int)<=(q:Int):=qO;have e3:(q:Int)<=(c:Int):=qO;have h0:(0:Int)<=(l:Int):=qO;have h00:(0:Int)<=(h:Int):=qO;have aw7:(0:Int)<=(q:Int):=qO;unfold Instr.sliceAt Instr.slice;exact⟨_,by simp[run_underlying (qI hk),Instr.sliceBounds,Instr.sliceBound,asIntOf,Result.andThen,hz,e1,e2,e3,h0,h00,aw7,h1,h2,h3];rfl⟩
def ug{h:Int}(h0:0<=h):h=((h.toNat:Nat):Int):=qO
def YI{A:Option Addr}{n z c l m:Nat}{g:Nat->Nat->D}(hx:jK G.F w (.sl n z g) (.slice A n c))(hlm:l+m<=n):jK G.F w (.sl m z (λj=>g (l+j))) (.slice (if c=l then A else A.map (·.add (l*z))) m (c-l)):=by
 obtain⟨A',c',he,h4,h5,h6,h7⟩:=hx;injection he with e1 e2 e3
 subst e1 e3;refine⟨_,_,rfl,by omega,by omega,λe=>?_,λj hj k hk=>?_⟩
 ·split at e
  ·omega
  ·obtain _|a:=A
   ·have:=h6 rfl;omega
   ·cases e
 ·obtain⟨b,off,x,rfl,hf,hb,hc,ho,hd⟩:=h7 (l+j) qO k hk;rw[if_neg qO,qg,uB];exact⟨b,off+l*z,x,rfl,hf,hb,by rw[<-hc,Nat.add_mul,Nat.add_assoc,Nat.add_assoc],ho,hd⟩
def Ui{i n lo m c:Nat}{A:Option Addr}{E z r:Nat}{g:Nat->Nat->V}(ho:s.get i = .row E z r g)(hr:G.ρ i=some (.row A c))(hn:n=r)(hnc:n<=c)(hcm:c<=maxLen)(hA:A=none->c=0)(hlm:lo+m<=n):aY G s.get w (.vw i n lo m) (.slice (if c=lo then A else A.map (·.add (lo*z))) m (c-lo)):=by
 refine⟨A,c,hr,⟨_,_,rfl⟩,λE' s' q g' ho'=>?_⟩;rw[ho]at ho';injection ho' with e1 e2 e3 e4
 subst e3 e2;refine⟨by omega,λ_=>⟨_,_,rfl,by omega,by omega,λe=>?_,λhm=>by rw[if_neg qO],rfl,λhm=>by rw[if_neg qO]⟩⟩;split at e
 ·omega
 ·obtain _|a:=A
  ·have:=hA rfl;omega
  ·cases e
def Zp{i n lo l m c:Nat}{A B:Option Addr}{E z r c':Nat}{g:Nat->Nat->V}(ho:s.get i = .row E z r g)(hr:G.ρ i=some (.row A c))(hn:n=r)(hnc:n<=c)(hcm:c<=maxLen)(hA:A=none->c=0)(hA2:0<c->∃ b,A=some ⟨b,0,none⟩)(hc:c'=c-lo)(hB:0<c'->B=A.map (·.add (lo*z)))(hlm:lo+l+m<=n):aY G s.get w (.vw i n (lo+l) m) (.slice (if c'=l then B else B.map (·.add (l*z))) m (c'-l)):=by
 have e:c'-l=c-(lo+l):=qO;refine⟨A,c,hr,⟨_,_,rfl⟩,λE' s' q g' ho'=>?_⟩;rw[ho]at ho';injection ho' with e1 e2 e3 e4
 subst e3 e2;have hb:0<c'-l->(if c'=l then B else B.map (·.add (l*z)))=A.map (·.add ((lo+l)*z)):=λh=>by
  rw[if_neg qO,hB qO];obtain⟨b,rfl⟩:=hA2 qO;rw[qg,qg,qg,uB,uB,uB,Nat.add_mul,jq,jq]
 refine⟨by omega,λ_=>⟨_,_,rfl,by omega,by omega,λe=>?_,λhm=>hb qO,e,hb⟩⟩;obtain h|h:=uK (c'-l)
 ·exact h
 ·rw[hb h]at e;obtain⟨b,rfl⟩:=hA2 qO;cases e
def afj{E z n c:Nat}{g:Nat->Nat->V}{A:Option Addr}(h:Eu G s.get w E z n g A c)(hc:0<c):∃ b,A=some ⟨b,0,none⟩:=by
 obtain⟨h1,h2⟩|⟨h1,b,cs,h2,_⟩:=h
 ·omega
 ·exact⟨b,h2⟩
def Ef{E z n c:Nat}{g:Nat->Nat->V}{A:Option Addr}(h:Eu G s.get w E z n g A c):n<=c/\c<=maxLen/\(A=none->c=0):=by
 obtain⟨h1,h2⟩|⟨h1,b,cs,h2,h3,h4,h5,h6,_⟩:=h
 ·exact⟨by omega,by unfold maxLen;omega,λ_=>h1⟩
 ·exact⟨h5,h6,λe=>by rw[h2]at e;cases e⟩
def KG(G:Gh)(s:ST)(w:World):Option V->Option Value->Prop
 |none,none=>True
 |some v,some u=>aY G s.get w v u
 |_,_=>False
def ajn{t:Nat}{x:V}{u:Value}{lo hi mx:Option V}{ulo uhi umx:Option Value}(hM:∀ p q,M p q->q/\(gd->p))(hgd:gd)(hg:Good G s.get w)(hx:aY G s.get w x u)(hlo:KG G s w lo ulo)(hhi:KG G s w hi uhi)(hmx:KG G s w mx umx)(h:OB M t x lo hi mx s K) :
  ∃ r R,(Instr.sliceAt t u ulo uhi umx).run prog w = .ok r w/\K R/\aY G s.get w R r:=by
 have BP:∀ {y:Option Value},KG G s w none y->y=none:=λ{y} h=>by cases y;rfl;exact h.elim
 have tu:∀ {y:Option Value} {k:IntKind} {i:Int},KG G s w (some (.d (.v (.int k i)))) y->y=some (.int k i):=λ{y k i} h=>by
  cases y with
  |none=>exact h.elim
  |some y=>rw[show y = .int k i from h]
 unfold OB at h;split at h
 ·rename_i hk hok
  obtain rfl:=BP hmx;split at h
  ·rename_i n z g
   obtain⟨A,c,rfl,h4,h5,h6,h7⟩:=id hx;split at h
   ·rename_i hh hz
    obtain rfl:=BP hlo;obtain rfl:=tu hhi;obtain⟨h1,h2⟩:=hM _ _ h;obtain⟨h2,h3⟩:=h2 hgd;obtain rfl:=dJ hz;have r:=YI (l:=0) (m:=hh.toNat) hx qO;simp only[jq]at r;exact⟨_,_,DV hk hok A n c _ _ 0 hh.toNat (.inr ⟨_,by rw[<-ug h2]⟩) (.inl ⟨rfl,rfl⟩) qO qO,h1,r⟩
   ·rename_i ll hz
    obtain rfl:=BP hhi;obtain rfl:=tu hlo;obtain⟨h1,h2⟩:=hM _ _ h;obtain⟨h2,h3⟩:=h2 hgd;obtain rfl:=dJ hz;have r:=YI (l:=ll.toNat) (m:=n-ll.toNat) hx qO;exact⟨_,_,DV hk hok A n c _ _ ll.toNat n (.inl ⟨rfl,rfl⟩) (.inr ⟨_,by rw[<-ug h2]⟩) qO qO,h1,r⟩
   ·rename_i ll _ hh hz
    obtain rfl:=tu hlo;obtain rfl:=tu hhi;obtain⟨h1,h2⟩:=hM _ _ h;obtain⟨h2,h3,h8⟩:=h2 hgd;obtain rfl:=dJ hz;have r:=YI (l:=ll.toNat) (m:=hh.toNat-ll.toNat) hx qO;exact⟨_,_,DV hk hok A n c _ _ ll.toNat hh.toNat (.inr ⟨_,by rw[<-ug qO]⟩) (.inr ⟨_,by rw[<-ug h2]⟩) qO qO,h1,r⟩
   ·exact h.elim
  ·rename_i i n
   obtain⟨A,c,hr,hu',hu⟩:=hx;split at h
   ·rename_i E z r g ho
    obtain⟨q1,q2,q3,q4⟩:=rowOf (n:=0) hg ho hr;obtain⟨q5,q6,q7⟩:=Ef q4;split at h
    ·rename_i hh hE
     obtain rfl:=dJ hE;obtain rfl:=BP hlo;obtain rfl:=tu hhi;obtain⟨h1,h2⟩:=hM _ _ h;obtain⟨rfl,h2,h3⟩:=h2 hgd;obtain rfl:=(hu _ _ _ _ ho).2 rfl;subst q2;exact⟨_,_,DV hk hok A n c _ _ 0 hh.toNat (.inr ⟨_,by rw[<-ug h2]⟩) (.inl ⟨rfl,rfl⟩) qO qO,h1,Ui (lo:=0) (m:=hh.toNat) ho hr rfl q5 q6 q7 qO⟩
    ·rename_i ll hE
     obtain rfl:=dJ hE;obtain rfl:=BP hhi;obtain rfl:=tu hlo;obtain⟨h1,h2⟩:=hM _ _ h;obtain⟨rfl,h2,h3⟩:=h2 hgd;obtain rfl:=(hu _ _ _ _ ho).2 rfl;subst q2;exact⟨_,_,DV hk hok A n c _ _ ll.toNat n (.inl ⟨rfl,rfl⟩) (.inr ⟨_,by rw[<-ug h2]⟩) qO qO,h1,Ui (lo:=ll.toNat) (m:=n-ll.toNat) ho hr rfl q5 q6 q7 qO⟩
    ·rename_i ll _ hh hE
     obtain rfl:=dJ hE;obtain rfl:=tu hlo;obtain rfl:=tu hhi;obtain⟨h1,h2⟩:=hM _ _ h;obtain⟨rfl,h2,h3,h8⟩:=h2 hgd;obtain rfl:=(hu _ _ _ _ ho).2 rfl;subst q2;exact⟨_,_,DV hk hok A n c _ _ ll.toNat hh.toNat (.inr ⟨_,by rw[<-ug qO]⟩) (.inr ⟨_,by rw[<-ug h2]⟩) qO qO,h1,Ui (lo:=ll.toNat) (m:=hh.toNat-ll.toNat) ho hr rfl q5 q6 q7 qO⟩
    ·exact h.elim
   ·exact h.elim
  ·rename_i i n zW q
   obtain⟨A,c,hr,hu',hu⟩:=hx;split at h
   ·rename_i E z r g ho
    obtain⟨q1,q2,q3,q4⟩:=rowOf (n:=0) hg ho hr;obtain⟨q5,q6,q7⟩:=Ef q4;have q8:=afj q4;subst q2;split at h
    ·rename_i hh hE
     obtain rfl:=dJ hE;obtain rfl:=BP hlo;obtain rfl:=tu hhi;obtain⟨h1,h2⟩:=hM _ _ h;obtain⟨rfl,h2,h3⟩:=h2 hgd;obtain⟨B,c',rfl,p1,p2,p3,p4,p5,p6⟩:=(hu _ _ _ _ ho).2 rfl;exact⟨_,_,DV hk hok B q c' _ _ 0 hh.toNat (.inr ⟨_,by rw[<-ug h2]⟩) (.inl ⟨rfl,rfl⟩) qO qO,h1,Zp (l:=0) (m:=hh.toNat) ho hr rfl q5 q6 q7 q8 p5 p6 qO⟩
    ·rename_i ll hE
     obtain rfl:=dJ hE;obtain rfl:=BP hhi;obtain rfl:=tu hlo;obtain⟨h1,h2⟩:=hM _ _ h;obtain⟨rfl,h2,h3,h4⟩:=h2 hgd;obtain⟨B,c',rfl,p1,p2,p3,p4,p5,p6⟩:=(hu _ _ _ _ ho).2 rfl;exact⟨_,_,DV hk hok B q c' _ _ ll.toNat q (.inl ⟨rfl,rfl⟩) (.inr ⟨_,by rw[<-ug h2]⟩) qO qO,h1,Zp (l:=ll.toNat) (m:=q-ll.toNat) ho hr rfl q5 q6 q7 q8 p5 p6 qO⟩
    ·rename_i ll _ hh hE
     obtain rfl:=dJ hE;obtain rfl:=tu hlo;obtain rfl:=tu hhi;obtain⟨h1,h2⟩:=hM _ _ h;obtain⟨rfl,h2,h3,h8⟩:=h2 hgd;obtain⟨B,c',rfl,p1,p2,p3,p4,p5,p6⟩:=(hu _ _ _ _ ho).2 rfl;exact⟨_,_,DV hk hok B q c' _ _ ll.toNat hh.toNat (.inr ⟨_,by rw[<-ug qO]⟩) (.inr ⟨_,by rw[<-ug h2]⟩) qO qO,h1,Zp (l:=ll.toNat) (m:=hh.toNat-ll.toNat) ho hr rfl q5 q6 q7 q8 p5 p6 qO⟩
    ·exact h.elim
   ·exact h.elim
  ·exact h.elim
 ·rename_i qk qq hk hok
  obtain rfl:=tu hmx;split at h
  ·rename_i i n kl ll kh hh
   obtain⟨A,c,hr,hu',hu⟩:=hx;obtain rfl:=tu hlo;obtain rfl:=tu hhi;split at h
   ·rename_i E z r g ho
    obtain⟨q1,q2,q3,q4⟩:=rowOf (n:=0) hg ho hr;obtain⟨q5,q6,q7⟩:=Ef q4;split at h
    ·obtain⟨h1,h2⟩:=hM _ _ h;obtain⟨rfl,h2,h3,h4,h5⟩:=h2 hgd;obtain rfl:=(hu _ _ _ _ ho).2 rfl;obtain⟨v,hv⟩:=acb (w:=w) hk hok A n c kl kh qk ll.toNat hh.toNat qq.toNat qO qO qO;rw[<-ug qO,<-ug qO,<-ug qO]at hv;exact⟨_,_,hv,h1,trivial⟩
    ·exact h.elim
   ·exact h.elim
  ·rename_i i n zW m kl ll kh hh
   obtain⟨A,c,hr,hu',hu⟩:=hx;obtain rfl:=tu hlo;obtain rfl:=tu hhi;split at h
   ·rename_i E z r g ho
    obtain⟨q1,q2,q3,q4⟩:=rowOf (n:=0) hg ho hr;obtain⟨q5,q6,q7⟩:=Ef q4;split at h
    ·obtain⟨h1,h2⟩:=hM _ _ h;obtain⟨rfl,h2,h3,h4,h5⟩:=h2 hgd;obtain⟨B,c',rfl,p1,p2,p3,p4,p5,p6⟩:=(hu _ _ _ _ ho).2 rfl;obtain⟨v,hv⟩:=acb (w:=w) hk hok B m c' kl kh qk ll.toNat hh.toNat qq.toNat qO qO qO;rw[<-ug qO,<-ug qO,<-ug qO]at hv;exact⟨_,_,hv,h1,trivial⟩
    ·exact h.elim
   ·exact h.elim
  ·exact h.elim
 ·rename_i hk
  obtain rfl:=BP hmx;split at h
  ·rename_i b
   simp only[aY,jK]at hx;subst hx;split at h
   ·rename_i q hh
    obtain rfl:=BP hlo;obtain rfl:=tu hhi;obtain⟨h1,h2⟩:=hM _ _ h;obtain⟨h2,h3⟩:=h2 hgd;exact⟨_,_,by unfold Instr.sliceAt Instr.slice;simp[run_underlying (IX hk),Instr.sliceBounds,Instr.sliceBound,asIntOf,Result.andThen,h2,h3],h1,rfl⟩
   ·rename_i q ll
    obtain rfl:=BP hhi;obtain rfl:=tu hlo;obtain⟨h1,h2⟩:=hM _ _ h;obtain⟨h2,h3⟩:=h2 hgd;exact⟨_,_,by unfold Instr.sliceAt Instr.slice;simp[run_underlying (IX hk),Instr.sliceBounds,Instr.sliceBound,asIntOf,Result.andThen,h2,h3],h1,rfl⟩
   ·exact h.elim
  ·exact h.elim
 ·exact h.elim
def ama{t ty:Nat}{x:V}{u:Value}(hg:Good G s.get w)(hx:aY G s.get w x u)(h:Vr t x s K) :
  ∃ r R,(Builtin.len_ #[t] ty #[u]).run prog w = .ok r w/\K R/\aY G s.get w R r:=by
 unfold Vr at h;split at h
 ·rename_i n z g hk
  obtain⟨A,c,rfl,_⟩:=hx;exact⟨_,_,by simp[Builtin.len_,run_underlying (qI hk)];rfl,h,rfl⟩
 ·rename_i i n hk
  obtain⟨A,c,hr,⟨A',c',rfl⟩,_⟩:=hx;exact⟨_,_,by simp[Builtin.len_,run_underlying (qI hk)];rfl,h,rfl⟩
 ·rename_i i n lo m hk
  obtain⟨A,c,hr,⟨A',c',rfl⟩,_⟩:=hx;exact⟨_,_,by simp[Builtin.len_,run_underlying (qI hk)];rfl,h,rfl⟩
 ·rename_i hk
  obtain⟨A,rfl⟩:=hx;exact⟨_,_,by simp[Builtin.len_,run_underlying (qI hk)];rfl,h,rfl⟩
 ·rename_i b hk
  simp only[aY,jK]at hx;subst hx;exact⟨_,_,by simp[Builtin.len_,run_underlying (IX hk)];rfl,h,rfl⟩
 ·exact h.elim
end
end
section
def uQ(ρ:Nat->Option Loc)(i:Nat)(l:Loc)(j:Nat):Option Loc:=if j=i then some l else ρ j
def Gh.upd(G:Gh)(i:Nat)(l:Loc):Gh:=⟨G.F,uQ G.ρ i l⟩
def OZ(l:Loc)(o:aK)(b:Nat):Prop:=
 match o with
 |.dead=>False
 |.row _ _ _ _=>∃ A c,l = .row A c/\0<c/\∃ off,A=some ⟨b,off,none⟩
 |_=>l = .Wp b
def abk(G:Gh)(o:Nat->aK)(w:World)(l:Loc):aK->Prop
 |.dead=>True
 |.Wp n g=>∃ b cs t,l = .Wp b/\w.heap[b]?=some (.cells cs t (0,0))/\cs.size=n/\∀ k x,cs[k]?=some x->x.oneCell'=true/\aY G o w (g k) x
 |.row E s n g=>(tI E).ok=true/\(tI E).size=s/\0<s/\∃ A c,l = .row A c/\Eu G o w E s n g A c
 |.map es=>∃ b jF cl,l = .Wp b/\w.heap[b]?=some (.map jF cl)/\uu G o w jF.toList es
def Oa(t:ST)(ob:aK)(i:Nat):(t.new ob).get i=if i=t.nx then ob else t.get i:=by
 show(bif Nat.beq t.nx i then ob else axA t.st i)=if i=t.nx then ob else axA t.st i
 rcases h:Nat.beq t.nx i with _|_
 ·rw[if_neg (λe=>by subst e;simp at h)];rfl
 ·rw[if_pos (dJ h).symm];rfl
def qU(t:ST)(j:Nat)(ob:aK)(i:Nat):(t.set j ob).get i=if i=j then ob else t.get i:=by
 show axA (PR t.st j ob) i=if i=j then ob else axA t.st i
 induction t.st with
 |nil=>
  show(bif Nat.beq j i then ob else aK.dead)=if i=j then ob else aK.dead
  rcases h:Nat.beq j i with _|_
  ·rw[if_neg (λe=>by subst e;simp at h)];rfl
  ·rw[if_pos (dJ h).symm];rfl
 |cons p r ih=>
  obtain⟨k,x⟩:=p;unfold PR;rcases hk:Nat.beq k j with _|_
  ·show(bif Nat.beq k i then x else axA (PR r j ob) i)=if i=j then ob else(bif Nat.beq k i then x else axA r i)
   rcases hi:Nat.beq k i with _|_
   ·exact ih
   ·have e:=dJ hi;subst e;rw[if_neg (λe=>by subst e;simp at hk)];rfl
  ·have e:=dJ hk;subst e;show(bif Nat.beq k i then ob else axA r i)=if i=k then ob else(bif Nat.beq k i then x else axA r i)
   rcases hi:Nat.beq k i with _|_
   ·rw[if_neg (λe=>by subst e;simp at hi)];rfl
   ·rw[if_pos (dJ hi).symm];rfl
section
variable {G:Gh} {t t':ST} {w w':World} {i:Nat} {l:Loc} {ob:aK}
def SA{j b:Nat}(ht:∀ k,t'.get k=if k=i then ob else t.get k)(h:dB (G.upd i l) t'.get j b):(j=i/\OZ l ob b)\/(j≠i/\dB G t.get j b):=by
 by_cases hj:j=i
 ·subst hj;refine .inl ⟨rfl,?_⟩;unfold dB at h;rw[ht,if_pos rfl]at h;unfold OZ;cases ob with
  |dead=>exact h
  |Wp n g=>have h:uQ G.ρ j l j=some (.Wp b):=h;rw[uQ,if_pos rfl]at h;exact fD h
  |map es=>have h:uQ G.ρ j l j=some (.Wp b):=h;rw[uQ,if_pos rfl]at h;exact fD h
  |row E s n g=>
   obtain⟨A,c,h1,h2⟩:=h;have h1:uQ G.ρ j l j=some (.row A c):=h1;rw[uQ,if_pos rfl]at h1;exact⟨A,c,fD h1,h2⟩
 ·refine .inr ⟨hj,?_⟩;unfold dB at h ⊢;rw[ht,if_neg hj]at h;have e:(G.upd i l).ρ j=G.ρ j:=if_neg hj;rw[e]at h;exact h
structure vG (G:Gh) (t t':ST) (w w':World) (i:Nat) (l:Loc) (ob:aK):Prop where
 get:∀ k,t'.get k=if k=i then ob else t.get k
 nx:t.nx<=t'.nx/\i<t'.nx
 os:w'.os=w.os
 tape:w'.tape=w.tape
 output:w'.output=w.output
 size:w.heap.size<=w'.heap.size
 axz:∀ b,b<w.heap.size->¬dB G t.get i b->w'.heap[b]?=w.heap[b]?
 own:∀ b,OZ l ob b->dB G t.get i b\/w.heap.size<=b
 loc:∀ b,G.ρ i=some (.Wp b)->l = .Wp b
 row:∀ A c,G.ρ i=some (.row A c)->∃ A' c',l = .row A' c'/\∀ E s m g,ob = .row E s m g->∃ m0 g0,t.get i = .row E s m0 g0/\m0<=m/\(m0=m->A'=A/\c'=c)
def vG.dX(h:vG G t t' w w' i l ob):Stp G t.get w (G.upd i l) t'.get w' where
 os:=h.os
 tape:=h.tape
 output:=h.output
 size:=h.size
 axz:=λb hb hn=>h.axz b hb (hn i)
 F1:=λ_ hf _=>hf
 F2:=λ_ hf=>.inl hf
 own:=λj b ho=>by
  obtain⟨rfl,h1⟩|⟨h1,h2⟩:=SA h.get ho
  ·exact h.own b h1
  ·exact .inl h2
 loc:=λj b hj=>by
  show uQ G.ρ i l j=_;unfold uQ;by_cases e:j=i
  ·subst e;rw[if_pos rfl,h.loc b hj]
  ·rw[if_neg e,hj]
 row:=λj A c hj=>by
  show ∃ A' c',uQ G.ρ i l j=_/\_;unfold uQ;by_cases e:j=i
  ·subst e;obtain⟨A',c',h1,h2⟩:=h.row A c hj;refine⟨A',c',by rw[if_pos rfl,h1],λE s m g ho=>?_⟩;rw[h.get,if_pos rfl]at ho;exact h2 E s m g ho
  ·refine⟨A,c,by rw[if_neg e,hj],λE s m g ho=>?_⟩;rw[h.get,if_neg e]at ho;exact⟨m,g,ho,bF _,λ_=>⟨rfl,rfl⟩⟩
def vG.axy(h:vG G t t' w w' i l ob)(hg:bZ G t w)(hok:abk (G.upd i l) t'.get w' l ob)(hun:∀ k,t'.nx<=k->G.ρ k=none):bZ (G.upd i l) t' w':=by
 have hs:=h.dX;have hself:(G.upd i l).ρ i=some l:=if_pos rfl;have hother:∀ j,j≠i->(G.upd i l).ρ j=G.ρ j:=λj hj=>if_neg hj
 have hkeep:∀ j b,j≠i->dB G t.get j b->w'.heap[b]?=w.heap[b]?:=λj b hj ho=>h.axz b (hg.axy.lt ho) λho'=>hj (hg.axy.sep _ _ _ ho ho')
 refine⟨⟨λj n g ho=>?_,λj E s n g ho=>?_,λj es ho=>?_,λj b ho hf=>?_,λb hf=>sV (hg.axy.wF b hf) h.size,λj k b ho hk=>?_⟩,λk hk=>?_⟩
 ·rw[h.get]at ho;split at ho
  ·rename_i e
   subst e ho;obtain⟨b,cs,ty,h1,h2⟩:=hok;exact⟨b,cs,ty,by rw[hself,h1],h2⟩
  ·rename_i e
   obtain⟨b,cs,ty,h1,h2,h3,h4⟩:=hg.axy.Wp _ _ _ ho;exact⟨b,cs,ty,by rw[hother j e,h1],by rw[hkeep j b e (by unfold dB;rw[ho];exact h1),h2],h3,λk x hx=>⟨(h4 k x hx).1,(h4 k x hx).2.dX hs hg.axy⟩⟩
 ·rw[h.get]at ho;split at ho
  ·rename_i e
   subst e ho;obtain⟨h1,h2,h3,A,c,h4,h5⟩:=hok;exact⟨h1,h2,h3,A,c,by rw[hself,h4],h5⟩
  ·rename_i e
   obtain⟨h1,h2,h3,A,c,h4,h5⟩:=hg.axy.row _ _ _ _ _ ho;refine⟨h1,h2,h3,A,c,by rw[hother j e,h4],?_⟩;obtain h5|⟨h5,b,cs,rfl,h6,h7,h8,h9,h10⟩:=h5
   ·exact .inl h5
   ·refine .inr ⟨h5,b,cs,rfl,by rw[hkeep j b e (by unfold dB;rw[ho];exact⟨_,_,h4,h5,_,rfl⟩),h6],h7,h8,h9,λa ha k hk=>?_⟩;obtain⟨x,q1,q2,q3⟩:=h10 a ha k hk;exact⟨x,q1,q2,q3.dX hs hg.axy⟩
 ·rw[h.get]at ho;split at ho
  ·rename_i e
   subst e ho;obtain⟨b,jF,cl,h1,h2⟩:=hok;exact⟨b,jF,cl,by rw[hself,h1],h2⟩
  ·rename_i e
   obtain⟨b,jF,cl,h1,h2,h3⟩:=hg.axy.map _ _ ho;exact⟨b,jF,cl,by rw[hother j e,h1],by rw[hkeep j b e (by unfold dB;rw[ho];exact h1),h2],h3.dX hs hg.axy⟩
 ·obtain⟨rfl,h1⟩|⟨h1,h2⟩:=SA h.get ho
  ·obtain h2|h2:=h.own b h1
   ·exact hg.axy.xP _ _ h2 hf
   ·have:=hg.axy.wF b hf;omega
  ·exact hg.axy.xP _ _ h2 hf
 ·obtain⟨rfl,h1⟩|⟨h1,h2⟩:=SA h.get ho <;> obtain⟨rfl,h3⟩|⟨h3,h4⟩:=SA h.get hk
  ·rfl
  ·obtain h5|h5:=h.own b h1
   ·exact hg.axy.sep _ _ _ h5 h4
   ·have:=hg.axy.lt h4;omega
  ·obtain h5|h5:=h.own b h3
   ·exact hg.axy.sep _ _ _ h2 h5
   ·have:=hg.axy.lt h2;omega
  ·exact hg.axy.sep _ _ _ h2 h4
 ·have hki:k≠i:=by have:=h.nx.2;omega
  exact⟨by rw[hother k hki];exact hun k hk,by rw[h.get,if_neg hki];exact(hg.jZ k (by have:=h.nx.1;omega)).2⟩
def TU(hg:bZ G t w)(hb:Below w.heap.size w w')(hl:∀ b,OZ l ob b->w.heap.size<=b):vG G t (t.new ob) w w' t.nx l ob where
 get:=Oa t ob
 nx:=⟨by show t.nx<=t.nx+1;omega,by show t.nx<t.nx+1;omega⟩
 os:=hb.os
 tape:=hb.tape
 output:=hb.output
 size:=hb.size
 axz:=λb h _=>hb.block b h
 own:=λb h=>.inr (hl b h)
 loc:=λb h=>by rw[(hg.jZ t.nx (bF _)).1]at h;cases h
 row:=λA c h=>by rw[(hg.jZ t.nx (bF _)).1]at h;cases h
def vG.Uk(h:vG G t (t.new ob) w w' t.nx l ob)(hg:bZ G t w)(hok:abk (G.upd t.nx l) (t.new ob).get w' l ob):bZ (G.upd t.nx l) (t.new ob) w':=
 h.axy hg hok λk hk=>(hg.jZ k (by have:t.nx+1<=k:=hk;omega)).1
def afE(hg:bZ G t w){n:Nat}{g:Nat->V}{cs:Array Value}(ty:TypeId)(hn:cs.size=n)(hc:∀ k x,cs[k]?=some x->x.oneCell'=true/\aY G t.get w (g k) x) :
  let G':=G.upd t.nx (.Wp w.heap.size)
  let w':=w.alloc (.cells cs ty)
  bZ G' (t.new (.Wp n g)) w'/\Stp G t.get w G' (t.new (.Wp n g)).get w'/\aY G' (t.new (.Wp n g)).get w' (.ptr t.nx 0) (.pointer (some ⟨w.heap.size,0,none⟩)):=by
 intro G' w';have hch:vG G t (t.new (.Wp n g)) w w' t.nx (.Wp w.heap.size) (.Wp n g):=TU hg ((Below.refl _ _).alloc (bF _) _) (λb h=>by injection h with h;omega);have hs:=hch.dX;refine⟨hch.Uk hg ⟨w.heap.size,cs,ty,rfl,heap_alloc_new w _,hn,λk x hx=>⟨(hc k x hx).1,(hc k x hx).2.dX hs hg.axy⟩⟩,hs,w.heap.size,if_pos rfl,rfl⟩
end
end
section
def Ov(w:World)(base:Nat)(E:TypeId)(size:Nat)(A:Option Addr)(n c:Nat)(vs:List Value):Prop:=w.ownsRow base E size (.slice A n c) n vs
section
variable {w w':World} {base size n c:Nat} {E:TypeId} {A:Option Addr} {vs:List Value}
def Ov.len(h:Ov w base E size A n c vs):vs.length=n*size:=h.1
def Zf(w:World)(base:Nat)(E:TypeId)(size:Nat):Ov w base E size none 0 0 []:=World.ownsRow_nil w base E size
def Ov.row(h:Ov w base E size A n c vs):∀ g,(Value.slice A n c).ownBlock=some g->base<=g/\g<w.heap.size/\∃ cs,w.heap[g]?=some (.cells cs E (0,0)):=by
 intro g hg;obtain⟨hv,_⟩|⟨g',cap,cur,hv,hb,hgg,_⟩:=h.2
 ·rw[hv]at hg;simp[Value.ownBlock]at hg
 ·rw[hv]at hg;simp[Value.ownBlock]at hg;subst hg;exact⟨hb,(Array.getElem?_eq_some_iff.1 hgg).1,cur,hgg⟩
end
section
variable {P:Program} {w:World}
def ait(t ty E:TypeId)(i:TypeInfo)(z:Value)(size bytes:Nat)(ht:P.underlying t=some (.slice E))(hi:P.info? E=some i)(hz:i.zero=some z)(hsize:i.size=size)(hby:i.bytes=bytes)(hzs:z.cells.size=size)(hsz:0<size)
  {base n c:Nat} {A:Option Addr} {vs:List Value} (hown:Ov w base E size A n c vs) (ad:Addr) (m c2:Nat) (news:List Value) (hl:news.length=m*size) (hnews:∀ j u,news[j]?=some u->w.cell? (ad.add j)=some u) (h1:∀ u∈news,u.oneCell'=true)
  (h63:n+m<=9223372036854775807) (hbytes:(n+m)*bytes<=140737488355328) (hbase:base<=w.heap.size) :
  ∃ A' c' w',(Builtin.append_ #[t,t] ty #[.slice A n c,.slice (some ad) m c2]).run P w = .ok (.slice A' (n+m) c') w'/\Ov w' base E size A' (n+m) c' (vs++news)/\w.grownBy w' (Value.slice A n c).ownBlock /\
   (A'=A\/A'=some ⟨w.heap.size,0,none⟩):=by
 obtain⟨v',w',hrun,h2,h3,_,h5⟩:=run_append_own_at (P:=P) w base t ty E i z size bytes ht hi hz hsize hby hzs hsz _ n vs hown ad m c2 news hl hnews h1 (by unfold maxLen;omega) hbytes hbase;have shape:∃ A' c',v' = .slice A' (n+m) c'/\(A'=A\/A'=some ⟨w.heap.size,0,none⟩):=by
  obtain⟨rfl,h0⟩|⟨g,cap,cur,rfl,hrest⟩:=h2.2
  ·refine⟨none,0,by rw[h0],?_⟩;cases A with
   |none=>exact .inl rfl
   |some a=>simp[Value.ownBlock]at h5
  ·refine⟨_,_,rfl,?_⟩;obtain hb|hb:=h5
   ·cases A with
    |none=>simp[Value.ownBlock]at hb
    |some a=>
     obtain⟨h1,_⟩|⟨g2,_,_,h1,_⟩:=hown.2
     ·simp at h1
     ·injection h1 with h1
      injection h1 with h1
      subst h1;simp[Value.ownBlock]at hb;subst hb;exact .inl rfl
   ·simp[Value.ownBlock]at hb;subst hb;exact .inr rfl
 obtain⟨A',c',rfl,hA'⟩:=shape;exact⟨A',c',w',hrun,h2,h3,hA'⟩
end
end
section
def Rd(w:World)(B:Nat)(A:Option Addr)(vs:List Value):Prop:=
 0<vs.length->∃ b off,A=some ⟨b,off,none⟩/\b<B/\∀ i,i<vs.length->w.cell? ⟨b,off+i,none⟩=vs[i]?
section
variable {w w':World} {B B':Nat} {A:Option Addr} {vs:List Value}
def Rd.nil:Rd w B A []:=λh=>ai h (by simp)
end
section
variable {P:Program} {w:World}
def aiu(t ty E:TypeId)(i:TypeInfo)(z:Value)(size bytes:Nat)(ht:P.underlying t=some (.slice E))(hi:P.info? E=some i)(hz:i.zero=some z)(hsize:i.size=size)(hby:i.bytes=bytes)(hzs:z.cells.size=size)(hsz:0<size)
  {base n c:Nat} {A:Option Addr} {vs:List Value} (hown:Ov w base E size A n c vs) {B m c2:Nat} {A2:Option Addr} {news:List Value} (hl:news.length=m*size) (hr:Rd w B A2 news) (h1:∀ u∈news,u.oneCell'=true)
  (h63:n+m<=9223372036854775807) (hbytes:(n+m)*bytes<=140737488355328) (hbase:base<=w.heap.size) :
  ∃ A' c' w',(Builtin.append_ #[t,t] ty #[.slice A n c,.slice A2 m c2]).run P w = .ok (.slice A' (n+m) c') w'/\Ov w' base E size A' (n+m) c' (vs++news)/\w.grownBy w' (Value.slice A n c).ownBlock /\
   (A'=A\/A'=some ⟨w.heap.size,0,none⟩):=by
 obtain _|ad:=A2
 ·obtain rfl:news=[]:=by
   obtain h0|h0:=uK news.length
   ·exact uI h0
   ·obtain⟨b,off,he,_⟩:=hr h0;cases he
  obtain rfl:m=0:=by
   obtain h0|h0:=uK m
   ·exact h0
   ·have:=Nat.mul_pos h0 hsz;simp at hl;omega
  refine⟨A,c,w,?_,by simpa using hown,World.grownBy.refl w _,.inl rfl⟩;obtain⟨hv,_⟩|⟨g,cap,cur,hv,_,_,hnc,_⟩:=hown.2
  ·rw[hv];simp at hv;simp[Builtin.append_,run_underlying ht,sizeOf,typeInfo,hi,Builtin.lenOf,Builtin.firstCells,hv]
  ·simp at hv;obtain⟨rfl,rfl⟩:=hv;simp[Builtin.append_,run_underlying ht,sizeOf,typeInfo,hi,Builtin.lenOf,Builtin.firstCells,hnc,storeCells]
 ·refine ait (P:=P) t ty E i z size bytes ht hi hz hsize hby hzs hsz hown ad m c2 news hl (λj u hu=>?_) h1 h63 hbytes hbase;have hj:j<news.length:=(List.getElem?_eq_some_iff.1 hu).1;obtain⟨b,off,he,_,hc⟩:=hr qO;injection he with he
  subst he;rw[Addr.add_lit,hc j hj,hu]
end
def iv(n:Int):Value:=.int .i64 n
end
section
section
variable {G:Gh} {ob:Nat->aK} {w:World} {t:ST} {o:Oper} {a:Act} {K:V->ST->Prop}
def adk:∀ {l:List Value} {q:List V},yJ l q=true->l.length=q.length/\∀ k x,l[k]?=some x->x.oneCell'=true/\aY G ob w (q.getD k .top) x:=by
  intro l;induction l with
  | nil=>
    intro q h;cases q with
    | nil=>exact⟨rfl,λk x hx=>by simp at hx⟩
    | cons a b=>simp[yJ]at h
  | cons a l ih=>
    intro q h;unfold yJ at h;split at h
    · rename_i e;cases e
    · rename_i e1
      injection e1 with e1 e3
      subst e1 e3;obtain⟨h1,h2⟩:=ih h;refine⟨by simp[h1],λk x hx=>?_⟩;cases k with
      | zero=>simp at hx;subst hx;exact⟨rfl,none,rfl⟩
      | succ k=>exact h2 k x (by simpa using hx)
    · rename_i e1
      injection e1 with e1 e3
      subst e1 e3;simp only[qf,beq_iff_eq]at h;obtain⟨rfl,h⟩:=h;obtain⟨h1,h2⟩:=ih h;refine⟨by simp[h1],λk x hx=>?_⟩;cases k with
      | zero=>simp at hx;subst hx;exact⟨rfl,rfl⟩
      | succ k=>exact h2 k x (by simpa using hx)
    · rename_i e1
      injection e1 with e1 e3
      subst e1 e3;obtain⟨h1,h2⟩:=ih h;refine⟨by simp[h1],λk x hx=>?_⟩;cases k with
      | zero=>simp at hx;subst hx;exact⟨rfl,rfl⟩
      | succ k=>exact h2 k x (by simpa using hx)
    · rename_i s1 _ s2 _ e1
      injection e1 with e1 e3
      subst e1 e3;simp only[qf,List.isEmpty_iff]at h;obtain⟨⟨q1,q2⟩,h⟩:=h;obtain⟨h1,h2⟩:=ih h;refine⟨by simp[h1],λk x hx=>?_⟩;cases k with
      | zero=>
        simp at hx;subst hx;refine⟨rfl,?_⟩;obtain⟨⟨d1⟩⟩:=s1;obtain⟨⟨d2⟩⟩:=s2;simp only at q1 q2;subst q1 q2;rfl
      | succ k=>exact h2 k x (by simpa using hx)
    all_goals first
      | exact ai h Bool.false_ne_true
      | (rename_i e1
         injection e1 with e1 e3
         subst e1 e3;obtain⟨h1,h2⟩:=ih h;refine⟨by simp[h1],λk x hx=>?_⟩;cases k with
         | zero=>simp at hx;subst hx;exact⟨rfl,rfl⟩
         | succ k=>exact h2 k x (by simpa using hx))
def amM{v:V}{u:Value}(h:aaQ v=true)(hv:aY G ob w v u):u.oneCell'=true:=by
 unfold aaQ at h;split at h
 ·exact(show u=_ from hv)▸h
 ·obtain⟨A,c,rfl,_⟩:=hv;rfl
 ·obtain⟨A,rfl⟩:=hv;rfl
 ·obtain⟨b,o,rfl,_⟩:=hv;rfl
 ·obtain⟨b,_,rfl⟩:=hv;rfl
 ·obtain⟨A,c,_,⟨a,rfl⟩,_⟩:=hv;rfl
 ·obtain⟨A,c,_,⟨A',c',rfl⟩,_⟩:=hv;rfl
 ·obtain⟨A,c,_,⟨A',c',rfl⟩,_⟩:=hv;rfl
 ·obtain⟨fs,cs,rfl,_⟩:=hv;rfl
 ·obtain⟨b,_,rfl⟩:=hv;rfl
 ·cases h
def acV{u:Value}(h:u.oneCell'=true):u.cells=#[u]:=by cases u <;> first|rfl|cases h
def WS{v:V}{u:Value}{k:Nat->(Nat->V)->Prop}(h:F6 v k)(hv:aY G ob w v u):∃ n g,k n g/\u.cells.size=n/\∀ j x,u.cells[j]?=some x->x.oneCell'=true/\aY G ob w (g j) x:=by
 unfold F6 at h;split at h
 ·obtain⟨cs,rfl,hn,hc⟩:=hv;exact⟨_,_,h,hn,hc⟩
 ·split at h
  ·rename_i h1
   have ho:=amM h1 hv;refine⟨_,_,h,by rw[acV ho];rfl,λj x hx=>?_⟩;rw[acV ho]at hx
   match j,hx with
   |0,hx=>
    obtain rfl:u=x:=by simpa using hx
    exact⟨ho,hv⟩
  ·exact h.elim
def akB{ty:Nat}(hg:bZ G t w)(ho:o.op = .alloc ty)(hok:(tI ty).ok=true)(hk:K (.ptr t.nx 0) (t.new (.Wp (tI ty).size (iM ty)))):fG o a G t w K:=by
 obtain⟨i,z,hi⟩:=F5 hok;obtain⟨z1,z2⟩:=adk (G:=G) (ob:=t.get) (w:=w) hi.rel;obtain⟨h1,h2,h3⟩:=afE (w:=w) hg (n:=(tI ty).size) (g:=iM ty) (cs:=z.cells) ty hi.CO (λk x hx=>z2 k x (by simpa using hx));unfold fG Oper.wp Oper.upon;have hrun:(execOp a.eval o).run prog w = .ok (.value (.pointer (some ⟨w.heap.size,0,none⟩))) (w.alloc (.cells z.cells ty)):=by
  simp[execOp,ho,Instr.alloc,zeroValue,typeInfo,hi.h,hi.zero,newVar,newRow,Result.andThen]
 rw[hrun];exact⟨_,_,_,_,rfl,hk,h1,h2,h3⟩
def apM{ty:Nat}{x:Operand}{v:V}(hg:bZ G t w)(ho:o.op = .box ty x)(hv:aY G t.get w v (a.eval x))(h:F6 v λn g=>K (.ptr t.nx 0) (t.new (.Wp n g))):fG o a G t w K:=by
 obtain⟨n,g,hk,hn,hc⟩:=WS h hv;obtain⟨h1,h2,h3⟩:=afE (w:=w) hg (n:=n) (g:=g) (cs:=(a.eval x).cells) ty hn hc;unfold fG Oper.wp Oper.upon;have hrun:(execOp a.eval o).run prog w = .ok (.value (.pointer (some ⟨w.heap.size,0,none⟩))) (w.alloc (.cells (a.eval x).cells ty)):=by
  simp[execOp,ho,Instr.box,newVar,newRow,Result.andThen]
 rw[hrun];exact⟨_,_,_,_,rfl,hk,h1,h2,h3⟩
end
end
section
def YD(cur vs:List Value)(o:Nat)(h:o+vs.length<=cur.length)(k:Nat):(cur.take o++vs++cur.drop (o+vs.length))[k]?=if o<=k/\k<o+vs.length then vs[k-o]? else cur[k]?:=by
 rw[jV,List.getElem?_append,dG,Nat.min_eq_left qO];split
 ·rename_i h1
  rw[if_neg qO,nX,if_pos h1]
 ·rename_i h1
  rw[List.getElem?_append];split
  ·rename_i h2
   rw[if_pos qO]
  ·rename_i h2
   rw[if_neg qO,rP];congr 1;omega
def JX(g:Nat->V)(off m:Nat)(h:Nat->V)(k:Nat):oK g off m h k=if off<=k/\k<off+m then h (k-off) else g k:=by
 unfold oK;by_cases h1:off<=k
 ·by_cases h2:k<off+m
  ·rw[if_pos ⟨h1,h2⟩,show(Nat.ble off k&&Nat.blt k (off+m))=true by rw[qf,Nat.ble_eq,Nat.blt_eq];exact⟨h1,h2⟩];rfl
  ·rw[if_neg (λh=>h2 h.2),show(Nat.ble off k&&Nat.blt k (off+m))=false by rw[Bool.and_eq_false_iff];exact .inr (by rw[xm];intro e;exact h2 ((Nat.blt_eq).mp e))];rfl
 ·rw[if_neg (λh=>h1 h.1),show(Nat.ble off k&&Nat.blt k (off+m))=false by rw[Bool.and_eq_false_iff];exact .inl (by rw[xm];intro e;exact h1 (uf e))];rfl
def aoN(g:Nat->Nat->V)(j c m:Nat)(h:Nat->V)(a b:Nat):mr g j c m h a b=if a=j/\c<=b/\b<c+m then h (b-c) else g a b:=by
 have e:=JX (g a) c m h b;unfold oK at e;unfold mr;by_cases h1:a=j
 ·subst h1;rw[show Nat.beq a a=true by simp[Nat.beq_eq],Bool.true_and,e];simp
 ·rw[if_neg (λh=>h1 h.1),show Nat.beq a j=false by rw[xm];intro e;exact h1 (dJ e)];rfl
section
variable {G:Gh} {w:World} {t:ST} {o:Oper} {a:Act} {K:V->ST->Prop}
def ajm{ty:Nat}(hok:(tI ty).ok=true){b off:Nat}{cur:Array Value}{te:TypeId}{v:Value}(hh:w.heap[b]?=some (.cells cur te (0,0)))(hs:v.cells.size=(tI ty).size)(iY:off+v.cells.size<=cur.size)(h1:∀(j:Nat) (x:Value),v.cells[j]?=some x->x.oneCell'=true) :
  (Instr.storeAt ty (.pointer (some ⟨b,off,none⟩)) v).run prog w = .ok () (w.setRow b (cur.toList.take off++v.cells.toList++cur.toList.drop (off+v.cells.toList.length)).toArray):=by
 have hz:=qB (w:=w) hok;have hst:=run_storeCells_at prog b off te v.cells.toList 0 cur w hh (by simpa using iY) (λx hx=>by
  obtain⟨j,hj,rfl⟩:=List.getElem_of_mem hx;exact h1 j _ (by simp at hj;rw[vI hj];simp))
 rw[Nat.add_zero]at hst;unfold Instr.storeAt storeVar;simp only[Instr.sureAddr,Sem.run_bind,Sem.run_pure,Result.andThen_ok,hz,hs];simp only[ne_eq,not_true_eq_false,if_false,Sem.run_bind,Sem.run_pure,Result.andThen_ok,hst]
def acE{ty i:Nat}{l:Loc}{ob':aK}{b off:Nat}{cur:Array Value}{te:TypeId}{x y:Operand}(hg:bZ G t w)(ho:o.op = .store ty x y)(hok:(tI ty).ok=true)(hx:a.eval x = .pointer (some ⟨b,off,none⟩))(hh:w.heap[b]?=some (.cells cur te (0,0)))(hs:(a.eval y).cells.size=(tI ty).size)(iY:off+(a.eval y).cells.size<=cur.size)(h1:∀(j:Nat) (x:Value),(a.eval y).cells[j]?=some x->x.oneCell'=true)
  (hi:t.get i ≠ .dead) (hin:i<t.nx) (hown:dB G t.get i b) (hloc:G.ρ i=some l) (hoa:∀ b',OZ l ob' b'->dB G t.get i b') (hrow:∀ A c,l = .row A c->∀ E s m g,ob' = .row E s m g->∃ g0,t.get i = .row E s m g0)
  (awV:∀ w':World,w'.heap[b]?=some (.cells (cur.toList.take off++(a.eval y).cells.toList++cur.toList.drop (off+(a.eval y).cells.toList.length)).toArray te (0,0))->Stp G t.get w (G.upd i l) (t.set i ob').get w'->abk (G.upd i l) (t.set i ob').get w' l ob')
  (hk:K .top (t.set i ob')):fG o a G t w K:=by
 have hrun:=ajm hok hh hs iY h1;obtain⟨w',hw'⟩:∃ w',w'=w.setRow b (cur.toList.take off++(a.eval y).cells.toList++cur.toList.drop (off+(a.eval y).cells.toList.length)).toArray:=⟨_,rfl⟩;have hch:vG G t (t.set i ob') w w' i l ob':={
  get:=qU t i ob'
  nx:=⟨bF _,hin⟩
  os:=by rw[hw'];rfl
  tape:=by rw[hw'];rfl
  output:=by rw[hw'];rfl
  size:=by rw[hw'];simp
  axz:=λb' hb' hn=>by rw[hw',setRow_other _ _ _ _ (λe=>hn (by rw[e];exact hown))]
  own:=λb' hb'=>.inl (hoa b' hb')
  loc:=λb' hb'=>by rw[hloc]at hb';exact fD hb'
  row:=λA c hb'=>by
   rw[hloc]at hb';have hl:=fD hb';refine⟨A,c,hl,λE s m g e=>?_⟩;obtain⟨g0,hg0⟩:=hrow A c hl E s m g e;exact⟨m,g0,hg0,bF _,λ_=>⟨rfl,rfl⟩⟩ }
 have hs':=hch.dX;have hgd:=hch.axy hg (awV w' (by rw[hw',setRow_heap w b cur _ te _ hh]) hs') (λk hk'=>(hg.jZ k hk').1);unfold fG Oper.wp Oper.upon;have hr:(execOp a.eval o).run prog w = .ok .skip w':=by
  simp only[execOp,ho,hx,Sem.run_bind,hrun,Result.andThen_ok,Sem.run_pure,hw']
 rw[hr];exact⟨_,_,_,_,rfl,hk,hgd,hs',trivial⟩
def aky{ty:Nat}{x y:Operand}{vx vy:V}(hg:bZ G t w)(ho:o.op = .store ty x y)(hx:aY G t.get w vx (a.eval x))(hy:aY G t.get w vy (a.eval y))(h:Ub ty vx vy t λs'=>K .top s'):fG o a G t w K:=by
 unfold Ub at h;split at h
 ·exact h.elim
 rename_i hok
 have hcr:=WS h hy;clear h;obtain⟨m,hc,h,hsz,hcell⟩:=hcr;split at h
 ·exact h.elim
 rename_i hm
 have hm:=dJ hm;split at h
 ·rename_i i off
  obtain⟨b,hr,hxe⟩:=hx;split at h
  ·rename_i n g ho'
   obtain⟨b',cs,te,hr',hh,hn,hcs⟩:=hg.axy.Wp _ _ _ ho';rw[hr]at hr';injection hr' with hr'
   injection hr' with hr'
   subst hr';obtain⟨iY,hk⟩:=h.h;have hin:i<t.nx:=by
    obtain h1|h1:=l7 i t.nx
    ·exact h1
    ·have:=(hg.jZ i h1).2;rw[ho']at this;cases this
   have hown:dB G t.get i b:=by unfold dB;rw[ho'];exact hr
   refine acE (ob':=.Wp n (oK g off m hc)) hg ho hok hxe hh (by rw[hsz,hm]) qO (λj x hx=>(hcell j x hx).1) (by rw[ho'];intro e;cases e) hin hown hr (λb' hb'=>by
    have:Loc.Wp b = .Wp b':=hb';injection this with e
    rw[<-e];exact hown) (λA c e=>by cases e) (λw' hw' hs'=>⟨b,_,te,rfl,hw',?_,λk x hx=>?_⟩) hk
   ·simp;omega
   ·have hl:(a.eval y).cells.toList.length=m:=by simpa using hsz
    rw[List.getElem?_toArray,YD _ _ _ (by rw[hl];simp;omega),hl]at hx;rw[JX];by_cases hr1:off<=k/\k<off+m
    ·rw[if_pos hr1]at hx ⊢;obtain⟨q1,q2⟩:=hcell (k-off) x (by simpa using hx);exact⟨q1,q2.dX hs' hg.axy⟩
    ·rw[if_neg hr1]at hx ⊢;obtain⟨q1,q2⟩:=hcs k x (by simpa using hx);exact⟨q1,q2.dX hs' hg.axy⟩
  ·exact h.elim
 ·rename_i i n j c
  obtain⟨A,cc,hr,⟨ad,_⟩,hu⟩:=hx;split at h
  ·rename_i E z r g ho'
   obtain⟨q1,q2,q3,q4⟩:=rowOf (n:=0) hg.axy ho' hr;obtain⟨⟨rfl,hj,hcz⟩,hk⟩:=h.h;obtain⟨b,rfl,hxe⟩:=(hu _ _ _ _ ho').2 rfl;obtain⟨_,h0⟩|⟨hc0,b',cs,hb',hh,hsz',hnc,hcm,hcl⟩:=q4
   ·omega
   injection hb' with hb'
   injection hb' with hb'
   subst hb';have hin:i<t.nx:=by
    obtain h1|h1:=l7 i t.nx
    ·exact h1
    ·have:=(hg.jZ i h1).2;rw[ho']at this;cases this
   have hown:dB G t.get i b:=by unfold dB;rw[ho'];exact⟨_,_,hr,hc0,_,rfl⟩
   have hjz:j*z+z<=cc*z:=by
    have:=vJ z (show j+1<=cc by omega);rw[Nat.add_mul,Nat.one_mul]at this;exact this
   have hl:(a.eval y).cells.toList.length=m:=by simpa using hsz
   refine acE (ob':=.row E z n (mr g j c m hc)) hg ho hok hxe hh (by rw[hsz,hm]) qO (λj x hx=>(hcell j x hx).1) (by rw[ho'];intro e;cases e) hin hown hr (λb' hb'=>by
    obtain⟨A',c',e,hc',off,rfl⟩:=hb';injection e with e1 e2
    injection e1 with e1
    injection e1 with e1
    rw[<-e1];exact hown) (λA c e E s m g e2=>by injection e2 with e3 e4 e5 e6;subst e3 e4 e5;exact⟨_,ho'⟩) (λw' hw' hs'=>⟨q1,q2,q3,_,_,rfl,.inr ⟨hc0,b,_,rfl,hw',?_,hnc,hcm,λa' ha' k hk'=>?_⟩⟩) hk
   ·simp;omega
   ·obtain⟨x,e1,e2,e3⟩:=hcl a' ha' k hk';rw[List.getElem?_toArray,YD _ _ _ (by rw[hl];simp;omega),hl,aoN];by_cases hr1:a'=j/\c<=k/\k<c+m
    ·obtain⟨rfl,hr1⟩:=hr1;rw[if_pos qO,if_pos ⟨rfl,hr1⟩];have hlt:k-c<(a.eval y).cells.size:=qO;obtain⟨p1,p2⟩:=hcell (k-c) _ (vI hlt);refine⟨_,?_,p1,p2.dX hs' hg.axy⟩;rw[show a'*z+k-(a'*z+c)=k-c by omega];simp
    ·rw[if_neg hr1,if_neg]
     ·exact⟨x,by simpa using e1,e2,e3.dX hs' hg.axy⟩
     ·intro hh2;apply hr1;have:a'=j:=by
       obtain hlt|hlt|hlt:=Nat.lt_trichotomy a' j
       ·have:=vJ z (show a'+1<=j by omega);rw[Nat.add_mul,Nat.one_mul]at this;omega
       ·exact hlt
       ·have:=vJ z (show j+1<=a' by omega);rw[Nat.add_mul,Nat.one_mul]at this;omega
      subst this;exact⟨rfl,by omega⟩
  ·exact h.elim
 ·exact h.elim
end
end
section
def aek:∀(l:List Value) (s off:Nat) (cs:Array Value),off+s+l.length<=cs.size ->
  ((l.zipIdx s).foldl (λcs (p:Value×Nat)=>cs.setIfInBounds (off+p.2) p.1) cs).size=cs.size /\
  ∀ k,((l.zipIdx s).foldl (λcs (p:Value×Nat)=>cs.setIfInBounds (off+p.2) p.1) cs)[k]?=if off+s<=k/\k<off+s+l.length then l[k-(off+s)]? else cs[k]?
 |[],s,off,cs,h=>⟨rfl,λk=>by rw[if_neg (λ⟨h1,h2⟩=>by rw[List.length_nil]at h2;omega)];rfl⟩
 |x::l,s,off,cs,h=>by
  have h':off+s+(l.length+1)<=cs.size:=h;obtain⟨h1,h2⟩:=aek l (s+1) off (cs.setIfInBounds (off+s) x) (by simp;omega);rw[List.zipIdx_cons,List.foldl_cons];refine⟨by rw[h1];simp,λk=>?_⟩;rw[h2 k,lT];by_cases e:k=off+s
  ·subst e;rw[if_neg qO,if_pos qO,Nat.sub_self,Array.getElem?_setIfInBounds,if_pos rfl,if_pos qO];rfl
  ·by_cases e2:off+(s+1)<=k/\k<off+(s+1)+l.length
   ·rw[if_pos e2,if_pos qO,show k-(off+s)=(k-(off+(s+1)))+1 by omega,List.getElem?_cons_succ]
   ·rw[if_neg e2,if_neg qO,Array.getElem?_setIfInBounds,if_neg (λh=>e h.symm)]
section
variable {G:Gh} {w:World} {t:ST} {s:AS} {o:Oper} {a:Act} {K:V->ST->Prop}
def SQ(hs:oZ G s a w)(pl:Nat->Option (Nat×Nat))(place:Nat->(Nat->Nat->Prop)->Prop)(hpl:∀ i k,place i k->∃ off size,pl i=some (off,size)/\k off size)(n:Nat)(z:Nat->V)(P:(Nat->V)->Prop) :
  ∀(ps:List (Nat×Operand)) (g:Nat->V) (cells:Array Value),zn s n z place ps g P->cells.size=n->(∀ k x,cells[k]?=some x->x.oneCell'=true/\aY G s.s.get w (g k) x) ->
  ∃ cells' g',Instr.fill pl cells (ps.map λp=>(p.1,a.eval p.2))=some cells'/\P g'/\cells'.size=n/\∀ k x,cells'[k]?=some x->x.oneCell'=true/\aY G s.s.get w (g' k) x
 |[],g,cells,h,hn,hc=>⟨cells,g,rfl,h,hn,hc⟩
 |(i,x)::r,g,cells,h,hn,hc=>by
  unfold zn at h;obtain⟨off,size,hp,h⟩:=hpl i _ h;have hcr:=WS h (hs.ev x);clear h;obtain⟨m,hv,h,hm,hvc⟩:=hcr;split at h;rotate_left
  ·exact h.elim
  rename_i hms
  have hms:=dJ hms;obtain⟨iY,h⟩:=h.h;obtain⟨q1,q2⟩:=aek (a.eval x).cells.toList 0 off cells (by simp;omega);have hl:(a.eval x).cells.toList.length=m:=by simpa using hm
  simp only[Nat.add_zero,hl]at q1 q2;have hf:((a.eval x).cells.zipIdx.foldl (λcs (p:Value×Nat)=>cs.setIfInBounds (off+p.2) p.1) cells)=((a.eval x).cells.toList.zipIdx.foldl (λcs (p:Value×Nat)=>cs.setIfInBounds (off+p.2) p.1) cells):=by
   rw[<-Array.foldl_toList,Array.toList_zipIdx]
  rw[<-hf]at q1 q2;obtain⟨cells',g',e1,e2⟩:=SQ hs pl place hpl n z P r _ _ h (by rw[q1,hn]) (λk y hy=>by
   rw[q2 k]at hy;rw[JX];by_cases hr:off<=k/\k<off+m
   ·rw[if_pos hr]at hy ⊢;exact hvc _ y (by simpa using hy)
   ·rw[if_neg hr]at hy ⊢;exact hc k y hy)
  refine⟨cells',g',?_,e2⟩;rw[List.map_cons,Instr.fill];simp only[hp];rw[if_neg (by rw[hm,hms,hn];simp;omega)];exact e1
def HY{ty:Nat}(hok:(tI ty).ok=true):∃ i z,ag5 ty i z/\∀ k x,z.cells[k]?=some x->x.oneCell'=true/\aY G t.get w (iM ty k) x:=by
 obtain⟨i,z,hi⟩:=F5 hok;obtain⟨z1,z2⟩:=adk (G:=G) (ob:=t.get) (w:=w) hi.rel;exact⟨i,z,hi,λk x hx=>z2 k x (by simpa using hx)⟩
def abP:∀(fs:List Field),(∀ f∈fs,(tI f.type).ok=true)->fs.mapM (λf=>(prog.info? f.type).map λi=>(f.offset,i.size))=some (fs.map λf=>(f.offset,(tI f.type).size))
 |[],_=>rfl
 |f::fs,h=>by
  obtain⟨i,z,hi⟩:=F5 (h f (by simp));rw[List.mapM_cons,hi.h,abP fs (λg hg=>h g (by simp[hg]))];simp[hi.size]
def akA{ty:Nat}{ps:Array (Nat×Operand)}(hg:bZ G s.s w)(hs:oZ G s a w)(ho:o.op = .build ty ps)(hk1:(tI ty).k=1)(hall:(tI ty).EJ.all (λp=>(tI p.2).ok)=true)
  (h:zn s (tI ty).size (iM ty) (λi K'=>CV ty i λoff ft=>(match (tI ft).ok with|true=>K' off (tI ft).size|false=>False)) ps.toList (iM ty) λg=>K (.agg (tI ty).size g) s.s):fG o a G s.s w K:=by
 have hok:(tI ty).ok=true:=by unfold uC.ok;rw[hk1];rfl
 obtain⟨i,z,hi,hz⟩:=HY (G:=G) (t:=s.s) (w:=w) hok;obtain⟨fs,hu,hfl⟩:=ahM hk1;have hpl:=abP fs.toList (λf hf=>by
  rw[y7]at hall;exact hall (f.offset,f.type) (by rw[<-hfl];exact List.mem_map.2 ⟨f,hf,rfl⟩))
 obtain⟨cells',g',e1,e2,e3,e4⟩:=SQ hs (λi=>((fs.toList.map λf=>(f.offset,(tI f.type).size)).toArray)[i]?) _ (λi k hk=>by
  unfold CV at hk;split at hk
  ·rename_i off ft _ hfi
   split at hk
   ·split at hk
    ·refine⟨off,(tI ft).size,?_,hk⟩;rw[<-hfl,qQ]at hfi;rcases hx:fs.toList[i]? with _|x
     ·rw[hx]at hfi;cases hfi
     ·rw[hx]at hfi;simp only[qg,Option.some.injEq,Prod.mk.injEq]at hfi;simp only[List.getElem?_toArray,qQ,hx,qg,hfi.1,hfi.2]
    ·exact hk.elim
   ·exact hk.elim
  ·exact hk.elim) (tI ty).size (iM ty) (λg=>K (.agg (tI ty).size g) s.s) ps.toList (iM ty) z.cells h hi.CO hz
 have hb:prog.built ty ((ps.map λ(i,x)=>(i,a.eval x)).toList)=some cells':=by
  unfold Program.built;rw[hi.h,hu];have e:((ps.map λ(i,x)=>(i,a.eval x)).toList)=ps.toList.map (λp=>(p.1,a.eval p.2)):=by simp
  rw[e];simp only[hi.zero,hpl];exact e1
 have hrun:(execOp a.eval o).run prog w = .ok (.value (.agg cells')) w:=by
  unfold execOp;simp only[ho,Sem.run_bind,run_build w ty _ cells' hb,Result.andThen_ok];rfl
 exact fG.val (V:=.agg _ _) hg hrun ⟨cells',rfl,e3,e4⟩ e2
end
end
section
def kZ{a b:Bool}(h:(a&&b)=true):a=true/\b=true:=by rwa [qf]at h
def mX{a b:Nat}(h:Nat.blt a b=true):a<b:=by rwa [Nat.blt_eq]at h
def wU{n s j k:Nat}(hj:j<n)(hk:k<s):j*s+k<n*s:=by
 have:=vJ s (show j+1<=n from hj);rw[Nat.add_mul,Nat.one_mul]at this;omega
def ZC{s j k:Nat}(hk:k<s):(j*s+k) % s=k:=by rw[Nat.add_comm,Nat.add_mul_mod_self_right,Nat.mod_eq_of_lt hk]
section
variable {G:Gh} {w:World} {t:ST} {s:AS} {o:Oper} {a:Act} {K:V->ST->Prop}
def afD(hg:bZ G t w){E z n c:Nat}{g:Nat->Nat->V}{cs:Array Value}(hE:(tI E).ok=true)(hz:(tI E).size=z)(hz0:0<z)(hsz:cs.size=c*z)(hnc:n<=c)(hcm:c<=maxLen)(hc:∀ j,j<n->∀ k,k<z->∃ x,cs[j*z+k]?=some x/\x.oneCell'=true/\aY G t.get w (g j k) x) :
  let G':=G.upd t.nx (.row (some ⟨w.heap.size,0,none⟩) c)
  let w':=w.alloc (.cells cs E)
  bZ G' (t.new (.row E z n g)) w'/\Stp G t.get w G' (t.new (.row E z n g)).get w'/\aY G' (t.new (.row E z n g)).get w' (.row t.nx n) (.slice (some ⟨w.heap.size,0,none⟩) n c):=by
 intro G' w';have hch:vG G t (t.new (.row E z n g)) w w' t.nx (.row (some ⟨w.heap.size,0,none⟩) c) (.row E z n g):=TU hg ((Below.refl _ _).alloc (bF _) _) (λb h=>by
  obtain⟨A,c',e,_,off,rfl⟩:=h;injection e with e1 e2
  injection e1 with e1
  injection e1 with e1
  omega)
 have hs:=hch.dX;refine⟨hch.Uk hg ⟨hE,hz,hz0,_,_,rfl,?_⟩,hs,_,_,if_pos rfl,⟨_,_,rfl⟩,λE' s' m g' ho=>?_⟩
 ·obtain h0|h0:=uK c
  ·exact .inl ⟨h0,by omega⟩
  ·refine .inr ⟨h0,w.heap.size,cs,rfl,heap_alloc_new w _,hsz,hnc,hcm,λj hj k hk=>?_⟩;obtain⟨x,e1,e2,e3⟩:=hc j hj k hk;exact⟨x,e1,e2,e3.dX hs hg.axy⟩
 ·rw[Oa,if_pos rfl]at ho;injection ho with e1 e2 e3 e4
  subst e3;exact⟨bF _,λ_=>rfl⟩
def WX{E:Nat}{z:Value}{N:Nat}(hz:z.cells.size=(tI E).size)(hpos:0<(tI E).size)(hr:∀ k x,z.cells[k]?=some x->x.oneCell'=true/\aY G t.get w (iM E k) x) :
  ∀ k x,((Array.range N).map (z.cells[· % z.cells.size]!))[k]?=some x->x.oneCell'=true/\aY G t.get w (iM E (k % (tI E).size)) x:=by
 intro k x hx;rw[Array.getElem?_map,Array.getElem?_range]at hx;split at hx
 ·simp only[qg,Option.some.injEq]at hx;refine hr _ x ?_;have hlt:k % z.cells.size<z.cells.size:=Nat.mod_lt _ qO;rw[getElem!_pos z.cells _ hlt]at hx;rw[<-hz,vI hlt,hx]
 ·cases hx
def ais{ty n:Nat}{ps:Array (Nat×Operand)}(hg:bZ G s.s w)(hs:oZ G s a w)(ho:o.op = .buildSlice ty n ps)(hk1:(tI ty).k=3)(hE:((tI (tI ty).elem).ok&&Nat.blt 0 (tI (tI ty).elem).size)=true)
  (h:ag (n*(tI (tI ty).elem).size<=1000000) (zn s (n*(tI (tI ty).elem).size) (λ_=>.top) (λi K'=>K' (i*(tI (tI ty).elem).size) (tI (tI ty).elem).size) ps.toList (λk=>iM (tI ty).elem (k % (tI (tI ty).elem).size)) λg=>
    K (.row s.s.nx n) (s.s.new (.row (tI ty).elem (tI (tI ty).elem).size n (λj k=>g (j*(tI (tI ty).elem).size+k)))))):fG o a G s.s w K:=by
 obtain⟨hok,hpos⟩:=kZ hE;have hpos:=mX hpos;obtain⟨hle,h⟩:=h.h;obtain⟨i,z,hi,hz⟩:=HY (G:=G) (t:=s.s) (w:=w) hok;obtain⟨cells',g',e1,e2,e3,e4⟩:=SQ hs (λi=>some (i*(tI (tI ty).elem).size,(tI (tI ty).elem).size)) _ (λi k hk=>⟨_,_,rfl,hk⟩) (n*(tI (tI ty).elem).size) (λ_=>.top) (λg=>
    K (.row s.s.nx n) (s.s.new (.row (tI ty).elem (tI (tI ty).elem).size n (λj k=>g (j*(tI (tI ty).elem).size+k))))) ps.toList _ ((Array.range (n*(tI (tI ty).elem).size)).map (z.cells[· % z.cells.size]!)) h (by simp) (WX hi.CO hpos hz)
 have e:((ps.map λ(i,x)=>(i,a.eval x)).toList)=ps.toList.map (λp=>(p.1,a.eval p.2)):=by simp
 rw[<-e]at e1;have hnn:n<=n*(tI (tI ty).elem).size:=Nat.le_mul_of_pos_right _ hpos;obtain⟨h1,h2,h3⟩:=afD (E:=(tI ty).elem) (z:=(tI (tI ty).elem).size) (n:=n) (c:=n) (g:=λj k=>g' (j*(tI (tI ty).elem).size+k)) (cs:=cells') hg hok rfl hpos e3 (bF _) (by unfold maxLen;omega) (λj hj k hk=>by
  have hlt:j*(tI (tI ty).elem).size+k<cells'.size:=by rw[e3];exact wU hj hk
  have hx:=vI hlt;exact⟨_,hx,e4 _ _ hx⟩)
 have hrun:(Instr.buildSlice ty n (ps.map λ(i,x)=>(i,a.eval x))).run prog w = .ok (.slice (some ⟨w.heap.size,0,none⟩) n n) (w.alloc (.cells cells' (tI ty).elem)):=by
  by_cases h0:n*(tI (tI ty).elem).size=0
  ·have hn0:n=0:=by
    obtain h|h:=Nat.mul_eq_zero.1 h0
    ·exact h
    ·omega
   subst hn0;rw[h0]at e1;rw[Array.range_zero',Array.map_empty]at e1;rw[e]at e1;have e1':Instr.fill (λi=>some (i*(tI (tI ty).elem).size,(tI (tI ty).elem).size)) #[] (List.map (λx=>(x.1,a.eval x.2)) ps.toList)=some cells':=e1;have hzz:=qB (w:=w) hok;simp[Instr.buildSlice,run_underlying (qI hk1),hzz,newRow,e1',Array.range_zero']
  ·have:=run_buildSlice (P:=prog) w ty (tI ty).elem n (ps.map λ(i,x)=>(i,a.eval x)) cells' i z (qI hk1) hi.h hi.zero (by rw[hi.size];omega) (by rw[hi.size];exact h0) (by rw[hi.size];exact e1);exact this
 unfold fG Oper.wp Oper.upon execOp;simp only[ho,Sem.run_bind,hrun,Result.andThen_ok,Sem.run_pure];exact⟨_,_,_,_,rfl,e2,h1,h2,h3⟩
def aev{g:Nat->V}:∀ {n:Nat},aba g n=true->∀ k,k<n->g k = .d (aie (g k))
 |0,_,k,hk=>by omega
 |n+1,h,k,hk=>by
  obtain⟨h1,h2⟩:=kZ h;by_cases e:k=n
  ·subst e;rcases hg:g k with _|_|_|_|_|_|_|_|_|_|_|_|_
   all_goals rw[hg]at h1
   all_goals first|rfl|cases h1
  ·exact aev h2 k qO
def acd{ty n:Nat}{ps:Array (Nat×Operand)}{K:V->Prop}(hg:bZ G s.s w)(hs:oZ G s a w)(h:BQ ty n ps.toList s K) :
  ∃ cells,(Instr.buildSlice ty n (ps.map λ(i,x)=>(i,a.eval x))).run prog w = .ok (.slice (some ⟨w.heap.size,0,none⟩) n n) (w.alloc (.cells cells (tI ty).elem)) /\
   ∃ D,K (.d D)/\∀ F:Nat->Prop,(∀ b,G.F b->F b)->F w.heap.size->jK F (w.alloc (.cells cells (tI ty).elem)) D (.slice (some ⟨w.heap.size,0,none⟩) n n):=by
 unfold BQ at h;split at h;rotate_left
 ·exact h.elim
 rename_i hk1 hE hle
 have hle:=uf hle;obtain⟨hok,hpos⟩:=kZ hE;have hpos:=mX hpos;obtain⟨i,z,hi,hz⟩:=HY (G:=G) (t:=s.s) (w:=w) hok;obtain⟨cells',g',e1,e2,e3,e4⟩:=SQ hs (λi=>some (i*(tI (tI ty).elem).size,(tI (tI ty).elem).size)) _ (λi k hk=>⟨_,_,rfl,hk⟩) (n*(tI (tI ty).elem).size) (λ_=>.top) _ ps.toList _ ((Array.range (n*(tI (tI ty).elem).size)).map (z.cells[· % z.cells.size]!)) h (by simp) (WX hi.CO hpos hz);have e:((ps.map λ(i,x)=>(i,a.eval x)).toList)=ps.toList.map (λp=>(p.1,a.eval p.2)):=by simp
 rw[<-e]at e1;split at e2;rotate_left
 ·exact e2.elim
 rename_i hall
 have hnn:n<=n*(tI (tI ty).elem).size:=Nat.le_mul_of_pos_right _ hpos;refine⟨cells',?_,_,e2,λF hF hnew=>?_⟩
 ·by_cases h0:n*(tI (tI ty).elem).size=0
  ·have hn0:n=0:=by
    obtain h|h:=Nat.mul_eq_zero.1 h0
    ·exact h
    ·omega
   subst hn0;rw[h0]at e1;rw[Array.range_zero',Array.map_empty]at e1;rw[e]at e1;have e1':Instr.fill (λi=>some (i*(tI (tI ty).elem).size,(tI (tI ty).elem).size)) #[] (List.map (λx=>(x.1,a.eval x.2)) ps.toList)=some cells':=e1;have hzz:=qB (w:=w) hok;simp[Instr.buildSlice,run_underlying (qI hk1),hzz,newRow,e1',Array.range_zero']
  ·have:=run_buildSlice (P:=prog) w ty (tI ty).elem n (ps.map λ(i,x)=>(i,a.eval x)) cells' i z (qI hk1) hi.h hi.zero (by rw[hi.size];omega) (by rw[hi.size];exact h0) (by rw[hi.size];exact e1);exact this
 ·have hm:n<=maxLen:=kE (kE hnn hle) (show 1000000<=maxLen from by unfold maxLen;omega);refine⟨some ⟨w.heap.size,0,none⟩,n,rfl,bF _,hm,(λe=>ai e (by simp)),λj hj k hk=>?_⟩;have hlt:j*(tI (tI ty).elem).size+k<cells'.size:=by rw[e3];exact wU hj hk
  have hx:=vI hlt;obtain⟨q1,q2⟩:=e4 _ _ hx;rw[aev hall _ (by rw[<-e3];exact hlt)]at q2;have hb:Below w.heap.size w (w.alloc (.cells cells' (tI ty).elem)):=(Below.refl _ _).alloc (bF _) _;refine⟨w.heap.size,0,_,rfl,hnew,by simp,?_,q1,?_⟩
  ·have hh:=heap_alloc_new w (.cells cells' (tI ty).elem);simp only[World.cell?,hh,jq];exact hx
  ·have q2:jK G.F w _ _:=q2;exact q2.mono hb.size (λb hf hlt=>hb.block b hlt) (λb hf _=>hF b hf)
def aiw{ty:Nat}{x y:Operand}{k k':IntKind}{n m:Int}(hg:bZ G t w)(ho:o.op = .makeSlice ty x y)(hk1:(tI ty).k=3)(hE:((tI (tI ty).elem).ok&&Nat.blt 0 (tI (tI ty).elem).size)=true)(hb:(tI (tI ty).elem).bytes<1000)(hx:a.eval x = .int k n)(hy:a.eval y = .int k' m)
  (h:ag (0<=n/\n<=100000/\m=n) (K (.row t.nx n.toNat) (t.new (.row (tI ty).elem (tI (tI ty).elem).size n.toNat (λ_ k=>iM (tI ty).elem k))))):fG o a G t w K:=by
 obtain⟨hok,hpos⟩:=kZ hE;have hpos:=mX hpos;obtain⟨⟨h0,h1,rfl⟩,hk⟩:=h.h;obtain⟨i,z,hi,hz⟩:=HY (G:=G) (t:=t) (w:=w) hok;have hbytes:(i.bytes:Int)*m<=281474976710656:=by
  rw[hi.bytes];have:=Int.mul_le_mul (show((tI (tI ty).elem).bytes:Int)<=1000 by omega) h1 h0 qO;omega
 have hrun:=run_make (P:=prog) w ty (tI ty).elem i z (qI hk1) hi.h hi.zero k k' m m h0 (dL _) hbytes qO;obtain⟨h1',h2,h3⟩:=afD (E:=(tI ty).elem) (z:=(tI (tI ty).elem).size) (n:=m.toNat) (c:=m.toNat) (g:=λ_ k=>iM (tI ty).elem k) (cs:=madeCells z.cells (m.toNat*i.size)) hg hok rfl hpos (by rw[size_madeCells,hi.size]) (bF _) (by unfold maxLen;omega) (λj hj q hq=>by
  have hsz:(madeCells z.cells (m.toNat*i.size)).size=m.toNat*(tI (tI ty).elem).size:=by rw[size_madeCells,hi.size]
  have hlt:j*(tI (tI ty).elem).size+q<(madeCells z.cells (m.toNat*i.size)).size:=by rw[hsz];exact wU hj hq
  have hx':=vI hlt;refine⟨_,hx',?_⟩;have:=WX (G:=G) (t:=t) (w:=w) (E:=(tI ty).elem) (N:=m.toNat*i.size) hi.CO hpos hz _ _ hx';rw[ZC hq]at this;exact this)
 unfold fG Oper.wp Oper.upon execOp;simp only[ho,hx,hy,Sem.run_bind,hrun,Result.andThen_ok,Sem.run_pure];exact⟨_,_,_,_,rfl,hk,h1',h2,h3⟩
end
end
section
def ZL{q n z:Nat}(hz:0<z)(h:q<n*z):q / z<n/\q % z<z/\q / z*z+q % z=q:=by
 refine⟨(Nat.div_lt_iff_lt_mul hz).2 h,Nat.mod_lt _ hz,?_⟩;rw[Nat.mul_comm];exact Nat.div_add_mod q z
section
variable {G:Gh} {w:World} {t:ST} {s:AS} {o:Oper} {a:Act} {K:V->ST->Prop}
def Tn{E:Nat}{y:V}{u:Value}{k:Nat->(Nat->Nat->V)->Prop}(hg:Good G t.get w)(hE:0<(tI E).size)(hy:aY G t.get w y u)(h:Gz E y t k) :
  ∃ m g Ay cy news,k m g/\u = .slice Ay m cy/\news.length=m*(tI E).size/\Rd w w.heap.size Ay news/\∀ j,j<m->∀ q,q<(tI E).size->∃ x,news[j*(tI E).size+q]?=some x/\x.oneCell'=true/\aY G t.get w (g j q) x:=by
 unfold Gz at h;split at h
 ·obtain⟨A,rfl⟩:=hy;exact⟨0,_,A,0,[],h,rfl,by simp,Rd.nil,λj hj=>by omega⟩
 ·rename_i n z g
  split at h;rotate_left
  ·exact h.elim
  rename_i hz
  obtain rfl:=dJ hz;obtain⟨A,c,rfl,h1,h2,h3,h4⟩:=hy;obtain⟨news,hl,hn⟩:=Uo (n*(tI E).size) (λq x=>∃ b off,A=some ⟨b,off,none⟩/\b<w.heap.size/\w.cell? ⟨b,off+q,none⟩=some x/\x.oneCell'=true/\jK G.F w (g (q / (tI E).size) (q % (tI E).size)) x) (λq hq=>by
   obtain⟨e1,e2,e3⟩:=ZL hE hq;obtain⟨b,off,x,hA,hf,hb,hc,ho,hd⟩:=h4 _ e1 _ e2;rw[e3]at hc;exact⟨x,b,off,hA,hb,hc,ho,hd⟩)
  refine⟨n,_,A,c,news,h,rfl,hl,λhpos=>?_,λj hj q hq=>?_⟩
  ·obtain⟨b,off,hA,hb,_⟩:=hn 0 _ (dV hpos);refine⟨b,off,hA,hb,λi hi=>?_⟩;obtain⟨b',off',hA',_,hc,_⟩:=hn i _ (dV hi);rw[hA]at hA';injection hA' with e
   injection e with e1 e2
   subst e1 e2;rw[hc,dV hi]
  ·have hlt:j*(tI E).size+q<news.length:=by rw[hl];exact wU hj hq
   have hx:=dV hlt;obtain⟨_,_,_,_,_,ho,hd⟩:=hn _ _ hx;have e1:(j*(tI E).size+q) / (tI E).size=j:=by rw[Nat.mul_comm,Nat.mul_add_div hE,Nat.div_eq_of_lt hq,Nat.add_zero]
   rw[e1,ZC hq]at hd;exact⟨_,hx,ho,hd⟩
 ·rename_i i n
  obtain⟨A,c,hr,⟨A',c',hu'⟩,hu⟩:=hy;split at h;rotate_left
  ·exact h.elim
  rename_i E' z m g ho
  split at h;rotate_left
  ·exact h.elim
  rename_i hE'
  obtain rfl:=dJ hE';obtain⟨uG,hk⟩:=h.h;clear h;subst uG;obtain rfl:=(hu _ _ _ _ ho).2 rfl;obtain⟨q1,q2,q3,q4⟩:=rowOf (n:=0) hg ho hr;subst q2;obtain⟨_,rfl⟩|⟨_,b,cs,rfl,hh,hsz,hnc,hcm,hcell⟩:=q4
  ·exact⟨0,_,A,c,[],hk,rfl,by simp,Rd.nil,λj hj=>by omega⟩
  ·have hle:=vJ (tI E').size hnc;refine⟨n,_,_,c,cs.toList.take (n*(tI E').size),hk,rfl,by rw[dG];simp;omega,λhpos=>⟨b,0,rfl,(Array.getElem?_eq_some_iff.1 hh).1,λi hi=>?_⟩,λj hj q hq=>?_⟩
   ·rw[jq,cellOf hh,nX,if_pos (by rw[dG]at hi;omega)];simp
   ·obtain⟨x,e1,e2,e3⟩:=hcell j hj q hq;exact⟨x,by rw[nX,if_pos (wU hj hq)];simpa using e1,e2,e3⟩
 ·rename_i i n lo mm
  obtain⟨A,c,hr,⟨A',c',hu'⟩,hu⟩:=hy;split at h;rotate_left
  ·exact h.elim
  rename_i E' z m g ho
  split at h;rotate_left
  ·exact h.elim
  rename_i hE'
  obtain rfl:=dJ hE';obtain⟨⟨uG,hlo⟩,hk⟩:=h.h;clear h;subst uG;obtain⟨B,cb,rfl,hmc,hcm',hB,hBA,_⟩:=(hu _ _ _ _ ho).2 rfl;obtain⟨q1,q2,q3,q4⟩:=rowOf (n:=0) hg ho hr;subst q2;obtain h0|h0:=uK mm
  ·subst h0;exact⟨0,_,B,cb,[],hk,rfl,by simp,Rd.nil,λj hj=>by omega⟩
  obtain⟨_,h1⟩|⟨_,b,cs,rfl,hh,hsz,hnc,hcm,hcell⟩:=q4
  ·omega
  ·have hB':=hBA h0;rw[qg,uB,jq]at hB';subst hB';have hle:=vJ (tI E').size (show lo+mm<=c by omega);rw[Nat.add_mul]at hle;refine⟨mm,_,_,cb,(cs.toList.drop (lo*(tI E').size)).take (mm*(tI E').size),hk,rfl,by rw[dG,eY];simp;omega,λhpos=>⟨b,_,rfl,(Array.getElem?_eq_some_iff.1 hh).1,λi hi=>?_⟩,λj hj q hq=>?_⟩
   ·rw[cellOf hh,nX,if_pos (by rw[dG]at hi;omega),rP];simp
   ·obtain⟨x,e1,e2,e3⟩:=hcell (lo+j) qO q hq;refine⟨x,?_,e2,e3⟩;rw[nX,if_pos (wU hj hq),rP,<-Nat.add_assoc,<-Nat.add_mul];simpa using e1
 ·exact h.elim
def Ec(n:Nat)(g h:Nat->Nat->V)(j k:Nat):axE n g h j k=if j<n then g j k else h (j-n) k:=by
 unfold axE;by_cases e:j<n
 ·rw[if_pos e,show Nat.blt j n=true by rw[Nat.blt_eq];exact e];rfl
 ·rw[if_neg e,show Nat.blt j n=false by rw[xm];intro h;exact e (mX h)];rfl
def Nq{ty E n c m cy:Nat}{A Ay:Option Addr}{t2:TypeId}{cells news:List Value}(hk1:(tI ty).k=3)(hE:E=(tI ty).elem)(hok:(tI E).ok=true)(hz0:0<(tI E).size)(hby:(tI E).bytes<1000)(hown:Ov w 0 E (tI E).size A n c cells)(hl:news.length=m*(tI E).size)(hr:Rd w w.heap.size Ay news)(h1:∀ u∈news,u.oneCell'=true)(uG:n+m<=1000000) :
  ∃ A' c' w',(Builtin.append_ #[ty,ty] t2 #[.slice A n c,.slice Ay m cy]).run prog w = .ok (.slice A' (n+m) c') w'/\Ov w' 0 E (tI E).size A' (n+m) c' (cells++news)/\w.grownBy w' (Value.slice A n c).ownBlock/\(A'=A\/A'=some ⟨w.heap.size,0,none⟩):=by
 subst hE;obtain⟨i,z,hi⟩:=F5 hok;refine aiu (P:=prog) ty t2 (tI ty).elem i z (tI (tI ty).elem).size (tI (tI ty).elem).bytes (qI hk1) hi.h hi.zero hi.size hi.bytes hi.CO hz0 hown hl hr h1 qO ?_ (cZ _);have:=Nat.mul_le_mul uG (show(tI (tI ty).elem).bytes<=1000 by omega);omega
def Sm{ty n c cy:Nat}{A Ay:Option Addr}{t2:TypeId}(hk1:(tI ty).k=3)(hok:(tI (tI ty).elem).ok=true)(hnc:n<=c):(Builtin.append_ #[ty,ty] t2 #[.slice A n c,.slice Ay 0 cy]).run prog w = .ok (.slice A n c) w:=by
 have hz:=qB (w:=w) hok;obtain _|A:=A <;> obtain _|Ay:=Ay <;> simp[Builtin.append_,run_underlying (qI hk1),hz,Builtin.lenOf,Builtin.firstCells,hnc,loadCells,loadCellsFrom,storeCells,Result.andThen]
def XQ{ty m cy:Nat}{A:Addr}{Ay:Option Addr}{t2:TypeId}(hk1:(tI ty).k=3)(hok:(tI (tI ty).elem).ok=true)(hby:(tI (tI ty).elem).bytes<1000)(hm:0<m)(hm2:m<=1000000):(Builtin.append_ #[ty,ty] t2 #[.slice (some A) 0 0,.slice Ay m cy]).run prog w=(Builtin.append_ #[ty,ty] t2 #[.slice none 0 0,.slice Ay m cy]).run prog w:=by
 have hz:=qB (w:=w) hok;obtain⟨i,z,hi⟩:=F5 hok;have hm':m≠0:=qO;have hnx:Builtin.nextslicecap m 0=m:=by unfold Builtin.nextslicecap;rw[if_pos qO]
 have hb:¬(2^48<m*i.bytes):=by
  rw[hi.bytes];have:=Nat.mul_le_mul hm2 (show(tI (tI ty).elem).bytes<=1000 by omega);omega
 simp[Builtin.append_,run_underlying (qI hk1),hz,Builtin.lenOf,Builtin.firstCells,hm',hnx,typeInfo,hi.h,hb,loadCells,loadCellsFrom,Result.andThen]
end
end
section
section
variable {G:Gh} {w w':World} {t:ST} {s:AS} {o:Oper} {a:Act} {K:V->ST->Prop}
def Kt{E z n c:Nat}{A:Option Addr}{cells:List Value}{o':Nat->aK}{G':Gh}{g:Nat->Nat->V}(hz:0<z)(h:Ov w 0 E z A n c cells)(hc:∀ j,j<n->∀ q,q<z->∃ x,cells[j*z+q]?=some x/\x.oneCell'=true/\aY G' o' w (g j q) x):Eu G' o' w E z n g A c:=by
 obtain⟨hv,h0⟩|⟨b,cap,cur,hv,hb,hg,hnc,hcm,hsz,ht⟩:=h.2
 ·injection hv with _ _ hcc
  exact .inl ⟨hcc,h0⟩
 ·injection hv with hA _ hcc
  subst hA hcc;obtain h0|h0:=uK c
  ·exact .inl ⟨h0,by omega⟩
  ·refine .inr ⟨h0,b,cur,rfl,hg,hsz,hnc,hcm,λj hj q hq=>?_⟩;obtain⟨x,e1,e2,e3⟩:=hc j hj q hq;refine⟨x,?_,e2,e3⟩;rw[<-ht,nX,if_pos (wU hj hq)]at e1;simpa using e1
def asH{E z n c:Nat}{A:Option Addr}{g:Nat->Nat->V}(hc0:0<c)(h:Eu G t.get w E z n g A c):∃ cells b,A=some ⟨b,0,none⟩/\(∃ cs,w.heap[b]?=some (.cells cs E (0,0)))/\Ov w 0 E z A n c cells/\∀ j,j<n->∀ q,q<z->∃ x,cells[j*z+q]?=some x/\x.oneCell'=true/\aY G t.get w (g j q) x:=by
 obtain⟨h0,_⟩|⟨_,b,cs,rfl,hh,hsz,hnc,hcm,hcell⟩:=h
 ·omega
 ·have hle:=vJ z hnc;refine⟨cs.toList.take (n*z),b,rfl,⟨cs,hh⟩,⟨by rw[dG];simp;omega,.inr ⟨b,c,cs,rfl,cZ _,hh,hnc,hcm,hsz,rfl⟩⟩,λj hj q hq=>?_⟩;obtain⟨x,e1,e2,e3⟩:=hcell j hj q hq;exact⟨x,by rw[nX,if_pos (wU hj hq)];simpa using e1,e2,e3⟩
def Zx{m z:Nat}{news:List Value}{P:Nat->Nat->Value->Prop}(hz:0<z)(hl:news.length=m*z)(hn:∀ j,j<m->∀ q,q<z->∃ x,news[j*z+q]?=some x/\x.oneCell'=true/\P j q x):∀ u∈news,u.oneCell'=true:=by
 intro u hu;obtain⟨j,hj,rfl⟩:=List.getElem_of_mem hu;obtain⟨e1,e2,e3⟩:=ZL hz (by rw[<-hl];exact hj);obtain⟨x,h1,h2,_⟩:=hn _ e1 _ e2;rw[e3,dV hj]at h1;rw[fD h1];exact h2
def Ws{A:Option Addr}{n c:Nat}(hA:A=none)(h:w.grownBy w' (Value.slice A n c).ownBlock):Below w.heap.size w w':=by
 subst hA;exact⟨h.os,h.tape,h.output,h.size,λk hk=>h.block k hk (by intro e;cases e)⟩
def JJ(hg:bZ G t w)(hb:Below w.heap.size w w'){E z n c:Nat}{A:Option Addr}{g:Nat->Nat->V}(hE:(tI E).ok=true)(hz:(tI E).size=z)(hz0:0<z)(hA:0<c->∀ b off,A=some ⟨b,off,none⟩->w.heap.size<=b)(hrow:Stp G t.get w (G.upd t.nx (.row A c)) (t.new (.row E z n g)).get w'->Eu (G.upd t.nx (.row A c)) (t.new (.row E z n g)).get w' E z n g A c) :
  bZ (G.upd t.nx (.row A c)) (t.new (.row E z n g)) w'/\Stp G t.get w (G.upd t.nx (.row A c)) (t.new (.row E z n g)).get w'/\aY (G.upd t.nx (.row A c)) (t.new (.row E z n g)).get w' (.row t.nx n) (.slice A n c):=by
 have hch:vG G t (t.new (.row E z n g)) w w' t.nx (.row A c) (.row E z n g):=TU hg hb (λb h=>by
  obtain⟨A',c',e,hc,off,rfl⟩:=h;injection e with e1 e2
  subst e1 e2;exact hA hc b off rfl)
 have hs:=hch.dX;refine⟨hch.Uk hg ⟨hE,hz,hz0,_,_,rfl,hrow hs⟩,hs,_,_,if_pos rfl,⟨_,_,rfl⟩,λE' s' m' g' ho=>?_⟩;rw[Oa,if_pos rfl]at ho;injection ho with e1 e2 e3 e4
 subst e3;exact⟨bF _,λ_=>rfl⟩
def BK(hg:bZ G t w){i E z n m c c':Nat}{A A':Option Addr}{g g':Nat->Nat->V}(ho:t.get i = .row E z n g)(hr:G.ρ i=some (.row A c))(hsame:m=0->A'=A/\c'=c)(wC:w'.os=w.os)(htape:w'.tape=w.tape)(hout:w'.output=w.output)(hsize:w.heap.size<=w'.heap.size)(hkeep:∀ b,b<w.heap.size->¬dB G t.get i b->w'.heap[b]?=w.heap[b]?)
  (hA:0<c'->∀ b off,A'=some ⟨b,off,none⟩->dB G t.get i b\/w.heap.size<=b) (hrow:Stp G t.get w (G.upd i (.row A' c')) (t.set i (.row E z (n+m) g')).get w'->Eu (G.upd i (.row A' c')) (t.set i (.row E z (n+m) g')).get w' E z (n+m) g' A' c') :
  bZ (G.upd i (.row A' c')) (t.set i (.row E z (n+m) g')) w'/\Stp G t.get w (G.upd i (.row A' c')) (t.set i (.row E z (n+m) g')).get w'/\aY (G.upd i (.row A' c')) (t.set i (.row E z (n+m) g')).get w' (.row i (n+m)) (.slice A' (n+m) c'):=by
 obtain⟨q1,q2,q3,_⟩:=rowOf (n:=0) hg.axy ho hr;have hin:i<t.nx:=by
  obtain h1|h1:=l7 i t.nx
  ·exact h1
  ·have:=(hg.jZ i h1).2;rw[ho]at this;cases this
 have hch:vG G t (t.set i (.row E z (n+m) g')) w w' i (.row A' c') (.row E z (n+m) g'):={
  get:=qU t i _
  nx:=⟨bF _,hin⟩
  os:=wC
  tape:=htape
  output:=hout
  size:=hsize
  axz:=hkeep
  own:=λb h=>by
   obtain⟨A2,c2,e,hc,off,rfl⟩:=h;injection e with e1 e2
   subst e1 e2;exact hA hc b off rfl
  loc:=λb h=>by rw[hr]at h;cases h
  row:=λA2 c2 h=>by
   rw[hr]at h;injection h with h
   injection h with h1 h2
   subst h1 h2;refine⟨A',c',rfl,λE' s' m' g2 e=>?_⟩;injection e with e1 e2 e3 e4
   subst e1 e2 e3;exact⟨n,g,ho,by omega,λe=>hsame qO⟩ }
 have hs:=hch.dX;refine⟨hch.axy hg ⟨q1,q2,q3,_,_,rfl,hrow hs⟩ (λk hk=>(hg.jZ k hk).1),hs,_,_,if_pos rfl,⟨_,_,rfl⟩,λE' s' m' g2 e=>?_⟩;rw[qU,if_pos rfl]at e;injection e with e1 e2 e3 e4
 subst e3;exact⟨bF _,λ_=>rfl⟩
end
end
section
def wL(p m:Nat)(g h:Nat->Nat->V)(j k:Nat):qE p m g h j k=if j<p then g j k else if j<p+m then h (j-p) k else g j k:=by
 have e:∀ a b:Nat,Nat.blt a b=decide (a<b):=λa b=>by
  by_cases hh:a<b
  ·rw[aX hh,Nat.blt_eq];exact hh
  ·rw[aT hh];exact Bool.eq_false_iff.2 λh1=>hh (mX h1)
 unfold qE;rw[e,e];by_cases h1:j<p <;> by_cases h2:j<p+m <;> simp[h1,h2]
section
variable {G:Gh} {w w':World} {t:ST} {s:AS} {o:Oper} {a:Act} {K:V->ST->Prop}
def WY(hg:bZ G t w){i E z n m p c b N:Nat}{A:Option Addr}{g h:Nat->Nat->V}{cs:Array Value}{news:List Value}(ho:t.get i = .row E z n g)(hr:G.ρ i=some (.row A c))(hA:A=some ⟨b,0,none⟩)(hc0:0<c)(hh:w.heap[b]?=some (.cells cs E (0,0)))(hsz:cs.size=c*z)
  (hcell:∀ j,j<n->∀ k,k<z->∃ x,cs[j*z+k]?=some x/\x.oneCell'=true/\aY G t.get w (g j k) x) (hcm:c<=maxLen) (hp:p<=n) (hpm:p+m<=c) (hnc:n<=c) (hN:N=Nat.max n (p+m)) (hl:news.length=m*z) (hnews:∀ j,j<m->∀ q,q<z->∃ x,news[j*z+q]?=some x/\x.oneCell'=true/\aY G t.get w (h j q) x) :
  let w':=w.setRow b (cs.toList.take (p*z)++news++cs.toList.drop (p*z+news.length)).toArray
  bZ (G.upd i (.row A c)) (t.set i (.row E z N (qE p m g h))) w'/\Stp G t.get w (G.upd i (.row A c)) (t.set i (.row E z N (qE p m g h))).get w'/\aY (G.upd i (.row A c)) (t.set i (.row E z N (qE p m g h))).get w' (.row i N) (.slice A N c):=by
 intro w';have hz:0<z:=(rowOf (n:=0) hg.axy ho hr).2.2.1;have hpz:=vJ z hpm;rw[Nat.add_mul]at hpz;have hown:dB G t.get i b:=by unfold dB;rw[ho];exact⟨A,c,hr,hc0,_,hA⟩
 have hNn:n<=N:=by rw[hN];exact Nat.le_max_left _ _
 have hNp:p+m<=N:=by rw[hN];exact Nat.le_max_right _ _
 have hNc:N<=c:=by rw[hN];exact Nat.max_le.2 ⟨hnc,hpm⟩
 have hlen:(cs.toList.take (p*z)).length=p*z:=by rw[dG];simp;omega
 have key:=BK (w':=w') (m:=N-n) (c':=c) (A':=A) (g':=qE p m g h) hg ho hr (λ_=>⟨rfl,rfl⟩) rfl rfl rfl (by show w.heap.size<=(w.setRow b _).heap.size;simp) (λb' hb' hn=>setRow_other _ _ _ _ (λe=>hn (by rw[e];exact hown)))
  (λ_ b' off e=>by rw[hA]at e;injection e with e;injection e with e;rw[<-e];exact .inl hown)
  (λhs=>.inr ⟨hc0,b,_,hA,setRow_heap w b cs _ E (0,0) hh,by rw[List.size_toArray,bP,bP,hlen,eY,hl,rO,hsz];omega,by omega,hcm,λj hj k hk=>by
   rw[wL];have hjk:=wU (n:=c) (show j<c by omega) hk;by_cases h1:j<p
   ·obtain⟨x,e1,e2,e3⟩:=hcell j qO k hk;have:=wU h1 hk;exact⟨x,by rw[List.getElem?_toArray,jV,lS qO,nX,if_pos this];simpa using e1,e2,by rw[if_pos h1];exact e3.dX hs hg.axy⟩
   ·have hsub:j*z=p*z+(j-p)*z:=by rw[<-Nat.add_mul,Nat.add_sub_cancel' qO]
    by_cases h2:j<p+m
    ·obtain⟨x,e1,e2,e3⟩:=hnews (j-p) qO k hk;have:=wU (show j-p<m by omega) hk;exact⟨x,by rw[List.getElem?_toArray,jV,oP qO,hlen,lS qO,hsub,show p*z+(j-p)*z+k-p*z=(j-p)*z+k by omega];exact e1,e2,by rw[if_neg h1,if_pos h2];exact e3.dX hs hg.axy⟩
    ·have hj2:j<n:=by
      obtain q|q:=l7 j n
      ·exact q
      ·have:N<=j:=by rw[hN];exact Nat.max_le.2 ⟨q,by omega⟩
       omega
     obtain⟨x,e1,e2,e3⟩:=hcell j hj2 k hk;have hmz:m*z<=(j-p)*z:=vJ z qO;exact⟨x,by rw[List.getElem?_toArray,oP (by rw[bP,hlen,hl];omega),bP,hlen,hl,rP,show p*z+m*z+(j*z+k-(p*z+m*z))=j*z+k by omega];simpa using e1,e2,by rw[if_neg h1,if_neg h2];exact e3.dX hs hg.axy⟩⟩)
 rw[show n+(N-n)=N by omega]at key;exact key
def Ug{G:Gh}{s:ST}{i N q c E z:Nat}{A:Option Addr}{g:Nat->Nat->V}(hg:Good G s.get w)(ho:s.get i = .row E z N g)(h:aY G s.get w (.row i N) (.slice A N c))(hq:q<=N):aY G s.get w (.vw i N 0 q) (.slice A q c):=by
 obtain⟨A',c',hr,_,hu⟩:=h;have e:=(hu _ _ _ _ ho).2 rfl;injection e with e1 e2 e3
 subst e1 e3;obtain⟨q1,q2,q3,q4⟩:=rowOf (n:=0) hg ho hr;obtain⟨q5,q6,q7⟩:=Ef q4;have:=Ui (w:=w) (lo:=0) (m:=q) ho hr rfl q5 q6 q7 qO;rw[Nat.sub_zero,show(if c=0 then A else A.map (·.add (0*z)))=A by cases A <;> simp[Addr.add]]at this;exact this
def akr{ty E n c m cy b:Nat}{Ay:Option Addr}{t2:TypeId}{cs:Array Value}{news:List Value}(hk1:(tI ty).k=3)(hE:E=(tI ty).elem)(hok:(tI E).ok=true)(hh:w.heap[b]?=some (.cells cs E (0,0)))(hsz:cs.size=c*(tI E).size)(hl:news.length=m*(tI E).size)(hr:Rd w w.heap.size Ay news)(h1:∀ u∈news,u.oneCell'=true)(hm:0<m)(hz0:0<(tI E).size)(uG:n+m<=c) :
  (Builtin.append_ #[ty,ty] t2 #[.slice (some ⟨b,0,none⟩) n c,.slice Ay m cy]).run prog w = .ok (.slice (some ⟨b,0,none⟩) (n+m) c) (w.setRow b (cs.toList.take (n*(tI E).size)++news++cs.toList.drop (n*(tI E).size+news.length)).toArray):=by
 subst hE;have hz:=qB (w:=w) hok;have hpz:=vJ (tI (tI ty).elem).size uG;rw[Nat.add_mul]at hpz;obtain⟨b2,off,rfl,hb2,hrd⟩:=hr (by rw[hl];exact Nat.mul_pos hm hz0);have E5:=run_loadCells_list (P:=prog) w ⟨b2,off,none⟩ news (λj v hv=>by
  have:=(List.getElem?_eq_some_iff.1 hv).1;rw[uB,hrd j this,hv])
 have hst:=run_storeCells_at prog b (n*(tI (tI ty).elem).size) (tI ty).elem news 0 cs w hh qO h1;rw[hl]at E5;simp only[Nat.add_zero]at hst;simp[Builtin.append_,run_underlying (qI hk1),hz,Builtin.lenOf,Builtin.firstCells,uG,E5,uB,hst,Result.andThen]
def acQ{ty E o n c m cy b:Nat}{Ay:Option Addr}{t2:TypeId}{te:TypeId}{cs:Array Value}{news:List Value}(hk1:(tI ty).k=3)(hE:E=(tI ty).elem)(hok:(tI E).ok=true)(hh:w.heap[b]?=some (.cells cs te (0,0)))(iY:o+news.length<=cs.size)(hl:news.length=Nat.min m n*(tI E).size)(hr:Rd w w.heap.size Ay news)(h1:∀ u∈news,u.oneCell'=true)(hm:0<Nat.min m n)(hz0:0<(tI E).size) :
  (Builtin.copy_ #[ty,ty] t2 #[.slice (some ⟨b,o,none⟩) n c,.slice Ay m cy]).run prog w = .ok (goInt (Nat.min m n)) (w.setRow b (cs.toList.take o++news++cs.toList.drop (o+news.length)).toArray):=by
 subst hE;have hz:=qB (w:=w) hok;obtain⟨b2,off,rfl,hb2,hrd⟩:=hr (by rw[hl];exact Nat.mul_pos hm hz0);have E5:=run_loadCells_list (P:=prog) w ⟨b2,off,none⟩ news (λj v hv=>by
  have:=(List.getElem?_eq_some_iff.1 hv).1;rw[uB,hrd j this,hv])
 have hst:=run_storeCells_at prog b o te news 0 cs w hh qO h1;rw[hl]at E5;simp only[Nat.add_zero]at hst;simp[Builtin.copy_,run_underlying (qI hk1),hz,Builtin.lenOf,Builtin.firstCells,E5,hst,Result.andThen]
def ajt{ty:Nat}{x y:Operand}{vx vy:V}(hg:bZ G t w)(ho:o.op = .call { callee:=.builtin .append,args:=#[x,y],argTypes:=#[ty,ty] })(hx:aY G t.get w vx (a.eval x))(hy:aY G t.get w vy (a.eval y))(h:Oo ty vx vy t K):fG o a G t w K:=by
 have fin:∀ {v:Value} {V:V} {t':ST} {G':Gh} {w':World},(Builtin.append_ #[ty,ty] o.type #[a.eval x,a.eval y]).run prog w = .ok v w'->K V t'->bZ G' t' w'/\Stp G t.get w G' t'.get w'/\aY G' t'.get w' V v->fG o a G t w K:=λ{v V t' G' w'} hrun hk hh=>by
  unfold fG Oper.wp Oper.upon execOp;simp only[ho,resolve,invoke,builtin,Sem.run_bind,Sem.run_pure,Result.andThen_ok];simp only[List.map_toArray,List.map_cons,List.map_nil,hrun,Result.andThen_ok];exact⟨v,V,t',G',rfl,hk,hh⟩
 unfold Oo at h;split at h;rotate_left
 ·exact h.elim
 rename_i hk1 hE
 obtain⟨hE,hby⟩:=kZ hE;obtain⟨hok,hz0⟩:=kZ hE;have hby:=mX hby
 have hz0:=mX hz0;have zX:=Tn hg.axy hz0 hy h;clear h;obtain⟨m,g2,Ay,cy,news,h,hye,hnl,hrd,hnews⟩:=zX;have hone:=Zx hz0 hnl hnews;rw[hye]at fin;split at h
 ·obtain⟨hm,hk⟩:=h.h;obtain⟨A,hxe⟩:=hx;rw[hxe]at fin;obtain h0|h0:=uK m
  ·subst h0;exact fin (Sm hk1 hok (bF _)) hk (JJ hg (Below.refl _ _) hok rfl hz0 (λh=>by omega) (λ_=>.inl ⟨rfl,rfl⟩))
  ·obtain⟨A',c',w',hrun,hov,hgr,hA'⟩:=Nq (t2:=o.type) (cy:=cy) (n:=0) (c:=0) (A:=none) hk1 rfl hok hz0 hby (Zf w 0 _ _) hnl hrd hone qO;rw[jq]at hrun hov;have hb:=Ws rfl hgr;refine fin (v:=.slice A' m c') ?_ hk (JJ hg hb hok rfl hz0 (λ_ b off e=>?_) (λhs=>Kt hz0 hov (λj hj q hq=>?_)))
   ·obtain _|A:=A
    ·exact hrun
    ·rw[XQ hk1 hok hby h0 hm];exact hrun
   ·obtain rfl|rfl:=hA'
    ·cases e
    ·injection e with e;injection e with e;omega
   ·obtain⟨x,e1,e2,e3⟩:=hnews j hj q hq;exact⟨x,by rw[List.nil_append];exact e1,e2,e3.dX hs hg.axy⟩
 ·rename_i i n
  obtain⟨A,c,hr,_,hu⟩:=hx;split at h;rotate_left
  ·exact h.elim
  rename_i E z r g hob
  split at h;rotate_left
  ·exact h.elim
  rename_i hEq
  obtain rfl:=dJ hEq;obtain⟨⟨hnr,uG⟩,hk⟩:=h.h;subst hnr;have hxe:=(hu _ _ _ _ hob).2 rfl;rw[hxe]at fin;obtain⟨q1,q2,q3,q4⟩:=rowOf (n:=0) hg.axy hob hr;subst q2;obtain h0|h0:=uK m
  ·subst h0;refine fin (Sm hk1 hok (Ef q4).1) hk (BK hg hob hr (λ_=>⟨rfl,rfl⟩) rfl rfl rfl (bF _) (λ_ _ _=>rfl) (λhc b off e=>.inl ?_) (λhs=>?_))
   ·unfold dB;rw[hob];exact⟨A,c,hr,hc,off,e⟩
   ·obtain q4|⟨hc0,b,cs,e1,e2,e3,e4,e5,e6⟩:=q4
    ·exact .inl q4
    ·refine .inr ⟨hc0,b,cs,e1,e2,e3,e4,e5,λj hj q hq=>?_⟩;obtain⟨x,p1,p2,p3⟩:=e6 j hj q hq;exact⟨x,p1,p2,by rw[Ec,if_pos qO];exact p3.dX hs hg.axy⟩
  ·obtain hc0|hc0:=uK c
   ·subst hc0;have hn0:n=0:=by have:=(Ef q4).1;omega
    subst hn0;obtain⟨A',c',w',hrun,hov,hgr,hA'⟩:=Nq (t2:=o.type) (cy:=cy) (n:=0) (c:=0) (A:=none) hk1 rfl hok hz0 hby (Zf w 0 _ _) hnl hrd hone uG;have hb:=Ws rfl hgr;refine fin (v:=.slice A' (0+m) c') ?_ hk (BK hg hob hr (λe=>by omega) hb.os hb.tape hb.output hb.size (λb hb' _=>hb.block b hb') (λ_ b off e=>.inr ?_) (λhs=>Kt hz0 hov (λj hj q hq=>?_)))
    ·obtain _|A:=A
     ·exact hrun
     ·rw[XQ hk1 hok hby h0 qO];exact hrun
    ·obtain rfl|rfl:=hA'
     ·cases e
     ·injection e with e;injection e with e;omega
    ·obtain⟨x,e1,e2,e3⟩:=hnews j qO q hq;exact⟨x,by rw[List.nil_append];exact e1,e2,by rw[Ec,if_neg qO,Nat.sub_zero];exact e3.dX hs hg.axy⟩
   ·obtain⟨cells,b0,rfl,⟨cs0,hcs0⟩,PX,hcell0⟩:=asH hc0 q4;obtain⟨A',c',w',hrun,hov,hgr,hA'⟩:=Nq (t2:=o.type) (cy:=cy) hk1 rfl hok hz0 hby PX hnl hrd hone uG;have hown0:dB G t.get i b0:=by unfold dB;rw[hob];exact⟨_,c,hr,hc0,_,rfl⟩
    have hlen0:=PX.len;refine fin hrun hk (BK hg hob hr (λe=>by omega) hgr.os hgr.tape hgr.output hgr.size (λb hb' hn=>hgr.block b hb' (λe=>?_)) (λ_ b off e=>?_) (λhs=>Kt hz0 hov (λj hj q hq=>?_)))
    ·have e':some b=some b0:=e;injection e' with e'
     exact hn (by rw[e'];exact hown0)
    ·obtain rfl|rfl:=hA'
     ·injection e with e;injection e with e;rw[<-e];exact .inl hown0
     ·injection e with e;injection e with e;exact .inr qO
    ·by_cases hjn:j<n
     ·obtain⟨x,e1,e2,e3⟩:=hcell0 j hjn q hq;refine⟨x,?_,e2,by rw[Ec,if_pos hjn];exact e3.dX hs hg.axy⟩;rw[lS (by rw[hlen0];exact wU hjn hq)];exact e1
     ·obtain⟨x,e1,e2,e3⟩:=hnews (j-n) qO q hq;refine⟨x,?_,e2,by rw[Ec,if_neg hjn];exact e3.dX hs hg.axy⟩;have hsub:j*(tI (tI ty).elem).size=n*(tI (tI ty).elem).size+(j-n)*(tI (tI ty).elem).size:=by rw[<-Nat.add_mul,Nat.add_sub_cancel' qO]
      rw[oP (by rw[hlen0,hsub];omega),hlen0,hsub,show n*(tI (tI ty).elem).size+(j-n)*(tI (tI ty).elem).size+q-n*(tI (tI ty).elem).size=(j-n)*(tI (tI ty).elem).size+q by omega];exact e1
 ·rename_i i n lo q
  obtain⟨A,c,hr,_,hu⟩:=hx;split at h;rotate_left
  ·exact h.elim
  rename_i E z r g hob
  split at h;rotate_left
  ·exact h.elim
  rename_i hEq
  obtain rfl:=dJ hEq;obtain⟨⟨hlo,hnr,hqn,hqm⟩,hk⟩:=h.h;subst hnr hlo;obtain⟨B,cb,hxe,p1,p2,p3,p4,p5,p6⟩:=(hu _ _ _ _ hob).2 rfl;rw[hxe]at fin;obtain⟨q1,q2,q3,q4⟩:=rowOf (n:=0) hg.axy hob hr;subst q2;rw[Nat.sub_zero]at p5;subst p5;have hcap:=Ef q4;obtain h0|h0:=uK m
  ·subst h0;have hmax:Nat.max n (q+0)=n:=Nat.max_eq_left hqn;have key:=BK (m:=0) (c':=cb) (A':=A) (g':=qE q 0 g g2) hg hob hr (λ_=>⟨rfl,rfl⟩) rfl rfl rfl (bF _) (λ_ _ _=>rfl) (λhc b off e=>.inl (by unfold dB;rw[hob];exact⟨A,cb,hr,hc,off,e⟩)) (λhs=>by
    obtain q4|⟨hc0,b,cs,e1,e2,e3,e4,e5,e6⟩:=q4
    ·exact .inl q4
    ·refine .inr ⟨hc0,b,cs,e1,e2,e3,e4,e5,λj hj q' hq=>?_⟩;obtain⟨x,p1,p2,p3⟩:=e6 j hj q' hq;refine⟨x,p1,p2,?_⟩;rw[wL];split
     ·exact p3.dX hs hg.axy
     ·rw[if_neg qO];exact p3.dX hs hg.axy)
   refine fin (G':=G.upd i (.row A cb)) (Sm hk1 hok p1) hk ?_;rw[hmax];refine⟨key.1,key.2.1,?_⟩;have hv:=Ug (q:=q) key.1.axy (by rw[qU,if_pos rfl]) key.2.2 qO;obtain hc0|hc0:=uK cb
   ·obtain⟨A',c',hr',_,hu'⟩:=hv;refine⟨A',c',hr',⟨_,_,rfl⟩,λE' s' m' g' e=>⟨(hu' _ _ _ _ e).1,λe2=>?_⟩⟩;obtain⟨B',cb',e3,_,_,_,_,e4,_⟩:=(hu' _ _ _ _ e).2 e2;injection e3 with e3 e5 e6
    subst hc0;subst e6;exact⟨B,0,rfl,by omega,by omega,λ_=>rfl,λh=>by omega,e4,λh=>by omega⟩
   ·rw[p6 hc0,show A.map (·.add (0*(tI (tI ty).elem).size))=A by cases A <;> simp[Addr.add]];exact hv
  ·obtain hc0|hc0:=uK cb
   ·subst hc0;have hn0:n=0:=by have:=hcap.1;omega
    subst hn0;have hq0:q=0:=qO;subst hq0;have hmax:Nat.max 0 (0+m)=0+m:=Nat.max_eq_right (cZ _);rw[hmax]at hk;obtain⟨A',c',w',hrun,hov,hgr,hA'⟩:=Nq (t2:=o.type) (cy:=cy) (n:=0) (c:=0) (A:=none) hk1 rfl hok hz0 hby (Zf w 0 _ _) hnl hrd hone hqm;have hb:=Ws rfl hgr;have key:=BK (A':=A') (c':=c') (m:=m) (g':=qE 0 m g g2) hg hob hr (λe=>by omega) hb.os hb.tape hb.output hb.size (λb hb' _=>hb.block b hb') (λ_ b off e=>.inr (by
     obtain rfl|rfl:=hA'
     ·cases e
     ·injection e with e;injection e with e;omega)) (λhs=>Kt hz0 hov (λj hj q' hq=>by
     obtain⟨x,e1,e2,e3⟩:=hnews j qO q' hq;exact⟨x,by rw[List.nil_append];exact e1,e2,by rw[wL,if_neg qO,if_pos qO,Nat.sub_zero];exact e3.dX hs hg.axy⟩))
    refine fin (v:=.slice A' (0+m) c') ?_ hk ⟨key.1,key.2.1,Ug key.1.axy (by rw[qU,if_pos rfl]) key.2.2 (bF _)⟩;obtain _|B:=B
    ·exact hrun
    ·rw[XQ hk1 hok hby h0 qO];exact hrun
   ·have hB:=p6 hc0;obtain⟨b0,rfl⟩:=afj q4 hc0;rw[qg,uB,Nat.zero_mul]at hB;subst hB;obtain⟨hz,_⟩|⟨_,b1,cs,e1,e2,e3,e4,e5,e6⟩:=q4
    ·omega
    injection e1 with e1
    injection e1 with e1
    subst e1;obtain iY|iY:=l7 cb (q+m)
    ·have hmax:Nat.max n (q+m)=n+(q+m-n):=by rw[Nat.add_sub_cancel' qO];exact Nat.max_eq_right qO
     rw[hmax]at hk;have hle:=vJ (tI (tI ty).elem).size p1;have PX:Ov w 0 (tI ty).elem (tI (tI ty).elem).size (some ⟨b0,0,none⟩) q cb (cs.toList.take (q*(tI (tI ty).elem).size)):=⟨by rw[dG];simp;omega,.inr ⟨b0,cb,cs,rfl,cZ _,e2,p1,p2,e3,rfl⟩⟩;obtain⟨A',c',w',hrun,hov,hgr,hA'⟩:=Nq (t2:=o.type) (cy:=cy) hk1 rfl hok hz0 hby PX hnl hrd hone hqm;have hown0:dB G t.get i b0:=by unfold dB;rw[hob];exact⟨_,cb,hr,hc0,_,rfl⟩
     have hlen0:=PX.len;have hsum:n+(q+m-n)=q+m:=qO;have key:=BK (A':=A') (c':=c') (m:=q+m-n) (g':=qE q m g g2) hg hob hr (λe=>by omega) hgr.os hgr.tape hgr.output hgr.size (λb hb' hn=>hgr.block b hb' (λe=>by
      have e':some b=some b0:=e;injection e' with e'
      exact hn (by rw[e'];exact hown0))) (λ_ b off e=>by
      obtain rfl|rfl:=hA'
      ·injection e with e;injection e with e;rw[<-e];exact .inl hown0
      ·injection e with e;injection e with e;exact .inr qO) (λhs=>by
      rw[hsum]at hs ⊢;exact Kt hz0 hov (λj hj q' hq=>by
       by_cases hjn:j<q
       ·obtain⟨x,a1,a2,a3⟩:=e6 j qO q' hq;refine⟨x,?_,a2,by rw[wL,if_pos hjn];exact a3.dX hs hg.axy⟩;have:=wU hjn hq;rw[lS (by rw[hlen0];exact this),nX,if_pos this];simpa using a1
       ·obtain⟨x,a1,a2,a3⟩:=hnews (j-q) qO q' hq;refine⟨x,?_,a2,by rw[wL,if_neg hjn,if_pos qO];exact a3.dX hs hg.axy⟩;have hsub:j*(tI (tI ty).elem).size=q*(tI (tI ty).elem).size+(j-q)*(tI (tI ty).elem).size:=by rw[<-Nat.add_mul,Nat.add_sub_cancel' qO]
        rw[oP (by rw[hlen0,hsub];omega),hlen0,hsub,show q*(tI (tI ty).elem).size+(j-q)*(tI (tI ty).elem).size+q'-q*(tI (tI ty).elem).size=(j-q)*(tI (tI ty).elem).size+q' by omega];exact a1))
     exact fin hrun hk ⟨key.1,key.2.1,Ug (c:=c') (A:=A') key.1.axy (by rw[qU,if_pos rfl]) key.2.2 qO⟩
    ·have hrun:=akr (t2:=o.type) (cy:=cy) hk1 rfl hok e2 e3 hnl hrd hone h0 hz0 iY;have key:=WY (p:=q) (m:=m) (h:=g2) (news:=news) hg hob hr rfl hc0 e2 e3 e6 e5 hqn iY e4 rfl hnl hnews;exact fin hrun hk ⟨key.1,key.2.1,Ug key.1.axy (by rw[qU,if_pos rfl]) key.2.2 (Nat.le_max_right _ _)⟩
 ·obtain⟨h0,hk⟩:=h.h;subst h0;have hx0:=hx;obtain⟨A,c,hxe,q1,q2,_⟩:=hx;rw[hxe]at fin hx0;exact fin (Sm hk1 hok q1) hk ⟨hg,Stp.refl _ _ _,hx0⟩
 ·exact h.elim
def afK{n p m:Nat}(h:p+m<=n):Nat.max n (p+m)=n:=Nat.max_eq_left h
def akd{m k z:Nat}{news:List Value}{P:Nat->Nat->Value->Prop}(hl:news.length=m*z)(hk:k<=m)(hn:∀ j,j<m->∀ q,q<z->∃ x,news[j*z+q]?=some x/\x.oneCell'=true/\P j q x):(news.take (k*z)).length=k*z/\∀ j,j<k->∀ q,q<z->∃ x,(news.take (k*z))[j*z+q]?=some x/\x.oneCell'=true/\P j q x:=by
 have:=vJ z hk;refine⟨by rw[dG];omega,λj hj q hq=>?_⟩;obtain⟨x,e1,e2⟩:=hn j qO q hq;exact⟨x,by rw[nX,if_pos (wU hj hq)];exact e1,e2⟩
def aoV{B:Nat}{A:Option Addr}{news:List Value}(n:Nat)(h:Rd w B A news):Rd w B A (news.take n):=λhp=>by
 have hl:0<news.length:=by rw[dG]at hp;omega
 obtain⟨b,off,e1,e2,e3⟩:=h hl;exact⟨b,off,e1,e2,λi hi=>by
  rw[dG]at hi;rw[e3 i qO,nX,if_pos qO]⟩
def amm{ty:Nat}{x y:Operand}{vx vy:V}(hg:bZ G t w)(ho:o.op = .call { callee:=.builtin .copy,args:=#[x,y],argTypes:=#[ty,ty] })(hx:aY G t.get w vx (a.eval x))(hy:aY G t.get w vy (a.eval y))(h:Pq ty vx vy t K):fG o a G t w K:=by
 have fin:∀ {v:Value} {V:V} {t':ST} {G':Gh} {w':World},(Builtin.copy_ #[ty,ty] o.type #[a.eval x,a.eval y]).run prog w = .ok v w'->K V t'->bZ G' t' w'/\Stp G t.get w G' t'.get w'/\aY G' t'.get w' V v->fG o a G t w K:=λ{v V t' G' w'} hrun hk hh=>by
  unfold fG Oper.wp Oper.upon execOp;simp only[ho,resolve,invoke,builtin,Sem.run_bind,Sem.run_pure,Result.andThen_ok];simp only[List.map_toArray,List.map_cons,List.map_nil,hrun,Result.andThen_ok];exact⟨v,V,t',G',rfl,hk,hh⟩
 unfold Pq at h;split at h;rotate_left
 ·exact h.elim
 rename_i hk1 hE
 obtain⟨hok,hz0⟩:=kZ hE;have hz0:=mX hz0;have zX:=Tn hg.axy hz0 hy h;clear h;obtain⟨m,g2,Ay,cy,news,h,hye,hnl,hrd,hnews⟩:=zX;rw[hye]at fin;have core:∀ {i n lo q:Nat} {E z:Nat} {g:Nat->Nat->V} {A B:Option Addr} {c cb:Nat},t.get i = .row E z n g->E=(tI ty).elem->G.ρ i=some (.row A c)->lo+q<=n->a.eval x = .slice B q cb->(0<q->B=A.map (·.add (lo*z)))->K (.i (Nat.min m q)) (t.set i (.row E z n (qE lo (Nat.min m q) g g2)))->fG o a G t w K:=λ{i n lo q E z g A B c cb} hob hEE hr iY hxe hB hk=>by
  subst hEE;rw[hxe]at fin;obtain⟨q1,q2,q3,q4⟩:=rowOf (n:=0) hg.axy hob hr;subst q2;have hcap:=Ef q4;have avm:Nat.min m q<=m:=Nat.min_le_left m q;have axp:Nat.min m q<=q:=Nat.min_le_right m q;have hone:=Zx hz0 hnl hnews;obtain⟨t1,t2⟩:=akd hnl avm hnews;have avi:∀ {of c b:Nat} {cs:Array Value},w.heap[b]?=some (.cells cs (tI ty).elem (0,0))->of+(news.take (Nat.min m q*(tI (tI ty).elem).size)).length<=cs.size->0<Nat.min m q->(Builtin.copy_ #[ty,ty] o.type #[.slice (some ⟨b,of,none⟩) q c,.slice Ay m cy]).run prog w = .ok (goInt (Nat.min m q)) (w.setRow b (cs.toList.take of++news.take (Nat.min m q*(tI (tI ty).elem).size)++cs.toList.drop (of+(news.take (Nat.min m q*(tI (tI ty).elem).size)).length)).toArray):=λe2 iY h0=>acQ hk1 rfl hok e2 iY t1 (aoV _ hrd) (λu hu=>hone u (List.mem_of_mem_take hu)) h0 hz0
  have avh:Nat.min m q=0->(Builtin.copy_ #[ty,ty] o.type #[.slice B q cb,.slice Ay m cy]).run prog w = .ok (goInt 0) w:=λh0=>by
   have hz:=qB (w:=w) hok;obtain _|B:=B <;> obtain _|Ay:=Ay <;> simp[Builtin.copy_,run_underlying (qI hk1),hz,Builtin.lenOf,Builtin.firstCells,h0,loadCells,loadCellsFrom,storeCells,Result.andThen]
  generalize Nat.min m q=km at *;obtain h0|h0:=uK (km)
  ·rw[h0]at hk;have key:=BK (m:=0) (c':=c) (A':=A) (g':=qE lo 0 g g2) hg hob hr (λ_=>⟨rfl,rfl⟩) rfl rfl rfl (bF _) (λ_ _ _=>rfl) (λhc b off e=>.inl (by unfold dB;rw[hob];exact⟨A,c,hr,hc,off,e⟩)) (λhs=>by
    obtain q4|⟨hc0,b,cs,e1,e2,e3,e4,e5,e6⟩:=q4
    ·exact .inl q4
    ·refine .inr ⟨hc0,b,cs,e1,e2,e3,e4,e5,λj hj q' hq=>?_⟩;obtain⟨x,p1,p2,p3⟩:=e6 j hj q' hq;refine⟨x,p1,p2,?_⟩;rw[wL];split
     ·exact p3.dX hs hg.axy
     ·rw[if_neg qO];exact p3.dX hs hg.axy)
   exact fin (v:=goInt 0) (avh h0) hk ⟨key.1,key.2.1,rfl⟩
  ·obtain⟨_,hz⟩|⟨hc0,b,cs,rfl,e2,e3,e4,e5,e6⟩:=q4
   ·omega
   have hB:=hB qO;rw[qg,uB,jq]at hB;subst hB;have hle:=vJ (tI (tI ty).elem).size (show lo+km<=c by omega);rw[Nat.add_mul]at hle;have hrun:=avi (c:=cb) (of:=lo*(tI (tI ty).elem).size) e2 (by rw[t1,e3];exact hle) h0;have key:=WY (p:=lo) (m:=km) (h:=g2) (N:=n) hg hob hr rfl hc0 e2 e3 e6 e5 qO qO e4 (afK qO).symm t1 t2;exact fin hrun hk ⟨key.1,key.2.1,rfl⟩
 split at h
 ·rename_i i n
  obtain⟨A,c,hr,_,hu⟩:=hx;split at h;rotate_left
  ·exact h.elim
  rename_i E z r g hob
  split at h;rotate_left
  ·exact h.elim
  rename_i hEq
  obtain⟨rfl,hk⟩:=h.h;exact core (lo:=0) (q:=n) hob (dJ hEq) hr qO ((hu _ _ _ _ hob).2 rfl) (λ_=>by cases A <;> simp[Addr.add]) hk
 ·rename_i i n lo q
  obtain⟨A,c,hr,_,hu⟩:=hx;split at h;rotate_left
  ·exact h.elim
  rename_i E z r g hob
  split at h;rotate_left
  ·exact h.elim
  rename_i hEq
  obtain⟨⟨rfl,iY⟩,hk⟩:=h.h;obtain⟨B,cb,hxe,p1,p2,p3,p4,p5,p6⟩:=(hu _ _ _ _ hob).2 rfl;exact core hob (dJ hEq) hr iY hxe p4 hk
 ·exact h.elim
def akz{ty:Nat}{x:Operand}{vx:V}(hg:bZ G t w)(ho:o.op = .call { callee:=.builtin .clear,args:=#[x],argTypes:=#[ty] })(hx:aY G t.get w vx (a.eval x))(h:OQ ty vx t K):fG o a G t w K:=by
 have fin:∀ {v:Value} {V:V} {t':ST} {G':Gh} {w':World},(Builtin.clear_ #[ty] o.type #[a.eval x]).run prog w = .ok v w'->K V t'->bZ G' t' w'/\Stp G t.get w G' t'.get w'/\aY G' t'.get w' V v->fG o a G t w K:=λ{v V t' G' w'} hrun hk hh=>by
  unfold fG Oper.wp Oper.upon execOp;simp only[ho,resolve,invoke,builtin,Sem.run_bind,Sem.run_pure,Result.andThen_ok];simp only[List.map_toArray,List.map_cons,List.map_nil,hrun,Result.andThen_ok];exact⟨v,V,t',G',rfl,hk,hh⟩
 unfold OQ at h;split at h;rotate_left
 ·exact h.elim
 rename_i i n lo q hk1 hE
 obtain⟨hok,hz0⟩:=kZ hE;have hz0:=mX hz0;obtain⟨A,c,hr,_,hu⟩:=hx;split at h;rotate_left
 ·exact h.elim
 rename_i E z r g hob
 split at h;rotate_left
 ·exact h.elim
 rename_i hEq
 obtain rfl:=dJ hEq;obtain⟨⟨rfl,iY⟩,hk⟩:=h.h;obtain⟨B,cb,hxe,p1,p2,p3,p4,p5,p6⟩:=(hu _ _ _ _ hob).2 rfl;rw[hxe]at fin;obtain⟨q1,q2,q3,q4⟩:=rowOf (n:=0) hg.axy hob hr;subst q2;obtain h0|h0:=uK q
 ·subst h0;have key:=BK (m:=0) (c':=c) (A':=A) (g':=qE lo 0 g (λ_ k=>iM (tI ty).elem k)) hg hob hr (λ_=>⟨rfl,rfl⟩) rfl rfl rfl (bF _) (λ_ _ _=>rfl) (λhc b off e=>.inl (by unfold dB;rw[hob];exact⟨A,c,hr,hc,off,e⟩)) (λhs=>by
   obtain q4|⟨hc0,b,cs,e1,e2,e3,e4,e5,e6⟩:=q4
   ·exact .inl q4
   ·refine .inr ⟨hc0,b,cs,e1,e2,e3,e4,e5,λj hj q' hq=>?_⟩;obtain⟨x,p1,p2,p3⟩:=e6 j hj q' hq;refine⟨x,p1,p2,?_⟩;rw[wL];split
    ·exact p3.dX hs hg.axy
    ·rw[if_neg qO];exact p3.dX hs hg.axy)
  refine fin (v:=.tuple #[]) ?_ hk ⟨key.1,key.2.1,trivial⟩;obtain _|B:=B <;> simp[Builtin.clear_,run_underlying (qI hk1),Result.andThen]
 ·obtain⟨_,hz⟩|⟨hc0,b,cs,rfl,e2,e3,e4,e5,e6⟩:=q4
  ·omega
  have hB:=p4 h0;rw[qg,uB,jq]at hB;subst hB;obtain⟨i',z,hi,hzr⟩:=HY (G:=G) (t:=t) (w:=w) q1;have hzs:=hi.CO;have hle:=vJ (tI (tI ty).elem).size (show lo+q<=c by omega);rw[Nat.add_mul]at hle;have hzc:∀ j,j<q->∀ k,k<(tI (tI ty).elem).size->∃ x,(Builtin.zeroCells z.cells q).toList[j*(tI (tI ty).elem).size+k]?=some x/\x.oneCell'=true/\aY G t.get w (iM (tI ty).elem k) x:=λj hj k hk=>by
   have hlt:=wU hj hk;have hk2:k<z.cells.size:=qO;refine⟨z.cells[k],?_,hzr k _ (vI hk2)⟩;unfold Builtin.zeroCells;rw[qP,Array.getElem?_map,Array.getElem?_range];simp only[hzs,hlt,if_true,qg,Option.some.injEq,dite_true,ZC hk];simp[hk2]
  have hzl:(Builtin.zeroCells z.cells q).toList.length=q*(tI (tI ty).elem).size:=by unfold Builtin.zeroCells;simp[hzs]
  have hone:=Zx (P:=λj k x=>aY G t.get w (iM (tI ty).elem k) x) hz0 hzl hzc;have hst:=run_storeCells_at prog b (lo*(tI (tI ty).elem).size) (tI ty).elem (Builtin.zeroCells z.cells q).toList 0 cs w e2 (by rw[hzl,e3,Nat.add_zero];exact hle) hone;simp only[Nat.add_zero]at hst;have key:=WY (p:=lo) (m:=q) (h:=λ_ k=>iM (tI ty).elem k) (N:=n) hg hob hr rfl hc0 e2 e3 e6 e5 qO qO e4 (afK qO).symm hzl hzc;refine fin (v:=.tuple #[]) ?_ hk ⟨key.1,key.2.1,trivial⟩;obtain⟨q',rfl⟩:∃ q',q=q'+1:=⟨q-1,by omega⟩;simp[Builtin.clear_,run_underlying (qI hk1),zeroValue,typeInfo,hi.h,hi.zero,hst,Result.andThen]
end
end
section
def ahK{t:Nat}{k:IntKind}{n:Int}(h:(tI t).k=5)(hz:(tI t).zero=[.d (.v (.int k n))]):prog.underlying t=some (.int k):=by
 obtain⟨d,h1,h2⟩:=DD t h qD;rw[h1];cases d <;> simp[wX,h,hz]at h2;rw[h2]
def UH{t:Nat}(h:(tI t).k=5):∃ k,prog.underlying t=some (.int k):=by
 obtain⟨d,h1,h2⟩:=DD t h qD;rw[h1];cases d <;> simp[wX,h]at h2;exact⟨_,rfl⟩
def UF:prog.underlying 5=some (.int .u8):=underlying5
section
variable {G:Gh} {w w':World} {t:ST} {s:AS} {o:Oper} {a:Act} {K:V->ST->Prop} {M:Prop->Prop->Prop} {gd:Prop}
def Nw(hg:bZ G t w)(hb:Below w.heap.size w w'):bZ ⟨λb=>G.F b\/(w.heap.size<=b/\b<w'.heap.size),G.ρ⟩ t w'/\Stp G t.get w ⟨λb=>G.F b\/(w.heap.size<=b/\b<w'.heap.size),G.ρ⟩ t.get w':=by
 have hs:Stp G t.get w ⟨λb=>G.F b\/(w.heap.size<=b/\b<w'.heap.size),G.ρ⟩ t.get w':=
  ⟨hb.os,hb.tape,hb.output,hb.size,λb h _=>hb.block b h,λ_ h _=>.inl h,λb h=>h.imp id (λh=>h.1),λi b h=>.inl h,λ_ _ h=>h,λi A c h=>⟨A,c,h,λE s m g ho=>⟨m,g,ho,bF _,λ_=>⟨rfl,rfl⟩⟩⟩⟩
 have hk:∀ i b,dB G t.get i b->w'.heap[b]?=w.heap[b]?:=λi b h=>hb.block b (hg.axy.lt h)
 refine⟨⟨⟨λi n g ho=>?_,λi E s n g ho=>?_,λi es ho=>?_,λi b ho hf=>?_,λb hf=>?_,λi j b h1 h2=>hg.axy.sep i j b h1 h2⟩,hg.jZ⟩,hs⟩
 ·obtain⟨b,cs,ty,h1,h2,h3,h4⟩:=hg.axy.Wp _ _ _ ho;exact⟨b,cs,ty,h1,by rw[hk i b (by unfold dB;rw[ho];exact h1),h2],h3,λk x hx=>⟨(h4 k x hx).1,(h4 k x hx).2.dX hs hg.axy⟩⟩
 ·obtain⟨h1,h2,h3,A,c,h4,h5⟩:=hg.axy.row _ _ _ _ _ ho;refine⟨h1,h2,h3,A,c,h4,?_⟩;obtain h5|⟨h5,b,cs,rfl,h6,h7,h8,h9,h10⟩:=h5
  ·exact .inl h5
  ·refine .inr ⟨h5,b,cs,rfl,by rw[hk i b (by unfold dB;rw[ho];exact⟨_,_,h4,h5,_,rfl⟩),h6],h7,h8,h9,λa ha k hk=>?_⟩;obtain⟨x,q1,q2,q3⟩:=h10 a ha k hk;exact⟨x,q1,q2,q3.dX hs hg.axy⟩
 ·obtain⟨b,jF,cl,h1,h2,h3⟩:=hg.axy.map _ _ ho;exact⟨b,jF,cl,h1,by rw[hk i b (by unfold dB;rw[ho];exact h1),h2],h3.dX hs hg.axy⟩
 ·have hlt:=hg.axy.lt (show dB G t.get i b from ho);obtain hf|hf:=hf
  ·exact hg.axy.xP i b ho hf
  ·omega
 ·obtain hf|hf:=hf
  ·exact sV (hg.axy.wF b hf) hb.size
  ·exact hf.2
def asl{v:V}{u:Value}(h:UZ v)(hv:aY G t.get w v u):u = .int .u8 ((Qi v).toNat:Int):=by
 obtain⟨b,rfl⟩:=h;have:u = .int .u8 (b.toNat:Int):=hv;rw[this];simp[Qi]
def ahC{n:Nat}{g:Nat->Nat->V}{A:Option Addr}{news:List Value}(hl:news.length=n*1)(hrd:Rd w w.heap.size A news)(hn:∀ j,j<n->∀ q,q<1->∃ x,news[j*1+q]?=some x/\x.oneCell'=true/\aY G t.get w (g j q) x)(hu:∀ j,j<n->UZ (g j 0)):Bs w w.heap.size A ((List.range n).map λj=>Qi (g j 0)):=λhpos=>by
 have hpos':0<n:=by simpa using hpos
 obtain⟨b,off,rfl,hb,hc⟩:=hrd qO;refine⟨b,off,rfl,hb,λi hi=>?_⟩;have hi':i<n:=by simpa using hi
 obtain⟨x,e1,_,e3⟩:=hn i hi' 0 qO;rw[Nat.mul_one,Nat.add_zero]at e1;rw[hc i qO,e1,asl (hu i hi') e3];simp[hi']
def avM(n:Nat)(e:TypeId)(hn:n<=1000000):n<=grownCap w n 0 e/\grownCap w n 0 e<=maxLen:=by
 unfold grownCap Question.cut maxLen;simp only;have:w.tape w.drawn (.appendCap n 0 e) % (2^63-n)<2^63-n:=Nat.mod_lt _ qO;omega
def aiX{Jf Je:Nat}{x:Operand}{vx:V}(hM:∀ p q,M p q->q/\(gd->p))(hgd:gd)(hg:bZ G t w)(ho:o.op = .convert Jf Je x)(hx:aY G t.get w vx (a.eval x))(h:IQ M Jf Je vx t K):fG o a G t w K:=by
 have val:∀ {v:Value} {V:V},(convert Jf Je (a.eval x)).run prog w = .ok v w->aY G t.get w V v->K V t->fG o a G t w K:=λ{v V} hrun hv hk=>by
  refine fG.val hg ?_ hv hk;unfold execOp;simp only[ho,Sem.run_bind,hrun,Result.andThen_ok,Sem.run_pure]
 unfold IQ at h;split at h
 ·rename_i h2 h1
  split at h
  ·rename_i k n k' n' hz
   have hx:a.eval x = .int k n:=hx;obtain⟨hk,hr⟩:=hM _ _ h;obtain⟨q,hq⟩:=UH h1;refine val (v:=.int k' n) (V:=.int k' n) ?_ rfl hk;rw[hx];simp[convert,run_underlying hq,run_underlying (ahK h2 hz),Conv.intToInt,NJ (hr hgd)]
  ·exact h.elim
 ·rename_i h2 h1
  split at h;rotate_left
  ·exact h.elim
  rename_i he
  have he:=dJ he;have hus:=qI h1;rw[he]at hus;have hs5:(tI 5).size=1:=rfl;split at h
  ·rename_i n z g
   split at h;rotate_left
   ·exact h.elim
   rename_i hz1
   have hz1:=dJ hz1;subst hz1;obtain⟨hk,hr⟩:=hM _ _ h;obtain⟨m,g',Ay,cy,news,⟨rfl,rfl⟩,hye,hl,hrd,hn⟩:=Tn (E:=5) (k:=λm g'=>m=n/\g'=λj k=>.d (g j k)) hg.axy qD hx (by unfold Gz;exact⟨rfl,rfl⟩);rw[hs5]at hl hn;refine val (V:=.str _) ?_ rfl hk;rw[hye];exact QE Jf Je 5 hus UF (IX h2) (by simp) (ahC hl hrd hn (hr hgd))
  ·obtain⟨A,hxe⟩:=hx;refine val (V:=.str _) ?_ rfl h;rw[hxe];exact QE Jf Je 5 hus UF (IX h2) rfl (Bs.nil (B:=0))
  ·rename_i i n
   split at h;rotate_left
   ·exact h.elim
   rename_i E z m g hob
   split at h;rotate_left
   ·exact h.elim
   rename_i hE
   have hE:=dJ hE;subst hE;obtain⟨hk,hr⟩:=hM _ _ h;obtain⟨uG,hr2⟩:=hr hgd;clear hr;subst uG;obtain⟨A,c,hr',hu',hu⟩:=id hx;obtain⟨q1,q2,q3,q4⟩:=rowOf (n:=0) hg.axy hob hr';rw[hs5]at q2;subst q2;obtain⟨m,g',Ay,cy,news,⟨rfl,rfl⟩,hye,hl,hrd,hn⟩:=Tn (E:=5) (k:=λm g'=>m=n/\g'=g) hg.axy qD hx (by unfold Gz;simp only[hob];exact ag.mk trivial ⟨trivial,trivial⟩);rw[hs5]at hl hn;refine val (V:=.str _) ?_ rfl hk;rw[hye];exact QE Jf Je 5 hus UF (IX h2) (by simp) (ahC hl hrd hn hr2)
  ·exact h.elim
 ·rename_i h2 h1
  split at h;rotate_left
  ·exact h.elim
  rename_i y he
  have he:=dJ he;have hud:=qI h2;rw[he]at hud;obtain⟨hsz,hk⟩:=h.h;have hx:a.eval x = .string y:=hx;have hrun:=Lib.run_convert_string_bytes (P:=prog) w Jf Je 5 y (IX h1) hud UF;have hb:Below w.heap.size w (Lib.bytesWorld w 5 y):=⟨rfl,rfl,rfl,by rw[Lib.bytesWorld_size];omega,λb hb=>Lib.bytesWorld_at_old w 5 y b hb⟩;obtain⟨lN,hs'⟩:=Nw hg hb;obtain⟨hc1,hc2⟩:=avM (w:=w) y.size 5 hsz;unfold fG Oper.wp Oper.upon execOp;simp only[ho,hx,Sem.run_bind,hrun,Result.andThen_ok,Sem.run_pure];refine⟨_,_,_,_,rfl,hk,lN,hs',_,_,rfl,hc1,hc2,(λe=>by cases e),λj hj k hk'=>?_⟩;obtain rfl:k=0:=qO;refine⟨w.heap.size,0,_,rfl,.inr ⟨bF _,by rw[Lib.bytesWorld_size];omega⟩,by rw[Lib.bytesWorld_size];omega,by rw[jq,Nat.mul_one,Nat.add_zero];exact Lib.bytesWorld_cell w 5 y j hj,rfl,rfl⟩
 ·exact h.elim
end
end
section
def Vf{t:Nat}(h:(tI t).k=4):prog.underlying t=some (.map (tI t).len (tI t).elem):=by
 obtain⟨d,h1,h2⟩:=DD t h qD;rw[h1];cases d <;> simp[wX,h]at h2;rw[h2.1,h2.2]
def ahm(l:List MapEntry):Prop:=∀ e∈l,∃ k,e.key = .int .i64 k
def WN{q:IntKind}{k:Int}:∀(l:List MapEntry) (i:Nat),ahm l->(∃ u,tJ l k=some u/\∃ j,Instr.findNow (.int q) (.int .i64 k) l i=some (some (i+j,u))/\(∃ e,l[j]?=some e/\e.key = .int .i64 k)/\∀ e j',j'<j->l[j']?=some e->e.key ≠ .int .i64 k)\/(tJ l k=none/\Instr.findNow (.int q) (.int .i64 k) l i=some none)
 |[],i,_=>.inr ⟨rfl,rfl⟩
 |e::r,i,hk=>by
  obtain⟨j,hj⟩:=hk e (by simp);have ih:=WN (q:=q) (k:=k) r (i+1) (λe he=>hk e (by simp[he]));unfold tJ Instr.findNow;rw[hj];simp only[Instr.sameNow,if_pos];by_cases hjk:j=k
  ·subst hjk;simp only[BEq.rfl,if_pos];exact .inl ⟨_,rfl,0,by simp,⟨e,rfl,hj⟩,λ_ _ h=>by omega⟩
  ·have h2:(k == j)=false:=by simpa using λe=>hjk e.symm
   simp only[h2,if_neg hjk];obtain⟨u,h1,j',h3,h4,h5⟩|ih:=ih
   ·refine .inl ⟨u,h1,j'+1,by rw[h3];congr 3;omega,by simpa using h4,λe' a ha hae=>?_⟩;cases a with
    |zero=>
     obtain rfl:e=e':=by simpa using hae
     rw[hj];intro h;injection h with _ h;exact hjk h
    |succ a=>exact h5 e' a qO (by simpa using hae)
   ·exact .inr ih
def abB{k:Int}{v:Value}:∀(l:List MapEntry) (j:Nat),ahm l->(∃ e,l[j]?=some e/\e.key = .int .i64 k)->(∀ e j',j'<j->l[j']?=some e->e.key ≠ .int .i64 k)->∀ m,tJ (l.modify j λe=>{ e with key:=.int .i64 k,val:=v }) m=if k=m then some v else tJ l m
 |[],j,_,⟨e,h,_⟩,_,m=>by simp at h
 |e::r,0,hk,⟨e',h1,h2⟩,_,m=>by
  obtain rfl:e=e':=by simpa using h1
  simp only[List.modify_zero_cons,tJ];split
  ·rfl
  ·rename_i hne
   rw[h2];simp only[if_neg hne]
 |e::r,j+1,hk,⟨e',h1,h2⟩,h3,m=>by
  simp only[List.modify_succ_cons,tJ];obtain⟨j0,hj0⟩:=hk e (by simp);rw[hj0];have ih:=abB (k:=k) (v:=v) r j (λe he=>hk e (by simp[he])) ⟨e',by simpa using h1,h2⟩ (λe j' h h'=>h3 e (j'+1) qO (by simpa using h')) m;have hne:j0≠k:=λh=>h3 e 0 qO rfl (by rw[hj0,h])
  by_cases hm:j0=m
  ·subst hm;simp[hne.symm]
  ·simp only[if_neg hm];exact ih
def WQ{k:Int}{v:Value}{b:Nat}:∀(l:List MapEntry),tJ l k=none->∀ m,tJ (l++[{ key:=.int .i64 k,val:=v,born:=b }]) m=if k=m then some v else tJ l m
 |[],_,m=>by simp[tJ]
 |e::r,h,m=>by
  simp only[List.cons_append,tJ]at h ⊢;split at h
  ·rename_i j hj
   split at h
   ·cases h
   ·rename_i hjk
    by_cases hm:j=m
    ·subst hm;rw[if_pos rfl,if_neg (λe=>hjk e.symm),if_pos rfl]
    ·rw[if_neg hm,if_neg hm];exact WQ r h m
  ·exact WQ r h m
section
variable {G:Gh} {w w':World} {t:ST} {s:AS} {o:Oper} {a:Act} {K:V->ST->Prop} {M:Prop->Prop->Prop} {gd:Prop}
def run_checkKey{t:Nat}(h:(tI t).k=5)(e:Bool)(k:Int):(Instr.checkKey e 10000 t (.int .i64 k)).run prog w = .ok () w:=by
 obtain⟨q,hq⟩:=UH h;rw[show(10000:Nat)=9999+1 from rfl,Instr.checkKey];simp[run_underlying hq]
def ako{t:Nat}(h:(tI t).ok=true):∃ z,(zeroValue t).run prog w = .ok z w/\aY G s.s.get w (zeroV t) z:=by
 obtain⟨i,z,hi,hr⟩:=HY (G:=G) (t:=s.s) (w:=w) h;refine⟨z,by simp[zeroValue,typeInfo,hi.h,hi.zero],?_⟩;unfold zeroV;split
 ·rename_i ha
  obtain⟨cs,rfl⟩:=hi.agg.2 ha;exact⟨cs,rfl,hi.CO,λk x hx=>hr k x hx⟩
 ·rename_i ha
  have hz:z.cells=#[z]:=by
   cases z
   case agg cs=>have:=hi.agg.1 ⟨cs,rfl⟩;rw[ha]at this;cases this
   case tuple vs=>exact ai rfl (hi.gQ vs)
   all_goals rfl
  exact(hr 0 z (by rw[hz];rfl)).2
def aiW{ty:Nat}(hg:bZ G t w)(ho:o.op = .makeMap ty none)(hk:K (.mp t.nx) (t.new (.map []))):fG o a G t w K:=by
 have hch:vG G t (t.new (.map [])) w (w.alloc (.map #[] 0)) t.nx (.Wp w.heap.size) (.map []):=TU hg ((Below.refl _ _).alloc (bF _) _) (λb h=>by injection h with h;omega);unfold fG Oper.wp Oper.upon;have hrun:(execOp a.eval o).run prog w = .ok (.value (.map (some w.heap.size))) (w.alloc (.map #[] 0)):=by
  unfold execOp;rw[ho];rfl
 rw[hrun];exact⟨_,.mp t.nx,_,_,rfl,hk,hch.Uk hg ⟨w.heap.size,#[],0,rfl,heap_alloc_new w _,by simp,λk=>rfl⟩,hch.dX,w.heap.size,if_pos rfl,rfl⟩
def aqE{es:List (Int×V)}{jF:Array MapEntry}{cl mt:Nat}{k:Int}{v:V}{u:Value}(h4:(tI mt).k=4)(h5:(tI (tI mt).len).k=5){b:Nat}(hb:w.heap[b]?=some (.map jF cl))(hm:uu G t.get w jF.toList es)(hv:aY G t.get w v u) :
  ∃ KX cl',(Instr.mapUpdate mt (.map (some b)) (.int .i64 k) u).run prog w = .ok () { w with heap:=w.heap.setIfInBounds b (.map KX cl') }/\uu G t.get w KX.toList ((k,v)::es):=by
 obtain⟨q,hq⟩:=UH h5;have fF:(Instr.keyThatStays (.int .i64 k) (.int .i64 k)).run prog w = .ok (.int .i64 k) w:=by
  simp[Instr.keyThatStays,Instr.sameBits]
 have hget:∀ m,dY ((k,v)::es) m=if k=m then some v else dY es m:=λm=>by
  show(bif decide (k=m) then some v else dY es m)=_;by_cases e:k=m <;> simp[e]
 obtain⟨u0,h1,j,h2,⟨e,h3,h3'⟩,hj⟩|⟨h1,h2⟩:=WN (q:=q) (k:=k) jF.toList 0 hm.1
 ·have he:jF[j]?=some e:=by simpa using h3
  have hf:(Instr.findKey (tI mt).len (.int .i64 k) jF.toList).run prog w = .ok (some (j,u0)) w:=by
   simp[Instr.findKey,run_underlying hq,h2]
  refine⟨jF.modify j λe=>{ e with key:=.int .i64 k,val:=u },cl,?_,?_,λm=>?_⟩
  ·simp[Instr.mapUpdate,run_underlying (Vf h4),MapKept.run_getObj_map hb,run_checkKey h5,hf,he,h3',fF,MapKept.run_setObj_map _ hb,Result.andThen]
  ·intro e' he';simp only[Array.toList_modify]at he';obtain⟨n,hn,hne⟩:=List.getElem_of_mem he';rw[List.getElem_modify]at hne;split at hne
   ·exact⟨k,by rw[<-hne]⟩
   ·exact hm.1 e' (by rw[<-hne];exact List.getElem_mem _)
  ·rw[hget,Array.toList_modify,abB jF.toList j hm.1 ⟨e,h3,h3'⟩ hj];by_cases e1:k=m
   ·rw[if_pos e1,if_pos e1];exact⟨u,rfl,hv⟩
   ·rw[if_neg e1,if_neg e1];exact hm.2 m
 ·have hf:(Instr.findKey (tI mt).len (.int .i64 k) jF.toList).run prog w = .ok none w:=by
   simp[Instr.findKey,run_underlying hq,h2]
  refine⟨jF.push { key:=.int .i64 k,val:=u,born:=cl },cl+1,?_,?_,λm=>?_⟩
  ·simp[Instr.mapUpdate,run_underlying (Vf h4),MapKept.run_getObj_map hb,run_checkKey h5,hf,MapKept.run_setObj_map _ hb,Result.andThen]
  ·intro e' he';simp only[Array.toList_push,List.mem_append,List.mem_singleton]at he';obtain he'|rfl:=he'
   ·exact hm.1 e' he'
   ·exact⟨k,rfl⟩
  ·rw[hget,Array.toList_push,WQ jF.toList h1];by_cases e1:k=m
   ·rw[if_pos e1,if_pos e1];exact⟨u,rfl,hv⟩
   ·rw[if_neg e1,if_neg e1];exact hm.2 m
def acf{mt:Nat}{m x y:Operand}{vm vx vy:V}(hg:bZ G t w)(ho:o.op = .insert mt m x y\/o.op = .mapUpdate mt m x y)(h1:aY G t.get w vm (a.eval m))(h2:aY G t.get w vx (a.eval x))(h3:aY G t.get w vy (a.eval y))(h:JW mt vm vx vy t λt'=>K .top t'):fG o a G t w K:=by
 unfold JW at h;split at h;rotate_left
 ·exact h.elim
 rename_i i k h4 h5
 split at h;rotate_left
 ·exact h.elim
 rename_i es hob
 rw[force_eq]at h;obtain⟨b,jF,cl,e1,e2,e3⟩:=hg.axy.map _ _ hob;obtain⟨b',q1,q2⟩:=h1;rw[e1]at q1;obtain rfl:b=b':=by injection q1 with q1;injection q1
 have h2:a.eval x = .int .i64 k:=h2;obtain⟨KX,cl',r1,r2⟩:=aqE (k:=k) h4 h5 e2 e3 h3;have hlt:=(Array.getElem?_eq_some_iff.1 e2).1;have hch:vG G t (t.set i (.map ((k,vy)::es))) w { w with heap:=w.heap.setIfInBounds b (.map KX cl') } i (.Wp b) (.map ((k,vy)::es)):=by
  refine⟨qU t i _,⟨bF _,?_⟩,rfl,rfl,rfl,by simp,λc hc hn=>?_,λc hc=>?_,λc hc=>?_,λA c hc=>?_⟩
  ·refine Nat.lt_of_not_le λhle=>?_
   have:=(hg.jZ i hle).2;rw[hob]at this;cases this
  ·have hne:b≠c:=λe=>hn (by unfold dB;rw[hob];exact e▸e1)
   simp[Array.getElem?_setIfInBounds_ne hne]
  ·have hc:Loc.Wp b=Loc.Wp c:=hc;injection hc with hc
   subst hc;exact .inl (by unfold dB;rw[hob];exact e1)
  ·rw[e1]at hc;exact fD hc
  ·rw[e1]at hc;cases hc
 have hs:=hch.dX;have hgood:=hch.axy hg ⟨b,KX,cl',rfl,by simp[hlt],r2.to λm=>by
  cases dY ((k,vy)::es) m
  ·trivial
  ·exact λu hu=>hu.dX hs hg.axy⟩ λn hn=>(hg.jZ n hn).1
 unfold fG Oper.wp Oper.upon;have hrun:(execOp a.eval o).run prog w = .ok .skip { w with heap:=w.heap.setIfInBounds b (.map KX cl') }:=by
  unfold execOp;obtain ho|ho:=ho <;> rw[ho] <;> simp only[q2,h2,Sem.run_bind,r1,Result.andThen_ok,Sem.run_pure]
 rw[hrun];exact⟨undef,.top,_,_,rfl,h,hgood,hs,trivial⟩
def VK(ok:Bool)(zu:Value)(fo:Option Value):Value:=match ok with|true=>.tuple #[fo.getD zu,.bool fo.isSome]|false=>fo.getD zu
def ad9 {z : V} {zu : Value} {k : Int} {ok : Bool} {P : V -> Prop} {fo : Option Value} (hz : aY G s.s.get w z zu) : ∀ (es : List (Int × V)), (match dY es k with | some v => ∃ u, fo = some u /\ aY G s.s.get w v u | none => fo = none) -> KU z k ok P es -> ∃ R, P R /\ aY G s.s.get w R (VK ok zu fo)
  | [], h, hk => by
    have h : fo = none := h;subst h;refine ⟨_, hk, ?_⟩;cases ok
    · exact hz
    · exact ⟨_, rfl, rfl, λi x hx => by
        match i, hx with
        | 0, hx => obtain rfl : zu = x := by simpa using hx
                   exact hz
        | 1, hx => obtain rfl : Value.bool false = x := by simpa using hx
                   rfl
        | i + 2, hx => simp at hx⟩
  | (j, v) :: r, h, hk => by
    have hk : aj (decide (j = k)) (P (okV ok v true)) (KU z k ok P r) := hk;by_cases e : j = k
    · have h : match (bif decide (j = k) then some v else dY r k) with | some v => ∃ u, fo = some u /\ aY G s.s.get w v u | none => fo = none := h
      rw [aX e, dw] at h;obtain ⟨u, rfl, hv⟩ := h;refine ⟨_, hk.h.1 (aX e), ?_⟩;cases ok
      · exact hv
      · exact ⟨_, rfl, rfl, λi x hx => by
          match i, hx with
          | 0, hx => obtain rfl : u = x := by simpa using hx
                     exact hv
          | 1, hx => obtain rfl : Value.bool true = x := by simpa using hx
                     rfl
          | i + 2, hx => simp at hx⟩
    · refine ad9 hz r ?_ (hk.h.2 (aT e));have h : match (bif decide (j = k) then some v else dY r k) with | some v => ∃ u, fo = some u /\ aY G s.s.get w v u | none => fo = none := h
      rw [aT e, bz] at h;exact h
attribute [local irreducible] tI in
def aiQ{mt:Nat}{vm vx:V}{um ux:Value}{ok:Bool}{P:V->Prop}(hM:∀ p q,M p q->q/\(gd->p))(hgd:gd)(hg:Good G s.s.get w)(h1:aY G s.s.get w vm um)(h2:aY G s.s.get w vx ux)(h:N9 M mt vm vx ok s.s P):∃ r R,(Instr.lookup mt um ux ok).run prog w = .ok r w/\P R/\aY G s.s.get w R r:=by
 unfold N9 at h;split at h;rotate_left
 ·exact h.elim
 rename_i i k h4 h5 hok
 split at h;rotate_left
 ·exact h.elim
 rename_i es hob
 obtain⟨b,jF,cl,e1,e2,e3⟩:=hg.map _ _ hob;obtain⟨b',q1,q2⟩:=h1;rw[e1]at q1;obtain rfl:b=b':=by injection q1 with q1;injection q1
 have h2:ux = .int .i64 k:=h2;subst q2 h2;obtain⟨q,hq⟩:=UH h5;obtain⟨zu,hz1,hz2⟩:=ako (G:=G) (s:=s) (w:=w) hok;have hrun:(Instr.lookup mt (.map (some b)) (.int .i64 k) ok).run prog w = .ok (VK ok zu (tJ jF.toList k)) w:=by
  obtain⟨u0,p1,j,p2,_⟩|⟨p1,p2⟩:=WN (q:=q) (k:=k) jF.toList 0 e3.1
  ·have hf:(Instr.findKey (tI mt).len (.int .i64 k) jF.toList).run prog w = .ok (some (0+j,u0)) w:=by
    simp only[Instr.findKey,run_underlying hq,p2,Sem.run_bind,Result.andThen_ok,Sem.run_pure]
   cases ok <;> simp[VK,Instr.lookup,run_underlying (Vf h4),MapKept.run_getObj_map e2,run_checkKey h5,hf,p1,Result.andThen]
  ·have hf:(Instr.findKey (tI mt).len (.int .i64 k) jF.toList).run prog w = .ok none w:=by
    simp only[Instr.findKey,run_underlying hq,p2,Sem.run_bind,Result.andThen_ok,Sem.run_pure]
   cases ok <;> simp[VK,Instr.lookup,run_underlying (Vf h4),MapKept.run_getObj_map e2,run_checkKey h5,hf,p1,hz1,Result.andThen]
 have hget:=e3.2 k;split at h
 ·rename_i _ hz0 hk0
  obtain⟨hP,hint⟩:=hM _ _ h;refine⟨_,_,hrun,hP,?_⟩;have hint:=hint hgd;rcases hm:dY es k with _|v <;> rw[hm]at hget hint
  ·have hget:tJ jF.toList k=none:=hget;rw[hget];have:zeroV (tI mt).elem = .i 0:=by
    unfold zeroV iM uC.agg;rw[hk0,hz0];rfl
   rw[this]at hz2;exact hz2
  ·obtain⟨u,p1,p2⟩:=hget;rw[p1];obtain⟨n,rfl⟩:=hint v rfl;exact p2
 ·obtain⟨R,p1,p2⟩:=ad9 (fo:=tJ jF.toList k) hz2 es hget h;exact⟨_,R,hrun,p1,p2⟩
end
end
section
section
variable {G:Gh} {w w':World} {t:ST} {s:AS} {o:Oper} {a:Act} {K:V->ST->Prop} {M:Prop->Prop->Prop} {gd:Prop}
def V7{k:Nat}(h:xy k)(args:Array Value):(callFunc k args).run prog w = .ok (.enter k args) w:=by
 unfold xy at h;unfold callFunc;rcases hf:prog.funcs[k]? with _|fn
 ·rw[hf]at h;cases h
 ·rw[hf]at h;simp only[qg,Option.some.injEq,qf,nY]at h;obtain⟨h1,h2⟩:=h;have h2':¬fn.name = "runtime.NumGoroutine":=by simpa using h2
  simp[hf,h2',Option.isNone_iff_eq_none,Option.isSome_iff_ne_none.1 h1,Result.andThen]
def aiE{t f off ft:Nat}(hk:(tI t).k=1)(hf:(tI t).EJ[f]?=some (off,ft))(hok:(tI ft).ok=true)(hpos:0<(tI ft).size)(ad:Addr) :
  (Instr.fieldAt t (.pointer (some ad)) f).run prog w = .ok (.pointer (some (ad.add off))) w:=by
 obtain⟨fs,x,h1,h2,h3,h4⟩:=ZI hk hf;have hz:(sizeOf x.type).run prog w = .ok (tI ft).size w:=by rw[h4];exact qB hok
 have hp:(tI ft).size≠0:=qO;unfold Instr.fieldAt;simp[run_underlying h1,h2,Instr.sureAddr,fieldPlace,hz,hp,Result.andThen,h3]
def abp (n:Nat) (g:Nat->V) (k:Nat) (v:V) (h:(yI n g)[k]?=some v):k<n/\v=g k:=by
 unfold yI at h;rw[qQ]at h;by_cases hk:k<n
 ·rw[List.getElem?_range hk]at h;exact⟨hk,(fD h).symm⟩
 ·rw[List.getElem?_eq_none (by simpa using hk)]at h;cases h
def adK{c:Call}{f:Operand}(hg:bZ G s.s w)(hs:oZ G s a w)(ho:o.op = .call c)(hc:c.callee = .value f){k nf n:Nat}{g:Nat->V}(hf:s.ev f = .fn k nf n g)(h:af k ((yI nf g)++(c.args.toList.map s.ev)++((yI n g).drop nf)) s.s K):fG o a G s.s w K:=by
 have hv:=hs.ev f;rw[hf]at hv;obtain⟨fs,cs,hu,h1,h2,h3⟩:=hv;have hrun:(execOp a.eval o).run prog w = .ok (.enter k (fs++c.args.map a.eval++cs)) w:=by
  unfold execOp;simp only[ho,resolve,hc,hu,Deferred.ofValue,Sem.run_bind,Sem.run_pure,Result.andThen_ok,invoke,V7 h.1]
 unfold fG Oper.wp Oper.upon;rw[hrun];have hcl:=h.2 G w (fs++c.args.map a.eval++cs).toList hg (by
  simp only[Array.toList_append,Array.toList_map,bP,lZ,eY,rO,yI,List.length_range];omega) (λi v u hv hu=>?_)
 ·rw[show(fs++c.args.map a.eval++cs).toList.toArray=fs++c.args.map a.eval++cs from by simp]at hcl;refine hcl.mono λe w' hh=>?_
  obtain⟨v,V,t',G',rfl,hk,hrest⟩:=hh;exact⟨v,V,t',G',rfl,hk,hrest⟩
 ·simp only[Array.toList_append,Array.toList_map]at hu;have hla:(yI nf g).length=nf:=by simp[yI]
  by_cases hi:i<nf
  ·rw[jV,lS qO]at hv;rw[jV,lS (by simp;omega)]at hu;obtain⟨_,rfl⟩:=abp _ _ _ _ hv;exact h3 i u (by rw[Array.getElem?_append_left qO];simpa using hu)
  ·rw[jV,oP qO,hla]at hv;rw[jV,oP (by simp;omega),rO,h1]at hu;by_cases hj:i-nf<c.args.toList.length
   ·rw[lS (by simpa using hj),qQ]at hv hu;rw[dV hj]at hv hu;simp only[qg,Option.some.injEq]at hv hu;subst hv hu;exact hs.ev _
   ·rw[oP (by rw[lZ];omega),lZ]at hv hu;rw[rP]at hv;obtain⟨hlt,rfl⟩:=abp _ _ _ _ hv;refine h3 _ u ?_;rw[Array.getElem?_append_right qO,h1,<-hu];simp
def YM(hs:oZ G s a w)(x:Option Operand):KG G s.s w (yL s x) (x.map a.eval):=by
 cases x with
 |none=>trivial
 |some x=>exact hs.ev x
attribute [local irreducible] tI in
def Tz(hM:∀ p q,M p q->q/\(gd->p))(hgd:gd)(hg:bZ G s.s w)(hs:oZ G s a w)(h:dF M af o.op s K):fG o a G s.s w K:=by
 have one:∀ {q:Sem Value} {P:V->Prop},(execOp a.eval o)=(do pure (.value (<-q)))->(∃ r R,q.run prog w = .ok r w/\P R/\aY G s.s.get w R r)->(∀ R,P R->K R s.s)->fG o a G s.s w K:=λ{q P} hq hh hK=>by
  obtain⟨r,R,h1,h2,h3⟩:=hh;refine fG.val hg ?_ h3 (hK R h2);rw[hq];simp only[Sem.run_bind,h1,Result.andThen_ok,Sem.run_pure]
 obtain⟨dst,op,ty,pos,after,guard⟩:=o;cases op
 case move x=>exact fG.val hg (V:=s.ev x) rfl (hs.ev x) h
 case assign x=>exact fG.val hg (V:=s.ev x) rfl (hs.ev x) h
 case pick c x y=>
  have h:dF M af (.pick c x y) s K:=h;simp only[dF]at h;have hc:=hs.ev c;have hx:=hs.ev x;have hy:=hs.ev y;split at h;rotate_left
  ·exact h.elim
  rename_i t ht
  rw[ht]at hc;have hc:a.eval c = .bool t:=hc;have hrun:(execOp a.eval ⟨dst,.pick c x y,ty,pos,after,guard⟩).run prog w = .ok (.value (if t=true then a.eval x else a.eval y)) w:=by
   simp[execOp,hc,asBool]
  split at h
  ·rename_i p q e1 e2
   rw[e1]at hx;rw[e2]at hy;refine fG.val (V:=.b (cond t p q)) hg hrun ?_ h;have hx:a.eval x = .bool p:=hx;have hy:a.eval y = .bool q:=hy;rw[hx,hy];cases t <;> rfl
  ·rename_i p t' w' q e1 e2
   rw[e1]at hx;rw[e2]at hy;obtain⟨h1,h2⟩:=hM _ _ h;refine fG.val (V:=.b (cond t p q)) hg hrun ?_ h1;have hx:a.eval x = .bool p:=hx;cases t
   ·have hy:a.eval y = .bool q:=hy.1 (h2 hgd rfl);rw[hy];rfl
   ·rw[hx];rfl
  ·rename_i t' w' p q e1 e2
   rw[e1]at hx;rw[e2]at hy;obtain⟨h1,h2⟩:=hM _ _ h;refine fG.val (V:=.b (cond t p q)) hg hrun ?_ h1;have hy:a.eval y = .bool q:=hy;cases t
   ·rw[hy];rfl
   ·have hx:a.eval x = .bool p:=hx.1 (h2 hgd rfl);rw[hx];rfl
  ·cases t
   ·exact fG.val (V:=s.ev y) hg hrun hy (h.h.2 rfl)
   ·exact fG.val (V:=s.ev x) hg hrun hx (h.h.1 rfl)
 case alloc t=>
  have h:dF M af (.alloc t) s K:=h;simp only[dF]at h;split at h
  ·exact akB hg rfl ‹_› h
  ·exact h.elim
 case box t x=>exact apM hg rfl (hs.ev x) h
 case build t ps=>
  have h:dF M af (.build t ps) s K:=h;simp only[dF]at h;split at h
  ·exact akA hg hs rfl ‹_› ‹_› h
  ·exact h.elim
 case buildSlice t n ps=>
  have h:dF M af (.buildSlice t n ps) s K:=h;simp only[dF]at h;split at h
  ·exact ais hg hs rfl ‹_› ‹_› h
  ·exact h.elim
 case load t x=>exact one rfl (acN (K:=λv=>K v s.s) hM hgd hg.axy (hs.ev x) h) λ_ h=>h
 case store t x v=>exact aky hg rfl (hs.ev x) (hs.ev v) h
 case nilCheck x=>
  have h:dF M af (.nilCheck x) s K:=h;simp only[dF]at h;have hx:=hs.ev x;have hrun:∀ ad,a.eval x = .pointer (some ad)->(execOp a.eval ⟨dst,.nilCheck x,ty,pos,after,guard⟩).run prog w = .ok (.value (.pointer (some ad))) w:=λad e=>by simp[execOp,e]
  split at h
  ·rename_i e
   rw[e]at hx;obtain⟨b,h1,h2⟩:=id hx;exact fG.val hg (hrun _ h2) (by rw[h2]at hx;exact hx) h
  ·rename_i e
   rw[e]at hx;obtain⟨b,off,h2,_⟩:=id hx;exact fG.val hg (hrun _ h2) (by rw[h2]at hx;exact hx) h
  ·rename_i e
   rw[e]at hx;obtain⟨A,cc,h1,⟨ad,h2⟩,_⟩:=id hx;exact fG.val hg (hrun _ h2) (by rw[h2]at hx;exact hx) h
  ·exact h.elim
 case binOp op t x y t2=>
  refine one (P:=λv=>K v s.s) rfl ?_ λ_ h=>h
  refine amb (gd:=gd) hM hgd (hs.ev x) ?_ h;cases y with
  |const v=>rfl
  |tmp t=>exact hs.ev (.tmp t)
  |global g=>exact hs.ev (.global g)
  |func f=>exact hs.ev (.func f)
 case unOp op t x=>
  have h:dF M af (.unOp op t x) s K:=h;cases op
  case not=>
   simp only[dF]at h;have hx:=hs.ev x;split at h
   ·rename_i p e
    rw[e]at hx;have hx:a.eval x = .bool p:=hx;refine fG.val (V:=.b (!p)) hg ?_ rfl h;simp[execOp,hx,Op.unary]
   ·exact h.elim
  all_goals(simp only[dF]at h)
 case convert x y z=>exact aiX hM hgd hg rfl (hs.ev z) h
 case makeFunc fn first mD=>
  have h:dF M af (.makeFunc fn first mD) s K:=h;cases fn
  case func f=>
   simp only[dF]at h;refine fG.val (V:=.fn _ first.size (first.size+mD.size) _) hg rfl ⟨first.map a.eval,mD.map a.eval,rfl,by simp,by simp,λk x hx=>?_⟩ h;unfold ahA;rw[<-Array.map_append,Array.getElem?_map]at hx;rcases he:(first++mD)[k]? with _|y
   ·rw[he]at hx;cases hx
   ·rw[he]at hx;simp only[qg,Option.some.injEq]at hx;subst hx;have:((first.toList++mD.toList).map s.ev).getD k .top=s.ev y:=by
     rw[bn,qQ,<-Array.toList_append,qP,he];rfl
    rw[this];exact hs.ev y
  all_goals(simp only[dF]at h)
 case makeMap t r=>
  have h:dF M af (.makeMap t r) s K:=h;cases r <;> simp only[dF]at h;exact aiW hg rfl h
 case insert t m x v=>exact acf hg (.inl rfl) (hs.ev m) (hs.ev x) (hs.ev v) h
 case mapUpdate t m x v=>exact acf hg (.inr rfl) (hs.ev m) (hs.ev x) (hs.ev v) h
 case lookup t m x ok=>exact one rfl (aiQ (P:=λv=>K v s.s) hM hgd hg.axy (hs.ev m) (hs.ev x) h) λ_ h=>h
 case makeSlice t x y=>
  have h:dF M af (.makeSlice t x y) s K:=h;simp only[dF]at h;split at h
  ·rename_i h1 h2 hby h3 h4
   have hx:=hs.ev x;have hy:=hs.ev y;rw[h3]at hx;rw[h4]at hy;exact aiw hg rfl h1 h2 (mX hby) hx hy h
  ·exact h.elim
 case slice t x lo hi mx=>exact one rfl (ajn (K:=λv=>K v s.s) hM hgd hg.axy (hs.ev x) (YM hs lo) (YM hs hi) (YM hs mx) h) λ_ h=>h
 case fieldAddr t x f=>
  have h:dF M af (.fieldAddr t x f) s K:=h;simp only[dF,CV]at h;have hx:=hs.ev x;have hrun:∀ b o off ft,(tI t).k=1->(tI t).EJ[f]?=some (off,ft)->((tI ft).ok&&Nat.blt 0 (tI ft).size)=true->a.eval x = .pointer (some ⟨b,o,none⟩)->(execOp a.eval ⟨dst,.fieldAddr t x f,ty,pos,after,guard⟩).run prog w = .ok (.value (.pointer (some ⟨b,o+off,none⟩))) w:=λb o off ft h1 h2 h3 e=>by
   have:=aiS (w:=w) h1 h2 (kZ h3).1 (mX (kZ h3).2) b o;simp only[execOp,e,Sem.run_bind,this,Result.andThen_ok,Sem.run_pure]
  split at h
  ·rename_i off ft h1 h2
   split at h
   ·rename_i h3
    split at h
    ·rename_i i o e
     rw[e]at hx;obtain⟨b,q1,q2⟩:=hx;exact fG.val (V:=.ptr i (o+off)) hg (hrun _ _ _ _ h1 h2 h3 q2) ⟨b,q1,rfl⟩ h
    ·rename_i n g e
     rw[e]at hx;obtain⟨b,o,q1,q2,q3⟩:=hx;obtain⟨hk,hle⟩:=hM _ _ h;have hle:=hle hgd;refine fG.val (V:=.dp (n-off) (λk=>g (off+k))) hg (hrun _ _ _ _ h1 h2 h3 q1) ⟨b,o+off,rfl,λhp=>q2 qO,λk hk=>?_⟩ hk;rw[Nat.add_assoc];exact q3 (off+k) qO
    ·rename_i i n j c e
     rw[e]at hx;obtain⟨A,cc,q1,⟨ad,q2⟩,q3⟩:=hx;have hr:=aiE (w:=w) h1 h2 (kZ h3).1 (mX (kZ h3).2) ad;refine fG.val (V:=.rp i n j (c+off)) (v:=.pointer (some (ad.add off))) hg ?_ ⟨A,cc,q1,⟨_,rfl⟩,λE s' m g ho=>⟨(q3 E s' m g ho).1,λuG=>?_⟩⟩ h
     ·simp only[execOp,q2,Sem.run_bind,hr,Result.andThen_ok,Sem.run_pure]
     ·obtain⟨b,e1,e2⟩:=(q3 E s' m g ho).2 uG;rw[q2]at e2;injection e2 with e2
      injection e2 with e2
      subst e2;exact⟨b,e1,by rw[uB,Nat.add_assoc]⟩
    ·exact h.elim
   ·exact h.elim
  ·exact h.elim
 case field t x f=>
  have h:dF M af (.field t x f) s K:=h;simp only[dF,CV]at h;have hx:=hs.ev x;split at h
  ·rename_i off ft h1 h2
   split at h
   ·rename_i h3
    split at h
    ·rename_i n g e hok
     rw[e]at hx;obtain⟨cs,q1,q2,q3⟩:=hx;obtain⟨fs,y,p1,p2,p3,p4⟩:=ZI h1 h2;have hz:=qB (w:=w) hok;have ha:=Xf (w:=w) hok;split at h
     ·rename_i hag
      obtain⟨hk,hle⟩:=hM _ _ h;have hle:=hle hgd;rw[hag]at ha;refine fG.val (V:=.agg (tI ft).size (λk=>g (off+k))) (v:=.agg (cs.extract off (off+(tI ft).size))) hg ?_ ⟨_,rfl,by simp;omega,λk x' hx'=>?_⟩ hk
      ·simp[execOp,q1,Instr.field,run_underlying p1,p2,p3,p4,asAgg,part,ha,hz,Result.andThen]
      ·rw[Array.getElem?_extract]at hx';split at hx'
       ·exact q3 _ _ hx'
       ·cases hx'
     ·rename_i hag
      obtain⟨hk,hle⟩:=hM _ _ h;have hle:=hle hgd;rw[hag]at ha;have hc:=vI (xs:=cs) (i:=off) qO;refine fG.val (V:=g off) hg ?_ (q3 _ _ hc).2 hk;simp[execOp,q1,Instr.field,run_underlying p1,p2,p3,p4,asAgg,part,ha,hc,Result.andThen]
    ·exact h.elim
   ·exact h.elim
  ·exact h.elim
 case indexAddr t x i=>exact one rfl (ajo (K:=λv=>K v s.s) hM hgd hg.axy (hs.ev x) (hs.ev i) h) λ_ h=>h
 case extract x i=>
  have h:dF M af (.extract x i) s K:=h;simp only[dF]at h;have hx:=hs.ev x;split at h
  ·rename_i n g e
   rw[e]at hx;obtain⟨cs,q1,q2,q3⟩:=hx;obtain⟨hk,hlt⟩:=hM _ _ h;have hc:=vI (xs:=cs) (i:=i) (by have:=hlt hgd;omega);refine fG.val (V:=g i) hg ?_ (q3 _ _ hc) hk;simp[execOp,q1,Instr.extract,hc]
  ·exact h.elim
 case call c=>
  have h:dF M af (.call c) s K:=h;simp only[dF]at h;split at h
  ·rename_i f hcf
   split at h
   ·rename_i hf
    exact adK hg hs rfl hcf hf h
   ·exact h.elim
  ·rename_i hcf
   split at h
   ·rename_i x t ha ht
    obtain⟨callee,args,ats⟩:=c;obtain⟨args⟩:=args;obtain⟨ats⟩:=ats;simp only at hcf ha ht;subst hcf ha ht;obtain⟨r,R,h1,h2,h3⟩:=ama (ty:=ty) (K:=λv=>K v s.s) hg.axy (hs.ev x) h;refine fG.val hg ?_ h3 h2;unfold execOp;simp only[resolve,invoke,builtin,Sem.run_bind,Sem.run_pure,Result.andThen_ok];simp only[List.map_toArray,List.map_cons,List.map_nil,h1,Result.andThen_ok]
   ·exact h.elim
  ·rename_i hcf
   split at h
   ·rename_i x y t t' ha ht
    split at h
    ·rename_i htt
     obtain⟨callee,args,ats⟩:=c;obtain⟨args⟩:=args;obtain⟨ats⟩:=ats;simp only at hcf ha ht;subst hcf ha ht;have htt:=dJ htt;subst htt
     rename_i h' _ _ _ _
     exact ajt hg rfl (hs.ev x) (hs.ev y) (by assumption)
    ·exact h.elim
   ·exact h.elim
  ·rename_i hcf
   split at h
   ·rename_i x y t t' ha ht
    split at h
    ·rename_i htt
     obtain⟨callee,args,ats⟩:=c;obtain⟨args⟩:=args;obtain⟨ats⟩:=ats;simp only at hcf ha ht;subst hcf ha ht;have htt:=dJ htt;subst htt;exact amm hg rfl (hs.ev x) (hs.ev y) (by assumption)
    ·exact h.elim
   ·exact h.elim
  ·rename_i hcf
   split at h
   ·rename_i x t ha ht
    obtain⟨callee,args,ats⟩:=c;obtain⟨args⟩:=args;obtain⟨ats⟩:=ats;simp only at hcf ha ht;subst hcf ha ht;exact akz hg rfl (hs.ev x) h
   ·exact h.elim
  ·rename_i hcf
   split at h
   ·rename_i x y ha
    split at h
    ·rename_i k p k' q e1 e2
     split at h
     ·rename_i fF
      have fF:=fU fF;subst fF;obtain⟨callee,args,ats⟩:=c;obtain⟨args⟩:=args;simp only at hcf ha;subst hcf ha;have hx:=hs.ev x;have hy:=hs.ev y;rw[e1]at hx;rw[e2]at hy;have hx:a.eval x = .int k p:=hx;have hy:a.eval y = .int k q:=hy;refine fG.val (V:=.int k (min p q)) (v:=.int k (min p q)) hg ?_ rfl (by assumption);unfold execOp;simp only[resolve,invoke,builtin,Sem.run_bind,Sem.run_pure,Result.andThen_ok];have e:(if q<p then q else p)=min p q:=by rw[Int.min_def];split <;> split <;> omega
      simp[Builtin.min_,Builtin.min2,hx,hy,e]
     ·exact h.elim
    ·exact h.elim
   ·exact h.elim
  ·rename_i hcf
   split at h
   ·rename_i x y ha
    split at h
    ·rename_i k p k' q e1 e2
     split at h
     ·rename_i fF
      have fF:=fU fF;subst fF;obtain⟨callee,args,ats⟩:=c;obtain⟨args⟩:=args;simp only at hcf ha;subst hcf ha;have hx:=hs.ev x;have hy:=hs.ev y;rw[e1]at hx;rw[e2]at hy;have hx:a.eval x = .int k p:=hx;have hy:a.eval y = .int k q:=hy;refine fG.val (V:=.int k (max p q)) (v:=.int k (max p q)) hg ?_ rfl (by assumption);unfold execOp;simp only[resolve,invoke,builtin,Sem.run_bind,Sem.run_pure,Result.andThen_ok];have e:(if p<q then q else p)=max p q:=by rw[Int.max_def];split <;> split <;> omega
      simp[Builtin.max_,Builtin.max2,hx,hy,e]
     ·exact h.elim
    ·exact h.elim
   ·exact h.elim
  ·exact h.elim
 all_goals(exfalso;revert h;simp only[dF];exact λh=>h)
end
end
section
structure Cx (t:ST) where
 G:Gh
 w:World
 hg:bZ G t w
 ds:List Deferred
structure V4 (ds:List Deferred) (G:Gh) (s:AS) (a:Act) (w:World):Prop extends oZ G s a w where
 df:a.defers=ds
def Cx.t{t:ST}(X:Cx t):ST:=t
def Mod{t0:ST}(X:Cx t0)(s:AS)(a:Act)(w:World):Prop:=∃ G,bZ G s.s w/\V4 X.ds G s a w/\Stp X.G X.t.get X.w G s.s.get w
def am0{s:AS}{d:Option Nat}{v:V}{t:ST}{j:Nat}:dD (s.put d v t).sl j=if d=some j then v else dD s.sl j:=by
 cases d with
 |none=>rw[if_neg (by intro e;cases e)];rfl
 |some k=>
  show(bif Nat.beq k j then v else dD s.sl j)=_;rcases h:Nat.beq k j with _|_
  ·rw[if_neg (λe=>by injection e with e;subst e;simp at h)];rfl
  ·rw[if_pos (by rw[dJ h])];rfl
section
variable {t0:ST} {X:Cx t0} {G:Gh} {w w':World} {t:ST} {s:AS} {o:Oper} {a:Act} {K:V->ST->Prop}
def aki{G':Gh}{t':ST}{d:Option Nat}{v:Value}{x:V}(hs:oZ G s a w)(hg:Good G s.s.get w)(hst:Stp G s.s.get w G' t'.get w')(hf:s.fits d=true)(hv:aY G' t'.get w' x v):oZ G' (s.put d x t') (a.put d v) w':=by
 refine⟨?_,λj=>?_⟩
 ·cases d <;> simp[Act.put,AS.put,hs.nt]
 ·rw[am0];have hold:aY G' t'.get w' (dD s.sl j) (a.tmps.getD j undef):=(hs.sl j).dX hst hg;have e:(s.put d x t').s=t':=by cases d <;> rfl
  rw[e];cases d with
  |none=>rw[if_neg (by intro e;cases e)];exact hold
  |some k=>
   have hk:k<a.tmps.size:=by rw[hs.nt];exact mX hf
   by_cases hkj:k=j
   ·subst hkj;rw[if_pos rfl];simp only[Act.put];rw[uJ,Array.getElem?_setIfInBounds,if_pos rfl,if_pos hk];exact hv
   ·rw[if_neg (by intro e;injection e with e;exact hkj e)];simp only[Act.put];rw[uJ,Array.getElem?_setIfInBounds,if_neg hkj,<-uJ];exact hold
def N8{G':Gh}{t':ST}{d:Option Nat}{v:Value}{x:V}(hx:Stp X.G X.t.get X.w G s.s.get w)(hs:V4 X.ds G s a w)(hg:Good G s.s.get w)(lN:bZ G' t' w')(hst:Stp G s.s.get w G' t'.get w')(hf:s.fits d=true)(hv:aY G' t'.get w' x v):Mod X (s.put d x t') (a.put d v) w':=by
 have e:(s.put d x t').s=t':=by cases d <;> rfl
 exact⟨G',by rw[e];exact lN,⟨aki hs.tooZ hg hst hf hv,by cases d <;> simp[Act.put,hs.df]⟩,by rw[e];exact hx.trans hst⟩
def fG.step(hx:Stp X.G X.t.get X.w G s.s.get w)(hs:V4 X.ds G s a w)(hg:bZ G s.s w)(hf:s.fits o.dst=true)(h:fG o a G s.s w K):o.wp prog a w (λa' w'=>∃ x t',K x t'/\Mod X (s.put o.dst x t') a' w') (λ_ _ _=>False):=by
 unfold fG at h;unfold Oper.wp Oper.upon at *;have fin:∀ a' w',(∃ v V t' G',a'=a.put o.dst v/\K V t'/\bZ G' t' w'/\Stp G s.s.get w G' t'.get w'/\aY G' t'.get w' V v)->∃ x t',K x t'/\Mod X (s.put o.dst x t') a' w':=by
  rintro a' w' ⟨v,V,t',G',rfl,hk,lN,hst,hv⟩;exact⟨V,t',hk,N8 hx hs hg.axy lN hst hf hv⟩
 split at h
 ·exact fin _ _ h
 ·exact fin _ _ h
 ·exact fin _ _ h
 ·refine h.mono λe w' hh=>?_
  obtain x|x|x:=e
  ·exact fin _ _ hh
  ·exact hh
  ·exact hh
 ·exact h.mono λv w' hh=>fin _ _ hh
 ·exact h
 ·exact h
def Ua:V->V
 |.kQ _ _ v=>v
 |v=>v
def ajB(s:AS)(j:Nat):dD (strip s).sl j=Ua (dD s.sl j):=by
 unfold strip;simp only;generalize s.sl=l;induction l with
 |nil=>rfl
 |cons p l ih=>
  obtain⟨k,v⟩:=p;show(bif Nat.beq k j then _ else dD _ j)=Ua (bif Nat.beq k j then v else dD l j);cases Nat.beq k j
  ·exact ih
  ·cases v <;> rfl
def only(s:AS)(l:List Operand):AS:=⟨s.nt,l.filterMap (fun|.tmp t=>some (t,dD s.sl t)|_=>none),s.s⟩
def ak4(s:AS)(l:List Operand)(j:Nat):dD (only s l).sl j = .top\/(.tmp j∈l/\dD (only s l).sl j=dD s.sl j):=by
 unfold only;simp only;induction l with
 |nil=>exact .inl rfl
 |cons x l ih=>
  cases x with
  |tmp t=>
   rw[List.filterMap_cons_some (by rfl)];show(bif Nat.beq t j then _ else dD _ j)=_\/(_/\(bif Nat.beq t j then _ else dD _ j)=_);rcases h:Nat.beq t j with _|_
   ·obtain ih|⟨ih1,ih2⟩:=ih
    ·exact .inl ih
    ·exact .inr ⟨jA _ ih1,ih2⟩
   ·have:=dJ h;subst this;exact .inr ⟨jL,rfl⟩
  |const v=>
   rw[List.filterMap_cons_none (by rfl)];exact ih.imp id λh=>⟨jA _ h.1,h.2⟩
  |global v=>
   rw[List.filterMap_cons_none (by rfl)];exact ih.imp id λh=>⟨jA _ h.1,h.2⟩
  |func v=>
   rw[List.filterMap_cons_none (by rfl)];exact ih.imp id λh=>⟨jA _ h.1,h.2⟩
def amL(s:AS)(l:List Operand)(t:Nat)(h : .tmp t∈l):dD (only s l).sl t=dD s.sl t:=by
 unfold only;simp only;induction l with
 |nil=>cases h
 |cons x l ih=>
  have go : .tmp t∈l->dD (l.filterMap (fun|.tmp t=>some (t,dD s.sl t)|_=>none)) t=dD s.sl t:=ih;cases x with
  |tmp t'=>
   rw[List.filterMap_cons_some (by rfl)];show(bif Nat.beq t' t then _ else dD _ t)=_;rcases h':Nat.beq t' t with _|_
   ·obtain e|e:=List.mem_cons.1 h
    ·injection e with e;subst e;simp at h'
    ·exact go e
   ·rw[dJ h'];rfl
  |const v=>
   rw[List.filterMap_cons_none (by rfl)];exact go ((List.mem_cons.1 h).resolve_left (by intro e;cases e))
  |global v=>
   rw[List.filterMap_cons_none (by rfl)];exact go ((List.mem_cons.1 h).resolve_left (by intro e;cases e))
  |func v=>
   rw[List.filterMap_cons_none (by rfl)];exact go ((List.mem_cons.1 h).resolve_left (by intro e;cases e))
def YP(s:AS)(l:List Operand)(x:Operand)(h:x∈l):(only s l).ev x=s.ev x:=by
 cases x with
 |tmp t=>exact amL s l t h
 |const v=>rfl
 |global v=>rfl
 |func v=>rfl
def amK{s s3:AS}{M:Prop->Prop->Prop}{C:Nat->List V->ST->(V->ST->Prop)->Prop}{op:Op}(hst:s3.s=s.s)(h:∀ x∈op.operands.toList,s3.ev x=s.ev x)(hc:calm op=true):dF M C op s3 K=dF M C op s K:=by
 cases op
 case move x=>simp only[dF,h x (by simp[Op.operands]),hst]
 case pick x y z=>simp only[dF,h x (by simp[Op.operands]),h y (by simp[Op.operands]),h z (by simp[Op.operands]),hst]
 case load t x=>simp only[dF,h x (by simp[Op.operands]),hst]
 case fieldAddr t x f=>simp only[dF,h x (by simp[Op.operands]),hst]
 case field t x f=>simp only[dF,h x (by simp[Op.operands]),hst]
 case indexAddr t x y=>simp only[dF,h x (by simp[Op.operands]),h y (by simp[Op.operands]),hst]
 case lookup t x y ok=>simp only[dF,h x (by simp[Op.operands]),h y (by simp[Op.operands]),hst]
 case slice t x lo hi mx=>
  have e1:yL s3 lo=yL s lo:=by cases lo with|none=>rfl|some y=>simp only[yL,h y (by simp[Op.operands])]
  have e2:yL s3 hi=yL s hi:=by cases hi with|none=>rfl|some y=>simp only[yL,h y (by simp[Op.operands])]
  have e3:yL s3 mx=yL s mx:=by cases mx with|none=>rfl|some y=>simp only[yL,h y (by simp[Op.operands])]
  simp only[dF,h x (by simp[Op.operands]),e1,e2,e3,hst]
 case unOp op t x=>cases op <;> simp only[dF,h x (by simp[Op.operands]),hst]
 case extract x i=>simp only[dF,h x (by simp[Op.operands]),hst]
 case nilCheck x=>simp only[dF,h x (by simp[Op.operands]),hst]
 case binOp op t x y t2=>
  have hx:=h x (by simp[Op.operands]);cases y with
  |const c=>simp only[dF,hx,hst]
  |tmp t=>simp only[dF,hx,h (.tmp t) (by simp[Op.operands]),hst]
  |global g=>
   have e:s3.ev (.global g)=s.ev (.global g):=rfl;simp only[dF,hx,e,hst]
  |func f=>
   have e:s3.ev (.func f)=s.ev (.func f):=rfl;simp only[dF,hx,e,hst]
 case convert t1 t2 x=>simp only[dF,h x (by simp[Op.operands]),hst]
 case call c=>
  obtain⟨callee,args,ats⟩:=c;obtain⟨args⟩:=args;have ha:∀ x∈args,s3.ev x=s.ev x:=λx hx=>h x (by cases callee <;> simp[Op.operands,Call.operands,hx])
  cases callee
  case builtin b=>
   cases b <;> simp only[calm]at hc <;> first|(cases hc;done)|skip
   all_goals
    obtain _|⟨x,_|⟨y,_|⟨z,l⟩⟩⟩:=args
    ·simp only[dF,hst]
    ·rcases hl:ats.toList with _|⟨t,_|⟨u,l⟩⟩ <;> simp only[dF,hst,ha x (by simp),hl]
    ·simp only[dF,hst,ha x (by simp),ha y (by simp)]
    ·simp only[dF,hst]
  all_goals cases hc
 all_goals cases hc
end
end
