/- Lemmas. -/
import Derived.Test.YtnibdnahojjcgaaGreatC39
namespace Go.Proofs.YtnibdnahojjcgaaGreat
set_option linter.all false
set_option maxRecDepth 100000
set_option maxHeartbeats 0
open Go.RowKit Tryz
section
attribute [local irreducible] af
def anT(k N M:Nat)(hk:(k=3/\N=48/\M=50)\/(k=4/\N=56/\M=58)\/(k=5/\N=64/\M=66))(C C1:aH)(e:cO)(R R1:List (Nat×aK))(hT:Tl k N R)(hT1:Tl k M (oO N e R1))(r:Int)(hdef:yf hT1 C1)(hkd:e.kind=2)(hth:af 38 [.ptr 0 0,iV e.a] (hT.bx C e) (λv t=>v = .b (l9 k e.a)/\t=hT.bx C e))(hf:l9 k e.a=true)(hA:0<=e.a/\e.a<k)(hcl:af 25 [.ptr (8*e.a.toNat+24) 0,.ptr N 0] (hT.bx C e) (λv t=>v=iV r/\t=hT1.m1 C1)):af 8 [.ptr 0 0,oL e] (hT.cs C) (λv t=>v=iV r/\t=hT1.m3 (lC C1)):=QP
def anO(k N M:Nat)(hk:(k=3/\N=48/\M=50)\/(k=4/\N=56/\M=58)\/(k=5/\N=64/\M=66))(C C1:aH)(e:cO)(R R1:List (Nat×aK))(hT:Tl k N R)(hT1:Tl k M (oO N e R1))(r:Int)(hdef:yf hT1 C1)(hkd:e.kind=6)(hth:af 38 [.ptr 0 0,iV e.a] (hT.bx C e) (λv t=>v = .b (l9 k e.a)/\t=hT.bx C e))(hf:l9 k e.a=true)(hA:0<=e.a/\e.a<k)(hcl:af 27 [.ptr (8*e.a.toNat+24) 0,.ptr N 0,.ptr (N+1) 0] (hT.bx C e) (λv t=>v=iV r/\t=hT1.m1 C1)):af 8 [.ptr 0 0,oL e] (hT.cs C) (λv t=>v=iV r/\t=hT1.m3 (lC C1)):=QP
def anN(k N M:Nat)(hk:(k=3/\N=48/\M=50)\/(k=4/\N=56/\M=58)\/(k=5/\N=64/\M=66))(C C1:aH)(e:cO)(R R1:List (Nat×aK))(hT:Tl k N R)(hT1:Tl k M (oO N e R1))(r:Int)(hdef:yf hT1 C1)(hkd:e.kind=7)(hth:af 38 [.ptr 0 0,iV e.a] (hT.bx C e) (λv t=>v = .b (l9 k e.a)/\t=hT.bx C e))(hf:l9 k e.a=true)(hA:0<=e.a/\e.a<k)(hcl:af 31 [.ptr (8*e.a.toNat+24) 0,.ptr (N+1) 0] (hT.bx C e) (λv t=>v=iV r/\t=hT1.m1 C1)):af 8 [.ptr 0 0,oL e] (hT.cs C) (λv t=>v=iV r/\t=hT1.m3 (lC C1)):=QP
def anM(k N M:Nat)(hk:(k=3/\N=48/\M=50)\/(k=4/\N=56/\M=58)\/(k=5/\N=64/\M=66))(C C1:aH)(e:cO)(R R1:List (Nat×aK))(hT:Tl k N R)(hT1:Tl k M (oO N e R1))(r:Int)(hdef:yf hT1 C1)(hkd:e.kind=8)(hth:af 38 [.ptr 0 0,iV e.a] (hT.bx C e) (λv t=>v = .b (l9 k e.a)/\t=hT.bx C e))(hf:l9 k e.a=true)(hA:0<=e.a/\e.a<k)(hcl:af 33 [.ptr (8*e.a.toNat+24) 0,.ptr (N+1) 0] (hT.bx C e) (λv t=>v=iV r/\t=hT1.m1 C1)):af 8 [.ptr 0 0,oL e] (hT.cs C) (λv t=>v=iV r/\t=hT1.m3 (lC C1)):=QP
def aey(k N M:Nat)(hk:(k=3/\N=48/\M=50)\/(k=3/\N=48/\M=54)\/(k=4/\N=56/\M=58)\/(k=4/\N=56/\M=62)\/(k=5/\N=64/\M=66)\/(k=5/\N=64/\M=70))(C C1:aH)(e:cO)(R R1:List (Nat×aK))(hT:Tl k N R)(hT1:Tl k M (oO N e R1))(r:Int)(hdef:yf hT1 C1)(hkd:e.kind=1)(hth:af 38 [.ptr 0 0,iV e.a] (hT.bx C e) (λv t=>v = .b (l9 k e.a)/\t=hT.bx C e))(hf:l9 k e.a=true)(hA:0<=e.a/\e.a<k)(hcl:af 22 [.ptr (8*e.a.toNat+24) 0,.ptr N 0] (hT.bx C e) (λv t=>v=iV r/\t=hT1.m1 C1)):af 8 [.ptr 0 0,oL e] (hT.cs C) (λv t=>v=iV r/\t=hT1.m3 (lC C1)):=abH
def aex(k N M:Nat)(hk:(k=3/\N=48/\M=50)\/(k=3/\N=48/\M=56)\/(k=4/\N=56/\M=58)\/(k=4/\N=56/\M=64)\/(k=5/\N=64/\M=66)\/(k=5/\N=64/\M=72))(C C1:aH)(e:cO)(R R1:List (Nat×aK))(hT:Tl k N R)(hT1:Tl k M (oO N e R1))(r:Int)(hdef:yf hT1 C1)(hkd:e.kind=9)(hth:af 38 [.ptr 0 0,iV e.a] (hT.bx C e) (λv t=>v = .b (l9 k e.a)/\t=hT.bx C e))(hf:l9 k e.a=true)(hA:0<=e.a/\e.a<k)(hcl:af 29 [.ptr (8*e.a.toNat+24) 0,.ptr (N+1) 0] (hT.bx C e) (λv t=>v=iV r/\t=hT1.m1 C1)):af 8 [.ptr 0 0,oL e] (hT.cs C) (λv t=>v=iV r/\t=hT1.m3 (lC C1)):=abH
end
