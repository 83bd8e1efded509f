/- Lemmas. -/
import Derived.Test.YtnibdnahojjcgaaGreatC28
namespace Go.Proofs.YtnibdnahojjcgaaGreat
set_option linter.all false
set_option maxRecDepth 100000
set_option maxHeartbeats 0
open Go.RowKit Tryz
def Du(n:aA)(r:aP):Bool:=bif decide (r.kind=4) then decide (r.a<=n.dN) else false
abbrev NB(n:aA):ST:=⟨NL n++[(8,.Wp 1 (λ_=>.ptr 0 0))],9⟩
abbrev aa0:V:=.fn 159 0 1 (λ_=>.ptr 8 0)
def uA(n:aA)(x:aV):Bool:=
 bif (bif (bif !decide (Bd x=0) then true else !decide (x.dst=n.me)) then true else decide (n.many<=x.src)) then false
 else bif !decide (x.kind=3) then true else !decide (0<=eU (Du n) 0 (bg n.ae x).1)
def L9{a:Int}(h:(!decide (a=3))=false):a=3:=Qc h
def VO{a:Int}{p q:Bool}(h:(bif (bif !decide (a=0) then true else p) then true else q)=false):a=0:=by
 cases hd:decide (a=0)
 ·rw[hd]at h;cases h
 ·exact bT hd
def atd(n:aA)(r:aP):af 159 [tK r,.ptr 8 0] (NB n) (λv t=>v = .b (Du n r)/\t=NB n):=by
 refine ay func159 λX=>?_
 (repeat'(first|refine aC ?_|refine bU 1 [] (ooz 14 []) ?_|refine mc ?_ ?_|refine bM qN qN (vq (ah V.b ?_) tv) ?_))<;>(try(refine dm.mk ?_;repeat'(first|exact tv|exact rfl|refine an ?_ ?_|refine ag.mk ?_ ?_)))
 all_goals try exact cls
 all_goals exact uF
def atb(n:aA)(l:List aP)(hn:l.length<=100000):af 209 [.d (kK l),aa0] (NB n) (λv t=>v=iV (eU (Du n) 0 l)/\t=NB n):=by
 refine ay func209 λX=>?_
 (repeat'(first|refine aC ?_|refine dU l.length (λi (a:Unit)=>⟨19,[(0,.d (kK l)),(1,aa0),(7,iV l.length),(8,iV i)],NB n⟩) (λi a=>eU (Du n) 0 l=eU (Du n) i (l.drop i)) () ?_ ?_ (λi a hi hp=>?_)|refine aZ () ⟨?_,?_,?_⟩|refine fO [0,1,2,3,4,5,6,7,8] (atd n (l.getD i .z)) ?_|refine aj.mk (λh=>?_) (λh=>?_)|refine ag.a ?_|refine bM qN qN (vq (ah iV ?_) tv) ?_|refine ag.mk ?_ ?_))<;>try exact cls
 all_goals(try(refine leq ?_ ?_ <;> repeat'(first|exact tv|exact qV|exact qW|refine gX ?_|refine jQ qN (λk hk=>?_) ?_|refine gU qN ?_ (λj hj k hk=>?_) ?_|refine an ?_ ?_)))
 all_goals first|exact rfl|exact cm qV|exact uF|exact kk|exact cm qW|(have h9:i<l.length:=om;rw[hp,D5 .z h9];first|exact(dH h).symm|exact bG h)|(have h9:i<l.length:=om;(omega))|(have h9:=bV h;rw[hp,qM qo];rfl)
def ata(n:aA)(l:List aP)(hn:l.length<=100000):af 158 [.d (kK l),aa0] (NB n) (λv t=>v = .b (decide (0<=eU (Du n) 0 l))/\t=NB n):=by
 refine ay func158 λX=>?_
 (repeat'(first|refine aC ?_|refine nZ [0,1,2,3,4,5,6,7,8] (atb n l hn) rfl rfl rfl ⟨VW.refl tv,gX vw,tv⟩ bJ ?_|refine bM qN qN (vq (ah V.b ?_) tv) ?_))<;>try exact cls
 all_goals exact uF
def as3(n:aA)(x:aV)(hx:x.l.length<=10000)(DR:x.kind=3->Bd x=0->jY x/\x.a+x.l.length<=64)(hl:n.ae.log.length<=1000)(hr:(bg n.ae x).1.length<=100000):af 105 [.ptr 0 0,jT x] (NS n) (λv t=>v = .b (uA n x)/\t=NS n):=by
 refine ay func105 λX=>?_
 (repeat'(first|refine aC ?_|refine bU 1 [1] [o0,o1,o3,o3,o3,o3,o3,o3,o3,o3,o3,o3,o3,o3,o3,o3,o3,o3,o3,o3,o3] ?_|refine bU 5 [6] (ooz 6 [o1,o3,o3,o3,o3,o3,o3,o3,o3,o3]) ?_|refine mc ?_ ?_|refine nZ [0,1,2,3,4,5,6,7,8] (ata n (bg n.ae x).1 hr) rfl rfl rfl ⟨VW.refl tv,gX vw,tv⟩ bJ ?_|refine kF (FP x hx) ?_|refine kF (TZ n.ae x (DR (L9 aG) (VO aG)).1 (L9 aG) (DR (L9 aG) (VO aG)).2 hl) ?_|refine aj.n (λh=>?_)|refine aj.mk (λh=>?_) (λh=>?_)|refine ag.a ?_|refine bM qN qN (vq (ah V.b ?_) tv) ?_))<;>(try(refine dm.mk ?_;repeat'(first|exact tv|exact rfl|refine aO (FP x hx) ?_|refine aO (TZ n.ae x (DR (L9 aG) (VO aG)).1 (L9 aG) (DR (L9 aG) (VO aG)).2 hl) ?_|refine an ?_ ?_|refine ag.mk ?_ ?_)))
 all_goals try exact cls
 all_goals first|exact uF|(unfold uA;simp only[*,dw,bz];done)
def KR{b:Bool}(h:(!b)=false):b=true:=by simpa using h
structure aaB (n:aA) (x:aV):Prop where
 hx:jY x
 fF:x.kind=1
 hl:n.ae.log.length<=1000
 hL:mV n.ae (jG n.ae x).1
 hn:wB n
def ad2{n:aA}{x:aV}(h:aaB n x):af 106 [.ptr 0 0,jT x] (NS n) (NR (yA n x)):=amW n x h.hx h.fF h.hl h.hL h.hn
structure aaA (n:aA) (x:aV) (os:List (Option aF)):Prop where
 hx:jY x
 fF:x.kind=3
 jP:x.a+x.l.length<=64
 hl:n.ae.log.length<=1000
 hL:mV n.ae (bg n.ae x).1
 hn:wB n
 pK:(aS n (bg n.ae x).1).1.ae.log.length<=1000
 sH:(!decide ((aS n (bg n.ae x).1).2=0))=false->(bg n.ae x).2.1=true->Jc (Dv (ny (aS n (bg n.ae x).1).1 x) x (bg n.ae x).2.2) os
def acZ{n:aA}{x:aV}{os:List (Option aF)}(h:aaA n x os):af 107 [.ptr 0 0,jT x] (NS n) (NR (vP n x os)):=ak1 n x os h.hx h.fF h.jP h.hl h.hL h.hn h.pK h.sH
structure aaC (n:aA) (x:aV) (m:Nat) (os:List (Option aF)):Prop where
 hL:mV n.ae (gW n.ae x.term)
 hn:wB n
 Qr:0<=x.src
 hs:¬n.role=0->x.src<n.eF.length/\x.src<n.ig.length/\n.ig.length<=100
 E5:rW n x=false->Ir (mQ n x) x=true->KH (qY n x)=true->UB (qY n x) m
 Hr:rW n x=false->Ir (mQ n x) x=false->FX (mQ n x) x=true->UD (mQ n x) x os
def abN{n:aA}{x:aV}{m:Nat}{os:List (Option aF)}(h:aaC n x m os):af 108 [.ptr 0 0,jT x] (NS n) (NR (xq n x m os)):=ai4 n x m os h.hL h.hn h.Qr h.hs h.E5 h.Hr
def nG(n:aA)(x:aV):aA:={ n with role:=bif decide (n.ae.term<x.term) then 0 else n.role }
def AO(n:aA)(x:aV)(m:Nat)(os:List (Option aF)):aA×List aV×Int:=
 bif decide (x.kind=1) then yA n x else bif decide (x.kind=3) then vP n x os else xq n x m os
def FO(n:aA)(x:aV)(m:Nat)(os:List (Option aF)):aA×List aV×Int:=
 bif n.aB.down then(n,[],30) else bif !uA n x then(n,[],1) else AO (nG n x) x m os
structure IV (n:aA) (x:aV) (m:Nat) (os:List (Option aF)):Prop where
 hx:x.l.length<=10000
 DR:x.kind=3->Bd x=0->jY x/\x.a+x.l.length<=64
 hl:n.ae.log.length<=1000
 hr:(bg n.ae x).1.length<=100000
 sz:DT x.l
 kd:1<=x.kind/\x.kind<=4
 ask:n.aB.down=false->uA n x=true->x.kind=1->aaB (nG n x) x
 MB:n.aB.down=false->uA n x=true->x.kind=3->aaA (nG n x) x os
 MC:n.aB.down=false->uA n x=true->¬x.kind=1->¬x.kind=3->aaC (nG n x) x m os
def Zt{n:aA}{x:aV}{m:Nat}{os:List (Option aF)}(h:x.kind=1):AO n x m os=yA n x:=by
 unfold AO;rw[aX h];rfl
def Zq{n:aA}{x:aV}{m:Nat}{os:List (Option aF)}(h:x.kind=3):AO n x m os=vP n x os:=by
 unfold AO;rw[aT (show ¬x.kind=1 by omega),aX h];rfl
def Zr{n:aA}{x:aV}{m:Nat}{os:List (Option aF)}(h:¬x.kind=1)(h3:¬x.kind=3):AO n x m os=xq n x m os:=by
 unfold AO;rw[aT h,aT h3];rfl
def ai3(n:aA)(x:aV)(m:Nat)(os:List (Option aF))(H:IV n x m os)(fF:x.kind=1):af 70 [.ptr 0 0,jT x] (NS n) (NR (FO n x m os)):=by refine ay func70 λX=>?_;exact QD
def ai1(n:aA)(x:aV)(m:Nat)(os:List (Option aF))(H:IV n x m os)(fF:x.kind=3):af 70 [.ptr 0 0,jT x] (NS n) (NR (FO n x m os)):=by refine ay func70 λX=>?_;exact QD
def ai2(n:aA)(x:aV)(m:Nat)(os:List (Option aF))(H:IV n x m os)(fF:x.kind=2):af 70 [.ptr 0 0,jT x] (NS n) (NR (FO n x m os)):=by refine ay func70 λX=>?_;exact QD
def ai0(n:aA)(x:aV)(m:Nat)(os:List (Option aF))(H:IV n x m os)(fF:x.kind=4):af 70 [.ptr 0 0,jT x] (NS n) (NR (FO n x m os)):=by refine ay func70 λX=>?_;exact QD
