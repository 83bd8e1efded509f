/- A part of the proof. -/
import Derived.RangeFuncFrom
import Derived.RangeFuncLeaves
import Derived.Test.YtnibdnahojjcgaaGreatB17
namespace Go.Proofs.YtnibdnahojjcgaaGreat
set_option maxRecDepth 100000
set_option maxHeartbeats 16000000
set_option linter.unusedVariables false
set_option linter.unusedSimpArgs false
open Go.RowKit
theorem akt(n:Nat)(g:Nat->Nat->D)(hn:n<=1000000):ae 129 [.d (.sl n 4 g)] e0 (λrv rt=>rv=(.row 0 n)/\rt=⟨[(0,.row 54 4 n (λj k=>.d (g j k)))],1⟩):=by
 refine asz Tryz.func129 λX=>?_
 (repeat' (first|refine asW 2 54 (λj k=>.d (g j k)) rfl rfl qN (T.ret ?_)|refine oz ?_|refine ai.mk (λh=>?_) (λh=>?_)|refine ag.a ?_|refine sS.mk (λt ht=>?_)|refine asC qN qN (vq (gz (V.row 0) ?_) qN) ⟨⟨nb rfl,af.row ?_ (λj hj k hk=>asB ?_)⟩,tv⟩|refine ag.mk ?_ ?_))<;>try exact aB
 all_goals (exact(ht aj).symm)
theorem aku(n:Nat)(g:Nat->Nat->D)(hn:n<=1000000):ae 130 [.d (.sl n 2 g)] e0 (λrv rt=>rv=(.row 0 n)/\rt=⟨[(0,.row 97 2 n (λj k=>.d (g j k)))],1⟩):=by
 refine asz Tryz.func130 λX=>?_
 (repeat' (first|refine asW 2 97 (λj k=>.d (g j k)) rfl rfl qN (T.ret ?_)|refine oz ?_|refine ai.mk (λh=>?_) (λh=>?_)|refine ag.a ?_|refine sS.mk (λt ht=>?_)|refine asC qN qN (vq (gz (V.row 0) ?_) qN) ⟨⟨nb rfl,af.row ?_ (λj hj k hk=>asB ?_)⟩,tv⟩|refine ag.mk ?_ ?_))<;>try exact aB
 all_goals (exact(ht aj).symm)
theorem akv(n:Nat)(g:Nat->Nat->D)(hn:n<=1000000):ae 131 [.d (.sl n 5 g)] e0 (λrv rt=>rv=(.row 0 n)/\rt=⟨[(0,.row 71 5 n (λj k=>.d (g j k)))],1⟩):=by
 refine asz Tryz.func131 λX=>?_
 (repeat' (first|refine asW 2 71 (λj k=>.d (g j k)) rfl rfl qN (T.ret ?_)|refine oz ?_|refine ai.mk (λh=>?_) (λh=>?_)|refine ag.a ?_|refine sS.mk (λt ht=>?_)|refine asC qN qN (vq (gz (V.row 0) ?_) qN) ⟨⟨nb rfl,af.row ?_ (λj hj k hk=>asB ?_)⟩,tv⟩|refine ag.mk ?_ ?_))<;>try exact aB
 all_goals (exact(ht aj).symm)
theorem akw(n:Nat)(g:Nat->Nat->D)(hn:n<=1000000):ae 182 [.d (.sl n 2 g)] e0 (λrv rt=>rv=(.row 0 n)/\rt=⟨[(0,.row 50 2 n (λj k=>.d (g j k)))],1⟩):=by
 refine asz Tryz.func182 λX=>?_
 (repeat' (first|refine asW 2 50 (λj k=>.d (g j k)) rfl rfl qN (T.ret ?_)|refine oz ?_|refine ai.mk (λh=>?_) (λh=>?_)|refine ag.a ?_|refine sS.mk (λt ht=>?_)|refine asC qN qN (vq (gz (V.row 0) ?_) qN) ⟨⟨nb rfl,af.row ?_ (λj hj k hk=>asB ?_)⟩,tv⟩|refine ag.mk ?_ ?_))<;>try exact aB
 all_goals (exact(ht aj).symm)
def afi(s:bP)(x:V):Nat->V
 |3=>x
 |k=>.d (kW s k)
abbrev SS(s:bP):ST:=⟨[(0,.blk 4 (λk=>.d (kW s k)))],1⟩
abbrev SR(s:bP):ST:=⟨[(0,.blk 4 (afi s (.row 1 s.log.length))),(1,dw 50 2 qx .z s.log)],2⟩
theorem adT(b:List UInt8)(hb:b.length<=100000):aQ 195 [.d (dB b)] (.d (dB b)):=by
 refine asz Tryz.func195 λX=>?_
 (repeat' (first|refine oz ?_|refine asA (Gw b.length (λj _=>fO (b.getD j 0)) (by omega)) ?_|refine ai.mk (λh=>?_) (λh=>?_)|refine Fin.tell (VW.refl tv)|refine Fin.tell (asQ ?_)))<;>try exact aB
 all_goals (have h9:=aS h;omega)
theorem ab5(s:bP)(r:aT)(hf:s.floor<=r.a):ae 196 [.ptr 0 0,yc r] (SS s) (λrv rt=>rv=(.b true)/\rt=(SS { s with floor:=r.a })):=by
 refine asz Tryz.func196 λX=>?_
 (repeat' (first|refine oz ?_|refine asD 1 [] [o0,o0,o0,o0,o0,o0,o0] ?_|refine mc ?_ ?_|refine ai.n (λh=>?_)|refine ag.a ?_|refine asC qN qN (vq (gz V.b ?_) tv) ?_))<;>(try(refine dh.mk ?_;repeat' (first|exact tv|exact rfl|refine an ?_ ?_|refine ag.mk ?_ ?_)))
 all_goals try exact aB
 all_goals (try(repeat' (first|exact tv|refine an ⟨nb rfl,af.blk ?_⟩ ?_|exact qV|refine an ?_ ?_)))
theorem ak5{s:bP}{r:aT}(h1:s.term<=r.a)(h2:r.a=s.term->s.gZ=0\/s.gZ=r.b):(bif decide (r.a<s.term) then true else bif bif decide (r.a=s.term) then !decide (s.gZ=0) else false then !decide (s.gZ=r.b) else false)=false:=by
 rw[aX qO,di];by_cases e:r.a=s.term
 ·rcases h2 e with e2|e2
  ·rw[bg e2];cases decide (r.a=s.term) <;> rfl
  ·rw[bg e2];cases (bif decide (r.a=s.term) then !decide (s.gZ=0) else false) <;> rfl
 ·rw[aX e];rfl
theorem acH(s:bP)(r:aT)(h1:s.term<=r.a)(h2:r.a=s.term->s.gZ=0\/s.gZ=r.b):ae 197 [.ptr 0 0,yc r] (SS s) (λrv rt=>rv=(.b true)/\rt=(SS { s with term:=r.a,gZ:=r.b })):=by
 refine asz Tryz.func197 λX=>?_
 (repeat' (first|refine oz ?_|refine asD 1 [] [o0,o0,o0,o0,o0,o0,o0,o0,o0,o0,o0,o0,o0,o0,o0,o0,o0,o0,o0,o0,o0,o0,o0,o0,o0,o0,o0,o0,o0,o0,o0,o0] ?_|refine asD 3 [8,11] [o0,o2,o0,o0,o2,o2,o0,o0,o1,o3,o3,(1,1,true,[])] ?_|refine mc ?_ ?_|refine ai.mk (λh=>au h (by rw[ak5 h1 h2];decide)) (λh=>?_)|refine ag.a ?_|refine asC qN qN (vq (gz V.b ?_) tv) ?_))<;>(try(refine dh.mk ?_;repeat' (first|exact tv|exact rfl|refine an ?_ ?_|refine ag.mk ?_ ?_)))
 all_goals try exact aB
 all_goals (try(repeat' (first|exact tv|refine an ⟨nb rfl,af.blk ?_⟩ ?_|exact qV|refine an ?_ ?_)))
theorem aoc{α:Type}{z:α}{l:List α}{a j:Nat}(h:j<a):l.getD j z=(l.take a).getD j z:=by rw[bC,bC,oh,if_pos h]
theorem aen(s:bP)(r:aT)(h1:1<=r.a/\r.a<=s.log.length)(hl:s.log.length<=100000):ae 199 [.ptr 0 0,yc r] (SS s) (λrv rt=>rv=(.b true)/\rt=(SS { s with log:=s.log.take (r.a-1).toNat })):=by
 refine asz Tryz.func199 λX=>?_
 (repeat' (first|refine oz ?_|refine asD 1 [] [o0,o0,o0,o0,o0,o0,o0,o0] ?_|refine asD 3 [11] [o0,o0,o0,o0,o0,o0,o0,o0,o0,o0,o0,o1] ?_|refine mc ?_ ?_|refine ai.n (λh=>?_)|refine ag.a ?_|refine asC qN qN (vq (gz V.b ?_) tv) ?_))<;>(try(refine dh.mk ?_;repeat' (first|exact tv|exact rfl|refine an ?_ ?_|refine ag.mk ?_ ?_)))
 all_goals try exact aB
 all_goals (try(repeat' (first|exact tv|refine an ⟨nb rfl,af.blk ?_⟩ ?_|exact qV|refine VW.sl ?_ (λj hj k hk=>asB ?_)|refine an ?_ ?_)))
 all_goals first|(show(r.a-1).toNat=(s.log.take (r.a-1).toNat).length;rw[dP];omega)|(exact cm (gz (λe=>qx e k) (aoc hj)))
theorem ab9(s:bP)(r:aT)(h1:r.a=s.log.length+1)(hl:s.log.length<=1000)(hx:r.x.length<=100000):ae 198 [.ptr 0 0,yc r] (SR s) (λrv rt=>rv=(.b true)/\rt=(SR { s with log:=s.log++[⟨r.b,r.x⟩] })):=by
 refine asz Tryz.func198 λX=>?_
 (repeat' (first|refine oz ?_|refine asD 1 [] [o0,o0,o0,o0,o0,o0,o0,o0,o0] ?_|refine asD 3 [9,11,12,15] [(0,3,false,[]),(0,2,false,[]),(0,2,false,[]),(0,2,false,[]),(0,2,false,[]),o2,o2,o0,o0,o1,o3,(1,1,true,[]),(2,2,true,[]),(3,3,false,[]),(3,3,false,[]),(3,3,true,[])] ?_|refine mc ?_ ?_|refine ai.mk (λh=>au h (by rw[bg h1];decide)) (λh=>?_)|refine asN (adT r.x hx) ?_|refine ag.a ?_|refine asC qN qN (vq (gz V.b ?_) tv) ?_|refine ag.mk ?_ ?_))<;>(try(refine dh.mk ?_;repeat' (first|exact tv|exact rfl|refine asA (adT r.x hx) ?_|refine an ?_ ?_|refine ag.mk ?_ ?_)))
 all_goals try exact aB
 all_goals (try(repeat' (first|exact tv|refine an ⟨nb rfl,af.blk ?_⟩ ?_|refine an ⟨nb rfl,af.row ?_ (λj hj k hk=>asB ?_)⟩ ?_|exact qV|refine vq (gz (V.row _) ?_) qN|refine an ?_ ?_)))
 all_goals first|(simp;done)|(have hj:j<s.log.length+1:=hj;have hk:k<2:=hk;refine cm (vq ?_ trivial);refine A7 rfl hj fr (λj hj=>?_);obtain rfl:j=0:=Nat.lt_one_iff.1 hj;rcases k with _|_|k;rfl;rfl;omega)
theorem apY(s:bP)(hl:s.log.length<=100000):ae 138 [jc s] e0 (λrv rt=>rv=(.agg 4 (afi s (.row 2 s.log.length)))/\rt=⟨[(2,dw 50 2 qx .z s.log)],3⟩):=by
 refine asz Tryz.func138 λX=>?_
 (repeat' (first|refine oz ?_|refine asP (akw s.log.length (λj=>qx (s.log.getD j .z)) (by omega)) ?_|refine ag.a ?_|refine asC qN qN (asK vw) ⟨⟨nb rfl,af.row rfl fv⟩,tv⟩))<;>try exact aB
theorem GU(s:bP)(hl:s.log.length<=100000):aQ 138 [jc s] (jc s):=by
 refine asz Tryz.func138 λX=>?_
 (repeat' (first|refine oz ?_|refine asA (VT s.log.length (λj=>qx (s.log.getD j .z)) (by omega)) ?_|refine ag.a ?_|refine Fin.tell (asK vw)))<;>try exact aB
def eG(kind version:Int):List kD:=if version<1\/3<version then [] else (nK kind).filter (λs=>decide (s.since<=version))
theorem VY(kind:Int):(nK kind).length<=10:=by
 unfold nK;repeat' split
 all_goals simp
theorem Pe{α:Type}(z:α)(p:α->Bool){l:List α}{i:Nat}(h:i<l.length):(l.take (i+1)).filter p=(l.take i).filter p++(if p (l.getD i z) then [l.getD i z] else []):=by
 rw[lX z h,List.filter_append];congr 1;generalize l.getD i z=x;cases hp:p x <;> simp[hp]
theorem an4{v:Int}(h:(bif decide (v<1) then true else decide (3<v))=true):v<1\/3<v:=by
 by_cases e:v<1
 ·exact .inl e
 ·rw[aX e,di]at h;exact .inr (aS h)
theorem an5{v:Int}(h:(bif decide (v<1) then true else decide (3<v))=false):¬(v<1\/3<v):=by
 by_cases e:v<1
 ·rw[bg e,dR]at h;cases h
 ·rw[aX e,di]at h;have:=bJ h;omega
theorem acP(kind version:Int)(hk:kind=1\/kind=6\/kind=7):aQ 178 [iV kind,iV version] (.d (wK (eG kind version))):=by
 have hl:=VY kind;refine asz Tryz.func178 λX=>?_
 (repeat' (first|refine oz ?_|refine asW 5 214 (λj k=>.d (BP (([]:List kD).getD j .z) k)) rfl rfl qN (asI (nK kind).length (λi (a:List kD)=>⟨31,[(1,iV version),(5,.row 0 a.length),(15,.d (wK (nK kind))),(16,iV (nK kind).length),(17,iV i)],⟨[(0,dw 214 5 BP .z a)],1⟩⟩) (λi a=>a=((nK kind).take i).filter (λs=>decide (s.since<=version))/\a.length<=i) [] ?_ ?_ (λi a hi hp=>?_))|refine asA (ape kind hk) ?_|refine ai.mk (λh=>?_) (λh=>?_)|refine ag.a ?_|refine atj (C:=BP) (z:=kD.z) (L:=eG kind version) rfl rfl ?_ ?_|refine Fin.tell (asQ ?_)|refine ag.mk ?_ ?_))<;>try exact aB
 all_goals (try(first|(have hh:((nK kind).getD i .z).since<=version:=aS h;refine aU (a++[(nK kind).getD i .z]) ⟨?_,⟨?_,?_⟩,?_⟩)|(have hh:¬((nK kind).getD i .z).since<=version:=bJ h;refine aU a ⟨?_,⟨?_,?_⟩,?_⟩)))
 all_goals (try(refine aV.mk rfl qN qN ?_ ?_ <;> repeat' (first|exact tv|exact qV|exact qW|refine vq (gz (V.row _) ?_) qN|refine an ⟨nb rfl,af.row ?_ (λj hj k hk=>vq ?_ trivial)⟩ ?_|refine an ?_ ?_)))
 all_goals first|(exact⟨rfl,bu _⟩)|(simp;done)|(unfold eG;rw[if_pos (an4 h)];rfl)|omega|((try simp only[fC,fQ,mr,nO]at *);have h9:i<(nK kind).length:=(by omega);obtain⟨hp1,hp2⟩:=hp;first|omega|(simp;omega)|(rw[Pe kD.z _ h9,<-hp1,if_pos (bg hh)];done)|(rw[Pe kD.z _ h9,<-hp1,if_neg (by rw[aX hh];decide),pG];done)|(refine A7 rfl (by simp;omega) fr (λj hj=>?_);obtain rfl:j=0:=(by simp at hj;omega);rcases k with _|_|_|_|_|k <;> first|rfl|omega))|(rename_i hv;have hv:=an5 hv;have h:=bJ h;have e:i=(nK kind).length:=(by omega);have e2:a=eG kind version:=(by rw[hp.1,e,oJ];unfold eG;rw[if_neg hv]);subst e2;first|rfl|exact λj hj k hk=>rfl)
def Fa(kind version:Int):Int:=(eG kind version).foldl (λt s=>max t s.num) 0
theorem aax(kind version:Int):(eG kind version).length<=10:=by
 unfold eG;split
 ·simp
 ·exact jV (List.length_filter_le _ _) (VY kind)
theorem Io{α β:Type}(f:β->α->β)(b:β)(z:α){l:List α}{i:Nat}(h:i<l.length):(l.take (i+1)).foldl f b=f ((l.take i).foldl f b) (l.getD i z):=by
 rw[lX z h,List.foldl_append];rfl
theorem Rt(kind version:Int)(hk:kind=1\/kind=6\/kind=7):aQ 133 [iV kind,iV version] (iV (Fa kind version)):=by
 have hl:=aax kind version;refine asz Tryz.func133 λX=>?_
 (repeat' (first|refine oz ?_|refine asI (eG kind version).length (λi (a:Int)=>⟨22,[(5,iV a),(10,.d (wK (eG kind version))),(11,iV (eG kind version).length),(12,iV i)],e0⟩) (λi a=>a=((eG kind version).take i).foldl (λt s=>max t s.num) 0) 0 ?_ ?_ (λi a hi hp=>?_)|refine asA (acP kind version hk) ?_|refine aU (max a ((eG kind version).getD i .z).num) ⟨?_,?_,?_⟩|refine ai.mk (λh=>?_) (λh=>?_)|refine ag.a ?_|refine Fin.tell (vq (gz iV ?_) tv)|refine ag.mk ?_ ?_))<;>try exact aB
 all_goals first|((try simp only[fC,fQ,mr,nO]at *);have h9:i<(eG kind version).length:=(by omega);first|omega|(rw[hp,Io _ _ kD.z h9];done))|((try simp only[fC,fQ,mr,nO]at *);have e:i=(eG kind version).length:=(by omega);rw[hp,e,oJ];rfl)
def qH(t:Nat->Int)(l:List Int):Nat->Int:=λk=>t k+(l.countP (λn=>decide (n=(k:Int)/\1<=n/\n<=64)):Nat)
def aq8:Nat->Int:=λ_=>0
def pJ(l:List gX):Nat->Int:=l.foldl (λt x=>qH t x.chunks) aq8
theorem ZG(t:Nat->Int)(l:List Int)(n:Int)(k:Nat):qH t (l++[n]) k=qH t l k+(if n=(k:Int)/\1<=n/\n<=64 then 1 else 0):=by
 unfold qH;rw[List.countP_append,List.countP_singleton];by_cases h:n=(k:Int)/\1<=n/\n<=64
 ·rw[if_pos h,if_pos (bg h)];omega
 ·rw[if_neg h,if_neg (by simpa using h)];omega
theorem UM(t:Nat->Int)(l:List Int)(k:Nat):t k<=qH t l k/\qH t l k<=t k+l.length:=by
 unfold qH;have:=List.countP_le_length (p:=λn:Int=>decide (n=(k:Int)/\1<=n/\n<=64)) (l:=l);omega
theorem apo{g h:Nat->V}{off k:Nat}:nU g off 1 h k=if k=off then h 0 else g k:=by
 unfold nU;by_cases e:k=off
 ·subst e;rw[if_pos rfl,show Nat.ble k k=true from Nat.ble_eq_true_of_le (bu _),show Nat.blt k (k+1)=true from by rw[Nat.blt_eq];omega,Nat.sub_self];rfl
 ·rw[if_neg e];have:(Nat.ble off k&&Nat.blt k (off+1))=false:=Bool.eq_false_iff.2 λh=>by
   obtain⟨h1,h2⟩:=kJ h;have:=nb h1;have:=lS h2;omega
  rw[this];rfl
theorem aod{t:Nat->Int}{l:List Int}{i off k:Nat}{v:Nat->V}(hi:i<l.length)(h1:1<=l.getD i 0)(h2:l.getD i 0<=64)(ho:off=(l.getD i 0).toNat)(hv:v 0=iV (qH t (l.take i) (l.getD i 0).toNat+1)):nU (λk=>iV (qH t (l.take i) k)) off 1 v k=iV (qH t (l.take (i+1)) k):=by
 rw[apo,lX 0 hi,ZG];split
 ·rename_i e
  rw[hv,if_pos ⟨by omega,h1,h2⟩,e,ho]
 ·rw[if_neg qO];simp
theorem alg{t:Nat->Int}{l:List Int}{i k:Nat}(hi:i<l.length)(h:(bif decide (1<=l.getD i 0) then decide (l.getD i 0<=64) else false)=false):qH t (l.take i) k=qH t (l.take (i+1)) k:=by
 rw[lX 0 hi,ZG,if_neg]
 ·simp
 ·rintro⟨_,h1,h2⟩;rw[bg h1,bg h2]at h;cases h
theorem acs{n:Int}(h:(bif decide (1<=n) then decide (n<=64) else false)=true):1<=n/\n<=64:=by
 by_cases h1:1<=n
 ·rw[bg h1]at h;exact⟨h1,aS h⟩
 ·rw[aX h1]at h;cases h
theorem aba(t:Nat->Int)(l:List Int)(hn:l.length<=100000)(ht:∀ k,k<65->0<=t k/\t k<=1000000000):ae 318 [.ptr 0 0,.d (iH l)] ⟨[(0,.blk 65 (λk=>iV (t k)))],1⟩ (λrv rt=>rv = .top/\rt=⟨[(0,.blk 65 (λk=>iV (qH t l k)))],1⟩):=by
 refine asz Tryz.func318 λX=>?_
 (repeat' (first|refine oz ?_|refine asD 4 [8] [o0,o0,o0,o0,o0,o0,o0,o0,o1] ?_|refine mc ?_ ?_|refine asI l.length (λi (a:Unit)=>⟨27,[(0,.ptr 0 0),(6,.d (iH l)),(7,iV l.length),(8,iV i)],⟨[(0,.blk 65 (λk=>iV (qH t (l.take i) k)))],1⟩⟩) (λi a=>i<=l.length) () ?_ ?_ (λi a hi hp=>?_)|refine aU () ⟨?_,?_,?_⟩|refine ai.mk (λh=>?_) (λh=>?_)|refine ag.a ?_|refine asC qN qN VW.top ⟨⟨nb rfl,asE rfl (λk hk=>asB ?_)⟩,tv⟩|refine ag.mk ?_ ?_))<;>(try(refine dh.mk ?_;repeat' (first|exact tv|exact rfl|refine an ?_ ?_|refine ag.mk ?_ ?_)))
 all_goals try exact aB
 all_goals (try(refine aV.mk rfl qN qN ?_ ?_ <;> repeat' (first|exact tv|exact qV|exact qW|refine an ⟨nb rfl,asE rfl (λk hk=>asB ?_)⟩ ?_|refine an ?_ ?_)))
 all_goals first|(refine cm (vq (gz iV ?_) tv);simp[qH];done)|(refine cm (vq ?_ trivial);have h9:i<l.length:=om;have hb:=acs h;exact aod h9 hb.1 hb.2 (by show 0+(l.getD i 0).toNat*1=_;omega) (by show iV (qH t (l.take i) (0+(l.getD i 0).toNat*1)+1)=_;rw[show 0+(l.getD i 0).toNat*1=(l.getD i 0).toNat by omega]))|(refine cm (vq (gz iV ?_) tv);have h9:i<l.length:=om;exact alg h9 ‹_›)|(have h9:=bJ h;have e:i=l.length:=(by omega);subst e;refine cm (vq (gz iV ?_) tv);rw[oJ];done)|(have hb:=acs h;have hi9:=aS ‹decide ((i:Int)<(l.length:Int))=true›;simp only[jD]at *;first|omega|(show 0+(l.getD i 0).toNat*1+1<=65;omega)|(show l.getD i 0<((65:Nat):Int);omega)|(have hq:=ht (l.getD i 0).toNat (by omega);have hw:=UM t (l.take i) (l.getD i 0).toNat;rw[dP]at hw;simp only[dQ];show _<=qH t (l.take i) (0+(l.getD i 0).toNat*1)+1;rw[show 0+(l.getD i 0).toNat*1=(l.getD i 0).toNat by omega];omega)|(have hq:=ht (l.getD i 0).toNat (by omega);have hw:=UM t (l.take i) (l.getD i 0).toNat;rw[dP]at hw;simp only[dQ];show qH t (l.take i) (0+(l.getD i 0).toNat*1)+1<=_;rw[show 0+(l.getD i 0).toNat*1=(l.getD i 0).toNat by omega];omega))|exact uN
theorem aeB{g h:Nat->V}{m k:Nat}(hk:k<m):nU g 0 m h (0+k)=h k:=by
 unfold nU;rw[show Nat.ble 0 (0+k)=true from Nat.ble_eq_true_of_le (cu _),show Nat.blt (0+k) (0+m)=true from by rw[Nat.blt_eq];omega,Nat.sub_zero,jm];rfl
theorem akZ:(tI 352).zero=List.replicate 65 (iV 0):=rfl
theorem aha{k:Nat}(h:k<65):iE 352 k=iV 0:=by
 unfold iE;rw[akZ,bC,List.getElem?_replicate,if_pos h];rfl
structure Dx (l:List gX):Prop where
 len:l.length<=100
 ch:∀ i,i<l.length->(l.getD i .z).chunks.length<=1000
theorem ZW{l:List gX}{i:Nat}(h:i<l.length):pJ (l.take (i+1))=qH (pJ (l.take i)) (l.getD i .z).chunks:=by
 unfold pJ;rw[lX .z h,List.foldl_append];rfl
theorem aa9{l:List gX}(h:Dx l):∀ i,i<=l.length->∀ k,0<=pJ (l.take i) k/\pJ (l.take i) k<=1000*i:=by
 intro i;induction i with
 |zero=>intro _ k;rw[List.take_zero];exact⟨eF _,eF _⟩
 |succ i ih=>
  intro hi k;have h1:=ih qO k;have h2:=UM (pJ (l.take i)) (l.getD i .z).chunks k;have h3:=h.ch i qO;rw[ZW qO];omega
def afh(t:Nat->Int):V:=.agg 65 (λk=>iV (t k))
def Cc(p:Int->Bool):List Int:=((List.range 64).map (λk:Nat=>(k:Int)+1)).filter p
def xn(p:Int->Bool)(i:Nat):List Int:=((List.range i).map (λk:Nat=>(k:Int)+1)).filter p
theorem aa2(p:Int->Bool)(i:Nat):xn p (i+1)=if p ((i:Int)+1)=true then xn p i++[(i:Int)+1] else xn p i:=by
 unfold xn;rw[List.range_succ,List.map_append,List.filter_append];cases h:p ((i:Int)+1) <;> simp[h]
theorem acD(p:Int->Bool)(i:Nat):(xn p i).length<=i:=by
 unfold xn;have:=List.length_filter_le p ((List.range i).map (λk:Nat=>(k:Int)+1));simpa using this
theorem QI(l:List gX)(hl:Dx l):aQ 306 [.d (jr l)] (afh (pJ l)):=by
 refine asz Tryz.func306 λX=>?_
 (repeat' (first|refine oz ?_|refine asI l.length (λi (a:Unit)=>⟨17,[(2,.ptr 0 0),(3,.ptr 1 0),(6,.d (jr l)),(7,iV l.length),(8,iV i)],⟨[(0,.blk 65 (λ_=>.top)),(1,.blk 65 (λk=>iV (pJ (l.take i) k)))],2⟩⟩) (λi a=>i<=l.length) () ?_ ?_ (λi a hi hp=>?_)|refine aU () ⟨?_,?_,?_⟩|refine asO [1] (aba (pJ (l.take i)) (l.getD i .z).chunks (by have:=hl.ch i om;omega) (λk hk=>by have:=aa9 hl i hi k;have:=hl.len;omega)) rfl rfl rfl vw ⟨⟨_,rfl,asE rfl fv⟩,tv⟩ ?_|refine ai.mk (λh=>?_) (λh=>?_)|refine ag.a ?_|refine Fin.tell (VW.agg (λk hk=>asB ?_))|refine ag.mk ?_ ?_))<;>try exact aB
 all_goals (try(refine aV.mk rfl qN qN ?_ ?_ <;> repeat' (first|exact tv|exact qV|exact qW|refine an ⟨nb rfl,asE rfl (λk hk=>asB ?_)⟩ ?_|refine an ?_ ?_)))
 all_goals first|exact cm qV|(exact cm VW.top)|(refine cm (vq (aha hk) tv);done)|(refine cm (vq (gz iV ?_) tv);have h9:i<l.length:=om;rw[ZW h9];done)|(have h9:=bJ h;have e:i=l.length:=(by omega);subst e;refine cm (vq ?_ trivial);rw[aeB hk];simp only[jm,oJ];done)|(have:=hl.len;simp only[dQ];(try simp only[fC,fQ,mr,nO]at *);omega)|exact uN
theorem ak7(t:Nat->Int)(n:Int)(h1:1<=n/\n<=64):ae 320 [iV n,.ptr 0 0] ⟨[(0,.blk 65 (λk=>iV (t k)))],1⟩ (λrv rt=>rv=(.b (decide (0<t n.toNat)))/\rt=⟨[(0,.blk 65 (λk=>iV (t k)))],1⟩):=by
 refine asz Tryz.func320 λX=>?_
 (repeat' (first|refine oz ?_|refine asY qN (vq (gz V.b ?_) tv) ⟨⟨nb rfl,asE rfl fv⟩,tv⟩|refine ag.mk ?_ ?_))<;>try exact aB
 all_goals first|(show 0+n.toNat*1<65;omega)|(show 0<=n/\n<((65:Nat):Int);omega)|(show decide (0<t (0+n.toNat*1))=_;rw[show 0+n.toNat*1=n.toNat by omega])
theorem ajS(t u:Nat->Int)(n:Int)(h1:1<=n/\n<=64):ae 321 [iV n,.ptr 0 0,.ptr 1 0] ⟨[(0,.blk 65 (λk=>iV (t k))),(1,.blk 65 (λk=>iV (u k)))],2⟩ (λrv rt=>rv=(.b (bif decide (0<t n.toNat) then decide (u n.toNat=0) else false))/\rt=⟨[(0,.blk 65 (λk=>iV (t k))),(1,.blk 65 (λk=>iV (u k)))],2⟩):=by
 refine asz Tryz.func321 λX=>?_
 (repeat' (first|refine oz ?_|refine ag.a ?_|refine asY qN (vq (gz V.b ?_) tv) ⟨⟨nb rfl,asE rfl fv⟩,⟨nb rfl,asE rfl fv⟩,tv⟩|refine ag.mk ?_ ?_))<;>try exact aB
 all_goals first|(intro _;show 0+n.toNat*1<65;omega)|(show 0+n.toNat*1<65;omega)|(show 0<=n/\n<((65:Nat):Int);omega)|(intro _;show 0<=n/\n<((65:Nat):Int);omega)|(show(bif decide (0<t (0+n.toNat*1)) then decide (u (0+n.toNat*1)=0) else false)=_;rw[show 0+n.toNat*1=n.toNat by omega])
def lq(s:aZ)(a b c:Nat):Nat->V
 |4=>.row a s.aN.length
 |5=>.row b s.opens.length
 |6=>.row c s.ay.length
 |k=>.d (fH s k)
abbrev ara(s:aZ)(a b c:Nat):V:=.agg 7 (lq s a b c)
structure EN (s:aZ):Prop where
 l1:s.aN.length<=1000
 l2:s.opens.length<=1000
 l3:Dx s.ay
theorem yI(s:aZ)(hs:EN s):ae 87 [jk s] e0 (λrv rt=>rv=(ara s 2 3 4)/\rt=⟨[(2,dw 54 4 gW .z s.aN),(3,dw 97 2 dY .z s.opens),(4,dw 71 5 eX .z s.ay)],5⟩):=by
 refine asz Tryz.func87 λX=>?_
 (repeat' (first|refine oz ?_|refine asD 7 [12] [o0,o0,o0,o0,o0,o0,o0,o0,o0,o0,o0,o0,o1] ?_|refine mc ?_ ?_|refine asP (akt s.aN.length (λj=>gW (s.aN.getD j .z)) (by have:=hs.l1;omega)) ?_|refine asP (aku s.opens.length (λj=>dY (s.opens.getD j .z)) (by have:=hs.l2;omega)) ?_|refine asP (akv s.ay.length (λj=>eX (s.ay.getD j .z)) (by have:=hs.l3.len;omega)) ?_|refine asI s.ay.length (λi (a:Unit)=>⟨36,[(1,.ptr 0 0),(2,.ptr 1 0),(18,iV s.ay.length),(19,iV i)],⟨[(0,.blk 7 (lq s 2 3 4)),(1,.blk 7 (λ_=>.top)),(2,dw 54 4 gW .z s.aN),(3,dw 97 2 dY .z s.opens),(4,dw 71 5 eX .z s.ay)],5⟩⟩) (λi a=>i<=s.ay.length) () ?_ ?_ (λi a hi hp=>?_)|refine aU () ⟨?_,?_,?_⟩|refine asN (IP (s.ay.getD i .z).chunks.length (λj _=>iD ((s.ay.getD i .z).chunks.getD j 0)) (by have:=hs.l3.ch i om;omega)) ?_|refine ai.mk (λh=>?_) (λh=>?_)|refine ag.a ?_|refine asC qN qN (asK vw) ⟨⟨nb rfl,af.row rfl fv⟩,⟨nb rfl,af.row rfl fv⟩,⟨nb rfl,af.row rfl fv⟩,tv⟩|refine ag.mk ?_ ?_))<;>(try(refine dh.mk ?_;repeat' (first|exact tv|exact rfl|refine asA (IP (s.ay.getD i .z).chunks.length (λj _=>iD ((s.ay.getD i .z).chunks.getD j 0)) (by have:=hs.l3.ch i om;omega)) ?_|refine an ?_ ?_|refine ag.mk ?_ ?_)))
 all_goals try exact aB
 all_goals (try(refine aV.mk rfl qN qN ?_ ?_ <;> repeat' (first|exact tv|exact qV|exact VW.top|exact qW|refine an ⟨nb rfl,af.blk ?_⟩ ?_|refine an ⟨nb rfl,af.row ?_ (λj hj k hk=>asB ?_)⟩ ?_|refine an ?_ ?_)))
 all_goals first|exact rfl|exact cm qV|(refine cm (vq (ahh rfl) tv);done)|exact uN|(have h8:=aS h;exact⟨rfl,by omega,by omega⟩)|(have:=hs.l3.len;simp only[dQ];(try simp only[fC,fQ,mr,nO]at *);omega)
theorem LV(s:aZ)(hs:EN s):aQ 87 [jk s] (jk s):=(yI s hs).Tn λX=>by
 refine Fin.dC (i:=2) (h:=λj=>gW (s.aN.getD j .z)) iw ?_;refine Fin.dC (i:=3) (h:=λj=>dY (s.opens.getD j .z)) (jB.of (n:=s.opens.length) (z:=2) (E:=97) (cu _) rfl fr) ?_;refine Fin.dC (i:=4) (h:=λj=>eX (s.ay.getD j .z)) (jB.of (n:=s.ay.length) (z:=5) (E:=71) (cu _) rfl fr) ?_;refine Fin.tell (asK ⟨⟨⟨vw,vq ?_ trivial⟩,vq ?_ trivial⟩,vq ?_ trivial⟩)
 ·exact(gz (λv=>jl 4 _ _ _ (jl 3 _ _ _ v)) jR).trans rfl
 ·exact(gz (λv=>jl 4 _ _ _ v) jR).trans rfl
 ·exact jR
def aeS(s:aZ)(at':Nat):Int:=((s.ay.drop (at'+1)).countP (λx=>decide (x.set=(s.ay.getD at' .z).set)):Nat)
def RQ(s:aZ)(at':Nat):Bool:=decide (aeS s at'<s.keep)
def BG(s:aZ)(at' i:Nat):Int:=(((s.ay.drop (at'+1)).take i).countP (λx=>decide (x.set=(s.ay.getD at' .z).set)):Nat)
theorem aad{s:aZ}{p i:Nat}(h:i<s.ay.length-(p+1)):BG s p (i+1)=BG s p i+(bif decide ((s.ay.getD (p+1+i) .z).set=(s.ay.getD p .z).set) then 1 else 0):=by
 unfold BG;have e:(s.ay.drop (p+1)).getD i .z=s.ay.getD (p+1+i) .z:=by rw[bC,bC,sD]
 rw[lX .z (by rw[fE];exact h),List.countP_append,List.countP_singleton,e];cases decide ((s.ay.getD (p+1+i) .z).set=(s.ay.getD p .z).set) <;> simp
theorem ajF(s:aZ)(p i:Nat):0<=BG s p i/\BG s p i<=i:=by
 unfold BG;have h1:=List.countP_le_length (p:=λx:gX=>decide (x.set=(s.ay.getD p .z).set)) (l:=(s.ay.drop (p+1)).take i);rw[dP]at h1;omega
theorem aoQ(s:aZ)(p:Nat)(hs:EN s)(hp:p<s.ay.length):aQ 307 [jk s,iV p] (.b (RQ s p)):=by
 have hn:=hs.l3.len;refine asz Tryz.func307 λX=>?_
 (repeat' (first|refine oz ?_|refine asD 7 [] [o0,o0,o0,o0,o0,o0,o0,o0,o0] ?_|refine mc ?_ ?_|refine ai.mk (λh2=>au (XF h2) (by rw[aX (by omega),aX (by omega)];decide)) (λh=>?_)|refine asI (s.ay.length-(p+1)) (λi (a:Int)=>⟨43,[(1,iV p),(2,.ptr 0 0),(5,iV a),(21,.d (.sl (s.ay.length-(p+1)) 5 (λj=>eX (s.ay.getD (p+1+j) .z)))),(22,iV ((s.ay.length-(p+1):Nat):Int)),(23,iV i)],⟨[(0,.blk 7 (λk=>.d (fH s k)))],1⟩⟩) (λi a=>a=BG s p i) 0 ?_ ?_ (λi a hi hq=>?_)|refine ai.mk (λh=>?_) (λh=>?_)|refine ag.a ?_|refine Fin.tell (vq (gz V.b ?_) tv)|refine ag.mk ?_ ?_))<;>(try(refine dh.mk ?_;repeat' (first|exact tv|exact rfl|refine an ?_ ?_|refine ag.mk ?_ ?_)))
 all_goals try exact aB
 all_goals (try(refine aV.mk rfl qN qN ?_ ?_ <;> repeat' (first|exact tv|exact qV|exact qW|refine an ⟨nb rfl,af.blk ?_⟩ ?_|refine an ?_ ?_)))
 all_goals first|(have h8:=aS h;omega)|(have:=ajF s p i;rw[<-hq]at this;simp only[dQ];omega)|(show decide (a<s.keep)=_;have h8:=bJ h;unfold RQ aeS;rw[hq];unfold BG;rw[lW (by rw[fE];omega)])|(have h8:=aS ‹decide ((i:Int)<((s.ay.length-(p+1):Nat):Int))=true›;have h9:i<s.ay.length-(p+1):=(by omega);first|(refine aU (a+1) ⟨h9,(by rw[hq];exact((aad h9).trans (gz (BG s p i + ·) (dF h))).symm),?_⟩;(refine aV.mk rfl qN qN ?_ ?_ <;> repeat' (first|exact tv|exact qV|exact qW|refine an ⟨nb rfl,af.blk ?_⟩ ?_|refine an ?_ ?_));all_goals fail)|(refine aU a ⟨h9,(by rw[hq];exact(((aad h9).trans (gz (BG s p i + ·) (bz h))).trans (Int.add_zero _)).symm),?_⟩;(refine aV.mk rfl qN qN ?_ ?_ <;> repeat' (first|exact tv|exact qV|exact qW|refine an ⟨nb rfl,af.blk ?_⟩ ?_|refine an ?_ ?_));all_goals fail))
theorem acC{p:Int->Bool}{i:Nat}(h:p ((i+1:Nat):Int)=true):xn p (i+1)=xn p i++[((i+1:Nat):Int)]:=by
 have e:((i+1:Nat):Int)=(i:Int)+1:=qO;rw[e]at h ⊢;rw[aa2,if_pos h]
theorem adN{p:Int->Bool}{i:Nat}(h:p ((i+1:Nat):Int)=false):xn p (i+1)=xn p i:=by
 have e:((i+1:Nat):Int)=(i:Int)+1:=qO;rw[e]at h;rw[aa2,if_neg (by rw[h];decide)]
theorem aiw(t:Nat->Int):ae 319 [.fn 320 0 1 (λk=>.ptr k 0)] ⟨[(0,.blk 65 (λk=>iV (t k)))],1⟩ (λrv rt=>rv=(.d (iH (Cc (λn=>decide (0<t n.toNat)))))/\rt=⟨[(0,.blk 65 (λk=>iV (t k)))],1⟩):=by
 refine asz Tryz.func319 λX=>?_
 (repeat' (first|refine oz ?_|refine asW 3 3 (λj _=>.d (iD (([]:List Int).getD j 0))) rfl rfl qN (asI 64 (λi (a:List Int)=>⟨17,[(0,.fn 320 0 1 (λk=>.ptr k 0)),(3,.row 1 a.length),(4,iV ((i+1:Nat):Int))],⟨[(0,.blk 65 (λk=>iV (t k))),(1,dw 3 1 (λn _=>iD n) 0 a)],2⟩⟩) (λi a=>a=xn (λn=>decide (0<t n.toNat)) i) [] ?_ ?_ (λi a hi hp=>?_))|refine ate [0] (ak7 t ((i+1:Nat):Int) (by have:=aS ‹decide (((i+1:Nat):Int)<=64)=true›;omega)) rfl rfl rfl vw ⟨⟨_,rfl,asE rfl fv⟩,tv⟩ ⟨rfl,tv⟩ ?_|refine ai.mk (λh=>?_) (λh=>?_)|refine ag.a ?_|refine atX (C:=λn _=>iD n) (z:=0) (Cc (λn=>decide (0<t n.toNat))) qN rfl ?_ ?_ ?_ qN qN ⟨⟨nb rfl,asE rfl fv⟩,tv⟩|refine ag.mk ?_ ?_))<;>try exact aB
 all_goals (try(refine aV.mk rfl qN qN ?_ ?_ <;> repeat' (first|exact tv|exact qV|exact qW|refine asJ ?_|refine an ⟨nb rfl,asE rfl (λk hk=>asB ?_)⟩ ?_|refine an ⟨nb rfl,af.row ?_ (λj hj k hk=>vq ?_ trivial)⟩ ?_|refine an ?_ ?_)))
 all_goals first|exact cm qV|(simp[xn];done)|(have e:a=Cc (λn=>decide (0<t n.toNat)):=(by have h9:=bJ h;rw[hp];have e2:i=64:=(by omega);rw[e2];rfl);subst e;first|rfl|exact λj hj k hk=>rfl)|(have:=acD (λn=>decide (0<t n.toNat)) i;rw[<-hp]at this;(omega))|(refine aU (a++[((i+1:Nat):Int)]) ⟨by(try simp only[fC]at *);omega,(by rw[hp];exact(acC h).symm),?_⟩;(refine aV.mk rfl qN qN ?_ ?_ <;> repeat' (first|exact tv|exact qV|exact qW|refine vq (gz (V.row _) ?_) qN|refine asJ ?_|refine an ⟨nb rfl,asE rfl (λk hk=>asB ?_)⟩ ?_|refine an ⟨nb rfl,af.row ?_ (λj hj k hk=>vq ?_ trivial)⟩ ?_|refine an ?_ ?_));all_goals first|exact cm qV|(simp;done)|(obtain rfl:k=0:=(by omega);exact A7 (C:=λn _=>iD n) (z:=0) (b:=[((i+1:Nat):Int)]) rfl hj fr (λj hj=>by obtain rfl:j=0:=(by simpa using hj);rfl));done)|(refine aU a ⟨by(try simp only[fC]at *);omega,(hp.trans (adN h).symm),?_⟩;(refine aV.mk rfl qN qN ?_ ?_ <;> repeat' (first|exact tv|exact qV|exact qW|refine asJ ?_|refine an ⟨nb rfl,asE rfl (λk hk=>asB ?_)⟩ ?_|refine an ⟨nb rfl,af.row ?_ (λj hj k hk=>vq ?_ trivial)⟩ ?_|refine an ?_ ?_));all_goals first|exact cm qV|exact rfl;done)
theorem aix(t u:Nat->Int):ae 319 [.fn 321 0 2 (λk=>.ptr k 0)] ⟨[(0,.blk 65 (λk=>iV (t k))),(1,.blk 65 (λk=>iV (u k)))],2⟩ (λrv rt=>rv=(.d (iH (Cc (λn=>bif decide (0<t n.toNat) then decide (u n.toNat=0) else false))))/\rt=⟨[(0,.blk 65 (λk=>iV (t k))),(1,.blk 65 (λk=>iV (u k)))],2⟩):=by
 refine asz Tryz.func319 λX=>?_
 (repeat' (first|refine oz ?_|refine asW 3 3 (λj _=>.d (iD (([]:List Int).getD j 0))) rfl rfl qN (asI 64 (λi (a:List Int)=>⟨17,[(0,.fn 321 0 2 (λk=>.ptr k 0)),(3,.row 2 a.length),(4,iV ((i+1:Nat):Int))],⟨[(0,.blk 65 (λk=>iV (t k))),(1,.blk 65 (λk=>iV (u k))),(2,dw 3 1 (λn _=>iD n) 0 a)],3⟩⟩) (λi a=>a=xn (λn=>bif decide (0<t n.toNat) then decide (u n.toNat=0) else false) i) [] ?_ ?_ (λi a hi hp=>?_))|refine ate [0,1] (ajS t u ((i+1:Nat):Int) (by have:=aS ‹decide (((i+1:Nat):Int)<=64)=true›;omega)) rfl rfl rfl vw ⟨⟨_,rfl,asE rfl fv⟩,⟨_,rfl,asE rfl fv⟩,tv⟩ ⟨rfl,rfl,tv⟩ ?_|refine ai.mk (λh=>?_) (λh=>?_)|refine ag.a ?_|refine atX (C:=λn _=>iD n) (z:=0) (Cc (λn=>bif decide (0<t n.toNat) then decide (u n.toNat=0) else false)) qN rfl ?_ ?_ ?_ qN qN ⟨⟨nb rfl,asE rfl fv⟩,⟨nb rfl,asE rfl fv⟩,tv⟩|refine ag.mk ?_ ?_))<;>try exact aB
 all_goals (try(refine aV.mk rfl qN qN ?_ ?_ <;> repeat' (first|exact tv|exact qV|exact qW|refine asJ ?_|refine an ⟨nb rfl,asE rfl (λk hk=>asB ?_)⟩ ?_|refine an ⟨nb rfl,af.row ?_ (λj hj k hk=>vq ?_ trivial)⟩ ?_|refine an ?_ ?_)))
 all_goals first|exact cm qV|(simp[xn];done)|(have e:a=Cc (λn=>bif decide (0<t n.toNat) then decide (u n.toNat=0) else false):=(by have h9:=bJ h;rw[hp];have e2:i=64:=(by omega);rw[e2];rfl);subst e;first|rfl|exact λj hj k hk=>rfl)|(have:=acD (λn=>bif decide (0<t n.toNat) then decide (u n.toNat=0) else false) i;rw[<-hp]at this;(omega))|(refine aU (a++[((i+1:Nat):Int)]) ⟨by(try simp only[fC]at *);omega,(by rw[hp];exact(acC h).symm),?_⟩;(refine aV.mk rfl qN qN ?_ ?_ <;> repeat' (first|exact tv|exact qV|exact qW|refine vq (gz (V.row _) ?_) qN|refine asJ ?_|refine an ⟨nb rfl,asE rfl (λk hk=>asB ?_)⟩ ?_|refine an ⟨nb rfl,af.row ?_ (λj hj k hk=>vq ?_ trivial)⟩ ?_|refine an ?_ ?_));all_goals first|exact cm qV|(simp;done)|(obtain rfl:k=0:=(by omega);exact A7 (C:=λn _=>iD n) (z:=0) (b:=[((i+1:Nat):Int)]) rfl hj fr (λj hj=>by obtain rfl:j=0:=(by simpa using hj);rfl));done)|(refine aU a ⟨by(try simp only[fC]at *);omega,(hp.trans (adN h).symm),?_⟩;(refine aV.mk rfl qN qN ?_ ?_ <;> repeat' (first|exact tv|exact qV|exact qW|refine asJ ?_|refine an ⟨nb rfl,asE rfl (λk hk=>asB ?_)⟩ ?_|refine an ⟨nb rfl,af.row ?_ (λj hj k hk=>vq ?_ trivial)⟩ ?_|refine an ?_ ?_));all_goals first|exact cm qV|exact rfl;done)
def qo(l:List dm)(i:Int):Int:=bif decide (i=0) then 0 else bif (bif decide (i<0) then true else decide ((l.length:Int)<i)) then -1 else (l.getD (i-1).toNat .z).term
def DI(l:List dm):Int:=bif decide ((l.length:Int)=0) then 0 else (l.getD ((l.length:Int)-1).toNat .z).term
def aeb(l:List dm)(n t:Int):Bool:=bif decide (DI l<t) then true else bif decide (t=DI l) then decide ((l.length:Int)<=n) else false
theorem ae7{p q:Prop}[Decidable p][Decidable q](h:(bif decide p then true else decide q)=false):¬p/\¬q:=by
 by_cases hp:p
 ·rw[bg hp]at h;cases h
 ·rw[aX hp,di]at h;exact⟨hp,bJ h⟩
theorem apa{p q:Prop}[Decidable p][Decidable q](h:(bif decide p then true else decide q)=true):p\/q:=by
 by_cases hp:p
 ·exact .inl hp
 ·rw[aX hp,di]at h;exact .inr (aS h)
theorem L6(l:List dm)(i:Int)(hl:l.length<100000):aQ 142 [.d (jg l),iV i] (iV (qo l i)):=by
 refine asz Tryz.func142 λX=>?_
 (repeat' (first|refine oz ?_|refine ai.mk (λh=>?_) (λh=>?_)|refine ag.a ?_|refine Fin.tell (vq (gz iV ?_) tv)|refine ag.mk ?_ ?_))<;>try exact aB
 all_goals first|exact(dF h).symm|(rename_i h0;unfold qo;rw[h0,di];first|exact(dF h).symm|exact(bz h).symm)|(have hb:=ae7 h;first|(simp only[dQ];omega)|(rename_i h0;have h0:=bJ h0;(omega)))
theorem aea(l:List dm)(hl:l.length<100000):aQ 56 [.d (jg l)] (bQ [iV l.length,iV (DI l)]):=by
 refine asz Tryz.func56 λX=>?_
 (repeat' (first|refine oz ?_|refine at7 [] [(0,0,false,[]),(0,0,false,[]),(0,0,false,[]),(0,0,false,[]),(0,0,false,[]),(0,0,false,[]),(0,0,false,[]),(0,0,false,[]),(0,0,false,[]),(0,0,false,[]),(0,0,false,[])] (by kernel_rfl) (by kernel_rfl) ?_|refine mc ?_ ?_|refine ai.mk (λh=>?_) (λh=>?_)|refine asM rfl ⟨vq (gz iV ?_) tv,vq (gz iV ?_) tv,tv⟩))<;>(try(refine dh.mk ?_;repeat' (first|exact tv|exact rfl|refine an ?_ ?_|refine ag.mk ?_ ?_)))
 all_goals try exact aB
 all_goals first|(have h0:=aS h;first|omega|exact(dF h).symm)|(have h0:=bJ h;first|omega|exact(bz h).symm)
theorem WB(l:List dm)(n t:Int)(hl:l.length<100000):aQ 207 [.d (jg l),iV n,iV t] (.b (decide (qo l n=t))):=by
 refine asz Tryz.func207 λX=>?_
 repeat' (first|refine oz ?_|refine asA (L6 l n hl) ?_|refine Fin.tell (vq (gz V.b ?_) tv))
 exact rfl
theorem anc(l:List dm)(n t:Int)(hl:l.length<100000):aQ 211 [.d (jg l),iV n,iV t] (.b (aeb l n t)):=by
 refine asz Tryz.func211 λX=>?_
 repeat' (first|refine oz ?_|refine asA (aea l hl) ?_|refine ag.a ?_|refine Fin.tell (vq (gz V.b ?_) tv))
 exact rfl
def Y4(l:List aT):aG:=dw 138 4 oH .z l
def kP(t w:Int):List aT:=[⟨2,t,w,[]⟩]
def sK(l:List Bool):aG:=dw 4 1 (λb _=>bD b) false l
theorem WZ(t w:Int):ae 93 [iV t,iV w] e0 (λrv rt=>rv=(.row 0 1)/\rt=⟨[(0,Y4 (kP t w))],1⟩):=by
 refine asz Tryz.func93 λX=>?_
 repeat' (first|refine oz ?_|refine ag.a ?_|refine asC qN qN qW ⟨⟨nb rfl,af.row rfl (λj hj k hk=>?_)⟩,tv⟩)
 obtain rfl:j=0:=Nat.lt_one_iff.1 hj;rcases k with _|_|_|_|k <;> first|exact qV|exact VW.dE|exact au (show k+4<4 from hk) (by omega)
theorem abI(s:bP)(t:Int)(h:t<=s.term):aQ 162 [jc s,iV t] .dE:=by
 refine asz Tryz.func162 λX=>?_
 repeat' (first|refine oz ?_|refine asL (λh=>?_)|refine ag.a ?_|refine Fin.tell (VW.refl tv))
 skip
theorem abH(s:bP)(t:Int)(h:s.term<t):ae 162 [jc s,iV t] e0 (λrv rt=>rv=(.row 1 1)/\rt=⟨[(1,Y4 (kP t 0))],2⟩):=by
 refine asz Tryz.func162 λX=>?_
 repeat' (first|refine oz ?_|refine ai.n (λh=>?_)|refine asP (WZ t 0) ?_|refine ag.a ?_|refine asC qN qN qW ⟨⟨nb rfl,af.row rfl fv⟩,tv⟩)
 skip
theorem Qo(s:bP)(me:Int)(h1:0<=me/\me<5)(h2 : -10<=s.term/\s.term<1048576):ae 54 [jc s,iV me] e0 (λrv rt=>rv=(bQ [.row 1 1,iV 0])/\rt=⟨[(1,Y4 (kP (s.term+1) (me+1)))],2⟩):=by
 refine asz Tryz.func54 λX=>?_
 (repeat' (first|refine oz ?_|refine ai.n (λh=>?_)|refine ai.mk (λh=>au (apa h) (by omega)) (λh=>?_)|refine asP (WZ (s.term+1) (me+1)) ?_|refine ag.a ?_|refine asC qN qN (asG [.row 1 1,iV 0] rfl fr vw) ⟨⟨nb rfl,af.row rfl fv⟩,tv⟩|refine ag.mk ?_ ?_))<;>try exact aB
def Hl(l:List Bool):Int:=(l.foldl (λn b=>bif b then n+1 else n) (0:Int))
theorem acB:∀(l:List Bool) (n:Int),n<=l.foldl (λn b=>bif b then n+1 else n) n/\l.foldl (λn b=>bif b then n+1 else n) n<=n+l.length
 |[],n=>by simp
 |b::r,n=>by
  have:=acB r (bif b then n+1 else n);rw[List.foldl_cons,ny];cases b <;> simp only[dR,di]at this ⊢ <;> omega
theorem anZ(l:List Bool)(hn:l.length<=100):ae 163 [.row 0 l.length] ⟨[(0,sK l)],1⟩ (λrv rt=>rv=(.b (decide ((l.length:Int) / 2<Hl l)))/\rt=⟨[(0,sK l)],1⟩):=by
 refine asz Tryz.func163 λX=>?_
 (repeat' (first|refine oz ?_|refine asI l.length (λi (a:Int)=>⟨21,[(0,.row 0 l.length),(3,iV a),(6,.row 0 l.length),(7,iV l.length),(8,iV i)],⟨[(0,sK l)],1⟩⟩) (λi a=>a=Hl (l.take i)) 0 ?_ ?_ (λi a hi hp=>?_)|refine ai.mk (λh=>?_) (λh=>?_)|refine asY qN (vq (gz V.b ?_) tv) ⟨⟨nb rfl,af.row rfl fv⟩,tv⟩|refine ag.mk ?_ ?_))<;>try exact aB
 all_goals (try(first|(have hh:l.getD i false=true:=h;refine aU (a+1) ⟨?_,?_,?_⟩)|(have hh:l.getD i false=false:=h;refine aU a ⟨?_,?_,?_⟩)))
 all_goals (try(refine aV.mk rfl qN qN ?_ ?_ <;> repeat' (first|exact tv|exact qV|exact qW|refine an ⟨nb rfl,af.row ?_ (λj hj k hk=>vq ?_ trivial)⟩ ?_|refine an ?_ ?_)))
 all_goals first|exact rfl|((try simp only[fC,fQ,mr,nO]at *);have q:=acB (l.take i) 0;have q2:(l.take i).length<=l.length:=(by rw[dP];omega);first|omega|(refine⟨?_,?_⟩ <;> first|trivial|omega)|(simp only[dQ];have e:Hl (l.take i)=(l.take i).foldl (λn b=>bif b then n+1 else n) (0:Int):=rfl;omega)|(have h9:i<l.length:=(by omega);unfold Hl;rw[Io _ _ false h9,hh,hp];rfl))|((try simp only[fC,fQ,mr,nO]at *);have e:i=l.length:=(by omega);rw[hp,e,oJ];done)
section
abbrev KG(l:Nat):Fence:=Fence.wide.inRound l
def MX:List Oper->Bool
 |[]=>true
 |o::r=>(match o.op with|.defer _=>false|_=>true)&&MX r
theorem adf:∀ {l:List Oper},MX l=true->∀ o∈l,∀ c,o.op ≠ .defer c
 |[],_,o,ho=>by cases ho
 |x::r,h,o,ho=>λc e=>by
  have h:=Bool.and_eq_true_iff.1 (show(_&&MX r)=true from h);rcases List.mem_cons.1 ho with rfl|ho
  ·have h1:=h.1;rw[e]at h1;cases h1
  ·exact adf h.2 o ho c e
theorem apM{l n:Nat}{row:String}{args:Array Value}{w:World}{R:Value->World->Prop}(h:Rows Tryz.prog row args w R):RowsIn (KG l) n Tryz.prog row args w R:=λc cs _=>
 let ⟨v,w',r,s⟩:=h c cs
 ⟨v,w',r,stepsIn_wide.2 s⟩
theorem opR{l n:Nat}{o:Oper}{a:Act}{w:World}{K:Act->World->Prop}{Q:Exit->Act->World->Prop}(h:o.wp Tryz.prog a w K Q)(hnd:∀ c,o.op ≠ .defer c):o.wpIn (KG l) n Tryz.prog a w K Q:=by
 refine⟨λf _=>trivial,?_⟩;rw[Oper.semAt_eq _ _ _ hnd];unfold Oper.wp at h;generalize (execOp a.eval o).run Tryz.prog w=r at h ⊢;cases r with
 |ok x w'=>
  cases x with
  |value v=>exact h
  |skip=>exact h
  |defer d=>exact h
  |enter f args=>exact⟨λe=>(by cases e),callsIn_wide.2 h⟩
  |row q args=>exact⟨λe=>(by cases e),apM h⟩
  |_=>exact h.elim
 |halt x w'=>
  cases x with
  |panic v=>exact h
  |_=>exact h.elim
section
variable {t0:ST} {X:Cx t0} {Q:Exit->AS->Prop} {s s2:AS} {l:Nat}
theorem arA{ops:Array Oper}(hnd:MX ops.toList=true):∀(L:List Nat) (a:Act) (w:World),wpOps Tryz.prog ops (QN X (Q .normal)) L a w->wpOpsIn (KG l) 0 Tryz.prog ops (λe a' w'=>∃ s',Q e s'/\Mod X s' a' w') L a w:=by
 intro L;induction L with
 |nil=>intro a w h;obtain⟨e,s',h1,h2⟩:=h;exact⟨s',h1,h2⟩
 |cons i L ih=>
  intro a w h;unfold wpOps at h;unfold wpOpsIn;split at h
  ·rename_i ho
   rw[ho];exact ih a w h
  ·rename_i o ho
   rw[ho];simp only;split at h
   ·rename_i hw
    rw[if_pos hw];rcases h with h|⟨_,a0,w0,h⟩
    ·refine opR (yF h (λa w h=>ih a w h) (λe a w h=>?_)) (adf hnd o (uX (by rw[qE];exact ho)));obtain⟨rfl,s',h1,h2⟩:=h;exact⟨s',h1,h2⟩
    ·exact au h.1 (by intro e;cases e)
   ·rename_i hw
    rw[if_neg hw];exact⟨λf _=>trivial,ih _ w h⟩
@[irreducible] def TR {t0:ST} (X:Cx t0) (l:Nat) (c:Code) (Q:Exit->AS->Prop) (s:AS):Prop:=
 ∀ a w,Mod X s a w->c.wpIn (KG l) 0 Tryz.prog (λe a' w'=>∃ s',Q e s'/\Mod X s' a' w') a w
theorem TR.h{c:Code}(h:TR X l c Q s):∀ a w,Mod X s a w->c.wpIn (KG l) 0 Tryz.prog (λe a' w'=>∃ s',Q e s'/\Mod X s' a' w') a w:=by unfold TR at h;exact h
theorem TR.mk{c:Code}(h:∀ a w,Mod X s a w->c.wpIn (KG l) 0 Tryz.prog (λe a' w'=>∃ s',Q e s'/\Mod X s' a' w') a w):TR X l c Q s:=by unfold TR;exact h
theorem TR.skip(h:Q .normal s):TR X l .skip Q s:=TR.mk λa w hm=>wpIn_skip ⟨s,h,hm⟩
theorem TR.seq{x y:Code}(h:TR X l x (MQ (TR X l y Q) Q) s):TR X l (.seq x y) Q s:=TR.mk λa w hm=>by
 refine wpIn_seq (wpIn_mono (h.h a w hm) λe a w ⟨s',h1,h2⟩=>?_);cases e with
 |normal=>exact TR.h h1 a w h2
 |_=>exact⟨s',h1,h2⟩
theorem TR.cond{c:Operand}{x y:Code}(h:Nl s c λt=>ai t (TR X l x Q s) (TR X l y Q s)):TR X l (.cond c x y) Q s:=TR.mk λa w hm=>by
 unfold Nl at h;split at h
 ·rename_i t ht
  obtain⟨G,hg,hs,hx⟩:=hm;have hc:=hs.ev c;rw[ht]at hc;have hc:a.eval c = .bool t:=hc;exact wpIn_cond_split hc (λe=>(h.h.1 e).h a w ⟨G,hg,hs,hx⟩) (λe=>(h.h.2 e).h a w ⟨G,hg,hs,hx⟩)
 ·exact h.elim
theorem TR.block{id:Nat}{c:Code}(h:TR X l c (XI id Q) s):TR X l (.block id c) Q s:=TR.mk λa w hm=>by
 refine wpIn_block (wpIn_mono (h.h a w hm) λe a w ⟨s',h1,h2⟩=>?_);cases e with
 |exit i=>
  have h1:_root_.cond (Nat.beq i id) (Q .normal s') (Q (.exit i) s'):=h1;show if i=id then _ else _
  rcases hb:Nat.beq i id with _|_
  ·rw[hb]at h1;rw[if_neg (λe=>by subst e;simp at hb)];exact⟨s',h1,h2⟩
  ·rw[hb]at h1;rw[if_pos (dH hb)];exact⟨s',h1,h2⟩
 |_=>exact⟨s',h1,h2⟩
theorem TR.region{id:Nat}{ops:Array Oper}(hnd:MX ops.toList=true)(h:tX ae ops.toList ops.toList s (Q .normal)):TR X l (.region id ops false) Q s:=TR.mk λa w hm=>by
 have h1:=AY (X:=X) ops ops.toList 0 rfl s a w _ h hm;rw[<-List.range_eq_range',qX]at h1;exact wpIn_region (arA hnd _ a w h1)
end
section
variable {G G':Gh} {o o':Nat->aG} {w w':World}
theorem aO.side(hs:w.heap.size<=w'.heap.size)(hk:∀ b,G.F b->b<w.heap.size->w'.heap[b]?=w.heap[b]?){v:V}:∀ {u:Value},aO G o w v u->aO G o w' v u:=by
 induction v with
 |top=>exact λ_=>trivial
 |d x=>intro u hd;exact hd.mono hs hk (λ_ h _=>h)
 |dE=>exact λh=>h
 |dp s g=>
  rintro u ⟨b,off,rfl,h1,h2⟩;refine⟨b,off,rfl,λhs'=>⟨(h1 hs').1,su (h1 hs').2 hs⟩,λk hk'=>?_⟩;obtain⟨x,hx,ho,hd⟩:=h2 k hk';exact⟨x,(World.cell?_of_block (a:=⟨b,off+k,none⟩) (hk b (h1 qO).1 (h1 qO).2)).trans hx,ho,hd.mono hs hk (λ_ h _=>h)⟩
 |ptr i off=>exact λh=>h
 |rp i n j c=>exact λh=>h
 |row i n=>exact λh=>h
 |vw i n lo m=>exact λh=>h
 |agg n g ih=>
  rintro u ⟨cs,rfl,hn,hc⟩;exact⟨cs,rfl,hn,λk x hx=>⟨(hc k x hx).1,ih k (hc k x hx).2⟩⟩
 |fV n g ih=>
  rintro u ⟨cs,rfl,hn,hc⟩;exact⟨cs,rfl,hn,λk x hx=>ih k (hc k x hx)⟩
 |fn f nf n g ih=>
  rintro u ⟨fs,cs,rfl,hn,hm,hc⟩;exact⟨fs,cs,rfl,hn,hm,λk x hx=>ih k (hc k x hx)⟩
 |mp i=>exact λh=>h
 |ku t w' x ih=>intro u hu;exact⟨λe=>ih (hu.1 e),hu.2⟩
theorem Good.side(hg:Good G o w)(hs:w.heap.size<=w'.heap.size)(hk:∀ b,(G.F b\/∃ i,dA G o i b)->w'.heap[b]?=w.heap[b]?):Good G o w':=by
 have hv:∀ {v:V} {u:Value},aO G o w v u->aO G o w' v u:=λh=>aO.side hs (λb hb _=>hk b (.inl hb)) h
 refine { blk:=?_,row:=?_,map:=?_,wS:=hg.wS,vK:=λb hb=>su (hg.vK b hb) hs,sep:=hg.sep }
 ·intro i n g ho;obtain⟨b,cs,t,h1,h2,h3,h4⟩:=hg.blk i n g ho;refine⟨b,cs,t,h1,(hk b (.inr ⟨i,?_⟩)).trans h2,h3,λk x hx=>⟨(h4 k x hx).1,hv (h4 k x hx).2⟩⟩;unfold dA;rw[ho];exact h1
 ·intro i E s n g ho;obtain⟨h1,h2,h3,A,c,h4,h5⟩:=hg.row i E s n g ho;refine⟨h1,h2,h3,A,c,h4,?_⟩;rcases h5 with h5|⟨hc,b,cs,rfl,h6,h7,h8,h9,h10⟩
  ·exact .inl h5
  ·refine .inr ⟨hc,b,cs,rfl,(hk b (.inr ⟨i,?_⟩)).trans h6,h7,h8,h9,λj hj k hk'=>?_⟩
   ·unfold dA;rw[ho];exact⟨_,c,h4,hc,0,rfl⟩
   ·obtain⟨x,hx,AB,CB⟩:=h10 j hj k hk';exact⟨x,hx,AB,hv CB⟩
 ·intro i es ho;obtain⟨b,jd,cl,h1,h2,h3⟩:=hg.map i es ho;refine⟨b,jd,cl,h1,(hk b (.inr ⟨i,?_⟩)).trans h2,h3.to λk=>?_⟩
  ·unfold dA;rw[ho];exact h1
  ·cases dU es k
   ·trivial
   ·exact λu hu=>hv hu
theorem bV.side{t:ST}(hg:bV G t w)(hs:w.heap.size<=w'.heap.size)(hk:∀ b,(G.F b\/∃ i,dA G t.get i b)->w'.heap[b]?=w.heap[b]?):bV G t w':=⟨hg.aK.side hs hk,hg.jK⟩
theorem bV.putObj{t:ST}{l:Nat}{ob:Obj}(hg:bV G t w)(hF:¬G.F l)(ho:∀ i,¬dA G t.get i l):bV G t (w.putObj l ob):=by
 refine hg.side (by simp[World.putObj]) λb hb=>World.putObj_heap_other ?_
 rintro rfl;rcases hb with hb|⟨i,hb⟩
 ·exact hF hb
 ·exact ho i hb
theorem bV.alloc{t:ST}{ob:Obj}(hg:bV G t w):bV G t (w.alloc ob):=by
 refine hg.side (by simp) λb hb=>Below.heap_alloc w ob b ?_
 rcases hb with hb|⟨i,hb⟩
 ·exact hg.aK.vK b hb
 ·exact hg.aK.lt hb
theorem Stp.alloc(ob:Obj):Stp G o w G o (w.alloc ob):=
 ⟨rfl,rfl,rfl,by simp,λb hb _=>Below.heap_alloc w ob b hb,λ_ h _=>h,λ_ h=>.inl h,λ_ _ h=>.inl h,λ_ _ h=>h,λ_ A c h=>⟨A,c,h,λ_ _ m g ho=>⟨m,g,ho,bu _,λ_=>⟨rfl,rfl⟩⟩⟩⟩
theorem Stp.putObj{l:Nat}(ob:Obj)(h:Stp G o w G' o' w')(hl:w.heap.size<=l):Stp G o w G' o' (w'.putObj l ob) where
 os:=h.os
 tape:=h.tape
 output:=h.output
 size:=by have:=h.size;simpa [World.putObj] using this
 keep:=λb hb hn=>(World.putObj_heap_other qO).trans (h.keep b hb hn)
 F1:=h.F1
 F2:=h.F2
 own:=h.own
 loc:=h.loc
 row:=h.row
theorem Stp.round{l:Nat}{ob ob':Obj}(hl:w.heap[l]?=some ob)(h:Stp G o (w.putObj l ob') G' o' w'):Stp G o w G' o' (w'.putObj l ob) where
 os:=h.os
 tape:=h.tape
 output:=h.output
 size:=by have:=h.size;simpa [World.putObj] using this
 keep:=λb hb hn=>by
  by_cases e:b=l
  ·subst e;have hlt:b<w'.heap.size:=su (by simpa [World.putObj] using hb) h.size;rw[World.putObj_heap_same hlt,hl]
  ·exact(World.putObj_heap_other e).trans ((h.keep b (by simpa [World.putObj] using hb) hn).trans (World.putObj_heap_other e))
 F1:=λb hf hb=>h.F1 b hf (by simpa [World.putObj] using hb)
 F2:=λb hf=>by have:=h.F2 b hf;simpa [World.putObj] using this
 own:=λi b ho=>by have:=h.own i b ho;simpa [World.putObj] using this
 loc:=h.loc
 row:=h.row
end
end
def Bf(l:List dm)(n dK:Int):List dm:=if (bif (bif decide (n<0) then true else decide ((l.length:Int)<n)) then true else decide (dK<1))=true then [] else (l.drop n.toNat).take (min dK ((l.length:Int)-n)).toNat
theorem Yc{l:List dm}{n dK:Int}(h:(bif (bif decide (n<0) then true else decide ((l.length:Int)<n)) then true else decide (dK<1))=false):0<=n/\n<=l.length/\1<=dK:=by
 by_cases h1:n<0
 ·rw[bg h1]at h;cases h
 ·rw[aX h1,di]at h;by_cases h2:(l.length:Int)<n
  ·rw[bg h2]at h;cases h
  ·rw[aX h2,di]at h;have:=bJ h;omega
theorem anJ{l:List dm}{a j:Nat}{m:Nat}(hj:j<m):l.getD (a+j) .z=((l.drop a).take m).getD j .z:=by
 rw[bC,bC,oh,if_pos hj,sD]
theorem acu(l:List dm)(n dK:Int)(hn:l.length<=100000):aQ 143 [.d (jg l),iV n,iV dK] (.d (jg (Bf l n dK))):=by
 refine asz Tryz.func143 λX=>?_
 (repeat' (first|refine oz ?_|refine asA (VT (min dK (((l.length-n.toNat:Nat):Int))).toNat (λj=>qx (l.getD (n.toNat+j) .z)) (by omega)) ?_|refine ai.mk (λh=>?_) (λh=>?_)|refine ag.a ?_|refine Fin.tell (VW.sl ?_ (λj hj k hk=>?_))|refine Fin.tell (asQ ?_)|refine ag.mk ?_ ?_))<;>try exact aB
 all_goals first|(have hb:=Yc h;(omega))|(unfold Bf;rw[if_pos h];rfl)|(have hb:=Yc h;unfold Bf;rw[if_neg (by rw[h];decide),dP,fE];omega)|(have hb:=Yc h;unfold Bf;rw[if_neg (by rw[h];decide)];exact gz (λe=>qx e k) (anJ (by omega)))
end Go.Proofs.YtnibdnahojjcgaaGreat
