/- A part of the proof. -/
import Derived.Test.YtnibdnahojjcgaaGreatB17
namespace Go.Proofs.YtnibdnahojjcgaaGreat
set_option maxRecDepth 100000
set_option maxHeartbeats 16000000
set_option linter.unusedVariables false
set_option linter.unusedSimpArgs false
open Go.RowKit
theorem akz(l:List Int)(hl:l.length<=100000)(hr:kG l=false):aQ 226 [.d (iH l)] (bQ [.d (dB []),iV 1]):=by
 refine asz Tryz.func226 λX=>?_
 repeat' (first|refine oz ?_|refine ai.mk (λh=>?_) (λh=>au h (by rw[hr];decide))|refine asA (QU l hl) ?_|refine asM rfl ⟨VW.dE,VW.refl tv,tv⟩)
 skip
def wE(l:List Int):List UInt8:=if kG l=true then iP l else []
theorem aaZ(l:List Int)(hl:l.length<=100000):aQ 226 [.d (iH l)] (bQ [.d (dB (wE l)),iV (if kG l=true then 0 else 1)]):=by
 unfold wE;cases hr:kG l
 ·exact akz l hl hr
 ·exact aky l hr
def tN(x:uS):Bool:=bif (bif dN x.seq 0 1048576 then dN x.last.code 0 99 else false) then dN x.last.n 0 1048576 else false
def tY(x:uo):Bool:=dN x.bf 1 8
def Fh(v t:Int)(x:gX):Bool:=bif (bif (bif decide ((if kG x.chunks=true then 0 else 1:Int)=0) then dN x.set 1 8 else false) then (bif !x.held then true else decide (2<=v)) else false) then decide ((x.tag.length:Int)<=t) else false
theorem VX{α:Type}(z:α){p:α->Bool}{l:List α}{i:Nat}(h:i<l.length):(l.drop i).all p=bif !p (l.getD i z) then false else (l.drop (i+1)).all p:=by
 rw[wz z h,List.all_cons];cases p (l.getD i z) <;> rfl
theorem aok(x:uS):aQ 258 [afk x] (.b (tN x)):=by
 refine asz Tryz.func258 λX=>?_
 (repeat' (first|refine oz ?_|refine asA (CW _ _ _) ?_|refine aU _ (ed (λht=>ae.tell (CW _ _ _) vw ⟨rfl,rfl⟩) ?_)|refine ag.a ?_|refine Fin.tell (vq (gz V.b ?_) tv)))<;>try exact aB
theorem aoy(x:uo):aQ 262 [afo x] (.b (tY x)):=by
 refine asz Tryz.func262 λX=>?_
 (repeat' (first|refine oz ?_|refine asA (CW _ _ _) ?_|refine ag.a ?_|refine Fin.tell (vq (gz V.b ?_) tv)))<;>try exact aB
theorem akU(l:List uS)(hn:l.length<=100000):aQ 257 [.d (EU l),.fn 258 0 0 (λ_=>.top)] (.b (l.all tN)):=by
 refine asz Tryz.func257 λX=>?_
 (repeat' (first|refine oz ?_|refine asI l.length (λi (a:Unit)=>⟨18,[(1,.fn 258 0 0 (λ_=>.top)),(7,.d (EU l)),(8,iV l.length),(9,iV i)],e0⟩) (λi a=>l.all tN=(l.drop i).all tN) () ?_ ?_ (λi a hi hp=>?_)|refine aU () ⟨?_,?_,?_⟩|refine asA (aok (l.getD i .z)) ?_|refine ai.mk (λh=>?_) (λh=>?_)|refine ag.a ?_|refine Fin.tell (vq (gz V.b ?_) tv)|refine ag.mk ?_ ?_))<;>try exact aB
 all_goals (try(refine aV.mk rfl qN qN ?_ ?_ <;> repeat' (first|exact tv|exact qV|refine asJ ?_|refine an ?_ ?_)))
 all_goals first|(have h9:i<l.length:=om;first|omega|(rw[hp,VX .z h9];first|exact(dF h).symm|exact bz h))|(have h9:=bJ h;rw[hp,sZ (by omega)];rfl)
theorem akV(l:List uo)(hn:l.length<=100000):aQ 261 [.d (l9 l),.fn 262 0 0 (λ_=>.top)] (.b (l.all tY)):=by
 refine asz Tryz.func261 λX=>?_
 (repeat' (first|refine oz ?_|refine asI l.length (λi (a:Unit)=>⟨18,[(1,.fn 262 0 0 (λ_=>.top)),(7,.d (l9 l)),(8,iV l.length),(9,iV i)],e0⟩) (λi a=>l.all tY=(l.drop i).all tY) () ?_ ?_ (λi a hi hp=>?_)|refine aU () ⟨?_,?_,?_⟩|refine asA (aoy (l.getD i .z)) ?_|refine ai.mk (λh=>?_) (λh=>?_)|refine ag.a ?_|refine Fin.tell (vq (gz V.b ?_) tv)|refine ag.mk ?_ ?_))<;>try exact aB
 all_goals (try(refine aV.mk rfl qN qN ?_ ?_ <;> repeat' (first|exact tv|exact qV|refine asJ ?_|refine an ?_ ?_)))
 all_goals first|(have h9:i<l.length:=om;first|omega|(rw[hp,VX .z h9];first|exact(dF h).symm|exact bz h))|(have h9:=bJ h;rw[hp,sZ (by omega)];rfl)
theorem aoi(v t:Int)(x:gX)(hn:x.chunks.length<=100000):ae 297 [Yn x,.ptr 0 0,.ptr 1 0] ⟨[(0,.blk 1 (λ_=>iV v)),(1,.blk 1 (λ_=>iV t))],2⟩ (λrv rt=>rv=(.b (Fh v t x))/\rt=⟨[(0,.blk 1 (λ_=>iV v)),(1,.blk 1 (λ_=>iV t))],2⟩):=by
 refine asz Tryz.func297 λX=>?_
 (repeat' (first|refine oz ?_|refine asA (aaZ x.chunks hn) ?_|refine aU _ (ed (λht=>ae.tell (CW _ _ _) vw ⟨rfl,rfl⟩) ?_)|refine ag.a ?_|refine asY qN (vq (gz V.b ?_) tv) (by repeat' (first|exact tv|refine an ⟨nb rfl,af.blk ?_⟩ ?_|exact qV|refine an ?_ ?_))))<;>try exact aB
def Jm:aZ:=⟨1,1,0,0,[],[],[]⟩
theorem aav  : aQ 66 [] (jk Jm):=by
 refine asz Tryz.func66 λX=>?_
 repeat' (first|refine oz ?_|refine ag.a ?_|refine Fin.tell (asK ⟨⟨⟨vw,VW.dE⟩,VW.dE⟩,VW.dE⟩))
 skip
def wG(a f:aY):Bool:=if f.num=a.num then decide (f.aJ=2)&&decide (a.aJ=2) else decide (f.num>a.num)
def nR(f:aY):Bool:=decide (1<=f.num/\f.num<=1000)&&(if f.aJ=0 then decide (f.b.length=0) else if f.aJ=2 then decide (f.n=0) else false)
theorem acX(a f:aY):aQ 201 [wW a,wW f] (.b (wG a f)):=by
 refine asz Tryz.func201 λX=>?_
 (repeat' (first|refine oz ?_|refine ai.mk (λh=>?_) (λh=>?_)|refine ag.mk (by decide) ?_|refine ag.mk (λ_=>by decide) ?_|refine ag.mk (λh=>h) ?_|refine Fin.tell (vq (gz V.b ?_) tv)))<;>try exact aB
 all_goals ((simp[dQ,wG]at *;omega))
theorem anQ(f:aY):aQ 218 [wW f] (.b (nR f)):=by
 refine asz Tryz.func218 λX=>?_
 (repeat' (first|refine oz ?_|refine ai.mk (λh=>?_) (λh=>?_)|refine ag.mk (by decide) ?_|refine ag.mk (λ_=>by decide) ?_|refine ag.mk (λh=>h) ?_|refine Fin.tell (vq (gz V.b ?_) tv)))<;>try exact aB
 all_goals (first|(simp[dQ,nR]at *;omega)|(simp[zG,nR]at *;grind))
def iJ(f:aY):List UInt8:=(gI f.num f.aJ).1++(if f.aJ=0 then dV f.n else dV f.b.length++f.b)
def aY.fit(f:aY):Prop:=-9223372036854775808<=f.num/\f.num<=9223372036854775807 /\ -9223372036854775808<=f.aJ/\f.aJ<=9223372036854775807/\f.n<18446744073709551616/\f.b.length<=100000
theorem adZ(f:aY)(hf:f.fit):aQ 180 [wW f] (.d (dB (iJ f))):=by
 have q1:=Gx f.num f.aJ;have q2:=uY f.n;have q3:=uY f.b.length;have q4:=hf.2.2.2.2.2;have e1:f.aJ=0->iJ f=(gI f.num f.aJ).1++dV f.n:=λh=>by unfold iJ;rw[if_pos h]
 have e2:¬f.aJ=0->iJ f=(gI f.num f.aJ).1++dV f.b.length++f.b:=λh=>by unfold iJ;rw[if_neg h,kE]
 refine asz Tryz.func180 λX=>?_
 (repeat' (first|refine oz ?_|refine asP (an9 f.num f.aJ ⟨hf.1,hf.2.1⟩ ⟨hf.2.2.1,hf.2.2.2.1⟩) ?_|refine asA (LZ f.n hf.2.2.2.2.1) ?_|refine asA (LZ f.b.length (by have:=hf.2.2.2.2.2;omega)) ?_|refine ai.mk (λh=>?_) (λh=>?_)|refine ag.mk (by decide) ?_|refine Fin.bytes rfl rfl ?_ ?_|refine ag.mk ?_ ?_))<;>try exact aB
 all_goals first|(rw[e1 (aS h)];simp only[bW];done)|(rw[e1 (aS h)];exact λj _=>AV rfl (λ_=>rfl) (λ_=>rfl) j)|(rw[e2 (bJ h)];simp only[bW];done)|(rw[e2 (bJ h)];exact λj _=>AV (by simp) (AV rfl (λ_=>rfl) (λ_=>rfl)) (λ_=>rfl) j)
def kR(num n:Int):List aY:=if n=0 then [] else [⟨num,0,n.toNat,[]⟩]
def pM(num:Int)(b:List UInt8):List aY:=if b=[] then [] else [⟨num,2,0,b⟩]
theorem acw{l:List aY}{f:aY}{N:Nat}{h:Nat->Nat->V}(hc:∀ k,k<4->VW N (h 0 k) (.d (jW f k))):∀ j,j<l.length+1->∀ k,k<4->VW N (appG l.length (λj k=>.d (jW (l.getD j .z) k)) h j k) (.d (jW ((l++[f]).getD j .z) k)):=λj hj k hk=>by
 refine oq rfl (by simpa using hj) fr (λj hj=>?_);obtain rfl:j=0:=by simpa using hj
 exact hc k hk
theorem Ip(num n:Int)(l:List aY)(hl:l.length<=1000)(h0:0<=n/\n<=1000000000):ae 224 [iV num,iV n,.ptr 0 0] ⟨[(0,.blk 1 (λ_=>.row 1 l.length)),(1,dw 163 4 jW .z l)],2⟩ (λrv rt=>rv = .top/\rt=⟨[(0,.blk 1 (λ_=>.row 1 (l++kR num n).length)),(1,dw 163 4 jW .z (l++kR num n))],2⟩):=by
 refine asz Tryz.func224 λX=>?_
 (repeat' (first|refine oz ?_|refine ai.mk (λh=>?_) (λh=>?_)|refine ag.a ?_|refine asC qN qN VW.top ⟨⟨nb rfl,af.blk ⟨tv,vq (gz (V.row 1) ?_) qN⟩⟩,⟨nb rfl,af.row ?_ ?_⟩,tv⟩|refine ag.mk ?_ ?_))<;>try exact aB
 all_goals first|(have e:n≠0:=(by simpa using h);unfold kR;rw[if_neg e];first|(simp;done)|(refine acw (λk hk=>by rcases k with _|_|_|_|k;exact qV;exact qV;exact vq (gz (V.int .u64) (show n=(n.toNat:Int) by omega)) tv;exact VW.dE;omega)))|(have e:n=0:=(by simpa using h);unfold kR;rw[if_pos e,pG];done)|(have e:n=0:=(by simpa using h);unfold kR;rw[if_pos e,pG];exact λj hj k hk=>VW.refl tv)
theorem aaj(num:Int)(b:List UInt8)(l:List aY)(hl:l.length<=1000):ae 225 [iV num,.d (dB b),.ptr 0 0] ⟨[(0,.blk 1 (λ_=>.row 1 l.length)),(1,dw 163 4 jW .z l)],2⟩ (λrv rt=>rv = .top/\rt=⟨[(0,.blk 1 (λ_=>.row 1 (l++pM num b).length)),(1,dw 163 4 jW .z (l++pM num b))],2⟩):=by
 refine asz Tryz.func225 λX=>?_
 (repeat' (first|refine oz ?_|refine ai.mk (λh=>?_) (λh=>?_)|refine ag.a ?_|refine asC qN qN VW.top ⟨⟨nb rfl,af.blk ⟨tv,vq (gz (V.row 1) ?_) qN⟩⟩,⟨nb rfl,af.row ?_ ?_⟩,tv⟩|refine ag.mk ?_ ?_))<;>try exact aB
 all_goals first|(have e:b≠[]:=(by intro e;subst e;simp at h);unfold pM;rw[if_neg e];first|(simp;done)|(refine acw (λk hk=>by rcases k with _|_|_|_|k;exact qV;exact qV;exact qV;exact qV;omega)))|(have e:b=[]:=(by simpa using h);unfold pM;rw[if_pos e,pG];done)|(have e:b=[]:=(by simpa using h);unfold pM;rw[if_pos e,pG];exact λj hj k hk=>VW.refl tv)
def zy(c:aI):List aY:=[]++kR 1 c.kind
def zx(c:aI):List aY:=zy c++kR 2 c.bf
def zt(c:aI):List aY:=zx c++kR 3 c.seq
def zq(c:aI):List aY:=zt c++kR 4 c.set
def zn(c:aI):List aY:=zq c++kR 5 c.id
def vZ(c:aI):List aY:=zn c++kR 6 c.n
def qR(c:aI):List aY:=vZ c++pM 7 (wE c.chunks)
def rZ(c:aI):List aY:=qR c++pM 8 c.text
def gJ(c:aI)(v:Int):List aY:=bif decide (3<=v) then rZ c else qR c
theorem Gv(a n:Int):(kR a n).length<=1:=by unfold kR;split <;> simp
theorem acr(a:Int)(b:List UInt8):(pM a b).length<=1:=by unfold pM;split <;> simp
theorem BK(c:aI):(zy c).length<=1/\(zx c).length<=2/\(zt c).length<=3/\(zq c).length<=4/\(zn c).length<=5/\(vZ c).length<=6/\(qR c).length<=7/\(rZ c).length<=8:=by
 have h1:=Gv 1 c.kind;have h2:=Gv 2 c.bf;have h3:=Gv 3 c.seq;have h4:=Gv 4 c.set;have h5:=Gv 5 c.id;have h6:=Gv 6 c.n;have h7:=acr 7 (wE c.chunks);have h8:=acr 8 c.text;simp only[rZ,qR,vZ,zn,zq,zt,zx,zy,bW,List.length_nil];omega
structure YN (c:aI):Prop where
 kind:0<=c.kind/\c.kind<=1000000000
 bf:0<=c.bf/\c.bf<=1000000000
 seq:0<=c.seq/\c.seq<=1000000000
 set:0<=c.set/\c.set<=1000000000
 id:0<=c.id/\c.id<=1000000000
 n:0<=c.n/\c.n<=1000000000
 chunks:c.chunks.length<=100000
 text:c.text.length<=1000
theorem aeF{N:Nat}(b:List UInt8):VW N (.d (aeu (iU b))) (.d (dB b)):=by
 refine VW.sl (by simp[iU,ByteArray.size]) (λj hj k hk=>?_);simp[iU,fO]
theorem ajU(c:aI)(v:Int)(hc:YN c):aQ 193 [jI c,iV v] (.d (iW (gJ c v))):=by
 refine asz Tryz.func193 λX=>?_
 (repeat' (first|refine asX 1 0 163 (λj k=>.d (jW (([]:List aY).getD j .z) k)) rfl rfl qN rfl qN (T.seq ?_)|refine oz ?_|refine asO [1,2] (Ip 1 c.kind [] (by simp) hc.kind) rfl rfl rfl vw (by repeat' (first|exact tv|refine an ⟨_,rfl,af.blk ?_⟩ ?_|refine an ⟨_,rfl,af.row rfl fv⟩ ?_|exact qW|refine an ?_ ?_)) ?_|refine asO [1,2] (Ip 2 c.bf (zy c) (by have:=BK c;omega) hc.bf) rfl rfl rfl vw (by repeat' (first|exact tv|refine an ⟨_,rfl,af.blk ?_⟩ ?_|refine an ⟨_,rfl,af.row rfl fv⟩ ?_|exact qW|refine an ?_ ?_)) ?_|refine asO [1,2] (Ip 3 c.seq (zx c) (by have:=BK c;omega) hc.seq) rfl rfl rfl vw (by repeat' (first|exact tv|refine an ⟨_,rfl,af.blk ?_⟩ ?_|refine an ⟨_,rfl,af.row rfl fv⟩ ?_|exact qW|refine an ?_ ?_)) ?_|refine asO [1,2] (Ip 4 c.set (zt c) (by have:=BK c;omega) hc.set) rfl rfl rfl vw (by repeat' (first|exact tv|refine an ⟨_,rfl,af.blk ?_⟩ ?_|refine an ⟨_,rfl,af.row rfl fv⟩ ?_|exact qW|refine an ?_ ?_)) ?_|refine asO [1,2] (Ip 5 c.id (zq c) (by have:=BK c;omega) hc.id) rfl rfl rfl vw (by repeat' (first|exact tv|refine an ⟨_,rfl,af.blk ?_⟩ ?_|refine an ⟨_,rfl,af.row rfl fv⟩ ?_|exact qW|refine an ?_ ?_)) ?_|refine asO [1,2] (Ip 6 c.n (zn c) (by have:=BK c;omega) hc.n) rfl rfl rfl vw (by repeat' (first|exact tv|refine an ⟨_,rfl,af.blk ?_⟩ ?_|refine an ⟨_,rfl,af.row rfl fv⟩ ?_|exact qW|refine an ?_ ?_)) ?_|refine asA (aaZ c.chunks hc.chunks) ?_|refine asO [1,2] (aaj 7 (wE c.chunks) (vZ c) (by have:=BK c;omega)) rfl rfl rfl vw (by repeat' (first|exact tv|refine an ⟨_,rfl,af.blk ?_⟩ ?_|refine an ⟨_,rfl,af.row rfl fv⟩ ?_|exact qW|refine an ?_ ?_)) ?_|refine asO [1,2] (aaj 8 c.text (qR c) (by have:=BK c;omega)) rfl rfl rfl ⟨qV,aeF c.text,qW,tv⟩ (by repeat' (first|exact tv|refine an ⟨_,rfl,af.blk ?_⟩ ?_|refine an ⟨_,rfl,af.row rfl fv⟩ ?_|exact qW|refine an ?_ ?_)) ?_|refine ai.mk (λh=>?_) (λh=>?_)|refine ag.a ?_|refine atj (C:=jW) (z:=.z) (L:=gJ c v) rfl rfl ?_ ?_|refine ag.mk ?_ ?_))<;>try exact aB
 all_goals first|(exact gz List.length (dF h))|(exact gz List.length (bz h))|(simp only[iU,ByteArray.size];have:=hc.text;simp;omega)|(have e:gJ c v=rZ c:=dF h;rw[e];exact λj hj k hk=>rfl)|(have e:gJ c v=qR c:=bz h;rw[e];exact λj hj k hk=>rfl)
theorem I8{f:aY}(h:f.fit):(iJ f).length<=20+f.b.length:=by
 have h1:=Gx f.num f.aJ;have h2:=uY f.n;have h3:=uY f.b.length;unfold iJ;split <;> simp only[bW] <;> omega
def bF(l:List aY):List UInt8:=(l.map iJ).flatten
theorem KI(l:List aY)(f:aY):bF (l++[f])=bF l++iJ f:=by simp[bF]
structure oV (l:List aY):Prop where
 fit:∀ i,i<l.length->(l.getD i .z).fit
 alone:∀ i,i<l.length->nR (l.getD i .z)=true
 Ii:∀ i,i<l.length->(l.getD i .z).b.length<=16384
 Hq:∀ i,0<i->i<l.length->wG (l.getD ((i:Int)-1).toNat .z) (l.getD i .z)=true
 size:(bF l).length<=16384
 len:l.length<=10000
theorem IE{l:List aY}(h:oV l)(i:Nat):(bF (l.take i)).length<=16384:=by
 have h1:=h.size;have h2:bF l=bF (l.take i)++bF (l.drop i):=by
  unfold bF;rw[<-List.flatten_append,<-List.map_append,List.take_append_drop]
 rw[h2,bW]at h1;omega
theorem ad8(l:List aY)(hl:oV l):aQ 179 [.d (iW l)] (iV 0):=by
 refine asz Tryz.func179 λX=>?_
 (repeat' (first|refine oz ?_|refine asD 7 [] [o0,o0,o0,o0,o0,o0,o0,o0,o0,o0,o0,o0,o0] ?_|refine mc ?_ ?_|refine asI l.length (λi (a:Nat)=>⟨43,[(0,.d (iW l)),(3,iV a),(6,.d (iW l)),(7,iV l.length),(8,iV i)],e0⟩) (λi a=>a=(bF (l.take i)).length) 0 ?_ ?_ (λi a hi hp=>?_)|refine aU (a+(iJ (l.getD i .z)).length) ⟨?_,?_,?_⟩|refine asA (anQ (l.getD i .z)) ?_|refine asA (adZ (l.getD i .z) (hl.fit i (by have h9:=aS ‹decide ((i:Int)<(l.length:Int))=true›;omega))) ?_|refine bn.val (.b (wG (l.getD ((i:Int)-1).toNat .z) (l.getD i .z))) ?_|refine ai.mk (λh=>?_) (λh=>?_)|refine ag.a ?_|refine Fin.tell (vq (gz iV ?_) tv)|refine ag.mk ?_ ?_))<;>(try(refine dh.mk ?_;repeat' (first|exact tv|exact rfl|refine⟨_,λht=>ae.tell (acX (l.getD ((i:Int)-1).toNat .z) (l.getD i .z)) ⟨agg,agg,tv⟩ ⟨rfl,rfl⟩,?_⟩|refine an ?_ ?_|refine ag.mk ?_ ?_)))
 all_goals try exact aB
 all_goals first|((try simp only[fC,fQ]at *);have h9:i<l.length:=(by omega);have h8:=I8 (hl.fit i h9);have h7:=IE hl i;have h6:=hl.len;have h5:=hl.Ii i h9;first|omega|(simp only[dQ];omega)|(exfalso;have h4:=hl.alone i h9;simp_all;done)|(exfalso;by_cases h0:0<i <;> first|(have h4:=hl.Hq i h0 h9;simp_all;done)|(simp_all;done)|(simp_all;omega))|(rw[hp,lX aY.z h9,KI,bW];done))|((try simp only[fC,fQ]at *);have h7:=IE hl i;exfalso;omega)
theorem akT(v t:Int)(l:List gX)(hn:l.length<=100000)(hc:∀ i,i<l.length->(l.getD i .z).chunks.length<=100000):ae 296 [.d (jr l),.fn 297 0 2 (λk=>.ptr k 0)] ⟨[(0,.blk 1 (λ_=>iV v)),(1,.blk 1 (λ_=>iV t))],2⟩ (λrv rt=>rv=(.b (l.all (Fh v t)))/\rt=⟨[(0,.blk 1 (λ_=>iV v)),(1,.blk 1 (λ_=>iV t))],2⟩):=by
 refine asz Tryz.func296 λX=>?_
 (repeat' (first|refine oz ?_|refine asI l.length (λi (a:Unit)=>⟨18,[(1,.fn 297 0 2 (λk=>.ptr k 0)),(7,.d (jr l)),(8,iV l.length),(9,iV i)],⟨[(0,.blk 1 (λ_=>iV v)),(1,.blk 1 (λ_=>iV t))],2⟩⟩) (λi a=>l.all (Fh v t)=(l.drop i).all (Fh v t)) () ?_ ?_ (λi a hi hp=>?_)|refine aU () ⟨?_,?_,?_⟩|refine asH [0,1] (aoi v t (l.getD i .z) (hc i om)) ?_|refine ai.mk (λh=>?_) (λh=>?_)|refine ag.a ?_|refine asY qN (vq (gz V.b ?_) tv) (by repeat' (first|exact tv|refine an ⟨nb rfl,af.blk ?_⟩ ?_|exact qV|refine an ?_ ?_))|refine ag.mk ?_ ?_))<;>try exact aB
 all_goals (try(refine aV.mk rfl qN qN ?_ ?_ <;> repeat' (first|exact tv|exact qV|exact qW|refine asJ ?_|refine an ⟨nb rfl,af.blk ?_⟩ ?_|refine an ?_ ?_)))
 all_goals first|(have h9:i<l.length:=om;first|omega|(rw[hp,VX .z h9];first|exact(dF h).symm|exact bz h))|(have h9:=bJ h;rw[hp,sZ (by omega)];rfl)
structure Yo (s:aZ):Prop where
 l1:s.aN.length<=100000
 l2:s.opens.length<=100000
 l3:s.ay.length<=100000
 k1:∀ x∈s.aN,-9223372036854775808<=x.bf/\x.bf<=1000000000000
 k2:∀ x∈s.opens,-9223372036854775808<=x.set/\x.set<=1000000000000
 k3:∀ x∈s.ay,-9223372036854775808<=x.id/\x.id<=1000000000000
 ch:∀ i,i<s.ay.length->(s.ay.getD i .z).chunks.length<=100000
 nx : -9223372036854775807<=s.next/\s.next<=9223372036854775807
def L8(s:aZ)(v:Int):Bool:=bif (bif decide (16<(s.ay.length:Int)) then true else !rq (λx=>x.id) (s.next-1) 0 s.ay) then false else bif decide (v<3) then s.ay.all (Fh v 0) else s.ay.all (Fh v 16)
theorem alG(s:aZ)(v:Int)(hs:Yo s):aQ 263 [jk s,iV v] (.b (L8 s v)):=by
 have hnx:=hs.nx;refine asz Tryz.func263 λX=>?_
 (repeat' (first|refine oz ?_|refine aU _ (ed (λht=>ae.tell (age s.ay (s.next-1) hs.l3 hs.k3) ⟨VW.refl tv,VW.refl tv,asJ trivial,tv⟩ ⟨rfl,rfl⟩) ?_)|refine asO [1,2] (akT v _ s.ay hs.l3 hs.ch) rfl rfl rfl ⟨VW.refl tv,asJ vw,tv⟩ bG ?_|refine ai.mk (λh=>?_) (λh=>?_)|refine ag.a ?_|refine Fin.tell (vq (gz V.b ?_) tv)|refine ag.mk ?_ ?_))<;>try exact aB
 all_goals first|exact(dF h).symm|(rename_i h0;exact((bz h0).trans (dF h)).symm)|(rename_i h0;exact((bz h0).trans (bz h)).symm)
def ET(s:aZ)(v q:Int):Bool:=
 bif (bif (bif !(bif (bif (bif dN s.version 1 3 then dN s.next 1 1048576 else false) then dN s.keep 0 8 else false) then dN s.l7 0 q else false) then true else !(bif rq (λx=>x.bf) 8 0 s.aN then s.aN.all tN else false)) then true
  else !(bif rq (λx=>x.set) 8 0 s.opens then s.opens.all tY else false)) then true else !L8 s v
def JR(s:aZ)(v:Int):Int:=bif !dN v 1 3 then 1 else bif decide (v<3) then (bif ET s v 0 then 6 else 0) else (bif ET s v 64 then 6 else 0)
theorem alC (s : aZ) (v : Int) (hs : Yo s) : aQ 246 [jk s, iV v] (iV (JR s v)) := by
  refine ae.of Tryz.func246 rfl rfl (by simp [Tryz.f246]) λX => ?_
  (repeat' (first | refine oz ?_ | refine ae.tell (CW _ _ _) ⟨VW.refl trivial, VW.refl trivial, VW.refl trivial, trivial⟩ ?_ | refine aU _ (ed (λht => ae.tell (CW _ _ _) ⟨VW.refl trivial, VW.refl trivial, VW.refl trivial, trivial⟩ ⟨rfl, rfl⟩) ?_) | refine ae.tell (agf s.aN 8 hs.l1 hs.k1) ⟨VW.refl trivial, VW.refl trivial, asJ trivial, trivial⟩ ?_ | refine ae.tell (agh s.opens 8 hs.l2 hs.k2) ⟨VW.refl trivial, VW.refl trivial, asJ trivial, trivial⟩ ?_ | refine aU _ (ed (λht => ae.tell (akU s.aN hs.l1) ⟨VW.refl trivial, asJ trivial, trivial⟩ ⟨rfl, rfl⟩) ?_) | refine aU _ (ed (λht => ae.tell (akV s.opens hs.l2) ⟨VW.refl trivial, asJ trivial, trivial⟩ ⟨rfl, rfl⟩) ?_) | refine aU _ (ed (λht => ae.tell (alG s v hs) ⟨agg, VW.refl trivial, trivial⟩ ⟨rfl, rfl⟩) ?_) | refine ai.mk (λh => ?_) (λh => ?_) | refine ag.a ?_ | refine Fin.tell (asF (gz iV ?_) trivial)))<;>try exact aB
  all_goals first | exact (dF h).symm | (rename_i h0 h1; exact ((bz h0).trans ((dF h1).trans (dF h))).symm) | (rename_i h0 h1; exact ((bz h0).trans ((dF h1).trans (bz h))).symm) | (rename_i h0 h1; exact ((bz h0).trans ((bz h1).trans (dF h))).symm) | (rename_i h0 h1; exact ((bz h0).trans ((bz h1).trans (bz h))).symm)
theorem xB{f:aY}(h:nR f=true):1<=f.num/\f.num<=1000/\((f.aJ=0/\f.b=[])\/(f.aJ=2/\f.n=0)):=by
 unfold nR at h;simp only[qc,fC]at h;obtain⟨⟨h1,h2⟩,h3⟩:=h;refine⟨h1,h2,?_⟩;split at h3
 ·rename_i e
  exact .inl ⟨e,uw (aS h3)⟩
 ·split at h3
  ·rename_i e
   exact .inr ⟨e,aS h3⟩
  ·cases h3
theorem Ru{f:aY}(h:nR f=true):gI f.num f.aJ=(dV (qL f.num f.aJ),0)/\qL f.num f.aJ / 8=f.num.toNat/\qL f.num f.aJ % 8=f.aJ.toNat/\qL f.num f.aJ<18446744073709551616:=by
 obtain⟨h1,h2,h3⟩:=xB h;have h4:NE f.num f.aJ=true:=bg ⟨h1,h2,by rcases h3 with h3|h3 <;> simp[h3.1]⟩;refine⟨by unfold gI;rw[if_pos h4],?_,?_,?_⟩ <;> unfold qL <;> rcases h3 with h3|h3 <;> rw[h3.1] <;> omega
theorem Py{f:aY}(h:nR f=true)(r:List UInt8):fP ((gI f.num f.aJ).1++r)=(f.num.toNat,f.aJ.toNat,(gI f.num f.aJ).1.length,0):=by
 obtain⟨h1,h2,h3,h4⟩:=Ru h;obtain⟨h5,h6,h7⟩:=xB h;rw[h1];show fP (dV (qL f.num f.aJ)++r)=(f.num.toNat,f.aJ.toNat,(dV (qL f.num f.aJ)).length,0);unfold fP;rw[wo _ _ h4,if_pos rfl];simp only[h2,h3];rw[if_pos ⟨by omega,by omega,by rcases h7 with h7|h7 <;> rw[h7.1] <;> simp⟩];rfl
theorem I9{f:aY}:iJ f=(gI f.num f.aJ).1++(if f.aJ=0 then dV f.n else dV f.b.length++f.b):=rfl
theorem VN{f:aY}(h:nR f=true):1<=(gI f.num f.aJ).1.length/\(gI f.num f.aJ).1.length<=(iJ f).length:=by
 rw[(Ru h).1];refine⟨KN _,?_⟩;rw[I9,(Ru h).1,bW];exact Nat.le_add_right _ _
theorem aar{f:aY}(h:nR f=true)(hf:f.fit)(hb:f.b.length<=16384)(r:List UInt8):pI (iJ f++r)=((iJ f).length,0):=by
 have hw:=xB h;unfold pI;rw[I9,kE,Py h];simp only[List.drop_left];by_cases e:f.aJ=0
 ·rw[if_pos e,wo _ _ hf.2.2.2.2.1];simp[e,gV]
 ·have e2:f.aJ=2:=by rcases hw.2.2 with hw|hw;exact au hw.1 e;exact hw.1
  rw[if_neg e,kE,wo _ _ qO];simp[e2,gV];rw[if_neg qO,if_neg qO,Nat.add_assoc]
theorem Vk{b:List UInt8}{n m:Nat}(h:cO b=(n,m,0)):aQ 194 [.d (dB b)] (bQ [.d (.v (.int .u64 n)),iV m,iV 0]):=by
 have:=ak3 b;unfold SB at this;rw[h]at this;exact this
theorem aa6{f:aY}(h:nR f=true)(r:List UInt8):aQ 227 [.d (dB ((gI f.num f.aJ).1++r))] (bQ [iV f.num,iV f.aJ,iV (gI f.num f.aJ).1.length,iV 0]):=by
 have:=ala ((gI f.num f.aJ).1++r);unfold SH at this;rw[Py h]at this;obtain⟨h1,h2,h3⟩:=xB h;have e1:((f.num.toNat:Nat):Int)=f.num:=qO;have e2:((f.aJ.toNat:Nat):Int)=f.aJ:=qO;simp only[e1,e2]at this;exact this
theorem aia{a b c:List UInt8}{i:Int}{j:Nat}(hi:i=(a.length:Int)+(b.length:Int)):(a++(b++c)).getD (i.toNat+j) 0=c.getD j 0:=by
 have e:i.toNat+j=a.length+(b.length+j):=qO;rw[e,bC,bC,oW qO,oW qO];congr 2;omega
theorem ane{f:aY}{i n:Nat}{g:Nat->V}(h0:g 0=iV f.num)(h1:g 1=iV f.aJ)(h2:g 2 = .d (.v (.int .u64 f.n)))(h3:g 3 = .row i n)(hn:n=f.b.length):VW 0 (jl i n 1 (λj _=>fO (f.b.getD j 0)) (.agg 4 g)) (wW f):=VW.agg λk hk=>match k,hk with
 |0,_=>by rw[h0];exact qV
 |1,_=>by rw[h1];exact qV
 |2,_=>by rw[h2];exact qV
 |3,_=>by rw[h3,jR,hn];exact qV
 |k+4,h=>au h qO
theorem anf{f:aY}(h:f.b=[]){g:Nat->V}(h0:g 0=iV f.num)(h1:g 1=iV f.aJ)(h2:g 2 = .d (.v (.int .u64 f.n)))(h3:g 3 = .dE):VW 0 (.agg 4 g) (wW f):=VW.agg λk hk=>match k,hk with
 |0,_=>vq h0 trivial
 |1,_=>vq h1 trivial
 |2,_=>vq h2 trivial
 |3,_=>by rw[h3];exact asQ (by rw[h];rfl)
 |k+4,h=>au h qO
theorem ajX(f:aY)(ha:nR f=true)(hf:f.fit)(hw:f.aJ=0):aQ 203 [.d (dB (iJ f))] (wW f):=by
 have e:iJ f=(gI f.num f.aJ).1++dV f.n:=by rw[I9,if_pos hw]
 rw[e];have hv:cO (((gI f.num f.aJ).1++dV f.n).drop (gI f.num f.aJ).1.length)=(f.n,gV f.n,0):=by rw[List.drop_left];have:=wo f.n [] hf.2.2.2.2.1;rwa [pG]at this
 have hl:((gI f.num f.aJ).1++dV f.n).length-(gI f.num f.aJ).1.length=((gI f.num f.aJ).1++dV f.n).length-(gI f.num f.aJ).1.length:=rfl;have hp:=VN ha;have hb:=(xB ha).2.2;have hll:((gI f.num f.aJ).1++dV f.n).length=(gI f.num f.aJ).1.length+(dV f.n).length:=bW;refine asz Tryz.func203 λX=>?_
 (repeat' (first|refine oz ?_|refine asA (aa6 ha (dV f.n)) ?_|refine ae.tell (Vk hv) ⟨IW hl,tv⟩ ?_|refine asL (λh=>?_)|refine ag.mk qN ?_|refine Fin.tell (anf (by rcases hb with hb|hb;exact hb.2;rw[hw]at hb;cases hb.1) rfl rfl rfl rfl)|refine ag.mk ?_ ?_))<;>try exact aB
theorem ajW(f:aY)(ha:nR f=true)(hf:f.fit)(hw:f.aJ=2):aQ 203 [.d (dB (iJ f))] (wW f):=by
 have e:iJ f=(gI f.num f.aJ).1++(dV f.b.length++f.b):=by rw[I9,if_neg qO]
 rw[e];have hn:=hf.2.2.2.2.2;have hv:cO (((gI f.num f.aJ).1++(dV f.b.length++f.b)).drop (gI f.num f.aJ).1.length)=(f.b.length,gV f.b.length,0):=by rw[List.drop_left];exact wo _ _ qO
 have hl:((gI f.num f.aJ).1++(dV f.b.length++f.b)).length-(gI f.num f.aJ).1.length=((gI f.num f.aJ).1++(dV f.b.length++f.b)).length-(gI f.num f.aJ).1.length:=rfl;have hp:=Gx f.num f.aJ;have hq:=Ez f.b.length;have hb:=(xB ha).2.2;have hll:((gI f.num f.aJ).1++(dV f.b.length++f.b)).length=(gI f.num f.aJ).1.length+(gV f.b.length+f.b.length):=by rw[bW,bW];rfl
 refine asz Tryz.func203 λX=>?_
 (repeat' (first|refine oz ?_|refine asA (aa6 ha (dV f.b.length++f.b)) ?_|refine ae.tell (Vk hv) ⟨IW hl,tv⟩ ?_|refine ai.n (λh=>?_)|refine ag.mk qN ?_|refine Fin.dC (i:=1) (h:=λj _=>fO (f.b.getD j 0)) (jB.of (cu _) rfl ?_) (Fin.tell (ane rfl rfl ?_ rfl ?_))|refine ag.mk ?_ ?_))<;>try exact aB
 all_goals first|(intro j hj k hk;exact gz (λx=>V.d (fO x)) (aia rfl))|(have hn0:f.n=0:=(by rcases hb with hb|hb <;> omega);rw[hn0];rfl)
theorem ang(f:aY)(ha:nR f=true)(hf:f.fit):aQ 203 [.d (dB (iJ f))] (wW f):=by
 rcases(xB ha).2.2 with h|h
 ·exact ajX f ha hf h.1
 ·exact ajW f ha hf h.1
def Sr(l:List aY)(f:aY):Bool:=bif decide ((l.length:Int)=0) then true else wG (l.getD ((l.length:Int)-1).toNat .z) f
theorem aoM(l:List aY)(f:aY)(hn:l.length<=10000):ae 200 [wW f,.ptr 0 0] ⟨[(0,.blk 1 (λ_=>.row 1 l.length)),(1,dw 163 4 jW .z l)],2⟩ (λrv rt=>rv=(.b (Sr l f))/\rt=⟨[(0,.blk 1 (λ_=>.row 1 l.length)),(1,dw 163 4 jW .z l)],2⟩):=by
 refine asz Tryz.func200 λX=>?_
 (repeat' (first|refine oz ?_|refine asD 1 [] [o0,o0,o0,o0,o0,o0,o0,o0,o0,o0,o0,o0,o0,o0] ?_|refine mc ?_ ?_|refine bn.val (.b (wG (l.getD ((l.length:Int)-1).toNat .z) f)) ?_|refine asY qN (vq (gz V.b ?_) tv) (by repeat' (first|exact tv|refine an ⟨nb rfl,af.blk ?_⟩ ?_|refine an ⟨nb rfl,af.row rfl fv⟩ ?_|exact qW|refine an ?_ ?_))))<;>(try(refine dh.mk ?_;repeat' (first|exact tv|exact rfl|refine⟨_,λht=>ae.tell (acX (l.getD ((l.length:Int)-1).toNat .z) f) ⟨agg,agg,tv⟩ ⟨rfl,rfl⟩,?_⟩|refine an ?_ ?_|refine ag.mk ?_ ?_)))
 all_goals try exact aB
 all_goals (intro h;have h:=bJ h;exact⟨rfl,(by omega),(by first|omega|decide)⟩)
theorem AP{l:List aY}{i:Nat}(h:i<l.length):(bF l).drop (bF (l.take i)).length=iJ (l.getD i .z)++bF (l.drop (i+1)):=by
 have e:bF l=bF (l.take i)++(iJ (l.getD i .z)++bF (l.drop (i+1))):=by
  have h1:l=l.take i++(l.getD i .z::l.drop (i+1)):=by rw[<-wz .z h,List.take_append_drop]
  have h2:bF (l.take i++(l.getD i .z::l.drop (i+1)))=bF (l.take i)++(iJ (l.getD i .z)++bF (l.drop (i+1))):=by simp[bF]
  rw[<-h2,<-h1]
 conv=>lhs;rw[e]
 rw[List.drop_left]
theorem IC{l:List aY}(hl:oV l){i:Nat}(h:i<l.length):(bF (l.take (i+1))).length=(bF (l.take i)).length+(iJ (l.getD i .z)).length/\(bF (l.take i)).length+(iJ (l.getD i .z)).length<=(bF l).length/\1<=(iJ (l.getD i .z)).length:=by
 have h1:=gz List.length (AP h);rw[fE,bW]at h1;have h2:=VN (hl.alone i h);refine⟨by rw[lX .z h,KI,bW],?_,by omega⟩;omega
theorem aiF{l:List aY}(hl:oV l){i:Nat}(h:i<l.length):aQ 202 [.d (dB ((bF l).drop (bF (l.take i)).length))] (bQ [iV (iJ (l.getD i .z)).length,iV 0]):=by
 have:=alb ((bF l).drop (bF (l.take i)).length);unfold SI at this;rw[AP h,aar (hl.alone i h) (hl.fit i h) (hl.Ii i h)]at this;rw[AP h];exact this
theorem ajV{l:List aY}{i:Nat}(h:i<l.length){N n k:Nat}(hn:n=(iJ (l.getD i .z)).length)(hk:k=(bF (l.take i)).length):VW N (.d (.sl n 1 (λj=>(λj _=>fO ((bF l).getD j 0)) (k+j)))) (.d (dB (iJ (l.getD i .z)))):=by
 have e:iJ (l.getD i .z)=((bF l).drop k).take (iJ (l.getD i .z)).length:=by rw[hk,AP h,List.take_left]
 have h1:=gz List.length (AP h);rw[fE,bW]at h1;rw[e];exact aiD qO qO
theorem ad6{l:List aY}(hl:oV l){i:Nat}(h:i<l.length):Sr (l.take i) (l.getD i .z)=true:=by
 unfold Sr;have hlen:(l.take i).length=i:=by rw[dP];omega
 rw[hlen];by_cases e:i=0
 ·subst e;rfl
 ·have h2:=hl.Hq i qO h;have h3:(l.take i).getD ((i:Int)-1).toNat .z=l.getD ((i:Int)-1).toNat .z:=by
   rw[bC,bC,oh,if_pos qO]
  rw[h3,h2];cases decide ((i:Int)=0) <;> rfl
theorem vM{l:List aY}{i:Nat}(hi:i<=l.length)(h:(bF (l.take i)).length<(bF l).length):i<l.length:=by
 refine Nat.lt_of_le_of_ne hi λe=>?_
 subst e;rw[oJ]at h;omega
theorem PU(l:List aY)(hl:oV l):aQ 153 [.d (dB (bF l))] (bQ [.d (iW l),iV 0]):=by
 have hsz:=hl.size;have hln:=hl.len;refine asz Tryz.func153 λX=>?_
 (repeat' (first|refine oz ?_|refine asX 0 0 163 (λj k=>.d (jW (([]:List aY).getD j .z) k)) rfl rfl qN rfl qN (asI l.length (λi (a:Nat)=>⟨47,[(0,.d (dB (bF l))),(4,.ptr 0 0),(5,.fn 200 0 1 (λ_=>.ptr 0 0)),(6,iV (bF (l.take i)).length)],⟨[(0,.blk 1 (λ_=>.row 1 (l.take i).length)),(1,dw 163 4 jW .z (l.take i))],2⟩⟩) (λi a=>True) 0 ?_ ?_ (λi a hi hp=>?_))|refine aU 0 ⟨?_,?_,?_⟩|refine ai.n (λh=>?_)|refine ai.mk (λh=>au h (by rw[ad6 hl (by have h9:=aS ‹decide (((bF (l.take i)).length:Int)<((bF l).length:Int))=true›;exact vM hi (by omega))];decide)) (λh=>?_)|refine ae.tell (aiF hl (by have h9:=aS ‹decide (((bF (l.take i)).length:Int)<((bF l).length:Int))=true›;exact vM hi (by omega))) ⟨IW rfl,tv⟩ ?_|refine ae.tell (ang (l.getD i .z) (hl.alone i (by have h9:=aS ‹decide (((bF (l.take i)).length:Int)<((bF l).length:Int))=true›;exact vM hi (by omega))) (hl.fit i (by have h9:=aS ‹decide (((bF (l.take i)).length:Int)<((bF l).length:Int))=true›;exact vM hi (by omega)))) ⟨ajV (by have h9:=aS ‹decide (((bF (l.take i)).length:Int)<((bF l).length:Int))=true›;exact vM hi (by omega)) ?_ rfl,tv⟩ ?_|refine asH [0,1] (aoM (l.take i) (l.getD i .z) (by rw[dP];have:=hl.len;omega)) ?_|refine ai.n (λh=>?_)|refine ai.mk (λh=>?_) (λh=>?_)|refine ag.a ?_|refine atc (C:=jW) (z:=aY.z) (L:=l) rfl rfl ?_ ?_ qV|refine ag.mk ?_ ?_))<;>try exact aB
 all_goals (try(refine aV.mk rfl qN qN ?_ ?_ <;> repeat' (first|exact tv|exact qV|exact qW|refine vq (gz (V.row _) ?_) qN|refine asJ ?_|refine vq (gz iV ?_) tv|refine an ⟨nb rfl,af.blk ?_⟩ ?_|refine an ⟨nb rfl,af.row ?_ (λj hj k hk=>vq ?_ trivial)⟩ ?_|refine an ?_ ?_)))
 all_goals first|(simp;done)|((try simp only[fC,fQ,mr,nO]at *);have h9:i<l.length:=vM hi (by omega);obtain⟨q1,q2,q3⟩:=IC hl h9;have q4:(l.take i).length=i:=(by rw[dP];omega);have q5:(l.take (i+1)).length=i+1:=(by rw[dP];omega);first|omega|(simp only[dQ];omega)|(simp;omega)|(rw[lX .z h9];refine A7 rfl (by simp;omega) fr (λj hj=>?_);obtain rfl:j=0:=(by simp at hj;omega);rcases k with _|_|_|_ |  k <;> first|rfl|omega))|((try simp only[fC,fQ,mr,nO]at *);have e:i=l.length:=(by rcases mP i l.length with h9|h9;exact au (IC hl h9).2 (by omega);omega);subst e;first|(rw[oJ];done)|(intro j hj k hk;rw[oJ]))
theorem aa7(l:List aY)(dK:Int)(hl:l.length<=10000)(hb:∀ i,i<l.length->(l.getD i .z).b.length<=100000)(hm:∀ i,i<l.length->(l.getD i .z).num<=dK):aQ 155 [.d (iW l),iV dK] (bQ [.d (iW l),.d (iW [])]):=by
 refine asz Tryz.func155 λX=>?_
 (repeat' (first|refine oz ?_|refine asW 4 163 (λj k=>.d (jW (([]:List aY).getD j .z) k)) rfl rfl qN (asI l.length (λi (a:Nat)=>⟨33,[(1,iV dK),(4,.row 0 (l.take i).length),(5,.dE),(8,.d (iW l)),(9,iV l.length),(10,iV i)],⟨[(0,dw 163 4 jW .z (l.take i))],1⟩⟩) (λi a=>True) 0 ?_ ?_ (λi a hi hp=>?_))|refine aU 0 ⟨?_,?_,?_⟩|refine ai.mk (λh=>?_) (λh=>au (bJ h) (by have:=hm i om;simp only[jD];omega))|refine asA (akN (l.getD i .z).b.length (λj _=>fO ((l.getD i .z).b.getD j 0)) (by have:=hb i om;omega)) ?_|refine ai.mk (λh=>?_) (λh=>?_)|refine ag.a ?_|refine atc (C:=jW) (z:=aY.z) (L:=l) rfl rfl ?_ ?_ VW.dE|refine ag.mk ?_ ?_))<;>try exact aB
 all_goals (try(refine aV.mk rfl qN qN ?_ ?_ <;> repeat' (first|exact tv|exact qV|refine vq (gz (V.row _) ?_) qN|refine an ⟨nb rfl,af.row ?_ (λj hj k hk=>vq ?_ trivial)⟩ ?_|refine an ?_ ?_)))
 all_goals first|((try simp only[fC,fQ,mr,nO]at *);have h9:i<l.length:=(by omega);have q4:(l.take i).length=i:=(by rw[dP];omega);have q5:(l.take (i+1)).length=i+1:=(by rw[dP];omega);first|omega|(simp;omega)|(rw[lX .z h9];refine A7 rfl (by simp;omega) fr (λj hj=>?_);obtain rfl:j=0:=(by simp at hj;omega);rcases k with _|_|_|_ |  k <;> first|rfl|omega))|((try simp only[fC,fQ,mr,nO]at *);have e:i=l.length:=(by omega);subst e;first|(rw[oJ];done)|(intro j hj k hk;rw[oJ]))
theorem V6(l:List aY)(hl:oV l):aQ 136 [.d (iW l)] (bQ [.d (dB (bF l)),iV 0]):=by
 refine asz Tryz.func136 λX=>?_
 (repeat' (first|refine oz ?_|refine asW 5 5 (λj _=>.d (fO (([]:List UInt8).getD j 0))) rfl rfl qN (asI l.length (λi (a:List UInt8)=>⟨25,[(5,.row 0 a.length),(13,.d (iW l)),(14,iV l.length),(15,iV i)],⟨[(0,iy a)],1⟩⟩) (λi a=>a=bF (l.take i)) [] ?_ ?_ (λi a hi hp=>?_))|refine aU (a++iJ (l.getD i .z)) ⟨?_,?_,?_⟩|refine asA (ad8 l hl) ?_|refine asA (adZ (l.getD i .z) (hl.fit i (by have h9:=aS ‹decide ((i:Int)<(l.length:Int))=true›;omega))) ?_|refine ai.n (λh=>?_)|refine ai.mk (λh=>?_) (λh=>?_)|refine ag.mk (by decide) ?_|refine atc (C:=λb _=>fO b) (z:=0) (L:=bF l) rfl rfl ?_ ?_ qV|refine ag.mk ?_ ?_))<;>try exact aB
 all_goals (try(refine aV.mk rfl qN qN ?_ ?_ <;> repeat' (first|exact tv|refine an qV ?_|refine an (vq (gz (V.row 0) ?_) qN) ?_|refine an ⟨nb rfl,rfl,rfl,?_,λj hj k hk=>vq ?_ trivial⟩ ?_)))
 all_goals first|(simp[bF];done)|(obtain rfl:k=0:=(by omega);exact AV rfl (λ_=>rfl) (λ_=>rfl) j)|((try simp only[fC,fQ]at *);have h9:i<l.length:=(by omega);have h8:=I8 (hl.fit i h9);have h7:=IE hl i;have h6:=hl.len;have h5:=hl.Ii i h9;first|omega|(simp only[dQ];omega)|(rw[hp,lX aY.z h9,KI];done)|(rw[<-hp]at h7;refine⟨?_,?_⟩ <;> first|trivial|omega))|((try simp only[fC,fQ,mr,nO]at *);obtain rfl:i=l.length:=(by omega);rw[hp,oJ];done)|((try simp only[fC,fQ,mr,nO]at *);obtain rfl:i=l.length:=(by omega);have e:a=bF l:=(by rw[hp,oJ]);subst e;exact λj hj k hk=>rfl)
def Ju(next:Int)(x:aP):Int:=bif x.ok then x.a+1 else bif decide (1<next) then min (next-1) (x.a+1) else 1
def EM(b f:Int):Int:=bif (bif !dN b 1 3 then true else !dN f 1 3) then 1 else bif decide (b<f) then 32 else 0
def afs(l:List Int):Int:=l.tail.foldl min (l.getD 0 0)
def Rf(l:List Int):Int:=bif (bif decide ((l.length:Int)=0) then true else decide (0<=ji (λv=>!dN v 1 3) 0 l)) then 0 else afs l
def zS(v:Int)(l:List Int):Bool:=bif (bif decide (1<=v) then decide (v<3) else false) then decide (v<Rf l) else false
theorem ad4(next:Int)(x:aP)(h1 : -10<=next/\next<=100000)(h2 : -10<=x.a/\x.a<=100000):aQ 213 [iV next,jy x] (iV (Ju next x)):=by
 refine asz Tryz.func213 λX=>?_
 (repeat' (first|refine oz ?_|refine ai.mk (λh=>?_) (λh=>?_)|refine ag.a ?_|refine Fin.tell (vq (gz iV ?_) tv)|refine ag.mk ?_ ?_))<;>try exact aB
 all_goals first|exact(dF h).symm|(rename_i h0;exact((bz h0).trans (dF h)).symm)|(rename_i h0;exact((bz h0).trans (bz h)).symm)
theorem abe(b f:Int):aQ 63 [iV b,iV f] (iV (EM b f)):=by
 refine asz Tryz.func63 λX=>?_
 (repeat' (first|refine oz ?_|refine asA (Vl _) ?_|refine aU _ (ed (λht=>ae.tell (Vl _) vw ⟨rfl,rfl⟩) ?_)|refine ai.mk (λh=>?_) (λh=>?_)|refine ag.a ?_|refine Fin.tell (vq (gz iV ?_) tv)))<;>try exact aB
 all_goals first|exact(dF h).symm|(rename_i h0;exact((bz h0).trans (dF h)).symm)|(rename_i h0;exact((bz h0).trans (bz h)).symm)
theorem amv(v:Int):aQ 189 [iV v] (.b (!dN v 1 3)):=by
 refine asz Tryz.func189 λX=>?_
 repeat' (first|refine oz ?_|refine asA (Vl _) ?_|refine Fin.tell (vq (gz V.b ?_) tv))
 exact rfl
theorem ajK(l:List Int)(hn:l.length<=100000):aQ 223 [.d (iH l),.fn 189 0 0 (λ_=>.top)] (iV (ji (λv=>!dN v 1 3) 0 l)):=by
 refine asz Tryz.func223 λX=>?_
 (repeat' (first|refine oz ?_|refine asI l.length (λi (a:Unit)=>⟨19,[(0,.d (iH l)),(1,.fn 189 0 0 (λ_=>.top)),(7,iV l.length),(8,iV i)],e0⟩) (λi a=>ji (λv=>!dN v 1 3) 0 l=ji (λv=>!dN v 1 3) i (l.drop i)) () ?_ ?_ (λi a hi hp=>?_)|refine aU () ⟨?_,?_,?_⟩|refine asA (amv (l.getD i 0)) ?_|refine ai.mk (λh=>?_) (λh=>?_)|refine ag.a ?_|refine Fin.tell (vq (gz iV ?_) tv)|refine ag.mk ?_ ?_))<;>try exact aB
 all_goals (try(refine aV.mk rfl qN qN ?_ ?_ <;> repeat' (first|exact tv|exact qV|refine asJ ?_|refine an ?_ ?_)))
 all_goals first|exact uN|(have h9:i<l.length:=om;rw[hp,IB 0 h9];first|exact(dF h).symm|exact bz h)|(have h9:=bJ h;rw[hp,sZ (by omega)];rfl)
theorem agt (l : List Int) (hn : l.length <= 100000) : aQ 190 [.d (iH l), .fn 189 0 0 (λ_ => .top)] (.b (decide (0 <= ji (λv => !dN v 1 3) 0 l))) := by
  refine ae.of Tryz.func190 rfl rfl (by simp [Tryz.f190]) λX => ?_
  repeat' (first | refine oz ?_ | refine ae.tell (ajK l hn) ⟨VW.refl trivial, asJ trivial, trivial⟩ ?_ | refine Fin.tell (asF (gz V.b ?_) trivial))
  exact rfl
def lH(x:aP):Bool:=
 bif (bif (bif (bif (bif (bif (bif (bif (bif (bif (bif (bif (bif decide (x.kind=1) then true else decide (x.kind=2)) then true else decide (x.kind=3)) then true else decide (x.kind=4)) then dN x.src 0 4 else false) then dN x.dst 0 4 else false) then !decide (x.src=x.dst) else false) then dN x.term 1 1048576 else false) then dN x.bin 1 3 else false)
  then GN x.a 64 (bif (bif decide (x.kind=1) then true else decide (x.kind=3)) then true else decide (x.kind=4)) else false) then GN x.b 1048576 (bif decide (x.kind=1) then true else decide (x.kind=3)) else false) then GN x.c 64 (decide (x.kind=3)) else false)
  then (bif (bif !x.ok then true else decide (x.kind=2)) then true else decide (x.kind=4)) else false) then GN x.l.length 4 (decide (x.kind=3)) else false
def FH(y:dm):Bool:=bif !dN y.term 1 1048576 then true else decide (200<(y.b.length:Int))
def lG:List dm->Int
 |[]=>0
 |y::r=>bif FH y then 1 else lG r
def Aj(x:aP):Int:=bif !lH x then 1 else lG x.l
theorem amZ{x:aP}(h:(!lH x)=false):Aj x=lG x.l:=bz h
theorem am0{l:List dm}{i:Nat}(h:i<l.length):lG (l.drop i)=bif FH (l.getD i .z) then 1 else lG (l.drop (i+1)):=by
 rw[wz .z h];rfl
theorem CZ(x:aP)(hn:x.l.length<=10000):aQ 132 [jy x] (iV (Aj x)):=by
 refine asz Tryz.func132 λX=>?_
 (repeat' (first|refine oz ?_|refine at7 [] [(0,0,false,[]),(0,0,false,[]),(0,0,false,[]),(0,0,false,[]),(0,0,false,[]),(0,0,false,[]),(0,0,false,[]),(0,0,false,[]),(0,0,false,[]),(0,0,false,[]),(0,0,false,[]),(0,0,false,[]),(0,0,false,[]),(0,0,false,[]),(0,0,false,[]),(0,0,false,[])] (by kernel_rfl) (by kernel_rfl) ?_|refine mc ?_ ?_|refine aU _ (ed (λht=>ae.tell (XZ _ _ _) vw ⟨rfl,rfl⟩) ?_)|refine aU _ (ed (λht=>ae.tell (an6 _ _ _) vw ⟨rfl,rfl⟩) ?_)|refine asA (XZ _ _ _) ?_|refine asI x.l.length (λi (a:Unit)=>⟨129,[(112,.d (jg x.l)),(113,iV x.l.length),(114,iV i)],e0⟩) (λi a=>Aj x=lG (x.l.drop i)) () ?_ ?_ (λi a hi hp=>?_)|refine aU () ⟨?_,?_,?_⟩|refine ai.mk (λh=>?_) (λh=>?_)|refine ag.a ?_|refine Fin.tell (vq (gz iV ?_) tv)|refine ag.mk ?_ ?_))<;>(try(refine dh.mk ?_;repeat' (first|exact tv|exact rfl|refine an ?_ ?_|refine ag.mk ?_ ?_)))
 all_goals try exact aB
 all_goals first|exact(dF h).symm|exact amZ h|exact uN|(have h9:i<x.l.length:=om;rw[hp,am0 h9];first|exact(dF h).symm|exact bz h)|(have h9:=bJ h;rw[hp,sZ (by omega)];rfl)
def Yq(l:List Int):aG:=dw 3 1 (λn _=>iD n) 0 l
def qm(i:Nat):List Int->List aY
 |[]=>[]
 |n::r=>(if n=0 then [] else [⟨(i:Int)+1,0,n.toNat,[]⟩])++qm (i+1) r
def pK(l:List Int):List aY:=qm 0 l
theorem aaK{l:List Int}{i:Nat}(h:i<l.length):qm i (l.drop i)=(if l.getD i 0=0 then [] else [⟨(i:Int)+1,0,(l.getD i 0).toNat,[]⟩])++qm (i+1) (l.drop (i+1)):=by
 rw[wz 0 h];rfl
theorem aaL(l:List Int)(hn:l.length<=100)(hl:∀ i,i<l.length->0<=l.getD i 0/\l.getD i 0<=9223372036854775807):ae 134 [.row 0 l.length] ⟨[(0,Yq l)],1⟩ (λv t=>v=(.row 1 (pK l).length)/\t=⟨[(0,Yq l),(1,dw 163 4 jW .z (pK l))],2⟩):=by
 refine asz Tryz.func134 λX=>?_
 (repeat' (first|refine oz ?_|refine asW 3 163 (λj k=>.d (jW (([]:List aY).getD j .z) k)) rfl rfl qN (asI l.length (λi (a:List aY)=>⟨25,[(3,.row 1 a.length),(6,.row 0 l.length),(7,iV l.length),(8,iV i)],⟨[(0,Yq l),(1,dw 163 4 jW .z a)],2⟩⟩) (λi a=>pK l=a++qm i (l.drop i)/\a.length<=i) [] ?_ ?_ (λi a hi hp=>?_))|refine ai.mk (λh=>?_) (λh=>?_)|refine ag.a ?_|refine asC qN qN (vq (gz (V.row 1) ?_) qN) ?_|refine ag.mk ?_ ?_))<;>try exact aB
 all_goals (try(first|(have hh:¬(l.getD i 0)=0:=bJ (by simpa using h);refine aU (a++[⟨(i:Int)+1,0,(l.getD i 0).toNat,[]⟩]) ⟨?_,⟨?_,?_⟩,?_⟩)|(have hh:(l.getD i 0)=0:=aS (by simpa using h);refine aU a ⟨?_,⟨?_,?_⟩,?_⟩)))
 all_goals (try(refine aV.mk rfl qN qN ?_ ?_ <;> repeat' (first|exact tv|exact qV|exact qW|refine vq (gz (V.row _) ?_) qN|refine an ⟨nb rfl,af.row ?_ (λj hj k hk=>atd ?_)⟩ ?_|refine an ?_ ?_)))
 all_goals (try(repeat' (first|exact tv|refine an ⟨nb rfl,af.row ?_ (λj hj k hk=>atd ?_)⟩ ?_)))
 all_goals first|(refine dh.mk qV;done)|(exact⟨rfl,bu _⟩)|(simp;done)|((try simp only[fC,fQ,mr,nO]at *);have h9:i<l.length:=(by omega);have q:=hl i h9;obtain⟨hp1,hp2⟩:=hp;first|omega|(refine⟨?_,?_⟩ <;> first|trivial|omega)|(simp only[dQ,jD];omega)|(rw[hp1,aaK h9,if_neg hh,kE];done)|(rw[hp1,aaK h9,if_pos hh,List.nil_append];done)|(simp;omega)|(refine dh.mk (oq rfl (by simp;omega) fr (λj hj=>?_));obtain rfl:j=0:=(by simp at hj;omega);rcases k with _|_|_|_|k <;> first|exact qV|exact vq (gz (V.int .u64) (by simp only[jD];show l.getD i 0=((l.getD i 0).toNat:Int);omega)) tv|exact VW.dE|omega))|((try simp only[fC,fQ,mr,nO]at *);have e:i=l.length:=(by omega);have e2:a=pK l:=(by rw[hp.1,e,List.drop_length];simp[qm]);subst e2;first|rfl|exact dh.mk qV)
structure pz (e:dm):Prop where
 term:1<=e.term/\e.term<=1048576
 b:e.b.length<=200
def kH(e:dm):List aY:=if e.b=[] then [⟨1,0,e.term.toNat,[]⟩] else [⟨1,0,e.term.toNat,[]⟩,⟨2,2,0,e.b⟩]
theorem XR{n:Int}(h:n≠0):pK [n]=[⟨1,0,n.toNat,[]⟩]:=by
 unfold pK qm;rw[if_neg h];rfl
theorem agO(e:dm)(he:pz e)(hf:oV (kH e)):aQ 135 [yj e] (bQ [.d (dB (bF (kH e))),iV 0]):=by
 have h1:∀ i,i<[e.term].length->0<=[e.term].getD i 0/\[e.term].getD i 0<=9223372036854775807:=λi hi=>by
  have h0:i=0:=by simpa using hi
  subst h0;have:=he.term;simp;omega
 have h2:(pK [e.term]).length=1:=by rw[XR (by have:=he.term;omega)];rfl
 have hE1:e.b≠[]->kH e=pK [e.term]++[⟨2,2,0,e.b⟩]:=λhb=>by rw[XR (by have:=he.term;omega)];unfold kH;rw[if_neg hb];rfl
 have hE0:e.b=[]->kH e=pK [e.term]:=λhb=>by rw[XR (by have:=he.term;omega)];unfold kH;rw[if_pos hb]
 refine asz Tryz.func135 λX=>?_
 (repeat' (first|refine T.cut (y:=.seq (.region 4 _ _) _) ⟨23,[(4,.row 2 (kH e).length)],⟨[(2,dw 163 4 jW .z (kH e))],3⟩⟩ ?_ (aut (cu _) rfl rfl (T.seq ?_))|refine oz ?_|refine asO [1] (aaL [e.term] (by simp) h1) rfl rfl rfl vw ⟨⟨_,rfl,af.row rfl (λj hj k hk=>by obtain rfl:j=0:=Nat.lt_one_iff.1 hj;obtain rfl:k=0:=Nat.lt_one_iff.1 hk;exact qV)⟩,tv⟩ ?_|refine asA (V6 (kH e) hf) ?_|refine ai.mk (λh=>?_) (λh=>?_)|refine ag.a ?_|refine asM rfl vw|refine ag.mk ?_ ?_))<;>try exact aB
 all_goals (try(refine aV.mk rfl qN qN ?_ ?_ <;> repeat' (first|exact tv|refine vq (gz (V.row _) ?_) qN|refine an ⟨nb rfl,af.row ?_ (λj hj k hk=>atd ?_)⟩ ?_|refine an ?_ ?_)))
 all_goals first|(have hb:e.b≠[]:=(λhb=>by rw[hb]at h;cases h);first|(rw[hE1 hb,bW];rfl)|(refine dh.mk (show VW 3 _ _ from ?_);rw[hE1 hb];refine oq rfl hj fr (λj hj=>?_);obtain rfl:j=0:=Nat.lt_one_iff.1 hj;rcases k with _|_|_|_|k <;> first|exact qV|omega))|(have hb:e.b=[]:=uw (by have:=bJ h;omega);first|(rw[hE0 hb];done)|(refine dh.mk (show VW 3 _ _ from ?_);rw[hE0 hb];exact qV))
structure CE (l:List dm):Prop where
 len:l.length<=100
 b:∀ i,i<l.length->(l.getD i .z).b.length<=100000
theorem Vd(l:List dm)(hl:CE l):aQ 86 [.d (jg l)] (.d (jg l)):=by
 refine asz Tryz.func86 λX=>?_
 (repeat' (first|refine asW 3 50 (λj k=>.d (qx (([]:List dm).getD j .z) k)) rfl rfl qN (asI l.length (λi (a:List dm)=>⟨23,[(3,.row 0 a.length),(6,.d (jg l)),(7,iV l.length),(8,iV i)],⟨[(0,dw 50 2 qx .z a)],1⟩⟩) (λi a=>a=l.take i) [] ?_ ?_ (λi a hi hp=>?_))|refine aU (a++[l.getD i .z]) ⟨?_,?_,?_⟩|refine oz ?_|refine asD 5 [7,8] [o2,o0,o0,o0,o0,o0,o0,o1,(1,1,true,[]),(2,2,false,[])] ?_|refine mc ?_ ?_|refine asN (Gw (l.getD i .z).b.length (λj _=>fO ((l.getD i .z).b.getD j 0)) (by have:=hl.b i (by have h8:=aS (aj:decide ((i:Int)<(l.length:Int))=true);omega);omega)) ?_|refine ai.mk (λh=>?_) (λh=>?_)|refine ag.a ?_|refine Fin.dC (i:=0) (h:=λj=>qx (a.getD j .z)) iw (Fin.tell (vq (jR.trans (gz (λL=>V.d (jg L)) (show a=l by rw[hp,lW (by have h8:=bJ (aj:decide ((i:Int)<(l.length:Int))=false);omega)]))) tv))|refine ag.mk ?_ ?_))<;>(try(refine dh.mk ?_;repeat' (first|exact tv|exact rfl|refine asA (Gw (l.getD i .z).b.length (λj _=>fO ((l.getD i .z).b.getD j 0)) (by have:=hl.b i (by have h8:=aS (aj:decide ((i:Int)<(l.length:Int))=true);omega);omega)) ?_|refine an ?_ ?_|refine ag.mk ?_ ?_)))
 all_goals try exact aB
 all_goals (try(refine aV.mk rfl qN qN ?_ ?_ <;> repeat' (first|exact tv|exact qV|refine vq (gz (V.row _) ?_) qN|refine an ⟨nb rfl,af.row ?_ (λj hj k hk=>asB ?_)⟩ ?_|refine an ?_ ?_)))
 all_goals first|exact(by have h8:=aS (aj:decide ((i:Int)<(l.length:Int))=true);omega)|(rw[lX dm.z (by have h8:=aS (aj:decide ((i:Int)<(l.length:Int))=true);omega),hp])|(have h9:=hl.len;have h7:=gz List.length hp;rw[dP]at h7;first|omega|(simp only[dQ];omega))|(simp;done)|(have hj:j<a.length+1:=hj;have hk:k<2:=hk;refine cm (oq rfl hj fr (λj hj=>?_));obtain rfl:j=0:=Nat.lt_one_iff.1 hj;rcases k with _|_|k;exact qV;exact qV;omega)
end Go.Proofs.YtnibdnahojjcgaaGreat
