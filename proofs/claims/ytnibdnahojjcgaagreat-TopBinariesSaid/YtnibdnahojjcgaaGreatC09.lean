/- Lemmas. -/
import Derived.Test.YtnibdnahojjcgaaGreatC04
import Derived.Test.YtnibdnahojjcgaaGreatC05
namespace Go.Proofs.YtnibdnahojjcgaaGreat
set_option linter.all false
set_option maxRecDepth 100000
set_option maxHeartbeats 0
open Go.RowKit Tryz
structure fC where
 b:List UInt8
 synced:Int
 down:Bool
 oU:Bool
 axz:Int
 dA:List UInt8
def I8(d:fC):Nat->V
 |0=>.vw 1 (d.b++d.dA).length 0 d.b.length|1=>iV d.synced|2=>.b d.down|3=>.b d.oU|_=>iV d.axz
def DS(d:fC):ST:=⟨[(0,.Wp 5 (I8 d)),(1,kL (d.b++d.dA))],2⟩
def fC.append(d:fC)(x:List UInt8):fC:={ d with b:=d.b++x,dA:=d.dA.drop x.length }
def fC.lF(d:fC)(axz:Int):fC:=
 let n:=(d.synced+min (max axz 0) ((d.b.length:Int)-d.synced)).toNat
 ⟨d.b.take n,n,true,false,0,d.b.drop n++d.dA⟩
def fC.cut(d:fC)(n:Nat):fC:={ d with b:=d.b.take n,synced:=n,dA:=d.b.drop n++d.dA }
structure fC.ok (d:fC):Prop where
 s0:0<=d.synced
 s1:d.synced<=d.b.length
 len:d.b.length<=65536
 dA:d.dA.length<=100000
def QF(d:fC)(n:Int):(d.lF n).b++(d.lF n).dA=d.b++d.dA:=by simp[fC.lF,<-jV]
def QZ(d:fC)(n:Nat):(d.cut n).b++(d.cut n).dA=d.b++d.dA:=by simp[fC.cut,<-jV]
def aiy(d:fC)(hd:d.ok)(n:Int):((d.lF n).b.length:Int)=d.synced+min (max n 0) ((d.b.length:Int)-d.synced):=by
 have:=hd.s0;have:=hd.s1;simp only[fC.lF,dG];omega
def ajV{b x dA:List UInt8}{j k:Nat}:qE b.length x.length (λj _=>.d (gG ((b++dA).getD j 0))) (λj _=>.d (gG (x.getD j 0))) j k = .d (gG (((b++x)++dA.drop x.length).getD j 0)):=by
 rw[wL];simp only[bn];split
 ·rename_i h
  rw[lS h,lS (by rw[bP];omega),lS h]
 ·rename_i h
  split
  ·rename_i h2
   rw[lS (by rw[bP];omega),oP qO]
  ·rename_i h2
   rw[oP qO,oP (by rw[bP];omega),rP,bP];congr 4;omega
def Iw(d:fC):af 53 [.ptr 0 0] (DS d) (λrv rt=>rv=(.b d.down)/\rt=(DS d)):=by
 refine ay func53 λX=>?_
 (repeat'(first|refine aC ?_|refine ag.a ?_|refine bM qN qN (vq (ah V.b ?_) tv) ⟨⟨nb rfl,aW.Wp ⟨⟨⟨⟨⟨tv,?_⟩,?_⟩,?_⟩,?_⟩,?_⟩⟩,⟨nb rfl,aW.row ?_ (λj hj k hk=>dR ?_)⟩,tv⟩))<;>try exact cls
 all_goals first|exact qW|exact qV
def atv(d:fC)(n:Int):af 68 [.ptr 0 0,iV n] (DS d) (λrv rt=>rv = .top/\rt=(DS { d with oU:=true,axz:=n })):=by
 refine ay func68 λX=>?_
 (repeat'(first|refine aC ?_|refine ag.a ?_|refine bM qN qN VW.top ⟨⟨nb rfl,aW.Wp ⟨⟨⟨⟨⟨tv,?_⟩,?_⟩,?_⟩,?_⟩,?_⟩⟩,⟨nb rfl,aW.row ?_ (λj hj k hk=>dR ?_)⟩,tv⟩))<;>try exact cls
 all_goals first|exact qW|exact qV
def av6(d:fC)(h:d.down=true):af 64 [.ptr 0 0] (DS d) (λrv rt=>rv=(iV 0)/\rt=(DS { d with down:=false,oU:=false,axz:=0 })):=by
 refine ay func64 λX=>?_
 (repeat'(first|refine aC ?_|refine aj.mk (λh2=>ai h2 (by rw[h];decide)) (λh=>?_)|refine ag.a ?_|refine bM qN qN (vq (ah iV ?_) tv) ⟨⟨nb rfl,aW.Wp ⟨⟨⟨⟨⟨tv,?_⟩,?_⟩,?_⟩,?_⟩,?_⟩⟩,⟨nb rfl,aW.row ?_ (λj hj k hk=>dR ?_)⟩,tv⟩))<;>try exact cls
 all_goals first|exact qW|exact qV
def arP(d:fC)(hd:d.ok):af 62 [.ptr 0 0] (DS d) (λrv rt=>rv=(.d (bW d.b))/\rt=(DS d)):=by
 have d1:=hd.s0;have d2:=hd.s1;have d3:=hd.len;have d4:=hd.dA;refine ay func62 λX=>?_
 (repeat'(first|refine aC ?_|refine ag.a ?_|refine Yt (C:=λb _=>gG b) (z:=0) d.b qN rfl ?_ ?_ ?_ qN qN ⟨⟨nb rfl,aW.Wp ⟨⟨⟨⟨⟨tv,?_⟩,?_⟩,?_⟩,?_⟩,?_⟩⟩,⟨nb rfl,aW.row ?_ (λj hj k hk=>dR ?_)⟩,tv⟩|refine ag.mk ?_ ?_))<;>try exact cls
 all_goals first|exact qW|exact qV|(exact⟨rfl,by simp⟩)|(intro j hj k hk;obtain rfl:k=0:=qo;rw[wL,if_neg qo,if_pos (by show j<0+min d.b.length ((d.b.length:Int)).toNat;omega)];exact ah (λx=>V.d (gG x)) (anc qo))
def TP(d:fC)(n:Int)(hd:d.ok)(hn : -9223372036854775808<=n):af 67 [.ptr 0 0,iV n] (DS d) (λrv rt=>rv = .top/\rt=(DS (d.lF n))):=by
 have d1:=hd.s0;have d2:=hd.s1;have d3:=hd.len;have d4:=hd.dA;refine ay func67 λX=>?_
 (repeat'(first|refine aC ?_|refine bU 0 [] (ooz 14 []) ?_|refine bU 1 [14] (ooz 14 [o1]) ?_|refine mc ?_ ?_|refine ag.a ?_|refine bM qN qN VW.top ⟨⟨nb rfl,aW.Wp ⟨⟨⟨⟨⟨tv,?_⟩,?_⟩,?_⟩,?_⟩,?_⟩⟩,⟨nb rfl,aW.row ?_ (λj hj k hk=>dR ?_)⟩,tv⟩))<;>(try(refine dm.mk ?_;repeat'(first|exact tv|exact rfl|refine an ?_ ?_|refine ag.mk ?_ ?_)))
 all_goals try exact cls
 all_goals first|exact qV|((try simp only[bP,dM,true_and]);omega)|(refine vq (En ?_ ?_) qN <;> first|(simp only[QF,QZ,jg];done)|(have:=aiy d hd n;omega))|(rw[QF];done)|(refine cm (vq ?_ trivial);(rw[QF];done))
def avE(d:fC)(n:Nat)(hd:d.ok)(hn:n<=d.b.length)(h:d.down=false):af 65 [.ptr 0 0,iV n] (DS d) (λrv rt=>rv=(iV 0)/\rt=(DS (d.cut n))):=by
 have d1:=hd.s0;have d2:=hd.s1;have d3:=hd.len;have d4:=hd.dA;refine ay func65 λX=>?_
 (repeat'(first|refine aC ?_|refine aj.mk (λh2=>ai h2 (by rw[h];decide)) (λh=>?_)|refine aj.mk (λh=>?_) (λh=>?_)|refine ag.a ?_|refine bM qN qN (vq (ah iV ?_) tv) ⟨⟨nb rfl,aW.Wp ⟨⟨⟨⟨⟨tv,?_⟩,?_⟩,?_⟩,?_⟩,?_⟩⟩,⟨nb rfl,aW.row ?_ (λj hj k hk=>dR ?_)⟩,tv⟩|refine ag.mk ?_ ?_))<;>try exact cls
 all_goals first|exact qV|((try simp only[bP,dM,true_and]);omega)|(exfalso;have h9:=ZR h;simp only[Bool.or_eq_true,gq]at h9;omega)|(refine vq (En ?_ ?_) qN <;> first|(simp only[QF,QZ,jg];done)|(simp only[fC.cut,dG];omega))|(rw[QZ];done)|(refine cm (vq ?_ trivial);(rw[QZ];done))
def aly(d:fC)(x:List UInt8)(hd:d.ok)(hx:x.length<=100000)(h:d.down=false)(hf:65536<d.b.length+x.length):af 140 [.ptr 0 0,.d (bW x)] (DS d) (λrv rt=>rv=(iV 20)/\rt=(DS d)):=abw
def aeI(d:fC)(x:List UInt8)(hd:d.ok)(hx:x.length<=100000)(h:d.down=false)(hf:d.b.length+x.length<=65536):af 140 [.ptr 0 0,.d (bW x)] (DS d) (λrv rt=>rv=(iV 0)/\rt=(DS (d.append x))):=abw
def fC.sync(d:fC):fC:=bif d.oU then d.lF d.axz else { d with synced:=d.b.length }
def fC.UK(d:fC):Int:=bif d.oU then 30 else 0
def ao1(d:fC)(hd:d.ok)(h:d.down=false)(h1:d.oU=true)(hk : -9223372036854775808<=d.axz):af 141 [.ptr 0 0] (DS d) (λrv rt=>rv=(iV 30)/\rt=(DS (d.lF d.axz))):=ab6
def ao2(d:fC)(hd:d.ok)(h:d.down=false)(h1:d.oU=false):af 141 [.ptr 0 0] (DS d) (λrv rt=>rv=(iV 0)/\rt=(DS { d with synced:=d.b.length })):=ab6
def agl(d:fC)(hd:d.ok)(h:d.down=false)(hk : -9223372036854775808<=d.axz):af 141 [.ptr 0 0] (DS d) (λv t=>v=iV d.UK/\t=DS d.sync):=by
 unfold fC.sync fC.UK;cases h1:d.oU
 ·have:=ao2 d hd h h1;rw[h1]at this;exact this
 ·exact ao1 d hd h h1 hk
def anE{α:Type}(c:α->Nat->D)(d:α)(l:List α){p:Nat}(hp:p<l.length)(hz:∀ k,c d k = .v (.int .i64 0)){j k:Nat}(hj:j<l.length):GX p l.length (λj k=>c (l.getD j d) k) j k=c ((l.eraseIdx p).getD j d) k:=by
 obtain h|h:=l7 j (l.length-1)
 ·exact alf c d l hp h
 ·have e:(l.eraseIdx p).getD j d=d:=by
   rw[bn,List.getElem?_eq_none (by rw[List.length_eraseIdx_of_lt hp];omega)];rfl
  have eb:∀ a b:Nat,Nat.blt a b=decide (a<b):=λa b=>by
   rw[Bool.eq_iff_iff,Nat.blt_eq,gq]
  rw[e,hz];unfold GX;rw[eb,eb,aT qO,aT qO];rfl
def auQ(k:Nat):iw .z k = .v (.int .i64 0):=by obtain _|k:=k <;> rfl
def agQ{s:aN}{c:aF}(hb:jM s c = -1\/(0<=jM s c/\jM s c<s.opens.length))(h:decide (jM s c<0)=false){j k:Nat}(hj:j<s.opens.length):V.d (GX (jM s c).toNat s.opens.length (λj k=>iw (s.opens.getD j .z) k) j k)=V.d (iw ((s.opens.eraseIdx (jM s c).toNat).getD j .z) k):=by
 have h9:=bV h;exact ah V.d (anE iw .z s.opens qO auQ hj)
def arz{s:aN}{c:aF}(hb:jM s c = -1\/(0<=jM s c/\jM s c<s.opens.length))(h:decide (jM s c<0)=false):s.opens.length-1=(s.opens.eraseIdx (jM s c).toNat).length:=by
 have h9:=bV h;rw[List.length_eraseIdx_of_lt qO]
def ar8(s:aN)(c:aF)(hs:jw s):af 275 [.ptr 0 0,jl c] (Gx s) (LK (λa=>F8 s c=(s,a)) lJ (Gx s) (F8 s c=(Uz s c,.z)/\0<=jM s c) (lJ .z) (aaH (Uz s c) (.vw 2 s.opens.length 0 (Uz s c).opens.length) (.row 3 s.az.length) s.opens.length s.az.length)):=by
 have hb:=Xn s c;refine ay func275 λX=>?_
 (repeat'(first|refine aC ?_|refine fO [0,1,2,3] (adT s c hs) ?_|refine aO (qR 15) ?_|refine nZ [2] (agR (n:=s.opens.length) (p:=(jM s c).toNat) (g:=λj k=>iw (s.opens.getD j .z) k) (by have h9:=bV h;omega) (by have:=hs.fit.l2;omega)) rfl rfl rfl ⟨qW,vq (ah iV (by have h9:=bV h;omega)) tv,vq (ah iV (by have h9:=bV h;omega)) tv,tv⟩ bJ ?_|refine aj.mk (λh=>?_) (λh=>?_)|refine ag.a ?_|refine O3 ⟨_,_⟩ (dH h) (bM qN qN (gu vw) ?_)|refine Z4 ⟨bG h,?_⟩ (bM qN qN (gu vw) ?_)|refine ag.mk ?_ ?_))<;>try exact cls
 all_goals(try((repeat'(first|exact tv|refine fE qN ?_ ?_|refine gU qN ?_ (λj hj k hk=>?_) ?_|exact qV|exact qW|refine vq (En ?_ ?_) qN|refine an ?_ ?_))))
 all_goals first|exact rfl|exact cm qV|(have h9:=bV h;have h10:=hs.fit.l2;first|omega|(simp only[dM];omega))|(exact arz hb h)|(exact cm (vq (agQ hb h hj) tv))
section
abbrev Oj(s:aN)(c:aF):aN:={ s with next:=s.next+1,opens:=s.opens.eraseIdx (jM s c).toNat,az:=s.az++[⟨s.next,c.set,c.chunks,false,[]⟩] }
section
variable {s:aN} {c:aF}
def avI(h1:decide (jM s c<0)=true):zi s c=(s,⟨15,0⟩):=dH h1
def avH(h1:decide (jM s c<0)=false)(h2:(bif decide (16<=(s.az.length:Int)) then true else decide (1048576<=s.next))=true):zi s c=(s,⟨20,0⟩):=(bG h1).trans (dH h2)
def avG(h1:decide (jM s c<0)=false)(h2:(bif decide (16<=(s.az.length:Int)) then true else decide (1048576<=s.next))=false)(h3:(bif !decide (s.mg=0) then decide (s.mg<AL s.az c.chunks) else false)=true):zi s c=(s,⟨19,0⟩):=(bG h1).trans ((bG h2).trans (dH h3))
def avF(h1:decide (jM s c<0)=false)(h2:(bif decide (16<=(s.az.length:Int)) then true else decide (1048576<=s.next))=false)(h3:(bif !decide (s.mg=0) then decide (s.mg<AL s.az c.chunks) else false)=false):zi s c=(Oj s c,⟨0,s.next⟩):=(bG h1).trans ((bG h2).trans (bG h3))
end
def anW(s:aN)(c:aF)(hs:jw s)(hc:c.chunks.length<=1000):af 273 [.ptr 0 0,jl c] (Gx s) (LK (λa=>zi s c=(s,a)) lJ (Gx s) (zi s c=(Oj s c,⟨0,s.next⟩)/\0<=jM s c) (lJ ⟨0,s.next⟩) (aaH (Oj s c) (.vw 2 s.opens.length 0 (s.opens.length-1)) (.row 3 (s.az.length+1)) s.opens.length (s.az.length+1))):=by
 have hb:=Xn s c;refine ay func273 λX=>?_
 (repeat'(first|refine QJ (agf s.az c.chunks hs.fit.l3 qo) tv bw ?_|refine aC ?_|refine bU 6 [] (ooz 20 []) ?_|refine bU 8 [10,11] [o2,o2,o2,o2,o2,o2,o2,o2,o2,o2,o1,(1,1,true,[])] ?_|refine bU 9 [6,7,10] [(0,2,false,[]),o2,o2,o2,o2,o0,o1,(1,1,true,[]),(2,2,false,[]),(2,2,false,[]),(2,2,true,[])] ?_|refine mc ?_ ?_|refine fO [0,1,2,3] (adT s c hs) ?_|refine aO (qR 15) ?_|refine aO (qR 20) ?_|refine aO (qR 19) ?_|refine nZ [2] (agR (n:=s.opens.length) (p:=(jM s c).toNat) (g:=λj k=>iw (s.opens.getD j .z) k) om (by have:=hs.fit.l2;omega)) rfl rfl rfl ⟨qW,vq (ah iV om) tv,vq (ah iV om) tv,tv⟩ bJ ?_|refine kF (JP c.chunks.length (λj _=>iD (c.chunks.getD j 0)) qo) ?_|refine aj.mk (λh=>?_) (λh=>?_)|refine ag.a ?_|refine O3 ⟨15,0⟩ (avI h) (bM qN qN (gu vw) ?_)|refine O3 ⟨20,0⟩ (avH aG h) (bM qN qN (gu vw) ?_)|refine O3 ⟨19,0⟩ (avG aG aG h) (bM qN qN (gu vw) ?_)|refine Z4 ⟨avF aG aG h,?_⟩ (bM qN qN (gu vw) ?_)|refine ag.mk ?_ ?_))<;>(try(refine dm.mk ?_;repeat'(first|exact tv|exact rfl|refine aZ _ (fM (λht=>vM (agf s.az c.chunks hs.fit.l3 qo) tv bw ⟨rfl,rfl⟩) ?_)|refine aO (JP c.chunks.length (λj _=>iD (c.chunks.getD j 0)) qo) ?_|refine an ?_ ?_|refine ag.mk ?_ ?_)))
 all_goals try exact cls
 all_goals(try((repeat'(first|exact tv|refine fE qN ?_ ?_|refine gU qN ?_ (λj hj k hk=>?_) ?_|exact qV|exact qW|refine an ?_ ?_))))
 all_goals first|exact rfl|exact cm qV|(exact cm (vq (agQ hb (aG:decide (jM s c<0)=false) hj) tv))|(have h9:=bV (aG:decide (jM s c<0)=false);have h10:=hs.fit.l2;have h11:=hs.fit.l3.len;have h12:=hs.next;first|omega|(simp only[dM];omega))|(have hj:j<s.az.length+1:=hj;have hk:k<5:=hk;refine cm ?_;refine kU rfl hj fr (λj hj=>?_);obtain rfl:j=0:=Nat.lt_one_iff.1 hj;obtain _|_|_|_|_|k:=k;exact qV;exact qV;exact qV;exact qV;exact qV;omega)
end
def ame(l:List bu)(hl:pM l):aQ 127 [.d (jv l)] (bI [.d (bW (bK l)),iV 0]):=by refine ay func127 λX=>?_;exact ab4
