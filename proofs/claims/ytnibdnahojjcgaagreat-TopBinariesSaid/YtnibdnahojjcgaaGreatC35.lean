/- Lemmas. -/
import Derived.Test.YtnibdnahojjcgaaGreatC34
namespace Go.Proofs.YtnibdnahojjcgaaGreat
set_option linter.all false
set_option maxRecDepth 100000
set_option maxHeartbeats 0
open Go.RowKit Tryz
section
def ad3:∀(b:Int) (h add:List bH),∃ m,m<=add.length/\m<=h.length/\(∀ i,i<m->(h.getD i .z).term=(add.getD i .z).term) /\
  ((kD b h add=(0,[])/\m=add.length)\/(kD b h add=(0,add.drop m)/\m=h.length/\m<add.length)\/(kD b h add=(b+m+1,add.drop m)/\m<h.length/\m<add.length))
 |b,[],[]=>⟨0,bF _,bF _,λi hi=>ai hi (qh _),.inl ⟨rfl,rfl⟩⟩
 |b,_::_,[]=>⟨0,bF _,cZ _,λi hi=>ai hi (qh _),.inl ⟨rfl,rfl⟩⟩
 |b,[],x::r=>⟨0,cZ _,bF _,λi hi=>ai hi (qh _),.inr (.inl ⟨rfl,rfl,Nat.succ_pos _⟩)⟩
 |b,h::t,x::r=>by
  rcases e:decide (h.term=x.term) with _|_
  ·refine⟨0,cZ _,cZ _,λi hi=>ai hi (qh _),.inr (.inr ⟨?_,Nat.succ_pos _,Nat.succ_pos _⟩)⟩;show(bif decide (h.term=x.term) then kD (b+1) t r else(b+1,x::r))=_;rw[e];simp
  ·obtain⟨m,h1,h2,h3,h4⟩:=ad3 (b+1) t r;have e2:kD b (h::t) (x::r)=kD (b+1) t r:=by
    show(bif decide (h.term=x.term) then kD (b+1) t r else(b+1,x::r))=_;rw[e];rfl
   refine⟨m+1,Nat.succ_le_succ h1,Nat.succ_le_succ h2,λi hi=>?_,?_⟩
   ·cases i with
    |zero=>exact fU e
    |succ i=>exact h3 i qO
   ·rw[e2];obtain⟨h4,h5⟩|⟨h4,h5,h6⟩|⟨h4,h5,h6⟩:=h4
    ·exact .inl ⟨h4,ah (· + 1) h5⟩
    ·exact .inr (.inl ⟨h4,ah (· + 1) h5,Nat.succ_lt_succ h6⟩)
    ·refine .inr (.inr ⟨h4.trans ?_,Nat.succ_lt_succ h5,Nat.succ_lt_succ h6⟩);have:b+1+(m:Int)+1=b+((m+1:Nat):Int)+1:=qO;rw[this];rfl
def QS{q q':bC}{r:aP}{M:List aP}(h:ku q r=(q',0)):steps q (r::M)=steps q' M:=by
 rw[steps,h,if_pos rfl]
def aju(n:Int)(e:bH)(l:List bH):oJ n (e::l)=⟨3,n+1,e.term,e.b⟩::oJ (n+1) l:=by
 unfold oJ;rw[lT,List.range_succ_eq_map,List.map_cons,List.map_map];congr 1
 ·show(⟨3,n+((0:Nat):Int)+1,e.term,e.b⟩:aP)=_;rw[show n+((0:Nat):Int)+1=n+1 by omega]
 ·refine List.map_congr_left λi hi=>?_
  show(⟨3,n+((i+1:Nat):Int)+1,(l.getD i .z).term,(l.getD i .z).b⟩:aP)=⟨3,n+1+(i:Int)+1,(l.getD i .z).term,(l.getD i .z).b⟩;rw[show n+((i+1:Nat):Int)+1=n+1+(i:Int)+1 by omega]
def TA{a:Int}{e:bH}(ha:1<=a/\a<=64)(h:pY e):iG ⟨3,a,e.term,e.b⟩=true:=by
 unfold iG;have:=h.term;exact aX ⟨(by decide:(1:Int)<=3),(by decide:(3:Int)<=4),ha.1,ha.2,show 0<=e.term by omega,this.2,h.b⟩
def afq{a:Int}(ha:1<=a/\a<=64):iG ⟨4,a,0,[]⟩=true:=by
 unfold iG;exact aX ⟨(by decide:(1:Int)<=4),(by decide:(4:Int)<=4),ha.1,ha.2,(by decide:(0:Int)<=0),(by decide:(0:Int)<=0),cZ _⟩
def aes{s:bC}{a:Int}{e:bH}(ha:a=(s.log.length:Int)+1)(h:pY e)(jP:s.log.length<64):ku s ⟨3,a,e.term,e.b⟩=({ s with log:=s.log++[e] },0):=by
 rw[Jy (TA qO h)]
 ·rfl
 ·unfold mO;rw[if_neg (by show ¬(3:Int)=1;decide),if_neg (by show ¬(3:Int)=2;decide),if_pos rfl];simp[ha]
def WC:∀(l:List bH) (s:bC) (n:Int),n=(s.log.length:Int)->(∀ e∈l,pY e)->s.log.length+l.length<=64->steps s (oJ n l)=({ s with log:=s.log++l },0)
 |[],s,n,_,_,_=>by simp[oJ,steps]
 |e::l,s,n,hn,he,hl=>by
  rw[lT]at hl;rw[aju];have h1:=aes (s:=s) (a:=n+1) qO (he e jL) qO;unfold steps;rw[h1];simp only[if_true];rw[WC l _ (n+1) (by simp;omega) (λx hx=>he x (jA _ hx)) (by simp;omega)];simp
def Xl{n:Int}{l:List bH}{r:aP}(h:r∈oJ n l):∃ i,i<l.length/\r=⟨3,n+(i:Int)+1,(l.getD i .z).term,(l.getD i .z).b⟩:=by
 unfold oJ at h;obtain⟨i,h1,rfl⟩:=List.mem_map.1 h;exact⟨i,List.mem_range.1 h1,rfl⟩
def Xm{n:Int}{l:List bH}:(oJ n l).length=l.length:=by
 unfold oJ;rw[lZ,List.length_range]
structure TK (v T:Int) (s:bC) (x:aV) (p:List aP×Bool×Int):Prop where
 rg:∀ r∈p.1,RG v T r
 ok:(steps s p.1).2=0
 k:∀ r∈p.1,r.kind≠1
 len:p.1.length<=10
 term:(steps s p.1).1.term=max s.term x.term
 log:p.2.1=false->(steps s p.1).1.log=s.log
 upto:p.2.1=true->p.2.2=x.a+x.l.length/\s.term<=x.term/\x.a+x.l.length<=(steps s p.1).1.log.length
 cut:∀ c:Int,c<=s.log.length->(∀ r∈p.1,r.kind=4->¬r.a<=c)->c<=(steps s p.1).1.log.length
 awM:p.2.1=true->x.a<=s.log.length/\mi s.log x.a=x.b/\∃ m,m<=x.l.length/\x.a.toNat+m<=s.log.length/\(∀ i,i<m->(s.log.getD (x.a.toNat+i) .z).term=(x.l.getD i .z).term)/\((m=x.l.length/\(steps s p.1).1.log=s.log)\/(steps s p.1).1.log=s.log.take (x.a.toNat+m)++x.l.drop m)
def ae7{v T:Int}{s:bC}{x:aV}{k:Nat}{fl:Nat->Int}(hs:SG v T s)(hx:LG k v T fl x)(hk:x.kind=3)(hT:0<=T/\T<=1048576):TK v T s x (bg s x):=by
 have ht:=hx.ok.term;have hxt:=hx.term;have hxa:=hx.ok.a;have hxb:=hx.ok.b;have hxl:=hx.ok.len;have axs:=hx.len hk;have hN:VR v T s (gW s x.term) (max s.term x.term):=SB qO hT.2;unfold bg;rcases e1:decide (x.term<s.term) with _|_
 ·have e1:=mJ e1;rcases e2:decide (mi s.log x.a=x.b) with _|_
  ·exact⟨hN.rg,hN.ok,hN.k,by have:=hN.len;show(gW s x.term).length<=10;omega,hN.term,λ_=>hN.log,λh=>ai (show false=true from h) qD,λc hc _=>by show c<=((steps s (gW s x.term)).1.log.length:Int);rw[hN.log];exact hc,λh=>ai (show false=true from h) qD⟩
  ·have e2:=fU e2;have hal:x.a<=(s.log.length:Int):=by
    unfold mi at e2;rcases e3:decide (x.a=0) with _|_
    ·rw[e3,aT (show ¬x.a<0 by omega)]at e2;rcases e4:decide ((s.log.length:Int)<x.a) with _|_
     ·have:=mJ e4;omega
     ·rw[e4]at e2;have e2:(-1:Int)=x.b:=e2;omega
    ·have:=fU e3;omega
   generalize hR:((gW s x.term++tV (oQ s.log x.a.toNat x.l).1)++oJ (x.a+x.l.length-(oQ s.log x.a.toNat x.l).2.length) (oQ s.log x.a.toNat x.l).2)=R
   suffices H:(∀ r∈R,RG v T r)/\(steps s R).2=0/\(∀ r∈R,r.kind≠1)/\R.length<=10/\(steps s R).1.term=max s.term x.term/\(x.a+x.l.length<=((steps s R).1.log.length:Int))/\(∀ c:Int,c<=s.log.length->(∀ r∈R,r.kind=4->¬r.a<=c)->c<=(steps s R).1.log.length)/\∃ m,m<=x.l.length/\x.a.toNat+m<=s.log.length/\(∀ i,i<m->(s.log.getD (x.a.toNat+i) .z).term=(x.l.getD i .z).term)/\((m=x.l.length/\(steps s R).1.log=s.log)\/(steps s R).1.log=s.log.take (x.a.toNat+m)++x.l.drop m) by
    obtain⟨h1,h2,h3,h4,h5,h6,h7,h8⟩:=H;subst hR;exact⟨h1,h2,h3,h4,h5,λh=>ai (show true=false from h) qD,λ_=>⟨rfl,by omega,h6⟩,h7,λ_=>⟨hal,e2,h8⟩⟩
   have hso:∀ e∈x.l,pY e:=λe he=>(hx.es e he).pY hT.2
   obtain⟨m,m1,m2,m3,m4⟩:=ad3 (x.a.toNat:Int) (s.log.drop x.a.toNat) x.l;rw[eY]at m2;have m3':∀ i,i<m->(s.log.getD (x.a.toNat+i) .z).term=(x.l.getD i .z).term:=λi hi=>by
    rw[<-m3 i hi,bn,bn,rP]
   have hlen:=hs.len;obtain⟨m4,m5⟩|⟨m4,m5,m6⟩|⟨m4,m5,m6⟩:=m4
   ·
    have e:R=gW s x.term:=by
     rw[<-hR];show(gW s x.term++tV (kD _ _ _).1)++oJ _ (kD _ _ _).2=_;rw[show kD (x.a.toNat:Int) (s.log.drop x.a.toNat) x.l=_ from m4];simp[tV,oJ]
    rw[e];refine⟨hN.rg,hN.ok,hN.k,by have:=hN.len;omega,hN.term,by rw[hN.log];omega,λc hc _=>by rw[hN.log];exact hc,m,m1,by omega,m3',.inl ⟨m5,hN.log⟩⟩
   ·
    rw[eY]at m5;have e:R=gW s x.term++oJ (x.a+x.l.length-(x.l.drop m).length) (x.l.drop m):=by
     rw[<-hR];show(gW s x.term++tV (kD _ _ _).1)++oJ (_-((kD _ _ _).2.length:Nat)) (kD _ _ _).2=_;rw[show kD (x.a.toNat:Int) (s.log.drop x.a.toNat) x.l=_ from m4];simp[tV]
    have hln:x.a+x.l.length-((x.l.drop m).length:Nat)=((steps s (gW s x.term)).1.log.length:Int):=by
     rw[hN.log,eY];omega
    have hst:steps s R=({ (steps s (gW s x.term)).1 with log:=s.log++x.l.drop m },0):=by
     rw[e,DY _ _ _ hN.ok,WC _ _ _ hln (λe he=>hso e (List.mem_of_mem_drop he)) (by rw[hN.log,eY];omega),hN.log]
    have hmem:∀ r∈R,r∈gW s x.term\/∃ i,i<(x.l.drop m).length/\r=⟨3,x.a+x.l.length-((x.l.drop m).length:Nat)+(i:Int)+1,((x.l.drop m).getD i .z).term,((x.l.drop m).getD i .z).b⟩:=λr hr=>by
     rw[e]at hr;exact(List.mem_append.1 hr).imp id Xl
    refine⟨λr hr=>?_,by rw[hst],λr hr=>?_,?_,by rw[hst];exact hN.term,?_,λc hc _=>?_,m,m1,by omega,m3',.inr ?_⟩
    ·obtain hr|⟨i,hi,rfl⟩:=hmem r hr
     ·exact hN.rg r hr
     ·have hg:=hx.es _ (List.mem_of_mem_drop (axB (z:=.z) hi));rw[eY]at hi;exact⟨TA (by rw[eY];omega) (hg.pY hT.2),λh=>ai (show(3:Int)=2 from h) qD,λ_=>hg⟩
    ·obtain hr|⟨i,hi,rfl⟩:=hmem r hr
     ·exact hN.k r hr
     ·show ¬(3:Int)=1;decide
    ·rw[e,bP,Xm,eY];have:=hN.len;omega
    ·rw[hst];show _<=((s.log++x.l.drop m).length:Int);rw[bP,eY];omega
    ·rw[hst];show _<=((s.log++x.l.drop m).length:Int);rw[bP];omega
    ·rw[hst,jU qO]
   ·
    rw[eY]at m5;have hc1:1<=(x.a.toNat:Int)+m+1/\(x.a.toNat:Int)+m+1<=64:=qO;have e:R=gW s x.term++(⟨4,(x.a.toNat:Int)+m+1,0,[]⟩::oJ (x.a+x.l.length-(x.l.drop m).length) (x.l.drop m)):=by
     rw[<-hR];show(gW s x.term++tV (kD _ _ _).1)++oJ (_-((kD _ _ _).2.length:Nat)) (kD _ _ _).2=_;rw[show kD (x.a.toNat:Int) (s.log.drop x.a.toNat) x.l=_ from m4];show(gW s x.term++(bif !decide ((x.a.toNat:Int)+m+1=0) then [(⟨4,(x.a.toNat:Int)+m+1,0,[]⟩:aP)] else []))++_=_;rw[aT (show ¬(x.a.toNat:Int)+m+1=0 by omega)];simp
    have hcs:∀ q:bC,q.log=s.log->ku q ⟨4,(x.a.toNat:Int)+m+1,0,[]⟩=({ q with log:=s.log.take (x.a.toNat+m) },0):=λq hq=>by
     rw[Jy (afq hc1)]
     ·unfold mZ;rw[if_neg (by show ¬(4:Int)=1;decide),if_neg (by show ¬(4:Int)=2;decide),if_neg (by show ¬(4:Int)=3;decide),hq];rw[show((x.a.toNat:Int)+m+1-1).toNat=x.a.toNat+m by omega]
     ·unfold mO;rw[if_neg (by show ¬(4:Int)=1;decide),if_neg (by show ¬(4:Int)=2;decide),if_neg (by show ¬(4:Int)=3;decide),hq];exact aX (by show(x.a.toNat:Int)+m+1<=_;omega)
    have htl:(s.log.take (x.a.toNat+m)).length=x.a.toNat+m:=by rw[dG];omega
    have hst:steps s R=({ (steps s (gW s x.term)).1 with log:=s.log.take (x.a.toNat+m)++x.l.drop m },0):=by
     rw[e,DY _ _ _ hN.ok,QS (hcs _ hN.log)];rw[WC _ _ _ (by rw[htl,eY];omega) (λe he=>hso e (List.mem_of_mem_drop he)) (by rw[htl,eY];omega)]
    have hmem:∀ r∈R,r∈gW s x.term\/r=⟨4,(x.a.toNat:Int)+m+1,0,[]⟩\/∃ i,i<(x.l.drop m).length/\r=⟨3,x.a+x.l.length-((x.l.drop m).length:Nat)+(i:Int)+1,((x.l.drop m).getD i .z).term,((x.l.drop m).getD i .z).b⟩:=λr hr=>by
     rw[e]at hr;obtain hr|hr:=List.mem_append.1 hr
     ·exact .inl hr
     ·obtain hr|hr:=List.mem_cons.1 hr
      ·exact .inr (.inl hr)
      ·exact .inr (.inr (Xl hr))
    refine⟨λr hr=>?_,by rw[hst],λr hr=>?_,?_,by rw[hst];exact hN.term,?_,λc hc hcut=>?_,m,m1,by omega,m3',.inr (by rw[hst])⟩
    ·obtain hr|rfl|⟨i,hi,rfl⟩:=hmem r hr
     ·exact hN.rg r hr
     ·exact⟨afq hc1,λh=>ai (show(4:Int)=2 from h) qD,λh=>ai (show(4:Int)=3 from h) qD⟩
     ·have hg:=hx.es _ (List.mem_of_mem_drop (axB (z:=.z) hi));rw[eY]at hi;exact⟨TA (by rw[eY];omega) (hg.pY hT.2),λh=>ai (show(3:Int)=2 from h) qD,λ_=>hg⟩
    ·obtain hr|rfl|⟨i,hi,rfl⟩:=hmem r hr
     ·exact hN.k r hr
     ·show ¬(4:Int)=1;decide
     ·show ¬(3:Int)=1;decide
    ·rw[e,bP,lT,Xm,eY];have:=hN.len;omega
    ·rw[hst];show _<=((s.log.take (x.a.toNat+m)++x.l.drop m).length:Int);rw[bP,eY,htl];omega
    ·rw[hst];show _<=((s.log.take (x.a.toNat+m)++x.l.drop m).length:Int);have hb:=hcut ⟨4,(x.a.toNat:Int)+m+1,0,[]⟩ (by rw[e];exact List.mem_append_right _ jL) rfl;have hb:¬(x.a.toNat:Int)+m+1<=c:=hb;rw[bP,eY,htl];omega
 ·have e1:=fU e1;refine⟨nofun,rfl,nofun,cZ _,?_,λ_=>rfl,λh=>ai (show false=true from h) qD,λc hc _=>hc,λh=>ai (show false=true from h) qD⟩;show s.term=max s.term x.term;omega
section
variable {k:Nat} {v T:Int} {fl:Nat->Int} {j:Nat} {n:aA} {L:List aP} {t:List UInt8}
def IJ{n:aA}{x:aV}(h:uA n x=true):jY x/\x.dst=n.me/\x.src<n.many/\(x.kind=3->∀ r∈(bg n.ae x).1,r.kind=4->¬r.a<=n.dN):=by
 unfold uA at h;rcases e1:decide (Bd x=0) with _|_ <;> rw[e1]at h
 ·exact ai h (by simp)
 ·rcases e2:decide (x.dst=n.me) with _|_ <;> rw[e2]at h
  ·exact ai h (by simp)
  ·rcases e3:decide (n.many<=x.src) with _|_ <;> rw[e3]at h
   ·have e3:=mJ e3;refine⟨Ih.1 (fU e1),fU e2,by omega,λhk r hr h4=>?_⟩;rw[aX hk]at h;have h:(!decide (0<=eU (Du n) 0 (bg n.ae x).1))=true:=h;rcases e4:decide (0<=eU (Du n) 0 (bg n.ae x).1) with _|_ <;> rw[e4]at h
    ·have e4:=mJ e4;have hc:=JL (show eU (Du n) 0 (bg n.ae x).1<0 by omega) r hr;unfold Du at hc;rw[aX h4]at hc;exact mJ hc
    ·cases h
   ·exact ai h (by simp)
def NG.MB(h:NG k v T fl j n L t)(E:Env k v T fl j)(hu:n.aB.down=false){x:aV}(hx:LG k v T fl x)(hk:x.kind=3)(hd:x.dst=n.me)(hcut:∀ r∈(bg n.ae x).1,r.kind=4->¬r.a<=n.dN) :
  aaA n x (pW n x)/\qJ k v T fl j (vP n x (pW n x)).1 (vP n x (pW n x)).2.1:=by
 have wC:pW n x=jS (Dv (ny (aS n (bg n.ae x).1).1 x) x (bg n.ae x).2.2):=by
  unfold pW;rw[aX hk];rfl
 rw[wC];have hR:=ae7 h.g.log hx hk E.T0;have hlen:=h.g.log.len;have sH:=h.g.ap;have ht:=hx.ok.term;have hs:=h.g.save E.T0.1 hu hR.rg hR.ok hR.k (hR.cut _ sH.2.2 hcut);obtain⟨L',t',h'⟩:=hs.ex;have hg:=h.vg hu;have hk5:=E.jm;have hjk:=E.j;have hne:=hx.ok.ne;have zX:=hx.ok.src;have hsk:=hx.src;have qy:=h.g.me;have hxc:=hx.ok.c;have hxl:=hx.ok.len;have hxa:=hx.ok.a;by_cases e:(aS n (bg n.ae x).1).2=0
 ·obtain⟨e1,e2⟩:=hs.ok e;have zF:(aS n (bg n.ae x).1).1.ae.term=max n.ae.term x.term:=by rw[e2];exact hR.term
  have hfg:lQ k v T fl j (ny (aS n (bg n.ae x).1).1 x) L' t':=h'.vec _ _ _ _ _;have hlt:∀(a:Int) (ok:Bool) (m:aA) (e5:m.ae=(aS n (bg n.ae x).1).1.ae) (h5:∃ L t,lQ k v T fl j m L t) (hd5:m.aB.down=false),0<=a/\a<=64->LG k v T fl { sJ m 4 x.src with ok:=ok,a:=a }:=λa ok m e5 ⟨L5,t5,h5⟩ hd5 ha=>by
   exact h5.ltr E hd5 (kd:=4) (d:=x.src) (a:=a) (b:=0) (ok:=ok) qO qO (by rw[e5,zF];omega) ⟨ha.1,ha.2,λh=>ai h qD⟩ ⟨by decide,by decide,λ_=>rfl⟩ (λ_=>.inr rfl)
  rcases e3:(bg n.ae x).2.1 with _|_
  ·
   have hvg:VG k fl j (ny (aS n (bg n.ae x).1).1 x):=by
    rcases e4:decide (x.term=(aS n (bg n.ae x).1).1.ae.term) with _|_
    ·refine hg.of ?_ rfl rfl rfl rfl (λ_=>?_) (λ_=>?_)
     ·show(bif decide (x.term=(aS n (bg n.ae x).1).1.ae.term) then 0 else n.role)=_;rw[e4];rfl
     ·show n.ae.log.length<=(aS n (bg n.ae x).1).1.ae.log.length;rw[e2,hR.log e3];exact bF _
     ·show 1<=(aS n (bg n.ae x).1).1.ae.term;rw[zF];omega
    ·refine VG.zero ?_ hg.eF;show(bif decide (x.term=(aS n (bg n.ae x).1).1.ae.term) then 0 else n.role)=_;rw[e4];rfl
   refine⟨⟨hx.ok,hk,hx.len hk,by omega,mV.of hR.rg hR.ok hlen (by have:=hR.len;omega),h.g.EZ hu,by have:=h'.log.len;omega,λ_ h=>by rw[e3]at h;cases h⟩,?_⟩;unfold vP;rw[aX e,e3];rcases e4:decide (x.term=(aS n (bg n.ae x).1).1.ae.term) with _|_
   ·refine⟨⟨L',t',hfg,λ_=>hvg,h.bl⟩,λy hy=>?_,by show(1:Nat)<=8;decide⟩;obtain rfl:=List.mem_singleton.1 hy;exact hlt 0 false _ rfl ⟨L',t',hfg⟩ e1 qD
   ·refine⟨⟨L',t',hfg,λ_=>hvg,h.bl⟩,λy hy=>?_,by show(1:Nat)<=8;decide⟩;obtain rfl:=List.mem_singleton.1 hy;exact hlt _ false _ rfl ⟨L',t',hfg⟩ e1 qO
  ·
   obtain⟨u1,u2,u3⟩:=hR.upto e3;have avj:(ny (aS n (bg n.ae x).1).1 x).role=0:=by
    show(bif decide (x.term=(aS n (bg n.ae x).1).1.ae.term) then 0 else n.role)=_;rw[aX (show x.term=(aS n (bg n.ae x).1).1.ae.term by rw[zF];omega)];rfl
   have hcm:n.dN<=max n.dN (min x.c (bg n.ae x).2.2)/\max n.dN (min x.c (bg n.ae x).2.2)<=((aS n (bg n.ae x).1).1.ae.log.length:Int):=by
    have h1:=hR.cut _ sH.2.2 hcut;rw[<-e2]at h1 u3;rw[u1];omega
   have P5:=hfg.did e1 E.sup E.j (c:=max n.dN (min x.c (bg n.ae x).2.2)) hcm;refine⟨⟨hx.ok,hk,hx.len hk,by omega,mV.of hR.rg hR.ok hlen (by have:=hR.len;omega),h.g.EZ hu,by have:=h'.log.len;omega,λ_ _=>P5.1⟩,?_⟩;unfold vP;rw[aX e,e3];have Jm:NG k v T fl j (applyN (Dv (ny (aS n (bg n.ae x).1).1 x) x (bg n.ae x).2.2) (jS (Dv (ny (aS n (bg n.ae x).1).1 x) x (bg n.ae x).2.2))) L' t':=⟨P5.2,λ_=>VG.zero avj hg.eF,h.bl⟩;refine⟨⟨L',t',Jm⟩,λy hy=>?_,by show(1:Nat)<=8;decide⟩;obtain rfl:=List.mem_singleton.1 hy;exact hlt _ true _ rfl ⟨L',t',hfg⟩ e1 (by rw[u1];have:=hx.len hk;omega)
 ·obtain⟨e1,e2⟩:=hs.bad e;have pK:=h'.log.len;have Jm:NG k v T fl j (aS n (bg n.ae x).1).1 L' t':=⟨h',λ_=>hg.of rfl rfl rfl rfl rfl (λ_=>by rw[e1];exact bF _) (by rw[e1];exact hg.term),h.bl⟩;refine⟨⟨hx.ok,hk,hx.len hk,by omega,mV.of hR.rg hR.ok hlen (by have:=hR.len;omega),h.g.EZ hu,by omega,λhz=>by rw[aT e]at hz;cases hz⟩,?_⟩;unfold vP;rw[aT e];exact⟨⟨L',t',Jm⟩,nofun,cZ _⟩
end
end
section
structure ER (v T:Int) (s:bC) (e:bH) (R:List aP):Prop where
 rg:∀ r∈R,RG v T r
 ok:(steps s R).2=0
 st:(steps s R).1={ s with log:=s.log++[e] }
 k:∀ r∈R,r.kind≠1
 len:R.length<=1
def UC{v T:Int}{s:bC}{e:bH}(jP:s.log.length<64)(he:EG v T e)(hT:T<=1048576):ER v T s e [⟨3,(s.log.length:Int)+1,e.term,e.b⟩]:=by
 have h1:=aes (s:=s) (a:=(s.log.length:Int)+1) rfl (he.pY hT) jP;have hst:steps s [⟨3,(s.log.length:Int)+1,e.term,e.b⟩]=({ s with log:=s.log++[e] },0):=by
  unfold steps;rw[h1];rfl
 refine⟨λr hr=>?_,by rw[hst],by rw[hst],λr hr=>?_,bF _⟩
 ·obtain rfl:=List.mem_singleton.1 hr;exact⟨TA qO (he.pY hT),λh=>ai (show(3:Int)=2 from h) qD,λ_=>he⟩
 ·obtain rfl:=List.mem_singleton.1 hr;show ¬(3:Int)=1;decide
def D9{α:Type}{l:List α}{i m:Nat}{x z:α}:(l.set i x).getD m z=if i=m/\m<l.length then x else l.getD m z:=by
 rw[bn,List.getElem?_set,bn];by_cases h:i=m
 ·subst h;by_cases h2:i<l.length
  ·rw[if_pos rfl,if_pos h2,if_pos ⟨rfl,h2⟩];rfl
  ·rw[if_pos rfl,if_neg h2,if_neg (λh=>h2 h.2),List.getElem?_eq_none_iff.2 qO]
 ·rw[if_neg h,if_neg (λh2=>h h2.1)]
def QU(l:List Int)(v:Int):∀ i,(sK l v i).length=l.length
 |0=>rfl
 |i+1=>by
  show((sK l v i).set i v).length=_;rw[nM,QU l v i]
def adC(l:List Int)(v:Int):∀(i m:Nat),i<=l.length->m<i->(sK l v i).getD m 0=v
 |0,m,_,h=>ai h (qh _)
 |i+1,m,hi,h=>by
  show((sK l v i).set i v).getD m 0=v;rw[D9,QU];by_cases e:i=m
  ·rw[if_pos ⟨e,by omega⟩]
  ·rw[if_neg (λh=>e h.1),adC l v i m qO qO]
section
variable {k:Nat} {v T:Int} {fl:Nat->Int} {j:Nat} {n:aA} {L:List aP} {t:List UInt8}
def NG.entry(h:NG k v T fl j n L t)(E:Env k v T fl j)(hu:n.aB.down=false){e:bH}{R:List aP}(hR:ER v T n.ae e R):(∃ L' t',NG k v T fl j (aS n R).1 L' t')/\ag4 k v T fl j n R (aS n R):=by
 have sH:=h.g.ap;have hs:=h.g.save E.T0.1 hu hR.rg hR.ok hR.k (by rw[hR.st];show _<=((n.ae.log++[e]).length:Int);rw[bP];omega);obtain⟨L',t',h0⟩:=hs.ex;refine⟨⟨L',t',h0,λhd=>?_,h.bl⟩,hs⟩;have hg:=h.vg hu;by_cases e0:(aS n R).2=0
 ·have e1:=(hs.ok e0).2;exact hg.of rfl rfl rfl rfl rfl (λ_=>by rw[e1,hR.st];show _<=(n.ae.log++[e]).length;rw[bP];omega) (by rw[e1,hR.st];exact hg.term)
 ·have e1:=(hs.bad e0).1;exact hg.of rfl rfl rfl rfl rfl (λ_=>by rw[e1];exact bF _) (by rw[e1];exact hg.term)
def NG.VN(h:NG k v T fl j n L t)(hu:n.aB.down=false)(hr:n.role≠0):NG k v T fl j (gI n k) L t:=by
 have hg:=h.vg hu;obtain⟨h1,h2,h3,h4⟩:=hg.vec hr;refine⟨h.g.vec _ _ _ _ _,λ_=>⟨.inr (.inr rfl),λ_=>⟨h1,h2,?_,?_⟩,hg.eF,λ_ i hi _=>?_,λ_=>hg.term hr⟩,h.bl⟩
 ·show(sK n.next (o7 n) k).length=k;rw[QU,h3]
 ·show(sK n.gz 0 k).length=k;rw[QU,h4]
 ·show 1<=(sK n.next (o7 n) k).getD i 0/\(sK n.next (o7 n) k).getD i 0<=(n.ae.log.length:Int)+1;rw[adC _ _ _ _ qO hi];unfold o7;omega
def NG.lead(h:NG k v T fl j n L t)(E:Env k v T fl j)(hu:n.aB.down=false)(hr:n.role≠0):UB n k/\qJ k v T fl j (xK n k).1 (xK n k).2.1:=by
 have hl:=h.VN hu hr;have hg:=h.vg hu;obtain⟨h1,h2,h3,h4⟩:=hg.vec hr;have hlen:=h.g.log.len;have ht:=hg.term hr;have htT:=h.g.log.term;have hk5:=E.jm;have Mc:(gI n k).aB.down=false:=hu;have hb1:=hl.G7 E;have key:o7 n<=64->ER v T (gI n k).ae ⟨n.ae.term,[]⟩ (lK n):=λjP=>by
  unfold o7 at jP;exact UC (s:=n.ae) qO ⟨⟨ht,htT.2⟩,.inl rfl⟩ E.T0.2
 rcases e:decide (o7 n<=64) with _|_
 ·have e':=mJ e;refine⟨⟨h.g.many,by omega,by omega,h3,h4,h.g.EZ hu,λh=>ai h e',λh=>ai h e',hb1.1⟩,?_⟩;unfold xK;rw[e];exact⟨⟨L,t,hl⟩,hb1.2.1,hb1.2.2⟩
 ·have e':=fU e;have hR:=key e';obtain⟨⟨L',t',h5⟩,hs⟩:=hl.entry E Mc hR;have hb2:=h5.G7 E;refine⟨⟨h.g.many,by omega,by omega,h3,h4,h.g.EZ hu,λ_=>mV.of hR.rg hR.ok hlen (by have:=hR.len;omega),λ_=>hb2.1,hb1.1⟩,?_⟩;unfold xK;rw[e];by_cases e2:(aS (gI n k) (lK n)).2=0
  ·rw[aX e2];exact⟨⟨L',t',h5⟩,hb2.2.1,hb2.2.2⟩
  ·rw[aT e2];exact⟨⟨L',t',h5⟩,nofun,cZ _⟩
def apE{m:Int}{x:aV}(hx:0<=x.a)(hm:1<=m):1<=KO m x:=by
 unfold KO;cases x.ok
 ·rcases e:decide (1<m) with _|_
  ·exact dL _
  ·have e:=fU e;show 1<=min (m-1) (x.a+1);omega
 ·show 1<=x.a+1;omega
def alk{s:bC}{l:List Int}{c:Int}(hc:c<=s.log.length):c<=Ip s l c/\Ip s l c<=s.log.length:=by
 unfold Ip;rcases e:(bif decide (c<Ew s l) then decide (mi s.log (Ew s l)=s.term) else false) with _|_
 ·exact⟨dL _,hc⟩
 ·have h1:c<Ew s l:=by
   rcases e1:decide (c<Ew s l) with _|_
   ·rw[e1]at e;cases e
   ·exact fU e1
  refine⟨Int.le_of_lt h1,?_⟩;show min (Ls l) (s.log.length:Int)<=_;omega
def NG.done(h:NG k v T fl j n L t)(E:Env k v T fl j)(hu:n.aB.down=false)(hr:n.role=2){x:aV}(hx:LG k v T fl x)(hd:x.dst=n.me):UD n x (jS (rE (jE n x)))/\qJ k v T fl j (axF n x (jS (rE (jE n x)))).1 (axF n x (jS (rE (jE n x)))).2.1:=by
 have hg:=h.vg hu;obtain⟨h1,h2,h3,h4⟩:=hg.vec qO;have hlen:=h.g.log.len;have hk5:=E.jm;have hj:=E.j;have qy:=h.g.me;have zX:=hx.ok.src;have hsk:=hx.src;have hne:=hx.ok.ne;have hxa:=hx.ok.a;have sH:=h.g.ap;have ht:=hg.term qO;have hsj:x.src.toNat<k/\x.src.toNat≠j:=qO;have hnx:=hg.next hr x.src.toNat hsj.1 hsj.2
 have hn1:=apE (m:=n.next.getD x.src.toNat 0) hxa.1 hnx.1;have hv:VG k fl j (jE n x):=by
  refine⟨.inr (.inr hr),λ_=>⟨h1,h2,?_,?_⟩,hg.eF,λ_ i hi hij=>?_,λ_=>ht⟩
  ·show(n.next.set _ _).length=k;rw[nM,h3]
  ·show(bif x.ok then n.gz.set _ _ else n.gz).length=k;cases x.ok
   ·exact h4
   ·show(n.gz.set _ _).length=k;rw[nM,h4]
  ·show 1<=(n.next.set x.src.toNat (min (KO (n.next.getD x.src.toNat 0) x) (o7 n))).getD i 0/\(n.next.set x.src.toNat (min (KO (n.next.getD x.src.toNat 0) x) (o7 n))).getD i 0<=(n.ae.log.length:Int)+1;rw[D9];split
   ·unfold o7;omega
   ·exact hg.next hr i hi hij
 have h0:lQ k v T fl j (jE n x) L t:=h.g.vec _ _ _ _ _;have hcm:=alk (s:=n.ae) (l:=EE (jE n x)) (c:=n.dN) sH.2.2;have P5:=h0.did hu E.sup E.j (c:=Ip n.ae (EE (jE n x)) n.dN) hcm;have Jm:NG k v T fl j (rD n x (jS (rE (jE n x)))) L t:=⟨P5.2,λ_=>hv.of rfl rfl rfl rfl rfl (λ_=>bF _) (λ_=>ht),h.bl⟩;have Md:=λ(_:¬(n.ae.log.length:Int)<(rD n x (jS (rE (jE n x)))).next.getD x.src.toNat 0)=>Jm.g.copy E hu (d:=x.src) qO ht ((hv.vec (by show n.role≠0;omega)).2.2.1) (hv.next hr x.src.toNat hsj.1 hsj.2)
 refine⟨⟨by omega,zX.1,by omega,by omega,by omega,by omega,by omega,by omega,P5.1,λh=>(Md h).1⟩,?_⟩;unfold axF;rcases e:decide ((n.ae.log.length:Int)<(rD n x (jS (rE (jE n x)))).next.getD x.src.toNat 0) with _|_
 ·have e:=mJ e;refine⟨⟨L,t,Jm⟩,λy hy=>?_,by show(1:Nat)<=8;decide⟩;obtain rfl:=List.mem_singleton.1 hy;exact(Md e).2
 ·exact⟨⟨L,t,Jm⟩,nofun,cZ _⟩
def NG.MC(h:NG k v T fl j n L t)(E:Env k v T fl j)(hu:n.aB.down=false){x:aV}(hx:LG k v T fl x)(hd:x.dst=n.me)(DR:x.kind≠3)(hrc:n.ae.term<x.term->n.role=0):aaC n x k (pW n x)/\qJ k v T fl j (xq n x k (pW n x)).1 (xq n x k (pW n x)).2.1:=by
 have wC:pW n x=jS (rE (jE (mQ n x) x)):=by
  unfold pW;rw[aT DR];rfl
 rw[wC];have hxt:=hx.ok.term;have zX:=hx.ok.src;have hsk:=hx.src;have hk5:=E.jm;have hR:VR v T n.ae (gW n.ae x.term) _:=SB ⟨by omega,hx.term⟩ E.T0.2;have hlen:=h.g.log.len;obtain⟨L',t',h'⟩:=h.IE E hu hR qO;have hs:=h.g.save E.T0.1 hu hR.rg hR.ok hR.k (by rw[hR.log];exact h.g.ap.2.2);have hg:=h.vg hu;have hbad:(ou n x).2≠0->rW n x=true:=λe=>by
  by_cases e1:x.term<=n.ae.term
  ·refine ai ?_ e;show(aS n (gW n.ae x.term)).2=0;unfold gW;rw[aX e1];rfl
  ·unfold rW;have hr0:(ou n x).1.role=0:=hrc qO;rw[hr0];cases !decide (x.term=(ou n x).1.ae.term) <;> rfl
 have hnot:rW n x=false->(ou n x).1.aB.down=false/\(ou n x).1.role≠0:=λho=>by
  have e0:(ou n x).2=0:=Decidable.byContradiction λe=>by rw[hbad e]at ho;cases ho
  refine⟨(hs.ok e0).1,λhr0=>?_⟩;unfold rW at ho;rw[hr0]at ho;cases h9 : !decide (x.term=(ou n x).1.ae.term) <;> rw[h9]at ho <;> cases ho
 have Ht:rW n x=false->NG k v T fl j (mQ n x) L' t':=λho=>by
  obtain⟨Jl,hr1⟩:=hnot ho;refine⟨h'.g.vec _ _ _ _ _,λjo=>?_,by show((ou n x).1.eF.set _ _).length<=5;rw[nM];exact h'.bl⟩;have hg1:=h'.vg Jl;obtain⟨v1,v2,v3,v4⟩:=hg1.vec hr1;refine⟨hg1.role,λ_=>⟨v1,?_,v3,v4⟩,λi hi=>?_,hg1.next,hg1.term⟩
  ·show((ou n x).1.eF.set _ _).length=k;rw[nM];exact v2
  ·show((ou n x).1.eF.set x.src.toNat x.bin).getD i 0<=fl i;rw[D9];split
   ·rename_i e
    rw[<-e.1];exact hx.bin
   ·exact hg1.eF i hi
 have hN3:rW n x=false->NG k v T fl j (qY n x) L' t':=λho=>by
  have h2:=Ht ho;refine⟨h2.g.vec _ _ _ _ _,λjo=>?_,h2.bl⟩;have hg1:=h2.vg jo;refine⟨hg1.role,λhr=>?_,hg1.eF,hg1.next,hg1.term⟩;obtain⟨v1,v2,v3,v4⟩:=hg1.vec hr;refine⟨?_,v2,v3,v4⟩;show((mQ n x).ig.set _ _).length=k;rw[nM];exact v1
 have axu:(mQ n x).me=n.me:=rfl;have hlead:=λ(ho:rW n x=false)=>(hN3 ho).lead E (hnot ho).1 (hnot ho).2
 have hdone:=λ(ho:rW n x=false) (hr2:(mQ n x).role=2)=>(Ht ho).done E (hnot ho).1 hr2 hx hd
 have hdr:FX (mQ n x) x=true->(mQ n x).role=2:=λha=>by
  unfold FX at ha;rcases e1:decide (x.kind=4) with _|_ <;> rw[e1]at ha
  ·cases ha
  ·exact fU ha
 refine⟨⟨hR.put hlen,h.g.EZ hu,zX.1,λhr=>?_,λho _ _=>(hlead ho).1,λho _ ha=>(hdone ho (hdr ha)).1⟩,?_⟩
 ·obtain⟨v1,v2,v3,v4⟩:=hg.vec hr;omega
 ·unfold xq;by_cases e0:(ou n x).2=0
  ·rw[aX e0];rcases ho:rW n x with _|_
   ·rcases hv:Ir (mQ n x) x with _|_
    ·rcases ha:FX (mQ n x) x with _|_
     ·exact⟨⟨L',t',Ht ho⟩,nofun,cZ _⟩
     ·exact(hdone ho (hdr ha)).2
    ·rcases hw:KH (qY n x) with _|_
     ·exact⟨⟨L',t',hN3 ho⟩,nofun,cZ _⟩
     ·exact(hlead ho).2
   ·exact⟨⟨L',t',h'⟩,nofun,cZ _⟩
  ·rw[aT e0];exact⟨⟨L',t',h'⟩,nofun,cZ _⟩
end
end
section
section
variable {k:Nat} {v T:Int} {fl:Nat->Int} {j:Nat} {n:aA} {L:List aP} {t:List UInt8}
def take_len{n:aA}{x:aV}:(bg n.ae x).1.length<=2+x.l.length:=by
 have hN:(gW n.ae x.term).length<=1:=by
  unfold gW;cases decide (x.term<=n.ae.term)
  ·exact bF _
  ·exact cZ _
 unfold bg;cases decide (x.term<n.ae.term)
 ·cases decide (mi n.ae.log x.a=x.b)
  ·show(gW n.ae x.term).length<=_;omega
  ·show((gW n.ae x.term++tV (oQ n.ae.log x.a.toNat x.l).1)++oJ _ (oQ n.ae.log x.a.toNat x.l).2).length<=_;have hc:(tV (oQ n.ae.log x.a.toNat x.l).1).length<=1:=by
    unfold tV;cases decide ((oQ n.ae.log x.a.toNat x.l).1=0)
    ·exact bF _
    ·exact cZ _
   have hm:(oQ n.ae.log x.a.toNat x.l).2.length<=x.l.length:=TE _ _ _;rw[bP,bP,Xm];omega
 ·exact cZ _
def NG.recv(h:NG k v T fl j n L t)(E:Env k v T fl j){x:aV}(hx:LG k v T fl x):IV n x k (pW (nG n x) x)/\qJ k v T fl j (uk n x k).1 (uk n x k).2.1:=by
 have hxl:=hx.ok.len;have hkd:=hx.ok.kind;have hr:=h.rcv x;have hrc:(nG n x).ae.term<x.term->(nG n x).role=0:=λhlt=>by
  show(bif decide (n.ae.term<x.term) then 0 else n.role)=0;rw[aX (show n.ae.term<x.term from hlt)];rfl
 have hlen:=h.g.log.len;have hsz:DT x.l:=⟨by omega,λi hi=>by have:=(hx.es _ (axB (z:=.z) hi)).len;omega⟩;have hA:=λ(hu:n.aB.down=false) (hm:uA n x=true) (e:x.kind=1)=>hr.ask E hu hx e (IJ hm).2.1
 have hC:=λ(hu:n.aB.down=false) (hm:uA n x=true) (e:x.kind=3)=>hr.MB E hu hx e (IJ hm).2.1 ((IJ hm).2.2.2 e)
 have hB:=λ(hu:n.aB.down=false) (hm:uA n x=true) (e:x.kind≠3)=>hr.MC E hu hx (IJ hm).2.1 e hrc
 refine⟨⟨by omega,λe _=>⟨hx.ok,hx.len e⟩,by omega,by have:=take_len (n:=n) (x:=x);omega,hsz,hkd,λhu hm e=>(hA hu hm e).1,λhu hm e=>(hC hu hm e).1,λhu hm _ e=>(hB hu hm e).1⟩,?_⟩;unfold uk FO;rcases hu:n.aB.down with _|_
 ·rcases hm:uA n x with _|_
  ·exact⟨⟨L,t,h⟩,nofun,cZ _⟩
  ·show qJ k v T fl j (AO (nG n x) x k (pW (nG n x) x)).1 (AO (nG n x) x k (pW (nG n x) x)).2.1;by_cases e1:x.kind=1
   ·rw[Zt e1];exact(hA hu hm e1).2
   ·by_cases e3:x.kind=3
    ·rw[Zq e3];exact(hC hu hm e3).2
    ·rw[Zr e1 e3];exact(hB hu hm e3).2
 ·exact⟨⟨L,t,h⟩,nofun,cZ _⟩
def A8(v:Int)(c:aF)(n:aA):Int:=bif (bif decide (c.kind=8) then xB n.st.version n.eF else false) then max v (n.st.version+1) else v
def abA:∀(l:List Int) (a:Int),l.foldl min a<=a/\∀ x∈l,l.foldl min a<=x
 |[],a=>⟨dL _,nofun⟩
 |y::l,a=>by
  obtain⟨h1,h2⟩:=abA l (min a y);refine⟨by show l.foldl min (min a y)<=a;omega,λx hx=>?_⟩;show l.foldl min (min a y)<=x;obtain rfl|hx:=List.mem_cons.1 hx
  ·omega
  ·exact h2 x hx
def akE{w:Int}{l:List Int}(h:xB w l=true):1<=w/\w<3/\∀ x∈l,w<x:=by
 unfold xB at h;rcases e1:decide (1<=w) with _|_ <;> rw[e1]at h
 ·cases h
 rcases e2:decide (w<3) with _|_ <;> rw[e2]at h
 ·cases h
 have h:decide (w<Ux l)=true:=h;have h:=fU h;have e1:=fU e1;refine⟨e1,fU e2,λx hx=>?_⟩;unfold Ux at h;rcases e3:(bif decide ((l.length:Int)=0) then true else decide (0<=eU (λv=>!dQ v 1 3) 0 l)) with _|_ <;> rw[e3]at h
 ·have h:w<l.tail.foldl min (l.getD 0 0):=h;obtain _|⟨y,l⟩:=l
  ·cases hx
  ·obtain⟨q1,q2⟩:=abA l y;have h:w<l.foldl min y:=h;obtain rfl|hx:=List.mem_cons.1 hx
   ·omega
   ·have:=q2 x hx;omega
 ·have h:w<0:=h;omega
def ae1{c:aF}(hs:Ae k v fl)(h:NG k v T fl j n L t)(hu:n.aB.down=false)(hr:n.role=2):v<=A8 v c n/\Ae k (A8 v c n) fl:=by
 unfold A8;rcases e:(bif decide (c.kind=8) then xB n.st.version n.eF else false) with _|_
 ·exact⟨dL _,hs⟩
 ·have hrd:xB n.st.version n.eF=true:=by
   rcases e1:decide (c.kind=8) with _|_ <;> rw[e1]at e
   ·cases e
   ·exact e
  obtain⟨h1,h2,h3⟩:=akE hrd;have hg:=h.vg hu;obtain⟨v1,v2,v3,v4⟩:=hg.vec qO;have hall:∀ i,i<k->n.st.version+1<=fl i:=λi hi=>by
   have:=h3 _ (axB (z:=(0:Int)) (show i<n.eF.length by omega));have:=hg.eF i hi;omega
  obtain⟨s1,s2,s3⟩:=hs;refine⟨by show v<=max v (n.st.version+1);omega,by show 1<=max v (n.st.version+1);omega,by show max v (n.st.version+1)<=3;omega,.inr λi hi=>?_⟩;show max v (n.st.version+1)<=fl i;have:=hall i hi;obtain s3|s3:=s3
  ·omega
  ·have:=s3 i hi;omega
def aru{s:bC}{e:bH}(hs:SG v T s)(hT:T<=1048576)(jP:s.log.length<64)(ht:0<=e.term/\e.term<=T)(hb:e.b.length<=200):mV s [⟨3,(s.log.length:Int)+1,e.term,e.b⟩]:=by
 have hok:iG ⟨3,(s.log.length:Int)+1,e.term,e.b⟩=true:=by
  unfold iG;exact aX ⟨(by decide:(1:Int)<=3),(by decide:(3:Int)<=4),show 1<=(s.log.length:Int)+1 by omega,show(s.log.length:Int)+1<=64 by omega,ht.1,show e.term<=1048576 by omega,hb⟩
 have iY:mO s ⟨3,(s.log.length:Int)+1,e.term,e.b⟩=true:=by
  unfold mO;rw[if_neg (by show ¬(3:Int)=1;decide),if_neg (by show ¬(3:Int)=2;decide),if_pos rfl];simp
 refine⟨by rw[List.all_cons,hok];rfl,?_,by have:=hs.len;omega,by show(1:Nat)<=100;decide⟩;rw[QS (Jy hok iY)];rfl
def NG.call(h:NG k v T fl j n L t)(E:Env k v T fl j){c:aF}(hz:nV c):Qg n c/\∃ w,v<=w/\Ae k w fl/\qJ k w T fl j (nR n c).1 []:=by
 have hlen:=h.g.log.len;have ah4:=h.g.verb;have hbl:=h.bl;have zF:=h.g.log.term;have hcl:Qg n c:=⟨hz,by omega,by omega,by omega,λhu=>h.g.EZ hu,λhc jP=>aru (e:=⟨n.ae.term,fQ c⟩) h.g.log E.T0.2 qO zF (MO hc).2⟩;refine⟨hcl,?_⟩;have same:∃ w,v<=w/\Ae k w fl/\qJ k w T fl j n []:=⟨v,dL _,E.sup,⟨L,t,h⟩,nofun,cZ _⟩;unfold nR;rcases hu:n.aB.down with _|_
 rotate_left
 ·exact same
 rcases hr:decide (n.role=2) with _|_
 ·exact same
 rcases hm:decide (kX c n.st.version=0) with _|_
 ·exact same
 rcases hb:(bif decide (c.kind=8) then !decide (c.n=n.st.version+1) else false) with _|_
 rotate_left
 ·exact same
 rcases hrd:(bif decide (c.kind=8) then !xB n.st.version n.eF else false) with _|_
 rotate_left
 ·exact same
 rcases jP:decide (64<(n.ae.log.length:Int)+1) with _|_
 rotate_left
 ·exact same
 have hr:=fU hr;have hm:=fU hm;have jP:=mJ jP;obtain⟨w1,w2⟩:=ae1 (c:=c) E.sup h hu hr;have E':Env k (A8 v c n) T fl j:=⟨E.jm,E.T0,w2,E.j⟩;have h':NG k (A8 v c n) T fl j n L t:=h.up w1 w2.2.1 (dL _) (λ_=>dL _) rfl;have hg:=h.vg hu;have hc:=J4 hm hz;have hvv:=(h.g.up hu).ver;have he:EG (A8 v c n) T ⟨n.ae.term,fQ c⟩:=by
  refine⟨⟨hg.term qO,zF.2⟩,.inr ⟨c,rfl,hc.up qO w2.2.1,λh8=>?_⟩⟩;rw[aX h8]at hb hrd;have hb:(!decide (c.n=n.st.version+1))=false:=hb;have hrd:(!xB n.st.version n.eF)=false:=hrd;have hb:c.n=n.st.version+1:=by simpa using hb
  have hrd:xB n.st.version n.eF=true:=by simpa using hrd
  unfold A8;rw[aX h8,hrd];show c.n<=max v (n.st.version+1);omega
 have hR:=UC (s:=n.ae) qO he E.T0.2;obtain⟨hex,hs⟩:=h'.entry E' hu hR;have hres:qJ k (A8 v c n) T fl j (aS n [(⟨3,(n.ae.log.length:Int)+1,n.ae.term,fQ c⟩:aP)]).1 []:=⟨hex,nofun,cZ _⟩;show ∃ w,v<=w/\Ae k w fl/\qJ k w T fl j (bif !decide ((aS n [(⟨3,(n.ae.log.length:Int)+1,n.ae.term,fQ c⟩:aP)]).2=0) then((aS n [(⟨3,(n.ae.log.length:Int)+1,n.ae.term,fQ c⟩:aP)]).1,(0:Int),(0:Int),(aS n [(⟨3,(n.ae.log.length:Int)+1,n.ae.term,fQ c⟩:aP)]).2) else((aS n [(⟨3,(n.ae.log.length:Int)+1,n.ae.term,fQ c⟩:aP)]).1,(n.ae.log.length:Int)+1,n.ae.term,0)).1 [];cases !decide ((aS n [(⟨3,(n.ae.log.length:Int)+1,n.ae.term,fQ c⟩:aP)]).2=0)
 ·exact⟨_,w1,w2,hres⟩
 ·exact⟨_,w1,w2,hres⟩
structure LH (n:aA):Prop where
 many:3<=n.many/\n.many<=5
 me:0<=n.me/\n.me<n.many
 term : -10<=n.ae.term/\n.ae.term<1048576
 hl:n.ae.log.length<=1000
 hn:n.aB.down=false->wB n
 hL:mV n.ae (jh (n.ae.term+1) (n.me+1))
 pK:(vX n).1.ae.log.length<=1000
def VR.apA{R:List aP}{a:Int}(h:VR v T n.ae R a):(aS n R).1.ae.log=n.ae.log:=by
 show(tC n.aB n.ae R).1.log=_;unfold tC;cases decide (((R.length:Nat):Int)=0)
 ·cases decide (65536<n.aB.b.length+(di R).length)
  ·cases n.aB.oU
   ·exact h.log
   ·rfl
  ·rfl
 ·rfl
def am2{l:List bH}(h:∀ e∈l,EG v T e)(hT:0<=T):0<=Es l/\Es l<=T:=by
 unfold Es;rcases e:decide ((l.length:Int)=0) with _|_
 ·have e:=mJ e;have:=(h _ (axB (z:=.z) (show((l.length:Int)-1).toNat<l.length by omega))).term;show 0<=(l.getD ((l.length:Int)-1).toNat .z).term/\(l.getD ((l.length:Int)-1).toNat .z).term<=T;omega
 ·exact⟨dL _,hT⟩
def lQ.axh(h:lQ k v T fl j n L t)(E:Env k v T fl j)(hu:n.aB.down=false){d:Int}(hd:0<=d/\d<k/\d≠j)(ht:1<=n.ae.term):LG k v T fl (Dx n d):=by
 have hll:=am2 h.log.log E.T0.1;have hlen:=h.log.len;have hT:=E.T0;exact h.ltr E hu (kd:=1) (d:=d) (a:=(n.ae.log.length:Int)) (b:=Es n.ae.log) (ok:=false) (.inl rfl) hd ht ⟨by omega,by omega,λh=>ai h qD⟩ ⟨hll.1,by omega,λh=>ai h qD⟩ (λh=>ai h qD)
def lQ.asks(h:lQ k v T fl j n L t)(E:Env k v T fl j)(hu:n.aB.down=false)(ht:1<=n.ae.term):(∀ x∈yH n,LG k v T fl x)/\(yH n).length<=8:=by
 have hmk:n.many.toNat=k:=by have:=h.many;omega
 have hk5:=E.jm;refine⟨λy hy=>?_,?_⟩
 ·obtain⟨d,hd,rfl⟩:=List.mem_map.1 (show y∈(jb n n.many.toNat).map (Dx n) from hy);have ho:=WE hd h.me;exact h.axh E hu ⟨ho.1,by omega,ho.2.2⟩ ht
 ·show((jb n n.many.toNat).map (Dx n)).length<=8;rw[lZ];have:=ach (n:=n) (m:=n.many.toNat);omega
def NG.LQ(h:NG k v T fl j n L t)(E:Env k v T fl j)(hT:T<1048576)(hf:∀ i,i<k->0<=fl i):LH n/\qJ k v (T+1) fl j (xw n).1 (xw n).2.1:=by
 have hlen:=h.g.log.len;have zF:=h.g.log.term;have hk5:=E.jm;have hj:=E.j;have qy:=h.g.me;have avn:=h.g.many;have E':Env k v (T+1) fl j:=⟨E.jm,by have:=E.T0;omega,E.sup,E.j⟩;have h':NG k v (T+1) fl j n L t:=h.up (dL _) E.sup.2.1 qO (λ_=>dL _) rfl;have hR:VR v (T+1) n.ae (jh (n.ae.term+1) (n.me+1)) (n.ae.term+1):=VR.cu ⟨by omega,by omega⟩ qO ⟨by omega,by omega⟩ (.inl qO);have GR:=hR.apA;refine⟨⟨by omega,by omega,by omega,by omega,λhu=>h.g.EZ hu,hR.put hlen,by show(aS n _).1.ae.log.length<=1000;rw[GR];omega⟩,?_⟩;unfold xw;rcases hst:sZ n with _|_
 ·show qJ k v (T+1) fl j (nD n).1 (nD n).2.1;unfold nD;rcases hu:n.aB.down with _|_
  ·rcases hr:decide (n.role=2) with _|_
   ·exact⟨h'.IE E' hu hR qO,nofun,cZ _⟩
   ·exact⟨⟨L,t,h'⟩,nofun,cZ _⟩
  ·exact⟨⟨L,t,h'⟩,nofun,cZ _⟩
 ·unfold sZ at hst;rcases hu:n.aB.down with _|_ <;> rw[hu]at hst
  ·rcases hr:decide (n.role=2) with _|_ <;> rw[hr]at hst
   ·have hst:decide ((vX n).2=0)=true:=hst;have hq:(aS n (jh (n.ae.term+1) (n.me+1))).2=0:=fU hst;obtain⟨L',t',h1⟩:=h'.IE E' hu hR qO;have hs:=h'.g.save E'.T0.1 hu hR.rg hR.ok hR.k (by rw[hR.log];exact h.g.ap.2.2);obtain⟨q1,q2⟩:=hs.ok hq;have hb:(eX n).eF.length=k:=by
     show((List.replicate n.many.toNat 0).set n.me.toNat n.bin).length=k;rw[nM,List.length_replicate];omega
    have h0:lQ k v (T+1) fl j (eX n) L' t':=h1.g.vec _ _ _ _ _;have P6:n.bin=fl j:=by
     have u:=h.g.up hu;rw[u.bin,u.ae,h.g.fl]
    have hS:NG k v (T+1) fl j (eX n) L' t':=by
     refine⟨h0,λ_=>⟨.inr (.inl rfl),λ_=>⟨?_,hb,?_,?_⟩,λi hi=>?_,λh=>ai (show(1:Int)=2 from h) qD,λ_=>?_⟩,by omega⟩
     ·show((List.replicate n.many.toNat false).set n.me.toNat true).length=k;rw[nM,List.length_replicate];omega
     ·show(List.replicate n.many.toNat (0:Int)).length=k;rw[List.length_replicate];omega
     ·show(List.replicate n.many.toNat (0:Int)).length=k;rw[List.length_replicate];omega
     ·show((List.replicate n.many.toNat 0).set n.me.toNat n.bin).getD i 0<=fl i;rw[D9];split
      ·rename_i e
       rw[P6,show i=j by omega];exact dL _
      ·have:=hf i hi;rw[bn,List.getElem?_replicate];split <;> exact this
     ·show 1<=(aS n _).1.ae.term;rw[q2,hR.term];omega
    have ht1:1<=(eX n).ae.term:=by
     show 1<=(aS n (jh (n.ae.term+1) (n.me+1))).1.ae.term;rw[q2,hR.term];omega
    have hu1:(eX n).aB.down=false:=q1;have hasks:=h0.asks E' hu1 ht1;exact⟨⟨L',t',hS⟩,hasks.1,hasks.2⟩
   ·cases hst
  ·cases hst
structure Qe (n:aA) (b:Int) (L:List aP) (t:List UInt8):Prop where
 laid:Laid n.aB.b L t
 ok:n.aB.ok
 err:DZ n b=BL n b L
 st:wQ n b=Kq n b L
 axy:BL n b L=0->n.aB.down=true/\Cc b (max (fJ L).floor 1)=0/\fC.ok (Jd n.aB L)/\mV (fJ L) (iH b)/\(¬(aS (eQ n b L) (iH b)).2=0->fC.ok (aS (eQ n b L) (iH b)).1.aB)
def aej:gK AA AA.version:=SE.1 qD
def NG.start(h:NG k v T fl j n L t)(E:Env k v T fl j)(hf:∀ i,i<k->0<=fl i)(b:Int):Qe n b L t/\(vS n b=true->∃ lX,(∀ i,i≠j->lX i=fl i)/\fl j<=lX j/\qJ k v T lX j (wQ n b).1 []):=by
 have hrep:=h.g.dg.laid.vk;have e1:(Bc n).1=fJ L:=ah Prod.fst hrep;have e2:(Bc n).2=(di L).length:=ah Prod.snd hrep;have eb:C9 n b=eQ n b L:=by
  unfold C9 eQ Jd;rw[e1,e2]
 have eP:wQ n b=Kq n b L:=by
  unfold wQ Kq;rw[eb,e1]
 have eE:DZ n b=BL n b L:=by
  unfold DZ BL;rw[e1]
 have hsg:=h.g.dg.ae E.T0.1;have hv:=E.sup;have key:BL n b L=0->n.aB.down=true/\Cc b (max (fJ L).floor 1)=0/\1<=b/\b<=3/\(fJ L).floor<=b:=λhe=>by
  unfold BL at he;rcases hd:n.aB.down with _|_ <;> rw[hd]at he
  ·exact ai (show(31:Int)=0 from he) qD
  ·have he:Cc b (max (fJ L).floor 1)=0:=he;refine⟨rfl,he,?_⟩;unfold Cc at he;rcases h1:dQ b 1 3 with _|_ <;> rw[h1]at he
   ·exact ai (show(1:Int)=0 from he) qD
   ·have h1:=Gn h1;rcases h2:dQ (max (fJ L).floor 1) 1 3 with _|_ <;> rw[h2]at he
    ·exact ai (show(1:Int)=0 from he) qD
    ·rcases h3:decide (b<max (fJ L).floor 1) with _|_ <;> rw[h3]at he
     ·have h3:=mJ h3;omega
     ·exact ai (show(32:Int)=0 from he) qD
 have hdg:DG v T (Jd n.aB L) L []:=h.g.dg.GK;have iY:1<=b/\b<=3->(fJ L).floor<=b->RG v T ⟨1,b,0,[]⟩/\steps (fJ L) (iH b)=({ fJ L with floor:=b },0):=λhb hf=>by
  have hok:iG ⟨1,b,0,[]⟩=true:=by
   unfold iG;exact aX ⟨(by decide:(1:Int)<=1),(by decide:(1:Int)<=4),hb.1,hb.2,(by decide:(0:Int)<=0),(by decide:(0:Int)<=0),cZ _⟩
  refine⟨⟨hok,λh=>ai (show(1:Int)=2 from h) qD,λh=>ai (show(1:Int)=3 from h) qD⟩,?_⟩;have hf2:mO (fJ L) ⟨1,b,0,[]⟩=true:=by
   unfold mO;rw[if_pos rfl];exact aX hf
  show steps (fJ L) [⟨1,b,0,[]⟩]=_;rw[QS (Jy hok hf2)];rfl
 have aho:1<=b/\b<=3->(fJ L).floor<=b->ahH v T (eQ n b L) L (iH b) (aS (eQ n b L) (iH b)):=λhb hf=>by
  obtain⟨q1,q2⟩:=iY hb hf;exact Ru hdg rfl rfl (λr hr=>by obtain rfl:=List.mem_singleton.1 hr;exact q1) (by show(steps (fJ L) (iH b)).2=0;rw[q2])
 have hput:1<=b/\b<=3->(fJ L).floor<=b->mV (fJ L) (iH b):=λhb hf=>by
  obtain⟨q1,q2⟩:=iY hb hf;exact mV.of (v:=v) (T:=T) (λr hr=>by obtain rfl:=List.mem_singleton.1 hr;exact q1) (by rw[q2]) hsg.len (by show(1:Nat)<=100;decide)
 refine⟨⟨h.g.dg.laid,h.g.dg.ok,eE,eP,λhe=>?_⟩,λhst=>?_⟩
 ·obtain⟨k1,k2,k3,k4,k5⟩:=key he;refine⟨k1,k2,hdg.ok,hput ⟨k3,k4⟩ k5,λ_=>?_⟩;obtain⟨i,t',q,_⟩:=(aho ⟨k3,k4⟩ k5).ex;exact q.ok
 ·unfold vS at hst;have he:=fU hst;rw[eE]at he;obtain⟨k1,k2,k3,k4,k5⟩:=key he;rw[eP];have atm:=h.g.fl;have hmk:∀(m:aA) (L2:List aP) (t2:List UInt8),m.me=n.me->m.many=n.many->DG v T m.aB L2 t2->SG v T m.ae->m.st=AA->m.dn=0->m.dN=0->m.fV=[]->m.eF=[]->m.role=0->fl j<=(fJ L2).floor ->
    (m.aB.down=false->t2=[]/\m.ae=fJ L2/\m.bin=m.ae.floor/\1<=m.bin)->∃ lX,(∀ i,i≠j->lX i=fl i)/\fl j<=lX j/\qJ k v T lX j m []:=by
   intro m L2 t2 m1 m2 m3 m4 m5 m6 m7 m8 m9 m10 m11 m12;refine⟨λi=>if i=j then(fJ L2).floor else fl i,λi hi=>if_neg hi,by show fl j<=if j=j then _ else _;rw[if_pos rfl];exact m11,?_⟩;refine⟨⟨L2,t2,⟨m1.trans h.g.me,m2.trans h.g.many,m3,(if_pos rfl).symm,m4,by rw[m5];exact aej.jw.fit,by rw[m5];decide,?_,by rw[m8,m6];rfl,λhd=>?_⟩,λ_=>VG.zero m10 λi hi=>?_,by rw[m9];decide⟩,nofun,cZ _⟩
   ·rw[m6,m7];exact⟨dL _,dL _,by omega⟩
   ·obtain⟨d1,d2,d3,d4⟩:=m12 hd;exact⟨d1,d2,d3,d4,by rw[m5];exact aej,by rw[m5];exact hv.1⟩
   ·rw[m9];show(0:Int)<=if i=j then(fJ L2).floor else fl i
    have h1:=hf i hi;split
    ·rename_i e
     rw[e]at h1;omega
    ·exact h1
  have IL:Dz L:=h.g.dg.laid.ok;obtain⟨f1,f2⟩:=iY ⟨k3,k4⟩ k5;unfold Kq;rcases hlt:decide ((fJ L).floor<b) with _|_
  ·have hlt:=mJ hlt;exact hmk (eQ n b L) L [] rfl rfl hdg hsg rfl rfl rfl rfl rfl rfl qO (λ_=>⟨rfl,rfl,by show b=(fJ L).floor;omega,k3⟩)
  ·obtain⟨i,t',q1,q2,q3⟩:=(aho ⟨k3,k4⟩ k5).ex;have happ:∀ i,fJ (L++(iH b).take i)=(steps (fJ L) ((iH b).take i)).1:=λi=>Si IL
   have hge:∀ i,fl j<=(fJ (L++(iH b).take i)).floor:=λi=>by
    rw[happ,<-atm];obtain _|i:=i
    ·exact dL _
    ·rw[jU (show(iH b).length<=i+1 from Nat.succ_le_succ (cZ i)),f2];exact k5
   by_cases e:(aS (eQ n b L) (iH b)).2=0
   ·rw[aX e];obtain⟨r1,r2,r3,r4⟩:=q2 e;have r4:(aS (eQ n b L) (iH b)).1.ae={ fJ L with floor:=b }:=by rw[r4];show(steps (fJ L) (iH b)).1=_;rw[f2]
    refine hmk (aS (eQ n b L) (iH b)).1 _ t' rfl rfl q1 ?_ rfl rfl rfl rfl rfl rfl (hge i) (λ_=>⟨r2,?_,?_,k3⟩)
    ·rw[r4];exact⟨⟨by show 0<=b;omega,k4⟩,hsg.term,hsg.cu,hsg.len,hsg.log⟩
    ·rw[r4,happ,r1,mM,f2]
    ·rw[r4];exact rfl
   ·rw[aT e];obtain⟨r1,r2⟩:=q3 e;have r1:(aS (eQ n b L) (iH b)).1.ae=fJ L:=r1;obtain⟨c1,c2⟩:=q1.lF 0;exact hmk { (aS (eQ n b L) (iH b)).1 with aB:=(aS (eQ n b L) (iH b)).1.aB.lF 0 } _ t' rfl rfl c1 (by show SG v T (aS (eQ n b L) (iH b)).1.ae;rw[r1];exact hsg) rfl rfl rfl rfl rfl rfl (hge i) (λh=>ai (show true=false from h) qD)
def NG.P8(h:NG k v T fl j n L t){b:Int}(hb : -9223372036854775808<=b):qJ k v T fl j (Gs n b) []:=
 ⟨⟨L,t,⟨h.g.me,h.g.many,h.g.dg.P8 b hb,h.g.fl,h.g.log,h.g.fit,h.g.verb,h.g.ap,h.g.fV,λhu=>⟨(h.g.up hu).t,(h.g.up hu).ae,(h.g.up hu).bin,(h.g.up hu).GZ,(h.g.up hu).st,(h.g.up hu).ver⟩⟩,λhu=>⟨(h.vg hu).role,(h.vg hu).vec,(h.vg hu).eF,(h.vg hu).next,(h.vg hu).term⟩,h.bl⟩,nofun,cZ _⟩
def NG.lF(h:NG k v T fl j n L t)(b:Int):qJ k v T fl j (Eg n b) []:=
 ⟨⟨L,t,⟨h.g.me,h.g.many,(h.g.dg.lF b).1,h.g.fl,h.g.log,h.g.fit,h.g.verb,h.g.ap,h.g.fV,λhu=>ai (show true=false from hu) qD⟩,λhu=>ai (show true=false from hu) qD,h.bl⟩,nofun,cZ _⟩
end
end
section
structure yR (k:Nat) (x:Cal):Prop where
 node:0<=x.node/\x.node<k
 ch:x.c.chunks.length<=1000
structure CG (k:Nat) (v T:Int) (fl:Nat->Int) (c s:Int) (K:Nat) (C:aH):Prop where
 jm:3<=k/\k<=5
 T0:0<=T/\T<=1048576
 sup:Ae k v fl
 yY:∀ i,i<k->0<=fl i
 nd:∀ i,i<k->∃ L t,NG k v T fl i (C.nd i) L t
 row:∀ x∈C.au.row,LG k v T fl x
 fits:C.au.row.length+C.au.dA<=256
 c1:0<=C.au.uw/\C.au.uw<=c
 c2:0<=C.au.taken/\C.au.taken<=c
 c3:0<=C.au.lost/\C.au.lost<=c
 calls:C.calls.length<=K
 yj:∀ x∈C.calls,yR k x
 steps:0<=C.steps/\C.steps<=s
section
variable {k:Nat} {v T c s:Int} {fl:Nat->Int} {K:Nat} {C:aH}
def CG.env(h:CG k v T fl c s K C){A:Nat}(hA:A<k):Env k v T fl A:=⟨h.jm,h.T0,h.sup,hA⟩
def CG.au(h:CG k v T fl c s K C)(hc:c<=1000000000):zQ C.au:=⟨h.fits,by have:=h.c1;omega,by have:=h.c2;omega,by have:=h.c3;omega,λx hx=>(h.row x hx).ok⟩
def CG.mono(h:CG k v T fl c s K C){U c' s':Int}{K':Nat}(hT:T<=U/\U<=1048576)(hc:c<=c')(hs:s<=s')(hK:K<=K'):CG k v U fl c' s' K' C:=
 ⟨h.jm,by have:=h.T0;omega,h.sup,h.yY,λi hi=>by obtain⟨L,t,g⟩:=h.nd i hi;exact⟨L,t,g.up (dL _) h.sup.2.1 hT.1 (λ_=>dL _) rfl⟩,λx hx=>(h.row x hx).up (dL _) h.sup.2.1 hT.1 (λ_=>dL _),h.fits,by have:=h.c1;omega,by have:=h.c2;omega,by have:=h.c3;omega,by have:=h.calls;omega,h.yj,by have:=h.steps;omega⟩
def room_le{p:Nt}{l:List aV}:room p l<=l.length/\room p l<=256-p.row.length:=by unfold room;omega
def CG.tell(h:CG k v T fl c s K C){A:Nat}(hA:A<k){w U:Int}{n:aA}{l:List aV}(hw:v<=w)(hs:Ae k w fl)(hT:T<=U/\U<=1048576)(r:qJ k w U fl A n l):CG k w U fl (c+8) s K (C.tell A n l):=by
 have hrm:=room_le (p:=C.au) (l:=l);have hl:=r.len;have hf:=h.fits;have h1:=h.c1;have h2:=h.c2;have h3:=h.c3;refine⟨h.jm,by have:=h.T0;omega,hs,h.yY,λi hi=>?_,λx hx=>?_,?_,?_,?_,?_,h.calls,h.yj,h.steps⟩
 ·show ∃ L t,NG k w U fl i (bif Nat.beq i A then n else C.nd i) L t;rcases e:Nat.beq i A with _|_
  ·obtain⟨L,t,g⟩:=h.nd i hi;exact⟨L,t,g.up hw hs.2.1 hT.1 (λ_=>dL _) rfl⟩
  ·rw[Nat.eq_of_beq_eq_true e];exact r.ex
 ·obtain hx|hx:=List.mem_append.1 (show x∈C.au.row++l.take (room C.au l) from hx)
  ·exact(h.row x hx).up hw hs.2.1 hT.1 (λ_=>dL _)
  ·exact r.ls x (List.mem_of_mem_take hx)
 ·show(C.au.row++l.take (room C.au l)).length+(C.au.dA-room C.au l)<=256;rw[bP,dG];omega
 ·show 0<=C.au.uw+(l.length:Int)/\C.au.uw+(l.length:Int)<=c+8;omega
 ·show 0<=C.au.taken/\C.au.taken<=c+8;omega
 ·show 0<=C.au.lost+((l.length-room C.au l:Nat):Int)/\C.au.lost+((l.length-room C.au l:Nat):Int)<=c+8;omega
def ads(C:aH)(A:Nat)(n:aA):C.tell A n []=C.put A n:=by
 show(⟨_,mP C.au [],_,_⟩:aH)=⟨_,C.au,_,_⟩;have:mP C.au []=C.au:=by
  unfold mP room;simp
 rw[this];rfl
def CG.put(h:CG k v T fl c s K C){A:Nat}(hA:A<k){w U:Int}{n:aA}(hw:v<=w)(hs:Ae k w fl)(hT:T<=U/\U<=1048576)(r:qJ k w U fl A n []):CG k w U fl (c+8) s K (C.put A n):=by
 have:=h.tell hA hw hs hT r;rwa [ads]at this
def CG.GK(h:CG k v T fl c s K C){A:Nat}(hA:A<k){lX:Nat->Int}{n:aA}(h1:∀ i,i≠A->lX i=fl i)(h2:fl A<=lX A)(r:qJ k v T lX A n []):CG k v T lX c s K (C.put A n):=by
 have hf:∀ i,fl i<=lX i:=λi=>by
  by_cases e:i=A
  ·rw[e];exact h2
  ·rw[h1 i e];exact dL _
 have hs:=h.sup;refine⟨h.jm,h.T0,⟨hs.1,hs.2.1,hs.2.2.imp id λh i hi=>Int.le_trans (h i hi) (hf i)⟩,λi hi=>Int.le_trans (h.yY i hi) (hf i),λi hi=>?_,λx hx=>(h.row x hx).up (dL _) hs.2.1 (dL _) hf,h.fits,h.c1,h.c2,h.c3,h.calls,h.yj,h.steps⟩;show ∃ L t,NG k v T lX i (bif Nat.beq i A then n else C.nd i) L t;rcases e:Nat.beq i A with _|_
 ·obtain⟨L,t,g⟩:=h.nd i hi;have hne:i≠A:=λe2=>by subst e2;simp at e
  exact⟨L,t,g.up (dL _) hs.2.1 (dL _) hf (h1 i hne)⟩
 ·rw[Nat.eq_of_beq_eq_true e];exact r.ex
def Gm{p:Nt}{i:Int}(h:qx p i=true):0<=i/\i<p.row.length:=by
 unfold qx at h;rcases e:decide (0<=i) with _|_ <;> rw[e]at h
 ·cases h
 ·exact⟨fU e,fU h⟩
def JF{k:Nat}{i:Int}(h:l9 k i=true):0<=i/\i<k:=by
 unfold l9 at h;rcases e:decide (0<=i) with _|_ <;> rw[e]at h
 ·cases h
 ·exact⟨fU e,fU h⟩
def CG.gone(h:CG k v T fl c s K C){i:Nat}(hi:i<C.au.row.length){a b:Int}(ha:0<=a/\a<=c+1)(hb:0<=b/\b<=c+1):CG k v T fl (c+1) s K { C with au:={ zU C.au i with taken:=a,lost:=b } }:=by
 have hf:=h.fits;have h1:=h.c1;refine⟨h.jm,h.T0,h.sup,h.yY,h.nd,λx hx=>h.row x (List.mem_of_mem_eraseIdx hx),?_,by show 0<=C.au.uw/\C.au.uw<=c+1;omega,ha,hb,h.calls,h.yj,h.steps⟩;show(C.au.row.eraseIdx i).length+(C.au.dA+1)<=256;rw[List.length_eraseIdx,if_pos hi];omega
def CG.taken(h:CG k v T fl c s K C){i:Nat}(hi:i<C.au.row.length):CG k v T fl (c+1) s K { C with au:=jH C.au i }:=h.gone hi (a:=C.au.taken+1) (b:=C.au.lost) (by have:=h.c2;omega) (by have:=h.c3;omega)
def CG.lost(h:CG k v T fl c s K C){i:Nat}(hi:i<C.au.row.length):CG k v T fl (c+1) s K { C with au:=UW C.au i }:=h.gone hi (a:=C.au.taken) (b:=C.au.lost+1) (by have:=h.c2;omega) (by have:=h.c3;omega)
def CG.auf(h:CG k v T fl c s K C){i:Nat}(hi:i<C.au.row.length)(hf:C.au.row.length<256):CG k v T fl (c+1) s K { C with au:=BZ C.au i }:=by
 have iY:=h.fits;have h1:=h.c1;have h2:=h.c2;have h3:=h.c3;refine⟨h.jm,h.T0,h.sup,h.yY,h.nd,λx hx=>?_,?_,?_,?_,?_,h.calls,h.yj,h.steps⟩
 ·obtain hx|hx:=List.mem_append.1 (show x∈C.au.row++[C.au.row.getD i .z] from hx)
  ·exact h.row x hx
  ·obtain rfl:=List.mem_singleton.1 hx;exact h.row _ (axB hi)
 ·show(C.au.row++[C.au.row.getD i .z]).length+(C.au.dA-1)<=256;rw[bP];show C.au.row.length+1+(C.au.dA-1)<=256;omega
 ·show 0<=C.au.uw+1/\C.au.uw+1<=c+1;omega
 ·show 0<=C.au.taken/\C.au.taken<=c+1;omega
 ·show 0<=C.au.lost/\C.au.lost<=c+1;omega
structure wG (e:cO):Prop where
 b : -9223372036854775808<=e.b
 sz:nV e.c
 ch:e.c.chunks.length<=1000
def CG.take(h:CG k v T fl c s K C)(i:Int):CG k v T fl (c+10) s K (axD k C i).1:=by
 unfold axD;rcases hi:qx C.au i with _|_
 ·exact h.mono ⟨dL _,h.T0.2⟩ qO (dL _) (bF _)
 ·have hi:=Gm hi;have hin:i.toNat<C.au.row.length:=qO;have ht:=h.taken hin;rcases hd:l9 k (C.au.row.getD i.toNat .z).dst with _|_
  ·exact ht.mono ⟨dL _,h.T0.2⟩ qO (dL _) (bF _)
  ·have hd:=JF hd;have hA:(C.au.row.getD i.toNat .z).dst.toNat<k:=qO;obtain⟨L,t,g⟩:=h.nd _ hA;have hx:=h.row _ (axB (z:=.z) hin);have hr:=g.recv (h.env hA) hx;exact(ht.tell hA (dL _) h.sup ⟨dL _,h.T0.2⟩ hr.2).mono ⟨dL _,h.T0.2⟩ qO (dL _) (bF _)
def Inv(k:Nat)(T c s:Int)(K:Nat)(C:aH):Prop:=∃ v fl,CG k v T fl c s K C
def CG.inv(h:CG k v T fl c s K C):Inv k T c s K C:=⟨v,fl,h⟩
def CG.act(h:CG k v T fl c s K C){e:cO}(he:wG e)(hT:T<1048576):Inv k (T+1) (c+10) s (K+1) (nJ k C e).1:=by
 have hu:T<=T+1/\T+1<=1048576:=qO;have same:Inv k (T+1) (c+10) s (K+1) C:=(h.mono hu qO (dL _) (Nat.le_succ _)).inv;have up:∀ {w:Int} {lX:Nat->Int} {c':Int} {K':Nat} {D:aH},CG k w T lX c' s K' D->c'<=c+10->K'<=K+1->Inv k (T+1) (c+10) s (K+1) D:=λg h1 h2=>(g.mono hu h1 (dL _) h2).inv
 unfold nJ;rcases e3:decide (e.kind=3) with _|_
 rotate_left
 ·exact up (h.take e.a) (dL _) (Nat.le_succ _)
 rcases e4:decide (e.kind=4) with _|_
 rotate_left
 ·show Inv k (T+1) (c+10) s (K+1) (AY C e.a).1;unfold AY;rcases hi:qx C.au e.a with _|_
  ·exact same
  ·have hi:=Gm hi;exact up (h.lost (show e.a.toNat<_ by omega)) qO (Nat.le_succ _)
 rcases e5:decide (e.kind=5) with _|_
 rotate_left
 ·show Inv k (T+1) (c+10) s (K+1) (Ap C e.a).1;unfold Ap;rcases hi:qx C.au e.a with _|_
  ·exact same
  ·have hi:=Gm hi;rcases hf:decide (256<=(C.au.row.length:Int)) with _|_
   ·have hf:=mJ hf;exact up (h.auf (show e.a.toNat<_ by omega) qO) qO (Nat.le_succ _)
   ·exact same
 rcases hth:l9 k e.a with _|_
 ·exact same
 have hA0:=JF hth;have hA:e.a.toNat<k:=qO;obtain⟨L,t,g⟩:=h.nd _ hA;have E:=h.env hA;show Inv k (T+1) (c+10) s (K+1) (wS k C e.a.toNat e).1;unfold wS;rcases k1:decide (e.kind=1) with _|_
 rotate_left
 ·exact((h.tell hA (dL _) h.sup hu (g.LQ E hT h.yY).2).mono ⟨dL _,hu.2⟩ qO (dL _) (Nat.le_succ _)).inv
 rcases k2:decide (e.kind=2) with _|_
 rotate_left
 ·have hb:=g.G7 E;have hr:qJ k v T fl e.a.toNat (C.nd e.a.toNat) (lu (C.nd e.a.toNat) k).1:=⟨⟨L,t,g⟩,hb.2.1,hb.2.2⟩;have:=h.tell hA (dL _) h.sup ⟨dL _,h.T0.2⟩ hr;refine up (w:=v) (lX:=fl) (c':=c+8) (K':=K) (D:={ C with au:=mP C.au (lu (C.at e.a.toNat) k).1 }) ?_ qO (Nat.le_succ _);refine⟨this.jm,this.T0,this.sup,this.yY,h.nd,this.row,this.fits,this.c1,this.c2,this.c3,this.calls,this.yj,this.steps⟩
 rcases k6:decide (e.kind=6) with _|_
 rotate_left
 ·obtain⟨hcl,w,w1,w2,r⟩:=g.call E he.sz;have hp:=h.put hA w1 w2 ⟨dL _,h.T0.2⟩ r;show Inv k (T+1) (c+10) s (K+1) (uq C e.a.toNat e).1;unfold uq;rcases hz:decide ((nR (C.at e.a.toNat) e.c).2.2.2=0) with _|_
  ·exact up hp qO (Nat.le_succ _)
  ·refine up (w:=w) (lX:=fl) (c':=c+8) (K':=K+1) (D:={ C.put e.a.toNat (nR (C.at e.a.toNat) e.c).1 with calls:=C.calls++[U8 C e (nR (C.at e.a.toNat) e.c).2.1 (nR (C.at e.a.toNat) e.c).2.2.1] }) ?_ qO (bF _);refine⟨hp.jm,hp.T0,hp.sup,hp.yY,hp.nd,hp.row,hp.fits,hp.c1,hp.c2,hp.c3,?_,λx hx=>?_,hp.steps⟩
   ·show(C.calls++[_]).length<=K+1;rw[bP];exact Nat.succ_le_succ h.calls
   ·obtain hx|hx:=List.mem_append.1 hx
    ·exact h.yj x hx
    ·obtain rfl:=List.mem_singleton.1 hx;exact⟨hA0,he.ch⟩
 rcases k9:decide (e.kind=9) with _|_
 rotate_left
 ·show Inv k (T+1) (c+10) s (K+1) (ui C e.a.toNat e.b).1;unfold ui;rcases hst:vS (C.at e.a.toNat) e.b with _|_
  ·exact same
  ·obtain⟨lX,f1,f2,r⟩:=(g.start E h.yY e.b).2 hst;exact up (h.GK hA f1 f2 r) qO (Nat.le_succ _)
 rcases k7:decide (e.kind=7) with _|_
 rotate_left
 ·exact up (h.put hA (dL _) h.sup ⟨dL _,h.T0.2⟩ (g.P8 he.b)) qO (Nat.le_succ _)
 rcases k8:decide (e.kind=8) with _|_
 rotate_left
 ·exact up (h.put hA (dL _) h.sup ⟨dL _,h.T0.2⟩ (g.lF e.b)) qO (Nat.le_succ _)
 exact same
def adA{x:Cal}(hx:yR k x):yR k (xI C x):=by
 unfold xI;cases x.done
 ·cases decide ((uP (C.at x.node.toNat) x.number x.term).2=0)
  ·exact hx
  ·exact⟨hx.node,hx.ch⟩
 ·exact hx
def CG.settle(h:CG k v T fl c s K C):CG k v T fl c (s+1) K { Tu C with steps:=C.steps+1 }:=
 ⟨h.jm,h.T0,h.sup,h.yY,h.nd,h.row,h.fits,h.c1,h.c2,h.c3,by show(C.calls.map _).length<=K;rw[lZ];exact h.calls,λx hx=>by
  obtain⟨y,hy,rfl⟩:=List.mem_map.1 (show x∈C.calls.map (xI C) from hx);exact adA (h.yj y hy),by have:=h.steps;show 0<=C.steps+1/\C.steps+1<=s+1;omega⟩
def Inv.step(h:Inv k T c s K C){e:cO}(he:wG e)(hT:T<1048576):Inv k (T+1) (c+10) (s+1) (K+1) (jI k C e).1:=by
 obtain⟨v,fl,h⟩:=h;obtain⟨w,lX,g⟩:=h.act he hT;exact⟨w,lX,g.settle⟩
def CG.alT(h:CG k v T fl c s K C){e:cO}(he:e.kind=3):CG k v T fl (c+10) (s+1) K (jI k C e).1:=by
 have e1:nJ k C e=axD k C e.a:=by
  unfold nJ;rw[aX he];rfl
 unfold jI;rw[e1];exact(h.take e.a).settle
end
def ZM:Dt.lF 0=⟨[],0,true,false,0,[]⟩:=by simp[fC.lF,Dt]
def dg0:DG 1 0 (Dt.lF 0) [] []:=by
 rw[ZM];exact⟨rfl,by decide,UY,⟨by simp[di],Dz.nil,Z7,by decide⟩,nofun⟩
def amT{k:Nat}(hk:3<=k/\k<=5):CG k 1 0 (λ_=>0) 0 0 0 (qp k):=by
 have z0:(0:Int)<=0/\(0:Int)<=0:=by decide
 have z3:(0:Int)<=0/\(0:Int)<=3:=by decide
 have z5:(0:Int)<=0/\(0:Int)<=5:=by decide
 refine⟨hk,by decide,⟨by decide,by decide,.inl rfl⟩,λ_ _=>dL _,λi hi=>⟨[],[],?_⟩,λx hx=>ai (show x∈([]:List aV) from hx) List.not_mem_nil,show 0+0<=256 by decide,z0,z0,z0,bF 0,λx hx=>ai (show x∈([]:List Cal) from hx) List.not_mem_nil,z0⟩;have Hr:((qp k).nd i).aB.down=true:=by
  show(Dt.lF 0).down=true;rw[ZM]
 refine⟨⟨rfl,rfl,dg0,rfl,⟨z3,z0,z5,cZ _,λx hx=>ai (show x∈([]:List bH) from hx) List.not_mem_nil⟩,?_,z3,⟨dL 0,dL 0,dL 0⟩,rfl,λhu=>ai (Hr.symm.trans hu) qD⟩,λhu=>ai (Hr.symm.trans hu) qD,cZ _⟩;exact⟨cZ _,cZ _,⟨cZ _,λi hi=>ai hi (qh _)⟩⟩
end
