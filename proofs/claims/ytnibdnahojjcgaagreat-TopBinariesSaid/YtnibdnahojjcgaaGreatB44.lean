/- A part of the proof. -/
import Derived.Test.YtnibdnahojjcgaaGreatB43
namespace Go.Proofs.YtnibdnahojjcgaaGreat
set_option maxRecDepth 100000
set_option maxHeartbeats 16000000
set_option linter.unusedVariables false
set_option linter.unusedSimpArgs false
open Go.RowKit
section
theorem abK:∀(b:Int) (h add:List dm),∃ m,m<=add.length/\m<=h.length/\(∀ i,i<m->(h.getD i .z).term=(add.getD i .z).term) /\
  ((jP b h add=(0,[])/\m=add.length)\/(jP b h add=(0,add.drop m)/\m=h.length/\m<add.length)\/(jP b h add=(b+m+1,add.drop m)/\m<h.length/\m<add.length))
 |b,[],[]=>⟨0,bu _,bu _,λi hi=>au hi (qZ _),.inl ⟨rfl,rfl⟩⟩
 |b,_::_,[]=>⟨0,bu _,cu _,λi hi=>au hi (qZ _),.inl ⟨rfl,rfl⟩⟩
 |b,[],x::r=>⟨0,cu _,bu _,λi hi=>au hi (qZ _),.inr (.inl ⟨rfl,rfl,Nat.succ_pos _⟩)⟩
 |b,h::t,x::r=>by
  rcases e:decide (h.term=x.term) with _|_
  ·refine⟨0,cu _,cu _,λi hi=>au hi (qZ _),.inr (.inr ⟨?_,Nat.succ_pos _,Nat.succ_pos _⟩)⟩;show(bif decide (h.term=x.term) then jP (b+1) t r else (b+1,x::r))=_;rw[e];simp
  ·obtain⟨m,h1,h2,h3,h4⟩:=abK (b+1) t r;have e2:jP b (h::t) (x::r)=jP (b+1) t r:=by
    show(bif decide (h.term=x.term) then jP (b+1) t r else (b+1,x::r))=_;rw[e];rfl
   refine⟨m+1,Nat.succ_le_succ h1,Nat.succ_le_succ h2,λi hi=>?_,?_⟩
   ·cases i with
    |zero=>exact jb e
    |succ i=>exact h3 i qO
   ·rw[e2];rcases h4 with ⟨h4,h5⟩|⟨h4,h5,h6⟩|⟨h4,h5,h6⟩
    ·exact .inl ⟨h4,gz (· + 1) h5⟩
    ·exact .inr (.inl ⟨h4,gz (· + 1) h5,Nat.succ_lt_succ h6⟩)
    ·refine .inr (.inr ⟨h4.trans ?_,Nat.succ_lt_succ h5,Nat.succ_lt_succ h6⟩);have:b+1+(m:Int)+1=b+((m+1:Nat):Int)+1:=qO;rw[this];rfl
theorem Ul{q q':bP}{r:aT}{M:List aT}(h:kQ q r=(q',0)):steps q (r::M)=steps q' M:=by
 rw[steps,h,if_pos rfl]
theorem agM(n:Int)(e:dm)(l:List dm):ou n (e::l)=⟨3,n+1,e.term,e.b⟩::ou (n+1) l:=by
 unfold ou;rw[ny,List.range_succ_eq_map,List.map_cons,List.map_map];congr 1
 ·show(⟨3,n+((0:Nat):Int)+1,e.term,e.b⟩:aT)=_;rw[show n+((0:Nat):Int)+1=n+1 by omega]
 ·refine List.map_congr_left λi hi=>?_
  show(⟨3,n+((i+1:Nat):Int)+1,(l.getD i .z).term,(l.getD i .z).b⟩:aT)=⟨3,n+1+(i:Int)+1,(l.getD i .z).term,(l.getD i .z).b⟩;rw[show n+((i+1:Nat):Int)+1=n+1+(i:Int)+1 by omega]
theorem Qw{a:Int}{e:dm}(ha:1<=a/\a<=64)(h:pz e):iR ⟨3,a,e.term,e.b⟩=true:=by
 unfold iR;have:=h.term;exact bg ⟨(by decide:(1:Int)<=3),(by decide:(3:Int)<=4),ha.1,ha.2,show 0<=e.term by omega,this.2,h.b⟩
theorem ac2{a:Int}(ha:1<=a/\a<=64):iR ⟨4,a,0,[]⟩=true:=by
 unfold iR;exact bg ⟨(by decide:(1:Int)<=4),(by decide:(4:Int)<=4),ha.1,ha.2,(by decide:(0:Int)<=0),(by decide:(0:Int)<=0),cu _⟩
theorem aca{s:bP}{a:Int}{e:dm}(ha:a=(s.log.length:Int)+1)(h:pz e)(jQ:s.log.length<64):kQ s ⟨3,a,e.term,e.b⟩=({ s with log:=s.log++[e] },0):=by
 rw[KR (Qw qO h)]
 ·rfl
 ·unfold mF;rw[if_neg (by show ¬(3:Int)=1;decide),if_neg (by show ¬(3:Int)=2;decide),if_pos rfl];simp[ha]
theorem Ut:∀(l:List dm) (s:bP) (n:Int),n=(s.log.length:Int)->(∀ e∈l,pz e)->s.log.length+l.length<=64->steps s (ou n l)=({ s with log:=s.log++l },0)
 |[],s,n,_,_,_=>by simp[ou,steps]
 |e::l,s,n,hn,he,hl=>by
  rw[ny]at hl;rw[agM];have h1:=aca (s:=s) (a:=n+1) qO (he e jC) qO;unfold steps;rw[h1];simp only[if_true];rw[Ut l _ (n+1) (by simp;omega) (λx hx=>he x (je _ hx)) (by simp;omega)];simp
theorem aaE{n:Int}{l:List dm}{r:aT}(h:r∈ou n l):∃ i,i<l.length/\r=⟨3,n+(i:Int)+1,(l.getD i .z).term,(l.getD i .z).b⟩:=by
 unfold ou at h;obtain⟨i,h1,rfl⟩:=List.mem_map.1 h;exact⟨i,List.mem_range.1 h1,rfl⟩
theorem U3{n:Int}{l:List dm}:(ou n l).length=l.length:=by
 unfold ou;rw[lJ,List.length_range]
structure TK (v T:Int) (s:bP) (x:aP) (p:List aT×Bool×Int):Prop where
 rg:∀ r∈p.1,RG v T r
 ok:(steps s p.1).2=0
 k:∀ r∈p.1,r.kind≠1
 len:p.1.length<=10
 term:(steps s p.1).1.term=max s.term x.term
 log:p.2.1=false->(steps s p.1).1.log=s.log
 upto:p.2.1=true->p.2.2=x.a+x.l.length/\s.term<=x.term/\x.a+x.l.length<=(steps s p.1).1.log.length
 cut:∀ c:Int,c<=s.log.length->(∀ r∈p.1,r.kind=4->¬r.a<=c)->c<=(steps s p.1).1.log.length
 ass:p.2.1=true->x.a<=s.log.length/\qo s.log x.a=x.b/\∃ m,m<=x.l.length/\x.a.toNat+m<=s.log.length/\(∀ i,i<m->(s.log.getD (x.a.toNat+i) .z).term=(x.l.getD i .z).term)/\((m=x.l.length/\(steps s p.1).1.log=s.log)\/(steps s p.1).1.log=s.log.take (x.a.toNat+m)++x.l.drop m)
theorem ali{v T:Int}{s:bP}{x:aP}{k:Nat}{fl:Nat->Int}(hs:SG v T s)(hx:LG k v T fl x)(hk:x.kind=3)(hT:0<=T/\T<=1048576):TK v T s x (bi s x):=by
 have ht:=hx.ok.term;have hxt:=hx.term;have hxa:=hx.ok.a;have hxb:=hx.ok.b;have hxl:=hx.ok.len;have ast:=hx.len hk;have hN:VR v T s (iI s x.term) (max s.term x.term):=Vz qO hT.2;unfold bi;rcases e1:decide (x.term<s.term) with _|_
 ·have e1:=oZ e1;rcases e2:decide (qo s.log x.a=x.b) with _|_
  ·exact⟨hN.rg,hN.ok,hN.k,by have:=hN.len;show(iI s x.term).length<=10;omega,hN.term,λ_=>hN.log,λh=>au (show false=true from h) qD,λc hc _=>by show c<=((steps s (iI s x.term)).1.log.length:Int);rw[hN.log];exact hc,λh=>au (show false=true from h) qD⟩
  ·have e2:=jb e2;have hal:x.a<=(s.log.length:Int):=by
    unfold qo at e2;rcases e3:decide (x.a=0) with _|_
    ·rw[e3,aX (show ¬x.a<0 by omega)]at e2;rcases e4:decide ((s.log.length:Int)<x.a) with _|_
     ·have:=oZ e4;omega
     ·rw[e4]at e2;have e2:(-1:Int)=x.b:=e2;omega
    ·have:=jb e3;omega
   generalize hR:((iI s x.term++uJ (qi s.log x.a.toNat x.l).1)++ou (x.a+x.l.length-(qi s.log x.a.toNat x.l).2.length) (qi s.log x.a.toNat x.l).2)=R
   suffices H:(∀ r∈R,RG v T r)/\(steps s R).2=0/\(∀ r∈R,r.kind≠1)/\R.length<=10/\(steps s R).1.term=max s.term x.term/\(x.a+x.l.length<=((steps s R).1.log.length:Int))/\(∀ c:Int,c<=s.log.length->(∀ r∈R,r.kind=4->¬r.a<=c)->c<=(steps s R).1.log.length)/\∃ m,m<=x.l.length/\x.a.toNat+m<=s.log.length/\(∀ i,i<m->(s.log.getD (x.a.toNat+i) .z).term=(x.l.getD i .z).term)/\((m=x.l.length/\(steps s R).1.log=s.log)\/(steps s R).1.log=s.log.take (x.a.toNat+m)++x.l.drop m) by
    obtain⟨h1,h2,h3,h4,h5,h6,h7,h8⟩:=H;subst hR;exact⟨h1,h2,h3,h4,h5,λh=>au (show true=false from h) qD,λ_=>⟨rfl,by omega,h6⟩,h7,λ_=>⟨hal,e2,h8⟩⟩
   have hso:∀ e∈x.l,pz e:=λe he=>(hx.es e he).pz hT.2
   obtain⟨m,m1,m2,m3,m4⟩:=abK (x.a.toNat:Int) (s.log.drop x.a.toNat) x.l;rw[fE]at m2;have Y9:∀ i,i<m->(s.log.getD (x.a.toNat+i) .z).term=(x.l.getD i .z).term:=λi hi=>by
    rw[<-m3 i hi,bC,bC,sD]
   have hlen:=hs.len;rcases m4 with ⟨m4,m5⟩|⟨m4,m5,m6⟩|⟨m4,m5,m6⟩
   ·
    have e:R=iI s x.term:=by
     rw[<-hR];show(iI s x.term++uJ (jP _ _ _).1)++ou _ (jP _ _ _).2=_;rw[show jP (x.a.toNat:Int) (s.log.drop x.a.toNat) x.l=_ from m4];simp[uJ,ou]
    rw[e];refine⟨hN.rg,hN.ok,hN.k,by have:=hN.len;omega,hN.term,by rw[hN.log];omega,λc hc _=>by rw[hN.log];exact hc,m,m1,by omega,Y9,.inl ⟨m5,hN.log⟩⟩
   ·
    rw[fE]at m5;have e:R=iI s x.term++ou (x.a+x.l.length-(x.l.drop m).length) (x.l.drop m):=by
     rw[<-hR];show(iI s x.term++uJ (jP _ _ _).1)++ou (_-((jP _ _ _).2.length:Nat)) (jP _ _ _).2=_;rw[show jP (x.a.toNat:Int) (s.log.drop x.a.toNat) x.l=_ from m4];simp[uJ]
    have hln:x.a+x.l.length-((x.l.drop m).length:Nat)=((steps s (iI s x.term)).1.log.length:Int):=by
     rw[hN.log,fE];omega
    have hst:steps s R=({ (steps s (iI s x.term)).1 with log:=s.log++x.l.drop m },0):=by
     rw[e,Pz _ _ _ hN.ok,Ut _ _ _ hln (λe he=>hso e (List.mem_of_mem_drop he)) (by rw[hN.log,fE];omega),hN.log]
    have hmem:∀ r∈R,r∈iI s x.term\/∃ i,i<(x.l.drop m).length/\r=⟨3,x.a+x.l.length-((x.l.drop m).length:Nat)+(i:Int)+1,((x.l.drop m).getD i .z).term,((x.l.drop m).getD i .z).b⟩:=λr hr=>by
     rw[e]at hr;exact(List.mem_append.1 hr).imp id aaE
    refine⟨λr hr=>?_,by rw[hst],λr hr=>?_,?_,by rw[hst];exact hN.term,?_,λc hc _=>?_,m,m1,by omega,Y9,.inr ?_⟩
    ·rcases hmem r hr with hr|⟨i,hi,rfl⟩
     ·exact hN.rg r hr
     ·have hg:=hx.es _ (List.mem_of_mem_drop (kM (z:=.z) hi));rw[fE]at hi;exact⟨Qw (by rw[fE];omega) (hg.pz hT.2),λh=>au (show(3:Int)=2 from h) qD,λ_=>hg⟩
    ·rcases hmem r hr with hr|⟨i,hi,rfl⟩
     ·exact hN.k r hr
     ·show ¬(3:Int)=1;decide
    ·rw[e,bW,U3,fE];have:=hN.len;omega
    ·rw[hst];show _<=((s.log++x.l.drop m).length:Int);rw[bW,fE];omega
    ·rw[hst];show _<=((s.log++x.l.drop m).length:Int);rw[bW];omega
    ·rw[hst,lW qO]
   ·
    rw[fE]at m5;have hc1:1<=(x.a.toNat:Int)+m+1/\(x.a.toNat:Int)+m+1<=64:=qO;have e:R=iI s x.term++(⟨4,(x.a.toNat:Int)+m+1,0,[]⟩::ou (x.a+x.l.length-(x.l.drop m).length) (x.l.drop m)):=by
     rw[<-hR];show(iI s x.term++uJ (jP _ _ _).1)++ou (_-((jP _ _ _).2.length:Nat)) (jP _ _ _).2=_;rw[show jP (x.a.toNat:Int) (s.log.drop x.a.toNat) x.l=_ from m4];show(iI s x.term++(bif !decide ((x.a.toNat:Int)+m+1=0) then [(⟨4,(x.a.toNat:Int)+m+1,0,[]⟩:aT)] else []))++_=_;rw[aX (show ¬(x.a.toNat:Int)+m+1=0 by omega)];simp
    have hcs:∀ q:bP,q.log=s.log->kQ q ⟨4,(x.a.toNat:Int)+m+1,0,[]⟩=({ q with log:=s.log.take (x.a.toNat+m) },0):=λq hq=>by
     rw[KR (ac2 hc1)]
     ·unfold qh;rw[if_neg (by show ¬(4:Int)=1;decide),if_neg (by show ¬(4:Int)=2;decide),if_neg (by show ¬(4:Int)=3;decide),hq];rw[show((x.a.toNat:Int)+m+1-1).toNat=x.a.toNat+m by omega]
     ·unfold mF;rw[if_neg (by show ¬(4:Int)=1;decide),if_neg (by show ¬(4:Int)=2;decide),if_neg (by show ¬(4:Int)=3;decide),hq];exact bg (by show(x.a.toNat:Int)+m+1<=_;omega)
    have htl:(s.log.take (x.a.toNat+m)).length=x.a.toNat+m:=by rw[dP];omega
    have hst:steps s R=({ (steps s (iI s x.term)).1 with log:=s.log.take (x.a.toNat+m)++x.l.drop m },0):=by
     rw[e,Pz _ _ _ hN.ok,Ul (hcs _ hN.log)];rw[Ut _ _ _ (by rw[htl,fE];omega) (λe he=>hso e (List.mem_of_mem_drop he)) (by rw[htl,fE];omega)]
    have hmem:∀ r∈R,r∈iI s x.term\/r=⟨4,(x.a.toNat:Int)+m+1,0,[]⟩\/∃ i,i<(x.l.drop m).length/\r=⟨3,x.a+x.l.length-((x.l.drop m).length:Nat)+(i:Int)+1,((x.l.drop m).getD i .z).term,((x.l.drop m).getD i .z).b⟩:=λr hr=>by
     rw[e]at hr;rcases List.mem_append.1 hr with hr|hr
     ·exact .inl hr
     ·rcases List.mem_cons.1 hr with hr|hr
      ·exact .inr (.inl hr)
      ·exact .inr (.inr (aaE hr))
    refine⟨λr hr=>?_,by rw[hst],λr hr=>?_,?_,by rw[hst];exact hN.term,?_,λc hc hcut=>?_,m,m1,by omega,Y9,.inr (by rw[hst])⟩
    ·rcases hmem r hr with hr|rfl|⟨i,hi,rfl⟩
     ·exact hN.rg r hr
     ·exact⟨ac2 hc1,λh=>au (show(4:Int)=2 from h) qD,λh=>au (show(4:Int)=3 from h) qD⟩
     ·have hg:=hx.es _ (List.mem_of_mem_drop (kM (z:=.z) hi));rw[fE]at hi;exact⟨Qw (by rw[fE];omega) (hg.pz hT.2),λh=>au (show(3:Int)=2 from h) qD,λ_=>hg⟩
    ·rcases hmem r hr with hr|rfl|⟨i,hi,rfl⟩
     ·exact hN.k r hr
     ·show ¬(4:Int)=1;decide
     ·show ¬(3:Int)=1;decide
    ·rw[e,bW,ny,U3,fE];have:=hN.len;omega
    ·rw[hst];show _<=((s.log.take (x.a.toNat+m)++x.l.drop m).length:Int);rw[bW,fE,htl];omega
    ·rw[hst];show _<=((s.log.take (x.a.toNat+m)++x.l.drop m).length:Int);have hb:=hcut ⟨4,(x.a.toNat:Int)+m+1,0,[]⟩ (by rw[e];exact List.mem_append_right _ jC) rfl;have hb:¬(x.a.toNat:Int)+m+1<=c:=hb;rw[bW,fE,htl];omega
 ·have e1:=jb e1;refine⟨nofun,rfl,nofun,cu _,?_,λ_=>rfl,λh=>au (show false=true from h) qD,λc hc _=>hc,λh=>au (show false=true from h) qD⟩;show s.term=max s.term x.term;omega
section
variable {k:Nat} {v T:Int} {fl:Nat->Int} {j:Nat} {n:az} {L:List aT} {t:List UInt8}
theorem RJ{n:az}{x:aP}(h:pR n x=true):jJ x/\x.dst=n.me/\x.src<n.many/\(x.kind=3->∀ r∈(bi n.ah x).1,r.kind=4->¬r.a<=n.eQ):=by
 unfold pR at h;rcases e1:decide (Aj x=0) with _|_ <;> rw[e1]at h
 ·exact au h (by simp)
 ·rcases e2:decide (x.dst=n.me) with _|_ <;> rw[e2]at h
  ·exact au h (by simp)
  ·rcases e3:decide (n.many<=x.src) with _|_ <;> rw[e3]at h
   ·have e3:=oZ e3;refine⟨EF.1 (jb e1),jb e2,by omega,λhk r hr h4=>?_⟩;rw[bg hk]at h;have h:(!decide (0<=ji (BZ n) 0 (bi n.ah x).1))=true:=h;rcases e4:decide (0<=ji (BZ n) 0 (bi n.ah x).1) with _|_ <;> rw[e4]at h
    ·have e4:=oZ e4;have hc:=Qd (show ji (BZ n) 0 (bi n.ah x).1<0 by omega) r hr;unfold BZ at hc;rw[bg h4]at hc;exact oZ hc
    ·cases h
   ·exact au h (by simp)
theorem NG.Ua(h:NG k v T fl j n L t)(E:Env k v T fl j)(hu:n.aA.down=false){x:aP}(hx:LG k v T fl x)(hk:x.kind=3)(hd:x.dst=n.me)(hcut:∀ r∈(bi n.ah x).1,r.kind=4->¬r.a<=n.eQ) :
  Yg n x (vX n x)/\qA k v T fl j (xH n x (vX n x)).1 (xH n x (vX n x)).2.1:=by
 have zk:vX n x=oP (D6 (ng (aW n (bi n.ah x).1).1 x) x (bi n.ah x).2.2):=by
  unfold vX;rw[bg hk];rfl
 rw[zk];have hR:=ali h.g.log hx hk E.T0;have hlen:=h.g.log.len;have xu:=h.g.ap;have ht:=hx.ok.term;have hs:=h.g.save E.T0.1 hu hR.rg hR.ok hR.k (hR.cut _ xu.2.2 hcut);obtain⟨L',t',h'⟩:=hs.ex;have hg:=h.vg hu;have hk5:=E.iY;have hjk:=E.j;have hne:=hx.ok.ne;have Eg:=hx.ok.src;have hsk:=hx.src;have uP:=h.g.me;have hxc:=hx.ok.c;have hxl:=hx.ok.len;have hxa:=hx.ok.a;by_cases e:(aW n (bi n.ah x).1).2=0
 ·obtain⟨e1,e2⟩:=hs.ok e;have GX:(aW n (bi n.ah x).1).1.ah.term=max n.ah.term x.term:=by rw[e2];exact hR.term
  have hfg:mM k v T fl j (ng (aW n (bi n.ah x).1).1 x) L' t':=h'.vec _ _ _ _ _;have hlt:∀(a:Int) (ok:Bool) (m:az) (e5:m.ah=(aW n (bi n.ah x).1).1.ah) (h5:∃ L t,mM k v T fl j m L t) (hd5:m.aA.down=false),0<=a/\a<=64->LG k v T fl { rH m 4 x.src with ok:=ok,a:=a }:=λa ok m e5 ⟨L5,t5,h5⟩ hd5 ha=>by
   exact h5.Za E hd5 (kd:=4) (d:=x.src) (a:=a) (b:=0) (ok:=ok) qO qO (by rw[e5,GX];omega) ⟨ha.1,ha.2,λh=>au h qD⟩ ⟨by decide,by decide,λ_=>rfl⟩ (λ_=>.inr rfl)
  rcases e3:(bi n.ah x).2.1 with _|_
  ·
   have hvg:VG k fl j (ng (aW n (bi n.ah x).1).1 x):=by
    rcases e4:decide (x.term=(aW n (bi n.ah x).1).1.ah.term) with _|_
    ·refine hg.of ?_ rfl rfl rfl rfl (λ_=>?_) (λ_=>?_)
     ·show(bif decide (x.term=(aW n (bi n.ah x).1).1.ah.term) then 0 else n.dn)=_;rw[e4];rfl
     ·show n.ah.log.length<=(aW n (bi n.ah x).1).1.ah.log.length;rw[e2,hR.log e3];exact bu _
     ·show 1<=(aW n (bi n.ah x).1).1.ah.term;rw[GX];omega
    ·refine VG.zero ?_ hg.fD;show(bif decide (x.term=(aW n (bi n.ah x).1).1.ah.term) then 0 else n.dn)=_;rw[e4];rfl
   refine⟨⟨hx.ok,hk,hx.len hk,by omega,lM.of hR.rg hR.ok hlen (by have:=hR.len;omega),h.g.Ef hu,by have:=h'.log.len;omega,λ_ h=>by rw[e3]at h;cases h⟩,?_⟩;unfold xH;rw[bg e,e3];rcases e4:decide (x.term=(aW n (bi n.ah x).1).1.ah.term) with _|_
   ·refine⟨⟨L',t',hfg,λ_=>hvg,h.bl⟩,λy hy=>?_,by show(1:Nat)<=8;decide⟩;obtain rfl:=List.mem_singleton.1 hy;exact hlt 0 false _ rfl ⟨L',t',hfg⟩ e1 qD
   ·refine⟨⟨L',t',hfg,λ_=>hvg,h.bl⟩,λy hy=>?_,by show(1:Nat)<=8;decide⟩;obtain rfl:=List.mem_singleton.1 hy;exact hlt _ false _ rfl ⟨L',t',hfg⟩ e1 qO
  ·
   obtain⟨u1,u2,u3⟩:=hR.upto e3;have aql:(ng (aW n (bi n.ah x).1).1 x).dn=0:=by
    show(bif decide (x.term=(aW n (bi n.ah x).1).1.ah.term) then 0 else n.dn)=_;rw[bg (show x.term=(aW n (bi n.ah x).1).1.ah.term by rw[GX];omega)];rfl
   have hcm:n.eQ<=max n.eQ (min x.c (bi n.ah x).2.2)/\max n.eQ (min x.c (bi n.ah x).2.2)<=((aW n (bi n.ah x).1).1.ah.log.length:Int):=by
    have h1:=hR.cut _ xu.2.2 hcut;rw[<-e2]at h1 u3;rw[u1];omega
   have NZ:=hfg.did e1 E.sup E.j (c:=max n.eQ (min x.c (bi n.ah x).2.2)) hcm;refine⟨⟨hx.ok,hk,hx.len hk,by omega,lM.of hR.rg hR.ok hlen (by have:=hR.len;omega),h.g.Ef hu,by have:=h'.log.len;omega,λ_ _=>NZ.1⟩,?_⟩;unfold xH;rw[bg e,e3];have Ie:NG k v T fl j (zX (D6 (ng (aW n (bi n.ah x).1).1 x) x (bi n.ah x).2.2) (oP (D6 (ng (aW n (bi n.ah x).1).1 x) x (bi n.ah x).2.2))) L' t':=⟨NZ.2,λ_=>VG.zero aql hg.fD,h.bl⟩;refine⟨⟨L',t',Ie⟩,λy hy=>?_,by show(1:Nat)<=8;decide⟩;obtain rfl:=List.mem_singleton.1 hy;exact hlt _ true _ rfl ⟨L',t',hfg⟩ e1 (by rw[u1];have:=hx.len hk;omega)
 ·obtain⟨e1,e2⟩:=hs.bad e;have pq:=h'.log.len;have Ie:NG k v T fl j (aW n (bi n.ah x).1).1 L' t':=⟨h',λ_=>hg.of rfl rfl rfl rfl rfl (λ_=>by rw[e1];exact bu _) (by rw[e1];exact hg.term),h.bl⟩;refine⟨⟨hx.ok,hk,hx.len hk,by omega,lM.of hR.rg hR.ok hlen (by have:=hR.len;omega),h.g.Ef hu,by omega,λhz=>by rw[aX e]at hz;cases hz⟩,?_⟩;unfold xH;rw[aX e];exact⟨⟨L',t',Ie⟩,nofun,cu _⟩
end
end
section
structure ER (v T:Int) (s:bP) (e:dm) (R:List aT):Prop where
 rg:∀ r∈R,RG v T r
 ok:(steps s R).2=0
 st:(steps s R).1={ s with log:=s.log++[e] }
 k:∀ r∈R,r.kind≠1
 len:R.length<=1
theorem auv{v T:Int}{s:bP}{e:dm}(jQ:s.log.length<64)(he:EG v T e)(hT:T<=1048576):ER v T s e [⟨3,(s.log.length:Int)+1,e.term,e.b⟩]:=by
 have h1:=aca (s:=s) (a:=(s.log.length:Int)+1) rfl (he.pz hT) jQ;have hst:steps s [⟨3,(s.log.length:Int)+1,e.term,e.b⟩]=({ s with log:=s.log++[e] },0):=by
  unfold steps;rw[h1];rfl
 refine⟨λr hr=>?_,by rw[hst],by rw[hst],λr hr=>?_,bu _⟩
 ·obtain rfl:=List.mem_singleton.1 hr;exact⟨Qw qO (he.pz hT),λh=>au (show(3:Int)=2 from h) qD,λ_=>he⟩
 ·obtain rfl:=List.mem_singleton.1 hr;show ¬(3:Int)=1;decide
theorem IX{α:Type}{l:List α}{i m:Nat}{x z:α}:(l.set i x).getD m z=if i=m/\m<l.length then x else l.getD m z:=by
 rw[bC,List.getElem?_set,bC];by_cases h:i=m
 ·subst h;by_cases h2:i<l.length
  ·rw[if_pos rfl,if_pos h2,if_pos ⟨rfl,h2⟩];rfl
  ·rw[if_pos rfl,if_neg h2,if_neg (λh=>h2 h.2),List.getElem?_eq_none_iff.2 qO]
 ·rw[if_neg h,if_neg (λh2=>h h2.1)]
theorem O4(l:List Int)(v:Int):∀ i,(rP l v i).length=l.length
 |0=>rfl
 |i+1=>by
  show((rP l v i).set i v).length=_;rw[oK,O4 l v i]
theorem abl(l:List Int)(v:Int):∀(i m:Nat),i<=l.length->m<i->(rP l v i).getD m 0=v
 |0,m,_,h=>au h (qZ _)
 |i+1,m,hi,h=>by
  show((rP l v i).set i v).getD m 0=v;rw[IX,O4];by_cases e:i=m
  ·rw[if_pos ⟨e,by omega⟩]
  ·rw[if_neg (λh=>e h.1),abl l v i m qO qO]
section
variable {k:Nat} {v T:Int} {fl:Nat->Int} {j:Nat} {n:az} {L:List aT} {t:List UInt8}
theorem NG.entry(h:NG k v T fl j n L t)(E:Env k v T fl j)(hu:n.aA.down=false){e:dm}{R:List aT}(hR:ER v T n.ah e R):(∃ L' t',NG k v T fl j (aW n R).1 L' t')/\aey k v T fl j n R (aW n R):=by
 have xu:=h.g.ap;have hs:=h.g.save E.T0.1 hu hR.rg hR.ok hR.k (by rw[hR.st];show _<=((n.ah.log++[e]).length:Int);rw[bW];omega);obtain⟨L',t',h0⟩:=hs.ex;refine⟨⟨L',t',h0,λhd=>?_,h.bl⟩,hs⟩;have hg:=h.vg hu;by_cases e0:(aW n R).2=0
 ·have e1:=(hs.ok e0).2;exact hg.of rfl rfl rfl rfl rfl (λ_=>by rw[e1,hR.st];show _<=(n.ah.log++[e]).length;rw[bW];omega) (by rw[e1,hR.st];exact hg.term)
 ·have e1:=(hs.bad e0).1;exact hg.of rfl rfl rfl rfl rfl (λ_=>by rw[e1];exact bu _) (by rw[e1];exact hg.term)
theorem NG.led(h:NG k v T fl j n L t)(hu:n.aA.down=false)(hr:n.dn≠0):NG k v T fl j (gQ n k) L t:=by
 have hg:=h.vg hu;obtain⟨h1,h2,h3,h4⟩:=hg.vec hr;refine⟨h.g.vec _ _ _ _ _,λ_=>⟨.inr (.inr rfl),λ_=>⟨h1,h2,?_,?_⟩,hg.fD,λ_ i hi _=>?_,λ_=>hg.term hr⟩,h.bl⟩
 ·show(rP n.next (pg n) k).length=k;rw[O4,h3]
 ·show(rP n.fJ 0 k).length=k;rw[O4,h4]
 ·show 1<=(rP n.next (pg n) k).getD i 0/\(rP n.next (pg n) k).getD i 0<=(n.ah.log.length:Int)+1;rw[abl _ _ _ _ qO hi];unfold pg;omega
theorem NG.lead(h:NG k v T fl j n L t)(E:Env k v T fl j)(hu:n.aA.down=false)(hr:n.dn≠0):Ri n k/\qA k v T fl j (Ad n k).1 (Ad n k).2.1:=by
 have hl:=h.led hu hr;have hg:=h.vg hu;obtain⟨h1,h2,h3,h4⟩:=hg.vec hr;have hlen:=h.g.log.len;have ht:=hg.term hr;have htT:=h.g.log.term;have hk5:=E.iY;have hul:(gQ n k).aA.down=false:=hu;have hb1:=hl.Tt E;have key:pg n<=64->ER v T (gQ n k).ah ⟨n.ah.term,[]⟩ (lF n):=λjQ=>by
  unfold pg at jQ;exact auv (s:=n.ah) qO ⟨⟨ht,htT.2⟩,.inl rfl⟩ E.T0.2
 rcases e:decide (pg n<=64) with _|_
 ·have e':=oZ e;refine⟨⟨h.g.many,by omega,by omega,h3,h4,h.g.Ef hu,λh=>au h e',λh=>au h e',hb1.1⟩,?_⟩;unfold Ad;rw[e];exact⟨⟨L,t,hl⟩,hb1.2.1,hb1.2.2⟩
 ·have e':=jb e;have hR:=key e';obtain⟨⟨L',t',h5⟩,hs⟩:=hl.entry E hul hR;have hb2:=h5.Tt E;refine⟨⟨h.g.many,by omega,by omega,h3,h4,h.g.Ef hu,λ_=>lM.of hR.rg hR.ok hlen (by have:=hR.len;omega),λ_=>hb2.1,hb1.1⟩,?_⟩;unfold Ad;rw[e];by_cases e2:(aW (gQ n k) (lF n)).2=0
  ·rw[bg e2];exact⟨⟨L',t',h5⟩,hb2.2.1,hb2.2.2⟩
  ·rw[aX e2];exact⟨⟨L',t',h5⟩,nofun,cu _⟩
theorem alW{m:Int}{x:aP}(hx:0<=x.a)(hm:1<=m):1<=Ju m x:=by
 unfold Ju;cases x.ok
 ·rcases e:decide (1<m) with _|_
  ·exact eF _
  ·have e:=jb e;show 1<=min (m-1) (x.a+1);omega
 ·show 1<=x.a+1;omega
theorem ail{s:bP}{l:List Int}{c:Int}(hc:c<=s.log.length):c<=Ja s l c/\Ja s l c<=s.log.length:=by
 unfold Ja;rcases e:(bif decide (c<DR s l) then decide (qo s.log (DR s l)=s.term) else false) with _|_
 ·exact⟨eF _,hc⟩
 ·have h1:c<DR s l:=by
   rcases e1:decide (c<DR s l) with _|_
   ·rw[e1]at e;cases e
   ·exact jb e1
  refine⟨Int.le_of_lt h1,?_⟩;show min (JU l) (s.log.length:Int)<=_;omega
theorem NG.done(h:NG k v T fl j n L t)(E:Env k v T fl j)(hu:n.aA.down=false)(hr:n.dn=2){x:aP}(hx:LG k v T fl x)(hd:x.dst=n.me):Rj n x (oP (wX (kT n x)))/\qA k v T fl j (DK n x (oP (wX (kT n x)))).1 (DK n x (oP (wX (kT n x)))).2.1:=by
 have hg:=h.vg hu;obtain⟨h1,h2,h3,h4⟩:=hg.vec qO;have hlen:=h.g.log.len;have hk5:=E.iY;have hj:=E.j;have uP:=h.g.me;have Eg:=hx.ok.src;have hsk:=hx.src;have hne:=hx.ok.ne;have hxa:=hx.ok.a;have xu:=h.g.ap;have ht:=hg.term qO;have hsj:x.src.toNat<k/\x.src.toNat≠j:=qO;have hnx:=hg.next hr x.src.toNat hsj.1 hsj.2
 have hn1:=alW (m:=n.next.getD x.src.toNat 0) hxa.1 hnx.1;have hv:VG k fl j (kT n x):=by
  refine⟨.inr (.inr hr),λ_=>⟨h1,h2,?_,?_⟩,hg.fD,λ_ i hi hij=>?_,λ_=>ht⟩
  ·show(n.next.set _ _).length=k;rw[oK,h3]
  ·show(bif x.ok then n.fJ.set _ _ else n.fJ).length=k;cases x.ok
   ·exact h4
   ·show(n.fJ.set _ _).length=k;rw[oK,h4]
  ·show 1<=(n.next.set x.src.toNat (min (Ju (n.next.getD x.src.toNat 0) x) (pg n))).getD i 0/\(n.next.set x.src.toNat (min (Ju (n.next.getD x.src.toNat 0) x) (pg n))).getD i 0<=(n.ah.log.length:Int)+1;rw[IX];split
   ·unfold pg;omega
   ·exact hg.next hr i hi hij
 have h0:mM k v T fl j (kT n x) L t:=h.g.vec _ _ _ _ _;have hcm:=ail (s:=n.ah) (l:=Fq (kT n x)) (c:=n.eQ) xu.2.2;have NZ:=h0.did hu E.sup E.j (c:=Ja n.ah (Fq (kT n x)) n.eQ) hcm;have Ie:NG k v T fl j (tZ n x (oP (wX (kT n x)))) L t:=⟨NZ.2,λ_=>hv.of rfl rfl rfl rfl rfl (λ_=>bu _) (λ_=>ht),h.bl⟩;have Kw:=λ(_:¬(n.ah.log.length:Int)<(tZ n x (oP (wX (kT n x)))).next.getD x.src.toNat 0)=>Ie.g.copy E hu (d:=x.src) qO ht ((hv.vec (by show n.dn≠0;omega)).2.2.1) (hv.next hr x.src.toNat hsj.1 hsj.2)
 refine⟨⟨by omega,Eg.1,by omega,by omega,by omega,by omega,by omega,by omega,NZ.1,λh=>(Kw h).1⟩,?_⟩;unfold DK;rcases e:decide ((n.ah.log.length:Int)<(tZ n x (oP (wX (kT n x)))).next.getD x.src.toNat 0) with _|_
 ·have e:=oZ e;refine⟨⟨L,t,Ie⟩,λy hy=>?_,by show(1:Nat)<=8;decide⟩;obtain rfl:=List.mem_singleton.1 hy;exact(Kw e).2
 ·exact⟨⟨L,t,Ie⟩,nofun,cu _⟩
theorem NG.Kz(h:NG k v T fl j n L t)(E:Env k v T fl j)(hu:n.aA.down=false){x:aP}(hx:LG k v T fl x)(hd:x.dst=n.me)(AO:x.kind≠3)(hrc:n.ah.term<x.term->n.dn=0):Yi n x k (vX n x)/\qA k v T fl j (xE n x k (vX n x)).1 (xE n x k (vX n x)).2.1:=by
 have zk:vX n x=oP (wX (kT (mY n x) x)):=by
  unfold vX;rw[aX AO];rfl
 rw[zk];have hxt:=hx.ok.term;have Eg:=hx.ok.src;have hsk:=hx.src;have hk5:=E.iY;have hR:VR v T n.ah (iI n.ah x.term) _:=Vz ⟨by omega,hx.term⟩ E.T0.2;have hlen:=h.g.log.len;obtain⟨L',t',h'⟩:=h.Rn E hu hR qO;have hs:=h.g.save E.T0.1 hu hR.rg hR.ok hR.k (by rw[hR.log];exact h.g.ap.2.2);have hg:=h.vg hu;have hbad:(pV n x).2≠0->uF n x=true:=λe=>by
  by_cases e1:x.term<=n.ah.term
  ·refine au ?_ e;show(aW n (iI n.ah x.term)).2=0;unfold iI;rw[bg e1];rfl
  ·unfold uF;have hr0:(pV n x).1.dn=0:=hrc qO;rw[hr0];cases !decide (x.term=(pV n x).1.ah.term) <;> rfl
 have hnot:uF n x=false->(pV n x).1.aA.down=false/\(pV n x).1.dn≠0:=λho=>by
  have e0:(pV n x).2=0:=Decidable.byContradiction λe=>by rw[hbad e]at ho;cases ho
  refine⟨(hs.ok e0).1,λhr0=>?_⟩;unfold uF at ho;rw[hr0]at ho;cases h9 : !decide (x.term=(pV n x).1.ah.term) <;> rw[h9]at ho <;> cases ho
 have F6:uF n x=false->NG k v T fl j (mY n x) L' t':=λho=>by
  obtain⟨Ic,hr1⟩:=hnot ho;refine⟨h'.g.vec _ _ _ _ _,λja=>?_,by show((pV n x).1.fD.set _ _).length<=5;rw[oK];exact h'.bl⟩;have hg1:=h'.vg Ic;obtain⟨v1,v2,v3,v4⟩:=hg1.vec hr1;refine⟨hg1.dn,λ_=>⟨v1,?_,v3,v4⟩,λi hi=>?_,hg1.next,hg1.term⟩
  ·show((pV n x).1.fD.set _ _).length=k;rw[oK];exact v2
  ·show((pV n x).1.fD.set x.src.toNat x.bin).getD i 0<=fl i;rw[IX];split
   ·rename_i e
    rw[<-e.1];exact hx.bin
   ·exact hg1.fD i hi
 have hN3:uF n x=false->NG k v T fl j (rO n x) L' t':=λho=>by
  have h2:=F6 ho;refine⟨h2.g.vec _ _ _ _ _,λja=>?_,h2.bl⟩;have hg1:=h2.vg ja;refine⟨hg1.dn,λhr=>?_,hg1.fD,hg1.next,hg1.term⟩;obtain⟨v1,v2,v3,v4⟩:=hg1.vec hr;refine⟨?_,v2,v3,v4⟩;show((mY n x).iL.set _ _).length=k;rw[oK];exact v1
 have asv:(mY n x).me=n.me:=rfl;have hlead:=λ(ho:uF n x=false)=>(hN3 ho).lead E (hnot ho).1 (hnot ho).2
 have hdone:=λ(ho:uF n x=false) (hr2:(mY n x).dn=2)=>(F6 ho).done E (hnot ho).1 hr2 hx hd
 have hdr:Jc (mY n x) x=true->(mY n x).dn=2:=λha=>by
  unfold Jc at ha;rcases e1:decide (x.kind=4) with _|_ <;> rw[e1]at ha
  ·cases ha
  ·exact jb ha
 refine⟨⟨hR.put hlen,h.g.Ef hu,Eg.1,λhr=>?_,λho _ _=>(hlead ho).1,λho _ ha=>(hdone ho (hdr ha)).1⟩,?_⟩
 ·obtain⟨v1,v2,v3,v4⟩:=hg.vec hr;omega
 ·unfold xE;by_cases e0:(pV n x).2=0
  ·rw[bg e0];rcases ho:uF n x with _|_
   ·rcases hv:Jb (mY n x) x with _|_
    ·rcases ha:Jc (mY n x) x with _|_
     ·exact⟨⟨L',t',F6 ho⟩,nofun,cu _⟩
     ·exact(hdone ho (hdr ha)).2
    ·rcases hw:Rl (rO n x) with _|_
     ·exact⟨⟨L',t',hN3 ho⟩,nofun,cu _⟩
     ·exact(hlead ho).2
   ·exact⟨⟨L',t',h'⟩,nofun,cu _⟩
  ·rw[aX e0];exact⟨⟨L',t',h'⟩,nofun,cu _⟩
end
end
section
section
variable {k:Nat} {v T:Int} {fl:Nat->Int} {j:Nat} {n:az} {L:List aT} {t:List UInt8}
theorem take_len{n:az}{x:aP}:(bi n.ah x).1.length<=2+x.l.length:=by
 have hN:(iI n.ah x.term).length<=1:=by
  unfold iI;cases decide (x.term<=n.ah.term)
  ·exact bu _
  ·exact cu _
 unfold bi;cases decide (x.term<n.ah.term)
 ·cases decide (qo n.ah.log x.a=x.b)
  ·show(iI n.ah x.term).length<=_;omega
  ·show((iI n.ah x.term++uJ (qi n.ah.log x.a.toNat x.l).1)++ou _ (qi n.ah.log x.a.toNat x.l).2).length<=_;have hc:(uJ (qi n.ah.log x.a.toNat x.l).1).length<=1:=by
    unfold uJ;cases decide ((qi n.ah.log x.a.toNat x.l).1=0)
    ·exact bu _
    ·exact cu _
   have hm:(qi n.ah.log x.a.toNat x.l).2.length<=x.l.length:=QA _ _ _;rw[bW,bW,U3];omega
 ·exact cu _
theorem NG.recv(h:NG k v T fl j n L t)(E:Env k v T fl j){x:aP}(hx:LG k v T fl x):Hf n x k (vX (mZ n x) x)/\qA k v T fl j (vO n x k).1 (vO n x k).2.1:=by
 have hxl:=hx.ok.len;have hkd:=hx.ok.kind;have hr:=h.rcv x;have hrc:(mZ n x).ah.term<x.term->(mZ n x).dn=0:=λhlt=>by
  show(bif decide (n.ah.term<x.term) then 0 else n.dn)=0;rw[bg (show n.ah.term<x.term from hlt)];rfl
 have hlen:=h.g.log.len;have hsz:CE x.l:=⟨by omega,λi hi=>by have:=(hx.es _ (kM (z:=.z) hi)).len;omega⟩;have hA:=λ(hu:n.aA.down=false) (hm:pR n x=true) (e:x.kind=1)=>hr.ask E hu hx e (RJ hm).2.1
 have hC:=λ(hu:n.aA.down=false) (hm:pR n x=true) (e:x.kind=3)=>hr.Ua E hu hx e (RJ hm).2.1 ((RJ hm).2.2.2 e)
 have hB:=λ(hu:n.aA.down=false) (hm:pR n x=true) (e:x.kind≠3)=>hr.Kz E hu hx (RJ hm).2.1 e hrc
 refine⟨⟨by omega,λe _=>⟨hx.ok,hx.len e⟩,by omega,by have:=take_len (n:=n) (x:=x);omega,hsz,hkd,λhu hm e=>(hA hu hm e).1,λhu hm e=>(hC hu hm e).1,λhu hm _ e=>(hB hu hm e).1⟩,?_⟩;unfold vO Gs;rcases hu:n.aA.down with _|_
 ·rcases hm:pR n x with _|_
  ·exact⟨⟨L,t,h⟩,nofun,cu _⟩
  ·show qA k v T fl j (DC (mZ n x) x k (vX (mZ n x) x)).1 (DC (mZ n x) x k (vX (mZ n x) x)).2.1;by_cases e1:x.kind=1
   ·rw[adX e1];exact(hA hu hm e1).2
   ·by_cases e3:x.kind=3
    ·rw[adW e3];exact(hC hu hm e3).2
    ·rw[Xi e1 e3];exact(hB hu hm e3).2
 ·exact⟨⟨L,t,h⟩,nofun,cu _⟩
def E8(v:Int)(c:aI)(n:az):Int:=bif (bif decide (c.kind=8) then zS n.st.version n.fD else false) then max v (n.st.version+1) else v
theorem ZB:∀(l:List Int) (a:Int),l.foldl min a<=a/\∀ x∈l,l.foldl min a<=x
 |[],a=>⟨eF _,nofun⟩
 |y::l,a=>by
  obtain⟨h1,h2⟩:=ZB l (min a y);refine⟨by show l.foldl min (min a y)<=a;omega,λx hx=>?_⟩;show l.foldl min (min a y)<=x;rcases List.mem_cons.1 hx with rfl|hx
  ·omega
  ·exact h2 x hx
theorem ahN{w:Int}{l:List Int}(h:zS w l=true):1<=w/\w<3/\∀ x∈l,w<x:=by
 unfold zS at h;rcases e1:decide (1<=w) with _|_ <;> rw[e1]at h
 ·cases h
 rcases e2:decide (w<3) with _|_ <;> rw[e2]at h
 ·cases h
 have h:decide (w<Rf l)=true:=h;have h:=jb h;have e1:=jb e1;refine⟨e1,jb e2,λx hx=>?_⟩;unfold Rf at h;rcases e3:(bif decide ((l.length:Int)=0) then true else decide (0<=ji (λv=>!dN v 1 3) 0 l)) with _|_ <;> rw[e3]at h
 ·have h:w<l.tail.foldl min (l.getD 0 0):=h;rcases l with _|⟨y,l⟩
  ·cases hx
  ·obtain⟨q1,q2⟩:=ZB l y;have h:w<l.foldl min y:=h;rcases List.mem_cons.1 hx with rfl|hx
   ·omega
   ·have:=q2 x hx;omega
 ·have h:w<0:=h;omega
theorem ak6{c:aI}(hs:zD k v fl)(h:NG k v T fl j n L t)(hu:n.aA.down=false)(hr:n.dn=2):v<=E8 v c n/\zD k (E8 v c n) fl:=by
 unfold E8;rcases e:(bif decide (c.kind=8) then zS n.st.version n.fD else false) with _|_
 ·exact⟨eF _,hs⟩
 ·have hrd:zS n.st.version n.fD=true:=by
   rcases e1:decide (c.kind=8) with _|_ <;> rw[e1]at e
   ·cases e
   ·exact e
  obtain⟨h1,h2,h3⟩:=ahN hrd;have hg:=h.vg hu;obtain⟨v1,v2,v3,v4⟩:=hg.vec qO;have hall:∀ i,i<k->n.st.version+1<=fl i:=λi hi=>by
   have:=h3 _ (kM (z:=(0:Int)) (show i<n.fD.length by omega));have:=hg.fD i hi;omega
  obtain⟨s1,s2,s3⟩:=hs;refine⟨by show v<=max v (n.st.version+1);omega,by show 1<=max v (n.st.version+1);omega,by show max v (n.st.version+1)<=3;omega,.inr λi hi=>?_⟩;show max v (n.st.version+1)<=fl i;have:=hall i hi;rcases s3 with s3|s3
  ·omega
  ·have:=s3 i hi;omega
theorem anm{s:bP}{e:dm}(hs:SG v T s)(hT:T<=1048576)(jQ:s.log.length<64)(ht:0<=e.term/\e.term<=T)(hb:e.b.length<=200):lM s [⟨3,(s.log.length:Int)+1,e.term,e.b⟩]:=by
 have hok:iR ⟨3,(s.log.length:Int)+1,e.term,e.b⟩=true:=by
  unfold iR;exact bg ⟨(by decide:(1:Int)<=3),(by decide:(3:Int)<=4),show 1<=(s.log.length:Int)+1 by omega,show(s.log.length:Int)+1<=64 by omega,ht.1,show e.term<=1048576 by omega,hb⟩
 have iC:mF s ⟨3,(s.log.length:Int)+1,e.term,e.b⟩=true:=by
  unfold mF;rw[if_neg (by show ¬(3:Int)=1;decide),if_neg (by show ¬(3:Int)=2;decide),if_pos rfl];simp
 refine⟨by rw[List.all_cons,hok];rfl,?_,by have:=hs.len;omega,by show(1:Nat)<=100;decide⟩;rw[Ul (KR hok iC)];rfl
theorem NG.call(h:NG k v T fl j n L t)(E:Env k v T fl j){c:aI}(hz:nZ c):Ol n c/\∃ w,v<=w/\zD k w fl/\qA k w T fl j (oD n c).1 []:=by
 have hlen:=h.g.log.len;have afw:=h.g.verb;have hbl:=h.bl;have GX:=h.g.log.term;have hcl:Ol n c:=⟨hz,by omega,by omega,by omega,λhu=>h.g.Ef hu,λhc jQ=>anm (e:=⟨n.ah.term,gU c⟩) h.g.log E.T0.2 qO GX (KJ hc).2⟩;refine⟨hcl,?_⟩;have same:∃ w,v<=w/\zD k w fl/\qA k w T fl j n []:=⟨v,eF _,E.sup,⟨L,t,h⟩,nofun,cu _⟩;unfold oD;rcases hu:n.aA.down with _|_
 rotate_left
 ·exact same
 rcases hr:decide (n.dn=2) with _|_
 ·exact same
 rcases hm:decide (qJ c n.st.version=0) with _|_
 ·exact same
 rcases hb:(bif decide (c.kind=8) then !decide (c.n=n.st.version+1) else false) with _|_
 rotate_left
 ·exact same
 rcases hrd:(bif decide (c.kind=8) then !zS n.st.version n.fD else false) with _|_
 rotate_left
 ·exact same
 rcases jQ:decide (64<(n.ah.log.length:Int)+1) with _|_
 rotate_left
 ·exact same
 have hr:=jb hr;have hm:=jb hm;have jQ:=oZ jQ;obtain⟨w1,w2⟩:=ak6 (c:=c) E.sup h hu hr;have E':Env k (E8 v c n) T fl j:=⟨E.iY,E.T0,w2,E.j⟩;have h':NG k (E8 v c n) T fl j n L t:=h.up w1 w2.2.1 (eF _) (λ_=>eF _) rfl;have hg:=h.vg hu;have hc:=LM hm hz;have hvv:=(h.g.up hu).oU;have he:EG (E8 v c n) T ⟨n.ah.term,gU c⟩:=by
  refine⟨⟨hg.term qO,GX.2⟩,.inr ⟨c,rfl,hc.up qO w2.2.1,λh8=>?_⟩⟩;rw[bg h8]at hb hrd;have hb:(!decide (c.n=n.st.version+1))=false:=hb;have hrd:(!zS n.st.version n.fD)=false:=hrd;have hb:c.n=n.st.version+1:=by simpa using hb
  have hrd:zS n.st.version n.fD=true:=by simpa using hrd
  unfold E8;rw[bg h8,hrd];show c.n<=max v (n.st.version+1);omega
 have hR:=auv (s:=n.ah) qO he E.T0.2;obtain⟨hex,hs⟩:=h'.entry E' hu hR;have hres:qA k (E8 v c n) T fl j (aW n [(⟨3,(n.ah.log.length:Int)+1,n.ah.term,gU c⟩:aT)]).1 []:=⟨hex,nofun,cu _⟩;show ∃ w,v<=w/\zD k w fl/\qA k w T fl j (bif !decide ((aW n [(⟨3,(n.ah.log.length:Int)+1,n.ah.term,gU c⟩:aT)]).2=0) then ((aW n [(⟨3,(n.ah.log.length:Int)+1,n.ah.term,gU c⟩:aT)]).1,(0:Int),(0:Int),(aW n [(⟨3,(n.ah.log.length:Int)+1,n.ah.term,gU c⟩:aT)]).2) else ((aW n [(⟨3,(n.ah.log.length:Int)+1,n.ah.term,gU c⟩:aT)]).1,(n.ah.log.length:Int)+1,n.ah.term,0)).1 [];cases !decide ((aW n [(⟨3,(n.ah.log.length:Int)+1,n.ah.term,gU c⟩:aT)]).2=0)
 ·exact⟨_,w1,w2,hres⟩
 ·exact⟨_,w1,w2,hres⟩
structure JY (n:az):Prop where
 many:3<=n.many/\n.many<=5
 me:0<=n.me/\n.me<n.many
 term : -10<=n.ah.term/\n.ah.term<1048576
 hl:n.ah.log.length<=1000
 hn:n.aA.down=false->vI n
 hL:lM n.ah (kP (n.ah.term+1) (n.me+1))
 pq:(wR n).1.ah.log.length<=1000
theorem VR.alS{R:List aT}{a:Int}(h:VR v T n.ah R a):(aW n R).1.ah.log=n.ah.log:=by
 show(sJ n.aA n.ah R).1.log=_;unfold sJ;cases decide (((R.length:Nat):Int)=0)
 ·cases decide (65536<n.aA.b.length+(bY R).length)
  ·cases n.aA.mD
   ·exact h.log
   ·rfl
  ·rfl
 ·rfl
theorem ajE{l:List dm}(h:∀ e∈l,EG v T e)(hT:0<=T):0<=DI l/\DI l<=T:=by
 unfold DI;rcases e:decide ((l.length:Int)=0) with _|_
 ·have e:=oZ e;have:=(h _ (kM (z:=.z) (show((l.length:Int)-1).toNat<l.length by omega))).term;show 0<=(l.getD ((l.length:Int)-1).toNat .z).term/\(l.getD ((l.length:Int)-1).toNat .z).term<=T;omega
 ·exact⟨eF _,hT⟩
theorem mM.asc(h:mM k v T fl j n L t)(E:Env k v T fl j)(hu:n.aA.down=false){d:Int}(hd:0<=d/\d<k/\d≠j)(ht:1<=n.ah.term):LG k v T fl (D7 n d):=by
 have hll:=ajE h.log.log E.T0.1;have hlen:=h.log.len;have hT:=E.T0;exact h.Za E hu (kd:=1) (d:=d) (a:=(n.ah.log.length:Int)) (b:=DI n.ah.log) (ok:=false) (.inl rfl) hd ht ⟨by omega,by omega,λh=>au h qD⟩ ⟨hll.1,by omega,λh=>au h qD⟩ (λh=>au h qD)
theorem mM.asks(h:mM k v T fl j n L t)(E:Env k v T fl j)(hu:n.aA.down=false)(ht:1<=n.ah.term):(∀ x∈xX n,LG k v T fl x)/\(xX n).length<=8:=by
 have hmk:n.many.toNat=k:=by have:=h.many;omega
 have hk5:=E.iY;refine⟨λy hy=>?_,?_⟩
 ·obtain⟨d,hd,rfl⟩:=List.mem_map.1 (show y∈(gY n n.many.toNat).map (D7 n) from hy);have ho:=Z8 hd h.me;exact h.asc E hu ⟨ho.1,by omega,ho.2.2⟩ ht
 ·show((gY n n.many.toNat).map (D7 n)).length<=8;rw[lJ];have:=Z9 (n:=n) (m:=n.many.toNat);omega
theorem NG.TB(h:NG k v T fl j n L t)(E:Env k v T fl j)(hT:T<1048576)(hf:∀ i,i<k->0<=fl i):JY n/\qA k v (T+1) fl j (zL n).1 (zL n).2.1:=by
 have hlen:=h.g.log.len;have GX:=h.g.log.term;have hk5:=E.iY;have hj:=E.j;have uP:=h.g.me;have asn:=h.g.many;have E':Env k v (T+1) fl j:=⟨E.iY,by have:=E.T0;omega,E.sup,E.j⟩;have h':NG k v (T+1) fl j n L t:=h.up (eF _) E.sup.2.1 qO (λ_=>eF _) rfl;have hR:VR v (T+1) n.ah (kP (n.ah.term+1) (n.me+1)) (n.ah.term+1):=VR.gZ ⟨by omega,by omega⟩ qO ⟨by omega,by omega⟩ (.inl qO);have afB:=hR.alS;refine⟨⟨by omega,by omega,by omega,by omega,λhu=>h.g.Ef hu,hR.put hlen,by show(aW n _).1.ah.log.length<=1000;rw[afB];omega⟩,?_⟩;unfold zL;rcases hst:vk n with _|_
 ·show qA k v (T+1) fl j (nP n).1 (nP n).2.1;unfold nP;rcases hu:n.aA.down with _|_
  ·rcases hr:decide (n.dn=2) with _|_
   ·exact⟨h'.Rn E' hu hR qO,nofun,cu _⟩
   ·exact⟨⟨L,t,h'⟩,nofun,cu _⟩
  ·exact⟨⟨L,t,h'⟩,nofun,cu _⟩
 ·unfold vk at hst;rcases hu:n.aA.down with _|_ <;> rw[hu]at hst
  ·rcases hr:decide (n.dn=2) with _|_ <;> rw[hr]at hst
   ·have hst:decide ((wR n).2=0)=true:=hst;have hq:(aW n (kP (n.ah.term+1) (n.me+1))).2=0:=jb hst;obtain⟨L',t',h1⟩:=h'.Rn E' hu hR qO;have hs:=h'.g.save E'.T0.1 hu hR.rg hR.ok hR.k (by rw[hR.log];exact h.g.ap.2.2);obtain⟨q1,q2⟩:=hs.ok hq;have hb:(fB n).fD.length=k:=by
     show((List.replicate n.many.toNat 0).set n.me.toNat n.bin).length=k;rw[oK,List.length_replicate];omega
    have h0:mM k v (T+1) fl j (fB n) L' t':=h1.g.vec _ _ _ _ _;have N8:n.bin=fl j:=by
     have u:=h.g.up hu;rw[u.bin,u.ah,h.g.fl]
    have hS:NG k v (T+1) fl j (fB n) L' t':=by
     refine⟨h0,λ_=>⟨.inr (.inl rfl),λ_=>⟨?_,hb,?_,?_⟩,λi hi=>?_,λh=>au (show(1:Int)=2 from h) qD,λ_=>?_⟩,by omega⟩
     ·show((List.replicate n.many.toNat false).set n.me.toNat true).length=k;rw[oK,List.length_replicate];omega
     ·show(List.replicate n.many.toNat (0:Int)).length=k;rw[List.length_replicate];omega
     ·show(List.replicate n.many.toNat (0:Int)).length=k;rw[List.length_replicate];omega
     ·show((List.replicate n.many.toNat 0).set n.me.toNat n.bin).getD i 0<=fl i;rw[IX];split
      ·rename_i e
       rw[N8,show i=j by omega];exact eF _
      ·have:=hf i hi;rw[bC,List.getElem?_replicate];split <;> exact this
     ·show 1<=(aW n _).1.ah.term;rw[q2,hR.term];omega
    have ht1:1<=(fB n).ah.term:=by
     show 1<=(aW n (kP (n.ah.term+1) (n.me+1))).1.ah.term;rw[q2,hR.term];omega
    have hu1:(fB n).aA.down=false:=q1;have hasks:=h0.asks E' hu1 ht1;exact⟨⟨L',t',hS⟩,hasks.1,hasks.2⟩
   ·cases hst
  ·cases hst
structure Oj (n:az) (b:Int) (L:List aT) (t:List UInt8):Prop where
 laid:Laid n.aA.b L t
 ok:n.aA.ok
 err:Eu n b=A8 n b L
 st:xJ n b=Je n b L
 aK:A8 n b L=0->n.aA.down=true/\EM b (max (iM L).floor 1)=0/\dJ.ok (Om n.aA L)/\lM (iM L) (jq b)/\(¬(aW (gB n b L) (jq b)).2=0->dJ.ok (aW (gB n b L) (jq b)).1.aA)
theorem ab3:kC Jm Jm.version:=abL.1 qD
theorem NG.start(h:NG k v T fl j n L t)(E:Env k v T fl j)(hf:∀ i,i<k->0<=fl i)(b:Int):Oj n b L t/\(xI n b=true->∃ lh,(∀ i,i≠j->lh i=fl i)/\fl j<=lh j/\qA k v T lh j (xJ n b).1 []):=by
 have hrep:=h.g.dg.laid.vW;have e1:(JJ n).1=iM L:=gz Prod.fst hrep;have e2:(JJ n).2=(bY L).length:=gz Prod.snd hrep;have eb:EZ n b=gB n b L:=by
  unfold EZ gB Om;rw[e1,e2]
 have eP:xJ n b=Je n b L:=by
  unfold xJ Je;rw[eb,e1]
 have eE:Eu n b=A8 n b L:=by
  unfold Eu A8;rw[e1]
 have hsg:=h.g.dg.ah E.T0.1;have hv:=E.sup;have key:A8 n b L=0->n.aA.down=true/\EM b (max (iM L).floor 1)=0/\1<=b/\b<=3/\(iM L).floor<=b:=λhe=>by
  unfold A8 at he;rcases hd:n.aA.down with _|_ <;> rw[hd]at he
  ·exact au (show(31:Int)=0 from he) qD
  ·have he:EM b (max (iM L).floor 1)=0:=he;refine⟨rfl,he,?_⟩;unfold EM at he;rcases h1:dN b 1 3 with _|_ <;> rw[h1]at he
   ·exact au (show(1:Int)=0 from he) qD
   ·have h1:=JB h1;rcases h2:dN (max (iM L).floor 1) 1 3 with _|_ <;> rw[h2]at he
    ·exact au (show(1:Int)=0 from he) qD
    ·rcases h3:decide (b<max (iM L).floor 1) with _|_ <;> rw[h3]at he
     ·have h3:=oZ h3;omega
     ·exact au (show(32:Int)=0 from he) qD
 have hdg:DG v T (Om n.aA L) L []:=h.g.dg.Hq;have iC:1<=b/\b<=3->(iM L).floor<=b->RG v T ⟨1,b,0,[]⟩/\steps (iM L) (jq b)=({ iM L with floor:=b },0):=λhb hf=>by
  have hok:iR ⟨1,b,0,[]⟩=true:=by
   unfold iR;exact bg ⟨(by decide:(1:Int)<=1),(by decide:(1:Int)<=4),hb.1,hb.2,(by decide:(0:Int)<=0),(by decide:(0:Int)<=0),cu _⟩
  refine⟨⟨hok,λh=>au (show(1:Int)=2 from h) qD,λh=>au (show(1:Int)=3 from h) qD⟩,?_⟩;have hf2:mF (iM L) ⟨1,b,0,[]⟩=true:=by
   unfold mF;rw[if_pos rfl];exact bg hf
  show steps (iM L) [⟨1,b,0,[]⟩]=_;rw[Ul (KR hok hf2)];rfl
 have aeU:1<=b/\b<=3->(iM L).floor<=b->afa v T (gB n b L) L (jq b) (aW (gB n b L) (jq b)):=λhb hf=>by
  obtain⟨q1,q2⟩:=iC hb hf;exact aaz hdg rfl rfl (λr hr=>by obtain rfl:=List.mem_singleton.1 hr;exact q1) (by show(steps (iM L) (jq b)).2=0;rw[q2])
 have hput:1<=b/\b<=3->(iM L).floor<=b->lM (iM L) (jq b):=λhb hf=>by
  obtain⟨q1,q2⟩:=iC hb hf;exact lM.of (v:=v) (T:=T) (λr hr=>by obtain rfl:=List.mem_singleton.1 hr;exact q1) (by rw[q2]) hsg.len (by show(1:Nat)<=100;decide)
 refine⟨⟨h.g.dg.laid,h.g.dg.ok,eE,eP,λhe=>?_⟩,λhst=>?_⟩
 ·obtain⟨k1,k2,k3,k4,k5⟩:=key he;refine⟨k1,k2,hdg.ok,hput ⟨k3,k4⟩ k5,λ_=>?_⟩;obtain⟨i,t',q,_⟩:=(aeU ⟨k3,k4⟩ k5).ex;exact q.ok
 ·unfold xI at hst;have he:=jb hst;rw[eE]at he;obtain⟨k1,k2,k3,k4,k5⟩:=key he;rw[eP];have aoT:=h.g.fl;have hmk:∀(m:az) (L2:List aT) (t2:List UInt8),m.me=n.me->m.many=n.many->DG v T m.aA L2 t2->SG v T m.ah->m.st=Jm->m.fA=0->m.eQ=0->m.fF=[]->m.fD=[]->m.dn=0->fl j<=(iM L2).floor ->
    (m.aA.down=false->t2=[]/\m.ah=iM L2/\m.bin=m.ah.floor/\1<=m.bin)->∃ lh,(∀ i,i≠j->lh i=fl i)/\fl j<=lh j/\qA k v T lh j m []:=by
   intro m L2 t2 m1 m2 m3 m4 m5 m6 m7 m8 m9 m10 m11 m12;refine⟨λi=>if i=j then (iM L2).floor else fl i,λi hi=>if_neg hi,by show fl j<=if j=j then _ else _;rw[if_pos rfl];exact m11,?_⟩;refine⟨⟨L2,t2,⟨m1.trans h.g.me,m2.trans h.g.many,m3,(if_pos rfl).symm,m4,by rw[m5];exact ab3.mi.fit,by rw[m5];decide,?_,by rw[m8,m6];rfl,λhd=>?_⟩,λ_=>VG.zero m10 λi hi=>?_,by rw[m9];decide⟩,nofun,cu _⟩
   ·rw[m6,m7];exact⟨eF _,eF _,by omega⟩
   ·obtain⟨d1,d2,d3,d4⟩:=m12 hd;exact⟨d1,d2,d3,d4,by rw[m5];exact ab3,by rw[m5];exact hv.1⟩
   ·rw[m9];show(0:Int)<=if i=j then (iM L2).floor else fl i
    have h1:=hf i hi;split
    ·rename_i e
     rw[e]at h1;omega
    ·exact h1
  have GY:zf L:=h.g.dg.laid.ok;obtain⟨f1,f2⟩:=iC ⟨k3,k4⟩ k5;unfold Je;rcases hlt:decide ((iM L).floor<b) with _|_
  ·have hlt:=oZ hlt;exact hmk (gB n b L) L [] rfl rfl hdg hsg rfl rfl rfl rfl rfl rfl qO (λ_=>⟨rfl,rfl,by show b=(iM L).floor;omega,k3⟩)
  ·obtain⟨i,t',q1,q2,q3⟩:=(aeU ⟨k3,k4⟩ k5).ex;have happ:∀ i,iM (L++(jq b).take i)=(steps (iM L) ((jq b).take i)).1:=λi=>Vr GY
   have hge:∀ i,fl j<=(iM (L++(jq b).take i)).floor:=λi=>by
    rw[happ,<-aoT];rcases i with _|i
    ·exact eF _
    ·rw[lW (show(jq b).length<=i+1 from Nat.succ_le_succ (cu i)),f2];exact k5
   by_cases e:(aW (gB n b L) (jq b)).2=0
   ·rw[bg e];obtain⟨r1,r2,r3,r4⟩:=q2 e;have r4:(aW (gB n b L) (jq b)).1.ah={ iM L with floor:=b }:=by rw[r4];show(steps (iM L) (jq b)).1=_;rw[f2]
    refine hmk (aW (gB n b L) (jq b)).1 _ t' rfl rfl q1 ?_ rfl rfl rfl rfl rfl rfl (hge i) (λ_=>⟨r2,?_,?_,k3⟩)
    ·rw[r4];exact⟨⟨by show 0<=b;omega,k4⟩,hsg.term,hsg.gZ,hsg.len,hsg.log⟩
    ·rw[r4,happ,r1,oJ,f2]
    ·rw[r4];exact rfl
   ·rw[aX e];obtain⟨r1,r2⟩:=q3 e;have r1:(aW (gB n b L) (jq b)).1.ah=iM L:=r1;obtain⟨c1,c2⟩:=q1.nG 0;exact hmk { (aW (gB n b L) (jq b)).1 with aA:=(aW (gB n b L) (jq b)).1.aA.nG 0 } _ t' rfl rfl c1 (by show SG v T (aW (gB n b L) (jq b)).1.ah;rw[r1];exact hsg) rfl rfl rfl rfl rfl rfl (hge i) (λh=>au (show true=false from h) qD)
theorem NG.YL(h:NG k v T fl j n L t){b:Int}(hb : -9223372036854775808<=b):qA k v T fl j (G7 n b) []:=
 ⟨⟨L,t,⟨h.g.me,h.g.many,h.g.dg.YL b hb,h.g.fl,h.g.log,h.g.fit,h.g.verb,h.g.ap,h.g.fF,λhu=>⟨(h.g.up hu).t,(h.g.up hu).ah,(h.g.up hu).bin,(h.g.up hu).FM,(h.g.up hu).st,(h.g.up hu).oU⟩⟩,λhu=>⟨(h.vg hu).dn,(h.vg hu).vec,(h.vg hu).fD,(h.vg hu).next,(h.vg hu).term⟩,h.bl⟩,nofun,cu _⟩
theorem NG.nG(h:NG k v T fl j n L t)(b:Int):qA k v T fl j (GL n b) []:=
 ⟨⟨L,t,⟨h.g.me,h.g.many,(h.g.dg.nG b).1,h.g.fl,h.g.log,h.g.fit,h.g.verb,h.g.ap,h.g.fF,λhu=>au (show true=false from hu) qD⟩,λhu=>au (show true=false from hu) qD,h.bl⟩,nofun,cu _⟩
end
end
end Go.Proofs.YtnibdnahojjcgaaGreat
