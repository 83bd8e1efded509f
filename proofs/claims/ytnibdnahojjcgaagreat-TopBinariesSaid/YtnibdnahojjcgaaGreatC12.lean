/- Lemmas. -/
import Derived.Test.YtnibdnahojjcgaaGreatC05
import Derived.Test.YtnibdnahojjcgaaGreatC06
namespace Go.Proofs.YtnibdnahojjcgaaGreat
set_option linter.all false
set_option maxRecDepth 100000
set_option maxHeartbeats 0
open Go.RowKit Tryz
def aiD(e:bH)(he:pY e)(hb:e.b=[])(hf:pM [⟨1,0,e.term.toNat,[]⟩])(hc:Ja (fK 7 1) [⟨1,0,e.term.toNat,[]⟩]):aQ 206 [.d (bW (bK [⟨1,0,e.term.toNat,[]⟩]))] (bI [zM e,iV 0]):=abq
def aiC(e:bH)(he:pY e)(hb:e.b≠[])(hf:pM [⟨1,0,e.term.toNat,[]⟩,⟨2,2,0,e.b⟩])(hc:Ja (fK 7 1) [⟨1,0,e.term.toNat,[]⟩,⟨2,2,0,e.b⟩]):aQ 206 [.d (bW (bK [⟨1,0,e.term.toNat,[]⟩,⟨2,2,0,e.b⟩]))] (bI [zM e,iV 0]):=abq
def aiO(e:bH)(he:pY e)(hf:pM (kY e))(hc:Ja (fK 7 1) (kY e)):aQ 206 [.d (bW (bK (kY e)))] (bI [zM e,iV 0]):=by
 by_cases hb:e.b=[]
 ·have e1:kY e=[⟨1,0,e.term.toNat,[]⟩]:=by unfold kY;rw[if_pos hb]
  rw[e1]at hf hc ⊢;exact aiD e he hb hf hc
 ·have e1:kY e=[⟨1,0,e.term.toNat,[]⟩,⟨2,2,0,e.b⟩]:=by unfold kY;rw[if_neg hb]
  rw[e1]at hf hc ⊢;exact aiC e he hb hf hc
def lH(x:aV):Bool:=
 bif (bif (bif (bif (bif (bif (bif (bif (bif (bif (bif (bif (bif decide (x.kind=1) then true else decide (x.kind=2)) then true else decide (x.kind=3)) then true else decide (x.kind=4)) then dQ x.src 0 4 else false) then dQ x.dst 0 4 else false) then !decide (x.src=x.dst) else false) then dQ x.term 1 1048576 else false) then dQ x.bin 1 3 else false)
  then IG x.a 64 (bif (bif decide (x.kind=1) then true else decide (x.kind=3)) then true else decide (x.kind=4)) else false) then IG x.b 1048576 (bif decide (x.kind=1) then true else decide (x.kind=3)) else false) then IG x.c 64 (decide (x.kind=3)) else false)
  then(bif (bif !x.ok then true else decide (x.kind=2)) then true else decide (x.kind=4)) else false) then IG x.l.length 4 (decide (x.kind=3)) else false
def GV(y:bH):Bool:=bif !dQ y.term 1 1048576 then true else decide (200<(y.b.length:Int))
def lG:List bH->Int
 |[]=>0
 |y::r=>bif GV y then 1 else lG r
def Bd(x:aV):Int:=bif !lH x then 1 else lG x.l
def aq0{x:aV}(h:(!lH x)=false):Bd x=lG x.l:=bG h
def aq1{l:List bH}{i:Nat}(h:i<l.length):lG (l.drop i)=bif GV (l.getD i .z) then 1 else lG (l.drop (i+1)):=by
 rw[wO .z h];rfl
def FP(x:aV)(hn:x.l.length<=10000):aQ 132 [jT x] (iV (Bd x)):=by
 refine ay func132 λX=>?_
 (repeat'(first|refine aC ?_|refine ZX [] [(0,0,false,[]),(0,0,false,[]),(0,0,false,[]),(0,0,false,[]),(0,0,false,[]),(0,0,false,[]),(0,0,false,[]),(0,0,false,[]),(0,0,false,[]),(0,0,false,[]),(0,0,false,[]),(0,0,false,[]),(0,0,false,[]),(0,0,false,[]),(0,0,false,[]),(0,0,false,[])] (by kernel_rfl) (by kernel_rfl) ?_|refine mc ?_ ?_|refine aZ _ (fM (λht=>af.tell (aan _ _ _) vw ⟨rfl,rfl⟩) ?_)|refine aZ _ (fM (λht=>af.tell (asj _ _ _) vw ⟨rfl,rfl⟩) ?_)|refine aO (aan _ _ _) ?_|refine dU x.l.length (λi (a:Unit)=>⟨129,[(112,.d (gY x.l)),(113,iV x.l.length),(114,iV i)],e0⟩) (λi a=>Bd x=lG (x.l.drop i)) () ?_ ?_ (λi a hi hp=>?_)|refine aZ () ⟨?_,?_,?_⟩|refine aj.mk (λh=>?_) (λh=>?_)|refine ag.a ?_|refine Fin.tell (vq (ah iV ?_) tv)|refine ag.mk ?_ ?_))<;>(try(refine dm.mk ?_;repeat'(first|exact tv|exact rfl|refine an ?_ ?_|refine ag.mk ?_ ?_)))
 all_goals try exact cls
 all_goals first|exact(dH h).symm|exact aq0 h|exact sN|(have h9:i<x.l.length:=om;rw[hp,aq1 h9];first|exact(dH h).symm|exact bG h)|(have h9:=bV h;rw[hp,qM qo];rfl)
def afZ{f:bu}{s:kT}(h1:f.aU=0)(h2:s.aU=0)(h3:0<f.n):yh f s 1=true:=by
 unfold yh;rw[h1,h2];simp;omega
def aro{f:bu}{s:kT}(h1:f.aU=2)(h2:s.aU=2)(h3:f.b≠[]):yh f s 1=true:=by
 have:=List.length_pos_iff.2 h3;unfold yh;rw[h1,h2];simp;omega
def anr{f:bu}{s:kT}{n:Int}(h1:f.aU=2)(h2:s.aU=2)(h3:f.b≠[])(h4:s.many=true):yh f s n=true:=by
 have:=List.length_pos_iff.2 h3;unfold yh;rw[h1,h2,h4];simp;omega
def atH{a b:Bool}:(bif a then true else b)=(a||b):=by cases a <;> rfl
def aal(f:bu):Prop:=f.aU=0/\0<f.n/\f.n<=1000000000/\f.b=[]
def Rh:∀(l:List Int) (i:Nat),(∀ n∈l,0<=n/\n<=1000000000)->Hz (qG i l)/\∀ f∈qG i l,(i:Int)+1<=f.num/\f.num<=(i:Int)+l.length/\aal f
 |[],i,_=>⟨List.Pairwise.nil,λf hf=>by cases hf⟩
 |n::r,i,h=>by
  obtain⟨h1,h2⟩:=Rh r (i+1) (λx hx=>h x (jA _ hx));have hn:=h n jL;have e:qG i (n::r)=(if n=0 then [] else [⟨(i:Int)+1,0,n.toNat,[]⟩])++qG (i+1) r:=rfl;rw[e,lT];split
  ·rw[List.nil_append];exact⟨h1,λf hf=>by have:=h2 f hf;exact⟨by omega,by omega,this.2.2⟩⟩
  ·refine⟨?_,λf hf=>?_⟩
   ·rw[List.singleton_append];exact List.pairwise_cons.2 ⟨λf hf=>by have:=h2 f hf;show(i:Int)+1<f.num;omega,h1⟩
   ·obtain hf|hf:=List.mem_append.1 hf
    ·obtain rfl:=List.mem_singleton.1 hf;exact⟨dL _,by show(i:Int)+1<=_;omega,rfl,by show 0<n.toNat;omega,by show n.toNat<=_;omega,rfl⟩
    ·have:=h2 f hf;exact⟨by omega,by omega,this.2.2⟩
def Xo:∀(l:List Int) (i:Nat),(qG i l).length<=l.length
 |[],_=>bF _
 |n::r,i=>by
  have e:qG i (n::r)=(if n=0 then [] else [⟨(i:Int)+1,0,n.toNat,[]⟩])++qG (i+1) r:=rfl;have:=Xo r (i+1);rw[e,bP,lT];split <;> simp <;> omega
def agk:(iC 1 0).1=[8]:=by decide
def asq:(iC 2 2).1=[18]:=by decide
def ZK(e:bH):bK (kY e)=[8]++dK e.term.toNat++(if e.b=[] then [] else [18]++(dK e.b.length++e.b)):=by
 unfold kY bK;split
 ·simp[jk,agk]
 ·simp[jk,agk,asq]
def LC(b:List UInt8):bH:=
 let p:=dh (b.drop 1)
 let r:=(b.drop 1).drop p.2.1
 ⟨p.1,match r with|[]=>[]|_::q=>q.drop (dh q).2.1⟩
def aeu{e:bH}(he:pY e):LC (bK (kY e))=e:=by
 have ht:=he.term;have hb:=he.b;have e1:(bK (kY e)).drop 1=dK e.term.toNat++(if e.b=[] then [] else [18]++(dK e.b.length++e.b)):=by
  rw[ZK];simp
 have hv:=wM e.term.toNat (if e.b=[] then [] else [18]++(dK e.b.length++e.b)) qO;have hd:∀ r:List UInt8,(dK e.term.toNat++r).drop (gZ e.term.toNat)=r:=λr=>by unfold gZ;simp
 unfold LC;rw[e1,hv];simp only[hd];obtain⟨t,b⟩:=e;simp only at ht hb ⊢;congr 1
 ·omega
 ·by_cases h0:b=[]
  ·rw[if_pos h0,h0]
  ·rw[if_neg h0];simp only[List.singleton_append];rw[wM b.length b qO];simp[gZ]
def Nh{e:bH}(he:pY e):pM (kY e)/\Ja (fK 7 1) (kY e)/\(bK (kY e)).length<=250/\bK (kY e)≠[]:=by
 have ht:=he.term;have hb:=he.b;have hg:∀ f∈kY e,(f.num=1/\aal f)\/(f.num=2/\f.aU=2/\f.n=0/\f.b≠[]/\f.b.length<=200):=by
  intro f hf;unfold kY at hf;split at hf
  ·obtain rfl:=List.mem_singleton.1 hf;exact .inl ⟨rfl,rfl,by show 0<e.term.toNat;omega,by show e.term.toNat<=_;omega,rfl⟩
  ·rename_i hne
   obtain rfl|hf:=List.mem_cons.1 hf
   ·exact .inl ⟨rfl,rfl,by show 0<e.term.toNat;omega,by show e.term.toNat<=_;omega,rfl⟩
   ·obtain rfl:=List.mem_singleton.1 hf;exact .inr ⟨rfl,rfl,rfl,hne,hb⟩
 have hu:Hz (kY e):=by
  unfold kY Hz;split <;> simp
 have hl:(kY e).length<=2:=by unfold kY;split <;> simp
 have iY:∀ f∈kY e,f.fit/\oI f=true/\f.b.length<=200:=by
  intro f hf;unfold bu.fit oI;obtain⟨h1,h2,h3,h4,h5⟩|⟨h1,h2,h3,h4,h5⟩:=hg f hf
  ·rw[h1,h2,h5];exact⟨⟨by omega,by omega,by omega,by omega,by omega,by simp⟩,by simp,by simp⟩
  ·rw[h1,h2,h3];exact⟨⟨by omega,by omega,by omega,by omega,by omega,by omega⟩,by simp,by omega⟩
 have hlen:(bK (kY e)).length<=250:=by
  rw[ZK];have:=vN e.term.toNat;have:=vN e.b.length;split <;> simp <;> omega
 have hok:pM (kY e):=⟨λi hi=>(iY _ (ja hi)).1,λi hi=>(iY _ (ja hi)).2.1,λi hi=>by have:=(iY _ (ja (z:=.z) hi)).2.2;omega,λi h0 hi=>adn hu h0 hi,by omega,by omega⟩;refine⟨hok,⟨hok,by decide,by decide,λi hi j hj he2=>?_,λj hj hn=>?_⟩,hlen,?_⟩
 ·rw[Y8 hu hi];have hs:∀ s∈fK 7 1,(s.num=1/\s.aU=0)\/(s.num=2/\s.aU=2):=by simp[fK,oz,uo,n4,b4]
  have h1:=hs _ (ja (z:=.z) hj);obtain⟨g1,g2,g3,g4,g5⟩|⟨g1,g2,g3,g4,g5⟩:=hg _ (ja (z:=.z) hi) <;> obtain⟨k1,k2⟩|⟨k1,k2⟩:=h1
  ·exact afZ g2 k2 g3
  ·omega
  ·omega
  ·exact aro g2 k2 g4
 ·have hs:∀ s∈fK 7 1,s.kM=true->s.num=1:=by simp[fK,oz,uo,n4,b4]
  have e1:=hs _ (ja (z:=.z) hj) hn;refine Y9 (f:=⟨1,0,e.term.toNat,[]⟩) ?_ (by rw[e1]);unfold kY;split <;> simp
 ·rw[ZK];simp
structure jY (x:aV):Prop where
 kind:1<=x.kind/\x.kind<=4
 src:0<=x.src/\x.src<=4
 dst:0<=x.dst/\x.dst<=4
 ne:x.src≠x.dst
 term:1<=x.term/\x.term<=1048576
 bin:1<=x.bin/\x.bin<=3
 a:0<=x.a/\x.a<=64/\(x.kind=2->x.a=0)
 b:0<=x.b/\x.b<=1048576/\(x.kind=2\/x.kind=4->x.b=0)
 c:0<=x.c/\x.c<=64/\(x.kind≠3->x.c=0)
 ok:x.ok=true->x.kind=2\/x.kind=4
 len:x.l.length<=4/\(x.kind≠3->x.l=[])
 es:∀ e∈x.l,pY e
def au9{l:List bH}(h:lG l=0):∀ e∈l,pY e:=by
 induction l with
 |nil=>intro e he;cases he
 |cons y r ih=>
  have h:(bif GV y then 1 else lG r)=(0:Int):=h;cases hb:GV y
  ·rw[hb,bz]at h;intro e he;obtain rfl|he:=List.mem_cons.1 he
   ·unfold GV dQ at hb;by_cases h1:1<=e.term/\e.term<=1048576
    ·rw[aX h1]at hb;have hb:decide (200<(e.b.length:Int))=false:=hb;have:=mJ hb;exact⟨h1,by omega⟩
    ·rw[aT h1]at hb;cases hb
   ·exact ih h e he
  ·rw[hb]at h;cases h
def avw{l:List bH}(h:∀ e∈l,pY e):lG l=0:=by
 induction l with
 |nil=>rfl
 |cons y r ih=>
  have hy:=h y jL;have hb:GV y=false:=by
   unfold GV dQ;rw[aX hy.term];show decide (200<(y.b.length:Int))=false;have:=hy.b;exact aT qO
  show(bif GV y then 1 else lG r)=0;rw[hb];exact ih λe he=>h e (jA _ he)
def Ih{x:aV}:Bd x=0↔jY x:=by
 have hsz:Bd x=0↔lH x=true/\lG x.l=0:=by
  unfold Bd;cases lH x <;> simp
 rw[hsz];unfold lH;simp only[TW,atH,qf,dQ,IG,gq,Bool.or_eq_true,nY,iy];constructor
 ·rintro⟨⟨⟨⟨⟨⟨⟨⟨⟨⟨⟨h1,h2⟩,h3⟩,h4⟩,h5⟩,h6⟩,h7⟩,h8⟩,h9⟩,h10⟩,h11⟩,h12⟩;have hk:1<=x.kind/\x.kind<=4:=qO;refine⟨hk,h2,h3,h4,h5,h6,?_,?_,?_,?_,?_,au9 h12⟩
  ·split at h7 <;> omega
  ·split at h8 <;> omega
  ·split at h9 <;> omega
  ·intro e;obtain (h10|h10)|h10:=h10
   ·rw[h10]at e;cases e
   ·exact .inl h10
   ·exact .inr h10
  ·refine⟨by split at h11 <;> omega,λhne=>uI (by rw[if_neg hne]at h11;omega)⟩
 ·intro h;have hk:=h.kind;have ha:=h.a;have hb:=h.b;have hc:=h.c;have hl:=h.len;refine⟨⟨⟨⟨⟨⟨⟨⟨⟨⟨⟨by omega,h.src⟩,h.dst⟩,h.ne⟩,h.term⟩,h.bin⟩,?_⟩,?_⟩,?_⟩,?_⟩,?_⟩,avw h.es⟩
  ·split <;> omega
  ·split <;> omega
  ·split <;> omega
  ·cases ho:x.ok
   ·exact .inl (.inl rfl)
   ·obtain h|h:=h.ok ho
    ·exact .inl (.inr h)
    ·exact .inr h
  ·split
   ·omega
   ·rename_i hne
    rw[hl.2 hne];simp
def nH(x:aV):List Int:=[x.kind,x.src+1,x.dst+1,x.term,x.bin,x.a,x.b,x.c,if x.ok=true then 1 else 0]
def EK(e:bH):bu:=⟨10,2,0,bK (kY e)⟩
def kz(x:aV):List bu:=qj (nH x)++x.l.map EK
def lU(x:aV):List UInt8:=bK (kz x)
def jY.nums{x:aV}(h:jY x):∀ n∈nH x,0<=n/\n<=1000000000:=by
 have h1:=h.kind;have h2:=h.src;have h3:=h.dst;have h4:=h.term;have h5:=h.bin;have h6:=h.a;have h7:=h.b;have h8:=h.c;intro n hn;simp only[nH,List.mem_cons,List.not_mem_nil,or_false]at hn;obtain rfl|rfl|rfl|rfl|rfl|rfl|rfl|rfl|rfl:=hn
 all_goals first|omega|(split <;> omega)
def X0{x:aV}(h:jY x):(kz x).length<=13:=by
 have h1:=Xo (nH x) 0;have h2:=h.len;have h3:(nH x).length=9:=rfl;unfold kz qj;rw[bP,lZ];omega
def Nb{x:aV}(h:jY x):∀ f∈kz x,(1<=f.num/\f.num<=9/\aal f)\/(f.num=10/\f.aU=2/\f.n=0/\∃ e,pY e/\f.b=bK (kY e)):=by
 intro f hf;obtain hf|hf:=List.mem_append.1 hf
 ·obtain⟨_,h2⟩:=Rh (nH x) 0 h.nums;obtain⟨q1,q2,q3⟩:=h2 f hf;have h3:(nH x).length=9:=rfl;exact .inl ⟨by omega,by omega,q3⟩
 ·obtain⟨e,he,rfl⟩:=List.mem_map.1 hf;exact .inr ⟨rfl,rfl,rfl,e,h.es e he,rfl⟩
def Ny{x:aV}(h:jY x):∀ f∈kz x,f.fit/\oI f=true/\f.b.length<=250:=by
 intro f hf;unfold bu.fit oI;obtain⟨h1,h2,h3,h4,h5,h6⟩|⟨h1,h2,h3,e,he,h4⟩:=Nb h f hf
 ·rw[h3,h6];refine⟨⟨by omega,by omega,by omega,by omega,by omega,by simp⟩,?_,by simp⟩;simp;omega
 ·have:=(Nh he).2.2.1;rw[h1,h2,h3,h4];exact⟨⟨by omega,by omega,by omega,by omega,by omega,by omega⟩,by simp,by omega⟩
def ak3{x:aV}(h:jY x){i:Nat}(h0:0<i)(hi:i<(kz x).length):xC ((kz x).getD ((i:Int)-1).toNat .z) ((kz x).getD i .z)=true:=by
 obtain⟨j,rfl⟩:∃ j,i=j+1:=⟨i-1,by omega⟩;rw[show((((j+1:Nat):Int))-1).toNat=j by omega];obtain⟨hu,h2⟩:=Rh (nH x) 0 h.nums;have h3:(nH x).length=9:=rfl;have hn:qG 0 (nH x)=qj (nH x):=rfl;rw[hn]at hu h2;by_cases hj:j+1<(qj (nH x)).length
 ·have:=List.pairwise_iff_getElem.1 hu j (j+1) qO hj qO;unfold kz;rw[bn,bn,lS hj,lS qO,dV hj,dV (show j<_ by omega)];simp only[Option.getD_some];unfold xC;rw[if_neg qO];simpa using this
 ·have e2:((kz x).getD (j+1) .z).num=10/\((kz x).getD (j+1) .z).aU=2:=by
   unfold kz at hi ⊢;rw[bP]at hi;rw[bn,oP qO,qQ,dV (by rw[lZ]at hi;omega)];exact⟨rfl,rfl⟩
  have hm:=ja (z:=bu.z) (show j<(kz x).length by omega);unfold xC;rw[e2.1,e2.2];obtain⟨q1,q2,_⟩|⟨q1,q2,_⟩:=Nb h _ hm
  ·rw[if_neg qO];exact aX qO
  ·rw[if_pos q1.symm,q2];rfl
def TF{x:aV}(h:jY x):pM (kz x):=by
 have hl:=X0 h;refine⟨λi hi=>(Ny h _ (ja hi)).1,λi hi=>(Ny h _ (ja hi)).2.1,λi hi=>by have:=(Ny h _ (ja (z:=.z) hi)).2.2;omega,λi h0 hi=>ak3 h h0 hi,?_,by omega⟩;have:=acw (l:=kz x) (B:=270) (λf hf=>by
  have:=Ny h f hf;have:=Oe this.1;omega)
 have:=vJ 270 hl;omega
def asx:0<(fK 6 1).length/\(fK 6 1).length<=10/\(∀ s∈fK 6 1,(s.num<=9/\s.aU=0)\/(s.num=10/\s.aU=2/\s.many=true))/\∀ s∈fK 6 1,s.kM=true->1<=s.num/\s.num<=4:=by
 refine⟨by decide,by decide,?_,?_⟩ <;> simp[fK,oz,uo,Pe,n4,b4]
def ate{x:aV}(h:jY x):Ja (fK 6 1) (kz x):=by
 obtain⟨s1,s2,s3,s4⟩:=asx;obtain⟨hu,h2⟩:=Rh (nH x) 0 h.nums;have hn:qG 0 (nH x)=qj (nH x):=rfl;have h3:(nH x).length=9:=rfl;rw[hn]at hu h2;refine⟨TF h,s1,s2,λi hi j hj he=>?_,λj hj avl=>?_⟩
 ·have hs:=s3 _ (ja (z:=.z) hj);have hm:=ja (z:=bu.z) hi;obtain⟨q1,q2,q3,q4,q5,q6⟩|⟨q1,q2,q3,e,he2,q4⟩:=Nb h _ hm
  ·have hlt:i<(qj (nH x)).length:=by
    refine Nat.lt_of_not_le λhle=>?_
    have:((kz x).getD i .z).num=10:=by
     unfold kz at hi ⊢;rw[bP]at hi;rw[bn,oP qO,qQ,dV (by rw[lZ]at hi;omega)];rfl
    omega
   have e1:(kz x).take (i+1)=(qj (nH x)).take (i+1):=by
    unfold kz;rw[List.take_append_of_le_length qO]
   have e2:(kz x).getD i .z=(qj (nH x)).getD i .z:=by
    unfold kz;rw[bn,bn,lS hlt]
   rw[e1,e2,Y8 hu hlt,<-e2];obtain⟨k1,k2⟩|⟨k1,k2,k3⟩:=hs
   ·exact afZ q3 k2 q4
   ·omega
  ·obtain⟨k1,k2⟩|⟨k1,k2,k3⟩:=hs
   ·omega
   ·exact anr q2 k2 (by rw[q4];exact(Nh he2).2.2.2) k3
 ·have hs:=s4 _ (ja (z:=.z) hj) avl;have Bz:=h.kind;have DN:=h.src;have hx3:=h.dst;have hx4:=h.term;have key:∀ k:Int,1<=k->k<=4->∃ f∈kz x,f.num=k:=by
   intro k hk1 hk2;unfold kz qj nH qG;rw[if_neg qO];unfold qG;rw[if_neg qO];unfold qG;rw[if_neg qO];unfold qG;rw[if_neg qO];rcases(show k=1\/k=2\/k=3\/k=4 by omega) with rfl|rfl|rfl|rfl <;> simp
  obtain⟨f,hf,hk⟩:=key _ hs.1 hs.2;exact Y9 hf hk
def mF(a:aV)(f:bu):aV:=
 if f.num=1 then { a with kind:=f.n } else if f.num=2 then { a with src:=f.n-1 } else if f.num=3 then { a with dst:=f.n-1 } else if f.num=4 then { a with term:=f.n } else
 if f.num=5 then { a with bin:=f.n } else if f.num=6 then { a with a:=f.n } else if f.num=7 then { a with b:=f.n } else if f.num=8 then { a with c:=f.n } else
 if f.num=9 then { a with ok:=decide ((f.n:Int)=1) } else if f.num=10 then { a with l:=a.l++[LC f.b] } else a
def AP(l:List bu):aV:=l.foldl mF aV.z
structure ahT (f:bu):Prop where
 n:f.n<=1000000000
 e:f.num=10->∃ e,pY e/\f.b=bK (kY e)
def Ag{l:List bu}{i:Nat}(h:i<l.length):AP (l.take (i+1))=mF (AP (l.take i)) (l.getD i .z):=by
 unfold AP;rw[kR .z h,List.foldl_append];rfl
def aiP{b:List UInt8}(h:∃ e,pY e/\b=bK (kY e)):aQ 206 [.d (bW b)] (bI [zM (LC b),iV 0]):=by
 obtain⟨e,he,rfl⟩:=h;rw[aeu he];exact aiO e he (Nh he).1 (Nh he).2.1
def akG(l:List bu):(AP l).l.length<=l.length:=by
 have key:∀(l:List bu) (a:aV),(l.foldl mF a).l.length<=a.l.length+l.length:=by
  intro l;induction l with
  |nil=>intro a;simp
  |cons f r ih=>
   intro a;have h1:=ih (mF a f);have h2:(mF a f).l.length<=a.l.length+1:=by
    unfold mF;repeat' split
    all_goals first|(simp;done)|(simp;omega)|omega
   rw[List.foldl_cons,lT];omega
 have:=key l aV.z;have h0:aV.z.l.length=0:=rfl;unfold AP;omega
def rdC(a:aV):Nat->V
 |9=>.row 2 a.l.length
 |k=>.d (kN a k)
def apU(l:List bu)(hn:l.length<=100)(hf:∀ i,i<l.length->ahT (l.getD i .z)):aQ 156 [.d (jv l)] (bI [jT (AP l),iV 0]):=by
 refine ay func156 λX=>?_
 (repeat'(first|refine aC ?_|refine uN 1 9 50 (λj k=>.d (pJ (([]:List bH).getD j .z) k)) rfl rfl qN rfl qN (dU l.length (λi (a:aV)=>⟨80,[(2,.ptr 0 0),(4,.ptr 1 0),(10,.d (jv l)),(11,iV l.length),(12,iV i)],⟨[(0,.Wp 10 (λ_=>.top)),(1,.Wp 10 (rdC a)),(2,bQ 50 2 pJ .z a.l)],3⟩⟩) (λi a=>a=AP (l.take i)) aV.z ?_ ?_ (λi a hi hp=>?_))|refine aO (aiP ((hf i om).e (bT ‹_›))) ?_|refine aj.n (λh=>?_)|refine aj.mk (λh=>?_) (λh=>?_)|refine ag.a ?_|refine Fin.eG (i:=2) (h:=λj=>pJ (a.l.getD j .z)) (iI.of (cZ _) rfl ?_) (Fin.tell (fH [jT (AP l),iV 0] rfl fr ⟨gu ⟨⟨⟨⟨⟨⟨⟨⟨⟨⟨tv,dR ?_⟩,dR ?_⟩,dR ?_⟩,dR ?_⟩,dR ?_⟩,dR ?_⟩,dR ?_⟩,dR ?_⟩,dR ?_⟩,dR ?_⟩,qV,tv⟩))|refine ag.mk ?_ ?_))<;>try exact cls
 all_goals(try(refine leq ?_ ?_ <;> repeat'(first|exact tv|exact qV|exact VW.top|exact qW|refine fE qN ?_ ?_|refine gU qN ?_ (λj hj k hk=>?_) ?_|refine an ?_ ?_)))
 all_goals first|exact cm qV|exact rfl|exact λj hj k hk=>rfl|exact sN|(simp only[dM];(try simp only[gq,iy,jg]at *);have:=(hf i qo).n;omega)|(have h9:=bV h;have e:a=AP l:=(by rw[hp,jU qo]);subst e;first|exact cm qV|exact cm (vq jB trivial))|(exact⟨rfl,by have:=akG (l.take i);rw[<-hp]at this;rw[dG]at this;omega⟩)|(refine aZ ({ a with kind:=((l.getD i .z).n:Int) }) ⟨om,(by(try simp only[gq,iy,jg]at *);rw[Ag qo,<-hp];unfold mF;repeat' split;all_goals(rfl)),?_⟩;(refine leq ?_ ?_ <;> repeat'(first|exact tv|exact qV|exact vq (Ar (by simp)) qN|exact qW|refine vq (ah iV ?_) tv|refine fE qN ?_ ?_|refine gU qN ?_ (λj hj k hk=>?_) ?_|refine an ?_ ?_));all_goals first|(simp;done)|exact cm qV)|(refine aZ ({ a with src:=((l.getD i .z).n:Int)-1 }) ⟨om,(by(try simp only[gq,iy,jg]at *);rw[Ag qo,<-hp];unfold mF;repeat' split;all_goals first|rfl|(exfalso;omega)),?_⟩;(refine leq ?_ ?_ <;> repeat'(first|exact tv|exact qV|exact vq (Ar (by simp)) qN|exact qW|refine vq (ah iV ?_) tv|refine fE qN ?_ ?_|refine gU qN ?_ (λj hj k hk=>?_) ?_|refine an ?_ ?_));all_goals first|(simp;done)|exact cm qV)|(refine aZ ({ a with dst:=((l.getD i .z).n:Int)-1 }) ⟨om,(by(try simp only[gq,iy,jg]at *);rw[Ag qo,<-hp];unfold mF;repeat' split;all_goals first|rfl|(exfalso;omega)),?_⟩;(refine leq ?_ ?_ <;> repeat'(first|exact tv|exact qV|exact vq (Ar (by simp)) qN|exact qW|refine vq (ah iV ?_) tv|refine fE qN ?_ ?_|refine gU qN ?_ (λj hj k hk=>?_) ?_|refine an ?_ ?_));all_goals first|(simp;done)|exact cm qV)|(refine aZ ({ a with term:=((l.getD i .z).n:Int) }) ⟨om,(by(try simp only[gq,iy,jg]at *);rw[Ag qo,<-hp];unfold mF;repeat' split;all_goals first|rfl|(exfalso;omega)),?_⟩;(refine leq ?_ ?_ <;> repeat'(first|exact tv|exact qV|exact vq (Ar (by simp)) qN|exact qW|refine vq (ah iV ?_) tv|refine fE qN ?_ ?_|refine gU qN ?_ (λj hj k hk=>?_) ?_|refine an ?_ ?_));all_goals first|(simp;done)|exact cm qV)|(refine aZ ({ a with bin:=((l.getD i .z).n:Int) }) ⟨om,(by(try simp only[gq,iy,jg]at *);rw[Ag qo,<-hp];unfold mF;repeat' split;all_goals first|rfl|(exfalso;omega)),?_⟩;(refine leq ?_ ?_ <;> repeat'(first|exact tv|exact qV|exact vq (Ar (by simp)) qN|exact qW|refine vq (ah iV ?_) tv|refine fE qN ?_ ?_|refine gU qN ?_ (λj hj k hk=>?_) ?_|refine an ?_ ?_));all_goals first|(simp;done)|exact cm qV)|(refine aZ ({ a with a:=((l.getD i .z).n:Int) }) ⟨om,(by(try simp only[gq,iy,jg]at *);rw[Ag qo,<-hp];unfold mF;repeat' split;all_goals first|rfl|(exfalso;omega)),?_⟩;(refine leq ?_ ?_ <;> repeat'(first|exact tv|exact qV|exact vq (Ar (by simp)) qN|exact qW|refine vq (ah iV ?_) tv|refine fE qN ?_ ?_|refine gU qN ?_ (λj hj k hk=>?_) ?_|refine an ?_ ?_));all_goals first|(simp;done)|exact cm qV)|(refine aZ ({ a with b:=((l.getD i .z).n:Int) }) ⟨om,(by(try simp only[gq,iy,jg]at *);rw[Ag qo,<-hp];unfold mF;repeat' split;all_goals first|rfl|(exfalso;omega)),?_⟩;(refine leq ?_ ?_ <;> repeat'(first|exact tv|exact qV|exact vq (Ar (by simp)) qN|exact qW|refine vq (ah iV ?_) tv|refine fE qN ?_ ?_|refine gU qN ?_ (λj hj k hk=>?_) ?_|refine an ?_ ?_));all_goals first|(simp;done)|exact cm qV)|(refine aZ ({ a with c:=((l.getD i .z).n:Int) }) ⟨om,(by(try simp only[gq,iy,jg]at *);rw[Ag qo,<-hp];unfold mF;repeat' split;all_goals first|rfl|(exfalso;omega)),?_⟩;(refine leq ?_ ?_ <;> repeat'(first|exact tv|exact qV|exact vq (Ar (by simp)) qN|exact qW|refine vq (ah iV ?_) tv|refine fE qN ?_ ?_|refine gU qN ?_ (λj hj k hk=>?_) ?_|refine an ?_ ?_));all_goals first|(simp;done)|exact cm qV)|(refine aZ ({ a with ok:=decide (((l.getD i .z).n:Int)=1) }) ⟨om,(by(try simp only[gq,iy,jg]at *);rw[Ag qo,<-hp];unfold mF;repeat' split;all_goals first|rfl|(exfalso;omega)),?_⟩;(refine leq ?_ ?_ <;> repeat'(first|exact tv|exact qV|exact vq (Ar (by simp)) qN|exact qW|refine fE qN ?_ ?_|refine gU qN ?_ (λj hj k hk=>?_) ?_|refine an ?_ ?_));all_goals first|(simp;done)|exact cm qV)|(refine aZ ({ a with l:=a.l++[LC (l.getD i .z).b] }) ⟨om,(by(try simp only[gq,iy,jg]at *);rw[Ag qo,<-hp];unfold mF;repeat' split;all_goals first|rfl|(exfalso;omega)),?_⟩;(refine leq ?_ ?_ <;> repeat'(first|exact tv|exact qV|exact vq (Ar (by simp)) qN|exact qW|refine fE qN ?_ ?_|refine gU qN ?_ (λj hj k hk=>?_) ?_|refine an ?_ ?_));all_goals first|(simp;done)|(refine cm (kU (C:=pJ) (z:=.z) (b:=[LC (l.getD i .z).b]) rfl (by simpa using hj) fr (λj hj=>?_));obtain rfl:j=0:=(by simpa using hj);obtain _|_|k:=k <;> first|exact qV|(exact ai hk (by show ¬_<2;omega)));done)|(refine aZ (a) ⟨om,(by(try simp only[gq,iy,jg]at *);rw[Ag qo,<-hp];unfold mF;repeat' split;all_goals first|rfl|(exfalso;omega)),?_⟩;(refine leq ?_ ?_ <;> repeat'(first|exact tv|exact qV|exact vq (Ar (by simp)) qN|exact qW|refine fE qN ?_ ?_|refine gU qN ?_ (λj hj k hk=>?_) ?_|refine an ?_ ?_));all_goals first|(simp;done)|exact cm qV)
structure DT (l:List bH):Prop where
 len:l.length<=100
 b:∀ i,i<l.length->(l.getD i .z).b.length<=100000
def Xx(l:List bH)(hl:DT l):aQ 86 [.d (gY l)] (.d (gY l)):=by
 refine ay func86 λX=>?_
 (repeat'(first|refine rQ 3 50 (λj k=>.d (pJ (([]:List bH).getD j .z) k)) rfl rfl qN (dU l.length (λi (a:List bH)=>⟨23,[(3,.row 0 a.length),(6,.d (gY l)),(7,iV l.length),(8,iV i)],⟨[(0,bQ 50 2 pJ .z a)],1⟩⟩) (λi a=>a=l.take i) [] ?_ ?_ (λi a hi hp=>?_))|refine aZ (a++[l.getD i .z]) ⟨?_,?_,?_⟩|refine aC ?_|refine bU 5 [7,8] [o2,o0,o0,o0,o0,o0,o0,o1,(1,1,true,[]),(2,2,false,[])] ?_|refine mc ?_ ?_|refine kF (Ii (l.getD i .z).b.length (λj _=>gG ((l.getD i .z).b.getD j 0)) (by have:=hl.b i om;omega)) ?_|refine aj.mk (λh=>?_) (λh=>?_)|refine ag.a ?_|refine Fin.eG (i:=0) (h:=λj=>pJ (a.getD j .z)) sF (Fin.tell (vq (jB.trans (ah (λL=>V.d (gY L)) (show a=l by rw[hp,jU om]))) tv))|refine ag.mk ?_ ?_))<;>(try(refine dm.mk ?_;repeat'(first|exact tv|exact rfl|refine aO (Ii (l.getD i .z).b.length (λj _=>gG ((l.getD i .z).b.getD j 0)) (by have:=hl.b i om;omega)) ?_|refine an ?_ ?_|refine ag.mk ?_ ?_)))
 all_goals try exact cls
 all_goals(try(refine leq ?_ ?_ <;> repeat'(first|exact tv|exact qV|refine vq (ah (V.row _) ?_) qN|refine gU qN ?_ (λj hj k hk=>?_) ?_|refine an ?_ ?_)))
 all_goals first|exact om|(rw[kR bH.z om,hp])|(have h9:=hl.len;have h7:=ah List.length hp;rw[dG]at h7;first|omega|(simp only[dM];omega))|(simp;done)|(have hj:j<a.length+1:=hj;have hk:k<2:=hk;refine cm (kU rfl hj fr (λj hj=>?_));obtain rfl:j=0:=Nat.lt_one_iff.1 hj;obtain _|_|k:=k;exact qV;exact qV;omega)
def ru{α:Type}(key:α->Int)(x:α)(p:List α×Bool)(y:α):List α×Bool:=bif (bif !p.2 then decide (key x<key y) else false) then(p.1++[x],true) else p
def nS{α:Type}(key:α->Int)(x:α)(l:List α):List α×Bool:=l.foldl (λp y=>((ru key x p y).1++[y],(ru key x p y).2)) ([],false)
def vZ{α:Type}(key:α->Int)(x:α)(l:List α):List α:=bif !(nS key x l).2 then(nS key x l).1++[x] else(nS key x l).1
def Xt{α:Type}{key:α->Int}{x z:α}{l:List α}{i:Nat}(h:i<l.length):nS key x (l.take (i+1))=((ru key x (nS key x (l.take i)) (l.getD i z)).1++[l.getD i z],(ru key x (nS key x (l.take i)) (l.getD i z)).2):=H7 _ _ z h
def Ya{α:Type}{key:α->Int}{x y:α}{p:List α×Bool}:(ru key x p y).1.length<=p.1.length+1:=by
 unfold ru;cases (bif !p.2 then decide (key x<key y) else false)
 ·exact Nat.le_succ _
 ·rw[dw];simp
def Nz{α:Type}{key:α->Int}{x:α}(z:α){l:List α}:∀ {i:Nat},i<=l.length->(nS key x (l.take i)).1.length<=2*i
 |0,_=>bF _
 |i+1,h=>by
  rw[Xt (z:=z) (show i<l.length by omega)];have h1:=Nz (key:=key) (x:=x) z (l:=l) (i:=i) qO;have h2:=Ya (key:=key) (x:=x) (y:=l.getD i z) (p:=nS key x (l.take i));rw[bP,List.length_singleton];omega
def ZE{α:Type}{key:α->Int}{x y:α}{p:List α×Bool}(h:(bif !p.2 then decide (key x<key y) else false)=true):ru key x p y=(p.1++[x],true):=dH h
def Ur{α:Type}{key:α->Int}{x y:α}{p:List α×Bool}(h:(bif !p.2 then decide (key x<key y) else false)=false):ru key x p y=p:=bG h
def agI{α:Type}{key:α->Int}{x:α}{l:List α}(h:(!(nS key x l).2)=true):vZ key x l=(nS key x l).1++[x]:=dH h
def agJ{α:Type}{key:α->Int}{x:α}{l:List α}(h:(!(nS key x l).2)=false):vZ key x l=(nS key x l).1:=bG h
def ve(l:List iT)(v:Int):List iT:=l.filter (λx=>!decide (x.set=v))
def at1{l:List iT}{i:Nat}{v:Int}(h:i<l.length)(e:(l.getD i .z).set=v):ve (l.take (i+1)) v=ve (l.take i) v:=by
 unfold ve;rw[kR .z h,List.filter_append];simp only[List.filter_cons,List.filter_nil,e,decide_true];simp
def atZ{l:List iT}{i:Nat}{v:Int}(h:i<l.length)(e:¬(l.getD i .z).set=v):ve (l.take (i+1)) v=ve (l.take i) v++[l.getD i .z]:=by
 unfold ve;rw[kR .z h,List.filter_append];simp only[List.filter_cons,List.filter_nil,aT e];simp
def aoG(l:List iT)(i:Nat)(v:Int):(ve (l.take i) v).length<=i:=by
 unfold ve;have h1:=List.length_filter_le (λx:iT=>!decide (x.set=v)) (l.take i);rw[dG]at h1;omega
def ab1(l:List iT)(v:Int)(hl:l.length<=1000):aQ 115 [.d (og l),iV v] (.d (og (ve l v))):=by
 refine ay func115 λX=>?_
 (repeat'(first|refine aC ?_|refine dU l.length (λi (a:Unit)=>⟨29,[(0,.d (og l)),(1,iV v),(5,.row 0 (ve (l.take i) v).length),(6,iV i)],⟨[(0,bQ 97 2 iw .z (ve (l.take i) v))],1⟩⟩) (λ_ _=>True) () ?_ True.intro (λi a hi hp=>?_)|refine aZ () ⟨?_,tv,?_⟩|refine aj.mk (λh=>?_) (λh=>?_)|refine ag.a ?_|(rw[show l.take i=l from jU om];refine zg (C:=iw) (z:=.z) (L:=ve l v) rfl rfl rfl fr)|refine ag.mk ?_ ?_))<;>try exact cls
 all_goals(try(refine leq ?_ ?_ <;> repeat'(first|exact tv|exact qV|exact qW|refine vq (ah (V.row _) ?_) qN|refine gU qN ?_ (λj hj k hk=>?_) ?_|refine an ?_ ?_)))
 all_goals first|exact rfl|exact ai hj nz|(have h9:i<l.length:=om;have q:=aoG l i v;first|omega|(rw[atZ h9 (show ¬(l.getD i .z).set=v from Ut h)];first|(rw[bP];rfl)|(have hk:k<2:=hk;refine cm (kU rfl hj fr (λj hj=>?_));obtain rfl:j=0:=Nat.lt_one_iff.1 hj;obtain _|_|k:=k;exact qV;exact qV;omega))|(rw[at1 h9 (show(l.getD i .z).set=v from OT h)];first|done|exact cm qV))
def aqf(l:List iT)(x:iT)(hl:l.length<=1000):aQ 113 [.d (og l),aaP x] (.d (og (vZ (λy:iT=>y.set) x l))):=by
 refine ay func113 λX=>?_
 (repeat'(first|refine T.cut (x:=.seq (.region 6 _ _) _) (y:=.region 9 _ _) ⟨45,[(0,.d (og l)),(3,.ptr 0 0),(5,.row 1 (ru (λy:iT=>y.set) x (nS (λy:iT=>y.set) x (l.take i)) (l.getD i .z)).1.length),(6,.b (ru (λy:iT=>y.set) x (nS (λy:iT=>y.set) x (l.take i)) (l.getD i .z)).2),(7,iV i)],⟨[(0,.Wp 2 (λk=>.d (iw x k))),(1,bQ 97 2 iw .z (ru (λy:iT=>y.set) x (nS (λy:iT=>y.set) x (l.take i)) (l.getD i .z)).1)],2⟩⟩ ?_ ?_|(rw[show l.take i=l from jU om];refine T.cut (x:=.seq (.region 10 _ _) _) ⟨45,[(5,.row 1 (vZ (λy:iT=>y.set) x l).length)],⟨[(0,.Wp 2 (λk=>.d (iw x k))),(1,bQ 97 2 iw .z (vZ (λy:iT=>y.set) x l))],2⟩⟩ ?_ ?_)|refine aC ?_|refine bU 6 [] (ooz 12 []) ?_|refine mc ?_ ?_|refine dU l.length (λi (a:Unit)=>⟨45,[(0,.d (og l)),(3,.ptr 0 0),(5,.row 1 (nS (λy:iT=>y.set) x (l.take i)).1.length),(6,.b (nS (λy:iT=>y.set) x (l.take i)).2),(7,iV i)],⟨[(0,.Wp 2 (λk=>.d (iw x k))),(1,bQ 97 2 iw .z (nS (λy:iT=>y.set) x (l.take i)).1)],2⟩⟩) (λ_ _=>True) () ?_ True.intro (λi a hi hp=>?_)|refine aZ () ⟨?_,tv,?_⟩|refine aj.mk (λh=>?_) (λh=>?_)|refine ag.a ?_|refine zg (C:=iw) (z:=.z) (L:=vZ (λy:iT=>y.set) x l) rfl rfl rfl fr|refine ag.mk ?_ ?_))<;>(try(refine dm.mk ?_;repeat'(first|exact tv|exact rfl|refine an ?_ ?_|refine ag.mk ?_ ?_)))
 all_goals try exact cls
 all_goals(try(refine leq ?_ ?_ <;> repeat'(first|exact tv|exact qV|exact qW|refine vq (ah (V.row _) ?_) qN|refine vq (ah V.b ?_) tv|refine jQ qN (λk hk=>?_) ?_|refine gU qN ?_ (λj hj k hk=>?_) ?_|refine an ?_ ?_)))
 all_goals first|exact rfl|exact cm qV|exact ai hj nz|(have h9:i<l.length:=om;have q:=Nz (key:=(λy:iT=>y.set)) (x:=x) .z hi;have q2:=Ya (key:=(λy:iT=>y.set)) (x:=x) (y:=l.getD i .z) (p:=(nS (λy:iT=>y.set) x (l.take i)));first|omega|(rw[ZE (key:=(λy:iT=>y.set)) (x:=x) (y:=l.getD i .z) (p:=(nS (λy:iT=>y.set) x (l.take i))) h];first|done|(rw[bP];rfl)|(have hk:k<2:=hk;refine cm (kU rfl hj fr (λj hj=>?_));obtain rfl:j=0:=Nat.lt_one_iff.1 hj;obtain _|_|k:=k;exact qV;exact qV;omega))|(rw[Ur (key:=(λy:iT=>y.set)) (x:=x) (y:=l.getD i .z) (p:=(nS (λy:iT=>y.set) x (l.take i))) h];first|done|exact cm qV)|(rw[Xt (z:=.z) h9];first|done|(rw[bP];rfl)|(have hk:k<2:=hk;refine cm (kU rfl hj fr (λj hj=>?_));obtain rfl:j=0:=Nat.lt_one_iff.1 hj;obtain _|_|k:=k;exact qV;exact qV;omega)))|(have q:=Nz (key:=(λy:iT=>y.set)) (x:=x) .z (bF l.length);rw[mM]at q;first|omega|(rw[agI (key:=(λy:iT=>y.set)) (x:=x) (l:=l) h];first|(rw[bP];rfl)|(have hk:k<2:=hk;refine cm (kU rfl hj fr (λj hj=>?_));obtain rfl:j=0:=Nat.lt_one_iff.1 hj;obtain _|_|k:=k;exact qV;exact qV;omega))|(rw[agJ (key:=(λy:iT=>y.set)) (x:=x) (l:=l) h];first|done|exact cm qV))
def apv(l:List iW)(x:iW)(hl:l.length<=1000):aQ 77 [.d (yD l),aaJ x] (.d (yD (vZ (λy:iW=>y.ax) x l))):=by
 refine ay func77 λX=>?_
 (repeat'(first|refine T.cut (x:=.seq (.region 6 _ _) _) (y:=.region 9 _ _) ⟨45,[(0,.d (yD l)),(3,.ptr 0 0),(5,.row 1 (ru (λy:iW=>y.ax) x (nS (λy:iW=>y.ax) x (l.take i)) (l.getD i .z)).1.length),(6,.b (ru (λy:iW=>y.ax) x (nS (λy:iW=>y.ax) x (l.take i)) (l.getD i .z)).2),(7,iV i)],⟨[(0,.Wp 4 (λk=>.d (iE x k))),(1,bQ 54 4 iE .z (ru (λy:iW=>y.ax) x (nS (λy:iW=>y.ax) x (l.take i)) (l.getD i .z)).1)],2⟩⟩ ?_ ?_|(rw[show l.take i=l from jU om];refine T.cut (x:=.seq (.region 10 _ _) _) ⟨45,[(5,.row 1 (vZ (λy:iW=>y.ax) x l).length)],⟨[(0,.Wp 4 (λk=>.d (iE x k))),(1,bQ 54 4 iE .z (vZ (λy:iW=>y.ax) x l))],2⟩⟩ ?_ ?_)|refine aC ?_|refine bU 6 [] (ooz 12 []) ?_|refine mc ?_ ?_|refine dU l.length (λi (a:Unit)=>⟨45,[(0,.d (yD l)),(3,.ptr 0 0),(5,.row 1 (nS (λy:iW=>y.ax) x (l.take i)).1.length),(6,.b (nS (λy:iW=>y.ax) x (l.take i)).2),(7,iV i)],⟨[(0,.Wp 4 (λk=>.d (iE x k))),(1,bQ 54 4 iE .z (nS (λy:iW=>y.ax) x (l.take i)).1)],2⟩⟩) (λ_ _=>True) () ?_ True.intro (λi a hi hp=>?_)|refine aZ () ⟨?_,tv,?_⟩|refine aj.mk (λh=>?_) (λh=>?_)|refine ag.a ?_|refine zg (C:=iE) (z:=.z) (L:=vZ (λy:iW=>y.ax) x l) rfl rfl rfl fr|refine ag.mk ?_ ?_))<;>(try(refine dm.mk ?_;repeat'(first|exact tv|exact rfl|refine an ?_ ?_|refine ag.mk ?_ ?_)))
 all_goals try exact cls
 all_goals(try(refine leq ?_ ?_ <;> repeat'(first|exact tv|exact qV|exact qW|refine vq (ah (V.row _) ?_) qN|refine vq (ah V.b ?_) tv|refine jQ qN (λk hk=>?_) ?_|refine gU qN ?_ (λj hj k hk=>?_) ?_|refine an ?_ ?_)))
 all_goals first|exact rfl|exact cm qV|exact ai hj nz|(have h9:i<l.length:=om;have q:=Nz (key:=(λy:iW=>y.ax)) (x:=x) .z hi;have q2:=Ya (key:=(λy:iW=>y.ax)) (x:=x) (y:=l.getD i .z) (p:=(nS (λy:iW=>y.ax) x (l.take i)));first|omega|(rw[ZE (key:=(λy:iW=>y.ax)) (x:=x) (y:=l.getD i .z) (p:=(nS (λy:iW=>y.ax) x (l.take i))) h];first|done|(rw[bP];rfl)|(have hk:k<4:=hk;refine cm (kU rfl hj fr (λj hj=>?_));obtain rfl:j=0:=Nat.lt_one_iff.1 hj;obtain _|_|_|_|k:=k;exact qV;exact qV;exact qV;exact qV;omega))|(rw[Ur (key:=(λy:iW=>y.ax)) (x:=x) (y:=l.getD i .z) (p:=(nS (λy:iW=>y.ax) x (l.take i))) h];first|done|exact cm qV)|(rw[Xt (z:=.z) h9];first|done|(rw[bP];rfl)|(have hk:k<4:=hk;refine cm (kU rfl hj fr (λj hj=>?_));obtain rfl:j=0:=Nat.lt_one_iff.1 hj;obtain _|_|_|_|k:=k;exact qV;exact qV;exact qV;exact qV;omega)))|(have q:=Nz (key:=(λy:iW=>y.ax)) (x:=x) .z (bF l.length);rw[mM]at q;first|omega|(rw[agI (key:=(λy:iW=>y.ax)) (x:=x) (l:=l) h];first|(rw[bP];rfl)|(have hk:k<4:=hk;refine cm (kU rfl hj fr (λj hj=>?_));obtain rfl:j=0:=Nat.lt_one_iff.1 hj;obtain _|_|_|_|k:=k;exact qV;exact qV;exact qV;exact qV;omega))|(rw[agJ (key:=(λy:iW=>y.ax)) (x:=x) (l:=l) h];first|done|exact cm qV))
def aln(s:aN)(want:Int)(hn:s.aJ.length<=100000):aQ 13 [dZ s,iV want] (iV (eU (λx=>decide (x.ax=want)) 0 s.aJ)):=by
 refine ay func13 λX=>?_
 (repeat'(first|refine aC ?_|refine dU s.aJ.length (λi (a:Unit)=>⟨22,[(1,iV want),(2,.ptr 0 0),(5,iV i)],⟨[(0,.Wp 7 (λk=>.d (dW s k)))],1⟩⟩) (λi a=>eU (λx=>decide (x.ax=want)) 0 s.aJ=eU (λx=>decide (x.ax=want)) i (s.aJ.drop i)) () ?_ ?_ (λi a hi hp=>?_)|refine aZ () ⟨?_,?_,?_⟩|refine aj.mk (λh=>?_) (λh=>?_)|refine ag.a ?_|refine Fin.tell (vq (ah iV ?_) tv)|refine ag.mk ?_ ?_))<;>try exact cls
 all_goals(try(refine leq ?_ ?_ <;> repeat'(first|exact tv|exact qV|exact qW|refine fE qN ?_ ?_|refine an ?_ ?_)))
 all_goals first|exact sN|(have h9:i<s.aJ.length:=om;rw[hp,D5 .z h9];first|exact(dH h).symm|exact bG h)|(have h9:=bV h;rw[hp,qM qo];rfl)
def akQ(s:aN)(want:Int)(hn:s.opens.length<=100000):aQ 112 [dZ s,iV want] (iV (eU (λx=>decide (x.set=want)) 0 s.opens)):=by
 refine ay func112 λX=>?_
 (repeat'(first|refine aC ?_|refine dU s.opens.length (λi (a:Unit)=>⟨22,[(1,iV want),(2,.ptr 0 0),(5,iV i)],⟨[(0,.Wp 7 (λk=>.d (dW s k)))],1⟩⟩) (λi a=>eU (λx=>decide (x.set=want)) 0 s.opens=eU (λx=>decide (x.set=want)) i (s.opens.drop i)) () ?_ ?_ (λi a hi hp=>?_)|refine aZ () ⟨?_,?_,?_⟩|refine aj.mk (λh=>?_) (λh=>?_)|refine ag.a ?_|refine Fin.tell (vq (ah iV ?_) tv)|refine ag.mk ?_ ?_))<;>try exact cls
 all_goals(try(refine leq ?_ ?_ <;> repeat'(first|exact tv|exact qV|exact qW|refine fE qN ?_ ?_|refine an ?_ ?_)))
 all_goals first|exact sN|(have h9:i<s.opens.length:=om;rw[hp,D5 .z h9];first|exact(dH h).symm|exact bG h)|(have h9:=bV h;rw[hp,qM qo];rfl)
def apl(s:aN)(want:Int)(hn:s.az.length<=100000):aQ 117 [dZ s,iV want] (iV (eU (λx=>decide (x.id=want)) 0 s.az)):=by
 refine ay func117 λX=>?_
 (repeat'(first|refine aC ?_|refine dU s.az.length (λi (a:Unit)=>⟨22,[(1,iV want),(2,.ptr 0 0),(5,iV i)],⟨[(0,.Wp 7 (λk=>.d (dW s k)))],1⟩⟩) (λi a=>eU (λx=>decide (x.id=want)) 0 s.az=eU (λx=>decide (x.id=want)) i (s.az.drop i)) () ?_ ?_ (λi a hi hp=>?_)|refine aZ () ⟨?_,?_,?_⟩|refine aj.mk (λh=>?_) (λh=>?_)|refine ag.a ?_|refine Fin.tell (vq (ah iV ?_) tv)|refine ag.mk ?_ ?_))<;>try exact cls
 all_goals(try(refine leq ?_ ?_ <;> repeat'(first|exact tv|exact qV|exact qW|refine fE qN ?_ ?_|refine an ?_ ?_)))
 all_goals first|exact sN|(have h9:i<s.az.length:=om;rw[hp,D5 .z h9];first|exact(dH h).symm|exact bG h)|(have h9:=bV h;rw[hp,qM qo];rfl)
