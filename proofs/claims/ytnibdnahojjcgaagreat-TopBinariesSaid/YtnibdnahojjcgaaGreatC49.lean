/- Lemmas. -/
import Derived.Test.YtnibdnahojjcgaaGreatC45
import Derived.Test.YtnibdnahojjcgaaGreatC46
import Derived.Test.YtnibdnahojjcgaaGreatC48
namespace Go.Proofs.YtnibdnahojjcgaaGreat
set_option linter.all false
set_option maxRecDepth 100000
set_option maxHeartbeats 0
open Go.RowKit Tryz
section
attribute [local irreducible] af
section
variable {k N:Nat} {σ:Nat->Nat} {C:aH}
def abl(k:Nat)(C:aH):GS k C (λi=>i) (8*k+24)=CS k C:=ah (λl=>(⟨l,8*k+24⟩:ST)) (aio k C).symm
def NM{a n:Nat}{e:cO}(h:gB k a n C)(ha:a<=900)(hn:n<=1000000)(he:wG e):af 8 [.ptr 0 0,oL e] (CS k C) (λv t=>v=iV (jI k C e).2/\Fg k (jI k C e).1 (8*k+24) t):=by
 rw[<-abl];exact ND (VI (bF _)) h ha hn he
def al4{a n:Nat}(h:gB k a n C)(ha:a<=900)(hn:n+4001<=1000000):af 18 [.ptr 0 0] (CS k C) (λv t=>v = .top/\Fg k (qF k 4000 C) (8*k+24) t):=by
 rw[<-abl];exact SL (VI (bF _)) h ha hn
def apr{a n:Nat}{b:Int}(h:gB k a n C)(ha:a+40<=900)(hn:n+140000<=1000000)(hb : -9223372036854775808<=b):af 17 [.ptr 0 0,iV b] (CS k C) (λv t=>v=iV (CW k b C).2/\Fg k (CW k b C).1 (8*k+24) t):=by
 rw[<-abl];exact arf (VI (bF _)) h ha hn hb
end
end
section
attribute [local irreducible] af
def MF(n:Nat)(R:List (Nat×aK))(t:ST):Prop:=∃ σ M,Sg n σ M/\σ 0=0/\t=⟨iQ σ R,M⟩
def Ot{X:Cx e0}{n M nt:Nat}{σ:Nat->Nat}{R:List (Nat×aK)}{sl sl2:List (Nat×V)}(hs:Sg n σ M)(hn:0<n)(hz:σ 0=0)(hR:BD n R)(h:∀ φ:Nat->Option Nat,φ 0=some 0->Qk n φ ⟨nt,sl,⟨iQ σ R,M⟩⟩ sl2):Conv X ⟨nt,sl,⟨iQ σ R,M⟩⟩ ⟨nt,sl2,⟨R,n⟩⟩:=
 Conv.EX (MI.of hs hR.d hR.c λφ hφ=>h φ (by have:=hφ 0 hn;rwa [hz]at this))
def Px(l:List aF):D:=.sl l.length 8 (λj=>lW (l.getD j .z))
def avu{N:Nat}{g:Nat->V}{c:aF}(h0:g 0=iV 6)(h1:g 1=iV 0)(h2:g 2=iV 0)(h3:∀ k,k<8->g (k+3) = .d (lW c k)):VW N (.agg 11 g) (oL ⟨6,0,0,c⟩):=VW.agg λk hk=>by
 obtain _|_|_|k:=k
 ·exact vq h0 trivial
 ·exact vq h1 trivial
 ·exact vq h2 trivial
 ·exact vq (h3 k qO) tv
def L6{i:Nat}(h:decide ((i:Int)<3)=true):i<3:=by have:=bT h;omega
def eq3{i:Nat}(hi:i<=3)(h:decide ((i:Int)<3)=false):i=3:=by have:=bV h;omega
def aqZ{R:aH->List (Nat×aK)}{D:Nat->aH}{i:Nat}{sl:List (Nat×V)}(hR:∀ C,BD 48 (R C))(hi:i<=3)(h:decide ((i:Int)<3)=false)(h1:VW 48 (dD sl 1) (.ptr 0 0)):bf 0 ⟨86,sl,⟨R (D (3*i+1)),48⟩⟩ ⟨86,[(1,.ptr 0 0)],⟨R (D 10),48⟩⟩:=by
 obtain rfl:=eq3 hi h;exact⟨rfl,cZ _,bF _,⟨h1,tv⟩,(hR (D 10)).ob 0 rfl rfl rfl⟩
def axg{a b c d e:Bool}(ha:a=true)(hb:b=true)(hc:c=true)(hd:d=true)(he:e=true):cond (cond (cond (cond a b false) c false) d false) e false=true:=by subst ha hb hc hd he;rfl
def apq(R:aH->List (Nat×aK))(hR:∀ C,BD 48 (R C))(D:Nat->aH)(hN:af 16 [iV 3] e0 (λv t=>v=bI [.ptr 0 0,iV 0]/\t=⟨R (D 0),48⟩))(hF:af 17 [.ptr 0 0,iV 1] ⟨R (D 0),48⟩ (λv t=>v=iV 0/\MF 48 (R (D 1)) t))(hC:∀ i,i<3->af 8 [.ptr 0 0,oL (GU i)] ⟨R (D (3*i+1)),48⟩ (λv t=>v=iV 0/\MF 48 (R (D (3*i+2))) t))(hB:∀ i,i<3->af 8 [.ptr 0 0,oL (rH 2 0 0)] ⟨R (D (3*i+2)),48⟩ (λv t=>v=iV 0/\MF 48 (R (D (3*i+3))) t))(hD:∀ i,i<3->af 18 [.ptr 0 0] ⟨R (D (3*i+3)),48⟩ (λv t=>v = .top/\MF 48 (R (D (3*i+4))) t))(L:List Cal)(hK:af 19 [.ptr 0 0] ⟨R (D 10),48⟩ (λv t=>v = .d (ahB L)/\t=⟨R (D 10),48⟩))(hL:L.length=3)(h2:(L.getD 2 .z).done=true)(h3:(L.getD 2 .z).vk.n=1)(x:Sit)(hS:af 14 [.ptr 0 0,iV 0] ⟨R (D 10),48⟩ (λv t=>v=Dl x/\t=⟨R (D 10),48⟩))(hx:x.st.az.length=1)(DN:(x.st.az.getD 0 .z).chunks.length=2):af 5 [] e0 (λv t=>v = .b true/\t=e0):=by
  refine ay Tryz.func5 λX=>?_
  (repeat'(first|((with_reducible refine fP ?_);first|refine Ld (id:=2) ?_|refine Ld (id:=8) ?_|refine Ld (id:=10) ?_|refine Ld (id:=4) ?_|refine Vb (λi=>⟨86,[(1,.ptr 0 0),(3,.d (Px Ez)),(4,iV i)],⟨R (D (3*i+1)),48⟩⟩) 3 ?_ (λi hi=>?_)|refine T.le (c:=.seq (.region 11 _ _) _) ⟨86,[(1,.ptr 0 0)],⟨R (D 10),48⟩⟩ ?_ (T.seq ?_)|refine aC ?_)|((conv=>whnf);first|(with_reducible refine fP ?_)|refine wK ?_|refine af.to hN ?_|refine af.to hK ?_|refine af.to hS ?_|(refine af.mono (hF) ?_;rintro v t ⟨rfl,σ,M,hs,hz,rfl⟩)|refine Iu (Ot (nt:=86) (sl2:=[(1,.ptr 0 0),(17,.b false),(19,iV 0)]) hs qN hz (hR (D (1))) (λφ hφ=>⟨oG hφ qN,qV,qV,tv⟩)) ?_|(refine Ib (args':=[.ptr 0 0,oL (GU i)]) ⟨VW.refl qN,?_,tv⟩ (af.mono (hC i (L6 aG)) ?_);rotate_left;rintro v t ⟨rfl,σ,M,hs,hz,rfl⟩)|refine Iu (Ot (nt:=86) (sl2:=[(1,.ptr 0 0),(3,.d (Px Ez)),(4,iV i),(39,iV 0)]) hs qN hz (hR (D (3*i+2))) (λφ hφ=>⟨oG hφ qN,qV,qV,qV,tv⟩)) ?_|(refine Ib (args':=[.ptr 0 0,oL (rH 2 0 0)]) ⟨VW.refl qN,?_,tv⟩ (af.mono (hB i (L6 aG)) ?_);rotate_left;rintro v t ⟨rfl,σ,M,hs,hz,rfl⟩)|refine Iu (Ot (nt:=86) (sl2:=[(1,.ptr 0 0),(3,.d (Px Ez)),(4,iV i),(41,.b false),(44,iV 0)]) hs qN hz (hR (D (3*i+3))) (λφ hφ=>⟨oG hφ qN,qV,qV,qV,qV,tv⟩)) ?_|(refine af.mono (hD i (L6 aG)) ?_;rintro v t ⟨rfl,σ,M,hs,hz,rfl⟩)|refine Iu (Ot (nt:=86) (sl2:=[(1,.ptr 0 0),(3,.d (Px Ez)),(4,iV i)]) hs qN hz (hR (D (3*i+4))) (λφ hφ=>⟨oG hφ qN,qV,qV,tv⟩)) ?_|(refine Iu (ops:=#[_,_,_,_,_,_]) (rest:=[_,_]) (Conv.le (s2:=⟨86,[(1,.ptr 0 0),(22,jl (Ez.getD 0 .z)),(23,jl (Ez.getD 1 .z)),(25,jl (Ez.getD 2 .z))],⟨R (D 1),48⟩⟩) ⟨rfl,cZ _,nb rfl,⟨qW,VW.agg λk hk=>nN ?_,VW.agg λk hk=>nN ?_,VW.agg λk hk=>nN ?_,tv⟩,(hR (D 1)).ob 0 rfl rfl rfl⟩) (ZZ rfl rfl rfl ?_))|(refine Iu (ops:=#[_,_,_,_,_,_]) (rest:=[]) (Conv.le (s2:=⟨86,[(1,.ptr 0 0),(3,.d (Px Ez))],⟨R (D 1),48⟩⟩) ⟨rfl,cZ _,nb rfl,⟨qW,VW.sl rfl (λj hj k hk=>?_),tv⟩,(hR (D 1)).ob 0 rfl rfl rfl⟩) (TO.nil ?_))|refine TO.nil ?_|refine ZZ rfl rfl rfl ?_|refine TO.run rfl rfl ?_|refine atU rfl rfl rfl rfl ?_|refine aj.n (λh=>?_)|refine an (L6 (i:=i) aG) ?_|refine aj.mk (λh=>?_) (λh=>?_)|refine ag.a ?_|refine Fin.tell (vq (ah V.b ?_) tv)|refine ag.mk ?_ ?_)))<;>try exact cls
  all_goals first
    | (have h9:=L6 (i:=i) aG;exact⟨by omega,by show(i:Int)<3;omega⟩)
    | (have h9:=L6 (i:=i) aG;simp only[dM];omega)
    | (intro _;omega)
    | (refine dm.mk ?_;have hk:k<8:=hk;obtain _|_|_|_|_|_|_|_|k:=k <;> first|exact qV|exact pg rfl|exact VW.sl rfl (λj hj k hk=>by have hj:j<2:=hj;have hk:k<1:=hk;obtain _|_|j:=j <;> obtain _|k:=k <;> first|rfl|omega)|omega)
    | (have hj:j<3:=hj;have hk:k<8:=hk;obtain _|_|_|j:=j <;> obtain _|_|_|_|_|_|_|_|k:=k <;> first|exact rfl|omega)
    | exact⟨rfl,cZ _,nb rfl,vw,(hR (D 1)).ob 0 rfl rfl rfl⟩
    | exact⟨rfl,cZ _,nb rfl,vw,(hR (D (3*i+4))).ob 0 rfl rfl rfl⟩
    | exact aqZ hR hi aG qW
    | exact Po rfl rfl rfl rfl rfl rfl rfl rfl rfl rfl rfl
    | exact avu rfl rfl rfl (λk hk=>by obtain _|_|_|_|_|_|_|_|k:=k <;> first|rfl|omega)
    | exact axg (aX qO) h2 (aX h3) (aX qO) (aX (show(((x.st.az.getD 0 .z).chunks.length:Nat):Int)=2 by omega))
end
section
def Fg.r{k N:Nat}{D:aH}{t:ST}(h:Fg k D N t):MF (8*k+24) (CL k D) t:=by
 obtain⟨σ,M,_,hs,rfl⟩:=h;exact⟨σ,M,hs.s,hs.z,rfl⟩
def aob{a n:Nat}{C:aH}(h:gB 3 a n C)(ha:a<=1000):C.calls.length<=1000/\∀ x∈C.calls,x.c.chunks.length<=1000:=by
 obtain⟨T,hT,v,fl,g⟩:=h;exact⟨kE g.calls ha,λx hx=>(g.yj x hx).ch⟩
def ahw{i:Nat}(hi:i<3):wG (GU i):=by
 obtain _|_|_|i:=i
 ·exact⟨by decide,⟨by decide,by decide⟩,by decide⟩
 ·exact⟨by decide,⟨by decide,by decide⟩,by decide⟩
 ·exact⟨by decide,⟨by decide,by decide⟩,by decide⟩
 ·omega
def apn(c:Nat->aH)(h0:c 0=qp 3)(hf:CW 3 1 (c 0)=(c 1,0))(hc:∀ i,i<3->jI 3 (c (3*i+1)) (GU i)=(c (3*i+2),0))(hb:∀ i,i<3->jI 3 (c (3*i+2)) (rH 2 0 0)=(c (3*i+3),0))(hd:∀ i,i<3->qF 3 4000 (c (3*i+3))=c (3*i+4))(hl:(c 10).calls.length=3)(h2:((c 10).calls.getD 2 .z).done=true)(h3:((c 10).calls.getD 2 .z).vk.n=1)(hx:(iO ((c 10).at 0)).st.az.length=1)(DN:((iO ((c 10).at 0)).st.az.getD 0 .z).chunks.length=2):aQ 5 [] (.b true):=by
 have k3:3<=3/\3<=5:=by decide
 have i0:gB 3 0 0 (c 0):=by rw[h0];exact gB.new k3
 have i1:gB 3 21 80000 (c 1):=by
  have:=i0.fair (b:=1) qD qD;rw[hf]at this;exact this.up qD qD
 have ic:∀ i,i<3->gB 3 (21+2*i) (80000+5000*i) (c (3*i+1))->gB 3 (22+2*i) (80001+5000*i) (c (3*i+2)):=λi hi h=>by
  have:=h.step qO (ahw hi);rw[hc i hi]at this;exact this.up qO qO
 have ib:∀ i,i<3->gB 3 (22+2*i) (80001+5000*i) (c (3*i+2))->gB 3 (23+2*i) (80002+5000*i) (c (3*i+3)):=λi hi h=>by
  have:=h.step qO (AX (kind:=2) (a:=0) (b:=0) qD);rw[hb i hi]at this;exact this.up qO qO
 have id:∀ i,i<3->gB 3 (23+2*i) (80002+5000*i) (c (3*i+3))->gB 3 (21+2*(i+1)) (80000+5000*(i+1)) (c (3*i+4)):=λi hi h=>by
  have:=h.drain (m:=4000);rw[hd i hi]at this;exact this.up qO qO
 have iv:∀ i,i<=3->gB 3 (21+2*i) (80000+5000*i) (c (3*i+1)):=by
  intro i;induction i with
  |zero=>exact λ_=>i1
  |succ i ih=>exact λhi=>id i qO (ib i qO (ic i qO (ih qO)))
 have i10:gB 3 27 95000 (c 10):=iv 3 qD;have co:=aob i10 qD;refine apq (CL 3) (λC=>CJ (k:=3) k3) c ?_ ?_ ?_ ?_ ?_ (c 10).calls (an7 (c 10) co.1 co.2) hl h2 h3 (iO ((c 10).at 0)) (OC i10 (i:=0) qD) hx DN
 ·rw[h0];exact af0
 ·refine(apr (b:=1) i0 qD qD qD).mono λv t ⟨e1,e2⟩=>?_
  rw[hf]at e1 e2;exact⟨e1,e2.r⟩
 ·intro i hi;refine(NM (iv i qO) qO qO (ahw hi)).mono λv t ⟨e1,e2⟩=>?_
  rw[hc i hi]at e1 e2;exact⟨e1,e2.r⟩
 ·intro i hi;refine(NM (ic i hi (iv i qO)) qO qO (AX qD)).mono λv t ⟨e1,e2⟩=>?_
  rw[hb i hi]at e1 e2;exact⟨e1,e2.r⟩
 ·intro i hi;refine(al4 (ib i hi (ic i hi (iv i qO))) qO qO).mono λv t ⟨e1,e2⟩=>?_
  rw[hd i hi]at e2;exact⟨e1,e2.r⟩
def shS:Nat->aH
 |0=>VH|1=>Jj|2=>Ji|3=>LX|4=>Hq|5=>Jh|6=>LW|7=>Ho|8=>Jg|9=>LV|_=>EC
def Ik{p:aH×Int}{C:aH}(h1:p.1=C)(h2:p.2=0):p=(C,0):=by rw[<-h1,<-h2]
def p_f:CW 3 1 VH=(Jj,0):=Ik (p:=shF) rfl awm
def awx:jI 3 Jj (GU 0)=(Ji,0):=Ik (p:=ET 0 Jj) rfl auq
def awC:jI 3 Ji (rH 2 0 0)=(LX,0):=Ik (p:=EW Ji) rfl aut
def awu:qF 3 4000 LX=Hq:=(rfl:LU LX=Hq)
def aww:jI 3 Hq (GU 1)=(Jh,0):=Ik (p:=ET 1 Hq) rfl aup
def awz:jI 3 Jh (rH 2 0 0)=(LW,0):=Ik (p:=EW Jh) rfl aus
def awt:qF 3 4000 LW=Ho:=(rfl:LU LW=Ho)
def awv:jI 3 Ho (GU 2)=(Jg,0):=Ik (p:=ET 2 Ho) rfl auo
def awy:jI 3 Jg (rH 2 0 0)=(LV,0):=Ik (p:=EW Jg) rfl aur
def aws:qF 3 4000 LV=EC:=(rfl:LU LV=EC)
def p_0:VH=qp 3:=rfl
section
attribute [local irreducible] VH Jj Ji LX Hq Jh LW Ho Jg LV EC CW jI qF
def apo:aQ 5 [] (.b true):=by
 refine apn shS p_0 p_f ?_ ?_ ?_ awk awn awj awi awl
 ·intro i hi;obtain _|_|_|i:=i
  ·exact awx
  ·exact aww
  ·exact awv
  ·omega
 ·intro i hi;obtain _|_|_|i:=i
  ·exact awC
  ·exact awz
  ·exact awy
  ·omega
 ·intro i hi;obtain _|_|_|i:=i
  ·exact awu
  ·exact awt
  ·exact aws
  ·omega
end
end
