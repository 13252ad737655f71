import Derived.Test.YtoeaoedlpmohoaaGreatTN2
import Derived.Test.YtoeaoedlpmohoaaGreatTM
import Derived.Test.YtoeaoedlpmohoaaGreatTQ
set_option linter.all false
set_option maxRecDepth 100000
set_option maxHeartbeats 4000000
namespace Go.Run
open Go.Ab Go.Proofs Tryz Go.Gat Go.Nam Go.Hos Go.Con Go.Sna Go.Pla Go.Ply Go.Wor
open Go.Hy hiding encI
abbrev pA(op:List fA)(l:List C):List C:=.za::.za::Bo false:: .za::.ref 1 [] 8 0 0:: .za::lA op:: .za::l
abbrev pB:List C:=tZ (jp (jp (jp (tZ (tZ [])))))
def yE{b:Bool}{P Q:Prop}(e:b=true)(k:P):(b=true->P)/\(b=false->Q):=⟨λ_=>k,λh=>absurd (e.symm.trans h) ar⟩
def yG{α β:Type}{l:List α}{f:α->β}{x:α}{i:Nat}{h:i<l.length}(e:x=l[i]):(l.map f)[i]?=some (f x):=by rw[gf,dX h,e];rfl
def nE(l:List En):Nat:=(l.map λe=>e.zi.toNat).sum
def nG(l:List Gr):Nat:=(l.map λg=>nE g.ends).sum
def nV(l:List fp):Nat:=(l.map λv=>nG v.zo).sum
def nL(l:List fI):Nat:=(l.map λx=>x.zi.toNat).sum
def Gn{α:Type}(f:α->Nat){l:List α}{i:Nat}(h:i<l.length):((l.take (i+1)).map f).sum=((l.take i).map f).sum+f l[i]:=by
 rw[pS h,pE,sF,List.map_singleton,List.sum_singleton]
def FB{α:Type}(f:α->Nat)(l:List α)(i:Nat):((l.take i).map f).sum<=(l.map f).sum:=by
 have:=rq (λl=>(l.map f).sum) (rX i l);simp only[pE,sF]at this;omega
def ON{a n:Nat}{x:Int}(h0:0<=x)(he:a+x.toNat=n)(hb:n<=1000000):IntKind.i64.wrap ((a:Int)+x)=(n:Int):=by
 rw[jx aw aw];omega
def Xq{w:Wor}(gw:jK w){v:fp}(hv:v∈w.zd){g:Gr}(hg:g∈v.zo){e:En}(he:e∈g.ends):Slp.fE e=true:=by
 obtain⟨i,hi⟩:=gE.1 hv;obtain⟨j,hj⟩:=gE.1 hg;have G:=(gw.fM i v hi).1;have jl:=(dW.1 hj).1;exact((G.Aw j g _ hj (dX (by have:=G.len;omega))).2 e he).is
def safeGauges_sound(s:fR)(hs:s.ot):tj 7 [] [.agg (wi s)] (Bo true) []:=by
 refine ab func7 ?_;refine ah (Mh s (JL hs)) ?_;refine⟨λh0=>?_,λh0=>?_⟩
 ·refine dd ?_;refine hZ ?_;exact uI
 have ok:=Pn h0 hs;refine dd ?_;rw[gu];refine⟨λh1=>?_,λh1=>?_⟩
 ·refine dd ?_;refine hZ ?_;exact uI
 have b1:s.zQ.length<=1000:=b8
 refine dd ?_
 have bl:(zY s).1.length<=1000:=by
  by_cases q:(zY s).2.2=0
  ·have:=(Fw ok q).2.1;omega
  ·rw[(FD q).1];decide
 refine ah (Fg s ok) ?_;have key:=MS ok;have ji:=Nf ok;have opn:=Saf.DI (zY s).1 aw;have nK:=LK (l:=(zY s).1);have rt:(zY s).2.2=0->(Cal.ib (zY s).1).2=0:=λh=>(Fw ok h).1
 have nok:(zY s).2.2≠0->(zY s).1=[]:=λh=>(FD h).1
 generalize zY s=p at *;obtain⟨l,w,e⟩:=p;dsimp only at *;by_cases q:e=0
 ·subst q;have key:=key J;have ji:=ji J;have rt:=rt J;have nK:=nK rt;generalize Cal.ib l=oc at *;obtain⟨cs,f⟩:=oc;dsimp only at *;subst rt;rw[dZ ar]at opn;have ol:=Saf.NF cs aw;rw[<-Saf.F6]at ol;refine ah opn ?_;refine⟨λh4=>?_,λh4=>?_⟩
  ·obtain⟨k0,k1,k2,k3,k4,k5,k6,k7⟩:=key h4;generalize Saf.yP cs=op at *;obtain⟨gw,tw⟩:=ji;have hk:=Jh gw tw ar;have:=hk.lens;have:=(qi.1 gw.ground).pins;have:=tw.fC;refine dd ?_;refine hZ ?_
   have oL:op.length<=1000000:=ol;have k9:nV w.zd=op.length:=k1;have k8:nL w.ze=op.length:=k2;refine qe.seq w.zd.length (λi=>(pA op (I (nV (w.zd.take i):Nat)::I i:: .za::.za::.za::.za::.za::.za::pB))) (λi=>[oS s,oW w]) (λi=>True) ?_ trivial (λi hi _=>?_) (λ_=>?_)
   ·exact cE 2
   ·obtain⟨v,hx⟩:∃v,v=w.zd[i]:=⟨_,rfl⟩;have hg:=yG (f:=zH) hx
    have:=hk.lg v b9;have tv:nV (w.zd.take (i+1))=nV (w.zd.take i)+nG v.zo:=by rw[hx];exact Gn (λv=>nG v.zo) hi
    have:nV (w.zd.take (i+1))<=op.length:=by rw[<-k1];exact FB _ _ _
    (conv=>whnf);rw[gu];refine uF ?_;refine qe.seq v.zo.length (λk=>(pA op (I (nV (w.zd.take i)+nG (v.zo.take k):Nat)::I i::I k:: .za::.za::.za::.za::.za::pB))) (λk=>[oS s,oW w]) (λk=>True) ?_ trivial (λk hn _=>?_) (λ_=>?_)
    ·exact cE 2
    ·obtain⟨g,hy⟩:∃g,g=v.zo[k]:=⟨_,rfl⟩;have hgg:=yG (f:=zE) hy
     have:=hk.le v b9 g (by rw[hy];exact gU hn);have tg:nG (v.zo.take (k+1))=nG (v.zo.take k)+nE g.ends:=by rw[hy];exact Gn (λg=>nE g.ends) hn
     have:nG (v.zo.take (k+1))<=nG v.zo:=FB _ _ _;(conv=>whnf);refine tc hg ?_;rw[gu];refine uF ?_;refine qe.seq g.ends.length (λm=>(pA op (I (nV (w.zd.take i)+nG (v.zo.take k)+nE (g.ends.take m):Nat)::I i::I k::I m:: .za::.za::.za::.za::pB))) (λm=>[oS s,oW w]) (λm=>True) ?_ trivial (λm hm _=>?_) (λ_=>?_)
     ·exact cE 2
     ·obtain⟨e,hz⟩:∃e,e=g.ends[m]:=⟨_,rfl⟩;have hge:=yG (f:=zA) hz
      have:nE (g.ends.take (m+1))=nE (g.ends.take m)+e.zi.toNat:=by rw[hz];exact Gn (λe=>e.zi.toNat) hm
      have:nE (g.ends.take (m+1))<=nE g.ends:=FB _ _ _;have e0:0<=e.zi:=(Slp.o6 (Xq gw (v:=v) (g:=g) b9 (by rw[hy];exact gU hn) (by rw[hz];exact gU hm))).2.2.2;(conv=>whnf);refine tc hg ?_;refine tc hgg ?_;rw[gu];refine uF ?_;refine tc hg ?_;refine tc hgg ?_;refine tc hge ?_;refine .inl ⟨rfl,?_,trivial⟩;rw[zw aw,ON (n:=nV (w.zd.take i)+nG (v.zo.take k)+nE (g.ends.take (m+1))) e0 aw aw];exact cE 2
     ·(conv=>whnf);refine tc hg ?_;refine tc hgg ?_;rw[gu];refine uD ?_;refine .inl ⟨rfl,?_,trivial⟩;rw[zw aw,gZ,Nat.add_assoc,<-tg];exact cE 2
    ·(conv=>whnf);refine tc hg ?_;rw[gu];refine uD ?_;refine .inl ⟨rfl,?_,trivial⟩;rw[zw aw,gZ,<-tv];exact cE 2
   ·(conv=>whnf);rw[gu];refine uD ?_;rw[gZ];refine qe.seq w.ze.length (λi=>(pA op (I (nV w.zd:Nat):: .za::.za::.za::I (nL (w.ze.take i):Nat)::I i:: .za::.za::pB))) (λi=>[oS s,oW w]) (λi=>True) ?_ trivial (λi hi _=>?_) (λ_=>?_)
    ·exact cE 2
    ·obtain⟨x,hx⟩:∃x,x=w.ze[i]:=⟨_,rfl⟩;have hg:=yG (f:=qP) hx
     have:nL (w.ze.take (i+1))=nL (w.ze.take i)+x.zi.toNat:=by rw[hx];exact Gn (λx=>x.zi.toNat) hi
     have:nL (w.ze.take (i+1))<=op.length:=by rw[<-k2];exact FB _ _ _
     have x0:0<=x.zi:=(D7 (gw.fC i x (by rw[hx];exact dX hi)).1).2.1;(conv=>whnf);rw[gu];refine uF ?_;refine tc hg ?_;refine .inl ⟨rfl,?_,trivial⟩;rw[zw aw,ON (n:=nL (w.ze.take (i+1))) x0 aw aw];exact cE 2
    ·(conv=>whnf);rw[gu];refine uD ?_;rw[gZ];refine qe.seq w.pins.length (λi=>(pA op (I (nV w.zd:Nat):: .za::.za::.za::I (nL w.ze:Nat):: .za::I i:: .za::pB))) (λi=>[oS s,oW w]) (λi=>True) ?_ trivial (λi hi _=>?_) (λ_=>?_)
     ·exact cE 2
     ·have hg:(w.pins.map Go.Hy.encI)[i]?=some (Go.Hy.encI 0):=by rw[gf,dX hi,k4 _ (gU hi)];rfl
      (conv=>whnf);rw[gu];refine uF ?_;refine tc hg ?_;refine hZ ?_
      refine .inl ⟨rfl,?_,trivial⟩;rw[zw aw];exact cE 2
     ·(conv=>whnf);rw[gu];refine uD ?_;refine ah Saf.yS ?_;refine hZ ?_
      rw[gu,k9,k8];have elk:(w.lock == 0)=true:=by rw[k3];rfl
      refine yE aj (dd ?_);rw[gu];refine yE aj (dd ?_);refine yE elk (dd ?_);exact uI
  ·refine dd ?_;refine hZ ?_;exact du
 ·have hl:=nok q;subst hl;rw[dZ ar]at opn;have qb:(e != 0)=true:=by simpa using q
  refine ah opn ?_;refine⟨λh4=>?_,λh4=>?_⟩
  ·refine dd ?_;refine yE qb (dd ?_);refine hZ ?_;exact du
  ·refine dd ?_;refine yE qb (dd ?_);refine hZ ?_;exact du
end Go.Run
