import Derived.Test.YtoeaoedlpmohoaaGreatSN3
import Derived.Test.YtoeaoedlpmohoaaGreatSR
import Derived.Test.YtoeaoedlpmohoaaGreatSM
import Derived.Test.YtoeaoedlpmohoaaGreatSQ
set_option linter.all false
set_option maxRecDepth 100000
set_option maxHeartbeats 4000000
namespace Go.Run
open Go.Ab Go.Proofs Tryz Go.Gat Go.Nam Go.Hos Go.Con Go.Sna Go.Pla Go.Ply Go.Wor
open Go.Hy hiding encI
def Dw(w:Wor)(o:lX)(i j k:Int)(R:List Int):Prop:=(0<=i/\0<=j)/\∃v c,w.zd[i.toNat]?=some v/\v.snap.zm[j.toNat]?=some c/\(c.xq=1->R=[])/\
 (c.xq≠1->(xu c o.d0 o.d1).2.2=0/\∃a b,R=[a,b]/\k=if b<a then (xu c o.d0 o.d1).2.1 else (xu c o.d0 o.d1).1)
def Hh(w:Wor)(m:lh):Prop:=∃v c,w.zd[m.version.toNat]?=some v/\v.snap.zm[m.zi.toNat]?=some c/\c.xq≠1/\(xu c m.op.d0 m.op.d1).2.2=0/\m.end_=(xu c m.op.d0 m.op.d1).1/\m.other=(xu c m.op.d0 m.op.d1).2.1
structure Aa(w:Wor)(m:lh)(R:List Int):Prop where
 e5:m.pc<=5->R=[]
 e6:m.pc=6->R=[]/\∃v c,w.zd[m.version.toNat]?=some v/\v.snap.zm[m.zi.toNat]?=some c/\c.xq=1
 e7:m.pc=7->R=[]/\Hh w m
 e8:m.pc=8->R=[m.i]/\Hh w m
 e9:9<=m.pc/\m.pc<=12->Dw w m.op m.version m.zi m.end_ R
 Jr:20<=m.pc->m.answer.kind=1->Dw w m.op m.answer.version m.answer.zi m.answer.end_ R
section
variable {w:Wor} {m:lh} {R:List Int}
def Fg(h:m.pc<=5)(hR:R=[]):Aa w m R:=⟨λ_=>hR,λz=>absurd z aw,λz=>absurd z aw,λz=>absurd z aw,λz=>absurd z aw,λz=>absurd z aw⟩
def Xd(h:m.pc=6)(hR:R=[]/\∃v c,w.zd[m.version.toNat]?=some v/\v.snap.zm[m.zi.toNat]?=some c/\c.xq=1):Aa w m R:=⟨λz=>absurd z aw,λ_=>hR,λz=>absurd z aw,λz=>absurd z aw,λz=>absurd z aw,λz=>absurd z aw⟩
def Xe(h:m.pc=7)(hR:R=[]/\Hh w m):Aa w m R:=⟨λz=>absurd z aw,λz=>absurd z aw,λ_=>hR,λz=>absurd z aw,λz=>absurd z aw,λz=>absurd z aw⟩
def Xf(h:m.pc=8)(hR:R=[m.i]/\Hh w m):Aa w m R:=⟨λz=>absurd z aw,λz=>absurd z aw,λz=>absurd z aw,λ_=>hR,λz=>absurd z aw,λz=>absurd z aw⟩
def FX(h:9<=m.pc/\m.pc<=12)(hR:Dw w m.op m.version m.zi m.end_ R):Aa w m R:=⟨λz=>absurd z aw,λz=>absurd z aw,λz=>absurd z aw,λz=>absurd z aw,λ_=>hR,λz=>absurd z aw⟩
def JD(h:20<=m.pc)(hR:m.answer.kind=1->Dw w m.op m.answer.version m.answer.zi m.answer.end_ R):Aa w m R:=⟨λz=>absurd z aw,λz=>absurd z aw,λz=>absurd z aw,λz=>absurd z aw,λz=>absurd z aw,λ_=>hR⟩
def IM{n:Int}(h:n≠1):Aa w (BB m n) R:=JD cL λz=>absurd (show n=1 from z) h
end
def BT(e:lD):List Int:=if e.cell=7/\e.access=1 then [e.value] else []
def Q3{e:lD}(h:e.cell≠7\/e.access≠1):BT e=[]:=pw aw
def WI{e:lD}(h:e.cell=7)(h2:e.access=1):BT e=[e.value]:=pA ⟨h,h2⟩
def DT(w:Wor)(m:lh)(R:List Int)(r:Wor×lh×lD):Prop:=(r.2.1.done=false->Aa w r.2.1 (R++BT r.2.2))/\(r.2.1.done=true->r.2.1.answer.kind=1->Dw w m.op r.2.1.answer.version r.2.1.answer.zi r.2.1.answer.end_ (R++BT r.2.2))
def PZ{w w':Wor}{m m':lh}{R:List Int}{e:lD}(hd:m'.done=false)(h:Aa w m' (R++BT e)):DT w m R (w',m',e):=⟨λ_=>h,λz=>absurd (hd.symm.trans z) ar⟩
def As{w w':Wor}{m m':lh}{R:List Int}{e:lD}(hd:m'.done=false)(h:Aa w m' R)(hc:e.cell≠7\/e.access≠1:=by exact pF au):DT w m R (w',m',e):=PZ hd (by rw[Q3 hc,rK];exact h)
def Ls{α:Type}{w:Wor}{m:lh}{R:List Int}{o:Option α}{f:α->Wor×lh×lD}{r:Wor×lh×lD}(h:o.map f=some r)(hf:∀x,DT w m R (f x)):DT w m R r:=by
 obtain⟨x,_,rfl⟩:=pS.1 h;exact hf x
def Pn{w:Wor}{m:lh}{R:List Int}{f:mj->Wor×lh×lD}{r:Wor×lh×lD}(h:vW w m f=some r)(hf:∀x,DT w m R (f x)):DT w m R r:=by
 unfold vW at h;rcases zq h with h|h
 ·cases h
 ·exact Ls h hf
def zxV{w:Wor}{m:lh}{v:lJ}(hv:w.zd[m.version.toNat]?=some v)(hp:m.pc=5):Aa w (xe m v) []:=by
 unfold xe;split
 ·exact IM ar
 ·split
  ·exact Fg aw O
  ·rename_i c hc;split
   ·exact IM ar
   ·rename_i hd;split
    ·rename_i hq;exact Xd O ⟨rfl,v,c,hv,hc,hq⟩
    ·rename_i hq;exact Xe O ⟨rfl,v,c,hv,hc,hq,Decidable.not_not.1 hd,rfl,rfl⟩
def zvl{w:Wor}{m:lh}{v:lJ}{g:Gr}{e:En}{R:List Int}{r:Wor×lh×lD}(hv:w.zd[m.version.toNat]?=some v)(hn:0<=m.version/\0<=m.zi)(hd:m.done=false)(lm:Aa w m R)(h:zY w m v g e=some r):DT w m R r:=by
 unfold zY at h;rcases zA h with⟨p,h⟩|⟨_,h⟩
 ·have hR:=lm.e5 aw;unfold AN at h;rcases zA h with⟨q,h⟩|⟨_,h⟩
  ·obtain rfl:=pz h;exact As hd (Fg (pF au) hR)
  rcases zA h with⟨q,h⟩|⟨_,h⟩
  ·obtain rfl:=pz h;exact As hd (Fg (pF au) hR)
  rcases zA h with⟨q,h⟩|⟨_,h⟩
  ·obtain rfl:=pz h;exact As hd (Fg (by dsimp only;split <;> decide) hR)
  ·cases h
 rcases zA h with⟨p,h⟩|⟨_,h⟩
 ·obtain rfl:=pz h;have hR:=lm.e5 aw;split
  ·exact As hd (IM ar)
  ·exact As hd (Fg (pF au) hR)
 rcases zA h with⟨p,h⟩|⟨_,h⟩
 ·have hR:=lm.e5 aw;exact Pn h λx=>As hd (Fg (pF au) hR)
 rcases zA h with⟨p,h⟩|⟨_,h⟩
 ·have hR:=lm.e5 aw;refine Pn h λx=>?_
  by_cases q:x.drain=true
  ·rw[pA q,pA q];exact As hd (IM ar)
  ·rw[pw q,pw q];refine As ?_ ?_
   ·unfold xe;repeat' split
    all_goals exact hd
   ·rw[hR];exact zxV hv p
 rcases zA h with⟨p,h⟩|⟨_,h⟩
 ·obtain⟨hR,v0,c0,z1,z2,z3⟩:=lm.e6 p;exact Ls h λc=>As hd (FX (pF au) ⟨hn,v0,c0,z1,z2,λ_=>hR,λz=>absurd z3 z⟩)
 rcases zA h with⟨p,h⟩|⟨_,h⟩
 ·obtain⟨hR,tw⟩:=lm.e7 p;obtain rfl:=pz h;refine PZ hd (Xf O ⟨?_,tw⟩);rw[hR,WI O O]
  rfl
 rcases zA h with⟨p,h⟩|⟨_,h⟩
 ·obtain⟨hR,v0,c0,z1,z2,z3,z4,z5,z6⟩:=lm.e8 p;refine Ls h λe2=>PZ hd (FX (pF au) ⟨hn,v0,c0,z1,z2,λz=>absurd z z3,λ_=>⟨z4,m.i,e2.zj,?_,?_⟩⟩)
  ·rw[hR,WI O O]
   rfl
  ·dsimp only;rw[z5,z6]
 rcases zA h with⟨p,h⟩|⟨_,h⟩
 ·have ch:=lm.e9 aw;obtain rfl:=pz h;split
  ·exact As hd (FX (pF au) ch)
  ·exact As hd (IM ar)
 rcases zA h with⟨p,h⟩|⟨_,h⟩
 ·have ch:=lm.e9 aw;exact Ls h λx=>As hd (FX (pF au) ch)
 rcases zA h with⟨p,h⟩|⟨_,h⟩
 ·have ch:=lm.e9 aw;rcases zq h with h|h
  ·obtain rfl:=pz h;exact As hd (FX (pF au) ch)
  ·obtain rfl:=pz h;exact As hd (FX (pF au) ch)
 rcases zA h with⟨p,h⟩|⟨_,h⟩
 ·have ch:=lm.e9 aw;obtain rfl:=pz h;exact As hd (JD (pF au) λ_=>ch)
 have nW:∀{k p:Int} {r:Wor×lh×lD},20<=m.pc->20<=p->xQ w m k p=some r->DT w m R r:=λh20 hp h=>by
  have ch:=lm.Jr h20;unfold xQ at h;split at h
  ·cases h
  ·split at h
   ·cases h
   ·obtain rfl:=pz h;exact As hd (JD hp ch)
 rcases zA h with⟨p,h⟩|⟨_,h⟩
 ·exact nW aw ar h
 rcases zA h with⟨p,h⟩|⟨_,h⟩
 ·exact nW aw (by split <;> decide) h
 rcases zA h with⟨p,h⟩|⟨_,h⟩
 ·have ch:=lm.Jr aw;exact Pn h λx=>As hd (JD (pF au) ch)
 rcases zA h with⟨p,h⟩|⟨_,h⟩
 ·have ch:=lm.Jr aw;obtain rfl:=pz h;refine⟨λz=>absurd (show true=false from z) ar,λ_ hk=>?_⟩;rw[Q3 (pF au),rK];exact ch hk
 ·cases h
def Dw.keep{w w':Wor}{p:Key->Nat}(kp:xn w w' p){o:lX}{i j k:Int}{R:List Int}(h:Dw w o i j k R):Dw w' o i j k R:=by
 obtain⟨hn,v,c,h1,h2,h3,h4⟩:=h;obtain⟨v',hv'⟩:∃v',w'.zd[i.toNat]?=some v':=⟨_,pa (by have:=(gZ.1 h1).1;have:=kp.wC;omega)⟩;exact⟨hn,v',c,hv',by rw[(kp.my _ v v' h1 hv').snap];exact h2,h3,h4⟩
def Aa.keep{w w':Wor}{p:Key->Nat}(kp:xn w w' p){m:lh}{R:List Int}(h:Aa w m R):Aa w' m R:=by
 have at_:∀{i:Nat} {v:lJ},w.zd[i]?=some v->∃v',w'.zd[i]?=some v'/\v'.snap=v.snap:=λ{i v} h1=>by
  obtain⟨v',hv'⟩:∃v',w'.zd[i]?=some v':=⟨_,pa (by have:=(gZ.1 h1).1;have:=kp.wC;omega)⟩;exact⟨v',hv',(kp.my _ v v' h1 hv').snap⟩
 have two:Hh w m->Hh w' m:=λ⟨v,c,h1,h2,h3⟩=>by
  obtain⟨v',a,b⟩:=at_ h1;exact⟨v',c,a,by rw[b];exact h2,h3⟩
 exact⟨h.e5,λz=>⟨(h.e6 z).1,by obtain⟨v,c,h1,h2,h3⟩:=(h.e6 z).2;obtain⟨v',a,b⟩:=at_ h1;exact⟨v',c,a,by rw[b];exact h2,h3⟩⟩,
  λz=>⟨(h.e7 z).1,two (h.e7 z).2⟩,λz=>⟨(h.e8 z).1,two (h.e8 z).2⟩,λz=>(h.e9 z).keep kp,λz k=>(h.Jr z k).keep kp⟩
def Fj(t:Int)(e:lD):Bool:=decide (e.zg=t) && (decide (e.cell=7) && decide (e.access=1))
def nX(l:List lD)(t:Int)(f:Nat):List Int:=((l.drop f).filter (Fj t)).map (·.value)
def OA{l:List lD}{t:Int}{f:Nat}(e:lD)(h:f<=l.length):nX (l++[e]) t f=nX l t f++if e.zg=t then BT e else []:=by
 unfold nX;rw[List.drop_append_of_le_length h,ez,rD]
 congr 1
 by_cases q:e.zg=t
 ·rw[pA q];unfold BT;by_cases z:e.cell=7/\e.access=1
  ·rw[pA z];have:Fj t e=true:=by unfold Fj;simp[q,z.1,z.2]
   rw[eZ,this]
   rfl
  ·rw[pw z]
   have:Fj t e=false:=by
    unfold Fj;cases y:decide (e.zg=t) && (decide (e.cell=7) && decide (e.access=1)) with
    |false=>rfl
    |true=>
     simp only[pG,pQ]at y;exact absurd y.2 z
   rw[eZ,this]
   rfl
 ·rw[pw q];have:Fj t e=false:=by unfold Fj;simp[q]
  rw[eZ,this]
  rfl
structure LI(s:Wor.mS):Prop where
 tr:Tr s
 rd:∀(t:Nat) (x:lW),s.2.1[t]?=some x->x.on=true->x.m.op.kind=1->∃(f:Nat) (e:lD),s.2.2[f]?=some e/\e.qY=true/\e.zg=(t:Int)/\e.op=x.done/\Aa s.1 x.m (nX s.2.2 t f)
 fin:∀(τ:Nat) (e:lD),s.2.2[τ]?=some e->e.done=true->e.answer.kind=1->∃(f:Nat) (e0:lD) (t:Nat) (x:lW) (o:lX),f<=τ/\s.2.2[f]?=some e0/\e0.qY=true/\e0.zg=e.zg/\e0.op=e.op/\
  e.zg=(t:Int)/\s.2.1[t]?=some x/\0<=e.op/\x.ops[e.op.toNat]?=some o/\Dw s.1 o e.answer.version e.answer.zi e.answer.end_ (nX (s.2.2.take (τ+1)) t f)
def OD(x:lW)(m:lh):(Wor.qq x m).ops=x.ops:=by unfold Wor.qq;split <;> rfl
def Ym{N K:Nat}{s:Wor.mS}(gi:GI N K s.1 s.2.1)(li:LI s)(p:Int)(hN:N<=100000000)(hK:K<=1099511627776):LI (yl s p):=by
 rcases jy gi p hN hK with⟨_,e⟩|⟨t,x,o,r,hat,hx,ho,hsu,htm,hst,_,e,gi2⟩
 ·rw[e];exact li
 ·rw[e];obtain⟨v,g,en,su,lc,nc⟩:=OI gi hx ho hN hK hst;have tl:=w6 su.done hst;have nt:=vO o gi hx;have no:=C4 gi hx ho;have eth:r.2.2.zg=(t:Int):=tl.2.2.trans nt;have hl:=(gZ.1 hx).1;have nwt:BT (vq r.2.2 x)=BT r.2.2:=rfl
  have rdm:o.kind=1->∃f,f<=s.2.2.length/\(∃e:lD,(s.2.2++[vq r.2.2 x])[f]?=some e/\e.qY=true/\e.zg=(t:Int)/\e.op=x.done)/\Aa s.1 (z8 x t o) (nX s.2.2 t f):=λhk=>by
   cases hon:x.on with
   |true=>
    have en:z8 x t o=x.m:=aX
    rw[en];rw[en]at no;obtain⟨f,e1,p1,p2,p3,p4,p5⟩:=li.rd t x hx hon (by rw[no];exact hk);exact⟨f,eC (gZ.1 p1).1,⟨e1,xx _ p1,p2,p3,p4⟩,p5⟩
   |false=>
    refine⟨s.2.2.length,pI _,⟨_,yy _ _,cQ,eth,rfl⟩,?_⟩;have en:z8 x t o=Beg.xC t o x.given:=aX
    rw[en,vX aw];refine Fg (by show(0:Int)<=5;decide) ?_;unfold nX;rw[List.drop_length]
    rfl
  have stp:∀f,o.kind=1->f<=s.2.2.length->Aa s.1 (z8 x t o) (nX s.2.2 t f)->DT s.1 (z8 x t o) (nX s.2.2 t f) r/\nX (s.2.2++[vq r.2.2 x]) t f=nX s.2.2 t f++BT r.2.2:=λf hk hf lm=>by
   refine⟨?_,?_⟩
   ·rcases ky su hst with⟨k,h⟩|⟨k,_⟩|⟨k,_⟩|⟨k,_⟩|⟨k,_⟩|⟨k,_⟩
    ·exact zvl su.mu ⟨su.version.1,su.zi.1⟩ su.done lm h
    all_goals (rw[no]at k;omega)
   ·rw[OA _ hf,nwt];have:(vq r.2.2 x).zg=(t:Int):=eth;rw[pA this]
  refine⟨K5 li.tr hx eth,λt' x' h1 h2 h3=>?_,λτ e1 h1 h2 h3=>?_⟩
  ·dsimp only at h1 ⊢;by_cases q:t=t'
   ·subst q;have gx:(s.2.1.set t (Wor.qq x r.2.1))[t]?=some (Wor.qq x r.2.1):=pC hl;rw[gx]at h1;cases h1
    have nd:r.2.1.done=false:=by
     cases z:r.2.1.done with
     |false=>rfl
     |true=>rw[Wor.yN z]at h2;cases h2
    rw[xI nd]at h3 ⊢;dsimp only at h3 ⊢;have hk:o.kind=1:=cN
    obtain⟨f,f1,⟨e3,q1,q2,q3,q4⟩,q5⟩:=rdm hk;obtain⟨s1,s2⟩:=stp f hk f1 q5;refine⟨f,e3,q1,q2,q3,q4,?_⟩;rw[s2];exact(s1.1 nd).keep nc.keep
   ·rw[pX q]at h1;obtain⟨f,e3,q1,q2,q3,q4,q5⟩:=li.rd t' x' h1 h2 h3;refine⟨f,e3,xx _ q1,q2,q3,q4,?_⟩;rw[OA _ (eC (gZ.1 q1).1)];have:¬(vq r.2.2 x).zg=(t':Int):=λz=>q (by have z:r.2.2.zg=(t':Int):=z;omega)
    rw[pw this,rK];exact q5.keep nc.keep
  ·dsimp only at h1 ⊢;rcases xB h1 with⟨l1,h1⟩|⟨rfl,rfl⟩
   ·obtain⟨f,e0,t',x',o',q1,q2,q3,q4,q5,q6,q7,q8,q9,q10⟩:=li.fin τ e1 h1 h2 h3;rw[vT _ aw];by_cases q:t=t'
    ·subst q;rw[hx]at q7;cases q7
     exact⟨f,e0,t,_,o',q1,xx _ q2,q3,q4,q5,q6,pC hl,q8,by rw[OD];exact q9,q10.keep nc.keep⟩
    ·exact⟨f,e0,t',x',o',q1,xx _ q2,q3,q4,q5,q6,by rw[pX q];exact q7,q8,q9,q10.keep nc.keep⟩
   ·have dn:r.2.1.done=true:=by rw[<-tl.1];exact h2
    have ea:(vq r.2.2 x).answer=r.2.1.answer:=tl.2.1 dn;rw[ea]at h3 ⊢
    have hk:o.kind=1:=by
     rw[<-no,<-nc.op];rcases nc.go with⟨_,z⟩|⟨_,_,_,z,_⟩
     ·rcases z with⟨z,_⟩|⟨_,z⟩|⟨_,_,z⟩
      ·exact z
      ·exfalso
       rcases z with⟨z,_⟩|⟨z,_⟩
       ·rw[z]at h3;exact absurd (show(6:Int)=1 from h3) ar
       ·rw[z]at h3;exact absurd (show(7:Int)=1 from h3) ar
      ·have:=z.1;omega
     ·have:=z.done;rw[dn]at this;cases this
    obtain⟨f,f1,⟨e3,q1,q2,q3,q4⟩,q5⟩:=rdm hk;obtain⟨s1,s2⟩:=stp f hk f1 q5;refine⟨f,e3,t,_,o,f1,q1,q2,q3.trans eth.symm,q4,eth,pC hl,by show(0:Int)<=(x.done:Int);omega,?_,?_⟩
    ·rw[OD];show x.ops[((x.done:Int)).toNat]?=_;rw[rA];exact ho
    ·rw[um (l:=s.2.2++[vq r.2.2 x]) aj,s2];have:=s1.2 dn h3;rw[no]at this;exact this.keep nc.keep
def QV{N K:Nat}{s:Wor.mS}(gi:GI N K s.1 s.2.1)(li:LI s)(l:List Int):∀k,k<=l.length->N+k<=100000000->K+k<=1099511627776->LI (mY s l k)
 |0,_,_,_=>li
 |k+1,hk,hN,hK=>by
  have ih:=QV gi li l k aw aw aw;rw[xX (pa aw)];exact Ym (kB gi l k aw aw aw) ih _ aw aw
def WL{N K:Nat}{s:Wor.mS}(gi:GI N K s.1 s.2.1)(l:List Int):∀k,k<=l.length->N+k<=100000000->K+k<=1099511627776->(mY s l k).2.1.map (·.ops)=s.2.1.map (·.ops)
 |0,_,_,_=>rfl
 |k+1,hk,hN,hK=>by
  have ih:=WL gi l k aw aw aw;rw[xX (pa aw)];rcases jy (kB gi l k aw aw aw) l[k] aw aw with⟨_,e⟩|⟨t,x,o,r,_,hx,_,_,_,_,_,e,_⟩
  ·rw[e];exact ih
  ·rw[e];show(List.set _ t (Wor.qq x r.2.1)).map (·.ops)=_;rw[r6,OD,vS (by rw[pj,hx];rfl)];exact ih
def zvm{s:mb}(ok:kL s)(h:(zK s).2.2=0)(hf:(Cal.l8 (zK s).1).2=0):∀c∈(Cal.l8 (zK s).1).1,0<=c.mK->c.answer.kind=1->
  0<=c.from_/\c.from_<=c.mK/\c.mK<(zK s).1.length/\∃(t:Nat) (L:List lX) (o:lX),c.zg=(t:Int)/\s.threads[t]?=some L/\0<=c.op/\L[c.op.toNat]?=some o/\
   Dw (zK s).2.1 o c.answer.version c.answer.zi c.answer.end_ (nX ((zK s).1.take (c.mK.toNat+1)) c.zg c.from_.toNat):=by
 have hb:=ku h;have e1:zK s=((qU s).2.2,(qU s).1,0):=cO
 obtain⟨q,_⟩:=jQ hb;obtain⟨_,_,_,p4,_,_⟩:=xg q
 have l0:LI (nu s):=by
  refine⟨Ku _ _,λt x h1 h2=>?_,λτ e1 h1=>by cases h1⟩;obtain⟨L,_,rfl⟩:=pS.1 ((pj ..).symm.trans (show(s.threads.map wA)[t]?=some x from h1));cases h2
 have li:LI (qU s):=QV (xY ok hb) l0 s.zP s.zP.length (pI _) aw aw;have ops:=WL (xY ok hb) s.zP s.zP.length (pI _) aw aw;rw[e1]at hf ⊢;dsimp only at hf ⊢;intro c hc hto hk;unfold Cal.l8 at hf hc;cases hbk:Cal.vE (qU s).2.2 (qU s).2.2.length with
 |none=>rw[hbk]at hf;cases hf
 |some b=>
  rw[hbk]at hc;dsimp only at hc;obtain⟨⟨f0,ef,l1,l2,l3,l4⟩,lt⟩:=Cal.Ow _ hbk c hc;obtain⟨et,t1,t2,t3,t4,t5⟩:=lt hto;have tl:=(gZ.1 t1).1;obtain⟨f,e0,t,x,o,q1,q2,q3,q4,q5,q6,q7,q8,q9,q10⟩:=li.fin _ et t1 t2 (by rw[t5];exact hk);have:=li.tr.uniq _ _ ef e0 l1 q2 l2 q3 (by rw[q4,l3,t3]) (by rw[q5,l4,t4]);subst this;have ck:=(Cal.Il _ hbk).1 c hc
  have ox:(s.threads.map λL=>(wA L).ops)[t]?=some x.ops:=by
   have:((qU s).2.1.map (·.ops))[t]?=some x.ops:=by rw[pj,q7];rfl
   have e2:(qU s).2.1.map (·.ops)=(s.threads.map wA).map (·.ops):=ops;rw[e2,sM]at this;exact gh
  rw[pj]at ox;obtain⟨L,hL,eL⟩:=pS.1 ox;have eL:L=x.ops:=eL;refine⟨f0,by have:=ck.XA;omega,aw,t,L,o,t3.symm.trans q6,hL,t4 ▸ q8,?_,?_⟩
  ·rw[eL,<-t4];exact q9
  ·rw[t5]at q10;rw[<-t3,q6];exact q10
def zyF(l:List lD)(t:Int)(F:Nat):nX (l.take F) t F=[]:=by
 unfold nX;rw[iv cq]
 rfl
def zyE{l:List lD}{t:Int}{F j:Nat}(h:F+j<l.length):nX (l.take (F+(j+1))) t F=nX (l.take (F+j)) t F++if (l[F+j]).zg=t then BT l[F+j] else []:=by
 rw[<-uh,rS h,OA _ cq]
def safeLeast_sound(s:mb)(hs:s.Af):tp 9 [] [.agg (yC s)] (Bo true) []:=by
 have m1:(s.zP.map Go.Hy.encI).length=s.zP.length:=pB ..;refine ab func9 ?_;refine ah (kC s (D6 hs)) ?_;refine⟨λh0=>?_,λh0=>?_⟩
 ·refine dd ?_;refine tf ?_
  exact uI
 have ok:=Fz h0 hs;refine dd ?_;rw[m1];refine⟨λh1=>?_,λh1=>?_⟩
 ·refine dd ?_;refine tf ?_
  exact uI
 refine dd ?_;have bl:=KB ok;refine ah (vb s ok) ?_;refine ah (Cal.On (zK s).1 aw) ?_;have key:=zvm ok;have jn:=H5 ok;have nW:=JS (l:=(zK s).1);generalize zK s=p at *;obtain⟨l,w,e⟩:=p;dsimp only at *;generalize Cal.l8 l=oc at *;obtain⟨cs,f⟩:=oc;dsimp only at *;have ml:(l.map jd).length=l.length:=pB ..;have mc:(cs.map qN).length=cs.length:=pB ..;refine⟨λh3=>?_,λh3=>?_⟩
 ·refine dd ?_;refine tf ?_
  exact dD
 have e0:e=0:=aq h3
 subst e0;refine dd ?_;refine⟨λh4=>?_,λh4=>?_⟩
 ·refine dd ?_;refine tf ?_
  exact dD
 have f0:f=0:=aq h4
 subst f0;refine dd ?_;obtain⟨n1,n2⟩:=nW O;have key:=key O O;obtain⟨gw,tw⟩:=jn O;refine zW.seq cs.length (λi=>(.agg (yC s):: .ref 0 [] 5 0 0::Bo false::na l:: .ref 1 [] 8 0 0:: .za::jb cs:: .za::I i:: .za::.za::.za::.za::mF (jp (jp (jp (jp (jp ([])))))))) (λi=>[oS s,oW w]) (λi=>True) ?_ trivial (λi hi hr=>?_) (λhr=>?_)
 ·exact cE 2
 ·obtain⟨c,hx⟩:∃c,c=cs[i]:=⟨_,rfl⟩;have hg:(cs.map qN)[i]?=some (qN c):=by rw[pj,pa hi,hx];rfl
  have kc:=key c hC;obtain⟨c1,c2,c3,c4,c5,a⟩:=c;conv=>whnf
  rw[mc];refine uF ?_;(refine tj hg ?_)
  (refine tj hg ?_)
  refine⟨λh5=>?_,λh5=>?_⟩
  ·refine dd ?_;refine tf ?_
   (refine .inl ⟨rfl,?_,trivial⟩);(rw[zy aw])
   exact cE 2
  have h0:0<=c5:=aq h5
  refine dd ?_;refine⟨λh6=>?_,λh6=>?_⟩
  ·refine dd ?_;refine tf ?_
   (refine .inl ⟨rfl,?_,trivial⟩);(rw[zy aw])
   exact cE 2
  have h6:a.kind=1:=aq h6
  obtain⟨p1,p2,p3,t,L,o,p4,p5,p6,p7,⟨q0,q1⟩,v,k,q2,q3,q4,q5⟩:=kc h0 h6;(try dsimp only at p1 p2 p3 p4 p6 p7 q0 q1 q2 q3 q4 q5)
  obtain⟨F,rfl⟩:∃F:Nat,c3=F:=⟨c3.toNat,aw⟩;obtain⟨G,rfl⟩:∃G:Nat,c5=G:=⟨c5.toNat,aw⟩;rw[toNat_cast,toNat_cast]at q4 q5;have hv:(w.zd.map zJ)[a.version.toNat]?=some (zJ v):=by rw[pj,q2];rfl
  have hkc:(v.snap.zm.map y6)[a.zi.toNat]?=some (y6 k):=by rw[pj,q3];rfl
  refine dd ?_;refine .inl ⟨⟨false,[1,3,7,9,11],[1,2],[]⟩,au,uH ?_⟩;(refine⟨q0,_,hv,dd ?_⟩)
  (refine⟨q1,_,hkc,dd ?_⟩)
  refine td ?_
  (refine tj hg ?_)
  have hFG:F<=G:=aw
  refine zW.seq (G+1-F) (λj=>(.agg (yC s):: .ref 0 [] 5 0 0::Bo false::na l:: .ref 1 [] 8 0 0:: .za::jb cs:: .za::I i:: .ref 2 [] 13 0 0:: .ref 3 [] 4 0 0:: .gl 4 1 ((nX (l.take (F+j)) c1 F).map Go.Hy.encI)::I (F+j:Nat):: mF (jp (jp (jp (jp (jp ([])))))))) (λj=>[oS s,oW w,⟨1,51,13,[xK a],0⟩,oC k,⟨4,3,1,(nX (l.take (F+j)) c1 F).map Go.Hy.encI,0⟩]) (λj=>True) ?_ trivial (λj hj hr2=>?_) (λhr2=>?_)
  ·rw[show F+0=F from O,zyF];exact(zt.grow 11 3 1 O (.inl O)).trans (cC)
  ·have hjl:F+j<l.length:=by omega
   obtain⟨e,he⟩:∃e,e=l[F+j]:=⟨_,rfl⟩;have hge:(l.map jd)[((F+j:Nat):Int).toNat]?=some (jd e):=by rw[toNat_cast,pj,pa hjl,he];rfl
   have rn:=zyE (t:=c1) hjl;rw[<-he]at rn
   have stay:¬(e.zg=c1/\(e.cell=7/\e.access=1))->nX (l.take (F+(j+1))) c1 F=nX (l.take (F+j)) c1 F:=λz=>by
    rw[rn];split
    ·rename_i y;unfold BT;rw[pw λx=>z ⟨y,x⟩,rK]
    ·exact rK _
   have more:e.zg=c1->e.cell=7->e.access=1->nX (l.take (F+(j+1))) c1 F=nX (l.take (F+j)) c1 F++[e.value]:=λz1 z2 z3=>by
    rw[rn,pA z1];unfold BT;rw[pA ⟨z2,z3⟩]
   have rl:(nX (l.take (F+j)) c1 F).length<=F+j:=by
    unfold nX;rw[pB];refine rB (List.length_filter_le _ _) ?_;rw[fN,u5];omega
   obtain⟨e1,e2,e3,e4,e5,e6,e7,e8,e9,e10,e11⟩:=e;dsimp only at stay more;conv=>whnf
   (refine tj hg ?_)
   refine⟨λ_=>dd ?_,λh=>absurd h aA⟩;refine uE ?_;refine⟨aw,_,hge,dd ?_⟩;(refine tj hg ?_)
   refine⟨λy1=>?_,λy1=>?_⟩
   ·have y1:e1=c1:=by simpa using y1
    refine dd ?_;(refine⟨aw,_,hge,dd ?_⟩)
    refine⟨λy2=>?_,λy2=>?_⟩
    ·have y2:e4=7:=by simpa using y2
     refine dd ?_;(refine⟨aw,_,hge,dd ?_⟩)
     refine⟨λy3=>?_,λy3=>?_⟩
     ·have y3:e3=1:=by simpa using y3
      refine dd ?_;refine td ?_
      (refine⟨aw,_,hge,dd ?_⟩)
      refine⟨rfl,.inr O,ay,bf,dd ?_⟩;refine .inl ⟨rfl,?_,trivial⟩;rw[zy aw,more y1 y2 y3,rD];exact cE 5
     ·have st:=stay λz=>absurd z.2.2 (aq y3)
      refine dd ?_;refine tf ?_;refine td ?_;(refine .inl ⟨rfl,?_,trivial⟩);(rw[zy aw]);(rw[st]);exact cE 5
    ·have st:=stay λz=>absurd z.2.1 (aq y2)
     refine dd ?_;refine tf ?_;refine td ?_;(refine .inl ⟨rfl,?_,trivial⟩);(rw[zy aw]);(rw[st]);exact cE 5
   ·have st:=stay λz=>absurd z.1 (aq y1)
    refine dd ?_;refine tf ?_;refine td ?_;(refine .inl ⟨rfl,?_,trivial⟩);(rw[zy aw]);(rw[st]);exact cE 5
  ·have eR:F+(G+1-F)=G+1:=by omega
   rw[eR];conv=>whnf
   (refine tj hg ?_)
   refine⟨λh=>absurd h aA,λ_=>dd ?_⟩;refine⟨aj,uH ?_⟩;generalize hR:nX (l.take (G+1)) c1 F=R at *;have mR:(R.map Go.Hy.encI).length=R.length:=pB ..;have vm:=pq q2;have km:=pq q3;have GC:=(xh (gw.my _ v q2).1.snap).all k km;have hT:(s.threads.map yo)[c1.toNat]?=some (yo L):=by rw[p4,toNat_cast,pj,p5];rfl
   have hO:(L.map wy)[c2.toNat]?=some (wy o):=by rw[pj,p7];rfl
   have t0:0<=c1:=aw
   have od:=(hs.2.1.1 L (pq p5)).1 o (pq p7);refine⟨λy1=>?_,λy1=>?_⟩
   ·have y1:k.xq≠2:=by simpa using y1
    have z1:k.xq=1:=by have:=GC.xq;omega
    have R0:R=[]:=q4 z1;subst R0;refine dd ?_;refine tf ?_
    (refine .inl ⟨rfl,?_,trivial⟩);(rw[zy aw])
    exact cE 2
   ·have y1:k.xq=2:=by simpa using y1
    obtain⟨d1,ra,rb,d2,d3⟩:=q5 aw;subst d2;refine dd ?_;refine .inl ⟨⟨false,[1,6,8,13,15],[0],[]⟩,au,uH ?_⟩;(refine tj hg ?_)
    (refine⟨t0,_,hT,dd ?_⟩)
    (refine tj hg ?_)
    (refine⟨p6,_,hO,dd ?_⟩)
    refine td ?_
    refine ah (S7 k o.d0 o.d1 od.2.1 od.2.2 cR (Lq k)) ?_;have d1b:((xu k o.d0 o.d1).2.2 != 0)=false:=by rw[d1];rfl
    refine .inl ⟨⟨true,[9,13,17],[2,4],[18]⟩,au,uH ?_⟩;refine⟨λh=>absurd ((d1b).symm.trans h:false=true) ar,λ_=>dd ?_⟩;have l2:(((List.map Go.Hy.encI [ra,rb]).length:Int) != 2)=false:=rfl;refine⟨λh=>absurd ((l2).symm.trans h:false=true) ar,λ_=>dd ?_⟩;refine⟨ar,_,rfl,dd ?_⟩;refine⟨ar,_,rfl,dd ?_⟩;refine ah (Tu (xu k o.d0 o.d1).1 ra (xu k o.d0 o.d1).2.1 rb) ?_;have qe:(a.end_ != if rb<ra then (xu k o.d0 o.d1).2.1 else (xu k o.d0 o.d1).1)=false:=by rw[<-d3];simp
    refine⟨λh=>absurd ((qe).symm.trans h:false=true) ar,λ_=>dd ?_⟩;refine td ?_
    refine tf ?_
    (refine .inl ⟨rfl,?_,trivial⟩);(rw[zy aw])
    exact cE 2
 ·conv=>whnf
  rw[mc];refine uD ?_;exact dD
end Go.Run
