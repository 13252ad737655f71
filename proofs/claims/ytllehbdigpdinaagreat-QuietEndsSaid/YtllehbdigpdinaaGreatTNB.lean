import Derived.Test.YtllehbdigpdinaaGreatTN3
import Derived.Test.YtllehbdigpdinaaGreatTQ
import Derived.Test.YtllehbdigpdinaaGreatTN2
import Derived.Test.YtllehbdigpdinaaGreatTR
import Derived.Test.YtllehbdigpdinaaGreatTNA
import Derived.Test.YtllehbdigpdinaaGreatTM
set_option linter.all false
set_option maxRecDepth 100000
set_option maxHeartbeats 4000000
namespace Go.Run
open Go.Ab Go.Proofs Tryz Go.Gat Go.Nam Go.Hos Go.Con Go.Sna Go.Pla Go.Ply Go.Wor
open Go.Hy hiding encI
variable{a N:Nat}{w w':Wor}{v:fI}{x:fS}{m':fD}{s:fU}{l:List fK}
def BT(w:Wor)(m:fD):Int:=match yZ w m.version m.zg m.end_ with|some e=>e.head|none=>0
def wW(w:Wor)(m:fD):Nat:=if BT w m=m.word then 0 else 3
def nk(w:Wor)(m:fD):Nat:=if m.zl=w.zl then 0 else 2
def xw(w:Wor)(v:Int):Nat:=match w.ze[v.toNat]? with|some v=>(qv v).length|none=>0
def nR(w:Wor):List Nat:=w.zm.map λr=>2+xw w r.version
def xD(w:Wor)(i:Nat):Nat:=((nR w).drop i).sum
def res(k:Nat)(w:Wor):Nat:=k*(w.pins.length-1)
def yQ(w:Wor)(m:fD):Nat:=
 if m.pc=0 then 16+res 3 w else if m.pc=1 then 15+nk w m+res 3 w else if m.pc=2 then 14+nk w m+res 3 w else if m.pc=3 then 13+res 3 w
 else if m.pc=4 then 12+res 3 w else if m.pc=5 then 11+res 3 w else if m.pc=6 then 9+res 3 w else if m.pc=7 then 10+res 3 w else if m.pc=8 then 9+res 3 w
 else if m.pc=9 then 8+res 3 w else if m.pc=10 then 7+wW w m+res 3 w else if m.pc=11 then 6+wW w m+res 3 w else if m.pc=12 then 5
 else if m.pc=20 then 4 else if m.pc=21 then 3 else if m.pc=22 then 2 else 1
def nO(w:Wor)(m:fD):Nat:=if m.pc=0 then 5+res 3 w else if m.pc=1 then 4+wW w m+res 3 w else if m.pc=2 then 3+wW w m+res 3 w else if m.pc=3 then 2 else 1
def GC(w:Wor)(m:fD):Nat:=if m.pc=0 then 3+res 18 w else if m.pc=1 then 2+res 18 w else 1+res 18 w
def lX(w:Wor)(m:fD):Nat:=
 if m.pc=0 then xD w 0+3*w.zc.length+w.pins.length+4+res 2 w else if m.pc=1 then xD w 0+3*w.zc.length+w.pins.length+3+res 2 w
 else if m.pc=2 then xD w 0+3*w.zc.length+2+(w.pins.length-m.i.toNat)+res 2 w else if m.pc=3 then xD w 0+3*w.zc.length+2+res 2 w
 else if m.pc=4 then xD w m.i.toNat+3*w.zc.length+1
 else if m.pc=5 then xD w (m.i.toNat+1)+(xw w m.version+1-m.k.toNat)+3*w.zc.length+1
 else if m.pc=6 then xD w (m.i.toNat+1)+3*w.zc.length+2
 else if m.pc=8 then 3*(w.zc.length-m.i.toNat)+1 else if m.pc=9 then 3*(w.zc.length-m.i.toNat) else 3*(w.zc.length-m.i.toNat)-1
def JL(w:Wor)(m:fD):Nat:=(6*(w.counts.length-m.i)-m.k).toNat
def iJ(w:Wor)(m:fD):Nat:=if m.op.kind=1 then yQ w m else if m.op.kind=2 then nO w m else if m.op.kind=3 then GC w m else if m.op.kind=4 then 1 else if m.op.kind=5 then lX w m else JL w m
structure Vw(c:Nat)(w w':Wor):Prop where
 pins:w'.pins.length=w.pins.length
 counts:w'.counts.length=w.counts.length
 fP:w'.zc.length=w.zc.length
 ep:(2<=c/\w'.zl<=w.zl+1)\/w'.zl=w.zl
 hd:3<=c\/∀m:fD,m.version.toNat<w.ze.length->BT w' m=BT w m
 ends : ∀v : Int, v.toNat<w.ze.length -> xw w' v = xw w v
 lim:nR w'=nR w\/(18<=c/\∃a,a<=18/\nR w'=nR w++[a])
theorem Vw.res{c:Nat}{w w':Wor}(h:Vw c w w')(k:Nat):res k w'=res k w:=by unfold Run.res;rw[h.pins]
theorem W0(l:List Nat)(a i:Nat):((l++[a]).drop i).sum<=(l.drop i).sum+a:=by
 grind [List.drop_eq_nil_of_le]
theorem Vw.xD{c:Nat}{w w':Wor}(h:Vw c w w')(i:Nat):xD w' i<=xD w i+c:=by
 unfold Run.xD;rcases h.lim with e|⟨hc,a,ha,e⟩
 .rw[e];omega
 .rw[e];have:=W0 (nR w) a i;omega
def Vw.nk{c:Nat}{w w':Wor}(h:Vw c w w')(m:fD):nk w' m<=nk w m+c:=by
 rcases h.ep with e|e
 .unfold Run.nk;split <;> split <;> omega
 .unfold Run.nk;rw[e];omega
def Vw.wW{c:Nat}{w w':Wor}(h:Vw c w w')(m:fD)(hm:m.version.toNat<w.ze.length):wW w' m<=wW w m+c:=by
 rcases h.hd with e|e
 .unfold Run.wW;split <;> split <;> omega
 .unfold Run.wW;rw[e m hm];omega
theorem B8{p:Prop}[Decidable p]{b a' b' c:Nat}(h:p->a<=a'+c)(k:¬p->b<=b'+c):(if p then a else b)<=(if p then a' else b')+c:=by
 grind
theorem Vw.iJ{c:Nat}{w w':Wor}(h:Vw c w w')(m:fD)(hm:m.version.toNat<w.ze.length):iJ w' m<=iJ w m+c:=by
 have a1:=h.nk m;have a2:=h.wW m hm;have l0:=h.xD 0;have l1:=h.xD m.i.toNat;have l2:=h.xD (m.i.toNat+1);have en:=h.ends m.version hm;unfold Run.iJ;refine B8 (λ_=>?_) λ_=>B8 (λ_=>?_) λ_=>B8 (λ_=>?_) λ_=>B8 (λ_=>by omega) λ_=>B8 (λ_=>?_) λ_=>?_
 .unfold yQ;simp only[h.res];repeat' refine B8 (λ_=>?_) (λ_=>?_)
  all_goals omega
 .unfold nO;simp only[h.res];repeat' refine B8 (λ_=>?_) (λ_=>?_)
  all_goals omega
 .unfold GC;simp only[h.res];repeat' refine B8 (λ_=>?_) (λ_=>?_)
  all_goals omega
 .unfold lX;simp only[h.res,h.fP,h.pins,en];repeat' refine B8 (λ_=>?_) (λ_=>?_)
  all_goals omega
 .unfold JL;rw[h.counts];omega
def nz(w:Wor)(m:fD)(r:Wor×fD×fG):Prop:=∃c:Nat,Vw c w r.1/\(r.2.1.done=false->iJ r.1 r.2.1+1+res c w<=iJ w m)/\1+res c w<=iJ w m/\(c<18\/(m.op.kind=3/\r.2.1.done=true))
def GA(w:Wor):res 0 w=0:=sL _
theorem EU(h1:w'.pins.length=w.pins.length)(h2:w'.counts.length=w.counts.length)(h3:w'.zc.length=w.zc.length)(h4:w'.zl=w.zl)(h5:w'.ze=w.ze)(h6:w'.zm=w.zm):Vw 0 w w':=by
 have e1:∀v,xw w' v=xw w v:=λv=>by grind [xw]
 refine⟨h1,h2,h3,.inr h4,.inr λm _=>by unfold BT yZ;rw[h5],λv _=>e1 v,.inl ?_⟩
 grind [nR,List.map_congr_left]
theorem Vw.refl(w:Wor):Vw 0 w w:=EU V V V V V V
theorem Ej{m:fD}{g:Gr}{e e':En}(hat:iB w m v g e)(tk:Int)(c:Nat)(hc:3<=c\/e'.head=e.head)(hc0:c<18):Vw c w (mQ w m v g e' tk):=by
 have gl:(qv {v with zq:=v.zq.set m.zg.toNat {g with zx:=tk,ends:=g.ends.set m.end_.toNat e'} }).length=(qv v).length:=by
  unfold qv;rw[List.length_flatMap,List.length_flatMap,rp,wU];rw[gy,hat.fY];simp
 have e1:∀z,xw (mQ w m v g e' tk) z=xw w z:=λz=>by
  unfold xw;show(match (w.ze.set m.version.toNat _)[z.toNat]? with|some v=>(qv v).length|none=>0)=_;rw[gJ];by_cases q:m.version.toNat=z.toNat
  .rw[gz q,gz (gh.1 hat.at_).1,<-q,hat.at_];exact gl
  .rw[gp q]
 refine⟨rfl,rfl,rfl,.inr V,?_,λz _=>e1 z,.inl ?_⟩
 .rcases hc with hc|hc
  .exact .inl hc
  .refine .inr λm' _=>?_
   unfold BT;rw[G9 hat];by_cases q:m'.version.toNat=m.version.toNat/\m'.zg.toNat=m.zg.toNat/\m'.end_.toNat=m.end_.toNat
   .rw[gz q];obtain⟨q1,q2,q3⟩:=q;unfold yZ;rw[q1,hat.at_];show _=(match (v.zq[m'.zg.toNat]?).bind λg=>g.ends[m'.end_.toNat]? with|some e=>e.head|none=>0);rw[q2,hat.fY];show _=(match g.ends[m'.end_.toNat]? with|some e=>e.head|none=>0);rw[q3,hat.ib];exact hc
   .rw[gp q]
 grind [nR,List.map_congr_left]
theorem Um(gw:qQ w)(x:fI)(n:Int):Vw 0 w {w with current:=n,ze:=w.ze++[x]}:=by
 have e0:∀z:Nat,z<w.ze.length->(w.ze++[x])[z]?=w.ze[z]?:=λz h=>gF h
 have e1:∀z:Int,z.toNat<w.ze.length->xw {w with current:=n,ze:=w.ze++[x]} z=xw w z:=λz h=>by grind [xw]
 refine⟨rfl,rfl,rfl,.inr V,.inr λm h=>by unfold BT yZ;dsimp only;rw[e0 _ h],e1,.inl ?_⟩;unfold nR;refine pQ λr hr=>?_
 have b:=gw.bad r hr;unfold yO at b;simp only[pU,pY]at b
 have p:0<=r.version:=by
  obtain⟨i,hi⟩:=gI.1 hr;exact(LI.1 gw.zm i r hi).1
 grind
theorem Ul(gw:qQ w)(x:fS)(hx:x.version.toNat<w.ze.length):Vw 18 w {w with zm:=w.zm++[x]}:=by
 refine⟨rfl,rfl,rfl,.inr V,.inr λm _=>V,λv _=>V,.inr ⟨gG _,2+xw w x.version,?_,?_⟩⟩
 .unfold xw;obtain⟨v,hv⟩:∃v,w.ze[x.version.toNat]?=some v:=⟨_,gk hx⟩;rw[hv];dsimp only;obtain⟨f1,f2⟩:=(gw.fW _ v hv).1.mG
  have:∀l:List Gr,(∀g∈l,g.ends.length<=4)->(l.flatMap (·.ends)).length<=4*l.length:=λl=>by
   induction l with
   |nil=>intro _;simp
   |cons y l ih=>
    grind
  have:=this v.zq λg hg=>(f2 g hg).1
  show 2+(v.zq.flatMap (·.ends)).length<=18;omega
 .unfold nR;rw[pR]
  rfl
theorem zzh{i k:Nat}(hv:w.ze[k]?=some v)(hx:w.zm[i]?=some x):Vw 0 w {w with ze:=w.ze.set k (x5 v),zm:=w.zm.set i (xG x)}:=by
 have e0:∀z:Nat,(w.ze.set k (x5 v))[z]?=if k=z then some (x5 v) else w.ze[z]?:=λz=>by
  grind
 have e1:∀z:Int,xw {w with ze:=w.ze.set k (x5 v),zm:=w.zm.set i (xG x)} z=xw w z:=λz=>by
  unfold xw;dsimp only;rw[e0];by_cases q:k=z.toNat
  .rw[gz q,<-q,hv]
   rfl
  .rw[gp q]
 refine⟨rfl,rfl,rfl,.inr V,.inr λm _=>?_,λz _=>e1 z,.inl ?_⟩
 .grind [BT,yZ]
 .unfold nR;dsimp only;rw[show(w.zm.set i (xG x)).map (λr=>2+xw {w with ze:=w.ze.set k (x5 v),zm:=w.zm.set i (xG x)} r.version)=(w.zm.set i (xG x)).map (λr=>2+xw w r.version) from pQ λr _=>by rw[e1],rp]
  grind [wU]
section
variable {w:Wor} {m:fD}
def Np(p:m.pc=0):yQ w m=16+res 3 w:=by unfold yQ;rw[p];rfl
def Jv(p:m.pc=1):yQ w m=15+nk w m+res 3 w:=by unfold yQ;rw[p];rfl
def Jw(p:m.pc=2):yQ w m=14+nk w m+res 3 w:=by unfold yQ;rw[p];rfl
def Jx(p:m.pc=3):yQ w m=13+res 3 w:=by unfold yQ;rw[p];rfl
def Nq(p:m.pc=4):yQ w m=12+res 3 w:=by unfold yQ;rw[p];rfl
def DN(p:m.pc=5):yQ w m=11+res 3 w:=by unfold yQ;rw[p];rfl
def Nr(p:m.pc=6):yQ w m=9+res 3 w:=by unfold yQ;rw[p];rfl
def Ns(p:m.pc=7):yQ w m=10+res 3 w:=by unfold yQ;rw[p];rfl
def Nt(p:m.pc=8):yQ w m=9+res 3 w:=by unfold yQ;rw[p];rfl
def Fk(p:m.pc=9):yQ w m=8+res 3 w:=by unfold yQ;rw[p];rfl
def NU(p:m.pc=10):yQ w m=7+wW w m+res 3 w:=by unfold yQ;rw[p];rfl
def JH(p:m.pc=11):yQ w m=6+wW w m+res 3 w:=by unfold yQ;rw[p];rfl
def NV(p:m.pc=12):yQ w m=5:=by unfold yQ;rw[p];rfl
def DD(p:m.pc=20):yQ w m=4:=by unfold yQ;rw[p];rfl
def JI(p:m.pc=21):yQ w m=3:=by unfold yQ;rw[p];rfl
def NW(p:m.pc=22):yQ w m=2:=by unfold yQ;rw[p];rfl
theorem JJ(p:m.pc=23):yQ w m=1:=by unfold yQ;rw[p];rfl
def Jt(p:m.pc=0):nO w m=5+res 3 w:=by unfold nO;rw[p];rfl
def Nj(p:m.pc=1):nO w m=4+wW w m+res 3 w:=by unfold nO;rw[p];rfl
def Ju(p:m.pc=2):nO w m=3+wW w m+res 3 w:=by unfold nO;rw[p];rfl
def Nk(p:m.pc=3):nO w m=2:=by unfold nO;rw[p];rfl
def Nl(p:m.pc=4):nO w m=1:=by unfold nO;rw[p];rfl
theorem Nn(p:m.pc=9):nO w m=1:=by unfold nO;rw[p];rfl
theorem xh(k:m.op.kind=1):iJ w m=yQ w m:=gz k
def o9(k:m.op.kind=2):iJ w m=nO w m:=by unfold iJ;rw[k];rfl
theorem E4(k:m.op.kind=3):iJ w m=GC w m:=by unfold iJ;rw[k];rfl
theorem JK(k:m.op.kind=4):iJ w m=1:=by unfold iJ;rw[k];rfl
theorem vp(k:m.op.kind=5):iJ w m=lX w m:=by unfold iJ;rw[k];rfl
def I5(k:m.op.kind=6):iJ w m=JL w m:=by unfold iJ;rw[k];rfl
def Sp:wW w m<=3:=by unfold wW;split <;> omega
def zy7:nk w m<=2:=by unfold nk;split <;> omega
def SU(h:m.zl=w.zl):nk w m=0:=gz h
def T9(h:m.zl≠w.zl):nk w m=2:=gp h
end
section
variable {w:Wor} {m:fD} {v:fI} {g:Gr} {e:En} {r:Wor×fD×fG}
def Mu(su:qt w m v g e):iB w m v g e:=⟨⟨⟨su.version.1,su.fZ⟩,su.zg.1,su.fY⟩,su.end_.1,su.ib⟩
def Tt(su:qt w m v g e):BT w m=e.head:=by
 unfold BT;rw[HT (Mu su)]
theorem jx{ev:fG}{b:Nat}(vw:Vw 0 w w')(h1:iJ w m=a)(h2:iJ w' m'=b)(h:b+1<=a):nz w m (w',m',ev):=⟨0,vw,λ_=>by rw[h1,h2,GA];exact h,by rw[h1,GA];omega,.inl ar⟩
theorem CL{ev:fG}(vw:Vw 0 w w')(hd:m'.done=true)(h1:1<=iJ w m):nz w m (w',m',ev):=⟨0,vw,λz=>absurd (hd.symm.trans z) ar,by rw[GA];omega,.inl ar⟩
theorem CM{α:Type}{o:Option α}{f:α->Wor×fD×fG}(h:o.map f=some r)(hf:∀x,o=some x->nz w m (f x)):nz w m r:=by
 obtain⟨x,hx,rfl⟩:=gT.1 h;exact hf x hx
theorem Iz{f:fT->Wor×fD×fG}(h:w9 w m f=some r)(hf:∀x,w.zc[m.listen.toNat]?=some x->nz w m (f x)):nz w m r:=by
 unfold w9 at h
 grind
theorem Gc(i:Nat)(y:fT):Vw 0 w {w with zc:=w.zc.set i y}:=EU V V aj V V V
theorem S8(t:Nat)(n:Int):Vw 0 w (nT w t n):=EU aj V V V V V
theorem Uk(t:Nat)(x:List Int):Vw 0 w {w with counts:=w.counts.set t x}:=EU V aj V V V V
theorem zt0(su:qt w m v g e)(gw:qQ w)(hk:m.op.kind=1)(h0:0<=m.pc)(h:qe w m v g e=some r):nz w m r:=by
 have hat:=Mu su;have hh:=Tt su;have sE:=zy7 (w:=w) (m:=m);have sH:=Sp (w:=w) (m:=m);unfold qe at h;rcases zu h with⟨p,h⟩|⟨_,h⟩
 .unfold BM at h;rcases zu h with⟨q,h⟩|⟨_,h⟩
  .obtain rfl:=gA h;exact jx (.refl w) ((xh hk).trans (Np q)) (Eq.trans (xh (by exact hk)) (Jv cD)) (by rw[SU V];omega)
  rcases zu h with⟨q,h⟩|⟨_,h⟩
  .obtain rfl:=gA h;have vw:=S8 (w:=w) m.zf.toNat (IntKind.i64.wrap (m.zl+1));exact jx vw ((xh hk).trans (Jv q)) (Eq.trans (xh (by exact hk)) (Jw cD)) (by rw[vw.res];show 14+nk w m+res 3 w+1<=15+nk w m+res 3 w;omega)
  rcases zu h with⟨q,h⟩|⟨_,h⟩
  .obtain rfl:=gA h;by_cases z:w.zl=m.zl
   .rw[gz z];exact jx (.refl w) ((xh hk).trans (Jw q)) (Eq.trans (xh (by exact hk)) (Jx cD)) aw
   .rw[gp z];exact jx (.refl w) ((xh hk).trans (Jw q)) (Eq.trans (xh (by exact hk)) (Jv cD)) (by rw[SU V,T9 (λy=>z y.symm)];omega)
  .cases h
 rcases zu h with⟨p,h⟩|⟨_,h⟩
 .obtain rfl:=gA h;split
  .exact jx (.refl w) ((xh hk).trans (Jx p)) (Eq.trans (xh (by exact hk)) (DD cD)) aw
  .exact jx (.refl w) ((xh hk).trans (Jx p)) (Eq.trans (xh (by exact hk)) (Nq cD)) aw
 rcases zu h with⟨p,h⟩|⟨_,h⟩
 .refine Iz h λx _=>?_
  have vw:=Gc (w:=w) m.listen.toNat (MA x);exact jx vw ((xh hk).trans (Nq p)) (Eq.trans (xh (by exact hk)) (DN cD)) (by rw[vw.res];omega)
 rcases zu h with⟨p,h⟩|⟨_,h⟩
 .refine Iz h λx _=>?_
  split
  .exact jx (.refl w) ((xh hk).trans (DN p)) (Eq.trans (xh (by exact hk)) (DD cD)) aw
  .unfold j8;split
   .exact jx (.refl w) ((xh hk).trans (DN p)) (Eq.trans (xh (by exact hk)) (DD cD)) aw
   .split
    .rename_i q;obtain⟨_,c,hc⟩:=KV (gw.fW _ v su.fZ).1.snap m.op.listen m.op.host m.op.path
     grind
    .split
     .exact jx (.refl w) ((xh hk).trans (DN p)) (Eq.trans (xh (by exact hk)) (DD cD)) aw
     .split
      .exact jx (.refl w) ((xh hk).trans (DN p)) (Eq.trans (xh (by exact hk)) (Nr cD)) aw
      .exact jx (.refl w) ((xh hk).trans (DN p)) (Eq.trans (xh (by exact hk)) (Ns cD)) aw
 rcases zu h with⟨p,h⟩|⟨_,h⟩
 .refine CM h λc _=>?_
  have vw:Vw 0 w (va w m v g e (IntKind.u64.wrap (g.zx+1)) e.head e.zj):=Ej (e':=qK e e.head e.zj) hat _ 0 (.inr V) ar;exact jx vw ((xh hk).trans (Nr p)) (Eq.trans (xh (by exact hk)) (Fk cD)) (by rw[vw.res];omega)
 rcases zu h with⟨p,h⟩|⟨_,h⟩
 .obtain rfl:=gA h;exact jx (.refl w) ((xh hk).trans (Ns p)) (Eq.trans (xh (by exact hk)) (Nt cD)) aw
 rcases zu h with⟨p,h⟩|⟨_,h⟩
 .exact CM h λe2 _=>jx (.refl w) ((xh hk).trans (Nt p)) (Eq.trans (xh (by exact hk)) (Fk cD)) aw
 rcases zu h with⟨p,h⟩|⟨_,h⟩
 .obtain rfl:=gA h;split
  .refine jx (.refl w) ((xh hk).trans (Fk p)) (Eq.trans (xh (by exact hk)) (NU cD)) ?_;have:wW w {m with word:=e.head,slot:=Wor.zA e.head,pc:=10}=0:=gz hh;omega
  .exact jx (.refl w) ((xh hk).trans (Fk p)) (Eq.trans (xh (by exact hk)) (DD cD)) aw
 rcases zu h with⟨p,h⟩|⟨_,h⟩
 .exact CM h λx _=>jx (.refl w) ((xh hk).trans (NU p)) (Eq.trans (xh (by exact hk)) (JH cD)) (by show 6+wW w m+res 3 w+1<=_;omega)
 rcases zu h with⟨p,h⟩|⟨_,h⟩
 .rcases zu h with⟨q,h⟩|⟨q,h⟩
  .obtain rfl:=gA h;have vw:Vw 3 w (va w m v g e g.zx (Slp.qY m.word m.link) e.zj):=Ej (e':=qK e (Slp.qY m.word m.link) e.zj) hat _ 3 (.inl (gG _)) ar;have a1:iJ w m=6+wW w m+res 3 w:=(xh hk).trans (JH p);refine⟨3,vw,λ_=>?_,by rw[a1];omega,.inl ar⟩;have a2:iJ (va w m v g e g.zx (Slp.qY m.word m.link) e.zj) {m with pc:=12}=5:=Eq.trans (xh (by exact hk)) (NV cD)
   grind
  .obtain rfl:=gA h;have:wW w m=3:=gp λz=>q (hh.symm.trans z)
   exact jx (.refl w) ((xh hk).trans (JH p)) (Eq.trans (xh (by exact hk)) (Fk cD)) aw
 rcases zu h with⟨p,h⟩|⟨_,h⟩
 .obtain rfl:=gA h;have vw:Vw 0 w (va w m v g e g.zx e.head (IntKind.i64.wrap (e.zj+1))):=Ej (e':=qK e e.head (IntKind.i64.wrap (e.zj+1))) hat _ 0 (.inr V) ar;exact jx vw ((xh hk).trans (NV p)) (Eq.trans (xh (by exact hk)) (DD cD)) aw
 have AJ:∀{k p':Int} {r:Wor×fD×fG} {a b:Nat},iJ w m=a->(∀w',iJ w' {m with pc:=p'}=b)->b+1<=a->vn w m k p'=some r->nz w m r:=λh1 h2 h3 h=>by
  unfold vn at h;split at h
  .cases h
  grind [jx,Uk]
 rcases zu h with⟨p,h⟩|⟨_,h⟩
 .exact AJ ((xh hk).trans (DD p)) (λ_=>Eq.trans (xh (by exact hk)) (JI cD)) aw h
 rcases zu h with⟨p,h⟩|⟨_,h⟩
 .by_cases q:m.answer.kind=1\/m.listen<0
  .rw[gz q]at h;exact AJ ((xh hk).trans (JI p)) (λ_=>Eq.trans (xh (by exact hk)) (JJ cD)) aw h
  .rw[gp q]at h;exact AJ ((xh hk).trans (JI p)) (λ_=>Eq.trans (xh (by exact hk)) (NW cD)) aw h
 rcases zu h with⟨p,h⟩|⟨_,h⟩
 .exact Iz h λx _=>jx (Gc _ _) ((xh hk).trans (NW p)) (Eq.trans (xh (by exact hk)) (JJ cD)) aw
 rcases zu h with⟨p,h⟩|⟨_,h⟩
 .grind [CL,S8,xh,JJ]
 .cases h
theorem ztZ(su:qt w m v g e)(hk:m.op.kind=2)(h:jW w m v g e=some r):nz w m r:=by
 have hat:=Mu su;have hh:=Tt su;have sH:=Sp (w:=w) (m:=m);unfold jW at h;rcases zu h with⟨p,h⟩|⟨_,h⟩
 .obtain rfl:=gA h;refine jx (.refl w) ((o9 hk).trans (Jt p)) (Eq.trans (o9 (by exact hk)) (Nj cD)) ?_;have:wW w {m with word:=e.head,pc:=1}=0:=gz hh;rw[this];omega
 rcases zu h with⟨p,h⟩|⟨_,h⟩
 .obtain rfl:=gA h;have vw:Vw 0 w (va w m v g (vx m e) g.zx e.head e.zj):=Ej (e':=qK (vx m e) e.head e.zj) hat _ 0 (.inr V) ar;refine jx vw ((o9 hk).trans (Nj p)) (Eq.trans (o9 (by exact hk)) (Ju cD)) ?_;have e1:=vw.wW {m with pc:=2} (by have:=su.version;show m.version.toNat<_;omega);have e2:wW w {m with pc:=2}=wW w m:=rfl;rw[vw.res];omega
 rcases zu h with⟨p,h⟩|⟨_,h⟩
 .rcases zu h with⟨q,h⟩|⟨q,h⟩
  .obtain rfl:=gA h;have vw:Vw 3 w (va w m v g e g.zx (Slp.qY m.word m.slot) e.zj):=Ej (e':=qK e (Slp.qY m.word m.slot) e.zj) hat _ 3 (.inl (gG _)) ar;have a1:iJ w m=3+wW w m+res 3 w:=(o9 hk).trans (Ju p);refine⟨3,vw,λ_=>?_,by rw[a1];omega,.inl ar⟩;have a2:iJ (va w m v g e g.zx (Slp.qY m.word m.slot) e.zj) {m with pc:=3}=2:=Eq.trans (o9 (by exact hk)) (Nk cD);dsimp only;rw[a1,a2];omega
  .obtain rfl:=gA h;have:wW w m=3:=gp λz=>q (hh.symm.trans z)
   exact jx (.refl w) ((o9 hk).trans (Ju p)) (Eq.trans (o9 (by exact hk)) (Jt cD)) aw
 rcases zu h with⟨p,h⟩|⟨_,h⟩
 .obtain rfl:=gA h;have vw:Vw 0 w (va w m v g e g.zx e.head (IntKind.i64.wrap (e.zj-1))):=Ej (e':=qK e e.head (IntKind.i64.wrap (e.zj-1))) hat _ 0 (.inr V) ar;exact jx vw ((o9 hk).trans (Nk p)) (Eq.trans (o9 (by exact hk)) (Nl cD)) aw
 rcases zu h with⟨p,h⟩|⟨_,h⟩
 .exact Iz h λx _=>CL (Gc _ _) V (by rw[o9 hk,Nl p];omega)
 rcases zu h with⟨p,h⟩|⟨_,h⟩
 .obtain rfl:=gA h;exact CL (.refl w) V (by rw[o9 hk,Nn p];omega)
 .cases h
theorem zyT(su:qt w m v g e)(gw:qQ w)(hk:m.op.kind=3)(h:yg w m=some r):nz w m r:=by
 have s0:m.pc=0->iJ w m=3+res 18 w:=λp=>(E4 hk).trans (gz p)
 have s1:m.pc=1->iJ w m=2+res 18 w:=λp=>by grind [E4,GC]
 have s2:m.pc=2->iJ w m=1+res 18 w:=λp=>by grind [E4,GC]
 unfold yg at h;rcases zu h with⟨p,h⟩|⟨_,h⟩
 .rcases zC h with h|h
  .obtain rfl:=gA h;have vw:=Um gw (vm m.op.config) w.ze.length;refine jx vw (s0 p) (b:=2+res 18 w) ?_ aw;rw[E4 (by exact hk)];show 2+res 18 _=_;rw[vw.res]
  .obtain rfl:=gA h;exact CL (.refl w) V (by rw[s0 p];omega)
 rcases zu h with⟨p,h⟩|⟨_,h⟩
 .obtain rfl:=gA h;exact jx (.refl w) (s1 p) (b:=1+res 18 w) (Eq.trans (E4 (by exact hk)) cD) aw
 rcases zu h with⟨p,h⟩|⟨_,h⟩
 .rcases zC h with h|h
  .cases h
  .obtain rfl:=gA h;exact⟨18,Ul gw _ (by have:=su.version;show m.version.toNat<_;omega),λz=>absurd (show true=false from z) ar,by rw[s2 p];omega,.inr ⟨hk,rfl⟩⟩
 .cases h
theorem zwv(hk:m.op.kind=4)(h:yM w m=some r):nz w m r:=by
 unfold yM at h;rcases zC h with h|h
 .rcases zC h with h|h
  .obtain rfl:=gA h;exact CL (.refl w) V (by rw[JK hk];omega)
  grind [CM,CL,Gc,JK]
 .cases h
theorem zww(hk:m.op.kind=6)(h0:0<=m.k/\m.k<6)(h1:0<=m.i/\m.i<w.counts.length)(h:yf w m=some r):nz w m r:=by
 have a1:iJ w m=(6*(w.counts.length-m.i)-m.k).toNat:=I5 hk;unfold yf at h;rcases zC h with h|h
 .obtain⟨r0,_,h⟩:=gQ.1 h;refine CM h λn _=>?_
  refine⟨0,.refl w,λhd=>?_,by rw[GA,a1];omega,.inl ar⟩;rw[GA,a1];unfold jo at hd|-;dsimp only at hd|-;by_cases q:m.k+1=6
  .rw[gz q]at hd|-;split at hd
   .cases hd
   .rename_i z;rw[gp z,I5 (by exact hk)];show(6*((w.counts.length:Int)-(m.i+1))-0).toNat+1+0<=_
    grind
  .rw[gp q]at hd|-;split at hd
   .cases hd
   .rename_i z;rw[gp z,I5 (by exact hk)];show(6*((w.counts.length:Int)-m.i)-(m.k+1)).toNat+1+0<=_;omega
 .cases h
end
section
variable {w:Wor} {m:fD} {v:fI} {g:Gr} {e:En} {r:Wor×fD×fG}
def Jq(p:m.pc=0):lX w m=xD w 0+3*w.zc.length+w.pins.length+4+res 2 w:=by unfold lX;rw[p];rfl
def Ng(p:m.pc=1):lX w m=xD w 0+3*w.zc.length+w.pins.length+3+res 2 w:=by unfold lX;rw[p];rfl
def Fj(p:m.pc=2):lX w m=xD w 0+3*w.zc.length+2+(w.pins.length-m.i.toNat)+res 2 w:=by unfold lX;rw[p];rfl
def Nh(p:m.pc=3):lX w m=xD w 0+3*w.zc.length+2+res 2 w:=by unfold lX;rw[p];rfl
theorem Da(p:m.pc=4):lX w m=xD w m.i.toNat+3*w.zc.length+1:=by unfold lX;rw[p];rfl
def Jr(p:m.pc=5):lX w m=xD w (m.i.toNat+1)+(xw w m.version+1-m.k.toNat)+3*w.zc.length+1:=by unfold lX;rw[p];rfl
def Ni(p:m.pc=6):lX w m=xD w (m.i.toNat+1)+3*w.zc.length+2:=by unfold lX;rw[p];rfl
theorem GQ(p:m.pc=8):lX w m=3*(w.zc.length-m.i.toNat)+1:=by unfold lX;rw[p];rfl
def Js(p:m.pc=9):lX w m=3*(w.zc.length-m.i.toNat):=by unfold lX;rw[p];rfl
def NT(p:m.pc=10):lX w m=3*(w.zc.length-m.i.toNat)-1:=by unfold lX;rw[p];rfl
theorem zx8{i:Nat}(h:w.zm[i]?=some x):xD w i=2+xw w x.version+xD w (i+1):=by
 grind [xD,nR,xw,List.drop_eq_getElem_cons]
theorem zzi{c:Nat}(vw:Vw c w w')(hc:c<18)(i:Nat):xD w' i=xD w i:=by
 rcases vw.lim with e|⟨z,_⟩
 .grind [xD]
 .omega
theorem Ta{m1:fD}(hN:w.zc.length<=100000000)(h0:0<=m1.i)(hk1:m1.op.kind=5)(p:m1.pc=8)(h1:iJ w m=a)(ha:3*(w.zc.length-m1.i.toNat)+1<=a):nz w m (i6 w m1):=by
 unfold i6;split
 .grind [CL,EU]
 .rename_i l hl;have il:=(gh.1 hl).1;have hw:IntKind.i64.wrap (m1.i+1)=m1.i+1:=z7 aw aw;unfold Ak;rw[hw];split
  .exact jx (.refl w) h1 (Eq.trans (vp (by exact hk1)) (Js cD)) (by dsimp only;omega)
  .refine jx (.refl w) h1 (Eq.trans (vp (by exact hk1)) (GQ (by exact p))) ?_
   grind
theorem Zf(su:qt w m v g e)(gw:qQ w)(ty:mB N w)(hN:N<=100000000)(lc:Ff w m v g e)(hk:m.op.kind=5)(h:qZ w m=some r):nz w m r:=by
 have gr:=zU.1 gw.ground;have i0:=su.i;have k0:=su.k;have tl:=ty.fP;have tm:=ty.lim;have tp:=gr.pins;unfold qZ at h;rcases zu h with⟨p,h⟩|⟨_,h⟩
 .obtain rfl:=gA h;split
  .exact jx (EU V V V V V V) ((vp hk).trans (Jq p)) (b:=xD w 0+3*w.zc.length+w.pins.length+3+res 2 w) (Eq.trans (vp (by exact hk)) (Ng cD)) aw
  .exact CL (.refl w) V (by rw[vp hk,Jq p];omega)
 rcases zu h with⟨p,h⟩|⟨_,h⟩
 .obtain rfl:=gA h;exact jx (.refl w) ((vp hk).trans (Ng p)) (b:=xD w 0+3*w.zc.length+2+(w.pins.length-0)+res 2 w) (Eq.trans (vp (by exact hk)) (Fj cD)) aw
 rcases zu h with⟨p,h⟩|⟨_,h⟩
 .have hi:=lc.mP p;have hw:IntKind.i64.wrap (m.i+1)=m.i+1:=z7 aw aw;refine CM h λx _=>?_
  unfold n7;rw[hw];split
  .exact jx (.refl w) ((vp hk).trans (Fj p)) (b:=xD w 0+3*w.zc.length+1) (Eq.trans (vp (by exact hk)) (Da cD)) aw
  .split
   .exact jx (.refl w) ((vp hk).trans (Fj p)) (Eq.trans (vp (by exact hk)) (Fj (by exact p))) (by dsimp only;omega)
   .exact jx (.refl w) ((vp hk).trans (Fj p)) (Eq.trans (vp (by exact hk)) (Nh cD)) aw
 rcases zu h with⟨p,h⟩|⟨_,h⟩
 .obtain rfl:=gA h;have a1:iJ w m=xD w 0+3*w.zc.length+2+res 2 w:=(vp hk).trans (Nh p);split
  .refine⟨2,⟨rfl,rfl,rfl,.inl ⟨gG _,by have:=gr.zl;show IntKind.i64.wrap (w.zl+1)<=_;rw[z7 aw aw];exact gO _⟩,.inr λ_ _=>V,λ_ _=>V,.inl V⟩,λ_=>?_,by rw[a1];omega,.inl ar⟩;have a2:iJ {w with zl:=IntKind.i64.wrap (w.zl+1)} {iV m 4 0 with zl:=IntKind.i64.wrap (w.zl+1)}=xD w 0+3*w.zc.length+1:=Eq.trans (vp (by exact hk)) (Da cD)
   grind
  .exact jx (.refl w) a1 (b:=xD w 0+3*w.zc.length+1) (Eq.trans (vp (by exact hk)) (Da cD)) aw
 rcases zu h with⟨p,h⟩|⟨_,h⟩
 .obtain rfl:=gA h;have a1:iJ w m=xD w m.i.toNat+3*w.zc.length+1:=(vp hk).trans (Da p);split
  .exact Ta (m1:=iV m 8 0) aw (by show(0:Int)<=0;decide) hk V a1 (by show 3*(w.zc.length-0)+1<=_;omega)
  .rename_i x hx;have il:=(gh.1 hx).1;have hw:IntKind.i64.wrap (m.i+1)=m.i+1:=z7 aw aw;have ls:=zx8 hx;unfold oO;rw[hw];split
   .refine jx (.refl w) a1 (b:=xD w (m.i.toNat+1)+3*w.zc.length+1) ?_ aw
    grind [vp,Da]
   .exact jx (.refl w) a1 (b:=xD w (m.i.toNat+1)+(xw w x.version+1-0)+3*w.zc.length+1) (Eq.trans (vp (by exact hk)) (Jr cD)) aw
 rcases zu h with⟨p,h⟩|⟨_,h⟩
 .obtain⟨v0,hv0,h⟩:=gQ.1 h;have en:xw w m.version=(qv v0).length:=by grind [xw]
  have a1:iJ w m=xD w (m.i.toNat+1)+(xw w m.version+1-m.k.toNat)+3*w.zc.length+1:=(vp hk).trans (Jr p);obtain⟨x,hx,_,_⟩:=lc.lim (.inl p);have il:=(gh.1 hx).1;refine CM h λy hy=>?_
  have kl:=(gh.1 hy).1
  have f16:(qv v0).length<=1000000:=by
   obtain⟨f1,f2⟩:=(gw.fW _ v0 hv0).1.mG
   have:∀l:List Gr,(∀g∈l,g.ends.length<=4)->(l.flatMap (·.ends)).length<=4*l.length:=λl=>by
    induction l with
    |nil=>intro _;simp
    |cons y l ih=>
     grind
   have:=this v0.zq λg hg=>(f2 g hg).1
   show(v0.zq.flatMap (·.ends)).length<=_;omega
  have hw:IntKind.i64.wrap (m.i+1)=m.i+1:=z7 aw aw;have hw2:IntKind.i64.wrap (m.k+1)=m.k+1:=z7 aw aw;unfold nD;rw[hw,hw2];split
  .refine jx (.refl w) a1 (b:=xD w (m.i.toNat+1)+3*w.zc.length+1) ?_ aw
   grind [vp,Da,xD]
  .split
   .refine jx (.refl w) a1 (b:=xD w (m.i.toNat+1)+(xw w m.version+1-(m.k+1).toNat)+3*w.zc.length+1) (Eq.trans (vp (by exact hk)) (Jr (by exact p))) aw
   .exact jx (.refl w) a1 (b:=xD w (m.i.toNat+1)+3*w.zc.length+2) (Eq.trans (vp (by exact hk)) (Ni cD)) aw
 rcases zu h with⟨p,h⟩|⟨_,h⟩
 .obtain⟨v0,hv0,h⟩:=gQ.1 h;obtain⟨x,hx,h⟩:=gQ.1 h;rcases zC h with h|h
  .obtain rfl:=gA h;have il:=(gh.1 hx).1;have hw:IntKind.i64.wrap (m.i+1)=m.i+1:=z7 aw aw;have vw:=zzh hv0 hx;refine jx vw ((vp hk).trans (Ni p)) (b:=xD w (m.i.toNat+1)+3*w.zc.length+1) ?_ aw;unfold Cr
   grind [vp,Da,xD,zzi]
  .cases h
 rcases zu h with⟨p,h⟩|⟨_,h⟩
 .obtain rfl:=gA h;exact Ta (m1:=m) aw i0 hk p ((vp hk).trans (GQ p)) (gG _)
 rcases zu h with⟨p,h⟩|⟨_,h⟩
 .refine CM h λl hl=>?_
  have il:=(gh.1 hl).1;have hw:IntKind.i64.wrap (m.i+1)=m.i+1:=z7 aw aw;rw[hw];split
  .exact jx (.refl w) ((vp hk).trans (Js p)) (Eq.trans (vp (by exact hk)) (NT cD)) (by dsimp only;omega)
  .exact jx (.refl w) ((vp hk).trans (Js p)) (Eq.trans (vp (by exact hk)) (GQ cD)) (by dsimp only;omega)
 rcases zu h with⟨p,h⟩|⟨_,h⟩
 .obtain⟨l,hl,h⟩:=gQ.1 h;have il:=(gh.1 hl).1;have hw:IntKind.i64.wrap (m.i+1)=m.i+1:=z7 aw aw;rcases zC h with h|h
  .obtain rfl:=gA h;have vw:=Gc (w:=w) m.i.toNat (As l);refine jx vw ((vp hk).trans (NT p)) (b:=3*(w.zc.length-(m.i.toNat+1))+1) ?_ aw
   grind [vp,GQ]
  .cases h
 .cases h
theorem RQ(su:qt w m v g e)(gw:qQ w)(ty:mB N w)(hN:N<=100000000)(lc:Lc w m v g e)(h:vj w m=some r):nz w m r:=by
 rcases CD su h with⟨k,h⟩|⟨k,h⟩|⟨k,h⟩|⟨k,h⟩|⟨k,h⟩|⟨k,h⟩
 .rcases lc with⟨_,lc⟩|⟨z,_⟩|⟨z,_⟩|⟨z,_⟩|⟨z,_⟩|⟨z,_⟩
  .exact zt0 su gw k (by have:=lc.pc;omega) h
  all_goals omega
 .grind [ztZ]
 .grind [zyT]
 .exact zwv k h
 .rcases lc with⟨z,_⟩|⟨z,_⟩|⟨z,_⟩|⟨z,_⟩|⟨_,lc⟩|⟨z,_⟩
  .omega
  .omega
  .omega
  .omega
  .grind [Zf]
  .omega
 .rcases lc with⟨z,_⟩|⟨z,_⟩|⟨z,_⟩|⟨z,_⟩|⟨z,_⟩|⟨_,lc⟩
  .omega
  .omega
  .omega
  .omega
  .omega
  .exact zww k ⟨su.k,lc.k⟩ ⟨su.i,lc.i⟩ h
end
def Bg(T nS L:Nat)(o:fQ):Nat:=
 if o.kind=1 then 16+3*(T-1) else if o.kind=2 then 5+3*(T-1) else if o.kind=3 then 3+18*(T-1) else if o.kind=4 then 1 else if o.kind=5 then 18*nS+3*L+T+4+2*(T-1) else 6*T
def yN(o:fQ):Bool:=o.kind == 3
def nN(w:Wor)(nS:Nat)(l:List fQ):Nat:=(l.map (Bg w.pins.length nS w.zc.length)).sum
def o8(w:Wor)(nS:Nat)(x:fM):Nat:=(if x.on=true then iJ w x.m else 0)+nN w nS (x.ops.drop (if x.on=true then x.done+1 else x.done))
def DO(w:Wor)(X:List fM)(nS:Nat):Nat:=(X.map (o8 w nS)).sum
def B0(X:List fM):Nat:=(X.map λx=>(x.ops.take x.done).countP yN).sum
def Ac(X:List fM):Nat:=(X.map λx=>x.ops.countP yN).sum
theorem PD{α:Type}(f f':α->Nat):∀{X:List α} {t:Nat} {x y:α} {c:Nat},X[t]?=some x->(∀(i:Nat) (z:α),i≠t->X[i]?=some z->f' z<=f z+c)->((X.set t y).map f').sum+f x<=(X.map f).sum+f' y+c*(X.length-1)
 |[],t,x,y,c,h,_=>by cases h
 |z::X,0,x,y,c,h,ho=>by
  have:z=x:=aq h
  subst this
  have key:∀(Y:List α),(∀(i:Nat) (u:α),Y[i]?=some u->f' u<=f u+c)->(Y.map f').sum<=(Y.map f).sum+c*Y.length:=λY=>by
   induction Y with
   |nil=>intro _;simp
   |cons u Y ih=>
    intro hY;have a:=ih λi v h=>hY (i+1) v tO
    have b:=hY 0 u aj;simp only[pP,rI,ry,Nat.mul_add,sY];omega
  have a:=key X λi u hu=>ho (i+1) u aw (aq hu)
  grind
 |z::X,t+1,x,y,c,h,ho=>by
  have hx:X[t]?=some x:=aq h
  have ih:=PD f f' (y:=y) (c:=c) hx λi u hi hu=>ho (i+1) u aw (aq hu)
  have b:=ho 0 z aw aj;have hl:=(gh.1 hx).1
  have e:c*(X.length+1-1)=c+c*(X.length-1):=by
   have:X.length+1-1=(X.length-1)+1:=aw
   grind
  grind
theorem zx9(gw:qQ w)(nS:Nat)(h:w.zm.length<=nS):xD w 0<=18*nS:=by
 have key:∀l:List fS,(∀r∈l,2+xw w r.version<=18)->(l.map λr=>2+xw w r.version).sum<=18*l.length:=λl=>by
  induction l with
  |nil=>intro _;simp
  |cons r l ih=>
   grind
 have a:=key w.zm λr hr=>by
  unfold xw;cases hv:w.ze[r.version.toNat]? with
  |none=>dsimp only;omega
  |some v=>
   dsimp only;obtain⟨f1,f2⟩:=(gw.fW _ v hv).1.mG
   have:∀l:List Gr,(∀g∈l,g.ends.length<=4)->(l.flatMap (·.ends)).length<=4*l.length:=λl=>by
    induction l with
    |nil=>intro _;simp
    |cons y l ih=>
     grind
   have:=this v.zq λg hg=>(f2 g hg).1
   show 2+(v.zq.flatMap (·.ends)).length<=18;omega
 have:xD w 0=(w.zm.map λr=>2+xw w r.version).sum:=rfl;omega
theorem zt2(gw:qQ w){nS:Nat}(hl:w.zm.length<=nS)(t:Int)(o:fQ)(given:List fN)(hk:1<=o.kind/\o.kind<=6)(hc:w.counts.length=w.pins.length):iJ w (Beg.ji t o given)<=Bg w.pins.length nS w.zc.length o:=by
 have ls:=zx9 gw nS hl;by_cases k2:o.kind=2
 .have kb:(Beg.ji t o given).op.kind=2:=by
   unfold Beg.ji
   grind
  have pb:(Beg.ji t o given).pc=0\/(Beg.ji t o given).pc=9:=by
   unfold Beg.ji;rw[gz k2];unfold Beg.De
   grind
  rw[o9 kb];have e:Bg w.pins.length nS w.zc.length o=5+3*(w.pins.length-1):=by grind [Bg]
  rw[e];rcases pb with p|p
  .rw[Jt p];exact gG _
  grind [Nn]
 .rw[kW k2];by_cases k1:o.kind=1
  .rw[xh k1,Np V];unfold Bg;rw[gz k1];exact gG _
  by_cases k3:o.kind=3
  .rw[E4 k3];unfold Bg;rw[k3];exact gG _
  by_cases k4:o.kind=4
  .rw[JK k4];unfold Bg
   grind
  by_cases k5:o.kind=5
  .rw[vp k5,Jq V];unfold Bg;rw[k5];show xD w 0+3*w.zc.length+w.pins.length+4+2*(w.pins.length-1)<=18*nS+3*w.zc.length+w.pins.length+4+2*(w.pins.length-1);omega
  .have k6:o.kind=6:=by omega
   rw[I5 k6];unfold Bg;rw[k6];show(6*((w.counts.length:Int)-0)-0).toNat<=6*w.pins.length;omega
theorem zxa(l:List fQ)(n:Nat):(l.take n).countP yN<=l.countP yN:=by
 grind [List.countP,yN,List.take_append_drop]
theorem PC{α:Type}(f g:α->Nat):∀(X:List α),(∀x∈X,f x<=g x)->(X.map f).sum<=(X.map g).sum
 |[],_=>gG _
 |x::X,h=>by
  have a:=PC f g X λy hy=>h y (pL _ hy)
  grind
def Rg(X:List fM):B0 X<=Ac X:=PC _ _ X λx _=>zxa x.ops x.done
theorem Rz{K:Nat}{s:Wor.iC}(gi:GI N K s.1 s.2.1)(hl:s.1.zm.length<=B0 s.2.1)(nS:Nat)(hS:Ac s.2.1<=nS)(p:Int)(hN:N<=100000000)(hK:K<=1099511627776):
  (qD s.2.1 s.2.1.length=[]/\xk s p=s)\/(DO (xk s p).1 (xk s p).2.1 nS+1<=DO s.1 s.2.1 nS/\(xk s p).1.zm.length<=B0 (xk s p).2.1/\Ac (xk s p).2.1=Ac s.2.1):=by
 rcases jO gi p hN hK with h|⟨t,x,o,r,hat,hx,ho,hsu,htm,hst,_,e,gi2⟩
 .exact .inl h
 .right
  rw[e];obtain⟨v,g,en,su,lc,nc⟩:=RG gi hx ho hN hK hst;obtain⟨c,vw,own,own1,hc18⟩:=RQ su gi.st.qI gi.st.ty hN lc hst;have no:=Bt gi hx ho;have htl:=(gh.1 hx).1;have el:=Rg s.2.1;have po:=gi.ops x (gu hx) o (gu ho);have gr:=zU.1 gi.st.qI.ground;have rst:∀l,nN r.1 nS l=nN s.1 nS l:=λl=>by unfold nN;rw[vw.pins,vw.fP]
  have hd:x.ops.drop x.done=o::x.ops.drop (x.done+1):=by
   grind [List.drop_eq_getElem_cons]
  have was:iJ s.1 (qk x t o)+nN s.1 nS (x.ops.drop (x.done+1))<=o8 s.1 nS x:=by
   unfold o8;cases hon:x.on with
   |true=>
    have en2:qk x t o=x.m:=cF
    grind
   |false=>
    have en2:qk x t o=Beg.ji t o x.given:=cF
    rw[en2,gp ar,gp ar,hd];have:=zt2 gi.st.qI (nS:=nS) aw (t:Int) o x.given po.kind (by have:=gr.counts;omega)
    grind [nN]
  have now:o8 r.1 nS (Wor.ql x r.2.1)+1+res c s.1<=iJ s.1 (qk x t o)+nN s.1 nS (x.ops.drop (x.done+1)):=by
   unfold o8;cases dn:r.2.1.done with
   |true=>
    rw[Wor.vU dn]
    grind
   |false=>
    grind [xu,iJ,nN,res]
  have oth:∀(i:Nat) (z:fM),i≠t->s.2.1[i]?=some z->o8 r.1 nS z<=o8 s.1 nS z+c:=λi z hi hz=>by
   unfold o8;rw[rst];cases hon:z.on with
   |false=>rw[gp ar,gp ar];omega
   |true=>
    show iJ r.1 z.m+nN s.1 nS (z.ops.drop (z.done+1))<=iJ s.1 z.m+nN s.1 nS (z.ops.drop (z.done+1))+c;obtain⟨os,hol,hti,_⟩:=gi.own;obtain⟨ow,how⟩:∃o,os[i]?=some o:=⟨_,gk (by have:=(gh.1 hz).1;omega)⟩;obtain⟨L,_,_,hh|⟨_,hh⟩⟩:=(hti i z ow hz how).open_
    .grind
    .obtain⟨_,_,_,sz,_⟩:=hh.lc;have:=vw.iJ z.m (by have:=sz.version;omega);omega
  refine⟨?_,?_,?_⟩
  .have key:=PD (o8 s.1 nS) (o8 r.1 nS) (y:=Wor.ql x r.2.1) hx oth;have rl:res c s.1=c*(s.2.1.length-1):=by unfold res;rw[gi.len]
   show((s.2.1.set t (Wor.ql x r.2.1)).map (o8 r.1 nS)).sum+1<=(s.2.1.map (o8 s.1 nS)).sum;omega
  .show r.1.zm.length<=B0 (s.2.1.set t (Wor.ql x r.2.1));have q:=Cal.Rn (λx:fM=>(x.ops.take x.done).countP yN) (b:=Wor.ql x r.2.1) hx
   have tk:(x.ops.take (x.done+1)).countP yN=(x.ops.take x.done).countP yN+if yN o=true then 1 else 0:=by
    grind
   have ml:∀w:Wor,(nR w).length=w.zm.length:=λw=>gC ..
   have m1:=ml r.1;have m2:=ml s.1
   have grow:(nR r.1).length<=(nR s.1).length+(if r.2.1.done=true/\yN o=true then 1 else 0):=by
    rcases vw.lim with z|⟨z,a,_,z2⟩
    .rw[z];omega
    .rcases hc18 with y|⟨y1,y2⟩
     .omega
     .rw[no]at y1;rw[z2,gz ⟨y2,by unfold yN;simp[y1]⟩,pz]
      grind
   have up:((Wor.ql x r.2.1).ops.take (Wor.ql x r.2.1).done).countP yN=(x.ops.take x.done).countP yN+(if r.2.1.done=true/\yN o=true then 1 else 0):=by
    cases dn:r.2.1.done with
    |true=>
     rw[Wor.vU dn]
     grind
    |false=>
     grind [xu]
   unfold B0 at hl|-;rw[up]at q;omega
  .show Ac (s.2.1.set t (Wor.ql x r.2.1))=Ac s.2.1;unfold Ac;rw[rp,RJ];rw[wU (by rw[gy,hx];rfl)]
def Mj{N K:Nat}{s:Wor.iC}(gi:GI N K s.1 s.2.1)(hl:s.1.zm.length<=B0 s.2.1)(nS:Nat)(hS:Ac s.2.1<=nS)(l:List Int):∀k,k<=l.length->N+k<=100000000->K+k<=1099511627776->
  (qD (ir s l k).2.1 (ir s l k).2.1.length=[]\/DO (ir s l k).1 (ir s l k).2.1 nS+k<=DO s.1 s.2.1 nS)/\(ir s l k).1.zm.length<=B0 (ir s l k).2.1/\Ac (ir s l k).2.1<=nS
 |0,_,_,_=>⟨.inr (gG _),hl,hS⟩
 |k+1,hk,hN,hK=>by
  obtain⟨i1,i2,i3⟩:=Mj gi hl nS hS l k aw aw aw;have g:=kh gi l k aw aw aw;rw[xZ (gk aw)];rcases Rz g i2 nS i3 l[k] aw aw with⟨a,b⟩|⟨a,b,c⟩
  .rw[b];exact⟨.inl a,i2,i3⟩
  .refine⟨?_,b,aw⟩;rcases i1 with i1|i1
   .exfalso
    have:xk (ir s l k) l[k]=ir s l k:=by unfold xk;rw[i1];rfl
    rw[this]at a;omega
   .exact .inr aw
theorem zvg{K:Nat}{s:Wor.iC}(gi:GI N K s.1 s.2.1)(p:Int)(hN:N<=100000000)(hK:K<=1099511627776):(xk s p).1.zl<=s.1.zl+1/\(xk s p).1.zc.length=s.1.zc.length:=by
 rcases jO gi p hN hK with⟨_,e⟩|⟨t,x,o,r,hat,hx,ho,hsu,htm,hst,_,e,gi2⟩
 .grind
 .rw[e];obtain⟨v,g,en,su,lc,nc⟩:=RG gi hx ho hN hK hst;obtain⟨c,vw,_⟩:=RQ su gi.st.qI gi.st.ty hN lc hst;refine⟨?_,vw.fP⟩;show r.1.zl<=_;rcases vw.ep with⟨_,z⟩|z
  .exact z
  .omega
theorem SJ{N K:Nat}{s:Wor.iC}(gi:GI N K s.1 s.2.1)(l:List Int):∀k,k<=l.length->N+k<=100000000->K+k<=1099511627776->(ir s l k).1.zl<=s.1.zl+k/\(ir s l k).1.zc.length=s.1.zc.length
 |0,_,_,_=>⟨by show s.1.zl<=_;omega,rfl⟩
 |k+1,hk,hN,hK=>by
  have ih:=SJ gi l k aw aw aw;rw[xZ (gk aw)];have:=zvg (kh gi l k aw aw aw) l[k] aw aw
  grind
def vy(s:fU):Nat:=(s.threads.map List.length).sum
def Dv(s:fU):Nat:=vy s*(23*vy s+6*s.threads.length+60)
def i4(s:fU):Nat:=(s.threads.map λl=>l.countP yN).sum
theorem FJ(out:List fK)(n:fK):(vY out n).length<=out.length+1:=by
 grind [vY]
theorem vu{α:Type}{f:List fK->α->List fK}{c:α->Nat}(h:∀out a,(f out a).length<=out.length+c a):∀(l:List α) (out:List fK),(l.foldl f out).length<=out.length+(l.map c).sum
 |[],out=>by simp
 |a::l,out=>by
  have h1:=vu h l (f out a)
  grind
theorem QH{α:Type}(k:Nat):∀l:List α,(l.map λ_=>k).sum=k*l.length
 |[]=>by simp
 |a::l=>by
  have:=QH k l
  grind
theorem Db{c:iq}(h:AQ c=true)(out:List fK):(kP out c).length<=out.length+4:=by
 have a:=vu (c:=λ_=>1) (λo a=>FJ o a) c.zc out;rw[QH]at a
 grind [wb,kP]
theorem HP(out:List fK)(o:fQ):(mw out o).length<=out.length+(if yN o=true then 4 else 0):=by
 unfold mw;split
 .rename_i q;unfold C3 at q;simp only[gH,gR]at q
  grind [yN,Db]
 .omega
def RV:∀l:List fQ,(l.map λo=>if yN o=true then 4 else 0).sum=4*l.countP yN
 |[]=>by simp
 |o::l=>by
  have:=RV l;rw[pP,rI,ed];split <;> omega
def Sq(f:List fQ->Nat)(k:Nat):∀T:List (List fQ),(T.map λl=>k*f l).sum=k*(T.map f).sum
 |[]=>by simp
 |l::T=>by
  have:=Sq f k T;simp only[pP,rI,Nat.mul_add];omega
theorem Qo(h:lM s=true):(xt s).length<=4+4*i4 s:=by
 obtain⟨p1,_⟩:=jF h
 have th:∀(out:List fK) (l:List fQ),(kJ out l).length<=out.length+4*l.countP yN:=λout l=>by
  have a:=vu (c:=λo=>if yN o=true then 4 else 0) HP l out;rw[RV]at a;exact a
 have a:=vu (c:=λl:List fQ=>4*l.countP yN) th s.threads (kP [] s.first);rw[Sq]at a;have b:=Db p1 [];have e:([]:List fK).length=0:=rfl
 grind [List.countP,yN,i4,xt,kJ,kP]
theorem Lp:∀T:List (List fQ),(T.map List.length).sum=(T.map λl=>l.countP yN).sum+(T.map λl=>l.countP λo=>!yN o).sum
 |[]=>rfl
 |l::T=>by
  have:=Lp T
  have e:l.length=l.countP yN+l.countP λo=>!yN o:=by
   have:=List.length_eq_countP_add_countP yN (l:=l);have f:(λa=>decide ¬yN a=true)=λo=>!yN o:=funext λo=>by cases yN o <;> rfl
   rw[f]at this;exact dG
  exact dH
theorem LM(f:List fQ->Nat):∀{T:List (List fQ)} {l:List fQ},l∈T->f l<=(T.map f).sum
 |x::T,l,h=>by
  rcases rJ.1 h with rfl|h
  .simp
  .have:=LM f h;exact dH
theorem zzR(h:lM s=true)(h8:vy s<=8){l:List fQ}(hl:l∈s.threads){o:fQ}(ho:o∈l):Bg s.threads.length (i4 s) (xt s).length o<=23*vy s+6*s.threads.length+60:=by
 obtain⟨_,p2,p3,_,p5,_⟩:=jF h;have nl:=Qo h;have lc:=Lp s.threads
 have n1:1<=vy s:=by
  grind [LM,List.length,List.length_pos_of_mem,vy]
 have sw:i4 s+(s.threads.map λl=>l.countP λo=>!yN o).sum=vy s:=lc.symm;unfold Bg;split
 .omega
 .split
  .omega
  .split
   .omega
   .split
    .omega
    .split
     .rename_i k;have a:=LM (λl=>l.countP λo=>!yN o) hl;have b:0<l.countP λo=>!yN o:=List.countP_pos_iff.2 ⟨o,ho,by unfold yN;rw[k];rfl⟩
      omega
     .omega
def Md{α:Type}(f:α->Nat)(B:Nat):∀l:List α,(∀x∈l,f x<=B)->(l.map f).sum<=l.length*B
 |[],_=>by simp
 |x::l,h=>by
  have a:=Md f B l λy hy=>h y (pL _ hy)
  have b:=h x (pX ..);rw[pP,rI,ry,rk,Nat.one_mul];omega
theorem H5{s:Sna}{n:Int}(h:lx s l n=(w,0)):w.zc=l.map kG/\w.zm=[]:=by
 unfold lx at h
 grind
theorem ztV(ok:v7 s)(hb:(qm s).2=0)(h8:vy s<=8):DO (iE s).1 (iE s).2.1 (i4 s)<=Dv s:=by
 obtain⟨q,hn⟩:=jI hb
 have fP:(qm s).1.zc.length=(xt s).length:=by
  have:=(H5 hn).1
  grind
 have mP:(qm s).1.pins.length=s.threads.length:=by
  have:=(xf ok hb).len;exact this.trans (gC ..)
 have e:DO (iE s).1 (iE s).2.1 (i4 s)=(s.threads.map λl=>nN (qm s).1 (i4 s) l).sum:=by
  show((s.threads.map kI).map (o8 (qm s).1 (i4 s))).sum=_;rw[rC];refine rq List.sum (pQ λl _=>?_);show 0+nN (qm s).1 (i4 s) l=_;omega
 rw[e]
 have key:∀T:List (List fQ),(∀l∈T,l∈s.threads)->(T.map λl=>nN (qm s).1 (i4 s) l).sum<=(T.map List.length).sum*(23*vy s+6*s.threads.length+60):=λT=>by
  induction T with
  |nil=>intro _;simp
  |cons l T ih=>
   intro hT;have a:=ih λx hx=>hT x (pL _ hx)
   have b:nN (qm s).1 (i4 s) l<=l.length*(23*vy s+6*s.threads.length+60):=by
    unfold nN;rw[fP,mP];exact Md _ _ l λo ho=>zzR q h8 (hT l (pX ..)) ho
   grind [Nat.add_mul]
 exact key s.threads λl h=>h
theorem zvU(ok:v7 s)(hb:(qm s).2=0):(q8 s).1.zm.length<=i4 s:=by
 obtain⟨q,hn⟩:=jI hb;obtain⟨_,_,_,p4,_,_⟩:=jF q
 have l0:(iE s).1.zm.length<=B0 (iE s).2.1:=by
  have:(qm s).1.zm=[]:=(H5 hn).2;show(qm s).1.zm.length<=_
  grind
 have aS:Ac (iE s).2.1<=i4 s:=by
  unfold Ac i4;show((s.threads.map kI).map λx=>x.ops.countP yN).sum<=_;rw[rC];exact gG _
 obtain⟨h1,h2,h3⟩:=Mj (xf ok hb) l0 (i4 s) aS s.zJ s.zJ.length (gG _) aw aw;exact pH h2 (pH (Rg _) h3)
theorem UW(s:fU):i4 s<=vy s:=by
 grind [Lp,i4,vy]
theorem ztu(ok:v7 s)(hb:(qm s).2=0)(h8:vy s<=8)(hp:Dv s<=s.zJ.length):qD (q8 s).2.1 (q8 s).2.1.length=[]:=by
 obtain⟨q,hn⟩:=jI hb;obtain⟨_,_,_,p4,_,_⟩:=jF q;have gi:=xf ok hb
 have l0:(iE s).1.zm.length<=B0 (iE s).2.1:=by
  have:(qm s).1.zm=[]:=(H5 hn).2;show(qm s).1.zm.length<=_
  grind
 have aS:Ac (iE s).2.1<=i4 s:=by
  unfold Ac i4;show((s.threads.map kI).map λx=>x.ops.countP yN).sum<=_;rw[rC];exact gG _
 obtain⟨h1,h2,h3⟩:=Mj gi l0 (i4 s) aS s.zJ s.zJ.length (gG _) aw aw;rcases h1 with h1|h1
 .exact h1
 .have pb:=ztV ok hb h8;have g:=kh gi s.zJ s.zJ.length (gG _) aw aw;rcases Rz g h2 (i4 s) h3 0 aw aw with⟨a,_⟩|⟨a,_,_⟩
  .exact a
  .omega
def PV:∀{X:List fM},(∀x∈X,x.done=x.ops.length)->Bn X=(X.map (·.ops.length)).sum
 |[],_=>rfl
 |x::X,h=>by
  have a:=PV λy hy=>h y (pL _ hy)
  have b:=h x (pX ..);unfold Bn at a|-;exact dH
theorem ZI(ok:v7 s)(h:(zZ s).2.2=0)(h8:vy s<=8)(hp:Dv s<=s.zJ.length):
  ∃b,Cal.iH (zZ s).1=(b,0)/\(∀c∈b,0<=c.iv)/\b.length=vy s:=by
 have hb:=D5 h;have e1:zZ s=((q8 s).2.2,(q8 s).1,0):=cw
 obtain⟨q,_⟩:=jI hb;obtain⟨_,_,_,p4,_,_⟩:=jF q;have al:=ztu ok hb h8 hp;have g:=EL ok hb s.zJ.length (gG _);have ao:=Is ok hb s.zJ.length (gG _)
 have dn:∀x∈(q8 s).2.1,x.done=x.ops.length:=λx hx=>by
  obtain⟨i,hi⟩:=gI.1 hx;have le:=(K7 g hi).2;by_cases z:x.done<x.ops.length
  .have:i∈qD (q8 s).2.1 (q8 s).2.1.length:=FA.2 ⟨(gh.1 hi).1,x,hi,z⟩
   grind
  .omega
 have off:∀(t:Nat) (x:fM),(q8 s).2.1[t]?=some x->x.on=false:=λt x hx=>by
  obtain⟨os,hol,hti,_⟩:=g.own;have tl:=(gh.1 hx).1;obtain⟨ow,how⟩:∃o,os[t]?=some o:=⟨_,gk (by rw[hol];exact tl)⟩;obtain⟨L,_,_,hh|⟨_,hh⟩⟩:=(hti t x ow hx how).open_
  .exact hh.1
  .have:=(gh.1 hh.at_).1
   grind
 have r0:RI (iE s):=by
  refine⟨K8 _ _,λe he=>(by cases he),[],rfl,⟨λi c h=>aR,λt x hx hon=>?_,λi j c d h=>aR⟩⟩;obtain⟨L,_,rfl⟩:=gT.1 ((gy ..).symm.trans (show(s.threads.map kI)[t]?=some x from hx));cases hon
 have ri:RI (q8 s):=MI (xf ok hb) r0 s.zJ s.zJ.length (gG _) aw aw;obtain⟨b,b1,b2,b3,b4,b5⟩:=Qe ok h;obtain⟨b',c1,c2⟩:=ri.bk;rw[e1]at b1;have eb:b'=b:=gA (c1.symm.trans b1);subst eb
 have all:∀c∈b',0<=c.iv:=λc hc=>by
  obtain⟨i,hi⟩:=gI.1 hc;obtain⟨t,x,_,hx,z|⟨_,z,_⟩⟩:=c2.own i c hi
  all_goals grind
 refine⟨b',b2,all,?_⟩;have ec:=(XF (l:=(zZ s).1) (by rw[b2])).1;rw[b2,List.countP_eq_length.2 (λc hc=>by simpa using all c hc),e1]at ec;have d:=RY (xf ok hb) s.zJ s.zJ.length (gG _) aw aw;have d':(q8 s).2.2.countP (·.done)+Bn (iE s).2.1=(iE s).2.2.countP (·.done)+Bn (q8 s).2.1:=d
 have z:Bn (iE s).2.1=0:=by
  show((s.threads.map kI).map (·.done)).sum=0;rw[rC];exact JD s.threads
 have z2:(iE s).2.2.countP (·.done)=0:=rfl
 have a:((q8 s).2.1.map (·.ops.length)).sum=(s.threads.map List.length).sum:=by
  rw[<-ao,rC]
  rfl
 have o:=PV dn;dsimp only at ec;unfold vy;omega
theorem sum_nil{α:Type}(f:α->Nat):∀{l:List α},(l.map f).sum=0↔∀x∈l,f x=0
 |[]=>by simp
 |x::l=>by
  have:=sum_nil f (l:=l)
  grind
theorem Sc(gw:qQ w):CW w=0↔∀v∈w.ze,∀e∈qv v,e.zj=0:=by
 unfold CW GP;rw[sum_nil];constructor
 .intro h v hv e he;obtain⟨g,hg,he⟩:=uc.1 (show e∈v.zq.flatMap (·.ends) from he);have a:=(sum_nil _).1 ((sum_nil _).1 (h v hv) g hg) e he;obtain⟨i,hi⟩:=gI.1 hv;have b:=((((gw.fW i v hi).1.mG).2 g hg).2.2 e he).1
  have c:0<=e.zj:=by
   unfold Slp.fV at b
   grind
  omega
 .intro h v hv;rw[sum_nil];intro g hg;rw[sum_nil];intro e he;rw[h v hv e (uc.2 ⟨g,hg,he⟩)]
  rfl
def zya(gw:qQ w)(h:E9 w=0):∀l∈w.zc,l.zj=0:=λl hl=>by
 have a:=(sum_nil _).1 h l hl;obtain⟨i,hi⟩:=gI.1 hl;have b:=(Eo (gw.fP i l hi).1).2.1;omega
theorem zvN(w:Wor):vT (kE w)=vT w:=by
 unfold vT
 congr 1
 unfold kE;dsimp only;rw[ui,rh,rh];constructor
 .rintro⟨v,hv,h⟩;obtain⟨v0,h0,_,hg⟩:=RW hv
  grind [kK]
 .rintro⟨v,hv,h⟩;obtain⟨i,hi⟩:=gI.1 hv;refine⟨{v with qX:=yS (w.zm.map (lY w)) i},gu (i:=i) ?_,h⟩
  grind
def Kq(w:Wor):∀n,vT (xQ n w)=vT w
 |0=>rfl
 |n+1=>by
  show vT (oo (xQ n w))=_;unfold oo;split
  .rw[zvN,Kq w n]
  .exact Kq w n
theorem zwH{K:Nat}(st:St N K w)(hN:N+j9 w<=100000000)(he:w.zl<=1000000)(hl:E9 w=CW w)(lock:w.lock=0)(pins:∀p∈w.pins,p=0):Aj (xQ 3 w)=decide (CW w=0):=by
 by_cases z:CW w=0
 .rw[rT z];exact zx1.2 (ztf ⟨lock,pins,(Sc st.qI).1 z,zya st.qI (hl.trans z)⟩ st hN he)
 .rw[rz z]
  have:vT (xQ 3 w)=false:=by
   rw[Kq];cases q:vT w with
   |false=>rfl
   |true=>exact absurd ((Sc st.qI).2 (Qj.1 q)) z
  grind [Aj]
theorem zvc(h:oV v):(qv v).length<=16:=by
 obtain⟨f1,f2⟩:=h.mG
 have:∀l:List Gr,(∀g∈l,g.ends.length<=4)->(l.flatMap (·.ends)).length<=4*l.length:=λl=>by
  induction l with
  |nil=>intro _;simp
  |cons y l ih=>
   grind
 have:=this v.zq λg hg=>(f2 g hg).1
 show(v.zq.flatMap (·.ends)).length<=16;omega
theorem zw3(gw:qQ w)(hl:w.zc.length<=600)(hm:w.zm.length<=8):j9 w<=2000:=by
 have gr:=zU.1 gw.ground
 have q:∀r∈w.zm.drop 0,qR w r<=18:=λr _=>by
  unfold qR;split
  .rename_i v hv;have:=zvc (gw.fW _ v hv).1;omega
  .omega
 have a:=Md (qR w) 18 (w.zm.drop 0) q;have b:Aa w 0=((w.zm.drop 0).map (qR w)).sum:=rfl;rw[sK]at a b;have:=gr.pins
 grind [j9]
theorem zv7{s:Sna}{n:Int}(h:lx s l n=(w,0)):w.zl=0:=by
 unfold lx at h
 grind
theorem RP(ok:v7 s)(h:(zZ s).2.2=0)(h8:vy s<=8):St 4600 4000 (zZ s).2.1/\j9 (zZ s).2.1<=2000/\(zZ s).2.1.zl<=4000:=by
 have hb:=D5 h;have e1:zZ s=((q8 s).2.2,(q8 s).1,0):=by grind [zZ]
 obtain⟨q,hn⟩:=jI hb;obtain⟨_,_,_,p4,_,_⟩:=jF q;have g:=EL ok hb s.zJ.length (gG _);have st:St 4600 4000 (q8 s).1:=g.st.mono aw aw;obtain⟨ep,el⟩:=SJ (xf ok hb) s.zJ s.zJ.length (gG _) aw aw;have e0:(iE s).1.zl=0:=zv7 hn
 have l0:(iE s).1.zc.length=(xt s).length:=by
  show(qm s).1.zc.length=_;rw[(H5 hn).1,gC]
 have nl:=Qo q;have lo:=zvU ok hb;have sl:=UW s;have el:(q8 s).1.zc.length=(iE s).1.zc.length:=el;have ep:(q8 s).1.zl<=(iE s).1.zl+s.zJ.length:=ep;rw[e1];refine⟨st,zw3 (w:=(q8 s).1) st.qI aw aw,?_⟩
 grind
def zvd(ok:v7 s)(h:(zZ s).2.2=0)(h8:vy s<=8)(hp:Dv s<=s.zJ.length):
  ∃b,Cal.iH (zZ s).1=(b,0)/\Saf.kc b b.length=true/\b.length=vy s/\kz (zZ s).2.1 3=(xQ 3 (zZ s).2.1,0)/\Aj (xQ 3 (zZ s).2.1)=decide ((Saf.y8 b).length=0):=by
 obtain⟨b,b1,b2,b3⟩:=ZI ok h h8 hp;have all:=Sf.2 b2;have k:=zsN ok h (by rw[b1];exact all);rw[b1]at k;obtain⟨_,k1,k2,k3,k4,_⟩:=k;obtain⟨st,s1,s2⟩:=RP ok h h8;refine⟨b,b1,all,b3,?_,?_⟩
 .unfold kz;rw[gz ⟨qf.2 st.qI,ar,ar⟩]
  rfl
 .rw[zwH st aw aw (k2.trans k1.symm) k3 k4,k1]
def zzj(h:kD s=false):Go.Wor.Je s:=by
 obtain⟨_,t1,_,t2⟩:=Hn h;exact⟨aw,λl hl=>by have:=(t2 l hl).1;omega⟩
theorem zyj(h:kD s=false)(h8:Go.Wor.vy s<=8):Go.Wor.vy s=vy s/\Go.Wor.MB s=(Dv s:Nat):=by
 obtain⟨_,t1,_,t2⟩:=Hn h;have e:Go.Wor.vy s=vy s:=rfl;refine⟨e,?_⟩;unfold Go.Wor.MB Dv;rw[e]at h8|-;have b:vy s*(23*vy s+6*s.threads.length+60)<=8*(23*8+6*1000+60):=eM h8 aw
 grind [vy,z7]
def quietEnds_sound(s:fU)(hs:s.AL):tj 4 [] [.agg (w7 s)] (Bo true) []:=by
 have m1:(s.zJ.map Go.Hy.encI).length=s.zJ.length:=gC ..;refine ab func4 ?_;refine .inl ⟨⟨true,[0,3,9,11],[0],[1,4,12]⟩,au,uH ?_⟩;refine ah (Ps s (S9 hs)) ?_;refine⟨λh0=>?_,λh0=>?_⟩
 .refine dd ?_;refine hU ?_
  refine hZ ?_
  refine hU ?_
  exact zbg
 have ok:=T8 h0 hs;have wc:=zzj h0;refine dd ?_;refine hU ?_
 refine ah (Go.Wor.PQ s wc) ?_;refine⟨λh1=>?_,λh1=>?_⟩
 .refine dd ?_;refine hU ?_
  refine hZ ?_
  refine hU ?_
  exact zbg
 have h8:Go.Wor.vy s<=8:=cG
 obtain⟨eo,em⟩:=zyj h0 h8;refine dd ?_;refine hU ?_
 refine ah (Go.Wor.PH s wc) ?_;refine hU ?_
 rw[m1,em];refine⟨λh2=>?_,λh2=>?_⟩
 .refine zad ?_
  exact zbg
 have hp:Dv s<=s.zJ.length:=bd
 refine dd ?_;obtain⟨_,_,t3,_⟩:=Hn h0
 have bl:(zZ s).1.length<=5000:=by
  by_cases q:(zZ s).2.2=0
  .have:=(zt7 ok q).2.1;omega
  .rw[(zwd q).1];decide
 refine ah (Kk s ok) ?_;have key:=λh=>zvd ok h (eo ▸ h8) hp
 have qI:=λh=>RP ok h (eo ▸ h8)
 have opn:=Saf.He (zZ s).1 bl;have cof:=Cal.QX (zZ s).1 aw;generalize zZ s=p at *;obtain⟨l,w,e⟩:=p;dsimp only at *;refine⟨λh3=>?_,λh3=>?_⟩
 .refine zad ?_
  exact zbg
 have e0:e=0:=aq h3
 subst e0;obtain⟨b,k1,k2,k3,k4,k5⟩:=key V;obtain⟨st,s1,s2⟩:=qI V;have okw:iw w:=Aq st.qI st.ty ar;obtain⟨K3,s3⟩:=Eh st 3 aw;have ok3:=Aq s3.qI s3.ty aw
 have ss:tj 14 [] [Go.Pla.Sw w,I 3] (.fJ [Go.Pla.Sw (xQ 3 w),I 0]) []:=by
  have:=Go.Wor.Zp (w:=w) (N:=4600) (K:=4000) 3 ar okw λ_=>⟨st,aw⟩
  rw[k4]at this;exact dG
 rw[k1]at cof opn;rw[gp aj]at opn;dsimp only at opn;rw[k2]at opn
 change zb _ _ _ _ (.fJ [Bb b,I 0]) _ at cof
 have mc:(b.map jR).length=b.length:=gC ..;have ma:((Saf.y8 b).map xx).length=(Saf.y8 b).length:=gC ..;generalize Saf.y8 b=op at *;refine dd ?_;refine ah cof ?_;refine ah opn ?_;refine hZ ?_
 rw[mc];refine ah (Go.Wor.PQ s wc) ?_;rw[k3,eo];refine⟨λh=>absurd h aj,λ_=>dd ?_⟩;refine hZ ?_
 refine ah ss ?_;refine ah Go.Wor.vz ?_;refine hZ ?_
 refine ah (Go.Wor.wt (xQ 3 w) (Go.Wor.Iv ok3)) ?_;rw[k5];refine⟨λh5=>?_,λh5=>?_⟩
 .have h6:op.length=0:=gL h5;refine dd ?_;rw[ma];refine⟨λ_=>dd ?_,λh=>absurd h (by rw[h6];decide)⟩;refine hZ ?_
  exact uI
 .have h6:¬op.length=0:=rE h5;refine dd ?_;rw[ma];refine⟨λh=>absurd tO (λq:op=[]=>h6 (by rw[q];rfl)),λ_=>dd ?_⟩;refine hZ ?_
  exact uI
end Go.Run
