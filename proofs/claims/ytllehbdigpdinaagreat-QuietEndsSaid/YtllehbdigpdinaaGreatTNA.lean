import Derived.Test.YtllehbdigpdinaaGreatTK
import Derived.Test.YtllehbdigpdinaaGreatT1
import Derived.Test.YtllehbdigpdinaaGreatTZ
set_option linter.all false
set_option maxRecDepth 100000
set_option maxHeartbeats 4000000
namespace Go.Wor
open Go.Ab Go.Proofs Tryz Go.Hy Go.Gat Go.Nam Go.Hos Go.Con Go.Sna
variable{α:Type}{f:α->α}{l:List α}{i:Nat}{x:α}{w w0:Wor}{v:fI}{E:Int}{m:fD}
def oI(f:α->α)(l:List α)(i:Nat):List α:=(l.take i).map f++l.drop i
def QK(f:α->α)(l:List α):oI f l 0=l:=by simp[oI]
def zxk(f:α->α)(l:List α):oI f l l.length=l.map f:=by simp[oI]
def zxl(f:α->α)(l:List α)(i:Nat):(oI f l i).length=l.length:=by simp[oI];omega
theorem wY(f:α->α)(l:List α)(i k:Nat):(oI f l i)[k]?=if k<i then (l[k]?).map f else l[k]?:=by
 unfold oI
 grind
theorem K9(h:l[i]?=some x):(oI f l i).set i (f x)=oI f l (i+1):=by
 apply pC
 intro k;have fE:=(gh.1 h).1;rw[gJ,zxl,wY,wY]
 grind
def Hk(h:l[i]?=some x)(hf:f x=x):oI f l i=oI f l (i+1):=by
 grind [K9,xV,wY]
def Dw(w:Wor)(p:Int):Bool:=p == 0 || p == w.zl+1
def yT(w:Wor):Int:=if w.pins.all (Dw w)=true/\w.zl<1000000000000 then w.zl+1 else w.zl
def Ue(v:fI):Bool:=(qv v).all λe=>e.zj == 0
def F7(w:Wor)(i:Int):Bool:=match w.ze[i.toNat]? with
 |some v=>Ue v
 |none=>false
def DA(w:Wor)(r:fS):Bool:=!r.gone && Go.Lim.wS r.at_ (yT w) && F7 w r.version
def lY(w:Wor)(r:fS):fS:=if DA w r=true then xG r else r
def kA(l:fT):fT:=if (l.drain && !l.closed && l.zj == 0)=true then As l else l
def kE(w:Wor):Wor:=⟨yT w,w.current,0,w.pins,w.ze.mapIdx (λk v=>{v with qX:=yS (w.zm.map (lY w)) k}),w.zc.map kA,w.counts,w.zm.map (lY w)⟩
def qR(w:Wor)(r:fS):Nat:=match w.ze[r.version.toNat]? with
 |some v=>2+(qv v).length
 |none=>2
def Aa(w:Wor)(i:Nat):Nat:=((w.zm.drop i).map (qR w)).sum
def zza{r:fS}(h:w.zm[i]?=some r)(hv:w.ze[r.version.toNat]?=some v):Aa w i=2+(qv v).length+Aa w (i+1):=by
 obtain⟨fE,rfl⟩:=gh.1 h;unfold Aa;rw[uk fE,pP,rI];unfold qR;rw[hv]
structure m8(w0 w:Wor)(E:Int)(i j:Nat):Prop where
 zl:w.zl=E
 current:w.current=w0.current
 lock:w.lock=1
 pins:w.pins=w0.pins
 counts:w.counts=w0.counts
 vg:w.ze.map (λv=>(v.snap,v.zq))=w0.ze.map λv=>(v.snap,v.zq)
 zm:w.zm=oI (lY w0) w0.zm i
 fP:w.zc=oI kA w0.zc j
def m8.at_{j:Nat}(b:m8 w0 w E i j){k:Nat}(h:w.ze[k]?=some v):∃v0,w0.ze[k]?=some v0/\v.snap=v0.snap/\v.zq=v0.zq:=by
 have:=rq (λl=>l[k]?) b.vg
 grind
def m8.ends{j:Nat}(b:m8 w0 w E i j){k:Nat}{v0:fI}(h:w.ze[k]?=some v)(h0:w0.ze[k]?=some v0):qv v=qv v0:=by
 obtain⟨v1,h1,_,h2⟩:=b.at_ h
 grind [qv]
def m8.fin(b:m8 w0 w (yT w0) w0.zm.length w0.zc.length)(g:qQ {w with lock:=0}):{w with lock:=0}=kE w0:=by
 obtain⟨ep,cu,lo,pi,ve,li,co,lm⟩:=w;obtain⟨b1,b2,b3,b4,b5,b6,b7,b8⟩:=b;dsimp only at b1 b2 b3 b4 b5 b6 b7 b8;rw[zxk]at b7 b8;subst b1 b2 b4 b5 b7 b8;unfold kE
 have:ve=w0.ze.mapIdx (λk v=>{v with qX:=yS (w0.zm.map (lY w0)) k}):=by
  apply pC
  intro k;rw[pF];have hk:=rq (λl=>l[k]?) b6;simp only[gy]at hk;cases hv:ve[k]? with
  |none=>
   grind
  |some v=>
   rw[hv]at hk;cases hv0:w0.ze[k]? with
   |none=>rw[hv0]at hk;cases hk
   |some v0=>
    rw[hv0]at hk;have hk:=Prod.mk.inj (gA hk);have hf:v.qX=yS (w0.zm.map (lY w0)) k:=(g.fW k v hv).2;obtain⟨s,gr,fr⟩:=v
    grind
 rw[this]
inductive J(w0:Wor):Wor->fD->Nat->Prop
 |p0 {m:fD} (h:m.pc=0):J w0 w0 m (4+w0.pins.length+Aa w0 0+3*w0.zc.length)
 |p1 {w:Wor} {m:fD} (h:m.pc=1) (b:m8 w0 w w0.zl 0 0):J w0 w m (3+w0.pins.length+Aa w0 0+3*w0.zc.length)
 |p2 {w:Wor} {m:fD} (i:Nat) (h:m.pc=2) (hi:m.i=i) (he:m.zl=w0.zl) (hl:i<w0.pins.length) (hp:∀j p,j<i->w0.pins[j]?=some p->Dw w0 p=true) (b:m8 w0 w w0.zl 0 0):J w0 w m (2+(w0.pins.length-i)+Aa w0 0+3*w0.zc.length)
 |p3 {w:Wor} {m:fD} (h:m.pc=3) (he:m.zl=w0.zl) (hp:w0.pins.all (Dw w0)=true) (b:m8 w0 w w0.zl 0 0):J w0 w m (2+Aa w0 0+3*w0.zc.length)
 |p4 {w:Wor} {m:fD} (i:Nat) (h:m.pc=4) (hi:m.i=i) (hl:i<=w0.zm.length) (he:m.zl=yT w0) (b:m8 w0 w (yT w0) i 0):J w0 w m (1+Aa w0 i+3*w0.zc.length)
 |p5 {w:Wor} {m:fD} (i k:Nat) (r:fS) (v:fI) (h:m.pc=5) (hi:m.i=i) (hk:m.k=k) (he:m.zl=yT w0) (hr:w0.zm[i]?=some r) (hm:m.version=r.version) (hg:r.gone=false) (hs:Go.Lim.wS r.at_ (yT w0)=true) (hv:w0.ze[r.version.toNat]?=some v) (hl:k<(qv v).length)
   (hz:∀j e,j<k->(qv v)[j]?=some e->e.zj=0) (b:m8 w0 w (yT w0) i 0):J w0 w m ((qv v).length-k+2+Aa w0 (i+1)+3*w0.zc.length)
 |p6 {w:Wor} {m:fD} (i:Nat) (r:fS) (h:m.pc=6) (hi:m.i=i) (he:m.zl=yT w0) (hr:w0.zm[i]?=some r) (hm:m.version=r.version) (hd:DA w0 r=true) (b:m8 w0 w (yT w0) i 0):J w0 w m (2+Aa w0 (i+1)+3*w0.zc.length)
 |p8 {w:Wor} {m:fD} (i:Nat) (h:m.pc=8) (hi:m.i=i) (hl:i<=w0.zc.length) (b:m8 w0 w (yT w0) w0.zm.length i):J w0 w m (1+3*(w0.zc.length-i))
 |p9 {w:Wor} {m:fD} (i:Nat) (l:fT) (h:m.pc=9) (hi:m.i=i) (hl:w0.zc[i]?=some l) (hd:l.drain=true) (hc:l.closed=false) (b:m8 w0 w (yT w0) w0.zm.length i):J w0 w m (3*(w0.zc.length-i))
 |Nf {w:Wor} {m:fD} (i:Nat) (l:fT) (h:m.pc=10) (hi:m.i=i) (hl:w0.zc[i]?=some l) (hd:l.drain=true) (hc:l.closed=false) (ha:l.zj=0) (b:m8 w0 w (yT w0) w0.zm.length i):J w0 w m (3*(w0.zc.length-i)-1)
def Ne(w0:Wor)(n:Nat)(r:Wor×fD×fG):Prop:=(r.2.1.done=true/\r.1=kE w0/\1<=n)\/∃n',n'<n/\r.2.1.done=false/\J w0 r.1 r.2.1 n'
def R7(i n:Nat)(hd0:m.done=false)(h:m.pc=8)(hi:m.i=i)(hl:i<=w0.zc.length)(b:m8 w0 w (yT w0) w0.zm.length i)(hb:w0.zc.length<1000000000)(hn:1+3*(w0.zc.length-i)<=n)(g:qQ (i6 w m).1):Ne w0 n (i6 w m):=by
 have hw:IntKind.i64.wrap (m.i+1)=m.i+1:=z7 aw aw;have it:m.i.toNat=i:=aw
 have e:=rq (λl=>l[i]?) b.fP;simp only[wY,gp (sR i)]at e;unfold i6 at g|-;rw[it,e]at g|-;cases hx:w0.zc[i]? with
 |none=>
  rw[hx]at g;have:=pW.1 hx;have hi2:i=w0.zc.length:=aw
  subst hi2;exact .inl ⟨rfl,b.fin g,aw⟩
 |some l=>
  have fE:=(gh.1 hx).1;dsimp only;unfold Ak;by_cases q:l.drain=true/\l.closed=false
  .rw[gz q];exact .inr ⟨_,aw,hd0,.p9 i l V hi hx q.1 q.2 b⟩
  .rw[gp q,hw];refine .inr ⟨_,aw,hd0,.p8 (i+1) h cy fE ⟨b.zl,b.current,b.lock,b.pins,b.counts,b.vg,b.zm,?_⟩⟩;refine b.fP.trans (Hk hx ?_);unfold kA
   grind
def zu1{n:Nat}{r:Wor×fD×fG}(hJ:J w0 w m n)(hd0:m.done=false)(g0:qQ w0)(hl0:w0.lock=0)(hb:w0.zc.length<1000000000/\w0.zm.length<1000000000)(h:qZ w m=some r)(g:qQ r.1):Ne w0 n r:=by
 have gr:=zU.1 g0.ground;have ge:=gr.zl;have we:IntKind.i64.wrap (w0.zl+1)=w0.zl+1:=z7 aw aw;unfold qZ at h;cases hJ with
 |p0 p=>
  rw[gz p,gz hl0]at h;cases h
  exact .inr ⟨_,aw,hd0,.p1 V ⟨rfl,rfl,rfl,rfl,rfl,rfl,(QK _ _).symm,(QK _ _).symm⟩⟩
 |p1 p b=>
  rw[gp aw,gz p]at h;cases h
  exact .inr ⟨_,by have:=gr.pins.1;omega,hd0,.p2 0 V V b.zl (by have:=gr.pins.1;omega) (λj _ hj=>by omega) b⟩
 |p2 i p hi he hl hp b=>
  have it:m.i.toNat=i:=aw
  have hw:IntKind.i64.wrap (m.i+1)=m.i+1:=z7 aw aU;obtain⟨x,hx⟩:∃x,w0.pins[i]?=some x:=⟨_,gk hl⟩;rw[gp aw,gp aw,gz p,it,b.pins,hx]at h;cases h
  dsimp only;have e2:IntKind.i64.wrap (m.zl+1)=w0.zl+1:=by rw[he,we]
  unfold n7;rw[hw,b.pins,e2];by_cases q:x≠0/\x≠w0.zl+1
  .rw[gz q]
   have e:yT w0=w0.zl:=by
    unfold yT;rw[gp];rintro⟨h1,_⟩;have:=gE.1 h1 x (gu hx);unfold Dw at this;exact dc
   exact .inr ⟨_,aw,hd0,.p4 0 V V aw (by rw[e];exact he) (by rw[e];exact b)⟩
  rw[gp q]
  have hp2:∀j p,j<i+1->w0.pins[j]?=some p->Dw w0 p=true:=by
   intro j p hj hpj;by_cases e:j=i
   .subst e;rw[hx]at hpj;cases hpj
    unfold Dw;simp;omega
   .exact hp j p aw hpj
  by_cases q2:m.i+1<w0.pins.length
  .rw[gz q2];exact .inr ⟨_,aw,hd0,.p2 (i+1) p cy he aw hp2 b⟩
  .rw[gp q2];refine .inr ⟨_,aw,hd0,.p3 V he (gE.2 λx hx=>?_) b⟩;obtain⟨j,hj⟩:=gI.1 hx;have:=(gh.1 hj).1;exact hp2 j x aw hj
 |p3 p he hp b=>
  rw[gp aw,gp aw,gp aw,gz p,b.zl,he]at h;cases h
  by_cases q:w0.zl<1000000000000
  .have e:yT w0=w0.zl+1:=by unfold yT;rw[gz ⟨hp,q⟩]
   rw[gz ⟨rfl,q⟩,we];exact .inr ⟨_,aw,hd0,.p4 0 V V aw e.symm ⟨e.symm,b.current,b.lock,b.pins,b.counts,b.vg,b.zm,b.fP⟩⟩
  .have e:yT w0=w0.zl:=by unfold yT;rw[gp (λh=>q h.2)]
   rw[gp (λh=>q h.2)];exact .inr ⟨_,aw,hd0,.p4 0 V V aw (by rw[e];exact he) (by rw[e];exact b)⟩
 |p4 i p hi hl he b=>
  have it:m.i.toNat=i:=aw
  have hw:IntKind.i64.wrap (m.i+1)=m.i+1:=z7 aw aw;have e:=rq (λl=>l[i]?) b.zm;simp only[wY,gp (sR i)]at e;rw[gp aw,gp aw,gp aw,gp aw,gz p,it,e]at h;cases hx:w0.zm[i]? with
  |none=>
   rw[hx]at h;have:=pW.1 hx;have hi2:i=w0.zm.length:=aw
   cases h
   exact R7 0 _ hd0 V V aw (hi2 ▸ b) hb.1 aw g
  |some r=>
   rw[hx]at h;cases h
   have fE:=(gh.1 hx).1;have la:=xR g0 hx;obtain⟨v,hv⟩:∃v,w0.ze[r.version.toNat]?=some v:=⟨_,gk aw⟩;have sq:=zza hx hv;dsimp only;unfold oO;rw[hw];by_cases q:r.gone=true\/Go.Lim.wS r.at_ m.zl=false
   .rw[gz q];rw[he]at q;refine .inr ⟨_,aw,hd0,.p4 (i+1) p cy fE he ⟨b.zl,b.current,b.lock,b.pins,b.counts,b.vg,b.zm.trans (Hk hx ?_),b.fP⟩⟩;unfold lY;rw[gp];unfold DA;rcases q with q|q <;> simp[q]
   .rw[gp q];rw[he]at q;have el:=Ea (g0.fW _ v hv).1;exact .inr ⟨_,aw,hd0,.p5 i 0 r v V hi V he hx V (by cases hgo:r.gone with|false=>rfl|true=>exact absurd (.inl hgo) q) (by cases hgo:Go.Lim.wS r.at_ (yT w0) with|true=>rfl|false=>exact absurd (.inr hgo) q) hv aw (λj _ hj=>by omega) b⟩
 |p5 i k x v p hi hk he hr hm hg hs hv hl hz b=>
  have it:m.i.toNat=i:=aw
  have kt:m.k.toNat=k:=aw
  have fE:=(gh.1 hr).1;have el:=Ea (g0.fW _ v hv).1;have hw:IntKind.i64.wrap (m.i+1)=m.i+1:=z7 aw aw;have hwk:IntKind.i64.wrap (m.k+1)=m.k+1:=z7 aw aw;rw[gp aw,gp aw,gp aw,gp aw,gp aw,gz p]at h;obtain⟨v',hv',h⟩:=gQ.1 h;obtain⟨e,hx,rfl⟩:=gT.1 h;have ee:qv v'=qv v:=b.ends hv' (by rw[hm];exact hv);rw[ee,kt]at hx;unfold nD;rw[hw,hwk,ee];by_cases q:e.zj≠0
  .rw[gz q];refine .inr ⟨_,aw,hd0,.p4 (i+1) V cy fE he ⟨b.zl,b.current,b.lock,b.pins,b.counts,b.vg,b.zm.trans (Hk hr ?_),b.fP⟩⟩;unfold lY;rw[gp];unfold DA F7;rw[hv];dsimp only;intro h2;simp only[gH]at h2;have:=gE.1 h2.2 e (gu hx);simp at this;exact q this
  rw[gp q]
  have hz2:∀j e,j<k+1->(qv v)[j]?=some e->e.zj=0:=by
   intro j e2 hj he2;by_cases e3:j=k
   .subst e3;rw[hx]at he2;cases he2
    exact Decidable.of_not_not q
   .exact hz j e2 aw he2
  by_cases q2:m.k+1<(qv v).length
  .rw[gz q2];exact .inr ⟨_,aw,hd0,.p5 i (k+1) x v p hi (by show m.k+1=_;omega) he hr hm hg hs hv aw hz2 b⟩
  .rw[gp q2];refine .inr ⟨_,aw,hd0,.p6 i x V hi he hr hm ?_ b⟩;unfold DA F7;rw[hg,hs,hv];refine gE.2 λe2 he2=>?_
   obtain⟨j,hj⟩:=gI.1 he2;have:=(gh.1 hj).1;simp[hz2 j e2 aw hj]
 |p6 i x p hi he hr hm hd b=>
  have it:m.i.toNat=i:=aw
  have fE:=(gh.1 hr).1;have hw:IntKind.i64.wrap (m.i+1)=m.i+1:=z7 aw aw;have e:=rq (λl=>l[i]?) b.zm;simp only[wY,gp (sR i)]at e;rw[gp aw,gp aw,gp aw,gp aw,gp aw,gp aw,gz p,it,e,hr]at h;obtain⟨v',hv',h⟩:=gQ.1 h;rw[gW]at h;split at h
  rotate_left
  .cases h
  cases h
  unfold Cr;rw[hw];refine .inr ⟨_,aw,hd0,.p4 (i+1) V cy fE he ⟨b.zl,b.current,b.lock,b.pins,b.counts,?_,?_,b.fP⟩⟩
  .show(w.ze.set m.version.toNat (x5 v')).map _=_;rw[rp,<-b.vg];exact xV _ _ (by rw[gy,hv'];rfl)
  .show w.zm.set i (xG x)=_;rw[b.zm,<-K9 hr]
   congr 1
   unfold lY;rw[gz hd]
 |p8 i p hi hl b=>
  rw[gp aw,gp aw,gp aw,gp aw,gp aw,gp aw,gp aw,gz p]at h;cases h
  exact R7 i _ hd0 p hi hl b hb.1 (gG _) g
 |p9 i l p hi hl hd hc b=>
  have it:m.i.toNat=i:=aw
  have fE:=(gh.1 hl).1;have hw:IntKind.i64.wrap (m.i+1)=m.i+1:=z7 aw aw;have e:=rq (λl=>l[i]?) b.fP;simp only[wY,gp (sR i)]at e;rw[gp aw,gp aw,gp aw,gp aw,gp aw,gp aw,gp aw,gp aw,gz p,it,e,hl]at h;cases h
  dsimp only;by_cases q:l.zj=0
  .rw[gz q];exact .inr ⟨_,aw,hd0,.Nf i l V hi hl hd hc q b⟩
  .rw[gp q,hw];refine .inr ⟨_,aw,hd0,.p8 (i+1) V cy fE ⟨b.zl,b.current,b.lock,b.pins,b.counts,b.vg,b.zm,b.fP.trans (Hk hl ?_)⟩⟩;unfold kA;rw[gp];simp[q]
 |Nf i l p hi hl hd hc ha b=>
  have it:m.i.toNat=i:=aw
  have fE:=(gh.1 hl).1;have hw:IntKind.i64.wrap (m.i+1)=m.i+1:=z7 aw aw;have e:=rq (λl=>l[i]?) b.fP;simp only[wY,gp (sR i)]at e;rw[gp aw,gp aw,gp aw,gp aw,gp aw,gp aw,gp aw,gp aw,gp aw,gz p,it,e,hl,gW,gz hd,hw]at h;cases h
  refine .inr ⟨_,aw,hd0,.p8 (i+1) V cy fE ⟨b.zl,b.current,b.lock,b.pins,b.counts,b.vg,b.zm,?_⟩⟩;show w.zc.set i (As l)=_;rw[b.fP,<-K9 hl]
  congr 1
  unfold kA;rw[gz (by rw[hd,hc,ha];rfl)]
end Go.Wor
namespace Go.Wor
open Go.Ab Go.Proofs Tryz Go.Gat Go.Nam Go.Hos Go.Con Go.Sna Go.Pla
open Go.Hy hiding encI
variable{w:Wor}{v:fI}{N:Nat}
def EM(p:Int):Bool:=p != 0
def Ge(e:En):Bool:=e.zj != 0
def IS(g:Gr):Bool:=g.ends.any Ge
def kK(v:fI):Bool:=v.zq.any IS
def Al(l:fT):Bool:=l.zj != 0 || l.drain && !l.closed
def AY(r:fS):Bool:=!r.gone
def AO(w:Wor):Bool:=w.lock == 0 && !w.pins.any EM
def vT(w:Wor):Bool:=!w.ze.any kK
def Aj(w:Wor):Bool:=AO w && vT w && !w.zm.any AY && !w.zc.any Al
structure BQ(w:Wor):Prop where
 lock:w.lock=0
 pins:∀p∈w.pins,p=0
 ends : ∀v∈w.ze, ∀e∈qv v, e.zj = 0
 fP:∀l∈w.zc,l.zj=0
def Qj:vT w=true↔∀v∈w.ze,∀e∈qv v,e.zj=0:=by
 have hb:∀v:fI,kK v=false↔∀e∈qv v,e.zj=0:=λv=>by
  unfold kK qv;rw[pq];constructor
  .intro h e he;obtain⟨g,hg,he⟩:=uc.1 he;have h1:=h g hg;unfold IS at h1;rw[ff,pq]at h1
   grind [Ge]
  .intro h g hg;unfold IS;rw[ff,pq]
   grind [Ge]
 grind [vT,List.any_eq_false]
structure C5(w:Wor):Prop extends BQ w where
 gone:∀r∈w.zm,r.gone=true
 shut:∀l∈w.zc,l.drain=true->l.closed=true
def zx1:Aj w=true↔C5 w:=by
 unfold Aj AO;simp only[gH,pK,pq,pT,Qj];constructor
 .rintro⟨⟨⟨⟨h1,h2⟩,h3⟩,h4⟩,h5⟩;refine⟨⟨h1,λp hp=>by have:=h2 p hp;simpa [EM] using this,h3,λl hl=>?_⟩,λr hr=>by have:=h4 r hr;simpa [AY] using this,λl hl hd=>?_⟩
  .grind [Al]
  grind [Al]
 .rintro⟨⟨h1,h2,h3,h6⟩,h4,h5⟩
  grind [EM,AY,Al]
def Fu(l:fT):(kA l).zj=l.zj/\(kA l).drain=l.drain/\(l.closed=true->(kA l).closed=true)/\(l.drain=true->l.zj=0->(kA l).closed=true):=by
 grind [kA]
def RW(h:v∈(kE w).ze):∃v0∈w.ze,v.snap=v0.snap/\v.zq=v0.zq:=by
 obtain⟨i,hi⟩:=gI.1 h;have hi:(w.ze.mapIdx (λk v=>{v with qX:=yS (w.zm.map (lY w)) k}))[i]?=some v:=hi
 grind
def BQ.Cp(h:BQ w)(he:w.zl<1000000000000):BQ (kE w)/\(kE w).zl=w.zl+1:=by
 refine⟨⟨rfl,h.pins,λv hv e hme=>?_,λl hl=>?_⟩,?_⟩
 .obtain⟨v0,h0,_,hg⟩:=RW hv;refine h.ends v0 h0 e ?_
  grind [qv]
 .obtain⟨l0,h0,rfl⟩:=gY.1 (show l∈w.zc.map kA from hl);rw[(Fu l0).1];exact h.fP l0 h0
 .show yT w=_;unfold yT;rw[gz ⟨gE.2 λp hp=>by simp[Dw,h.pins p hp],he⟩]
def BQ.still(h:BQ w){r:fS}(hr:0<=r.version/\r.version<w.ze.length):F7 w r.version=true:=by
 unfold F7;rw[gk aw];exact gE.2 λe he=>by simp[h.ends _ (pt aw) e he]
def C5.Cp{w:Wor}(h:C5 w)(he:w.zl<1000000000000):C5 (kE w):=by
 refine⟨(h.toBQ.Cp he).1,λr hr=>?_,λl hl hd=>?_⟩
 .obtain⟨r0,h0,rfl⟩:=gY.1 (show r∈w.zm.map (lY w) from hr);unfold lY;split
  .rfl
  .exact h.gone r0 h0
 .obtain⟨l0,h0,rfl⟩:=gY.1 (show l∈w.zc.map kA from hl);rw[(Fu l0).2.1]at hd;exact(Fu l0).2.2.1 (h.shut l0 h0 hd)
def BQ.UY(h:BQ w)(g:qQ w)(he:w.zl<=1000000)(g1:qQ (kE w)):C5 (kE (kE w)):=by
 have h1:=h.Cp aw;have h2:=h1.1.Cp (by rw[h1.2];omega);refine⟨h2.1,λr hr=>?_,λl hl hd=>?_⟩
 .obtain⟨r1,hr1,rfl⟩:=gY.1 (show r∈(kE w).zm.map (lY (kE w)) from hr);obtain⟨i,hi⟩:=gI.1 hr1;have la:=xR g1 hi;obtain⟨r0,hr0,e0⟩:=gY.1 (show r1∈w.zm.map (lY w) from hr1);obtain⟨i0,hi0⟩:=gI.1 hr0;have la0:=xR g hi0
  have ea:r1.at_=r0.at_:=by
   grind [lY]
  unfold lY;by_cases q:DA (kE w) r1=true
  .rw[gz q]
  .rw[gp q];cases hg:r1.gone with
   |true=>rfl
   |false=>
    refine absurd ?_ q;unfold DA;rw[hg,h1.1.still ⟨la.2.2.1,la.2.2.2.1⟩]
    have:yT (kE w)=w.zl+2:=by
     have:=h2.2;rw[h1.2]at this;exact this.trans aw
    rw[this];unfold Go.Lim.wS;simp;omega
 .obtain⟨l1,hl1,rfl⟩:=gY.1 (show l∈(kE w).zc.map kA from hl);rw[(Fu l1).2.1]at hd;exact(Fu l1).2.2.2 hd (h1.1.fP l1 hl1)
abbrev zxx(w:Wor)(m:fD)(r:Wor×fD×fG):Prop:=tj 49 [] [Sw w,Sm m] (Sr r.1 r.2.1 r.2.2) []
def S3{m:fD}{g:Gr}{e:En}{r:Wor×fD×fG}(su:qt w m v g e)(t:mB N w)(tm:iy m)(hN:N<=100000000)(hk:m.op.kind=5)(h:qZ w m=some r):zxx w m r:=
 OL hk (Ov su (J6 su) t tm hN h)
def zvs:∀(n:Nat) {N K:Nat} {w0 w:Wor} {m:fD} {v:fI} {g:Gr} {e:En},J w0 w m n->qQ w0->w0.lock=0->(w0.zc.length<1000000000/\w0.zm.length<1000000000)->St N K w->qt w m v g e->iy m->EX w m v g e->m.op.kind=5->N+n<=100000000->
  ∃n' m' K',nV n' w m (kE w0) m'/\1<=n'/\n'<=n/\St (N+n) K' (kE w0):=by
 intro n
 induction n using Nat.strongRecOn with
 |_ n ih=>
  intro N K w0 w m v g e hJ g0 hl hb st su tm lo hk hN;obtain⟨⟨w',m',ev⟩,h1,h2⟩:=O8 st su tm lo hk aw;have hp:=S3 su st.ty tm aw hk h1;have nx:=zu1 hJ su.done g0 hl hb h1 h2.st.qI;rcases nx with⟨hd,hc,hn⟩|⟨n',hn,hd',hJ'⟩
  .have hc:w'=kE w0:=hc;subst hc;exact⟨1,m',K+1,.last hp h2.ev hd,aw,hn,h2.st.mono aw (gG _)⟩
  .rcases h2.go with⟨hd,hf⟩|⟨⟨v',g',e',hs',lo'⟩,h3⟩
   .exact absurd (hd.symm.trans hd') ar
   .obtain⟨n2,m2,K',hg,h4,h5,h6⟩:=ih n' hn hJ' g0 hl hb h2.st hs' h2.tm lo' (by rw[h2.op];exact hk) aw;exact⟨n2+1,m2,K',.more hp h2.ev hs'.done hg,aw,aw,h6.mono aw (gG _)⟩
def GN:fQ:=⟨5,[],[],[],0,0,0,⟨[],[],[]⟩⟩
abbrev CX:fD:=⟨GN,0,0,0,0, -1,0,0,0,0,0,0,0,0,0,false,Beg.yL,vd⟩
def j9(w:Wor):Nat:=5+w.pins.length+3*w.zc.length+Aa w 0
def LH:iy CX:=⟨(by decide:i64 (-1)),(by decide:u64 0),(by decide:(-1:Int)<=0/\(0:Int)<=2147483646),ar,ar,(by decide:i64 0),(by decide:i64 0),λ_=>⟨⟨ar,λ_ h=>nomatch h⟩,⟨ar,λ_ h=>nomatch h⟩,⟨ar,λ_ h=>nomatch h⟩⟩,λ_ _=>V⟩
def oo(w:Wor):Wor:=if w.lock=0 then kE w else w
def KJ{K:Nat}(st:St N K w)(hN:N+j9 w<=100000000):∃n m' K',nV n w CX (oo w) m'/\1<=n/\n<=j9 w/\St (N+j9 w) K' (oo w):=by
 have gw:=st.qI;have gr:=zU.1 gw.ground;obtain⟨v,g,e,su⟩:=J1 gw (m:=CX) ⟨gO _,by show(0:Int)<_;have:=gr.pins.1;omega⟩ V V V V V V V V V;have lo:EX w CX v g e:=by constructor <;> dsimp only <;> omega
 unfold oo;by_cases hl:w.lock=0
 .rw[gz hl];have b1:=st.ty.fP;have b2:=st.ty.lim;obtain⟨n,m',K',h1,h2,h3,h4⟩:=zvs _ (J.p0 V) gw hl ⟨aw,aw⟩ st su LH lo V (by unfold j9 at hN;omega);exact⟨n,m',K',h1,h2,by unfold j9;omega,h4.mono (by unfold j9;omega) (gG _)⟩
 .rw[gp hl];obtain⟨⟨w',m',ev⟩,h1,h2⟩:=O8 st su LH lo V aw;have hp:=S3 su st.ty LH aw V h1;unfold qZ at h1;rw[gz V,gp hl]at h1;cases h1
  exact⟨1,_,K,.last hp h2.ev V,aw,by unfold j9;omega,st.mono aw (gG _)⟩
def xQ:Nat->Wor->Wor
 |0,w=>w
 |n+1,w=>oo (xQ n w)
theorem UE(w:Wor)(r:fS):qR (kE w) (lY w r)=qR w r:=by
 have hv:(lY w r).version=r.version:=by grind [lY]
 unfold qR;rw[hv];show(match (w.ze.mapIdx (λk v=>{v with qX:=yS (w.zm.map (lY w)) k}))[r.version.toNat]? with|some v=>_|none=>_)=_;rw[pF];cases w.ze[r.version.toNat]? <;> rfl
theorem zuo(w:Wor):j9 (kE w)=j9 w:=by
 have e:(w.zm.map (lY w)).map (qR (kE w))=w.zm.map (qR w):=by
  grind [List.map_map,List.map_congr_left,UE]
 unfold j9 Aa;show 5+w.pins.length+3*(w.zc.map kA).length+(((w.zm.map (lY w)).drop 0).map (qR (kE w))).sum=_
 grind
def Y4(w:Wor):j9 (oo w)=j9 w:=by
 grind [oo,zuo]
def wh(w:Wor):∀n,j9 (xQ n w)=j9 w
 |0=>rfl
 |n+1=>(Y4 _).trans (wh w n)
def Eh{N K:Nat}{w:Wor}(st:St N K w):∀n,N+n*j9 w<=100000000->∃K',St (N+n*j9 w) K' (xQ n w)
 |0,_=>⟨K,by rw[sL];exact st⟩
 |n+1,h=>by
  rw[rk]at h|-;obtain⟨K',s⟩:=Eh st n aw;have e:=wh w n;obtain⟨_,_,K2,_,_,_,h4⟩:=KJ s (by rw[e];omega);rw[e]at h4;exact⟨K2,h4.mono aw (gG _)⟩
def ztf{K:Nat}(h:BQ w)(st:St N K w)(hN:N+j9 w<=100000000)(he:w.zl<=1000000):C5 (xQ 3 w):=by
 have e1:xQ 1 w=kE w:=by
  show oo w=_;unfold oo;rw[gz h.lock]
 obtain⟨_,s⟩:=Eh st 1 aw;rw[e1]at s;have h1:=h.Cp aw;have h2:=h.UY st.qI he s.qI
 have e2:xQ 2 w=kE (kE w):=by
  show oo (xQ 1 w)=_;rw[e1];unfold oo;rw[gz h1.1.lock]
 show C5 (oo (xQ 2 w));rw[e2];unfold oo;rw[gz h2.lock];refine h2.Cp ?_;rw[(h1.1.Cp (by rw[h1.2];omega)).2,h1.2];omega
def kz(w:Wor)(n:Int):Wor×Int:=if xa w=true/\0<=n/\n<=10 then (xQ n.toNat w,0) else (ot,1)
end Go.Wor
namespace Go.Wor
open Go.Ab Go.Proofs Tryz Go.Gat Go.Nam Go.Hos Go.Con Go.Sna Go.Pla Go.Dep
open Go.Hy hiding encI
variable{H:zn}{f:FuncId}{caps:List C}{l:List FuncId}
def IE(f:FuncId):List C:=[.fn f [] []]
abbrev Fv(f:FuncId):C:=.agg (IE f)
abbrev GJ(l:List FuncId):C:=.fF 0 1 (l.map IE)
abbrev Rv(r:fS):C:=.agg (xz r)
abbrev Lv(r:fT):C:=.agg (qO r)
def Xt{l:List fS}(p:fS->Bool)(hcb:qh prog f=true)(hp:∀r∈l,tj f H ([Rv r]++caps) (Bo (p r)) H)(hl:l.length<4611686018427387904):
  tj 118 H [lR l,.fn f [] caps] (I (match l.findIdx? p with|some i=>(i:Int)|none=> -1)) H:=by
 refine zb.zN (fn:=f118) func118 V (uH ?_)
 refine qg.inv (λn t1 H1=>∃k,k+n=l.length/\H1=H/\(∀j,j<k->∀r,l[j]?=some r->p r=false)/\
   t1=((lR l)::.fn f [] caps::.za::.za::I 0::.za::.za::I (l.map xz).length::I k::tY ([.za,.za]))) l.length ?_ ?_
 .exact c9
 rintro n _ _ ⟨k,hk,rfl,hno,rfl⟩;conv=>whnf
 refine⟨λh=>?_,λh=>?_⟩
 .conv=>whnf
  have fE:k<l.length:=aq h
  refine⟨aw,xz l[k],bc,uH ?_⟩;refine za9 ?_;refine⟨λh2=>?_,λh2=>?_⟩
  .conv=>whnf
   refine zal ?_
   have:l.findIdx? p=some k:=by
    rw[gS];refine⟨fE,h2,λj hj=>?_⟩;simp[hno j hj _ (gk aw)]
   rw[this]
   rfl
  .conv=>whnf
   refine .inl ⟨rfl,n-1,_,_,aw,zp.mask [0,1,4,7,8] _ _,k+1,aw,rfl,?_,?_⟩
   .intro j hj r hr;by_cases hjk:j=k
    .subst hjk;rw[gk fE]at hr;cases hr
     exact h2
    .exact dV
   .rw[zw aw];rfl
 .conv=>whnf
  refine zal ?_
  have:l.findIdx? p=none:=by
   rw[gV];intro x hx;obtain⟨j,hj⟩:=gI.1 hx;have hjl:=(gh.1 hj).1;have:¬k<l.length:=aq h
   exact dU
  rw[this]
  rfl
def XA{l:List fS}(p:fS->Bool)(hcb:qh prog f=true)(hp:∀r∈l,tj f H ([Rv r]++caps) (Bo (p r)) H)(hl:l.length<4611686018427387904):
  tj 73 H [lR l,.fn f [] caps] (Bo (l.any p)) H:=by
 refine zb.zN (fn:=f73) func73 V (uH ?_);refine⟨_,_,Xt p hcb hp hl,dd ?_⟩;refine zax ?_;refine⟨λh=>?_,λh=>?_⟩ <;> rw[h]
 .exact di
 .exact di
def Xs{l:List fT}(p:fT->Bool)(hcb:qh prog f=true)(hp:∀r∈l,tj f H ([Lv r]++caps) (Bo (p r)) H)(hl:l.length<4611686018427387904):
  tj 114 H [lL l,.fn f [] caps] (I (match l.findIdx? p with|some i=>(i:Int)|none=> -1)) H:=by
 refine zb.zN (fn:=f114) func114 V (uH ?_)
 refine qg.inv (λn t1 H1=>∃k,k+n=l.length/\H1=H/\(∀j,j<k->∀r,l[j]?=some r->p r=false)/\
   t1=((lL l)::.fn f [] caps::.za::.za::I 0::.za::.za::I (l.map qO).length::I k::tY ([.za,.za]))) l.length ?_ ?_
 .exact c9
 rintro n _ _ ⟨k,hk,rfl,hno,rfl⟩;conv=>whnf
 refine⟨λh=>?_,λh=>?_⟩
 .conv=>whnf
  have fE:k<l.length:=aq h
  refine⟨aw,qO l[k],bc,uH ?_⟩;refine za9 ?_;refine⟨λh2=>?_,λh2=>?_⟩
  .conv=>whnf
   refine zal ?_
   have:l.findIdx? p=some k:=by
    rw[gS];refine⟨fE,h2,λj hj=>?_⟩;simp[hno j hj _ (gk aw)]
   rw[this]
   rfl
  .conv=>whnf
   refine .inl ⟨rfl,n-1,_,_,aw,zp.mask [0,1,4,7,8] _ _,k+1,aw,rfl,?_,?_⟩
   .intro j hj r hr;by_cases hjk:j=k
    .subst hjk;rw[gk fE]at hr;cases hr
     exact h2
    .exact dV
   .rw[zw aw];rfl
 .conv=>whnf
  refine zal ?_
  have:l.findIdx? p=none:=by
   rw[gV];intro x hx;obtain⟨j,hj⟩:=gI.1 hx;have hjl:=(gh.1 hj).1;have:¬k<l.length:=aq h
   exact dU
  rw[this]
  rfl
def Xz{l:List fT}(p:fT->Bool)(hcb:qh prog f=true)(hp:∀r∈l,tj f H ([Lv r]++caps) (Bo (p r)) H)(hl:l.length<4611686018427387904):
  tj 75 H [lL l,.fn f [] caps] (Bo (l.any p)) H:=by
 refine zb.zN (fn:=f75) func75 V (uH ?_);refine⟨_,_,Xs p hcb hp hl,dd ?_⟩;refine zax ?_;refine⟨λh=>?_,λh=>?_⟩ <;> rw[h]
 .exact di
 .exact di
def Xr(p:FuncId->Bool)(hcb:qh prog f=true)(hp:∀r∈l,tj f H ([Fv r]++caps) (Bo (p r)) H)(hl:l.length<4611686018427387904):
  tj 116 H [GJ l,.fn f [] caps] (I (match l.findIdx? p with|some i=>(i:Int)|none=> -1)) H:=by
 refine zb.zN (fn:=f116) func116 V (uH ?_)
 refine qg.inv (λn t1 H1=>∃k,k+n=l.length/\H1=H/\(∀j,j<k->∀r,l[j]?=some r->p r=false)/\
   t1=((GJ l)::.fn f [] caps::.za::.za::I 0::.za::.za::I (l.map IE).length::I k::tY ([.za,.za]))) l.length ?_ ?_
 .exact c9
 rintro n _ _ ⟨k,hk,rfl,hno,rfl⟩;conv=>whnf
 refine⟨λh=>?_,λh=>?_⟩
 .conv=>whnf
  have fE:k<l.length:=aq h
  refine⟨aw,IE l[k],bc,uH ?_⟩;refine za9 ?_;refine⟨λh2=>?_,λh2=>?_⟩
  .conv=>whnf
   refine zal ?_
   have:l.findIdx? p=some k:=by
    rw[gS];refine⟨fE,h2,λj hj=>?_⟩;simp[hno j hj _ (gk aw)]
   rw[this]
   rfl
  .conv=>whnf
   refine .inl ⟨rfl,n-1,_,_,aw,zp.mask [0,1,4,7,8] _ _,k+1,aw,rfl,?_,?_⟩
   .intro j hj r hr;by_cases hjk:j=k
    .subst hjk;rw[gk fE]at hr;cases hr
     exact h2
    .exact dV
   .rw[zw aw];rfl
 .conv=>whnf
  refine zal ?_
  have:l.findIdx? p=none:=by
   rw[gV];intro x hx;obtain⟨j,hj⟩:=gI.1 hx;have hjl:=(gh.1 hj).1;have:¬k<l.length:=aq h
   exact dU
  rw[this]
  rfl
def Xy(p:FuncId->Bool)(hcb:qh prog f=true)(hp:∀r∈l,tj f H ([Fv r]++caps) (Bo (p r)) H)(hl:l.length<4611686018427387904):
  tj 67 H [GJ l,.fn f [] caps] (Bo (l.any p)) H:=by
 refine zb.zN (fn:=f67) func67 V (uH ?_);refine⟨_,_,Xr p hcb hp hl,dd ?_⟩;refine zax ?_;refine⟨λh=>?_,λh=>?_⟩ <;> rw[h]
 .exact di
 .exact di
def XJ(w:Wor)(f:FuncId)(b:Bool)(hc:qh prog f=true)(h:tj f [] [Cw w] (Bo b) []):tj 68 [oW w] ([Fv f]++[.ref 0 [] 8 0 0]) (Bo (!b)) [oW w]:=by
 refine zb.zN (fn:=f68) func68 V (uH ?_);rw[hc];cases b
 all_goals
  refine⟨_,_,h.frame V _,dd ?_⟩;refine hZ ?_
  exact db
def Hl(w:Wor)(l:List FuncId)(p:FuncId->Bool)(h:∀f∈l,qh prog f=true/\tj f [] [Cw w] (Bo (p f)) [])(hl:l.length<4611686018427387904):tj 36 [] [Cw w,GJ l] (Bo (!l.any λf=>!p f)) []:=by
 refine ab func36 ?_;have hcon:=Xy (H:=[oW w]) (f:=68) (l:=l) (caps:=[.ref 0 [] 8 0 0]) (λf=>!p f) au (λr hr=>XJ w r (p r) (h r hr).1 (h r hr).2) hl;refine af [0] (hcon) ?_;refine⟨λq=>?_,λq=>?_⟩
 all_goals
  rw[q];refine zad ?_
  exact uI
def Xa(p:Int):tj 70 [] [I p] (Bo (EM p)) []:=by
 refine ab func70 ?_;refine⟨λh=>?_,λh=>?_⟩
 all_goals
  refine dd ?_
  (exact⟨.inl V,_,.refl _,uN (by exact h.symm)⟩)
def WV(w:Wor)(hw:w.pins.length<4611686018427387904):tj 37 [] [Cw w] (Bo (AO w)) []:=by
 refine ab func37 ?_;refine⟨λh1=>?_,λh1=>?_⟩
 .have e:AO w=!w.pins.any EM:=by unfold AO;simp at h1;rw[h1];rfl
  rw[e];refine dd ?_;have hcon:=J9 (H:=[]) (f:=70) (l:=w.pins) (caps:=[]) EM au (λr _=>Xa r) hw;refine ah hcon ?_;refine⟨λq=>?_,λq=>?_⟩
  all_goals
   rw[q];refine zad ?_
   exact uI
 .have e:AO w=false:=by unfold AO;simp at h1;simp[h1]
  rw[e];exact dp
def Xp(e:En):tj 72 [] [Go.Slp.Ev e] (Bo (Ge e)) []:=by
 refine ab func72 ?_;refine⟨λh=>?_,λh=>?_⟩
 all_goals
  refine dd ?_
  (exact⟨.inl V,_,.refl _,uN (by exact h.symm)⟩)
def Xn(r:fS):tj 74 [] [Rv r] (Bo (AY r)) []:=by
 refine ab func74 ?_;refine⟨λh=>?_,λh=>?_⟩
 all_goals
  refine dd ?_
  (exact⟨.inl V,_,.refl _,uN (by unfold AY;rw[h];rfl)⟩)
def X8(w:Wor)(hw:w.zm.length<4611686018427387904):tj 39 [] [Cw w] (Bo (!w.zm.any AY)) []:=by
 refine ab func39 ?_;have hcon:=XA (H:=[]) (f:=74) (l:=w.zm) (caps:=[]) AY au (λr _=>Xn r) hw;refine ah hcon ?_;refine⟨λq=>?_,λq=>?_⟩
 all_goals
  rw[q];refine zad ?_
  exact uI
def Yf(l:fT):tj 76 [] [Lv l] (Bo (Al l)) []:=by
 obtain⟨a,b,c,d⟩:=l;refine ab func76 ?_;refine⟨λh1=>?_,λh1=>?_⟩
 .refine zad ?_
  (exact⟨.inl V,_,.refl _,uN cz⟩)
 .refine dd ?_;cases b
  ·(refine yb (dd ?_))
   (exact⟨.inl V,_,.refl _,uN cz⟩)
  ·(refine ya (dd ?_))
   cases d
   ·(refine yb (dd ?_))
    (exact⟨.inl V,_,.refl _,uN cz⟩)
   ·(refine ya (dd ?_))
    (exact⟨.inl V,_,.refl _,uN cz⟩)
def Ya(w:Wor)(hw:w.zc.length<4611686018427387904):tj 40 [] [Cw w] (Bo (!w.zc.any Al)) []:=by
 refine ab func40 ?_;have hcon:=Xz (H:=[]) (f:=76) (l:=w.zc) (caps:=[]) Al au (λr _=>Yf r) hw;refine ah hcon ?_;refine⟨λq=>?_,λq=>?_⟩
 all_goals
  rw[q];refine zad ?_
  exact uI
structure Jg(w:Wor):Prop where
 ze:w.ze.length<4000000000000000000
 zq:∀v∈w.ze,v.zq.length<4000000000000000000/\∀g∈v.zq,g.ends.length<4000000000000000000
 pins:w.pins.length<4000000000000000000
 zc:w.zc.length<4000000000000000000
 zm:w.zm.length<4000000000000000000
def X9(w:Wor)(hw:Jg w):tj 38 [] [Cw w] (Bo (vT w)) []:=by
 have m2:(w.ze.map zM).length=w.ze.length:=gC ..;have b2:=hw.ze;refine ab func38 ?_;rw[m2];refine qg.seq w.ze.length (λk=>(.za::.ref 0 [] 8 0 0::Bo false::.za::.za::.za::.za::.za::(lV w.ze)::I w.ze.length::I k::tY ([.za,.za,.za,.za,.za,.za,.za]))) (λk=>[oW w]) (λk=>∀j,(h:j<w.ze.length)->j<k->kK w.ze[j]=false) ?_ aj (λk hk hr=>?_) (λhr=>?_)
 .exact cC
 .obtain⟨v,hx⟩:∃v,v=w.ze[k]:=⟨_,rfl⟩;have hv:v∈w.ze:=by rw[hx];exact pt hk
  have hg:(w.ze.map zM)[k]?=some (zM v):=by rw[gy,gk hk,hx];rfl
  have mg:(v.zq.map zK).length=v.zq.length:=gC ..
  have bad:kK v=true->vT w=false:=λh=>by
   unfold vT;rw[rh.2 ⟨v,hv,h⟩];rfl
  have bg:=(hw.zq v hv).1;conv=>whnf
  refine zan ?_
  rw[mg];refine qg.seq v.zq.length (λj=>[.za,.ref 0 [] 8 0 0,Bo false,.za,.ref 1 [] 5 0 0,.za,.za,.za,lV w.ze,I w.ze.length,I k,.za,.za,.za,.za,lG v.zq,I v.zq.length,I j,.za,.za,.za,.za,.za,.za,.za,.za]) (λj=>[oW w,⟨1,138,5,[zM v],0⟩]) (λj=>∀i,(h:i<v.zq.length)->i<j->IS v.zq[i]=false) ?_ aj (λj hj hrj=>?_) (λhrj=>?_)
  .exact cC
  .obtain⟨g,hxg⟩:∃g,g=v.zq[j]:=⟨_,rfl⟩;have hgm:g∈v.zq:=by rw[hxg];exact pt hj
   have hgg:(v.zq.map zK)[j]?=some (zK g):=by rw[gy,gk hj,hxg];rfl
   have be:=(hw.zq v hv).2 g hgm;have hcon:=Pz (H:=[]) (f:=72) (l:=g.ends) (caps:=[]) Ge au (λr _=>Xp r) aw;conv=>whnf
   refine uF ?_;(refine tc hgg ?_)
   refine ah hcon ?_;refine⟨λq=>?_,λq=>?_⟩
   .rw[bad (rh.2 ⟨g,hgm,q⟩)];refine dd ?_;refine zaw ?_
    (try (refine .inr ⟨aj,uH ?_⟩))
    exact uI
   .refine dd ?_;refine .inl ⟨rfl,?_,λi hi hij=>?_⟩
    .rw[zw aw];exact cE 2
    .by_cases e:i=j
     .subst e;rw[<-hxg];exact q
     .exact hrj i hi aw
  .have no:kK v=false:=by
    unfold kK;rw[pq];intro x hx;obtain⟨i,hi,rfl⟩:=pJ.1 hx;simp[hrj i hi hi]
   refine uD ?_;refine .inl ⟨rfl,?_,λi hi hij=>?_⟩
   .exact du
   .by_cases e:i=k
    .subst e;rw[<-hx];exact no
    .exact hr i hi aw
 .have e:vT w=true:=by
   unfold vT;rw[pK,pq];intro x hx;obtain⟨i,hi,rfl⟩:=pJ.1 hx;simp[hr i hi hi]
  rw[e];exact gf
def wt(w:Wor)(hw:Jg w):tj 15 [] [Cw w] (Bo (Aj w)) []:=by
 have h:=Hl w [37,38,39,40] (λf=>if f=37 then AO w else if f=38 then vT w else if f=39 then !w.zm.any AY else !w.zc.any Al) (by
  intro f hf;simp only[rJ,List.not_mem_nil,or_false]at hf;rcases hf with rfl|rfl|rfl|rfl
  .exact⟨au,WV w (by have:=hw.pins;omega)⟩
  .exact⟨au,X9 w hw⟩
  .exact⟨au,X8 w (by have:=hw.zm;omega)⟩
  .exact⟨au,Ya w (by have:=hw.zc;omega)⟩) ar
 have e:Aj w=!([37,38,39,40].any λf=>!(if f=37 then AO w else if f=38 then vT w else if f=39 then !w.zm.any AY else !w.zc.any Al)):=by
  show Aj w=!(!AO w || (!vT w || (!(!w.zm.any AY) || (!(!w.zc.any Al) || false))));unfold Aj;cases AO w <;> cases vT w <;> cases w.zm.any AY <;> cases w.zc.any Al <;> rfl
 rw[e];refine ab func15 ?_;have h2:=h.pre (.cons (.refl _) (.cons (λE y hy=>WC.share 1 1 _ E y hy) .nil));refine ah h2 ?_;refine⟨λq=>?_,λq=>?_⟩
 all_goals
  rw[q];refine zad ?_
  exact uI
abbrev Uo:C:=.agg [I 5,Tx [],Tx [],Tx [],I 0,I 0,I 0,.fF 1 0 [],.fF 1 0 [],.fF 1 0 []]
def WC.U7{a b:List C}(h:i7 a b):WC (.agg a) (.agg b):=λE y hl=>by
 cases hl with
 |agg cs ys h1 h2 h3=>
  have h:=(h.LL (E:=E) (ys:=ys.toList) ⟨aq h1,λi c y e1 e2=>h2 i c y e1 uZ⟩);exact .agg b ys (aq h.1) (λi c y e1 e2=>h.2 i c y e1 uZ) h3
def Wp{n:Nat}{w w':Wor}{t:Int}{o:fQ}{m m':fD}{given:List fN}(hb:tj 48 [] [I t,.agg (yW o),lA given] (Sm m) [])(hg:nV n w m w' m')(hn:n<=10000):tj 35 [] [Sw w,I t,.agg (yW o),lA given] (.fJ [Sw w',.agg (xx m'.answer),I n]) []:=by
 refine ab func35 ?_;refine ah hb ?_;refine qg.inv (λi t1 H1=>∃(k:Nat) (wk:Wor) (mk:fD),k+i=n/\nV i wk mk w' m'/\t1=(.za::.za::.za::.za::.ref 0 [] 8 0 0::.za::.ref 1 [] 10 0 0::.za::.ref 2 [] 8 0 0::.ref 3 [] 13 0 0::I 0::.ref 4 [] 44 0 0::.ref 5 [] 8 0 0::tY (.za::I k::tY (tY (tY ([])))))/\H1=[oW w,⟨1,58,10,[yW o],0⟩,⟨1,38,8,[oP],0⟩,⟨1,66,13,[xx ⟨0,0,0,0,0,0,0,vd⟩],0⟩,oM mk,oW wk]) n ?_ ?_
 .exact⟨_,_,cC,0,w,m,aj,hg,rfl,rfl⟩
 rintro i _ _ ⟨k,wk,mk,hk,hg,rfl,rfl⟩;have hi:1<=i:=by cases hg <;> omega
 conv=>whnf
 refine uF ?_;cases hg with
 |last h he hd=>
  refine ah h ?_;refine⟨λh=>absurd h (aq he),λ_=>dd ?_⟩;refine .inl ⟨⟨false,[0,1],[6,7],[]⟩,au,uH ?_⟩;refine hU ?_
  refine⟨λ_=>dd ?_,λh=>absurd ((hd).symm.trans h:true=false) ar⟩;refine .inl ⟨⟨false,[0,2],[4,5],[]⟩,au,uH ?_⟩;refine hU ?_
  refine zaJ ?_;rw[zw aw,hk];exact uI
 |more h he hd hg=>
  refine ah h ?_;refine⟨λh=>absurd h (aq he),λ_=>dd ?_⟩;refine .inl ⟨⟨false,[0,1],[6,7],[]⟩,au,uH ?_⟩;refine hU ?_
  exact za6
end Go.Wor
namespace Go.Wor
open Go.Ab Go.Proofs Tryz Go.Gat Go.Nam Go.Hos Go.Con Go.Sna Go.Pla
open Go.Hy hiding encI
variable{α:Type}
def JE(f:α->Nat)(l:List α){k:Nat}(h:k<l.length):((l.take (k+1)).map f).sum=((l.take k).map f).sum+f l[k]:=by
 grind [List.take_succ_eq_append_getElem]
def NN{α:Type}(f:α->Nat)(b:Nat):∀(l:List α),(∀x∈l,f x<=b)->(l.map f).sum<=l.length*b
 |[],_=>by simp
 |x::l,h=>by
  have:=NN f b l λy hy=>h y (pL _ hy)
  grind [List.mem_cons_self,List.length_cons,Nat.add_mul]
def ER(f:α->Nat)(b:Nat)(l:List α)(h:∀x∈l,f x<=b)(k:Nat):((l.take k).map f).sum<=l.length*b:=
 pH (NN f b _ λx hx=>h x (rH hx)) (p7 _ (by rw[ua];omega))
def qS(w:Wor)(r:fS):Nat:=if 0<=r.version/\r.version<w.ze.length then qR w r else 0
def Ud(w:Wor):Nat:=5+w.pins.length+3*w.zc.length+(w.zm.map (qS w)).sum
structure Nz(w:Wor):Prop where
 pins:w.pins.length<=1000
 zc:w.zc.length<=1000
 zm:w.zm.length<=1000
 vg:w.ze.length<=1000/\∀v∈w.ze,EW v
def Tb{w:Wor}(h:Nz w)(r:fS):qS w r<=1000002:=by
 unfold qS;split
 .unfold qR;split
  .rename_i v hv;have f:=h.vg.2 v (gu hv);have:=HH v.zq f.ends;have:=f.zq
   grind [qv]
  .omega
 .omega
def WW(w:Wor)(hw:Nz w):tj 30 [] [Cw w] (I (Ud w)) []:=by
 have m1:(w.pins.map Go.Hy.encI).length=w.pins.length:=gC ..;have m2:(w.ze.map zM).length=w.ze.length:=gC ..;have m3:(w.zc.map qO).length=w.zc.length:=gC ..;have m4:(w.zm.map xz).length=w.zm.length:=gC ..;have b1:=hw.pins;have b2:=hw.vg.1;have b3:=hw.zc;have b4:=hw.zm;refine ab func30 ?_;rw[m1,m3,m4]
 have e1:IntKind.i64.wrap (IntKind.i64.wrap (5+(w.pins.length:Int))+IntKind.i64.wrap (3*(w.zc.length:Int)))=((5+w.pins.length+3*w.zc.length+0:Nat):Int):=by
  rw[z7 (n:=5+(w.pins.length:Int)) aw aw,z7 (n:=3*(w.zc.length:Int)) aw aw,z7 aw aw];omega
 rw[e1];refine qg.seq w.zm.length (λk=>(.za::.ref 0 [] 8 0 0::I 0::I (5+w.pins.length+3*w.zc.length+((w.zm.take k).map (qS w)).sum:Nat)::tY (.za::.za::.za::.za::(lR w.zm)::I w.zm.length::I k::tY (tY (tY ([.za,.za])))))) (λk=>[oW w]) (λk=>True) ?_ trivial (λk hk _=>?_) (λ_=>?_)
 .exact cC
 .obtain⟨x,hx⟩:∃x,x=w.zm[k]:=⟨_,rfl⟩;have hg:(w.zm.map xz)[k]?=some (xz x):=by rw[gy,gk hk,hx];rfl
  have sk:=JE (qS w) w.zm hk;rw[<-hx]at sk;have sb:=ER (qS w) 1000002 w.zm (λr _=>Tb hw r) k;have sc:=ER (qS w) 1000002 w.zm (λr _=>Tb hw r) (k+1);have no:¬(0<=x.version/\x.version<w.ze.length)->((w.zm.take (k+1)).map (qS w)).sum=((w.zm.take k).map (qS w)).sum:=λh=>by rw[sk];unfold qS;rw[gp h];rfl
  conv=>whnf
  refine zan ?_
  refine⟨λc1=>?_,λc1=>?_⟩
  .refine dd ?_;rw[m2];refine⟨λc2=>?_,λc2=>?_⟩
   .refine dd ?_;have c1:0<=x.version:=by simpa using c1
    have c2:x.version<w.ze.length:=aq c2
    obtain⟨v,hv⟩:∃v,w.ze[x.version.toNat]?=some v:=⟨_,gk aw⟩;have hgv:(w.ze.map zM)[x.version.toNat]?=some (zM v):=by rw[gy,hv];rfl
    have q:qS w x=2+(qv v).length:=by unfold qS;rw[gz ⟨c1,c2⟩];unfold qR;rw[hv]
    refine hZ ?_
    refine⟨c1,_,hgv,dd ?_⟩;refine ah (OR v (hw.vg.2 v (gu hv))) ?_
    have e2:IntKind.i64.wrap (((5+w.pins.length+3*w.zc.length+((w.zm.take k).map (qS w)).sum:Nat):Int)+IntKind.i64.wrap (2+((qv v).length:Int)))=((5+w.pins.length+3*w.zc.length+((w.zm.take (k+1)).map (qS w)).sum:Nat):Int):=by
     rw[z7 (n:=2+((qv v).length:Int)) aw aw,z7 aw aw];omega
    rw[e2,zw aw];exact dL
   .refine zad ?_
    rw[zw aw,<-no (λh=>by simp at c2;omega)];exact dL
  .refine zad ?_
   rw[zw aw,<-no (λh=>by simp at c1;omega)];exact dL
 .exact dK
abbrev GD(s:fU):C:=.agg (w7 s)
def vy(s:fU):Nat:=(s.threads.map λl=>l.length).sum
def MB(s:fU):Int:=IntKind.i64.wrap ((vy s:Int)*IntKind.i64.wrap (IntKind.i64.wrap (IntKind.i64.wrap (23*(vy s:Int))+IntKind.i64.wrap (6*(s.threads.length:Int)))+60))
structure Je(s:fU):Prop where
 threads:s.threads.length<=1000
 ops:∀l∈s.threads,l.length<=1000
def PH(s:fU)(hs:Je s):tj 10 [] [GD s] (I (MB s)) []:=by
 have m1:(s.threads.map xy).length=s.threads.length:=gC ..;have b1:=hs.threads;refine ab func10 ?_;rw[m1];refine qg.seq s.threads.length (λk=>(.za::.ref 0 [] 5 0 0::I 0::I (((s.threads.take k).map λl=>l.length).sum:Nat)::.za::.za::.za::(DB s.threads)::I s.threads.length::I k::tY (tY ([.za,.za])))) (λk=>[oS s]) (λk=>True) ?_ trivial (λk hk _=>?_) (λ_=>?_)
 .exact cC
 .obtain⟨x,hx⟩:∃x,x=s.threads[k]:=⟨_,rfl⟩;have hg:(s.threads.map xy)[k]?=some (xy x):=by rw[gy,gk hk,hx];rfl
  have m2:(x.map yW).length=x.length:=gC ..;have sk:=JE (λl:List fQ=>l.length) s.threads hk;rw[<-hx]at sk;have sb:=ER (λl:List fQ=>l.length) 1000 s.threads hs.ops k;have sc:=ER (λl:List fQ=>l.length) 1000 s.threads hs.ops (k+1);conv=>whnf
  refine zan ?_
  rw[m2]
  have e2:IntKind.i64.wrap (((((s.threads.take k).map λl=>l.length).sum:Nat):Int)+(x.length:Int))=((((s.threads.take (k+1)).map λl=>l.length).sum:Nat):Int):=by
   rw[z7 aw aw];omega
  rw[e2,zw aw];exact dL
 .refine uD ?_;rw[m1,pI];exact uI
def PQ(s:fU)(hs:Je s):tj 9 [] [GD s] (I (vy s)) []:=by
 have m1:(s.threads.map xy).length=s.threads.length:=gC ..;have b1:=hs.threads;refine ab func9 ?_;refine qg.seq s.threads.length (λk=>(.za::.ref 0 [] 5 0 0::I 0::I (((s.threads.take k).map λl=>l.length).sum:Nat)::I k::tY (tY ([])))) (λk=>[oS s]) (λk=>True) ?_ trivial (λk hk _=>?_) (λ_=>?_)
 .exact cC
 .obtain⟨x,hx⟩:∃x,x=s.threads[k]:=⟨_,rfl⟩;have hg:(s.threads.map xy)[k]?=some (xy x):=by rw[gy,gk hk,hx];rfl
  have m2:(x.map yW).length=x.length:=gC ..;have sk:=JE (λl:List fQ=>l.length) s.threads hk;rw[<-hx]at sk;have sb:=ER (λl:List fQ=>l.length) 1000 s.threads hs.ops k;have sc:=ER (λl:List fQ=>l.length) 1000 s.threads hs.ops (k+1);conv=>whnf
  rw[m1];refine zan ?_
  rw[m2]
  have e2:IntKind.i64.wrap (((((s.threads.take k).map λl=>l.length).sum:Nat):Int)+(x.length:Int))=((((s.threads.take (k+1)).map λl=>l.length).sum:Nat):Int):=by
   rw[z7 aw aw];omega
  rw[e2,zw aw];exact dL
 .conv=>whnf
  rw[m1];refine zaG ?_;rw[pI];exact uI
def my(o:fQ):Bool:=mn o.config || decide (100<o.host.length) || decide (100<o.path.length)
def mz(l:List fQ):Bool:=decide (40<l.length) || l.any my
def kD(s:fU):Bool:=mn s.first || decide (20<s.threads.length) || decide (5000<s.zJ.length) || s.threads.any mz
structure GG(s:fU):Prop where
 first:s.first.zc.length<4000000000000000000/\s.first.zO.length<4000000000000000000/\s.first.zo.length<4000000000000000000
 threads:s.threads.length<4000000000000000000
 ops:∀l∈s.threads,l.length<4000000000000000000/\∀o∈l,o.config.zc.length<4000000000000000000/\o.config.zO.length<4000000000000000000/\o.config.zo.length<4000000000000000000
def Ps(s:fU)(hs:GG s):tj 5 [] [GD s] (Bo (kD s)) []:=by
 have m1:(s.threads.map xy).length=s.threads.length:=gC ..;have m2:(s.zJ.map Go.Hy.encI).length=s.zJ.length:=gC ..;have b1:=hs.threads;refine ab func5 ?_;refine ah (Ho s.first hs.first.1 hs.first.2.1 hs.first.2.2) ?_;(refine⟨λa1=>?_,λa1=>?_⟩);(focus ((have e:kD s=true:=bw);(rw[e]);refine dd ?_;refine hZ ?_;exact uI));refine dd ?_
 rw[m1];(refine⟨λa2=>?_,λa2=>?_⟩);(focus ((have e:kD s=true:=bz);(rw[e]);refine dd ?_;refine hZ ?_;exact uI));refine dd ?_
 rw[m2];(refine⟨λa3=>?_,λa3=>?_⟩);(focus ((have e:kD s=true:=bA);(rw[e]);refine dd ?_;refine hZ ?_;exact uI));refine dd ?_
 have eS:kD s=s.threads.any mz:=by
  unfold kD;simp at a2 a3;rw[a1,rz aw,rz aw]
  rfl
 refine qg.seq s.threads.length (λk=>(.za::.ref 0 [] 5 0 0::Bo false::I k:: tY (jp (tY (tY (tY ([]))))))) (λk=>[oS s]) (λk=>∀j,(h:j<s.threads.length)->j<k->mz s.threads[j]=false) ?_ aj (λk hk hr=>?_) (λhr=>?_)
 .exact cC
 .obtain⟨x,hx⟩:∃x,x=s.threads[k]:=⟨_,rfl⟩;have hxm:x∈s.threads:=by rw[hx];exact pt hk
  have hg:(s.threads.map xy)[k]?=some (xy x):=by rw[gy,gk hk,hx];rfl
  have m3:(x.map yW).length=x.length:=gC ..
  have bad:mz x=true->kD s=true:=λh=>by
   rw[eS];exact rh.2 ⟨x,hxm,h⟩
  have bx:=(hs.ops x hxm).1;conv=>whnf
  rw[m1];refine zan ?_
  rw[m3];refine⟨λc1=>?_,λc1=>?_⟩
  .rw[bad (by unfold mz;rw[rT (by simp at c1;omega)];rfl)];refine dd ?_;refine zaw ?_
   exact uI
  have eT:mz x=x.any my:=by unfold mz;rw[rz (by simp at c1;omega)];rfl
  refine dd ?_;refine qg.seq x.length (λj=>(.za::.ref 0 [] 5 0 0::Bo false::I k::I j:: .za::.za::.za::.za::.za::.za::.za::tY (jp (tY (tY ([])))))) (λj=>[oS s]) (λj=>∀i,(h:i<x.length)->i<j->my x[i]=false) ?_ aj (λj hj hrj=>?_) (λhrj=>?_)
  .exact cC
  .obtain⟨o,hxo⟩:∃o,o=x[j]:=⟨_,rfl⟩;have hom:o∈x:=by rw[hxo];exact pt hj
   have hgo:(x.map yW)[j]?=some (yW o):=by rw[gy,gk hj,hxo];rfl
   have bado:my o=true->mz x=true:=λh=>by rw[eT];exact rh.2 ⟨o,hom,h⟩
   have bo:=(hs.ops x hxm).2 o hom;conv=>whnf
   (refine tc hg ?_)
   rw[m3];refine zan ?_
   (refine tc hgo ?_)
   refine ah (Ho o.config bo.1 bo.2.1 bo.2.2) ?_;(refine⟨λd1=>?_,λd1=>?_⟩);(focus ((rw[bad (bado (by (try simp at d1);simp[my];first|omega|(rw[d1];simp)))]);refine dd ?_;refine hZ ?_;(refine .inr ⟨aj,uH ?_⟩);(try (refine .inr ⟨aj,uH ?_⟩));exact uI));refine dd ?_
   (refine⟨λd2=>?_,λd2=>?_⟩);(focus ((rw[bad (bado (by (try simp at d2);simp[my];first|omega|(rw[d2];simp)))]);refine dd ?_;refine hZ ?_;(refine .inr ⟨aj,uH ?_⟩);(try (refine .inr ⟨aj,uH ?_⟩));exact uI));refine dd ?_
   (refine⟨λd3=>?_,λd3=>?_⟩);(focus ((rw[bad (bado (by (try simp at d3);simp[my];first|omega|(rw[d3];simp)))]);refine dd ?_;refine hZ ?_;(refine .inr ⟨aj,uH ?_⟩);(try (refine .inr ⟨aj,uH ?_⟩));exact uI));refine dd ?_
   refine .inl ⟨rfl,?_,λi hi hij=>?_⟩
   .exact du
   .by_cases e:i=j
    .subst e;rw[<-hxo];simp at d2 d3;simp[my,d1];omega
    .exact hrj i hi aw
  .have no:mz x=false:=by
    rw[eT,pq];intro y hy;obtain⟨i,hi,rfl⟩:=pJ.1 hy;simp[hrj i hi hi]
   conv=>whnf
   (refine tc hg ?_)
   rw[m3];refine zaG ?_;refine .inl ⟨rfl,?_,λi hi hij=>?_⟩
   .exact du
   .by_cases e:i=k
    .subst e;rw[<-hx];exact no
    .exact hr i hi aw
 .have h1:kD s=false:=by
   rw[eS,pq];intro x hx;obtain⟨i,hi,rfl⟩:=pJ.1 hx;simp[hr i hi hi]
  rw[h1];conv=>whnf
  rw[m1];refine zaG ?_;exact uI
end Go.Wor
namespace Go.Wor
open Go.Ab Go.Proofs Tryz Go.Gat Go.Nam Go.Hos Go.Con Go.Sna Go.Pla Go.Dep
open Go.Hy hiding encI
variable{w:Wor}
def Z8:tj 48 [] [I 0,.agg (yW GN),lA []] (Sm CX) []:=by
 have h:=Beg.GS 0 GN [] ar;have e:Beg.ji 0 GN []=CX:=cD
 grind
def zsw{n:Nat}{w':Wor}{m':fD}(hg:nV n w CX w' m')(hn:n<=10000):tj 35 [] [Sw w,I 0,Uo,.fF 1 0 []] (.fJ [Sw w',.agg (xx m'.answer),I n]) []:=
 (Wp (given:=[]) Z8 hg hn).pre (.cons (.refl _) (.cons (.refl _) (.cons (WC.U7 (.cons (.refl _) (.cons (.refl _) (.cons (.refl _) (.cons (.refl _) (.cons (.refl _) (.cons (.refl _) (.cons (.refl _) (.cons (WC.nil 0 1) (.cons (WC.nil 0 4) (.cons (WC.nil 0 4) .nil))))))))))) (.cons (WC.nil 0 13) .nil))))
def Oi(w:Wor)(n:Int)(ok:iw w)(hg:xa w=true->∀k:Nat,k<10->∃j m',nV j (xQ k w) CX (xQ (k+1) w) m'/\j<=10000):tj 14 [] [Sw w,I n] (.fJ [Sw (kz w n).1,I (kz w n).2]) []:=by
 have no:¬(xa w=true/\0<=n/\n<=10)->kz w n=(ot,1):=λh=>gp h
 refine ab func14 ?_;refine ah (Oh w ok) ?_;refine⟨λh1=>?_,λh1=>?_⟩
 rotate_left
 .rw[no (by rintro⟨h,_⟩;rw[h]at h1;cases h1)];refine zad ?_
  exact cX
 have hw:=h1;refine dd ?_;refine⟨λh2=>?_,λh2=>?_⟩
 .have h2:n<0:=by simpa using h2
  rw[no aw];refine zad ?_
  exact cX
 have h2:0<=n:=aq h2
 refine dd ?_;refine⟨λh3=>?_,λh3=>?_⟩
 .have h3:10<n:=by simpa using h3
  rw[no aw];refine zad ?_
  exact cX
 have h3:n<=10:=aq h3
 obtain⟨N,rfl⟩:∃N:Nat,n=N:=⟨n.toNat,aw⟩;have e:kz w N=(xQ N w,0):=by unfold kz;rw[gz ⟨hw,h2,h3⟩,rK]
 rw[e];refine dd ?_;refine qg.seq N (λk=>(.za::.za::.ref 0 [] 8 0 0::.za::.ref 1 [] 8 0 0::I 0::tY (.za::.za::.za::.za::I N::I k::tY ([.za,.za])))) (λk=>[oW (xQ k w),⟨1,38,8,[oP],0⟩]) (λk=>True) ?_ trivial (λk hk _=>?_) (λ_=>?_)
 .exact cC
 .obtain⟨j,m',hj,hj2⟩:=hg hw k aw;conv=>whnf
  refine uF ?_;refine ah (zsw hj hj2) ?_;refine zaF ?_;rw[zw aw];exact cE 2
 .exact gf
def HB{K:Nat}(n:Int)(ok:iw w)(h:xa w=true->St 60 K w/\j9 w<=10000):tj 14 [] [Sw w,I n] (.fJ [Sw (kz w n).1,I (kz w n).2]) []:=by
 refine Oi w n ok λhw k hk=>?_
 obtain⟨st,hs⟩:=h hw;have hm:(k+1)*j9 w<=10*10000:=eM aw hs;rw[rk]at hm;obtain⟨K',s⟩:=Eh st k aw;obtain⟨j,m',_,h1,_,h3,_⟩:=KJ s (by rw[wh];omega);rw[wh]at h3;exact⟨j,m',h1,aw⟩
def Zp{N K:Nat}(n:Int)(hN:N<=100000)(ok:iw w)(h:xa w=true->St N K w/\j9 w<=10000):tj 14 [] [Sw w,I n] (.fJ [Sw (kz w n).1,I (kz w n).2]) []:=by
 refine Oi w n ok λhw k hk=>?_
 obtain⟨st,hs⟩:=h hw;have hm:(k+1)*j9 w<=10*10000:=eM aw hs;rw[rk]at hm;obtain⟨K',s⟩:=Eh st k aw;obtain⟨j,m',_,h1,_,h3,_⟩:=KJ s (by rw[wh];omega);rw[wh]at h3;exact⟨j,m',h1,aw⟩
abbrev sQ:fK:=[105,110]
abbrev CK:Sna:=⟨[sQ],[⟨0,[42],[47],0⟩],[⟨[97],1,1,[true,true]⟩]⟩
abbrev C2:fI:=⟨CK,[⟨0,[⟨1,[-1],0⟩,⟨1,[-1],0⟩]⟩],false⟩
abbrev mf:Wor:=⟨0,1,0,[0],[C2,C2],[⟨sQ,true,0,false⟩],[[0,0,0,0,0,0]],[⟨0,0,false⟩]⟩
def Jy:AT CK:=⟨⟨aj,λx hx=>by rw[gZ.1 hx];simp⟩,⟨aj,λx hx=>by rw[gZ.1 hx];simp⟩,⟨aj,λx hx=>by rw[gZ.1 hx];simp⟩⟩
theorem RS:ja CK=(C2,0):=by rfl
def ZF:tj 43 [] [Cs CK,lT [sQ],I 1] (.fJ [.agg ([I 0,I 0,I 0,.fF 0 1 [[I 0]],.fF 1 5 [zM C2],.sl 0 [] 4 0 1 false,iG [[0,0,0,0,0,0]],.fF 0 3 []]),I 0]) [⟨2,144,4,[qO (kG sQ)],0⟩]:=by
 have cs:=GW CK Jy;rw[RS]at cs;have cs:tj 55 [] [Cs CK] (.fJ [Cv C2,I 0]) []:=cs;have hn:tj 84 [] [I 1] (.fJ [iG [[0,0,0,0,0,0]],I 0]) []:=Oc 1;refine qi (fn:=f43) func43 V ar (uH ?_);refine ah cs ?_;refine hZ ?_
 refine ah hn ?_;refine hZ ?_
 refine .inl ⟨⟨false,[0,3],[2],[]⟩,au,uH ?_⟩;refine⟨rfl,aw,ar,aw,dd ?_⟩;refine hU ?_
 refine Aw.BV 2 (LoopN.step ?_);conv=>whnf
 refine hZ ?_
 refine⟨ar,_,rfl,dd ?_⟩;refine ah (yv sQ ar) ?_;refine hZ ?_
 refine⟨_,_,(zb.Bx 9 (wR [] sQ ar) V ?_).frame V _,?_⟩;(focus rfl);refine dd ?_
 refine hZ ?_
 refine .inr ⟨.inl V,ar,ar,dd ?_⟩;refine .inl ⟨rfl,LoopN.step (uH ?_)⟩;refine⟨λh=>absurd h ar,λ_=>dd ?_⟩;refine zaJ ?_;exact⟨.inl V,_,_,zp.var 1 V V V (.cons (.refl _) (.cons (.refl _) (.cons (.refl _) (.cons (.refl _) (.cons (.refl _) (.cons (.refl _) (.cons (.refl _) (.cons (WC.nil 0 3) .nil)))))))),rfl,zp.fL [4] [0] _ _ V V V V⟩
def Xg:tj 29 [] [] (Cw mf) []:=by
 have cs:=GW CK Jy;rw[RS]at cs;have cs:tj 55 [] [Cs CK] (.fJ [Cv C2,I 0]) []:=cs;refine ab func29 ?_;refine zt [] (zb.Bx 9 (ZF) V ?_) V V V V V V ?_;(focus rfl);refine dd ?_
 refine⟨_,_,(zb.Bx 9 (cs) V ?_).frame V _,?_⟩;(focus rfl);refine dd ?_
 refine .inl ⟨.inr V,.inr V,ar,ar,dd ?_⟩;refine Aw.BV 2 (LoopN.step ?_);conv=>whnf
 refine hZ ?_
 refine⟨ar,ar,dd ?_⟩;refine⟨_,rfl,rfl,dd ?_⟩;refine .inl ⟨rfl,LoopN.step (uH ?_)⟩;refine⟨λh=>absurd h ar,λ_=>dd ?_⟩;refine zaJ ?_;refine⟨.inl V,_,zp.trans (zp.R3 0 5 V V V V (λr hr c hc=>gE.1 (gE.1 (show List.all _ (λr=>r.all zB)=true from V) r hr) c hc) V V) (zp.var (r':=yC mf) 0 V ?_ ?_ ?_),?_⟩
 .rfl
 .rfl
 .exact .cons (.refl _) (.cons (.refl _) (.cons (.refl _) (.cons (.refl _) (.cons (WC.gl _ _ _) (.cons (.refl _) (.cons (.refl _) (.cons (WC.share _ _ _) .nil)))))))
 .rfl
def Iv(ok:iw w):Jg w:=⟨by have:=ok.ze.1;omega,λv hv=>by have:=ok.ze.2 v hv;exact⟨by have:=this.zq;omega,λg hg=>by have:=(this.ends g hg).1;omega⟩,by have:=ok.pins;omega,by have:=ok.zc.1;omega,by have:=ok.zm;omega⟩
theorem zxT:En.ok ⟨1,[-1],0⟩:=⟨ar,⟨λx hx=>by rw[gZ.1 hx];decide,ar⟩,ar⟩
def T0:mB 60 mf:=by
 refine⟨ar,ar,ar,λv hv=>?_,λl hl=>?_⟩
 .have hv:v=C2:=by simpa using hv
  subst hv;refine⟨Jy,λg hg=>?_⟩;rw[gZ.1 hg];refine⟨ar,λe he=>?_⟩
  grind [zxT]
 .rw[gZ.1 hl];exact⟨ar,ar⟩
theorem Vd:xa mf=true:=by rfl
def DP:St 60 10 mf:=by
 refine⟨qf.1 Vd,T0,⟨λl hl=>?_,λv hv g hg e he=>?_⟩⟩
 all_goals grind
def GM:iw mf:=Aq DP.qI DP.ty ar
def TV:iw ot:=⟨ar,⟨ar,λ_ h=>nomatch h⟩,⟨ar,λ_ h=>nomatch h⟩,⟨ar,λ_ h=>nomatch h⟩,ar⟩
def NS(n:Nat)(h:n<=10):iw (xQ n mf):=by
 obtain⟨K',s⟩:=Eh DP n (by have:j9 mf=13:=rfl;rw[this];omega);exact Aq s.qI s.ty (by have:j9 mf=13:=rfl;rw[this];omega)
abbrev DM:fQ:=⟨0,[],[],[],0,0,0,⟨[],[],[]⟩⟩
abbrev NJ:fU:=⟨⟨[],[],[]⟩,[[DM,DM],[DM]],[]⟩
def vz:tj 11 [] [] (Bo true) []:=by
 have s1:tj 14 [] [Sw mf,I 1] (.fJ [Sw (xQ 1 mf),I 0]) []:=HB (K:=10) 1 GM λ_=>⟨DP,ar⟩
 have s2:tj 14 [] [Sw mf,I 2] (.fJ [Sw (xQ 2 mf),I 0]) []:=HB (K:=10) 2 GM λ_=>⟨DP,ar⟩
 have s3:tj 14 [] [Sw mf,I 11] (.fJ [Sw ot,I 1]) []:=HB (K:=10) 11 GM λ_=>⟨DP,ar⟩
 have s4:tj 14 [] [Sw ot,I 1] (.fJ [Sw ot,I 1]) []:=HB (K:=10) 1 TV λh=>absurd (h.symm.trans (by rfl:xa ot=false)) ar
 have q1:Aj (xQ 1 mf)=false:=cD
 have q2:Aj (xQ 2 mf)=true:=cD
 have q0:Aj mf=false:=cD
 have k2:(xQ 2 mf).zl=2:=cD
 have i1:=wt _ (Iv (NS 1 ar));have i2:=wt _ (Iv (NS 2 ar));have i0:=wt _ (Iv GM);rw[q1]at i1;rw[q2]at i2;rw[q0]at i0;generalize hw1:xQ 1 mf=w1 at s1 i1;generalize hw2:xQ 2 mf=w2 at s2 i2 k2
 have st:tj 30 [] [Cw mf] (I 13) []:=WW mf ⟨ar,ar,ar,ar,λv hv=>by
  have hv:v=C2:=aq hv
  subst hv;exact⟨ar,λg hg=>by rw[gZ.1 hg];decide⟩⟩
 have mo:tj 10 [] [GD NJ] (I 423) []:=PH NJ ⟨ar,λl hl=>by
  have hl:l=[DM,DM]\/l=[DM]:=aq hl
  rcases hl with rfl|rfl <;> decide⟩
 refine ab func11 ?_;refine ah Xg ?_;refine ah s1 ?_;refine ah s2 ?_;refine ah s3 ?_;refine⟨_,_,(zb.Bx 9 (s4) V ?_).frame V _,?_⟩;(focus rfl);refine dd ?_
 refine hZ ?_
 refine ah i1 ?_;refine hZ ?_
 refine ah i2 ?_;refine hZ ?_
 rw[k2];refine hZ ?_
 refine ah i0 ?_;refine hZ ?_
 refine ah st ?_;refine hZ ?_
 refine⟨_,_,(zb.Bx 9 (mo) V ?_).frame V _,?_⟩;(focus rfl);refine dd ?_
 refine hZ ?_
 exact uI
end Go.Wor
