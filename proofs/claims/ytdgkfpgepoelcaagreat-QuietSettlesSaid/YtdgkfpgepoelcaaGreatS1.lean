import Derived.Test.YtdgkfpgepoelcaaGreatSK
import Derived.Test.YtdgkfpgepoelcaaGreatSZ
set_option linter.all false
set_option maxRecDepth 100000
set_option maxHeartbeats 4000000
namespace Go.Wor
open Go.Ab Go.Proofs Tryz Go.Gat Go.Nam Go.Hos Go.Con Go.Sna
open Go.Hy hiding encI
def Ac{w:Wor}(gw:qg w){m:rH}(ht:0<=m.zO/\m.zO<w.pins.length)(hd:m.done=false)(hv:m.version=0)(hc:m.zn=0)(he:m.end_=0)(ho:m.other=0)(hs:m.slot=0)(hl:m.listen= -1)(hi:m.i=0)(hk:m.k=0):∃v g e,x5 w m v g e:=by
 have c:=gw.current;obtain⟨v,hv0⟩:∃v,w.zd[0]?=some v:=⟨_,cV ah⟩;have gv:=(gw.sf _ v hv0).1;have h0:0<v.zg.length:=by have:=(y4 gv.snap).ze.1;have:=gv.len;omega
 obtain⟨g,e,hg,hee,l1,l2⟩:=l6 gv h0;exact⟨v,g,e,qJ.2 gw,ht,hd,ah,by rw[hv];exact hv0,ah,by rw[hc];exact hg,ah,by rw[he];exact hee,ah,ah,ah,ah,ah⟩
end Go.Wor
namespace Go.Wor
open Go.Ab Go.Proofs Tryz Go.Hy Go.Gat Go.Nam Go.Hos Go.Con Go.Sna
variable{α:Type}{f:α->α}{l:List α}{i:Nat}{x:α}{w w0:Wor}{v:rL}{E:Int}{m:rH}
def sU(f:α->α)(l:List α)(i:Nat):List α:=(l.take i).map f++l.drop i
def AD(f:α->α)(l:List α):sU f l 0=l:=by simp[sU]
def Ig(f:α->α)(l:List α):sU f l l.length=l.map f:=by simp[sU]
def Ih(f:α->α)(l:List α)(i:Nat):(sU f l i).length=l.length:=by simp[sU];omega
theorem xE(f:α->α)(l:List α)(i k:Nat):(sU f l i)[k]?=if k<i then (l[k]?).map f else l[k]?:=by
 unfold sU
 grind
theorem mb(h:l[i]?=some x):(sU f l i).set i (f x)=sU f l (i+1):=by
 apply dS
 intro k;have rF:=(cW.1 h).1;rw[df,Ih,xE,xE]
 grind
theorem ko(h:l[i]?=some x)(hf:f x=x):sU f l i=sU f l (i+1):=by
 grind [mb,yg,xE]
def eI(w:Wor)(p:Int):Bool:=p == 0 || p == w.zl+1
def jM(w:Wor):Int:=if w.pins.all (eI w)=true/\w.zl<1000000000000 then w.zl+1 else w.zl
def Iu(v:rL):Bool:=(zY v).all λe=>e.zt == 0
def ff(w:Wor)(i:Int):Bool:=match w.zd[i.toNat]? with
 |some v=>Iu v
 |none=>false
def fN(w:Wor)(r:rP):Bool:=!r.gone && Go.Lim.j0 r.at_ (jM w) && ff w r.version
def sT(w:Wor)(r:rP):rP:=if fN w r=true then xb r else r
def ew(l:rS):rS:=if (l.drain && !l.closed && l.zt == 0)=true then vo l else l
def wz(w:Wor):Wor:=⟨jM w,w.current,0,w.pins,w.zd.mapIdx (λk v=>{v with qQ:=jW (w.zi.map (sT w)) k}),w.zc.map ew,w.counts,w.zi.map (sT w)⟩
def qR(w:Wor)(r:rP):Nat:=match w.zd[r.version.toNat]? with
 |some v=>2+(zY v).length
 |none=>2
def s0(w:Wor)(i:Nat):Nat:=((w.zi.drop i).map (qR w)).sum
def HH{r:rP}(h:w.zi[i]?=some r)(hv:w.zd[r.version.toNat]?=some v):s0 w i=2+(zY v).length+s0 w (i+1):=by
 obtain⟨rF,rfl⟩:=cW.1 h;unfold s0;rw[pz rF,pk,List.sum_cons];unfold qR;rw[hv]
structure kp(w0 w:Wor)(E:Int)(i j:Nat):Prop where
 zl:w.zl=E
 current:w.current=w0.current
 lock:w.lock=1
 pins:w.pins=w0.pins
 counts:w.counts=w0.counts
 yk:w.zd.map (λv=>(v.snap,v.zg))=w0.zd.map λv=>(v.snap,v.zg)
 zi:w.zi=sU (sT w0) w0.zi i
 rU:w.zc=sU ew w0.zc j
theorem kp.at_{j:Nat}(b:kp w0 w E i j){k:Nat}(h:w.zd[k]?=some v):∃v0,w0.zd[k]?=some v0/\v.snap=v0.snap/\v.zg=v0.zg:=by
 have:=gy (λl=>l[k]?) b.yk
 grind
theorem kp.ends{j:Nat}(b:kp w0 w E i j){k:Nat}{v0:rL}(h:w.zd[k]?=some v)(h0:w0.zd[k]?=some v0):zY v=zY v0:=by
 obtain⟨v1,h1,_,h2⟩:=b.at_ h
 grind [zY]
theorem kp.fin(b:kp w0 w (jM w0) w0.zi.length w0.zc.length)(g:qg {w with lock:=0}):{w with lock:=0}=wz w0:=by
 obtain⟨ep,cu,lo,pi,ve,li,co,lm⟩:=w;obtain⟨b1,b2,b3,b4,b5,b6,b7,b8⟩:=b;dsimp only at b1 b2 b3 b4 b5 b6 b7 b8;rw[Ig]at b7 b8;subst b1 b2 b4 b5 b7 b8;unfold wz
 have:ve=w0.zd.mapIdx (λk v=>{v with qQ:=jW (w0.zi.map (sT w0)) k}):=by
  apply dS
  intro k;rw[pR];have hk:=gy (λl=>l[k]?) b6;simp only[cX]at hk;cases hv:ve[k]? with
  |none=>
   grind
  |some v=>
   rw[hv]at hk;cases hv0:w0.zd[k]? with
   |none=>rw[hv0]at hk;cases hk
   |some v0=>
    rw[hv0]at hk;have hk:=Prod.mk.inj (rA hk);have hf:v.qQ=jW (w0.zi.map (sT w0)) k:=(g.sf k v hv).2;obtain⟨s,gr,fr⟩:=v
    grind
 rw[this]
inductive J(w0:Wor):Wor->rH->Nat->Prop
 |p0 {m:rH} (h:m.pc=0):J w0 w0 m (4+w0.pins.length+s0 w0 0+3*w0.zc.length)
 |p1 {w:Wor} {m:rH} (h:m.pc=1) (b:kp w0 w w0.zl 0 0):J w0 w m (3+w0.pins.length+s0 w0 0+3*w0.zc.length)
 |p2 {w:Wor} {m:rH} (i:Nat) (h:m.pc=2) (hi:m.i=i) (he:m.zl=w0.zl) (hl:i<w0.pins.length) (hp:∀j p,j<i->w0.pins[j]?=some p->eI w0 p=true) (b:kp w0 w w0.zl 0 0):J w0 w m (2+(w0.pins.length-i)+s0 w0 0+3*w0.zc.length)
 |p3 {w:Wor} {m:rH} (h:m.pc=3) (he:m.zl=w0.zl) (hp:w0.pins.all (eI w0)=true) (b:kp w0 w w0.zl 0 0):J w0 w m (2+s0 w0 0+3*w0.zc.length)
 |p4 {w:Wor} {m:rH} (i:Nat) (h:m.pc=4) (hi:m.i=i) (hl:i<=w0.zi.length) (he:m.zl=jM w0) (b:kp w0 w (jM w0) i 0):J w0 w m (1+s0 w0 i+3*w0.zc.length)
 |p5 {w:Wor} {m:rH} (i k:Nat) (r:rP) (v:rL) (h:m.pc=5) (hi:m.i=i) (hk:m.k=k) (he:m.zl=jM w0) (hr:w0.zi[i]?=some r) (hm:m.version=r.version) (hg:r.gone=false) (hs:Go.Lim.j0 r.at_ (jM w0)=true) (hv:w0.zd[r.version.toNat]?=some v) (hl:k<(zY v).length)
   (hz:∀j e,j<k->(zY v)[j]?=some e->e.zt=0) (b:kp w0 w (jM w0) i 0):J w0 w m ((zY v).length-k+2+s0 w0 (i+1)+3*w0.zc.length)
 |p6 {w:Wor} {m:rH} (i:Nat) (r:rP) (h:m.pc=6) (hi:m.i=i) (he:m.zl=jM w0) (hr:w0.zi[i]?=some r) (hm:m.version=r.version) (hd:fN w0 r=true) (b:kp w0 w (jM w0) i 0):J w0 w m (2+s0 w0 (i+1)+3*w0.zc.length)
 |p8 {w:Wor} {m:rH} (i:Nat) (h:m.pc=8) (hi:m.i=i) (hl:i<=w0.zc.length) (b:kp w0 w (jM w0) w0.zi.length i):J w0 w m (1+3*(w0.zc.length-i))
 |p9 {w:Wor} {m:rH} (i:Nat) (l:rS) (h:m.pc=9) (hi:m.i=i) (hl:w0.zc[i]?=some l) (hd:l.drain=true) (hc:l.closed=false) (b:kp w0 w (jM w0) w0.zi.length i):J w0 w m (3*(w0.zc.length-i))
 |oc {w:Wor} {m:rH} (i:Nat) (l:rS) (h:m.pc=10) (hi:m.i=i) (hl:w0.zc[i]?=some l) (hd:l.drain=true) (hc:l.closed=false) (ha:l.zt=0) (b:kp w0 w (jM w0) w0.zi.length i):J w0 w m (3*(w0.zc.length-i)-1)
def Ne(w0:Wor)(n:Nat)(r:Wor×rH×rV):Prop:=(r.2.1.done=true/\r.1=wz w0/\1<=n)\/∃n',n'<n/\r.2.1.done=false/\J w0 r.1 r.2.1 n'
theorem Bv(i n:Nat)(hd0:m.done=false)(h:m.pc=8)(hi:m.i=i)(hl:i<=w0.zc.length)(b:kp w0 w (jM w0) w0.zi.length i)(hb:w0.zc.length<1000000000)(hn:1+3*(w0.zc.length-i)<=n)(g:qg (sE w m).1):Ne w0 n (sE w m):=by
 have hw:IntKind.i64.wrap (m.i+1)=m.i+1:=z7 ah ah;have it:m.i.toNat=i:=ah
 have e:=gy (λl=>l[i]?) b.rU;simp only[xE,c6 (gY i)]at e;unfold sE at g|-;rw[it,e]at g|-;cases hx:w0.zc[i]? with
 |none=>
  rw[hx]at g;have:=dI.1 hx;have hi2:i=w0.zc.length:=ah
  subst hi2;exact .inl ⟨rfl,b.fin g,ah⟩
 |some l=>
  have rF:=(cW.1 hx).1;dsimp only;unfold eZ;by_cases q:l.drain=true/\l.closed=false
  .rw[c7 q];exact .inr ⟨_,ah,hd0,.p9 i l V hi hx q.1 q.2 b⟩
  .rw[c6 q,hw];refine .inr ⟨_,ah,hd0,.p8 (i+1) h ai rF ⟨b.zl,b.current,b.lock,b.pins,b.counts,b.yk,b.zi,?_⟩⟩;refine b.rU.trans (ko hx ?_);unfold ew
   grind
def Ba{n:Nat}{r:Wor×rH×rV}(hJ:J w0 w m n)(hd0:m.done=false)(g0:qg w0)(hl0:w0.lock=0)(hb:w0.zc.length<1000000000/\w0.zi.length<1000000000)(h:qZ w m=some r)(g:qg r.1):Ne w0 n r:=by
 have gr:=zZ.1 g0.ground;have ge:=gr.zl;have we:IntKind.i64.wrap (w0.zl+1)=w0.zl+1:=z7 ah ah;unfold qZ at h;cases hJ with
 |p0 p=>
  rw[c7 p,c7 hl0]at h;cases h
  exact .inr ⟨_,ah,hd0,.p1 V ⟨rfl,rfl,rfl,rfl,rfl,rfl,(AD _ _).symm,(AD _ _).symm⟩⟩
 |p1 p b=>
  rw[c6 ah,c7 p]at h;cases h
  exact .inr ⟨_,by have:=gr.pins.1;omega,hd0,.p2 0 V V b.zl (by have:=gr.pins.1;omega) (λj _ hj=>by omega) b⟩
 |p2 i p hi he hl hp b=>
  have it:m.i.toNat=i:=ah
  have hw:IntKind.i64.wrap (m.i+1)=m.i+1:=z7 ah (by have:=gr.pins.2;omega);obtain⟨x,hx⟩:∃x,w0.pins[i]?=some x:=⟨_,cV hl⟩;rw[c6 ah,c6 ah,c7 p,it,b.pins,hx]at h;cases h
  dsimp only;have e2:IntKind.i64.wrap (m.zl+1)=w0.zl+1:=by rw[he,we]
  unfold tu;rw[hw,b.pins,e2];by_cases q:x≠0/\x≠w0.zl+1
  .rw[c7 q]
   have e:jM w0=w0.zl:=by
    unfold jM;rw[c6];rintro⟨h1,_⟩;have:=c8.1 h1 x (cZ hx);unfold eI at this;exact cN
   exact .inr ⟨_,ah,hd0,.p4 0 V V ah (by rw[e];exact he) (by rw[e];exact b)⟩
  rw[c6 q]
  have hp2:∀j p,j<i+1->w0.pins[j]?=some p->eI w0 p=true:=by
   intro j p hj hpj;by_cases e:j=i
   .subst e;rw[hx]at hpj;cases hpj
    unfold eI;simp;omega
   .exact hp j p ah hpj
  by_cases q2:m.i+1<w0.pins.length
  .rw[c7 q2];exact .inr ⟨_,ah,hd0,.p2 (i+1) p ai he ah hp2 b⟩
  .rw[c6 q2];refine .inr ⟨_,ah,hd0,.p3 V he (c8.2 λx hx=>?_) b⟩;obtain⟨j,hj⟩:=di.1 hx;have:=(cW.1 hj).1;exact hp2 j x ah hj
 |p3 p he hp b=>
  rw[c6 ah,c6 ah,c6 ah,c7 p,b.zl,he]at h;cases h
  by_cases q:w0.zl<1000000000000
  .have e:jM w0=w0.zl+1:=by unfold jM;rw[c7 ⟨hp,q⟩]
   rw[c7 ⟨rfl,q⟩,we];exact .inr ⟨_,ah,hd0,.p4 0 V V ah e.symm ⟨e.symm,b.current,b.lock,b.pins,b.counts,b.yk,b.zi,b.rU⟩⟩
  .have e:jM w0=w0.zl:=by unfold jM;rw[c6 (λh=>q h.2)]
   rw[c6 (λh=>q h.2)];exact .inr ⟨_,ah,hd0,.p4 0 V V ah (by rw[e];exact he) (by rw[e];exact b)⟩
 |p4 i p hi hl he b=>
  have it:m.i.toNat=i:=ah
  have hw:IntKind.i64.wrap (m.i+1)=m.i+1:=z7 ah ah;have e:=gy (λl=>l[i]?) b.zi;simp only[xE,c6 (gY i)]at e;rw[c6 ah,c6 ah,c6 ah,c6 ah,c7 p,it,e]at h;cases hx:w0.zi[i]? with
  |none=>
   rw[hx]at h;have:=dI.1 hx;have hi2:i=w0.zi.length:=ah
   cases h
   exact Bv 0 _ hd0 V V ah (hi2 ▸ b) hb.1 ah g
  |some r=>
   rw[hx]at h;cases h
   have rF:=(cW.1 hx).1;have la:=yc g0 hx;obtain⟨v,hv⟩:∃v,w0.zd[r.version.toNat]?=some v:=⟨_,cV ah⟩;have sq:=HH hx hv;dsimp only;unfold tz;rw[hw];by_cases q:r.gone=true\/Go.Lim.j0 r.at_ m.zl=false
   .rw[c7 q];rw[he]at q;refine .inr ⟨_,ah,hd0,.p4 (i+1) p ai rF he ⟨b.zl,b.current,b.lock,b.pins,b.counts,b.yk,b.zi.trans (ko hx ?_),b.rU⟩⟩;unfold sT;rw[c6];unfold fN;rcases q with q|q <;> simp[q]
   .rw[c6 q];rw[he]at q;have el:=vC (g0.sf _ v hv).1;exact .inr ⟨_,ah,hd0,.p5 i 0 r v V hi V he hx V (by cases hgo:r.gone with|false=>rfl|true=>exact absurd (.inl hgo) q) (by cases hgo:Go.Lim.j0 r.at_ (jM w0) with|true=>rfl|false=>exact absurd (.inr hgo) q) hv ah (λj _ hj=>by omega) b⟩
 |p5 i k x v p hi hk he hr hm hg hs hv hl hz b=>
  have it:m.i.toNat=i:=ah
  have kt:m.k.toNat=k:=ah
  have rF:=(cW.1 hr).1;have el:=vC (g0.sf _ v hv).1;have hw:IntKind.i64.wrap (m.i+1)=m.i+1:=z7 ah ah;have hwk:IntKind.i64.wrap (m.k+1)=m.k+1:=z7 ah ah;rw[c6 ah,c6 ah,c6 ah,c6 ah,c6 ah,c7 p]at h;obtain⟨v',hv',h⟩:=dP.1 h;obtain⟨e,hx,rfl⟩:=gh.1 h;have ee:zY v'=zY v:=b.ends hv' (by rw[hm];exact hv);rw[ee,kt]at hx;unfold tL;rw[hw,hwk,ee];by_cases q:e.zt≠0
  .rw[c7 q];refine .inr ⟨_,ah,hd0,.p4 (i+1) V ai rF he ⟨b.zl,b.current,b.lock,b.pins,b.counts,b.yk,b.zi.trans (ko hr ?_),b.rU⟩⟩;unfold sT;rw[c6];unfold fN ff;rw[hv];dsimp only;intro h2;simp only[c9]at h2;have:=c8.1 h2.2 e (cZ hx);simp at this;exact q this
  rw[c6 q]
  have hz2:∀j e,j<k+1->(zY v)[j]?=some e->e.zt=0:=by
   intro j e2 hj he2;by_cases e3:j=k
   .subst e3;rw[hx]at he2;cases he2
    exact Decidable.of_not_not q
   .exact hz j e2 ah he2
  by_cases q2:m.k+1<(zY v).length
  .rw[c7 q2];exact .inr ⟨_,ah,hd0,.p5 i (k+1) x v p hi (by show m.k+1=_;omega) he hr hm hg hs hv ah hz2 b⟩
  .rw[c6 q2];refine .inr ⟨_,ah,hd0,.p6 i x V hi he hr hm ?_ b⟩;unfold fN ff;rw[hg,hs,hv];refine c8.2 λe2 he2=>?_
   obtain⟨j,hj⟩:=di.1 he2;have:=(cW.1 hj).1;simp[hz2 j e2 ah hj]
 |p6 i x p hi he hr hm hd b=>
  have it:m.i.toNat=i:=ah
  have rF:=(cW.1 hr).1;have hw:IntKind.i64.wrap (m.i+1)=m.i+1:=z7 ah ah;have e:=gy (λl=>l[i]?) b.zi;simp only[xE,c6 (gY i)]at e;rw[c6 ah,c6 ah,c6 ah,c6 ah,c6 ah,c6 ah,c7 p,it,e,hr]at h;obtain⟨v',hv',h⟩:=dP.1 h;rw[dB]at h;split at h
  rotate_left
  .cases h
  cases h
  unfold tY;rw[hw];refine .inr ⟨_,ah,hd0,.p4 (i+1) V ai rF he ⟨b.zl,b.current,b.lock,b.pins,b.counts,?_,?_,b.rU⟩⟩
  .show(w.zd.set m.version.toNat (x7 v')).map _=_;rw[g7,<-b.yk];exact yg _ _ (by rw[cX,hv'];rfl)
  .show w.zi.set i (xb x)=_;rw[b.zi,<-mb hr]
   congr 1
   unfold sT;rw[c7 hd]
 |p8 i p hi hl b=>
  rw[c6 ah,c6 ah,c6 ah,c6 ah,c6 ah,c6 ah,c6 ah,c7 p]at h;cases h
  exact Bv i _ hd0 p hi hl b hb.1 (de _) g
 |p9 i l p hi hl hd hc b=>
  have it:m.i.toNat=i:=ah
  have rF:=(cW.1 hl).1;have hw:IntKind.i64.wrap (m.i+1)=m.i+1:=z7 ah ah;have e:=gy (λl=>l[i]?) b.rU;simp only[xE,c6 (gY i)]at e;rw[c6 ah,c6 ah,c6 ah,c6 ah,c6 ah,c6 ah,c6 ah,c6 ah,c7 p,it,e,hl]at h;cases h
  dsimp only;by_cases q:l.zt=0
  .rw[c7 q];exact .inr ⟨_,ah,hd0,.oc i l V hi hl hd hc q b⟩
  .rw[c6 q,hw];refine .inr ⟨_,ah,hd0,.p8 (i+1) V ai rF ⟨b.zl,b.current,b.lock,b.pins,b.counts,b.yk,b.zi,b.rU.trans (ko hl ?_)⟩⟩;unfold ew;rw[c6];simp[q]
 |oc i l p hi hl hd hc ha b=>
  have it:m.i.toNat=i:=ah
  have rF:=(cW.1 hl).1;have hw:IntKind.i64.wrap (m.i+1)=m.i+1:=z7 ah ah;have e:=gy (λl=>l[i]?) b.rU;simp only[xE,c6 (gY i)]at e;rw[c6 ah,c6 ah,c6 ah,c6 ah,c6 ah,c6 ah,c6 ah,c6 ah,c6 ah,c7 p,it,e,hl,dB,c7 hd,hw]at h;cases h
  refine .inr ⟨_,ah,hd0,.p8 (i+1) V ai rF ⟨b.zl,b.current,b.lock,b.pins,b.counts,b.yk,b.zi,?_⟩⟩;show w.zc.set i (vo l)=_;rw[b.rU,<-mb hl]
  congr 1
  unfold ew;rw[c7 (by rw[hd,hc,ha];rfl)]
end Go.Wor
namespace Go.Wor
open Go.Ab Go.Proofs Tryz Go.Gat Go.Nam Go.Hos Go.Con Go.Sna Go.Pla
open Go.Hy hiding encI
def iN(p:Int):Bool:=p != 0
def nz(e:En):Bool:=e.zt != 0
def B1(g:Gr):Bool:=g.ends.any nz
def fG(v:rL):Bool:=v.zg.any B1
def vj(l:rS):Bool:=l.zt != 0 || l.drain && !l.closed
def wJ(r:rP):Bool:=!r.gone
def yG(w:Wor):Bool:=w.lock == 0 && !w.pins.any iN
def kE(w:Wor):Bool:=!w.zd.any fG
def um(w:Wor):Bool:=yG w && kE w && !w.zi.any wJ && !w.zc.any vj
structure i7(w:Wor):Prop where
 lock:w.lock=0
 pins:∀p∈w.pins,p=0
 ends : ∀v∈w.zd, ∀e∈zY v, e.zt = 0
 rU:∀l∈w.zc,l.zt=0
structure JG(w:Wor):Prop extends i7 w where
 gone:∀r∈w.zi,r.gone=true
 shut:∀l∈w.zc,l.drain=true->l.closed=true
def i7.still{w:Wor}(h:i7 w){r:rP}(hr:0<=r.version/\r.version<w.zd.length):ff w r.version=true:=by
 unfold ff;rw[cV ah];exact c8.2 λe he=>by simp[h.ends _ (dn ah) e he]
end Go.Wor
namespace Go.Wor
open Go.Ab Go.Proofs Tryz Go.Gat Go.Nam Go.Hos Go.Con Go.Sna Go.Pla Go.Dep
open Go.Hy hiding encI
variable{H:zf}{f:FuncId}{caps:List C}{l:List FuncId}
def iP(f:FuncId):List C:=[.fn f [] []]
abbrev Fv(f:FuncId):C:=.agg (iP f)
abbrev fS(l:List FuncId):C:=.rG 0 1 (l.map iP)
abbrev Rv(r:rP):C:=.agg (zW r)
abbrev Lv(r:rS):C:=.agg (z1 r)
def Ei{l:List rP}(p:rP->Bool)(hcb:zC prog f=true)(hp:∀r∈l,tc f H ([Rv r]++caps) (Bo (p r)) H)(hl:l.length<4611686018427387904):
  tc 190 H [lR l,.fn f [] caps] (I (match l.findIdx? p with|some i=>(i:Int)|none=> -1)) H:=by
 refine zb.zJ (fn:=f190) func190 V (uH ?_)
 refine zp.inv (λn t1 H1=>∃k,k+n=l.length/\H1=H/\(∀j,j<k->∀r,l[j]?=some r->p r=false)/\
   t1=((lR l)::.fn f [] caps::.za::.za::I 0::.za::.za::I (l.map zW).length::I k::tJ ([.za,.za]))) l.length ?_ ?_
 .exact bZ
 rintro n _ _ ⟨k,hk,rfl,hno,rfl⟩;conv=>whnf
 refine⟨λh=>?_,λh=>?_⟩
 .conv=>whnf
  have rF:k<l.length:=ak h
  refine⟨ah,zW l[k],al,uH ?_⟩;rw[hcb];refine⟨_,_,hp _ (dn rF),uH ?_⟩;refine⟨λh2=>?_,λh2=>?_⟩
  .conv=>whnf
   refine zae ?_
   have:l.findIdx? p=some k:=by
    rw[dh];refine⟨rF,h2,λj hj=>?_⟩;simp[hno j hj _ (cV ah)]
   rw[this]
   rfl
  .conv=>whnf
   refine .inl ⟨rfl,n-1,_,_,ah,zm.mask [0,1,4,7,8] _ _,k+1,ah,rfl,?_,?_⟩
   .intro j hj r hr;by_cases hjk:j=k
    .subst hjk;rw[cV rF]at hr;cases hr
     exact h2
    .exact cS
   .rw[zk ah];rfl
 .conv=>whnf
  refine zae ?_
  have:l.findIdx? p=none:=by
   rw[dt];intro x hx;obtain⟨j,hj⟩:=di.1 hx;have hjl:=(cW.1 hj).1;have:¬k<l.length:=ak h
   exact cR
  rw[this]
  rfl
def EI{l:List rP}(p:rP->Bool)(hcb:zC prog f=true)(hp:∀r∈l,tc f H ([Rv r]++caps) (Bo (p r)) H)(hl:l.length<4611686018427387904):
  tc 124 H [lR l,.fn f [] caps] (Bo (l.any p)) H:=by
 refine zb.zJ (fn:=f124) func124 V (uH ?_);refine⟨_,_,Ei p hcb hp hl,dd ?_⟩;refine zak ?_;refine⟨λh=>?_,λh=>?_⟩ <;> rw[h]
 .exact cA
 .exact cA
def EN{l:List rS}(p:rS->Bool)(hcb:zC prog f=true)(hp:∀r∈l,tc f H ([Lv r]++caps) (Bo (p r)) H)(hl:l.length<4611686018427387904):
  tc 113 H [lL l,.fn f [] caps] (I (match l.findIdx? p with|some i=>(i:Int)|none=> -1)) H:=by
 refine zb.zJ (fn:=f113) func113 V (uH ?_)
 refine zp.inv (λn t1 H1=>∃k,k+n=l.length/\H1=H/\(∀j,j<k->∀r,l[j]?=some r->p r=false)/\
   t1=((lL l)::.fn f [] caps::.za::.za::I 0::.za::.za::I (l.map z1).length::I k::tJ ([.za,.za]))) l.length ?_ ?_
 .exact bZ
 rintro n _ _ ⟨k,hk,rfl,hno,rfl⟩;conv=>whnf
 refine⟨λh=>?_,λh=>?_⟩
 .conv=>whnf
  have rF:k<l.length:=ak h
  refine⟨ah,z1 l[k],al,uH ?_⟩;rw[hcb];refine⟨_,_,hp _ (dn rF),uH ?_⟩;refine⟨λh2=>?_,λh2=>?_⟩
  .conv=>whnf
   refine zae ?_
   have:l.findIdx? p=some k:=by
    rw[dh];refine⟨rF,h2,λj hj=>?_⟩;simp[hno j hj _ (cV ah)]
   rw[this]
   rfl
  .conv=>whnf
   refine .inl ⟨rfl,n-1,_,_,ah,zm.mask [0,1,4,7,8] _ _,k+1,ah,rfl,?_,?_⟩
   .intro j hj r hr;by_cases hjk:j=k
    .subst hjk;rw[cV rF]at hr;cases hr
     exact h2
    .exact cS
   .rw[zk ah];rfl
 .conv=>whnf
  refine zae ?_
  have:l.findIdx? p=none:=by
   rw[dt];intro x hx;obtain⟨j,hj⟩:=di.1 hx;have hjl:=(cW.1 hj).1;have:¬k<l.length:=ak h
   exact cR
  rw[this]
  rfl
def EH{l:List rS}(p:rS->Bool)(hcb:zC prog f=true)(hp:∀r∈l,tc f H ([Lv r]++caps) (Bo (p r)) H)(hl:l.length<4611686018427387904):
  tc 126 H [lL l,.fn f [] caps] (Bo (l.any p)) H:=by
 refine zb.zJ (fn:=f126) func126 V (uH ?_);refine⟨_,_,EN p hcb hp hl,dd ?_⟩;refine zak ?_;refine⟨λh=>?_,λh=>?_⟩ <;> rw[h]
 .exact cA
 .exact cA
def EM(p:FuncId->Bool)(hcb:zC prog f=true)(hp:∀r∈l,tc f H ([Fv r]++caps) (Bo (p r)) H)(hl:l.length<4611686018427387904):
  tc 189 H [fS l,.fn f [] caps] (I (match l.findIdx? p with|some i=>(i:Int)|none=> -1)) H:=by
 refine zb.zJ (fn:=f189) func189 V (uH ?_)
 refine zp.inv (λn t1 H1=>∃k,k+n=l.length/\H1=H/\(∀j,j<k->∀r,l[j]?=some r->p r=false)/\
   t1=((fS l)::.fn f [] caps::.za::.za::I 0::.za::.za::I (l.map iP).length::I k::tJ ([.za,.za]))) l.length ?_ ?_
 .exact bZ
 rintro n _ _ ⟨k,hk,rfl,hno,rfl⟩;conv=>whnf
 refine⟨λh=>?_,λh=>?_⟩
 .conv=>whnf
  have rF:k<l.length:=ak h
  refine⟨ah,iP l[k],al,uH ?_⟩;rw[hcb];refine⟨_,_,hp _ (dn rF),uH ?_⟩;refine⟨λh2=>?_,λh2=>?_⟩
  .conv=>whnf
   refine zae ?_
   have:l.findIdx? p=some k:=by
    rw[dh];refine⟨rF,h2,λj hj=>?_⟩;simp[hno j hj _ (cV ah)]
   rw[this]
   rfl
  .conv=>whnf
   refine .inl ⟨rfl,n-1,_,_,ah,zm.mask [0,1,4,7,8] _ _,k+1,ah,rfl,?_,?_⟩
   .intro j hj r hr;by_cases hjk:j=k
    .subst hjk;rw[cV rF]at hr;cases hr
     exact h2
    .exact cS
   .rw[zk ah];rfl
 .conv=>whnf
  refine zae ?_
  have:l.findIdx? p=none:=by
   rw[dt];intro x hx;obtain⟨j,hj⟩:=di.1 hx;have hjl:=(cW.1 hj).1;have:¬k<l.length:=ak h
   exact cR
  rw[this]
  rfl
def EG(p:FuncId->Bool)(hcb:zC prog f=true)(hp:∀r∈l,tc f H ([Fv r]++caps) (Bo (p r)) H)(hl:l.length<4611686018427387904):
  tc 120 H [fS l,.fn f [] caps] (Bo (l.any p)) H:=by
 refine zb.zJ (fn:=f120) func120 V (uH ?_);refine⟨_,_,EM p hcb hp hl,dd ?_⟩;refine zak ?_;refine⟨λh=>?_,λh=>?_⟩ <;> rw[h]
 .exact cA
 .exact cA
def Fk(w:Wor)(f:FuncId)(b:Bool)(hc:zC prog f=true)(h:tc f [] [Cw w] (Bo b) []):tc 121 [oW w] ([Fv f]++[.ref 0 [] 8 0 0]) (Bo (!b)) [oW w]:=by
 refine zb.zJ (fn:=f121) func121 V (uH ?_);rw[hc];cases b
 all_goals
  refine⟨_,_,h.frame V _,dd ?_⟩;refine hU ?_
  exact b9
def ke(w:Wor)(l:List FuncId)(p:FuncId->Bool)(h:∀f∈l,zC prog f=true/\tc f [] [Cw w] (Bo (p f)) [])(hl:l.length<4611686018427387904):tc 62 [] [Cw w,fS l] (Bo (!l.any λf=>!p f)) []:=by
 refine ab func62 ?_;have hcon:=EG (H:=[oW w]) (f:=121) (l:=l) (caps:=[.ref 0 [] 8 0 0]) (λf=>!p f) an (λr hr=>Fk w r (p r) (h r hr).1 (h r hr).2) hl;refine ae [0] (hcon) ?_;refine⟨λq=>?_,λq=>?_⟩
 all_goals
  rw[q];refine zab ?_
  exact uI
def Ec(p:Int):tc 122 [] [I p] (Bo (iN p)) []:=by
 refine ab func122 ?_;refine⟨λh=>?_,λh=>?_⟩
 all_goals
  refine dd ?_
  (exact⟨.inl V,_,.refl _,uN (by exact h.symm)⟩)
def DQ(w:Wor)(hw:w.pins.length<4611686018427387904):tc 63 [] [Cw w] (Bo (yG w)) []:=by
 refine ab func63 ?_;refine⟨λh1=>?_,λh1=>?_⟩
 .have e:yG w=!w.pins.any iN:=by unfold yG;simp at h1;rw[h1];rfl
  rw[e];refine dd ?_;have hcon:=oU (H:=[]) (f:=122) (l:=w.pins) (caps:=[]) iN an (λr _=>Ec r) hw;refine af hcon ?_;refine⟨λq=>?_,λq=>?_⟩
  all_goals
   rw[q];refine zab ?_
   exact uI
 .have e:yG w=false:=by unfold yG;simp at h1;simp[h1]
  rw[e];exact cr
def EL(e:En):tc 123 [] [Go.Slp.Ev e] (Bo (nz e)) []:=by
 refine ab func123 ?_;refine⟨λh=>?_,λh=>?_⟩
 all_goals
  refine dd ?_
  (exact⟨.inl V,_,.refl _,uN (by exact h.symm)⟩)
def EK(r:rP):tc 125 [] [Rv r] (Bo (wJ r)) []:=by
 refine ab func125 ?_;refine⟨λh=>?_,λh=>?_⟩
 all_goals
  refine dd ?_
  (exact⟨.inl V,_,.refl _,uN (by unfold wJ;rw[h];rfl)⟩)
def Ep(w:Wor)(hw:w.zi.length<4611686018427387904):tc 65 [] [Cw w] (Bo (!w.zi.any wJ)) []:=by
 refine ab func65 ?_;have hcon:=EI (H:=[]) (f:=125) (l:=w.zi) (caps:=[]) wJ an (λr _=>EK r) hw;refine af hcon ?_;refine⟨λq=>?_,λq=>?_⟩
 all_goals
  rw[q];refine zab ?_
  exact uI
def Eg(l:rS):tc 127 [] [Lv l] (Bo (vj l)) []:=by
 obtain⟨a,b,c,d⟩:=l;refine ab func127 ?_;refine⟨λh1=>?_,λh1=>?_⟩
 .refine zab ?_
  (exact⟨.inl V,_,.refl _,uN ao⟩)
 .refine dd ?_;cases b
  ·(refine yb (dd ?_))
   (exact⟨.inl V,_,.refl _,uN ao⟩)
  ·(refine ya (dd ?_))
   cases d
   ·(refine yb (dd ?_))
    (exact⟨.inl V,_,.refl _,uN ao⟩)
   ·(refine ya (dd ?_))
    (exact⟨.inl V,_,.refl _,uN ao⟩)
def Es(w:Wor)(hw:w.zc.length<4611686018427387904):tc 66 [] [Cw w] (Bo (!w.zc.any vj)) []:=by
 refine ab func66 ?_;have hcon:=EH (H:=[]) (f:=127) (l:=w.zc) (caps:=[]) vj an (λr _=>Eg r) hw;refine af hcon ?_;refine⟨λq=>?_,λq=>?_⟩
 all_goals
  rw[q];refine zab ?_
  exact uI
structure lf(w:Wor):Prop where
 zd:w.zd.length<4000000000000000000
 zg:∀v∈w.zd,v.zg.length<4000000000000000000/\∀g∈v.zg,g.ends.length<4000000000000000000
 pins:w.pins.length<4000000000000000000
 zc:w.zc.length<4000000000000000000
 zi:w.zi.length<4000000000000000000
def Er(w:Wor)(hw:lf w):tc 64 [] [Cw w] (Bo (kE w)) []:=by
 have m2:(w.zd.map zw).length=w.zd.length:=cY ..;have b2:=hw.zd;refine ab func64 ?_;rw[m2];refine zp.seq w.zd.length (λk=>(.za::.ref 0 [] 8 0 0::Bo false::.za::.za::.za::.za::.za::(lV w.zd)::I w.zd.length::I k::tJ ([.za,.za,.za,.za,.za,.za,.za]))) (λk=>[oW w]) (λk=>∀j,(h:j<w.zd.length)->j<k->fG w.zd[j]=false) ?_ aj (λk hk hr=>?_) (λhr=>?_)
 .exact cC
 .obtain⟨v,hx⟩:∃v,v=w.zd[k]:=⟨_,rfl⟩;have hv:v∈w.zd:=by rw[hx];exact dn hk
  have hg:(w.zd.map zw)[k]?=some (zw v):=by rw[cX,cV hk,hx];rfl
  have mg:(v.zg.map zM).length=v.zg.length:=cY ..
  have bad:fG v=true->kE w=false:=λh=>by
   unfold kE;rw[dQ.2 ⟨v,hv,h⟩];rfl
  have bg:=(hw.zg v hv).1;conv=>whnf
  refine zar ?_
  rw[mg];refine zp.seq v.zg.length (λj=>[.za,.ref 0 [] 8 0 0,Bo false,.za,.ref 1 [] 5 0 0,.za,.za,.za,lV w.zd,I w.zd.length,I k,.za,.za,.za,.za,lG v.zg,I v.zg.length,I j,.za,.za,.za,.za,.za,.za,.za,.za]) (λj=>[oW w,⟨1,67,5,[zw v],0⟩]) (λj=>∀i,(h:i<v.zg.length)->i<j->B1 v.zg[i]=false) ?_ aj (λj hj hrj=>?_) (λhrj=>?_)
  .exact cC
  .obtain⟨g,hxg⟩:∃g,g=v.zg[j]:=⟨_,rfl⟩;have hgm:g∈v.zg:=by rw[hxg];exact dn hj
   have hgg:(v.zg.map zM)[j]?=some (zM g):=by rw[cX,cV hj,hxg];rfl
   have be:=(hw.zg v hv).2 g hgm;have hcon:=oT (H:=[]) (f:=123) (l:=g.ends) (caps:=[]) nz an (λr _=>EL r) ah;conv=>whnf
   refine uF ?_;(refine hY hgg ?_)
   refine af hcon ?_;refine⟨λq=>?_,λq=>?_⟩
   .rw[bad (dQ.2 ⟨g,hgm,q⟩)];refine zaO ?_
    (try (refine .inr ⟨aj,uH ?_⟩))
    exact uI
   .refine dd ?_;refine .inl ⟨rfl,?_,λi hi hij=>?_⟩
    .exact cL
    .by_cases e:i=j
     .subst e;rw[<-hxg];exact q
     .exact hrj i hi ah
  .have no:fG v=false:=by
    unfold fG;rw[dv];intro x hx;obtain⟨i,hi,rfl⟩:=dk.1 hx;simp[hrj i hi hi]
   refine uD ?_;refine .inl ⟨rfl,?_,λi hi hij=>?_⟩
   .exact cq
   .by_cases e:i=k
    .subst e;rw[<-hx];exact no
    .exact hr i hi ah
 .have e:kE w=true:=by
   unfold kE;rw[dG,dv];intro x hx;obtain⟨i,hi,rfl⟩:=dk.1 hx;simp[hr i hi hi]
  rw[e];exact cU
def yI(w:Wor)(hw:lf w):tc 26 [] [Cw w] (Bo (um w)) []:=by
 have h:=ke w [63,64,65,66] (λf=>if f=63 then yG w else if f=64 then kE w else if f=65 then !w.zi.any wJ else !w.zc.any vj) (by
  intro f hf;simp only[gS,List.not_mem_nil,or_false]at hf;rcases hf with rfl|rfl|rfl|rfl
  .exact⟨an,DQ w (by have:=hw.pins;omega)⟩
  .exact⟨an,Er w hw⟩
  .exact⟨an,Ep w (by have:=hw.zi;omega)⟩
  .exact⟨an,Es w (by have:=hw.zc;omega)⟩) aq
 have e:um w=!([63,64,65,66].any λf=>!(if f=63 then yG w else if f=64 then kE w else if f=65 then !w.zi.any wJ else !w.zc.any vj)):=by
  show um w=!(!yG w || (!kE w || (!(!w.zi.any wJ) || (!(!w.zc.any vj) || false))));unfold um;cases yG w <;> cases kE w <;> cases w.zi.any wJ <;> cases w.zc.any vj <;> rfl
 rw[e];refine ab func26 ?_;have h2:=h.pre (.cons (.refl _) (.cons (λE y hy=>WC.share 1 1 _ E y hy) .nil));refine af h2 ?_;refine⟨λq=>?_,λq=>?_⟩
 all_goals
  rw[q];refine zab ?_
  exact uI
end Go.Wor
namespace Go.Wor
open Go.Ab Go.Proofs Tryz Go.Gat Go.Nam Go.Hos Go.Con Go.Sna Go.Pla
open Go.Hy hiding encI
variable{α:Type}{w:Wor}
theorem nI(f:α->Nat)(l:List α){k:Nat}(h:k<l.length):((l.take (k+1)).map f).sum=((l.take k).map f).sum+f l[k]:=by
 grind [List.take_succ_eq_append_getElem]
theorem nH{α:Type}(f:α->Nat)(b:Nat):∀(l:List α),(∀x∈l,f x<=b)->(l.map f).sum<=l.length*b
 |[],_=>by simp
 |x::l,h=>by
  have:=nH f b l λy hy=>h y (dV _ hy)
  grind [List.mem_cons_self,List.length_cons,Nat.add_mul]
def eK(f:α->Nat)(b:Nat)(l:List α)(h:∀x∈l,f x<=b)(k:Nat):((l.take k).map f).sum<=l.length*b:=
 dK (nH f b _ λx hx=>h x (gK hx)) (dJ _ (by rw[rp];omega))
def qS(w:Wor)(r:rP):Nat:=if 0<=r.version/\r.version<w.zd.length then qR w r else 0
def It(w:Wor):Nat:=5+w.pins.length+3*w.zc.length+(w.zi.map (qS w)).sum
structure Cr(w:Wor):Prop where
 pins:w.pins.length<=1000
 zc:w.zc.length<=1000
 zi:w.zi.length<=1000
 yk:w.zd.length<=1000/\∀v∈w.zd,tx v
theorem B7(h:Cr w)(r:rP):qS w r<=1000002:=by
 unfold qS;split
 .unfold qR;split
  .rename_i v hv;have f:=h.yk.2 v (cZ hv);have:=wG v.zg f.ends;have:=f.zg
   grind [zY]
  .omega
 .omega
def DR(w:Wor)(hw:Cr w):tc 27 [] [Cw w] (I (It w)) []:=by
 have m1:(w.pins.map Go.Hy.encI).length=w.pins.length:=cY ..;have m2:(w.zd.map zw).length=w.zd.length:=cY ..;have m3:(w.zc.map z1).length=w.zc.length:=cY ..;have m4:(w.zi.map zW).length=w.zi.length:=cY ..;have b1:=hw.pins;have b2:=hw.yk.1;have b3:=hw.zc;have b4:=hw.zi;refine ab func27 ?_;rw[m1,m3,m4]
 have e1:IntKind.i64.wrap (IntKind.i64.wrap (5+(w.pins.length:Int))+IntKind.i64.wrap (3*(w.zc.length:Int)))=((5+w.pins.length+3*w.zc.length+0:Nat):Int):=by
  rw[z7 (n:=5+(w.pins.length:Int)) ah ah,z7 (n:=3*(w.zc.length:Int)) ah ah,z7 ah ah];omega
 rw[e1];refine zp.seq w.zi.length (λk=>(.za::.ref 0 [] 8 0 0::I 0::I (5+w.pins.length+3*w.zc.length+((w.zi.take k).map (qS w)).sum:Nat)::tJ (.za::.za::.za::.za::(lR w.zi)::I w.zi.length::I k::tJ (tJ (tJ ([.za,.za])))))) (λk=>[oW w]) (λk=>True) ?_ trivial (λk hk _=>?_) (λ_=>?_)
 .exact cC
 .obtain⟨x,hx⟩:∃x,x=w.zi[k]:=⟨_,rfl⟩;have hg:(w.zi.map zW)[k]?=some (zW x):=by rw[cX,cV hk,hx];rfl
  have sk:=nI (qS w) w.zi hk;rw[<-hx]at sk;have sb:=eK (qS w) 1000002 w.zi (λr _=>B7 hw r) k;have sc:=eK (qS w) 1000002 w.zi (λr _=>B7 hw r) (k+1);have no:¬(0<=x.version/\x.version<w.zd.length)->((w.zi.take (k+1)).map (qS w)).sum=((w.zi.take k).map (qS w)).sum:=λh=>by rw[sk];unfold qS;rw[c6 h];rfl
  conv=>whnf
  refine zar ?_
  refine⟨λc1=>?_,λc1=>?_⟩
  .refine dd ?_;rw[m2];refine⟨λc2=>?_,λc2=>?_⟩
   .refine dd ?_;have c1:0<=x.version:=by simpa using c1
    have c2:x.version<w.zd.length:=ak c2
    obtain⟨v,hv⟩:∃v,w.zd[x.version.toNat]?=some v:=⟨_,cV ah⟩;have hgv:(w.zd.map zw)[x.version.toNat]?=some (zw v):=by rw[cX,hv];rfl
    have q:qS w x=2+(zY v).length:=by unfold qS;rw[c7 ⟨c1,c2⟩];unfold qR;rw[hv]
    refine hU ?_
    refine⟨c1,_,hgv,dd ?_⟩;refine af (oA v (hw.yk.2 v (cZ hv))) ?_
    have e2:IntKind.i64.wrap (((5+w.pins.length+3*w.zc.length+((w.zi.take k).map (qS w)).sum:Nat):Int)+IntKind.i64.wrap (2+((zY v).length:Int)))=((5+w.pins.length+3*w.zc.length+((w.zi.take (k+1)).map (qS w)).sum:Nat):Int):=by
     rw[z7 (n:=2+((zY v).length:Int)) ah ah,z7 ah ah];omega
    rw[e2,zk ah];exact cJ
   .refine zab ?_
    rw[zk ah,<-no (λh=>by simp at c2;omega)];exact cJ
  .refine zab ?_
   rw[zk ah,<-no (λh=>by simp at c1;omega)];exact cJ
 .refine uD ?_;rw[dy];exact uI
def oZ(v:rL)(h:tx v):tc 202 [] [Cv v] (I (zY v).length) []:=by
 have m1:(v.zg.map zM).length=v.zg.length:=cY ..;have b1:=h.zg;refine ab func202 ?_;refine zp.seq v.zg.length (λk=>(.za::.ref 0 [] 5 0 0::I 0::I (((v.zg.take k).map λg=>g.ends.length).sum:Nat)::I k::tJ (tJ ([.za])))) (λk=>[⟨1,67,5,[zw v],0⟩]) (λk=>True) ?_ trivial (λk hk _=>?_) (λ_=>?_)
 .exact cC
 .obtain⟨x,hx⟩:∃x,x=v.zg[k]:=⟨_,rfl⟩;have hg:(v.zg.map zM)[k]?=some (zM x):=by rw[cX,cV hk,hx];rfl
  have m2:(x.ends.map zP).length=x.ends.length:=cY ..;have sk:=nI (λg:Gr=>g.ends.length) v.zg hk;rw[<-hx]at sk;have sb:=eK (λg:Gr=>g.ends.length) 1000 v.zg (λg hg=>h.ends g hg) k;have sc:=eK (λg:Gr=>g.ends.length) 1000 v.zg (λg hg=>h.ends g hg) (k+1);conv=>whnf
  rw[m1];refine zar ?_
  rw[m2]
  have e2:IntKind.i64.wrap (((((v.zg.take k).map λg=>g.ends.length).sum:Nat):Int)+(x.ends.length:Int))=((((v.zg.take (k+1)).map λg=>g.ends.length).sum:Nat):Int):=by
   rw[z7 ah ah];omega
  rw[e2,zk ah];exact cJ
 .have e:((v.zg.take v.zg.length).map λg=>g.ends.length).sum=(zY v).length:=by
   rw[dy];unfold zY;rw[List.length_flatMap]
  conv=>whnf
  rw[m1];refine zai ?_;exact cI
abbrev Ik(w:Wor)(m:rH)(r:Wor×rH×rV):Prop:=tc 52 [] [Sw w,Sm m] (Sr r.1 r.2.1 r.2.2) []
def BF{N:Nat}{m:rH}{v:rL}{g:Gr}{e:En}{r:Wor×rH×rV}(su:x5 w m v g e)(t:tK N w)(tm:tn m)(hN:N<=100000000)(hk:m.op.kind=5)(h:qZ w m=some r):Ik w m r:=
 Eh hk (DF su (Ah su) t tm hN h)
def G7:∀(n:Nat) {N K:Nat} {w0 w:Wor} {m:rH} {v:rL} {g:Gr} {e:En},J w0 w m n->qg w0->w0.lock=0->(w0.zc.length<1000000000/\w0.zi.length<1000000000)->St N K w->x5 w m v g e->tn m->s9 w m v g e->m.op.kind=5->N+n<=100000000->
  ∃n' m' K',tR n' w m (wz w0) m'/\1<=n'/\n'<=n/\St (N+n) K' (wz w0):=by
 intro n
 induction n using Nat.strongRecOn with
 |_ n ih=>
  intro N K w0 w m v g e hJ g0 hl hb st su tm lo hk hN;obtain⟨⟨w',m',ev⟩,h1,h2⟩:=yB st su tm lo hk ah;have hp:=BF su st.ty tm ah hk h1;have nx:=Ba hJ su.done g0 hl hb h1 h2.st.jI;rcases nx with⟨hd,hc,hn⟩|⟨n',hn,hd',hJ'⟩
  .have hc:w'=wz w0:=hc;subst hc;exact⟨1,m',K+1,.last hp h2.ev hd,ah,hn,h2.st.mono ah (de _)⟩
  .rcases h2.go with⟨hd,hf⟩|⟨⟨v',g',e',hs',lo'⟩,h3⟩
   .exact absurd (hd.symm.trans hd') aq
   .obtain⟨n2,m2,K',hg,h4,h5,h6⟩:=ih n' hn hJ' g0 hl hb h2.st hs' h2.tm lo' (by rw[h2.op];exact hk) ah;exact⟨n2+1,m2,K',.more hp h2.ev hs'.done hg,ah,ah,h6.mono ah (de _)⟩
def fb:ss:=⟨5,[],[],[],0,0,0,⟨[],[],[]⟩⟩
abbrev wL:rH:=⟨fb,0,0,0,0, -1,0,0,0,0,0,0,0,0,0,false,Beg.u5,ux⟩
def qj(w:Wor):Nat:=5+w.pins.length+3*w.zc.length+s0 w 0
def kn:tn wL:=⟨(by decide:i64 (-1)),(by decide:u64 0),(by decide:(-1:Int)<=0/\(0:Int)<=2147483646),aq,aq,(by decide:i64 0),(by decide:i64 0),λ_=>⟨⟨aq,λ_ h=>nomatch h⟩,⟨aq,λ_ h=>nomatch h⟩,⟨aq,λ_ h=>nomatch h⟩⟩,λ_ _=>V⟩
def wM(w:Wor):Wor:=if w.lock=0 then wz w else w
def AJ{N K:Nat}(st:St N K w)(hN:N+qj w<=100000000):∃n m' K',tR n w wL (wM w) m'/\1<=n/\n<=qj w/\St (N+qj w) K' (wM w):=by
 have gw:=st.jI;have gr:=zZ.1 gw.ground;obtain⟨v,g,e,su⟩:=Ac gw (m:=wL) ⟨gC _,by show(0:Int)<_;have:=gr.pins.1;omega⟩ V V V V V V V V V;have lo:s9 w wL v g e:=by constructor <;> dsimp only <;> omega
 unfold wM;by_cases hl:w.lock=0
 .rw[c7 hl];have b1:=st.ty.rU;have b2:=st.ty.sD;obtain⟨n,m',K',h1,h2,h3,h4⟩:=G7 _ (J.p0 V) gw hl ⟨ah,ah⟩ st su kn lo V (by unfold qj at hN;omega);exact⟨n,m',K',h1,h2,ar,h4.mono ar (de _)⟩
 .rw[c6 hl];obtain⟨⟨w',m',ev⟩,h1,h2⟩:=yB st su kn lo V ah;have hp:=BF su st.ty kn ah V h1;unfold qZ at h1;rw[c7 V,c6 hl]at h1;cases h1
  exact⟨1,_,K,.last hp h2.ev V,ah,ar,st.mono ah (de _)⟩
def jY:Nat->Wor->Wor
 |0,w=>w
 |n+1,w=>wM (jY n w)
theorem IM(w:Wor)(r:rP):qR (wz w) (sT w r)=qR w r:=by
 have hv:(sT w r).version=r.version:=by grind [sT]
 unfold qR;rw[hv];show(match (w.zd.mapIdx (λk v=>{v with qQ:=jW (w.zi.map (sT w)) k}))[r.version.toNat]? with|some v=>_|none=>_)=_;rw[pR];cases w.zd[r.version.toNat]? <;> rfl
theorem F3(w:Wor):qj (wz w)=qj w:=by
 have e:(w.zi.map (sT w)).map (qR (wz w))=w.zi.map (qR w):=by
  grind [List.map_map,List.map_congr_left,IM]
 unfold qj s0;show 5+w.pins.length+3*(w.zc.map ew).length+(((w.zi.map (sT w)).drop 0).map (qR (wz w))).sum=_
 grind
theorem FY(w:Wor):qj (wM w)=qj w:=by
 grind [wM,F3]
def xt(w:Wor):∀n,qj (jY n w)=qj w
 |0=>rfl
 |n+1=>(FY _).trans (xt w n)
def fe{N K:Nat}{w:Wor}(st:St N K w):∀n,N+n*qj w<=100000000->∃K',St (N+n*qj w) K' (jY n w)
 |0,_=>⟨K,by rw[pA];exact st⟩
 |n+1,h=>by
  rw[dN]at h|-;obtain⟨K',s⟩:=fe st n ah;have e:=xt w n;obtain⟨_,_,K2,_,_,_,h4⟩:=AJ s (by rw[e];omega);rw[e]at h4;exact⟨K2,h4.mono ah (de _)⟩
def qU(w:Wor)(n:Int):Wor×Int:=if qf w=true/\0<=n/\n<=10 then (jY n.toNat w,0) else (ua,1)
end Go.Wor
namespace Go.Wor
open Go.Ab Go.Proofs Tryz Go.Gat Go.Nam Go.Hos Go.Con Go.Sna Go.Pla Go.Dep
open Go.Hy hiding encI
variable{w:Wor}
abbrev BN:C:=.agg [I 5,Tx [],Tx [],Tx [],I 0,I 0,I 0,.rG 1 0 [],.rG 1 0 [],.rG 1 0 []]
def WC.Ct{a b:List C}(h:sA a b):WC (.agg a) (.agg b):=λE y hl=>by
 cases hl with
 |agg cs ys h1 h2 h3=>
  have h:=(h.LL (E:=E) (ys:=ys.toList) ⟨ak h1,λi c y e1 e2=>h2 i c y e1 uS⟩);exact .agg b ys (ak h.1) (λi c y e1 e2=>h.2 i c y e1 uS) h3
def DA{n:Nat}{w':Wor}{t:Int}{o:ss}{m m':rH}{given:List r3}(hb:tc 51 [] [I t,.agg (tf o),lA given] (Sm m) [])(hg:tR n w m w' m')(hn:n<=10000):tc 19 [] [Sw w,I t,.agg (tf o),lA given] (.rO [Sw w',.agg (xy m'.answer),I n]) []:=by
 refine ab func19 ?_;refine af hb ?_;refine zp.inv (λi t1 H1=>∃(k:Nat) (wk:Wor) (mk:rH),k+i=n/\tR i wk mk w' m'/\t1=(.za::.za::.za::.za::.ref 0 [] 8 0 0::.za::.ref 1 [] 10 0 0::.za::.ref 2 [] 8 0 0::.ref 3 [] 13 0 0::I 0::.ref 4 [] 44 0 0::.ref 5 [] 8 0 0::tJ (.za::I k::tJ (tJ (tJ ([])))))/\H1=[oW w,⟨1,51,10,[tf o],0⟩,⟨1,28,8,[sF],0⟩,⟨1,57,13,[xy ⟨0,0,0,0,0,0,0,ux⟩],0⟩,oM mk,oW wk]) n ?_ ?_
 .exact⟨_,_,cC,0,w,m,aj,hg,rfl,rfl⟩
 rintro i _ _ ⟨k,wk,mk,hk,hg,rfl,rfl⟩;have hi:1<=i:=by cases hg <;> omega
 conv=>whnf
 refine uF ?_;cases hg with
 |last h he hd=>
  refine af h ?_;refine⟨λh=>absurd h (ak he),λ_=>dd ?_⟩;refine .inl ⟨⟨false,[0,1],[6,7],[]⟩,an,uH ?_⟩;refine hO ?_
  refine⟨λ_=>dd ?_,λh=>absurd ((hd).symm.trans h:true=false) aq⟩;refine .inl ⟨⟨false,[0,2],[4,5],[]⟩,an,uH ?_⟩;refine hO ?_
  refine zaq ?_;rw[zk ah,hk];exact uI
 |more h he hd hg=>
  refine af h ?_;refine⟨λh=>absurd h (ak he),λ_=>dd ?_⟩;refine .inl ⟨⟨false,[0,1],[6,7],[]⟩,an,uH ?_⟩;refine hO ?_
  exact zaJ
def GG:tc 51 [] [I 0,.agg (tf fb),lA []] (Sm wL) []:=by
 have h:=Beg.DO 0 fb [] aq;have e:Beg.iw 0 fb []=wL:=by rfl
 rw[e]at h;exact h
def GA{n:Nat}{w':Wor}{m':rH}(hg:tR n w wL w' m')(hn:n<=10000):tc 19 [] [Sw w,I 0,BN,.rG 1 0 []] (.rO [Sw w',.agg (xy m'.answer),I n]) []:=
 (DA (given:=[]) GG hg hn).pre (.cons (.refl _) (.cons (.refl _) (.cons (WC.Ct (.cons (.refl _) (.cons (.refl _) (.cons (.refl _) (.cons (.refl _) (.cons (.refl _) (.cons (.refl _) (.cons (.refl _) (.cons (WC.nil 0 1) (.cons (WC.nil 0 4) (.cons (WC.nil 0 4) .nil))))))))))) (.cons (WC.nil 0 13) .nil))))
def D5(w:Wor)(n:Int)(ok:so w)(hg:qf w=true->∀k:Nat,k<10->∃j m',tR j (jY k w) wL (jY (k+1) w) m'/\j<=10000):tc 7 [] [Sw w,I n] (.rO [Sw (qU w n).1,I (qU w n).2]) []:=by
 have no:¬(qf w=true/\0<=n/\n<=10)->qU w n=(ua,1):=λh=>c6 h
 refine ab func7 ?_;refine af (kK w ok) ?_;refine⟨λh1=>?_,λh1=>?_⟩
 rotate_left
 .rw[no (by rintro⟨h,_⟩;rw[h]at h1;cases h1)];refine zab ?_
  exact bV
 have hw:=h1;refine dd ?_;refine⟨λh2=>?_,λh2=>?_⟩
 .have h2:n<0:=by simpa using h2
  rw[no ah];refine zab ?_
  exact bV
 have h2:0<=n:=ak h2
 refine dd ?_;refine⟨λh3=>?_,λh3=>?_⟩
 .have h3:10<n:=by simpa using h3
  rw[no ah];refine zab ?_
  exact bV
 have h3:n<=10:=ak h3
 obtain⟨N,rfl⟩:∃N:Nat,n=N:=⟨n.toNat,ah⟩;have e:qU w N=(jY N w,0):=by unfold qU;rw[c7 ⟨hw,h2,h3⟩,rk]
 rw[e];refine dd ?_;refine zp.seq N (λk=>(.za::.za::.ref 0 [] 8 0 0::.za::.ref 1 [] 8 0 0::I 0::tJ (.za::.za::.za::.za::I N::I k::tJ ([.za,.za])))) (λk=>[oW (jY k w),⟨1,28,8,[sF],0⟩]) (λk=>True) ?_ trivial (λk hk _=>?_) (λ_=>?_)
 .exact cC
 .obtain⟨j,m',hj,hj2⟩:=hg hw k ah;conv=>whnf
  refine uF ?_;refine af (GA hj hj2) ?_;exact ck
 .exact cU
def y2{K:Nat}(n:Int)(ok:so w)(h:qf w=true->St 60 K w/\qj w<=10000):tc 7 [] [Sw w,I n] (.rO [Sw (qU w n).1,I (qU w n).2]) []:=by
 refine D5 w n ok λhw k hk=>?_
 obtain⟨st,hs⟩:=h hw;have hm:(k+1)*qj w<=10*10000:=rE ah hs;rw[dN]at hm;obtain⟨K',s⟩:=fe st k ah;obtain⟨j,m',_,h1,_,h3,_⟩:=AJ s (by rw[xt];omega);rw[xt]at h3;exact⟨j,m',h1,ah⟩
end Go.Wor
namespace Go.Wor
open Go.Ab Go.Proofs Tryz Go.Gat Go.Nam Go.Hos Go.Con Go.Sna Go.Pla
open Go.Hy hiding encI
abbrev nT(s:tj):C:=.agg (BQ s)
def CA(s:tj):Nat:=(s.threads.map λl=>l.length).sum
def JB(s:tj):Int:=IntKind.i64.wrap ((CA s:Int)*IntKind.i64.wrap (IntKind.i64.wrap (IntKind.i64.wrap (23*(CA s:Int))+IntKind.i64.wrap (6*(s.threads.length:Int)))+60))
structure CF(s:tj):Prop where
 threads:s.threads.length<=1000
 ops:∀l∈s.threads,l.length<=1000
def EX(s:tj)(hs:CF s):tc 28 [] [nT s] (I (JB s)) []:=by
 have m1:(s.threads.map iC).length=s.threads.length:=cY ..;have b1:=hs.threads;refine ab func28 ?_;rw[m1];refine zp.seq s.threads.length (λk=>(.za::.ref 0 [] 5 0 0::I 0::I (((s.threads.take k).map λl=>l.length).sum:Nat)::.za::.za::.za::(Cu s.threads)::I s.threads.length::I k::tJ (tJ ([.za,.za])))) (λk=>[oS s]) (λk=>True) ?_ trivial (λk hk _=>?_) (λ_=>?_)
 .exact cC
 .obtain⟨x,hx⟩:∃x,x=s.threads[k]:=⟨_,rfl⟩;have hg:(s.threads.map iC)[k]?=some (iC x):=by rw[cX,cV hk,hx];rfl
  have m2:(x.map tf).length=x.length:=cY ..;have sk:=nI (λl:List ss=>l.length) s.threads hk;rw[<-hx]at sk;have sb:=eK (λl:List ss=>l.length) 1000 s.threads hs.ops k;have sc:=eK (λl:List ss=>l.length) 1000 s.threads hs.ops (k+1);conv=>whnf
  refine zar ?_
  rw[m2]
  have e2:IntKind.i64.wrap (((((s.threads.take k).map λl=>l.length).sum:Nat):Int)+(x.length:Int))=((((s.threads.take (k+1)).map λl=>l.length).sum:Nat):Int):=by
   rw[z7 ah ah];omega
  rw[e2,zk ah];exact cJ
 .refine uD ?_;rw[m1,dy];exact uI
structure JH(s:tj):Prop where
 first:s.first.zc.length<4000000000000000000/\s.first.zu.length<4000000000000000000/\s.first.ze.length<4000000000000000000
 threads:s.threads.length<4000000000000000000
 ops:∀l∈s.threads,l.length<4000000000000000000/\∀o∈l,o.config.zc.length<4000000000000000000/\o.config.zu.length<4000000000000000000/\o.config.ze.length<4000000000000000000
end Go.Wor
namespace Go.Wor
open Go.Ab Go.Proofs Tryz Go.Gat Go.Nam Go.Hos Go.Con Go.Sna Go.Pla Go.Dep
open Go.Hy hiding encI
abbrev sQ:rK:=[105,110]
abbrev vM:Sna:=⟨[sQ],[⟨0,[42],[47],0⟩],[⟨[97],1,1,[true,true]⟩]⟩
abbrev uf:rL:=⟨vM,[⟨0,[⟨1,[-1],0⟩,⟨1,[-1],0⟩]⟩],false⟩
abbrev yr:Wor:=⟨0,1,0,[0],[uf,uf],[⟨sQ,true,0,false⟩],[[0,0,0,0,0,0]],[⟨0,0,false⟩]⟩
def ly:x4 vM:=⟨⟨aj,λx hx=>by rw[dC.1 hx];simp⟩,⟨aj,λx hx=>by rw[dC.1 hx];simp⟩,⟨aj,λx hx=>by rw[dC.1 hx];simp⟩⟩
theorem Bm:eD vM=(uf,0):=by rfl
def EY:tc 42 [] [Cs vM,lT [sQ],I 1] (.rO [.agg ([I 0,I 0,I 0,.rG 0 1 [[I 0]],.rG 1 5 [zw uf],.sl 0 [] 4 0 1 false,rZ [[0,0,0,0,0,0]],.rG 0 3 []]),I 0]) [⟨2,81,4,[z1 (I1 sQ)],0⟩]:=by
 have cs:=oy vM ly;rw[Bm]at cs;have cs:tc 61 [] [Cs vM] (.rO [Cv uf,I 0]) []:=cs;have hn:tc 89 [] [I 1] (.rO [rZ [[0,0,0,0,0,0]],I 0]) []:=De 1;refine q8 (fn:=f42) func42 V aq (uH ?_);refine af cs ?_;refine hU ?_
 refine af hn ?_;refine hU ?_
 refine .inl ⟨⟨false,[0,3],[2],[]⟩,an,uH ?_⟩;refine⟨rfl,ah,aq,ah,dd ?_⟩;refine hO ?_
 refine wc.fU 2 (LoopN.step ?_);conv=>whnf
 refine hU ?_
 refine⟨aq,_,rfl,dd ?_⟩;refine af (jB sQ aq) ?_;refine hU ?_
 refine⟨_,_,(zb.fH 9 (yC [] sQ aq) V ?_).frame V _,?_⟩;(focus rfl);refine dd ?_
 refine hU ?_
 refine .inr ⟨.inl V,aq,aq,dd ?_⟩;refine .inl ⟨rfl,LoopN.step (uH ?_)⟩;refine⟨λh=>absurd h aq,λ_=>dd ?_⟩;refine zaq ?_;exact⟨.inl V,_,_,zm.var 1 V V V (.cons (.refl _) (.cons (.refl _) (.cons (.refl _) (.cons (.refl _) (.cons (.refl _) (.cons (.refl _) (.cons (.refl _) (.cons (WC.nil 0 3) .nil)))))))),rfl,zm.rJ [4] [0] _ _ V V V V⟩
def Ee:tc 25 [] [] (Cw yr) []:=by
 have cs:=oy vM ly;rw[Bm]at cs;have cs:tc 61 [] [Cs vM] (.rO [Cv uf,I 0]) []:=cs;refine ab func25 ?_;refine zo [] (zb.fH 9 (EY) V ?_) V V V V V V ?_;(focus rfl);refine dd ?_
 refine⟨_,_,(zb.fH 9 (cs) V ?_).frame V _,?_⟩;(focus rfl);refine dd ?_
 refine .inl ⟨.inr V,.inr V,aq,aq,dd ?_⟩;refine wc.fU 2 (LoopN.step ?_);conv=>whnf
 refine hU ?_
 refine⟨aq,aq,dd ?_⟩;refine⟨_,rfl,rfl,dd ?_⟩;refine .inl ⟨rfl,LoopN.step (uH ?_)⟩;refine⟨λh=>absurd h aq,λ_=>dd ?_⟩;refine zaq ?_;refine⟨.inl V,_,zm.trans (zm.Bs 0 5 V V V V (λr hr c hc=>c8.1 (c8.1 (show List.all _ (λr=>r.all zy)=true from V) r hr) c hc) V V) (zm.var (r':=u9 yr) 0 V ?_ ?_ ?_),?_⟩
 .rfl
 .rfl
 .exact .cons (.refl _) (.cons (.refl _) (.cons (.refl _) (.cons (.refl _) (.cons (WC.gl _ _ _) (.cons (.refl _) (.cons (.refl _) (.cons (WC.share _ _ _) .nil)))))))
 .rfl
def nd{w:Wor}(ok:so w):lf w:=⟨by have:=ok.zd.1;omega,λv hv=>by have:=ok.zd.2 v hv;exact⟨by have:=this.zg;omega,λg hg=>by have:=(this.ends g hg).1;omega⟩,by have:=ok.pins;omega,by have:=ok.zc.1;omega,by have:=ok.zi;omega⟩
theorem HN:En.ok ⟨1,[-1],0⟩:=⟨aq,⟨λx hx=>by rw[dC.1 hx];decide,aq⟩,aq⟩
theorem CP:tK 60 yr:=by
 refine⟨aq,aq,aq,λv hv=>?_,λl hl=>?_⟩
 .have hv:v=uf:=by simpa using hv
  subst hv;refine⟨ly,λg hg=>?_⟩;rw[dC.1 hg];refine⟨aq,λe he=>?_⟩
  grind [HN]
 .rw[dC.1 hl];exact⟨aq,aq⟩
theorem Jx:qf yr=true:=by rfl
theorem er:St 60 10 yr:=by
 refine⟨qJ.1 Jx,CP,⟨λl hl=>?_,λv hv g hg e he=>?_⟩⟩
 all_goals grind
def fV:so yr:=iQ er.jI er.ty aq
def CM:so ua:=⟨aq,⟨aq,λ_ h=>nomatch h⟩,⟨aq,λ_ h=>nomatch h⟩,⟨aq,λ_ h=>nomatch h⟩,aq⟩
def Cz(n:Nat)(h:n<=10):so (jY n yr):=by
 obtain⟨K',s⟩:=fe er n (by have:qj yr=13:=rfl;rw[this];omega);exact iQ s.jI s.ty (by have:qj yr=13:=rfl;rw[this];omega)
abbrev ej:ss:=⟨0,[],[],[],0,0,0,⟨[],[],[]⟩⟩
abbrev Cj:tj:=⟨⟨[],[],[]⟩,[[ej,ej],[ej]],[]⟩
def DL:tc 9 [] [] (Bo true) []:=by
 have s1:tc 7 [] [Sw yr,I 1] (.rO [Sw (jY 1 yr),I 0]) []:=y2 (K:=10) 1 fV λ_=>⟨er,aq⟩
 have s2:tc 7 [] [Sw yr,I 2] (.rO [Sw (jY 2 yr),I 0]) []:=y2 (K:=10) 2 fV λ_=>⟨er,aq⟩
 have s3:tc 7 [] [Sw yr,I 11] (.rO [Sw ua,I 1]) []:=y2 (K:=10) 11 fV λ_=>⟨er,aq⟩
 have s4:tc 7 [] [Sw ua,I 1] (.rO [Sw ua,I 1]) []:=y2 (K:=10) 1 CM λh=>absurd (h.symm.trans (by rfl:qf ua=false)) aq
 have q1:um (jY 1 yr)=false:=by rfl
 have q2:um (jY 2 yr)=true:=by rfl
 have q0:um yr=false:=by rfl
 have k2:(jY 2 yr).zl=2:=by rfl
 have i1:=yI _ (nd (Cz 1 aq));have i2:=yI _ (nd (Cz 2 aq));have i0:=yI _ (nd fV);rw[q1]at i1;rw[q2]at i2;rw[q0]at i0;generalize hw1:jY 1 yr=w1 at s1 i1;generalize hw2:jY 2 yr=w2 at s2 i2 k2
 have st:tc 27 [] [Cw yr] (I 13) []:=DR yr ⟨aq,aq,aq,aq,λv hv=>by
  have hv:v=uf:=ak hv
  subst hv;exact⟨aq,λg hg=>by rw[dC.1 hg];decide⟩⟩
 have mo:tc 28 [] [nT Cj] (I 423) []:=EX Cj ⟨aq,λl hl=>by
  have hl:l=[ej,ej]\/l=[ej]:=ak hl
  rcases hl with rfl|rfl <;> decide⟩
 refine ab func9 ?_;refine af Ee ?_;refine af s1 ?_;refine af s2 ?_;refine af s3 ?_;refine⟨_,_,(zb.fH 9 (s4) V ?_).frame V _,?_⟩;(focus rfl);refine dd ?_
 refine hU ?_
 refine af i1 ?_;refine hU ?_
 refine af i2 ?_;refine hU ?_
 rw[k2];refine hU ?_
 refine af i0 ?_;refine hU ?_
 refine af st ?_;refine hU ?_
 refine⟨_,_,(zb.fH 9 (mo) V ?_).frame V _,?_⟩;(focus rfl);refine dd ?_
 refine hU ?_
 exact uI
end Go.Wor
