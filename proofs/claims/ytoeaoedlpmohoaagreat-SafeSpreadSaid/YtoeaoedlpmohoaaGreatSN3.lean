import Derived.Test.YtoeaoedlpmohoaaGreatSR
set_option linter.all false
set_option maxRecDepth 100000
set_option maxHeartbeats 4000000
namespace Go.Run
open Go.Ab Go.Proofs Tryz Go.Gat Go.Nam Go.Hos Go.Con Go.Sna Go.Pla Go.Ply Go.Wor
open Go.Hy hiding encI
def nF(v:lJ):List Int:=v.zp.map (·.zx)
structure HA(w w':Wor):Prop where
 le:w.zd.length<=w'.zd.length
 at_:∀(i:Nat) v v',w.zd[i]?=some v->w'.zd[i]?=some v'->nF v'=nF v
 new:∀(i:Nat) v',w.zd.length<=i->w'.zd[i]?=some v'->∀t∈nF v',t=0
def qS{w w':Wor}(h:w'.zd=w.zd):HA w w':=
 ⟨by rw[h];exact pI _,λi v v' h1 h2=>(by rw[h,h1]at h2;cases h2;rfl),λi v' h1 h2=>(by rw[h]at h2;have:=(gZ.1 h2).1;omega)⟩
def WT{w w':Wor}{k:Nat}{v v':lJ}(h:w'.zd=w.zd.set k v')(hv:w.zd[k]?=some v)(ht:nF v'=nF v):HA w w':=by
 refine⟨by rw[h,rX];exact pI _,λi x x' h1 h2=>?_,λi x' h1 h2=>?_⟩
 ·rw[h]at h2;rcases jG h2 with⟨rfl,rfl,_⟩|⟨_,h2⟩
  ·rw[hv]at h1;cases h1;exact ht
  ·rw[h1]at h2;cases h2;rfl
 ·rw[h]at h2;have:=(gZ.1 h2).1;rw[rX]at this;omega
def vS{α:Type}{l:List α}{i:Nat}{x:α}(h:l[i]?=some x):l.set i x=l:=by
 obtain⟨h1,h2⟩:=gZ.1 h;rw[<-h2];exact iD h1
def Vo{m:lh}{v:lJ}{g:Gr}{e:En}{tk hd ac:Int}(hg:v.zp[m.zi.toNat]?=some g):nF (xN m v g e tk hd ac)=(nF v).set m.zi.toNat tk:=by
 unfold nF;show(v.zp.set m.zi.toNat (vC m g e tk hd ac)).map (·.zx)=_;rw[r6]
def Ix{w:Wor}{m:lh}{v:lJ}{g:Gr}{e:En}{hd ac:Int}(hv:w.zd[m.version.toNat]?=some v)(hg:v.zp[m.zi.toNat]?=some g):HA w (Aw w m v g e g.zx hd ac):=
 WT O hv (by rw[Vo hg];exact vS (by unfold nF;rw[pj,hg];rfl))
def AX(w:Wor)(m:lh)(v:lJ)(g:Gr)(r:Wor×lh×lD):Prop:=
 (r.2.2.cell≠6/\HA w r.1)\/(m.op.kind=1/\m.pc=6/\r.2.2.cell=6/\r.2.2.version=m.version/\r.2.2.value=IntKind.i64.wrap g.zx/\∃v',r.1.zd=w.zd.set m.version.toNat v'/\nF v'=(nF v).set m.zi.toNat (IntKind.u64.wrap (g.zx+1)))
def j9{w w':Wor}{m m':lh}{v:lJ}{g:Gr}{e:lD}(h1:HA w w')(h2:e.cell≠6:=by exact pF au):AX w m v g (w',m',e):=.inl ⟨h2,h1⟩
def D5{α:Type}{w:Wor}{m:lh}{v:lJ}{g:Gr}{o:Option α}{f:α->Wor×lh×lD}{r:Wor×lh×lD}(h:o.map f=some r)(hf:∀x,AX w m v g (f x)):AX w m v g r:=by
 obtain⟨x,_,rfl⟩:=pS.1 h;exact hf x
def Ly{w:Wor}{m:lh}{v:lJ}{g:Gr}{f:mj->Wor×lh×lD}{r:Wor×lh×lD}(h:vW w m f=some r)(hf:∀x,AX w m v g (f x)):AX w m v g r:=by
 unfold vW at h;rcases zq h with h|h
 ·cases h
 ·exact D5 h hf
def zDj{w:Wor}{m:lh}{v:lJ}{g:Gr}{r:Wor×lh×lD}(h:AN w m=some r):AX w m v g r:=by
 unfold AN at h;rcases zq h with h|h
 ·obtain rfl:=pz h;exact dK
 rcases zq h with h|h
 ·obtain rfl:=pz h;exact dK
 rcases zq h with h|h
 ·obtain rfl:=pz h;exact dK
 ·cases h
def Vn{w:Wor}{m:lh}{v:lJ}{g:Gr}{k p:Int}{r:Wor×lh×lD}(h:xQ w m k p=some r):AX w m v g r:=by
 unfold xQ at h;split at h
 ·cases h
 ·split at h
  ·cases h
  ·obtain rfl:=pz h;exact dK
section
variable {w:Wor} {m:lh} {v:lJ} {g:Gr} {e:En} {r:Wor×lh×lD}
def zwt(hv:w.zd[m.version.toNat]?=some v)(hg:v.zp[m.zi.toNat]?=some g)(hk:m.op.kind=1)(h:zY w m v g e=some r):AX w m v g r:=by
 unfold zY at h;rcases zq h with h|h
 ·exact zDj h
 rcases zq h with h|h
 ·obtain rfl:=pz h;exact dK
 rcases zq h with h|h
 ·exact Ly h λx=>j9 (qS O)
 rcases zq h with h|h
 ·exact Ly h λx=>j9 (qS O) cP
 rcases zA h with⟨p,h⟩|⟨_,h⟩
 ·exact D5 h λx=>.inr ⟨hk,p,rfl,rfl,rfl,_,rfl,Vo hg⟩
 rcases zq h with h|h
 ·obtain rfl:=pz h;exact dK
 rcases zq h with h|h
 ·exact D5 h λx=>j9 (qS O)
 rcases zq h with h|h
 ·obtain rfl:=pz h;exact dK
 rcases zq h with h|h
 ·exact D5 h λx=>j9 (qS O)
 rcases zq h with h|h
 ·rcases zq h with h|h
  ·obtain rfl:=pz h;exact j9 (Ix hv hg)
  ·obtain rfl:=pz h;exact dK
 rcases zq h with h|h
 ·obtain rfl:=pz h;exact j9 (Ix hv hg)
 rcases zq h with h|h
 ·exact Vn h
 rcases zq h with h|h
 ·exact Vn h
 rcases zq h with h|h
 ·exact Ly h λx=>j9 (qS O)
 rcases zq h with h|h
 ·obtain rfl:=pz h;exact dK
 ·cases h
def zws(hv:w.zd[m.version.toNat]?=some v)(hg:v.zp[m.zi.toNat]?=some g)(h:jO w m v g e=some r):AX w m v g r:=by
 unfold jO at h;rcases zq h with h|h
 ·obtain rfl:=pz h;exact dK
 rcases zq h with h|h
 ·obtain rfl:=pz h;exact j9 (Ix hv hg)
 rcases zq h with h|h
 ·rcases zq h with h|h
  ·obtain rfl:=pz h;exact j9 (Ix hv hg)
  ·obtain rfl:=pz h;exact dK
 rcases zq h with h|h
 ·obtain rfl:=pz h;exact j9 (Ix hv hg)
 rcases zq h with h|h
 ·exact Ly h λx=>j9 (qS O)
 rcases zq h with h|h
 ·obtain rfl:=pz h;exact dK
 ·cases h
def YZ(h:kU w m=some r):AX w m v g r:=by
 unfold kU at h;rcases zq h with h|h
 ·rcases zA h with⟨q,h⟩|⟨_,h⟩
  ·obtain rfl:=pz h;refine j9 ⟨aj,λi x x' h1 h2=>?_,λi x' h1 h2=>?_⟩
   ·rw[pD (gZ.1 h1).1,h1]at h2;cases h2;rfl
   ·rcases xB h2 with⟨h3,_⟩|⟨_,rfl⟩
    ·omega
    ·have hb:=HS ((HP m.op.config).symm.trans q);have hsw:wJ m.op.config=⟨(z7 m.op.config).1,(z7 m.op.config).1.zm.map o6,false⟩:=by unfold wJ qM;rw[pA hb]
     intro t ht;unfold nF at ht;rw[hsw]at ht;simp only[pZ]at ht;obtain⟨g,⟨x,_,rfl⟩,rfl⟩:=ht
     rfl
  ·obtain rfl:=pz h;exact dK
 rcases zq h with h|h
 ·obtain rfl:=pz h;exact dK
 rcases zq h with h|h
 ·rcases zq h with h|h
  ·cases h
  ·obtain rfl:=pz h;exact dK
 ·cases h
def zzj(h:yA w m=some r):AX w m v g r:=by
 unfold yA at h;rcases zq h with h|h
 ·rcases zq h with h|h
  ·obtain rfl:=pz h;exact dK
  ·exact D5 h λx=>j9 (qS O)
 ·cases h
def QD(w:Wor)(m m0:lh):AX w m0 v g (nM w m):=by
 unfold nM;split
 ·exact dK
 ·exact dK
def zs6(h:jA w m=some r):AX w m v g r:=by
 unfold jA at h;rcases zq h with h|h
 ·obtain rfl:=pz h;split
  ·exact dK
  ·exact dK
 rcases zq h with h|h
 ·obtain rfl:=pz h;exact dK
 rcases zq h with h|h
 ·exact D5 h λx=>j9 (qS O)
 rcases zq h with h|h
 ·obtain rfl:=pz h;split
  ·exact dK
  ·exact dK
 rcases zq h with h|h
 ·obtain rfl:=pz h;split
  ·exact QD w _ m
  ·exact dK
 rcases zq h with h|h
 ·obtain⟨v,_,h⟩:=pN.1 h;exact D5 h λx=>j9 (qS O)
 rcases zq h with h|h
 ·obtain⟨v2,hv2,h⟩:=pN.1 h;obtain⟨x,_,h⟩:=pN.1 h;rcases zq h with h|h
  ·obtain rfl:=pz h;exact j9 (WT O hv2 O)
  ·cases h
 rcases zq h with h|h
 ·obtain rfl:=pz h;exact QD w m m
 rcases zq h with h|h
 ·exact D5 h λx=>j9 (qS O)
 rcases zq h with h|h
 ·obtain⟨v,_,h⟩:=pN.1 h;rcases zq h with h|h
  ·obtain rfl:=pz h;exact dK
  ·cases h
 ·cases h
def zzl(h:xS w m=some r):AX w m v g r:=by
 unfold xS at h;rcases zq h with h|h
 ·obtain⟨v,_,h⟩:=pN.1 h;exact D5 h λx=>j9 (qS O) (by show(10:Int)≠6;decide)
 ·cases h
def VH(su:ja w m v g e)(h:yu w m=some r):AX w m v g r:=by
 rcases ky su h with⟨k,h⟩|⟨_,h⟩|⟨_,h⟩|⟨_,h⟩|⟨_,h⟩|⟨_,h⟩
 ·exact zwt su.mu su.mn k h
 ·exact zws su.mu su.mn h
 ·exact YZ h
 ·exact zzj h
 ·exact zs6 h
 ·exact zzl h
end
def mI(v:Nat)(e:lD):Bool:=e.cell == 6 && e.version == (v:Int)
structure Ep(s:Wor.mS):Prop where
 at_:∀(i:Nat) (v:lJ) (t:Int),s.1.zd[i]?=some v->nF v=[t]->t=(s.2.2.countP (mI i):Nat)
 ev:∀(j:Nat) (e:lD),s.2.2[j]?=some e->e.cell=6->∃(i:Nat) (v:lJ),e.version=(i:Int)/\s.1.zd[i]?=some v/\∀t,nF v=[t]->e.value=((s.2.2.take j).countP (mI i):Nat)
def zzm{N K:Nat}{s:Wor.mS}(gi:GI N K s.1 s.2.1)(ti:Ep s)(p:Int)(hN:N<=100000000)(hK:K<=1099511627776)(hL:s.2.2.length<=1000000000000):Ep (yl s p):=by
 rcases jy gi p hN hK with⟨_,e⟩|⟨t,x,o,r,hat,hx,ho,hsu,htm,hst,_,e,gi2⟩
 ·rw[e];exact ti
 ·rw[e];obtain⟨v,g,en,su⟩:=yh hsu;have te:∀i,mI i (vq r.2.2 x)=mI i r.2.2:=λi=>rfl
  have vlt:=(gZ.1 su.mu).1
  have old:∀(i:Nat),s.1.zd.length<=i->s.2.2.countP (mI i)=0:=λi hi=>by
   rw[fV];intro e he q;unfold mI at q;simp only[pG,rJ]at q;obtain⟨j,hj⟩:=pJ.1 he;obtain⟨i',v',z1,z2,_⟩:=ti.ev j e hj q.1;have:=(gZ.1 z2).1;have:=q.2;omega
  rcases VH su hst with⟨c6,kk⟩|⟨k1,p6,c6,cv,cval,v',hw',ht'⟩
  ·have no:∀i,mI i r.2.2=false:=λi=>by unfold mI;simp[c6]
   have same:∀i,(s.2.2++[vq r.2.2 x]).countP (mI i)=s.2.2.countP (mI i):=λi=>by
    rw[sP,sQ,te,no]
    rfl
   refine⟨λi y t h1 h2=>?_,λj e1 h1 h2=>?_⟩
   ·dsimp only at h1 ⊢;rw[same];by_cases hi:i<s.1.zd.length
    ·have h0:=pa hi;exact ti.at_ i _ t h0 ((kk.at_ i _ y h0 h1).symm.trans h2)
    ·rw[old i aw];exact kk.new i y aw h1 t (by rw[h2];exact pP.2 O)
   ·dsimp only at h1 ⊢;rcases xB h1 with⟨l1,h1⟩|⟨_,rfl⟩
    ·obtain⟨i,y,z1,z2,z3⟩:=ti.ev j e1 h1 h2;obtain⟨y',hy'⟩:∃y',r.1.zd[i]?=some y':=⟨_,pa (by have:=(gZ.1 z2).1;have:=kk.le;omega)⟩;refine⟨i,y',z1,hy',λt ht=>?_⟩;rw[vT _ aw];exact z3 t ((kk.at_ i y y' z2 hy').symm.trans ht)
    ·exact(c6 h2).elim
  ·obtain⟨vi,evi⟩:∃vi:Nat,(z8 x t o).version=vi:=⟨(z8 x t o).version.toNat,by have:=su.version.1;omega⟩
   have ev1:∀i,mI i r.2.2=decide (i=vi):=λi=>by
    unfold mI;rw[c6,cv,evi];by_cases q:i=vi
    ·subst q;simp
    ·have:¬((vi:Int)=i):=by omega
     simp[q,this]
   have up:∀i,(s.2.2++[vq r.2.2 x]).countP (mI i)=s.2.2.countP (mI i)+if i=vi then 1 else 0:=λi=>by
    rw[sP,sQ,te,ev1];simp
   have mu:=su.mu;rw[evi,toNat_cast]at mu hw' vlt
   have lg:(nF v')[(z8 x t o).zi.toNat]?=some (IntKind.u64.wrap (g.zx+1)):=by
    rw[ht',pC];unfold nF;rw[pB];exact(gZ.1 su.mn).1
   have one:∀t',nF v'=[t']->nF v=[g.zx]/\t'=IntKind.u64.wrap (g.zx+1):=λt' h=>by
    have l1:(nF v).length=1:=by have:=sF List.length h;rw[ht',rX]at this;simpa using this
    have c0:(z8 x t o).zi.toNat=0:=by
     have:=(gZ.1 su.mn).1;have:v.zp.length=1:=by unfold nF at l1;simpa using l1
     omega
    have g0:(nF v)[0]?=some g.zx:=by
     unfold nF;have:=su.mn;rw[c0]at this;rw[pj,this]
     rfl
    refine⟨?_,?_⟩
    ·match hq:nF v,l1 with
     |[a],_=>rw[hq]at g0;simpa using g0
    ·rw[h,c0]at lg;simpa using lg
   have nW:nF v=[g.zx]->g.zx=(s.2.2.countP (mI vi):Nat):=λh=>ti.at_ vi v _ mu h
   have le:s.2.2.countP (mI vi)<=s.2.2.length:=sW;refine⟨λi y t' h1 h2=>?_,λj e1 h1 h2=>?_⟩
   ·dsimp only at h1 ⊢;rw[up];rw[hw']at h1;rcases jG h1 with⟨rfl,rfl,_⟩|⟨hne,h1⟩
    ·obtain⟨z1,z2⟩:=one t' h2;have z3:=nW z1;rw[z2,pA O];show(g.zx+1)%18446744073709551616=_;omega
    ·rw[pw (λz=>hne z.symm),uk];exact ti.at_ i y t' h1 h2
   ·dsimp only at h1 ⊢;rcases xB h1 with⟨l1,h1⟩|⟨rfl,rfl⟩
    ·obtain⟨i,y,z1,z2,z3⟩:=ti.ev j e1 h1 h2;by_cases q:vi=i
     ·subst q;rw[mu]at z2;cases z2
      refine⟨vi,v',z1,by rw[hw',pC vlt],λt' h=>?_⟩;rw[vT _ aw];exact z3 _ (one t' h).1
     ·refine⟨i,y,z1,by rw[hw',pX q];exact z2,λt' h=>?_⟩;rw[vT _ aw];exact z3 t' h
    ·refine⟨vi,v',cv.trans evi,by rw[hw',pC vlt],λt' h=>?_⟩;rw[vT _ (pI _),rj];have z:=nW (one t' h).1;show r.2.2.value=_;rw[cval,qi aw aw];exact z
def PD{N K:Nat}{s:Wor.mS}(gi:GI N K s.1 s.2.1)(ti:Ep s)(l:List Int)(h0:s.2.2.length=0):∀k,k<=l.length->N+k<=100000000->K+k<=1099511627776->Ep (mY s l k)/\(mY s l k).2.2.length<=k
 |0,_,_,_=>⟨ti,by show s.2.2.length<=0;omega⟩
 |k+1,hk,hN,hK=>by
  have ih:=PD gi ti l h0 k aw aw aw;have g:=kB gi l k aw aw aw;rw[xX (pa aw)];refine⟨zzm g ih.1 _ aw aw aw,?_⟩;rcases jy g l[k] aw aw with⟨_,e⟩|⟨t,x,o,r,hat,hx,ho,hsu,htm,hst,_,e,gi2⟩
  ·rw[e];omega
  ·rw[e];dsimp only;rw[pL];have:=ih.2;simp;omega
def zya{s:Sna}{l:List lH}{n:Int}{w:Wor}(h:nZ s l n=(w,0)):w.zd=[(qM s).1]:=by
 unfold nZ at h;split at h
 ·exact dH
 ·have hw:_=w:=sF Prod.fst h;rw[<-hw]
def T7{s:mb}(hb:(qT s).2=0):Ep (nu s):=by
 obtain⟨q,hn⟩:=jQ hb;refine⟨λi v t h1 h2=>?_,λj e h1=>by cases h1⟩;have hv:(nu s).1.zd=[(qM (z7 s.first).1).1]:=zya hn;rw[hv]at h1;have h1:=pP.1 (pq h1)
 have z:∀y∈nF v,y=0:=λy hy=>by
  rw[h1]at hy;unfold nF qM at hy;split at hy
  ·simp only[pZ]at hy;obtain⟨g,⟨x,_,rfl⟩,rfl⟩:=hy
   rfl
  ·cases hy
 rw[z t (by rw[h2];exact pP.2 O)]
 rfl
def Sq{s:mb}(ok:kL s)(h:(zK s).2.2=0):
  (∀(i:Nat) (v:lJ) (t:Int),(zK s).2.1.zd[i]?=some v->nF v=[t]->t=((zK s).1.countP (mI i):Nat))/\
  (∀(j:Nat) (e:lD),(zK s).1[j]?=some e->e.cell=6->∃(i:Nat) (v:lJ),e.version=(i:Int)/\(zK s).2.1.zd[i]?=some v/\∀t,nF v=[t]->e.value=(((zK s).1.take j).countP (mI i):Nat)):=by
 have hb:=ku h;have e1:zK s=((qU s).2.2,(qU s).1,0):=cO
 obtain⟨q,hn⟩:=jQ hb;obtain⟨_,_,_,p4,_,_⟩:=xg q;have t0:=T7 hb;have ti:Ep (qU s):=(PD (xY ok hb) t0 s.zP O s.zP.length (pI _) aw aw).1;rw[e1];exact⟨ti.at_,ti.ev⟩
def OI{N K:Nat}{w:Wor}{X:List lW}{t:Nat}{x:lW}{p:lX}{r:Wor×lh×lD}(gi:GI N K w X)(hx:X[t]?=some x)(hp:x.ops[x.done]?=some p)(hN:N<=100000000)(hK:K<=1099511627776)(h:yu w (z8 x t p)=some r):
  ∃v g e,ja w (z8 x t p) v g e/\Lc w (z8 x t p) v g e/\Nc N K w (z8 x t p) Lc Jp r:=by
 obtain⟨st,tg,hlen,hops,os,hol,hti,hsum⟩:=gi;have lu:=(gZ.1 hx).1;obtain⟨o,ho⟩:∃o,os[t]?=some o:=⟨_,pa aw⟩;have ti:=hti t x o hx ho;have ow:∀k,o k<=Has w k:=λk=>by rw[hsum k];exact gW
 have po:=hops x (pq hx) p (pq hp)
 obtain⟨x',hx1,hx2,hx3⟩:∃x',x'.m=z8 x t p/\x'.on=true/\TI w t x' o:=by
  cases hon:x.on with
  |true=>exact⟨x,aX,hon,ti⟩
  |false=>exact⟨⟨x.ops,x.done,true,Beg.xC t p x.given,x.given⟩,aX,rfl,Kj st tg aw ti hon hp po hN ow⟩
 obtain⟨s1,s2,s3,_⟩:=K3 st tg hx3 hx2 hN hK ow;obtain⟨L,_,_,hh|⟨_,hh⟩⟩:=hx3.open_
 ·have:=hh.1;rw[hx2]at this;cases this
 ·obtain⟨v,g,e,su,lc⟩:=hh.lc;have tm:=hh.tm;rw[hx1]at su lc s3 tm;obtain⟨r',h1,nc⟩:=VC st tg su tm lc hN hK λk=>rB (s3 k) (ow k)
  rw[h]at h1;cases h1
  exact⟨v,g,e,su,lc,nc⟩
def Hz(s:Wor.mS):Prop:=∀(i:Nat) (v:lJ),s.1.zd[i]?=some v->v.zp.length=1->s.2.2.countP (mI i)≠0->∃c,v.snap.zm[0]?=some c/\(lu c).length≠0
def zyV{N K:Nat}{s:Wor.mS}(gi:GI N K s.1 s.2.1)(ti:Ep s)(si:Hz s)(p:Int)(hN:N<=100000000)(hK:K<=1099511627776):Hz (yl s p):=by
 rcases jy gi p hN hK with⟨_,e⟩|⟨t,x,o,r,hat,hx,ho,hsu,htm,hst,_,e,gi2⟩
 ·rw[e];exact si
 ·rw[e];obtain⟨v,g,en,su,lc,nc⟩:=OI gi hx ho hN hK hst;have te:∀i,mI i (vq r.2.2 x)=mI i r.2.2:=λi=>rfl
  have old:∀(i:Nat),s.1.zd.length<=i->s.2.2.countP (mI i)=0:=λi hi=>by
   rw[fV];intro e he q;unfold mI at q;simp only[pG,rJ]at q;obtain⟨j,hj⟩:=pJ.1 he;obtain⟨i',v',z1,z2,_⟩:=ti.ev j e hj q.1;have:=(gZ.1 z2).1;have:=q.2;omega
  intro i y h1 h2 h3;dsimp only at h1 h3;rw[sP,sQ,te]at h3
  have was:s.2.2.countP (mI i)≠0->∃c,y.snap.zm[0]?=some c/\(lu c).length≠0:=λz=>by
   by_cases hi:i<s.1.zd.length
   ·have h0:=pa hi;have kv:=nc.keep.my i _ y h0 h1;obtain⟨c,c1,c2⟩:=si i _ h0 (kv.len ▸ h2) z;exact⟨c,by rw[kv.snap];exact c1,c2⟩
   ·exact absurd (old i aw) z
  rcases VH su hst with⟨c6,_⟩|⟨k1,p6,c6,cv,_⟩
  ·have:mI i r.2.2=false:=by unfold mI;simp[c6]
   rw[this]at h3;exact was h3
  ·by_cases q:mI i r.2.2=true
   ·have ev:(z8 x t o).version=(i:Int):=by
     unfold mI at q;simp only[pG,rJ]at q;exact cv.symm.trans q.2
    have h0:=su.mu;rw[ev,toNat_cast]at h0;have kv:=nc.keep.my i v y h0 h1;have l1:v.zp.length=1:=kv.len ▸ h2
    have c0:(z8 x t o).zi.toNat=0:=by
     have:=(gZ.1 su.mn).1;omega
    rcases lc with⟨_,lc⟩|⟨k,_⟩|⟨k,_⟩|⟨k,_⟩|⟨k,_⟩|⟨k,_⟩
    ·obtain⟨c,c1,c2⟩:=lc.draw p6;rw[c0]at c1;exact⟨c,by rw[kv.snap];exact c1,c2⟩
    all_goals omega
   ·rw[pw q]at h3;exact was h3
def WG{N K:Nat}{s:Wor.mS}(gi:GI N K s.1 s.2.1)(ti:Ep s)(si:Hz s)(l:List Int)(h0:s.2.2.length=0):∀k,k<=l.length->N+k<=100000000->K+k<=1099511627776->Hz (mY s l k)
 |0,_,_,_=>si
 |k+1,hk,hN,hK=>by
  have ih:=WG gi ti si l h0 k aw aw aw;have g:=kB gi l k aw aw aw;rw[xX (pa aw)];exact zyV g (PD gi ti l h0 k aw aw aw).1 ih _ aw aw
def o8(l:List Int)(n:Nat)(k:Int):Nat:=(List.range n).countP λt=>decide (l[t%l.length]?=some k)
def Wh(h p:Nat)(hp:p<h):∀n:Nat,(List.range n).countP (λt=>decide (t%h=p))=n / h+if p<n%h then 1 else 0
 |0=>by simp
 |n+1=>by
  have ih:=Wh h p hp n;have r0:n%h<h:=iJ _ aw;have dm:=Nat.div_add_mod n h;rw[fi,sP,sQ,ih];by_cases q:n%h+1=h
  ·have e:n+1=h*(n / h+1):=by rw[Nat.mul_add,fk];omega
   have d1:(n+1) / h=n / h+1:=by rw[e];exact Nat.mul_div_cancel_left _ aw
   have m1:(n+1)%h=0:=by rw[e];exact Nat.mul_mod_right _ _
   rw[d1,m1,pw (show ¬p<0 by omega)];by_cases z:n%h=p
   ·rw[pw (show ¬p<n%h by omega),pA (aq z)]
   ·rw[pA (show p<n%h by omega),pw (aq z)]
  ·have e:n+1=n%h+1+h*(n / h):=by omega
   have d1:(n+1) / h=n / h:=by
    rw[e,Nat.add_mul_div_left _ _ aw,i4 aw];omega
   have m1:(n+1)%h=n%h+1:=by
    rw[e,Nat.add_mul_mod_self_left,fM aw]
   rw[d1,m1];by_cases z:n%h=p
   ·rw[pw (show ¬p<n%h by omega),pA (show decide (n%h=p)=true by simpa using z),pA (show p<n%h+1 by omega)]
   ·rw[pw (show ¬decide (n%h=p)=true by simpa using z)];by_cases y:p<n%h
    ·rw[pA y,pA (show p<n%h+1 by omega)]
    ·rw[pw y,pw (show ¬p<n%h+1 by omega)]
def zyX{l:List Int}{n:Nat}{k:Int}(h:k∉l):o8 l n k=0:=by
 unfold o8;rw[fV];intro t _ q;exact h (pq (aq q))
def zyY{l:List Int}{n:Nat}{k:Int}(hd:l.Nodup)(h:k∈l):n / l.length<=o8 l n k/\o8 l n k<=n / l.length+1:=by
 obtain⟨p,hp⟩:=pJ.1 h;obtain⟨lt,ep⟩:=gZ.1 hp
 have e:o8 l n k=(List.range n).countP λt=>decide (t%l.length=p):=by
  unfold o8;refine List.countP_congr λt _=>?_
  have tl:t%l.length<l.length:=iJ _ aw;simp only[pQ];constructor
  ·intro z;rw[pa tl]at z;have z:=pz z;exact(List.getElem_inj hd).1 (z.trans ep.symm)
  ·intro z;rw[z];exact hp
 rw[e,Wh l.length p lt n];split <;> omega
def zsV{s:mb}(ok:kL s)(h:(zK s).2.2=0)(i:Nat)(v:lJ)(hv:(zK s).2.1.zd[i]?=some v)(l1:v.zp.length=1)(hn:(zK s).1.countP (mI i)≠0):
  ∃c,v.snap.zm[0]?=some c/\(lu c).length≠0:=by
 have hb:=ku h;have e1:zK s=((qU s).2.2,(qU s).1,0):=cO
 obtain⟨q,hnew⟩:=jQ hb;obtain⟨_,_,_,p4,_,_⟩:=xg q;have si:Hz (qU s):=WG (xY ok hb) (T7 hb) (λi v _ _ z=>absurd O z) s.zP O s.zP.length (pI _) aw aw;rw[e1]at hv hn;exact si i v hv l1 hn
end Go.Run
