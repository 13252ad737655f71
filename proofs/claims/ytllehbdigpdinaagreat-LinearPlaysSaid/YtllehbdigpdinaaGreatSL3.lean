import Derived.Test.YtllehbdigpdinaaGreatS0
import Derived.Test.YtllehbdigpdinaaGreatSR1
import Derived.Test.YtllehbdigpdinaaGreatSR
import Derived.Test.YtllehbdigpdinaaGreatSN3
import Derived.Test.YtllehbdigpdinaaGreatSL2
import Derived.Test.YtllehbdigpdinaaGreatSQ
set_option linter.all false
set_option maxRecDepth 100000
set_option maxHeartbeats 4000000
namespace Go.Cal
open Go.Ab Go.Hy
structure Pt(l:List eV)(k:Nat)(c:Cal):Prop where
 m1:c.zI= -1\/0<=c.zI
 pt:0<=c.zI->∃e:eV,l[c.zI.toNat]?=some e/\e.zI=true/\e.zf=c.zf/\e.op=c.op/\c.zI<(k:Int)/\(e.done=true->0<=c.ic)
 last:∀(j:Nat) (e:eV),c.zI<(j:Int)->j<k->l[j]?=some e->e.zf=c.zf->e.op=c.op->e.zI=false
structure BM(l:List eV)(k:Nat)(b:List Cal):Prop where
 all:∀c∈b,Pt l k c
 ng:∀(j:Nat) (e:eV),j<k->l[j]?=some e->∃c∈b,c.zf=e.zf/\c.op=e.op
 nd:∀(i j:Nat) (c d:Cal),b[i]?=some c->b[j]?=some d->c.zf=d.zf->c.op=d.op->i=j
def Us(e:eV)(i:Int)(c:Cal):(qy e i c).zI=if e.zI then i else c.zI:=by
 unfold qy;cases e.zI <;> cases e.done <;> rfl
def NT{l:List eV}{k n:Nat}{N:List Cal}{c0:Cal}{e:eV}(h:BM l k N)(he:l[k]?=some e)(hc:N[n]?=some c0)(ht:c0.ic<0)(h1:c0.zf=e.zf)(h2:c0.op=e.op):BM l (k+1) (N.set n (qy e (k:Int) c0)):=by
 have mt:=yG e (k:Int) c0;have mo:=D3 e (k:Int) c0;have mp:=Us e (k:Int) c0;have hl:=(dY.1 hc).1
 have at_:∀(i:Nat) (c:Cal),(N.set n (qy e (k:Int) c0))[i]?=some c->(i=n/\c=qy e (k:Int) c0)\/(i≠n/\N[i]?=some c):=λi c hi=>by
  by_cases q:i=n
  ·subst q;rw[gu hl]at hi;exact .inl ⟨rfl,(gm hi).symm⟩
  ·rw[gV (λz=>q z.symm)]at hi;exact .inr ⟨q,hi⟩
 refine⟨λc hm=>?_,λj e' hj hj2=>?_,λi j c d hi hj q1 q2=>?_⟩
 ·obtain⟨i,hi⟩:=gQ.1 hm;rcases at_ i c hi with⟨rfl,rfl⟩|⟨q,hi'⟩
  ·have p0:=h.all c0 (gh hc);refine⟨?_,λhp=>?_,λj e' hj hj2 hj3 q1 q2=>?_⟩
   ·rw[mp];split
    ·right;omega
    ·exact p0.m1
   ·rw[mp]at hp ⊢;rw[mt.1,mt.2,mo];by_cases z:e.zI=true
    ·rw[gk z];refine⟨e,by rw[toNat_cast];exact he,z,h1.symm,h2.symm,aw,λhd=>?_⟩;rw[gk hd];omega
    ·rw[gf z]at hp ⊢;obtain⟨e',a1,a2,a3,a4,a5,a6⟩:=p0.pt hp;refine⟨e',a1,a2,a3,a4,aw,λhd=>?_⟩;have:=a6 hd;omega
   ·rw[mp]at hj;rw[mt.1]at q1;rw[mt.2]at q2;by_cases z:e.zI=true
    ·rw[gk z]at hj;omega
    ·rw[gf z]at hj;by_cases y:j=k
     ·subst y;rw[he]at hj3;cases hj3
      simpa using z
     ·exact p0.last j e' hj aw hj3 q1 q2
  ·have p0:=h.all c (gh hi');refine⟨p0.m1,λhp=>?_,λj e' hj hj2 hj3 q1 q2=>?_⟩
   ·obtain⟨e',a1,a2,a3,a4,a5,a6⟩:=p0.pt hp;exact⟨e',a1,a2,a3,a4,aw,a6⟩
   ·by_cases y:j=k
    ·subst y;rw[he]at hj3;cases hj3
     exact(q (h.nd i n c c0 hi' hc (q1.symm.trans h1.symm) (q2.symm.trans h2.symm))).elim
    ·exact p0.last j e' hj aw hj3 q1 q2
 ·have new:∃c∈N.set n (qy e (k:Int) c0),c.zf=e.zf/\c.op=e.op:=⟨_,gh (gu hl),mt.1.trans h1,mt.2.trans h2⟩;by_cases y:j=k
  ·subst y;rw[he]at hj2;cases hj2
   exact new
  ·obtain⟨c,hcm,q1,q2⟩:=h.ng j e' aw hj2;obtain⟨i,hi⟩:=gQ.1 hcm;by_cases z:i=n
   ·subst z;rw[hc]at hi;cases hi
    obtain⟨c2,a1,a2,a3⟩:=new;exact⟨c2,a1,a2.trans (h1.symm.trans q1),a3.trans (h2.symm.trans q2)⟩
   ·exact⟨c,gh (by rw[gV (λy=>z y.symm)];exact hi),q1,q2⟩
 ·rcases at_ i c hi with⟨rfl,rfl⟩|⟨z1,hi'⟩
  ·rcases at_ j d hj with⟨rfl,rfl⟩|⟨z2,hj'⟩
   ·rfl
   ·exact h.nd i j c0 d hc hj' (mt.1.symm.trans q1) (mt.2.symm.trans q2)
  ·rcases at_ j d hj with⟨rfl,rfl⟩|⟨z2,hj'⟩
   ·exact h.nd i j c c0 hi' hc (q1.trans mt.1) (q2.trans mt.2)
   ·exact h.nd i j c d hi' hj' q1 q2
def Z5{l:List eV}{k:Nat}{b:List Cal}{e:eV}(h:BM l k b)(hn:∀c∈b,¬(c.zf=e.zf/\c.op=e.op)):BM l k (b++[j6 e (k:Int)]):=by
 have at_:∀(i:Nat) (c:Cal),(b++[j6 e (k:Int)])[i]?=some c->b[i]?=some c\/(i=b.length/\c=j6 e (k:Int)):=λi c hi=>by
  rw[ez]at hi;split at hi
  ·exact .inl hi
  ·rename_i q;have hl:i-b.length<1:=by simpa using (dY.1 hi).1
   have e0:i-b.length=0:=aw
   rw[e0]at hi;exact .inr ⟨aw,aq hi.symm⟩
 refine⟨λc hm=>?_,λj e' hj hj2=>?_,λi j c d hi hj q1 q2=>?_⟩
 ·rcases gO.1 hm with hm|hm
  ·exact h.all c hm
  ·obtain rfl:=gN.1 hm;refine⟨.inl O,λhp=>absurd (show(0:Int)<= -1 from hp) ar,λj e' _ hj hj2 q1 q2=>?_⟩;obtain⟨c,hc,z1,z2⟩:=h.ng j e' hj hj2;exact(hn c hc ⟨z1.trans q1,z2.trans q2⟩).elim
 ·obtain⟨c,hc,z⟩:=h.ng j e' hj hj2;exact⟨c,r7 _ hc,z⟩
 ·rcases at_ i c hi with hi|⟨z1,rfl⟩
  ·rcases at_ j d hj with hj|⟨z2,rfl⟩
   ·exact h.nd i j c d hi hj q1 q2
   ·exact(hn c (gh hi) ⟨q1,q2⟩).elim
  ·rcases at_ j d hj with hj|⟨z2,rfl⟩
   ·exact(hn d (gh hj) ⟨q1.symm,q2.symm⟩).elim
   ·omega
def Ot(l:List eV):∀{k:Nat} {b:List Cal},nR l k=some b->BM l k b
 |0,b,h=>by
  cases h
  exact⟨λc hc=>(by cases hc),λj e hj=>absurd hj (pj j),λi j c d hi=>(by cases hi)⟩
 |k+1,b,h=>by
  simp only[nR]at h;cases h1:nR l k with
  |none=>rw[h1]at h;cases h
  |some b0=>
   rw[h1]at h;have ih:=Ot l h1;cases h5:l[k]? with
   |none=>rw[h5]at h;cases h
   |some e=>
    rw[h5]at h;have h:AX b0 (k:Int) e=some b:=h;unfold AX at h;split at h
    ·split at h
     ·cases h
     ·rename_i hq
      have hq:(zx b0 e.zf e.op).isSome=false:=by
       simp only[p8,not_or]at hq;simpa using hq.1
      have hn:∀c∈b0,¬(c.zf=e.zf/\c.op=e.op):=λc hc z=>by
       cases hp:zx b0 e.zf e.op with
       |some n=>rw[hp]at hq;cases hq
       |none=>
        unfold zx at hp;rw[gP]at hp;have:=hp c hc;simp[z.1,z.2]at this
      have ml:(b0++[j6 e (k:Int)])[b0.length]?=some (j6 e (k:Int)):=aj
      rw[yP ml]at h;obtain rfl:=gm h;exact NT (Z5 ih hn) h5 ml aE O O
    ·cases hp:zx b0 e.zf e.op with
     |none=>rw[hp]at h;cases h
     |some n=>
      rw[hp]at h;obtain⟨c,hc,q1,q2⟩:=ki hp;dsimp only at h;rw[hc]at h;split at h
      ·cases h
      ·rename_i hq;rw[yP hc]at h;obtain rfl:=gm h;exact NT ih h5 hc (aq hq) q1 q2
def ZT{l:List eV}(h:(fC l).2=0):BM l l.length (fC l).1:=by
 unfold fC at h ⊢;cases hb:yT l l.length with
 |none=>rw[hb]at h;cases h
 |some b=>
  dsimp only;have:=(CQ l l.length).1;rw[hb]at this;exact Ot l this
end Go.Cal
namespace Go.Run
open Go.Ab Go.Proofs Tryz Go.Gat Go.Nam Go.Hos Go.Con Go.Sna Go.Pla Go.Ply Go.Wor
open Go.Lin (fM handleV qU)
open Go.Hy hiding encI
structure B5(w:Wor)(M:fM):Prop where
 now:M.now=w.current
 z6:M.z6=w.ze.map (·.snap)
 dr:∀n,n∈M.dr↔mZ w n
 EU:∀v∈w.ze,∀n∈v.snap.zd,0<=zx w.zd n
def Hb(w:Wor)(M:fM)(m:eR):Prop:=M.now=m.version/\(m.op.listen∈M.dr->mZ w m.op.listen)/\∃v,w.ze[m.version.toNat]?=some v/\M.z6[m.version.toNat]?=some v.snap
def Hd(w:Wor)(M:fM)(m:eR):Prop:=m.op.listen∉M.dr/\M.now=m.version/\∃v c,w.ze[m.version.toNat]?=some v/\M.z6[m.version.toNat]?=some v.snap/\(jr v.snap m.op.listen m.op.host m.op.path).2=0/\(jr v.snap m.op.listen m.op.host m.op.path).1=m.zj/\
 v.snap.zk[m.zj.toNat]?=some c/\eU c≠[]/\(7<=m.pc->m.end_∈eU c)/\(7<=m.pc->m.pc<=8->m.other∈eU c)
def m7(w:Wor)(M:fM)(m:eR):Prop:=((m.pc=4\/m.pc=5)/\0<=m.listen/\m.listen=zx w.zd m.op.listen/\Hb w M m)\/((6<=m.pc/\m.pc<=12)/\Hd w M m)\/(20<=m.pc/\handleV M m.op m.answer=true)
def m7.keep{w w':Wor}{p:Key->Nat}(kp:jR w w' p){M:fM}{m:eR}(h:m7 w M m):m7 w' M m:=by
 have at_:∀{i:Nat} {v:fc},w.ze[i]?=some v->∃v',w'.ze[i]?=some v'/\v'.snap=v.snap:=λ{i v} h1=>by
  obtain⟨v',hv'⟩:∃v',w'.ze[i]?=some v':=⟨_,dZ (by have:=(dY.1 h1).1;have:=kp.mu;omega)⟩;exact⟨v',hv',(kp.fI _ v v' h1 hv').snap⟩
 rcases h with⟨h1,h2,h3,h4,h5,v,h6,h7⟩|⟨h1,h2,h3,v,c,h4,h5⟩|h
 ·obtain⟨v',a,b⟩:=at_ h6;exact .inl ⟨h1,h2,by rw[HF kp];exact h3,h4,λz=>XY kp (h5 z),v',a,by rw[b];exact h7⟩
 ·obtain⟨v',a,b⟩:=at_ h4;exact .inr (.inl ⟨h1,h2,h3,v',c,a,by rw[b];exact h5⟩)
 ·exact .inr (.inr h)
section
variable {w:Wor} {M Mn:fM} {m:eR} {v:fc} {g:Gr} {e:En} {r:Wor×eR×eV}
def Av(w:Wor)(M Mn:fM)(m:eR)(r:Wor×eR×eV):Prop:=(r.2.2.zI=true->m7 w Mn r.2.1)/\(r.2.2.zI=false->4<=r.2.1.pc->4<=m.pc/\m7 w M r.2.1)
def nr(h:r.2.2.zI=false)(h1:4<=m.pc)(h2:m7 w M r.2.1):Av w M Mn m r:=⟨λz=>absurd (h.symm.trans z) ar,λ_ _=>⟨h1,h2⟩⟩
def JP(h:r.2.2.zI=false)(h1:r.2.1.pc<4):Av w M Mn m r:=⟨λz=>absurd (h.symm.trans z) ar,λ_ z=>absurd z aw⟩
def PC(h:r.2.2.zI=true)(h1:m7 w Mn r.2.1):Av w M Mn m r:=⟨λ_=>h1,λz=>absurd (h.symm.trans z) ar⟩
def F3{α:Type}{o:Option α}{f:α->Wor×eR×eV}(h:o.map f=some r)(hf:∀x,o=some x->Av w M Mn m (f x)):Av w M Mn m r:=by
 obtain⟨x,hx,rfl⟩:=gT.1 h;exact hf x hx
def JA{f:fq->Wor×eR×eV}(h:wi w m f=some r)(hf:∀x,w.zd[m.listen.toNat]?=some x->Av w M Mn m (f x)):Av w M Mn m r:=by
 unfold wi at h;rcases zu h with h|h
 ·cases h
 ·exact F3 h hf
def zyo{o:fh}{a:ff}(h:o.listen∈M.dr)(hk:a.kind=5):handleV M o a=true:=by
 unfold handleV;rw[gk h,hk]
 rfl
def PD{s:Sna}{o:fh}{a:ff}(h:o.listen∉M.dr)(hs:M.z6[M.now.toNat]?=some s)(hf:(jr s o.listen o.host o.path).2≠0)(hk:a.kind=2):handleV M o a=true:=by
 unfold handleV;rw[gf h,hs];dsimp only;rw[gk hf,hk]
 rfl
def Y0{s:Sna}{c:fF}{o:fh}{a:ff}(h:o.listen∉M.dr)(hs:M.z6[M.now.toNat]?=some s)(hf:(jr s o.listen o.host o.path).2=0)(hc:s.zk[(jr s o.listen o.host o.path).1.toNat]?=some c)(hz:eU c=[])(hk:a.kind=3):handleV M o a=true:=by
 unfold handleV;rw[gf h,hs];dsimp only;rw[gf aw,hc];dsimp only;rw[gk hz,hk]
 rfl
def ZN{s:Sna}{c:fF}{o:fh}{a:ff}(h:o.listen∉M.dr)(hs:M.z6[M.now.toNat]?=some s)(hf:(jr s o.listen o.host o.path).2=0)(hc:s.zk[(jr s o.listen o.host o.path).1.toNat]?=some c)(hz:eU c≠[])(hk:a.kind=4):handleV M o a=true:=by
 unfold handleV;rw[gf h,hs];dsimp only;rw[gf aw,hc];dsimp only;rw[gf hz,gk hk]
def zxj{s:Sna}{c:fF}{o:fh}{a:ff}(h:o.listen∉M.dr)(hs:M.z6[M.now.toNat]?=some s)(hf:(jr s o.listen o.host o.path).2=0)(hc:s.zk[(jr s o.listen o.host o.path).1.toNat]?=some c)(hz:eU c≠[])(hk:a.kind=1)(hv:a.version=M.now)(hcl:a.zj=(jr s o.listen o.host o.path).1)(he:a.end_∈eU c):handleV M o a=true:=by
 unfold handleV;rw[gf h,hs];dsimp only;rw[gf aw,hc];dsimp only;rw[gf hz,gf aw,hk,hv,hcl];simp only[BEq.rfl,Bool.and_self,rX,pZ];exact⟨_,he,aj⟩
def Wv{s:Sna}{n h p:eZ}(hn:n∉s.zd):(jr s n h p).2≠0:=by
 have:yz s.zd n<0:=by
  unfold yz
  have:s.zd.findIdx? (λx=>x == n)=none:=by
   rw[gP];intro x hx;have:¬x=n:=λq=>hn (q ▸ hx)
   simpa using this
  rw[this]
  decide
 unfold jr;rw[gk this]
 decide
def Jx{l:List Int}{n:Int}(h:l.length≠0):(l[(n%l.length).toNat]?).getD 0∈l:=by
 have h1:=sA n (show(l.length:Int)≠0 by omega);have h2:=sr n (show(0:Int)<l.length by omega);have h3:(n%(l.length:Int)).toNat<l.length:=aw
 rw[dZ h3];exact gW h3
def XM(hb:Hb w M m)(hn:m.op.listen∉M.dr)(hv:w.ze[m.version.toNat]?=some v)(hp:m.pc=5)(h0:0<=m.listen)(hl:m.listen=zx w.zd m.op.listen):m7 w M (xe m v):=by
 obtain⟨b1,b2,v',b3,b4⟩:=hb;rw[hv]at b3;obtain rfl:=gm b3;have hs:M.z6[M.now.toNat]?=some v.snap:=by rw[b1];exact b4
 unfold xe;split
 ·rename_i q;exact .inr (.inr ⟨cG,PD hn hs q O⟩)
 ·rename_i q;have q:(xk m v).2=0:=Decidable.not_not.1 q;split
  ·exact .inl ⟨.inr hp,h0,hl,b1,b2,v,hv,b4⟩
  ·rename_i c hc;split
   ·rename_i hd
    have hz:(eU c).length=0:=by
     unfold xE at hd;split at hd
     ·assumption
     ·exact absurd O hd
    exact .inr (.inr ⟨cG,Y0 hn hs q hc (rB.1 hz) O⟩)
   ·rename_i hd
    have hz:(eU c).length≠0:=λz=>by
     unfold xE at hd;rw[gk z]at hd;exact hd ar
    have hz2:eU c≠[]:=λz=>hz (by rw[z];rfl)
    split
    ·exact .inr (.inl ⟨⟨(gH au),(gH au)⟩,hn,b1,v,c,hv,b4,q,rfl,hc,hz2,λz=>absurd z (gH au),λz=>absurd z (gH au)⟩)
    ·have d1:(xE c m.op.d0 m.op.d1).1∈eU c:=by
      unfold xE;rw[gf hz];exact Jx hz
     have d2:(xE c m.op.d0 m.op.d1).2.1∈eU c:=by
      unfold xE;rw[gf hz];exact Jx hz
     exact .inr (.inl ⟨⟨(gH au),(gH au)⟩,hn,b1,v,c,hv,b4,q,rfl,hc,hz2,λ_=>d1,λ_ _=>d2⟩)
def MD(hv:w.ze[m.version.toNat]?=some v)(gw:jQ w)(mi:B5 w Mn)(ho:4<=m.pc->m7 w M m)(h:zZ w m v g e=some r):Av w M Mn m r:=by
 unfold zZ at h;rcases zU h with⟨p,h⟩|⟨_,h⟩
 ·unfold oU at h;rcases zU h with⟨q,h⟩|⟨_,h⟩
  ·obtain rfl:=gm h;exact JP O (gH au)
  rcases zU h with⟨q,h⟩|⟨_,h⟩
  ·obtain rfl:=gm h;exact JP O (gH au)
  rcases zU h with⟨q,h⟩|⟨_,h⟩
  ·obtain rfl:=gm h;exact JP O (by dsimp only;split <;> decide)
  ·cases h
 rcases zU h with⟨p,h⟩|⟨_,h⟩
 ·obtain rfl:=gm h;refine PC O ?_;have hcl:w.current.toNat<w.ze.length:=by have:=gw.current;omega
  obtain⟨vc,hvc⟩:∃vc,w.ze[w.current.toNat]?=some vc:=⟨_,dZ hcl⟩;have hs:Mn.z6[w.current.toNat]?=some vc.snap:=by rw[mi.z6,gj,hvc];rfl
  dsimp only;split
  ·rename_i q;refine .inr (.inr ⟨cG,?_⟩);refine PD (s:=vc.snap) ?_ (by rw[mi.now];exact hs) ?_ O
   ·intro z;have y:0<=zx w.zd m.op.listen:=((mi.dr _).1 z).1;have q:zx w.zd m.op.listen<0:=q;omega
   ·refine Wv λz=>?_
    have y:0<=zx w.zd m.op.listen:=mi.EU vc (gh hvc) _ z;have q:zx w.zd m.op.listen<0:=q;omega
  ·rename_i q;exact .inl ⟨.inl O,by show 0<=zx w.zd m.op.listen;omega,rfl,mi.now,λz=>(mi.dr _).1 z,vc,hvc,hs⟩
 rcases zU h with⟨p,h⟩|⟨_,h⟩
 ·rcases ho aw with⟨_,h2,h3,h4⟩|⟨h2,_⟩|⟨h2,_⟩
  ·exact JA h λx _=>nr O aw (.inl ⟨.inr O,h2,h3,h4⟩)
  ·omega
  ·omega
 rcases zU h with⟨p,h⟩|⟨_,h⟩
 ·rcases ho aw with⟨_,h2,h3,h4⟩|⟨h2,_⟩|⟨h2,_⟩
  ·refine JA h λx hx=>?_
   by_cases q:x.drain=true
   ·rw[gk q,gk q];refine PC O (.inr (.inr ⟨cG,zyo ((mi.dr _).2 ⟨by rw[<-h3];exact h2,x,by rw[<-h3];exact hx,q⟩) O⟩))
   ·rw[gf q,gf q];refine nr O aw (XM h4 (λz=>?_) hv p h2 h3);obtain⟨_,l,d1,d2⟩:=h4.2.1 z;rw[<-h3,hx]at d1;cases d1
    exact q d2
  ·omega
  ·omega
 have hd:6<=m.pc->m.pc<=12->Hd w M m:=λa b=>by
  rcases ho aw with⟨z,_⟩|⟨_,z⟩|⟨z,_⟩
  ·omega
  ·exact z
  ·omega
 rcases zU h with⟨p,h⟩|⟨_,h⟩
 ·obtain⟨a1,a2,v',c,a3,a4,a5,a6,a7,a8,a9,a10⟩:=hd aw aw;rw[hv]at a3;obtain rfl:=gm a3;refine F3 h λc' hc'=>nr O aw (.inr (.inl ⟨⟨(gH au),(gH au)⟩,a1,a2,v,c,hv,a4,a5,a6,a7,a8,λ_=>?_,λ_ z=>absurd z (gH au)⟩))
  rw[a7]at hc';obtain rfl:=gm hc';show(w9 c g.zt).1∈eU c;have hz:(eU c).length≠0:=λz=>a8 (rB.1 z)
  unfold w9;rw[gf hz];exact Jx hz
 rcases zU h with⟨p,h⟩|⟨_,h⟩
 ·obtain⟨a1,a2,v',c,a3,a4,a5,a6,a7,a8,a9,a10⟩:=hd aw aw;obtain rfl:=gm h;exact nr O aw (.inr (.inl ⟨⟨(gH au),(gH au)⟩,a1,a2,v',c,a3,a4,a5,a6,a7,a8,λ_=>a9 aw,λ_ _=>a10 aw aw⟩))
 rcases zU h with⟨p,h⟩|⟨_,h⟩
 ·obtain⟨a1,a2,v',c,a3,a4,a5,a6,a7,a8,a9,a10⟩:=hd aw aw;refine F3 h λe2 _=>nr O aw (.inr (.inl ⟨⟨(gH au),(gH au)⟩,a1,a2,v',c,a3,a4,a5,a6,a7,a8,λ_=>?_,λ_ z=>absurd z (gH au)⟩))
  dsimp only;split
  ·exact a10 aw aw
  ·exact a9 aw
 rcases zU h with⟨p,h⟩|⟨_,h⟩
 ·obtain⟨a1,a2,v',c,a3,a4,a5,a6,a7,a8,a9,a10⟩:=hd aw aw;obtain rfl:=gm h;refine nr O aw ?_;dsimp only;split
  ·exact .inr (.inl ⟨⟨(gH au),(gH au)⟩,a1,a2,v',c,a3,a4,a5,a6,a7,a8,λ_=>a9 aw,λ_ z=>absurd z (gH au)⟩)
  ·exact .inr (.inr ⟨cG,ZN (s:=v'.snap) (c:=c) a1 (by rw[a2];exact a4) a5 (by rw[a6];exact a7) a8 O⟩)
 rcases zU h with⟨p,h⟩|⟨_,h⟩
 ·obtain⟨a1,a2,v',c,a3,a4,a5,a6,a7,a8,a9,a10⟩:=hd aw aw;exact F3 h λx _=>nr O aw (.inr (.inl ⟨⟨(gH au),(gH au)⟩,a1,a2,v',c,a3,a4,a5,a6,a7,a8,λ_=>a9 aw,λ_ z=>absurd z (gH au)⟩))
 rcases zU h with⟨p,h⟩|⟨_,h⟩
 ·obtain⟨a1,a2,v',c,a3,a4,a5,a6,a7,a8,a9,a10⟩:=hd aw aw;rcases zu h with h|h
  ·obtain rfl:=gm h;exact nr O aw (.inr (.inl ⟨⟨(gH au),(gH au)⟩,a1,a2,v',c,a3,a4,a5,a6,a7,a8,λ_=>a9 aw,λ_ z=>absurd z (gH au)⟩))
  ·obtain rfl:=gm h;exact nr O aw (.inr (.inl ⟨⟨(gH au),(gH au)⟩,a1,a2,v',c,a3,a4,a5,a6,a7,a8,λ_=>a9 aw,λ_ z=>absurd z (gH au)⟩))
 rcases zU h with⟨p,h⟩|⟨_,h⟩
 ·obtain⟨a1,a2,v',c,a3,a4,a5,a6,a7,a8,a9,a10⟩:=hd aw aw;obtain rfl:=gm h;exact nr O aw (.inr (.inr ⟨cG,zxj (s:=v'.snap) (c:=c) a1 (by rw[a2];exact a4) a5 (by rw[a6];exact a7) a8 O a2.symm a6.symm (a9 aw)⟩))
 have h20:20<=m.pc->handleV M m.op m.answer=true:=λa=>by
  rcases ho aw with⟨z,_⟩|⟨z,_⟩|⟨_,z⟩
  ·omega
  ·omega
  ·exact z
 have ou:∀{k p:Int} {r:Wor×eR×eV},20<=m.pc->20<=p->yU w m k p=some r->Av w M Mn m r:=λz hp h=>by
  unfold yU at h;split at h
  ·cases h
  ·split at h
   ·cases h
   ·obtain rfl:=gm h;exact nr O aw (.inr (.inr ⟨hp,h20 z⟩))
 rcases zU h with⟨p,h⟩|⟨_,h⟩
 ·exact ou aw ar h
 rcases zU h with⟨p,h⟩|⟨_,h⟩
 ·exact ou aw (by split <;> decide) h
 rcases zU h with⟨p,h⟩|⟨_,h⟩
 ·exact JA h λx _=>nr O aw (.inr (.inr ⟨(gH au),h20 aw⟩))
 rcases zU h with⟨p,h⟩|⟨_,h⟩
 ·obtain rfl:=gm h;exact nr O aw (.inr (.inr ⟨by show 20<=m.pc;omega,h20 aw⟩))
 ·cases h
def Wq(hd:m.done=false)(h:zZ w m v g e=some r)(hdn:r.2.1.done=true):20<=r.2.1.pc/\r.2.2.zI=false:=by
 have c2:22<=m.pc:=by
  rcases LX hd h with⟨_,_,_,c4,_⟩|⟨_,_,_,_,_,_,_,a4⟩|⟨_,c2,_⟩
  ·rw[c4]at hdn;cases hdn
  ·rcases a4 with⟨_,_,e⟩|⟨_,_,p,_,e⟩ <;> (rw[e]at hdn;exact absurd (hd.symm.trans hdn) ar)
  ·exact c2
 unfold zZ at h
 iterate 13 (rcases zU h with⟨q,h⟩|⟨_,h⟩;(exfalso;omega))
 rcases zU h with⟨q,h⟩|⟨_,h⟩
 ·unfold wi at h;rcases zu h with h|h
  ·cases h
  ·obtain⟨x,_,rfl⟩:=gT.1 h;exact absurd (hd.symm.trans hdn) ar
 rcases zU h with⟨q,h⟩|⟨_,h⟩
 ·obtain rfl:=gm h;exact⟨by show 20<=m.pc;omega,rfl⟩
 ·cases h
end
abbrev AA(l:fq):eZ×Bool:=(l.name,l.drain)
def xh(w w':Wor):Prop:=w'.current=w.current/\w'.ze.map (·.snap)=w.ze.map (·.snap)/\w'.zd.map AA=w.zd.map AA
def NS(l:List fq)(n:eZ):zx l n=match (l.map AA).findIdx? (λr=>r.1 == n) with|some i=>(i:Int)|none=> -1:=by
 unfold zx;rw[rI]
 rfl
def Pa{w:Wor}{n:eZ}:mZ w n↔0<=zx w.zd n/\∃p,(w.zd.map AA)[(zx w.zd n).toNat]?=some p/\p.2=true:=by
 unfold mZ;constructor
 ·rintro⟨h1,l,h2,h3⟩;exact⟨h1,AA l,by rw[gj,h2];rfl,h3⟩
 ·rintro⟨h1,p,h2,h3⟩;rw[gj]at h2;obtain⟨l,h4,rfl⟩:=gT.1 h2;exact⟨h1,l,h4,h3⟩
def xh.place{w w':Wor}(s:xh w w')(n:eZ):zx w'.zd n=zx w.zd n:=by rw[NS,NS,s.2.2]
def xh.Qo{w w':Wor}(s:xh w w')(n:eZ):mZ w' n↔mZ w n:=by rw[Pa,Pa,s.place,s.2.2]
def B5.same{w w':Wor}{M:fM}(h:B5 w M)(s:xh w w'):B5 w' M:=by
 refine⟨h.now.trans s.1.symm,h.z6.trans s.2.1.symm,λn=>(h.dr n).trans (s.Qo n).symm,λv hv n hn=>?_⟩;have:v.snap∈w.ze.map (·.snap):=by rw[<-s.2.1];exact gZ.2 ⟨v,hv,rfl⟩
 obtain⟨v0,h0,e⟩:=gZ.1 this;rw[s.place];exact h.EU v0 h0 n (by rw[e];exact hn)
def xh.refl(w:Wor):xh w w:=⟨rfl,rfl,rfl⟩
def NF{w:Wor}{i:Nat}{v v':fc}(h:w.ze[i]?=some v)(hs:v'.snap=v.snap):(w.ze.set i v').map (·.snap)=w.ze.map (·.snap):=by
 rw[p9,hs];exact vG (by rw[gj,h];rfl)
def FD{w:Wor}{i:Nat}{x y:fq}(h:w.zd[i]?=some x)(hs:AA y=AA x):(w.zd.set i y).map AA=w.zd.map AA:=by
 rw[p9,hs];exact vG (by rw[gj,h];rfl)
section
variable {w:Wor} {m:eR} {v:fc} {g:Gr} {e:En} {r:Wor×eR×eV}
def Bp{α:Type}{o:Option α}{f:α->Wor×eR×eV}(h:o.map f=some r)(hf:∀x,o=some x->xh w (f x).1):xh w r.1:=by
 obtain⟨x,hx,rfl⟩:=gT.1 h;exact hf x hx
def Gb{f:fq->Wor×eR×eV}(h:wi w m f=some r)(hf:∀x,w.zd[m.listen.toNat]?=some x->xh w (f x).1):xh w r.1:=by
 unfold wi at h;rcases zu h with h|h
 ·cases h
 ·exact Bp h hf
def CO(hv:w.ze[m.version.toNat]?=some v)(g0:Gr)(e0:En)(tk hd ac:Int):xh w (mE w m v g0 e0 tk hd ac):=⟨rfl,NF hv O,rfl⟩
def NJ{k p:Int}(h:yU w m k p=some r):xh w r.1:=by
 unfold yU at h;split at h
 ·cases h
 ·split at h
  ·cases h
  ·obtain rfl:=gm h;exact⟨rfl,rfl,rfl⟩
def Xv(hv:w.ze[m.version.toNat]?=some v)(h:zZ w m v g e=some r):xh w r.1:=by
 unfold zZ at h;rcases zu h with h|h
 ·unfold oU at h;rcases zu h with h|h
  ·obtain rfl:=gm h;exact .refl _
  rcases zu h with h|h
  ·obtain rfl:=gm h;exact⟨rfl,rfl,rfl⟩
  rcases zu h with h|h
  ·obtain rfl:=gm h;exact .refl _
  ·cases h
 rcases zu h with h|h
 ·obtain rfl:=gm h;exact .refl _
 rcases zu h with h|h
 ·exact Gb h λx hx=>⟨rfl,rfl,FD hx O⟩
 rcases zu h with h|h
 ·exact Gb h λx hx=>.refl _
 rcases zu h with h|h
 ·exact Bp h λx _=>CO hv ..
 rcases zu h with h|h
 ·obtain rfl:=gm h;exact .refl _
 rcases zu h with h|h
 ·exact Bp h λx _=>.refl _
 rcases zu h with h|h
 ·obtain rfl:=gm h;exact .refl _
 rcases zu h with h|h
 ·exact Bp h λx _=>.refl _
 rcases zu h with h|h
 ·rcases zu h with h|h
  ·obtain rfl:=gm h;exact CO hv ..
  ·obtain rfl:=gm h;exact .refl _
 rcases zu h with h|h
 ·obtain rfl:=gm h;exact CO hv ..
 rcases zu h with h|h
 ·exact NJ h
 rcases zu h with h|h
 ·exact NJ h
 rcases zu h with h|h
 ·exact Gb h λx hx=>⟨rfl,rfl,FD hx O⟩
 rcases zu h with h|h
 ·obtain rfl:=gm h;exact⟨rfl,rfl,rfl⟩
 ·cases h
def Xu(hv:w.ze[m.version.toNat]?=some v)(h:xa w m v g e=some r):xh w r.1:=by
 unfold xa at h;rcases zu h with h|h
 ·obtain rfl:=gm h;exact .refl _
 rcases zu h with h|h
 ·obtain rfl:=gm h;exact CO hv ..
 rcases zu h with h|h
 ·rcases zu h with h|h
  ·obtain rfl:=gm h;exact CO hv ..
  ·obtain rfl:=gm h;exact .refl _
 rcases zu h with h|h
 ·obtain rfl:=gm h;exact CO hv ..
 rcases zu h with h|h
 ·exact Gb h λx hx=>⟨rfl,rfl,FD hx O⟩
 rcases zu h with h|h
 ·obtain rfl:=gm h;exact .refl _
 ·cases h
def PM:xh w (l8 w m).1:=by
 unfold l8;split
 ·exact⟨rfl,rfl,rfl⟩
 ·exact .refl _
def UO(h:j8 w m=some r):xh w r.1:=by
 unfold j8 at h;rcases zu h with h|h
 ·obtain rfl:=gm h;split
  ·exact⟨rfl,rfl,rfl⟩
  ·exact .refl _
 rcases zu h with h|h
 ·obtain rfl:=gm h;exact .refl _
 rcases zu h with h|h
 ·exact Bp h λx _=>.refl _
 rcases zu h with h|h
 ·obtain rfl:=gm h;split
  ·exact⟨rfl,rfl,rfl⟩
  ·exact .refl _
 rcases zu h with h|h
 ·obtain rfl:=gm h;split
  ·exact PM
  ·exact .refl _
 rcases zu h with h|h
 ·obtain⟨v0,_,h⟩:=gU.1 h;exact Bp h λx _=>.refl _
 rcases zu h with h|h
 ·obtain⟨v0,hv0,h⟩:=gU.1 h;obtain⟨r0,_,h⟩:=gU.1 h;rcases zu h with h|h
  ·obtain rfl:=gm h;exact⟨rfl,NF hv0 O,rfl⟩
  ·cases h
 rcases zu h with h|h
 ·obtain rfl:=gm h;exact PM
 rcases zu h with h|h
 ·exact Bp h λx _=>.refl _
 rcases zu h with h|h
 ·obtain⟨l0,hl0,h⟩:=gU.1 h;rcases zu h with h|h
  ·obtain rfl:=gm h;exact⟨rfl,rfl,FD hl0 O⟩
  ·cases h
 ·cases h
def Ym(h:yu w m=some r):xh w r.1:=by
 unfold yu at h;rcases zu h with h|h
 ·obtain⟨r0,_,h⟩:=gU.1 h;exact Bp h λx _=>.refl _
 ·cases h
def Yr(h:yL w m=some r):
  (m.pc=0/\(qg m.op.config).1=0/\r.1={w with current:=w.ze.length,ze:=w.ze++[yK m.op.config]}/\r.2.1.pc=1/\r.2.1.done=m.done/\r.2.1.i=w.ze.length/\vS r.2.2/\r.2.2.value=w.ze.length/\r.2.2.zI=true)\/
  (m.pc=0/\(qg m.op.config).1≠0/\r.1=w/\r.2.1.done=true/\r.2.1.answer=oG (qg m.op.config).1/\¬vS r.2.2/\r.2.2.zI=true)\/
  (m.pc=1/\r.1=w/\r.2.1.done=m.done/\r.2.1.pc=2/\r.2.1.i=m.i/\¬vS r.2.2/\r.2.2.zI=false)\/
  (m.pc=2/\xh w r.1/\r.2.1.done=true/\r.2.1.answer=Ao m/\¬vS r.2.2/\r.2.2.zI=false):=by
 unfold yL at h;rcases zU h with⟨p,h⟩|⟨_,h⟩
 ·rw[vt]at h;rcases zU h with⟨q,h⟩|⟨q,h⟩
  ·obtain rfl:=gm h;exact .inl ⟨p,q,rfl,rfl,rfl,rfl,⟨rfl,rfl⟩,rfl,rfl⟩
  ·obtain rfl:=gm h;exact .inr (.inl ⟨p,q,rfl,rfl,rfl,λz=>absurd z.2 (gH au),rfl⟩)
 rcases zU h with⟨p,h⟩|⟨_,h⟩
 ·obtain rfl:=gm h;exact .inr (.inr (.inl ⟨p,rfl,rfl,rfl,rfl,λz=>absurd z.2 (gH au),rfl⟩))
 rcases zU h with⟨p,h⟩|⟨_,h⟩
 ·rcases zu h with h|h
  ·cases h
  ·obtain rfl:=gm h;exact .inr (.inr (.inr ⟨p,⟨rfl,rfl,rfl⟩,rfl,rfl,λz=>absurd z.2 (gH au),rfl⟩))
 ·cases h
def XX(h:vz w m=some r):
  (r.1=w/\r.2.1.done=true/\r.2.1.answer=lH 7/\r.2.2.zI=false/\¬vS r.2.2)\/
  (0<=zx w.zd m.op.listen/\∃x,w.zd[(zx w.zd m.op.listen).toNat]?=some x/\r.1={w with zd:=w.zd.set (zx w.zd m.op.listen).toNat (Go.Gat.yD x)}/\r.2.1.done=true/\r.2.1.answer.kind=10/\r.2.2.zI=true/\¬vS r.2.2):=by
 unfold vz at h;rcases zu h with h|h
 ·rcases zU h with⟨q,h⟩|⟨q,h⟩
  ·obtain rfl:=gm h;exact .inl ⟨rfl,rfl,rfl,rfl,λz=>absurd z.2 (gH au)⟩
  ·obtain⟨x,hx,rfl⟩:=gT.1 h;exact .inr ⟨aw,x,hx,rfl,rfl,rfl,rfl,λz=>absurd z.2 (gH au)⟩
 ·cases h
end
def Ig{l:List fq}{n:eZ}(h:0<=zx l n):∃x,l[(zx l n).toNat]?=some x/\x.name=n:=by
 unfold zx at h ⊢;cases q:l.findIdx? (λr=>r.name == n) with
 |none=>rw[q]at h;exact absurd h ar
 |some i=>
  obtain⟨h1,h2,_⟩:=gJ.1 q;dsimp only;rw[toNat_cast];exact⟨l[i],dZ h1,aq h2⟩
def Zy{w:Wor}{n:eZ}{x:fq}(h0:0<=zx w.zd n)(hx:w.zd[(zx w.zd n).toNat]?=some x)(k:eZ):
  mZ {w with zd:=w.zd.set (zx w.zd n).toNat (Go.Gat.yD x)} k↔mZ w k\/k=n:=by
 have hl:=(dY.1 hx).1
 have hn:x.name=n:=by
  obtain⟨y,h1,h2⟩:=Ig h0;rw[hx]at h1;cases h1
  exact h2
 have pl:∀k,zx (w.zd.set (zx w.zd n).toNat (Go.Gat.yD x)) k=zx w.zd k:=λk=>by
  have e:(w.zd.set (zx w.zd n).toNat (Go.Gat.yD x)).map (·.name)=w.zd.map (·.name):=by
   rw[p9];exact vG (by rw[gj,hx];rfl)
  have f:∀l:List fq,l.findIdx? (λr=>r.name == k)=(l.map (·.name)).findIdx? (λr=>r == k):=λl=>by rw[rI];rfl
  unfold zx;rw[f,f];unfold zx at e;rw[e]
 unfold mZ;dsimp only;rw[pl];by_cases q:zx w.zd k=zx w.zd n
 ·have kn:0<=zx w.zd k->k=n:=λz=>by
   obtain⟨y,h1,h2⟩:=Ig z;rw[q,hx]at h1;cases h1
   rw[<-h2,hn]
  constructor
  ·rintro⟨h1,_⟩;exact .inr (kn h1)
  ·intro _;refine⟨aw,Go.Gat.yD x,?_,rfl⟩;rw[q];exact gu hl
 ·have ne:k≠n:=λz=>q (by rw[z])
  constructor
  ·rintro⟨h1,l,h2,h3⟩;rw[gV aw]at h2;exact .inl ⟨h1,l,h2,h3⟩
  ·rintro(⟨h1,l,h2,h3⟩|h)
   ·exact⟨h1,l,by rw[gV aw];exact h2,h3⟩
   ·exact(ne h).elim
def n5(T:List (List fh))(M:fM)(e:eV):fM:=match iC T e with
 |none=>M
 |some o=>if o.kind=3/\e.cell=3/\e.access=6 then ⟨M.z6++[(zT o.config).1],(M.z6.length:Int),M.dr⟩
  else if o.kind=4/\e.done=true/\e.answer.kind=10 then ⟨M.z6,M.now,M.dr++[o.listen]⟩ else M
def kc(T:List (List fh))(m0:fM)(l:List eV):fM:=l.foldl (n5 T) m0
section
variable {T:List (List fh)} {m0 M:fM} {l:List eV} {e:eV} {o:fh}
def OQ:kc T m0 (l++[e])=n5 T (kc T m0 l) e:=by unfold kc;rw[sE];rfl
def Eh{g:Nat}(h:l[g]?=some e):kc T m0 (l.take (g+1))=n5 T (kc T m0 (l.take g)) e:=by
 obtain⟨hl,rfl⟩:=dY.1 h;rw[p7 hl,OQ]
def Ip(h:iC T e=some o)(hk:o.kind=3)(hp:vS e):n5 T M e=⟨M.z6++[(zT o.config).1],(M.z6.length:Int),M.dr⟩:=by
 unfold n5;rw[h];exact gk ⟨hk,hp⟩
def OP(h:iC T e=some o)(hk:o.kind=4)(hd:e.done=true)(ha:e.answer.kind=10):n5 T M e=⟨M.z6,M.now,M.dr++[o.listen]⟩:=by
 unfold n5;rw[h];dsimp only;rw[gf aw,gk ⟨hk,hd,ha⟩]
def vE(h:iC T e=some o)(h3:o.kind=3->¬vS e)(h4:o.kind=4->¬(e.done=true/\e.answer.kind=10)):n5 T M e=M:=by
 unfold n5;rw[h];dsimp only;rw[gf (λz=>h3 z.1 z.2),gf (λz=>h4 z.1 z.2)]
end
def xY(l:List eV)(t k:Int)(g:Nat):Prop:=∃e:eV,l[g]?=some e/\e.zI=true/\e.zf=t/\e.op=k/\∀(j:Nat) (e':eV),g<j->l[j]?=some e'->e'.zf=t->e'.op=k->e'.zI=false
section
variable {l:List eV} {t k:Int} {g g':Nat} {e:eV}
def DA(h:xY l t k g)(h':xY l t k g'):g=g':=by
 obtain⟨e1,a1,a2,a3,a4,a5⟩:=h;obtain⟨e2,b1,b2,b3,b4,b5⟩:=h';rcases rU g g' with q|q|q
 ·have:=a5 g' e2 q b1 b3 b4;rw[b2]at this;cases this
 ·exact q
 ·have:=b5 g e1 q a1 a3 a4;rw[a2]at this;cases this
def kb(h:xY l t k g)(hn:e.zf=t->e.op=k->e.zI=false):xY (l++[e]) t k g:=by
 obtain⟨e1,a1,a2,a3,a4,a5⟩:=h;refine⟨e1,yA _ a1,a2,a3,a4,λj e' hj hj2 q1 q2=>?_⟩;rcases vT hj2 with⟨_,hj2⟩|⟨_,rfl⟩
 ·exact a5 j e' hj hj2 q1 q2
 ·exact hn q1 q2
def Cy(h:e.zI=true)(h1:e.zf=t)(h2:e.op=k):xY (l++[e]) t k l.length:=by
 refine⟨e,vv _ _,h,h1,h2,λj e' hj hj2 _ _=>?_⟩;have:=(dY.1 hj2).1;rw[gE]at this;exact de
def N4(h:xY (l++[e]) t k g):(g=l.length/\e.zI=true/\e.zf=t/\e.op=k)\/(g<l.length/\xY l t k g/\(e.zf=t->e.op=k->e.zI=false)):=by
 obtain⟨e1,a1,a2,a3,a4,a5⟩:=h;rcases vT a1 with⟨q,a1⟩|⟨q,rfl⟩
 ·exact .inr ⟨q,⟨e1,a1,a2,a3,a4,λj e' hj hj2=>a5 j e' hj (yA _ hj2)⟩,λq1 q2=>a5 l.length e q (vv _ _) q1 q2⟩
 ·exact .inl ⟨q,a2,a3,a4⟩
end
structure MI(T:List (List fh))(m0:fM)(s:Wor.ij):Prop where
 tr:Tr s
 ops:s.2.1.map (·.ops)=T
 dn:∀e∈s.2.2,e.done=true->∃(t:Nat) (x:fp),e.zf=(t:Int)/\s.2.1[t]?=some x/\e.op<x.done
 Dt:B5 s.1 (kc T m0 s.2.2)
 Kw:∀L∈T,∀o∈L,o.kind=3->(qg o.config).1=0->∀n∈o.config.zd,0<=zx s.1.zd n
 run:∀(t:Nat) (x:fp),s.2.1[t]?=some x->x.on=true->x.m.op.kind=1->4<=x.m.pc->∃g,xY s.2.2 t x.done g/\m7 s.1 (kc T m0 (s.2.2.take g)) x.m
 swp:∀(t:Nat) (x:fp),s.2.1[t]?=some x->x.on=true->x.m.op.kind=3->1<=x.m.pc->∃g e,xY s.2.2 t x.done g/\s.2.2[g]?=some e/\vS e/\e.value=x.m.i
 oF:∀(g:Nat) (e:eV),s.2.2[g]?=some e->vS e->xY s.2.2 e.zf e.op g/\∃o,iC T e=some o/\o.kind=3/\(qg o.config).1=0/\e.value=((kc T m0 (s.2.2.take g)).z6.length:Int)
 G6:∀(g:Nat) (e:eV) (t:Nat) (x:fp),s.2.2[g]?=some e->vS e->e.zf=(t:Int)->s.2.1[t]?=some x->e.op=x.done->x.on=true/\1<=x.m.pc
 Ks:∀(g:Nat) (e:eV) (o:fh),s.2.2[g]?=some e->iC T e=some o->o.kind=4->e.done=true->e.answer.kind=10->xY s.2.2 e.zf e.op g
 KB:∀(g:Nat) (e:eV) (o:fh),s.2.2[g]?=some e->e.zI=true->iC T e=some o->o.kind=3->vS e\/e.done=true
 fin:∀(τ g:Nat) (e:eV) (o:fh),s.2.2[τ]?=some e->e.done=true->iC T e=some o->xY s.2.2 e.zf e.op g->qU (kc T m0 (s.2.2.take g)) o e.answer=(true,kc T m0 (s.2.2.take (g+1)))
structure MS(w:Wor)(M:fM)(M':fM)(o:fh)(m:eR)(r:Wor×eR×eV):Prop where
 Dt:B5 r.1 M'
 oF:vS r.2.2->o.kind=3/\(qg o.config).1=0/\r.2.2.zI=true/\r.2.2.value=(M.z6.length:Int)/\r.2.1.done=false/\r.2.1.pc=1/\r.2.1.i=r.2.2.value
 dr:o.kind=4->r.2.1.done=true/\(r.2.1.answer.kind=10/\r.2.2.zI=true\/r.2.1.answer.kind=7/\r.2.2.zI=false)
 sw:o.kind=3->(vS r.2.2)\/(¬vS r.2.2/\r.2.1.done=true/\(qg o.config).1≠0/\r.2.1.answer=oG (qg o.config).1/\r.2.2.zI=true)\/(¬vS r.2.2/\1<=m.pc/\r.2.2.zI=false/\(r.2.1.done=false->1<=r.2.1.pc/\r.2.1.i=m.i)/\(r.2.1.done=true->r.2.1.answer=Ao m))
 Qz:o.kind=3->1<=m.pc->r.2.2.zI=false
def zyt{w:Wor}{M:fM}{T:List (List fh)}{o:fh}{m:eR}{v:fc}{g:Gr}{e:En}{r:Wor×eR×eV}{E:eV}(su:qF w m v g e)(mi:B5 w M)(hop:m.op=o)(h:yl w m=some r)(hE:iC T E=some o)(e1:E.cell=r.2.2.cell)(e2:E.access=r.2.2.access)(e3:E.done=r.2.2.done)(e4:E.answer=r.2.2.answer)
 (tl:vM m r)(nm:o.kind=3->(qg o.config).1=0->∀n∈o.config.zd,0<=zx w.zd n):MS w M (n5 T M E) o m r:=by
 have pe:vS E↔vS r.2.2:=by unfold vS;rw[e1,e2]
 have other:o.kind≠3->o.kind≠4->xh w r.1->¬vS r.2.2->MS w M (n5 T M E) o m r:=λk3 k4 s np=>by
  rw[vE hE (λz=>absurd z k3) (λz=>absurd z k4)];exact⟨mi.same s,λz=>absurd z np,λz=>absurd z k4,λz=>absurd z k3,λz=>absurd z k3⟩
 rcases Jb su h with⟨k,h⟩|⟨k,h⟩|⟨k,h⟩|⟨k,h⟩|⟨k,h⟩|⟨k,h⟩
 ·rw[hop]at k;have s:=Xv su.fH h;exact other aw aw s (To h).2
 ·rw[hop]at k;have s:=Xu su.fH h;exact other aw aw s (Tn h).2
 ·rw[hop]at k;rcases Yr h with⟨p,c,a1,a2,a3,a4,a5,a6,a7⟩|⟨p,c,a1,a2,a3,a4,a5⟩|⟨p,a1,a2,a3,a4,a5,a6⟩|⟨p,a1,a2,a3,a4,a5⟩
  ·rw[hop]at c a1;have ml:(M.z6.length:Int)=w.ze.length:=by rw[mi.z6,gp]
   have sn:(yK o.config).snap=(zT o.config).1:=by
    unfold yK qD;rw[gk (E8 c)]
   refine⟨?_,λ_=>⟨k,c,a7,a6.trans ml.symm,a3.trans su.done,a2,a4.trans a6.symm⟩,λz=>by omega,λ_=>.inl a5,λ_ z=>by omega⟩;rw[Ip hE k (pe.2 a5),a1];refine⟨ml,?_,λn=>mi.dr n,λy hy n hn=>?_⟩
   ·dsimp only;rw[rb,mi.z6,List.map_singleton,sn]
   ·rcases gO.1 hy with hy|hy
    ·exact mi.EU y hy n hn
    ·rw[gN.1 hy,sn]at hn;refine nm k c n ?_
     have e:zT o.config=(⟨o.config.zd,o.config.zM.map (Ah o.config),o.config.zk⟩,0,0):=by
      unfold zT;rw[gf aw]
     rw[e]at hn;exact hn
  ·rw[hop]at c a3;refine⟨?_,λz=>absurd z a4,λz=>by omega,λ_=>.inr (.inl ⟨a4,a2,c,a3,a5⟩),λ_ z=>by omega⟩;rw[vE hE (λ_ z=>a4 (pe.1 z)) (λz=>by omega),a1];exact mi
  ·refine⟨?_,λz=>absurd z a5,λz=>by omega,λ_=>.inr (.inr ⟨a5,aw,a6,λ_=>⟨aw,a4⟩,λz=>absurd ((a2.trans su.done).symm.trans z) ar⟩),λ_ _=>a6⟩;rw[vE hE (λ_ z=>a5 (pe.1 z)) (λz=>by omega),a1];exact mi
  ·refine⟨?_,λz=>absurd z a4,λz=>by omega,λ_=>.inr (.inr ⟨a4,aw,a5,λz=>absurd (a2.symm.trans z) ar,λ_=>a3⟩),λ_ _=>a5⟩;rw[vE hE (λ_ z=>a4 (pe.1 z)) (λz=>by omega)];exact mi.same a1
 ·rw[hop]at k;rcases XX h with⟨a1,a2,a3,a4,a5⟩|⟨q,x,hx,a1,a2,a3,a4,a5⟩
  ·have ek:r.2.1.answer.kind=7:=by rw[a3]
   refine⟨?_,λz=>absurd z a5,λ_=>⟨a2,.inr ⟨ek,a4⟩⟩,λz=>by omega,λz=>by omega⟩;rw[vE hE (λz=>by omega) (λ_ z=>?_),a1]
   ·exact mi
   ·have:=z.2;rw[e4,tl.2.1 a2]at this;omega
  ·rw[hop]at q hx a1;refine⟨?_,λz=>absurd z a5,λ_=>⟨a2,.inl ⟨a3,a4⟩⟩,λz=>by omega,λz=>by omega⟩;have ed:E.done=true:=by rw[e3,tl.1];exact a2
   have ea:E.answer.kind=10:=by rw[e4,tl.2.1 a2];exact a3
   rw[OP hE k ed ea,a1]
   have nm':∀n,zx (w.zd.set (zx w.zd o.listen).toNat (Go.Gat.yD x)) n=zx w.zd n:=λn=>by
    have e:(w.zd.set (zx w.zd o.listen).toNat (Go.Gat.yD x)).map (·.name)=w.zd.map (·.name):=by
     rw[p9];exact vG (by rw[gj,hx];rfl)
    have f:∀l:List fq,l.findIdx? (λr=>r.name == n)=(l.map (·.name)).findIdx? (λr=>r == n):=λl=>by rw[rI];rfl
    unfold zx;rw[f,f];unfold zx at e;rw[e]
   refine⟨mi.now,mi.z6,λn=>?_,λy hy n hn=>?_⟩
   ·rw[Zy q hx];dsimp only;rw[gO,gN,mi.dr]
   ·have:=mi.EU y hy n hn;dsimp only;rw[nm'];exact dF
 ·rw[hop]at k;have s:=UO h;exact other aw aw s (SH h).2
 ·rw[hop]at k;have s:=Ym h;exact other aw aw s (Wo h).2
def Yu{M:fM}{o:fh}{a:ff}(h:o.kind≠1)(h3:o.kind≠3)(h4:o.kind≠4):qU M o a=(true,M):=by
 unfold qU;rw[gf h,gf h3,gf h4]
def Mw{M:fM}{o:fh}{a:ff}(h3:o.kind=3)(hc:(qg o.config).1=0)(hk:a.kind=8)(hv:a.version=(M.z6.length:Int)):qU M o a=(true,⟨M.z6++[(zT o.config).1],(M.z6.length:Int),M.dr⟩):=by
 unfold qU;rw[gf aw,gk h3];unfold Lin.w8;rw[gf (by rw[vU,hc];decide),gf aw]
def Yt{M:fM}{o:fh}(h3:o.kind=3)(hc:(qg o.config).1≠0):qU M o (oG (qg o.config).1)=(true,M):=by
 unfold qU;rw[gf aw,gk h3];unfold Lin.w8;rw[gk (by rw[vU];exact hc),vU];simp
def zwx{M:fM}{o:fh}{a:ff}(h4:o.kind=4)(hk:a.kind=10):qU M o a=(true,⟨M.z6,M.now,M.dr++[o.listen]⟩):=by
 unfold qU;rw[gf aw,gf aw,gk h4,gk hk,hk]
 rfl
def UU{M:fM}{o:fh}{a:ff}(h4:o.kind=4)(hk:a.kind=7):qU M o a=(true,M):=by
 unfold qU;rw[gf aw,gf aw,gk h4,gf aw,hk]
 rfl
def Zb{N K:Nat}{T:List (List fh)}{m0:fM}{s:Wor.ij}(gi:GI N K s.1 s.2.1)(mi:MI T m0 s)(p:Int)(hN:N<=100000000)(hK:K<=1099511627776):MI T m0 (vp s p):=by
 rcases yI gi p hN hK with⟨_,e⟩|⟨t,x,o,r,hat,hx,ho,hsu,htm,hst,_,e,gi2⟩
 ·rw[e];exact mi
 ·rw[e];obtain⟨v,g,en,su,lc,nc⟩:=Zk gi hx ho hN hK hst;have tl:=HL su.done hst;have nt:=HC o gi hx;have no:=Jm gi hx ho;have eth:r.2.2.zf=(t:Int):=tl.2.2.trans nt;have hl:=(dY.1 hx).1;have kp:=nc.keep;obtain⟨E,hE⟩:∃E,E=nT r.2.2 x:=⟨_,rfl⟩;have ethE:E.zf=(t:Int):=by rw[hE];exact eth
  have eopE:E.op=x.done:=cH
  have epE:E.zI=r.2.2.zI:=cH
  have edE:E.done=r.2.2.done:=cH
  have eaE:E.answer=r.2.2.answer:=cH
  have evE:E.value=r.2.2.value:=cH
  have ecE:E.cell=r.2.2.cell:=cH
  have exE:E.access=r.2.2.access:=cH
  have pE:vS E↔vS r.2.2:=by unfold vS;rw[ecE,exE]
  have tr':=I3 (m:=r.2.1) (w:=r.1) mi.tr hx eth;rw[<-hE]at tr' ⊢
  have oth:∀(e:eV),e.zf=(t:Int)->e.op=x.done->iC T e=some o:=λe h1 h2=>by
   unfold iC;rw[h1,h2,toNat_cast,toNat_cast,<-mi.ops,gj,hx];exact ho
  have ox:=oth E ethE eopE
  have old:∀e∈s.2.2,e.done=true->¬(e.zf=(t:Int)/\e.op=x.done):=λe he hd z=>by
   obtain⟨t',x',h1,h2,h3⟩:=mi.dn e he hd;have:t'=t:=aw
   subst this;rw[hx]at h2;cases h2
   omega
  have oT:∃L∈T,o∈L:=⟨x.ops,by rw[<-mi.ops];exact gZ.2 ⟨x,gh hx,rfl⟩,gh ho⟩;have ms:=zyt (E:=E) su mi.Dt no hst ox ecE exE edE eaE tl (λk c n hn=>by obtain⟨L,h1,h2⟩:=oT;exact mi.Kw L h1 o h2 k c n hn)
  have dn':∀e∈s.2.2++[E],e.done=true->∃(t':Nat) (x':fp),e.zf=(t':Int)/\(s.2.1.set t (Wor.jj x r.2.1))[t']?=some x'/\e.op<x'.done:=λe he hd=>by
   rcases gO.1 he with he|he
   ·obtain⟨t',x',h1,h2,h3⟩:=mi.dn e he hd;by_cases q:t=t'
    ·subst q;rw[hx]at h2;cases h2
     refine⟨t,_,h1,gu hl,?_⟩;unfold Wor.jj;split
     ·dsimp only;omega
     ·exact h3
    ·exact⟨t',x',h1,by rw[gV q];exact h2,h3⟩
   ·rw[gN.1 he]at hd ⊢;have d:r.2.1.done=true:=by rw[<-tl.1,<-edE];exact hd
    refine⟨t,_,ethE,gu hl,?_⟩;rw[eopE,Wor.vq d];dsimp only;omega
  have tk:∀{g:Nat},g<=s.2.2.length->(s.2.2++[E]).take g=s.2.2.take g:=λh=>CN _ h
  have tkL:(s.2.2++[E]).take s.2.2.length=s.2.2:=by rw[tk (gD _),pQ]
  have tkL1:kc T m0 ((s.2.2++[E]).take (s.2.2.length+1))=n5 T (kc T m0 s.2.2) E:=by rw[Eh (vv _ _),tkL]
  have req:o.kind=1->4<=r.2.1.pc->∃g,xY (s.2.2++[E]) t x.done g/\m7 s.1 (kc T m0 ((s.2.2++[E]).take g)) r.2.1:=λhk hp=>by
   have hh:zZ s.1 (jF x t o) v g en=some r:=by
    rcases Jb su hst with⟨_,h⟩|⟨k,_⟩|⟨k,_⟩|⟨k,_⟩|⟨k,_⟩|⟨k,_⟩
    ·exact h
    all_goals (rw[no]at k;omega)
   have newP:r.2.2.zI=true->m7 s.1 (kc T m0 s.2.2) r.2.1->∃g,xY (s.2.2++[E]) t x.done g/\m7 s.1 (kc T m0 ((s.2.2++[E]).take g)) r.2.1:=λz q=>
    ⟨s.2.2.length,Cy (epE.trans z) ethE eopE,by rw[tkL];exact q⟩
   by_cases q4:4<=(jF x t o).pc
   ·have hon:x.on=true:=by
     cases hon:x.on with
     |true=>rfl
     |false=>
      have en2:jF x t o=Beg.jY t o x.given:=aY
      rw[en2,DB aw]at q4;exact absurd (show(4:Int)<=0 from q4) ar
    have en2:jF x t o=x.m:=aY
    obtain⟨g0,l0,h0⟩:=mi.run t x hx hon (by rw[<-en2,no];exact hk) (by rw[<-en2];exact q4);rw[<-en2]at h0;obtain⟨s1,s2⟩:=MD su.fH gi.st.jz mi.Dt (λ_=>h0) hh;cases z:r.2.2.zI with
    |true=>exact newP z (s1 z)
    |false=>
     have g0l:g0<s.2.2.length:=by obtain⟨e1,a1,_⟩:=l0;exact(dY.1 a1).1
     refine⟨g0,kb l0 (λ_ _=>epE.trans z),?_⟩;rw[tk (sZ g0l)];exact(s2 z hp).2
   ·obtain⟨s1,s2⟩:=MD (M:=kc T m0 s.2.2) su.fH gi.st.jz mi.Dt (λz=>absurd z q4) hh;cases z:r.2.2.zI with
    |true=>exact newP z (s1 z)
    |false=>exact absurd (s2 z hp).1 q4
  have onOf:1<=(jF x t o).pc->o.kind=3->x.on=true/\jF x t o=x.m:=λh1 h3=>by
   cases hon:x.on with
   |true=>exact⟨rfl,aY⟩
   |false=>
    have en2:jF x t o=Beg.jY t o x.given:=aY
    rw[en2,DB aw]at h1;exact absurd (show(1:Int)<=0 from h1) ar
  have swG:o.kind=3->1<=(jF x t o).pc->∃g e,xY s.2.2 t x.done g/\s.2.2[g]?=some e/\vS e/\e.value=(jF x t o).i:=λh3 h1=>by
   obtain⟨hon,en2⟩:=onOf h1 h3;rw[en2];exact mi.swp t x hx hon (by rw[<-en2,no];exact h3) (by rw[<-en2];exact h1)
  have pub':∀(g:Nat) (e:eV),(s.2.2++[E])[g]?=some e->vS e->xY (s.2.2++[E]) e.zf e.op g/\∃o,iC T e=some o/\o.kind=3/\(qg o.config).1=0/\e.value=((kc T m0 ((s.2.2++[E]).take g)).z6.length:Int):=λg1 e h1 h2=>by
   rcases vT h1 with⟨l1,h1⟩|⟨rfl,rfl⟩
   ·obtain⟨a1,o',a2,a3,a4,a5⟩:=mi.oF g1 e h1 h2;refine⟨kb a1 λq1 q2=>?_,o',a2,a3,a4,by rw[tk (sZ l1)];exact a5⟩;have q1':e.zf=(t:Int):=q1.symm.trans ethE;have q2':e.op=x.done:=q2.symm.trans eopE;have:=oth e q1' q2';rw[a2]at this;obtain rfl:=gm this;obtain⟨z1,z2⟩:=mi.G6 g1 e t x h1 h2 q1' hx q2';have en2:jF x t o'=x.m:=by unfold jF;rw[z1];rfl
    rw[epE];exact ms.Qz a3 (by rw[en2];exact z2)
   ·obtain⟨a1,a2,a3,a4,_⟩:=ms.oF (pE.1 h2);refine⟨Cy (epE.trans a3) O O,o,ox,a1,a2,?_⟩;rw[tkL,evE];exact a4
  refine⟨tr',?_,dn',?_,λL hL o' ho' k c n hn=>?_,λt' x' h1 h2 h3 h4=>?_,λt' x' h1 h2 h3 h4=>?_,pub',λg1 e t' x' h1 h2 h3 h4 h5=>?_,λg1 e o' h1 h2 h3 h4 h5=>?_,λg1 e o' h1 h2 h3 h4=>?_,λτ g1 e o' h1 h2 h3 h4=>?_⟩
  ·dsimp only;rw[p9,OT,<-mi.ops];exact yk _ _ (by rw[gj,hx];rfl)
  ·dsimp only;rw[OQ];exact ms.Dt
  ·dsimp only;rw[HF kp];exact mi.Kw L hL o' ho' k c n hn
  ·
   dsimp only at h1 ⊢;by_cases q:t=t'
   ·subst q;have gx:(s.2.1.set t (Wor.jj x r.2.1))[t]?=some (Wor.jj x r.2.1):=gu hl;rw[gx]at h1;cases h1
    have nd:r.2.1.done=false:=by
     cases z:r.2.1.done with
     |false=>rfl
     |true=>rw[Wor.vq z]at h2;cases h2
    rw[BS nd]at h3 h4 ⊢;dsimp only at h3 h4 ⊢;obtain⟨g1,a1,a2⟩:=req (by rw[<-no,<-nc.op];exact h3) h4;exact⟨g1,a1,a2.keep kp⟩
   ·rw[gV q]at h1;obtain⟨g1,a1,a2⟩:=mi.run t' x' h1 h2 h3 h4;have g1l:g1<s.2.2.length:=by obtain⟨e1,b1,_⟩:=a1;exact(dY.1 b1).1
    refine⟨g1,kb a1 (λz _=>absurd (ethE.symm.trans z) aw),?_⟩;rw[tk (sZ g1l)];exact a2.keep kp
  ·
   dsimp only at h1 ⊢;by_cases q:t=t'
   ·subst q;have gx:(s.2.1.set t (Wor.jj x r.2.1))[t]?=some (Wor.jj x r.2.1):=gu hl;rw[gx]at h1;cases h1
    have nd:r.2.1.done=false:=by
     cases z:r.2.1.done with
     |false=>rfl
     |true=>rw[Wor.vq z]at h2;cases h2
    rw[BS nd]at h3 h4 ⊢;dsimp only at h3 h4 ⊢;have k3:o.kind=3:=by rw[<-no,<-nc.op];exact h3
    rcases ms.sw k3 with a|⟨_,a,_⟩|⟨_,a1,a2,a3,_⟩
    ·obtain⟨_,_,b3,b4,_,_,b7⟩:=ms.oF a;exact⟨s.2.2.length,E,Cy (epE.trans b3) ethE eopE,vv _ _,pE.2 a,by rw[evE,b7]⟩
    ·rw[nd]at a;cases a
    ·obtain⟨g1,e,c1,c2,c3,c4⟩:=swG k3 a1;exact⟨g1,e,kb c1 (λ_ _=>epE.trans a2),yA _ c2,c3,by rw[c4,(a3 nd).2]⟩
   ·rw[gV q]at h1;obtain⟨g1,e,c1,c2,c3,c4⟩:=mi.swp t' x' h1 h2 h3 h4;exact⟨g1,e,kb c1 (λz _=>absurd (ethE.symm.trans z) aw),yA _ c2,c3,c4⟩
  ·
   dsimp only at h1 h4;by_cases q:t=t'
   ·subst q;have gx:(s.2.1.set t (Wor.jj x r.2.1))[t]?=some (Wor.jj x r.2.1):=gu hl;rw[gx]at h4;cases h4
    cases hd:r.2.1.done with
    |true=>
     rw[Wor.vq hd]at h5;dsimp only at h5;obtain⟨t',x',z1,z2,_,z4⟩:=tr'.th e (gh h1);have:t'=t:=aw
     subst this;dsimp only at z2;rw[gx]at z2;cases z2
     rw[Wor.vq hd]at z4;dsimp only at z4;rcases z4 with z4|⟨_,z4⟩
     ·omega
     ·cases z4
    |false=>
     rw[BS hd]at h5 ⊢;dsimp only at h5 ⊢;refine⟨rfl,?_⟩;rcases vT h1 with⟨l1,h1⟩|⟨_,rfl⟩
     ·obtain⟨z1,z2⟩:=mi.G6 g1 e t x h1 h2 h3 hx h5;obtain⟨_,o',a2,a3,_,_⟩:=mi.oF g1 e h1 h2;have:=oth e h3 h5;rw[a2]at this;obtain rfl:=gm this;have en2:jF x t o'=x.m:=by unfold jF;rw[z1];rfl
      rcases ms.sw a3 with a|⟨_,a,_⟩|⟨_,a1,a2,a3,_⟩
      ·have:=(ms.oF a).2.2.2.2.2.1;omega
      ·rw[hd]at a;cases a
      ·exact(a3 hd).1
     ·have:=(ms.oF (pE.1 h2)).2.2.2.2.2.1;omega
   ·rw[gV q]at h4;rcases vT h1 with⟨l1,h1⟩|⟨_,rfl⟩
    ·exact mi.G6 g1 e t' x' h1 h2 h3 h4 h5
    ·exact absurd (ethE.symm.trans h3) aw
  ·
   rcases vT h1 with⟨l1,h1⟩|⟨rfl,rfl⟩
   ·exact kb (mi.Ks g1 e o' h1 h2 h3 h4 h5) λq1 q2=>absurd ⟨q1.symm.trans ethE,q2.symm.trans eopE⟩ (old e (gh h1) h4)
   ·rw[ox]at h2;cases h2
    obtain⟨a1,a2|⟨a2,_⟩⟩:=ms.dr h3
    ·exact Cy (epE.trans a2.2) O O
    ·rw[eaE,tl.2.1 a1]at h5;omega
  ·
   rcases vT h1 with⟨l1,h1⟩|⟨rfl,rfl⟩
   ·exact mi.KB g1 e o' h1 h2 h3 h4
   ·rw[ox]at h3;cases h3
    rcases ms.sw h4 with a|⟨_,a,_⟩|⟨_,_,a,_⟩
    ·exact .inl (pE.2 a)
    ·exact .inr (by rw[edE,tl.1];exact a)
    ·rw[epE,a]at h2;cases h2
  ·
   rcases vT h1 with⟨l1,h1⟩|⟨rfl,rfl⟩
   ·rcases N4 h4 with⟨_,_,q1,q2⟩|⟨a1,a2,_⟩
    ·exact absurd ⟨q1.symm.trans ethE,q2.symm.trans eopE⟩ (old e (gh h1) h2)
    ·have:=mi.fin τ g1 e o' h1 h2 h3 a2;rw[tk (sZ a1),tk aw];exact dF
   ·rw[ox]at h3;cases h3
    have dn:r.2.1.done=true:=by rw[<-tl.1,<-edE];exact h2
    have ea:e.answer=r.2.1.answer:=by rw[eaE];exact tl.2.1 dn
    rw[ethE,eopE]at h4
    have ge:∃eg,(s.2.2++[e])[g1]?=some eg/\iC T eg=some o/\eg.zf=(t:Int)/\eg.op=x.done:=by
     obtain⟨eg,b1,_,b3,b4,_⟩:=h4;exact⟨eg,b1,oth eg b3 b4,b3,b4⟩
    obtain⟨eg,b1,b2,b3,b4⟩:=ge;rw[Eh b1,ea];by_cases k1:o.kind=1
    ·rw[vE b2 (λz=>by omega) (λz=>by omega)]
     have hh:zZ s.1 (jF x t o) v g en=some r:=by
      rcases Jb su hst with⟨_,h⟩|⟨k,_⟩|⟨k,_⟩|⟨k,_⟩|⟨k,_⟩|⟨k,_⟩
      ·exact h
      all_goals (rw[no]at k;omega)
     obtain⟨c1,c2⟩:=Wq su.done hh dn;obtain⟨g2,d1,d2⟩:=req k1 aw;have:=DA h4 d1;subst this;rcases d2 with⟨z,_⟩|⟨z,_⟩|⟨_,z⟩
     ·omega
     ·omega
     ·rw[nc.op,no]at z;unfold qU;rw[gk k1,z]
    by_cases k3:o.kind=3
    ·rcases ms.sw k3 with a|⟨a0,_,a1,a2,a3⟩|⟨a0,a1,a2,_,a3⟩
     ·have:=(ms.oF a).2.2.2.2.1;rw[dn]at this;cases this
     ·have gl:g1=s.2.2.length:=DA h4 (Cy (epE.trans a3) ethE eopE);subst gl;rw[vv]at b1;obtain rfl:=gm b1;rw[vE b2 (λ_ z=>a0 (pE.1 z)) (λz=>by omega),a2];exact Yt k3 a1
     ·obtain⟨g2,e2,c1,c2,c3,c4⟩:=swG k3 a1;have:=DA h4 (kb c1 (λ_ _=>epE.trans a2));subst this;have g2l:=(dY.1 c2).1;rw[yA _ c2]at b1;obtain rfl:=gm b1;obtain⟨_,o2,d2,d3,d4,d5⟩:=mi.oF g1 e2 c2 c3;rw[b2]at d2;obtain rfl:=gm d2;rw[Ip b2 k3 c3,a3 dn,tk (sZ g2l)];exact Mw k3 d4 O (by show(jF x t o).i=_;rw[<-c4];exact d5)
    by_cases k4:o.kind=4
    ·obtain⟨_,⟨a1,a2⟩|⟨a1,a2⟩⟩:=ms.dr k4
     ·have gl:g1=s.2.2.length:=DA h4 (Cy (epE.trans a2) ethE eopE);subst gl;rw[vv]at b1;obtain rfl:=gm b1;rw[OP b2 k4 h2 (by rw[ea];exact a1)];exact zwx k4 a1
     ·have gl:g1<s.2.2.length:=by
       rcases N4 h4 with⟨_,z,_⟩|⟨z,_⟩
       ·rw[epE,a2]at z;cases z
       ·exact z
      have b1':s.2.2[g1]?=some eg:=by rw[gz gl]at b1;exact b1
      rw[vE b2 (λz=>by omega) (λ_ z=>old eg (gh b1') z.1 ⟨b3,b4⟩)];exact UU k4 a1
    ·rw[vE b2 (λz=>absurd z k3) (λz=>absurd z k4)];exact Yu k1 k3 k4
def PG{N K:Nat}{T:List (List fh)}{m0:fM}{s:Wor.ij}(gi:GI N K s.1 s.2.1)(mi:MI T m0 s)(l:List Int):∀k,k<=l.length->N+k<=100000000->K+k<=1099511627776->MI T m0 (iv s l k)
 |0,_,_,_=>mi
 |k+1,hk,hN,hK=>by
  have ih:=PG gi mi l k aw aw aw;rw[wK (dZ aw)];exact Zb (CZ gi l k aw aw aw) ih _ aw aw
def Nu{out:List eZ}{n x:eZ}(h:x∈out):x∈yS out n:=by
 unfold yS;split
 ·exact h
 ·exact r7 _ h
def VF(out:List eZ)(n:eZ):n∈yS out n:=by
 unfold yS;split
 ·rename_i h;obtain⟨x,hx,e⟩:=pZ.1 h;have:x=n:=by simpa using e
  exact this ▸ hx
 ·exact u4 _ (gN.2 O)
def CH{α:Type}{f:List eZ->α->List eZ}(hf:∀b y x,x∈b->x∈f b y):∀(l:List α) (b:List eZ) (x:eZ),x∈b->x∈l.foldl f b
 |[],_,_,h=>h
 |y::l,b,x,h=>CH hf l (f b y) x (hf b y x h)
def FI{α:Type}{f:List eZ->α->List eZ}(hf:∀b y x,x∈b->x∈f b y){x:eZ}{y:α}(hx:∀b,x∈f b y):∀(l:List α) (b:List eZ),y∈l->x∈l.foldl f b
 |z::l,b,h=>by
  rcases pP.1 h with rfl|h
  ·exact CH hf l _ x (hx b)
  ·exact FI hf hx l _ h
def W4(b:List eZ)(c:fD)(x:eZ)(h:x∈b):x∈kT b c:=CH (λ_ _ _ h=>Nu h) c.zd b x h
def Ns{c:fD}{x:eZ}(h:x∈c.zd)(b:List eZ):x∈kT b c:=FI (f:=yS) (λ_ _ _ h=>Nu h) (λb=>VF b x) c.zd b h
def Ir(b:List eZ)(o:fh)(x:eZ)(h:x∈b):x∈iT b o:=by
 unfold iT;split
 ·exact W4 b _ x h
 ·exact h
def SZ{s:fy}{n:eZ}(h:n∈s.first.zd):n∈xr s:=CH (λb L x h=>CH Ir L b x h) s.threads _ n (Ns h [])
def T7{s:fy}{L:List fh}(hL:L∈s.threads){o:fh}(ho:o∈L)(hk:o.kind=3)(hc:(qg o.config).1=0){n:eZ}(h:n∈o.config.zd):n∈xr s:=by
 refine FI (λb L x h=>CH Ir L b x h) (λb=>?_) s.threads _ hL;refine FI Ir (λb=>?_) L b ho;unfold iT BH km;rw[gk (by simp[hk,hc])];exact Ns h b
def NR{l:List eZ}{n:eZ}(h:n∈l):0<=zx (l.map yX) n:=by
 unfold zx;cases q:(l.map yX).findIdx? (λr=>r.name == n) with
 |none=>
  rw[gP]at q;have:=q (yX n) (gZ.2 ⟨n,h,rfl⟩);simp[yX]at this
 |some i=>exact sN i
def Wl{s:Sna}{l:List eZ}{n:Int}{w:Wor}(h:i7 s l n=(w,0)):yY s=true/\w.current=0/\w.ze=[(qD s).1]/\w.zd=l.map yX:=by
 unfold i7 at h;split at h
 ·have:=rz Prod.snd h;exact absurd (show(1:Int)=0 from this) ar
 ·rename_i q;have hw:_=w:=rz Prod.fst h;rw[<-hw];refine⟨?_,rfl,rfl,rfl⟩;cases z:yY s with
  |true=>rfl
  |false=>exact(q (.inl z)).elim
def XT{s:fy}(hb:(qC s).2=0):MI s.threads (Lin.firstM s.first) (iD s):=by
 obtain⟨q,hn⟩:=xb hb;obtain⟨p1,_,_,_,_,_⟩:=xI q;have hc:(qg s.first).1=0:=by simpa [km] using p1
 obtain⟨n1,n2,n3,n4⟩:=Wl hn
 have off:∀(t:Nat) (x:fp),(iD s).2.1[t]?=some x->x.on=false:=λt x h1=>by
  obtain⟨L,_,rfl⟩:=gT.1 ((gj ..).symm.trans (show(s.threads.map iP)[t]?=some x from h1))
  rfl
 have n3:(iD s).1.ze=[(qD (zT s.first).1).1]:=n3;have n4:(iD s).1.zd=(xr s).map yX:=n4;have n2:(iD s).1.current=0:=n2
 have sn:(qD (zT s.first).1).1.snap=(zT s.first).1:=by
  unfold qD;rw[gk n1]
 have bl:(zT s.first).1.zd=s.first.zd:=by
  unfold zT;rw[gf aw]
 refine⟨IE _ _,?_,λe he=>(by cases he),⟨?_,?_,λn=>?_,λv hv n h=>?_⟩,λL hL o ho k c n h=>?_,λt x h1 h2=>?_,λt x h1 h2=>?_,λg e h1=>(by cases h1),λg e t x h1=>(by cases h1),λg e o h1=>(by cases h1),λg e o h1=>(by cases h1),λτ g e o h1=>(by cases h1)⟩
 ·show(s.threads.map iP).map (·.ops)=s.threads;rw[rQ];exact List.map_id _
 ·exact n2.symm
 ·rw[n3,List.map_singleton,sn]
  rfl
 ·refine⟨λz=>(by cases z),λz=>?_⟩;obtain⟨_,l,h1,h2⟩:=z;rw[n4,gj]at h1;obtain⟨y,_,rfl⟩:=gT.1 h1;cases h2
 ·rw[n3,gN]at hv;subst hv;rw[sn,bl]at h;rw[n4];exact NR (SZ h)
 ·rw[n4];exact NR (T7 hL ho k c h)
 ·rw[off t x h1]at h2;cases h2
 ·rw[off t x h1]at h2;cases h2
def IQ{cs:List Cal}:∀(k x:Nat),x<k->Srt.fm cs x≠ -1->(x:Int)∈Srt.idx cs k
 |k+1,x,h,hp=>by
  simp only[Srt.idx];by_cases q:x=k
  ·subst q;rw[gf hp];exact u4 _ (gN.2 O)
  ·have:=IQ k x aw hp;split
   ·exact dF
   ·exact r7 _ this
def J0{cs:List Cal}{i:Nat}{c:Cal}(h:cs[i]?=some c):Srt.fm cs (i:Int)=c.zI:=by
 unfold Srt.fm;rw[toNat_cast,h]
 rfl
def LY{l:List eV}{c:Cal}(P:Cal.Pt l l.length c)(h:0<=c.zI):xY l c.zf c.op c.zI.toNat:=by
 obtain⟨e,a1,a2,a3,a4,a5,_⟩:=P.pt h;exact⟨e,a1,a2,a3,a4,λj e' hj hj2 q1 q2=>P.last j e' aw (dY.1 hj2).1 hj2 q1 q2⟩
def Vk{l:List eV}{c:Cal}{j:Nat}(P:Cal.Pt l l.length c)(h:xY l c.zf c.op j):c.zI=j:=by
 obtain⟨e,a1,a2,a3,a4,a5⟩:=h;have jl:=(dY.1 a1).1
 have h0:0<=c.zI:=by
  rcases P.m1 with q|q
  ·have:=P.last j e aw jl a1 a3 a4;rw[a2]at this;cases this
  ·exact q
 have:=DA (LY P h0) ⟨e,a1,a2,a3,a4,a5⟩;omega
def N0{s:fy}{l:List eV}{cs:List Cal}{m0:fM}{w:Wor}{X:List fp}(P:Cal.BM l l.length cs)(mi:MI s.threads m0 (w,X,l))(lk:∀c∈cs,Cal.Gw l c)(nf:∀c∈cs,Lin.xc s c=false)(ev:∀e∈l,∃o,iC s.threads e=some o):
  ∀(is:List Int) (p:Nat) (n:Int),is.Nodup->is.Pairwise (Srt.Le (Srt.fm cs))->(∀i∈is,0<=i/\∃c,cs[i.toNat]?=some c/\(p:Int)<=c.zI)->(∀(k:Nat) (c:Cal),cs[k]?=some c->(p:Int)<=c.zI->(k:Int)∈is)->∃n',Lin.iI s l cs is (kc s.threads m0 (l.take p)) n=(n',true)/\n<=n'/\n'<=n+is.length
 |[],p,n,_,_,_,_=>⟨n,rfl,gR _,aj⟩
 |i::is,p,n,fV,hpw,hin,hcv=>by
  obtain⟨i0,c,hc,hp⟩:=hin i (pW ..);have cm:=gh hc;have Pc:=P.all c cm;obtain⟨g,hg⟩:∃g:Nat,c.zI=(g:Int):=⟨c.zI.toNat,aw⟩;have ig:((i.toNat:Nat):Int)=i:=aw
  have lp:=LY Pc aw;rw[hg,toNat_cast]at lp;obtain⟨eg,a1,a2,a3,a4,a5,a6⟩:=Pc.pt aw;rw[hg,toNat_cast]at a1;have gl:=(dY.1 a1).1;have pg:p<=g:=aw
  have hpwi:=rm.1 hpw;have hndi:=List.nodup_cons.1 fV;have ptI:∀{k:Nat} {d:Cal},cs[k]?=some d->Srt.fm cs (k:Int)=d.zI:=λh=>J0 h
  have least:∀(k:Nat) (d:Cal),cs[k]?=some d->(p:Int)<=d.zI->(g:Int)<=d.zI:=λk d hk hd=>by
   rcases pP.1 (hcv k d hk hd) with q|q
   ·have:k=i.toNat:=by omega
    subst this;rw[hc]at hk;cases hk
    omega
   ·have:=hpwi.1 _ q;unfold Srt.Le at this;rw[<-ig,ptI hc,ptI hk]at this;omega
  have still:∀k,p<=k->k<=g->kc s.threads m0 (l.take k)=kc s.threads m0 (l.take p):=λk=>by
   induction k with
   |zero=>intro h1 _;rw[show p=0 from by omega]
   |succ k ih=>
    intro h1 h2;by_cases q:p=k+1
    ·rw[q]
    ·have kl:k<l.length:=by omega
     have hk:=dZ kl;obtain⟨o',ho'⟩:=ev _ (gW kl);rw[Eh hk,<-ih aw aw]
     have no:¬xY l (l[k]).zf (l[k]).op k:=λz=>by
      obtain⟨d,hd,d1,d2⟩:=P.ng k _ kl hk;obtain⟨kk,hkk⟩:=gQ.1 hd;have:=Vk (P.all d hd) (by rw[d1,d2];exact z);have:=least kk d hkk aw;omega
     refine vE ho' (λ_ z=>no (mi.oF k _ hk z).1) (λk4 z=>no (mi.Ks k _ o' hk ho' k4 z.1 z.2))
  have M1:=still g pg (gD _);obtain⟨ops,o,o1,o2,o3,o4,o5⟩:=Lin.OS (nf c cm)
  have oe:∀e:eV,e.zf=c.zf->e.op=c.op->iC s.threads e=some o:=λe h1 h2=>by
   unfold iC;rw[h1,h2];exact o5
  have og:=oe eg a3 a4
  have next:∀(n2:Int),∃n',Lin.iI s l cs is (kc s.threads m0 (l.take (g+1))) n2=(n',true)/\n2<=n'/\n'<=n2+is.length:=λn2=>by
   refine N0 P mi lk nf ev is (g+1) n2 hndi.2 hpwi.2 (λj hj=>?_) (λk d hk hd=>?_)
   ·obtain⟨j0,d,hd,hd2⟩:=hin j (pT _ hj);refine⟨j0,d,hd,?_⟩;have ge:=least _ d hd hd2;by_cases q:d.zI=(g:Int)
    ·exfalso
     obtain⟨e',b1,_,b3,b4,_⟩:=(P.all d (gh hd)).pt aw;rw[q,toNat_cast,a1]at b1;obtain rfl:=gm b1;have:=P.nd _ _ c d hc hd (a3.symm.trans b3) (a4.symm.trans b4);have:i=j:=aw
     exact hndi.1 (this ▸ hj)
    ·omega
   ·rcases pP.1 (hcv k d hk aw) with q|q
    ·have:k=i.toNat:=by omega
     subst this;rw[hc]at hk;cases hk
     omega
    ·exact q
  unfold Lin.iI;rw[hc];dsimp only;unfold Lin.yl;rw[o5];dsimp only;rw[<-M1];by_cases hto:0<=c.ic
  ·have ea:Lin.mU l o c=some c.answer:=by unfold Lin.mU;rw[gk hto]
   obtain⟨et,t1,t2,t3,t4,t5⟩:=(lk c cm).ic hto;have f:=mi.fin _ g et o t1 t2 (oe et t3 t4) (by rw[t3,t4];exact lp);rw[t5]at f;have f:qU (kc s.threads m0 (l.take g)) o c.answer=(true,kc s.threads m0 (l.take (g+1))):=f;rw[ea];dsimp only;rw[f];dsimp only;rw[gk O];dsimp only;obtain⟨n',q1,q2,q3⟩:=next (n+1);exact⟨n',by rw[gk O];exact q1,aw,by rw[pC];omega⟩
  ·have nd:¬eg.done=true:=λz=>hto (a6 z)
   by_cases k3:o.kind=3
   ·have pb:vS eg:=by
     rcases mi.KB g eg o a1 a2 og k3 with z|z
     ·exact z
     ·exact absurd z nd
    obtain⟨_,o',b1,b2,b3,b4⟩:=mi.oF g eg a1 pb;rw[og]at b1;obtain rfl:=gm b1
    have ea:Lin.mU l o c=some ⟨8,eg.value,0,0,0,0,0,Lin.B9⟩:=by
     unfold Lin.mU;rw[gf hto,gk k3];unfold Lin.Gq;rw[hg,toNat_cast,a1]
    have f:qU (kc s.threads m0 (l.take g)) o ⟨8,eg.value,0,0,0,0,0,Lin.B9⟩=(true,kc s.threads m0 (l.take (g+1))):=by
     rw[Eh a1,Ip og k3 pb];exact Mw k3 b3 O b4
    rw[ea];dsimp only;rw[f];dsimp only;rw[gk O];dsimp only;obtain⟨n',q1,q2,q3⟩:=next (n+1);exact⟨n',by rw[gk O];exact q1,aw,by rw[pC];omega⟩
   ·have ea:Lin.mU l o c=none:=by
     unfold Lin.mU;rw[gf hto,gf k3]
    have f:kc s.threads m0 (l.take (g+1))=kc s.threads m0 (l.take g):=by
     rw[Eh a1];exact vE og (λz=>absurd z k3) (λ_ z=>nd z.1)
    rw[ea];dsimp only;rw[<-f];obtain⟨n',q1,q2,q3⟩:=next n;exact⟨n',by rw[gf ar];exact q1,q2,by rw[pC];omega⟩
def Y7{s:fy}(ok:oH s)(h:(qT s).2.2=0):∃n:Int,Lin.chkV s (qT s).1 (Cal.fC (qT s).1)=(n,true)/\0<=n/\n<=(qT s).1.length:=by
 obtain⟨r1,_,_,_,r5⟩:=Xm ok h;have hb:=Iz h;have e1:qT s=((yv s).2.2,(yv s).1,0):=by unfold qT;rw[gk hb]
 obtain⟨q,_⟩:=xb hb;obtain⟨p1,_,_,p4,_,_⟩:=xI q;have hc:(qg s.first).1=0:=by simpa [km] using p1
 have mi:MI s.threads (Lin.firstM s.first) (yv s):=PG (CD ok hb) (XT hb) s.zW s.zW.length (gD _) aw aw;rw[e1]at r1 r5 ⊢;dsimp only at r1 r5 ⊢;have P:=Cal.ZT r1;have ou:=(Su r1).2
 have lk:∀c∈(Cal.fC (yv s).2.2).1,Cal.Gw (yv s).2.2 c:=λc hc=>by
  unfold Cal.fC at r1 hc;cases hbk:Cal.yT (yv s).2.2 (yv s).2.2.length with
  |none=>rw[hbk]at r1;cases r1
  |some b=>
   rw[hbk]at hc;exact Cal.Oz _ hbk c hc
 have ev:∀e∈(yv s).2.2,∃o,iC s.threads e=some o:=λe he=>by
  obtain⟨_,t,L,z1,z2,z3,z4⟩:=r5 e he;unfold iC;rw[z1,toNat_cast,z2];exact⟨_,dZ aw⟩
 have nf:∀c∈(Cal.fC (yv s).2.2).1,Lin.xc s c=false:=λc hc=>by
  obtain⟨⟨_,e,y1,_,y3,y4⟩,_⟩:=lk c hc;obtain⟨_,t,L,z1,z2,z3,z4⟩:=r5 e (gh y1);have tl:=(dY.1 z2).1;unfold Lin.xc;have z2':s.threads[c.zf.toNat]?=some L:=by rw[<-y3,z1,toNat_cast];exact z2
  rw[z2'];simp only[pD,pn];omega
 generalize Cal.fC (yv s).2.2=oc at *;obtain⟨cs,f⟩:=oc;dsimp only at *
 have mem:∀i∈Srt.ordV cs,0<=i/\∃c,cs[i.toNat]?=some c/\((0:Nat):Int)<=c.zI:=λi hi=>by
  obtain⟨x0,x1,x2⟩:=Srt.CU ((Srt.yp cs).mem_iff.1 hi);have il:i.toNat<cs.length:=aw
  have hci:=dZ il;refine⟨x0,_,hci,?_⟩;have e:Srt.fm cs ((i.toNat:Nat):Int)=(cs[i.toNat]).zI:=J0 hci;have ig:((i.toNat:Nat):Int)=i:=aw
  rw[ig]at e;rcases(P.all _ (gW il)).m1 with z|z <;> omega
 have nd:(Srt.ordV cs).Nodup:=by
  refine((Srt.yp cs).nodup_iff).2 ?_;exact(Srt.FY (cs:=cs) cs.length).imp λh=>by omega
 have cv:∀(k:Nat) (c:Cal),cs[k]?=some c->((0:Nat):Int)<=c.zI->(k:Int)∈Srt.ordV cs:=λk c hk h0=>by
  refine(Srt.yp cs).mem_iff.2 (IQ cs.length k (dY.1 hk).1 ?_);rw[J0 hk];omega
 obtain⟨n',q1,q2,q3⟩:=N0 (w:=(yv s).1) (X:=(yv s).2.1) P mi lk nf ev (Srt.ordV cs) 0 0 nd (Srt.OU cs) mem cv;refine⟨n',?_,q2,?_⟩
 ·unfold Lin.chkV;rw[gf]
  ·exact q1
  ·rintro(z|z|z)
   ·exact z r1
   ·rw[vU]at z;exact z hc
   ·obtain⟨c,hc,z⟩:=pZ.1 z;rw[nf c hc]at z;cases z
 ·have h1:=(Srt.yp cs).length_eq;have h2:=Srt.D1 (cs:=cs) cs.length;omega
end Go.Run
namespace Go.Run
open Go.Ab Go.Proofs Tryz Go.Gat Go.Nam Go.Hos Go.Con Go.Sna Go.Pla Go.Ply Go.Wor
open Go.Hy hiding encI
def La{c:fD}(h:iU c=false):∀x∈c.zk,x.zJ.length<1000000000000:=λx hx=>by
 unfold iU at h;simp only[pD,pn,tu]at h;obtain⟨⟨⟨⟨h1,h2⟩,h3⟩,h4⟩,h5⟩:=h;have q:=pd.1 h4 x hx;unfold nX at q;simp only[p8,gM,not_or,tu]at q;omega
def V9{s:fy}(h:mI s=false)(ok:s.nI):Lin.Ia s:=by
 obtain⟨h1,h2,h3,h4⟩:=M3 h;have w:=JF ok;refine⟨wJ h1 ok.1,La h1,aw,λops hops=>⟨by have:=(h4 ops hops).1;omega,λo ho=>?_⟩⟩;have a:=(h4 ops hops).2 o ho;have b:=(ok.2.1.1 ops hops).1 o ho;exact⟨⟨aw,aw,wJ a.1 b.1.2.2.2⟩,La a.1⟩
def linearPlays_sound(s:fy)(hs:s.nI):tn 3 [] [.agg (kV s)] (Bo true) []:=by
 have m1:(s.zW.map Go.Hy.encI).length=s.zW.length:=gp ..;refine ab func3 ?_;refine ah (TE s (JF hs)) ?_;refine⟨λh0=>?_,λh0=>?_⟩
 ·refine dd ?_;refine tc ?_
  exact uI
 have ok:=zxT h0 hs;refine dd ?_;rw[m1];refine⟨λh1=>?_,λh1=>?_⟩
 ·refine dd ?_;refine tc ?_
  exact uI
 refine dd ?_;have bl:=YI ok;refine ah (HG s ok) ?_;have key:=Y7 ok;have nokey:=NO (s:=s);have chk:=Lin.check_sound s (qT s).1 (V9 h0 hs) aw;generalize Lin.chkV s (qT s).1 (Cal.fC (qT s).1)=cv at *;generalize qT s=p at *;obtain⟨l,w,e⟩:=p;dsimp only at *;have ml:(l.map j3).length=l.length:=gp ..;refine⟨λh3=>?_,λh3=>?_⟩
 ·have e0:e≠0:=by simpa using h3
  obtain⟨rfl,_⟩:=nokey e0;refine dd ?_;refine ah Lin.LN ?_;refine tc ?_
  exact uI
 have e0:e=0:=aq h3
 subst e0;obtain⟨n,k1,k2,k3⟩:=key O;subst k1;dsimp only at chk;refine dd ?_;refine ah chk ?_;refine tc ?_
 refine ah Lin.LN ?_;refine tc ?_
 rw[ml];refine⟨λ_=>dd ?_,λh=>absurd h aA⟩;exact uI
end Go.Run
