import Derived.Test.YtamgiodaflkbhaaGreatTK
import Derived.Test.YtamgiodaflkbhaaGreatTZ
import Derived.Test.YtamgiodaflkbhaaGreatT1
set_option linter.all false
set_option maxRecDepth 100000
set_option maxHeartbeats 4000000
namespace Go.Wor
open Go.Ab Go.Proofs Tryz Go.Hy Go.Gat Go.Nam Go.Hos Go.Con Go.Sna
variable{α:Type}{E:Int}
def Ez(f:α->α)(l:List α)(i:Nat):List α:=(l.take i).map f++l.drop i
def Vz(f:α->α)(l:List α):Ez f l l.length=l.map f:=by simp[Ez]
def G7(w:Wor)(p:Int):Bool:=p == 0 || p == w.zr+1
def mz(w:Wor):Int:=if w.pins.all (G7 w)=true/\w.zr<1000000000000 then w.zr+1 else w.zr
def WU(v:eX):Bool:=(jb v).all λe=>e.zo == 0
def Gi(w:Wor)(i:Int):Bool:=match w.zd[i.toNat]? with
 |some v=>WU v
 |none=>false
def ML(w:Wor)(r:fg):Bool:=!r.gone && Go.Lim.vC r.at_ (mz w) && Gi w r.version
def B5(w:Wor)(r:fg):fg:=if ML w r=true then mM r else r
def Ma(l:fj):fj:=if (l.drain && !l.closed && l.zo == 0)=true then Ao l else l
def Hw(w:Wor):Wor:=⟨mz w,w.current,0,w.pins,w.zd.mapIdx (λk v=>{v with qF:=yK (w.zn.map (B5 w)) k}),w.zc.map Ma,w.counts,w.zn.map (B5 w)⟩
def qR(w:Wor)(r:fg):Nat:=match w.zd[r.version.toNat]? with
 |some v=>2+(jb v).length
 |none=>2
def AV(w:Wor)(i:Nat):Nat:=((w.zn.drop i).map (qR w)).sum
structure lH(w0 w:Wor)(E:Int)(i j:Nat):Prop where
 zr:w.zr=E
 current:w.current=w0.current
 lock:w.lock=1
 pins:w.pins=w0.pins
 counts:w.counts=w0.counts
 iO:w.zd.map (λv=>(v.snap,v.zg))=w0.zd.map λv=>(v.snap,v.zg)
 zn:w.zn=Ez (B5 w0) w0.zn i
 fT:w.zc=Ez Ma w0.zc j
theorem lH.at_{w0 w:Wor}{i j:Nat}(b:lH w0 w E i j){k:Nat}{v:eX}(h:w.zd[k]?=some v):∃v0,w0.zd[k]?=some v0/\v.snap=v0.snap/\v.zg=v0.zg:=by
 have:=r6 (λl=>l[k]?) b.iO
 grind
theorem lH.ends{w0 w:Wor}{i j:Nat}(b:lH w0 w E i j){k:Nat}{v v0:eX}(h:w.zd[k]?=some v)(h0:w0.zd[k]?=some v0):jb v=jb v0:=by
 obtain⟨v1,h1,_,h2⟩:=b.at_ h
 grind [jb]
theorem lH.fin{w0 w:Wor}(b:lH w0 w (mz w0) w0.zn.length w0.zc.length)(g:jX {w with lock:=0}):{w with lock:=0}=Hw w0:=by
 obtain⟨ep,cu,lo,pi,ve,li,co,lm⟩:=w;obtain⟨b1,b2,b3,b4,b5,b6,b7,b8⟩:=b;dsimp only at b1 b2 b3 b4 b5 b6 b7 b8;rw[Vz]at b7 b8;subst b1 b2 b4 b5 b7 b8;unfold Hw
 have:ve=w0.zd.mapIdx (λk v=>{v with qF:=yK (w0.zn.map (B5 w0)) k}):=by
  apply rh
  intro k;rw[rb];have hk:=r6 (λl=>l[k]?) b6;simp only[gM]at hk;cases hv:ve[k]? with
  |none=>
   grind
  |some v=>
   rw[hv]at hk;cases hv0:w0.zd[k]? with
   |none=>rw[hv0]at hk;cases hk
   |some v0=>
    rw[hv0]at hk;have hk:=Prod.mk.inj (rC hk);have hf:v.qF=yK (w0.zn.map (B5 w0)) k:=(g.il k v hv).2;obtain⟨s,gr,fr⟩:=v
    grind
 rw[this]
inductive J(w0:Wor):Wor->eQ->Nat->Prop
 |p0 {m:eQ} (h:m.pc=0):J w0 w0 m (4+w0.pins.length+AV w0 0+3*w0.zc.length)
 |p1 {w:Wor} {m:eQ} (h:m.pc=1) (b:lH w0 w w0.zr 0 0):J w0 w m (3+w0.pins.length+AV w0 0+3*w0.zc.length)
 |p2 {w:Wor} {m:eQ} (i:Nat) (h:m.pc=2) (hi:m.i=i) (he:m.zr=w0.zr) (hl:i<w0.pins.length) (hp:∀j p,j<i->w0.pins[j]?=some p->G7 w0 p=true) (b:lH w0 w w0.zr 0 0):J w0 w m (2+(w0.pins.length-i)+AV w0 0+3*w0.zc.length)
 |p3 {w:Wor} {m:eQ} (h:m.pc=3) (he:m.zr=w0.zr) (hp:w0.pins.all (G7 w0)=true) (b:lH w0 w w0.zr 0 0):J w0 w m (2+AV w0 0+3*w0.zc.length)
 |p4 {w:Wor} {m:eQ} (i:Nat) (h:m.pc=4) (hi:m.i=i) (hl:i<=w0.zn.length) (he:m.zr=mz w0) (b:lH w0 w (mz w0) i 0):J w0 w m (1+AV w0 i+3*w0.zc.length)
 |p5 {w:Wor} {m:eQ} (i k:Nat) (r:fg) (v:eX) (h:m.pc=5) (hi:m.i=i) (hk:m.k=k) (he:m.zr=mz w0) (hr:w0.zn[i]?=some r) (hm:m.version=r.version) (hg:r.gone=false) (hs:Go.Lim.vC r.at_ (mz w0)=true) (hv:w0.zd[r.version.toNat]?=some v) (hl:k<(jb v).length)
   (hz:∀j e,j<k->(jb v)[j]?=some e->e.zo=0) (b:lH w0 w (mz w0) i 0):J w0 w m ((jb v).length-k+2+AV w0 (i+1)+3*w0.zc.length)
 |p6 {w:Wor} {m:eQ} (i:Nat) (r:fg) (h:m.pc=6) (hi:m.i=i) (he:m.zr=mz w0) (hr:w0.zn[i]?=some r) (hm:m.version=r.version) (hd:ML w0 r=true) (b:lH w0 w (mz w0) i 0):J w0 w m (2+AV w0 (i+1)+3*w0.zc.length)
 |p8 {w:Wor} {m:eQ} (i:Nat) (h:m.pc=8) (hi:m.i=i) (hl:i<=w0.zc.length) (b:lH w0 w (mz w0) w0.zn.length i):J w0 w m (1+3*(w0.zc.length-i))
 |p9 {w:Wor} {m:eQ} (i:Nat) (l:fj) (h:m.pc=9) (hi:m.i=i) (hl:w0.zc[i]?=some l) (hd:l.drain=true) (hc:l.closed=false) (b:lH w0 w (mz w0) w0.zn.length i):J w0 w m (3*(w0.zc.length-i))
 |ir {w:Wor} {m:eQ} (i:Nat) (l:fj) (h:m.pc=10) (hi:m.i=i) (hl:w0.zc[i]?=some l) (hd:l.drain=true) (hc:l.closed=false) (ha:l.zo=0) (b:lH w0 w (mz w0) w0.zn.length i):J w0 w m (3*(w0.zc.length-i)-1)
def Ne(w0:Wor)(n:Nat)(r:Wor×eQ×e7):Prop:=(r.2.1.done=true/\r.1=Hw w0/\1<=n)\/∃n',n'<n/\r.2.1.done=false/\J w0 r.1 r.2.1 n'
end Go.Wor
namespace Go.Wor
open Go.Ab Go.Proofs Tryz Go.Gat Go.Nam Go.Hos Go.Con Go.Sna Go.Pla
open Go.Hy hiding encI
structure EH(w:Wor):Prop where
 lock:w.lock=0
 pins:∀p∈w.pins,p=0
 ends : ∀v∈w.zd, ∀e∈jb v, e.zo = 0
 fT:∀l∈w.zc,l.zo=0
structure X4(w:Wor):Prop extends EH w where
 gone:∀r∈w.zn,r.gone=true
 shut:∀l∈w.zc,l.drain=true->l.closed=true
def EH.still{w:Wor}(h:EH w){r:fg}(hr:0<=r.version/\r.version<w.zd.length):Gi w r.version=true:=by
 unfold Gi;rw[gL an];exact gV.2 λe he=>by simp[h.ends _ (pH an) e he]
end Go.Wor
namespace Go.Wor
open Go.Ab Go.Proofs Tryz Go.Gat Go.Nam Go.Hos Go.Con Go.Sna Go.Pla Go.Dep
open Go.Hy hiding encI
structure X6(w:Wor):Prop where
 zd:w.zd.length<4000000000000000000
 zg:∀v∈w.zd,v.zg.length<4000000000000000000/\∀g∈v.zg,g.ends.length<4000000000000000000
 pins:w.pins.length<4000000000000000000
 zc:w.zc.length<4000000000000000000
 zn:w.zn.length<4000000000000000000
end Go.Wor
namespace Go.Wor
open Go.Ab Go.Proofs Tryz Go.Gat Go.Nam Go.Hos Go.Con Go.Sna Go.Pla
open Go.Hy hiding encI
variable{α:Type}
theorem Xj(f:α->Nat)(l:List α){k:Nat}(h:k<l.length):((l.take (k+1)).map f).sum=((l.take k).map f).sum+f l[k]:=by
 grind [List.take_succ_eq_append_getElem]
theorem MK{α:Type}(f:α->Nat)(b:Nat):∀(l:List α),(∀x∈l,f x<=b)->(l.map f).sum<=l.length*b
 |[],_=>by simp
 |x::l,h=>by
  have:=MK f b l λy hy=>h y (rE _ hy)
  grind [List.mem_cons_self,List.length_cons,Nat.add_mul]
def Mn(f:α->Nat)(b:Nat)(l:List α)(h:∀x∈l,f x<=b)(k:Nat):((l.take k).map f).sum<=l.length*b:=
 ru (MK f b _ λx hx=>h x (gU hx)) (pQ _ (by rw[tj];omega))
structure X8(w:Wor):Prop where
 pins:w.pins.length<=1000
 zc:w.zc.length<=1000
 zn:w.zn.length<=1000
 iO:w.zd.length<=1000/\∀v∈w.zd,mR v
def Fe(v:eX)(h:mR v):th 155 [] [Cv v] (I (jb v).length) []:=by
 have m1:(v.zg.map zy).length=v.zg.length:=gO ..;have b1:=h.zg;refine ab func155 ?_;refine zH.seq v.zg.length (λk=>(.za::.ref 0 [] 5 0 0::I 0::I (((v.zg.take k).map λg=>g.ends.length).sum:Nat)::I k::mK (mK ([.za])))) (λk=>[⟨1,106,5,[zt v],0⟩]) (λk=>True) ?_ trivial (λk hk _=>?_) (λ_=>?_)
 .exact cC
 .obtain⟨x,hx⟩:∃x,x=v.zg[k]:=⟨_,rfl⟩;have hg:(v.zg.map zy)[k]?=some (zy x):=by rw[gM,gL hk,hx];rfl
  have m2:(x.ends.map zu).length=x.ends.length:=gO ..;have sk:=Xj (λg:Gr=>g.ends.length) v.zg hk;rw[<-hx]at sk;have sb:=Mn (λg:Gr=>g.ends.length) 1000 v.zg (λg hg=>h.ends g hg) k;have sc:=Mn (λg:Gr=>g.ends.length) 1000 v.zg (λg hg=>h.ends g hg) (k+1);conv=>whnf
  rw[m1];refine zay ?_
  rw[m2]
  have e2:IntKind.i64.wrap (((((v.zg.take k).map λg=>g.ends.length).sum:Nat):Int)+(x.ends.length:Int))=((((v.zg.take (k+1)).map λg=>g.ends.length).sum:Nat):Int):=by
   rw[jB an an];omega
  rw[e2,zm an];refine zai ?_;exact cE 1
 .have e:((v.zg.take v.zg.length).map λg=>g.ends.length).sum=(jb v).length:=by
   rw[px];unfold jb;rw[List.length_flatMap]
  conv=>whnf
  rw[m1];refine zaf ?_;exact dY
end Go.Wor
namespace Go.Wor
open Go.Ab Go.Proofs Tryz Go.Gat Go.Nam Go.Hos Go.Con Go.Sna Go.Pla Go.Dep
open Go.Hy hiding encI
end Go.Wor
