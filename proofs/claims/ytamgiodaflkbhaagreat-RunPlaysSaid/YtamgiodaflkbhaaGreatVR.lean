import Derived.Test.YtamgiodaflkbhaaGreatVK
import Derived.Test.YtamgiodaflkbhaaGreatVZ
import Derived.Test.YtamgiodaflkbhaaGreatV1
set_option linter.all false
set_option maxRecDepth 100000
set_option maxHeartbeats 4000000
namespace Go.Wor
open Go.Ab Go.Proofs Tryz Go.Hy Go.Gat Go.Nam Go.Hos Go.Con Go.Sna
variable{α:Type}{E:Int}
def Fl(f:α->α)(l:List α)(i:Nat):List α:=(l.take i).map f++l.drop i
def V9(f:α->α)(l:List α):Fl f l l.length=l.map f:=by simp[Fl]
def HN(w:Wor)(p:Int):Bool:=p == 0 || p == w.zr+1
def nA(w:Wor):Int:=if w.pins.all (HN w)=true/\w.zr<1000000000000 then w.zr+1 else w.zr
def Xj(v:fC):Bool:=(jf v).all λe=>e.zo == 0
def GV(w:Wor)(i:Int):Bool:=match w.zd[i.toNat]? with
 |some v=>Xj v
 |none=>false
def Nv(w:Wor)(r:fK):Bool:=!r.gone && Go.Lim.vU r.at_ (nA w) && GV w r.version
def CO(w:Wor)(r:fK):fK:=if Nv w r=true then ny r else r
def MO(l:fO):fO:=if (l.drain && !l.closed && l.zo == 0)=true then AZ l else l
def Io(w:Wor):Wor:=⟨nA w,w.current,0,w.pins,w.zd.mapIdx (λk v=>{v with qH:=yY (w.zn.map (CO w)) k}),w.zc.map MO,w.counts,w.zn.map (CO w)⟩
def qR(w:Wor)(r:fK):Nat:=match w.zd[r.version.toNat]? with
 |some v=>2+(jf v).length
 |none=>2
def BM(w:Wor)(i:Nat):Nat:=((w.zn.drop i).map (qR w)).sum
structure mr(w0 w:Wor)(E:Int)(i j:Nat):Prop where
 zr:w.zr=E
 current:w.current=w0.current
 lock:w.lock=1
 pins:w.pins=w0.pins
 counts:w.counts=w0.counts
 lH:w.zd.map (λv=>(v.snap,v.zg))=w0.zd.map λv=>(v.snap,v.zg)
 zn:w.zn=Fl (CO w0) w0.zn i
 iB:w.zc=Fl MO w0.zc j
theorem mr.at_{w0 w:Wor}{i j:Nat}(b:mr w0 w E i j){k:Nat}{v:fC}(h:w.zd[k]?=some v):∃v0,w0.zd[k]?=some v0/\v.snap=v0.snap/\v.zg=v0.zg:=by
 have:=sH (λl=>l[k]?) b.lH
 grind
theorem mr.ends{w0 w:Wor}{i j:Nat}(b:mr w0 w E i j){k:Nat}{v v0:fC}(h:w.zd[k]?=some v)(h0:w0.zd[k]?=some v0):jf v=jf v0:=by
 obtain⟨v1,h1,_,h2⟩:=b.at_ h
 grind [jf]
theorem mr.fin{w0 w:Wor}(b:mr w0 w (nA w0) w0.zn.length w0.zc.length)(g:j8 {w with lock:=0}):{w with lock:=0}=Io w0:=by
 obtain⟨ep,cu,lo,pi,ve,li,co,lm⟩:=w;obtain⟨b1,b2,b3,b4,b5,b6,b7,b8⟩:=b;dsimp only at b1 b2 b3 b4 b5 b6 b7 b8;rw[V9]at b7 b8;subst b1 b2 b4 b5 b7 b8;unfold Io
 have:ve=w0.zd.mapIdx (λk v=>{v with qH:=yY (w0.zn.map (CO w0)) k}):=by
  apply rL
  intro k;rw[rK];have hk:=sH (λl=>l[k]?) b6;simp only[pw]at hk;cases hv:ve[k]? with
  |none=>
   grind
  |some v=>
   rw[hv]at hk;cases hv0:w0.zd[k]? with
   |none=>rw[hv0]at hk;cases hk
   |some v0=>
    rw[hv0]at hk;have hk:=Prod.mk.inj (rV hk);have hf:v.qH=yY (w0.zn.map (CO w0)) k:=(g.iP k v hv).2;obtain⟨s,gr,fr⟩:=v
    grind
 rw[this]
inductive J(w0:Wor):Wor->fx->Nat->Prop
 |p0 {m:fx} (h:m.pc=0):J w0 w0 m (4+w0.pins.length+BM w0 0+3*w0.zc.length)
 |p1 {w:Wor} {m:fx} (h:m.pc=1) (b:mr w0 w w0.zr 0 0):J w0 w m (3+w0.pins.length+BM w0 0+3*w0.zc.length)
 |p2 {w:Wor} {m:fx} (i:Nat) (h:m.pc=2) (hi:m.i=i) (he:m.zr=w0.zr) (hl:i<w0.pins.length) (hp:∀j p,j<i->w0.pins[j]?=some p->HN w0 p=true) (b:mr w0 w w0.zr 0 0):J w0 w m (2+(w0.pins.length-i)+BM w0 0+3*w0.zc.length)
 |p3 {w:Wor} {m:fx} (h:m.pc=3) (he:m.zr=w0.zr) (hp:w0.pins.all (HN w0)=true) (b:mr w0 w w0.zr 0 0):J w0 w m (2+BM w0 0+3*w0.zc.length)
 |p4 {w:Wor} {m:fx} (i:Nat) (h:m.pc=4) (hi:m.i=i) (hl:i<=w0.zn.length) (he:m.zr=nA w0) (b:mr w0 w (nA w0) i 0):J w0 w m (1+BM w0 i+3*w0.zc.length)
 |p5 {w:Wor} {m:fx} (i k:Nat) (r:fK) (v:fC) (h:m.pc=5) (hi:m.i=i) (hk:m.k=k) (he:m.zr=nA w0) (hr:w0.zn[i]?=some r) (hm:m.version=r.version) (hg:r.gone=false) (hs:Go.Lim.vU r.at_ (nA w0)=true) (hv:w0.zd[r.version.toNat]?=some v) (hl:k<(jf v).length)
   (hz:∀j e,j<k->(jf v)[j]?=some e->e.zo=0) (b:mr w0 w (nA w0) i 0):J w0 w m ((jf v).length-k+2+BM w0 (i+1)+3*w0.zc.length)
 |p6 {w:Wor} {m:fx} (i:Nat) (r:fK) (h:m.pc=6) (hi:m.i=i) (he:m.zr=nA w0) (hr:w0.zn[i]?=some r) (hm:m.version=r.version) (hd:Nv w0 r=true) (b:mr w0 w (nA w0) i 0):J w0 w m (2+BM w0 (i+1)+3*w0.zc.length)
 |p8 {w:Wor} {m:fx} (i:Nat) (h:m.pc=8) (hi:m.i=i) (hl:i<=w0.zc.length) (b:mr w0 w (nA w0) w0.zn.length i):J w0 w m (1+3*(w0.zc.length-i))
 |p9 {w:Wor} {m:fx} (i:Nat) (l:fO) (h:m.pc=9) (hi:m.i=i) (hl:w0.zc[i]?=some l) (hd:l.drain=true) (hc:l.closed=false) (b:mr w0 w (nA w0) w0.zn.length i):J w0 w m (3*(w0.zc.length-i))
 |iR {w:Wor} {m:fx} (i:Nat) (l:fO) (h:m.pc=10) (hi:m.i=i) (hl:w0.zc[i]?=some l) (hd:l.drain=true) (hc:l.closed=false) (ha:l.zo=0) (b:mr w0 w (nA w0) w0.zn.length i):J w0 w m (3*(w0.zc.length-i)-1)
def Ne(w0:Wor)(n:Nat)(r:Wor×fx×fF):Prop:=(r.2.1.done=true/\r.1=Io w0/\1<=n)\/∃n',n'<n/\r.2.1.done=false/\J w0 r.1 r.2.1 n'
end Go.Wor
namespace Go.Wor
open Go.Ab Go.Proofs Tryz Go.Gat Go.Nam Go.Hos Go.Con Go.Sna Go.Pla
open Go.Hy hiding encI
structure Fs(w:Wor):Prop where
 lock:w.lock=0
 pins:∀p∈w.pins,p=0
 ends : ∀v∈w.zd, ∀e∈jf v, e.zo = 0
 iB:∀l∈w.zc,l.zo=0
structure YC(w:Wor):Prop extends Fs w where
 gone:∀r∈w.zn,r.gone=true
 shut:∀l∈w.zc,l.drain=true->l.closed=true
def Fs.still{w:Wor}(h:Fs w){r:fK}(hr:0<=r.version/\r.version<w.zd.length):GV w r.version=true:=by
 unfold GV;rw[pq an];exact pG.2 λe he=>by simp[h.ends _ (rj an) e he]
end Go.Wor
namespace Go.Wor
open Go.Ab Go.Proofs Tryz Go.Gat Go.Nam Go.Hos Go.Con Go.Sna Go.Pla Go.Dep
open Go.Hy hiding encI
structure YD(w:Wor):Prop where
 zd:w.zd.length<4000000000000000000
 zg:∀v∈w.zd,v.zg.length<4000000000000000000/\∀g∈v.zg,g.ends.length<4000000000000000000
 pins:w.pins.length<4000000000000000000
 zc:w.zc.length<4000000000000000000
 zn:w.zn.length<4000000000000000000
end Go.Wor
namespace Go.Wor
open Go.Ab Go.Proofs Tryz Go.Gat Go.Nam Go.Hos Go.Con Go.Sna Go.Pla
open Go.Hy hiding encI
variable{α:Type}
theorem XU(f:α->Nat)(l:List α){k:Nat}(h:k<l.length):((l.take (k+1)).map f).sum=((l.take k).map f).sum+f l[k]:=by
 grind [List.take_succ_eq_append_getElem]
theorem Nr{α:Type}(f:α->Nat)(b:Nat):∀(l:List α),(∀x∈l,f x<=b)->(l.map f).sum<=l.length*b
 |[],_=>by simp
 |x::l,h=>by
  have:=Nr f b l λy hy=>h y (rY _ hy)
  grind [List.mem_cons_self,List.length_cons,Nat.add_mul]
def Nj(f:α->Nat)(b:Nat)(l:List α)(h:∀x∈l,f x<=b)(k:Nat):((l.take k).map f).sum<=l.length*b:=
 rR (Nr f b _ λx hx=>h x (pF hx)) (rz _ (by rw[sI];omega))
structure YF(w:Wor):Prop where
 pins:w.pins.length<=1000
 zc:w.zc.length<=1000
 zn:w.zn.length<=1000
 lH:w.zd.length<=1000/\∀v∈w.zd,nF v
def FQ(v:fC)(h:nF v):th 155 [] [Cv v] (I (jf v).length) []:=by
 have m1:(v.zg.map zy).length=v.zg.length:=pz ..;have b1:=h.zg;refine ab func155 ?_;refine zH.seq v.zg.length (λk=>(.za::.ref 0 [] 5 0 0::I 0::I (((v.zg.take k).map λg=>g.ends.length).sum:Nat)::I k::mL (mL ([.za])))) (λk=>[⟨1,106,5,[zt v],0⟩]) (λk=>True) ?_ trivial (λk hk _=>?_) (λ_=>?_)
 .exact cC
 .obtain⟨x,hx⟩:∃x,x=v.zg[k]:=⟨_,rfl⟩;have hg:(v.zg.map zy)[k]?=some (zy x):=by rw[pw,pq hk,hx];rfl
  have m2:(x.ends.map zx).length=x.ends.length:=pz ..;have sk:=XU (λg:Gr=>g.ends.length) v.zg hk;rw[<-hx]at sk;have sb:=Nj (λg:Gr=>g.ends.length) 1000 v.zg (λg hg=>h.ends g hg) k;have sc:=Nj (λg:Gr=>g.ends.length) 1000 v.zg (λg hg=>h.ends g hg) (k+1);conv=>whnf
  rw[m1];refine zaD ?_
  rw[m2]
  have e2:IntKind.i64.wrap (((((v.zg.take k).map λg=>g.ends.length).sum:Nat):Int)+(x.ends.length:Int))=((((v.zg.take (k+1)).map λg=>g.ends.length).sum:Nat):Int):=by
   rw[jF an an];omega
  rw[e2,zk an];refine zap ?_;exact cE 1
 .have e:((v.zg.take v.zg.length).map λg=>g.ends.length).sum=(jf v).length:=by
   rw[pQ];unfold jf;rw[List.length_flatMap]
  conv=>whnf
  rw[m1];refine zaf ?_;exact gK
end Go.Wor
namespace Go.Wor
open Go.Ab Go.Proofs Tryz Go.Gat Go.Nam Go.Hos Go.Con Go.Sna Go.Pla Go.Dep
open Go.Hy hiding encI
end Go.Wor
