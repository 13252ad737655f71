import Derived.Test.YtgllekalddijbaaGreatSK
import Derived.Test.YtgllekalddijbaaGreatSZ
import Derived.Test.YtgllekalddijbaaGreatSN
set_option linter.unusedVariables false
set_option linter.unusedSimpArgs false
set_option linter.unusedSectionVars false
set_option maxRecDepth 100000
set_option maxHeartbeats 4000000
namespace Go.Wor
open Go.Ab Go.Proofs Go.Hy Go.Gat Go.Nam Go.Hos Go.Con Go.Sna
def wQ {α:Type} (f:α->α) (l:List α) (i:Nat):List α:=(l.take i).map f++l.drop i
theorem zdr {α:Type} (f:α->α) (l:List α):wQ f l 0=l:=by simp [wQ]
theorem zjS {α:Type} (f:α->α) (l:List α):wQ f l l.length=l.map f:=by simp [wQ]
theorem zjT {α:Type} (f:α->α) (l:List α) (i:Nat):(wQ f l i).length=l.length:=by simp [wQ];omega
theorem xy {α:Type} (f:α->α) (l:List α) (i k:Nat):(wQ f l i)[k]?= if k < i then (l[k]?).map f else l[k]?:=by
 unfold wQ
 by_cases hk:k < i
 ·rw [if_pos hk]
  by_cases hl:k < l.length
  ·rw [List.getElem?_append_left (by simp;omega),List.getElem?_map,List.getElem?_take,if_pos hk]
  ·rw [List.getElem?_eq_none (by simp;omega),List.getElem?_eq_none (by omega:l.length<=k)]
   rfl
 ·rw [if_neg hk]
  by_cases hl:i<=l.length
  ·rw [List.getElem?_append_right (by simp;omega),List.getElem?_drop]
   congr 1
   simp
   omega
  ·rw [List.getElem?_eq_none (by simp;omega),List.getElem?_eq_none (by omega:l.length<=k)]
theorem zcp {α:Type} {f:α->α} {l:List α} {i:Nat} {x:α} (h:l[i]?= some x):(wQ f l i).set i (f x)=wQ f l (i+1):=by
 apply List.ext_getElem?
 intro k
 have hlt:=(List.getElem?_eq_some_iff.1 h).1
 rw [List.getElem?_set,zjT,xy,xy]
 by_cases hk:i=k
 ·subst hk
  rw [if_pos rfl,if_pos hlt,if_pos (by omega),h]
  rfl
 ·rw [if_neg hk]
  by_cases h2:k < i
  ·rw [if_pos h2,if_pos (by omega)]
  ·rw [if_neg h2,if_neg (by omega)]
theorem ka {α:Type} {f:α->α} {l:List α} {i:Nat} {x:α} (h:l[i]?= some x) (hf:f x=x):wQ f l i=wQ f l (i+1):=by
 rw [<- zcp h,hf]
 exact (x9 _ _ (by rw [xy,if_neg (by omega),h])).symm
def zb8 (w:Wor) (p:Int):Bool:=p == 0 || p == w.zj+1
def jm (w:Wor):Int:=if w.pins.all (zb8 w)=true∧w.zj < 1000000000000 then w.zj+1 else w.zj
def zlG (v:Ver):Bool:=(zX v).all fun e=>e.zr == 0
def wO (w:Wor) (i:Int):Bool:=match w.zd[i.toNat]? with
 | some v=>zlG v
 | none=>false
def zf4 (w:Wor) (r:Ret):Bool:=!r.gone && Go.Lim.yU r.at_ (jm w) && wO w r.version
def goR (w:Wor) (r:Ret):Ret:=if zf4 w r=true then x2 r else r
def jY (l:Lis):Lis:=if (l.drain && !l.closed && l.zr == 0)=true then wK l else l
def xp (w:Wor):Wor:=⟨jm w,w.current,0,w.pins,w.zd.mapIdx (fun k v=>{ v with j5:=jW (w.zg.map (goR w)) k }),w.zc.map jY,w.counts,w.zg.map (goR w)⟩
def qR (w:Wor) (r:Ret):Nat:=match w.zd[r.version.toNat]? with
 | some v=>2+(zX v).length
 | none=>2
def wP (w:Wor) (i:Nat):Nat:=((w.zg.drop i).map (qR w)).sum
theorem zkE {w:Wor} {i:Nat} {r:Ret} {v:Ver} (h:w.zg[i]?= some r) (hv:w.zd[r.version.toNat]?= some v):wP w i=2+(zX v).length+wP w (i+1):=by
 obtain ⟨hlt,rfl⟩:=List.getElem?_eq_some_iff.1 h
 unfold wP
 rw [List.drop_eq_getElem_cons hlt,List.map_cons,List.sum_cons]
 unfold qR
 rw [hv]
structure kb (w0 w:Wor) (E:Int) (i j:Nat):Prop where
 zj:w.zj=E
 current:w.current=w0.current
 lock:w.lock=1
 pins:w.pins=w0.pins
 counts:w.counts=w0.counts
 xI:w.zd.map (fun v=>(v.snap,v.zi))=w0.zd.map fun v=>(v.snap,v.zi)
 zg:w.zg=wQ (goR w0) w0.zg i
 lis:w.zc=wQ jY w0.zc j
theorem kb.at_ {w0 w:Wor} {E:Int} {i j:Nat} (b:kb w0 w E i j) {k:Nat} {v:Ver} (h:w.zd[k]?= some v):∃ v0,w0.zd[k]?= some v0∧v.snap=v0.snap∧v.zi=v0.zi:=by
 have:=congrArg (fun l=>l[k]?) b.xI
 simp only [List.getElem?_map,h,Option.map_some] at this
 obtain ⟨v0,h1,h2⟩:=Option.map_eq_some_iff.1 this.symm
 exact ⟨v0,h1,(Prod.mk.inj h2.symm).1,(Prod.mk.inj h2.symm).2⟩
theorem kb.ends {w0 w:Wor} {E:Int} {i j:Nat} (b:kb w0 w E i j) {k:Nat} {v v0:Ver} (h:w.zd[k]?= some v) (h0:w0.zd[k]?= some v0):zX v=zX v0:=by
 obtain ⟨v1,h1,_,h2⟩:=b.at_ h
 rw [h0] at h1
 cases h1
 unfold zX
 rw [h2]
theorem kb.fin {w0 w:Wor} (b:kb w0 w (jm w0) w0.zg.length w0.zc.length) (g:qA { w with lock:=0 }):{ w with lock:=0 }=xp w0:=by
 obtain ⟨ep,cu,lo,pi,ve,li,co,lm⟩:=w
 obtain ⟨b1,b2,b3,b4,b5,b6,b7,b8⟩:=b
 dsimp only at b1 b2 b3 b4 b5 b6 b7 b8
 rw [zjS] at b7 b8
 subst b1 b2 b4 b5 b7 b8
 unfold xp
 have:ve=w0.zd.mapIdx (fun k v=>{ v with j5:=jW (w0.zg.map (goR w0)) k }):=by
  apply List.ext_getElem?
  intro k
  rw [List.getElem?_mapIdx]
  have hk:=congrArg (fun l=>l[k]?) b6
  simp only [List.getElem?_map] at hk
  cases hv:ve[k]? with
  | none=>
   rw [hv] at hk
   cases hv0:w0.zd[k]? with
   | none=>rfl
   | some v0=>rw [hv0] at hk;cases hk
  | some v=>
   rw [hv] at hk
   cases hv0:w0.zd[k]? with
   | none=>rw [hv0] at hk;cases hk
   | some v0=>
    rw [hv0] at hk
    have hk:=Prod.mk.inj (Option.some.inj hk)
    have hf:v.j5=jW (w0.zg.map (goR w0)) k:=(g.ver k v hv).2
    obtain ⟨s,gr,fr⟩:=v
    dsimp only at hk hf
    rw [Option.map_some,hf,hk.1,hk.2]
 rw [this]
inductive J (w0:Wor):Wor->Mac->Nat->Prop
 | p0 {m:Mac} (h:m.pc=0):J w0 w0 m (4+w0.pins.length+wP w0 0+3 * w0.zc.length)
 | p1 {w:Wor} {m:Mac} (h:m.pc=1) (b:kb w0 w w0.zj 0 0):J w0 w m (3+w0.pins.length+wP w0 0+3 * w0.zc.length)
 | p2 {w:Wor} {m:Mac} (i:Nat) (h:m.pc=2) (hi:m.i=i) (he:m.zj=w0.zj) (hl:i < w0.pins.length) (hp:∀ j p,j < i->w0.pins[j]?= some p->zb8 w0 p=true) (b:kb w0 w w0.zj 0 0):J w0 w m (2+(w0.pins.length - i)+wP w0 0+3 * w0.zc.length)
 | p3 {w:Wor} {m:Mac} (h:m.pc=3) (he:m.zj=w0.zj) (hp:w0.pins.all (zb8 w0)=true) (b:kb w0 w w0.zj 0 0):J w0 w m (2+wP w0 0+3 * w0.zc.length)
 | p4 {w:Wor} {m:Mac} (i:Nat) (h:m.pc=4) (hi:m.i=i) (hl:i<=w0.zg.length) (he:m.zj=jm w0) (b:kb w0 w (jm w0) i 0):J w0 w m (1+wP w0 i+3 * w0.zc.length)
 | p5 {w:Wor} {m:Mac} (i k:Nat) (r:Ret) (v:Ver) (h:m.pc=5) (hi:m.i=i) (hk:m.k=k) (he:m.zj=jm w0) (hr:w0.zg[i]?= some r) (hm:m.version=r.version) (hg:r.gone=false) (hs:Go.Lim.yU r.at_ (jm w0)=true) (hv:w0.zd[r.version.toNat]?= some v) (hl:k < (zX v).length)
   (hz:∀ j e,j < k->(zX v)[j]?= some e->e.zr=0) (b:kb w0 w (jm w0) i 0):J w0 w m ((zX v).length - k+2+wP w0 (i+1)+3 * w0.zc.length)
 | p6 {w:Wor} {m:Mac} (i:Nat) (r:Ret) (h:m.pc=6) (hi:m.i=i) (he:m.zj=jm w0) (hr:w0.zg[i]?= some r) (hm:m.version=r.version) (hd:zf4 w0 r=true) (b:kb w0 w (jm w0) i 0):J w0 w m (2+wP w0 (i+1)+3 * w0.zc.length)
 | p8 {w:Wor} {m:Mac} (i:Nat) (h:m.pc=8) (hi:m.i=i) (hl:i<=w0.zc.length) (b:kb w0 w (jm w0) w0.zg.length i):J w0 w m (1+3 * (w0.zc.length - i))
 | p9 {w:Wor} {m:Mac} (i:Nat) (l:Lis) (h:m.pc=9) (hi:m.i=i) (hl:w0.zc[i]?= some l) (hd:l.drain=true) (hc:l.closed=false) (b:kb w0 w (jm w0) w0.zg.length i):J w0 w m (3 * (w0.zc.length - i))
 | p10 {w:Wor} {m:Mac} (i:Nat) (l:Lis) (h:m.pc=10) (hi:m.i=i) (hl:w0.zc[i]?= some l) (hd:l.drain=true) (hc:l.closed=false) (ha:l.zr=0) (b:kb w0 w (jm w0) w0.zg.length i):J w0 w m (3 * (w0.zc.length - i) - 1)
def Ne (w0:Wor) (n:Nat) (r:Wor × Mac × Eve):Prop:=(r.2.1.done=true∧r.1=xp w0∧1<=n)∨∃ n',n' < n∧r.2.1.done=false∧J w0 r.1 r.2.1 n'
theorem zhk {w0 w:Wor} {m:Mac} (i n:Nat) (hd0:m.done=false) (h:m.pc=8) (hi:m.i=i) (hl:i<=w0.zc.length) (b:kb w0 w (jm w0) w0.zg.length i) (hb:w0.zc.length < 1000000000) (hn:1+3 * (w0.zc.length - i)<=n) (g:qA (ldS w m).1):Ne w0 n (ldS w m):=by
 have hw:IntKind.i64.wrap (m.i+1)=m.i+1:=zV (by omega) (by omega)
 have it:m.i.toNat=i:=by omega
 have e:=congrArg (fun l=>l[i]?) b.lis
 simp only [xy,if_neg (Nat.lt_irrefl i)] at e
 unfold ldS at g ⊢
 rw [it,e] at g ⊢
 cases hx:w0.zc[i]? with
 | none=>
  rw [hx] at g
  have:=List.getElem?_eq_none_iff.1 hx
  have hi2:i=w0.zc.length:=by omega
  subst hi2
  exact .inl ⟨rfl,b.fin g,by omega⟩
 | some l=>
  have hlt:=(List.getElem?_eq_some_iff.1 hx).1
  dsimp only
  unfold ldM
  by_cases q:l.drain=true∧l.closed=false
  ·rw [if_pos q]
   exact .inr ⟨_,by omega,hd0,.p9 i l rfl hi hx q.1 q.2 b⟩
  ·rw [if_neg q,hw]
   refine .inr ⟨_,by omega,hd0,.p8 (i+1) h (by show m.i+1=_;omega) hlt ⟨b.zj,b.current,b.lock,b.pins,b.counts,b.xI,b.zg,?_⟩⟩
   refine b.lis.trans (ka hx ?_)
   unfold jY
   rw [if_neg]
   intro h2
   simp only [Bool.and_eq_true,Bool.not_eq_true'] at h2
   exact q h2.1
theorem ziT {w0 w:Wor} {m:Mac} {n:Nat} {r:Wor × Mac × Eve} (hJ:J w0 w m n) (hd0:m.done=false) (g0:qA w0) (hl0:w0.lock=0) (hb:w0.zc.length < 1000000000∧w0.zg.length < 1000000000) (h:xq w m=some r) (g:qA r.1):Ne w0 n r:=by
 have gr:=qn.1 g0.ground
 have ge:=gr.zj
 have we:IntKind.i64.wrap (w0.zj+1)=w0.zj+1:=zV (by omega) (by omega)
 unfold xq at h
 cases hJ with
 | p0 p=>
  rw [if_pos p,if_pos hl0] at h
  cases h
  exact .inr ⟨_,by omega,hd0,.p1 rfl ⟨rfl,rfl,rfl,rfl,rfl,rfl,(zdr _ _).symm,(zdr _ _).symm⟩⟩
 | p1 p b=>
  rw [if_neg (by omega),if_pos p] at h
  cases h
  exact .inr ⟨_,by have:=gr.pins.1;omega,hd0,.p2 0 rfl rfl b.zj (by have:=gr.pins.1;omega) (fun j _ hj=>by omega) b⟩
 | p2 i p hi he hl hp b=>
  have it:m.i.toNat=i:=by omega
  have hw:IntKind.i64.wrap (m.i+1)=m.i+1:=zV (by omega) (by have:=gr.pins.2;omega)
  obtain ⟨x,hx⟩:∃ x,w0.pins[i]?= some x:=⟨_,List.getElem?_eq_getElem hl⟩
  rw [if_neg (by omega),if_neg (by omega),if_pos p,it,b.pins,hx] at h
  cases h
  dsimp only
  have e2:IntKind.i64.wrap (m.zj+1)=w0.zj+1:=by rw [he,we]
  unfold lpM
  rw [hw,b.pins,e2]
  by_cases q:x≠0∧x≠w0.zj+1
  ·rw [if_pos q]
   have e:jm w0=w0.zj:=by
    unfold jm
    rw [if_neg]
    rintro ⟨h1,_⟩
    have:=List.all_eq_true.1 h1 x (List.mem_of_getElem? hx)
    unfold zb8 at this
    simp at this
    omega
   exact .inr ⟨_,by omega,hd0,.p4 0 rfl rfl (by omega) (by rw [e];exact he) (by rw [e];exact b)⟩
  rw [if_neg q]
  have hp2:∀ j p,j < i+1->w0.pins[j]?= some p->zb8 w0 p=true:=by
   intro j p hj hpj
   by_cases e:j=i
   ·subst e
    rw [hx] at hpj
    cases hpj
    unfold zb8
    simp
    omega
   ·exact hp j p (by omega) hpj
  by_cases q2:m.i+1 < w0.pins.length
  ·rw [if_pos q2]
   exact .inr ⟨_,by omega,hd0,.p2 (i+1) p (by show m.i+1=_;omega) he (by omega) hp2 b⟩
  ·rw [if_neg q2]
   refine .inr ⟨_,by omega,hd0,.p3 rfl he (List.all_eq_true.2 fun x hx=>?_) b⟩
   obtain ⟨j,hj⟩:=List.mem_iff_getElem?.1 hx
   have:=(List.getElem?_eq_some_iff.1 hj).1
   exact hp2 j x (by omega) hj
 | p3 p he hp b=>
  rw [if_neg (by omega),if_neg (by omega),if_neg (by omega),if_pos p,b.zj,he] at h
  cases h
  by_cases q:w0.zj < 1000000000000
  ·have e:jm w0=w0.zj+1:=by unfold jm;rw [if_pos ⟨hp,q⟩]
   rw [if_pos ⟨rfl,q⟩,we]
   exact .inr ⟨_,by omega,hd0,.p4 0 rfl rfl (by omega) e.symm ⟨e.symm,b.current,b.lock,b.pins,b.counts,b.xI,b.zg,b.lis⟩⟩
  ·have e:jm w0=w0.zj:=by unfold jm;rw [if_neg (fun h=>q h.2)]
   rw [if_neg (fun h=>q h.2)]
   exact .inr ⟨_,by omega,hd0,.p4 0 rfl rfl (by omega) (by rw [e];exact he) (by rw [e];exact b)⟩
 | p4 i p hi hl he b=>
  have it:m.i.toNat=i:=by omega
  have hw:IntKind.i64.wrap (m.i+1)=m.i+1:=zV (by omega) (by omega)
  have e:=congrArg (fun l=>l[i]?) b.zg
  simp only [xy,if_neg (Nat.lt_irrefl i)] at e
  rw [if_neg (by omega),if_neg (by omega),if_neg (by omega),if_neg (by omega),if_pos p,it,e] at h
  cases hx:w0.zg[i]? with
  | none=>
   rw [hx] at h
   have:=List.getElem?_eq_none_iff.1 hx
   have hi2:i=w0.zg.length:=by omega
   cases h
   exact zhk 0 _ hd0 rfl rfl (by omega) (hi2 ▸ b) hb.1 (by omega) g
  | some r=>
   rw [hx] at h
   cases h
   have hlt:=(List.getElem?_eq_some_iff.1 hx).1
   have la:=x4 g0 hx
   obtain ⟨v,hv⟩:∃ v,w0.zd[r.version.toNat]?= some v:=⟨_,List.getElem?_eq_getElem (by omega)⟩
   have sq:=zkE hx hv
   dsimp only
   unfold llM
   rw [hw]
   by_cases q:r.gone=true∨Go.Lim.yU r.at_ m.zj=false
   ·rw [if_pos q]
    rw [he] at q
    refine .inr ⟨_,by omega,hd0,.p4 (i+1) p (by show m.i+1=_;omega) hlt he ⟨b.zj,b.current,b.lock,b.pins,b.counts,b.xI,b.zg.trans (ka hx ?_),b.lis⟩⟩
    unfold goR
    rw [if_neg]
    unfold zf4
    rcases q with q | q <;> simp [q]
   ·rw [if_neg q]
    rw [he] at q
    have el:=vy (g0.ver _ v hv).1
    exact .inr ⟨_,by omega,hd0,.p5 i 0 r v rfl hi rfl he hx rfl (by cases hgo:r.gone with | false=>rfl | true=>exact absurd (.inl hgo) q) (by cases hgo:Go.Lim.yU r.at_ (jm w0) with | true=>rfl | false=>exact absurd (.inr hgo) q) hv (by omega) (fun j _ hj=>by omega) b⟩
 | p5 i k x v p hi hk he hr hm hg hs hv hl hz b=>
  have it:m.i.toNat=i:=by omega
  have kt:m.k.toNat=k:=by omega
  have hlt:=(List.getElem?_eq_some_iff.1 hr).1
  have el:=vy (g0.ver _ v hv).1
  have hw:IntKind.i64.wrap (m.i+1)=m.i+1:=zV (by omega) (by omega)
  have hwk:IntKind.i64.wrap (m.k+1)=m.k+1:=zV (by omega) (by omega)
  rw [if_neg (by omega),if_neg (by omega),if_neg (by omega),if_neg (by omega),if_neg (by omega),if_pos p] at h
  obtain ⟨v',hv',h⟩:=Option.bind_eq_some_iff.1 h
  obtain ⟨e,hx,rfl⟩:=Option.map_eq_some_iff.1 h
  have ee:zX v'=zX v:=b.ends hv' (by rw [hm];exact hv)
  rw [ee,kt] at hx
  unfold laM
  rw [hw,hwk,ee]
  by_cases q:e.zr≠0
  ·rw [if_pos q]
   refine .inr ⟨_,by omega,hd0,.p4 (i+1) rfl (by show m.i+1=_;omega) hlt he ⟨b.zj,b.current,b.lock,b.pins,b.counts,b.xI,b.zg.trans (ka hr ?_),b.lis⟩⟩
   unfold goR
   rw [if_neg]
   unfold zf4 wO
   rw [hv]
   dsimp only
   intro h2
   simp only [Bool.and_eq_true] at h2
   have:=List.all_eq_true.1 h2.2 e (List.mem_of_getElem? hx)
   simp at this
   exact q this
  rw [if_neg q]
  have hz2:∀ j e,j < k+1->(zX v)[j]?= some e->e.zr=0:=by
   intro j e2 hj he2
   by_cases e3:j=k
   ·subst e3
    rw [hx] at he2
    cases he2
    exact Decidable.of_not_not q
   ·exact hz j e2 (by omega) he2
  by_cases q2:m.k+1 < (zX v).length
  ·rw [if_pos q2]
   exact .inr ⟨_,by omega,hd0,.p5 i (k+1) x v p hi (by show m.k+1=_;omega) he hr hm hg hs hv (by omega) hz2 b⟩
  ·rw [if_neg q2]
   refine .inr ⟨_,by omega,hd0,.p6 i x rfl hi he hr hm ?_ b⟩
   unfold zf4 wO
   rw [hg,hs,hv]
   refine List.all_eq_true.2 fun e2 he2=>?_
   obtain ⟨j,hj⟩:=List.mem_iff_getElem?.1 he2
   have:=(List.getElem?_eq_some_iff.1 hj).1
   simp [hz2 j e2 (by omega) hj]
 | p6 i x p hi he hr hm hd b=>
  have it:m.i.toNat=i:=by omega
  have hlt:=(List.getElem?_eq_some_iff.1 hr).1
  have hw:IntKind.i64.wrap (m.i+1)=m.i+1:=zV (by omega) (by omega)
  have e:=congrArg (fun l=>l[i]?) b.zg
  simp only [xy,if_neg (Nat.lt_irrefl i)] at e
  rw [if_neg (by omega),if_neg (by omega),if_neg (by omega),if_neg (by omega),if_neg (by omega),if_neg (by omega),if_pos p,it,e,hr] at h
  obtain ⟨v',hv',h⟩:=Option.bind_eq_some_iff.1 h
  rw [Option.bind_some] at h
  split at h
  rotate_left
  ·cases h
  cases h
  unfold frM
  rw [hw]
  refine .inr ⟨_,by omega,hd0,.p4 (i+1) rfl (by show m.i+1=_;omega) hlt he ⟨b.zj,b.current,b.lock,b.pins,b.counts,?_,?_,b.lis⟩⟩
  ·show (w.zd.set m.version.toNat (vA v')).map _=_
   rw [List.map_set,<- b.xI]
   exact x9 _ _ (by rw [List.getElem?_map,hv'];rfl)
  ·show w.zg.set i (x2 x)=_
   rw [b.zg,<- zcp hr]
   congr 1
   unfold goR
   rw [if_pos hd]
 | p8 i p hi hl b=>
  rw [if_neg (by omega),if_neg (by omega),if_neg (by omega),if_neg (by omega),if_neg (by omega),if_neg (by omega),if_neg (by omega),if_pos p] at h
  cases h
  exact zhk i _ hd0 p hi hl b hb.1 (Nat.le_refl _) g
 | p9 i l p hi hl hd hc b=>
  have it:m.i.toNat=i:=by omega
  have hlt:=(List.getElem?_eq_some_iff.1 hl).1
  have hw:IntKind.i64.wrap (m.i+1)=m.i+1:=zV (by omega) (by omega)
  have e:=congrArg (fun l=>l[i]?) b.lis
  simp only [xy,if_neg (Nat.lt_irrefl i)] at e
  rw [if_neg (by omega),if_neg (by omega),if_neg (by omega),if_neg (by omega),if_neg (by omega),if_neg (by omega),if_neg (by omega),if_neg (by omega),if_pos p,it,e,hl] at h
  cases h
  dsimp only
  by_cases q:l.zr=0
  ·rw [if_pos q]
   exact .inr ⟨_,by omega,hd0,.p10 i l rfl hi hl hd hc q b⟩
  ·rw [if_neg q,hw]
   refine .inr ⟨_,by omega,hd0,.p8 (i+1) rfl (by show m.i+1=_;omega) hlt ⟨b.zj,b.current,b.lock,b.pins,b.counts,b.xI,b.zg,b.lis.trans (ka hl ?_)⟩⟩
   unfold jY
   rw [if_neg]
   simp [q]
 | p10 i l p hi hl hd hc ha b=>
  have it:m.i.toNat=i:=by omega
  have hlt:=(List.getElem?_eq_some_iff.1 hl).1
  have hw:IntKind.i64.wrap (m.i+1)=m.i+1:=zV (by omega) (by omega)
  have e:=congrArg (fun l=>l[i]?) b.lis
  simp only [xy,if_neg (Nat.lt_irrefl i)] at e
  rw [if_neg (by omega),if_neg (by omega),if_neg (by omega),if_neg (by omega),if_neg (by omega),if_neg (by omega),if_neg (by omega),if_neg (by omega),if_neg (by omega),if_pos p,it,e,hl,Option.bind_some,if_pos hd,hw] at h
  cases h
  refine .inr ⟨_,by omega,hd0,.p8 (i+1) rfl (by show m.i+1=_;omega) hlt ⟨b.zj,b.current,b.lock,b.pins,b.counts,b.xI,b.zg,?_⟩⟩
  show w.zc.set i (wK l)=_
  rw [b.lis,<- zcp hl]
  congr 1
  unfold jY
  rw [if_pos (by rw [hd,hc,ha];rfl)]
end Go.Wor
namespace Go.Wor
open Go.Ab Go.Proofs Go.Gat Go.Nam Go.Hos Go.Con Go.Sna
open Go.Hy hiding encI
theorem zfD {w:Wor} (gw:qA w) {m:Mac} (ht:0<=m.zD∧m.zD < w.pins.length) (hd:m.done=false) (hv:m.version=0) (hc:m.zm=0) (he:m.end_=0) (ho:m.other=0) (hs:m.slot=0) (hl:m.listen= -1) (hi:m.i=0) (hk:m.k=0):∃ v g e,yA w m v g e:=by
 have c:=gw.current
 obtain ⟨v,hv0⟩:∃ v,w.zd[0]?= some v:=⟨_,List.getElem?_eq_getElem (by omega)⟩
 have gv:=(gw.ver _ v hv0).1
 have h0:0 < v.zi.length:=by have:=(xS gv.snap).zf.1;have:=gv.len;omega
 obtain ⟨g,e,hg,hee,l1,l2⟩:=wq gv h0
 exact ⟨v,g,e,qC.2 gw,ht,hd,by omega,by rw [hv];exact hv0,by omega,by rw [hc];exact hg,by omega,by rw [he];exact hee,by omega,by omega,by omega,by omega,by omega⟩
end Go.Wor
namespace Go.Wor
open Go.Ab Go.Proofs Go.Gat Go.Nam Go.Hos Go.Con Go.Sna Go.Pla
open Go.Hy hiding encI
abbrev zj2 (w:Wor) (m:Mac) (r:Wor × Mac × Eve):Prop:=zb Tryz.prog 53 [] [Sw w,Sm m] (Sr r.1 r.2.1 r.2.2) []
theorem zjx {N:Nat} {w:Wor} {m:Mac} {v:Ver} {g:Gr} {e:En} {r:Wor × Mac × Eve} (su:yA w m v g e) (t:TyW N w) (tm:TyM m) (hN:N<=100000000) (hk:m.op.kind=5) (h:xq w m=some r):zj2 w m r:=
 zfC hk (zdG su (zgX su) t tm hN h)
theorem zi7:∀ (n:Nat) {N K:Nat} {w0 w:Wor} {m:Mac} {v:Ver} {g:Gr} {e:En},J w0 w m n->qA w0->w0.lock=0->(w0.zc.length < 1000000000∧w0.zg.length < 1000000000)->St N K w->yA w m v g e->TyM m->zhE w m v g e->m.op.kind=5->N+n<=100000000->
  ∃ n' m' K',zdu n' w m (xp w0) m'∧1<=n'∧n'<=n∧St (N+n) K' (xp w0):=by
 intro n
 induction n using Nat.strongRecOn with
 | _ n ih=>
  intro N K w0 w m v g e hJ g0 hl hb st su tm lo hk hN
  obtain ⟨⟨w',m',ev⟩,h1,h2⟩:=zaX st su tm lo hk (by omega)
  have hp:=zjx su st.ty tm (by omega) hk h1
  have nx:=ziT hJ su.done g0 hl hb h1 h2.st.jn
  rcases nx with ⟨hd,hc,hn⟩ | ⟨n',hn,hd',hJ'⟩
  ·have hc:w'=xp w0:=hc
   subst hc
   exact ⟨1,m',K+1,.last hp h2.ev hd,by omega,hn,h2.st.mono (by omega) (Nat.le_refl _)⟩
  ·rcases h2.go with ⟨hd,hf⟩ | ⟨⟨v',g',e',hs',lo'⟩,h3⟩
   ·exact absurd (hd.symm.trans hd') (by decide)
   ·obtain ⟨n2,m2,K',hg,h4,h5,h6⟩:=ih n' hn hJ' g0 hl hb h2.st hs' h2.tm lo' (by rw [h2.op];exact hk) (by omega)
    exact ⟨n2+1,m2,K',.more hp h2.ev hs'.done hg,by omega,by omega,h6.mono (by omega) (Nat.le_refl _)⟩
def opC:Opn:=⟨5,[],[],[],0,0,0,⟨[],[],[]⟩⟩
abbrev zfb:Mac:=⟨opC,0,0,0,0, -1,0,0,0,0,0,0,0,0,0,false,Beg.zet,zem⟩
def qv (w:Wor):Nat:=5+w.pins.length+3 * w.zc.length+wP w 0
theorem zep:TyM zfb:=⟨(by decide:i64 (-1)),(by decide:u64 0),(by decide:(-1:Int)<=0∧(0:Int)<=2147483646),by decide,by decide,(by decide:i64 0),(by decide:i64 0),fun _=>⟨⟨by decide,fun _ h=>nomatch h⟩,⟨by decide,fun _ h=>nomatch h⟩,⟨by decide,fun _ h=>nomatch h⟩⟩,fun _ _=>rfl⟩
def yu (w:Wor):Wor:=if w.lock=0 then xp w else w
theorem w8 {N K:Nat} {w:Wor} (st:St N K w) (hN:N+qv w<=100000000):∃ n m' K',zdu n w zfb (yu w) m'∧1<=n∧n<=qv w∧St (N+qv w) K' (yu w):=by
 have gw:=st.jn
 have gr:=qn.1 gw.ground
 obtain ⟨v,g,e,su⟩:=zfD gw (m:=zfb) ⟨Int.le_refl _,by show (0:Int) < _;have:=gr.pins.1;omega⟩ rfl rfl rfl rfl rfl rfl rfl rfl rfl
 have lo:zhE w zfb v g e:=by constructor <;> dsimp only <;> omega
 unfold yu
 by_cases hl:w.lock=0
 ·rw [if_pos hl]
  have b1:=st.ty.lis
  have b2:=st.ty.lim
  obtain ⟨n,m',K',h1,h2,h3,h4⟩:=zi7 _ (J.p0 rfl) gw hl ⟨by omega,by omega⟩ st su zep lo rfl (by unfold qv at hN;omega)
  exact ⟨n,m',K',h1,h2,by unfold qv;omega,h4.mono (by unfold qv;omega) (Nat.le_refl _)⟩
 ·rw [if_neg hl]
  obtain ⟨⟨w',m',ev⟩,h1,h2⟩:=zaX st su zep lo rfl (by omega)
  have hp:=zjx su st.ty zep (by omega) rfl h1
  unfold xq at h1
  rw [if_pos rfl,if_neg hl] at h1
  cases h1
  exact ⟨1,_,K,.last hp h2.ev rfl,by omega,by unfold qv;omega,st.mono (by omega) (Nat.le_refl _)⟩
end Go.Wor
namespace Go.Wor
open Go.Ab Go.Proofs Go.Gat Go.Nam Go.Hos Go.Con Go.Sna Go.Pla
open Go.Hy hiding encI
def ym (p:Int):Bool:=p != 0
def zaA (e:En):Bool:=e.zr != 0
def zaB (g:Gr):Bool:=g.ends.any zaA
def vt (v:Ver):Bool:=v.zi.any zaB
def kV (l:Lis):Bool:=l.zr != 0
def x8 (l:Lis):Bool:=l.zr != 0 || l.drain && !l.closed
def jS (r:Ret):Bool:=!r.gone
def x6 (w:Wor):Bool:=w.lock == 0 && !w.pins.any ym
def jw (w:Wor):Bool:=!w.zd.any vt
def isQ (w:Wor):Bool:=x6 w && jw w && !w.zg.any jS && !w.zc.any x8
def xC (w:Wor):Bool:=!w.pins.any ym && !w.zc.any kV && w.lock == 0 && jw w
structure Idl (w:Wor):Prop where
 lock:w.lock=0
 pins:∀ p ∈ w.pins,p=0
 ends : ∀ v ∈ w.zd, ∀ e ∈ zX v, e.zr = 0
 lis:∀ l ∈ w.zc,l.zr=0
theorem zc9 {w:Wor}:jw w=true↔∀ v ∈ w.zd,∀ e ∈ zX v,e.zr=0:=by
 have hb:∀ v:Ver,vt v=false↔∀ e ∈ zX v,e.zr=0:=fun v=>by
  unfold vt zX
  rw [List.any_eq_false]
  constructor
  ·intro h e he
   obtain ⟨g,hg,he⟩:=List.mem_flatMap.1 he
   have h1:=h g hg
   unfold zaB at h1
   rw [Bool.not_eq_true,List.any_eq_false] at h1
   have h2:=h1 e he
   unfold zaA at h2
   simpa using h2
  ·intro h g hg
   unfold zaB
   rw [Bool.not_eq_true,List.any_eq_false]
   intro e he
   unfold zaA
   simp [h e (List.mem_flatMap.2 ⟨g,hg,he⟩)]
 unfold jw
 rw [Bool.not_eq_true',List.any_eq_false]
 exact ⟨fun h v hv=>(hb v).1 (by simpa using h v hv),fun h v hv=>by simpa using (hb v).2 (h v hv)⟩
theorem zcP {w:Wor}:xC w=true↔Idl w:=by
 unfold xC
 simp only [Bool.and_eq_true,Bool.not_eq_true',List.any_eq_false,beq_iff_eq,zc9]
 constructor
 ·rintro ⟨⟨⟨h1,h2⟩,h3⟩,h4⟩
  exact ⟨h3,fun p hp=>by have:=h1 p hp;simpa [ym] using this,h4,fun l hl=>by have:=h2 l hl;simpa [kV] using this⟩
 ·rintro ⟨h3,h1,h4,h2⟩
  exact ⟨⟨⟨fun p hp=>by simp [ym,h1 p hp],fun l hl=>by simp [kV,h2 l hl]⟩,h3⟩,h4⟩
structure Qui (w:Wor):Prop extends Idl w where
 gone:∀ r ∈ w.zg,r.gone=true
 shut:∀ l ∈ w.zc,l.drain=true->l.closed=true
theorem zhj {w:Wor}:isQ w=true↔Qui w:=by
 unfold isQ x6
 simp only [Bool.and_eq_true,Bool.not_eq_true',List.any_eq_false,beq_iff_eq,zc9]
 constructor
 ·rintro ⟨⟨⟨⟨h1,h2⟩,h3⟩,h4⟩,h5⟩
  refine ⟨⟨h1,fun p hp=>by have:=h2 p hp;simpa [ym] using this,h3,fun l hl=>?_⟩,fun r hr=>by have:=h4 r hr;simpa [jS] using this,fun l hl hd=>?_⟩
  ·have:=h5 l hl
   simp [x8] at this
   exact this.1
  ·have:=h5 l hl
   simp [x8,hd] at this
   exact this.2
 ·rintro ⟨⟨h1,h2,h3,h6⟩,h4,h5⟩
  refine ⟨⟨⟨⟨h1,fun p hp=>by simp [ym,h2 p hp]⟩,h3⟩,fun r hr=>by simp [jS,h4 r hr]⟩,fun l hl=>?_⟩
  simp [x8,h6 l hl]
  intro hd
  exact h5 l hl hd
theorem yd (l:Lis):(jY l).zr=l.zr∧(jY l).drain=l.drain∧(l.closed=true->(jY l).closed=true)∧(l.drain=true->l.zr=0->(jY l).closed=true):=by
 unfold jY
 split
 ·exact ⟨rfl,rfl,fun _=>rfl,fun _ _=>rfl⟩
 ·rename_i h
  refine ⟨rfl,rfl,fun h=>h,fun hd ha=>?_⟩
  cases hc:l.closed with
  | true=>rfl
  | false=>exact absurd (by rw [hd,hc,ha];rfl) h
theorem zj9 {w:Wor} {v:Ver} (h:v ∈ (xp w).zd):∃ v0 ∈ w.zd,v.snap=v0.snap∧v.zi=v0.zi:=by
 obtain ⟨i,hi⟩:=List.mem_iff_getElem?.1 h
 have hi:(w.zd.mapIdx (fun k v=>{ v with j5:=jW (w.zg.map (goR w)) k }))[i]?= some v:=hi
 rw [List.getElem?_mapIdx] at hi
 obtain ⟨v0,h0,rfl⟩:=Option.map_eq_some_iff.1 hi
 exact ⟨v0,List.mem_of_getElem? h0,rfl,rfl⟩
theorem Idl.col {w:Wor} (h:Idl w) (he:w.zj < 1000000000000):Idl (xp w)∧(xp w).zj=w.zj+1:=by
 refine ⟨⟨rfl,h.pins,fun v hv e hme=>?_,fun l hl=>?_⟩,?_⟩
 ·obtain ⟨v0,h0,_,hg⟩:=zj9 hv
  refine h.ends v0 h0 e ?_
  unfold zX at hme ⊢
  rwa [<- hg]
 ·obtain ⟨l0,h0,rfl⟩:=List.mem_map.1 (show l ∈ w.zc.map jY from hl)
  rw [(yd l0).1]
  exact h.lis l0 h0
 ·show jm w=_
  unfold jm
  rw [if_pos ⟨List.all_eq_true.2 fun p hp=>by simp [zb8,h.pins p hp],he⟩]
theorem Idl.still {w:Wor} (h:Idl w) {r:Ret} (hr:0<=r.version∧r.version < w.zd.length):wO w r.version=true:=by
 unfold wO
 rw [List.getElem?_eq_getElem (by omega)]
 exact List.all_eq_true.2 fun e he=>by simp [h.ends _ (List.getElem_mem (by omega)) e he]
theorem Qui.col {w:Wor} (h:Qui w) (he:w.zj < 1000000000000):Qui (xp w):=by
 refine ⟨(h.toIdl.col he).1,fun r hr=>?_,fun l hl hd=>?_⟩
 ·obtain ⟨r0,h0,rfl⟩:=List.mem_map.1 (show r ∈ w.zg.map (goR w) from hr)
  unfold goR
  split
  ·rfl
  ·exact h.gone r0 h0
 ·obtain ⟨l0,h0,rfl⟩:=List.mem_map.1 (show l ∈ w.zc.map jY from hl)
  rw [(yd l0).2.1] at hd
  exact (yd l0).2.2.1 (h.shut l0 h0 hd)
theorem Idl.zmv {w:Wor} (h:Idl w) (g:qA w) (he:w.zj<=1000000) (g1:qA (xp w)):Qui (xp (xp w)):=by
 have h1:=h.col (by omega)
 have h2:=h1.1.col (by rw [h1.2];omega)
 refine ⟨h2.1,fun r hr=>?_,fun l hl hd=>?_⟩
 ·obtain ⟨r1,hr1,rfl⟩:=List.mem_map.1 (show r ∈ (xp w).zg.map (goR (xp w)) from hr)
  obtain ⟨i,hi⟩:=List.mem_iff_getElem?.1 hr1
  have la:=x4 g1 hi
  obtain ⟨r0,hr0,e0⟩:=List.mem_map.1 (show r1 ∈ w.zg.map (goR w) from hr1)
  obtain ⟨i0,hi0⟩:=List.mem_iff_getElem?.1 hr0
  have la0:=x4 g hi0
  have ea:r1.at_=r0.at_:=by
   rw [<- e0]
   unfold goR
   split <;> rfl
  unfold goR
  by_cases q:zf4 (xp w) r1=true
  ·rw [if_pos q]
  ·rw [if_neg q]
   cases hg:r1.gone with
   | true=>rfl
   | false=>
    refine absurd ?_ q
    unfold zf4
    rw [hg,h1.1.still ⟨la.2.2.1,la.2.2.2.1⟩]
    have:jm (xp w)=w.zj+2:=by
     have:=h2.2
     rw [h1.2] at this
     exact this.trans (by omega)
    rw [this]
    unfold Go.Lim.yU
    simp
    omega
 ·obtain ⟨l1,hl1,rfl⟩:=List.mem_map.1 (show l ∈ (xp w).zc.map jY from hl)
  rw [(yd l1).2.1] at hd
  exact (yd l1).2.2.2 hd (h1.1.lis l1 hl1)
end Go.Wor
namespace Go.Wor
open Go.Ab Go.Proofs Go.Gat Go.Nam Go.Hos Go.Con Go.Sna Go.Pla Go.Dep
open Go.Hy hiding encI
def zhb (f:FuncId):List C:=[.fn f [] []]
abbrev Fv (f:FuncId):C:=.agg (zhb f)
abbrev lFn (l:List FuncId):C:=.lst 0 1 (l.map zhb)
abbrev Rv (r:Ret):C:=.agg (qz r)
abbrev Lv (r:Lis):C:=.agg (qy r)
theorem ze3 {H:ze} {f:FuncId} {caps:List C} {l:List Ret} (p:Ret->Bool) (hcb:zA Tryz.prog f=true) (hp:∀ r ∈ l,zb Tryz.prog f H ([Rv r]++caps) (Bo (p r)) H) (hl:l.length < 4611686018427387904):
  zb Tryz.prog 168 H [lR l,.fn f [] caps] (I (match l.findIdx? p with | some i=>(i:Int) | none=> -1)) H:=by
 refine zb.zH (fn:=Tryz.f168) Tryz.func168 rfl ?_
 conv=>whnf
 refine zE.inv (fun n t1 H1=>∃ k,k+n=l.length∧H1=H∧(∀ j,j < k->∀ r,l[j]?= some r->p r=false)∧
   t1=[lR l,.fn f [] caps,.za,.za,I 0,.za,.za,I (l.map qz).length,I k,.za,.za,.za,.za,.za,.za,.za,.za,.za,.za]) l.length ?_ ?_
 ·exact ⟨_,_,zk.mask [0,1,4,7,8] _ _,0,by simp,rfl,by simp,rfl⟩
 rintro n _ _ ⟨k,hk,rfl,hno,rfl⟩
 conv=>whnf
 refine ⟨fun h=>?_,fun h=>?_⟩
 ·conv=>whnf
  have hlt:k < l.length:=by simpa using h
  refine ⟨by omega,qz l[k],by simp [hlt],?_⟩
  conv=>whnf
  rw [hcb]
  refine ⟨_,_,hp _ (List.getElem_mem hlt),?_⟩
  conv=>whnf
  refine ⟨fun h2=>?_,fun h2=>?_⟩
  ·conv=>whnf
   refine .inr ⟨by simp,?_⟩
   conv=>whnf
   refine ⟨.inl rfl,_,.refl _,rfl,?_⟩
   have:l.findIdx? p=some k:=by
    rw [List.findIdx?_eq_some_iff_getElem]
    refine ⟨hlt,h2,fun j hj=>?_⟩
    simp [hno j hj _ (List.getElem?_eq_getElem (by omega))]
   rw [this]
   rfl
  ·conv=>whnf
   refine .inl ⟨rfl,n - 1,_,_,by omega,zk.mask [0,1,4,7,8] _ _,k+1,by omega,rfl,?_,?_⟩
   ·intro j hj r hr
    by_cases hjk:j=k
    ·subst hjk
     rw [List.getElem?_eq_getElem hlt] at hr
     cases hr
     exact h2
    ·exact hno j (by omega) r hr
   ·rw [zn (by omega)];rfl
 ·conv=>whnf
  refine .inr ⟨by simp,?_⟩
  conv=>whnf
  refine ⟨.inl rfl,_,.refl _,rfl,?_⟩
  have:l.findIdx? p=none:=by
   rw [List.findIdx?_eq_none_iff]
   intro x hx
   obtain ⟨j,hj⟩:=List.mem_iff_getElem?.1 hx
   have hjl:=(List.getElem?_eq_some_iff.1 hj).1
   have:¬k < l.length:=by simpa using h
   exact hno j (by omega) x hj
  rw [this]
  rfl
theorem zeL {H:ze} {f:FuncId} {caps:List C} {l:List Ret} (p:Ret->Bool) (hcb:zA Tryz.prog f=true) (hp:∀ r ∈ l,zb Tryz.prog f H ([Rv r]++caps) (Bo (p r)) H) (hl:l.length < 4611686018427387904):
  zb Tryz.prog 117 H [lR l,.fn f [] caps] (Bo (l.any p)) H:=by
 refine zb.zH (fn:=Tryz.f117) Tryz.func117 rfl ?_
 conv=>whnf
 refine ⟨_,_,ze3 p hcb hp hl,?_⟩
 refine dd ?_
 rw [show decide ((match l.findIdx? p with | some i=>((i:Nat):Int) | none=>(-1:Int))≥(0:Int))=l.any p from y4 l p]
 refine ⟨fun h=>?_,fun h=>?_⟩ <;> rw [h]
 ·refine dd ?_
  exact ⟨.inl rfl,_,.refl _,rfl,rfl⟩
 ·refine dd ?_
  exact ⟨.inl rfl,_,.refl _,rfl,rfl⟩
theorem ze2 {H:ze} {f:FuncId} {caps:List C} {l:List Lis} (p:Lis->Bool) (hcb:zA Tryz.prog f=true) (hp:∀ r ∈ l,zb Tryz.prog f H ([Lv r]++caps) (Bo (p r)) H) (hl:l.length < 4611686018427387904):
  zb Tryz.prog 110 H [lL l,.fn f [] caps] (I (match l.findIdx? p with | some i=>(i:Int) | none=> -1)) H:=by
 refine zb.zH (fn:=Tryz.f110) Tryz.func110 rfl ?_
 conv=>whnf
 refine zE.inv (fun n t1 H1=>∃ k,k+n=l.length∧H1=H∧(∀ j,j < k->∀ r,l[j]?= some r->p r=false)∧
   t1=[lL l,.fn f [] caps,.za,.za,I 0,.za,.za,I (l.map qy).length,I k,.za,.za,.za,.za,.za,.za,.za,.za,.za,.za]) l.length ?_ ?_
 ·exact ⟨_,_,zk.mask [0,1,4,7,8] _ _,0,by simp,rfl,by simp,rfl⟩
 rintro n _ _ ⟨k,hk,rfl,hno,rfl⟩
 conv=>whnf
 refine ⟨fun h=>?_,fun h=>?_⟩
 ·conv=>whnf
  have hlt:k < l.length:=by simpa using h
  refine ⟨by omega,qy l[k],by simp [hlt],?_⟩
  conv=>whnf
  rw [hcb]
  refine ⟨_,_,hp _ (List.getElem_mem hlt),?_⟩
  conv=>whnf
  refine ⟨fun h2=>?_,fun h2=>?_⟩
  ·conv=>whnf
   refine .inr ⟨by simp,?_⟩
   conv=>whnf
   refine ⟨.inl rfl,_,.refl _,rfl,?_⟩
   have:l.findIdx? p=some k:=by
    rw [List.findIdx?_eq_some_iff_getElem]
    refine ⟨hlt,h2,fun j hj=>?_⟩
    simp [hno j hj _ (List.getElem?_eq_getElem (by omega))]
   rw [this]
   rfl
  ·conv=>whnf
   refine .inl ⟨rfl,n - 1,_,_,by omega,zk.mask [0,1,4,7,8] _ _,k+1,by omega,rfl,?_,?_⟩
   ·intro j hj r hr
    by_cases hjk:j=k
    ·subst hjk
     rw [List.getElem?_eq_getElem hlt] at hr
     cases hr
     exact h2
    ·exact hno j (by omega) r hr
   ·rw [zn (by omega)];rfl
 ·conv=>whnf
  refine .inr ⟨by simp,?_⟩
  conv=>whnf
  refine ⟨.inl rfl,_,.refl _,rfl,?_⟩
  have:l.findIdx? p=none:=by
   rw [List.findIdx?_eq_none_iff]
   intro x hx
   obtain ⟨j,hj⟩:=List.mem_iff_getElem?.1 hx
   have hjl:=(List.getElem?_eq_some_iff.1 hj).1
   have:¬k < l.length:=by simpa using h
   exact hno j (by omega) x hj
  rw [this]
  rfl
theorem zeK {H:ze} {f:FuncId} {caps:List C} {l:List Lis} (p:Lis->Bool) (hcb:zA Tryz.prog f=true) (hp:∀ r ∈ l,zb Tryz.prog f H ([Lv r]++caps) (Bo (p r)) H) (hl:l.length < 4611686018427387904):
  zb Tryz.prog 119 H [lL l,.fn f [] caps] (Bo (l.any p)) H:=by
 refine zb.zH (fn:=Tryz.f119) Tryz.func119 rfl ?_
 conv=>whnf
 refine ⟨_,_,ze2 p hcb hp hl,?_⟩
 refine dd ?_
 rw [show decide ((match l.findIdx? p with | some i=>((i:Nat):Int) | none=>(-1:Int))≥(0:Int))=l.any p from y4 l p]
 refine ⟨fun h=>?_,fun h=>?_⟩ <;> rw [h]
 ·refine dd ?_
  exact ⟨.inl rfl,_,.refl _,rfl,rfl⟩
 ·refine dd ?_
  exact ⟨.inl rfl,_,.refl _,rfl,rfl⟩
theorem ze1 {H:ze} {f:FuncId} {caps:List C} {l:List FuncId} (p:FuncId->Bool) (hcb:zA Tryz.prog f=true) (hp:∀ r ∈ l,zb Tryz.prog f H ([Fv r]++caps) (Bo (p r)) H) (hl:l.length < 4611686018427387904):
  zb Tryz.prog 167 H [lFn l,.fn f [] caps] (I (match l.findIdx? p with | some i=>(i:Int) | none=> -1)) H:=by
 refine zb.zH (fn:=Tryz.f167) Tryz.func167 rfl ?_
 conv=>whnf
 refine zE.inv (fun n t1 H1=>∃ k,k+n=l.length∧H1=H∧(∀ j,j < k->∀ r,l[j]?= some r->p r=false)∧
   t1=[lFn l,.fn f [] caps,.za,.za,I 0,.za,.za,I (l.map zhb).length,I k,.za,.za,.za,.za,.za,.za,.za,.za,.za,.za]) l.length ?_ ?_
 ·exact ⟨_,_,zk.mask [0,1,4,7,8] _ _,0,by simp,rfl,by simp,rfl⟩
 rintro n _ _ ⟨k,hk,rfl,hno,rfl⟩
 conv=>whnf
 refine ⟨fun h=>?_,fun h=>?_⟩
 ·conv=>whnf
  have hlt:k < l.length:=by simpa using h
  refine ⟨by omega,zhb l[k],by simp [hlt],?_⟩
  conv=>whnf
  rw [hcb]
  refine ⟨_,_,hp _ (List.getElem_mem hlt),?_⟩
  conv=>whnf
  refine ⟨fun h2=>?_,fun h2=>?_⟩
  ·conv=>whnf
   refine .inr ⟨by simp,?_⟩
   conv=>whnf
   refine ⟨.inl rfl,_,.refl _,rfl,?_⟩
   have:l.findIdx? p=some k:=by
    rw [List.findIdx?_eq_some_iff_getElem]
    refine ⟨hlt,h2,fun j hj=>?_⟩
    simp [hno j hj _ (List.getElem?_eq_getElem (by omega))]
   rw [this]
   rfl
  ·conv=>whnf
   refine .inl ⟨rfl,n - 1,_,_,by omega,zk.mask [0,1,4,7,8] _ _,k+1,by omega,rfl,?_,?_⟩
   ·intro j hj r hr
    by_cases hjk:j=k
    ·subst hjk
     rw [List.getElem?_eq_getElem hlt] at hr
     cases hr
     exact h2
    ·exact hno j (by omega) r hr
   ·rw [zn (by omega)];rfl
 ·conv=>whnf
  refine .inr ⟨by simp,?_⟩
  conv=>whnf
  refine ⟨.inl rfl,_,.refl _,rfl,?_⟩
  have:l.findIdx? p=none:=by
   rw [List.findIdx?_eq_none_iff]
   intro x hx
   obtain ⟨j,hj⟩:=List.mem_iff_getElem?.1 hx
   have hjl:=(List.getElem?_eq_some_iff.1 hj).1
   have:¬k < l.length:=by simpa using h
   exact hno j (by omega) x hj
  rw [this]
  rfl
theorem zeJ {H:ze} {f:FuncId} {caps:List C} {l:List FuncId} (p:FuncId->Bool) (hcb:zA Tryz.prog f=true) (hp:∀ r ∈ l,zb Tryz.prog f H ([Fv r]++caps) (Bo (p r)) H) (hl:l.length < 4611686018427387904):
  zb Tryz.prog 113 H [lFn l,.fn f [] caps] (Bo (l.any p)) H:=by
 refine zb.zH (fn:=Tryz.f113) Tryz.func113 rfl ?_
 conv=>whnf
 refine ⟨_,_,ze1 p hcb hp hl,?_⟩
 refine dd ?_
 rw [show decide ((match l.findIdx? p with | some i=>((i:Nat):Int) | none=>(-1:Int))≥(0:Int))=l.any p from y4 l p]
 refine ⟨fun h=>?_,fun h=>?_⟩ <;> rw [h]
 ·refine dd ?_
  exact ⟨.inl rfl,_,.refl _,rfl,rfl⟩
 ·refine dd ?_
  exact ⟨.inl rfl,_,.refl _,rfl,rfl⟩
theorem zfN (w:Wor) (f:FuncId) (b:Bool) (hc:zA Tryz.prog f=true) (h:zb Tryz.prog f [] [Cw w] (Bo b) []):zb Tryz.prog 114 [⟨1,28,8,[zR w],0⟩] ([Fv f]++[.ref 0 [] 8 0 0]) (Bo (!b)) [⟨1,28,8,[zR w],0⟩]:=by
 refine zb.zH (fn:=Tryz.f114) Tryz.func114 rfl ?_
 conv=>whnf
 rw [hc]
 cases b
 all_goals
  refine ⟨_,_,h.frame rfl _,?_⟩
  refine dd ?_
  (repeat ((first | apply ya | apply yb);refine dd ?_))
  exact ⟨.inl rfl,_,zk.keep [3] 1 _ _ rfl rfl rfl rfl,rfl,rfl⟩
theorem vR (w:Wor) (l:List FuncId) (p:FuncId->Bool) (h:∀ f ∈ l,zA Tryz.prog f=true∧zb Tryz.prog f [] [Cw w] (Bo (p f)) []) (hl:l.length < 4611686018427387904):zb Tryz.prog 65 [] [Cw w,lFn l] (Bo (!l.any fun f=>!p f)) []:=by
 refine zb.zl (fn:=Tryz.f65) Tryz.func65 rfl ?_
 conv=>whnf
 have hcon:=zeJ (H:=[⟨1,28,8,[zR w],0⟩]) (f:=114) (l:=l) (caps:=[.ref 0 [] 8 0 0]) (fun f=>!p f) (by kernel_rfl) (fun r hr=>zfN w r (p r) (h r hr).1 (h r hr).2) hl
 refine zp [0] (hcon) rfl rfl rfl rfl rfl rfl ?_;refine dd ?_
 refine ⟨fun q=>?_,fun q=>?_⟩
 all_goals
  rw [q]
  refine dd ?_
  (try (repeat ((first | apply ya | apply yb);refine dd ?_)))
  exact ⟨.inl rfl,_,.refl _,rfl⟩
theorem zdZ (p:Int):zb Tryz.prog 115 [] [I p] (Bo (ym p)) []:=by
 refine zb.zl (fn:=Tryz.f115) Tryz.func115 rfl ?_
 conv=>whnf
 refine ⟨fun h=>?_,fun h=>?_⟩
 all_goals
  refine dd ?_
  (exact ⟨.inl rfl,_,.refl _,congrArg (fun b=>some (C.v (Value.bool b))) (by exact h.symm)⟩)
theorem zed (w:Wor) (hw:w.pins.length < 4611686018427387904):zb Tryz.prog 66 [] [Cw w] (Bo (x6 w)) []:=by
 refine zb.zl (fn:=Tryz.f66) Tryz.func66 rfl ?_
 conv=>whnf
 refine ⟨fun h1=>?_,fun h1=>?_⟩
 ·have e:x6 w=!w.pins.any ym:=by unfold x6;simp at h1;rw [h1];rfl
  rw [e]
  refine dd ?_
  have hcon:=zbF (H:=[]) (f:=115) (l:=w.pins) (caps:=[]) ym (by kernel_rfl) (fun r _=>zdZ r) hw
  refine ⟨_,_,(hcon).frame rfl _,?_⟩;refine dd ?_
  refine ⟨fun q=>?_,fun q=>?_⟩
  all_goals
   rw [q]
   refine dd ?_
   (try (repeat ((first | apply ya | apply yb);refine dd ?_)))
   exact ⟨.inl rfl,_,.refl _,rfl⟩
 ·have e:x6 w=false:=by unfold x6;simp at h1;simp [h1]
  rw [e]
  refine dd ?_
  exact ⟨.inl rfl,_,.refl _,rfl⟩
theorem ze0 (e:En):zb Tryz.prog 116 [] [Go.Slp.Ev e] (Bo (zaA e)) []:=by
 refine zb.zl (fn:=Tryz.f116) Tryz.func116 rfl ?_
 conv=>whnf
 refine ⟨fun h=>?_,fun h=>?_⟩
 all_goals
  refine dd ?_
  (exact ⟨.inl rfl,_,.refl _,congrArg (fun b=>some (C.v (Value.bool b))) (by exact h.symm)⟩)
theorem zeY (r:Ret):zb Tryz.prog 118 [] [Rv r] (Bo (jS r)) []:=by
 refine zb.zl (fn:=Tryz.f118) Tryz.func118 rfl ?_
 conv=>whnf
 refine ⟨fun h=>?_,fun h=>?_⟩
 all_goals
  refine dd ?_
  (exact ⟨.inl rfl,_,.refl _,congrArg (fun b=>some (C.v (Value.bool b))) (by unfold jS;rw [h];rfl)⟩)
theorem zfl (w:Wor) (hw:w.zg.length < 4611686018427387904):zb Tryz.prog 68 [] [Cw w] (Bo (!w.zg.any jS)) []:=by
 refine zb.zl (fn:=Tryz.f68) Tryz.func68 rfl ?_
 conv=>whnf
 have hcon:=zeL (H:=[]) (f:=118) (l:=w.zg) (caps:=[]) jS (by kernel_rfl) (fun r _=>zeY r) hw
 refine ⟨_,_,(hcon).frame rfl _,?_⟩;refine dd ?_
 refine ⟨fun q=>?_,fun q=>?_⟩
 all_goals
  rw [q]
  refine dd ?_
  (try (repeat ((first | apply ya | apply yb);refine dd ?_)))
  exact ⟨.inl rfl,_,.refl _,rfl⟩
theorem zfz (l:Lis):zb Tryz.prog 120 [] [Lv l] (Bo (x8 l)) []:=by
 obtain ⟨a,b,c,d⟩:=l
 refine zb.zl (fn:=Tryz.f120) Tryz.func120 rfl ?_
 conv=>whnf
 refine ⟨fun h1=>?_,fun h1=>?_⟩
 ·refine dd ?_
  (try (repeat ((first | apply ya | apply yb);refine dd ?_)))
  (exact ⟨.inl rfl,_,.refl _,congrArg (fun b=>some (C.v (Value.bool b))) (by unfold x8;simp at h1;simp [h1])⟩)
 ·refine dd ?_
  cases b
  ·(refine ⟨fun h=>absurd (h.symm.trans rfl:true=false) (by decide),fun _=>?_⟩);refine dd ?_
   (exact ⟨.inl rfl,_,.refl _,congrArg (fun b=>some (C.v (Value.bool b))) (by unfold x8;simp at h1;simp [h1])⟩)
  ·(refine ⟨fun _=>?_,fun h=>absurd (h.symm.trans rfl:false=true) (by decide)⟩);refine dd ?_
   cases d
   ·(refine ⟨fun h=>absurd (h.symm.trans rfl:true=false) (by decide),fun _=>?_⟩);refine dd ?_
    (exact ⟨.inl rfl,_,.refl _,congrArg (fun b=>some (C.v (Value.bool b))) (by unfold x8;simp at h1;simp [h1])⟩)
   ·(refine ⟨fun _=>?_,fun h=>absurd (h.symm.trans rfl:false=true) (by decide)⟩);refine dd ?_
    (exact ⟨.inl rfl,_,.refl _,congrArg (fun b=>some (C.v (Value.bool b))) (by unfold x8;simp at h1;simp [h1])⟩)
theorem zfn (w:Wor) (hw:w.zc.length < 4611686018427387904):zb Tryz.prog 69 [] [Cw w] (Bo (!w.zc.any x8)) []:=by
 refine zb.zl (fn:=Tryz.f69) Tryz.func69 rfl ?_
 conv=>whnf
 have hcon:=zeK (H:=[]) (f:=120) (l:=w.zc) (caps:=[]) x8 (by kernel_rfl) (fun r _=>zfz r) hw
 refine ⟨_,_,(hcon).frame rfl _,?_⟩;refine dd ?_
 refine ⟨fun q=>?_,fun q=>?_⟩
 all_goals
  rw [q]
  refine dd ?_
  (try (repeat ((first | apply ya | apply yb);refine dd ?_)))
  exact ⟨.inl rfl,_,.refl _,rfl⟩
structure WkQ (w:Wor):Prop where
 zd:w.zd.length < 4000000000000000000
 zi:∀ v ∈ w.zd,v.zi.length < 4000000000000000000∧∀ g ∈ v.zi,g.ends.length < 4000000000000000000
 pins:w.pins.length < 4000000000000000000
 zc:w.zc.length < 4000000000000000000
 zg:w.zg.length < 4000000000000000000
theorem zfm (w:Wor) (hw:WkQ w):zb Tryz.prog 67 [] [Cw w] (Bo (jw w)) []:=by
 have m2:(w.zd.map qm).length=w.zd.length:=List.length_map ..
 have b2:=hw.zd
 refine zb.zl (fn:=Tryz.f67) Tryz.func67 rfl ?_
 conv=>whnf
 rw [m2]
 refine zE.seq w.zd.length (fun k=>[.za,.ref 0 [] 8 0 0,Bo false,.za,.za,.za,.za,.za,lV w.zd,I w.zd.length,I k,.za,.za,.za,.za,.za,.za,.za,.za,.za,.za,.za,.za,.za,.za,.za]) (fun k=>[⟨1,28,8,[zR w],0⟩]) (fun k=>∀ j,(h:j < w.zd.length)->j < k->vt w.zd[j]=false) ?_ (by simp) (fun k hk hr=>?_) (fun hr=>?_)
 ·exact cC
 ·obtain ⟨v,hx⟩:∃ v,v=w.zd[k]:=⟨_,rfl⟩
  have hv:v ∈ w.zd:=by rw [hx];exact List.getElem_mem hk
  have hg:(w.zd.map qm)[k]?= some (qm v):=by rw [List.getElem?_map,List.getElem?_eq_getElem hk,hx];rfl
  have mg:(v.zi.map qJ).length=v.zi.length:=List.length_map ..
  have bad:vt v=true->jw w=false:=fun h=>by
   unfold jw;rw [List.any_eq_true.2 ⟨v,hv,h⟩];rfl
  have bg:=(hw.zi v hv).1
  conv=>whnf
  (refine ⟨fun _=>?_,fun h=>absurd h (by simp;omega)⟩);refine dd ?_
  (refine ⟨by omega,_,by rw [toNat_cast];exact hg,?_⟩);refine dd ?_
  rw [mg]
  refine zE.seq v.zi.length (fun j=>[.za,.ref 0 [] 8 0 0,Bo false,.za,.ref 1 [] 5 0 0,.za,.za,.za,lV w.zd,I w.zd.length,I k,.za,.za,.za,.za,lG v.zi,I v.zi.length,I j,.za,.za,.za,.za,.za,.za,.za,.za]) (fun j=>[⟨1,28,8,[zR w],0⟩,⟨1,72,5,[qm v],0⟩]) (fun j=>∀ i,(h:i < v.zi.length)->i < j->zaB v.zi[i]=false) ?_ (by simp) (fun j hj hrj=>?_) (fun hrj=>?_)
  ·exact cC
  ·obtain ⟨g,hxg⟩:∃ g,g=v.zi[j]:=⟨_,rfl⟩
   have hgm:g ∈ v.zi:=by rw [hxg];exact List.getElem_mem hj
   have hgg:(v.zi.map qJ)[j]?= some (qJ g):=by rw [List.getElem?_map,List.getElem?_eq_getElem hj,hxg];rfl
   have be:=(hw.zi v hv).2 g hgm
   have hcon:=zbE (H:=[]) (f:=116) (l:=g.ends) (caps:=[]) zaA (by kernel_rfl) (fun r _=>ze0 r) (by omega)
   conv=>whnf
   (refine ⟨fun _=>?_,fun h=>absurd h (by simp;omega)⟩);refine dd ?_
   (refine ⟨by omega,_,by rw [toNat_cast];exact hgg,?_⟩);refine dd ?_
   refine ⟨_,_,(hcon).frame rfl _,?_⟩;refine dd ?_
   refine ⟨fun q=>?_,fun q=>?_⟩
   ·rw [bad (List.any_eq_true.2 ⟨g,hgm,q⟩)]
    refine dd ?_
    (refine .inr ⟨by simp,?_⟩);(conv=>whnf)
    (try (refine .inr ⟨by simp,?_⟩);(conv=>whnf))
    exact ⟨.inl rfl,_,.refl _,rfl⟩
   ·refine dd ?_
    refine .inl ⟨rfl,?_,fun i hi hij=>?_⟩
    ·rw [zn (by omega)]
     exact cE 2
    ·by_cases e:i=j
     ·subst e;rw [<- hxg];exact q
     ·exact hrj i hi (by omega)
  ·have no:vt v=false:=by
    unfold vt
    rw [List.any_eq_false]
    intro x hx
    obtain ⟨i,hi,rfl⟩:=List.mem_iff_getElem.1 hx
    simp [hrj i hi hi]
   (conv=>whnf);(refine ⟨fun h=>absurd h (by simp),fun _=>?_⟩);refine dd ?_;(refine ⟨by simp,?_⟩);(conv=>whnf)
   refine .inl ⟨rfl,?_,fun i hi hij=>?_⟩
   ·rw [zn (by omega)]
    exact cE 1
   ·by_cases e:i=k
    ·subst e;rw [<- hx];exact no
    ·exact hr i hi (by omega)
 ·have e:jw w=true:=by
   unfold jw
   rw [Bool.not_eq_true',List.any_eq_false]
   intro x hx
   obtain ⟨i,hi,rfl⟩:=List.mem_iff_getElem.1 hx
   simp [hr i hi hi]
  rw [e]
  (conv=>whnf);(refine ⟨fun h=>absurd h (by simp),fun _=>?_⟩);refine dd ?_;(refine ⟨by simp,?_⟩);(conv=>whnf)
  exact ⟨.inl rfl,_,.refl _,rfl⟩
theorem jE (w:Wor) (hw:WkQ w):zb Tryz.prog 26 [] [Cw w] (Bo (isQ w)) []:=by
 have h:=vR w [66,67,68,69] (fun f=>if f=66 then x6 w else if f=67 then jw w else if f=68 then !w.zg.any jS else !w.zc.any x8) (by
  intro f hf
  simp only [List.mem_cons,List.not_mem_nil,or_false] at hf
  rcases hf with rfl | rfl | rfl | rfl
  ·exact ⟨by kernel_rfl,zed w (by have:=hw.pins;omega)⟩
  ·exact ⟨by kernel_rfl,zfm w hw⟩
  ·exact ⟨by kernel_rfl,zfl w (by have:=hw.zg;omega)⟩
  ·exact ⟨by kernel_rfl,zfn w (by have:=hw.zc;omega)⟩) (by decide)
 have e:isQ w=!([66,67,68,69].any fun f=>!(if f=66 then x6 w else if f=67 then jw w else if f=68 then !w.zg.any jS else !w.zc.any x8)):=by
  show isQ w=!(!x6 w || (!jw w || (!(!w.zg.any jS) || (!(!w.zc.any x8) || false))))
  unfold isQ
  cases x6 w <;> cases jw w <;> cases w.zg.any jS <;> cases w.zc.any x8 <;> rfl
 rw [e]
 refine zb.zl (fn:=Tryz.f26) Tryz.func26 rfl ?_
 conv=>whnf
 have h2:=h.pre (.cons (.refl _) (.cons (fun E y hy=>WC.share 1 1 _ E y hy) .nil))
 refine ⟨_,_,(h2).frame rfl _,?_⟩;refine dd ?_
 refine ⟨fun q=>?_,fun q=>?_⟩
 all_goals
  rw [q]
  refine dd ?_
  (try (repeat ((first | apply ya | apply yb);refine dd ?_)))
  exact ⟨.inl rfl,_,.refl _,rfl⟩
end Go.Wor
namespace Go.Wor
open Go.Ab Go.Proofs Go.Gat Go.Nam Go.Hos Go.Con Go.Sna Go.Pla Go.Dep
open Go.Hy hiding encI
abbrev zls:C:=.agg [I 5,Tx [],Tx [],Tx [],I 0,I 0,I 0,.lst 1 0 [],.lst 1 0 [],.lst 1 0 []]
theorem WC.zmB {a b:List C} (h:WCs a b):WC (.agg a) (.agg b):=fun E y hl=>by
 cases hl with
 | agg cs ys h1 h2 h3=>
  have h:=(h.LL (E:=E) (ys:=ys.toList) ⟨by simpa using h1,fun i c y e1 e2=>h2 i c y e1 (by simpa using e2)⟩)
  exact .agg b ys (by simpa using h.1) (fun i c y e1 e2=>h.2 i c y e1 (by simpa using e2)) h3
theorem zce {n:Nat} {w w':Wor} {t:Int} {o:Opn} {m m':Mac} {given:List Ans} (hb:zb Tryz.prog 18 [] [I t,.agg (wb o),lA given] (Sm m) []) (hg:zdu n w m w' m') (hn:n<=10000):zb Tryz.prog 35 [] [Sw w,I t,.agg (wb o),lA given] (.tup [Sw w',.agg (yj m'.answer),I n]) []:=by
 refine zb.zl (fn:=Tryz.f35) Tryz.func35 rfl ?_
 conv=>whnf
 refine ⟨_,_,(hb).frame rfl _,?_⟩;refine dd ?_
 refine zE.inv (fun i t1 H1=>∃ (k:Nat) (wk:Wor) (mk:Mac),k+i=n∧zdu i wk mk w' m'∧t1=[.za,.za,.za,.za,.ref 0 [] 8 0 0,.za,.ref 1 [] 10 0 0,.za,.ref 2 [] 8 0 0,.ref 3 [] 13 0 0,I 0,.ref 4 [] 44 0 0,.ref 5 [] 8 0 0,.za,.za,.za,.za,.za,.za,.za,.za,.za,I k,.za,.za,.za,.za,.za,.za,.za,.za,.za,.za,.za,.za,.za,.za,.za,.za,.za,.za,.za,.za,.za,.za,.za,.za]∧H1=[⟨1,28,8,[zR (w)],0⟩,⟨1,35,10,[wb o],0⟩,⟨1,28,8,[[I 0,I 0,I 0,.lst 1 0 [],.lst 1 0 [],.lst 1 0 [],.lst 1 0 [],.lst 1 0 []]],0⟩,⟨1,41,13,[yj ⟨0,0,0,0,0,0,0,zem⟩],0⟩,⟨1,43,44,[zY (mk)],0⟩,⟨1,28,8,[zR (wk)],0⟩]) n ?_ ?_
 ·exact ⟨_,_,cC,0,w,m,by simp,hg,rfl,rfl⟩
 rintro i _ _ ⟨k,wk,mk,hk,hg,rfl,rfl⟩
 have hi:1<=i:=by cases hg <;> omega
 conv=>whnf
 (refine ⟨fun _=>?_,fun h=>absurd h (by simp;omega)⟩);refine dd ?_
 cases hg with
 | last h he hd=>
  refine ⟨_,_,(h).frame rfl _,?_⟩;refine dd ?_
  refine ⟨fun h=>absurd h (by simpa using he),fun _=>?_⟩
  refine dd ?_
  refine .inl ⟨⟨false,[0,1],[6,7],[]⟩,by kernel_rfl,?_⟩;(conv=>whnf)
  repeat (refine ⟨rfl,?_⟩;conv=>whnf)
  refine ⟨fun _=>?_,fun h=>absurd ((hd).symm.trans h:true=false) (by decide)⟩;refine dd ?_
  refine .inl ⟨⟨false,[0,2],[4,5],[]⟩,by kernel_rfl,?_⟩;(conv=>whnf)
  repeat (refine ⟨rfl,?_⟩;conv=>whnf)
  refine .inr ⟨by simp,?_⟩
  conv=>whnf
  rw [zn (by omega),hk]
  exact ⟨.inl rfl,_,.refl _,rfl⟩
 | more h he hd hg=>
  refine ⟨_,_,(h).frame rfl _,?_⟩;refine dd ?_
  refine ⟨fun h=>absurd h (by simpa using he),fun _=>?_⟩
  refine dd ?_
  refine .inl ⟨⟨false,[0,1],[6,7],[]⟩,by kernel_rfl,?_⟩;(conv=>whnf)
  repeat (refine ⟨rfl,?_⟩;conv=>whnf)
  refine ⟨fun h=>absurd ((hd).symm.trans h:false=true) (by decide),fun _=>?_⟩;refine dd ?_
  rw [zn (by omega)]
  exact .inl ⟨rfl,_,_,_,Nat.lt_succ_self _,cE 6,k+1,_,_,by omega,hg,rfl,rfl⟩
end Go.Wor
namespace Go.Wor
open Go.Ab Go.Proofs Go.Gat Go.Nam Go.Hos Go.Con Go.Sna Go.Pla
open Go.Hy hiding encI
theorem zfq (w:Wor) (hw:WkQ w):zb Tryz.prog 78 [] [Cw w] (Bo (jw w)) []:=by
 have m2:(w.zd.map qm).length=w.zd.length:=List.length_map ..
 have b2:=hw.zd
 refine zb.zl (fn:=Tryz.f78) Tryz.func78 rfl ?_
 conv=>whnf
 refine zE.seq w.zd.length (fun k=>[Cw w,.ref 0 [] 8 0 0,Bo false,I k,.za,.za,.za,.za,.za,.za,.za,.za,.za,.za,.za,.za,.za,.za,.za,.za,.za,.za,.za,.za,.za,.za,.za,.za,.za,.za,.za,.za,.za,.za,.za,.za,.za,.za,.za,.za,.za,.za,.za,.za,.za,.za,.za,.za,.za,.za,.za,.za,.za,.za]) (fun k=>[⟨1,28,8,[zR w],0⟩]) (fun k=>∀ j,(h:j < w.zd.length)->j < k->vt w.zd[j]=false) ?_ (by simp) (fun k hk hr2=>?_) (fun hr2=>?_)
 ·exact cC
 ·obtain ⟨v,hx⟩:∃ v,v=w.zd[k]:=⟨_,rfl⟩
  have hv:v ∈ w.zd:=by rw [hx];exact List.getElem_mem hk
  have hg:(w.zd.map qm)[k]?= some (qm v):=by rw [List.getElem?_map,List.getElem?_eq_getElem hk,hx];rfl
  have mg:(v.zi.map qJ).length=v.zi.length:=List.length_map ..
  have bad:vt v=true->jw w=false:=fun h=>by
   unfold jw;rw [List.any_eq_true.2 ⟨v,hv,h⟩];rfl
  have bg:=(hw.zi v hv).1
  conv=>whnf
  rw [m2]
  (refine ⟨fun _=>?_,fun h=>absurd h (by simp;omega)⟩);refine dd ?_
  refine zE.seq v.zi.length (fun j=>[Cw w,.ref 0 [] 8 0 0,Bo false,I k,I j,.za,.za,.za,.za,.za,.za,.za,.za,.za,.za,.za,.za,.za,.za,.za,.za,.za,.za,.za,.za,.za,.za,.za,.za,.za,.za,.za,.za,.za,.za,.za,.za,.za,.za,.za,.za,.za,.za,.za,.za,.za,.za,.za,.za,.za,.za,.za,.za,.za]) (fun j=>[⟨1,28,8,[zR w],0⟩]) (fun j=>∀ i,(h:i < v.zi.length)->i < j->zaB v.zi[i]=false) ?_ (by simp) (fun j hj hrj=>?_) (fun hrj=>?_)
  ·exact cC
  ·obtain ⟨g,hxg⟩:∃ g,g=v.zi[j]:=⟨_,rfl⟩
   have hgm:g ∈ v.zi:=by rw [hxg];exact List.getElem_mem hj
   have hgg:(v.zi.map qJ)[j]?= some (qJ g):=by rw [List.getElem?_map,List.getElem?_eq_getElem hj,hxg];rfl
   have me:(g.ends.map zU).length=g.ends.length:=List.length_map ..
   have be:=(hw.zi v hv).2 g hgm
   have badg:zaB g=true->jw w=false:=fun h=>bad (List.any_eq_true.2 ⟨g,hgm,h⟩)
   conv=>whnf
   (refine ⟨by omega,_,by rw [toNat_cast];exact hg,?_⟩);refine dd ?_
   rw [mg]
   (refine ⟨fun _=>?_,fun h=>absurd h (by simp;omega)⟩);refine dd ?_
   refine zE.seq g.ends.length (fun n=>[Cw w,.ref 0 [] 8 0 0,Bo false,I k,I j,I n,.za,.za,.za,.za,.za,.za,.za,.za,.za,.za,.za,.za,.za,.za,.za,.za,.za,.za,.za,.za,.za,.za,.za,.za,.za,.za,.za,.za,.za,.za,.za,.za,.za,.za,.za,.za,.za,.za,.za,.za,.za,.za,.za,.za,.za,.za,.za,.za]) (fun n=>[⟨1,28,8,[zR w],0⟩]) (fun n=>∀ i,(h:i < g.ends.length)->i < n->zaA g.ends[i]=false) ?_ (by simp) (fun n hn hrn=>?_) (fun hrn=>?_)
   ·exact cC
   ·obtain ⟨e,hxe⟩:∃ e,e=g.ends[n]:=⟨_,rfl⟩
    have hge:(g.ends.map zU)[n]?= some (zU e):=by rw [List.getElem?_map,List.getElem?_eq_getElem hn,hxe];rfl
    conv=>whnf
    (refine ⟨by omega,_,by rw [toNat_cast];exact hg,?_⟩);refine dd ?_
    (refine ⟨by omega,_,by rw [toNat_cast];exact hgg,?_⟩);refine dd ?_
    rw [me]
    (refine ⟨fun _=>?_,fun h=>absurd h (by simp;omega)⟩);refine dd ?_
    (refine ⟨by omega,_,by rw [toNat_cast];exact hg,?_⟩);refine dd ?_
    (refine ⟨by omega,_,by rw [toNat_cast];exact hgg,?_⟩);refine dd ?_
    (refine ⟨by omega,_,by rw [toNat_cast];exact hge,?_⟩);refine dd ?_
    refine ⟨fun c1=>?_,fun c1=>?_⟩
    ·rw [badg (List.any_eq_true.2 ⟨e,by rw [hxe];exact List.getElem_mem hn,by simp at c1;simp [zaA,c1]⟩)]
     refine dd ?_
     (refine .inr ⟨by simp,?_⟩);(conv=>whnf)
     (try (refine .inr ⟨by simp,?_⟩);(conv=>whnf))
     (try (refine .inr ⟨by simp,?_⟩);(conv=>whnf))
     exact ⟨.inl rfl,_,.refl _,rfl⟩
    refine dd ?_
    refine .inl ⟨rfl,?_,fun i hi hij=>?_⟩
    ·rw [zn (by omega)]
     exact cE 1
    ·by_cases e:i=n
     ·subst e;rw [<- hxe];simp at c1;simp [zaA,c1]
     ·exact hrn i hi (by omega)
   ·have no:zaB g=false:=by
     unfold zaB
     rw [List.any_eq_false]
     intro x hx
     obtain ⟨i,hi,rfl⟩:=List.mem_iff_getElem.1 hx
     simp [hrn i hi hi]
    conv=>whnf
    (refine ⟨by omega,_,by rw [toNat_cast];exact hg,?_⟩);refine dd ?_
    (refine ⟨by omega,_,by rw [toNat_cast];exact hgg,?_⟩);refine dd ?_
    rw [me]
    refine ⟨fun h=>absurd h (by simp),fun _=>?_⟩
    refine dd ?_
    refine ⟨by simp,?_⟩
    conv=>whnf
    refine .inl ⟨rfl,?_,fun i hi hij=>?_⟩
    ·rw [zn (by omega)]
     exact cE 1
    ·by_cases e:i=j
     ·subst e;rw [<- hxg];exact no
     ·exact hrj i hi (by omega)
  ·have no:vt v=false:=by
    unfold vt
    rw [List.any_eq_false]
    intro x hx
    obtain ⟨i,hi,rfl⟩:=List.mem_iff_getElem.1 hx
    simp [hrj i hi hi]
   conv=>whnf
   (refine ⟨by omega,_,by rw [toNat_cast];exact hg,?_⟩);refine dd ?_
   rw [mg]
   refine ⟨fun h=>absurd h (by simp),fun _=>?_⟩
   refine dd ?_
   refine ⟨by simp,?_⟩
   conv=>whnf
   refine .inl ⟨rfl,?_,fun i hi hij=>?_⟩
   ·rw [zn (by omega)]
    exact cE 1
   ·by_cases e:i=k
    ·subst e;rw [<- hx];exact no
    ·exact hr2 i hi (by omega)
 ·have h1:jw w=true:=by
   unfold jw
   rw [Bool.not_eq_true',List.any_eq_false]
   intro x hx
   obtain ⟨i,hi,rfl⟩:=List.mem_iff_getElem.1 hx
   simp [hr2 i hi hi]
  rw [h1]
  conv=>whnf
  rw [m2]
  refine ⟨fun h=>absurd h (by simp),fun _=>?_⟩
  refine dd ?_
  refine ⟨by simp,?_⟩
  conv=>whnf
  exact ⟨.inl rfl,_,.refl _,rfl⟩
theorem za0 (w:Wor) (hw:WkQ w):zb Tryz.prog 36 [] [Cw w] (Bo (xC w)) []:=by
 have m1:(w.pins.map Go.Hy.encI).length=w.pins.length:=List.length_map ..
 have m3:(w.zc.map qy).length=w.zc.length:=List.length_map ..
 have b1:=hw.pins
 have b3:=hw.zc
 refine zb.zl (fn:=Tryz.f36) Tryz.func36 rfl ?_
 conv=>whnf
 refine zE.seq w.pins.length (fun k=>[Cw w,.ref 0 [] 8 0 0,Bo false,I k,.za,.za,.za,.za,.za,.za,.za,.za,.za,.za,.za,.za,.za,.za,.za,.za,.za,.za,.za,.za,.za,.za,.za,.za,.za,.za,.za,.za,.za,.za,.za,.za,.za,.za,.za]) (fun k=>[⟨1,28,8,[zR w],0⟩]) (fun k=>∀ j,(h:j < w.pins.length)->j < k->ym w.pins[j]=false) ?_ (by simp) (fun k hk hr=>?_) (fun hr=>?_)
 ·exact cC
 ·obtain ⟨x,hx⟩:∃ x,x=w.pins[k]:=⟨_,rfl⟩
  have hg:(w.pins.map Go.Hy.encI)[k]?= some (Go.Hy.encI x):=by rw [List.getElem?_map,List.getElem?_eq_getElem hk,hx];rfl
  have bad:ym x=true->xC w=false:=fun h=>by
   unfold xC;rw [List.any_eq_true.2 ⟨x,by rw [hx];exact List.getElem_mem hk,h⟩];rfl
  conv=>whnf
  rw [m1]
  (refine ⟨fun _=>?_,fun h=>absurd h (by simp;omega)⟩);refine dd ?_
  (refine ⟨by omega,_,by rw [toNat_cast];exact hg,?_⟩);refine dd ?_
  refine ⟨fun c1=>?_,fun c1=>?_⟩
  ·rw [bad (by simp at c1;simp [ym,c1])]
   refine dd ?_
   (refine .inr ⟨by simp,?_⟩);(conv=>whnf)
   exact ⟨.inl rfl,_,.refl _,rfl⟩
  refine dd ?_
  refine .inl ⟨rfl,?_,fun i hi hij=>?_⟩
  ·rw [zn (by omega)]
   exact cE 1
  ·by_cases e:i=k
   ·subst e;rw [<- hx];simp at c1;simp [ym,c1]
   ·exact hr i hi (by omega)
 have h0:w.pins.any ym=false:=by
  rw [List.any_eq_false]
  intro x hx
  obtain ⟨i,hi,rfl⟩:=List.mem_iff_getElem.1 hx
  simp [hr i hi hi]
 have e1:xC w=(!w.zc.any kV && w.lock == 0 && jw w):=by unfold xC;rw [h0];rfl
 conv=>whnf
 rw [m1]
 (refine ⟨fun h=>absurd h (by simp),fun _=>?_⟩);refine dd ?_;(refine ⟨by simp,?_⟩);conv=>whnf
 refine zE.seq w.zc.length (fun k=>[Cw w,.ref 0 [] 8 0 0,Bo false,.za,I k,.za,.za,.za,.za,.za,.za,.za,.za,.za,.za,.za,.za,.za,.za,.za,.za,.za,.za,.za,.za,.za,.za,.za,.za,.za,.za,.za,.za,.za,.za,.za,.za,.za,.za]) (fun k=>[⟨1,28,8,[zR w],0⟩]) (fun k=>∀ j,(h:j < w.zc.length)->j < k->kV w.zc[j]=false) ?_ (by simp) (fun k hk hr=>?_) (fun hr=>?_)
 ·exact cC
 ·obtain ⟨x,hx⟩:∃ x,x=w.zc[k]:=⟨_,rfl⟩
  have hg:(w.zc.map qy)[k]?= some (qy x):=by rw [List.getElem?_map,List.getElem?_eq_getElem hk,hx];rfl
  have bad:kV x=true->xC w=false:=fun h=>by
   rw [e1,List.any_eq_true.2 ⟨x,by rw [hx];exact List.getElem_mem hk,h⟩];rfl
  conv=>whnf
  rw [m3]
  (refine ⟨fun _=>?_,fun h=>absurd h (by simp;omega)⟩);refine dd ?_
  (refine ⟨by omega,_,by rw [toNat_cast];exact hg,?_⟩);refine dd ?_
  refine ⟨fun c1=>?_,fun c1=>?_⟩
  ·rw [bad (by simp at c1;simp [kV,c1])]
   refine dd ?_
   (refine .inr ⟨by simp,?_⟩);(conv=>whnf)
   exact ⟨.inl rfl,_,.refl _,rfl⟩
  refine dd ?_
  refine .inl ⟨rfl,?_,fun i hi hij=>?_⟩
  ·rw [zn (by omega)]
   exact cE 1
  ·by_cases e:i=k
   ·subst e;rw [<- hx];simp at c1;simp [kV,c1]
   ·exact hr i hi (by omega)
 have h1:w.zc.any kV=false:=by
  rw [List.any_eq_false]
  intro x hx
  obtain ⟨i,hi,rfl⟩:=List.mem_iff_getElem.1 hx
  simp [hr i hi hi]
 have e2:xC w=(w.lock == 0 && jw w):=by rw [e1,h1];rfl
 conv=>whnf
 rw [m3]
 (refine ⟨fun h=>absurd h (by simp),fun _=>?_⟩);refine dd ?_;(refine ⟨by simp,?_⟩);conv=>whnf
 refine ⟨fun c2=>?_,fun c2=>?_⟩
 ·have e:xC w=jw w:=by rw [e2];simp at c2;rw [c2];rfl
  rw [e]
  refine dd ?_
  refine ⟨_,_,(zfq w hw).frame rfl _,?_⟩;refine dd ?_
  refine ⟨fun q=>?_,fun q=>?_⟩
  all_goals
   rw [q]
   refine dd ?_
   (try (repeat ((first | apply ya | apply yb);refine dd ?_)))
   exact ⟨.inl rfl,_,.refl _,rfl⟩
 ·have e:xC w=false:=by rw [e2];simp at c2;simp [c2]
  rw [e]
  refine dd ?_
  exact ⟨.inl rfl,_,.refl _,rfl⟩
def yL (l:Lis):Bool:=l.drain && !l.closed
theorem zlj (w:Wor):isQ w=(!w.zg.any jS && !w.zc.any yL && xC w):=by
 rw [Bool.eq_iff_iff,zhj]
 simp only [Bool.and_eq_true,Bool.not_eq_true',List.any_eq_false,zcP]
 constructor
 ·rintro ⟨h1,h2,h3⟩
  refine ⟨⟨fun r hr=>by simp [jS,h2 r hr],fun l hl=>?_⟩,h1⟩
  simp [yL]
  exact h3 l hl
 ·rintro ⟨⟨h2,h3⟩,h1⟩
  refine ⟨h1,fun r hr=>by have:=h2 r hr;simpa [jS] using this,fun l hl hd=>?_⟩
  have:=h3 l hl
  simpa [yL,hd] using this
theorem zin (w:Wor) (hw:WkQ w):zb Tryz.prog 27 [] [Cw w] (Bo (isQ w)) []:=by
 have m1:(w.zg.map qz).length=w.zg.length:=List.length_map ..
 have m3:(w.zc.map qy).length=w.zc.length:=List.length_map ..
 have b1:=hw.zg
 have b3:=hw.zc
 rw [zlj]
 generalize hQ:(!w.zg.any jS && !w.zc.any yL && xC w)=Q
 refine zb.zl (fn:=Tryz.f27) Tryz.func27 rfl ?_
 conv=>whnf
 refine zE.seq w.zg.length (fun k=>[Cw w,.ref 0 [] 8 0 0,Bo false,I k,.za,.za,.za,.za,.za,.za,.za,.za,.za,.za,.za,.za,.za,.za,.za,.za,.za,.za,.za,.za,.za,.za,.za,.za,.za,.za,.za,.za,.za,.za,.za,.za,.za,.za,.za,.za,.za,.za,.za]) (fun k=>[⟨1,28,8,[zR w],0⟩]) (fun k=>∀ j,(h:j < w.zg.length)->j < k->jS w.zg[j]=false) ?_ (by simp) (fun k hk hr=>?_) (fun hr=>?_)
 ·exact cC
 ·obtain ⟨x,hx⟩:∃ x,x=w.zg[k]:=⟨_,rfl⟩
  have hg:(w.zg.map qz)[k]?= some (qz x):=by rw [List.getElem?_map,List.getElem?_eq_getElem hk,hx];rfl
  have bad:jS x=true->Q=false:=fun h=>by
   rw [<- hQ,List.any_eq_true.2 ⟨x,by rw [hx];exact List.getElem_mem hk,h⟩];rfl
  conv=>whnf
  rw [m1]
  (refine ⟨fun _=>?_,fun h=>absurd h (by simp;omega)⟩);refine dd ?_
  (refine ⟨by omega,_,by rw [toNat_cast];exact hg,?_⟩);refine dd ?_
  refine ⟨fun c1=>?_,fun c1=>?_⟩
  rotate_left
  ·rw [bad (by unfold jS;rw [c1];rfl)]
   refine dd ?_
   (refine .inr ⟨by simp,?_⟩);(conv=>whnf)
   exact ⟨.inl rfl,_,.refl _,rfl⟩
  refine dd ?_
  refine .inl ⟨rfl,?_,fun i hi hij=>?_⟩
  ·rw [zn (by omega)]
   exact cE 1
  ·by_cases e:i=k
   ·subst e;rw [<- hx];unfold jS;rw [c1];rfl
   ·exact hr i hi (by omega)
 have h0:w.zg.any jS=false:=by
  rw [List.any_eq_false]
  intro x hx
  obtain ⟨i,hi,rfl⟩:=List.mem_iff_getElem.1 hx
  simp [hr i hi hi]
 have e1:Q=(!w.zc.any yL && xC w):=by rw [<- hQ,h0];rfl
 conv=>whnf
 rw [m1]
 (refine ⟨fun h=>absurd h (by simp),fun _=>?_⟩);refine dd ?_;(refine ⟨by simp,?_⟩);conv=>whnf
 refine zE.seq w.zc.length (fun k=>[Cw w,.ref 0 [] 8 0 0,Bo false,.za,I k,.za,.za,.za,.za,.za,.za,.za,.za,.za,.za,.za,.za,.za,.za,.za,.za,.za,.za,.za,.za,.za,.za,.za,.za,.za,.za,.za,.za,.za,.za,.za,.za,.za,.za,.za,.za,.za,.za]) (fun k=>[⟨1,28,8,[zR w],0⟩]) (fun k=>∀ j,(h:j < w.zc.length)->j < k->yL w.zc[j]=false) ?_ (by simp) (fun k hk hr=>?_) (fun hr=>?_)
 ·exact cC
 ·obtain ⟨x,hx⟩:∃ x,x=w.zc[k]:=⟨_,rfl⟩
  have hg:(w.zc.map qy)[k]?= some (qy x):=by rw [List.getElem?_map,List.getElem?_eq_getElem hk,hx];rfl
  have bad:yL x=true->Q=false:=fun h=>by
   rw [e1,List.any_eq_true.2 ⟨x,by rw [hx];exact List.getElem_mem hk,h⟩];rfl
  have jn:yL x=false->∀ i,(h:i < w.zc.length)->i < k+1->yL w.zc[i]=false:=fun h i hi hij=>by
   by_cases e:i=k
   ·subst e;rw [<- hx];exact h
   ·exact hr i hi (by omega)
  clear hx
  obtain ⟨xa,xb,xc,xd⟩:=x
  conv=>whnf
  rw [m3]
  (refine ⟨fun _=>?_,fun h=>absurd h (by simp;omega)⟩);refine dd ?_
  (refine ⟨by omega,_,by rw [toNat_cast];exact hg,?_⟩);refine dd ?_
  refine ⟨fun c1=>?_,fun c1=>?_⟩
  ·refine dd ?_
   (refine ⟨by omega,_,by rw [toNat_cast];exact hg,?_⟩);refine dd ?_
   refine ⟨fun c2=>?_,fun c2=>?_⟩
   rotate_left
   ·rw [bad (by unfold yL;simp at c1 c2;simp [c1,c2])]
    refine dd ?_
    (try (repeat ((first | apply ya | apply yb);refine dd ?_)))
    (refine .inr ⟨by simp,?_⟩);(conv=>whnf)
    exact ⟨.inl rfl,_,.refl _,rfl⟩
   ·refine dd ?_
    (try (repeat ((first | apply ya | apply yb);refine dd ?_)))
    refine .inl ⟨rfl,?_,jn (by unfold yL;simp at c1 c2;simp [c1,c2])⟩
    rw [zn (by omega)]
    exact cE 1
  ·refine dd ?_
   (try (repeat ((first | apply ya | apply yb);refine dd ?_)))
   refine .inl ⟨rfl,?_,jn (by unfold yL;simp at c1;simp [c1])⟩
   rw [zn (by omega)]
   exact cE 1
 have h1:w.zc.any yL=false:=by
  rw [List.any_eq_false]
  intro x hx
  obtain ⟨i,hi,rfl⟩:=List.mem_iff_getElem.1 hx
  simp [hr i hi hi]
 have e2:Q=xC w:=by rw [e1,h1];rfl
 conv=>whnf
 rw [m3]
 (refine ⟨fun h=>absurd h (by simp),fun _=>?_⟩);refine dd ?_;(refine ⟨by simp,?_⟩);conv=>whnf
 refine ⟨_,_,(za0 w hw).frame rfl _,?_⟩;refine dd ?_
 refine ⟨fun q=>?_,fun q=>?_⟩
 all_goals
  rw [e2,q]
  refine dd ?_
  (try (repeat ((first | apply ya | apply yb);refine dd ?_)))
  exact ⟨.inl rfl,_,.refl _,rfl⟩
end Go.Wor
namespace Go.Wor
open Go.Ab Go.Proofs Go.Gat Go.Nam Go.Hos Go.Con Go.Sna Go.Pla
open Go.Hy hiding encI
theorem zjM {α:Type} (f:α->Nat) (l:List α) {k:Nat} (h:k < l.length):((l.take (k+1)).map f).sum=((l.take k).map f).sum+f l[k]:=by
 rw [List.take_succ_eq_append_getElem h,List.map_append,List.sum_append]
 simp
theorem zlK {α:Type} (f:α->Nat) (b:Nat):∀ (l:List α),(∀ x ∈ l,f x<=b)->(l.map f).sum<=l.length * b
 | [],_=>by simp
 | x::l,h=>by
  have:=zlK f b l fun y hy=>h y (List.mem_cons_of_mem _ hy)
  have:=h x (List.mem_cons_self ..)
  rw [List.map_cons,List.sum_cons,List.length_cons,Nat.add_mul]
  omega
theorem kr {α:Type} (f:α->Nat) (b:Nat) (l:List α) (h:∀ x ∈ l,f x<=b) (k:Nat):((l.take k).map f).sum<=l.length * b:=
 Nat.le_trans (zlK f b _ fun x hx=>h x (List.mem_of_mem_take hx)) (Nat.mul_le_mul_right _ (by rw [List.length_take];omega))
def qS (w:Wor) (r:Ret):Nat:=if 0<=r.version∧r.version < w.zd.length then qR w r else 0
def zen (w:Wor):Nat:=5+w.pins.length+3 * w.zc.length+(w.zg.map (qS w)).sum
structure zj3 (w:Wor):Prop where
 pins:w.pins.length<=1000
 zc:w.zc.length<=1000
 zg:w.zg.length<=1000
 xI:w.zd.length<=1000∧∀ v ∈ w.zd,zfK v
theorem zhu {w:Wor} (h:zj3 w) (r:Ret):qS w r<=1000002:=by
 unfold qS
 split
 ·unfold qR
  split
  ·rename_i v hv
   have f:=h.xI.2 v (List.mem_of_getElem? hv)
   have:=zbO v.zi f.ends
   have:=f.zi
   unfold zX
   omega
  ·omega
 ·omega
theorem y9 (w:Wor) (hw:zj3 w):zb Tryz.prog 28 [] [Cw w] (I (zen w)) []:=by
 have m1:(w.pins.map Go.Hy.encI).length=w.pins.length:=List.length_map ..
 have m2:(w.zd.map qm).length=w.zd.length:=List.length_map ..
 have m3:(w.zc.map qy).length=w.zc.length:=List.length_map ..
 have m4:(w.zg.map qz).length=w.zg.length:=List.length_map ..
 have b1:=hw.pins
 have b2:=hw.xI.1
 have b3:=hw.zc
 have b4:=hw.zg
 refine zb.zl (fn:=Tryz.f28) Tryz.func28 rfl ?_
 conv=>whnf
 rw [m1,m3,m4]
 have e1:IntKind.i64.wrap (IntKind.i64.wrap (5+(w.pins.length:Int))+IntKind.i64.wrap (3 * (w.zc.length:Int)))=((5+w.pins.length+3 * w.zc.length+0:Nat):Int):=by
  rw [zV (n:=5+(w.pins.length:Int)) (by omega) (by omega),zV (n:=3 * (w.zc.length:Int)) (by omega) (by omega),zV (by omega) (by omega)]
  omega
 rw [e1]
 refine zE.seq w.zg.length (fun k=>[.za,.ref 0 [] 8 0 0,I 0,I (5+w.pins.length+3 * w.zc.length+((w.zg.take k).map (qS w)).sum:Nat),.za,.za,.za,.za,.za,.za,.za,.za,.za,.za,.za,.za,lR w.zg,I w.zg.length,I k,.za,.za,.za,.za,.za,.za,.za,.za,.za,.za,.za,.za,.za,.za,.za,.za,.za,.za,.za,.za,.za,.za,.za,.za,.za,.za]) (fun k=>[⟨1,28,8,[zR w],0⟩]) (fun k=>True) ?_ trivial (fun k hk _=>?_) (fun _=>?_)
 ·exact cC
 ·obtain ⟨x,hx⟩:∃ x,x=w.zg[k]:=⟨_,rfl⟩
  have hg:(w.zg.map qz)[k]?= some (qz x):=by rw [List.getElem?_map,List.getElem?_eq_getElem hk,hx];rfl
  have sk:=zjM (qS w) w.zg hk
  rw [<- hx] at sk
  have sb:=kr (qS w) 1000002 w.zg (fun r _=>zhu hw r) k
  have sc:=kr (qS w) 1000002 w.zg (fun r _=>zhu hw r) (k+1)
  have no:¬(0<=x.version∧x.version < w.zd.length)->((w.zg.take (k+1)).map (qS w)).sum=((w.zg.take k).map (qS w)).sum:=fun h=>by rw [sk];unfold qS;rw [if_neg h];rfl
  conv=>whnf
  (refine ⟨fun _=>?_,fun h=>absurd h (by simp;omega)⟩);refine dd ?_
  (refine ⟨by omega,_,by rw [toNat_cast];exact hg,?_⟩);refine dd ?_
  refine ⟨fun c1=>?_,fun c1=>?_⟩
  ·refine dd ?_
   rw [m2]
   refine ⟨fun c2=>?_,fun c2=>?_⟩
   ·refine dd ?_
    have c1:0<=x.version:=by simpa using c1
    have c2:x.version < w.zd.length:=by simpa using c2
    obtain ⟨v,hv⟩:∃ v,w.zd[x.version.toNat]?= some v:=⟨_,List.getElem?_eq_getElem (by omega)⟩
    have hgv:(w.zd.map qm)[x.version.toNat]?= some (qm v):=by rw [List.getElem?_map,hv];rfl
    have q:qS w x=2+(zX v).length:=by unfold qS;rw [if_pos ⟨c1,c2⟩];unfold qR;rw [hv]
    (try (repeat ((first | apply ya | apply yb);refine dd ?_)))
    refine ⟨c1,_,hgv,?_⟩
    refine dd ?_
    refine ⟨_,_,(zaH v (hw.xI.2 v (List.mem_of_getElem? hv))).frame rfl _,?_⟩;refine dd ?_
    have e2:IntKind.i64.wrap (((5+w.pins.length+3 * w.zc.length+((w.zg.take k).map (qS w)).sum:Nat):Int)+IntKind.i64.wrap (2+((zX v).length:Int)))=((5+w.pins.length+3 * w.zc.length+((w.zg.take (k+1)).map (qS w)).sum:Nat):Int):=by
     rw [zV (n:=2+((zX v).length:Int)) (by omega) (by omega),zV (by omega) (by omega)]
     omega
    rw [e2,zn (by omega)]
    refine .inl ⟨rfl,?_,trivial⟩
    exact cE 1
   ·refine dd ?_
    (try (repeat ((first | apply ya | apply yb);refine dd ?_)))
    rw [zn (by omega),<- no (fun h=>by simp at c2;omega)]
    refine .inl ⟨rfl,?_,trivial⟩
    exact cE 1
  ·refine dd ?_
   (try (repeat ((first | apply ya | apply yb);refine dd ?_)))
   rw [zn (by omega),<- no (fun h=>by simp at c1;omega)]
   refine .inl ⟨rfl,?_,trivial⟩
   exact cE 1
 ·(conv=>whnf);(refine ⟨fun h=>absurd h (by simp),fun _=>?_⟩);refine dd ?_;(refine ⟨by simp,?_⟩);(conv=>whnf)
  rw [List.take_length]
  exact ⟨.inl rfl,_,.refl _,rfl⟩
theorem zfp (v:Ver) (h:zfK v):zb Tryz.prog 71 [] [Cv v] (I (zX v).length) []:=by
 have m1:(v.zi.map qJ).length=v.zi.length:=List.length_map ..
 have b1:=h.zi
 refine zb.zl (fn:=Tryz.f71) Tryz.func71 rfl ?_
 conv=>whnf
 refine zE.seq v.zi.length (fun k=>[.za,.ref 0 [] 5 0 0,I 0,I (((v.zi.take k).map fun g=>g.ends.length).sum:Nat),I k,.za,.za,.za,.za,.za,.za,.za,.za,.za,.za,.za,.za,.za,.za,.za,.za,.za]) (fun k=>[⟨1,72,5,[qm v],0⟩]) (fun k=>True) ?_ trivial (fun k hk _=>?_) (fun _=>?_)
 ·exact cC
 ·obtain ⟨x,hx⟩:∃ x,x=v.zi[k]:=⟨_,rfl⟩
  have hg:(v.zi.map qJ)[k]?= some (qJ x):=by rw [List.getElem?_map,List.getElem?_eq_getElem hk,hx];rfl
  have m2:(x.ends.map zU).length=x.ends.length:=List.length_map ..
  have sk:=zjM (fun g:Gr=>g.ends.length) v.zi hk
  rw [<- hx] at sk
  have sb:=kr (fun g:Gr=>g.ends.length) 1000 v.zi (fun g hg=>h.ends g hg) k
  have sc:=kr (fun g:Gr=>g.ends.length) 1000 v.zi (fun g hg=>h.ends g hg) (k+1)
  conv=>whnf
  rw [m1]
  (refine ⟨fun _=>?_,fun h=>absurd h (by simp;omega)⟩);refine dd ?_
  (refine ⟨by omega,_,by rw [toNat_cast];exact hg,?_⟩);refine dd ?_
  rw [m2]
  have e2:IntKind.i64.wrap (((((v.zi.take k).map fun g=>g.ends.length).sum:Nat):Int)+(x.ends.length:Int))=((((v.zi.take (k+1)).map fun g=>g.ends.length).sum:Nat):Int):=by
   rw [zV (by omega) (by omega)]
   omega
  rw [e2,zn (by omega)]
  refine .inl ⟨rfl,?_,trivial⟩
  exact cE 1
 ·have e:((v.zi.take v.zi.length).map fun g=>g.ends.length).sum=(zX v).length:=by
   rw [List.take_length]
   unfold zX
   rw [List.length_flatMap]
  conv=>whnf
  rw [m1]
  refine ⟨fun h=>absurd h (by simp),fun _=>?_⟩
  refine dd ?_
  refine ⟨by simp,?_⟩
  conv=>whnf
  rw [e]
  exact ⟨.inl rfl,_,.refl _,rfl⟩
theorem zeg (w:Wor) (hw:zj3 w):zb Tryz.prog 29 [] [Cw w] (I (zen w)) []:=by
 have m1:(w.pins.map Go.Hy.encI).length=w.pins.length:=List.length_map ..
 have m2:(w.zd.map qm).length=w.zd.length:=List.length_map ..
 have m3:(w.zc.map qy).length=w.zc.length:=List.length_map ..
 have m4:(w.zg.map qz).length=w.zg.length:=List.length_map ..
 have b1:=hw.pins
 have b2:=hw.xI.1
 have b3:=hw.zc
 have b4:=hw.zg
 refine zb.zl (fn:=Tryz.f29) Tryz.func29 rfl ?_
 conv=>whnf
 rw [m1,m3]
 have e1:IntKind.i64.wrap (IntKind.i64.wrap (5+(w.pins.length:Int))+IntKind.i64.wrap (3 * (w.zc.length:Int)))=((5+w.pins.length+3 * w.zc.length+0:Nat):Int):=by
  rw [zV (n:=5+(w.pins.length:Int)) (by omega) (by omega),zV (n:=3 * (w.zc.length:Int)) (by omega) (by omega),zV (by omega) (by omega)]
  omega
 rw [e1]
 refine zE.seq w.zg.length (fun k=>[.za,.ref 0 [] 8 0 0,I 0,I (5+w.pins.length+3 * w.zc.length+((w.zg.take k).map (qS w)).sum:Nat),I k,.za,.za,.za,.za,.za,.za,.za,.za,.za,.za,.za,.za,.za,.za,.za,.za,.za,.za,.za,.za,.za,.za,.za,.za,.za,.za,.za,.za,.za,.za,.za,.za,.za,.za,.za,.za,.za,.za,.za,.za,.za,.za]) (fun k=>[⟨1,28,8,[zR w],0⟩]) (fun k=>True) ?_ trivial (fun k hk _=>?_) (fun _=>?_)
 ·exact cC
 ·obtain ⟨x,hx⟩:∃ x,x=w.zg[k]:=⟨_,rfl⟩
  have hg:(w.zg.map qz)[k]?= some (qz x):=by rw [List.getElem?_map,List.getElem?_eq_getElem hk,hx];rfl
  have sk:=zjM (qS w) w.zg hk
  rw [<- hx] at sk
  have sb:=kr (qS w) 1000002 w.zg (fun r _=>zhu hw r) k
  have sc:=kr (qS w) 1000002 w.zg (fun r _=>zhu hw r) (k+1)
  have no:¬(0<=x.version∧x.version < w.zd.length)->((w.zg.take (k+1)).map (qS w)).sum=((w.zg.take k).map (qS w)).sum:=fun h=>by rw [sk];unfold qS;rw [if_neg h];rfl
  conv=>whnf
  rw [m4]
  (refine ⟨fun _=>?_,fun h=>absurd h (by simp;omega)⟩);refine dd ?_
  (refine ⟨by omega,_,by rw [toNat_cast];exact hg,?_⟩);refine dd ?_
  refine ⟨fun c1=>?_,fun c1=>?_⟩
  ·refine dd ?_
   rw [m2]
   refine ⟨fun c2=>?_,fun c2=>?_⟩
   ·refine dd ?_
    have c1:0<=x.version:=by simpa using c1
    have c2:x.version < w.zd.length:=by simpa using c2
    obtain ⟨v,hv⟩:∃ v,w.zd[x.version.toNat]?= some v:=⟨_,List.getElem?_eq_getElem (by omega)⟩
    have hgv:(w.zd.map qm)[x.version.toNat]?= some (qm v):=by rw [List.getElem?_map,hv];rfl
    have q:qS w x=2+(zX v).length:=by unfold qS;rw [if_pos ⟨c1,c2⟩];unfold qR;rw [hv]
    (try (repeat ((first | apply ya | apply yb);refine dd ?_)))
    refine ⟨c1,_,hgv,?_⟩
    refine dd ?_
    refine ⟨_,_,(zfp v (hw.xI.2 v (List.mem_of_getElem? hv))).frame rfl _,?_⟩;refine dd ?_
    have e2:IntKind.i64.wrap (IntKind.i64.wrap (((5+w.pins.length+3 * w.zc.length+((w.zg.take k).map (qS w)).sum:Nat):Int)+2)+((zX v).length:Int))=((5+w.pins.length+3 * w.zc.length+((w.zg.take (k+1)).map (qS w)).sum:Nat):Int):=by
     rw [zV (n:=((5+w.pins.length+3 * w.zc.length+((w.zg.take k).map (qS w)).sum:Nat):Int)+2) (by omega) (by omega),zV (by omega) (by omega)]
     omega
    rw [e2,zn (by omega)]
    refine .inl ⟨rfl,?_,trivial⟩
    exact cE 1
   ·refine dd ?_
    (try (repeat ((first | apply ya | apply yb);refine dd ?_)))
    rw [zn (by omega),<- no (fun h=>by simp at c2;omega)]
    refine .inl ⟨rfl,?_,trivial⟩
    exact cE 1
  ·refine dd ?_
   (try (repeat ((first | apply ya | apply yb);refine dd ?_)))
   rw [zn (by omega),<- no (fun h=>by simp at c1;omega)]
   refine .inl ⟨rfl,?_,trivial⟩
   exact cE 1
 ·conv=>whnf
  rw [m4]
  refine ⟨fun h=>absurd h (by simp),fun _=>?_⟩
  refine dd ?_
  refine ⟨by simp,?_⟩
  conv=>whnf
  rw [List.take_length]
  exact ⟨.inl rfl,_,.refl _,rfl⟩
end Go.Wor
namespace Go.Wor
open Go.Ab Go.Proofs Go.Gat Go.Nam Go.Hos Go.Con Go.Sna Go.Pla
open Go.Hy hiding encI
def qT:Nat->Wor->Wor
 | 0,w=>w
 | n+1,w=>yu (qT n w)
theorem zlA (w:Wor) (r:Ret):qR (xp w) (goR w r)=qR w r:=by
 have hv:(goR w r).version=r.version:=by unfold goR;split <;> rfl
 unfold qR
 rw [hv]
 show (match (w.zd.mapIdx (fun k v=>{ v with j5:=jW (w.zg.map (goR w)) k }))[r.version.toNat]? with | some v=>_ | none=>_)=_
 rw [List.getElem?_mapIdx]
 cases w.zd[r.version.toNat]? <;> rfl
theorem zix (w:Wor):qv (xp w)=qv w:=by
 have e:(w.zg.map (goR w)).map (qR (xp w))=w.zg.map (qR w):=by
  rw [List.map_map]
  exact List.map_congr_left fun r _=>zlA w r
 unfold qv wP
 show 5+w.pins.length+3 * (w.zc.map jY).length+(((w.zg.map (goR w)).drop 0).map (qR (xp w))).sum=_
 rw [List.length_map,List.drop_zero,List.drop_zero,e]
theorem zgW (w:Wor):qv (yu w)=qv w:=by
 unfold yu
 split
 ·exact zix w
 ·rfl
theorem vc (w:Wor):∀ n,qv (qT n w)=qv w
 | 0=>rfl
 | n+1=>(zgW _).trans (vc w n)
theorem wN {N K:Nat} {w:Wor} (st:St N K w):∀ n,N+n * qv w<=100000000->∃ K',St (N+n * qv w) K' (qT n w)
 | 0,_=>⟨K,by rw [Nat.zero_mul];exact st⟩
 | n+1,h=>by
  rw [Nat.add_mul] at h ⊢
  obtain ⟨K',s⟩:=wN st n (by omega)
  have e:=vc w n
  obtain ⟨_,_,K2,_,_,_,h4⟩:=w8 s (by rw [e];omega)
  rw [e] at h4
  exact ⟨K2,h4.mono (by omega) (Nat.le_refl _)⟩
theorem zhZ {N K:Nat} {w:Wor} (h:Idl w) (st:St N K w) (hN:N+qv w<=100000000) (he:w.zj<=1000000):Qui (qT 3 w):=by
 have e1:qT 1 w=xp w:=by
  show yu w=_
  unfold yu
  rw [if_pos h.lock]
 obtain ⟨_,s⟩:=wN st 1 (by omega)
 rw [e1] at s
 have h1:=h.col (by omega)
 have h2:=h.zmv st.jn he s.jn
 have e2:qT 2 w=xp (xp w):=by
  show yu (qT 1 w)=_
  rw [e1]
  unfold yu
  rw [if_pos h1.1.lock]
 show Qui (yu (qT 2 w))
 rw [e2]
 unfold yu
 rw [if_pos h2.lock]
 refine h2.col ?_
 rw [(h1.1.col (by rw [h1.2];omega)).2,h1.2]
 omega
def yv (w:Wor) (n:Int):Wor × Int:=if qf w=true∧0<=n∧n<=10 then (qT n.toNat w,0) else (zb3,1)
theorem zdm {w:Wor} (hb:xV w=false) (hg:qA w):qv w<=2000:=by
 obtain ⟨b1,b2,b3,b4,b5,b6⟩:=yC hb
 have q:∀ r ∈ w.zg.drop 0,qR w r<=18:=fun r _=>by
  unfold qR
  split
  ·rename_i v hv
   have:=vy (hg.ver _ v hv).1
   omega
  ·omega
 have:=zlK (qR w) 18 (w.zg.drop 0) q
 rw [List.drop_zero] at this
 unfold qv wP
 rw [List.drop_zero]
 omega
end Go.Wor
namespace Go.Wor
open Go.Ab Go.Proofs Go.Gat Go.Nam Go.Hos Go.Con Go.Sna Go.Pla Go.Dep
open Go.Hy hiding encI
theorem zhK:zb Tryz.prog 18 [] [I 0,.agg (wb opC),lA []] (Sm zfb) []:=by
 have h:=Beg.zex 0 opC [] (by decide)
 have e:Beg.wX 0 opC []=zfb:=by rw [ziK];rfl
 rw [e] at h
 exact h
theorem zcS {n:Nat} {w w':Wor} {m':Mac} (hg:zdu n w zfb w' m') (hn:n<=10000):zb Tryz.prog 35 [] [Sw w,I 0,zls,.lst 1 0 []] (.tup [Sw w',.agg (yj m'.answer),I n]) []:=
 (zce (given:=[]) zhK hg hn).pre (.cons (.refl _) (.cons (.refl _) (.cons (WC.zmB (.cons (.refl _) (.cons (.refl _) (.cons (.refl _) (.cons (.refl _) (.cons (.refl _) (.cons (.refl _) (.cons (.refl _) (.cons (WC.nil 0 1) (.cons (WC.nil 0 4) (.cons (WC.nil 0 4) .nil))))))))))) (.cons (WC.nil 0 13) .nil))))
theorem zel (w:Wor) (n:Int) (ok:OkW w) (hg:qf w=true->∀ k:Nat,k < 10->∃ j m',zdu j (qT k w) zfb (qT (k+1) w) m'∧j<=10000):zb Tryz.prog 32 [] [Sw w,I n] (.tup [Sw (yv w n).1,I (yv w n).2]) []:=by
 have no:¬(qf w=true∧0<=n∧n<=10)->yv w n=(zb3,1):=fun h=>if_neg h
 refine zb.zl (fn:=Tryz.f32) Tryz.func32 rfl ?_
 conv=>whnf
 refine ⟨_,_,(jG w ok).frame rfl _,?_⟩;refine dd ?_
 refine ⟨fun h1=>?_,fun h1=>?_⟩
 rotate_left
 ·rw [no (by rintro ⟨h,_⟩;rw [h] at h1;cases h1)]
  refine dd ?_
  (try (repeat ((first | apply ya | apply yb);refine dd ?_)))
  exact ⟨.inl rfl,_,zk.var 1 rfl rfl rfl (.cons (.refl _) (.cons (.refl _) (.cons (.refl _) (.cons (WC.nil 0 1) (.cons (WC.nil 0 5) (.cons (WC.nil 0 4) (.cons (WC.nil 0 1) (.cons (WC.nil 0 3) .nil)))))))),rfl⟩
 have hw:=h1
 refine dd ?_
 refine ⟨fun h2=>?_,fun h2=>?_⟩
 ·have h2:n < 0:=by simpa using h2
  rw [no (by omega)]
  refine dd ?_
  (try (repeat ((first | apply ya | apply yb);refine dd ?_)))
  exact ⟨.inl rfl,_,zk.var 1 rfl rfl rfl (.cons (.refl _) (.cons (.refl _) (.cons (.refl _) (.cons (WC.nil 0 1) (.cons (WC.nil 0 5) (.cons (WC.nil 0 4) (.cons (WC.nil 0 1) (.cons (WC.nil 0 3) .nil)))))))),rfl⟩
 have h2:0<=n:=by simpa using h2
 refine dd ?_
 refine ⟨fun h3=>?_,fun h3=>?_⟩
 ·have h3:10 < n:=by simpa using h3
  rw [no (by omega)]
  refine dd ?_
  (try (repeat ((first | apply ya | apply yb);refine dd ?_)))
  exact ⟨.inl rfl,_,zk.var 1 rfl rfl rfl (.cons (.refl _) (.cons (.refl _) (.cons (.refl _) (.cons (WC.nil 0 1) (.cons (WC.nil 0 5) (.cons (WC.nil 0 4) (.cons (WC.nil 0 1) (.cons (WC.nil 0 3) .nil)))))))),rfl⟩
 have h3:n<=10:=by simpa using h3
 obtain ⟨N,rfl⟩:∃ N:Nat,n=N:=⟨n.toNat,by omega⟩
 have e:yv w N=(qT N w,0):=by unfold yv;rw [if_pos ⟨hw,h2,h3⟩,Int.toNat_natCast]
 rw [e]
 refine dd ?_
 refine zE.seq N (fun k=>[.za,.za,.ref 0 [] 8 0 0,.za,.ref 1 [] 8 0 0,I 0,.za,.za,.za,.za,.za,.za,.za,.za,.za,.za,.za,.za,I N,I k,.za,.za,.za,.za,.za,.za,.za,.za,.za,.za]) (fun k=>[⟨1,28,8,[zR (qT k w)],0⟩,⟨1,28,8,[[I 0,I 0,I 0,.lst 1 0 [],.lst 1 0 [],.lst 1 0 [],.lst 1 0 [],.lst 1 0 []]],0⟩]) (fun k=>True) ?_ trivial (fun k hk _=>?_) (fun _=>?_)
 ·exact cC
 ·obtain ⟨j,m',hj,hj2⟩:=hg hw k (by omega)
  conv=>whnf
  (refine ⟨fun _=>?_,fun h=>absurd h (by simp;omega)⟩);refine dd ?_
  refine ⟨_,_,(zcS hj hj2).frame rfl _,?_⟩;refine dd ?_
  refine .inl ⟨rfl,?_,trivial⟩
  rw [zn (by omega)]
  exact cE 2
 ·(conv=>whnf);(refine ⟨fun h=>absurd h (by simp),fun _=>?_⟩);refine dd ?_;(refine ⟨by simp,?_⟩);(conv=>whnf)
  exact ⟨.inl rfl,_,.refl _,rfl⟩
theorem yV {w:Wor} {K:Nat} (n:Int) (ok:OkW w) (h:qf w=true->St 60 K w∧qv w<=10000):zb Tryz.prog 32 [] [Sw w,I n] (.tup [Sw (yv w n).1,I (yv w n).2]) []:=by
 refine zel w n ok fun hw k hk=>?_
 obtain ⟨st,hs⟩:=h hw
 have hm:(k+1) * qv w<=10 * 10000:=Nat.mul_le_mul (by omega) hs
 rw [Nat.add_mul] at hm
 obtain ⟨K',s⟩:=wN st k (by omega)
 obtain ⟨j,m',_,h1,_,h3,_⟩:=w8 s (by rw [vc];omega)
 rw [vc] at h3
 exact ⟨j,m',h1,by omega⟩
end Go.Wor
namespace Go.Wor
open Go.Ab Go.Proofs Go.Gat Go.Nam Go.Hos Go.Con Go.Sna Go.Pla
open Go.Hy hiding encI
abbrev Csr (s:Scr):C:=.agg (vx s)
def zlw (s:Scr):Nat:=(s.threads.map fun l=>l.length).sum
def zkT (s:Scr):Int:=IntKind.i64.wrap ((zlw s:Int) * IntKind.i64.wrap (IntKind.i64.wrap (IntKind.i64.wrap (23 * (zlw s:Int))+IntKind.i64.wrap (6 * (s.threads.length:Int)))+60))
structure WkC (s:Scr):Prop where
 threads:s.threads.length<=1000
 ops:∀ l ∈ s.threads,l.length<=1000
theorem zb2 (s:Scr) (hs:WkC s):zb Tryz.prog 30 [] [Csr s] (I (zkT s)) []:=by
 have m1:(s.threads.map xX).length=s.threads.length:=List.length_map ..
 have b1:=hs.threads
 refine zb.zl (fn:=Tryz.f30) Tryz.func30 rfl ?_
 conv=>whnf
 rw [m1]
 refine zE.seq s.threads.length (fun k=>[.za,.ref 0 [] 5 0 0,I 0,I (((s.threads.take k).map fun l=>l.length).sum:Nat),.za,.za,.za,zll s.threads,I s.threads.length,I k,.za,.za,.za,.za,.za,.za,.za,.za,.za,.za,.za,.za,.za,.za,.za,.za,.za,.za]) (fun k=>[⟨1,54,5,[vx s],0⟩]) (fun k=>True) ?_ trivial (fun k hk _=>?_) (fun _=>?_)
 ·exact cC
 ·obtain ⟨x,hx⟩:∃ x,x=s.threads[k]:=⟨_,rfl⟩
  have hg:(s.threads.map xX)[k]?= some (xX x):=by rw [List.getElem?_map,List.getElem?_eq_getElem hk,hx];rfl
  have m2:(x.map wb).length=x.length:=List.length_map ..
  have sk:=zjM (fun l:List Opn=>l.length) s.threads hk
  rw [<- hx] at sk
  have sb:=kr (fun l:List Opn=>l.length) 1000 s.threads hs.ops k
  have sc:=kr (fun l:List Opn=>l.length) 1000 s.threads hs.ops (k+1)
  conv=>whnf
  (refine ⟨fun _=>?_,fun h=>absurd h (by simp;omega)⟩);refine dd ?_
  (refine ⟨by omega,_,by rw [toNat_cast];exact hg,?_⟩);refine dd ?_
  rw [m2]
  have e2:IntKind.i64.wrap (((((s.threads.take k).map fun l=>l.length).sum:Nat):Int)+(x.length:Int))=((((s.threads.take (k+1)).map fun l=>l.length).sum:Nat):Int):=by
   rw [zV (by omega) (by omega)]
   omega
  rw [e2,zn (by omega)]
  refine .inl ⟨rfl,?_,trivial⟩
  exact cE 1
 ·(conv=>whnf);(refine ⟨fun h=>absurd h (by simp),fun _=>?_⟩);refine dd ?_;(refine ⟨by simp,?_⟩);(conv=>whnf)
  rw [m1,List.take_length]
  exact ⟨.inl rfl,_,.refl _,rfl⟩
theorem zgP (s:Scr) (hs:WkC s):zb Tryz.prog 72 [] [Csr s] (I (zlw s)) []:=by
 have m1:(s.threads.map xX).length=s.threads.length:=List.length_map ..
 have b1:=hs.threads
 refine zb.zl (fn:=Tryz.f72) Tryz.func72 rfl ?_
 conv=>whnf
 refine zE.seq s.threads.length (fun k=>[.za,.ref 0 [] 5 0 0,I 0,I (((s.threads.take k).map fun l=>l.length).sum:Nat),I k,.za,.za,.za,.za,.za,.za,.za,.za,.za,.za,.za,.za,.za,.za,.za,.za]) (fun k=>[⟨1,54,5,[vx s],0⟩]) (fun k=>True) ?_ trivial (fun k hk _=>?_) (fun _=>?_)
 ·exact cC
 ·obtain ⟨x,hx⟩:∃ x,x=s.threads[k]:=⟨_,rfl⟩
  have hg:(s.threads.map xX)[k]?= some (xX x):=by rw [List.getElem?_map,List.getElem?_eq_getElem hk,hx];rfl
  have m2:(x.map wb).length=x.length:=List.length_map ..
  have sk:=zjM (fun l:List Opn=>l.length) s.threads hk
  rw [<- hx] at sk
  have sb:=kr (fun l:List Opn=>l.length) 1000 s.threads hs.ops k
  have sc:=kr (fun l:List Opn=>l.length) 1000 s.threads hs.ops (k+1)
  conv=>whnf
  rw [m1]
  (refine ⟨fun _=>?_,fun h=>absurd h (by simp;omega)⟩);refine dd ?_
  (refine ⟨by omega,_,by rw [toNat_cast];exact hg,?_⟩);refine dd ?_
  rw [m2]
  have e2:IntKind.i64.wrap (((((s.threads.take k).map fun l=>l.length).sum:Nat):Int)+(x.length:Int))=((((s.threads.take (k+1)).map fun l=>l.length).sum:Nat):Int):=by
   rw [zV (by omega) (by omega)]
   omega
  rw [e2,zn (by omega)]
  refine .inl ⟨rfl,?_,trivial⟩
  exact cE 1
 ·conv=>whnf
  rw [m1]
  refine ⟨fun h=>absurd h (by simp),fun _=>?_⟩
  refine dd ?_
  refine ⟨by simp,?_⟩
  conv=>whnf
  rw [List.take_length]
  exact ⟨.inl rfl,_,.refl _,rfl⟩
theorem zfr (s:Scr) (hs:WkC s):zb Tryz.prog 31 [] [Csr s] (I (zkT s)) []:=by
 have m1:(s.threads.map xX).length=s.threads.length:=List.length_map ..
 refine zb.zl (fn:=Tryz.f31) Tryz.func31 rfl ?_
 conv=>whnf
 refine ⟨_,_,(zgP s hs).frame rfl _,?_⟩;refine dd ?_
 rw [m1]
 exact ⟨.inl rfl,_,.refl _,rfl⟩
def zeA (o:Opn):Bool:=kA o.config || decide (100 < o.host.length) || decide (100 < o.path.length)
def zcy (l:List Opn):Bool:=decide (40 < l.length) || l.any zeA
def wY (s:Scr):Bool:=kA s.first || decide (20 < s.threads.length) || decide (5000 < s.zhs.length) || s.threads.any zcy
structure WkB (s:Scr):Prop where
 first:s.first.zc.length < 4000000000000000000∧s.first.zC.length < 4000000000000000000∧s.first.zf.length < 4000000000000000000
 threads:s.threads.length < 4000000000000000000
 ops:∀ l ∈ s.threads,l.length < 4000000000000000000∧∀ o ∈ l,o.config.zc.length < 4000000000000000000∧o.config.zC.length < 4000000000000000000∧o.config.zf.length < 4000000000000000000
theorem zfV (s:Scr) (hs:WkB s):zb Tryz.prog 24 [] [Csr s] (Bo (wY s)) []:=by
 have m1:(s.threads.map xX).length=s.threads.length:=List.length_map ..
 have m2:(s.zhs.map Go.Hy.encI).length=s.zhs.length:=List.length_map ..
 have b1:=hs.threads
 refine zb.zl (fn:=Tryz.f24) Tryz.func24 rfl ?_
 conv=>whnf
 refine ⟨_,_,(zcU s.first hs.first.1 hs.first.2.1 hs.first.2.2).frame rfl _,?_⟩;refine dd ?_
 (refine ⟨fun a1=>?_,fun a1=>?_⟩);(focus ((have e:wY s=true:=(by (try simp at a1);simp [wY];first | omega | (rw [a1];simp)));(rw [e]);refine dd ?_;(try (repeat ((first | apply ya | apply yb);refine dd ?_)));exact ⟨.inl rfl,_,.refl _,rfl⟩));refine dd ?_
 rw [m1]
 (refine ⟨fun a2=>?_,fun a2=>?_⟩);(focus ((have e:wY s=true:=(by (try simp at a2);simp [wY];first | omega | (rw [a2];simp)));(rw [e]);refine dd ?_;(try (repeat ((first | apply ya | apply yb);refine dd ?_)));exact ⟨.inl rfl,_,.refl _,rfl⟩));refine dd ?_
 rw [m2]
 (refine ⟨fun a3=>?_,fun a3=>?_⟩);(focus ((have e:wY s=true:=(by (try simp at a3);simp [wY];first | omega | (rw [a3];simp)));(rw [e]);refine dd ?_;(try (repeat ((first | apply ya | apply yb);refine dd ?_)));exact ⟨.inl rfl,_,.refl _,rfl⟩));refine dd ?_
 have eS:wY s=s.threads.any zcy:=by
  unfold wY
  simp at a2 a3
  rw [a1,decide_eq_false (by omega),decide_eq_false (by omega)]
  rfl
 refine zE.seq s.threads.length (fun k=>(.za::.ref 0 [] 5 0 0::Bo false::I k:: .za::.za::.za::.za::.za::.za::.za::.za::.za::.za::.za::.za::.za::.za::.za::.za::.za::.za::.za::.za::.za::.za::.za::.za::.za::.za::.za::.za::.za::.za::.za::.za::.za::.za::.za::.za::.za::.za::.za::.za::.za::.za::.za::.za::.za::.za::.za::.za::.za::.za::.za::.za::.za::.za::.za::.za::.za::.za::.za::.za::.za::.za::.za::.za::[])) (fun k=>[⟨1,54,5,[vx s],0⟩]) (fun k=>∀ j,(h:j < s.threads.length)->j < k->zcy s.threads[j]=false) ?_ (by simp) (fun k hk hr=>?_) (fun hr=>?_)
 ·exact cC
 ·obtain ⟨x,hx⟩:∃ x,x=s.threads[k]:=⟨_,rfl⟩
  have hxm:x ∈ s.threads:=by rw [hx];exact List.getElem_mem hk
  have hg:(s.threads.map xX)[k]?= some (xX x):=by rw [List.getElem?_map,List.getElem?_eq_getElem hk,hx];rfl
  have m3:(x.map wb).length=x.length:=List.length_map ..
  have bad:zcy x=true->wY s=true:=fun h=>by
   rw [eS];exact List.any_eq_true.2 ⟨x,hxm,h⟩
  have bx:=(hs.ops x hxm).1
  conv=>whnf
  rw [m1]
  (refine ⟨fun _=>?_,fun h=>absurd h (by simp;omega)⟩);refine dd ?_
  (refine ⟨by omega,_,by rw [toNat_cast];exact hg,?_⟩);refine dd ?_
  rw [m3]
  refine ⟨fun c1=>?_,fun c1=>?_⟩
  ·rw [bad (by unfold zcy;rw [decide_eq_true (by simp at c1;omega)];rfl)]
   refine dd ?_
   (refine .inr ⟨by simp,?_⟩);(conv=>whnf)
   exact ⟨.inl rfl,_,.refl _,rfl⟩
  have eT:zcy x=x.any zeA:=by unfold zcy;rw [decide_eq_false (by simp at c1;omega)];rfl
  refine dd ?_
  refine zE.seq x.length (fun j=>(.za::.ref 0 [] 5 0 0::Bo false::I k::I j:: .za::.za::.za::.za::.za::.za::.za::.za::.za::.za::.za::.za::.za::.za::.za::.za::.za::.za::.za::.za::.za::.za::.za::.za::.za::.za::.za::.za::.za::.za::.za::.za::.za::.za::.za::.za::.za::.za::.za::.za::.za::.za::.za::.za::.za::.za::.za::.za::.za::.za::.za::.za::.za::.za::.za::.za::.za::.za::.za::.za::.za::.za::.za::[])) (fun j=>[⟨1,54,5,[vx s],0⟩]) (fun j=>∀ i,(h:i < x.length)->i < j->zeA x[i]=false) ?_ (by simp) (fun j hj hrj=>?_) (fun hrj=>?_)
  ·exact cC
  ·obtain ⟨o,hxo⟩:∃ o,o=x[j]:=⟨_,rfl⟩
   have hom:o ∈ x:=by rw [hxo];exact List.getElem_mem hj
   have hgo:(x.map wb)[j]?= some (wb o):=by rw [List.getElem?_map,List.getElem?_eq_getElem hj,hxo];rfl
   have bado:zeA o=true->zcy x=true:=fun h=>by rw [eT];exact List.any_eq_true.2 ⟨o,hom,h⟩
   have bo:=(hs.ops x hxm).2 o hom
   conv=>whnf
   (refine ⟨by omega,_,by rw [toNat_cast];exact hg,?_⟩);refine dd ?_
   rw [m3]
   (refine ⟨fun _=>?_,fun h=>absurd h (by simp;omega)⟩);refine dd ?_
   (refine ⟨by omega,_,by rw [toNat_cast];exact hg,?_⟩);refine dd ?_
   (refine ⟨by omega,_,by rw [toNat_cast];exact hgo,?_⟩);refine dd ?_
   refine ⟨_,_,(zcU o.config bo.1 bo.2.1 bo.2.2).frame rfl _,?_⟩;refine dd ?_
   (refine ⟨fun d1=>?_,fun d1=>?_⟩);(focus ((rw [bad (bado (by (try simp at d1);simp [zeA];first | omega | (rw [d1];simp)))]);refine dd ?_;(try (repeat ((first | apply ya | apply yb);refine dd ?_)));(refine .inr ⟨by simp,?_⟩);(conv=>whnf);(try (refine .inr ⟨by simp,?_⟩);(conv=>whnf));exact ⟨.inl rfl,_,.refl _,rfl⟩));refine dd ?_
   (refine ⟨fun d2=>?_,fun d2=>?_⟩);(focus ((rw [bad (bado (by (try simp at d2);simp [zeA];first | omega | (rw [d2];simp)))]);refine dd ?_;(try (repeat ((first | apply ya | apply yb);refine dd ?_)));(refine .inr ⟨by simp,?_⟩);(conv=>whnf);(try (refine .inr ⟨by simp,?_⟩);(conv=>whnf));exact ⟨.inl rfl,_,.refl _,rfl⟩));refine dd ?_
   (refine ⟨fun d3=>?_,fun d3=>?_⟩);(focus ((rw [bad (bado (by (try simp at d3);simp [zeA];first | omega | (rw [d3];simp)))]);refine dd ?_;(try (repeat ((first | apply ya | apply yb);refine dd ?_)));(refine .inr ⟨by simp,?_⟩);(conv=>whnf);(try (refine .inr ⟨by simp,?_⟩);(conv=>whnf));exact ⟨.inl rfl,_,.refl _,rfl⟩));refine dd ?_
   refine .inl ⟨rfl,?_,fun i hi hij=>?_⟩
   ·rw [zn (by omega)]
    exact cE 1
   ·by_cases e:i=j
    ·subst e;rw [<- hxo];simp at d2 d3;simp [zeA,d1];omega
    ·exact hrj i hi (by omega)
  ·have no:zcy x=false:=by
    rw [eT,List.any_eq_false]
    intro y hy
    obtain ⟨i,hi,rfl⟩:=List.mem_iff_getElem.1 hy
    simp [hrj i hi hi]
   conv=>whnf
   (refine ⟨by omega,_,by rw [toNat_cast];exact hg,?_⟩);refine dd ?_
   rw [m3]
   refine ⟨fun h=>absurd h (by simp),fun _=>?_⟩
   refine dd ?_
   refine ⟨by simp,?_⟩
   conv=>whnf
   refine .inl ⟨rfl,?_,fun i hi hij=>?_⟩
   ·rw [zn (by omega)]
    exact cE 1
   ·by_cases e:i=k
    ·subst e;rw [<- hx];exact no
    ·exact hr i hi (by omega)
 ·have h1:wY s=false:=by
   rw [eS,List.any_eq_false]
   intro x hx
   obtain ⟨i,hi,rfl⟩:=List.mem_iff_getElem.1 hx
   simp [hr i hi hi]
  rw [h1]
  conv=>whnf
  rw [m1]
  refine ⟨fun h=>absurd h (by simp),fun _=>?_⟩
  refine dd ?_
  refine ⟨by simp,?_⟩
  conv=>whnf
  exact ⟨.inl rfl,_,.refl _,rfl⟩
end Go.Wor
namespace Go.Wor
open Go.Ab Go.Proofs Go.Gat Go.Nam Go.Hos Go.Con Go.Sna Go.Pla Go.Dep
open Go.Hy hiding encI
abbrev sQ:Str:=[105,110]
abbrev vH:Sna:=⟨[sQ],[⟨0,[42],[47],0⟩],[⟨[97],1,1,[true,true]⟩]⟩
abbrev zeq:Ver:=⟨vH,[⟨0,[⟨1,[-1],0⟩,⟨1,[-1],0⟩]⟩],false⟩
abbrev yl:Wor:=⟨0,1,0,[0],[zeq,zeq],[⟨sQ,true,0,false⟩],[[0,0,0,0,0,0]],[⟨0,0,false⟩]⟩
theorem smQ:yX vH:=⟨⟨by simp,fun x hx=>by rw [List.mem_singleton.1 hx];simp⟩,⟨by simp,fun x hx=>by rw [List.mem_singleton.1 hx];simp⟩,⟨by simp,fun x hx=>by rw [List.mem_singleton.1 hx];simp⟩⟩
theorem zg9:w6 vH=(zeq,0):=by rfl
theorem zgA:zb Tryz.prog 80 [] [Cs vH,lT [sQ],I 1] (.tup [.agg ([I 0,I 0,I 0,.lst 0 1 [[I 0]],.lst 1 5 [qm zeq],.sl 0 [] 4 0 1 false,lCo [[0,0,0,0,0,0]],.lst 0 3 []]),I 0]) [⟨2,95,4,[qy (zmD sQ)],0⟩]:=by
 have cs:=zaD vH smQ
 rw [zg9] at cs
 have cs:zb Tryz.prog 112 [] [Cs vH] (.tup [Cv zeq,I 0]) []:=cs
 have hn:zb Tryz.prog 129 [] [I 1] (.tup [lCo [[0,0,0,0,0,0]],I 0]) []:=zcj 1
 refine jl (fn:=Tryz.f80) Tryz.func80 rfl (by decide) ?_
 conv=>whnf
 refine ⟨_,_,(cs).frame rfl _,?_⟩;refine dd ?_
 (repeat ((first | apply ya | apply yb);refine dd ?_))
 refine ⟨_,_,(hn).frame rfl _,?_⟩;refine dd ?_
 (repeat ((first | apply ya | apply yb);refine dd ?_))
 refine .inl ⟨⟨false,[0,3],[2],[]⟩,by kernel_rfl,?_⟩;(conv=>whnf)
 refine ⟨rfl,by omega,by decide,by omega,?_⟩
 refine dd ?_
 repeat (refine ⟨rfl,?_⟩;conv=>whnf)
 refine kQ.ofN 2 (LoopN.step ?_)
 conv=>whnf
 (repeat ((first | apply ya | apply yb);refine dd ?_))
 refine ⟨by decide,_,rfl,?_⟩
 refine dd ?_
 refine ⟨_,_,(jr sQ (by decide)).frame rfl _,?_⟩;refine dd ?_
 (repeat ((first | apply ya | apply yb);refine dd ?_))
 refine ⟨_,_,(zb.zeO 9 (zaZ [] sQ (by decide)) rfl ?_).frame rfl _,?_⟩;(focus rfl);refine dd ?_
 (repeat ((first | apply ya | apply yb);refine dd ?_))
 refine .inr ⟨.inl rfl,by decide,by decide,?_⟩
 refine dd ?_
 refine .inl ⟨rfl,LoopN.step ?_⟩
 conv=>whnf
 refine ⟨fun h=>absurd h (by decide),fun _=>?_⟩
 refine dd ?_
 refine .inr ⟨by simp,?_⟩
 conv=>whnf
 exact ⟨.inl rfl,_,_,zk.var 1 rfl rfl rfl (.cons (.refl _) (.cons (.refl _) (.cons (.refl _) (.cons (.refl _) (.cons (.refl _) (.cons (.refl _) (.cons (.refl _) (.cons (WC.nil 0 3) .nil)))))))),rfl,zk.ren [4] [0] _ _ rfl rfl rfl rfl⟩
theorem zd9:zb Tryz.prog 64 [] [] (Cw yl) []:=by
 have cs:=zaD vH smQ
 rw [zg9] at cs
 have cs:zb Tryz.prog 112 [] [Cs vH] (.tup [Cv zeq,I 0]) []:=cs
 refine zb.zl (fn:=Tryz.f64) Tryz.func64 rfl ?_
 conv=>whnf
 refine zp [] (zb.zeO 9 (zgA) rfl ?_) rfl rfl rfl rfl rfl rfl ?_;(focus rfl);refine dd ?_
 refine ⟨_,_,(zb.zeO 9 (cs) rfl ?_).frame rfl _,?_⟩;(focus rfl);refine dd ?_
 refine .inl ⟨.inr rfl,.inr rfl,by decide,by decide,?_⟩
 refine dd ?_
 refine kQ.ofN 2 (LoopN.step ?_)
 conv=>whnf
 (repeat ((first | apply ya | apply yb);refine dd ?_))
 refine ⟨by decide,by decide,?_⟩
 refine dd ?_
 refine ⟨_,rfl,rfl,?_⟩
 refine dd ?_
 refine .inl ⟨rfl,LoopN.step ?_⟩
 conv=>whnf
 refine ⟨fun h=>absurd h (by decide),fun _=>?_⟩
 refine dd ?_
 refine .inr ⟨by simp,?_⟩
 conv=>whnf
 refine ⟨.inl rfl,_,zk.trans (zk.zhf 0 5 rfl rfl rfl rfl (fun r hr c hc=>List.all_eq_true.1 (List.all_eq_true.1 (show List.all _ (fun r=>r.all zw)=true from rfl) r hr) c hc) rfl rfl) (zk.var (r':=zR yl) 0 rfl ?_ ?_ ?_),?_⟩
 ·rfl
 ·rfl
 ·exact .cons (.refl _) (.cons (.refl _) (.cons (.refl _) (.cons (.refl _) (.cons (WC.gl _ _ _) (.cons (.refl _) (.cons (.refl _) (.cons (WC.share _ _ _) .nil)))))))
 ·rfl
theorem zer {w:Wor} (ok:OkW w):WkQ w:=⟨by have:=ok.zd.1;omega,fun v hv=>by have:=ok.zd.2 v hv;exact ⟨by have:=this.zi;omega,fun g hg=>by have:=(this.ends g hg).1;omega⟩,by have:=ok.pins;omega,by have:=ok.zc.1;omega,by have:=ok.zg;omega⟩
theorem zkf:En.ok ⟨1,[-1],0⟩:=⟨by decide,⟨fun x hx=>by rw [List.mem_singleton.1 hx];decide,by decide⟩,by decide⟩
theorem tyQ:TyW 60 yl:=by
 refine ⟨by decide,by decide,by decide,fun v hv=>?_,fun l hl=>?_⟩
 ·have hv:v=zeq:=by simpa using hv
  subst hv
  refine ⟨smQ,fun g hg=>?_⟩
  rw [List.mem_singleton.1 hg]
  refine ⟨by decide,fun e he=>?_⟩
  have he:e=⟨1,[-1],0⟩:=by simpa using he
  subst he
  exact zkf
 ·rw [List.mem_singleton.1 hl]
  exact ⟨by decide,by decide⟩
theorem zl6:qf yl=true:=by rfl
theorem stQ:St 60 10 yl:=by
 refine ⟨qC.1 zl6,tyQ,⟨fun l hl=>?_,fun v hv g hg e he=>?_⟩⟩
 ·rw [List.mem_singleton.1 hl]
  decide
 ·have hv:v=zeq:=by simpa using hv
  subst hv
  have hg:=List.mem_singleton.1 hg
  subst hg
  have he:e=⟨1,[-1],0⟩:=by simpa using he
  subst he
  decide
theorem okQ:OkW yl:=zfe stQ.jn stQ.ty (by decide)
theorem okN:OkW zb3:=⟨by decide,⟨by decide,fun _ h=>nomatch h⟩,⟨by decide,fun _ h=>nomatch h⟩,⟨by decide,fun _ h=>nomatch h⟩,by decide⟩
theorem zmh (n:Nat) (h:n<=10):OkW (qT n yl):=by
 obtain ⟨K',s⟩:=wN stQ n (by have:qv yl=13:=rfl;rw [this];omega)
 exact zfe s.jn s.ty (by have:qv yl=13:=rfl;rw [this];omega)
abbrev opQ:Opn:=⟨0,[],[],[],0,0,0,⟨[],[],[]⟩⟩
abbrev zmm:Scr:=⟨⟨[],[],[]⟩,[[opQ,opQ],[opQ]],[]⟩
theorem jF:zb Tryz.prog 25 [] [] (Bo true) []:=by
 have s1:zb Tryz.prog 32 [] [Sw yl,I 1] (.tup [Sw (qT 1 yl),I 0]) []:=yV (K:=10) 1 okQ fun _=>⟨stQ,by decide⟩
 have s2:zb Tryz.prog 32 [] [Sw yl,I 2] (.tup [Sw (qT 2 yl),I 0]) []:=yV (K:=10) 2 okQ fun _=>⟨stQ,by decide⟩
 have s3:zb Tryz.prog 32 [] [Sw yl,I 11] (.tup [Sw zb3,I 1]) []:=yV (K:=10) 11 okQ fun _=>⟨stQ,by decide⟩
 have s4:zb Tryz.prog 32 [] [Sw zb3,I 1] (.tup [Sw zb3,I 1]) []:=yV (K:=10) 1 okN fun h=>absurd (h.symm.trans (by rfl:qf zb3=false)) (by decide)
 have q1:isQ (qT 1 yl)=false:=by rfl
 have q2:isQ (qT 2 yl)=true:=by rfl
 have q0:isQ yl=false:=by rfl
 have k2:(qT 2 yl).zj=2:=by rfl
 have i1:=jE _ (zer (zmh 1 (by decide)))
 have i2:=jE _ (zer (zmh 2 (by decide)))
 have i0:=jE _ (zer okQ)
 rw [q1] at i1
 rw [q2] at i2
 rw [q0] at i0
 generalize hw1:qT 1 yl=w1 at s1 i1
 generalize hw2:qT 2 yl=w2 at s2 i2 k2
 have st:zb Tryz.prog 28 [] [Cw yl] (I 13) []:=y9 yl ⟨by decide,by decide,by decide,by decide,fun v hv=>by
  have hv:v=zeq:=by simpa using hv
  subst hv
  exact ⟨by decide,fun g hg=>by rw [List.mem_singleton.1 hg];decide⟩⟩
 have mo:zb Tryz.prog 30 [] [Csr zmm] (I 423) []:=zb2 zmm ⟨by decide,fun l hl=>by
  have hl:l=[opQ,opQ]∨l=[opQ]:=by simpa using hl
  rcases hl with rfl | rfl <;> decide⟩
 refine zb.zl (fn:=Tryz.f25) Tryz.func25 rfl ?_
 conv=>whnf
 refine ⟨_,_,(zd9).frame rfl _,?_⟩;refine dd ?_
 refine ⟨_,_,(s1).frame rfl _,?_⟩;refine dd ?_
 refine ⟨_,_,(s2).frame rfl _,?_⟩;refine dd ?_
 refine ⟨_,_,(s3).frame rfl _,?_⟩;refine dd ?_
 refine ⟨_,_,(zb.zeO 9 (s4) rfl ?_).frame rfl _,?_⟩;(focus rfl);refine dd ?_
 (repeat ((first | apply ya | apply yb);refine dd ?_))
 refine ⟨_,_,(i1).frame rfl _,?_⟩;refine dd ?_
 (repeat ((first | apply ya | apply yb);refine dd ?_))
 refine ⟨_,_,(i2).frame rfl _,?_⟩;refine dd ?_
 (repeat ((first | apply ya | apply yb);refine dd ?_))
 rw [k2]
 (repeat ((first | apply ya | apply yb);refine dd ?_))
 refine ⟨_,_,(i0).frame rfl _,?_⟩;refine dd ?_
 (repeat ((first | apply ya | apply yb);refine dd ?_))
 refine ⟨_,_,(st).frame rfl _,?_⟩;refine dd ?_
 (repeat ((first | apply ya | apply yb);refine dd ?_))
 refine ⟨_,_,(zb.zeO 9 (mo) rfl ?_).frame rfl _,?_⟩;(focus rfl);refine dd ?_
 (try (repeat ((first | apply ya | apply yb);refine dd ?_)))
 exact ⟨.inl rfl,_,.refl _,rfl⟩
end Go.Wor
namespace Go.Wor
open Go.Ab Go.Proofs Go.Gat Go.Nam Go.Hos Go.Con Go.Sna Go.Pla Go.Dep
open Go.Hy hiding encI
theorem zhz {w:Wor} (hb:xV w=false):zj3 w:=by
 obtain ⟨b1,b2,b3,b4,b5,b6⟩:=yC hb
 refine ⟨by omega,by omega,by omega,by omega,fun v hv=>?_⟩
 have q:=yY (b6 v hv)
 exact ⟨by omega,fun g hg=>by have:=q.2.2 g hg;omega⟩
theorem zjU {w:Wor} (hb:xV w=false):WkQ w:=by
 obtain ⟨b1,b2,b3,b4,b5,b6⟩:=yC hb
 refine ⟨by omega,fun v hv=>?_,by omega,by omega,by omega⟩
 have q:=yY (b6 v hv)
 exact ⟨by omega,fun g hg=>by have:=q.2.2 g hg;omega⟩
theorem zlQ {s:Scr} (hb:wY s=false):WkC s:=by
 unfold wY at hb
 simp only [Bool.or_eq_false_iff,decide_eq_false_iff_not,List.any_eq_false] at hb
 obtain ⟨⟨⟨h1,h2⟩,h3⟩,h4⟩:=hb
 refine ⟨by omega,fun l hl=>?_⟩
 have:=h4 l hl
 simp [zcy] at this
 omega
theorem zlP {s:Scr} (h:s.ok):WkB s:=by
 have r:reachBytes < 1000000000000000:=by decide
 have f:=h.1
 refine ⟨⟨by have:=f.1.2;omega,by have:=f.2.1.2;omega,by have:=f.2.2.2;omega⟩,by have:=h.2.2;omega,fun l hl=>?_⟩
 have q:=h.2.1 l hl
 refine ⟨by have:=q.2;omega,fun o ho=>?_⟩
 have c:=(q.1 o ho).2.2.2
 exact ⟨by have:=c.1.2;omega,by have:=c.2.1.2;omega,by have:=c.2.2.2;omega⟩
theorem quietTells_sound (w:Wor) (s:Scr) (hw:Hy.Wor.okW w) (hs:s.ok):zb Tryz.prog 4 [] [Cw w,Csr s] (Bo true) []:=by
 have hk:=zk2 hw
 refine zb.zl (fn:=Tryz.f4) Tryz.func4 rfl ?_
 conv=>whnf
 refine ⟨_,_,(zbz w hk.wk).frame rfl _,?_⟩;refine dd ?_
 refine ⟨fun h1=>?_,fun h1=>?_⟩
 ·refine dd ?_
  (try (repeat ((first | apply ya | apply yb);refine dd ?_)))
  exact ⟨.inl rfl,_,.refl _,rfl⟩
 refine dd ?_
 refine ⟨_,_,(zfV s (zlP hs)).frame rfl _,?_⟩;refine dd ?_
 refine ⟨fun h2=>?_,fun h2=>?_⟩
 ·refine dd ?_
  (try (repeat ((first | apply ya | apply yb);refine dd ?_)))
  exact ⟨.inl rfl,_,.refl _,rfl⟩
 have q:=zjU h1
 have st:=zhz h1
 have c:=zlQ h2
 refine dd ?_
 have i1:=jE w q
 have i2:=zin w q
 generalize isQ w=b at i1 i2
 refine .inl ⟨⟨false,[],[],[]⟩,by kernel_rfl,?_⟩;(conv=>whnf)
 refine ⟨_,_,(jF).frame rfl _,?_⟩;refine dd ?_
 (repeat ((first | apply ya | apply yb);refine dd ?_))
 cases b
 all_goals
  refine ⟨_,_,(i1).frame rfl _,?_⟩;refine dd ?_
  (repeat ((first | apply ya | apply yb);refine dd ?_))
  refine ⟨_,_,(i2).frame rfl _,?_⟩;refine dd ?_
  (repeat ((first | apply ya | apply yb);refine dd ?_))
  refine ⟨_,_,(y9 w st).frame rfl _,?_⟩;refine dd ?_
  refine ⟨_,_,(zeg w st).frame rfl _,?_⟩;refine dd ?_
  refine ⟨fun _=>?_,fun h=>absurd h (by simp)⟩;refine dd ?_
  refine ⟨_,_,(zb2 s c).frame rfl _,?_⟩;refine dd ?_
  refine ⟨_,_,(zfr s c).frame rfl _,?_⟩;refine dd ?_
  refine ⟨fun _=>?_,fun h=>absurd h (by simp)⟩;refine dd ?_
  exact ⟨.inl rfl,_,.refl _,rfl⟩
theorem zmq {w:Wor} (hw:Hy.Wor.okW w) (hb:xV w=false) {K:Nat} (hc:Cal K w) (h:qf w=true):St 60 K w∧qv w<=10000:=
 ⟨⟨qC.1 h,zmw hw hb,hc⟩,by have:=zdm hb (qC.1 h);omega⟩
theorem zjI {w:Wor} (g:qA w):zen w=qv w:=by
 have e:w.zg.map (qS w)=w.zg.map (qR w):=List.map_congr_left fun r hr=>by
  obtain ⟨i,hi⟩:=List.mem_iff_getElem?.1 hr
  have la:=x4 g hi
  unfold qS
  rw [if_pos ⟨la.2.2.1,la.2.2.2.1⟩]
 unfold zen qv wP
 rw [List.drop_zero,e]
theorem quietThree_sound (w:Wor) (hw:Hy.Wor.okW w):zb Tryz.prog 6 [] [Cw w] (Bo true) []:=by
 have hk:=zk2 hw
 refine zb.zl (fn:=Tryz.f6) Tryz.func6 rfl ?_
 conv=>whnf
 refine ⟨_,_,(zbz w hk.wk).frame rfl _,?_⟩;refine dd ?_
 refine ⟨fun h1=>?_,fun h1=>?_⟩
 ·refine dd ?_
  (try (repeat ((first | apply ya | apply yb);refine dd ?_)))
  refine ⟨_,_,(jF).frame rfl _,?_⟩;refine dd ?_
  (repeat ((first | apply ya | apply yb);refine dd ?_))
  exact ⟨.inl rfl,_,.refl _,rfl⟩
 refine dd ?_
 refine ⟨_,_,(zeF w hk.wk).frame rfl _,?_⟩;refine dd ?_
 refine ⟨fun h2=>?_,fun h2=>?_⟩
 rotate_left
 ·refine dd ?_
  (try (repeat ((first | apply ya | apply yb);refine dd ?_)))
  refine ⟨_,_,(jF).frame rfl _,?_⟩;refine dd ?_
  (repeat ((first | apply ya | apply yb);refine dd ?_))
  exact ⟨.inl rfl,_,.refl _,rfl⟩
 have h2:yW w=false:=by simpa using h2
 have cal:=zld h2
 have ok:=zlr hw h1
 refine dd ?_
 refine ⟨_,_,(jG w ok).frame rfl _,?_⟩;refine dd ?_
 refine ⟨fun h3=>?_,fun h3=>?_⟩
 rotate_left
 ·refine dd ?_
  (try (repeat ((first | apply ya | apply yb);refine dd ?_)))
  refine ⟨_,_,(jF).frame rfl _,?_⟩;refine dd ?_
  (repeat ((first | apply ya | apply yb);refine dd ?_))
  exact ⟨.inl rfl,_,.refl _,rfl⟩
 have h3:qf w=true:=by simpa using h3
 obtain ⟨st,hs⟩:=zmq hw h1 cal h3
 have few:=zdm h1 st.jn
 obtain ⟨j,m',K',g1,g2,g3,g4⟩:=w8 st (by omega)
 have ok1:=zfe g4.jn g4.ty (by omega)
 have w1:qf (yu w)=true:=qC.2 g4.jn
 have ess:=zjI st.jn
 refine dd ?_
 refine ⟨_,_,(zcS g1 (by omega)).frame rfl _,?_⟩;refine dd ?_
 refine ⟨fun h=>absurd (of_decide_eq_true h) (by omega),fun _=>?_⟩
 refine dd ?_
 refine ⟨_,_,(y9 w (zhz h1)).frame rfl _,?_⟩;refine dd ?_
 refine ⟨fun h=>absurd (of_decide_eq_true h) (by omega),fun _=>?_⟩
 refine dd ?_
 refine ⟨_,_,(jG (yu w) ok1).frame rfl _,?_⟩;refine dd ?_
 rw [w1]
 (repeat ((first | apply ya | apply yb);refine dd ?_))
 obtain ⟨K3,s3⟩:=wN st 3 (by omega)
 have ok3:=zfe s3.jn s3.ty (by omega)
 have w3:qf (qT 3 w)=true:=qC.2 s3.jn
 have ss:zb Tryz.prog 32 [] [Sw w,I 3] (.tup [Sw (qT 3 w),I 0]) []:=by
  have:=yV (w:=w) (K:=1000000) 3 ok fun _=>⟨st,hs⟩
  have e:yv w 3=(qT 3 w,0):=if_pos ⟨h3,by decide,by decide⟩
  rw [e] at this
  exact this
 refine ⟨_,_,(ss).frame rfl _,?_⟩;refine dd ?_
 refine ⟨_,_,(jF).frame rfl _,?_⟩;refine dd ?_
 (repeat ((first | apply ya | apply yb);refine dd ?_))
 refine ⟨_,_,(jG (qT 3 w) ok3).frame rfl _,?_⟩;refine dd ?_
 rw [w3]
 (repeat ((first | apply ya | apply yb);refine dd ?_))
 refine ⟨_,_,(za0 w (zjU h1)).frame rfl _,?_⟩;refine dd ?_
 refine ⟨fun h4=>?_,fun h4=>?_⟩
 rotate_left
 ·refine dd ?_
  (try (repeat ((first | apply ya | apply yb);refine dd ?_)))
  exact ⟨.inl rfl,_,.refl _,rfl⟩
 have h4:xC w=true:=by simpa using h4
 have q3:isQ (qT 3 w)=true:=by
  refine zhj.2 (zhZ (zcP.1 h4) st (by omega) ?_)
  unfold yW at h2
  simp only [Bool.or_eq_false_iff,decide_eq_false_iff_not] at h2
  omega
 refine dd ?_
 refine ⟨_,_,(jE (qT 3 w) (zer ok3)).frame rfl _,?_⟩;refine dd ?_
 rw [q3]
 (try (repeat ((first | apply ya | apply yb);refine dd ?_)))
 exact ⟨.inl rfl,_,.refl _,rfl⟩
end Go.Wor
