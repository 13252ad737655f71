import Derived.Test.YtgllekalddijbaaGreatUK
import Derived.Test.YtgllekalddijbaaGreatUZ
import Derived.Test.YtgllekalddijbaaGreatUN
set_option linter.unusedVariables false
set_option linter.unusedSimpArgs false
set_option linter.unusedSectionVars false
set_option maxRecDepth 100000
set_option maxHeartbeats 4000000
namespace Go.Wor
open Go.Ab Go.Proofs Go.Hy Go.Gat Go.Nam Go.Hos Go.Con Go.Sna
def wM {α:Type} (f:α->α) (l:List α) (i:Nat):List α:=(l.take i).map f++l.drop i
theorem zdp {α:Type} (f:α->α) (l:List α):wM f l 0=l:=by simp [wM]
theorem zj3 {α:Type} (f:α->α) (l:List α):wM f l l.length=l.map f:=by simp [wM]
theorem zj4 {α:Type} (f:α->α) (l:List α) (i:Nat):(wM f l i).length=l.length:=by simp [wM];omega
theorem xz {α:Type} (f:α->α) (l:List α) (i k:Nat):(wM f l i)[k]?= if k < i then (l[k]?).map f else l[k]?:=by
 unfold wM
 by_cases hk:k < i
 ·rw [if_pos hk]
  by_cases hl:k < l.length
  ·rw [List.getElem?_append_left (by simp;omega),List.getElem?_map,List.getElem?_take,if_pos hk]
  ·rw [List.getElem?_eq_none (by simp;omega),List.getElem?_eq_none (by omega:l.length<=k)]
   rfl
 ·rw [if_neg hk]
  by_cases hl:i<=l.length
  ·rw [List.getElem?_append_right (by simp;omega),List.getElem?_drop]
   congr 1
   simp
   omega
  ·rw [List.getElem?_eq_none (by simp;omega),List.getElem?_eq_none (by omega:l.length<=k)]
theorem zcr {α:Type} {f:α->α} {l:List α} {i:Nat} {x:α} (h:l[i]?= some x):(wM f l i).set i (f x)=wM f l (i+1):=by
 apply List.ext_getElem?
 intro k
 have hlt:=(List.getElem?_eq_some_iff.1 h).1
 rw [List.getElem?_set,zj4,xz,xz]
 by_cases hk:i=k
 ·subst hk
  rw [if_pos rfl,if_pos hlt,if_pos (by omega),h]
  rfl
 ·rw [if_neg hk]
  by_cases h2:k < i
  ·rw [if_pos h2,if_pos (by omega)]
  ·rw [if_neg h2,if_neg (by omega)]
theorem vV {α:Type} {f:α->α} {l:List α} {i:Nat} {x:α} (h:l[i]?= some x) (hf:f x=x):wM f l i=wM f l (i+1):=by
 rw [<- zcr h,hf]
 exact (x6 _ _ (by rw [xz,if_neg (by omega),h])).symm
def zca (w:Wor) (p:Int):Bool:=p == 0 || p == w.zj+1
def jv (w:Wor):Int:=if w.pins.all (zca w)=true∧w.zj < 1000000000000 then w.zj+1 else w.zj
def zlR (v:Ver):Bool:=(qd v).all fun e=>e.zr == 0
def wK (w:Wor) (i:Int):Bool:=match w.zd[i.toNat]? with
 | some v=>zlR v
 | none=>false
def zi9 (w:Wor) (r:Ret):Bool:=!r.gone && Go.Lim.y7 r.at_ (jv w) && wK w r.version
def goR (w:Wor) (r:Ret):Ret:=if zi9 w r=true then xY r else r
def xl (l:Lis):Lis:=if (l.drain && !l.closed && l.zr == 0)=true then wH l else l
def vd (w:Wor):Wor:=⟨jv w,w.current,0,w.pins,w.zd.mapIdx (fun k v=>{ v with j7:=jZ (w.zg.map (goR w)) k }),w.zc.map xl,w.counts,w.zg.map (goR w)⟩
def qR (w:Wor) (r:Ret):Nat:=match w.zd[r.version.toNat]? with
 | some v=>2+(qd v).length
 | none=>2
def zas (w:Wor) (i:Nat):Nat:=((w.zg.drop i).map (qR w)).sum
theorem zkP {w:Wor} {i:Nat} {r:Ret} {v:Ver} (h:w.zg[i]?= some r) (hv:w.zd[r.version.toNat]?= some v):zas w i=2+(qd v).length+zas w (i+1):=by
 obtain ⟨hlt,rfl⟩:=List.getElem?_eq_some_iff.1 h
 unfold zas
 rw [List.drop_eq_getElem_cons hlt,List.map_cons,List.sum_cons]
 unfold qR
 rw [hv]
structure vW (w0 w:Wor) (E:Int) (i j:Nat):Prop where
 zj:w.zj=E
 current:w.current=w0.current
 lock:w.lock=1
 pins:w.pins=w0.pins
 counts:w.counts=w0.counts
 yc:w.zd.map (fun v=>(v.snap,v.zk))=w0.zd.map fun v=>(v.snap,v.zk)
 zg:w.zg=wM (goR w0) w0.zg i
 lis:w.zc=wM xl w0.zc j
theorem vW.at_ {w0 w:Wor} {E:Int} {i j:Nat} (b:vW w0 w E i j) {k:Nat} {v:Ver} (h:w.zd[k]?= some v):∃ v0,w0.zd[k]?= some v0∧v.snap=v0.snap∧v.zk=v0.zk:=by
 have:=congrArg (fun l=>l[k]?) b.yc
 simp only [List.getElem?_map,h,Option.map_some] at this
 obtain ⟨v0,h1,h2⟩:=Option.map_eq_some_iff.1 this.symm
 exact ⟨v0,h1,(Prod.mk.inj h2.symm).1,(Prod.mk.inj h2.symm).2⟩
theorem vW.ends {w0 w:Wor} {E:Int} {i j:Nat} (b:vW w0 w E i j) {k:Nat} {v v0:Ver} (h:w.zd[k]?= some v) (h0:w0.zd[k]?= some v0):qd v=qd v0:=by
 obtain ⟨v1,h1,_,h2⟩:=b.at_ h
 rw [h0] at h1
 cases h1
 unfold qd
 rw [h2]
theorem vW.fin {w0 w:Wor} (b:vW w0 w (jv w0) w0.zg.length w0.zc.length) (g:qG { w with lock:=0 }):{ w with lock:=0 }=vd w0:=by
 obtain ⟨ep,cu,lo,pi,ve,li,co,lm⟩:=w
 obtain ⟨b1,b2,b3,b4,b5,b6,b7,b8⟩:=b
 dsimp only at b1 b2 b3 b4 b5 b6 b7 b8
 rw [zj3] at b7 b8
 subst b1 b2 b4 b5 b7 b8
 unfold vd
 have:ve=w0.zd.mapIdx (fun k v=>{ v with j7:=jZ (w0.zg.map (goR w0)) k }):=by
  apply List.ext_getElem?
  intro k
  rw [List.getElem?_mapIdx]
  have hk:=congrArg (fun l=>l[k]?) b6
  simp only [List.getElem?_map] at hk
  cases hv:ve[k]? with
  | none=>
   rw [hv] at hk
   cases hv0:w0.zd[k]? with
   | none=>rfl
   | some v0=>rw [hv0] at hk;cases hk
  | some v=>
   rw [hv] at hk
   cases hv0:w0.zd[k]? with
   | none=>rw [hv0] at hk;cases hk
   | some v0=>
    rw [hv0] at hk
    have hk:=Prod.mk.inj (Option.some.inj hk)
    have hf:v.j7=jZ (w0.zg.map (goR w0)) k:=(g.ver k v hv).2
    obtain ⟨s,gr,fr⟩:=v
    dsimp only at hk hf
    rw [Option.map_some,hf,hk.1,hk.2]
 rw [this]
inductive J (w0:Wor):Wor->Mac->Nat->Prop
 | p0 {m:Mac} (h:m.pc=0):J w0 w0 m (4+w0.pins.length+zas w0 0+3 * w0.zc.length)
 | p1 {w:Wor} {m:Mac} (h:m.pc=1) (b:vW w0 w w0.zj 0 0):J w0 w m (3+w0.pins.length+zas w0 0+3 * w0.zc.length)
 | p2 {w:Wor} {m:Mac} (i:Nat) (h:m.pc=2) (hi:m.i=i) (he:m.zj=w0.zj) (hl:i < w0.pins.length) (hp:∀ j p,j < i->w0.pins[j]?= some p->zca w0 p=true) (b:vW w0 w w0.zj 0 0):J w0 w m (2+(w0.pins.length - i)+zas w0 0+3 * w0.zc.length)
 | p3 {w:Wor} {m:Mac} (h:m.pc=3) (he:m.zj=w0.zj) (hp:w0.pins.all (zca w0)=true) (b:vW w0 w w0.zj 0 0):J w0 w m (2+zas w0 0+3 * w0.zc.length)
 | p4 {w:Wor} {m:Mac} (i:Nat) (h:m.pc=4) (hi:m.i=i) (hl:i<=w0.zg.length) (he:m.zj=jv w0) (b:vW w0 w (jv w0) i 0):J w0 w m (1+zas w0 i+3 * w0.zc.length)
 | p5 {w:Wor} {m:Mac} (i k:Nat) (r:Ret) (v:Ver) (h:m.pc=5) (hi:m.i=i) (hk:m.k=k) (he:m.zj=jv w0) (hr:w0.zg[i]?= some r) (hm:m.version=r.version) (hg:r.gone=false) (hs:Go.Lim.y7 r.at_ (jv w0)=true) (hv:w0.zd[r.version.toNat]?= some v) (hl:k < (qd v).length)
   (hz:∀ j e,j < k->(qd v)[j]?= some e->e.zr=0) (b:vW w0 w (jv w0) i 0):J w0 w m ((qd v).length - k+2+zas w0 (i+1)+3 * w0.zc.length)
 | p6 {w:Wor} {m:Mac} (i:Nat) (r:Ret) (h:m.pc=6) (hi:m.i=i) (he:m.zj=jv w0) (hr:w0.zg[i]?= some r) (hm:m.version=r.version) (hd:zi9 w0 r=true) (b:vW w0 w (jv w0) i 0):J w0 w m (2+zas w0 (i+1)+3 * w0.zc.length)
 | p8 {w:Wor} {m:Mac} (i:Nat) (h:m.pc=8) (hi:m.i=i) (hl:i<=w0.zc.length) (b:vW w0 w (jv w0) w0.zg.length i):J w0 w m (1+3 * (w0.zc.length - i))
 | p9 {w:Wor} {m:Mac} (i:Nat) (l:Lis) (h:m.pc=9) (hi:m.i=i) (hl:w0.zc[i]?= some l) (hd:l.drain=true) (hc:l.closed=false) (b:vW w0 w (jv w0) w0.zg.length i):J w0 w m (3 * (w0.zc.length - i))
 | p10 {w:Wor} {m:Mac} (i:Nat) (l:Lis) (h:m.pc=10) (hi:m.i=i) (hl:w0.zc[i]?= some l) (hd:l.drain=true) (hc:l.closed=false) (ha:l.zr=0) (b:vW w0 w (jv w0) w0.zg.length i):J w0 w m (3 * (w0.zc.length - i) - 1)
def Ne (w0:Wor) (n:Nat) (r:Wor × Mac × Eve):Prop:=(r.2.1.done=true∧r.1=vd w0∧1<=n)∨∃ n',n' < n∧r.2.1.done=false∧J w0 r.1 r.2.1 n'
theorem zhn {w0 w:Wor} {m:Mac} (i n:Nat) (hd0:m.done=false) (h:m.pc=8) (hi:m.i=i) (hl:i<=w0.zc.length) (b:vW w0 w (jv w0) w0.zg.length i) (hb:w0.zc.length < 1000000000) (hn:1+3 * (w0.zc.length - i)<=n) (g:qG (ldS w m).1):Ne w0 n (ldS w m):=by
 have hw:IntKind.i64.wrap (m.i+1)=m.i+1:=qf (by omega) (by omega)
 have it:m.i.toNat=i:=by omega
 have e:=congrArg (fun l=>l[i]?) b.lis
 simp only [xz,if_neg (Nat.lt_irrefl i)] at e
 unfold ldS at g ⊢
 rw [it,e] at g ⊢
 cases hx:w0.zc[i]? with
 | none=>
  rw [hx] at g
  have:=List.getElem?_eq_none_iff.1 hx
  have hi2:i=w0.zc.length:=by omega
  subst hi2
  exact .inl ⟨rfl,b.fin g,by omega⟩
 | some l=>
  have hlt:=(List.getElem?_eq_some_iff.1 hx).1
  dsimp only
  unfold ldM
  by_cases q:l.drain=true∧l.closed=false
  ·rw [if_pos q]
   exact .inr ⟨_,by omega,hd0,.p9 i l rfl hi hx q.1 q.2 b⟩
  ·rw [if_neg q,hw]
   refine .inr ⟨_,by omega,hd0,.p8 (i+1) h (by show m.i+1=_;omega) hlt ⟨b.zj,b.current,b.lock,b.pins,b.counts,b.yc,b.zg,?_⟩⟩
   refine b.lis.trans (vV hx ?_)
   unfold xl
   rw [if_neg]
   intro h2
   simp only [Bool.and_eq_true,Bool.not_eq_true'] at h2
   exact q h2.1
theorem zeH {w0 w:Wor} {m:Mac} {n:Nat} {r:Wor × Mac × Eve} (hJ:J w0 w m n) (hd0:m.done=false) (g0:qG w0) (hl0:w0.lock=0) (hb:w0.zc.length < 1000000000∧w0.zg.length < 1000000000) (h:jr w m=some r) (g:qG r.1):Ne w0 n r:=by
 have gr:=qb.1 g0.ground
 have ge:=gr.zj
 have we:IntKind.i64.wrap (w0.zj+1)=w0.zj+1:=qf (by omega) (by omega)
 unfold jr at h
 cases hJ with
 | p0 p=>
  rw [if_pos p,if_pos hl0] at h
  cases h
  exact .inr ⟨_,by omega,hd0,.p1 rfl ⟨rfl,rfl,rfl,rfl,rfl,rfl,(zdp _ _).symm,(zdp _ _).symm⟩⟩
 | p1 p b=>
  rw [if_neg (by omega),if_pos p] at h
  cases h
  exact .inr ⟨_,by have:=gr.pins.1;omega,hd0,.p2 0 rfl rfl b.zj (by have:=gr.pins.1;omega) (fun j _ hj=>by omega) b⟩
 | p2 i p hi he hl hp b=>
  have it:m.i.toNat=i:=by omega
  have hw:IntKind.i64.wrap (m.i+1)=m.i+1:=qf (by omega) (by have:=gr.pins.2;omega)
  obtain ⟨x,hx⟩:∃ x,w0.pins[i]?= some x:=⟨_,List.getElem?_eq_getElem hl⟩
  rw [if_neg (by omega),if_neg (by omega),if_pos p,it,b.pins,hx] at h
  cases h
  dsimp only
  have e2:IntKind.i64.wrap (m.zj+1)=w0.zj+1:=by rw [he,we]
  unfold lpM
  rw [hw,b.pins,e2]
  by_cases q:x≠0∧x≠w0.zj+1
  ·rw [if_pos q]
   have e:jv w0=w0.zj:=by
    unfold jv
    rw [if_neg]
    rintro ⟨h1,_⟩
    have:=List.all_eq_true.1 h1 x (List.mem_of_getElem? hx)
    unfold zca at this
    simp at this
    omega
   exact .inr ⟨_,by omega,hd0,.p4 0 rfl rfl (by omega) (by rw [e];exact he) (by rw [e];exact b)⟩
  rw [if_neg q]
  have hp2:∀ j p,j < i+1->w0.pins[j]?= some p->zca w0 p=true:=by
   intro j p hj hpj
   by_cases e:j=i
   ·subst e
    rw [hx] at hpj
    cases hpj
    unfold zca
    simp
    omega
   ·exact hp j p (by omega) hpj
  by_cases q2:m.i+1 < w0.pins.length
  ·rw [if_pos q2]
   exact .inr ⟨_,by omega,hd0,.p2 (i+1) p (by show m.i+1=_;omega) he (by omega) hp2 b⟩
  ·rw [if_neg q2]
   refine .inr ⟨_,by omega,hd0,.p3 rfl he (List.all_eq_true.2 fun x hx=>?_) b⟩
   obtain ⟨j,hj⟩:=List.mem_iff_getElem?.1 hx
   have:=(List.getElem?_eq_some_iff.1 hj).1
   exact hp2 j x (by omega) hj
 | p3 p he hp b=>
  rw [if_neg (by omega),if_neg (by omega),if_neg (by omega),if_pos p,b.zj,he] at h
  cases h
  by_cases q:w0.zj < 1000000000000
  ·have e:jv w0=w0.zj+1:=by unfold jv;rw [if_pos ⟨hp,q⟩]
   rw [if_pos ⟨rfl,q⟩,we]
   exact .inr ⟨_,by omega,hd0,.p4 0 rfl rfl (by omega) e.symm ⟨e.symm,b.current,b.lock,b.pins,b.counts,b.yc,b.zg,b.lis⟩⟩
  ·have e:jv w0=w0.zj:=by unfold jv;rw [if_neg (fun h=>q h.2)]
   rw [if_neg (fun h=>q h.2)]
   exact .inr ⟨_,by omega,hd0,.p4 0 rfl rfl (by omega) (by rw [e];exact he) (by rw [e];exact b)⟩
 | p4 i p hi hl he b=>
  have it:m.i.toNat=i:=by omega
  have hw:IntKind.i64.wrap (m.i+1)=m.i+1:=qf (by omega) (by omega)
  have e:=congrArg (fun l=>l[i]?) b.zg
  simp only [xz,if_neg (Nat.lt_irrefl i)] at e
  rw [if_neg (by omega),if_neg (by omega),if_neg (by omega),if_neg (by omega),if_pos p,it,e] at h
  cases hx:w0.zg[i]? with
  | none=>
   rw [hx] at h
   have:=List.getElem?_eq_none_iff.1 hx
   have hi2:i=w0.zg.length:=by omega
   cases h
   exact zhn 0 _ hd0 rfl rfl (by omega) (hi2 ▸ b) hb.1 (by omega) g
  | some r=>
   rw [hx] at h
   cases h
   have hlt:=(List.getElem?_eq_some_iff.1 hx).1
   have la:=wm g0 hx
   obtain ⟨v,hv⟩:∃ v,w0.zd[r.version.toNat]?= some v:=⟨_,List.getElem?_eq_getElem (by omega)⟩
   have sq:=zkP hx hv
   dsimp only
   unfold llM
   rw [hw]
   by_cases q:r.gone=true∨Go.Lim.y7 r.at_ m.zj=false
   ·rw [if_pos q]
    rw [he] at q
    refine .inr ⟨_,by omega,hd0,.p4 (i+1) p (by show m.i+1=_;omega) hlt he ⟨b.zj,b.current,b.lock,b.pins,b.counts,b.yc,b.zg.trans (vV hx ?_),b.lis⟩⟩
    unfold goR
    rw [if_neg]
    unfold zi9
    rcases q with q | q <;> simp [q]
   ·rw [if_neg q]
    rw [he] at q
    have el:=vo (g0.ver _ v hv).1
    exact .inr ⟨_,by omega,hd0,.p5 i 0 r v rfl hi rfl he hx rfl (by cases hgo:r.gone with | false=>rfl | true=>exact absurd (.inl hgo) q) (by cases hgo:Go.Lim.y7 r.at_ (jv w0) with | true=>rfl | false=>exact absurd (.inr hgo) q) hv (by omega) (fun j _ hj=>by omega) b⟩
 | p5 i k x v p hi hk he hr hm hg hs hv hl hz b=>
  have it:m.i.toNat=i:=by omega
  have kt:m.k.toNat=k:=by omega
  have hlt:=(List.getElem?_eq_some_iff.1 hr).1
  have el:=vo (g0.ver _ v hv).1
  have hw:IntKind.i64.wrap (m.i+1)=m.i+1:=qf (by omega) (by omega)
  have hwk:IntKind.i64.wrap (m.k+1)=m.k+1:=qf (by omega) (by omega)
  rw [if_neg (by omega),if_neg (by omega),if_neg (by omega),if_neg (by omega),if_neg (by omega),if_pos p] at h
  obtain ⟨v',hv',h⟩:=Option.bind_eq_some_iff.1 h
  obtain ⟨e,hx,rfl⟩:=Option.map_eq_some_iff.1 h
  have ee:qd v'=qd v:=b.ends hv' (by rw [hm];exact hv)
  rw [ee,kt] at hx
  unfold laM
  rw [hw,hwk,ee]
  by_cases q:e.zr≠0
  ·rw [if_pos q]
   refine .inr ⟨_,by omega,hd0,.p4 (i+1) rfl (by show m.i+1=_;omega) hlt he ⟨b.zj,b.current,b.lock,b.pins,b.counts,b.yc,b.zg.trans (vV hr ?_),b.lis⟩⟩
   unfold goR
   rw [if_neg]
   unfold zi9 wK
   rw [hv]
   dsimp only
   intro h2
   simp only [Bool.and_eq_true] at h2
   have:=List.all_eq_true.1 h2.2 e (List.mem_of_getElem? hx)
   simp at this
   exact q this
  rw [if_neg q]
  have hz2:∀ j e,j < k+1->(qd v)[j]?= some e->e.zr=0:=by
   intro j e2 hj he2
   by_cases e3:j=k
   ·subst e3
    rw [hx] at he2
    cases he2
    exact Decidable.of_not_not q
   ·exact hz j e2 (by omega) he2
  by_cases q2:m.k+1 < (qd v).length
  ·rw [if_pos q2]
   exact .inr ⟨_,by omega,hd0,.p5 i (k+1) x v p hi (by show m.k+1=_;omega) he hr hm hg hs hv (by omega) hz2 b⟩
  ·rw [if_neg q2]
   refine .inr ⟨_,by omega,hd0,.p6 i x rfl hi he hr hm ?_ b⟩
   unfold zi9 wK
   rw [hg,hs,hv]
   refine List.all_eq_true.2 fun e2 he2=>?_
   obtain ⟨j,hj⟩:=List.mem_iff_getElem?.1 he2
   have:=(List.getElem?_eq_some_iff.1 hj).1
   simp [hz2 j e2 (by omega) hj]
 | p6 i x p hi he hr hm hd b=>
  have it:m.i.toNat=i:=by omega
  have hlt:=(List.getElem?_eq_some_iff.1 hr).1
  have hw:IntKind.i64.wrap (m.i+1)=m.i+1:=qf (by omega) (by omega)
  have e:=congrArg (fun l=>l[i]?) b.zg
  simp only [xz,if_neg (Nat.lt_irrefl i)] at e
  rw [if_neg (by omega),if_neg (by omega),if_neg (by omega),if_neg (by omega),if_neg (by omega),if_neg (by omega),if_pos p,it,e,hr] at h
  obtain ⟨v',hv',h⟩:=Option.bind_eq_some_iff.1 h
  rw [Option.bind_some] at h
  split at h
  rotate_left
  ·cases h
  cases h
  unfold frM
  rw [hw]
  refine .inr ⟨_,by omega,hd0,.p4 (i+1) rfl (by show m.i+1=_;omega) hlt he ⟨b.zj,b.current,b.lock,b.pins,b.counts,?_,?_,b.lis⟩⟩
  ·show (w.zd.set m.version.toNat (vq v')).map _=_
   rw [List.map_set,<- b.yc]
   exact x6 _ _ (by rw [List.getElem?_map,hv'];rfl)
  ·show w.zg.set i (xY x)=_
   rw [b.zg,<- zcr hr]
   congr 1
   unfold goR
   rw [if_pos hd]
 | p8 i p hi hl b=>
  rw [if_neg (by omega),if_neg (by omega),if_neg (by omega),if_neg (by omega),if_neg (by omega),if_neg (by omega),if_neg (by omega),if_pos p] at h
  cases h
  exact zhn i _ hd0 p hi hl b hb.1 (Nat.le_refl _) g
 | p9 i l p hi hl hd hc b=>
  have it:m.i.toNat=i:=by omega
  have hlt:=(List.getElem?_eq_some_iff.1 hl).1
  have hw:IntKind.i64.wrap (m.i+1)=m.i+1:=qf (by omega) (by omega)
  have e:=congrArg (fun l=>l[i]?) b.lis
  simp only [xz,if_neg (Nat.lt_irrefl i)] at e
  rw [if_neg (by omega),if_neg (by omega),if_neg (by omega),if_neg (by omega),if_neg (by omega),if_neg (by omega),if_neg (by omega),if_neg (by omega),if_pos p,it,e,hl] at h
  cases h
  dsimp only
  by_cases q:l.zr=0
  ·rw [if_pos q]
   exact .inr ⟨_,by omega,hd0,.p10 i l rfl hi hl hd hc q b⟩
  ·rw [if_neg q,hw]
   refine .inr ⟨_,by omega,hd0,.p8 (i+1) rfl (by show m.i+1=_;omega) hlt ⟨b.zj,b.current,b.lock,b.pins,b.counts,b.yc,b.zg,b.lis.trans (vV hl ?_)⟩⟩
   unfold xl
   rw [if_neg]
   simp [q]
 | p10 i l p hi hl hd hc ha b=>
  have it:m.i.toNat=i:=by omega
  have hlt:=(List.getElem?_eq_some_iff.1 hl).1
  have hw:IntKind.i64.wrap (m.i+1)=m.i+1:=qf (by omega) (by omega)
  have e:=congrArg (fun l=>l[i]?) b.lis
  simp only [xz,if_neg (Nat.lt_irrefl i)] at e
  rw [if_neg (by omega),if_neg (by omega),if_neg (by omega),if_neg (by omega),if_neg (by omega),if_neg (by omega),if_neg (by omega),if_neg (by omega),if_neg (by omega),if_pos p,it,e,hl,Option.bind_some,if_pos hd,hw] at h
  cases h
  refine .inr ⟨_,by omega,hd0,.p8 (i+1) rfl (by show m.i+1=_;omega) hlt ⟨b.zj,b.current,b.lock,b.pins,b.counts,b.yc,b.zg,?_⟩⟩
  show w.zc.set i (wH l)=_
  rw [b.lis,<- zcr hl]
  congr 1
  unfold xl
  rw [if_pos (by rw [hd,hc,ha];rfl)]
end Go.Wor
namespace Go.Wor
open Go.Ab Go.Proofs Go.Gat Go.Nam Go.Hos Go.Con Go.Sna
open Go.Hy hiding encI
theorem za5 {w:Wor} (gw:qG w) {m:Mac} (ht:0<=m.zC∧m.zC < w.pins.length) (hd:m.done=false) (hv:m.version=0) (hc:m.zn=0) (he:m.end_=0) (ho:m.other=0) (hs:m.slot=0) (hl:m.listen= -1) (hi:m.i=0) (hk:m.k=0):∃ v g e,yi w m v g e:=by
 have c:=gw.current
 obtain ⟨v,hv0⟩:∃ v,w.zd[0]?= some v:=⟨_,List.getElem?_eq_getElem (by omega)⟩
 have gv:=(gw.ver _ v hv0).1
 have h0:0 < v.zk.length:=by have:=(xR gv.snap).zf.1;have:=gv.len;omega
 obtain ⟨g,e,hg,hee,l1,l2⟩:=wg gv h0
 exact ⟨v,g,e,qB.2 gw,ht,hd,by omega,by rw [hv];exact hv0,by omega,by rw [hc];exact hg,by omega,by rw [he];exact hee,by omega,by omega,by omega,by omega,by omega⟩
end Go.Wor
namespace Go.Wor
open Go.Ab Go.Proofs Go.Gat Go.Nam Go.Hos Go.Con Go.Sna Go.Pla
open Go.Hy hiding encI
abbrev zkc (w:Wor) (m:Mac) (r:Wor × Mac × Eve):Prop:=zb Tryz.prog 53 [] [Sw w,Sm m] (Sr r.1 r.2.1 r.2.2) []
theorem zeb {N:Nat} {w:Wor} {m:Mac} {v:Ver} {g:Gr} {e:En} {r:Wor × Mac × Eve} (su:yi w m v g e) (t:TyW N w) (tm:TyM m) (hN:N<=100000000) (hk:m.op.kind=5) (h:jr w m=some r):zkc w m r:=
 zfx hk (zdE su (zgX su) t tm hN h)
theorem zjh:∀ (n:Nat) {N K:Nat} {w0 w:Wor} {m:Mac} {v:Ver} {g:Gr} {e:En},J w0 w m n->qG w0->w0.lock=0->(w0.zc.length < 1000000000∧w0.zg.length < 1000000000)->St N K w->yi w m v g e->TyM m->zeq w m v g e->m.op.kind=5->N+n<=100000000->
  ∃ n' m' K',wR n' w m (vd w0) m'∧1<=n'∧n'<=n∧St (N+n) K' (vd w0):=by
 intro n
 induction n using Nat.strongRecOn with
 | _ n ih=>
  intro N K w0 w m v g e hJ g0 hl hb st su tm lo hk hN
  obtain ⟨⟨w',m',ev⟩,h1,h2⟩:=yq st su tm lo hk (by omega)
  have hp:=zeb su st.ty tm (by omega) hk h1
  have nx:=zeH hJ su.done g0 hl hb h1 h2.st.jF
  rcases nx with ⟨hd,hc,hn⟩ | ⟨n',hn,hd',hJ'⟩
  ·have hc:w'=vd w0:=hc
   subst hc
   exact ⟨1,m',K+1,.last hp h2.ev hd,by omega,hn,h2.st.mono (by omega) (Nat.le_refl _)⟩
  ·rcases h2.go with ⟨hd,hf⟩ | ⟨⟨v',g',e',hs',lo'⟩,h3⟩
   ·exact absurd (hd.symm.trans hd') (by decide)
   ·obtain ⟨n2,m2,K',hg,h4,h5,h6⟩:=ih n' hn hJ' g0 hl hb h2.st hs' h2.tm lo' (by rw [h2.op];exact hk) (by omega)
    exact ⟨n2+1,m2,K',.more hp h2.ev hs'.done hg,by omega,by omega,h6.mono (by omega) (Nat.le_refl _)⟩
def opC:Opn:=⟨5,[],[],[],0,0,0,⟨[],[],[]⟩⟩
abbrev zbX:Mac:=⟨opC,0,0,0,0, -1,0,0,0,0,0,0,0,0,0,false,Beg.zes,zbf⟩
def qy (w:Wor):Nat:=5+w.pins.length+3 * w.zc.length+zas w 0
theorem vU:TyM zbX:=⟨(by decide:i64 (-1)),(by decide:u64 0),(by decide:(-1:Int)<=0∧(0:Int)<=2147483646),by decide,by decide,(by decide:i64 0),(by decide:i64 0),fun _=>⟨⟨by decide,fun _ h=>nomatch h⟩,⟨by decide,fun _ h=>nomatch h⟩,⟨by decide,fun _ h=>nomatch h⟩⟩,fun _ _=>rfl⟩
def yp (w:Wor):Wor:=if w.lock=0 then vd w else w
theorem zcV {N K:Nat} {w:Wor} (st:St N K w) (hN:N+qy w<=100000000):∃ n m' K',wR n w zbX (yp w) m'∧1<=n∧n<=qy w∧St (N+qy w) K' (yp w):=by
 have gw:=st.jF
 have gr:=qb.1 gw.ground
 obtain ⟨v,g,e,su⟩:=za5 gw (m:=zbX) ⟨Int.le_refl _,by show (0:Int) < _;have:=gr.pins.1;omega⟩ rfl rfl rfl rfl rfl rfl rfl rfl rfl
 have lo:zeq w zbX v g e:=by constructor <;> dsimp only <;> omega
 unfold yp
 by_cases hl:w.lock=0
 ·rw [if_pos hl]
  have b1:=st.ty.lis
  have b2:=st.ty.lim
  obtain ⟨n,m',K',h1,h2,h3,h4⟩:=zjh _ (J.p0 rfl) gw hl ⟨by omega,by omega⟩ st su vU lo rfl (by unfold qy at hN;omega)
  exact ⟨n,m',K',h1,h2,by unfold qy;omega,h4.mono (by unfold qy;omega) (Nat.le_refl _)⟩
 ·rw [if_neg hl]
  obtain ⟨⟨w',m',ev⟩,h1,h2⟩:=yq st su vU lo rfl (by omega)
  have hp:=zeb su st.ty vU (by omega) rfl h1
  unfold jr at h1
  rw [if_pos rfl,if_neg hl] at h1
  cases h1
  exact ⟨1,_,K,.last hp h2.ev rfl,by omega,by unfold qy;omega,st.mono (by omega) (Nat.le_refl _)⟩
end Go.Wor
namespace Go.Wor
open Go.Ab Go.Proofs Go.Gat Go.Nam Go.Hos Go.Con Go.Sna Go.Pla
open Go.Hy hiding encI
def kQ (p:Int):Bool:=p != 0
def zeD (e:En):Bool:=e.zr != 0
def zg9 (g:Gr):Bool:=g.ends.any zeD
def zbz (v:Ver):Bool:=v.zk.any zg9
def ziR (l:Lis):Bool:=l.zr != 0
def x5 (l:Lis):Bool:=l.zr != 0 || l.drain && !l.closed
def vy (r:Ret):Bool:=!r.gone
def x3 (w:Wor):Bool:=w.lock == 0 && !w.pins.any kQ
def yF (w:Wor):Bool:=!w.zd.any zbz
def isQ (w:Wor):Bool:=x3 w && yF w && !w.zg.any vy && !w.zc.any x5
def zkV (w:Wor):Bool:=!w.pins.any kQ && !w.zc.any ziR && w.lock == 0 && yF w
structure Idl (w:Wor):Prop where
 lock:w.lock=0
 pins:∀ p ∈ w.pins,p=0
 ends : ∀ v ∈ w.zd, ∀ e ∈ qd v, e.zr = 0
 lis:∀ l ∈ w.zc,l.zr=0
theorem zc7 {w:Wor}:yF w=true↔∀ v ∈ w.zd,∀ e ∈ qd v,e.zr=0:=by
 have hb:∀ v:Ver,zbz v=false↔∀ e ∈ qd v,e.zr=0:=fun v=>by
  unfold zbz qd
  rw [List.any_eq_false]
  constructor
  ·intro h e he
   obtain ⟨g,hg,he⟩:=List.mem_flatMap.1 he
   have h1:=h g hg
   unfold zg9 at h1
   rw [Bool.not_eq_true,List.any_eq_false] at h1
   have h2:=h1 e he
   unfold zeD at h2
   simpa using h2
  ·intro h g hg
   unfold zg9
   rw [Bool.not_eq_true,List.any_eq_false]
   intro e he
   unfold zeD
   simp [h e (List.mem_flatMap.2 ⟨g,hg,he⟩)]
 unfold yF
 rw [Bool.not_eq_true',List.any_eq_false]
 exact ⟨fun h v hv=>(hb v).1 (by simpa using h v hv),fun h v hv=>by simpa using (hb v).2 (h v hv)⟩
theorem zl2 {w:Wor}:zkV w=true↔Idl w:=by
 unfold zkV
 simp only [Bool.and_eq_true,Bool.not_eq_true',List.any_eq_false,beq_iff_eq,zc7]
 constructor
 ·rintro ⟨⟨⟨h1,h2⟩,h3⟩,h4⟩
  exact ⟨h3,fun p hp=>by have:=h1 p hp;simpa [kQ] using this,h4,fun l hl=>by have:=h2 l hl;simpa [ziR] using this⟩
 ·rintro ⟨h3,h1,h4,h2⟩
  exact ⟨⟨⟨fun p hp=>by simp [kQ,h1 p hp],fun l hl=>by simp [ziR,h2 l hl]⟩,h3⟩,h4⟩
structure Qui (w:Wor):Prop extends Idl w where
 gone:∀ r ∈ w.zg,r.gone=true
 shut:∀ l ∈ w.zc,l.drain=true->l.closed=true
theorem zhm {w:Wor}:isQ w=true↔Qui w:=by
 unfold isQ x3
 simp only [Bool.and_eq_true,Bool.not_eq_true',List.any_eq_false,beq_iff_eq,zc7]
 constructor
 ·rintro ⟨⟨⟨⟨h1,h2⟩,h3⟩,h4⟩,h5⟩
  refine ⟨⟨h1,fun p hp=>by have:=h2 p hp;simpa [kQ] using this,h3,fun l hl=>?_⟩,fun r hr=>by have:=h4 r hr;simpa [vy] using this,fun l hl hd=>?_⟩
  ·have:=h5 l hl
   simp [x5] at this
   exact this.1
  ·have:=h5 l hl
   simp [x5,hd] at this
   exact this.2
 ·rintro ⟨⟨h1,h2,h3,h6⟩,h4,h5⟩
  refine ⟨⟨⟨⟨h1,fun p hp=>by simp [kQ,h2 p hp]⟩,h3⟩,fun r hr=>by simp [vy,h4 r hr]⟩,fun l hl=>?_⟩
  simp [x5,h6 l hl]
  intro hd
  exact h5 l hl hd
theorem kF (l:Lis):(xl l).zr=l.zr∧(xl l).drain=l.drain∧(l.closed=true->(xl l).closed=true)∧(l.drain=true->l.zr=0->(xl l).closed=true):=by
 unfold xl
 split
 ·exact ⟨rfl,rfl,fun _=>rfl,fun _ _=>rfl⟩
 ·rename_i h
  refine ⟨rfl,rfl,fun h=>h,fun hd ha=>?_⟩
  cases hc:l.closed with
  | true=>rfl
  | false=>exact absurd (by rw [hd,hc,ha];rfl) h
theorem zki {w:Wor} {v:Ver} (h:v ∈ (vd w).zd):∃ v0 ∈ w.zd,v.snap=v0.snap∧v.zk=v0.zk:=by
 obtain ⟨i,hi⟩:=List.mem_iff_getElem?.1 h
 have hi:(w.zd.mapIdx (fun k v=>{ v with j7:=jZ (w.zg.map (goR w)) k }))[i]?= some v:=hi
 rw [List.getElem?_mapIdx] at hi
 obtain ⟨v0,h0,rfl⟩:=Option.map_eq_some_iff.1 hi
 exact ⟨v0,List.mem_of_getElem? h0,rfl,rfl⟩
theorem Idl.col {w:Wor} (h:Idl w) (he:w.zj < 1000000000000):Idl (vd w)∧(vd w).zj=w.zj+1:=by
 refine ⟨⟨rfl,h.pins,fun v hv e hme=>?_,fun l hl=>?_⟩,?_⟩
 ·obtain ⟨v0,h0,_,hg⟩:=zki hv
  refine h.ends v0 h0 e ?_
  unfold qd at hme ⊢
  rwa [<- hg]
 ·obtain ⟨l0,h0,rfl⟩:=List.mem_map.1 (show l ∈ w.zc.map xl from hl)
  rw [(kF l0).1]
  exact h.lis l0 h0
 ·show jv w=_
  unfold jv
  rw [if_pos ⟨List.all_eq_true.2 fun p hp=>by simp [zca,h.pins p hp],he⟩]
theorem Idl.still {w:Wor} (h:Idl w) {r:Ret} (hr:0<=r.version∧r.version < w.zd.length):wK w r.version=true:=by
 unfold wK
 rw [List.getElem?_eq_getElem (by omega)]
 exact List.all_eq_true.2 fun e he=>by simp [h.ends _ (List.getElem_mem (by omega)) e he]
theorem Qui.col {w:Wor} (h:Qui w) (he:w.zj < 1000000000000):Qui (vd w):=by
 refine ⟨(h.toIdl.col he).1,fun r hr=>?_,fun l hl hd=>?_⟩
 ·obtain ⟨r0,h0,rfl⟩:=List.mem_map.1 (show r ∈ w.zg.map (goR w) from hr)
  unfold goR
  split
  ·rfl
  ·exact h.gone r0 h0
 ·obtain ⟨l0,h0,rfl⟩:=List.mem_map.1 (show l ∈ w.zc.map xl from hl)
  rw [(kF l0).2.1] at hd
  exact (kF l0).2.2.1 (h.shut l0 h0 hd)
end Go.Wor
namespace Go.Wor
open Go.Ab Go.Proofs Go.Gat Go.Nam Go.Hos Go.Con Go.Sna Go.Pla Go.Dep
open Go.Hy hiding encI
def zhe (f:FuncId):List C:=[.fn f [] []]
abbrev Fv (f:FuncId):C:=.agg (zhe f)
abbrev lFn (l:List FuncId):C:=.lst 0 1 (l.map zhe)
abbrev Rv (r:Ret):C:=.agg (qM r)
abbrev Lv (r:Lis):C:=.agg (qL r)
theorem ze3 {H:ze} {f:FuncId} {caps:List C} {l:List Ret} (p:Ret->Bool) (hcb:zA Tryz.prog f=true) (hp:∀ r ∈ l,zb Tryz.prog f H ([Rv r]++caps) (Bo (p r)) H) (hl:l.length < 4611686018427387904):
  zb Tryz.prog 168 H [lR l,.fn f [] caps] (I (match l.findIdx? p with | some i=>(i:Int) | none=> -1)) H:=by
 refine zb.zF (fn:=Tryz.f168) Tryz.func168 rfl ?_
 conv=>whnf
 refine zM.inv (fun n t1 H1=>∃ k,k+n=l.length∧H1=H∧(∀ j,j < k->∀ r,l[j]?= some r->p r=false)∧
   t1=[lR l,.fn f [] caps,.za,.za,I 0,.za,.za,I (l.map qM).length,I k,.za,.za,.za,.za,.za,.za,.za,.za,.za,.za]) l.length ?_ ?_
 ·exact ⟨_,_,zl.mask [0,1,4,7,8] _ _,0,by simp,rfl,by simp,rfl⟩
 rintro n _ _ ⟨k,hk,rfl,hno,rfl⟩
 conv=>whnf
 refine ⟨fun h=>?_,fun h=>?_⟩
 ·conv=>whnf
  have hlt:k < l.length:=by simpa using h
  refine ⟨by omega,qM l[k],by simp [hlt],?_⟩
  conv=>whnf
  rw [hcb]
  refine ⟨_,_,hp _ (List.getElem_mem hlt),?_⟩
  conv=>whnf
  refine ⟨fun h2=>?_,fun h2=>?_⟩
  ·conv=>whnf
   refine .inr ⟨by simp,?_⟩
   conv=>whnf
   refine ⟨.inl rfl,_,.refl _,rfl,?_⟩
   have:l.findIdx? p=some k:=by
    rw [List.findIdx?_eq_some_iff_getElem]
    refine ⟨hlt,h2,fun j hj=>?_⟩
    simp [hno j hj _ (List.getElem?_eq_getElem (by omega))]
   rw [this]
   rfl
  ·conv=>whnf
   refine .inl ⟨rfl,n - 1,_,_,by omega,zl.mask [0,1,4,7,8] _ _,k+1,by omega,rfl,?_,?_⟩
   ·intro j hj r hr
    by_cases hjk:j=k
    ·subst hjk
     rw [List.getElem?_eq_getElem hlt] at hr
     cases hr
     exact h2
    ·exact hno j (by omega) r hr
   ·rw [zp (by omega)];rfl
 ·conv=>whnf
  refine .inr ⟨by simp,?_⟩
  conv=>whnf
  refine ⟨.inl rfl,_,.refl _,rfl,?_⟩
  have:l.findIdx? p=none:=by
   rw [List.findIdx?_eq_none_iff]
   intro x hx
   obtain ⟨j,hj⟩:=List.mem_iff_getElem?.1 hx
   have hjl:=(List.getElem?_eq_some_iff.1 hj).1
   have:¬k < l.length:=by simpa using h
   exact hno j (by omega) x hj
  rw [this]
  rfl
theorem zeK {H:ze} {f:FuncId} {caps:List C} {l:List Ret} (p:Ret->Bool) (hcb:zA Tryz.prog f=true) (hp:∀ r ∈ l,zb Tryz.prog f H ([Rv r]++caps) (Bo (p r)) H) (hl:l.length < 4611686018427387904):
  zb Tryz.prog 117 H [lR l,.fn f [] caps] (Bo (l.any p)) H:=by
 refine zb.zF (fn:=Tryz.f117) Tryz.func117 rfl ?_
 conv=>whnf
 refine ⟨_,_,ze3 p hcb hp hl,?_⟩
 refine dd ?_
 rw [show decide ((match l.findIdx? p with | some i=>((i:Nat):Int) | none=>(-1:Int))≥(0:Int))=l.any p from yV l p]
 refine ⟨fun h=>?_,fun h=>?_⟩ <;> rw [h]
 ·refine dd ?_
  exact ⟨.inl rfl,_,.refl _,rfl,rfl⟩
 ·refine dd ?_
  exact ⟨.inl rfl,_,.refl _,rfl,rfl⟩
theorem ze2 {H:ze} {f:FuncId} {caps:List C} {l:List Lis} (p:Lis->Bool) (hcb:zA Tryz.prog f=true) (hp:∀ r ∈ l,zb Tryz.prog f H ([Lv r]++caps) (Bo (p r)) H) (hl:l.length < 4611686018427387904):
  zb Tryz.prog 110 H [lL l,.fn f [] caps] (I (match l.findIdx? p with | some i=>(i:Int) | none=> -1)) H:=by
 refine zb.zF (fn:=Tryz.f110) Tryz.func110 rfl ?_
 conv=>whnf
 refine zM.inv (fun n t1 H1=>∃ k,k+n=l.length∧H1=H∧(∀ j,j < k->∀ r,l[j]?= some r->p r=false)∧
   t1=[lL l,.fn f [] caps,.za,.za,I 0,.za,.za,I (l.map qL).length,I k,.za,.za,.za,.za,.za,.za,.za,.za,.za,.za]) l.length ?_ ?_
 ·exact ⟨_,_,zl.mask [0,1,4,7,8] _ _,0,by simp,rfl,by simp,rfl⟩
 rintro n _ _ ⟨k,hk,rfl,hno,rfl⟩
 conv=>whnf
 refine ⟨fun h=>?_,fun h=>?_⟩
 ·conv=>whnf
  have hlt:k < l.length:=by simpa using h
  refine ⟨by omega,qL l[k],by simp [hlt],?_⟩
  conv=>whnf
  rw [hcb]
  refine ⟨_,_,hp _ (List.getElem_mem hlt),?_⟩
  conv=>whnf
  refine ⟨fun h2=>?_,fun h2=>?_⟩
  ·conv=>whnf
   refine .inr ⟨by simp,?_⟩
   conv=>whnf
   refine ⟨.inl rfl,_,.refl _,rfl,?_⟩
   have:l.findIdx? p=some k:=by
    rw [List.findIdx?_eq_some_iff_getElem]
    refine ⟨hlt,h2,fun j hj=>?_⟩
    simp [hno j hj _ (List.getElem?_eq_getElem (by omega))]
   rw [this]
   rfl
  ·conv=>whnf
   refine .inl ⟨rfl,n - 1,_,_,by omega,zl.mask [0,1,4,7,8] _ _,k+1,by omega,rfl,?_,?_⟩
   ·intro j hj r hr
    by_cases hjk:j=k
    ·subst hjk
     rw [List.getElem?_eq_getElem hlt] at hr
     cases hr
     exact h2
    ·exact hno j (by omega) r hr
   ·rw [zp (by omega)];rfl
 ·conv=>whnf
  refine .inr ⟨by simp,?_⟩
  conv=>whnf
  refine ⟨.inl rfl,_,.refl _,rfl,?_⟩
  have:l.findIdx? p=none:=by
   rw [List.findIdx?_eq_none_iff]
   intro x hx
   obtain ⟨j,hj⟩:=List.mem_iff_getElem?.1 hx
   have hjl:=(List.getElem?_eq_some_iff.1 hj).1
   have:¬k < l.length:=by simpa using h
   exact hno j (by omega) x hj
  rw [this]
  rfl
theorem zeJ {H:ze} {f:FuncId} {caps:List C} {l:List Lis} (p:Lis->Bool) (hcb:zA Tryz.prog f=true) (hp:∀ r ∈ l,zb Tryz.prog f H ([Lv r]++caps) (Bo (p r)) H) (hl:l.length < 4611686018427387904):
  zb Tryz.prog 119 H [lL l,.fn f [] caps] (Bo (l.any p)) H:=by
 refine zb.zF (fn:=Tryz.f119) Tryz.func119 rfl ?_
 conv=>whnf
 refine ⟨_,_,ze2 p hcb hp hl,?_⟩
 refine dd ?_
 rw [show decide ((match l.findIdx? p with | some i=>((i:Nat):Int) | none=>(-1:Int))≥(0:Int))=l.any p from yV l p]
 refine ⟨fun h=>?_,fun h=>?_⟩ <;> rw [h]
 ·refine dd ?_
  exact ⟨.inl rfl,_,.refl _,rfl,rfl⟩
 ·refine dd ?_
  exact ⟨.inl rfl,_,.refl _,rfl,rfl⟩
theorem ze1 {H:ze} {f:FuncId} {caps:List C} {l:List FuncId} (p:FuncId->Bool) (hcb:zA Tryz.prog f=true) (hp:∀ r ∈ l,zb Tryz.prog f H ([Fv r]++caps) (Bo (p r)) H) (hl:l.length < 4611686018427387904):
  zb Tryz.prog 167 H [lFn l,.fn f [] caps] (I (match l.findIdx? p with | some i=>(i:Int) | none=> -1)) H:=by
 refine zb.zF (fn:=Tryz.f167) Tryz.func167 rfl ?_
 conv=>whnf
 refine zM.inv (fun n t1 H1=>∃ k,k+n=l.length∧H1=H∧(∀ j,j < k->∀ r,l[j]?= some r->p r=false)∧
   t1=[lFn l,.fn f [] caps,.za,.za,I 0,.za,.za,I (l.map zhe).length,I k,.za,.za,.za,.za,.za,.za,.za,.za,.za,.za]) l.length ?_ ?_
 ·exact ⟨_,_,zl.mask [0,1,4,7,8] _ _,0,by simp,rfl,by simp,rfl⟩
 rintro n _ _ ⟨k,hk,rfl,hno,rfl⟩
 conv=>whnf
 refine ⟨fun h=>?_,fun h=>?_⟩
 ·conv=>whnf
  have hlt:k < l.length:=by simpa using h
  refine ⟨by omega,zhe l[k],by simp [hlt],?_⟩
  conv=>whnf
  rw [hcb]
  refine ⟨_,_,hp _ (List.getElem_mem hlt),?_⟩
  conv=>whnf
  refine ⟨fun h2=>?_,fun h2=>?_⟩
  ·conv=>whnf
   refine .inr ⟨by simp,?_⟩
   conv=>whnf
   refine ⟨.inl rfl,_,.refl _,rfl,?_⟩
   have:l.findIdx? p=some k:=by
    rw [List.findIdx?_eq_some_iff_getElem]
    refine ⟨hlt,h2,fun j hj=>?_⟩
    simp [hno j hj _ (List.getElem?_eq_getElem (by omega))]
   rw [this]
   rfl
  ·conv=>whnf
   refine .inl ⟨rfl,n - 1,_,_,by omega,zl.mask [0,1,4,7,8] _ _,k+1,by omega,rfl,?_,?_⟩
   ·intro j hj r hr
    by_cases hjk:j=k
    ·subst hjk
     rw [List.getElem?_eq_getElem hlt] at hr
     cases hr
     exact h2
    ·exact hno j (by omega) r hr
   ·rw [zp (by omega)];rfl
 ·conv=>whnf
  refine .inr ⟨by simp,?_⟩
  conv=>whnf
  refine ⟨.inl rfl,_,.refl _,rfl,?_⟩
  have:l.findIdx? p=none:=by
   rw [List.findIdx?_eq_none_iff]
   intro x hx
   obtain ⟨j,hj⟩:=List.mem_iff_getElem?.1 hx
   have hjl:=(List.getElem?_eq_some_iff.1 hj).1
   have:¬k < l.length:=by simpa using h
   exact hno j (by omega) x hj
  rw [this]
  rfl
theorem zeI {H:ze} {f:FuncId} {caps:List C} {l:List FuncId} (p:FuncId->Bool) (hcb:zA Tryz.prog f=true) (hp:∀ r ∈ l,zb Tryz.prog f H ([Fv r]++caps) (Bo (p r)) H) (hl:l.length < 4611686018427387904):
  zb Tryz.prog 113 H [lFn l,.fn f [] caps] (Bo (l.any p)) H:=by
 refine zb.zF (fn:=Tryz.f113) Tryz.func113 rfl ?_
 conv=>whnf
 refine ⟨_,_,ze1 p hcb hp hl,?_⟩
 refine dd ?_
 rw [show decide ((match l.findIdx? p with | some i=>((i:Nat):Int) | none=>(-1:Int))≥(0:Int))=l.any p from yV l p]
 refine ⟨fun h=>?_,fun h=>?_⟩ <;> rw [h]
 ·refine dd ?_
  exact ⟨.inl rfl,_,.refl _,rfl,rfl⟩
 ·refine dd ?_
  exact ⟨.inl rfl,_,.refl _,rfl,rfl⟩
theorem zfG (w:Wor) (f:FuncId) (b:Bool) (hc:zA Tryz.prog f=true) (h:zb Tryz.prog f [] [Cw w] (Bo b) []):zb Tryz.prog 114 [⟨1,28,8,[zU w],0⟩] ([Fv f]++[.ref 0 [] 8 0 0]) (Bo (!b)) [⟨1,28,8,[zU w],0⟩]:=by
 refine zb.zF (fn:=Tryz.f114) Tryz.func114 rfl ?_
 conv=>whnf
 rw [hc]
 cases b
 all_goals
  refine ⟨_,_,h.frame rfl _,?_⟩
  refine dd ?_
  (repeat ((first | apply ya | apply yb);refine dd ?_))
  exact ⟨.inl rfl,_,zl.keep [3] 1 _ _ rfl rfl rfl rfl,rfl,rfl⟩
theorem vJ (w:Wor) (l:List FuncId) (p:FuncId->Bool) (h:∀ f ∈ l,zA Tryz.prog f=true∧zb Tryz.prog f [] [Cw w] (Bo (p f)) []) (hl:l.length < 4611686018427387904):zb Tryz.prog 65 [] [Cw w,lFn l] (Bo (!l.any fun f=>!p f)) []:=by
 refine zb.zm (fn:=Tryz.f65) Tryz.func65 rfl ?_
 conv=>whnf
 have hcon:=zeI (H:=[⟨1,28,8,[zU w],0⟩]) (f:=114) (l:=l) (caps:=[.ref 0 [] 8 0 0]) (fun f=>!p f) (by kernel_rfl) (fun r hr=>zfG w r (p r) (h r hr).1 (h r hr).2) hl
 refine zq [0] (hcon) rfl rfl rfl rfl rfl rfl ?_;refine dd ?_
 refine ⟨fun q=>?_,fun q=>?_⟩
 all_goals
  rw [q]
  refine dd ?_
  (try (repeat ((first | apply ya | apply yb);refine dd ?_)))
  exact ⟨.inl rfl,_,.refl _,rfl⟩
theorem zdY (p:Int):zb Tryz.prog 115 [] [I p] (Bo (kQ p)) []:=by
 refine zb.zm (fn:=Tryz.f115) Tryz.func115 rfl ?_
 conv=>whnf
 refine ⟨fun h=>?_,fun h=>?_⟩
 all_goals
  refine dd ?_
  (exact ⟨.inl rfl,_,.refl _,congrArg (fun b=>some (C.v (Value.bool b))) (by exact h.symm)⟩)
theorem zef (w:Wor) (hw:w.pins.length < 4611686018427387904):zb Tryz.prog 66 [] [Cw w] (Bo (x3 w)) []:=by
 refine zb.zm (fn:=Tryz.f66) Tryz.func66 rfl ?_
 conv=>whnf
 refine ⟨fun h1=>?_,fun h1=>?_⟩
 ·have e:x3 w=!w.pins.any kQ:=by unfold x3;simp at h1;rw [h1];rfl
  rw [e]
  refine dd ?_
  have hcon:=zbF (H:=[]) (f:=115) (l:=w.pins) (caps:=[]) kQ (by kernel_rfl) (fun r _=>zdY r) hw
  refine ⟨_,_,(hcon).frame rfl _,?_⟩;refine dd ?_
  refine ⟨fun q=>?_,fun q=>?_⟩
  all_goals
   rw [q]
   refine dd ?_
   (try (repeat ((first | apply ya | apply yb);refine dd ?_)))
   exact ⟨.inl rfl,_,.refl _,rfl⟩
 ·have e:x3 w=false:=by unfold x3;simp at h1;simp [h1]
  rw [e]
  refine dd ?_
  exact ⟨.inl rfl,_,.refl _,rfl⟩
theorem ze0 (e:En):zb Tryz.prog 116 [] [Go.Slp.Ev e] (Bo (zeD e)) []:=by
 refine zb.zm (fn:=Tryz.f116) Tryz.func116 rfl ?_
 conv=>whnf
 refine ⟨fun h=>?_,fun h=>?_⟩
 all_goals
  refine dd ?_
  (exact ⟨.inl rfl,_,.refl _,congrArg (fun b=>some (C.v (Value.bool b))) (by exact h.symm)⟩)
theorem zeY (r:Ret):zb Tryz.prog 118 [] [Rv r] (Bo (vy r)) []:=by
 refine zb.zm (fn:=Tryz.f118) Tryz.func118 rfl ?_
 conv=>whnf
 refine ⟨fun h=>?_,fun h=>?_⟩
 all_goals
  refine dd ?_
  (exact ⟨.inl rfl,_,.refl _,congrArg (fun b=>some (C.v (Value.bool b))) (by unfold vy;rw [h];rfl)⟩)
theorem zfi (w:Wor) (hw:w.zg.length < 4611686018427387904):zb Tryz.prog 68 [] [Cw w] (Bo (!w.zg.any vy)) []:=by
 refine zb.zm (fn:=Tryz.f68) Tryz.func68 rfl ?_
 conv=>whnf
 have hcon:=zeK (H:=[]) (f:=118) (l:=w.zg) (caps:=[]) vy (by kernel_rfl) (fun r _=>zeY r) hw
 refine ⟨_,_,(hcon).frame rfl _,?_⟩;refine dd ?_
 refine ⟨fun q=>?_,fun q=>?_⟩
 all_goals
  rw [q]
  refine dd ?_
  (try (repeat ((first | apply ya | apply yb);refine dd ?_)))
  exact ⟨.inl rfl,_,.refl _,rfl⟩
theorem zfu (l:Lis):zb Tryz.prog 120 [] [Lv l] (Bo (x5 l)) []:=by
 obtain ⟨a,b,c,d⟩:=l
 refine zb.zm (fn:=Tryz.f120) Tryz.func120 rfl ?_
 conv=>whnf
 refine ⟨fun h1=>?_,fun h1=>?_⟩
 ·refine dd ?_
  (try (repeat ((first | apply ya | apply yb);refine dd ?_)))
  (exact ⟨.inl rfl,_,.refl _,congrArg (fun b=>some (C.v (Value.bool b))) (by unfold x5;simp at h1;simp [h1])⟩)
 ·refine dd ?_
  cases b
  ·(refine ⟨fun h=>absurd (h.symm.trans rfl:true=false) (by decide),fun _=>?_⟩);refine dd ?_
   (exact ⟨.inl rfl,_,.refl _,congrArg (fun b=>some (C.v (Value.bool b))) (by unfold x5;simp at h1;simp [h1])⟩)
  ·(refine ⟨fun _=>?_,fun h=>absurd (h.symm.trans rfl:false=true) (by decide)⟩);refine dd ?_
   cases d
   ·(refine ⟨fun h=>absurd (h.symm.trans rfl:true=false) (by decide),fun _=>?_⟩);refine dd ?_
    (exact ⟨.inl rfl,_,.refl _,congrArg (fun b=>some (C.v (Value.bool b))) (by unfold x5;simp at h1;simp [h1])⟩)
   ·(refine ⟨fun _=>?_,fun h=>absurd (h.symm.trans rfl:false=true) (by decide)⟩);refine dd ?_
    (exact ⟨.inl rfl,_,.refl _,congrArg (fun b=>some (C.v (Value.bool b))) (by unfold x5;simp at h1;simp [h1])⟩)
theorem zfk (w:Wor) (hw:w.zc.length < 4611686018427387904):zb Tryz.prog 69 [] [Cw w] (Bo (!w.zc.any x5)) []:=by
 refine zb.zm (fn:=Tryz.f69) Tryz.func69 rfl ?_
 conv=>whnf
 have hcon:=zeJ (H:=[]) (f:=120) (l:=w.zc) (caps:=[]) x5 (by kernel_rfl) (fun r _=>zfu r) hw
 refine ⟨_,_,(hcon).frame rfl _,?_⟩;refine dd ?_
 refine ⟨fun q=>?_,fun q=>?_⟩
 all_goals
  rw [q]
  refine dd ?_
  (try (repeat ((first | apply ya | apply yb);refine dd ?_)))
  exact ⟨.inl rfl,_,.refl _,rfl⟩
structure WkQ (w:Wor):Prop where
 zd:w.zd.length < 4000000000000000000
 zk:∀ v ∈ w.zd,v.zk.length < 4000000000000000000∧∀ g ∈ v.zk,g.ends.length < 4000000000000000000
 pins:w.pins.length < 4000000000000000000
 zc:w.zc.length < 4000000000000000000
 zg:w.zg.length < 4000000000000000000
theorem zfj (w:Wor) (hw:WkQ w):zb Tryz.prog 67 [] [Cw w] (Bo (yF w)) []:=by
 have m2:(w.zd.map qu).length=w.zd.length:=List.length_map ..
 have b2:=hw.zd
 refine zb.zm (fn:=Tryz.f67) Tryz.func67 rfl ?_
 conv=>whnf
 rw [m2]
 refine zM.seq w.zd.length (fun k=>[.za,.ref 0 [] 8 0 0,Bo false,.za,.za,.za,.za,.za,lV w.zd,I w.zd.length,I k,.za,.za,.za,.za,.za,.za,.za,.za,.za,.za,.za,.za,.za,.za,.za]) (fun k=>[⟨1,28,8,[zU w],0⟩]) (fun k=>∀ j,(h:j < w.zd.length)->j < k->zbz w.zd[j]=false) ?_ (by simp) (fun k hk hr=>?_) (fun hr=>?_)
 ·exact cC
 ·obtain ⟨v,hx⟩:∃ v,v=w.zd[k]:=⟨_,rfl⟩
  have hv:v ∈ w.zd:=by rw [hx];exact List.getElem_mem hk
  have hg:(w.zd.map qu)[k]?= some (qu v):=by rw [List.getElem?_map,List.getElem?_eq_getElem hk,hx];rfl
  have mg:(v.zk.map q7).length=v.zk.length:=List.length_map ..
  have bad:zbz v=true->yF w=false:=fun h=>by
   unfold yF;rw [List.any_eq_true.2 ⟨v,hv,h⟩];rfl
  have bg:=(hw.zk v hv).1
  conv=>whnf
  (refine ⟨fun _=>?_,fun h=>absurd h (by simp;omega)⟩);refine dd ?_
  (refine ⟨by omega,_,by rw [toNat_cast];exact hg,?_⟩);refine dd ?_
  rw [mg]
  refine zM.seq v.zk.length (fun j=>[.za,.ref 0 [] 8 0 0,Bo false,.za,.ref 1 [] 5 0 0,.za,.za,.za,lV w.zd,I w.zd.length,I k,.za,.za,.za,.za,lG v.zk,I v.zk.length,I j,.za,.za,.za,.za,.za,.za,.za,.za]) (fun j=>[⟨1,28,8,[zU w],0⟩,⟨1,72,5,[qu v],0⟩]) (fun j=>∀ i,(h:i < v.zk.length)->i < j->zg9 v.zk[i]=false) ?_ (by simp) (fun j hj hrj=>?_) (fun hrj=>?_)
  ·exact cC
  ·obtain ⟨g,hxg⟩:∃ g,g=v.zk[j]:=⟨_,rfl⟩
   have hgm:g ∈ v.zk:=by rw [hxg];exact List.getElem_mem hj
   have hgg:(v.zk.map q7)[j]?= some (q7 g):=by rw [List.getElem?_map,List.getElem?_eq_getElem hj,hxg];rfl
   have be:=(hw.zk v hv).2 g hgm
   have hcon:=zbE (H:=[]) (f:=116) (l:=g.ends) (caps:=[]) zeD (by kernel_rfl) (fun r _=>ze0 r) (by omega)
   conv=>whnf
   (refine ⟨fun _=>?_,fun h=>absurd h (by simp;omega)⟩);refine dd ?_
   (refine ⟨by omega,_,by rw [toNat_cast];exact hgg,?_⟩);refine dd ?_
   refine ⟨_,_,(hcon).frame rfl _,?_⟩;refine dd ?_
   refine ⟨fun q=>?_,fun q=>?_⟩
   ·rw [bad (List.any_eq_true.2 ⟨g,hgm,q⟩)]
    refine dd ?_
    (refine .inr ⟨by simp,?_⟩);(conv=>whnf)
    (try (refine .inr ⟨by simp,?_⟩);(conv=>whnf))
    exact ⟨.inl rfl,_,.refl _,rfl⟩
   ·refine dd ?_
    refine .inl ⟨rfl,?_,fun i hi hij=>?_⟩
    ·rw [zp (by omega)]
     exact cE 2
    ·by_cases e:i=j
     ·subst e;rw [<- hxg];exact q
     ·exact hrj i hi (by omega)
  ·have no:zbz v=false:=by
    unfold zbz
    rw [List.any_eq_false]
    intro x hx
    obtain ⟨i,hi,rfl⟩:=List.mem_iff_getElem.1 hx
    simp [hrj i hi hi]
   (conv=>whnf);(refine ⟨fun h=>absurd h (by simp),fun _=>?_⟩);refine dd ?_;(refine ⟨by simp,?_⟩);(conv=>whnf)
   refine .inl ⟨rfl,?_,fun i hi hij=>?_⟩
   ·rw [zp (by omega)]
    exact cE 1
   ·by_cases e:i=k
    ·subst e;rw [<- hx];exact no
    ·exact hr i hi (by omega)
 ·have e:yF w=true:=by
   unfold yF
   rw [Bool.not_eq_true',List.any_eq_false]
   intro x hx
   obtain ⟨i,hi,rfl⟩:=List.mem_iff_getElem.1 hx
   simp [hr i hi hi]
  rw [e]
  (conv=>whnf);(refine ⟨fun h=>absurd h (by simp),fun _=>?_⟩);refine dd ?_;(refine ⟨by simp,?_⟩);(conv=>whnf)
  exact ⟨.inl rfl,_,.refl _,rfl⟩
theorem jJ (w:Wor) (hw:WkQ w):zb Tryz.prog 26 [] [Cw w] (Bo (isQ w)) []:=by
 have h:=vJ w [66,67,68,69] (fun f=>if f=66 then x3 w else if f=67 then yF w else if f=68 then !w.zg.any vy else !w.zc.any x5) (by
  intro f hf
  simp only [List.mem_cons,List.not_mem_nil,or_false] at hf
  rcases hf with rfl | rfl | rfl | rfl
  ·exact ⟨by kernel_rfl,zef w (by have:=hw.pins;omega)⟩
  ·exact ⟨by kernel_rfl,zfj w hw⟩
  ·exact ⟨by kernel_rfl,zfi w (by have:=hw.zg;omega)⟩
  ·exact ⟨by kernel_rfl,zfk w (by have:=hw.zc;omega)⟩) (by decide)
 have e:isQ w=!([66,67,68,69].any fun f=>!(if f=66 then x3 w else if f=67 then yF w else if f=68 then !w.zg.any vy else !w.zc.any x5)):=by
  show isQ w=!(!x3 w || (!yF w || (!(!w.zg.any vy) || (!(!w.zc.any x5) || false))))
  unfold isQ
  cases x3 w <;> cases yF w <;> cases w.zg.any vy <;> cases w.zc.any x5 <;> rfl
 rw [e]
 refine zb.zm (fn:=Tryz.f26) Tryz.func26 rfl ?_
 conv=>whnf
 have h2:=h.pre (.cons (.refl _) (.cons (fun E y hy=>WC.share 1 1 _ E y hy) .nil))
 refine ⟨_,_,(h2).frame rfl _,?_⟩;refine dd ?_
 refine ⟨fun q=>?_,fun q=>?_⟩
 all_goals
  rw [q]
  refine dd ?_
  (try (repeat ((first | apply ya | apply yb);refine dd ?_)))
  exact ⟨.inl rfl,_,.refl _,rfl⟩
end Go.Wor
namespace Go.Wor
open Go.Ab Go.Proofs Go.Gat Go.Nam Go.Hos Go.Con Go.Sna Go.Pla Go.Dep
open Go.Hy hiding encI
abbrev zgC:C:=.agg [I 5,Tx [],Tx [],Tx [],I 0,I 0,I 0,.lst 1 0 [],.lst 1 0 [],.lst 1 0 []]
theorem WC.zmc {a b:List C} (h:WCs a b):WC (.agg a) (.agg b):=fun E y hl=>by
 cases hl with
 | agg cs ys h1 h2 h3=>
  have h:=(h.LL (E:=E) (ys:=ys.toList) ⟨by simpa using h1,fun i c y e1 e2=>h2 i c y e1 (by simpa using e2)⟩)
  exact .agg b ys (by simpa using h.1) (fun i c y e1 e2=>h.2 i c y e1 (by simpa using e2)) h3
theorem zcg {n:Nat} {w w':Wor} {t:Int} {o:Opn} {m m':Mac} {given:List Ans} (hb:zb Tryz.prog 18 [] [I t,.agg (zbJ o),lA given] (Sm m) []) (hg:wR n w m w' m') (hn:n<=10000):zb Tryz.prog 35 [] [Sw w,I t,.agg (zbJ o),lA given] (.tup [Sw w',.agg (xq m'.answer),I n]) []:=by
 refine zb.zm (fn:=Tryz.f35) Tryz.func35 rfl ?_
 conv=>whnf
 refine ⟨_,_,(hb).frame rfl _,?_⟩;refine dd ?_
 refine zM.inv (fun i t1 H1=>∃ (k:Nat) (wk:Wor) (mk:Mac),k+i=n∧wR i wk mk w' m'∧t1=[.za,.za,.za,.za,.ref 0 [] 8 0 0,.za,.ref 1 [] 10 0 0,.za,.ref 2 [] 8 0 0,.ref 3 [] 13 0 0,I 0,.ref 4 [] 44 0 0,.ref 5 [] 8 0 0,.za,.za,.za,.za,.za,.za,.za,.za,.za,I k,.za,.za,.za,.za,.za,.za,.za,.za,.za,.za,.za,.za,.za,.za,.za,.za,.za,.za,.za,.za,.za,.za,.za,.za]∧H1=[⟨1,28,8,[zU (w)],0⟩,⟨1,35,10,[zbJ o],0⟩,⟨1,28,8,[[I 0,I 0,I 0,.lst 1 0 [],.lst 1 0 [],.lst 1 0 [],.lst 1 0 [],.lst 1 0 []]],0⟩,⟨1,41,13,[xq ⟨0,0,0,0,0,0,0,zbf⟩],0⟩,⟨1,43,44,[zW (mk)],0⟩,⟨1,28,8,[zU (wk)],0⟩]) n ?_ ?_
 ·exact ⟨_,_,cC,0,w,m,by simp,hg,rfl,rfl⟩
 rintro i _ _ ⟨k,wk,mk,hk,hg,rfl,rfl⟩
 have hi:1<=i:=by cases hg <;> omega
 conv=>whnf
 (refine ⟨fun _=>?_,fun h=>absurd h (by simp;omega)⟩);refine dd ?_
 cases hg with
 | last h he hd=>
  refine ⟨_,_,(h).frame rfl _,?_⟩;refine dd ?_
  refine ⟨fun h=>absurd h (by simpa using he),fun _=>?_⟩
  refine dd ?_
  refine .inl ⟨⟨false,[0,1],[6,7],[]⟩,by kernel_rfl,?_⟩;(conv=>whnf)
  repeat (refine ⟨rfl,?_⟩;conv=>whnf)
  refine ⟨fun _=>?_,fun h=>absurd ((hd).symm.trans h:true=false) (by decide)⟩;refine dd ?_
  refine .inl ⟨⟨false,[0,2],[4,5],[]⟩,by kernel_rfl,?_⟩;(conv=>whnf)
  repeat (refine ⟨rfl,?_⟩;conv=>whnf)
  refine .inr ⟨by simp,?_⟩
  conv=>whnf
  rw [zp (by omega),hk]
  exact ⟨.inl rfl,_,.refl _,rfl⟩
 | more h he hd hg=>
  refine ⟨_,_,(h).frame rfl _,?_⟩;refine dd ?_
  refine ⟨fun h=>absurd h (by simpa using he),fun _=>?_⟩
  refine dd ?_
  refine .inl ⟨⟨false,[0,1],[6,7],[]⟩,by kernel_rfl,?_⟩;(conv=>whnf)
  repeat (refine ⟨rfl,?_⟩;conv=>whnf)
  refine ⟨fun h=>absurd ((hd).symm.trans h:false=true) (by decide),fun _=>?_⟩;refine dd ?_
  rw [zp (by omega)]
  exact .inl ⟨rfl,_,_,_,Nat.lt_succ_self _,cE 6,k+1,_,_,by omega,hg,rfl,rfl⟩
end Go.Wor
namespace Go.Wor
open Go.Ab Go.Proofs Go.Gat Go.Nam Go.Hos Go.Con Go.Sna Go.Pla
open Go.Hy hiding encI
end Go.Wor
namespace Go.Wor
open Go.Ab Go.Proofs Go.Gat Go.Nam Go.Hos Go.Con Go.Sna Go.Pla
open Go.Hy hiding encI
theorem zmK {α:Type} (f:α->Nat) (l:List α) {k:Nat} (h:k < l.length):((l.take (k+1)).map f).sum=((l.take k).map f).sum+f l[k]:=by
 rw [List.take_succ_eq_append_getElem h,List.map_append,List.sum_append]
 simp
theorem zlV {α:Type} (f:α->Nat) (b:Nat):∀ (l:List α),(∀ x ∈ l,f x<=b)->(l.map f).sum<=l.length * b
 | [],_=>by simp
 | x::l,h=>by
  have:=zlV f b l fun y hy=>h y (List.mem_cons_of_mem _ hy)
  have:=h x (List.mem_cons_self ..)
  rw [List.map_cons,List.sum_cons,List.length_cons,Nat.add_mul]
  omega
theorem zhx {α:Type} (f:α->Nat) (b:Nat) (l:List α) (h:∀ x ∈ l,f x<=b) (k:Nat):((l.take k).map f).sum<=l.length * b:=
 Nat.le_trans (zlV f b _ fun x hx=>h x (List.mem_of_mem_take hx)) (Nat.mul_le_mul_right _ (by rw [List.length_take];omega))
def qS (w:Wor) (r:Ret):Nat:=if 0<=r.version∧r.version < w.zd.length then qR w r else 0
def zlQ (w:Wor):Nat:=5+w.pins.length+3 * w.zc.length+(w.zg.map (qS w)).sum
structure zmb (w:Wor):Prop where
 pins:w.pins.length<=1000
 zc:w.zc.length<=1000
 zg:w.zg.length<=1000
 yc:w.zd.length<=1000∧∀ v ∈ w.zd,zhE v
theorem zlb {w:Wor} (h:zmb w) (r:Ret):qS w r<=1000002:=by
 unfold qS
 split
 ·unfold qR
  split
  ·rename_i v hv
   have f:=h.yc.2 v (List.mem_of_getElem? hv)
   have:=zbO v.zk f.ends
   have:=f.zk
   unfold qd
   omega
  ·omega
 ·omega
theorem zeg (w:Wor) (hw:zmb w):zb Tryz.prog 28 [] [Cw w] (I (zlQ w)) []:=by
 have m1:(w.pins.map Go.Hy.encI).length=w.pins.length:=List.length_map ..
 have m2:(w.zd.map qu).length=w.zd.length:=List.length_map ..
 have m3:(w.zc.map qL).length=w.zc.length:=List.length_map ..
 have m4:(w.zg.map qM).length=w.zg.length:=List.length_map ..
 have b1:=hw.pins
 have b2:=hw.yc.1
 have b3:=hw.zc
 have b4:=hw.zg
 refine zb.zm (fn:=Tryz.f28) Tryz.func28 rfl ?_
 conv=>whnf
 rw [m1,m3,m4]
 have e1:IntKind.i64.wrap (IntKind.i64.wrap (5+(w.pins.length:Int))+IntKind.i64.wrap (3 * (w.zc.length:Int)))=((5+w.pins.length+3 * w.zc.length+0:Nat):Int):=by
  rw [qf (n:=5+(w.pins.length:Int)) (by omega) (by omega),qf (n:=3 * (w.zc.length:Int)) (by omega) (by omega),qf (by omega) (by omega)]
  omega
 rw [e1]
 refine zM.seq w.zg.length (fun k=>[.za,.ref 0 [] 8 0 0,I 0,I (5+w.pins.length+3 * w.zc.length+((w.zg.take k).map (qS w)).sum:Nat),.za,.za,.za,.za,.za,.za,.za,.za,.za,.za,.za,.za,lR w.zg,I w.zg.length,I k,.za,.za,.za,.za,.za,.za,.za,.za,.za,.za,.za,.za,.za,.za,.za,.za,.za,.za,.za,.za,.za,.za,.za,.za,.za,.za]) (fun k=>[⟨1,28,8,[zU w],0⟩]) (fun k=>True) ?_ trivial (fun k hk _=>?_) (fun _=>?_)
 ·exact cC
 ·obtain ⟨x,hx⟩:∃ x,x=w.zg[k]:=⟨_,rfl⟩
  have hg:(w.zg.map qM)[k]?= some (qM x):=by rw [List.getElem?_map,List.getElem?_eq_getElem hk,hx];rfl
  have sk:=zmK (qS w) w.zg hk
  rw [<- hx] at sk
  have sb:=zhx (qS w) 1000002 w.zg (fun r _=>zlb hw r) k
  have sc:=zhx (qS w) 1000002 w.zg (fun r _=>zlb hw r) (k+1)
  have no:¬(0<=x.version∧x.version < w.zd.length)->((w.zg.take (k+1)).map (qS w)).sum=((w.zg.take k).map (qS w)).sum:=fun h=>by rw [sk];unfold qS;rw [if_neg h];rfl
  conv=>whnf
  (refine ⟨fun _=>?_,fun h=>absurd h (by simp;omega)⟩);refine dd ?_
  (refine ⟨by omega,_,by rw [toNat_cast];exact hg,?_⟩);refine dd ?_
  refine ⟨fun c1=>?_,fun c1=>?_⟩
  ·refine dd ?_
   rw [m2]
   refine ⟨fun c2=>?_,fun c2=>?_⟩
   ·refine dd ?_
    have c1:0<=x.version:=by simpa using c1
    have c2:x.version < w.zd.length:=by simpa using c2
    obtain ⟨v,hv⟩:∃ v,w.zd[x.version.toNat]?= some v:=⟨_,List.getElem?_eq_getElem (by omega)⟩
    have hgv:(w.zd.map qu)[x.version.toNat]?= some (qu v):=by rw [List.getElem?_map,hv];rfl
    have q:qS w x=2+(qd v).length:=by unfold qS;rw [if_pos ⟨c1,c2⟩];unfold qR;rw [hv]
    (try (repeat ((first | apply ya | apply yb);refine dd ?_)))
    refine ⟨c1,_,hgv,?_⟩
    refine dd ?_
    refine ⟨_,_,(zaF v (hw.yc.2 v (List.mem_of_getElem? hv))).frame rfl _,?_⟩;refine dd ?_
    have e2:IntKind.i64.wrap (((5+w.pins.length+3 * w.zc.length+((w.zg.take k).map (qS w)).sum:Nat):Int)+IntKind.i64.wrap (2+((qd v).length:Int)))=((5+w.pins.length+3 * w.zc.length+((w.zg.take (k+1)).map (qS w)).sum:Nat):Int):=by
     rw [qf (n:=2+((qd v).length:Int)) (by omega) (by omega),qf (by omega) (by omega)]
     omega
    rw [e2,zp (by omega)]
    refine .inl ⟨rfl,?_,trivial⟩
    exact cE 1
   ·refine dd ?_
    (try (repeat ((first | apply ya | apply yb);refine dd ?_)))
    rw [zp (by omega),<- no (fun h=>by simp at c2;omega)]
    refine .inl ⟨rfl,?_,trivial⟩
    exact cE 1
  ·refine dd ?_
   (try (repeat ((first | apply ya | apply yb);refine dd ?_)))
   rw [zp (by omega),<- no (fun h=>by simp at c1;omega)]
   refine .inl ⟨rfl,?_,trivial⟩
   exact cE 1
 ·(conv=>whnf);(refine ⟨fun h=>absurd h (by simp),fun _=>?_⟩);refine dd ?_;(refine ⟨by simp,?_⟩);(conv=>whnf)
  rw [List.take_length]
  exact ⟨.inl rfl,_,.refl _,rfl⟩
end Go.Wor
namespace Go.Wor
open Go.Ab Go.Proofs Go.Gat Go.Nam Go.Hos Go.Con Go.Sna Go.Pla
open Go.Hy hiding encI
def qZ:Nat->Wor->Wor
 | 0,w=>w
 | n+1,w=>yp (qZ n w)
theorem zlJ (w:Wor) (r:Ret):qR (vd w) (goR w r)=qR w r:=by
 have hv:(goR w r).version=r.version:=by unfold goR;split <;> rfl
 unfold qR
 rw [hv]
 show (match (w.zd.mapIdx (fun k v=>{ v with j7:=jZ (w.zg.map (goR w)) k }))[r.version.toNat]? with | some v=>_ | none=>_)=_
 rw [List.getElem?_mapIdx]
 cases w.zd[r.version.toNat]? <;> rfl
theorem ziz (w:Wor):qy (vd w)=qy w:=by
 have e:(w.zg.map (goR w)).map (qR (vd w))=w.zg.map (qR w):=by
  rw [List.map_map]
  exact List.map_congr_left fun r _=>zlJ w r
 unfold qy zas
 show 5+w.pins.length+3 * (w.zc.map xl).length+(((w.zg.map (goR w)).drop 0).map (qR (vd w))).sum=_
 rw [List.length_map,List.drop_zero,List.drop_zero,e]
theorem zgW (w:Wor):qy (yp w)=qy w:=by
 unfold yp
 split
 ·exact ziz w
 ·rfl
theorem zi5 (w:Wor):(yp w).current=w.current:=by
 unfold yp
 split <;> rfl
theorem y1 (w:Wor):∀ n,qy (qZ n w)=qy w
 | 0=>rfl
 | n+1=>(zgW _).trans (y1 w n)
theorem zeL (w:Wor):∀ n,(qZ n w).current=w.current
 | 0=>rfl
 | n+1=>(zi5 _).trans (zeL w n)
theorem zbp {N K:Nat} {w:Wor} (st:St N K w):∀ n,N+n * qy w<=100000000->∃ K',St (N+n * qy w) K' (qZ n w)
 | 0,_=>⟨K,by rw [Nat.zero_mul];exact st⟩
 | n+1,h=>by
  rw [Nat.add_mul] at h ⊢
  obtain ⟨K',s⟩:=zbp st n (by omega)
  have e:=y1 w n
  obtain ⟨_,_,K2,_,_,_,h4⟩:=zcV s (by rw [e];omega)
  rw [e] at h4
  exact ⟨K2,h4.mono (by omega) (Nat.le_refl _)⟩
theorem zfl {w:Wor} (h:Qui w) (he:w.zj<=1000000):∀ n,n<=1000000->Qui (qZ n w)∧(qZ n w).zj=w.zj+n
 | 0,_=>⟨h,by show w.zj=_;omega⟩
 | n+1,hn=>by
  obtain ⟨q,e⟩:=zfl h he n (by omega)
  show Qui (yp _)∧(yp _).zj=_
  unfold yp
  rw [if_pos q.lock]
  exact ⟨q.col (by omega),(q.toIdl.col (by omega)).2.trans (by omega)⟩
def xo (w:Wor) (n:Int):Wor × Int:=if qa w=true∧0<=n∧n<=10 then (qZ n.toNat w,0) else (y4,1)
theorem zdk {w:Wor} (hb:j8 w=false) (hg:qG w):qy w<=2000:=by
 obtain ⟨b1,b2,b3,b4,b5,b6⟩:=vK hb
 have q:∀ r ∈ w.zg.drop 0,qR w r<=18:=fun r _=>by
  unfold qR
  split
  ·rename_i v hv
   have:=vo (hg.ver _ v hv).1
   omega
  ·omega
 have:=zlV (qR w) 18 (w.zg.drop 0) q
 rw [List.drop_zero] at this
 unfold qy zas
 rw [List.drop_zero]
 omega
end Go.Wor
namespace Go.Wor
open Go.Ab Go.Proofs Go.Gat Go.Nam Go.Hos Go.Con Go.Sna Go.Pla Go.Dep
open Go.Hy hiding encI
theorem zcR:zb Tryz.prog 18 [] [I 0,.agg (zbJ opC),lA []] (Sm zbX) []:=by
 have h:=Beg.zew 0 opC [] (by decide)
 have e:Beg.wW 0 opC []=zbX:=by rw [ziO];rfl
 rw [e] at h
 exact h
theorem zcQ {n:Nat} {w w':Wor} {m':Mac} (hg:wR n w zbX w' m') (hn:n<=10000):zb Tryz.prog 35 [] [Sw w,I 0,zgC,.lst 1 0 []] (.tup [Sw w',.agg (xq m'.answer),I n]) []:=
 (zcg (given:=[]) zcR hg hn).pre (.cons (.refl _) (.cons (.refl _) (.cons (WC.zmc (.cons (.refl _) (.cons (.refl _) (.cons (.refl _) (.cons (.refl _) (.cons (.refl _) (.cons (.refl _) (.cons (.refl _) (.cons (WC.nil 0 1) (.cons (WC.nil 0 4) (.cons (WC.nil 0 4) .nil))))))))))) (.cons (WC.nil 0 13) .nil))))
theorem wF (w:Wor) (n:Int) (ok:OkW w) (hg:qa w=true->∀ k:Nat,k < 10->∃ j m',wR j (qZ k w) zbX (qZ (k+1) w) m'∧j<=10000):zb Tryz.prog 32 [] [Sw w,I n] (.tup [Sw (xo w n).1,I (xo w n).2]) []:=by
 have no:¬(qa w=true∧0<=n∧n<=10)->xo w n=(y4,1):=fun h=>if_neg h
 refine zb.zm (fn:=Tryz.f32) Tryz.func32 rfl ?_
 conv=>whnf
 refine ⟨_,_,(jK w ok).frame rfl _,?_⟩;refine dd ?_
 refine ⟨fun h1=>?_,fun h1=>?_⟩
 rotate_left
 ·rw [no (by rintro ⟨h,_⟩;rw [h] at h1;cases h1)]
  refine dd ?_
  (try (repeat ((first | apply ya | apply yb);refine dd ?_)))
  exact ⟨.inl rfl,_,zl.var 1 rfl rfl rfl (.cons (.refl _) (.cons (.refl _) (.cons (.refl _) (.cons (WC.nil 0 1) (.cons (WC.nil 0 5) (.cons (WC.nil 0 4) (.cons (WC.nil 0 1) (.cons (WC.nil 0 3) .nil)))))))),rfl⟩
 have hw:=h1
 refine dd ?_
 refine ⟨fun h2=>?_,fun h2=>?_⟩
 ·have h2:n < 0:=by simpa using h2
  rw [no (by omega)]
  refine dd ?_
  (try (repeat ((first | apply ya | apply yb);refine dd ?_)))
  exact ⟨.inl rfl,_,zl.var 1 rfl rfl rfl (.cons (.refl _) (.cons (.refl _) (.cons (.refl _) (.cons (WC.nil 0 1) (.cons (WC.nil 0 5) (.cons (WC.nil 0 4) (.cons (WC.nil 0 1) (.cons (WC.nil 0 3) .nil)))))))),rfl⟩
 have h2:0<=n:=by simpa using h2
 refine dd ?_
 refine ⟨fun h3=>?_,fun h3=>?_⟩
 ·have h3:10 < n:=by simpa using h3
  rw [no (by omega)]
  refine dd ?_
  (try (repeat ((first | apply ya | apply yb);refine dd ?_)))
  exact ⟨.inl rfl,_,zl.var 1 rfl rfl rfl (.cons (.refl _) (.cons (.refl _) (.cons (.refl _) (.cons (WC.nil 0 1) (.cons (WC.nil 0 5) (.cons (WC.nil 0 4) (.cons (WC.nil 0 1) (.cons (WC.nil 0 3) .nil)))))))),rfl⟩
 have h3:n<=10:=by simpa using h3
 obtain ⟨N,rfl⟩:∃ N:Nat,n=N:=⟨n.toNat,by omega⟩
 have e:xo w N=(qZ N w,0):=by unfold xo;rw [if_pos ⟨hw,h2,h3⟩,Int.toNat_natCast]
 rw [e]
 refine dd ?_
 refine zM.seq N (fun k=>[.za,.za,.ref 0 [] 8 0 0,.za,.ref 1 [] 8 0 0,I 0,.za,.za,.za,.za,.za,.za,.za,.za,.za,.za,.za,.za,I N,I k,.za,.za,.za,.za,.za,.za,.za,.za,.za,.za]) (fun k=>[⟨1,28,8,[zU (qZ k w)],0⟩,⟨1,28,8,[[I 0,I 0,I 0,.lst 1 0 [],.lst 1 0 [],.lst 1 0 [],.lst 1 0 [],.lst 1 0 []]],0⟩]) (fun k=>True) ?_ trivial (fun k hk _=>?_) (fun _=>?_)
 ·exact cC
 ·obtain ⟨j,m',hj,hj2⟩:=hg hw k (by omega)
  conv=>whnf
  (refine ⟨fun _=>?_,fun h=>absurd h (by simp;omega)⟩);refine dd ?_
  refine ⟨_,_,(zcQ hj hj2).frame rfl _,?_⟩;refine dd ?_
  refine .inl ⟨rfl,?_,trivial⟩
  rw [zp (by omega)]
  exact cE 2
 ·(conv=>whnf);(refine ⟨fun h=>absurd h (by simp),fun _=>?_⟩);refine dd ?_;(refine ⟨by simp,?_⟩);(conv=>whnf)
  exact ⟨.inl rfl,_,.refl _,rfl⟩
theorem yP {w:Wor} {K:Nat} (n:Int) (ok:OkW w) (h:qa w=true->St 60 K w∧qy w<=10000):zb Tryz.prog 32 [] [Sw w,I n] (.tup [Sw (xo w n).1,I (xo w n).2]) []:=by
 refine wF w n ok fun hw k hk=>?_
 obtain ⟨st,hs⟩:=h hw
 have hm:(k+1) * qy w<=10 * 10000:=Nat.mul_le_mul (by omega) hs
 rw [Nat.add_mul] at hm
 obtain ⟨K',s⟩:=zbp st k (by omega)
 obtain ⟨j,m',_,h1,_,h3,_⟩:=zcV s (by rw [y1];omega)
 rw [y1] at h3
 exact ⟨j,m',h1,by omega⟩
end Go.Wor
namespace Go.Wor
open Go.Ab Go.Proofs Go.Gat Go.Nam Go.Hos Go.Con Go.Sna Go.Pla
open Go.Hy hiding encI
abbrev Csr (s:Scr):C:=.agg (zja s)
def zmy (s:Scr):Nat:=(s.threads.map fun l=>l.length).sum
def zmu (s:Scr):Int:=IntKind.i64.wrap ((zmy s:Int) * IntKind.i64.wrap (IntKind.i64.wrap (IntKind.i64.wrap (23 * (zmy s:Int))+IntKind.i64.wrap (6 * (s.threads.length:Int)))+60))
structure WkC (s:Scr):Prop where
 threads:s.threads.length<=1000
 ops:∀ l ∈ s.threads,l.length<=1000
theorem zgx (s:Scr) (hs:WkC s):zb Tryz.prog 30 [] [Csr s] (I (zmu s)) []:=by
 have m1:(s.threads.map zdN).length=s.threads.length:=List.length_map ..
 have b1:=hs.threads
 refine zb.zm (fn:=Tryz.f30) Tryz.func30 rfl ?_
 conv=>whnf
 rw [m1]
 refine zM.seq s.threads.length (fun k=>[.za,.ref 0 [] 5 0 0,I 0,I (((s.threads.take k).map fun l=>l.length).sum:Nat),.za,.za,.za,zmo s.threads,I s.threads.length,I k,.za,.za,.za,.za,.za,.za,.za,.za,.za,.za,.za,.za,.za,.za,.za,.za,.za,.za]) (fun k=>[⟨1,54,5,[zja s],0⟩]) (fun k=>True) ?_ trivial (fun k hk _=>?_) (fun _=>?_)
 ·exact cC
 ·obtain ⟨x,hx⟩:∃ x,x=s.threads[k]:=⟨_,rfl⟩
  have hg:(s.threads.map zdN)[k]?= some (zdN x):=by rw [List.getElem?_map,List.getElem?_eq_getElem hk,hx];rfl
  have m2:(x.map zbJ).length=x.length:=List.length_map ..
  have sk:=zmK (fun l:List Opn=>l.length) s.threads hk
  rw [<- hx] at sk
  have sb:=zhx (fun l:List Opn=>l.length) 1000 s.threads hs.ops k
  have sc:=zhx (fun l:List Opn=>l.length) 1000 s.threads hs.ops (k+1)
  conv=>whnf
  (refine ⟨fun _=>?_,fun h=>absurd h (by simp;omega)⟩);refine dd ?_
  (refine ⟨by omega,_,by rw [toNat_cast];exact hg,?_⟩);refine dd ?_
  rw [m2]
  have e2:IntKind.i64.wrap (((((s.threads.take k).map fun l=>l.length).sum:Nat):Int)+(x.length:Int))=((((s.threads.take (k+1)).map fun l=>l.length).sum:Nat):Int):=by
   rw [qf (by omega) (by omega)]
   omega
  rw [e2,zp (by omega)]
  refine .inl ⟨rfl,?_,trivial⟩
  exact cE 1
 ·(conv=>whnf);(refine ⟨fun h=>absurd h (by simp),fun _=>?_⟩);refine dd ?_;(refine ⟨by simp,?_⟩);(conv=>whnf)
  rw [m1,List.take_length]
  exact ⟨.inl rfl,_,.refl _,rfl⟩
structure WkB (s:Scr):Prop where
 first:s.first.zc.length < 4000000000000000000∧s.first.zI.length < 4000000000000000000∧s.first.zf.length < 4000000000000000000
 threads:s.threads.length < 4000000000000000000
 ops:∀ l ∈ s.threads,l.length < 4000000000000000000∧∀ o ∈ l,o.config.zc.length < 4000000000000000000∧o.config.zI.length < 4000000000000000000∧o.config.zf.length < 4000000000000000000
end Go.Wor
namespace Go.Wor
open Go.Ab Go.Proofs Go.Gat Go.Nam Go.Hos Go.Con Go.Sna Go.Pla Go.Dep
open Go.Hy hiding encI
abbrev sQ:Str:=[105,110]
abbrev vA:Sna:=⟨[sQ],[⟨0,[42],[47],0⟩],[⟨[97],1,1,[true,true]⟩]⟩
abbrev zeo:Ver:=⟨vA,[⟨0,[⟨1,[-1],0⟩,⟨1,[-1],0⟩]⟩],false⟩
abbrev yh:Wor:=⟨0,1,0,[0],[zeo,zeo],[⟨sQ,true,0,false⟩],[[0,0,0,0,0,0]],[⟨0,0,false⟩]⟩
theorem smQ:yr vA:=⟨⟨by simp,fun x hx=>by rw [List.mem_singleton.1 hx];simp⟩,⟨by simp,fun x hx=>by rw [List.mem_singleton.1 hx];simp⟩,⟨by simp,fun x hx=>by rw [List.mem_singleton.1 hx];simp⟩⟩
theorem zhc:w5 vA=(zeo,0):=by rfl
theorem zgy:zb Tryz.prog 80 [] [Cs vA,lT [sQ],I 1] (.tup [.agg ([I 0,I 0,I 0,.lst 0 1 [[I 0]],.lst 1 5 [qu zeo],.sl 0 [] 4 0 1 false,lCo [[0,0,0,0,0,0]],.lst 0 3 []]),I 0]) [⟨2,95,4,[qL (zmV sQ)],0⟩]:=by
 have cs:=zaC vA smQ
 rw [zhc] at cs
 have cs:zb Tryz.prog 112 [] [Cs vA] (.tup [Cv zeo,I 0]) []:=cs
 have hn:zb Tryz.prog 129 [] [I 1] (.tup [lCo [[0,0,0,0,0,0]],I 0]) []:=zcl 1
 refine jo (fn:=Tryz.f80) Tryz.func80 rfl (by decide) ?_
 conv=>whnf
 refine ⟨_,_,(cs).frame rfl _,?_⟩;refine dd ?_
 (repeat ((first | apply ya | apply yb);refine dd ?_))
 refine ⟨_,_,(hn).frame rfl _,?_⟩;refine dd ?_
 (repeat ((first | apply ya | apply yb);refine dd ?_))
 refine .inl ⟨⟨false,[0,3],[2],[]⟩,by kernel_rfl,?_⟩;(conv=>whnf)
 refine ⟨rfl,by omega,by decide,by omega,?_⟩
 refine dd ?_
 repeat (refine ⟨rfl,?_⟩;conv=>whnf)
 refine kK.ofN 2 (LoopN.step ?_)
 conv=>whnf
 (repeat ((first | apply ya | apply yb);refine dd ?_))
 refine ⟨by decide,_,rfl,?_⟩
 refine dd ?_
 refine ⟨_,_,(ju sQ (by decide)).frame rfl _,?_⟩;refine dd ?_
 (repeat ((first | apply ya | apply yb);refine dd ?_))
 refine ⟨_,_,(zb.zeO 9 (zaW [] sQ (by decide)) rfl ?_).frame rfl _,?_⟩;(focus rfl);refine dd ?_
 (repeat ((first | apply ya | apply yb);refine dd ?_))
 refine .inr ⟨.inl rfl,by decide,by decide,?_⟩
 refine dd ?_
 refine .inl ⟨rfl,LoopN.step ?_⟩
 conv=>whnf
 refine ⟨fun h=>absurd h (by decide),fun _=>?_⟩
 refine dd ?_
 refine .inr ⟨by simp,?_⟩
 conv=>whnf
 exact ⟨.inl rfl,_,_,zl.var 1 rfl rfl rfl (.cons (.refl _) (.cons (.refl _) (.cons (.refl _) (.cons (.refl _) (.cons (.refl _) (.cons (.refl _) (.cons (.refl _) (.cons (WC.nil 0 3) .nil)))))))),rfl,zl.ren [4] [0] _ _ rfl rfl rfl rfl⟩
theorem zea:zb Tryz.prog 64 [] [] (Cw yh) []:=by
 have cs:=zaC vA smQ
 rw [zhc] at cs
 have cs:zb Tryz.prog 112 [] [Cs vA] (.tup [Cv zeo,I 0]) []:=cs
 refine zb.zm (fn:=Tryz.f64) Tryz.func64 rfl ?_
 conv=>whnf
 refine zq [] (zb.zeO 9 (zgy) rfl ?_) rfl rfl rfl rfl rfl rfl ?_;(focus rfl);refine dd ?_
 refine ⟨_,_,(zb.zeO 9 (cs) rfl ?_).frame rfl _,?_⟩;(focus rfl);refine dd ?_
 refine .inl ⟨.inr rfl,.inr rfl,by decide,by decide,?_⟩
 refine dd ?_
 refine kK.ofN 2 (LoopN.step ?_)
 conv=>whnf
 (repeat ((first | apply ya | apply yb);refine dd ?_))
 refine ⟨by decide,by decide,?_⟩
 refine dd ?_
 refine ⟨_,rfl,rfl,?_⟩
 refine dd ?_
 refine .inl ⟨rfl,LoopN.step ?_⟩
 conv=>whnf
 refine ⟨fun h=>absurd h (by decide),fun _=>?_⟩
 refine dd ?_
 refine .inr ⟨by simp,?_⟩
 conv=>whnf
 refine ⟨.inl rfl,_,zl.trans (zl.zhi 0 5 rfl rfl rfl rfl (fun r hr c hc=>List.all_eq_true.1 (List.all_eq_true.1 (show List.all _ (fun r=>r.all zw)=true from rfl) r hr) c hc) rfl rfl) (zl.var (r':=zU yh) 0 rfl ?_ ?_ ?_),?_⟩
 ·rfl
 ·rfl
 ·exact .cons (.refl _) (.cons (.refl _) (.cons (.refl _) (.cons (.refl _) (.cons (WC.gl _ _ _) (.cons (.refl _) (.cons (.refl _) (.cons (WC.share _ _ _) .nil)))))))
 ·rfl
theorem zep {w:Wor} (ok:OkW w):WkQ w:=⟨by have:=ok.zd.1;omega,fun v hv=>by have:=ok.zd.2 v hv;exact ⟨by have:=this.zk;omega,fun g hg=>by have:=(this.ends g hg).1;omega⟩,by have:=ok.pins;omega,by have:=ok.zc.1;omega,by have:=ok.zg;omega⟩
theorem zko:En.ok ⟨1,[-1],0⟩:=⟨by decide,⟨fun x hx=>by rw [List.mem_singleton.1 hx];decide,by decide⟩,by decide⟩
theorem tyQ:TyW 60 yh:=by
 refine ⟨by decide,by decide,by decide,fun v hv=>?_,fun l hl=>?_⟩
 ·have hv:v=zeo:=by simpa using hv
  subst hv
  refine ⟨smQ,fun g hg=>?_⟩
  rw [List.mem_singleton.1 hg]
  refine ⟨by decide,fun e he=>?_⟩
  have he:e=⟨1,[-1],0⟩:=by simpa using he
  subst he
  exact zko
 ·rw [List.mem_singleton.1 hl]
  exact ⟨by decide,by decide⟩
theorem zmk:qa yh=true:=by rfl
theorem stQ:St 60 10 yh:=by
 refine ⟨qB.1 zmk,tyQ,⟨fun l hl=>?_,fun v hv g hg e he=>?_⟩⟩
 ·rw [List.mem_singleton.1 hl]
  decide
 ·have hv:v=zeo:=by simpa using hv
  subst hv
  have hg:=List.mem_singleton.1 hg
  subst hg
  have he:e=⟨1,[-1],0⟩:=by simpa using he
  subst he
  decide
theorem okQ:OkW yh:=zhs stQ.jF stQ.ty (by decide)
theorem okN:OkW y4:=⟨by decide,⟨by decide,fun _ h=>nomatch h⟩,⟨by decide,fun _ h=>nomatch h⟩,⟨by decide,fun _ h=>nomatch h⟩,by decide⟩
theorem zmx (n:Nat) (h:n<=10):OkW (qZ n yh):=by
 obtain ⟨K',s⟩:=zbp stQ n (by have:qy yh=13:=rfl;rw [this];omega)
 exact zhs s.jF s.ty (by have:qy yh=13:=rfl;rw [this];omega)
abbrev opQ:Opn:=⟨0,[],[],[],0,0,0,⟨[],[],[]⟩⟩
abbrev zmE:Scr:=⟨⟨[],[],[]⟩,[[opQ,opQ],[opQ]],[]⟩
theorem jm:zb Tryz.prog 25 [] [] (Bo true) []:=by
 have s1:zb Tryz.prog 32 [] [Sw yh,I 1] (.tup [Sw (qZ 1 yh),I 0]) []:=yP (K:=10) 1 okQ fun _=>⟨stQ,by decide⟩
 have s2:zb Tryz.prog 32 [] [Sw yh,I 2] (.tup [Sw (qZ 2 yh),I 0]) []:=yP (K:=10) 2 okQ fun _=>⟨stQ,by decide⟩
 have s3:zb Tryz.prog 32 [] [Sw yh,I 11] (.tup [Sw y4,I 1]) []:=yP (K:=10) 11 okQ fun _=>⟨stQ,by decide⟩
 have s4:zb Tryz.prog 32 [] [Sw y4,I 1] (.tup [Sw y4,I 1]) []:=yP (K:=10) 1 okN fun h=>absurd (h.symm.trans (by rfl:qa y4=false)) (by decide)
 have q1:isQ (qZ 1 yh)=false:=by rfl
 have q2:isQ (qZ 2 yh)=true:=by rfl
 have q0:isQ yh=false:=by rfl
 have k2:(qZ 2 yh).zj=2:=by rfl
 have i1:=jJ _ (zep (zmx 1 (by decide)))
 have i2:=jJ _ (zep (zmx 2 (by decide)))
 have i0:=jJ _ (zep okQ)
 rw [q1] at i1
 rw [q2] at i2
 rw [q0] at i0
 generalize hw1:qZ 1 yh=w1 at s1 i1
 generalize hw2:qZ 2 yh=w2 at s2 i2 k2
 have st:zb Tryz.prog 28 [] [Cw yh] (I 13) []:=zeg yh ⟨by decide,by decide,by decide,by decide,fun v hv=>by
  have hv:v=zeo:=by simpa using hv
  subst hv
  exact ⟨by decide,fun g hg=>by rw [List.mem_singleton.1 hg];decide⟩⟩
 have mo:zb Tryz.prog 30 [] [Csr zmE] (I 423) []:=zgx zmE ⟨by decide,fun l hl=>by
  have hl:l=[opQ,opQ]∨l=[opQ]:=by simpa using hl
  rcases hl with rfl | rfl <;> decide⟩
 refine zb.zm (fn:=Tryz.f25) Tryz.func25 rfl ?_
 conv=>whnf
 refine ⟨_,_,(zea).frame rfl _,?_⟩;refine dd ?_
 refine ⟨_,_,(s1).frame rfl _,?_⟩;refine dd ?_
 refine ⟨_,_,(s2).frame rfl _,?_⟩;refine dd ?_
 refine ⟨_,_,(s3).frame rfl _,?_⟩;refine dd ?_
 refine ⟨_,_,(zb.zeO 9 (s4) rfl ?_).frame rfl _,?_⟩;(focus rfl);refine dd ?_
 (repeat ((first | apply ya | apply yb);refine dd ?_))
 refine ⟨_,_,(i1).frame rfl _,?_⟩;refine dd ?_
 (repeat ((first | apply ya | apply yb);refine dd ?_))
 refine ⟨_,_,(i2).frame rfl _,?_⟩;refine dd ?_
 (repeat ((first | apply ya | apply yb);refine dd ?_))
 rw [k2]
 (repeat ((first | apply ya | apply yb);refine dd ?_))
 refine ⟨_,_,(i0).frame rfl _,?_⟩;refine dd ?_
 (repeat ((first | apply ya | apply yb);refine dd ?_))
 refine ⟨_,_,(st).frame rfl _,?_⟩;refine dd ?_
 (repeat ((first | apply ya | apply yb);refine dd ?_))
 refine ⟨_,_,(zb.zeO 9 (mo) rfl ?_).frame rfl _,?_⟩;(focus rfl);refine dd ?_
 (try (repeat ((first | apply ya | apply yb);refine dd ?_)))
 exact ⟨.inl rfl,_,.refl _,rfl⟩
end Go.Wor
namespace Go.Wor
open Go.Ab Go.Proofs Go.Gat Go.Nam Go.Hos Go.Con Go.Sna Go.Pla Go.Dep
open Go.Hy hiding encI
theorem zl1 {w:Wor} (hb:j8 w=false):WkQ w:=by
 obtain ⟨b1,b2,b3,b4,b5,b6⟩:=vK hb
 refine ⟨by omega,fun v hv=>?_,by omega,by omega,by omega⟩
 have q:=ko (b6 v hv)
 exact ⟨by omega,fun g hg=>by have:=q.2.2 g hg;omega⟩
theorem zld {w:Wor} (hw:Hy.Wor.okW w) (hb:j8 w=false) {K:Nat} (hc:Cal K w) (h:qa w=true):St 60 K w∧qy w<=10000:=
 ⟨⟨qB.1 h,zmP hw hb,hc⟩,by have:=zdk hb (qB.1 h);omega⟩
end Go.Wor
