import Derived.Test.YtgllekalddijbaaGreatTK
import Derived.Test.YtgllekalddijbaaGreatTZ
import Derived.Test.YtgllekalddijbaaGreatTN
set_option linter.unusedVariables false
set_option linter.unusedSimpArgs false
set_option linter.unusedSectionVars false
set_option maxRecDepth 100000
set_option maxHeartbeats 4000000
namespace Go.Wor
open Go.Ab Go.Proofs Go.Hy Go.Gat Go.Nam Go.Hos Go.Con Go.Sna
def zaO {α:Type} (f:α->α) (l:List α) (i:Nat):List α:=(l.take i).map f++l.drop i
theorem zen {α:Type} (f:α->α) (l:List α):zaO f l 0=l:=by simp [zaO]
theorem zkM {α:Type} (f:α->α) (l:List α):zaO f l l.length=l.map f:=by simp [zaO]
theorem zkN {α:Type} (f:α->α) (l:List α) (i:Nat):(zaO f l i).length=l.length:=by simp [zaO];omega
theorem xR {α:Type} (f:α->α) (l:List α) (i k:Nat):(zaO f l i)[k]?= if k < i then (l[k]?).map f else l[k]?:=by
 unfold zaO
 by_cases hk:k < i
 ·rw [if_pos hk]
  by_cases hl:k < l.length
  ·rw [List.getElem?_append_left (by simp;omega),List.getElem?_map,List.getElem?_take,if_pos hk]
  ·rw [List.getElem?_eq_none (by simp;omega),List.getElem?_eq_none (by omega:l.length<=k)]
   rfl
 ·rw [if_neg hk]
  by_cases hl:i<=l.length
  ·rw [List.getElem?_append_right (by simp;omega),List.getElem?_drop]
   congr 1
   simp
   omega
  ·rw [List.getElem?_eq_none (by simp;omega),List.getElem?_eq_none (by omega:l.length<=k)]
theorem zdk {α:Type} {f:α->α} {l:List α} {i:Nat} {x:α} (h:l[i]?= some x):(zaO f l i).set i (f x)=zaO f l (i+1):=by
 apply List.ext_getElem?
 intro k
 have hlt:=(List.getElem?_eq_some_iff.1 h).1
 rw [List.getElem?_set,zkN,xR,xR]
 by_cases hk:i=k
 ·subst hk
  rw [if_pos rfl,if_pos hlt,if_pos (by omega),h]
  rfl
 ·rw [if_neg hk]
  by_cases h2:k < i
  ·rw [if_pos h2,if_pos (by omega)]
  ·rw [if_neg h2,if_neg (by omega)]
theorem wi {α:Type} {f:α->α} {l:List α} {i:Nat} {x:α} (h:l[i]?= some x) (hf:f x=x):zaO f l i=zaO f l (i+1):=by
 rw [<- zdk h,hf]
 exact (yA _ _ (by rw [xR,if_neg (by omega),h])).symm
def zc2 (w:Wor) (p:Int):Bool:=p == 0 || p == w.zi+1
def jH (w:Wor):Int:=if w.pins.all (zc2 w)=true∧w.zi < 1000000000000 then w.zi+1 else w.zi
def zmG (v:Ver):Bool:=(qj v).all fun e=>e.zr == 0
def zaN (w:Wor) (i:Int):Bool:=match w.zd[i.toNat]? with
 | some v=>zmG v
 | none=>false
def zgZ (w:Wor) (r:Ret):Bool:=!r.gone && Go.Lim.vv r.at_ (jH w) && zaN w r.version
def goR (w:Wor) (r:Ret):Ret:=if zgZ w r=true then yt r else r
def xf (l:Lis):Lis:=if (l.drain && !l.closed && l.zr == 0)=true then zaJ l else l
def xo (w:Wor):Wor:=⟨jH w,w.current,0,w.pins,w.zd.mapIdx (fun k v=>{ v with jn:=jM (w.zg.map (goR w)) k }),w.zc.map xf,w.counts,w.zg.map (goR w)⟩
def qR (w:Wor) (r:Ret):Nat:=match w.zd[r.version.toNat]? with
 | some v=>2+(qj v).length
 | none=>2
def zbe (w:Wor) (i:Nat):Nat:=((w.zg.drop i).map (qR w)).sum
theorem zlD {w:Wor} {i:Nat} {r:Ret} {v:Ver} (h:w.zg[i]?= some r) (hv:w.zd[r.version.toNat]?= some v):zbe w i=2+(qj v).length+zbe w (i+1):=by
 obtain ⟨hlt,rfl⟩:=List.getElem?_eq_some_iff.1 h
 unfold zbe
 rw [List.drop_eq_getElem_cons hlt,List.map_cons,List.sum_cons]
 unfold qR
 rw [hv]
structure wj (w0 w:Wor) (E:Int) (i j:Nat):Prop where
 zi:w.zi=E
 current:w.current=w0.current
 lock:w.lock=1
 pins:w.pins=w0.pins
 counts:w.counts=w0.counts
 xj:w.zd.map (fun v=>(v.snap,v.zm))=w0.zd.map fun v=>(v.snap,v.zm)
 zg:w.zg=zaO (goR w0) w0.zg i
 lis:w.zc=zaO xf w0.zc j
theorem wj.at_ {w0 w:Wor} {E:Int} {i j:Nat} (b:wj w0 w E i j) {k:Nat} {v:Ver} (h:w.zd[k]?= some v):∃ v0,w0.zd[k]?= some v0∧v.snap=v0.snap∧v.zm=v0.zm:=by
 have:=congrArg (fun l=>l[k]?) b.xj
 simp only [List.getElem?_map,h,Option.map_some] at this
 obtain ⟨v0,h1,h2⟩:=Option.map_eq_some_iff.1 this.symm
 exact ⟨v0,h1,(Prod.mk.inj h2.symm).1,(Prod.mk.inj h2.symm).2⟩
theorem wj.ends {w0 w:Wor} {E:Int} {i j:Nat} (b:wj w0 w E i j) {k:Nat} {v v0:Ver} (h:w.zd[k]?= some v) (h0:w0.zd[k]?= some v0):qj v=qj v0:=by
 obtain ⟨v1,h1,_,h2⟩:=b.at_ h
 rw [h0] at h1
 cases h1
 unfold qj
 rw [h2]
theorem wj.fin {w0 w:Wor} (b:wj w0 w (jH w0) w0.zg.length w0.zc.length) (g:qK { w with lock:=0 }):{ w with lock:=0 }=xo w0:=by
 obtain ⟨ep,cu,lo,pi,ve,li,co,lm⟩:=w
 obtain ⟨b1,b2,b3,b4,b5,b6,b7,b8⟩:=b
 dsimp only at b1 b2 b3 b4 b5 b6 b7 b8
 rw [zkM] at b7 b8
 subst b1 b2 b4 b5 b7 b8
 unfold xo
 have:ve=w0.zd.mapIdx (fun k v=>{ v with jn:=jM (w0.zg.map (goR w0)) k }):=by
  apply List.ext_getElem?
  intro k
  rw [List.getElem?_mapIdx]
  have hk:=congrArg (fun l=>l[k]?) b6
  simp only [List.getElem?_map] at hk
  cases hv:ve[k]? with
  | none=>
   rw [hv] at hk
   cases hv0:w0.zd[k]? with
   | none=>rfl
   | some v0=>rw [hv0] at hk;cases hk
  | some v=>
   rw [hv] at hk
   cases hv0:w0.zd[k]? with
   | none=>rw [hv0] at hk;cases hk
   | some v0=>
    rw [hv0] at hk
    have hk:=Prod.mk.inj (Option.some.inj hk)
    have hf:v.jn=jM (w0.zg.map (goR w0)) k:=(g.ver k v hv).2
    obtain ⟨s,gr,fr⟩:=v
    dsimp only at hk hf
    rw [Option.map_some,hf,hk.1,hk.2]
 rw [this]
inductive J (w0:Wor):Wor->Mac->Nat->Prop
 | p0 {m:Mac} (h:m.pc=0):J w0 w0 m (4+w0.pins.length+zbe w0 0+3 * w0.zc.length)
 | p1 {w:Wor} {m:Mac} (h:m.pc=1) (b:wj w0 w w0.zi 0 0):J w0 w m (3+w0.pins.length+zbe w0 0+3 * w0.zc.length)
 | p2 {w:Wor} {m:Mac} (i:Nat) (h:m.pc=2) (hi:m.i=i) (he:m.zi=w0.zi) (hl:i < w0.pins.length) (hp:∀ j p,j < i->w0.pins[j]?= some p->zc2 w0 p=true) (b:wj w0 w w0.zi 0 0):J w0 w m (2+(w0.pins.length - i)+zbe w0 0+3 * w0.zc.length)
 | p3 {w:Wor} {m:Mac} (h:m.pc=3) (he:m.zi=w0.zi) (hp:w0.pins.all (zc2 w0)=true) (b:wj w0 w w0.zi 0 0):J w0 w m (2+zbe w0 0+3 * w0.zc.length)
 | p4 {w:Wor} {m:Mac} (i:Nat) (h:m.pc=4) (hi:m.i=i) (hl:i<=w0.zg.length) (he:m.zi=jH w0) (b:wj w0 w (jH w0) i 0):J w0 w m (1+zbe w0 i+3 * w0.zc.length)
 | p5 {w:Wor} {m:Mac} (i k:Nat) (r:Ret) (v:Ver) (h:m.pc=5) (hi:m.i=i) (hk:m.k=k) (he:m.zi=jH w0) (hr:w0.zg[i]?= some r) (hm:m.version=r.version) (hg:r.gone=false) (hs:Go.Lim.vv r.at_ (jH w0)=true) (hv:w0.zd[r.version.toNat]?= some v) (hl:k < (qj v).length)
   (hz:∀ j e,j < k->(qj v)[j]?= some e->e.zr=0) (b:wj w0 w (jH w0) i 0):J w0 w m ((qj v).length - k+2+zbe w0 (i+1)+3 * w0.zc.length)
 | p6 {w:Wor} {m:Mac} (i:Nat) (r:Ret) (h:m.pc=6) (hi:m.i=i) (he:m.zi=jH w0) (hr:w0.zg[i]?= some r) (hm:m.version=r.version) (hd:zgZ w0 r=true) (b:wj w0 w (jH w0) i 0):J w0 w m (2+zbe w0 (i+1)+3 * w0.zc.length)
 | p8 {w:Wor} {m:Mac} (i:Nat) (h:m.pc=8) (hi:m.i=i) (hl:i<=w0.zc.length) (b:wj w0 w (jH w0) w0.zg.length i):J w0 w m (1+3 * (w0.zc.length - i))
 | p9 {w:Wor} {m:Mac} (i:Nat) (l:Lis) (h:m.pc=9) (hi:m.i=i) (hl:w0.zc[i]?= some l) (hd:l.drain=true) (hc:l.closed=false) (b:wj w0 w (jH w0) w0.zg.length i):J w0 w m (3 * (w0.zc.length - i))
 | p10 {w:Wor} {m:Mac} (i:Nat) (l:Lis) (h:m.pc=10) (hi:m.i=i) (hl:w0.zc[i]?= some l) (hd:l.drain=true) (hc:l.closed=false) (ha:l.zr=0) (b:wj w0 w (jH w0) w0.zg.length i):J w0 w m (3 * (w0.zc.length - i) - 1)
def Ne (w0:Wor) (n:Nat) (r:Wor × Mac × Eve):Prop:=(r.2.1.done=true∧r.1=xo w0∧1<=n)∨∃ n',n' < n∧r.2.1.done=false∧J w0 r.1 r.2.1 n'
theorem zif {w0 w:Wor} {m:Mac} (i n:Nat) (hd0:m.done=false) (h:m.pc=8) (hi:m.i=i) (hl:i<=w0.zc.length) (b:wj w0 w (jH w0) w0.zg.length i) (hb:w0.zc.length < 1000000000) (hn:1+3 * (w0.zc.length - i)<=n) (g:qK (ldS w m).1):Ne w0 n (ldS w m):=by
 have hw:IntKind.i64.wrap (m.i+1)=m.i+1:=ql (by omega) (by omega)
 have it:m.i.toNat=i:=by omega
 have e:=congrArg (fun l=>l[i]?) b.lis
 simp only [xR,if_neg (Nat.lt_irrefl i)] at e
 unfold ldS at g ⊢
 rw [it,e] at g ⊢
 cases hx:w0.zc[i]? with
 | none=>
  rw [hx] at g
  have:=List.getElem?_eq_none_iff.1 hx
  have hi2:i=w0.zc.length:=by omega
  subst hi2
  exact .inl ⟨rfl,b.fin g,by omega⟩
 | some l=>
  have hlt:=(List.getElem?_eq_some_iff.1 hx).1
  dsimp only
  unfold ldM
  by_cases q:l.drain=true∧l.closed=false
  ·rw [if_pos q]
   exact .inr ⟨_,by omega,hd0,.p9 i l rfl hi hx q.1 q.2 b⟩
  ·rw [if_neg q,hw]
   refine .inr ⟨_,by omega,hd0,.p8 (i+1) h (by show m.i+1=_;omega) hlt ⟨b.zi,b.current,b.lock,b.pins,b.counts,b.xj,b.zg,?_⟩⟩
   refine b.lis.trans (wi hx ?_)
   unfold xf
   rw [if_neg]
   intro h2
   simp only [Bool.and_eq_true,Bool.not_eq_true'] at h2
   exact q h2.1
theorem zjQ {w0 w:Wor} {m:Mac} {n:Nat} {r:Wor × Mac × Eve} (hJ:J w0 w m n) (hd0:m.done=false) (g0:qK w0) (hl0:w0.lock=0) (hb:w0.zc.length < 1000000000∧w0.zg.length < 1000000000) (h:xH w m=some r) (g:qK r.1):Ne w0 n r:=by
 have gr:=zQ.1 g0.ground
 have ge:=gr.zi
 have we:IntKind.i64.wrap (w0.zi+1)=w0.zi+1:=ql (by omega) (by omega)
 unfold xH at h
 cases hJ with
 | p0 p=>
  rw [if_pos p,if_pos hl0] at h
  cases h
  exact .inr ⟨_,by omega,hd0,.p1 rfl ⟨rfl,rfl,rfl,rfl,rfl,rfl,(zen _ _).symm,(zen _ _).symm⟩⟩
 | p1 p b=>
  rw [if_neg (by omega),if_pos p] at h
  cases h
  exact .inr ⟨_,by have:=gr.pins.1;omega,hd0,.p2 0 rfl rfl b.zi (by have:=gr.pins.1;omega) (fun j _ hj=>by omega) b⟩
 | p2 i p hi he hl hp b=>
  have it:m.i.toNat=i:=by omega
  have hw:IntKind.i64.wrap (m.i+1)=m.i+1:=ql (by omega) (by have:=gr.pins.2;omega)
  obtain ⟨x,hx⟩:∃ x,w0.pins[i]?= some x:=⟨_,List.getElem?_eq_getElem hl⟩
  rw [if_neg (by omega),if_neg (by omega),if_pos p,it,b.pins,hx] at h
  cases h
  dsimp only
  have e2:IntKind.i64.wrap (m.zi+1)=w0.zi+1:=by rw [he,we]
  unfold lpM
  rw [hw,b.pins,e2]
  by_cases q:x≠0∧x≠w0.zi+1
  ·rw [if_pos q]
   have e:jH w0=w0.zi:=by
    unfold jH
    rw [if_neg]
    rintro ⟨h1,_⟩
    have:=List.all_eq_true.1 h1 x (List.mem_of_getElem? hx)
    unfold zc2 at this
    simp at this
    omega
   exact .inr ⟨_,by omega,hd0,.p4 0 rfl rfl (by omega) (by rw [e];exact he) (by rw [e];exact b)⟩
  rw [if_neg q]
  have hp2:∀ j p,j < i+1->w0.pins[j]?= some p->zc2 w0 p=true:=by
   intro j p hj hpj
   by_cases e:j=i
   ·subst e
    rw [hx] at hpj
    cases hpj
    unfold zc2
    simp
    omega
   ·exact hp j p (by omega) hpj
  by_cases q2:m.i+1 < w0.pins.length
  ·rw [if_pos q2]
   exact .inr ⟨_,by omega,hd0,.p2 (i+1) p (by show m.i+1=_;omega) he (by omega) hp2 b⟩
  ·rw [if_neg q2]
   refine .inr ⟨_,by omega,hd0,.p3 rfl he (List.all_eq_true.2 fun x hx=>?_) b⟩
   obtain ⟨j,hj⟩:=List.mem_iff_getElem?.1 hx
   have:=(List.getElem?_eq_some_iff.1 hj).1
   exact hp2 j x (by omega) hj
 | p3 p he hp b=>
  rw [if_neg (by omega),if_neg (by omega),if_neg (by omega),if_pos p,b.zi,he] at h
  cases h
  by_cases q:w0.zi < 1000000000000
  ·have e:jH w0=w0.zi+1:=by unfold jH;rw [if_pos ⟨hp,q⟩]
   rw [if_pos ⟨rfl,q⟩,we]
   exact .inr ⟨_,by omega,hd0,.p4 0 rfl rfl (by omega) e.symm ⟨e.symm,b.current,b.lock,b.pins,b.counts,b.xj,b.zg,b.lis⟩⟩
  ·have e:jH w0=w0.zi:=by unfold jH;rw [if_neg (fun h=>q h.2)]
   rw [if_neg (fun h=>q h.2)]
   exact .inr ⟨_,by omega,hd0,.p4 0 rfl rfl (by omega) (by rw [e];exact he) (by rw [e];exact b)⟩
 | p4 i p hi hl he b=>
  have it:m.i.toNat=i:=by omega
  have hw:IntKind.i64.wrap (m.i+1)=m.i+1:=ql (by omega) (by omega)
  have e:=congrArg (fun l=>l[i]?) b.zg
  simp only [xR,if_neg (Nat.lt_irrefl i)] at e
  rw [if_neg (by omega),if_neg (by omega),if_neg (by omega),if_neg (by omega),if_pos p,it,e] at h
  cases hx:w0.zg[i]? with
  | none=>
   rw [hx] at h
   have:=List.getElem?_eq_none_iff.1 hx
   have hi2:i=w0.zg.length:=by omega
   cases h
   exact zif 0 _ hd0 rfl rfl (by omega) (hi2 ▸ b) hb.1 (by omega) g
  | some r=>
   rw [hx] at h
   cases h
   have hlt:=(List.getElem?_eq_some_iff.1 hx).1
   have la:=xM g0 hx
   obtain ⟨v,hv⟩:∃ v,w0.zd[r.version.toNat]?= some v:=⟨_,List.getElem?_eq_getElem (by omega)⟩
   have sq:=zlD hx hv
   dsimp only
   unfold llM
   rw [hw]
   by_cases q:r.gone=true∨Go.Lim.vv r.at_ m.zi=false
   ·rw [if_pos q]
    rw [he] at q
    refine .inr ⟨_,by omega,hd0,.p4 (i+1) p (by show m.i+1=_;omega) hlt he ⟨b.zi,b.current,b.lock,b.pins,b.counts,b.xj,b.zg.trans (wi hx ?_),b.lis⟩⟩
    unfold goR
    rw [if_neg]
    unfold zgZ
    rcases q with q | q <;> simp [q]
   ·rw [if_neg q]
    rw [he] at q
    have el:=kn (g0.ver _ v hv).1
    exact .inr ⟨_,by omega,hd0,.p5 i 0 r v rfl hi rfl he hx rfl (by cases hgo:r.gone with | false=>rfl | true=>exact absurd (.inl hgo) q) (by cases hgo:Go.Lim.vv r.at_ (jH w0) with | true=>rfl | false=>exact absurd (.inr hgo) q) hv (by omega) (fun j _ hj=>by omega) b⟩
 | p5 i k x v p hi hk he hr hm hg hs hv hl hz b=>
  have it:m.i.toNat=i:=by omega
  have kt:m.k.toNat=k:=by omega
  have hlt:=(List.getElem?_eq_some_iff.1 hr).1
  have el:=kn (g0.ver _ v hv).1
  have hw:IntKind.i64.wrap (m.i+1)=m.i+1:=ql (by omega) (by omega)
  have hwk:IntKind.i64.wrap (m.k+1)=m.k+1:=ql (by omega) (by omega)
  rw [if_neg (by omega),if_neg (by omega),if_neg (by omega),if_neg (by omega),if_neg (by omega),if_pos p] at h
  obtain ⟨v',hv',h⟩:=Option.bind_eq_some_iff.1 h
  obtain ⟨e,hx,rfl⟩:=Option.map_eq_some_iff.1 h
  have ee:qj v'=qj v:=b.ends hv' (by rw [hm];exact hv)
  rw [ee,kt] at hx
  unfold laM
  rw [hw,hwk,ee]
  by_cases q:e.zr≠0
  ·rw [if_pos q]
   refine .inr ⟨_,by omega,hd0,.p4 (i+1) rfl (by show m.i+1=_;omega) hlt he ⟨b.zi,b.current,b.lock,b.pins,b.counts,b.xj,b.zg.trans (wi hr ?_),b.lis⟩⟩
   unfold goR
   rw [if_neg]
   unfold zgZ zaN
   rw [hv]
   dsimp only
   intro h2
   simp only [Bool.and_eq_true] at h2
   have:=List.all_eq_true.1 h2.2 e (List.mem_of_getElem? hx)
   simp at this
   exact q this
  rw [if_neg q]
  have hz2:∀ j e,j < k+1->(qj v)[j]?= some e->e.zr=0:=by
   intro j e2 hj he2
   by_cases e3:j=k
   ·subst e3
    rw [hx] at he2
    cases he2
    exact Decidable.of_not_not q
   ·exact hz j e2 (by omega) he2
  by_cases q2:m.k+1 < (qj v).length
  ·rw [if_pos q2]
   exact .inr ⟨_,by omega,hd0,.p5 i (k+1) x v p hi (by show m.k+1=_;omega) he hr hm hg hs hv (by omega) hz2 b⟩
  ·rw [if_neg q2]
   refine .inr ⟨_,by omega,hd0,.p6 i x rfl hi he hr hm ?_ b⟩
   unfold zgZ zaN
   rw [hg,hs,hv]
   refine List.all_eq_true.2 fun e2 he2=>?_
   obtain ⟨j,hj⟩:=List.mem_iff_getElem?.1 he2
   have:=(List.getElem?_eq_some_iff.1 hj).1
   simp [hz2 j e2 (by omega) hj]
 | p6 i x p hi he hr hm hd b=>
  have it:m.i.toNat=i:=by omega
  have hlt:=(List.getElem?_eq_some_iff.1 hr).1
  have hw:IntKind.i64.wrap (m.i+1)=m.i+1:=ql (by omega) (by omega)
  have e:=congrArg (fun l=>l[i]?) b.zg
  simp only [xR,if_neg (Nat.lt_irrefl i)] at e
  rw [if_neg (by omega),if_neg (by omega),if_neg (by omega),if_neg (by omega),if_neg (by omega),if_neg (by omega),if_pos p,it,e,hr] at h
  obtain ⟨v',hv',h⟩:=Option.bind_eq_some_iff.1 h
  rw [Option.bind_some] at h
  split at h
  rotate_left
  ·cases h
  cases h
  unfold frM
  rw [hw]
  refine .inr ⟨_,by omega,hd0,.p4 (i+1) rfl (by show m.i+1=_;omega) hlt he ⟨b.zi,b.current,b.lock,b.pins,b.counts,?_,?_,b.lis⟩⟩
  ·show (w.zd.set m.version.toNat (kq v')).map _=_
   rw [List.map_set,<- b.xj]
   exact yA _ _ (by rw [List.getElem?_map,hv'];rfl)
  ·show w.zg.set i (yt x)=_
   rw [b.zg,<- zdk hr]
   congr 1
   unfold goR
   rw [if_pos hd]
 | p8 i p hi hl b=>
  rw [if_neg (by omega),if_neg (by omega),if_neg (by omega),if_neg (by omega),if_neg (by omega),if_neg (by omega),if_neg (by omega),if_pos p] at h
  cases h
  exact zif i _ hd0 p hi hl b hb.1 (Nat.le_refl _) g
 | p9 i l p hi hl hd hc b=>
  have it:m.i.toNat=i:=by omega
  have hlt:=(List.getElem?_eq_some_iff.1 hl).1
  have hw:IntKind.i64.wrap (m.i+1)=m.i+1:=ql (by omega) (by omega)
  have e:=congrArg (fun l=>l[i]?) b.lis
  simp only [xR,if_neg (Nat.lt_irrefl i)] at e
  rw [if_neg (by omega),if_neg (by omega),if_neg (by omega),if_neg (by omega),if_neg (by omega),if_neg (by omega),if_neg (by omega),if_neg (by omega),if_pos p,it,e,hl] at h
  cases h
  dsimp only
  by_cases q:l.zr=0
  ·rw [if_pos q]
   exact .inr ⟨_,by omega,hd0,.p10 i l rfl hi hl hd hc q b⟩
  ·rw [if_neg q,hw]
   refine .inr ⟨_,by omega,hd0,.p8 (i+1) rfl (by show m.i+1=_;omega) hlt ⟨b.zi,b.current,b.lock,b.pins,b.counts,b.xj,b.zg,b.lis.trans (wi hl ?_)⟩⟩
   unfold xf
   rw [if_neg]
   simp [q]
 | p10 i l p hi hl hd hc ha b=>
  have it:m.i.toNat=i:=by omega
  have hlt:=(List.getElem?_eq_some_iff.1 hl).1
  have hw:IntKind.i64.wrap (m.i+1)=m.i+1:=ql (by omega) (by omega)
  have e:=congrArg (fun l=>l[i]?) b.lis
  simp only [xR,if_neg (Nat.lt_irrefl i)] at e
  rw [if_neg (by omega),if_neg (by omega),if_neg (by omega),if_neg (by omega),if_neg (by omega),if_neg (by omega),if_neg (by omega),if_neg (by omega),if_neg (by omega),if_pos p,it,e,hl,Option.bind_some,if_pos hd,hw] at h
  cases h
  refine .inr ⟨_,by omega,hd0,.p8 (i+1) rfl (by show m.i+1=_;omega) hlt ⟨b.zi,b.current,b.lock,b.pins,b.counts,b.xj,b.zg,?_⟩⟩
  show w.zc.set i (zaJ l)=_
  rw [b.lis,<- zdk hl]
  congr 1
  unfold xf
  rw [if_pos (by rw [hd,hc,ha];rfl)]
end Go.Wor
namespace Go.Wor
open Go.Ab Go.Proofs Go.Gat Go.Nam Go.Hos Go.Con Go.Sna
open Go.Hy hiding encI
theorem zbS {w:Wor} (gw:qK w) {m:Mac} (ht:0<=m.zB∧m.zB < w.pins.length) (hd:m.done=false) (hv:m.version=0) (hc:m.zl=0) (he:m.end_=0) (ho:m.other=0) (hs:m.slot=0) (hl:m.listen= -1) (hi:m.i=0) (hk:m.k=0):∃ v g e,xG w m v g e:=by
 have c:=gw.current
 obtain ⟨v,hv0⟩:∃ v,w.zd[0]?= some v:=⟨_,List.getElem?_eq_getElem (by omega)⟩
 have gv:=(gw.ver _ v hv0).1
 have h0:0 < v.zm.length:=by have:=(qY gv.snap).zf.1;have:=gv.len;omega
 obtain ⟨g,e,hg,hee,l1,l2⟩:=kp gv h0
 exact ⟨v,g,e,qG.2 gw,ht,hd,by omega,by rw [hv];exact hv0,by omega,by rw [hc];exact hg,by omega,by rw [he];exact hee,by omega,by omega,by omega,by omega,by omega⟩
end Go.Wor
namespace Go.Wor
open Go.Ab Go.Proofs Go.Gat Go.Nam Go.Hos Go.Con Go.Sna Go.Pla
open Go.Hy hiding encI
abbrev zkW (w:Wor) (m:Mac) (r:Wor × Mac × Eve):Prop:=zb Tryz.prog 53 [] [Sw w,Sm m] (Sr r.1 r.2.1 r.2.2) []
theorem zkq {N:Nat} {w:Wor} {m:Mac} {v:Ver} {g:Gr} {e:En} {r:Wor × Mac × Eve} (su:xG w m v g e) (t:TyW N w) (tm:TyM m) (hN:N<=100000000) (hk:m.op.kind=5) (h:xH w m=some r):zkW w m r:=
 zgv hk (zeG su (zdg su) t tm hN h)
theorem zj4:∀ (n:Nat) {N K:Nat} {w0 w:Wor} {m:Mac} {v:Ver} {g:Gr} {e:En},J w0 w m n->qK w0->w0.lock=0->(w0.zc.length < 1000000000∧w0.zg.length < 1000000000)->St N K w->xG w m v g e->TyM m->ziy w m v g e->m.op.kind=5->N+n<=100000000->
  ∃ n' m' K',zch n' w m (xo w0) m'∧1<=n'∧n'<=n∧St (N+n) K' (xo w0):=by
 intro n
 induction n using Nat.strongRecOn with
 | _ n ih=>
  intro N K w0 w m v g e hJ g0 hl hb st su tm lo hk hN
  obtain ⟨⟨w',m',ev⟩,h1,h2⟩:=zbH st su tm lo hk (by omega)
  have hp:=zkq su st.ty tm (by omega) hk h1
  have nx:=zjQ hJ su.done g0 hl hb h1 h2.st.jm
  rcases nx with ⟨hd,hc,hn⟩ | ⟨n',hn,hd',hJ'⟩
  ·have hc:w'=xo w0:=hc
   subst hc
   exact ⟨1,m',K+1,.last hp h2.ev hd,by omega,hn,h2.st.mono (by omega) (Nat.le_refl _)⟩
  ·rcases h2.go with ⟨hd,hf⟩ | ⟨⟨v',g',e',hs',lo'⟩,h3⟩
   ·exact absurd (hd.symm.trans hd') (by decide)
   ·obtain ⟨n2,m2,K',hg,h4,h5,h6⟩:=ih n' hn hJ' g0 hl hb h2.st hs' h2.tm lo' (by rw [h2.op];exact hk) (by omega)
    exact ⟨n2+1,m2,K',.more hp h2.ev hs'.done hg,by omega,by omega,h6.mono (by omega) (Nat.le_refl _)⟩
def opC:Opn:=⟨5,[],[],[],0,0,0,⟨[],[],[]⟩⟩
abbrev zga:Mac:=⟨opC,0,0,0,0, -1,0,0,0,0,0,0,0,0,0,false,Beg.zer,zdG⟩
def qO (w:Wor):Nat:=5+w.pins.length+3 * w.zc.length+zbe w 0
theorem zfu:TyM zga:=⟨(by decide:i64 (-1)),(by decide:u64 0),(by decide:(-1:Int)<=0∧(0:Int)<=2147483646),by decide,by decide,(by decide:i64 0),(by decide:i64 0),fun _=>⟨⟨by decide,fun _ h=>nomatch h⟩,⟨by decide,fun _ h=>nomatch h⟩,⟨by decide,fun _ h=>nomatch h⟩⟩,fun _ _=>rfl⟩
def xn (w:Wor):Wor:=if w.lock=0 then xo w else w
theorem zdS {N K:Nat} {w:Wor} (st:St N K w) (hN:N+qO w<=100000000):∃ n m' K',zch n w zga (xn w) m'∧1<=n∧n<=qO w∧St (N+qO w) K' (xn w):=by
 have gw:=st.jm
 have gr:=zQ.1 gw.ground
 obtain ⟨v,g,e,su⟩:=zbS gw (m:=zga) ⟨Int.le_refl _,by show (0:Int) < _;have:=gr.pins.1;omega⟩ rfl rfl rfl rfl rfl rfl rfl rfl rfl
 have lo:ziy w zga v g e:=by constructor <;> dsimp only <;> omega
 unfold xn
 by_cases hl:w.lock=0
 ·rw [if_pos hl]
  have b1:=st.ty.lis
  have b2:=st.ty.lim
  obtain ⟨n,m',K',h1,h2,h3,h4⟩:=zj4 _ (J.p0 rfl) gw hl ⟨by omega,by omega⟩ st su zfu lo rfl (by unfold qO at hN;omega)
  exact ⟨n,m',K',h1,h2,by unfold qO;omega,h4.mono (by unfold qO;omega) (Nat.le_refl _)⟩
 ·rw [if_neg hl]
  obtain ⟨⟨w',m',ev⟩,h1,h2⟩:=zbH st su zfu lo rfl (by omega)
  have hp:=zkq su st.ty zfu (by omega) rfl h1
  unfold xH at h1
  rw [if_pos rfl,if_neg hl] at h1
  cases h1
  exact ⟨1,_,K,.last hp h2.ev rfl,by omega,by unfold qO;omega,st.mono (by omega) (Nat.le_refl _)⟩
end Go.Wor
namespace Go.Wor
open Go.Ab Go.Proofs Go.Gat Go.Nam Go.Hos Go.Con Go.Sna Go.Pla
open Go.Hy hiding encI
def zae (p:Int):Bool:=p != 0
def zfH (e:En):Bool:=e.zr != 0
def zh5 (g:Gr):Bool:=g.ends.any zfH
def zcm (v:Ver):Bool:=v.zm.any zh5
def zjL (l:Lis):Bool:=l.zr != 0
def yz (l:Lis):Bool:=l.zr != 0 || l.drain && !l.closed
def kA (r:Ret):Bool:=!r.gone
def yw (w:Wor):Bool:=w.lock == 0 && !w.pins.any zae
def vg (w:Wor):Bool:=!w.zd.any zcm
def isQ (w:Wor):Bool:=yw w && vg w && !w.zg.any kA && !w.zc.any yz
def zlJ (w:Wor):Bool:=!w.pins.any zae && !w.zc.any zjL && w.lock == 0 && vg w
structure Idl (w:Wor):Prop where
 lock:w.lock=0
 pins:∀ p ∈ w.pins,p=0
 ends : ∀ v ∈ w.zd, ∀ e ∈ qj v, e.zr = 0
 lis:∀ l ∈ w.zc,l.zr=0
theorem zd5 {w:Wor}:vg w=true↔∀ v ∈ w.zd,∀ e ∈ qj v,e.zr=0:=by
 have hb:∀ v:Ver,zcm v=false↔∀ e ∈ qj v,e.zr=0:=fun v=>by
  unfold zcm qj
  rw [List.any_eq_false]
  constructor
  ·intro h e he
   obtain ⟨g,hg,he⟩:=List.mem_flatMap.1 he
   have h1:=h g hg
   unfold zh5 at h1
   rw [Bool.not_eq_true,List.any_eq_false] at h1
   have h2:=h1 e he
   unfold zfH at h2
   simpa using h2
  ·intro h g hg
   unfold zh5
   rw [Bool.not_eq_true,List.any_eq_false]
   intro e he
   unfold zfH
   simp [h e (List.mem_flatMap.2 ⟨g,hg,he⟩)]
 unfold vg
 rw [Bool.not_eq_true',List.any_eq_false]
 exact ⟨fun h v hv=>(hb v).1 (by simpa using h v hv),fun h v hv=>by simpa using (hb v).2 (h v hv)⟩
theorem zmQ {w:Wor}:zlJ w=true↔Idl w:=by
 unfold zlJ
 simp only [Bool.and_eq_true,Bool.not_eq_true',List.any_eq_false,beq_iff_eq,zd5]
 constructor
 ·rintro ⟨⟨⟨h1,h2⟩,h3⟩,h4⟩
  exact ⟨h3,fun p hp=>by have:=h1 p hp;simpa [zae] using this,h4,fun l hl=>by have:=h2 l hl;simpa [zjL] using this⟩
 ·rintro ⟨h3,h1,h4,h2⟩
  exact ⟨⟨⟨fun p hp=>by simp [zae,h1 p hp],fun l hl=>by simp [zjL,h2 l hl]⟩,h3⟩,h4⟩
structure Qui (w:Wor):Prop extends Idl w where
 gone:∀ r ∈ w.zg,r.gone=true
 shut:∀ l ∈ w.zc,l.drain=true->l.closed=true
theorem zlb {w:Wor}:isQ w=true↔Qui w:=by
 unfold isQ yw
 simp only [Bool.and_eq_true,Bool.not_eq_true',List.any_eq_false,beq_iff_eq,zd5]
 constructor
 ·rintro ⟨⟨⟨⟨h1,h2⟩,h3⟩,h4⟩,h5⟩
  refine ⟨⟨h1,fun p hp=>by have:=h2 p hp;simpa [zae] using this,h3,fun l hl=>?_⟩,fun r hr=>by have:=h4 r hr;simpa [kA] using this,fun l hl hd=>?_⟩
  ·have:=h5 l hl
   simp [yz] at this
   exact this.1
  ·have:=h5 l hl
   simp [yz,hd] at this
   exact this.2
 ·rintro ⟨⟨h1,h2,h3,h6⟩,h4,h5⟩
  refine ⟨⟨⟨⟨h1,fun p hp=>by simp [zae,h2 p hp]⟩,h3⟩,fun r hr=>by simp [kA,h4 r hr]⟩,fun l hl=>?_⟩
  simp [yz,h6 l hl]
  intro hd
  exact h5 l hl hd
theorem yD (l:Lis):(xf l).zr=l.zr∧(xf l).drain=l.drain∧(l.closed=true->(xf l).closed=true)∧(l.drain=true->l.zr=0->(xf l).closed=true):=by
 unfold xf
 split
 ·exact ⟨rfl,rfl,fun _=>rfl,fun _ _=>rfl⟩
 ·rename_i h
  refine ⟨rfl,rfl,fun h=>h,fun hd ha=>?_⟩
  cases hc:l.closed with
  | true=>rfl
  | false=>exact absurd (by rw [hd,hc,ha];rfl) h
theorem zk3 {w:Wor} {v:Ver} (h:v ∈ (xo w).zd):∃ v0 ∈ w.zd,v.snap=v0.snap∧v.zm=v0.zm:=by
 obtain ⟨i,hi⟩:=List.mem_iff_getElem?.1 h
 have hi:(w.zd.mapIdx (fun k v=>{ v with jn:=jM (w.zg.map (goR w)) k }))[i]?= some v:=hi
 rw [List.getElem?_mapIdx] at hi
 obtain ⟨v0,h0,rfl⟩:=Option.map_eq_some_iff.1 hi
 exact ⟨v0,List.mem_of_getElem? h0,rfl,rfl⟩
theorem Idl.col {w:Wor} (h:Idl w) (he:w.zi < 1000000000000):Idl (xo w)∧(xo w).zi=w.zi+1:=by
 refine ⟨⟨rfl,h.pins,fun v hv e hme=>?_,fun l hl=>?_⟩,?_⟩
 ·obtain ⟨v0,h0,_,hg⟩:=zk3 hv
  refine h.ends v0 h0 e ?_
  unfold qj at hme ⊢
  rwa [<- hg]
 ·obtain ⟨l0,h0,rfl⟩:=List.mem_map.1 (show l ∈ w.zc.map xf from hl)
  rw [(yD l0).1]
  exact h.lis l0 h0
 ·show jH w=_
  unfold jH
  rw [if_pos ⟨List.all_eq_true.2 fun p hp=>by simp [zc2,h.pins p hp],he⟩]
theorem Idl.still {w:Wor} (h:Idl w) {r:Ret} (hr:0<=r.version∧r.version < w.zd.length):zaN w r.version=true:=by
 unfold zaN
 rw [List.getElem?_eq_getElem (by omega)]
 exact List.all_eq_true.2 fun e he=>by simp [h.ends _ (List.getElem_mem (by omega)) e he]
theorem Qui.col {w:Wor} (h:Qui w) (he:w.zi < 1000000000000):Qui (xo w):=by
 refine ⟨(h.toIdl.col he).1,fun r hr=>?_,fun l hl hd=>?_⟩
 ·obtain ⟨r0,h0,rfl⟩:=List.mem_map.1 (show r ∈ w.zg.map (goR w) from hr)
  unfold goR
  split
  ·rfl
  ·exact h.gone r0 h0
 ·obtain ⟨l0,h0,rfl⟩:=List.mem_map.1 (show l ∈ w.zc.map xf from hl)
  rw [(yD l0).2.1] at hd
  exact (yD l0).2.2.1 (h.shut l0 h0 hd)
theorem Idl.znD {w:Wor} (h:Idl w) (g:qK w) (he:w.zi<=1000000) (g1:qK (xo w)):Qui (xo (xo w)):=by
 have h1:=h.col (by omega)
 have h2:=h1.1.col (by rw [h1.2];omega)
 refine ⟨h2.1,fun r hr=>?_,fun l hl hd=>?_⟩
 ·obtain ⟨r1,hr1,rfl⟩:=List.mem_map.1 (show r ∈ (xo w).zg.map (goR (xo w)) from hr)
  obtain ⟨i,hi⟩:=List.mem_iff_getElem?.1 hr1
  have la:=xM g1 hi
  obtain ⟨r0,hr0,e0⟩:=List.mem_map.1 (show r1 ∈ w.zg.map (goR w) from hr1)
  obtain ⟨i0,hi0⟩:=List.mem_iff_getElem?.1 hr0
  have la0:=xM g hi0
  have ea:r1.at_=r0.at_:=by
   rw [<- e0]
   unfold goR
   split <;> rfl
  unfold goR
  by_cases q:zgZ (xo w) r1=true
  ·rw [if_pos q]
  ·rw [if_neg q]
   cases hg:r1.gone with
   | true=>rfl
   | false=>
    refine absurd ?_ q
    unfold zgZ
    rw [hg,h1.1.still ⟨la.2.2.1,la.2.2.2.1⟩]
    have:jH (xo w)=w.zi+2:=by
     have:=h2.2
     rw [h1.2] at this
     exact this.trans (by omega)
    rw [this]
    unfold Go.Lim.vv
    simp
    omega
 ·obtain ⟨l1,hl1,rfl⟩:=List.mem_map.1 (show l ∈ (xo w).zc.map xf from hl)
  rw [(yD l1).2.1] at hd
  exact (yD l1).2.2.2 hd (h1.1.lis l1 hl1)
end Go.Wor
namespace Go.Wor
open Go.Ab Go.Proofs Go.Gat Go.Nam Go.Hos Go.Con Go.Sna Go.Pla Go.Dep
open Go.Hy hiding encI
def zh9 (f:FuncId):List C:=[.fn f [] []]
abbrev Fv (f:FuncId):C:=.agg (zh9 f)
abbrev lFn (l:List FuncId):C:=.lst 0 1 (l.map zh9)
abbrev Rv (r:Ret):C:=.agg (qL r)
abbrev Lv (r:Lis):C:=.agg (q8 r)
theorem zf3 {H:ze} {f:FuncId} {caps:List C} {l:List Ret} (p:Ret->Bool) (hcb:zy Tryz.prog f=true) (hp:∀ r ∈ l,zb Tryz.prog f H ([Rv r]++caps) (Bo (p r)) H) (hl:l.length < 4611686018427387904):
  zb Tryz.prog 168 H [lR l,.fn f [] caps] (I (match l.findIdx? p with | some i=>(i:Int) | none=> -1)) H:=by
 refine zb.zA (fn:=Tryz.f168) Tryz.func168 rfl ?_
 conv=>whnf
 refine zH.inv (fun n t1 H1=>∃ k,k+n=l.length∧H1=H∧(∀ j,j < k->∀ r,l[j]?= some r->p r=false)∧
   t1=[lR l,.fn f [] caps,.za,.za,I 0,.za,.za,I (l.map qL).length,I k,.za,.za,.za,.za,.za,.za,.za,.za,.za,.za]) l.length ?_ ?_
 ·exact ⟨_,_,zj.mask [0,1,4,7,8] _ _,0,by simp,rfl,by simp,rfl⟩
 rintro n _ _ ⟨k,hk,rfl,hno,rfl⟩
 conv=>whnf
 refine ⟨fun h=>?_,fun h=>?_⟩
 ·conv=>whnf
  have hlt:k < l.length:=by simpa using h
  refine ⟨by omega,qL l[k],by simp [hlt],?_⟩
  conv=>whnf
  rw [hcb]
  refine ⟨_,_,hp _ (List.getElem_mem hlt),?_⟩
  conv=>whnf
  refine ⟨fun h2=>?_,fun h2=>?_⟩
  ·conv=>whnf
   refine .inr ⟨by simp,?_⟩
   conv=>whnf
   refine ⟨.inl rfl,_,.refl _,rfl,?_⟩
   have:l.findIdx? p=some k:=by
    rw [List.findIdx?_eq_some_iff_getElem]
    refine ⟨hlt,h2,fun j hj=>?_⟩
    simp [hno j hj _ (List.getElem?_eq_getElem (by omega))]
   rw [this]
   rfl
  ·conv=>whnf
   refine .inl ⟨rfl,n - 1,_,_,by omega,zj.mask [0,1,4,7,8] _ _,k+1,by omega,rfl,?_,?_⟩
   ·intro j hj r hr
    by_cases hjk:j=k
    ·subst hjk
     rw [List.getElem?_eq_getElem hlt] at hr
     cases hr
     exact h2
    ·exact hno j (by omega) r hr
   ·rw [zo (by omega)];rfl
 ·conv=>whnf
  refine .inr ⟨by simp,?_⟩
  conv=>whnf
  refine ⟨.inl rfl,_,.refl _,rfl,?_⟩
  have:l.findIdx? p=none:=by
   rw [List.findIdx?_eq_none_iff]
   intro x hx
   obtain ⟨j,hj⟩:=List.mem_iff_getElem?.1 hx
   have hjl:=(List.getElem?_eq_some_iff.1 hj).1
   have:¬k < l.length:=by simpa using h
   exact hno j (by omega) x hj
  rw [this]
  rfl
theorem zfN {H:ze} {f:FuncId} {caps:List C} {l:List Ret} (p:Ret->Bool) (hcb:zy Tryz.prog f=true) (hp:∀ r ∈ l,zb Tryz.prog f H ([Rv r]++caps) (Bo (p r)) H) (hl:l.length < 4611686018427387904):
  zb Tryz.prog 117 H [lR l,.fn f [] caps] (Bo (l.any p)) H:=by
 refine zb.zA (fn:=Tryz.f117) Tryz.func117 rfl ?_
 conv=>whnf
 refine ⟨_,_,zf3 p hcb hp hl,?_⟩
 refine dd ?_
 rw [show decide ((match l.findIdx? p with | some i=>((i:Nat):Int) | none=>(-1:Int))≥(0:Int))=l.any p from yX l p]
 refine ⟨fun h=>?_,fun h=>?_⟩ <;> rw [h]
 ·refine dd ?_
  exact ⟨.inl rfl,_,.refl _,rfl,rfl⟩
 ·refine dd ?_
  exact ⟨.inl rfl,_,.refl _,rfl,rfl⟩
theorem zf2 {H:ze} {f:FuncId} {caps:List C} {l:List Lis} (p:Lis->Bool) (hcb:zy Tryz.prog f=true) (hp:∀ r ∈ l,zb Tryz.prog f H ([Lv r]++caps) (Bo (p r)) H) (hl:l.length < 4611686018427387904):
  zb Tryz.prog 110 H [lL l,.fn f [] caps] (I (match l.findIdx? p with | some i=>(i:Int) | none=> -1)) H:=by
 refine zb.zA (fn:=Tryz.f110) Tryz.func110 rfl ?_
 conv=>whnf
 refine zH.inv (fun n t1 H1=>∃ k,k+n=l.length∧H1=H∧(∀ j,j < k->∀ r,l[j]?= some r->p r=false)∧
   t1=[lL l,.fn f [] caps,.za,.za,I 0,.za,.za,I (l.map q8).length,I k,.za,.za,.za,.za,.za,.za,.za,.za,.za,.za]) l.length ?_ ?_
 ·exact ⟨_,_,zj.mask [0,1,4,7,8] _ _,0,by simp,rfl,by simp,rfl⟩
 rintro n _ _ ⟨k,hk,rfl,hno,rfl⟩
 conv=>whnf
 refine ⟨fun h=>?_,fun h=>?_⟩
 ·conv=>whnf
  have hlt:k < l.length:=by simpa using h
  refine ⟨by omega,q8 l[k],by simp [hlt],?_⟩
  conv=>whnf
  rw [hcb]
  refine ⟨_,_,hp _ (List.getElem_mem hlt),?_⟩
  conv=>whnf
  refine ⟨fun h2=>?_,fun h2=>?_⟩
  ·conv=>whnf
   refine .inr ⟨by simp,?_⟩
   conv=>whnf
   refine ⟨.inl rfl,_,.refl _,rfl,?_⟩
   have:l.findIdx? p=some k:=by
    rw [List.findIdx?_eq_some_iff_getElem]
    refine ⟨hlt,h2,fun j hj=>?_⟩
    simp [hno j hj _ (List.getElem?_eq_getElem (by omega))]
   rw [this]
   rfl
  ·conv=>whnf
   refine .inl ⟨rfl,n - 1,_,_,by omega,zj.mask [0,1,4,7,8] _ _,k+1,by omega,rfl,?_,?_⟩
   ·intro j hj r hr
    by_cases hjk:j=k
    ·subst hjk
     rw [List.getElem?_eq_getElem hlt] at hr
     cases hr
     exact h2
    ·exact hno j (by omega) r hr
   ·rw [zo (by omega)];rfl
 ·conv=>whnf
  refine .inr ⟨by simp,?_⟩
  conv=>whnf
  refine ⟨.inl rfl,_,.refl _,rfl,?_⟩
  have:l.findIdx? p=none:=by
   rw [List.findIdx?_eq_none_iff]
   intro x hx
   obtain ⟨j,hj⟩:=List.mem_iff_getElem?.1 hx
   have hjl:=(List.getElem?_eq_some_iff.1 hj).1
   have:¬k < l.length:=by simpa using h
   exact hno j (by omega) x hj
  rw [this]
  rfl
theorem zfM {H:ze} {f:FuncId} {caps:List C} {l:List Lis} (p:Lis->Bool) (hcb:zy Tryz.prog f=true) (hp:∀ r ∈ l,zb Tryz.prog f H ([Lv r]++caps) (Bo (p r)) H) (hl:l.length < 4611686018427387904):
  zb Tryz.prog 119 H [lL l,.fn f [] caps] (Bo (l.any p)) H:=by
 refine zb.zA (fn:=Tryz.f119) Tryz.func119 rfl ?_
 conv=>whnf
 refine ⟨_,_,zf2 p hcb hp hl,?_⟩
 refine dd ?_
 rw [show decide ((match l.findIdx? p with | some i=>((i:Nat):Int) | none=>(-1:Int))≥(0:Int))=l.any p from yX l p]
 refine ⟨fun h=>?_,fun h=>?_⟩ <;> rw [h]
 ·refine dd ?_
  exact ⟨.inl rfl,_,.refl _,rfl,rfl⟩
 ·refine dd ?_
  exact ⟨.inl rfl,_,.refl _,rfl,rfl⟩
theorem zf1 {H:ze} {f:FuncId} {caps:List C} {l:List FuncId} (p:FuncId->Bool) (hcb:zy Tryz.prog f=true) (hp:∀ r ∈ l,zb Tryz.prog f H ([Fv r]++caps) (Bo (p r)) H) (hl:l.length < 4611686018427387904):
  zb Tryz.prog 167 H [lFn l,.fn f [] caps] (I (match l.findIdx? p with | some i=>(i:Int) | none=> -1)) H:=by
 refine zb.zA (fn:=Tryz.f167) Tryz.func167 rfl ?_
 conv=>whnf
 refine zH.inv (fun n t1 H1=>∃ k,k+n=l.length∧H1=H∧(∀ j,j < k->∀ r,l[j]?= some r->p r=false)∧
   t1=[lFn l,.fn f [] caps,.za,.za,I 0,.za,.za,I (l.map zh9).length,I k,.za,.za,.za,.za,.za,.za,.za,.za,.za,.za]) l.length ?_ ?_
 ·exact ⟨_,_,zj.mask [0,1,4,7,8] _ _,0,by simp,rfl,by simp,rfl⟩
 rintro n _ _ ⟨k,hk,rfl,hno,rfl⟩
 conv=>whnf
 refine ⟨fun h=>?_,fun h=>?_⟩
 ·conv=>whnf
  have hlt:k < l.length:=by simpa using h
  refine ⟨by omega,zh9 l[k],by simp [hlt],?_⟩
  conv=>whnf
  rw [hcb]
  refine ⟨_,_,hp _ (List.getElem_mem hlt),?_⟩
  conv=>whnf
  refine ⟨fun h2=>?_,fun h2=>?_⟩
  ·conv=>whnf
   refine .inr ⟨by simp,?_⟩
   conv=>whnf
   refine ⟨.inl rfl,_,.refl _,rfl,?_⟩
   have:l.findIdx? p=some k:=by
    rw [List.findIdx?_eq_some_iff_getElem]
    refine ⟨hlt,h2,fun j hj=>?_⟩
    simp [hno j hj _ (List.getElem?_eq_getElem (by omega))]
   rw [this]
   rfl
  ·conv=>whnf
   refine .inl ⟨rfl,n - 1,_,_,by omega,zj.mask [0,1,4,7,8] _ _,k+1,by omega,rfl,?_,?_⟩
   ·intro j hj r hr
    by_cases hjk:j=k
    ·subst hjk
     rw [List.getElem?_eq_getElem hlt] at hr
     cases hr
     exact h2
    ·exact hno j (by omega) r hr
   ·rw [zo (by omega)];rfl
 ·conv=>whnf
  refine .inr ⟨by simp,?_⟩
  conv=>whnf
  refine ⟨.inl rfl,_,.refl _,rfl,?_⟩
  have:l.findIdx? p=none:=by
   rw [List.findIdx?_eq_none_iff]
   intro x hx
   obtain ⟨j,hj⟩:=List.mem_iff_getElem?.1 hx
   have hjl:=(List.getElem?_eq_some_iff.1 hj).1
   have:¬k < l.length:=by simpa using h
   exact hno j (by omega) x hj
  rw [this]
  rfl
theorem zfL {H:ze} {f:FuncId} {caps:List C} {l:List FuncId} (p:FuncId->Bool) (hcb:zy Tryz.prog f=true) (hp:∀ r ∈ l,zb Tryz.prog f H ([Fv r]++caps) (Bo (p r)) H) (hl:l.length < 4611686018427387904):
  zb Tryz.prog 113 H [lFn l,.fn f [] caps] (Bo (l.any p)) H:=by
 refine zb.zA (fn:=Tryz.f113) Tryz.func113 rfl ?_
 conv=>whnf
 refine ⟨_,_,zf1 p hcb hp hl,?_⟩
 refine dd ?_
 rw [show decide ((match l.findIdx? p with | some i=>((i:Nat):Int) | none=>(-1:Int))≥(0:Int))=l.any p from yX l p]
 refine ⟨fun h=>?_,fun h=>?_⟩ <;> rw [h]
 ·refine dd ?_
  exact ⟨.inl rfl,_,.refl _,rfl,rfl⟩
 ·refine dd ?_
  exact ⟨.inl rfl,_,.refl _,rfl,rfl⟩
theorem zgH (w:Wor) (f:FuncId) (b:Bool) (hc:zy Tryz.prog f=true) (h:zb Tryz.prog f [] [Cw w] (Bo b) []):zb Tryz.prog 114 [⟨1,28,8,[z7 w],0⟩] ([Fv f]++[.ref 0 [] 8 0 0]) (Bo (!b)) [⟨1,28,8,[z7 w],0⟩]:=by
 refine zb.zA (fn:=Tryz.f114) Tryz.func114 rfl ?_
 conv=>whnf
 rw [hc]
 cases b
 all_goals
  refine ⟨_,_,h.frame rfl _,?_⟩
  refine dd ?_
  (repeat ((first | apply ya | apply yb);refine dd ?_))
  exact ⟨.inl rfl,_,zj.keep [3] 1 _ _ rfl rfl rfl rfl,rfl,rfl⟩
theorem kT (w:Wor) (l:List FuncId) (p:FuncId->Bool) (h:∀ f ∈ l,zy Tryz.prog f=true∧zb Tryz.prog f [] [Cw w] (Bo (p f)) []) (hl:l.length < 4611686018427387904):zb Tryz.prog 65 [] [Cw w,lFn l] (Bo (!l.any fun f=>!p f)) []:=by
 refine zb.zk (fn:=Tryz.f65) Tryz.func65 rfl ?_
 conv=>whnf
 have hcon:=zfL (H:=[⟨1,28,8,[z7 w],0⟩]) (f:=114) (l:=l) (caps:=[.ref 0 [] 8 0 0]) (fun f=>!p f) (by kernel_rfl) (fun r hr=>zgH w r (p r) (h r hr).1 (h r hr).2) hl
 refine zn [0] (hcon) rfl rfl rfl rfl rfl rfl ?_;refine dd ?_
 refine ⟨fun q=>?_,fun q=>?_⟩
 all_goals
  rw [q]
  refine dd ?_
  (try (repeat ((first | apply ya | apply yb);refine dd ?_)))
  exact ⟨.inl rfl,_,.refl _,rfl⟩
theorem ze2 (p:Int):zb Tryz.prog 115 [] [I p] (Bo (zae p)) []:=by
 refine zb.zk (fn:=Tryz.f115) Tryz.func115 rfl ?_
 conv=>whnf
 refine ⟨fun h=>?_,fun h=>?_⟩
 all_goals
  refine dd ?_
  (exact ⟨.inl rfl,_,.refl _,congrArg (fun b=>some (C.v (Value.bool b))) (by exact h.symm)⟩)
theorem zfi (w:Wor) (hw:w.pins.length < 4611686018427387904):zb Tryz.prog 66 [] [Cw w] (Bo (yw w)) []:=by
 refine zb.zk (fn:=Tryz.f66) Tryz.func66 rfl ?_
 conv=>whnf
 refine ⟨fun h1=>?_,fun h1=>?_⟩
 ·have e:yw w=!w.pins.any zae:=by unfold yw;simp at h1;rw [h1];rfl
  rw [e]
  refine dd ?_
  have hcon:=wN (H:=[]) (f:=115) (l:=w.pins) (caps:=[]) zae (by kernel_rfl) (fun r _=>ze2 r) hw
  refine ⟨_,_,(hcon).frame rfl _,?_⟩;refine dd ?_
  refine ⟨fun q=>?_,fun q=>?_⟩
  all_goals
   rw [q]
   refine dd ?_
   (try (repeat ((first | apply ya | apply yb);refine dd ?_)))
   exact ⟨.inl rfl,_,.refl _,rfl⟩
 ·have e:yw w=false:=by unfold yw;simp at h1;simp [h1]
  rw [e]
  refine dd ?_
  exact ⟨.inl rfl,_,.refl _,rfl⟩
theorem zf0 (e:En):zb Tryz.prog 116 [] [Go.Slp.Ev e] (Bo (zfH e)) []:=by
 refine zb.zk (fn:=Tryz.f116) Tryz.func116 rfl ?_
 conv=>whnf
 refine ⟨fun h=>?_,fun h=>?_⟩
 all_goals
  refine dd ?_
  (exact ⟨.inl rfl,_,.refl _,congrArg (fun b=>some (C.v (Value.bool b))) (by exact h.symm)⟩)
theorem zfY (r:Ret):zb Tryz.prog 118 [] [Rv r] (Bo (kA r)) []:=by
 refine zb.zk (fn:=Tryz.f118) Tryz.func118 rfl ?_
 conv=>whnf
 refine ⟨fun h=>?_,fun h=>?_⟩
 all_goals
  refine dd ?_
  (exact ⟨.inl rfl,_,.refl _,congrArg (fun b=>some (C.v (Value.bool b))) (by unfold kA;rw [h];rfl)⟩)
theorem zgi (w:Wor) (hw:w.zg.length < 4611686018427387904):zb Tryz.prog 68 [] [Cw w] (Bo (!w.zg.any kA)) []:=by
 refine zb.zk (fn:=Tryz.f68) Tryz.func68 rfl ?_
 conv=>whnf
 have hcon:=zfN (H:=[]) (f:=118) (l:=w.zg) (caps:=[]) kA (by kernel_rfl) (fun r _=>zfY r) hw
 refine ⟨_,_,(hcon).frame rfl _,?_⟩;refine dd ?_
 refine ⟨fun q=>?_,fun q=>?_⟩
 all_goals
  rw [q]
  refine dd ?_
  (try (repeat ((first | apply ya | apply yb);refine dd ?_)))
  exact ⟨.inl rfl,_,.refl _,rfl⟩
theorem zgr (l:Lis):zb Tryz.prog 120 [] [Lv l] (Bo (yz l)) []:=by
 obtain ⟨a,b,c,d⟩:=l
 refine zb.zk (fn:=Tryz.f120) Tryz.func120 rfl ?_
 conv=>whnf
 refine ⟨fun h1=>?_,fun h1=>?_⟩
 ·refine dd ?_
  (try (repeat ((first | apply ya | apply yb);refine dd ?_)))
  (exact ⟨.inl rfl,_,.refl _,congrArg (fun b=>some (C.v (Value.bool b))) (by unfold yz;simp at h1;simp [h1])⟩)
 ·refine dd ?_
  cases b
  ·(refine ⟨fun h=>absurd (h.symm.trans rfl:true=false) (by decide),fun _=>?_⟩);refine dd ?_
   (exact ⟨.inl rfl,_,.refl _,congrArg (fun b=>some (C.v (Value.bool b))) (by unfold yz;simp at h1;simp [h1])⟩)
  ·(refine ⟨fun _=>?_,fun h=>absurd (h.symm.trans rfl:false=true) (by decide)⟩);refine dd ?_
   cases d
   ·(refine ⟨fun h=>absurd (h.symm.trans rfl:true=false) (by decide),fun _=>?_⟩);refine dd ?_
    (exact ⟨.inl rfl,_,.refl _,congrArg (fun b=>some (C.v (Value.bool b))) (by unfold yz;simp at h1;simp [h1])⟩)
   ·(refine ⟨fun _=>?_,fun h=>absurd (h.symm.trans rfl:false=true) (by decide)⟩);refine dd ?_
    (exact ⟨.inl rfl,_,.refl _,congrArg (fun b=>some (C.v (Value.bool b))) (by unfold yz;simp at h1;simp [h1])⟩)
theorem zgk (w:Wor) (hw:w.zc.length < 4611686018427387904):zb Tryz.prog 69 [] [Cw w] (Bo (!w.zc.any yz)) []:=by
 refine zb.zk (fn:=Tryz.f69) Tryz.func69 rfl ?_
 conv=>whnf
 have hcon:=zfM (H:=[]) (f:=120) (l:=w.zc) (caps:=[]) yz (by kernel_rfl) (fun r _=>zgr r) hw
 refine ⟨_,_,(hcon).frame rfl _,?_⟩;refine dd ?_
 refine ⟨fun q=>?_,fun q=>?_⟩
 all_goals
  rw [q]
  refine dd ?_
  (try (repeat ((first | apply ya | apply yb);refine dd ?_)))
  exact ⟨.inl rfl,_,.refl _,rfl⟩
structure WkQ (w:Wor):Prop where
 zd:w.zd.length < 4000000000000000000
 zm:∀ v ∈ w.zd,v.zm.length < 4000000000000000000∧∀ g ∈ v.zm,g.ends.length < 4000000000000000000
 pins:w.pins.length < 4000000000000000000
 zc:w.zc.length < 4000000000000000000
 zg:w.zg.length < 4000000000000000000
theorem zgj (w:Wor) (hw:WkQ w):zb Tryz.prog 67 [] [Cw w] (Bo (vg w)) []:=by
 have m2:(w.zd.map qm).length=w.zd.length:=List.length_map ..
 have b2:=hw.zd
 refine zb.zk (fn:=Tryz.f67) Tryz.func67 rfl ?_
 conv=>whnf
 rw [m2]
 refine zH.seq w.zd.length (fun k=>[.za,.ref 0 [] 8 0 0,Bo false,.za,.za,.za,.za,.za,lV w.zd,I w.zd.length,I k,.za,.za,.za,.za,.za,.za,.za,.za,.za,.za,.za,.za,.za,.za,.za]) (fun k=>[⟨1,28,8,[z7 w],0⟩]) (fun k=>∀ j,(h:j < w.zd.length)->j < k->zcm w.zd[j]=false) ?_ (by simp) (fun k hk hr=>?_) (fun hr=>?_)
 ·exact cC
 ·obtain ⟨v,hx⟩:∃ v,v=w.zd[k]:=⟨_,rfl⟩
  have hv:v ∈ w.zd:=by rw [hx];exact List.getElem_mem hk
  have hg:(w.zd.map qm)[k]?= some (qm v):=by rw [List.getElem?_map,List.getElem?_eq_getElem hk,hx];rfl
  have mg:(v.zm.map j3).length=v.zm.length:=List.length_map ..
  have bad:zcm v=true->vg w=false:=fun h=>by
   unfold vg;rw [List.any_eq_true.2 ⟨v,hv,h⟩];rfl
  have bg:=(hw.zm v hv).1
  conv=>whnf
  (refine ⟨fun _=>?_,fun h=>absurd h (by simp;omega)⟩);refine dd ?_
  (refine ⟨by omega,_,by rw [toNat_cast];exact hg,?_⟩);refine dd ?_
  rw [mg]
  refine zH.seq v.zm.length (fun j=>[.za,.ref 0 [] 8 0 0,Bo false,.za,.ref 1 [] 5 0 0,.za,.za,.za,lV w.zd,I w.zd.length,I k,.za,.za,.za,.za,lG v.zm,I v.zm.length,I j,.za,.za,.za,.za,.za,.za,.za,.za]) (fun j=>[⟨1,28,8,[z7 w],0⟩,⟨1,72,5,[qm v],0⟩]) (fun j=>∀ i,(h:i < v.zm.length)->i < j->zh5 v.zm[i]=false) ?_ (by simp) (fun j hj hrj=>?_) (fun hrj=>?_)
  ·exact cC
  ·obtain ⟨g,hxg⟩:∃ g,g=v.zm[j]:=⟨_,rfl⟩
   have hgm:g ∈ v.zm:=by rw [hxg];exact List.getElem_mem hj
   have hgg:(v.zm.map j3)[j]?= some (j3 g):=by rw [List.getElem?_map,List.getElem?_eq_getElem hj,hxg];rfl
   have be:=(hw.zm v hv).2 g hgm
   have hcon:=zcu (H:=[]) (f:=116) (l:=g.ends) (caps:=[]) zfH (by kernel_rfl) (fun r _=>zf0 r) (by omega)
   conv=>whnf
   (refine ⟨fun _=>?_,fun h=>absurd h (by simp;omega)⟩);refine dd ?_
   (refine ⟨by omega,_,by rw [toNat_cast];exact hgg,?_⟩);refine dd ?_
   refine ⟨_,_,(hcon).frame rfl _,?_⟩;refine dd ?_
   refine ⟨fun q=>?_,fun q=>?_⟩
   ·rw [bad (List.any_eq_true.2 ⟨g,hgm,q⟩)]
    refine dd ?_
    (refine .inr ⟨by simp,?_⟩);(conv=>whnf)
    (try (refine .inr ⟨by simp,?_⟩);(conv=>whnf))
    exact ⟨.inl rfl,_,.refl _,rfl⟩
   ·refine dd ?_
    refine .inl ⟨rfl,?_,fun i hi hij=>?_⟩
    ·rw [zo (by omega)]
     exact cE 2
    ·by_cases e:i=j
     ·subst e;rw [<- hxg];exact q
     ·exact hrj i hi (by omega)
  ·have no:zcm v=false:=by
    unfold zcm
    rw [List.any_eq_false]
    intro x hx
    obtain ⟨i,hi,rfl⟩:=List.mem_iff_getElem.1 hx
    simp [hrj i hi hi]
   (conv=>whnf);(refine ⟨fun h=>absurd h (by simp),fun _=>?_⟩);refine dd ?_;(refine ⟨by simp,?_⟩);(conv=>whnf)
   refine .inl ⟨rfl,?_,fun i hi hij=>?_⟩
   ·rw [zo (by omega)]
    exact cE 1
   ·by_cases e:i=k
    ·subst e;rw [<- hx];exact no
    ·exact hr i hi (by omega)
 ·have e:vg w=true:=by
   unfold vg
   rw [Bool.not_eq_true',List.any_eq_false]
   intro x hx
   obtain ⟨i,hi,rfl⟩:=List.mem_iff_getElem.1 hx
   simp [hr i hi hi]
  rw [e]
  (conv=>whnf);(refine ⟨fun h=>absurd h (by simp),fun _=>?_⟩);refine dd ?_;(refine ⟨by simp,?_⟩);(conv=>whnf)
  exact ⟨.inl rfl,_,.refl _,rfl⟩
theorem xE (w:Wor) (hw:WkQ w):zb Tryz.prog 26 [] [Cw w] (Bo (isQ w)) []:=by
 have h:=kT w [66,67,68,69] (fun f=>if f=66 then yw w else if f=67 then vg w else if f=68 then !w.zg.any kA else !w.zc.any yz) (by
  intro f hf
  simp only [List.mem_cons,List.not_mem_nil,or_false] at hf
  rcases hf with rfl | rfl | rfl | rfl
  ·exact ⟨by kernel_rfl,zfi w (by have:=hw.pins;omega)⟩
  ·exact ⟨by kernel_rfl,zgj w hw⟩
  ·exact ⟨by kernel_rfl,zgi w (by have:=hw.zg;omega)⟩
  ·exact ⟨by kernel_rfl,zgk w (by have:=hw.zc;omega)⟩) (by decide)
 have e:isQ w=!([66,67,68,69].any fun f=>!(if f=66 then yw w else if f=67 then vg w else if f=68 then !w.zg.any kA else !w.zc.any yz)):=by
  show isQ w=!(!yw w || (!vg w || (!(!w.zg.any kA) || (!(!w.zc.any yz) || false))))
  unfold isQ
  cases yw w <;> cases vg w <;> cases w.zg.any kA <;> cases w.zc.any yz <;> rfl
 rw [e]
 refine zb.zk (fn:=Tryz.f26) Tryz.func26 rfl ?_
 conv=>whnf
 have h2:=h.pre (.cons (.refl _) (.cons (fun E y hy=>WC.share 1 1 _ E y hy) .nil))
 refine ⟨_,_,(h2).frame rfl _,?_⟩;refine dd ?_
 refine ⟨fun q=>?_,fun q=>?_⟩
 all_goals
  rw [q]
  refine dd ?_
  (try (repeat ((first | apply ya | apply yb);refine dd ?_)))
  exact ⟨.inl rfl,_,.refl _,rfl⟩
end Go.Wor
namespace Go.Wor
open Go.Ab Go.Proofs Go.Gat Go.Nam Go.Hos Go.Con Go.Sna Go.Pla Go.Dep
open Go.Hy hiding encI
abbrev zmp:C:=.agg [I 5,Tx [],Tx [],Tx [],I 0,I 0,I 0,.lst 1 0 [],.lst 1 0 [],.lst 1 0 []]
theorem WC.zl7 {a b:List C} (h:WCs a b):WC (.agg a) (.agg b):=fun E y hl=>by
 cases hl with
 | agg cs ys h1 h2 h3=>
  have h:=(h.LL (E:=E) (ys:=ys.toList) ⟨by simpa using h1,fun i c y e1 e2=>h2 i c y e1 (by simpa using e2)⟩)
  exact .agg b ys (by simpa using h.1) (fun i c y e1 e2=>h.2 i c y e1 (by simpa using e2)) h3
theorem kI {n:Nat} {w w':Wor} {t:Int} {o:Opn} {m m':Mac} {given:List Ans} (hb:zb Tryz.prog 18 [] [I t,.agg (yL o),lA given] (Sm m) []) (hg:zch n w m w' m') (hn:n<=10000):zb Tryz.prog 35 [] [Sw w,I t,.agg (yL o),lA given] (.tup [Sw w',.agg (yJ m'.answer),I n]) []:=by
 refine zb.zk (fn:=Tryz.f35) Tryz.func35 rfl ?_
 conv=>whnf
 refine ⟨_,_,(hb).frame rfl _,?_⟩;refine dd ?_
 refine zH.inv (fun i t1 H1=>∃ (k:Nat) (wk:Wor) (mk:Mac),k+i=n∧zch i wk mk w' m'∧t1=[.za,.za,.za,.za,.ref 0 [] 8 0 0,.za,.ref 1 [] 10 0 0,.za,.ref 2 [] 8 0 0,.ref 3 [] 13 0 0,I 0,.ref 4 [] 44 0 0,.ref 5 [] 8 0 0,.za,.za,.za,.za,.za,.za,.za,.za,.za,I k,.za,.za,.za,.za,.za,.za,.za,.za,.za,.za,.za,.za,.za,.za,.za,.za,.za,.za,.za,.za,.za,.za,.za,.za]∧H1=[⟨1,28,8,[z7 (w)],0⟩,⟨1,35,10,[yL o],0⟩,⟨1,28,8,[[I 0,I 0,I 0,.lst 1 0 [],.lst 1 0 [],.lst 1 0 [],.lst 1 0 [],.lst 1 0 []]],0⟩,⟨1,41,13,[yJ ⟨0,0,0,0,0,0,0,zdG⟩],0⟩,⟨1,43,44,[zM (mk)],0⟩,⟨1,28,8,[z7 (wk)],0⟩]) n ?_ ?_
 ·exact ⟨_,_,cC,0,w,m,by simp,hg,rfl,rfl⟩
 rintro i _ _ ⟨k,wk,mk,hk,hg,rfl,rfl⟩
 have hi:1<=i:=by cases hg <;> omega
 conv=>whnf
 (refine ⟨fun _=>?_,fun h=>absurd h (by simp;omega)⟩);refine dd ?_
 cases hg with
 | last h he hd=>
  refine ⟨_,_,(h).frame rfl _,?_⟩;refine dd ?_
  refine ⟨fun h=>absurd h (by simpa using he),fun _=>?_⟩
  refine dd ?_
  refine .inl ⟨⟨false,[0,1],[6,7],[]⟩,by kernel_rfl,?_⟩;(conv=>whnf)
  repeat (refine ⟨rfl,?_⟩;conv=>whnf)
  refine ⟨fun _=>?_,fun h=>absurd ((hd).symm.trans h:true=false) (by decide)⟩;refine dd ?_
  refine .inl ⟨⟨false,[0,2],[4,5],[]⟩,by kernel_rfl,?_⟩;(conv=>whnf)
  repeat (refine ⟨rfl,?_⟩;conv=>whnf)
  refine .inr ⟨by simp,?_⟩
  conv=>whnf
  rw [zo (by omega),hk]
  exact ⟨.inl rfl,_,.refl _,rfl⟩
 | more h he hd hg=>
  refine ⟨_,_,(h).frame rfl _,?_⟩;refine dd ?_
  refine ⟨fun h=>absurd h (by simpa using he),fun _=>?_⟩
  refine dd ?_
  refine .inl ⟨⟨false,[0,1],[6,7],[]⟩,by kernel_rfl,?_⟩;(conv=>whnf)
  repeat (refine ⟨rfl,?_⟩;conv=>whnf)
  refine ⟨fun h=>absurd ((hd).symm.trans h:false=true) (by decide),fun _=>?_⟩;refine dd ?_
  rw [zo (by omega)]
  exact .inl ⟨rfl,_,_,_,Nat.lt_succ_self _,cE 6,k+1,_,_,by omega,hg,rfl,rfl⟩
end Go.Wor
namespace Go.Wor
open Go.Ab Go.Proofs Go.Gat Go.Nam Go.Hos Go.Con Go.Sna Go.Pla
open Go.Hy hiding encI
end Go.Wor
namespace Go.Wor
open Go.Ab Go.Proofs Go.Gat Go.Nam Go.Hos Go.Con Go.Sna Go.Pla
open Go.Hy hiding encI
theorem znz {α:Type} (f:α->Nat) (l:List α) {k:Nat} (h:k < l.length):((l.take (k+1)).map f).sum=((l.take k).map f).sum+f l[k]:=by
 rw [List.take_succ_eq_append_getElem h,List.map_append,List.sum_append]
 simp
theorem zmK {α:Type} (f:α->Nat) (b:Nat):∀ (l:List α),(∀ x ∈ l,f x<=b)->(l.map f).sum<=l.length * b
 | [],_=>by simp
 | x::l,h=>by
  have:=zmK f b l fun y hy=>h y (List.mem_cons_of_mem _ hy)
  have:=h x (List.mem_cons_self ..)
  rw [List.map_cons,List.sum_cons,List.length_cons,Nat.add_mul]
  omega
theorem ziq {α:Type} (f:α->Nat) (b:Nat) (l:List α) (h:∀ x ∈ l,f x<=b) (k:Nat):((l.take k).map f).sum<=l.length * b:=
 Nat.le_trans (zmK f b _ fun x hx=>h x (List.mem_of_mem_take hx)) (Nat.mul_le_mul_right _ (by rw [List.length_take];omega))
def qS (w:Wor) (r:Ret):Nat:=if 0<=r.version∧r.version < w.zd.length then qR w r else 0
def zmF (w:Wor):Nat:=5+w.pins.length+3 * w.zc.length+(w.zg.map (qS w)).sum
structure zmZ (w:Wor):Prop where
 pins:w.pins.length<=1000
 zc:w.zc.length<=1000
 zg:w.zg.length<=1000
 xj:w.zd.length<=1000∧∀ v ∈ w.zd,zix v
theorem zlW {w:Wor} (h:zmZ w) (r:Ret):qS w r<=1000002:=by
 unfold qS
 split
 ·unfold qR
  split
  ·rename_i v hv
   have f:=h.xj.2 v (List.mem_of_getElem? hv)
   have:=zcD v.zm f.ends
   have:=f.zm
   unfold qj
   omega
  ·omega
 ·omega
theorem zfj (w:Wor) (hw:zmZ w):zb Tryz.prog 28 [] [Cw w] (I (zmF w)) []:=by
 have m1:(w.pins.map Go.Hy.encI).length=w.pins.length:=List.length_map ..
 have m2:(w.zd.map qm).length=w.zd.length:=List.length_map ..
 have m3:(w.zc.map q8).length=w.zc.length:=List.length_map ..
 have m4:(w.zg.map qL).length=w.zg.length:=List.length_map ..
 have b1:=hw.pins
 have b2:=hw.xj.1
 have b3:=hw.zc
 have b4:=hw.zg
 refine zb.zk (fn:=Tryz.f28) Tryz.func28 rfl ?_
 conv=>whnf
 rw [m1,m3,m4]
 have e1:IntKind.i64.wrap (IntKind.i64.wrap (5+(w.pins.length:Int))+IntKind.i64.wrap (3 * (w.zc.length:Int)))=((5+w.pins.length+3 * w.zc.length+0:Nat):Int):=by
  rw [ql (n:=5+(w.pins.length:Int)) (by omega) (by omega),ql (n:=3 * (w.zc.length:Int)) (by omega) (by omega),ql (by omega) (by omega)]
  omega
 rw [e1]
 refine zH.seq w.zg.length (fun k=>[.za,.ref 0 [] 8 0 0,I 0,I (5+w.pins.length+3 * w.zc.length+((w.zg.take k).map (qS w)).sum:Nat),.za,.za,.za,.za,.za,.za,.za,.za,.za,.za,.za,.za,lR w.zg,I w.zg.length,I k,.za,.za,.za,.za,.za,.za,.za,.za,.za,.za,.za,.za,.za,.za,.za,.za,.za,.za,.za,.za,.za,.za,.za,.za,.za,.za]) (fun k=>[⟨1,28,8,[z7 w],0⟩]) (fun k=>True) ?_ trivial (fun k hk _=>?_) (fun _=>?_)
 ·exact cC
 ·obtain ⟨x,hx⟩:∃ x,x=w.zg[k]:=⟨_,rfl⟩
  have hg:(w.zg.map qL)[k]?= some (qL x):=by rw [List.getElem?_map,List.getElem?_eq_getElem hk,hx];rfl
  have sk:=znz (qS w) w.zg hk
  rw [<- hx] at sk
  have sb:=ziq (qS w) 1000002 w.zg (fun r _=>zlW hw r) k
  have sc:=ziq (qS w) 1000002 w.zg (fun r _=>zlW hw r) (k+1)
  have no:¬(0<=x.version∧x.version < w.zd.length)->((w.zg.take (k+1)).map (qS w)).sum=((w.zg.take k).map (qS w)).sum:=fun h=>by rw [sk];unfold qS;rw [if_neg h];rfl
  conv=>whnf
  (refine ⟨fun _=>?_,fun h=>absurd h (by simp;omega)⟩);refine dd ?_
  (refine ⟨by omega,_,by rw [toNat_cast];exact hg,?_⟩);refine dd ?_
  refine ⟨fun c1=>?_,fun c1=>?_⟩
  ·refine dd ?_
   rw [m2]
   refine ⟨fun c2=>?_,fun c2=>?_⟩
   ·refine dd ?_
    have c1:0<=x.version:=by simpa using c1
    have c2:x.version < w.zd.length:=by simpa using c2
    obtain ⟨v,hv⟩:∃ v,w.zd[x.version.toNat]?= some v:=⟨_,List.getElem?_eq_getElem (by omega)⟩
    have hgv:(w.zd.map qm)[x.version.toNat]?= some (qm v):=by rw [List.getElem?_map,hv];rfl
    have q:qS w x=2+(qj v).length:=by unfold qS;rw [if_pos ⟨c1,c2⟩];unfold qR;rw [hv]
    (try (repeat ((first | apply ya | apply yb);refine dd ?_)))
    refine ⟨c1,_,hgv,?_⟩
    refine dd ?_
    refine ⟨_,_,(zbq v (hw.xj.2 v (List.mem_of_getElem? hv))).frame rfl _,?_⟩;refine dd ?_
    have e2:IntKind.i64.wrap (((5+w.pins.length+3 * w.zc.length+((w.zg.take k).map (qS w)).sum:Nat):Int)+IntKind.i64.wrap (2+((qj v).length:Int)))=((5+w.pins.length+3 * w.zc.length+((w.zg.take (k+1)).map (qS w)).sum:Nat):Int):=by
     rw [ql (n:=2+((qj v).length:Int)) (by omega) (by omega),ql (by omega) (by omega)]
     omega
    rw [e2,zo (by omega)]
    refine .inl ⟨rfl,?_,trivial⟩
    exact cE 1
   ·refine dd ?_
    (try (repeat ((first | apply ya | apply yb);refine dd ?_)))
    rw [zo (by omega),<- no (fun h=>by simp at c2;omega)]
    refine .inl ⟨rfl,?_,trivial⟩
    exact cE 1
  ·refine dd ?_
   (try (repeat ((first | apply ya | apply yb);refine dd ?_)))
   rw [zo (by omega),<- no (fun h=>by simp at c1;omega)]
   refine .inl ⟨rfl,?_,trivial⟩
   exact cE 1
 ·(conv=>whnf);(refine ⟨fun h=>absurd h (by simp),fun _=>?_⟩);refine dd ?_;(refine ⟨by simp,?_⟩);(conv=>whnf)
  rw [List.take_length]
  exact ⟨.inl rfl,_,.refl _,rfl⟩
end Go.Wor
namespace Go.Wor
open Go.Ab Go.Proofs Go.Gat Go.Nam Go.Hos Go.Con Go.Sna Go.Pla
open Go.Hy hiding encI
def qH:Nat->Wor->Wor
 | 0,w=>w
 | n+1,w=>xn (qH n w)
theorem zmw (w:Wor) (r:Ret):qR (xo w) (goR w r)=qR w r:=by
 have hv:(goR w r).version=r.version:=by unfold goR;split <;> rfl
 unfold qR
 rw [hv]
 show (match (w.zd.mapIdx (fun k v=>{ v with jn:=jM (w.zg.map (goR w)) k }))[r.version.toNat]? with | some v=>_ | none=>_)=_
 rw [List.getElem?_mapIdx]
 cases w.zd[r.version.toNat]? <;> rfl
theorem zjp (w:Wor):qO (xo w)=qO w:=by
 have e:(w.zg.map (goR w)).map (qR (xo w))=w.zg.map (qR w):=by
  rw [List.map_map]
  exact List.map_congr_left fun r _=>zmw w r
 unfold qO zbe
 show 5+w.pins.length+3 * (w.zc.map xf).length+(((w.zg.map (goR w)).drop 0).map (qR (xo w))).sum=_
 rw [List.length_map,List.drop_zero,List.drop_zero,e]
theorem zhU (w:Wor):qO (xn w)=qO w:=by
 unfold xn
 split
 ·exact zjp w
 ·rfl
theorem zjU (w:Wor):(xn w).current=w.current:=by
 unfold xn
 split <;> rfl
theorem vQ (w:Wor):∀ n,qO (qH n w)=qO w
 | 0=>rfl
 | n+1=>(zhU _).trans (vQ w n)
theorem zfO (w:Wor):∀ n,(qH n w).current=w.current
 | 0=>rfl
 | n+1=>(zjU _).trans (zfO w n)
theorem zaM {N K:Nat} {w:Wor} (st:St N K w):∀ n,N+n * qO w<=100000000->∃ K',St (N+n * qO w) K' (qH n w)
 | 0,_=>⟨K,by rw [Nat.zero_mul];exact st⟩
 | n+1,h=>by
  rw [Nat.add_mul] at h ⊢
  obtain ⟨K',s⟩:=zaM st n (by omega)
  have e:=vQ w n
  obtain ⟨_,_,K2,_,_,_,h4⟩:=zdS s (by rw [e];omega)
  rw [e] at h4
  exact ⟨K2,h4.mono (by omega) (Nat.le_refl _)⟩
theorem ziY {N K:Nat} {w:Wor} (h:Idl w) (st:St N K w) (hN:N+qO w<=100000000) (he:w.zi<=1000000):Qui (qH 3 w):=by
 have e1:qH 1 w=xo w:=by
  show xn w=_
  unfold xn
  rw [if_pos h.lock]
 obtain ⟨_,s⟩:=zaM st 1 (by omega)
 rw [e1] at s
 have h1:=h.col (by omega)
 have h2:=h.znD st.jm he s.jm
 have e2:qH 2 w=xo (xo w):=by
  show xn (qH 1 w)=_
  rw [e1]
  unfold xn
  rw [if_pos h1.1.lock]
 show Qui (xn (qH 2 w))
 rw [e2]
 unfold xn
 rw [if_pos h2.lock]
 refine h2.col ?_
 rw [(h1.1.col (by rw [h1.2];omega)).2,h1.2]
 omega
def yZ (w:Wor) (n:Int):Wor × Int:=if qw w=true∧0<=n∧n<=10 then (qH n.toNat w,0) else (yx,1)
end Go.Wor
namespace Go.Wor
open Go.Ab Go.Proofs Go.Gat Go.Nam Go.Hos Go.Con Go.Sna Go.Pla Go.Dep
open Go.Hy hiding encI
theorem ziG:zb Tryz.prog 18 [] [I 0,.agg (yL opC),lA []] (Sm zga) []:=by
 have h:=Beg.zbk 0 opC [] (by decide)
 have e:Beg.wJ 0 opC []=zga:=by rw [zfE];rfl
 rw [e] at h
 exact h
theorem ziB {n:Nat} {w w':Wor} {m':Mac} (hg:zch n w zga w' m') (hn:n<=10000):zb Tryz.prog 35 [] [Sw w,I 0,zmp,.lst 1 0 []] (.tup [Sw w',.agg (yJ m'.answer),I n]) []:=
 (kI (given:=[]) ziG hg hn).pre (.cons (.refl _) (.cons (.refl _) (.cons (WC.zl7 (.cons (.refl _) (.cons (.refl _) (.cons (.refl _) (.cons (.refl _) (.cons (.refl _) (.cons (.refl _) (.cons (.refl _) (.cons (WC.nil 0 1) (.cons (WC.nil 0 4) (.cons (WC.nil 0 4) .nil))))))))))) (.cons (WC.nil 0 13) .nil))))
theorem zfr (w:Wor) (n:Int) (ok:OkW w) (hg:qw w=true->∀ k:Nat,k < 10->∃ j m',zch j (qH k w) zga (qH (k+1) w) m'∧j<=10000):zb Tryz.prog 32 [] [Sw w,I n] (.tup [Sw (yZ w n).1,I (yZ w n).2]) []:=by
 have no:¬(qw w=true∧0<=n∧n<=10)->yZ w n=(yx,1):=fun h=>if_neg h
 refine zb.zk (fn:=Tryz.f32) Tryz.func32 rfl ?_
 conv=>whnf
 refine ⟨_,_,(y6 w ok).frame rfl _,?_⟩;refine dd ?_
 refine ⟨fun h1=>?_,fun h1=>?_⟩
 rotate_left
 ·rw [no (by rintro ⟨h,_⟩;rw [h] at h1;cases h1)]
  refine dd ?_
  (try (repeat ((first | apply ya | apply yb);refine dd ?_)))
  exact ⟨.inl rfl,_,zj.var 1 rfl rfl rfl (.cons (.refl _) (.cons (.refl _) (.cons (.refl _) (.cons (WC.nil 0 1) (.cons (WC.nil 0 5) (.cons (WC.nil 0 4) (.cons (WC.nil 0 1) (.cons (WC.nil 0 3) .nil)))))))),rfl⟩
 have hw:=h1
 refine dd ?_
 refine ⟨fun h2=>?_,fun h2=>?_⟩
 ·have h2:n < 0:=by simpa using h2
  rw [no (by omega)]
  refine dd ?_
  (try (repeat ((first | apply ya | apply yb);refine dd ?_)))
  exact ⟨.inl rfl,_,zj.var 1 rfl rfl rfl (.cons (.refl _) (.cons (.refl _) (.cons (.refl _) (.cons (WC.nil 0 1) (.cons (WC.nil 0 5) (.cons (WC.nil 0 4) (.cons (WC.nil 0 1) (.cons (WC.nil 0 3) .nil)))))))),rfl⟩
 have h2:0<=n:=by simpa using h2
 refine dd ?_
 refine ⟨fun h3=>?_,fun h3=>?_⟩
 ·have h3:10 < n:=by simpa using h3
  rw [no (by omega)]
  refine dd ?_
  (try (repeat ((first | apply ya | apply yb);refine dd ?_)))
  exact ⟨.inl rfl,_,zj.var 1 rfl rfl rfl (.cons (.refl _) (.cons (.refl _) (.cons (.refl _) (.cons (WC.nil 0 1) (.cons (WC.nil 0 5) (.cons (WC.nil 0 4) (.cons (WC.nil 0 1) (.cons (WC.nil 0 3) .nil)))))))),rfl⟩
 have h3:n<=10:=by simpa using h3
 obtain ⟨N,rfl⟩:∃ N:Nat,n=N:=⟨n.toNat,by omega⟩
 have e:yZ w N=(qH N w,0):=by unfold yZ;rw [if_pos ⟨hw,h2,h3⟩,Int.toNat_natCast]
 rw [e]
 refine dd ?_
 refine zH.seq N (fun k=>[.za,.za,.ref 0 [] 8 0 0,.za,.ref 1 [] 8 0 0,I 0,.za,.za,.za,.za,.za,.za,.za,.za,.za,.za,.za,.za,I N,I k,.za,.za,.za,.za,.za,.za,.za,.za,.za,.za]) (fun k=>[⟨1,28,8,[z7 (qH k w)],0⟩,⟨1,28,8,[[I 0,I 0,I 0,.lst 1 0 [],.lst 1 0 [],.lst 1 0 [],.lst 1 0 [],.lst 1 0 []]],0⟩]) (fun k=>True) ?_ trivial (fun k hk _=>?_) (fun _=>?_)
 ·exact cC
 ·obtain ⟨j,m',hj,hj2⟩:=hg hw k (by omega)
  conv=>whnf
  (refine ⟨fun _=>?_,fun h=>absurd h (by simp;omega)⟩);refine dd ?_
  refine ⟨_,_,(ziB hj hj2).frame rfl _,?_⟩;refine dd ?_
  refine .inl ⟨rfl,?_,trivial⟩
  rw [zo (by omega)]
  exact cE 2
 ·(conv=>whnf);(refine ⟨fun h=>absurd h (by simp),fun _=>?_⟩);refine dd ?_;(refine ⟨by simp,?_⟩);(conv=>whnf)
  exact ⟨.inl rfl,_,.refl _,rfl⟩
theorem vw {w:Wor} {K:Nat} (n:Int) (ok:OkW w) (h:qw w=true->St 60 K w∧qO w<=10000):zb Tryz.prog 32 [] [Sw w,I n] (.tup [Sw (yZ w n).1,I (yZ w n).2]) []:=by
 refine zfr w n ok fun hw k hk=>?_
 obtain ⟨st,hs⟩:=h hw
 have hm:(k+1) * qO w<=10 * 10000:=Nat.mul_le_mul (by omega) hs
 rw [Nat.add_mul] at hm
 obtain ⟨K',s⟩:=zaM st k (by omega)
 obtain ⟨j,m',_,h1,_,h3,_⟩:=zdS s (by rw [vQ];omega)
 rw [vQ] at h3
 exact ⟨j,m',h1,by omega⟩
end Go.Wor
namespace Go.Wor
open Go.Ab Go.Proofs Go.Gat Go.Nam Go.Hos Go.Con Go.Sna Go.Pla
open Go.Hy hiding encI
abbrev Csr (s:Scr):C:=.agg (qk s)
def znm (s:Scr):Nat:=(s.threads.map fun l=>l.length).sum
def zni (s:Scr):Int:=IntKind.i64.wrap ((znm s:Int) * IntKind.i64.wrap (IntKind.i64.wrap (IntKind.i64.wrap (23 * (znm s:Int))+IntKind.i64.wrap (6 * (s.threads.length:Int)))+60))
structure WkC (s:Scr):Prop where
 threads:s.threads.length<=1000
 ops:∀ l ∈ s.threads,l.length<=1000
theorem zhy (s:Scr) (hs:WkC s):zb Tryz.prog 30 [] [Csr s] (I (zni s)) []:=by
 have m1:(s.threads.map xd).length=s.threads.length:=List.length_map ..
 have b1:=hs.threads
 refine zb.zk (fn:=Tryz.f30) Tryz.func30 rfl ?_
 conv=>whnf
 rw [m1]
 refine zH.seq s.threads.length (fun k=>[.za,.ref 0 [] 5 0 0,I 0,I (((s.threads.take k).map fun l=>l.length).sum:Nat),.za,.za,.za,zj9 s.threads,I s.threads.length,I k,.za,.za,.za,.za,.za,.za,.za,.za,.za,.za,.za,.za,.za,.za,.za,.za,.za,.za]) (fun k=>[⟨1,54,5,[qk s],0⟩]) (fun k=>True) ?_ trivial (fun k hk _=>?_) (fun _=>?_)
 ·exact cC
 ·obtain ⟨x,hx⟩:∃ x,x=s.threads[k]:=⟨_,rfl⟩
  have hg:(s.threads.map xd)[k]?= some (xd x):=by rw [List.getElem?_map,List.getElem?_eq_getElem hk,hx];rfl
  have m2:(x.map yL).length=x.length:=List.length_map ..
  have sk:=znz (fun l:List Opn=>l.length) s.threads hk
  rw [<- hx] at sk
  have sb:=ziq (fun l:List Opn=>l.length) 1000 s.threads hs.ops k
  have sc:=ziq (fun l:List Opn=>l.length) 1000 s.threads hs.ops (k+1)
  conv=>whnf
  (refine ⟨fun _=>?_,fun h=>absurd h (by simp;omega)⟩);refine dd ?_
  (refine ⟨by omega,_,by rw [toNat_cast];exact hg,?_⟩);refine dd ?_
  rw [m2]
  have e2:IntKind.i64.wrap (((((s.threads.take k).map fun l=>l.length).sum:Nat):Int)+(x.length:Int))=((((s.threads.take (k+1)).map fun l=>l.length).sum:Nat):Int):=by
   rw [ql (by omega) (by omega)]
   omega
  rw [e2,zo (by omega)]
  refine .inl ⟨rfl,?_,trivial⟩
  exact cE 1
 ·(conv=>whnf);(refine ⟨fun h=>absurd h (by simp),fun _=>?_⟩);refine dd ?_;(refine ⟨by simp,?_⟩);(conv=>whnf)
  rw [m1,List.take_length]
  exact ⟨.inl rfl,_,.refl _,rfl⟩
def zfF (o:Opn):Bool:=wK o.config || decide (100 < o.host.length) || decide (100 < o.path.length)
def zew (l:List Opn):Bool:=decide (40 < l.length) || l.any zfF
def zcl (s:Scr):Bool:=wK s.first || decide (20 < s.threads.length) || decide (5000 < s.xP.length) || s.threads.any zew
structure WkB (s:Scr):Prop where
 first:s.first.zc.length < 4000000000000000000∧s.first.zp.length < 4000000000000000000∧s.first.zf.length < 4000000000000000000
 threads:s.threads.length < 4000000000000000000
 ops:∀ l ∈ s.threads,l.length < 4000000000000000000∧∀ o ∈ l,o.config.zc.length < 4000000000000000000∧o.config.zp.length < 4000000000000000000∧o.config.zf.length < 4000000000000000000
theorem zgP (s:Scr) (hs:WkB s):zb Tryz.prog 24 [] [Csr s] (Bo (zcl s)) []:=by
 have m1:(s.threads.map xd).length=s.threads.length:=List.length_map ..
 have m2:(s.xP.map Go.Hy.encI).length=s.xP.length:=List.length_map ..
 have b1:=hs.threads
 refine zb.zk (fn:=Tryz.f24) Tryz.func24 rfl ?_
 conv=>whnf
 refine ⟨_,_,(zdO s.first hs.first.1 hs.first.2.1 hs.first.2.2).frame rfl _,?_⟩;refine dd ?_
 (refine ⟨fun a1=>?_,fun a1=>?_⟩);(focus ((have e:zcl s=true:=(by (try simp at a1);simp [zcl];first | omega | (rw [a1];simp)));(rw [e]);refine dd ?_;(try (repeat ((first | apply ya | apply yb);refine dd ?_)));exact ⟨.inl rfl,_,.refl _,rfl⟩));refine dd ?_
 rw [m1]
 (refine ⟨fun a2=>?_,fun a2=>?_⟩);(focus ((have e:zcl s=true:=(by (try simp at a2);simp [zcl];first | omega | (rw [a2];simp)));(rw [e]);refine dd ?_;(try (repeat ((first | apply ya | apply yb);refine dd ?_)));exact ⟨.inl rfl,_,.refl _,rfl⟩));refine dd ?_
 rw [m2]
 (refine ⟨fun a3=>?_,fun a3=>?_⟩);(focus ((have e:zcl s=true:=(by (try simp at a3);simp [zcl];first | omega | (rw [a3];simp)));(rw [e]);refine dd ?_;(try (repeat ((first | apply ya | apply yb);refine dd ?_)));exact ⟨.inl rfl,_,.refl _,rfl⟩));refine dd ?_
 have eS:zcl s=s.threads.any zew:=by
  unfold zcl
  simp at a2 a3
  rw [a1,decide_eq_false (by omega),decide_eq_false (by omega)]
  rfl
 refine zH.seq s.threads.length (fun k=>(.za::.ref 0 [] 5 0 0::Bo false::I k:: .za::.za::.za::.za::.za::.za::.za::.za::.za::.za::.za::.za::.za::.za::.za::.za::.za::.za::.za::.za::.za::.za::.za::.za::.za::.za::.za::.za::.za::.za::.za::.za::.za::.za::.za::.za::.za::.za::.za::.za::.za::.za::.za::.za::.za::.za::.za::.za::.za::.za::.za::.za::.za::.za::.za::.za::.za::.za::.za::.za::.za::.za::.za::.za::[])) (fun k=>[⟨1,54,5,[qk s],0⟩]) (fun k=>∀ j,(h:j < s.threads.length)->j < k->zew s.threads[j]=false) ?_ (by simp) (fun k hk hr=>?_) (fun hr=>?_)
 ·exact cC
 ·obtain ⟨x,hx⟩:∃ x,x=s.threads[k]:=⟨_,rfl⟩
  have hxm:x ∈ s.threads:=by rw [hx];exact List.getElem_mem hk
  have hg:(s.threads.map xd)[k]?= some (xd x):=by rw [List.getElem?_map,List.getElem?_eq_getElem hk,hx];rfl
  have m3:(x.map yL).length=x.length:=List.length_map ..
  have bad:zew x=true->zcl s=true:=fun h=>by
   rw [eS];exact List.any_eq_true.2 ⟨x,hxm,h⟩
  have bx:=(hs.ops x hxm).1
  conv=>whnf
  rw [m1]
  (refine ⟨fun _=>?_,fun h=>absurd h (by simp;omega)⟩);refine dd ?_
  (refine ⟨by omega,_,by rw [toNat_cast];exact hg,?_⟩);refine dd ?_
  rw [m3]
  refine ⟨fun c1=>?_,fun c1=>?_⟩
  ·rw [bad (by unfold zew;rw [decide_eq_true (by simp at c1;omega)];rfl)]
   refine dd ?_
   (refine .inr ⟨by simp,?_⟩);(conv=>whnf)
   exact ⟨.inl rfl,_,.refl _,rfl⟩
  have eT:zew x=x.any zfF:=by unfold zew;rw [decide_eq_false (by simp at c1;omega)];rfl
  refine dd ?_
  refine zH.seq x.length (fun j=>(.za::.ref 0 [] 5 0 0::Bo false::I k::I j:: .za::.za::.za::.za::.za::.za::.za::.za::.za::.za::.za::.za::.za::.za::.za::.za::.za::.za::.za::.za::.za::.za::.za::.za::.za::.za::.za::.za::.za::.za::.za::.za::.za::.za::.za::.za::.za::.za::.za::.za::.za::.za::.za::.za::.za::.za::.za::.za::.za::.za::.za::.za::.za::.za::.za::.za::.za::.za::.za::.za::.za::.za::.za::[])) (fun j=>[⟨1,54,5,[qk s],0⟩]) (fun j=>∀ i,(h:i < x.length)->i < j->zfF x[i]=false) ?_ (by simp) (fun j hj hrj=>?_) (fun hrj=>?_)
  ·exact cC
  ·obtain ⟨o,hxo⟩:∃ o,o=x[j]:=⟨_,rfl⟩
   have hom:o ∈ x:=by rw [hxo];exact List.getElem_mem hj
   have hgo:(x.map yL)[j]?= some (yL o):=by rw [List.getElem?_map,List.getElem?_eq_getElem hj,hxo];rfl
   have bado:zfF o=true->zew x=true:=fun h=>by rw [eT];exact List.any_eq_true.2 ⟨o,hom,h⟩
   have bo:=(hs.ops x hxm).2 o hom
   conv=>whnf
   (refine ⟨by omega,_,by rw [toNat_cast];exact hg,?_⟩);refine dd ?_
   rw [m3]
   (refine ⟨fun _=>?_,fun h=>absurd h (by simp;omega)⟩);refine dd ?_
   (refine ⟨by omega,_,by rw [toNat_cast];exact hg,?_⟩);refine dd ?_
   (refine ⟨by omega,_,by rw [toNat_cast];exact hgo,?_⟩);refine dd ?_
   refine ⟨_,_,(zdO o.config bo.1 bo.2.1 bo.2.2).frame rfl _,?_⟩;refine dd ?_
   (refine ⟨fun d1=>?_,fun d1=>?_⟩);(focus ((rw [bad (bado (by (try simp at d1);simp [zfF];first | omega | (rw [d1];simp)))]);refine dd ?_;(try (repeat ((first | apply ya | apply yb);refine dd ?_)));(refine .inr ⟨by simp,?_⟩);(conv=>whnf);(try (refine .inr ⟨by simp,?_⟩);(conv=>whnf));exact ⟨.inl rfl,_,.refl _,rfl⟩));refine dd ?_
   (refine ⟨fun d2=>?_,fun d2=>?_⟩);(focus ((rw [bad (bado (by (try simp at d2);simp [zfF];first | omega | (rw [d2];simp)))]);refine dd ?_;(try (repeat ((first | apply ya | apply yb);refine dd ?_)));(refine .inr ⟨by simp,?_⟩);(conv=>whnf);(try (refine .inr ⟨by simp,?_⟩);(conv=>whnf));exact ⟨.inl rfl,_,.refl _,rfl⟩));refine dd ?_
   (refine ⟨fun d3=>?_,fun d3=>?_⟩);(focus ((rw [bad (bado (by (try simp at d3);simp [zfF];first | omega | (rw [d3];simp)))]);refine dd ?_;(try (repeat ((first | apply ya | apply yb);refine dd ?_)));(refine .inr ⟨by simp,?_⟩);(conv=>whnf);(try (refine .inr ⟨by simp,?_⟩);(conv=>whnf));exact ⟨.inl rfl,_,.refl _,rfl⟩));refine dd ?_
   refine .inl ⟨rfl,?_,fun i hi hij=>?_⟩
   ·rw [zo (by omega)]
    exact cE 1
   ·by_cases e:i=j
    ·subst e;rw [<- hxo];simp at d2 d3;simp [zfF,d1];omega
    ·exact hrj i hi (by omega)
  ·have no:zew x=false:=by
    rw [eT,List.any_eq_false]
    intro y hy
    obtain ⟨i,hi,rfl⟩:=List.mem_iff_getElem.1 hy
    simp [hrj i hi hi]
   conv=>whnf
   (refine ⟨by omega,_,by rw [toNat_cast];exact hg,?_⟩);refine dd ?_
   rw [m3]
   refine ⟨fun h=>absurd h (by simp),fun _=>?_⟩
   refine dd ?_
   refine ⟨by simp,?_⟩
   conv=>whnf
   refine .inl ⟨rfl,?_,fun i hi hij=>?_⟩
   ·rw [zo (by omega)]
    exact cE 1
   ·by_cases e:i=k
    ·subst e;rw [<- hx];exact no
    ·exact hr i hi (by omega)
 ·have h1:zcl s=false:=by
   rw [eS,List.any_eq_false]
   intro x hx
   obtain ⟨i,hi,rfl⟩:=List.mem_iff_getElem.1 hx
   simp [hr i hi hi]
  rw [h1]
  conv=>whnf
  rw [m1]
  refine ⟨fun h=>absurd h (by simp),fun _=>?_⟩
  refine dd ?_
  refine ⟨by simp,?_⟩
  conv=>whnf
  exact ⟨.inl rfl,_,.refl _,rfl⟩
end Go.Wor
namespace Go.Wor
open Go.Ab Go.Proofs Go.Gat Go.Nam Go.Hos Go.Con Go.Sna Go.Pla Go.Dep
open Go.Hy hiding encI
abbrev sQ:Str:=[105,110]
abbrev kF:Sna:=⟨[sQ],[⟨0,[42],[47],0⟩],[⟨[97],1,1,[true,true]⟩]⟩
abbrev zfv:Ver:=⟨kF,[⟨0,[⟨1,[-1],0⟩,⟨1,[-1],0⟩]⟩],false⟩
abbrev yN:Wor:=⟨0,1,0,[0],[zfv,zfv],[⟨sQ,true,0,false⟩],[[0,0,0,0,0,0]],[⟨0,0,false⟩]⟩
theorem smQ:yn kF:=⟨⟨by simp,fun x hx=>by rw [List.mem_singleton.1 hx];simp⟩,⟨by simp,fun x hx=>by rw [List.mem_singleton.1 hx];simp⟩,⟨by simp,fun x hx=>by rw [List.mem_singleton.1 hx];simp⟩⟩
theorem zh7:zS kF=(zfv,0):=by rfl
theorem zhz:zb Tryz.prog 80 [] [Cs kF,lT [sQ],I 1] (.tup [.agg ([I 0,I 0,I 0,.lst 0 1 [[I 0]],.lst 1 5 [qm zfv],.sl 0 [] 4 0 1 false,lCo [[0,0,0,0,0,0]],.lst 0 3 []]),I 0]) [⟨2,95,4,[q8 (xN sQ)],0⟩]:=by
 have cs:=yQ kF smQ
 rw [zh7] at cs
 have cs:zb Tryz.prog 112 [] [Cs kF] (.tup [Cv zfv,I 0]) []:=cs
 have hn:zb Tryz.prog 129 [] [I 1] (.tup [lCo [[0,0,0,0,0,0]],I 0]) []:=kL 1
 refine qN (fn:=Tryz.f80) Tryz.func80 rfl (by decide) ?_
 conv=>whnf
 refine ⟨_,_,(cs).frame rfl _,?_⟩;refine dd ?_
 (repeat ((first | apply ya | apply yb);refine dd ?_))
 refine ⟨_,_,(hn).frame rfl _,?_⟩;refine dd ?_
 (repeat ((first | apply ya | apply yb);refine dd ?_))
 refine .inl ⟨⟨false,[0,3],[2],[]⟩,by kernel_rfl,?_⟩;(conv=>whnf)
 refine ⟨rfl,by omega,by decide,by omega,?_⟩
 refine dd ?_
 repeat (refine ⟨rfl,?_⟩;conv=>whnf)
 refine w9.ofN 2 (LoopN.step ?_)
 conv=>whnf
 (repeat ((first | apply ya | apply yb);refine dd ?_))
 refine ⟨by decide,_,rfl,?_⟩
 refine dd ?_
 refine ⟨_,_,(ju sQ (by decide)).frame rfl _,?_⟩;refine dd ?_
 (repeat ((first | apply ya | apply yb);refine dd ?_))
 refine ⟨_,_,(zb.zfQ 9 (kD [] sQ (by decide)) rfl ?_).frame rfl _,?_⟩;(focus rfl);refine dd ?_
 (repeat ((first | apply ya | apply yb);refine dd ?_))
 refine .inr ⟨.inl rfl,by decide,by decide,?_⟩
 refine dd ?_
 refine .inl ⟨rfl,LoopN.step ?_⟩
 conv=>whnf
 refine ⟨fun h=>absurd h (by decide),fun _=>?_⟩
 refine dd ?_
 refine .inr ⟨by simp,?_⟩
 conv=>whnf
 exact ⟨.inl rfl,_,_,zj.var 1 rfl rfl rfl (.cons (.refl _) (.cons (.refl _) (.cons (.refl _) (.cons (.refl _) (.cons (.refl _) (.cons (.refl _) (.cons (.refl _) (.cons (WC.nil 0 3) .nil)))))))),rfl,zj.ren [4] [0] _ _ rfl rfl rfl rfl⟩
theorem zfe:zb Tryz.prog 64 [] [] (Cw yN) []:=by
 have cs:=yQ kF smQ
 rw [zh7] at cs
 have cs:zb Tryz.prog 112 [] [Cs kF] (.tup [Cv zfv,I 0]) []:=cs
 refine zb.zk (fn:=Tryz.f64) Tryz.func64 rfl ?_
 conv=>whnf
 refine zn [] (zb.zfQ 9 (zhz) rfl ?_) rfl rfl rfl rfl rfl rfl ?_;(focus rfl);refine dd ?_
 refine ⟨_,_,(zb.zfQ 9 (cs) rfl ?_).frame rfl _,?_⟩;(focus rfl);refine dd ?_
 refine .inl ⟨.inr rfl,.inr rfl,by decide,by decide,?_⟩
 refine dd ?_
 refine w9.ofN 2 (LoopN.step ?_)
 conv=>whnf
 (repeat ((first | apply ya | apply yb);refine dd ?_))
 refine ⟨by decide,by decide,?_⟩
 refine dd ?_
 refine ⟨_,rfl,rfl,?_⟩
 refine dd ?_
 refine .inl ⟨rfl,LoopN.step ?_⟩
 conv=>whnf
 refine ⟨fun h=>absurd h (by decide),fun _=>?_⟩
 refine dd ?_
 refine .inr ⟨by simp,?_⟩
 conv=>whnf
 refine ⟨.inl rfl,_,zj.trans (zj.zid 0 5 rfl rfl rfl rfl (fun r hr c hc=>List.all_eq_true.1 (List.all_eq_true.1 (show List.all _ (fun r=>r.all zu)=true from rfl) r hr) c hc) rfl rfl) (zj.var (r':=z7 yN) 0 rfl ?_ ?_ ?_),?_⟩
 ·rfl
 ·rfl
 ·exact .cons (.refl _) (.cons (.refl _) (.cons (.refl _) (.cons (.refl _) (.cons (WC.gl _ _ _) (.cons (.refl _) (.cons (.refl _) (.cons (WC.share _ _ _) .nil)))))))
 ·rfl
theorem zfw {w:Wor} (ok:OkW w):WkQ w:=⟨by have:=ok.zd.1;omega,fun v hv=>by have:=ok.zd.2 v hv;exact ⟨by have:=this.zm;omega,fun g hg=>by have:=(this.ends g hg).1;omega⟩,by have:=ok.pins;omega,by have:=ok.zc.1;omega,by have:=ok.zg;omega⟩
theorem zk8:En.ok ⟨1,[-1],0⟩:=⟨by decide,⟨fun x hx=>by rw [List.mem_singleton.1 hx];decide,by decide⟩,by decide⟩
theorem tyQ:TyW 60 yN:=by
 refine ⟨by decide,by decide,by decide,fun v hv=>?_,fun l hl=>?_⟩
 ·have hv:v=zfv:=by simpa using hv
  subst hv
  refine ⟨smQ,fun g hg=>?_⟩
  rw [List.mem_singleton.1 hg]
  refine ⟨by decide,fun e he=>?_⟩
  have he:e=⟨1,[-1],0⟩:=by simpa using he
  subst he
  exact zk8
 ·rw [List.mem_singleton.1 hl]
  exact ⟨by decide,by decide⟩
theorem zm9:qw yN=true:=by rfl
theorem stQ:St 60 10 yN:=by
 refine ⟨qG.1 zm9,tyQ,⟨fun l hl=>?_,fun v hv g hg e he=>?_⟩⟩
 ·rw [List.mem_singleton.1 hl]
  decide
 ·have hv:v=zfv:=by simpa using hv
  subst hv
  have hg:=List.mem_singleton.1 hg
  subst hg
  have he:e=⟨1,[-1],0⟩:=by simpa using he
  subst he
  decide
theorem okQ:OkW yN:=zec stQ.jm stQ.ty (by decide)
theorem okN:OkW yx:=⟨by decide,⟨by decide,fun _ h=>nomatch h⟩,⟨by decide,fun _ h=>nomatch h⟩,⟨by decide,fun _ h=>nomatch h⟩,by decide⟩
theorem znl (n:Nat) (h:n<=10):OkW (qH n yN):=by
 obtain ⟨K',s⟩:=zaM stQ n (by have:qO yN=13:=rfl;rw [this];omega)
 exact zec s.jm s.ty (by have:qO yN=13:=rfl;rw [this];omega)
abbrev opQ:Opn:=⟨0,[],[],[],0,0,0,⟨[],[],[]⟩⟩
abbrev znu:Scr:=⟨⟨[],[],[]⟩,[[opQ,opQ],[opQ]],[]⟩
theorem jZ:zb Tryz.prog 25 [] [] (Bo true) []:=by
 have s1:zb Tryz.prog 32 [] [Sw yN,I 1] (.tup [Sw (qH 1 yN),I 0]) []:=vw (K:=10) 1 okQ fun _=>⟨stQ,by decide⟩
 have s2:zb Tryz.prog 32 [] [Sw yN,I 2] (.tup [Sw (qH 2 yN),I 0]) []:=vw (K:=10) 2 okQ fun _=>⟨stQ,by decide⟩
 have s3:zb Tryz.prog 32 [] [Sw yN,I 11] (.tup [Sw yx,I 1]) []:=vw (K:=10) 11 okQ fun _=>⟨stQ,by decide⟩
 have s4:zb Tryz.prog 32 [] [Sw yx,I 1] (.tup [Sw yx,I 1]) []:=vw (K:=10) 1 okN fun h=>absurd (h.symm.trans (by rfl:qw yx=false)) (by decide)
 have q1:isQ (qH 1 yN)=false:=by rfl
 have q2:isQ (qH 2 yN)=true:=by rfl
 have q0:isQ yN=false:=by rfl
 have k2:(qH 2 yN).zi=2:=by rfl
 have i1:=xE _ (zfw (znl 1 (by decide)))
 have i2:=xE _ (zfw (znl 2 (by decide)))
 have i0:=xE _ (zfw okQ)
 rw [q1] at i1
 rw [q2] at i2
 rw [q0] at i0
 generalize hw1:qH 1 yN=w1 at s1 i1
 generalize hw2:qH 2 yN=w2 at s2 i2 k2
 have st:zb Tryz.prog 28 [] [Cw yN] (I 13) []:=zfj yN ⟨by decide,by decide,by decide,by decide,fun v hv=>by
  have hv:v=zfv:=by simpa using hv
  subst hv
  exact ⟨by decide,fun g hg=>by rw [List.mem_singleton.1 hg];decide⟩⟩
 have mo:zb Tryz.prog 30 [] [Csr znu] (I 423) []:=zhy znu ⟨by decide,fun l hl=>by
  have hl:l=[opQ,opQ]∨l=[opQ]:=by simpa using hl
  rcases hl with rfl | rfl <;> decide⟩
 refine zb.zk (fn:=Tryz.f25) Tryz.func25 rfl ?_
 conv=>whnf
 refine ⟨_,_,(zfe).frame rfl _,?_⟩;refine dd ?_
 refine ⟨_,_,(s1).frame rfl _,?_⟩;refine dd ?_
 refine ⟨_,_,(s2).frame rfl _,?_⟩;refine dd ?_
 refine ⟨_,_,(s3).frame rfl _,?_⟩;refine dd ?_
 refine ⟨_,_,(zb.zfQ 9 (s4) rfl ?_).frame rfl _,?_⟩;(focus rfl);refine dd ?_
 (repeat ((first | apply ya | apply yb);refine dd ?_))
 refine ⟨_,_,(i1).frame rfl _,?_⟩;refine dd ?_
 (repeat ((first | apply ya | apply yb);refine dd ?_))
 refine ⟨_,_,(i2).frame rfl _,?_⟩;refine dd ?_
 (repeat ((first | apply ya | apply yb);refine dd ?_))
 rw [k2]
 (repeat ((first | apply ya | apply yb);refine dd ?_))
 refine ⟨_,_,(i0).frame rfl _,?_⟩;refine dd ?_
 (repeat ((first | apply ya | apply yb);refine dd ?_))
 refine ⟨_,_,(st).frame rfl _,?_⟩;refine dd ?_
 (repeat ((first | apply ya | apply yb);refine dd ?_))
 refine ⟨_,_,(zb.zfQ 9 (mo) rfl ?_).frame rfl _,?_⟩;(focus rfl);refine dd ?_
 (try (repeat ((first | apply ya | apply yb);refine dd ?_)))
 exact ⟨.inl rfl,_,.refl _,rfl⟩
end Go.Wor
namespace Go.Wor
open Go.Ab Go.Proofs Go.Gat Go.Nam Go.Hos Go.Con Go.Sna Go.Pla Go.Dep
open Go.Hy hiding encI
end Go.Wor
