import Derived.Test.YtgllekalddijbaaGreatUS
import Derived.Test.YtgllekalddijbaaGreatUI
set_option linter.unusedVariables false
set_option linter.unusedSimpArgs false
set_option linter.unusedSectionVars false
set_option maxRecDepth 100000
set_option maxHeartbeats 4000000
namespace Go.Slp
open Go.Ab Go.Hy
theorem zgz {x i:Int} (h1: -1<=i) (h2:i<=2147483646):kg x i % 4294967296 - 1=i:=by unfold kg;omega
theorem zju {x i:Int} (h1: -1<=i) (h2:i<=2147483646):u64 (kg x i):=by unfold kg u64;omega
theorem zhg {e:En} (h:okV e.next (zt e)=true):j6 e=(j4 e.next (zt e) (j9 e.next (zt e)),0):=by
 unfold j6;rw [if_pos h]
theorem zgB {nx:List Int} {s p v:Int} (h:p≠s) (h1:0<=s) (h2:0<=p):nxt (nx.set s.toNat v) p=nxt nx p:=by
 unfold nxt
 rw [List.getElem?_set,if_neg (by omega)]
theorem zgA {nx:List Int} {s v:Int} (h1:0<=s) (h2:s < nx.length):nxt (nx.set s.toNat v) s=v:=by
 unfold nxt
 rw [List.getElem?_set,if_pos rfl,if_pos (by omega)]
 rfl
theorem zmB {e:En} (he:e.ok) {slot:Int} {a:En} (h:zla e slot=(a,0)):
  isV e=true∧0<=slot∧slot < e.next.length∧a=⟨kg e.head slot,e.next.set slot.toNat (zt e),e.zr⟩∧zt a=slot∧isV a=true∧a.ok∧(j6 e).2=0∧j6 a=(slot::(j6 e).1,0):=by
 unfold zla at h
 cases hv:isV e with
 | false=>rw [if_pos hv] at h;simp at h
 | true=>
  rw [if_neg (by simp [hv])] at h
  by_cases h0:slot < 0∨e.next.length<=slot
  ·rw [if_pos h0] at h;simp at h
  ·rw [if_neg h0] at h
   cases hc:(j6 e).1.contains slot with
   | true=>rw [if_pos hc] at h;simp at h
   | false=>
    rw [if_neg (by rw [hc];decide)] at h
    cases h
    obtain ⟨b1,b2,b3,b4⟩:=zlx hv
    have s1:0<=slot:=by omega
    have s2:slot < e.next.length:=by omega
    have hh:zt ⟨kg e.head slot,e.next.set slot.toNat (zt e),e.zr⟩=slot:=zgz (by omega) (by omega)
    obtain ⟨c1,c2,c3⟩:=kX e.next (zt e)
    generalize hN:j9 e.next (zt e)=N at *
    have hfr:j6 e=(j4 e.next (zt e) N,0):=by rw [zhg b1,hN]
    rw [hfr] at hc
    have hnot:∀ k,k < N->jf e.next (zt e) k≠slot∧0<=jf e.next (zt e) k:=fun k hk=>by
     constructor
     ·intro e2
      have:slot ∈ j4 e.next (zt e) N:=List.mem_map.2 ⟨k,List.mem_range.2 hk,e2⟩
      simp [this] at hc
     ·have:=c3 k hk
      simp only [xx,Bool.or_eq_false_iff,Bool.not_eq_false',inB,Bool.and_eq_true,decide_eq_true_eq] at this
      exact this.1.1
    have hpos:∀ k,k<=N->jf (e.next.set slot.toNat (zt e)) slot (k+1)=jf e.next (zt e) k:=by
     intro k
     induction k with
     | zero=>intro _;exact zgA s1 s2
     | succ k ih=>
      intro hk
      show nxt _ (jf (e.next.set slot.toNat (zt e)) slot (k+1))=nxt e.next (jf e.next (zt e) k)
      rw [ih (by omega)]
      exact zgB (hnot k (by omega)).1 s1 (hnot k (by omega)).2
    have hvis:∀ k,k<=N->j4 (e.next.set slot.toNat (zt e)) slot (k+1)=slot::j4 e.next (zt e) k:=fun k hk=>by
     unfold j4
     rw [List.range_succ_eq_map,List.map_cons,List.map_map]
     congr 1
     apply List.map_congr_left
     intro j hj
     exact hpos j (by have:=List.mem_range.1 hj;omega)
    have hin:∀ p,inB (e.next.set slot.toNat (zt e)) p=inB e.next p:=fun p=>by simp [inB]
    have hend:jf e.next (zt e) N= -1:=by
     have:okV e.next (zt e)=true:=b1
     simp only [okV,hN,beq_iff_eq] at this
     exact this
    have hcnt:j9 (e.next.set slot.toNat (zt e)) slot=N+1:=by
     refine ziZ ?_ ?_
     ·have:inB (e.next.set slot.toNat (zt e)) (jf (e.next.set slot.toNat (zt e)) slot (N+1))=false:=by rw [hpos N (Nat.le_refl _),hend,hin];simp [inB]
      simp [xx,this]
     ·intro j hj
      cases j with
      | zero=>
       simp only [xx,j4,jf,hin]
       simp [inB,s1,s2]
      | succ j=>
       have:=c3 j (by omega)
       simp only [xx,Bool.or_eq_false_iff,Bool.not_eq_false'] at this ⊢
       rw [hpos j (by omega),hvis j (by omega),hin]
       refine ⟨this.1,?_⟩
       rw [List.contains_cons,this.2]
       simp
       exact (hnot j (by omega)).1
    have hok:okV (e.next.set slot.toNat (zt e)) slot=true:=by
     simp only [okV,hcnt,hpos N (Nat.le_refl _),hend]
     rfl
    have hfa:j6 ⟨kg e.head slot,e.next.set slot.toNat (zt e),e.zr⟩=(slot::j4 e.next (zt e) N,0):=by
     rw [zhg (by rw [hh];exact hok),hh]
     show (j4 (e.next.set slot.toNat (zt e)) slot (j9 (e.next.set slot.toNat (zt e)) slot),(0:Int))=_
     rw [hcnt,hvis N (Nat.le_refl _)]
    refine ⟨rfl,s1,s2,rfl,hh,?_,⟨zju (by omega) (by omega),⟨fun x hx=>?_,by simp;exact he.2.1.2⟩,he.2.2⟩,by rw [hfr],by rw [hfa,hfr]⟩
    ·simp only [isV,hh,hok,Bool.true_and,Bool.and_eq_true,decide_eq_true_eq]
     exact ⟨⟨by simp;omega,by simp;omega⟩,b4⟩
    ·rcases List.mem_or_eq_of_mem_set hx with h | h
     ·exact he.2.1.1 x h
     ·have:=zjj e
      rw [h]
      exact ⟨by omega,by omega⟩
end Go.Slp
namespace Go.Wor
open Go.Ab Go.Proofs Go.Hy Go.Gat Go.Nam Go.Hos Go.Con Go.Sna
theorem mem_set {α:Type} {l:List α} {i:Nat} {x y:α} (h:y ∈ l.set i x):y ∈ l∨y=x:=List.mem_or_eq_of_mem_set h
theorem wj {α:Type} {l:List α} {i j:Nat} {x y:α} (h:(l.set i x)[j]?= some y):(i=j∧y=x∧i < l.length)∨(i≠j∧l[j]?= some y):=by
 rw [List.getElem?_set] at h
 split at h
 ·rename_i hij
  split at h
  ·rename_i hlt;cases h;exact .inl ⟨hij,rfl,hlt⟩
  ·cases h
 ·rename_i hij;exact .inr ⟨hij,h⟩
theorem qG.pin {w:Wor} (h:qG w) (t:Nat) {p:Int} (h0:0<=p) (h1:p<=w.zj+1):qG (zkF w t p):=by
 have g:=qb.1 h.ground
 refine ⟨qb.2 ⟨by simpa using g.pins,⟨by simpa using g.counts.1,g.counts.2⟩,g.zj,g.lock,fun q hq=>?_⟩,h.current,h.zg,h.bad,h.ver,h.lis⟩
 rcases mem_set hq with hq | rfl
 ·exact g.pin q hq
 ·exact ⟨h0,h1⟩
theorem qG.lck {w:Wor} (h:qG w) {n:Int} (h0:n=0∨n=1):qG { w with lock:=n }:=by
 have g:=qb.1 h.ground
 exact ⟨qb.2 ⟨g.pins,g.counts,g.zj,h0,g.pin⟩,h.current,h.zg,h.bad,h.ver,h.lis⟩
theorem qG.epo {w:Wor} (h:qG w) {n:Int} (h0:w.zj<=n) (h1:n<=1000000000000):qG { w with zj:=n }:=by
 have g:=qb.1 h.ground
 refine ⟨qb.2 ⟨g.pins,g.counts,⟨by have:=g.zj.1;show 0<=n;omega,h1⟩,g.lock,fun p hp=>by have:=g.pin p hp;show _∧p<=n+1;omega⟩,h.current,h.zg,fun r hr=>?_,h.ver,h.lis⟩
 have:=h.bad r hr
 unfold jP at this ⊢
 simp at this ⊢
 exact ⟨⟨this.1.1,this.1.2⟩,by omega⟩
theorem zin {l l':List Lis} (h:l.map (·.name)=l'.map (·.name)) (s:Str):qo l s=qo l' s:=by
 unfold qo
 have:l.findIdx? (fun r=>r.name == s)=l'.findIdx? (fun r=>r.name == s):=by
  have e:∀ l:List Lis,l.findIdx? (fun r=>r.name == s)=(l.map (·.name)).findIdx? (fun x=>x == s):=fun l=>by rw [List.findIdx?_map];rfl
  rw [e,e,h]
 rw [this]
theorem zh6 {l:List Lis} {i:Nat} {x y:Lis} (hx:l[i]?= some x) (h:y.name=x.name):(l.set i y).map (·.name)=l.map (·.name):=by
 rw [List.map_set]
 exact x6 _ _ (by rw [List.getElem?_map,hx,Option.map_some,h])
theorem qG.zbk {w:Wor} (h:qG w) {i:Nat} {x y:Lis} (hx:w.zc[i]?= some x) (hn:y.name=x.name) (hy:Go.Gat.isV y=true):qG { w with zc:=w.zc.set i y }:=by
 refine ⟨h.ground,h.current,h.zg,h.bad,h.ver,fun j l hl=>?_⟩
 show _∧qo (w.zc.set i y) l.name=j
 rw [zin (zh6 hx hn)]
 rcases wj hl with ⟨rfl,rfl,_⟩ | ⟨_,hl⟩
 ·rw [hn]
  exact ⟨hy,(h.lis i x hx).2⟩
 ·exact h.lis j l hl
theorem kb.zg1 {m:Mac} {v:Ver} {g:Gr} {e:En} (h:kb v) (hg:v.zk[m.zn.toNat]?= some g) (he:g.ends[m.end_.toNat]?= some e) {e':En} {tk:Int} (hi:Slp.isV e'=true) (hl:e'.next.length=e.next.length):
  kb { v with zk:=v.zk.set m.zn.toNat { g with jC:=tk,ends:=g.ends.set m.end_.toNat e' } }:=by
 refine ⟨h.snap,by simpa using h.len,fun i g2 x hg2 hx=>?_⟩
 rcases wj hg2 with ⟨rfl,rfl,_⟩ | ⟨_,hg2⟩
 ·obtain ⟨h1,h2⟩:=h.grp _ g x hg hx
  refine ⟨by simpa using h1,fun y hy=>?_⟩
  rcases mem_set hy with hy | rfl
  ·exact h2 y hy
  ·exact ⟨hi,by rw [hl];exact (h2 e (List.mem_of_getElem? he)).len⟩
 ·exact h.grp i g2 x hg2 hx
theorem qG.zg1 {w:Wor} {m:Mac} {v:Ver} {g:Gr} {e:En} (h:qG w) (hat:AtE w m v g e) {e':En} {tk:Int} (hi:Slp.isV e'=true) (hl:e'.next.length=e.next.length):
  qG { w with zd:=w.zd.set m.version.toNat { v with zk:=v.zk.set m.zn.toNat { g with jC:=tk,ends:=g.ends.set m.end_.toNat e' } } }:=by
 refine ⟨h.ground,by simpa using h.current,h.zg,fun r hr=>?_,fun i v2 hv=>?_,h.lis⟩
 ·have:=h.bad r hr
  unfold jP at this ⊢
  simpa using this
 ·rcases wj hv with ⟨rfl,rfl,_⟩ | ⟨_,hv⟩
  ·obtain ⟨h1,h2⟩:=h.ver _ v hat.at_
   exact ⟨h1.zg1 hat.atg hat.ate hi hl,h2⟩
  ·exact h.ver i v2 hv
end Go.Wor
namespace Go.Wor
open Go.Ab Go.Proofs Go.Hy Go.Gat Go.Nam Go.Hos Go.Con Go.Sna
structure Cal (K:Nat) (w:Wor):Prop where
 lis:∀ l ∈ w.zc,l.zr<=K
 ends : ∀ v ∈ w.zd, ∀ g ∈ v.zk, ∀ e ∈ g.ends, e.zr <= K
structure St (N K:Nat) (w:Wor):Prop where
 jF:qG w
 ty:TyW N w
 cal:Cal K w
theorem St.mono {N K N' K':Nat} {w:Wor} (h:St N K w) (hN:N<=N') (hK:K<=K'):St N' K' w:=
 ⟨h.jF,⟨by have:=h.ty.yc;omega,by have:=h.ty.lis;omega,by have:=h.ty.lim;omega,h.ty.okv,h.ty.okl⟩,⟨fun l hl=>by have:=h.cal.lis l hl;omega,fun v hv g hg e he=>by have:=h.cal.ends v hv g hg e he;omega⟩⟩
theorem St.pin {N K:Nat} {w:Wor} (h:St N K w) (t:Nat) {p:Int} (h0:0<=p) (h1:p<=w.zj+1):St N K (zkF w t p):=⟨h.jF.pin t h0 h1,⟨h.ty.yc,h.ty.lis,h.ty.lim,h.ty.okv,h.ty.okl⟩,⟨h.cal.lis,h.cal.ends⟩⟩
theorem St.lck {N K:Nat} {w:Wor} (h:St N K w) {n:Int} (h0:n=0∨n=1):St N K { w with lock:=n }:=⟨h.jF.lck h0,⟨h.ty.yc,h.ty.lis,h.ty.lim,h.ty.okv,h.ty.okl⟩,⟨h.cal.lis,h.cal.ends⟩⟩
theorem St.epo {N K:Nat} {w:Wor} (h:St N K w) {n:Int} (h0:w.zj<=n) (h1:n<=1000000000000):St N K { w with zj:=n }:=⟨h.jF.epo h0 h1,⟨h.ty.yc,h.ty.lis,h.ty.lim,h.ty.okv,h.ty.okl⟩,⟨h.cal.lis,h.cal.ends⟩⟩
theorem St.zbk {N K:Nat} {w:Wor} (h:St N K w) {i:Nat} {x y:Lis} (hx:w.zc[i]?= some x) (hn:y.name=x.name) (hy:Go.Gat.isV y=true) (hi:i64 y.zr) (hk:y.zr<=K):St N K { w with zc:=w.zc.set i y }:=by
 refine ⟨h.jF.zbk hx hn hy,⟨h.ty.yc,by simpa using h.ty.lis,h.ty.lim,h.ty.okv,fun l hl=>?_⟩,⟨fun l hl=>?_,h.cal.ends⟩⟩
 ·rcases mem_set hl with hl | rfl
  ·exact h.ty.okl l hl
  ·exact ⟨by rw [hn];exact (h.ty.okl x (List.mem_of_getElem? hx)).1,hi⟩
 ·rcases mem_set hl with hl | rfl
  ·exact h.cal.lis l hl
  ·exact hk
theorem St.zg1 {N K:Nat} {w:Wor} {m:Mac} {v:Ver} {g:Gr} {e:En} (h:St N K w) (hat:AtE w m v g e) {e':En} {tk:Int} (hi:Slp.isV e'=true) (hl:e'.next.length=e.next.length) (ho:e'.ok) (ht:u64 tk) (hk:e'.zr<=K):
  St N K { w with zd:=w.zd.set m.version.toNat { v with zk:=v.zk.set m.zn.toNat { g with jC:=tk,ends:=g.ends.set m.end_.toNat e' } } }:=by
 have mv:=List.mem_of_getElem? hat.at_
 have mg:=List.mem_of_getElem? hat.atg
 refine ⟨h.jF.zg1 hat hi hl,⟨by simpa using h.ty.yc,h.ty.lis,h.ty.lim,fun v2 hv=>?_,h.ty.okl⟩,⟨h.cal.lis,fun v2 hv g2 hg e2 he=>?_⟩⟩
 ·rcases mem_set hv with hv | rfl
  ·exact h.ty.okv v2 hv
  ·refine ⟨(h.ty.okv v mv).1,fun g2 hg=>?_⟩
   rcases mem_set hg with hg | rfl
   ·exact (h.ty.okv v mv).2 g2 hg
   ·refine ⟨ht,fun e2 he=>?_⟩
    rcases mem_set he with he | rfl
    ·exact ((h.ty.okv v mv).2 g mg).2 e2 he
    ·exact ho
 ·rcases mem_set hv with hv | rfl
  ·exact h.cal.ends v2 hv g2 hg e2 he
  ·rcases mem_set hg with hg | rfl
   ·exact h.cal.ends v mv g2 hg e2 he
   ·rcases mem_set he with he | rfl
    ·exact h.cal.ends v mv g mg e2 he
    ·exact hk
end Go.Wor
namespace Go.Wor
open Go.Ab Go.Proofs Go.Hy Go.Gat Go.Nam Go.Hos Go.Con Go.Sna
structure Nx (N K:Nat) (w:Wor) (m:Mac) (L:Wor->Mac->Ver->Gr->En->Prop) (F:Mac->Prop) (μ:Wor->Mac->Nat) (r:Wor × Mac × Eve):Prop where
 ev:r.2.2.access≠0
 st:St (N+1) (K+1) r.1
 pins:r.1.pins.length=w.pins.length
 tm:TyM r.2.1
 op:r.2.1.op=m.op
 go:(r.2.1.done=true∧F r.2.1)∨(∃ v g e,yi r.1 r.2.1 v g e∧L r.1 r.2.1 v g e)∧μ r.1 r.2.1 < μ w m
structure zli (w:Wor) (m:Mac) (v:Ver) (g:Gr) (e:En):Prop where
 pc:(0<=m.pc∧m.pc<=12)∨(20<=m.pc∧m.pc<=23)
 ep:m.pc=1∨m.pc=2->m.zj=w.zj
 lis:(4<=m.pc∧m.pc<=12)∨m.pc=22->0<=m.listen
 early:4<=m.pc∧m.pc<=5->m.zn=0∧m.end_=0∧m.other=0
 mid:4<=m.pc∧m.pc<=8->m.slot=0
 draw:m.pc=6->∃ c,v.snap.zf[m.zn.toNat]?= some c∧(hlt c).length≠0
 slot:m.pc=10∨m.pc=11->m.slot=zt m.word∧e.head=m.word
 link:m.pc=11->e.next[m.slot.toNat]?= some m.link
 ans:20<=m.pc->1<=m.answer.kind∧m.answer.kind<=5
 in_:(5<=m.pc∧m.pc<=12)∨(20<=m.pc∧m.pc<=22)->0<=m.listen->∃ x,w.zc[m.listen.toNat]?= some x∧1<=x.zr
def zmR (m:Mac):Prop:=1<=m.answer.kind∧m.answer.kind<=5
def muH (_:Wor) (m:Mac):Nat:=(24 - m.pc).toNat
theorem zjt {w w':Wor} {m m':Mac} (h:m.pc < m'.pc) (h2:m'.pc<=23):muH w' m' < muH w m:=by unfold muH;omega
theorem zaV (l:List Lis) (s:Str): -1<=qo l s∧qo l s < l.length:=by
 unfold qo
 cases h:l.findIdx? (fun r=>r.name == s) with
 | none=>simp only;omega
 | some i=>
  have:=(List.findIdx?_eq_some_iff_getElem.1 h).1
  simp only
  omega
theorem wg {v:Ver} (h:kb v) {k:Nat} (hk:k < v.zk.length):∃ g e,v.zk[k]?= some g∧g.ends[0]?= some e∧0 < g.ends.length∧0 < e.next.length:=by
 obtain ⟨g,hg⟩:∃ g,v.zk[k]?= some g:=⟨_,List.getElem?_eq_getElem hk⟩
 have f:=h.few.2 g (List.mem_of_getElem? hg)
 have hl:0 < g.ends.length:=by omega
 have he:g.ends[0]?= some g.ends[0]:=List.getElem?_eq_getElem hl
 exact ⟨g,g.ends[0],hg,he,hl,by have:=(f.2.2 _ (List.mem_of_getElem? he)).2.2;omega⟩
section
variable {N K:Nat} {w:Wor} {m:Mac} {v:Ver} {g:Gr} {e:En}
theorem qg {r:Wor × Mac × Eve} {P:Wor × Mac × Eve->Prop} {o:Res} (h:o=some r) (hp:P r):∃ r,o=some r∧P r:=⟨r,h,hp⟩
end
end Go.Wor
namespace Go.Wor
open Go.Ab Go.Proofs Go.Hy Go.Gat Go.Nam Go.Hos Go.Con Go.Sna
theorem zhp {l:Lis} (h:Go.Gat.isV l=true):jH l.name=true∧0<=l.zr∧(l.drain || !l.closed)=true:=by
 unfold Go.Gat.isV at h
 simp only [Bool.and_eq_true,decide_eq_true_eq] at h
 exact ⟨h.1.1,h.1.2,h.2⟩
theorem ze8 {l:Lis} (h1:jH l.name=true) (h2:0<=l.zr) (h3:(l.drain || !l.closed)=true):Go.Gat.isV l=true:=by
 unfold Go.Gat.isV
 simp only [Bool.and_eq_true,decide_eq_true_eq]
 exact ⟨⟨h1,h2⟩,h3⟩
section
variable {N K:Nat} {w:Wor} {m:Mac} {v:Ver} {g:Gr} {e:En}
theorem zmZ (st:St N K w) (su:yi w m v g e) (tm:TyM m) (lo:zli w m v g e) (hk:m.op.kind=1) (hN:N<=100000000) (p:m.pc=3):∃ r,zhl w m v g e=some r∧Nx N K w m zli zmR muH r:=by
 have gw:=st.jF
 have st1:St (N+1) (K+1) w:=st.mono (by omega) (by omega)
 have pr:=zaV w.zc m.op.listen
 have hl:=st.ty.lis
 have cu:=gw.current
 obtain ⟨v',hv'⟩:∃ v',w.zd[w.current.toNat]?= some v':=⟨_,List.getElem?_eq_getElem (by omega)⟩
 have gv:=(gw.ver _ v' hv').1
 have h0:0 < v'.zk.length:=by have:=(xR gv.snap).zf.1;have:=gv.len;omega
 obtain ⟨g',e',hg,he,l1,l2⟩:=wg gv h0
 unfold zhl
 rw [if_neg (by omega),if_pos p]
 by_cases q:qo w.zc m.op.listen < 0
 ·rw [if_pos q]
  refine qg rfl ⟨(by show (1:Int)≠0;decide),st1,rfl,⟨by show i64 (qo w.zc m.op.listen);unfold i64;omega,tm.word,tm.link,tm.host,tm.path,tm.d0,tm.d1,tm.cfg,(fun h=>absurd ((show m.op.kind=6 from h).symm.trans hk) (by decide))⟩,rfl,.inr ⟨⟨v',g',e',⟨su.world,su.zC,su.done,cu,hv',⟨Int.le_refl _,by show (0:Int) < _;omega⟩,hg,⟨Int.le_refl _,by show (0:Int) < _;omega⟩,he,⟨Int.le_refl _,by show (0:Int) < _;omega⟩,⟨Int.le_refl _,by show (0:Int) < _;omega⟩,pr,su.i,su.k⟩,⟨(by dsimp only;omega),fun h=>by dsimp only at h;omega,fun h=>by dsimp only at h;omega,fun h=>by dsimp only at h;omega,fun h=>by dsimp only at h;omega,fun h=>by dsimp only at h;omega,fun h=>by dsimp only at h;omega,fun h=>by dsimp only at h;omega,fun _=>⟨by show (1:Int)<=2;decide,by show (2:Int)<=5;decide⟩,(fun _ h=>absurd (show 0<=qo w.zc m.op.listen from h) (by omega))⟩⟩,zjt (by show m.pc < 20;omega) (by show (20:Int)<=23;decide)⟩⟩
 ·rw [if_neg q]
  refine qg rfl ⟨(by show (1:Int)≠0;decide),st1,rfl,⟨by show i64 (qo w.zc m.op.listen);unfold i64;omega,tm.word,tm.link,tm.host,tm.path,tm.d0,tm.d1,tm.cfg,tm.ans⟩,rfl,.inr ⟨⟨v',g',e',⟨su.world,su.zC,su.done,cu,hv',⟨Int.le_refl _,by show (0:Int) < _;omega⟩,hg,⟨Int.le_refl _,by show (0:Int) < _;omega⟩,he,⟨Int.le_refl _,by show (0:Int) < _;omega⟩,⟨Int.le_refl _,by show (0:Int) < _;omega⟩,pr,su.i,su.k⟩,
   ⟨(by dsimp only;omega),fun h=>by dsimp only at h;omega,fun _=>by show 0<=qo w.zc m.op.listen;omega,fun _=>⟨rfl,rfl,rfl⟩,fun _=>rfl,fun h=>by dsimp only at h;omega,fun h=>by dsimp only at h;omega,fun h=>by dsimp only at h;omega,fun h=>by dsimp only at h;omega,fun h=>by dsimp only at h;omega⟩⟩,zjt (by show m.pc < 4;omega) (by show (4:Int)<=23;decide)⟩⟩
end
end Go.Wor
namespace Go.Wor
open Go.Ab Go.Proofs Go.Hy Go.Gat Go.Nam Go.Hos Go.Con Go.Sna
section
variable {N K:Nat} {w:Wor} {m:Mac} {v:Ver} {g:Gr} {e:En}
end
end Go.Wor
namespace Go.Wor
open Go.Ab Go.Proofs Go.Hy Go.Gat Go.Nam Go.Hos Go.Con Go.Sna
def look (m:List (Int × Value)) (i:Int):Option Value:=(qC m i).bind fun j=>(m[j]?).map (·.2)
theorem zc0 (m:List (Int × Value)) (i:Int):qC m i=(m.map (·.1)).findIdx? (fun k=>decide (k=i)):=by
 unfold qC
 rw [List.findIdx?_map]
 rfl
theorem zjm (m:List (Int × Value)) (k i:Int) (v:Value):look (vg m k v) i=if k=i then some v else look m i:=by
 unfold vg
 cases hf:qC m k with
 | some j=>
  dsimp only
  obtain ⟨u,hu⟩:=xa hf
  have keys:(m.set j (k,v)).map (·.1)=m.map (·.1):=by
   rw [List.map_set]
   exact x6 _ _ (by rw [List.getElem?_map,hu];rfl)
  have e:qC (m.set j (k,v)) i=qC m i:=by rw [zc0,zc0,keys]
  unfold look
  rw [e]
  have hlt:=(List.getElem?_eq_some_iff.1 hu).1
  by_cases hki:k=i
  ·subst hki
   rw [if_pos rfl,hf]
   simp [hlt]
  ·rw [if_neg hki]
   cases hi:qC m i with
   | none=>rfl
   | some j'=>
    obtain ⟨u',hu'⟩:=xa hi
    have hne:j≠j':=by
     rintro rfl
     rw [hu] at hu'
     cases hu'
     exact hki rfl
    simp [List.getElem?_set,hne]
 | none=>
  dsimp only
  have e:qC (m++[(k,v)]) i=if k=i then some m.length else qC m i:=by
   unfold qC
   rw [List.findIdx?_append]
   by_cases hki:k=i
   ·subst hki
    have:m.findIdx? (fun kv=>decide (kv.1=k))=none:=hf
    rw [this,if_pos rfl]
    simp
   ·rw [if_neg hki]
    cases m.findIdx? (fun kv=>decide (kv.1=i)) with
    | some j=>rfl
    | none=>simp [hki]
  unfold look
  rw [e]
  by_cases hki:k=i
  ·rw [if_pos hki,if_pos hki]
   simp
  ·rw [if_neg hki,if_neg hki]
   cases hi:qC m i with
   | none=>rfl
   | some j'=>
    obtain ⟨u',hu'⟩:=xa hi
    have:=(List.getElem?_eq_some_iff.1 hu').1
    simp [List.getElem?_append_left this]
theorem zf8 (l:List Ret) (i:Int):jZ l i=(match look (jE l) i with | some (.bool b)=>b | _=>false):=rfl
theorem zf7 (l:List Ret) (r:Ret):jE (l++[r])=vg (jE l) r.version (Value.bool r.gone):=by
 unfold jE
 rw [List.foldl_append]
 rfl
theorem zf9 (l:List Ret) (r:Ret) (i:Int):jZ (l++[r]) i=if r.version=i then r.gone else jZ l i:=by
 rw [zf8,zf7,zjm]
 by_cases h:r.version=i
 ·rw [if_pos h,if_pos h]
 ·rw [if_neg h,if_neg h]
  rfl
theorem zaf (l:List Ret) (i:Int) (hu:∀ (a b:Nat) (x y:Ret),l[a]?= some x->l[b]?= some y->x.version=y.version->a=b):jZ l i=true↔∃ r ∈ l,r.version=i∧r.gone=true:=by
 have key:∀ n,∀ l:List Ret,l.length=n->(∀ (a b:Nat) (x y:Ret),l[a]?= some x->l[b]?= some y->x.version=y.version->a=b)->(jZ l i=true↔∃ r ∈ l,r.version=i∧r.gone=true):=by
  intro n
  induction n with
  | zero=>
   intro l hl _
   rw [List.length_eq_zero_iff.1 hl]
   constructor
   ·intro h;cases h
   ·rintro ⟨r,hr,_⟩;cases hr
  | succ n ih=>
   intro l hl hu
   obtain ⟨l',r,rfl⟩:∃ l' r,l=l'++[r]:=⟨l.dropLast,l.getLast (by rintro rfl;cases hl),(List.dropLast_concat_getLast _).symm⟩
   have hl':l'.length=n:=by simpa using hl
   have ih':=ih l' hl' fun a b x y ha hb=>hu a b x y (by rw [List.getElem?_append_left (List.getElem?_eq_some_iff.1 ha).1];exact ha) (by rw [List.getElem?_append_left (List.getElem?_eq_some_iff.1 hb).1];exact hb)
   have hlast:(l'++[r])[l'.length]?= some r:=by simp
   rw [zf9]
   by_cases h:r.version=i
   ·rw [if_pos h]
    constructor
    ·intro hg;exact ⟨r,by simp,h,hg⟩
    ·rintro ⟨x,hx,hv,hg⟩
     obtain ⟨a,ha⟩:=List.mem_iff_getElem?.1 hx
     have:=hu a _ x r ha hlast (by rw [hv,h])
     subst this
     rw [hlast] at ha
     cases ha
     exact hg
   ·rw [if_neg h,ih']
    constructor
    ·rintro ⟨x,hx,hv⟩;exact ⟨x,by simp [hx],hv⟩
    ·rintro ⟨x,hx,hv,hg⟩
     rcases List.mem_append.1 hx with hx | hx
     ·exact ⟨x,hx,hv,hg⟩
     ·rw [List.mem_singleton.1 hx] at hv;exact absurd hv h
 exact key _ l rfl hu
theorem zdW {l:List Ret} (h:Go.Lim.isV l=true) {i:Nat} {x:Ret} (hx:l[i]?= some x):0<=x.version∧0<=x.at_∧∀ (j:Nat) (y:Ret),j < i->l[j]?= some y->y.version≠x.version:=by
 have h2:=of_decide_eq_true (show decide (∀ i,(h:i < l.length)->Go.Lim.okV l i l[i]=true)=true from h) i (List.getElem?_eq_some_iff.1 hx).1
 rw [(List.getElem?_eq_some_iff.1 hx).2] at h2
 unfold Go.Lim.okV Go.Lim.zhZ at h2
 simp only [Bool.and_eq_true,Bool.not_eq_true',decide_eq_false_iff_not,List.any_eq_false,beq_iff_eq] at h2
 refine ⟨by omega,by omega,fun j y hj hy he=>h2.2 y ?_ he⟩
 exact List.mem_iff_getElem?.2 ⟨j,by rw [List.getElem?_take,if_pos hj];exact hy⟩
theorem zkt {l:List Ret}:Go.Lim.isV l=true↔∀ (i:Nat) (x:Ret),l[i]?= some x->0<=x.version∧0<=x.at_∧∀ (j:Nat) (y:Ret),j < i->l[j]?= some y->y.version≠x.version:=by
 constructor
 ·exact fun h i x hx=>zdW h hx
 ·intro h
  refine decide_eq_true fun i hi=>?_
  obtain ⟨h1,h2,h3⟩:=h i l[i] (List.getElem?_eq_getElem hi)
  unfold Go.Lim.okV Go.Lim.zhZ
  simp only [Bool.and_eq_true,Bool.not_eq_true',decide_eq_false_iff_not,List.any_eq_false,beq_iff_eq]
  refine ⟨⟨by omega,by omega⟩,fun y hy he=>?_⟩
  obtain ⟨j,hj⟩:=List.mem_iff_getElem?.1 hy
  rw [List.getElem?_take] at hj
  split at hj
  ·exact h3 j y (by assumption) hj he
  ·cases hj
theorem zbU {l:List Ret} (h:Go.Lim.isV l=true):∀ (a b:Nat) (x y:Ret),l[a]?= some x->l[b]?= some y->x.version=y.version->a=b:=fun a b x y ha hb he=>by
 rcases Nat.lt_trichotomy a b with hlt | rfl | hlt
 ·exact absurd he ((zdW h hb).2.2 a x hlt ha)
 ·rfl
 ·exact absurd he.symm ((zdW h ha).2.2 b y hlt hb)
end Go.Wor
namespace Go.Wor
open Go.Ab Go.Proofs Go.Hy Go.Gat Go.Nam Go.Hos Go.Con Go.Sna
section
variable {N K:Nat} {w:Wor} {m:Mac} {v:Ver} {g:Gr} {e:En}
theorem St.j7 (st:St N K w) {i:Nat} {k:Int} {v2:Ver} {x:Ret} (h0:0<=k) (hv:w.zd[k.toNat]?= some v2) (hx:w.zg[i]?= some x) (he:x.version=k):St (N+1) (K+1) { w with zd:=w.zd.set k.toNat (vq v2),zg:=w.zg.set i (xY x) }:=by
 have gw:=st.jF
 have la:=wm gw hx
 have same:∀ (j:Nat) (y:Ret),(w.zg.set i (xY x))[j]?= some y->∃ z,w.zg[j]?= some z∧z.version=y.version∧z.at_=y.at_:=fun j y hy=>by
  rcases wj hy with ⟨rfl,rfl,_⟩ | ⟨_,hy⟩
  ·exact ⟨x,hx,rfl,rfl⟩
  ·exact ⟨y,hy,rfl,rfl⟩
 have isL:Go.Lim.isV (w.zg.set i (xY x))=true:=by
  rw [zkt]
  intro j y hy
  obtain ⟨z,hz,e1,e2⟩:=same j y hy
  obtain ⟨a,b,c⟩:=zdW gw.zg hz
  refine ⟨by omega,by omega,fun j2 y2 hj hy2=>?_⟩
  obtain ⟨z2,hz2,e3,_⟩:=same j2 y2 hy2
  rw [<- e3,<- e1]
  exact c j2 z2 hj hz2
 refine ⟨⟨gw.ground,by simpa using gw.current,isL,fun r hr=>?_,fun j v3 hv3=>?_,gw.lis⟩,⟨by have:=st.ty.yc;simp;omega,by have:=st.ty.lis;show w.zc.length<=_;omega,by have:=st.ty.lim;simp;omega,fun v3 hv3=>?_,st.ty.okl⟩,⟨fun l hl=>by have:=st.cal.lis l hl;omega,fun v3 hv3 g2 hg e2 he=>?_⟩⟩
 ·obtain ⟨j,hj⟩:=List.mem_iff_getElem?.1 hr
  obtain ⟨z,hz,e1,e2⟩:=same j r hj
  have:=gw.bad z (List.mem_of_getElem? hz)
  unfold jP at this ⊢
  rw [<- e1,<- e2]
  simpa using this
 ·have gone2:jZ (w.zg.set i (xY x)) j=if (j:Int)=k then true else jZ w.zg j:=by
   by_cases hjk:(j:Int)=k
   ·rw [if_pos hjk,zaf _ _ (zbU isL)]
    exact ⟨xY x,List.mem_iff_getElem?.2 ⟨i,List.getElem?_set_self (List.getElem?_eq_some_iff.1 hx).1⟩,by show x.version=_;omega,rfl⟩
   ·rw [if_neg hjk,Bool.eq_iff_iff,zaf _ _ (zbU isL),zaf _ _ (zbU gw.zg)]
    constructor
    ·rintro ⟨r,hr,h1,h2⟩
     rcases mem_set hr with hr | rfl
     ·exact ⟨r,hr,h1,h2⟩
     ·exact absurd (show x.version=j from h1) (by omega)
    ·rintro ⟨r,hr,h1,h2⟩
     obtain ⟨b,hb⟩:=List.mem_iff_getElem?.1 hr
     have hbi:i≠b:=by
      rintro rfl
      rw [hx] at hb
      cases hb
      omega
     exact ⟨r,List.mem_iff_getElem?.2 ⟨b,by rw [List.getElem?_set,if_neg hbi];exact hb⟩,h1,h2⟩
  show kb v3∧v3.j7=jZ (w.zg.set i (xY x)) j
  rw [gone2]
  rcases wj hv3 with ⟨rfl,rfl,_⟩ | ⟨hne,hv3⟩
  ·rw [if_pos (by omega)]
   exact ⟨⟨(gw.ver _ v2 hv).1.snap,(gw.ver _ v2 hv).1.len,(gw.ver _ v2 hv).1.grp⟩,rfl⟩
  ·rw [if_neg (by omega)]
   exact gw.ver j v3 hv3
 ·rcases mem_set hv3 with hv3 | rfl
  ·exact st.ty.okv v3 hv3
  ·exact st.ty.okv v2 (List.mem_of_getElem? hv)
 ·rcases mem_set hv3 with hv3 | rfl
  ·have:=st.cal.ends v3 hv3 g2 hg e2 he;omega
  ·have:=st.cal.ends v2 (List.mem_of_getElem? hv) g2 hg e2 he;omega
end
end Go.Wor
namespace Go.Wor
open Go.Ab Go.Proofs Go.Hy Go.Gat Go.Nam Go.Hos Go.Con Go.Sna
structure zmS (w:Wor) (m:Mac) (v:Ver) (g:Gr) (e:En):Prop where
 pc:0<=m.pc∧m.pc<=2
 ver:1<=m.pc->m.version≠w.current∧∀ r ∈ w.zg,r.version≠m.version
 ep:m.pc=2->0<=m.zj∧m.zj<=w.zj
def zl6 (m:Mac):Prop:=6<=m.answer.kind∧m.answer.kind<=13
def muS (_:Wor) (m:Mac):Nat:=(3 - m.pc).toNat
section
variable {N K:Nat} {w:Wor} {m:Mac} {v:Ver} {g:Gr} {e:En}
def zlh (_:Wor) (m:Mac) (_:Ver) (_:Gr) (_:En):Prop:=m.pc=0
def mu0 (_:Wor) (_:Mac):Nat:=0
theorem zl3 (st:St N K w) (su:yi w m v g e) (tm:TyM m) (lo:zlh w m v g e) (hk:m.op.kind=4) (hN:N<=100000000):∃ r,zi6 w m=some r∧Nx N K w m zlh zl6 mu0 r:=by
 have gw:=st.jF
 have st1:St (N+1) (K+1) w:=st.mono (by omega) (by omega)
 have lo:m.pc=0:=lo
 have pr:=zaV w.zc m.op.listen
 have hl:=st.ty.lis
 unfold zi6
 rw [if_pos lo]
 by_cases q:qo w.zc m.op.listen < 0
 ·rw [if_pos q]
  exact qg rfl ⟨(by show (1:Int)≠0;decide),st1,rfl,⟨tm.listen,tm.word,tm.link,tm.host,tm.path,tm.d0,tm.d1,tm.cfg,(fun h=>absurd ((show m.op.kind=6 from h).symm.trans hk) (by decide))⟩,rfl,.inl ⟨rfl,by show (6:Int)<=7∧(7:Int)<=13;decide⟩⟩
 ·rw [if_neg q]
  obtain ⟨x,hx⟩:∃ x,w.zc[(qo w.zc m.op.listen).toNat]?= some x:=⟨_,List.getElem?_eq_getElem (by omega)⟩
  have li:=zhp (gw.lis _ x hx).1
  have lk:=st.ty.okl x (List.mem_of_getElem? hx)
  have ca:=st.cal.lis x (List.mem_of_getElem? hx)
  rw [hx,Option.map_some]
  have st2:=st1.zbk hx (y:=Go.Gat.zi7 x) rfl (ze8 li.1 li.2.1 rfl) lk.2 (by show x.zr<=_;omega)
  exact qg rfl ⟨(by show (2:Int)≠0;decide),st2,rfl,⟨by show i64 (qo w.zc m.op.listen);unfold i64;omega,tm.word,tm.link,tm.host,tm.path,tm.d0,tm.d1,tm.cfg,(fun h=>absurd ((show m.op.kind=6 from h).symm.trans hk) (by decide))⟩,rfl,.inl ⟨rfl,by show (6:Int)<=10∧(10:Int)<=13;decide⟩⟩
def zlg (_:Wor) (m:Mac) (_:Ver) (_:Gr) (_:En):Prop:=m.pc=9
theorem zk8 (st:St N K w) (su:yi w m v g e) (tm:TyM m) (lo:zlg w m v g e) (hk:m.op.kind=2):∃ r,zhf w m v g e=some r∧Nx N K w m zlg zl6 mu0 r:=by
 have st1:St (N+1) (K+1) w:=st.mono (by omega) (by omega)
 have lo:m.pc=9:=lo
 unfold zhf
 rw [if_neg (by omega),if_neg (by omega),if_neg (by omega),if_neg (by omega),if_neg (by omega),if_pos lo]
 exact qg rfl ⟨(by show (1:Int)≠0;decide),st1,rfl,⟨tm.listen,tm.word,tm.link,tm.host,tm.path,tm.d0,tm.d1,tm.cfg,(fun h=>absurd ((show m.op.kind=6 from h).symm.trans hk) (by decide))⟩,rfl,.inl ⟨rfl,by show (6:Int)<=7∧(7:Int)<=13;decide⟩⟩
structure zmT (w:Wor) (m:Mac) (v:Ver) (g:Gr) (e:En):Prop where
 pc:m.pc=0
 k:m.k < 6
 i:m.i < w.counts.length
def muT (w:Wor) (m:Mac):Nat:=((w.counts.length - m.i) * 6 - m.k).toNat
end
end Go.Wor
namespace Go.Wor
open Go.Ab Go.Proofs Go.Hy Go.Gat Go.Nam Go.Hos Go.Con Go.Sna
structure zeq (w:Wor) (m:Mac) (v:Ver) (g:Gr) (e:En):Prop where
 pc:(0<=m.pc∧m.pc<=6)∨(8<=m.pc∧m.pc<=10)
 pin:m.pc=2->m.i < w.pins.length
 li4:m.pc=4->m.i<=w.zg.length
 lim:m.pc=5∨m.pc=6->∃ r,w.zg[m.i.toNat]?= some r∧r.version=m.version∧r.gone=false
 act:m.pc=5->m.k < (qd v).length
 lis:m.pc=9∨m.pc=10->∃ l,w.zc[m.i.toNat]?= some l∧l.drain=true
def zl5 (m:Mac):Prop:=m.answer.kind=11∨m.answer.kind=12
def muC (w:Wor) (m:Mac):Nat:=(
 if m.pc=0 then 20 * (w.zg.length:Int)+4 * w.zc.length+w.pins.length+20
 else if m.pc=1 then 20 * (w.zg.length:Int)+4 * w.zc.length+w.pins.length+19
 else if m.pc=2 then 20 * (w.zg.length:Int)+4 * w.zc.length+10+(w.pins.length - m.i)
 else if m.pc=3 then 20 * (w.zg.length:Int)+4 * w.zc.length+10
 else if m.pc=4 then (w.zg.length - m.i) * 20+4 * w.zc.length+5
 else if m.pc=5 then (w.zg.length - m.i) * 20+4 * w.zc.length+5 - 1 - m.k
 else if m.pc=6 then (w.zg.length - m.i) * 20+4 * w.zc.length+5 - 18
 else if m.pc=8 then (w.zc.length - m.i) * 4
 else if m.pc=9 then (w.zc.length - m.i) * 4 - 1
 else (w.zc.length - m.i) * 4 - 2:Int).toNat
theorem zk2:∀ (l:List Gr),(∀ g ∈ l,g.ends.length<=4)->(l.flatMap (·.ends)).length<=l.length * 4
 | [],_=>by simp
 | g::l,h=>by
  have:=zk2 l fun x hx=>h x (List.mem_cons_of_mem _ hx)
  have:=h g (List.mem_cons_self ..)
  simp only [List.flatMap_cons,List.length_append,List.length_cons]
  omega
theorem vo {v:Ver} (h:kb v):1<=(qd v).length∧(qd v).length<=16:=by
 have f:=h.few
 have h4:=zk2 v.zk fun g hg=>(f.2 g hg).1
 refine ⟨?_,by unfold qd;omega⟩
 have h0:0 < v.zk.length:=by have:=(xR h.snap).zf.1;have:=h.len;omega
 obtain ⟨g,e,hg,he,_,_⟩:=wg h h0
 have:e ∈ qd v:=List.mem_flatMap.2 ⟨g,List.mem_of_getElem? hg,List.mem_of_getElem? he⟩
 exact List.length_pos_of_mem this
theorem zY {w:Wor} {m:Mac} {n:Int}:(m.pc=0->n=20 * (w.zg.length:Int)+4 * w.zc.length+w.pins.length+20)->(m.pc=1->n=20 * (w.zg.length:Int)+4 * w.zc.length+w.pins.length+19)->
  (m.pc=2->n=20 * (w.zg.length:Int)+4 * w.zc.length+10+(w.pins.length - m.i))->(m.pc=3->n=20 * (w.zg.length:Int)+4 * w.zc.length+10)->(m.pc=4->n=(w.zg.length - m.i) * 20+4 * w.zc.length+5)->
  (m.pc=5->n=(w.zg.length - m.i) * 20+4 * w.zc.length+5 - 1 - m.k)->(m.pc=6->n=(w.zg.length - m.i) * 20+4 * w.zc.length+5 - 18)->(m.pc=8->n=(w.zc.length - m.i) * 4)->(m.pc=9->n=(w.zc.length - m.i) * 4 - 1)->
  (m.pc=10->n=(w.zc.length - m.i) * 4 - 2)->(0<=m.pc∧m.pc<=6)∨(8<=m.pc∧m.pc<=10)->muC w m=n.toNat:=by
 intro h0 h1 h2 h3 h4 h5 h6 h8 h9 h10 hp
 unfold muC
 rcases (by omega:m.pc=0∨m.pc=1∨m.pc=2∨m.pc=3∨m.pc=4∨m.pc=5∨m.pc=6∨m.pc=8∨m.pc=9∨m.pc=10) with p | p | p | p | p | p | p | p | p | p
 ·rw [h0 p,if_pos p]
 ·rw [h1 p,if_neg (by omega),if_pos p]
 ·rw [h2 p,if_neg (by omega),if_neg (by omega),if_pos p]
 ·rw [h3 p,if_neg (by omega),if_neg (by omega),if_neg (by omega),if_pos p]
 ·rw [h4 p,if_neg (by omega),if_neg (by omega),if_neg (by omega),if_neg (by omega),if_pos p]
 ·rw [h5 p,if_neg (by omega),if_neg (by omega),if_neg (by omega),if_neg (by omega),if_neg (by omega),if_pos p]
 ·rw [h6 p,if_neg (by omega),if_neg (by omega),if_neg (by omega),if_neg (by omega),if_neg (by omega),if_neg (by omega),if_pos p]
 ·rw [h8 p,if_neg (by omega),if_neg (by omega),if_neg (by omega),if_neg (by omega),if_neg (by omega),if_neg (by omega),if_neg (by omega),if_pos p]
 ·rw [h9 p,if_neg (by omega),if_neg (by omega),if_neg (by omega),if_neg (by omega),if_neg (by omega),if_neg (by omega),if_neg (by omega),if_neg (by omega),if_pos p]
 ·rw [h10 p,if_neg (by omega),if_neg (by omega),if_neg (by omega),if_neg (by omega),if_neg (by omega),if_neg (by omega),if_neg (by omega),if_neg (by omega),if_neg (by omega)]
section
variable {N K:Nat} {w:Wor} {m:Mac} {v:Ver} {g:Gr} {e:En}
theorem zjJ {m1:Mac} (st:St N K w) (su:yi w m1 v g e) (tm:TyM m1) (hk:m1.op.kind=5) (hN:N<=100000000) (hpc:m1.pc=8) (ho:m1.op=m.op) (hM:m1.i < w.zc.length->(w.zc.length - m1.i) * 4<=(muC w m:Int)):Nx N K w m zeq zl5 muC (ldS w m1):=by
 have st1:St (N+1) (K+1) w:=st.mono (by omega) (by omega)
 have i0:=su.i
 have hl:=st.ty.lis
 unfold ldS
 cases hx:w.zc[m1.i.toNat]? with
 | none=>
  have st2:=st1.lck (n:=0) (.inl rfl)
  exact ⟨(by show (2:Int)≠0;decide),st2,rfl,⟨tm.listen,tm.word,tm.link,tm.host,tm.path,tm.d0,tm.d1,tm.cfg,fun h=>absurd ((show m1.op.kind=6 from h).symm.trans hk) (by decide)⟩,ho,.inl ⟨rfl,.inl rfl⟩⟩
 | some l=>
  have hlt:=(List.getElem?_eq_some_iff.1 hx).1
  have hm:=hM (by omega)
  have hw:IntKind.i64.wrap (m1.i+1)=m1.i+1:=qf (by omega) (by omega)
  dsimp only
  by_cases q:l.drain=true∧l.closed=false
  ·unfold ldM
   rw [if_pos q]
   refine ⟨(by show (1:Int)≠0;decide),st1,rfl,⟨tm.listen,tm.word,tm.link,tm.host,tm.path,tm.d0,tm.d1,tm.cfg,tm.ans⟩,ho,.inr ⟨⟨v,g,e,⟨su.world,su.zC,su.done,su.version,su.atv,su.zn,su.atg,su.end_,su.ate,su.other,su.slot,su.listen,su.i,su.k⟩,⟨(by dsimp only;omega),fun h=>by dsimp only at h;omega,fun h=>by dsimp only at h;omega,fun h=>by dsimp only at h;omega,fun h=>by dsimp only at h;omega,fun _=>⟨l,hx,q.1⟩⟩⟩,?_⟩⟩
   show muC w { m1 with pc:=9 } < _
   rw [(zY (w:=w) (m:={ m1 with pc:=9 }) (n:=(w.zc.length - m1.i) * 4 - 1) (fun h=>by (try dsimp only at h ⊢) <;> omega) (fun h=>by (try dsimp only at h ⊢) <;> omega) (fun h=>by (try dsimp only at h ⊢) <;> omega) (fun h=>by (try dsimp only at h ⊢) <;> omega) (fun h=>by (try dsimp only at h ⊢) <;> omega) (fun h=>by (try dsimp only at h ⊢) <;> omega) (fun h=>by (try dsimp only at h ⊢) <;> omega) (fun h=>by (try dsimp only at h ⊢) <;> omega) (fun h=>by (try dsimp only at h ⊢) <;> omega) (fun h=>by (try dsimp only at h ⊢) <;> omega) (by (try dsimp only);omega))]
   omega
  ·unfold ldM
   rw [if_neg q,hw]
   refine ⟨(by show (1:Int)≠0;decide),st1,rfl,⟨tm.listen,tm.word,tm.link,tm.host,tm.path,tm.d0,tm.d1,tm.cfg,tm.ans⟩,ho,.inr ⟨⟨v,g,e,⟨su.world,su.zC,su.done,su.version,su.atv,su.zn,su.atg,su.end_,su.ate,su.other,su.slot,su.listen,(by show 0<=m1.i+1;omega),su.k⟩,⟨by show _∨(8<=m1.pc∧m1.pc<=10);omega,fun h=>by dsimp only at h;omega,fun h=>by dsimp only at h;omega,fun h=>by dsimp only at h;omega,fun h=>by dsimp only at h;omega,fun h=>by dsimp only at h;omega⟩⟩,?_⟩⟩
   show muC w { m1 with i:=m1.i+1 } < _
   rw [(zY (w:=w) (m:={ m1 with i:=m1.i+1 }) (n:=(w.zc.length - (m1.i+1)) * 4) (fun h=>by (try dsimp only at h ⊢) <;> omega) (fun h=>by (try dsimp only at h ⊢) <;> omega) (fun h=>by (try dsimp only at h ⊢) <;> omega) (fun h=>by (try dsimp only at h ⊢) <;> omega) (fun h=>by (try dsimp only at h ⊢) <;> omega) (fun h=>by (try dsimp only at h ⊢) <;> omega) (fun h=>by (try dsimp only at h ⊢) <;> omega) (fun h=>by (try dsimp only at h ⊢) <;> omega) (fun h=>by (try dsimp only at h ⊢) <;> omega) (fun h=>by (try dsimp only at h ⊢) <;> omega) (by (try dsimp only);omega))]
   omega
theorem yq (st:St N K w) (su:yi w m v g e) (tm:TyM m) (lo:zeq w m v g e) (hk:m.op.kind=5) (hN:N<=100000000):∃ r,jr w m=some r∧Nx N K w m zeq zl5 muC r:=by
 have gw:=st.jF
 have st1:St (N+1) (K+1) w:=st.mono (by omega) (by omega)
 have i0:=su.i
 have k0:=su.k
 have gr:=qb.1 gw.ground
 have lT:=st.ty.lis
 have lL:=st.ty.lim
 have pc:=lo.pc
 have pcs:m.pc=0∨m.pc=1∨m.pc=2∨m.pc=3∨m.pc=4∨m.pc=5∨m.pc=6∨m.pc=8∨m.pc=9∨m.pc=10:=by omega
 unfold jr
 by_cases p:m.pc=0
 ·rw [if_pos p]
  by_cases q:w.lock=0
  ·rw [if_pos q]
   have st2:=st1.lck (n:=1) (.inr rfl)
   refine qg rfl ⟨(by show (4:Int)≠0;decide),st2,rfl,⟨tm.listen,tm.word,tm.link,tm.host,tm.path,tm.d0,tm.d1,tm.cfg,tm.ans⟩,rfl,.inr ⟨⟨v,g,e,⟨qB.2 st2.jF,su.zC,su.done,su.version,su.atv,su.zn,su.atg,su.end_,su.ate,su.other,su.slot,su.listen,su.i,su.k⟩,⟨(by dsimp only;omega),fun h=>by dsimp only at h;omega,fun h=>by dsimp only at h;omega,fun h=>by dsimp only at h;omega,fun h=>by dsimp only at h;omega,fun h=>by dsimp only at h;omega⟩⟩,?_⟩⟩
   show muC { w with lock:=1 } { m with pc:=1 } < _
   rw [(zY (w:={ w with lock:=1 }) (m:={ m with pc:=1 }) (n:=20 * (w.zg.length:Int)+4 * w.zc.length+w.pins.length+19) (fun h=>by (try dsimp only at h ⊢) <;> omega) (fun h=>by (try dsimp only at h ⊢) <;> omega) (fun h=>by (try dsimp only at h ⊢) <;> omega) (fun h=>by (try dsimp only at h ⊢) <;> omega) (fun h=>by (try dsimp only at h ⊢) <;> omega) (fun h=>by (try dsimp only at h ⊢) <;> omega) (fun h=>by (try dsimp only at h ⊢) <;> omega) (fun h=>by (try dsimp only at h ⊢) <;> omega) (fun h=>by (try dsimp only at h ⊢) <;> omega) (fun h=>by (try dsimp only at h ⊢) <;> omega) (by (try dsimp only);omega)),(zY (w:=w) (m:=m) (n:=20 * (w.zg.length:Int)+4 * w.zc.length+w.pins.length+20) (fun h=>by (try dsimp only at h ⊢) <;> omega) (fun h=>by (try dsimp only at h ⊢) <;> omega) (fun h=>by (try dsimp only at h ⊢) <;> omega) (fun h=>by (try dsimp only at h ⊢) <;> omega) (fun h=>by (try dsimp only at h ⊢) <;> omega) (fun h=>by (try dsimp only at h ⊢) <;> omega) (fun h=>by (try dsimp only at h ⊢) <;> omega) (fun h=>by (try dsimp only at h ⊢) <;> omega) (fun h=>by (try dsimp only at h ⊢) <;> omega) (fun h=>by (try dsimp only at h ⊢) <;> omega) (by (try dsimp only);omega))]
   omega
  ·rw [if_neg q]
   exact qg rfl ⟨(by show (5:Int)≠0;decide),st1,rfl,⟨tm.listen,tm.word,tm.link,tm.host,tm.path,tm.d0,tm.d1,tm.cfg,(fun h=>absurd ((show m.op.kind=6 from h).symm.trans hk) (by decide))⟩,rfl,.inl ⟨rfl,.inr rfl⟩⟩
 replace pcs:=pcs.resolve_left p
 rw [if_neg p];clear p
 by_cases p:m.pc=1
 ·rw [if_pos p]
  refine qg rfl ⟨(by show (1:Int)≠0;decide),st1,rfl,⟨tm.listen,tm.word,tm.link,tm.host,tm.path,tm.d0,tm.d1,tm.cfg,tm.ans⟩,rfl,.inr ⟨⟨v,g,e,⟨su.world,su.zC,su.done,su.version,su.atv,su.zn,su.atg,su.end_,su.ate,su.other,su.slot,su.listen,Int.le_refl _,su.k⟩,⟨(by dsimp only;omega),fun _=>by show (0:Int) < (w.pins.length:Nat);have:=gr.pins.1;omega,fun h=>by dsimp only at h;omega,fun h=>by dsimp only at h;omega,fun h=>by dsimp only at h;omega,fun h=>by dsimp only at h;omega⟩⟩,?_⟩⟩
  show muC w { m with zj:=w.zj,pc:=2,i:=0 } < _
  rw [(zY (w:=w) (m:={ m with zj:=w.zj,pc:=2,i:=0 }) (n:=20 * (w.zg.length:Int)+4 * w.zc.length+10+w.pins.length) (fun h=>by (try dsimp only at h ⊢) <;> omega) (fun h=>by (try dsimp only at h ⊢) <;> omega) (fun h=>by (try dsimp only at h ⊢) <;> omega) (fun h=>by (try dsimp only at h ⊢) <;> omega) (fun h=>by (try dsimp only at h ⊢) <;> omega) (fun h=>by (try dsimp only at h ⊢) <;> omega) (fun h=>by (try dsimp only at h ⊢) <;> omega) (fun h=>by (try dsimp only at h ⊢) <;> omega) (fun h=>by (try dsimp only at h ⊢) <;> omega) (fun h=>by (try dsimp only at h ⊢) <;> omega) (by (try dsimp only);omega)),(zY (w:=w) (m:=m) (n:=20 * (w.zg.length:Int)+4 * w.zc.length+w.pins.length+19) (fun h=>by (try dsimp only at h ⊢) <;> omega) (fun h=>by (try dsimp only at h ⊢) <;> omega) (fun h=>by (try dsimp only at h ⊢) <;> omega) (fun h=>by (try dsimp only at h ⊢) <;> omega) (fun h=>by (try dsimp only at h ⊢) <;> omega) (fun h=>by (try dsimp only at h ⊢) <;> omega) (fun h=>by (try dsimp only at h ⊢) <;> omega) (fun h=>by (try dsimp only at h ⊢) <;> omega) (fun h=>by (try dsimp only at h ⊢) <;> omega) (fun h=>by (try dsimp only at h ⊢) <;> omega) (by (try dsimp only);omega))]
  omega
 replace pcs:=pcs.resolve_left p
 rw [if_neg p];clear p
 by_cases p:m.pc=2
 ·rw [if_pos p]
  have hi:=lo.pin p
  obtain ⟨x,hx⟩:∃ x,w.pins[m.i.toNat]?= some x:=⟨_,List.getElem?_eq_getElem (by omega)⟩
  have hw:IntKind.i64.wrap (m.i+1)=m.i+1:=qf (by omega) (by have:=gr.pins.2;omega)
  rw [hx,Option.map_some]
  have e0:=(zY (w:=w) (m:=m) (n:=20 * (w.zg.length:Int)+4 * w.zc.length+10+(w.pins.length - m.i)) (fun h=>by (try dsimp only at h ⊢) <;> omega) (fun h=>by (try dsimp only at h ⊢) <;> omega) (fun h=>by (try dsimp only at h ⊢) <;> omega) (fun h=>by (try dsimp only at h ⊢) <;> omega) (fun h=>by (try dsimp only at h ⊢) <;> omega) (fun h=>by (try dsimp only at h ⊢) <;> omega) (fun h=>by (try dsimp only at h ⊢) <;> omega) (fun h=>by (try dsimp only at h ⊢) <;> omega) (fun h=>by (try dsimp only at h ⊢) <;> omega) (fun h=>by (try dsimp only at h ⊢) <;> omega) (by (try dsimp only);omega))
  unfold lpM
  rw [hw]
  by_cases q:x≠0∧x≠IntKind.i64.wrap (m.zj+1)
  ·rw [if_pos q]
   refine qg rfl ⟨(by show (1:Int)≠0;decide),st1,rfl,⟨tm.listen,tm.word,tm.link,tm.host,tm.path,tm.d0,tm.d1,tm.cfg,tm.ans⟩,rfl,.inr ⟨⟨v,g,e,⟨su.world,su.zC,su.done,su.version,su.atv,su.zn,su.atg,su.end_,su.ate,su.other,su.slot,su.listen,Int.le_refl _,su.k⟩,⟨(by dsimp only;omega),fun h=>by dsimp only at h;omega,fun _=>by show (0:Int)<=_;omega,fun h=>by dsimp only at h;omega,fun h=>by dsimp only at h;omega,fun h=>by dsimp only at h;omega⟩⟩,?_⟩⟩
   show muC w { m with pc:=4,i:=0 } < _
   rw [e0,(zY (w:=w) (m:={ m with pc:=4,i:=0 }) (n:=((w.zg.length:Int) - 0) * 20+4 * w.zc.length+5) (fun h=>by (try dsimp only at h ⊢) <;> omega) (fun h=>by (try dsimp only at h ⊢) <;> omega) (fun h=>by (try dsimp only at h ⊢) <;> omega) (fun h=>by (try dsimp only at h ⊢) <;> omega) (fun h=>by (try dsimp only at h ⊢) <;> omega) (fun h=>by (try dsimp only at h ⊢) <;> omega) (fun h=>by (try dsimp only at h ⊢) <;> omega) (fun h=>by (try dsimp only at h ⊢) <;> omega) (fun h=>by (try dsimp only at h ⊢) <;> omega) (fun h=>by (try dsimp only at h ⊢) <;> omega) (by (try dsimp only);omega))]
   omega
  rw [if_neg q]
  by_cases q2:m.i+1 < w.pins.length
  ·rw [if_pos q2]
   refine qg rfl ⟨(by show (1:Int)≠0;decide),st1,rfl,⟨tm.listen,tm.word,tm.link,tm.host,tm.path,tm.d0,tm.d1,tm.cfg,tm.ans⟩,rfl,.inr ⟨⟨v,g,e,⟨su.world,su.zC,su.done,su.version,su.atv,su.zn,su.atg,su.end_,su.ate,su.other,su.slot,su.listen,(by show 0<=m.i+1;omega),su.k⟩,⟨by show (0<=m.pc∧m.pc<=6)∨_;omega,fun _=>q2,fun h=>by dsimp only at h;omega,fun h=>by dsimp only at h;omega,fun h=>by dsimp only at h;omega,fun h=>by dsimp only at h;omega⟩⟩,?_⟩⟩
   show muC w { m with i:=m.i+1 } < _
   rw [e0,(zY (w:=w) (m:={ m with i:=m.i+1 }) (n:=20 * (w.zg.length:Int)+4 * w.zc.length+10+(w.pins.length - (m.i+1))) (fun h=>by (try dsimp only at h ⊢) <;> omega) (fun h=>by (try dsimp only at h ⊢) <;> omega) (fun h=>by (try dsimp only at h ⊢) <;> omega) (fun h=>by (try dsimp only at h ⊢) <;> omega) (fun h=>by (try dsimp only at h ⊢) <;> omega) (fun h=>by (try dsimp only at h ⊢) <;> omega) (fun h=>by (try dsimp only at h ⊢) <;> omega) (fun h=>by (try dsimp only at h ⊢) <;> omega) (fun h=>by (try dsimp only at h ⊢) <;> omega) (fun h=>by (try dsimp only at h ⊢) <;> omega) (by (try dsimp only);omega))]
   omega
  ·rw [if_neg q2]
   refine qg rfl ⟨(by show (1:Int)≠0;decide),st1,rfl,⟨tm.listen,tm.word,tm.link,tm.host,tm.path,tm.d0,tm.d1,tm.cfg,tm.ans⟩,rfl,.inr ⟨⟨v,g,e,⟨su.world,su.zC,su.done,su.version,su.atv,su.zn,su.atg,su.end_,su.ate,su.other,su.slot,su.listen,(by show 0<=m.i+1;omega),su.k⟩,⟨(by dsimp only;omega),fun h=>by dsimp only at h;omega,fun h=>by dsimp only at h;omega,fun h=>by dsimp only at h;omega,fun h=>by dsimp only at h;omega,fun h=>by dsimp only at h;omega⟩⟩,?_⟩⟩
   show muC w { m with pc:=3,i:=m.i+1 } < _
   rw [e0,(zY (w:=w) (m:={ m with pc:=3,i:=m.i+1 }) (n:=20 * (w.zg.length:Int)+4 * w.zc.length+10) (fun h=>by (try dsimp only at h ⊢) <;> omega) (fun h=>by (try dsimp only at h ⊢) <;> omega) (fun h=>by (try dsimp only at h ⊢) <;> omega) (fun h=>by (try dsimp only at h ⊢) <;> omega) (fun h=>by (try dsimp only at h ⊢) <;> omega) (fun h=>by (try dsimp only at h ⊢) <;> omega) (fun h=>by (try dsimp only at h ⊢) <;> omega) (fun h=>by (try dsimp only at h ⊢) <;> omega) (fun h=>by (try dsimp only at h ⊢) <;> omega) (fun h=>by (try dsimp only at h ⊢) <;> omega) (by (try dsimp only);omega))]
   omega
 replace pcs:=pcs.resolve_left p
 rw [if_neg p];clear p
 by_cases p:m.pc=3
 ·rw [if_pos p]
  have e0:=(zY (w:=w) (m:=m) (n:=20 * (w.zg.length:Int)+4 * w.zc.length+10) (fun h=>by (try dsimp only at h ⊢) <;> omega) (fun h=>by (try dsimp only at h ⊢) <;> omega) (fun h=>by (try dsimp only at h ⊢) <;> omega) (fun h=>by (try dsimp only at h ⊢) <;> omega) (fun h=>by (try dsimp only at h ⊢) <;> omega) (fun h=>by (try dsimp only at h ⊢) <;> omega) (fun h=>by (try dsimp only at h ⊢) <;> omega) (fun h=>by (try dsimp only at h ⊢) <;> omega) (fun h=>by (try dsimp only at h ⊢) <;> omega) (fun h=>by (try dsimp only at h ⊢) <;> omega) (by (try dsimp only);omega))
  by_cases q:w.zj=m.zj∧w.zj < 1000000000000
  ·have hw:IntKind.i64.wrap (w.zj+1)=w.zj+1:=qf (by have:=gr.zj;omega) (by omega)
   rw [if_pos q,hw]
   have st2:=st1.epo (n:=w.zj+1) (by omega) (by omega)
   refine qg rfl ⟨(by show (4:Int)≠0;decide),st2,rfl,⟨tm.listen,tm.word,tm.link,tm.host,tm.path,tm.d0,tm.d1,tm.cfg,tm.ans⟩,rfl,.inr ⟨⟨v,g,e,⟨qB.2 st2.jF,su.zC,su.done,su.version,su.atv,su.zn,su.atg,su.end_,su.ate,su.other,su.slot,su.listen,Int.le_refl _,su.k⟩,⟨(by dsimp only;omega),fun h=>by dsimp only at h;omega,fun _=>by show (0:Int)<=_;omega,fun h=>by dsimp only at h;omega,fun h=>by dsimp only at h;omega,fun h=>by dsimp only at h;omega⟩⟩,?_⟩⟩
   show muC { w with zj:=w.zj+1 } { m with pc:=4,i:=0,zj:=w.zj+1 } < _
   rw [e0,(zY (w:={ w with zj:=w.zj+1 }) (m:={ m with pc:=4,i:=0,zj:=w.zj+1 }) (n:=((w.zg.length:Int) - 0) * 20+4 * w.zc.length+5) (fun h=>by (try dsimp only at h ⊢) <;> omega) (fun h=>by (try dsimp only at h ⊢) <;> omega) (fun h=>by (try dsimp only at h ⊢) <;> omega) (fun h=>by (try dsimp only at h ⊢) <;> omega) (fun h=>by (try dsimp only at h ⊢) <;> omega) (fun h=>by (try dsimp only at h ⊢) <;> omega) (fun h=>by (try dsimp only at h ⊢) <;> omega) (fun h=>by (try dsimp only at h ⊢) <;> omega) (fun h=>by (try dsimp only at h ⊢) <;> omega) (fun h=>by (try dsimp only at h ⊢) <;> omega) (by (try dsimp only);omega))]
   omega
  ·rw [if_neg q]
   refine qg rfl ⟨(by show (5:Int)≠0;decide),st1,rfl,⟨tm.listen,tm.word,tm.link,tm.host,tm.path,tm.d0,tm.d1,tm.cfg,tm.ans⟩,rfl,.inr ⟨⟨v,g,e,⟨su.world,su.zC,su.done,su.version,su.atv,su.zn,su.atg,su.end_,su.ate,su.other,su.slot,su.listen,Int.le_refl _,su.k⟩,⟨(by dsimp only;omega),fun h=>by dsimp only at h;omega,fun _=>by show (0:Int)<=_;omega,fun h=>by dsimp only at h;omega,fun h=>by dsimp only at h;omega,fun h=>by dsimp only at h;omega⟩⟩,?_⟩⟩
   show muC w { m with pc:=4,i:=0 } < _
   rw [e0,(zY (w:=w) (m:={ m with pc:=4,i:=0 }) (n:=((w.zg.length:Int) - 0) * 20+4 * w.zc.length+5) (fun h=>by (try dsimp only at h ⊢) <;> omega) (fun h=>by (try dsimp only at h ⊢) <;> omega) (fun h=>by (try dsimp only at h ⊢) <;> omega) (fun h=>by (try dsimp only at h ⊢) <;> omega) (fun h=>by (try dsimp only at h ⊢) <;> omega) (fun h=>by (try dsimp only at h ⊢) <;> omega) (fun h=>by (try dsimp only at h ⊢) <;> omega) (fun h=>by (try dsimp only at h ⊢) <;> omega) (fun h=>by (try dsimp only at h ⊢) <;> omega) (fun h=>by (try dsimp only at h ⊢) <;> omega) (by (try dsimp only);omega))]
   omega
 replace pcs:=pcs.resolve_left p
 rw [if_neg p];clear p
 by_cases p:m.pc=4
 ·rw [if_pos p]
  have e0:=(zY (w:=w) (m:=m) (n:=((w.zg.length:Int) - m.i) * 20+4 * w.zc.length+5) (fun h=>by (try dsimp only at h ⊢) <;> omega) (fun h=>by (try dsimp only at h ⊢) <;> omega) (fun h=>by (try dsimp only at h ⊢) <;> omega) (fun h=>by (try dsimp only at h ⊢) <;> omega) (fun h=>by (try dsimp only at h ⊢) <;> omega) (fun h=>by (try dsimp only at h ⊢) <;> omega) (fun h=>by (try dsimp only at h ⊢) <;> omega) (fun h=>by (try dsimp only at h ⊢) <;> omega) (fun h=>by (try dsimp only at h ⊢) <;> omega) (fun h=>by (try dsimp only at h ⊢) <;> omega) (by (try dsimp only);omega))
  have li:=lo.li4 p
  cases hx:w.zg[m.i.toNat]? with
  | none=>
   refine qg rfl (zjJ st (m1:=atM m 8 0) ⟨su.world,su.zC,su.done,su.version,su.atv,su.zn,su.atg,su.end_,su.ate,su.other,su.slot,su.listen,Int.le_refl _,su.k⟩ ⟨tm.listen,tm.word,tm.link,tm.host,tm.path,tm.d0,tm.d1,tm.cfg,tm.ans⟩ hk hN rfl rfl fun _=>?_)
   rw [e0]
   show ((w.zc.length:Int) - 0) * 4<=_
   omega
  | some r=>
   have hlt:=(List.getElem?_eq_some_iff.1 hx).1
   have hw:IntKind.i64.wrap (m.i+1)=m.i+1:=qf (by omega) (by omega)
   have la:=wm gw hx
   dsimp only
   unfold llM
   rw [hw]
   by_cases q:r.gone=true∨Go.Lim.y7 r.at_ m.zj=false
   ·rw [if_pos q]
    refine qg rfl ⟨(by show (1:Int)≠0;decide),st1,rfl,⟨tm.listen,tm.word,tm.link,tm.host,tm.path,tm.d0,tm.d1,tm.cfg,tm.ans⟩,rfl,.inr ⟨⟨v,g,e,⟨su.world,su.zC,su.done,su.version,su.atv,su.zn,su.atg,su.end_,su.ate,su.other,su.slot,su.listen,(by show 0<=m.i+1;omega),su.k⟩,⟨by show (0<=m.pc∧m.pc<=6)∨_;omega,fun h=>by dsimp only at h;omega,fun _=>by show m.i+1<=(w.zg.length:Nat);omega,fun h=>by dsimp only at h;omega,fun h=>by dsimp only at h;omega,fun h=>by dsimp only at h;omega⟩⟩,?_⟩⟩
    show muC w { m with i:=m.i+1 } < _
    rw [e0,(zY (w:=w) (m:={ m with i:=m.i+1 }) (n:=((w.zg.length:Int) - (m.i+1)) * 20+4 * w.zc.length+5) (fun h=>by (try dsimp only at h ⊢) <;> omega) (fun h=>by (try dsimp only at h ⊢) <;> omega) (fun h=>by (try dsimp only at h ⊢) <;> omega) (fun h=>by (try dsimp only at h ⊢) <;> omega) (fun h=>by (try dsimp only at h ⊢) <;> omega) (fun h=>by (try dsimp only at h ⊢) <;> omega) (fun h=>by (try dsimp only at h ⊢) <;> omega) (fun h=>by (try dsimp only at h ⊢) <;> omega) (fun h=>by (try dsimp only at h ⊢) <;> omega) (fun h=>by (try dsimp only at h ⊢) <;> omega) (by (try dsimp only);omega))]
    omega
   ·rw [if_neg q]
    obtain ⟨v',hv'⟩:∃ v',w.zd[r.version.toNat]?= some v':=⟨_,List.getElem?_eq_getElem (by omega)⟩
    have gv:=(gw.ver _ v' hv').1
    have h0:0 < v'.zk.length:=by have:=(xR gv.snap).zf.1;have:=gv.len;omega
    obtain ⟨g',e',hg,he,l1,l2⟩:=wg gv h0
    have el:=vo gv
    refine qg rfl ⟨(by show (1:Int)≠0;decide),st1,rfl,⟨tm.listen,tm.word,tm.link,tm.host,tm.path,tm.d0,tm.d1,tm.cfg,tm.ans⟩,rfl,.inr ⟨⟨v',g',e',⟨su.world,su.zC,su.done,⟨la.2.2.1,la.2.2.2.1⟩,hv',⟨Int.le_refl _,by show (0:Int) < _;omega⟩,hg,⟨Int.le_refl _,by show (0:Int) < _;omega⟩,he,⟨Int.le_refl _,by show (0:Int) < _;omega⟩,⟨Int.le_refl _,by show (0:Int) < _;omega⟩,su.listen,su.i,Int.le_refl _⟩,
     ⟨(by dsimp only;omega),fun h=>by dsimp only at h;omega,fun h=>by dsimp only at h;omega,fun _=>⟨r,hx,rfl,by cases hgo:r.gone with | false=>rfl | true=>exact absurd (.inl hgo) q⟩,fun _=>by show (0:Int) < _;omega,fun h=>by dsimp only at h;omega⟩⟩,?_⟩⟩
    show muC w { m with version:=r.version,zn:=0,end_:=0,other:=0,slot:=0,k:=0,pc:=5 } < _
    rw [e0,(zY (w:=w) (m:={ m with version:=r.version,zn:=0,end_:=0,other:=0,slot:=0,k:=0,pc:=5 }) (n:=((w.zg.length:Int) - m.i) * 20+4 * w.zc.length+5 - 1 - 0) (fun h=>by (try dsimp only at h ⊢) <;> omega) (fun h=>by (try dsimp only at h ⊢) <;> omega) (fun h=>by (try dsimp only at h ⊢) <;> omega) (fun h=>by (try dsimp only at h ⊢) <;> omega) (fun h=>by (try dsimp only at h ⊢) <;> omega) (fun h=>by (try dsimp only at h ⊢) <;> omega) (fun h=>by (try dsimp only at h ⊢) <;> omega) (fun h=>by (try dsimp only at h ⊢) <;> omega) (fun h=>by (try dsimp only at h ⊢) <;> omega) (fun h=>by (try dsimp only at h ⊢) <;> omega) (by (try dsimp only);omega))]
    omega
 replace pcs:=pcs.resolve_left p
 rw [if_neg p];clear p
 by_cases p:m.pc=5
 ·rw [if_pos p]
  have e0:=(zY (w:=w) (m:=m) (n:=((w.zg.length:Int) - m.i) * 20+4 * w.zc.length+5 - 1 - m.k) (fun h=>by (try dsimp only at h ⊢) <;> omega) (fun h=>by (try dsimp only at h ⊢) <;> omega) (fun h=>by (try dsimp only at h ⊢) <;> omega) (fun h=>by (try dsimp only at h ⊢) <;> omega) (fun h=>by (try dsimp only at h ⊢) <;> omega) (fun h=>by (try dsimp only at h ⊢) <;> omega) (fun h=>by (try dsimp only at h ⊢) <;> omega) (fun h=>by (try dsimp only at h ⊢) <;> omega) (fun h=>by (try dsimp only at h ⊢) <;> omega) (fun h=>by (try dsimp only at h ⊢) <;> omega) (by (try dsimp only);omega))
  obtain ⟨r,hr,hrv,hrg⟩:=lo.lim (.inl p)
  have hlt:=(List.getElem?_eq_some_iff.1 hr).1
  have hk2:=lo.act p
  have gv:=(gw.ver _ v su.atv).1
  have el:=vo gv
  have hw:IntKind.i64.wrap (m.i+1)=m.i+1:=qf (by omega) (by omega)
  have hwk:IntKind.i64.wrap (m.k+1)=m.k+1:=qf (by omega) (by omega)
  obtain ⟨x,hx⟩:∃ x,(qd v)[m.k.toNat]?= some x:=⟨_,List.getElem?_eq_getElem (by omega)⟩
  rw [su.atv,Option.bind_some,hx,Option.map_some]
  unfold laM
  rw [hw,hwk]
  by_cases q:x.zr≠0
  ·rw [if_pos q]
   refine qg rfl ⟨(by show (1:Int)≠0;decide),st1,rfl,⟨tm.listen,tm.word,tm.link,tm.host,tm.path,tm.d0,tm.d1,tm.cfg,tm.ans⟩,rfl,.inr ⟨⟨v,g,e,⟨su.world,su.zC,su.done,su.version,su.atv,su.zn,su.atg,su.end_,su.ate,su.other,su.slot,su.listen,(by show 0<=m.i+1;omega),su.k⟩,⟨(by dsimp only;omega),fun h=>by dsimp only at h;omega,fun _=>by show m.i+1<=(w.zg.length:Nat);omega,fun h=>by dsimp only at h;omega,fun h=>by dsimp only at h;omega,fun h=>by dsimp only at h;omega⟩⟩,?_⟩⟩
   show muC w { m with pc:=4,i:=m.i+1 } < _
   rw [e0,(zY (w:=w) (m:={ m with pc:=4,i:=m.i+1 }) (n:=((w.zg.length:Int) - (m.i+1)) * 20+4 * w.zc.length+5) (fun h=>by (try dsimp only at h ⊢) <;> omega) (fun h=>by (try dsimp only at h ⊢) <;> omega) (fun h=>by (try dsimp only at h ⊢) <;> omega) (fun h=>by (try dsimp only at h ⊢) <;> omega) (fun h=>by (try dsimp only at h ⊢) <;> omega) (fun h=>by (try dsimp only at h ⊢) <;> omega) (fun h=>by (try dsimp only at h ⊢) <;> omega) (fun h=>by (try dsimp only at h ⊢) <;> omega) (fun h=>by (try dsimp only at h ⊢) <;> omega) (fun h=>by (try dsimp only at h ⊢) <;> omega) (by (try dsimp only);omega))]
   omega
  rw [if_neg q]
  by_cases q2:m.k+1 < (qd v).length
  ·rw [if_pos q2]
   refine qg rfl ⟨(by show (1:Int)≠0;decide),st1,rfl,⟨tm.listen,tm.word,tm.link,tm.host,tm.path,tm.d0,tm.d1,tm.cfg,tm.ans⟩,rfl,.inr ⟨⟨v,g,e,⟨su.world,su.zC,su.done,su.version,su.atv,su.zn,su.atg,su.end_,su.ate,su.other,su.slot,su.listen,su.i,(by show 0<=m.k+1;omega)⟩,⟨by show (0<=m.pc∧m.pc<=6)∨_;omega,fun h=>by dsimp only at h;omega,fun h=>by dsimp only at h;omega,fun _=>⟨r,hr,hrv,hrg⟩,fun _=>q2,fun h=>by dsimp only at h;omega⟩⟩,?_⟩⟩
   show muC w { m with k:=m.k+1 } < _
   rw [e0,(zY (w:=w) (m:={ m with k:=m.k+1 }) (n:=((w.zg.length:Int) - m.i) * 20+4 * w.zc.length+5 - 1 - (m.k+1)) (fun h=>by (try dsimp only at h ⊢) <;> omega) (fun h=>by (try dsimp only at h ⊢) <;> omega) (fun h=>by (try dsimp only at h ⊢) <;> omega) (fun h=>by (try dsimp only at h ⊢) <;> omega) (fun h=>by (try dsimp only at h ⊢) <;> omega) (fun h=>by (try dsimp only at h ⊢) <;> omega) (fun h=>by (try dsimp only at h ⊢) <;> omega) (fun h=>by (try dsimp only at h ⊢) <;> omega) (fun h=>by (try dsimp only at h ⊢) <;> omega) (fun h=>by (try dsimp only at h ⊢) <;> omega) (by (try dsimp only);omega))]
   omega
  ·rw [if_neg q2]
   refine qg rfl ⟨(by show (1:Int)≠0;decide),st1,rfl,⟨tm.listen,tm.word,tm.link,tm.host,tm.path,tm.d0,tm.d1,tm.cfg,tm.ans⟩,rfl,.inr ⟨⟨v,g,e,⟨su.world,su.zC,su.done,su.version,su.atv,su.zn,su.atg,su.end_,su.ate,su.other,su.slot,su.listen,su.i,(by show 0<=m.k+1;omega)⟩,⟨(by dsimp only;omega),fun h=>by dsimp only at h;omega,fun h=>by dsimp only at h;omega,fun _=>⟨r,hr,hrv,hrg⟩,fun h=>by dsimp only at h;omega,fun h=>by dsimp only at h;omega⟩⟩,?_⟩⟩
   show muC w { m with k:=m.k+1,pc:=6 } < _
   rw [e0,(zY (w:=w) (m:={ m with k:=m.k+1,pc:=6 }) (n:=((w.zg.length:Int) - m.i) * 20+4 * w.zc.length+5 - 18) (fun h=>by (try dsimp only at h ⊢) <;> omega) (fun h=>by (try dsimp only at h ⊢) <;> omega) (fun h=>by (try dsimp only at h ⊢) <;> omega) (fun h=>by (try dsimp only at h ⊢) <;> omega) (fun h=>by (try dsimp only at h ⊢) <;> omega) (fun h=>by (try dsimp only at h ⊢) <;> omega) (fun h=>by (try dsimp only at h ⊢) <;> omega) (fun h=>by (try dsimp only at h ⊢) <;> omega) (fun h=>by (try dsimp only at h ⊢) <;> omega) (fun h=>by (try dsimp only at h ⊢) <;> omega) (by (try dsimp only);omega))]
   omega
 replace pcs:=pcs.resolve_left p
 rw [if_neg p];clear p
 by_cases p:m.pc=6
 ·rw [if_pos p]
  have e0:=(zY (w:=w) (m:=m) (n:=((w.zg.length:Int) - m.i) * 20+4 * w.zc.length+5 - 18) (fun h=>by (try dsimp only at h ⊢) <;> omega) (fun h=>by (try dsimp only at h ⊢) <;> omega) (fun h=>by (try dsimp only at h ⊢) <;> omega) (fun h=>by (try dsimp only at h ⊢) <;> omega) (fun h=>by (try dsimp only at h ⊢) <;> omega) (fun h=>by (try dsimp only at h ⊢) <;> omega) (fun h=>by (try dsimp only at h ⊢) <;> omega) (fun h=>by (try dsimp only at h ⊢) <;> omega) (fun h=>by (try dsimp only at h ⊢) <;> omega) (fun h=>by (try dsimp only at h ⊢) <;> omega) (by (try dsimp only);omega))
  obtain ⟨r,hr,hrv,hrg⟩:=lo.lim (.inr p)
  have hlt:=(List.getElem?_eq_some_iff.1 hr).1
  have hw:IntKind.i64.wrap (m.i+1)=m.i+1:=qf (by omega) (by omega)
  have st2:=st.j7 su.version.1 su.atv hr hrv
  have s1:=(List.getElem?_eq_some_iff.1 su.atv).1
  rw [su.atv,Option.bind_some,hr,Option.bind_some,if_pos ⟨hrv,hrg⟩]
  unfold frM
  rw [hw]
  refine qg rfl ⟨(by show (2:Int)≠0;decide),st2,rfl,⟨tm.listen,tm.word,tm.link,tm.host,tm.path,tm.d0,tm.d1,tm.cfg,(fun h=>absurd ((show m.op.kind=6 from h).symm.trans hk) (by decide))⟩,rfl,.inr ⟨⟨vq v,g,e,⟨qB.2 st2.jF,su.zC,su.done,by simpa using su.version,List.getElem?_set_self s1,su.zn,su.atg,su.end_,su.ate,su.other,su.slot,su.listen,by show 0<=m.i+1;omega,su.k⟩,
   ⟨(by dsimp only;omega),fun h=>by dsimp only at h;omega,fun _=>by show m.i+1<=((w.zg.set m.i.toNat (xY r)).length:Nat);rw [List.length_set];omega,fun h=>by dsimp only at h;omega,fun h=>by dsimp only at h;omega,fun h=>by dsimp only at h;omega⟩⟩,?_⟩⟩
  show muC { w with zd:=w.zd.set m.version.toNat (vq v),zg:=w.zg.set m.i.toNat (xY r) } { m with answer:={ m.answer with n:=IntKind.i64.wrap (m.answer.n+1) },pc:=4,i:=m.i+1 } < _
  have ll:(w.zg.set m.i.toNat (xY r)).length=w.zg.length:=List.length_set
  rw [e0,(zY (w:={ w with zd:=w.zd.set m.version.toNat (vq v),zg:=w.zg.set m.i.toNat (xY r) }) (m:={ m with answer:={ m.answer with n:=IntKind.i64.wrap (m.answer.n+1) },pc:=4,i:=m.i+1 }) (n:=((w.zg.length:Int) - (m.i+1)) * 20+4 * w.zc.length+5) (fun h=>by (try dsimp only at h ⊢) <;> omega) (fun h=>by (try dsimp only at h ⊢) <;> omega) (fun h=>by (try dsimp only at h ⊢) <;> omega) (fun h=>by (try dsimp only at h ⊢) <;> omega) (fun h=>by (try dsimp only at h ⊢) <;> omega) (fun h=>by (try dsimp only at h ⊢) <;> omega) (fun h=>by (try dsimp only at h ⊢) <;> omega) (fun h=>by (try dsimp only at h ⊢) <;> omega) (fun h=>by (try dsimp only at h ⊢) <;> omega) (fun h=>by (try dsimp only at h ⊢) <;> omega) (by (try dsimp only);omega))]
  omega
 replace pcs:=pcs.resolve_left p
 rw [if_neg p];clear p
 by_cases p:m.pc=8
 ·rw [if_pos p]
  have e0:=(zY (w:=w) (m:=m) (n:=((w.zc.length:Int) - m.i) * 4) (fun h=>by (try dsimp only at h ⊢) <;> omega) (fun h=>by (try dsimp only at h ⊢) <;> omega) (fun h=>by (try dsimp only at h ⊢) <;> omega) (fun h=>by (try dsimp only at h ⊢) <;> omega) (fun h=>by (try dsimp only at h ⊢) <;> omega) (fun h=>by (try dsimp only at h ⊢) <;> omega) (fun h=>by (try dsimp only at h ⊢) <;> omega) (fun h=>by (try dsimp only at h ⊢) <;> omega) (fun h=>by (try dsimp only at h ⊢) <;> omega) (fun h=>by (try dsimp only at h ⊢) <;> omega) (by (try dsimp only);omega))
  refine qg rfl (zjJ st su tm hk hN p rfl fun h=>?_)
  rw [e0]
  omega
 replace pcs:=pcs.resolve_left p
 rw [if_neg p];clear p
 by_cases p:m.pc=9
 ·rw [if_pos p]
  have e0:=(zY (w:=w) (m:=m) (n:=((w.zc.length:Int) - m.i) * 4 - 1) (fun h=>by (try dsimp only at h ⊢) <;> omega) (fun h=>by (try dsimp only at h ⊢) <;> omega) (fun h=>by (try dsimp only at h ⊢) <;> omega) (fun h=>by (try dsimp only at h ⊢) <;> omega) (fun h=>by (try dsimp only at h ⊢) <;> omega) (fun h=>by (try dsimp only at h ⊢) <;> omega) (fun h=>by (try dsimp only at h ⊢) <;> omega) (fun h=>by (try dsimp only at h ⊢) <;> omega) (fun h=>by (try dsimp only at h ⊢) <;> omega) (fun h=>by (try dsimp only at h ⊢) <;> omega) (by (try dsimp only);omega))
  obtain ⟨l,hl,hd⟩:=lo.lis (.inl p)
  have hlt:=(List.getElem?_eq_some_iff.1 hl).1
  have hw:IntKind.i64.wrap (m.i+1)=m.i+1:=qf (by omega) (by omega)
  rw [hl,Option.map_some,hw]
  by_cases q:l.zr=0
  ·rw [if_pos q]
   refine qg rfl ⟨(by show (1:Int)≠0;decide),st1,rfl,⟨tm.listen,tm.word,tm.link,tm.host,tm.path,tm.d0,tm.d1,tm.cfg,tm.ans⟩,rfl,.inr ⟨⟨v,g,e,⟨su.world,su.zC,su.done,su.version,su.atv,su.zn,su.atg,su.end_,su.ate,su.other,su.slot,su.listen,su.i,su.k⟩,⟨(by dsimp only;omega),fun h=>by dsimp only at h;omega,fun h=>by dsimp only at h;omega,fun h=>by dsimp only at h;omega,fun h=>by dsimp only at h;omega,fun _=>⟨l,hl,hd⟩⟩⟩,?_⟩⟩
   show muC w { m with pc:=10 } < _
   rw [e0,(zY (w:=w) (m:={ m with pc:=10 }) (n:=((w.zc.length:Int) - m.i) * 4 - 2) (fun h=>by (try dsimp only at h ⊢) <;> omega) (fun h=>by (try dsimp only at h ⊢) <;> omega) (fun h=>by (try dsimp only at h ⊢) <;> omega) (fun h=>by (try dsimp only at h ⊢) <;> omega) (fun h=>by (try dsimp only at h ⊢) <;> omega) (fun h=>by (try dsimp only at h ⊢) <;> omega) (fun h=>by (try dsimp only at h ⊢) <;> omega) (fun h=>by (try dsimp only at h ⊢) <;> omega) (fun h=>by (try dsimp only at h ⊢) <;> omega) (fun h=>by (try dsimp only at h ⊢) <;> omega) (by (try dsimp only);omega))]
   omega
  ·rw [if_neg q]
   refine qg rfl ⟨(by show (1:Int)≠0;decide),st1,rfl,⟨tm.listen,tm.word,tm.link,tm.host,tm.path,tm.d0,tm.d1,tm.cfg,tm.ans⟩,rfl,.inr ⟨⟨v,g,e,⟨su.world,su.zC,su.done,su.version,su.atv,su.zn,su.atg,su.end_,su.ate,su.other,su.slot,su.listen,(by show 0<=m.i+1;omega),su.k⟩,⟨(by dsimp only;omega),fun h=>by dsimp only at h;omega,fun h=>by dsimp only at h;omega,fun h=>by dsimp only at h;omega,fun h=>by dsimp only at h;omega,fun h=>by dsimp only at h;omega⟩⟩,?_⟩⟩
   show muC w { m with pc:=8,i:=m.i+1 } < _
   rw [e0,(zY (w:=w) (m:={ m with pc:=8,i:=m.i+1 }) (n:=((w.zc.length:Int) - (m.i+1)) * 4) (fun h=>by (try dsimp only at h ⊢) <;> omega) (fun h=>by (try dsimp only at h ⊢) <;> omega) (fun h=>by (try dsimp only at h ⊢) <;> omega) (fun h=>by (try dsimp only at h ⊢) <;> omega) (fun h=>by (try dsimp only at h ⊢) <;> omega) (fun h=>by (try dsimp only at h ⊢) <;> omega) (fun h=>by (try dsimp only at h ⊢) <;> omega) (fun h=>by (try dsimp only at h ⊢) <;> omega) (fun h=>by (try dsimp only at h ⊢) <;> omega) (fun h=>by (try dsimp only at h ⊢) <;> omega) (by (try dsimp only);omega))]
   omega
 rw [if_neg p]
 have p:m.pc=10:=pcs.resolve_left p
 have e0:=(zY (w:=w) (m:=m) (n:=((w.zc.length:Int) - m.i) * 4 - 2) (fun h=>by (try dsimp only at h ⊢) <;> omega) (fun h=>by (try dsimp only at h ⊢) <;> omega) (fun h=>by (try dsimp only at h ⊢) <;> omega) (fun h=>by (try dsimp only at h ⊢) <;> omega) (fun h=>by (try dsimp only at h ⊢) <;> omega) (fun h=>by (try dsimp only at h ⊢) <;> omega) (fun h=>by (try dsimp only at h ⊢) <;> omega) (fun h=>by (try dsimp only at h ⊢) <;> omega) (fun h=>by (try dsimp only at h ⊢) <;> omega) (fun h=>by (try dsimp only at h ⊢) <;> omega) (by (try dsimp only);omega))
 obtain ⟨l,hl,hd⟩:=lo.lis (.inr p)
 have hlt:=(List.getElem?_eq_some_iff.1 hl).1
 have hw:IntKind.i64.wrap (m.i+1)=m.i+1:=qf (by omega) (by omega)
 have li:=zhp (gw.lis _ l hl).1
 have st2:=st1.zbk hl (y:=wH l) rfl (ze8 li.1 li.2.1 (by show (l.drain || !true)=true;rw [hd];rfl)) (st.ty.okl l (List.mem_of_getElem? hl)).2 (by have:=st.cal.lis l (List.mem_of_getElem? hl);show l.zr<=_;omega)
 rw [if_pos p,hl,Option.bind_some,if_pos hd,hw]
 refine qg rfl ⟨(by show (2:Int)≠0;decide),st2,rfl,⟨tm.listen,tm.word,tm.link,tm.host,tm.path,tm.d0,tm.d1,tm.cfg,tm.ans⟩,rfl,.inr ⟨⟨v,g,e,⟨qB.2 st2.jF,su.zC,su.done,su.version,su.atv,su.zn,su.atg,su.end_,su.ate,su.other,su.slot,by simpa using su.listen,by show 0<=m.i+1;omega,su.k⟩,⟨(by dsimp only;omega),fun h=>by dsimp only at h;omega,fun h=>by dsimp only at h;omega,fun h=>by dsimp only at h;omega,fun h=>by dsimp only at h;omega,fun h=>by dsimp only at h;omega⟩⟩,?_⟩⟩
 show muC { w with zc:=w.zc.set m.i.toNat (wH l) } { m with pc:=8,i:=m.i+1 } < _
 have ll:(w.zc.set m.i.toNat (wH l)).length=w.zc.length:=List.length_set
 rw [e0,(zY (w:={ w with zc:=w.zc.set m.i.toNat (wH l) }) (m:={ m with pc:=8,i:=m.i+1 }) (n:=((w.zc.length:Int) - (m.i+1)) * 4) (fun h=>by (try dsimp only at h ⊢) <;> omega) (fun h=>by (try dsimp only at h ⊢) <;> omega) (fun h=>by (try dsimp only at h ⊢) <;> omega) (fun h=>by (try dsimp only at h ⊢) <;> omega) (fun h=>by (try dsimp only at h ⊢) <;> omega) (fun h=>by (try dsimp only at h ⊢) <;> omega) (fun h=>by (try dsimp only at h ⊢) <;> omega) (fun h=>by (try dsimp only at h ⊢) <;> omega) (fun h=>by (try dsimp only at h ⊢) <;> omega) (fun h=>by (try dsimp only at h ⊢) <;> omega) (by (try dsimp only);omega))]
 omega
end
end Go.Wor
namespace Go.Wor
open Go.Ab Go.Proofs Go.Gat Go.Nam Go.Hos Go.Con Go.Sna Go.Pla
open Go.Hy hiding encI
def zl8 (w:Wor) (m:Mac) (v:Ver) (g:Gr) (e:En):Prop:=(m.op.kind=1∧zli w m v g e)∨(m.op.kind=2∧zlg w m v g e)∨(m.op.kind=3∧zmS w m v g e)∨(m.op.kind=4∧zlh w m v g e)∨(m.op.kind=5∧zeq w m v g e)∨(m.op.kind=6∧zmT w m v g e)
def zl4 (m:Mac):Prop:=1<=m.answer.kind∧m.answer.kind<=13∧(m.op.kind=1↔m.answer.kind<=5)
def muA (w:Wor) (m:Mac):Nat:=if m.op.kind=1 then muH w m else if m.op.kind=3 then muS w m else if m.op.kind=5 then muC w m else if m.op.kind=6 then muT w m else 0
section
variable {N K:Nat} {w:Wor} {m:Mac} {v:Ver} {g:Gr} {e:En}
theorem Nx.up {k:Int} {L:Wor->Mac->Ver->Gr->En->Prop} {F:Mac->Prop} {μ:Wor->Mac->Nat} {r:Wor × Mac × Eve} (h:Nx N K w m L F μ r) (hk:m.op.kind=k) (hL:∀ w' m' v g e,m'.op.kind=k->L w' m' v g e->zl8 w' m' v g e) (hF:∀ m',m'.op.kind=k->F m'->zl4 m') (hμ:∀ w' m',m'.op.kind=k->muA w' m'=μ w' m'):Nx N K w m zl8 zl4 muA r:=by
 have hk':r.2.1.op.kind=k:=by rw [h.op];exact hk
 refine ⟨h.ev,h.st,h.pins,h.tm,h.op,?_⟩
 rcases h.go with ⟨h1,h2⟩ | ⟨⟨v',g',e',h1,h2⟩,h3⟩
 ·exact .inl ⟨h1,hF _ hk' h2⟩
 ·exact .inr ⟨⟨v',g',e',h1,hL _ _ _ _ _ hk' h2⟩,by rw [hμ _ _ hk',hμ _ _ hk];exact h3⟩
end
theorem zgX {w:Wor} {m:Mac} {v:Ver} {g:Gr} {e:En} (su:yi w m v g e):jx w m=true:=by
 unfold jx
 simp only [Bool.and_eq_true,Bool.not_eq_true',yW]
 refine ⟨⟨⟨⟨su.world,su.zC⟩,su.done⟩,su.version⟩,?_⟩
 rw [su.atv]
 simp only [Bool.and_eq_true,yW]
 refine ⟨su.zn,?_⟩
 rw [su.atg]
 simp only [Bool.and_eq_true,yW,decide_eq_true_eq]
 rw [su.ate]
 simp only [yW]
 exact ⟨⟨⟨su.end_,su.other⟩,su.slot⟩,⟨⟨by have:=su.listen;omega,su.i⟩,su.k⟩⟩
end Go.Wor
