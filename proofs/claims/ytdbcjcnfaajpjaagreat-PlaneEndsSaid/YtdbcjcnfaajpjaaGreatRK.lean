import Derived.Test.YtdbcjcnfaajpjaaGreatRS
import Derived.Test.YtdbcjcnfaajpjaaGreatRI
set_option linter.unusedVariables false
set_option linter.unusedSimpArgs false
set_option linter.unusedSectionVars false
set_option maxRecDepth 100000
set_option maxHeartbeats 4000000
namespace Go.Slp
open Go.Ab Go.Hy
theorem zjh {x i:Int} (h1: -1<=i) (h2:i<=2147483646):xx x i % 4294967296 - 1=i:=by unfold xx;omega
theorem zmr {x i:Int} (h1: -1<=i) (h2:i<=2147483646):u64 (xx x i):=by unfold xx u64;omega
theorem w8 (nx:List Int) (i0:Int):∀ k,jY nx (nxt nx i0) k=jY nx i0 (k+1)
 | 0=>rfl
 | k+1=>by
  show nxt nx (jY nx (nxt nx i0) k)=nxt nx (jY nx i0 (k+1))
  rw [w8 nx i0 k]
theorem zfM (nx:List Int) (i0:Int) (k:Nat):yM nx i0 (k+1)=i0::yM nx (nxt nx i0) k:=by
 unfold yM
 rw [List.range_succ_eq_map,List.map_cons,List.map_map]
 congr 1
 apply List.map_congr_left
 intro j _
 exact (w8 nx i0 j).symm
theorem ziu {nx:List Int} {i0:Int} (h:okV nx i0=true) (h0:¬i0 < 0):xj nx (nxt nx i0)+1=xj nx i0∧okV nx (nxt nx i0)=true∧yM nx i0 (xj nx i0)=i0::yM nx (nxt nx i0) (xj nx (nxt nx i0)):=by
 have hp:=zjW h h0
 obtain ⟨N,hN⟩:∃ N,xj nx i0=N+1:=⟨xj nx i0 - 1,by omega⟩
 obtain ⟨c1,c2,c3⟩:=wh nx i0
 have hend:jY nx (nxt nx i0) N= -1:=by
  rw [w8,<- hN]
  simpa [okV] using h
 have e:xj nx (nxt nx i0)=N:=by
  refine zlX ?_ ?_
  ·have:inB nx (jY nx (nxt nx i0) N)=false:=by rw [hend];simp [inB]
   simp [yG,this]
  ·intro j hj
   have:=c3 (j+1) (by omega)
   simp only [yG,Bool.or_eq_false_iff,Bool.not_eq_false'] at this ⊢
   rw [w8]
   refine ⟨this.1,?_⟩
   have h2:=this.2
   rw [zfM] at h2
   simp only [List.contains_cons,Bool.or_eq_false_iff] at h2
   exact h2.2
 refine ⟨by rw [e,hN],by simp [okV,e,hend],?_⟩
 rw [hN,e,zfM]
end Go.Slp
namespace Go.Wor
open Go.Ab Go.Proofs Go.Hy Go.Gat Go.Nam Go.Hos Go.Con Go.Sna
theorem mem_set {α:Type} {l:List α} {i:Nat} {x y:α} (h:y ∈ l.set i x):y ∈ l∨y=x:=List.mem_or_eq_of_mem_set h
theorem zba {α:Type} {l:List α} {i j:Nat} {x y:α} (h:(l.set i x)[j]?= some y):(i=j∧y=x∧i < l.length)∨(i≠j∧l[j]?= some y):=by
 rw [List.getElem?_set] at h
 split at h
 ·rename_i hij
  split at h
  ·rename_i hlt;cases h;exact .inl ⟨hij,rfl,hlt⟩
  ·cases h
 ·rename_i hij;exact .inr ⟨hij,h⟩
theorem jF.pin {w:Wor} (h:jF w) (t:Nat) {p:Int} (h0:0<=p) (h1:p<=w.zn+1):jF (zd9 w t p):=by
 have g:=qm.1 h.ground
 refine ⟨qm.2 ⟨by simpa using g.pins,⟨by simpa using g.counts.1,g.counts.2⟩,g.zn,g.lock,fun q hq=>?_⟩,h.current,h.zm,h.bad,h.ver,h.lis⟩
 rcases mem_set hq with hq | rfl
 ·exact g.pin q hq
 ·exact ⟨h0,h1⟩
theorem jF.count {w:Wor} (h:jF w) (t:Nat) {r:List Int} (h0:r.length=6):jF { w with counts:=w.counts.set t r }:=by
 have g:=qm.1 h.ground
 refine ⟨qm.2 ⟨g.pins,⟨by simpa using g.counts.1,fun q hq=>?_⟩,g.zn,g.lock,g.pin⟩,h.current,h.zm,h.bad,h.ver,h.lis⟩
 rcases mem_set hq with hq | rfl
 ·exact g.counts.2 q hq
 ·exact h0
theorem jF.lck {w:Wor} (h:jF w) {n:Int} (h0:n=0∨n=1):jF { w with lock:=n }:=by
 have g:=qm.1 h.ground
 exact ⟨qm.2 ⟨g.pins,g.counts,g.zn,h0,g.pin⟩,h.current,h.zm,h.bad,h.ver,h.lis⟩
theorem jF.epo {w:Wor} (h:jF w) {n:Int} (h0:w.zn<=n) (h1:n<=1000000000000):jF { w with zn:=n }:=by
 have g:=qm.1 h.ground
 refine ⟨qm.2 ⟨g.pins,g.counts,⟨by have:=g.zn.1;show 0<=n;omega,h1⟩,g.lock,fun p hp=>by have:=g.pin p hp;show _∧p<=n+1;omega⟩,h.current,h.zm,fun r hr=>?_,h.ver,h.lis⟩
 have:=h.bad r hr
 unfold xl at this ⊢
 simp at this ⊢
 exact ⟨⟨this.1.1,this.1.2⟩,by omega⟩
theorem zli {l l':List Lis} (h:l.map (·.name)=l'.map (·.name)) (s:Str):qd l s=qd l' s:=by
 unfold qd
 have:l.findIdx? (fun r=>r.name == s)=l'.findIdx? (fun r=>r.name == s):=by
  have e:∀ l:List Lis,l.findIdx? (fun r=>r.name == s)=(l.map (·.name)).findIdx? (fun x=>x == s):=fun l=>by rw [List.findIdx?_map];rfl
  rw [e,e,h]
 rw [this]
theorem zkU {l:List Lis} {i:Nat} {x y:Lis} (hx:l[i]?= some x) (h:y.name=x.name):(l.set i y).map (·.name)=l.map (·.name):=by
 rw [List.map_set]
 exact x6 _ _ (by rw [List.getElem?_map,hx,Option.map_some,h])
theorem jF.zbf {w:Wor} (h:jF w) {i:Nat} {x y:Lis} (hx:w.ze[i]?= some x) (hn:y.name=x.name) (hy:Go.Gat.isV y=true):jF { w with ze:=w.ze.set i y }:=by
 refine ⟨h.ground,h.current,h.zm,h.bad,h.ver,fun j l hl=>?_⟩
 show _∧qd (w.ze.set i y) l.name=j
 rw [zli (zkU hx hn)]
 rcases zba hl with ⟨rfl,rfl,_⟩ | ⟨_,hl⟩
 ·rw [hn]
  exact ⟨hy,(h.lis i x hx).2⟩
 ·exact h.lis j l hl
theorem kM.ze3 {m:Mac} {v:Ver} {g:Gr} {e:En} (h:kM v) (hg:v.zf[m.zg.toNat]?= some g) (he:g.ends[m.end_.toNat]?= some e) {e':En} {tk:Int} (hi:Slp.isV e'=true) (hl:e'.next.length=e.next.length):
  kM { v with zf:=v.zf.set m.zg.toNat { g with zu:=tk,ends:=g.ends.set m.end_.toNat e' } }:=by
 refine ⟨h.snap,by simpa using h.len,fun i g2 x hg2 hx=>?_⟩
 rcases zba hg2 with ⟨rfl,rfl,_⟩ | ⟨_,hg2⟩
 ·obtain ⟨h1,h2⟩:=h.grp _ g x hg hx
  refine ⟨by simpa using h1,fun y hy=>?_⟩
  rcases mem_set hy with hy | rfl
  ·exact h2 y hy
  ·exact ⟨hi,by rw [hl];exact (h2 e (List.mem_of_getElem? he)).len⟩
 ·exact h.grp i g2 x hg2 hx
theorem jF.ze3 {w:Wor} {m:Mac} {v:Ver} {g:Gr} {e:En} (h:jF w) (hat:AtE w m v g e) {e':En} {tk:Int} (hi:Slp.isV e'=true) (hl:e'.next.length=e.next.length):
  jF { w with zd:=w.zd.set m.version.toNat { v with zf:=v.zf.set m.zg.toNat { g with zu:=tk,ends:=g.ends.set m.end_.toNat e' } } }:=by
 refine ⟨h.ground,by simpa using h.current,h.zm,fun r hr=>?_,fun i v2 hv=>?_,h.lis⟩
 ·have:=h.bad r hr
  unfold xl at this ⊢
  simpa using this
 ·rcases zba hv with ⟨rfl,rfl,_⟩ | ⟨_,hv⟩
  ·obtain ⟨h1,h2⟩:=h.ver _ v hat.at_
   exact ⟨h1.ze3 hat.atg hat.ate hi hl,h2⟩
  ·exact h.ver i v2 hv
end Go.Wor
namespace Go.Wor
open Go.Ab Go.Proofs Go.Hy Go.Gat Go.Nam Go.Hos Go.Con Go.Sna
structure Cal (K:Nat) (w:Wor):Prop where
 lis:∀ l ∈ w.ze,l.zj<=K
 ends : ∀ v ∈ w.zd, ∀ g ∈ v.zf, ∀ e ∈ g.ends, e.zj <= K
structure St (N K:Nat) (w:Wor):Prop where
 jv:jF w
 ty:TyW N w
 cal:Cal K w
theorem St.mono {N K N' K':Nat} {w:Wor} (h:St N K w) (hN:N<=N') (hK:K<=K'):St N' K' w:=
 ⟨h.jv,⟨by have:=h.ty.zc2;omega,by have:=h.ty.lis;omega,by have:=h.ty.lim;omega,h.ty.okv,h.ty.okl⟩,⟨fun l hl=>by have:=h.cal.lis l hl;omega,fun v hv g hg e he=>by have:=h.cal.ends v hv g hg e he;omega⟩⟩
theorem St.pin {N K:Nat} {w:Wor} (h:St N K w) (t:Nat) {p:Int} (h0:0<=p) (h1:p<=w.zn+1):St N K (zd9 w t p):=⟨h.jv.pin t h0 h1,⟨h.ty.zc2,h.ty.lis,h.ty.lim,h.ty.okv,h.ty.okl⟩,⟨h.cal.lis,h.cal.ends⟩⟩
theorem St.count {N K:Nat} {w:Wor} (h:St N K w) (t:Nat) {r:List Int} (h0:r.length=6):St N K { w with counts:=w.counts.set t r }:=⟨h.jv.count t h0,⟨h.ty.zc2,h.ty.lis,h.ty.lim,h.ty.okv,h.ty.okl⟩,⟨h.cal.lis,h.cal.ends⟩⟩
theorem St.lck {N K:Nat} {w:Wor} (h:St N K w) {n:Int} (h0:n=0∨n=1):St N K { w with lock:=n }:=⟨h.jv.lck h0,⟨h.ty.zc2,h.ty.lis,h.ty.lim,h.ty.okv,h.ty.okl⟩,⟨h.cal.lis,h.cal.ends⟩⟩
theorem St.epo {N K:Nat} {w:Wor} (h:St N K w) {n:Int} (h0:w.zn<=n) (h1:n<=1000000000000):St N K { w with zn:=n }:=⟨h.jv.epo h0 h1,⟨h.ty.zc2,h.ty.lis,h.ty.lim,h.ty.okv,h.ty.okl⟩,⟨h.cal.lis,h.cal.ends⟩⟩
theorem St.zbf {N K:Nat} {w:Wor} (h:St N K w) {i:Nat} {x y:Lis} (hx:w.ze[i]?= some x) (hn:y.name=x.name) (hy:Go.Gat.isV y=true) (hi:i64 y.zj) (hk:y.zj<=K):St N K { w with ze:=w.ze.set i y }:=by
 refine ⟨h.jv.zbf hx hn hy,⟨h.ty.zc2,by simpa using h.ty.lis,h.ty.lim,h.ty.okv,fun l hl=>?_⟩,⟨fun l hl=>?_,h.cal.ends⟩⟩
 ·rcases mem_set hl with hl | rfl
  ·exact h.ty.okl l hl
  ·exact ⟨by rw [hn];exact (h.ty.okl x (List.mem_of_getElem? hx)).1,hi⟩
 ·rcases mem_set hl with hl | rfl
  ·exact h.cal.lis l hl
  ·exact hk
theorem St.ze3 {N K:Nat} {w:Wor} {m:Mac} {v:Ver} {g:Gr} {e:En} (h:St N K w) (hat:AtE w m v g e) {e':En} {tk:Int} (hi:Slp.isV e'=true) (hl:e'.next.length=e.next.length) (ho:e'.ok) (ht:u64 tk) (hk:e'.zj<=K):
  St N K { w with zd:=w.zd.set m.version.toNat { v with zf:=v.zf.set m.zg.toNat { g with zu:=tk,ends:=g.ends.set m.end_.toNat e' } } }:=by
 have mv:=List.mem_of_getElem? hat.at_
 have mg:=List.mem_of_getElem? hat.atg
 refine ⟨h.jv.ze3 hat hi hl,⟨by simpa using h.ty.zc2,h.ty.lis,h.ty.lim,fun v2 hv=>?_,h.ty.okl⟩,⟨h.cal.lis,fun v2 hv g2 hg e2 he=>?_⟩⟩
 ·rcases mem_set hv with hv | rfl
  ·exact h.ty.okv v2 hv
  ·refine ⟨(h.ty.okv v mv).1,fun g2 hg=>?_⟩
   rcases mem_set hg with hg | rfl
   ·exact (h.ty.okv v mv).2 g2 hg
   ·refine ⟨ht,fun e2 he=>?_⟩
    rcases mem_set he with he | rfl
    ·exact ((h.ty.okv v mv).2 g mg).2 e2 he
    ·exact ho
 ·rcases mem_set hv with hv | rfl
  ·exact h.cal.ends v2 hv g2 hg e2 he
  ·rcases mem_set hg with hg | rfl
   ·exact h.cal.ends v mv g2 hg e2 he
   ·rcases mem_set he with he | rfl
    ·exact h.cal.ends v mv g mg e2 he
    ·exact hk
theorem zdS (h:List Bool):∀ k x,x ∈ kZ h k->0<=x∧x < k∧x < h.length
 | 0,x,hx=>by cases hx
 | k+1,x,hx=>by
  simp only [kZ] at hx
  split at hx
  ·rename_i hk
   rcases List.mem_append.1 hx with hx | hx
   ·have:=zdS h k x hx
    omega
   ·rw [List.mem_singleton.1 hx]
    have:=(List.getElem?_eq_some_iff.1 hk).1
    omega
  ·have:=zdS h k x hx
   omega
theorem ziR {c:Clu} {n:Int} (h:(hlt c).length≠0):0<=((hlt c)[(n % (hlt c).length).toNat]?).getD 0∧((hlt c)[(n % (hlt c).length).toNat]?).getD 0 < c.zI.length:=by
 have h1:0<=n % (hlt c).length:=Int.emod_nonneg _ (by omega)
 have h2:n % (hlt c).length < (hlt c).length:=Int.emod_lt_of_pos _ (by omega)
 have h3:(n % (hlt c).length).toNat < (hlt c).length:=by omega
 rw [List.getElem?_eq_getElem h3,Option.getD_some]
 have:=zdS c.zI c.zI.length _ (List.getElem_mem h3)
 omega
theorem zm1 (n:Int):u64 (IntKind.u64.wrap n):=by
 have h:IntKind.u64.wrap n=n % 18446744073709551616:=rfl
 rw [h]
 unfold u64
 omega
end Go.Wor
namespace Go.Wor
open Go.Ab Go.Proofs Go.Hy Go.Gat Go.Nam Go.Hos Go.Con Go.Sna
structure Nx (N K:Nat) (w:Wor) (m:Mac) (L:Wor->Mac->Ver->Gr->En->Prop) (F:Mac->Prop) (μ:Wor->Mac->Nat) (r:Wor × Mac × Eve):Prop where
 ev:r.2.2.access≠0
 st:St (N+1) (K+1) r.1
 pins:r.1.pins.length=w.pins.length
 tm:TyM r.2.1
 op:r.2.1.op=m.op
 go:(r.2.1.done=true∧F r.2.1)∨(∃ v g e,qI r.1 r.2.1 v g e∧L r.1 r.2.1 v g e)∧μ r.1 r.2.1 < μ w m
structure xz (w:Wor) (m:Mac) (v:Ver) (g:Gr) (e:En):Prop where
 pc:(0<=m.pc∧m.pc<=12)∨(20<=m.pc∧m.pc<=23)
 ep:m.pc=1∨m.pc=2->m.zn=w.zn
 lis:(4<=m.pc∧m.pc<=12)∨m.pc=22->0<=m.listen
 early:4<=m.pc∧m.pc<=5->m.zg=0∧m.end_=0∧m.other=0
 mid:4<=m.pc∧m.pc<=8->m.slot=0
 draw:m.pc=6->∃ c,v.snap.zk[m.zg.toNat]?= some c∧(hlt c).length≠0
 slot:m.pc=10∨m.pc=11->m.slot=zR m.word∧e.head=m.word
 link:m.pc=11->e.next[m.slot.toNat]?= some m.link
 ans:20<=m.pc->1<=m.answer.kind∧m.answer.kind<=5
 in_:(5<=m.pc∧m.pc<=12)∨(20<=m.pc∧m.pc<=22)->0<=m.listen->∃ x,w.ze[m.listen.toNat]?= some x∧1<=x.zj
def k5 (m:Mac):Prop:=1<=m.answer.kind∧m.answer.kind<=5
def muH (_:Wor) (m:Mac):Nat:=(24 - m.pc).toNat
theorem jq {w w':Wor} {m m':Mac} (h:m.pc < m'.pc) (h2:m'.pc<=23):muH w' m' < muH w m:=by unfold muH;omega
theorem zcG (l:List Lis) (s:Str): -1<=qd l s∧qd l s < l.length:=by
 unfold qd
 cases h:l.findIdx? (fun r=>r.name == s) with
 | none=>simp only;omega
 | some i=>
  have:=(List.findIdx?_eq_some_iff_getElem.1 h).1
  simp only
  omega
theorem wo {v:Ver} (h:kM v) {k:Nat} (hk:k < v.zf.length):∃ g e,v.zf[k]?= some g∧g.ends[0]?= some e∧0 < g.ends.length∧0 < e.next.length:=by
 obtain ⟨g,hg⟩:∃ g,v.zf[k]?= some g:=⟨_,List.getElem?_eq_getElem hk⟩
 have f:=h.few.2 g (List.mem_of_getElem? hg)
 have hl:0 < g.ends.length:=by omega
 have he:g.ends[0]?= some g.ends[0]:=List.getElem?_eq_getElem hl
 exact ⟨g,g.ends[0],hg,he,hl,by have:=(f.2.2 _ (List.mem_of_getElem? he)).2.2;omega⟩
section
variable {N K:Nat} {w:Wor} {m:Mac} {v:Ver} {g:Gr} {e:En}
theorem zew (su:qI w m v g e) {e':En} {tk:Int} (hl:e'.next.length=e.next.length) (gw:jF { w with zd:=w.zd.set m.version.toNat { v with zf:=v.zf.set m.zg.toNat { g with zu:=tk,ends:=g.ends.set m.end_.toNat e' } } }) {m':Mac}
  (h1:m'.zq=m.zq) (h2:m'.done=false) (h3:m'.version=m.version) (h4:m'.zg=m.zg) (h5:m'.end_=m.end_) (h6:m'.other=m.other) (h7:m'.slot=m.slot) (h8:m'.listen=m.listen) (h9:m'.i=m.i) (h10:m'.k=m.k):
  qI { w with zd:=w.zd.set m.version.toNat { v with zf:=v.zf.set m.zg.toNat { g with zu:=tk,ends:=g.ends.set m.end_.toNat e' } } } m'
   { v with zf:=v.zf.set m.zg.toNat { g with zu:=tk,ends:=g.ends.set m.end_.toNat e' } } { g with zu:=tk,ends:=g.ends.set m.end_.toNat e' } e':=by
 have s1:=(List.getElem?_eq_some_iff.1 su.atv).1
 have s2:=(List.getElem?_eq_some_iff.1 su.atg).1
 have s3:=(List.getElem?_eq_some_iff.1 su.ate).1
 refine ⟨qh.2 gw,by rw [h1];exact su.zq,h2,?_,?_,?_,?_,?_,?_,?_,?_,?_,by rw [h9];exact su.i,by rw [h10];exact su.k⟩
 ·rw [h3];simpa using su.version
 ·rw [h3];exact List.getElem?_set_self s1
 ·rw [h4];simpa using su.zg
 ·rw [h4];exact List.getElem?_set_self s2
 ·rw [h5];simpa using su.end_
 ·rw [h5];exact List.getElem?_set_self s3
 ·rw [h6];simpa using su.other
 ·rw [h7,hl];exact su.slot
 ·rw [h8];exact su.listen
theorem zU {r:Wor × Mac × Eve} {P:Wor × Mac × Eve->Prop} {o:Res} (h:o=some r) (hp:P r):∃ r,o=some r∧P r:=⟨r,h,hp⟩
theorem znJ (st:St N K w) (su:qI w m v g e) (tm:TyM m) (lo:xz w m v g e) (h3:m.pc < 3):∃ r,qn w m v g e=some r∧Nx N K w m xz k5 muH r:=by
 have gw:=st.jv
 have ge:=qm.1 gw.ground
 have hep:=ge.zn
 have st1:St (N+1) (K+1) w:=st.mono (by omega) (by omega)
 have lp:=lo.pc
 unfold qn
 rw [if_pos h3]
 unfold znM
 rcases (by omega:m.pc=0∨m.pc=1∨m.pc=2) with p | p | p
 ·rw [if_pos p]
  refine zU rfl ⟨(by show (1:Int)≠0;decide),st1,rfl,⟨tm.listen,tm.word,tm.link,tm.host,tm.path,tm.d0,tm.d1,tm.cfg,tm.ans⟩,rfl,.inr ⟨⟨v,g,e,⟨su.world,su.zq,su.done,su.version,su.atv,su.zg,su.atg,su.end_,su.ate,su.other,su.slot,su.listen,su.i,su.k⟩,
   ⟨(by dsimp only;omega),fun _=>rfl,fun h=>by dsimp only at h;omega,fun h=>by dsimp only at h;omega,fun h=>by dsimp only at h;omega,fun h=>by dsimp only at h;omega,fun h=>by dsimp only at h;omega,fun h=>by dsimp only at h;omega,fun h=>by dsimp only at h;omega,fun h=>by dsimp only at h;omega⟩⟩,jq (by show m.pc < 1;omega) (by show (1:Int)<=23;decide)⟩⟩
 ·have he:=lo.ep (.inl p)
  have hw:IntKind.i64.wrap (m.zn+1)=w.zn+1:=by rw [he];exact jw (by omega) (by omega)
  rw [if_neg (by omega),if_pos p,hw]
  have sp:=st1.pin m.zq.toNat (p:=w.zn+1) (by omega) (by omega)
  refine zU rfl ⟨(by show (2:Int)≠0;decide),sp,by simp,⟨tm.listen,tm.word,tm.link,tm.host,tm.path,tm.d0,tm.d1,tm.cfg,tm.ans⟩,rfl,.inr ⟨⟨v,g,e,⟨qh.2 sp.jv,by simpa using su.zq,su.done,su.version,su.atv,su.zg,su.atg,su.end_,su.ate,su.other,su.slot,su.listen,su.i,su.k⟩,
   ⟨(by dsimp only;omega),fun _=>he,fun h=>by dsimp only at h;omega,fun h=>by dsimp only at h;omega,fun h=>by dsimp only at h;omega,fun h=>by dsimp only at h;omega,fun h=>by dsimp only at h;omega,fun h=>by dsimp only at h;omega,fun h=>by dsimp only at h;omega,fun h=>by dsimp only at h;omega⟩⟩,jq (by show m.pc < 2;omega) (by show (2:Int)<=23;decide)⟩⟩
 ·have he:=lo.ep (.inr p)
  rw [if_neg (by omega),if_neg (by omega),if_pos p,if_pos he.symm]
  refine zU rfl ⟨(by show (1:Int)≠0;decide),st1,rfl,⟨tm.listen,tm.word,tm.link,tm.host,tm.path,tm.d0,tm.d1,tm.cfg,tm.ans⟩,rfl,.inr ⟨⟨v,g,e,⟨su.world,su.zq,su.done,su.version,su.atv,su.zg,su.atg,su.end_,su.ate,su.other,su.slot,su.listen,su.i,su.k⟩,
   ⟨(by dsimp only;omega),fun h=>by dsimp only at h;omega,fun h=>by dsimp only at h;omega,fun h=>by dsimp only at h;omega,fun h=>by dsimp only at h;omega,fun h=>by dsimp only at h;omega,fun h=>by dsimp only at h;omega,fun h=>by dsimp only at h;omega,fun h=>by dsimp only at h;omega,fun h=>by dsimp only at h;omega⟩⟩,jq (by show m.pc < 3;omega) (by show (3:Int)<=23;decide)⟩⟩
end
end Go.Wor
namespace Go.Wor
open Go.Ab Go.Proofs Go.Hy Go.Gat Go.Nam Go.Hos Go.Con Go.Sna
theorem zns {e:En} (h:Slp.isV e=true) (n:Int) (h0:0<=n):Slp.isV (jl e e.head n)=true:=by
 obtain ⟨h1,h2,h3,h4⟩:=Slp.zgk h
 unfold Slp.isV
 simp only [Bool.and_eq_true,decide_eq_true_eq]
 exact ⟨⟨⟨h1,h2⟩,h3⟩,h0⟩
theorem zda {l:Lis} (h:Go.Gat.isV l=true):j0 l.name=true∧0<=l.zj∧(l.drain || !l.closed)=true:=by
 unfold Go.Gat.isV at h
 simp only [Bool.and_eq_true,decide_eq_true_eq] at h
 exact ⟨h.1.1,h.1.2,h.2⟩
theorem zdX {l:Lis} (h1:j0 l.name=true) (h2:0<=l.zj) (h3:(l.drain || !l.closed)=true):Go.Gat.isV l=true:=by
 unfold Go.Gat.isV
 simp only [Bool.and_eq_true,decide_eq_true_eq]
 exact ⟨⟨h1,h2⟩,h3⟩
section
variable {N K:Nat} {w:Wor} {m:Mac} {v:Ver} {g:Gr} {e:En}
theorem zoO (st:St N K w) (su:qI w m v g e) (tm:TyM m) (lo:xz w m v g e) (hk:m.op.kind=1) (hN:N<=100000000) (p:m.pc=3):∃ r,qn w m v g e=some r∧Nx N K w m xz k5 muH r:=by
 have gw:=st.jv
 have st1:St (N+1) (K+1) w:=st.mono (by omega) (by omega)
 have pr:=zcG w.ze m.op.listen
 have hl:=st.ty.lis
 have cu:=gw.current
 obtain ⟨v',hv'⟩:∃ v',w.zd[w.current.toNat]?= some v':=⟨_,List.getElem?_eq_getElem (by omega)⟩
 have gv:=(gw.ver _ v' hv').1
 have h0:0 < v'.zf.length:=by have:=(jE gv.snap).zk.1;have:=gv.len;omega
 obtain ⟨g',e',hg,he,l1,l2⟩:=wo gv h0
 unfold qn
 rw [if_neg (by omega),if_pos p]
 by_cases q:qd w.ze m.op.listen < 0
 ·rw [if_pos q]
  refine zU rfl ⟨(by show (1:Int)≠0;decide),st1,rfl,⟨by show i64 (qd w.ze m.op.listen);unfold i64;omega,tm.word,tm.link,tm.host,tm.path,tm.d0,tm.d1,tm.cfg,(fun h=>absurd ((show m.op.kind=6 from h).symm.trans hk) (by decide))⟩,rfl,.inr ⟨⟨v',g',e',⟨su.world,su.zq,su.done,cu,hv',⟨Int.le_refl _,by show (0:Int) < _;omega⟩,hg,⟨Int.le_refl _,by show (0:Int) < _;omega⟩,he,⟨Int.le_refl _,by show (0:Int) < _;omega⟩,⟨Int.le_refl _,by show (0:Int) < _;omega⟩,pr,su.i,su.k⟩,⟨(by dsimp only;omega),fun h=>by dsimp only at h;omega,fun h=>by dsimp only at h;omega,fun h=>by dsimp only at h;omega,fun h=>by dsimp only at h;omega,fun h=>by dsimp only at h;omega,fun h=>by dsimp only at h;omega,fun h=>by dsimp only at h;omega,fun _=>⟨by show (1:Int)<=2;decide,by show (2:Int)<=5;decide⟩,(fun _ h=>absurd (show 0<=qd w.ze m.op.listen from h) (by omega))⟩⟩,jq (by show m.pc < 20;omega) (by show (20:Int)<=23;decide)⟩⟩
 ·rw [if_neg q]
  refine zU rfl ⟨(by show (1:Int)≠0;decide),st1,rfl,⟨by show i64 (qd w.ze m.op.listen);unfold i64;omega,tm.word,tm.link,tm.host,tm.path,tm.d0,tm.d1,tm.cfg,tm.ans⟩,rfl,.inr ⟨⟨v',g',e',⟨su.world,su.zq,su.done,cu,hv',⟨Int.le_refl _,by show (0:Int) < _;omega⟩,hg,⟨Int.le_refl _,by show (0:Int) < _;omega⟩,he,⟨Int.le_refl _,by show (0:Int) < _;omega⟩,⟨Int.le_refl _,by show (0:Int) < _;omega⟩,pr,su.i,su.k⟩,
   ⟨(by dsimp only;omega),fun h=>by dsimp only at h;omega,fun _=>by show 0<=qd w.ze m.op.listen;omega,fun _=>⟨rfl,rfl,rfl⟩,fun _=>rfl,fun h=>by dsimp only at h;omega,fun h=>by dsimp only at h;omega,fun h=>by dsimp only at h;omega,fun h=>by dsimp only at h;omega,fun h=>by dsimp only at h;omega⟩⟩,jq (by show m.pc < 4;omega) (by show (4:Int)<=23;decide)⟩⟩
theorem zj8 (st:St N K w) (su:qI w m v g e) {x:Lis} (hx:w.ze[m.listen.toNat]?= some x) (n:Int) (h0:0<=n) (h1:n<=K+1) (hK:K<=1099511627776):St (N+1) (K+1) { w with ze:=w.ze.set m.listen.toNat { x with zj:=n } }:=by
 have li:=zda (st.jv.lis _ x hx).1
 exact (st.mono (by omega) (by omega):St (N+1) (K+1) w).zbf hx rfl (zdX li.1 h0 li.2.2) (by show i64 n;unfold i64;omega) (by show n<=_;omega)
theorem zoP (st:St N K w) (su:qI w m v g e) (tm:TyM m) (lo:xz w m v g e) (hk:m.op.kind=1) (hK:K<=1099511627776) (p:m.pc=4):∃ r,qn w m v g e=some r∧Nx N K w m xz k5 muH r:=by
 have gw:=st.jv
 have l0:=lo.lis (.inl (by omega))
 have sl:=su.listen
 obtain ⟨x,hx⟩:∃ x,w.ze[m.listen.toNat]?= some x:=⟨_,List.getElem?_eq_getElem (by omega)⟩
 have li:=zda (gw.lis _ x hx).1
 have ca:=st.cal.lis x (List.mem_of_getElem? hx)
 have hw:IntKind.i64.wrap (x.zj+1)=x.zj+1:=jw (by omega) (by omega)
 have st2:=zj8 st su hx (x.zj+1) (by omega) (by omega) hK
 unfold qn zgn
 rw [if_neg (by omega),if_neg (by omega),if_pos p,if_neg (by omega),hx,Option.map_some]
 unfold zn9
 rw [hw]
 refine zU rfl ⟨(by show (3:Int)≠0;decide),st2,rfl,⟨tm.listen,tm.word,tm.link,tm.host,tm.path,tm.d0,tm.d1,tm.cfg,tm.ans⟩,rfl,.inr ⟨⟨v,g,e,⟨qh.2 st2.jv,su.zq,su.done,su.version,su.atv,su.zg,su.atg,su.end_,su.ate,su.other,su.slot,by simpa using su.listen,su.i,su.k⟩,
  ⟨(by dsimp only;omega),fun h=>by dsimp only at h;omega,fun _=>l0,fun _=>lo.early (by omega),fun _=>lo.mid (by omega),fun h=>by dsimp only at h;omega,fun h=>by dsimp only at h;omega,fun h=>by dsimp only at h;omega,fun h=>by dsimp only at h;omega,fun _ _=>⟨_,List.getElem?_set_self (List.getElem?_eq_some_iff.1 hx).1,by show 1<=x.zj+1;omega⟩⟩⟩,jq (by show m.pc < 5;omega) (by show (5:Int)<=23;decide)⟩⟩
theorem zoQ (st:St N K w) (su:qI w m v g e) (tm:TyM m) (lo:xz w m v g e) (hk:m.op.kind=1) (p:m.pc=5):∃ r,qn w m v g e=some r∧Nx N K w m xz k5 muH r:=by
 have gw:=st.jv
 have st1:St (N+1) (K+1) w:=st.mono (by omega) (by omega)
 have l0:=lo.lis (.inl (by omega))
 have sl:=su.listen
 obtain ⟨x,hx⟩:∃ x,w.ze[m.listen.toNat]?= some x:=⟨_,List.getElem?_eq_getElem (by omega)⟩
 obtain ⟨z1,z2,z3⟩:=lo.early (by omega)
 have z4:=lo.mid (by omega)
 have gv:=(gw.ver _ v su.atv).1
 unfold qn zgn
 rw [if_neg (by omega),if_neg (by omega),if_neg (by omega),if_pos p,if_neg (by omega),hx,Option.map_some]
 cases hd:x.drain
 ·simp only [Bool.false_eq_true,if_false]
  obtain ⟨c0,c,hc⟩:=zhh gv.snap m.op.listen m.op.host m.op.path
  by_cases f:(jG m v).2=0
  ·have glt:(jG m v).1.toNat < v.zf.length:=by have:=(List.getElem?_eq_some_iff.1 hc).1;have:=gv.len;show (vJ v.snap m.op.listen m.op.host m.op.path).1.toNat < _;omega
   obtain ⟨g',e',hg,he,q1,q2⟩:=wo gv glt
   have c0':0<=(jG m v).1:=c0
   have su':∀ pc an,qI w { m with zg:=(jG m v).1,pc:=pc,answer:=an } v g' e':=fun pc an=>⟨su.world,su.zq,su.done,su.version,su.atv,⟨c0',by show (jG m v).1 < _;omega⟩,hg,⟨by show 0<=m.end_;omega,by show m.end_ < _;omega⟩,by show g'.ends[m.end_.toNat]?= _;rw [z2];exact he,⟨by show 0<=m.other;omega,by show m.other < _;omega⟩,⟨by show 0<=m.slot;omega,by show m.slot < _;omega⟩,su.listen,su.i,su.k⟩
   by_cases d:(xC c m.op.d0 m.op.d1).2.2=0
   ·have hn:(hlt c).length≠0:=by
     intro hz
     unfold xC at d
     rw [if_pos hz] at d
     cases d
    by_cases po:c.jT=1
    ·rw [zej f hc d po]
     refine zU rfl ⟨(by show (1:Int)≠0;decide),st1,rfl,⟨tm.listen,tm.word,tm.link,tm.host,tm.path,tm.d0,tm.d1,tm.cfg,tm.ans⟩,rfl,.inr ⟨⟨v,g',e',su' 6 m.answer,⟨(by dsimp only;omega),fun h=>by dsimp only at h;omega,fun _=>l0,fun h=>by dsimp only at h;omega,fun _=>z4,fun _=>⟨c,hc,hn⟩,fun h=>by dsimp only at h;omega,fun h=>by dsimp only at h;omega,fun h=>by dsimp only at h;omega,(fun _ h=>lo.in_ (by omega) h)⟩⟩,jq (by show m.pc < 6;omega) (by show (6:Int)<=23;decide)⟩⟩
    ·rw [zek f hc d po]
     have gl:=(gv.grp _ g' c hg hc).1
     have dv:xC c m.op.d0 m.op.d1=(vp c m.op.d0,vp c m.op.d1,0):=by unfold xC;rw [if_neg hn]
     have r0:=ziR (n:=m.op.d0) hn
     have r1:=ziR (n:=m.op.d1) hn
     have d1:(xC c m.op.d0 m.op.d1).1=vp c m.op.d0:=by rw [dv]
     have d2:(xC c m.op.d0 m.op.d1).2.1=vp c m.op.d1:=by rw [dv]
     rw [d1,d2]
     have r0':0<=vp c m.op.d0∧vp c m.op.d0 < c.zI.length:=r0
     have r1':0<=vp c m.op.d1∧vp c m.op.d1 < c.zI.length:=r1
     obtain ⟨e2,he2⟩:∃ e2,g'.ends[(vp c m.op.d0).toNat]?= some e2:=⟨_,List.getElem?_eq_getElem (by omega)⟩
     have n2:=((gv.few.2 g' (List.mem_of_getElem? hg)).2.2 e2 (List.mem_of_getElem? he2)).2
     refine zU rfl ⟨(by show (1:Int)≠0;decide),st1,rfl,⟨tm.listen,tm.word,tm.link,tm.host,tm.path,tm.d0,tm.d1,tm.cfg,tm.ans⟩,rfl,.inr ⟨⟨v,g',e2,⟨su.world,su.zq,su.done,su.version,su.atv,⟨c0',by show (jG m v).1 < _;omega⟩,hg,⟨r0'.1,by show vp c m.op.d0 < _;omega⟩,he2,⟨r1'.1,by show vp c m.op.d1 < _;omega⟩,⟨by show 0<=m.slot;omega,by show m.slot < _;omega⟩,su.listen,su.i,su.k⟩,
      ⟨(by dsimp only;omega),fun h=>by dsimp only at h;omega,fun _=>l0,fun h=>by dsimp only at h;omega,fun _=>z4,fun h=>by dsimp only at h;omega,fun h=>by dsimp only at h;omega,fun h=>by dsimp only at h;omega,fun h=>by dsimp only at h;omega,(fun _ h=>lo.in_ (by omega) h)⟩⟩,jq (by show m.pc < 7;omega) (by show (7:Int)<=23;decide)⟩⟩
   ·rw [zcI f hc d]
    refine zU rfl ⟨(by show (1:Int)≠0;decide),st1,rfl,⟨tm.listen,tm.word,tm.link,tm.host,tm.path,tm.d0,tm.d1,tm.cfg,(fun h=>absurd ((show m.op.kind=6 from h).symm.trans hk) (by decide))⟩,rfl,.inr ⟨⟨v,g',e',su' 20 (vN 3),⟨(by dsimp only;omega),fun h=>by dsimp only at h;omega,fun h=>by dsimp only at h;omega,fun h=>by dsimp only at h;omega,fun h=>by dsimp only at h;omega,fun h=>by dsimp only at h;omega,fun h=>by dsimp only at h;omega,fun h=>by dsimp only at h;omega,fun _=>⟨by show (1:Int)<=3;decide,by show (3:Int)<=5;decide⟩,(fun _ h=>lo.in_ (by omega) h)⟩⟩,jq (by show m.pc < 20;omega) (by show (20:Int)<=23;decide)⟩⟩
  ·rw [zfC f]
   refine zU rfl ⟨(by show (1:Int)≠0;decide),st1,rfl,⟨tm.listen,tm.word,tm.link,tm.host,tm.path,tm.d0,tm.d1,tm.cfg,(fun h=>absurd ((show m.op.kind=6 from h).symm.trans hk) (by decide))⟩,rfl,.inr ⟨⟨v,g,e,⟨su.world,su.zq,su.done,su.version,su.atv,su.zg,su.atg,su.end_,su.ate,su.other,su.slot,su.listen,su.i,su.k⟩,⟨(by dsimp only;omega),fun h=>by dsimp only at h;omega,fun h=>by dsimp only at h;omega,fun h=>by dsimp only at h;omega,fun h=>by dsimp only at h;omega,fun h=>by dsimp only at h;omega,fun h=>by dsimp only at h;omega,fun h=>by dsimp only at h;omega,fun _=>⟨by show (1:Int)<=2;decide,by show (2:Int)<=5;decide⟩,(fun _ h=>lo.in_ (by omega) h)⟩⟩,jq (by show m.pc < 20;omega) (by show (20:Int)<=23;decide)⟩⟩
 ·simp only [if_true]
  refine zU rfl ⟨(by show (1:Int)≠0;decide),st1,rfl,⟨tm.listen,tm.word,tm.link,tm.host,tm.path,tm.d0,tm.d1,tm.cfg,(fun h=>absurd ((show m.op.kind=6 from h).symm.trans hk) (by decide))⟩,rfl,.inr ⟨⟨v,g,e,⟨su.world,su.zq,su.done,su.version,su.atv,su.zg,su.atg,su.end_,su.ate,su.other,su.slot,su.listen,su.i,su.k⟩,⟨(by dsimp only;omega),fun h=>by dsimp only at h;omega,fun h=>by dsimp only at h;omega,fun h=>by dsimp only at h;omega,fun h=>by dsimp only at h;omega,fun h=>by dsimp only at h;omega,fun h=>by dsimp only at h;omega,fun h=>by dsimp only at h;omega,fun _=>⟨by show (1:Int)<=5;decide,by show (5:Int)<=5;decide⟩,(fun _ h=>lo.in_ (by omega) h)⟩⟩,jq (by show m.pc < 20;omega) (by show (20:Int)<=23;decide)⟩⟩
end
end Go.Wor
namespace Go.Wor
open Go.Ab Go.Proofs Go.Hy Go.Gat Go.Nam Go.Hos Go.Con Go.Sna
section
variable {N K:Nat} {w:Wor} {m:Mac} {v:Ver} {g:Gr} {e:En}
theorem yY (st:St N K w) (su:qI w m v g e):Slp.isV e=true∧e.next.length<=4∧1<=e.next.length∧0<=e.zj∧e.zj<=K∧e.ok∧u64 g.zu:=by
 have mv:=List.mem_of_getElem? su.atv
 have mg:=List.mem_of_getElem? su.atg
 have me:=List.mem_of_getElem? su.ate
 have f:=((st.jv.ver _ v su.atv).1.few.2 g mg).2.2 e me
 exact ⟨f.1,f.2.1,f.2.2,(Slp.zgk f.1).2.2.2,st.cal.ends v mv g mg e me,((st.ty.okv v mv).2 g mg).2 e me,((st.ty.okv v mv).2 g mg).1⟩
theorem zoR (st:St N K w) (su:qI w m v g e) (tm:TyM m) (lo:xz w m v g e) (hk:m.op.kind=1) (p:m.pc=6):∃ r,qn w m v g e=some r∧Nx N K w m xz k5 muH r:=by
 have gw:=st.jv
 obtain ⟨f1,f2,f3,f4,f5,f6,f7⟩:=yY st su
 have gv:=(gw.ver _ v su.atv).1
 obtain ⟨c,hc,hn⟩:=lo.draw p
 have l0:=lo.lis (.inl (by omega))
 have z:=lo.mid (by omega)
 have gl:=(gv.grp _ g c su.atg hc).1
 have tr:=ziR (n:=g.zu) hn
 have tv:(ko c g.zu).1=((hlt c)[(g.zu % (hlt c).length).toNat]?).getD 0:=by unfold ko;rw [if_neg hn]
 rw [<- tv] at tr
 obtain ⟨e2,he2⟩:∃ e2,g.ends[(ko c g.zu).1.toNat]?= some e2:=⟨_,List.getElem?_eq_getElem (by omega)⟩
 have n2:=((gv.few.2 g (List.mem_of_getElem? su.atg)).2.2 e2 (List.mem_of_getElem? he2)).2
 have st2:=(st.mono (by omega) (by omega):St (N+1) (K+1) w).ze3 su.at_ (e':=jl e e.head e.zj) (tk:=IntKind.u64.wrap (g.zu+1)) f1 rfl f6 (zm1 _) (by show e.zj<=_;omega)
 have eset:g.ends.set m.end_.toNat (jl e e.head e.zj)=g.ends:=x6 _ _ su.ate
 have s1:=(List.getElem?_eq_some_iff.1 su.atv).1
 have s2:=(List.getElem?_eq_some_iff.1 su.atg).1
 have so:=su.other
 unfold qn
 rw [if_neg (by omega),if_neg (by omega),if_neg (by omega),if_neg (by omega),if_pos p,hc,Option.map_some]
 refine zU rfl ⟨(by show (3:Int)≠0;decide),st2,rfl,⟨tm.listen,tm.word,tm.link,tm.host,tm.path,tm.d0,tm.d1,tm.cfg,tm.ans⟩,rfl,.inr ⟨⟨_,_,e2,⟨qh.2 st2.jv,su.zq,su.done,by simpa using su.version,List.getElem?_set_self s1,by simpa using su.zg,List.getElem?_set_self s2,⟨tr.1,by show _ < (((g.ends.set m.end_.toNat (jl e e.head e.zj)).length:Nat):Int);rw [eset];show (ko c g.zu).1 < _;omega⟩,by show (g.ends.set m.end_.toNat (jl e e.head e.zj))[(ko c g.zu).1.toNat]?= some e2;rw [eset];exact he2,by simpa using so,⟨by show 0<=m.slot;omega,by show m.slot < _;omega⟩,su.listen,su.i,su.k⟩,
  ⟨(by dsimp only;omega),fun h=>by dsimp only at h;omega,fun _=>l0,fun h=>by dsimp only at h;omega,fun h=>by dsimp only at h;omega,fun h=>by dsimp only at h;omega,fun h=>by dsimp only at h;omega,fun h=>by dsimp only at h;omega,fun h=>by dsimp only at h;omega,(fun _ h=>lo.in_ (by omega) h)⟩⟩,jq (by show m.pc < 9;omega) (by show (9:Int)<=23;decide)⟩⟩
theorem zoS (st:St N K w) (su:qI w m v g e) (tm:TyM m) (lo:xz w m v g e) (hk:m.op.kind=1) (p:m.pc=7):∃ r,qn w m v g e=some r∧Nx N K w m xz k5 muH r:=by
 obtain ⟨f1,f2,f3,f4,f5,f6,f7⟩:=yY st su
 have l0:=lo.lis (.inl (by omega))
 unfold qn
 rw [if_neg (by omega),if_neg (by omega),if_neg (by omega),if_neg (by omega),if_neg (by omega),if_pos p]
 refine zU rfl ⟨(by show (1:Int)≠0;decide),st.mono (by omega) (by omega),rfl,⟨tm.listen,tm.word,tm.link,tm.host,tm.path,tm.d0,tm.d1,tm.cfg,tm.ans⟩,rfl,.inr ⟨⟨v,g,e,⟨su.world,su.zq,su.done,su.version,su.atv,su.zg,su.atg,su.end_,su.ate,su.other,su.slot,su.listen,f4,su.k⟩,
  ⟨(by dsimp only;omega),fun h=>by dsimp only at h;omega,fun _=>l0,fun h=>by dsimp only at h;omega,fun _=>lo.mid (by omega),fun h=>by dsimp only at h;omega,fun h=>by dsimp only at h;omega,fun h=>by dsimp only at h;omega,fun h=>by dsimp only at h;omega,(fun _ h=>lo.in_ (by omega) h)⟩⟩,jq (by show m.pc < 8;omega) (by show (8:Int)<=23;decide)⟩⟩
theorem zoT (st:St N K w) (su:qI w m v g e) (tm:TyM m) (lo:xz w m v g e) (hk:m.op.kind=1) (p:m.pc=8):∃ r,qn w m v g e=some r∧Nx N K w m xz k5 muH r:=by
 have gv:=(st.jv.ver _ v su.atv).1
 have l0:=lo.lis (.inl (by omega))
 have z:=lo.mid (by omega)
 have so:=su.other
 obtain ⟨e2,he2⟩:∃ e2,g.ends[m.other.toNat]?= some e2:=⟨_,List.getElem?_eq_getElem (by omega)⟩
 have n2:=((gv.few.2 g (List.mem_of_getElem? su.atg)).2.2 e2 (List.mem_of_getElem? he2)).2
 unfold qn
 rw [if_neg (by omega),if_neg (by omega),if_neg (by omega),if_neg (by omega),if_neg (by omega),if_neg (by omega),if_pos p,he2,Option.map_some]
 by_cases q:e2.zj < m.i
 ·rw [if_pos q]
  refine zU rfl ⟨(by show (1:Int)≠0;decide),st.mono (by omega) (by omega),rfl,⟨tm.listen,tm.word,tm.link,tm.host,tm.path,tm.d0,tm.d1,tm.cfg,tm.ans⟩,rfl,.inr ⟨⟨v,g,e2,⟨su.world,su.zq,su.done,su.version,su.atv,su.zg,su.atg,so,he2,so,⟨by show 0<=m.slot;omega,by show m.slot < _;omega⟩,su.listen,su.i,su.k⟩,
   ⟨(by dsimp only;omega),fun h=>by dsimp only at h;omega,fun _=>l0,fun h=>by dsimp only at h;omega,fun h=>by dsimp only at h;omega,fun h=>by dsimp only at h;omega,fun h=>by dsimp only at h;omega,fun h=>by dsimp only at h;omega,fun h=>by dsimp only at h;omega,(fun _ h=>lo.in_ (by omega) h)⟩⟩,jq (by show m.pc < 9;omega) (by show (9:Int)<=23;decide)⟩⟩
 ·rw [if_neg q]
  refine zU rfl ⟨(by show (1:Int)≠0;decide),st.mono (by omega) (by omega),rfl,⟨tm.listen,tm.word,tm.link,tm.host,tm.path,tm.d0,tm.d1,tm.cfg,tm.ans⟩,rfl,.inr ⟨⟨v,g,e,⟨su.world,su.zq,su.done,su.version,su.atv,su.zg,su.atg,su.end_,su.ate,su.other,su.slot,su.listen,su.i,su.k⟩,
   ⟨(by dsimp only;omega),fun h=>by dsimp only at h;omega,fun _=>l0,fun h=>by dsimp only at h;omega,fun h=>by dsimp only at h;omega,fun h=>by dsimp only at h;omega,fun h=>by dsimp only at h;omega,fun h=>by dsimp only at h;omega,fun h=>by dsimp only at h;omega,(fun _ h=>lo.in_ (by omega) h)⟩⟩,jq (by show m.pc < 9;omega) (by show (9:Int)<=23;decide)⟩⟩
theorem zoU (st:St N K w) (su:qI w m v g e) (tm:TyM m) (lo:xz w m v g e) (hk:m.op.kind=1) (p:m.pc=9):∃ r,qn w m v g e=some r∧Nx N K w m xz k5 muH r:=by
 obtain ⟨f1,f2,f3,f4,f5,f6,f7⟩:=yY st su
 have l0:=lo.lis (.inl (by omega))
 unfold qn
 rw [if_neg (by omega),if_neg (by omega),if_neg (by omega),if_neg (by omega),if_neg (by omega),if_neg (by omega),if_neg (by omega),if_pos p]
 by_cases q:0<=zR e.head∧zR e.head < e.next.length
 ·rw [if_pos q]
  refine zU rfl ⟨(by show (1:Int)≠0;decide),st.mono (by omega) (by omega),rfl,⟨tm.listen,f6.1,tm.link,tm.host,tm.path,tm.d0,tm.d1,tm.cfg,tm.ans⟩,rfl,.inr ⟨⟨v,g,e,⟨su.world,su.zq,su.done,su.version,su.atv,su.zg,su.atg,su.end_,su.ate,su.other,q,su.listen,su.i,su.k⟩,
   ⟨(by dsimp only;omega),fun h=>by dsimp only at h;omega,fun _=>l0,fun h=>by dsimp only at h;omega,fun h=>by dsimp only at h;omega,fun h=>by dsimp only at h;omega,fun _=>⟨rfl,rfl⟩,fun h=>by dsimp only at h;omega,fun h=>by dsimp only at h;omega,(fun _ h=>lo.in_ (by omega) h)⟩⟩,jq (by show m.pc < 10;omega) (by show (10:Int)<=23;decide)⟩⟩
 ·rw [if_neg q]
  refine zU rfl ⟨(by show (1:Int)≠0;decide),st.mono (by omega) (by omega),rfl,⟨tm.listen,f6.1,tm.link,tm.host,tm.path,tm.d0,tm.d1,tm.cfg,(fun h=>absurd ((show m.op.kind=6 from h).symm.trans hk) (by decide))⟩,rfl,.inr ⟨⟨v,g,e,⟨su.world,su.zq,su.done,su.version,su.atv,su.zg,su.atg,su.end_,su.ate,su.other,su.slot,su.listen,su.i,su.k⟩,⟨(by dsimp only;omega),fun h=>by dsimp only at h;omega,fun h=>by dsimp only at h;omega,fun h=>by dsimp only at h;omega,fun h=>by dsimp only at h;omega,fun h=>by dsimp only at h;omega,fun h=>by dsimp only at h;omega,fun h=>by dsimp only at h;omega,fun _=>⟨by show (1:Int)<=4;decide,by show (4:Int)<=5;decide⟩,(fun _ h=>lo.in_ (by omega) h)⟩⟩,jq (by show m.pc < 20;omega) (by show (20:Int)<=23;decide)⟩⟩
theorem znC (st:St N K w) (su:qI w m v g e) (tm:TyM m) (lo:xz w m v g e) (hk:m.op.kind=1) (p:m.pc=10):∃ r,qn w m v g e=some r∧Nx N K w m xz k5 muH r:=by
 obtain ⟨f1,f2,f3,f4,f5,f6,f7⟩:=yY st su
 have l0:=lo.lis (.inl (by omega))
 obtain ⟨z1,z2⟩:=lo.slot (.inl p)
 have ss:=su.slot
 obtain ⟨x,hx⟩:∃ x,e.next[m.slot.toNat]?= some x:=⟨_,List.getElem?_eq_getElem (by omega)⟩
 have hh:Slp.zR e=m.slot:=by rw [z1,<- z2];rfl
 have hi:=Slp.znr f1 (by omega)
 have hx2:Slp.nxt e.next (Slp.zR e)=x:=by unfold Slp.nxt;rw [hh,hx];rfl
 unfold qn
 rw [if_neg (by omega),if_neg (by omega),if_neg (by omega),if_neg (by omega),if_neg (by omega),if_neg (by omega),if_neg (by omega),if_neg (by omega),if_pos p,hx,Option.map_some]
 refine zU rfl ⟨(by show (1:Int)≠0;decide),st.mono (by omega) (by omega),rfl,⟨tm.listen,tm.word,by show -1<=x∧x<=2147483646;omega,tm.host,tm.path,tm.d0,tm.d1,tm.cfg,tm.ans⟩,rfl,.inr ⟨⟨v,g,e,⟨su.world,su.zq,su.done,su.version,su.atv,su.zg,su.atg,su.end_,su.ate,su.other,su.slot,su.listen,su.i,su.k⟩,
  ⟨(by dsimp only;omega),fun h=>by dsimp only at h;omega,fun _=>l0,fun h=>by dsimp only at h;omega,fun h=>by dsimp only at h;omega,fun h=>by dsimp only at h;omega,fun _=>⟨z1,z2⟩,fun _=>hx,fun h=>by dsimp only at h;omega,(fun _ h=>lo.in_ (by omega) h)⟩⟩,jq (by show m.pc < 11;omega) (by show (11:Int)<=23;decide)⟩⟩
theorem znD (st:St N K w) (su:qI w m v g e) (tm:TyM m) (lo:xz w m v g e) (hk:m.op.kind=1) (p:m.pc=11):∃ r,qn w m v g e=some r∧Nx N K w m xz k5 muH r:=by
 obtain ⟨f1,f2,f3,f4,f5,f6,f7⟩:=yY st su
 have l0:=lo.lis (.inl (by omega))
 obtain ⟨z1,z2⟩:=lo.slot (.inr p)
 have z3:=lo.link p
 have ss:=su.slot
 have hh:Slp.zR e=m.slot:=by rw [z1,<- z2];rfl
 have hx2:Slp.nxt e.next (Slp.zR e)=m.link:=by unfold Slp.nxt;rw [hh,z3];rfl
 have ct:=(Slp.ziu (Slp.zgk f1).1 (by omega)).2.1
 rw [hx2] at ct
 have hd:Slp.zR (jl e (Slp.xx m.word m.link) e.zj)=m.link:=Slp.zjh tm.link.1 tm.link.2
 have is2:Slp.isV (jl e (Slp.xx m.word m.link) e.zj)=true:=by
  unfold Slp.isV
  rw [hd]
  simp only [Bool.and_eq_true,decide_eq_true_eq]
  exact ⟨⟨⟨ct,f3⟩,f2⟩,f4⟩
 have st2:=(st.mono (by omega) (by omega):St (N+1) (K+1) w).ze3 su.at_ (e':=jl e (Slp.xx m.word m.link) e.zj) (tk:=g.zu) is2 rfl ⟨Slp.zmr tm.link.1 tm.link.2,f6.2⟩ f7 (by show e.zj<=_;omega)
 unfold qn
 rw [if_neg (by omega),if_neg (by omega),if_neg (by omega),if_neg (by omega),if_neg (by omega),if_neg (by omega),if_neg (by omega),if_neg (by omega),if_neg (by omega),if_pos p,if_pos z2]
 refine zU rfl ⟨(by show (4:Int)≠0;decide),st2,rfl,⟨tm.listen,tm.word,tm.link,tm.host,tm.path,tm.d0,tm.d1,tm.cfg,tm.ans⟩,rfl,.inr ⟨⟨_,_,_,zew (e':=jl e (Slp.xx m.word m.link) e.zj) (m':={ m with pc:=12 }) su rfl st2.jv rfl su.done rfl rfl rfl rfl rfl rfl rfl rfl,
  ⟨(by dsimp only;omega),fun h=>by dsimp only at h;omega,fun _=>l0,fun h=>by dsimp only at h;omega,fun h=>by dsimp only at h;omega,fun h=>by dsimp only at h;omega,fun h=>by dsimp only at h;omega,fun h=>by dsimp only at h;omega,fun h=>by dsimp only at h;omega,(fun _ h=>lo.in_ (by omega) h)⟩⟩,jq (by show m.pc < 12;omega) (by show (12:Int)<=23;decide)⟩⟩
theorem znE (st:St N K w) (su:qI w m v g e) (tm:TyM m) (lo:xz w m v g e) (hk:m.op.kind=1) (hK:K<=1099511627776) (p:m.pc=12):∃ r,qn w m v g e=some r∧Nx N K w m xz k5 muH r:=by
 obtain ⟨f1,f2,f3,f4,f5,f6,f7⟩:=yY st su
 have hw:IntKind.i64.wrap (e.zj+1)=e.zj+1:=jw (by omega) (by omega)
 have st2:=(st.mono (by omega) (by omega):St (N+1) (K+1) w).ze3 su.at_ (e':=jl e e.head (e.zj+1)) (tk:=g.zu) (zns f1 _ (by omega)) rfl ⟨f6.1,f6.2.1,by show i64 (e.zj+1);unfold i64;omega⟩ f7 (by show e.zj+1<=_;omega)
 unfold qn
 rw [if_neg (by omega),if_neg (by omega),if_neg (by omega),if_neg (by omega),if_neg (by omega),if_neg (by omega),if_neg (by omega),if_neg (by omega),if_neg (by omega),if_neg (by omega),if_pos p,hw]
 refine zU rfl ⟨(by show (3:Int)≠0;decide),st2,rfl,⟨tm.listen,tm.word,tm.link,tm.host,tm.path,tm.d0,tm.d1,tm.cfg,(fun h=>absurd ((show m.op.kind=6 from h).symm.trans hk) (by decide))⟩,rfl,.inr ⟨⟨_,_,_,zew (e':=jl e e.head (e.zj+1)) (m':={ m with answer:=zkb m,pc:=20 }) su rfl st2.jv rfl su.done rfl rfl rfl rfl rfl rfl rfl rfl,⟨(by dsimp only;omega),fun h=>by dsimp only at h;omega,fun h=>by dsimp only at h;omega,fun h=>by dsimp only at h;omega,fun h=>by dsimp only at h;omega,fun h=>by dsimp only at h;omega,fun h=>by dsimp only at h;omega,fun h=>by dsimp only at h;omega,fun _=>⟨by show (1:Int)<=1;decide,by show (1:Int)<=5;decide⟩,(fun _ h=>lo.in_ (by omega) h)⟩⟩,jq (by show m.pc < 20;omega) (by show (20:Int)<=23;decide)⟩⟩
theorem zds (st:St N K w) (su:qI w m v g e) {k pc:Int} (h0:0<=k) (h5:k<=5):∃ r2:List Int,r2.length=6∧zbL w m k pc=some ({ w with counts:=w.counts.set m.zq.toNat r2 },{ m with pc:=pc },evO m 3 10 k):=by
 obtain ⟨r0,hr,hl⟩:=zl0 st.jv su.zq.1 su.zq.2
 unfold zbL
 rw [hr]
 dsimp only
 rw [List.getElem?_eq_getElem (show k.toNat < r0.length by omega)]
 exact ⟨_,by simpa using hl,rfl⟩
theorem znF (st:St N K w) (su:qI w m v g e) (tm:TyM m) (lo:xz w m v g e) (hk:m.op.kind=1) (p:m.pc=20):∃ r,qn w m v g e=some r∧Nx N K w m xz k5 muH r:=by
 have kr:=zi5 m.answer.kind
 obtain ⟨r2,hl,hc⟩:=zds st su (pc:=21) kr.1 kr.2
 have st2:=(st.mono (by omega) (by omega):St (N+1) (K+1) w).count m.zq.toNat hl
 have an:=lo.ans (by omega)
 unfold qn
 rw [if_neg (by omega),if_neg (by omega),if_neg (by omega),if_neg (by omega),if_neg (by omega),if_neg (by omega),if_neg (by omega),if_neg (by omega),if_neg (by omega),if_neg (by omega),if_neg (by omega),if_pos p,hc]
 refine zU rfl ⟨(by show (3:Int)≠0;decide),st2,rfl,⟨tm.listen,tm.word,tm.link,tm.host,tm.path,tm.d0,tm.d1,tm.cfg,tm.ans⟩,rfl,.inr ⟨⟨v,g,e,⟨qh.2 st2.jv,su.zq,su.done,su.version,su.atv,su.zg,su.atg,su.end_,su.ate,su.other,su.slot,su.listen,su.i,su.k⟩,
  ⟨(by dsimp only;omega),fun h=>by dsimp only at h;omega,fun h=>by dsimp only at h;omega,fun h=>by dsimp only at h;omega,fun h=>by dsimp only at h;omega,fun h=>by dsimp only at h;omega,fun h=>by dsimp only at h;omega,fun h=>by dsimp only at h;omega,fun _=>an,(fun _ h=>lo.in_ (by omega) h)⟩⟩,jq (by show m.pc < 21;omega) (by show (21:Int)<=23;decide)⟩⟩
theorem znG (st:St N K w) (su:qI w m v g e) (tm:TyM m) (lo:xz w m v g e) (hk:m.op.kind=1) (p:m.pc=21):∃ r,qn w m v g e=some r∧Nx N K w m xz k5 muH r:=by
 obtain ⟨r2,hl,hc⟩:=zds st su (k:=0) (pc:=if m.answer.kind=1∨m.listen < 0 then 23 else 22) (by decide) (by decide)
 have st2:=(st.mono (by omega) (by omega):St (N+1) (K+1) w).count m.zq.toNat hl
 have an:=lo.ans (by omega)
 unfold qn
 rw [if_neg (by omega),if_neg (by omega),if_neg (by omega),if_neg (by omega),if_neg (by omega),if_neg (by omega),if_neg (by omega),if_neg (by omega),if_neg (by omega),if_neg (by omega),if_neg (by omega),if_neg (by omega),if_pos p,hc]
 by_cases q:m.answer.kind=1∨m.listen < 0
 ·rw [if_pos q]
  refine zU rfl ⟨(by show (3:Int)≠0;decide),st2,rfl,⟨tm.listen,tm.word,tm.link,tm.host,tm.path,tm.d0,tm.d1,tm.cfg,tm.ans⟩,rfl,.inr ⟨⟨v,g,e,⟨qh.2 st2.jv,su.zq,su.done,su.version,su.atv,su.zg,su.atg,su.end_,su.ate,su.other,su.slot,su.listen,su.i,su.k⟩,
   ⟨(by dsimp only;omega),fun h=>by dsimp only at h;omega,fun h=>by dsimp only at h;omega,fun h=>by dsimp only at h;omega,fun h=>by dsimp only at h;omega,fun h=>by dsimp only at h;omega,fun h=>by dsimp only at h;omega,fun h=>by dsimp only at h;omega,fun _=>an,fun h=>by dsimp only at h;omega⟩⟩,jq (by show m.pc < 23;omega) (by show (23:Int)<=23;decide)⟩⟩
 ·rw [if_neg q]
  refine zU rfl ⟨(by show (3:Int)≠0;decide),st2,rfl,⟨tm.listen,tm.word,tm.link,tm.host,tm.path,tm.d0,tm.d1,tm.cfg,tm.ans⟩,rfl,.inr ⟨⟨v,g,e,⟨qh.2 st2.jv,su.zq,su.done,su.version,su.atv,su.zg,su.atg,su.end_,su.ate,su.other,su.slot,su.listen,su.i,su.k⟩,
   ⟨(by dsimp only;omega),fun h=>by dsimp only at h;omega,fun _=>by show 0<=m.listen;omega,fun h=>by dsimp only at h;omega,fun h=>by dsimp only at h;omega,fun h=>by dsimp only at h;omega,fun h=>by dsimp only at h;omega,fun h=>by dsimp only at h;omega,fun _=>an,(fun _ h=>lo.in_ (by omega) h)⟩⟩,jq (by show m.pc < 22;omega) (by show (22:Int)<=23;decide)⟩⟩
theorem znH (st:St N K w) (su:qI w m v g e) (tm:TyM m) (lo:xz w m v g e) (hk:m.op.kind=1) (hK:K<=1099511627776) (p:m.pc=22):∃ r,qn w m v g e=some r∧Nx N K w m xz k5 muH r:=by
 have l0:=lo.lis (.inr p)
 obtain ⟨x,hx,x1⟩:=lo.in_ (by omega) l0
 have ca:=st.cal.lis x (List.mem_of_getElem? hx)
 have hw:IntKind.i64.wrap (x.zj - 1)=x.zj - 1:=jw (by omega) (by omega)
 have st2:=zj8 st su hx (x.zj - 1) (by omega) (by omega) hK
 have an:=lo.ans (by omega)
 unfold qn zgn
 rw [if_neg (by omega),if_neg (by omega),if_neg (by omega),if_neg (by omega),if_neg (by omega),if_neg (by omega),if_neg (by omega),if_neg (by omega),if_neg (by omega),if_neg (by omega),if_neg (by omega),if_neg (by omega),if_neg (by omega),if_pos p,if_neg (by omega),hx,Option.map_some]
 unfold zdV
 rw [hw]
 refine zU rfl ⟨(by show (3:Int)≠0;decide),st2,rfl,⟨tm.listen,tm.word,tm.link,tm.host,tm.path,tm.d0,tm.d1,tm.cfg,tm.ans⟩,rfl,.inr ⟨⟨v,g,e,⟨qh.2 st2.jv,su.zq,su.done,su.version,su.atv,su.zg,su.atg,su.end_,su.ate,su.other,su.slot,by simpa using su.listen,su.i,su.k⟩,
  ⟨(by dsimp only;omega),fun h=>by dsimp only at h;omega,fun h=>by dsimp only at h;omega,fun h=>by dsimp only at h;omega,fun h=>by dsimp only at h;omega,fun h=>by dsimp only at h;omega,fun h=>by dsimp only at h;omega,fun h=>by dsimp only at h;omega,fun _=>an,fun h=>by dsimp only at h;omega⟩⟩,jq (by show m.pc < 23;omega) (by show (23:Int)<=23;decide)⟩⟩
theorem znI (st:St N K w) (su:qI w m v g e) (tm:TyM m) (lo:xz w m v g e) (hk:m.op.kind=1) (p:m.pc=23):∃ r,qn w m v g e=some r∧Nx N K w m xz k5 muH r:=by
 have ep:=(qm.1 st.jv.ground).zn
 have st2:=(st.mono (by omega) (by omega):St (N+1) (K+1) w).pin m.zq.toNat (p:=0) (by omega) (by omega)
 unfold qn
 rw [if_neg (by omega),if_neg (by omega),if_neg (by omega),if_neg (by omega),if_neg (by omega),if_neg (by omega),if_neg (by omega),if_neg (by omega),if_neg (by omega),if_neg (by omega),if_neg (by omega),if_neg (by omega),if_neg (by omega),if_neg (by omega),if_pos p]
 exact zU rfl ⟨(by show (2:Int)≠0;decide),st2,by simp,⟨tm.listen,tm.word,tm.link,tm.host,tm.path,tm.d0,tm.d1,tm.cfg,(fun h=>absurd ((show m.op.kind=6 from h).symm.trans hk) (by decide))⟩,rfl,.inl ⟨rfl,lo.ans (by omega)⟩⟩
theorem zjo (st:St N K w) (su:qI w m v g e) (tm:TyM m) (lo:xz w m v g e) (hk:m.op.kind=1) (hN:N<=100000000) (hK:K<=1099511627776):∃ r,qn w m v g e=some r∧Nx N K w m xz k5 muH r:=by
 have pc:=lo.pc
 by_cases h3:m.pc < 3
 ·exact znJ st su tm lo h3
 rcases (by omega:m.pc=3∨m.pc=4∨m.pc=5∨m.pc=6∨m.pc=7∨m.pc=8∨m.pc=9∨m.pc=10∨m.pc=11∨m.pc=12∨m.pc=20∨m.pc=21∨m.pc=22∨m.pc=23) with p | p | p | p | p | p | p | p | p | p | p | p | p | p
 ·exact zoO st su tm lo hk hN p
 ·exact zoP st su tm lo hk hK p
 ·exact zoQ st su tm lo hk p
 ·exact zoR st su tm lo hk p
 ·exact zoS st su tm lo hk p
 ·exact zoT st su tm lo hk p
 ·exact zoU st su tm lo hk p
 ·exact znC st su tm lo hk p
 ·exact znD st su tm lo hk p
 ·exact znE st su tm lo hk hK p
 ·exact znF st su tm lo hk p
 ·exact znG st su tm lo hk p
 ·exact znH st su tm lo hk hK p
 ·exact znI st su tm lo hk p
end
end Go.Wor
namespace Go.Wor
open Go.Ab Go.Proofs Go.Hy Go.Gat Go.Nam Go.Hos Go.Con Go.Sna
def look (m:List (Int × Value)) (i:Int):Option Value:=(jz m i).bind fun j=>(m[j]?).map (·.2)
theorem zfj (m:List (Int × Value)) (i:Int):jz m i=(m.map (·.1)).findIdx? (fun k=>decide (k=i)):=by
 unfold jz
 rw [List.findIdx?_map]
 rfl
theorem zmk (m:List (Int × Value)) (k i:Int) (v:Value):look (k4 m k v) i=if k=i then some v else look m i:=by
 unfold k4
 cases hf:jz m k with
 | some j=>
  dsimp only
  obtain ⟨u,hu⟩:=yh hf
  have keys:(m.set j (k,v)).map (·.1)=m.map (·.1):=by
   rw [List.map_set]
   exact x6 _ _ (by rw [List.getElem?_map,hu];rfl)
  have e:jz (m.set j (k,v)) i=jz m i:=by rw [zfj,zfj,keys]
  unfold look
  rw [e]
  have hlt:=(List.getElem?_eq_some_iff.1 hu).1
  by_cases hki:k=i
  ·subst hki
   rw [if_pos rfl,hf]
   simp [hlt]
  ·rw [if_neg hki]
   cases hi:jz m i with
   | none=>rfl
   | some j'=>
    obtain ⟨u',hu'⟩:=yh hi
    have hne:j≠j':=by
     rintro rfl
     rw [hu] at hu'
     cases hu'
     exact hki rfl
    simp [List.getElem?_set,hne]
 | none=>
  dsimp only
  have e:jz (m++[(k,v)]) i=if k=i then some m.length else jz m i:=by
   unfold jz
   rw [List.findIdx?_append]
   by_cases hki:k=i
   ·subst hki
    have:m.findIdx? (fun kv=>decide (kv.1=k))=none:=hf
    rw [this,if_pos rfl]
    simp
   ·rw [if_neg hki]
    cases m.findIdx? (fun kv=>decide (kv.1=i)) with
    | some j=>rfl
    | none=>simp [hki]
  unfold look
  rw [e]
  by_cases hki:k=i
  ·rw [if_pos hki,if_pos hki]
   simp
  ·rw [if_neg hki,if_neg hki]
   cases hi:jz m i with
   | none=>rfl
   | some j'=>
    obtain ⟨u',hu'⟩:=yh hi
    have:=(List.getElem?_eq_some_iff.1 hu').1
    simp [List.getElem?_append_left this]
theorem ziN (l:List Ret) (i:Int):yc l i=(match look (xD l) i with | some (.bool b)=>b | _=>false):=rfl
theorem ziM (l:List Ret) (r:Ret):xD (l++[r])=k4 (xD l) r.version (Value.bool r.gone):=by
 unfold xD
 rw [List.foldl_append]
 rfl
theorem zdK (l:List Ret) (r:Ret) (i:Int):yc (l++[r]) i=if r.version=i then r.gone else yc l i:=by
 rw [ziN,ziM,zmk]
 by_cases h:r.version=i
 ·rw [if_pos h,if_pos h]
 ·rw [if_neg h,if_neg h]
  rfl
theorem ka (l:List Ret) (i:Int) (hu:∀ (a b:Nat) (x y:Ret),l[a]?= some x->l[b]?= some y->x.version=y.version->a=b):yc l i=true↔∃ r ∈ l,r.version=i∧r.gone=true:=by
 have key:∀ n,∀ l:List Ret,l.length=n->(∀ (a b:Nat) (x y:Ret),l[a]?= some x->l[b]?= some y->x.version=y.version->a=b)->(yc l i=true↔∃ r ∈ l,r.version=i∧r.gone=true):=by
  intro n
  induction n with
  | zero=>
   intro l hl _
   rw [List.length_eq_zero_iff.1 hl]
   constructor
   ·intro h;cases h
   ·rintro ⟨r,hr,_⟩;cases hr
  | succ n ih=>
   intro l hl hu
   obtain ⟨l',r,rfl⟩:∃ l' r,l=l'++[r]:=⟨l.dropLast,l.getLast (by rintro rfl;cases hl),(List.dropLast_concat_getLast _).symm⟩
   have hl':l'.length=n:=by simpa using hl
   have ih':=ih l' hl' fun a b x y ha hb=>hu a b x y (by rw [List.getElem?_append_left (List.getElem?_eq_some_iff.1 ha).1];exact ha) (by rw [List.getElem?_append_left (List.getElem?_eq_some_iff.1 hb).1];exact hb)
   have hlast:(l'++[r])[l'.length]?= some r:=by simp
   rw [zdK]
   by_cases h:r.version=i
   ·rw [if_pos h]
    constructor
    ·intro hg;exact ⟨r,by simp,h,hg⟩
    ·rintro ⟨x,hx,hv,hg⟩
     obtain ⟨a,ha⟩:=List.mem_iff_getElem?.1 hx
     have:=hu a _ x r ha hlast (by rw [hv,h])
     subst this
     rw [hlast] at ha
     cases ha
     exact hg
   ·rw [if_neg h,ih']
    constructor
    ·rintro ⟨x,hx,hv⟩;exact ⟨x,by simp [hx],hv⟩
    ·rintro ⟨x,hx,hv,hg⟩
     rcases List.mem_append.1 hx with hx | hx
     ·exact ⟨x,hx,hv,hg⟩
     ·rw [List.mem_singleton.1 hx] at hv;exact absurd hv h
 exact key _ l rfl hu
theorem zdW {l:List Ret} (h:Go.Lim.isV l=true) {i:Nat} {x:Ret} (hx:l[i]?= some x):0<=x.version∧0<=x.at_∧∀ (j:Nat) (y:Ret),j < i->l[j]?= some y->y.version≠x.version:=by
 have h2:=of_decide_eq_true (show decide (∀ i,(h:i < l.length)->Go.Lim.okV l i l[i]=true)=true from h) i (List.getElem?_eq_some_iff.1 hx).1
 rw [(List.getElem?_eq_some_iff.1 hx).2] at h2
 unfold Go.Lim.okV Go.Lim.zkH at h2
 simp only [Bool.and_eq_true,Bool.not_eq_true',decide_eq_false_iff_not,List.any_eq_false,beq_iff_eq] at h2
 refine ⟨by omega,by omega,fun j y hj hy he=>h2.2 y ?_ he⟩
 exact List.mem_iff_getElem?.2 ⟨j,by rw [List.getElem?_take,if_pos hj];exact hy⟩
theorem zj0 {l:List Ret}:Go.Lim.isV l=true↔∀ (i:Nat) (x:Ret),l[i]?= some x->0<=x.version∧0<=x.at_∧∀ (j:Nat) (y:Ret),j < i->l[j]?= some y->y.version≠x.version:=by
 constructor
 ·exact fun h i x hx=>zdW h hx
 ·intro h
  refine decide_eq_true fun i hi=>?_
  obtain ⟨h1,h2,h3⟩:=h i l[i] (List.getElem?_eq_getElem hi)
  unfold Go.Lim.okV Go.Lim.zkH
  simp only [Bool.and_eq_true,Bool.not_eq_true',decide_eq_false_iff_not,List.any_eq_false,beq_iff_eq]
  refine ⟨⟨by omega,by omega⟩,fun y hy he=>?_⟩
  obtain ⟨j,hj⟩:=List.mem_iff_getElem?.1 hy
  rw [List.getElem?_take] at hj
  split at hj
  ·exact h3 j y (by assumption) hj he
  ·cases hj
theorem wA {l:List Ret} (h:Go.Lim.isV l=true):∀ (a b:Nat) (x y:Ret),l[a]?= some x->l[b]?= some y->x.version=y.version->a=b:=fun a b x y ha hb he=>by
 rcases Nat.lt_trichotomy a b with hlt | rfl | hlt
 ·exact absurd he ((zdW h hb).2.2 a x hlt ha)
 ·rfl
 ·exact absurd he.symm ((zdW h ha).2.2 b y hlt hb)
end Go.Wor
namespace Go.Wor
open Go.Ab Go.Proofs Go.Hy Go.Gat Go.Nam Go.Hos Go.Con Go.Sna
theorem zkC (n:Int):(Slp.yJ n).1.ok:=by
 unfold Slp.yJ
 split
 ·exact ⟨by decide,⟨fun x hx=>(by cases hx),by decide⟩,by decide⟩
 ·refine ⟨(by decide:u64 1),⟨fun x hx=>?_,?_⟩,(by decide:i64 0)⟩
  ·obtain ⟨i,hi,rfl⟩:=List.mem_map.1 hx
   have:=List.mem_range.1 hi
   split
   ·decide
   ·exact ⟨by omega,by omega⟩
  ·simp;omega
theorem wq {x:Clu} (h:zlE x):Slp.isV (xJ x)=true∧((xJ x).next.length:Int)=x.xy∧(xJ x).zj=0∧(xJ x).ok:=by
 have hs:=h.xy
 unfold xJ
 have:x.xy=1∨x.xy=2∨x.xy=3∨x.xy=4:=by omega
 rcases this with e | e | e | e <;> rw [e] <;> exact ⟨by decide,by decide,by decide,zkC _⟩
theorem zis {s:Sna} (h:yR s=true):kM (q7 s).1:=by
 unfold q7
 rw [if_pos h]
 refine ⟨h,by simp,fun i g x hg hx=>?_⟩
 simp only [List.getElem?_map] at hg
 have hx:s.zk[i]?= some x:=hx
 rw [hx] at hg
 cases hg
 have gc:=(jE h).all x (List.mem_of_getElem? hx)
 have f:=wq gc
 refine ⟨by unfold zaw;simp,fun e he=>?_⟩
 unfold zaw at he
 rw [List.eq_of_mem_replicate he]
 exact ⟨f.1,f.2.1⟩
section
variable {N K:Nat} {w:Wor} {m:Mac} {v:Ver} {g:Gr} {e:En}
theorem St.znO (st:St N K w) {c:Cfg} (hc:(jf c).1=0) (sc:xF c):St (N+1) (K+1) { w with current:=w.zd.length,zd:=w.zd++[kT c] }:=by
 have gw:=st.jv
 have hb:=zdj hc
 have gv:kM (kT c):=zis hb
 have hsw:kT c=⟨(ji c).1,(ji c).1.zk.map zaw,false⟩:=by unfold kT q7;rw [if_pos hb]
 have la:∀ r ∈ w.zm,0<=r.version∧r.version < w.zd.length:=fun r hr=>by
  obtain ⟨i,hi⟩:=List.mem_iff_getElem?.1 hr
  have:=wB gw hi
  omega
 refine ⟨⟨gw.ground,⟨Int.natCast_nonneg _,by show ((w.zd.length:Nat):Int) < ((w.zd++[kT c]).length:Nat);simp only [List.length_append,List.length_singleton];omega⟩,gw.zm,fun r hr=>?_,fun i v2 hv=>?_,gw.lis⟩,⟨by have:=st.ty.zc2;simp;omega,by have:=st.ty.lis;show w.ze.length<=_;omega,by have:=st.ty.lim;show w.zm.length<=_;omega,fun v2 hv=>?_,st.ty.okl⟩,⟨fun l hl=>by have:=st.cal.lis l hl;omega,fun v2 hv g2 hg e2 he=>?_⟩⟩
 ·have h1:=la r hr
  have h2:=gw.bad r hr
  unfold xl at h2 ⊢
  simp at h2 ⊢
  omega
 ·have hv:(w.zd++[kT c])[i]?= some v2:=hv
  by_cases hi:i < w.zd.length
  ·rw [List.getElem?_append_left hi] at hv
   exact gw.ver i v2 hv
  ·rw [List.getElem?_append_right (by omega)] at hv
   have:i - w.zd.length=0:=by
    have:=(List.getElem?_eq_some_iff.1 hv).1
    simp at this
    omega
   rw [this] at hv
   cases hv
   refine ⟨gv,?_⟩
   rw [hsw]
   show false=yc w.zm i
   symm
   by_cases hg:yc w.zm i=true
   ·obtain ⟨r,hr,he,_⟩:=(ka w.zm i (wA gw.zm)).1 hg
    have:=la r hr
    omega
   ·simpa using hg
 ·rcases List.mem_append.1 hv with hv | hv
  ·exact st.ty.okv v2 hv
  ·rw [List.mem_singleton.1 hv,hsw]
   refine ⟨zcN sc,fun g2 hg=>?_⟩
   obtain ⟨x,hx,rfl⟩:=List.mem_map.1 hg
   have f:=wq ((jE hb).all x hx)
   refine ⟨(by decide:u64 0),fun e2 he=>?_⟩
   unfold zaw at he
   rw [List.eq_of_mem_replicate he]
   exact f.2.2.2
 ·rcases List.mem_append.1 hv with hv | hv
  ·have:=st.cal.ends v2 hv g2 hg e2 he
   omega
  ·rw [List.mem_singleton.1 hv,hsw] at hg
   obtain ⟨x,hx,rfl⟩:=List.mem_map.1 hg
   have f:=wq ((jE hb).all x hx)
   unfold zaw at he
   rw [List.eq_of_mem_replicate he,f.2.2.1]
   omega
theorem St.zoX (st:St N K w) {x:Ret} (h0:0<=x.version) (h1:x.version < w.zd.length) (h2:x.version≠w.current) (h3:0<=x.at_) (h4:x.at_<=w.zn) (hg:x.gone=false) (hn:∀ r ∈ w.zm,r.version≠x.version):St (N+1) (K+1) { w with zm:=w.zm++[x] }:=by
 have gw:=st.jv
 refine ⟨⟨gw.ground,gw.current,?_,fun r hr=>?_,fun i v2 hv=>⟨(gw.ver i v2 hv).1,?_⟩,gw.lis⟩,⟨by have:=st.ty.zc2;show w.zd.length<=_;omega,by have:=st.ty.lis;show w.ze.length<=_;omega,by have:=st.ty.lim;simp;omega,st.ty.okv,st.ty.okl⟩,⟨fun l hl=>by have:=st.cal.lis l hl;omega,fun v2 hv g2 hg e2 he=>by have:=st.cal.ends v2 hv g2 hg e2 he;omega⟩⟩
 ·rw [zj0]
  intro i y hy
  by_cases hi:i < w.zm.length
  ·have hy':w.zm[i]?= some y:=by rw [<- List.getElem?_append_left (l₂:=[x]) hi];exact hy
   obtain ⟨a,b,c⟩:=zdW gw.zm hy'
   exact ⟨a,b,fun j z hj hz=>c j z hj (by rw [<- List.getElem?_append_left (l₂:=[x]) (by omega)];exact hz)⟩
  ·have hy2:(w.zm++[x])[i]?= some y:=hy
   rw [List.getElem?_append_right (by omega)] at hy2
   have:i - w.zm.length=0:=by
    have:=(List.getElem?_eq_some_iff.1 hy2).1
    simp at this
    omega
   rw [this] at hy2
   cases hy2
   refine ⟨h0,h3,fun j z hj hz=>?_⟩
   have hz2:(w.zm++[x])[j]?= some z:=hz
   rw [List.getElem?_append_left (by omega)] at hz2
   exact hn z (List.mem_of_getElem? hz2)
 ·rcases List.mem_append.1 hr with hr | hr
  ·exact gw.bad r hr
  ·rw [List.mem_singleton.1 hr]
   unfold xl
   simp
   omega
 ·rw [(gw.ver i v2 hv).2]
  show _=yc (w.zm++[x]) i
  rw [zdK]
  by_cases he:x.version=i
  ·rw [if_pos he,hg]
   by_cases hgo:yc w.zm i=true
   ·obtain ⟨r,hr,hv2,_⟩:=(ka w.zm i (wA gw.zm)).1 hgo
    exact absurd (hv2.trans he.symm) (hn r hr)
   ·simpa using hgo
  ·rw [if_neg he]
theorem St.zD (st:St N K w) {i:Nat} {k:Int} {v2:Ver} {x:Ret} (h0:0<=k) (hv:w.zd[k.toNat]?= some v2) (hx:w.zm[i]?= some x) (he:x.version=k):St (N+1) (K+1) { w with zd:=w.zd.set k.toNat (zau v2),zm:=w.zm.set i (v7 x) }:=by
 have gw:=st.jv
 have la:=wB gw hx
 have same:∀ (j:Nat) (y:Ret),(w.zm.set i (v7 x))[j]?= some y->∃ z,w.zm[j]?= some z∧z.version=y.version∧z.at_=y.at_:=fun j y hy=>by
  rcases zba hy with ⟨rfl,rfl,_⟩ | ⟨_,hy⟩
  ·exact ⟨x,hx,rfl,rfl⟩
  ·exact ⟨y,hy,rfl,rfl⟩
 have isL:Go.Lim.isV (w.zm.set i (v7 x))=true:=by
  rw [zj0]
  intro j y hy
  obtain ⟨z,hz,e1,e2⟩:=same j y hy
  obtain ⟨a,b,c⟩:=zdW gw.zm hz
  refine ⟨by omega,by omega,fun j2 y2 hj hy2=>?_⟩
  obtain ⟨z2,hz2,e3,_⟩:=same j2 y2 hy2
  rw [<- e3,<- e1]
  exact c j2 z2 hj hz2
 refine ⟨⟨gw.ground,by simpa using gw.current,isL,fun r hr=>?_,fun j v3 hv3=>?_,gw.lis⟩,⟨by have:=st.ty.zc2;simp;omega,by have:=st.ty.lis;show w.ze.length<=_;omega,by have:=st.ty.lim;simp;omega,fun v3 hv3=>?_,st.ty.okl⟩,⟨fun l hl=>by have:=st.cal.lis l hl;omega,fun v3 hv3 g2 hg e2 he=>?_⟩⟩
 ·obtain ⟨j,hj⟩:=List.mem_iff_getElem?.1 hr
  obtain ⟨z,hz,e1,e2⟩:=same j r hj
  have:=gw.bad z (List.mem_of_getElem? hz)
  unfold xl at this ⊢
  rw [<- e1,<- e2]
  simpa using this
 ·have gone2:yc (w.zm.set i (v7 x)) j=if (j:Int)=k then true else yc w.zm j:=by
   by_cases hjk:(j:Int)=k
   ·rw [if_pos hjk,ka _ _ (wA isL)]
    exact ⟨v7 x,List.mem_iff_getElem?.2 ⟨i,List.getElem?_set_self (List.getElem?_eq_some_iff.1 hx).1⟩,by show x.version=_;omega,rfl⟩
   ·rw [if_neg hjk,Bool.eq_iff_iff,ka _ _ (wA isL),ka _ _ (wA gw.zm)]
    constructor
    ·rintro ⟨r,hr,h1,h2⟩
     rcases mem_set hr with hr | rfl
     ·exact ⟨r,hr,h1,h2⟩
     ·exact absurd (show x.version=j from h1) (by omega)
    ·rintro ⟨r,hr,h1,h2⟩
     obtain ⟨b,hb⟩:=List.mem_iff_getElem?.1 hr
     have hbi:i≠b:=by
      rintro rfl
      rw [hx] at hb
      cases hb
      omega
     exact ⟨r,List.mem_iff_getElem?.2 ⟨b,by rw [List.getElem?_set,if_neg hbi];exact hb⟩,h1,h2⟩
  show kM v3∧v3.zD=yc (w.zm.set i (v7 x)) j
  rw [gone2]
  rcases zba hv3 with ⟨rfl,rfl,_⟩ | ⟨hne,hv3⟩
  ·rw [if_pos (by omega)]
   exact ⟨⟨(gw.ver _ v2 hv).1.snap,(gw.ver _ v2 hv).1.len,(gw.ver _ v2 hv).1.grp⟩,rfl⟩
  ·rw [if_neg (by omega)]
   exact gw.ver j v3 hv3
 ·rcases mem_set hv3 with hv3 | rfl
  ·exact st.ty.okv v3 hv3
  ·exact st.ty.okv v2 (List.mem_of_getElem? hv)
 ·rcases mem_set hv3 with hv3 | rfl
  ·have:=st.cal.ends v3 hv3 g2 hg e2 he;omega
  ·have:=st.cal.ends v2 (List.mem_of_getElem? hv) g2 hg e2 he;omega
end
end Go.Wor
namespace Go.Wor
open Go.Ab Go.Proofs Go.Hy Go.Gat Go.Nam Go.Hos Go.Con Go.Sna
structure zoj (w:Wor) (m:Mac) (v:Ver) (g:Gr) (e:En):Prop where
 pc:0<=m.pc∧m.pc<=2
 ver:1<=m.pc->m.version≠w.current∧∀ r ∈ w.zm,r.version≠m.version
 ep:m.pc=2->0<=m.zn∧m.zn<=w.zn
def zkj (m:Mac):Prop:=6<=m.answer.kind∧m.answer.kind<=13
def muS (_:Wor) (m:Mac):Nat:=(3 - m.pc).toNat
section
variable {N K:Nat} {w:Wor} {m:Mac} {v:Ver} {g:Gr} {e:En}
theorem zmE (st:St N K w) (su:qI w m v g e) (tm:TyM m) (lo:zoj w m v g e) (hk:m.op.kind=3):∃ r,zfJ w m=some r∧Nx N K w m zoj zkj muS r:=by
 have gw:=st.jv
 have st1:St (N+1) (K+1) w:=st.mono (by omega) (by omega)
 have pc:=lo.pc
 have cu:=gw.current
 unfold zfJ
 rcases (by omega:m.pc=0∨m.pc=1∨m.pc=2) with p | p | p
 ·rw [if_pos p]
  by_cases q:wM m.op.config=0
  ·rw [if_pos q]
   have hc:(jf m.op.config).1=0:=by rw [<- zcR];exact q
   have st2:=st.znO hc tm.cfg
   obtain ⟨v',hv'⟩:∃ v',w.zd[w.current.toNat]?= some v':=⟨_,List.getElem?_eq_getElem (by omega)⟩
   have gv:=(gw.ver _ v' hv').1
   have h0:0 < v'.zf.length:=by have:=(jE gv.snap).zk.1;have:=gv.len;omega
   obtain ⟨g',e',hg,he,l1,l2⟩:=wo gv h0
   refine zU rfl ⟨(by show (6:Int)≠0;decide),st2,rfl,⟨tm.listen,tm.word,tm.link,tm.host,tm.path,tm.d0,tm.d1,tm.cfg,tm.ans⟩,rfl,.inr ⟨⟨v',g',e',⟨qh.2 st2.jv,su.zq,su.done,⟨cu.1,by show w.current < ((w.zd++[kT m.op.config]).length:Nat);simp only [List.length_append,List.length_singleton];omega⟩,
    by show (w.zd++[kT m.op.config])[w.current.toNat]?= some v';rw [List.getElem?_append_left (by omega)];exact hv',⟨Int.le_refl _,by show (0:Int) < _;omega⟩,hg,⟨Int.le_refl _,by show (0:Int) < _;omega⟩,he,⟨Int.le_refl _,by show (0:Int) < _;omega⟩,⟨Int.le_refl _,by show (0:Int) < _;omega⟩,su.listen,by show (0:Int)<=(w.zd.length:Nat);omega,su.k⟩,
    ⟨(by dsimp only;omega),fun _=>⟨by show w.current≠(w.zd.length:Nat);omega,fun r hr=>?_⟩,fun h=>by dsimp only at h;omega⟩⟩,by unfold muS;show (3 - 1:Int).toNat < (3 - m.pc).toNat;omega⟩⟩
   obtain ⟨i,hi⟩:=List.mem_iff_getElem?.1 hr
   exact (wB gw hi).2.2.2.2
  ·rw [if_neg q]
   exact zU rfl ⟨(by show (1:Int)≠0;decide),st1,rfl,⟨tm.listen,tm.word,tm.link,tm.host,tm.path,tm.d0,tm.d1,tm.cfg,(fun h=>absurd ((show m.op.kind=6 from h).symm.trans hk) (by decide))⟩,rfl,.inl ⟨rfl,by show (6:Int)<=9∧(9:Int)<=13;decide⟩⟩
 ·have vf:=lo.ver (by omega)
  have ep:=(qm.1 gw.ground).zn
  rw [if_neg (by omega),if_pos p]
  refine zU rfl ⟨(by show (1:Int)≠0;decide),st1,rfl,⟨tm.listen,tm.word,tm.link,tm.host,tm.path,tm.d0,tm.d1,tm.cfg,tm.ans⟩,rfl,.inr ⟨⟨v,g,e,⟨su.world,su.zq,su.done,su.version,su.atv,su.zg,su.atg,su.end_,su.ate,su.other,su.slot,su.listen,su.i,su.k⟩,⟨(by dsimp only;omega),fun _=>vf,fun _=>⟨ep.1,Int.le_refl _⟩⟩⟩,by unfold muS;show (3 - 2:Int).toNat < (3 - m.pc).toNat;omega⟩⟩
 ·have vf:=lo.ver (by omega)
  have ep:=lo.ep p
  have sv:=su.version
  have nl:kN w m=false:=by
   unfold kN
   simp only [Bool.or_eq_false_iff,List.any_eq_false,beq_iff_eq,beq_eq_false_iff_ne,decide_eq_false_iff_not]
   exact ⟨⟨⟨fun r hr=>vf.2 r hr,vf.1⟩,by omega⟩,by omega⟩
  have st2:=st.zoX (x:=⟨m.version,m.zn,false⟩) sv.1 sv.2 vf.1 ep.1 ep.2 rfl vf.2
  rw [if_neg (by omega),if_neg (by omega),if_pos p,nl]
  exact zU rfl ⟨(by show (2:Int)≠0;decide),st2,rfl,⟨tm.listen,tm.word,tm.link,tm.host,tm.path,tm.d0,tm.d1,tm.cfg,(fun h=>absurd ((show m.op.kind=6 from h).symm.trans hk) (by decide))⟩,rfl,.inl ⟨rfl,by show (6:Int)<=8∧(8:Int)<=13;decide⟩⟩
def zoi (_:Wor) (m:Mac) (_:Ver) (_:Gr) (_:En):Prop:=m.pc=0
def mu0 (_:Wor) (_:Mac):Nat:=0
theorem zlg (st:St N K w) (su:qI w m v g e) (tm:TyM m) (lo:zoi w m v g e) (hk:m.op.kind=4) (hN:N<=100000000):∃ r,zbM w m=some r∧Nx N K w m zoi zkj mu0 r:=by
 have gw:=st.jv
 have st1:St (N+1) (K+1) w:=st.mono (by omega) (by omega)
 have lo:m.pc=0:=lo
 have pr:=zcG w.ze m.op.listen
 have hl:=st.ty.lis
 unfold zbM
 rw [if_pos lo]
 by_cases q:qd w.ze m.op.listen < 0
 ·rw [if_pos q]
  exact zU rfl ⟨(by show (1:Int)≠0;decide),st1,rfl,⟨tm.listen,tm.word,tm.link,tm.host,tm.path,tm.d0,tm.d1,tm.cfg,(fun h=>absurd ((show m.op.kind=6 from h).symm.trans hk) (by decide))⟩,rfl,.inl ⟨rfl,by show (6:Int)<=7∧(7:Int)<=13;decide⟩⟩
 ·rw [if_neg q]
  obtain ⟨x,hx⟩:∃ x,w.ze[(qd w.ze m.op.listen).toNat]?= some x:=⟨_,List.getElem?_eq_getElem (by omega)⟩
  have li:=zda (gw.lis _ x hx).1
  have lk:=st.ty.okl x (List.mem_of_getElem? hx)
  have ca:=st.cal.lis x (List.mem_of_getElem? hx)
  rw [hx,Option.map_some]
  have st2:=st1.zbf hx (y:=Go.Gat.ky x) rfl (zdX li.1 li.2.1 rfl) lk.2 (by show x.zj<=_;omega)
  exact zU rfl ⟨(by show (2:Int)≠0;decide),st2,rfl,⟨by show i64 (qd w.ze m.op.listen);unfold i64;omega,tm.word,tm.link,tm.host,tm.path,tm.d0,tm.d1,tm.cfg,(fun h=>absurd ((show m.op.kind=6 from h).symm.trans hk) (by decide))⟩,rfl,.inl ⟨rfl,by show (6:Int)<=10∧(10:Int)<=13;decide⟩⟩
def zoh (_:Wor) (m:Mac) (_:Ver) (_:Gr) (_:En):Prop:=m.pc=9
theorem zhB (st:St N K w) (su:qI w m v g e) (tm:TyM m) (lo:zoh w m v g e) (hk:m.op.kind=2):∃ r,wY w m v g e=some r∧Nx N K w m zoh zkj mu0 r:=by
 have st1:St (N+1) (K+1) w:=st.mono (by omega) (by omega)
 have lo:m.pc=9:=lo
 unfold wY
 rw [if_neg (by omega),if_neg (by omega),if_neg (by omega),if_neg (by omega),if_neg (by omega),if_pos lo]
 exact zU rfl ⟨(by show (1:Int)≠0;decide),st1,rfl,⟨tm.listen,tm.word,tm.link,tm.host,tm.path,tm.d0,tm.d1,tm.cfg,(fun h=>absurd ((show m.op.kind=6 from h).symm.trans hk) (by decide))⟩,rfl,.inl ⟨rfl,by show (6:Int)<=7∧(7:Int)<=13;decide⟩⟩
structure zlG (w:Wor) (m:Mac) (v:Ver) (g:Gr) (e:En):Prop where
 pc:m.pc=0
 k:m.k < 6
 i:m.i < w.counts.length
def muT (w:Wor) (m:Mac):Nat:=((w.counts.length - m.i) * 6 - m.k).toNat
theorem zlh (st:St N K w) (su:qI w m v g e) (tm:TyM m) (lo:zlG w m v g e) (hk:m.op.kind=6):∃ r,zca w m=some r∧Nx N K w m zlG (fun x=>x.answer.kind=13) muT r:=by
 have st1:St (N+1) (K+1) w:=st.mono (by omega) (by omega)
 have i0:=su.i
 have k0:=su.k
 have ik:=lo.i
 have kk:=lo.k
 have hlt:m.i.toNat < w.counts.length:=by omega
 have hl:=(qm.1 st.jv.ground).counts.2 _ (List.getElem_mem hlt)
 unfold zca
 rw [if_pos ⟨lo.pc,lo.k⟩,List.getElem?_eq_getElem hlt,Option.bind_some,List.getElem?_eq_getElem (show m.k.toNat < (w.counts[m.i.toNat]).length by omega),Option.map_some]
 generalize (w.counts[m.i.toNat])[m.k.toNat]'(by omega)=n
 by_cases h6:m.k+1=6
 ·by_cases h7:m.i+1=w.counts.length
  ·refine zU rfl ⟨(by show (1:Int)≠0;decide),st1,rfl,?_,?_,.inl ?_⟩
   ·show TyM (jK w m n)
    rw [zby h6 h7]
    exact ⟨tm.listen,tm.word,tm.link,tm.host,tm.path,tm.d0,tm.d1,tm.cfg,fun _ h=>(by cases h)⟩
   ·show (jK w m n).op=m.op
    rw [zby h6 h7]
   ·show (jK w m n).done=true∧(jK w m n).answer.kind=13
    rw [zby h6 h7]
    exact ⟨rfl,rfl⟩
  ·have e2:=zgK (n:=n) h6 h7
   refine zU rfl ⟨(by show (1:Int)≠0;decide),st1,rfl,?_,?_,.inr ⟨⟨v,g,e,?_,?_⟩,?_⟩⟩
   ·show TyM (jK w m n)
    rw [e2]
    exact ⟨tm.listen,tm.word,tm.link,tm.host,tm.path,tm.d0,tm.d1,tm.cfg,tm.ans⟩
   ·show (jK w m n).op=m.op
    rw [e2]
   ·show qI w (jK w m n) v g e
    rw [e2]
    exact ⟨su.world,su.zq,su.done,su.version,su.atv,su.zg,su.atg,su.end_,su.ate,su.other,su.slot,su.listen,by show 0<=m.i+1;omega,Int.le_refl _⟩
   ·show zlG w (jK w m n) v g e
    rw [e2]
    exact ⟨lo.pc,by show (0:Int) < 6;decide,by show m.i+1 < _;omega⟩
   ·show muT w (jK w m n) < muT w m
    rw [e2]
    unfold muT
    dsimp only
    omega
 ·have e1:=zgJ (w:=w) (n:=n) h6 (by omega)
  refine zU rfl ⟨(by show (1:Int)≠0;decide),st1,rfl,?_,?_,.inr ⟨⟨v,g,e,?_,?_⟩,?_⟩⟩
  ·show TyM (jK w m n)
   rw [e1]
   exact ⟨tm.listen,tm.word,tm.link,tm.host,tm.path,tm.d0,tm.d1,tm.cfg,tm.ans⟩
  ·show (jK w m n).op=m.op
   rw [e1]
  ·show qI w (jK w m n) v g e
   rw [e1]
   exact ⟨su.world,su.zq,su.done,su.version,su.atv,su.zg,su.atg,su.end_,su.ate,su.other,su.slot,su.listen,su.i,by show 0<=m.k+1;omega⟩
  ·show zlG w (jK w m n) v g e
   rw [e1]
   exact ⟨lo.pc,by show m.k+1 < 6;omega,lo.i⟩
  ·show muT w (jK w m n) < muT w m
   rw [e1]
   unfold muT
   dsimp only
   omega
end
end Go.Wor
namespace Go.Wor
open Go.Ab Go.Proofs Go.Hy Go.Gat Go.Nam Go.Hos Go.Con Go.Sna
structure zm9 (w:Wor) (m:Mac) (v:Ver) (g:Gr) (e:En):Prop where
 pc:(0<=m.pc∧m.pc<=6)∨(8<=m.pc∧m.pc<=10)
 pin:m.pc=2->m.i < w.pins.length
 li4:m.pc=4->m.i<=w.zm.length
 lim:m.pc=5∨m.pc=6->∃ r,w.zm[m.i.toNat]?= some r∧r.version=m.version∧r.gone=false
 act:m.pc=5->m.k < (xw v).length
 lis:m.pc=9∨m.pc=10->∃ l,w.ze[m.i.toNat]?= some l∧l.drain=true
def zog (m:Mac):Prop:=m.answer.kind=11∨m.answer.kind=12
def muC (w:Wor) (m:Mac):Nat:=(
 if m.pc=0 then 20 * (w.zm.length:Int)+4 * w.ze.length+w.pins.length+20
 else if m.pc=1 then 20 * (w.zm.length:Int)+4 * w.ze.length+w.pins.length+19
 else if m.pc=2 then 20 * (w.zm.length:Int)+4 * w.ze.length+10+(w.pins.length - m.i)
 else if m.pc=3 then 20 * (w.zm.length:Int)+4 * w.ze.length+10
 else if m.pc=4 then (w.zm.length - m.i) * 20+4 * w.ze.length+5
 else if m.pc=5 then (w.zm.length - m.i) * 20+4 * w.ze.length+5 - 1 - m.k
 else if m.pc=6 then (w.zm.length - m.i) * 20+4 * w.ze.length+5 - 18
 else if m.pc=8 then (w.ze.length - m.i) * 4
 else if m.pc=9 then (w.ze.length - m.i) * 4 - 1
 else (w.ze.length - m.i) * 4 - 2:Int).toNat
theorem zn6:∀ (l:List Gr),(∀ g ∈ l,g.ends.length<=4)->(l.flatMap (·.ends)).length<=l.length * 4
 | [],_=>by simp
 | g::l,h=>by
  have:=zn6 l fun x hx=>h x (List.mem_cons_of_mem _ hx)
  have:=h g (List.mem_cons_self ..)
  simp only [List.flatMap_cons,List.length_append,List.length_cons]
  omega
theorem zha {v:Ver} (h:kM v):1<=(xw v).length∧(xw v).length<=16:=by
 have f:=h.few
 have h4:=zn6 v.zf fun g hg=>(f.2 g hg).1
 refine ⟨?_,by unfold xw;omega⟩
 have h0:0 < v.zf.length:=by have:=(jE h.snap).zk.1;have:=h.len;omega
 obtain ⟨g,e,hg,he,_,_⟩:=wo h h0
 have:e ∈ xw v:=List.mem_flatMap.2 ⟨g,List.mem_of_getElem? hg,List.mem_of_getElem? he⟩
 exact List.length_pos_of_mem this
theorem qG {w:Wor} {m:Mac} {n:Int}:(m.pc=0->n=20 * (w.zm.length:Int)+4 * w.ze.length+w.pins.length+20)->(m.pc=1->n=20 * (w.zm.length:Int)+4 * w.ze.length+w.pins.length+19)->
  (m.pc=2->n=20 * (w.zm.length:Int)+4 * w.ze.length+10+(w.pins.length - m.i))->(m.pc=3->n=20 * (w.zm.length:Int)+4 * w.ze.length+10)->(m.pc=4->n=(w.zm.length - m.i) * 20+4 * w.ze.length+5)->
  (m.pc=5->n=(w.zm.length - m.i) * 20+4 * w.ze.length+5 - 1 - m.k)->(m.pc=6->n=(w.zm.length - m.i) * 20+4 * w.ze.length+5 - 18)->(m.pc=8->n=(w.ze.length - m.i) * 4)->(m.pc=9->n=(w.ze.length - m.i) * 4 - 1)->
  (m.pc=10->n=(w.ze.length - m.i) * 4 - 2)->(0<=m.pc∧m.pc<=6)∨(8<=m.pc∧m.pc<=10)->muC w m=n.toNat:=by
 intro h0 h1 h2 h3 h4 h5 h6 h8 h9 h10 hp
 unfold muC
 rcases (by omega:m.pc=0∨m.pc=1∨m.pc=2∨m.pc=3∨m.pc=4∨m.pc=5∨m.pc=6∨m.pc=8∨m.pc=9∨m.pc=10) with p | p | p | p | p | p | p | p | p | p
 ·rw [h0 p,if_pos p]
 ·rw [h1 p,if_neg (by omega),if_pos p]
 ·rw [h2 p,if_neg (by omega),if_neg (by omega),if_pos p]
 ·rw [h3 p,if_neg (by omega),if_neg (by omega),if_neg (by omega),if_pos p]
 ·rw [h4 p,if_neg (by omega),if_neg (by omega),if_neg (by omega),if_neg (by omega),if_pos p]
 ·rw [h5 p,if_neg (by omega),if_neg (by omega),if_neg (by omega),if_neg (by omega),if_neg (by omega),if_pos p]
 ·rw [h6 p,if_neg (by omega),if_neg (by omega),if_neg (by omega),if_neg (by omega),if_neg (by omega),if_neg (by omega),if_pos p]
 ·rw [h8 p,if_neg (by omega),if_neg (by omega),if_neg (by omega),if_neg (by omega),if_neg (by omega),if_neg (by omega),if_neg (by omega),if_pos p]
 ·rw [h9 p,if_neg (by omega),if_neg (by omega),if_neg (by omega),if_neg (by omega),if_neg (by omega),if_neg (by omega),if_neg (by omega),if_neg (by omega),if_pos p]
 ·rw [h10 p,if_neg (by omega),if_neg (by omega),if_neg (by omega),if_neg (by omega),if_neg (by omega),if_neg (by omega),if_neg (by omega),if_neg (by omega),if_neg (by omega)]
section
variable {N K:Nat} {w:Wor} {m:Mac} {v:Ver} {g:Gr} {e:En}
theorem zmD {m1:Mac} (st:St N K w) (su:qI w m1 v g e) (tm:TyM m1) (hk:m1.op.kind=5) (hN:N<=100000000) (hpc:m1.pc=8) (ho:m1.op=m.op) (hM:m1.i < w.ze.length->(w.ze.length - m1.i) * 4<=(muC w m:Int)):Nx N K w m zm9 zog muC (ldS w m1):=by
 have st1:St (N+1) (K+1) w:=st.mono (by omega) (by omega)
 have i0:=su.i
 have hl:=st.ty.lis
 unfold ldS
 cases hx:w.ze[m1.i.toNat]? with
 | none=>
  have st2:=st1.lck (n:=0) (.inl rfl)
  exact ⟨(by show (2:Int)≠0;decide),st2,rfl,⟨tm.listen,tm.word,tm.link,tm.host,tm.path,tm.d0,tm.d1,tm.cfg,fun h=>absurd ((show m1.op.kind=6 from h).symm.trans hk) (by decide)⟩,ho,.inl ⟨rfl,.inl rfl⟩⟩
 | some l=>
  have hlt:=(List.getElem?_eq_some_iff.1 hx).1
  have hm:=hM (by omega)
  have hw:IntKind.i64.wrap (m1.i+1)=m1.i+1:=jw (by omega) (by omega)
  dsimp only
  by_cases q:l.drain=true∧l.closed=false
  ·unfold ldM
   rw [if_pos q]
   refine ⟨(by show (1:Int)≠0;decide),st1,rfl,⟨tm.listen,tm.word,tm.link,tm.host,tm.path,tm.d0,tm.d1,tm.cfg,tm.ans⟩,ho,.inr ⟨⟨v,g,e,⟨su.world,su.zq,su.done,su.version,su.atv,su.zg,su.atg,su.end_,su.ate,su.other,su.slot,su.listen,su.i,su.k⟩,⟨(by dsimp only;omega),fun h=>by dsimp only at h;omega,fun h=>by dsimp only at h;omega,fun h=>by dsimp only at h;omega,fun h=>by dsimp only at h;omega,fun _=>⟨l,hx,q.1⟩⟩⟩,?_⟩⟩
   show muC w { m1 with pc:=9 } < _
   rw [(qG (w:=w) (m:={ m1 with pc:=9 }) (n:=(w.ze.length - m1.i) * 4 - 1) (fun h=>by (try dsimp only at h ⊢) <;> omega) (fun h=>by (try dsimp only at h ⊢) <;> omega) (fun h=>by (try dsimp only at h ⊢) <;> omega) (fun h=>by (try dsimp only at h ⊢) <;> omega) (fun h=>by (try dsimp only at h ⊢) <;> omega) (fun h=>by (try dsimp only at h ⊢) <;> omega) (fun h=>by (try dsimp only at h ⊢) <;> omega) (fun h=>by (try dsimp only at h ⊢) <;> omega) (fun h=>by (try dsimp only at h ⊢) <;> omega) (fun h=>by (try dsimp only at h ⊢) <;> omega) (by (try dsimp only);omega))]
   omega
  ·unfold ldM
   rw [if_neg q,hw]
   refine ⟨(by show (1:Int)≠0;decide),st1,rfl,⟨tm.listen,tm.word,tm.link,tm.host,tm.path,tm.d0,tm.d1,tm.cfg,tm.ans⟩,ho,.inr ⟨⟨v,g,e,⟨su.world,su.zq,su.done,su.version,su.atv,su.zg,su.atg,su.end_,su.ate,su.other,su.slot,su.listen,(by show 0<=m1.i+1;omega),su.k⟩,⟨by show _∨(8<=m1.pc∧m1.pc<=10);omega,fun h=>by dsimp only at h;omega,fun h=>by dsimp only at h;omega,fun h=>by dsimp only at h;omega,fun h=>by dsimp only at h;omega,fun h=>by dsimp only at h;omega⟩⟩,?_⟩⟩
   show muC w { m1 with i:=m1.i+1 } < _
   rw [(qG (w:=w) (m:={ m1 with i:=m1.i+1 }) (n:=(w.ze.length - (m1.i+1)) * 4) (fun h=>by (try dsimp only at h ⊢) <;> omega) (fun h=>by (try dsimp only at h ⊢) <;> omega) (fun h=>by (try dsimp only at h ⊢) <;> omega) (fun h=>by (try dsimp only at h ⊢) <;> omega) (fun h=>by (try dsimp only at h ⊢) <;> omega) (fun h=>by (try dsimp only at h ⊢) <;> omega) (fun h=>by (try dsimp only at h ⊢) <;> omega) (fun h=>by (try dsimp only at h ⊢) <;> omega) (fun h=>by (try dsimp only at h ⊢) <;> omega) (fun h=>by (try dsimp only at h ⊢) <;> omega) (by (try dsimp only);omega))]
   omega
theorem zhA (st:St N K w) (su:qI w m v g e) (tm:TyM m) (lo:zm9 w m v g e) (hk:m.op.kind=5) (hN:N<=100000000):∃ r,vS w m=some r∧Nx N K w m zm9 zog muC r:=by
 have gw:=st.jv
 have st1:St (N+1) (K+1) w:=st.mono (by omega) (by omega)
 have i0:=su.i
 have k0:=su.k
 have gr:=qm.1 gw.ground
 have lT:=st.ty.lis
 have lL:=st.ty.lim
 have pc:=lo.pc
 have pcs:m.pc=0∨m.pc=1∨m.pc=2∨m.pc=3∨m.pc=4∨m.pc=5∨m.pc=6∨m.pc=8∨m.pc=9∨m.pc=10:=by omega
 unfold vS
 by_cases p:m.pc=0
 ·rw [if_pos p]
  by_cases q:w.lock=0
  ·rw [if_pos q]
   have st2:=st1.lck (n:=1) (.inr rfl)
   refine zU rfl ⟨(by show (4:Int)≠0;decide),st2,rfl,⟨tm.listen,tm.word,tm.link,tm.host,tm.path,tm.d0,tm.d1,tm.cfg,tm.ans⟩,rfl,.inr ⟨⟨v,g,e,⟨qh.2 st2.jv,su.zq,su.done,su.version,su.atv,su.zg,su.atg,su.end_,su.ate,su.other,su.slot,su.listen,su.i,su.k⟩,⟨(by dsimp only;omega),fun h=>by dsimp only at h;omega,fun h=>by dsimp only at h;omega,fun h=>by dsimp only at h;omega,fun h=>by dsimp only at h;omega,fun h=>by dsimp only at h;omega⟩⟩,?_⟩⟩
   show muC { w with lock:=1 } { m with pc:=1 } < _
   rw [(qG (w:={ w with lock:=1 }) (m:={ m with pc:=1 }) (n:=20 * (w.zm.length:Int)+4 * w.ze.length+w.pins.length+19) (fun h=>by (try dsimp only at h ⊢) <;> omega) (fun h=>by (try dsimp only at h ⊢) <;> omega) (fun h=>by (try dsimp only at h ⊢) <;> omega) (fun h=>by (try dsimp only at h ⊢) <;> omega) (fun h=>by (try dsimp only at h ⊢) <;> omega) (fun h=>by (try dsimp only at h ⊢) <;> omega) (fun h=>by (try dsimp only at h ⊢) <;> omega) (fun h=>by (try dsimp only at h ⊢) <;> omega) (fun h=>by (try dsimp only at h ⊢) <;> omega) (fun h=>by (try dsimp only at h ⊢) <;> omega) (by (try dsimp only);omega)),(qG (w:=w) (m:=m) (n:=20 * (w.zm.length:Int)+4 * w.ze.length+w.pins.length+20) (fun h=>by (try dsimp only at h ⊢) <;> omega) (fun h=>by (try dsimp only at h ⊢) <;> omega) (fun h=>by (try dsimp only at h ⊢) <;> omega) (fun h=>by (try dsimp only at h ⊢) <;> omega) (fun h=>by (try dsimp only at h ⊢) <;> omega) (fun h=>by (try dsimp only at h ⊢) <;> omega) (fun h=>by (try dsimp only at h ⊢) <;> omega) (fun h=>by (try dsimp only at h ⊢) <;> omega) (fun h=>by (try dsimp only at h ⊢) <;> omega) (fun h=>by (try dsimp only at h ⊢) <;> omega) (by (try dsimp only);omega))]
   omega
  ·rw [if_neg q]
   exact zU rfl ⟨(by show (5:Int)≠0;decide),st1,rfl,⟨tm.listen,tm.word,tm.link,tm.host,tm.path,tm.d0,tm.d1,tm.cfg,(fun h=>absurd ((show m.op.kind=6 from h).symm.trans hk) (by decide))⟩,rfl,.inl ⟨rfl,.inr rfl⟩⟩
 replace pcs:=pcs.resolve_left p
 rw [if_neg p];clear p
 by_cases p:m.pc=1
 ·rw [if_pos p]
  refine zU rfl ⟨(by show (1:Int)≠0;decide),st1,rfl,⟨tm.listen,tm.word,tm.link,tm.host,tm.path,tm.d0,tm.d1,tm.cfg,tm.ans⟩,rfl,.inr ⟨⟨v,g,e,⟨su.world,su.zq,su.done,su.version,su.atv,su.zg,su.atg,su.end_,su.ate,su.other,su.slot,su.listen,Int.le_refl _,su.k⟩,⟨(by dsimp only;omega),fun _=>by show (0:Int) < (w.pins.length:Nat);have:=gr.pins.1;omega,fun h=>by dsimp only at h;omega,fun h=>by dsimp only at h;omega,fun h=>by dsimp only at h;omega,fun h=>by dsimp only at h;omega⟩⟩,?_⟩⟩
  show muC w { m with zn:=w.zn,pc:=2,i:=0 } < _
  rw [(qG (w:=w) (m:={ m with zn:=w.zn,pc:=2,i:=0 }) (n:=20 * (w.zm.length:Int)+4 * w.ze.length+10+w.pins.length) (fun h=>by (try dsimp only at h ⊢) <;> omega) (fun h=>by (try dsimp only at h ⊢) <;> omega) (fun h=>by (try dsimp only at h ⊢) <;> omega) (fun h=>by (try dsimp only at h ⊢) <;> omega) (fun h=>by (try dsimp only at h ⊢) <;> omega) (fun h=>by (try dsimp only at h ⊢) <;> omega) (fun h=>by (try dsimp only at h ⊢) <;> omega) (fun h=>by (try dsimp only at h ⊢) <;> omega) (fun h=>by (try dsimp only at h ⊢) <;> omega) (fun h=>by (try dsimp only at h ⊢) <;> omega) (by (try dsimp only);omega)),(qG (w:=w) (m:=m) (n:=20 * (w.zm.length:Int)+4 * w.ze.length+w.pins.length+19) (fun h=>by (try dsimp only at h ⊢) <;> omega) (fun h=>by (try dsimp only at h ⊢) <;> omega) (fun h=>by (try dsimp only at h ⊢) <;> omega) (fun h=>by (try dsimp only at h ⊢) <;> omega) (fun h=>by (try dsimp only at h ⊢) <;> omega) (fun h=>by (try dsimp only at h ⊢) <;> omega) (fun h=>by (try dsimp only at h ⊢) <;> omega) (fun h=>by (try dsimp only at h ⊢) <;> omega) (fun h=>by (try dsimp only at h ⊢) <;> omega) (fun h=>by (try dsimp only at h ⊢) <;> omega) (by (try dsimp only);omega))]
  omega
 replace pcs:=pcs.resolve_left p
 rw [if_neg p];clear p
 by_cases p:m.pc=2
 ·rw [if_pos p]
  have hi:=lo.pin p
  obtain ⟨x,hx⟩:∃ x,w.pins[m.i.toNat]?= some x:=⟨_,List.getElem?_eq_getElem (by omega)⟩
  have hw:IntKind.i64.wrap (m.i+1)=m.i+1:=jw (by omega) (by have:=gr.pins.2;omega)
  rw [hx,Option.map_some]
  have e0:=(qG (w:=w) (m:=m) (n:=20 * (w.zm.length:Int)+4 * w.ze.length+10+(w.pins.length - m.i)) (fun h=>by (try dsimp only at h ⊢) <;> omega) (fun h=>by (try dsimp only at h ⊢) <;> omega) (fun h=>by (try dsimp only at h ⊢) <;> omega) (fun h=>by (try dsimp only at h ⊢) <;> omega) (fun h=>by (try dsimp only at h ⊢) <;> omega) (fun h=>by (try dsimp only at h ⊢) <;> omega) (fun h=>by (try dsimp only at h ⊢) <;> omega) (fun h=>by (try dsimp only at h ⊢) <;> omega) (fun h=>by (try dsimp only at h ⊢) <;> omega) (fun h=>by (try dsimp only at h ⊢) <;> omega) (by (try dsimp only);omega))
  unfold lpM
  rw [hw]
  by_cases q:x≠0∧x≠IntKind.i64.wrap (m.zn+1)
  ·rw [if_pos q]
   refine zU rfl ⟨(by show (1:Int)≠0;decide),st1,rfl,⟨tm.listen,tm.word,tm.link,tm.host,tm.path,tm.d0,tm.d1,tm.cfg,tm.ans⟩,rfl,.inr ⟨⟨v,g,e,⟨su.world,su.zq,su.done,su.version,su.atv,su.zg,su.atg,su.end_,su.ate,su.other,su.slot,su.listen,Int.le_refl _,su.k⟩,⟨(by dsimp only;omega),fun h=>by dsimp only at h;omega,fun _=>by show (0:Int)<=_;omega,fun h=>by dsimp only at h;omega,fun h=>by dsimp only at h;omega,fun h=>by dsimp only at h;omega⟩⟩,?_⟩⟩
   show muC w { m with pc:=4,i:=0 } < _
   rw [e0,(qG (w:=w) (m:={ m with pc:=4,i:=0 }) (n:=((w.zm.length:Int) - 0) * 20+4 * w.ze.length+5) (fun h=>by (try dsimp only at h ⊢) <;> omega) (fun h=>by (try dsimp only at h ⊢) <;> omega) (fun h=>by (try dsimp only at h ⊢) <;> omega) (fun h=>by (try dsimp only at h ⊢) <;> omega) (fun h=>by (try dsimp only at h ⊢) <;> omega) (fun h=>by (try dsimp only at h ⊢) <;> omega) (fun h=>by (try dsimp only at h ⊢) <;> omega) (fun h=>by (try dsimp only at h ⊢) <;> omega) (fun h=>by (try dsimp only at h ⊢) <;> omega) (fun h=>by (try dsimp only at h ⊢) <;> omega) (by (try dsimp only);omega))]
   omega
  rw [if_neg q]
  by_cases q2:m.i+1 < w.pins.length
  ·rw [if_pos q2]
   refine zU rfl ⟨(by show (1:Int)≠0;decide),st1,rfl,⟨tm.listen,tm.word,tm.link,tm.host,tm.path,tm.d0,tm.d1,tm.cfg,tm.ans⟩,rfl,.inr ⟨⟨v,g,e,⟨su.world,su.zq,su.done,su.version,su.atv,su.zg,su.atg,su.end_,su.ate,su.other,su.slot,su.listen,(by show 0<=m.i+1;omega),su.k⟩,⟨by show (0<=m.pc∧m.pc<=6)∨_;omega,fun _=>q2,fun h=>by dsimp only at h;omega,fun h=>by dsimp only at h;omega,fun h=>by dsimp only at h;omega,fun h=>by dsimp only at h;omega⟩⟩,?_⟩⟩
   show muC w { m with i:=m.i+1 } < _
   rw [e0,(qG (w:=w) (m:={ m with i:=m.i+1 }) (n:=20 * (w.zm.length:Int)+4 * w.ze.length+10+(w.pins.length - (m.i+1))) (fun h=>by (try dsimp only at h ⊢) <;> omega) (fun h=>by (try dsimp only at h ⊢) <;> omega) (fun h=>by (try dsimp only at h ⊢) <;> omega) (fun h=>by (try dsimp only at h ⊢) <;> omega) (fun h=>by (try dsimp only at h ⊢) <;> omega) (fun h=>by (try dsimp only at h ⊢) <;> omega) (fun h=>by (try dsimp only at h ⊢) <;> omega) (fun h=>by (try dsimp only at h ⊢) <;> omega) (fun h=>by (try dsimp only at h ⊢) <;> omega) (fun h=>by (try dsimp only at h ⊢) <;> omega) (by (try dsimp only);omega))]
   omega
  ·rw [if_neg q2]
   refine zU rfl ⟨(by show (1:Int)≠0;decide),st1,rfl,⟨tm.listen,tm.word,tm.link,tm.host,tm.path,tm.d0,tm.d1,tm.cfg,tm.ans⟩,rfl,.inr ⟨⟨v,g,e,⟨su.world,su.zq,su.done,su.version,su.atv,su.zg,su.atg,su.end_,su.ate,su.other,su.slot,su.listen,(by show 0<=m.i+1;omega),su.k⟩,⟨(by dsimp only;omega),fun h=>by dsimp only at h;omega,fun h=>by dsimp only at h;omega,fun h=>by dsimp only at h;omega,fun h=>by dsimp only at h;omega,fun h=>by dsimp only at h;omega⟩⟩,?_⟩⟩
   show muC w { m with pc:=3,i:=m.i+1 } < _
   rw [e0,(qG (w:=w) (m:={ m with pc:=3,i:=m.i+1 }) (n:=20 * (w.zm.length:Int)+4 * w.ze.length+10) (fun h=>by (try dsimp only at h ⊢) <;> omega) (fun h=>by (try dsimp only at h ⊢) <;> omega) (fun h=>by (try dsimp only at h ⊢) <;> omega) (fun h=>by (try dsimp only at h ⊢) <;> omega) (fun h=>by (try dsimp only at h ⊢) <;> omega) (fun h=>by (try dsimp only at h ⊢) <;> omega) (fun h=>by (try dsimp only at h ⊢) <;> omega) (fun h=>by (try dsimp only at h ⊢) <;> omega) (fun h=>by (try dsimp only at h ⊢) <;> omega) (fun h=>by (try dsimp only at h ⊢) <;> omega) (by (try dsimp only);omega))]
   omega
 replace pcs:=pcs.resolve_left p
 rw [if_neg p];clear p
 by_cases p:m.pc=3
 ·rw [if_pos p]
  have e0:=(qG (w:=w) (m:=m) (n:=20 * (w.zm.length:Int)+4 * w.ze.length+10) (fun h=>by (try dsimp only at h ⊢) <;> omega) (fun h=>by (try dsimp only at h ⊢) <;> omega) (fun h=>by (try dsimp only at h ⊢) <;> omega) (fun h=>by (try dsimp only at h ⊢) <;> omega) (fun h=>by (try dsimp only at h ⊢) <;> omega) (fun h=>by (try dsimp only at h ⊢) <;> omega) (fun h=>by (try dsimp only at h ⊢) <;> omega) (fun h=>by (try dsimp only at h ⊢) <;> omega) (fun h=>by (try dsimp only at h ⊢) <;> omega) (fun h=>by (try dsimp only at h ⊢) <;> omega) (by (try dsimp only);omega))
  by_cases q:w.zn=m.zn∧w.zn < 1000000000000
  ·have hw:IntKind.i64.wrap (w.zn+1)=w.zn+1:=jw (by have:=gr.zn;omega) (by omega)
   rw [if_pos q,hw]
   have st2:=st1.epo (n:=w.zn+1) (by omega) (by omega)
   refine zU rfl ⟨(by show (4:Int)≠0;decide),st2,rfl,⟨tm.listen,tm.word,tm.link,tm.host,tm.path,tm.d0,tm.d1,tm.cfg,tm.ans⟩,rfl,.inr ⟨⟨v,g,e,⟨qh.2 st2.jv,su.zq,su.done,su.version,su.atv,su.zg,su.atg,su.end_,su.ate,su.other,su.slot,su.listen,Int.le_refl _,su.k⟩,⟨(by dsimp only;omega),fun h=>by dsimp only at h;omega,fun _=>by show (0:Int)<=_;omega,fun h=>by dsimp only at h;omega,fun h=>by dsimp only at h;omega,fun h=>by dsimp only at h;omega⟩⟩,?_⟩⟩
   show muC { w with zn:=w.zn+1 } { m with pc:=4,i:=0,zn:=w.zn+1 } < _
   rw [e0,(qG (w:={ w with zn:=w.zn+1 }) (m:={ m with pc:=4,i:=0,zn:=w.zn+1 }) (n:=((w.zm.length:Int) - 0) * 20+4 * w.ze.length+5) (fun h=>by (try dsimp only at h ⊢) <;> omega) (fun h=>by (try dsimp only at h ⊢) <;> omega) (fun h=>by (try dsimp only at h ⊢) <;> omega) (fun h=>by (try dsimp only at h ⊢) <;> omega) (fun h=>by (try dsimp only at h ⊢) <;> omega) (fun h=>by (try dsimp only at h ⊢) <;> omega) (fun h=>by (try dsimp only at h ⊢) <;> omega) (fun h=>by (try dsimp only at h ⊢) <;> omega) (fun h=>by (try dsimp only at h ⊢) <;> omega) (fun h=>by (try dsimp only at h ⊢) <;> omega) (by (try dsimp only);omega))]
   omega
  ·rw [if_neg q]
   refine zU rfl ⟨(by show (5:Int)≠0;decide),st1,rfl,⟨tm.listen,tm.word,tm.link,tm.host,tm.path,tm.d0,tm.d1,tm.cfg,tm.ans⟩,rfl,.inr ⟨⟨v,g,e,⟨su.world,su.zq,su.done,su.version,su.atv,su.zg,su.atg,su.end_,su.ate,su.other,su.slot,su.listen,Int.le_refl _,su.k⟩,⟨(by dsimp only;omega),fun h=>by dsimp only at h;omega,fun _=>by show (0:Int)<=_;omega,fun h=>by dsimp only at h;omega,fun h=>by dsimp only at h;omega,fun h=>by dsimp only at h;omega⟩⟩,?_⟩⟩
   show muC w { m with pc:=4,i:=0 } < _
   rw [e0,(qG (w:=w) (m:={ m with pc:=4,i:=0 }) (n:=((w.zm.length:Int) - 0) * 20+4 * w.ze.length+5) (fun h=>by (try dsimp only at h ⊢) <;> omega) (fun h=>by (try dsimp only at h ⊢) <;> omega) (fun h=>by (try dsimp only at h ⊢) <;> omega) (fun h=>by (try dsimp only at h ⊢) <;> omega) (fun h=>by (try dsimp only at h ⊢) <;> omega) (fun h=>by (try dsimp only at h ⊢) <;> omega) (fun h=>by (try dsimp only at h ⊢) <;> omega) (fun h=>by (try dsimp only at h ⊢) <;> omega) (fun h=>by (try dsimp only at h ⊢) <;> omega) (fun h=>by (try dsimp only at h ⊢) <;> omega) (by (try dsimp only);omega))]
   omega
 replace pcs:=pcs.resolve_left p
 rw [if_neg p];clear p
 by_cases p:m.pc=4
 ·rw [if_pos p]
  have e0:=(qG (w:=w) (m:=m) (n:=((w.zm.length:Int) - m.i) * 20+4 * w.ze.length+5) (fun h=>by (try dsimp only at h ⊢) <;> omega) (fun h=>by (try dsimp only at h ⊢) <;> omega) (fun h=>by (try dsimp only at h ⊢) <;> omega) (fun h=>by (try dsimp only at h ⊢) <;> omega) (fun h=>by (try dsimp only at h ⊢) <;> omega) (fun h=>by (try dsimp only at h ⊢) <;> omega) (fun h=>by (try dsimp only at h ⊢) <;> omega) (fun h=>by (try dsimp only at h ⊢) <;> omega) (fun h=>by (try dsimp only at h ⊢) <;> omega) (fun h=>by (try dsimp only at h ⊢) <;> omega) (by (try dsimp only);omega))
  have li:=lo.li4 p
  cases hx:w.zm[m.i.toNat]? with
  | none=>
   refine zU rfl (zmD st (m1:=atM m 8 0) ⟨su.world,su.zq,su.done,su.version,su.atv,su.zg,su.atg,su.end_,su.ate,su.other,su.slot,su.listen,Int.le_refl _,su.k⟩ ⟨tm.listen,tm.word,tm.link,tm.host,tm.path,tm.d0,tm.d1,tm.cfg,tm.ans⟩ hk hN rfl rfl fun _=>?_)
   rw [e0]
   show ((w.ze.length:Int) - 0) * 4<=_
   omega
  | some r=>
   have hlt:=(List.getElem?_eq_some_iff.1 hx).1
   have hw:IntKind.i64.wrap (m.i+1)=m.i+1:=jw (by omega) (by omega)
   have la:=wB gw hx
   dsimp only
   unfold llM
   rw [hw]
   by_cases q:r.gone=true∨Go.Lim.zbr r.at_ m.zn=false
   ·rw [if_pos q]
    refine zU rfl ⟨(by show (1:Int)≠0;decide),st1,rfl,⟨tm.listen,tm.word,tm.link,tm.host,tm.path,tm.d0,tm.d1,tm.cfg,tm.ans⟩,rfl,.inr ⟨⟨v,g,e,⟨su.world,su.zq,su.done,su.version,su.atv,su.zg,su.atg,su.end_,su.ate,su.other,su.slot,su.listen,(by show 0<=m.i+1;omega),su.k⟩,⟨by show (0<=m.pc∧m.pc<=6)∨_;omega,fun h=>by dsimp only at h;omega,fun _=>by show m.i+1<=(w.zm.length:Nat);omega,fun h=>by dsimp only at h;omega,fun h=>by dsimp only at h;omega,fun h=>by dsimp only at h;omega⟩⟩,?_⟩⟩
    show muC w { m with i:=m.i+1 } < _
    rw [e0,(qG (w:=w) (m:={ m with i:=m.i+1 }) (n:=((w.zm.length:Int) - (m.i+1)) * 20+4 * w.ze.length+5) (fun h=>by (try dsimp only at h ⊢) <;> omega) (fun h=>by (try dsimp only at h ⊢) <;> omega) (fun h=>by (try dsimp only at h ⊢) <;> omega) (fun h=>by (try dsimp only at h ⊢) <;> omega) (fun h=>by (try dsimp only at h ⊢) <;> omega) (fun h=>by (try dsimp only at h ⊢) <;> omega) (fun h=>by (try dsimp only at h ⊢) <;> omega) (fun h=>by (try dsimp only at h ⊢) <;> omega) (fun h=>by (try dsimp only at h ⊢) <;> omega) (fun h=>by (try dsimp only at h ⊢) <;> omega) (by (try dsimp only);omega))]
    omega
   ·rw [if_neg q]
    obtain ⟨v',hv'⟩:∃ v',w.zd[r.version.toNat]?= some v':=⟨_,List.getElem?_eq_getElem (by omega)⟩
    have gv:=(gw.ver _ v' hv').1
    have h0:0 < v'.zf.length:=by have:=(jE gv.snap).zk.1;have:=gv.len;omega
    obtain ⟨g',e',hg,he,l1,l2⟩:=wo gv h0
    have el:=zha gv
    refine zU rfl ⟨(by show (1:Int)≠0;decide),st1,rfl,⟨tm.listen,tm.word,tm.link,tm.host,tm.path,tm.d0,tm.d1,tm.cfg,tm.ans⟩,rfl,.inr ⟨⟨v',g',e',⟨su.world,su.zq,su.done,⟨la.2.2.1,la.2.2.2.1⟩,hv',⟨Int.le_refl _,by show (0:Int) < _;omega⟩,hg,⟨Int.le_refl _,by show (0:Int) < _;omega⟩,he,⟨Int.le_refl _,by show (0:Int) < _;omega⟩,⟨Int.le_refl _,by show (0:Int) < _;omega⟩,su.listen,su.i,Int.le_refl _⟩,
     ⟨(by dsimp only;omega),fun h=>by dsimp only at h;omega,fun h=>by dsimp only at h;omega,fun _=>⟨r,hx,rfl,by cases hgo:r.gone with | false=>rfl | true=>exact absurd (.inl hgo) q⟩,fun _=>by show (0:Int) < _;omega,fun h=>by dsimp only at h;omega⟩⟩,?_⟩⟩
    show muC w { m with version:=r.version,zg:=0,end_:=0,other:=0,slot:=0,k:=0,pc:=5 } < _
    rw [e0,(qG (w:=w) (m:={ m with version:=r.version,zg:=0,end_:=0,other:=0,slot:=0,k:=0,pc:=5 }) (n:=((w.zm.length:Int) - m.i) * 20+4 * w.ze.length+5 - 1 - 0) (fun h=>by (try dsimp only at h ⊢) <;> omega) (fun h=>by (try dsimp only at h ⊢) <;> omega) (fun h=>by (try dsimp only at h ⊢) <;> omega) (fun h=>by (try dsimp only at h ⊢) <;> omega) (fun h=>by (try dsimp only at h ⊢) <;> omega) (fun h=>by (try dsimp only at h ⊢) <;> omega) (fun h=>by (try dsimp only at h ⊢) <;> omega) (fun h=>by (try dsimp only at h ⊢) <;> omega) (fun h=>by (try dsimp only at h ⊢) <;> omega) (fun h=>by (try dsimp only at h ⊢) <;> omega) (by (try dsimp only);omega))]
    omega
 replace pcs:=pcs.resolve_left p
 rw [if_neg p];clear p
 by_cases p:m.pc=5
 ·rw [if_pos p]
  have e0:=(qG (w:=w) (m:=m) (n:=((w.zm.length:Int) - m.i) * 20+4 * w.ze.length+5 - 1 - m.k) (fun h=>by (try dsimp only at h ⊢) <;> omega) (fun h=>by (try dsimp only at h ⊢) <;> omega) (fun h=>by (try dsimp only at h ⊢) <;> omega) (fun h=>by (try dsimp only at h ⊢) <;> omega) (fun h=>by (try dsimp only at h ⊢) <;> omega) (fun h=>by (try dsimp only at h ⊢) <;> omega) (fun h=>by (try dsimp only at h ⊢) <;> omega) (fun h=>by (try dsimp only at h ⊢) <;> omega) (fun h=>by (try dsimp only at h ⊢) <;> omega) (fun h=>by (try dsimp only at h ⊢) <;> omega) (by (try dsimp only);omega))
  obtain ⟨r,hr,hrv,hrg⟩:=lo.lim (.inl p)
  have hlt:=(List.getElem?_eq_some_iff.1 hr).1
  have hk2:=lo.act p
  have gv:=(gw.ver _ v su.atv).1
  have el:=zha gv
  have hw:IntKind.i64.wrap (m.i+1)=m.i+1:=jw (by omega) (by omega)
  have hwk:IntKind.i64.wrap (m.k+1)=m.k+1:=jw (by omega) (by omega)
  obtain ⟨x,hx⟩:∃ x,(xw v)[m.k.toNat]?= some x:=⟨_,List.getElem?_eq_getElem (by omega)⟩
  rw [su.atv,Option.bind_some,hx,Option.map_some]
  unfold laM
  rw [hw,hwk]
  by_cases q:x.zj≠0
  ·rw [if_pos q]
   refine zU rfl ⟨(by show (1:Int)≠0;decide),st1,rfl,⟨tm.listen,tm.word,tm.link,tm.host,tm.path,tm.d0,tm.d1,tm.cfg,tm.ans⟩,rfl,.inr ⟨⟨v,g,e,⟨su.world,su.zq,su.done,su.version,su.atv,su.zg,su.atg,su.end_,su.ate,su.other,su.slot,su.listen,(by show 0<=m.i+1;omega),su.k⟩,⟨(by dsimp only;omega),fun h=>by dsimp only at h;omega,fun _=>by show m.i+1<=(w.zm.length:Nat);omega,fun h=>by dsimp only at h;omega,fun h=>by dsimp only at h;omega,fun h=>by dsimp only at h;omega⟩⟩,?_⟩⟩
   show muC w { m with pc:=4,i:=m.i+1 } < _
   rw [e0,(qG (w:=w) (m:={ m with pc:=4,i:=m.i+1 }) (n:=((w.zm.length:Int) - (m.i+1)) * 20+4 * w.ze.length+5) (fun h=>by (try dsimp only at h ⊢) <;> omega) (fun h=>by (try dsimp only at h ⊢) <;> omega) (fun h=>by (try dsimp only at h ⊢) <;> omega) (fun h=>by (try dsimp only at h ⊢) <;> omega) (fun h=>by (try dsimp only at h ⊢) <;> omega) (fun h=>by (try dsimp only at h ⊢) <;> omega) (fun h=>by (try dsimp only at h ⊢) <;> omega) (fun h=>by (try dsimp only at h ⊢) <;> omega) (fun h=>by (try dsimp only at h ⊢) <;> omega) (fun h=>by (try dsimp only at h ⊢) <;> omega) (by (try dsimp only);omega))]
   omega
  rw [if_neg q]
  by_cases q2:m.k+1 < (xw v).length
  ·rw [if_pos q2]
   refine zU rfl ⟨(by show (1:Int)≠0;decide),st1,rfl,⟨tm.listen,tm.word,tm.link,tm.host,tm.path,tm.d0,tm.d1,tm.cfg,tm.ans⟩,rfl,.inr ⟨⟨v,g,e,⟨su.world,su.zq,su.done,su.version,su.atv,su.zg,su.atg,su.end_,su.ate,su.other,su.slot,su.listen,su.i,(by show 0<=m.k+1;omega)⟩,⟨by show (0<=m.pc∧m.pc<=6)∨_;omega,fun h=>by dsimp only at h;omega,fun h=>by dsimp only at h;omega,fun _=>⟨r,hr,hrv,hrg⟩,fun _=>q2,fun h=>by dsimp only at h;omega⟩⟩,?_⟩⟩
   show muC w { m with k:=m.k+1 } < _
   rw [e0,(qG (w:=w) (m:={ m with k:=m.k+1 }) (n:=((w.zm.length:Int) - m.i) * 20+4 * w.ze.length+5 - 1 - (m.k+1)) (fun h=>by (try dsimp only at h ⊢) <;> omega) (fun h=>by (try dsimp only at h ⊢) <;> omega) (fun h=>by (try dsimp only at h ⊢) <;> omega) (fun h=>by (try dsimp only at h ⊢) <;> omega) (fun h=>by (try dsimp only at h ⊢) <;> omega) (fun h=>by (try dsimp only at h ⊢) <;> omega) (fun h=>by (try dsimp only at h ⊢) <;> omega) (fun h=>by (try dsimp only at h ⊢) <;> omega) (fun h=>by (try dsimp only at h ⊢) <;> omega) (fun h=>by (try dsimp only at h ⊢) <;> omega) (by (try dsimp only);omega))]
   omega
  ·rw [if_neg q2]
   refine zU rfl ⟨(by show (1:Int)≠0;decide),st1,rfl,⟨tm.listen,tm.word,tm.link,tm.host,tm.path,tm.d0,tm.d1,tm.cfg,tm.ans⟩,rfl,.inr ⟨⟨v,g,e,⟨su.world,su.zq,su.done,su.version,su.atv,su.zg,su.atg,su.end_,su.ate,su.other,su.slot,su.listen,su.i,(by show 0<=m.k+1;omega)⟩,⟨(by dsimp only;omega),fun h=>by dsimp only at h;omega,fun h=>by dsimp only at h;omega,fun _=>⟨r,hr,hrv,hrg⟩,fun h=>by dsimp only at h;omega,fun h=>by dsimp only at h;omega⟩⟩,?_⟩⟩
   show muC w { m with k:=m.k+1,pc:=6 } < _
   rw [e0,(qG (w:=w) (m:={ m with k:=m.k+1,pc:=6 }) (n:=((w.zm.length:Int) - m.i) * 20+4 * w.ze.length+5 - 18) (fun h=>by (try dsimp only at h ⊢) <;> omega) (fun h=>by (try dsimp only at h ⊢) <;> omega) (fun h=>by (try dsimp only at h ⊢) <;> omega) (fun h=>by (try dsimp only at h ⊢) <;> omega) (fun h=>by (try dsimp only at h ⊢) <;> omega) (fun h=>by (try dsimp only at h ⊢) <;> omega) (fun h=>by (try dsimp only at h ⊢) <;> omega) (fun h=>by (try dsimp only at h ⊢) <;> omega) (fun h=>by (try dsimp only at h ⊢) <;> omega) (fun h=>by (try dsimp only at h ⊢) <;> omega) (by (try dsimp only);omega))]
   omega
 replace pcs:=pcs.resolve_left p
 rw [if_neg p];clear p
 by_cases p:m.pc=6
 ·rw [if_pos p]
  have e0:=(qG (w:=w) (m:=m) (n:=((w.zm.length:Int) - m.i) * 20+4 * w.ze.length+5 - 18) (fun h=>by (try dsimp only at h ⊢) <;> omega) (fun h=>by (try dsimp only at h ⊢) <;> omega) (fun h=>by (try dsimp only at h ⊢) <;> omega) (fun h=>by (try dsimp only at h ⊢) <;> omega) (fun h=>by (try dsimp only at h ⊢) <;> omega) (fun h=>by (try dsimp only at h ⊢) <;> omega) (fun h=>by (try dsimp only at h ⊢) <;> omega) (fun h=>by (try dsimp only at h ⊢) <;> omega) (fun h=>by (try dsimp only at h ⊢) <;> omega) (fun h=>by (try dsimp only at h ⊢) <;> omega) (by (try dsimp only);omega))
  obtain ⟨r,hr,hrv,hrg⟩:=lo.lim (.inr p)
  have hlt:=(List.getElem?_eq_some_iff.1 hr).1
  have hw:IntKind.i64.wrap (m.i+1)=m.i+1:=jw (by omega) (by omega)
  have st2:=st.zD su.version.1 su.atv hr hrv
  have s1:=(List.getElem?_eq_some_iff.1 su.atv).1
  rw [su.atv,Option.bind_some,hr,Option.bind_some,if_pos ⟨hrv,hrg⟩]
  unfold frM
  rw [hw]
  refine zU rfl ⟨(by show (2:Int)≠0;decide),st2,rfl,⟨tm.listen,tm.word,tm.link,tm.host,tm.path,tm.d0,tm.d1,tm.cfg,(fun h=>absurd ((show m.op.kind=6 from h).symm.trans hk) (by decide))⟩,rfl,.inr ⟨⟨zau v,g,e,⟨qh.2 st2.jv,su.zq,su.done,by simpa using su.version,List.getElem?_set_self s1,su.zg,su.atg,su.end_,su.ate,su.other,su.slot,su.listen,by show 0<=m.i+1;omega,su.k⟩,
   ⟨(by dsimp only;omega),fun h=>by dsimp only at h;omega,fun _=>by show m.i+1<=((w.zm.set m.i.toNat (v7 r)).length:Nat);rw [List.length_set];omega,fun h=>by dsimp only at h;omega,fun h=>by dsimp only at h;omega,fun h=>by dsimp only at h;omega⟩⟩,?_⟩⟩
  show muC { w with zd:=w.zd.set m.version.toNat (zau v),zm:=w.zm.set m.i.toNat (v7 r) } { m with answer:={ m.answer with n:=IntKind.i64.wrap (m.answer.n+1) },pc:=4,i:=m.i+1 } < _
  have ll:(w.zm.set m.i.toNat (v7 r)).length=w.zm.length:=List.length_set
  rw [e0,(qG (w:={ w with zd:=w.zd.set m.version.toNat (zau v),zm:=w.zm.set m.i.toNat (v7 r) }) (m:={ m with answer:={ m.answer with n:=IntKind.i64.wrap (m.answer.n+1) },pc:=4,i:=m.i+1 }) (n:=((w.zm.length:Int) - (m.i+1)) * 20+4 * w.ze.length+5) (fun h=>by (try dsimp only at h ⊢) <;> omega) (fun h=>by (try dsimp only at h ⊢) <;> omega) (fun h=>by (try dsimp only at h ⊢) <;> omega) (fun h=>by (try dsimp only at h ⊢) <;> omega) (fun h=>by (try dsimp only at h ⊢) <;> omega) (fun h=>by (try dsimp only at h ⊢) <;> omega) (fun h=>by (try dsimp only at h ⊢) <;> omega) (fun h=>by (try dsimp only at h ⊢) <;> omega) (fun h=>by (try dsimp only at h ⊢) <;> omega) (fun h=>by (try dsimp only at h ⊢) <;> omega) (by (try dsimp only);omega))]
  omega
 replace pcs:=pcs.resolve_left p
 rw [if_neg p];clear p
 by_cases p:m.pc=8
 ·rw [if_pos p]
  have e0:=(qG (w:=w) (m:=m) (n:=((w.ze.length:Int) - m.i) * 4) (fun h=>by (try dsimp only at h ⊢) <;> omega) (fun h=>by (try dsimp only at h ⊢) <;> omega) (fun h=>by (try dsimp only at h ⊢) <;> omega) (fun h=>by (try dsimp only at h ⊢) <;> omega) (fun h=>by (try dsimp only at h ⊢) <;> omega) (fun h=>by (try dsimp only at h ⊢) <;> omega) (fun h=>by (try dsimp only at h ⊢) <;> omega) (fun h=>by (try dsimp only at h ⊢) <;> omega) (fun h=>by (try dsimp only at h ⊢) <;> omega) (fun h=>by (try dsimp only at h ⊢) <;> omega) (by (try dsimp only);omega))
  refine zU rfl (zmD st su tm hk hN p rfl fun h=>?_)
  rw [e0]
  omega
 replace pcs:=pcs.resolve_left p
 rw [if_neg p];clear p
 by_cases p:m.pc=9
 ·rw [if_pos p]
  have e0:=(qG (w:=w) (m:=m) (n:=((w.ze.length:Int) - m.i) * 4 - 1) (fun h=>by (try dsimp only at h ⊢) <;> omega) (fun h=>by (try dsimp only at h ⊢) <;> omega) (fun h=>by (try dsimp only at h ⊢) <;> omega) (fun h=>by (try dsimp only at h ⊢) <;> omega) (fun h=>by (try dsimp only at h ⊢) <;> omega) (fun h=>by (try dsimp only at h ⊢) <;> omega) (fun h=>by (try dsimp only at h ⊢) <;> omega) (fun h=>by (try dsimp only at h ⊢) <;> omega) (fun h=>by (try dsimp only at h ⊢) <;> omega) (fun h=>by (try dsimp only at h ⊢) <;> omega) (by (try dsimp only);omega))
  obtain ⟨l,hl,hd⟩:=lo.lis (.inl p)
  have hlt:=(List.getElem?_eq_some_iff.1 hl).1
  have hw:IntKind.i64.wrap (m.i+1)=m.i+1:=jw (by omega) (by omega)
  rw [hl,Option.map_some,hw]
  by_cases q:l.zj=0
  ·rw [if_pos q]
   refine zU rfl ⟨(by show (1:Int)≠0;decide),st1,rfl,⟨tm.listen,tm.word,tm.link,tm.host,tm.path,tm.d0,tm.d1,tm.cfg,tm.ans⟩,rfl,.inr ⟨⟨v,g,e,⟨su.world,su.zq,su.done,su.version,su.atv,su.zg,su.atg,su.end_,su.ate,su.other,su.slot,su.listen,su.i,su.k⟩,⟨(by dsimp only;omega),fun h=>by dsimp only at h;omega,fun h=>by dsimp only at h;omega,fun h=>by dsimp only at h;omega,fun h=>by dsimp only at h;omega,fun _=>⟨l,hl,hd⟩⟩⟩,?_⟩⟩
   show muC w { m with pc:=10 } < _
   rw [e0,(qG (w:=w) (m:={ m with pc:=10 }) (n:=((w.ze.length:Int) - m.i) * 4 - 2) (fun h=>by (try dsimp only at h ⊢) <;> omega) (fun h=>by (try dsimp only at h ⊢) <;> omega) (fun h=>by (try dsimp only at h ⊢) <;> omega) (fun h=>by (try dsimp only at h ⊢) <;> omega) (fun h=>by (try dsimp only at h ⊢) <;> omega) (fun h=>by (try dsimp only at h ⊢) <;> omega) (fun h=>by (try dsimp only at h ⊢) <;> omega) (fun h=>by (try dsimp only at h ⊢) <;> omega) (fun h=>by (try dsimp only at h ⊢) <;> omega) (fun h=>by (try dsimp only at h ⊢) <;> omega) (by (try dsimp only);omega))]
   omega
  ·rw [if_neg q]
   refine zU rfl ⟨(by show (1:Int)≠0;decide),st1,rfl,⟨tm.listen,tm.word,tm.link,tm.host,tm.path,tm.d0,tm.d1,tm.cfg,tm.ans⟩,rfl,.inr ⟨⟨v,g,e,⟨su.world,su.zq,su.done,su.version,su.atv,su.zg,su.atg,su.end_,su.ate,su.other,su.slot,su.listen,(by show 0<=m.i+1;omega),su.k⟩,⟨(by dsimp only;omega),fun h=>by dsimp only at h;omega,fun h=>by dsimp only at h;omega,fun h=>by dsimp only at h;omega,fun h=>by dsimp only at h;omega,fun h=>by dsimp only at h;omega⟩⟩,?_⟩⟩
   show muC w { m with pc:=8,i:=m.i+1 } < _
   rw [e0,(qG (w:=w) (m:={ m with pc:=8,i:=m.i+1 }) (n:=((w.ze.length:Int) - (m.i+1)) * 4) (fun h=>by (try dsimp only at h ⊢) <;> omega) (fun h=>by (try dsimp only at h ⊢) <;> omega) (fun h=>by (try dsimp only at h ⊢) <;> omega) (fun h=>by (try dsimp only at h ⊢) <;> omega) (fun h=>by (try dsimp only at h ⊢) <;> omega) (fun h=>by (try dsimp only at h ⊢) <;> omega) (fun h=>by (try dsimp only at h ⊢) <;> omega) (fun h=>by (try dsimp only at h ⊢) <;> omega) (fun h=>by (try dsimp only at h ⊢) <;> omega) (fun h=>by (try dsimp only at h ⊢) <;> omega) (by (try dsimp only);omega))]
   omega
 rw [if_neg p]
 have p:m.pc=10:=pcs.resolve_left p
 have e0:=(qG (w:=w) (m:=m) (n:=((w.ze.length:Int) - m.i) * 4 - 2) (fun h=>by (try dsimp only at h ⊢) <;> omega) (fun h=>by (try dsimp only at h ⊢) <;> omega) (fun h=>by (try dsimp only at h ⊢) <;> omega) (fun h=>by (try dsimp only at h ⊢) <;> omega) (fun h=>by (try dsimp only at h ⊢) <;> omega) (fun h=>by (try dsimp only at h ⊢) <;> omega) (fun h=>by (try dsimp only at h ⊢) <;> omega) (fun h=>by (try dsimp only at h ⊢) <;> omega) (fun h=>by (try dsimp only at h ⊢) <;> omega) (fun h=>by (try dsimp only at h ⊢) <;> omega) (by (try dsimp only);omega))
 obtain ⟨l,hl,hd⟩:=lo.lis (.inr p)
 have hlt:=(List.getElem?_eq_some_iff.1 hl).1
 have hw:IntKind.i64.wrap (m.i+1)=m.i+1:=jw (by omega) (by omega)
 have li:=zda (gw.lis _ l hl).1
 have st2:=st1.zbf hl (y:=zer l) rfl (zdX li.1 li.2.1 (by show (l.drain || !true)=true;rw [hd];rfl)) (st.ty.okl l (List.mem_of_getElem? hl)).2 (by have:=st.cal.lis l (List.mem_of_getElem? hl);show l.zj<=_;omega)
 rw [if_pos p,hl,Option.bind_some,if_pos hd,hw]
 refine zU rfl ⟨(by show (2:Int)≠0;decide),st2,rfl,⟨tm.listen,tm.word,tm.link,tm.host,tm.path,tm.d0,tm.d1,tm.cfg,tm.ans⟩,rfl,.inr ⟨⟨v,g,e,⟨qh.2 st2.jv,su.zq,su.done,su.version,su.atv,su.zg,su.atg,su.end_,su.ate,su.other,su.slot,by simpa using su.listen,by show 0<=m.i+1;omega,su.k⟩,⟨(by dsimp only;omega),fun h=>by dsimp only at h;omega,fun h=>by dsimp only at h;omega,fun h=>by dsimp only at h;omega,fun h=>by dsimp only at h;omega,fun h=>by dsimp only at h;omega⟩⟩,?_⟩⟩
 show muC { w with ze:=w.ze.set m.i.toNat (zer l) } { m with pc:=8,i:=m.i+1 } < _
 have ll:(w.ze.set m.i.toNat (zer l)).length=w.ze.length:=List.length_set
 rw [e0,(qG (w:={ w with ze:=w.ze.set m.i.toNat (zer l) }) (m:={ m with pc:=8,i:=m.i+1 }) (n:=((w.ze.length:Int) - (m.i+1)) * 4) (fun h=>by (try dsimp only at h ⊢) <;> omega) (fun h=>by (try dsimp only at h ⊢) <;> omega) (fun h=>by (try dsimp only at h ⊢) <;> omega) (fun h=>by (try dsimp only at h ⊢) <;> omega) (fun h=>by (try dsimp only at h ⊢) <;> omega) (fun h=>by (try dsimp only at h ⊢) <;> omega) (fun h=>by (try dsimp only at h ⊢) <;> omega) (fun h=>by (try dsimp only at h ⊢) <;> omega) (fun h=>by (try dsimp only at h ⊢) <;> omega) (fun h=>by (try dsimp only at h ⊢) <;> omega) (by (try dsimp only);omega))]
 omega
end
end Go.Wor
namespace Go.Wor
open Go.Ab Go.Proofs Go.Gat Go.Nam Go.Hos Go.Con Go.Sna Go.Pla
open Go.Hy hiding encI
def zib (w:Wor) (m:Mac) (v:Ver) (g:Gr) (e:En):Prop:=(m.op.kind=1∧xz w m v g e)∨(m.op.kind=2∧zoh w m v g e)∨(m.op.kind=3∧zoj w m v g e)∨(m.op.kind=4∧zoi w m v g e)∨(m.op.kind=5∧zm9 w m v g e)∨(m.op.kind=6∧zlG w m v g e)
def zdg (m:Mac):Prop:=1<=m.answer.kind∧m.answer.kind<=13∧(m.op.kind=1↔m.answer.kind<=5)
def muA (w:Wor) (m:Mac):Nat:=if m.op.kind=1 then muH w m else if m.op.kind=3 then muS w m else if m.op.kind=5 then muC w m else if m.op.kind=6 then muT w m else 0
section
variable {N K:Nat} {w:Wor} {m:Mac} {v:Ver} {g:Gr} {e:En}
theorem Nx.up {k:Int} {L:Wor->Mac->Ver->Gr->En->Prop} {F:Mac->Prop} {μ:Wor->Mac->Nat} {r:Wor × Mac × Eve} (h:Nx N K w m L F μ r) (hk:m.op.kind=k) (hL:∀ w' m' v g e,m'.op.kind=k->L w' m' v g e->zib w' m' v g e) (hF:∀ m',m'.op.kind=k->F m'->zdg m') (hμ:∀ w' m',m'.op.kind=k->muA w' m'=μ w' m'):Nx N K w m zib zdg muA r:=by
 have hk':r.2.1.op.kind=k:=by rw [h.op];exact hk
 refine ⟨h.ev,h.st,h.pins,h.tm,h.op,?_⟩
 rcases h.go with ⟨h1,h2⟩ | ⟨⟨v',g',e',h1,h2⟩,h3⟩
 ·exact .inl ⟨h1,hF _ hk' h2⟩
 ·exact .inr ⟨⟨v',g',e',h1,hL _ _ _ _ _ hk' h2⟩,by rw [hμ _ _ hk',hμ _ _ hk];exact h3⟩
theorem zmS (su:qI w m v g e):zhW w m=if m.op.kind=1 then qn w m v g e else if m.op.kind=2 then wY w m v g e else if m.op.kind=3 then zfJ w m else if m.op.kind=4 then zbM w m
  else if m.op.kind=5 then vS w m else if m.op.kind=6 then zca w m else none:=by
 unfold zhW
 rw [su.atv]
 dsimp only
 rw [su.atg]
 dsimp only
 rw [su.ate]
theorem zj7 (st:St N K w) (su:qI w m v g e) (tm:TyM m) (lo:zib w m v g e) (hN:N<=100000000) (hK:K<=1099511627776):∃ r,zhW w m=some r∧Nx N K w m zib zdg muA r:=by
 rw [zmS su]
 rcases lo with ⟨hk,lo⟩ | ⟨hk,lo⟩ | ⟨hk,lo⟩ | ⟨hk,lo⟩ | ⟨hk,lo⟩ | ⟨hk,lo⟩
 ·rw [if_pos hk]
  obtain ⟨r,h1,h2⟩:=zjo st su tm lo hk hN hK
  exact ⟨r,h1,h2.up hk (fun _ _ _ _ _ a b=>.inl ⟨a,b⟩) (fun m' a b=>by unfold k5 at b;unfold zdg;omega) (fun w' m' a=>by unfold muA;rw [if_pos a])⟩
 ·rw [if_neg (by omega),if_pos hk]
  obtain ⟨r,h1,h2⟩:=zhB st su tm lo hk
  exact ⟨r,h1,h2.up hk (fun _ _ _ _ _ a b=>.inr (.inl ⟨a,b⟩)) (fun m' a b=>by unfold zkj at b;unfold zdg;omega) (fun w' m' a=>by unfold muA;rw [if_neg (by omega),if_neg (by omega),if_neg (by omega),if_neg (by omega)];rfl)⟩
 ·rw [if_neg (by omega),if_neg (by omega),if_pos hk]
  obtain ⟨r,h1,h2⟩:=zmE st su tm lo hk
  exact ⟨r,h1,h2.up hk (fun _ _ _ _ _ a b=>.inr (.inr (.inl ⟨a,b⟩))) (fun m' a b=>by unfold zkj at b;unfold zdg;omega) (fun w' m' a=>by unfold muA;rw [if_neg (by omega),if_pos a])⟩
 ·rw [if_neg (by omega),if_neg (by omega),if_neg (by omega),if_pos hk]
  obtain ⟨r,h1,h2⟩:=zlg st su tm lo hk hN
  exact ⟨r,h1,h2.up hk (fun _ _ _ _ _ a b=>.inr (.inr (.inr (.inl ⟨a,b⟩)))) (fun m' a b=>by unfold zkj at b;unfold zdg;omega) (fun w' m' a=>by unfold muA;rw [if_neg (by omega),if_neg (by omega),if_neg (by omega),if_neg (by omega)];rfl)⟩
 ·rw [if_neg (by omega),if_neg (by omega),if_neg (by omega),if_neg (by omega),if_pos hk]
  obtain ⟨r,h1,h2⟩:=zhA st su tm lo hk hN
  exact ⟨r,h1,h2.up hk (fun _ _ _ _ _ a b=>.inr (.inr (.inr (.inr (.inl ⟨a,b⟩))))) (fun m' a b=>by unfold zog at b;unfold zdg;omega) (fun w' m' a=>by unfold muA;rw [if_neg (by omega),if_neg (by omega),if_pos a])⟩
 ·rw [if_neg (by omega),if_neg (by omega),if_neg (by omega),if_neg (by omega),if_neg (by omega),if_pos hk]
  obtain ⟨r,h1,h2⟩:=zlh st su tm lo hk
  exact ⟨r,h1,h2.up hk (fun _ _ _ _ _ a b=>.inr (.inr (.inr (.inr (.inr ⟨a,b⟩))))) (fun m' a b=>by have b:m'.answer.kind=13:=b;unfold zdg;omega) (fun w' m' a=>by unfold muA;rw [if_neg (by omega),if_neg (by omega),if_neg (by omega),if_pos a])⟩
end
theorem zev {w:Wor} {m:Mac} {v:Ver} {g:Gr} {e:En} (su:qI w m v g e):z5 w m=true:=by
 unfold z5
 simp only [Bool.and_eq_true,Bool.not_eq_true',x2]
 refine ⟨⟨⟨⟨su.world,su.zq⟩,su.done⟩,su.version⟩,?_⟩
 rw [su.atv]
 simp only [Bool.and_eq_true,x2]
 refine ⟨su.zg,?_⟩
 rw [su.atg]
 simp only [Bool.and_eq_true,x2,decide_eq_true_eq]
 rw [su.ate]
 simp only [x2]
 exact ⟨⟨⟨su.end_,su.other⟩,su.slot⟩,⟨⟨by have:=su.listen;omega,su.i⟩,su.k⟩⟩
theorem zmd:∀ (n:Nat) {N K:Nat} {w:Wor} {m:Mac} {v:Ver} {g:Gr} {e:En},muA w m<=n->St N K w->qI w m v g e->TyM m->zib w m v g e->N+n<=100000000->K+n<=1099511627776->
  ∃ n' w' m',jt n' w m w' m'∧n'<=n+1∧jF w'∧St (N+n+1) (K+n+1) w'∧w'.pins.length=w.pins.length∧zdg m'∧m'.op=m.op:=by
 intro n
 induction n with
 | zero=>
  intro N K w m v g e hμ st su tm lo hN hK
  obtain ⟨⟨w',m',ev⟩,h1,h2⟩:=zj7 st su tm lo (by omega) (by omega)
  have hp:=zea (zev su) st.ty tm (by omega) h1
  rcases h2.go with ⟨hd,hf⟩ | ⟨_,h3⟩
  ·exact ⟨1,w',m',.last hp h2.ev hd,by omega,h2.st.jv,h2.st.mono (by omega) (by omega),h2.pins,hf,h2.op⟩
  ·omega
 | succ n ih=>
  intro N K w m v g e hμ st su tm lo hN hK
  obtain ⟨⟨w',m',ev⟩,h1,h2⟩:=zj7 st su tm lo (by omega) (by omega)
  have hp:=zea (zev su) st.ty tm (by omega) h1
  rcases h2.go with ⟨hd,hf⟩ | ⟨⟨v',g',e',hs',lo'⟩,h3⟩
  ·exact ⟨1,w',m',.last hp h2.ev hd,by omega,h2.st.jv,h2.st.mono (by omega) (by omega),h2.pins,hf,h2.op⟩
  ·obtain ⟨n',w2,m2,hg,hn,hw,hst,hpi,hf,hop⟩:=ih (by omega) h2.st hs' h2.tm lo' (by omega) (by omega)
   exact ⟨n'+1,w2,m2,.more hp h2.ev hs'.done hg,by omega,hw,hst.mono (by omega) (by omega),hpi.trans h2.pins,hf,hop.trans h2.op⟩
end Go.Wor
