import Derived.Test.YtgllekalddijbaaGreatRS
import Derived.Test.YtgllekalddijbaaGreatRI
set_option linter.unusedVariables false
set_option linter.unusedSimpArgs false
set_option linter.unusedSectionVars false
set_option maxRecDepth 100000
set_option maxHeartbeats 4000000
namespace Go.Slp
open Go.Ab Go.Hy
theorem zaf {x i:Int} (h1: -1<=i) (h2:i<=2147483646):z6 x i % 4294967296 - 1=i:=by unfold z6;omega
theorem zdA {x i:Int} (h1: -1<=i) (h2:i<=2147483646):u64 (z6 x i):=by unfold z6 u64;omega
theorem wH (nx:List Int) (i0:Int):∀ k,q6 nx (nxt nx i0) k=q6 nx i0 (k+1)
 | 0=>rfl
 | k+1=>by
  show nxt nx (q6 nx (nxt nx i0) k)=nxt nx (q6 nx i0 (k+1))
  rw [wH nx i0 k]
theorem ze4 (nx:List Int) (i0:Int) (k:Nat):jl nx i0 (k+1)=i0::jl nx (nxt nx i0) k:=by
 unfold jl
 rw [List.range_succ_eq_map,List.map_cons,List.map_map]
 congr 1
 apply List.map_congr_left
 intro j _
 exact (wH nx i0 j).symm
theorem zcU {nx:List Int} {i0:Int} (h:okV nx i0=true) (h0:¬i0 < 0):jb nx (nxt nx i0)+1=jb nx i0∧okV nx (nxt nx i0)=true∧jl nx i0 (jb nx i0)=i0::jl nx (nxt nx i0) (jb nx (nxt nx i0)):=by
 have hp:=ziH h h0
 obtain ⟨N,hN⟩:∃ N,jb nx i0=N+1:=⟨jb nx i0 - 1,by omega⟩
 obtain ⟨c1,c2,c3⟩:=xr nx i0
 have hend:q6 nx (nxt nx i0) N= -1:=by
  rw [wH,<- hN]
  simpa [okV] using h
 have e:jb nx (nxt nx i0)=N:=by
  refine zcX ?_ ?_
  ·have:inB nx (q6 nx (nxt nx i0) N)=false:=by rw [hend];simp [inB]
   simp [j9,this]
  ·intro j hj
   have:=c3 (j+1) (by omega)
   simp only [j9,Bool.or_eq_false_iff,Bool.not_eq_false'] at this ⊢
   rw [wH]
   refine ⟨this.1,?_⟩
   have h2:=this.2
   rw [ze4] at h2
   simp only [List.contains_cons,Bool.or_eq_false_iff] at h2
   exact h2.2
 refine ⟨by rw [e,hN],by simp [okV,e,hend],?_⟩
 rw [hN,e,ze4]
theorem wB {e:En} (h:okV e.next (zB e)=true):qn e=(jl e.next (zB e) (jb e.next (zB e)),0):=by
 unfold qn;rw [if_pos h]
theorem zmA {e:En} (he:e.ok) {a:En} {i:Int} (h:zmz e=(a,i,0)):
  isV e=true∧¬zB e < 0∧i=zB e∧a=⟨z6 e.head (nxt e.next (zB e)),e.next,e.zj⟩∧zB a=nxt e.next (zB e)∧isV a=true∧a.ok∧(qn a).2=0∧(qn e)=(i::(qn a).1,0):=by
 unfold zmz at h
 cases hv:isV e with
 | false=>rw [if_pos hv] at h;simp at h
 | true=>
  rw [if_neg (by simp [hv])] at h
  by_cases h0:zB e < 0
  ·rw [if_pos h0] at h;simp at h
  ·rw [if_neg h0] at h
   cases h
   obtain ⟨g1,g2,g3,g4⟩:=ziL hv h0
   obtain ⟨b1,b2,b3,b4⟩:=k5 hv
   have hh:zB ⟨z6 e.head (nxt e.next (zB e)),e.next,e.zj⟩=nxt e.next (zB e):=zaf g3 (by omega)
   obtain ⟨t1,t2,t3⟩:=zcU b1 h0
   have hok:okV (⟨z6 e.head (nxt e.next (zB e)),e.next,e.zj⟩:En).next (zB ⟨z6 e.head (nxt e.next (zB e)),e.next,e.zj⟩)=true:=by rw [hh];exact t2
   refine ⟨rfl,h0,rfl,rfl,hh,?_,⟨zdA g3 (by omega),he.2⟩,?_,?_⟩
   ·simp only [isV,hok,Bool.true_and,Bool.and_eq_true,decide_eq_true_eq]
    exact ⟨⟨b2,b3⟩,b4⟩
   ·rw [wB hok]
   ·rw [wB b1,wB hok,hh,t3]
theorem zdB {nx:List Int} {s p v:Int} (h:p≠s) (h1:0<=s) (h2:0<=p):nxt (nx.set s.toNat v) p=nxt nx p:=by
 unfold nxt
 rw [List.getElem?_set,if_neg (by omega)]
theorem zh4 {nx:List Int} {s v:Int} (h1:0<=s) (h2:s < nx.length):nxt (nx.set s.toNat v) s=v:=by
 unfold nxt
 rw [List.getElem?_set,if_pos rfl,if_pos (by omega)]
 rfl
theorem zlz {e:En} (he:e.ok) {slot:Int} {a:En} (h:zi0 e slot=(a,0)):
  isV e=true∧0<=slot∧slot < e.next.length∧a=⟨z6 e.head slot,e.next.set slot.toNat (zB e),e.zj⟩∧zB a=slot∧isV a=true∧a.ok∧(qn e).2=0∧qn a=(slot::(qn e).1,0):=by
 unfold zi0 at h
 cases hv:isV e with
 | false=>rw [if_pos hv] at h;simp at h
 | true=>
  rw [if_neg (by simp [hv])] at h
  by_cases h0:slot < 0∨e.next.length<=slot
  ·rw [if_pos h0] at h;simp at h
  ·rw [if_neg h0] at h
   cases hc:(qn e).1.contains slot with
   | true=>rw [if_pos hc] at h;simp at h
   | false=>
    rw [if_neg (by rw [hc];decide)] at h
    cases h
    obtain ⟨b1,b2,b3,b4⟩:=k5 hv
    have s1:0<=slot:=by omega
    have s2:slot < e.next.length:=by omega
    have hh:zB ⟨z6 e.head slot,e.next.set slot.toNat (zB e),e.zj⟩=slot:=zaf (by omega) (by omega)
    obtain ⟨c1,c2,c3⟩:=xr e.next (zB e)
    generalize hN:jb e.next (zB e)=N at *
    have hfr:qn e=(jl e.next (zB e) N,0):=by rw [wB b1,hN]
    rw [hfr] at hc
    have hnot:∀ k,k < N->q6 e.next (zB e) k≠slot∧0<=q6 e.next (zB e) k:=fun k hk=>by
     constructor
     ·intro e2
      have:slot ∈ jl e.next (zB e) N:=List.mem_map.2 ⟨k,List.mem_range.2 hk,e2⟩
      simp [this] at hc
     ·have:=c3 k hk
      simp only [j9,Bool.or_eq_false_iff,Bool.not_eq_false',inB,Bool.and_eq_true,decide_eq_true_eq] at this
      exact this.1.1
    have hpos:∀ k,k<=N->q6 (e.next.set slot.toNat (zB e)) slot (k+1)=q6 e.next (zB e) k:=by
     intro k
     induction k with
     | zero=>intro _;exact zh4 s1 s2
     | succ k ih=>
      intro hk
      show nxt _ (q6 (e.next.set slot.toNat (zB e)) slot (k+1))=nxt e.next (q6 e.next (zB e) k)
      rw [ih (by omega)]
      exact zdB (hnot k (by omega)).1 s1 (hnot k (by omega)).2
    have hvis:∀ k,k<=N->jl (e.next.set slot.toNat (zB e)) slot (k+1)=slot::jl e.next (zB e) k:=fun k hk=>by
     unfold jl
     rw [List.range_succ_eq_map,List.map_cons,List.map_map]
     congr 1
     apply List.map_congr_left
     intro j hj
     exact hpos j (by have:=List.mem_range.1 hj;omega)
    have hin:∀ p,inB (e.next.set slot.toNat (zB e)) p=inB e.next p:=fun p=>by simp [inB]
    have hend:q6 e.next (zB e) N= -1:=by
     have:okV e.next (zB e)=true:=b1
     simp only [okV,hN,beq_iff_eq] at this
     exact this
    have hcnt:jb (e.next.set slot.toNat (zB e)) slot=N+1:=by
     refine zcX ?_ ?_
     ·have:inB (e.next.set slot.toNat (zB e)) (q6 (e.next.set slot.toNat (zB e)) slot (N+1))=false:=by rw [hpos N (Nat.le_refl _),hend,hin];simp [inB]
      simp [j9,this]
     ·intro j hj
      cases j with
      | zero=>
       simp only [j9,jl,q6,hin]
       simp [inB,s1,s2]
      | succ j=>
       have:=c3 j (by omega)
       simp only [j9,Bool.or_eq_false_iff,Bool.not_eq_false'] at this ⊢
       rw [hpos j (by omega),hvis j (by omega),hin]
       refine ⟨this.1,?_⟩
       rw [List.contains_cons,this.2]
       simp
       exact (hnot j (by omega)).1
    have hok:okV (e.next.set slot.toNat (zB e)) slot=true:=by
     simp only [okV,hcnt,hpos N (Nat.le_refl _),hend]
     rfl
    have hfa:qn ⟨z6 e.head slot,e.next.set slot.toNat (zB e),e.zj⟩=(slot::jl e.next (zB e) N,0):=by
     rw [wB (by rw [hh];exact hok),hh]
     show (jl (e.next.set slot.toNat (zB e)) slot (jb (e.next.set slot.toNat (zB e)) slot),(0:Int))=_
     rw [hcnt,hvis N (Nat.le_refl _)]
    refine ⟨rfl,s1,s2,rfl,hh,?_,⟨zdA (by omega) (by omega),⟨fun x hx=>?_,by simp;exact he.2.1.2⟩,he.2.2⟩,by rw [hfr],by rw [hfa,hfr]⟩
    ·simp only [isV,hh,hok,Bool.true_and,Bool.and_eq_true,decide_eq_true_eq]
     exact ⟨⟨by simp;omega,by simp;omega⟩,b4⟩
    ·rcases List.mem_or_eq_of_mem_set hx with h | h
     ·exact he.2.1.1 x h
     ·have:=zk5 e
      rw [h]
      exact ⟨by omega,by omega⟩
theorem zkq (nx:List Int) (i0:Int):(jl nx i0 (jb nx i0)).Nodup:=(za9 (xr nx i0).2.2).1
end Go.Slp
namespace Go.Wor
open Go.Ab Go.Proofs Go.Hy Go.Gat Go.Nam Go.Hos Go.Con Go.Sna
theorem mem_set {α:Type} {l:List α} {i:Nat} {x y:α} (h:y ∈ l.set i x):y ∈ l∨y=x:=List.mem_or_eq_of_mem_set h
theorem kf {α:Type} {l:List α} {i j:Nat} {x y:α} (h:(l.set i x)[j]?= some y):(i=j∧y=x∧i < l.length)∨(i≠j∧l[j]?= some y):=by
 rw [List.getElem?_set] at h
 split at h
 ·rename_i hij
  split at h
  ·rename_i hlt;cases h;exact .inl ⟨hij,rfl,hlt⟩
  ·cases h
 ·rename_i hij;exact .inr ⟨hij,h⟩
theorem j8.pin {w:Wor} (h:j8 w) (t:Nat) {p:Int} (h0:0<=p) (h1:p<=w.zu+1):j8 (zdG w t p):=by
 have g:=jx.1 h.ground
 refine ⟨jx.2 ⟨by simpa using g.pins,⟨by simpa using g.counts.1,g.counts.2⟩,g.zu,g.lock,fun q hq=>?_⟩,h.current,h.zt,h.bad,h.ver,h.lis⟩
 rcases mem_set hq with hq | rfl
 ·exact g.pin q hq
 ·exact ⟨h0,h1⟩
theorem j8.count {w:Wor} (h:j8 w) (t:Nat) {r:List Int} (h0:r.length=6):j8 { w with counts:=w.counts.set t r }:=by
 have g:=jx.1 h.ground
 refine ⟨jx.2 ⟨g.pins,⟨by simpa using g.counts.1,fun q hq=>?_⟩,g.zu,g.lock,g.pin⟩,h.current,h.zt,h.bad,h.ver,h.lis⟩
 rcases mem_set hq with hq | rfl
 ·exact g.counts.2 q hq
 ·exact h0
theorem zj6 {l l':List Lis} (h:l.map (·.name)=l'.map (·.name)) (s:Str):jd l s=jd l' s:=by
 unfold jd
 have:l.findIdx? (fun r=>r.name == s)=l'.findIdx? (fun r=>r.name == s):=by
  have e:∀ l:List Lis,l.findIdx? (fun r=>r.name == s)=(l.map (·.name)).findIdx? (fun x=>x == s):=fun l=>by rw [List.findIdx?_map];rfl
  rw [e,e,h]
 rw [this]
theorem zjN {l:List Lis} {i:Nat} {x y:Lis} (hx:l[i]?= some x) (h:y.name=x.name):(l.set i y).map (·.name)=l.map (·.name):=by
 rw [List.map_set]
 exact xQ _ _ (by rw [List.getElem?_map,hx,Option.map_some,h])
theorem j8.zcD {w:Wor} (h:j8 w) {i:Nat} {x y:Lis} (hx:w.ze[i]?= some x) (hn:y.name=x.name) (hy:Go.Gat.isV y=true):j8 { w with ze:=w.ze.set i y }:=by
 refine ⟨h.ground,h.current,h.zt,h.bad,h.ver,fun j l hl=>?_⟩
 show _∧jd (w.ze.set i y) l.name=j
 rw [zj6 (zjN hx hn)]
 rcases kf hl with ⟨rfl,rfl,_⟩ | ⟨_,hl⟩
 ·rw [hn]
  exact ⟨hy,(h.lis i x hx).2⟩
 ·exact h.lis j l hl
theorem zas.vx {m:Mac} {v:Ver} {g:Gr} {e:En} (h:zas v) (hg:v.zf[m.zg.toNat]?= some g) (he:g.ends[m.end_.toNat]?= some e) {e':En} {tk:Int} (hi:Slp.isV e'=true) (hl:e'.next.length=e.next.length):
  zas { v with zf:=v.zf.set m.zg.toNat { g with zl:=tk,ends:=g.ends.set m.end_.toNat e' } }:=by
 refine ⟨h.snap,by simpa using h.len,fun i g2 x hg2 hx=>?_⟩
 rcases kf hg2 with ⟨rfl,rfl,_⟩ | ⟨_,hg2⟩
 ·obtain ⟨h1,h2⟩:=h.grp _ g x hg hx
  refine ⟨by simpa using h1,fun y hy=>?_⟩
  rcases mem_set hy with hy | rfl
  ·exact h2 y hy
  ·exact ⟨hi,by rw [hl];exact (h2 e (List.mem_of_getElem? he)).len⟩
 ·exact h.grp i g2 x hg2 hx
theorem j8.vx {w:Wor} {m:Mac} {v:Ver} {g:Gr} {e:En} (h:j8 w) (hat:AtE w m v g e) {e':En} {tk:Int} (hi:Slp.isV e'=true) (hl:e'.next.length=e.next.length):
  j8 { w with zd:=w.zd.set m.version.toNat { v with zf:=v.zf.set m.zg.toNat { g with zl:=tk,ends:=g.ends.set m.end_.toNat e' } } }:=by
 refine ⟨h.ground,by simpa using h.current,h.zt,fun r hr=>?_,fun i v2 hv=>?_,h.lis⟩
 ·have:=h.bad r hr
  unfold xM at this ⊢
  simpa using this
 ·rcases kf hv with ⟨rfl,rfl,_⟩ | ⟨_,hv⟩
  ·obtain ⟨h1,h2⟩:=h.ver _ v hat.at_
   exact ⟨h1.vx hat.atg hat.ate hi hl,h2⟩
  ·exact h.ver i v2 hv
end Go.Wor
namespace Go.Wor
open Go.Ab Go.Proofs Go.Hy Go.Gat Go.Nam Go.Hos Go.Con Go.Sna
structure Cal (K:Nat) (w:Wor):Prop where
 lis:∀ l ∈ w.ze,l.zj<=K
 ends : ∀ v ∈ w.zd, ∀ g ∈ v.zf, ∀ e ∈ g.ends, e.zj <= K
structure St (N K:Nat) (w:Wor):Prop where
 jt:j8 w
 ty:TyW N w
 cal:Cal K w
theorem St.mono {N K N' K':Nat} {w:Wor} (h:St N K w) (hN:N<=N') (hK:K<=K'):St N' K' w:=
 ⟨h.jt,⟨by have:=h.ty.zel;omega,by have:=h.ty.lis;omega,by have:=h.ty.lim;omega,h.ty.okv,h.ty.okl⟩,⟨fun l hl=>by have:=h.cal.lis l hl;omega,fun v hv g hg e he=>by have:=h.cal.ends v hv g hg e he;omega⟩⟩
theorem St.pin {N K:Nat} {w:Wor} (h:St N K w) (t:Nat) {p:Int} (h0:0<=p) (h1:p<=w.zu+1):St N K (zdG w t p):=⟨h.jt.pin t h0 h1,⟨h.ty.zel,h.ty.lis,h.ty.lim,h.ty.okv,h.ty.okl⟩,⟨h.cal.lis,h.cal.ends⟩⟩
theorem St.count {N K:Nat} {w:Wor} (h:St N K w) (t:Nat) {r:List Int} (h0:r.length=6):St N K { w with counts:=w.counts.set t r }:=⟨h.jt.count t h0,⟨h.ty.zel,h.ty.lis,h.ty.lim,h.ty.okv,h.ty.okl⟩,⟨h.cal.lis,h.cal.ends⟩⟩
theorem St.zcD {N K:Nat} {w:Wor} (h:St N K w) {i:Nat} {x y:Lis} (hx:w.ze[i]?= some x) (hn:y.name=x.name) (hy:Go.Gat.isV y=true) (hi:i64 y.zj) (hk:y.zj<=K):St N K { w with ze:=w.ze.set i y }:=by
 refine ⟨h.jt.zcD hx hn hy,⟨h.ty.zel,by simpa using h.ty.lis,h.ty.lim,h.ty.okv,fun l hl=>?_⟩,⟨fun l hl=>?_,h.cal.ends⟩⟩
 ·rcases mem_set hl with hl | rfl
  ·exact h.ty.okl l hl
  ·exact ⟨by rw [hn];exact (h.ty.okl x (List.mem_of_getElem? hx)).1,hi⟩
 ·rcases mem_set hl with hl | rfl
  ·exact h.cal.lis l hl
  ·exact hk
theorem St.vx {N K:Nat} {w:Wor} {m:Mac} {v:Ver} {g:Gr} {e:En} (h:St N K w) (hat:AtE w m v g e) {e':En} {tk:Int} (hi:Slp.isV e'=true) (hl:e'.next.length=e.next.length) (ho:e'.ok) (ht:u64 tk) (hk:e'.zj<=K):
  St N K { w with zd:=w.zd.set m.version.toNat { v with zf:=v.zf.set m.zg.toNat { g with zl:=tk,ends:=g.ends.set m.end_.toNat e' } } }:=by
 have mv:=List.mem_of_getElem? hat.at_
 have mg:=List.mem_of_getElem? hat.atg
 refine ⟨h.jt.vx hat hi hl,⟨by simpa using h.ty.zel,h.ty.lis,h.ty.lim,fun v2 hv=>?_,h.ty.okl⟩,⟨h.cal.lis,fun v2 hv g2 hg e2 he=>?_⟩⟩
 ·rcases mem_set hv with hv | rfl
  ·exact h.ty.okv v2 hv
  ·refine ⟨(h.ty.okv v mv).1,fun g2 hg=>?_⟩
   rcases mem_set hg with hg | rfl
   ·exact (h.ty.okv v mv).2 g2 hg
   ·refine ⟨ht,fun e2 he=>?_⟩
    rcases mem_set he with he | rfl
    ·exact ((h.ty.okv v mv).2 g mg).2 e2 he
    ·exact ho
 ·rcases mem_set hv with hv | rfl
  ·exact h.cal.ends v2 hv g2 hg e2 he
  ·rcases mem_set hg with hg | rfl
   ·exact h.cal.ends v mv g2 hg e2 he
   ·rcases mem_set he with he | rfl
    ·exact h.cal.ends v mv g mg e2 he
    ·exact hk
theorem zdn (h:List Bool):∀ k x,x ∈ kF h k->0<=x∧x < k∧x < h.length
 | 0,x,hx=>by cases hx
 | k+1,x,hx=>by
  simp only [kF] at hx
  split at hx
  ·rename_i hk
   rcases List.mem_append.1 hx with hx | hx
   ·have:=zdn h k x hx
    omega
   ·rw [List.mem_singleton.1 hx]
    have:=(List.getElem?_eq_some_iff.1 hk).1
    omega
  ·have:=zdn h k x hx
   omega
theorem zhJ {c:Clu} {n:Int} (h:(hlt c).length≠0):0<=((hlt c)[(n % (hlt c).length).toNat]?).getD 0∧((hlt c)[(n % (hlt c).length).toNat]?).getD 0 < c.zM.length:=by
 have h1:0<=n % (hlt c).length:=Int.emod_nonneg _ (by omega)
 have h2:n % (hlt c).length < (hlt c).length:=Int.emod_lt_of_pos _ (by omega)
 have h3:(n % (hlt c).length).toNat < (hlt c).length:=by omega
 rw [List.getElem?_eq_getElem h3,Option.getD_some]
 have:=zdn c.zM c.zM.length _ (List.getElem_mem h3)
 omega
theorem zlR (n:Int):u64 (IntKind.u64.wrap n):=by
 have h:IntKind.u64.wrap n=n % 18446744073709551616:=rfl
 rw [h]
 unfold u64
 omega
end Go.Wor
namespace Go.Wor
open Go.Ab Go.Proofs Go.Hy Go.Gat Go.Nam Go.Hos Go.Con Go.Sna
structure Nx (N K:Nat) (w:Wor) (m:Mac) (L:Wor->Mac->Ver->Gr->En->Prop) (F:Mac->Prop) (μ:Wor->Mac->Nat) (r:Wor × Mac × Eve):Prop where
 ev:r.2.2.access≠0
 st:St (N+1) (K+1) r.1
 pins:r.1.pins.length=w.pins.length
 tm:TyM r.2.1
 op:r.2.1.op=m.op
 go:(r.2.1.done=true∧F r.2.1)∨(∃ v g e,qP r.1 r.2.1 v g e∧L r.1 r.2.1 v g e)∧μ r.1 r.2.1 < μ w m
structure jU (w:Wor) (m:Mac) (v:Ver) (g:Gr) (e:En):Prop where
 pc:(0<=m.pc∧m.pc<=12)∨(20<=m.pc∧m.pc<=23)
 ep:m.pc=1∨m.pc=2->m.zu=w.zu
 lis:(4<=m.pc∧m.pc<=12)∨m.pc=22->0<=m.listen
 early:4<=m.pc∧m.pc<=5->m.zg=0∧m.end_=0∧m.other=0
 mid:4<=m.pc∧m.pc<=8->m.slot=0
 draw:m.pc=6->∃ c,v.snap.zm[m.zg.toNat]?= some c∧(hlt c).length≠0
 slot:m.pc=10∨m.pc=11->m.slot=zB m.word∧e.head=m.word
 link:m.pc=11->e.next[m.slot.toNat]?= some m.link
 ans:20<=m.pc->1<=m.answer.kind∧m.answer.kind<=5
 in_:(5<=m.pc∧m.pc<=12)∨(20<=m.pc∧m.pc<=22)->0<=m.listen->∃ x,w.ze[m.listen.toNat]?= some x∧1<=x.zj
def kH (m:Mac):Prop:=1<=m.answer.kind∧m.answer.kind<=5
def muH (_:Wor) (m:Mac):Nat:=(24 - m.pc).toNat
theorem jk {w w':Wor} {m m':Mac} (h:m.pc < m'.pc) (h2:m'.pc<=23):muH w' m' < muH w m:=by unfold muH;omega
theorem zgB (l:List Lis) (s:Str): -1<=jd l s∧jd l s < l.length:=by
 unfold jd
 cases h:l.findIdx? (fun r=>r.name == s) with
 | none=>simp only;omega
 | some i=>
  have:=(List.findIdx?_eq_some_iff_getElem.1 h).1
  simp only
  omega
theorem zdf {v:Ver} (h:zas v) {k:Nat} (hk:k < v.zf.length):∃ g e,v.zf[k]?= some g∧g.ends[0]?= some e∧0 < g.ends.length∧0 < e.next.length:=by
 obtain ⟨g,hg⟩:∃ g,v.zf[k]?= some g:=⟨_,List.getElem?_eq_getElem hk⟩
 have f:=h.few.2 g (List.mem_of_getElem? hg)
 have hl:0 < g.ends.length:=by omega
 have he:g.ends[0]?= some g.ends[0]:=List.getElem?_eq_getElem hl
 exact ⟨g,g.ends[0],hg,he,hl,by have:=(f.2.2 _ (List.mem_of_getElem? he)).2.2;omega⟩
section
variable {N K:Nat} {w:Wor} {m:Mac} {v:Ver} {g:Gr} {e:En}
theorem y9 (su:qP w m v g e) {e':En} {tk:Int} (hl:e'.next.length=e.next.length) (gw:j8 { w with zd:=w.zd.set m.version.toNat { v with zf:=v.zf.set m.zg.toNat { g with zl:=tk,ends:=g.ends.set m.end_.toNat e' } } }) {m':Mac}
  (h1:m'.zo=m.zo) (h2:m'.done=false) (h3:m'.version=m.version) (h4:m'.zg=m.zg) (h5:m'.end_=m.end_) (h6:m'.other=m.other) (h7:m'.slot=m.slot) (h8:m'.listen=m.listen) (h9:m'.i=m.i) (h10:m'.k=m.k):
  qP { w with zd:=w.zd.set m.version.toNat { v with zf:=v.zf.set m.zg.toNat { g with zl:=tk,ends:=g.ends.set m.end_.toNat e' } } } m'
   { v with zf:=v.zf.set m.zg.toNat { g with zl:=tk,ends:=g.ends.set m.end_.toNat e' } } { g with zl:=tk,ends:=g.ends.set m.end_.toNat e' } e':=by
 have s1:=(List.getElem?_eq_some_iff.1 su.atv).1
 have s2:=(List.getElem?_eq_some_iff.1 su.atg).1
 have s3:=(List.getElem?_eq_some_iff.1 su.ate).1
 refine ⟨qR.2 gw,by rw [h1];exact su.zo,h2,?_,?_,?_,?_,?_,?_,?_,?_,?_,by rw [h9];exact su.i,by rw [h10];exact su.k⟩
 ·rw [h3];simpa using su.version
 ·rw [h3];exact List.getElem?_set_self s1
 ·rw [h4];simpa using su.zg
 ·rw [h4];exact List.getElem?_set_self s2
 ·rw [h5];simpa using su.end_
 ·rw [h5];exact List.getElem?_set_self s3
 ·rw [h6];simpa using su.other
 ·rw [h7,hl];exact su.slot
 ·rw [h8];exact su.listen
theorem qO {r:Wor × Mac × Eve} {P:Wor × Mac × Eve->Prop} {o:Res} (h:o=some r) (hp:P r):∃ r,o=some r∧P r:=⟨r,h,hp⟩
theorem zmw (st:St N K w) (su:qP w m v g e) (tm:TyM m) (lo:jU w m v g e) (h3:m.pc < 3):∃ r,zO w m v g e=some r∧Nx N K w m jU kH muH r:=by
 have gw:=st.jt
 have ge:=jx.1 gw.ground
 have hep:=ge.zu
 have st1:St (N+1) (K+1) w:=st.mono (by omega) (by omega)
 have lp:=lo.pc
 unfold zO
 rw [if_pos h3]
 unfold zlt
 rcases (by omega:m.pc=0∨m.pc=1∨m.pc=2) with p | p | p
 ·rw [if_pos p]
  refine qO rfl ⟨(by show (1:Int)≠0;decide),st1,rfl,⟨tm.listen,tm.word,tm.link,tm.host,tm.path,tm.d0,tm.d1,tm.cfg,tm.ans⟩,rfl,.inr ⟨⟨v,g,e,⟨su.world,su.zo,su.done,su.version,su.atv,su.zg,su.atg,su.end_,su.ate,su.other,su.slot,su.listen,su.i,su.k⟩,
   ⟨(by dsimp only;omega),fun _=>rfl,fun h=>by dsimp only at h;omega,fun h=>by dsimp only at h;omega,fun h=>by dsimp only at h;omega,fun h=>by dsimp only at h;omega,fun h=>by dsimp only at h;omega,fun h=>by dsimp only at h;omega,fun h=>by dsimp only at h;omega,fun h=>by dsimp only at h;omega⟩⟩,jk (by show m.pc < 1;omega) (by show (1:Int)<=23;decide)⟩⟩
 ·have he:=lo.ep (.inl p)
  have hw:IntKind.i64.wrap (m.zu+1)=w.zu+1:=by rw [he];exact jz (by omega) (by omega)
  rw [if_neg (by omega),if_pos p,hw]
  have sp:=st1.pin m.zo.toNat (p:=w.zu+1) (by omega) (by omega)
  refine qO rfl ⟨(by show (2:Int)≠0;decide),sp,by simp,⟨tm.listen,tm.word,tm.link,tm.host,tm.path,tm.d0,tm.d1,tm.cfg,tm.ans⟩,rfl,.inr ⟨⟨v,g,e,⟨qR.2 sp.jt,by simpa using su.zo,su.done,su.version,su.atv,su.zg,su.atg,su.end_,su.ate,su.other,su.slot,su.listen,su.i,su.k⟩,
   ⟨(by dsimp only;omega),fun _=>he,fun h=>by dsimp only at h;omega,fun h=>by dsimp only at h;omega,fun h=>by dsimp only at h;omega,fun h=>by dsimp only at h;omega,fun h=>by dsimp only at h;omega,fun h=>by dsimp only at h;omega,fun h=>by dsimp only at h;omega,fun h=>by dsimp only at h;omega⟩⟩,jk (by show m.pc < 2;omega) (by show (2:Int)<=23;decide)⟩⟩
 ·have he:=lo.ep (.inr p)
  rw [if_neg (by omega),if_neg (by omega),if_pos p,if_pos he.symm]
  refine qO rfl ⟨(by show (1:Int)≠0;decide),st1,rfl,⟨tm.listen,tm.word,tm.link,tm.host,tm.path,tm.d0,tm.d1,tm.cfg,tm.ans⟩,rfl,.inr ⟨⟨v,g,e,⟨su.world,su.zo,su.done,su.version,su.atv,su.zg,su.atg,su.end_,su.ate,su.other,su.slot,su.listen,su.i,su.k⟩,
   ⟨(by dsimp only;omega),fun h=>by dsimp only at h;omega,fun h=>by dsimp only at h;omega,fun h=>by dsimp only at h;omega,fun h=>by dsimp only at h;omega,fun h=>by dsimp only at h;omega,fun h=>by dsimp only at h;omega,fun h=>by dsimp only at h;omega,fun h=>by dsimp only at h;omega,fun h=>by dsimp only at h;omega⟩⟩,jk (by show m.pc < 3;omega) (by show (3:Int)<=23;decide)⟩⟩
end
end Go.Wor
namespace Go.Wor
open Go.Ab Go.Proofs Go.Hy Go.Gat Go.Nam Go.Hos Go.Con Go.Sna
theorem ziN {e:En} (h:Slp.isV e=true) (n:Int) (h0:0<=n):Slp.isV (qQ e e.head n)=true:=by
 obtain ⟨h1,h2,h3,h4⟩:=Slp.k5 h
 unfold Slp.isV
 simp only [Bool.and_eq_true,decide_eq_true_eq]
 exact ⟨⟨⟨h1,h2⟩,h3⟩,h0⟩
theorem wF {l:Lis} (h:Go.Gat.isV l=true):jR l.name=true∧0<=l.zj∧(l.drain || !l.closed)=true:=by
 unfold Go.Gat.isV at h
 simp only [Bool.and_eq_true,decide_eq_true_eq] at h
 exact ⟨h.1.1,h.1.2,h.2⟩
theorem zgp {l:Lis} (h1:jR l.name=true) (h2:0<=l.zj) (h3:(l.drain || !l.closed)=true):Go.Gat.isV l=true:=by
 unfold Go.Gat.isV
 simp only [Bool.and_eq_true,decide_eq_true_eq]
 exact ⟨⟨h1,h2⟩,h3⟩
section
variable {N K:Nat} {w:Wor} {m:Mac} {v:Ver} {g:Gr} {e:En}
theorem znv (st:St N K w) (su:qP w m v g e) (tm:TyM m) (lo:jU w m v g e) (hk:m.op.kind=1) (hN:N<=100000000) (p:m.pc=3):∃ r,zO w m v g e=some r∧Nx N K w m jU kH muH r:=by
 have gw:=st.jt
 have st1:St (N+1) (K+1) w:=st.mono (by omega) (by omega)
 have pr:=zgB w.ze m.op.listen
 have hl:=st.ty.lis
 have cu:=gw.current
 obtain ⟨v',hv'⟩:∃ v',w.zd[w.current.toNat]?= some v':=⟨_,List.getElem?_eq_getElem (by omega)⟩
 have gv:=(gw.ver _ v' hv').1
 have h0:0 < v'.zf.length:=by have:=(yd gv.snap).zm.1;have:=gv.len;omega
 obtain ⟨g',e',hg,he,l1,l2⟩:=zdf gv h0
 unfold zO
 rw [if_neg (by omega),if_pos p]
 by_cases q:jd w.ze m.op.listen < 0
 ·rw [if_pos q]
  refine qO rfl ⟨(by show (1:Int)≠0;decide),st1,rfl,⟨by show i64 (jd w.ze m.op.listen);unfold i64;omega,tm.word,tm.link,tm.host,tm.path,tm.d0,tm.d1,tm.cfg,(fun h=>absurd ((show m.op.kind=6 from h).symm.trans hk) (by decide))⟩,rfl,.inr ⟨⟨v',g',e',⟨su.world,su.zo,su.done,cu,hv',⟨Int.le_refl _,by show (0:Int) < _;omega⟩,hg,⟨Int.le_refl _,by show (0:Int) < _;omega⟩,he,⟨Int.le_refl _,by show (0:Int) < _;omega⟩,⟨Int.le_refl _,by show (0:Int) < _;omega⟩,pr,su.i,su.k⟩,⟨(by dsimp only;omega),fun h=>by dsimp only at h;omega,fun h=>by dsimp only at h;omega,fun h=>by dsimp only at h;omega,fun h=>by dsimp only at h;omega,fun h=>by dsimp only at h;omega,fun h=>by dsimp only at h;omega,fun h=>by dsimp only at h;omega,fun _=>⟨by show (1:Int)<=2;decide,by show (2:Int)<=5;decide⟩,(fun _ h=>absurd (show 0<=jd w.ze m.op.listen from h) (by omega))⟩⟩,jk (by show m.pc < 20;omega) (by show (20:Int)<=23;decide)⟩⟩
 ·rw [if_neg q]
  refine qO rfl ⟨(by show (1:Int)≠0;decide),st1,rfl,⟨by show i64 (jd w.ze m.op.listen);unfold i64;omega,tm.word,tm.link,tm.host,tm.path,tm.d0,tm.d1,tm.cfg,tm.ans⟩,rfl,.inr ⟨⟨v',g',e',⟨su.world,su.zo,su.done,cu,hv',⟨Int.le_refl _,by show (0:Int) < _;omega⟩,hg,⟨Int.le_refl _,by show (0:Int) < _;omega⟩,he,⟨Int.le_refl _,by show (0:Int) < _;omega⟩,⟨Int.le_refl _,by show (0:Int) < _;omega⟩,pr,su.i,su.k⟩,
   ⟨(by dsimp only;omega),fun h=>by dsimp only at h;omega,fun _=>by show 0<=jd w.ze m.op.listen;omega,fun _=>⟨rfl,rfl,rfl⟩,fun _=>rfl,fun h=>by dsimp only at h;omega,fun h=>by dsimp only at h;omega,fun h=>by dsimp only at h;omega,fun h=>by dsimp only at h;omega,fun h=>by dsimp only at h;omega⟩⟩,jk (by show m.pc < 4;omega) (by show (4:Int)<=23;decide)⟩⟩
theorem ziY (st:St N K w) (su:qP w m v g e) {x:Lis} (hx:w.ze[m.listen.toNat]?= some x) (n:Int) (h0:0<=n) (h1:n<=K+1) (hK:K<=1099511627776):St (N+1) (K+1) { w with ze:=w.ze.set m.listen.toNat { x with zj:=n } }:=by
 have li:=wF (st.jt.lis _ x hx).1
 exact (st.mono (by omega) (by omega):St (N+1) (K+1) w).zcD hx rfl (zgp li.1 h0 li.2.2) (by show i64 n;unfold i64;omega) (by show n<=_;omega)
theorem znw (st:St N K w) (su:qP w m v g e) (tm:TyM m) (lo:jU w m v g e) (hk:m.op.kind=1) (hK:K<=1099511627776) (p:m.pc=4):∃ r,zO w m v g e=some r∧Nx N K w m jU kH muH r:=by
 have gw:=st.jt
 have l0:=lo.lis (.inl (by omega))
 have sl:=su.listen
 obtain ⟨x,hx⟩:∃ x,w.ze[m.listen.toNat]?= some x:=⟨_,List.getElem?_eq_getElem (by omega)⟩
 have li:=wF (gw.lis _ x hx).1
 have ca:=st.cal.lis x (List.mem_of_getElem? hx)
 have hw:IntKind.i64.wrap (x.zj+1)=x.zj+1:=jz (by omega) (by omega)
 have st2:=ziY st su hx (x.zj+1) (by omega) (by omega) hK
 unfold zO zbx
 rw [if_neg (by omega),if_neg (by omega),if_pos p,if_neg (by omega),hx,Option.map_some]
 unfold zmW
 rw [hw]
 refine qO rfl ⟨(by show (3:Int)≠0;decide),st2,rfl,⟨tm.listen,tm.word,tm.link,tm.host,tm.path,tm.d0,tm.d1,tm.cfg,tm.ans⟩,rfl,.inr ⟨⟨v,g,e,⟨qR.2 st2.jt,su.zo,su.done,su.version,su.atv,su.zg,su.atg,su.end_,su.ate,su.other,su.slot,by simpa using su.listen,su.i,su.k⟩,
  ⟨(by dsimp only;omega),fun h=>by dsimp only at h;omega,fun _=>l0,fun _=>lo.early (by omega),fun _=>lo.mid (by omega),fun h=>by dsimp only at h;omega,fun h=>by dsimp only at h;omega,fun h=>by dsimp only at h;omega,fun h=>by dsimp only at h;omega,fun _ _=>⟨_,List.getElem?_set_self (List.getElem?_eq_some_iff.1 hx).1,by show 1<=x.zj+1;omega⟩⟩⟩,jk (by show m.pc < 5;omega) (by show (5:Int)<=23;decide)⟩⟩
theorem znx (st:St N K w) (su:qP w m v g e) (tm:TyM m) (lo:jU w m v g e) (hk:m.op.kind=1) (p:m.pc=5):∃ r,zO w m v g e=some r∧Nx N K w m jU kH muH r:=by
 have gw:=st.jt
 have st1:St (N+1) (K+1) w:=st.mono (by omega) (by omega)
 have l0:=lo.lis (.inl (by omega))
 have sl:=su.listen
 obtain ⟨x,hx⟩:∃ x,w.ze[m.listen.toNat]?= some x:=⟨_,List.getElem?_eq_getElem (by omega)⟩
 obtain ⟨z1,z2,z3⟩:=lo.early (by omega)
 have z4:=lo.mid (by omega)
 have gv:=(gw.ver _ v su.atv).1
 unfold zO zbx
 rw [if_neg (by omega),if_neg (by omega),if_neg (by omega),if_pos p,if_neg (by omega),hx,Option.map_some]
 cases hd:x.drain
 ·simp only [Bool.false_eq_true,if_false]
  obtain ⟨c0,c,hc⟩:=zgi gv.snap m.op.listen m.op.host m.op.path
  by_cases f:(jw m v).2=0
  ·have glt:(jw m v).1.toNat < v.zf.length:=by have:=(List.getElem?_eq_some_iff.1 hc).1;have:=gv.len;show (vp v.snap m.op.listen m.op.host m.op.path).1.toNat < _;omega
   obtain ⟨g',e',hg,he,q1,q2⟩:=zdf gv glt
   have c0':0<=(jw m v).1:=c0
   have su':∀ pc an,qP w { m with zg:=(jw m v).1,pc:=pc,answer:=an } v g' e':=fun pc an=>⟨su.world,su.zo,su.done,su.version,su.atv,⟨c0',by show (jw m v).1 < _;omega⟩,hg,⟨by show 0<=m.end_;omega,by show m.end_ < _;omega⟩,by show g'.ends[m.end_.toNat]?= _;rw [z2];exact he,⟨by show 0<=m.other;omega,by show m.other < _;omega⟩,⟨by show 0<=m.slot;omega,by show m.slot < _;omega⟩,su.listen,su.i,su.k⟩
   by_cases d:(xt c m.op.d0 m.op.d1).2.2=0
   ·have hn:(hlt c).length≠0:=by
     intro hz
     unfold xt at d
     rw [if_pos hz] at d
     cases d
    by_cases po:c.jJ=1
    ·rw [zdO f hc d po]
     refine qO rfl ⟨(by show (1:Int)≠0;decide),st1,rfl,⟨tm.listen,tm.word,tm.link,tm.host,tm.path,tm.d0,tm.d1,tm.cfg,tm.ans⟩,rfl,.inr ⟨⟨v,g',e',su' 6 m.answer,⟨(by dsimp only;omega),fun h=>by dsimp only at h;omega,fun _=>l0,fun h=>by dsimp only at h;omega,fun _=>z4,fun _=>⟨c,hc,hn⟩,fun h=>by dsimp only at h;omega,fun h=>by dsimp only at h;omega,fun h=>by dsimp only at h;omega,(fun _ h=>lo.in_ (by omega) h)⟩⟩,jk (by show m.pc < 6;omega) (by show (6:Int)<=23;decide)⟩⟩
    ·rw [zdP f hc d po]
     have gl:=(gv.grp _ g' c hg hc).1
     have dv:xt c m.op.d0 m.op.d1=(y4 c m.op.d0,y4 c m.op.d1,0):=by unfold xt;rw [if_neg hn]
     have r0:=zhJ (n:=m.op.d0) hn
     have r1:=zhJ (n:=m.op.d1) hn
     have d1:(xt c m.op.d0 m.op.d1).1=y4 c m.op.d0:=by rw [dv]
     have d2:(xt c m.op.d0 m.op.d1).2.1=y4 c m.op.d1:=by rw [dv]
     rw [d1,d2]
     have r0':0<=y4 c m.op.d0∧y4 c m.op.d0 < c.zM.length:=r0
     have r1':0<=y4 c m.op.d1∧y4 c m.op.d1 < c.zM.length:=r1
     obtain ⟨e2,he2⟩:∃ e2,g'.ends[(y4 c m.op.d0).toNat]?= some e2:=⟨_,List.getElem?_eq_getElem (by omega)⟩
     have n2:=((gv.few.2 g' (List.mem_of_getElem? hg)).2.2 e2 (List.mem_of_getElem? he2)).2
     refine qO rfl ⟨(by show (1:Int)≠0;decide),st1,rfl,⟨tm.listen,tm.word,tm.link,tm.host,tm.path,tm.d0,tm.d1,tm.cfg,tm.ans⟩,rfl,.inr ⟨⟨v,g',e2,⟨su.world,su.zo,su.done,su.version,su.atv,⟨c0',by show (jw m v).1 < _;omega⟩,hg,⟨r0'.1,by show y4 c m.op.d0 < _;omega⟩,he2,⟨r1'.1,by show y4 c m.op.d1 < _;omega⟩,⟨by show 0<=m.slot;omega,by show m.slot < _;omega⟩,su.listen,su.i,su.k⟩,
      ⟨(by dsimp only;omega),fun h=>by dsimp only at h;omega,fun _=>l0,fun h=>by dsimp only at h;omega,fun _=>z4,fun h=>by dsimp only at h;omega,fun h=>by dsimp only at h;omega,fun h=>by dsimp only at h;omega,fun h=>by dsimp only at h;omega,(fun _ h=>lo.in_ (by omega) h)⟩⟩,jk (by show m.pc < 7;omega) (by show (7:Int)<=23;decide)⟩⟩
   ·rw [zcc f hc d]
    refine qO rfl ⟨(by show (1:Int)≠0;decide),st1,rfl,⟨tm.listen,tm.word,tm.link,tm.host,tm.path,tm.d0,tm.d1,tm.cfg,(fun h=>absurd ((show m.op.kind=6 from h).symm.trans hk) (by decide))⟩,rfl,.inr ⟨⟨v,g',e',su' 20 (zcn 3),⟨(by dsimp only;omega),fun h=>by dsimp only at h;omega,fun h=>by dsimp only at h;omega,fun h=>by dsimp only at h;omega,fun h=>by dsimp only at h;omega,fun h=>by dsimp only at h;omega,fun h=>by dsimp only at h;omega,fun h=>by dsimp only at h;omega,fun _=>⟨by show (1:Int)<=3;decide,by show (3:Int)<=5;decide⟩,(fun _ h=>lo.in_ (by omega) h)⟩⟩,jk (by show m.pc < 20;omega) (by show (20:Int)<=23;decide)⟩⟩
  ·rw [zeX f]
   refine qO rfl ⟨(by show (1:Int)≠0;decide),st1,rfl,⟨tm.listen,tm.word,tm.link,tm.host,tm.path,tm.d0,tm.d1,tm.cfg,(fun h=>absurd ((show m.op.kind=6 from h).symm.trans hk) (by decide))⟩,rfl,.inr ⟨⟨v,g,e,⟨su.world,su.zo,su.done,su.version,su.atv,su.zg,su.atg,su.end_,su.ate,su.other,su.slot,su.listen,su.i,su.k⟩,⟨(by dsimp only;omega),fun h=>by dsimp only at h;omega,fun h=>by dsimp only at h;omega,fun h=>by dsimp only at h;omega,fun h=>by dsimp only at h;omega,fun h=>by dsimp only at h;omega,fun h=>by dsimp only at h;omega,fun h=>by dsimp only at h;omega,fun _=>⟨by show (1:Int)<=2;decide,by show (2:Int)<=5;decide⟩,(fun _ h=>lo.in_ (by omega) h)⟩⟩,jk (by show m.pc < 20;omega) (by show (20:Int)<=23;decide)⟩⟩
 ·simp only [if_true]
  refine qO rfl ⟨(by show (1:Int)≠0;decide),st1,rfl,⟨tm.listen,tm.word,tm.link,tm.host,tm.path,tm.d0,tm.d1,tm.cfg,(fun h=>absurd ((show m.op.kind=6 from h).symm.trans hk) (by decide))⟩,rfl,.inr ⟨⟨v,g,e,⟨su.world,su.zo,su.done,su.version,su.atv,su.zg,su.atg,su.end_,su.ate,su.other,su.slot,su.listen,su.i,su.k⟩,⟨(by dsimp only;omega),fun h=>by dsimp only at h;omega,fun h=>by dsimp only at h;omega,fun h=>by dsimp only at h;omega,fun h=>by dsimp only at h;omega,fun h=>by dsimp only at h;omega,fun h=>by dsimp only at h;omega,fun h=>by dsimp only at h;omega,fun _=>⟨by show (1:Int)<=5;decide,by show (5:Int)<=5;decide⟩,(fun _ h=>lo.in_ (by omega) h)⟩⟩,jk (by show m.pc < 20;omega) (by show (20:Int)<=23;decide)⟩⟩
end
end Go.Wor
namespace Go.Wor
open Go.Ab Go.Proofs Go.Hy Go.Gat Go.Nam Go.Hos Go.Con Go.Sna
section
variable {N K:Nat} {w:Wor} {m:Mac} {v:Ver} {g:Gr} {e:En}
theorem xm (st:St N K w) (su:qP w m v g e):Slp.isV e=true∧e.next.length<=4∧1<=e.next.length∧0<=e.zj∧e.zj<=K∧e.ok∧u64 g.zl:=by
 have mv:=List.mem_of_getElem? su.atv
 have mg:=List.mem_of_getElem? su.atg
 have me:=List.mem_of_getElem? su.ate
 have f:=((st.jt.ver _ v su.atv).1.few.2 g mg).2.2 e me
 exact ⟨f.1,f.2.1,f.2.2,(Slp.k5 f.1).2.2.2,st.cal.ends v mv g mg e me,((st.ty.okv v mv).2 g mg).2 e me,((st.ty.okv v mv).2 g mg).1⟩
theorem zny (st:St N K w) (su:qP w m v g e) (tm:TyM m) (lo:jU w m v g e) (hk:m.op.kind=1) (p:m.pc=6):∃ r,zO w m v g e=some r∧Nx N K w m jU kH muH r:=by
 have gw:=st.jt
 obtain ⟨f1,f2,f3,f4,f5,f6,f7⟩:=xm st su
 have gv:=(gw.ver _ v su.atv).1
 obtain ⟨c,hc,hn⟩:=lo.draw p
 have l0:=lo.lis (.inl (by omega))
 have z:=lo.mid (by omega)
 have gl:=(gv.grp _ g c su.atg hc).1
 have tr:=zhJ (n:=g.zl) hn
 have tv:(vU c g.zl).1=((hlt c)[(g.zl % (hlt c).length).toNat]?).getD 0:=by unfold vU;rw [if_neg hn]
 rw [<- tv] at tr
 obtain ⟨e2,he2⟩:∃ e2,g.ends[(vU c g.zl).1.toNat]?= some e2:=⟨_,List.getElem?_eq_getElem (by omega)⟩
 have n2:=((gv.few.2 g (List.mem_of_getElem? su.atg)).2.2 e2 (List.mem_of_getElem? he2)).2
 have st2:=(st.mono (by omega) (by omega):St (N+1) (K+1) w).vx su.at_ (e':=qQ e e.head e.zj) (tk:=IntKind.u64.wrap (g.zl+1)) f1 rfl f6 (zlR _) (by show e.zj<=_;omega)
 have eset:g.ends.set m.end_.toNat (qQ e e.head e.zj)=g.ends:=xQ _ _ su.ate
 have s1:=(List.getElem?_eq_some_iff.1 su.atv).1
 have s2:=(List.getElem?_eq_some_iff.1 su.atg).1
 have so:=su.other
 unfold zO
 rw [if_neg (by omega),if_neg (by omega),if_neg (by omega),if_neg (by omega),if_pos p,hc,Option.map_some]
 refine qO rfl ⟨(by show (3:Int)≠0;decide),st2,rfl,⟨tm.listen,tm.word,tm.link,tm.host,tm.path,tm.d0,tm.d1,tm.cfg,tm.ans⟩,rfl,.inr ⟨⟨_,_,e2,⟨qR.2 st2.jt,su.zo,su.done,by simpa using su.version,List.getElem?_set_self s1,by simpa using su.zg,List.getElem?_set_self s2,⟨tr.1,by show _ < (((g.ends.set m.end_.toNat (qQ e e.head e.zj)).length:Nat):Int);rw [eset];show (vU c g.zl).1 < _;omega⟩,by show (g.ends.set m.end_.toNat (qQ e e.head e.zj))[(vU c g.zl).1.toNat]?= some e2;rw [eset];exact he2,by simpa using so,⟨by show 0<=m.slot;omega,by show m.slot < _;omega⟩,su.listen,su.i,su.k⟩,
  ⟨(by dsimp only;omega),fun h=>by dsimp only at h;omega,fun _=>l0,fun h=>by dsimp only at h;omega,fun h=>by dsimp only at h;omega,fun h=>by dsimp only at h;omega,fun h=>by dsimp only at h;omega,fun h=>by dsimp only at h;omega,fun h=>by dsimp only at h;omega,(fun _ h=>lo.in_ (by omega) h)⟩⟩,jk (by show m.pc < 9;omega) (by show (9:Int)<=23;decide)⟩⟩
theorem znz (st:St N K w) (su:qP w m v g e) (tm:TyM m) (lo:jU w m v g e) (hk:m.op.kind=1) (p:m.pc=7):∃ r,zO w m v g e=some r∧Nx N K w m jU kH muH r:=by
 obtain ⟨f1,f2,f3,f4,f5,f6,f7⟩:=xm st su
 have l0:=lo.lis (.inl (by omega))
 unfold zO
 rw [if_neg (by omega),if_neg (by omega),if_neg (by omega),if_neg (by omega),if_neg (by omega),if_pos p]
 refine qO rfl ⟨(by show (1:Int)≠0;decide),st.mono (by omega) (by omega),rfl,⟨tm.listen,tm.word,tm.link,tm.host,tm.path,tm.d0,tm.d1,tm.cfg,tm.ans⟩,rfl,.inr ⟨⟨v,g,e,⟨su.world,su.zo,su.done,su.version,su.atv,su.zg,su.atg,su.end_,su.ate,su.other,su.slot,su.listen,f4,su.k⟩,
  ⟨(by dsimp only;omega),fun h=>by dsimp only at h;omega,fun _=>l0,fun h=>by dsimp only at h;omega,fun _=>lo.mid (by omega),fun h=>by dsimp only at h;omega,fun h=>by dsimp only at h;omega,fun h=>by dsimp only at h;omega,fun h=>by dsimp only at h;omega,(fun _ h=>lo.in_ (by omega) h)⟩⟩,jk (by show m.pc < 8;omega) (by show (8:Int)<=23;decide)⟩⟩
theorem znA (st:St N K w) (su:qP w m v g e) (tm:TyM m) (lo:jU w m v g e) (hk:m.op.kind=1) (p:m.pc=8):∃ r,zO w m v g e=some r∧Nx N K w m jU kH muH r:=by
 have gv:=(st.jt.ver _ v su.atv).1
 have l0:=lo.lis (.inl (by omega))
 have z:=lo.mid (by omega)
 have so:=su.other
 obtain ⟨e2,he2⟩:∃ e2,g.ends[m.other.toNat]?= some e2:=⟨_,List.getElem?_eq_getElem (by omega)⟩
 have n2:=((gv.few.2 g (List.mem_of_getElem? su.atg)).2.2 e2 (List.mem_of_getElem? he2)).2
 unfold zO
 rw [if_neg (by omega),if_neg (by omega),if_neg (by omega),if_neg (by omega),if_neg (by omega),if_neg (by omega),if_pos p,he2,Option.map_some]
 by_cases q:e2.zj < m.i
 ·rw [if_pos q]
  refine qO rfl ⟨(by show (1:Int)≠0;decide),st.mono (by omega) (by omega),rfl,⟨tm.listen,tm.word,tm.link,tm.host,tm.path,tm.d0,tm.d1,tm.cfg,tm.ans⟩,rfl,.inr ⟨⟨v,g,e2,⟨su.world,su.zo,su.done,su.version,su.atv,su.zg,su.atg,so,he2,so,⟨by show 0<=m.slot;omega,by show m.slot < _;omega⟩,su.listen,su.i,su.k⟩,
   ⟨(by dsimp only;omega),fun h=>by dsimp only at h;omega,fun _=>l0,fun h=>by dsimp only at h;omega,fun h=>by dsimp only at h;omega,fun h=>by dsimp only at h;omega,fun h=>by dsimp only at h;omega,fun h=>by dsimp only at h;omega,fun h=>by dsimp only at h;omega,(fun _ h=>lo.in_ (by omega) h)⟩⟩,jk (by show m.pc < 9;omega) (by show (9:Int)<=23;decide)⟩⟩
 ·rw [if_neg q]
  refine qO rfl ⟨(by show (1:Int)≠0;decide),st.mono (by omega) (by omega),rfl,⟨tm.listen,tm.word,tm.link,tm.host,tm.path,tm.d0,tm.d1,tm.cfg,tm.ans⟩,rfl,.inr ⟨⟨v,g,e,⟨su.world,su.zo,su.done,su.version,su.atv,su.zg,su.atg,su.end_,su.ate,su.other,su.slot,su.listen,su.i,su.k⟩,
   ⟨(by dsimp only;omega),fun h=>by dsimp only at h;omega,fun _=>l0,fun h=>by dsimp only at h;omega,fun h=>by dsimp only at h;omega,fun h=>by dsimp only at h;omega,fun h=>by dsimp only at h;omega,fun h=>by dsimp only at h;omega,fun h=>by dsimp only at h;omega,(fun _ h=>lo.in_ (by omega) h)⟩⟩,jk (by show m.pc < 9;omega) (by show (9:Int)<=23;decide)⟩⟩
theorem znB (st:St N K w) (su:qP w m v g e) (tm:TyM m) (lo:jU w m v g e) (hk:m.op.kind=1) (p:m.pc=9):∃ r,zO w m v g e=some r∧Nx N K w m jU kH muH r:=by
 obtain ⟨f1,f2,f3,f4,f5,f6,f7⟩:=xm st su
 have l0:=lo.lis (.inl (by omega))
 unfold zO
 rw [if_neg (by omega),if_neg (by omega),if_neg (by omega),if_neg (by omega),if_neg (by omega),if_neg (by omega),if_neg (by omega),if_pos p]
 by_cases q:0<=zB e.head∧zB e.head < e.next.length
 ·rw [if_pos q]
  refine qO rfl ⟨(by show (1:Int)≠0;decide),st.mono (by omega) (by omega),rfl,⟨tm.listen,f6.1,tm.link,tm.host,tm.path,tm.d0,tm.d1,tm.cfg,tm.ans⟩,rfl,.inr ⟨⟨v,g,e,⟨su.world,su.zo,su.done,su.version,su.atv,su.zg,su.atg,su.end_,su.ate,su.other,q,su.listen,su.i,su.k⟩,
   ⟨(by dsimp only;omega),fun h=>by dsimp only at h;omega,fun _=>l0,fun h=>by dsimp only at h;omega,fun h=>by dsimp only at h;omega,fun h=>by dsimp only at h;omega,fun _=>⟨rfl,rfl⟩,fun h=>by dsimp only at h;omega,fun h=>by dsimp only at h;omega,(fun _ h=>lo.in_ (by omega) h)⟩⟩,jk (by show m.pc < 10;omega) (by show (10:Int)<=23;decide)⟩⟩
 ·rw [if_neg q]
  refine qO rfl ⟨(by show (1:Int)≠0;decide),st.mono (by omega) (by omega),rfl,⟨tm.listen,f6.1,tm.link,tm.host,tm.path,tm.d0,tm.d1,tm.cfg,(fun h=>absurd ((show m.op.kind=6 from h).symm.trans hk) (by decide))⟩,rfl,.inr ⟨⟨v,g,e,⟨su.world,su.zo,su.done,su.version,su.atv,su.zg,su.atg,su.end_,su.ate,su.other,su.slot,su.listen,su.i,su.k⟩,⟨(by dsimp only;omega),fun h=>by dsimp only at h;omega,fun h=>by dsimp only at h;omega,fun h=>by dsimp only at h;omega,fun h=>by dsimp only at h;omega,fun h=>by dsimp only at h;omega,fun h=>by dsimp only at h;omega,fun h=>by dsimp only at h;omega,fun _=>⟨by show (1:Int)<=4;decide,by show (4:Int)<=5;decide⟩,(fun _ h=>lo.in_ (by omega) h)⟩⟩,jk (by show m.pc < 20;omega) (by show (20:Int)<=23;decide)⟩⟩
theorem zmo (st:St N K w) (su:qP w m v g e) (tm:TyM m) (lo:jU w m v g e) (hk:m.op.kind=1) (p:m.pc=10):∃ r,zO w m v g e=some r∧Nx N K w m jU kH muH r:=by
 obtain ⟨f1,f2,f3,f4,f5,f6,f7⟩:=xm st su
 have l0:=lo.lis (.inl (by omega))
 obtain ⟨z1,z2⟩:=lo.slot (.inl p)
 have ss:=su.slot
 obtain ⟨x,hx⟩:∃ x,e.next[m.slot.toNat]?= some x:=⟨_,List.getElem?_eq_getElem (by omega)⟩
 have hh:Slp.zB e=m.slot:=by rw [z1,<- z2];rfl
 have hi:=Slp.ziL f1 (by omega)
 have hx2:Slp.nxt e.next (Slp.zB e)=x:=by unfold Slp.nxt;rw [hh,hx];rfl
 unfold zO
 rw [if_neg (by omega),if_neg (by omega),if_neg (by omega),if_neg (by omega),if_neg (by omega),if_neg (by omega),if_neg (by omega),if_neg (by omega),if_pos p,hx,Option.map_some]
 refine qO rfl ⟨(by show (1:Int)≠0;decide),st.mono (by omega) (by omega),rfl,⟨tm.listen,tm.word,by show -1<=x∧x<=2147483646;omega,tm.host,tm.path,tm.d0,tm.d1,tm.cfg,tm.ans⟩,rfl,.inr ⟨⟨v,g,e,⟨su.world,su.zo,su.done,su.version,su.atv,su.zg,su.atg,su.end_,su.ate,su.other,su.slot,su.listen,su.i,su.k⟩,
  ⟨(by dsimp only;omega),fun h=>by dsimp only at h;omega,fun _=>l0,fun h=>by dsimp only at h;omega,fun h=>by dsimp only at h;omega,fun h=>by dsimp only at h;omega,fun _=>⟨z1,z2⟩,fun _=>hx,fun h=>by dsimp only at h;omega,(fun _ h=>lo.in_ (by omega) h)⟩⟩,jk (by show m.pc < 11;omega) (by show (11:Int)<=23;decide)⟩⟩
theorem zmp (st:St N K w) (su:qP w m v g e) (tm:TyM m) (lo:jU w m v g e) (hk:m.op.kind=1) (p:m.pc=11):∃ r,zO w m v g e=some r∧Nx N K w m jU kH muH r:=by
 obtain ⟨f1,f2,f3,f4,f5,f6,f7⟩:=xm st su
 have l0:=lo.lis (.inl (by omega))
 obtain ⟨z1,z2⟩:=lo.slot (.inr p)
 have z3:=lo.link p
 have ss:=su.slot
 have hh:Slp.zB e=m.slot:=by rw [z1,<- z2];rfl
 have hx2:Slp.nxt e.next (Slp.zB e)=m.link:=by unfold Slp.nxt;rw [hh,z3];rfl
 have ct:=(Slp.zcU (Slp.k5 f1).1 (by omega)).2.1
 rw [hx2] at ct
 have hd:Slp.zB (qQ e (Slp.z6 m.word m.link) e.zj)=m.link:=Slp.zaf tm.link.1 tm.link.2
 have is2:Slp.isV (qQ e (Slp.z6 m.word m.link) e.zj)=true:=by
  unfold Slp.isV
  rw [hd]
  simp only [Bool.and_eq_true,decide_eq_true_eq]
  exact ⟨⟨⟨ct,f3⟩,f2⟩,f4⟩
 have st2:=(st.mono (by omega) (by omega):St (N+1) (K+1) w).vx su.at_ (e':=qQ e (Slp.z6 m.word m.link) e.zj) (tk:=g.zl) is2 rfl ⟨Slp.zdA tm.link.1 tm.link.2,f6.2⟩ f7 (by show e.zj<=_;omega)
 unfold zO
 rw [if_neg (by omega),if_neg (by omega),if_neg (by omega),if_neg (by omega),if_neg (by omega),if_neg (by omega),if_neg (by omega),if_neg (by omega),if_neg (by omega),if_pos p,if_pos z2]
 refine qO rfl ⟨(by show (4:Int)≠0;decide),st2,rfl,⟨tm.listen,tm.word,tm.link,tm.host,tm.path,tm.d0,tm.d1,tm.cfg,tm.ans⟩,rfl,.inr ⟨⟨_,_,_,y9 (e':=qQ e (Slp.z6 m.word m.link) e.zj) (m':={ m with pc:=12 }) su rfl st2.jt rfl su.done rfl rfl rfl rfl rfl rfl rfl rfl,
  ⟨(by dsimp only;omega),fun h=>by dsimp only at h;omega,fun _=>l0,fun h=>by dsimp only at h;omega,fun h=>by dsimp only at h;omega,fun h=>by dsimp only at h;omega,fun h=>by dsimp only at h;omega,fun h=>by dsimp only at h;omega,fun h=>by dsimp only at h;omega,(fun _ h=>lo.in_ (by omega) h)⟩⟩,jk (by show m.pc < 12;omega) (by show (12:Int)<=23;decide)⟩⟩
theorem zmq (st:St N K w) (su:qP w m v g e) (tm:TyM m) (lo:jU w m v g e) (hk:m.op.kind=1) (hK:K<=1099511627776) (p:m.pc=12):∃ r,zO w m v g e=some r∧Nx N K w m jU kH muH r:=by
 obtain ⟨f1,f2,f3,f4,f5,f6,f7⟩:=xm st su
 have hw:IntKind.i64.wrap (e.zj+1)=e.zj+1:=jz (by omega) (by omega)
 have st2:=(st.mono (by omega) (by omega):St (N+1) (K+1) w).vx su.at_ (e':=qQ e e.head (e.zj+1)) (tk:=g.zl) (ziN f1 _ (by omega)) rfl ⟨f6.1,f6.2.1,by show i64 (e.zj+1);unfold i64;omega⟩ f7 (by show e.zj+1<=_;omega)
 unfold zO
 rw [if_neg (by omega),if_neg (by omega),if_neg (by omega),if_neg (by omega),if_neg (by omega),if_neg (by omega),if_neg (by omega),if_neg (by omega),if_neg (by omega),if_neg (by omega),if_pos p,hw]
 refine qO rfl ⟨(by show (3:Int)≠0;decide),st2,rfl,⟨tm.listen,tm.word,tm.link,tm.host,tm.path,tm.d0,tm.d1,tm.cfg,(fun h=>absurd ((show m.op.kind=6 from h).symm.trans hk) (by decide))⟩,rfl,.inr ⟨⟨_,_,_,y9 (e':=qQ e e.head (e.zj+1)) (m':={ m with answer:=kk m,pc:=20 }) su rfl st2.jt rfl su.done rfl rfl rfl rfl rfl rfl rfl rfl,⟨(by dsimp only;omega),fun h=>by dsimp only at h;omega,fun h=>by dsimp only at h;omega,fun h=>by dsimp only at h;omega,fun h=>by dsimp only at h;omega,fun h=>by dsimp only at h;omega,fun h=>by dsimp only at h;omega,fun h=>by dsimp only at h;omega,fun _=>⟨by show (1:Int)<=1;decide,by show (1:Int)<=5;decide⟩,(fun _ h=>lo.in_ (by omega) h)⟩⟩,jk (by show m.pc < 20;omega) (by show (20:Int)<=23;decide)⟩⟩
theorem v5 (st:St N K w) (su:qP w m v g e) {k pc:Int} (h0:0<=k) (h5:k<=5):∃ r2:List Int,r2.length=6∧zbk w m k pc=some ({ w with counts:=w.counts.set m.zo.toNat r2 },{ m with pc:=pc },evO m 3 10 k):=by
 obtain ⟨r0,hr,hl⟩:=zkM st.jt su.zo.1 su.zo.2
 unfold zbk
 rw [hr]
 dsimp only
 rw [List.getElem?_eq_getElem (show k.toNat < r0.length by omega)]
 exact ⟨_,by simpa using hl,rfl⟩
theorem zmr (st:St N K w) (su:qP w m v g e) (tm:TyM m) (lo:jU w m v g e) (hk:m.op.kind=1) (p:m.pc=20):∃ r,zO w m v g e=some r∧Nx N K w m jU kH muH r:=by
 have kr:=zdp m.answer.kind
 obtain ⟨r2,hl,hc⟩:=v5 st su (pc:=21) kr.1 kr.2
 have st2:=(st.mono (by omega) (by omega):St (N+1) (K+1) w).count m.zo.toNat hl
 have an:=lo.ans (by omega)
 unfold zO
 rw [if_neg (by omega),if_neg (by omega),if_neg (by omega),if_neg (by omega),if_neg (by omega),if_neg (by omega),if_neg (by omega),if_neg (by omega),if_neg (by omega),if_neg (by omega),if_neg (by omega),if_pos p,hc]
 refine qO rfl ⟨(by show (3:Int)≠0;decide),st2,rfl,⟨tm.listen,tm.word,tm.link,tm.host,tm.path,tm.d0,tm.d1,tm.cfg,tm.ans⟩,rfl,.inr ⟨⟨v,g,e,⟨qR.2 st2.jt,su.zo,su.done,su.version,su.atv,su.zg,su.atg,su.end_,su.ate,su.other,su.slot,su.listen,su.i,su.k⟩,
  ⟨(by dsimp only;omega),fun h=>by dsimp only at h;omega,fun h=>by dsimp only at h;omega,fun h=>by dsimp only at h;omega,fun h=>by dsimp only at h;omega,fun h=>by dsimp only at h;omega,fun h=>by dsimp only at h;omega,fun h=>by dsimp only at h;omega,fun _=>an,(fun _ h=>lo.in_ (by omega) h)⟩⟩,jk (by show m.pc < 21;omega) (by show (21:Int)<=23;decide)⟩⟩
theorem zms (st:St N K w) (su:qP w m v g e) (tm:TyM m) (lo:jU w m v g e) (hk:m.op.kind=1) (p:m.pc=21):∃ r,zO w m v g e=some r∧Nx N K w m jU kH muH r:=by
 obtain ⟨r2,hl,hc⟩:=v5 st su (k:=0) (pc:=if m.answer.kind=1∨m.listen < 0 then 23 else 22) (by decide) (by decide)
 have st2:=(st.mono (by omega) (by omega):St (N+1) (K+1) w).count m.zo.toNat hl
 have an:=lo.ans (by omega)
 unfold zO
 rw [if_neg (by omega),if_neg (by omega),if_neg (by omega),if_neg (by omega),if_neg (by omega),if_neg (by omega),if_neg (by omega),if_neg (by omega),if_neg (by omega),if_neg (by omega),if_neg (by omega),if_neg (by omega),if_pos p,hc]
 by_cases q:m.answer.kind=1∨m.listen < 0
 ·rw [if_pos q]
  refine qO rfl ⟨(by show (3:Int)≠0;decide),st2,rfl,⟨tm.listen,tm.word,tm.link,tm.host,tm.path,tm.d0,tm.d1,tm.cfg,tm.ans⟩,rfl,.inr ⟨⟨v,g,e,⟨qR.2 st2.jt,su.zo,su.done,su.version,su.atv,su.zg,su.atg,su.end_,su.ate,su.other,su.slot,su.listen,su.i,su.k⟩,
   ⟨(by dsimp only;omega),fun h=>by dsimp only at h;omega,fun h=>by dsimp only at h;omega,fun h=>by dsimp only at h;omega,fun h=>by dsimp only at h;omega,fun h=>by dsimp only at h;omega,fun h=>by dsimp only at h;omega,fun h=>by dsimp only at h;omega,fun _=>an,fun h=>by dsimp only at h;omega⟩⟩,jk (by show m.pc < 23;omega) (by show (23:Int)<=23;decide)⟩⟩
 ·rw [if_neg q]
  refine qO rfl ⟨(by show (3:Int)≠0;decide),st2,rfl,⟨tm.listen,tm.word,tm.link,tm.host,tm.path,tm.d0,tm.d1,tm.cfg,tm.ans⟩,rfl,.inr ⟨⟨v,g,e,⟨qR.2 st2.jt,su.zo,su.done,su.version,su.atv,su.zg,su.atg,su.end_,su.ate,su.other,su.slot,su.listen,su.i,su.k⟩,
   ⟨(by dsimp only;omega),fun h=>by dsimp only at h;omega,fun _=>by show 0<=m.listen;omega,fun h=>by dsimp only at h;omega,fun h=>by dsimp only at h;omega,fun h=>by dsimp only at h;omega,fun h=>by dsimp only at h;omega,fun h=>by dsimp only at h;omega,fun _=>an,(fun _ h=>lo.in_ (by omega) h)⟩⟩,jk (by show m.pc < 22;omega) (by show (22:Int)<=23;decide)⟩⟩
theorem zmt (st:St N K w) (su:qP w m v g e) (tm:TyM m) (lo:jU w m v g e) (hk:m.op.kind=1) (hK:K<=1099511627776) (p:m.pc=22):∃ r,zO w m v g e=some r∧Nx N K w m jU kH muH r:=by
 have l0:=lo.lis (.inr p)
 obtain ⟨x,hx,x1⟩:=lo.in_ (by omega) l0
 have ca:=st.cal.lis x (List.mem_of_getElem? hx)
 have hw:IntKind.i64.wrap (x.zj - 1)=x.zj - 1:=jz (by omega) (by omega)
 have st2:=ziY st su hx (x.zj - 1) (by omega) (by omega) hK
 have an:=lo.ans (by omega)
 unfold zO zbx
 rw [if_neg (by omega),if_neg (by omega),if_neg (by omega),if_neg (by omega),if_neg (by omega),if_neg (by omega),if_neg (by omega),if_neg (by omega),if_neg (by omega),if_neg (by omega),if_neg (by omega),if_neg (by omega),if_neg (by omega),if_pos p,if_neg (by omega),hx,Option.map_some]
 unfold zb6
 rw [hw]
 refine qO rfl ⟨(by show (3:Int)≠0;decide),st2,rfl,⟨tm.listen,tm.word,tm.link,tm.host,tm.path,tm.d0,tm.d1,tm.cfg,tm.ans⟩,rfl,.inr ⟨⟨v,g,e,⟨qR.2 st2.jt,su.zo,su.done,su.version,su.atv,su.zg,su.atg,su.end_,su.ate,su.other,su.slot,by simpa using su.listen,su.i,su.k⟩,
  ⟨(by dsimp only;omega),fun h=>by dsimp only at h;omega,fun h=>by dsimp only at h;omega,fun h=>by dsimp only at h;omega,fun h=>by dsimp only at h;omega,fun h=>by dsimp only at h;omega,fun h=>by dsimp only at h;omega,fun h=>by dsimp only at h;omega,fun _=>an,fun h=>by dsimp only at h;omega⟩⟩,jk (by show m.pc < 23;omega) (by show (23:Int)<=23;decide)⟩⟩
theorem zmu (st:St N K w) (su:qP w m v g e) (tm:TyM m) (lo:jU w m v g e) (hk:m.op.kind=1) (p:m.pc=23):∃ r,zO w m v g e=some r∧Nx N K w m jU kH muH r:=by
 have ep:=(jx.1 st.jt.ground).zu
 have st2:=(st.mono (by omega) (by omega):St (N+1) (K+1) w).pin m.zo.toNat (p:=0) (by omega) (by omega)
 unfold zO
 rw [if_neg (by omega),if_neg (by omega),if_neg (by omega),if_neg (by omega),if_neg (by omega),if_neg (by omega),if_neg (by omega),if_neg (by omega),if_neg (by omega),if_neg (by omega),if_neg (by omega),if_neg (by omega),if_neg (by omega),if_neg (by omega),if_pos p]
 exact qO rfl ⟨(by show (2:Int)≠0;decide),st2,by simp,⟨tm.listen,tm.word,tm.link,tm.host,tm.path,tm.d0,tm.d1,tm.cfg,(fun h=>absurd ((show m.op.kind=6 from h).symm.trans hk) (by decide))⟩,rfl,.inl ⟨rfl,lo.ans (by omega)⟩⟩
theorem zdF (st:St N K w) (su:qP w m v g e) (tm:TyM m) (lo:jU w m v g e) (hk:m.op.kind=1) (hN:N<=100000000) (hK:K<=1099511627776):∃ r,zO w m v g e=some r∧Nx N K w m jU kH muH r:=by
 have pc:=lo.pc
 by_cases h3:m.pc < 3
 ·exact zmw st su tm lo h3
 rcases (by omega:m.pc=3∨m.pc=4∨m.pc=5∨m.pc=6∨m.pc=7∨m.pc=8∨m.pc=9∨m.pc=10∨m.pc=11∨m.pc=12∨m.pc=20∨m.pc=21∨m.pc=22∨m.pc=23) with p | p | p | p | p | p | p | p | p | p | p | p | p | p
 ·exact znv st su tm lo hk hN p
 ·exact znw st su tm lo hk hK p
 ·exact znx st su tm lo hk p
 ·exact zny st su tm lo hk p
 ·exact znz st su tm lo hk p
 ·exact znA st su tm lo hk p
 ·exact znB st su tm lo hk p
 ·exact zmo st su tm lo hk p
 ·exact zmp st su tm lo hk p
 ·exact zmq st su tm lo hk hK p
 ·exact zmr st su tm lo hk p
 ·exact zms st su tm lo hk p
 ·exact zmt st su tm lo hk hK p
 ·exact zmu st su tm lo hk p
end
end Go.Wor
namespace Go.Wor
open Go.Ab Go.Proofs Go.Hy Go.Gat Go.Nam Go.Hos Go.Con Go.Sna
def look (m:List (Int × Value)) (i:Int):Option Value:=(jq m i).bind fun j=>(m[j]?).map (·.2)
theorem zeA (m:List (Int × Value)) (i:Int):jq m i=(m.map (·.1)).findIdx? (fun k=>decide (k=i)):=by
 unfold jq
 rw [List.findIdx?_map]
 rfl
theorem zla (m:List (Int × Value)) (k i:Int) (v:Value):look (kG m k v) i=if k=i then some v else look m i:=by
 unfold kG
 cases hf:jq m k with
 | some j=>
  dsimp only
  obtain ⟨u,hu⟩:=xY hf
  have keys:(m.set j (k,v)).map (·.1)=m.map (·.1):=by
   rw [List.map_set]
   exact xQ _ _ (by rw [List.getElem?_map,hu];rfl)
  have e:jq (m.set j (k,v)) i=jq m i:=by rw [zeA,zeA,keys]
  unfold look
  rw [e]
  have hlt:=(List.getElem?_eq_some_iff.1 hu).1
  by_cases hki:k=i
  ·subst hki
   rw [if_pos rfl,hf]
   simp [hlt]
  ·rw [if_neg hki]
   cases hi:jq m i with
   | none=>rfl
   | some j'=>
    obtain ⟨u',hu'⟩:=xY hi
    have hne:j≠j':=by
     rintro rfl
     rw [hu] at hu'
     cases hu'
     exact hki rfl
    simp [List.getElem?_set,hne]
 | none=>
  dsimp only
  have e:jq (m++[(k,v)]) i=if k=i then some m.length else jq m i:=by
   unfold jq
   rw [List.findIdx?_append]
   by_cases hki:k=i
   ·subst hki
    have:m.findIdx? (fun kv=>decide (kv.1=k))=none:=hf
    rw [this,if_pos rfl]
    simp
   ·rw [if_neg hki]
    cases m.findIdx? (fun kv=>decide (kv.1=i)) with
    | some j=>rfl
    | none=>simp [hki]
  unfold look
  rw [e]
  by_cases hki:k=i
  ·rw [if_pos hki,if_pos hki]
   simp
  ·rw [if_neg hki,if_neg hki]
   cases hi:jq m i with
   | none=>rfl
   | some j'=>
    obtain ⟨u',hu'⟩:=xY hi
    have:=(List.getElem?_eq_some_iff.1 hu').1
    simp [List.getElem?_append_left this]
theorem zhE (l:List Ret) (i:Int):vl l i=(match look (xu l) i with | some (.bool b)=>b | _=>false):=rfl
theorem zhD (l:List Ret) (r:Ret):xu (l++[r])=kG (xu l) r.version (Value.bool r.gone):=by
 unfold xu
 rw [List.foldl_append]
 rfl
theorem zhF (l:List Ret) (r:Ret) (i:Int):vl (l++[r]) i=if r.version=i then r.gone else vl l i:=by
 rw [zhE,zhD,zla]
 by_cases h:r.version=i
 ·rw [if_pos h,if_pos h]
 ·rw [if_neg h,if_neg h]
  rfl
theorem zbq (l:List Ret) (i:Int) (hu:∀ (a b:Nat) (x y:Ret),l[a]?= some x->l[b]?= some y->x.version=y.version->a=b):vl l i=true↔∃ r ∈ l,r.version=i∧r.gone=true:=by
 have key:∀ n,∀ l:List Ret,l.length=n->(∀ (a b:Nat) (x y:Ret),l[a]?= some x->l[b]?= some y->x.version=y.version->a=b)->(vl l i=true↔∃ r ∈ l,r.version=i∧r.gone=true):=by
  intro n
  induction n with
  | zero=>
   intro l hl _
   rw [List.length_eq_zero_iff.1 hl]
   constructor
   ·intro h;cases h
   ·rintro ⟨r,hr,_⟩;cases hr
  | succ n ih=>
   intro l hl hu
   obtain ⟨l',r,rfl⟩:∃ l' r,l=l'++[r]:=⟨l.dropLast,l.getLast (by rintro rfl;cases hl),(List.dropLast_concat_getLast _).symm⟩
   have hl':l'.length=n:=by simpa using hl
   have ih':=ih l' hl' fun a b x y ha hb=>hu a b x y (by rw [List.getElem?_append_left (List.getElem?_eq_some_iff.1 ha).1];exact ha) (by rw [List.getElem?_append_left (List.getElem?_eq_some_iff.1 hb).1];exact hb)
   have hlast:(l'++[r])[l'.length]?= some r:=by simp
   rw [zhF]
   by_cases h:r.version=i
   ·rw [if_pos h]
    constructor
    ·intro hg;exact ⟨r,by simp,h,hg⟩
    ·rintro ⟨x,hx,hv,hg⟩
     obtain ⟨a,ha⟩:=List.mem_iff_getElem?.1 hx
     have:=hu a _ x r ha hlast (by rw [hv,h])
     subst this
     rw [hlast] at ha
     cases ha
     exact hg
   ·rw [if_neg h,ih']
    constructor
    ·rintro ⟨x,hx,hv⟩;exact ⟨x,by simp [hx],hv⟩
    ·rintro ⟨x,hx,hv,hg⟩
     rcases List.mem_append.1 hx with hx | hx
     ·exact ⟨x,hx,hv,hg⟩
     ·rw [List.mem_singleton.1 hx] at hv;exact absurd hv h
 exact key _ l rfl hu
theorem zfw {l:List Ret} (h:Go.Lim.isV l=true) {i:Nat} {x:Ret} (hx:l[i]?= some x):0<=x.version∧0<=x.at_∧∀ (j:Nat) (y:Ret),j < i->l[j]?= some y->y.version≠x.version:=by
 have h2:=of_decide_eq_true (show decide (∀ i,(h:i < l.length)->Go.Lim.okV l i l[i]=true)=true from h) i (List.getElem?_eq_some_iff.1 hx).1
 rw [(List.getElem?_eq_some_iff.1 hx).2] at h2
 unfold Go.Lim.okV Go.Lim.zjB at h2
 simp only [Bool.and_eq_true,Bool.not_eq_true',decide_eq_false_iff_not,List.any_eq_false,beq_iff_eq] at h2
 refine ⟨by omega,by omega,fun j y hj hy he=>h2.2 y ?_ he⟩
 exact List.mem_iff_getElem?.2 ⟨j,by rw [List.getElem?_take,if_pos hj];exact hy⟩
theorem zmd {l:List Ret}:Go.Lim.isV l=true↔∀ (i:Nat) (x:Ret),l[i]?= some x->0<=x.version∧0<=x.at_∧∀ (j:Nat) (y:Ret),j < i->l[j]?= some y->y.version≠x.version:=by
 constructor
 ·exact fun h i x hx=>zfw h hx
 ·intro h
  refine decide_eq_true fun i hi=>?_
  obtain ⟨h1,h2,h3⟩:=h i l[i] (List.getElem?_eq_getElem hi)
  unfold Go.Lim.okV Go.Lim.zjB
  simp only [Bool.and_eq_true,Bool.not_eq_true',decide_eq_false_iff_not,List.any_eq_false,beq_iff_eq]
  refine ⟨⟨by omega,by omega⟩,fun y hy he=>?_⟩
  obtain ⟨j,hj⟩:=List.mem_iff_getElem?.1 hy
  rw [List.getElem?_take] at hj
  split at hj
  ·exact h3 j y (by assumption) hj he
  ·cases hj
theorem zdq {l:List Ret} (h:Go.Lim.isV l=true):∀ (a b:Nat) (x y:Ret),l[a]?= some x->l[b]?= some y->x.version=y.version->a=b:=fun a b x y ha hb he=>by
 rcases Nat.lt_trichotomy a b with hlt | rfl | hlt
 ·exact absurd he ((zfw h hb).2.2 a x hlt ha)
 ·rfl
 ·exact absurd he.symm ((zfw h ha).2.2 b y hlt hb)
end Go.Wor
namespace Go.Wor
open Go.Ab Go.Proofs Go.Hy Go.Gat Go.Nam Go.Hos Go.Con Go.Sna
section
variable {N K:Nat} {w:Wor} {m:Mac} {v:Ver} {g:Gr} {e:En}
theorem St.zC (st:St N K w) {i:Nat} {k:Int} {v2:Ver} {x:Ret} (h0:0<=k) (hv:w.zd[k.toNat]?= some v2) (hx:w.zt[i]?= some x) (he:x.version=k):St (N+1) (K+1) { w with zd:=w.zd.set k.toNat (zhC v2),zt:=w.zt.set i (zbZ x) }:=by
 have gw:=st.jt
 have la:=zk9 gw hx
 have same:∀ (j:Nat) (y:Ret),(w.zt.set i (zbZ x))[j]?= some y->∃ z,w.zt[j]?= some z∧z.version=y.version∧z.at_=y.at_:=fun j y hy=>by
  rcases kf hy with ⟨rfl,rfl,_⟩ | ⟨_,hy⟩
  ·exact ⟨x,hx,rfl,rfl⟩
  ·exact ⟨y,hy,rfl,rfl⟩
 have isL:Go.Lim.isV (w.zt.set i (zbZ x))=true:=by
  rw [zmd]
  intro j y hy
  obtain ⟨z,hz,e1,e2⟩:=same j y hy
  obtain ⟨a,b,c⟩:=zfw gw.zt hz
  refine ⟨by omega,by omega,fun j2 y2 hj hy2=>?_⟩
  obtain ⟨z2,hz2,e3,_⟩:=same j2 y2 hy2
  rw [<- e3,<- e1]
  exact c j2 z2 hj hz2
 refine ⟨⟨gw.ground,by simpa using gw.current,isL,fun r hr=>?_,fun j v3 hv3=>?_,gw.lis⟩,⟨by have:=st.ty.zel;simp;omega,by have:=st.ty.lis;show w.ze.length<=_;omega,by have:=st.ty.lim;simp;omega,fun v3 hv3=>?_,st.ty.okl⟩,⟨fun l hl=>by have:=st.cal.lis l hl;omega,fun v3 hv3 g2 hg e2 he=>?_⟩⟩
 ·obtain ⟨j,hj⟩:=List.mem_iff_getElem?.1 hr
  obtain ⟨z,hz,e1,e2⟩:=same j r hj
  have:=gw.bad z (List.mem_of_getElem? hz)
  unfold xM at this ⊢
  rw [<- e1,<- e2]
  simpa using this
 ·have gone2:vl (w.zt.set i (zbZ x)) j=if (j:Int)=k then true else vl w.zt j:=by
   by_cases hjk:(j:Int)=k
   ·rw [if_pos hjk,zbq _ _ (zdq isL)]
    exact ⟨zbZ x,List.mem_iff_getElem?.2 ⟨i,List.getElem?_set_self (List.getElem?_eq_some_iff.1 hx).1⟩,by show x.version=_;omega,rfl⟩
   ·rw [if_neg hjk,Bool.eq_iff_iff,zbq _ _ (zdq isL),zbq _ _ (zdq gw.zt)]
    constructor
    ·rintro ⟨r,hr,h1,h2⟩
     rcases mem_set hr with hr | rfl
     ·exact ⟨r,hr,h1,h2⟩
     ·exact absurd (show x.version=j from h1) (by omega)
    ·rintro ⟨r,hr,h1,h2⟩
     obtain ⟨b,hb⟩:=List.mem_iff_getElem?.1 hr
     have hbi:i≠b:=by
      rintro rfl
      rw [hx] at hb
      cases hb
      omega
     exact ⟨r,List.mem_iff_getElem?.2 ⟨b,by rw [List.getElem?_set,if_neg hbi];exact hb⟩,h1,h2⟩
  show zas v3∧v3.zC=vl (w.zt.set i (zbZ x)) j
  rw [gone2]
  rcases kf hv3 with ⟨rfl,rfl,_⟩ | ⟨hne,hv3⟩
  ·rw [if_pos (by omega)]
   exact ⟨⟨(gw.ver _ v2 hv).1.snap,(gw.ver _ v2 hv).1.len,(gw.ver _ v2 hv).1.grp⟩,rfl⟩
  ·rw [if_neg (by omega)]
   exact gw.ver j v3 hv3
 ·rcases mem_set hv3 with hv3 | rfl
  ·exact st.ty.okv v3 hv3
  ·exact st.ty.okv v2 (List.mem_of_getElem? hv)
 ·rcases mem_set hv3 with hv3 | rfl
  ·have:=st.cal.ends v3 hv3 g2 hg e2 he;omega
  ·have:=st.cal.ends v2 (List.mem_of_getElem? hv) g2 hg e2 he;omega
end
end Go.Wor
namespace Go.Wor
open Go.Ab Go.Proofs Go.Hy Go.Gat Go.Nam Go.Hos Go.Con Go.Sna
structure zox (w:Wor) (m:Mac) (v:Ver) (g:Gr) (e:En):Prop where
 pc:0<=m.pc∧m.pc<=2
 ver:1<=m.pc->m.version≠w.current∧∀ r ∈ w.zt,r.version≠m.version
 ep:m.pc=2->0<=m.zu∧m.zu<=w.zu
def muS (_:Wor) (m:Mac):Nat:=(3 - m.pc).toNat
section
variable {N K:Nat} {w:Wor} {m:Mac} {v:Ver} {g:Gr} {e:En}
def zow (_:Wor) (m:Mac) (_:Ver) (_:Gr) (_:En):Prop:=m.pc=0
def zou (_:Wor) (m:Mac) (_:Ver) (_:Gr) (_:En):Prop:=m.pc=9
structure zoy (w:Wor) (m:Mac) (v:Ver) (g:Gr) (e:En):Prop where
 pc:m.pc=0
 k:m.k < 6
 i:m.i < w.counts.length
def muT (w:Wor) (m:Mac):Nat:=((w.counts.length - m.i) * 6 - m.k).toNat
end
end Go.Wor
namespace Go.Wor
open Go.Ab Go.Proofs Go.Hy Go.Gat Go.Nam Go.Hos Go.Con Go.Sna
structure zov (w:Wor) (m:Mac) (v:Ver) (g:Gr) (e:En):Prop where
 pc:(0<=m.pc∧m.pc<=6)∨(8<=m.pc∧m.pc<=10)
 pin:m.pc=2->m.i < w.pins.length
 li4:m.pc=4->m.i<=w.zt.length
 lim:m.pc=5∨m.pc=6->∃ r,w.zt[m.i.toNat]?= some r∧r.version=m.version∧r.gone=false
 act:m.pc=5->m.k < (zn1 v).length
 lis:m.pc=9∨m.pc=10->∃ l,w.ze[m.i.toNat]?= some l∧l.drain=true
def muC (w:Wor) (m:Mac):Nat:=(
 if m.pc=0 then 20 * (w.zt.length:Int)+4 * w.ze.length+w.pins.length+20
 else if m.pc=1 then 20 * (w.zt.length:Int)+4 * w.ze.length+w.pins.length+19
 else if m.pc=2 then 20 * (w.zt.length:Int)+4 * w.ze.length+10+(w.pins.length - m.i)
 else if m.pc=3 then 20 * (w.zt.length:Int)+4 * w.ze.length+10
 else if m.pc=4 then (w.zt.length - m.i) * 20+4 * w.ze.length+5
 else if m.pc=5 then (w.zt.length - m.i) * 20+4 * w.ze.length+5 - 1 - m.k
 else if m.pc=6 then (w.zt.length - m.i) * 20+4 * w.ze.length+5 - 18
 else if m.pc=8 then (w.ze.length - m.i) * 4
 else if m.pc=9 then (w.ze.length - m.i) * 4 - 1
 else (w.ze.length - m.i) * 4 - 2:Int).toNat
section
variable {N K:Nat} {w:Wor} {m:Mac} {v:Ver} {g:Gr} {e:En}
end
end Go.Wor
namespace Go.Wor
open Go.Ab Go.Proofs Go.Gat Go.Nam Go.Hos Go.Con Go.Sna Go.Pla
open Go.Hy hiding encI
def znT (w:Wor) (m:Mac) (v:Ver) (g:Gr) (e:En):Prop:=(m.op.kind=1∧jU w m v g e)∨(m.op.kind=2∧zou w m v g e)∨(m.op.kind=3∧zox w m v g e)∨(m.op.kind=4∧zow w m v g e)∨(m.op.kind=5∧zov w m v g e)∨(m.op.kind=6∧zoy w m v g e)
def znR (m:Mac):Prop:=1<=m.answer.kind∧m.answer.kind<=13∧(m.op.kind=1↔m.answer.kind<=5)
def muA (w:Wor) (m:Mac):Nat:=if m.op.kind=1 then muH w m else if m.op.kind=3 then muS w m else if m.op.kind=5 then muC w m else if m.op.kind=6 then muT w m else 0
section
variable {N K:Nat} {w:Wor} {m:Mac} {v:Ver} {g:Gr} {e:En}
theorem Nx.up {k:Int} {L:Wor->Mac->Ver->Gr->En->Prop} {F:Mac->Prop} {μ:Wor->Mac->Nat} {r:Wor × Mac × Eve} (h:Nx N K w m L F μ r) (hk:m.op.kind=k) (hL:∀ w' m' v g e,m'.op.kind=k->L w' m' v g e->znT w' m' v g e) (hF:∀ m',m'.op.kind=k->F m'->znR m') (hμ:∀ w' m',m'.op.kind=k->muA w' m'=μ w' m'):Nx N K w m znT znR muA r:=by
 have hk':r.2.1.op.kind=k:=by rw [h.op];exact hk
 refine ⟨h.ev,h.st,h.pins,h.tm,h.op,?_⟩
 rcases h.go with ⟨h1,h2⟩ | ⟨⟨v',g',e',h1,h2⟩,h3⟩
 ·exact .inl ⟨h1,hF _ hk' h2⟩
 ·exact .inr ⟨⟨v',g',e',h1,hL _ _ _ _ _ hk' h2⟩,by rw [hμ _ _ hk',hμ _ _ hk];exact h3⟩
end
theorem zdY {w:Wor} {m:Mac} {v:Ver} {g:Gr} {e:En} (su:qP w m v g e):qc w m=true:=by
 unfold qc
 simp only [Bool.and_eq_true,Bool.not_eq_true',xL]
 refine ⟨⟨⟨⟨su.world,su.zo⟩,su.done⟩,su.version⟩,?_⟩
 rw [su.atv]
 simp only [Bool.and_eq_true,xL]
 refine ⟨su.zg,?_⟩
 rw [su.atg]
 simp only [Bool.and_eq_true,xL,decide_eq_true_eq]
 rw [su.ate]
 simp only [xL]
 exact ⟨⟨⟨su.end_,su.other⟩,su.slot⟩,⟨⟨by have:=su.listen;omega,su.i⟩,su.k⟩⟩
end Go.Wor
