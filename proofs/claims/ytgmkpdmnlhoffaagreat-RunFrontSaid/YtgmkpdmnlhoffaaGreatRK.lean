import Derived.Test.YtgmkpdmnlhoffaaGreatRS
import Derived.Test.YtgmkpdmnlhoffaaGreatRI
set_option linter.all false
set_option maxRecDepth 100000
set_option maxHeartbeats 4000000
namespace Go.Slp
open Go.Ab Go.Hy
theorem zcl {x i:Int} (h1: -1<=i) (h2:i<=2147483646):qP x i % 4294967296 - 1=i:=by unfold qP;omega
theorem zoo {x i:Int} (h1: -1<=i) (h2:i<=2147483646):qP x i / 4294967296=(x / 4294967296+1) % 4294967296:=by unfold qP;omega
theorem zf8 {x i:Int} (h1: -1<=i) (h2:i<=2147483646):u64 (qP x i):=by unfold qP u64;omega
theorem zbB (nx:List Int) (i0:Int):∀ k,jF nx (nxt nx i0) k=jF nx i0 (k+1)
 | 0=>rfl
 | k+1=>by
  show nxt nx (jF nx (nxt nx i0) k)=nxt nx (jF nx i0 (k+1));rw [zbB nx i0 k]
theorem zhX (nx:List Int) (i0:Int) (k:Nat):jR nx i0 (k+1)=i0::jR nx (nxt nx i0) k:=by
 unfold jR;rw [List.range_succ_eq_map,List.map_cons,List.map_map]
 congr 1
 apply List.map_congr_left
 intro j _;exact (zbB nx i0 j).symm
theorem zb8 {nx:List Int} {i0:Int} (h:okV nx i0=true) (h0:¬i0 < 0):jK nx (nxt nx i0)+1=jK nx i0∧okV nx (nxt nx i0)=true∧jR nx i0 (jK nx i0)=i0::jR nx (nxt nx i0) (jK nx (nxt nx i0)):=by
 have hp:=zmT h h0;obtain ⟨N,hN⟩:∃ N,jK nx i0=N+1:=⟨jK nx i0 - 1,by omega⟩;obtain ⟨c1,c2,c3⟩:=yo nx i0
 have hend:jF nx (nxt nx i0) N= -1:=by
  rw [zbB,<- hN];simpa [okV] using h
 have e:jK nx (nxt nx i0)=N:=by
  refine zfx ?_ ?_
  ·have:inB nx (jF nx (nxt nx i0) N)=false:=by rw [hend];simp [inB]
   simp [xX,this]
  ·intro j hj;have:=c3 (j+1) (by omega);simp only [xX,Bool.or_eq_false_iff,Bool.not_eq_false'] at this ⊢;rw [zbB];refine ⟨this.1,?_⟩;have h2:=this.2;rw [zhX] at h2;simp only [List.contains_cons,Bool.or_eq_false_iff] at h2;exact h2.2
 refine ⟨by rw [e,hN],by simp [okV,e,hend],?_⟩;rw [hN,e,zhX]
theorem zab {e:En} (h:okV e.next (zC e)=true):qt e=(jR e.next (zC e) (jK e.next (zC e)),0):=by
 unfold qt;rw [if_pos h]
theorem zr7 {e:En} (he:e.ok) {a:En} {i:Int} (h:zr6 e=(a,i,0)):
  isV e=true∧¬zC e < 0∧i=zC e∧a=⟨qP e.head (nxt e.next (zC e)),e.next,e.zg⟩∧zC a=nxt e.next (zC e)∧isV a=true∧a.ok∧(qt a).2=0∧(qt e)=(i::(qt a).1,0):=by
 unfold zr6 at h;cases hv:isV e with
 | false=>rw [if_pos hv] at h;simp at h
 | true=>
  rw [if_neg (by simp [hv])] at h;by_cases h0:zC e < 0
  ·rw [if_pos h0] at h;simp at h
  ·rw [if_neg h0] at h;cases h
   obtain ⟨g1,g2,g3,g4⟩:=zm2 hv h0;obtain ⟨b1,b2,b3,b4⟩:=zaY hv;have hh:zC ⟨qP e.head (nxt e.next (zC e)),e.next,e.zg⟩=nxt e.next (zC e):=zcl g3 (by omega);obtain ⟨t1,t2,t3⟩:=zb8 b1 h0;have hok:okV (⟨qP e.head (nxt e.next (zC e)),e.next,e.zg⟩:En).next (zC ⟨qP e.head (nxt e.next (zC e)),e.next,e.zg⟩)=true:=by rw [hh];exact t2
   refine ⟨rfl,h0,rfl,rfl,hh,?_,⟨zf8 g3 (by omega),he.2⟩,?_,?_⟩
   ·simp only [isV,hok,Bool.true_and,Bool.and_eq_true,decide_eq_true_eq];exact ⟨⟨b2,b3⟩,b4⟩
   ·rw [zab hok]
   ·rw [zab b1,zab hok,hh,t3]
theorem zgb {nx:List Int} {s p v:Int} (h:p≠s) (h1:0<=s) (h2:0<=p):nxt (nx.set s.toNat v) p=nxt nx p:=by
 unfold nxt;rw [List.getElem?_set,if_neg (by omega)]
theorem zlZ {nx:List Int} {s v:Int} (h1:0<=s) (h2:s < nx.length):nxt (nx.set s.toNat v) s=v:=by
 unfold nxt;rw [List.getElem?_set,if_pos rfl,if_pos (by omega)]
 rfl
theorem zqv {e:En} (he:e.ok) {slot:Int} {a:En} (h:zne e slot=(a,0)):
  isV e=true∧0<=slot∧slot < e.next.length∧a=⟨qP e.head slot,e.next.set slot.toNat (zC e),e.zg⟩∧zC a=slot∧isV a=true∧a.ok∧(qt e).2=0∧qt a=(slot::(qt e).1,0):=by
 unfold zne at h;cases hv:isV e with
 | false=>rw [if_pos hv] at h;simp at h
 | true=>
  rw [if_neg (by simp [hv])] at h;by_cases h0:slot < 0∨e.next.length<=slot
  ·rw [if_pos h0] at h;simp at h
  ·rw [if_neg h0] at h;cases hc:(qt e).1.contains slot with
   | true=>rw [if_pos hc] at h;simp at h
   | false=>
    rw [if_neg (by rw [hc];decide)] at h;cases h
    obtain ⟨b1,b2,b3,b4⟩:=zaY hv;have s1:0<=slot:=by omega
    have s2:slot < e.next.length:=by omega
    have hh:zC ⟨qP e.head slot,e.next.set slot.toNat (zC e),e.zg⟩=slot:=zcl (by omega) (by omega);obtain ⟨c1,c2,c3⟩:=yo e.next (zC e);generalize hN:jK e.next (zC e)=N at *;have hfr:qt e=(jR e.next (zC e) N,0):=by rw [zab b1,hN]
    rw [hfr] at hc
    have hnot:∀ k,k < N->jF e.next (zC e) k≠slot∧0<=jF e.next (zC e) k:=fun k hk=>by
     constructor
     ·intro e2;have:slot ∈ jR e.next (zC e) N:=List.mem_map.2 ⟨k,List.mem_range.2 hk,e2⟩;simp [this] at hc
     ·have:=c3 k hk;simp only [xX,Bool.or_eq_false_iff,Bool.not_eq_false',inB,Bool.and_eq_true,decide_eq_true_eq] at this;exact this.1.1
    have hpos:∀ k,k<=N->jF (e.next.set slot.toNat (zC e)) slot (k+1)=jF e.next (zC e) k:=by
     intro k
     induction k with
     | zero=>intro _;exact zlZ s1 s2
     | succ k ih=>
      intro hk;show nxt _ (jF (e.next.set slot.toNat (zC e)) slot (k+1))=nxt e.next (jF e.next (zC e) k);rw [ih (by omega)];exact zgb (hnot k (by omega)).1 s1 (hnot k (by omega)).2
    have hvis:∀ k,k<=N->jR (e.next.set slot.toNat (zC e)) slot (k+1)=slot::jR e.next (zC e) k:=fun k hk=>by
     unfold jR;rw [List.range_succ_eq_map,List.map_cons,List.map_map]
     congr 1
     apply List.map_congr_left
     intro j hj;exact hpos j (by have:=List.mem_range.1 hj;omega)
    have hin:∀ p,inB (e.next.set slot.toNat (zC e)) p=inB e.next p:=fun p=>by simp [inB]
    have hend:jF e.next (zC e) N= -1:=by
     have:okV e.next (zC e)=true:=b1;simp only [okV,hN,beq_iff_eq] at this;exact this
    have hcnt:jK (e.next.set slot.toNat (zC e)) slot=N+1:=by
     refine zfx ?_ ?_
     ·have:inB (e.next.set slot.toNat (zC e)) (jF (e.next.set slot.toNat (zC e)) slot (N+1))=false:=by rw [hpos N (Nat.le_refl _),hend,hin];simp [inB]
      simp [xX,this]
     ·intro j hj;cases j with
      | zero=>
       simp only [xX,jR,jF,hin];simp [inB,s1,s2]
      | succ j=>
       have:=c3 j (by omega);simp only [xX,Bool.or_eq_false_iff,Bool.not_eq_false'] at this ⊢;rw [hpos j (by omega),hvis j (by omega),hin];refine ⟨this.1,?_⟩;rw [List.contains_cons,this.2];simp;exact (hnot j (by omega)).1
    have hok:okV (e.next.set slot.toNat (zC e)) slot=true:=by
     simp only [okV,hcnt,hpos N (Nat.le_refl _),hend]
     rfl
    have hfa:qt ⟨qP e.head slot,e.next.set slot.toNat (zC e),e.zg⟩=(slot::jR e.next (zC e) N,0):=by
     rw [zab (by rw [hh];exact hok),hh];show (jR (e.next.set slot.toNat (zC e)) slot (jK (e.next.set slot.toNat (zC e)) slot),(0:Int))=_;rw [hcnt,hvis N (Nat.le_refl _)]
    refine ⟨rfl,s1,s2,rfl,hh,?_,⟨zf8 (by omega) (by omega),⟨fun x hx=>?_,by simp;exact he.2.1.2⟩,he.2.2⟩,by rw [hfr],by rw [hfa,hfr]⟩
    ·simp only [isV,hh,hok,Bool.true_and,Bool.and_eq_true,decide_eq_true_eq];exact ⟨⟨by simp;omega,by simp;omega⟩,b4⟩
    ·rcases List.mem_or_eq_of_mem_set hx with h | h
     ·exact he.2.1.1 x h
     ·have:=zpV e;rw [h];exact ⟨by omega,by omega⟩
theorem zo2 (nx:List Int) (i0:Int):(jR nx i0 (jK nx i0)).Nodup:=(zdt (yo nx i0).2.2).1
end Go.Slp
namespace Go.Wor
open Go.Ab Go.Proofs Go.Hy Go.Gat Go.Nam Go.Hos Go.Con Go.Sna
theorem mem_set {α:Type} {l:List α} {i:Nat} {x y:α} (h:y ∈ l.set i x):y ∈ l∨y=x:=List.mem_or_eq_of_mem_set h
theorem yj {α:Type} {l:List α} {i j:Nat} {x y:α} (h:(l.set i x)[j]?= some y):(i=j∧y=x∧i < l.length)∨(i≠j∧l[j]?= some y):=by
 rw [List.getElem?_set] at h;split at h
 ·rename_i hij;split at h
  ·rename_i hlt;cases h;exact .inl ⟨hij,rfl,hlt⟩
  ·cases h
 ·rename_i hij;exact .inr ⟨hij,h⟩
theorem jH.pin {w:Wor} (h:jH w) (t:Nat) {p:Int} (h0:0<=p) (h1:p<=w.zn+1):jH (zgg w t p):=by
 have g:=qb.1 h.ground;refine ⟨qb.2 ⟨by simpa using g.pins,⟨by simpa using g.counts.1,g.counts.2⟩,g.zn,g.lock,fun q hq=>?_⟩,h.current,h.zt,h.bad,h.ver,h.lis⟩;rcases mem_set hq with hq | rfl
 ·exact g.pin q hq
 ·exact ⟨h0,h1⟩
theorem jH.count {w:Wor} (h:jH w) (t:Nat) {r:List Int} (h0:r.length=6):jH { w with counts:=w.counts.set t r }:=by
 have g:=qb.1 h.ground;refine ⟨qb.2 ⟨g.pins,⟨by simpa using g.counts.1,fun q hq=>?_⟩,g.zn,g.lock,g.pin⟩,h.current,h.zt,h.bad,h.ver,h.lis⟩;rcases mem_set hq with hq | rfl
 ·exact g.counts.2 q hq
 ·exact h0
theorem jH.lck {w:Wor} (h:jH w) {n:Int} (h0:n=0∨n=1):jH { w with lock:=n }:=by
 have g:=qb.1 h.ground;exact ⟨qb.2 ⟨g.pins,g.counts,g.zn,h0,g.pin⟩,h.current,h.zt,h.bad,h.ver,h.lis⟩
theorem jH.epo {w:Wor} (h:jH w) {n:Int} (h0:w.zn<=n) (h1:n<=1000000000000):jH { w with zn:=n }:=by
 have g:=qb.1 h.ground;refine ⟨qb.2 ⟨g.pins,g.counts,⟨by have:=g.zn.1;show 0<=n;omega,h1⟩,g.lock,fun p hp=>by have:=g.pin p hp;show _∧p<=n+1;omega⟩,h.current,h.zt,fun r hr=>?_,h.ver,h.lis⟩;have:=h.bad r hr;unfold yc at this ⊢;simp at this ⊢;exact ⟨⟨this.1.1,this.1.2⟩,by omega⟩
theorem zoE {l l':List Lis} (h:l.map (·.name)=l'.map (·.name)) (s:Str):z7 l s=z7 l' s:=by
 unfold z7
 have:l.findIdx? (fun r=>r.name == s)=l'.findIdx? (fun r=>r.name == s):=by
  have e:∀ l:List Lis,l.findIdx? (fun r=>r.name == s)=(l.map (·.name)).findIdx? (fun x=>x == s):=fun l=>by rw [List.findIdx?_map];rfl
  rw [e,e,h]
 rw [this]
theorem zom {l:List Lis} {i:Nat} {x y:Lis} (hx:l[i]?= some x) (h:y.name=x.name):(l.set i y).map (·.name)=l.map (·.name):=by
 rw [List.map_set];exact yg _ _ (by rw [List.getElem?_map,hx,Option.map_some,h])
theorem jH.zc6 {w:Wor} (h:jH w) {i:Nat} {x y:Lis} (hx:w.zd[i]?= some x) (hn:y.name=x.name) (hy:Go.Gat.isV y=true):jH { w with zd:=w.zd.set i y }:=by
 refine ⟨h.ground,h.current,h.zt,h.bad,h.ver,fun j l hl=>?_⟩;show _∧z7 (w.zd.set i y) l.name=j;rw [zoE (zom hx hn)];rcases yj hl with ⟨rfl,rfl,_⟩ | ⟨_,hl⟩
 ·rw [hn];exact ⟨hy,(h.lis i x hx).2⟩
 ·exact h.lis j l hl
theorem zaq.zbM {m:Mac} {v:Ver} {g:Gr} {e:En} (h:zaq v) (hg:v.zm[m.zf.toNat]?= some g) (he:g.ends[m.end_.toNat]?= some e) {e':En} {tk:Int} (hi:Slp.isV e'=true) (hl:e'.next.length=e.next.length):
  zaq { v with zm:=v.zm.set m.zf.toNat { g with zr:=tk,ends:=g.ends.set m.end_.toNat e' } }:=by
 refine ⟨h.snap,by simpa using h.len,fun i g2 x hg2 hx=>?_⟩;rcases yj hg2 with ⟨rfl,rfl,_⟩ | ⟨_,hg2⟩
 ·obtain ⟨h1,h2⟩:=h.grp _ g x hg hx;refine ⟨by simpa using h1,fun y hy=>?_⟩;rcases mem_set hy with hy | rfl
  ·exact h2 y hy
  ·exact ⟨hi,by rw [hl];exact (h2 e (List.mem_of_getElem? he)).len⟩
 ·exact h.grp i g2 x hg2 hx
theorem jH.zbM {w:Wor} {m:Mac} {v:Ver} {g:Gr} {e:En} (h:jH w) (hat:AtE w m v g e) {e':En} {tk:Int} (hi:Slp.isV e'=true) (hl:e'.next.length=e.next.length):
  jH { w with ze:=w.ze.set m.version.toNat { v with zm:=v.zm.set m.zf.toNat { g with zr:=tk,ends:=g.ends.set m.end_.toNat e' } } }:=by
 refine ⟨h.ground,by simpa using h.current,h.zt,fun r hr=>?_,fun i v2 hv=>?_,h.lis⟩
 ·have:=h.bad r hr;unfold yc at this ⊢;simpa using this
 ·rcases yj hv with ⟨rfl,rfl,_⟩ | ⟨_,hv⟩
  ·obtain ⟨h1,h2⟩:=h.ver _ v hat.at_;exact ⟨h1.zbM hat.atg hat.ate hi hl,h2⟩
  ·exact h.ver i v2 hv
structure Cal (K:Nat) (w:Wor):Prop where
 lis:∀ l ∈ w.zd,l.zg<=K
 ends : ∀ v ∈ w.ze, ∀ g ∈ v.zm, ∀ e ∈ g.ends, e.zg <= K
structure St (N K:Nat) (w:Wor):Prop where
 jj:jH w
 ty:TyW N w
 cal:Cal K w
theorem St.mono {N K N' K':Nat} {w:Wor} (h:St N K w) (hN:N<=N') (hK:K<=K'):St N' K' w:=
 ⟨h.jj,⟨by have:=h.ty.zbm;omega,by have:=h.ty.lis;omega,by have:=h.ty.lim;omega,h.ty.okv,h.ty.okl⟩,⟨fun l hl=>by have:=h.cal.lis l hl;omega,fun v hv g hg e he=>by have:=h.cal.ends v hv g hg e he;omega⟩⟩
theorem St.pin {N K:Nat} {w:Wor} (h:St N K w) (t:Nat) {p:Int} (h0:0<=p) (h1:p<=w.zn+1):St N K (zgg w t p):=⟨h.jj.pin t h0 h1,⟨h.ty.zbm,h.ty.lis,h.ty.lim,h.ty.okv,h.ty.okl⟩,⟨h.cal.lis,h.cal.ends⟩⟩
theorem St.count {N K:Nat} {w:Wor} (h:St N K w) (t:Nat) {r:List Int} (h0:r.length=6):St N K { w with counts:=w.counts.set t r }:=⟨h.jj.count t h0,⟨h.ty.zbm,h.ty.lis,h.ty.lim,h.ty.okv,h.ty.okl⟩,⟨h.cal.lis,h.cal.ends⟩⟩
theorem St.lck {N K:Nat} {w:Wor} (h:St N K w) {n:Int} (h0:n=0∨n=1):St N K { w with lock:=n }:=⟨h.jj.lck h0,⟨h.ty.zbm,h.ty.lis,h.ty.lim,h.ty.okv,h.ty.okl⟩,⟨h.cal.lis,h.cal.ends⟩⟩
theorem St.epo {N K:Nat} {w:Wor} (h:St N K w) {n:Int} (h0:w.zn<=n) (h1:n<=1000000000000):St N K { w with zn:=n }:=⟨h.jj.epo h0 h1,⟨h.ty.zbm,h.ty.lis,h.ty.lim,h.ty.okv,h.ty.okl⟩,⟨h.cal.lis,h.cal.ends⟩⟩
theorem St.zc6 {N K:Nat} {w:Wor} (h:St N K w) {i:Nat} {x y:Lis} (hx:w.zd[i]?= some x) (hn:y.name=x.name) (hy:Go.Gat.isV y=true) (hi:i64 y.zg) (hk:y.zg<=K):St N K { w with zd:=w.zd.set i y }:=by
 refine ⟨h.jj.zc6 hx hn hy,⟨h.ty.zbm,by simpa using h.ty.lis,h.ty.lim,h.ty.okv,fun l hl=>?_⟩,⟨fun l hl=>?_,h.cal.ends⟩⟩
 ·rcases mem_set hl with hl | rfl
  ·exact h.ty.okl l hl
  ·exact ⟨by rw [hn];exact (h.ty.okl x (List.mem_of_getElem? hx)).1,hi⟩
 ·rcases mem_set hl with hl | rfl
  ·exact h.cal.lis l hl
  ·exact hk
theorem St.zbM {N K:Nat} {w:Wor} {m:Mac} {v:Ver} {g:Gr} {e:En} (h:St N K w) (hat:AtE w m v g e) {e':En} {tk:Int} (hi:Slp.isV e'=true) (hl:e'.next.length=e.next.length) (ho:e'.ok) (ht:u64 tk) (hk:e'.zg<=K):
  St N K { w with ze:=w.ze.set m.version.toNat { v with zm:=v.zm.set m.zf.toNat { g with zr:=tk,ends:=g.ends.set m.end_.toNat e' } } }:=by
 have mv:=List.mem_of_getElem? hat.at_;have mg:=List.mem_of_getElem? hat.atg;refine ⟨h.jj.zbM hat hi hl,⟨by simpa using h.ty.zbm,h.ty.lis,h.ty.lim,fun v2 hv=>?_,h.ty.okl⟩,⟨h.cal.lis,fun v2 hv g2 hg e2 he=>?_⟩⟩
 ·rcases mem_set hv with hv | rfl
  ·exact h.ty.okv v2 hv
  ·refine ⟨(h.ty.okv v mv).1,fun g2 hg=>?_⟩;rcases mem_set hg with hg | rfl
   ·exact (h.ty.okv v mv).2 g2 hg
   ·refine ⟨ht,fun e2 he=>?_⟩;rcases mem_set he with he | rfl
    ·exact ((h.ty.okv v mv).2 g mg).2 e2 he
    ·exact ho
 ·rcases mem_set hv with hv | rfl
  ·exact h.cal.ends v2 hv g2 hg e2 he
  ·rcases mem_set hg with hg | rfl
   ·exact h.cal.ends v mv g2 hg e2 he
   ·rcases mem_set he with he | rfl
    ·exact h.cal.ends v mv g mg e2 he
    ·exact hk
theorem zfT (h:List Bool):∀ k x,x ∈ zaE h k->0<=x∧x < k∧x < h.length
 | 0,x,hx=>by cases hx
 | k+1,x,hx=>by
  simp only [zaE] at hx;split at hx
  ·rename_i hk;rcases List.mem_append.1 hx with hx | hx
   ·have:=zfT h k x hx;omega
   ·rw [List.mem_singleton.1 hx];have:=(List.getElem?_eq_some_iff.1 hk).1;omega
  ·have:=zfT h k x hx;omega
theorem zlv {c:Clu} {n:Int} (h:(hlt c).length≠0):0<=((hlt c)[(n % (hlt c).length).toNat]?).getD 0∧((hlt c)[(n % (hlt c).length).toNat]?).getD 0 < c.zR.length:=by
 have h1:0<=n % (hlt c).length:=Int.emod_nonneg _ (by omega);have h2:n % (hlt c).length < (hlt c).length:=Int.emod_lt_of_pos _ (by omega);have h3:(n % (hlt c).length).toNat < (hlt c).length:=by omega
 rw [List.getElem?_eq_getElem h3,Option.getD_some];have:=zfT c.zR c.zR.length _ (List.getElem_mem h3);omega
theorem zqV (n:Int):u64 (IntKind.u64.wrap n):=by
 have h:IntKind.u64.wrap n=n % 18446744073709551616:=rfl;rw [h];unfold u64;omega
structure Nx (N K:Nat) (w:Wor) (m:Mac) (L:Wor->Mac->Ver->Gr->En->Prop) (F:Mac->Prop) (μ:Wor->Mac->Nat) (r:Wor × Mac × Eve):Prop where
 ev:r.2.2.access≠0
 st:St (N+1) (K+1) r.1
 pins:r.1.pins.length=w.pins.length
 tm:TyM r.2.1
 op:r.2.1.op=m.op
 go:(r.2.1.done=true∧F r.2.1)∨(∃ v g e,qC r.1 r.2.1 v g e∧L r.1 r.2.1 v g e)∧μ r.1 r.2.1 < μ w m
structure zo9 (w:Wor) (m:Mac) (v:Ver) (g:Gr) (e:En):Prop where
 pc:(0<=m.pc∧m.pc<=12)∨(20<=m.pc∧m.pc<=23)
 ep:m.pc=1∨m.pc=2->m.zn=w.zn
 lis:(4<=m.pc∧m.pc<=12)∨m.pc=22->0<=m.listen
 early:4<=m.pc∧m.pc<=5->m.zf=0∧m.end_=0∧m.other=0
 mid:4<=m.pc∧m.pc<=8->m.slot=0
 draw:m.pc=6->∃ c,v.snap.zl[m.zf.toNat]?= some c∧(hlt c).length≠0
 slot:m.pc=10∨m.pc=11->m.slot=zC m.word∧e.head=m.word
 link:m.pc=11->e.next[m.slot.toNat]?= some m.link
 ans:20<=m.pc->1<=m.answer.kind∧m.answer.kind<=5
 in_:(5<=m.pc∧m.pc<=12)∨(20<=m.pc∧m.pc<=22)->0<=m.listen->∃ x,w.zd[m.listen.toNat]?= some x∧1<=x.zg
def ztD (m:Mac):Prop:=1<=m.answer.kind∧m.answer.kind<=5
def muH (_:Wor) (m:Mac):Nat:=(24 - m.pc).toNat
theorem zf6 {w w':Wor} {m m':Mac} (h:m.pc < m'.pc) (h2:m'.pc<=23):muH w' m' < muH w m:=by unfold muH;omega
theorem za6 (l:List Lis) (s:Str): -1<=z7 l s∧z7 l s < l.length:=by
 unfold z7;cases h:l.findIdx? (fun r=>r.name == s) with
 | none=>simp only;omega
 | some i=>
  have:=(List.findIdx?_eq_some_iff_getElem.1 h).1;simp only;omega
theorem vu {v:Ver} (h:zaq v) {k:Nat} (hk:k < v.zm.length):∃ g e,v.zm[k]?= some g∧g.ends[0]?= some e∧0 < g.ends.length∧0 < e.next.length:=by
 obtain ⟨g,hg⟩:∃ g,v.zm[k]?= some g:=⟨_,List.getElem?_eq_getElem hk⟩;have f:=h.few.2 g (List.mem_of_getElem? hg);have hl:0 < g.ends.length:=by omega
 have he:g.ends[0]?= some g.ends[0]:=List.getElem?_eq_getElem hl;exact ⟨g,g.ends[0],hg,he,hl,by have:=(f.2.2 _ (List.mem_of_getElem? he)).2.2;omega⟩
section
variable {N K:Nat} {w:Wor} {m:Mac} {v:Ver} {g:Gr} {e:En}
theorem kM (su:qC w m v g e) {e':En} {tk:Int} (hl:e'.next.length=e.next.length) (gw:jH { w with ze:=w.ze.set m.version.toNat { v with zm:=v.zm.set m.zf.toNat { g with zr:=tk,ends:=g.ends.set m.end_.toNat e' } } }) {m':Mac}
  (h1:m'.zj=m.zj) (h2:m'.done=false) (h3:m'.version=m.version) (h4:m'.zf=m.zf) (h5:m'.end_=m.end_) (h6:m'.other=m.other) (h7:m'.slot=m.slot) (h8:m'.listen=m.listen) (h9:m'.i=m.i) (h10:m'.k=m.k):
  qC { w with ze:=w.ze.set m.version.toNat { v with zm:=v.zm.set m.zf.toNat { g with zr:=tk,ends:=g.ends.set m.end_.toNat e' } } } m'
   { v with zm:=v.zm.set m.zf.toNat { g with zr:=tk,ends:=g.ends.set m.end_.toNat e' } } { g with zr:=tk,ends:=g.ends.set m.end_.toNat e' } e':=by
 have s1:=(List.getElem?_eq_some_iff.1 su.atv).1;have s2:=(List.getElem?_eq_some_iff.1 su.atg).1;have s3:=(List.getElem?_eq_some_iff.1 su.ate).1;refine ⟨qe.2 gw,by rw [h1];exact su.zj,h2,?_,?_,?_,?_,?_,?_,?_,?_,?_,by rw [h9];exact su.i,by rw [h10];exact su.k⟩
 ·rw [h3];simpa using su.version
 ·rw [h3];exact List.getElem?_set_self s1
 ·rw [h4];simpa using su.zf
 ·rw [h4];exact List.getElem?_set_self s2
 ·rw [h5];simpa using su.end_
 ·rw [h5];exact List.getElem?_set_self s3
 ·rw [h6];simpa using su.other
 ·rw [h7,hl];exact su.slot
 ·rw [h8];exact su.listen
theorem zL {r:Wor × Mac × Eve} {P:Wor × Mac × Eve->Prop} {o:Res} (h:o=some r) (hp:P r):∃ r,o=some r∧P r:=⟨r,h,hp⟩
theorem zud (st:St N K w) (su:qC w m v g e) (tm:TyM m) (lo:zo9 w m v g e) (h3:m.pc < 3):∃ r,qi w m v g e=some r∧Nx N K w m zo9 ztD muH r:=by
 have gw:=st.jj;have ge:=qb.1 gw.ground;have hep:=ge.zn;have st1:St (N+1) (K+1) w:=st.mono (by omega) (by omega);have lp:=lo.pc;unfold qi;rw [if_pos h3];unfold zqq;rcases (by omega:m.pc=0∨m.pc=1∨m.pc=2) with p | p | p
 ·rw [if_pos p]
  refine zL rfl ⟨uW,st1,rfl,uO,rfl,.inr ⟨⟨v,g,e,uQ,
   ⟨uL,fun _=>rfl,uK,uK,uK,uK,uK,uK,uK,uK⟩⟩,zf6 (by show m.pc < 1;omega) (by show (1:Int)<=23;decide)⟩⟩
 ·have he:=lo.ep (.inl p);have hw:IntKind.i64.wrap (m.zn+1)=w.zn+1:=by rw [he];exact q0 (by omega) (by omega)
  rw [if_neg (by omega),if_pos p,hw];have sp:=st1.pin m.zj.toNat (p:=w.zn+1) (by omega) (by omega)
  refine zL rfl ⟨tI,sp,by simp,uO,rfl,.inr ⟨⟨v,g,e,⟨qe.2 sp.jj,by simpa using su.zj,su.done,su.version,su.atv,su.zf,su.atg,su.end_,su.ate,su.other,su.slot,su.listen,su.i,su.k⟩,
   ⟨uL,fun _=>he,uK,uK,uK,uK,uK,uK,uK,uK⟩⟩,zf6 (by show m.pc < 2;omega) (by show (2:Int)<=23;decide)⟩⟩
 ·have he:=lo.ep (.inr p);rw [if_neg (by omega),if_neg (by omega),if_pos p,if_pos he.symm]
  refine zL rfl ⟨uW,st1,rfl,uO,rfl,.inr ⟨⟨v,g,e,uQ,
   ⟨uL,uK,uK,uK,uK,uK,uK,uK,uK,uK⟩⟩,zf6 (by show m.pc < 3;omega) (by show (3:Int)<=23;decide)⟩⟩
end
theorem zm3 {e:En} (h:Slp.isV e=true) (n:Int) (h0:0<=n):Slp.isV (qp e e.head n)=true:=by
 obtain ⟨h1,h2,h3,h4⟩:=Slp.zaY h;unfold Slp.isV;simp only [Bool.and_eq_true,decide_eq_true_eq];exact ⟨⟨⟨h1,h2⟩,h3⟩,h0⟩
theorem zfd {l:Lis} (h:Go.Gat.isV l=true):xm l.name=true∧0<=l.zg∧(l.drain || !l.closed)=true:=by
 unfold Go.Gat.isV at h;simp only [Bool.and_eq_true,decide_eq_true_eq] at h;exact ⟨h.1.1,h.1.2,h.2⟩
theorem zc5 {l:Lis} (h1:xm l.name=true) (h2:0<=l.zg) (h3:(l.drain || !l.closed)=true):Go.Gat.isV l=true:=by
 unfold Go.Gat.isV;simp only [Bool.and_eq_true,decide_eq_true_eq];exact ⟨⟨h1,h2⟩,h3⟩
section
variable {N K:Nat} {w:Wor} {m:Mac} {v:Ver} {g:Gr} {e:En}
theorem zul (st:St N K w) (su:qC w m v g e) (tm:TyM m) (lo:zo9 w m v g e) (hk:m.op.kind=1) (hN:N<=100000000) (p:m.pc=3):∃ r,qi w m v g e=some r∧Nx N K w m zo9 ztD muH r:=by
 have gw:=st.jj;have st1:St (N+1) (K+1) w:=st.mono (by omega) (by omega);have pr:=za6 w.zd m.op.listen;have hl:=st.ty.lis;have cu:=gw.current;obtain ⟨v',hv'⟩:∃ v',w.ze[w.current.toNat]?= some v':=⟨_,List.getElem?_eq_getElem (by omega)⟩;have gv:=(gw.ver _ v' hv').1;have h0:0 < v'.zm.length:=by have:=(jk gv.snap).zl.1;have:=gv.len;omega
 obtain ⟨g',e',hg,he,l1,l2⟩:=vu gv h0;unfold qi;rw [if_neg (by omega),if_pos p];by_cases q:z7 w.zd m.op.listen < 0
 ·rw [if_pos q];refine zL rfl ⟨uW,st1,rfl,⟨by show i64 (z7 w.zd m.op.listen);unfold i64;omega,tm.word,tm.link,tm.host,tm.path,tm.d0,tm.d1,tm.cfg,(fun h=>absurd ((show m.op.kind=6 from h).symm.trans hk) (by decide))⟩,rfl,.inr ⟨⟨v',g',e',⟨su.world,su.zj,su.done,cu,hv',⟨Int.le_refl _,by show (0:Int) < _;omega⟩,hg,⟨Int.le_refl _,by show (0:Int) < _;omega⟩,he,⟨Int.le_refl _,by show (0:Int) < _;omega⟩,⟨Int.le_refl _,by show (0:Int) < _;omega⟩,pr,su.i,su.k⟩,⟨uL,uK,uK,uK,uK,uK,uK,uK,fun _=>⟨by show (1:Int)<=2;decide,by show (2:Int)<=5;decide⟩,(fun _ h=>absurd (show 0<=z7 w.zd m.op.listen from h) (by omega))⟩⟩,zf6 (by show m.pc < 20;omega) (by show (20:Int)<=23;decide)⟩⟩
 ·rw [if_neg q]
  refine zL rfl ⟨uW,st1,rfl,⟨by show i64 (z7 w.zd m.op.listen);unfold i64;omega,tm.word,tm.link,tm.host,tm.path,tm.d0,tm.d1,tm.cfg,tm.ans⟩,rfl,.inr ⟨⟨v',g',e',⟨su.world,su.zj,su.done,cu,hv',⟨Int.le_refl _,by show (0:Int) < _;omega⟩,hg,⟨Int.le_refl _,by show (0:Int) < _;omega⟩,he,⟨Int.le_refl _,by show (0:Int) < _;omega⟩,⟨Int.le_refl _,by show (0:Int) < _;omega⟩,pr,su.i,su.k⟩,
   ⟨uL,uK,fun _=>by show 0<=z7 w.zd m.op.listen;omega,fun _=>⟨rfl,rfl,rfl⟩,fun _=>rfl,uK,uK,uK,uK,uK⟩⟩,zf6 (by show m.pc < 4;omega) (by show (4:Int)<=23;decide)⟩⟩
theorem ziK (st:St N K w) (su:qC w m v g e) {x:Lis} (hx:w.zd[m.listen.toNat]?= some x) (n:Int) (h0:0<=n) (h1:n<=K+1) (hK:K<=1099511627776):St (N+1) (K+1) { w with zd:=w.zd.set m.listen.toNat { x with zg:=n } }:=by
 have li:=zfd (st.jj.lis _ x hx).1;exact (st.mono (by omega) (by omega):St (N+1) (K+1) w).zc6 hx rfl (zc5 li.1 h0 li.2.2) (by show i64 n;unfold i64;omega) (by show n<=_;omega)
end
section
variable {N K:Nat} {w:Wor} {m:Mac} {v:Ver} {g:Gr} {e:En}
theorem y7 (st:St N K w) (su:qC w m v g e):Slp.isV e=true∧e.next.length<=4∧1<=e.next.length∧0<=e.zg∧e.zg<=K∧e.ok∧u64 g.zr:=by
 have mv:=List.mem_of_getElem? su.atv;have mg:=List.mem_of_getElem? su.atg;have me:=List.mem_of_getElem? su.ate;have f:=((st.jj.ver _ v su.atv).1.few.2 g mg).2.2 e me;exact ⟨f.1,f.2.1,f.2.2,(Slp.zaY f.1).2.2.2,st.cal.ends v mv g mg e me,((st.ty.okv v mv).2 g mg).2 e me,((st.ty.okv v mv).2 g mg).1⟩
theorem zfC (st:St N K w) (su:qC w m v g e) {k pc:Int} (h0:0<=k) (h5:k<=5):∃ r2:List Int,r2.length=6∧zdI w m k pc=some ({ w with counts:=w.counts.set m.zj.toNat r2 },{ m with pc:=pc },evO m 3 10 k):=by
 obtain ⟨r0,hr,hl⟩:=zpy st.jj su.zj.1 su.zj.2;unfold zdI;rw [hr];dsimp only;rw [List.getElem?_eq_getElem (show k.toNat < r0.length by omega)];exact ⟨_,by simpa using hl,rfl⟩
end
def look (m:List (Int × Value)) (i:Int):Option Value:=(ja m i).bind fun j=>(m[j]?).map (·.2)
theorem zhn (m:List (Int × Value)) (i:Int):ja m i=(m.map (·.1)).findIdx? (fun k=>decide (k=i)):=by
 unfold ja;rw [List.findIdx?_map]
 rfl
theorem zp3 (m:List (Int × Value)) (k i:Int) (v:Value):look (ye m k v) i=if k=i then some v else look m i:=by
 unfold ye;cases hf:ja m k with
 | some j=>
  dsimp only;obtain ⟨u,hu⟩:=xB hf
  have keys:(m.set j (k,v)).map (·.1)=m.map (·.1):=by
   rw [List.map_set];exact yg _ _ (by rw [List.getElem?_map,hu];rfl)
  have e:ja (m.set j (k,v)) i=ja m i:=by rw [zhn,zhn,keys]
  unfold look;rw [e];have hlt:=(List.getElem?_eq_some_iff.1 hu).1;by_cases hki:k=i
  ·subst hki;rw [if_pos rfl,hf];simp [hlt]
  ·rw [if_neg hki];cases hi:ja m i with
   | none=>rfl
   | some j'=>
    obtain ⟨u',hu'⟩:=xB hi
    have hne:j≠j':=by
     rintro rfl;rw [hu] at hu';cases hu'
     exact hki rfl
    simp [List.getElem?_set,hne]
 | none=>
  dsimp only
  have e:ja (m++[(k,v)]) i=if k=i then some m.length else ja m i:=by
   unfold ja;rw [List.findIdx?_append];by_cases hki:k=i
   ·subst hki;have:m.findIdx? (fun kv=>decide (kv.1=k))=none:=hf;rw [this,if_pos rfl];simp
   ·rw [if_neg hki];cases m.findIdx? (fun kv=>decide (kv.1=i)) with
    | some j=>rfl
    | none=>simp [hki]
  unfold look;rw [e];by_cases hki:k=i
  ·rw [if_pos hki,if_pos hki];simp
  ·rw [if_neg hki,if_neg hki];cases hi:ja m i with
   | none=>rfl
   | some j'=>
    obtain ⟨u',hu'⟩:=xB hi;have:=(List.getElem?_eq_some_iff.1 hu').1;simp [List.getElem?_append_left this]
theorem zlr (l:List Ret) (i:Int):yZ l i=(match look (yq l) i with | some (.bool b)=>b | _=>false):=rfl
theorem zlq (l:List Ret) (r:Ret):yq (l++[r])=ye (yq l) r.version (Value.bool r.gone):=by
 unfold yq;rw [List.foldl_append]
 rfl
theorem zfO (l:List Ret) (r:Ret) (i:Int):yZ (l++[r]) i=if r.version=i then r.gone else yZ l i:=by
 rw [zlr,zlq,zp3];by_cases h:r.version=i
 ·rw [if_pos h,if_pos h]
 ·rw [if_neg h,if_neg h]
  rfl
theorem wC (l:List Ret) (i:Int) (hu:∀ (a b:Nat) (x y:Ret),l[a]?= some x->l[b]?= some y->x.version=y.version->a=b):yZ l i=true↔∃ r ∈ l,r.version=i∧r.gone=true:=by
 have key:∀ n,∀ l:List Ret,l.length=n->(∀ (a b:Nat) (x y:Ret),l[a]?= some x->l[b]?= some y->x.version=y.version->a=b)->(yZ l i=true↔∃ r ∈ l,r.version=i∧r.gone=true):=by
  intro n
  induction n with
  | zero=>
   intro l hl _;rw [List.length_eq_zero_iff.1 hl];constructor
   ·intro h;cases h
   ·rintro ⟨r,hr,_⟩;cases hr
  | succ n ih=>
   intro l hl hu;obtain ⟨l',r,rfl⟩:∃ l' r,l=l'++[r]:=⟨l.dropLast,l.getLast (by rintro rfl;cases hl),(List.dropLast_concat_getLast _).symm⟩;have hl':l'.length=n:=by simpa using hl
   have ih':=ih l' hl' fun a b x y ha hb=>hu a b x y (by rw [List.getElem?_append_left (List.getElem?_eq_some_iff.1 ha).1];exact ha) (by rw [List.getElem?_append_left (List.getElem?_eq_some_iff.1 hb).1];exact hb)
   have hlast:(l'++[r])[l'.length]?= some r:=by simp
   rw [zfO];by_cases h:r.version=i
   ·rw [if_pos h];constructor
    ·intro hg;exact ⟨r,by simp,h,hg⟩
    ·rintro ⟨x,hx,hv,hg⟩;obtain ⟨a,ha⟩:=List.mem_iff_getElem?.1 hx;have:=hu a _ x r ha hlast (by rw [hv,h]);subst this;rw [hlast] at ha;cases ha
     exact hg
   ·rw [if_neg h,ih'];constructor
    ·rintro ⟨x,hx,hv⟩;exact ⟨x,by simp [hx],hv⟩
    ·rintro ⟨x,hx,hv,hg⟩;rcases List.mem_append.1 hx with hx | hx
     ·exact ⟨x,hx,hv,hg⟩
     ·rw [List.mem_singleton.1 hx] at hv;exact absurd hv h
 exact key _ l rfl hu
theorem zfW {l:List Ret} (h:Go.Lim.isV l=true) {i:Nat} {x:Ret} (hx:l[i]?= some x):0<=x.version∧0<=x.at_∧∀ (j:Nat) (y:Ret),j < i->l[j]?= some y->y.version≠x.version:=by
 have h2:=of_decide_eq_true (show decide (∀ i,(h:i < l.length)->Go.Lim.okV l i l[i]=true)=true from h) i (List.getElem?_eq_some_iff.1 hx).1;rw [(List.getElem?_eq_some_iff.1 hx).2] at h2;unfold Go.Lim.okV Go.Lim.znZ at h2;simp only [Bool.and_eq_true,Bool.not_eq_true',decide_eq_false_iff_not,List.any_eq_false,beq_iff_eq] at h2;refine ⟨by omega,by omega,fun j y hj hy he=>h2.2 y ?_ he⟩;exact List.mem_iff_getElem?.2 ⟨j,by rw [List.getElem?_take,if_pos hj];exact hy⟩
theorem zm5 {l:List Ret}:Go.Lim.isV l=true↔∀ (i:Nat) (x:Ret),l[i]?= some x->0<=x.version∧0<=x.at_∧∀ (j:Nat) (y:Ret),j < i->l[j]?= some y->y.version≠x.version:=by
 constructor
 ·exact fun h i x hx=>zfW h hx
 ·intro h;refine decide_eq_true fun i hi=>?_
  obtain ⟨h1,h2,h3⟩:=h i l[i] (List.getElem?_eq_getElem hi);unfold Go.Lim.okV Go.Lim.znZ;simp only [Bool.and_eq_true,Bool.not_eq_true',decide_eq_false_iff_not,List.any_eq_false,beq_iff_eq];refine ⟨⟨by omega,by omega⟩,fun y hy he=>?_⟩;obtain ⟨j,hj⟩:=List.mem_iff_getElem?.1 hy;rw [List.getElem?_take] at hj;split at hj
  ·exact h3 j y (by assumption) hj he
  ·cases hj
theorem za0 {l:List Ret} (h:Go.Lim.isV l=true):∀ (a b:Nat) (x y:Ret),l[a]?= some x->l[b]?= some y->x.version=y.version->a=b:=fun a b x y ha hb he=>by
 rcases Nat.lt_trichotomy a b with hlt | rfl | hlt
 ·exact absurd he ((zfW h hb).2.2 a x hlt ha)
 ·rfl
 ·exact absurd he.symm ((zfW h ha).2.2 b y hlt hb)
theorem znN (n:Int):(Slp.vJ n).1.ok:=by
 unfold Slp.vJ;split
 ·exact ⟨by decide,⟨fun x hx=>(by cases hx),by decide⟩,by decide⟩
 ·refine ⟨(by decide:u64 1),⟨fun x hx=>?_,?_⟩,(by decide:i64 0)⟩
  ·obtain ⟨i,hi,rfl⟩:=List.mem_map.1 hx;have:=List.mem_range.1 hi;split
   ·decide
   ·exact ⟨by omega,by omega⟩
  ·simp;omega
theorem vw {x:Clu} (h:zmI x):Slp.isV (xj x)=true∧((xj x).next.length:Int)=x.xv∧(xj x).zg=0∧(xj x).ok:=by
 have hs:=h.xv;unfold xj;have:x.xv=1∨x.xv=2∨x.xv=3∨x.xv=4:=by omega
 rcases this with e | e | e | e <;> rw [e] <;> exact ⟨by decide,by decide,by decide,znN _⟩
theorem zfs {s:Sna} (h:yT s=true):zaq (qI s).1:=by
 unfold qI;rw [if_pos h];refine ⟨h,by simp,fun i g x hg hx=>?_⟩;simp only [List.getElem?_map] at hg;have hx:s.zl[i]?= some x:=hx;rw [hx] at hg;cases hg
 have gc:=(jk h).all x (List.mem_of_getElem? hx);have f:=vw gc;refine ⟨by unfold zaD;simp,fun e he=>?_⟩;unfold zaD at he;rw [List.eq_of_mem_replicate he];exact ⟨f.1,f.2.1⟩
section
variable {N K:Nat} {w:Wor} {m:Mac} {v:Ver} {g:Gr} {e:En}
theorem St.znd (st:St N K w) {c:Cfg} (hc:(qY c).1=0) (sc:xf c):St (N+1) (K+1) { w with current:=w.ze.length,ze:=w.ze++[yJ c] }:=by
 have gw:=st.jj;have hb:=zb7 hc;have gv:zaq (yJ c):=zfs hb;have hsw:yJ c=⟨(ji c).1,(ji c).1.zl.map zaD,false⟩:=by unfold yJ qI;rw [if_pos hb]
 have la:∀ r ∈ w.zt,0<=r.version∧r.version < w.ze.length:=fun r hr=>by
  obtain ⟨i,hi⟩:=List.mem_iff_getElem?.1 hr;have:=wH gw hi;omega
 refine ⟨⟨gw.ground,⟨Int.natCast_nonneg _,by show ((w.ze.length:Nat):Int) < ((w.ze++[yJ c]).length:Nat);simp only [List.length_append,List.length_singleton];omega⟩,gw.zt,fun r hr=>?_,fun i v2 hv=>?_,gw.lis⟩,⟨by have:=st.ty.zbm;simp;omega,by have:=st.ty.lis;show w.zd.length<=_;omega,by have:=st.ty.lim;show w.zt.length<=_;omega,fun v2 hv=>?_,st.ty.okl⟩,⟨fun l hl=>by have:=st.cal.lis l hl;omega,fun v2 hv g2 hg e2 he=>?_⟩⟩
 ·have h1:=la r hr;have h2:=gw.bad r hr;unfold yc at h2 ⊢;simp at h2 ⊢;omega
 ·have hv:(w.ze++[yJ c])[i]?= some v2:=hv;by_cases hi:i < w.ze.length
  ·rw [List.getElem?_append_left hi] at hv;exact gw.ver i v2 hv
  ·rw [List.getElem?_append_right (by omega)] at hv
   have:i - w.ze.length=0:=by
    have:=(List.getElem?_eq_some_iff.1 hv).1;simp at this;omega
   rw [this] at hv;cases hv
   refine ⟨gv,?_⟩;rw [hsw];show false=yZ w.zt i
   symm
   by_cases hg:yZ w.zt i=true
   ·obtain ⟨r,hr,he,_⟩:=(wC w.zt i (za0 gw.zt)).1 hg;have:=la r hr;omega
   ·simpa using hg
 ·rcases List.mem_append.1 hv with hv | hv
  ·exact st.ty.okv v2 hv
  ·rw [List.mem_singleton.1 hv,hsw];refine ⟨k9 sc,fun g2 hg=>?_⟩;obtain ⟨x,hx,rfl⟩:=List.mem_map.1 hg;have f:=vw ((jk hb).all x hx);refine ⟨(by decide:u64 0),fun e2 he=>?_⟩;unfold zaD at he;rw [List.eq_of_mem_replicate he];exact f.2.2.2
 ·rcases List.mem_append.1 hv with hv | hv
  ·have:=st.cal.ends v2 hv g2 hg e2 he;omega
  ·rw [List.mem_singleton.1 hv,hsw] at hg;obtain ⟨x,hx,rfl⟩:=List.mem_map.1 hg;have f:=vw ((jk hb).all x hx);unfold zaD at he;rw [List.eq_of_mem_replicate he,f.2.2.1];omega
theorem St.zqz (st:St N K w) {x:Ret} (h0:0<=x.version) (h1:x.version < w.ze.length) (h2:x.version≠w.current) (h3:0<=x.at_) (h4:x.at_<=w.zn) (hg:x.gone=false) (hn:∀ r ∈ w.zt,r.version≠x.version):St (N+1) (K+1) { w with zt:=w.zt++[x] }:=by
 have gw:=st.jj;refine ⟨⟨gw.ground,gw.current,?_,fun r hr=>?_,fun i v2 hv=>⟨(gw.ver i v2 hv).1,?_⟩,gw.lis⟩,⟨by have:=st.ty.zbm;show w.ze.length<=_;omega,by have:=st.ty.lis;show w.zd.length<=_;omega,by have:=st.ty.lim;simp;omega,st.ty.okv,st.ty.okl⟩,⟨fun l hl=>by have:=st.cal.lis l hl;omega,fun v2 hv g2 hg e2 he=>by have:=st.cal.ends v2 hv g2 hg e2 he;omega⟩⟩
 ·rw [zm5];intro i y hy;by_cases hi:i < w.zt.length
  ·have hy':w.zt[i]?= some y:=by rw [<- List.getElem?_append_left (l₂:=[x]) hi];exact hy
   obtain ⟨a,b,c⟩:=zfW gw.zt hy';exact ⟨a,b,fun j z hj hz=>c j z hj (by rw [<- List.getElem?_append_left (l₂:=[x]) (by omega)];exact hz)⟩
  ·have hy2:(w.zt++[x])[i]?= some y:=hy;rw [List.getElem?_append_right (by omega)] at hy2
   have:i - w.zt.length=0:=by
    have:=(List.getElem?_eq_some_iff.1 hy2).1;simp at this;omega
   rw [this] at hy2;cases hy2
   refine ⟨h0,h3,fun j z hj hz=>?_⟩;have hz2:(w.zt++[x])[j]?= some z:=hz;rw [List.getElem?_append_left (by omega)] at hz2;exact hn z (List.mem_of_getElem? hz2)
 ·rcases List.mem_append.1 hr with hr | hr
  ·exact gw.bad r hr
  ·rw [List.mem_singleton.1 hr];unfold yc;simp;omega
 ·rw [(gw.ver i v2 hv).2];show _=yZ (w.zt++[x]) i;rw [zfO];by_cases he:x.version=i
  ·rw [if_pos he,hg];by_cases hgo:yZ w.zt i=true
   ·obtain ⟨r,hr,hv2,_⟩:=(wC w.zt i (za0 gw.zt)).1 hgo;exact absurd (hv2.trans he.symm) (hn r hr)
   ·simpa using hgo
  ·rw [if_neg he]
theorem St.qj (st:St N K w) {i:Nat} {k:Int} {v2:Ver} {x:Ret} (h0:0<=k) (hv:w.ze[k.toNat]?= some v2) (hx:w.zt[i]?= some x) (he:x.version=k):St (N+1) (K+1) { w with ze:=w.ze.set k.toNat (zaa v2),zt:=w.zt.set i (kD x) }:=by
 have gw:=st.jj;have la:=wH gw hx
 have same:∀ (j:Nat) (y:Ret),(w.zt.set i (kD x))[j]?= some y->∃ z,w.zt[j]?= some z∧z.version=y.version∧z.at_=y.at_:=fun j y hy=>by
  rcases yj hy with ⟨rfl,rfl,_⟩ | ⟨_,hy⟩
  ·exact ⟨x,hx,rfl,rfl⟩
  ·exact ⟨y,hy,rfl,rfl⟩
 have isL:Go.Lim.isV (w.zt.set i (kD x))=true:=by
  rw [zm5];intro j y hy;obtain ⟨z,hz,e1,e2⟩:=same j y hy;obtain ⟨a,b,c⟩:=zfW gw.zt hz;refine ⟨by omega,by omega,fun j2 y2 hj hy2=>?_⟩;obtain ⟨z2,hz2,e3,_⟩:=same j2 y2 hy2;rw [<- e3,<- e1];exact c j2 z2 hj hz2
 refine ⟨⟨gw.ground,by simpa using gw.current,isL,fun r hr=>?_,fun j v3 hv3=>?_,gw.lis⟩,⟨by have:=st.ty.zbm;simp;omega,by have:=st.ty.lis;show w.zd.length<=_;omega,by have:=st.ty.lim;simp;omega,fun v3 hv3=>?_,st.ty.okl⟩,⟨fun l hl=>by have:=st.cal.lis l hl;omega,fun v3 hv3 g2 hg e2 he=>?_⟩⟩
 ·obtain ⟨j,hj⟩:=List.mem_iff_getElem?.1 hr;obtain ⟨z,hz,e1,e2⟩:=same j r hj;have:=gw.bad z (List.mem_of_getElem? hz);unfold yc at this ⊢;rw [<- e1,<- e2];simpa using this
 ·have gone2:yZ (w.zt.set i (kD x)) j=if (j:Int)=k then true else yZ w.zt j:=by
   by_cases hjk:(j:Int)=k
   ·rw [if_pos hjk,wC _ _ (za0 isL)];exact ⟨kD x,List.mem_iff_getElem?.2 ⟨i,List.getElem?_set_self (List.getElem?_eq_some_iff.1 hx).1⟩,by show x.version=_;omega,rfl⟩
   ·rw [if_neg hjk,Bool.eq_iff_iff,wC _ _ (za0 isL),wC _ _ (za0 gw.zt)];constructor
    ·rintro ⟨r,hr,h1,h2⟩;rcases mem_set hr with hr | rfl
     ·exact ⟨r,hr,h1,h2⟩
     ·exact absurd (show x.version=j from h1) (by omega)
    ·rintro ⟨r,hr,h1,h2⟩;obtain ⟨b,hb⟩:=List.mem_iff_getElem?.1 hr
     have hbi:i≠b:=by
      rintro rfl;rw [hx] at hb;cases hb
      omega
     exact ⟨r,List.mem_iff_getElem?.2 ⟨b,by rw [List.getElem?_set,if_neg hbi];exact hb⟩,h1,h2⟩
  show zaq v3∧v3.qj=yZ (w.zt.set i (kD x)) j;rw [gone2];rcases yj hv3 with ⟨rfl,rfl,_⟩ | ⟨hne,hv3⟩
  ·rw [if_pos (by omega)];exact ⟨⟨(gw.ver _ v2 hv).1.snap,(gw.ver _ v2 hv).1.len,(gw.ver _ v2 hv).1.grp⟩,rfl⟩
  ·rw [if_neg (by omega)];exact gw.ver j v3 hv3
 ·rcases mem_set hv3 with hv3 | rfl
  ·exact st.ty.okv v3 hv3
  ·exact st.ty.okv v2 (List.mem_of_getElem? hv)
 ·rcases mem_set hv3 with hv3 | rfl
  ·have:=st.cal.ends v3 hv3 g2 hg e2 he;omega
  ·have:=st.cal.ends v2 (List.mem_of_getElem? hv) g2 hg e2 he;omega
end
structure zq5 (w:Wor) (m:Mac) (v:Ver) (g:Gr) (e:En):Prop where
 pc:0<=m.pc∧m.pc<=2
 ver:1<=m.pc->m.version≠w.current∧∀ r ∈ w.zt,r.version≠m.version
 ep:m.pc=2->0<=m.zn∧m.zn<=w.zn
def zue (m:Mac):Prop:=6<=m.answer.kind∧m.answer.kind<=13
def muS (_:Wor) (m:Mac):Nat:=(3 - m.pc).toNat
section
variable {N K:Nat} {w:Wor} {m:Mac} {v:Ver} {g:Gr} {e:En}
theorem zgf (st:St N K w) (su:qC w m v g e) (tm:TyM m) (lo:zq5 w m v g e) (hk:m.op.kind=3):∃ r,vP w m=some r∧Nx N K w m zq5 zue muS r:=by
 have gw:=st.jj;have st1:St (N+1) (K+1) w:=st.mono (by omega) (by omega);have pc:=lo.pc;have cu:=gw.current;unfold vP;rcases (by omega:m.pc=0∨m.pc=1∨m.pc=2) with p | p | p
 ·rw [if_pos p];by_cases q:wQ m.op.config=0
  ·rw [if_pos q];have hc:(qY m.op.config).1=0:=by rw [<- wa];exact q
   have st2:=st.znd hc (tm.cfg hk);obtain ⟨v',hv'⟩:∃ v',w.ze[w.current.toNat]?= some v':=⟨_,List.getElem?_eq_getElem (by omega)⟩;have gv:=(gw.ver _ v' hv').1;have h0:0 < v'.zm.length:=by have:=(jk gv.snap).zl.1;have:=gv.len;omega
   obtain ⟨g',e',hg,he,l1,l2⟩:=vu gv h0
   refine zL rfl ⟨(by show (6:Int)≠0;decide),st2,rfl,uO,rfl,.inr ⟨⟨v',g',e',⟨qe.2 st2.jj,su.zj,su.done,⟨cu.1,by show w.current < ((w.ze++[yJ m.op.config]).length:Nat);simp only [List.length_append,List.length_singleton];omega⟩,
    by show (w.ze++[yJ m.op.config])[w.current.toNat]?= some v';rw [List.getElem?_append_left (by omega)];exact hv',⟨Int.le_refl _,by show (0:Int) < _;omega⟩,hg,⟨Int.le_refl _,by show (0:Int) < _;omega⟩,he,⟨Int.le_refl _,by show (0:Int) < _;omega⟩,⟨Int.le_refl _,by show (0:Int) < _;omega⟩,su.listen,by show (0:Int)<=(w.ze.length:Nat);omega,su.k⟩,
    ⟨uL,fun _=>⟨by show w.current≠(w.ze.length:Nat);omega,fun r hr=>?_⟩,uK⟩⟩,by unfold muS;show (3 - 1:Int).toNat < (3 - m.pc).toNat;omega⟩⟩
   obtain ⟨i,hi⟩:=List.mem_iff_getElem?.1 hr;exact (wH gw hi).2.2.2.2
  ·rw [if_neg q];exact zL rfl ⟨uW,st1,rfl,uP,rfl,.inl ⟨rfl,by show (6:Int)<=9∧(9:Int)<=13;decide⟩⟩
 ·have vf:=lo.ver (by omega);have ep:=(qb.1 gw.ground).zn;rw [if_neg (by omega),if_pos p];refine zL rfl ⟨uW,st1,rfl,uO,rfl,.inr ⟨⟨v,g,e,uQ,⟨uL,fun _=>vf,fun _=>⟨ep.1,Int.le_refl _⟩⟩⟩,by unfold muS;show (3 - 2:Int).toNat < (3 - m.pc).toNat;omega⟩⟩
 ·have vf:=lo.ver (by omega);have ep:=lo.ep p;have sv:=su.version
  have nl:kF w m=false:=by
   unfold kF;simp only [Bool.or_eq_false_iff,List.any_eq_false,beq_iff_eq,beq_eq_false_iff_ne,decide_eq_false_iff_not];exact ⟨⟨⟨fun r hr=>vf.2 r hr,vf.1⟩,by omega⟩,by omega⟩
  have st2:=st.zqz (x:=⟨m.version,m.zn,false⟩) sv.1 sv.2 vf.1 ep.1 ep.2 rfl vf.2;rw [if_neg (by omega),if_neg (by omega),if_pos p,nl];exact zL rfl ⟨tI,st2,rfl,uP,rfl,.inl ⟨rfl,by show (6:Int)<=8∧(8:Int)<=13;decide⟩⟩
def zuh (_:Wor) (m:Mac) (_:Ver) (_:Gr) (_:En):Prop:=m.pc=0
def zuf (_:Wor) (m:Mac) (_:Ver) (_:Gr) (_:En):Prop:=m.pc=9
structure zui (w:Wor) (m:Mac) (v:Ver) (g:Gr) (e:En):Prop where
 pc:m.pc=0
 k:m.k < 6
 i:m.i < w.counts.length
def muT (w:Wor) (m:Mac):Nat:=((w.counts.length - m.i) * 6 - m.k).toNat
end
structure zug (w:Wor) (m:Mac) (v:Ver) (g:Gr) (e:En):Prop where
 pc:(0<=m.pc∧m.pc<=6)∨(8<=m.pc∧m.pc<=10)
 pin:m.pc=2->m.i < w.pins.length
 li4:m.pc=4->m.i<=w.zt.length
 lim:m.pc=5∨m.pc=6->∃ r,w.zt[m.i.toNat]?= some r∧r.version=m.version∧r.gone=false
 act:m.pc=5->m.k < (xU v).length
 lis:m.pc=9∨m.pc=10->∃ l,w.zd[m.i.toNat]?= some l∧l.drain=true
def muC (w:Wor) (m:Mac):Nat:=(
 if m.pc=0 then 20 * (w.zt.length:Int)+4 * w.zd.length+w.pins.length+20
 else if m.pc=1 then 20 * (w.zt.length:Int)+4 * w.zd.length+w.pins.length+19
 else if m.pc=2 then 20 * (w.zt.length:Int)+4 * w.zd.length+10+(w.pins.length - m.i)
 else if m.pc=3 then 20 * (w.zt.length:Int)+4 * w.zd.length+10
 else if m.pc=4 then (w.zt.length - m.i) * 20+4 * w.zd.length+5
 else if m.pc=5 then (w.zt.length - m.i) * 20+4 * w.zd.length+5 - 1 - m.k
 else if m.pc=6 then (w.zt.length - m.i) * 20+4 * w.zd.length+5 - 18
 else if m.pc=8 then (w.zd.length - m.i) * 4
 else if m.pc=9 then (w.zd.length - m.i) * 4 - 1
 else (w.zd.length - m.i) * 4 - 2:Int).toNat
theorem zsv:∀ (l:List Gr),(∀ g ∈ l,g.ends.length<=4)->(l.flatMap (·.ends)).length<=l.length * 4
 | [],_=>by simp
 | g::l,h=>by
  have:=zsv l fun x hx=>h x (List.mem_cons_of_mem _ hx)
  have:=h g (List.mem_cons_self ..);simp only [List.flatMap_cons,List.length_append,List.length_cons];omega
theorem zjr {v:Ver} (h:zaq v):1<=(xU v).length∧(xU v).length<=16:=by
 have f:=h.few;have h4:=zsv v.zm fun g hg=>(f.2 g hg).1
 refine ⟨?_,by unfold xU;omega⟩;have h0:0 < v.zm.length:=by have:=(jk h.snap).zl.1;have:=h.len;omega
 obtain ⟨g,e,hg,he,_,_⟩:=vu h h0;have:e ∈ xU v:=List.mem_flatMap.2 ⟨g,List.mem_of_getElem? hg,List.mem_of_getElem? he⟩;exact List.length_pos_of_mem this
section
variable {N K:Nat} {w:Wor} {m:Mac} {v:Ver} {g:Gr} {e:En}
end
end Go.Wor
namespace Go.Wor
open Go.Ab Go.Proofs Go.Gat Go.Nam Go.Hos Go.Con Go.Sna Go.Pla
open Go.Hy hiding encI
def ztG (w:Wor) (m:Mac) (v:Ver) (g:Gr) (e:En):Prop:=(m.op.kind=1∧zo9 w m v g e)∨(m.op.kind=2∧zuf w m v g e)∨(m.op.kind=3∧zq5 w m v g e)∨(m.op.kind=4∧zuh w m v g e)∨(m.op.kind=5∧zug w m v g e)∨(m.op.kind=6∧zui w m v g e)
def ztC (m:Mac):Prop:=1<=m.answer.kind∧m.answer.kind<=13∧(m.op.kind=1↔m.answer.kind<=5)
def muA (w:Wor) (m:Mac):Nat:=if m.op.kind=1 then muH w m else if m.op.kind=3 then muS w m else if m.op.kind=5 then muC w m else if m.op.kind=6 then muT w m else 0
section
variable {N K:Nat} {w:Wor} {m:Mac} {v:Ver} {g:Gr} {e:En}
theorem Nx.up {k:Int} {L:Wor->Mac->Ver->Gr->En->Prop} {F:Mac->Prop} {μ:Wor->Mac->Nat} {r:Wor × Mac × Eve} (h:Nx N K w m L F μ r) (hk:m.op.kind=k) (hL:∀ w' m' v g e,m'.op.kind=k->L w' m' v g e->ztG w' m' v g e) (hF:∀ m',m'.op.kind=k->F m'->ztC m') (hμ:∀ w' m',m'.op.kind=k->muA w' m'=μ w' m'):Nx N K w m ztG ztC muA r:=by
 have hk':r.2.1.op.kind=k:=by rw [h.op];exact hk
 refine ⟨h.ev,h.st,h.pins,h.tm,h.op,?_⟩;rcases h.go with ⟨h1,h2⟩ | ⟨⟨v',g',e',h1,h2⟩,h3⟩
 ·exact .inl ⟨h1,hF _ hk' h2⟩
 ·exact .inr ⟨⟨v',g',e',h1,hL _ _ _ _ _ hk' h2⟩,by rw [hμ _ _ hk',hμ _ _ hk];exact h3⟩
theorem zqI (su:qC w m v g e):zbf w m=if m.op.kind=1 then qi w m v g e else if m.op.kind=2 then vm w m v g e else if m.op.kind=3 then vP w m else if m.op.kind=4 then zb9 w m
  else if m.op.kind=5 then ks w m else if m.op.kind=6 then zct w m else none:=by
 unfold zbf;rw [su.atv];dsimp only;rw [su.atg];dsimp only;rw [su.ate]
end
theorem zgA {w:Wor} {m:Mac} {v:Ver} {g:Gr} {e:En} (su:qC w m v g e):zW w m=true:=by
 unfold zW;simp only [Bool.and_eq_true,Bool.not_eq_true',yP];refine ⟨⟨⟨⟨su.world,su.zj⟩,su.done⟩,su.version⟩,?_⟩;rw [su.atv];simp only [Bool.and_eq_true,yP];refine ⟨su.zf,?_⟩;rw [su.atg];simp only [Bool.and_eq_true,yP,decide_eq_true_eq];rw [su.ate];simp only [yP];exact ⟨⟨⟨su.end_,su.other⟩,su.slot⟩,⟨⟨by have:=su.listen;omega,su.i⟩,su.k⟩⟩
end Go.Wor
