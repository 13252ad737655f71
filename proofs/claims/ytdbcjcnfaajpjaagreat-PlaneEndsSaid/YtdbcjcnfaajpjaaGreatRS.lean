import Derived.WalkKit
import Derived.Test.YtdbcjcnfaajpjaaGreatRows
import Derived.Test.YtdbcjcnfaajpjaaGreatRJ
import Derived.Test.YtdbcjcnfaajpjaaGreatRC
import Derived.Test.YtdbcjcnfaajpjaaGreatProg
set_option linter.unusedVariables false
set_option linter.unusedSimpArgs false
set_option linter.unusedSectionVars false
set_option maxRecDepth 100000
set_option maxHeartbeats 4000000
namespace Go.Proofs.YtdbcjcnfaajpjaaGreat
open Go.RowKit
theorem zoN (t i:Int) (h1:0<=t) (h2:t < 4294967296) (h3: -1<=i) (h4:i<=2147483646):
  bits .or .u64 (t * 4294967296) (i+1)=t * 4294967296+(i+1):=by
 rw [u64_or _ _ (by omega) (by omega) (by omega) (by omega)]
 obtain ⟨a,rfl⟩:=Int.eq_ofNat_of_zero_le h1
 obtain ⟨b,hb⟩:=Int.eq_ofNat_of_zero_le (show 0<=i+1 by omega)
 rw [hb]
 have hlt:b < 2 ^ 32:=by have:(b:Int) < 4294967296:=by omega
                         simpa using (by omega:b < 4294967296)
 have:=Nat.two_pow_add_eq_or_of_lt hlt a
 have e:((a:Int) * 4294967296).toNat=2 ^ 32 * a:=by omega
 rw [e,Int.toNat_natCast,<- this]
 omega
set_option maxHeartbeats 400000 in
set_option maxHeartbeats 400000 in
theorem zhs (t i:Int) (w:World) (h1:0<=t) (h2:t < 4294967296) (h3: -1<=i) (h4:i<=2147483646):
  Calls Tryz.prog 110 #[.int .u32 t,.int .i64 i] w fun e w'=>e=.returned (.tuple #[.int .u64 (t * 4294967296+(i+1)),.int .i64 0])∧w=w':=by
 go_enter Tryz.func110,Tryz.ntmps110
 go_wp2
 go_ret2
 exact ⟨by simp [zoN t i h1 h2 h3 h4],rfl⟩
set_option maxHeartbeats 400000 in
theorem znY (x:Int) (w:World) (h1:0<=x) (h2:x < 18446744073709551616):
  Calls Tryz.prog 133 #[.int .u64 x] w fun e w'=>e=.returned (.int .u32 (x / 4294967296))∧w=w':=by
 go_enter Tryz.func133,Tryz.ntmps133
 go_wp2
 go_ret
 exact ⟨rfl,rfl⟩
set_option maxHeartbeats 400000 in
theorem zkN (x:Int) (w:World) (h1:0<=x) (h2:x < 18446744073709551616):
  Calls Tryz.prog 79 #[.int .u64 x] w fun e w'=>e=.returned (.int .i64 (x % 4294967296 - 1))∧w=w':=by
 go_enter Tryz.func79,Tryz.ntmps79
 go_wp2
 go_ret
 exact ⟨rfl,rfl⟩
end Go.Proofs.YtdbcjcnfaajpjaaGreat
namespace Go.Proofs.YtdbcjcnfaajpjaaGreat
open Go.RowKit
set_option maxHeartbeats 400000 in
set_option maxHeartbeats 400000 in
theorem zms (x i:Int) (w:World) (h1:0<=x) (h2:x < 18446744073709551616) (h3: -1<=i) (h4:i<=2147483646):
  Calls Tryz.prog 85 #[.int .u64 x,.int .i64 i] w fun e w'=>e=.returned (.tuple #[.int .u64 ((x / 4294967296+1) % 4294967296 * 4294967296+(i+1)),.int .i64 0])∧w=w':=by
 go_enter Tryz.func85,Tryz.ntmps85
 go_wp2_with (first | (go_at_call 133;refine (znY _ _ h1 h2).mono ?_;rintro e w' ⟨rfl,rfl⟩) | (go_at_call 110;refine (zhs _ _ _ (by omega) (by omega) h3 h4).mono ?_;rintro e w' ⟨rfl,rfl⟩))
 go_ret2
 exact ⟨rfl,rfl⟩
end Go.Proofs.YtdbcjcnfaajpjaaGreat
namespace Go.Slp
open Go.Ab Go.Hy
def inB (nx:List Int) (i:Int):Bool:=decide (0<=i) && decide (i < nx.length)
def nxt (nx:List Int) (i:Int):Int:=(nx[i.toNat]?).getD 0
def jY (nx:List Int) (i0:Int):Nat->Int
 | 0=>i0
 | k+1=>nxt nx (jY nx i0 k)
def yM (nx:List Int) (i0:Int) (k:Nat):List Int:=(List.range k).map (jY nx i0)
def yG (nx:List Int) (i0:Int) (k:Nat):Bool:=!inB nx (jY nx i0 k) || (yM nx i0 k).contains (jY nx i0 k)
def xj (nx:List Int) (i0:Int):Nat:=((List.range (nx.length+1)).find? (yG nx i0)).getD 0
def okV (nx:List Int) (i0:Int):Bool:=jY nx i0 (xj nx i0) == -1
theorem zjq:∀ (n:Nat) (l:List Int),l.Nodup->(∀ x ∈ l,0<=x∧x < n)->l.length<=n
 | 0,l,_,h=>by
  cases l with
  | nil=>exact Nat.le_refl _
  | cons x l=>have:=h x (List.mem_cons_self ..);omega
 | n+1,l,hd,h=>by
  by_cases hm:(n:Int) ∈ l
  ·have h1:=zjq n (l.erase n) (hd.erase _) fun x hx=>by
    have h2:=h x (List.mem_of_mem_erase hx)
    have h3:x≠n:=fun e=>by
     subst e
     exact absurd hx (List.Nodup.not_mem_erase hd)
    omega
   rw [List.length_erase_of_mem hm] at h1
   omega
  ·have:=zjq n l hd fun x hx=>by
    have h2:=h x hx
    have h3:x≠n:=fun e=>hm (e ▸ hx)
    omega
   omega
theorem zeC (nx:List Int) (i0:Int) (k:Nat):yM nx i0 (k+1)=yM nx i0 k++[jY nx i0 k]:=by
 simp [yM,List.range_succ]
theorem zke (nx:List Int) (i0:Int) (k:Nat):(yM nx i0 k).length=k:=by simp [yM]
theorem zh5 {nx:List Int} {i0:Int}:∀ {k:Nat},(∀ j,j < k->yG nx i0 j=false)->(yM nx i0 k).Nodup∧∀ x ∈ yM nx i0 k,inB nx x=true
 | 0,_=>⟨by simp [yM],by simp [yM]⟩
 | k+1,h=>by
  obtain ⟨h1,h2⟩:=zh5 (k:=k) fun j hj=>h j (by omega)
  have h3:=h k (by omega)
  simp only [yG,Bool.or_eq_false_iff,Bool.not_eq_false'] at h3
  have h4:jY nx i0 k ∉ yM nx i0 k:=by simpa using h3.2
  rw [zeC]
  refine ⟨?_,?_⟩
  ·rw [List.nodup_append]
   refine ⟨h1,by simp,?_⟩
   intro a ha b hb e
   rw [List.mem_singleton] at hb
   subst hb e
   exact h4 ha
  ·intro x hx
   rcases List.mem_append.1 hx with hx | hx
   ·exact h2 x hx
   ·rw [List.mem_singleton.1 hx];exact h3.1
theorem wh (nx:List Int) (i0:Int):xj nx i0<=nx.length∧yG nx i0 (xj nx i0)=true∧∀ j,j < xj nx i0->yG nx i0 j=false:=by
 unfold xj
 cases e:(List.range (nx.length+1)).find? (yG nx i0) with
 | none=>
  exfalso
  rw [List.find?_eq_none] at e
  have h:∀ j,j < nx.length+1->yG nx i0 j=false:=fun j hj=>by simpa using e j (List.mem_range.2 hj)
  obtain ⟨h1,h2⟩:=zh5 h
  have:=zjq nx.length _ h1 fun x hx=>by
   have:=h2 x hx
   simp only [inB,Bool.and_eq_true,decide_eq_true_eq] at this
   exact this
  rw [zke] at this
  omega
 | some k=>
  rw [List.find?_eq_some_iff_append] at e
  obtain ⟨h1,az,bs,h2,h3⟩:=e
  have hk:az.length=k∧k < nx.length+1:=by
   have h4:(List.range (nx.length+1))[az.length]?= some k:=by rw [h2];simp
   have h5:=(List.getElem?_eq_some_iff.1 h4)
   obtain ⟨h6,h7⟩:=h5
   rw [List.getElem_range] at h7
   simp at h6
   omega
  refine ⟨by simp;omega,by simpa using h1,fun j hj=>?_⟩
  have h8:(List.range (nx.length+1))[j]?= some j:=by
   simp at hj
   rw [List.getElem?_range (by omega)]
  rw [h2,List.getElem?_append_left (by simp at hj;omega)] at h8
  simpa using h3 j (List.mem_of_getElem? h8)
theorem zlX {nx:List Int} {i0:Int} {n:Nat} (h1:yG nx i0 n=true) (h2:∀ j,j < n->yG nx i0 j=false):xj nx i0=n:=by
 obtain ⟨_,h3,h4⟩:=wh nx i0
 rcases Nat.lt_trichotomy (xj nx i0) n with h | h | h
 ·rw [h2 _ h] at h3;cases h3
 ·exact h
 ·rw [h4 _ h] at h1;cases h1
abbrev no:En:=⟨0,[],0⟩
def zR (e:En):Int:=e.head % 4294967296 - 1
def xx (x i:Int):Int:=(x / 4294967296+1) % 4294967296 * 4294967296+(i+1)
def zag (e:En):List Int × Int:=if okV e.next (zR e) then (yM e.next (zR e) (xj e.next (zR e)),0) else ([],11)
def isV (e:En):Bool:=okV e.next (zR e) && decide (1<=e.next.length) && decide (e.next.length<=4) && decide (0<=e.zj)
def zqj (e:En):En × Int × Int:=
 if isV e=false then (no,0,11) else if zR e < 0 then (no,0,5) else (⟨xx e.head (nxt e.next (zR e)),e.next,e.zj⟩,zR e,0)
def zqd (e:En) (slot:Int):En × Int:=
 if isV e=false then (no,11) else if slot < 0∨e.next.length<=slot then (no,1) else if (zag e).1.contains slot then (no,4)
 else (⟨xx e.head slot,e.next.set slot.toNat (zR e),e.zj⟩,0)
def yJ (n:Int):En × Int:=if n < 1∨4 < n then (no,1) else (⟨1,(List.range n.toNat).map fun (i:Nat)=>if i+1=n.toNat then -1 else (i:Int)+1,0⟩,0)
theorem znx {nx:List Int} {i0:Int} (h:okV nx i0=true) {k:Nat} (hk:k < xj nx i0):inB nx (jY nx i0 k)=true∧ -1<=jY nx i0 (k+1)∧jY nx i0 (k+1) < nx.length:=by
 obtain ⟨h1,h2,h3⟩:=wh nx i0
 have h4:=h3 k hk
 simp only [yG,Bool.or_eq_false_iff,Bool.not_eq_false'] at h4
 refine ⟨h4.1,?_⟩
 rcases Nat.lt_or_ge (k+1) (xj nx i0) with h5 | h5
 ·have h6:=h3 _ h5
  simp only [yG,Bool.or_eq_false_iff,Bool.not_eq_false',inB,Bool.and_eq_true,decide_eq_true_eq] at h6
  omega
 ·have e:k+1=xj nx i0:=by omega
  rw [e]
  simp only [okV,beq_iff_eq] at h
  rw [h]
  omega
theorem zjW {nx:List Int} {i0:Int} (h:okV nx i0=true) (h0:¬i0 < 0):0 < xj nx i0:=by
 rcases Nat.eq_zero_or_pos (xj nx i0) with e | e
 ·simp only [okV,e,jY,beq_iff_eq] at h
  omega
 ·exact e
theorem zgk {e:En} (h:isV e=true):okV e.next (zR e)=true∧1<=e.next.length∧e.next.length<=4∧0<=e.zj:=by
 simp only [isV,Bool.and_eq_true,decide_eq_true_eq] at h
 exact ⟨h.1.1.1,h.1.1.2,h.1.2,h.2⟩
theorem znr {e:En} (h:isV e=true) (h0:¬zR e < 0):0<=zR e∧zR e < e.next.length∧ -1<=nxt e.next (zR e)∧nxt e.next (zR e) < e.next.length:=by
 obtain ⟨h1,h2,h3,h4⟩:=zgk h
 obtain ⟨h5,h6,h7⟩:=znx h1 (zjW h1 h0)
 simp only [inB,jY,Bool.and_eq_true] at h5
 exact ⟨of_decide_eq_true h5.1,of_decide_eq_true h5.2,h6,h7⟩
def xo (nx:List Int) (i0:Int):Nat->List Bool
 | 0=>List.replicate nx.length false
 | k+1=>(xo nx i0 k).set (jY nx i0 k).toNat true
theorem zhN (nx:List Int) (i0:Int):∀ k,(xo nx i0 k).length=nx.length
 | 0=>by simp [xo]
 | k+1=>by simp [xo,zhN nx i0 k]
theorem zgH {nx:List Int} {i0:Int}:∀ {k:Nat},(∀ j,j < k->inB nx (jY nx i0 j)=true)->∀ {i:Nat},i < nx.length->(xo nx i0 k)[i]?= some ((yM nx i0 k).contains (i:Int))
 | 0,_,i,hi=>by simp [xo,yM,hi]
 | k+1,h,i,hi=>by
  have ih:=zgH (k:=k) (fun j hj=>h j (by omega)) hi
  have hb:=h k (by omega)
  simp only [inB,Bool.and_eq_true,decide_eq_true_eq] at hb
  rw [zeC]
  simp only [xo]
  rw [List.getElem?_set,zhN]
  by_cases e:(jY nx i0 k).toNat=i
  ·rw [if_pos e,if_pos (by omega)]
   have:(i:Int)=jY nx i0 k:=by omega
   simp [this]
  ·rw [if_neg e,ih]
   have:¬(i:Int)=jY nx i0 k:=by omega
   simp [this]
end Go.Slp
namespace Go.Slp
open Go.Ab Go.Proofs Go.Hy
theorem zgP {x:Int} (h:u64 x):0<=x∧x < 18446744073709551616:=by unfold u64 at h;omega
theorem qu (x:Int) (h:u64 x):zb Tryz.prog 79 [] [U x] (I (x % 4294967296 - 1)) []:=
 zbh [] (fun w=>(YtdbcjcnfaajpjaaGreat.zkN x w (zgP h).1 (zgP h).2).mono fun e w' ⟨h1,h2⟩=>⟨h1,h2.symm⟩) zpf fun E=>.v _ rfl
abbrev Ev (e:En):C:=.agg (zo e)
abbrev vk (e:En) (k:Nat):List (List C):=(yM e.next (zR e) k).map encI
theorem zfY (e:En) (he:e.ok) (l:Nat) (rec rec':Ob) (rr:C) (rn:Int)
  (hy:∀ k,k < xj e.next (zR e)->jm Tryz.prog l ([⟨1,79,3,[zo e],0⟩,⟨1,40,1,[[.lst 1 0 []]],0⟩,⟨1,100,1,[[I 0]],0⟩,⟨1,40,1,[[.gl 5 1 (vk e k)]],0⟩,⟨1,79,3,[zo e],0⟩,⟨4,3,1,(vk e k),0⟩,rec]++[⟨2,4,1,(xo e.next (zR e) (k+1)).map xZ,0⟩]) [I (jY e.next (zR e) k)] (Bo true) ([⟨1,79,3,[zo e],0⟩,⟨1,40,1,[[.lst 1 0 []]],0⟩,⟨1,100,1,[[I 0]],0⟩,⟨1,40,1,[[.gl 5 1 (vk e (k+1))]],0⟩,⟨1,79,3,[zo e],0⟩,⟨4,3,1,(vk e (k+1)),0⟩,rec]++[⟨2,4,1,(xo e.next (zR e) (k+1)).map xZ,0⟩]))
  (hz:∃ b,jm Tryz.prog l ([⟨1,79,3,[zo e],0⟩,⟨1,40,1,[[.lst 1 0 []]],0⟩,⟨1,100,1,[[I 0]],0⟩,⟨1,40,1,[[.gl 5 1 (vk e (xj e.next (zR e)))]],0⟩,⟨1,79,3,[zo e],0⟩,⟨4,3,1,(vk e (xj e.next (zR e))),0⟩,rec]++[⟨2,4,1,(xo e.next (zR e) (xj e.next (zR e))).map xZ,0⟩]) [I (if okV e.next (zR e) then -1 else -2)] (Bo b) ([⟨1,79,3,[zo e],0⟩,⟨1,40,1,[[rr]],0⟩,⟨1,100,1,[[I rn]],0⟩,⟨1,40,1,[[.gl 5 1 (vk e (xj e.next (zR e)))]],0⟩,⟨1,79,3,[zo e],0⟩,⟨4,3,1,(vk e (xj e.next (zR e))),0⟩,rec']++[⟨2,4,1,(xo e.next (zR e) (xj e.next (zR e))).map xZ,0⟩])):
  zb Tryz.prog 78 [⟨1,79,3,[zo e],0⟩,⟨1,40,1,[[.lst 1 0 []]],0⟩,⟨1,100,1,[[I 0]],0⟩,⟨1,40,1,[[.gl 5 1 (vk e 0)]],0⟩,⟨1,79,3,[zo e],0⟩,⟨4,3,1,(vk e 0),0⟩,rec] [.v (.func (.yield l) #[] #[]),.ref 4 [] 3 0 0] (.tup []) ([⟨1,79,3,[zo e],0⟩,⟨1,40,1,[[rr]],0⟩,⟨1,100,1,[[I rn]],0⟩,⟨1,40,1,[[.gl 5 1 (vk e (xj e.next (zR e)))]],0⟩,⟨1,79,3,[zo e],0⟩,⟨4,3,1,(vk e (xj e.next (zR e))),0⟩,rec']++[⟨2,4,1,(xo e.next (zR e) (xj e.next (zR e))).map xZ,0⟩]):=by
 refine zb.zZ (fn:=Tryz.f78) Tryz.func78 rfl ?_
 conv=>whnf
 have hl:=he.2.1.2
 have hlm:(e.next.map encI).length=e.next.length:=List.length_map ..
 obtain ⟨c1,c2,c3⟩:=wh e.next (zR e)
 have jv:∀ j,j < xj e.next (zR e)->inB e.next (jY e.next (zR e) j)=true:=fun j hj=>by
  have:=c3 j hj
  simp only [yG,Bool.or_eq_false_iff,Bool.not_eq_false'] at this
  exact this.1
 refine ⟨rfl,by omega,by show (1:Int) * _<=_;omega,by omega,?_⟩
 conv=>whnf
 refine ⟨_,_,(qu e.head he.1).frame rfl _,?_⟩;refine dd ?_
 refine qa.seq (xj e.next (zR e)) (fun k=>[.v (.func (.yield l) #[] #[]),.ref 4 [] 3 0 0,.za,.sl 7 [] 1 0 e.next.length false,I (jY e.next (zR e) k),.za,.za,.za,.za,.za,.za,.za,.za,.za,.za,.za,.za,.za,.za,.za,.za,.za,.za,.za,.za,.za,.za,.za,.za,.za,.za,.za,.za,.za,.za,.za,.za,.za,.za,.za,.za,.za,.za,.za])
  (fun k=>[⟨1,79,3,[zo e],0⟩,⟨1,40,1,[[.lst 1 0 []]],0⟩,⟨1,100,1,[[I 0]],0⟩,⟨1,40,1,[[.gl 5 1 (vk e k)]],0⟩,⟨1,79,3,[zo e],0⟩,⟨4,3,1,(vk e k),0⟩,rec]++[⟨2,4,1,(xo e.next (zR e) k).map xZ,0⟩]) (fun _=>True) ?_ trivial (fun k hk _=>?_) (fun _=>?_)
 ·have e1:List.replicate (((e.next.map encI).length:Int)).toNat (List.map ofV (Value.bool false).cells.toList)=(xo e.next (zR e) 0).map xZ:=by
   simp [xo,xZ,ofV,Value.cells]
  rw [e1,hlm,toNat_cast]
  exact cC
 ·have g:=jv k hk
  simp only [inB,Bool.and_eq_true,decide_eq_true_eq] at g
  obtain ⟨g1,g2⟩:=g
  have hs:=zgH (nx:=e.next) (i0:=zR e) (k:=k) (fun j hj=>jv j (by omega)) (i:=(jY e.next (zR e) k).toNat) (by omega)
  have hv:(yM e.next (zR e) k).contains (((jY e.next (zR e) k).toNat:Nat):Int)=false:=by
   have:=c3 k hk
   simp only [yG,Bool.or_eq_false_iff,Bool.not_eq_false'] at this
   rw [Int.toNat_of_nonneg g1]
   exact this.2
  rw [hv] at hs
  have hyk:=hy k hk
  have hnx:(e.next)[(jY e.next (zR e) k).toNat]?= some (jY e.next (zR e) (k+1)):=by
   show _=some (nxt e.next (jY e.next (zR e) k))
   unfold nxt
   rw [List.getElem?_eq_getElem (by omega)]
   rfl
  have hse:(xo e.next (zR e) (k+1)).map xZ=((xo e.next (zR e) k).map xZ).set (jY e.next (zR e) k).toNat [Bo true]:=by
   show (List.set _ _ _).map xZ=_
   rw [List.map_set];rfl
  rw [hse] at hyk
  rw [hse]
  generalize hP:jY e.next (zR e) k=p at *
  generalize hQ:jY e.next (zR e) (k+1)=p' at *
  conv=>whnf
  refine ⟨fun _=>?_,fun h=>absurd h (by simp;omega)⟩
  refine dd ?_
  refine ⟨fun h=>absurd h (by simp;omega),fun _=>?_⟩
  refine dd ?_
  refine ⟨fun h=>absurd h (by simp;omega),fun _=>?_⟩
  refine dd ?_
  refine ⟨g1,by omega,?_⟩
  conv=>whnf
  refine ⟨[Bo false],by rw [Nat.zero_add,List.getElem?_map,hs];rfl,Nat.le_refl _,?_⟩
  refine dd ?_
  (repeat ((first | apply ya | apply yb);refine dd ?_))
  refine ⟨g1,by omega,?_⟩
  conv=>whnf
  refine ⟨[Bo false],by rw [Nat.zero_add,List.getElem?_map,hs];rfl,rfl,?_⟩
  conv=>whnf
  rw [Nat.zero_add]
  refine ⟨_,_,hyk,?_⟩
  refine dd ?_
  (repeat ((first | apply ya | apply yb);refine dd ?_))
  refine ⟨g1,[I p'],by rw [List.getElem?_map,hnx];rfl,?_⟩
  conv=>whnf
  exact .inl ⟨rfl,cC,trivial⟩
 ·generalize hN:xj e.next (zR e)=N at *
  have hsN:∀ {i:Nat},i < e.next.length->(xo e.next (zR e) N)[i]?= some ((yM e.next (zR e) N).contains (i:Int)):=fun h=>zgH (nx:=e.next) (i0:=zR e) (k:=N) (fun j hj=>jv j hj) h
  obtain ⟨b,hz⟩:=hz
  by_cases hok:okV e.next (zR e)=true
  ·have hp:jY e.next (zR e) N= -1:=by simpa [okV,hN] using hok
   rw [if_pos hok] at hz
   rw [hp]
   conv=>whnf
   refine ⟨fun h=>absurd h (by simp),fun _=>?_⟩
   conv=>whnf
   refine ⟨by simp,?_⟩
   conv=>whnf
   refine ⟨_,_,hz,?_⟩
   conv=>whnf
   refine ⟨fun _=>?_,fun _=>?_⟩ <;>
   ·conv=>whnf
    exact ⟨.inr rfl,_,.refl _,rfl,rfl⟩
  ·have hp:jY e.next (zR e) N≠ -1:=by intro h;exact hok (by simp [okV,hN,h])
   rw [if_neg hok] at hz
   generalize hP:jY e.next (zR e) N=p at *
   conv=>whnf
   refine ⟨fun _=>?_,fun h=>absurd h (by simp;exact hp)⟩
   refine dd ?_
   have fin:∀ (X:Prop),X->X:=fun _ h=>h
   refine ⟨fun h1=>?_,fun h1=>?_⟩
   ·refine dd ?_
    refine ⟨by simp,?_⟩
    conv=>whnf
    refine ⟨_,_,hz,?_⟩
    conv=>whnf
    refine ⟨fun _=>?_,fun _=>?_⟩ <;>
    ·conv=>whnf
     exact ⟨.inr rfl,_,.refl _,rfl,rfl⟩
   ·refine dd ?_
    refine ⟨fun h2=>?_,fun h2=>?_⟩
    ·refine dd ?_
     refine ⟨by simp,?_⟩
     conv=>whnf
     refine ⟨_,_,hz,?_⟩
     conv=>whnf
     refine ⟨fun _=>?_,fun _=>?_⟩ <;>
     ·conv=>whnf
      exact ⟨.inr rfl,_,.refl _,rfl,rfl⟩
    ·have g1:0<=p:=by simpa using h1
     have g2:p < e.next.length:=by simp at h2;omega
     have hv:(yM e.next (zR e) N).contains (((p.toNat:Nat)):Int)=true:=by
      simp only [yG,hP,Bool.or_eq_true,Bool.not_eq_true',inB,Bool.and_eq_false_iff,decide_eq_false_iff_not] at c2
      rw [Int.toNat_of_nonneg g1]
      rcases c2 with (h | h) | h
      ·exact absurd g1 h
      ·exact absurd g2 h
      ·exact h
     have hs:=hsN (i:=p.toNat) (by omega)
     rw [hv] at hs
     refine dd ?_
     refine ⟨g1,by omega,?_⟩
     conv=>whnf
     refine ⟨[Bo true],by rw [Nat.zero_add,List.getElem?_map,hs];rfl,Nat.le_refl _,?_⟩
     refine dd ?_
     (repeat ((first | apply ya | apply yb);refine dd ?_))
     refine ⟨by simp,?_⟩
     conv=>whnf
     refine ⟨_,_,hz,?_⟩
     conv=>whnf
     refine ⟨fun _=>?_,fun _=>?_⟩ <;>
     ·conv=>whnf
      exact ⟨.inr rfl,_,.refl _,rfl,rfl⟩
end Go.Slp
namespace Go.Slp
open Go.Ab Go.Proofs Go.Hy
theorem zg2 (e:En) (X Y Z W:Ob):zb Tryz.prog 59 [X,Y,Z,W] [Ev e] (.fn 78 [] [.ref 4 [] 3 0 0]) [X,Y,Z,W,⟨1,79,3,[zo e],0⟩]:=by
 refine zb.zZ (fn:=Tryz.f59) Tryz.func59 rfl ?_
 conv=>whnf
 exact ⟨.inl rfl,_,.refl _,rfl,rfl⟩
theorem zaZ (e:En) (he:e.ok) (N:Nat) (hN:xj e.next (zR e)=N) (l:Nat) (rec rec':Ob) (rr:C) (rn:Int) (b:Bool)
  (hy:∀ k,k < N->jm Tryz.prog l ([⟨1,79,3,[zo e],0⟩,⟨1,40,1,[[.lst 1 0 []]],0⟩,⟨1,100,1,[[I 0]],0⟩,⟨1,40,1,[[.gl 5 1 (vk e k)]],0⟩,⟨1,79,3,[zo e],0⟩,⟨4,3,1,(vk e k),0⟩,rec]++[⟨2,4,1,(xo e.next (zR e) (k+1)).map xZ,0⟩]) [I (jY e.next (zR e) k)] (Bo true) ([⟨1,79,3,[zo e],0⟩,⟨1,40,1,[[.lst 1 0 []]],0⟩,⟨1,100,1,[[I 0]],0⟩,⟨1,40,1,[[.gl 5 1 (vk e (k+1))]],0⟩,⟨1,79,3,[zo e],0⟩,⟨4,3,1,(vk e (k+1)),0⟩,rec]++[⟨2,4,1,(xo e.next (zR e) (k+1)).map xZ,0⟩]))
  (hz:jm Tryz.prog l ([⟨1,79,3,[zo e],0⟩,⟨1,40,1,[[.lst 1 0 []]],0⟩,⟨1,100,1,[[I 0]],0⟩,⟨1,40,1,[[.gl 5 1 (vk e N)]],0⟩,⟨1,79,3,[zo e],0⟩,⟨4,3,1,(vk e N),0⟩,rec]++[⟨2,4,1,(xo e.next (zR e) N).map xZ,0⟩]) [I (if okV e.next (zR e) then -1 else -2)] (Bo b) ([⟨1,79,3,[zo e],0⟩,⟨1,40,1,[[rr]],0⟩,⟨1,100,1,[[I rn]],0⟩,⟨1,40,1,[[.gl 5 1 (vk e N)]],0⟩,⟨1,79,3,[zo e],0⟩,⟨4,3,1,(vk e N),0⟩,rec']++[⟨2,4,1,(xo e.next (zR e) N).map xZ,0⟩])):
  zb Tryz.prog 78 [⟨1,79,3,[zo e],0⟩,⟨1,40,1,[[.lst 1 0 []]],0⟩,⟨1,100,1,[[I 0]],0⟩,⟨1,40,1,[[.gl 5 1 (vk e 0)]],0⟩,⟨1,79,3,[zo e],0⟩,⟨4,3,1,(vk e 0),0⟩,rec] [.v (.func (.yield l) #[] #[]),.ref 4 [] 3 0 0] (.tup []) ([⟨1,79,3,[zo e],0⟩,⟨1,40,1,[[rr]],0⟩,⟨1,100,1,[[I rn]],0⟩,⟨1,40,1,[[.gl 5 1 (vk e N)]],0⟩,⟨1,79,3,[zo e],0⟩,⟨4,3,1,(vk e N),0⟩,rec']++[⟨2,4,1,(xo e.next (zR e) N).map xZ,0⟩]):=by
 subst hN
 exact zfY e he l rec rec' rr rn hy ⟨b,hz⟩
abbrev tF (r:List Int × Int):C:=.tup [lI r.1,I r.2]
theorem kC (e:En) (he:e.ok):zb Tryz.prog 42 [] [Ev e] (tF (zag e)) []:=by
 have hl:=he.2.1.2
 obtain ⟨c1,c2,c3⟩:=wh e.next (zR e)
 generalize hN:xj e.next (zR e)=N at *
 refine zb.zp (fn:=Tryz.f42) Tryz.func42 rfl ?_
 conv=>whnf
 refine ⟨_,_,zg2 e _ _ _ _,?_⟩
 conv=>whnf
 refine ⟨_,zt.zdL 3 0 3 1 rfl rfl (.inl rfl) rfl rfl,?_⟩
 have jv:∀ j,j < N->0<=jY e.next (zR e) j:=fun j hj=>by
  have:=c3 j hj
  simp only [yG,Bool.or_eq_false_iff,Bool.not_eq_false',inB,Bool.and_eq_true,decide_eq_true_eq] at this
  exact this.1.1
 have hv:∀ k,(vk e k).length=k:=fun k=>by simp [zke]
 have vs:∀ k,vk e (k+1)=vk e k++[[I (jY e.next (zR e) k)]]:=fun k=>by
  show (yM e.next (zR e) (k+1)).map encI=_
  rw [zeC,List.map_append];rfl
 by_cases hok:okV e.next (zR e)=true
 ·refine ⟨.normal,_,[⟨1,79,3,[zo e],0⟩,⟨1,40,1,[[.lst 1 0 []]],0⟩,⟨1,100,1,[[I 0]],0⟩,⟨1,40,1,[[.gl 5 1 (vk e N)]],0⟩,⟨1,79,3,[zo e],0⟩,⟨4,3,1,vk e N,0⟩],fun l r h1 h2 h3 h4 h5=>⟨_,_,r,zaZ e he N hN l (obR l r _) (obR l r _) (.lst 1 0 []) 0 true (fun k hk=>?_) ?_,
   rfl,by rw [h1];decide,rfl,Nat.zero_le _,by rw [h2];trivial,zt.low 6 _ _ rfl rfl rfl⟩,?_⟩
  ·have g:=jv k hk
   have hvk:=hv k
   refine jm.zZ (id:=6) rfl h1 h2 h3 h4 h5 rfl rfl rfl ?_
   conv=>whnf
   refine ⟨rfl,rfl,?_⟩
   conv=>whnf
   refine ⟨fun h=>absurd h (by simp;omega),fun _=>?_⟩
   conv=>whnf
   refine ⟨fun h=>absurd h (by simp;omega),fun _=>?_⟩
   conv=>whnf
   refine ⟨rfl,.inr rfl,by simp [maxLen,hvk];omega,by show _ * 8<=_;simp [hvk];omega,?_⟩
   conv=>whnf
   rw [vs k]
   exact ⟨_,_,.refl _,rfl,.inl ⟨rfl,rfl,rfl⟩⟩
  ·rw [if_pos hok]
   refine jm.zZ (id:=6) rfl h1 h2 h3 h4 h5 rfl rfl rfl ?_
   conv=>whnf
   refine ⟨rfl,rfl,?_⟩
   conv=>whnf
   (repeat ((first | apply ya | apply yb);refine dd ?_))
   exact ⟨_,_,.refl _,rfl,.inl ⟨rfl,rfl,rfl⟩⟩
  ·have e1:zag e=(yM e.next (zR e) N,0):=by unfold zag;rw [if_pos hok,hN]
   rw [e1]
   conv=>whnf
   exact ⟨.inl rfl,_,.refl _,rfl⟩
 ·refine ⟨.ret,_,[⟨1,79,3,[zo e],0⟩,⟨1,40,1,[[.lst 1 0 []]],0⟩,⟨1,100,1,[[I 11]],0⟩],fun l r h1 h2 h3 h4 h5=>⟨_,_,left r .ret,zaZ e he N hN l (obR l r _) (obR l (left r .ret) _) (.lst 1 0 []) 11 false (fun k hk=>?_) ?_,
   rfl,by simp,rfl,Nat.zero_le _,trivial,zt.low 3 _ _ rfl rfl rfl⟩,?_⟩
  ·have g:=jv k hk
   have hvk:=hv k
   refine jm.zZ (id:=6) rfl h1 h2 h3 h4 h5 rfl rfl rfl ?_
   conv=>whnf
   refine ⟨rfl,rfl,?_⟩
   conv=>whnf
   refine ⟨fun h=>absurd h (by simp;omega),fun _=>?_⟩
   conv=>whnf
   refine ⟨fun h=>absurd h (by simp;omega),fun _=>?_⟩
   conv=>whnf
   refine ⟨rfl,.inr rfl,by simp [maxLen,hvk];omega,by show _ * 8<=_;simp [hvk];omega,?_⟩
   conv=>whnf
   rw [vs k]
   exact ⟨_,_,.refl _,rfl,.inl ⟨rfl,rfl,rfl⟩⟩
  ·rw [if_neg hok]
   refine jm.zZ (id:=6) rfl h1 h2 h3 h4 h5 rfl rfl rfl ?_
   conv=>whnf
   refine ⟨rfl,rfl,?_⟩
   conv=>whnf
   (repeat ((first | apply ya | apply yb);refine dd ?_))
   exact ⟨_,_,.refl _,rfl,.inr ⟨rfl,.inl ⟨rfl,rfl⟩⟩⟩
  ·have e1:zag e=([],11):=by unfold zag;rw [if_neg hok]
   rw [e1]
   conv=>whnf
   exact ⟨.inl rfl,_,zt.var 1 rfl rfl rfl (.cons (WC.nil 0 1) .nil),rfl⟩
end Go.Slp
namespace Go.Slp
open Go.Ab Go.Proofs Go.Hy
def zqg (l:List Int) (x:Int):Int:=match l.findIdx? (· == x) with | some i=>i | none=> -1
theorem znp (e:En):((zag e).2 == 0)=okV e.next (zR e):=by
 unfold zag
 cases okV e.next (zR e) <;> simp
theorem kf (e:En) (he:e.ok):zb Tryz.prog 43 [] [Ev e] (Bo (isV e)) []:=by
 have h0:=znp e
 refine zb.zp (fn:=Tryz.f43) Tryz.func43 rfl ?_
 conv=>whnf
 refine ⟨_,_,(kC e he).frame rfl _,?_⟩;refine dd ?_
 refine ⟨fun h1=>?_,fun h1=>?_⟩
 ·rw [show ((zag e).2 == 0)=true from h1] at h0
  refine dd ?_
  refine ⟨fun h2=>?_,fun h2=>?_⟩
  ·refine dd ?_
   refine ⟨fun h3=>?_,fun h3=>?_⟩
   ·refine dd ?_
    (repeat' (first | (refine ⟨fun _=>?_,fun _=>?_⟩ <;> (conv=>whnf)) | fail))
    all_goals (rename_i h4;(exact ⟨.inl rfl,_,.refl _,congrArg (fun b=>some (C.v (Value.bool b))) (by simp at h2 h3 h4;simp [isV,<- h0];omega)⟩))
   ·refine dd ?_
    (exact ⟨.inl rfl,_,.refl _,congrArg (fun b=>some (C.v (Value.bool b))) (by simp at h2 h3;simp [isV,<- h0];omega)⟩)
  ·refine dd ?_
   (exact ⟨.inl rfl,_,.refl _,congrArg (fun b=>some (C.v (Value.bool b))) (by simp at h2;simp [isV,<- h0];omega)⟩)
 ·rw [show ((zag e).2 == 0)=false from h1] at h0
  refine dd ?_
  (exact ⟨.inl rfl,_,.refl _,congrArg (fun b=>some (C.v (Value.bool b))) (by simp [isV,<- h0])⟩)
end Go.Slp
namespace Go.Slp
open Go.Ab Go.Proofs Go.Hy
theorem zaC (x i:Int) (h:u64 x) (h3: -1<=i) (h4:i<=2147483646):zb Tryz.prog 85 [] [U x,I i] (.tup [U (xx x i),I 0]) []:=
 zbh [] (fun w=>(YtdbcjcnfaajpjaaGreat.zms x i w (zgP h).1 (zgP h).2 h3 h4).mono fun e w' ⟨h1,h2⟩=>⟨h1,h2.symm⟩) zlO fun E=>.tup _ _ rfl fun j c y e1 e2=>by
  match j,e1,e2 with
  | 0,e1,e2=>cases e1;cases e2;exact .v _ rfl
  | 1,e1,e2=>cases e1;cases e2;exact .v _ rfl
abbrev tP (r:En × Int × Int):C:=.tup [Ev r.1,I r.2.1,I r.2.2]
abbrev tQ (r:En × Int):C:=.tup [Ev r.1,I r.2]
end Go.Slp
namespace Go.Slp
open Go.Ab Go.Proofs Go.Hy
theorem qi (X Y:Ob) (x:Int) (l:List Int) (hl:l.length < 17592186043904):zb Tryz.prog 126 [X,Y] [lI (x::l)] (.sl 2 [] 1 0 (0+((l.map encI).length+1)) false) [X,Y,⟨2,3,1,(x::l).map encI,0⟩]:=by
 refine zb.zZ (fn:=Tryz.f126) Tryz.func126 rfl ?_
 conv=>whnf
 refine ⟨by simp,?_⟩
 conv=>whnf
 refine .inr ⟨.inl rfl,by simp [maxLen];omega,by show _ * 8<=_;simp;omega,?_⟩
 conv=>whnf
 exact ⟨.inl rfl,_,.refl _,rfl,rfl⟩
theorem zhL (a b:List Int) (ha:a.length < 4611686018427387904) (hb:b.length < 4611686018427387904):zb Tryz.prog 10 [] [lI a,lI b] (Bo (a == b)) []:=by
 refine zb.zp (fn:=Tryz.f10) Tryz.func10 rfl ?_
 conv=>whnf
 refine ⟨fun h=>?_,fun h=>?_⟩
 ·refine dd ?_
  (exact ⟨.inl rfl,_,.refl _,congrArg (fun b=>some (C.v (Value.bool b))) (by symm;rw [beq_eq_false_iff_ne];intro e;subst e;simp at h)⟩)
 ·have hl:a.length=b.length:=by simp at h;omega
  refine dd ?_
  refine qa.seq a.length (fun k=>[lI a,lI b,.za,.za,Bo false,I k,.za,.za,.za,.za,.za,.za,.za,.za,.za,.za,.za,.za,.za,.za,.za,.za,.za,.za,.za,.za]) (fun k=>[]) (fun k=>∀ j,(h:j < a.length)->j < k->a[j]=b[j]'(by omega)) ?_ (by simp) (fun k hk hr=>?_) (fun hr=>?_)
  ·exact cC
  ·conv=>whnf
   refine ⟨fun h=>?_,fun h=>absurd h (by simp;omega)⟩
   conv=>whnf
   refine .inl ⟨⟨false,[],[],[]⟩,by kernel_rfl,?_⟩;(conv=>whnf)
   refine ⟨by omega,encI a[k],by simp [hk],?_⟩
   refine dd ?_
   refine ⟨by omega,encI (b[k]'(by omega)),by rw [toNat_cast,List.getElem?_map,List.getElem?_eq_getElem (by omega)];rfl,?_⟩
   refine dd ?_
   refine ⟨fun h2=>?_,fun h2=>?_⟩
   ·refine dd ?_
    refine .inr ⟨by simp,?_⟩
    conv=>whnf
    (exact ⟨.inl rfl,_,.refl _,congrArg (fun b=>some (C.v (Value.bool b))) (by symm;rw [beq_eq_false_iff_ne];intro e;subst e;simp at h2)⟩)
   ·refine dd ?_
    refine .inl ⟨rfl,?_,?_⟩
    ·rw [zC (by omega)]
     exact cE 0
    ·intro j hj hjk
     by_cases e:j=k
     ·subst e;simpa using h2
     ·exact hr j hj (by omega)
  ·conv=>whnf
   refine ⟨fun h=>absurd h (by simp),fun h=>?_⟩
   conv=>whnf
   refine ⟨by simp,?_⟩
   conv=>whnf
   (exact ⟨.inl rfl,_,.refl _,congrArg (fun b=>some (C.v (Value.bool b))) (by symm;rw [beq_iff_eq];exact List.ext_getElem hl fun j h1 h2=>hr j h1 h1)⟩)
def wI (a b:En):Bool:=a.head == b.head && a.zj == b.zj && a.next == b.next
theorem zhK (a b:En) (ha:a.ok) (hb:b.ok):zb Tryz.prog 48 [] [Ev a,Ev b] (Bo (wI a b)) []:=by
 have hal:=ha.2.1.2
 have hbl:=hb.2.1.2
 refine zb.zp (fn:=Tryz.f48) Tryz.func48 rfl ?_
 conv=>whnf
 refine ⟨fun h=>?_,fun h=>?_⟩
 ·refine dd ?_
  (exact ⟨.inl rfl,_,.refl _,congrArg (fun b=>some (C.v (Value.bool b))) (by simp [wI];simp at h;simp [h])⟩)
 ·refine dd ?_
  refine ⟨fun h2=>?_,fun h2=>?_⟩
  ·refine dd ?_
   (exact ⟨.inl rfl,_,.refl _,congrArg (fun b=>some (C.v (Value.bool b))) (by simp [wI];simp at h2;simp [h2])⟩)
  ·refine dd ?_
   refine ⟨fun h3=>?_,fun h3=>?_⟩
   ·refine dd ?_
    (exact ⟨.inl rfl,_,.refl _,congrArg (fun b=>some (C.v (Value.bool b))) (by simp [wI];intro _ _ e;rw [e] at h3;simp at h3)⟩)
   ·have hl:a.next.length=b.next.length:=by simp at h3;omega
    have e0:wI a b=(a.next == b.next):=by simp at h h2;simp [wI,h,h2]
    rw [e0]
    refine dd ?_
    refine qa.seq a.next.length (fun k=>[.za,.za,.ref 0 [] 3 0 0,.ref 1 [] 3 0 0,Bo false,I k,.za,.za,.za,.za,.za,.za,.za,.za,.za,.za,.za,.za,.za,.za,.za,.za,.za,.za,.za,.za,.za,.za,.za,.za,.za,.za,.za,.za,.za,.za,.za,.za,.za,.za,.za,.za,.za,.za,.za]) (fun k=>[⟨1,79,3,[zo a],0⟩,⟨1,79,3,[zo b],0⟩]) (fun k=>∀ j,(h:j < a.next.length)->j < k->a.next[j]=b.next[j]'(by omega)) ?_ (by simp) (fun k hk hr=>?_) (fun hr=>?_)
    ·exact cC
    ·conv=>whnf
     refine ⟨fun h=>?_,fun h=>absurd h (by simp;omega)⟩
     conv=>whnf
     refine .inl ⟨⟨false,[],[],[]⟩,by kernel_rfl,?_⟩;(conv=>whnf)
     refine ⟨by omega,encI a.next[k],by simp [hk],?_⟩
     refine dd ?_
     refine ⟨by omega,encI (b.next[k]'(by omega)),by rw [toNat_cast,List.getElem?_map,List.getElem?_eq_getElem (by omega)];rfl,?_⟩
     refine dd ?_
     refine ⟨fun h4=>?_,fun h4=>?_⟩
     ·refine dd ?_
      refine .inr ⟨by simp,?_⟩
      conv=>whnf
      (exact ⟨.inl rfl,_,.refl _,congrArg (fun b=>some (C.v (Value.bool b))) (by symm;rw [beq_eq_false_iff_ne];intro e;simp [e] at h4)⟩)
     ·refine dd ?_
      refine .inl ⟨rfl,?_,?_⟩
      ·rw [zC (by omega)]
       exact cE 2
      ·intro j hj hjk
       by_cases e:j=k
       ·subst e;simpa using h4
       ·exact hr j hj (by omega)
    ·conv=>whnf
     refine ⟨fun h=>absurd h (by simp),fun h=>?_⟩
     conv=>whnf
     refine ⟨by simp,?_⟩
     conv=>whnf
     (exact ⟨.inl rfl,_,.refl _,congrArg (fun b=>some (C.v (Value.bool b))) (by symm;rw [beq_iff_eq];exact List.ext_getElem hl fun j h1 h2=>hr j h1 h1)⟩)
end Go.Slp
namespace Go.Slp
open Go.Ab Go.Proofs Go.Hy
theorem zjb:zb Tryz.prog 110 [] [.v (.int .u32 0),I 0] (.tup [U 1,I 0]) []:=
 zbh [] (fun w=>(YtdbcjcnfaajpjaaGreat.zhs 0 0 w (by decide) (by decide) (by decide) (by decide)).mono fun e w' ⟨h1,h2⟩=>⟨h1,h2.symm⟩) zlO fun E=>.tup _ _ rfl fun j c y e1 e2=>by
  match j,e1,e2 with
  | 0,e1,e2=>cases e1;cases e2;exact .v _ rfl
  | 1,e1,e2=>cases e1;cases e2;exact .v _ rfl
def yo (n k:Nat):List Int:=(List.range n).map fun i=>if i < k then (i:Int)+1 else 0
def zav (n:Nat):List Int:=(List.range n).map fun (i:Nat)=>if i+1=n then -1 else (i:Int)+1
theorem kl (n k:Nat):(yo n k).length=n:=by simp [yo]
theorem zlm {n k:Nat} (h:k < n):(yo n k).set k ((k:Int)+1)=yo n (k+1):=by
 apply List.ext_getElem?
 intro j
 rw [List.getElem?_set,kl]
 unfold yo
 simp only [List.getElem?_map]
 by_cases hj:j < n
 ·rw [List.getElem?_range hj]
  by_cases e:k=j
  ·subst e;simp [h]
  ·simp only [e,if_false,Option.map_some]
   by_cases h2:j < k
   ·simp [h2,show j < k+1 from by omega]
   ·simp [h2,show ¬j < k+1 from by omega]
 ·rw [List.getElem?_eq_none (by simp;omega)]
  simp
  omega
theorem zmN {n:Nat}:(yo n n).set (n - 1) (-1)=zav n:=by
 apply List.ext_getElem?
 intro j
 rw [List.getElem?_set,kl]
 unfold yo zav
 simp only [List.getElem?_map]
 by_cases hj:j < n
 ·rw [List.getElem?_range hj]
  by_cases e:n - 1=j
  ·subst e;simp [show n - 1 < n from by omega,show n - 1+1=n from by omega]
  ·simp only [e,if_false,Option.map_some,hj,if_true,show ¬j+1=n from by omega]
 ·rw [List.getElem?_eq_none (by simp;omega)]
  simp
  omega
theorem zmb {n:Int} (h1:¬(n < 1∨4 < n)):yJ n=(⟨1,zav n.toNat,0⟩,0):=by unfold yJ;rw [if_neg h1];rfl
theorem wt (n:Int):zb Tryz.prog 80 [] [I n] (tQ (yJ n)) []:=by
 refine zb.zp (fn:=Tryz.f80) Tryz.func80 rfl ?_
 conv=>whnf
 have hbad:n < 1∨4 < n->yJ n=(no,1):=fun h=>by unfold yJ;rw [if_pos h]
 refine ⟨fun h1=>?_,fun h1=>?_⟩
 ·rw [hbad (.inl (by simpa using h1))]
  refine dd ?_
  exact ⟨.inl rfl,_,zt.var 0 rfl rfl rfl (.cons (.refl _) (.cons (WC.nil 0 1) (.cons (.refl _) .nil))),rfl⟩
 ·refine dd ?_
  refine ⟨fun h2=>?_,fun h2=>?_⟩
  ·rw [hbad (.inr (by simpa using h2))]
   refine dd ?_
   exact ⟨.inl rfl,_,zt.var 0 rfl rfl rfl (.cons (.refl _) (.cons (WC.nil 0 1) (.cons (.refl _) .nil))),rfl⟩
  ·have g1:1<=n:=by simp at h1;omega
   have g2:n<=4:=by simp at h2;omega
   rw [zmb (by omega)]
   obtain ⟨m,rfl⟩:∃ m:Nat,n=m:=⟨n.toNat,by omega⟩
   rw [toNat_cast]
   refine dd ?_
   refine ⟨rfl,by omega,by show (8:Int) * _<=_;omega,by omega,?_⟩
   refine dd ?_
   refine qa.seq m (fun k=>[I m,.za,.ref 0 [] 3 0 0,I 0,.ref 2 [] 3 0 0,.za,.za,.za,.za,.za,.za,.za,.za,.za,.za,.za,.za,.za,I m,I k,.za,.za,.za,.za,.za,.za,.za,.za,.za,.za,.za,.za,.za,.za,.za,.za,.za,.za,.za,.za]) (fun k=>[⟨1,79,3,[[U 0,.lst 1 0 [],I 0]],0⟩,⟨2,3,1,(yo m k).map encI,0⟩,⟨1,79,3,[[U 0,.sl 1 [] 1 0 m false,I 0]],0⟩]) (fun _=>True) ?_ trivial (fun k hk _=>?_) (fun _=>?_)
   ·have e1:List.replicate ((m:Int)).toNat [C.v (Value.int .i64 0)]=(yo m 0).map encI:=by
     simp only [toNat_cast]
     apply List.ext_getElem?
     intro j
     rw [List.getElem?_replicate,List.getElem?_map]
     unfold yo
     simp only [List.getElem?_map]
     split
     ·rename_i hj;rw [List.getElem?_range hj];rfl
     ·rw [List.getElem?_eq_none (by simp;omega)];rfl
    show zt 0 ⟨_,[_,⟨2,3,1,List.replicate ((m:Int)).toNat [C.v (Value.int .i64 0)],0⟩,_]⟩ _
    rw [e1]
    exact cC
   ·have hg:((yo m k).map encI)[k]?= some (encI ((yo m k)[k]'(by rw [kl];exact hk))):=by rw [List.getElem?_map,List.getElem?_eq_getElem (by rw [kl];exact hk)];rfl
    have hse:((yo m k).map encI).set k [I ((k+1:Nat):Int)]=(yo m (k+1)).map encI:=by rw [<- zlm hk,List.map_set];rfl
    conv=>whnf
    refine ⟨fun _=>?_,fun h=>absurd h (by simp;omega)⟩
    conv=>whnf
    refine ⟨by omega,by simp;omega,?_⟩
    refine dd ?_
    rw [Nat.zero_add,zC (by omega),toNat_cast]
    refine ⟨_,hg,rfl,?_⟩
    refine dd ?_
    rw [show List.set (List.map encI (yo m k)) k [C.v (Value.int IntKind.i64 ((k+1:Nat):Int))]=(yo m (k+1)).map encI from hse]
    refine .inl ⟨rfl,?_,trivial⟩
    rw [zC (by omega)]
    exact cE 3
   ·have hg:((yo m m).map encI)[m - 1]?= some (encI ((yo m m)[m - 1]'(by rw [kl];omega))):=by rw [List.getElem?_map,List.getElem?_eq_getElem (by rw [kl];omega)];rfl
    have hse:((yo m m).map encI).set (m - 1) [I (-1)]=(zav m).map encI:=by rw [<- zmN,List.map_set];rfl
    have hw:IntKind.i64.wrap ((m:Int) - 1)=((m - 1:Nat):Int):=by rw [jw (by omega) (by omega)];omega
    have hfl:(zav m).length=m:=by simp [zav]
    conv=>whnf
    refine ⟨fun h=>absurd h (by simp),fun _=>?_⟩
    conv=>whnf
    refine ⟨by simp,?_⟩
    conv=>whnf
    rw [hw]
    refine ⟨by omega,by simp;omega,?_⟩
    refine dd ?_
    rw [Nat.zero_add,toNat_cast]
    refine ⟨_,hg,rfl,?_⟩
    refine dd ?_
    rw [show List.set (List.map encI (yo m m)) (m - 1) [C.v (Value.int IntKind.i64 (-1))]=(zav m).map encI from hse]
    refine ⟨_,_,(zjb).frame rfl _,?_⟩;refine dd ?_
    exact ⟨.inl rfl,_,zt.znq 0 1 rfl rfl rfl (by simp [hfl]) (fun r hr c hc=>by
     obtain ⟨n,_,rfl⟩:=List.mem_map.1 hr
     simp [encI] at hc
     subst hc;rfl) rfl rfl,rfl⟩
def zqk (k:Nat):List Int:=(List.range k).map fun (i:Nat)=>(i:Int)+1
end Go.Slp
