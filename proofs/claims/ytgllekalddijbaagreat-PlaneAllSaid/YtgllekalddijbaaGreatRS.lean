import Derived.WalkKit
import Derived.Test.YtgllekalddijbaaGreatRows
import Derived.Test.YtgllekalddijbaaGreatRJ
import Derived.Test.YtgllekalddijbaaGreatRC
import Derived.Test.YtgllekalddijbaaGreatProg
set_option linter.unusedVariables false
set_option linter.unusedSimpArgs false
set_option linter.unusedSectionVars false
set_option maxRecDepth 100000
set_option maxHeartbeats 4000000
namespace Go.Proofs.YtgllekalddijbaaGreat
open Go.RowKit
theorem znu (t i:Int) (h1:0<=t) (h2:t < 4294967296) (h3: -1<=i) (h4:i<=2147483646):
  bits .or .u64 (t * 4294967296) (i+1)=t * 4294967296+(i+1):=by
 rw [u64_or _ _ (by omega) (by omega) (by omega) (by omega)]
 obtain ⟨a,rfl⟩:=Int.eq_ofNat_of_zero_le h1
 obtain ⟨b,hb⟩:=Int.eq_ofNat_of_zero_le (show 0<=i+1 by omega)
 rw [hb]
 have hlt:b < 2 ^ 32:=by have:(b:Int) < 4294967296:=by omega
                         simpa using (by omega:b < 4294967296)
 have:=Nat.two_pow_add_eq_or_of_lt hlt a
 have e:((a:Int) * 4294967296).toNat=2 ^ 32 * a:=by omega
 rw [e,Int.toNat_natCast,<- this]
 omega
theorem zgt (t i:Int) (w:World) (h1:0<=t) (h2:t < 4294967296) (h3: -1<=i) (h4:i<=2147483646):
  Calls Tryz.prog 237 #[.int .u32 t,.int .i64 i] w fun e w'=>e=.returned (.tuple #[.int .u64 (t * 4294967296+(i+1)),.int .i64 0])∧w=w':=by
 go_enter Tryz.func237,Tryz.ntmps237
 go_wp2
 go_ret2
 exact ⟨by simp [znu t i h1 h2 h3 h4],rfl⟩
theorem zmK (x:Int) (w:World) (h1:0<=x) (h2:x < 18446744073709551616):
  Calls Tryz.prog 282 #[.int .u64 x] w fun e w'=>e=.returned (.int .u32 (x / 4294967296))∧w=w':=by
 go_enter Tryz.func282,Tryz.ntmps282
 go_wp2
 go_ret
 exact ⟨rfl,rfl⟩
theorem zjG (x:Int) (w:World) (h1:0<=x) (h2:x < 18446744073709551616):
  Calls Tryz.prog 159 #[.int .u64 x] w fun e w'=>e=.returned (.int .i64 (x % 4294967296 - 1))∧w=w':=by
 go_enter Tryz.func159,Tryz.ntmps159
 go_wp2
 go_ret
 exact ⟨rfl,rfl⟩
end Go.Proofs.YtgllekalddijbaaGreat
namespace Go.Proofs.YtgllekalddijbaaGreat
open Go.RowKit
theorem zlg (x i:Int) (w:World) (h1:0<=x) (h2:x < 18446744073709551616) (h3: -1<=i) (h4:i<=2147483646):
  Calls Tryz.prog 217 #[.int .u64 x,.int .i64 i] w fun e w'=>e=.returned (.tuple #[.int .u64 ((x / 4294967296+1) % 4294967296 * 4294967296+(i+1)),.int .i64 0])∧w=w':=by
 go_enter Tryz.func217,Tryz.ntmps217
 go_wp2_with (first | (go_at_call 282;refine (zmK _ _ h1 h2).mono ?_;rintro e w' ⟨rfl,rfl⟩) | (go_at_call 237;refine (zgt _ _ _ (by omega) (by omega) h3 h4).mono ?_;rintro e w' ⟨rfl,rfl⟩))
 go_ret2
 exact ⟨rfl,rfl⟩
end Go.Proofs.YtgllekalddijbaaGreat
namespace Go.Slp
open Go.Ab Go.Hy
def inB (nx:List Int) (i:Int):Bool:=decide (0<=i) && decide (i < nx.length)
def nxt (nx:List Int) (i:Int):Int:=(nx[i.toNat]?).getD 0
def q6 (nx:List Int) (i0:Int):Nat->Int
 | 0=>i0
 | k+1=>nxt nx (q6 nx i0 k)
def jl (nx:List Int) (i0:Int) (k:Nat):List Int:=(List.range k).map (q6 nx i0)
def j9 (nx:List Int) (i0:Int) (k:Nat):Bool:=!inB nx (q6 nx i0 k) || (jl nx i0 k).contains (q6 nx i0 k)
def jb (nx:List Int) (i0:Int):Nat:=((List.range (nx.length+1)).find? (j9 nx i0)).getD 0
def okV (nx:List Int) (i0:Int):Bool:=q6 nx i0 (jb nx i0) == -1
theorem zic:∀ (n:Nat) (l:List Int),l.Nodup->(∀ x ∈ l,0<=x∧x < n)->l.length<=n
 | 0,l,_,h=>by
  cases l with
  | nil=>exact Nat.le_refl _
  | cons x l=>have:=h x (List.mem_cons_self ..);omega
 | n+1,l,hd,h=>by
  by_cases hm:(n:Int) ∈ l
  ·have h1:=zic n (l.erase n) (hd.erase _) fun x hx=>by
    have h2:=h x (List.mem_of_mem_erase hx)
    have h3:x≠n:=fun e=>by
     subst e
     exact absurd hx (List.Nodup.not_mem_erase hd)
    omega
   rw [List.length_erase_of_mem hm] at h1
   omega
  ·have:=zic n l hd fun x hx=>by
    have h2:=h x hx
    have h3:x≠n:=fun e=>hm (e ▸ hx)
    omega
   omega
theorem zd5 (nx:List Int) (i0:Int) (k:Nat):jl nx i0 (k+1)=jl nx i0 k++[q6 nx i0 k]:=by
 simp [jl,List.range_succ]
theorem zi8 (nx:List Int) (i0:Int) (k:Nat):(jl nx i0 k).length=k:=by simp [jl]
theorem za9 {nx:List Int} {i0:Int}:∀ {k:Nat},(∀ j,j < k->j9 nx i0 j=false)->(jl nx i0 k).Nodup∧∀ x ∈ jl nx i0 k,inB nx x=true
 | 0,_=>⟨by simp [jl],by simp [jl]⟩
 | k+1,h=>by
  obtain ⟨h1,h2⟩:=za9 (k:=k) fun j hj=>h j (by omega)
  have h3:=h k (by omega)
  simp only [j9,Bool.or_eq_false_iff,Bool.not_eq_false'] at h3
  have h4:q6 nx i0 k ∉ jl nx i0 k:=by simpa using h3.2
  rw [zd5]
  refine ⟨?_,?_⟩
  ·rw [List.nodup_append]
   refine ⟨h1,by simp,?_⟩
   intro a ha b hb e
   rw [List.mem_singleton] at hb
   subst hb e
   exact h4 ha
  ·intro x hx
   rcases List.mem_append.1 hx with hx | hx
   ·exact h2 x hx
   ·rw [List.mem_singleton.1 hx];exact h3.1
theorem xr (nx:List Int) (i0:Int):jb nx i0<=nx.length∧j9 nx i0 (jb nx i0)=true∧∀ j,j < jb nx i0->j9 nx i0 j=false:=by
 unfold jb
 cases e:(List.range (nx.length+1)).find? (j9 nx i0) with
 | none=>
  exfalso
  rw [List.find?_eq_none] at e
  have h:∀ j,j < nx.length+1->j9 nx i0 j=false:=fun j hj=>by simpa using e j (List.mem_range.2 hj)
  obtain ⟨h1,h2⟩:=za9 h
  have:=zic nx.length _ h1 fun x hx=>by
   have:=h2 x hx
   simp only [inB,Bool.and_eq_true,decide_eq_true_eq] at this
   exact this
  rw [zi8] at this
  omega
 | some k=>
  rw [List.find?_eq_some_iff_append] at e
  obtain ⟨h1,az,bs,h2,h3⟩:=e
  have hk:az.length=k∧k < nx.length+1:=by
   have h4:(List.range (nx.length+1))[az.length]?= some k:=by rw [h2];simp
   have h5:=(List.getElem?_eq_some_iff.1 h4)
   obtain ⟨h6,h7⟩:=h5
   rw [List.getElem_range] at h7
   simp at h6
   omega
  refine ⟨by simp;omega,by simpa using h1,fun j hj=>?_⟩
  have h8:(List.range (nx.length+1))[j]?= some j:=by
   simp at hj
   rw [List.getElem?_range (by omega)]
  rw [h2,List.getElem?_append_left (by simp at hj;omega)] at h8
  simpa using h3 j (List.mem_of_getElem? h8)
theorem zcX {nx:List Int} {i0:Int} {n:Nat} (h1:j9 nx i0 n=true) (h2:∀ j,j < n->j9 nx i0 j=false):jb nx i0=n:=by
 obtain ⟨_,h3,h4⟩:=xr nx i0
 rcases Nat.lt_trichotomy (jb nx i0) n with h | h | h
 ·rw [h2 _ h] at h3;cases h3
 ·exact h
 ·rw [h4 _ h] at h1;cases h1
abbrev no:En:=⟨0,[],0⟩
def zB (e:En):Int:=e.head % 4294967296 - 1
def z6 (x i:Int):Int:=(x / 4294967296+1) % 4294967296 * 4294967296+(i+1)
def qn (e:En):List Int × Int:=if okV e.next (zB e) then (jl e.next (zB e) (jb e.next (zB e)),0) else ([],11)
def isV (e:En):Bool:=okV e.next (zB e) && decide (1<=e.next.length) && decide (e.next.length<=4) && decide (0<=e.zj)
def zmz (e:En):En × Int × Int:=
 if isV e=false then (no,0,11) else if zB e < 0 then (no,0,5) else (⟨z6 e.head (nxt e.next (zB e)),e.next,e.zj⟩,zB e,0)
def zi0 (e:En) (slot:Int):En × Int:=
 if isV e=false then (no,11) else if slot < 0∨e.next.length<=slot then (no,1) else if (qn e).1.contains slot then (no,4)
 else (⟨z6 e.head slot,e.next.set slot.toNat (zB e),e.zj⟩,0)
def vr (n:Int):En × Int:=if n < 1∨4 < n then (no,1) else (⟨1,(List.range n.toNat).map fun (i:Nat)=>if i+1=n.toNat then -1 else (i:Int)+1,0⟩,0)
theorem zk5 (e:En): -1<=zB e∧zB e<=4294967294:=by unfold zB;omega
theorem zmi {nx:List Int} {i0:Int} (h:okV nx i0=true) {k:Nat} (hk:k < jb nx i0):inB nx (q6 nx i0 k)=true∧ -1<=q6 nx i0 (k+1)∧q6 nx i0 (k+1) < nx.length:=by
 obtain ⟨h1,h2,h3⟩:=xr nx i0
 have h4:=h3 k hk
 simp only [j9,Bool.or_eq_false_iff,Bool.not_eq_false'] at h4
 refine ⟨h4.1,?_⟩
 rcases Nat.lt_or_ge (k+1) (jb nx i0) with h5 | h5
 ·have h6:=h3 _ h5
  simp only [j9,Bool.or_eq_false_iff,Bool.not_eq_false',inB,Bool.and_eq_true,decide_eq_true_eq] at h6
  omega
 ·have e:k+1=jb nx i0:=by omega
  rw [e]
  simp only [okV,beq_iff_eq] at h
  rw [h]
  omega
theorem ziH {nx:List Int} {i0:Int} (h:okV nx i0=true) (h0:¬i0 < 0):0 < jb nx i0:=by
 rcases Nat.eq_zero_or_pos (jb nx i0) with e | e
 ·simp only [okV,e,q6,beq_iff_eq] at h
  omega
 ·exact e
theorem k5 {e:En} (h:isV e=true):okV e.next (zB e)=true∧1<=e.next.length∧e.next.length<=4∧0<=e.zj:=by
 simp only [isV,Bool.and_eq_true,decide_eq_true_eq] at h
 exact ⟨h.1.1.1,h.1.1.2,h.1.2,h.2⟩
theorem ziL {e:En} (h:isV e=true) (h0:¬zB e < 0):0<=zB e∧zB e < e.next.length∧ -1<=nxt e.next (zB e)∧nxt e.next (zB e) < e.next.length:=by
 obtain ⟨h1,h2,h3,h4⟩:=k5 h
 obtain ⟨h5,h6,h7⟩:=zmi h1 (ziH h1 h0)
 simp only [inB,q6,Bool.and_eq_true] at h5
 exact ⟨of_decide_eq_true h5.1,of_decide_eq_true h5.2,h6,h7⟩
def xh (nx:List Int) (i0:Int):Nat->List Bool
 | 0=>List.replicate nx.length false
 | k+1=>(xh nx i0 k).set (q6 nx i0 k).toNat true
theorem zgK (nx:List Int) (i0:Int):∀ k,(xh nx i0 k).length=nx.length
 | 0=>by simp [xh]
 | k+1=>by simp [xh,zgK nx i0 k]
theorem zfQ {nx:List Int} {i0:Int}:∀ {k:Nat},(∀ j,j < k->inB nx (q6 nx i0 j)=true)->∀ {i:Nat},i < nx.length->(xh nx i0 k)[i]?= some ((jl nx i0 k).contains (i:Int))
 | 0,_,i,hi=>by simp [xh,jl,hi]
 | k+1,h,i,hi=>by
  have ih:=zfQ (k:=k) (fun j hj=>h j (by omega)) hi
  have hb:=h k (by omega)
  simp only [inB,Bool.and_eq_true,decide_eq_true_eq] at hb
  rw [zd5]
  simp only [xh]
  rw [List.getElem?_set,zgK]
  by_cases e:(q6 nx i0 k).toNat=i
  ·rw [if_pos e,if_pos (by omega)]
   have:(i:Int)=q6 nx i0 k:=by omega
   simp [this]
  ·rw [if_neg e,ih]
   have:¬(i:Int)=q6 nx i0 k:=by omega
   simp [this]
end Go.Slp
namespace Go.Slp
open Go.Ab Go.Proofs Go.Hy
theorem zfU {x:Int} (h:u64 x):0<=x∧x < 18446744073709551616:=by unfold u64 at h;omega
theorem qg (x:Int) (h:u64 x):zc Tryz.prog 159 [] [U x] (I (x % 4294967296 - 1)) []:=
 zaU [] (fun w=>(YtgllekalddijbaaGreat.zjG x w (zfU h).1 (zfU h).2).mono fun e w' ⟨h1,h2⟩=>⟨h1,h2.symm⟩) znV fun E=>.v _ rfl
abbrev Ev (e:En):C:=.agg (zn e)
abbrev vk (e:En) (k:Nat):List (List C):=(jl e.next (zB e) k).map encI
theorem zfg (e:En) (he:e.ok) (l:Nat) (rec rec':Ob) (rr:C) (rn:Int)
  (hy:∀ k,k < jb e.next (zB e)->jf Tryz.prog l ([⟨1,97,3,[zn e],0⟩,⟨1,22,1,[[.lst 1 0 []]],0⟩,⟨1,58,1,[[I 0]],0⟩,⟨1,22,1,[[.gl 5 1 (vk e k)]],0⟩,⟨1,97,3,[zn e],0⟩,⟨4,3,1,(vk e k),0⟩,rec]++[⟨2,4,1,(xh e.next (zB e) (k+1)).map yu,0⟩]) [I (q6 e.next (zB e) k)] (Bo true) ([⟨1,97,3,[zn e],0⟩,⟨1,22,1,[[.lst 1 0 []]],0⟩,⟨1,58,1,[[I 0]],0⟩,⟨1,22,1,[[.gl 5 1 (vk e (k+1))]],0⟩,⟨1,97,3,[zn e],0⟩,⟨4,3,1,(vk e (k+1)),0⟩,rec]++[⟨2,4,1,(xh e.next (zB e) (k+1)).map yu,0⟩]))
  (hz:∃ b,jf Tryz.prog l ([⟨1,97,3,[zn e],0⟩,⟨1,22,1,[[.lst 1 0 []]],0⟩,⟨1,58,1,[[I 0]],0⟩,⟨1,22,1,[[.gl 5 1 (vk e (jb e.next (zB e)))]],0⟩,⟨1,97,3,[zn e],0⟩,⟨4,3,1,(vk e (jb e.next (zB e))),0⟩,rec]++[⟨2,4,1,(xh e.next (zB e) (jb e.next (zB e))).map yu,0⟩]) [I (if okV e.next (zB e) then -1 else -2)] (Bo b) ([⟨1,97,3,[zn e],0⟩,⟨1,22,1,[[rr]],0⟩,⟨1,58,1,[[I rn]],0⟩,⟨1,22,1,[[.gl 5 1 (vk e (jb e.next (zB e)))]],0⟩,⟨1,97,3,[zn e],0⟩,⟨4,3,1,(vk e (jb e.next (zB e))),0⟩,rec']++[⟨2,4,1,(xh e.next (zB e) (jb e.next (zB e))).map yu,0⟩])):
  zc Tryz.prog 158 [⟨1,97,3,[zn e],0⟩,⟨1,22,1,[[.lst 1 0 []]],0⟩,⟨1,58,1,[[I 0]],0⟩,⟨1,22,1,[[.gl 5 1 (vk e 0)]],0⟩,⟨1,97,3,[zn e],0⟩,⟨4,3,1,(vk e 0),0⟩,rec] [.v (.func (.yield l) #[] #[]),.ref 4 [] 3 0 0] (.tup []) ([⟨1,97,3,[zn e],0⟩,⟨1,22,1,[[rr]],0⟩,⟨1,58,1,[[I rn]],0⟩,⟨1,22,1,[[.gl 5 1 (vk e (jb e.next (zB e)))]],0⟩,⟨1,97,3,[zn e],0⟩,⟨4,3,1,(vk e (jb e.next (zB e))),0⟩,rec']++[⟨2,4,1,(xh e.next (zB e) (jb e.next (zB e))).map yu,0⟩]):=by
 refine zc.zW (fn:=Tryz.f158) Tryz.func158 rfl ?_
 conv=>whnf
 have hl:=he.2.1.2
 have hlm:(e.next.map encI).length=e.next.length:=List.length_map ..
 obtain ⟨c1,c2,c3⟩:=xr e.next (zB e)
 have jt:∀ j,j < jb e.next (zB e)->inB e.next (q6 e.next (zB e) j)=true:=fun j hj=>by
  have:=c3 j hj
  simp only [j9,Bool.or_eq_false_iff,Bool.not_eq_false'] at this
  exact this.1
 refine ⟨rfl,by omega,by show (1:Int) * _<=_;omega,by omega,?_⟩
 conv=>whnf
 refine ⟨_,_,(qg e.head he.1).frame rfl _,?_⟩;refine dd ?_
 refine qb.seq (jb e.next (zB e)) (fun k=>[.v (.func (.yield l) #[] #[]),.ref 4 [] 3 0 0,.za,.sl 7 [] 1 0 e.next.length false,I (q6 e.next (zB e) k),.za,.za,.za,.za,.za,.za,.za,.za,.za,.za,.za,.za,.za,.za,.za,.za,.za,.za,.za,.za,.za,.za,.za,.za,.za,.za,.za,.za,.za,.za,.za,.za,.za,.za,.za,.za,.za,.za,.za])
  (fun k=>[⟨1,97,3,[zn e],0⟩,⟨1,22,1,[[.lst 1 0 []]],0⟩,⟨1,58,1,[[I 0]],0⟩,⟨1,22,1,[[.gl 5 1 (vk e k)]],0⟩,⟨1,97,3,[zn e],0⟩,⟨4,3,1,(vk e k),0⟩,rec]++[⟨2,4,1,(xh e.next (zB e) k).map yu,0⟩]) (fun _=>True) ?_ trivial (fun k hk _=>?_) (fun _=>?_)
 ·have e1:List.replicate (((e.next.map encI).length:Int)).toNat (List.map ofV (Value.bool false).cells.toList)=(xh e.next (zB e) 0).map yu:=by
   simp [xh,yu,ofV,Value.cells]
  rw [e1,hlm,toNat_cast]
  exact cC
 ·have g:=jt k hk
  simp only [inB,Bool.and_eq_true,decide_eq_true_eq] at g
  obtain ⟨g1,g2⟩:=g
  have hs:=zfQ (nx:=e.next) (i0:=zB e) (k:=k) (fun j hj=>jt j (by omega)) (i:=(q6 e.next (zB e) k).toNat) (by omega)
  have hv:(jl e.next (zB e) k).contains (((q6 e.next (zB e) k).toNat:Nat):Int)=false:=by
   have:=c3 k hk
   simp only [j9,Bool.or_eq_false_iff,Bool.not_eq_false'] at this
   rw [Int.toNat_of_nonneg g1]
   exact this.2
  rw [hv] at hs
  have hyk:=hy k hk
  have hnx:(e.next)[(q6 e.next (zB e) k).toNat]?= some (q6 e.next (zB e) (k+1)):=by
   show _=some (nxt e.next (q6 e.next (zB e) k))
   unfold nxt
   rw [List.getElem?_eq_getElem (by omega)]
   rfl
  have hse:(xh e.next (zB e) (k+1)).map yu=((xh e.next (zB e) k).map yu).set (q6 e.next (zB e) k).toNat [Bo true]:=by
   show (List.set _ _ _).map yu=_
   rw [List.map_set];rfl
  rw [hse] at hyk
  rw [hse]
  generalize hP:q6 e.next (zB e) k=p at *
  generalize hQ:q6 e.next (zB e) (k+1)=p' at *
  conv=>whnf
  refine ⟨fun _=>?_,fun h=>absurd h (by simp;omega)⟩
  refine dd ?_
  refine ⟨fun h=>absurd h (by simp;omega),fun _=>?_⟩
  refine dd ?_
  refine ⟨fun h=>absurd h (by simp;omega),fun _=>?_⟩
  refine dd ?_
  refine ⟨g1,by omega,?_⟩
  conv=>whnf
  refine ⟨[Bo false],by rw [Nat.zero_add,List.getElem?_map,hs];rfl,Nat.le_refl _,?_⟩
  refine dd ?_
  (repeat ((first | apply ya | apply yb);refine dd ?_))
  refine ⟨g1,by omega,?_⟩
  conv=>whnf
  refine ⟨[Bo false],by rw [Nat.zero_add,List.getElem?_map,hs];rfl,rfl,?_⟩
  conv=>whnf
  rw [Nat.zero_add]
  refine ⟨_,_,hyk,?_⟩
  refine dd ?_
  (repeat ((first | apply ya | apply yb);refine dd ?_))
  refine ⟨g1,[I p'],by rw [List.getElem?_map,hnx];rfl,?_⟩
  conv=>whnf
  exact .inl ⟨rfl,cC,trivial⟩
 ·generalize hN:jb e.next (zB e)=N at *
  have hsN:∀ {i:Nat},i < e.next.length->(xh e.next (zB e) N)[i]?= some ((jl e.next (zB e) N).contains (i:Int)):=fun h=>zfQ (nx:=e.next) (i0:=zB e) (k:=N) (fun j hj=>jt j hj) h
  obtain ⟨b,hz⟩:=hz
  by_cases hok:okV e.next (zB e)=true
  ·have hp:q6 e.next (zB e) N= -1:=by simpa [okV,hN] using hok
   rw [if_pos hok] at hz
   rw [hp]
   conv=>whnf
   refine ⟨fun h=>absurd h (by simp),fun _=>?_⟩
   conv=>whnf
   refine ⟨by simp,?_⟩
   conv=>whnf
   refine ⟨_,_,hz,?_⟩
   conv=>whnf
   refine ⟨fun _=>?_,fun _=>?_⟩ <;>
   ·conv=>whnf
    exact ⟨.inr rfl,_,.refl _,rfl,rfl⟩
  ·have hp:q6 e.next (zB e) N≠ -1:=by intro h;exact hok (by simp [okV,hN,h])
   rw [if_neg hok] at hz
   generalize hP:q6 e.next (zB e) N=p at *
   conv=>whnf
   refine ⟨fun _=>?_,fun h=>absurd h (by simp;exact hp)⟩
   refine dd ?_
   have fin:∀ (X:Prop),X->X:=fun _ h=>h
   refine ⟨fun h1=>?_,fun h1=>?_⟩
   ·refine dd ?_
    refine ⟨by simp,?_⟩
    conv=>whnf
    refine ⟨_,_,hz,?_⟩
    conv=>whnf
    refine ⟨fun _=>?_,fun _=>?_⟩ <;>
    ·conv=>whnf
     exact ⟨.inr rfl,_,.refl _,rfl,rfl⟩
   ·refine dd ?_
    refine ⟨fun h2=>?_,fun h2=>?_⟩
    ·refine dd ?_
     refine ⟨by simp,?_⟩
     conv=>whnf
     refine ⟨_,_,hz,?_⟩
     conv=>whnf
     refine ⟨fun _=>?_,fun _=>?_⟩ <;>
     ·conv=>whnf
      exact ⟨.inr rfl,_,.refl _,rfl,rfl⟩
    ·have g1:0<=p:=by simpa using h1
     have g2:p < e.next.length:=by simp at h2;omega
     have hv:(jl e.next (zB e) N).contains (((p.toNat:Nat)):Int)=true:=by
      simp only [j9,hP,Bool.or_eq_true,Bool.not_eq_true',inB,Bool.and_eq_false_iff,decide_eq_false_iff_not] at c2
      rw [Int.toNat_of_nonneg g1]
      rcases c2 with (h | h) | h
      ·exact absurd g1 h
      ·exact absurd g2 h
      ·exact h
     have hs:=hsN (i:=p.toNat) (by omega)
     rw [hv] at hs
     refine dd ?_
     refine ⟨g1,by omega,?_⟩
     conv=>whnf
     refine ⟨[Bo true],by rw [Nat.zero_add,List.getElem?_map,hs];rfl,Nat.le_refl _,?_⟩
     refine dd ?_
     (repeat ((first | apply ya | apply yb);refine dd ?_))
     refine ⟨by simp,?_⟩
     conv=>whnf
     refine ⟨_,_,hz,?_⟩
     conv=>whnf
     refine ⟨fun _=>?_,fun _=>?_⟩ <;>
     ·conv=>whnf
      exact ⟨.inr rfl,_,.refl _,rfl,rfl⟩
end Go.Slp
namespace Go.Slp
open Go.Ab Go.Proofs Go.Hy
theorem zf8 (e:En) (X Y Z W:Ob):zc Tryz.prog 102 [X,Y,Z,W] [Ev e] (.fn 158 [] [.ref 4 [] 3 0 0]) [X,Y,Z,W,⟨1,97,3,[zn e],0⟩]:=by
 refine zc.zW (fn:=Tryz.f102) Tryz.func102 rfl ?_
 conv=>whnf
 exact ⟨.inl rfl,_,.refl _,rfl,rfl⟩
theorem zaB (e:En) (he:e.ok) (N:Nat) (hN:jb e.next (zB e)=N) (l:Nat) (rec rec':Ob) (rr:C) (rn:Int) (b:Bool)
  (hy:∀ k,k < N->jf Tryz.prog l ([⟨1,97,3,[zn e],0⟩,⟨1,22,1,[[.lst 1 0 []]],0⟩,⟨1,58,1,[[I 0]],0⟩,⟨1,22,1,[[.gl 5 1 (vk e k)]],0⟩,⟨1,97,3,[zn e],0⟩,⟨4,3,1,(vk e k),0⟩,rec]++[⟨2,4,1,(xh e.next (zB e) (k+1)).map yu,0⟩]) [I (q6 e.next (zB e) k)] (Bo true) ([⟨1,97,3,[zn e],0⟩,⟨1,22,1,[[.lst 1 0 []]],0⟩,⟨1,58,1,[[I 0]],0⟩,⟨1,22,1,[[.gl 5 1 (vk e (k+1))]],0⟩,⟨1,97,3,[zn e],0⟩,⟨4,3,1,(vk e (k+1)),0⟩,rec]++[⟨2,4,1,(xh e.next (zB e) (k+1)).map yu,0⟩]))
  (hz:jf Tryz.prog l ([⟨1,97,3,[zn e],0⟩,⟨1,22,1,[[.lst 1 0 []]],0⟩,⟨1,58,1,[[I 0]],0⟩,⟨1,22,1,[[.gl 5 1 (vk e N)]],0⟩,⟨1,97,3,[zn e],0⟩,⟨4,3,1,(vk e N),0⟩,rec]++[⟨2,4,1,(xh e.next (zB e) N).map yu,0⟩]) [I (if okV e.next (zB e) then -1 else -2)] (Bo b) ([⟨1,97,3,[zn e],0⟩,⟨1,22,1,[[rr]],0⟩,⟨1,58,1,[[I rn]],0⟩,⟨1,22,1,[[.gl 5 1 (vk e N)]],0⟩,⟨1,97,3,[zn e],0⟩,⟨4,3,1,(vk e N),0⟩,rec']++[⟨2,4,1,(xh e.next (zB e) N).map yu,0⟩])):
  zc Tryz.prog 158 [⟨1,97,3,[zn e],0⟩,⟨1,22,1,[[.lst 1 0 []]],0⟩,⟨1,58,1,[[I 0]],0⟩,⟨1,22,1,[[.gl 5 1 (vk e 0)]],0⟩,⟨1,97,3,[zn e],0⟩,⟨4,3,1,(vk e 0),0⟩,rec] [.v (.func (.yield l) #[] #[]),.ref 4 [] 3 0 0] (.tup []) ([⟨1,97,3,[zn e],0⟩,⟨1,22,1,[[rr]],0⟩,⟨1,58,1,[[I rn]],0⟩,⟨1,22,1,[[.gl 5 1 (vk e N)]],0⟩,⟨1,97,3,[zn e],0⟩,⟨4,3,1,(vk e N),0⟩,rec']++[⟨2,4,1,(xh e.next (zB e) N).map yu,0⟩]):=by
 subst hN
 exact zfg e he l rec rec' rr rn hy ⟨b,hz⟩
abbrev tF (r:List Int × Int):C:=.tup [lI r.1,I r.2]
theorem kc (e:En) (he:e.ok):zc Tryz.prog 54 [] [Ev e] (tF (qn e)) []:=by
 have hl:=he.2.1.2
 obtain ⟨c1,c2,c3⟩:=xr e.next (zB e)
 generalize hN:jb e.next (zB e)=N at *
 refine zc.zr (fn:=Tryz.f54) Tryz.func54 rfl ?_
 conv=>whnf
 refine ⟨_,_,zf8 e _ _ _ _,?_⟩
 conv=>whnf
 refine ⟨_,zq.zeG 3 0 3 1 rfl rfl (.inl rfl) rfl rfl,?_⟩
 have jt:∀ j,j < N->0<=q6 e.next (zB e) j:=fun j hj=>by
  have:=c3 j hj
  simp only [j9,Bool.or_eq_false_iff,Bool.not_eq_false',inB,Bool.and_eq_true,decide_eq_true_eq] at this
  exact this.1.1
 have hv:∀ k,(vk e k).length=k:=fun k=>by simp [zi8]
 have vs:∀ k,vk e (k+1)=vk e k++[[I (q6 e.next (zB e) k)]]:=fun k=>by
  show (jl e.next (zB e) (k+1)).map encI=_
  rw [zd5,List.map_append];rfl
 by_cases hok:okV e.next (zB e)=true
 ·refine ⟨.normal,_,[⟨1,97,3,[zn e],0⟩,⟨1,22,1,[[.lst 1 0 []]],0⟩,⟨1,58,1,[[I 0]],0⟩,⟨1,22,1,[[.gl 5 1 (vk e N)]],0⟩,⟨1,97,3,[zn e],0⟩,⟨4,3,1,vk e N,0⟩],fun l r h1 h2 h3 h4 h5=>⟨_,_,r,zaB e he N hN l (obR l r _) (obR l r _) (.lst 1 0 []) 0 true (fun k hk=>?_) ?_,
   rfl,by rw [h1];decide,rfl,Nat.zero_le _,by rw [h2];trivial,zq.low 6 _ _ rfl rfl rfl⟩,?_⟩
  ·have g:=jt k hk
   have hvk:=hv k
   refine jf.zW (id:=6) rfl h1 h2 h3 h4 h5 rfl rfl rfl ?_
   conv=>whnf
   refine ⟨rfl,rfl,?_⟩
   conv=>whnf
   refine ⟨fun h=>absurd h (by simp;omega),fun _=>?_⟩
   conv=>whnf
   refine ⟨fun h=>absurd h (by simp;omega),fun _=>?_⟩
   conv=>whnf
   refine ⟨rfl,.inr rfl,by simp [maxLen,hvk];omega,by show _ * 8<=_;simp [hvk];omega,?_⟩
   conv=>whnf
   rw [vs k]
   exact ⟨_,_,.refl _,rfl,.inl ⟨rfl,rfl,rfl⟩⟩
  ·rw [if_pos hok]
   refine jf.zW (id:=6) rfl h1 h2 h3 h4 h5 rfl rfl rfl ?_
   conv=>whnf
   refine ⟨rfl,rfl,?_⟩
   conv=>whnf
   (repeat ((first | apply ya | apply yb);refine dd ?_))
   exact ⟨_,_,.refl _,rfl,.inl ⟨rfl,rfl,rfl⟩⟩
  ·have e1:qn e=(jl e.next (zB e) N,0):=by unfold qn;rw [if_pos hok,hN]
   rw [e1]
   conv=>whnf
   exact ⟨.inl rfl,_,.refl _,rfl⟩
 ·refine ⟨.ret,_,[⟨1,97,3,[zn e],0⟩,⟨1,22,1,[[.lst 1 0 []]],0⟩,⟨1,58,1,[[I 11]],0⟩],fun l r h1 h2 h3 h4 h5=>⟨_,_,left r .ret,zaB e he N hN l (obR l r _) (obR l (left r .ret) _) (.lst 1 0 []) 11 false (fun k hk=>?_) ?_,
   rfl,by simp,rfl,Nat.zero_le _,trivial,zq.low 3 _ _ rfl rfl rfl⟩,?_⟩
  ·have g:=jt k hk
   have hvk:=hv k
   refine jf.zW (id:=6) rfl h1 h2 h3 h4 h5 rfl rfl rfl ?_
   conv=>whnf
   refine ⟨rfl,rfl,?_⟩
   conv=>whnf
   refine ⟨fun h=>absurd h (by simp;omega),fun _=>?_⟩
   conv=>whnf
   refine ⟨fun h=>absurd h (by simp;omega),fun _=>?_⟩
   conv=>whnf
   refine ⟨rfl,.inr rfl,by simp [maxLen,hvk];omega,by show _ * 8<=_;simp [hvk];omega,?_⟩
   conv=>whnf
   rw [vs k]
   exact ⟨_,_,.refl _,rfl,.inl ⟨rfl,rfl,rfl⟩⟩
  ·rw [if_neg hok]
   refine jf.zW (id:=6) rfl h1 h2 h3 h4 h5 rfl rfl rfl ?_
   conv=>whnf
   refine ⟨rfl,rfl,?_⟩
   conv=>whnf
   (repeat ((first | apply ya | apply yb);refine dd ?_))
   exact ⟨_,_,.refl _,rfl,.inr ⟨rfl,.inl ⟨rfl,rfl⟩⟩⟩
  ·have e1:qn e=([],11):=by unfold qn;rw [if_neg hok]
   rw [e1]
   conv=>whnf
   exact ⟨.inl rfl,_,zq.var 1 rfl rfl rfl (.cons (WC.nil 0 1) .nil),rfl⟩
end Go.Slp
namespace Go.Slp
open Go.Ab Go.Proofs Go.Hy
theorem zma (e:En):((qn e).2 == 0)=okV e.next (zB e):=by
 unfold qn
 cases okV e.next (zB e) <;> simp
theorem yX (e:En) (he:e.ok):zc Tryz.prog 55 [] [Ev e] (Bo (isV e)) []:=by
 have h0:=zma e
 refine zc.zr (fn:=Tryz.f55) Tryz.func55 rfl ?_
 conv=>whnf
 refine ⟨_,_,(kc e he).frame rfl _,?_⟩;refine dd ?_
 refine ⟨fun h1=>?_,fun h1=>?_⟩
 ·rw [show ((qn e).2 == 0)=true from h1] at h0
  refine dd ?_
  refine ⟨fun h2=>?_,fun h2=>?_⟩
  ·refine dd ?_
   refine ⟨fun h3=>?_,fun h3=>?_⟩
   ·refine dd ?_
    (repeat' (first | (refine ⟨fun _=>?_,fun _=>?_⟩ <;> (conv=>whnf)) | fail))
    all_goals (rename_i h4;(exact ⟨.inl rfl,_,.refl _,congrArg (fun b=>some (C.v (Value.bool b))) (by simp at h2 h3 h4;simp [isV,<- h0];omega)⟩))
   ·refine dd ?_
    (exact ⟨.inl rfl,_,.refl _,congrArg (fun b=>some (C.v (Value.bool b))) (by simp at h2 h3;simp [isV,<- h0];omega)⟩)
  ·refine dd ?_
   (exact ⟨.inl rfl,_,.refl _,congrArg (fun b=>some (C.v (Value.bool b))) (by simp at h2;simp [isV,<- h0];omega)⟩)
 ·rw [show ((qn e).2 == 0)=false from h1] at h0
  refine dd ?_
  (exact ⟨.inl rfl,_,.refl _,congrArg (fun b=>some (C.v (Value.bool b))) (by simp [isV,<- h0])⟩)
end Go.Slp
namespace Go.Slp
open Go.Ab Go.Proofs Go.Hy
theorem zag (x i:Int) (h:u64 x) (h3: -1<=i) (h4:i<=2147483646):zc Tryz.prog 217 [] [U x,I i] (.tup [U (z6 x i),I 0]) []:=
 zaU [] (fun w=>(YtgllekalddijbaaGreat.zlg x i w (zfU h).1 (zfU h).2 h3 h4).mono fun e w' ⟨h1,h2⟩=>⟨h1,h2.symm⟩) zkB fun E=>.tup _ _ rfl fun j c y e1 e2=>by
  match j,e1,e2 with
  | 0,e1,e2=>cases e1;cases e2;exact .v _ rfl
  | 1,e1,e2=>cases e1;cases e2;exact .v _ rfl
abbrev tQ (r:En × Int):C:=.tup [Ev r.1,I r.2]
end Go.Slp
namespace Go.Slp
open Go.Ab Go.Proofs Go.Hy
theorem qs (X Y:Ob) (x:Int) (l:List Int) (hl:l.length < 17592186043904):zc Tryz.prog 275 [X,Y] [lI (x::l)] (.sl 2 [] 1 0 (0+((l.map encI).length+1)) false) [X,Y,⟨2,3,1,(x::l).map encI,0⟩]:=by
 refine zc.zW (fn:=Tryz.f275) Tryz.func275 rfl ?_
 conv=>whnf
 refine ⟨by simp,?_⟩
 conv=>whnf
 refine .inr ⟨.inl rfl,by simp [maxLen];omega,by show _ * 8<=_;simp;omega,?_⟩
 conv=>whnf
 exact ⟨.inl rfl,_,.refl _,rfl,rfl⟩
theorem zgI (a b:List Int) (ha:a.length < 4611686018427387904) (hb:b.length < 4611686018427387904):zc Tryz.prog 52 [] [lI a,lI b] (Bo (a == b)) []:=by
 refine zc.zr (fn:=Tryz.f52) Tryz.func52 rfl ?_
 conv=>whnf
 refine ⟨fun h=>?_,fun h=>?_⟩
 ·refine dd ?_
  (exact ⟨.inl rfl,_,.refl _,congrArg (fun b=>some (C.v (Value.bool b))) (by symm;rw [beq_eq_false_iff_ne];intro e;subst e;simp at h)⟩)
 ·have hl:a.length=b.length:=by simp at h;omega
  refine dd ?_
  refine qb.seq a.length (fun k=>[lI a,lI b,.za,.za,Bo false,I k,.za,.za,.za,.za,.za,.za,.za,.za,.za,.za,.za,.za,.za,.za,.za,.za,.za,.za,.za,.za]) (fun k=>[]) (fun k=>∀ j,(h:j < a.length)->j < k->a[j]=b[j]'(by omega)) ?_ (by simp) (fun k hk hr=>?_) (fun hr=>?_)
  ·exact cC
  ·conv=>whnf
   refine ⟨fun h=>?_,fun h=>absurd h (by simp;omega)⟩
   conv=>whnf
   refine .inl ⟨⟨false,[],[],[]⟩,by kernel_rfl,?_⟩;(conv=>whnf)
   refine ⟨by omega,encI a[k],by simp [hk],?_⟩
   refine dd ?_
   refine ⟨by omega,encI (b[k]'(by omega)),by rw [toNat_cast,List.getElem?_map,List.getElem?_eq_getElem (by omega)];rfl,?_⟩
   refine dd ?_
   refine ⟨fun h2=>?_,fun h2=>?_⟩
   ·refine dd ?_
    refine .inr ⟨by simp,?_⟩
    conv=>whnf
    (exact ⟨.inl rfl,_,.refl _,congrArg (fun b=>some (C.v (Value.bool b))) (by symm;rw [beq_eq_false_iff_ne];intro e;subst e;simp at h2)⟩)
   ·refine dd ?_
    refine .inl ⟨rfl,?_,?_⟩
    ·rw [zD (by omega)]
     exact cE 0
    ·intro j hj hjk
     by_cases e:j=k
     ·subst e;simpa using h2
     ·exact hr j hj (by omega)
  ·conv=>whnf
   refine ⟨fun h=>absurd h (by simp),fun h=>?_⟩
   conv=>whnf
   refine ⟨by simp,?_⟩
   conv=>whnf
   (exact ⟨.inl rfl,_,.refl _,congrArg (fun b=>some (C.v (Value.bool b))) (by symm;rw [beq_iff_eq];exact List.ext_getElem hl fun j h1 h2=>hr j h1 h1)⟩)
end Go.Slp
namespace Go.Slp
open Go.Ab Go.Proofs Go.Hy
theorem zh2:zc Tryz.prog 237 [] [.v (.int .u32 0),I 0] (.tup [U 1,I 0]) []:=
 zaU [] (fun w=>(YtgllekalddijbaaGreat.zgt 0 0 w (by decide) (by decide) (by decide) (by decide)).mono fun e w' ⟨h1,h2⟩=>⟨h1,h2.symm⟩) zkB fun E=>.tup _ _ rfl fun j c y e1 e2=>by
  match j,e1,e2 with
  | 0,e1,e2=>cases e1;cases e2;exact .v _ rfl
  | 1,e1,e2=>cases e1;cases e2;exact .v _ rfl
def x8 (n k:Nat):List Int:=(List.range n).map fun i=>if i < k then (i:Int)+1 else 0
def zaa (n:Nat):List Int:=(List.range n).map fun (i:Nat)=>if i+1=n then -1 else (i:Int)+1
theorem vO (n k:Nat):(x8 n k).length=n:=by simp [x8]
theorem zkc {n k:Nat} (h:k < n):(x8 n k).set k ((k:Int)+1)=x8 n (k+1):=by
 apply List.ext_getElem?
 intro j
 rw [List.getElem?_set,vO]
 unfold x8
 simp only [List.getElem?_map]
 by_cases hj:j < n
 ·rw [List.getElem?_range hj]
  by_cases e:k=j
  ·subst e;simp [h]
  ·simp only [e,if_false,Option.map_some]
   by_cases h2:j < k
   ·simp [h2,show j < k+1 from by omega]
   ·simp [h2,show ¬j < k+1 from by omega]
 ·rw [List.getElem?_eq_none (by simp;omega)]
  simp
  omega
theorem zlE {n:Nat}:(x8 n n).set (n - 1) (-1)=zaa n:=by
 apply List.ext_getElem?
 intro j
 rw [List.getElem?_set,vO]
 unfold x8 zaa
 simp only [List.getElem?_map]
 by_cases hj:j < n
 ·rw [List.getElem?_range hj]
  by_cases e:n - 1=j
  ·subst e;simp [show n - 1 < n from by omega,show n - 1+1=n from by omega]
  ·simp only [e,if_false,Option.map_some,hj,if_true,show ¬j+1=n from by omega]
 ·rw [List.getElem?_eq_none (by simp;omega)]
  simp
  omega
theorem zkY {n:Int} (h1:¬(n < 1∨4 < n)):vr n=(⟨1,zaa n.toNat,0⟩,0):=by unfold vr;rw [if_neg h1];rfl
theorem kT (n:Int):zc Tryz.prog 166 [] [I n] (tQ (vr n)) []:=by
 refine zc.zr (fn:=Tryz.f166) Tryz.func166 rfl ?_
 conv=>whnf
 have hbad:n < 1∨4 < n->vr n=(no,1):=fun h=>by unfold vr;rw [if_pos h]
 refine ⟨fun h1=>?_,fun h1=>?_⟩
 ·rw [hbad (.inl (by simpa using h1))]
  refine dd ?_
  exact ⟨.inl rfl,_,zq.var 0 rfl rfl rfl (.cons (.refl _) (.cons (WC.nil 0 1) (.cons (.refl _) .nil))),rfl⟩
 ·refine dd ?_
  refine ⟨fun h2=>?_,fun h2=>?_⟩
  ·rw [hbad (.inr (by simpa using h2))]
   refine dd ?_
   exact ⟨.inl rfl,_,zq.var 0 rfl rfl rfl (.cons (.refl _) (.cons (WC.nil 0 1) (.cons (.refl _) .nil))),rfl⟩
  ·have g1:1<=n:=by simp at h1;omega
   have g2:n<=4:=by simp at h2;omega
   rw [zkY (by omega)]
   obtain ⟨m,rfl⟩:∃ m:Nat,n=m:=⟨n.toNat,by omega⟩
   rw [toNat_cast]
   refine dd ?_
   refine ⟨rfl,by omega,by show (8:Int) * _<=_;omega,by omega,?_⟩
   refine dd ?_
   refine qb.seq m (fun k=>[I m,.za,.ref 0 [] 3 0 0,I 0,.ref 2 [] 3 0 0,.za,.za,.za,.za,.za,.za,.za,.za,.za,.za,.za,.za,.za,I m,I k,.za,.za,.za,.za,.za,.za,.za,.za,.za,.za,.za,.za,.za,.za,.za,.za,.za,.za,.za,.za]) (fun k=>[⟨1,97,3,[[U 0,.lst 1 0 [],I 0]],0⟩,⟨2,3,1,(x8 m k).map encI,0⟩,⟨1,97,3,[[U 0,.sl 1 [] 1 0 m false,I 0]],0⟩]) (fun _=>True) ?_ trivial (fun k hk _=>?_) (fun _=>?_)
   ·have e1:List.replicate ((m:Int)).toNat [C.v (Value.int .i64 0)]=(x8 m 0).map encI:=by
     simp only [toNat_cast]
     apply List.ext_getElem?
     intro j
     rw [List.getElem?_replicate,List.getElem?_map]
     unfold x8
     simp only [List.getElem?_map]
     split
     ·rename_i hj;rw [List.getElem?_range hj];rfl
     ·rw [List.getElem?_eq_none (by simp;omega)];rfl
    show zq 0 ⟨_,[_,⟨2,3,1,List.replicate ((m:Int)).toNat [C.v (Value.int .i64 0)],0⟩,_]⟩ _
    rw [e1]
    exact cC
   ·have hg:((x8 m k).map encI)[k]?= some (encI ((x8 m k)[k]'(by rw [vO];exact hk))):=by rw [List.getElem?_map,List.getElem?_eq_getElem (by rw [vO];exact hk)];rfl
    have hse:((x8 m k).map encI).set k [I ((k+1:Nat):Int)]=(x8 m (k+1)).map encI:=by rw [<- zkc hk,List.map_set];rfl
    conv=>whnf
    refine ⟨fun _=>?_,fun h=>absurd h (by simp;omega)⟩
    conv=>whnf
    refine ⟨by omega,by simp;omega,?_⟩
    refine dd ?_
    rw [Nat.zero_add,zD (by omega),toNat_cast]
    refine ⟨_,hg,rfl,?_⟩
    refine dd ?_
    rw [show List.set (List.map encI (x8 m k)) k [C.v (Value.int IntKind.i64 ((k+1:Nat):Int))]=(x8 m (k+1)).map encI from hse]
    refine .inl ⟨rfl,?_,trivial⟩
    rw [zD (by omega)]
    exact cE 3
   ·have hg:((x8 m m).map encI)[m - 1]?= some (encI ((x8 m m)[m - 1]'(by rw [vO];omega))):=by rw [List.getElem?_map,List.getElem?_eq_getElem (by rw [vO];omega)];rfl
    have hse:((x8 m m).map encI).set (m - 1) [I (-1)]=(zaa m).map encI:=by rw [<- zlE,List.map_set];rfl
    have hw:IntKind.i64.wrap ((m:Int) - 1)=((m - 1:Nat):Int):=by rw [jz (by omega) (by omega)];omega
    have hfl:(zaa m).length=m:=by simp [zaa]
    conv=>whnf
    refine ⟨fun h=>absurd h (by simp),fun _=>?_⟩
    conv=>whnf
    refine ⟨by simp,?_⟩
    conv=>whnf
    rw [hw]
    refine ⟨by omega,by simp;omega,?_⟩
    refine dd ?_
    rw [Nat.zero_add,toNat_cast]
    refine ⟨_,hg,rfl,?_⟩
    refine dd ?_
    rw [show List.set (List.map encI (x8 m m)) (m - 1) [C.v (Value.int IntKind.i64 (-1))]=(zaa m).map encI from hse]
    refine ⟨_,_,(zh2).frame rfl _,?_⟩;refine dd ?_
    exact ⟨.inl rfl,_,zq.zmb 0 1 rfl rfl rfl (by simp [hfl]) (fun r hr c hc=>by
     obtain ⟨n,_,rfl⟩:=List.mem_map.1 hr
     simp [encI] at hc
     subst hc;rfl) rfl rfl,rfl⟩
end Go.Slp
