import Derived.WalkKit
import Derived.Test.YtgllekalddijbaaGreatRows
import Derived.Test.YtgllekalddijbaaGreatTJ
import Derived.Test.YtgllekalddijbaaGreatTC
import Derived.Test.YtgllekalddijbaaGreatProg
set_option linter.unusedVariables false
set_option linter.unusedSimpArgs false
set_option linter.unusedSectionVars false
set_option maxRecDepth 100000
set_option maxHeartbeats 4000000
namespace Go.Proofs.YtgllekalddijbaaGreat
open Go.RowKit
theorem zmt (t i:Int) (h1:0<=t) (h2:t < 4294967296) (h3: -1<=i) (h4:i<=2147483646):
  bits .or .u64 (t * 4294967296) (i+1)=t * 4294967296+(i+1):=by
 rw [u64_or _ _ (by omega) (by omega) (by omega) (by omega)]
 obtain ⟨a,rfl⟩:=Int.eq_ofNat_of_zero_le h1
 obtain ⟨b,hb⟩:=Int.eq_ofNat_of_zero_le (show 0<=i+1 by omega)
 rw [hb]
 have hlt:b < 2 ^ 32:=by have:(b:Int) < 4294967296:=by omega
                         simpa using (by omega:b < 4294967296)
 have:=Nat.two_pow_add_eq_or_of_lt hlt a
 have e:((a:Int) * 4294967296).toNat=2 ^ 32 * a:=by omega
 rw [e,Int.toNat_natCast,<- this]
 omega
theorem zke (t i:Int) (w:World) (h1:0<=t) (h2:t < 4294967296) (h3: -1<=i) (h4:i<=2147483646):
  Calls Tryz.prog 237 #[.int .u32 t,.int .i64 i] w fun e w'=>e=.returned (.tuple #[.int .u64 (t * 4294967296+(i+1)),.int .i64 0])∧w=w':=by
 go_enter Tryz.func237,Tryz.ntmps237
 go_wp2
 go_ret2
 exact ⟨by simp [zmt t i h1 h2 h3 h4],rfl⟩
theorem zi2 (x:Int) (w:World) (h1:0<=x) (h2:x < 18446744073709551616):
  Calls Tryz.prog 159 #[.int .u64 x] w fun e w'=>e=.returned (.int .i64 (x % 4294967296 - 1))∧w=w':=by
 go_enter Tryz.func159,Tryz.ntmps159
 go_wp2
 go_ret
 exact ⟨rfl,rfl⟩
end Go.Proofs.YtgllekalddijbaaGreat
namespace Go.Proofs.YtgllekalddijbaaGreat
open Go.RowKit
end Go.Proofs.YtgllekalddijbaaGreat
namespace Go.Slp
open Go.Ab Go.Hy
def inB (nx:List Int) (i:Int):Bool:=decide (0<=i) && decide (i < nx.length)
def nxt (nx:List Int) (i:Int):Int:=(nx[i.toNat]?).getD 0
def qV (nx:List Int) (i0:Int):Nat->Int
 | 0=>i0
 | k+1=>nxt nx (qV nx i0 k)
def jP (nx:List Int) (i0:Int) (k:Nat):List Int:=(List.range k).map (qV nx i0)
def xh (nx:List Int) (i0:Int) (k:Nat):Bool:=!inB nx (qV nx i0 k) || (jP nx i0 k).contains (qV nx i0 k)
def jI (nx:List Int) (i0:Int):Nat:=((List.range (nx.length+1)).find? (xh nx i0)).getD 0
def okV (nx:List Int) (i0:Int):Bool:=qV nx i0 (jI nx i0) == -1
theorem zhG:∀ (n:Nat) (l:List Int),l.Nodup->(∀ x ∈ l,0<=x∧x < n)->l.length<=n
 | 0,l,_,h=>by
  cases l with
  | nil=>exact Nat.le_refl _
  | cons x l=>have:=h x (List.mem_cons_self ..);omega
 | n+1,l,hd,h=>by
  by_cases hm:(n:Int) ∈ l
  ·have h1:=zhG n (l.erase n) (hd.erase _) fun x hx=>by
    have h2:=h x (List.mem_of_mem_erase hx)
    have h3:x≠n:=fun e=>by
     subst e
     exact absurd hx (List.Nodup.not_mem_erase hd)
    omega
   rw [List.length_erase_of_mem hm] at h1
   omega
  ·have:=zhG n l hd fun x hx=>by
    have h2:=h x hx
    have h3:x≠n:=fun e=>hm (e ▸ hx)
    omega
   omega
theorem zdm (nx:List Int) (i0:Int) (k:Nat):jP nx i0 (k+1)=jP nx i0 k++[qV nx i0 k]:=by
 simp [jP,List.range_succ]
theorem zis (nx:List Int) (i0:Int) (k:Nat):(jP nx i0 k).length=k:=by simp [jP]
theorem zgD {nx:List Int} {i0:Int}:∀ {k:Nat},(∀ j,j < k->xh nx i0 j=false)->(jP nx i0 k).Nodup∧∀ x ∈ jP nx i0 k,inB nx x=true
 | 0,_=>⟨by simp [jP],by simp [jP]⟩
 | k+1,h=>by
  obtain ⟨h1,h2⟩:=zgD (k:=k) fun j hj=>h j (by omega)
  have h3:=h k (by omega)
  simp only [xh,Bool.or_eq_false_iff,Bool.not_eq_false'] at h3
  have h4:qV nx i0 k ∉ jP nx i0 k:=by simpa using h3.2
  rw [zdm]
  refine ⟨?_,?_⟩
  ·rw [List.nodup_append]
   refine ⟨h1,by simp,?_⟩
   intro a ha b hb e
   rw [List.mem_singleton] at hb
   subst hb e
   exact h4 ha
  ·intro x hx
   rcases List.mem_append.1 hx with hx | hx
   ·exact h2 x hx
   ·rw [List.mem_singleton.1 hx];exact h3.1
theorem km (nx:List Int) (i0:Int):jI nx i0<=nx.length∧xh nx i0 (jI nx i0)=true∧∀ j,j < jI nx i0->xh nx i0 j=false:=by
 unfold jI
 cases e:(List.range (nx.length+1)).find? (xh nx i0) with
 | none=>
  exfalso
  rw [List.find?_eq_none] at e
  have h:∀ j,j < nx.length+1->xh nx i0 j=false:=fun j hj=>by simpa using e j (List.mem_range.2 hj)
  obtain ⟨h1,h2⟩:=zgD h
  have:=zhG nx.length _ h1 fun x hx=>by
   have:=h2 x hx
   simp only [inB,Bool.and_eq_true,decide_eq_true_eq] at this
   exact this
  rw [zis] at this
  omega
 | some k=>
  rw [List.find?_eq_some_iff_append] at e
  obtain ⟨h1,az,bs,h2,h3⟩:=e
  have hk:az.length=k∧k < nx.length+1:=by
   have h4:(List.range (nx.length+1))[az.length]?= some k:=by rw [h2];simp
   have h5:=(List.getElem?_eq_some_iff.1 h4)
   obtain ⟨h6,h7⟩:=h5
   rw [List.getElem_range] at h7
   simp at h6
   omega
  refine ⟨by simp;omega,by simpa using h1,fun j hj=>?_⟩
  have h8:(List.range (nx.length+1))[j]?= some j:=by
   simp at hj
   rw [List.getElem?_range (by omega)]
  rw [h2,List.getElem?_append_left (by simp at hj;omega)] at h8
  simpa using h3 j (List.mem_of_getElem? h8)
theorem zfK {nx:List Int} {i0:Int} {n:Nat} (h1:xh nx i0 n=true) (h2:∀ j,j < n->xh nx i0 j=false):jI nx i0=n:=by
 obtain ⟨_,h3,h4⟩:=km nx i0
 rcases Nat.lt_trichotomy (jI nx i0) n with h | h | h
 ·rw [h2 _ h] at h3;cases h3
 ·exact h
 ·rw [h4 _ h] at h1;cases h1
abbrev no:En:=⟨0,[],0⟩
def zq (e:En):Int:=e.head % 4294967296 - 1
def wB (x i:Int):Int:=(x / 4294967296+1) % 4294967296 * 4294967296+(i+1)
def xm (e:En):List Int × Int:=if okV e.next (zq e) then (jP e.next (zq e) (jI e.next (zq e)),0) else ([],11)
def isV (e:En):Bool:=okV e.next (zq e) && decide (1<=e.next.length) && decide (e.next.length<=4) && decide (0<=e.zr)
def zlV (e:En) (slot:Int):En × Int:=
 if isV e=false then (no,11) else if slot < 0∨e.next.length<=slot then (no,1) else if (xm e).1.contains slot then (no,4)
 else (⟨wB e.head slot,e.next.set slot.toNat (zq e),e.zr⟩,0)
def xV (n:Int):En × Int:=if n < 1∨4 < n then (no,1) else (⟨1,(List.range n.toNat).map fun (i:Nat)=>if i+1=n.toNat then -1 else (i:Int)+1,0⟩,0)
theorem zj6 (e:En): -1<=zq e∧zq e<=4294967294:=by unfold zq;omega
theorem zkZ {nx:List Int} {i0:Int} (h:okV nx i0=true) (h0:¬i0 < 0):0 < jI nx i0:=by
 rcases Nat.eq_zero_or_pos (jI nx i0) with e | e
 ·simp only [okV,e,qV,beq_iff_eq] at h
  omega
 ·exact e
theorem zmh {e:En} (h:isV e=true):okV e.next (zq e)=true∧1<=e.next.length∧e.next.length<=4∧0<=e.zr:=by
 simp only [isV,Bool.and_eq_true,decide_eq_true_eq] at h
 exact ⟨h.1.1.1,h.1.1.2,h.1.2,h.2⟩
def jO (nx:List Int) (i0:Int):Nat->List Bool
 | 0=>List.replicate nx.length false
 | k+1=>(jO nx i0 k).set (qV nx i0 k).toNat true
theorem zgp (nx:List Int) (i0:Int):∀ k,(jO nx i0 k).length=nx.length
 | 0=>by simp [jO]
 | k+1=>by simp [jO,zgp nx i0 k]
theorem zfp {nx:List Int} {i0:Int}:∀ {k:Nat},(∀ j,j < k->inB nx (qV nx i0 j)=true)->∀ {i:Nat},i < nx.length->(jO nx i0 k)[i]?= some ((jP nx i0 k).contains (i:Int))
 | 0,_,i,hi=>by simp [jO,jP,hi]
 | k+1,h,i,hi=>by
  have ih:=zfp (k:=k) (fun j hj=>h j (by omega)) hi
  have hb:=h k (by omega)
  simp only [inB,Bool.and_eq_true,decide_eq_true_eq] at hb
  rw [zdm]
  simp only [jO]
  rw [List.getElem?_set,zgp]
  by_cases e:(qV nx i0 k).toNat=i
  ·rw [if_pos e,if_pos (by omega)]
   have:(i:Int)=qV nx i0 k:=by omega
   simp [this]
  ·rw [if_neg e,ih]
   have:¬(i:Int)=qV nx i0 k:=by omega
   simp [this]
end Go.Slp
namespace Go.Slp
open Go.Ab Go.Proofs Go.Hy
theorem zkK {x:Int} (h:u64 x):0<=x∧x < 18446744073709551616:=by unfold u64 at h;omega
theorem zf5 (x:Int) (h:u64 x):zb Tryz.prog 159 [] [U x] (I (x % 4294967296 - 1)) []:=
 zcX [] (fun w=>(YtgllekalddijbaaGreat.zi2 x w (zkK h).1 (zkK h).2).mono fun e w' ⟨h1,h2⟩=>⟨h1,h2.symm⟩) zm0 fun E=>.v _ rfl
abbrev Ev (e:En):C:=.agg (qh e)
abbrev vk (e:En) (k:Nat):List (List C):=(jP e.next (zq e) k).map encI
theorem zeA (e:En) (he:e.ok) (l:Nat) (rec rec':Ob) (rr:C) (rn:Int)
  (hy:∀ k,k < jI e.next (zq e)->qF Tryz.prog l ([⟨1,97,3,[qh e],0⟩,⟨1,22,1,[[.lst 1 0 []]],0⟩,⟨1,58,1,[[I 0]],0⟩,⟨1,22,1,[[.gl 5 1 (vk e k)]],0⟩,⟨1,97,3,[qh e],0⟩,⟨4,3,1,(vk e k),0⟩,rec]++[⟨2,4,1,(jO e.next (zq e) (k+1)).map yK,0⟩]) [I (qV e.next (zq e) k)] (Bo true) ([⟨1,97,3,[qh e],0⟩,⟨1,22,1,[[.lst 1 0 []]],0⟩,⟨1,58,1,[[I 0]],0⟩,⟨1,22,1,[[.gl 5 1 (vk e (k+1))]],0⟩,⟨1,97,3,[qh e],0⟩,⟨4,3,1,(vk e (k+1)),0⟩,rec]++[⟨2,4,1,(jO e.next (zq e) (k+1)).map yK,0⟩]))
  (hz:∃ b,qF Tryz.prog l ([⟨1,97,3,[qh e],0⟩,⟨1,22,1,[[.lst 1 0 []]],0⟩,⟨1,58,1,[[I 0]],0⟩,⟨1,22,1,[[.gl 5 1 (vk e (jI e.next (zq e)))]],0⟩,⟨1,97,3,[qh e],0⟩,⟨4,3,1,(vk e (jI e.next (zq e))),0⟩,rec]++[⟨2,4,1,(jO e.next (zq e) (jI e.next (zq e))).map yK,0⟩]) [I (if okV e.next (zq e) then -1 else -2)] (Bo b) ([⟨1,97,3,[qh e],0⟩,⟨1,22,1,[[rr]],0⟩,⟨1,58,1,[[I rn]],0⟩,⟨1,22,1,[[.gl 5 1 (vk e (jI e.next (zq e)))]],0⟩,⟨1,97,3,[qh e],0⟩,⟨4,3,1,(vk e (jI e.next (zq e))),0⟩,rec']++[⟨2,4,1,(jO e.next (zq e) (jI e.next (zq e))).map yK,0⟩])):
  zb Tryz.prog 158 [⟨1,97,3,[qh e],0⟩,⟨1,22,1,[[.lst 1 0 []]],0⟩,⟨1,58,1,[[I 0]],0⟩,⟨1,22,1,[[.gl 5 1 (vk e 0)]],0⟩,⟨1,97,3,[qh e],0⟩,⟨4,3,1,(vk e 0),0⟩,rec] [.v (.func (.yield l) #[] #[]),.ref 4 [] 3 0 0] (.tup []) ([⟨1,97,3,[qh e],0⟩,⟨1,22,1,[[rr]],0⟩,⟨1,58,1,[[I rn]],0⟩,⟨1,22,1,[[.gl 5 1 (vk e (jI e.next (zq e)))]],0⟩,⟨1,97,3,[qh e],0⟩,⟨4,3,1,(vk e (jI e.next (zq e))),0⟩,rec']++[⟨2,4,1,(jO e.next (zq e) (jI e.next (zq e))).map yK,0⟩]):=by
 refine zb.zA (fn:=Tryz.f158) Tryz.func158 rfl ?_
 conv=>whnf
 have hl:=he.2.1.2
 have hlm:(e.next.map encI).length=e.next.length:=List.length_map ..
 obtain ⟨c1,c2,c3⟩:=km e.next (zq e)
 have jm:∀ j,j < jI e.next (zq e)->inB e.next (qV e.next (zq e) j)=true:=fun j hj=>by
  have:=c3 j hj
  simp only [xh,Bool.or_eq_false_iff,Bool.not_eq_false'] at this
  exact this.1
 refine ⟨rfl,by omega,by show (1:Int) * _<=_;omega,by omega,?_⟩
 conv=>whnf
 refine ⟨_,_,(zf5 e.head he.1).frame rfl _,?_⟩;refine dd ?_
 refine zH.seq (jI e.next (zq e)) (fun k=>[.v (.func (.yield l) #[] #[]),.ref 4 [] 3 0 0,.za,.sl 7 [] 1 0 e.next.length false,I (qV e.next (zq e) k),.za,.za,.za,.za,.za,.za,.za,.za,.za,.za,.za,.za,.za,.za,.za,.za,.za,.za,.za,.za,.za,.za,.za,.za,.za,.za,.za,.za,.za,.za,.za,.za,.za,.za,.za,.za,.za,.za,.za])
  (fun k=>[⟨1,97,3,[qh e],0⟩,⟨1,22,1,[[.lst 1 0 []]],0⟩,⟨1,58,1,[[I 0]],0⟩,⟨1,22,1,[[.gl 5 1 (vk e k)]],0⟩,⟨1,97,3,[qh e],0⟩,⟨4,3,1,(vk e k),0⟩,rec]++[⟨2,4,1,(jO e.next (zq e) k).map yK,0⟩]) (fun _=>True) ?_ trivial (fun k hk _=>?_) (fun _=>?_)
 ·have e1:List.replicate (((e.next.map encI).length:Int)).toNat (List.map ofV (Value.bool false).cells.toList)=(jO e.next (zq e) 0).map yK:=by
   simp [jO,yK,ofV,Value.cells]
  rw [e1,hlm,toNat_cast]
  exact cC
 ·have g:=jm k hk
  simp only [inB,Bool.and_eq_true,decide_eq_true_eq] at g
  obtain ⟨g1,g2⟩:=g
  have hs:=zfp (nx:=e.next) (i0:=zq e) (k:=k) (fun j hj=>jm j (by omega)) (i:=(qV e.next (zq e) k).toNat) (by omega)
  have hv:(jP e.next (zq e) k).contains (((qV e.next (zq e) k).toNat:Nat):Int)=false:=by
   have:=c3 k hk
   simp only [xh,Bool.or_eq_false_iff,Bool.not_eq_false'] at this
   rw [Int.toNat_of_nonneg g1]
   exact this.2
  rw [hv] at hs
  have hyk:=hy k hk
  have hnx:(e.next)[(qV e.next (zq e) k).toNat]?= some (qV e.next (zq e) (k+1)):=by
   show _=some (nxt e.next (qV e.next (zq e) k))
   unfold nxt
   rw [List.getElem?_eq_getElem (by omega)]
   rfl
  have hse:(jO e.next (zq e) (k+1)).map yK=((jO e.next (zq e) k).map yK).set (qV e.next (zq e) k).toNat [Bo true]:=by
   show (List.set _ _ _).map yK=_
   rw [List.map_set];rfl
  rw [hse] at hyk
  rw [hse]
  generalize hP:qV e.next (zq e) k=p at *
  generalize hQ:qV e.next (zq e) (k+1)=p' at *
  conv=>whnf
  refine ⟨fun _=>?_,fun h=>absurd h (by simp;omega)⟩
  refine dd ?_
  refine ⟨fun h=>absurd h (by simp;omega),fun _=>?_⟩
  refine dd ?_
  refine ⟨fun h=>absurd h (by simp;omega),fun _=>?_⟩
  refine dd ?_
  refine ⟨g1,by omega,?_⟩
  conv=>whnf
  refine ⟨[Bo false],by rw [Nat.zero_add,List.getElem?_map,hs];rfl,Nat.le_refl _,?_⟩
  refine dd ?_
  (repeat ((first | apply ya | apply yb);refine dd ?_))
  refine ⟨g1,by omega,?_⟩
  conv=>whnf
  refine ⟨[Bo false],by rw [Nat.zero_add,List.getElem?_map,hs];rfl,rfl,?_⟩
  conv=>whnf
  rw [Nat.zero_add]
  refine ⟨_,_,hyk,?_⟩
  refine dd ?_
  (repeat ((first | apply ya | apply yb);refine dd ?_))
  refine ⟨g1,[I p'],by rw [List.getElem?_map,hnx];rfl,?_⟩
  conv=>whnf
  exact .inl ⟨rfl,cC,trivial⟩
 ·generalize hN:jI e.next (zq e)=N at *
  have hsN:∀ {i:Nat},i < e.next.length->(jO e.next (zq e) N)[i]?= some ((jP e.next (zq e) N).contains (i:Int)):=fun h=>zfp (nx:=e.next) (i0:=zq e) (k:=N) (fun j hj=>jm j hj) h
  obtain ⟨b,hz⟩:=hz
  by_cases hok:okV e.next (zq e)=true
  ·have hp:qV e.next (zq e) N= -1:=by simpa [okV,hN] using hok
   rw [if_pos hok] at hz
   rw [hp]
   conv=>whnf
   refine ⟨fun h=>absurd h (by simp),fun _=>?_⟩
   conv=>whnf
   refine ⟨by simp,?_⟩
   conv=>whnf
   refine ⟨_,_,hz,?_⟩
   conv=>whnf
   refine ⟨fun _=>?_,fun _=>?_⟩ <;>
   ·conv=>whnf
    exact ⟨.inr rfl,_,.refl _,rfl,rfl⟩
  ·have hp:qV e.next (zq e) N≠ -1:=by intro h;exact hok (by simp [okV,hN,h])
   rw [if_neg hok] at hz
   generalize hP:qV e.next (zq e) N=p at *
   conv=>whnf
   refine ⟨fun _=>?_,fun h=>absurd h (by simp;exact hp)⟩
   refine dd ?_
   have fin:∀ (X:Prop),X->X:=fun _ h=>h
   refine ⟨fun h1=>?_,fun h1=>?_⟩
   ·refine dd ?_
    refine ⟨by simp,?_⟩
    conv=>whnf
    refine ⟨_,_,hz,?_⟩
    conv=>whnf
    refine ⟨fun _=>?_,fun _=>?_⟩ <;>
    ·conv=>whnf
     exact ⟨.inr rfl,_,.refl _,rfl,rfl⟩
   ·refine dd ?_
    refine ⟨fun h2=>?_,fun h2=>?_⟩
    ·refine dd ?_
     refine ⟨by simp,?_⟩
     conv=>whnf
     refine ⟨_,_,hz,?_⟩
     conv=>whnf
     refine ⟨fun _=>?_,fun _=>?_⟩ <;>
     ·conv=>whnf
      exact ⟨.inr rfl,_,.refl _,rfl,rfl⟩
    ·have g1:0<=p:=by simpa using h1
     have g2:p < e.next.length:=by simp at h2;omega
     have hv:(jP e.next (zq e) N).contains (((p.toNat:Nat)):Int)=true:=by
      simp only [xh,hP,Bool.or_eq_true,Bool.not_eq_true',inB,Bool.and_eq_false_iff,decide_eq_false_iff_not] at c2
      rw [Int.toNat_of_nonneg g1]
      rcases c2 with (h | h) | h
      ·exact absurd g1 h
      ·exact absurd g2 h
      ·exact h
     have hs:=hsN (i:=p.toNat) (by omega)
     rw [hv] at hs
     refine dd ?_
     refine ⟨g1,by omega,?_⟩
     conv=>whnf
     refine ⟨[Bo true],by rw [Nat.zero_add,List.getElem?_map,hs];rfl,Nat.le_refl _,?_⟩
     refine dd ?_
     (repeat ((first | apply ya | apply yb);refine dd ?_))
     refine ⟨by simp,?_⟩
     conv=>whnf
     refine ⟨_,_,hz,?_⟩
     conv=>whnf
     refine ⟨fun _=>?_,fun _=>?_⟩ <;>
     ·conv=>whnf
      exact ⟨.inr rfl,_,.refl _,rfl,rfl⟩
end Go.Slp
namespace Go.Slp
open Go.Ab Go.Proofs Go.Hy
theorem zfI (e:En) (X Y Z W:Ob):zb Tryz.prog 102 [X,Y,Z,W] [Ev e] (.fn 158 [] [.ref 4 [] 3 0 0]) [X,Y,Z,W,⟨1,97,3,[qh e],0⟩]:=by
 refine zb.zA (fn:=Tryz.f102) Tryz.func102 rfl ?_
 conv=>whnf
 exact ⟨.inl rfl,_,.refl _,rfl,rfl⟩
theorem zaj (e:En) (he:e.ok) (N:Nat) (hN:jI e.next (zq e)=N) (l:Nat) (rec rec':Ob) (rr:C) (rn:Int) (b:Bool)
  (hy:∀ k,k < N->qF Tryz.prog l ([⟨1,97,3,[qh e],0⟩,⟨1,22,1,[[.lst 1 0 []]],0⟩,⟨1,58,1,[[I 0]],0⟩,⟨1,22,1,[[.gl 5 1 (vk e k)]],0⟩,⟨1,97,3,[qh e],0⟩,⟨4,3,1,(vk e k),0⟩,rec]++[⟨2,4,1,(jO e.next (zq e) (k+1)).map yK,0⟩]) [I (qV e.next (zq e) k)] (Bo true) ([⟨1,97,3,[qh e],0⟩,⟨1,22,1,[[.lst 1 0 []]],0⟩,⟨1,58,1,[[I 0]],0⟩,⟨1,22,1,[[.gl 5 1 (vk e (k+1))]],0⟩,⟨1,97,3,[qh e],0⟩,⟨4,3,1,(vk e (k+1)),0⟩,rec]++[⟨2,4,1,(jO e.next (zq e) (k+1)).map yK,0⟩]))
  (hz:qF Tryz.prog l ([⟨1,97,3,[qh e],0⟩,⟨1,22,1,[[.lst 1 0 []]],0⟩,⟨1,58,1,[[I 0]],0⟩,⟨1,22,1,[[.gl 5 1 (vk e N)]],0⟩,⟨1,97,3,[qh e],0⟩,⟨4,3,1,(vk e N),0⟩,rec]++[⟨2,4,1,(jO e.next (zq e) N).map yK,0⟩]) [I (if okV e.next (zq e) then -1 else -2)] (Bo b) ([⟨1,97,3,[qh e],0⟩,⟨1,22,1,[[rr]],0⟩,⟨1,58,1,[[I rn]],0⟩,⟨1,22,1,[[.gl 5 1 (vk e N)]],0⟩,⟨1,97,3,[qh e],0⟩,⟨4,3,1,(vk e N),0⟩,rec']++[⟨2,4,1,(jO e.next (zq e) N).map yK,0⟩])):
  zb Tryz.prog 158 [⟨1,97,3,[qh e],0⟩,⟨1,22,1,[[.lst 1 0 []]],0⟩,⟨1,58,1,[[I 0]],0⟩,⟨1,22,1,[[.gl 5 1 (vk e 0)]],0⟩,⟨1,97,3,[qh e],0⟩,⟨4,3,1,(vk e 0),0⟩,rec] [.v (.func (.yield l) #[] #[]),.ref 4 [] 3 0 0] (.tup []) ([⟨1,97,3,[qh e],0⟩,⟨1,22,1,[[rr]],0⟩,⟨1,58,1,[[I rn]],0⟩,⟨1,22,1,[[.gl 5 1 (vk e N)]],0⟩,⟨1,97,3,[qh e],0⟩,⟨4,3,1,(vk e N),0⟩,rec']++[⟨2,4,1,(jO e.next (zq e) N).map yK,0⟩]):=by
 subst hN
 exact zeA e he l rec rec' rr rn hy ⟨b,hz⟩
abbrev tF (r:List Int × Int):C:=.tup [lI r.1,I r.2]
theorem wR (e:En) (he:e.ok):zb Tryz.prog 54 [] [Ev e] (tF (xm e)) []:=by
 have hl:=he.2.1.2
 obtain ⟨c1,c2,c3⟩:=km e.next (zq e)
 generalize hN:jI e.next (zq e)=N at *
 refine zb.zk (fn:=Tryz.f54) Tryz.func54 rfl ?_
 conv=>whnf
 refine ⟨_,_,zfI e _ _ _ _,?_⟩
 conv=>whnf
 refine ⟨_,zj.zcG 3 0 3 1 rfl rfl (.inl rfl) rfl rfl,?_⟩
 have jm:∀ j,j < N->0<=qV e.next (zq e) j:=fun j hj=>by
  have:=c3 j hj
  simp only [xh,Bool.or_eq_false_iff,Bool.not_eq_false',inB,Bool.and_eq_true,decide_eq_true_eq] at this
  exact this.1.1
 have hv:∀ k,(vk e k).length=k:=fun k=>by simp [zis]
 have vs:∀ k,vk e (k+1)=vk e k++[[I (qV e.next (zq e) k)]]:=fun k=>by
  show (jP e.next (zq e) (k+1)).map encI=_
  rw [zdm,List.map_append];rfl
 by_cases hok:okV e.next (zq e)=true
 ·refine ⟨.normal,_,[⟨1,97,3,[qh e],0⟩,⟨1,22,1,[[.lst 1 0 []]],0⟩,⟨1,58,1,[[I 0]],0⟩,⟨1,22,1,[[.gl 5 1 (vk e N)]],0⟩,⟨1,97,3,[qh e],0⟩,⟨4,3,1,vk e N,0⟩],fun l r h1 h2 h3 h4 h5=>⟨_,_,r,zaj e he N hN l (obR l r _) (obR l r _) (.lst 1 0 []) 0 true (fun k hk=>?_) ?_,
   rfl,by rw [h1];decide,rfl,Nat.zero_le _,by rw [h2];trivial,zj.low 6 _ _ rfl rfl rfl⟩,?_⟩
  ·have g:=jm k hk
   have hvk:=hv k
   refine qF.zA (id:=6) rfl h1 h2 h3 h4 h5 rfl rfl rfl ?_
   conv=>whnf
   refine ⟨rfl,rfl,?_⟩
   conv=>whnf
   refine ⟨fun h=>absurd h (by simp;omega),fun _=>?_⟩
   conv=>whnf
   refine ⟨fun h=>absurd h (by simp;omega),fun _=>?_⟩
   conv=>whnf
   refine ⟨rfl,.inr rfl,by simp [maxLen,hvk];omega,by show _ * 8<=_;simp [hvk];omega,?_⟩
   conv=>whnf
   rw [vs k]
   exact ⟨_,_,.refl _,rfl,.inl ⟨rfl,rfl,rfl⟩⟩
  ·rw [if_pos hok]
   refine qF.zA (id:=6) rfl h1 h2 h3 h4 h5 rfl rfl rfl ?_
   conv=>whnf
   refine ⟨rfl,rfl,?_⟩
   conv=>whnf
   (repeat ((first | apply ya | apply yb);refine dd ?_))
   exact ⟨_,_,.refl _,rfl,.inl ⟨rfl,rfl,rfl⟩⟩
  ·have e1:xm e=(jP e.next (zq e) N,0):=by unfold xm;rw [if_pos hok,hN]
   rw [e1]
   conv=>whnf
   exact ⟨.inl rfl,_,.refl _,rfl⟩
 ·refine ⟨.ret,_,[⟨1,97,3,[qh e],0⟩,⟨1,22,1,[[.lst 1 0 []]],0⟩,⟨1,58,1,[[I 11]],0⟩],fun l r h1 h2 h3 h4 h5=>⟨_,_,left r .ret,zaj e he N hN l (obR l r _) (obR l (left r .ret) _) (.lst 1 0 []) 11 false (fun k hk=>?_) ?_,
   rfl,by simp,rfl,Nat.zero_le _,trivial,zj.low 3 _ _ rfl rfl rfl⟩,?_⟩
  ·have g:=jm k hk
   have hvk:=hv k
   refine qF.zA (id:=6) rfl h1 h2 h3 h4 h5 rfl rfl rfl ?_
   conv=>whnf
   refine ⟨rfl,rfl,?_⟩
   conv=>whnf
   refine ⟨fun h=>absurd h (by simp;omega),fun _=>?_⟩
   conv=>whnf
   refine ⟨fun h=>absurd h (by simp;omega),fun _=>?_⟩
   conv=>whnf
   refine ⟨rfl,.inr rfl,by simp [maxLen,hvk];omega,by show _ * 8<=_;simp [hvk];omega,?_⟩
   conv=>whnf
   rw [vs k]
   exact ⟨_,_,.refl _,rfl,.inl ⟨rfl,rfl,rfl⟩⟩
  ·rw [if_neg hok]
   refine qF.zA (id:=6) rfl h1 h2 h3 h4 h5 rfl rfl rfl ?_
   conv=>whnf
   refine ⟨rfl,rfl,?_⟩
   conv=>whnf
   (repeat ((first | apply ya | apply yb);refine dd ?_))
   exact ⟨_,_,.refl _,rfl,.inr ⟨rfl,.inl ⟨rfl,rfl⟩⟩⟩
  ·have e1:xm e=([],11):=by unfold xm;rw [if_neg hok]
   rw [e1]
   conv=>whnf
   exact ⟨.inl rfl,_,zj.var 1 rfl rfl rfl (.cons (WC.nil 0 1) .nil),rfl⟩
end Go.Slp
namespace Go.Slp
open Go.Ab Go.Proofs Go.Hy
theorem zla (e:En):((xm e).2 == 0)=okV e.next (zq e):=by
 unfold xm
 cases okV e.next (zq e) <;> simp
theorem kz (e:En) (he:e.ok):zb Tryz.prog 55 [] [Ev e] (Bo (isV e)) []:=by
 have h0:=zla e
 refine zb.zk (fn:=Tryz.f55) Tryz.func55 rfl ?_
 conv=>whnf
 refine ⟨_,_,(wR e he).frame rfl _,?_⟩;refine dd ?_
 refine ⟨fun h1=>?_,fun h1=>?_⟩
 ·rw [show ((xm e).2 == 0)=true from h1] at h0
  refine dd ?_
  refine ⟨fun h2=>?_,fun h2=>?_⟩
  ·refine dd ?_
   refine ⟨fun h3=>?_,fun h3=>?_⟩
   ·refine dd ?_
    (repeat' (first | (refine ⟨fun _=>?_,fun _=>?_⟩ <;> (conv=>whnf)) | fail))
    all_goals (rename_i h4;(exact ⟨.inl rfl,_,.refl _,congrArg (fun b=>some (C.v (Value.bool b))) (by simp at h2 h3 h4;simp [isV,<- h0];omega)⟩))
   ·refine dd ?_
    (exact ⟨.inl rfl,_,.refl _,congrArg (fun b=>some (C.v (Value.bool b))) (by simp at h2 h3;simp [isV,<- h0];omega)⟩)
  ·refine dd ?_
   (exact ⟨.inl rfl,_,.refl _,congrArg (fun b=>some (C.v (Value.bool b))) (by simp at h2;simp [isV,<- h0];omega)⟩)
 ·rw [show ((xm e).2 == 0)=false from h1] at h0
  refine dd ?_
  (exact ⟨.inl rfl,_,.refl _,congrArg (fun b=>some (C.v (Value.bool b))) (by simp [isV,<- h0])⟩)
end Go.Slp
namespace Go.Slp
open Go.Ab Go.Proofs Go.Hy
abbrev tQ (r:En × Int):C:=.tup [Ev r.1,I r.2]
end Go.Slp
namespace Go.Slp
open Go.Ab Go.Proofs Go.Hy
theorem yR (X Y:Ob) (x:Int) (l:List Int) (hl:l.length < 17592186043904):zb Tryz.prog 275 [X,Y] [lI (x::l)] (.sl 2 [] 1 0 (0+((l.map encI).length+1)) false) [X,Y,⟨2,3,1,(x::l).map encI,0⟩]:=by
 refine zb.zA (fn:=Tryz.f275) Tryz.func275 rfl ?_
 conv=>whnf
 refine ⟨by simp,?_⟩
 conv=>whnf
 refine .inr ⟨.inl rfl,by simp [maxLen];omega,by show _ * 8<=_;simp;omega,?_⟩
 conv=>whnf
 exact ⟨.inl rfl,_,.refl _,rfl,rfl⟩
end Go.Slp
namespace Go.Slp
open Go.Ab Go.Proofs Go.Hy
theorem zht:zb Tryz.prog 237 [] [.v (.int .u32 0),I 0] (.tup [U 1,I 0]) []:=
 zcX [] (fun w=>(YtgllekalddijbaaGreat.zke 0 0 w (by decide) (by decide) (by decide) (by decide)).mono fun e w' ⟨h1,h2⟩=>⟨h1,h2.symm⟩) zlL fun E=>.tup _ _ rfl fun j c y e1 e2=>by
  match j,e1,e2 with
  | 0,e1,e2=>cases e1;cases e2;exact .v _ rfl
  | 1,e1,e2=>cases e1;cases e2;exact .v _ rfl
def xy (n k:Nat):List Int:=(List.range n).map fun i=>if i < k then (i:Int)+1 else 0
def wS (n:Nat):List Int:=(List.range n).map fun (i:Nat)=>if i+1=n then -1 else (i:Int)+1
theorem vt (n k:Nat):(xy n k).length=n:=by simp [xy]
theorem zji {n k:Nat} (h:k < n):(xy n k).set k ((k:Int)+1)=xy n (k+1):=by
 apply List.ext_getElem?
 intro j
 rw [List.getElem?_set,vt]
 unfold xy
 simp only [List.getElem?_map]
 by_cases hj:j < n
 ·rw [List.getElem?_range hj]
  by_cases e:k=j
  ·subst e;simp [h]
  ·simp only [e,if_false,Option.map_some]
   by_cases h2:j < k
   ·simp [h2,show j < k+1 from by omega]
   ·simp [h2,show ¬j < k+1 from by omega]
 ·rw [List.getElem?_eq_none (by simp;omega)]
  simp
  omega
theorem zky {n:Nat}:(xy n n).set (n - 1) (-1)=wS n:=by
 apply List.ext_getElem?
 intro j
 rw [List.getElem?_set,vt]
 unfold xy wS
 simp only [List.getElem?_map]
 by_cases hj:j < n
 ·rw [List.getElem?_range hj]
  by_cases e:n - 1=j
  ·subst e;simp [show n - 1 < n from by omega,show n - 1+1=n from by omega]
  ·simp only [e,if_false,Option.map_some,hj,if_true,show ¬j+1=n from by omega]
 ·rw [List.getElem?_eq_none (by simp;omega)]
  simp
  omega
theorem zj2 {n:Int} (h1:¬(n < 1∨4 < n)):xV n=(⟨1,wS n.toNat,0⟩,0):=by unfold xV;rw [if_neg h1];rfl
theorem kr (n:Int):zb Tryz.prog 166 [] [I n] (tQ (xV n)) []:=by
 refine zb.zk (fn:=Tryz.f166) Tryz.func166 rfl ?_
 conv=>whnf
 have hbad:n < 1∨4 < n->xV n=(no,1):=fun h=>by unfold xV;rw [if_pos h]
 refine ⟨fun h1=>?_,fun h1=>?_⟩
 ·rw [hbad (.inl (by simpa using h1))]
  refine dd ?_
  exact ⟨.inl rfl,_,zj.var 0 rfl rfl rfl (.cons (.refl _) (.cons (WC.nil 0 1) (.cons (.refl _) .nil))),rfl⟩
 ·refine dd ?_
  refine ⟨fun h2=>?_,fun h2=>?_⟩
  ·rw [hbad (.inr (by simpa using h2))]
   refine dd ?_
   exact ⟨.inl rfl,_,zj.var 0 rfl rfl rfl (.cons (.refl _) (.cons (WC.nil 0 1) (.cons (.refl _) .nil))),rfl⟩
  ·have g1:1<=n:=by simp at h1;omega
   have g2:n<=4:=by simp at h2;omega
   rw [zj2 (by omega)]
   obtain ⟨m,rfl⟩:∃ m:Nat,n=m:=⟨n.toNat,by omega⟩
   rw [toNat_cast]
   refine dd ?_
   refine ⟨rfl,by omega,by show (8:Int) * _<=_;omega,by omega,?_⟩
   refine dd ?_
   refine zH.seq m (fun k=>[I m,.za,.ref 0 [] 3 0 0,I 0,.ref 2 [] 3 0 0,.za,.za,.za,.za,.za,.za,.za,.za,.za,.za,.za,.za,.za,I m,I k,.za,.za,.za,.za,.za,.za,.za,.za,.za,.za,.za,.za,.za,.za,.za,.za,.za,.za,.za,.za]) (fun k=>[⟨1,97,3,[[U 0,.lst 1 0 [],I 0]],0⟩,⟨2,3,1,(xy m k).map encI,0⟩,⟨1,97,3,[[U 0,.sl 1 [] 1 0 m false,I 0]],0⟩]) (fun _=>True) ?_ trivial (fun k hk _=>?_) (fun _=>?_)
   ·have e1:List.replicate ((m:Int)).toNat [C.v (Value.int .i64 0)]=(xy m 0).map encI:=by
     simp only [toNat_cast]
     apply List.ext_getElem?
     intro j
     rw [List.getElem?_replicate,List.getElem?_map]
     unfold xy
     simp only [List.getElem?_map]
     split
     ·rename_i hj;rw [List.getElem?_range hj];rfl
     ·rw [List.getElem?_eq_none (by simp;omega)];rfl
    show zj 0 ⟨_,[_,⟨2,3,1,List.replicate ((m:Int)).toNat [C.v (Value.int .i64 0)],0⟩,_]⟩ _
    rw [e1]
    exact cC
   ·have hg:((xy m k).map encI)[k]?= some (encI ((xy m k)[k]'(by rw [vt];exact hk))):=by rw [List.getElem?_map,List.getElem?_eq_getElem (by rw [vt];exact hk)];rfl
    have hse:((xy m k).map encI).set k [I ((k+1:Nat):Int)]=(xy m (k+1)).map encI:=by rw [<- zji hk,List.map_set];rfl
    conv=>whnf
    refine ⟨fun _=>?_,fun h=>absurd h (by simp;omega)⟩
    conv=>whnf
    refine ⟨by omega,by simp;omega,?_⟩
    refine dd ?_
    rw [Nat.zero_add,zo (by omega),toNat_cast]
    refine ⟨_,hg,rfl,?_⟩
    refine dd ?_
    rw [show List.set (List.map encI (xy m k)) k [C.v (Value.int IntKind.i64 ((k+1:Nat):Int))]=(xy m (k+1)).map encI from hse]
    refine .inl ⟨rfl,?_,trivial⟩
    rw [zo (by omega)]
    exact cE 3
   ·have hg:((xy m m).map encI)[m - 1]?= some (encI ((xy m m)[m - 1]'(by rw [vt];omega))):=by rw [List.getElem?_map,List.getElem?_eq_getElem (by rw [vt];omega)];rfl
    have hse:((xy m m).map encI).set (m - 1) [I (-1)]=(wS m).map encI:=by rw [<- zky,List.map_set];rfl
    have hw:IntKind.i64.wrap ((m:Int) - 1)=((m - 1:Nat):Int):=by rw [ql (by omega) (by omega)];omega
    have hfl:(wS m).length=m:=by simp [wS]
    conv=>whnf
    refine ⟨fun h=>absurd h (by simp),fun _=>?_⟩
    conv=>whnf
    refine ⟨by simp,?_⟩
    conv=>whnf
    rw [hw]
    refine ⟨by omega,by simp;omega,?_⟩
    refine dd ?_
    rw [Nat.zero_add,toNat_cast]
    refine ⟨_,hg,rfl,?_⟩
    refine dd ?_
    rw [show List.set (List.map encI (xy m m)) (m - 1) [C.v (Value.int IntKind.i64 (-1))]=(wS m).map encI from hse]
    refine ⟨_,_,(zht).frame rfl _,?_⟩;refine dd ?_
    exact ⟨.inl rfl,_,zj.zid 0 1 rfl rfl rfl (by simp [hfl]) (fun r hr c hc=>by
     obtain ⟨n,_,rfl⟩:=List.mem_map.1 hr
     simp [encI] at hc
     subst hc;rfl) rfl rfl,rfl⟩
end Go.Slp
