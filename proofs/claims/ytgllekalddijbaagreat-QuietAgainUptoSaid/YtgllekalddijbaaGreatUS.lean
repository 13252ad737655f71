import Derived.WalkKit
import Derived.Test.YtgllekalddijbaaGreatRows
import Derived.Test.YtgllekalddijbaaGreatUJ
import Derived.Test.YtgllekalddijbaaGreatUC
import Derived.Test.YtgllekalddijbaaGreatProg
set_option linter.unusedVariables false
set_option linter.unusedSimpArgs false
set_option linter.unusedSectionVars false
set_option maxRecDepth 100000
set_option maxHeartbeats 4000000
namespace Go.Proofs.YtgllekalddijbaaGreat
open Go.RowKit
theorem zlG (t i:Int) (h1:0<=t) (h2:t < 4294967296) (h3: -1<=i) (h4:i<=2147483646):
  bits .or .u64 (t * 4294967296) (i+1)=t * 4294967296+(i+1):=by
 rw [u64_or _ _ (by omega) (by omega) (by omega) (by omega)]
 obtain ⟨a,rfl⟩:=Int.eq_ofNat_of_zero_le h1
 obtain ⟨b,hb⟩:=Int.eq_ofNat_of_zero_le (show 0<=i+1 by omega)
 rw [hb]
 have hlt:b < 2 ^ 32:=by have:(b:Int) < 4294967296:=by omega
                         simpa using (by omega:b < 4294967296)
 have:=Nat.two_pow_add_eq_or_of_lt hlt a
 have e:((a:Int) * 4294967296).toNat=2 ^ 32 * a:=by omega
 rw [e,Int.toNat_natCast,<- this]
 omega
theorem zjq (t i:Int) (w:World) (h1:0<=t) (h2:t < 4294967296) (h3: -1<=i) (h4:i<=2147483646):
  Calls Tryz.prog 237 #[.int .u32 t,.int .i64 i] w fun e w'=>e=.returned (.tuple #[.int .u64 (t * 4294967296+(i+1)),.int .i64 0])∧w=w':=by
 go_enter Tryz.func237,Tryz.ntmps237
 go_wp2
 go_ret2
 exact ⟨by simp [zlG t i h1 h2 h3 h4],rfl⟩
theorem zh2 (x:Int) (w:World) (h1:0<=x) (h2:x < 18446744073709551616):
  Calls Tryz.prog 159 #[.int .u64 x] w fun e w'=>e=.returned (.int .i64 (x % 4294967296 - 1))∧w=w':=by
 go_enter Tryz.func159,Tryz.ntmps159
 go_wp2
 go_ret
 exact ⟨rfl,rfl⟩
end Go.Proofs.YtgllekalddijbaaGreat
namespace Go.Proofs.YtgllekalddijbaaGreat
open Go.RowKit
end Go.Proofs.YtgllekalddijbaaGreat
namespace Go.Slp
open Go.Ab Go.Hy
def inB (nx:List Int) (i:Int):Bool:=decide (0<=i) && decide (i < nx.length)
def nxt (nx:List Int) (i:Int):Int:=(nx[i.toNat]?).getD 0
def jf (nx:List Int) (i0:Int):Nat->Int
 | 0=>i0
 | k+1=>nxt nx (jf nx i0 k)
def j4 (nx:List Int) (i0:Int) (k:Nat):List Int:=(List.range k).map (jf nx i0)
def xx (nx:List Int) (i0:Int) (k:Nat):Bool:=!inB nx (jf nx i0 k) || (j4 nx i0 k).contains (jf nx i0 k)
def j9 (nx:List Int) (i0:Int):Nat:=((List.range (nx.length+1)).find? (xx nx i0)).getD 0
def okV (nx:List Int) (i0:Int):Bool:=jf nx i0 (j9 nx i0) == -1
theorem zgL:∀ (n:Nat) (l:List Int),l.Nodup->(∀ x ∈ l,0<=x∧x < n)->l.length<=n
 | 0,l,_,h=>by
  cases l with
  | nil=>exact Nat.le_refl _
  | cons x l=>have:=h x (List.mem_cons_self ..);omega
 | n+1,l,hd,h=>by
  by_cases hm:(n:Int) ∈ l
  ·have h1:=zgL n (l.erase n) (hd.erase _) fun x hx=>by
    have h2:=h x (List.mem_of_mem_erase hx)
    have h3:x≠n:=fun e=>by
     subst e
     exact absurd hx (List.Nodup.not_mem_erase hd)
    omega
   rw [List.length_erase_of_mem hm] at h1
   omega
  ·have:=zgL n l hd fun x hx=>by
    have h2:=h x hx
    have h3:x≠n:=fun e=>hm (e ▸ hx)
    omega
   omega
theorem zct (nx:List Int) (i0:Int) (k:Nat):j4 nx i0 (k+1)=j4 nx i0 k++[jf nx i0 k]:=by
 simp [j4,List.range_succ]
theorem zhz (nx:List Int) (i0:Int) (k:Nat):(j4 nx i0 k).length=k:=by simp [j4]
theorem zfB {nx:List Int} {i0:Int}:∀ {k:Nat},(∀ j,j < k->xx nx i0 j=false)->(j4 nx i0 k).Nodup∧∀ x ∈ j4 nx i0 k,inB nx x=true
 | 0,_=>⟨by simp [j4],by simp [j4]⟩
 | k+1,h=>by
  obtain ⟨h1,h2⟩:=zfB (k:=k) fun j hj=>h j (by omega)
  have h3:=h k (by omega)
  simp only [xx,Bool.or_eq_false_iff,Bool.not_eq_false'] at h3
  have h4:jf nx i0 k ∉ j4 nx i0 k:=by simpa using h3.2
  rw [zct]
  refine ⟨?_,?_⟩
  ·rw [List.nodup_append]
   refine ⟨h1,by simp,?_⟩
   intro a ha b hb e
   rw [List.mem_singleton] at hb
   subst hb e
   exact h4 ha
  ·intro x hx
   rcases List.mem_append.1 hx with hx | hx
   ·exact h2 x hx
   ·rw [List.mem_singleton.1 hx];exact h3.1
theorem kX (nx:List Int) (i0:Int):j9 nx i0<=nx.length∧xx nx i0 (j9 nx i0)=true∧∀ j,j < j9 nx i0->xx nx i0 j=false:=by
 unfold j9
 cases e:(List.range (nx.length+1)).find? (xx nx i0) with
 | none=>
  exfalso
  rw [List.find?_eq_none] at e
  have h:∀ j,j < nx.length+1->xx nx i0 j=false:=fun j hj=>by simpa using e j (List.mem_range.2 hj)
  obtain ⟨h1,h2⟩:=zfB h
  have:=zgL nx.length _ h1 fun x hx=>by
   have:=h2 x hx
   simp only [inB,Bool.and_eq_true,decide_eq_true_eq] at this
   exact this
  rw [zhz] at this
  omega
 | some k=>
  rw [List.find?_eq_some_iff_append] at e
  obtain ⟨h1,az,bs,h2,h3⟩:=e
  have hk:az.length=k∧k < nx.length+1:=by
   have h4:(List.range (nx.length+1))[az.length]?= some k:=by rw [h2];simp
   have h5:=(List.getElem?_eq_some_iff.1 h4)
   obtain ⟨h6,h7⟩:=h5
   rw [List.getElem_range] at h7
   simp at h6
   omega
  refine ⟨by simp;omega,by simpa using h1,fun j hj=>?_⟩
  have h8:(List.range (nx.length+1))[j]?= some j:=by
   simp at hj
   rw [List.getElem?_range (by omega)]
  rw [h2,List.getElem?_append_left (by simp at hj;omega)] at h8
  simpa using h3 j (List.mem_of_getElem? h8)
theorem ziZ {nx:List Int} {i0:Int} {n:Nat} (h1:xx nx i0 n=true) (h2:∀ j,j < n->xx nx i0 j=false):j9 nx i0=n:=by
 obtain ⟨_,h3,h4⟩:=kX nx i0
 rcases Nat.lt_trichotomy (j9 nx i0) n with h | h | h
 ·rw [h2 _ h] at h3;cases h3
 ·exact h
 ·rw [h4 _ h] at h1;cases h1
abbrev no:En:=⟨0,[],0⟩
def zt (e:En):Int:=e.head % 4294967296 - 1
def kg (x i:Int):Int:=(x / 4294967296+1) % 4294967296 * 4294967296+(i+1)
def j6 (e:En):List Int × Int:=if okV e.next (zt e) then (j4 e.next (zt e) (j9 e.next (zt e)),0) else ([],11)
def isV (e:En):Bool:=okV e.next (zt e) && decide (1<=e.next.length) && decide (e.next.length<=4) && decide (0<=e.zr)
def zla (e:En) (slot:Int):En × Int:=
 if isV e=false then (no,11) else if slot < 0∨e.next.length<=slot then (no,1) else if (j6 e).1.contains slot then (no,4)
 else (⟨kg e.head slot,e.next.set slot.toNat (zt e),e.zr⟩,0)
def yv (n:Int):En × Int:=if n < 1∨4 < n then (no,1) else (⟨1,(List.range n.toNat).map fun (i:Nat)=>if i+1=n.toNat then -1 else (i:Int)+1,0⟩,0)
theorem zjj (e:En): -1<=zt e∧zt e<=4294967294:=by unfold zt;omega
theorem zlx {e:En} (h:isV e=true):okV e.next (zt e)=true∧1<=e.next.length∧e.next.length<=4∧0<=e.zr:=by
 simp only [isV,Bool.and_eq_true,decide_eq_true_eq] at h
 exact ⟨h.1.1.1,h.1.1.2,h.1.2,h.2⟩
def jw (nx:List Int) (i0:Int):Nat->List Bool
 | 0=>List.replicate nx.length false
 | k+1=>(jw nx i0 k).set (jf nx i0 k).toNat true
theorem zfs (nx:List Int) (i0:Int):∀ k,(jw nx i0 k).length=nx.length
 | 0=>by simp [jw]
 | k+1=>by simp [jw,zfs nx i0 k]
theorem zel {nx:List Int} {i0:Int}:∀ {k:Nat},(∀ j,j < k->inB nx (jf nx i0 j)=true)->∀ {i:Nat},i < nx.length->(jw nx i0 k)[i]?= some ((j4 nx i0 k).contains (i:Int))
 | 0,_,i,hi=>by simp [jw,j4,hi]
 | k+1,h,i,hi=>by
  have ih:=zel (k:=k) (fun j hj=>h j (by omega)) hi
  have hb:=h k (by omega)
  simp only [inB,Bool.and_eq_true,decide_eq_true_eq] at hb
  rw [zct]
  simp only [jw]
  rw [List.getElem?_set,zfs]
  by_cases e:(jf nx i0 k).toNat=i
  ·rw [if_pos e,if_pos (by omega)]
   have:(i:Int)=jf nx i0 k:=by omega
   simp [this]
  ·rw [if_neg e,ih]
   have:¬(i:Int)=jf nx i0 k:=by omega
   simp [this]
end Go.Slp
namespace Go.Slp
open Go.Ab Go.Proofs Go.Hy
theorem zj1 {x:Int} (h:u64 x):0<=x∧x < 18446744073709551616:=by unfold u64 at h;omega
theorem ze5 (x:Int) (h:u64 x):zb Tryz.prog 159 [] [U x] (I (x % 4294967296 - 1)) []:=
 zb3 [] (fun w=>(YtgllekalddijbaaGreat.zh2 x w (zj1 h).1 (zj1 h).2).mono fun e w' ⟨h1,h2⟩=>⟨h1,h2.symm⟩) zmd fun E=>.v _ rfl
abbrev Ev (e:En):C:=.agg (zX e)
abbrev vk (e:En) (k:Nat):List (List C):=(j4 e.next (zt e) k).map encI
theorem zdz (e:En) (he:e.ok) (l:Nat) (rec rec':Ob) (rr:C) (rn:Int)
  (hy:∀ k,k < j9 e.next (zt e)->qK Tryz.prog l ([⟨1,97,3,[zX e],0⟩,⟨1,22,1,[[.lst 1 0 []]],0⟩,⟨1,58,1,[[I 0]],0⟩,⟨1,22,1,[[.gl 5 1 (vk e k)]],0⟩,⟨1,97,3,[zX e],0⟩,⟨4,3,1,(vk e k),0⟩,rec]++[⟨2,4,1,(jw e.next (zt e) (k+1)).map xV,0⟩]) [I (jf e.next (zt e) k)] (Bo true) ([⟨1,97,3,[zX e],0⟩,⟨1,22,1,[[.lst 1 0 []]],0⟩,⟨1,58,1,[[I 0]],0⟩,⟨1,22,1,[[.gl 5 1 (vk e (k+1))]],0⟩,⟨1,97,3,[zX e],0⟩,⟨4,3,1,(vk e (k+1)),0⟩,rec]++[⟨2,4,1,(jw e.next (zt e) (k+1)).map xV,0⟩]))
  (hz:∃ b,qK Tryz.prog l ([⟨1,97,3,[zX e],0⟩,⟨1,22,1,[[.lst 1 0 []]],0⟩,⟨1,58,1,[[I 0]],0⟩,⟨1,22,1,[[.gl 5 1 (vk e (j9 e.next (zt e)))]],0⟩,⟨1,97,3,[zX e],0⟩,⟨4,3,1,(vk e (j9 e.next (zt e))),0⟩,rec]++[⟨2,4,1,(jw e.next (zt e) (j9 e.next (zt e))).map xV,0⟩]) [I (if okV e.next (zt e) then -1 else -2)] (Bo b) ([⟨1,97,3,[zX e],0⟩,⟨1,22,1,[[rr]],0⟩,⟨1,58,1,[[I rn]],0⟩,⟨1,22,1,[[.gl 5 1 (vk e (j9 e.next (zt e)))]],0⟩,⟨1,97,3,[zX e],0⟩,⟨4,3,1,(vk e (j9 e.next (zt e))),0⟩,rec']++[⟨2,4,1,(jw e.next (zt e) (j9 e.next (zt e))).map xV,0⟩])):
  zb Tryz.prog 158 [⟨1,97,3,[zX e],0⟩,⟨1,22,1,[[.lst 1 0 []]],0⟩,⟨1,58,1,[[I 0]],0⟩,⟨1,22,1,[[.gl 5 1 (vk e 0)]],0⟩,⟨1,97,3,[zX e],0⟩,⟨4,3,1,(vk e 0),0⟩,rec] [.v (.func (.yield l) #[] #[]),.ref 4 [] 3 0 0] (.tup []) ([⟨1,97,3,[zX e],0⟩,⟨1,22,1,[[rr]],0⟩,⟨1,58,1,[[I rn]],0⟩,⟨1,22,1,[[.gl 5 1 (vk e (j9 e.next (zt e)))]],0⟩,⟨1,97,3,[zX e],0⟩,⟨4,3,1,(vk e (j9 e.next (zt e))),0⟩,rec']++[⟨2,4,1,(jw e.next (zt e) (j9 e.next (zt e))).map xV,0⟩]):=by
 refine zb.zF (fn:=Tryz.f158) Tryz.func158 rfl ?_
 conv=>whnf
 have hl:=he.2.1.2
 have hlm:(e.next.map encI).length=e.next.length:=List.length_map ..
 obtain ⟨c1,c2,c3⟩:=kX e.next (zt e)
 have jF:∀ j,j < j9 e.next (zt e)->inB e.next (jf e.next (zt e) j)=true:=fun j hj=>by
  have:=c3 j hj
  simp only [xx,Bool.or_eq_false_iff,Bool.not_eq_false'] at this
  exact this.1
 refine ⟨rfl,by omega,by show (1:Int) * _<=_;omega,by omega,?_⟩
 conv=>whnf
 refine ⟨_,_,(ze5 e.head he.1).frame rfl _,?_⟩;refine dd ?_
 refine zM.seq (j9 e.next (zt e)) (fun k=>[.v (.func (.yield l) #[] #[]),.ref 4 [] 3 0 0,.za,.sl 7 [] 1 0 e.next.length false,I (jf e.next (zt e) k),.za,.za,.za,.za,.za,.za,.za,.za,.za,.za,.za,.za,.za,.za,.za,.za,.za,.za,.za,.za,.za,.za,.za,.za,.za,.za,.za,.za,.za,.za,.za,.za,.za,.za,.za,.za,.za,.za,.za])
  (fun k=>[⟨1,97,3,[zX e],0⟩,⟨1,22,1,[[.lst 1 0 []]],0⟩,⟨1,58,1,[[I 0]],0⟩,⟨1,22,1,[[.gl 5 1 (vk e k)]],0⟩,⟨1,97,3,[zX e],0⟩,⟨4,3,1,(vk e k),0⟩,rec]++[⟨2,4,1,(jw e.next (zt e) k).map xV,0⟩]) (fun _=>True) ?_ trivial (fun k hk _=>?_) (fun _=>?_)
 ·have e1:List.replicate (((e.next.map encI).length:Int)).toNat (List.map ofV (Value.bool false).cells.toList)=(jw e.next (zt e) 0).map xV:=by
   simp [jw,xV,ofV,Value.cells]
  rw [e1,hlm,toNat_cast]
  exact cC
 ·have g:=jF k hk
  simp only [inB,Bool.and_eq_true,decide_eq_true_eq] at g
  obtain ⟨g1,g2⟩:=g
  have hs:=zel (nx:=e.next) (i0:=zt e) (k:=k) (fun j hj=>jF j (by omega)) (i:=(jf e.next (zt e) k).toNat) (by omega)
  have hv:(j4 e.next (zt e) k).contains (((jf e.next (zt e) k).toNat:Nat):Int)=false:=by
   have:=c3 k hk
   simp only [xx,Bool.or_eq_false_iff,Bool.not_eq_false'] at this
   rw [Int.toNat_of_nonneg g1]
   exact this.2
  rw [hv] at hs
  have hyk:=hy k hk
  have hnx:(e.next)[(jf e.next (zt e) k).toNat]?= some (jf e.next (zt e) (k+1)):=by
   show _=some (nxt e.next (jf e.next (zt e) k))
   unfold nxt
   rw [List.getElem?_eq_getElem (by omega)]
   rfl
  have hse:(jw e.next (zt e) (k+1)).map xV=((jw e.next (zt e) k).map xV).set (jf e.next (zt e) k).toNat [Bo true]:=by
   show (List.set _ _ _).map xV=_
   rw [List.map_set];rfl
  rw [hse] at hyk
  rw [hse]
  generalize hP:jf e.next (zt e) k=p at *
  generalize hQ:jf e.next (zt e) (k+1)=p' at *
  conv=>whnf
  refine ⟨fun _=>?_,fun h=>absurd h (by simp;omega)⟩
  refine dd ?_
  refine ⟨fun h=>absurd h (by simp;omega),fun _=>?_⟩
  refine dd ?_
  refine ⟨fun h=>absurd h (by simp;omega),fun _=>?_⟩
  refine dd ?_
  refine ⟨g1,by omega,?_⟩
  conv=>whnf
  refine ⟨[Bo false],by rw [Nat.zero_add,List.getElem?_map,hs];rfl,Nat.le_refl _,?_⟩
  refine dd ?_
  (repeat ((first | apply ya | apply yb);refine dd ?_))
  refine ⟨g1,by omega,?_⟩
  conv=>whnf
  refine ⟨[Bo false],by rw [Nat.zero_add,List.getElem?_map,hs];rfl,rfl,?_⟩
  conv=>whnf
  rw [Nat.zero_add]
  refine ⟨_,_,hyk,?_⟩
  refine dd ?_
  (repeat ((first | apply ya | apply yb);refine dd ?_))
  refine ⟨g1,[I p'],by rw [List.getElem?_map,hnx];rfl,?_⟩
  conv=>whnf
  exact .inl ⟨rfl,cC,trivial⟩
 ·generalize hN:j9 e.next (zt e)=N at *
  have hsN:∀ {i:Nat},i < e.next.length->(jw e.next (zt e) N)[i]?= some ((j4 e.next (zt e) N).contains (i:Int)):=fun h=>zel (nx:=e.next) (i0:=zt e) (k:=N) (fun j hj=>jF j hj) h
  obtain ⟨b,hz⟩:=hz
  by_cases hok:okV e.next (zt e)=true
  ·have hp:jf e.next (zt e) N= -1:=by simpa [okV,hN] using hok
   rw [if_pos hok] at hz
   rw [hp]
   conv=>whnf
   refine ⟨fun h=>absurd h (by simp),fun _=>?_⟩
   conv=>whnf
   refine ⟨by simp,?_⟩
   conv=>whnf
   refine ⟨_,_,hz,?_⟩
   conv=>whnf
   refine ⟨fun _=>?_,fun _=>?_⟩ <;>
   ·conv=>whnf
    exact ⟨.inr rfl,_,.refl _,rfl,rfl⟩
  ·have hp:jf e.next (zt e) N≠ -1:=by intro h;exact hok (by simp [okV,hN,h])
   rw [if_neg hok] at hz
   generalize hP:jf e.next (zt e) N=p at *
   conv=>whnf
   refine ⟨fun _=>?_,fun h=>absurd h (by simp;exact hp)⟩
   refine dd ?_
   have fin:∀ (X:Prop),X->X:=fun _ h=>h
   refine ⟨fun h1=>?_,fun h1=>?_⟩
   ·refine dd ?_
    refine ⟨by simp,?_⟩
    conv=>whnf
    refine ⟨_,_,hz,?_⟩
    conv=>whnf
    refine ⟨fun _=>?_,fun _=>?_⟩ <;>
    ·conv=>whnf
     exact ⟨.inr rfl,_,.refl _,rfl,rfl⟩
   ·refine dd ?_
    refine ⟨fun h2=>?_,fun h2=>?_⟩
    ·refine dd ?_
     refine ⟨by simp,?_⟩
     conv=>whnf
     refine ⟨_,_,hz,?_⟩
     conv=>whnf
     refine ⟨fun _=>?_,fun _=>?_⟩ <;>
     ·conv=>whnf
      exact ⟨.inr rfl,_,.refl _,rfl,rfl⟩
    ·have g1:0<=p:=by simpa using h1
     have g2:p < e.next.length:=by simp at h2;omega
     have hv:(j4 e.next (zt e) N).contains (((p.toNat:Nat)):Int)=true:=by
      simp only [xx,hP,Bool.or_eq_true,Bool.not_eq_true',inB,Bool.and_eq_false_iff,decide_eq_false_iff_not] at c2
      rw [Int.toNat_of_nonneg g1]
      rcases c2 with (h | h) | h
      ·exact absurd g1 h
      ·exact absurd g2 h
      ·exact h
     have hs:=hsN (i:=p.toNat) (by omega)
     rw [hv] at hs
     refine dd ?_
     refine ⟨g1,by omega,?_⟩
     conv=>whnf
     refine ⟨[Bo true],by rw [Nat.zero_add,List.getElem?_map,hs];rfl,Nat.le_refl _,?_⟩
     refine dd ?_
     (repeat ((first | apply ya | apply yb);refine dd ?_))
     refine ⟨by simp,?_⟩
     conv=>whnf
     refine ⟨_,_,hz,?_⟩
     conv=>whnf
     refine ⟨fun _=>?_,fun _=>?_⟩ <;>
     ·conv=>whnf
      exact ⟨.inr rfl,_,.refl _,rfl,rfl⟩
end Go.Slp
namespace Go.Slp
open Go.Ab Go.Proofs Go.Hy
theorem zeE (e:En) (X Y Z W:Ob):zb Tryz.prog 102 [X,Y,Z,W] [Ev e] (.fn 158 [] [.ref 4 [] 3 0 0]) [X,Y,Z,W,⟨1,97,3,[zX e],0⟩]:=by
 refine zb.zF (fn:=Tryz.f102) Tryz.func102 rfl ?_
 conv=>whnf
 exact ⟨.inl rfl,_,.refl _,rfl,rfl⟩
theorem kU (e:En) (he:e.ok) (N:Nat) (hN:j9 e.next (zt e)=N) (l:Nat) (rec rec':Ob) (rr:C) (rn:Int) (b:Bool)
  (hy:∀ k,k < N->qK Tryz.prog l ([⟨1,97,3,[zX e],0⟩,⟨1,22,1,[[.lst 1 0 []]],0⟩,⟨1,58,1,[[I 0]],0⟩,⟨1,22,1,[[.gl 5 1 (vk e k)]],0⟩,⟨1,97,3,[zX e],0⟩,⟨4,3,1,(vk e k),0⟩,rec]++[⟨2,4,1,(jw e.next (zt e) (k+1)).map xV,0⟩]) [I (jf e.next (zt e) k)] (Bo true) ([⟨1,97,3,[zX e],0⟩,⟨1,22,1,[[.lst 1 0 []]],0⟩,⟨1,58,1,[[I 0]],0⟩,⟨1,22,1,[[.gl 5 1 (vk e (k+1))]],0⟩,⟨1,97,3,[zX e],0⟩,⟨4,3,1,(vk e (k+1)),0⟩,rec]++[⟨2,4,1,(jw e.next (zt e) (k+1)).map xV,0⟩]))
  (hz:qK Tryz.prog l ([⟨1,97,3,[zX e],0⟩,⟨1,22,1,[[.lst 1 0 []]],0⟩,⟨1,58,1,[[I 0]],0⟩,⟨1,22,1,[[.gl 5 1 (vk e N)]],0⟩,⟨1,97,3,[zX e],0⟩,⟨4,3,1,(vk e N),0⟩,rec]++[⟨2,4,1,(jw e.next (zt e) N).map xV,0⟩]) [I (if okV e.next (zt e) then -1 else -2)] (Bo b) ([⟨1,97,3,[zX e],0⟩,⟨1,22,1,[[rr]],0⟩,⟨1,58,1,[[I rn]],0⟩,⟨1,22,1,[[.gl 5 1 (vk e N)]],0⟩,⟨1,97,3,[zX e],0⟩,⟨4,3,1,(vk e N),0⟩,rec']++[⟨2,4,1,(jw e.next (zt e) N).map xV,0⟩])):
  zb Tryz.prog 158 [⟨1,97,3,[zX e],0⟩,⟨1,22,1,[[.lst 1 0 []]],0⟩,⟨1,58,1,[[I 0]],0⟩,⟨1,22,1,[[.gl 5 1 (vk e 0)]],0⟩,⟨1,97,3,[zX e],0⟩,⟨4,3,1,(vk e 0),0⟩,rec] [.v (.func (.yield l) #[] #[]),.ref 4 [] 3 0 0] (.tup []) ([⟨1,97,3,[zX e],0⟩,⟨1,22,1,[[rr]],0⟩,⟨1,58,1,[[I rn]],0⟩,⟨1,22,1,[[.gl 5 1 (vk e N)]],0⟩,⟨1,97,3,[zX e],0⟩,⟨4,3,1,(vk e N),0⟩,rec']++[⟨2,4,1,(jw e.next (zt e) N).map xV,0⟩]):=by
 subst hN
 exact zdz e he l rec rec' rr rn hy ⟨b,hz⟩
abbrev tF (r:List Int × Int):C:=.tup [lI r.1,I r.2]
theorem ku (e:En) (he:e.ok):zb Tryz.prog 54 [] [Ev e] (tF (j6 e)) []:=by
 have hl:=he.2.1.2
 obtain ⟨c1,c2,c3⟩:=kX e.next (zt e)
 generalize hN:j9 e.next (zt e)=N at *
 refine zb.zm (fn:=Tryz.f54) Tryz.func54 rfl ?_
 conv=>whnf
 refine ⟨_,_,zeE e _ _ _ _,?_⟩
 conv=>whnf
 refine ⟨_,zl.zhk 3 0 3 1 rfl rfl (.inl rfl) rfl rfl,?_⟩
 have jF:∀ j,j < N->0<=jf e.next (zt e) j:=fun j hj=>by
  have:=c3 j hj
  simp only [xx,Bool.or_eq_false_iff,Bool.not_eq_false',inB,Bool.and_eq_true,decide_eq_true_eq] at this
  exact this.1.1
 have hv:∀ k,(vk e k).length=k:=fun k=>by simp [zhz]
 have vs:∀ k,vk e (k+1)=vk e k++[[I (jf e.next (zt e) k)]]:=fun k=>by
  show (j4 e.next (zt e) (k+1)).map encI=_
  rw [zct,List.map_append];rfl
 by_cases hok:okV e.next (zt e)=true
 ·refine ⟨.normal,_,[⟨1,97,3,[zX e],0⟩,⟨1,22,1,[[.lst 1 0 []]],0⟩,⟨1,58,1,[[I 0]],0⟩,⟨1,22,1,[[.gl 5 1 (vk e N)]],0⟩,⟨1,97,3,[zX e],0⟩,⟨4,3,1,vk e N,0⟩],fun l r h1 h2 h3 h4 h5=>⟨_,_,r,kU e he N hN l (obR l r _) (obR l r _) (.lst 1 0 []) 0 true (fun k hk=>?_) ?_,
   rfl,by rw [h1];decide,rfl,Nat.zero_le _,by rw [h2];trivial,zl.low 6 _ _ rfl rfl rfl⟩,?_⟩
  ·have g:=jF k hk
   have hvk:=hv k
   refine qK.zF (id:=6) rfl h1 h2 h3 h4 h5 rfl rfl rfl ?_
   conv=>whnf
   refine ⟨rfl,rfl,?_⟩
   conv=>whnf
   refine ⟨fun h=>absurd h (by simp;omega),fun _=>?_⟩
   conv=>whnf
   refine ⟨fun h=>absurd h (by simp;omega),fun _=>?_⟩
   conv=>whnf
   refine ⟨rfl,.inr rfl,by simp [maxLen,hvk];omega,by show _ * 8<=_;simp [hvk];omega,?_⟩
   conv=>whnf
   rw [vs k]
   exact ⟨_,_,.refl _,rfl,.inl ⟨rfl,rfl,rfl⟩⟩
  ·rw [if_pos hok]
   refine qK.zF (id:=6) rfl h1 h2 h3 h4 h5 rfl rfl rfl ?_
   conv=>whnf
   refine ⟨rfl,rfl,?_⟩
   conv=>whnf
   (repeat ((first | apply ya | apply yb);refine dd ?_))
   exact ⟨_,_,.refl _,rfl,.inl ⟨rfl,rfl,rfl⟩⟩
  ·have e1:j6 e=(j4 e.next (zt e) N,0):=by unfold j6;rw [if_pos hok,hN]
   rw [e1]
   conv=>whnf
   exact ⟨.inl rfl,_,.refl _,rfl⟩
 ·refine ⟨.ret,_,[⟨1,97,3,[zX e],0⟩,⟨1,22,1,[[.lst 1 0 []]],0⟩,⟨1,58,1,[[I 11]],0⟩],fun l r h1 h2 h3 h4 h5=>⟨_,_,left r .ret,kU e he N hN l (obR l r _) (obR l (left r .ret) _) (.lst 1 0 []) 11 false (fun k hk=>?_) ?_,
   rfl,by simp,rfl,Nat.zero_le _,trivial,zl.low 3 _ _ rfl rfl rfl⟩,?_⟩
  ·have g:=jF k hk
   have hvk:=hv k
   refine qK.zF (id:=6) rfl h1 h2 h3 h4 h5 rfl rfl rfl ?_
   conv=>whnf
   refine ⟨rfl,rfl,?_⟩
   conv=>whnf
   refine ⟨fun h=>absurd h (by simp;omega),fun _=>?_⟩
   conv=>whnf
   refine ⟨fun h=>absurd h (by simp;omega),fun _=>?_⟩
   conv=>whnf
   refine ⟨rfl,.inr rfl,by simp [maxLen,hvk];omega,by show _ * 8<=_;simp [hvk];omega,?_⟩
   conv=>whnf
   rw [vs k]
   exact ⟨_,_,.refl _,rfl,.inl ⟨rfl,rfl,rfl⟩⟩
  ·rw [if_neg hok]
   refine qK.zF (id:=6) rfl h1 h2 h3 h4 h5 rfl rfl rfl ?_
   conv=>whnf
   refine ⟨rfl,rfl,?_⟩
   conv=>whnf
   (repeat ((first | apply ya | apply yb);refine dd ?_))
   exact ⟨_,_,.refl _,rfl,.inr ⟨rfl,.inl ⟨rfl,rfl⟩⟩⟩
  ·have e1:j6 e=([],11):=by unfold j6;rw [if_neg hok]
   rw [e1]
   conv=>whnf
   exact ⟨.inl rfl,_,zl.var 1 rfl rfl rfl (.cons (WC.nil 0 1) .nil),rfl⟩
end Go.Slp
namespace Go.Slp
open Go.Ab Go.Proofs Go.Hy
theorem zkq (e:En):((j6 e).2 == 0)=okV e.next (zt e):=by
 unfold j6
 cases okV e.next (zt e) <;> simp
theorem vw (e:En) (he:e.ok):zb Tryz.prog 55 [] [Ev e] (Bo (isV e)) []:=by
 have h0:=zkq e
 refine zb.zm (fn:=Tryz.f55) Tryz.func55 rfl ?_
 conv=>whnf
 refine ⟨_,_,(ku e he).frame rfl _,?_⟩;refine dd ?_
 refine ⟨fun h1=>?_,fun h1=>?_⟩
 ·rw [show ((j6 e).2 == 0)=true from h1] at h0
  refine dd ?_
  refine ⟨fun h2=>?_,fun h2=>?_⟩
  ·refine dd ?_
   refine ⟨fun h3=>?_,fun h3=>?_⟩
   ·refine dd ?_
    (repeat' (first | (refine ⟨fun _=>?_,fun _=>?_⟩ <;> (conv=>whnf)) | fail))
    all_goals (rename_i h4;(exact ⟨.inl rfl,_,.refl _,congrArg (fun b=>some (C.v (Value.bool b))) (by simp at h2 h3 h4;simp [isV,<- h0];omega)⟩))
   ·refine dd ?_
    (exact ⟨.inl rfl,_,.refl _,congrArg (fun b=>some (C.v (Value.bool b))) (by simp at h2 h3;simp [isV,<- h0];omega)⟩)
  ·refine dd ?_
   (exact ⟨.inl rfl,_,.refl _,congrArg (fun b=>some (C.v (Value.bool b))) (by simp at h2;simp [isV,<- h0];omega)⟩)
 ·rw [show ((j6 e).2 == 0)=false from h1] at h0
  refine dd ?_
  (exact ⟨.inl rfl,_,.refl _,congrArg (fun b=>some (C.v (Value.bool b))) (by simp [isV,<- h0])⟩)
end Go.Slp
namespace Go.Slp
open Go.Ab Go.Proofs Go.Hy
abbrev tQ (r:En × Int):C:=.tup [Ev r.1,I r.2]
end Go.Slp
namespace Go.Slp
open Go.Ab Go.Proofs Go.Hy
theorem zaD (X Y:Ob) (x:Int) (l:List Int) (hl:l.length < 17592186043904):zb Tryz.prog 275 [X,Y] [lI (x::l)] (.sl 2 [] 1 0 (0+((l.map encI).length+1)) false) [X,Y,⟨2,3,1,(x::l).map encI,0⟩]:=by
 refine zb.zF (fn:=Tryz.f275) Tryz.func275 rfl ?_
 conv=>whnf
 refine ⟨by simp,?_⟩
 conv=>whnf
 refine .inr ⟨.inl rfl,by simp [maxLen];omega,by show _ * 8<=_;simp;omega,?_⟩
 conv=>whnf
 exact ⟨.inl rfl,_,.refl _,rfl,rfl⟩
end Go.Slp
namespace Go.Slp
open Go.Ab Go.Proofs Go.Hy
theorem zgs:zb Tryz.prog 237 [] [.v (.int .u32 0),I 0] (.tup [U 1,I 0]) []:=
 zb3 [] (fun w=>(YtgllekalddijbaaGreat.zjq 0 0 w (by decide) (by decide) (by decide) (by decide)).mono fun e w' ⟨h1,h2⟩=>⟨h1,h2.symm⟩) zkX fun E=>.tup _ _ rfl fun j c y e1 e2=>by
  match j,e1,e2 with
  | 0,e1,e2=>cases e1;cases e2;exact .v _ rfl
  | 1,e1,e2=>cases e1;cases e2;exact .v _ rfl
def xi (n k:Nat):List Int:=(List.range n).map fun i=>if i < k then (i:Int)+1 else 0
def ky (n:Nat):List Int:=(List.range n).map fun (i:Nat)=>if i+1=n then -1 else (i:Int)+1
theorem yN (n k:Nat):(xi n k).length=n:=by simp [xi]
theorem zis {n k:Nat} (h:k < n):(xi n k).set k ((k:Int)+1)=xi n (k+1):=by
 apply List.ext_getElem?
 intro j
 rw [List.getElem?_set,yN]
 unfold xi
 simp only [List.getElem?_map]
 by_cases hj:j < n
 ·rw [List.getElem?_range hj]
  by_cases e:k=j
  ·subst e;simp [h]
  ·simp only [e,if_false,Option.map_some]
   by_cases h2:j < k
   ·simp [h2,show j < k+1 from by omega]
   ·simp [h2,show ¬j < k+1 from by omega]
 ·rw [List.getElem?_eq_none (by simp;omega)]
  simp
  omega
theorem zjQ {n:Nat}:(xi n n).set (n - 1) (-1)=ky n:=by
 apply List.ext_getElem?
 intro j
 rw [List.getElem?_set,yN]
 unfold xi ky
 simp only [List.getElem?_map]
 by_cases hj:j < n
 ·rw [List.getElem?_range hj]
  by_cases e:n - 1=j
  ·subst e;simp [show n - 1 < n from by omega,show n - 1+1=n from by omega]
  ·simp only [e,if_false,Option.map_some,hj,if_true,show ¬j+1=n from by omega]
 ·rw [List.getElem?_eq_none (by simp;omega)]
  simp
  omega
theorem zjf {n:Int} (h1:¬(n < 1∨4 < n)):yv n=(⟨1,ky n.toNat,0⟩,0):=by unfold yv;rw [if_neg h1];rfl
theorem vr (n:Int):zb Tryz.prog 166 [] [I n] (tQ (yv n)) []:=by
 refine zb.zm (fn:=Tryz.f166) Tryz.func166 rfl ?_
 conv=>whnf
 have hbad:n < 1∨4 < n->yv n=(no,1):=fun h=>by unfold yv;rw [if_pos h]
 refine ⟨fun h1=>?_,fun h1=>?_⟩
 ·rw [hbad (.inl (by simpa using h1))]
  refine dd ?_
  exact ⟨.inl rfl,_,zl.var 0 rfl rfl rfl (.cons (.refl _) (.cons (WC.nil 0 1) (.cons (.refl _) .nil))),rfl⟩
 ·refine dd ?_
  refine ⟨fun h2=>?_,fun h2=>?_⟩
  ·rw [hbad (.inr (by simpa using h2))]
   refine dd ?_
   exact ⟨.inl rfl,_,zl.var 0 rfl rfl rfl (.cons (.refl _) (.cons (WC.nil 0 1) (.cons (.refl _) .nil))),rfl⟩
  ·have g1:1<=n:=by simp at h1;omega
   have g2:n<=4:=by simp at h2;omega
   rw [zjf (by omega)]
   obtain ⟨m,rfl⟩:∃ m:Nat,n=m:=⟨n.toNat,by omega⟩
   rw [toNat_cast]
   refine dd ?_
   refine ⟨rfl,by omega,by show (8:Int) * _<=_;omega,by omega,?_⟩
   refine dd ?_
   refine zM.seq m (fun k=>[I m,.za,.ref 0 [] 3 0 0,I 0,.ref 2 [] 3 0 0,.za,.za,.za,.za,.za,.za,.za,.za,.za,.za,.za,.za,.za,I m,I k,.za,.za,.za,.za,.za,.za,.za,.za,.za,.za,.za,.za,.za,.za,.za,.za,.za,.za,.za,.za]) (fun k=>[⟨1,97,3,[[U 0,.lst 1 0 [],I 0]],0⟩,⟨2,3,1,(xi m k).map encI,0⟩,⟨1,97,3,[[U 0,.sl 1 [] 1 0 m false,I 0]],0⟩]) (fun _=>True) ?_ trivial (fun k hk _=>?_) (fun _=>?_)
   ·have e1:List.replicate ((m:Int)).toNat [C.v (Value.int .i64 0)]=(xi m 0).map encI:=by
     simp only [toNat_cast]
     apply List.ext_getElem?
     intro j
     rw [List.getElem?_replicate,List.getElem?_map]
     unfold xi
     simp only [List.getElem?_map]
     split
     ·rename_i hj;rw [List.getElem?_range hj];rfl
     ·rw [List.getElem?_eq_none (by simp;omega)];rfl
    show zl 0 ⟨_,[_,⟨2,3,1,List.replicate ((m:Int)).toNat [C.v (Value.int .i64 0)],0⟩,_]⟩ _
    rw [e1]
    exact cC
   ·have hg:((xi m k).map encI)[k]?= some (encI ((xi m k)[k]'(by rw [yN];exact hk))):=by rw [List.getElem?_map,List.getElem?_eq_getElem (by rw [yN];exact hk)];rfl
    have hse:((xi m k).map encI).set k [I ((k+1:Nat):Int)]=(xi m (k+1)).map encI:=by rw [<- zis hk,List.map_set];rfl
    conv=>whnf
    refine ⟨fun _=>?_,fun h=>absurd h (by simp;omega)⟩
    conv=>whnf
    refine ⟨by omega,by simp;omega,?_⟩
    refine dd ?_
    rw [Nat.zero_add,zp (by omega),toNat_cast]
    refine ⟨_,hg,rfl,?_⟩
    refine dd ?_
    rw [show List.set (List.map encI (xi m k)) k [C.v (Value.int IntKind.i64 ((k+1:Nat):Int))]=(xi m (k+1)).map encI from hse]
    refine .inl ⟨rfl,?_,trivial⟩
    rw [zp (by omega)]
    exact cE 3
   ·have hg:((xi m m).map encI)[m - 1]?= some (encI ((xi m m)[m - 1]'(by rw [yN];omega))):=by rw [List.getElem?_map,List.getElem?_eq_getElem (by rw [yN];omega)];rfl
    have hse:((xi m m).map encI).set (m - 1) [I (-1)]=(ky m).map encI:=by rw [<- zjQ,List.map_set];rfl
    have hw:IntKind.i64.wrap ((m:Int) - 1)=((m - 1:Nat):Int):=by rw [qf (by omega) (by omega)];omega
    have hfl:(ky m).length=m:=by simp [ky]
    conv=>whnf
    refine ⟨fun h=>absurd h (by simp),fun _=>?_⟩
    conv=>whnf
    refine ⟨by simp,?_⟩
    conv=>whnf
    rw [hw]
    refine ⟨by omega,by simp;omega,?_⟩
    refine dd ?_
    rw [Nat.zero_add,toNat_cast]
    refine ⟨_,hg,rfl,?_⟩
    refine dd ?_
    rw [show List.set (List.map encI (xi m m)) (m - 1) [C.v (Value.int IntKind.i64 (-1))]=(ky m).map encI from hse]
    refine ⟨_,_,(zgs).frame rfl _,?_⟩;refine dd ?_
    exact ⟨.inl rfl,_,zl.zhi 0 1 rfl rfl rfl (by simp [hfl]) (fun r hr c hc=>by
     obtain ⟨n,_,rfl⟩:=List.mem_map.1 hr
     simp [encI] at hc
     subst hc;rfl) rfl rfl,rfl⟩
end Go.Slp
