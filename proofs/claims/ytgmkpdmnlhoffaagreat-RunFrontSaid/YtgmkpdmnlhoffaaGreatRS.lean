import Derived.WalkKit
import Derived.Test.YtgmkpdmnlhoffaaGreatRows
import Derived.Test.YtgmkpdmnlhoffaaGreatRJ
import Derived.Test.YtgmkpdmnlhoffaaGreatRC
import Derived.Test.YtgmkpdmnlhoffaaGreatProg
set_option linter.all false
set_option maxRecDepth 100000
set_option maxHeartbeats 4000000
namespace Go.Proofs.YtgmkpdmnlhoffaaGreat
open Go.RowKit
theorem zta (t i:Int) (h1:0<=t) (h2:t < 4294967296) (h3: -1<=i) (h4:i<=2147483646):
  bits .or .u64 (t * 4294967296) (i+1)=t * 4294967296+(i+1):=by
 rw [u64_or _ _ (by omega) (by omega) (by omega) (by omega)];obtain ⟨a,rfl⟩:=Int.eq_ofNat_of_zero_le h1;obtain ⟨b,hb⟩:=Int.eq_ofNat_of_zero_le (show 0<=i+1 by omega);rw [hb]
 have hlt:b < 2 ^ 32:=by have:(b:Int) < 4294967296:=by omega
                         simpa using (by omega:b < 4294967296)
 have:=Nat.two_pow_add_eq_or_of_lt hlt a;have e:((a:Int) * 4294967296).toNat=2 ^ 32 * a:=by omega
 rw [e,Int.toNat_natCast,<- this];omega
theorem zjQ (t i:Int) (w:World) (h1:0<=t) (h2:t < 4294967296) (h3: -1<=i) (h4:i<=2147483646):
  Calls Tryz.prog 194 #[.int .u32 t,.int .i64 i] w fun e w'=>e=.returned (.tuple #[.int .u64 (t * 4294967296+(i+1)),.int .i64 0])∧w=w':=by
 go_enter Tryz.func194,Tryz.ntmps194
 go_wp2
 go_ret2
 exact ⟨by simp [zta t i h1 h2 h3 h4],rfl⟩
theorem zsk (x:Int) (w:World) (h1:0<=x) (h2:x < 18446744073709551616):
  Calls Tryz.prog 279 #[.int .u64 x] w fun e w'=>e=.returned (.int .u32 (x / 4294967296))∧w=w':=by
 go_enter Tryz.func279,Tryz.ntmps279
 go_wp2
 go_ret
 exact ⟨rfl,rfl⟩
theorem zn7 (x:Int) (w:World) (h1:0<=x) (h2:x < 18446744073709551616):
  Calls Tryz.prog 220 #[.int .u64 x] w fun e w'=>e=.returned (.int .i64 (x % 4294967296 - 1))∧w=w':=by
 go_enter Tryz.func220,Tryz.ntmps220
 go_wp2
 go_ret
 exact ⟨rfl,rfl⟩
theorem zqb (x i:Int) (w:World) (h1:0<=x) (h2:x < 18446744073709551616) (h3: -1<=i) (h4:i<=2147483646):
  Calls Tryz.prog 226 #[.int .u64 x,.int .i64 i] w fun e w'=>e=.returned (.tuple #[.int .u64 ((x / 4294967296+1) % 4294967296 * 4294967296+(i+1)),.int .i64 0])∧w=w':=by
 go_enter Tryz.func226,Tryz.ntmps226
 go_wp2_with (first | (go_at_call 279;refine (zsk _ _ h1 h2).mono ?_;rintro e w' ⟨rfl,rfl⟩) | (go_at_call 194;refine (zjQ _ _ _ (by omega) (by omega) h3 h4).mono ?_;rintro e w' ⟨rfl,rfl⟩))
 go_ret2
 exact ⟨rfl,rfl⟩
end Go.Proofs.YtgmkpdmnlhoffaaGreat
namespace Go.Slp
open Go.Ab Go.Hy
def inB (nx:List Int) (i:Int):Bool:=decide (0<=i) && decide (i < nx.length)
def nxt (nx:List Int) (i:Int):Int:=(nx[i.toNat]?).getD 0
def jF (nx:List Int) (i0:Int):Nat->Int
 | 0=>i0
 | k+1=>nxt nx (jF nx i0 k)
def jR (nx:List Int) (i0:Int) (k:Nat):List Int:=(List.range k).map (jF nx i0)
def xX (nx:List Int) (i0:Int) (k:Nat):Bool:=!inB nx (jF nx i0 k) || (jR nx i0 k).contains (jF nx i0 k)
def jK (nx:List Int) (i0:Int):Nat:=((List.range (nx.length+1)).find? (xX nx i0)).getD 0
def okV (nx:List Int) (i0:Int):Bool:=jF nx i0 (jK nx i0) == -1
theorem zl8:∀ (n:Nat) (l:List Int),l.Nodup->(∀ x ∈ l,0<=x∧x < n)->l.length<=n
 | 0,l,_,h=>by
  cases l with
  | nil=>exact Nat.le_refl _
  | cons x l=>have:=h x (List.mem_cons_self ..);omega
 | n+1,l,hd,h=>by
  by_cases hm:(n:Int) ∈ l
  ·have h1:=zl8 n (l.erase n) (hd.erase _) fun x hx=>by
    have h2:=h x (List.mem_of_mem_erase hx)
    have h3:x≠n:=fun e=>by
     subst e;exact absurd hx (List.Nodup.not_mem_erase hd)
    omega
   rw [List.length_erase_of_mem hm] at h1;omega
  ·have:=zl8 n l hd fun x hx=>by
    have h2:=h x hx;have h3:x≠n:=fun e=>hm (e ▸ hx)
    omega
   omega
theorem zgG (nx:List Int) (i0:Int) (k:Nat):jR nx i0 (k+1)=jR nx i0 k++[jF nx i0 k]:=by
 simp [jR,List.range_succ]
theorem znk (nx:List Int) (i0:Int) (k:Nat):(jR nx i0 k).length=k:=by simp [jR]
theorem zdt {nx:List Int} {i0:Int}:∀ {k:Nat},(∀ j,j < k->xX nx i0 j=false)->(jR nx i0 k).Nodup∧∀ x ∈ jR nx i0 k,inB nx x=true
 | 0,_=>⟨by simp [jR],by simp [jR]⟩
 | k+1,h=>by
  obtain ⟨h1,h2⟩:=zdt (k:=k) fun j hj=>h j (by omega)
  have h3:=h k (by omega);simp only [xX,Bool.or_eq_false_iff,Bool.not_eq_false'] at h3;have h4:jF nx i0 k ∉ jR nx i0 k:=by simpa using h3.2
  rw [zgG];refine ⟨?_,?_⟩
  ·rw [List.nodup_append];refine ⟨h1,by simp,?_⟩;intro a ha b hb e;rw [List.mem_singleton] at hb;subst hb e;exact h4 ha
  ·intro x hx;rcases List.mem_append.1 hx with hx | hx
   ·exact h2 x hx
   ·rw [List.mem_singleton.1 hx];exact h3.1
theorem yo (nx:List Int) (i0:Int):jK nx i0<=nx.length∧xX nx i0 (jK nx i0)=true∧∀ j,j < jK nx i0->xX nx i0 j=false:=by
 unfold jK;cases e:(List.range (nx.length+1)).find? (xX nx i0) with
 | none=>
  exfalso
  rw [List.find?_eq_none] at e;have h:∀ j,j < nx.length+1->xX nx i0 j=false:=fun j hj=>by simpa using e j (List.mem_range.2 hj)
  obtain ⟨h1,h2⟩:=zdt h
  have:=zl8 nx.length _ h1 fun x hx=>by
   have:=h2 x hx;simp only [inB,Bool.and_eq_true,decide_eq_true_eq] at this;exact this
  rw [znk] at this;omega
 | some k=>
  rw [List.find?_eq_some_iff_append] at e;obtain ⟨h1,az,bs,h2,h3⟩:=e
  have hk:az.length=k∧k < nx.length+1:=by
   have h4:(List.range (nx.length+1))[az.length]?= some k:=by rw [h2];simp
   have h5:=(List.getElem?_eq_some_iff.1 h4);obtain ⟨h6,h7⟩:=h5;rw [List.getElem_range] at h7;simp at h6;omega
  refine ⟨by simp;omega,by simpa using h1,fun j hj=>?_⟩
  have h8:(List.range (nx.length+1))[j]?= some j:=by
   simp at hj;rw [List.getElem?_range (by omega)]
  rw [h2,List.getElem?_append_left (by simp at hj;omega)] at h8;simpa using h3 j (List.mem_of_getElem? h8)
theorem zfx {nx:List Int} {i0:Int} {n:Nat} (h1:xX nx i0 n=true) (h2:∀ j,j < n->xX nx i0 j=false):jK nx i0=n:=by
 obtain ⟨_,h3,h4⟩:=yo nx i0;rcases Nat.lt_trichotomy (jK nx i0) n with h | h | h
 ·rw [h2 _ h] at h3;cases h3
 ·exact h
 ·rw [h4 _ h] at h1;cases h1
abbrev no:En:=⟨0,[],0⟩
def zC (e:En):Int:=e.head % 4294967296 - 1
def qP (x i:Int):Int:=(x / 4294967296+1) % 4294967296 * 4294967296+(i+1)
def qt (e:En):List Int × Int:=if okV e.next (zC e) then (jR e.next (zC e) (jK e.next (zC e)),0) else ([],11)
def isV (e:En):Bool:=okV e.next (zC e) && decide (1<=e.next.length) && decide (e.next.length<=4) && decide (0<=e.zg)
def zr6 (e:En):En × Int × Int:=
 if isV e=false then (no,0,11) else if zC e < 0 then (no,0,5) else (⟨qP e.head (nxt e.next (zC e)),e.next,e.zg⟩,zC e,0)
def zne (e:En) (slot:Int):En × Int:=
 if isV e=false then (no,11) else if slot < 0∨e.next.length<=slot then (no,1) else if (qt e).1.contains slot then (no,4)
 else (⟨qP e.head slot,e.next.set slot.toNat (zC e),e.zg⟩,0)
def vJ (n:Int):En × Int:=if n < 1∨4 < n then (no,1) else (⟨1,(List.range n.toNat).map fun (i:Nat)=>if i+1=n.toNat then -1 else (i:Int)+1,0⟩,0)
theorem zpV (e:En): -1<=zC e∧zC e<=4294967294:=by unfold zC;omega
theorem zrK {nx:List Int} {i0:Int} (h:okV nx i0=true) {k:Nat} (hk:k < jK nx i0):inB nx (jF nx i0 k)=true∧ -1<=jF nx i0 (k+1)∧jF nx i0 (k+1) < nx.length:=by
 obtain ⟨h1,h2,h3⟩:=yo nx i0;have h4:=h3 k hk;simp only [xX,Bool.or_eq_false_iff,Bool.not_eq_false'] at h4;refine ⟨h4.1,?_⟩;rcases Nat.lt_or_ge (k+1) (jK nx i0) with h5 | h5
 ·have h6:=h3 _ h5;simp only [xX,Bool.or_eq_false_iff,Bool.not_eq_false',inB,Bool.and_eq_true,decide_eq_true_eq] at h6;omega
 ·have e:k+1=jK nx i0:=by omega
  rw [e];simp only [okV,beq_iff_eq] at h;rw [h];omega
theorem zmT {nx:List Int} {i0:Int} (h:okV nx i0=true) (h0:¬i0 < 0):0 < jK nx i0:=by
 rcases Nat.eq_zero_or_pos (jK nx i0) with e | e
 ·simp only [okV,e,jF,beq_iff_eq] at h;omega
 ·exact e
theorem zaY {e:En} (h:isV e=true):okV e.next (zC e)=true∧1<=e.next.length∧e.next.length<=4∧0<=e.zg:=by
 simp only [isV,Bool.and_eq_true,decide_eq_true_eq] at h;exact ⟨h.1.1.1,h.1.1.2,h.1.2,h.2⟩
theorem zm2 {e:En} (h:isV e=true) (h0:¬zC e < 0):0<=zC e∧zC e < e.next.length∧ -1<=nxt e.next (zC e)∧nxt e.next (zC e) < e.next.length:=by
 obtain ⟨h1,h2,h3,h4⟩:=zaY h;obtain ⟨h5,h6,h7⟩:=zrK h1 (zmT h1 h0);simp only [inB,jF,Bool.and_eq_true] at h5;exact ⟨of_decide_eq_true h5.1,of_decide_eq_true h5.2,h6,h7⟩
def yf (nx:List Int) (i0:Int):Nat->List Bool
 | 0=>List.replicate nx.length false
 | k+1=>(yf nx i0 k).set (jF nx i0 k).toNat true
theorem zke (nx:List Int) (i0:Int):∀ k,(yf nx i0 k).length=nx.length
 | 0=>by simp [yf]
 | k+1=>by simp [yf,zke nx i0 k]
theorem ziX {nx:List Int} {i0:Int}:∀ {k:Nat},(∀ j,j < k->inB nx (jF nx i0 j)=true)->∀ {i:Nat},i < nx.length->(yf nx i0 k)[i]?= some ((jR nx i0 k).contains (i:Int))
 | 0,_,i,hi=>by simp [yf,jR,hi]
 | k+1,h,i,hi=>by
  have ih:=ziX (k:=k) (fun j hj=>h j (by omega)) hi;have hb:=h k (by omega);simp only [inB,Bool.and_eq_true,decide_eq_true_eq] at hb;rw [zgG];simp only [yf];rw [List.getElem?_set,zke];by_cases e:(jF nx i0 k).toNat=i
  ·rw [if_pos e,if_pos (by omega)];have:(i:Int)=jF nx i0 k:=by omega
   simp [this]
  ·rw [if_neg e,ih];have:¬(i:Int)=jF nx i0 k:=by omega
   simp [this]
end Go.Slp
namespace Go.Slp
open Go.Ab Go.Proofs Go.Hy
theorem zi8 {x:Int} (h:u64 x):0<=x∧x < 18446744073709551616:=by unfold u64 at h;omega
theorem qA (x:Int) (h:u64 x):zb Tryz.prog 220 [] [U x] (I (x % 4294967296 - 1)) []:=
 zc9 [] (fun w=>(YtgmkpdmnlhoffaaGreat.zn7 x w (zi8 h).1 (zi8 h).2).mono fun e w' ⟨h1,h2⟩=>⟨h1,h2.symm⟩) ztI fun E=>.v _ rfl
abbrev Ev (e:En):C:=.agg (zu e)
abbrev vk (e:En) (k:Nat):List (List C):=(jR e.next (zC e) k).map encI
theorem zia (e:En) (he:e.ok) (l:Nat) (rec rec':Ob) (rr:C) (rn:Int)
  (hy:∀ k,k < jK e.next (zC e)->jh Tryz.prog l ([⟨1,156,3,[zu e],0⟩,⟨1,22,1,[[.lst 1 0 []]],0⟩,⟨1,30,1,[[I 0]],0⟩,⟨1,22,1,[[.gl 5 1 (vk e k)]],0⟩,⟨1,156,3,[zu e],0⟩,⟨4,3,1,(vk e k),0⟩,rec]++[⟨2,4,1,(yf e.next (zC e) (k+1)).map vH,0⟩]) [I (jF e.next (zC e) k)] (Bo true) ([⟨1,156,3,[zu e],0⟩,⟨1,22,1,[[.lst 1 0 []]],0⟩,⟨1,30,1,[[I 0]],0⟩,⟨1,22,1,[[.gl 5 1 (vk e (k+1))]],0⟩,⟨1,156,3,[zu e],0⟩,⟨4,3,1,(vk e (k+1)),0⟩,rec]++[⟨2,4,1,(yf e.next (zC e) (k+1)).map vH,0⟩]))
  (hz:∃ b,jh Tryz.prog l ([⟨1,156,3,[zu e],0⟩,⟨1,22,1,[[.lst 1 0 []]],0⟩,⟨1,30,1,[[I 0]],0⟩,⟨1,22,1,[[.gl 5 1 (vk e (jK e.next (zC e)))]],0⟩,⟨1,156,3,[zu e],0⟩,⟨4,3,1,(vk e (jK e.next (zC e))),0⟩,rec]++[⟨2,4,1,(yf e.next (zC e) (jK e.next (zC e))).map vH,0⟩]) [I (if okV e.next (zC e) then -1 else -2)] (Bo b) ([⟨1,156,3,[zu e],0⟩,⟨1,22,1,[[rr]],0⟩,⟨1,30,1,[[I rn]],0⟩,⟨1,22,1,[[.gl 5 1 (vk e (jK e.next (zC e)))]],0⟩,⟨1,156,3,[zu e],0⟩,⟨4,3,1,(vk e (jK e.next (zC e))),0⟩,rec']++[⟨2,4,1,(yf e.next (zC e) (jK e.next (zC e))).map vH,0⟩])):
  zb Tryz.prog 219 [⟨1,156,3,[zu e],0⟩,⟨1,22,1,[[.lst 1 0 []]],0⟩,⟨1,30,1,[[I 0]],0⟩,⟨1,22,1,[[.gl 5 1 (vk e 0)]],0⟩,⟨1,156,3,[zu e],0⟩,⟨4,3,1,(vk e 0),0⟩,rec] [.v (.func (.yield l) #[] #[]),.ref 4 [] 3 0 0] (.tup []) ([⟨1,156,3,[zu e],0⟩,⟨1,22,1,[[rr]],0⟩,⟨1,30,1,[[I rn]],0⟩,⟨1,22,1,[[.gl 5 1 (vk e (jK e.next (zC e)))]],0⟩,⟨1,156,3,[zu e],0⟩,⟨4,3,1,(vk e (jK e.next (zC e))),0⟩,rec']++[⟨2,4,1,(yf e.next (zC e) (jK e.next (zC e))).map vH,0⟩]):=by
 refine zb.zS (fn:=Tryz.f219) Tryz.func219 rfl (uH ?_);have hl:=he.2.1.2;have hlm:(e.next.map encI).length=e.next.length:=List.length_map ..;obtain ⟨c1,c2,c3⟩:=yo e.next (zC e)
 have jj:∀ j,j < jK e.next (zC e)->inB e.next (jF e.next (zC e) j)=true:=fun j hj=>by
  have:=c3 j hj;simp only [xX,Bool.or_eq_false_iff,Bool.not_eq_false'] at this;exact this.1
 refine ⟨rfl,by omega,by show (1:Int) * _<=_;omega,by omega,uH ?_⟩;refine ⟨_,_,(qA e.head he.1).frame rfl _,dd ?_⟩
 refine qf.seq (jK e.next (zC e)) (fun k=>(.v (.func (.yield l) #[] #[])::.ref 4 [] 3 0 0::.za::.sl 7 [] 1 0 e.next.length false::I (jF e.next (zC e) k)::tY (tY (tY (tY ([.za,.za,.za,.za,.za,.za,.za]))))))
  (fun k=>[⟨1,156,3,[zu e],0⟩,⟨1,22,1,[[.lst 1 0 []]],0⟩,⟨1,30,1,[[I 0]],0⟩,⟨1,22,1,[[.gl 5 1 (vk e k)]],0⟩,⟨1,156,3,[zu e],0⟩,⟨4,3,1,(vk e k),0⟩,rec]++[⟨2,4,1,(yf e.next (zC e) k).map vH,0⟩]) (fun _=>True) ?_ trivial (fun k hk _=>?_) (fun _=>?_)
 ·have e1:List.replicate (((e.next.map encI).length:Int)).toNat (List.map ofV (Value.bool false).cells.toList)=(yf e.next (zC e) 0).map vH:=by
   simp [yf,vH,ofV,Value.cells]
  rw [e1,hlm,toNat_cast];exact cC
 ·have g:=jj k hk;simp only [inB,Bool.and_eq_true,decide_eq_true_eq] at g;obtain ⟨g1,g2⟩:=g;have hs:=ziX (nx:=e.next) (i0:=zC e) (k:=k) (fun j hj=>jj j (by omega)) (i:=(jF e.next (zC e) k).toNat) (by omega)
  have hv:(jR e.next (zC e) k).contains (((jF e.next (zC e) k).toNat:Nat):Int)=false:=by
   have:=c3 k hk;simp only [xX,Bool.or_eq_false_iff,Bool.not_eq_false'] at this;rw [Int.toNat_of_nonneg g1];exact this.2
  rw [hv] at hs;have hyk:=hy k hk
  have hnx:(e.next)[(jF e.next (zC e) k).toNat]?= some (jF e.next (zC e) (k+1)):=by
   show _=some (nxt e.next (jF e.next (zC e) k));unfold nxt;rw [List.getElem?_eq_getElem (by omega)]
   rfl
  have hse:(yf e.next (zC e) (k+1)).map vH=((yf e.next (zC e) k).map vH).set (jF e.next (zC e) k).toNat [Bo true]:=by
   show (List.set _ _ _).map vH=_;rw [List.map_set];rfl
  rw [hse] at hyk;rw [hse];generalize hP:jF e.next (zC e) k=p at *;generalize hQ:jF e.next (zC e) (k+1)=p' at *;conv=>whnf
  refine ⟨fun _=>dd ?_,fun h=>absurd h (by simp;omega)⟩;refine ⟨fun h=>absurd h (by simp;omega),fun _=>dd ?_⟩;refine ⟨fun h=>absurd h (by simp;omega),fun _=>dd ?_⟩;refine ⟨g1,by omega,uH ?_⟩;refine ⟨[Bo false],by rw [Nat.zero_add,List.getElem?_map,hs];rfl,Nat.le_refl _,?_⟩;refine dd ?_;(repeat refine uC ?_)
  refine ⟨g1,by omega,uH ?_⟩;refine ⟨[Bo false],by rw [Nat.zero_add,List.getElem?_map,hs];rfl,rfl,?_⟩;conv=>whnf
  rw [Nat.zero_add];refine ⟨_,_,hyk,dd ?_⟩;(repeat refine uC ?_)
  refine ⟨g1,[I p'],by rw [List.getElem?_map,hnx];rfl,?_⟩;conv=>whnf
  exact .inl ⟨rfl,cC,trivial⟩
 ·generalize hN:jK e.next (zC e)=N at *;have hsN:∀ {i:Nat},i < e.next.length->(yf e.next (zC e) N)[i]?= some ((jR e.next (zC e) N).contains (i:Int)):=fun h=>ziX (nx:=e.next) (i0:=zC e) (k:=N) (fun j hj=>jj j hj) h
  obtain ⟨b,hz⟩:=hz;by_cases hok:okV e.next (zC e)=true
  ·have hp:jF e.next (zC e) N= -1:=by simpa [okV,hN] using hok
   rw [if_pos hok] at hz;rw [hp];conv=>whnf
   refine ⟨fun h=>absurd h (by simp),fun _=>uH ?_⟩;refine ⟨by simp,uH ?_⟩;refine ⟨_,_,hz,uH ?_⟩;refine ⟨fun _=>?_,fun _=>?_⟩ <;>
   ·conv=>whnf
    exact ⟨.inr rfl,_,.refl _,rfl,rfl⟩
  ·have hp:jF e.next (zC e) N≠ -1:=by intro h;exact hok (by simp [okV,hN,h])
   rw [if_neg hok] at hz;generalize hP:jF e.next (zC e) N=p at *;conv=>whnf
   refine ⟨fun _=>dd ?_,fun h=>absurd h (by simp;exact hp)⟩;have fin:∀ (X:Prop),X->X:=fun _ h=>h
   refine ⟨fun h1=>?_,fun h1=>?_⟩
   ·refine dd ?_;refine ⟨by simp,uH ?_⟩;refine ⟨_,_,hz,uH ?_⟩;refine ⟨fun _=>?_,fun _=>?_⟩ <;>
    ·conv=>whnf
     exact ⟨.inr rfl,_,.refl _,rfl,rfl⟩
   ·refine dd ?_;refine ⟨fun h2=>?_,fun h2=>?_⟩
    ·refine dd ?_;refine ⟨by simp,uH ?_⟩;refine ⟨_,_,hz,uH ?_⟩;refine ⟨fun _=>?_,fun _=>?_⟩ <;>
     ·conv=>whnf
      exact ⟨.inr rfl,_,.refl _,rfl,rfl⟩
    ·have g1:0<=p:=by simpa using h1
     have g2:p < e.next.length:=by simp at h2;omega
     have hv:(jR e.next (zC e) N).contains (((p.toNat:Nat)):Int)=true:=by
      simp only [xX,hP,Bool.or_eq_true,Bool.not_eq_true',inB,Bool.and_eq_false_iff,decide_eq_false_iff_not] at c2;rw [Int.toNat_of_nonneg g1];rcases c2 with (h | h) | h
      ·exact absurd g1 h
      ·exact absurd g2 h
      ·exact h
     have hs:=hsN (i:=p.toNat) (by omega);rw [hv] at hs;refine dd ?_;refine ⟨g1,by omega,uH ?_⟩;refine ⟨[Bo true],by rw [Nat.zero_add,List.getElem?_map,hs];rfl,Nat.le_refl _,?_⟩;refine dd ?_;(repeat refine uC ?_)
     refine ⟨by simp,uH ?_⟩;refine ⟨_,_,hz,uH ?_⟩;refine ⟨fun _=>?_,fun _=>?_⟩ <;>
     ·conv=>whnf
      exact ⟨.inr rfl,_,.refl _,rfl,rfl⟩
theorem zji (e:En) (X Y Z W:Ob):zb Tryz.prog 180 [X,Y,Z,W] [Ev e] (.fn 219 [] [.ref 4 [] 3 0 0]) [X,Y,Z,W,⟨1,156,3,[zu e],0⟩]:=by
 refine zb.zS (fn:=Tryz.f180) Tryz.func180 rfl (uH ?_);exact uJ
theorem zcL (e:En) (he:e.ok) (N:Nat) (hN:jK e.next (zC e)=N) (l:Nat) (rec rec':Ob) (rr:C) (rn:Int) (b:Bool)
  (hy:∀ k,k < N->jh Tryz.prog l ([⟨1,156,3,[zu e],0⟩,⟨1,22,1,[[.lst 1 0 []]],0⟩,⟨1,30,1,[[I 0]],0⟩,⟨1,22,1,[[.gl 5 1 (vk e k)]],0⟩,⟨1,156,3,[zu e],0⟩,⟨4,3,1,(vk e k),0⟩,rec]++[⟨2,4,1,(yf e.next (zC e) (k+1)).map vH,0⟩]) [I (jF e.next (zC e) k)] (Bo true) ([⟨1,156,3,[zu e],0⟩,⟨1,22,1,[[.lst 1 0 []]],0⟩,⟨1,30,1,[[I 0]],0⟩,⟨1,22,1,[[.gl 5 1 (vk e (k+1))]],0⟩,⟨1,156,3,[zu e],0⟩,⟨4,3,1,(vk e (k+1)),0⟩,rec]++[⟨2,4,1,(yf e.next (zC e) (k+1)).map vH,0⟩]))
  (hz:jh Tryz.prog l ([⟨1,156,3,[zu e],0⟩,⟨1,22,1,[[.lst 1 0 []]],0⟩,⟨1,30,1,[[I 0]],0⟩,⟨1,22,1,[[.gl 5 1 (vk e N)]],0⟩,⟨1,156,3,[zu e],0⟩,⟨4,3,1,(vk e N),0⟩,rec]++[⟨2,4,1,(yf e.next (zC e) N).map vH,0⟩]) [I (if okV e.next (zC e) then -1 else -2)] (Bo b) ([⟨1,156,3,[zu e],0⟩,⟨1,22,1,[[rr]],0⟩,⟨1,30,1,[[I rn]],0⟩,⟨1,22,1,[[.gl 5 1 (vk e N)]],0⟩,⟨1,156,3,[zu e],0⟩,⟨4,3,1,(vk e N),0⟩,rec']++[⟨2,4,1,(yf e.next (zC e) N).map vH,0⟩])):
  zb Tryz.prog 219 [⟨1,156,3,[zu e],0⟩,⟨1,22,1,[[.lst 1 0 []]],0⟩,⟨1,30,1,[[I 0]],0⟩,⟨1,22,1,[[.gl 5 1 (vk e 0)]],0⟩,⟨1,156,3,[zu e],0⟩,⟨4,3,1,(vk e 0),0⟩,rec] [.v (.func (.yield l) #[] #[]),.ref 4 [] 3 0 0] (.tup []) ([⟨1,156,3,[zu e],0⟩,⟨1,22,1,[[rr]],0⟩,⟨1,30,1,[[I rn]],0⟩,⟨1,22,1,[[.gl 5 1 (vk e N)]],0⟩,⟨1,156,3,[zu e],0⟩,⟨4,3,1,(vk e N),0⟩,rec']++[⟨2,4,1,(yf e.next (zC e) N).map vH,0⟩]):=by
 subst hN;exact zia e he l rec rec' rr rn hy ⟨b,hz⟩
abbrev tF (r:List Int × Int):C:=.tup [lI r.1,I r.2]
theorem zac (e:En) (he:e.ok):zb Tryz.prog 109 [] [Ev e] (tF (qt e)) []:=by
 have hl:=he.2.1.2;obtain ⟨c1,c2,c3⟩:=yo e.next (zC e);generalize hN:jK e.next (zC e)=N at *;refine zb.zp (fn:=Tryz.f109) Tryz.func109 rfl (uH ?_);refine ⟨_,_,zji e _ _ _ _,uH ?_⟩;refine ⟨_,zo.zbS 3 0 3 1 rfl rfl (.inl rfl) rfl rfl,?_⟩
 have jj:∀ j,j < N->0<=jF e.next (zC e) j:=fun j hj=>by
  have:=c3 j hj;simp only [xX,Bool.or_eq_false_iff,Bool.not_eq_false',inB,Bool.and_eq_true,decide_eq_true_eq] at this;exact this.1.1
 have hv:∀ k,(vk e k).length=k:=fun k=>by simp [znk]
 have vs:∀ k,vk e (k+1)=vk e k++[[I (jF e.next (zC e) k)]]:=fun k=>by
  show (jR e.next (zC e) (k+1)).map encI=_;rw [zgG,List.map_append];rfl
 by_cases hok:okV e.next (zC e)=true
 ·refine ⟨.normal,_,[⟨1,156,3,[zu e],0⟩,⟨1,22,1,[[.lst 1 0 []]],0⟩,⟨1,30,1,[[I 0]],0⟩,⟨1,22,1,[[.gl 5 1 (vk e N)]],0⟩,⟨1,156,3,[zu e],0⟩,⟨4,3,1,vk e N,0⟩],fun l r h1 h2 h3 h4 h5=>⟨_,_,r,zcL e he N hN l (obR l r _) (obR l r _) (.lst 1 0 []) 0 true (fun k hk=>?_) ?_,
   rfl,by rw [h1];decide,rfl,Nat.zero_le _,by rw [h2];trivial,zo.low 6 _ _ rfl rfl rfl⟩,?_⟩
  ·have g:=jj k hk;have hvk:=hv k;refine jh.zS (id:=6) rfl h1 h2 h3 h4 h5 rfl rfl rfl (uH ?_);refine ⟨rfl,rfl,uH ?_⟩;refine ⟨fun h=>absurd h (by simp;omega),fun _=>uH ?_⟩;refine ⟨fun h=>absurd h (by simp;omega),fun _=>uH ?_⟩;refine ⟨rfl,.inr rfl,by simp [maxLen,hvk];omega,by show _ * 8<=_;simp [hvk];omega,uH ?_⟩;rw [vs k];exact ⟨_,_,.refl _,rfl,.inl ⟨rfl,rfl,rfl⟩⟩
  ·rw [if_pos hok];refine jh.zS (id:=6) rfl h1 h2 h3 h4 h5 rfl rfl rfl (uH ?_);refine ⟨rfl,rfl,uH ?_⟩;(repeat refine uC ?_)
   exact ⟨_,_,.refl _,rfl,.inl ⟨rfl,rfl,rfl⟩⟩
  ·have e1:qt e=(jR e.next (zC e) N,0):=by unfold qt;rw [if_pos hok,hN]
   rw [e1];conv=>whnf
   exact uI
 ·refine ⟨.ret,_,[⟨1,156,3,[zu e],0⟩,⟨1,22,1,[[.lst 1 0 []]],0⟩,⟨1,30,1,[[I 11]],0⟩],fun l r h1 h2 h3 h4 h5=>⟨_,_,left r .ret,zcL e he N hN l (obR l r _) (obR l (left r .ret) _) (.lst 1 0 []) 11 false (fun k hk=>?_) ?_,
   rfl,by simp,rfl,Nat.zero_le _,trivial,zo.low 3 _ _ rfl rfl rfl⟩,?_⟩
  ·have g:=jj k hk;have hvk:=hv k;refine jh.zS (id:=6) rfl h1 h2 h3 h4 h5 rfl rfl rfl (uH ?_);refine ⟨rfl,rfl,uH ?_⟩;refine ⟨fun h=>absurd h (by simp;omega),fun _=>uH ?_⟩;refine ⟨fun h=>absurd h (by simp;omega),fun _=>uH ?_⟩;refine ⟨rfl,.inr rfl,by simp [maxLen,hvk];omega,by show _ * 8<=_;simp [hvk];omega,uH ?_⟩;rw [vs k];exact ⟨_,_,.refl _,rfl,.inl ⟨rfl,rfl,rfl⟩⟩
  ·rw [if_neg hok];refine jh.zS (id:=6) rfl h1 h2 h3 h4 h5 rfl rfl rfl (uH ?_);refine ⟨rfl,rfl,uH ?_⟩;(repeat refine uC ?_)
   exact ⟨_,_,.refl _,rfl,.inr ⟨rfl,.inl ⟨rfl,rfl⟩⟩⟩
  ·have e1:qt e=([],11):=by unfold qt;rw [if_neg hok]
   rw [e1];conv=>whnf
   exact ⟨.inl rfl,_,zo.var 1 rfl rfl rfl (.cons (WC.nil 0 1) .nil),rfl⟩
theorem zrs (e:En):((qt e).2 == 0)=okV e.next (zC e):=by
 unfold qt;cases okV e.next (zC e) <;> simp
theorem wG (e:En) (he:e.ok):zb Tryz.prog 110 [] [Ev e] (Bo (isV e)) []:=by
 have h0:=zrs e;refine zb.zp (fn:=Tryz.f110) Tryz.func110 rfl (uH ?_);refine ⟨_,_,(zac e he).frame rfl _,dd ?_⟩;refine ⟨fun h1=>?_,fun h1=>?_⟩
 ·rw [show ((qt e).2 == 0)=true from h1] at h0;refine dd ?_;refine ⟨fun h2=>?_,fun h2=>?_⟩
  ·refine dd ?_;refine ⟨fun h3=>?_,fun h3=>?_⟩
   ·refine dd ?_;(repeat' (first | (refine ⟨fun _=>?_,fun _=>?_⟩ <;> (conv=>whnf)) | fail))
    all_goals (rename_i h4;(exact ⟨.inl rfl,_,.refl _,uN (by simp at h2 h3 h4;simp [isV,<- h0];omega)⟩))
   ·refine dd ?_
    (exact ⟨.inl rfl,_,.refl _,uN (by simp at h2 h3;simp [isV,<- h0];omega)⟩)
  ·refine dd ?_
   (exact ⟨.inl rfl,_,.refl _,uN (by simp at h2;simp [isV,<- h0];omega)⟩)
 ·rw [show ((qt e).2 == 0)=false from h1] at h0;refine dd ?_
  (exact ⟨.inl rfl,_,.refl _,uN (by simp [isV,<- h0])⟩)
theorem zcm (x i:Int) (h:u64 x) (h3: -1<=i) (h4:i<=2147483646):zb Tryz.prog 226 [] [U x,I i] (.tup [U (qP x i),I 0]) []:=
 zc9 [] (fun w=>(YtgmkpdmnlhoffaaGreat.zqb x i w (zi8 h).1 (zi8 h).2 h3 h4).mono fun e w' ⟨h1,h2⟩=>⟨h1,h2.symm⟩) zpk fun E=>.tup _ _ rfl fun j c y e1 e2=>by
  match j,e1,e2 with
  | 0,e1,e2=>cases e1;cases e2;exact .v _ rfl
  | 1,e1,e2=>cases e1;cases e2;exact .v _ rfl
abbrev tQ (r:En × Int):C:=.tup [Ev r.1,I r.2]
theorem qs (X Y:Ob) (x:Int) (l:List Int) (hl:l.length < 17592186043904):zb Tryz.prog 272 [X,Y] [lI (x::l)] (.sl 2 [] 1 0 (0+((l.map encI).length+1)) false) [X,Y,⟨2,3,1,(x::l).map encI,0⟩]:=by
 refine zb.zS (fn:=Tryz.f272) Tryz.func272 rfl (uH ?_);refine ⟨by simp,uH ?_⟩;refine .inr ⟨.inl rfl,by simp [maxLen];omega,by show _ * 8<=_;simp;omega,uH ?_⟩;exact uJ
theorem zlR:zb Tryz.prog 194 [] [.v (.int .u32 0),I 0] (.tup [U 1,I 0]) []:=
 zc9 [] (fun w=>(YtgmkpdmnlhoffaaGreat.zjQ 0 0 w (by decide) (by decide) (by decide) (by decide)).mono fun e w' ⟨h1,h2⟩=>⟨h1,h2.symm⟩) zpk fun E=>.tup _ _ rfl fun j c y e1 e2=>by
  match j,e1,e2 with
  | 0,e1,e2=>cases e1;cases e2;exact .v _ rfl
  | 1,e1,e2=>cases e1;cases e2;exact .v _ rfl
def vd (n k:Nat):List Int:=(List.range n).map fun i=>if i < k then (i:Int)+1 else 0
def zce (n:Nat):List Int:=(List.range n).map fun (i:Nat)=>if i+1=n then -1 else (i:Int)+1
theorem wN (n k:Nat):(vd n k).length=n:=by simp [vd]
theorem zoL {n k:Nat} (h:k < n):(vd n k).set k ((k:Int)+1)=vd n (k+1):=by
 apply List.ext_getElem?
 intro j;rw [List.getElem?_set,wN];unfold vd;simp only [List.getElem?_map];by_cases hj:j < n
 ·rw [List.getElem?_range hj];by_cases e:k=j
  ·subst e;simp [h]
  ·simp only [e,if_false,Option.map_some];by_cases h2:j < k
   ·simp [h2,show j < k+1 from by omega]
   ·simp [h2,show ¬j < k+1 from by omega]
 ·rw [List.getElem?_eq_none (by simp;omega)];simp;omega
theorem zqC {n:Nat}:(vd n n).set (n - 1) (-1)=zce n:=by
 apply List.ext_getElem?
 intro j;rw [List.getElem?_set,wN];unfold vd zce;simp only [List.getElem?_map];by_cases hj:j < n
 ·rw [List.getElem?_range hj];by_cases e:n - 1=j
  ·subst e;simp [show n - 1 < n from by omega,show n - 1+1=n from by omega]
  ·simp only [e,if_false,Option.map_some,hj,if_true,show ¬j+1=n from by omega]
 ·rw [List.getElem?_eq_none (by simp;omega)];simp;omega
theorem zpK {n:Int} (h1:¬(n < 1∨4 < n)):vJ n=(⟨1,zce n.toNat,0⟩,0):=by unfold vJ;rw [if_neg h1];rfl
theorem zaT (n:Int):zb Tryz.prog 127 [] [I n] (tQ (vJ n)) []:=by
 refine zb.zp (fn:=Tryz.f127) Tryz.func127 rfl (uH ?_);have hbad:n < 1∨4 < n->vJ n=(no,1):=fun h=>by unfold vJ;rw [if_pos h]
 refine ⟨fun h1=>?_,fun h1=>?_⟩
 ·rw [hbad (.inl tE)];refine dd ?_;exact ⟨.inl rfl,_,zo.var 0 rfl rfl rfl (.cons (.refl _) (.cons (WC.nil 0 1) (.cons (.refl _) .nil))),rfl⟩
 ·refine dd ?_;refine ⟨fun h2=>?_,fun h2=>?_⟩
  ·rw [hbad (.inr tS)];refine dd ?_;exact ⟨.inl rfl,_,zo.var 0 rfl rfl rfl (.cons (.refl _) (.cons (WC.nil 0 1) (.cons (.refl _) .nil))),rfl⟩
  ·have g1:1<=n:=by simp at h1;omega
   have g2:n<=4:=by simp at h2;omega
   rw [zpK (by omega)];obtain ⟨m,rfl⟩:∃ m:Nat,n=m:=⟨n.toNat,by omega⟩;rw [toNat_cast];refine dd ?_;refine ⟨rfl,by omega,by show (8:Int) * _<=_;omega,by omega,dd ?_⟩;refine qf.seq m (fun k=>(I m::.za::.ref 0 [] 3 0 0::I 0::.ref 2 [] 3 0 0::tY (.za::.za::.za::.za::.za::I m::I k::tY (tY ([.za,.za,.za,.za]))))) (fun k=>[⟨1,156,3,[[U 0,.lst 1 0 [],I 0]],0⟩,⟨2,3,1,(vd m k).map encI,0⟩,⟨1,156,3,[[U 0,.sl 1 [] 1 0 m false,I 0]],0⟩]) (fun _=>True) ?_ trivial (fun k hk _=>?_) (fun _=>?_)
   ·have e1:List.replicate ((m:Int)).toNat [C.v (Value.int .i64 0)]=(vd m 0).map encI:=by
     simp only [toNat_cast];apply List.ext_getElem?
     intro j;rw [List.getElem?_replicate,List.getElem?_map];unfold vd;simp only [List.getElem?_map];split
     ·rename_i hj;rw [List.getElem?_range hj];rfl
     ·rw [List.getElem?_eq_none (by simp;omega)];rfl
    show zo 0 ⟨_,[_,⟨2,3,1,List.replicate ((m:Int)).toNat [C.v (Value.int .i64 0)],0⟩,_]⟩ _;rw [e1];exact cC
   ·have hg:((vd m k).map encI)[k]?= some (encI ((vd m k)[k]'(by rw [wN];exact hk))):=by rw [List.getElem?_map,List.getElem?_eq_getElem (by rw [wN];exact hk)];rfl
    have hse:((vd m k).map encI).set k [I ((k+1:Nat):Int)]=(vd m (k+1)).map encI:=by rw [<- zoL hk,List.map_set];rfl
    conv=>whnf
    refine ⟨fun _=>uH ?_,fun h=>absurd h (by simp;omega)⟩;refine ⟨by omega,by simp;omega,dd ?_⟩;rw [Nat.zero_add,zA (by omega),toNat_cast];refine ⟨_,hg,rfl,dd ?_⟩;rw [show List.set (List.map encI (vd m k)) k [C.v (Value.int IntKind.i64 ((k+1:Nat):Int))]=(vd m (k+1)).map encI from hse];refine .inl ⟨rfl,?_,trivial⟩;rw [zA (by omega)];exact cE 3
   ·have hg:((vd m m).map encI)[m - 1]?= some (encI ((vd m m)[m - 1]'(by rw [wN];omega))):=by rw [List.getElem?_map,List.getElem?_eq_getElem (by rw [wN];omega)];rfl
    have hse:((vd m m).map encI).set (m - 1) [I (-1)]=(zce m).map encI:=by rw [<- zqC,List.map_set];rfl
    have hw:IntKind.i64.wrap ((m:Int) - 1)=((m - 1:Nat):Int):=by rw [q0 (by omega) (by omega)];omega
    have hfl:(zce m).length=m:=by simp [zce]
    conv=>whnf
    refine ⟨fun h=>absurd h (by simp),fun _=>uH ?_⟩;refine ⟨by simp,uH ?_⟩;rw [hw];refine ⟨by omega,by simp;omega,dd ?_⟩;rw [Nat.zero_add,toNat_cast];refine ⟨_,hg,rfl,dd ?_⟩;rw [show List.set (List.map encI (vd m m)) (m - 1) [C.v (Value.int IntKind.i64 (-1))]=(zce m).map encI from hse];refine ⟨_,_,(zlR).frame rfl _,dd ?_⟩
    exact ⟨.inl rfl,_,zo.zrt 0 1 rfl rfl rfl (by simp [hfl]) (fun r hr c hc=>by
     obtain ⟨n,_,rfl⟩:=List.mem_map.1 hr;simp [encI] at hc;subst hc;rfl) rfl rfl,rfl⟩
end Go.Slp
