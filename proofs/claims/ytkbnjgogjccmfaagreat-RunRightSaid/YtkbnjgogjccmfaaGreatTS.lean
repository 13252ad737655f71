import Derived.WalkKit
import Derived.Test.YtkbnjgogjccmfaaGreatRows
import Derived.Test.YtkbnjgogjccmfaaGreatTJ
import Derived.Test.YtkbnjgogjccmfaaGreatTC
import Derived.Test.YtkbnjgogjccmfaaGreatProg
set_option linter.all false
set_option maxRecDepth 100000
set_option maxHeartbeats 4000000
namespace Go.Proofs.YtkbnjgogjccmfaaGreat
open Go.RowKit
def VK (t i:Int) (h1:0<=t) (h2:t < 4294967296) (h3: -1<=i) (h4:i<=2147483646):
  bits .or .u64 (t * 4294967296) (i+1)=t * 4294967296+(i+1):=by
 rw [u64_or _ _ aw aw aw aw];obtain ⟨a,rfl⟩:=Int.eq_ofNat_of_zero_le h1;obtain ⟨b,hb⟩:=Int.eq_ofNat_of_zero_le (show 0<=i+1 by omega);rw [hb]
 have ux:b < 2 ^ 32:=by
   have:(b:Int) < 4294967296:=aw
   simpa using (by omega:b < 4294967296)
 have:=Nat.two_pow_add_eq_or_of_lt ux a;have e:((a:Int) * 4294967296).toNat=2 ^ 32 * a:=aw
 rw [e,ug,<- this];omega
def Kv (t i:Int) (w:World) (h1:0<=t) (h2:t < 4294967296) (h3: -1<=i) (h4:i<=2147483646):
  Calls Tryz.prog 110 #[.int .u32 t,.int .i64 i] w fun e w'=>e=.returned (.tuple #[.int .u64 (t * 4294967296+(i+1)),.int .i64 0])∧w=w':=by
 go_enter Tryz.func110,Tryz.ntmps110
 go_wp2
 go_ret2
 exact ⟨by simp [VK t i h1 h2 h3 h4],rfl⟩
def U0 (x:Int) (w:World) (h1:0<=x) (h2:x < 18446744073709551616):
  Calls Tryz.prog 162 #[.int .u64 x] w fun e w'=>e=.returned (.int .u32 (x / 4294967296))∧w=w':=by
 go_enter Tryz.func162,Tryz.ntmps162
 go_wp2
 go_ret
 exact ⟨rfl,rfl⟩
def Su (x:Int) (w:World) (h1:0<=x) (h2:x < 18446744073709551616):
  Calls Tryz.prog 103 #[.int .u64 x] w fun e w'=>e=.returned (.int .i64 (x % 4294967296 - 1))∧w=w':=by
 go_enter Tryz.func103,Tryz.ntmps103
 go_wp2
 go_ret
 exact ⟨rfl,rfl⟩
def Tj (x i:Int) (w:World) (h1:0<=x) (h2:x < 18446744073709551616) (h3: -1<=i) (h4:i<=2147483646):
  Calls Tryz.prog 116 #[.int .u64 x,.int .i64 i] w fun e w'=>e=.returned (.tuple #[.int .u64 ((x / 4294967296+1) % 4294967296 * 4294967296+(i+1)),.int .i64 0])∧w=w':=by
 go_enter Tryz.func116,Tryz.ntmps116
 go_wp2_with (first | (go_at_call 162;refine (U0 _ _ h1 h2).mono ?_;rintro e w' ⟨rfl,rfl⟩) | (go_at_call 110;refine (Kv _ _ _ aw aw h3 h4).mono ?_;rintro e w' ⟨rfl,rfl⟩))
 go_ret2
 exact ⟨rfl,rfl⟩
end Go.Proofs.YtkbnjgogjccmfaaGreat
namespace Go.Slp
open Go.Ab Go.Hy
def fN (nx:List Int) (i:Int):Bool:=decide (0<=i) && decide (i < nx.length)
def fk (nx:List Int) (i:Int):Int:=(nx[i.toNat]?).getD 0
def jR (nx:List Int) (i0:Int):Nat->Int
 | 0=>i0
 | k+1=>fk nx (jR nx i0 k)
def xa (nx:List Int) (i0:Int) (k:Nat):List Int:=(List.range k).map (jR nx i0)
def yr (nx:List Int) (i0:Int) (k:Nat):Bool:=!fN nx (jR nx i0 k) || (xa nx i0 k).contains (jR nx i0 k)
def jU (nx:List Int) (i0:Int):Nat:=((List.range (nx.length+1)).find? (yr nx i0)).getD 0
def fb (nx:List Int) (i0:Int):Bool:=jR nx i0 (jU nx i0) == -1
def GK:∀ (n:Nat) (l:List Int),l.Nodup->(∀ x ∈ l,0<=x∧x < n)->l.length<=n
 | 0,l,_,h=>by
  cases l with
  | nil=>exact dW _
  | cons x l=>have:=h x (pz ..);omega
 | n+1,l,hd,h=>by
  by_cases hm:(n:Int) ∈ l
  ·have h1:=GK n (l.erase n) (hd.erase _) fun x hx=>by
    have h2:=h x (List.mem_of_mem_erase hx)
    have h3:x≠n:=fun e=>by
     subst e;exact absurd hx (List.Nodup.not_mem_erase hd)
    omega
   rw [List.length_erase_of_mem hm] at h1;omega
  ·have:=GK n l hd fun x hx=>by
    have h2:=h x hx;have h3:x≠n:=fun e=>hm (e ▸ hx)
    omega
   omega
def FR (nx:List Int) (i0:Int) (k:Nat):xa nx i0 (k+1)=xa nx i0 k++[jR nx i0 k]:=by
 simp [xa,uo]
def Lp (nx:List Int) (i0:Int) (k:Nat):(xa nx i0 k).length=k:=by simp [xa]
def DA {nx:List Int} {i0:Int}:∀ {k:Nat},(∀ j,j < k->yr nx i0 j=false)->(xa nx i0 k).Nodup∧∀ x ∈ xa nx i0 k,fN nx x=true
 | 0,_=>⟨by simp [xa],by simp [xa]⟩
 | k+1,h=>by
  obtain ⟨h1,h2⟩:=DA (k:=k) fun j hj=>h j aw
  have h3:=h k aw;simp only [yr,pn,pT] at h3;have h4:jR nx i0 k ∉ xa nx i0 k:=aq h3.2
  rw [FR];refine ⟨?_,?_⟩
  ·rw [List.nodup_append];refine ⟨h1,aj,?_⟩;intro a ha b hb e;rw [gI] at hb;subst hb e;exact h4 ha
  ·intro x hx;rcases gH.1 hx with hx | hx
   ·exact h2 x hx
   ·rw [gI.1 hx];exact h3.1
def yI (nx:List Int) (i0:Int):jU nx i0<=nx.length∧yr nx i0 (jU nx i0)=true∧∀ j,j < jU nx i0->yr nx i0 j=false:=by
 unfold jU;cases e:(List.range (nx.length+1)).find? (yr nx i0) with
 | none=>
  exfalso
  rw [List.find?_eq_none] at e;have h:∀ j,j < nx.length+1->yr nx i0 j=false:=fun j hj=>by simpa using e j (pG.2 hj)
  obtain ⟨h1,h2⟩:=DA h
  have:=GK nx.length _ h1 fun x hx=>by
   have:=h2 x hx;simp only [fN,dU,gh] at this;exact dy
  rw [Lp] at this;omega
 | some k=>
  rw [List.find?_eq_some_iff_append] at e;obtain ⟨h1,az,bs,h2,h3⟩:=e
  have hk:az.length=k∧k < nx.length+1:=by
   have h4:(List.range (nx.length+1))[az.length]?= some k:=by rw [h2];simp
   have h5:=(dL.1 h4);obtain ⟨h6,h7⟩:=h5;rw [List.getElem_range] at h7;simp at h6;omega
  refine ⟨aA,aq h1,fun j hj=>?_⟩
  have h8:(List.range (nx.length+1))[j]?= some j:=by
   simp at hj;rw [rk aw]
  rw [h2,dT (by simp at hj;omega)] at h8;simpa using h3 j (dO h8)
def FO {nx:List Int} {i0:Int} {n:Nat} (h1:yr nx i0 n=true) (h2:∀ j,j < n->yr nx i0 j=false):jU nx i0=n:=by
 obtain ⟨_,h3,h4⟩:=yI nx i0;rcases rC (jU nx i0) n with h | h | h
 ·rw [h2 _ h] at h3;cases h3
 ·exact h
 ·rw [h4 _ h] at h1;cases h1
abbrev no:En:=⟨0,[],0⟩
def zC (e:En):Int:=e.head % 4294967296 - 1
def qV (x i:Int):Int:=(x / 4294967296+1) % 4294967296 * 4294967296+(i+1)
def qz (e:En):List Int × Int:=if fb e.next (zC e) then (xa e.next (zC e) (jU e.next (zC e)),0) else ([],11)
def eu (e:En):Bool:=fb e.next (zC e) && decide (1<=e.next.length) && decide (e.next.length<=4) && decide (0<=e.zg)
def El (e:En):En × Int × Int:=
 if eu e=false then (no,0,11) else if zC e < 0 then (no,0,5) else (⟨qV e.head (fk e.next (zC e)),e.next,e.zg⟩,zC e,0)
def D5 (e:En) (slot:Int):En × Int:=
 if eu e=false then (no,11) else if slot < 0∨e.next.length<=slot then (no,1) else if (qz e).1.contains slot then (no,4)
 else (⟨qV e.head slot,e.next.set slot.toNat (zC e),e.zg⟩,0)
def kq (n:Int):En × Int:=if n < 1∨4 < n then (no,1) else (⟨1,(List.range n.toNat).map fun (i:Nat)=>if i+1=n.toNat then -1 else (i:Int)+1,0⟩,0)
def TM (e:En): -1<=zC e∧zC e<=4294967294:=by unfold zC;omega
def Ve {nx:List Int} {i0:Int} (h:fb nx i0=true) {k:Nat} (hk:k < jU nx i0):fN nx (jR nx i0 k)=true∧ -1<=jR nx i0 (k+1)∧jR nx i0 (k+1) < nx.length:=by
 obtain ⟨h1,h2,h3⟩:=yI nx i0;have h4:=h3 k hk;simp only [yr,pn,pT] at h4;refine ⟨h4.1,?_⟩;rcases rm (k+1) (jU nx i0) with h5 | h5
 ·have h6:=h3 _ h5;simp only [yr,pn,pT,fN,dU,gh] at h6;omega
 ·have e:k+1=jU nx i0:=by omega
  rw [e];simp only [fb,gT] at h;rw [h];omega
def Lu {nx:List Int} {i0:Int} (h:fb nx i0=true) (h0:¬i0 < 0):0 < jU nx i0:=by
 rcases rX (jU nx i0) with e | e
 ·simp only [fb,e,jR,gT] at h;omega
 ·exact e
def oI {e:En} (h:eu e=true):fb e.next (zC e)=true∧1<=e.next.length∧e.next.length<=4∧0<=e.zg:=by
 simp only [eu,dU,gh] at h;exact ⟨h.1.1.1,h.1.1.2,h.1.2,h.2⟩
def LC {e:En} (h:eu e=true) (h0:¬zC e < 0):0<=zC e∧zC e < e.next.length∧ -1<=fk e.next (zC e)∧fk e.next (zC e) < e.next.length:=by
 obtain ⟨h1,h2,h3,h4⟩:=oI h;obtain ⟨h5,h6,h7⟩:=Ve h1 (Lu h1 h0);simp only [fN,jR,dU] at h5;exact ⟨gK h5.1,gK h5.2,h6,h7⟩
def yC (nx:List Int) (i0:Int):Nat->List Bool
 | 0=>List.replicate nx.length false
 | k+1=>(yC nx i0 k).set (jR nx i0 k).toNat true
def KW (nx:List Int) (i0:Int):∀ k,(yC nx i0 k).length=nx.length
 | 0=>by simp [yC]
 | k+1=>by simp [yC,KW nx i0 k]
def F5 {nx:List Int} {i0:Int}:∀ {k:Nat},(∀ j,j < k->fN nx (jR nx i0 j)=true)->∀ {i:Nat},i < nx.length->(yC nx i0 k)[i]?= some ((xa nx i0 k).contains (i:Int))
 | 0,_,i,hi=>by simp [yC,xa,hi]
 | k+1,h,i,hi=>by
  have ih:=F5 (k:=k) (fun j hj=>h j aw) hi;have hb:=h k aw;simp only [fN,dU,gh] at hb;rw [FR];simp only [yC];rw [dY,KW];by_cases e:(jR nx i0 k).toNat=i
  ·rw [dQ e,dQ aw];have:(i:Int)=jR nx i0 k:=by omega
   simp [this]
  ·rw [dN e,ih];have:¬(i:Int)=jR nx i0 k:=by omega
   simp [this]
end Go.Slp
namespace Go.Slp
open Go.Ab Go.Proofs Tryz Go.Hy
def D2 {x:Int} (h:u64 x):0<=x∧x < 18446744073709551616:=by unfold u64 at h;omega
def qG (x:Int) (h:u64 x):tn 103 [] [U x] (I (x % 4294967296 - 1)) []:=
 Dt [] (fun w=>(YtkbnjgogjccmfaaGreat.Su x w (D2 h).1 (D2 h).2).mono fun e w' ⟨h1,h2⟩=>⟨h1,h2.symm⟩) WE fun E=>.v _ rfl
abbrev Ev (e:En):C:=.agg (zx e)
abbrev vk (e:En) (k:Nat):List (List C):=(xa e.next (zC e) k).map encI
def Oh (e:En) (he:e.ok) (l:Nat) (rec rec':Ob) (rr:C) (rn:Int)
  (hy:∀ k,k < jU e.next (zC e)->ju prog l ([⟨1,136,3,[zx e],0⟩,⟨1,28,1,[[.uv 1 0 []]],0⟩,⟨1,38,1,[[I 0]],0⟩,⟨1,28,1,[[.gl 5 1 (vk e k)]],0⟩,⟨1,136,3,[zx e],0⟩,⟨4,3,1,(vk e k),0⟩,rec]++[⟨2,4,1,(yC e.next (zC e) (k+1)).map vq,0⟩]) [I (jR e.next (zC e) k)] (Bo true) ([⟨1,136,3,[zx e],0⟩,⟨1,28,1,[[.uv 1 0 []]],0⟩,⟨1,38,1,[[I 0]],0⟩,⟨1,28,1,[[.gl 5 1 (vk e (k+1))]],0⟩,⟨1,136,3,[zx e],0⟩,⟨4,3,1,(vk e (k+1)),0⟩,rec]++[⟨2,4,1,(yC e.next (zC e) (k+1)).map vq,0⟩]))
  (hz:∃ b,ju prog l ([⟨1,136,3,[zx e],0⟩,⟨1,28,1,[[.uv 1 0 []]],0⟩,⟨1,38,1,[[I 0]],0⟩,⟨1,28,1,[[.gl 5 1 (vk e (jU e.next (zC e)))]],0⟩,⟨1,136,3,[zx e],0⟩,⟨4,3,1,(vk e (jU e.next (zC e))),0⟩,rec]++[⟨2,4,1,(yC e.next (zC e) (jU e.next (zC e))).map vq,0⟩]) [I (if fb e.next (zC e) then -1 else -2)] (Bo b) ([⟨1,136,3,[zx e],0⟩,⟨1,28,1,[[rr]],0⟩,⟨1,38,1,[[I rn]],0⟩,⟨1,28,1,[[.gl 5 1 (vk e (jU e.next (zC e)))]],0⟩,⟨1,136,3,[zx e],0⟩,⟨4,3,1,(vk e (jU e.next (zC e))),0⟩,rec']++[⟨2,4,1,(yC e.next (zC e) (jU e.next (zC e))).map vq,0⟩])):
  tn 102 [⟨1,136,3,[zx e],0⟩,⟨1,28,1,[[.uv 1 0 []]],0⟩,⟨1,38,1,[[I 0]],0⟩,⟨1,28,1,[[.gl 5 1 (vk e 0)]],0⟩,⟨1,136,3,[zx e],0⟩,⟨4,3,1,(vk e 0),0⟩,rec] [.v (.func (.yield l) #[] #[]),.ref 4 [] 3 0 0] (.u1 []) ([⟨1,136,3,[zx e],0⟩,⟨1,28,1,[[rr]],0⟩,⟨1,38,1,[[I rn]],0⟩,⟨1,28,1,[[.gl 5 1 (vk e (jU e.next (zC e)))]],0⟩,⟨1,136,3,[zx e],0⟩,⟨4,3,1,(vk e (jU e.next (zC e))),0⟩,rec']++[⟨2,4,1,(yC e.next (zC e) (jU e.next (zC e))).map vq,0⟩]):=by
 refine zb.zU (fn:=f102) func102 rfl (uH ?_);have hl:=he.2.1.2;have hlm:(e.next.map encI).length=e.next.length:=dR ..;obtain ⟨c1,c2,c3⟩:=yI e.next (zC e)
 have jq:∀ j,j < jU e.next (zC e)->fN e.next (jR e.next (zC e) j)=true:=fun j hj=>by
  have:=c3 j hj;simp only [yr,pn,pT] at this;exact this.1
 refine ⟨rfl,aw,by show (1:Int) * _<=_;omega,aw,uH ?_⟩;refine ah (qG e.head he.1) ?_
 refine zZ.seq (jU e.next (zC e)) (fun k=>(.v (.func (.yield l) #[] #[])::.ref 4 [] 3 0 0::.za::.sl 7 [] 1 0 e.next.length false::I (jR e.next (zC e) k)::tZ (tZ (tZ (tZ ([.za,.za,.za,.za,.za,.za,.za]))))))
  (fun k=>[⟨1,136,3,[zx e],0⟩,⟨1,28,1,[[.uv 1 0 []]],0⟩,⟨1,38,1,[[I 0]],0⟩,⟨1,28,1,[[.gl 5 1 (vk e k)]],0⟩,⟨1,136,3,[zx e],0⟩,⟨4,3,1,(vk e k),0⟩,rec]++[⟨2,4,1,(yC e.next (zC e) k).map vq,0⟩]) (fun _=>True) ?_ trivial (fun k hk _=>?_) (fun _=>?_)
 ·have e1:List.replicate (((e.next.map encI).length:Int)).toNat (List.map fK (Value.bool false).cells.toList)=(yC e.next (zC e) 0).map vq:=by
   simp [yC,vq,fK,Value.cells]
  rw [e1,hlm,toNat_cast];exact cC
 ·have g:=jq k hk;simp only [fN,dU,gh] at g;obtain ⟨g1,g2⟩:=g;have hs:=F5 (nx:=e.next) (i0:=zC e) (k:=k) (fun j hj=>jq j aw) (i:=(jR e.next (zC e) k).toNat) aw
  have hv:(xa e.next (zC e) k).contains (((jR e.next (zC e) k).toNat:Nat):Int)=false:=by
   have:=c3 k hk;simp only [yr,pn,pT] at this;rw [pP g1];exact this.2
  rw [hv] at hs;have hyk:=hy k hk
  have hnx:(e.next)[(jR e.next (zC e) k).toNat]?= some (jR e.next (zC e) (k+1)):=by
   show _=some (fk e.next (jR e.next (zC e) k));unfold fk;rw [dM aw]
   rfl
  have hse:(yC e.next (zC e) (k+1)).map vq=((yC e.next (zC e) k).map vq).set (jR e.next (zC e) k).toNat [Bo true]:=by
   show (List.set _ _ _).map vq=_;rw [pM];rfl
  rw [hse] at hyk;rw [hse];generalize hP:jR e.next (zC e) k=p at *;generalize hQ:jR e.next (zC e) (k+1)=p' at *;conv=>whnf
  refine ⟨fun _=>dd ?_,fun h=>absurd h aA⟩;refine ⟨fun h=>absurd h aA,fun _=>dd ?_⟩;refine ⟨fun h=>absurd h aA,fun _=>dd ?_⟩;refine ⟨g1,aw,uH ?_⟩;refine ⟨[Bo false],by rw [gp,dP,hs];rfl,dW _,?_⟩;refine dd ?_;refine tc ?_
  refine ⟨g1,aw,uH ?_⟩;refine ⟨[Bo false],by rw [gp,dP,hs];rfl,rfl,?_⟩;conv=>whnf
  rw [gp];refine ⟨_,_,hyk,dd ?_⟩;refine tc ?_
  refine ⟨g1,[I p'],by rw [dP,hnx];rfl,?_⟩;conv=>whnf
  exact .inl ⟨rfl,cC,trivial⟩
 ·generalize hN:jU e.next (zC e)=N at *;have hsN:∀ {i:Nat},i < e.next.length->(yC e.next (zC e) N)[i]?= some ((xa e.next (zC e) N).contains (i:Int)):=fun h=>F5 (nx:=e.next) (i0:=zC e) (k:=N) (fun j hj=>jq j hj) h
  obtain ⟨b,hz⟩:=hz;by_cases hok:fb e.next (zC e)=true
  ·have hp:jR e.next (zC e) N= -1:=by simpa [fb,hN] using hok
   rw [dQ hok] at hz;rw [hp];conv=>whnf
   refine ⟨fun h=>absurd h aj,fun _=>uH ?_⟩;refine ⟨aj,uH ?_⟩;refine ⟨_,_,hz,uH ?_⟩;refine ⟨fun _=>?_,fun _=>?_⟩ <;>
   ·conv=>whnf
    exact c9
  ·have hp:jR e.next (zC e) N≠ -1:=by intro h;exact hok (by simp [fb,hN,h])
   rw [dN hok] at hz;generalize hP:jR e.next (zC e) N=p at *;conv=>whnf
   refine ⟨fun _=>dd ?_,fun h=>absurd h (by simp;exact hp)⟩;have fin:∀ (X:Prop),X->X:=fun _ h=>h
   refine ⟨fun h1=>?_,fun h1=>?_⟩
   ·refine dd ?_;refine ⟨aj,uH ?_⟩;refine ⟨_,_,hz,uH ?_⟩;refine ⟨fun _=>?_,fun _=>?_⟩ <;>
    ·conv=>whnf
     exact c9
   ·refine dd ?_;refine ⟨fun h2=>?_,fun h2=>?_⟩
    ·refine dd ?_;refine ⟨aj,uH ?_⟩;refine ⟨_,_,hz,uH ?_⟩;refine ⟨fun _=>?_,fun _=>?_⟩ <;>
     ·conv=>whnf
      exact c9
    ·have g1:0<=p:=by simpa using h1
     have g2:p < e.next.length:=aZ
     have hv:(xa e.next (zC e) N).contains (((p.toNat:Nat)):Int)=true:=by
      simp only [yr,hP,pE,gX,fN,Bool.and_eq_false_iff,gZ] at c2;rw [pP g1];rcases c2 with (h | h) | h
      ·exact absurd g1 h
      ·exact absurd g2 h
      ·exact h
     have hs:=hsN (i:=p.toNat) aw;rw [hv] at hs;refine dd ?_;refine ⟨g1,aw,uH ?_⟩;refine ⟨[Bo true],by rw [gp,dP,hs];rfl,dW _,?_⟩;refine dd ?_;refine tc ?_
     refine ⟨aj,uH ?_⟩;refine ⟨_,_,hz,uH ?_⟩;refine ⟨fun _=>?_,fun _=>?_⟩ <;>
     ·conv=>whnf
      exact c9
def OS (e:En) (X Y Z W:Ob):tn 73 [X,Y,Z,W] [Ev e] (.fn 102 [] [.ref 4 [] 3 0 0]) [X,Y,Z,W,⟨1,136,3,[zx e],0⟩]:=by
 refine zb.zU (fn:=f73) func73 rfl (uH ?_);exact uJ
def Ip (e:En) (he:e.ok) (N:Nat) (hN:jU e.next (zC e)=N) (l:Nat) (rec rec':Ob) (rr:C) (rn:Int) (b:Bool)
  (hy:∀ k,k < N->ju prog l ([⟨1,136,3,[zx e],0⟩,⟨1,28,1,[[.uv 1 0 []]],0⟩,⟨1,38,1,[[I 0]],0⟩,⟨1,28,1,[[.gl 5 1 (vk e k)]],0⟩,⟨1,136,3,[zx e],0⟩,⟨4,3,1,(vk e k),0⟩,rec]++[⟨2,4,1,(yC e.next (zC e) (k+1)).map vq,0⟩]) [I (jR e.next (zC e) k)] (Bo true) ([⟨1,136,3,[zx e],0⟩,⟨1,28,1,[[.uv 1 0 []]],0⟩,⟨1,38,1,[[I 0]],0⟩,⟨1,28,1,[[.gl 5 1 (vk e (k+1))]],0⟩,⟨1,136,3,[zx e],0⟩,⟨4,3,1,(vk e (k+1)),0⟩,rec]++[⟨2,4,1,(yC e.next (zC e) (k+1)).map vq,0⟩]))
  (hz:ju prog l ([⟨1,136,3,[zx e],0⟩,⟨1,28,1,[[.uv 1 0 []]],0⟩,⟨1,38,1,[[I 0]],0⟩,⟨1,28,1,[[.gl 5 1 (vk e N)]],0⟩,⟨1,136,3,[zx e],0⟩,⟨4,3,1,(vk e N),0⟩,rec]++[⟨2,4,1,(yC e.next (zC e) N).map vq,0⟩]) [I (if fb e.next (zC e) then -1 else -2)] (Bo b) ([⟨1,136,3,[zx e],0⟩,⟨1,28,1,[[rr]],0⟩,⟨1,38,1,[[I rn]],0⟩,⟨1,28,1,[[.gl 5 1 (vk e N)]],0⟩,⟨1,136,3,[zx e],0⟩,⟨4,3,1,(vk e N),0⟩,rec']++[⟨2,4,1,(yC e.next (zC e) N).map vq,0⟩])):
  tn 102 [⟨1,136,3,[zx e],0⟩,⟨1,28,1,[[.uv 1 0 []]],0⟩,⟨1,38,1,[[I 0]],0⟩,⟨1,28,1,[[.gl 5 1 (vk e 0)]],0⟩,⟨1,136,3,[zx e],0⟩,⟨4,3,1,(vk e 0),0⟩,rec] [.v (.func (.yield l) #[] #[]),.ref 4 [] 3 0 0] (.u1 []) ([⟨1,136,3,[zx e],0⟩,⟨1,28,1,[[rr]],0⟩,⟨1,38,1,[[I rn]],0⟩,⟨1,28,1,[[.gl 5 1 (vk e N)]],0⟩,⟨1,136,3,[zx e],0⟩,⟨4,3,1,(vk e N),0⟩,rec']++[⟨2,4,1,(yC e.next (zC e) N).map vq,0⟩]):=by
 subst hN;exact Oh e he l rec rec' rr rn hy ⟨b,hz⟩
abbrev tF (r:List Int × Int):C:=.u1 [lI r.1,I r.2]
def C7 (e:En) (he:e.ok):tn 48 [] [Ev e] (tF (qz e)) []:=by
 have hl:=he.2.1.2;obtain ⟨c1,c2,c3⟩:=yI e.next (zC e);generalize hN:jU e.next (zC e)=N at *;refine ab func48 ?_;refine ⟨_,_,OS e _ _ _ _,uH ?_⟩;refine ⟨_,zo.nv 3 0 3 1 rfl rfl (.inl rfl) rfl rfl,?_⟩
 have jq:∀ j,j < N->0<=jR e.next (zC e) j:=fun j hj=>by
  have:=c3 j hj;simp only [yr,pn,pT,fN,dU,gh] at this;exact this.1.1
 have hv:∀ k,(vk e k).length=k:=fun k=>by simp [Lp]
 have vs:∀ k,vk e (k+1)=vk e k++[[I (jR e.next (zC e) k)]]:=fun k=>by
  show (xa e.next (zC e) (k+1)).map encI=_;rw [FR,pB];rfl
 by_cases hok:fb e.next (zC e)=true
 ·refine ⟨.normal,_,[⟨1,136,3,[zx e],0⟩,⟨1,28,1,[[.uv 1 0 []]],0⟩,⟨1,38,1,[[I 0]],0⟩,⟨1,28,1,[[.gl 5 1 (vk e N)]],0⟩,⟨1,136,3,[zx e],0⟩,⟨4,3,1,vk e N,0⟩],fun l r h1 h2 h3 h4 h5=>⟨_,_,r,Ip e he N hN l (fh l r _) (fh l r _) (.uv 1 0 []) 0 true (fun k hk=>?_) ?_,
   rfl,ba,rfl,gA _,bb,zo.low 6 _ _ rfl rfl rfl⟩,?_⟩
  ·have g:=jq k hk;have hvk:=hv k;refine ju.zU (id:=6) rfl h1 h2 h3 h4 h5 rfl rfl rfl (uH ?_);refine ⟨rfl,rfl,uH ?_⟩;refine ⟨fun h=>absurd h aA,fun _=>uH ?_⟩;refine ⟨fun h=>absurd h aA,fun _=>uH ?_⟩;refine ⟨rfl,.inr rfl,by simp [maxLen,hvk];omega,by show _ * 8<=_;simp [hvk];omega,uH ?_⟩;rw [vs k];exact cR
  ·rw [dQ hok];refine ju.zU (id:=6) rfl h1 h2 h3 h4 h5 rfl rfl rfl (uH ?_);refine ⟨rfl,rfl,uH ?_⟩;refine tc ?_
   exact cR
  ·have e1:qz e=(xa e.next (zC e) N,0):=by unfold qz;rw [dQ hok,hN]
   rw [e1];conv=>whnf
   exact uI
 ·refine ⟨.ret,_,[⟨1,136,3,[zx e],0⟩,⟨1,28,1,[[.uv 1 0 []]],0⟩,⟨1,38,1,[[I 11]],0⟩],fun l r h1 h2 h3 h4 h5=>⟨_,_,left r .ret,Ip e he N hN l (fh l r _) (fh l (left r .ret) _) (.uv 1 0 []) 11 false (fun k hk=>?_) ?_,
   rfl,aj,rfl,gA _,trivial,zo.low 3 _ _ rfl rfl rfl⟩,?_⟩
  ·have g:=jq k hk;have hvk:=hv k;refine ju.zU (id:=6) rfl h1 h2 h3 h4 h5 rfl rfl rfl (uH ?_);refine ⟨rfl,rfl,uH ?_⟩;refine ⟨fun h=>absurd h aA,fun _=>uH ?_⟩;refine ⟨fun h=>absurd h aA,fun _=>uH ?_⟩;refine ⟨rfl,.inr rfl,by simp [maxLen,hvk];omega,by show _ * 8<=_;simp [hvk];omega,uH ?_⟩;rw [vs k];exact cR
  ·rw [dN hok];refine ju.zU (id:=6) rfl h1 h2 h3 h4 h5 rfl rfl rfl (uH ?_);refine ⟨rfl,rfl,uH ?_⟩;refine tc ?_
   exact ⟨_,_,.refl _,rfl,.inr ⟨rfl,.inl ⟨rfl,rfl⟩⟩⟩
  ·have e1:qz e=([],11):=by unfold qz;rw [dN hok]
   rw [e1];conv=>whnf
   exact ⟨.inl rfl,_,zo.var 1 rfl rfl rfl (.cons (WC.nil 0 1) .nil),rfl⟩
def TW (e:En):((qz e).2 == 0)=fb e.next (zC e):=by
 unfold qz;cases fb e.next (zC e) <;> simp
def AM (e:En) (he:e.ok):tn 49 [] [Ev e] (Bo (eu e)) []:=by
 have h0:=TW e;refine ab func49 ?_;refine ah (C7 e he) ?_;refine ⟨fun h1=>?_,fun h1=>?_⟩
 ·rw [show ((qz e).2 == 0)=true from h1] at h0;refine dd ?_;refine ⟨fun h2=>?_,fun h2=>?_⟩
  ·refine dd ?_;refine ⟨fun h3=>?_,fun h3=>?_⟩
   ·refine dd ?_;(repeat' (first | (refine ⟨fun _=>?_,fun _=>?_⟩ <;> (conv=>whnf)) | fail))
    all_goals (rename_i h4;(exact ⟨.inl rfl,_,.refl _,uN (by simp at h2 h3 h4;simp [eu,<- h0];omega)⟩))
   ·refine dd ?_
    (exact ⟨.inl rfl,_,.refl _,uN (by simp at h2 h3;simp [eu,<- h0];omega)⟩)
  ·refine dd ?_
   (exact ⟨.inl rfl,_,.refl _,uN (by simp at h2;simp [eu,<- h0];omega)⟩)
 ·rw [show ((qz e).2 == 0)=false from h1] at h0;refine dd ?_
  (exact ⟨.inl rfl,_,.refl _,uN (by simp [eu,<- h0])⟩)
def EY (x i:Int) (h:u64 x) (h3: -1<=i) (h4:i<=2147483646):tn 116 [] [U x,I i] (.u1 [U (qV x i),I 0]) []:=
 Dt [] (fun w=>(YtkbnjgogjccmfaaGreat.Tj x i w (D2 h).1 (D2 h).2 h3 h4).mono fun e w' ⟨h1,h2⟩=>⟨h1,h2.symm⟩) GY fun E=>.u1 _ _ rfl fun j c y e1 e2=>by
  match j,e1,e2 with
  | 0,e1,e2=>cases e1;cases e2;exact .v _ rfl
  | 1,e1,e2=>cases e1;cases e2;exact .v _ rfl
abbrev tQ (r:En × Int):C:=.u1 [Ev r.1,I r.2]
def qw (X Y:Ob) (x:Int) (l:List Int) (hl:l.length < 17592186043904):tn 155 [X,Y] [lI (x::l)] (.sl 2 [] 1 0 (0+((l.map encI).length+1)) false) [X,Y,⟨2,3,1,(x::l).map encI,0⟩]:=by
 refine zb.zU (fn:=f155) func155 rfl (uH ?_);refine ⟨aj,uH ?_⟩;refine .inr ⟨.inl rfl,ay,bc,uH ?_⟩;exact uJ
def oJ (a b:En):Bool:=a.head == b.head && a.zg == b.zg && a.next == b.next
def Ps (a b:En) (ha:a.ok) (hb:b.ok):tn 62 [] [Ev a,Ev b] (Bo (oJ a b)) []:=by
 have hal:=ha.2.1.2;have hbl:=hb.2.1.2;refine ab func62 ?_;refine ⟨fun h=>?_,fun h=>?_⟩
 ·refine dd ?_
  (exact ⟨.inl rfl,_,.refl _,uN (by simp [oJ];simp at h;simp [h])⟩)
 ·refine dd ?_;refine ⟨fun h2=>?_,fun h2=>?_⟩
  ·refine dd ?_
   (exact ⟨.inl rfl,_,.refl _,uN (by simp [oJ];simp at h2;simp [h2])⟩)
  ·refine dd ?_;refine ⟨fun h3=>?_,fun h3=>?_⟩
   ·refine dd ?_
    (exact ⟨.inl rfl,_,.refl _,uN (by simp [oJ];intro _ _ e;rw [e] at h3;simp at h3)⟩)
   ·have hl:a.next.length=b.next.length:=by simp at h3;omega
    have e0:oJ a b=(a.next == b.next):=by simp at h h2;simp [oJ,h,h2]
    rw [e0];refine dd ?_;refine zZ.seq a.next.length (fun k=>(.za::.za::.ref 0 [] 3 0 0::.ref 1 [] 3 0 0::Bo false::I k::tZ (tZ (tZ (tZ ([.za,.za,.za,.za,.za,.za,.za])))))) (fun k=>[⟨1,136,3,[zx a],0⟩,⟨1,136,3,[zx b],0⟩]) (fun k=>∀ j,(h:j < a.next.length)->j < k->a.next[j]=b.next[j]'aw) ?_ aj (fun k hk hr=>?_) (fun hr=>?_)
    ·exact cC
    ·conv=>whnf
     refine ⟨fun h=>uH ?_,fun h=>absurd h aA⟩;refine uE ?_;refine ⟨aw,encI a.next[k],by simp [hk],dd ?_⟩;refine ⟨aw,encI (b.next[k]'aw),by rw [toNat_cast,dP,dM aw];rfl,?_⟩;refine dd ?_;refine ⟨fun h4=>?_,fun h4=>?_⟩
     ·refine dd ?_;refine .inr ⟨aj,uH ?_⟩
      (exact ⟨.inl rfl,_,.refl _,uN (by symm;rw [beq_eq_false_iff_ne];intro e;simp [e] at h4)⟩)
     ·refine dd ?_;refine .inl ⟨rfl,?_,?_⟩
      ·rw [zu aw];exact cE 2
      ·intro j hj hjk;by_cases e:j=k
       ·subst e;simpa using h4
       ·exact hr j hj aw
    ·conv=>whnf
     refine ⟨fun h=>absurd h aj,fun h=>uH ?_⟩;refine ⟨aj,uH ?_⟩
     (exact ⟨.inl rfl,_,.refl _,uN (by symm;rw [gT];exact List.ext_getElem hl fun j h1 h2=>hr j h1 h1)⟩)
def QR:tn 110 [] [.v (.int .u32 0),I 0] (.u1 [U 1,I 0]) []:=
 Dt [] (fun w=>(YtkbnjgogjccmfaaGreat.Kv 0 0 w ar ar ar ar).mono fun e w' ⟨h1,h2⟩=>⟨h1,h2.symm⟩) GY fun E=>.u1 _ _ rfl fun j c y e1 e2=>by
  match j,e1,e2 with
  | 0,e1,e2=>cases e1;cases e2;exact .v _ rfl
  | 1,e1,e2=>cases e1;cases e2;exact .v _ rfl
def vF (n k:Nat):List Int:=(List.range n).map fun i=>if i < k then (i:Int)+1 else 0
def Ai (n:Nat):List Int:=(List.range n).map fun (i:Nat)=>if i+1=n then -1 else (i:Int)+1
def AD (n k:Nat):(vF n k).length=n:=by simp [vF]
def SS {n k:Nat} (h:k < n):(vF n k).set k ((k:Int)+1)=vF n (k+1):=by
 apply g9
 intro j;rw [dY,AD];unfold vF;simp only [dP];by_cases hj:j < n
 ·rw [rk hj];by_cases e:k=j
  ·subst e;simp [h]
  ·simp only [e,if_false,dX];by_cases h2:j < k
   ·simp [h2,show j < k+1 from aw]
   ·simp [h2,show ¬j < k+1 from aw]
 ·rw [pw aA];simp;omega
def Us {n:Nat}:(vF n n).set (n - 1) (-1)=Ai n:=by
 apply g9
 intro j;rw [dY,AD];unfold vF Ai;simp only [dP];by_cases hj:j < n
 ·rw [rk hj];by_cases e:n - 1=j
  ·subst e;simp [show n - 1 < n from aw,show n - 1+1=n from aw]
  ·simp only [e,if_false,dX,hj,if_true,show ¬j+1=n from aw]
 ·rw [pw aA];simp;omega
def Ty {n:Int} (h1:¬(n < 1∨4 < n)):kq n=(⟨1,Ai n.toNat,0⟩,0):=by unfold kq;rw [dN h1];rfl
def H4 (n:Int):tn 91 [] [I n] (tQ (kq n)) []:=by
 refine ab func91 ?_;have hbad:n < 1∨4 < n->kq n=(no,1):=fun h=>by unfold kq;rw [dQ h]
 refine ⟨fun h1=>?_,fun h1=>?_⟩
 ·rw [hbad (.inl tG)];refine dd ?_;exact ⟨.inl rfl,_,zo.var 0 rfl rfl rfl (.cons (.refl _) (.cons (WC.nil 0 1) (.cons (.refl _) .nil))),rfl⟩
 ·refine dd ?_;refine ⟨fun h2=>?_,fun h2=>?_⟩
  ·rw [hbad (.inr tT)];refine dd ?_;exact ⟨.inl rfl,_,zo.var 0 rfl rfl rfl (.cons (.refl _) (.cons (WC.nil 0 1) (.cons (.refl _) .nil))),rfl⟩
  ·have g1:1<=n:=by simp at h1;omega
   have g2:n<=4:=aZ
   rw [Ty aw];obtain ⟨m,rfl⟩:∃ m:Nat,n=m:=⟨n.toNat,aw⟩;rw [toNat_cast];refine dd ?_;refine ⟨rfl,aw,by show (8:Int) * _<=_;omega,aw,dd ?_⟩;refine zZ.seq m (fun k=>(I m::.za::.ref 0 [] 3 0 0::I 0::.ref 2 [] 3 0 0::tZ (.za::.za::.za::.za::.za::I m::I k::tZ (tZ ([.za,.za,.za,.za]))))) (fun k=>[⟨1,136,3,[[U 0,.uv 1 0 [],I 0]],0⟩,⟨2,3,1,(vF m k).map encI,0⟩,⟨1,136,3,[[U 0,.sl 1 [] 1 0 m false,I 0]],0⟩]) (fun _=>True) ?_ trivial (fun k hk _=>?_) (fun _=>?_)
   ·have e1:List.replicate ((m:Int)).toNat [C.v (Value.int .i64 0)]=(vF m 0).map encI:=by
     simp only [toNat_cast];apply g9
     intro j;rw [rT,dP];unfold vF;simp only [dP];split
     ·rename_i hj;rw [rk hj];rfl
     ·rw [pw aA];rfl
    show zo 0 ⟨_,[_,⟨2,3,1,List.replicate ((m:Int)).toNat [C.v (Value.int .i64 0)],0⟩,_]⟩ _;rw [e1];exact cC
   ·have hg:((vF m k).map encI)[k]?= some (encI ((vF m k)[k]'(by rw [AD];exact hk))):=by rw [dP,dM (by rw [AD];exact hk)];rfl
    have hse:((vF m k).map encI).set k [I ((k+1:Nat):Int)]=(vF m (k+1)).map encI:=by rw [<- SS hk,pM];rfl
    conv=>whnf
    refine ⟨fun _=>uH ?_,fun h=>absurd h aA⟩;refine ⟨aw,aA,dd ?_⟩;rw [gp,zu aw,toNat_cast];refine ⟨_,hg,rfl,dd ?_⟩;rw [show List.set (List.map encI (vF m k)) k [C.v (Value.int IntKind.i64 ((k+1:Nat):Int))]=(vF m (k+1)).map encI from hse];refine .inl ⟨rfl,?_,trivial⟩;rw [zu aw];exact cE 3
   ·have hg:((vF m m).map encI)[m - 1]?= some (encI ((vF m m)[m - 1]'(by rw [AD];omega))):=by rw [dP,dM (by rw [AD];omega)];rfl
    have hse:((vF m m).map encI).set (m - 1) [I (-1)]=(Ai m).map encI:=by rw [<- Us,pM];rfl
    have hw:IntKind.i64.wrap ((m:Int) - 1)=((m - 1:Nat):Int):=by rw [q9 aw aw];omega
    have eX:(Ai m).length=m:=by simp [Ai]
    conv=>whnf
    refine ⟨fun h=>absurd h aj,fun _=>uH ?_⟩;refine ⟨aj,uH ?_⟩;rw [hw];refine ⟨aw,aA,dd ?_⟩;rw [gp,toNat_cast];refine ⟨_,hg,rfl,dd ?_⟩;rw [show List.set (List.map encI (vF m m)) (m - 1) [C.v (Value.int IntKind.i64 (-1))]=(Ai m).map encI from hse];refine ah QR ?_
    exact ⟨.inl rfl,_,zo.TX 0 1 rfl rfl rfl (by simp [eX]) (fun r hr c hc=>by
     obtain ⟨n,_,rfl⟩:=gG.1 hr;simp [encI] at hc;subst hc;rfl) rfl rfl,rfl⟩
end Go.Slp
