import Derived.WalkKit
import Derived.Test.YtkbnjgogjccmfaaGreatRows
import Derived.Test.YtkbnjgogjccmfaaGreatSJ
import Derived.Test.YtkbnjgogjccmfaaGreatSC
import Derived.Test.YtkbnjgogjccmfaaGreatProg
set_option linter.all false
set_option maxRecDepth 100000
set_option maxHeartbeats 4000000
namespace Go.Proofs.YtkbnjgogjccmfaaGreat
open Go.RowKit
def WH (t i:Int) (h1:0<=t) (h2:t < 4294967296) (h3: -1<=i) (h4:i<=2147483646):
  bits .or .u64 (t * 4294967296) (i+1)=t * 4294967296+(i+1):=by
 rw [u64_or _ _ aw aw aw aw];obtain ⟨a,rfl⟩:=Int.eq_ofNat_of_zero_le h1;obtain ⟨b,hb⟩:=Int.eq_ofNat_of_zero_le (show 0<=i+1 by omega);rw [hb]
 have u4:b < 2 ^ 32:=by
   have:(b:Int) < 4294967296:=aw
   simpa using (by omega:b < 4294967296)
 have:=Nat.two_pow_add_eq_or_of_lt u4 a;have e:((a:Int) * 4294967296).toNat=2 ^ 32 * a:=aw
 rw [e,uo,<- this];omega
def Lt (t i:Int) (w:World) (h1:0<=t) (h2:t < 4294967296) (h3: -1<=i) (h4:i<=2147483646):
  Calls Tryz.prog 110 #[.int .u32 t,.int .i64 i] w fun e w'=>e=.returned (.tuple #[.int .u64 (t * 4294967296+(i+1)),.int .i64 0])∧w=w':=by
 go_enter Tryz.func110,Tryz.ntmps110
 go_wp2
 go_ret2
 exact ⟨by simp [WH t i h1 h2 h3 h4],rfl⟩
def V4 (x:Int) (w:World) (h1:0<=x) (h2:x < 18446744073709551616):
  Calls Tryz.prog 162 #[.int .u64 x] w fun e w'=>e=.returned (.int .u32 (x / 4294967296))∧w=w':=by
 go_enter Tryz.func162,Tryz.ntmps162
 go_wp2
 go_ret
 exact dJ
def RX (x:Int) (w:World) (h1:0<=x) (h2:x < 18446744073709551616):
  Calls Tryz.prog 103 #[.int .u64 x] w fun e w'=>e=.returned (.int .i64 (x % 4294967296 - 1))∧w=w':=by
 go_enter Tryz.func103,Tryz.ntmps103
 go_wp2
 go_ret
 exact dJ
def To (x i:Int) (w:World) (h1:0<=x) (h2:x < 18446744073709551616) (h3: -1<=i) (h4:i<=2147483646):
  Calls Tryz.prog 116 #[.int .u64 x,.int .i64 i] w fun e w'=>e=.returned (.tuple #[.int .u64 ((x / 4294967296+1) % 4294967296 * 4294967296+(i+1)),.int .i64 0])∧w=w':=by
 go_enter Tryz.func116,Tryz.ntmps116
 go_wp2_with (first | (go_at_call 162;refine (V4 _ _ h1 h2).mono ?_;rintro e w' ⟨rfl,rfl⟩) | (go_at_call 110;refine (Lt _ _ _ aw aw h3 h4).mono ?_;rintro e w' ⟨rfl,rfl⟩))
 go_ret2
 exact dJ
end Go.Proofs.YtkbnjgogjccmfaaGreat
namespace Go.Slp
open Go.Ab Go.Hy
def fU (nx:List Int) (i:Int):Bool:=decide (0<=i) && decide (i < nx.length)
def fA (nx:List Int) (i:Int):Int:=(nx[i.toNat]?).getD 0
def jW (nx:List Int) (i0:Int):Nat->Int
 | 0=>i0
 | k+1=>fA nx (jW nx i0 k)
def xf (nx:List Int) (i0:Int) (k:Nat):List Int:=(List.range k).map (jW nx i0)
def yx (nx:List Int) (i0:Int) (k:Nat):Bool:=!fU nx (jW nx i0 k) || (xf nx i0 k).contains (jW nx i0 k)
def jZ (nx:List Int) (i0:Int):Nat:=((List.range (nx.length+1)).find? (yx nx i0)).getD 0
def fj (nx:List Int) (i0:Int):Bool:=jW nx i0 (jZ nx i0) == -1
def G7:∀ (n:Nat) (l:List Int),l.Nodup->(∀ x ∈ l,0<=x∧x < n)->l.length<=n
 | 0,l,_,h=>by
  cases l with
  | nil=>exact gf _
  | cons x l=>have:=h x (pD ..);omega
 | n+1,l,hd,h=>by
  by_cases hm:(n:Int) ∈ l
  ·have h1:=G7 n (l.erase n) (hd.erase _) fun x hx=>by
    have h2:=h x (List.mem_of_mem_erase hx)
    have h3:x≠n:=fun e=>by
     subst e;exact absurd hx (List.Nodup.not_mem_erase hd)
    omega
   rw [List.length_erase_of_mem hm] at h1;omega
  ·have:=G7 n l hd fun x hx=>by
    have h2:=h x hx;have h3:x≠n:=fun e=>hm (e ▸ hx)
    omega
   omega
def F6 (nx:List Int) (i0:Int) (k:Nat):xf nx i0 (k+1)=xf nx i0 k++[jW nx i0 k]:=by
 simp [xf,uw]
def LF (nx:List Int) (i0:Int) (k:Nat):(xf nx i0 k).length=k:=by simp [xf]
def DK {nx:List Int} {i0:Int}:∀ {k:Nat},(∀ j,j < k->yx nx i0 j=false)->(xf nx i0 k).Nodup∧∀ x ∈ xf nx i0 k,fU nx x=true
 | 0,_=>⟨by simp [xf],by simp [xf]⟩
 | k+1,h=>by
  obtain ⟨h1,h2⟩:=DK (k:=k) fun j hj=>h j aw
  have h3:=h k aw;simp only [yx,pz,p9] at h3;have h4:jW nx i0 k ∉ xf nx i0 k:=aq h3.2
  rw [F6];refine ⟨?_,?_⟩
  ·rw [List.nodup_append];refine ⟨h1,aj,?_⟩;intro a ha b hb e;rw [gM] at hb;subst hb e;exact h4 ha
  ·intro x hx;rcases gJ.1 hx with hx | hx
   ·exact h2 x hx
   ·rw [gM.1 hx];exact h3.1
def yO (nx:List Int) (i0:Int):jZ nx i0<=nx.length∧yx nx i0 (jZ nx i0)=true∧∀ j,j < jZ nx i0->yx nx i0 j=false:=by
 unfold jZ;cases e:(List.range (nx.length+1)).find? (yx nx i0) with
 | none=>
  exfalso
  rw [List.find?_eq_none] at e;have h:∀ j,j < nx.length+1->yx nx i0 j=false:=fun j hj=>by simpa using e j (pN.2 hj)
  obtain ⟨h1,h2⟩:=DK h
  have:=G7 nx.length _ h1 fun x hx=>by
   have:=h2 x hx;simp only [fU,dY,gp] at this;exact dB
  rw [LF] at this;omega
 | some k=>
  rw [List.find?_eq_some_iff_append] at e;obtain ⟨h1,az,bs,h2,h3⟩:=e
  have hk:az.length=k∧k < nx.length+1:=by
   have h4:(List.range (nx.length+1))[az.length]?= some k:=by rw [h2];simp
   have h5:=(dP.1 h4);obtain ⟨h6,h7⟩:=h5;rw [List.getElem_range] at h7;simp at h6;omega
  refine ⟨aA,aq h1,fun j hj=>?_⟩
  have h8:(List.range (nx.length+1))[j]?= some j:=by
   simp at hj;rw [ry aw]
  rw [h2,dX (by simp at hj;omega)] at h8;simpa using h3 j (dS h8)
def F4 {nx:List Int} {i0:Int} {n:Nat} (h1:yx nx i0 n=true) (h2:∀ j,j < n->yx nx i0 j=false):jZ nx i0=n:=by
 obtain ⟨_,h3,h4⟩:=yO nx i0;rcases rI (jZ nx i0) n with h | h | h
 ·rw [h2 _ h] at h3;cases h3
 ·exact h
 ·rw [h4 _ h] at h1;cases h1
abbrev no:En:=⟨0,[],0⟩
def zC (e:En):Int:=e.head % 4294967296 - 1
def qW (x i:Int):Int:=(x / 4294967296+1) % 4294967296 * 4294967296+(i+1)
def qB (e:En):List Int × Int:=if fj e.next (zC e) then (xf e.next (zC e) (jZ e.next (zC e)),0) else ([],11)
def eF (e:En):Bool:=fj e.next (zC e) && decide (1<=e.next.length) && decide (e.next.length<=4) && decide (0<=e.zf)
def Ex (e:En):En × Int × Int:=
 if eF e=false then (no,0,11) else if zC e < 0 then (no,0,5) else (⟨qW e.head (fA e.next (zC e)),e.next,e.zf⟩,zC e,0)
def Eg (e:En) (slot:Int):En × Int:=
 if eF e=false then (no,11) else if slot < 0∨e.next.length<=slot then (no,1) else if (qB e).1.contains slot then (no,4)
 else (⟨qW e.head slot,e.next.set slot.toNat (zC e),e.zf⟩,0)
def kA (n:Int):En × Int:=if n < 1∨4 < n then (no,1) else (⟨1,(List.range n.toNat).map fun (i:Nat)=>if i+1=n.toNat then -1 else (i:Int)+1,0⟩,0)
def TE (e:En): -1<=zC e∧zC e<=4294967294:=by unfold zC;omega
def U5 {nx:List Int} {i0:Int} (h:fj nx i0=true) {k:Nat} (hk:k < jZ nx i0):fU nx (jW nx i0 k)=true∧ -1<=jW nx i0 (k+1)∧jW nx i0 (k+1) < nx.length:=by
 obtain ⟨h1,h2,h3⟩:=yO nx i0;have h4:=h3 k hk;simp only [yx,pz,p9] at h4;refine ⟨h4.1,?_⟩;rcases rz (k+1) (jZ nx i0) with h5 | h5
 ·have h6:=h3 _ h5;simp only [yx,pz,p9,fU,dY,gp] at h6;omega
 ·have e:k+1=jZ nx i0:=by omega
  rw [e];simp only [fj,gT] at h;rw [h];omega
def LH {nx:List Int} {i0:Int} (h:fj nx i0=true) (h0:¬i0 < 0):0 < jZ nx i0:=by
 rcases r6 (jZ nx i0) with e | e
 ·simp only [fj,e,jW,gT] at h;omega
 ·exact e
def oS {e:En} (h:eF e=true):fj e.next (zC e)=true∧1<=e.next.length∧e.next.length<=4∧0<=e.zf:=by
 simp only [eF,dY,gp] at h;exact ⟨h.1.1.1,h.1.1.2,h.1.2,h.2⟩
def LR {e:En} (h:eF e=true) (h0:¬zC e < 0):0<=zC e∧zC e < e.next.length∧ -1<=fA e.next (zC e)∧fA e.next (zC e) < e.next.length:=by
 obtain ⟨h1,h2,h3,h4⟩:=oS h;obtain ⟨h5,h6,h7⟩:=U5 h1 (LH h1 h0);simp only [fU,jW,dY] at h5;exact ⟨gd h5.1,gd h5.2,h6,h7⟩
def yH (nx:List Int) (i0:Int):Nat->List Bool
 | 0=>List.replicate nx.length false
 | k+1=>(yH nx i0 k).set (jW nx i0 k).toNat true
def Lh (nx:List Int) (i0:Int):∀ k,(yH nx i0 k).length=nx.length
 | 0=>by simp [yH]
 | k+1=>by simp [yH,Lh nx i0 k]
def GH {nx:List Int} {i0:Int}:∀ {k:Nat},(∀ j,j < k->fU nx (jW nx i0 j)=true)->∀ {i:Nat},i < nx.length->(yH nx i0 k)[i]?= some ((xf nx i0 k).contains (i:Int))
 | 0,_,i,hi=>by simp [yH,xf,hi]
 | k+1,h,i,hi=>by
  have ih:=GH (k:=k) (fun j hj=>h j aw) hi;have hb:=h k aw;simp only [fU,dY,gp] at hb;rw [F6];simp only [yH];rw [gj,Lh];by_cases e:(jW nx i0 k).toNat=i
  ·rw [dU e,dU aw];have:(i:Int)=jW nx i0 k:=by omega
   simp [this]
  ·rw [dR e,ih];have:¬(i:Int)=jW nx i0 k:=by omega
   simp [this]
end Go.Slp
namespace Go.Slp
open Go.Ab Go.Proofs Tryz Go.Hy
def Ec {x:Int} (h:u64 x):0<=x∧x < 18446744073709551616:=by unfold u64 at h;omega
def qJ (x:Int) (h:u64 x):to 103 [] [U x] (I (x % 4294967296 - 1)) []:=
 Dx [] (fun w=>(YtkbnjgogjccmfaaGreat.RX x w (Ec h).1 (Ec h).2).mono fun e w' ⟨h1,h2⟩=>⟨h1,h2.symm⟩) Wu fun E=>.v _ rfl
abbrev Ev (e:En):C:=.agg (zx e)
abbrev vk (e:En) (k:Nat):List (List C):=(xf e.next (zC e) k).map encI
def OM (e:En) (he:e.ok) (l:Nat) (rec rec':Ob) (rr:C) (rn:Int)
  (hy:∀ k,k < jZ e.next (zC e)->jy prog l ([⟨1,136,3,[zx e],0⟩,⟨1,28,1,[[.u1 1 0 []]],0⟩,⟨1,38,1,[[I 0]],0⟩,⟨1,28,1,[[.gl 5 1 (vk e k)]],0⟩,⟨1,136,3,[zx e],0⟩,⟨4,3,1,(vk e k),0⟩,rec]++[⟨2,4,1,(yH e.next (zC e) (k+1)).map vr,0⟩]) [I (jW e.next (zC e) k)] (Bo true) ([⟨1,136,3,[zx e],0⟩,⟨1,28,1,[[.u1 1 0 []]],0⟩,⟨1,38,1,[[I 0]],0⟩,⟨1,28,1,[[.gl 5 1 (vk e (k+1))]],0⟩,⟨1,136,3,[zx e],0⟩,⟨4,3,1,(vk e (k+1)),0⟩,rec]++[⟨2,4,1,(yH e.next (zC e) (k+1)).map vr,0⟩]))
  (hz:∃ b,jy prog l ([⟨1,136,3,[zx e],0⟩,⟨1,28,1,[[.u1 1 0 []]],0⟩,⟨1,38,1,[[I 0]],0⟩,⟨1,28,1,[[.gl 5 1 (vk e (jZ e.next (zC e)))]],0⟩,⟨1,136,3,[zx e],0⟩,⟨4,3,1,(vk e (jZ e.next (zC e))),0⟩,rec]++[⟨2,4,1,(yH e.next (zC e) (jZ e.next (zC e))).map vr,0⟩]) [I (if fj e.next (zC e) then -1 else -2)] (Bo b) ([⟨1,136,3,[zx e],0⟩,⟨1,28,1,[[rr]],0⟩,⟨1,38,1,[[I rn]],0⟩,⟨1,28,1,[[.gl 5 1 (vk e (jZ e.next (zC e)))]],0⟩,⟨1,136,3,[zx e],0⟩,⟨4,3,1,(vk e (jZ e.next (zC e))),0⟩,rec']++[⟨2,4,1,(yH e.next (zC e) (jZ e.next (zC e))).map vr,0⟩])):
  to 102 [⟨1,136,3,[zx e],0⟩,⟨1,28,1,[[.u1 1 0 []]],0⟩,⟨1,38,1,[[I 0]],0⟩,⟨1,28,1,[[.gl 5 1 (vk e 0)]],0⟩,⟨1,136,3,[zx e],0⟩,⟨4,3,1,(vk e 0),0⟩,rec] [.v (.func (.yield l) #[] #[]),.ref 4 [] 3 0 0] (.u7 []) ([⟨1,136,3,[zx e],0⟩,⟨1,28,1,[[rr]],0⟩,⟨1,38,1,[[I rn]],0⟩,⟨1,28,1,[[.gl 5 1 (vk e (jZ e.next (zC e)))]],0⟩,⟨1,136,3,[zx e],0⟩,⟨4,3,1,(vk e (jZ e.next (zC e))),0⟩,rec']++[⟨2,4,1,(yH e.next (zC e) (jZ e.next (zC e))).map vr,0⟩]):=by
 refine zb.zT (fn:=f102) func102 rfl (uH ?_);have hl:=he.2.1.2;have hlm:(e.next.map encI).length=e.next.length:=dV ..;obtain ⟨c1,c2,c3⟩:=yO e.next (zC e)
 have ji:∀ j,j < jZ e.next (zC e)->fU e.next (jW e.next (zC e) j)=true:=fun j hj=>by
  have:=c3 j hj;simp only [yx,pz,p9] at this;exact this.1
 refine ⟨rfl,aw,by show (1:Int) * _<=_;omega,aw,uH ?_⟩;refine ah (qJ e.head he.1) ?_
 refine zW.seq (jZ e.next (zC e)) (fun k=>(.v (.func (.yield l) #[] #[])::.ref 4 [] 3 0 0::.za::.sl 7 [] 1 0 e.next.length false::I (jW e.next (zC e) k)::hZ (hZ (hZ (hZ ([.za,.za,.za,.za,.za,.za,.za]))))))
  (fun k=>[⟨1,136,3,[zx e],0⟩,⟨1,28,1,[[.u1 1 0 []]],0⟩,⟨1,38,1,[[I 0]],0⟩,⟨1,28,1,[[.gl 5 1 (vk e k)]],0⟩,⟨1,136,3,[zx e],0⟩,⟨4,3,1,(vk e k),0⟩,rec]++[⟨2,4,1,(yH e.next (zC e) k).map vr,0⟩]) (fun _=>True) ?_ trivial (fun k hk _=>?_) (fun _=>?_)
 ·have e1:List.replicate (((e.next.map encI).length:Int)).toNat (List.map fK (Value.bool false).cells.toList)=(yH e.next (zC e) 0).map vr:=by
   simp [yH,vr,fK,Value.cells]
  rw [e1,hlm,toNat_cast];exact cC
 ·have g:=ji k hk;simp only [fU,dY,gp] at g;obtain ⟨g1,g2⟩:=g;have hs:=GH (nx:=e.next) (i0:=zC e) (k:=k) (fun j hj=>ji j aw) (i:=(jW e.next (zC e) k).toNat) aw
  have hv:(xf e.next (zC e) k).contains (((jW e.next (zC e) k).toNat:Nat):Int)=false:=by
   have:=c3 k hk;simp only [yx,pz,p9] at this;rw [pV g1];exact this.2
  rw [hv] at hs;have hyk:=hy k hk
  have hnx:(e.next)[(jW e.next (zC e) k).toNat]?= some (jW e.next (zC e) (k+1)):=by
   show _=some (fA e.next (jW e.next (zC e) k));unfold fA;rw [dQ aw]
   rfl
  have hse:(yH e.next (zC e) (k+1)).map vr=((yH e.next (zC e) k).map vr).set (jW e.next (zC e) k).toNat [Bo true]:=by
   show (List.set _ _ _).map vr=_;rw [pL];rfl
  rw [hse] at hyk;rw [hse];generalize hP:jW e.next (zC e) k=p at *;generalize hQ:jW e.next (zC e) (k+1)=p' at *;conv=>whnf
  refine ⟨fun _=>dd ?_,fun h=>absurd h aA⟩;refine ⟨fun h=>absurd h aA,fun _=>dd ?_⟩;refine ⟨fun h=>absurd h aA,fun _=>dd ?_⟩;refine ⟨g1,aw,uH ?_⟩;refine ⟨[Bo false],by rw [gz,dT,hs];rfl,gf _,?_⟩;refine dd ?_;refine td ?_
  refine ⟨g1,aw,uH ?_⟩;refine ⟨[Bo false],by rw [gz,dT,hs];rfl,rfl,?_⟩;conv=>whnf
  rw [gz];refine ⟨_,_,hyk,dd ?_⟩;refine td ?_
  refine ⟨g1,[I p'],by rw [dT,hnx];rfl,?_⟩;conv=>whnf
  exact .inl ⟨rfl,cC,trivial⟩
 ·generalize hN:jZ e.next (zC e)=N at *;have hsN:∀ {i:Nat},i < e.next.length->(yH e.next (zC e) N)[i]?= some ((xf e.next (zC e) N).contains (i:Int)):=fun h=>GH (nx:=e.next) (i0:=zC e) (k:=N) (fun j hj=>ji j hj) h
  obtain ⟨b,hz⟩:=hz;by_cases hok:fj e.next (zC e)=true
  ·have hp:jW e.next (zC e) N= -1:=by simpa [fj,hN] using hok
   rw [dU hok] at hz;rw [hp];conv=>whnf
   refine ⟨fun h=>absurd h aj,fun _=>uH ?_⟩;refine ⟨aj,uH ?_⟩;refine ⟨_,_,hz,uH ?_⟩;refine ⟨fun _=>?_,fun _=>?_⟩ <;>
   ·conv=>whnf
    exact db
  ·have hp:jW e.next (zC e) N≠ -1:=by intro h;exact hok (by simp [fj,hN,h])
   rw [dR hok] at hz;generalize hP:jW e.next (zC e) N=p at *;conv=>whnf
   refine ⟨fun _=>dd ?_,fun h=>absurd h (by simp;exact hp)⟩;have fin:∀ (X:Prop),X->X:=fun _ h=>h
   refine ⟨fun h1=>?_,fun h1=>?_⟩
   ·refine dd ?_;refine ⟨aj,uH ?_⟩;refine ⟨_,_,hz,uH ?_⟩;refine ⟨fun _=>?_,fun _=>?_⟩ <;>
    ·conv=>whnf
     exact db
   ·refine dd ?_;refine ⟨fun h2=>?_,fun h2=>?_⟩
    ·refine dd ?_;refine ⟨aj,uH ?_⟩;refine ⟨_,_,hz,uH ?_⟩;refine ⟨fun _=>?_,fun _=>?_⟩ <;>
     ·conv=>whnf
      exact db
    ·have g1:0<=p:=by simpa using h1
     have g2:p < e.next.length:=aY
     have hv:(xf e.next (zC e) N).contains (((p.toNat:Nat)):Int)=true:=by
      simp only [yx,hP,pJ,pd,fU,Bool.and_eq_false_iff,pn] at c2;rw [pV g1];rcases c2 with (h | h) | h
      ·exact absurd g1 h
      ·exact absurd g2 h
      ·exact h
     have hs:=hsN (i:=p.toNat) aw;rw [hv] at hs;refine dd ?_;refine ⟨g1,aw,uH ?_⟩;refine ⟨[Bo true],by rw [gz,dT,hs];rfl,gf _,?_⟩;refine dd ?_;refine td ?_
     refine ⟨aj,uH ?_⟩;refine ⟨_,_,hz,uH ?_⟩;refine ⟨fun _=>?_,fun _=>?_⟩ <;>
     ·conv=>whnf
      exact db
def OZ (e:En) (X Y Z W:Ob):to 73 [X,Y,Z,W] [Ev e] (.fn 102 [] [.ref 4 [] 3 0 0]) [X,Y,Z,W,⟨1,136,3,[zx e],0⟩]:=by
 refine zb.zT (fn:=f73) func73 rfl (uH ?_);exact uJ
def IB (e:En) (he:e.ok) (N:Nat) (hN:jZ e.next (zC e)=N) (l:Nat) (rec rec':Ob) (rr:C) (rn:Int) (b:Bool)
  (hy:∀ k,k < N->jy prog l ([⟨1,136,3,[zx e],0⟩,⟨1,28,1,[[.u1 1 0 []]],0⟩,⟨1,38,1,[[I 0]],0⟩,⟨1,28,1,[[.gl 5 1 (vk e k)]],0⟩,⟨1,136,3,[zx e],0⟩,⟨4,3,1,(vk e k),0⟩,rec]++[⟨2,4,1,(yH e.next (zC e) (k+1)).map vr,0⟩]) [I (jW e.next (zC e) k)] (Bo true) ([⟨1,136,3,[zx e],0⟩,⟨1,28,1,[[.u1 1 0 []]],0⟩,⟨1,38,1,[[I 0]],0⟩,⟨1,28,1,[[.gl 5 1 (vk e (k+1))]],0⟩,⟨1,136,3,[zx e],0⟩,⟨4,3,1,(vk e (k+1)),0⟩,rec]++[⟨2,4,1,(yH e.next (zC e) (k+1)).map vr,0⟩]))
  (hz:jy prog l ([⟨1,136,3,[zx e],0⟩,⟨1,28,1,[[.u1 1 0 []]],0⟩,⟨1,38,1,[[I 0]],0⟩,⟨1,28,1,[[.gl 5 1 (vk e N)]],0⟩,⟨1,136,3,[zx e],0⟩,⟨4,3,1,(vk e N),0⟩,rec]++[⟨2,4,1,(yH e.next (zC e) N).map vr,0⟩]) [I (if fj e.next (zC e) then -1 else -2)] (Bo b) ([⟨1,136,3,[zx e],0⟩,⟨1,28,1,[[rr]],0⟩,⟨1,38,1,[[I rn]],0⟩,⟨1,28,1,[[.gl 5 1 (vk e N)]],0⟩,⟨1,136,3,[zx e],0⟩,⟨4,3,1,(vk e N),0⟩,rec']++[⟨2,4,1,(yH e.next (zC e) N).map vr,0⟩])):
  to 102 [⟨1,136,3,[zx e],0⟩,⟨1,28,1,[[.u1 1 0 []]],0⟩,⟨1,38,1,[[I 0]],0⟩,⟨1,28,1,[[.gl 5 1 (vk e 0)]],0⟩,⟨1,136,3,[zx e],0⟩,⟨4,3,1,(vk e 0),0⟩,rec] [.v (.func (.yield l) #[] #[]),.ref 4 [] 3 0 0] (.u7 []) ([⟨1,136,3,[zx e],0⟩,⟨1,28,1,[[rr]],0⟩,⟨1,38,1,[[I rn]],0⟩,⟨1,28,1,[[.gl 5 1 (vk e N)]],0⟩,⟨1,136,3,[zx e],0⟩,⟨4,3,1,(vk e N),0⟩,rec']++[⟨2,4,1,(yH e.next (zC e) N).map vr,0⟩]):=by
 subst hN;exact OM e he l rec rec' rr rn hy ⟨b,hz⟩
abbrev tF (r:List Int × Int):C:=.u7 [lI r.1,I r.2]
def Dg (e:En) (he:e.ok):to 48 [] [Ev e] (tF (qB e)) []:=by
 have hl:=he.2.1.2;obtain ⟨c1,c2,c3⟩:=yO e.next (zC e);generalize hN:jZ e.next (zC e)=N at *;refine ab func48 ?_;refine ⟨_,_,OZ e _ _ _ _,uH ?_⟩;refine ⟨_,zp.nK 3 0 3 1 rfl rfl (.inl rfl) rfl rfl,?_⟩
 have ji:∀ j,j < N->0<=jW e.next (zC e) j:=fun j hj=>by
  have:=c3 j hj;simp only [yx,pz,p9,fU,dY,gp] at this;exact this.1.1
 have hv:∀ k,(vk e k).length=k:=fun k=>by simp [LF]
 have vs:∀ k,vk e (k+1)=vk e k++[[I (jW e.next (zC e) k)]]:=fun k=>by
  show (xf e.next (zC e) (k+1)).map encI=_;rw [F6,pb];rfl
 by_cases hok:fj e.next (zC e)=true
 ·refine ⟨.normal,_,[⟨1,136,3,[zx e],0⟩,⟨1,28,1,[[.u1 1 0 []]],0⟩,⟨1,38,1,[[I 0]],0⟩,⟨1,28,1,[[.gl 5 1 (vk e N)]],0⟩,⟨1,136,3,[zx e],0⟩,⟨4,3,1,vk e N,0⟩],fun l r h1 h2 h3 h4 h5=>⟨_,_,r,IB e he N hN l (ft l r _) (ft l r _) (.u1 1 0 []) 0 true (fun k hk=>?_) ?_,
   rfl,aZ,rfl,gF _,ba,zp.low 6 _ _ rfl rfl rfl⟩,?_⟩
  ·have g:=ji k hk;have hvk:=hv k;refine jy.zT (id:=6) rfl h1 h2 h3 h4 h5 rfl rfl rfl (uH ?_);refine ⟨rfl,rfl,uH ?_⟩;refine ⟨fun h=>absurd h aA,fun _=>uH ?_⟩;refine ⟨fun h=>absurd h aA,fun _=>uH ?_⟩;refine ⟨rfl,.inr rfl,by simp [maxLen,hvk];omega,by show _ * 8<=_;simp [hvk];omega,uH ?_⟩;rw [vs k];exact cS
  ·rw [dU hok];refine jy.zT (id:=6) rfl h1 h2 h3 h4 h5 rfl rfl rfl (uH ?_);refine ⟨rfl,rfl,uH ?_⟩;refine td ?_
   exact cS
  ·have e1:qB e=(xf e.next (zC e) N,0):=by unfold qB;rw [dU hok,hN]
   rw [e1];conv=>whnf
   exact uI
 ·refine ⟨.ret,_,[⟨1,136,3,[zx e],0⟩,⟨1,28,1,[[.u1 1 0 []]],0⟩,⟨1,38,1,[[I 11]],0⟩],fun l r h1 h2 h3 h4 h5=>⟨_,_,left r .ret,IB e he N hN l (ft l r _) (ft l (left r .ret) _) (.u1 1 0 []) 11 false (fun k hk=>?_) ?_,
   rfl,aj,rfl,gF _,trivial,zp.low 3 _ _ rfl rfl rfl⟩,?_⟩
  ·have g:=ji k hk;have hvk:=hv k;refine jy.zT (id:=6) rfl h1 h2 h3 h4 h5 rfl rfl rfl (uH ?_);refine ⟨rfl,rfl,uH ?_⟩;refine ⟨fun h=>absurd h aA,fun _=>uH ?_⟩;refine ⟨fun h=>absurd h aA,fun _=>uH ?_⟩;refine ⟨rfl,.inr rfl,by simp [maxLen,hvk];omega,by show _ * 8<=_;simp [hvk];omega,uH ?_⟩;rw [vs k];exact cS
  ·rw [dR hok];refine jy.zT (id:=6) rfl h1 h2 h3 h4 h5 rfl rfl rfl (uH ?_);refine ⟨rfl,rfl,uH ?_⟩;refine td ?_
   exact ⟨_,_,.refl _,rfl,.inr ⟨rfl,.inl ⟨rfl,rfl⟩⟩⟩
  ·have e1:qB e=([],11):=by unfold qB;rw [dR hok]
   rw [e1];conv=>whnf
   exact ⟨.inl rfl,_,zp.var 1 rfl rfl rfl (.cons (WC.nil 0 1) .nil),rfl⟩
def Vz (e:En):((qB e).2 == 0)=fj e.next (zC e):=by
 unfold qB;cases fj e.next (zC e) <;> simp
def AZ (e:En) (he:e.ok):to 49 [] [Ev e] (Bo (eF e)) []:=by
 have h0:=Vz e;refine ab func49 ?_;refine ah (Dg e he) ?_;refine ⟨fun h1=>?_,fun h1=>?_⟩
 ·rw [show ((qB e).2 == 0)=true from h1] at h0;refine dd ?_;refine ⟨fun h2=>?_,fun h2=>?_⟩
  ·refine dd ?_;refine ⟨fun h3=>?_,fun h3=>?_⟩
   ·refine dd ?_;(repeat' (first | (refine ⟨fun _=>?_,fun _=>?_⟩ <;> (conv=>whnf)) | fail))
    all_goals (rename_i h4;(exact ⟨.inl rfl,_,.refl _,uN (by simp at h2 h3 h4;simp [eF,<- h0];omega)⟩))
   ·refine dd ?_
    (exact ⟨.inl rfl,_,.refl _,uN (by simp at h2 h3;simp [eF,<- h0];omega)⟩)
  ·refine dd ?_
   (exact ⟨.inl rfl,_,.refl _,uN (by simp at h2;simp [eF,<- h0];omega)⟩)
 ·rw [show ((qB e).2 == 0)=false from h1] at h0;refine dd ?_
  (exact ⟨.inl rfl,_,.refl _,uN (by simp [eF,<- h0])⟩)
def Fq (x i:Int) (h:u64 x) (h3: -1<=i) (h4:i<=2147483646):to 116 [] [U x,I i] (.u7 [U (qW x i),I 0]) []:=
 Dx [] (fun w=>(YtkbnjgogjccmfaaGreat.To x i w (Ec h).1 (Ec h).2 h3 h4).mono fun e w' ⟨h1,h2⟩=>⟨h1,h2.symm⟩) Hk fun E=>.u7 _ _ rfl fun j c y e1 e2=>by
  match j,e1,e2 with
  | 0,e1,e2=>cases e1;cases e2;exact .v _ rfl
  | 1,e1,e2=>cases e1;cases e2;exact .v _ rfl
abbrev tQ (r:En × Int):C:=.u7 [Ev r.1,I r.2]
def qy (X Y:Ob) (x:Int) (l:List Int) (hl:l.length < 17592186043904):to 155 [X,Y] [lI (x::l)] (.sl 2 [] 1 0 (0+((l.map encI).length+1)) false) [X,Y,⟨2,3,1,(x::l).map encI,0⟩]:=by
 refine zb.zT (fn:=f155) func155 rfl (uH ?_);refine ⟨aj,uH ?_⟩;refine .inr ⟨.inl rfl,ay,bb,uH ?_⟩;exact uJ
def oR (a b:En):Bool:=a.head == b.head && a.zf == b.zf && a.next == b.next
def Pt (a b:En) (ha:a.ok) (hb:b.ok):to 62 [] [Ev a,Ev b] (Bo (oR a b)) []:=by
 have hal:=ha.2.1.2;have hbl:=hb.2.1.2;refine ab func62 ?_;refine ⟨fun h=>?_,fun h=>?_⟩
 ·refine dd ?_
  (exact ⟨.inl rfl,_,.refl _,uN (by simp [oR];simp at h;simp [h])⟩)
 ·refine dd ?_;refine ⟨fun h2=>?_,fun h2=>?_⟩
  ·refine dd ?_
   (exact ⟨.inl rfl,_,.refl _,uN (by simp [oR];simp at h2;simp [h2])⟩)
  ·refine dd ?_;refine ⟨fun h3=>?_,fun h3=>?_⟩
   ·refine dd ?_
    (exact ⟨.inl rfl,_,.refl _,uN (by simp [oR];intro _ _ e;rw [e] at h3;simp at h3)⟩)
   ·have hl:a.next.length=b.next.length:=by simp at h3;omega
    have e0:oR a b=(a.next == b.next):=by simp at h h2;simp [oR,h,h2]
    rw [e0];refine dd ?_;refine zW.seq a.next.length (fun k=>(.za::.za::.ref 0 [] 3 0 0::.ref 1 [] 3 0 0::Bo false::I k::hZ (hZ (hZ (hZ ([.za,.za,.za,.za,.za,.za,.za])))))) (fun k=>[⟨1,136,3,[zx a],0⟩,⟨1,136,3,[zx b],0⟩]) (fun k=>∀ j,(h:j < a.next.length)->j < k->a.next[j]=b.next[j]'aw) ?_ aj (fun k hk hr=>?_) (fun hr=>?_)
    ·exact cC
    ·conv=>whnf
     refine ⟨fun h=>uH ?_,fun h=>absurd h aA⟩;refine uE ?_;refine ⟨aw,encI a.next[k],by simp [hk],dd ?_⟩;refine ⟨aw,encI (b.next[k]'aw),by rw [toNat_cast,dT,dQ aw];rfl,?_⟩;refine dd ?_;refine ⟨fun h4=>?_,fun h4=>?_⟩
     ·refine dd ?_;refine .inr ⟨aj,uH ?_⟩
      (exact ⟨.inl rfl,_,.refl _,uN (by symm;rw [beq_eq_false_iff_ne];intro e;simp [e] at h4)⟩)
     ·refine dd ?_;refine .inl ⟨rfl,?_,?_⟩
      ·rw [zu aw];exact cE 2
      ·intro j hj hjk;by_cases e:j=k
       ·subst e;simpa using h4
       ·exact hr j hj aw
    ·conv=>whnf
     refine ⟨fun h=>absurd h aj,fun h=>uH ?_⟩;refine ⟨aj,uH ?_⟩
     (exact ⟨.inl rfl,_,.refl _,uN (by symm;rw [gT];exact List.ext_getElem hl fun j h1 h2=>hr j h1 h1)⟩)
def Rd:to 110 [] [.v (.int .u32 0),I 0] (.u7 [U 1,I 0]) []:=
 Dx [] (fun w=>(YtkbnjgogjccmfaaGreat.Lt 0 0 w ar ar ar ar).mono fun e w' ⟨h1,h2⟩=>⟨h1,h2.symm⟩) Hk fun E=>.u7 _ _ rfl fun j c y e1 e2=>by
  match j,e1,e2 with
  | 0,e1,e2=>cases e1;cases e2;exact .v _ rfl
  | 1,e1,e2=>cases e1;cases e2;exact .v _ rfl
def vK (n k:Nat):List Int:=(List.range n).map fun i=>if i < k then (i:Int)+1 else 0
def Ao (n:Nat):List Int:=(List.range n).map fun (i:Nat)=>if i+1=n then -1 else (i:Int)+1
def AQ (n k:Nat):(vK n k).length=n:=by simp [vK]
def Td {n k:Nat} (h:k < n):(vK n k).set k ((k:Int)+1)=vK n (k+1):=by
 apply pq
 intro j;rw [gj,AQ];unfold vK;simp only [dT];by_cases hj:j < n
 ·rw [ry hj];by_cases e:k=j
  ·subst e;simp [h]
  ·simp only [e,if_false,gh];by_cases h2:j < k
   ·simp [h2,show j < k+1 from aw]
   ·simp [h2,show ¬j < k+1 from aw]
 ·rw [pC aA];simp;omega
def UI {n:Nat}:(vK n n).set (n - 1) (-1)=Ao n:=by
 apply pq
 intro j;rw [gj,AQ];unfold vK Ao;simp only [dT];by_cases hj:j < n
 ·rw [ry hj];by_cases e:n - 1=j
  ·subst e;simp [show n - 1 < n from aw,show n - 1+1=n from aw]
  ·simp only [e,if_false,gh,hj,if_true,show ¬j+1=n from aw]
 ·rw [pC aA];simp;omega
def T8 {n:Int} (h1:¬(n < 1∨4 < n)):kA n=(⟨1,Ao n.toNat,0⟩,0):=by unfold kA;rw [dR h1];rfl
def Ip (n:Int):to 91 [] [I n] (tQ (kA n)) []:=by
 refine ab func91 ?_;have hbad:n < 1∨4 < n->kA n=(no,1):=fun h=>by unfold kA;rw [dU h]
 refine ⟨fun h1=>?_,fun h1=>?_⟩
 ·rw [hbad (.inl tH)];refine dd ?_;exact ⟨.inl rfl,_,zp.var 0 rfl rfl rfl (.cons (.refl _) (.cons (WC.nil 0 1) (.cons (.refl _) .nil))),rfl⟩
 ·refine dd ?_;refine ⟨fun h2=>?_,fun h2=>?_⟩
  ·rw [hbad (.inr tU)];refine dd ?_;exact ⟨.inl rfl,_,zp.var 0 rfl rfl rfl (.cons (.refl _) (.cons (WC.nil 0 1) (.cons (.refl _) .nil))),rfl⟩
  ·have g1:1<=n:=by simp at h1;omega
   have g2:n<=4:=aY
   rw [T8 aw];obtain ⟨m,rfl⟩:∃ m:Nat,n=m:=⟨n.toNat,aw⟩;rw [toNat_cast];refine dd ?_;refine ⟨rfl,aw,by show (8:Int) * _<=_;omega,aw,dd ?_⟩;refine zW.seq m (fun k=>(I m::.za::.ref 0 [] 3 0 0::I 0::.ref 2 [] 3 0 0::hZ (.za::.za::.za::.za::.za::I m::I k::hZ (hZ ([.za,.za,.za,.za]))))) (fun k=>[⟨1,136,3,[[U 0,.u1 1 0 [],I 0]],0⟩,⟨2,3,1,(vK m k).map encI,0⟩,⟨1,136,3,[[U 0,.sl 1 [] 1 0 m false,I 0]],0⟩]) (fun _=>True) ?_ trivial (fun k hk _=>?_) (fun _=>?_)
   ·have e1:List.replicate ((m:Int)).toNat [C.v (Value.int .i64 0)]=(vK m 0).map encI:=by
     simp only [toNat_cast];apply pq
     intro j;rw [rY,dT];unfold vK;simp only [dT];split
     ·rename_i hj;rw [ry hj];rfl
     ·rw [pC aA];rfl
    show zp 0 ⟨_,[_,⟨2,3,1,List.replicate ((m:Int)).toNat [C.v (Value.int .i64 0)],0⟩,_]⟩ _;rw [e1];exact cC
   ·have hg:((vK m k).map encI)[k]?= some (encI ((vK m k)[k]'(by rw [AQ];exact hk))):=by rw [dT,dQ (by rw [AQ];exact hk)];rfl
    have hse:((vK m k).map encI).set k [I ((k+1:Nat):Int)]=(vK m (k+1)).map encI:=by rw [<- Td hk,pL];rfl
    conv=>whnf
    refine ⟨fun _=>uH ?_,fun h=>absurd h aA⟩;refine ⟨aw,aA,dd ?_⟩;rw [gz,zu aw,toNat_cast];refine ⟨_,hg,rfl,dd ?_⟩;rw [show List.set (List.map encI (vK m k)) k [C.v (Value.int IntKind.i64 ((k+1:Nat):Int))]=(vK m (k+1)).map encI from hse];refine .inl ⟨rfl,?_,trivial⟩;rw [zu aw];exact cE 3
   ·have hg:((vK m m).map encI)[m - 1]?= some (encI ((vK m m)[m - 1]'(by rw [AQ];omega))):=by rw [dT,dQ (by rw [AQ];omega)];rfl
    have hse:((vK m m).map encI).set (m - 1) [I (-1)]=(Ao m).map encI:=by rw [<- UI,pL];rfl
    have hw:IntKind.i64.wrap ((m:Int) - 1)=((m - 1:Nat):Int):=by rw [jc aw aw];omega
    have fg:(Ao m).length=m:=by simp [Ao]
    conv=>whnf
    refine ⟨fun h=>absurd h aj,fun _=>uH ?_⟩;refine ⟨aj,uH ?_⟩;rw [hw];refine ⟨aw,aA,dd ?_⟩;rw [gz,toNat_cast];refine ⟨_,hg,rfl,dd ?_⟩;rw [show List.set (List.map encI (vK m m)) (m - 1) [C.v (Value.int IntKind.i64 (-1))]=(Ao m).map encI from hse];refine ah Rd ?_
    exact ⟨.inl rfl,_,zp.VA 0 1 rfl rfl rfl (by simp [fg]) (fun r hr c hc=>by
     obtain ⟨n,_,rfl⟩:=gL.1 hr;simp [encI] at hc;subst hc;rfl) rfl rfl,rfl⟩
end Go.Slp
