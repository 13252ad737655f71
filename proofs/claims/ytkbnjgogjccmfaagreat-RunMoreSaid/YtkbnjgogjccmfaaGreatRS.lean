import Derived.WalkKit
import Derived.Test.YtkbnjgogjccmfaaGreatRows
import Derived.Test.YtkbnjgogjccmfaaGreatRJ
import Derived.Test.YtkbnjgogjccmfaaGreatRC
import Derived.Test.YtkbnjgogjccmfaaGreatProg
set_option linter.all false
set_option maxRecDepth 100000
set_option maxHeartbeats 4000000
namespace Go.Proofs.YtkbnjgogjccmfaaGreat
open Go.RowKit
def Ur (t i:Int) (h1:0<=t) (h2:t < 4294967296) (h3: -1<=i) (h4:i<=2147483646):
  bits .or .u64 (t * 4294967296) (i+1)=t * 4294967296+(i+1):=by
 rw [u64_or _ _ aw aw aw aw];obtain ⟨a,rfl⟩:=Int.eq_ofNat_of_zero_le h1;obtain ⟨b,hb⟩:=Int.eq_ofNat_of_zero_le (show 0<=i+1 by omega);rw [hb]
 have uj:b < 2 ^ 32:=by
   have:(b:Int) < 4294967296:=aw
   simpa using (by omega:b < 4294967296)
 have:=Nat.two_pow_add_eq_or_of_lt uj a;have e:((a:Int) * 4294967296).toNat=2 ^ 32 * a:=aw
 rw [e,tY,<- this];omega
def J6 (t i:Int) (w:World) (h1:0<=t) (h2:t < 4294967296) (h3: -1<=i) (h4:i<=2147483646):
  Calls Tryz.prog 110 #[.int .u32 t,.int .i64 i] w fun e w'=>e=.returned (.tuple #[.int .u64 (t * 4294967296+(i+1)),.int .i64 0])∧w=w':=by
 go_enter Tryz.func110,Tryz.ntmps110
 go_wp2
 go_ret2
 exact ⟨by simp [Ur t i h1 h2 h3 h4],rfl⟩
def Th (x:Int) (w:World) (h1:0<=x) (h2:x < 18446744073709551616):
  Calls Tryz.prog 162 #[.int .u64 x] w fun e w'=>e=.returned (.int .u32 (x / 4294967296))∧w=w':=by
 go_enter Tryz.func162,Tryz.ntmps162
 go_wp2
 go_ret
 exact ⟨rfl,rfl⟩
def Qs (x:Int) (w:World) (h1:0<=x) (h2:x < 18446744073709551616):
  Calls Tryz.prog 103 #[.int .u64 x] w fun e w'=>e=.returned (.int .i64 (x % 4294967296 - 1))∧w=w':=by
 go_enter Tryz.func103,Tryz.ntmps103
 go_wp2
 go_ret
 exact ⟨rfl,rfl⟩
def R7 (x i:Int) (w:World) (h1:0<=x) (h2:x < 18446744073709551616) (h3: -1<=i) (h4:i<=2147483646):
  Calls Tryz.prog 116 #[.int .u64 x,.int .i64 i] w fun e w'=>e=.returned (.tuple #[.int .u64 ((x / 4294967296+1) % 4294967296 * 4294967296+(i+1)),.int .i64 0])∧w=w':=by
 go_enter Tryz.func116,Tryz.ntmps116
 go_wp2_with (first | (go_at_call 162;refine (Th _ _ h1 h2).mono ?_;rintro e w' ⟨rfl,rfl⟩) | (go_at_call 110;refine (J6 _ _ _ aw aw h3 h4).mono ?_;rintro e w' ⟨rfl,rfl⟩))
 go_ret2
 exact ⟨rfl,rfl⟩
end Go.Proofs.YtkbnjgogjccmfaaGreat
namespace Go.Slp
open Go.Ab Go.Hy
def fC (nx:List Int) (i:Int):Bool:=decide (0<=i) && decide (i < nx.length)
def eZ (nx:List Int) (i:Int):Int:=(nx[i.toNat]?).getD 0
def jL (nx:List Int) (i0:Int):Nat->Int
 | 0=>i0
 | k+1=>eZ nx (jL nx i0 k)
def jY (nx:List Int) (i0:Int) (k:Nat):List Int:=(List.range k).map (jL nx i0)
def yf (nx:List Int) (i0:Int) (k:Nat):Bool:=!fC nx (jL nx i0 k) || (jY nx i0 k).contains (jL nx i0 k)
def jO (nx:List Int) (i0:Int):Nat:=((List.range (nx.length+1)).find? (yf nx i0)).getD 0
def eP (nx:List Int) (i0:Int):Bool:=jL nx i0 (jO nx i0) == -1
def FP:∀ (n:Nat) (l:List Int),l.Nodup->(∀ x ∈ l,0<=x∧x < n)->l.length<=n
 | 0,l,_,h=>by
  cases l with
  | nil=>exact dU _
  | cons x l=>have:=h x (px ..);omega
 | n+1,l,hd,h=>by
  by_cases hm:(n:Int) ∈ l
  ·have h1:=FP n (l.erase n) (hd.erase _) fun x hx=>by
    have h2:=h x (List.mem_of_mem_erase hx)
    have h3:x≠n:=fun e=>by
     subst e;exact absurd hx (List.Nodup.not_mem_erase hd)
    omega
   rw [List.length_erase_of_mem hm] at h1;omega
  ·have:=FP n l hd fun x hx=>by
    have h2:=h x hx;have h3:x≠n:=fun e=>hm (e ▸ hx)
    omega
   omega
def EO (nx:List Int) (i0:Int) (k:Nat):jY nx i0 (k+1)=jY nx i0 k++[jL nx i0 k]:=by
 simp [jY,ue]
def Kk (nx:List Int) (i0:Int) (k:Nat):(jY nx i0 k).length=k:=by simp [jY]
def CK {nx:List Int} {i0:Int}:∀ {k:Nat},(∀ j,j < k->yf nx i0 j=false)->(jY nx i0 k).Nodup∧∀ x ∈ jY nx i0 k,fC nx x=true
 | 0,_=>⟨by simp [jY],by simp [jY]⟩
 | k+1,h=>by
  obtain ⟨h1,h2⟩:=CK (k:=k) fun j hj=>h j aw
  have h3:=h k aw;simp only [yf,gY,pQ] at h3;have h4:jL nx i0 k ∉ jY nx i0 k:=aq h3.2
  rw [EO];refine ⟨?_,?_⟩
  ·rw [List.nodup_append];refine ⟨h1,aj,?_⟩;intro a ha b hb e;rw [gF] at hb;subst hb e;exact h4 ha
  ·intro x hx;rcases gD.1 hx with hx | hx
   ·exact h2 x hx
   ·rw [gF.1 hx];exact h3.1
def yx (nx:List Int) (i0:Int):jO nx i0<=nx.length∧yf nx i0 (jO nx i0)=true∧∀ j,j < jO nx i0->yf nx i0 j=false:=by
 unfold jO;cases e:(List.range (nx.length+1)).find? (yf nx i0) with
 | none=>
  exfalso
  rw [List.find?_eq_none] at e;have h:∀ j,j < nx.length+1->yf nx i0 j=false:=fun j hj=>by simpa using e j (pD.2 hj)
  obtain ⟨h1,h2⟩:=CK h
  have:=FP nx.length _ h1 fun x hx=>by
   have:=h2 x hx;simp only [fC,dS,dZ] at this;exact dw
  rw [Kk] at this;omega
 | some k=>
  rw [List.find?_eq_some_iff_append] at e;obtain ⟨h1,az,bs,h2,h3⟩:=e
  have hk:az.length=k∧k < nx.length+1:=by
   have h4:(List.range (nx.length+1))[az.length]?= some k:=by rw [h2];simp
   have h5:=(dJ.1 h4);obtain ⟨h6,h7⟩:=h5;rw [List.getElem_range] at h7;simp at h6;omega
  refine ⟨aA,aq h1,fun j hj=>?_⟩
  have h8:(List.range (nx.length+1))[j]?= some j:=by
   simp at hj;rw [rb aw]
  rw [h2,dR (by simp at hj;omega)] at h8;simpa using h3 j (dM h8)
def EN {nx:List Int} {i0:Int} {n:Nat} (h1:yf nx i0 n=true) (h2:∀ j,j < n->yf nx i0 j=false):jO nx i0=n:=by
 obtain ⟨_,h3,h4⟩:=yx nx i0;rcases ru (jO nx i0) n with h | h | h
 ·rw [h2 _ h] at h3;cases h3
 ·exact h
 ·rw [h4 _ h] at h1;cases h1
abbrev no:En:=⟨0,[],0⟩
def zC (e:En):Int:=e.head % 4294967296 - 1
def qT (x i:Int):Int:=(x / 4294967296+1) % 4294967296 * 4294967296+(i+1)
def qx (e:En):List Int × Int:=if eP e.next (zC e) then (jY e.next (zC e) (jO e.next (zC e)),0) else ([],11)
def u5 (e:En):Bool:=eP e.next (zC e) && decide (1<=e.next.length) && decide (e.next.length<=4) && decide (0<=e.zf)
def DA (e:En):En × Int × Int:=
 if u5 e=false then (no,0,11) else if zC e < 0 then (no,0,5) else (⟨qT e.head (eZ e.next (zC e)),e.next,e.zf⟩,zC e,0)
def Dh (e:En) (slot:Int):En × Int:=
 if u5 e=false then (no,11) else if slot < 0∨e.next.length<=slot then (no,1) else if (qx e).1.contains slot then (no,4)
 else (⟨qT e.head slot,e.next.set slot.toNat (zC e),e.zf⟩,0)
def vU (n:Int):En × Int:=if n < 1∨4 < n then (no,1) else (⟨1,(List.range n.toNat).map fun (i:Nat)=>if i+1=n.toNat then -1 else (i:Int)+1,0⟩,0)
def RU (e:En): -1<=zC e∧zC e<=4294967294:=by unfold zC;omega
def T3 {nx:List Int} {i0:Int} (h:eP nx i0=true) {k:Nat} (hk:k < jO nx i0):fC nx (jL nx i0 k)=true∧ -1<=jL nx i0 (k+1)∧jL nx i0 (k+1) < nx.length:=by
 obtain ⟨h1,h2,h3⟩:=yx nx i0;have h4:=h3 k hk;simp only [yf,gY,pQ] at h4;refine ⟨h4.1,?_⟩;rcases rh (k+1) (jO nx i0) with h5 | h5
 ·have h6:=h3 _ h5;simp only [yf,gY,pQ,fC,dS,dZ] at h6;omega
 ·have e:k+1=jO nx i0:=by omega
  rw [e];simp only [eP,gM] at h;rw [h];omega
def Ko {nx:List Int} {i0:Int} (h:eP nx i0=true) (h0:¬i0 < 0):0 < jO nx i0:=by
 rcases rR (jO nx i0) with e | e
 ·simp only [eP,e,jL,gM] at h;omega
 ·exact e
def n7 {e:En} (h:u5 e=true):eP e.next (zC e)=true∧1<=e.next.length∧e.next.length<=4∧0<=e.zf:=by
 simp only [u5,dS,dZ] at h;exact ⟨h.1.1.1,h.1.1.2,h.1.2,h.2⟩
def Kw {e:En} (h:u5 e=true) (h0:¬zC e < 0):0<=zC e∧zC e < e.next.length∧ -1<=eZ e.next (zC e)∧eZ e.next (zC e) < e.next.length:=by
 obtain ⟨h1,h2,h3,h4⟩:=n7 h;obtain ⟨h5,h6,h7⟩:=T3 h1 (Ko h1 h0);simp only [fC,jL,dS] at h5;exact ⟨pn h5.1,pn h5.2,h6,h7⟩
def yo (nx:List Int) (i0:Int):Nat->List Bool
 | 0=>List.replicate nx.length false
 | k+1=>(yo nx i0 k).set (jL nx i0 k).toNat true
def JT (nx:List Int) (i0:Int):∀ k,(yo nx i0 k).length=nx.length
 | 0=>by simp [yo]
 | k+1=>by simp [yo,JT nx i0 k]
def Fz {nx:List Int} {i0:Int}:∀ {k:Nat},(∀ j,j < k->fC nx (jL nx i0 j)=true)->∀ {i:Nat},i < nx.length->(yo nx i0 k)[i]?= some ((jY nx i0 k).contains (i:Int))
 | 0,_,i,hi=>by simp [yo,jY,hi]
 | k+1,h,i,hi=>by
  have ih:=Fz (k:=k) (fun j hj=>h j aw) hi;have hb:=h k aw;simp only [fC,dS,dZ] at hb;rw [EO];simp only [yo];rw [dW,JT];by_cases e:(jL nx i0 k).toNat=i
  ·rw [dO e,dO aw];have:(i:Int)=jL nx i0 k:=by omega
   simp [this]
  ·rw [dL e,ih];have:¬(i:Int)=jL nx i0 k:=by omega
   simp [this]
end Go.Slp
namespace Go.Slp
open Go.Ab Go.Proofs Tryz Go.Hy
def Dc {x:Int} (h:u64 x):0<=x∧x < 18446744073709551616:=by unfold u64 at h;omega
def qE (x:Int) (h:u64 x):tn 103 [] [U x] (I (x % 4294967296 - 1)) []:=
 CP [] (fun w=>(YtkbnjgogjccmfaaGreat.Qs x w (Dc h).1 (Dc h).2).mono fun e w' ⟨h1,h2⟩=>⟨h1,h2.symm⟩) Vi fun E=>.v _ rfl
abbrev Ev (e:En):C:=.agg (zx e)
abbrev vk (e:En) (k:Nat):List (List C):=(jY e.next (zC e) k).map encI
def MW (e:En) (he:e.ok) (l:Nat) (rec rec':Ob) (rr:C) (rn:Int)
  (hy:∀ k,k < jO e.next (zC e)->jn prog l ([⟨1,136,3,[zx e],0⟩,⟨1,28,1,[[.ui 1 0 []]],0⟩,⟨1,38,1,[[I 0]],0⟩,⟨1,28,1,[[.gl 5 1 (vk e k)]],0⟩,⟨1,136,3,[zx e],0⟩,⟨4,3,1,(vk e k),0⟩,rec]++[⟨2,4,1,(yo e.next (zC e) (k+1)).map y7,0⟩]) [I (jL e.next (zC e) k)] (Bo true) ([⟨1,136,3,[zx e],0⟩,⟨1,28,1,[[.ui 1 0 []]],0⟩,⟨1,38,1,[[I 0]],0⟩,⟨1,28,1,[[.gl 5 1 (vk e (k+1))]],0⟩,⟨1,136,3,[zx e],0⟩,⟨4,3,1,(vk e (k+1)),0⟩,rec]++[⟨2,4,1,(yo e.next (zC e) (k+1)).map y7,0⟩]))
  (hz:∃ b,jn prog l ([⟨1,136,3,[zx e],0⟩,⟨1,28,1,[[.ui 1 0 []]],0⟩,⟨1,38,1,[[I 0]],0⟩,⟨1,28,1,[[.gl 5 1 (vk e (jO e.next (zC e)))]],0⟩,⟨1,136,3,[zx e],0⟩,⟨4,3,1,(vk e (jO e.next (zC e))),0⟩,rec]++[⟨2,4,1,(yo e.next (zC e) (jO e.next (zC e))).map y7,0⟩]) [I (if eP e.next (zC e) then -1 else -2)] (Bo b) ([⟨1,136,3,[zx e],0⟩,⟨1,28,1,[[rr]],0⟩,⟨1,38,1,[[I rn]],0⟩,⟨1,28,1,[[.gl 5 1 (vk e (jO e.next (zC e)))]],0⟩,⟨1,136,3,[zx e],0⟩,⟨4,3,1,(vk e (jO e.next (zC e))),0⟩,rec']++[⟨2,4,1,(yo e.next (zC e) (jO e.next (zC e))).map y7,0⟩])):
  tn 102 [⟨1,136,3,[zx e],0⟩,⟨1,28,1,[[.ui 1 0 []]],0⟩,⟨1,38,1,[[I 0]],0⟩,⟨1,28,1,[[.gl 5 1 (vk e 0)]],0⟩,⟨1,136,3,[zx e],0⟩,⟨4,3,1,(vk e 0),0⟩,rec] [.v (.func (.yield l) #[] #[]),.ref 4 [] 3 0 0] (.uo []) ([⟨1,136,3,[zx e],0⟩,⟨1,28,1,[[rr]],0⟩,⟨1,38,1,[[I rn]],0⟩,⟨1,28,1,[[.gl 5 1 (vk e (jO e.next (zC e)))]],0⟩,⟨1,136,3,[zx e],0⟩,⟨4,3,1,(vk e (jO e.next (zC e))),0⟩,rec']++[⟨2,4,1,(yo e.next (zC e) (jO e.next (zC e))).map y7,0⟩]):=by
 refine zb.zS (fn:=f102) func102 rfl (uH ?_);have hl:=he.2.1.2;have hlm:(e.next.map encI).length=e.next.length:=dP ..;obtain ⟨c1,c2,c3⟩:=yx e.next (zC e)
 have jl:∀ j,j < jO e.next (zC e)->fC e.next (jL e.next (zC e) j)=true:=fun j hj=>by
  have:=c3 j hj;simp only [yf,gY,pQ] at this;exact this.1
 refine ⟨rfl,aw,by show (1:Int) * _<=_;omega,aw,uH ?_⟩;refine ah (qE e.head he.1) ?_
 refine z5.seq (jO e.next (zC e)) (fun k=>(.v (.func (.yield l) #[] #[])::.ref 4 [] 3 0 0::.za::.sl 7 [] 1 0 e.next.length false::I (jL e.next (zC e) k)::tZ (tZ (tZ (tZ ([.za,.za,.za,.za,.za,.za,.za]))))))
  (fun k=>[⟨1,136,3,[zx e],0⟩,⟨1,28,1,[[.ui 1 0 []]],0⟩,⟨1,38,1,[[I 0]],0⟩,⟨1,28,1,[[.gl 5 1 (vk e k)]],0⟩,⟨1,136,3,[zx e],0⟩,⟨4,3,1,(vk e k),0⟩,rec]++[⟨2,4,1,(yo e.next (zC e) k).map y7,0⟩]) (fun _=>True) ?_ trivial (fun k hk _=>?_) (fun _=>?_)
 ·have e1:List.replicate (((e.next.map encI).length:Int)).toNat (List.map fI (Value.bool false).cells.toList)=(yo e.next (zC e) 0).map y7:=by
   simp [yo,y7,fI,Value.cells]
  rw [e1,hlm,toNat_cast];exact cC
 ·have g:=jl k hk;simp only [fC,dS,dZ] at g;obtain ⟨g1,g2⟩:=g;have hs:=Fz (nx:=e.next) (i0:=zC e) (k:=k) (fun j hj=>jl j aw) (i:=(jL e.next (zC e) k).toNat) aw
  have hv:(jY e.next (zC e) k).contains (((jL e.next (zC e) k).toNat:Nat):Int)=false:=by
   have:=c3 k hk;simp only [yf,gY,pQ] at this;rw [pM g1];exact this.2
  rw [hv] at hs;have hyk:=hy k hk
  have hnx:(e.next)[(jL e.next (zC e) k).toNat]?= some (jL e.next (zC e) (k+1)):=by
   show _=some (eZ e.next (jL e.next (zC e) k));unfold eZ;rw [dK aw]
   rfl
  have hse:(yo e.next (zC e) (k+1)).map y7=((yo e.next (zC e) k).map y7).set (jL e.next (zC e) k).toNat [Bo true]:=by
   show (List.set _ _ _).map y7=_;rw [pH];rfl
  rw [hse] at hyk;rw [hse];generalize hP:jL e.next (zC e) k=p at *;generalize hQ:jL e.next (zC e) (k+1)=p' at *;conv=>whnf
  refine ⟨fun _=>dd ?_,fun h=>absurd h aA⟩;refine ⟨fun h=>absurd h aA,fun _=>dd ?_⟩;refine ⟨fun h=>absurd h aA,fun _=>dd ?_⟩;refine ⟨g1,aw,uH ?_⟩;refine ⟨[Bo false],by rw [gf,dN,hs];rfl,dU _,?_⟩;refine dd ?_;refine tc ?_
  refine ⟨g1,aw,uH ?_⟩;refine ⟨[Bo false],by rw [gf,dN,hs];rfl,rfl,?_⟩;conv=>whnf
  rw [gf];refine ⟨_,_,hyk,dd ?_⟩;refine tc ?_
  refine ⟨g1,[I p'],by rw [dN,hnx];rfl,?_⟩;conv=>whnf
  exact .inl ⟨rfl,cC,trivial⟩
 ·generalize hN:jO e.next (zC e)=N at *;have hsN:∀ {i:Nat},i < e.next.length->(yo e.next (zC e) N)[i]?= some ((jY e.next (zC e) N).contains (i:Int)):=fun h=>Fz (nx:=e.next) (i0:=zC e) (k:=N) (fun j hj=>jl j hj) h
  obtain ⟨b,hz⟩:=hz;by_cases hok:eP e.next (zC e)=true
  ·have hp:jL e.next (zC e) N= -1:=by simpa [eP,hN] using hok
   rw [dO hok] at hz;rw [hp];conv=>whnf
   refine ⟨fun h=>absurd h aj,fun _=>uH ?_⟩;refine ⟨aj,uH ?_⟩;refine ⟨_,_,hz,uH ?_⟩;refine ⟨fun _=>?_,fun _=>?_⟩ <;>
   ·conv=>whnf
    exact c8
  ·have hp:jL e.next (zC e) N≠ -1:=by intro h;exact hok (by simp [eP,hN,h])
   rw [dL hok] at hz;generalize hP:jL e.next (zC e) N=p at *;conv=>whnf
   refine ⟨fun _=>dd ?_,fun h=>absurd h (by simp;exact hp)⟩;have fin:∀ (X:Prop),X->X:=fun _ h=>h
   refine ⟨fun h1=>?_,fun h1=>?_⟩
   ·refine dd ?_;refine ⟨aj,uH ?_⟩;refine ⟨_,_,hz,uH ?_⟩;refine ⟨fun _=>?_,fun _=>?_⟩ <;>
    ·conv=>whnf
     exact c8
   ·refine dd ?_;refine ⟨fun h2=>?_,fun h2=>?_⟩
    ·refine dd ?_;refine ⟨aj,uH ?_⟩;refine ⟨_,_,hz,uH ?_⟩;refine ⟨fun _=>?_,fun _=>?_⟩ <;>
     ·conv=>whnf
      exact c8
    ·have g1:0<=p:=by simpa using h1
     have g2:p < e.next.length:=aX
     have hv:(jY e.next (zC e) N).contains (((p.toNat:Nat)):Int)=true:=by
      simp only [yf,hP,pB,gR,fC,Bool.and_eq_false_iff,gT] at c2;rw [pM g1];rcases c2 with (h | h) | h
      ·exact absurd g1 h
      ·exact absurd g2 h
      ·exact h
     have hs:=hsN (i:=p.toNat) aw;rw [hv] at hs;refine dd ?_;refine ⟨g1,aw,uH ?_⟩;refine ⟨[Bo true],by rw [gf,dN,hs];rfl,dU _,?_⟩;refine dd ?_;refine tc ?_
     refine ⟨aj,uH ?_⟩;refine ⟨_,_,hz,uH ?_⟩;refine ⟨fun _=>?_,fun _=>?_⟩ <;>
     ·conv=>whnf
      exact c8
def Nr (e:En) (X Y Z W:Ob):tn 73 [X,Y,Z,W] [Ev e] (.fn 102 [] [.ref 4 [] 3 0 0]) [X,Y,Z,W,⟨1,136,3,[zx e],0⟩]:=by
 refine zb.zS (fn:=f73) func73 rfl (uH ?_);exact uJ
def Hb (e:En) (he:e.ok) (N:Nat) (hN:jO e.next (zC e)=N) (l:Nat) (rec rec':Ob) (rr:C) (rn:Int) (b:Bool)
  (hy:∀ k,k < N->jn prog l ([⟨1,136,3,[zx e],0⟩,⟨1,28,1,[[.ui 1 0 []]],0⟩,⟨1,38,1,[[I 0]],0⟩,⟨1,28,1,[[.gl 5 1 (vk e k)]],0⟩,⟨1,136,3,[zx e],0⟩,⟨4,3,1,(vk e k),0⟩,rec]++[⟨2,4,1,(yo e.next (zC e) (k+1)).map y7,0⟩]) [I (jL e.next (zC e) k)] (Bo true) ([⟨1,136,3,[zx e],0⟩,⟨1,28,1,[[.ui 1 0 []]],0⟩,⟨1,38,1,[[I 0]],0⟩,⟨1,28,1,[[.gl 5 1 (vk e (k+1))]],0⟩,⟨1,136,3,[zx e],0⟩,⟨4,3,1,(vk e (k+1)),0⟩,rec]++[⟨2,4,1,(yo e.next (zC e) (k+1)).map y7,0⟩]))
  (hz:jn prog l ([⟨1,136,3,[zx e],0⟩,⟨1,28,1,[[.ui 1 0 []]],0⟩,⟨1,38,1,[[I 0]],0⟩,⟨1,28,1,[[.gl 5 1 (vk e N)]],0⟩,⟨1,136,3,[zx e],0⟩,⟨4,3,1,(vk e N),0⟩,rec]++[⟨2,4,1,(yo e.next (zC e) N).map y7,0⟩]) [I (if eP e.next (zC e) then -1 else -2)] (Bo b) ([⟨1,136,3,[zx e],0⟩,⟨1,28,1,[[rr]],0⟩,⟨1,38,1,[[I rn]],0⟩,⟨1,28,1,[[.gl 5 1 (vk e N)]],0⟩,⟨1,136,3,[zx e],0⟩,⟨4,3,1,(vk e N),0⟩,rec']++[⟨2,4,1,(yo e.next (zC e) N).map y7,0⟩])):
  tn 102 [⟨1,136,3,[zx e],0⟩,⟨1,28,1,[[.ui 1 0 []]],0⟩,⟨1,38,1,[[I 0]],0⟩,⟨1,28,1,[[.gl 5 1 (vk e 0)]],0⟩,⟨1,136,3,[zx e],0⟩,⟨4,3,1,(vk e 0),0⟩,rec] [.v (.func (.yield l) #[] #[]),.ref 4 [] 3 0 0] (.uo []) ([⟨1,136,3,[zx e],0⟩,⟨1,28,1,[[rr]],0⟩,⟨1,38,1,[[I rn]],0⟩,⟨1,28,1,[[.gl 5 1 (vk e N)]],0⟩,⟨1,136,3,[zx e],0⟩,⟨4,3,1,(vk e N),0⟩,rec']++[⟨2,4,1,(yo e.next (zC e) N).map y7,0⟩]):=by
 subst hN;exact MW e he l rec rec' rr rn hy ⟨b,hz⟩
abbrev tF (r:List Int × Int):C:=.uo [lI r.1,I r.2]
def Cj (e:En) (he:e.ok):tn 48 [] [Ev e] (tF (qx e)) []:=by
 have hl:=he.2.1.2;obtain ⟨c1,c2,c3⟩:=yx e.next (zC e);generalize hN:jO e.next (zC e)=N at *;refine ab func48 ?_;refine ⟨_,_,Nr e _ _ _ _,uH ?_⟩;refine ⟨_,zo.mV 3 0 3 1 rfl rfl (.inl rfl) rfl rfl,?_⟩
 have jl:∀ j,j < N->0<=jL e.next (zC e) j:=fun j hj=>by
  have:=c3 j hj;simp only [yf,gY,pQ,fC,dS,dZ] at this;exact this.1.1
 have hv:∀ k,(vk e k).length=k:=fun k=>by simp [Kk]
 have vs:∀ k,vk e (k+1)=vk e k++[[I (jL e.next (zC e) k)]]:=fun k=>by
  show (jY e.next (zC e) (k+1)).map encI=_;rw [EO,pw];rfl
 by_cases hok:eP e.next (zC e)=true
 ·refine ⟨.normal,_,[⟨1,136,3,[zx e],0⟩,⟨1,28,1,[[.ui 1 0 []]],0⟩,⟨1,38,1,[[I 0]],0⟩,⟨1,28,1,[[.gl 5 1 (vk e N)]],0⟩,⟨1,136,3,[zx e],0⟩,⟨4,3,1,vk e N,0⟩],fun l r h1 h2 h3 h4 h5=>⟨_,_,r,Hb e he N hN l (eV l r _) (eV l r _) (.ui 1 0 []) 0 true (fun k hk=>?_) ?_,
   rfl,aY,rfl,gu _,aZ,zo.low 6 _ _ rfl rfl rfl⟩,?_⟩
  ·have g:=jl k hk;have hvk:=hv k;refine jn.zS (id:=6) rfl h1 h2 h3 h4 h5 rfl rfl rfl (uH ?_);refine ⟨rfl,rfl,uH ?_⟩;refine ⟨fun h=>absurd h aA,fun _=>uH ?_⟩;refine ⟨fun h=>absurd h aA,fun _=>uH ?_⟩;refine ⟨rfl,.inr rfl,by simp [maxLen,hvk];omega,by show _ * 8<=_;simp [hvk];omega,uH ?_⟩;rw [vs k];exact cQ
  ·rw [dO hok];refine jn.zS (id:=6) rfl h1 h2 h3 h4 h5 rfl rfl rfl (uH ?_);refine ⟨rfl,rfl,uH ?_⟩;refine tc ?_
   exact cQ
  ·have e1:qx e=(jY e.next (zC e) N,0):=by unfold qx;rw [dO hok,hN]
   rw [e1];conv=>whnf
   exact uI
 ·refine ⟨.ret,_,[⟨1,136,3,[zx e],0⟩,⟨1,28,1,[[.ui 1 0 []]],0⟩,⟨1,38,1,[[I 11]],0⟩],fun l r h1 h2 h3 h4 h5=>⟨_,_,left r .ret,Hb e he N hN l (eV l r _) (eV l (left r .ret) _) (.ui 1 0 []) 11 false (fun k hk=>?_) ?_,
   rfl,aj,rfl,gu _,trivial,zo.low 3 _ _ rfl rfl rfl⟩,?_⟩
  ·have g:=jl k hk;have hvk:=hv k;refine jn.zS (id:=6) rfl h1 h2 h3 h4 h5 rfl rfl rfl (uH ?_);refine ⟨rfl,rfl,uH ?_⟩;refine ⟨fun h=>absurd h aA,fun _=>uH ?_⟩;refine ⟨fun h=>absurd h aA,fun _=>uH ?_⟩;refine ⟨rfl,.inr rfl,by simp [maxLen,hvk];omega,by show _ * 8<=_;simp [hvk];omega,uH ?_⟩;rw [vs k];exact cQ
  ·rw [dL hok];refine jn.zS (id:=6) rfl h1 h2 h3 h4 h5 rfl rfl rfl (uH ?_);refine ⟨rfl,rfl,uH ?_⟩;refine tc ?_
   exact ⟨_,_,.refl _,rfl,.inr ⟨rfl,.inl ⟨rfl,rfl⟩⟩⟩
  ·have e1:qx e=([],11):=by unfold qx;rw [dL hok]
   rw [e1];conv=>whnf
   exact ⟨.inl rfl,_,zo.var 1 rfl rfl rfl (.cons (WC.nil 0 1) .nil),rfl⟩
def TM (e:En):((qx e).2 == 0)=eP e.next (zC e):=by
 unfold qx;cases eP e.next (zC e) <;> simp
def wX (e:En) (he:e.ok):tn 49 [] [Ev e] (Bo (u5 e)) []:=by
 have h0:=TM e;refine ab func49 ?_;refine ah (Cj e he) ?_;refine ⟨fun h1=>?_,fun h1=>?_⟩
 ·rw [show ((qx e).2 == 0)=true from h1] at h0;refine dd ?_;refine ⟨fun h2=>?_,fun h2=>?_⟩
  ·refine dd ?_;refine ⟨fun h3=>?_,fun h3=>?_⟩
   ·refine dd ?_;(repeat' (first | (refine ⟨fun _=>?_,fun _=>?_⟩ <;> (conv=>whnf)) | fail))
    all_goals (rename_i h4;(exact ⟨.inl rfl,_,.refl _,uN (by simp at h2 h3 h4;simp [u5,<- h0];omega)⟩))
   ·refine dd ?_
    (exact ⟨.inl rfl,_,.refl _,uN (by simp at h2 h3;simp [u5,<- h0];omega)⟩)
  ·refine dd ?_
   (exact ⟨.inl rfl,_,.refl _,uN (by simp at h2;simp [u5,<- h0];omega)⟩)
 ·rw [show ((qx e).2 == 0)=false from h1] at h0;refine dd ?_
  (exact ⟨.inl rfl,_,.refl _,uN (by simp [u5,<- h0])⟩)
def D7 (x i:Int) (h:u64 x) (h3: -1<=i) (h4:i<=2147483646):tn 116 [] [U x,I i] (.uo [U (qT x i),I 0]) []:=
 CP [] (fun w=>(YtkbnjgogjccmfaaGreat.R7 x i w (Dc h).1 (Dc h).2 h3 h4).mono fun e w' ⟨h1,h2⟩=>⟨h1,h2.symm⟩) F1 fun E=>.uo _ _ rfl fun j c y e1 e2=>by
  match j,e1,e2 with
  | 0,e1,e2=>cases e1;cases e2;exact .v _ rfl
  | 1,e1,e2=>cases e1;cases e2;exact .v _ rfl
abbrev tQ (r:En × Int):C:=.uo [Ev r.1,I r.2]
def qt (X Y:Ob) (x:Int) (l:List Int) (hl:l.length < 17592186043904):tn 155 [X,Y] [lI (x::l)] (.sl 2 [] 1 0 (0+((l.map encI).length+1)) false) [X,Y,⟨2,3,1,(x::l).map encI,0⟩]:=by
 refine zb.zS (fn:=f155) func155 rfl (uH ?_);refine ⟨aj,uH ?_⟩;refine .inr ⟨.inl rfl,ay,ba,uH ?_⟩;exact uJ
def n8 (a b:En):Bool:=a.head == b.head && a.zf == b.zf && a.next == b.next
def NX (a b:En) (ha:a.ok) (hb:b.ok):tn 62 [] [Ev a,Ev b] (Bo (n8 a b)) []:=by
 have hal:=ha.2.1.2;have hbl:=hb.2.1.2;refine ab func62 ?_;refine ⟨fun h=>?_,fun h=>?_⟩
 ·refine dd ?_
  (exact ⟨.inl rfl,_,.refl _,uN (by simp [n8];simp at h;simp [h])⟩)
 ·refine dd ?_;refine ⟨fun h2=>?_,fun h2=>?_⟩
  ·refine dd ?_
   (exact ⟨.inl rfl,_,.refl _,uN (by simp [n8];simp at h2;simp [h2])⟩)
  ·refine dd ?_;refine ⟨fun h3=>?_,fun h3=>?_⟩
   ·refine dd ?_
    (exact ⟨.inl rfl,_,.refl _,uN (by simp [n8];intro _ _ e;rw [e] at h3;simp at h3)⟩)
   ·have hl:a.next.length=b.next.length:=by simp at h3;omega
    have e0:n8 a b=(a.next == b.next):=by simp at h h2;simp [n8,h,h2]
    rw [e0];refine dd ?_;refine z5.seq a.next.length (fun k=>(.za::.za::.ref 0 [] 3 0 0::.ref 1 [] 3 0 0::Bo false::I k::tZ (tZ (tZ (tZ ([.za,.za,.za,.za,.za,.za,.za])))))) (fun k=>[⟨1,136,3,[zx a],0⟩,⟨1,136,3,[zx b],0⟩]) (fun k=>∀ j,(h:j < a.next.length)->j < k->a.next[j]=b.next[j]'aw) ?_ aj (fun k hk hr=>?_) (fun hr=>?_)
    ·exact cC
    ·conv=>whnf
     refine ⟨fun h=>uH ?_,fun h=>absurd h aA⟩;refine uE ?_;refine ⟨aw,encI a.next[k],by simp [hk],dd ?_⟩;refine ⟨aw,encI (b.next[k]'aw),by rw [toNat_cast,dN,dK aw];rfl,?_⟩;refine dd ?_;refine ⟨fun h4=>?_,fun h4=>?_⟩
     ·refine dd ?_;refine .inr ⟨aj,uH ?_⟩
      (exact ⟨.inl rfl,_,.refl _,uN (by symm;rw [beq_eq_false_iff_ne];intro e;simp [e] at h4)⟩)
     ·refine dd ?_;refine .inl ⟨rfl,?_,?_⟩
      ·rw [zu aw];exact cE 2
      ·intro j hj hjk;by_cases e:j=k
       ·subst e;simpa using h4
       ·exact hr j hj aw
    ·conv=>whnf
     refine ⟨fun h=>absurd h aj,fun h=>uH ?_⟩;refine ⟨aj,uH ?_⟩
     (exact ⟨.inl rfl,_,.refl _,uN (by symm;rw [gM];exact List.ext_getElem hl fun j h1 h2=>hr j h1 h1)⟩)
def OZ:tn 110 [] [.v (.int .u32 0),I 0] (.uo [U 1,I 0]) []:=
 CP [] (fun w=>(YtkbnjgogjccmfaaGreat.J6 0 0 w ar ar ar ar).mono fun e w' ⟨h1,h2⟩=>⟨h1,h2.symm⟩) F1 fun E=>.uo _ _ rfl fun j c y e1 e2=>by
  match j,e1,e2 with
  | 0,e1,e2=>cases e1;cases e2;exact .v _ rfl
  | 1,e1,e2=>cases e1;cases e2;exact .v _ rfl
def vu (n k:Nat):List Int:=(List.range n).map fun i=>if i < k then (i:Int)+1 else 0
def oU (n:Nat):List Int:=(List.range n).map fun (i:Nat)=>if i+1=n then -1 else (i:Int)+1
def Ai (n k:Nat):(vu n k).length=n:=by simp [vu]
def RE {n k:Nat} (h:k < n):(vu n k).set k ((k:Int)+1)=vu n (k+1):=by
 apply gU
 intro j;rw [dW,Ai];unfold vu;simp only [dN];by_cases hj:j < n
 ·rw [rb hj];by_cases e:k=j
  ·subst e;simp [h]
  ·simp only [e,if_false,dV];by_cases h2:j < k
   ·simp [h2,show j < k+1 from aw]
   ·simp [h2,show ¬j < k+1 from aw]
 ·rw [pj aA];simp;omega
def S5 {n:Nat}:(vu n n).set (n - 1) (-1)=oU n:=by
 apply gU
 intro j;rw [dW,Ai];unfold vu oU;simp only [dN];by_cases hj:j < n
 ·rw [rb hj];by_cases e:n - 1=j
  ·subst e;simp [show n - 1 < n from aw,show n - 1+1=n from aw]
  ·simp only [e,if_false,dV,hj,if_true,show ¬j+1=n from aw]
 ·rw [pj aA];simp;omega
def Sp {n:Int} (h1:¬(n < 1∨4 < n)):vU n=(⟨1,oU n.toNat,0⟩,0):=by unfold vU;rw [dL h1];rfl
def G7 (n:Int):tn 91 [] [I n] (tQ (vU n)) []:=by
 refine ab func91 ?_;have hbad:n < 1∨4 < n->vU n=(no,1):=fun h=>by unfold vU;rw [dO h]
 refine ⟨fun h1=>?_,fun h1=>?_⟩
 ·rw [hbad (.inl tG)];refine dd ?_;exact ⟨.inl rfl,_,zo.var 0 rfl rfl rfl (.cons (.refl _) (.cons (WC.nil 0 1) (.cons (.refl _) .nil))),rfl⟩
 ·refine dd ?_;refine ⟨fun h2=>?_,fun h2=>?_⟩
  ·rw [hbad (.inr tT)];refine dd ?_;exact ⟨.inl rfl,_,zo.var 0 rfl rfl rfl (.cons (.refl _) (.cons (WC.nil 0 1) (.cons (.refl _) .nil))),rfl⟩
  ·have g1:1<=n:=by simp at h1;omega
   have g2:n<=4:=aX
   rw [Sp aw];obtain ⟨m,rfl⟩:∃ m:Nat,n=m:=⟨n.toNat,aw⟩;rw [toNat_cast];refine dd ?_;refine ⟨rfl,aw,by show (8:Int) * _<=_;omega,aw,dd ?_⟩;refine z5.seq m (fun k=>(I m::.za::.ref 0 [] 3 0 0::I 0::.ref 2 [] 3 0 0::tZ (.za::.za::.za::.za::.za::I m::I k::tZ (tZ ([.za,.za,.za,.za]))))) (fun k=>[⟨1,136,3,[[U 0,.ui 1 0 [],I 0]],0⟩,⟨2,3,1,(vu m k).map encI,0⟩,⟨1,136,3,[[U 0,.sl 1 [] 1 0 m false,I 0]],0⟩]) (fun _=>True) ?_ trivial (fun k hk _=>?_) (fun _=>?_)
   ·have e1:List.replicate ((m:Int)).toNat [C.v (Value.int .i64 0)]=(vu m 0).map encI:=by
     simp only [toNat_cast];apply gU
     intro j;rw [rM,dN];unfold vu;simp only [dN];split
     ·rename_i hj;rw [rb hj];rfl
     ·rw [pj aA];rfl
    show zo 0 ⟨_,[_,⟨2,3,1,List.replicate ((m:Int)).toNat [C.v (Value.int .i64 0)],0⟩,_]⟩ _;rw [e1];exact cC
   ·have hg:((vu m k).map encI)[k]?= some (encI ((vu m k)[k]'(by rw [Ai];exact hk))):=by rw [dN,dK (by rw [Ai];exact hk)];rfl
    have hse:((vu m k).map encI).set k [I ((k+1:Nat):Int)]=(vu m (k+1)).map encI:=by rw [<- RE hk,pH];rfl
    conv=>whnf
    refine ⟨fun _=>uH ?_,fun h=>absurd h aA⟩;refine ⟨aw,aA,dd ?_⟩;rw [gf,zu aw,toNat_cast];refine ⟨_,hg,rfl,dd ?_⟩;rw [show List.set (List.map encI (vu m k)) k [C.v (Value.int IntKind.i64 ((k+1:Nat):Int))]=(vu m (k+1)).map encI from hse];refine .inl ⟨rfl,?_,trivial⟩;rw [zu aw];exact cE 3
   ·have hg:((vu m m).map encI)[m - 1]?= some (encI ((vu m m)[m - 1]'(by rw [Ai];omega))):=by rw [dN,dK (by rw [Ai];omega)];rfl
    have hse:((vu m m).map encI).set (m - 1) [I (-1)]=(oU m).map encI:=by rw [<- S5,pH];rfl
    have hw:IntKind.i64.wrap ((m:Int) - 1)=((m - 1:Nat):Int):=by rw [qZ aw aw];omega
    have eL:(oU m).length=m:=by simp [oU]
    conv=>whnf
    refine ⟨fun h=>absurd h aj,fun _=>uH ?_⟩;refine ⟨aj,uH ?_⟩;rw [hw];refine ⟨aw,aA,dd ?_⟩;rw [gf,toNat_cast];refine ⟨_,hg,rfl,dd ?_⟩;rw [show List.set (List.map encI (vu m m)) (m - 1) [C.v (Value.int IntKind.i64 (-1))]=(oU m).map encI from hse];refine ah OZ ?_
    exact ⟨.inl rfl,_,zo.TN 0 1 rfl rfl rfl (by simp [eL]) (fun r hr c hc=>by
     obtain ⟨n,_,rfl⟩:=gC.1 hr;simp [encI] at hc;subst hc;rfl) rfl rfl,rfl⟩
end Go.Slp
