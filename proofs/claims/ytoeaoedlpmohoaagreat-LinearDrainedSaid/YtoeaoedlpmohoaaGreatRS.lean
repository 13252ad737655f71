import Derived.WalkKit
import Derived.Test.YtoeaoedlpmohoaaGreatRows
import Derived.Test.YtoeaoedlpmohoaaGreatRJ
import Derived.Test.YtoeaoedlpmohoaaGreatRC
import Derived.Test.YtoeaoedlpmohoaaGreatProg
set_option linter.all false
set_option maxRecDepth 100000
set_option maxHeartbeats 4000000
namespace Go.Proofs.YtoeaoedlpmohoaaGreat
open Go.RowKit
def ZI(t i:Int)(h1:0<=t)(h2:t<4294967296)(h3: -1<=i)(h4:i<=2147483646):
  bits .or .u64 (t*4294967296) (i+1)=t*4294967296+(i+1):=by
 rw[u64_or _ _ aw aw aw aw];obtain⟨a,rfl⟩:=Int.eq_ofNat_of_zero_le h1;obtain⟨b,hb⟩:=Int.eq_ofNat_of_zero_le (show 0<=i+1 by omega);rw[hb]
 have ft:b<2 ^ 32:=by
   have:(b:Int)<4294967296:=aw
   simpa using (by omega:b<4294967296)
 have:=Nat.two_pow_add_eq_or_of_lt ft a;have e:((a:Int)*4294967296).toNat=2 ^ 32*a:=aw
 rw[e,pP,<-this];omega
def NG(t i:Int)(w:World)(h1:0<=t)(h2:t<4294967296)(h3: -1<=i)(h4:i<=2147483646):
  Calls Tryz.prog 147 #[.int .u32 t,.int .i64 i] w λe w'=>e=.returned (.tuple #[.int .u64 (t*4294967296+(i+1)),.int .i64 0])/\w=w':=by
 go_enter Tryz.func147,Tryz.ntmps147
 go_wp2
 go_ret2
 exact⟨by simp[ZI t i h1 h2 h3 h4],rfl⟩
def YZ(x:Int)(w:World)(h1:0<=x)(h2:x<18446744073709551616):
  Calls Tryz.prog 205 #[.int .u64 x] w λe w'=>e=.returned (.int .u32 (x / 4294967296))/\w=w':=by
 go_enter Tryz.func205,Tryz.ntmps205
 go_wp2
 go_ret
 exact⟨rfl,rfl⟩
def UY(x:Int)(w:World)(h1:0<=x)(h2:x<18446744073709551616):
  Calls Tryz.prog 75 #[.int .u64 x] w λe w'=>e=.returned (.int .i64 (x%4294967296-1))/\w=w':=by
 go_enter Tryz.func75,Tryz.ntmps75
 go_wp2
 go_ret
 exact⟨rfl,rfl⟩
def XM(x i:Int)(w:World)(h1:0<=x)(h2:x<18446744073709551616)(h3: -1<=i)(h4:i<=2147483646):
  Calls Tryz.prog 154 #[.int .u64 x,.int .i64 i] w λe w'=>e=.returned (.tuple #[.int .u64 ((x / 4294967296+1)%4294967296*4294967296+(i+1)),.int .i64 0])/\w=w':=by
 go_enter Tryz.func154,Tryz.ntmps154
 go_wp2_with (first|(go_at_call 205;refine(YZ _ _ h1 h2).mono ?_;rintro e w' ⟨rfl,rfl⟩)|(go_at_call 147;refine(NG _ _ _ aw aw h3 h4).mono ?_;rintro e w' ⟨rfl,rfl⟩))
 go_ret2
 exact⟨rfl,rfl⟩
end Go.Proofs.YtoeaoedlpmohoaaGreat
namespace Go.Slp
open Go.Ab Go.Hy
def iX(nx:List Int)(i:Int):Bool:=decide (0<=i) && decide (i<nx.length)
def iH(nx:List Int)(i:Int):Int:=(nx[i.toNat]?).getD 0
def j0(nx:List Int)(i0:Int):Nat->Int
 |0=>i0
 |k+1=>iH nx (j0 nx i0 k)
def xd(nx:List Int)(i0:Int)(k:Nat):List Int:=(List.range k).map (j0 nx i0)
def yx(nx:List Int)(i0:Int)(k:Nat):Bool:=!iX nx (j0 nx i0 k) || (xd nx i0 k).contains (j0 nx i0 k)
def j5(nx:List Int)(i0:Int):Nat:=((List.range (nx.length+1)).find? (yx nx i0)).getD 0
def iy(nx:List Int)(i0:Int):Bool:=j0 nx i0 (j5 nx i0) == -1
def Jn:∀(n:Nat) (l:List Int),l.Nodup->(∀x∈l,0<=x/\x<n)->l.length<=n
 |0,l,_,h=>by
  cases l with
  |nil=>exact gJ _
  |cons x l=>have:=h x (rh ..);omega
 |n+1,l,hd,h=>by
  by_cases hm:(n:Int)∈l
  ·have h1:=Jn n (l.erase n) (hd.erase _) λx hx=>by
    have h2:=h x (List.mem_of_mem_erase hx)
    have h3:x≠n:=λe=>by
     subst e;exact absurd hx (List.Nodup.not_mem_erase hd)
    omega
   rw[List.length_erase_of_mem hm]at h1;omega
  ·have:=Jn n l hd λx hx=>by
    have h2:=h x hx;have h3:x≠n:=λe=>hm (e ▸ hx)
    omega
   omega
def Iy(nx:List Int)(i0:Int)(k:Nat):xd nx i0 (k+1)=xd nx i0 k++[j0 nx i0 k]:=by
 simp[xd,fk]
def Ol(nx:List Int)(i0:Int)(k:Nat):(xd nx i0 k).length=k:=by simp[xd]
def FE{nx:List Int}{i0:Int}:∀{k:Nat},(∀j,j<k->yx nx i0 j=false)->(xd nx i0 k).Nodup/\∀x∈xd nx i0 k,iX nx x=true
 |0,_=>⟨by simp[xd],by simp[xd]⟩
 |k+1,h=>by
  obtain⟨h1,h2⟩:=FE (k:=k) λj hj=>h j aw
  have h3:=h k aw;simp only[yx,pX,rS]at h3;have h4:j0 nx i0 k∉xd nx i0 k:=aq h3.2
  rw[Iy];refine⟨?_,?_⟩
  ·rw[List.nodup_append];refine⟨h1,aj,?_⟩;intro a ha b hb e;rw[gS]at hb;subst hb e;exact h4 ha
  ·intro x hx;rcases gT.1 hx with hx|hx
   ·exact h2 x hx
   ·rw[gS.1 hx];exact h3.1
def yT(nx:List Int)(i0:Int):j5 nx i0<=nx.length/\yx nx i0 (j5 nx i0)=true/\∀j,j<j5 nx i0->yx nx i0 j=false:=by
 unfold j5;cases e:(List.range (nx.length+1)).find? (yx nx i0) with
 |none=>
  exfalso
  rw[List.find?_eq_none]at e;have h:∀j,j<nx.length+1->yx nx i0 j=false:=λj hj=>by simpa using e j (rC.2 hj)
  obtain⟨h1,h2⟩:=FE h
  have:=Jn nx.length _ h1 λx hx=>by
   have:=h2 x hx;simp only[iX,gH,gQ]at this;exact dM
  rw[Ol]at this;omega
 |some k=>
  rw[List.find?_eq_some_iff_append]at e;obtain⟨h1,az,bs,h2,h3⟩:=e
  have hk:az.length=k/\k<nx.length+1:=by
   have h4:(List.range (nx.length+1))[az.length]?=some k:=by rw[h2];simp
   have h5:=(gm.1 h4);obtain⟨h6,h7⟩:=h5;rw[List.getElem_range]at h7;simp at h6;omega
  refine⟨aA,aq h1,λj hj=>?_⟩
  have h8:(List.range (nx.length+1))[j]?=some j:=by
   simp at hj;rw[r7 aw]
  rw[h2,gG (by simp at hj;omega)]at h8;simpa using h3 j (gA h8)
def Ip{nx:List Int}{i0:Int}{n:Nat}(h1:yx nx i0 n=true)(h2:∀j,j<n->yx nx i0 j=false):j5 nx i0=n:=by
 obtain⟨_,h3,h4⟩:=yT nx i0;rcases sf (j5 nx i0) n with h|h|h
 ·rw[h2 _ h]at h3;cases h3
 ·exact h
 ·rw[h4 _ h]at h1;cases h1
abbrev no:En:=⟨0,[],0⟩
def zD(e:En):Int:=e.head%4294967296-1
def je(x i:Int):Int:=(x / 4294967296+1)%4294967296*4294967296+(i+1)
def qF(e:En):List Int×Int:=if iy e.next (zD e) then (xd e.next (zD e) (j5 e.next (zD e)),0) else ([],11)
def fP(e:En):Bool:=iy e.next (zD e) && decide (1<=e.next.length) && decide (e.next.length<=4) && decide (0<=e.zi)
def GM(e:En):En×Int×Int:=
 if fP e=false then (no,0,11) else if zD e<0 then (no,0,5) else (⟨je e.head (iH e.next (zD e)),e.next,e.zi⟩,zD e,0)
def Gj(e:En)(slot:Int):En×Int:=
 if fP e=false then (no,11) else if slot<0\/e.next.length<=slot then (no,1) else if (qF e).1.contains slot then (no,4)
 else (⟨je e.head slot,e.next.set slot.toNat (zD e),e.zi⟩,0)
def kO(n:Int):En×Int:=if n<1\/4<n then (no,1) else (⟨1,(List.range n.toNat).map λ(i:Nat)=>if i+1=n.toNat then -1 else (i:Int)+1,0⟩,0)
def WG(e:En): -1<=zD e/\zD e<=4294967294:=by unfold zD;omega
def Y8{nx:List Int}{i0:Int}(h:iy nx i0=true){k:Nat}(hk:k<j5 nx i0):iX nx (j0 nx i0 k)=true/\ -1<=j0 nx i0 (k+1)/\j0 nx i0 (k+1)<nx.length:=by
 obtain⟨h1,h2,h3⟩:=yT nx i0;have h4:=h3 k hk;simp only[yx,pX,rS]at h4;refine⟨h4.1,?_⟩;rcases pY (k+1) (j5 nx i0) with h5|h5
 ·have h6:=h3 _ h5;simp only[yx,pX,rS,iX,gH,gQ]at h6;omega
 ·have e:k+1=j5 nx i0:=by omega
  rw[e];simp only[iy,pH]at h;rw[h];omega
def N3{nx:List Int}{i0:Int}(h:iy nx i0=true)(h0:¬i0<0):0<j5 nx i0:=by
 rcases sT (j5 nx i0) with e|e
 ·simp only[iy,e,j0,pH]at h;omega
 ·exact e
def Bj{e:En}(h:fP e=true):iy e.next (zD e)=true/\1<=e.next.length/\e.next.length<=4/\0<=e.zi:=by
 simp only[fP,gH,gQ]at h;exact⟨h.1.1.1,h.1.1.2,h.1.2,h.2⟩
def Oa{e:En}(h:fP e=true)(h0:¬zD e<0):0<=zD e/\zD e<e.next.length/\ -1<=iH e.next (zD e)/\iH e.next (zD e)<e.next.length:=by
 obtain⟨h1,h2,h3,h4⟩:=Bj h;obtain⟨h5,h6,h7⟩:=Y8 h1 (N3 h1 h0);simp only[iX,j0,gH]at h5;exact⟨pA h5.1,pA h5.2,h6,h7⟩
def yC(nx:List Int)(i0:Int):Nat->List Bool
 |0=>List.replicate nx.length false
 |k+1=>(yC nx i0 k).set (j0 nx i0 k).toNat true
def Nv(nx:List Int)(i0:Int):∀k,(yC nx i0 k).length=nx.length
 |0=>by simp[yC]
 |k+1=>by simp[yC,Nv nx i0 k]
def ID{nx:List Int}{i0:Int}:∀{k:Nat},(∀j,j<k->iX nx (j0 nx i0 j)=true)->∀{i:Nat},i<nx.length->(yC nx i0 k)[i]?=some ((xd nx i0 k).contains (i:Int))
 |0,_,i,hi=>by simp[yC,xd,hi]
 |k+1,h,i,hi=>by
  have ih:=ID (k:=k) (λj hj=>h j aw) hi;have hb:=h k aw;simp only[iX,gH,gQ]at hb;rw[Iy];simp only[yC];rw[gM,Nv];by_cases e:(j0 nx i0 k).toNat=i
  ·rw[gC e,gC aw];have:(i:Int)=j0 nx i0 k:=by omega
   simp[this]
  ·rw[gu e,ih];have:¬(i:Int)=j0 nx i0 k:=by omega
   simp[this]
end Go.Slp
namespace Go.Slp
open Go.Ab Go.Proofs Tryz Go.Hy
def Gh{x:Int}(h:u64 x):0<=x/\x<18446744073709551616:=by unfold u64 at h;omega
def qQ(x:Int)(h:u64 x):tn 75 [] [U x] (I (x%4294967296-1)) []:=
 FL [] (λw=>(YtoeaoedlpmohoaaGreat.UY x w (Gh h).1 (Gh h).2).mono λe w' ⟨h1,h2⟩=>⟨h1,h2.symm⟩) zxq λE=>.v _ rfl
abbrev Ev(e:En):C:=.agg (zx e)
abbrev vk(e:En)(k:Nat):List (List C):=(xd e.next (zD e) k).map encI
def Rn(e:En)(he:e.ok)(l:Nat)(rec rec':Ob)(rr:C)(rn:Int)
 (hy:∀k,k<j5 e.next (zD e)->jH prog l ([⟨1,74,3,[zx e],0⟩,⟨1,28,1,[[.fp 1 0 []]],0⟩,⟨1,39,1,[[I 0]],0⟩,⟨1,28,1,[[.gl 5 1 (vk e k)]],0⟩,⟨1,74,3,[zx e],0⟩,⟨4,3,1,(vk e k),0⟩,rec]++[⟨2,4,1,(yC e.next (zD e) (k+1)).map kN,0⟩]) [I (j0 e.next (zD e) k)] (Bo true) ([⟨1,74,3,[zx e],0⟩,⟨1,28,1,[[.fp 1 0 []]],0⟩,⟨1,39,1,[[I 0]],0⟩,⟨1,28,1,[[.gl 5 1 (vk e (k+1))]],0⟩,⟨1,74,3,[zx e],0⟩,⟨4,3,1,(vk e (k+1)),0⟩,rec]++[⟨2,4,1,(yC e.next (zD e) (k+1)).map kN,0⟩]))
 (hz:∃b,jH prog l ([⟨1,74,3,[zx e],0⟩,⟨1,28,1,[[.fp 1 0 []]],0⟩,⟨1,39,1,[[I 0]],0⟩,⟨1,28,1,[[.gl 5 1 (vk e (j5 e.next (zD e)))]],0⟩,⟨1,74,3,[zx e],0⟩,⟨4,3,1,(vk e (j5 e.next (zD e))),0⟩,rec]++[⟨2,4,1,(yC e.next (zD e) (j5 e.next (zD e))).map kN,0⟩]) [I (if iy e.next (zD e) then -1 else -2)] (Bo b) ([⟨1,74,3,[zx e],0⟩,⟨1,28,1,[[rr]],0⟩,⟨1,39,1,[[I rn]],0⟩,⟨1,28,1,[[.gl 5 1 (vk e (j5 e.next (zD e)))]],0⟩,⟨1,74,3,[zx e],0⟩,⟨4,3,1,(vk e (j5 e.next (zD e))),0⟩,rec']++[⟨2,4,1,(yC e.next (zD e) (j5 e.next (zD e))).map kN,0⟩])):
  tn 74 [⟨1,74,3,[zx e],0⟩,⟨1,28,1,[[.fp 1 0 []]],0⟩,⟨1,39,1,[[I 0]],0⟩,⟨1,28,1,[[.gl 5 1 (vk e 0)]],0⟩,⟨1,74,3,[zx e],0⟩,⟨4,3,1,(vk e 0),0⟩,rec] [.v (.func (.yield l) #[] #[]),.ref 4 [] 3 0 0] (.fC []) ([⟨1,74,3,[zx e],0⟩,⟨1,28,1,[[rr]],0⟩,⟨1,39,1,[[I rn]],0⟩,⟨1,28,1,[[.gl 5 1 (vk e (j5 e.next (zD e)))]],0⟩,⟨1,74,3,[zx e],0⟩,⟨4,3,1,(vk e (j5 e.next (zD e))),0⟩,rec']++[⟨2,4,1,(yC e.next (zD e) (j5 e.next (zD e))).map kN,0⟩]):=by
 refine zb.zI (fn:=f74) func74 rfl (uH ?_);have hl:=he.2.1.2;have hlm:(e.next.map encI).length=e.next.length:=gE ..;obtain⟨c1,c2,c3⟩:=yT e.next (zD e)
 have jQ:∀j,j<j5 e.next (zD e)->iX e.next (j0 e.next (zD e) j)=true:=λj hj=>by
  have:=c3 j hj;simp only[yx,pX,rS]at this;exact this.1
 refine⟨rfl,aw,by show(1:Int)*_<=_;omega,aw,uH ?_⟩;refine ah (qQ e.head he.1) ?_
 refine zZ.seq (j5 e.next (zD e)) (λk=>(.v (.func (.yield l) #[] #[])::.ref 4 [] 3 0 0::.za::.sl 7 [] 1 0 e.next.length false::I (j0 e.next (zD e) k)::mC (mC (mC (mC ([.za,.za,.za,.za,.za,.za,.za]))))))
  (λk=>[⟨1,74,3,[zx e],0⟩,⟨1,28,1,[[.fp 1 0 []]],0⟩,⟨1,39,1,[[I 0]],0⟩,⟨1,28,1,[[.gl 5 1 (vk e k)]],0⟩,⟨1,74,3,[zx e],0⟩,⟨4,3,1,(vk e k),0⟩,rec]++[⟨2,4,1,(yC e.next (zD e) k).map kN,0⟩]) (λ_=>True) ?_ trivial (λk hk _=>?_) (λ_=>?_)
 ·have e1:List.replicate (((e.next.map encI).length:Int)).toNat (List.map fS (Value.bool false).cells.toList)=(yC e.next (zD e) 0).map kN:=by
   simp[yC,kN,fS,Value.cells]
  rw[e1,hlm,toNat_cast];exact cC
 ·have g:=jQ k hk;simp only[iX,gH,gQ]at g;obtain⟨g1,g2⟩:=g;have hs:=ID (nx:=e.next) (i0:=zD e) (k:=k) (λj hj=>jQ j aw) (i:=(j0 e.next (zD e) k).toNat) aw
  have hv:(xd e.next (zD e) k).contains (((j0 e.next (zD e) k).toNat:Nat):Int)=false:=by
   have:=c3 k hk;simp only[yx,pX,rS]at this;rw[rQ g1];exact this.2
  rw[hv]at hs;have hyk:=hy k hk
  have hnx:(e.next)[(j0 e.next (zD e) k).toNat]?=some (j0 e.next (zD e) (k+1)):=by
   show _=some (iH e.next (j0 e.next (zD e) k));unfold iH;rw[gp aw]
   rfl
  have hse:(yC e.next (zD e) (k+1)).map kN=((yC e.next (zD e) k).map kN).set (j0 e.next (zD e) k).toNat [Bo true]:=by
   show(List.set _ _ _).map kN=_;rw[rH];rfl
  rw[hse]at hyk;rw[hse];generalize hP:j0 e.next (zD e) k=p at *;generalize hQ:j0 e.next (zD e) (k+1)=p' at *;conv=>whnf
  refine⟨λ_=>dd ?_,λh=>absurd h aA⟩;refine⟨λh=>absurd h aA,λ_=>dd ?_⟩;refine⟨λh=>absurd h aA,λ_=>dd ?_⟩;refine⟨g1,aw,uH ?_⟩;refine⟨[Bo false],by rw[gN,gz,hs];rfl,gJ _,?_⟩;refine dd ?_;refine tc ?_
  refine⟨g1,aw,uH ?_⟩;refine⟨[Bo false],by rw[gN,gz,hs];rfl,rfl,?_⟩;conv=>whnf
  rw[gN];refine⟨_,_,hyk,dd ?_⟩;refine tc ?_
  refine⟨g1,[I p'],by rw[gz,hnx];rfl,?_⟩;conv=>whnf
  exact .inl ⟨rfl,cC,trivial⟩
 ·generalize hN:j5 e.next (zD e)=N at *;have hsN:∀{i:Nat},i<e.next.length->(yC e.next (zD e) N)[i]?=some ((xd e.next (zD e) N).contains (i:Int)):=λh=>ID (nx:=e.next) (i0:=zD e) (k:=N) (λj hj=>jQ j hj) h
  obtain⟨b,hz⟩:=hz;by_cases hok:iy e.next (zD e)=true
  ·have hp:j0 e.next (zD e) N= -1:=by simpa [iy,hN] using hok
   rw[gC hok]at hz;rw[hp];conv=>whnf
   refine⟨λh=>absurd h aj,λ_=>uH ?_⟩;refine⟨aj,uH ?_⟩;refine⟨_,_,hz,uH ?_⟩;refine⟨λ_=>?_,λ_=>?_⟩ <;>
   ·conv=>whnf
    exact c8
  ·have hp:j0 e.next (zD e) N≠ -1:=by intro h;exact hok (by simp[iy,hN,h])
   rw[gu hok]at hz;generalize hP:j0 e.next (zD e) N=p at *;conv=>whnf
   refine⟨λ_=>dd ?_,λh=>absurd h (by simp;exact hp)⟩;have fin:∀(X:Prop),X->X:=λ_ h=>h
   refine⟨λh1=>?_,λh1=>?_⟩
   ·refine dd ?_;refine⟨aj,uH ?_⟩;refine⟨_,_,hz,uH ?_⟩;refine⟨λ_=>?_,λ_=>?_⟩ <;>
    ·conv=>whnf
     exact c8
   ·refine dd ?_;refine⟨λh2=>?_,λh2=>?_⟩
    ·refine dd ?_;refine⟨aj,uH ?_⟩;refine⟨_,_,hz,uH ?_⟩;refine⟨λ_=>?_,λ_=>?_⟩ <;>
     ·conv=>whnf
      exact c8
    ·have g1:0<=p:=by simpa using h1
     have g2:p<e.next.length:=aY
     have hv:(xd e.next (zD e) N).contains (((p.toNat:Nat)):Int)=true:=by
      simp only[yx,hP,rz,pO,iX,Bool.and_eq_false_iff,pN]at c2;rw[rQ g1];rcases c2 with(h|h)|h
      ·exact absurd g1 h
      ·exact absurd g2 h
      ·exact h
     have hs:=hsN (i:=p.toNat) aw;rw[hv]at hs;refine dd ?_;refine⟨g1,aw,uH ?_⟩;refine⟨[Bo true],by rw[gN,gz,hs];rfl,gJ _,?_⟩;refine dd ?_;refine tc ?_
     refine⟨aj,uH ?_⟩;refine⟨_,_,hz,uH ?_⟩;refine⟨λ_=>?_,λ_=>?_⟩ <;>
     ·conv=>whnf
      exact c8
def Su(e:En)(X Y Z W:Ob):tn 52 [X,Y,Z,W] [Ev e] (.fn 74 [] [.ref 4 [] 3 0 0]) [X,Y,Z,W,⟨1,74,3,[zx e],0⟩]:=by
 refine zb.zI (fn:=f52) func52 rfl (uH ?_);exact uJ
def KC(e:En)(he:e.ok)(N:Nat)(hN:j5 e.next (zD e)=N)(l:Nat)(rec rec':Ob)(rr:C)(rn:Int)(b:Bool)
 (hy:∀k,k<N->jH prog l ([⟨1,74,3,[zx e],0⟩,⟨1,28,1,[[.fp 1 0 []]],0⟩,⟨1,39,1,[[I 0]],0⟩,⟨1,28,1,[[.gl 5 1 (vk e k)]],0⟩,⟨1,74,3,[zx e],0⟩,⟨4,3,1,(vk e k),0⟩,rec]++[⟨2,4,1,(yC e.next (zD e) (k+1)).map kN,0⟩]) [I (j0 e.next (zD e) k)] (Bo true) ([⟨1,74,3,[zx e],0⟩,⟨1,28,1,[[.fp 1 0 []]],0⟩,⟨1,39,1,[[I 0]],0⟩,⟨1,28,1,[[.gl 5 1 (vk e (k+1))]],0⟩,⟨1,74,3,[zx e],0⟩,⟨4,3,1,(vk e (k+1)),0⟩,rec]++[⟨2,4,1,(yC e.next (zD e) (k+1)).map kN,0⟩]))
 (hz:jH prog l ([⟨1,74,3,[zx e],0⟩,⟨1,28,1,[[.fp 1 0 []]],0⟩,⟨1,39,1,[[I 0]],0⟩,⟨1,28,1,[[.gl 5 1 (vk e N)]],0⟩,⟨1,74,3,[zx e],0⟩,⟨4,3,1,(vk e N),0⟩,rec]++[⟨2,4,1,(yC e.next (zD e) N).map kN,0⟩]) [I (if iy e.next (zD e) then -1 else -2)] (Bo b) ([⟨1,74,3,[zx e],0⟩,⟨1,28,1,[[rr]],0⟩,⟨1,39,1,[[I rn]],0⟩,⟨1,28,1,[[.gl 5 1 (vk e N)]],0⟩,⟨1,74,3,[zx e],0⟩,⟨4,3,1,(vk e N),0⟩,rec']++[⟨2,4,1,(yC e.next (zD e) N).map kN,0⟩])):
  tn 74 [⟨1,74,3,[zx e],0⟩,⟨1,28,1,[[.fp 1 0 []]],0⟩,⟨1,39,1,[[I 0]],0⟩,⟨1,28,1,[[.gl 5 1 (vk e 0)]],0⟩,⟨1,74,3,[zx e],0⟩,⟨4,3,1,(vk e 0),0⟩,rec] [.v (.func (.yield l) #[] #[]),.ref 4 [] 3 0 0] (.fC []) ([⟨1,74,3,[zx e],0⟩,⟨1,28,1,[[rr]],0⟩,⟨1,39,1,[[I rn]],0⟩,⟨1,28,1,[[.gl 5 1 (vk e N)]],0⟩,⟨1,74,3,[zx e],0⟩,⟨4,3,1,(vk e N),0⟩,rec']++[⟨2,4,1,(yC e.next (zD e) N).map kN,0⟩]):=by
 subst hN;exact Rn e he l rec rec' rr rn hy ⟨b,hz⟩
abbrev tF(r:List Int×Int):C:=.fC [lI r.1,I r.2]
def E4(e:En)(he:e.ok):tn 25 [] [Ev e] (tF (qF e)) []:=by
 have hl:=he.2.1.2;obtain⟨c1,c2,c3⟩:=yT e.next (zD e);generalize hN:j5 e.next (zD e)=N at *;refine ab func25 ?_;refine⟨_,_,Su e _ _ _ _,uH ?_⟩;refine⟨_,zp.Ac 3 0 3 1 rfl rfl (.inl rfl) rfl rfl,?_⟩
 have jQ:∀j,j<N->0<=j0 e.next (zD e) j:=λj hj=>by
  have:=c3 j hj;simp only[yx,pX,rS,iX,gH,gQ]at this;exact this.1.1
 have hv:∀k,(vk e k).length=k:=λk=>by simp[Ol]
 have vs:∀k,vk e (k+1)=vk e k++[[I (j0 e.next (zD e) k)]]:=λk=>by
  show(xd e.next (zD e) (k+1)).map encI=_;rw[Iy,rp];rfl
 by_cases hok:iy e.next (zD e)=true
 ·refine⟨.normal,_,[⟨1,74,3,[zx e],0⟩,⟨1,28,1,[[.fp 1 0 []]],0⟩,⟨1,39,1,[[I 0]],0⟩,⟨1,28,1,[[.gl 5 1 (vk e N)]],0⟩,⟨1,74,3,[zx e],0⟩,⟨4,3,1,vk e N,0⟩],λl r h1 h2 h3 h4 h5=>⟨_,_,r,KC e he N hN l (iD l r _) (iD l r _) (.fp 1 0 []) 0 true (λk hk=>?_) ?_,
   rfl,aZ,rfl,pb _,ba,zp.low 6 _ _ rfl rfl rfl⟩,?_⟩
  ·have g:=jQ k hk;have hvk:=hv k;refine jH.zI (id:=6) rfl h1 h2 h3 h4 h5 rfl rfl rfl (uH ?_);refine⟨rfl,rfl,uH ?_⟩;refine⟨λh=>absurd h aA,λ_=>uH ?_⟩;refine⟨λh=>absurd h aA,λ_=>uH ?_⟩;refine⟨rfl,.inr rfl,by simp[maxLen,hvk];omega,by show _*8<=_;simp[hvk];omega,uH ?_⟩;rw[vs k];exact dg
  ·rw[gC hok];refine jH.zI (id:=6) rfl h1 h2 h3 h4 h5 rfl rfl rfl (uH ?_);refine⟨rfl,rfl,uH ?_⟩;refine tc ?_
   exact dg
  ·have e1:qF e=(xd e.next (zD e) N,0):=by unfold qF;rw[gC hok,hN]
   rw[e1];conv=>whnf
   exact uI
 ·refine⟨.ret,_,[⟨1,74,3,[zx e],0⟩,⟨1,28,1,[[.fp 1 0 []]],0⟩,⟨1,39,1,[[I 11]],0⟩],λl r h1 h2 h3 h4 h5=>⟨_,_,left r .ret,KC e he N hN l (iD l r _) (iD l (left r .ret) _) (.fp 1 0 []) 11 false (λk hk=>?_) ?_,
   rfl,aj,rfl,pb _,trivial,zp.low 3 _ _ rfl rfl rfl⟩,?_⟩
  ·have g:=jQ k hk;have hvk:=hv k;refine jH.zI (id:=6) rfl h1 h2 h3 h4 h5 rfl rfl rfl (uH ?_);refine⟨rfl,rfl,uH ?_⟩;refine⟨λh=>absurd h aA,λ_=>uH ?_⟩;refine⟨λh=>absurd h aA,λ_=>uH ?_⟩;refine⟨rfl,.inr rfl,by simp[maxLen,hvk];omega,by show _*8<=_;simp[hvk];omega,uH ?_⟩;rw[vs k];exact dg
  ·rw[gu hok];refine jH.zI (id:=6) rfl h1 h2 h3 h4 h5 rfl rfl rfl (uH ?_);refine⟨rfl,rfl,uH ?_⟩;refine tc ?_
   exact⟨_,_,.refl _,rfl,.inr ⟨rfl,.inl ⟨rfl,rfl⟩⟩⟩
  ·have e1:qF e=([],11):=by unfold qF;rw[gu hok]
   rw[e1];conv=>whnf
   exact⟨.inl rfl,_,zp.var 1 rfl rfl rfl (.cons (WC.nil 0 1) .nil),rfl⟩
def Yi(e:En):((qF e).2 == 0)=iy e.next (zD e):=by
 unfold qF;cases iy e.next (zD e) <;> simp
def Ct(e:En)(he:e.ok):tn 53 [] [Ev e] (Bo (fP e)) []:=by
 have h0:=Yi e;refine ab func53 ?_;refine ah (E4 e he) ?_;refine⟨λh1=>?_,λh1=>?_⟩
 ·rw[show((qF e).2 == 0)=true from h1]at h0;refine dd ?_;refine⟨λh2=>?_,λh2=>?_⟩
  ·refine dd ?_;refine⟨λh3=>?_,λh3=>?_⟩
   ·refine dd ?_;(repeat' (first|(refine⟨λ_=>?_,λ_=>?_⟩ <;> (conv=>whnf))|fail))
    all_goals (rename_i h4;(exact⟨.inl rfl,_,.refl _,uN (by simp at h2 h3 h4;simp[fP,<-h0];omega)⟩))
   ·refine dd ?_
    (exact⟨.inl rfl,_,.refl _,uN (by simp at h2 h3;simp[fP,<-h0];omega)⟩)
  ·refine dd ?_
   (exact⟨.inl rfl,_,.refl _,uN (by simp at h2;simp[fP,<-h0];omega)⟩)
 ·rw[show((qF e).2 == 0)=false from h1]at h0;refine dd ?_
  (exact⟨.inl rfl,_,.refl _,uN (by simp[fP,<-h0])⟩)
def Hw(x i:Int)(h:u64 x)(h3: -1<=i)(h4:i<=2147483646):tn 154 [] [U x,I i] (.fC [U (je x i),I 0]) []:=
 FL [] (λw=>(YtoeaoedlpmohoaaGreat.XM x i w (Gh h).1 (Gh h).2 h3 h4).mono λe w' ⟨h1,h2⟩=>⟨h1,h2.symm⟩) JC λE=>.fC _ _ rfl λj c y e1 e2=>by
  match j,e1,e2 with
  |0,e1,e2=>cases e1;cases e2;exact .v _ rfl
  |1,e1,e2=>cases e1;cases e2;exact .v _ rfl
abbrev tQ(r:En×Int):C:=.fC [Ev r.1,I r.2]
def qE(X Y:Ob)(x:Int)(l:List Int)(hl:l.length<17592186043904):tn 198 [X,Y] [lI (x::l)] (.sl 2 [] 1 0 (0+((l.map encI).length+1)) false) [X,Y,⟨2,3,1,(x::l).map encI,0⟩]:=by
 refine zb.zI (fn:=f198) func198 rfl (uH ?_);refine⟨aj,uH ?_⟩;refine .inr ⟨.inl rfl,ay,bb,uH ?_⟩;exact uJ
def Ux:tn 147 [] [.v (.int .u32 0),I 0] (.fC [U 1,I 0]) []:=
 FL [] (λw=>(YtoeaoedlpmohoaaGreat.NG 0 0 w ar ar ar ar).mono λe w' ⟨h1,h2⟩=>⟨h1,h2.symm⟩) JC λE=>.fC _ _ rfl λj c y e1 e2=>by
  match j,e1,e2 with
  |0,e1,e2=>cases e1;cases e2;exact .v _ rfl
  |1,e1,e2=>cases e1;cases e2;exact .v _ rfl
def v7(n k:Nat):List Int:=(List.range n).map λi=>if i<k then (i:Int)+1 else 0
def BU(n:Nat):List Int:=(List.range n).map λ(i:Nat)=>if i+1=n then -1 else (i:Int)+1
def Cz(n k:Nat):(v7 n k).length=n:=by simp[v7]
def V0{n k:Nat}(h:k<n):(v7 n k).set k ((k:Int)+1)=v7 n (k+1):=by
 apply pL
 intro j;rw[gM,Cz];unfold v7;simp only[gz];by_cases hj:j<n
 ·rw[r7 hj];by_cases e:k=j
  ·subst e;simp[h]
  ·simp only[e,if_false,gL];by_cases h2:j<k
   ·simp[h2,show j<k+1 from aw]
   ·simp[h2,show ¬j<k+1 from aw]
 ·rw[p9 aA];simp;omega
def Xx{n:Nat}:(v7 n n).set (n-1) (-1)=BU n:=by
 apply pL
 intro j;rw[gM,Cz];unfold v7 BU;simp only[gz];by_cases hj:j<n
 ·rw[r7 hj];by_cases e:n-1=j
  ·subst e;simp[show n-1<n from aw,show n-1+1=n from aw]
  ·simp only[e,if_false,gL,hj,if_true,show ¬j+1=n from aw]
 ·rw[p9 aA];simp;omega
def WY{n:Int}(h1:¬(n<1\/4<n)):kO n=(⟨1,BU n.toNat,0⟩,0):=by unfold kO;rw[gu h1];rfl
def Kp(n:Int):tn 118 [] [I n] (tQ (kO n)) []:=by
 refine ab func118 ?_;have hbad:n<1\/4<n->kO n=(no,1):=λh=>by unfold kO;rw[gC h]
 refine⟨λh1=>?_,λh1=>?_⟩
 ·rw[hbad (.inl tD)];refine dd ?_;exact⟨.inl rfl,_,zp.var 0 rfl rfl rfl (.cons (.refl _) (.cons (WC.nil 0 1) (.cons (.refl _) .nil))),rfl⟩
 ·refine dd ?_;refine⟨λh2=>?_,λh2=>?_⟩
  ·rw[hbad (.inr tR)];refine dd ?_;exact⟨.inl rfl,_,zp.var 0 rfl rfl rfl (.cons (.refl _) (.cons (WC.nil 0 1) (.cons (.refl _) .nil))),rfl⟩
  ·have g1:1<=n:=by simp at h1;omega
   have g2:n<=4:=aY
   rw[WY aw];obtain⟨m,rfl⟩:∃m:Nat,n=m:=⟨n.toNat,aw⟩;rw[toNat_cast];refine dd ?_;refine⟨rfl,aw,by show(8:Int)*_<=_;omega,aw,dd ?_⟩;refine zZ.seq m (λk=>(I m::.za::.ref 0 [] 3 0 0::I 0::.ref 2 [] 3 0 0::mC (.za::.za::.za::.za::.za::I m::I k::mC (mC ([.za,.za,.za,.za]))))) (λk=>[⟨1,74,3,[[U 0,.fp 1 0 [],I 0]],0⟩,⟨2,3,1,(v7 m k).map encI,0⟩,⟨1,74,3,[[U 0,.sl 1 [] 1 0 m false,I 0]],0⟩]) (λ_=>True) ?_ trivial (λk hk _=>?_) (λ_=>?_)
   ·have e1:List.replicate ((m:Int)).toNat [C.v (Value.int .i64 0)]=(v7 m 0).map encI:=by
     simp only[toNat_cast];apply pL
     intro j;rw[sQ,gz];unfold v7;simp only[gz];split
     ·rename_i hj;rw[r7 hj];rfl
     ·rw[p9 aA];rfl
    show zp 0 ⟨_,[_,⟨2,3,1,List.replicate ((m:Int)).toNat [C.v (Value.int .i64 0)],0⟩,_]⟩ _;rw[e1];exact cC
   ·have hg:((v7 m k).map encI)[k]?=some (encI ((v7 m k)[k]'(by rw[Cz];exact hk))):=by rw[gz,gp (by rw[Cz];exact hk)];rfl
    have hse:((v7 m k).map encI).set k [I ((k+1:Nat):Int)]=(v7 m (k+1)).map encI:=by rw[<-V0 hk,rH];rfl
    conv=>whnf
    refine⟨λ_=>uH ?_,λh=>absurd h aA⟩;refine⟨aw,aA,dd ?_⟩;rw[gN,zw aw,toNat_cast];refine⟨_,hg,rfl,dd ?_⟩;rw[show List.set (List.map encI (v7 m k)) k [C.v (Value.int IntKind.i64 ((k+1:Nat):Int))]=(v7 m (k+1)).map encI from hse];refine .inl ⟨rfl,?_,trivial⟩;rw[zw aw];exact cE 3
   ·have hg:((v7 m m).map encI)[m-1]?=some (encI ((v7 m m)[m-1]'(by rw[Cz];omega))):=by rw[gz,gp (by rw[Cz];omega)];rfl
    have hse:((v7 m m).map encI).set (m-1) [I (-1)]=(BU m).map encI:=by rw[<-Xx,rH];rfl
    have hw:IntKind.i64.wrap ((m:Int)-1)=((m-1:Nat):Int):=bJ
    have ir:(BU m).length=m:=by simp[BU]
    conv=>whnf
    refine⟨λh=>absurd h aj,λ_=>uH ?_⟩;refine⟨aj,uH ?_⟩;rw[hw];refine⟨aw,aA,dd ?_⟩;rw[gN,toNat_cast];refine⟨_,hg,rfl,dd ?_⟩;rw[show List.set (List.map encI (v7 m m)) (m-1) [C.v (Value.int IntKind.i64 (-1))]=(BU m).map encI from hse];refine ah Ux ?_
    exact⟨.inl rfl,_,zp.Yj 0 1 rfl rfl rfl (by simp[ir]) (λr hr c hc=>by
     obtain⟨n,_,rfl⟩:=pd.1 hr;simp[encI]at hc;subst hc;rfl) rfl rfl,rfl⟩
end Go.Slp
