import Derived.WalkKit
import Derived.Test.YtoeaoedlpmohoaaGreatRows
import Derived.Test.YtoeaoedlpmohoaaGreatTJ
import Derived.Test.YtoeaoedlpmohoaaGreatTC
import Derived.Test.YtoeaoedlpmohoaaGreatProg
set_option linter.all false
set_option maxRecDepth 100000
set_option maxHeartbeats 4000000
namespace Go.Proofs.YtoeaoedlpmohoaaGreat
open Go.RowKit
def zxZ(t i:Int)(h1:0<=t)(h2:t<4294967296)(h3: -1<=i)(h4:i<=2147483646):
  bits .or .u64 (t*4294967296) (i+1)=t*4294967296+(i+1):=by
 rw[u64_or _ _ aw aw aw aw];obtain⟨a,rfl⟩:=Int.eq_ofNat_of_zero_le h1;obtain⟨b,hb⟩:=Int.eq_ofNat_of_zero_le (show 0<=i+1 by omega);rw[hb]
 have fj:b<2 ^ 32:=by
   have:(b:Int)<4294967296:=aw
   simpa using (by omega:b<4294967296)
 have:=Nat.two_pow_add_eq_or_of_lt fj a;have e:((a:Int)*4294967296).toNat=2 ^ 32*a:=aw
 rw[e,rD,<-this];omega
def NR(t i:Int)(w:World)(h1:0<=t)(h2:t<4294967296)(h3: -1<=i)(h4:i<=2147483646):
  Calls Tryz.prog 147 #[.int .u32 t,.int .i64 i] w λe w'=>e=.returned (.tuple #[.int .u64 (t*4294967296+(i+1)),.int .i64 0])/\w=w':=by
 go_enter Tryz.func147,Tryz.ntmps147
 go_wp2
 go_ret2
 exact⟨by simp[zxZ t i h1 h2 h3 h4],rfl⟩
def Zj(x:Int)(w:World)(h1:0<=x)(h2:x<18446744073709551616):
  Calls Tryz.prog 205 #[.int .u64 x] w λe w'=>e=.returned (.int .u32 (x / 4294967296))/\w=w':=by
 go_enter Tryz.func205,Tryz.ntmps205
 go_wp2
 go_ret
 exact dK
def VF(x:Int)(w:World)(h1:0<=x)(h2:x<18446744073709551616):
  Calls Tryz.prog 75 #[.int .u64 x] w λe w'=>e=.returned (.int .i64 (x%4294967296-1))/\w=w':=by
 go_enter Tryz.func75,Tryz.ntmps75
 go_wp2
 go_ret
 exact dK
def Yq(x i:Int)(w:World)(h1:0<=x)(h2:x<18446744073709551616)(h3: -1<=i)(h4:i<=2147483646):
  Calls Tryz.prog 154 #[.int .u64 x,.int .i64 i] w λe w'=>e=.returned (.tuple #[.int .u64 ((x / 4294967296+1)%4294967296*4294967296+(i+1)),.int .i64 0])/\w=w':=by
 go_enter Tryz.func154,Tryz.ntmps154
 go_wp2_with (first|(go_at_call 205;refine(Zj _ _ h1 h2).mono ?_;rintro e w' ⟨rfl,rfl⟩)|(go_at_call 147;refine(NR _ _ _ aw aw h3 h4).mono ?_;rintro e w' ⟨rfl,rfl⟩))
 go_ret2
 exact dK
end Go.Proofs.YtoeaoedlpmohoaaGreat
namespace Go.Slp
open Go.Ab Go.Hy
def iR(nx:List Int)(i:Int):Bool:=decide (0<=i) && decide (i<nx.length)
def iA(nx:List Int)(i:Int):Int:=(nx[i.toNat]?).getD 0
def j6(nx:List Int)(i0:Int):Nat->Int
 |0=>i0
 |k+1=>iA nx (j6 nx i0 k)
def xr(nx:List Int)(i0:Int)(k:Nat):List Int:=(List.range k).map (j6 nx i0)
def yG(nx:List Int)(i0:Int)(k:Nat):Bool:=!iR nx (j6 nx i0 k) || (xr nx i0 k).contains (j6 nx i0 k)
def j8(nx:List Int)(i0:Int):Nat:=((List.range (nx.length+1)).find? (yG nx i0)).getD 0
def ij(nx:List Int)(i0:Int):Bool:=j6 nx i0 (j8 nx i0) == -1
def JU:∀(n:Nat) (l:List Int),l.Nodup->(∀x∈l,0<=x/\x<n)->l.length<=n
 |0,l,_,h=>by
  cases l with
  |nil=>exact gC _
  |cons x l=>have:=h x (pT ..);omega
 |n+1,l,hd,h=>by
  by_cases hm:(n:Int)∈l
  ·have h1:=JU n (l.erase n) (hd.erase _) λx hx=>by
    have h2:=h x (List.mem_of_mem_erase hx)
    have h3:x≠n:=λe=>by
     subst e;exact absurd hx (List.Nodup.not_mem_erase hd)
    omega
   rw[List.length_erase_of_mem hm]at h1;omega
  ·have:=JU n l hd λx hx=>by
    have h2:=h x hx;have h3:x≠n:=λe=>hm (e ▸ hx)
    omega
   omega
def IJ(nx:List Int)(i0:Int)(k:Nat):xr nx i0 (k+1)=xr nx i0 k++[j6 nx i0 k]:=by
 simp[xr,fc]
def OL(nx:List Int)(i0:Int)(k:Nat):(xr nx i0 k).length=k:=by simp[xr]
def DZ{nx:List Int}{i0:Int}:∀{k:Nat},(∀j,j<k->yG nx i0 j=false)->(xr nx i0 k).Nodup/\∀x∈xr nx i0 k,iR nx x=true
 |0,_=>⟨by simp[xr],by simp[xr]⟩
 |k+1,h=>by
  obtain⟨h1,h2⟩:=DZ (k:=k) λj hj=>h j aw
  have h3:=h k aw;simp only[yG,pQ,rJ]at h3;have h4:j6 nx i0 k∉xr nx i0 k:=aq h3.2
  rw[IJ];refine⟨?_,?_⟩
  ·rw[uu];refine⟨h1,aj,?_⟩;intro a ha b hb e;rw[gX]at hb;subst hb e;exact h4 ha
  ·intro x hx;rcases gY.1 hx with hx|hx
   ·exact h2 x hx
   ·rw[gX.1 hx];exact h3.1
def yK(nx:List Int)(i0:Int):j8 nx i0<=nx.length/\yG nx i0 (j8 nx i0)=true/\∀j,j<j8 nx i0->yG nx i0 j=false:=by
 unfold j8;cases e:(List.range (nx.length+1)).find? (yG nx i0) with
 |none=>
  exfalso
  rw[List.find?_eq_none]at e;have h:∀j,j<nx.length+1->yG nx i0 j=false:=λj hj=>by simpa using e j (p7.2 hj)
  obtain⟨h1,h2⟩:=DZ h
  have:=JU nx.length _ h1 λx hx=>by
   have:=h2 x hx;simp only[iR,gA,gH]at this;exact dG
  rw[OL]at this;omega
 |some k=>
  rw[List.find?_eq_some_iff_append]at e;obtain⟨h1,az,bs,h2,h3⟩:=e
  have hk:az.length=k/\k<nx.length+1:=by
   have h4:(List.range (nx.length+1))[az.length]?=some k:=by rw[h2];simp
   have h5:=(dW.1 h4);obtain⟨h6,h7⟩:=h5;rw[List.getElem_range]at h7;simp at h6;omega
  refine⟨aA,aq h1,λj hj=>?_⟩
  have h8:(List.range (nx.length+1))[j]?=some j:=by
   simp at hj;rw[rP aw]
  rw[h2,gy (by simp at hj;omega)]at h8;simpa using h3 j (dY h8)
def Ix{nx:List Int}{i0:Int}{n:Nat}(h1:yG nx i0 n=true)(h2:∀j,j<n->yG nx i0 j=false):j8 nx i0=n:=by
 obtain⟨_,h3,h4⟩:=yK nx i0;rcases rO (j8 nx i0) n with h|h|h
 ·rw[h2 _ h]at h3;cases h3
 ·exact h
 ·rw[h4 _ h]at h1;cases h1
abbrev no:En:=⟨0,[],0⟩
def zB(e:En):Int:=e.head%4294967296-1
def ja(x i:Int):Int:=(x / 4294967296+1)%4294967296*4294967296+(i+1)
def qh(e:En):List Int×Int:=if ij e.next (zB e) then (xr e.next (zB e) (j8 e.next (zB e)),0) else ([],11)
def fE(e:En):Bool:=ij e.next (zB e) && decide (1<=e.next.length) && decide (e.next.length<=4) && decide (0<=e.zi)
def GU(e:En):En×Int×Int:=
 if fE e=false then (no,0,11) else if zB e<0 then (no,0,5) else (⟨ja e.head (iA e.next (zB e)),e.next,e.zi⟩,zB e,0)
def Gy(e:En)(slot:Int):En×Int:=
 if fE e=false then (no,11) else if slot<0\/e.next.length<=slot then (no,1) else if (qh e).1.contains slot then (no,4)
 else (⟨ja e.head slot,e.next.set slot.toNat (zB e),e.zi⟩,0)
def wm(n:Int):En×Int:=if n<1\/4<n then (no,1) else (⟨1,(List.range n.toNat).map λ(i:Nat)=>if i+1=n.toNat then -1 else (i:Int)+1,0⟩,0)
def XA(e:En): -1<=zB e/\zB e<=4294967294:=by unfold zB;omega
def ZX{nx:List Int}{i0:Int}(h:ij nx i0=true){k:Nat}(hk:k<j8 nx i0):iR nx (j6 nx i0 k)=true/\ -1<=j6 nx i0 (k+1)/\j6 nx i0 (k+1)<nx.length:=by
 obtain⟨h1,h2,h3⟩:=yK nx i0;have h4:=h3 k hk;simp only[yG,pQ,rJ]at h4;refine⟨h4.1,?_⟩;rcases rU (k+1) (j8 nx i0) with h5|h5
 ·have h6:=h3 _ h5;simp only[yG,pQ,rJ,iR,gA,gH]at h6;omega
 ·have e:k+1=j8 nx i0:=by omega
  rw[e];simp only[ij,pF]at h;rw[h];omega
def OT{nx:List Int}{i0:Int}(h:ij nx i0=true)(h0:¬i0<0):0<j8 nx i0:=by
 rcases sJ (j8 nx i0) with e|e
 ·simp only[ij,e,j6,pF]at h;omega
 ·exact e
def o6{e:En}(h:fE e=true):ij e.next (zB e)=true/\1<=e.next.length/\e.next.length<=4/\0<=e.zi:=by
 simp only[fE,gA,gH]at h;exact⟨h.1.1.1,h.1.1.2,h.1.2,h.2⟩
def O4{e:En}(h:fE e=true)(h0:¬zB e<0):0<=zB e/\zB e<e.next.length/\ -1<=iA e.next (zB e)/\iA e.next (zB e)<e.next.length:=by
 obtain⟨h1,h2,h3,h4⟩:=o6 h;obtain⟨h5,h6,h7⟩:=ZX h1 (OT h1 h0);simp only[iR,j6,gA]at h5;exact⟨gJ h5.1,gJ h5.2,h6,h7⟩
def yR(nx:List Int)(i0:Int):Nat->List Bool
 |0=>List.replicate nx.length false
 |k+1=>(yR nx i0 k).set (j6 nx i0 k).toNat true
def On(nx:List Int)(i0:Int):∀k,(yR nx i0 k).length=nx.length
 |0=>by simp[yR]
 |k+1=>by simp[yR,On nx i0 k]
def I9{nx:List Int}{i0:Int}:∀{k:Nat},(∀j,j<k->iR nx (j6 nx i0 j)=true)->∀{i:Nat},i<nx.length->(yR nx i0 k)[i]?=some ((xr nx i0 k).contains (i:Int))
 |0,_,i,hi=>by simp[yR,xr,hi]
 |k+1,h,i,hi=>by
  have ih:=I9 (k:=k) (λj hj=>h j aw) hi;have hb:=h k aw;simp only[iR,gA,gH]at hb;rw[IJ];simp only[yR];rw[gD,On];by_cases e:(j6 nx i0 k).toNat=i
  ·rw[gh e,gh aw];have:(i:Int)=j6 nx i0 k:=by omega
   simp[this]
  ·rw[dZ e,ih];have:¬(i:Int)=j6 nx i0 k:=by omega
   simp[this]
end Go.Slp
namespace Go.Slp
open Go.Ab Go.Proofs Tryz Go.Hy
def Gp{x:Int}(h:u64 x):0<=x/\x<18446744073709551616:=by unfold u64 at h;omega
def qN(x:Int)(h:u64 x):tj 75 [] [U x] (I (x%4294967296-1)) []:=
 FE [] (λw=>(YtoeaoedlpmohoaaGreat.VF x w (Gp h).1 (Gp h).2).mono λe w' ⟨h1,h2⟩=>⟨h1,h2.symm⟩) zyz λE=>.v _ J
abbrev Ev(e:En):C:=.agg (zA e)
abbrev vk(e:En)(k:Nat):List (List C):=(xr e.next (zB e) k).map encI
def RQ(e:En)(he:e.ok)(l:Nat)(rec rec':Ob)(rr:C)(rn:Int)
 (hy:∀k,k<j8 e.next (zB e)->jI prog l ([oD e,⟨1,28,1,[[.fh 1 0 []]],0⟩,⟨1,39,1,[[I 0]],0⟩,⟨1,28,1,[[.gl 5 1 (vk e k)]],0⟩,oD e,⟨4,3,1,(vk e k),0⟩,rec]++[⟨2,4,1,(yR e.next (zB e) (k+1)).map wh,0⟩]) [I (j6 e.next (zB e) k)] (Bo true) ([oD e,⟨1,28,1,[[.fh 1 0 []]],0⟩,⟨1,39,1,[[I 0]],0⟩,⟨1,28,1,[[.gl 5 1 (vk e (k+1))]],0⟩,oD e,⟨4,3,1,(vk e (k+1)),0⟩,rec]++[⟨2,4,1,(yR e.next (zB e) (k+1)).map wh,0⟩]))
 (hz:∃b,jI prog l ([oD e,⟨1,28,1,[[.fh 1 0 []]],0⟩,⟨1,39,1,[[I 0]],0⟩,⟨1,28,1,[[.gl 5 1 (vk e (j8 e.next (zB e)))]],0⟩,oD e,⟨4,3,1,(vk e (j8 e.next (zB e))),0⟩,rec]++[⟨2,4,1,(yR e.next (zB e) (j8 e.next (zB e))).map wh,0⟩]) [I (if ij e.next (zB e) then -1 else -2)] (Bo b) ([oD e,⟨1,28,1,[[rr]],0⟩,⟨1,39,1,[[I rn]],0⟩,⟨1,28,1,[[.gl 5 1 (vk e (j8 e.next (zB e)))]],0⟩,oD e,⟨4,3,1,(vk e (j8 e.next (zB e))),0⟩,rec']++[⟨2,4,1,(yR e.next (zB e) (j8 e.next (zB e))).map wh,0⟩])):
  tj 74 [oD e,⟨1,28,1,[[.fh 1 0 []]],0⟩,⟨1,39,1,[[I 0]],0⟩,⟨1,28,1,[[.gl 5 1 (vk e 0)]],0⟩,oD e,⟨4,3,1,(vk e 0),0⟩,rec] [.v (.func (.yield l) #[] #[]),.ref 4 [] 3 0 0] (.fq []) ([oD e,⟨1,28,1,[[rr]],0⟩,⟨1,39,1,[[I rn]],0⟩,⟨1,28,1,[[.gl 5 1 (vk e (j8 e.next (zB e)))]],0⟩,oD e,⟨4,3,1,(vk e (j8 e.next (zB e))),0⟩,rec']++[⟨2,4,1,(yR e.next (zB e) (j8 e.next (zB e))).map wh,0⟩]):=by
 refine zb.zL (fn:=f74) func74 J (uH ?_);have hl:=he.2.1.2;have hlm:(e.next.map encI).length=e.next.length:=gu ..;obtain⟨c1,c2,c3⟩:=yK e.next (zB e)
 have ji:∀j,j<j8 e.next (zB e)->iR e.next (j6 e.next (zB e) j)=true:=λj hj=>by
  have:=c3 j hj;simp only[yG,pQ,rJ]at this;exact this.1
 refine⟨rfl,aw,by show(1:Int)*_<=_;omega,aw,uH ?_⟩;refine ah (qN e.head he.1) ?_
 refine qe.seq (j8 e.next (zB e)) (λk=>(.v (.func (.yield l) #[] #[])::.ref 4 [] 3 0 0::.za::.sl 7 [] 1 0 e.next.length false::I (j6 e.next (zB e) k)::tZ (tZ (tZ (tZ ([.za,.za,.za,.za,.za,.za,.za]))))))
  (λk=>[oD e,⟨1,28,1,[[.fh 1 0 []]],0⟩,⟨1,39,1,[[I 0]],0⟩,⟨1,28,1,[[.gl 5 1 (vk e k)]],0⟩,oD e,⟨4,3,1,(vk e k),0⟩,rec]++[⟨2,4,1,(yR e.next (zB e) k).map wh,0⟩]) (λ_=>True) ?_ trivial (λk hk _=>?_) (λ_=>?_)
 ·have e1:List.replicate (((e.next.map encI).length:Int)).toNat (List.map ib (Value.bool false).cells.toList)=(yR e.next (zB e) 0).map wh:=by
   simp[yR,wh,ib,Value.cells]
  rw[e1,hlm,toNat_cast];exact cC
 ·have g:=ji k hk;simp only[iR,gA,gH]at g;obtain⟨g1,g2⟩:=g;have hs:=I9 (nx:=e.next) (i0:=zB e) (k:=k) (λj hj=>ji j aw) (i:=(j6 e.next (zB e) k).toNat) aw
  have hv:(xr e.next (zB e) k).contains (((j6 e.next (zB e) k).toNat:Nat):Int)=false:=by
   have:=c3 k hk;simp only[yG,pQ,rJ]at this;rw[rF g1];exact this.2
  rw[hv]at hs;have hyk:=hy k hk
  have hnx:(e.next)[(j6 e.next (zB e) k).toNat]?=some (j6 e.next (zB e) (k+1)):=by
   show _=some (iA e.next (j6 e.next (zB e) k));unfold iA;rw[dX aw]
   rfl
  have hse:(yR e.next (zB e) (k+1)).map wh=((yR e.next (zB e) k).map wh).set (j6 e.next (zB e) k).toNat [Bo true]:=by
   show(List.set _ _ _).map wh=_;rw[rj];rfl
  rw[hse]at hyk;rw[hse];generalize hP:j6 e.next (zB e) k=p at *;generalize hQ:j6 e.next (zB e) (k+1)=p' at *;conv=>whnf
  refine⟨λ_=>dd ?_,λh=>absurd h aA⟩;refine⟨λh=>absurd h aA,λ_=>dd ?_⟩;refine⟨λh=>absurd h aA,λ_=>dd ?_⟩;refine⟨g1,aw,uH ?_⟩;refine⟨[Bo false],by rw[gP,gf,hs];rfl,gC _,?_⟩;refine dd ?_;refine hZ ?_
  refine⟨g1,aw,uH ?_⟩;refine⟨[Bo false],by rw[gP,gf,hs];rfl,rfl,?_⟩;conv=>whnf
  rw[gP];refine⟨_,_,hyk,dd ?_⟩;refine hZ ?_
  refine⟨g1,[I p'],by rw[gf,hnx];rfl,?_⟩;conv=>whnf
  exact .inl ⟨rfl,cC,trivial⟩
 ·generalize hN:j8 e.next (zB e)=N at *;have hsN:∀{i:Nat},i<e.next.length->(yR e.next (zB e) N)[i]?=some ((xr e.next (zB e) N).contains (i:Int)):=λh=>I9 (nx:=e.next) (i0:=zB e) (k:=N) (λj hj=>ji j hj) h
  obtain⟨b,hz⟩:=hz;by_cases hok:ij e.next (zB e)=true
  ·have hp:j6 e.next (zB e) N= -1:=by simpa [ij,hN] using hok
   rw[gh hok]at hz;rw[hp];conv=>whnf
   refine⟨λh=>absurd h aj,λ_=>uH ?_⟩;refine⟨aj,uH ?_⟩;refine⟨_,_,hz,uH ?_⟩;refine⟨λ_=>?_,λ_=>?_⟩ <;>
   ·conv=>whnf
    exact cX
  ·have hp:j6 e.next (zB e) N≠ -1:=by intro h;exact hok (by simp[ij,hN,h])
   rw[dZ hok]at hz;generalize hP:j6 e.next (zB e) N=p at *;conv=>whnf
   refine⟨λ_=>dd ?_,λh=>absurd h (by simp;exact hp)⟩;have fin:∀(X:Prop),X->X:=λ_ h=>h
   refine⟨λh1=>?_,λh1=>?_⟩
   ·refine dd ?_;refine⟨aj,uH ?_⟩;refine⟨_,_,hz,uH ?_⟩;refine⟨λ_=>?_,λ_=>?_⟩ <;>
    ·conv=>whnf
     exact cX
   ·refine dd ?_;refine⟨λh2=>?_,λh2=>?_⟩
    ·refine dd ?_;refine⟨aj,uH ?_⟩;refine⟨_,_,hz,uH ?_⟩;refine⟨λ_=>?_,λ_=>?_⟩ <;>
     ·conv=>whnf
      exact cX
    ·have g1:0<=p:=by simpa using h1
     have g2:p<e.next.length:=aY
     have hv:(xr e.next (zB e) N).contains (((p.toNat:Nat)):Int)=true:=by
      simp only[yG,hP,pX,pJ,iR,Bool.and_eq_false_iff,pK]at c2;rw[rF g1];rcases c2 with(h|h)|h
      ·exact absurd g1 h
      ·exact absurd g2 h
      ·exact h
     have hs:=hsN (i:=p.toNat) aw;rw[hv]at hs;refine dd ?_;refine⟨g1,aw,uH ?_⟩;refine⟨[Bo true],by rw[gP,gf,hs];rfl,gC _,?_⟩;refine dd ?_;refine hZ ?_
     refine⟨aj,uH ?_⟩;refine⟨_,_,hz,uH ?_⟩;refine⟨λ_=>?_,λ_=>?_⟩ <;>
     ·conv=>whnf
      exact cX
def SM(e:En)(X Y Z W:Ob):tj 52 [X,Y,Z,W] [Ev e] (.fn 74 [] [.ref 4 [] 3 0 0]) [X,Y,Z,W,oD e]:=by
 refine zb.zL (fn:=f52) func52 J (uH ?_);exact uJ
def K5(e:En)(he:e.ok)(N:Nat)(hN:j8 e.next (zB e)=N)(l:Nat)(rec rec':Ob)(rr:C)(rn:Int)(b:Bool)
 (hy:∀k,k<N->jI prog l ([oD e,⟨1,28,1,[[.fh 1 0 []]],0⟩,⟨1,39,1,[[I 0]],0⟩,⟨1,28,1,[[.gl 5 1 (vk e k)]],0⟩,oD e,⟨4,3,1,(vk e k),0⟩,rec]++[⟨2,4,1,(yR e.next (zB e) (k+1)).map wh,0⟩]) [I (j6 e.next (zB e) k)] (Bo true) ([oD e,⟨1,28,1,[[.fh 1 0 []]],0⟩,⟨1,39,1,[[I 0]],0⟩,⟨1,28,1,[[.gl 5 1 (vk e (k+1))]],0⟩,oD e,⟨4,3,1,(vk e (k+1)),0⟩,rec]++[⟨2,4,1,(yR e.next (zB e) (k+1)).map wh,0⟩]))
 (hz:jI prog l ([oD e,⟨1,28,1,[[.fh 1 0 []]],0⟩,⟨1,39,1,[[I 0]],0⟩,⟨1,28,1,[[.gl 5 1 (vk e N)]],0⟩,oD e,⟨4,3,1,(vk e N),0⟩,rec]++[⟨2,4,1,(yR e.next (zB e) N).map wh,0⟩]) [I (if ij e.next (zB e) then -1 else -2)] (Bo b) ([oD e,⟨1,28,1,[[rr]],0⟩,⟨1,39,1,[[I rn]],0⟩,⟨1,28,1,[[.gl 5 1 (vk e N)]],0⟩,oD e,⟨4,3,1,(vk e N),0⟩,rec']++[⟨2,4,1,(yR e.next (zB e) N).map wh,0⟩])):
  tj 74 [oD e,⟨1,28,1,[[.fh 1 0 []]],0⟩,⟨1,39,1,[[I 0]],0⟩,⟨1,28,1,[[.gl 5 1 (vk e 0)]],0⟩,oD e,⟨4,3,1,(vk e 0),0⟩,rec] [.v (.func (.yield l) #[] #[]),.ref 4 [] 3 0 0] (.fq []) ([oD e,⟨1,28,1,[[rr]],0⟩,⟨1,39,1,[[I rn]],0⟩,⟨1,28,1,[[.gl 5 1 (vk e N)]],0⟩,oD e,⟨4,3,1,(vk e N),0⟩,rec']++[⟨2,4,1,(yR e.next (zB e) N).map wh,0⟩]):=by
 subst hN;exact RQ e he l rec rec' rr rn hy ⟨b,hz⟩
abbrev tF(r:List Int×Int):C:=.fq [lI r.1,I r.2]
def w6(e:En)(he:e.ok):tj 25 [] [Ev e] (tF (qh e)) []:=by
 have hl:=he.2.1.2;obtain⟨c1,c2,c3⟩:=yK e.next (zB e);generalize hN:j8 e.next (zB e)=N at *;refine ab func25 ?_;refine⟨_,_,SM e _ _ _ _,uH ?_⟩;refine⟨_,zq.Bf 3 0 3 1 J J (.inl J) J J,?_⟩
 have ji:∀j,j<N->0<=j6 e.next (zB e) j:=λj hj=>by
  have:=c3 j hj;simp only[yG,pQ,rJ,iR,gA,gH]at this;exact this.1.1
 have hv:∀k,(vk e k).length=k:=λk=>by simp[OL]
 have vs:∀k,vk e (k+1)=vk e k++[[I (j6 e.next (zB e) k)]]:=λk=>by
  show(xr e.next (zB e) (k+1)).map encI=_;rw[IJ,pE];rfl
 by_cases hok:ij e.next (zB e)=true
 ·refine⟨.normal,_,[oD e,⟨1,28,1,[[.fh 1 0 []]],0⟩,⟨1,39,1,[[I 0]],0⟩,⟨1,28,1,[[.gl 5 1 (vk e N)]],0⟩,oD e,⟨4,3,1,vk e N,0⟩],λl r h1 h2 h3 h4 h5=>⟨_,_,r,K5 e he N hN l (iy l r _) (iy l r _) (.fh 1 0 []) 0 true (λk hk=>?_) ?_,
   rfl,aZ,rfl,gV _,ba,zq.low 6 _ _ J J J⟩,?_⟩
  ·have g:=ji k hk;have hvk:=hv k;refine jI.zL (id:=6) J h1 h2 h3 h4 h5 J J J (uH ?_);refine⟨rfl,rfl,uH ?_⟩;refine⟨λh=>absurd h aA,λ_=>uH ?_⟩;refine⟨λh=>absurd h aA,λ_=>uH ?_⟩;refine⟨rfl,.inr J,by simp[maxLen,hvk];omega,by show _*8<=_;simp[hvk];omega,uH ?_⟩;rw[vs k];exact cZ
  ·rw[gh hok];refine jI.zL (id:=6) J h1 h2 h3 h4 h5 J J J (uH ?_);refine⟨rfl,rfl,uH ?_⟩;refine hZ ?_
   exact cZ
  ·have e1:qh e=(xr e.next (zB e) N,0):=by unfold qh;rw[gh hok,hN]
   rw[e1];conv=>whnf
   exact uI
 ·refine⟨.ret,_,[oD e,⟨1,28,1,[[.fh 1 0 []]],0⟩,⟨1,39,1,[[I 11]],0⟩],λl r h1 h2 h3 h4 h5=>⟨_,_,left r .ret,K5 e he N hN l (iy l r _) (iy l (left r .ret) _) (.fh 1 0 []) 11 false (λk hk=>?_) ?_,
   rfl,aj,rfl,gV _,trivial,zq.low 3 _ _ J J J⟩,?_⟩
  ·have g:=ji k hk;have hvk:=hv k;refine jI.zL (id:=6) J h1 h2 h3 h4 h5 J J J (uH ?_);refine⟨rfl,rfl,uH ?_⟩;refine⟨λh=>absurd h aA,λ_=>uH ?_⟩;refine⟨λh=>absurd h aA,λ_=>uH ?_⟩;refine⟨rfl,.inr J,by simp[maxLen,hvk];omega,by show _*8<=_;simp[hvk];omega,uH ?_⟩;rw[vs k];exact cZ
  ·rw[dZ hok];refine jI.zL (id:=6) J h1 h2 h3 h4 h5 J J J (uH ?_);refine⟨rfl,rfl,uH ?_⟩;refine hZ ?_
   exact⟨_,_,.refl _,rfl,.inr ⟨rfl,.inl ⟨rfl,rfl⟩⟩⟩
  ·have e1:qh e=([],11):=by unfold qh;rw[dZ hok]
   rw[e1];conv=>whnf
   exact⟨.inl J,_,zq.var 1 J J J (.cons (WC.nil 0 1) .nil),rfl⟩
def YX(e:En):((qh e).2 == 0)=ij e.next (zB e):=by
 unfold qh;cases ij e.next (zB e) <;> simp
def CS(e:En)(he:e.ok):tj 53 [] [Ev e] (Bo (fE e)) []:=by
 have h0:=YX e;refine ab func53 ?_;refine ah (w6 e he) ?_;refine⟨λh1=>?_,λh1=>?_⟩
 ·rw[show((qh e).2 == 0)=true from h1]at h0;refine dd ?_;refine⟨λh2=>?_,λh2=>?_⟩
  ·refine dd ?_;refine⟨λh3=>?_,λh3=>?_⟩
   ·refine dd ?_;(repeat' (first|(refine⟨λ_=>?_,λ_=>?_⟩ <;> (conv=>whnf))|fail))
    all_goals (rename_i h4;(exact⟨.inl J,_,.refl _,uN (by simp at h2 h3 h4;simp[fE,<-h0];omega)⟩))
   ·refine dd ?_
    (exact⟨.inl J,_,.refl _,uN (by simp at h2 h3;simp[fE,<-h0];omega)⟩)
  ·refine dd ?_
   (exact⟨.inl J,_,.refl _,uN (by simp at h2;simp[fE,<-h0];omega)⟩)
 ·rw[show((qh e).2 == 0)=false from h1]at h0;refine dd ?_
  (exact⟨.inl J,_,.refl _,uN (by simp[fE,<-h0])⟩)
def HY(x i:Int)(h:u64 x)(h3: -1<=i)(h4:i<=2147483646):tj 154 [] [U x,I i] (.fq [U (ja x i),I 0]) []:=
 FE [] (λw=>(YtoeaoedlpmohoaaGreat.Yq x i w (Gp h).1 (Gp h).2 h3 h4).mono λe w' ⟨h1,h2⟩=>⟨h1,h2.symm⟩) JV λE=>.fq _ _ J λj c y e1 e2=>by
  match j,e1,e2 with
  |0,e1,e2=>cases e1;cases e2;exact .v _ J
  |1,e1,e2=>cases e1;cases e2;exact .v _ J
abbrev tQ(r:En×Int):C:=.fq [Ev r.1,I r.2]
def YV{e:En}(h:fE e=true):qh e=(xr e.next (zB e) (j8 e.next (zB e)),0):=by
 unfold qh;rw[gh (o6 h).1]
def qC(X Y:Ob)(x:Int)(l:List Int)(hl:l.length<17592186043904):tj 198 [X,Y] [lI (x::l)] (.sl 2 [] 1 0 (0+((l.map encI).length+1)) false) [X,Y,⟨2,3,1,(x::l).map encI,0⟩]:=by
 refine zb.zL (fn:=f198) func198 J (uH ?_);refine⟨aj,uH ?_⟩;refine .inr ⟨.inl J,ay,bc,uH ?_⟩;exact uJ
def UN:tj 147 [] [.v (.int .u32 0),I 0] (.fq [U 1,I 0]) []:=
 FE [] (λw=>(YtoeaoedlpmohoaaGreat.NR 0 0 w ar ar ar ar).mono λe w' ⟨h1,h2⟩=>⟨h1,h2.symm⟩) JV λE=>.fq _ _ J λj c y e1 e2=>by
  match j,e1,e2 with
  |0,e1,e2=>cases e1;cases e2;exact .v _ J
  |1,e1,e2=>cases e1;cases e2;exact .v _ J
def kC(n k:Nat):List Int:=(List.range n).map λi=>if i<k then (i:Int)+1 else 0
def Cb(n:Nat):List Int:=(List.range n).map λ(i:Nat)=>if i+1=n then -1 else (i:Int)+1
def CV(n k:Nat):(kC n k).length=n:=by simp[kC]
def W3{n k:Nat}(h:k<n):(kC n k).set k ((k:Int)+1)=kC n (k+1):=by
 apply pq
 intro j;rw[gD,CV];unfold kC;simp only[gf];by_cases hj:j<n
 ·rw[rP hj];by_cases e:k=j
  ·subst e;simp[h]
  ·simp only[e,if_false,gF];by_cases h2:j<k
   ·simp[h2,show j<k+1 from aw]
   ·simp[h2,show ¬j<k+1 from aw]
 ·rw[pG aA];simp;omega
def Yc{n:Nat}:(kC n n).set (n-1) (-1)=Cb n:=by
 apply pq
 intro j;rw[gD,CV];unfold kC Cb;simp only[gf];by_cases hj:j<n
 ·rw[rP hj];by_cases e:n-1=j
  ·subst e;simp[show n-1<n from aw,show n-1+1=n from aw]
  ·simp only[e,if_false,gF,hj,if_true,show ¬j+1=n from aw]
 ·rw[pG aA];simp;omega
def Xm{n:Int}(h1:¬(n<1\/4<n)):wm n=(⟨1,Cb n.toNat,0⟩,0):=by unfold wm;rw[dZ h1];rfl
def KX(n:Int):tj 118 [] [I n] (tQ (wm n)) []:=by
 refine ab func118 ?_;have hbad:n<1\/4<n->wm n=(no,1):=λh=>by unfold wm;rw[gh h]
 refine⟨λh1=>?_,λh1=>?_⟩
 ·rw[hbad (.inl tE)];refine dd ?_;exact⟨.inl J,_,zq.var 0 J J J (.cons (.refl _) (.cons (WC.nil 0 1) (.cons (.refl _) .nil))),rfl⟩
 ·refine dd ?_;refine⟨λh2=>?_,λh2=>?_⟩
  ·rw[hbad (.inr tT)];refine dd ?_;exact⟨.inl J,_,zq.var 0 J J J (.cons (.refl _) (.cons (WC.nil 0 1) (.cons (.refl _) .nil))),rfl⟩
  ·have g1:1<=n:=by simp at h1;omega
   have g2:n<=4:=aY
   rw[Xm aw];obtain⟨m,rfl⟩:∃m:Nat,n=m:=⟨n.toNat,aw⟩;rw[toNat_cast];refine dd ?_;refine⟨rfl,aw,by show(8:Int)*_<=_;omega,aw,dd ?_⟩;refine qe.seq m (λk=>(I m::.za::.ref 0 [] 3 0 0::I 0::.ref 2 [] 3 0 0::tZ (.za::.za::.za::.za::.za::I m::I k::tZ (tZ ([.za,.za,.za,.za]))))) (λk=>[⟨1,74,3,[[U 0,.fh 1 0 [],I 0]],0⟩,⟨2,3,1,(kC m k).map encI,0⟩,⟨1,74,3,[[U 0,.sl 1 [] 1 0 m false,I 0]],0⟩]) (λ_=>True) ?_ trivial (λk hk _=>?_) (λ_=>?_)
   ·have e1:List.replicate ((m:Int)).toNat [C.v (Value.int .i64 0)]=(kC m 0).map encI:=by
     simp only[toNat_cast];apply pq
     intro j;rw[sE,gf];unfold kC;simp only[gf];split
     ·rename_i hj;rw[rP hj];rfl
     ·rw[pG aA];rfl
    show zq 0 ⟨_,[_,⟨2,3,1,List.replicate ((m:Int)).toNat [C.v (Value.int .i64 0)],0⟩,_]⟩ _;rw[e1];exact cC
   ·have hg:((kC m k).map encI)[k]?=some (encI ((kC m k)[k]'(by rw[CV];exact hk))):=by rw[gf,dX (by rw[CV];exact hk)];rfl
    have hse:((kC m k).map encI).set k [I ((k+1:Nat):Int)]=(kC m (k+1)).map encI:=by rw[<-W3 hk,rj];rfl
    conv=>whnf
    refine⟨λ_=>uH ?_,λh=>absurd h aA⟩;refine⟨aw,aA,dd ?_⟩;rw[gP,zw aw,toNat_cast];refine⟨_,hg,rfl,dd ?_⟩;rw[show List.set (List.map encI (kC m k)) k [C.v (Value.int IntKind.i64 ((k+1:Nat):Int))]=(kC m (k+1)).map encI from hse];refine .inl ⟨rfl,?_,trivial⟩;rw[zw aw];exact cE 3
   ·have hg:((kC m m).map encI)[m-1]?=some (encI ((kC m m)[m-1]'(by rw[CV];omega))):=by rw[gf,dX (by rw[CV];omega)];rfl
    have hse:((kC m m).map encI).set (m-1) [I (-1)]=(Cb m).map encI:=by rw[<-Yc,rj];rfl
    have hw:IntKind.i64.wrap ((m:Int)-1)=((m-1:Nat):Int):=by rw[jx aw aw];omega
    have fW:(Cb m).length=m:=by simp[Cb]
    conv=>whnf
    refine⟨λh=>absurd h aj,λ_=>uH ?_⟩;refine⟨aj,uH ?_⟩;rw[hw];refine⟨aw,aA,dd ?_⟩;rw[gP,toNat_cast];refine⟨_,hg,rfl,dd ?_⟩;rw[show List.set (List.map encI (kC m m)) (m-1) [C.v (Value.int IntKind.i64 (-1))]=(Cb m).map encI from hse];refine ah UN ?_
    exact⟨.inl J,_,zq.YY 0 1 J J J (by simp[fW]) (λr hr c hc=>by
     obtain⟨n,_,rfl⟩:=gR.1 hr;simp[encI]at hc;subst hc;rfl) rfl rfl,rfl⟩
end Go.Slp
