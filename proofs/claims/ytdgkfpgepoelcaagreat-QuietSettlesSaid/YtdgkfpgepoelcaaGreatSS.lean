import Derived.WalkKit
import Derived.Test.YtdgkfpgepoelcaaGreatRows
import Derived.Test.YtdgkfpgepoelcaaGreatSJ
import Derived.Test.YtdgkfpgepoelcaaGreatSC
import Derived.Test.YtdgkfpgepoelcaaGreatProg
set_option linter.all false
set_option maxRecDepth 100000
set_option maxHeartbeats 4000000
namespace Go.Proofs.YtdgkfpgepoelcaaGreat
open Go.RowKit
def IL(t i:Int)(h1:0<=t)(h2:t<4294967296)(h3: -1<=i)(h4:i<=2147483646):
  bits .or .u64 (t*4294967296) (i+1)=t*4294967296+(i+1):=by
 rw[u64_or _ _ ah ah ah ah];obtain⟨a,rfl⟩:=Int.eq_ofNat_of_zero_le h1;obtain⟨b,hb⟩:=Int.eq_ofNat_of_zero_le (show 0<=i+1 by omega);rw[hb]
 have rF:b<2 ^ 32:=by
   have:(b:Int)<4294967296:=ah
   simpa using (by omega:b<4294967296)
 have:=Nat.two_pow_add_eq_or_of_lt rF a;have e:((a:Int)*4294967296).toNat=2 ^ 32*a:=ah
 rw[e,rk,<-this];omega
def He(t i:Int)(w:World)(h1:0<=t)(h2:t<4294967296)(h3: -1<=i)(h4:i<=2147483646):
  Calls Tryz.prog 188 #[.int .u32 t,.int .i64 i] w λe w'=>e=.returned (.tuple #[.int .u64 (t*4294967296+(i+1)),.int .i64 0])/\w=w':=by
 go_enter Tryz.func188,Tryz.ntmps188
 go_wp2
 go_ret2
 exact⟨by simp[IL t i h1 h2 h3 h4],rfl⟩
def GX(x:Int)(w:World)(h1:0<=x)(h2:x<18446744073709551616):
  Calls Tryz.prog 214 #[.int .u64 x] w λe w'=>e=.returned (.int .i64 (x%4294967296-1))/\w=w':=by
 go_enter Tryz.func214,Tryz.ntmps214
 go_wp2
 go_ret
 exact⟨rfl,rfl⟩
def DU(x:Int)(w:World)(h1:0<=x)(h2:x<18446744073709551616):
  Calls Tryz.prog 141 #[.int .u64 x] w λe w'=>e=.returned (.int .i64 (x%4294967296-1))/\w=w':=by
 go_enter Tryz.func141,Tryz.ntmps141
 go_wp2
 go_ret
 exact⟨rfl,rfl⟩
end Go.Proofs.YtdgkfpgepoelcaaGreat
namespace Go.Slp
open Go.Ab Go.Hy
def tr(nx:List Int)(i:Int):Bool:=decide (0<=i) && decide (i<nx.length)
def e6(nx:List Int)(i:Int):Int:=(nx[i.toNat]?).getD 0
def ja(nx:List Int)(i0:Int):Nat->Int
 |0=>i0
 |k+1=>e6 nx (ja nx i0 k)
def xF(nx:List Int)(i0:Int)(k:Nat):List Int:=(List.range k).map (ja nx i0)
def y5(nx:List Int)(i0:Int)(k:Nat):Bool:=!tr nx (ja nx i0 k) || (xF nx i0 k).contains (ja nx i0 k)
def yn(nx:List Int)(i0:Int):Nat:=((List.range (nx.length+1)).find? (y5 nx i0)).getD 0
def sd(nx:List Int)(i0:Int):Bool:=ja nx i0 (yn nx i0) == -1
def nf:∀(n:Nat) (l:List Int),l.Nodup->(∀x∈l,0<=x/\x<n)->l.length<=n
 |0,l,_,h=>by
  cases l with
  |nil=>exact de _
  |cons x l=>have:=h x (gm ..);omega
 |n+1,l,hd,h=>by
  by_cases hm:(n:Int)∈l
  .have h1:=nf n (l.erase n) (hd.erase _) λx hx=>by
    have h2:=h x (List.mem_of_mem_erase hx)
    have h3:x≠n:=λe=>by
     subst e;exact absurd hx (List.Nodup.not_mem_erase hd)
    omega
   rw[List.length_erase_of_mem hm]at h1;omega
  .have:=nf n l hd λx hx=>by
    have h2:=h x hx;have h3:x≠n:=λe=>hm (e ▸ hx)
    omega
   omega
def fZ(nx:List Int)(i0:Int)(k:Nat):xF nx i0 (k+1)=xF nx i0 k++[ja nx i0 k]:=by
 simp[xF,List.range_succ]
def im(nx:List Int)(i0:Int)(k:Nat):(xF nx i0 k).length=k:=by simp[xF]
def Bg{nx:List Int}{i0:Int}:∀{k:Nat},(∀j,j<k->y5 nx i0 j=false)->(xF nx i0 k).Nodup/\∀x∈xF nx i0 k,tr nx x=true
 |0,_=>⟨by simp[xF],by simp[xF]⟩
 |k+1,h=>by
  obtain⟨h1,h2⟩:=Bg (k:=k) λj hj=>h j ah
  have h3:=h k ah;simp only[y5,dW,g5]at h3;have h4:ja nx i0 k∉xF nx i0 k:=ak h3.2
  rw[fZ];refine⟨?_,?_⟩
  .rw[List.nodup_append];refine⟨h1,aj,?_⟩;intro a ha b hb e;rw[dC]at hb;subst hb e;exact h4 ha
  .intro x hx;rcases dU.1 hx with hx|hx
   .exact h2 x hx
   .rw[dC.1 hx];exact h3.1
def l9(nx:List Int)(i0:Int):yn nx i0<=nx.length/\y5 nx i0 (yn nx i0)=true/\∀j,j<yn nx i0->y5 nx i0 j=false:=by
 unfold yn;cases e:(List.range (nx.length+1)).find? (y5 nx i0) with
 |none=>
  exfalso
  rw[List.find?_eq_none]at e;have h:∀j,j<nx.length+1->y5 nx i0 j=false:=λj hj=>by simpa using e j (gG.2 hj)
  obtain⟨h1,h2⟩:=Bg h
  have:=nf nx.length _ h1 λx hx=>by
   have:=h2 x hx;simp only[tr,c9,dm]at this;exact cQ
  rw[im]at this;omega
 |some k=>
  rw[List.find?_eq_some_iff_append]at e;obtain⟨h1,az,bs,h2,h3⟩:=e
  have hk:az.length=k/\k<nx.length+1:=by
   have h4:(List.range (nx.length+1))[az.length]?=some k:=by rw[h2];simp
   have h5:=(cW.1 h4);obtain⟨h6,h7⟩:=h5;rw[List.getElem_range]at h7;simp at h6;omega
  refine⟨aw,ak h1,λj hj=>?_⟩
  have h8:(List.range (nx.length+1))[j]?=some j:=by
   simp at hj;rw[gF ah]
  rw[h2,da (by simp at hj;omega)]at h8;simpa using h3 j (cZ h8)
abbrev no:En:=⟨0,[],0⟩
def zx(e:En):Int:=e.head%4294967296-1
def xK(e:En):List Int×Int:=if sd e.next (zx e) then (xF e.next (zx e) (yn e.next (zx e)),0) else ([],11)
def rR(e:En):Bool:=sd e.next (zx e) && decide (1<=e.next.length) && decide (e.next.length<=4) && decide (0<=e.zt)
def yF(n:Int):En×Int:=if n<1\/4<n then (no,1) else (⟨1,(List.range n.toNat).map λ(i:Nat)=>if i+1=n.toNat then -1 else (i:Int)+1,0⟩,0)
def jE(nx:List Int)(i0:Int):Nat->List Bool
 |0=>List.replicate nx.length false
 |k+1=>(jE nx i0 k).set (ja nx i0 k).toNat true
def A7(nx:List Int)(i0:Int):∀k,(jE nx i0 k).length=nx.length
 |0=>by simp[jE]
 |k+1=>by simp[jE,A7 nx i0 k]
def mF{nx:List Int}{i0:Int}:∀{k:Nat},(∀j,j<k->tr nx (ja nx i0 j)=true)->∀{i:Nat},i<nx.length->(jE nx i0 k)[i]?=some ((xF nx i0 k).contains (i:Int))
 |0,_,i,hi=>by simp[jE,xF,hi]
 |k+1,h,i,hi=>by
  have ih:=mF (k:=k) (λj hj=>h j ah) hi;have hb:=h k ah;simp only[tr,c9,dm]at hb;rw[fZ];simp only[jE];rw[df,A7];by_cases e:(ja nx i0 k).toNat=i
  .rw[c7 e,c7 ah];have:(i:Int)=ja nx i0 k:=by omega
   simp[this]
  .rw[c6 e,ih];have:¬(i:Int)=ja nx i0 k:=by omega
   simp[this]
end Go.Slp
namespace Go.Slp
open Go.Ab Go.Proofs Tryz Go.Hy
variable{x:Int}{l:List Int}
def iz(h:u64 x):0<=x/\x<18446744073709551616:=by unfold u64 at h;omega
def Ej(x:Int)(h:u64 x):tc 214 [] [U x] (I (x%4294967296-1)) []:=
 wO [] (λw=>(YtdgkfpgepoelcaaGreat.GX x w (iz h).1 (iz h).2).mono λe w' ⟨h1,h2⟩=>⟨h1,h2.symm⟩) BY λE=>.v _ V
def DX(x:Int)(h:u64 x):tc 141 [] [U x] (I (x%4294967296-1)) []:=
 wO [] (λw=>(YtdgkfpgepoelcaaGreat.DU x w (iz h).1 (iz h).2).mono λe w' ⟨h1,h2⟩=>⟨h1,h2.symm⟩) BY λE=>.v _ V
abbrev Ev(e:En):C:=.agg (zP e)
abbrev vk(e:En)(k:Nat):List (List C):=(xF e.next (zx e) k).map encI
def DB(e:En)(he:e.ok)(l:Nat)(rec rec':Ob)(rr:C)(rn:Int)
 (hy:∀k,k<yn e.next (zx e)->qV prog l ([oD e,⟨1,22,1,[[.rG 1 0 []]],0⟩,⟨1,30,1,[[I 0]],0⟩,⟨1,22,1,[[.gl 5 1 (vk e k)]],0⟩,oD e,⟨4,3,1,(vk e k),0⟩,rec]++[⟨2,4,1,(jE e.next (zx e) (k+1)).map xe,0⟩]) [I (ja e.next (zx e) k)] (Bo true) ([oD e,⟨1,22,1,[[.rG 1 0 []]],0⟩,⟨1,30,1,[[I 0]],0⟩,⟨1,22,1,[[.gl 5 1 (vk e (k+1))]],0⟩,oD e,⟨4,3,1,(vk e (k+1)),0⟩,rec]++[⟨2,4,1,(jE e.next (zx e) (k+1)).map xe,0⟩]))
 (hz:∃b,qV prog l ([oD e,⟨1,22,1,[[.rG 1 0 []]],0⟩,⟨1,30,1,[[I 0]],0⟩,⟨1,22,1,[[.gl 5 1 (vk e (yn e.next (zx e)))]],0⟩,oD e,⟨4,3,1,(vk e (yn e.next (zx e))),0⟩,rec]++[⟨2,4,1,(jE e.next (zx e) (yn e.next (zx e))).map xe,0⟩]) [I (if sd e.next (zx e) then -1 else -2)] (Bo b) ([oD e,⟨1,22,1,[[rr]],0⟩,⟨1,30,1,[[I rn]],0⟩,⟨1,22,1,[[.gl 5 1 (vk e (yn e.next (zx e)))]],0⟩,oD e,⟨4,3,1,(vk e (yn e.next (zx e))),0⟩,rec']++[⟨2,4,1,(jE e.next (zx e) (yn e.next (zx e))).map xe,0⟩])):
  tc 213 [oD e,⟨1,22,1,[[.rG 1 0 []]],0⟩,⟨1,30,1,[[I 0]],0⟩,⟨1,22,1,[[.gl 5 1 (vk e 0)]],0⟩,oD e,⟨4,3,1,(vk e 0),0⟩,rec] [.v (.func (.yield l) #[] #[]),.ref 4 [] 3 0 0] (.rO []) ([oD e,⟨1,22,1,[[rr]],0⟩,⟨1,30,1,[[I rn]],0⟩,⟨1,22,1,[[.gl 5 1 (vk e (yn e.next (zx e)))]],0⟩,oD e,⟨4,3,1,(vk e (yn e.next (zx e))),0⟩,rec']++[⟨2,4,1,(jE e.next (zx e) (yn e.next (zx e))).map xe,0⟩]):=by
 refine zb.zJ (fn:=f213) func213 V (uH ?_);have hl:=he.2.1.2;have hlm:(e.next.map encI).length=e.next.length:=cY ..;obtain⟨c1,c2,c3⟩:=l9 e.next (zx e)
 have jI:∀j,j<yn e.next (zx e)->tr e.next (ja e.next (zx e) j)=true:=λj hj=>by
  have:=c3 j hj;simp only[y5,dW,g5]at this;exact this.1
 refine⟨rfl,ah,by show(1:Int)*_<=_;omega,ah,uH ?_⟩;refine af (Ej e.head he.1) ?_
 refine zp.seq (yn e.next (zx e)) (λk=>(.v (.func (.yield l) #[] #[])::.ref 4 [] 3 0 0::.za::.sl 7 [] 1 0 e.next.length false::I (ja e.next (zx e) k)::tJ (tJ (tJ (tJ ([.za,.za,.za,.za,.za,.za,.za]))))))
  (λk=>[oD e,⟨1,22,1,[[.rG 1 0 []]],0⟩,⟨1,30,1,[[I 0]],0⟩,⟨1,22,1,[[.gl 5 1 (vk e k)]],0⟩,oD e,⟨4,3,1,(vk e k),0⟩,rec]++[⟨2,4,1,(jE e.next (zx e) k).map xe,0⟩]) (λ_=>True) ?_ trivial (λk hk _=>?_) (λ_=>?_)
 .have e1:List.replicate (((e.next.map encI).length:Int)).toNat (List.map uq (Value.bool false).cells.toList)=(jE e.next (zx e) 0).map xe:=by
   simp[jE,xe,uq,Value.cells]
  rw[e1,hlm,toNat_cast];exact cC
 .have g:=jI k hk;simp only[tr,c9,dm]at g;obtain⟨g1,g2⟩:=g;have hs:=mF (nx:=e.next) (i0:=zx e) (k:=k) (λj hj=>jI j ah) (i:=(ja e.next (zx e) k).toNat) ah
  have hv:(xF e.next (zx e) k).contains (((ja e.next (zx e) k).toNat:Nat):Int)=false:=by
   have:=c3 k hk;simp only[y5,dW,g5]at this;rw[pt g1];exact this.2
  rw[hv]at hs;have hyk:=hy k hk
  have hnx:(e.next)[(ja e.next (zx e) k).toNat]?=some (ja e.next (zx e) (k+1)):=by
   show _=some (e6 e.next (ja e.next (zx e) k));unfold e6;rw[cV ah]
   rfl
  have hse:(jE e.next (zx e) (k+1)).map xe=((jE e.next (zx e) k).map xe).set (ja e.next (zx e) k).toNat [Bo true]:=by
   show(List.set _ _ _).map xe=_;rw[g7];rfl
  rw[hse]at hyk;rw[hse];generalize hP:ja e.next (zx e) k=p at *;generalize hQ:ja e.next (zx e) (k+1)=p' at *;conv=>whnf
  refine⟨λ_=>dd ?_,λh=>absurd h aw⟩;refine⟨λh=>absurd h aw,λ_=>dd ?_⟩;refine⟨λh=>absurd h aw,λ_=>dd ?_⟩;refine⟨g1,ah,uH ?_⟩;refine⟨[Bo false],by rw[dF,cX,hs];rfl,de _,?_⟩;refine zab ?_
  refine⟨g1,ah,uH ?_⟩;refine⟨[Bo false],by rw[dF,cX,hs];rfl,rfl,?_⟩;conv=>whnf
  rw[dF];refine⟨_,_,hyk,dd ?_⟩;refine hU ?_
  refine⟨g1,[I p'],by rw[cX,hnx];rfl,?_⟩;conv=>whnf
  exact .inl ⟨rfl,cC,trivial⟩
 .generalize hN:yn e.next (zx e)=N at *;have hsN:∀{i:Nat},i<e.next.length->(jE e.next (zx e) N)[i]?=some ((xF e.next (zx e) N).contains (i:Int)):=λh=>mF (nx:=e.next) (i0:=zx e) (k:=N) (λj hj=>jI j hj) h
  obtain⟨b,hz⟩:=hz;by_cases hok:sd e.next (zx e)=true
  .have hp:ja e.next (zx e) N= -1:=by simpa [sd,hN] using hok
   rw[c7 hok]at hz;rw[hp];conv=>whnf
   refine⟨λh=>absurd h aj,λ_=>uH ?_⟩;refine zaI ?_;refine⟨_,_,hz,uH ?_⟩;refine⟨λ_=>?_,λ_=>?_⟩ <;>
   .conv=>whnf
    exact⟨.inr V,_,.refl _,rfl,rfl⟩
  .have hp:ja e.next (zx e) N≠ -1:=by intro h;exact hok (by simp[sd,hN,h])
   rw[c6 hok]at hz;generalize hP:ja e.next (zx e) N=p at *;conv=>whnf
   refine⟨λ_=>dd ?_,λh=>absurd h (by simp;exact hp)⟩;have fin:∀(X:Prop),X->X:=λ_ h=>h
   refine⟨λh1=>?_,λh1=>?_⟩
   .refine dd ?_;refine zaI ?_;refine⟨_,_,hz,uH ?_⟩;refine⟨λ_=>?_,λ_=>?_⟩ <;>
    .conv=>whnf
     exact⟨.inr V,_,.refl _,rfl,rfl⟩
   .refine dd ?_;refine⟨λh2=>?_,λh2=>?_⟩
    .refine dd ?_;refine zaI ?_;refine⟨_,_,hz,uH ?_⟩;refine⟨λ_=>?_,λ_=>?_⟩ <;>
     .conv=>whnf
      exact⟨.inr V,_,.refl _,rfl,rfl⟩
    .have g1:0<=p:=by simpa using h1
     have g2:p<e.next.length:=aF
     have hv:(xF e.next (zx e) N).contains (((p.toNat:Nat)):Int)=true:=by
      simp only[y5,hP,gf,dG,tr,pd,dz]at c2;rw[pt g1];rcases c2 with(h|h)|h
      .exact absurd g1 h
      .exact absurd g2 h
      .exact h
     have hs:=hsN (i:=p.toNat) ah;rw[hv]at hs;refine dd ?_;refine⟨g1,ah,uH ?_⟩;refine⟨[Bo true],by rw[dF,cX,hs];rfl,de _,?_⟩;refine zab ?_
     refine zaI ?_;refine⟨_,_,hz,uH ?_⟩;refine⟨λ_=>?_,λ_=>?_⟩ <;>
     .conv=>whnf
      exact⟨.inr V,_,.refl _,rfl,rfl⟩
def EF(e:En)(X Y Z W:Ob):tc 174 [X,Y,Z,W] [Ev e] (.fn 213 [] [.ref 4 [] 3 0 0]) [X,Y,Z,W,oD e]:=by
 refine zb.zJ (fn:=f174) func174 V (uH ?_);exact uJ
def wv(e:En)(he:e.ok)(N:Nat)(hN:yn e.next (zx e)=N)(l:Nat)(rec rec':Ob)(rr:C)(rn:Int)(b:Bool)
 (hy:∀k,k<N->qV prog l ([oD e,⟨1,22,1,[[.rG 1 0 []]],0⟩,⟨1,30,1,[[I 0]],0⟩,⟨1,22,1,[[.gl 5 1 (vk e k)]],0⟩,oD e,⟨4,3,1,(vk e k),0⟩,rec]++[⟨2,4,1,(jE e.next (zx e) (k+1)).map xe,0⟩]) [I (ja e.next (zx e) k)] (Bo true) ([oD e,⟨1,22,1,[[.rG 1 0 []]],0⟩,⟨1,30,1,[[I 0]],0⟩,⟨1,22,1,[[.gl 5 1 (vk e (k+1))]],0⟩,oD e,⟨4,3,1,(vk e (k+1)),0⟩,rec]++[⟨2,4,1,(jE e.next (zx e) (k+1)).map xe,0⟩]))
 (hz:qV prog l ([oD e,⟨1,22,1,[[.rG 1 0 []]],0⟩,⟨1,30,1,[[I 0]],0⟩,⟨1,22,1,[[.gl 5 1 (vk e N)]],0⟩,oD e,⟨4,3,1,(vk e N),0⟩,rec]++[⟨2,4,1,(jE e.next (zx e) N).map xe,0⟩]) [I (if sd e.next (zx e) then -1 else -2)] (Bo b) ([oD e,⟨1,22,1,[[rr]],0⟩,⟨1,30,1,[[I rn]],0⟩,⟨1,22,1,[[.gl 5 1 (vk e N)]],0⟩,oD e,⟨4,3,1,(vk e N),0⟩,rec']++[⟨2,4,1,(jE e.next (zx e) N).map xe,0⟩])):
  tc 213 [oD e,⟨1,22,1,[[.rG 1 0 []]],0⟩,⟨1,30,1,[[I 0]],0⟩,⟨1,22,1,[[.gl 5 1 (vk e 0)]],0⟩,oD e,⟨4,3,1,(vk e 0),0⟩,rec] [.v (.func (.yield l) #[] #[]),.ref 4 [] 3 0 0] (.rO []) ([oD e,⟨1,22,1,[[rr]],0⟩,⟨1,30,1,[[I rn]],0⟩,⟨1,22,1,[[.gl 5 1 (vk e N)]],0⟩,oD e,⟨4,3,1,(vk e N),0⟩,rec']++[⟨2,4,1,(jE e.next (zx e) N).map xe,0⟩]):=by
 subst hN;exact DB e he l rec rec' rr rn hy ⟨b,hz⟩
abbrev tF(r:List Int×Int):C:=.rO [lI r.1,I r.2]
def kQ(e:En)(he:e.ok):tc 102 [] [Ev e] (tF (xK e)) []:=by
 have hl:=he.2.1.2;obtain⟨c1,c2,c3⟩:=l9 e.next (zx e);generalize hN:yn e.next (zx e)=N at *;refine ab func102 ?_;refine⟨_,_,EF e _ _ _ _,uH ?_⟩;refine⟨_,zm.xc 3 0 3 1 V V (.inl V) V V,?_⟩
 have jI:∀j,j<N->0<=ja e.next (zx e) j:=λj hj=>by
  have:=c3 j hj;simp only[y5,dW,g5,tr,c9,dm]at this;exact this.1.1
 have hv:∀k,(vk e k).length=k:=λk=>by simp[im]
 have vs:∀k,vk e (k+1)=vk e k++[[I (ja e.next (zx e) k)]]:=λk=>by
  show(xF e.next (zx e) (k+1)).map encI=_;rw[fZ,g4];rfl
 by_cases hok:sd e.next (zx e)=true
 .refine⟨.normal,_,[oD e,⟨1,22,1,[[.rG 1 0 []]],0⟩,⟨1,30,1,[[I 0]],0⟩,⟨1,22,1,[[.gl 5 1 (vk e N)]],0⟩,oD e,⟨4,3,1,vk e N,0⟩],λl r h1 h2 h3 h4 h5=>⟨_,_,r,wv e he N hN l (r8 l r _) (r8 l r _) (.rG 1 0 []) 0 true (λk hk=>?_) ?_,
   rfl,by rw[h1];decide,rfl,dA _,by rw[h2];trivial,zm.low 6 _ _ V V V⟩,?_⟩
  .have g:=jI k hk;have hvk:=hv k;refine zaE ?_;refine⟨λh=>absurd h aw,λ_=>uH ?_⟩;refine⟨λh=>absurd h aw,λ_=>uH ?_⟩;refine⟨rfl,.inr V,by simp[maxLen,hvk];omega,bS,uH ?_⟩;rw[vs k];exact ct
  .rw[c7 hok];refine zaE ?_;refine hU ?_
   exact ct
  .have e1:xK e=(xF e.next (zx e) N,0):=by unfold xK;rw[c7 hok,hN]
   rw[e1];conv=>whnf
   exact uI
 .refine⟨.ret,_,[oD e,⟨1,22,1,[[.rG 1 0 []]],0⟩,⟨1,30,1,[[I 11]],0⟩],λl r h1 h2 h3 h4 h5=>⟨_,_,left r .ret,wv e he N hN l (r8 l r _) (r8 l (left r .ret) _) (.rG 1 0 []) 11 false (λk hk=>?_) ?_,
   rfl,aj,rfl,dA _,trivial,zm.low 3 _ _ V V V⟩,?_⟩
  .have g:=jI k hk;have hvk:=hv k;refine zaE ?_;refine⟨λh=>absurd h aw,λ_=>uH ?_⟩;refine⟨λh=>absurd h aw,λ_=>uH ?_⟩;refine⟨rfl,.inr V,by simp[maxLen,hvk];omega,bS,uH ?_⟩;rw[vs k];exact ct
  .rw[c6 hok];refine zaE ?_;refine hU ?_
   exact⟨_,_,.refl _,rfl,.inr ⟨rfl,.inl ⟨rfl,rfl⟩⟩⟩
  .have e1:xK e=([],11):=by unfold xK;rw[c6 hok]
   rw[e1];conv=>whnf
   exact⟨.inl V,_,zm.var 1 V V V (.cons (WC.nil 0 1) .nil),rfl⟩
def eT(l:List Int)(x:Int):Int:=match l.findIdx? (· == x) with|some i=>i|none=> -1
def IF(h:∀j,(hj:j<l.length)->(l[j] == x)=false):eT l x= -1:=by
 have:l.findIdx? (· == x)=none:=by
  rw[dt];intro y hy;obtain⟨j,hj,rfl⟩:=dk.1 hy;exact h j hj
 unfold eT;rw[this]
def HS{k:Nat}(hk:k<l.length)(h1:(l[k] == x)=true)(h:∀j,(hj:j<l.length)->j<k->(l[j] == x)=false):eT l x=k:=by
 have:l.findIdx? (· == x)=some k:=by
  rw[dh];exact⟨hk,h1,λj hj=>by simpa using h j ah hj⟩
 unfold eT;rw[this]
def Bu(l:List Int)(x:Int):decide (0<=eT l x)=l.contains x:=by
 unfold eT;cases e:l.findIdx? (· == x) with
 |some i=>
  rw[dh]at e;obtain⟨h1,h2,_⟩:=e;have:x∈l:=by rw[dH]at h2;rw[<-h2];exact dn h1
  simp[this]
 |none=>
  rw[dt]at e;have:¬x∈l:=λh=>by have:=e x h;simp at this
  simp[this]
def Ao(l:List Int)(x:Int)(hl:l.length<4611686018427387904):tc 280 [] [lI l,I x] (Bo (l.contains x)) []:=by
 refine ab func280 ?_;refine zp.seq l.length (λk=>((lI l)::I x::.za::.za::Bo false::I k::tJ ([.za,.za,.za,.za]))) (λk=>[]) (λk=>∀j,(h:j<l.length)->j<k->(l[j] == x)=false) ?_ aj (λk hk hr=>?_) (λhr=>?_)
 .exact cC
 .conv=>whnf
  refine⟨λh=>uH ?_,λh=>absurd h aw⟩;refine⟨ah,encI l[k],by simp[hk],uH ?_⟩;refine⟨λh1=>?_,λh1=>?_⟩
  .conv=>whnf
   refine zaq ?_
   (exact⟨.inl V,_,.refl _,uN (by rw[<-Bu,HS hk tD hr];simp)⟩)
  .conv=>whnf
   refine .inl ⟨rfl,?_,?_⟩
   .exact cg
   .intro j hj hjk;by_cases e:j=k
    .subst e;simpa using h1
    .exact cF
 .conv=>whnf
  refine⟨λh=>absurd h aj,λh=>uH ?_⟩;refine zaI ?_
  (exact⟨.inl V,_,.refl _,uN (by rw[<-Bu,IF λj hj=>hr j hj hj];simp)⟩)
def Bq(e:En):((xK e).2 == 0)=sd e.next (zx e):=by
 unfold xK;cases sd e.next (zx e) <;> simp
def vJ(e:En)(he:e.ok):tc 103 [] [Ev e] (Bo (rR e)) []:=by
 have h0:=Bq e;refine ab func103 ?_;refine af (kQ e he) ?_;refine⟨λh1=>?_,λh1=>?_⟩
 .rw[show((xK e).2 == 0)=true from h1]at h0;refine dd ?_;refine⟨λh2=>?_,λh2=>?_⟩
  .refine dd ?_;refine⟨λh3=>?_,λh3=>?_⟩
   .refine dd ?_;(repeat' (first|(refine⟨λ_=>?_,λ_=>?_⟩ <;> (conv=>whnf))|fail))
    all_goals (rename_i h4;(exact⟨.inl V,_,.refl _,uN (by simp at h2 h3 h4;simp[rR,<-h0];omega)⟩))
   .refine dd ?_
    (exact⟨.inl V,_,.refl _,uN (by simp at h2 h3;simp[rR,<-h0];omega)⟩)
  .refine dd ?_
   (exact⟨.inl V,_,.refl _,uN (by simp at h2;simp[rR,<-h0];omega)⟩)
 .rw[show((xK e).2 == 0)=false from h1]at h0;refine dd ?_
  (exact⟨.inl V,_,.refl _,uN (by simp[rR,<-h0])⟩)
def Et(e:En)(he:e.ok):tc 239 [] [Ev e] (tF (xK e)) []:=by
 have hl:=he.2.1.2;have hlm:(e.next.map encI).length=e.next.length:=cY ..;obtain⟨c1,c2,c3⟩:=l9 e.next (zx e);generalize hN:yn e.next (zx e)=N at *;have hv:∀k,(vk e k).length=k:=λk=>by simp[im]
 have vs:∀k,vk e (k+1)=vk e k++[[I (ja e.next (zx e) k)]]:=λk=>by
  show(xF e.next (zx e) (k+1)).map encI=_;rw[fZ,g4];rfl
 have hvl:∀k,k<=N->(xF e.next (zx e) k).length<4611686018427387904:=λk hk=>by rw[im];omega
 refine ab func239 ?_;refine af (DX e.head he.1) ?_;refine zp.seq N (λk=>(.za::.ref 0 [] 3 0 0::.za::I 0::.gl 1 1 (vk e k)::I (ja e.next (zx e) k)::tJ (tJ (tJ ([.za,.za,.za,.za,.za,.za]))))) (λk=>[oD e,⟨4,3,1,vk e k,0⟩]) (λ_=>True) ?_ trivial (λk hk _=>?_) (λ_=>?_)
 .exact(zm.grow 4 3 1 V (.inl V)).trans (cC)
 .have h0:=c3 k hk;simp only[y5,dW,g5,tr,c9,dm]at h0;obtain⟨⟨g1,g2⟩,g3⟩:=h0;have hvk:=hv k
  have hnx:(e.next)[(ja e.next (zx e) k).toNat]?=some (ja e.next (zx e) (k+1)):=by
   show _=some (e6 e.next (ja e.next (zx e) k));unfold e6;rw[cV ah]
   rfl
  rw[vs k];have hhas:=Ao (xF e.next (zx e) k) (ja e.next (zx e) k) (hvl k ah);rw[g3]at hhas;generalize hP:ja e.next (zx e) k=p at *;generalize hQ:ja e.next (zx e) (k+1)=p' at *;conv=>whnf
  refine⟨λ_=>dd ?_,λh=>absurd h aw⟩;refine⟨λh=>absurd h aw,λ_=>dd ?_⟩;refine⟨λh=>absurd h aw,λ_=>dd ?_⟩;refine af hhas ?_;refine hU ?_
  refine⟨rfl,.inr V,by simp[maxLen,hvk];omega,bS,uH ?_⟩;refine⟨g1,[I p'],by rw[cX,hnx];rfl,?_⟩;conv=>whnf
  exact .inl ⟨rfl,cC,trivial⟩
 .have hhas:=Ao (xF e.next (zx e) N) (ja e.next (zx e) N) (hvl N ah);by_cases hok:sd e.next (zx e)=true
  .have hp:ja e.next (zx e) N= -1:=by simpa [sd,hN] using hok
   have e1:xK e=(xF e.next (zx e) N,0):=by unfold xK;rw[c7 hok,hN]
   rw[hp,e1];conv=>whnf
   refine⟨λh=>absurd h aj,λ_=>uH ?_⟩;refine zaI ?_;exact uI
  .have hp:ja e.next (zx e) N≠ -1:=by intro h;exact hok (by simp[sd,hN,h])
   have e1:xK e=([],11):=by unfold xK;rw[c6 hok]
   rw[e1];have hst:=c2;simp only[y5,gf,dG,tr,pd,dz]at hst;generalize hP:ja e.next (zx e) N=p at *;conv=>whnf
   refine⟨λ_=>dd ?_,λh=>absurd h (by simp;exact hp)⟩;refine⟨λh1=>?_,λh1=>?_⟩
   .refine dd ?_;refine zaI ?_;exact cf
   .refine dd ?_;refine⟨λh2=>?_,λh2=>?_⟩
    .refine dd ?_;refine zaI ?_;exact cf
    .have h3:(xF e.next (zx e) N).contains p=true:=by
      simp at h1 h2;rcases hst with(h|h)|h
      .omega
      .omega
      .exact h
     refine dd ?_;refine af hhas ?_;refine⟨λ_=>dd ?_,λh=>absurd ((h3).symm.trans h:true=false) aq⟩;refine zaI ?_;exact cf
def yZ(e:En)(he:e.ok):tc 186 [] [Ev e] (Bo (rR e)) []:=by
 have h0:=Bq e;refine ab func186 ?_;refine af (Et e he) ?_;refine⟨λh1=>?_,λh1=>?_⟩
 .rw[show((xK e).2 == 0)=true from h1]at h0;refine dd ?_;refine⟨λh2=>?_,λh2=>?_⟩
  .refine dd ?_;refine⟨λh3=>?_,λh3=>?_⟩
   .refine dd ?_;(repeat' (first|(refine⟨λ_=>?_,λ_=>?_⟩ <;> (conv=>whnf))|fail))
    all_goals (rename_i h4;(exact⟨.inl V,_,.refl _,uN (by simp at h2 h3 h4;simp[rR,<-h0];omega)⟩))
   .refine dd ?_
    (exact⟨.inl V,_,.refl _,uN (by simp at h2 h3;simp[rR,<-h0];omega)⟩)
  .refine dd ?_
   (exact⟨.inl V,_,.refl _,uN (by simp at h2;simp[rR,<-h0];omega)⟩)
 .rw[show((xK e).2 == 0)=false from h1]at h0;refine dd ?_
  (exact⟨.inl V,_,.refl _,uN (by simp[rR,<-h0])⟩)
abbrev tQ(r:En×Int):C:=.rO [Ev r.1,I r.2]
def oz(X Y:Ob)(x:Int)(l:List Int)(hl:l.length<17592186043904):tc 266 [X,Y] [lI (x::l)] (.sl 2 [] 1 0 (0+((l.map encI).length+1)) false) [X,Y,⟨2,3,1,(x::l).map encI,0⟩]:=by
 refine zb.zJ (fn:=f266) func266 V (uH ?_);refine zaI ?_;refine .inr ⟨.inl V,aH,aI,uH ?_⟩;exact uJ
def vU(a b:En):Bool:=a.head == b.head && a.zt == b.zt && a.next == b.next
def Ez(a b:En)(ha:a.ok)(hb:b.ok):tc 69 [] [Ev a,Ev b] (Bo (vU a b)) []:=by
 have hal:=ha.2.1.2;have hbl:=hb.2.1.2;refine ab func69 ?_;refine⟨λh=>?_,λh=>?_⟩
 .refine dd ?_
  (exact⟨.inl V,_,.refl _,uN (by simp[vU];simp at h;simp[h])⟩)
 .refine dd ?_;refine⟨λh2=>?_,λh2=>?_⟩
  .refine dd ?_
   (exact⟨.inl V,_,.refl _,uN (by simp[vU];simp at h2;simp[h2])⟩)
  .refine dd ?_;refine⟨λh3=>?_,λh3=>?_⟩
   .refine dd ?_
    (exact⟨.inl V,_,.refl _,uN (by simp[vU];intro _ _ e;rw[e]at h3;simp at h3)⟩)
   .have hl:a.next.length=b.next.length:=by simp at h3;omega
    have e0:vU a b=(a.next == b.next):=by simp at h h2;simp[vU,h,h2]
    rw[e0];refine dd ?_;refine zp.seq a.next.length (λk=>(.za::.za::.ref 0 [] 3 0 0::.ref 1 [] 3 0 0::Bo false::I k::tJ (tJ (tJ (tJ ([.za,.za,.za,.za,.za,.za,.za])))))) (λk=>[oD a,oD b]) (λk=>∀j,(h:j<a.next.length)->j<k->a.next[j]=b.next[j]'ah) ?_ aj (λk hk hr=>?_) (λhr=>?_)
    .exact cC
    .conv=>whnf
     refine⟨λh=>uH ?_,λh=>absurd h aw⟩;refine uE ?_;refine⟨ah,encI a.next[k],by simp[hk],dd ?_⟩;refine⟨ah,encI (b.next[k]'ah),by rw[toNat_cast,cX,cV ah];rfl,?_⟩;refine dd ?_;refine⟨λh4=>?_,λh4=>?_⟩
     .refine dd ?_;refine zaq ?_
      (exact⟨.inl V,_,.refl _,uN (by symm;rw[beq_eq_false_iff_ne];intro e;simp[e]at h4)⟩)
     .refine dd ?_;refine .inl ⟨rfl,?_,?_⟩
      .exact cL
      .intro j hj hjk;by_cases e:j=k
       .subst e;simpa using h4
       .exact cF
    .conv=>whnf
     refine⟨λh=>absurd h aj,λh=>uH ?_⟩;refine zaI ?_
     (exact⟨.inl V,_,.refl _,uN (by symm;rw[dH];exact List.ext_getElem hl λj h1 h2=>hr j h1 h1)⟩)
def ES:tc 188 [] [.v (.int .u32 0),I 0] (.rO [U 1,I 0]) []:=
 wO [] (λw=>(YtdgkfpgepoelcaaGreat.He 0 0 w aq aq aq aq).mono λe w' ⟨h1,h2⟩=>⟨h1,h2.symm⟩) BZ λE=>.rO _ _ V λj c y e1 e2=>by
  match j,e1,e2 with
  |0,e1,e2=>cases e1;cases e2;exact .v _ V
  |1,e1,e2=>cases e1;cases e2;exact .v _ V
def xp(n k:Nat):List Int:=(List.range n).map λi=>if i<k then (i:Int)+1 else 0
def kR(n:Nat):List Int:=(List.range n).map λ(i:Nat)=>if i+1=n then -1 else (i:Int)+1
def y0(n k:Nat):(xp n k).length=n:=by simp[xp]
def Gw{n k:Nat}(h:k<n):(xp n k).set k ((k:Int)+1)=xp n (k+1):=by
 apply dS
 intro j;rw[df,y0];unfold xp;simp only[cX];by_cases hj:j<n
 .rw[gF hj];by_cases e:k=j
  .subst e;simp[h]
  .simp only[e,if_false,dc];by_cases h2:j<k
   .simp[h2,show j<k+1 from ah]
   .simp[h2,show ¬j<k+1 from ah]
 .rw[dZ aw];simp;omega
def H7{n:Nat}:(xp n n).set (n-1) (-1)=kR n:=by
 apply dS
 intro j;rw[df,y0];unfold xp kR;simp only[cX];by_cases hj:j<n
 .rw[gF hj];by_cases e:n-1=j
  .subst e;simp[show n-1<n from ah,show n-1+1=n from ah]
  .simp only[e,if_false,dc,hj,if_true,show ¬j+1=n from ah]
 .rw[dZ aw];simp;omega
def G5{n:Int}(h1:¬(n<1\/4<n)):yF n=(⟨1,kR n.toNat,0⟩,0):=by unfold yF;rw[c6 h1];rfl
def vE(n:Int):tc 119 [] [I n] (tQ (yF n)) []:=by
 refine ab func119 ?_;have hbad:n<1\/4<n->yF n=(no,1):=λh=>by unfold yF;rw[c7 h]
 refine⟨λh1=>?_,λh1=>?_⟩
 .rw[hbad (.inl tD)];exact zaW
 .refine dd ?_;refine⟨λh2=>?_,λh2=>?_⟩
  .rw[hbad (.inr (ak h2))];exact zaW
  .have g1:1<=n:=by simp at h1;omega
   have g2:n<=4:=aF
   rw[G5 ah];obtain⟨m,rfl⟩:∃m:Nat,n=m:=⟨n.toNat,ah⟩;rw[toNat_cast];refine dd ?_;refine⟨rfl,ah,by show(8:Int)*_<=_;omega,ah,dd ?_⟩;refine zp.seq m (λk=>(I m::.za::.ref 0 [] 3 0 0::I 0::.ref 2 [] 3 0 0::tJ (.za::.za::.za::.za::.za::I m::I k::tJ (tJ ([.za,.za,.za,.za]))))) (λk=>[⟨1,141,3,[[U 0,.rG 1 0 [],I 0]],0⟩,⟨2,3,1,(xp m k).map encI,0⟩,⟨1,141,3,[[U 0,.sl 1 [] 1 0 m false,I 0]],0⟩]) (λ_=>True) ?_ trivial (λk hk _=>?_) (λ_=>?_)
   .have e1:List.replicate ((m:Int)).toNat [C.v (Value.int .i64 0)]=(xp m 0).map encI:=by
     simp only[toNat_cast];apply dS
     intro j;rw[pJ,cX];unfold xp;simp only[cX];split
     .rename_i hj;rw[gF hj];rfl
     .rw[dZ aw];rfl
    show zm 0 ⟨_,[_,⟨2,3,1,List.replicate ((m:Int)).toNat [C.v (Value.int .i64 0)],0⟩,_]⟩ _;rw[e1];exact cC
   .have hg:((xp m k).map encI)[k]?=some (encI ((xp m k)[k]'(by rw[y0];exact hk))):=by rw[cX,cV (by rw[y0];exact hk)];rfl
    have hse:((xp m k).map encI).set k [I ((k+1:Nat):Int)]=(xp m (k+1)).map encI:=by rw[<-Gw hk,g7];rfl
    conv=>whnf
    refine⟨λ_=>uH ?_,λh=>absurd h aw⟩;refine⟨ah,aw,dd ?_⟩;rw[dF,zk ah,toNat_cast];refine⟨_,hg,rfl,dd ?_⟩;rw[show List.set (List.map encI (xp m k)) k [C.v (Value.int IntKind.i64 ((k+1:Nat):Int))]=(xp m (k+1)).map encI from hse];refine zat ?_;rw[zk ah];exact cE 3
   .have hg:((xp m m).map encI)[m-1]?=some (encI ((xp m m)[m-1]'(by rw[y0];omega))):=by rw[cX,cV (by rw[y0];omega)];rfl
    have hse:((xp m m).map encI).set (m-1) [I (-1)]=(kR m).map encI:=by rw[<-H7,g7];rfl
    have hw:IntKind.i64.wrap ((m:Int)-1)=((m-1:Nat):Int):=by rw[z7 ah ah];omega
    have r6:(kR m).length=m:=by simp[kR]
    conv=>whnf
    refine⟨λh=>absurd h aj,λ_=>uH ?_⟩;refine zaI ?_;rw[hw];refine⟨ah,aw,dd ?_⟩;rw[dF,toNat_cast];refine⟨_,hg,rfl,dd ?_⟩;rw[show List.set (List.map encI (xp m m)) (m-1) [C.v (Value.int IntKind.i64 (-1))]=(kR m).map encI from hse];refine af ES ?_
    exact⟨.inl V,_,zm.Bs 0 1 V V V (by simp[r6]) (λr hr c hc=>by
     obtain⟨n,_,rfl⟩:=dT.1 hr;simp[encI]at hc;subst hc;rfl) rfl rfl,rfl⟩
end Go.Slp
