import Derived.WalkKit
import Derived.Test.YtamgiodaflkbhaaGreatRows
import Derived.Test.YtamgiodaflkbhaaGreatVJ
import Derived.Test.YtamgiodaflkbhaaGreatVC
import Derived.Test.YtamgiodaflkbhaaGreatProg
set_option linter.all false
set_option maxRecDepth 100000
set_option maxHeartbeats 4000000
namespace Go.Proofs.YtamgiodaflkbhaaGreat
open Go.RowKit
def Xw(t i:Int)(h1:0<=t)(h2:t<4294967296)(h3: -1<=i)(h4:i<=2147483646):
  bits .or .u64 (t*4294967296) (i+1)=t*4294967296+(i+1):=by
 rw[u64_or _ _ an an an an];obtain⟨a,rfl⟩:=Int.eq_ofNat_of_zero_le h1;obtain⟨b,hb⟩:=Int.eq_ofNat_of_zero_le (show 0<=i+1 by omega);rw[hb]
 have ft:b<2 ^ 32:=by
   have:(b:Int)<4294967296:=an
   simpa using (by omega:b<4294967296)
 have:=Nat.two_pow_add_eq_or_of_lt ft a;have e:((a:Int)*4294967296).toNat=2 ^ 32*a:=an
 rw[e,uf,<-this];omega
def Lv(t i:Int)(w:World)(h1:0<=t)(h2:t<4294967296)(h3: -1<=i)(h4:i<=2147483646):
  Calls Tryz.prog 163 #[.int .u32 t,.int .i64 i] w λe w'=>e=.returned (.tuple #[.int .u64 (t*4294967296+(i+1)),.int .i64 0])/\w=w':=by
 go_enter Tryz.func163,Tryz.ntmps163
 go_wp2
 go_ret2
 exact⟨by simp[Xw t i h1 h2 h3 h4],rfl⟩
def WR(x:Int)(w:World)(h1:0<=x)(h2:x<18446744073709551616):
  Calls Tryz.prog 230 #[.int .u64 x] w λe w'=>e=.returned (.int .u32 (x / 4294967296))/\w=w':=by
 go_enter Tryz.func230,Tryz.ntmps230
 go_wp2
 go_ret
 exact gO
def Ui(x:Int)(w:World)(h1:0<=x)(h2:x<18446744073709551616):
  Calls Tryz.prog 169 #[.int .u64 x] w λe w'=>e=.returned (.int .i64 (x%4294967296-1))/\w=w':=by
 go_enter Tryz.func169,Tryz.ntmps169
 go_wp2
 go_ret
 exact gO
def VA(x i:Int)(w:World)(h1:0<=x)(h2:x<18446744073709551616)(h3: -1<=i)(h4:i<=2147483646):
  Calls Tryz.prog 175 #[.int .u64 x,.int .i64 i] w λe w'=>e=.returned (.tuple #[.int .u64 ((x / 4294967296+1)%4294967296*4294967296+(i+1)),.int .i64 0])/\w=w':=by
 go_enter Tryz.func175,Tryz.ntmps175
 go_wp2_with (first|(go_at_call 230;refine(WR _ _ h1 h2).mono ?_;rintro e w' ⟨rfl,rfl⟩)|(go_at_call 163;refine(Lv _ _ _ an an h3 h4).mono ?_;rintro e w' ⟨rfl,rfl⟩))
 go_ret2
 exact gO
def J3(t i:Int)(w:World)(h1:0<=t)(h2:t<4294967296)(h3: -1<=i)(h4:i<=2147483646):
  Calls Tryz.prog 154 #[.int .u32 t,.int .i64 i] w λe w'=>e=.returned (.tuple #[.int .u64 (t*4294967296+(i+1)),.int .i64 0])/\w=w':=by
 go_enter Tryz.func154,Tryz.ntmps154
 go_wp2
 go_ret2
 exact gO
def Ky(x:Int)(w:World)(h1:0<=x)(h2:x<18446744073709551616):
  Calls Tryz.prog 153 #[.int .u64 x] w λe w'=>e=.returned (.int .u32 (x / 4294967296))/\w=w':=by
 go_enter Tryz.func153,Tryz.ntmps153
 go_wp2
 go_ret
 exact gO
def P4(x:Int)(w:World)(h1:0<=x)(h2:x<18446744073709551616):
  Calls Tryz.prog 95 #[.int .u64 x] w λe w'=>e=.returned (.int .i64 (x%4294967296-1))/\w=w':=by
 go_enter Tryz.func95,Tryz.ntmps95
 go_wp2
 go_ret
 exact gO
def Ry(x i:Int)(w:World)(h1:0<=x)(h2:x<18446744073709551616)(h3: -1<=i)(h4:i<=2147483646):
  Calls Tryz.prog 96 #[.int .u64 x,.int .i64 i] w λe w'=>e=.returned (.tuple #[.int .u64 ((x / 4294967296+1)%4294967296*4294967296+(i+1)),.int .i64 0])/\w=w':=by
 by_cases hx:x / 4294967296<4294967295
 .go_enter Tryz.func96,Tryz.ntmps96
  go_wp2_with (first|(go_at_call 153;refine(Ky _ _ h1 h2).mono ?_;rintro e w' ⟨rfl,rfl⟩)|(go_at_call 154;refine(J3 _ _ _ an an h3 h4).mono ?_;rintro e w' ⟨rfl,rfl⟩))
  go_ret2
  refine⟨?_,rfl⟩;have e:(x / 4294967296+1)%4294967296=x / 4294967296+1:=an
  rw[e];rfl
 .go_enter Tryz.func96,Tryz.ntmps96
  go_wp2_with (first|(go_at_call 153;refine(Ky _ _ h1 h2).mono ?_;rintro e w' ⟨rfl,rfl⟩)|(go_at_call 154;refine(J3 _ _ _ an an h3 h4).mono ?_;rintro e w' ⟨rfl,rfl⟩))
  go_ret2
  refine⟨?_,rfl⟩;have e:(x / 4294967296+1)%4294967296=0:=an
  rw[e];simp
end Go.Proofs.YtamgiodaflkbhaaGreat
namespace Go.Slp
open Go.Ab Go.Hy
variable{nx:List Int}{i0:Int}{e:En}
def mS(nx:List Int)(i:Int):Bool:=decide (0<=i) && decide (i<nx.length)
def Aj(nx:List Int)(i:Int):Int:=(nx[i.toNat]?).getD 0
def xi(nx:List Int)(i0:Int):Nat->Int
 |0=>i0
 |k+1=>Aj nx (xi nx i0 k)
def vQ(nx:List Int)(i0:Int)(k:Nat):List Int:=(List.range k).map (xi nx i0)
def wV(nx:List Int)(i0:Int)(k:Nat):Bool:=!mS nx (xi nx i0 k) || (vQ nx i0 k).contains (xi nx i0 k)
def vW(nx:List Int)(i0:Int):Nat:=((List.range (nx.length+1)).find? (wV nx i0)).getD 0
def iG(nx:List Int)(i0:Int):Bool:=xi nx i0 (vW nx i0) == -1
def Ht:∀(n:Nat) (l:List Int),l.Nodup->(∀x∈l,0<=x/\x<n)->l.length<=n
 |0,l,_,h=>by
  cases l with
  |nil=>exact pN _
  |cons x l=>have:=h x (sd ..);omega
 |n+1,l,hd,h=>by
  by_cases hm:(n:Int)∈l
  .have h1:=Ht n (l.erase n) (hd.erase _) λx hx=>by
    have h2:=h x (List.mem_of_mem_erase hx)
    have h3:x≠n:=λe=>by
     subst e;exact absurd hx (List.Nodup.not_mem_erase hd)
    omega
   rw[List.length_erase_of_mem hm]at h1;omega
  .have:=Ht n l hd λx hx=>by
    have h2:=h x hx;have h3:x≠n:=λe=>hm (e ▸ hx)
    omega
   omega
def Eo(nx:List Int)(i0:Int)(k:Nat):vQ nx i0 (k+1)=vQ nx i0 k++[xi nx i0 k]:=by
 simp[vQ,u5]
def EE(nx:List Int)(i0:Int)(k:Nat):(vQ nx i0 k).length=k:=by simp[vQ]
def LW{nx:List Int}{i0:Int}:∀{k:Nat},(∀j,j<k->wV nx i0 j=false)->(vQ nx i0 k).Nodup/\∀x∈vQ nx i0 k,mS nx x=true
 |0,_=>⟨by simp[vQ],by simp[vQ]⟩
 |k+1,h=>by
  obtain⟨h1,h2⟩:=LW (k:=k) λj hj=>h j an
  have h3:=h k an;simp only[wV,r4,sU]at h3;have h4:xi nx i0 k∉vQ nx i0 k:=ai h3.2
  rw[Eo];refine⟨?_,?_⟩
  .rw[List.nodup_append];refine⟨h1,ah,?_⟩;intro a ha b hb e;rw[rH]at hb;subst hb e;exact h4 ha
  .intro x hx;rcases pS.1 hx with hx|hx
   .exact h2 x hx
   .rw[rH.1 hx];exact h3.1
def C9(nx:List Int)(i0:Int):vW nx i0<=nx.length/\wV nx i0 (vW nx i0)=true/\∀j,j<vW nx i0->wV nx i0 j=false:=by
 unfold vW;cases e:(List.range (nx.length+1)).find? (wV nx i0) with
 |none=>
  exfalso
  rw[List.find?_eq_none]at e;have h:∀j,j<nx.length+1->wV nx i0 j=false:=λj hj=>by simpa using e j (sy.2 hj)
  obtain⟨h1,h2⟩:=LW h
  have:=Ht nx.length _ h1 λx hx=>by
   have:=h2 x hx;simp only[mS,pJ,pY]at this;exact gI
  rw[EE]at this;omega
 |some k=>
  rw[List.find?_eq_some_iff_append]at e;obtain⟨h1,az,bs,h2,h3⟩:=e
  have hk:az.length=k/\k<nx.length+1:=by
   have h4:(List.range (nx.length+1))[az.length]?=some k:=by rw[h2];simp
   have h5:=(px.1 h4);obtain⟨h6,h7⟩:=h5;rw[List.getElem_range]at h7;simp at h6;omega
  refine⟨ar,ai h1,λj hj=>?_⟩
  have h8:(List.range (nx.length+1))[j]?=some j:=by
   simp at hj;rw[sR an]
  rw[h2,pI (by simp at hj;omega)]at h8;simpa using h3 j (pE h8)
abbrev no:En:=⟨0,[],0⟩
def zQ(e:En):Int:=e.head%4294967296-1
def vq(x i:Int):Int:=(x / 4294967296+1)%4294967296*4294967296+(i+1)
def xw(e:En):List Int×Int:=if iG e.next (zQ e) then (vQ e.next (zQ e) (vW e.next (zQ e)),0) else ([],11)
def fS(e:En):Bool:=iG e.next (zQ e) && decide (1<=e.next.length) && decide (e.next.length<=4) && decide (0<=e.zo)
def yR(n:Int):En×Int:=if n<1\/4<n then (no,1) else (⟨1,(List.range n.toNat).map λ(i:Nat)=>if i+1=n.toNat then -1 else (i:Int)+1,0⟩,0)
def W9(h:iG nx i0=true){k:Nat}(hk:k<vW nx i0):mS nx (xi nx i0 k)=true/\ -1<=xi nx i0 (k+1)/\xi nx i0 (k+1)<nx.length:=by
 obtain⟨h1,h2,h3⟩:=C9 nx i0;have h4:=h3 k hk;simp only[wV,r4,sU]at h4;refine⟨h4.1,?_⟩;rcases tu (k+1) (vW nx i0) with h5|h5
 .have h6:=h3 _ h5;simp only[wV,r4,sU,mS,pJ,pY]at h6;omega
 .have e:k+1=vW nx i0:=by omega
  rw[e];simp only[iG,rF]at h;rw[h];omega
def Wf(h:iG nx i0=true)(h0:¬i0<0):0<vW nx i0:=by
 rcases uc (vW nx i0) with e|e
 .simp only[iG,e,xi,rF]at h;omega
 .exact e
def My(h:fS e=true):iG e.next (zQ e)=true/\1<=e.next.length/\e.next.length<=4/\0<=e.zo:=by
 simp only[fS,pJ,pY]at h;exact⟨h.1.1.1,h.1.1.2,h.1.2,h.2⟩
def Mk(h:fS e=true)(h0:¬zQ e<0):0<=zQ e/\zQ e<e.next.length/\ -1<=Aj e.next (zQ e)/\Aj e.next (zQ e)<e.next.length:=by
 obtain⟨h1,h2,h3,h4⟩:=My h;obtain⟨h5,h6,h7⟩:=W9 h1 (Wf h1 h0);simp only[mS,xi,pJ]at h5;exact⟨pC h5.1,pC h5.2,h6,h7⟩
def yI(nx:List Int)(i0:Int):Nat->List Bool
 |0=>List.replicate nx.length false
 |k+1=>(yI nx i0 k).set (xi nx i0 k).toNat true
def LO(nx:List Int)(i0:Int):∀k,(yI nx i0 k).length=nx.length
 |0=>by simp[yI]
 |k+1=>by simp[yI,LO nx i0 k]
def GU{nx:List Int}{i0:Int}:∀{k:Nat},(∀j,j<k->mS nx (xi nx i0 j)=true)->∀{i:Nat},i<nx.length->(yI nx i0 k)[i]?=some ((vQ nx i0 k).contains (i:Int))
 |0,_,i,hi=>by simp[yI,vQ,hi]
 |k+1,h,i,hi=>by
  have ih:=GU (k:=k) (λj hj=>h j an) hi;have hb:=h k an;simp only[mS,pJ,pY]at hb;rw[Eo];simp only[yI];rw[pM,LO];by_cases e:(xi nx i0 k).toNat=i
  .rw[pD e,pD an];have:(i:Int)=xi nx i0 k:=by omega
   simp[this]
  .rw[pA e,ih];have:¬(i:Int)=xi nx i0 k:=by omega
   simp[this]
end Go.Slp
namespace Go.Slp
open Go.Ab Go.Proofs Tryz Go.Hy
variable{x:Int}{l:List Int}
def AV(h:u64 x):0<=x/\x<18446744073709551616:=by unfold u64 at h;omega
def qI(x:Int)(h:u64 x):th 169 [] [U x] (I (x%4294967296-1)) []:=
 B6 [] (λw=>(YtamgiodaflkbhaaGreat.Ui x w (AV h).1 (AV h).2).mono λe w' ⟨h1,h2⟩=>⟨h1,h2.symm⟩) MY λE=>.v _ V
def x9(x:Int)(h:u64 x):th 95 [] [U x] (I (x%4294967296-1)) []:=
 B6 [] (λw=>(YtamgiodaflkbhaaGreat.P4 x w (AV h).1 (AV h).2).mono λe w' ⟨h1,h2⟩=>⟨h1,h2.symm⟩) MY λE=>.v _ V
abbrev Ev(e:En):C:=.agg (zx e)
abbrev vk(e:En)(k:Nat):List (List C):=(vQ e.next (zQ e) k).map encI
def PJ(e:En)(he:e.ok)(l:Nat)(rec rec':Ob)(rr:C)(rn:Int)
 (hy:∀k,k<vW e.next (zQ e)->jv prog l ([oD e,⟨1,28,1,[[.fq 1 0 []]],0⟩,⟨1,39,1,[[I 0]],0⟩,⟨1,28,1,[[.gl 5 1 (vk e k)]],0⟩,oD e,⟨4,3,1,(vk e k),0⟩,rec]++[⟨2,4,1,(yI e.next (zQ e) (k+1)).map yK,0⟩]) [I (xi e.next (zQ e) k)] (Bo true) ([oD e,⟨1,28,1,[[.fq 1 0 []]],0⟩,⟨1,39,1,[[I 0]],0⟩,⟨1,28,1,[[.gl 5 1 (vk e (k+1))]],0⟩,oD e,⟨4,3,1,(vk e (k+1)),0⟩,rec]++[⟨2,4,1,(yI e.next (zQ e) (k+1)).map yK,0⟩]))
 (hz:∃b,jv prog l ([oD e,⟨1,28,1,[[.fq 1 0 []]],0⟩,⟨1,39,1,[[I 0]],0⟩,⟨1,28,1,[[.gl 5 1 (vk e (vW e.next (zQ e)))]],0⟩,oD e,⟨4,3,1,(vk e (vW e.next (zQ e))),0⟩,rec]++[⟨2,4,1,(yI e.next (zQ e) (vW e.next (zQ e))).map yK,0⟩]) [I (if iG e.next (zQ e) then -1 else -2)] (Bo b) ([oD e,⟨1,28,1,[[rr]],0⟩,⟨1,39,1,[[I rn]],0⟩,⟨1,28,1,[[.gl 5 1 (vk e (vW e.next (zQ e)))]],0⟩,oD e,⟨4,3,1,(vk e (vW e.next (zQ e))),0⟩,rec']++[⟨2,4,1,(yI e.next (zQ e) (vW e.next (zQ e))).map yK,0⟩])):
  th 168 [oD e,⟨1,28,1,[[.fq 1 0 []]],0⟩,⟨1,39,1,[[I 0]],0⟩,⟨1,28,1,[[.gl 5 1 (vk e 0)]],0⟩,oD e,⟨4,3,1,(vk e 0),0⟩,rec] [.v (.func (.yield l) #[] #[]),.ref 4 [] 3 0 0] (.fy []) ([oD e,⟨1,28,1,[[rr]],0⟩,⟨1,39,1,[[I rn]],0⟩,⟨1,28,1,[[.gl 5 1 (vk e (vW e.next (zQ e)))]],0⟩,oD e,⟨4,3,1,(vk e (vW e.next (zQ e))),0⟩,rec']++[⟨2,4,1,(yI e.next (zQ e) (vW e.next (zQ e))).map yK,0⟩]):=by
 refine zb.zX (fn:=f168) func168 V (uH ?_);have hl:=he.2.1.2;have hlm:(e.next.map encI).length=e.next.length:=pz ..;obtain⟨c1,c2,c3⟩:=C9 e.next (zQ e)
 have lD:∀j,j<vW e.next (zQ e)->mS e.next (xi e.next (zQ e) j)=true:=λj hj=>by
  have:=c3 j hj;simp only[wV,r4,sU]at this;exact this.1
 refine⟨rfl,an,by show(1:Int)*_<=_;omega,an,uH ?_⟩;refine af (qI e.head he.1) ?_
 refine zH.seq (vW e.next (zQ e)) (λk=>(.v (.func (.yield l) #[] #[])::.ref 4 [] 3 0 0::.za::.sl 7 [] 1 0 e.next.length false::I (xi e.next (zQ e) k)::mL (mL (mL (mL ([.za,.za,.za,.za,.za,.za,.za]))))))
  (λk=>[oD e,⟨1,28,1,[[.fq 1 0 []]],0⟩,⟨1,39,1,[[I 0]],0⟩,⟨1,28,1,[[.gl 5 1 (vk e k)]],0⟩,oD e,⟨4,3,1,(vk e k),0⟩,rec]++[⟨2,4,1,(yI e.next (zQ e) k).map yK,0⟩]) (λ_=>True) ?_ trivial (λk hk _=>?_) (λ_=>?_)
 .have e1:List.replicate (((e.next.map encI).length:Int)).toNat (List.map lX (Value.bool false).cells.toList)=(yI e.next (zQ e) 0).map yK:=by
   simp[yI,yK,lX,Value.cells]
  rw[e1,hlm,toNat_cast];exact cC
 .have g:=lD k hk;simp only[mS,pJ,pY]at g;obtain⟨g1,g2⟩:=g;have hs:=GU (nx:=e.next) (i0:=zQ e) (k:=k) (λj hj=>lD j an) (i:=(xi e.next (zQ e) k).toNat) an
  have hv:(vQ e.next (zQ e) k).contains (((xi e.next (zQ e) k).toNat:Nat):Int)=false:=by
   have:=c3 k hk;simp only[wV,r4,sU]at this;rw[u1 g1];exact this.2
  rw[hv]at hs;have hyk:=hy k hk
  have hnx:(e.next)[(xi e.next (zQ e) k).toNat]?=some (xi e.next (zQ e) (k+1)):=by
   show _=some (Aj e.next (xi e.next (zQ e) k));unfold Aj;rw[pq an]
   rfl
  have hse:(yI e.next (zQ e) (k+1)).map yK=((yI e.next (zQ e) k).map yK).set (xi e.next (zQ e) k).toNat [Bo true]:=by
   show(List.set _ _ _).map yK=_;rw[sA];rfl
  rw[hse]at hyk;rw[hse];generalize hP:xi e.next (zQ e) k=p at *;generalize hQ:xi e.next (zQ e) (k+1)=p' at *;conv=>whnf
  refine zbW ?_;refine za9 ?_;refine za9 ?_;refine⟨g1,an,uH ?_⟩;refine⟨[Bo false],by rw[pK,pw,hs];rfl,pN _,?_⟩;refine zac ?_
  refine⟨g1,an,uH ?_⟩;refine⟨[Bo false],by rw[pK,pw,hs];rfl,rfl,?_⟩;conv=>whnf
  rw[pK];refine⟨_,_,hyk,dd ?_⟩;refine td ?_
  refine⟨g1,[I p'],by rw[pw,hnx];rfl,?_⟩;conv=>whnf
  exact .inl ⟨rfl,cC,trivial⟩
 .generalize hN:vW e.next (zQ e)=N at *;have hsN:∀{i:Nat},i<e.next.length->(yI e.next (zQ e) N)[i]?=some ((vQ e.next (zQ e) N).contains (i:Int)):=λh=>GU (nx:=e.next) (i0:=zQ e) (k:=N) (λj hj=>lD j hj) h
  obtain⟨b,hz⟩:=hz;by_cases hok:iG e.next (zQ e)=true
  .have hp:xi e.next (zQ e) N= -1:=by simpa [iG,hN] using hok
   rw[pD hok]at hz;rw[hp];conv=>whnf
   refine zcm ?_;refine⟨_,_,hz,uH ?_⟩;refine⟨λ_=>?_,λ_=>?_⟩ <;>
   .conv=>whnf
    exact dZ
  .have hp:xi e.next (zQ e) N≠ -1:=by intro h;exact hok (by simp[iG,hN,h])
   rw[pA hok]at hz;generalize hP:xi e.next (zQ e) N=p at *;conv=>whnf
   refine⟨λ_=>dd ?_,λh=>absurd h (by simp;exact hp)⟩;have fin:∀(X:Prop),X->X:=λ_ h=>h
   refine⟨λh1=>?_,λh1=>?_⟩
   .refine dd ?_;refine zb6 ?_;refine⟨_,_,hz,uH ?_⟩;refine⟨λ_=>?_,λ_=>?_⟩ <;>
    .conv=>whnf
     exact dZ
   .refine dd ?_;refine⟨λh2=>?_,λh2=>?_⟩
    .refine dd ?_;refine zb6 ?_;refine⟨_,_,hz,uH ?_⟩;refine⟨λ_=>?_,λ_=>?_⟩ <;>
     .conv=>whnf
      exact dZ
    .have g1:0<=p:=by simpa using h1
     have g2:p<e.next.length:=aD
     have hv:(vQ e.next (zQ e) N).contains (((p.toNat:Nat)):Int)=true:=by
      simp only[wV,hP,rZ,rE,mS,uo,rD]at c2;rw[u1 g1];rcases c2 with(h|h)|h
      .exact absurd g1 h
      .exact absurd g2 h
      .exact h
     have hs:=hsN (i:=p.toNat) an;rw[hv]at hs;refine dd ?_;refine⟨g1,an,uH ?_⟩;refine⟨[Bo true],by rw[pK,pw,hs];rfl,pN _,?_⟩;refine zac ?_
     refine zb6 ?_;refine⟨_,_,hz,uH ?_⟩;refine⟨λ_=>?_,λ_=>?_⟩ <;>
     .conv=>whnf
      exact dZ
def QP(e:En)(X Y Z W:Ob):th 132 [X,Y,Z,W] [Ev e] (.fn 168 [] [.ref 4 [] 3 0 0]) [X,Y,Z,W,oD e]:=by
 refine zb.zX (fn:=f132) func132 V (uH ?_);exact uJ
def I9(e:En)(he:e.ok)(N:Nat)(hN:vW e.next (zQ e)=N)(l:Nat)(rec rec':Ob)(rr:C)(rn:Int)(b:Bool)
 (hy:∀k,k<N->jv prog l ([oD e,⟨1,28,1,[[.fq 1 0 []]],0⟩,⟨1,39,1,[[I 0]],0⟩,⟨1,28,1,[[.gl 5 1 (vk e k)]],0⟩,oD e,⟨4,3,1,(vk e k),0⟩,rec]++[⟨2,4,1,(yI e.next (zQ e) (k+1)).map yK,0⟩]) [I (xi e.next (zQ e) k)] (Bo true) ([oD e,⟨1,28,1,[[.fq 1 0 []]],0⟩,⟨1,39,1,[[I 0]],0⟩,⟨1,28,1,[[.gl 5 1 (vk e (k+1))]],0⟩,oD e,⟨4,3,1,(vk e (k+1)),0⟩,rec]++[⟨2,4,1,(yI e.next (zQ e) (k+1)).map yK,0⟩]))
 (hz:jv prog l ([oD e,⟨1,28,1,[[.fq 1 0 []]],0⟩,⟨1,39,1,[[I 0]],0⟩,⟨1,28,1,[[.gl 5 1 (vk e N)]],0⟩,oD e,⟨4,3,1,(vk e N),0⟩,rec]++[⟨2,4,1,(yI e.next (zQ e) N).map yK,0⟩]) [I (if iG e.next (zQ e) then -1 else -2)] (Bo b) ([oD e,⟨1,28,1,[[rr]],0⟩,⟨1,39,1,[[I rn]],0⟩,⟨1,28,1,[[.gl 5 1 (vk e N)]],0⟩,oD e,⟨4,3,1,(vk e N),0⟩,rec']++[⟨2,4,1,(yI e.next (zQ e) N).map yK,0⟩])):
  th 168 [oD e,⟨1,28,1,[[.fq 1 0 []]],0⟩,⟨1,39,1,[[I 0]],0⟩,⟨1,28,1,[[.gl 5 1 (vk e 0)]],0⟩,oD e,⟨4,3,1,(vk e 0),0⟩,rec] [.v (.func (.yield l) #[] #[]),.ref 4 [] 3 0 0] (.fy []) ([oD e,⟨1,28,1,[[rr]],0⟩,⟨1,39,1,[[I rn]],0⟩,⟨1,28,1,[[.gl 5 1 (vk e N)]],0⟩,oD e,⟨4,3,1,(vk e N),0⟩,rec']++[⟨2,4,1,(yI e.next (zQ e) N).map yK,0⟩]):=by
 subst hN;exact PJ e he l rec rec' rr rn hy ⟨b,hz⟩
abbrev tF(r:List Int×Int):C:=.fy [lI r.1,I r.2]
def DZ(e:En)(he:e.ok):th 77 [] [Ev e] (tF (xw e)) []:=by
 have hl:=he.2.1.2;obtain⟨c1,c2,c3⟩:=C9 e.next (zQ e);generalize hN:vW e.next (zQ e)=N at *;refine ab func77 ?_;refine⟨_,_,QP e _ _ _ _,uH ?_⟩;refine⟨_,zl.qN 3 0 3 1 V V (.inl V) V V,?_⟩
 have lD:∀j,j<N->0<=xi e.next (zQ e) j:=λj hj=>by
  have:=c3 j hj;simp only[wV,r4,sU,mS,pJ,pY]at this;exact this.1.1
 have hv:∀k,(vk e k).length=k:=λk=>by simp[EE]
 have vs:∀k,vk e (k+1)=vk e k++[[I (xi e.next (zQ e) k)]]:=λk=>by
  show(vQ e.next (zQ e) (k+1)).map encI=_;rw[Eo,ry];rfl
 by_cases hok:iG e.next (zQ e)=true
 .refine⟨.normal,_,[oD e,⟨1,28,1,[[.fq 1 0 []]],0⟩,⟨1,39,1,[[I 0]],0⟩,⟨1,28,1,[[.gl 5 1 (vk e N)]],0⟩,oD e,⟨4,3,1,vk e N,0⟩],λl r h1 h2 h3 h4 h5=>⟨_,_,r,I9 e he N hN l (iy l r _) (iy l r _) (.fq 1 0 []) 0 true (λk hk=>?_) ?_,
   rfl,aH,rfl,pW _,aI,zl.low 6 _ _ V V V⟩,?_⟩
  .have g:=lD k hk;have hvk:=hv k;refine zb4 ?_;refine⟨λh=>absurd h ar,λ_=>uH ?_⟩;refine⟨λh=>absurd h ar,λ_=>uH ?_⟩;refine⟨rfl,.inr V,by simp[maxLen,hvk];omega,cg,uH ?_⟩;rw[vs k];exact dQ
  .rw[pD hok];refine zb4 ?_;refine td ?_
   exact dQ
  .have e1:xw e=(vQ e.next (zQ e) N,0):=by unfold xw;rw[pD hok,hN]
   rw[e1];conv=>whnf
   exact uI
 .refine⟨.ret,_,[oD e,⟨1,28,1,[[.fq 1 0 []]],0⟩,⟨1,39,1,[[I 11]],0⟩],λl r h1 h2 h3 h4 h5=>⟨_,_,left r .ret,I9 e he N hN l (iy l r _) (iy l (left r .ret) _) (.fq 1 0 []) 11 false (λk hk=>?_) ?_,
   rfl,ah,rfl,pW _,trivial,zl.low 3 _ _ V V V⟩,?_⟩
  .have g:=lD k hk;have hvk:=hv k;refine zb4 ?_;refine⟨λh=>absurd h ar,λ_=>uH ?_⟩;refine⟨λh=>absurd h ar,λ_=>uH ?_⟩;refine⟨rfl,.inr V,by simp[maxLen,hvk];omega,cg,uH ?_⟩;rw[vs k];exact dQ
  .rw[pA hok];refine zb4 ?_;refine td ?_
   exact⟨_,_,.refl _,rfl,.inr ⟨rfl,.inl ⟨rfl,rfl⟩⟩⟩
  .have e1:xw e=([],11):=by unfold xw;rw[pA hok]
   rw[e1];conv=>whnf
   exact⟨.inl V,_,zl.var 1 V V V (.cons (WC.nil 0 1) .nil),rfl⟩
def CA(l:List Int)(x:Int):Int:=match l.findIdx? (· == x) with|some i=>i|none=> -1
def Xp(h:∀j,(hj:j<l.length)->(l[j] == x)=false):CA l x= -1:=by
 have:l.findIdx? (· == x)=none:=by
  rw[pX];intro y hy;obtain⟨j,hj,rfl⟩:=pU.1 hy;exact h j hj
 unfold CA;rw[this]
def W3{k:Nat}(hk:k<l.length)(h1:(l[k] == x)=true)(h:∀j,(hj:j<l.length)->j<k->(l[j] == x)=false):CA l x=k:=by
 have:l.findIdx? (· == x)=some k:=by
  rw[pT];exact⟨hk,h1,λj hj=>by simpa using h j an hj⟩
 unfold CA;rw[this]
def Ml(l:List Int)(x:Int):decide (0<=CA l x)=l.contains x:=by
 unfold CA;cases e:l.findIdx? (· == x) with
 |some i=>
  rw[pT]at e;obtain⟨h1,h2,_⟩:=e;have:x∈l:=by rw[rF]at h2;rw[<-h2];exact rj h1
  simp[this]
 |none=>
  rw[pX]at e;have:¬x∈l:=λh=>by have:=e x h;simp at this
  simp[this]
def KA(l:List Int)(x:Int)(hl:l.length<4611686018427387904):th 298 [] [lI l,I x] (Bo (l.contains x)) []:=by
 refine ab func298 ?_;refine zH.seq l.length (λk=>((lI l)::I x::.za::.za::Bo false::I k::mL ([.za,.za,.za,.za]))) (λk=>[]) (λk=>∀j,(h:j<l.length)->j<k->(l[j] == x)=false) ?_ ah (λk hk hr=>?_) (λhr=>?_)
 .exact cC
 .conv=>whnf
  refine⟨λh=>uH ?_,λh=>absurd h ar⟩;refine⟨an,encI l[k],by simp[hk],uH ?_⟩;refine⟨λh1=>?_,λh1=>?_⟩
  .conv=>whnf
   refine zaW ?_
   (exact⟨.inl V,_,.refl _,uN (by rw[<-Ml,W3 hk uZ hr];simp)⟩)
  .conv=>whnf
   refine .inl ⟨rfl,?_,?_⟩
   .exact dK
   .intro j hj hjk;by_cases e:j=k
    .subst e;simpa using h1
    .exact gE
 .conv=>whnf
  refine⟨λh=>absurd h ah,λh=>uH ?_⟩;refine zb6 ?_
  (exact⟨.inl V,_,.refl _,uN (by rw[<-Ml,Xp λj hj=>hr j hj hj];simp)⟩)
def Mh(e:En):((xw e).2 == 0)=iG e.next (zQ e):=by
 unfold xw;cases iG e.next (zQ e) <;> simp
def B2(e:En)(he:e.ok):th 78 [] [Ev e] (Bo (fS e)) []:=by
 have h0:=Mh e;refine ab func78 ?_;refine af (DZ e he) ?_;refine⟨λh1=>?_,λh1=>?_⟩
 .rw[show((xw e).2 == 0)=true from h1]at h0;refine dd ?_;refine⟨λh2=>?_,λh2=>?_⟩
  .refine dd ?_;refine⟨λh3=>?_,λh3=>?_⟩
   .refine dd ?_;(repeat' (first|(refine⟨λ_=>?_,λ_=>?_⟩ <;> (conv=>whnf))|fail))
    all_goals (rename_i h4;(exact⟨.inl V,_,.refl _,uN (by simp at h2 h3 h4;simp[fS,<-h0];omega)⟩))
   .refine dd ?_
    (exact⟨.inl V,_,.refl _,uN (by simp at h2 h3;simp[fS,<-h0];omega)⟩)
  .refine dd ?_
   (exact⟨.inl V,_,.refl _,uN (by simp at h2;simp[fS,<-h0];omega)⟩)
 .rw[show((xw e).2 == 0)=false from h1]at h0;refine dd ?_
  (exact⟨.inl V,_,.refl _,uN (by simp[fS,<-h0])⟩)
def RG(e:En)(he:e.ok):th 289 [] [Ev e] (tF (xw e)) []:=by
 have hl:=he.2.1.2;have hlm:(e.next.map encI).length=e.next.length:=pz ..;obtain⟨c1,c2,c3⟩:=C9 e.next (zQ e);generalize hN:vW e.next (zQ e)=N at *;have hv:∀k,(vk e k).length=k:=λk=>by simp[EE]
 have vs:∀k,vk e (k+1)=vk e k++[[I (xi e.next (zQ e) k)]]:=λk=>by
  show(vQ e.next (zQ e) (k+1)).map encI=_;rw[Eo,ry];rfl
 have hvl:∀k,k<=N->(vQ e.next (zQ e) k).length<4611686018427387904:=λk hk=>by rw[EE];omega
 refine ab func289 ?_;refine af (x9 e.head he.1) ?_;refine zH.seq N (λk=>(.za::.ref 0 [] 3 0 0::.za::I 0::.gl 1 1 (vk e k)::I (xi e.next (zQ e) k)::mL (mL (mL ([.za,.za,.za,.za,.za,.za]))))) (λk=>[oD e,⟨4,3,1,vk e k,0⟩]) (λ_=>True) ?_ trivial (λk hk _=>?_) (λ_=>?_)
 .exact(zl.grow 4 3 1 V (.inl V)).trans (cC)
 .have h0:=c3 k hk;simp only[wV,r4,sU,mS,pJ,pY]at h0;obtain⟨⟨g1,g2⟩,g3⟩:=h0;have hvk:=hv k
  have hnx:(e.next)[(xi e.next (zQ e) k).toNat]?=some (xi e.next (zQ e) (k+1)):=by
   show _=some (Aj e.next (xi e.next (zQ e) k));unfold Aj;rw[pq an]
   rfl
  rw[vs k];have hhas:=KA (vQ e.next (zQ e) k) (xi e.next (zQ e) k) (hvl k an);rw[g3]at hhas;generalize hP:xi e.next (zQ e) k=p at *;generalize hQ:xi e.next (zQ e) (k+1)=p' at *;conv=>whnf
  refine zbW ?_;refine za9 ?_;refine za9 ?_;refine af hhas ?_;refine td ?_
  refine⟨rfl,.inr V,by simp[maxLen,hvk];omega,cg,uH ?_⟩;refine⟨g1,[I p'],by rw[pw,hnx];rfl,?_⟩;conv=>whnf
  exact .inl ⟨rfl,cC,trivial⟩
 .have hhas:=KA (vQ e.next (zQ e) N) (xi e.next (zQ e) N) (hvl N an);by_cases hok:iG e.next (zQ e)=true
  .have hp:xi e.next (zQ e) N= -1:=by simpa [iG,hN] using hok
   have e1:xw e=(vQ e.next (zQ e) N,0):=by unfold xw;rw[pD hok,hN]
   rw[hp,e1];conv=>whnf
   refine zcm ?_;exact uI
  .have hp:xi e.next (zQ e) N≠ -1:=by intro h;exact hok (by simp[iG,hN,h])
   have e1:xw e=([],11):=by unfold xw;rw[pA hok]
   rw[e1];have hst:=c2;simp only[wV,rZ,rE,mS,uo,rD]at hst;generalize hP:xi e.next (zQ e) N=p at *;conv=>whnf
   refine⟨λ_=>dd ?_,λh=>absurd h (by simp;exact hp)⟩;refine⟨λh1=>?_,λh1=>?_⟩
   .refine dd ?_;refine zb6 ?_;exact dN
   .refine dd ?_;refine⟨λh2=>?_,λh2=>?_⟩
    .refine dd ?_;refine zb6 ?_;exact dN
    .have h3:(vQ e.next (zQ e) N).contains p=true:=by
      simp at h1 h2;rcases hst with(h|h)|h
      .omega
      .omega
      .exact h
     refine dd ?_;refine af hhas ?_;refine⟨λ_=>dd ?_,λh=>absurd ((h3).symm.trans h:true=false) aj⟩;refine zb6 ?_;exact dN
def CS(e:En)(he:e.ok):th 272 [] [Ev e] (Bo (fS e)) []:=by
 have h0:=Mh e;refine ab func272 ?_;refine af (RG e he) ?_;refine⟨λh1=>?_,λh1=>?_⟩
 .rw[show((xw e).2 == 0)=true from h1]at h0;refine dd ?_;refine⟨λh2=>?_,λh2=>?_⟩
  .refine dd ?_;refine⟨λh3=>?_,λh3=>?_⟩
   .refine dd ?_;(repeat' (first|(refine⟨λ_=>?_,λ_=>?_⟩ <;> (conv=>whnf))|fail))
    all_goals (rename_i h4;(exact⟨.inl V,_,.refl _,uN (by simp at h2 h3 h4;simp[fS,<-h0];omega)⟩))
   .refine dd ?_
    (exact⟨.inl V,_,.refl _,uN (by simp at h2 h3;simp[fS,<-h0];omega)⟩)
  .refine dd ?_
   (exact⟨.inl V,_,.refl _,uN (by simp at h2;simp[fS,<-h0];omega)⟩)
 .rw[show((xw e).2 == 0)=false from h1]at h0;refine dd ?_
  (exact⟨.inl V,_,.refl _,uN (by simp[fS,<-h0])⟩)
def Gb(x i:Int)(h:u64 x)(h3: -1<=i)(h4:i<=2147483646):th 175 [] [U x,I i] (.fy [U (vq x i),I 0]) []:=
 B6 [] (λw=>(YtamgiodaflkbhaaGreat.VA x i w (AV h).1 (AV h).2 h3 h4).mono λe w' ⟨h1,h2⟩=>⟨h1,h2.symm⟩) EZ λE=>.fy _ _ V λj c y e1 e2=>by
  match j,e1,e2 with
  |0,e1,e2=>cases e1;cases e2;exact .v _ V
  |1,e1,e2=>cases e1;cases e2;exact .v _ V
def FR(x i:Int)(h:u64 x)(h3: -1<=i)(h4:i<=2147483646):th 96 [] [U x,I i] (.fy [U (vq x i),I 0]) []:=
 B6 [] (λw=>(YtamgiodaflkbhaaGreat.Ry x i w (AV h).1 (AV h).2 h3 h4).mono λe w' ⟨h1,h2⟩=>⟨h1,h2.symm⟩) EZ λE=>.fy _ _ V λj c y e1 e2=>by
  match j,e1,e2 with
  |0,e1,e2=>cases e1;cases e2;exact .v _ V
  |1,e1,e2=>cases e1;cases e2;exact .v _ V
abbrev tQ(r:En×Int):C:=.fy [Ev r.1,I r.2]
def qz(X Y:Ob)(x:Int)(l:List Int)(hl:l.length<17592186043904):th 223 [X,Y] [lI (x::l)] (.sl 2 [] 1 0 (0+((l.map encI).length+1)) false) [X,Y,⟨2,3,1,(x::l).map encI,0⟩]:=by
 refine zb.zX (fn:=f223) func223 V (uH ?_);exact zcz
def AU(a b:En):Bool:=a.head == b.head && a.zo == b.zo && a.next == b.next
def Rl(a b:En)(ha:a.ok)(hb:b.ok):th 80 [] [Ev a,Ev b] (Bo (AU a b)) []:=by
 have hal:=ha.2.1.2;have hbl:=hb.2.1.2;refine ab func80 ?_;refine⟨λh=>?_,λh=>?_⟩
 .refine dd ?_
  (exact⟨.inl V,_,.refl _,uN (by simp[AU];simp at h;simp[h])⟩)
 .refine dd ?_;refine⟨λh2=>?_,λh2=>?_⟩
  .refine dd ?_
   (exact⟨.inl V,_,.refl _,uN (by simp[AU];simp at h2;simp[h2])⟩)
  .refine dd ?_;refine⟨λh3=>?_,λh3=>?_⟩
   .refine dd ?_
    (exact⟨.inl V,_,.refl _,uN (by simp[AU];intro _ _ e;rw[e]at h3;simp at h3)⟩)
   .have hl:a.next.length=b.next.length:=by simp at h3;omega
    have e0:AU a b=(a.next == b.next):=by simp at h h2;simp[AU,h,h2]
    rw[e0];refine dd ?_;refine zH.seq a.next.length (λk=>(.za::.za::.ref 0 [] 3 0 0::.ref 1 [] 3 0 0::Bo false::I k::mL (mL (mL (mL ([.za,.za,.za,.za,.za,.za,.za])))))) (λk=>[oD a,oD b]) (λk=>∀j,(h:j<a.next.length)->j<k->a.next[j]=b.next[j]'an) ?_ ah (λk hk hr=>?_) (λhr=>?_)
    .exact cC
    .conv=>whnf
     refine⟨λh=>uH ?_,λh=>absurd h ar⟩;refine uE ?_;refine⟨an,encI a.next[k],by simp[hk],dd ?_⟩;refine⟨an,encI (b.next[k]'an),by rw[toNat_cast,pw,pq an];rfl,?_⟩;refine dd ?_;refine⟨λh4=>?_,λh4=>?_⟩
     .refine zci ?_
      (exact⟨.inl V,_,.refl _,uN (by symm;rw[beq_eq_false_iff_ne];intro e;simp[e]at h4)⟩)
     .refine dd ?_;refine .inl ⟨rfl,?_,?_⟩
      .exact gL
      .intro j hj hjk;by_cases e:j=k
       .subst e;simpa using h4
       .exact gE
    .conv=>whnf
     refine⟨λh=>absurd h ah,λh=>uH ?_⟩;refine zb6 ?_
     (exact⟨.inl V,_,.refl _,uN (by symm;rw[rF];exact List.ext_getElem hl λj h1 h2=>hr j h1 h1)⟩)
def Tf:th 163 [] [.v (.int .u32 0),I 0] (.fy [U 1,I 0]) []:=
 B6 [] (λw=>(YtamgiodaflkbhaaGreat.Lv 0 0 w aj aj aj aj).mono λe w' ⟨h1,h2⟩=>⟨h1,h2.symm⟩) EZ λE=>.fy _ _ V λj c y e1 e2=>by
  match j,e1,e2 with
  |0,e1,e2=>cases e1;cases e2;exact .v _ V
  |1,e1,e2=>cases e1;cases e2;exact .v _ V
def kh(n k:Nat):List Int:=(List.range n).map λi=>if i<k then (i:Int)+1 else 0
def oY(n:Nat):List Int:=(List.range n).map λ(i:Nat)=>if i+1=n then -1 else (i:Int)+1
def BS(n k:Nat):(kh n k).length=n:=by simp[kh]
def Vh{n k:Nat}(h:k<n):(kh n k).set k ((k:Int)+1)=kh n (k+1):=by
 apply rL
 intro j;rw[pM,BS];unfold kh;simp only[pw];by_cases hj:j<n
 .rw[sR hj];by_cases e:k=j
  .subst e;simp[h]
  .simp only[e,if_false,pL];by_cases h2:j<k
   .simp[h2,show j<k+1 from an]
   .simp[h2,show ¬j<k+1 from an]
 .rw[rQ ar];simp;omega
def Wo{n:Nat}:(kh n n).set (n-1) (-1)=oY n:=by
 apply rL
 intro j;rw[pM,BS];unfold kh oY;simp only[pw];by_cases hj:j<n
 .rw[sR hj];by_cases e:n-1=j
  .subst e;simp[show n-1<n from an,show n-1+1=n from an]
  .simp only[e,if_false,pL,hj,if_true,show ¬j+1=n from an]
 .rw[rQ ar];simp;omega
def Ln{n:Int}(h1:¬(n<1\/4<n)):yR n=(⟨1,oY n.toNat,0⟩,0):=by unfold yR;rw[pA h1];rfl
def II(n:Int):th 117 [] [I n] (tQ (yR n)) []:=by
 refine ab func117 ?_;have hbad:n<1\/4<n->yR n=(no,1):=λh=>by unfold yR;rw[pD h]
 refine⟨λh1=>?_,λh1=>?_⟩
 .rw[hbad (.inl uZ)];exact dT
 .refine dd ?_;refine⟨λh2=>?_,λh2=>?_⟩
  .rw[hbad (.inr tM)];exact dT
  .have g1:1<=n:=by simp at h1;omega
   have g2:n<=4:=aD
   rw[Ln an];obtain⟨m,rfl⟩:∃m:Nat,n=m:=⟨n.toNat,an⟩;rw[toNat_cast];refine dd ?_;refine⟨rfl,an,by show(8:Int)*_<=_;omega,an,dd ?_⟩;refine zH.seq m (λk=>(I m::.za::.ref 0 [] 3 0 0::I 0::.ref 2 [] 3 0 0::mL (.za::.za::.za::.za::.za::I m::I k::mL (mL ([.za,.za,.za,.za]))))) (λk=>[⟨1,151,3,[[U 0,.fq 1 0 [],I 0]],0⟩,⟨2,3,1,(kh m k).map encI,0⟩,⟨1,151,3,[[U 0,.sl 1 [] 1 0 m false,I 0]],0⟩]) (λ_=>True) ?_ trivial (λk hk _=>?_) (λ_=>?_)
   .have e1:List.replicate ((m:Int)).toNat [C.v (Value.int .i64 0)]=(kh m 0).map encI:=by
     simp only[toNat_cast];apply rL
     intro j;rw[ua,pw];unfold kh;simp only[pw];split
     .rename_i hj;rw[sR hj];rfl
     .rw[rQ ar];rfl
    show zl 0 ⟨_,[_,⟨2,3,1,List.replicate ((m:Int)).toNat [C.v (Value.int .i64 0)],0⟩,_]⟩ _;rw[e1];exact cC
   .have hg:((kh m k).map encI)[k]?=some (encI ((kh m k)[k]'(by rw[BS];exact hk))):=by rw[pw,pq (by rw[BS];exact hk)];rfl
    have hse:((kh m k).map encI).set k [I ((k+1:Nat):Int)]=(kh m (k+1)).map encI:=by rw[<-Vh hk,sA];rfl
    conv=>whnf
    refine⟨λ_=>uH ?_,λh=>absurd h ar⟩;refine⟨an,ar,dd ?_⟩;rw[pK,zk an,toNat_cast];refine⟨_,hg,rfl,dd ?_⟩;rw[show List.set (List.map encI (kh m k)) k [C.v (Value.int IntKind.i64 ((k+1:Nat):Int))]=(kh m (k+1)).map encI from hse];refine zap ?_;rw[zk an];exact cE 3
   .have hg:((kh m m).map encI)[m-1]?=some (encI ((kh m m)[m-1]'(by rw[BS];omega))):=by rw[pw,pq (by rw[BS];omega)];rfl
    have hse:((kh m m).map encI).set (m-1) [I (-1)]=(oY m).map encI:=by rw[<-Wo,sA];rfl
    have hw:IntKind.i64.wrap ((m:Int)-1)=((m-1:Nat):Int):=by rw[jF an an];omega
    have ik:(oY m).length=m:=by simp[oY]
    conv=>whnf
    refine zcm ?_;rw[hw];refine⟨an,ar,dd ?_⟩;rw[pK,toNat_cast];refine⟨_,hg,rfl,dd ?_⟩;rw[show List.set (List.map encI (kh m m)) (m-1) [C.v (Value.int IntKind.i64 (-1))]=(oY m).map encI from hse];refine af Tf ?_
    exact⟨.inl V,_,zl.WW 0 1 V V V (by simp[ik]) (λr hr c hc=>by
     obtain⟨n,_,rfl⟩:=rp.1 hr;simp[encI]at hc;subst hc;rfl) rfl rfl,rfl⟩
def oh(k:Nat):List Int:=(List.range k).map λ(i:Nat)=>(i:Int)+1
def Vi(k:Nat):oh (k+1)=oh k++[((k+1:Nat):Int)]:=by simp[oh,u5]
def Sa{m:Nat}(h:1<=m):oY m=oh (m-1)++[-1]:=by
 obtain⟨k,rfl⟩:∃k,m=k+1:=⟨m-1,an⟩;unfold oY oh;rw[u5,ry]
 congr 1
 .apply sQ
  intro i hi;have:=sy.1 hi;rw[pA an]
 .simp
def P9(n:Int):th 129 [] [I n] (tQ (yR n)) []:=by
 refine ab func129 ?_;have hbad:n<1\/4<n->yR n=(no,1):=λh=>by unfold yR;rw[pD h]
 refine⟨λh1=>?_,λh1=>?_⟩
 .rw[hbad (.inl uZ)];exact dT
 .refine dd ?_;refine⟨λh2=>?_,λh2=>?_⟩
  .rw[hbad (.inr tM)];exact dT
  .have g1:1<=n:=by simp at h1;omega
   have g2:n<=4:=aD
   rw[Ln an];obtain⟨m,rfl⟩:∃m:Nat,n=m:=⟨n.toNat,an⟩;rw[toNat_cast];have hl:∀k,((oh k).map encI).length=k:=λk=>by simp[oh]
   refine dd ?_;refine zH.seq (m-1) (λk=>(I m::.za::.ref 0 [] 3 0 0::I 0::.ref 1 [] 3 0 0::I ((k+1:Nat):Int)::mL (mL (mL ([.za]))))) (λk=>[⟨1,151,3,[[U 0,.fq 1 0 [],I 0]],0⟩,⟨1,151,3,[[U 1,.gl 2 1 (((oh k).map encI)),I 0]],0⟩,⟨4,3,1,((oh k).map encI),0⟩]) (λ_=>True) ?_ trivial (λk hk _=>?_) (λ_=>?_)
   .exact(zl.qN 1 1 3 1 V V (.inl V) V V).trans (cC)
   .have hlk:=hl k;conv=>whnf
    refine⟨λ_=>uH ?_,λh=>absurd h ar⟩;refine⟨rfl,.inr V,by simp[maxLen,hlk];omega,by show _*8<=_;simp[hlk];omega,uH ?_⟩;refine zap ?_;have e:(oh (k+1)).map encI=(oh k).map encI++[[I ((k+1:Nat):Int)]]:=by rw[Vi,ry];rfl
    rw[zk an,e];exact cE 3
   .have hlk:=hl (m-1);conv=>whnf
    refine⟨λh=>absurd h ar,λ_=>uH ?_⟩;refine zb6 ?_;refine⟨rfl,.inr V,by simp[maxLen,hlk];omega,by show _*8<=_;simp[hlk];omega,uH ?_⟩;have e:(oY m).map encI=(oh (m-1)).map encI++[[I (-1)]]:=by rw[Sa an,ry];rfl
    exact⟨.inl V,_,.refl _,sH (λx=>some (C.fy [.agg [U 1,.fq 0 1 x,I 0],I 0])) e.symm⟩
end Go.Slp
