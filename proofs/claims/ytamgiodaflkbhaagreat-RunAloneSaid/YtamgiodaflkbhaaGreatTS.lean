import Derived.WalkKit
import Derived.Test.YtamgiodaflkbhaaGreatRows
import Derived.Test.YtamgiodaflkbhaaGreatTJ
import Derived.Test.YtamgiodaflkbhaaGreatTC
import Derived.Test.YtamgiodaflkbhaaGreatProg
set_option linter.all false
set_option maxRecDepth 100000
set_option maxHeartbeats 4000000
namespace Go.Proofs.YtamgiodaflkbhaaGreat
open Go.RowKit
def WH(t i:Int)(h1:0<=t)(h2:t<4294967296)(h3: -1<=i)(h4:i<=2147483646):
  bits .or .u64 (t*4294967296) (i+1)=t*4294967296+(i+1):=by
 rw[u64_or _ _ an an an an];obtain⟨a,rfl⟩:=Int.eq_ofNat_of_zero_le h1;obtain⟨b,hb⟩:=Int.eq_ofNat_of_zero_le (show 0<=i+1 by omega);rw[hb]
 have eP:b<2 ^ 32:=by
   have:(b:Int)<4294967296:=an
   simpa using (by omega:b<4294967296)
 have:=Nat.two_pow_add_eq_or_of_lt eP a;have e:((a:Int)*4294967296).toNat=2 ^ 32*a:=an
 rw[e,um,<-this];omega
def KT(t i:Int)(w:World)(h1:0<=t)(h2:t<4294967296)(h3: -1<=i)(h4:i<=2147483646):
  Calls Tryz.prog 163 #[.int .u32 t,.int .i64 i] w λe w'=>e=.returned (.tuple #[.int .u64 (t*4294967296+(i+1)),.int .i64 0])/\w=w':=by
 go_enter Tryz.func163,Tryz.ntmps163
 go_wp2
 go_ret2
 exact⟨by simp[WH t i h1 h2 h3 h4],rfl⟩
def Wd(x:Int)(w:World)(h1:0<=x)(h2:x<18446744073709551616):
  Calls Tryz.prog 230 #[.int .u64 x] w λe w'=>e=.returned (.int .u32 (x / 4294967296))/\w=w':=by
 go_enter Tryz.func230,Tryz.ntmps230
 go_wp2
 go_ret
 exact gd
def To(x:Int)(w:World)(h1:0<=x)(h2:x<18446744073709551616):
  Calls Tryz.prog 169 #[.int .u64 x] w λe w'=>e=.returned (.int .i64 (x%4294967296-1))/\w=w':=by
 go_enter Tryz.func169,Tryz.ntmps169
 go_wp2
 go_ret
 exact gd
def US(x i:Int)(w:World)(h1:0<=x)(h2:x<18446744073709551616)(h3: -1<=i)(h4:i<=2147483646):
  Calls Tryz.prog 175 #[.int .u64 x,.int .i64 i] w λe w'=>e=.returned (.tuple #[.int .u64 ((x / 4294967296+1)%4294967296*4294967296+(i+1)),.int .i64 0])/\w=w':=by
 go_enter Tryz.func175,Tryz.ntmps175
 go_wp2_with (first|(go_at_call 230;refine(Wd _ _ h1 h2).mono ?_;rintro e w' ⟨rfl,rfl⟩)|(go_at_call 163;refine(KT _ _ _ an an h3 h4).mono ?_;rintro e w' ⟨rfl,rfl⟩))
 go_ret2
 exact gd
def Ji(t i:Int)(w:World)(h1:0<=t)(h2:t<4294967296)(h3: -1<=i)(h4:i<=2147483646):
  Calls Tryz.prog 154 #[.int .u32 t,.int .i64 i] w λe w'=>e=.returned (.tuple #[.int .u64 (t*4294967296+(i+1)),.int .i64 0])/\w=w':=by
 go_enter Tryz.func154,Tryz.ntmps154
 go_wp2
 go_ret2
 exact gd
def JP(x:Int)(w:World)(h1:0<=x)(h2:x<18446744073709551616):
  Calls Tryz.prog 153 #[.int .u64 x] w λe w'=>e=.returned (.int .u32 (x / 4294967296))/\w=w':=by
 go_enter Tryz.func153,Tryz.ntmps153
 go_wp2
 go_ret
 exact gd
def PF(x:Int)(w:World)(h1:0<=x)(h2:x<18446744073709551616):
  Calls Tryz.prog 95 #[.int .u64 x] w λe w'=>e=.returned (.int .i64 (x%4294967296-1))/\w=w':=by
 go_enter Tryz.func95,Tryz.ntmps95
 go_wp2
 go_ret
 exact gd
def QJ(x i:Int)(w:World)(h1:0<=x)(h2:x<18446744073709551616)(h3: -1<=i)(h4:i<=2147483646):
  Calls Tryz.prog 96 #[.int .u64 x,.int .i64 i] w λe w'=>e=.returned (.tuple #[.int .u64 ((x / 4294967296+1)%4294967296*4294967296+(i+1)),.int .i64 0])/\w=w':=by
 by_cases hx:x / 4294967296<4294967295
 .go_enter Tryz.func96,Tryz.ntmps96
  go_wp2_with (first|(go_at_call 153;refine(JP _ _ h1 h2).mono ?_;rintro e w' ⟨rfl,rfl⟩)|(go_at_call 154;refine(Ji _ _ _ an an h3 h4).mono ?_;rintro e w' ⟨rfl,rfl⟩))
  go_ret2
  refine⟨?_,rfl⟩;have e:(x / 4294967296+1)%4294967296=x / 4294967296+1:=an
  rw[e];rfl
 .go_enter Tryz.func96,Tryz.ntmps96
  go_wp2_with (first|(go_at_call 153;refine(JP _ _ h1 h2).mono ?_;rintro e w' ⟨rfl,rfl⟩)|(go_at_call 154;refine(Ji _ _ _ an an h3 h4).mono ?_;rintro e w' ⟨rfl,rfl⟩))
  go_ret2
  refine⟨?_,rfl⟩;have e:(x / 4294967296+1)%4294967296=0:=an
  rw[e];simp
end Go.Proofs.YtamgiodaflkbhaaGreat
namespace Go.Slp
open Go.Ab Go.Hy
variable{nx:List Int}{i0:Int}{e:En}
def l7(nx:List Int)(i:Int):Bool:=decide (0<=i) && decide (i<nx.length)
def oA(nx:List Int)(i:Int):Int:=(nx[i.toNat]?).getD 0
def xc(nx:List Int)(i0:Int):Nat->Int
 |0=>i0
 |k+1=>oA nx (xc nx i0 k)
def vy(nx:List Int)(i0:Int)(k:Nat):List Int:=(List.range k).map (xc nx i0)
def wE(nx:List Int)(i0:Int)(k:Nat):Bool:=!l7 nx (xc nx i0 k) || (vy nx i0 k).contains (xc nx i0 k)
def vE(nx:List Int)(i0:Int):Nat:=((List.range (nx.length+1)).find? (wE nx i0)).getD 0
def fZ(nx:List Int)(i0:Int):Bool:=xc nx i0 (vE nx i0) == -1
def GO:∀(n:Nat) (l:List Int),l.Nodup->(∀x∈l,0<=x/\x<n)->l.length<=n
 |0,l,_,h=>by
  cases l with
  |nil=>exact pj _
  |cons x l=>have:=h x (rM ..);omega
 |n+1,l,hd,h=>by
  by_cases hm:(n:Int)∈l
  .have h1:=GO n (l.erase n) (hd.erase _) λx hx=>by
    have h2:=h x (List.mem_of_mem_erase hx)
    have h3:x≠n:=λe=>by
     subst e;exact absurd hx (List.Nodup.not_mem_erase hd)
    omega
   rw[List.length_erase_of_mem hm]at h1;omega
  .have:=GO n l hd λx hx=>by
    have h2:=h x hx;have h3:x≠n:=λe=>hm (e ▸ hx)
    omega
   omega
def DP(nx:List Int)(i0:Int)(k:Nat):vy nx i0 (k+1)=vy nx i0 k++[xc nx i0 k]:=by
 simp[vy,ua]
def D1(nx:List Int)(i0:Int)(k:Nat):(vy nx i0 k).length=k:=by simp[vy]
def Lb{nx:List Int}{i0:Int}:∀{k:Nat},(∀j,j<k->wE nx i0 j=false)->(vy nx i0 k).Nodup/\∀x∈vy nx i0 k,l7 nx x=true
 |0,_=>⟨by simp[vy],by simp[vy]⟩
 |k+1,h=>by
  obtain⟨h1,h2⟩:=Lb (k:=k) λj hj=>h j an
  have h3:=h k an;simp only[wE,rk,sx]at h3;have h4:xc nx i0 k∉vy nx i0 k:=ai h3.2
  rw[DP];refine⟨?_,?_⟩
  .rw[List.nodup_append];refine⟨h1,ah,?_⟩;intro a ha b hb e;rw[pX]at hb;subst hb e;exact h4 ha
  .intro x hx;rcases pw.1 hx with hx|hx
   .exact h2 x hx
   .rw[pX.1 hx];exact h3.1
def Cq(nx:List Int)(i0:Int):vE nx i0<=nx.length/\wE nx i0 (vE nx i0)=true/\∀j,j<vE nx i0->wE nx i0 j=false:=by
 unfold vE;cases e:(List.range (nx.length+1)).find? (wE nx i0) with
 |none=>
  exfalso
  rw[List.find?_eq_none]at e;have h:∀j,j<nx.length+1->wE nx i0 j=false:=λj hj=>by simpa using e j (rS.2 hj)
  obtain⟨h1,h2⟩:=Lb h
  have:=GO nx.length _ h1 λx hx=>by
   have:=h2 x hx;simp only[l7,gY,pE]at this;exact dW
  rw[D1]at this;omega
 |some k=>
  rw[List.find?_eq_some_iff_append]at e;obtain⟨h1,az,bs,h2,h3⟩:=e
  have hk:az.length=k/\k<nx.length+1:=by
   have h4:(List.range (nx.length+1))[az.length]?=some k:=by rw[h2];simp
   have h5:=(gN.1 h4);obtain⟨h6,h7⟩:=h5;rw[List.getElem_range]at h7;simp at h6;omega
  refine⟨ar,ai h1,λj hj=>?_⟩
  have h8:(List.range (nx.length+1))[j]?=some j:=by
   simp at hj;rw[sa an]
  rw[h2,gW (by simp at hj;omega)]at h8;simpa using h3 j (gT h8)
abbrev no:En:=⟨0,[],0⟩
def zR(e:En):Int:=e.head%4294967296-1
def y9(x i:Int):Int:=(x / 4294967296+1)%4294967296*4294967296+(i+1)
def xp(e:En):List Int×Int:=if fZ e.next (zR e) then (vy e.next (zR e) (vE e.next (zR e)),0) else ([],11)
def fm(e:En):Bool:=fZ e.next (zR e) && decide (1<=e.next.length) && decide (e.next.length<=4) && decide (0<=e.zo)
def yF(n:Int):En×Int:=if n<1\/4<n then (no,1) else (⟨1,(List.range n.toNat).map λ(i:Nat)=>if i+1=n.toNat then -1 else (i:Int)+1,0⟩,0)
def Wp(h:fZ nx i0=true){k:Nat}(hk:k<vE nx i0):l7 nx (xc nx i0 k)=true/\ -1<=xc nx i0 (k+1)/\xc nx i0 (k+1)<nx.length:=by
 obtain⟨h1,h2,h3⟩:=Cq nx i0;have h4:=h3 k hk;simp only[wE,rk,sx]at h4;refine⟨h4.1,?_⟩;rcases sP (k+1) (vE nx i0) with h5|h5
 .have h6:=h3 _ h5;simp only[wE,rk,sx,l7,gY,pE]at h6;omega
 .have e:k+1=vE nx i0:=by omega
  rw[e];simp only[fZ,pU]at h;rw[h];omega
def VH(h:fZ nx i0=true)(h0:¬i0<0):0<vE nx i0:=by
 rcases sW (vE nx i0) with e|e
 .simp only[fZ,e,xc,pU]at h;omega
 .exact e
def L4(h:fm e=true):fZ e.next (zR e)=true/\1<=e.next.length/\e.next.length<=4/\0<=e.zo:=by
 simp only[fm,gY,pE]at h;exact⟨h.1.1.1,h.1.1.2,h.1.2,h.2⟩
def Ld(h:fm e=true)(h0:¬zR e<0):0<=zR e/\zR e<e.next.length/\ -1<=oA e.next (zR e)/\oA e.next (zR e)<e.next.length:=by
 obtain⟨h1,h2,h3,h4⟩:=L4 h;obtain⟨h5,h6,h7⟩:=Wp h1 (VH h1 h0);simp only[l7,xc,gY]at h5;exact⟨gQ h5.1,gQ h5.2,h6,h7⟩
def yA(nx:List Int)(i0:Int):Nat->List Bool
 |0=>List.replicate nx.length false
 |k+1=>(yA nx i0 k).set (xc nx i0 k).toNat true
def K6(nx:List Int)(i0:Int):∀k,(yA nx i0 k).length=nx.length
 |0=>by simp[yA]
 |k+1=>by simp[yA,K6 nx i0 k]
def Gh{nx:List Int}{i0:Int}:∀{k:Nat},(∀j,j<k->l7 nx (xc nx i0 j)=true)->∀{i:Nat},i<nx.length->(yA nx i0 k)[i]?=some ((vy nx i0 k).contains (i:Int))
 |0,_,i,hi=>by simp[yA,vy,hi]
 |k+1,h,i,hi=>by
  have ih:=Gh (k:=k) (λj hj=>h j an) hi;have hb:=h k an;simp only[l7,gY,pE]at hb;rw[DP];simp only[yA];rw[pd,K6];by_cases e:(xc nx i0 k).toNat=i
  .rw[gS e,gS an];have:(i:Int)=xc nx i0 k:=by omega
   simp[this]
  .rw[gP e,ih];have:¬(i:Int)=xc nx i0 k:=by omega
   simp[this]
end Go.Slp
namespace Go.Slp
open Go.Ab Go.Proofs Tryz Go.Hy
variable{x:Int}{l:List Int}
def Aj(h:u64 x):0<=x/\x<18446744073709551616:=by unfold u64 at h;omega
def qG(x:Int)(h:u64 x):th 169 [] [U x] (I (x%4294967296-1)) []:=
 Bi [] (λw=>(YtamgiodaflkbhaaGreat.To x w (Aj h).1 (Aj h).2).mono λe w' ⟨h1,h2⟩=>⟨h1,h2.symm⟩) Mu λE=>.v _ V
def xS(x:Int)(h:u64 x):th 95 [] [U x] (I (x%4294967296-1)) []:=
 Bi [] (λw=>(YtamgiodaflkbhaaGreat.PF x w (Aj h).1 (Aj h).2).mono λe w' ⟨h1,h2⟩=>⟨h1,h2.symm⟩) Mu λE=>.v _ V
abbrev Ev(e:En):C:=.agg (zu e)
abbrev vk(e:En)(k:Nat):List (List C):=(vy e.next (zR e) k).map encI
def Pf(e:En)(he:e.ok)(l:Nat)(rec rec':Ob)(rr:C)(rn:Int)
 (hy:∀k,k<vE e.next (zR e)->jn prog l ([oD e,⟨1,28,1,[[.eM 1 0 []]],0⟩,⟨1,39,1,[[I 0]],0⟩,⟨1,28,1,[[.gl 5 1 (vk e k)]],0⟩,oD e,⟨4,3,1,(vk e k),0⟩,rec]++[⟨2,4,1,(yA e.next (zR e) (k+1)).map yt,0⟩]) [I (xc e.next (zR e) k)] (Bo true) ([oD e,⟨1,28,1,[[.eM 1 0 []]],0⟩,⟨1,39,1,[[I 0]],0⟩,⟨1,28,1,[[.gl 5 1 (vk e (k+1))]],0⟩,oD e,⟨4,3,1,(vk e (k+1)),0⟩,rec]++[⟨2,4,1,(yA e.next (zR e) (k+1)).map yt,0⟩]))
 (hz:∃b,jn prog l ([oD e,⟨1,28,1,[[.eM 1 0 []]],0⟩,⟨1,39,1,[[I 0]],0⟩,⟨1,28,1,[[.gl 5 1 (vk e (vE e.next (zR e)))]],0⟩,oD e,⟨4,3,1,(vk e (vE e.next (zR e))),0⟩,rec]++[⟨2,4,1,(yA e.next (zR e) (vE e.next (zR e))).map yt,0⟩]) [I (if fZ e.next (zR e) then -1 else -2)] (Bo b) ([oD e,⟨1,28,1,[[rr]],0⟩,⟨1,39,1,[[I rn]],0⟩,⟨1,28,1,[[.gl 5 1 (vk e (vE e.next (zR e)))]],0⟩,oD e,⟨4,3,1,(vk e (vE e.next (zR e))),0⟩,rec']++[⟨2,4,1,(yA e.next (zR e) (vE e.next (zR e))).map yt,0⟩])):
  th 168 [oD e,⟨1,28,1,[[.eM 1 0 []]],0⟩,⟨1,39,1,[[I 0]],0⟩,⟨1,28,1,[[.gl 5 1 (vk e 0)]],0⟩,oD e,⟨4,3,1,(vk e 0),0⟩,rec] [.v (.func (.yield l) #[] #[]),.ref 4 [] 3 0 0] (.eR []) ([oD e,⟨1,28,1,[[rr]],0⟩,⟨1,39,1,[[I rn]],0⟩,⟨1,28,1,[[.gl 5 1 (vk e (vE e.next (zR e)))]],0⟩,oD e,⟨4,3,1,(vk e (vE e.next (zR e))),0⟩,rec']++[⟨2,4,1,(yA e.next (zR e) (vE e.next (zR e))).map yt,0⟩]):=by
 refine zb.zZ (fn:=f168) func168 V (uH ?_);have hl:=he.2.1.2;have hlm:(e.next.map encI).length=e.next.length:=gO ..;obtain⟨c1,c2,c3⟩:=Cq e.next (zR e)
 have iL:∀j,j<vE e.next (zR e)->l7 e.next (xc e.next (zR e) j)=true:=λj hj=>by
  have:=c3 j hj;simp only[wE,rk,sx]at this;exact this.1
 refine⟨rfl,an,by show(1:Int)*_<=_;omega,an,uH ?_⟩;refine af (qG e.head he.1) ?_
 refine zH.seq (vE e.next (zR e)) (λk=>(.v (.func (.yield l) #[] #[])::.ref 4 [] 3 0 0::.za::.sl 7 [] 1 0 e.next.length false::I (xc e.next (zR e) k)::mK (mK (mK (mK ([.za,.za,.za,.za,.za,.za,.za]))))))
  (λk=>[oD e,⟨1,28,1,[[.eM 1 0 []]],0⟩,⟨1,39,1,[[I 0]],0⟩,⟨1,28,1,[[.gl 5 1 (vk e k)]],0⟩,oD e,⟨4,3,1,(vk e k),0⟩,rec]++[⟨2,4,1,(yA e.next (zR e) k).map yt,0⟩]) (λ_=>True) ?_ trivial (λk hk _=>?_) (λ_=>?_)
 .have e1:List.replicate (((e.next.map encI).length:Int)).toNat (List.map iZ (Value.bool false).cells.toList)=(yA e.next (zR e) 0).map yt:=by
   simp[yA,yt,iZ,Value.cells]
  rw[e1,hlm,toNat_cast];exact cC
 .have g:=iL k hk;simp only[l7,gY,pE]at g;obtain⟨g1,g2⟩:=g;have hs:=Gh (nx:=e.next) (i0:=zR e) (k:=k) (λj hj=>iL j an) (i:=(xc e.next (zR e) k).toNat) an
  have hv:(vy e.next (zR e) k).contains (((xc e.next (zR e) k).toNat:Nat):Int)=false:=by
   have:=c3 k hk;simp only[wE,rk,sx]at this;rw[tx g1];exact this.2
  rw[hv]at hs;have hyk:=hy k hk
  have hnx:(e.next)[(xc e.next (zR e) k).toNat]?=some (xc e.next (zR e) (k+1)):=by
   show _=some (oA e.next (xc e.next (zR e) k));unfold oA;rw[gL an]
   rfl
  have hse:(yA e.next (zR e) (k+1)).map yt=((yA e.next (zR e) k).map yt).set (xc e.next (zR e) k).toNat [Bo true]:=by
   show(List.set _ _ _).map yt=_;rw[r3];rfl
  rw[hse]at hyk;rw[hse];generalize hP:xc e.next (zR e) k=p at *;generalize hQ:xc e.next (zR e) (k+1)=p' at *;conv=>whnf
  refine zbH ?_;refine zbv ?_;refine zbv ?_;refine⟨g1,an,uH ?_⟩;refine⟨[Bo false],by rw[gZ,gM,hs];rfl,pj _,?_⟩;refine zac ?_
  refine⟨g1,an,uH ?_⟩;refine⟨[Bo false],by rw[gZ,gM,hs];rfl,rfl,?_⟩;conv=>whnf
  rw[gZ];refine⟨_,_,hyk,dd ?_⟩;refine td ?_
  refine⟨g1,[I p'],by rw[gM,hnx];rfl,?_⟩;conv=>whnf
  exact .inl ⟨rfl,cC,trivial⟩
 .generalize hN:vE e.next (zR e)=N at *;have hsN:∀{i:Nat},i<e.next.length->(yA e.next (zR e) N)[i]?=some ((vy e.next (zR e) N).contains (i:Int)):=λh=>Gh (nx:=e.next) (i0:=zR e) (k:=N) (λj hj=>iL j hj) h
  obtain⟨b,hz⟩:=hz;by_cases hok:fZ e.next (zR e)=true
  .have hp:xc e.next (zR e) N= -1:=by simpa [fZ,hN] using hok
   rw[gS hok]at hz;rw[hp];conv=>whnf
   refine zb7 ?_;refine⟨_,_,hz,uH ?_⟩;refine⟨λ_=>?_,λ_=>?_⟩ <;>
   .conv=>whnf
    exact dK
  .have hp:xc e.next (zR e) N≠ -1:=by intro h;exact hok (by simp[fZ,hN,h])
   rw[gP hok]at hz;generalize hP:xc e.next (zR e) N=p at *;conv=>whnf
   refine⟨λ_=>dd ?_,λh=>absurd h (by simp;exact hp)⟩;have fin:∀(X:Prop),X->X:=λ_ h=>h
   refine⟨λh1=>?_,λh1=>?_⟩
   .refine dd ?_;refine zbD ?_;refine⟨_,_,hz,uH ?_⟩;refine⟨λ_=>?_,λ_=>?_⟩ <;>
    .conv=>whnf
     exact dK
   .refine dd ?_;refine⟨λh2=>?_,λh2=>?_⟩
    .refine dd ?_;refine zbD ?_;refine⟨_,_,hz,uH ?_⟩;refine⟨λ_=>?_,λ_=>?_⟩ <;>
     .conv=>whnf
      exact dK
    .have g1:0<=p:=by simpa using h1
     have g2:p<e.next.length:=aC
     have hv:(vy e.next (zR e) N).contains (((p.toNat:Nat)):Int)=true:=by
      simp only[wE,hP,rI,pS,l7,s8,pM]at c2;rw[tx g1];rcases c2 with(h|h)|h
      .exact absurd g1 h
      .exact absurd g2 h
      .exact h
     have hs:=hsN (i:=p.toNat) an;rw[hv]at hs;refine dd ?_;refine⟨g1,an,uH ?_⟩;refine⟨[Bo true],by rw[gZ,gM,hs];rfl,pj _,?_⟩;refine zac ?_
     refine zbD ?_;refine⟨_,_,hz,uH ?_⟩;refine⟨λ_=>?_,λ_=>?_⟩ <;>
     .conv=>whnf
      exact dK
def Qc(e:En)(X Y Z W:Ob):th 132 [X,Y,Z,W] [Ev e] (.fn 168 [] [.ref 4 [] 3 0 0]) [X,Y,Z,W,oD e]:=by
 refine zb.zZ (fn:=f132) func132 V (uH ?_);exact uJ
def Iu(e:En)(he:e.ok)(N:Nat)(hN:vE e.next (zR e)=N)(l:Nat)(rec rec':Ob)(rr:C)(rn:Int)(b:Bool)
 (hy:∀k,k<N->jn prog l ([oD e,⟨1,28,1,[[.eM 1 0 []]],0⟩,⟨1,39,1,[[I 0]],0⟩,⟨1,28,1,[[.gl 5 1 (vk e k)]],0⟩,oD e,⟨4,3,1,(vk e k),0⟩,rec]++[⟨2,4,1,(yA e.next (zR e) (k+1)).map yt,0⟩]) [I (xc e.next (zR e) k)] (Bo true) ([oD e,⟨1,28,1,[[.eM 1 0 []]],0⟩,⟨1,39,1,[[I 0]],0⟩,⟨1,28,1,[[.gl 5 1 (vk e (k+1))]],0⟩,oD e,⟨4,3,1,(vk e (k+1)),0⟩,rec]++[⟨2,4,1,(yA e.next (zR e) (k+1)).map yt,0⟩]))
 (hz:jn prog l ([oD e,⟨1,28,1,[[.eM 1 0 []]],0⟩,⟨1,39,1,[[I 0]],0⟩,⟨1,28,1,[[.gl 5 1 (vk e N)]],0⟩,oD e,⟨4,3,1,(vk e N),0⟩,rec]++[⟨2,4,1,(yA e.next (zR e) N).map yt,0⟩]) [I (if fZ e.next (zR e) then -1 else -2)] (Bo b) ([oD e,⟨1,28,1,[[rr]],0⟩,⟨1,39,1,[[I rn]],0⟩,⟨1,28,1,[[.gl 5 1 (vk e N)]],0⟩,oD e,⟨4,3,1,(vk e N),0⟩,rec']++[⟨2,4,1,(yA e.next (zR e) N).map yt,0⟩])):
  th 168 [oD e,⟨1,28,1,[[.eM 1 0 []]],0⟩,⟨1,39,1,[[I 0]],0⟩,⟨1,28,1,[[.gl 5 1 (vk e 0)]],0⟩,oD e,⟨4,3,1,(vk e 0),0⟩,rec] [.v (.func (.yield l) #[] #[]),.ref 4 [] 3 0 0] (.eR []) ([oD e,⟨1,28,1,[[rr]],0⟩,⟨1,39,1,[[I rn]],0⟩,⟨1,28,1,[[.gl 5 1 (vk e N)]],0⟩,oD e,⟨4,3,1,(vk e N),0⟩,rec']++[⟨2,4,1,(yA e.next (zR e) N).map yt,0⟩]):=by
 subst hN;exact Pf e he l rec rec' rr rn hy ⟨b,hz⟩
abbrev tF(r:List Int×Int):C:=.eR [lI r.1,I r.2]
def Dq(e:En)(he:e.ok):th 77 [] [Ev e] (tF (xp e)) []:=by
 have hl:=he.2.1.2;obtain⟨c1,c2,c3⟩:=Cq e.next (zR e);generalize hN:vE e.next (zR e)=N at *;refine ab func77 ?_;refine⟨_,_,Qc e _ _ _ _,uH ?_⟩;refine⟨_,zk.qM 3 0 3 1 V V (.inl V) V V,?_⟩
 have iL:∀j,j<N->0<=xc e.next (zR e) j:=λj hj=>by
  have:=c3 j hj;simp only[wE,rk,sx,l7,gY,pE]at this;exact this.1.1
 have hv:∀k,(vk e k).length=k:=λk=>by simp[D1]
 have vs:∀k,vk e (k+1)=vk e k++[[I (xc e.next (zR e) k)]]:=λk=>by
  show(vy e.next (zR e) (k+1)).map encI=_;rw[DP,pZ];rfl
 by_cases hok:fZ e.next (zR e)=true
 .refine⟨.normal,_,[oD e,⟨1,28,1,[[.eM 1 0 []]],0⟩,⟨1,39,1,[[I 0]],0⟩,⟨1,28,1,[[.gl 5 1 (vk e N)]],0⟩,oD e,⟨4,3,1,vk e N,0⟩],λl r h1 h2 h3 h4 h5=>⟨_,_,r,Iu e he N hN l (fQ l r _) (fQ l r _) (.eM 1 0 []) 0 true (λk hk=>?_) ?_,
   rfl,aE,rfl,pC _,aF,zk.low 6 _ _ V V V⟩,?_⟩
  .have g:=iL k hk;have hvk:=hv k;refine zbQ ?_;refine⟨λh=>absurd h ar,λ_=>uH ?_⟩;refine⟨λh=>absurd h ar,λ_=>uH ?_⟩;refine⟨rfl,.inr V,by simp[maxLen,hvk];omega,bT,uH ?_⟩;rw[vs k];exact dw
  .rw[gS hok];refine zbQ ?_;refine td ?_
   exact dw
  .have e1:xp e=(vy e.next (zR e) N,0):=by unfold xp;rw[gS hok,hN]
   rw[e1];conv=>whnf
   exact uI
 .refine⟨.ret,_,[oD e,⟨1,28,1,[[.eM 1 0 []]],0⟩,⟨1,39,1,[[I 11]],0⟩],λl r h1 h2 h3 h4 h5=>⟨_,_,left r .ret,Iu e he N hN l (fQ l r _) (fQ l (left r .ret) _) (.eM 1 0 []) 11 false (λk hk=>?_) ?_,
   rfl,ah,rfl,pC _,trivial,zk.low 3 _ _ V V V⟩,?_⟩
  .have g:=iL k hk;have hvk:=hv k;refine zbQ ?_;refine⟨λh=>absurd h ar,λ_=>uH ?_⟩;refine⟨λh=>absurd h ar,λ_=>uH ?_⟩;refine⟨rfl,.inr V,by simp[maxLen,hvk];omega,bT,uH ?_⟩;rw[vs k];exact dw
  .rw[gP hok];refine zbQ ?_;refine td ?_
   exact⟨_,_,.refl _,rfl,.inr ⟨rfl,.inl ⟨rfl,rfl⟩⟩⟩
  .have e1:xp e=([],11):=by unfold xp;rw[gP hok]
   rw[e1];conv=>whnf
   exact⟨.inl V,_,zk.var 1 V V V (.cons (WC.nil 0 1) .nil),rfl⟩
def BW(l:List Int)(x:Int):Int:=match l.findIdx? (· == x) with|some i=>i|none=> -1
def W8(h:∀j,(hj:j<l.length)->(l[j] == x)=false):BW l x= -1:=by
 have:l.findIdx? (· == x)=none:=by
  rw[pD];intro y hy;obtain⟨j,hj,rfl⟩:=pz.1 hy;exact h j hj
 unfold BW;rw[this]
def Wi{k:Nat}(hk:k<l.length)(h1:(l[k] == x)=true)(h:∀j,(hj:j<l.length)->j<k->(l[j] == x)=false):BW l x=k:=by
 have:l.findIdx? (· == x)=some k:=by
  rw[pB];exact⟨hk,h1,λj hj=>by simpa using h j an hj⟩
 unfold BW;rw[this]
def Le(l:List Int)(x:Int):decide (0<=BW l x)=l.contains x:=by
 unfold BW;cases e:l.findIdx? (· == x) with
 |some i=>
  rw[pB]at e;obtain⟨h1,h2,_⟩:=e;have:x∈l:=by rw[pU]at h2;rw[<-h2];exact pH h1
  simp[this]
 |none=>
  rw[pD]at e;have:¬x∈l:=λh=>by have:=e x h;simp at this
  simp[this]
def JR(l:List Int)(x:Int)(hl:l.length<4611686018427387904):th 298 [] [lI l,I x] (Bo (l.contains x)) []:=by
 refine ab func298 ?_;refine zH.seq l.length (λk=>((lI l)::I x::.za::.za::Bo false::I k::mK ([.za,.za,.za,.za]))) (λk=>[]) (λk=>∀j,(h:j<l.length)->j<k->(l[j] == x)=false) ?_ ah (λk hk hr=>?_) (λhr=>?_)
 .exact cC
 .conv=>whnf
  refine⟨λh=>uH ?_,λh=>absurd h ar⟩;refine⟨an,encI l[k],by simp[hk],uH ?_⟩;refine⟨λh1=>?_,λh1=>?_⟩
  .conv=>whnf
   refine zaN ?_
   (exact⟨.inl V,_,.refl _,uN (by rw[<-Le,Wi hk uZ hr];simp)⟩)
  .conv=>whnf
   refine .inl ⟨rfl,?_,?_⟩
   .exact dm
   .intro j hj hjk;by_cases e:j=k
    .subst e;simpa using h1
    .exact dP
 .conv=>whnf
  refine⟨λh=>absurd h ah,λh=>uH ?_⟩;refine zbD ?_
  (exact⟨.inl V,_,.refl _,uN (by rw[<-Le,W8 λj hj=>hr j hj hj];simp)⟩)
def LG(e:En):((xp e).2 == 0)=fZ e.next (zR e):=by
 unfold xp;cases fZ e.next (zR e) <;> simp
def Be(e:En)(he:e.ok):th 78 [] [Ev e] (Bo (fm e)) []:=by
 have h0:=LG e;refine ab func78 ?_;refine af (Dq e he) ?_;refine⟨λh1=>?_,λh1=>?_⟩
 .rw[show((xp e).2 == 0)=true from h1]at h0;refine dd ?_;refine⟨λh2=>?_,λh2=>?_⟩
  .refine dd ?_;refine⟨λh3=>?_,λh3=>?_⟩
   .refine dd ?_;(repeat' (first|(refine⟨λ_=>?_,λ_=>?_⟩ <;> (conv=>whnf))|fail))
    all_goals (rename_i h4;(exact⟨.inl V,_,.refl _,uN (by simp at h2 h3 h4;simp[fm,<-h0];omega)⟩))
   .refine dd ?_
    (exact⟨.inl V,_,.refl _,uN (by simp at h2 h3;simp[fm,<-h0];omega)⟩)
  .refine dd ?_
   (exact⟨.inl V,_,.refl _,uN (by simp at h2;simp[fm,<-h0];omega)⟩)
 .rw[show((xp e).2 == 0)=false from h1]at h0;refine dd ?_
  (exact⟨.inl V,_,.refl _,uN (by simp[fm,<-h0])⟩)
def QR(e:En)(he:e.ok):th 289 [] [Ev e] (tF (xp e)) []:=by
 have hl:=he.2.1.2;have hlm:(e.next.map encI).length=e.next.length:=gO ..;obtain⟨c1,c2,c3⟩:=Cq e.next (zR e);generalize hN:vE e.next (zR e)=N at *;have hv:∀k,(vk e k).length=k:=λk=>by simp[D1]
 have vs:∀k,vk e (k+1)=vk e k++[[I (xc e.next (zR e) k)]]:=λk=>by
  show(vy e.next (zR e) (k+1)).map encI=_;rw[DP,pZ];rfl
 have hvl:∀k,k<=N->(vy e.next (zR e) k).length<4611686018427387904:=λk hk=>by rw[D1];omega
 refine ab func289 ?_;refine af (xS e.head he.1) ?_;refine zH.seq N (λk=>(.za::.ref 0 [] 3 0 0::.za::I 0::.gl 1 1 (vk e k)::I (xc e.next (zR e) k)::mK (mK (mK ([.za,.za,.za,.za,.za,.za]))))) (λk=>[oD e,⟨4,3,1,vk e k,0⟩]) (λ_=>True) ?_ trivial (λk hk _=>?_) (λ_=>?_)
 .exact(zk.grow 4 3 1 V (.inl V)).trans (cC)
 .have h0:=c3 k hk;simp only[wE,rk,sx,l7,gY,pE]at h0;obtain⟨⟨g1,g2⟩,g3⟩:=h0;have hvk:=hv k
  have hnx:(e.next)[(xc e.next (zR e) k).toNat]?=some (xc e.next (zR e) (k+1)):=by
   show _=some (oA e.next (xc e.next (zR e) k));unfold oA;rw[gL an]
   rfl
  rw[vs k];have hhas:=JR (vy e.next (zR e) k) (xc e.next (zR e) k) (hvl k an);rw[g3]at hhas;generalize hP:xc e.next (zR e) k=p at *;generalize hQ:xc e.next (zR e) (k+1)=p' at *;conv=>whnf
  refine zbH ?_;refine zbv ?_;refine zbv ?_;refine af hhas ?_;refine td ?_
  refine⟨rfl,.inr V,by simp[maxLen,hvk];omega,bT,uH ?_⟩;refine⟨g1,[I p'],by rw[gM,hnx];rfl,?_⟩;conv=>whnf
  exact .inl ⟨rfl,cC,trivial⟩
 .have hhas:=JR (vy e.next (zR e) N) (xc e.next (zR e) N) (hvl N an);by_cases hok:fZ e.next (zR e)=true
  .have hp:xc e.next (zR e) N= -1:=by simpa [fZ,hN] using hok
   have e1:xp e=(vy e.next (zR e) N,0):=by unfold xp;rw[gS hok,hN]
   rw[hp,e1];conv=>whnf
   refine zb7 ?_;exact uI
  .have hp:xc e.next (zR e) N≠ -1:=by intro h;exact hok (by simp[fZ,hN,h])
   have e1:xp e=([],11):=by unfold xp;rw[gP hok]
   rw[e1];have hst:=c2;simp only[wE,rI,pS,l7,s8,pM]at hst;generalize hP:xc e.next (zR e) N=p at *;conv=>whnf
   refine⟨λ_=>dd ?_,λh=>absurd h (by simp;exact hp)⟩;refine⟨λh1=>?_,λh1=>?_⟩
   .refine dd ?_;refine zbD ?_;exact du
   .refine dd ?_;refine⟨λh2=>?_,λh2=>?_⟩
    .refine dd ?_;refine zbD ?_;exact du
    .have h3:(vy e.next (zR e) N).contains p=true:=by
      simp at h1 h2;rcases hst with(h|h)|h
      .omega
      .omega
      .exact h
     refine dd ?_;refine af hhas ?_;refine⟨λ_=>dd ?_,λh=>absurd ((h3).symm.trans h:true=false) aj⟩;refine zbD ?_;exact du
def Ca(e:En)(he:e.ok):th 272 [] [Ev e] (Bo (fm e)) []:=by
 have h0:=LG e;refine ab func272 ?_;refine af (QR e he) ?_;refine⟨λh1=>?_,λh1=>?_⟩
 .rw[show((xp e).2 == 0)=true from h1]at h0;refine dd ?_;refine⟨λh2=>?_,λh2=>?_⟩
  .refine dd ?_;refine⟨λh3=>?_,λh3=>?_⟩
   .refine dd ?_;(repeat' (first|(refine⟨λ_=>?_,λ_=>?_⟩ <;> (conv=>whnf))|fail))
    all_goals (rename_i h4;(exact⟨.inl V,_,.refl _,uN (by simp at h2 h3 h4;simp[fm,<-h0];omega)⟩))
   .refine dd ?_
    (exact⟨.inl V,_,.refl _,uN (by simp at h2 h3;simp[fm,<-h0];omega)⟩)
  .refine dd ?_
   (exact⟨.inl V,_,.refl _,uN (by simp at h2;simp[fm,<-h0];omega)⟩)
 .rw[show((xp e).2 == 0)=false from h1]at h0;refine dd ?_
  (exact⟨.inl V,_,.refl _,uN (by simp[fm,<-h0])⟩)
def Fq(x i:Int)(h:u64 x)(h3: -1<=i)(h4:i<=2147483646):th 175 [] [U x,I i] (.eR [U (y9 x i),I 0]) []:=
 Bi [] (λw=>(YtamgiodaflkbhaaGreat.US x i w (Aj h).1 (Aj h).2 h3 h4).mono λe w' ⟨h1,h2⟩=>⟨h1,h2.symm⟩) Em λE=>.eR _ _ V λj c y e1 e2=>by
  match j,e1,e2 with
  |0,e1,e2=>cases e1;cases e2;exact .v _ V
  |1,e1,e2=>cases e1;cases e2;exact .v _ V
def Ff(x i:Int)(h:u64 x)(h3: -1<=i)(h4:i<=2147483646):th 96 [] [U x,I i] (.eR [U (y9 x i),I 0]) []:=
 Bi [] (λw=>(YtamgiodaflkbhaaGreat.QJ x i w (Aj h).1 (Aj h).2 h3 h4).mono λe w' ⟨h1,h2⟩=>⟨h1,h2.symm⟩) Em λE=>.eR _ _ V λj c y e1 e2=>by
  match j,e1,e2 with
  |0,e1,e2=>cases e1;cases e2;exact .v _ V
  |1,e1,e2=>cases e1;cases e2;exact .v _ V
abbrev tQ(r:En×Int):C:=.eR [Ev r.1,I r.2]
def qx(X Y:Ob)(x:Int)(l:List Int)(hl:l.length<17592186043904):th 223 [X,Y] [lI (x::l)] (.sl 2 [] 1 0 (0+((l.map encI).length+1)) false) [X,Y,⟨2,3,1,(x::l).map encI,0⟩]:=by
 refine zb.zZ (fn:=f223) func223 V (uH ?_);exact zck
def Af(a b:En):Bool:=a.head == b.head && a.zo == b.zo && a.next == b.next
def Qw(a b:En)(ha:a.ok)(hb:b.ok):th 80 [] [Ev a,Ev b] (Bo (Af a b)) []:=by
 have hal:=ha.2.1.2;have hbl:=hb.2.1.2;refine ab func80 ?_;refine⟨λh=>?_,λh=>?_⟩
 .refine dd ?_
  (exact⟨.inl V,_,.refl _,uN (by simp[Af];simp at h;simp[h])⟩)
 .refine dd ?_;refine⟨λh2=>?_,λh2=>?_⟩
  .refine dd ?_
   (exact⟨.inl V,_,.refl _,uN (by simp[Af];simp at h2;simp[h2])⟩)
  .refine dd ?_;refine⟨λh3=>?_,λh3=>?_⟩
   .refine dd ?_
    (exact⟨.inl V,_,.refl _,uN (by simp[Af];intro _ _ e;rw[e]at h3;simp at h3)⟩)
   .have hl:a.next.length=b.next.length:=by simp at h3;omega
    have e0:Af a b=(a.next == b.next):=by simp at h h2;simp[Af,h,h2]
    rw[e0];refine dd ?_;refine zH.seq a.next.length (λk=>(.za::.za::.ref 0 [] 3 0 0::.ref 1 [] 3 0 0::Bo false::I k::mK (mK (mK (mK ([.za,.za,.za,.za,.za,.za,.za])))))) (λk=>[oD a,oD b]) (λk=>∀j,(h:j<a.next.length)->j<k->a.next[j]=b.next[j]'an) ?_ ah (λk hk hr=>?_) (λhr=>?_)
    .exact cC
    .conv=>whnf
     refine⟨λh=>uH ?_,λh=>absurd h ar⟩;refine uE ?_;refine⟨an,encI a.next[k],by simp[hk],dd ?_⟩;refine⟨an,encI (b.next[k]'an),by rw[toNat_cast,gM,gL an];rfl,?_⟩;refine dd ?_;refine⟨λh4=>?_,λh4=>?_⟩
     .refine zca ?_
      (exact⟨.inl V,_,.refl _,uN (by symm;rw[beq_eq_false_iff_ne];intro e;simp[e]at h4)⟩)
     .refine dd ?_;refine .inl ⟨rfl,?_,?_⟩
      .exact dH
      .intro j hj hjk;by_cases e:j=k
       .subst e;simpa using h4
       .exact dP
    .conv=>whnf
     refine⟨λh=>absurd h ah,λh=>uH ?_⟩;refine zbD ?_
     (exact⟨.inl V,_,.refl _,uN (by symm;rw[pU];exact List.ext_getElem hl λj h1 h2=>hr j h1 h1)⟩)
def Rf:th 163 [] [.v (.int .u32 0),I 0] (.eR [U 1,I 0]) []:=
 Bi [] (λw=>(YtamgiodaflkbhaaGreat.KT 0 0 w aj aj aj aj).mono λe w' ⟨h1,h2⟩=>⟨h1,h2.symm⟩) Em λE=>.eR _ _ V λj c y e1 e2=>by
  match j,e1,e2 with
  |0,e1,e2=>cases e1;cases e2;exact .v _ V
  |1,e1,e2=>cases e1;cases e2;exact .v _ V
def vQ(n k:Nat):List Int:=(List.range n).map λi=>if i<k then (i:Int)+1 else 0
def nV(n:Nat):List Int:=(List.range n).map λ(i:Nat)=>if i+1=n then -1 else (i:Int)+1
def Bj(n k:Nat):(vQ n k).length=n:=by simp[vQ]
def Uw{n k:Nat}(h:k<n):(vQ n k).set k ((k:Int)+1)=vQ n (k+1):=by
 apply rh
 intro j;rw[pd,Bj];unfold vQ;simp only[gM];by_cases hj:j<n
 .rw[sa hj];by_cases e:k=j
  .subst e;simp[h]
  .simp only[e,if_false,g9];by_cases h2:j<k
   .simp[h2,show j<k+1 from an]
   .simp[h2,show ¬j<k+1 from an]
 .rw[rq ar];simp;omega
def VQ{n:Nat}:(vQ n n).set (n-1) (-1)=nV n:=by
 apply rh
 intro j;rw[pd,Bj];unfold vQ nV;simp only[gM];by_cases hj:j<n
 .rw[sa hj];by_cases e:n-1=j
  .subst e;simp[show n-1<n from an,show n-1+1=n from an]
  .simp only[e,if_false,g9,hj,if_true,show ¬j+1=n from an]
 .rw[rq ar];simp;omega
def K4{n:Int}(h1:¬(n<1\/4<n)):yF n=(⟨1,nV n.toNat,0⟩,0):=by unfold yF;rw[gP h1];rfl
def HZ(n:Int):th 117 [] [I n] (tQ (yF n)) []:=by
 refine ab func117 ?_;have hbad:n<1\/4<n->yF n=(no,1):=λh=>by unfold yF;rw[gS h]
 refine⟨λh1=>?_,λh1=>?_⟩
 .rw[hbad (.inl uZ)];exact dA
 .refine dd ?_;refine⟨λh2=>?_,λh2=>?_⟩
  .rw[hbad (.inr tM)];exact dA
  .have g1:1<=n:=by simp at h1;omega
   have g2:n<=4:=aC
   rw[K4 an];obtain⟨m,rfl⟩:∃m:Nat,n=m:=⟨n.toNat,an⟩;rw[toNat_cast];refine dd ?_;refine⟨rfl,an,by show(8:Int)*_<=_;omega,an,dd ?_⟩;refine zH.seq m (λk=>(I m::.za::.ref 0 [] 3 0 0::I 0::.ref 2 [] 3 0 0::mK (.za::.za::.za::.za::.za::I m::I k::mK (mK ([.za,.za,.za,.za]))))) (λk=>[⟨1,151,3,[[U 0,.eM 1 0 [],I 0]],0⟩,⟨2,3,1,(vQ m k).map encI,0⟩,⟨1,151,3,[[U 0,.sl 1 [] 1 0 m false,I 0]],0⟩]) (λ_=>True) ?_ trivial (λk hk _=>?_) (λ_=>?_)
   .have e1:List.replicate ((m:Int)).toNat [C.v (Value.int .i64 0)]=(vQ m 0).map encI:=by
     simp only[toNat_cast];apply rh
     intro j;rw[sU,gM];unfold vQ;simp only[gM];split
     .rename_i hj;rw[sa hj];rfl
     .rw[rq ar];rfl
    show zk 0 ⟨_,[_,⟨2,3,1,List.replicate ((m:Int)).toNat [C.v (Value.int .i64 0)],0⟩,_]⟩ _;rw[e1];exact cC
   .have hg:((vQ m k).map encI)[k]?=some (encI ((vQ m k)[k]'(by rw[Bj];exact hk))):=by rw[gM,gL (by rw[Bj];exact hk)];rfl
    have hse:((vQ m k).map encI).set k [I ((k+1:Nat):Int)]=(vQ m (k+1)).map encI:=by rw[<-Uw hk,r3];rfl
    conv=>whnf
    refine⟨λ_=>uH ?_,λh=>absurd h ar⟩;refine⟨an,ar,dd ?_⟩;rw[gZ,zm an,toNat_cast];refine⟨_,hg,rfl,dd ?_⟩;rw[show List.set (List.map encI (vQ m k)) k [C.v (Value.int IntKind.i64 ((k+1:Nat):Int))]=(vQ m (k+1)).map encI from hse];refine zai ?_;rw[zm an];exact cE 3
   .have hg:((vQ m m).map encI)[m-1]?=some (encI ((vQ m m)[m-1]'(by rw[Bj];omega))):=by rw[gM,gL (by rw[Bj];omega)];rfl
    have hse:((vQ m m).map encI).set (m-1) [I (-1)]=(nV m).map encI:=by rw[<-VQ,r3];rfl
    have hw:IntKind.i64.wrap ((m:Int)-1)=((m-1:Nat):Int):=by rw[jB an an];omega
    have fI:(nV m).length=m:=by simp[nV]
    conv=>whnf
    refine zb7 ?_;rw[hw];refine⟨an,ar,dd ?_⟩;rw[gZ,toNat_cast];refine⟨_,hg,rfl,dd ?_⟩;rw[show List.set (List.map encI (vQ m m)) (m-1) [C.v (Value.int IntKind.i64 (-1))]=(nV m).map encI from hse];refine af Rf ?_
    exact⟨.inl V,_,zk.Vv 0 1 V V V (by simp[fI]) (λr hr c hc=>by
     obtain⟨n,_,rfl⟩:=pO.1 hr;simp[encI]at hc;subst hc;rfl) rfl rfl,rfl⟩
def nn(k:Nat):List Int:=(List.range k).map λ(i:Nat)=>(i:Int)+1
def Ux(k:Nat):nn (k+1)=nn k++[((k+1:Nat):Int)]:=by simp[nn,ua]
def Rk{m:Nat}(h:1<=m):nV m=nn (m-1)++[-1]:=by
 obtain⟨k,rfl⟩:∃k,m=k+1:=⟨m-1,an⟩;unfold nV nn;rw[ua,pZ]
 congr 1
 .apply r9
  intro i hi;have:=rS.1 hi;rw[gP an]
 .simp
def PK(n:Int):th 129 [] [I n] (tQ (yF n)) []:=by
 refine ab func129 ?_;have hbad:n<1\/4<n->yF n=(no,1):=λh=>by unfold yF;rw[gS h]
 refine⟨λh1=>?_,λh1=>?_⟩
 .rw[hbad (.inl uZ)];exact dA
 .refine dd ?_;refine⟨λh2=>?_,λh2=>?_⟩
  .rw[hbad (.inr tM)];exact dA
  .have g1:1<=n:=by simp at h1;omega
   have g2:n<=4:=aC
   rw[K4 an];obtain⟨m,rfl⟩:∃m:Nat,n=m:=⟨n.toNat,an⟩;rw[toNat_cast];have hl:∀k,((nn k).map encI).length=k:=λk=>by simp[nn]
   refine dd ?_;refine zH.seq (m-1) (λk=>(I m::.za::.ref 0 [] 3 0 0::I 0::.ref 1 [] 3 0 0::I ((k+1:Nat):Int)::mK (mK (mK ([.za]))))) (λk=>[⟨1,151,3,[[U 0,.eM 1 0 [],I 0]],0⟩,⟨1,151,3,[[U 1,.gl 2 1 (((nn k).map encI)),I 0]],0⟩,⟨4,3,1,((nn k).map encI),0⟩]) (λ_=>True) ?_ trivial (λk hk _=>?_) (λ_=>?_)
   .exact(zk.qM 1 1 3 1 V V (.inl V) V V).trans (cC)
   .have hlk:=hl k;conv=>whnf
    refine⟨λ_=>uH ?_,λh=>absurd h ar⟩;refine⟨rfl,.inr V,by simp[maxLen,hlk];omega,by show _*8<=_;simp[hlk];omega,uH ?_⟩;refine zai ?_;have e:(nn (k+1)).map encI=(nn k).map encI++[[I ((k+1:Nat):Int)]]:=by rw[Ux,pZ];rfl
    rw[zm an,e];exact cE 3
   .have hlk:=hl (m-1);conv=>whnf
    refine⟨λh=>absurd h ar,λ_=>uH ?_⟩;refine zbD ?_;refine⟨rfl,.inr V,by simp[maxLen,hlk];omega,by show _*8<=_;simp[hlk];omega,uH ?_⟩;have e:(nV m).map encI=(nn (m-1)).map encI++[[I (-1)]]:=by rw[Rk an,pZ];rfl
    exact⟨.inl V,_,.refl _,r6 (λx=>some (C.eR [.agg [U 1,.eM 0 1 x,I 0],I 0])) e.symm⟩
end Go.Slp
