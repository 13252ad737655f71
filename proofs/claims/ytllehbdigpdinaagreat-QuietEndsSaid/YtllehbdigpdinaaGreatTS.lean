import Derived.WalkKit
import Derived.Test.YtllehbdigpdinaaGreatRows
import Derived.Test.YtllehbdigpdinaaGreatTJ
import Derived.Test.YtllehbdigpdinaaGreatTC
import Derived.Test.YtllehbdigpdinaaGreatProg
set_option linter.all false
set_option maxRecDepth 100000
set_option maxHeartbeats 4000000
namespace Go.Proofs.YtllehbdigpdinaaGreat
open Go.RowKit
def Ur(t i:Int)(h1:0<=t)(h2:t<4294967296)(h3: -1<=i)(h4:i<=2147483646):
  bits .or .u64 (t*4294967296) (i+1)=t*4294967296+(i+1):=by
 rw[u64_or _ _ aw aw aw aw];obtain⟨a,rfl⟩:=Int.eq_ofNat_of_zero_le h1;obtain⟨b,hb⟩:=Int.eq_ofNat_of_zero_le (show 0<=i+1 by omega);rw[hb]
 have fE:b<2 ^ 32:=by
   have:(b:Int)<4294967296:=aw
   simpa using (by omega:b<4294967296)
 have:=Nat.two_pow_add_eq_or_of_lt fE a;have e:((a:Int)*4294967296).toNat=2 ^ 32*a:=aw
 rw[e,rK,<-this];omega
def Q7(t i:Int)(w:World)(h1:0<=t)(h2:t<4294967296)(h3: -1<=i)(h4:i<=2147483646):
  Calls Tryz.prog 145 #[.int .u32 t,.int .i64 i] w λe w'=>e=.returned (.tuple #[.int .u64 (t*4294967296+(i+1)),.int .i64 0])/\w=w':=by
 go_enter Tryz.func145,Tryz.ntmps145
 go_wp2
 go_ret2
 exact⟨by simp[Ur t i h1 h2 h3 h4],rfl⟩
def zzb(x:Int)(w:World)(h1:0<=x)(h2:x<18446744073709551616):
  Calls Tryz.prog 217 #[.int .u64 x] w λe w'=>e=.returned (.int .u32 (x / 4294967296))/\w=w':=by
 go_enter Tryz.func217,Tryz.ntmps217
 go_wp2
 go_ret
 exact dN
def ztj(x:Int)(w:World)(h1:0<=x)(h2:x<18446744073709551616):
  Calls Tryz.prog 163 #[.int .u64 x] w λe w'=>e=.returned (.int .i64 (x%4294967296-1))/\w=w':=by
 go_enter Tryz.func163,Tryz.ntmps163
 go_wp2
 go_ret
 exact dN
def zwa(x i:Int)(w:World)(h1:0<=x)(h2:x<18446744073709551616)(h3: -1<=i)(h4:i<=2147483646):
  Calls Tryz.prog 165 #[.int .u64 x,.int .i64 i] w λe w'=>e=.returned (.tuple #[.int .u64 ((x / 4294967296+1)%4294967296*4294967296+(i+1)),.int .i64 0])/\w=w':=by
 go_enter Tryz.func165,Tryz.ntmps165
 go_wp2_with (first|(go_at_call 217;refine(zzb _ _ h1 h2).mono ?_;rintro e w' ⟨rfl,rfl⟩)|(go_at_call 145;refine(Q7 _ _ _ aw aw h3 h4).mono ?_;rintro e w' ⟨rfl,rfl⟩))
 go_ret2
 exact dN
end Go.Proofs.YtllehbdigpdinaaGreat
namespace Go.Slp
open Go.Ab Go.Hy
variable{nx:List Int}{i0:Int}{e:En}
def lK(nx:List Int)(i:Int):Bool:=decide (0<=i) && decide (i<nx.length)
def iR(nx:List Int)(i:Int):Int:=(nx[i.toNat]?).getD 0
def xe(nx:List Int)(i0:Int):Nat->Int
 |0=>i0
 |k+1=>iR nx (xe nx i0 k)
def xK(nx:List Int)(i0:Int)(k:Nat):List Int:=(List.range k).map (xe nx i0)
def yU(nx:List Int)(i0:Int)(k:Nat):Bool:=!lK nx (xe nx i0 k) || (xK nx i0 k).contains (xe nx i0 k)
def xg(nx:List Int)(i0:Int):Nat:=((List.range (nx.length+1)).find? (yU nx i0)).getD 0
def iI(nx:List Int)(i0:Int):Bool:=xe nx i0 (xg nx i0) == -1
def Mh:∀(n:Nat) (l:List Int),l.Nodup->(∀x∈l,0<=x/\x<n)->l.length<=n
 |0,l,_,h=>by
  cases l with
  |nil=>exact gG _
  |cons x l=>have:=h x (pX ..);omega
 |n+1,l,hd,h=>by
  by_cases hm:(n:Int)∈l
  .have h1:=Mh n (l.erase n) (hd.erase _) λx hx=>by
    have h2:=h x (List.mem_of_mem_erase hx)
    have h3:x≠n:=λe=>by
     subst e;exact absurd hx (List.Nodup.not_mem_erase hd)
    omega
   rw[List.length_erase_of_mem hm]at h1;omega
  .have:=Mh n l hd λx hx=>by
    have h2:=h x hx;have h3:x≠n:=λe=>hm (e ▸ hx)
    omega
   omega
def La(nx:List Int)(i0:Int)(k:Nat):xK nx i0 (k+1)=xK nx i0 k++[xe nx i0 k]:=by
 simp[xK,fx]
def Sx(nx:List Int)(i0:Int)(k:Nat):(xK nx i0 k).length=k:=by simp[xK]
def FL{nx:List Int}{i0:Int}:∀{k:Nat},(∀j,j<k->yU nx i0 j=false)->(xK nx i0 k).Nodup/\∀x∈xK nx i0 k,lK nx x=true
 |0,_=>⟨by simp[xK],by simp[xK]⟩
 |k+1,h=>by
  obtain⟨h1,h2⟩:=FL (k:=k) λj hj=>h j aw
  have h3:=h k aw;simp only[yU,pU,rX]at h3;have h4:xe nx i0 k∉xK nx i0 k:=aq h3.2
  rw[La];refine⟨?_,?_⟩
  .rw[uy];refine⟨h1,aj,?_⟩;intro a ha b hb e;rw[gZ]at hb;subst hb e;exact h4 ha
  .intro x hx;rcases pw.1 hx with hx|hx
   .exact h2 x hx
   .rw[gZ.1 hx];exact h3.1
def vr(nx:List Int)(i0:Int):xg nx i0<=nx.length/\yU nx i0 (xg nx i0)=true/\∀j,j<xg nx i0->yU nx i0 j=false:=by
 unfold xg;cases e:(List.range (nx.length+1)).find? (yU nx i0) with
 |none=>
  exfalso
  rw[List.find?_eq_none]at e;have h:∀j,j<nx.length+1->yU nx i0 j=false:=λj hj=>by simpa using e j (rG.2 hj)
  obtain⟨h1,h2⟩:=FL h
  have:=Mh nx.length _ h1 λx hx=>by
   have:=h2 x hx;simp only[lK,gH,gR]at this;exact dG
  rw[Sx]at this;omega
 |some k=>
  rw[List.find?_eq_some_iff_append]at e;obtain⟨h1,az,bs,h2,h3⟩:=e
  have hk:az.length=k/\k<nx.length+1:=by
   have h4:(List.range (nx.length+1))[az.length]?=some k:=by rw[h2];simp
   have h5:=(gh.1 h4);obtain⟨h6,h7⟩:=h5;rw[List.getElem_range]at h7;simp at h6;omega
  refine⟨aA,aq h1,λj hj=>?_⟩
  have h8:(List.range (nx.length+1))[j]?=some j:=by
   simp at hj;rw[rU aw]
  rw[h2,gF (by simp at hj;omega)]at h8;simpa using h3 j (gu h8)
def K4{n:Nat}(h1:yU nx i0 n=true)(h2:∀j,j<n->yU nx i0 j=false):xg nx i0=n:=by
 obtain⟨_,h3,h4⟩:=vr nx i0;rcases rZ (xg nx i0) n with h|h|h
 .rw[h2 _ h]at h3;cases h3
 .exact h
 .rw[h4 _ h]at h1;cases h1
abbrev no:En:=⟨0,[],0⟩
def zA(e:En):Int:=e.head%4294967296-1
def qY(x i:Int):Int:=(x / 4294967296+1)%4294967296*4294967296+(i+1)
def qB(e:En):List Int×Int:=if iI e.next (zA e) then (xK e.next (zA e) (xg e.next (zA e)),0) else ([],11)
def fV(e:En):Bool:=iI e.next (zA e) && decide (1<=e.next.length) && decide (e.next.length<=4) && decide (0<=e.zj)
def I4(e:En):En×Int×Int:=
 if fV e=false then (no,0,11) else if zA e<0 then (no,0,5) else (⟨qY e.head (iR e.next (zA e)),e.next,e.zj⟩,zA e,0)
def IT(e:En)(slot:Int):En×Int:=
 if fV e=false then (no,11) else if slot<0\/e.next.length<=slot then (no,1) else if (qB e).1.contains slot then (no,4)
 else (⟨qY e.head slot,e.next.set slot.toNat (zA e),e.zj⟩,0)
def w8(n:Int):En×Int:=if n<1\/4<n then (no,1) else (⟨1,(List.range n.toNat).map λ(i:Nat)=>if i+1=n.toNat then -1 else (i:Int)+1,0⟩,0)
def zvF(e:En): -1<=zA e/\zA e<=4294967294:=by unfold zA;omega
def zys(h:iI nx i0=true){k:Nat}(hk:k<xg nx i0):lK nx (xe nx i0 k)=true/\ -1<=xe nx i0 (k+1)/\xe nx i0 (k+1)<nx.length:=by
 obtain⟨h1,h2,h3⟩:=vr nx i0;have h4:=h3 k hk;simp only[yU,pU,rX]at h4;refine⟨h4.1,?_⟩;rcases r6 (k+1) (xg nx i0) with h5|h5
 .have h6:=h3 _ h5;simp only[yU,pU,rX,lK,gH,gR]at h6;omega
 .have e:k+1=xg nx i0:=by omega
  rw[e];simp only[iI,pT]at h;rw[h];omega
def RT(h:iI nx i0=true)(h0:¬i0<0):0<xg nx i0:=by
 rcases sV (xg nx i0) with e|e
 .simp only[iI,e,xe,pT]at h;omega
 .exact e
def CG(h:fV e=true):iI e.next (zA e)=true/\1<=e.next.length/\e.next.length<=4/\0<=e.zj:=by
 simp only[fV,gH,gR]at h;exact⟨h.1.1.1,h.1.1.2,h.1.2,h.2⟩
def R5(h:fV e=true)(h0:¬zA e<0):0<=zA e/\zA e<e.next.length/\ -1<=iR e.next (zA e)/\iR e.next (zA e)<e.next.length:=by
 obtain⟨h1,h2,h3,h4⟩:=CG h;obtain⟨h5,h6,h7⟩:=zys h1 (RT h1 h0);simp only[lK,xe,gH]at h5;exact⟨gL h5.1,gL h5.2,h6,h7⟩
def y9(nx:List Int)(i0:Int):Nat->List Bool
 |0=>List.replicate nx.length false
 |k+1=>(y9 nx i0 k).set (xe nx i0 k).toNat true
def RC(nx:List Int)(i0:Int):∀k,(y9 nx i0 k).length=nx.length
 |0=>by simp[y9]
 |k+1=>by simp[y9,RC nx i0 k]
def LB{nx:List Int}{i0:Int}:∀{k:Nat},(∀j,j<k->lK nx (xe nx i0 j)=true)->∀{i:Nat},i<nx.length->(y9 nx i0 k)[i]?=some ((xK nx i0 k).contains (i:Int))
 |0,_,i,hi=>by simp[y9,xK,hi]
 |k+1,h,i,hi=>by
  have ih:=LB (k:=k) (λj hj=>h j aw) hi;have hb:=h k aw;simp only[lK,gH,gR]at hb;rw[La];simp only[y9];rw[gJ,RC];by_cases e:(xe nx i0 k).toNat=i
  .rw[gz e,gz aw];have:(i:Int)=xe nx i0 k:=by omega
   simp[this]
  .rw[gp e,ih];have:¬(i:Int)=xe nx i0 k:=by omega
   simp[this]
end Go.Slp
namespace Go.Slp
open Go.Ab Go.Proofs Tryz Go.Hy
def Iu{x:Int}(h:u64 x):0<=x/\x<18446744073709551616:=by unfold u64 at h;omega
def qT(x:Int)(h:u64 x):tj 163 [] [U x] (I (x%4294967296-1)) []:=
 HM [] (λw=>(YtllehbdigpdinaaGreat.ztj x w (Iu h).1 (Iu h).2).mono λe w' ⟨h1,h2⟩=>⟨h1,h2.symm⟩) T2 λE=>.v _ V
abbrev Ev(e:En):C:=.agg (zE e)
abbrev vk(e:En)(k:Nat):List (List C):=(xK e.next (zA e) k).map encI
def WB(e:En)(he:e.ok)(l:Nat)(rec rec':Ob)(rr:C)(rn:Int)
 (hy:∀k,k<xg e.next (zA e)->jM prog l ([oD e,⟨1,28,1,[[.fF 1 0 []]],0⟩,⟨1,39,1,[[I 0]],0⟩,⟨1,28,1,[[.gl 5 1 (vk e k)]],0⟩,oD e,⟨4,3,1,(vk e k),0⟩,rec]++[⟨2,4,1,(y9 e.next (zA e) (k+1)).map w6,0⟩]) [I (xe e.next (zA e) k)] (Bo true) ([oD e,⟨1,28,1,[[.fF 1 0 []]],0⟩,⟨1,39,1,[[I 0]],0⟩,⟨1,28,1,[[.gl 5 1 (vk e (k+1))]],0⟩,oD e,⟨4,3,1,(vk e (k+1)),0⟩,rec]++[⟨2,4,1,(y9 e.next (zA e) (k+1)).map w6,0⟩]))
 (hz:∃b,jM prog l ([oD e,⟨1,28,1,[[.fF 1 0 []]],0⟩,⟨1,39,1,[[I 0]],0⟩,⟨1,28,1,[[.gl 5 1 (vk e (xg e.next (zA e)))]],0⟩,oD e,⟨4,3,1,(vk e (xg e.next (zA e))),0⟩,rec]++[⟨2,4,1,(y9 e.next (zA e) (xg e.next (zA e))).map w6,0⟩]) [I (if iI e.next (zA e) then -1 else -2)] (Bo b) ([oD e,⟨1,28,1,[[rr]],0⟩,⟨1,39,1,[[I rn]],0⟩,⟨1,28,1,[[.gl 5 1 (vk e (xg e.next (zA e)))]],0⟩,oD e,⟨4,3,1,(vk e (xg e.next (zA e))),0⟩,rec']++[⟨2,4,1,(y9 e.next (zA e) (xg e.next (zA e))).map w6,0⟩])):
  tj 228 [oD e,⟨1,28,1,[[.fF 1 0 []]],0⟩,⟨1,39,1,[[I 0]],0⟩,⟨1,28,1,[[.gl 5 1 (vk e 0)]],0⟩,oD e,⟨4,3,1,(vk e 0),0⟩,rec] [.v (.func (.yield l) #[] #[]),.ref 4 [] 3 0 0] (.fJ []) ([oD e,⟨1,28,1,[[rr]],0⟩,⟨1,39,1,[[I rn]],0⟩,⟨1,28,1,[[.gl 5 1 (vk e (xg e.next (zA e)))]],0⟩,oD e,⟨4,3,1,(vk e (xg e.next (zA e))),0⟩,rec']++[⟨2,4,1,(y9 e.next (zA e) (xg e.next (zA e))).map w6,0⟩]):=by
 refine zb.zN (fn:=f228) func228 V (uH ?_);have hl:=he.2.1.2;have hlm:(e.next.map encI).length=e.next.length:=gC ..;obtain⟨c1,c2,c3⟩:=vr e.next (zA e)
 have qI:∀j,j<xg e.next (zA e)->lK e.next (xe e.next (zA e) j)=true:=λj hj=>by
  have:=c3 j hj;simp only[yU,pU,rX]at this;exact this.1
 refine⟨rfl,aw,by show(1:Int)*_<=_;omega,aw,uH ?_⟩;refine ah (qT e.head he.1) ?_
 refine qg.seq (xg e.next (zA e)) (λk=>(.v (.func (.yield l) #[] #[])::.ref 4 [] 3 0 0::.za::.sl 7 [] 1 0 e.next.length false::I (xe e.next (zA e) k)::tY (tY (tY (tY ([.za,.za,.za,.za,.za,.za,.za]))))))
  (λk=>[oD e,⟨1,28,1,[[.fF 1 0 []]],0⟩,⟨1,39,1,[[I 0]],0⟩,⟨1,28,1,[[.gl 5 1 (vk e k)]],0⟩,oD e,⟨4,3,1,(vk e k),0⟩,rec]++[⟨2,4,1,(y9 e.next (zA e) k).map w6,0⟩]) (λ_=>True) ?_ trivial (λk hk _=>?_) (λ_=>?_)
 .have e1:List.replicate (((e.next.map encI).length:Int)).toNat (List.map iH (Value.bool false).cells.toList)=(y9 e.next (zA e) 0).map w6:=by
   simp[y9,w6,iH,Value.cells]
  rw[e1,hlm,toNat_cast];exact cC
 .have g:=qI k hk;simp only[lK,gH,gR]at g;obtain⟨g1,g2⟩:=g;have hs:=LB (nx:=e.next) (i0:=zA e) (k:=k) (λj hj=>qI j aw) (i:=(xe e.next (zA e) k).toNat) aw
  have hv:(xK e.next (zA e) k).contains (((xe e.next (zA e) k).toNat:Nat):Int)=false:=by
   have:=c3 k hk;simp only[yU,pU,rX]at this;rw[rM g1];exact this.2
  rw[hv]at hs;have hyk:=hy k hk
  have hnx:(e.next)[(xe e.next (zA e) k).toNat]?=some (xe e.next (zA e) (k+1)):=by
   show _=some (iR e.next (xe e.next (zA e) k));unfold iR;rw[gk aw]
   rfl
  have hse:(y9 e.next (zA e) (k+1)).map w6=((y9 e.next (zA e) k).map w6).set (xe e.next (zA e) k).toNat [Bo true]:=by
   show(List.set _ _ _).map w6=_;rw[rp];rfl
  rw[hse]at hyk;rw[hse];generalize hP:xe e.next (zA e) k=p at *;generalize hQ:xe e.next (zA e) (k+1)=p' at *;conv=>whnf
  refine⟨λ_=>dd ?_,λh=>absurd h aA⟩;refine zbd ?_;refine zbd ?_;refine⟨g1,aw,uH ?_⟩;refine⟨[Bo false],by rw[gU,gy,hs];rfl,gG _,?_⟩;refine zad ?_
  refine⟨g1,aw,uH ?_⟩;refine⟨[Bo false],by rw[gU,gy,hs];rfl,rfl,?_⟩;conv=>whnf
  rw[gU];refine⟨_,_,hyk,dd ?_⟩;refine hZ ?_
  refine⟨g1,[I p'],by rw[gy,hnx];rfl,?_⟩;conv=>whnf
  exact .inl ⟨rfl,cC,trivial⟩
 .generalize hN:xg e.next (zA e)=N at *;have hsN:∀{i:Nat},i<e.next.length->(y9 e.next (zA e) N)[i]?=some ((xK e.next (zA e) N).contains (i:Int)):=λh=>LB (nx:=e.next) (i0:=zA e) (k:=N) (λj hj=>qI j hj) h
  obtain⟨b,hz⟩:=hz;by_cases hok:iI e.next (zA e)=true
  .have hp:xe e.next (zA e) N= -1:=by simpa [iI,hN] using hok
   rw[gz hok]at hz;rw[hp];conv=>whnf
   refine⟨λh=>absurd h aj,λ_=>uH ?_⟩;refine⟨aj,uH ?_⟩;refine⟨_,_,hz,uH ?_⟩;refine⟨λ_=>?_,λ_=>?_⟩ <;>
   .conv=>whnf
    exact de
  .have hp:xe e.next (zA e) N≠ -1:=by intro h;exact hok (by simp[iI,hN,h])
   rw[gp hok]at hz;generalize hP:xe e.next (zA e) N=p at *;conv=>whnf
   refine⟨λ_=>dd ?_,λh=>absurd h (by simp;exact hp)⟩;have fin:∀(X:Prop),X->X:=λ_ h=>h
   refine⟨λh1=>?_,λh1=>?_⟩
   .refine dd ?_;refine⟨aj,uH ?_⟩;refine⟨_,_,hz,uH ?_⟩;refine⟨λ_=>?_,λ_=>?_⟩ <;>
    .conv=>whnf
     exact de
   .refine dd ?_;refine⟨λh2=>?_,λh2=>?_⟩
    .refine dd ?_;refine⟨aj,uH ?_⟩;refine⟨_,_,hz,uH ?_⟩;refine⟨λ_=>?_,λ_=>?_⟩ <;>
     .conv=>whnf
      exact de
    .have g1:0<=p:=by simpa using h1
     have g2:p<e.next.length:=bd
     have hv:(xK e.next (zA e) N).contains (((p.toNat:Nat)):Int)=true:=by
      simp only[yU,hP,rD,pK,lK,Bool.and_eq_false_iff,pY]at c2;rw[rM g1];rcases c2 with(h|h)|h
      .exact absurd g1 h
      .exact absurd g2 h
      .exact h
     have hs:=hsN (i:=p.toNat) aw;rw[hv]at hs;refine dd ?_;refine⟨g1,aw,uH ?_⟩;refine⟨[Bo true],by rw[gU,gy,hs];rfl,gG _,?_⟩;refine zad ?_
     refine⟨aj,uH ?_⟩;refine⟨_,_,hz,uH ?_⟩;refine⟨λ_=>?_,λ_=>?_⟩ <;>
     .conv=>whnf
      exact de
def Xx(e:En)(X Y Z W:Ob):tj 189 [X,Y,Z,W] [Ev e] (.fn 228 [] [.ref 4 [] 3 0 0]) [X,Y,Z,W,oD e]:=by
 refine zb.zN (fn:=f189) func189 V (uH ?_);exact uJ
def On(e:En)(he:e.ok)(N:Nat)(hN:xg e.next (zA e)=N)(l:Nat)(rec rec':Ob)(rr:C)(rn:Int)(b:Bool)
 (hy:∀k,k<N->jM prog l ([oD e,⟨1,28,1,[[.fF 1 0 []]],0⟩,⟨1,39,1,[[I 0]],0⟩,⟨1,28,1,[[.gl 5 1 (vk e k)]],0⟩,oD e,⟨4,3,1,(vk e k),0⟩,rec]++[⟨2,4,1,(y9 e.next (zA e) (k+1)).map w6,0⟩]) [I (xe e.next (zA e) k)] (Bo true) ([oD e,⟨1,28,1,[[.fF 1 0 []]],0⟩,⟨1,39,1,[[I 0]],0⟩,⟨1,28,1,[[.gl 5 1 (vk e (k+1))]],0⟩,oD e,⟨4,3,1,(vk e (k+1)),0⟩,rec]++[⟨2,4,1,(y9 e.next (zA e) (k+1)).map w6,0⟩]))
 (hz:jM prog l ([oD e,⟨1,28,1,[[.fF 1 0 []]],0⟩,⟨1,39,1,[[I 0]],0⟩,⟨1,28,1,[[.gl 5 1 (vk e N)]],0⟩,oD e,⟨4,3,1,(vk e N),0⟩,rec]++[⟨2,4,1,(y9 e.next (zA e) N).map w6,0⟩]) [I (if iI e.next (zA e) then -1 else -2)] (Bo b) ([oD e,⟨1,28,1,[[rr]],0⟩,⟨1,39,1,[[I rn]],0⟩,⟨1,28,1,[[.gl 5 1 (vk e N)]],0⟩,oD e,⟨4,3,1,(vk e N),0⟩,rec']++[⟨2,4,1,(y9 e.next (zA e) N).map w6,0⟩])):
  tj 228 [oD e,⟨1,28,1,[[.fF 1 0 []]],0⟩,⟨1,39,1,[[I 0]],0⟩,⟨1,28,1,[[.gl 5 1 (vk e 0)]],0⟩,oD e,⟨4,3,1,(vk e 0),0⟩,rec] [.v (.func (.yield l) #[] #[]),.ref 4 [] 3 0 0] (.fJ []) ([oD e,⟨1,28,1,[[rr]],0⟩,⟨1,39,1,[[I rn]],0⟩,⟨1,28,1,[[.gl 5 1 (vk e N)]],0⟩,oD e,⟨4,3,1,(vk e N),0⟩,rec']++[⟨2,4,1,(y9 e.next (zA e) N).map w6,0⟩]):=by
 subst hN;exact WB e he l rec rec' rr rn hy ⟨b,hz⟩
abbrev tF(r:List Int×Int):C:=.fJ [lI r.1,I r.2]
def Kc(e:En)(he:e.ok):tj 153 [] [Ev e] (tF (qB e)) []:=by
 have hl:=he.2.1.2;obtain⟨c1,c2,c3⟩:=vr e.next (zA e);generalize hN:xg e.next (zA e)=N at *;refine ab func153 ?_;refine⟨_,_,Xx e _ _ _ _,uH ?_⟩;refine⟨_,zp.B7 3 0 3 1 V V (.inl V) V V,?_⟩
 have qI:∀j,j<N->0<=xe e.next (zA e) j:=λj hj=>by
  have:=c3 j hj;simp only[yU,pU,rX,lK,gH,gR]at this;exact this.1.1
 have hv:∀k,(vk e k).length=k:=λk=>by simp[Sx]
 have vs:∀k,vk e (k+1)=vk e k++[[I (xe e.next (zA e) k)]]:=λk=>by
  show(xK e.next (zA e) (k+1)).map encI=_;rw[La,pR];rfl
 by_cases hok:iI e.next (zA e)=true
 .refine⟨.normal,_,[oD e,⟨1,28,1,[[.fF 1 0 []]],0⟩,⟨1,39,1,[[I 0]],0⟩,⟨1,28,1,[[.gl 5 1 (vk e N)]],0⟩,oD e,⟨4,3,1,vk e N,0⟩],λl r h1 h2 h3 h4 h5=>⟨_,_,r,On e he N hN l (iN l r _) (iN l r _) (.fF 1 0 []) 0 true (λk hk=>?_) ?_,
   rfl,bf,rfl,pa _,bh,zp.low 6 _ _ V V V⟩,?_⟩
  .have g:=qI k hk;have hvk:=hv k;refine za3 ?_;refine⟨λh=>absurd h aA,λ_=>uH ?_⟩;refine⟨λh=>absurd h aA,λ_=>uH ?_⟩;refine⟨rfl,.inr V,by simp[maxLen,hvk];omega,by show _*8<=_;simp[hvk];omega,uH ?_⟩;rw[vs k];exact dg
  .rw[gz hok];refine za3 ?_;refine hZ ?_
   exact dg
  .have e1:qB e=(xK e.next (zA e) N,0):=by unfold qB;rw[gz hok,hN]
   rw[e1];conv=>whnf
   exact uI
 .refine⟨.ret,_,[oD e,⟨1,28,1,[[.fF 1 0 []]],0⟩,⟨1,39,1,[[I 11]],0⟩],λl r h1 h2 h3 h4 h5=>⟨_,_,left r .ret,On e he N hN l (iN l r _) (iN l (left r .ret) _) (.fF 1 0 []) 11 false (λk hk=>?_) ?_,
   rfl,aj,rfl,pa _,trivial,zp.low 3 _ _ V V V⟩,?_⟩
  .have g:=qI k hk;have hvk:=hv k;refine za3 ?_;refine⟨λh=>absurd h aA,λ_=>uH ?_⟩;refine⟨λh=>absurd h aA,λ_=>uH ?_⟩;refine⟨rfl,.inr V,by simp[maxLen,hvk];omega,by show _*8<=_;simp[hvk];omega,uH ?_⟩;rw[vs k];exact dg
  .rw[gp hok];refine za3 ?_;refine hZ ?_
   exact⟨_,_,.refl _,rfl,.inr ⟨rfl,.inl ⟨rfl,rfl⟩⟩⟩
  .have e1:qB e=([],11):=by unfold qB;rw[gp hok]
   rw[e1];conv=>whnf
   exact⟨.inl V,_,zp.var 1 V V V (.cons (WC.nil 0 1) .nil),rfl⟩
def zxW(e:En):((qB e).2 == 0)=iI e.next (zA e):=by
 unfold qB;cases iI e.next (zA e) <;> simp
def FH(e:En)(he:e.ok):tj 113 [] [Ev e] (Bo (fV e)) []:=by
 have h0:=zxW e;refine ab func113 ?_;refine ah (Kc e he) ?_;refine⟨λh1=>?_,λh1=>?_⟩
 .rw[show((qB e).2 == 0)=true from h1]at h0;refine dd ?_;refine⟨λh2=>?_,λh2=>?_⟩
  .refine dd ?_;refine⟨λh3=>?_,λh3=>?_⟩
   .refine dd ?_;(repeat' (first|(refine⟨λ_=>?_,λ_=>?_⟩ <;> (conv=>whnf))|fail))
    all_goals (rename_i h4;(exact⟨.inl V,_,.refl _,uN (by simp at h2 h3 h4;simp[fV,<-h0];omega)⟩))
   .refine dd ?_
    (exact⟨.inl V,_,.refl _,uN (by simp at h2 h3;simp[fV,<-h0];omega)⟩)
  .refine dd ?_
   (exact⟨.inl V,_,.refl _,uN (by simp at h2;simp[fV,<-h0];omega)⟩)
 .rw[show((qB e).2 == 0)=false from h1]at h0;refine dd ?_
  (exact⟨.inl V,_,.refl _,uN (by simp[fV,<-h0])⟩)
def Kh(x i:Int)(h:u64 x)(h3: -1<=i)(h4:i<=2147483646):tj 165 [] [U x,I i] (.fJ [U (qY x i),I 0]) []:=
 HM [] (λw=>(YtllehbdigpdinaaGreat.zwa x i w (Iu h).1 (Iu h).2 h3 h4).mono λe w' ⟨h1,h2⟩=>⟨h1,h2.symm⟩) Mt λE=>.fJ _ _ V λj c y e1 e2=>by
  match j,e1,e2 with
  |0,e1,e2=>cases e1;cases e2;exact .v _ V
  |1,e1,e2=>cases e1;cases e2;exact .v _ V
abbrev tQ(r:En×Int):C:=.fJ [Ev r.1,I r.2]
def qE(X Y:Ob)(x:Int)(l:List Int)(hl:l.length<17592186043904):tj 210 [X,Y] [lI (x::l)] (.sl 2 [] 1 0 (0+((l.map encI).length+1)) false) [X,Y,⟨2,3,1,(x::l).map encI,0⟩]:=by
 refine zb.zN (fn:=f210) func210 V (uH ?_);refine za7 ?_;exact uJ
def Zy:tj 145 [] [.v (.int .u32 0),I 0] (.fJ [U 1,I 0]) []:=
 HM [] (λw=>(YtllehbdigpdinaaGreat.Q7 0 0 w ar ar ar ar).mono λe w' ⟨h1,h2⟩=>⟨h1,h2.symm⟩) Mt λE=>.fJ _ _ V λj c y e1 e2=>by
  match j,e1,e2 with
  |0,e1,e2=>cases e1;cases e2;exact .v _ V
  |1,e1,e2=>cases e1;cases e2;exact .v _ V
def wg(n k:Nat):List Int:=(List.range n).map λi=>if i<k then (i:Int)+1 else 0
def Dl(n:Nat):List Int:=(List.range n).map λ(i:Nat)=>if i+1=n then -1 else (i:Int)+1
def D3(n k:Nat):(wg n k).length=n:=by simp[wg]
def zt8{n k:Nat}(h:k<n):(wg n k).set k ((k:Int)+1)=wg n (k+1):=by
 apply pC
 intro j;rw[gJ,D3];unfold wg;simp only[gy];by_cases hj:j<n
 .rw[rU hj];by_cases e:k=j
  .subst e;simp[h]
  .simp only[e,if_false,gK];by_cases h2:j<k
   .simp[h2,show j<k+1 from aw]
   .simp[h2,show ¬j<k+1 from aw]
 .rw[pM aA];simp;omega
def zwM{n:Nat}:(wg n n).set (n-1) (-1)=Dl n:=by
 apply pC
 intro j;rw[gJ,D3];unfold wg Dl;simp only[gy];by_cases hj:j<n
 .rw[rU hj];by_cases e:n-1=j
  .subst e;simp[show n-1<n from aw,show n-1+1=n from aw]
  .simp only[e,if_false,gK,hj,if_true,show ¬j+1=n from aw]
 .rw[pM aA];simp;omega
def zvp{n:Int}(h1:¬(n<1\/4<n)):w8 n=(⟨1,Dl n.toNat,0⟩,0):=by unfold w8;rw[gp h1];rfl
def N1(n:Int):tj 96 [] [I n] (tQ (w8 n)) []:=by
 refine ab func96 ?_;have hbad:n<1\/4<n->w8 n=(no,1):=λh=>by unfold w8;rw[gz h]
 refine⟨λh1=>?_,λh1=>?_⟩
 .rw[hbad (.inl tG)];exact zbi
 .refine dd ?_;refine⟨λh2=>?_,λh2=>?_⟩
  .rw[hbad (.inr tS)];exact zbi
  .have g1:1<=n:=by simp at h1;omega
   have g2:n<=4:=bd
   rw[zvp aw];obtain⟨m,rfl⟩:∃m:Nat,n=m:=⟨n.toNat,aw⟩;rw[toNat_cast];refine dd ?_;refine⟨rfl,aw,by show(8:Int)*_<=_;omega,aw,dd ?_⟩;refine qg.seq m (λk=>(I m::.za::.ref 0 [] 3 0 0::I 0::.ref 2 [] 3 0 0::tY (.za::.za::.za::.za::.za::I m::I k::tY (tY ([.za,.za,.za,.za]))))) (λk=>[⟨1,168,3,[[U 0,.fF 1 0 [],I 0]],0⟩,⟨2,3,1,(wg m k).map encI,0⟩,⟨1,168,3,[[U 0,.sl 1 [] 1 0 m false,I 0]],0⟩]) (λ_=>True) ?_ trivial (λk hk _=>?_) (λ_=>?_)
   .have e1:List.replicate ((m:Int)).toNat [C.v (Value.int .i64 0)]=(wg m 0).map encI:=by
     simp only[toNat_cast];apply pC
     intro j;rw[sP,gy];unfold wg;simp only[gy];split
     .rename_i hj;rw[rU hj];rfl
     .rw[pM aA];rfl
    show zp 0 ⟨_,[_,⟨2,3,1,List.replicate ((m:Int)).toNat [C.v (Value.int .i64 0)],0⟩,_]⟩ _;rw[e1];exact cC
   .have hg:((wg m k).map encI)[k]?=some (encI ((wg m k)[k]'(by rw[D3];exact hk))):=by rw[gy,gk (by rw[D3];exact hk)];rfl
    have hse:((wg m k).map encI).set k [I ((k+1:Nat):Int)]=(wg m (k+1)).map encI:=by rw[<-zt8 hk,rp];rfl
    conv=>whnf
    refine⟨λ_=>uH ?_,λh=>absurd h aA⟩;refine⟨aw,aA,dd ?_⟩;rw[gU,zw aw,toNat_cast];refine⟨_,hg,rfl,dd ?_⟩;rw[show List.set (List.map encI (wg m k)) k [C.v (Value.int IntKind.i64 ((k+1:Nat):Int))]=(wg m (k+1)).map encI from hse];refine zaF ?_;rw[zw aw];exact cE 3
   .have hg:((wg m m).map encI)[m-1]?=some (encI ((wg m m)[m-1]'(by rw[D3];omega))):=by rw[gy,gk (by rw[D3];omega)];rfl
    have hse:((wg m m).map encI).set (m-1) [I (-1)]=(Dl m).map encI:=by rw[<-zwM,rp];rfl
    have hw:IntKind.i64.wrap ((m:Int)-1)=((m-1:Nat):Int):=by rw[z7 aw aw];omega
    have iu:(Dl m).length=m:=by simp[Dl]
    conv=>whnf
    refine⟨λh=>absurd h aj,λ_=>uH ?_⟩;refine⟨aj,uH ?_⟩;rw[hw];refine⟨aw,aA,dd ?_⟩;rw[gU,toNat_cast];refine⟨_,hg,rfl,dd ?_⟩;rw[show List.set (List.map encI (wg m m)) (m-1) [C.v (Value.int IntKind.i64 (-1))]=(Dl m).map encI from hse];refine ah Zy ?_
    exact⟨.inl V,_,zp.R3 0 1 V V V (by simp[iu]) (λr hr c hc=>by
     obtain⟨n,_,rfl⟩:=gY.1 hr;simp[encI]at hc;subst hc;rfl) rfl rfl,rfl⟩
end Go.Slp
