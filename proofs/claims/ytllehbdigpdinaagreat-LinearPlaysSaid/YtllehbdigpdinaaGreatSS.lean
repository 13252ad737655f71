import Derived.WalkKit
import Derived.Test.YtllehbdigpdinaaGreatRows
import Derived.Test.YtllehbdigpdinaaGreatSJ
import Derived.Test.YtllehbdigpdinaaGreatSC
import Derived.Test.YtllehbdigpdinaaGreatProg
set_option linter.all false
set_option maxRecDepth 100000
set_option maxHeartbeats 4000000
namespace Go.Proofs.YtllehbdigpdinaaGreat
open Go.RowKit
def zxz(t i:Int)(h1:0<=t)(h2:t<4294967296)(h3: -1<=i)(h4:i<=2147483646):
  bits .or .u64 (t*4294967296) (i+1)=t*4294967296+(i+1):=by
 rw[u64_or _ _ aw aw aw aw];obtain⟨a,rfl⟩:=Int.eq_ofNat_of_zero_le h1;obtain⟨b,hb⟩:=Int.eq_ofNat_of_zero_le (show 0<=i+1 by omega);rw[hb]
 have eU:b<2 ^ 32:=by
   have:(b:Int)<4294967296:=aw
   simpa using (by omega:b<4294967296)
 have:=Nat.two_pow_add_eq_or_of_lt eU a;have e:((a:Int)*4294967296).toNat=2 ^ 32*a:=aw
 rw[e,pK,<-this];omega
def N7(t i:Int)(w:World)(h1:0<=t)(h2:t<4294967296)(h3: -1<=i)(h4:i<=2147483646):
  Calls Tryz.prog 145 #[.int .u32 t,.int .i64 i] w λe w'=>e=.returned (.tuple #[.int .u64 (t*4294967296+(i+1)),.int .i64 0])/\w=w':=by
 go_enter Tryz.func145,Tryz.ntmps145
 go_wp2
 go_ret2
 exact⟨by simp[zxz t i h1 h2 h3 h4],rfl⟩
def zww(x:Int)(w:World)(h1:0<=x)(h2:x<18446744073709551616):
  Calls Tryz.prog 217 #[.int .u64 x] w λe w'=>e=.returned (.int .u32 (x / 4294967296))/\w=w':=by
 go_enter Tryz.func217,Tryz.ntmps217
 go_wp2
 go_ret
 exact⟨rfl,rfl⟩
def V5(x:Int)(w:World)(h1:0<=x)(h2:x<18446744073709551616):
  Calls Tryz.prog 163 #[.int .u64 x] w λe w'=>e=.returned (.int .i64 (x%4294967296-1))/\w=w':=by
 go_enter Tryz.func163,Tryz.ntmps163
 go_wp2
 go_ret
 exact⟨rfl,rfl⟩
def Xz(x i:Int)(w:World)(h1:0<=x)(h2:x<18446744073709551616)(h3: -1<=i)(h4:i<=2147483646):
  Calls Tryz.prog 165 #[.int .u64 x,.int .i64 i] w λe w'=>e=.returned (.tuple #[.int .u64 ((x / 4294967296+1)%4294967296*4294967296+(i+1)),.int .i64 0])/\w=w':=by
 go_enter Tryz.func165,Tryz.ntmps165
 go_wp2_with (first|(go_at_call 217;refine(zww _ _ h1 h2).mono ?_;rintro e w' ⟨rfl,rfl⟩)|(go_at_call 145;refine(N7 _ _ _ aw aw h3 h4).mono ?_;rintro e w' ⟨rfl,rfl⟩))
 go_ret2
 exact⟨rfl,rfl⟩
end Go.Proofs.YtllehbdigpdinaaGreat
namespace Go.Slp
open Go.Ab Go.Hy
def iK(nx:List Int)(i:Int):Bool:=decide (0<=i) && decide (i<nx.length)
def im(nx:List Int)(i:Int):Int:=(nx[i.toNat]?).getD 0
def jW(nx:List Int)(i0:Int):Nat->Int
 |0=>i0
 |k+1=>im nx (jW nx i0 k)
def xi(nx:List Int)(i0:Int)(k:Nat):List Int:=(List.range k).map (jW nx i0)
def yy(nx:List Int)(i0:Int)(k:Nat):Bool:=!iK nx (jW nx i0 k) || (xi nx i0 k).contains (jW nx i0 k)
def jZ(nx:List Int)(i0:Int):Nat:=((List.range (nx.length+1)).find? (yy nx i0)).getD 0
def fW(nx:List Int)(i0:Int):Bool:=jW nx i0 (jZ nx i0) == -1
def JH:∀(n:Nat) (l:List Int),l.Nodup->(∀x∈l,0<=x/\x<n)->l.length<=n
 |0,l,_,h=>by
  cases l with
  |nil=>exact gD _
  |cons x l=>have:=h x (pW ..);omega
 |n+1,l,hd,h=>by
  by_cases hm:(n:Int)∈l
  ·have h1:=JH n (l.erase n) (hd.erase _) λx hx=>by
    have h2:=h x (List.mem_of_mem_erase hx)
    have h3:x≠n:=λe=>by
     subst e;exact absurd hx (List.Nodup.not_mem_erase hd)
    omega
   rw[List.length_erase_of_mem hm]at h1;omega
  ·have:=JH n l hd λx hx=>by
    have h2:=h x hx;have h3:x≠n:=λe=>hm (e ▸ hx)
    omega
   omega
def Iy(nx:List Int)(i0:Int)(k:Nat):xi nx i0 (k+1)=xi nx i0 k++[jW nx i0 k]:=by
 simp[xi,List.range_succ]
def Ox(nx:List Int)(i0:Int)(k:Nat):(xi nx i0 k).length=k:=by simp[xi]
def Fy{nx:List Int}{i0:Int}:∀{k:Nat},(∀j,j<k->yy nx i0 j=false)->(xi nx i0 k).Nodup/\∀x∈xi nx i0 k,iK nx x=true
 |0,_=>⟨by simp[xi],by simp[xi]⟩
 |k+1,h=>by
  obtain⟨h1,h2⟩:=Fy (k:=k) λj hj=>h j aw
  have h3:=h k aw;simp only[yy,pD,rL]at h3;have h4:jW nx i0 k∉xi nx i0 k:=aq h3.2
  rw[Iy];refine⟨?_,?_⟩
  ·rw[List.nodup_append];refine⟨h1,aj,?_⟩;intro a ha b hb e;rw[gN]at hb;subst hb e;exact h4 ha
  ·intro x hx;rcases gO.1 hx with hx|hx
   ·exact h2 x hx
   ·rw[gN.1 hx];exact h3.1
def vy(nx:List Int)(i0:Int):jZ nx i0<=nx.length/\yy nx i0 (jZ nx i0)=true/\∀j,j<jZ nx i0->yy nx i0 j=false:=by
 unfold jZ;cases e:(List.range (nx.length+1)).find? (yy nx i0) with
 |none=>
  exfalso
  rw[List.find?_eq_none]at e;have h:∀j,j<nx.length+1->yy nx i0 j=false:=λj hj=>by simpa using e j (rp.2 hj)
  obtain⟨h1,h2⟩:=Fy h
  have:=JH nx.length _ h1 λx hx=>by
   have:=h2 x hx;simp only[iK,gC,gM]at this;exact dF
  rw[Ox]at this;omega
 |some k=>
  rw[List.find?_eq_some_iff_append]at e;obtain⟨h1,az,bs,h2,h3⟩:=e
  have hk:az.length=k/\k<nx.length+1:=by
   have h4:(List.range (nx.length+1))[az.length]?=some k:=by rw[h2];simp
   have h5:=(dY.1 h4);obtain⟨h6,h7⟩:=h5;rw[List.getElem_range]at h7;simp at h6;omega
  refine⟨aA,aq h1,λj hj=>?_⟩
  have h8:(List.range (nx.length+1))[j]?=some j:=by
   simp at hj;rw[rW aw]
  rw[h2,gz (by simp at hj;omega)]at h8;simpa using h3 j (gh h8)
def It{nx:List Int}{i0:Int}{n:Nat}(h1:yy nx i0 n=true)(h2:∀j,j<n->yy nx i0 j=false):jZ nx i0=n:=by
 obtain⟨_,h3,h4⟩:=vy nx i0;rcases rU (jZ nx i0) n with h|h|h
 ·rw[h2 _ h]at h3;cases h3
 ·exact h
 ·rw[h4 _ h]at h1;cases h1
abbrev no:En:=⟨0,[],0⟩
def zA(e:En):Int:=e.head%4294967296-1
def jb(x i:Int):Int:=(x / 4294967296+1)%4294967296*4294967296+(i+1)
def qG(e:En):List Int×Int:=if fW e.next (zA e) then (xi e.next (zA e) (jZ e.next (zA e)),0) else ([],11)
def ft(e:En):Bool:=fW e.next (zA e) && decide (1<=e.next.length) && decide (e.next.length<=4) && decide (0<=e.zi)
def GJ(e:En):En×Int×Int:=
 if ft e=false then (no,0,11) else if zA e<0 then (no,0,5) else (⟨jb e.head (im e.next (zA e)),e.next,e.zi⟩,zA e,0)
def Gn(e:En)(slot:Int):En×Int:=
 if ft e=false then (no,11) else if slot<0\/e.next.length<=slot then (no,1) else if (qG e).1.contains slot then (no,4)
 else (⟨jb e.head slot,e.next.set slot.toNat (zA e),e.zi⟩,0)
def kW(n:Int):En×Int:=if n<1\/4<n then (no,1) else (⟨1,(List.range n.toNat).map λ(i:Nat)=>if i+1=n.toNat then -1 else (i:Int)+1,0⟩,0)
def XI(e:En): -1<=zA e/\zA e<=4294967294:=by unfold zA;omega
def Zm{nx:List Int}{i0:Int}(h:fW nx i0=true){k:Nat}(hk:k<jZ nx i0):iK nx (jW nx i0 k)=true/\ -1<=jW nx i0 (k+1)/\jW nx i0 (k+1)<nx.length:=by
 obtain⟨h1,h2,h3⟩:=vy nx i0;have h4:=h3 k hk;simp only[yy,pD,rL]at h4;refine⟨h4.1,?_⟩;rcases pR (k+1) (jZ nx i0) with h5|h5
 ·have h6:=h3 _ h5;simp only[yy,pD,rL,iK,gC,gM]at h6;omega
 ·have e:k+1=jZ nx i0:=by omega
  rw[e];simp only[fW,pq]at h;rw[h];omega
def OB{nx:List Int}{i0:Int}(h:fW nx i0=true)(h0:¬i0<0):0<jZ nx i0:=by
 rcases sM (jZ nx i0) with e|e
 ·simp only[fW,e,jW,pq]at h;omega
 ·exact e
def Bt{e:En}(h:ft e=true):fW e.next (zA e)=true/\1<=e.next.length/\e.next.length<=4/\0<=e.zi:=by
 simp only[ft,gC,gM]at h;exact⟨h.1.1.1,h.1.1.2,h.1.2,h.2⟩
def OI{e:En}(h:ft e=true)(h0:¬zA e<0):0<=zA e/\zA e<e.next.length/\ -1<=im e.next (zA e)/\im e.next (zA e)<e.next.length:=by
 obtain⟨h1,h2,h3,h4⟩:=Bt h;obtain⟨h5,h6,h7⟩:=Zm h1 (OB h1 h0);simp only[iK,jW,gC]at h5;exact⟨gH h5.1,gH h5.2,h6,h7⟩
def yJ(nx:List Int)(i0:Int):Nat->List Bool
 |0=>List.replicate nx.length false
 |k+1=>(yJ nx i0 k).set (jW nx i0 k).toNat true
def NG(nx:List Int)(i0:Int):∀k,(yJ nx i0 k).length=nx.length
 |0=>by simp[yJ]
 |k+1=>by simp[yJ,NG nx i0 k]
def I7{nx:List Int}{i0:Int}:∀{k:Nat},(∀j,j<k->iK nx (jW nx i0 j)=true)->∀{i:Nat},i<nx.length->(yJ nx i0 k)[i]?=some ((xi nx i0 k).contains (i:Int))
 |0,_,i,hi=>by simp[yJ,xi,hi]
 |k+1,h,i,hi=>by
  have ih:=I7 (k:=k) (λj hj=>h j aw) hi;have hb:=h k aw;simp only[iK,gC,gM]at hb;rw[Iy];simp only[yJ];rw[gG,NG];by_cases e:(jW nx i0 k).toNat=i
  ·rw[gk e,gk aw];have:(i:Int)=jW nx i0 k:=by omega
   simp[this]
  ·rw[gf e,ih];have:¬(i:Int)=jW nx i0 k:=by omega
   simp[this]
end Go.Slp
namespace Go.Slp
open Go.Ab Go.Proofs Tryz Go.Hy
def F9{x:Int}(h:u64 x):0<=x/\x<18446744073709551616:=by unfold u64 at h;omega
def qI(x:Int)(h:u64 x):tn 163 [] [U x] (I (x%4294967296-1)) []:=
 FA [] (λw=>(YtllehbdigpdinaaGreat.V5 x w (F9 h).1 (F9 h).2).mono λe w' ⟨h1,h2⟩=>⟨h1,h2.symm⟩) zya λE=>.v _ O
abbrev Ev(e:En):C:=.agg (zD e)
abbrev vk(e:En)(k:Nat):List (List C):=(xi e.next (zA e) k).map encI
def Sh(e:En)(he:e.ok)(l:Nat)(rec rec':Ob)(rr:C)(rn:Int)
 (hy:∀k,k<jZ e.next (zA e)->jC prog l ([oD e,⟨1,28,1,[[.eS 1 0 []]],0⟩,⟨1,39,1,[[I 0]],0⟩,⟨1,28,1,[[.gl 5 1 (vk e k)]],0⟩,oD e,⟨4,3,1,(vk e k),0⟩,rec]++[⟨2,4,1,(yJ e.next (zA e) (k+1)).map kU,0⟩]) [I (jW e.next (zA e) k)] (Bo true) ([oD e,⟨1,28,1,[[.eS 1 0 []]],0⟩,⟨1,39,1,[[I 0]],0⟩,⟨1,28,1,[[.gl 5 1 (vk e (k+1))]],0⟩,oD e,⟨4,3,1,(vk e (k+1)),0⟩,rec]++[⟨2,4,1,(yJ e.next (zA e) (k+1)).map kU,0⟩]))
 (hz:∃b,jC prog l ([oD e,⟨1,28,1,[[.eS 1 0 []]],0⟩,⟨1,39,1,[[I 0]],0⟩,⟨1,28,1,[[.gl 5 1 (vk e (jZ e.next (zA e)))]],0⟩,oD e,⟨4,3,1,(vk e (jZ e.next (zA e))),0⟩,rec]++[⟨2,4,1,(yJ e.next (zA e) (jZ e.next (zA e))).map kU,0⟩]) [I (if fW e.next (zA e) then -1 else -2)] (Bo b) ([oD e,⟨1,28,1,[[rr]],0⟩,⟨1,39,1,[[I rn]],0⟩,⟨1,28,1,[[.gl 5 1 (vk e (jZ e.next (zA e)))]],0⟩,oD e,⟨4,3,1,(vk e (jZ e.next (zA e))),0⟩,rec']++[⟨2,4,1,(yJ e.next (zA e) (jZ e.next (zA e))).map kU,0⟩])):
  tn 228 [oD e,⟨1,28,1,[[.eS 1 0 []]],0⟩,⟨1,39,1,[[I 0]],0⟩,⟨1,28,1,[[.gl 5 1 (vk e 0)]],0⟩,oD e,⟨4,3,1,(vk e 0),0⟩,rec] [.v (.func (.yield l) #[] #[]),.ref 4 [] 3 0 0] (.fb []) ([oD e,⟨1,28,1,[[rr]],0⟩,⟨1,39,1,[[I rn]],0⟩,⟨1,28,1,[[.gl 5 1 (vk e (jZ e.next (zA e)))]],0⟩,oD e,⟨4,3,1,(vk e (jZ e.next (zA e))),0⟩,rec']++[⟨2,4,1,(yJ e.next (zA e) (jZ e.next (zA e))).map kU,0⟩]):=by
 refine zb.zG (fn:=f228) func228 O (uH ?_);have hl:=he.2.1.2;have hlm:(e.next.map encI).length=e.next.length:=gp ..;obtain⟨c1,c2,c3⟩:=vy e.next (zA e)
 have jz:∀j,j<jZ e.next (zA e)->iK e.next (jW e.next (zA e) j)=true:=λj hj=>by
  have:=c3 j hj;simp only[yy,pD,rL]at this;exact this.1
 refine⟨rfl,aw,by show(1:Int)*_<=_;omega,aw,uH ?_⟩;refine ah (qI e.head he.1) ?_
 refine qa.seq (jZ e.next (zA e)) (λk=>(.v (.func (.yield l) #[] #[])::.ref 4 [] 3 0 0::.za::.sl 7 [] 1 0 e.next.length false::I (jW e.next (zA e) k)::hU (hU (hU (hU ([.za,.za,.za,.za,.za,.za,.za]))))))
  (λk=>[oD e,⟨1,28,1,[[.eS 1 0 []]],0⟩,⟨1,39,1,[[I 0]],0⟩,⟨1,28,1,[[.gl 5 1 (vk e k)]],0⟩,oD e,⟨4,3,1,(vk e k),0⟩,rec]++[⟨2,4,1,(yJ e.next (zA e) k).map kU,0⟩]) (λ_=>True) ?_ trivial (λk hk _=>?_) (λ_=>?_)
 ·have e1:List.replicate (((e.next.map encI).length:Int)).toNat (List.map fC (Value.bool false).cells.toList)=(yJ e.next (zA e) 0).map kU:=by
   simp[yJ,kU,fC,Value.cells]
  rw[e1,hlm,toNat_cast];exact cC
 ·have g:=jz k hk;simp only[iK,gC,gM]at g;obtain⟨g1,g2⟩:=g;have hs:=I7 (nx:=e.next) (i0:=zA e) (k:=k) (λj hj=>jz j aw) (i:=(jW e.next (zA e) k).toNat) aw
  have hv:(xi e.next (zA e) k).contains (((jW e.next (zA e) k).toNat:Nat):Int)=false:=by
   have:=c3 k hk;simp only[yy,pD,rL]at this;rw[rH g1];exact this.2
  rw[hv]at hs;have hyk:=hy k hk
  have hnx:(e.next)[(jW e.next (zA e) k).toNat]?=some (jW e.next (zA e) (k+1)):=by
   show _=some (im e.next (jW e.next (zA e) k));unfold im;rw[dZ aw]
   rfl
  have hse:(yJ e.next (zA e) (k+1)).map kU=((yJ e.next (zA e) k).map kU).set (jW e.next (zA e) k).toNat [Bo true]:=by
   show(List.set _ _ _).map kU=_;rw[p9];rfl
  rw[hse]at hyk;rw[hse];generalize hP:jW e.next (zA e) k=p at *;generalize hQ:jW e.next (zA e) (k+1)=p' at *;conv=>whnf
  refine⟨λ_=>dd ?_,λh=>absurd h aA⟩;refine⟨λh=>absurd h aA,λ_=>dd ?_⟩;refine⟨λh=>absurd h aA,λ_=>dd ?_⟩;refine⟨g1,aw,uH ?_⟩;refine⟨[Bo false],by rw[gI,gj,hs];rfl,gD _,?_⟩;refine dd ?_;refine tc ?_
  refine⟨g1,aw,uH ?_⟩;refine⟨[Bo false],by rw[gI,gj,hs];rfl,rfl,?_⟩;conv=>whnf
  rw[gI];refine⟨_,_,hyk,dd ?_⟩;refine tc ?_
  refine⟨g1,[I p'],by rw[gj,hnx];rfl,?_⟩;conv=>whnf
  exact .inl ⟨rfl,cC,trivial⟩
 ·generalize hN:jZ e.next (zA e)=N at *;have hsN:∀{i:Nat},i<e.next.length->(yJ e.next (zA e) N)[i]?=some ((xi e.next (zA e) N).contains (i:Int)):=λh=>I7 (nx:=e.next) (i0:=zA e) (k:=N) (λj hj=>jz j hj) h
  obtain⟨b,hz⟩:=hz;by_cases hok:fW e.next (zA e)=true
  ·have hp:jW e.next (zA e) N= -1:=by simpa [fW,hN] using hok
   rw[gk hok]at hz;rw[hp];conv=>whnf
   refine⟨λh=>absurd h aj,λ_=>uH ?_⟩;refine⟨aj,uH ?_⟩;refine⟨_,_,hz,uH ?_⟩;refine⟨λ_=>?_,λ_=>?_⟩ <;>
   ·conv=>whnf
    exact c8
  ·have hp:jW e.next (zA e) N≠ -1:=by intro h;exact hok (by simp[fW,hN,h])
   rw[gf hok]at hz;generalize hP:jW e.next (zA e) N=p at *;conv=>whnf
   refine⟨λ_=>dd ?_,λh=>absurd h (by simp;exact hp)⟩;have fin:∀(X:Prop),X->X:=λ_ h=>h
   refine⟨λh1=>?_,λh1=>?_⟩
   ·refine dd ?_;refine⟨aj,uH ?_⟩;refine⟨_,_,hz,uH ?_⟩;refine⟨λ_=>?_,λ_=>?_⟩ <;>
    ·conv=>whnf
     exact c8
   ·refine dd ?_;refine⟨λh2=>?_,λh2=>?_⟩
    ·refine dd ?_;refine⟨aj,uH ?_⟩;refine⟨_,_,hz,uH ?_⟩;refine⟨λ_=>?_,λ_=>?_⟩ <;>
     ·conv=>whnf
      exact c8
    ·have g1:0<=p:=by simpa using h1
     have g2:p<e.next.length:=ba
     have hv:(xi e.next (zA e) N).contains (((p.toNat:Nat)):Int)=true:=by
      simp only[yy,hP,p8,pJ,iK,Bool.and_eq_false_iff,pn]at c2;rw[rH g1];rcases c2 with(h|h)|h
      ·exact absurd g1 h
      ·exact absurd g2 h
      ·exact h
     have hs:=hsN (i:=p.toNat) aw;rw[hv]at hs;refine dd ?_;refine⟨g1,aw,uH ?_⟩;refine⟨[Bo true],by rw[gI,gj,hs];rfl,gD _,?_⟩;refine dd ?_;refine tc ?_
     refine⟨aj,uH ?_⟩;refine⟨_,_,hz,uH ?_⟩;refine⟨λ_=>?_,λ_=>?_⟩ <;>
     ·conv=>whnf
      exact c8
def SF(e:En)(X Y Z W:Ob):tn 189 [X,Y,Z,W] [Ev e] (.fn 228 [] [.ref 4 [] 3 0 0]) [X,Y,Z,W,oD e]:=by
 refine zb.zG (fn:=f189) func189 O (uH ?_);exact uJ
def K3(e:En)(he:e.ok)(N:Nat)(hN:jZ e.next (zA e)=N)(l:Nat)(rec rec':Ob)(rr:C)(rn:Int)(b:Bool)
 (hy:∀k,k<N->jC prog l ([oD e,⟨1,28,1,[[.eS 1 0 []]],0⟩,⟨1,39,1,[[I 0]],0⟩,⟨1,28,1,[[.gl 5 1 (vk e k)]],0⟩,oD e,⟨4,3,1,(vk e k),0⟩,rec]++[⟨2,4,1,(yJ e.next (zA e) (k+1)).map kU,0⟩]) [I (jW e.next (zA e) k)] (Bo true) ([oD e,⟨1,28,1,[[.eS 1 0 []]],0⟩,⟨1,39,1,[[I 0]],0⟩,⟨1,28,1,[[.gl 5 1 (vk e (k+1))]],0⟩,oD e,⟨4,3,1,(vk e (k+1)),0⟩,rec]++[⟨2,4,1,(yJ e.next (zA e) (k+1)).map kU,0⟩]))
 (hz:jC prog l ([oD e,⟨1,28,1,[[.eS 1 0 []]],0⟩,⟨1,39,1,[[I 0]],0⟩,⟨1,28,1,[[.gl 5 1 (vk e N)]],0⟩,oD e,⟨4,3,1,(vk e N),0⟩,rec]++[⟨2,4,1,(yJ e.next (zA e) N).map kU,0⟩]) [I (if fW e.next (zA e) then -1 else -2)] (Bo b) ([oD e,⟨1,28,1,[[rr]],0⟩,⟨1,39,1,[[I rn]],0⟩,⟨1,28,1,[[.gl 5 1 (vk e N)]],0⟩,oD e,⟨4,3,1,(vk e N),0⟩,rec']++[⟨2,4,1,(yJ e.next (zA e) N).map kU,0⟩])):
  tn 228 [oD e,⟨1,28,1,[[.eS 1 0 []]],0⟩,⟨1,39,1,[[I 0]],0⟩,⟨1,28,1,[[.gl 5 1 (vk e 0)]],0⟩,oD e,⟨4,3,1,(vk e 0),0⟩,rec] [.v (.func (.yield l) #[] #[]),.ref 4 [] 3 0 0] (.fb []) ([oD e,⟨1,28,1,[[rr]],0⟩,⟨1,39,1,[[I rn]],0⟩,⟨1,28,1,[[.gl 5 1 (vk e N)]],0⟩,oD e,⟨4,3,1,(vk e N),0⟩,rec']++[⟨2,4,1,(yJ e.next (zA e) N).map kU,0⟩]):=by
 subst hN;exact Sh e he l rec rec' rr rn hy ⟨b,hz⟩
abbrev tF(r:List Int×Int):C:=.fb [lI r.1,I r.2]
def Hu(e:En)(he:e.ok):tn 153 [] [Ev e] (tF (qG e)) []:=by
 have hl:=he.2.1.2;obtain⟨c1,c2,c3⟩:=vy e.next (zA e);generalize hN:jZ e.next (zA e)=N at *;refine ab func153 ?_;refine⟨_,_,SF e _ _ _ _,uH ?_⟩;refine⟨_,zn.Ae 3 0 3 1 O O (.inl O) O O,?_⟩
 have jz:∀j,j<N->0<=jW e.next (zA e) j:=λj hj=>by
  have:=c3 j hj;simp only[yy,pD,rL,iK,gC,gM]at this;exact this.1.1
 have hv:∀k,(vk e k).length=k:=λk=>by simp[Ox]
 have vs:∀k,vk e (k+1)=vk e k++[[I (jW e.next (zA e) k)]]:=λk=>by
  show(xi e.next (zA e) (k+1)).map encI=_;rw[Iy,rb];rfl
 by_cases hok:fW e.next (zA e)=true
 ·refine⟨.normal,_,[oD e,⟨1,28,1,[[.eS 1 0 []]],0⟩,⟨1,39,1,[[I 0]],0⟩,⟨1,28,1,[[.gl 5 1 (vk e N)]],0⟩,oD e,⟨4,3,1,vk e N,0⟩],λl r h1 h2 h3 h4 h5=>⟨_,_,r,K3 e he N hN l (fZ l r _) (fZ l r _) (.eS 1 0 []) 0 true (λk hk=>?_) ?_,
   rfl,bb,rfl,gY _,bc,zn.low 6 _ _ O O O⟩,?_⟩
  ·have g:=jz k hk;have hvk:=hv k;refine jC.zG (id:=6) O h1 h2 h3 h4 h5 O O O (uH ?_);refine⟨rfl,rfl,uH ?_⟩;refine⟨λh=>absurd h aA,λ_=>uH ?_⟩;refine⟨λh=>absurd h aA,λ_=>uH ?_⟩;refine⟨rfl,.inr O,by simp[maxLen,hvk];omega,by show _*8<=_;simp[hvk];omega,uH ?_⟩;rw[vs k];exact dg
  ·rw[gk hok];refine jC.zG (id:=6) O h1 h2 h3 h4 h5 O O O (uH ?_);refine⟨rfl,rfl,uH ?_⟩;refine tc ?_
   exact dg
  ·have e1:qG e=(xi e.next (zA e) N,0):=by unfold qG;rw[gk hok,hN]
   rw[e1];conv=>whnf
   exact uI
 ·refine⟨.ret,_,[oD e,⟨1,28,1,[[.eS 1 0 []]],0⟩,⟨1,39,1,[[I 11]],0⟩],λl r h1 h2 h3 h4 h5=>⟨_,_,left r .ret,K3 e he N hN l (fZ l r _) (fZ l (left r .ret) _) (.eS 1 0 []) 11 false (λk hk=>?_) ?_,
   rfl,aj,rfl,gY _,trivial,zn.low 3 _ _ O O O⟩,?_⟩
  ·have g:=jz k hk;have hvk:=hv k;refine jC.zG (id:=6) O h1 h2 h3 h4 h5 O O O (uH ?_);refine⟨rfl,rfl,uH ?_⟩;refine⟨λh=>absurd h aA,λ_=>uH ?_⟩;refine⟨λh=>absurd h aA,λ_=>uH ?_⟩;refine⟨rfl,.inr O,by simp[maxLen,hvk];omega,by show _*8<=_;simp[hvk];omega,uH ?_⟩;rw[vs k];exact dg
  ·rw[gf hok];refine jC.zG (id:=6) O h1 h2 h3 h4 h5 O O O (uH ?_);refine⟨rfl,rfl,uH ?_⟩;refine tc ?_
   exact⟨_,_,.refl _,rfl,.inr ⟨rfl,.inl ⟨rfl,rfl⟩⟩⟩
  ·have e1:qG e=([],11):=by unfold qG;rw[gf hok]
   rw[e1];conv=>whnf
   exact⟨.inl O,_,zn.var 1 O O O (.cons (WC.nil 0 1) .nil),rfl⟩
def Qb(l:List Int)(x:Int):Int:=match l.findIdx? (· == x) with|some i=>i|none=> -1
def IQ(l:List Int)(x:Int):decide (0<=Qb l x)=l.contains x:=by
 unfold Qb;cases e:l.findIdx? (· == x) with
 |some i=>
  rw[gJ]at e;obtain⟨h1,h2,_⟩:=e;have:x∈l:=by rw[pq]at h2;rw[<-h2];exact gW h1
  simp[this]
 |none=>
  rw[gP]at e;have:¬x∈l:=λh=>by have:=e x h;simp at this
  simp[this]
def ZJ(e:En):((qG e).2 == 0)=fW e.next (zA e):=by
 unfold qG;cases fW e.next (zA e) <;> simp
def DT(e:En)(he:e.ok):tn 113 [] [Ev e] (Bo (ft e)) []:=by
 have h0:=ZJ e;refine ab func113 ?_;refine ah (Hu e he) ?_;refine⟨λh1=>?_,λh1=>?_⟩
 ·rw[show((qG e).2 == 0)=true from h1]at h0;refine dd ?_;refine⟨λh2=>?_,λh2=>?_⟩
  ·refine dd ?_;refine⟨λh3=>?_,λh3=>?_⟩
   ·refine dd ?_;(repeat' (first|(refine⟨λ_=>?_,λ_=>?_⟩ <;> (conv=>whnf))|fail))
    all_goals (rename_i h4;(exact⟨.inl O,_,.refl _,uN (by simp at h2 h3 h4;simp[ft,<-h0];omega)⟩))
   ·refine dd ?_
    (exact⟨.inl O,_,.refl _,uN (by simp at h2 h3;simp[ft,<-h0];omega)⟩)
  ·refine dd ?_
   (exact⟨.inl O,_,.refl _,uN (by simp at h2;simp[ft,<-h0];omega)⟩)
 ·rw[show((qG e).2 == 0)=false from h1]at h0;refine dd ?_
  (exact⟨.inl O,_,.refl _,uN (by simp[ft,<-h0])⟩)
def HB(x i:Int)(h:u64 x)(h3: -1<=i)(h4:i<=2147483646):tn 165 [] [U x,I i] (.fb [U (jb x i),I 0]) []:=
 FA [] (λw=>(YtllehbdigpdinaaGreat.Xz x i w (F9 h).1 (F9 h).2 h3 h4).mono λe w' ⟨h1,h2⟩=>⟨h1,h2.symm⟩) JK λE=>.fb _ _ O λj c y e1 e2=>by
  match j,e1,e2 with
  |0,e1,e2=>cases e1;cases e2;exact .v _ O
  |1,e1,e2=>cases e1;cases e2;exact .v _ O
abbrev tQ(r:En×Int):C:=.fb [Ev r.1,I r.2]
def qw(X Y:Ob)(x:Int)(l:List Int)(hl:l.length<17592186043904):tn 210 [X,Y] [lI (x::l)] (.sl 2 [] 1 0 (0+((l.map encI).length+1)) false) [X,Y,⟨2,3,1,(x::l).map encI,0⟩]:=by
 refine zb.zG (fn:=f210) func210 O (uH ?_);refine⟨aj,uH ?_⟩;refine .inr ⟨.inl O,ay,bd,uH ?_⟩;exact uJ
def Ur:tn 145 [] [.v (.int .u32 0),I 0] (.fb [U 1,I 0]) []:=
 FA [] (λw=>(YtllehbdigpdinaaGreat.N7 0 0 w ar ar ar ar).mono λe w' ⟨h1,h2⟩=>⟨h1,h2.symm⟩) JK λE=>.fb _ _ O λj c y e1 e2=>by
  match j,e1,e2 with
  |0,e1,e2=>cases e1;cases e2;exact .v _ O
  |1,e1,e2=>cases e1;cases e2;exact .v _ O
def ko(n k:Nat):List Int:=(List.range n).map λi=>if i<k then (i:Int)+1 else 0
def BX(n:Nat):List Int:=(List.range n).map λ(i:Nat)=>if i+1=n then -1 else (i:Int)+1
def CL(n k:Nat):(ko n k).length=n:=by simp[ko]
def Xn{n k:Nat}(h:k<n):(ko n k).set k ((k:Int)+1)=ko n (k+1):=by
 apply pI
 intro j;rw[gG,CL];unfold ko;simp only[gj];by_cases hj:j<n
 ·rw[rW hj];by_cases e:k=j
  ·subst e;simp[h]
  ·simp only[e,if_false,gF];by_cases h2:j<k
   ·simp[h2,show j<k+1 from aw]
   ·simp[h2,show ¬j<k+1 from aw]
 ·rw[pV aA];simp;omega
def YN{n:Nat}:(ko n n).set (n-1) (-1)=BX n:=by
 apply pI
 intro j;rw[gG,CL];unfold ko BX;simp only[gj];by_cases hj:j<n
 ·rw[rW hj];by_cases e:n-1=j
  ·subst e;simp[show n-1<n from aw,show n-1+1=n from aw]
  ·simp only[e,if_false,gF,hj,if_true,show ¬j+1=n from aw]
 ·rw[pV aA];simp;omega
def Yb{n:Int}(h1:¬(n<1\/4<n)):kW n=(⟨1,BX n.toNat,0⟩,0):=by unfold kW;rw[gf h1];rfl
def KP(n:Int):tn 96 [] [I n] (tQ (kW n)) []:=by
 refine ab func96 ?_;have hbad:n<1\/4<n->kW n=(no,1):=λh=>by unfold kW;rw[gk h]
 refine⟨λh1=>?_,λh1=>?_⟩
 ·rw[hbad (.inl tD)];refine dd ?_;exact⟨.inl O,_,zn.var 0 O O O (.cons (.refl _) (.cons (WC.nil 0 1) (.cons (.refl _) .nil))),rfl⟩
 ·refine dd ?_;refine⟨λh2=>?_,λh2=>?_⟩
  ·rw[hbad (.inr tR)];refine dd ?_;exact⟨.inl O,_,zn.var 0 O O O (.cons (.refl _) (.cons (WC.nil 0 1) (.cons (.refl _) .nil))),rfl⟩
  ·have g1:1<=n:=by simp at h1;omega
   have g2:n<=4:=ba
   rw[Yb aw];obtain⟨m,rfl⟩:∃m:Nat,n=m:=⟨n.toNat,aw⟩;rw[toNat_cast];refine dd ?_;refine⟨rfl,aw,by show(8:Int)*_<=_;omega,aw,dd ?_⟩;refine qa.seq m (λk=>(I m::.za::.ref 0 [] 3 0 0::I 0::.ref 2 [] 3 0 0::hU (.za::.za::.za::.za::.za::I m::I k::hU (hU ([.za,.za,.za,.za]))))) (λk=>[⟨1,168,3,[[U 0,.eS 1 0 [],I 0]],0⟩,⟨2,3,1,(ko m k).map encI,0⟩,⟨1,168,3,[[U 0,.sl 1 [] 1 0 m false,I 0]],0⟩]) (λ_=>True) ?_ trivial (λk hk _=>?_) (λ_=>?_)
   ·have e1:List.replicate ((m:Int)).toNat [C.v (Value.int .i64 0)]=(ko m 0).map encI:=by
     simp only[toNat_cast];apply pI
     intro j;rw[sL,gj];unfold ko;simp only[gj];split
     ·rename_i hj;rw[rW hj];rfl
     ·rw[pV aA];rfl
    show zn 0 ⟨_,[_,⟨2,3,1,List.replicate ((m:Int)).toNat [C.v (Value.int .i64 0)],0⟩,_]⟩ _;rw[e1];exact cC
   ·have hg:((ko m k).map encI)[k]?=some (encI ((ko m k)[k]'(by rw[CL];exact hk))):=by rw[gj,dZ (by rw[CL];exact hk)];rfl
    have hse:((ko m k).map encI).set k [I ((k+1:Nat):Int)]=(ko m (k+1)).map encI:=by rw[<-Xn hk,p9];rfl
    conv=>whnf
    refine⟨λ_=>uH ?_,λh=>absurd h aA⟩;refine⟨aw,aA,dd ?_⟩;rw[gI,zw aw,toNat_cast];refine⟨_,hg,rfl,dd ?_⟩;rw[show List.set (List.map encI (ko m k)) k [C.v (Value.int IntKind.i64 ((k+1:Nat):Int))]=(ko m (k+1)).map encI from hse];refine .inl ⟨rfl,?_,trivial⟩;rw[zw aw];exact cE 3
   ·have hg:((ko m m).map encI)[m-1]?=some (encI ((ko m m)[m-1]'(by rw[CL];omega))):=by rw[gj,dZ (by rw[CL];omega)];rfl
    have hse:((ko m m).map encI).set (m-1) [I (-1)]=(BX m).map encI:=by rw[<-YN,p9];rfl
    have hw:IntKind.i64.wrap ((m:Int)-1)=((m-1:Nat):Int):=bM
    have fP:(BX m).length=m:=by simp[BX]
    conv=>whnf
    refine⟨λh=>absurd h aj,λ_=>uH ?_⟩;refine⟨aj,uH ?_⟩;rw[hw];refine⟨aw,aA,dd ?_⟩;rw[gI,toNat_cast];refine⟨_,hg,rfl,dd ?_⟩;rw[show List.set (List.map encI (ko m m)) (m-1) [C.v (Value.int IntKind.i64 (-1))]=(BX m).map encI from hse];refine ah Ur ?_
    exact⟨.inl O,_,zn.ZK 0 1 O O O (by simp[fP]) (λr hr c hc=>by
     obtain⟨n,_,rfl⟩:=gZ.1 hr;simp[encI]at hc;subst hc;rfl) rfl rfl,rfl⟩
end Go.Slp
