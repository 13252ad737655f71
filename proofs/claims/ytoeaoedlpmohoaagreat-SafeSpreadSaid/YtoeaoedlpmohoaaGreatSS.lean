import Derived.WalkKit
import Derived.Test.YtoeaoedlpmohoaaGreatRows
import Derived.Test.YtoeaoedlpmohoaaGreatSJ
import Derived.Test.YtoeaoedlpmohoaaGreatSC
import Derived.Test.YtoeaoedlpmohoaaGreatProg
set_option linter.all false
set_option maxRecDepth 100000
set_option maxHeartbeats 4000000
namespace Go.Proofs.YtoeaoedlpmohoaaGreat
open Go.RowKit
def Zk(t i:Int)(h1:0<=t)(h2:t<4294967296)(h3: -1<=i)(h4:i<=2147483646):
  bits .or .u64 (t*4294967296) (i+1)=t*4294967296+(i+1):=by
 rw[u64_or _ _ aw aw aw aw];obtain⟨a,rfl⟩:=Int.eq_ofNat_of_zero_le h1;obtain⟨b,hb⟩:=Int.eq_ofNat_of_zero_le (show 0<=i+1 by omega);rw[hb]
 have lu:b<2 ^ 32:=by
   have:(b:Int)<4294967296:=aw
   simpa using (by omega:b<4294967296)
 have:=Nat.two_pow_add_eq_or_of_lt lu a;have e:((a:Int)*4294967296).toNat=2 ^ 32*a:=aw
 rw[e,rA,<-this];omega
def US(t i:Int)(w:World)(h1:0<=t)(h2:t<4294967296)(h3: -1<=i)(h4:i<=2147483646):
  Calls Tryz.prog 147 #[.int .u32 t,.int .i64 i] w λe w'=>e=.returned (.tuple #[.int .u64 (t*4294967296+(i+1)),.int .i64 0])/\w=w':=by
 go_enter Tryz.func147,Tryz.ntmps147
 go_wp2
 go_ret2
 exact⟨by simp[Zk t i h1 h2 h3 h4],rfl⟩
def YU(x:Int)(w:World)(h1:0<=x)(h2:x<18446744073709551616):
  Calls Tryz.prog 205 #[.int .u64 x] w λe w'=>e=.returned (.int .u32 (x / 4294967296))/\w=w':=by
 go_enter Tryz.func205,Tryz.ntmps205
 go_wp2
 go_ret
 exact gD
def zve(x:Int)(w:World)(h1:0<=x)(h2:x<18446744073709551616):
  Calls Tryz.prog 75 #[.int .u64 x] w λe w'=>e=.returned (.int .i64 (x%4294967296-1))/\w=w':=by
 go_enter Tryz.func75,Tryz.ntmps75
 go_wp2
 go_ret
 exact gD
def zyc(x i:Int)(w:World)(h1:0<=x)(h2:x<18446744073709551616)(h3: -1<=i)(h4:i<=2147483646):
  Calls Tryz.prog 154 #[.int .u64 x,.int .i64 i] w λe w'=>e=.returned (.tuple #[.int .u64 ((x / 4294967296+1)%4294967296*4294967296+(i+1)),.int .i64 0])/\w=w':=by
 go_enter Tryz.func154,Tryz.ntmps154
 go_wp2_with (first|(go_at_call 205;refine(YU _ _ h1 h2).mono ?_;rintro e w' ⟨rfl,rfl⟩)|(go_at_call 147;refine(US _ _ _ aw aw h3 h4).mono ?_;rintro e w' ⟨rfl,rfl⟩))
 go_ret2
 exact gD
end Go.Proofs.YtoeaoedlpmohoaaGreat
namespace Go.Slp
open Go.Ab Go.Hy
def oa(nx:List Int)(i:Int):Bool:=decide (0<=i) && decide (i<nx.length)
def nv(nx:List Int)(i:Int):Int:=(nx[i.toNat]?).getD 0
def xF(nx:List Int)(i0:Int):Nat->Int
 |0=>i0
 |k+1=>nv nx (xF nx i0 k)
def xU(nx:List Int)(i0:Int)(k:Nat):List Int:=(List.range k).map (xF nx i0)
def vA(nx:List Int)(i0:Int)(k:Nat):Bool:=!oa nx (xF nx i0 k) || (xU nx i0 k).contains (xF nx i0 k)
def xG(nx:List Int)(i0:Int):Nat:=((List.range (nx.length+1)).find? (vA nx i0)).getD 0
def m9(nx:List Int)(i0:Int):Bool:=xF nx i0 (xG nx i0) == -1
def PK:∀(n:Nat) (l:List Int),l.Nodup->(∀x∈l,0<=x/\x<n)->l.length<=n
 |0,l,_,h=>by
  cases l with
  |nil=>exact pI _
  |cons x l=>have:=h x (r7 ..);omega
 |n+1,l,hd,h=>by
  by_cases hm:(n:Int)∈l
  ·have h1:=PK n (l.erase n) (hd.erase _) λx hx=>by
    have h2:=h x (List.mem_of_mem_erase hx)
    have h3:x≠n:=λe=>by
     subst e;exact absurd hx (List.Nodup.not_mem_erase hd)
    omega
   rw[List.length_erase_of_mem hm]at h1;omega
  ·have:=PK n l hd λx hx=>by
    have h2:=h x hx;have h3:x≠n:=λe=>hm (e ▸ hx)
    omega
   omega
def N5(nx:List Int)(i0:Int)(k:Nat):xU nx i0 (k+1)=xU nx i0 k++[xF nx i0 k]:=by
 simp[xU,fi]
def Wj(nx:List Int)(i0:Int)(k:Nat):(xU nx i0 k).length=k:=by simp[xU]
def Is{nx:List Int}{i0:Int}:∀{k:Nat},(∀j,j<k->vA nx i0 j=false)->(xU nx i0 k).Nodup/\∀x∈xU nx i0 k,oa nx x=true
 |0,_=>⟨by simp[xU],by simp[xU]⟩
 |k+1,h=>by
  obtain⟨h1,h2⟩:=Is (k:=k) λj hj=>h j aw
  have h3:=h k aw;simp only[vA,rY,ub]at h3;have h4:xF nx i0 k∉xU nx i0 k:=aq h3.2
  rw[N5];refine⟨?_,?_⟩
  ·rw[ir];refine⟨h1,aj,?_⟩;intro a ha b hb e;rw[pP]at hb;subst hb e;exact h4 ha
  ·intro x hx;rcases pV.1 hx with hx|hx
   ·exact h2 x hx
   ·rw[pP.1 hx];exact h3.1
def vK(nx:List Int)(i0:Int):xG nx i0<=nx.length/\vA nx i0 (xG nx i0)=true/\∀j,j<xG nx i0->vA nx i0 j=false:=by
 unfold xG;cases e:(List.range (nx.length+1)).find? (vA nx i0) with
 |none=>
  exfalso
  rw[List.find?_eq_none]at e;have h:∀j,j<nx.length+1->vA nx i0 j=false:=λj hj=>by simpa using e j (sJ.2 hj)
  obtain⟨h1,h2⟩:=Is h
  have:=PK nx.length _ h1 λx hx=>by
   have:=h2 x hx;simp only[oa,pG,pQ]at this;exact gh
  rw[Wj]at this;omega
 |some k=>
  rw[List.find?_eq_some_iff_append]at e;obtain⟨h1,az,bs,h2,h3⟩:=e
  have hk:az.length=k/\k<nx.length+1:=by
   have h4:(List.range (nx.length+1))[az.length]?=some k:=by rw[h2];simp
   have h5:=(gZ.1 h4);obtain⟨h6,h7⟩:=h5;rw[List.getElem_range]at h7;simp at h6;omega
  refine⟨aA,aq h1,λj hj=>?_⟩
  have h8:(List.range (nx.length+1))[j]?=some j:=by
   simp at hj;rw[sV aw]
  rw[h2,pD (by simp at hj;omega)]at h8;simpa using h3 j (pq h8)
def NY{nx:List Int}{i0:Int}{n:Nat}(h1:vA nx i0 n=true)(h2:∀j,j<n->vA nx i0 j=false):xG nx i0=n:=by
 obtain⟨_,h3,h4⟩:=vK nx i0;rcases sX (xG nx i0) n with h|h|h
 ·rw[h2 _ h]at h3;cases h3
 ·exact h
 ·rw[h4 _ h]at h1;cases h1
abbrev no:En:=⟨0,[],0⟩
def zG(e:En):Int:=e.head%4294967296-1
def jC(x i:Int):Int:=(x / 4294967296+1)%4294967296*4294967296+(i+1)
def qo(e:En):List Int×Int:=if m9 e.next (zG e) then (xU e.next (zG e) (xG e.next (zG e)),0) else ([],11)
def mq(e:En):Bool:=m9 e.next (zG e) && decide (1<=e.next.length) && decide (e.next.length<=4) && decide (0<=e.zj)
def Jz(e:En):En×Int×Int:=
 if mq e=false then (no,0,11) else if zG e<0 then (no,0,5) else (⟨jC e.head (nv e.next (zG e)),e.next,e.zj⟩,zG e,0)
def LC(e:En)(slot:Int):En×Int:=
 if mq e=false then (no,11) else if slot<0\/e.next.length<=slot then (no,1) else if (qo e).1.contains slot then (no,4)
 else (⟨jC e.head slot,e.next.set slot.toNat (zG e),e.zj⟩,0)
def C1(n:Int):En×Int:=if n<1\/4<n then (no,1) else (⟨1,(List.range n.toNat).map λ(i:Nat)=>if i+1=n.toNat then -1 else (i:Int)+1,0⟩,0)
def zxG(e:En): -1<=zG e/\zG e<=4294967294:=by unfold zG;omega
def XU{nx:List Int}{i0:Int}(h:m9 nx i0=true){k:Nat}(hk:k<xG nx i0):oa nx (xF nx i0 k)=true/\ -1<=xF nx i0 (k+1)/\xF nx i0 (k+1)<nx.length:=by
 obtain⟨h1,h2,h3⟩:=vK nx i0;have h4:=h3 k hk;simp only[vA,rY,ub]at h4;refine⟨h4.1,?_⟩;rcases sd (k+1) (xG nx i0) with h5|h5
 ·have h6:=h3 _ h5;simp only[vA,rY,ub,oa,pG,pQ]at h6;omega
 ·have e:k+1=xG nx i0:=by omega
  rw[e];simp only[m9,rJ]at h;rw[h];omega
def Wi{nx:List Int}{i0:Int}(h:m9 nx i0=true)(h0:¬i0<0):0<xG nx i0:=by
 rcases fh (xG nx i0) with e|e
 ·simp only[m9,e,xF,rJ]at h;omega
 ·exact e
def C3{e:En}(h:mq e=true):m9 e.next (zG e)=true/\1<=e.next.length/\e.next.length<=4/\0<=e.zj:=by
 simp only[mq,pG,pQ]at h;exact⟨h.1.1.1,h.1.1.2,h.1.2,h.2⟩
def VS{e:En}(h:mq e=true)(h0:¬zG e<0):0<=zG e/\zG e<e.next.length/\ -1<=nv e.next (zG e)/\nv e.next (zG e)<e.next.length:=by
 obtain⟨h1,h2,h3,h4⟩:=C3 h;obtain⟨h5,h6,h7⟩:=XU h1 (Wi h1 h0);simp only[oa,xF,pG]at h5;exact⟨pF h5.1,pF h5.2,h6,h7⟩
def vR(nx:List Int)(i0:Int):Nat->List Bool
 |0=>List.replicate nx.length false
 |k+1=>(vR nx i0 k).set (xF nx i0 k).toNat true
def Vt(nx:List Int)(i0:Int):∀k,(vR nx i0 k).length=nx.length
 |0=>by simp[vR]
 |k+1=>by simp[vR,Vt nx i0 k]
def OC{nx:List Int}{i0:Int}:∀{k:Nat},(∀j,j<k->oa nx (xF nx i0 j)=true)->∀{i:Nat},i<nx.length->(vR nx i0 k)[i]?=some ((xU nx i0 k).contains (i:Int))
 |0,_,i,hi=>by simp[vR,xU,hi]
 |k+1,h,i,hi=>by
  have ih:=OC (k:=k) (λj hj=>h j aw) hi;have hb:=h k aw;simp only[oa,pG,pQ]at hb;rw[N5];simp only[vR];rw[pK,Vt];by_cases e:(xF nx i0 k).toNat=i
  ·rw[pA e,pA aw];have:(i:Int)=xF nx i0 k:=by omega
   simp[this]
  ·rw[pw e,ih];have:¬(i:Int)=xF nx i0 k:=by omega
   simp[this]
end Go.Slp
namespace Go.Slp
open Go.Ab Go.Proofs Tryz Go.Hy
def LB{x:Int}(h:u64 x):0<=x/\x<18446744073709551616:=by unfold u64 at h;omega
def je(x:Int)(h:u64 x):tp 75 [] [U x] (I (x%4294967296-1)) []:=
 Ky [] (λw=>(YtoeaoedlpmohoaaGreat.zve x w (LB h).1 (LB h).2).mono λe w' ⟨h1,h2⟩=>⟨h1,h2.symm⟩) zDt λE=>.v _ O
abbrev Ev(e:En):C:=.agg (zF e)
abbrev vk(e:En)(k:Nat):List (List C):=(xU e.next (zG e) k).map encI
def zmS(e:En)(he:e.ok)(l:Nat)(rec rec':Ob)(rr:C)(rn:Int)
 (hy:∀k,k<xG e.next (zG e)->xd prog l ([oD e,⟨1,28,1,[[.lq 1 0 []]],0⟩,⟨1,39,1,[[I 0]],0⟩,⟨1,28,1,[[.gl 5 1 (vk e k)]],0⟩,oD e,⟨4,3,1,(vk e k),0⟩,rec]++[⟨2,4,1,(vR e.next (zG e) (k+1)).map kX,0⟩]) [I (xF e.next (zG e) k)] (Bo true) ([oD e,⟨1,28,1,[[.lq 1 0 []]],0⟩,⟨1,39,1,[[I 0]],0⟩,⟨1,28,1,[[.gl 5 1 (vk e (k+1))]],0⟩,oD e,⟨4,3,1,(vk e (k+1)),0⟩,rec]++[⟨2,4,1,(vR e.next (zG e) (k+1)).map kX,0⟩]))
 (hz:∃b,xd prog l ([oD e,⟨1,28,1,[[.lq 1 0 []]],0⟩,⟨1,39,1,[[I 0]],0⟩,⟨1,28,1,[[.gl 5 1 (vk e (xG e.next (zG e)))]],0⟩,oD e,⟨4,3,1,(vk e (xG e.next (zG e))),0⟩,rec]++[⟨2,4,1,(vR e.next (zG e) (xG e.next (zG e))).map kX,0⟩]) [I (if m9 e.next (zG e) then -1 else -2)] (Bo b) ([oD e,⟨1,28,1,[[rr]],0⟩,⟨1,39,1,[[I rn]],0⟩,⟨1,28,1,[[.gl 5 1 (vk e (xG e.next (zG e)))]],0⟩,oD e,⟨4,3,1,(vk e (xG e.next (zG e))),0⟩,rec']++[⟨2,4,1,(vR e.next (zG e) (xG e.next (zG e))).map kX,0⟩])):
  tp 74 [oD e,⟨1,28,1,[[.lq 1 0 []]],0⟩,⟨1,39,1,[[I 0]],0⟩,⟨1,28,1,[[.gl 5 1 (vk e 0)]],0⟩,oD e,⟨4,3,1,(vk e 0),0⟩,rec] [.v (.func (.yield l) #[] #[]),.ref 4 [] 3 0 0] (.lK []) ([oD e,⟨1,28,1,[[rr]],0⟩,⟨1,39,1,[[I rn]],0⟩,⟨1,28,1,[[.gl 5 1 (vk e (xG e.next (zG e)))]],0⟩,oD e,⟨4,3,1,(vk e (xG e.next (zG e))),0⟩,rec']++[⟨2,4,1,(vR e.next (zG e) (xG e.next (zG e))).map kX,0⟩]):=by
 refine zc.zM (fn:=f74) func74 O (uH ?_);have hl:=he.2.1.2;have hlm:(e.next.map encI).length=e.next.length:=pB ..;obtain⟨c1,c2,c3⟩:=vK e.next (zG e)
 have jn:∀j,j<xG e.next (zG e)->oa e.next (xF e.next (zG e) j)=true:=λj hj=>by
  have:=c3 j hj;simp only[vA,rY,ub]at this;exact this.1
 refine⟨rfl,aw,by show(1:Int)*_<=_;omega,aw,uH ?_⟩;refine ah (je e.head he.1) ?_
 refine zW.seq (xG e.next (zG e)) (λk=>(.v (.func (.yield l) #[] #[])::.ref 4 [] 3 0 0::.za::.sl 7 [] 1 0 e.next.length false::I (xF e.next (zG e) k)::mF (mF (mF (mF ([.za,.za,.za,.za,.za,.za,.za]))))))
  (λk=>[oD e,⟨1,28,1,[[.lq 1 0 []]],0⟩,⟨1,39,1,[[I 0]],0⟩,⟨1,28,1,[[.gl 5 1 (vk e k)]],0⟩,oD e,⟨4,3,1,(vk e k),0⟩,rec]++[⟨2,4,1,(vR e.next (zG e) k).map kX,0⟩]) (λ_=>True) ?_ trivial (λk hk _=>?_) (λ_=>?_)
 ·have e1:List.replicate (((e.next.map encI).length:Int)).toNat (List.map l8 (Value.bool false).cells.toList)=(vR e.next (zG e) 0).map kX:=by
   simp[vR,kX,l8,Value.cells]
  rw[e1,hlm,toNat_cast];exact cC
 ·have g:=jn k hk;simp only[oa,pG,pQ]at g;obtain⟨g1,g2⟩:=g;have hs:=OC (nx:=e.next) (i0:=zG e) (k:=k) (λj hj=>jn j aw) (i:=(xF e.next (zG e) k).toNat) aw
  have hv:(xU e.next (zG e) k).contains (((xF e.next (zG e) k).toNat:Nat):Int)=false:=by
   have:=c3 k hk;simp only[vA,rY,ub]at this;rw[tq g1];exact this.2
  rw[hv]at hs;have hyk:=hy k hk
  have hnx:(e.next)[(xF e.next (zG e) k).toNat]?=some (xF e.next (zG e) (k+1)):=by
   show _=some (nv e.next (xF e.next (zG e) k));unfold nv;rw[pa aw]
   rfl
  have hse:(vR e.next (zG e) (k+1)).map kX=((vR e.next (zG e) k).map kX).set (xF e.next (zG e) k).toNat [Bo true]:=by
   show(List.set _ _ _).map kX=_;rw[r6];rfl
  rw[hse]at hyk;rw[hse];generalize hP:xF e.next (zG e) k=p at *;generalize hQ:xF e.next (zG e) (k+1)=p' at *;conv=>whnf
  refine⟨λ_=>dd ?_,λh=>absurd h aA⟩;refine⟨λh=>absurd h aA,λ_=>dd ?_⟩;refine⟨λh=>absurd h aA,λ_=>dd ?_⟩;refine⟨g1,aw,uH ?_⟩;refine⟨[Bo false],by rw[pR,pj,hs];rfl,pI _,?_⟩;refine dd ?_;refine tf ?_
  refine⟨g1,aw,uH ?_⟩;refine⟨[Bo false],by rw[pR,pj,hs];rfl,rfl,?_⟩;conv=>whnf
  rw[pR];refine⟨_,_,hyk,dd ?_⟩;refine tf ?_
  refine⟨g1,[I p'],by rw[pj,hnx];rfl,?_⟩;conv=>whnf
  exact .inl ⟨rfl,cC,trivial⟩
 ·generalize hN:xG e.next (zG e)=N at *;have hsN:∀{i:Nat},i<e.next.length->(vR e.next (zG e) N)[i]?=some ((xU e.next (zG e) N).contains (i:Int)):=λh=>OC (nx:=e.next) (i0:=zG e) (k:=N) (λj hj=>jn j hj) h
  obtain⟨b,hz⟩:=hz;by_cases hok:m9 e.next (zG e)=true
  ·have hp:xF e.next (zG e) N= -1:=by simpa [m9,hN] using hok
   rw[pA hok]at hz;rw[hp];conv=>whnf
   refine⟨λh=>absurd h aj,λ_=>uH ?_⟩;refine⟨aj,uH ?_⟩;refine⟨_,_,hz,uH ?_⟩;refine⟨λ_=>?_,λ_=>?_⟩ <;>
   ·conv=>whnf
    exact dx
  ·have hp:xF e.next (zG e) N≠ -1:=by intro h;exact hok (by simp[m9,hN,h])
   rw[pw hok]at hz;generalize hP:xF e.next (zG e) N=p at *;conv=>whnf
   refine⟨λ_=>dd ?_,λh=>absurd h (by simp;exact hp)⟩;have fin:∀(X:Prop),X->X:=λ_ h=>h
   refine⟨λh1=>?_,λh1=>?_⟩
   ·refine dd ?_;refine⟨aj,uH ?_⟩;refine⟨_,_,hz,uH ?_⟩;refine⟨λ_=>?_,λ_=>?_⟩ <;>
    ·conv=>whnf
     exact dx
   ·refine dd ?_;refine⟨λh2=>?_,λh2=>?_⟩
    ·refine dd ?_;refine⟨aj,uH ?_⟩;refine⟨_,_,hz,uH ?_⟩;refine⟨λ_=>?_,λ_=>?_⟩ <;>
     ·conv=>whnf
      exact dx
    ·have g1:0<=p:=by simpa using h1
     have g2:p<e.next.length:=aZ
     have hv:(xU e.next (zG e) N).contains (((p.toNat:Nat)):Int)=true:=by
      simp only[vA,hP,sB,rZ,oa,Bool.and_eq_false_iff,rL]at c2;rw[tq g1];rcases c2 with(h|h)|h
      ·exact absurd g1 h
      ·exact absurd g2 h
      ·exact h
     have hs:=hsN (i:=p.toNat) aw;rw[hv]at hs;refine dd ?_;refine⟨g1,aw,uH ?_⟩;refine⟨[Bo true],by rw[pR,pj,hs];rfl,pI _,?_⟩;refine dd ?_;refine tf ?_
     refine⟨aj,uH ?_⟩;refine⟨_,_,hz,uH ?_⟩;refine⟨λ_=>?_,λ_=>?_⟩ <;>
     ·conv=>whnf
      exact dx
def zoN(e:En)(X Y Z W:Ob):tp 52 [X,Y,Z,W] [Ev e] (.fn 74 [] [.ref 4 [] 3 0 0]) [X,Y,Z,W,oD e]:=by
 refine zc.zM (fn:=f52) func52 O (uH ?_);exact uJ
def RM(e:En)(he:e.ok)(N:Nat)(hN:xG e.next (zG e)=N)(l:Nat)(rec rec':Ob)(rr:C)(rn:Int)(b:Bool)
 (hy:∀k,k<N->xd prog l ([oD e,⟨1,28,1,[[.lq 1 0 []]],0⟩,⟨1,39,1,[[I 0]],0⟩,⟨1,28,1,[[.gl 5 1 (vk e k)]],0⟩,oD e,⟨4,3,1,(vk e k),0⟩,rec]++[⟨2,4,1,(vR e.next (zG e) (k+1)).map kX,0⟩]) [I (xF e.next (zG e) k)] (Bo true) ([oD e,⟨1,28,1,[[.lq 1 0 []]],0⟩,⟨1,39,1,[[I 0]],0⟩,⟨1,28,1,[[.gl 5 1 (vk e (k+1))]],0⟩,oD e,⟨4,3,1,(vk e (k+1)),0⟩,rec]++[⟨2,4,1,(vR e.next (zG e) (k+1)).map kX,0⟩]))
 (hz:xd prog l ([oD e,⟨1,28,1,[[.lq 1 0 []]],0⟩,⟨1,39,1,[[I 0]],0⟩,⟨1,28,1,[[.gl 5 1 (vk e N)]],0⟩,oD e,⟨4,3,1,(vk e N),0⟩,rec]++[⟨2,4,1,(vR e.next (zG e) N).map kX,0⟩]) [I (if m9 e.next (zG e) then -1 else -2)] (Bo b) ([oD e,⟨1,28,1,[[rr]],0⟩,⟨1,39,1,[[I rn]],0⟩,⟨1,28,1,[[.gl 5 1 (vk e N)]],0⟩,oD e,⟨4,3,1,(vk e N),0⟩,rec']++[⟨2,4,1,(vR e.next (zG e) N).map kX,0⟩])):
  tp 74 [oD e,⟨1,28,1,[[.lq 1 0 []]],0⟩,⟨1,39,1,[[I 0]],0⟩,⟨1,28,1,[[.gl 5 1 (vk e 0)]],0⟩,oD e,⟨4,3,1,(vk e 0),0⟩,rec] [.v (.func (.yield l) #[] #[]),.ref 4 [] 3 0 0] (.lK []) ([oD e,⟨1,28,1,[[rr]],0⟩,⟨1,39,1,[[I rn]],0⟩,⟨1,28,1,[[.gl 5 1 (vk e N)]],0⟩,oD e,⟨4,3,1,(vk e N),0⟩,rec']++[⟨2,4,1,(vR e.next (zG e) N).map kX,0⟩]):=by
 subst hN;exact zmS e he l rec rec' rr rn hy ⟨b,hz⟩
abbrev tF(r:List Int×Int):C:=.lK [lI r.1,I r.2]
def HU(e:En)(he:e.ok):tp 25 [] [Ev e] (tF (qo e)) []:=by
 have hl:=he.2.1.2;obtain⟨c1,c2,c3⟩:=vK e.next (zG e);generalize hN:xG e.next (zG e)=N at *;refine ab func25 ?_;refine⟨_,_,zoN e _ _ _ _,uH ?_⟩;refine⟨_,zt.DC 3 0 3 1 O O (.inl O) O O,?_⟩
 have jn:∀j,j<N->0<=xF e.next (zG e) j:=λj hj=>by
  have:=c3 j hj;simp only[vA,rY,ub,oa,pG,pQ]at this;exact this.1.1
 have hv:∀k,(vk e k).length=k:=λk=>by simp[Wj]
 have vs:∀k,vk e (k+1)=vk e k++[[I (xF e.next (zG e) k)]]:=λk=>by
  show(xU e.next (zG e) (k+1)).map encI=_;rw[N5,rD];rfl
 by_cases hok:m9 e.next (zG e)=true
 ·refine⟨.normal,_,[oD e,⟨1,28,1,[[.lq 1 0 []]],0⟩,⟨1,39,1,[[I 0]],0⟩,⟨1,28,1,[[.gl 5 1 (vk e N)]],0⟩,oD e,⟨4,3,1,vk e N,0⟩],λl r h1 h2 h3 h4 h5=>⟨_,_,r,RM e he N hN l (nn l r _) (nn l r _) (.lq 1 0 []) 0 true (λk hk=>?_) ?_,
   rfl,ba,rfl,rk _,bc,zt.low 6 _ _ O O O⟩,?_⟩
  ·have g:=jn k hk;have hvk:=hv k;refine xd.zM (id:=6) O h1 h2 h3 h4 h5 O O O (uH ?_);refine⟨rfl,rfl,uH ?_⟩;refine⟨λh=>absurd h aA,λ_=>uH ?_⟩;refine⟨λh=>absurd h aA,λ_=>uH ?_⟩;refine⟨rfl,.inr O,by simp[maxLen,hvk];omega,by show _*8<=_;simp[hvk];omega,uH ?_⟩;rw[vs k];exact dF
  ·rw[pA hok];refine xd.zM (id:=6) O h1 h2 h3 h4 h5 O O O (uH ?_);refine⟨rfl,rfl,uH ?_⟩;refine tf ?_
   exact dF
  ·have e1:qo e=(xU e.next (zG e) N,0):=by unfold qo;rw[pA hok,hN]
   rw[e1];conv=>whnf
   exact uI
 ·refine⟨.ret,_,[oD e,⟨1,28,1,[[.lq 1 0 []]],0⟩,⟨1,39,1,[[I 11]],0⟩],λl r h1 h2 h3 h4 h5=>⟨_,_,left r .ret,RM e he N hN l (nn l r _) (nn l (left r .ret) _) (.lq 1 0 []) 11 false (λk hk=>?_) ?_,
   rfl,aj,rfl,rk _,trivial,zt.low 3 _ _ O O O⟩,?_⟩
  ·have g:=jn k hk;have hvk:=hv k;refine xd.zM (id:=6) O h1 h2 h3 h4 h5 O O O (uH ?_);refine⟨rfl,rfl,uH ?_⟩;refine⟨λh=>absurd h aA,λ_=>uH ?_⟩;refine⟨λh=>absurd h aA,λ_=>uH ?_⟩;refine⟨rfl,.inr O,by simp[maxLen,hvk];omega,by show _*8<=_;simp[hvk];omega,uH ?_⟩;rw[vs k];exact dF
  ·rw[pw hok];refine xd.zM (id:=6) O h1 h2 h3 h4 h5 O O O (uH ?_);refine⟨rfl,rfl,uH ?_⟩;refine tf ?_
   exact⟨_,_,.refl _,rfl,.inr ⟨rfl,.inl ⟨rfl,rfl⟩⟩⟩
  ·have e1:qo e=([],11):=by unfold qo;rw[pw hok]
   rw[e1];conv=>whnf
   exact⟨.inl O,_,zt.var 1 O O O (.cons (WC.nil 0 1) .nil),rfl⟩
def Re(l:List Int)(x:Int):Int:=match l.findIdx? (· == x) with|some i=>i|none=> -1
def OZ(l:List Int)(x:Int):decide (0<=Re l x)=l.contains x:=by
 unfold Re;cases e:l.findIdx? (· == x) with
 |some i=>
  rw[pO]at e;obtain⟨h1,h2,_⟩:=e;have:x∈l:=by rw[rJ]at h2;rw[<-h2];exact pY h1
  simp[this]
 |none=>
  rw[pW]at e;have:¬x∈l:=λh=>by have:=e x h;simp at this
  simp[this]
def zz4(e:En):((qo e).2 == 0)=m9 e.next (zG e):=by
 unfold qo;cases m9 e.next (zG e) <;> simp
def Gi(e:En)(he:e.ok):tp 53 [] [Ev e] (Bo (mq e)) []:=by
 have h0:=zz4 e;refine ab func53 ?_;refine ah (HU e he) ?_;refine⟨λh1=>?_,λh1=>?_⟩
 ·rw[show((qo e).2 == 0)=true from h1]at h0;refine dd ?_;refine⟨λh2=>?_,λh2=>?_⟩
  ·refine dd ?_;refine⟨λh3=>?_,λh3=>?_⟩
   ·refine dd ?_;(repeat' (first|(refine⟨λ_=>?_,λ_=>?_⟩ <;> (conv=>whnf))|fail))
    all_goals (rename_i h4;(exact⟨.inl O,_,.refl _,uN (by simp at h2 h3 h4;simp[mq,<-h0];omega)⟩))
   ·refine dd ?_
    (exact⟨.inl O,_,.refl _,uN (by simp at h2 h3;simp[mq,<-h0];omega)⟩)
  ·refine dd ?_
   (exact⟨.inl O,_,.refl _,uN (by simp at h2;simp[mq,<-h0];omega)⟩)
 ·rw[show((qo e).2 == 0)=false from h1]at h0;refine dd ?_
  (exact⟨.inl O,_,.refl _,uN (by simp[mq,<-h0])⟩)
def M7(x i:Int)(h:u64 x)(h3: -1<=i)(h4:i<=2147483646):tp 154 [] [U x,I i] (.lK [U (jC x i),I 0]) []:=
 Ky [] (λw=>(YtoeaoedlpmohoaaGreat.zyc x i w (LB h).1 (LB h).2 h3 h4).mono λe w' ⟨h1,h2⟩=>⟨h1,h2.symm⟩) PR λE=>.lK _ _ O λj c y e1 e2=>by
  match j,e1,e2 with
  |0,e1,e2=>cases e1;cases e2;exact .v _ O
  |1,e1,e2=>cases e1;cases e2;exact .v _ O
abbrev tQ(r:En×Int):C:=.lK [Ev r.1,I r.2]
def zz2{e:En}(h:mq e=true):qo e=(xU e.next (zG e) (xG e.next (zG e)),0):=by
 unfold qo;rw[pA (C3 h).1]
def qP(X Y:Ob)(x:Int)(l:List Int)(hl:l.length<17592186043904):tp 198 [X,Y] [lI (x::l)] (.sl 2 [] 1 0 (0+((l.map encI).length+1)) false) [X,Y,⟨2,3,1,(x::l).map encI,0⟩]:=by
 refine zc.zM (fn:=f198) func198 O (uH ?_);refine⟨aj,uH ?_⟩;refine .inr ⟨.inl O,ay,bf,uH ?_⟩;exact uJ
def zsc:tp 147 [] [.v (.int .u32 0),I 0] (.lK [U 1,I 0]) []:=
 Ky [] (λw=>(YtoeaoedlpmohoaaGreat.US 0 0 w ar ar ar ar).mono λe w' ⟨h1,h2⟩=>⟨h1,h2.symm⟩) PR λE=>.lK _ _ O λj c y e1 e2=>by
  match j,e1,e2 with
  |0,e1,e2=>cases e1;cases e2;exact .v _ O
  |1,e1,e2=>cases e1;cases e2;exact .v _ O
def wZ(n k:Nat):List Int:=(List.range n).map λi=>if i<k then (i:Int)+1 else 0
def FD(n:Nat):List Int:=(List.range n).map λ(i:Nat)=>if i+1=n then -1 else (i:Int)+1
def Gm(n k:Nat):(wZ n k).length=n:=by simp[wZ]
def zv3{n k:Nat}(h:k<n):(wZ n k).set k ((k:Int)+1)=wZ n (k+1):=by
 apply rp
 intro j;rw[pK,Gm];unfold wZ;simp only[pj];by_cases hj:j<n
 ·rw[sV hj];by_cases e:k=j
  ·subst e;simp[h]
  ·simp only[e,if_false,pM];by_cases h2:j<k
   ·simp[h2,show j<k+1 from aw]
   ·simp[h2,show ¬j<k+1 from aw]
 ·rw[rT aA];simp;omega
def zyL{n:Nat}:(wZ n n).set (n-1) (-1)=FD n:=by
 apply rp
 intro j;rw[pK,Gm];unfold wZ FD;simp only[pj];by_cases hj:j<n
 ·rw[sV hj];by_cases e:n-1=j
  ·subst e;simp[show n-1<n from aw,show n-1+1=n from aw]
  ·simp only[e,if_false,pM,hj,if_true,show ¬j+1=n from aw]
 ·rw[rT aA];simp;omega
def zxq{n:Int}(h1:¬(n<1\/4<n)):C1 n=(⟨1,FD n.toNat,0⟩,0):=by unfold C1;rw[pw h1];rfl
def Rx(n:Int):tp 118 [] [I n] (tQ (C1 n)) []:=by
 refine ab func118 ?_;have hbad:n<1\/4<n->C1 n=(no,1):=λh=>by unfold C1;rw[pA h]
 refine⟨λh1=>?_,λh1=>?_⟩
 ·rw[hbad (.inl tE)];refine dd ?_;exact⟨.inl O,_,zt.var 0 O O O (.cons (.refl _) (.cons (WC.nil 0 1) (.cons (.refl _) .nil))),rfl⟩
 ·refine dd ?_;refine⟨λh2=>?_,λh2=>?_⟩
  ·rw[hbad (.inr tS)];refine dd ?_;exact⟨.inl O,_,zt.var 0 O O O (.cons (.refl _) (.cons (WC.nil 0 1) (.cons (.refl _) .nil))),rfl⟩
  ·have g1:1<=n:=by simp at h1;omega
   have g2:n<=4:=aZ
   rw[zxq aw];obtain⟨m,rfl⟩:∃m:Nat,n=m:=⟨n.toNat,aw⟩;rw[toNat_cast];refine dd ?_;refine⟨rfl,aw,by show(8:Int)*_<=_;omega,aw,dd ?_⟩;refine zW.seq m (λk=>(I m::.za::.ref 0 [] 3 0 0::I 0::.ref 2 [] 3 0 0::mF (.za::.za::.za::.za::.za::I m::I k::mF (mF ([.za,.za,.za,.za]))))) (λk=>[⟨1,74,3,[[U 0,.lq 1 0 [],I 0]],0⟩,⟨2,3,1,(wZ m k).map encI,0⟩,⟨1,74,3,[[U 0,.sl 1 [] 1 0 m false,I 0]],0⟩]) (λ_=>True) ?_ trivial (λk hk _=>?_) (λ_=>?_)
   ·have e1:List.replicate ((m:Int)).toNat [C.v (Value.int .i64 0)]=(wZ m 0).map encI:=by
     simp only[toNat_cast];apply rp
     intro j;rw[u3,pj];unfold wZ;simp only[pj];split
     ·rename_i hj;rw[sV hj];rfl
     ·rw[rT aA];rfl
    show zt 0 ⟨_,[_,⟨2,3,1,List.replicate ((m:Int)).toNat [C.v (Value.int .i64 0)],0⟩,_]⟩ _;rw[e1];exact cC
   ·have hg:((wZ m k).map encI)[k]?=some (encI ((wZ m k)[k]'(by rw[Gm];exact hk))):=by rw[pj,pa (by rw[Gm];exact hk)];rfl
    have hse:((wZ m k).map encI).set k [I ((k+1:Nat):Int)]=(wZ m (k+1)).map encI:=by rw[<-zv3 hk,r6];rfl
    conv=>whnf
    refine⟨λ_=>uH ?_,λh=>absurd h aA⟩;refine⟨aw,aA,dd ?_⟩;rw[pR,zy aw,toNat_cast];refine⟨_,hg,rfl,dd ?_⟩;rw[show List.set (List.map encI (wZ m k)) k [C.v (Value.int IntKind.i64 ((k+1:Nat):Int))]=(wZ m (k+1)).map encI from hse];refine .inl ⟨rfl,?_,trivial⟩;rw[zy aw];exact cE 3
   ·have hg:((wZ m m).map encI)[m-1]?=some (encI ((wZ m m)[m-1]'(by rw[Gm];omega))):=by rw[pj,pa (by rw[Gm];omega)];rfl
    have hse:((wZ m m).map encI).set (m-1) [I (-1)]=(FD m).map encI:=by rw[<-zyL,r6];rfl
    have hw:IntKind.i64.wrap ((m:Int)-1)=((m-1:Nat):Int):=bN
    have mU:(FD m).length=m:=by simp[FD]
    conv=>whnf
    refine⟨λh=>absurd h aj,λ_=>uH ?_⟩;refine⟨aj,uH ?_⟩;rw[hw];refine⟨aw,aA,dd ?_⟩;rw[pR,toNat_cast];refine⟨_,hg,rfl,dd ?_⟩;rw[show List.set (List.map encI (wZ m m)) (m-1) [C.v (Value.int IntKind.i64 (-1))]=(FD m).map encI from hse];refine ah zsc ?_
    exact⟨.inl O,_,zt.zz5 0 1 O O O (by simp[mU]) (λr hr c hc=>by
     obtain⟨n,_,rfl⟩:=pZ.1 hr;simp[encI]at hc;subst hc;rfl) rfl rfl,rfl⟩
end Go.Slp
