import Derived.Lib.Bytealg
import Derived.WalkKit
import Derived.IntWalk
import Derived.Test.YtamgiodaflkbhaaGreatVC
import Derived.Test.YtamgiodaflkbhaaGreatVJ
import Derived.Test.YtamgiodaflkbhaaGreatProg
set_option linter.all false
set_option maxRecDepth 100000
set_option maxHeartbeats 4000000
namespace Go.Gat
open Go.Ab Go.Proofs Tryz Go.Hy
def BK(n:Int):Bool:=decide (97<=n) && decide (n<=122)
def vv(n:Int):Bool:=BK n || (decide (48<=n) && decide (n<=57)) || (n == 45)
abbrev By(n:Int):C:=.v (.int .u8 n)
def K0(n:Int):th 118 [] [By n] (Bo (BK n)) []:=by
 refine ab func118 ?_;(repeat' (first|(refine⟨λ_=>?_,λ_=>?_⟩ <;> (conv=>whnf))|fail))
 all_goals (exact⟨.inl V,_,.refl _,uN (by simp_all[BK] <;> (intros;omega))⟩)
def KB(n:Int):th 130 [] [By n] (Bo (BK n)) []:=by
 refine ab func130 ?_;(repeat' (first|(refine⟨λ_=>?_,λ_=>?_⟩ <;> (conv=>whnf))|fail))
 all_goals (exact⟨.inl V,_,.refl _,uN (by simp_all[BK] <;> (intros;omega))⟩)
def Sg(n:Int):th 164 [] [By n] (Bo (vv n)) []:=by
 refine ab func164 ?_;refine af (K0 n) ?_;(repeat' (first|(refine⟨λ_=>?_,λ_=>?_⟩ <;> (conv=>whnf))|fail))
 all_goals (exact⟨.inl V,_,.refl _,uN (by simp_all[vv] <;> (intros;omega))⟩)
def Jw(n:Int):th 131 [] [By n] (Bo (vv n)) []:=by
 refine ab func131 ?_;refine af (KB n) ?_;(repeat' (first|(refine⟨λ_=>?_,λ_=>?_⟩ <;> (conv=>whnf))|fail))
 all_goals (exact⟨.inl V,_,.refl _,uN (by simp_all[vv] <;> (intros;omega))⟩)
def Kh:th 119 [] [] (.agg [.fn 164 [] []]) []:=by
 refine ab func119 ?_;exact uI
abbrev bI(c:UInt8):Int:=(c.toNat:Int)
def nG(p:Int->Bool)(s:fB)(other:Int):Bool:=s.all λc=>bI c == other || p (bI c)
def Sh{p:Int->Bool}{s:fB}{other:Int}{k:Nat}(hk:k<s.length)(h1:(bI s[k] == other)=false)(h2:p (bI s[k])=false):nG p s other=false:=by
 unfold nG;rw[so];exact⟨s[k],rj hk,by simp[h1,h2]⟩
def KO(s:fB)(other:Int)(hs:s.length<4611686018427387904):th 120 [] [.agg [.fn 164 [] []],Tx s,By other] (Bo (nG vv s other)) []:=by
 refine ab func120 ?_;refine zH.seq s.length (λk=>(.agg [.fn 164 [] []]::(Tx s)::(By other)::.ref 0 [] 1 0 0::.za::.za::Bo false::.za::.za::I s.length::I k::mL (mL ([.za])))) (λk=>[⟨1,192,1,[[.fn 164 [] []]],0⟩]) (λk=>∀j,(h:j<s.length)->j<k->(bI s[j] == other || vv (bI s[j]))=true) ?_ ah (λk hk hr=>?_) (λhr=>?_)
 .exact cC
 .conv=>whnf
  refine⟨λh=>uH ?_,λh=>absurd h ar⟩;refine uE ?_;refine⟨an,s[k],by simp[hk],uH ?_⟩;refine⟨λh1=>?_,λh1=>?_⟩
  .refine dd ?_;refine⟨an,s[k],by simp[hk],dd ?_⟩;refine af (Sg (bI s[k])) ?_;refine⟨λh2=>?_,λh2=>?_⟩
   .refine dd ?_;refine .inl ⟨rfl,?_,?_⟩
    .exact dG
    .intro j hj hjk;by_cases e:j=k
     .subst e;simp[h2]
     .exact gE
   .refine zci ?_
    (exact⟨.inl V,_,.refl _,uN (by exact(Sh hk uZ h2).symm)⟩)
  .refine dd ?_;refine .inl ⟨rfl,?_,?_⟩
   .exact dG
   .intro j hj hjk;by_cases e:j=k
    .subst e;simp at h1;simp[h1]
    .exact gE
 .conv=>whnf
  refine⟨λh=>absurd h ah,λh=>uH ?_⟩;refine zb6 ?_
  have e:nG vv s other=true:=by
   unfold nG;rw[pG];intro x hx;obtain⟨j,hj,rfl⟩:=pU.1 hx;exact hr j hj hj
  exact⟨.inl V,_,.refl _,by rw[e];rfl⟩
def jS(s:fB):Bool:=decide (0<s.length) && decide (s.length<=16) && (match s with|c::_=>BK (bI c)|[]=>false) && s.all λc=>vv (bI c)
def Un(s:fB):nG vv s 45=s.all λc=>vv (bI c):=by
 unfold nG
 congr 1
 funext c
 cases h:(bI c == 45) with
 |false=>rfl
 |true=>simp at h;simp[vv,h]
def yE(s:fB)(hs:s.length<4611686018427387904):th 64 [] [Tx s] (Bo (jS s)) []:=by
 refine zb.zi (fn:=f64) func64 V ?_;cases s with
 |nil=>
  conv=>whnf
  refine td ?_
  exact uI
 |cons c s=>
  conv=>whnf
  refine⟨λ_=>uH ?_,λh=>absurd h (by simp <;> omega)⟩;refine⟨λh1=>?_,λh1=>?_⟩
  .conv=>whnf
   refine⟨an,c,rfl,uH ?_⟩;refine af (K0 (bI c)) ?_;refine⟨λh2=>?_,λh2=>?_⟩
   .conv=>whnf
    refine af Kh ?_;refine af (KO (c::s) 45 hs) ?_;have h1':s.length<=15:=bt
    have e:jS (c::s)=nG vv (c::s) 45:=by rw[Un];unfold jS;simp[h2];omega
    refine⟨λh3=>?_,λh3=>?_⟩
    all_goals ((conv=>whnf);(exact⟨.inl V,_,.refl _,uN (by rw[e,h3])⟩))
   .conv=>whnf
    (exact⟨.inl V,_,.refl _,uN (by simp[jS,h2])⟩)
  .conv=>whnf
   (exact⟨.inl V,_,.refl _,uN (by simp[jS];simp at h1;omega)⟩)
def kJ(s:fB)(hs:s.length<4611686018427387904):th 72 [] [Tx s] (Bo (jS s)) []:=by
 refine zb.zi (fn:=f72) func72 V ?_;cases s with
 |nil=>
  conv=>whnf
  refine td ?_
  exact uI
 |cons c s=>
  conv=>whnf
  refine⟨λh=>absurd h (by simp <;> omega),λ_=>uH ?_⟩;refine⟨λh1=>?_,λh1=>?_⟩
  .conv=>whnf
   (exact⟨.inl V,_,.refl _,uN (by simp[jS];simp at h1;omega)⟩)
  .conv=>whnf
   refine⟨an,c,rfl,uH ?_⟩;refine af (KB (bI c)) ?_;refine⟨λh2=>?_,λh2=>?_⟩
   .conv=>whnf
    have h1':s.length<=15:=bt
    have e:jS (c::s)=(c::s).all λc=>vv (bI c):=by unfold jS;simp[h2];omega
    rw[e]
    clear e h2 h1
    refine zH.seq (c::s).length (λk=>((Tx (c::s))::.za::Bo false::I k::mL (mL (mL ([.za]))))) (λk=>[]) (λk=>∀j,(h:j<(c::s).length)->j<k->vv (bI (c::s)[j])=true) ?_ ah (λk hk hr=>?_) (λhr=>?_)
    .exact cC
    .conv=>whnf
     refine⟨λh=>uH ?_,λh=>absurd h (by simp at hk|-;omega)⟩;refine⟨an,(c::s)[k],by rw[toNat_cast,pq hk],?_⟩;conv=>whnf
     refine af (Jw (bI (c::s)[k])) ?_;refine⟨λh2=>?_,λh2=>?_⟩
     .conv=>whnf
      refine .inl ⟨rfl,?_,?_⟩
      .exact dK
      .intro j hj hjk;by_cases e:j=k
       .subst e;exact h2
       .exact gE
     .conv=>whnf
      refine zaW ?_
      (exact⟨.inl V,_,.refl _,uN (by symm;rw[so];exact⟨_,rj hk,bp⟩)⟩)
    .conv=>whnf
     refine⟨λh=>absurd h ah,λh=>uH ?_⟩;refine zb6 ?_
     (exact⟨.inl V,_,.refl _,uN (by symm;rw[pG];intro x hx;obtain⟨j,hj,rfl⟩:=pU.1 hx;exact hr j hj hj)⟩)
   .conv=>whnf
    (exact⟨.inl V,_,.refl _,uN (by simp[jS,h2])⟩)
end Go.Gat
namespace Go.Nam
open Go.Ab Go.Proofs Tryz Go.Hy Go.Gat Go.RowKit
variable{b:UInt8}{s:fB}
def vo(b:UInt8)(s:fB):fB:=s.takeWhile (· != b)
def o9(b:UInt8)(s:fB):fB:=(s.dropWhile (· != b)).drop 1
def jw(b:UInt8):fB->List fB
 |[]=>[[]]
 |c::s=>if c == b then []::jw b s else match jw b s with
  |p::ps=>(c::p)::ps
  |[]=>[[c]]
def GQ(b:UInt8)(s:fB):jw b s≠[]:=by
 cases s with
 |nil=>simp[jw]
 |cons c s=>unfold jw;split;simp;split <;> simp
def CW{b:UInt8}:∀{s:fB},b∉s->jw b s=[s]
 |[],_=>rfl
 |c::s,h=>by
  have h1:(c == b)=false:=bu
  have h2:=CW (s:=s) λe=>h (rY _ e)
  simp[jw,h1,h2]
def CX{b:UInt8}:∀{s:fB},b∈s->jw b s=vo b s::jw b (o9 b s)
 |[],h=>by simp at h
 |c::s,h=>by
  by_cases e:c=b
  .subst e;simp[jw,vo,o9]
  .have h1:(c == b)=false:=by simpa using e
   have h2:=CX (s:=s) bw;have h3:(c != b)=true:=ai e
   simp only[jw,h1,s8,if_false,h2,vo,o9,u3,List.dropWhile_cons,h3,if_true]
def Ls{b:UInt8}:∀{s:fB},b∉s->Lib.indexByte s b= -1
 |[],_=>rfl
 |c::s,h=>by
  have h1:(c == b)=false:=bu
  have h2:=Ls (s:=s) λe=>h (rY _ e)
  simp[Lib.indexByte,h1,h2]
def Gn{b:UInt8}:∀{s:fB},b∈s->Lib.indexByte s b=((vo b s).length:Int)
 |[],h=>by simp at h
 |c::s,h=>by
  by_cases e:c=b
  .subst e;simp[Lib.indexByte,vo]
  .have h1:(c == b)=false:=by simpa using e
   have h3:(c != b)=true:=ai e
   have h2:=Gn (s:=s) bw;have h4:((vo b s).length == (-1:Int))=false:=by rw[beq_eq_false_iff_ne];omega
   simp only[Lib.indexByte,h1,s8,if_false,h2,vo,u3,h3,if_true,r8];rw[show((↑(List.takeWhile (λx=>x != b) s).length:Int) == -1)=false from h4];simp
def head_take(b:UInt8)(s:fB):s.take (vo b s).length=vo b s:=by
 induction s with
 |nil=>rfl
 |cons c s ih=>
  by_cases e:c=b
  .subst e;simp[vo]
  .have h3:(c != b)=true:=by simpa using e
   simp only[vo,u3,h3,if_true,r8,List.take_succ_cons];rw[show List.take (List.takeWhile (λx=>x != b) s).length s=vo b s from ih];rfl
def tail_drop(b:UInt8)(s:fB):s.drop ((vo b s).length+1)=o9 b s:=by
 induction s with
 |nil=>rfl
 |cons c s ih=>
  by_cases e:c=b
  .subst e;simp[vo,o9]
  .have h3:(c != b)=true:=by simpa using e
   simp only[vo,o9,u3,List.dropWhile_cons,h3,if_true,r8,List.drop_succ_cons];exact ih
def GK(h:b∈s):(vo b s).length<s.length:=by
 have h1:=tail_drop b s;have h2:s.length≠0:=by intro e;rw[sf.1 e]at h;simp at h
 have h3:(vo b s).length<=s.length:=List.Sublist.length_le (List.takeWhile_sublist _);rcases tu (vo b s).length s.length with h4|h4
 .exact h4
 .have h5:=head_take b s;rw[sq h4]at h5;have:b∈vo b s:=by rw[<-h5];exact h
  have:=List.all_takeWhile (l:=s) (p:=(· != b));rw[pG]at this;have:=this b (by assumption);simp at this
def xQ(b:UInt8)(s:fB):Nat->fB
 |0=>s
 |k+1=>o9 b (xQ b s k)
def Dn{b:UInt8}:∀{k:Nat} {s:fB},k+1<(jw b s).length->b∈xQ b s k/\(jw b s)[k]?=some (vo b (xQ b s k))/\jw b (xQ b s (k+1))=(jw b s).drop (k+1)
 |0,s,h=>by
  have hb:b∈s:=by
   rcases Classical.em (b∈s) with h1|h1
   .exact h1
   .rw[CW h1]at h;simp at h
  exact⟨hb,by rw[CX hb];rfl,by rw[CX hb];rfl⟩
 |k+1,s,h=>by
  obtain⟨h1,h2,h3⟩:=Dn (b:=b) (k:=k) (s:=s) an
  have hb:b∈xQ b s (k+1):=by
   rcases Classical.em (b∈xQ b s (k+1)) with h4|h4
   .exact h4
   .rw[CW h4]at h3;have:=sH List.length h3;exact dL
  have h5:=CX hb;rw[h3]at h5;refine⟨hb,?_,?_⟩
  .have:=sH (λl=>l[0]?) h5;simpa using this
  .have:=sH (λl=>l.drop 1) h5;simp at this;show jw b (o9 b (xQ b s (k+1)))=_;rw[<-this]
def LG{k:Nat}(h:k+1=(jw b s).length):b∉xQ b s k/\(jw b s)[k]?=some (xQ b s k):=by
 have h3:jw b (xQ b s k)=(jw b s).drop k:=by
  cases k with
  |zero=>rfl
  |succ k=>exact(Dn (b:=b) (s:=s) (k:=k) an).2.2
 have h4:b∉xQ b s k:=by
  intro hb;rw[CX hb]at h3;have:=sH List.length h3
  have h5:(jw b (o9 b (xQ b s k))).length≠0:=by
   intro e;exact GQ b _ (sf.1 e)
  exact dL
 refine⟨h4,?_⟩;rw[CW h4]at h3;have:=sH (λl=>l[0]?) h3;simpa using this.symm
def Dk(b:UInt8)(s:fB):∀k,(xQ b s k).length<=s.length
 |0=>pN _
 |k+1=>by
  have h1:((xQ b s k).dropWhile (· != b)).length<=(xQ b s k).length:=List.Sublist.length_le (List.dropWhile_sublist _);have:=Dk b s k;simp only[xQ,o9,List.length_drop];omega
def Uf(s:ByteArray)(c:Int)(w:World):Calls prog 293 #[.string s,.int .u8 c] w λe w'=>e=.returned (.int .i64 (Lib.indexByte s.data.toList c.toNat.toUInt8))/\w'=w:=by
 go_enter func293,Tryz.ntmps293
 go_wp2
 rw[run_callFunc_extern func300 ak ak ak (e:=Extern.BytealgIndexByte.indexByte) ak,Lib.run_indexByteString];simp only[Result.andThen];rw[Oper.upon_value]
 go_wp2
 go_ret
 exact gO
def RO(s:fB)(b:UInt8):th 293 [] [Tx s,By (bI b)] (I (Lib.indexByte s b)) []:=by
 have e:(bI b).toNat.toUInt8=b:=by simp[bI]
 refine B6 [] (λw=>?_) EZ λE=>.v _ V
 have:=Uf ⟨⟨s⟩⟩ (bI b) w;rw[e]at this;exact gI
def C2(s:fB)(b:UInt8):th 278 [] [Tx s,By (bI b)] (I (Lib.indexByte s b)) []:=by
 refine ab func278 ?_;refine af (RO s b) ?_;exact uI
end Go.Nam
namespace Go.Nam
open Go.Ab Go.Proofs Tryz Go.Hy Go.Gat
variable{s:fB}
def Rp(X:Ob)(s:fB)(b:UInt8):th 248 [X] [Tx s,By (bI b)] (.fn 277 [] [.ref 1 [] 1 0 0,.ref 2 [] 1 0 0]) [X,⟨1,9,1,[[Tx s]],0⟩,⟨1,5,1,[[By (bI b)]],0⟩]:=by
 refine zb.zX (fn:=f248) func248 V (uH ?_);exact uJ
def Jf(l:Nat)(s:fB)(b:UInt8)(hs:s.length<4611686018427387904)(X:Nat->Ob)(Y:Nat->List Ob)(j:Nat)(g:Bool)(hj:j<(jw b s).length)(hend:g=false\/j+1=(jw b s).length)
 (hy:∀k p,k<j->(jw b s)[k]?=some p->jv prog l (X k::⟨1,9,1,[[Tx (xQ b s k)]],0⟩::⟨1,5,1,[[By (bI b)]],0⟩::Y k) [Tx p] (Bo true) (X (k+1)::⟨1,9,1,[[Tx (xQ b s k)]],0⟩::⟨1,5,1,[[By (bI b)]],0⟩::Y (k+1)))
 (hz:∀p,(jw b s)[j]?=some p->jv prog l (X j::⟨1,9,1,[[Tx (xQ b s j)]],0⟩::⟨1,5,1,[[By (bI b)]],0⟩::Y j) [Tx p] (Bo g) (X (j+1)::⟨1,9,1,[[Tx (xQ b s j)]],0⟩::⟨1,5,1,[[By (bI b)]],0⟩::Y (j+1))):
  th 277 (X 0::⟨1,9,1,[[Tx (xQ b s 0)]],0⟩::⟨1,5,1,[[By (bI b)]],0⟩::Y 0) [.v (.func (.yield l) #[] #[]),.ref 1 [] 1 0 0,.ref 2 [] 1 0 0] (.fy []) (X (j+1)::⟨1,9,1,[[Tx (xQ b s j)]],0⟩::⟨1,5,1,[[By (bI b)]],0⟩::Y (j+1)):=by
 refine zb.zX (fn:=f277) func277 V (uH ?_);refine zH.seq j (λk=>(.v (.func (.yield l) #[] #[])::.ref 1 [] 1 0 0::.ref 2 [] 1 0 0::mL (mL ([.za,.za,.za,.za])))) (λk=>X k::⟨1,9,1,[[Tx (xQ b s k)]],0⟩::⟨1,5,1,[[By (bI b)]],0⟩::Y k) (λ_=>True) ?_ trivial (λk hk _=>?_) (λ_=>?_)
 .exact cC
 .obtain⟨h1,h2,h3⟩:=Dn (b:=b) (s:=s) (k:=k) an;have h4:=Dk b s k;have h5:=GK h1;conv=>whnf
  refine⟨_,_,(C2 (xQ b s k) b).frame V _,?_⟩;rw[Gn h1];conv=>whnf
  refine zcd ?_;refine⟨an,an,ar,?_⟩;rw[toNat_cast,s6,head_take];conv=>whnf
  refine⟨_,_,hy k _ hk h2,dd ?_⟩;refine td ?_
  rw[zk an,toNat_cast];refine⟨an,uH ?_⟩;refine⟨an,an,?_⟩;rw[pQ,tail_drop];conv=>whnf
  exact .inl ⟨rfl,cC,trivial⟩
 .have h4:=Dk b s j;by_cases hl:j+1=(jw b s).length
  .obtain⟨h1,h2⟩:=LG hl;conv=>whnf
   refine⟨_,_,(C2 (xQ b s j) b).frame V _,?_⟩;rw[Ls h1];conv=>whnf
   refine zcp ?_;refine⟨_,_,hz _ h2,uH ?_⟩;refine⟨λ_=>?_,λ_=>?_⟩ <;>
   .conv=>whnf
    exact⟨ah,.inl V,_,.refl _,rfl,rfl⟩
  .obtain⟨h1,h2,h3⟩:=Dn (b:=b) (s:=s) (k:=j) an;have h5:=GK h1;have hg:g=false:=by rcases hend with h|h;exact h;exact absurd h hl
   subst hg;conv=>whnf
   refine⟨_,_,(C2 (xQ b s j) b).frame V _,?_⟩;rw[Gn h1];conv=>whnf
   refine zcd ?_;refine⟨an,an,ar,?_⟩;rw[toNat_cast,s6,head_take];conv=>whnf
   refine⟨_,_,hz _ h2,dd ?_⟩;refine td ?_
   exact⟨ah,.inl V,_,.refl _,rfl,rfl⟩
def mW(s:fB):Bool:=decide (s.length<=32) && (jw 46 s).all jS
def Md(b:UInt8):∀s:fB,(jw b s).length<=s.length+1
 |[]=>by simp[jw]
 |c::s=>by
  have:=Md b s;unfold jw;split
  .simp;omega
  .split
   .rename_i h;rw[h]at this;simp at this|-;omega
   .simp
def L3(b:UInt8)(s:fB)(k:Nat)(p:fB)(h:(jw b s)[k]?=some p):p.length<=s.length:=by
 have hk:=(px.1 h).1;by_cases hl:k+1=(jw b s).length
 .obtain⟨h1,h2⟩:=LG hl;rw[h2]at h;cases h;exact Dk b s k
 .obtain⟨h1,h2,h3⟩:=Dn (b:=b) (s:=s) (k:=k) an;rw[h2]at h;cases h
  have:=GK h1;have:=Dk b s k;omega
def F8(s:fB)(hs:s.length<4611686018427387904):th 204 [] [Tx s] (Bo (mW s)) []:=by
 refine ab func204 ?_;refine⟨λh=>?_,λh=>?_⟩
 .refine dd ?_
  (exact⟨.inl V,_,.refl _,uN (by simp[mW];simp at h;omega)⟩)
 .refine dd ?_;refine⟨_,_,Rp _ s 46,uH ?_⟩;have hn:=GQ 46 s
  have hlen:0<(jw 46 s).length:=by
   rcases uc (jw 46 s).length with e|e
   .exact absurd (sf.1 e) hn
   .exact e
  have hple:∀(k:Nat) (p:fB),(jw 46 s)[k]?=some p->p.length<4611686018427387904:=λk p hp=>by have:=L3 46 s k p hp;omega
  refine⟨_,.refl _,?_⟩;by_cases qd:(jw 46 s).all jS=true
  .have hname:∀(k:Nat) p,(jw 46 s)[k]?=some p->jS p=true:=λk p hp=>pG.1 qd p (pE hp)
   refine⟨.normal,_,[⟨1,4,1,[[Bo false]],0⟩],λl r h1 h2 h3 h4 h5=>⟨_,_,r,Jf l s 46 hs (λ_=>⟨1,4,1,[[Bo false]],0⟩) (λ_=>[iy l r _]) ((jw 46 s).length-1) true an (.inr an) (λk p hk hp=>?_) (λp hp=>?_),
    rfl,aH,rfl,pW _,aI,zl.low 1 _ _ V V V⟩,?_⟩
   .refine jv.zX (id:=3) V h1 h2 h3 h4 h5 V V V ?_;conv=>whnf
    exact zb7
   .refine jv.zX (id:=3) V h1 h2 h3 h4 h5 V V V ?_;conv=>whnf
    exact zb7
   .conv=>whnf
    (exact⟨.inl V,_,.refl _,uN (by simp[mW,qd];simp at h;omega)⟩)
  .obtain⟨j,hj⟩:∃j,(jw 46 s).findIdx? (λp=>!jS p)=some j:=by
    cases e:(jw 46 s).findIdx? (λp=>!jS p) with
    |some j=>exact⟨j,rfl⟩
    |none=>
     exfalso
     rw[pX]at e;exact qd (pG.2 λx hx=>by simpa using e x hx)
   rw[pT]at hj;obtain⟨hjl,hj1,hj2⟩:=hj;have qd:(jw 46 s).all jS=false:=ai qd
   refine⟨.ret,_,[⟨1,4,1,[[Bo false]],0⟩],λl r h1 h2 h3 h4 h5=>⟨_,_,left r .ret,Jf l s 46 hs (λ_=>⟨1,4,1,[[Bo false]],0⟩) (λk=>[iy l (if k<j+1 then r else left r .ret) _]) j false hjl (.inl rfl) (λk p hk hp=>?_) (λp hp=>?_),
    sH (λx=>some (iy l x _)) (pA (Nat.lt_irrefl (j+1))),ah,rfl,pW _,trivial,zl.low 1 _ _ V V V⟩,?_⟩
   .have e1:k<j+1:=by omega
    have e2:k+1<j+1:=an
    simp only[pD e1,pD e2];refine jv.zX (id:=3) V h1 h2 h3 h4 h5 V V V (uH ?_);refine⟨rfl,rfl,uH ?_⟩;refine af (yE p (hple _ _ hp)) ?_
    have hname:jS p=true:=by
     have h6:=hj2 k hk;rw[pq an]at hp;cases hp
     simpa using h6
    refine⟨λ_=>dd ?_,λh=>absurd ((hname).symm.trans h:true=false) aj⟩;exact dQ
   .simp only[pD (Nat.lt_succ_self j),pA (Nat.lt_irrefl (j+1))];refine jv.zX (id:=3) V h1 h2 h3 h4 h5 V V V (uH ?_);refine⟨rfl,rfl,uH ?_⟩;refine af (yE p (hple _ _ hp)) ?_
    have hname:jS p=false:=by
     rw[pq hjl]at hp;cases hp
     simpa using hj1
    refine⟨λh=>absurd ((hname).symm.trans h:false=true) aj,λ_=>dd ?_⟩;exact⟨_,_,.refl _,rfl,.inr ⟨rfl,.inl ⟨rfl,rfl⟩⟩⟩
   .conv=>whnf
    (exact⟨.inl V,_,.refl _,uN (by simp[mW,qd])⟩)
abbrev pk(b:UInt8)(s:fB)(k:Nat):List (List C):=((jw b s).take k).map z7
def vC(s p:fB):Bool:=decide (p.length<=s.length) && (s.take p.length == p)
def Of(s p:fB):th 276 [] [Tx s,Tx p] (Bo (vC s p)) []:=by
 refine ab func276 ?_;refine⟨λh=>?_,λh=>?_⟩
 .refine dd ?_;refine⟨an,an,by simp at h;omega,?_⟩;rw[toNat_cast,s6];conv=>whnf
  (repeat' (first|(refine⟨λ_=>?_,λ_=>?_⟩ <;> (conv=>whnf))|fail))
  all_goals (exact⟨.inl V,_,.refl _,uN (by simp_all[vC])⟩)
 .conv=>whnf
  (exact⟨.inl V,_,.refl _,uN (by simp_all[vC];intros;omega)⟩)
abbrev IG(r:fB×Bool):C:=.fy [Tx r.1,Bo r.2]
def wG(s p:fB):fB×Bool:=if vC s p then (s.drop p.length,true) else (s,false)
def OD(s p:fB):th 247 [] [Tx s,Tx p] (IG (wG s p)) []:=by
 refine ab func247 ?_;refine af (Of s p) ?_;refine⟨λh=>?_,λh=>?_⟩
 .refine dd ?_;have h':p.length<=s.length:=by simp[vC]at h;exact h.1
  refine⟨an,an,an,?_⟩;rw[pQ,toNat_cast];conv=>whnf
  have e:wG s p=(s.drop p.length,true):=by unfold wG;rw[pD h]
  exact gK
 .conv=>whnf
  have e:wG s p=(s,false):=by unfold wG;rw[pA aA]
  exact gK
def kW(s p:fB):th 203 [] [Tx s,Tx p] (IG (wG s p)) []:=by
 refine ab func203 ?_;refine af (OD s p) ?_;(repeat' (first|(refine⟨λ_=>?_,λ_=>?_⟩ <;> (conv=>whnf))|fail))
 all_goals
  rename_i h;exact⟨.inl V,_,.refl _,sH (λb=>some (C.fy [Tx (wG s p).1,Bo b])) h.symm⟩
def lF(s:fB):Bool:=if vC s [42,46] then mW (s.drop 2) else s == [42] || mW s
def FG(s:fB)(hs:s.length<4611686018427387904):th 160 [] [Tx s] (Bo (lF s)) []:=by
 refine ab func160 ?_;refine af (kW s [42,46]) ?_;refine⟨λh=>?_,λh=>?_⟩
 .have h1:vC s [42,46]=true:=by
   cases e:vC s [42,46] with
   |true=>rfl
   |false=>simp[wG,e]at h
  have e:wG s [42,46]=(s.drop 2,true):=by unfold wG;rw[pD h1];rfl
  rw[e];refine dd ?_;refine af (F8 (s.drop 2) ar) ?_;(repeat' (first|(refine⟨λ_=>?_,λ_=>?_⟩ <;> (conv=>whnf))|fail))
  all_goals (exact⟨.inl V,_,.refl _,uN (by simp_all[lF])⟩)
 .have h1:vC s [42,46]=false:=by
   cases e:vC s [42,46] with
   |false=>rfl
   |true=>simp[wG,e]at h
  have e:wG s [42,46]=(s,false):=by unfold wG;rw[pA aJ]
  rw[e];refine dd ?_;refine⟨λh2=>?_,λh2=>?_⟩
  .refine dd ?_
   (exact⟨.inl V,_,.refl _,uN (by simp_all[lF])⟩)
  .refine dd ?_;refine af (F8 s hs) ?_;(repeat' (first|(refine⟨λ_=>?_,λ_=>?_⟩ <;> (conv=>whnf))|fail))
   all_goals (exact⟨.inl V,_,.refl _,uN (by simp_all[lF])⟩)
def kT(s:fB):Bool:=decide (0<s.length) && decide (s.length<=32) && (match s with|c::_=>bI c == 47|[]=>false) && nG vv s 47
def Gd(s:fB)(hs:s.length<4611686018427387904):th 161 [] [Tx s] (Bo (kT s)) []:=by
 refine zb.zi (fn:=f161) func161 V ?_;cases s with
 |nil=>
  conv=>whnf
  refine td ?_
  exact uI
 |cons c s=>
  conv=>whnf
  refine⟨λ_=>uH ?_,λh=>absurd h (by simp <;> omega)⟩;refine⟨λh1=>?_,λh1=>?_⟩
  .conv=>whnf
   refine⟨an,c,rfl,uH ?_⟩;refine⟨λh2=>?_,λh2=>?_⟩
   .conv=>whnf
    refine af Kh ?_;refine af (KO (c::s) 47 hs) ?_;have h1':s.length<=31:=bt
    have e:kT (c::s)=nG vv (c::s) 47:=by unfold kT;simp[h2];omega
    refine⟨λh3=>?_,λh3=>?_⟩
    all_goals ((conv=>whnf);(exact⟨.inl V,_,.refl _,uN (by rw[e,h3])⟩))
   .conv=>whnf
    (exact⟨.inl V,_,.refl _,uN (by simp[kT,h2])⟩)
  .conv=>whnf
   (exact⟨.inl V,_,.refl _,uN (by simp[kT];simp at h1;omega)⟩)
def FT(s:fB)(hs:s.length<4611686018427387904):th 166 [] [Tx s] (Bo (kT s)) []:=by
 refine zb.zi (fn:=f166) func166 V ?_;cases s with
 |nil=>
  conv=>whnf
  refine td ?_
  exact uI
 |cons c s=>
  conv=>whnf
  refine⟨λh=>absurd h (by simp <;> omega),λ_=>uH ?_⟩;refine⟨λh1=>?_,λh1=>?_⟩
  .conv=>whnf
   (exact⟨.inl V,_,.refl _,uN (by simp[kT];simp at h1;omega)⟩)
  .conv=>whnf
   refine⟨an,c,rfl,uH ?_⟩;refine⟨λh2=>?_,λh2=>?_⟩
   .conv=>whnf
    (exact⟨.inl V,_,.refl _,uN (by simp[kT];simp at h2;simp[h2])⟩)
   .conv=>whnf
    have h1':s.length<=31:=bt
    have e:kT (c::s)=nG vv (c::s) 47:=by unfold kT;simp at h2;simp[h2];omega
    rw[e]
    clear e h2 h1
    refine zH.seq (c::s).length (λk=>((Tx (c::s))::.za::Bo false::I k::mL (mL (mL ([.za,.za,.za,.za,.za,.za]))))) (λk=>[]) (λk=>∀j,(h:j<(c::s).length)->j<k->(bI (c::s)[j] == 47 || vv (bI (c::s)[j]))=true) ?_ ah (λk hk hr=>?_) (λhr=>?_)
    .exact cC
    .have nx:((bI (c::s)[k] == 47 || vv (bI (c::s)[k]))=true)->∀j,(h:j<(c::s).length)->j<k+1->(bI (c::s)[j] == 47 || vv (bI (c::s)[j]))=true:=λh2 j hj hjk=>by
      by_cases e:j=k
      .subst e;exact h2
      .exact gE
     conv=>whnf
     refine⟨λh=>uH ?_,λh=>absurd h (by simp at hk|-;omega)⟩;refine⟨an,(c::s)[k],by rw[toNat_cast,pq hk],?_⟩;conv=>whnf
     refine af (Jw (bI (c::s)[k])) ?_;refine⟨λh2=>?_,λh2=>?_⟩
     .conv=>whnf
      refine .inl ⟨rfl,?_,nx bp⟩;exact dK
     .conv=>whnf
      refine⟨an,(c::s)[k],by rw[toNat_cast,pq hk],?_⟩;conv=>whnf
      refine⟨λh3=>?_,λh3=>?_⟩
      .conv=>whnf
       refine zaW ?_
       (exact⟨.inl V,_,.refl _,uN (by symm;unfold nG;rw[so];exact⟨_,rj hk,by simp at h3;simp[h2,h3]⟩)⟩)
      .conv=>whnf
       refine .inl ⟨rfl,?_,nx (by simp at h3;simp[h3])⟩;exact dK
    .conv=>whnf
     refine⟨λh=>absurd h ah,λh=>uH ?_⟩;refine zb6 ?_
     (exact⟨.inl V,_,.refl _,uN (by symm;unfold nG;rw[pG];intro x hx;obtain⟨j,hj,rfl⟩:=pU.1 hx;exact hr j hj hj)⟩)
def LF{b:UInt8}{q:fB}:∀{p:fB},b∉p->jw b (p++b::q)=p::jw b q
 |[],_=>by simp[jw]
 |c::p,h=>by
  have h1:(c == b)=false:=bu
  have h2:=LF (p:=p) (q:=q) λe=>h (rY _ e)
  simp[jw,h1,h2]
def wY(b:UInt8)(s:fB):Nat->List fB×Nat
 |0=>([],0)
 |k+1=>match s[k]? with
  |some c=>if c == b then ((wY b s k).1++[(s.take k).drop (wY b s k).2],k+1) else wY b s k
  |none=>wY b s k
def GY(b:UInt8)(s:fB):∀k,k<=s.length->(wY b s k).2<=k/\(wY b s k).1.length<=k/\b∉(s.take k).drop (wY b s k).2/\jw b s=(wY b s k).1++jw b (s.drop (wY b s k).2)
 |0,_=>⟨pN _,pN _,ah,rfl⟩
 |k+1,hk=>by
  obtain⟨h1,h4,h2,h3⟩:=GY b s k an;have hg:s[k]?=some s[k]:=pq an;have ht:s.take (k+1)=s.take k++[s[k]]:=by rw[tr,hg];rfl
  unfold wY;rw[hg];dsimp only;by_cases e:s[k]=b
  .rw[pD (ai e)];refine⟨pN _,ar,ah,?_⟩;rw[h3];have h5:s.take k++b::s.drop (k+1)=s:=by rw[<-e,<-u7,ug]
   have this:∀a,a<=k->s.drop a=(s.take k).drop a++b::s.drop (k+1):=λa ha=>by
    have h6:=sH (List.drop a) h5;rw[eS ar]at h6;exact h6.symm
   rw[this _ h1,LF h2];simp
  .rw[pA (ai e)];refine⟨an,an,?_,h3⟩;rw[ht,eS ar];simp only[pS,rH,not_or];exact⟨h2,λe2=>e e2.symm⟩
def Qe(s:fB)(b:UInt8)(hs:s.length<8000000000000):th 249 [] [Tx s,By (bI b)] (lT (jw b s)) []:=by
 refine ab func249 ?_;refine zH.seq s.length (λk=>((Tx s)::(By (bI b))::.za::.za::.fq 1 0 []::.gl 0 1 ((wY b s k).1.map z7)::I (wY b s k).2::I k::mL (mL (mL ([.za,.za,.za]))))) (λk=>[⟨4,9,1,(wY b s k).1.map z7,0⟩]) (λ_=>True) ?_ trivial (λk hk _=>?_) (λ_=>?_)
 .exact(zl.grow 5 9 1 V (.inl V)).trans (cC)
 .obtain⟨h1,h2,_,_⟩:=GY b s k an;have hg:s[k]?=some s[k]:=pq hk;conv=>whnf
  refine⟨λh=>uH ?_,λh=>absurd h ar⟩;refine⟨an,s[k],by rw[toNat_cast,hg],uH ?_⟩;refine⟨λh3=>?_,λh3=>?_⟩
  .have e:wY b s (k+1)=((wY b s k).1++[(s.take k).drop (wY b s k).2],k+1):=by
    show(match s[k]? with|some c=>_|none=>_)=_;rw[hg];dsimp only;rw[pD (by have h6:s[k]=b:=UInt8.toNat_inj.1 (by simp[bI]at h3;omega);simp[h6])]
   conv=>whnf
   refine⟨an,an,an,an,?_⟩;rw[toNat_cast,toNat_cast];conv=>whnf
   refine⟨rfl,.inr V,aq,bz,uH ?_⟩;refine zap ?_;rw[zk an,e];dsimp only;rw[ry];exact cE 1
  .have e:wY b s (k+1)=wY b s k:=by
    show(match s[k]? with|some c=>_|none=>_)=_;rw[hg];dsimp only;rw[pA (by simp[bI]at h3;intro e;simp at e;exact h3 (by rw[e]))]
   conv=>whnf
   refine zap ?_;rw[zk an,e];exact cE 1
 .obtain⟨h1,h2,h3,h4⟩:=GY b s s.length (pN _)
  have h5:jw b s=(wY b s s.length).1++[s.drop (wY b s s.length).2]:=by
   rw[pQ]at h3;rw[h4,CW h3]
  conv=>whnf
  refine⟨λh=>absurd h ah,λh=>uH ?_⟩;refine zb6 ?_;refine⟨an,an,an,?_⟩;rw[toNat_cast,pQ];conv=>whnf
  refine⟨rfl,.inr V,aq,bz,uH ?_⟩;rw[h5];exact⟨.inl V,_,.refl _,sH (λx=>some (C.fq 0 1 x)) (ry (f:=z7) (l₁:=(wY b s s.length).1) (l₂:=[s.drop (wY b s s.length).2])).symm⟩
def DX(s:fB)(hs:s.length<8000000000000):th 205 [] [Tx s] (Bo (mW s)) []:=by
 have hle:=Md 46 s;refine ab func205 ?_;refine af (Qe s 46 hs) ?_;refine zH.seq (jw 46 s).length (λk=>((Tx s)::.za::Bo false::(lT (jw 46 s))::I k::mL (mL ([.za])))) (λk=>[]) (λk=>∀j,(h:j<(jw 46 s).length)->j<k->jS (jw 46 s)[j]=true) ?_ ah (λk hk hr=>?_) (λhr=>?_)
 .exact cC
 .have hp:(jw 46 s)[k].length<4611686018427387904:=by
   have:=L3 46 s k (jw 46 s)[k] (pq hk);omega
  conv=>whnf
  refine⟨λh=>uH ?_,λh=>absurd h ar⟩;refine⟨an,z7 (jw 46 s)[k],by rw[toNat_cast,pw,pq hk];rfl,?_⟩;conv=>whnf
  refine af (kJ (jw 46 s)[k] hp) ?_;refine⟨λh2=>?_,λh2=>?_⟩
  .conv=>whnf
   refine .inl ⟨rfl,?_,?_⟩
   .exact dK
   .intro j hj hjk;by_cases e:j=k
    .subst e;exact h2
    .exact gE
  .conv=>whnf
   refine zaW ?_;have qd:(jw 46 s).all jS=false:=by rw[so];exact⟨_,rj hk,bp⟩
   (exact⟨.inl V,_,.refl _,uN (by simp[mW,qd])⟩)
 .conv=>whnf
  refine⟨λh=>absurd h ah,λh=>uH ?_⟩;refine⟨ah,?_⟩;have qd:(jw 46 s).all jS=true:=by rw[pG];intro x hx;obtain⟨j,hj,rfl⟩:=pU.1 hx;exact hr j hj hj
  conv=>whnf
  (repeat' (first|(refine⟨λ_=>?_,λ_=>?_⟩ <;> (conv=>whnf))|fail))
  all_goals (rename_i h1;(exact⟨.inl V,_,.refl _,uN (by simp[mW,qd];simp at h1;omega)⟩))
def Xg(h:2<s.length)(h2:s.take 2=[42,46]):lF s=mW (s.drop 2):=by
 have:vC s [42,46]=true:=by simp[vC,h2];omega
 simp[lF,this]
def Mu(h:s.length<=2\/s.take 2≠[42,46]):lF s=(s == [42] || mW s):=by
 cases e:vC s [42,46] with
 |false=>simp[lF,e]
 |true=>
  simp[vC]at e;rcases h with h|h
  .rw[sq h]at e;rw[e.2]
   decide
  .exact absurd e.2 h
def wR(s:fB)(hs:s.length<8000000000000):th 165 [] [Tx s] (Bo (lF s)) []:=by
 refine ab func165 ?_;refine⟨λh=>?_,λh=>?_⟩
 .refine dd ?_;refine⟨an,ah,by simp at h|-;omega,?_⟩;rw[s6,show Int.toNat 2=2 from V];refine dd ?_;refine⟨λh2=>?_,λh2=>?_⟩
  .refine dd ?_;refine⟨an,by simp at h|-;omega,an,?_⟩;rw[pQ,show Int.toNat 2=2 from V];refine dd ?_;rw[Xg (by simp at h;omega) tM];refine af (DX (s.drop 2) ar) ?_;(repeat' (first|(refine⟨λ_=>?_,λ_=>?_⟩ <;> (conv=>whnf))|fail))
   all_goals (rename_i h3;(exact⟨.inl V,_,.refl _,uN (by exact h3.symm)⟩))
  .refine dd ?_;rw[Mu (.inr tM)];refine⟨λh3=>?_,λh3=>?_⟩
   .refine dd ?_
    (exact⟨.inl V,_,.refl _,uN (by rw[h3];rfl)⟩)
   .refine dd ?_;refine af (DX s hs) ?_;(repeat' (first|(refine⟨λ_=>?_,λ_=>?_⟩ <;> (conv=>whnf))|fail))
    all_goals (rename_i h4;(exact⟨.inl V,_,.refl _,uN (by rw[h3,h4];rfl)⟩))
 .refine dd ?_;rw[Mu (.inl (by simp at h;omega))];refine⟨λh3=>?_,λh3=>?_⟩
  .refine dd ?_
   (exact⟨.inl V,_,.refl _,uN (by rw[h3];rfl)⟩)
  .refine dd ?_;refine af (DX s hs) ?_;(repeat' (first|(refine⟨λ_=>?_,λ_=>?_⟩ <;> (conv=>whnf))|fail))
   all_goals (rename_i h4;(exact⟨.inl V,_,.refl _,uN (by rw[h3,h4];rfl)⟩))
def Ue{c:UInt8}(h:mW (c::s)=true):BK (bI c)=true:=by
 unfold mW at h;simp only[pJ,pG]at h;by_cases e:c=46
 .subst e;have:=h.2 [] (by simp[jw]);exact absurd this aj
 .have h1:(c == 46)=false:=by simpa using e
  cases h3:jw 46 s with
  |nil=>exact absurd h3 (GQ _ s)
  |cons x xs=>
   have:=h.2 (c::x) (by simp[jw,h1,h3]);simp only[jS,pJ]at this;exact this.1.2
end Go.Nam
namespace Go.Hos
open Go.Ab Go.Proofs Tryz Go.Hy Go.Gat Go.Nam
variable{c:UInt8}
def AE(s t:fB):Bool:=decide (t.length<=s.length) && (s.drop (s.length-t.length) == t)
def Ty(s t:fB)(hs:s.length<4000000000000):th 310 [] [Tx s,Tx t] (Bo (AE s t)) []:=by
 refine ab func310 ?_;refine⟨λh=>?_,λh=>?_⟩
 .have h':t.length<=s.length:=by simp at h;omega
  have w:IntKind.i64.wrap ((s.length:Int)-(t.length:Int))=(s.length-t.length:Nat):=by rw[jF an an];omega
  refine dd ?_;rw[w];refine⟨an,an,an,?_⟩;rw[pQ,toNat_cast];refine dd ?_;(repeat' (first|(refine⟨λ_=>?_,λ_=>?_⟩ <;> (conv=>whnf))|fail))
  all_goals (exact⟨.inl V,_,.refl _,uN (by simp_all[AE])⟩)
 .refine dd ?_
  (exact⟨.inl V,_,.refl _,uN (by simp[AE];simp at h;intros;omega)⟩)
def Le(s t:fB)(hs:s.length<4000000000000):th 309 [] [Tx s,Tx t] (Bo (AE s t)) []:=by
 refine ab func309 ?_;refine af (Ty s t hs) ?_;(repeat' (first|(refine⟨λ_=>?_,λ_=>?_⟩ <;> (conv=>whnf))|fail))
 all_goals (rename_i h;(exact⟨.inl V,_,.refl _,uN (by exact h.symm)⟩))
def At(p h:fB):Bool:=match p with
 |c::t=>c == 42 && (t == [] || (decide (t.length<h.length) && AE h t))
 |[]=>false
def yq(p h:fB):Bool:=lF p && mW h && (p == h || At p h)
def Yp(c:UInt8)(t:fB):wG (c::t) [42]=if c == 42 then (t,true) else (c::t,false):=by
 unfold wG vC;by_cases h:c=42
 .subst h;simp
 .simp[h]
def Ha:lF []=false:=by decide
def Qy(p h:fB)(hp:p.length<4000000000000)(hh:h.length<4000000000000):th 307 [] [Tx p,Tx h] (Bo (yq p h)) []:=by
 refine ab func307 ?_;refine af (FG p an) ?_;refine⟨λh1=>?_,λh1=>?_⟩
 .refine zac ?_
  refine af (F8 h an) ?_;refine⟨λh2=>?_,λh2=>?_⟩
  .refine zac ?_
   refine af (kW p [42]) ?_;cases p with
   |nil=>rw[Ha]at h1;cases h1
   |cons c t=>
    rw[Yp];by_cases hc:(c == 42)=true
    .rw[pD hc];refine zcp ?_;refine⟨λh3=>?_,λh3=>?_⟩
     .refine zac ?_
      (exact⟨.inl V,_,.refl _,uN bA⟩)
     .refine dd ?_;refine⟨λh4=>?_,λh4=>?_⟩
      .refine zac ?_
       (exact⟨.inl V,_,.refl _,uN (by simp_all[yq,At])⟩)
      .refine dd ?_;refine⟨λh5=>?_,λh5=>?_⟩
       .refine dd ?_;refine af (Le h t hh) ?_;(repeat' (first|(refine⟨λ_=>?_,λ_=>?_⟩ <;> (conv=>whnf))|fail))
        all_goals (rename_i h6;(exact⟨.inl V,_,.refl _,uN (by simp at hc;subst hc;simp at h3 h4 h5;simp[yq,At,h1,h2,h3,h4,h5,h6])⟩))
       .refine dd ?_
        (exact⟨.inl V,_,.refl _,uN (by simp at hc;subst hc;simp at h3 h4 h5;simp[yq,At,h1,h2,h3,h4];intros;omega)⟩)
    .rw[pA hc];refine uG ?_;refine⟨λh3=>?_,λh3=>?_⟩
     .refine zac ?_
      (exact⟨.inl V,_,.refl _,uN bA⟩)
     .refine dd ?_
      (exact⟨.inl V,_,.refl _,uN (by simp at h3 hc;simp[yq,At,h1,h2,h3,hc])⟩)
  .refine zac ?_
   (exact⟨.inl V,_,.refl _,uN bA⟩)
 .refine zac ?_
  (exact⟨.inl V,_,.refl _,uN bA⟩)
def yU(p t:fB):Bool:=kT p && kT t && vC p t && (p.drop t.length == [] || AE t [47] || (p.drop t.length).head? == some 47)
def Mx{s:fB}(h:s[0]?=some c):(s.head? == some 47)=(bI c == 47):=by
 rw[List.head?_eq_getElem?,h];by_cases e:c=47
 .subst e;rfl
 .have h1:¬bI c=47:=λh=>e (by
   unfold bI at h;have h':c.toNat=47:=an
   exact UInt8.toNat_inj.1 (by rw[h'];rfl))
  have h2:(c == 47)=false:=ai e
  have h3:(bI c == 47)=false:=ai h1
  rw[h3];simpa using e
def Sd(p t:fB)(hp:p.length<4000000000000)(ht:t.length<4000000000000):th 308 [] [Tx p,Tx t] (Bo (yU p t)) []:=by
 refine ab func308 ?_;refine af (Gd p an) ?_;refine⟨λh1=>?_,λh1=>?_⟩
 .refine zac ?_
  refine af (Gd t an) ?_;refine⟨λh2=>?_,λh2=>?_⟩
  .refine zac ?_
   refine af (kW p t) ?_;by_cases h3:vC p t=true
   .have e:wG p t=(p.drop t.length,true):=by unfold wG;rw[pD h3]
    rw[e];refine zcp ?_;refine⟨λh4=>?_,λh4=>?_⟩
    .refine zac ?_
     (exact⟨.inl V,_,.refl _,uN bB⟩)
    .refine dd ?_;refine af (Le t [47] ht) ?_;refine⟨λh5=>?_,λh5=>?_⟩
     .refine zac ?_
      (exact⟨.inl V,_,.refl _,uN bB⟩)
     .refine dd ?_
      obtain⟨c,hc⟩:∃c,(p.drop t.length)[0]?=some c:=by
       cases hd:p.drop t.length with
       |nil=>rw[hd]at h4;simp at h4
       |cons c _=>exact⟨c,rfl⟩
      refine⟨an,c,hc,dd ?_⟩;(repeat' (first|(refine⟨λ_=>?_,λ_=>?_⟩ <;> (conv=>whnf))|fail))
      all_goals (rename_i h6;(exact⟨.inl V,_,.refl _,uN (by simp only[yU,h1,h2,h3,h4,h5,Mx hc];simpa using h6.symm)⟩))
   .have e:wG p t=(p,false):=by unfold wG;rw[pA h3]
    rw[e];refine uG ?_
    (exact⟨.inl V,_,.refl _,uN bB⟩)
  .refine zac ?_
   (exact⟨.inl V,_,.refl _,uN bB⟩)
 .refine zac ?_
  (exact⟨.inl V,_,.refl _,uN bB⟩)
def qP(p:fB):Int:=if lF p then (if vC p [42,46] then ((p.length-2:Nat):Int) else if p == [42] then 0 else 100) else 0
def Jl(p:fB)(hp:p.length<4000000000000):th 306 [] [Tx p] (I (qP p)) []:=by
 refine ab func306 ?_;refine af (FG p an) ?_;refine⟨λh1=>?_,λh1=>?_⟩
 .refine zac ?_
  refine af (kW p [42,46]) ?_;by_cases h3:vC p [42,46]=true
  .have e:wG p [42,46]=(p.drop 2,true):=by unfold wG;rw[pD h3];rfl
   have ew:qP p=((p.drop 2).length:Nat):=by simp[qP,h1,h3]
   rw[e,ew];refine zcp ?_;exact uI
  .have e:wG p [42,46]=(p,false):=by unfold wG;rw[pA h3]
   rw[e];refine uG ?_;refine⟨λh4=>?_,λh4=>?_⟩
   .have ew:qP p=0:=by simp_all[qP]
    rw[ew];exact dB
   .have ew:qP p=100:=by simp_all[qP]
    rw[ew];exact dB
 .have ew:qP p=0:=by simp_all[qP]
  rw[ew];refine zac ?_
  exact uI
def vx(p q p' q':fB):Bool:=if qP p=qP p' then decide (q'.length<q.length) else decide (qP p'<qP p)
def PI(p q p' q':fB)(hp:p.length<4000000000000)(hq:p'.length<4000000000000):th 302 [] [Tx p,Tx q,Tx p',Tx q'] (Bo (vx p q p' q')) []:=by
 refine ab func302 ?_;refine af (Jl p hp) ?_;refine af (Jl p' hq) ?_;refine⟨λh1=>?_,λh1=>?_⟩
 .refine dd ?_;(repeat' (first|(refine⟨λ_=>?_,λ_=>?_⟩ <;> (conv=>whnf))|fail))
  all_goals (rename_i h2;(exact⟨.inl V,_,.refl _,uN (by simp_all[vx])⟩))
 .refine dd ?_;(repeat' (first|(refine⟨λ_=>?_,λ_=>?_⟩ <;> (conv=>whnf))|fail))
  all_goals (rename_i h2;(exact⟨.inl V,_,.refl _,uN (by simp_all[vx])⟩))
def Vp{t:fB}(h:lF (c::t)=true)(h1:¬(c::t)=[42])(h2:(c == 42)=true):vC (c::t) [42,46]=true:=by
 cases e:vC (c::t) [42,46] with
 |true=>rfl
 |false=>
  exfalso
  unfold lF at h;rw[pA (by simp[e])]at h;simp only[rZ,rF]at h;rcases h with h|h
  .exact h1 h
  .have:=Ue h;have hc:c=42:=by simpa using h2
   subst hc
   revert this;decide
def MZ(c d:UInt8):(bI c == bI d)=(c == d):=by
 by_cases e:c=d
 .subst e;simp
 .have h1:¬bI c=bI d:=λh=>e (by unfold bI at h;exact UInt8.toNat_inj.1 an)
  have h2:(bI c == bI d)=false:=ai h1
  rw[h2]
  symm;simpa using e
def Ik(c:UInt8):(bI c == 42)=(c == 42):=MZ c 42
def XN(c:UInt8):(bI c == 47)=(c == 47):=MZ c 47
def Qb(p h:fB)(hp:p.length<8000000000000)(hh:h.length<8000000000000):th 290 [] [Tx p,Tx h] (Bo (yq p h)) []:=by
 refine ab func290 ?_;refine af (wR p hp) ?_;refine⟨λh1=>?_,λh1=>?_⟩
 .refine zac ?_
  refine af (DX h hh) ?_;refine⟨λh2=>?_,λh2=>?_⟩
  .refine zac ?_
   cases p with
   |nil=>rw[Ha]at h1;cases h1
   |cons c t=>
    refine⟨λh3=>?_,λh3=>?_⟩
    .refine zac ?_
     (exact⟨.inl V,_,.refl _,uN (by simp at h3;obtain⟨rfl,rfl⟩:=h3;simp[yq,At,h1,h2])⟩)
    .refine dd ?_;refine⟨λh4=>?_,λh4=>?_⟩
     .refine zac ?_
      (exact⟨.inl V,_,.refl _,uN bA⟩)
     .refine dd ?_;refine⟨an,c,rfl,dd ?_⟩;refine⟨λh5=>?_,λh5=>?_⟩
      .refine dd ?_
       (exact⟨.inl V,_,.refl _,uN (by rw[bne,Ik]at h5;simp at h4 h5;simp[yq,At,h1,h2,h4,h5])⟩)
      .have h5:(c == 42)=true:=by rw[bne,Ik]at h5;simpa using h5
       refine dd ?_;refine⟨an,ah,an,?_⟩;have e1:(List.take (c::t).length (c::t)).drop (Int.toNat 1)=t:=ah
       rw[e1];simp only[r8]at hp;have w:IntKind.i64.wrap ((h.length:Int)-(t.length:Int))=(h.length:Int)-(t.length:Int):=jF an an;refine dd ?_;rw[w];refine⟨λh6=>?_,λh6=>?_⟩
       .have h6:t.length<h.length:=by simp at h6;omega
        refine dd ?_;refine⟨an,an,an,?_⟩;have e2:(List.take h.length h).drop ((h.length:Int)-(t.length:Int)).toNat=h.drop (h.length-t.length):=by rw[pQ];congr 1;omega
        rw[e2];refine dd ?_;have hc:c=42:=ai h5
        subst hc;(repeat' (first|(refine⟨λ_=>?_,λ_=>?_⟩ <;> (conv=>whnf))|fail))
        all_goals
         rename_i h7
         (exact⟨.inl V,_,.refl _,uN (by simp at h3 h4 h7;simp[yq,At,AE,h1,h2,h3,h4,h6,h7];try omega)⟩)
       .have h6:h.length<=t.length:=by simp at h6;omega
        refine dd ?_;have hc:c=42:=ai h5
        subst hc
        (exact⟨.inl V,_,.refl _,uN (by simp at h3 h4;simp[yq,At,h1,h2,h3,h4];intros;omega)⟩)
  .refine zac ?_
   (exact⟨.inl V,_,.refl _,uN bA⟩)
 .refine zac ?_
  (exact⟨.inl V,_,.refl _,uN bA⟩)
def Qo(p t:fB)(hp:p.length<8000000000000)(ht:t.length<8000000000000):th 291 [] [Tx p,Tx t] (Bo (yU p t)) []:=by
 refine ab func291 ?_;refine af (FT p an) ?_;refine⟨λh1=>?_,λh1=>?_⟩
 .refine zac ?_
  refine af (FT t an) ?_;refine⟨λh2=>?_,λh2=>?_⟩
  .refine zac ?_
   refine⟨λh3=>?_,λh3=>?_⟩
   .refine zac ?_
    (exact⟨.inl V,_,.refl _,uN (by simp[yU,vC];simp at h3;intros;omega)⟩)
   .have h3:t.length<=p.length:=by simp at h3;omega
    refine dd ?_;refine⟨an,an,an,?_⟩;rw[s6,toNat_cast];refine dd ?_;refine⟨λh4=>?_,λh4=>?_⟩
    .refine dd ?_
     (exact⟨.inl V,_,.refl _,uN (by simp at h4;simp[yU,vC,h4])⟩)
    .have h4:p.take t.length=t:=by simpa using h4
     have hh:vC p t=true:=by simp[vC,h3,h4]
     refine dd ?_;cases t with
     |nil=>exact absurd h2 aj
     |cons c t'=>
     have w:IntKind.i64.wrap (((c::t').length:Int)-1)=(t'.length:Nat):=by simp only[r8] at *;rw[jF an an];omega
     refine⟨λh5=>?_,λh5=>?_⟩
     .refine zac ?_
      (exact⟨.inl V,_,.refl _,uN (by simp only[yU,h1,h2,hh];simp;left;left;simp at h5;omega)⟩)
     .have h5:(c::t').length<p.length:=by simp only[r8]at h3|-;simp at h5;omega
      refine dd ?_;rw[w];obtain⟨d,hd⟩:∃d,(c::t')[t'.length]?=some d:=⟨_,pq ah⟩;refine⟨an,d,by rw[toNat_cast];exact hd,?_⟩
      have es:AE (c::t') [47]=(d == 47):=by
       unfold AE
       have e:(c::t').drop ((c::t').length-[(47:UInt8)].length)=[d]:=by
        have:(c::t').length-[(47:UInt8)].length=t'.length:=ah
        rw[this,u7 ah];rw[pq ah]at hd;cases hd
        congr 1
        simp
       rw[e];simp
      refine dd ?_;rw[XN];refine⟨λh6=>?_,λh6=>?_⟩
      .refine zac ?_
       (exact⟨.inl V,_,.refl _,uN (by simp[yU,h1,h2,hh,es,h6])⟩)
      .refine dd ?_;obtain⟨x,hx⟩:∃x,p[(c::t').length]?=some x:=⟨_,pq h5⟩;refine⟨an,x,by rw[toNat_cast];exact hx,?_⟩;have ex:(p.drop (c::t').length)[0]?=some x:=by rw[rM];simpa using hx
       have en:¬p.drop (c::t').length=[]:=λh=>by rw[h]at ex;cases ex
       refine dd ?_;(repeat' (first|(refine⟨λ_=>?_,λ_=>?_⟩ <;> (conv=>whnf))|fail))
       all_goals (rename_i h7;(exact⟨.inl V,_,.refl _,uN (by simp only[yU,h1,h2,hh,es,h6,Mx ex,beq_eq_false_iff_ne.2 en];rw[h7];rfl)⟩))
  .refine zac ?_
   (exact⟨.inl V,_,.refl _,uN bB⟩)
 .refine zac ?_
  (exact⟨.inl V,_,.refl _,uN bB⟩)
def IX(p:fB)(hp:p.length<8000000000000):th 299 [] [Tx p] (I (qP p)) []:=by
 refine ab func299 ?_;refine af (wR p hp) ?_;refine⟨λh1=>?_,λh1=>?_⟩
 .refine zac ?_
  cases p with
  |nil=>rw[Ha]at h1;cases h1
  |cons c t=>
   refine⟨λh3=>?_,λh3=>?_⟩
   .have ew:qP (c::t)=0:=by simp at h3;obtain⟨rfl,rfl⟩:=h3;decide
    rw[ew];exact dB
   .refine dd ?_;refine⟨an,c,rfl,dd ?_⟩;rw[Ik];refine⟨λh5=>?_,λh5=>?_⟩
    .have hpp:=Vp h1 (ai h3) h5;have hl:2<=(c::t).length:=by simp[vC]at hpp;simp;omega
     have ew:qP (c::t)=(((c::t).length:Nat):Int)-2:=by unfold qP;rw[pD h1,pD hpp];omega
     have w:IntKind.i64.wrap (((c::t).length:Int)-2)=(((c::t).length:Nat):Int)-2:=jF an an;rw[ew];refine dd ?_;rw[w];exact uI
    .have hpp:vC (c::t) [42,46]=false:=by
      cases e:vC (c::t) [42,46] with
      |false=>rfl
      |true=>simp[vC]at e;rw[e.2.1]at h5;revert h5;decide
     have ew:qP (c::t)=100:=by
      unfold qP;rw[pD h1,pA (by simp[hpp]),pA (ai h3)]
     rw[ew];exact dB
 .have ew:qP p=0:=by simp_all[qP]
  rw[ew];refine zac ?_
  exact uI
def Pl(p q p' q':fB)(hp:p.length<8000000000000)(hq:p'.length<8000000000000):th 292 [] [Tx p,Tx q,Tx p',Tx q'] (Bo (vx p q p' q')) []:=by
 refine ab func292 ?_;refine af (IX p hp) ?_;refine af (IX p' hq) ?_;refine⟨λh1=>?_,λh1=>?_⟩
 .refine zac ?_
  (exact⟨.inl V,_,.refl _,uN (by simp at h1;simp[vx,h1];intros;omega)⟩)
 .refine dd ?_;refine⟨λh2=>?_,λh2=>?_⟩
  .refine dd ?_;(repeat' (first|(refine⟨λ_=>?_,λ_=>?_⟩ <;> (conv=>whnf))|fail))
   all_goals (rename_i h3;(exact⟨.inl V,_,.refl _,uN (by simp_all[vx])⟩))
  .refine dd ?_
   (exact⟨.inl V,_,.refl _,uN (by simp_all[vx])⟩)
end Go.Hos
namespace Go.Con
open Go.Ab Go.Proofs Tryz Go.Hy Go.Gat Go.Nam Go.Hos
variable{H:zq}{f:FuncId}{caps:List C}{l:List fV}
def Ca{α:Type}(l:List α)(p:α->Bool):decide ((match l.findIdx? p with|some i=>(i:Int)|none=> -1)≥0)=l.any p:=by
 cases h:l.findIdx? p with
 |none=>
  rw[pX]at h
  symm
  simp only[Int.reduceNeg,ge_iff_le,Int.reduceLE,decide_false];rw[rk];intro x hx;simp[h x hx]
 |some i=>
  obtain⟨h1,h2,_⟩:=pT.1 h
  symm
  have:(0:Int)<=(i:Int):=eZ i;simp only[ge_iff_le,this,decide_true];rw[rJ];exact⟨_,rj h1,h2⟩
abbrev Cc(c:fV):C:=.agg (jx c)
def RP(p:fV->Bool)(hcb:qv prog f=true)(hp:∀r∈l,th f H ([Cc r]++caps) (Bo (p r)) H)(hl:l.length<4611686018427387904):
  th 246 H [lC l,.fn f [] caps] (I (match l.findIdx? p with|some i=>(i:Int)|none=> -1)) H:=by
 refine zb.zX (fn:=f246) func246 V (uH ?_)
 refine zH.inv (λn t1 H1=>∃k,k+n=l.length/\H1=H/\(∀j,j<k->∀r,l[j]?=some r->p r=false)/\
   t1=((lC l)::.fn f [] caps::.za::.za::I 0::.za::.za::I (l.map jx).length::I k::mL ([.za,.za]))) l.length ?_ ?_
 .exact dS
 rintro n _ _ ⟨k,hk,rfl,hno,rfl⟩;conv=>whnf
 refine⟨λh=>?_,λh=>?_⟩
 .conv=>whnf
  have ft:k<l.length:=ai h
  refine⟨an,jx l[k],aB,uH ?_⟩;rw[hcb];refine⟨_,_,hp _ (rj ft),uH ?_⟩;refine⟨λh2=>?_,λh2=>?_⟩
  .conv=>whnf
   refine zbb ?_
   have:l.findIdx? p=some k:=by
    rw[pT];refine⟨ft,h2,λj hj=>?_⟩;simp[hno j hj _ (pq an)]
   rw[this]
   rfl
  .conv=>whnf
   refine .inl ⟨rfl,n-1,_,_,an,zl.mask [0,1,4,7,8] _ _,k+1,an,rfl,?_,?_⟩
   .intro j hj r hr;by_cases hjk:j=k
    .subst hjk;rw[pq ft]at hr;cases hr
     exact h2
    .exact hno j an r hr
   .rw[zk an];rfl
 .conv=>whnf
  refine zbb ?_
  have:l.findIdx? p=none:=by
   rw[pX];intro x hx;obtain⟨j,hj⟩:=pV.1 hx;have hjl:=(px.1 hj).1;have:¬k<l.length:=ai h
   exact hno j an x hj
  rw[this]
  rfl
def RS(p:fV->Bool)(hcb:qv prog f=true)(hp:∀r∈l,th f H ([Cc r]++caps) (Bo (p r)) H)(hl:l.length<4611686018427387904):
  th 201 H [lC l,.fn f [] caps] (Bo (l.any p)) H:=by
 refine zb.zX (fn:=f201) func201 V (uH ?_);refine⟨_,_,RP p hcb hp hl,dd ?_⟩;refine zbt ?_;refine⟨λh=>?_,λh=>?_⟩ <;> rw[h]
 .exact gk
 .exact gk
def Qr(s:fB)(c:fV):th 202 [⟨1,9,1,[[Tx s]],0⟩] [Cc c,.ref 0 [] 1 0 0] (Bo (c.name == s)) [⟨1,9,1,[[Tx s]],0⟩]:=by
 refine zb.zX (fn:=f202) func202 V (uH ?_);refine⟨λh=>?_,λh=>?_⟩ <;> rw[h]
 .conv=>whnf
  exact dU
 .conv=>whnf
  exact dU
def yr(l:List fV)(s:fB):Bool:=l.any λc=>c.name == s
def J0(l:List fV)(s:fB)(hl:l.length<4611686018427387904):th 159 [] [lC l,Tx s] (Bo (yr l s)) []:=by
 refine ab func159 ?_;refine⟨_,_,RS (λc=>c.name == s) ak (λr _=>Qr s r) hl,dd ?_⟩;refine⟨λh=>?_,λh=>?_⟩
 .refine dd ?_
  (exact⟨.inl V,_,.refl _,uN (by exact h.symm)⟩)
 .refine dd ?_
  (exact⟨.inl V,_,.refl _,uN (by exact h.symm)⟩)
def ye(n a b:Int):th 158 [] [I n,I a,I b] (Bo (decide (a<=n) && decide (n<=b))) []:=by
 refine ab func158 ?_;(repeat' (first|(refine⟨λ_=>?_,λ_=>?_⟩ <;> (conv=>whnf))|fail))
 all_goals (exact⟨.inl V,_,.refl _,uN (by simp_all <;> omega)⟩)
def jI(l:List fB)(s:fB):Int:=match l.findIdx? (λx=>x == s) with|some i=>(i:Int)|none=> -1
def S7(l:List fB)(s:fB)(hl:l.length<4611686018427387904):th 124 [] [lT l,Tx s] (I (jI l s)) []:=by
 have hlm:(l.map z7).length=l.length:=pz ..;refine ab func124 ?_;rw[hlm];refine zH.seq l.length (λk=>((lT l)::(Tx s)::.za::.za::I 0::.za::.za::I l.length::I k::mL ([.za,.za]))) (λk=>[]) (λk=>∀j,(h:j<l.length)->j<k->(l[j] == s)=false) ?_ ah (λk hk hr=>?_) (λhr=>?_)
 .exact cC
 .have hg:(l.map z7)[k]?=some (z7 l[k]):=by rw[pw,pq hk];rfl
  conv=>whnf
  refine zbW ?_;refine te hg ?_;refine⟨λh2=>?_,λh2=>?_⟩
  .refine zci ?_
   have e:jI l s=k:=by
    unfold jI
    have:l.findIdx? (λx=>x == s)=some k:=by
     rw[pT];refine⟨hk,?_,λj hj=>by simp only[hr j an hj];decide⟩;simp at h2;simp[h2]
    rw[this]
   exact gK
  .refine dd ?_;refine .inl ⟨rfl,?_,λj hj hjk=>?_⟩
   .exact dK
   .by_cases e:j=k
    .subst e;simp at h2|-;exactλh=>h2 h.symm
    .exact gE
 .conv=>whnf
  refine zaf ?_
  have e:jI l s= -1:=by
   unfold jI
   have:l.findIdx? (λx=>x == s)=none:=by
    rw[pX];intro x hx;obtain⟨j,hj,rfl⟩:=pU.1 hx;exact hr j hj hj
   rw[this]
  exact gK
def Lr(l:List fB)(s:fB):decide (jI l s≥0)=l.any (λx=>x == s):=Ca l _
def DY(l:List fB)(s:fB)(hl:l.length<4611686018427387904):th 67 [] [lT l,Tx s] (Bo (l.any λx=>x == s)) []:=by
 refine ab func67 ?_;refine af (S7 l s hl) ?_;rw[Lr];refine⟨λh=>?_,λh=>?_⟩
 .refine dd ?_
  (exact⟨.inl V,_,.refl _,uN (by exact h.symm)⟩)
 .refine dd ?_
  (exact⟨.inl V,_,.refl _,uN (by exact h.symm)⟩)
end Go.Con
