import Derived.Lib.Bytealg
import Derived.WalkKit
import Derived.IntWalk
import Derived.Test.YtamgiodaflkbhaaGreatTC
import Derived.Test.YtamgiodaflkbhaaGreatTJ
import Derived.Test.YtamgiodaflkbhaaGreatProg
set_option linter.all false
set_option maxRecDepth 100000
set_option maxHeartbeats 4000000
namespace Go.Gat
open Go.Ab Go.Proofs Tryz Go.Hy
def AS(n:Int):Bool:=decide (97<=n) && decide (n<=122)
def vc(n:Int):Bool:=AS n || (decide (48<=n) && decide (n<=57)) || (n == 45)
abbrev By(n:Int):C:=.v (.int .u8 n)
def Kv(n:Int):th 118 [] [By n] (Bo (AS n)) []:=by
 refine ab func118 ?_;(repeat' (first|(refine⟨λ_=>?_,λ_=>?_⟩ <;> (conv=>whnf))|fail))
 all_goals (exact⟨.inl V,_,.refl _,uN (by simp_all[AS] <;> (intros;omega))⟩)
def JS(n:Int):th 130 [] [By n] (Bo (AS n)) []:=by
 refine ab func130 ?_;(repeat' (first|(refine⟨λ_=>?_,λ_=>?_⟩ <;> (conv=>whnf))|fail))
 all_goals (exact⟨.inl V,_,.refl _,uN (by simp_all[AS] <;> (intros;omega))⟩)
def QI(n:Int):th 164 [] [By n] (Bo (vc n)) []:=by
 refine ab func164 ?_;refine af (Kv n) ?_;(repeat' (first|(refine⟨λ_=>?_,λ_=>?_⟩ <;> (conv=>whnf))|fail))
 all_goals (exact⟨.inl V,_,.refl _,uN (by simp_all[vc] <;> (intros;omega))⟩)
def IT(n:Int):th 131 [] [By n] (Bo (vc n)) []:=by
 refine ab func131 ?_;refine af (JS n) ?_;(repeat' (first|(refine⟨λ_=>?_,λ_=>?_⟩ <;> (conv=>whnf))|fail))
 all_goals (exact⟨.inl V,_,.refl _,uN (by simp_all[vc] <;> (intros;omega))⟩)
def JN:th 119 [] [] (.agg [.fn 164 [] []]) []:=by
 refine ab func119 ?_;exact uI
abbrev bI(c:UInt8):Int:=(c.toNat:Int)
def mS(p:Int->Bool)(s:eU)(other:Int):Bool:=s.all λc=>bI c == other || p (bI c)
def Ql{p:Int->Bool}{s:eU}{other:Int}{k:Nat}(hk:k<s.length)(h1:(bI s[k] == other)=false)(h2:p (bI s[k])=false):mS p s other=false:=by
 unfold mS;rw[rP];exact⟨s[k],pH hk,by simp[h1,h2]⟩
def Kb(s:eU)(other:Int)(hs:s.length<4611686018427387904):th 120 [] [.agg [.fn 164 [] []],Tx s,By other] (Bo (mS vc s other)) []:=by
 refine ab func120 ?_;refine zH.seq s.length (λk=>(.agg [.fn 164 [] []]::(Tx s)::(By other)::.ref 0 [] 1 0 0::.za::.za::Bo false::.za::.za::I s.length::I k::mK (mK ([.za])))) (λk=>[⟨1,192,1,[[.fn 164 [] []]],0⟩]) (λk=>∀j,(h:j<s.length)->j<k->(bI s[j] == other || vc (bI s[j]))=true) ?_ ah (λk hk hr=>?_) (λhr=>?_)
 .exact cC
 .conv=>whnf
  refine⟨λh=>uH ?_,λh=>absurd h ar⟩;refine uE ?_;refine⟨an,s[k],by simp[hk],uH ?_⟩;refine⟨λh1=>?_,λh1=>?_⟩
  .refine dd ?_;refine⟨an,s[k],by simp[hk],dd ?_⟩;refine af (QI (bI s[k])) ?_;refine⟨λh2=>?_,λh2=>?_⟩
   .refine dd ?_;refine .inl ⟨rfl,?_,?_⟩
    .exact dz
    .intro j hj hjk;by_cases e:j=k
     .subst e;simp[h2]
     .exact dP
   .refine zca ?_
    (exact⟨.inl V,_,.refl _,uN (by exact(Ql hk uZ h2).symm)⟩)
  .refine dd ?_;refine .inl ⟨rfl,?_,?_⟩
   .exact dz
   .intro j hj hjk;by_cases e:j=k
    .subst e;simp at h1;simp[h1]
    .exact dP
 .conv=>whnf
  refine⟨λh=>absurd h ah,λh=>uH ?_⟩;refine zbD ?_
  have e:mS vc s other=true:=by
   unfold mS;rw[gV];intro x hx;obtain⟨j,hj,rfl⟩:=pz.1 hx;exact hr j hj hj
  exact⟨.inl V,_,.refl _,by rw[e];rfl⟩
def jO(s:eU):Bool:=decide (0<s.length) && decide (s.length<=16) && (match s with|c::_=>AS (bI c)|[]=>false) && s.all λc=>vc (bI c)
def SQ(s:eU):mS vc s 45=s.all λc=>vc (bI c):=by
 unfold mS
 congr 1
 funext c
 cases h:(bI c == 45) with
 |false=>rfl
 |true=>simp at h;simp[vc,h]
def yw(s:eU)(hs:s.length<4611686018427387904):th 64 [] [Tx s] (Bo (jO s)) []:=by
 refine zb.zj (fn:=f64) func64 V ?_;cases s with
 |nil=>
  conv=>whnf
  refine td ?_
  exact uI
 |cons c s=>
  conv=>whnf
  refine⟨λ_=>uH ?_,λh=>absurd h (by simp <;> omega)⟩;refine⟨λh1=>?_,λh1=>?_⟩
  .conv=>whnf
   refine⟨an,c,rfl,uH ?_⟩;refine af (Kv (bI c)) ?_;refine⟨λh2=>?_,λh2=>?_⟩
   .conv=>whnf
    refine af JN ?_;refine af (Kb (c::s) 45 hs) ?_;have h1':s.length<=15:=bj
    have e:jO (c::s)=mS vc (c::s) 45:=by rw[SQ];unfold jO;simp[h2];omega
    refine⟨λh3=>?_,λh3=>?_⟩
    all_goals ((conv=>whnf);(exact⟨.inl V,_,.refl _,uN (by rw[e,h3])⟩))
   .conv=>whnf
    (exact⟨.inl V,_,.refl _,uN (by simp[jO,h2])⟩)
  .conv=>whnf
   (exact⟨.inl V,_,.refl _,uN (by simp[jO];simp at h1;omega)⟩)
def wX(s:eU)(hs:s.length<4611686018427387904):th 72 [] [Tx s] (Bo (jO s)) []:=by
 refine zb.zj (fn:=f72) func72 V ?_;cases s with
 |nil=>
  conv=>whnf
  refine td ?_
  exact uI
 |cons c s=>
  conv=>whnf
  refine⟨λh=>absurd h (by simp <;> omega),λ_=>uH ?_⟩;refine⟨λh1=>?_,λh1=>?_⟩
  .conv=>whnf
   (exact⟨.inl V,_,.refl _,uN (by simp[jO];simp at h1;omega)⟩)
  .conv=>whnf
   refine⟨an,c,rfl,uH ?_⟩;refine af (JS (bI c)) ?_;refine⟨λh2=>?_,λh2=>?_⟩
   .conv=>whnf
    have h1':s.length<=15:=bj
    have e:jO (c::s)=(c::s).all λc=>vc (bI c):=by unfold jO;simp[h2];omega
    rw[e]
    clear e h2 h1
    refine zH.seq (c::s).length (λk=>((Tx (c::s))::.za::Bo false::I k::mK (mK (mK ([.za]))))) (λk=>[]) (λk=>∀j,(h:j<(c::s).length)->j<k->vc (bI (c::s)[j])=true) ?_ ah (λk hk hr=>?_) (λhr=>?_)
    .exact cC
    .conv=>whnf
     refine⟨λh=>uH ?_,λh=>absurd h (by simp at hk|-;omega)⟩;refine⟨an,(c::s)[k],by rw[toNat_cast,gL hk],?_⟩;conv=>whnf
     refine af (IT (bI (c::s)[k])) ?_;refine⟨λh2=>?_,λh2=>?_⟩
     .conv=>whnf
      refine .inl ⟨rfl,?_,?_⟩
      .exact dm
      .intro j hj hjk;by_cases e:j=k
       .subst e;exact h2
       .exact dP
     .conv=>whnf
      refine zaN ?_
      (exact⟨.inl V,_,.refl _,uN (by symm;rw[rP];exact⟨_,pH hk,bd⟩)⟩)
    .conv=>whnf
     refine⟨λh=>absurd h ah,λh=>uH ?_⟩;refine zbD ?_
     (exact⟨.inl V,_,.refl _,uN (by symm;rw[gV];intro x hx;obtain⟨j,hj,rfl⟩:=pz.1 hx;exact hr j hj hj)⟩)
   .conv=>whnf
    (exact⟨.inl V,_,.refl _,uN (by simp[jO,h2])⟩)
end Go.Gat
namespace Go.Nam
open Go.Ab Go.Proofs Tryz Go.Hy Go.Gat Go.RowKit
variable{b:UInt8}{s:eU}
def y7(b:UInt8)(s:eU):eU:=s.takeWhile (· != b)
def oo(b:UInt8)(s:eU):eU:=(s.dropWhile (· != b)).drop 1
def jo(b:UInt8):eU->List eU
 |[]=>[[]]
 |c::s=>if c == b then []::jo b s else match jo b s with
  |p::ps=>(c::p)::ps
  |[]=>[[c]]
def F5(b:UInt8)(s:eU):jo b s≠[]:=by
 cases s with
 |nil=>simp[jo]
 |cons c s=>unfold jo;split;simp;split <;> simp
def Ch{b:UInt8}:∀{s:eU},b∉s->jo b s=[s]
 |[],_=>rfl
 |c::s,h=>by
  have h1:(c == b)=false:=bm
  have h2:=Ch (s:=s) λe=>h (rE _ e)
  simp[jo,h1,h2]
def Ci{b:UInt8}:∀{s:eU},b∈s->jo b s=y7 b s::jo b (oo b s)
 |[],h=>by simp at h
 |c::s,h=>by
  by_cases e:c=b
  .subst e;simp[jo,y7,oo]
  .have h1:(c == b)=false:=by simpa using e
   have h2:=Ci (s:=s) bn;have h3:(c != b)=true:=ai e
   simp only[jo,h1,sJ,if_false,h2,y7,oo,tz,List.dropWhile_cons,h3,if_true]
def KQ{b:UInt8}:∀{s:eU},b∉s->Lib.indexByte s b= -1
 |[],_=>rfl
 |c::s,h=>by
  have h1:(c == b)=false:=bm
  have h2:=KQ (s:=s) λe=>h (rE _ e)
  simp[Lib.indexByte,h1,h2]
def FQ{b:UInt8}:∀{s:eU},b∈s->Lib.indexByte s b=((y7 b s).length:Int)
 |[],h=>by simp at h
 |c::s,h=>by
  by_cases e:c=b
  .subst e;simp[Lib.indexByte,y7]
  .have h1:(c == b)=false:=by simpa using e
   have h3:(c != b)=true:=ai e
   have h2:=FQ (s:=s) bn;have h4:((y7 b s).length == (-1:Int))=false:=by rw[beq_eq_false_iff_ne];omega
   simp only[Lib.indexByte,h1,sJ,if_false,h2,y7,tz,h3,if_true,rK];rw[show((↑(List.takeWhile (λx=>x != b) s).length:Int) == -1)=false from h4];simp
def head_take(b:UInt8)(s:eU):s.take (y7 b s).length=y7 b s:=by
 induction s with
 |nil=>rfl
 |cons c s ih=>
  by_cases e:c=b
  .subst e;simp[y7]
  .have h3:(c != b)=true:=by simpa using e
   simp only[y7,tz,h3,if_true,rK,List.take_succ_cons];rw[show List.take (List.takeWhile (λx=>x != b) s).length s=y7 b s from ih];rfl
def tail_drop(b:UInt8)(s:eU):s.drop ((y7 b s).length+1)=oo b s:=by
 induction s with
 |nil=>rfl
 |cons c s ih=>
  by_cases e:c=b
  .subst e;simp[y7,oo]
  .have h3:(c != b)=true:=by simpa using e
   simp only[y7,oo,tz,List.dropWhile_cons,h3,if_true,rK,List.drop_succ_cons];exact ih
def Ga(h:b∈s):(y7 b s).length<s.length:=by
 have h1:=tail_drop b s;have h2:s.length≠0:=by intro e;rw[rZ.1 e]at h;simp at h
 have h3:(y7 b s).length<=s.length:=List.Sublist.length_le (List.takeWhile_sublist _);rcases sP (y7 b s).length s.length with h4|h4
 .exact h4
 .have h5:=head_take b s;rw[rO h4]at h5;have:b∈y7 b s:=by rw[<-h5];exact h
  have:=List.all_takeWhile (l:=s) (p:=(· != b));rw[gV]at this;have:=this b (by assumption);simp at this
def xK(b:UInt8)(s:eU):Nat->eU
 |0=>s
 |k+1=>oo b (xK b s k)
def CN{b:UInt8}:∀{k:Nat} {s:eU},k+1<(jo b s).length->b∈xK b s k/\(jo b s)[k]?=some (y7 b (xK b s k))/\jo b (xK b s (k+1))=(jo b s).drop (k+1)
 |0,s,h=>by
  have hb:b∈s:=by
   rcases Classical.em (b∈s) with h1|h1
   .exact h1
   .rw[Ch h1]at h;simp at h
  exact⟨hb,by rw[Ci hb];rfl,by rw[Ci hb];rfl⟩
 |k+1,s,h=>by
  obtain⟨h1,h2,h3⟩:=CN (b:=b) (k:=k) (s:=s) an
  have hb:b∈xK b s (k+1):=by
   rcases Classical.em (b∈xK b s (k+1)) with h4|h4
   .exact h4
   .rw[Ch h4]at h3;have:=r6 List.length h3;exact dt
  have h5:=Ci hb;rw[h3]at h5;refine⟨hb,?_,?_⟩
  .have:=r6 (λl=>l[0]?) h5;simpa using this
  .have:=r6 (λl=>l.drop 1) h5;simp at this;show jo b (oo b (xK b s (k+1)))=_;rw[<-this]
def K0{k:Nat}(h:k+1=(jo b s).length):b∉xK b s k/\(jo b s)[k]?=some (xK b s k):=by
 have h3:jo b (xK b s k)=(jo b s).drop k:=by
  cases k with
  |zero=>rfl
  |succ k=>exact(CN (b:=b) (s:=s) (k:=k) an).2.2
 have h4:b∉xK b s k:=by
  intro hb;rw[Ci hb]at h3;have:=r6 List.length h3
  have h5:(jo b (oo b (xK b s k))).length≠0:=by
   intro e;exact F5 b _ (rZ.1 e)
  exact dt
 refine⟨h4,?_⟩;rw[Ch h4]at h3;have:=r6 (λl=>l[0]?) h3;simpa using this.symm
def CG(b:UInt8)(s:eU):∀k,(xK b s k).length<=s.length
 |0=>pj _
 |k+1=>by
  have h1:((xK b s k).dropWhile (· != b)).length<=(xK b s k).length:=List.Sublist.length_le (List.dropWhile_sublist _);have:=CG b s k;simp only[xK,oo,List.length_drop];omega
def Tk(s:ByteArray)(c:Int)(w:World):Calls prog 293 #[.string s,.int .u8 c] w λe w'=>e=.returned (.int .i64 (Lib.indexByte s.data.toList c.toNat.toUInt8))/\w'=w:=by
 go_enter func293,Tryz.ntmps293
 go_wp2
 rw[run_callFunc_extern func300 ak ak ak (e:=Extern.BytealgIndexByte.indexByte) ak,Lib.run_indexByteString];simp only[Result.andThen];rw[Oper.upon_value]
 go_wp2
 go_ret
 exact gd
def Rs(s:eU)(b:UInt8):th 293 [] [Tx s,By (bI b)] (I (Lib.indexByte s b)) []:=by
 have e:(bI b).toNat.toUInt8=b:=by simp[bI]
 refine Bi [] (λw=>?_) Em λE=>.v _ V
 have:=Tk ⟨⟨s⟩⟩ (bI b) w;rw[e]at this;exact dW
def Co(s:eU)(b:UInt8):th 278 [] [Tx s,By (bI b)] (I (Lib.indexByte s b)) []:=by
 refine ab func278 ?_;refine af (Rs s b) ?_;exact uI
end Go.Nam
namespace Go.Nam
open Go.Ab Go.Proofs Tryz Go.Hy Go.Gat
variable{s:eU}
def P7(X:Ob)(s:eU)(b:UInt8):th 248 [X] [Tx s,By (bI b)] (.fn 277 [] [.ref 1 [] 1 0 0,.ref 2 [] 1 0 0]) [X,⟨1,9,1,[[Tx s]],0⟩,⟨1,5,1,[[By (bI b)]],0⟩]:=by
 refine zb.zZ (fn:=f248) func248 V (uH ?_);exact uJ
def IA(l:Nat)(s:eU)(b:UInt8)(hs:s.length<4611686018427387904)(X:Nat->Ob)(Y:Nat->List Ob)(j:Nat)(g:Bool)(hj:j<(jo b s).length)(hend:g=false\/j+1=(jo b s).length)
 (hy:∀k p,k<j->(jo b s)[k]?=some p->jn prog l (X k::⟨1,9,1,[[Tx (xK b s k)]],0⟩::⟨1,5,1,[[By (bI b)]],0⟩::Y k) [Tx p] (Bo true) (X (k+1)::⟨1,9,1,[[Tx (xK b s k)]],0⟩::⟨1,5,1,[[By (bI b)]],0⟩::Y (k+1)))
 (hz:∀p,(jo b s)[j]?=some p->jn prog l (X j::⟨1,9,1,[[Tx (xK b s j)]],0⟩::⟨1,5,1,[[By (bI b)]],0⟩::Y j) [Tx p] (Bo g) (X (j+1)::⟨1,9,1,[[Tx (xK b s j)]],0⟩::⟨1,5,1,[[By (bI b)]],0⟩::Y (j+1))):
  th 277 (X 0::⟨1,9,1,[[Tx (xK b s 0)]],0⟩::⟨1,5,1,[[By (bI b)]],0⟩::Y 0) [.v (.func (.yield l) #[] #[]),.ref 1 [] 1 0 0,.ref 2 [] 1 0 0] (.eR []) (X (j+1)::⟨1,9,1,[[Tx (xK b s j)]],0⟩::⟨1,5,1,[[By (bI b)]],0⟩::Y (j+1)):=by
 refine zb.zZ (fn:=f277) func277 V (uH ?_);refine zH.seq j (λk=>(.v (.func (.yield l) #[] #[])::.ref 1 [] 1 0 0::.ref 2 [] 1 0 0::mK (mK ([.za,.za,.za,.za])))) (λk=>X k::⟨1,9,1,[[Tx (xK b s k)]],0⟩::⟨1,5,1,[[By (bI b)]],0⟩::Y k) (λ_=>True) ?_ trivial (λk hk _=>?_) (λ_=>?_)
 .exact cC
 .obtain⟨h1,h2,h3⟩:=CN (b:=b) (s:=s) (k:=k) an;have h4:=CG b s k;have h5:=Ga h1;conv=>whnf
  refine⟨_,_,(Co (xK b s k) b).frame V _,?_⟩;rw[FQ h1];conv=>whnf
  refine⟨λh=>absurd h ah,λ_=>dd ?_⟩;refine⟨an,an,ar,?_⟩;rw[toNat_cast,sH,head_take];conv=>whnf
  refine⟨_,_,hy k _ hk h2,dd ?_⟩;refine td ?_
  rw[zm an,toNat_cast];refine⟨an,uH ?_⟩;refine⟨an,an,?_⟩;rw[px,tail_drop];conv=>whnf
  exact .inl ⟨rfl,cC,trivial⟩
 .have h4:=CG b s j;by_cases hl:j+1=(jo b s).length
  .obtain⟨h1,h2⟩:=K0 hl;conv=>whnf
   refine⟨_,_,(Co (xK b s j) b).frame V _,?_⟩;rw[KQ h1];conv=>whnf
   refine zcb ?_;refine⟨_,_,hz _ h2,uH ?_⟩;refine⟨λ_=>?_,λ_=>?_⟩ <;>
   .conv=>whnf
    exact⟨ah,.inl V,_,.refl _,rfl,rfl⟩
  .obtain⟨h1,h2,h3⟩:=CN (b:=b) (s:=s) (k:=j) an;have h5:=Ga h1;have hg:g=false:=by rcases hend with h|h;exact h;exact absurd h hl
   subst hg;conv=>whnf
   refine⟨_,_,(Co (xK b s j) b).frame V _,?_⟩;rw[FQ h1];conv=>whnf
   refine⟨λh=>absurd h ah,λ_=>dd ?_⟩;refine⟨an,an,ar,?_⟩;rw[toNat_cast,sH,head_take];conv=>whnf
   refine⟨_,_,hz _ h2,dd ?_⟩;refine td ?_
   exact⟨ah,.inl V,_,.refl _,rfl,rfl⟩
def wS(s:eU):Bool:=decide (s.length<=32) && (jo 46 s).all jO
def LC(b:UInt8):∀s:eU,(jo b s).length<=s.length+1
 |[]=>by simp[jo]
 |c::s=>by
  have:=LC b s;unfold jo;split
  .simp;omega
  .split
   .rename_i h;rw[h]at this;simp at this|-;omega
   .simp
def Lp(b:UInt8)(s:eU)(k:Nat)(p:eU)(h:(jo b s)[k]?=some p):p.length<=s.length:=by
 have hk:=(gN.1 h).1;by_cases hl:k+1=(jo b s).length
 .obtain⟨h1,h2⟩:=K0 hl;rw[h2]at h;cases h;exact CG b s k
 .obtain⟨h1,h2,h3⟩:=CN (b:=b) (s:=s) (k:=k) an;rw[h2]at h;cases h
  have:=Ga h1;have:=CG b s k;omega
def Fk(s:eU)(hs:s.length<4611686018427387904):th 204 [] [Tx s] (Bo (wS s)) []:=by
 refine ab func204 ?_;refine⟨λh=>?_,λh=>?_⟩
 .refine dd ?_
  (exact⟨.inl V,_,.refl _,uN (by simp[wS];simp at h;omega)⟩)
 .refine dd ?_;refine⟨_,_,P7 _ s 46,uH ?_⟩;have hn:=F5 46 s
  have hlen:0<(jo 46 s).length:=by
   rcases sW (jo 46 s).length with e|e
   .exact absurd (rZ.1 e) hn
   .exact e
  have hple:∀(k:Nat) (p:eU),(jo 46 s)[k]?=some p->p.length<4611686018427387904:=λk p hp=>by have:=Lp 46 s k p hp;omega
  refine⟨_,.refl _,?_⟩;by_cases qc:(jo 46 s).all jO=true
  .have hname:∀(k:Nat) p,(jo 46 s)[k]?=some p->jO p=true:=λk p hp=>gV.1 qc p (gT hp)
   refine⟨.normal,_,[⟨1,4,1,[[Bo false]],0⟩],λl r h1 h2 h3 h4 h5=>⟨_,_,r,IA l s 46 hs (λ_=>⟨1,4,1,[[Bo false]],0⟩) (λ_=>[fQ l r _]) ((jo 46 s).length-1) true an (.inr an) (λk p hk hp=>?_) (λp hp=>?_),
    rfl,aE,rfl,pC _,aF,zk.low 1 _ _ V V V⟩,?_⟩
   .refine jn.zZ (id:=3) V h1 h2 h3 h4 h5 V V V ?_;conv=>whnf
    exact zbS
   .refine jn.zZ (id:=3) V h1 h2 h3 h4 h5 V V V ?_;conv=>whnf
    exact zbS
   .conv=>whnf
    (exact⟨.inl V,_,.refl _,uN (by simp[wS,qc];simp at h;omega)⟩)
  .obtain⟨j,hj⟩:∃j,(jo 46 s).findIdx? (λp=>!jO p)=some j:=by
    cases e:(jo 46 s).findIdx? (λp=>!jO p) with
    |some j=>exact⟨j,rfl⟩
    |none=>
     exfalso
     rw[pD]at e;exact qc (gV.2 λx hx=>by simpa using e x hx)
   rw[pB]at hj;obtain⟨hjl,hj1,hj2⟩:=hj;have qc:(jo 46 s).all jO=false:=ai qc
   refine⟨.ret,_,[⟨1,4,1,[[Bo false]],0⟩],λl r h1 h2 h3 h4 h5=>⟨_,_,left r .ret,IA l s 46 hs (λ_=>⟨1,4,1,[[Bo false]],0⟩) (λk=>[fQ l (if k<j+1 then r else left r .ret) _]) j false hjl (.inl rfl) (λk p hk hp=>?_) (λp hp=>?_),
    r6 (λx=>some (fQ l x _)) (gP (Nat.lt_irrefl (j+1))),ah,rfl,pC _,trivial,zk.low 1 _ _ V V V⟩,?_⟩
   .have e1:k<j+1:=by omega
    have e2:k+1<j+1:=an
    simp only[gS e1,gS e2];refine jn.zZ (id:=3) V h1 h2 h3 h4 h5 V V V (uH ?_);refine⟨rfl,rfl,uH ?_⟩;refine af (yw p (hple _ _ hp)) ?_
    have hname:jO p=true:=by
     have h6:=hj2 k hk;rw[gL an]at hp;cases hp
     simpa using h6
    refine⟨λ_=>dd ?_,λh=>absurd ((hname).symm.trans h:true=false) aj⟩;exact dw
   .simp only[gS (Nat.lt_succ_self j),gP (Nat.lt_irrefl (j+1))];refine jn.zZ (id:=3) V h1 h2 h3 h4 h5 V V V (uH ?_);refine⟨rfl,rfl,uH ?_⟩;refine af (yw p (hple _ _ hp)) ?_
    have hname:jO p=false:=by
     rw[gL hjl]at hp;cases hp
     simpa using hj1
    refine⟨λh=>absurd ((hname).symm.trans h:false=true) aj,λ_=>dd ?_⟩;exact⟨_,_,.refl _,rfl,.inr ⟨rfl,.inl ⟨rfl,rfl⟩⟩⟩
   .conv=>whnf
    (exact⟨.inl V,_,.refl _,uN (by simp[wS,qc])⟩)
abbrev pk(b:UInt8)(s:eU)(k:Nat):List (List C):=((jo b s).take k).map qe
def vj(s p:eU):Bool:=decide (p.length<=s.length) && (s.take p.length == p)
def Nz(s p:eU):th 276 [] [Tx s,Tx p] (Bo (vj s p)) []:=by
 refine ab func276 ?_;refine⟨λh=>?_,λh=>?_⟩
 .refine dd ?_;refine⟨an,an,by simp at h;omega,?_⟩;rw[toNat_cast,sH];conv=>whnf
  (repeat' (first|(refine⟨λ_=>?_,λ_=>?_⟩ <;> (conv=>whnf))|fail))
  all_goals (exact⟨.inl V,_,.refl _,uN (by simp_all[vj])⟩)
 .conv=>whnf
  (exact⟨.inl V,_,.refl _,uN (by simp_all[vj];intros;omega)⟩)
abbrev HU(r:eU×Bool):C:=.eR [Tx r.1,Bo r.2]
def wi(s p:eU):eU×Bool:=if vj s p then (s.drop p.length,true) else (s,false)
def Oa(s p:eU):th 247 [] [Tx s,Tx p] (HU (wi s p)) []:=by
 refine ab func247 ?_;refine af (Nz s p) ?_;refine⟨λh=>?_,λh=>?_⟩
 .refine dd ?_;have h':p.length<=s.length:=by simp[vj]at h;exact h.1
  refine⟨an,an,an,?_⟩;rw[px,toNat_cast];conv=>whnf
  have e:wi s p=(s.drop p.length,true):=by unfold wi;rw[gS h]
  exact dY
 .conv=>whnf
  have e:wi s p=(s,false):=by unfold wi;rw[gP aA]
  exact dY
def kI(s p:eU):th 203 [] [Tx s,Tx p] (HU (wi s p)) []:=by
 refine ab func203 ?_;refine af (Oa s p) ?_;(repeat' (first|(refine⟨λ_=>?_,λ_=>?_⟩ <;> (conv=>whnf))|fail))
 all_goals
  rename_i h;exact⟨.inl V,_,.refl _,r6 (λb=>some (C.eR [Tx (wi s p).1,Bo b])) h.symm⟩
def iN(s:eU):Bool:=if vj s [42,46] then wS (s.drop 2) else s == [42] || wS s
def EZ(s:eU)(hs:s.length<4611686018427387904):th 160 [] [Tx s] (Bo (iN s)) []:=by
 refine ab func160 ?_;refine af (kI s [42,46]) ?_;refine⟨λh=>?_,λh=>?_⟩
 .have h1:vj s [42,46]=true:=by
   cases e:vj s [42,46] with
   |true=>rfl
   |false=>simp[wi,e]at h
  have e:wi s [42,46]=(s.drop 2,true):=by unfold wi;rw[gS h1];rfl
  rw[e];refine dd ?_;refine af (Fk (s.drop 2) ar) ?_;(repeat' (first|(refine⟨λ_=>?_,λ_=>?_⟩ <;> (conv=>whnf))|fail))
  all_goals (exact⟨.inl V,_,.refl _,uN (by simp_all[iN])⟩)
 .have h1:vj s [42,46]=false:=by
   cases e:vj s [42,46] with
   |false=>rfl
   |true=>simp[wi,e]at h
  have e:wi s [42,46]=(s,false):=by unfold wi;rw[gP aG]
  rw[e];refine dd ?_;refine⟨λh2=>?_,λh2=>?_⟩
  .refine dd ?_
   (exact⟨.inl V,_,.refl _,uN (by simp_all[iN])⟩)
  .refine dd ?_;refine af (Fk s hs) ?_;(repeat' (first|(refine⟨λ_=>?_,λ_=>?_⟩ <;> (conv=>whnf))|fail))
   all_goals (exact⟨.inl V,_,.refl _,uN (by simp_all[iN])⟩)
def kE(s:eU):Bool:=decide (0<s.length) && decide (s.length<=32) && (match s with|c::_=>bI c == 47|[]=>false) && mS vc s 47
def Ft(s:eU)(hs:s.length<4611686018427387904):th 161 [] [Tx s] (Bo (kE s)) []:=by
 refine zb.zj (fn:=f161) func161 V ?_;cases s with
 |nil=>
  conv=>whnf
  refine td ?_
  exact uI
 |cons c s=>
  conv=>whnf
  refine⟨λ_=>uH ?_,λh=>absurd h (by simp <;> omega)⟩;refine⟨λh1=>?_,λh1=>?_⟩
  .conv=>whnf
   refine⟨an,c,rfl,uH ?_⟩;refine⟨λh2=>?_,λh2=>?_⟩
   .conv=>whnf
    refine af JN ?_;refine af (Kb (c::s) 47 hs) ?_;have h1':s.length<=31:=bj
    have e:kE (c::s)=mS vc (c::s) 47:=by unfold kE;simp[h2];omega
    refine⟨λh3=>?_,λh3=>?_⟩
    all_goals ((conv=>whnf);(exact⟨.inl V,_,.refl _,uN (by rw[e,h3])⟩))
   .conv=>whnf
    (exact⟨.inl V,_,.refl _,uN (by simp[kE,h2])⟩)
  .conv=>whnf
   (exact⟨.inl V,_,.refl _,uN (by simp[kE];simp at h1;omega)⟩)
def E6(s:eU)(hs:s.length<4611686018427387904):th 166 [] [Tx s] (Bo (kE s)) []:=by
 refine zb.zj (fn:=f166) func166 V ?_;cases s with
 |nil=>
  conv=>whnf
  refine td ?_
  exact uI
 |cons c s=>
  conv=>whnf
  refine⟨λh=>absurd h (by simp <;> omega),λ_=>uH ?_⟩;refine⟨λh1=>?_,λh1=>?_⟩
  .conv=>whnf
   (exact⟨.inl V,_,.refl _,uN (by simp[kE];simp at h1;omega)⟩)
  .conv=>whnf
   refine⟨an,c,rfl,uH ?_⟩;refine⟨λh2=>?_,λh2=>?_⟩
   .conv=>whnf
    (exact⟨.inl V,_,.refl _,uN (by simp[kE];simp at h2;simp[h2])⟩)
   .conv=>whnf
    have h1':s.length<=31:=bj
    have e:kE (c::s)=mS vc (c::s) 47:=by unfold kE;simp at h2;simp[h2];omega
    rw[e]
    clear e h2 h1
    refine zH.seq (c::s).length (λk=>((Tx (c::s))::.za::Bo false::I k::mK (mK (mK ([.za,.za,.za,.za,.za,.za]))))) (λk=>[]) (λk=>∀j,(h:j<(c::s).length)->j<k->(bI (c::s)[j] == 47 || vc (bI (c::s)[j]))=true) ?_ ah (λk hk hr=>?_) (λhr=>?_)
    .exact cC
    .have nx:((bI (c::s)[k] == 47 || vc (bI (c::s)[k]))=true)->∀j,(h:j<(c::s).length)->j<k+1->(bI (c::s)[j] == 47 || vc (bI (c::s)[j]))=true:=λh2 j hj hjk=>by
      by_cases e:j=k
      .subst e;exact h2
      .exact dP
     conv=>whnf
     refine⟨λh=>uH ?_,λh=>absurd h (by simp at hk|-;omega)⟩;refine⟨an,(c::s)[k],by rw[toNat_cast,gL hk],?_⟩;conv=>whnf
     refine af (IT (bI (c::s)[k])) ?_;refine⟨λh2=>?_,λh2=>?_⟩
     .conv=>whnf
      refine .inl ⟨rfl,?_,nx bd⟩;exact dm
     .conv=>whnf
      refine⟨an,(c::s)[k],by rw[toNat_cast,gL hk],?_⟩;conv=>whnf
      refine⟨λh3=>?_,λh3=>?_⟩
      .conv=>whnf
       refine zaN ?_
       (exact⟨.inl V,_,.refl _,uN (by symm;unfold mS;rw[rP];exact⟨_,pH hk,by simp at h3;simp[h2,h3]⟩)⟩)
      .conv=>whnf
       refine .inl ⟨rfl,?_,nx (by simp at h3;simp[h3])⟩;exact dm
    .conv=>whnf
     refine⟨λh=>absurd h ah,λh=>uH ?_⟩;refine zbD ?_
     (exact⟨.inl V,_,.refl _,uN (by symm;unfold mS;rw[gV];intro x hx;obtain⟨j,hj,rfl⟩:=pz.1 hx;exact hr j hj hj)⟩)
def KZ{b:UInt8}{q:eU}:∀{p:eU},b∉p->jo b (p++b::q)=p::jo b q
 |[],_=>by simp[jo]
 |c::p,h=>by
  have h1:(c == b)=false:=bm
  have h2:=KZ (p:=p) (q:=q) λe=>h (rE _ e)
  simp[jo,h1,h2]
def wI(b:UInt8)(s:eU):Nat->List eU×Nat
 |0=>([],0)
 |k+1=>match s[k]? with
  |some c=>if c == b then ((wI b s k).1++[(s.take k).drop (wI b s k).2],k+1) else wI b s k
  |none=>wI b s k
def Gs(b:UInt8)(s:eU):∀k,k<=s.length->(wI b s k).2<=k/\(wI b s k).1.length<=k/\b∉(s.take k).drop (wI b s k).2/\jo b s=(wI b s k).1++jo b (s.drop (wI b s k).2)
 |0,_=>⟨pj _,pj _,ah,rfl⟩
 |k+1,hk=>by
  obtain⟨h1,h4,h2,h3⟩:=Gs b s k an;have hg:s[k]?=some s[k]:=gL an;have ht:s.take (k+1)=s.take k++[s[k]]:=by rw[sN,hg];rfl
  unfold wI;rw[hg];dsimp only;by_cases e:s[k]=b
  .rw[gS (ai e)];refine⟨pj _,ar,ah,?_⟩;rw[h3];have h5:s.take k++b::s.drop (k+1)=s:=by rw[<-e,<-uc,sZ]
   have this:∀a,a<=k->s.drop a=(s.take k).drop a++b::s.drop (k+1):=λa ha=>by
    have h6:=r6 (List.drop a) h5;rw[u5 ar]at h6;exact h6.symm
   rw[this _ h1,KZ h2];simp
  .rw[gP (ai e)];refine⟨an,an,?_,h3⟩;rw[ht,u5 ar];simp only[pw,pX,not_or];exact⟨h2,λe2=>e e2.symm⟩
def Pl(s:eU)(b:UInt8)(hs:s.length<8000000000000):th 249 [] [Tx s,By (bI b)] (lT (jo b s)) []:=by
 refine ab func249 ?_;refine zH.seq s.length (λk=>((Tx s)::(By (bI b))::.za::.za::.eM 1 0 []::.gl 0 1 ((wI b s k).1.map qe)::I (wI b s k).2::I k::mK (mK (mK ([.za,.za,.za]))))) (λk=>[⟨4,9,1,(wI b s k).1.map qe,0⟩]) (λ_=>True) ?_ trivial (λk hk _=>?_) (λ_=>?_)
 .exact(zk.grow 5 9 1 V (.inl V)).trans (cC)
 .obtain⟨h1,h2,_,_⟩:=Gs b s k an;have hg:s[k]?=some s[k]:=gL hk;conv=>whnf
  refine⟨λh=>uH ?_,λh=>absurd h ar⟩;refine⟨an,s[k],by rw[toNat_cast,hg],uH ?_⟩;refine⟨λh3=>?_,λh3=>?_⟩
  .have e:wI b s (k+1)=((wI b s k).1++[(s.take k).drop (wI b s k).2],k+1):=by
    show(match s[k]? with|some c=>_|none=>_)=_;rw[hg];dsimp only;rw[gS (by have h6:s[k]=b:=UInt8.toNat_inj.1 (by simp[bI]at h3;omega);simp[h6])]
   conv=>whnf
   refine⟨an,an,an,an,?_⟩;rw[toNat_cast,toNat_cast];conv=>whnf
   refine⟨rfl,.inr V,aq,by show _*16<=_;simp;omega,uH ?_⟩;refine zai ?_;rw[zm an,e];dsimp only;rw[pZ];exact cE 1
  .have e:wI b s (k+1)=wI b s k:=by
    show(match s[k]? with|some c=>_|none=>_)=_;rw[hg];dsimp only;rw[gP (by simp[bI]at h3;intro e;simp at e;exact h3 (by rw[e]))]
   conv=>whnf
   refine zai ?_;rw[zm an,e];exact cE 1
 .obtain⟨h1,h2,h3,h4⟩:=Gs b s s.length (pj _)
  have h5:jo b s=(wI b s s.length).1++[s.drop (wI b s s.length).2]:=by
   rw[px]at h3;rw[h4,Ch h3]
  conv=>whnf
  refine⟨λh=>absurd h ah,λh=>uH ?_⟩;refine zbD ?_;refine⟨an,an,an,?_⟩;rw[toNat_cast,px];conv=>whnf
  refine⟨rfl,.inr V,aq,by show _*16<=_;simp;omega,uH ?_⟩;rw[h5];exact⟨.inl V,_,.refl _,r6 (λx=>some (C.eM 0 1 x)) (pZ (f:=qe) (l₁:=(wI b s s.length).1) (l₂:=[s.drop (wI b s s.length).2])).symm⟩
def wW(s:eU)(hs:s.length<8000000000000):th 205 [] [Tx s] (Bo (wS s)) []:=by
 have hle:=LC 46 s;refine ab func205 ?_;refine af (Pl s 46 hs) ?_;refine zH.seq (jo 46 s).length (λk=>((Tx s)::.za::Bo false::(lT (jo 46 s))::I k::mK (mK ([.za])))) (λk=>[]) (λk=>∀j,(h:j<(jo 46 s).length)->j<k->jO (jo 46 s)[j]=true) ?_ ah (λk hk hr=>?_) (λhr=>?_)
 .exact cC
 .have hp:(jo 46 s)[k].length<4611686018427387904:=by
   have:=Lp 46 s k (jo 46 s)[k] (gL hk);omega
  conv=>whnf
  refine⟨λh=>uH ?_,λh=>absurd h ar⟩;refine⟨an,qe (jo 46 s)[k],by rw[toNat_cast,gM,gL hk];rfl,?_⟩;conv=>whnf
  refine af (wX (jo 46 s)[k] hp) ?_;refine⟨λh2=>?_,λh2=>?_⟩
  .conv=>whnf
   refine .inl ⟨rfl,?_,?_⟩
   .exact dm
   .intro j hj hjk;by_cases e:j=k
    .subst e;exact h2
    .exact dP
  .conv=>whnf
   refine zaN ?_;have qc:(jo 46 s).all jO=false:=by rw[rP];exact⟨_,pH hk,bd⟩
   (exact⟨.inl V,_,.refl _,uN (by simp[wS,qc])⟩)
 .conv=>whnf
  refine⟨λh=>absurd h ah,λh=>uH ?_⟩;refine⟨ah,?_⟩;have qc:(jo 46 s).all jO=true:=by rw[gV];intro x hx;obtain⟨j,hj,rfl⟩:=pz.1 hx;exact hr j hj hj
  conv=>whnf
  (repeat' (first|(refine⟨λ_=>?_,λ_=>?_⟩ <;> (conv=>whnf))|fail))
  all_goals (rename_i h1;(exact⟨.inl V,_,.refl _,uN (by simp[wS,qc];simp at h1;omega)⟩))
def Wt(h:2<s.length)(h2:s.take 2=[42,46]):iN s=wS (s.drop 2):=by
 have:vj s [42,46]=true:=by simp[vj,h2];omega
 simp[iN,this]
def LZ(h:s.length<=2\/s.take 2≠[42,46]):iN s=(s == [42] || wS s):=by
 cases e:vj s [42,46] with
 |false=>simp[iN,e]
 |true=>
  simp[vj]at e;rcases h with h|h
  .rw[rO h]at e;rw[e.2]
   decide
  .exact absurd e.2 h
def wA(s:eU)(hs:s.length<8000000000000):th 165 [] [Tx s] (Bo (iN s)) []:=by
 refine ab func165 ?_;refine⟨λh=>?_,λh=>?_⟩
 .refine dd ?_;refine⟨an,ah,by simp at h|-;omega,?_⟩;rw[sH,show Int.toNat 2=2 from V];refine dd ?_;refine⟨λh2=>?_,λh2=>?_⟩
  .refine dd ?_;refine⟨an,by simp at h|-;omega,an,?_⟩;rw[px,show Int.toNat 2=2 from V];refine dd ?_;rw[Wt (by simp at h;omega) tM];refine af (wW (s.drop 2) ar) ?_;(repeat' (first|(refine⟨λ_=>?_,λ_=>?_⟩ <;> (conv=>whnf))|fail))
   all_goals (rename_i h3;(exact⟨.inl V,_,.refl _,uN (by exact h3.symm)⟩))
  .refine dd ?_;rw[LZ (.inr tM)];refine⟨λh3=>?_,λh3=>?_⟩
   .refine dd ?_
    (exact⟨.inl V,_,.refl _,uN (by rw[h3];rfl)⟩)
   .refine dd ?_;refine af (wW s hs) ?_;(repeat' (first|(refine⟨λ_=>?_,λ_=>?_⟩ <;> (conv=>whnf))|fail))
    all_goals (rename_i h4;(exact⟨.inl V,_,.refl _,uN (by rw[h3,h4];rfl)⟩))
 .refine dd ?_;rw[LZ (.inl (by simp at h;omega))];refine⟨λh3=>?_,λh3=>?_⟩
  .refine dd ?_
   (exact⟨.inl V,_,.refl _,uN (by rw[h3];rfl)⟩)
  .refine dd ?_;refine af (wW s hs) ?_;(repeat' (first|(refine⟨λ_=>?_,λ_=>?_⟩ <;> (conv=>whnf))|fail))
   all_goals (rename_i h4;(exact⟨.inl V,_,.refl _,uN (by rw[h3,h4];rfl)⟩))
def Ua{c:UInt8}(h:wS (c::s)=true):AS (bI c)=true:=by
 unfold wS at h;simp only[gY,gV]at h;by_cases e:c=46
 .subst e;have:=h.2 [] (by simp[jo]);exact absurd this aj
 .have h1:(c == 46)=false:=by simpa using e
  cases h3:jo 46 s with
  |nil=>exact absurd h3 (F5 _ s)
  |cons x xs=>
   have:=h.2 (c::x) (by simp[jo,h1,h3]);simp only[jO,gY]at this;exact this.1.2
end Go.Nam
namespace Go.Hos
open Go.Ab Go.Proofs Tryz Go.Hy Go.Gat Go.Nam
variable{c:UInt8}
def o6(s t:eU):Bool:=decide (t.length<=s.length) && (s.drop (s.length-t.length) == t)
def RW(s t:eU)(hs:s.length<4000000000000):th 310 [] [Tx s,Tx t] (Bo (o6 s t)) []:=by
 refine ab func310 ?_;refine⟨λh=>?_,λh=>?_⟩
 .have h':t.length<=s.length:=by simp at h;omega
  have w:IntKind.i64.wrap ((s.length:Int)-(t.length:Int))=(s.length-t.length:Nat):=by rw[jB an an];omega
  refine dd ?_;rw[w];refine⟨an,an,an,?_⟩;rw[px,toNat_cast];refine dd ?_;(repeat' (first|(refine⟨λ_=>?_,λ_=>?_⟩ <;> (conv=>whnf))|fail))
  all_goals (exact⟨.inl V,_,.refl _,uN (by simp_all[o6])⟩)
 .refine dd ?_
  (exact⟨.inl V,_,.refl _,uN (by simp[o6];simp at h;intros;omega)⟩)
def KA(s t:eU)(hs:s.length<4000000000000):th 309 [] [Tx s,Tx t] (Bo (o6 s t)) []:=by
 refine ab func309 ?_;refine af (RW s t hs) ?_;(repeat' (first|(refine⟨λ_=>?_,λ_=>?_⟩ <;> (conv=>whnf))|fail))
 all_goals (rename_i h;(exact⟨.inl V,_,.refl _,uN (by exact h.symm)⟩))
def oU(p h:eU):Bool:=match p with
 |c::t=>c == 42 && (t == [] || (decide (t.length<h.length) && o6 h t))
 |[]=>false
def yh(p h:eU):Bool:=iN p && wS h && (p == h || oU p h)
def WG(c:UInt8)(t:eU):wi (c::t) [42]=if c == 42 then (t,true) else (c::t,false):=by
 unfold wi vj;by_cases h:c=42
 .subst h;simp
 .simp[h]
def Gk:iN []=false:=by decide
def P2(p h:eU)(hp:p.length<4000000000000)(hh:h.length<4000000000000):th 307 [] [Tx p,Tx h] (Bo (yh p h)) []:=by
 refine ab func307 ?_;refine af (EZ p an) ?_;refine⟨λh1=>?_,λh1=>?_⟩
 .refine zac ?_
  refine af (Fk h an) ?_;refine⟨λh2=>?_,λh2=>?_⟩
  .refine zac ?_
   refine af (kI p [42]) ?_;cases p with
   |nil=>rw[Gk]at h1;cases h1
   |cons c t=>
    rw[WG];by_cases hc:(c == 42)=true
    .rw[gS hc];refine zcb ?_;refine⟨λh3=>?_,λh3=>?_⟩
     .refine zac ?_
      (exact⟨.inl V,_,.refl _,uN bo⟩)
     .refine dd ?_;refine⟨λh4=>?_,λh4=>?_⟩
      .refine zac ?_
       (exact⟨.inl V,_,.refl _,uN (by simp_all[yh,oU])⟩)
      .refine dd ?_;refine⟨λh5=>?_,λh5=>?_⟩
       .refine dd ?_;refine af (KA h t hh) ?_;(repeat' (first|(refine⟨λ_=>?_,λ_=>?_⟩ <;> (conv=>whnf))|fail))
        all_goals (rename_i h6;(exact⟨.inl V,_,.refl _,uN (by simp at hc;subst hc;simp at h3 h4 h5;simp[yh,oU,h1,h2,h3,h4,h5,h6])⟩))
       .refine dd ?_
        (exact⟨.inl V,_,.refl _,uN (by simp at hc;subst hc;simp at h3 h4 h5;simp[yh,oU,h1,h2,h3,h4];intros;omega)⟩)
    .rw[gP hc];refine uG ?_;refine⟨λh3=>?_,λh3=>?_⟩
     .refine zac ?_
      (exact⟨.inl V,_,.refl _,uN bo⟩)
     .refine dd ?_
      (exact⟨.inl V,_,.refl _,uN (by simp at h3 hc;simp[yh,oU,h1,h2,h3,hc])⟩)
  .refine zac ?_
   (exact⟨.inl V,_,.refl _,uN bo⟩)
 .refine zac ?_
  (exact⟨.inl V,_,.refl _,uN bo⟩)
def yI(p t:eU):Bool:=kE p && kE t && vj p t && (p.drop t.length == [] || o6 t [47] || (p.drop t.length).head? == some 47)
def L3{s:eU}(h:s[0]?=some c):(s.head? == some 47)=(bI c == 47):=by
 rw[List.head?_eq_getElem?,h];by_cases e:c=47
 .subst e;rfl
 .have h1:¬bI c=47:=λh=>e (by
   unfold bI at h;have h':c.toNat=47:=an
   exact UInt8.toNat_inj.1 (by rw[h'];rfl))
  have h2:(c == 47)=false:=ai e
  have h3:(bI c == 47)=false:=ai h1
  rw[h3];simpa using e
def QG(p t:eU)(hp:p.length<4000000000000)(ht:t.length<4000000000000):th 308 [] [Tx p,Tx t] (Bo (yI p t)) []:=by
 refine ab func308 ?_;refine af (Ft p an) ?_;refine⟨λh1=>?_,λh1=>?_⟩
 .refine zac ?_
  refine af (Ft t an) ?_;refine⟨λh2=>?_,λh2=>?_⟩
  .refine zac ?_
   refine af (kI p t) ?_;by_cases h3:vj p t=true
   .have e:wi p t=(p.drop t.length,true):=by unfold wi;rw[gS h3]
    rw[e];refine zcb ?_;refine⟨λh4=>?_,λh4=>?_⟩
    .refine zac ?_
     (exact⟨.inl V,_,.refl _,uN bp⟩)
    .refine dd ?_;refine af (KA t [47] ht) ?_;refine⟨λh5=>?_,λh5=>?_⟩
     .refine zac ?_
      (exact⟨.inl V,_,.refl _,uN bp⟩)
     .refine dd ?_
      obtain⟨c,hc⟩:∃c,(p.drop t.length)[0]?=some c:=by
       cases hd:p.drop t.length with
       |nil=>rw[hd]at h4;simp at h4
       |cons c _=>exact⟨c,rfl⟩
      refine⟨an,c,hc,dd ?_⟩;(repeat' (first|(refine⟨λ_=>?_,λ_=>?_⟩ <;> (conv=>whnf))|fail))
      all_goals (rename_i h6;(exact⟨.inl V,_,.refl _,uN (by simp only[yI,h1,h2,h3,h4,h5,L3 hc];simpa using h6.symm)⟩))
   .have e:wi p t=(p,false):=by unfold wi;rw[gP h3]
    rw[e];refine uG ?_
    (exact⟨.inl V,_,.refl _,uN bp⟩)
  .refine zac ?_
   (exact⟨.inl V,_,.refl _,uN bp⟩)
 .refine zac ?_
  (exact⟨.inl V,_,.refl _,uN bp⟩)
def qO(p:eU):Int:=if iN p then (if vj p [42,46] then ((p.length-2:Nat):Int) else if p == [42] then 0 else 100) else 0
def IN(p:eU)(hp:p.length<4000000000000):th 306 [] [Tx p] (I (qO p)) []:=by
 refine ab func306 ?_;refine af (EZ p an) ?_;refine⟨λh1=>?_,λh1=>?_⟩
 .refine zac ?_
  refine af (kI p [42,46]) ?_;by_cases h3:vj p [42,46]=true
  .have e:wi p [42,46]=(p.drop 2,true):=by unfold wi;rw[gS h3];rfl
   have ew:qO p=((p.drop 2).length:Nat):=by simp[qO,h1,h3]
   rw[e,ew];refine zcb ?_;exact uI
  .have e:wi p [42,46]=(p,false):=by unfold wi;rw[gP h3]
   rw[e];refine uG ?_;refine⟨λh4=>?_,λh4=>?_⟩
   .have ew:qO p=0:=by simp_all[qO]
    rw[ew];exact dg
   .have ew:qO p=100:=by simp_all[qO]
    rw[ew];exact dg
 .have ew:qO p=0:=by simp_all[qO]
  rw[ew];refine zac ?_
  exact uI
def vf(p q p' q':eU):Bool:=if qO p=qO p' then decide (q'.length<q.length) else decide (qO p'<qO p)
def Pe(p q p' q':eU)(hp:p.length<4000000000000)(hq:p'.length<4000000000000):th 302 [] [Tx p,Tx q,Tx p',Tx q'] (Bo (vf p q p' q')) []:=by
 refine ab func302 ?_;refine af (IN p hp) ?_;refine af (IN p' hq) ?_;refine⟨λh1=>?_,λh1=>?_⟩
 .refine dd ?_;(repeat' (first|(refine⟨λ_=>?_,λ_=>?_⟩ <;> (conv=>whnf))|fail))
  all_goals (rename_i h2;(exact⟨.inl V,_,.refl _,uN (by simp_all[vf])⟩))
 .refine dd ?_;(repeat' (first|(refine⟨λ_=>?_,λ_=>?_⟩ <;> (conv=>whnf))|fail))
  all_goals (rename_i h2;(exact⟨.inl V,_,.refl _,uN (by simp_all[vf])⟩))
def U5{t:eU}(h:iN (c::t)=true)(h1:¬(c::t)=[42])(h2:(c == 42)=true):vj (c::t) [42,46]=true:=by
 cases e:vj (c::t) [42,46] with
 |true=>rfl
 |false=>
  exfalso
  unfold iN at h;rw[gP (by simp[e])]at h;simp only[rI,pU]at h;rcases h with h|h
  .exact h1 h
  .have:=Ua h;have hc:c=42:=by simpa using h2
   subst hc
   revert this;decide
def Mv(c d:UInt8):(bI c == bI d)=(c == d):=by
 by_cases e:c=d
 .subst e;simp
 .have h1:¬bI c=bI d:=λh=>e (by unfold bI at h;exact UInt8.toNat_inj.1 an)
  have h2:(bI c == bI d)=false:=ai h1
  rw[h2]
  symm;simpa using e
def Ht(c:UInt8):(bI c == 42)=(c == 42):=Mv c 42
def XG(c:UInt8):(bI c == 47)=(c == 47):=Mv c 47
def PM(p h:eU)(hp:p.length<8000000000000)(hh:h.length<8000000000000):th 290 [] [Tx p,Tx h] (Bo (yh p h)) []:=by
 refine ab func290 ?_;refine af (wA p hp) ?_;refine⟨λh1=>?_,λh1=>?_⟩
 .refine zac ?_
  refine af (wW h hh) ?_;refine⟨λh2=>?_,λh2=>?_⟩
  .refine zac ?_
   cases p with
   |nil=>rw[Gk]at h1;cases h1
   |cons c t=>
    refine⟨λh3=>?_,λh3=>?_⟩
    .refine zac ?_
     (exact⟨.inl V,_,.refl _,uN (by simp at h3;obtain⟨rfl,rfl⟩:=h3;simp[yh,oU,h1,h2])⟩)
    .refine dd ?_;refine⟨λh4=>?_,λh4=>?_⟩
     .refine zac ?_
      (exact⟨.inl V,_,.refl _,uN bo⟩)
     .refine dd ?_;refine⟨an,c,rfl,dd ?_⟩;refine⟨λh5=>?_,λh5=>?_⟩
      .refine dd ?_
       (exact⟨.inl V,_,.refl _,uN (by rw[bne,Ht]at h5;simp at h4 h5;simp[yh,oU,h1,h2,h4,h5])⟩)
      .have h5:(c == 42)=true:=by rw[bne,Ht]at h5;simpa using h5
       refine dd ?_;refine⟨an,ah,an,?_⟩;have e1:(List.take (c::t).length (c::t)).drop (Int.toNat 1)=t:=ah
       rw[e1];simp only[rK]at hp;have w:IntKind.i64.wrap ((h.length:Int)-(t.length:Int))=(h.length:Int)-(t.length:Int):=jB an an;refine dd ?_;rw[w];refine⟨λh6=>?_,λh6=>?_⟩
       .have h6:t.length<h.length:=by simp at h6;omega
        refine dd ?_;refine⟨an,an,an,?_⟩;have e2:(List.take h.length h).drop ((h.length:Int)-(t.length:Int)).toNat=h.drop (h.length-t.length):=by rw[px];congr 1;omega
        rw[e2];refine dd ?_;have hc:c=42:=ai h5
        subst hc;(repeat' (first|(refine⟨λ_=>?_,λ_=>?_⟩ <;> (conv=>whnf))|fail))
        all_goals
         rename_i h7
         (exact⟨.inl V,_,.refl _,uN (by simp at h3 h4 h7;simp[yh,oU,o6,h1,h2,h3,h4,h6,h7];try omega)⟩)
       .have h6:h.length<=t.length:=by simp at h6;omega
        refine dd ?_;have hc:c=42:=ai h5
        subst hc
        (exact⟨.inl V,_,.refl _,uN (by simp at h3 h4;simp[yh,oU,h1,h2,h3,h4];intros;omega)⟩)
  .refine zac ?_
   (exact⟨.inl V,_,.refl _,uN bo⟩)
 .refine zac ?_
  (exact⟨.inl V,_,.refl _,uN bo⟩)
def Pu(p t:eU)(hp:p.length<8000000000000)(ht:t.length<8000000000000):th 291 [] [Tx p,Tx t] (Bo (yI p t)) []:=by
 refine ab func291 ?_;refine af (E6 p an) ?_;refine⟨λh1=>?_,λh1=>?_⟩
 .refine zac ?_
  refine af (E6 t an) ?_;refine⟨λh2=>?_,λh2=>?_⟩
  .refine zac ?_
   refine⟨λh3=>?_,λh3=>?_⟩
   .refine zac ?_
    (exact⟨.inl V,_,.refl _,uN (by simp[yI,vj];simp at h3;intros;omega)⟩)
   .have h3:t.length<=p.length:=by simp at h3;omega
    refine dd ?_;refine⟨an,an,an,?_⟩;rw[sH,toNat_cast];refine dd ?_;refine⟨λh4=>?_,λh4=>?_⟩
    .refine dd ?_
     (exact⟨.inl V,_,.refl _,uN (by simp at h4;simp[yI,vj,h4])⟩)
    .have h4:p.take t.length=t:=by simpa using h4
     have hh:vj p t=true:=by simp[vj,h3,h4]
     refine dd ?_;cases t with
     |nil=>exact absurd h2 aj
     |cons c t'=>
     have w:IntKind.i64.wrap (((c::t').length:Int)-1)=(t'.length:Nat):=by simp only[rK] at *;rw[jB an an];omega
     refine⟨λh5=>?_,λh5=>?_⟩
     .refine zac ?_
      (exact⟨.inl V,_,.refl _,uN (by simp only[yI,h1,h2,hh];simp;left;left;simp at h5;omega)⟩)
     .have h5:(c::t').length<p.length:=by simp only[rK]at h3|-;simp at h5;omega
      refine dd ?_;rw[w];obtain⟨d,hd⟩:∃d,(c::t')[t'.length]?=some d:=⟨_,gL ah⟩;refine⟨an,d,by rw[toNat_cast];exact hd,?_⟩
      have es:o6 (c::t') [47]=(d == 47):=by
       unfold o6
       have e:(c::t').drop ((c::t').length-[(47:UInt8)].length)=[d]:=by
        have:(c::t').length-[(47:UInt8)].length=t'.length:=ah
        rw[this,uc ah];rw[gL ah]at hd;cases hd
        congr 1
        simp
       rw[e];simp
      refine dd ?_;rw[XG];refine⟨λh6=>?_,λh6=>?_⟩
      .refine zac ?_
       (exact⟨.inl V,_,.refl _,uN (by simp[yI,h1,h2,hh,es,h6])⟩)
      .refine dd ?_;obtain⟨x,hx⟩:∃x,p[(c::t').length]?=some x:=⟨_,gL h5⟩;refine⟨an,x,by rw[toNat_cast];exact hx,?_⟩;have ex:(p.drop (c::t').length)[0]?=some x:=by rw[rj];simpa using hx
       have en:¬p.drop (c::t').length=[]:=λh=>by rw[h]at ex;cases ex
       refine dd ?_;(repeat' (first|(refine⟨λ_=>?_,λ_=>?_⟩ <;> (conv=>whnf))|fail))
       all_goals (rename_i h7;(exact⟨.inl V,_,.refl _,uN (by simp only[yI,h1,h2,hh,es,h6,L3 ex,beq_eq_false_iff_ne.2 en];rw[h7];rfl)⟩))
  .refine zac ?_
   (exact⟨.inl V,_,.refl _,uN bp⟩)
 .refine zac ?_
  (exact⟨.inl V,_,.refl _,uN bp⟩)
def Il(p:eU)(hp:p.length<8000000000000):th 299 [] [Tx p] (I (qO p)) []:=by
 refine ab func299 ?_;refine af (wA p hp) ?_;refine⟨λh1=>?_,λh1=>?_⟩
 .refine zac ?_
  cases p with
  |nil=>rw[Gk]at h1;cases h1
  |cons c t=>
   refine⟨λh3=>?_,λh3=>?_⟩
   .have ew:qO (c::t)=0:=by simp at h3;obtain⟨rfl,rfl⟩:=h3;decide
    rw[ew];exact dg
   .refine dd ?_;refine⟨an,c,rfl,dd ?_⟩;rw[Ht];refine⟨λh5=>?_,λh5=>?_⟩
    .have hpp:=U5 h1 (ai h3) h5;have hl:2<=(c::t).length:=by simp[vj]at hpp;simp;omega
     have ew:qO (c::t)=(((c::t).length:Nat):Int)-2:=by unfold qO;rw[gS h1,gS hpp];omega
     have w:IntKind.i64.wrap (((c::t).length:Int)-2)=(((c::t).length:Nat):Int)-2:=jB an an;rw[ew];refine dd ?_;rw[w];exact uI
    .have hpp:vj (c::t) [42,46]=false:=by
      cases e:vj (c::t) [42,46] with
      |false=>rfl
      |true=>simp[vj]at e;rw[e.2.1]at h5;revert h5;decide
     have ew:qO (c::t)=100:=by
      unfold qO;rw[gS h1,gP (by simp[hpp]),gP (ai h3)]
     rw[ew];exact dg
 .have ew:qO p=0:=by simp_all[qO]
  rw[ew];refine zac ?_
  exact uI
def NW(p q p' q':eU)(hp:p.length<8000000000000)(hq:p'.length<8000000000000):th 292 [] [Tx p,Tx q,Tx p',Tx q'] (Bo (vf p q p' q')) []:=by
 refine ab func292 ?_;refine af (Il p hp) ?_;refine af (Il p' hq) ?_;refine⟨λh1=>?_,λh1=>?_⟩
 .refine zac ?_
  (exact⟨.inl V,_,.refl _,uN (by simp at h1;simp[vf,h1];intros;omega)⟩)
 .refine dd ?_;refine⟨λh2=>?_,λh2=>?_⟩
  .refine dd ?_;(repeat' (first|(refine⟨λ_=>?_,λ_=>?_⟩ <;> (conv=>whnf))|fail))
   all_goals (rename_i h3;(exact⟨.inl V,_,.refl _,uN (by simp_all[vf])⟩))
  .refine dd ?_
   (exact⟨.inl V,_,.refl _,uN (by simp_all[vf])⟩)
end Go.Hos
namespace Go.Con
open Go.Ab Go.Proofs Tryz Go.Hy Go.Gat Go.Nam Go.Hos
variable{H:zq}{f:FuncId}{caps:List C}{l:List fq}
def Bx{α:Type}(l:List α)(p:α->Bool):decide ((match l.findIdx? p with|some i=>(i:Int)|none=> -1)≥0)=l.any p:=by
 cases h:l.findIdx? p with
 |none=>
  rw[pD]at h
  symm
  simp only[Int.reduceNeg,ge_iff_le,Int.reduceLE,decide_false];rw[pI];intro x hx;simp[h x hx]
 |some i=>
  obtain⟨h1,h2,_⟩:=pB.1 h
  symm
  have:(0:Int)<=(i:Int):=u9 i;simp only[ge_iff_le,this,decide_true];rw[ri];exact⟨_,pH h1,h2⟩
abbrev Cc(c:fq):C:=.agg (jl c)
def Rt(p:fq->Bool)(hcb:qt prog f=true)(hp:∀r∈l,th f H ([Cc r]++caps) (Bo (p r)) H)(hl:l.length<4611686018427387904):
  th 246 H [lC l,.fn f [] caps] (I (match l.findIdx? p with|some i=>(i:Int)|none=> -1)) H:=by
 refine zb.zZ (fn:=f246) func246 V (uH ?_)
 refine zH.inv (λn t1 H1=>∃k,k+n=l.length/\H1=H/\(∀j,j<k->∀r,l[j]?=some r->p r=false)/\
   t1=((lC l)::.fn f [] caps::.za::.za::I 0::.za::.za::I (l.map jl).length::I k::mK ([.za,.za]))) l.length ?_ ?_
 .exact dy
 rintro n _ _ ⟨k,hk,rfl,hno,rfl⟩;conv=>whnf
 refine⟨λh=>?_,λh=>?_⟩
 .conv=>whnf
  have eP:k<l.length:=ai h
  refine⟨an,jl l[k],aB,uH ?_⟩;rw[hcb];refine⟨_,_,hp _ (pH eP),uH ?_⟩;refine⟨λh2=>?_,λh2=>?_⟩
  .conv=>whnf
   refine zaX ?_
   have:l.findIdx? p=some k:=by
    rw[pB];refine⟨eP,h2,λj hj=>?_⟩;simp[hno j hj _ (gL an)]
   rw[this]
   rfl
  .conv=>whnf
   refine .inl ⟨rfl,n-1,_,_,an,zk.mask [0,1,4,7,8] _ _,k+1,an,rfl,?_,?_⟩
   .intro j hj r hr;by_cases hjk:j=k
    .subst hjk;rw[gL eP]at hr;cases hr
     exact h2
    .exact hno j an r hr
   .rw[zm an];rfl
 .conv=>whnf
  refine zaX ?_
  have:l.findIdx? p=none:=by
   rw[pD];intro x hx;obtain⟨j,hj⟩:=pA.1 hx;have hjl:=(gN.1 hj).1;have:¬k<l.length:=ai h
   exact hno j an x hj
  rw[this]
  rfl
def RH(p:fq->Bool)(hcb:qt prog f=true)(hp:∀r∈l,th f H ([Cc r]++caps) (Bo (p r)) H)(hl:l.length<4611686018427387904):
  th 201 H [lC l,.fn f [] caps] (Bo (l.any p)) H:=by
 refine zb.zZ (fn:=f201) func201 V (uH ?_);refine⟨_,_,Rt p hcb hp hl,dd ?_⟩;refine zbg ?_;refine⟨λh=>?_,λh=>?_⟩ <;> rw[h]
 .exact dO
 .exact dO
def OT(s:eU)(c:fq):th 202 [⟨1,9,1,[[Tx s]],0⟩] [Cc c,.ref 0 [] 1 0 0] (Bo (c.name == s)) [⟨1,9,1,[[Tx s]],0⟩]:=by
 refine zb.zZ (fn:=f202) func202 V (uH ?_);refine⟨λh=>?_,λh=>?_⟩ <;> rw[h]
 .conv=>whnf
  exact dB
 .conv=>whnf
  exact dB
def yi(l:List fq)(s:eU):Bool:=l.any λc=>c.name == s
def Jf(l:List fq)(s:eU)(hl:l.length<4611686018427387904):th 159 [] [lC l,Tx s] (Bo (yi l s)) []:=by
 refine ab func159 ?_;refine⟨_,_,RH (λc=>c.name == s) ak (λr _=>OT s r) hl,dd ?_⟩;refine⟨λh=>?_,λh=>?_⟩
 .refine dd ?_
  (exact⟨.inl V,_,.refl _,uN (by exact h.symm)⟩)
 .refine dd ?_
  (exact⟨.inl V,_,.refl _,uN (by exact h.symm)⟩)
def xW(n a b:Int):th 158 [] [I n,I a,I b] (Bo (decide (a<=n) && decide (n<=b))) []:=by
 refine ab func158 ?_;(repeat' (first|(refine⟨λ_=>?_,λ_=>?_⟩ <;> (conv=>whnf))|fail))
 all_goals (exact⟨.inl V,_,.refl _,uN (by simp_all <;> omega)⟩)
def jR(l:List eU)(s:eU):Int:=match l.findIdx? (λx=>x == s) with|some i=>(i:Int)|none=> -1
def Rz(l:List eU)(s:eU)(hl:l.length<4611686018427387904):th 124 [] [lT l,Tx s] (I (jR l s)) []:=by
 have hlm:(l.map qe).length=l.length:=gO ..;refine ab func124 ?_;rw[hlm];refine zH.seq l.length (λk=>((lT l)::(Tx s)::.za::.za::I 0::.za::.za::I l.length::I k::mK ([.za,.za]))) (λk=>[]) (λk=>∀j,(h:j<l.length)->j<k->(l[j] == s)=false) ?_ ah (λk hk hr=>?_) (λhr=>?_)
 .exact cC
 .have hg:(l.map qe)[k]?=some (qe l[k]):=by rw[gM,gL hk];rfl
  conv=>whnf
  refine zbH ?_;refine te hg ?_;refine⟨λh2=>?_,λh2=>?_⟩
  .refine zca ?_
   have e:jR l s=k:=by
    unfold jR
    have:l.findIdx? (λx=>x == s)=some k:=by
     rw[pB];refine⟨hk,?_,λj hj=>by simp only[hr j an hj];decide⟩;simp at h2;simp[h2]
    rw[this]
   exact dY
  .refine dd ?_;refine .inl ⟨rfl,?_,λj hj hjk=>?_⟩
   .exact dm
   .by_cases e:j=k
    .subst e;simp at h2|-;exactλh=>h2 h.symm
    .exact dP
 .conv=>whnf
  refine zaf ?_
  have e:jR l s= -1:=by
   unfold jR
   have:l.findIdx? (λx=>x == s)=none:=by
    rw[pD];intro x hx;obtain⟨j,hj,rfl⟩:=pz.1 hx;exact hr j hj hj
   rw[this]
  exact dY
def KP(l:List eU)(s:eU):decide (jR l s≥0)=l.any (λx=>x == s):=Bx l _
def Du(l:List eU)(s:eU)(hl:l.length<4611686018427387904):th 67 [] [lT l,Tx s] (Bo (l.any λx=>x == s)) []:=by
 refine ab func67 ?_;refine af (Rz l s hl) ?_;rw[KP];refine⟨λh=>?_,λh=>?_⟩
 .refine dd ?_
  (exact⟨.inl V,_,.refl _,uN (by exact h.symm)⟩)
 .refine dd ?_
  (exact⟨.inl V,_,.refl _,uN (by exact h.symm)⟩)
end Go.Con
