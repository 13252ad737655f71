import Derived.Lib.Bytealg
import Derived.WalkKit
import Derived.IntWalk
import Derived.Test.YtdgkfpgepoelcaaGreatSC
import Derived.Test.YtdgkfpgepoelcaaGreatSJ
import Derived.Test.YtdgkfpgepoelcaaGreatProg
set_option linter.all false
set_option maxRecDepth 100000
set_option maxHeartbeats 4000000
namespace Go.Gat
open Go.Ab Go.Proofs Tryz Go.Hy
def eQ(n:Int):Bool:=decide (97<=n) && decide (n<=122)
def j4(n:Int):Bool:=eQ n || (decide (48<=n) && decide (n<=57)) || (n == 45)
abbrev By(n:Int):C:=.v (.int .u8 n)
def AV(n:Int):tc 162 [] [By n] (Bo (eQ n)) []:=by
 refine ab func162 ?_;(repeat' (first|(refine⟨λ_=>?_,λ_=>?_⟩ <;> (conv=>whnf))|fail))
 all_goals (exact⟨.inl V,_,.refl _,uN (by simp_all[eQ] <;> (intros;omega))⟩)
def Ap(n:Int):tc 172 [] [By n] (Bo (eQ n)) []:=by
 refine ab func172 ?_;(repeat' (first|(refine⟨λ_=>?_,λ_=>?_⟩ <;> (conv=>whnf))|fail))
 all_goals (exact⟨.inl V,_,.refl _,uN (by simp_all[eQ] <;> (intros;omega))⟩)
def Fj(n:Int):tc 209 [] [By n] (Bo (j4 n)) []:=by
 refine ab func209 ?_;refine af (AV n) ?_;(repeat' (first|(refine⟨λ_=>?_,λ_=>?_⟩ <;> (conv=>whnf))|fail))
 all_goals (exact⟨.inl V,_,.refl _,uN (by simp_all[j4] <;> (intros;omega))⟩)
def o5(n:Int):tc 173 [] [By n] (Bo (j4 n)) []:=by
 refine ab func173 ?_;refine af (Ap n) ?_;(repeat' (first|(refine⟨λ_=>?_,λ_=>?_⟩ <;> (conv=>whnf))|fail))
 all_goals (exact⟨.inl V,_,.refl _,uN (by simp_all[j4] <;> (intros;omega))⟩)
def Ai:tc 163 [] [] (.agg [.fn 209 [] []]) []:=by
 refine ab func163 ?_;exact uI
abbrev bI(c:UInt8):Int:=(c.toNat:Int)
def s5(p:Int->Bool)(s:rK)(other:Int):Bool:=s.all λc=>bI c == other || p (bI c)
def Fl{p:Int->Bool}{s:rK}{other:Int}{k:Nat}(hk:k<s.length)(h1:(bI s[k] == other)=false)(h2:p (bI s[k])=false):s5 p s other=false:=by
 unfold s5;rw[gi];exact⟨s[k],dn hk,by simp[h1,h2]⟩
def ke(s:rK)(other:Int)(hs:s.length<4611686018427387904):tc 164 [] [.agg [.fn 209 [] []],Tx s,By other] (Bo (s5 j4 s other)) []:=by
 refine ab func164 ?_;refine zp.seq s.length (λk=>(.agg [.fn 209 [] []]::(Tx s)::(By other)::.ref 0 [] 1 0 0::.za::.za::Bo false::.za::.za::I s.length::I k::tJ (tJ ([.za])))) (λk=>[⟨1,216,1,[[.fn 209 [] []]],0⟩]) (λk=>∀j,(h:j<s.length)->j<k->(bI s[j] == other || j4 (bI s[j]))=true) ?_ aj (λk hk hr=>?_) (λhr=>?_)
 .exact cC
 .conv=>whnf
  refine⟨λh=>uH ?_,λh=>absurd h aw⟩;refine uE ?_;refine⟨ah,s[k],by simp[hk],uH ?_⟩;refine⟨λh1=>?_,λh1=>?_⟩
  .refine dd ?_;refine⟨ah,s[k],by simp[hk],dd ?_⟩;refine af (Fj (bI s[k])) ?_;refine⟨λh2=>?_,λh2=>?_⟩
   .refine dd ?_;refine .inl ⟨rfl,?_,?_⟩
    .exact cq
    .intro j hj hjk;by_cases e:j=k
     .subst e;simp[h2]
     .exact cF
   .refine dd ?_;refine zaq ?_
    (exact⟨.inl V,_,.refl _,uN (by exact(Fl hk tD h2).symm)⟩)
  .refine dd ?_;refine .inl ⟨rfl,?_,?_⟩
   .exact cq
   .intro j hj hjk;by_cases e:j=k
    .subst e;simp at h1;simp[h1]
    .exact cF
 .conv=>whnf
  refine⟨λh=>absurd h aj,λh=>uH ?_⟩;refine zaI ?_
  have e:s5 j4 s other=true:=by
   unfold s5;rw[c8];intro x hx;obtain⟨j,hj,rfl⟩:=dk.1 hx;exact hr j hj hj
  exact⟨.inl V,_,.refl _,by rw[e];rfl⟩
def qI(s:rK):Bool:=decide (0<s.length) && decide (s.length<=16) && (match s with|c::_=>eQ (bI c)|[]=>false) && s.all λc=>j4 (bI c)
def Gz(s:rK):s5 j4 s 45=s.all λc=>j4 (bI c):=by
 unfold s5
 congr 1
 funext c
 cases h:(bI c == 45) with
 |false=>rfl
 |true=>simp at h;simp[j4,h]
def jB(s:rK)(hs:s.length<4611686018427387904):tc 90 [] [Tx s] (Bo (qI s)) []:=by
 refine zb.zj (fn:=f90) func90 V ?_;cases s with
 |nil=>
  conv=>whnf
  refine hU ?_
  exact uI
 |cons c s=>
  conv=>whnf
  refine⟨λ_=>uH ?_,λh=>absurd h (by simp <;> omega)⟩;refine⟨λh1=>?_,λh1=>?_⟩
  .conv=>whnf
   refine⟨ah,c,rfl,uH ?_⟩;refine af (AV (bI c)) ?_;refine⟨λh2=>?_,λh2=>?_⟩
   .conv=>whnf
    refine af Ai ?_;refine af (ke (c::s) 45 hs) ?_;have h1':s.length<=15:=bC
    have e:qI (c::s)=s5 j4 (c::s) 45:=by rw[Gz];unfold qI;simp[h2];omega
    refine⟨λh3=>?_,λh3=>?_⟩
    all_goals ((conv=>whnf);(exact⟨.inl V,_,.refl _,uN (by rw[e,h3])⟩))
   .conv=>whnf
    (exact⟨.inl V,_,.refl _,uN (by simp[qI,h2])⟩)
  .conv=>whnf
   (exact⟨.inl V,_,.refl _,uN (by simp[qI];simp at h1;omega)⟩)
def yD(s:rK)(hs:s.length<4611686018427387904):tc 97 [] [Tx s] (Bo (qI s)) []:=by
 refine zb.zj (fn:=f97) func97 V ?_;cases s with
 |nil=>
  conv=>whnf
  refine hU ?_
  exact uI
 |cons c s=>
  conv=>whnf
  refine⟨λh=>absurd h (by simp <;> omega),λ_=>uH ?_⟩;refine⟨λh1=>?_,λh1=>?_⟩
  .conv=>whnf
   (exact⟨.inl V,_,.refl _,uN (by simp[qI];simp at h1;omega)⟩)
  .conv=>whnf
   refine⟨ah,c,rfl,uH ?_⟩;refine af (Ap (bI c)) ?_;refine⟨λh2=>?_,λh2=>?_⟩
   .conv=>whnf
    have h1':s.length<=15:=bC
    have e:qI (c::s)=(c::s).all λc=>j4 (bI c):=by unfold qI;simp[h2];omega
    rw[e]
    clear e h2 h1
    refine zp.seq (c::s).length (λk=>((Tx (c::s))::.za::Bo false::I k::tJ (tJ (tJ ([.za]))))) (λk=>[]) (λk=>∀j,(h:j<(c::s).length)->j<k->j4 (bI (c::s)[j])=true) ?_ aj (λk hk hr=>?_) (λhr=>?_)
    .exact cC
    .conv=>whnf
     refine⟨λh=>uH ?_,λh=>absurd h (by simp at hk|-;omega)⟩;refine⟨ah,(c::s)[k],by rw[toNat_cast,cV hk],?_⟩;conv=>whnf
     refine af (o5 (bI (c::s)[k])) ?_;refine⟨λh2=>?_,λh2=>?_⟩
     .conv=>whnf
      refine .inl ⟨rfl,?_,?_⟩
      .exact cg
      .intro j hj hjk;by_cases e:j=k
       .subst e;exact h2
       .exact cF
     .conv=>whnf
      refine zaq ?_
      (exact⟨.inl V,_,.refl _,uN (by symm;rw[gi];exact⟨_,dn hk,bz⟩)⟩)
    .conv=>whnf
     refine⟨λh=>absurd h aj,λh=>uH ?_⟩;refine zaI ?_
     (exact⟨.inl V,_,.refl _,uN (by symm;rw[c8];intro x hx;obtain⟨j,hj,rfl⟩:=dk.1 hx;exact hr j hj hj)⟩)
   .conv=>whnf
    (exact⟨.inl V,_,.refl _,uN (by simp[qI,h2])⟩)
end Go.Gat
namespace Go.Nam
open Go.Ab Go.Proofs Tryz Go.Hy Go.Gat Go.RowKit
variable{b:UInt8}{s:rK}
def jX(b:UInt8)(s:rK):rK:=s.takeWhile (· != b)
def kJ(b:UInt8)(s:rK):rK:=(s.dropWhile (· != b)).drop 1
def qv(b:UInt8):rK->List rK
 |[]=>[[]]
 |c::s=>if c == b then []::qv b s else match qv b s with
  |p::ps=>(c::p)::ps
  |[]=>[[c]]
def Bn(b:UInt8)(s:rK):qv b s≠[]:=by
 cases s with
 |nil=>simp[qv]
 |cons c s=>unfold qv;split;simp;split <;> simp
def yM{b:UInt8}:∀{s:rK},b∉s->qv b s=[s]
 |[],_=>rfl
 |c::s,h=>by
  have h1:(c == b)=false:=bD
  have h2:=yM (s:=s) λe=>h (dV _ e)
  simp[qv,h1,h2]
def yN{b:UInt8}:∀{s:rK},b∈s->qv b s=jX b s::qv b (kJ b s)
 |[],h=>by simp at h
 |c::s,h=>by
  by_cases e:c=b
  .subst e;simp[qv,jX,kJ]
  .have h1:(c == b)=false:=by simpa using e
   have h2:=yN (s:=s) bE;have h3:(c != b)=true:=ak e
   simp only[qv,h1,rh,if_false,h2,jX,kJ,px,List.dropWhile_cons,h3,if_true]
def A4{b:UInt8}:∀{s:rK},b∉s->Lib.indexByte s b= -1
 |[],_=>rfl
 |c::s,h=>by
  have h1:(c == b)=false:=bD
  have h2:=A4 (s:=s) λe=>h (dV _ e)
  simp[Lib.indexByte,h1,h2]
def l7{b:UInt8}:∀{s:rK},b∈s->Lib.indexByte s b=((jX b s).length:Int)
 |[],h=>by simp at h
 |c::s,h=>by
  by_cases e:c=b
  .subst e;simp[Lib.indexByte,jX]
  .have h1:(c == b)=false:=by simpa using e
   have h3:(c != b)=true:=ak e
   have h2:=l7 (s:=s) bE;have h4:((jX b s).length == (-1:Int))=false:=by rw[beq_eq_false_iff_ne];omega
   simp only[Lib.indexByte,h1,rh,if_false,h2,jX,px,h3,if_true,gA];rw[show((↑(List.takeWhile (λx=>x != b) s).length:Int) == -1)=false from h4];simp
def head_take(b:UInt8)(s:rK):s.take (jX b s).length=jX b s:=by
 induction s with
 |nil=>rfl
 |cons c s ih=>
  by_cases e:c=b
  .subst e;simp[jX]
  .have h3:(c != b)=true:=by simpa using e
   simp only[jX,px,h3,if_true,gA,List.take_succ_cons];rw[show List.take (List.takeWhile (λx=>x != b) s).length s=jX b s from ih];rfl
def tail_drop(b:UInt8)(s:rK):s.drop ((jX b s).length+1)=kJ b s:=by
 induction s with
 |nil=>rfl
 |cons c s ih=>
  by_cases e:c=b
  .subst e;simp[jX,kJ]
  .have h3:(c != b)=true:=by simpa using e
   simp only[jX,kJ,px,List.dropWhile_cons,h3,if_true,gA,List.drop_succ_cons];exact ih
def mJ(h:b∈s):(jX b s).length<s.length:=by
 have h1:=tail_drop b s;have h2:s.length≠0:=by intro e;rw[gN.1 e]at h;simp at h
 have h3:(jX b s).length<=s.length:=List.Sublist.length_le (List.takeWhile_sublist _);rcases pD (jX b s).length s.length with h4|h4
 .exact h4
 .have h5:=head_take b s;rw[gP h4]at h5;have:b∈jX b s:=by rw[<-h5];exact h
  have:=List.all_takeWhile (l:=s) (p:=(· != b));rw[c8]at this;have:=this b (by assumption);simp at this
def jh(b:UInt8)(s:rK):Nat->rK
 |0=>s
 |k+1=>kJ b (jh b s k)
def fi{b:UInt8}:∀{k:Nat} {s:rK},k+1<(qv b s).length->b∈jh b s k/\(qv b s)[k]?=some (jX b (jh b s k))/\qv b (jh b s (k+1))=(qv b s).drop (k+1)
 |0,s,h=>by
  have hb:b∈s:=by
   rcases Classical.em (b∈s) with h1|h1
   .exact h1
   .rw[yM h1]at h;simp at h
  exact⟨hb,by rw[yN hb];rfl,by rw[yN hb];rfl⟩
 |k+1,s,h=>by
  obtain⟨h1,h2,h3⟩:=fi (b:=b) (k:=k) (s:=s) ah
  have hb:b∈jh b s (k+1):=by
   rcases Classical.em (b∈jh b s (k+1)) with h4|h4
   .exact h4
   .rw[yM h4]at h3;have:=gy List.length h3;exact cN
  have h5:=yN hb;rw[h3]at h5;refine⟨hb,?_,?_⟩
  .have:=gy (λl=>l[0]?) h5;simpa using this
  .have:=gy (λl=>l.drop 1) h5;simp at this;show qv b (kJ b (jh b s (k+1)))=_;rw[<-this]
def Bc{k:Nat}(h:k+1=(qv b s).length):b∉jh b s k/\(qv b s)[k]?=some (jh b s k):=by
 have h3:qv b (jh b s k)=(qv b s).drop k:=by
  cases k with
  |zero=>rfl
  |succ k=>exact(fi (b:=b) (s:=s) (k:=k) ah).2.2
 have h4:b∉jh b s k:=by
  intro hb;rw[yN hb]at h3;have:=gy List.length h3
  have h5:(qv b (kJ b (jh b s k))).length≠0:=by
   intro e;exact Bn b _ (gN.1 e)
  exact cN
 refine⟨h4,?_⟩;rw[yM h4]at h3;have:=gy (λl=>l[0]?) h3;simpa using this.symm
def wW(b:UInt8)(s:rK):∀k,(jh b s k).length<=s.length
 |0=>de _
 |k+1=>by
  have h1:((jh b s k).dropWhile (· != b)).length<=(jh b s k).length:=List.Sublist.length_le (List.dropWhile_sublist _);have:=wW b s k;simp only[jh,kJ,List.length_drop];omega
def GW(s:ByteArray)(c:Int)(w:World):Calls prog 317 #[.string s,.int .u8 c] w λe w'=>e=.returned (.int .i64 (Lib.indexByte s.data.toList c.toNat.toUInt8))/\w'=w:=by
 go_enter func317,Tryz.ntmps317
 go_wp2
 rw[run_callFunc_extern func321 an an an (e:=Extern.BytealgIndexByte.indexByte) an,Lib.run_indexByteString];simp only[Result.andThen];rw[Oper.upon_value]
 go_wp2
 go_ret
 exact⟨rfl,rfl⟩
def Fa(s:rK)(b:UInt8):tc 317 [] [Tx s,By (bI b)] (I (Lib.indexByte s b)) []:=by
 have e:(bI b).toNat.toUInt8=b:=by simp[bI]
 refine wO [] (λw=>?_) BZ λE=>.v _ V
 have:=GW ⟨⟨s⟩⟩ (bI b) w;rw[e]at this;exact cQ
def yU(s:rK)(b:UInt8):tc 308 [] [Tx s,By (bI b)] (I (Lib.indexByte s b)) []:=by
 refine ab func308 ?_;refine af (Fa s b) ?_;exact uI
end Go.Nam
namespace Go.Nam
open Go.Ab Go.Proofs Tryz Go.Hy Go.Gat
variable{s:rK}
def Em(X:Ob)(s:rK)(b:UInt8):tc 285 [X] [Tx s,By (bI b)] (.fn 307 [] [.ref 1 [] 1 0 0,.ref 2 [] 1 0 0]) [X,⟨1,9,1,[[Tx s]],0⟩,⟨1,5,1,[[By (bI b)]],0⟩]:=by
 refine zb.zJ (fn:=f285) func285 V (uH ?_);exact uJ
def wR(l:Nat)(s:rK)(b:UInt8)(hs:s.length<4611686018427387904)(X:Nat->Ob)(Y:Nat->List Ob)(j:Nat)(g:Bool)(hj:j<(qv b s).length)(hend:g=false\/j+1=(qv b s).length)
 (hy:∀k p,k<j->(qv b s)[k]?=some p->qV prog l (X k::⟨1,9,1,[[Tx (jh b s k)]],0⟩::⟨1,5,1,[[By (bI b)]],0⟩::Y k) [Tx p] (Bo true) (X (k+1)::⟨1,9,1,[[Tx (jh b s k)]],0⟩::⟨1,5,1,[[By (bI b)]],0⟩::Y (k+1)))
 (hz:∀p,(qv b s)[j]?=some p->qV prog l (X j::⟨1,9,1,[[Tx (jh b s j)]],0⟩::⟨1,5,1,[[By (bI b)]],0⟩::Y j) [Tx p] (Bo g) (X (j+1)::⟨1,9,1,[[Tx (jh b s j)]],0⟩::⟨1,5,1,[[By (bI b)]],0⟩::Y (j+1))):
  tc 307 (X 0::⟨1,9,1,[[Tx (jh b s 0)]],0⟩::⟨1,5,1,[[By (bI b)]],0⟩::Y 0) [.v (.func (.yield l) #[] #[]),.ref 1 [] 1 0 0,.ref 2 [] 1 0 0] (.rO []) (X (j+1)::⟨1,9,1,[[Tx (jh b s j)]],0⟩::⟨1,5,1,[[By (bI b)]],0⟩::Y (j+1)):=by
 refine zb.zJ (fn:=f307) func307 V (uH ?_);refine zp.seq j (λk=>(.v (.func (.yield l) #[] #[])::.ref 1 [] 1 0 0::.ref 2 [] 1 0 0::tJ (tJ ([.za,.za,.za,.za])))) (λk=>X k::⟨1,9,1,[[Tx (jh b s k)]],0⟩::⟨1,5,1,[[By (bI b)]],0⟩::Y k) (λ_=>True) ?_ trivial (λk hk _=>?_) (λ_=>?_)
 .exact cC
 .obtain⟨h1,h2,h3⟩:=fi (b:=b) (s:=s) (k:=k) ah;have h4:=wW b s k;have h5:=mJ h1;conv=>whnf
  refine⟨_,_,(yU (jh b s k) b).frame V _,?_⟩;rw[l7 h1];conv=>whnf
  refine⟨λh=>absurd h aj,λ_=>dd ?_⟩;refine⟨ah,ah,aw,?_⟩;rw[toNat_cast,gH,head_take];conv=>whnf
  refine⟨_,_,hy k _ hk h2,dd ?_⟩;refine hU ?_
  rw[zk ah,toNat_cast];refine⟨ah,uH ?_⟩;refine⟨ah,ah,?_⟩;rw[dy,tail_drop];conv=>whnf
  exact .inl ⟨rfl,cC,trivial⟩
 .have h4:=wW b s j;by_cases hl:j+1=(qv b s).length
  .obtain⟨h1,h2⟩:=Bc hl;conv=>whnf
   refine⟨_,_,(yU (jh b s j) b).frame V _,?_⟩;rw[A4 h1];conv=>whnf
   refine⟨λ_=>dd ?_,λh=>absurd h aj⟩;refine⟨_,_,hz _ h2,uH ?_⟩;refine⟨λ_=>?_,λ_=>?_⟩ <;>
   .conv=>whnf
    exact⟨aj,.inl V,_,.refl _,rfl,rfl⟩
  .obtain⟨h1,h2,h3⟩:=fi (b:=b) (s:=s) (k:=j) ah;have h5:=mJ h1;have hg:g=false:=by rcases hend with h|h;exact h;exact absurd h hl
   subst hg;conv=>whnf
   refine⟨_,_,(yU (jh b s j) b).frame V _,?_⟩;rw[l7 h1];conv=>whnf
   refine⟨λh=>absurd h aj,λ_=>dd ?_⟩;refine⟨ah,ah,aw,?_⟩;rw[toNat_cast,gH,head_take];conv=>whnf
   refine⟨_,_,hz _ h2,dd ?_⟩;refine hU ?_
   exact⟨aj,.inl V,_,.refl _,rfl,rfl⟩
def vh(s:rK):Bool:=decide (s.length<=32) && (qv 46 s).all qI
def Bp(b:UInt8):∀s:rK,(qv b s).length<=s.length+1
 |[]=>by simp[qv]
 |c::s=>by
  have:=Bp b s;unfold qv;split
  .simp;omega
  .split
   .rename_i h;rw[h]at this;simp at this|-;omega
   .simp
def BC(b:UInt8)(s:rK)(k:Nat)(p:rK)(h:(qv b s)[k]?=some p):p.length<=s.length:=by
 have hk:=(cW.1 h).1;by_cases hl:k+1=(qv b s).length
 .obtain⟨h1,h2⟩:=Bc hl;rw[h2]at h;cases h;exact wW b s k
 .obtain⟨h1,h2,h3⟩:=fi (b:=b) (s:=s) (k:=k) ah;rw[h2]at h;cases h
  have:=mJ h1;have:=wW b s k;omega
def oO(s:rK)(hs:s.length<4611686018427387904):tc 248 [] [Tx s] (Bo (vh s)) []:=by
 refine ab func248 ?_;refine⟨λh=>?_,λh=>?_⟩
 .refine dd ?_
  (exact⟨.inl V,_,.refl _,uN (by simp[vh];simp at h;omega)⟩)
 .refine dd ?_;refine⟨_,_,Em _ s 46,uH ?_⟩;have hn:=Bn 46 s
  have hlen:0<(qv 46 s).length:=by
   rcases pC (qv 46 s).length with e|e
   .exact absurd (gN.1 e) hn
   .exact e
  have hple:∀(k:Nat) (p:rK),(qv 46 s)[k]?=some p->p.length<4611686018427387904:=λk p hp=>by have:=BC 46 s k p hp;omega
  refine⟨_,.refl _,?_⟩;by_cases zF:(qv 46 s).all qI=true
  .have hname:∀(k:Nat) p,(qv 46 s)[k]?=some p->qI p=true:=λk p hp=>c8.1 zF p (cZ hp)
   refine⟨.normal,_,[⟨1,4,1,[[Bo false]],0⟩],λl r h1 h2 h3 h4 h5=>⟨_,_,r,wR l s 46 hs (λ_=>⟨1,4,1,[[Bo false]],0⟩) (λ_=>[r8 l r _]) ((qv 46 s).length-1) true ah (.inr ah) (λk p hk hp=>?_) (λp hp=>?_),
    rfl,by rw[h1];decide,rfl,dA _,by rw[h2];trivial,zm.low 1 _ _ V V V⟩,?_⟩
   .refine qV.zJ (id:=3) V h1 h2 h3 h4 h5 V V V ?_;conv=>whnf
    exact zaG
   .refine qV.zJ (id:=3) V h1 h2 h3 h4 h5 V V V ?_;conv=>whnf
    exact zaG
   .conv=>whnf
    (exact⟨.inl V,_,.refl _,uN (by simp[vh,zF];simp at h;omega)⟩)
  .obtain⟨j,hj⟩:∃j,(qv 46 s).findIdx? (λp=>!qI p)=some j:=by
    cases e:(qv 46 s).findIdx? (λp=>!qI p) with
    |some j=>exact⟨j,rfl⟩
    |none=>
     exfalso
     rw[dt]at e;exact zF (c8.2 λx hx=>by simpa using e x hx)
   rw[dh]at hj;obtain⟨hjl,hj1,hj2⟩:=hj;have zF:(qv 46 s).all qI=false:=ak zF
   refine⟨.ret,_,[⟨1,4,1,[[Bo false]],0⟩],λl r h1 h2 h3 h4 h5=>⟨_,_,left r .ret,wR l s 46 hs (λ_=>⟨1,4,1,[[Bo false]],0⟩) (λk=>[r8 l (if k<j+1 then r else left r .ret) _]) j false hjl (.inl rfl) (λk p hk hp=>?_) (λp hp=>?_),
    gy (λx=>some (r8 l x _)) (c6 (gY (j+1))),aj,rfl,dA _,trivial,zm.low 1 _ _ V V V⟩,?_⟩
   .have e1:k<j+1:=by omega
    have e2:k+1<j+1:=ah
    simp only[c7 e1,c7 e2];refine qV.zJ (id:=3) V h1 h2 h3 h4 h5 V V V (uH ?_);refine⟨rfl,rfl,uH ?_⟩;refine af (jB p (hple _ _ hp)) ?_
    have hname:qI p=true:=by
     have h6:=hj2 k hk;rw[cV ah]at hp;cases hp
     simpa using h6
    refine⟨λ_=>dd ?_,λh=>absurd ((hname).symm.trans h:true=false) aq⟩;exact ct
   .simp only[c7 (rq j),c6 (gY (j+1))];refine qV.zJ (id:=3) V h1 h2 h3 h4 h5 V V V (uH ?_);refine⟨rfl,rfl,uH ?_⟩;refine af (jB p (hple _ _ hp)) ?_
    have hname:qI p=false:=by
     rw[cV hjl]at hp;cases hp
     simpa using hj1
    refine⟨λh=>absurd ((hname).symm.trans h:false=true) aq,λ_=>dd ?_⟩;exact⟨_,_,.refl _,rfl,.inr ⟨rfl,.inl ⟨rfl,rfl⟩⟩⟩
   .conv=>whnf
    (exact⟨.inl V,_,.refl _,uN (by simp[vh,zF])⟩)
def ks(s p:rK):Bool:=decide (p.length<=s.length) && (s.take p.length == p)
def CY(s p:rK):tc 306 [] [Tx s,Tx p] (Bo (ks s p)) []:=by
 refine ab func306 ?_;refine⟨λh=>?_,λh=>?_⟩
 .refine dd ?_;refine⟨ah,ah,by simp at h;omega,?_⟩;rw[toNat_cast,gH];conv=>whnf
  (repeat' (first|(refine⟨λ_=>?_,λ_=>?_⟩ <;> (conv=>whnf))|fail))
  all_goals (exact⟨.inl V,_,.refl _,uN (by simp_all[ks])⟩)
 .conv=>whnf
  (exact⟨.inl V,_,.refl _,uN (by simp_all[ks];intros;omega)⟩)
abbrev od(r:rK×Bool):C:=.rO [Tx r.1,Bo r.2]
def s7(s p:rK):rK×Bool:=if ks s p then (s.drop p.length,true) else (s,false)
def Di(s p:rK):tc 284 [] [Tx s,Tx p] (od (s7 s p)) []:=by
 refine ab func284 ?_;refine af (CY s p) ?_;refine⟨λh=>?_,λh=>?_⟩
 .refine dd ?_;have h':p.length<=s.length:=by simp[ks]at h;exact h.1
  refine⟨ah,ah,ah,?_⟩;rw[dy,toNat_cast];conv=>whnf
  have e:s7 s p=(s.drop p.length,true):=by unfold s7;rw[c7 h]
  exact cI
 .conv=>whnf
  have e:s7 s p=(s,false):=by unfold s7;rw[c6 aG]
  exact cI
def D6(s p:rK):tc 247 [] [Tx s,Tx p] (od (s7 s p)) []:=by
 refine ab func247 ?_;refine af (Di s p) ?_;(repeat' (first|(refine⟨λ_=>?_,λ_=>?_⟩ <;> (conv=>whnf))|fail))
 all_goals
  rename_i h;exact⟨.inl V,_,.refl _,gy (λb=>some (C.rO [Tx (s7 s p).1,Bo b])) h.symm⟩
def wS(s:rK):Bool:=if ks s [42,46] then vh (s.drop 2) else s == [42] || vh s
def Dn(s:rK)(hs:s.length<4611686018427387904):tc 207 [] [Tx s] (Bo (wS s)) []:=by
 refine ab func207 ?_;refine af (D6 s [42,46]) ?_;refine⟨λh=>?_,λh=>?_⟩
 .have h1:ks s [42,46]=true:=by
   cases e:ks s [42,46] with
   |true=>rfl
   |false=>simp[s7,e]at h
  have e:s7 s [42,46]=(s.drop 2,true):=by unfold s7;rw[c7 h1];rfl
  rw[e];refine dd ?_;refine af (oO (s.drop 2) aw) ?_;(repeat' (first|(refine⟨λ_=>?_,λ_=>?_⟩ <;> (conv=>whnf))|fail))
  all_goals (exact⟨.inl V,_,.refl _,uN (by simp_all[wS])⟩)
 .have h1:ks s [42,46]=false:=by
   cases e:ks s [42,46] with
   |false=>rfl
   |true=>simp[s7,e]at h
  have e:s7 s [42,46]=(s,false):=by unfold s7;rw[c6 bw]
  rw[e];refine dd ?_;refine⟨λh2=>?_,λh2=>?_⟩
  .refine dd ?_
   (exact⟨.inl V,_,.refl _,uN (by simp_all[wS])⟩)
  .refine dd ?_;refine af (oO s hs) ?_;(repeat' (first|(refine⟨λ_=>?_,λ_=>?_⟩ <;> (conv=>whnf))|fail))
   all_goals (exact⟨.inl V,_,.refl _,uN (by simp_all[wS])⟩)
def yf(s:rK):Bool:=decide (0<s.length) && decide (s.length<=32) && (match s with|c::_=>bI c == 47|[]=>false) && s5 j4 s 47
def FL(s:rK)(hs:s.length<4611686018427387904):tc 208 [] [Tx s] (Bo (yf s)) []:=by
 refine zb.zj (fn:=f208) func208 V ?_;cases s with
 |nil=>
  conv=>whnf
  refine hU ?_
  exact uI
 |cons c s=>
  conv=>whnf
  refine⟨λ_=>uH ?_,λh=>absurd h (by simp <;> omega)⟩;refine⟨λh1=>?_,λh1=>?_⟩
  .conv=>whnf
   refine⟨ah,c,rfl,uH ?_⟩;refine⟨λh2=>?_,λh2=>?_⟩
   .conv=>whnf
    refine af Ai ?_;refine af (ke (c::s) 47 hs) ?_;have h1':s.length<=31:=bC
    have e:yf (c::s)=s5 j4 (c::s) 47:=by unfold yf;simp[h2];omega
    refine⟨λh3=>?_,λh3=>?_⟩
    all_goals ((conv=>whnf);(exact⟨.inl V,_,.refl _,uN (by rw[e,h3])⟩))
   .conv=>whnf
    (exact⟨.inl V,_,.refl _,uN (by simp[yf,h2])⟩)
  .conv=>whnf
   (exact⟨.inl V,_,.refl _,uN (by simp[yf];simp at h1;omega)⟩)
def Ew(s:rK)(hs:s.length<4611686018427387904):tc 211 [] [Tx s] (Bo (yf s)) []:=by
 refine zb.zj (fn:=f211) func211 V ?_;cases s with
 |nil=>
  conv=>whnf
  refine hU ?_
  exact uI
 |cons c s=>
  conv=>whnf
  refine⟨λh=>absurd h (by simp <;> omega),λ_=>uH ?_⟩;refine⟨λh1=>?_,λh1=>?_⟩
  .conv=>whnf
   (exact⟨.inl V,_,.refl _,uN (by simp[yf];simp at h1;omega)⟩)
  .conv=>whnf
   refine⟨ah,c,rfl,uH ?_⟩;refine⟨λh2=>?_,λh2=>?_⟩
   .conv=>whnf
    (exact⟨.inl V,_,.refl _,uN (by simp[yf];simp at h2;simp[h2])⟩)
   .conv=>whnf
    have h1':s.length<=31:=bC
    have e:yf (c::s)=s5 j4 (c::s) 47:=by unfold yf;simp at h2;simp[h2];omega
    rw[e]
    clear e h2 h1
    refine zp.seq (c::s).length (λk=>((Tx (c::s))::.za::Bo false::I k::tJ (tJ (tJ ([.za,.za,.za,.za,.za,.za]))))) (λk=>[]) (λk=>∀j,(h:j<(c::s).length)->j<k->(bI (c::s)[j] == 47 || j4 (bI (c::s)[j]))=true) ?_ aj (λk hk hr=>?_) (λhr=>?_)
    .exact cC
    .have nx:((bI (c::s)[k] == 47 || j4 (bI (c::s)[k]))=true)->∀j,(h:j<(c::s).length)->j<k+1->(bI (c::s)[j] == 47 || j4 (bI (c::s)[j]))=true:=λh2 j hj hjk=>by
      by_cases e:j=k
      .subst e;exact h2
      .exact cF
     conv=>whnf
     refine⟨λh=>uH ?_,λh=>absurd h (by simp at hk|-;omega)⟩;refine⟨ah,(c::s)[k],by rw[toNat_cast,cV hk],?_⟩;conv=>whnf
     refine af (o5 (bI (c::s)[k])) ?_;refine⟨λh2=>?_,λh2=>?_⟩
     .conv=>whnf
      refine .inl ⟨rfl,?_,nx bz⟩;exact cg
     .conv=>whnf
      refine⟨ah,(c::s)[k],by rw[toNat_cast,cV hk],?_⟩;conv=>whnf
      refine⟨λh3=>?_,λh3=>?_⟩
      .conv=>whnf
       refine zaq ?_
       (exact⟨.inl V,_,.refl _,uN (by symm;unfold s5;rw[gi];exact⟨_,dn hk,by simp at h3;simp[h2,h3]⟩)⟩)
      .conv=>whnf
       refine .inl ⟨rfl,?_,nx (by simp at h3;simp[h3])⟩;exact cg
    .conv=>whnf
     refine⟨λh=>absurd h aj,λh=>uH ?_⟩;refine zaI ?_
     (exact⟨.inl V,_,.refl _,uN (by symm;unfold s5;rw[c8];intro x hx;obtain⟨j,hj,rfl⟩:=dk.1 hx;exact hr j hj hj)⟩)
def Bb{b:UInt8}{q:rK}:∀{p:rK},b∉p->qv b (p++b::q)=p::qv b q
 |[],_=>by simp[qv]
 |c::p,h=>by
  have h1:(c == b)=false:=bD
  have h2:=Bb (p:=p) (q:=q) λe=>h (dV _ e)
  simp[qv,h1,h2]
def yp(b:UInt8)(s:rK):Nat->List rK×Nat
 |0=>([],0)
 |k+1=>match s[k]? with
  |some c=>if c == b then ((yp b s k).1++[(s.take k).drop (yp b s k).2],k+1) else yp b s k
  |none=>yp b s k
def mD(b:UInt8)(s:rK):∀k,k<=s.length->(yp b s k).2<=k/\(yp b s k).1.length<=k/\b∉(s.take k).drop (yp b s k).2/\qv b s=(yp b s k).1++qv b (s.drop (yp b s k).2)
 |0,_=>⟨de _,de _,aj,rfl⟩
 |k+1,hk=>by
  obtain⟨h1,h4,h2,h3⟩:=mD b s k ah;have hg:s[k]?=some s[k]:=cV ah;have ht:s.take (k+1)=s.take k++[s[k]]:=by rw[List.take_add_one,hg];rfl
  unfold yp;rw[hg];dsimp only;by_cases e:s[k]=b
  .rw[c7 (ak e)];refine⟨de _,aw,aj,?_⟩;rw[h3];have h5:s.take k++b::s.drop (k+1)=s:=by rw[<-e,<-pz,pP]
   have this:∀a,a<=k->s.drop a=(s.take k).drop a++b::s.drop (k+1):=λa ha=>by
    have h6:=gy (List.drop a) h5;rw[pX aw]at h6;exact h6.symm
   rw[this _ h1,Bb h2];simp
  .rw[c6 (ak e)];refine⟨ah,ah,?_,h3⟩;rw[ht,pX aw];simp only[dU,dC,not_or];exact⟨h2,λe2=>e e2.symm⟩
def D0(s:rK)(b:UInt8)(hs:s.length<8000000000000):tc 286 [] [Tx s,By (bI b)] (lT (qv b s)) []:=by
 refine ab func286 ?_;refine zp.seq s.length (λk=>((Tx s)::(By (bI b))::.za::.za::.rG 1 0 []::.gl 0 1 ((yp b s k).1.map jJ)::I (yp b s k).2::I k::tJ (tJ (tJ ([.za,.za,.za]))))) (λk=>[⟨4,9,1,(yp b s k).1.map jJ,0⟩]) (λ_=>True) ?_ trivial (λk hk _=>?_) (λ_=>?_)
 .exact(zm.grow 5 9 1 V (.inl V)).trans (cC)
 .obtain⟨h1,h2,_,_⟩:=mD b s k ah;have hg:s[k]?=some s[k]:=cV hk;conv=>whnf
  refine⟨λh=>uH ?_,λh=>absurd h aw⟩;refine⟨ah,s[k],by rw[toNat_cast,hg],uH ?_⟩;refine⟨λh3=>?_,λh3=>?_⟩
  .have e:yp b s (k+1)=((yp b s k).1++[(s.take k).drop (yp b s k).2],k+1):=by
    show(match s[k]? with|some c=>_|none=>_)=_;rw[hg];dsimp only;rw[c7 (by have h6:s[k]=b:=UInt8.toNat_inj.1 (by simp[bI]at h3;omega);simp[h6])]
   conv=>whnf
   refine⟨ah,ah,ah,ah,?_⟩;rw[toNat_cast,toNat_cast];conv=>whnf
   refine⟨rfl,.inr V,aH,by show _*16<=_;simp;omega,uH ?_⟩;refine zat ?_;rw[zk ah,e];dsimp only;rw[g4];exact cE 1
  .have e:yp b s (k+1)=yp b s k:=by
    show(match s[k]? with|some c=>_|none=>_)=_;rw[hg];dsimp only;rw[c6 (by simp[bI]at h3;intro e;simp at e;exact h3 (by rw[e]))]
   conv=>whnf
   refine zat ?_;rw[zk ah,e];exact cE 1
 .obtain⟨h1,h2,h3,h4⟩:=mD b s s.length (de _)
  have h5:qv b s=(yp b s s.length).1++[s.drop (yp b s s.length).2]:=by
   rw[dy]at h3;rw[h4,yM h3]
  conv=>whnf
  refine⟨λh=>absurd h aj,λh=>uH ?_⟩;refine zaI ?_;refine⟨ah,ah,ah,?_⟩;rw[toNat_cast,dy];conv=>whnf
  refine⟨rfl,.inr V,aH,by show _*16<=_;simp;omega,uH ?_⟩;rw[h5];exact⟨.inl V,_,.refl _,gy (λx=>some (C.rG 0 1 x)) (g4 (f:=jJ) (l₁:=(yp b s s.length).1) (l₂:=[s.drop (yp b s s.length).2])).symm⟩
def vP(s:rK)(hs:s.length<8000000000000):tc 249 [] [Tx s] (Bo (vh s)) []:=by
 have hle:=Bp 46 s;refine ab func249 ?_;refine af (D0 s 46 hs) ?_;refine zp.seq (qv 46 s).length (λk=>((Tx s)::.za::Bo false::(lT (qv 46 s))::I k::tJ (tJ ([.za])))) (λk=>[]) (λk=>∀j,(h:j<(qv 46 s).length)->j<k->qI (qv 46 s)[j]=true) ?_ aj (λk hk hr=>?_) (λhr=>?_)
 .exact cC
 .have hp:(qv 46 s)[k].length<4611686018427387904:=by
   have:=BC 46 s k (qv 46 s)[k] (cV hk);omega
  conv=>whnf
  refine⟨λh=>uH ?_,λh=>absurd h aw⟩;refine⟨ah,jJ (qv 46 s)[k],by rw[toNat_cast,cX,cV hk];rfl,?_⟩;conv=>whnf
  refine af (yD (qv 46 s)[k] hp) ?_;refine⟨λh2=>?_,λh2=>?_⟩
  .conv=>whnf
   refine .inl ⟨rfl,?_,?_⟩
   .exact cg
   .intro j hj hjk;by_cases e:j=k
    .subst e;exact h2
    .exact cF
  .conv=>whnf
   refine zaq ?_;have zF:(qv 46 s).all qI=false:=by rw[gi];exact⟨_,dn hk,bz⟩
   (exact⟨.inl V,_,.refl _,uN (by simp[vh,zF])⟩)
 .conv=>whnf
  refine⟨λh=>absurd h aj,λh=>uH ?_⟩;refine⟨aj,?_⟩;have zF:(qv 46 s).all qI=true:=by rw[c8];intro x hx;obtain⟨j,hj,rfl⟩:=dk.1 hx;exact hr j hj hj
  conv=>whnf
  (repeat' (first|(refine⟨λ_=>?_,λ_=>?_⟩ <;> (conv=>whnf))|fail))
  all_goals (rename_i h1;(exact⟨.inl V,_,.refl _,uN (by simp[vh,zF];simp at h1;omega)⟩))
def H4(h:2<s.length)(h2:s.take 2=[42,46]):wS s=vh (s.drop 2):=by
 have:ks s [42,46]=true:=by simp[ks,h2];omega
 simp[wS,this]
def BE(h:s.length<=2\/s.take 2≠[42,46]):wS s=(s == [42] || vh s):=by
 cases e:ks s [42,46] with
 |false=>simp[wS,e]
 |true=>
  simp[ks]at e;rcases h with h|h
  .rw[gP h]at e;rw[e.2]
   decide
  .exact absurd e.2 h
def Dy(s:rK)(hs:s.length<8000000000000):tc 210 [] [Tx s] (Bo (wS s)) []:=by
 refine ab func210 ?_;refine⟨λh=>?_,λh=>?_⟩
 .refine dd ?_;refine⟨ah,aj,by simp at h|-;omega,?_⟩;rw[gH,show Int.toNat 2=2 from V];refine dd ?_;refine⟨λh2=>?_,λh2=>?_⟩
  .refine dd ?_;refine⟨ah,by simp at h|-;omega,ah,?_⟩;rw[dy,show Int.toNat 2=2 from V];refine dd ?_;rw[H4 (by simp at h;omega) (ak h2)];refine af (vP (s.drop 2) aw) ?_;(repeat' (first|(refine⟨λ_=>?_,λ_=>?_⟩ <;> (conv=>whnf))|fail))
   all_goals (rename_i h3;(exact⟨.inl V,_,.refl _,uN (by exact h3.symm)⟩))
  .refine dd ?_;rw[BE (.inr (ak h2))];refine⟨λh3=>?_,λh3=>?_⟩
   .refine dd ?_
    (exact⟨.inl V,_,.refl _,uN (by rw[h3];rfl)⟩)
   .refine dd ?_;refine af (vP s hs) ?_;(repeat' (first|(refine⟨λ_=>?_,λ_=>?_⟩ <;> (conv=>whnf))|fail))
    all_goals (rename_i h4;(exact⟨.inl V,_,.refl _,uN (by rw[h3,h4];rfl)⟩))
 .refine dd ?_;rw[BE (.inl (by simp at h;omega))];refine⟨λh3=>?_,λh3=>?_⟩
  .refine dd ?_
   (exact⟨.inl V,_,.refl _,uN (by rw[h3];rfl)⟩)
  .refine dd ?_;refine af (vP s hs) ?_;(repeat' (first|(refine⟨λ_=>?_,λ_=>?_⟩ <;> (conv=>whnf))|fail))
   all_goals (rename_i h4;(exact⟨.inl V,_,.refl _,uN (by rw[h3,h4];rfl)⟩))
end Go.Nam
namespace Go.Hos
open Go.Ab Go.Proofs Tryz Go.Hy Go.Gat Go.Nam
def Cn(s t:rK):Bool:=decide (t.length<=s.length) && (s.drop (s.length-t.length) == t)
def Jk(p h:rK):Bool:=match p with
 |c::t=>c == 42 && (t == [] || (decide (t.length<h.length) && Cn h t))
 |[]=>false
def IH(p h:rK):Bool:=wS p && vh h && (p == h || Jk p h)
def Jo(p t:rK):Bool:=yf p && yf t && ks p t && (p.drop t.length == [] || Cn t [47] || (p.drop t.length).head? == some 47)
def iq(p:rK):Int:=if wS p then (if ks p [42,46] then ((p.length-2:Nat):Int) else if p == [42] then 0 else 100) else 0
def Im(p q p' q':rK):Bool:=if iq p=iq p' then decide (q'.length<q.length) else decide (iq p'<iq p)
end Go.Hos
namespace Go.Con
open Go.Ab Go.Proofs Tryz Go.Hy Go.Gat Go.Nam Go.Hos
variable{H:zf}{f:FuncId}{caps:List C}{l:List r7}
def yz{α:Type}(l:List α)(p:α->Bool):decide ((match l.findIdx? p with|some i=>(i:Int)|none=> -1)≥0)=l.any p:=by
 cases h:l.findIdx? p with
 |none=>
  rw[dt]at h
  symm
  simp only[Int.reduceNeg,ge_iff_le,Int.reduceLE,decide_false];rw[dv];intro x hx;simp[h x hx]
 |some i=>
  obtain⟨h1,h2,_⟩:=dh.1 h
  symm
  have:(0:Int)<=(i:Int):=Int.natCast_nonneg i;simp only[ge_iff_le,this,decide_true];rw[dQ];exact⟨_,dn h1,h2⟩
abbrev Cc(c:r7):C:=.agg (qF c)
def Fb(p:r7->Bool)(hcb:zC prog f=true)(hp:∀r∈l,tc f H ([Cc r]++caps) (Bo (p r)) H)(hl:l.length<4611686018427387904):
  tc 283 H [lC l,.fn f [] caps] (I (match l.findIdx? p with|some i=>(i:Int)|none=> -1)) H:=by
 refine zb.zJ (fn:=f283) func283 V (uH ?_)
 refine zp.inv (λn t1 H1=>∃k,k+n=l.length/\H1=H/\(∀j,j<k->∀r,l[j]?=some r->p r=false)/\
   t1=((lC l)::.fn f [] caps::.za::.za::I 0::.za::.za::I (l.map qF).length::I k::tJ ([.za,.za]))) l.length ?_ ?_
 .exact bZ
 rintro n _ _ ⟨k,hk,rfl,hno,rfl⟩;conv=>whnf
 refine⟨λh=>?_,λh=>?_⟩
 .conv=>whnf
  have rF:k<l.length:=ak h
  refine⟨ah,qF l[k],al,uH ?_⟩;rw[hcb];refine⟨_,_,hp _ (dn rF),uH ?_⟩;refine⟨λh2=>?_,λh2=>?_⟩
  .conv=>whnf
   refine zae ?_
   have:l.findIdx? p=some k:=by
    rw[dh];refine⟨rF,h2,λj hj=>?_⟩;simp[hno j hj _ (cV ah)]
   rw[this]
   rfl
  .conv=>whnf
   refine .inl ⟨rfl,n-1,_,_,ah,zm.mask [0,1,4,7,8] _ _,k+1,ah,rfl,?_,?_⟩
   .intro j hj r hr;by_cases hjk:j=k
    .subst hjk;rw[cV rF]at hr;cases hr
     exact h2
    .exact cS
   .rw[zk ah];rfl
 .conv=>whnf
  refine zae ?_
  have:l.findIdx? p=none:=by
   rw[dt];intro x hx;obtain⟨j,hj⟩:=di.1 hx;have hjl:=(cW.1 hj).1;have:¬k<l.length:=ak h
   exact cR
  rw[this]
  rfl
def Fy(p:r7->Bool)(hcb:zC prog f=true)(hp:∀r∈l,tc f H ([Cc r]++caps) (Bo (p r)) H)(hl:l.length<4611686018427387904):
  tc 245 H [lC l,.fn f [] caps] (Bo (l.any p)) H:=by
 refine zb.zJ (fn:=f245) func245 V (uH ?_);refine⟨_,_,Fb p hcb hp hl,dd ?_⟩;refine zak ?_;refine⟨λh=>?_,λh=>?_⟩ <;> rw[h]
 .exact cA
 .exact cA
def Ed(s:rK)(c:r7):tc 246 [⟨1,9,1,[[Tx s]],0⟩] [Cc c,.ref 0 [] 1 0 0] (Bo (c.name == s)) [⟨1,9,1,[[Tx s]],0⟩]:=by
 refine zb.zJ (fn:=f246) func246 V (uH ?_);refine⟨λh=>?_,λh=>?_⟩ <;> rw[h]
 .conv=>whnf
  exact b9
 .conv=>whnf
  exact b9
def jS(l:List r7)(s:rK):Bool:=l.any λc=>c.name == s
def ot(l:List r7)(s:rK)(hl:l.length<4611686018427387904):tc 206 [] [lC l,Tx s] (Bo (jS l s)) []:=by
 refine ab func206 ?_;refine⟨_,_,Fy (λc=>c.name == s) an (λr _=>Ed s r) hl,dd ?_⟩;refine⟨λh=>?_,λh=>?_⟩
 .refine dd ?_
  (exact⟨.inl V,_,.refl _,uN (by exact h.symm)⟩)
 .refine dd ?_
  (exact⟨.inl V,_,.refl _,uN (by exact h.symm)⟩)
def jm(n a b:Int):tc 205 [] [I n,I a,I b] (Bo (decide (a<=n) && decide (n<=b))) []:=by
 refine ab func205 ?_;(repeat' (first|(refine⟨λ_=>?_,λ_=>?_⟩ <;> (conv=>whnf))|fail))
 all_goals (exact⟨.inl V,_,.refl _,uN (by simp_all <;> omega)⟩)
def vH(l:List rK)(s:rK):Int:=match l.findIdx? (λx=>x == s) with|some i=>(i:Int)|none=> -1
def Fh(l:List rK)(s:rK)(hl:l.length<4611686018427387904):tc 166 [] [lT l,Tx s] (I (vH l s)) []:=by
 have hlm:(l.map jJ).length=l.length:=cY ..;refine ab func166 ?_;rw[hlm];refine zp.seq l.length (λk=>((lT l)::(Tx s)::.za::.za::I 0::.za::.za::I l.length::I k::tJ ([.za,.za]))) (λk=>[]) (λk=>∀j,(h:j<l.length)->j<k->(l[j] == s)=false) ?_ aj (λk hk hr=>?_) (λhr=>?_)
 .exact cC
 .have hg:(l.map jJ)[k]?=some (jJ l[k]):=by rw[cX,cV hk];rfl
  conv=>whnf
  refine zaP ?_;refine⟨λh2=>?_,λh2=>?_⟩
  .refine dd ?_;refine zaq ?_
   have e:vH l s=k:=by
    unfold vH
    have:l.findIdx? (λx=>x == s)=some k:=by
     rw[dh];refine⟨hk,?_,λj hj=>by simp only[hr j ah hj];decide⟩;simp at h2;simp[h2]
    rw[this]
   exact cI
  .refine dd ?_;refine .inl ⟨rfl,?_,λj hj hjk=>?_⟩
   .exact cg
   .by_cases e:j=k
    .subst e;simp at h2|-;exactλh=>h2 h.symm
    .exact cF
 .conv=>whnf
  refine zai ?_
  have e:vH l s= -1:=by
   unfold vH
   have:l.findIdx? (λx=>x == s)=none:=by
    rw[dt];intro x hx;obtain⟨j,hj,rfl⟩:=dk.1 hx;exact hr j hj hj
   rw[this]
  exact cI
def A3(l:List rK)(s:rK):decide (vH l s≥0)=l.any (λx=>x == s):=yz l _
def oV(l:List rK)(s:rK)(hl:l.length<4611686018427387904):tc 92 [] [lT l,Tx s] (Bo (l.any λx=>x == s)) []:=by
 refine ab func92 ?_;refine af (Fh l s hl) ?_;rw[A3];refine⟨λh=>?_,λh=>?_⟩
 .refine dd ?_
  (exact⟨.inl V,_,.refl _,uN (by exact h.symm)⟩)
 .refine dd ?_
  (exact⟨.inl V,_,.refl _,uN (by exact h.symm)⟩)
end Go.Con
