import Derived.Lib.Bytealg
import Derived.WalkKit
import Derived.IntWalk
import Derived.Test.YtgllekalddijbaaGreatUC
import Derived.Test.YtgllekalddijbaaGreatUJ
import Derived.Test.YtgllekalddijbaaGreatProg
set_option linter.unusedVariables false
set_option linter.unusedSimpArgs false
set_option linter.unusedSectionVars false
set_option maxRecDepth 100000
set_option maxHeartbeats 4000000
namespace Go.Gat
open Go.Ab Go.Proofs Go.Hy
def zkw (n:Int):Bool:=decide (97<=n) && decide (n<=122)
def y9 (n:Int):Bool:=zkw n || (decide (48<=n) && decide (n<=57)) || (n == 45)
abbrev By (n:Int):C:=.v (.int .u8 n)
theorem zc9 (n:Int):zb Tryz.prog 163 [] [By n] (Bo (zkw n)) []:=by
 refine zb.zm (fn:=Tryz.f163) Tryz.func163 rfl ?_
 conv=>whnf
 (repeat' (first | (refine ⟨fun _=>?_,fun _=>?_⟩ <;> (conv=>whnf)) | fail))
 all_goals (exact ⟨.inl rfl,_,.refl _,congrArg (fun b=>some (C.v (Value.bool b))) (by simp_all [zkw] <;> (intros;omega))⟩)
theorem zfD (n:Int):zb Tryz.prog 236 [] [By n] (Bo (y9 n)) []:=by
 refine zb.zm (fn:=Tryz.f236) Tryz.func236 rfl ?_
 conv=>whnf
 refine ⟨_,_,(zc9 n).frame rfl _,?_⟩;refine dd ?_
 (repeat' (first | (refine ⟨fun _=>?_,fun _=>?_⟩ <;> (conv=>whnf)) | fail))
 all_goals (exact ⟨.inl rfl,_,.refl _,congrArg (fun b=>some (C.v (Value.bool b))) (by simp_all [y9] <;> (intros;omega))⟩)
theorem zcv:zb Tryz.prog 164 [] [] (.agg [.fn 236 [] []]) []:=by
 refine zb.zm (fn:=Tryz.f164) Tryz.func164 rfl ?_
 conv=>whnf
 exact ⟨.inl rfl,_,.refl _,rfl⟩
abbrev bI (c:UInt8):Int:=(c.toNat:Int)
def zcx (p:Int->Bool) (s:Str) (other:Int):Bool:=s.all fun c=>bI c == other || p (bI c)
theorem zfH {p:Int->Bool} {s:Str} {other:Int} {k:Nat} (hk:k < s.length) (h1:(bI s[k] == other)=false) (h2:p (bI s[k])=false):zcx p s other=false:=by
 unfold zcx
 rw [List.all_eq_false]
 exact ⟨s[k],List.getElem_mem hk,by simp [h1,h2]⟩
theorem vJ (s:Str) (other:Int) (hs:s.length < 4611686018427387904):zb Tryz.prog 165 [] [.agg [.fn 236 [] []],Tx s,By other] (Bo (zcx y9 s other)) []:=by
 refine zb.zm (fn:=Tryz.f165) Tryz.func165 rfl ?_
 conv=>whnf
 refine zM.seq s.length (fun k=>[.agg [.fn 236 [] []],Tx s,By other,.ref 0 [] 1 0 0,.za,.za,Bo false,.za,.za,I s.length,I k,.za,.za,.za,.za,.za,.za,.za,.za,.za,.za,.za,.za,.za,.za,.za,.za,.za]) (fun k=>[⟨1,211,1,[[.fn 236 [] []]],0⟩]) (fun k=>∀ j,(h:j < s.length)->j < k->(bI s[j] == other || y9 (bI s[j]))=true) ?_ (by simp) (fun k hk hr=>?_) (fun hr=>?_)
 ·exact cC
 ·conv=>whnf
  refine ⟨fun h=>?_,fun h=>absurd h (by simp;omega)⟩
  conv=>whnf
  refine .inl ⟨⟨false,[],[],[]⟩,by kernel_rfl,?_⟩;(conv=>whnf)
  refine ⟨by omega,s[k],by simp [hk],?_⟩
  conv=>whnf
  refine ⟨fun h1=>?_,fun h1=>?_⟩
  ·refine dd ?_
   refine ⟨by omega,s[k],by simp [hk],?_⟩
   refine dd ?_
   refine ⟨_,_,(zfD (bI s[k])).frame rfl _,?_⟩;refine dd ?_
   refine ⟨fun h2=>?_,fun h2=>?_⟩
   ·refine dd ?_
    refine .inl ⟨rfl,?_,?_⟩
    ·rw [zp (by omega)]
     exact cE 1
    ·intro j hj hjk
     by_cases e:j=k
     ·subst e;simp [h2]
     ·exact hr j hj (by omega)
   ·refine dd ?_
    refine .inr ⟨by simp,?_⟩
    conv=>whnf
    (exact ⟨.inl rfl,_,.refl _,congrArg (fun b=>some (C.v (Value.bool b))) (by exact (zfH hk (by simpa using h1) h2).symm)⟩)
  ·refine dd ?_
   refine .inl ⟨rfl,?_,?_⟩
   ·rw [zp (by omega)]
    exact cE 1
   ·intro j hj hjk
    by_cases e:j=k
    ·subst e;simp at h1;simp [h1]
    ·exact hr j hj (by omega)
 ·conv=>whnf
  refine ⟨fun h=>absurd h (by simp),fun h=>?_⟩
  conv=>whnf
  refine ⟨by simp,?_⟩
  conv=>whnf
  have e:zcx y9 s other=true:=by
   unfold zcx
   rw [List.all_eq_true]
   intro x hx
   obtain ⟨j,hj,rfl⟩:=List.mem_iff_getElem.1 hx
   exact hr j hj hj
  exact ⟨.inl rfl,_,.refl _,by rw [e];rfl⟩
def jH (s:Str):Bool:=decide (0 < s.length) && decide (s.length<=16) && (match s with | c::_=>zkw (bI c) | []=>false) && s.all fun c=>y9 (bI c)
theorem zhI (s:Str):zcx y9 s 45=s.all fun c=>y9 (bI c):=by
 unfold zcx
 congr 1
 funext c
 cases h:(bI c == 45) with
 | false=>rfl
 | true=>simp at h;simp [y9,h]
theorem ju (s:Str) (hs:s.length < 4611686018427387904):zb Tryz.prog 109 [] [Tx s] (Bo (jH s)) []:=by
 refine zb.zm (fn:=Tryz.f109) Tryz.func109 rfl ?_
 cases s with
 | nil=>
  conv=>whnf
  (repeat ((first | apply ya | apply yb);refine dd ?_))
  exact ⟨.inl rfl,_,.refl _,rfl⟩
 | cons c s=>
  conv=>whnf
  refine ⟨fun _=>?_,fun h=>absurd h (by simp <;> omega)⟩
  conv=>whnf
  refine ⟨fun h1=>?_,fun h1=>?_⟩
  ·conv=>whnf
   refine ⟨by omega,c,rfl,?_⟩
   conv=>whnf
   refine ⟨_,_,(zc9 (bI c)).frame rfl _,?_⟩;refine dd ?_
   refine ⟨fun h2=>?_,fun h2=>?_⟩
   ·conv=>whnf
    refine ⟨_,_,(zcv).frame rfl _,?_⟩;refine dd ?_
    refine ⟨_,_,(vJ (c::s) 45 hs).frame rfl _,?_⟩;refine dd ?_
    have h1':s.length<=15:=by have:=h1;simp at this;omega
    have e:jH (c::s)=zcx y9 (c::s) 45:=by rw [zhI];unfold jH;simp [h2];omega
    refine ⟨fun h3=>?_,fun h3=>?_⟩
    all_goals ((conv=>whnf);(exact ⟨.inl rfl,_,.refl _,congrArg (fun b=>some (C.v (Value.bool b))) (by rw [e,h3])⟩))
   ·conv=>whnf
    (exact ⟨.inl rfl,_,.refl _,congrArg (fun b=>some (C.v (Value.bool b))) (by simp [jH,h2])⟩)
  ·conv=>whnf
   (exact ⟨.inl rfl,_,.refl _,congrArg (fun b=>some (C.v (Value.bool b))) (by simp [jH];simp at h1;omega)⟩)
end Go.Gat
namespace Go.Nam
open Go.Ab Go.Proofs Go.Hy Go.Gat Go.RowKit
def jU (b:UInt8) (s:Str):Str:=s.takeWhile (· != b)
def kl (b:UInt8) (s:Str):Str:=(s.dropWhile (· != b)).drop 1
def jc (b:UInt8):Str->List Str
 | []=>[[]]
 | c::s=>if c == b then []::jc b s else match jc b s with
  | p::ps=>(c::p)::ps
  | []=>[[c]]
theorem zhd (b:UInt8) (s:Str):jc b s≠[]:=by
 cases s with
 | nil=>simp [jc]
 | cons c s=>unfold jc;split;simp;split <;> simp
theorem vO {b:UInt8}:∀ {s:Str},b ∉ s->jc b s=[s]
 | [],_=>rfl
 | c::s,h=>by
  have h1:(c == b)=false:=by simp;intro e;subst e;exact h (List.mem_cons_self ..)
  have h2:=vO (s:=s) fun e=>h (List.mem_cons_of_mem _ e)
  simp [jc,h1,h2]
theorem yz {b:UInt8}:∀ {s:Str},b ∈ s->jc b s=jU b s::jc b (kl b s)
 | [],h=>by simp at h
 | c::s,h=>by
  by_cases e:c=b
  ·subst e;simp [jc,jU,kl]
  ·have h1:(c == b)=false:=by simpa using e
   have h2:=yz (s:=s) (by rcases List.mem_cons.1 h with h | h;exact absurd h.symm e;exact h)
   have h3:(c != b)=true:=by simpa using e
   simp only [jc,h1,Bool.false_eq_true,if_false,h2,jU,kl,List.takeWhile_cons,List.dropWhile_cons,h3,if_true]
theorem ze4 {b:UInt8}:∀ {s:Str},b ∉ s->Lib.indexByte s b= -1
 | [],_=>rfl
 | c::s,h=>by
  have h1:(c == b)=false:=by simp;intro e;subst e;exact h (List.mem_cons_self ..)
  have h2:=ze4 (s:=s) fun e=>h (List.mem_cons_of_mem _ e)
  simp [Lib.indexByte,h1,h2]
theorem zbT {b:UInt8}:∀ {s:Str},b ∈ s->Lib.indexByte s b=((jU b s).length:Int)
 | [],h=>by simp at h
 | c::s,h=>by
  by_cases e:c=b
  ·subst e;simp [Lib.indexByte,jU]
  ·have h1:(c == b)=false:=by simpa using e
   have h3:(c != b)=true:=by simpa using e
   have h2:=zbT (s:=s) (by rcases List.mem_cons.1 h with h | h;exact absurd h.symm e;exact h)
   have h4:((jU b s).length == (-1:Int))=false:=by rw [beq_eq_false_iff_ne];omega
   simp only [Lib.indexByte,h1,Bool.false_eq_true,if_false,h2,jU,List.takeWhile_cons,h3,if_true,List.length_cons]
   rw [show ((↑(List.takeWhile (fun x=>x != b) s).length:Int) == -1)=false from h4]
   simp
theorem head_take (b:UInt8) (s:Str):s.take (jU b s).length=jU b s:=by
 induction s with
 | nil=>rfl
 | cons c s ih=>
  by_cases e:c=b
  ·subst e;simp [jU]
  ·have h3:(c != b)=true:=by simpa using e
   simp only [jU,List.takeWhile_cons,h3,if_true,List.length_cons,List.take_succ_cons]
   rw [show List.take (List.takeWhile (fun x=>x != b) s).length s=jU b s from ih];rfl
theorem tail_drop (b:UInt8) (s:Str):s.drop ((jU b s).length+1)=kl b s:=by
 induction s with
 | nil=>rfl
 | cons c s ih=>
  by_cases e:c=b
  ·subst e;simp [jU,kl]
  ·have h3:(c != b)=true:=by simpa using e
   simp only [jU,kl,List.takeWhile_cons,List.dropWhile_cons,h3,if_true,List.length_cons,List.drop_succ_cons]
   exact ih
theorem zdS {b:UInt8} {s:Str} (h:b ∈ s):(jU b s).length < s.length:=by
 have h1:=tail_drop b s
 have h2:s.length≠0:=by intro e;rw [List.length_eq_zero_iff.1 e] at h;simp at h
 have h3:(jU b s).length<=s.length:=List.Sublist.length_le (List.takeWhile_sublist _)
 rcases Nat.lt_or_ge (jU b s).length s.length with h4 | h4
 ·exact h4
 ·have h5:=head_take b s
  rw [List.take_of_length_le h4] at h5
  have:b ∈ jU b s:=by rw [<- h5];exact h
  have:=List.all_takeWhile (l:=s) (p:=(· != b))
  rw [List.all_eq_true] at this
  have:=this b (by assumption)
  simp at this
def q5 (b:UInt8) (s:Str):Nat->Str
 | 0=>s
 | k+1=>kl b (q5 b s k)
theorem zbI {b:UInt8}:∀ {k:Nat} {s:Str},k+1 < (jc b s).length->b ∈ q5 b s k∧(jc b s)[k]?= some (jU b (q5 b s k))∧jc b (q5 b s (k+1))=(jc b s).drop (k+1)
 | 0,s,h=>by
  have hb:b ∈ s:=by
   rcases Classical.em (b ∈ s) with h1 | h1
   ·exact h1
   ·rw [vO h1] at h;simp at h
  exact ⟨hb,by rw [yz hb];rfl,by rw [yz hb];rfl⟩
 | k+1,s,h=>by
  obtain ⟨h1,h2,h3⟩:=zbI (b:=b) (k:=k) (s:=s) (by omega)
  have hb:b ∈ q5 b s (k+1):=by
   rcases Classical.em (b ∈ q5 b s (k+1)) with h4 | h4
   ·exact h4
   ·rw [vO h4] at h3
    have:=congrArg List.length h3
    simp at this
    omega
  have h5:=yz hb
  rw [h3] at h5
  refine ⟨hb,?_,?_⟩
  ·have:=congrArg (fun l=>l[0]?) h5
   simpa using this
  ·have:=congrArg (fun l=>l.drop 1) h5
   simp at this
   show jc b (kl b (q5 b s (k+1)))=_
   rw [<- this]
theorem zeN {b:UInt8} {k:Nat} {s:Str} (h:k+1=(jc b s).length):b ∉ q5 b s k∧(jc b s)[k]?= some (q5 b s k):=by
 have h3:jc b (q5 b s k)=(jc b s).drop k:=by
  cases k with
  | zero=>rfl
  | succ k=>exact (zbI (b:=b) (s:=s) (k:=k) (by omega)).2.2
 have h4:b ∉ q5 b s k:=by
  intro hb
  rw [yz hb] at h3
  have:=congrArg List.length h3
  have h5:(jc b (kl b (q5 b s k))).length≠0:=by
   intro e;exact zhd b _ (List.length_eq_zero_iff.1 e)
  simp at this
  omega
 refine ⟨h4,?_⟩
 rw [vO h4] at h3
 have:=congrArg (fun l=>l[0]?) h3
 simpa using this.symm
theorem wz (b:UInt8) (s:Str):∀ k,(q5 b s k).length<=s.length
 | 0=>Nat.le_refl _
 | k+1=>by
  have h1:((q5 b s k).dropWhile (· != b)).length<=(q5 b s k).length:=List.Sublist.length_le (List.dropWhile_sublist _)
  have:=wz b s k
  simp only [q5,kl,List.length_drop]
  omega
theorem zh1 (s:ByteArray) (c:Int) (w:World):Calls Tryz.prog 336 #[.string s,.int .u8 c] w fun e w'=>e=.returned (.int .i64 (Lib.indexByte s.data.toList c.toNat.toUInt8))∧w'=w:=by
 go_enter Tryz.func336,Tryz.ntmps336
 go_wp2
 rw [run_callFunc_extern Tryz.func343 (by kernel_rfl) (by kernel_rfl) (by kernel_rfl) (e:=Extern.BytealgIndexByte.indexByte) (by kernel_rfl),Lib.run_indexByteString]
 simp only [Result.andThen]
 rw [Oper.upon_value]
 go_wp2
 go_ret
 exact ⟨rfl,rfl⟩
theorem zgc (s:Str) (b:UInt8):zb Tryz.prog 336 [] [Tx s,By (bI b)] (I (Lib.indexByte s b)) []:=by
 have e:(bI b).toNat.toUInt8=b:=by simp [bI]
 refine zb3 [] (fun w=>?_) zkX fun E=>.v _ rfl
 have:=zh1 ⟨⟨s⟩⟩ (bI b) w
 rw [e] at this
 exact this
theorem yG (s:Str) (b:UInt8):zb Tryz.prog 331 [] [Tx s,By (bI b)] (I (Lib.indexByte s b)) []:=by
 refine zb.zm (fn:=Tryz.f331) Tryz.func331 rfl ?_
 conv=>whnf
 refine ⟨_,_,(zgc s b).frame rfl _,?_⟩;refine dd ?_
 exact ⟨.inl rfl,_,.refl _,rfl⟩
end Go.Nam
namespace Go.Nam
open Go.Ab Go.Proofs Go.Hy Go.Gat
theorem zff (X:Ob) (s:Str) (b:UInt8):zb Tryz.prog 320 [X] [Tx s,By (bI b)] (.fn 330 [] [.ref 1 [] 1 0 0,.ref 2 [] 1 0 0]) [X,⟨1,9,1,[[Tx s]],0⟩,⟨1,5,1,[[By (bI b)]],0⟩]:=by
 refine zb.zF (fn:=Tryz.f320) Tryz.func320 rfl ?_
 conv=>whnf
 exact ⟨.inl rfl,_,.refl _,rfl,rfl⟩
theorem wt (l:Nat) (s:Str) (b:UInt8) (hs:s.length < 4611686018427387904) (X:Nat->Ob) (Y:Nat->List Ob) (j:Nat) (g:Bool) (hj:j < (jc b s).length) (hend:g=false∨j+1=(jc b s).length)
  (hy:∀ k p,k < j->(jc b s)[k]?= some p->qK Tryz.prog l (X k::⟨1,9,1,[[Tx (q5 b s k)]],0⟩::⟨1,5,1,[[By (bI b)]],0⟩::Y k) [Tx p] (Bo true) (X (k+1)::⟨1,9,1,[[Tx (q5 b s k)]],0⟩::⟨1,5,1,[[By (bI b)]],0⟩::Y (k+1)))
  (hz:∀ p,(jc b s)[j]?= some p->qK Tryz.prog l (X j::⟨1,9,1,[[Tx (q5 b s j)]],0⟩::⟨1,5,1,[[By (bI b)]],0⟩::Y j) [Tx p] (Bo g) (X (j+1)::⟨1,9,1,[[Tx (q5 b s j)]],0⟩::⟨1,5,1,[[By (bI b)]],0⟩::Y (j+1))):
  zb Tryz.prog 330 (X 0::⟨1,9,1,[[Tx (q5 b s 0)]],0⟩::⟨1,5,1,[[By (bI b)]],0⟩::Y 0) [.v (.func (.yield l) #[] #[]),.ref 1 [] 1 0 0,.ref 2 [] 1 0 0] (.tup []) (X (j+1)::⟨1,9,1,[[Tx (q5 b s j)]],0⟩::⟨1,5,1,[[By (bI b)]],0⟩::Y (j+1)):=by
 refine zb.zF (fn:=Tryz.f330) Tryz.func330 rfl ?_
 conv=>whnf
 refine zM.seq j (fun k=>[.v (.func (.yield l) #[] #[]),.ref 1 [] 1 0 0,.ref 2 [] 1 0 0,.za,.za,.za,.za,.za,.za,.za,.za,.za,.za,.za,.za,.za,.za,.za,.za,.za,.za,.za,.za]) (fun k=>X k::⟨1,9,1,[[Tx (q5 b s k)]],0⟩::⟨1,5,1,[[By (bI b)]],0⟩::Y k) (fun _=>True) ?_ trivial (fun k hk _=>?_) (fun _=>?_)
 ·exact cC
 ·obtain ⟨h1,h2,h3⟩:=zbI (b:=b) (s:=s) (k:=k) (by omega)
  have h4:=wz b s k
  have h5:=zdS h1
  conv=>whnf
  refine ⟨_,_,(yG (q5 b s k) b).frame rfl _,?_⟩
  rw [zbT h1]
  conv=>whnf
  refine ⟨fun h=>absurd h (by simp),fun _=>?_⟩
  refine dd ?_
  refine ⟨by omega,by omega,by simp;omega,?_⟩
  rw [toNat_cast,List.drop_zero,head_take]
  conv=>whnf
  refine ⟨_,_,hy k _ hk h2,?_⟩
  refine dd ?_
  (repeat ((first | apply ya | apply yb);refine dd ?_))
  rw [zp (by omega),toNat_cast]
  refine ⟨by omega,?_⟩
  conv=>whnf
  refine ⟨by omega,by omega,?_⟩
  rw [List.take_length,tail_drop]
  conv=>whnf
  exact .inl ⟨rfl,cC,trivial⟩
 ·have h4:=wz b s j
  by_cases hl:j+1=(jc b s).length
  ·obtain ⟨h1,h2⟩:=zeN hl
   conv=>whnf
   refine ⟨_,_,(yG (q5 b s j) b).frame rfl _,?_⟩
   rw [ze4 h1]
   conv=>whnf
   refine ⟨fun _=>?_,fun h=>absurd h (by simp)⟩
   refine dd ?_
   refine ⟨_,_,hz _ h2,?_⟩
   conv=>whnf
   refine ⟨fun _=>?_,fun _=>?_⟩ <;>
   ·conv=>whnf
    exact ⟨by simp,.inl rfl,_,.refl _,rfl,rfl⟩
  ·obtain ⟨h1,h2,h3⟩:=zbI (b:=b) (s:=s) (k:=j) (by omega)
   have h5:=zdS h1
   have hg:g=false:=by rcases hend with h | h;exact h;exact absurd h hl
   subst hg
   conv=>whnf
   refine ⟨_,_,(yG (q5 b s j) b).frame rfl _,?_⟩
   rw [zbT h1]
   conv=>whnf
   refine ⟨fun h=>absurd h (by simp),fun _=>?_⟩
   refine dd ?_
   refine ⟨by omega,by omega,by simp;omega,?_⟩
   rw [toNat_cast,List.drop_zero,head_take]
   conv=>whnf
   refine ⟨_,_,hz _ h2,?_⟩
   refine dd ?_
   (repeat ((first | apply ya | apply yb);refine dd ?_))
   exact ⟨by simp,.inl rfl,_,.refl _,rfl,rfl⟩
end Go.Nam
namespace Go.Nam
open Go.Ab Go.Proofs Go.Hy Go.Gat
def zbR (s:Str):Bool:=decide (s.length<=32) && (jc 46 s).all jH
theorem zkE (b:UInt8) (s:Str) (k:Nat) (p:Str) (h:(jc b s)[k]?= some p):p.length<=s.length:=by
 have hk:=(List.getElem?_eq_some_iff.1 h).1
 by_cases hl:k+1=(jc b s).length
 ·obtain ⟨h1,h2⟩:=zeN hl
  rw [h2] at h;cases h;exact wz b s k
 ·obtain ⟨h1,h2,h3⟩:=zbI (b:=b) (s:=s) (k:=k) (by omega)
  rw [h2] at h;cases h
  have:=zdS h1
  have:=wz b s k
  omega
theorem zbS (s:Str) (hs:s.length < 4611686018427387904):zb Tryz.prog 293 [] [Tx s] (Bo (zbR s)) []:=by
 refine zb.zm (fn:=Tryz.f293) Tryz.func293 rfl ?_
 conv=>whnf
 refine ⟨fun h=>?_,fun h=>?_⟩
 ·refine dd ?_
  (exact ⟨.inl rfl,_,.refl _,congrArg (fun b=>some (C.v (Value.bool b))) (by simp [zbR];simp at h;omega)⟩)
 ·refine dd ?_
  refine ⟨_,_,zff _ s 46,?_⟩
  conv=>whnf
  have hn:=zhd 46 s
  have hlen:0 < (jc 46 s).length:=by
   rcases Nat.eq_zero_or_pos (jc 46 s).length with e | e
   ·exact absurd (List.length_eq_zero_iff.1 e) hn
   ·exact e
  have hple:∀ (k:Nat) (p:Str),(jc 46 s)[k]?= some p->p.length < 4611686018427387904:=fun k p hp=>by have:=zkE 46 s k p hp;omega
  refine ⟨_,.refl _,?_⟩
  by_cases zD:(jc 46 s).all jH=true
  ·have hname:∀ (k:Nat) p,(jc 46 s)[k]?= some p->jH p=true:=fun k p hp=>List.all_eq_true.1 zD p (List.mem_of_getElem? hp)
   refine ⟨.normal,_,[⟨1,4,1,[[Bo false]],0⟩],fun l r h1 h2 h3 h4 h5=>⟨_,_,r,wt l s 46 hs (fun _=>⟨1,4,1,[[Bo false]],0⟩) (fun _=>[obR l r _]) ((jc 46 s).length - 1) true (by omega) (.inr (by omega)) (fun k p hk hp=>?_) (fun p hp=>?_),
    rfl,by rw [h1];decide,rfl,Nat.zero_le _,by rw [h2];trivial,zl.low 1 _ _ rfl rfl rfl⟩,?_⟩
   ·refine qK.zF (id:=3) rfl h1 h2 h3 h4 h5 rfl rfl rfl ?_
    conv=>whnf
    refine ⟨rfl,rfl,?_⟩
    conv=>whnf
    refine ⟨_,_,(ju p (hple _ _ hp)).frame rfl _,?_⟩;refine dd ?_
    refine ⟨fun _=>?_,fun h=>absurd ((hname _ _ hp).symm.trans h:true=false) (by decide)⟩;refine dd ?_
    exact ⟨_,_,.refl _,rfl,.inl ⟨rfl,rfl,rfl⟩⟩
   ·refine qK.zF (id:=3) rfl h1 h2 h3 h4 h5 rfl rfl rfl ?_
    conv=>whnf
    refine ⟨rfl,rfl,?_⟩
    conv=>whnf
    refine ⟨_,_,(ju p (hple _ _ hp)).frame rfl _,?_⟩;refine dd ?_
    refine ⟨fun _=>?_,fun h=>absurd ((hname _ _ hp).symm.trans h:true=false) (by decide)⟩;refine dd ?_
    exact ⟨_,_,.refl _,rfl,.inl ⟨rfl,rfl,rfl⟩⟩
   ·conv=>whnf
    (exact ⟨.inl rfl,_,.refl _,congrArg (fun b=>some (C.v (Value.bool b))) (by simp [zbR,zD];simp at h;omega)⟩)
  ·obtain ⟨j,hj⟩:∃ j,(jc 46 s).findIdx? (fun p=>!jH p)=some j:=by
    cases e:(jc 46 s).findIdx? (fun p=>!jH p) with
    | some j=>exact ⟨j,rfl⟩
    | none=>
     exfalso
     rw [List.findIdx?_eq_none_iff] at e
     exact zD (List.all_eq_true.2 fun x hx=>by simpa using e x hx)
   rw [List.findIdx?_eq_some_iff_getElem] at hj
   obtain ⟨hjl,hj1,hj2⟩:=hj
   have zD:(jc 46 s).all jH=false:=by simpa using zD
   refine ⟨.ret,_,[⟨1,4,1,[[Bo false]],0⟩],fun l r h1 h2 h3 h4 h5=>⟨_,_,left r .ret,wt l s 46 hs (fun _=>⟨1,4,1,[[Bo false]],0⟩) (fun k=>[obR l (if k < j+1 then r else left r .ret) _]) j false hjl (.inl rfl) (fun k p hk hp=>?_) (fun p hp=>?_),
    congrArg (fun x=>some (obR l x _)) (if_neg (Nat.lt_irrefl (j+1))),by simp,rfl,Nat.zero_le _,trivial,zl.low 1 _ _ rfl rfl rfl⟩,?_⟩
   ·have e1:k < j+1:=by omega
    have e2:k+1 < j+1:=by omega
    simp only [if_pos e1,if_pos e2]
    refine qK.zF (id:=3) rfl h1 h2 h3 h4 h5 rfl rfl rfl ?_
    conv=>whnf
    refine ⟨rfl,rfl,?_⟩
    conv=>whnf
    refine ⟨_,_,(ju p (hple _ _ hp)).frame rfl _,?_⟩;refine dd ?_
    have hname:jH p=true:=by
     have h6:=hj2 k hk
     rw [List.getElem?_eq_getElem (by omega)] at hp
     cases hp
     simpa using h6
    refine ⟨fun _=>?_,fun h=>absurd ((hname).symm.trans h:true=false) (by decide)⟩;refine dd ?_
    exact ⟨_,_,.refl _,rfl,.inl ⟨rfl,rfl,rfl⟩⟩
   ·simp only [if_pos (Nat.lt_succ_self j),if_neg (Nat.lt_irrefl (j+1))]
    refine qK.zF (id:=3) rfl h1 h2 h3 h4 h5 rfl rfl rfl ?_
    conv=>whnf
    refine ⟨rfl,rfl,?_⟩
    conv=>whnf
    refine ⟨_,_,(ju p (hple _ _ hp)).frame rfl _,?_⟩;refine dd ?_
    have hname:jH p=false:=by
     rw [List.getElem?_eq_getElem hjl] at hp
     cases hp
     simpa using hj1
    refine ⟨fun h=>absurd ((hname).symm.trans h:false=true) (by decide),fun _=>?_⟩;refine dd ?_
    exact ⟨_,_,.refl _,rfl,.inr ⟨rfl,.inl ⟨rfl,rfl⟩⟩⟩
   ·conv=>whnf
    (exact ⟨.inl rfl,_,.refl _,congrArg (fun b=>some (C.v (Value.bool b))) (by simp [zbR,zD])⟩)
end Go.Nam
namespace Go.Nam
open Go.Ab Go.Proofs Go.Hy Go.Gat
def zbb (s p:Str):Bool:=decide (p.length<=s.length) && (s.take p.length == p)
theorem zbc (s p:Str):zb Tryz.prog 329 [] [Tx s,Tx p] (Bo (zbb s p)) []:=by
 refine zb.zm (fn:=Tryz.f329) Tryz.func329 rfl ?_
 conv=>whnf
 refine ⟨fun h=>?_,fun h=>?_⟩
 ·refine dd ?_
  refine ⟨by omega,by omega,by simp at h;omega,?_⟩
  rw [toNat_cast,List.drop_zero]
  conv=>whnf
  (repeat' (first | (refine ⟨fun _=>?_,fun _=>?_⟩ <;> (conv=>whnf)) | fail))
  all_goals (exact ⟨.inl rfl,_,.refl _,congrArg (fun b=>some (C.v (Value.bool b))) (by simp_all [zbb])⟩)
 ·conv=>whnf
  (exact ⟨.inl rfl,_,.refl _,congrArg (fun b=>some (C.v (Value.bool b))) (by simp_all [zbb];intros;omega)⟩)
abbrev tSB (r:Str × Bool):C:=.tup [Tx r.1,Bo r.2]
def w7 (s p:Str):Str × Bool:=if zbb s p then (s.drop p.length,true) else (s,false)
theorem zcB (s p:Str):zb Tryz.prog 319 [] [Tx s,Tx p] (tSB (w7 s p)) []:=by
 refine zb.zm (fn:=Tryz.f319) Tryz.func319 rfl ?_
 conv=>whnf
 refine ⟨_,_,(zbc s p).frame rfl _,?_⟩;refine dd ?_
 refine ⟨fun h=>?_,fun h=>?_⟩
 ·refine dd ?_
  have h':p.length<=s.length:=by simp [zbb] at h;exact h.1
  refine ⟨by omega,by omega,by omega,?_⟩
  rw [List.take_length,toNat_cast]
  conv=>whnf
  have e:w7 s p=(s.drop p.length,true):=by unfold w7;rw [if_pos h]
  rw [e]
  exact ⟨.inl rfl,_,.refl _,rfl⟩
 ·conv=>whnf
  have e:w7 s p=(s,false):=by unfold w7;rw [if_neg (by simp [h])]
  rw [e]
  exact ⟨.inl rfl,_,.refl _,rfl⟩
theorem zdJ (s p:Str):zb Tryz.prog 292 [] [Tx s,Tx p] (tSB (w7 s p)) []:=by
 refine zb.zm (fn:=Tryz.f292) Tryz.func292 rfl ?_
 conv=>whnf
 refine ⟨_,_,(zcB s p).frame rfl _,?_⟩;refine dd ?_
 (repeat' (first | (refine ⟨fun _=>?_,fun _=>?_⟩ <;> (conv=>whnf)) | fail))
 all_goals
  rename_i h
  exact ⟨.inl rfl,_,.refl _,congrArg (fun b=>some (C.tup [Tx (w7 s p).1,Bo b])) h.symm⟩
def zfg (s:Str):Bool:=if zbb s [42,46] then zbR (s.drop 2) else s == [42] || zbR s
theorem zcI (s:Str) (hs:s.length < 4611686018427387904):zb Tryz.prog 242 [] [Tx s] (Bo (zfg s)) []:=by
 refine zb.zm (fn:=Tryz.f242) Tryz.func242 rfl ?_
 conv=>whnf
 refine ⟨_,_,(zdJ s [42,46]).frame rfl _,?_⟩;refine dd ?_
 refine ⟨fun h=>?_,fun h=>?_⟩
 ·have h1:zbb s [42,46]=true:=by
   cases e:zbb s [42,46] with
   | true=>rfl
   | false=>simp [w7,e] at h
  have e:w7 s [42,46]=(s.drop 2,true):=by unfold w7;rw [if_pos h1];rfl
  rw [e]
  refine dd ?_
  refine ⟨_,_,(zbS (s.drop 2) (by simp;omega)).frame rfl _,?_⟩;refine dd ?_
  (repeat' (first | (refine ⟨fun _=>?_,fun _=>?_⟩ <;> (conv=>whnf)) | fail))
  all_goals (exact ⟨.inl rfl,_,.refl _,congrArg (fun b=>some (C.v (Value.bool b))) (by simp_all [zfg])⟩)
 ·have h1:zbb s [42,46]=false:=by
   cases e:zbb s [42,46] with
   | false=>rfl
   | true=>simp [w7,e] at h
  have e:w7 s [42,46]=(s,false):=by unfold w7;rw [if_neg (by simp [h1])]
  rw [e]
  refine dd ?_
  refine ⟨fun h2=>?_,fun h2=>?_⟩
  ·refine dd ?_
   (exact ⟨.inl rfl,_,.refl _,congrArg (fun b=>some (C.v (Value.bool b))) (by simp_all [zfg])⟩)
  ·refine dd ?_
   refine ⟨_,_,(zbS s hs).frame rfl _,?_⟩;refine dd ?_
   (repeat' (first | (refine ⟨fun _=>?_,fun _=>?_⟩ <;> (conv=>whnf)) | fail))
   all_goals (exact ⟨.inl rfl,_,.refl _,congrArg (fun b=>some (C.v (Value.bool b))) (by simp_all [zfg])⟩)
end Go.Nam
namespace Go.Nam
open Go.Ab Go.Proofs Go.Hy Go.Gat
def wu (s:Str):Bool:=decide (0 < s.length) && decide (s.length<=32) && (match s with | c::_=>bI c == 47 | []=>false) && zcx y9 s 47
theorem zgK (s:Str) (hs:s.length < 4611686018427387904):zb Tryz.prog 243 [] [Tx s] (Bo (wu s)) []:=by
 refine zb.zm (fn:=Tryz.f243) Tryz.func243 rfl ?_
 cases s with
 | nil=>
  conv=>whnf
  (repeat ((first | apply ya | apply yb);refine dd ?_))
  exact ⟨.inl rfl,_,.refl _,rfl⟩
 | cons c s=>
  conv=>whnf
  refine ⟨fun _=>?_,fun h=>absurd h (by simp <;> omega)⟩
  conv=>whnf
  refine ⟨fun h1=>?_,fun h1=>?_⟩
  ·conv=>whnf
   refine ⟨by omega,c,rfl,?_⟩
   conv=>whnf
   refine ⟨fun h2=>?_,fun h2=>?_⟩
   ·conv=>whnf
    refine ⟨_,_,(zcv).frame rfl _,?_⟩;refine dd ?_
    refine ⟨_,_,(vJ (c::s) 47 hs).frame rfl _,?_⟩;refine dd ?_
    have h1':s.length<=31:=by have:=h1;simp at this;omega
    have e:wu (c::s)=zcx y9 (c::s) 47:=by unfold wu;simp [h2];omega
    refine ⟨fun h3=>?_,fun h3=>?_⟩
    all_goals ((conv=>whnf);(exact ⟨.inl rfl,_,.refl _,congrArg (fun b=>some (C.v (Value.bool b))) (by rw [e,h3])⟩))
   ·conv=>whnf
    (exact ⟨.inl rfl,_,.refl _,congrArg (fun b=>some (C.v (Value.bool b))) (by simp [wu,h2])⟩)
  ·conv=>whnf
   (exact ⟨.inl rfl,_,.refl _,congrArg (fun b=>some (C.v (Value.bool b))) (by simp [wu];simp at h1;omega)⟩)
end Go.Nam
namespace Go.Nam
open Go.Ab Go.Proofs Go.Hy Go.Gat
end Go.Nam
namespace Go.Nam
open Go.Ab Go.Proofs Go.Hy Go.Gat
end Go.Nam
namespace Go.Hos
open Go.Ab Go.Proofs Go.Hy Go.Gat Go.Nam
def zmJ (s t:Str):Bool:=decide (t.length<=s.length) && (s.drop (s.length - t.length) == t)
def zmQ (p h:Str):Bool:=match p with
 | c::t=>c == 42 && (t == [] || (decide (t.length < h.length) && zmJ h t))
 | []=>false
def zlB (p h:Str):Bool:=zfg p && zbR h && (p == h || zmQ p h)
def zlY (p t:Str):Bool:=wu p && wu t && zbb p t && (p.drop t.length == [] || zmJ t [47] || (p.drop t.length).head? == some 47)
def zbr (p:Str):Int:=if zfg p then (if zbb p [42,46] then ((p.length - 2:Nat):Int) else if p == [42] then 0 else 100) else 0
def zke (p q p' q':Str):Bool:=if zbr p=zbr p' then decide (q'.length < q.length) else decide (zbr p' < zbr p)
end Go.Hos
namespace Go.Con
open Go.Ab Go.Proofs Go.Hy Go.Gat Go.Nam Go.Hos
theorem yV {α:Type} (l:List α) (p:α->Bool):decide ((match l.findIdx? p with | some i=>(i:Int) | none=> -1)≥0)=l.any p:=by
 cases h:l.findIdx? p with
 | none=>
  rw [List.findIdx?_eq_none_iff] at h
  symm
  simp only [Int.reduceNeg,ge_iff_le,Int.reduceLE,decide_false]
  rw [List.any_eq_false]
  intro x hx;simp [h x hx]
 | some i=>
  obtain ⟨h1,h2,_⟩:=List.findIdx?_eq_some_iff_getElem.1 h
  symm
  have:(0:Int)<=(i:Int):=Int.natCast_nonneg i
  simp only [ge_iff_le,this,decide_true]
  rw [List.any_eq_true]
  exact ⟨_,List.getElem_mem h1,h2⟩
abbrev Cc (c:Clu):C:=.agg (jW c)
theorem zgd {H:ze} {f:FuncId} {caps:List C} {l:List Clu} (p:Clu->Bool) (hcb:zA Tryz.prog f=true) (hp:∀ r ∈ l,zb Tryz.prog f H ([Cc r]++caps) (Bo (p r)) H) (hl:l.length < 4611686018427387904):
  zb Tryz.prog 318 H [lC l,.fn f [] caps] (I (match l.findIdx? p with | some i=>(i:Int) | none=> -1)) H:=by
 refine zb.zF (fn:=Tryz.f318) Tryz.func318 rfl ?_
 conv=>whnf
 refine zM.inv (fun n t1 H1=>∃ k,k+n=l.length∧H1=H∧(∀ j,j < k->∀ r,l[j]?= some r->p r=false)∧
   t1=[lC l,.fn f [] caps,.za,.za,I 0,.za,.za,I (l.map jW).length,I k,.za,.za,.za,.za,.za,.za,.za,.za,.za,.za]) l.length ?_ ?_
 ·exact ⟨_,_,zl.mask [0,1,4,7,8] _ _,0,by simp,rfl,by simp,rfl⟩
 rintro n _ _ ⟨k,hk,rfl,hno,rfl⟩
 conv=>whnf
 refine ⟨fun h=>?_,fun h=>?_⟩
 ·conv=>whnf
  have hlt:k < l.length:=by simpa using h
  refine ⟨by omega,jW l[k],by simp [hlt],?_⟩
  conv=>whnf
  rw [hcb]
  refine ⟨_,_,hp _ (List.getElem_mem hlt),?_⟩
  conv=>whnf
  refine ⟨fun h2=>?_,fun h2=>?_⟩
  ·conv=>whnf
   refine .inr ⟨by simp,?_⟩
   conv=>whnf
   refine ⟨.inl rfl,_,.refl _,rfl,?_⟩
   have:l.findIdx? p=some k:=by
    rw [List.findIdx?_eq_some_iff_getElem]
    refine ⟨hlt,h2,fun j hj=>?_⟩
    simp [hno j hj _ (List.getElem?_eq_getElem (by omega))]
   rw [this]
   rfl
  ·conv=>whnf
   refine .inl ⟨rfl,n - 1,_,_,by omega,zl.mask [0,1,4,7,8] _ _,k+1,by omega,rfl,?_,?_⟩
   ·intro j hj r hr
    by_cases hjk:j=k
    ·subst hjk
     rw [List.getElem?_eq_getElem hlt] at hr
     cases hr
     exact h2
    ·exact hno j (by omega) r hr
   ·rw [zp (by omega)];rfl
 ·conv=>whnf
  refine .inr ⟨by simp,?_⟩
  conv=>whnf
  refine ⟨.inl rfl,_,.refl _,rfl,?_⟩
  have:l.findIdx? p=none:=by
   rw [List.findIdx?_eq_none_iff]
   intro x hx
   obtain ⟨j,hj⟩:=List.mem_iff_getElem?.1 hx
   have hjl:=(List.getElem?_eq_some_iff.1 hj).1
   have:¬k < l.length:=by simpa using h
   exact hno j (by omega) x hj
  rw [this]
  rfl
theorem zfY {H:ze} {f:FuncId} {caps:List C} {l:List Clu} (p:Clu->Bool) (hcb:zA Tryz.prog f=true) (hp:∀ r ∈ l,zb Tryz.prog f H ([Cc r]++caps) (Bo (p r)) H) (hl:l.length < 4611686018427387904):
  zb Tryz.prog 290 H [lC l,.fn f [] caps] (Bo (l.any p)) H:=by
 refine zb.zF (fn:=Tryz.f290) Tryz.func290 rfl ?_
 conv=>whnf
 refine ⟨_,_,zgd p hcb hp hl,?_⟩
 refine dd ?_
 rw [show decide ((match l.findIdx? p with | some i=>((i:Nat):Int) | none=>(-1:Int))≥(0:Int))=l.any p from yV l p]
 refine ⟨fun h=>?_,fun h=>?_⟩ <;> rw [h]
 ·refine dd ?_
  exact ⟨.inl rfl,_,.refl _,rfl,rfl⟩
 ·refine dd ?_
  exact ⟨.inl rfl,_,.refl _,rfl,rfl⟩
theorem zd1 (s:Str) (c:Clu):zb Tryz.prog 291 [⟨1,9,1,[[Tx s]],0⟩] [Cc c,.ref 0 [] 1 0 0] (Bo (c.name == s)) [⟨1,9,1,[[Tx s]],0⟩]:=by
 refine zb.zF (fn:=Tryz.f291) Tryz.func291 rfl ?_
 conv=>whnf
 refine ⟨fun h=>?_,fun h=>?_⟩ <;> rw [h]
 ·conv=>whnf
  exact ⟨.inl rfl,_,zl.keep [3] 1 _ _ rfl rfl rfl rfl,rfl,rfl⟩
 ·conv=>whnf
  exact ⟨.inl rfl,_,zl.keep [3] 1 _ _ rfl rfl rfl rfl,rfl,rfl⟩
def zak (l:List Clu) (s:Str):Bool:=l.any fun c=>c.name == s
theorem zaS (l:List Clu) (s:Str) (hl:l.length < 4611686018427387904):zb Tryz.prog 241 [] [lC l,Tx s] (Bo (zak l s)) []:=by
 refine zb.zm (fn:=Tryz.f241) Tryz.func241 rfl ?_
 conv=>whnf
 refine ⟨_,_,zfY (fun c=>c.name == s) (by kernel_rfl) (fun r _=>zd1 s r) hl,?_⟩
 refine dd ?_
 refine ⟨fun h=>?_,fun h=>?_⟩
 ·refine dd ?_
  (exact ⟨.inl rfl,_,.refl _,congrArg (fun b=>some (C.v (Value.bool b))) (by exact h.symm)⟩)
 ·refine dd ?_
  (exact ⟨.inl rfl,_,.refl _,congrArg (fun b=>some (C.v (Value.bool b))) (by exact h.symm)⟩)
theorem jb (n a b:Int):zb Tryz.prog 240 [] [I n,I a,I b] (Bo (decide (a<=n) && decide (n<=b))) []:=by
 refine zb.zm (fn:=Tryz.f240) Tryz.func240 rfl ?_
 conv=>whnf
 (repeat' (first | (refine ⟨fun _=>?_,fun _=>?_⟩ <;> (conv=>whnf)) | fail))
 all_goals (exact ⟨.inl rfl,_,.refl _,congrArg (fun b=>some (C.v (Value.bool b))) (by simp_all <;> omega)⟩)
def zcE (l:List Str) (s:Str):Int:=match l.findIdx? (fun x=>x == s) with | some i=>(i:Int) | none=> -1
theorem zgi (l:List Str) (s:Str) (hl:l.length < 4611686018427387904):zb Tryz.prog 184 [] [lT l,Tx s] (I (zcE l s)) []:=by
 have hlm:(l.map w8).length=l.length:=List.length_map ..
 refine zb.zm (fn:=Tryz.f184) Tryz.func184 rfl ?_
 conv=>whnf
 rw [hlm]
 refine zM.seq l.length (fun k=>[lT l,Tx s,.za,.za,I 0,.za,.za,I l.length,I k,.za,.za,.za,.za,.za,.za,.za,.za,.za,.za]) (fun k=>[]) (fun k=>∀ j,(h:j < l.length)->j < k->(l[j] == s)=false) ?_ (by simp) (fun k hk hr=>?_) (fun hr=>?_)
 ·exact cC
 ·have hg:(l.map w8)[k]?= some (w8 l[k]):=by rw [List.getElem?_map,List.getElem?_eq_getElem hk];rfl
  conv=>whnf
  refine ⟨fun _=>?_,fun h=>absurd h (by simp;omega)⟩
  refine dd ?_
  refine ⟨by omega,_,by rw [toNat_cast];exact hg,?_⟩
  refine dd ?_
  refine ⟨fun h2=>?_,fun h2=>?_⟩
  ·refine dd ?_
   refine .inr ⟨by simp,?_⟩
   conv=>whnf
   have e:zcE l s=k:=by
    unfold zcE
    have:l.findIdx? (fun x=>x == s)=some k:=by
     rw [List.findIdx?_eq_some_iff_getElem]
     refine ⟨hk,?_,fun j hj=>by simp only [hr j (by omega) hj];decide⟩
     simp at h2;simp [h2]
    rw [this]
   rw [e]
   exact ⟨.inl rfl,_,.refl _,rfl⟩
  ·refine dd ?_
   refine .inl ⟨rfl,?_,fun j hj hjk=>?_⟩
   ·rw [zp (by omega)]
    exact cE 0
   ·by_cases e:j=k
    ·subst e;simp at h2 ⊢;exact fun h=>h2 h.symm
    ·exact hr j hj (by omega)
 ·conv=>whnf
  refine ⟨fun h=>absurd h (by simp),fun _=>?_⟩
  refine dd ?_
  refine ⟨by simp,?_⟩
  conv=>whnf
  have e:zcE l s= -1:=by
   unfold zcE
   have:l.findIdx? (fun x=>x == s)=none:=by
    rw [List.findIdx?_eq_none_iff]
    intro x hx
    obtain ⟨j,hj,rfl⟩:=List.mem_iff_getElem.1 hx
    exact hr j hj hj
   rw [this]
  rw [e]
  exact ⟨.inl rfl,_,.refl _,rfl⟩
theorem zjk (l:List Str) (s:Str):decide (zcE l s≥0)=l.any (fun x=>x == s):=yV l _
theorem zbG (l:List Str) (s:Str) (hl:l.length < 4611686018427387904):zb Tryz.prog 131 [] [lT l,Tx s] (Bo (l.any fun x=>x == s)) []:=by
 refine zb.zm (fn:=Tryz.f131) Tryz.func131 rfl ?_
 conv=>whnf
 refine ⟨_,_,(zgi l s hl).frame rfl _,?_⟩;refine dd ?_
 rw [zjk]
 refine ⟨fun h=>?_,fun h=>?_⟩
 ·refine dd ?_
  (exact ⟨.inl rfl,_,.refl _,congrArg (fun b=>some (C.v (Value.bool b))) (by exact h.symm)⟩)
 ·refine dd ?_
  (exact ⟨.inl rfl,_,.refl _,congrArg (fun b=>some (C.v (Value.bool b))) (by exact h.symm)⟩)
end Go.Con
