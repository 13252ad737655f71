import Derived.Lib.Bytealg
import Derived.WalkKit
import Derived.IntWalk
import Derived.Test.YtdbcjcnfaajpjaaGreatRC
import Derived.Test.YtdbcjcnfaajpjaaGreatRJ
import Derived.Test.YtdbcjcnfaajpjaaGreatProg
set_option linter.unusedVariables false
set_option linter.unusedSimpArgs false
set_option linter.unusedSectionVars false
set_option maxRecDepth 100000
set_option maxHeartbeats 4000000
namespace Go.Gat
open Go.Ab Go.Proofs Go.Hy
def zml (n:Int):Bool:=decide (97<=n) && decide (n<=122)
def kU (n:Int):Bool:=zml n || (decide (48<=n) && decide (n<=57)) || (n == 45)
abbrev By (n:Int):C:=.v (.int .u8 n)
theorem zfs (n:Int):zb Tryz.prog 75 [] [By n] (Bo (zml n)) []:=by
 refine zb.zp (fn:=Tryz.f75) Tryz.func75 rfl ?_
 conv=>whnf
 (repeat' (first | (refine ⟨fun _=>?_,fun _=>?_⟩ <;> (conv=>whnf)) | fail))
 all_goals (exact ⟨.inl rfl,_,.refl _,congrArg (fun b=>some (C.v (Value.bool b))) (by simp_all [zml] <;> (intros;omega))⟩)
theorem zh9 (n:Int):zb Tryz.prog 109 [] [By n] (Bo (kU n)) []:=by
 refine zb.zp (fn:=Tryz.f109) Tryz.func109 rfl ?_
 conv=>whnf
 refine ⟨_,_,(zfs n).frame rfl _,?_⟩;refine dd ?_
 (repeat' (first | (refine ⟨fun _=>?_,fun _=>?_⟩ <;> (conv=>whnf)) | fail))
 all_goals (exact ⟨.inl rfl,_,.refl _,congrArg (fun b=>some (C.v (Value.bool b))) (by simp_all [kU] <;> (intros;omega))⟩)
theorem zeE:zb Tryz.prog 76 [] [] (.agg [.fn 109 [] []]) []:=by
 refine zb.zp (fn:=Tryz.f76) Tryz.func76 rfl ?_
 conv=>whnf
 exact ⟨.inl rfl,_,.refl _,rfl⟩
abbrev bI (c:UInt8):Int:=(c.toNat:Int)
def zeF (p:Int->Bool) (s:Str) (other:Int):Bool:=s.all fun c=>bI c == other || p (bI c)
theorem zic {p:Int->Bool} {s:Str} {other:Int} {k:Nat} (hk:k < s.length) (h1:(bI s[k] == other)=false) (h2:p (bI s[k])=false):zeF p s other=false:=by
 unfold zeF
 rw [List.all_eq_false]
 exact ⟨s[k],List.getElem_mem hk,by simp [h1,h2]⟩
theorem ze8 (s:Str) (other:Int) (hs:s.length < 4611686018427387904):zb Tryz.prog 77 [] [.agg [.fn 109 [] []],Tx s,By other] (Bo (zeF kU s other)) []:=by
 refine zb.zp (fn:=Tryz.f77) Tryz.func77 rfl ?_
 conv=>whnf
 refine qa.seq s.length (fun k=>[.agg [.fn 109 [] []],Tx s,By other,.ref 0 [] 1 0 0,.za,.za,Bo false,.za,.za,I s.length,I k,.za,.za,.za,.za,.za,.za,.za,.za,.za,.za,.za,.za,.za,.za,.za,.za,.za]) (fun k=>[⟨1,141,1,[[.fn 109 [] []]],0⟩]) (fun k=>∀ j,(h:j < s.length)->j < k->(bI s[j] == other || kU (bI s[j]))=true) ?_ (by simp) (fun k hk hr=>?_) (fun hr=>?_)
 ·exact cC
 ·conv=>whnf
  refine ⟨fun h=>?_,fun h=>absurd h (by simp;omega)⟩
  conv=>whnf
  refine .inl ⟨⟨false,[],[],[]⟩,by kernel_rfl,?_⟩;(conv=>whnf)
  refine ⟨by omega,s[k],by simp [hk],?_⟩
  conv=>whnf
  refine ⟨fun h1=>?_,fun h1=>?_⟩
  ·refine dd ?_
   refine ⟨by omega,s[k],by simp [hk],?_⟩
   refine dd ?_
   refine ⟨_,_,(zh9 (bI s[k])).frame rfl _,?_⟩;refine dd ?_
   refine ⟨fun h2=>?_,fun h2=>?_⟩
   ·refine dd ?_
    refine .inl ⟨rfl,?_,?_⟩
    ·rw [zC (by omega)]
     exact cE 1
    ·intro j hj hjk
     by_cases e:j=k
     ·subst e;simp [h2]
     ·exact hr j hj (by omega)
   ·refine dd ?_
    refine .inr ⟨by simp,?_⟩
    conv=>whnf
    (exact ⟨.inl rfl,_,.refl _,congrArg (fun b=>some (C.v (Value.bool b))) (by exact (zic hk (by simpa using h1) h2).symm)⟩)
  ·refine dd ?_
   refine .inl ⟨rfl,?_,?_⟩
   ·rw [zC (by omega)]
    exact cE 1
   ·intro j hj hjk
    by_cases e:j=k
    ·subst e;simp at h1;simp [h1]
    ·exact hr j hj (by omega)
 ·conv=>whnf
  refine ⟨fun h=>absurd h (by simp),fun h=>?_⟩
  conv=>whnf
  refine ⟨by simp,?_⟩
  conv=>whnf
  have e:zeF kU s other=true:=by
   unfold zeF
   rw [List.all_eq_true]
   intro x hx
   obtain ⟨j,hj,rfl⟩:=List.mem_iff_getElem.1 hx
   exact hr j hj hj
  exact ⟨.inl rfl,_,.refl _,by rw [e];rfl⟩
def j0 (s:Str):Bool:=decide (0 < s.length) && decide (s.length<=16) && (match s with | c::_=>zml (bI c) | []=>false) && s.all fun c=>kU (bI c)
theorem zkl (s:Str):zeF kU s 45=s.all fun c=>kU (bI c):=by
 unfold zeF
 congr 1
 funext c
 cases h:(bI c == 45) with
 | false=>rfl
 | true=>simp at h;simp [kU,h]
theorem xm (s:Str) (hs:s.length < 4611686018427387904):zb Tryz.prog 56 [] [Tx s] (Bo (j0 s)) []:=by
 refine zb.zp (fn:=Tryz.f56) Tryz.func56 rfl ?_
 cases s with
 | nil=>
  conv=>whnf
  (repeat ((first | apply ya | apply yb);refine dd ?_))
  exact ⟨.inl rfl,_,.refl _,rfl⟩
 | cons c s=>
  conv=>whnf
  refine ⟨fun _=>?_,fun h=>absurd h (by simp <;> omega)⟩
  conv=>whnf
  refine ⟨fun h1=>?_,fun h1=>?_⟩
  ·conv=>whnf
   refine ⟨by omega,c,rfl,?_⟩
   conv=>whnf
   refine ⟨_,_,(zfs (bI c)).frame rfl _,?_⟩;refine dd ?_
   refine ⟨fun h2=>?_,fun h2=>?_⟩
   ·conv=>whnf
    refine ⟨_,_,(zeE).frame rfl _,?_⟩;refine dd ?_
    refine ⟨_,_,(ze8 (c::s) 45 hs).frame rfl _,?_⟩;refine dd ?_
    have h1':s.length<=15:=by have:=h1;simp at this;omega
    have e:j0 (c::s)=zeF kU (c::s) 45:=by rw [zkl];unfold j0;simp [h2];omega
    refine ⟨fun h3=>?_,fun h3=>?_⟩
    all_goals ((conv=>whnf);(exact ⟨.inl rfl,_,.refl _,congrArg (fun b=>some (C.v (Value.bool b))) (by rw [e,h3])⟩))
   ·conv=>whnf
    (exact ⟨.inl rfl,_,.refl _,congrArg (fun b=>some (C.v (Value.bool b))) (by simp [j0,h2])⟩)
  ·conv=>whnf
   (exact ⟨.inl rfl,_,.refl _,congrArg (fun b=>some (C.v (Value.bool b))) (by simp [j0];simp at h1;omega)⟩)
end Go.Gat
namespace Go.Nam
open Go.Ab Go.Proofs Go.Hy Go.Gat Go.RowKit
def xU (b:UInt8) (s:Str):Str:=s.takeWhile (· != b)
def zal (b:UInt8) (s:Str):Str:=(s.dropWhile (· != b)).drop 1
def jL (b:UInt8):Str->List Str
 | []=>[[]]
 | c::s=>if c == b then []::jL b s else match jL b s with
  | p::ps=>(c::p)::ps
  | []=>[[c]]
theorem zf9 (b:UInt8) (s:Str):jL b s≠[]:=by
 cases s with
 | nil=>simp [jL]
 | cons c s=>unfold jL;split;simp;split <;> simp
theorem wW {b:UInt8}:∀ {s:Str},b ∉ s->jL b s=[s]
 | [],_=>rfl
 | c::s,h=>by
  have h1:(c == b)=false:=by simp;intro e;subst e;exact h (List.mem_cons_self ..)
  have h2:=wW (s:=s) fun e=>h (List.mem_cons_of_mem _ e)
  simp [jL,h1,h2]
theorem vT {b:UInt8}:∀ {s:Str},b ∈ s->jL b s=xU b s::jL b (zal b s)
 | [],h=>by simp at h
 | c::s,h=>by
  by_cases e:c=b
  ·subst e;simp [jL,xU,zal]
  ·have h1:(c == b)=false:=by simpa using e
   have h2:=vT (s:=s) (by rcases List.mem_cons.1 h with h | h;exact absurd h.symm e;exact h)
   have h3:(c != b)=true:=by simpa using e
   simp only [jL,h1,Bool.false_eq_true,if_false,h2,xU,zal,List.takeWhile_cons,List.dropWhile_cons,h3,if_true]
theorem zhl {b:UInt8}:∀ {s:Str},b ∉ s->Lib.indexByte s b= -1
 | [],_=>rfl
 | c::s,h=>by
  have h1:(c == b)=false:=by simp;intro e;subst e;exact h (List.mem_cons_self ..)
  have h2:=zhl (s:=s) fun e=>h (List.mem_cons_of_mem _ e)
  simp [Lib.indexByte,h1,h2]
theorem zdT {b:UInt8}:∀ {s:Str},b ∈ s->Lib.indexByte s b=((xU b s).length:Int)
 | [],h=>by simp at h
 | c::s,h=>by
  by_cases e:c=b
  ·subst e;simp [Lib.indexByte,xU]
  ·have h1:(c == b)=false:=by simpa using e
   have h3:(c != b)=true:=by simpa using e
   have h2:=zdT (s:=s) (by rcases List.mem_cons.1 h with h | h;exact absurd h.symm e;exact h)
   have h4:((xU b s).length == (-1:Int))=false:=by rw [beq_eq_false_iff_ne];omega
   simp only [Lib.indexByte,h1,Bool.false_eq_true,if_false,h2,xU,List.takeWhile_cons,h3,if_true,List.length_cons]
   rw [show ((↑(List.takeWhile (fun x=>x != b) s).length:Int) == -1)=false from h4]
   simp
theorem head_take (b:UInt8) (s:Str):s.take (xU b s).length=xU b s:=by
 induction s with
 | nil=>rfl
 | cons c s ih=>
  by_cases e:c=b
  ·subst e;simp [xU]
  ·have h3:(c != b)=true:=by simpa using e
   simp only [xU,List.takeWhile_cons,h3,if_true,List.length_cons,List.take_succ_cons]
   rw [show List.take (List.takeWhile (fun x=>x != b) s).length s=xU b s from ih];rfl
theorem tail_drop (b:UInt8) (s:Str):s.drop ((xU b s).length+1)=zal b s:=by
 induction s with
 | nil=>rfl
 | cons c s ih=>
  by_cases e:c=b
  ·subst e;simp [xU,zal]
  ·have h3:(c != b)=true:=by simpa using e
   simp only [xU,zal,List.takeWhile_cons,List.dropWhile_cons,h3,if_true,List.length_cons,List.drop_succ_cons]
   exact ih
theorem zgh {b:UInt8} {s:Str} (h:b ∈ s):(xU b s).length < s.length:=by
 have h1:=tail_drop b s
 have h2:s.length≠0:=by intro e;rw [List.length_eq_zero_iff.1 e] at h;simp at h
 have h3:(xU b s).length<=s.length:=List.Sublist.length_le (List.takeWhile_sublist _)
 rcases Nat.lt_or_ge (xU b s).length s.length with h4 | h4
 ·exact h4
 ·have h5:=head_take b s
  rw [List.take_of_length_le h4] at h5
  have:b ∈ xU b s:=by rw [<- h5];exact h
  have:=List.all_takeWhile (l:=s) (p:=(· != b))
  rw [List.all_eq_true] at this
  have:=this b (by assumption)
  simp at this
def j3 (b:UInt8) (s:Str):Nat->Str
 | 0=>s
 | k+1=>zal b (j3 b s k)
theorem zdt {b:UInt8}:∀ {k:Nat} {s:Str},k+1 < (jL b s).length->b ∈ j3 b s k∧(jL b s)[k]?= some (xU b (j3 b s k))∧jL b (j3 b s (k+1))=(jL b s).drop (k+1)
 | 0,s,h=>by
  have hb:b ∈ s:=by
   rcases Classical.em (b ∈ s) with h1 | h1
   ·exact h1
   ·rw [wW h1] at h;simp at h
  exact ⟨hb,by rw [vT hb];rfl,by rw [vT hb];rfl⟩
 | k+1,s,h=>by
  obtain ⟨h1,h2,h3⟩:=zdt (b:=b) (k:=k) (s:=s) (by omega)
  have hb:b ∈ j3 b s (k+1):=by
   rcases Classical.em (b ∈ j3 b s (k+1)) with h4 | h4
   ·exact h4
   ·rw [wW h4] at h3
    have:=congrArg List.length h3
    simp at this
    omega
  have h5:=vT hb
  rw [h3] at h5
  refine ⟨hb,?_,?_⟩
  ·have:=congrArg (fun l=>l[0]?) h5
   simpa using this
  ·have:=congrArg (fun l=>l.drop 1) h5
   simp at this
   show jL b (zal b (j3 b s (k+1)))=_
   rw [<- this]
theorem zg5 {b:UInt8} {k:Nat} {s:Str} (h:k+1=(jL b s).length):b ∉ j3 b s k∧(jL b s)[k]?= some (j3 b s k):=by
 have h3:jL b (j3 b s k)=(jL b s).drop k:=by
  cases k with
  | zero=>rfl
  | succ k=>exact (zdt (b:=b) (s:=s) (k:=k) (by omega)).2.2
 have h4:b ∉ j3 b s k:=by
  intro hb
  rw [vT hb] at h3
  have:=congrArg List.length h3
  have h5:(jL b (zal b (j3 b s k))).length≠0:=by
   intro e;exact zf9 b _ (List.length_eq_zero_iff.1 e)
  simp at this
  omega
 refine ⟨h4,?_⟩
 rw [wW h4] at h3
 have:=congrArg (fun l=>l[0]?) h3
 simpa using this.symm
theorem zbo (b:UInt8) (s:Str):∀ k,(j3 b s k).length<=s.length
 | 0=>Nat.le_refl _
 | k+1=>by
  have h1:((j3 b s k).dropWhile (· != b)).length<=(j3 b s k).length:=List.Sublist.length_le (List.dropWhile_sublist _)
  have:=zbo b s k
  simp only [j3,zal,List.length_drop]
  omega
set_option maxHeartbeats 1000000 in
theorem zkK (s:ByteArray) (c:Int) (w:World):Calls Tryz.prog 192 #[.string s,.int .u8 c] w fun e w'=>e=.returned (.int .i64 (Lib.indexByte s.data.toList c.toNat.toUInt8))∧w'=w:=by
 go_enter Tryz.func192,Tryz.ntmps192
 go_wp2
 rw [run_callFunc_extern Tryz.func196 (by kernel_rfl) (by kernel_rfl) (by kernel_rfl) (e:=Extern.BytealgIndexByte.indexByte) (by kernel_rfl),Lib.run_indexByteString]
 simp only [Result.andThen]
 rw [Oper.upon_value]
 go_wp2
 go_ret
 exact ⟨rfl,rfl⟩
theorem ziT (s:Str) (b:UInt8):zb Tryz.prog 192 [] [Tx s,By (bI b)] (I (Lib.indexByte s b)) []:=by
 have e:(bI b).toNat.toUInt8=b:=by simp [bI]
 refine zbh [] (fun w=>?_) zlO fun E=>.v _ rfl
 have:=zkK ⟨⟨s⟩⟩ (bI b) w
 rw [e] at this
 exact this
theorem ke (s:Str) (b:UInt8):zb Tryz.prog 188 [] [Tx s,By (bI b)] (I (Lib.indexByte s b)) []:=by
 refine zb.zp (fn:=Tryz.f188) Tryz.func188 rfl ?_
 conv=>whnf
 refine ⟨_,_,(ziT s b).frame rfl _,?_⟩;refine dd ?_
 exact ⟨.inl rfl,_,.refl _,rfl⟩
end Go.Nam
namespace Go.Nam
open Go.Ab Go.Proofs Go.Hy Go.Gat
theorem zhC (X:Ob) (s:Str) (b:UInt8):zb Tryz.prog 183 [X] [Tx s,By (bI b)] (.fn 187 [] [.ref 1 [] 1 0 0,.ref 2 [] 1 0 0]) [X,⟨1,9,1,[[Tx s]],0⟩,⟨1,5,1,[[By (bI b)]],0⟩]:=by
 refine zb.zZ (fn:=Tryz.f183) Tryz.func183 rfl ?_
 conv=>whnf
 exact ⟨.inl rfl,_,.refl _,rfl,rfl⟩
theorem zbk (l:Nat) (s:Str) (b:UInt8) (hs:s.length < 4611686018427387904) (X:Nat->Ob) (Y:Nat->List Ob) (j:Nat) (g:Bool) (hj:j < (jL b s).length) (hend:g=false∨j+1=(jL b s).length)
  (hy:∀ k p,k < j->(jL b s)[k]?= some p->jm Tryz.prog l (X k::⟨1,9,1,[[Tx (j3 b s k)]],0⟩::⟨1,5,1,[[By (bI b)]],0⟩::Y k) [Tx p] (Bo true) (X (k+1)::⟨1,9,1,[[Tx (j3 b s k)]],0⟩::⟨1,5,1,[[By (bI b)]],0⟩::Y (k+1)))
  (hz:∀ p,(jL b s)[j]?= some p->jm Tryz.prog l (X j::⟨1,9,1,[[Tx (j3 b s j)]],0⟩::⟨1,5,1,[[By (bI b)]],0⟩::Y j) [Tx p] (Bo g) (X (j+1)::⟨1,9,1,[[Tx (j3 b s j)]],0⟩::⟨1,5,1,[[By (bI b)]],0⟩::Y (j+1))):
  zb Tryz.prog 187 (X 0::⟨1,9,1,[[Tx (j3 b s 0)]],0⟩::⟨1,5,1,[[By (bI b)]],0⟩::Y 0) [.v (.func (.yield l) #[] #[]),.ref 1 [] 1 0 0,.ref 2 [] 1 0 0] (.tup []) (X (j+1)::⟨1,9,1,[[Tx (j3 b s j)]],0⟩::⟨1,5,1,[[By (bI b)]],0⟩::Y (j+1)):=by
 refine zb.zZ (fn:=Tryz.f187) Tryz.func187 rfl ?_
 conv=>whnf
 refine qa.seq j (fun k=>[.v (.func (.yield l) #[] #[]),.ref 1 [] 1 0 0,.ref 2 [] 1 0 0,.za,.za,.za,.za,.za,.za,.za,.za,.za,.za,.za,.za,.za,.za,.za,.za,.za,.za,.za,.za]) (fun k=>X k::⟨1,9,1,[[Tx (j3 b s k)]],0⟩::⟨1,5,1,[[By (bI b)]],0⟩::Y k) (fun _=>True) ?_ trivial (fun k hk _=>?_) (fun _=>?_)
 ·exact cC
 ·obtain ⟨h1,h2,h3⟩:=zdt (b:=b) (s:=s) (k:=k) (by omega)
  have h4:=zbo b s k
  have h5:=zgh h1
  conv=>whnf
  refine ⟨_,_,(ke (j3 b s k) b).frame rfl _,?_⟩
  rw [zdT h1]
  conv=>whnf
  refine ⟨fun h=>absurd h (by simp),fun _=>?_⟩
  refine dd ?_
  refine ⟨by omega,by omega,by simp;omega,?_⟩
  rw [toNat_cast,List.drop_zero,head_take]
  conv=>whnf
  refine ⟨_,_,hy k _ hk h2,?_⟩
  refine dd ?_
  (repeat ((first | apply ya | apply yb);refine dd ?_))
  rw [zC (by omega),toNat_cast]
  refine ⟨by omega,?_⟩
  conv=>whnf
  refine ⟨by omega,by omega,?_⟩
  rw [List.take_length,tail_drop]
  conv=>whnf
  exact .inl ⟨rfl,cC,trivial⟩
 ·have h4:=zbo b s j
  by_cases hl:j+1=(jL b s).length
  ·obtain ⟨h1,h2⟩:=zg5 hl
   conv=>whnf
   refine ⟨_,_,(ke (j3 b s j) b).frame rfl _,?_⟩
   rw [zhl h1]
   conv=>whnf
   refine ⟨fun _=>?_,fun h=>absurd h (by simp)⟩
   refine dd ?_
   refine ⟨_,_,hz _ h2,?_⟩
   conv=>whnf
   refine ⟨fun _=>?_,fun _=>?_⟩ <;>
   ·conv=>whnf
    exact ⟨by simp,.inl rfl,_,.refl _,rfl,rfl⟩
  ·obtain ⟨h1,h2,h3⟩:=zdt (b:=b) (s:=s) (k:=j) (by omega)
   have h5:=zgh h1
   have hg:g=false:=by rcases hend with h | h;exact h;exact absurd h hl
   subst hg
   conv=>whnf
   refine ⟨_,_,(ke (j3 b s j) b).frame rfl _,?_⟩
   rw [zdT h1]
   conv=>whnf
   refine ⟨fun h=>absurd h (by simp),fun _=>?_⟩
   refine dd ?_
   refine ⟨by omega,by omega,by simp;omega,?_⟩
   rw [toNat_cast,List.drop_zero,head_take]
   conv=>whnf
   refine ⟨_,_,hz _ h2,?_⟩
   refine dd ?_
   (repeat ((first | apply ya | apply yb);refine dd ?_))
   exact ⟨by simp,.inl rfl,_,.refl _,rfl,rfl⟩
end Go.Nam
namespace Go.Nam
open Go.Ab Go.Proofs Go.Hy Go.Gat
def wy (s:Str):Bool:=decide (s.length<=32) && (jL 46 s).all j0
theorem znK (b:UInt8) (s:Str) (k:Nat) (p:Str) (h:(jL b s)[k]?= some p):p.length<=s.length:=by
 have hk:=(List.getElem?_eq_some_iff.1 h).1
 by_cases hl:k+1=(jL b s).length
 ·obtain ⟨h1,h2⟩:=zg5 hl
  rw [h2] at h;cases h;exact zbo b s k
 ·obtain ⟨h1,h2,h3⟩:=zdt (b:=b) (s:=s) (k:=k) (by omega)
  rw [h2] at h;cases h
  have:=zgh h1
  have:=zbo b s k
  omega
theorem zax (s:Str) (hs:s.length < 4611686018427387904):zb Tryz.prog 171 [] [Tx s] (Bo (wy s)) []:=by
 refine zb.zp (fn:=Tryz.f171) Tryz.func171 rfl ?_
 conv=>whnf
 refine ⟨fun h=>?_,fun h=>?_⟩
 ·refine dd ?_
  (exact ⟨.inl rfl,_,.refl _,congrArg (fun b=>some (C.v (Value.bool b))) (by simp [wy];simp at h;omega)⟩)
 ·refine dd ?_
  refine ⟨_,_,zhC _ s 46,?_⟩
  conv=>whnf
  have hn:=zf9 46 s
  have hlen:0 < (jL 46 s).length:=by
   rcases Nat.eq_zero_or_pos (jL 46 s).length with e | e
   ·exact absurd (List.length_eq_zero_iff.1 e) hn
   ·exact e
  have hple:∀ (k:Nat) (p:Str),(jL 46 s)[k]?= some p->p.length < 4611686018427387904:=fun k p hp=>by have:=znK 46 s k p hp;omega
  refine ⟨_,.refl _,?_⟩
  by_cases z7:(jL 46 s).all j0=true
  ·have hname:∀ (k:Nat) p,(jL 46 s)[k]?= some p->j0 p=true:=fun k p hp=>List.all_eq_true.1 z7 p (List.mem_of_getElem? hp)
   refine ⟨.normal,_,[⟨1,4,1,[[Bo false]],0⟩],fun l r h1 h2 h3 h4 h5=>⟨_,_,r,zbk l s 46 hs (fun _=>⟨1,4,1,[[Bo false]],0⟩) (fun _=>[obR l r _]) ((jL 46 s).length - 1) true (by omega) (.inr (by omega)) (fun k p hk hp=>?_) (fun p hp=>?_),
    rfl,by rw [h1];decide,rfl,Nat.zero_le _,by rw [h2];trivial,zt.low 1 _ _ rfl rfl rfl⟩,?_⟩
   ·refine jm.zZ (id:=3) rfl h1 h2 h3 h4 h5 rfl rfl rfl ?_
    conv=>whnf
    refine ⟨rfl,rfl,?_⟩
    conv=>whnf
    refine ⟨_,_,(xm p (hple _ _ hp)).frame rfl _,?_⟩;refine dd ?_
    refine ⟨fun _=>?_,fun h=>absurd ((hname _ _ hp).symm.trans h:true=false) (by decide)⟩;refine dd ?_
    exact ⟨_,_,.refl _,rfl,.inl ⟨rfl,rfl,rfl⟩⟩
   ·refine jm.zZ (id:=3) rfl h1 h2 h3 h4 h5 rfl rfl rfl ?_
    conv=>whnf
    refine ⟨rfl,rfl,?_⟩
    conv=>whnf
    refine ⟨_,_,(xm p (hple _ _ hp)).frame rfl _,?_⟩;refine dd ?_
    refine ⟨fun _=>?_,fun h=>absurd ((hname _ _ hp).symm.trans h:true=false) (by decide)⟩;refine dd ?_
    exact ⟨_,_,.refl _,rfl,.inl ⟨rfl,rfl,rfl⟩⟩
   ·conv=>whnf
    (exact ⟨.inl rfl,_,.refl _,congrArg (fun b=>some (C.v (Value.bool b))) (by simp [wy,z7];simp at h;omega)⟩)
  ·obtain ⟨j,hj⟩:∃ j,(jL 46 s).findIdx? (fun p=>!j0 p)=some j:=by
    cases e:(jL 46 s).findIdx? (fun p=>!j0 p) with
    | some j=>exact ⟨j,rfl⟩
    | none=>
     exfalso
     rw [List.findIdx?_eq_none_iff] at e
     exact z7 (List.all_eq_true.2 fun x hx=>by simpa using e x hx)
   rw [List.findIdx?_eq_some_iff_getElem] at hj
   obtain ⟨hjl,hj1,hj2⟩:=hj
   have z7:(jL 46 s).all j0=false:=by simpa using z7
   refine ⟨.ret,_,[⟨1,4,1,[[Bo false]],0⟩],fun l r h1 h2 h3 h4 h5=>⟨_,_,left r .ret,zbk l s 46 hs (fun _=>⟨1,4,1,[[Bo false]],0⟩) (fun k=>[obR l (if k < j+1 then r else left r .ret) _]) j false hjl (.inl rfl) (fun k p hk hp=>?_) (fun p hp=>?_),
    congrArg (fun x=>some (obR l x _)) (if_neg (Nat.lt_irrefl (j+1))),by simp,rfl,Nat.zero_le _,trivial,zt.low 1 _ _ rfl rfl rfl⟩,?_⟩
   ·have e1:k < j+1:=by omega
    have e2:k+1 < j+1:=by omega
    simp only [if_pos e1,if_pos e2]
    refine jm.zZ (id:=3) rfl h1 h2 h3 h4 h5 rfl rfl rfl ?_
    conv=>whnf
    refine ⟨rfl,rfl,?_⟩
    conv=>whnf
    refine ⟨_,_,(xm p (hple _ _ hp)).frame rfl _,?_⟩;refine dd ?_
    have hname:j0 p=true:=by
     have h6:=hj2 k hk
     rw [List.getElem?_eq_getElem (by omega)] at hp
     cases hp
     simpa using h6
    refine ⟨fun _=>?_,fun h=>absurd ((hname).symm.trans h:true=false) (by decide)⟩;refine dd ?_
    exact ⟨_,_,.refl _,rfl,.inl ⟨rfl,rfl,rfl⟩⟩
   ·simp only [if_pos (Nat.lt_succ_self j),if_neg (Nat.lt_irrefl (j+1))]
    refine jm.zZ (id:=3) rfl h1 h2 h3 h4 h5 rfl rfl rfl ?_
    conv=>whnf
    refine ⟨rfl,rfl,?_⟩
    conv=>whnf
    refine ⟨_,_,(xm p (hple _ _ hp)).frame rfl _,?_⟩;refine dd ?_
    have hname:j0 p=false:=by
     rw [List.getElem?_eq_getElem hjl] at hp
     cases hp
     simpa using hj1
    refine ⟨fun h=>absurd ((hname).symm.trans h:false=true) (by decide),fun _=>?_⟩;refine dd ?_
    exact ⟨_,_,.refl _,rfl,.inr ⟨rfl,.inl ⟨rfl,rfl⟩⟩⟩
   ·conv=>whnf
    (exact ⟨.inl rfl,_,.refl _,congrArg (fun b=>some (C.v (Value.bool b))) (by simp [wy,z7])⟩)
abbrev pk (b:UInt8) (s:Str) (k:Nat):List (List C):=((jL b s).take k).map yT
end Go.Nam
namespace Go.Nam
open Go.Ab Go.Proofs Go.Hy Go.Gat
def wv (s p:Str):Bool:=decide (p.length<=s.length) && (s.take p.length == p)
theorem zcY (s p:Str):zb Tryz.prog 186 [] [Tx s,Tx p] (Bo (wv s p)) []:=by
 refine zb.zp (fn:=Tryz.f186) Tryz.func186 rfl ?_
 conv=>whnf
 refine ⟨fun h=>?_,fun h=>?_⟩
 ·refine dd ?_
  refine ⟨by omega,by omega,by simp at h;omega,?_⟩
  rw [toNat_cast,List.drop_zero]
  conv=>whnf
  (repeat' (first | (refine ⟨fun _=>?_,fun _=>?_⟩ <;> (conv=>whnf)) | fail))
  all_goals (exact ⟨.inl rfl,_,.refl _,congrArg (fun b=>some (C.v (Value.bool b))) (by simp_all [wv])⟩)
 ·conv=>whnf
  (exact ⟨.inl rfl,_,.refl _,congrArg (fun b=>some (C.v (Value.bool b))) (by simp_all [wv];intros;omega)⟩)
abbrev tSB (r:Str × Bool):C:=.tup [Tx r.1,Bo r.2]
def vd (s p:Str):Str × Bool:=if wv s p then (s.drop p.length,true) else (s,false)
theorem zeK (s p:Str):zb Tryz.prog 182 [] [Tx s,Tx p] (tSB (vd s p)) []:=by
 refine zb.zp (fn:=Tryz.f182) Tryz.func182 rfl ?_
 conv=>whnf
 refine ⟨_,_,(zcY s p).frame rfl _,?_⟩;refine dd ?_
 refine ⟨fun h=>?_,fun h=>?_⟩
 ·refine dd ?_
  have h':p.length<=s.length:=by simp [wv] at h;exact h.1
  refine ⟨by omega,by omega,by omega,?_⟩
  rw [List.take_length,toNat_cast]
  conv=>whnf
  have e:vd s p=(s.drop p.length,true):=by unfold vd;rw [if_pos h]
  rw [e]
  exact ⟨.inl rfl,_,.refl _,rfl⟩
 ·conv=>whnf
  have e:vd s p=(s,false):=by unfold vd;rw [if_neg (by simp [h])]
  rw [e]
  exact ⟨.inl rfl,_,.refl _,rfl⟩
theorem yS (s p:Str):zb Tryz.prog 170 [] [Tx s,Tx p] (tSB (vd s p)) []:=by
 refine zb.zp (fn:=Tryz.f170) Tryz.func170 rfl ?_
 conv=>whnf
 refine ⟨_,_,(zeK s p).frame rfl _,?_⟩;refine dd ?_
 (repeat' (first | (refine ⟨fun _=>?_,fun _=>?_⟩ <;> (conv=>whnf)) | fail))
 all_goals
  rename_i h
  exact ⟨.inl rfl,_,.refl _,congrArg (fun b=>some (C.tup [Tx (vd s p).1,Bo b])) h.symm⟩
def zc1 (s:Str):Bool:=if wv s [42,46] then wy (s.drop 2) else s == [42] || wy s
theorem vL (s:Str) (hs:s.length < 4611686018427387904):zb Tryz.prog 146 [] [Tx s] (Bo (zc1 s)) []:=by
 refine zb.zp (fn:=Tryz.f146) Tryz.func146 rfl ?_
 conv=>whnf
 refine ⟨_,_,(yS s [42,46]).frame rfl _,?_⟩;refine dd ?_
 refine ⟨fun h=>?_,fun h=>?_⟩
 ·have h1:wv s [42,46]=true:=by
   cases e:wv s [42,46] with
   | true=>rfl
   | false=>simp [vd,e] at h
  have e:vd s [42,46]=(s.drop 2,true):=by unfold vd;rw [if_pos h1];rfl
  rw [e]
  refine dd ?_
  refine ⟨_,_,(zax (s.drop 2) (by simp;omega)).frame rfl _,?_⟩;refine dd ?_
  (repeat' (first | (refine ⟨fun _=>?_,fun _=>?_⟩ <;> (conv=>whnf)) | fail))
  all_goals (exact ⟨.inl rfl,_,.refl _,congrArg (fun b=>some (C.v (Value.bool b))) (by simp_all [zc1])⟩)
 ·have h1:wv s [42,46]=false:=by
   cases e:wv s [42,46] with
   | false=>rfl
   | true=>simp [vd,e] at h
  have e:vd s [42,46]=(s,false):=by unfold vd;rw [if_neg (by simp [h1])]
  rw [e]
  refine dd ?_
  refine ⟨fun h2=>?_,fun h2=>?_⟩
  ·refine dd ?_
   (exact ⟨.inl rfl,_,.refl _,congrArg (fun b=>some (C.v (Value.bool b))) (by simp_all [zc1])⟩)
  ·refine dd ?_
   refine ⟨_,_,(zax s hs).frame rfl _,?_⟩;refine dd ?_
   (repeat' (first | (refine ⟨fun _=>?_,fun _=>?_⟩ <;> (conv=>whnf)) | fail))
   all_goals (exact ⟨.inl rfl,_,.refl _,congrArg (fun b=>some (C.v (Value.bool b))) (by simp_all [zc1])⟩)
end Go.Nam
namespace Go.Nam
open Go.Ab Go.Proofs Go.Hy Go.Gat
def kP (s:Str):Bool:=decide (0 < s.length) && decide (s.length<=32) && (match s with | c::_=>bI c == 47 | []=>false) && zeF kU s 47
theorem zaF (s:Str) (hs:s.length < 4611686018427387904):zb Tryz.prog 147 [] [Tx s] (Bo (kP s)) []:=by
 refine zb.zp (fn:=Tryz.f147) Tryz.func147 rfl ?_
 cases s with
 | nil=>
  conv=>whnf
  (repeat ((first | apply ya | apply yb);refine dd ?_))
  exact ⟨.inl rfl,_,.refl _,rfl⟩
 | cons c s=>
  conv=>whnf
  refine ⟨fun _=>?_,fun h=>absurd h (by simp <;> omega)⟩
  conv=>whnf
  refine ⟨fun h1=>?_,fun h1=>?_⟩
  ·conv=>whnf
   refine ⟨by omega,c,rfl,?_⟩
   conv=>whnf
   refine ⟨fun h2=>?_,fun h2=>?_⟩
   ·conv=>whnf
    refine ⟨_,_,(zeE).frame rfl _,?_⟩;refine dd ?_
    refine ⟨_,_,(ze8 (c::s) 47 hs).frame rfl _,?_⟩;refine dd ?_
    have h1':s.length<=31:=by have:=h1;simp at this;omega
    have e:kP (c::s)=zeF kU (c::s) 47:=by unfold kP;simp [h2];omega
    refine ⟨fun h3=>?_,fun h3=>?_⟩
    all_goals ((conv=>whnf);(exact ⟨.inl rfl,_,.refl _,congrArg (fun b=>some (C.v (Value.bool b))) (by rw [e,h3])⟩))
   ·conv=>whnf
    (exact ⟨.inl rfl,_,.refl _,congrArg (fun b=>some (C.v (Value.bool b))) (by simp [kP,h2])⟩)
  ·conv=>whnf
   (exact ⟨.inl rfl,_,.refl _,congrArg (fun b=>some (C.v (Value.bool b))) (by simp [kP];simp at h1;omega)⟩)
def znR (b:UInt8) (s:Str):Nat->List Str × Nat
 | 0=>([],0)
 | k+1=>match s[k]? with
  | some c=>if c == b then ((znR b s k).1++[(s.take k).drop (znR b s k).2],k+1) else znR b s k
  | none=>znR b s k
end Go.Nam
namespace Go.Nam
open Go.Ab Go.Proofs Go.Hy Go.Gat
abbrev n46:UInt8:=46
end Go.Nam
namespace Go.Nam
open Go.Ab Go.Proofs Go.Hy Go.Gat
theorem zkJ {c:UInt8} {s:Str} (h:wy (c::s)=true):zml (bI c)=true:=by
 unfold wy at h
 simp only [Bool.and_eq_true,List.all_eq_true] at h
 by_cases e:c=46
 ·subst e
  have:=h.2 [] (by simp [jL])
  exact absurd this (by decide)
 ·have h1:(c == 46)=false:=by simpa using e
  cases h3:jL 46 s with
  | nil=>exact absurd h3 (zf9 _ s)
  | cons x xs=>
   have:=h.2 (c::x) (by simp [jL,h1,h3])
   simp only [j0,Bool.and_eq_true] at this
   exact this.1.2
theorem zpB {s:Str} (h:kP s=true):zc1 s=false:=by
 match s,h with
 | [],h=>exact absurd h (by decide)
 | c::s,h=>
  have hc:c=47:=by
   simp only [kP,Bool.and_eq_true,beq_iff_eq] at h
   exact UInt8.toNat_inj.1 (by have:=h.1.2;simp [bI] at this;show c.toNat=47;omega)
  subst hc
  have h1:wv (47::s) [42,46]=false:=by simp [wv]
  have h2:wy (47::s)=false:=by
   cases e:wy (47::s) with
   | false=>rfl
   | true=>exact absurd (zkJ e) (by decide)
  simp [zc1,h1,h2]
end Go.Nam
namespace Go.Hos
open Go.Ab Go.Proofs Go.Hy Go.Gat Go.Nam
def zlx (s t:Str):Bool:=decide (t.length<=s.length) && (s.drop (s.length - t.length) == t)
theorem zjC (s t:Str) (hs:s.length < 8000000000000):zb Tryz.prog 200 [] [Tx s,Tx t] (Bo (zlx s t)) []:=by
 refine zb.zp (fn:=Tryz.f200) Tryz.func200 rfl ?_
 conv=>whnf
 refine ⟨fun h=>?_,fun h=>?_⟩
 ·have h':t.length<=s.length:=by simp at h;omega
  have w:IntKind.i64.wrap ((s.length:Int) - (t.length:Int))=(s.length - t.length:Nat):=by rw [jw (by omega) (by omega)];omega
  refine dd ?_
  rw [w]
  refine ⟨by omega,by omega,by omega,?_⟩
  rw [List.take_length,toNat_cast]
  refine dd ?_
  (repeat' (first | (refine ⟨fun _=>?_,fun _=>?_⟩ <;> (conv=>whnf)) | fail))
  all_goals (exact ⟨.inl rfl,_,.refl _,congrArg (fun b=>some (C.v (Value.bool b))) (by simp_all [zlx])⟩)
 ·refine dd ?_
  (exact ⟨.inl rfl,_,.refl _,congrArg (fun b=>some (C.v (Value.bool b))) (by simp [zlx];simp at h;intros;omega)⟩)
theorem zfI (s t:Str) (hs:s.length < 8000000000000):zb Tryz.prog 199 [] [Tx s,Tx t] (Bo (zlx s t)) []:=by
 refine zb.zp (fn:=Tryz.f199) Tryz.func199 rfl ?_
 conv=>whnf
 refine ⟨_,_,(zjC s t hs).frame rfl _,?_⟩;refine dd ?_
 (repeat' (first | (refine ⟨fun _=>?_,fun _=>?_⟩ <;> (conv=>whnf)) | fail))
 all_goals (rename_i h;(exact ⟨.inl rfl,_,.refl _,congrArg (fun b=>some (C.v (Value.bool b))) (by exact h.symm)⟩))
def zh8 (p h:Str):Bool:=match p with
 | c::t=>c == 42 && (t == [] || (decide (t.length < h.length) && zlx h t))
 | []=>false
def vK (p h:Str):Bool:=zc1 p && wy h && (p == h || zh8 p h)
theorem zpi (c:UInt8) (t:Str):vd (c::t) [42]=if c == 42 then (t,true) else (c::t,false):=by
 unfold vd wv
 by_cases h:c=42
 ·subst h;simp
 ·simp [h]
theorem znL:zc1 []=false:=by decide
theorem zhu (p h:Str) (hp:p.length < 8000000000000) (hh:h.length < 8000000000000):zb Tryz.prog 197 [] [Tx p,Tx h] (Bo (vK p h)) []:=by
 refine zb.zp (fn:=Tryz.f197) Tryz.func197 rfl ?_
 conv=>whnf
 refine ⟨_,_,(vL p (by omega)).frame rfl _,?_⟩;refine dd ?_
 refine ⟨fun h1=>?_,fun h1=>?_⟩
 ·refine dd ?_
  (repeat ((first | apply ya | apply yb);refine dd ?_))
  refine ⟨_,_,(zax h (by omega)).frame rfl _,?_⟩;refine dd ?_
  refine ⟨fun h2=>?_,fun h2=>?_⟩
  ·refine dd ?_
   (repeat ((first | apply ya | apply yb);refine dd ?_))
   refine ⟨_,_,(yS p [42]).frame rfl _,?_⟩;refine dd ?_
   cases p with
   | nil=>rw [znL] at h1;cases h1
   | cons c t=>
    rw [zpi]
    by_cases hc:(c == 42)=true
    ·rw [if_pos hc]
     refine ⟨fun _=>?_,fun h=>absurd h (by simp)⟩;refine dd ?_
     refine ⟨fun h3=>?_,fun h3=>?_⟩
     ·refine dd ?_
      (repeat ((first | apply ya | apply yb);refine dd ?_))
      (exact ⟨.inl rfl,_,.refl _,congrArg (fun b=>some (C.v (Value.bool b))) (by simp_all [vK])⟩)
     ·refine dd ?_
      refine ⟨fun h4=>?_,fun h4=>?_⟩
      ·refine dd ?_
       (repeat ((first | apply ya | apply yb);refine dd ?_))
       (exact ⟨.inl rfl,_,.refl _,congrArg (fun b=>some (C.v (Value.bool b))) (by simp_all [vK,zh8])⟩)
      ·refine dd ?_
       refine ⟨fun h5=>?_,fun h5=>?_⟩
       ·refine dd ?_
        refine ⟨_,_,(zfI h t hh).frame rfl _,?_⟩;refine dd ?_
        (repeat' (first | (refine ⟨fun _=>?_,fun _=>?_⟩ <;> (conv=>whnf)) | fail))
        all_goals (rename_i h6;(exact ⟨.inl rfl,_,.refl _,congrArg (fun b=>some (C.v (Value.bool b))) (by simp at hc;subst hc;simp at h3 h4 h5;simp [vK,zh8,h1,h2,h3,h4,h5,h6])⟩))
       ·refine dd ?_
        (exact ⟨.inl rfl,_,.refl _,congrArg (fun b=>some (C.v (Value.bool b))) (by simp at hc;subst hc;simp at h3 h4 h5;simp [vK,zh8,h1,h2,h3,h4];intros;omega)⟩)
    ·rw [if_neg hc]
     refine ⟨fun h=>absurd h (by simp),fun _=>?_⟩;refine dd ?_
     refine ⟨fun h3=>?_,fun h3=>?_⟩
     ·refine dd ?_
      (repeat ((first | apply ya | apply yb);refine dd ?_))
      (exact ⟨.inl rfl,_,.refl _,congrArg (fun b=>some (C.v (Value.bool b))) (by simp_all [vK])⟩)
     ·refine dd ?_
      (exact ⟨.inl rfl,_,.refl _,congrArg (fun b=>some (C.v (Value.bool b))) (by simp at h3 hc;simp [vK,zh8,h1,h2,h3,hc])⟩)
  ·refine dd ?_
   (repeat ((first | apply ya | apply yb);refine dd ?_))
   (exact ⟨.inl rfl,_,.refl _,congrArg (fun b=>some (C.v (Value.bool b))) (by simp_all [vK])⟩)
 ·refine dd ?_
  (repeat ((first | apply ya | apply yb);refine dd ?_))
  (exact ⟨.inl rfl,_,.refl _,congrArg (fun b=>some (C.v (Value.bool b))) (by simp_all [vK])⟩)
def wO (p t:Str):Bool:=kP p && kP t && wv p t && (p.drop t.length == [] || zlx t [47] || (p.drop t.length).head? == some 47)
theorem zoC {s:Str} {c:UInt8} (h:s[0]?= some c):(s.head? == some 47)=(bI c == 47):=by
 rw [List.head?_eq_getElem?,h]
 by_cases e:c=47
 ·subst e;rfl
 ·have h1:¬bI c=47:=fun h=>e (by
   unfold bI at h
   have h':c.toNat=47:=by omega
   exact UInt8.toNat_inj.1 (by rw [h'];rfl))
  have h2:(c == 47)=false:=by simpa using e
  have h3:(bI c == 47)=false:=by simpa using h1
  rw [h3]
  simpa using e
theorem zh2 (p t:Str) (hp:p.length < 8000000000000) (ht:t.length < 8000000000000):zb Tryz.prog 198 [] [Tx p,Tx t] (Bo (wO p t)) []:=by
 refine zb.zp (fn:=Tryz.f198) Tryz.func198 rfl ?_
 conv=>whnf
 refine ⟨_,_,(zaF p (by omega)).frame rfl _,?_⟩;refine dd ?_
 refine ⟨fun h1=>?_,fun h1=>?_⟩
 ·refine dd ?_
  (repeat ((first | apply ya | apply yb);refine dd ?_))
  refine ⟨_,_,(zaF t (by omega)).frame rfl _,?_⟩;refine dd ?_
  refine ⟨fun h2=>?_,fun h2=>?_⟩
  ·refine dd ?_
   (repeat ((first | apply ya | apply yb);refine dd ?_))
   refine ⟨_,_,(yS p t).frame rfl _,?_⟩;refine dd ?_
   by_cases h3:wv p t=true
   ·have e:vd p t=(p.drop t.length,true):=by unfold vd;rw [if_pos h3]
    rw [e]
    refine ⟨fun _=>?_,fun h=>absurd h (by simp)⟩;refine dd ?_
    refine ⟨fun h4=>?_,fun h4=>?_⟩
    ·refine dd ?_
     (repeat ((first | apply ya | apply yb);refine dd ?_))
     (exact ⟨.inl rfl,_,.refl _,congrArg (fun b=>some (C.v (Value.bool b))) (by simp_all [wO])⟩)
    ·refine dd ?_
     refine ⟨_,_,(zfI t [47] ht).frame rfl _,?_⟩;refine dd ?_
     refine ⟨fun h5=>?_,fun h5=>?_⟩
     ·refine dd ?_
      (repeat ((first | apply ya | apply yb);refine dd ?_))
      (exact ⟨.inl rfl,_,.refl _,congrArg (fun b=>some (C.v (Value.bool b))) (by simp_all [wO])⟩)
     ·refine dd ?_
      obtain ⟨c,hc⟩:∃ c,(p.drop t.length)[0]?= some c:=by
       cases hd:p.drop t.length with
       | nil=>rw [hd] at h4;simp at h4
       | cons c _=>exact ⟨c,rfl⟩
      refine ⟨by omega,c,hc,?_⟩
      refine dd ?_
      (repeat' (first | (refine ⟨fun _=>?_,fun _=>?_⟩ <;> (conv=>whnf)) | fail))
      all_goals (rename_i h6;(exact ⟨.inl rfl,_,.refl _,congrArg (fun b=>some (C.v (Value.bool b))) (by simp only [wO,h1,h2,h3,h4,h5,zoC hc];simpa using h6.symm)⟩))
   ·have e:vd p t=(p,false):=by unfold vd;rw [if_neg h3]
    rw [e]
    refine ⟨fun h=>absurd h (by simp),fun _=>?_⟩;refine dd ?_
    (exact ⟨.inl rfl,_,.refl _,congrArg (fun b=>some (C.v (Value.bool b))) (by simp_all [wO])⟩)
  ·refine dd ?_
   (repeat ((first | apply ya | apply yb);refine dd ?_))
   (exact ⟨.inl rfl,_,.refl _,congrArg (fun b=>some (C.v (Value.bool b))) (by simp_all [wO])⟩)
 ·refine dd ?_
  (repeat ((first | apply ya | apply yb);refine dd ?_))
  (exact ⟨.inl rfl,_,.refl _,congrArg (fun b=>some (C.v (Value.bool b))) (by simp_all [wO])⟩)
def xv (p:Str):Int:=if zc1 p then (if wv p [42,46] then ((p.length - 2:Nat):Int) else if p == [42] then 0 else 100) else 0
theorem zbA (p:Str) (hp:p.length < 8000000000000):zb Tryz.prog 195 [] [Tx p] (I (xv p)) []:=by
 refine zb.zp (fn:=Tryz.f195) Tryz.func195 rfl ?_
 conv=>whnf
 refine ⟨_,_,(vL p (by omega)).frame rfl _,?_⟩;refine dd ?_
 refine ⟨fun h1=>?_,fun h1=>?_⟩
 ·refine dd ?_
  (repeat ((first | apply ya | apply yb);refine dd ?_))
  refine ⟨_,_,(yS p [42,46]).frame rfl _,?_⟩;refine dd ?_
  by_cases h3:wv p [42,46]=true
  ·have e:vd p [42,46]=(p.drop 2,true):=by unfold vd;rw [if_pos h3];rfl
   have ew:xv p=((p.drop 2).length:Nat):=by simp [xv,h1,h3]
   rw [e,ew]
   refine ⟨fun _=>?_,fun h=>absurd h (by simp)⟩;refine dd ?_
   exact ⟨.inl rfl,_,.refl _,rfl⟩
  ·have e:vd p [42,46]=(p,false):=by unfold vd;rw [if_neg h3]
   rw [e]
   refine ⟨fun h=>absurd h (by simp),fun _=>?_⟩;refine dd ?_
   refine ⟨fun h4=>?_,fun h4=>?_⟩
   ·have ew:xv p=0:=by simp_all [xv]
    rw [ew]
    refine dd ?_
    exact ⟨.inl rfl,_,.refl _,rfl⟩
   ·have ew:xv p=100:=by simp_all [xv]
    rw [ew]
    refine dd ?_
    exact ⟨.inl rfl,_,.refl _,rfl⟩
 ·have ew:xv p=0:=by simp_all [xv]
  rw [ew]
  refine dd ?_
  (repeat ((first | apply ya | apply yb);refine dd ?_))
  exact ⟨.inl rfl,_,.refl _,rfl⟩
def zaT (p q p' q':Str):Bool:=if xv p=xv p' then decide (q'.length < q.length) else decide (xv p' < xv p)
theorem zfU (p q p' q':Str) (hp:p.length < 8000000000000) (hq:p'.length < 8000000000000):zb Tryz.prog 190 [] [Tx p,Tx q,Tx p',Tx q'] (Bo (zaT p q p' q')) []:=by
 refine zb.zp (fn:=Tryz.f190) Tryz.func190 rfl ?_
 conv=>whnf
 refine ⟨_,_,(zbA p hp).frame rfl _,?_⟩;refine dd ?_
 refine ⟨_,_,(zbA p' hq).frame rfl _,?_⟩;refine dd ?_
 refine ⟨fun h1=>?_,fun h1=>?_⟩
 ·refine dd ?_
  (repeat' (first | (refine ⟨fun _=>?_,fun _=>?_⟩ <;> (conv=>whnf)) | fail))
  all_goals (rename_i h2;(exact ⟨.inl rfl,_,.refl _,congrArg (fun b=>some (C.v (Value.bool b))) (by simp_all [zaT])⟩))
 ·refine dd ?_
  (repeat' (first | (refine ⟨fun _=>?_,fun _=>?_⟩ <;> (conv=>whnf)) | fail))
  all_goals (rename_i h2;(exact ⟨.inl rfl,_,.refl _,congrArg (fun b=>some (C.v (Value.bool b))) (by simp_all [zaT])⟩))
end Go.Hos
namespace Go.Con
open Go.Ab Go.Proofs Go.Hy Go.Gat Go.Nam Go.Hos
theorem zc9 {α:Type} (l:List α) (p:α->Bool):decide ((match l.findIdx? p with | some i=>(i:Int) | none=> -1)≥0)=l.any p:=by
 cases h:l.findIdx? p with
 | none=>
  rw [List.findIdx?_eq_none_iff] at h
  symm
  simp only [Int.reduceNeg,ge_iff_le,Int.reduceLE,decide_false]
  rw [List.any_eq_false]
  intro x hx;simp [h x hx]
 | some i=>
  obtain ⟨h1,h2,_⟩:=List.findIdx?_eq_some_iff_getElem.1 h
  symm
  have:(0:Int)<=(i:Int):=Int.natCast_nonneg i
  simp only [ge_iff_le,this,decide_true]
  rw [List.any_eq_true]
  exact ⟨_,List.getElem_mem h1,h2⟩
abbrev Cc (c:Clu):C:=.agg (jj c)
theorem ziU {H:zl} {f:FuncId} {caps:List C} {l:List Clu} (p:Clu->Bool) (hcb:qk Tryz.prog f=true) (hp:∀ r ∈ l,zb Tryz.prog f H ([Cc r]++caps) (Bo (p r)) H) (hl:l.length < 4611686018427387904):
  zb Tryz.prog 181 H [lC l,.fn f [] caps] (I (match l.findIdx? p with | some i=>(i:Int) | none=> -1)) H:=by
 refine zb.zZ (fn:=Tryz.f181) Tryz.func181 rfl ?_
 conv=>whnf
 refine qa.inv (fun n t1 H1=>∃ k,k+n=l.length∧H1=H∧(∀ j,j < k->∀ r,l[j]?= some r->p r=false)∧
   t1=[lC l,.fn f [] caps,.za,.za,I 0,.za,.za,I (l.map jj).length,I k,.za,.za,.za,.za,.za,.za,.za,.za,.za,.za]) l.length ?_ ?_
 ·exact ⟨_,_,zt.mask [0,1,4,7,8] _ _,0,by simp,rfl,by simp,rfl⟩
 rintro n _ _ ⟨k,hk,rfl,hno,rfl⟩
 conv=>whnf
 refine ⟨fun h=>?_,fun h=>?_⟩
 ·conv=>whnf
  have hlt:k < l.length:=by simpa using h
  refine ⟨by omega,jj l[k],by simp [hlt],?_⟩
  conv=>whnf
  rw [hcb]
  refine ⟨_,_,hp _ (List.getElem_mem hlt),?_⟩
  conv=>whnf
  refine ⟨fun h2=>?_,fun h2=>?_⟩
  ·conv=>whnf
   refine .inr ⟨by simp,?_⟩
   conv=>whnf
   refine ⟨.inl rfl,_,.refl _,rfl,?_⟩
   have:l.findIdx? p=some k:=by
    rw [List.findIdx?_eq_some_iff_getElem]
    refine ⟨hlt,h2,fun j hj=>?_⟩
    simp [hno j hj _ (List.getElem?_eq_getElem (by omega))]
   rw [this]
   rfl
  ·conv=>whnf
   refine .inl ⟨rfl,n - 1,_,_,by omega,zt.mask [0,1,4,7,8] _ _,k+1,by omega,rfl,?_,?_⟩
   ·intro j hj r hr
    by_cases hjk:j=k
    ·subst hjk
     rw [List.getElem?_eq_getElem hlt] at hr
     cases hr
     exact h2
    ·exact hno j (by omega) r hr
   ·rw [zC (by omega)];rfl
 ·conv=>whnf
  refine .inr ⟨by simp,?_⟩
  conv=>whnf
  refine ⟨.inl rfl,_,.refl _,rfl,?_⟩
  have:l.findIdx? p=none:=by
   rw [List.findIdx?_eq_none_iff]
   intro x hx
   obtain ⟨j,hj⟩:=List.mem_iff_getElem?.1 hx
   have hjl:=(List.getElem?_eq_some_iff.1 hj).1
   have:¬k < l.length:=by simpa using h
   exact hno j (by omega) x hj
  rw [this]
  rfl
theorem zix {H:zl} {f:FuncId} {caps:List C} {l:List Clu} (p:Clu->Bool) (hcb:qk Tryz.prog f=true) (hp:∀ r ∈ l,zb Tryz.prog f H ([Cc r]++caps) (Bo (p r)) H) (hl:l.length < 4611686018427387904):
  zb Tryz.prog 168 H [lC l,.fn f [] caps] (Bo (l.any p)) H:=by
 refine zb.zZ (fn:=Tryz.f168) Tryz.func168 rfl ?_
 conv=>whnf
 refine ⟨_,_,ziU p hcb hp hl,?_⟩
 refine dd ?_
 rw [show decide ((match l.findIdx? p with | some i=>((i:Nat):Int) | none=>(-1:Int))≥(0:Int))=l.any p from zc9 l p]
 refine ⟨fun h=>?_,fun h=>?_⟩ <;> rw [h]
 ·refine dd ?_
  exact ⟨.inl rfl,_,.refl _,rfl,rfl⟩
 ·refine dd ?_
  exact ⟨.inl rfl,_,.refl _,rfl,rfl⟩
theorem zgr (s:Str) (c:Clu):zb Tryz.prog 169 [⟨1,9,1,[[Tx s]],0⟩] [Cc c,.ref 0 [] 1 0 0] (Bo (c.name == s)) [⟨1,9,1,[[Tx s]],0⟩]:=by
 refine zb.zZ (fn:=Tryz.f169) Tryz.func169 rfl ?_
 conv=>whnf
 refine ⟨fun h=>?_,fun h=>?_⟩ <;> rw [h]
 ·conv=>whnf
  exact ⟨.inl rfl,_,zt.keep [3] 1 _ _ rfl rfl rfl rfl,rfl,rfl⟩
 ·conv=>whnf
  exact ⟨.inl rfl,_,zt.keep [3] 1 _ _ rfl rfl rfl rfl,rfl,rfl⟩
def kH (l:List Clu) (s:Str):Bool:=l.any fun c=>c.name == s
theorem zcD (l:List Clu) (s:Str) (hl:l.length < 4611686018427387904):zb Tryz.prog 145 [] [lC l,Tx s] (Bo (kH l s)) []:=by
 refine zb.zp (fn:=Tryz.f145) Tryz.func145 rfl ?_
 conv=>whnf
 refine ⟨_,_,zix (fun c=>c.name == s) (by kernel_rfl) (fun r _=>zgr s r) hl,?_⟩
 refine dd ?_
 refine ⟨fun h=>?_,fun h=>?_⟩
 ·refine dd ?_
  (exact ⟨.inl rfl,_,.refl _,congrArg (fun b=>some (C.v (Value.bool b))) (by exact h.symm)⟩)
 ·refine dd ?_
  (exact ⟨.inl rfl,_,.refl _,congrArg (fun b=>some (C.v (Value.bool b))) (by exact h.symm)⟩)
theorem j8 (n a b:Int):zb Tryz.prog 143 [] [I n,I a,I b] (Bo (decide (a<=n) && decide (n<=b))) []:=by
 refine zb.zp (fn:=Tryz.f143) Tryz.func143 rfl ?_
 conv=>whnf
 (repeat' (first | (refine ⟨fun _=>?_,fun _=>?_⟩ <;> (conv=>whnf)) | fail))
 all_goals (exact ⟨.inl rfl,_,.refl _,congrArg (fun b=>some (C.v (Value.bool b))) (by simp_all <;> omega)⟩)
def xL (l:List Str) (s:Str):Int:=match l.findIdx? (fun x=>x == s) with | some i=>(i:Int) | none=> -1
theorem ziZ (l:List Str) (s:Str) (hl:l.length < 4611686018427387904):zb Tryz.prog 167 [] [lT l,Tx s] (I (xL l s)) []:=by
 have hlm:(l.map yT).length=l.length:=List.length_map ..
 refine zb.zp (fn:=Tryz.f167) Tryz.func167 rfl ?_
 conv=>whnf
 rw [hlm]
 refine qa.seq l.length (fun k=>[lT l,Tx s,.za,.za,I 0,.za,.za,I l.length,I k,.za,.za,.za,.za,.za,.za,.za,.za,.za,.za]) (fun k=>[]) (fun k=>∀ j,(h:j < l.length)->j < k->(l[j] == s)=false) ?_ (by simp) (fun k hk hr=>?_) (fun hr=>?_)
 ·exact cC
 ·have hg:(l.map yT)[k]?= some (yT l[k]):=by rw [List.getElem?_map,List.getElem?_eq_getElem hk];rfl
  conv=>whnf
  refine ⟨fun _=>?_,fun h=>absurd h (by simp;omega)⟩
  refine dd ?_
  refine ⟨by omega,_,by rw [toNat_cast];exact hg,?_⟩
  refine dd ?_
  refine ⟨fun h2=>?_,fun h2=>?_⟩
  ·refine dd ?_
   refine .inr ⟨by simp,?_⟩
   conv=>whnf
   have e:xL l s=k:=by
    unfold xL
    have:l.findIdx? (fun x=>x == s)=some k:=by
     rw [List.findIdx?_eq_some_iff_getElem]
     refine ⟨hk,?_,fun j hj=>by simp only [hr j (by omega) hj];decide⟩
     simp at h2;simp [h2]
    rw [this]
   rw [e]
   exact ⟨.inl rfl,_,.refl _,rfl⟩
  ·refine dd ?_
   refine .inl ⟨rfl,?_,fun j hj hjk=>?_⟩
   ·rw [zC (by omega)]
    exact cE 0
   ·by_cases e:j=k
    ·subst e;simp at h2 ⊢;exact fun h=>h2 h.symm
    ·exact hr j hj (by omega)
 ·conv=>whnf
  refine ⟨fun h=>absurd h (by simp),fun _=>?_⟩
  refine dd ?_
  refine ⟨by simp,?_⟩
  conv=>whnf
  have e:xL l s= -1:=by
   unfold xL
   have:l.findIdx? (fun x=>x == s)=none:=by
    rw [List.findIdx?_eq_none_iff]
    intro x hx
    obtain ⟨j,hj,rfl⟩:=List.mem_iff_getElem.1 hx
    exact hr j hj hj
   rw [this]
  rw [e]
  exact ⟨.inl rfl,_,.refl _,rfl⟩
theorem zmi (l:List Str) (s:Str):decide (xL l s≥0)=l.any (fun x=>x == s):=zc9 l _
theorem zdq (l:List Str) (s:Str) (hl:l.length < 4611686018427387904):zb Tryz.prog 144 [] [lT l,Tx s] (Bo (l.any fun x=>x == s)) []:=by
 refine zb.zp (fn:=Tryz.f144) Tryz.func144 rfl ?_
 conv=>whnf
 refine ⟨_,_,(ziZ l s hl).frame rfl _,?_⟩;refine dd ?_
 rw [zmi]
 refine ⟨fun h=>?_,fun h=>?_⟩
 ·refine dd ?_
  (exact ⟨.inl rfl,_,.refl _,congrArg (fun b=>some (C.v (Value.bool b))) (by exact h.symm)⟩)
 ·refine dd ?_
  (exact ⟨.inl rfl,_,.refl _,congrArg (fun b=>some (C.v (Value.bool b))) (by exact h.symm)⟩)
end Go.Con
