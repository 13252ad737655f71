import Derived.Lib.Bytealg
import Derived.WalkKit
import Derived.IntWalk
import Derived.Test.YtgllekalddijbaaGreatRC
import Derived.Test.YtgllekalddijbaaGreatRJ
import Derived.Test.YtgllekalddijbaaGreatProg
set_option linter.unusedVariables false
set_option linter.unusedSimpArgs false
set_option linter.unusedSectionVars false
set_option maxRecDepth 100000
set_option maxHeartbeats 4000000
namespace Go.Gat
open Go.Ab Go.Proofs Go.Hy
def zlb (n:Int):Bool:=decide (97<=n) && decide (n<=122)
def kA (n:Int):Bool:=zlb n || (decide (48<=n) && decide (n<=57)) || (n == 45)
abbrev By (n:Int):C:=.v (.int .u8 n)
theorem zeL (n:Int):zc Tryz.prog 163 [] [By n] (Bo (zlb n)) []:=by
 refine zc.zr (fn:=Tryz.f163) Tryz.func163 rfl ?_
 conv=>whnf
 (repeat' (first | (refine ⟨fun _=>?_,fun _=>?_⟩ <;> (conv=>whnf)) | fail))
 all_goals (exact ⟨.inl rfl,_,.refl _,congrArg (fun b=>some (C.v (Value.bool b))) (by simp_all [zlb] <;> (intros;omega))⟩)
theorem zgZ (n:Int):zc Tryz.prog 236 [] [By n] (Bo (kA n)) []:=by
 refine zc.zr (fn:=Tryz.f236) Tryz.func236 rfl ?_
 conv=>whnf
 refine ⟨_,_,(zeL n).frame rfl _,?_⟩;refine dd ?_
 (repeat' (first | (refine ⟨fun _=>?_,fun _=>?_⟩ <;> (conv=>whnf)) | fail))
 all_goals (exact ⟨.inl rfl,_,.refl _,congrArg (fun b=>some (C.v (Value.bool b))) (by simp_all [kA] <;> (intros;omega))⟩)
theorem zd7:zc Tryz.prog 164 [] [] (.agg [.fn 236 [] []]) []:=by
 refine zc.zr (fn:=Tryz.f164) Tryz.func164 rfl ?_
 conv=>whnf
 exact ⟨.inl rfl,_,.refl _,rfl⟩
abbrev bI (c:UInt8):Int:=(c.toNat:Int)
def zd9 (p:Int->Bool) (s:Str) (other:Int):Bool:=s.all fun c=>bI c == other || p (bI c)
theorem zg3 {p:Int->Bool} {s:Str} {other:Int} {k:Nat} (hk:k < s.length) (h1:(bI s[k] == other)=false) (h2:p (bI s[k])=false):zd9 p s other=false:=by
 unfold zd9
 rw [List.all_eq_false]
 exact ⟨s[k],List.getElem_mem hk,by simp [h1,h2]⟩
theorem zep (s:Str) (other:Int) (hs:s.length < 4611686018427387904):zc Tryz.prog 165 [] [.agg [.fn 236 [] []],Tx s,By other] (Bo (zd9 kA s other)) []:=by
 refine zc.zr (fn:=Tryz.f165) Tryz.func165 rfl ?_
 conv=>whnf
 refine qb.seq s.length (fun k=>[.agg [.fn 236 [] []],Tx s,By other,.ref 0 [] 1 0 0,.za,.za,Bo false,.za,.za,I s.length,I k,.za,.za,.za,.za,.za,.za,.za,.za,.za,.za,.za,.za,.za,.za,.za,.za,.za]) (fun k=>[⟨1,211,1,[[.fn 236 [] []]],0⟩]) (fun k=>∀ j,(h:j < s.length)->j < k->(bI s[j] == other || kA (bI s[j]))=true) ?_ (by simp) (fun k hk hr=>?_) (fun hr=>?_)
 ·exact cC
 ·conv=>whnf
  refine ⟨fun h=>?_,fun h=>absurd h (by simp;omega)⟩
  conv=>whnf
  refine .inl ⟨⟨false,[],[],[]⟩,by kernel_rfl,?_⟩;(conv=>whnf)
  refine ⟨by omega,s[k],by simp [hk],?_⟩
  conv=>whnf
  refine ⟨fun h1=>?_,fun h1=>?_⟩
  ·refine dd ?_
   refine ⟨by omega,s[k],by simp [hk],?_⟩
   refine dd ?_
   refine ⟨_,_,(zgZ (bI s[k])).frame rfl _,?_⟩;refine dd ?_
   refine ⟨fun h2=>?_,fun h2=>?_⟩
   ·refine dd ?_
    refine .inl ⟨rfl,?_,?_⟩
    ·rw [zD (by omega)]
     exact cE 1
    ·intro j hj hjk
     by_cases e:j=k
     ·subst e;simp [h2]
     ·exact hr j hj (by omega)
   ·refine dd ?_
    refine .inr ⟨by simp,?_⟩
    conv=>whnf
    (exact ⟨.inl rfl,_,.refl _,congrArg (fun b=>some (C.v (Value.bool b))) (by exact (zg3 hk (by simpa using h1) h2).symm)⟩)
  ·refine dd ?_
   refine .inl ⟨rfl,?_,?_⟩
   ·rw [zD (by omega)]
    exact cE 1
   ·intro j hj hjk
    by_cases e:j=k
    ·subst e;simp at h1;simp [h1]
    ·exact hr j hj (by omega)
 ·conv=>whnf
  refine ⟨fun h=>absurd h (by simp),fun h=>?_⟩
  conv=>whnf
  refine ⟨by simp,?_⟩
  conv=>whnf
  have e:zd9 kA s other=true:=by
   unfold zd9
   rw [List.all_eq_true]
   intro x hx
   obtain ⟨j,hj,rfl⟩:=List.mem_iff_getElem.1 hx
   exact hr j hj hj
  exact ⟨.inl rfl,_,.refl _,by rw [e];rfl⟩
def jR (s:Str):Bool:=decide (0 < s.length) && decide (s.length<=16) && (match s with | c::_=>zlb (bI c) | []=>false) && s.all fun c=>kA (bI c)
theorem zjf (s:Str):zd9 kA s 45=s.all fun c=>kA (bI c):=by
 unfold zd9
 congr 1
 funext c
 cases h:(bI c == 45) with
 | false=>rfl
 | true=>simp at h;simp [kA,h]
theorem xf (s:Str) (hs:s.length < 4611686018427387904):zc Tryz.prog 109 [] [Tx s] (Bo (jR s)) []:=by
 refine zc.zr (fn:=Tryz.f109) Tryz.func109 rfl ?_
 cases s with
 | nil=>
  conv=>whnf
  (repeat ((first | apply ya | apply yb);refine dd ?_))
  exact ⟨.inl rfl,_,.refl _,rfl⟩
 | cons c s=>
  conv=>whnf
  refine ⟨fun _=>?_,fun h=>absurd h (by simp <;> omega)⟩
  conv=>whnf
  refine ⟨fun h1=>?_,fun h1=>?_⟩
  ·conv=>whnf
   refine ⟨by omega,c,rfl,?_⟩
   conv=>whnf
   refine ⟨_,_,(zeL (bI c)).frame rfl _,?_⟩;refine dd ?_
   refine ⟨fun h2=>?_,fun h2=>?_⟩
   ·conv=>whnf
    refine ⟨_,_,(zd7).frame rfl _,?_⟩;refine dd ?_
    refine ⟨_,_,(zep (c::s) 45 hs).frame rfl _,?_⟩;refine dd ?_
    have h1':s.length<=15:=by have:=h1;simp at this;omega
    have e:jR (c::s)=zd9 kA (c::s) 45:=by rw [zjf];unfold jR;simp [h2];omega
    refine ⟨fun h3=>?_,fun h3=>?_⟩
    all_goals ((conv=>whnf);(exact ⟨.inl rfl,_,.refl _,congrArg (fun b=>some (C.v (Value.bool b))) (by rw [e,h3])⟩))
   ·conv=>whnf
    (exact ⟨.inl rfl,_,.refl _,congrArg (fun b=>some (C.v (Value.bool b))) (by simp [jR,h2])⟩)
  ·conv=>whnf
   (exact ⟨.inl rfl,_,.refl _,congrArg (fun b=>some (C.v (Value.bool b))) (by simp [jR];simp at h1;omega)⟩)
end Go.Gat
namespace Go.Nam
open Go.Ab Go.Proofs Go.Hy Go.Gat Go.RowKit
def xG (b:UInt8) (s:Str):Str:=s.takeWhile (· != b)
def wW (b:UInt8) (s:Str):Str:=(s.dropWhile (· != b)).drop 1
def jF (b:UInt8):Str->List Str
 | []=>[[]]
 | c::s=>if c == b then []::jF b s else match jF b s with
  | p::ps=>(c::p)::ps
  | []=>[[c]]
theorem zfk (b:UInt8) (s:Str):jF b s≠[]:=by
 cases s with
 | nil=>simp [jF]
 | cons c s=>unfold jF;split;simp;split <;> simp
theorem wz {b:UInt8}:∀ {s:Str},b ∉ s->jF b s=[s]
 | [],_=>rfl
 | c::s,h=>by
  have h1:(c == b)=false:=by simp;intro e;subst e;exact h (List.mem_cons_self ..)
  have h2:=wz (s:=s) fun e=>h (List.mem_cons_of_mem _ e)
  simp [jF,h1,h2]
theorem vz {b:UInt8}:∀ {s:Str},b ∈ s->jF b s=xG b s::jF b (wW b s)
 | [],h=>by simp at h
 | c::s,h=>by
  by_cases e:c=b
  ·subst e;simp [jF,xG,wW]
  ·have h1:(c == b)=false:=by simpa using e
   have h2:=vz (s:=s) (by rcases List.mem_cons.1 h with h | h;exact absurd h.symm e;exact h)
   have h3:(c != b)=true:=by simpa using e
   simp only [jF,h1,Bool.false_eq_true,if_false,h2,xG,wW,List.takeWhile_cons,List.dropWhile_cons,h3,if_true]
theorem zgl {b:UInt8}:∀ {s:Str},b ∉ s->Lib.indexByte s b= -1
 | [],_=>rfl
 | c::s,h=>by
  have h1:(c == b)=false:=by simp;intro e;subst e;exact h (List.mem_cons_self ..)
  have h2:=zgl (s:=s) fun e=>h (List.mem_cons_of_mem _ e)
  simp [Lib.indexByte,h1,h2]
theorem zdo {b:UInt8}:∀ {s:Str},b ∈ s->Lib.indexByte s b=((xG b s).length:Int)
 | [],h=>by simp at h
 | c::s,h=>by
  by_cases e:c=b
  ·subst e;simp [Lib.indexByte,xG]
  ·have h1:(c == b)=false:=by simpa using e
   have h3:(c != b)=true:=by simpa using e
   have h2:=zdo (s:=s) (by rcases List.mem_cons.1 h with h | h;exact absurd h.symm e;exact h)
   have h4:((xG b s).length == (-1:Int))=false:=by rw [beq_eq_false_iff_ne];omega
   simp only [Lib.indexByte,h1,Bool.false_eq_true,if_false,h2,xG,List.takeWhile_cons,h3,if_true,List.length_cons]
   rw [show ((↑(List.takeWhile (fun x=>x != b) s).length:Int) == -1)=false from h4]
   simp
theorem head_take (b:UInt8) (s:Str):s.take (xG b s).length=xG b s:=by
 induction s with
 | nil=>rfl
 | cons c s ih=>
  by_cases e:c=b
  ·subst e;simp [xG]
  ·have h3:(c != b)=true:=by simpa using e
   simp only [xG,List.takeWhile_cons,h3,if_true,List.length_cons,List.take_succ_cons]
   rw [show List.take (List.takeWhile (fun x=>x != b) s).length s=xG b s from ih];rfl
theorem tail_drop (b:UInt8) (s:Str):s.drop ((xG b s).length+1)=wW b s:=by
 induction s with
 | nil=>rfl
 | cons c s ih=>
  by_cases e:c=b
  ·subst e;simp [xG,wW]
  ·have h3:(c != b)=true:=by simpa using e
   simp only [xG,wW,List.takeWhile_cons,List.dropWhile_cons,h3,if_true,List.length_cons,List.drop_succ_cons]
   exact ih
theorem zfs {b:UInt8} {s:Str} (h:b ∈ s):(xG b s).length < s.length:=by
 have h1:=tail_drop b s
 have h2:s.length≠0:=by intro e;rw [List.length_eq_zero_iff.1 e] at h;simp at h
 have h3:(xG b s).length<=s.length:=List.Sublist.length_le (List.takeWhile_sublist _)
 rcases Nat.lt_or_ge (xG b s).length s.length with h4 | h4
 ·exact h4
 ·have h5:=head_take b s
  rw [List.take_of_length_le h4] at h5
  have:b ∈ xG b s:=by rw [<- h5];exact h
  have:=List.all_takeWhile (l:=s) (p:=(· != b))
  rw [List.all_eq_true] at this
  have:=this b (by assumption)
  simp at this
def jS (b:UInt8) (s:Str):Nat->Str
 | 0=>s
 | k+1=>wW b (jS b s k)
theorem zc0 {b:UInt8}:∀ {k:Nat} {s:Str},k+1 < (jF b s).length->b ∈ jS b s k∧(jF b s)[k]?= some (xG b (jS b s k))∧jF b (jS b s (k+1))=(jF b s).drop (k+1)
 | 0,s,h=>by
  have hb:b ∈ s:=by
   rcases Classical.em (b ∈ s) with h1 | h1
   ·exact h1
   ·rw [wz h1] at h;simp at h
  exact ⟨hb,by rw [vz hb];rfl,by rw [vz hb];rfl⟩
 | k+1,s,h=>by
  obtain ⟨h1,h2,h3⟩:=zc0 (b:=b) (k:=k) (s:=s) (by omega)
  have hb:b ∈ jS b s (k+1):=by
   rcases Classical.em (b ∈ jS b s (k+1)) with h4 | h4
   ·exact h4
   ·rw [wz h4] at h3
    have:=congrArg List.length h3
    simp at this
    omega
  have h5:=vz hb
  rw [h3] at h5
  refine ⟨hb,?_,?_⟩
  ·have:=congrArg (fun l=>l[0]?) h5
   simpa using this
  ·have:=congrArg (fun l=>l.drop 1) h5
   simp at this
   show jF b (wW b (jS b s (k+1)))=_
   rw [<- this]
theorem zgb {b:UInt8} {k:Nat} {s:Str} (h:k+1=(jF b s).length):b ∉ jS b s k∧(jF b s)[k]?= some (jS b s k):=by
 have h3:jF b (jS b s k)=(jF b s).drop k:=by
  cases k with
  | zero=>rfl
  | succ k=>exact (zc0 (b:=b) (s:=s) (k:=k) (by omega)).2.2
 have h4:b ∉ jS b s k:=by
  intro hb
  rw [vz hb] at h3
  have:=congrArg List.length h3
  have h5:(jF b (wW b (jS b s k))).length≠0:=by
   intro e;exact zfk b _ (List.length_eq_zero_iff.1 e)
  simp at this
  omega
 refine ⟨h4,?_⟩
 rw [wz h4] at h3
 have:=congrArg (fun l=>l[0]?) h3
 simpa using this.symm
theorem za1 (b:UInt8) (s:Str):∀ k,(jS b s k).length<=s.length
 | 0=>Nat.le_refl _
 | k+1=>by
  have h1:((jS b s k).dropWhile (· != b)).length<=(jS b s k).length:=List.Sublist.length_le (List.dropWhile_sublist _)
  have:=za1 b s k
  simp only [jS,wW,List.length_drop]
  omega
theorem zjF (s:ByteArray) (c:Int) (w:World):Calls Tryz.prog 336 #[.string s,.int .u8 c] w fun e w'=>e=.returned (.int .i64 (Lib.indexByte s.data.toList c.toNat.toUInt8))∧w'=w:=by
 go_enter Tryz.func336,Tryz.ntmps336
 go_wp2
 rw [run_callFunc_extern Tryz.func343 (by kernel_rfl) (by kernel_rfl) (by kernel_rfl) (e:=Extern.BytealgIndexByte.indexByte) (by kernel_rfl),Lib.run_indexByteString]
 simp only [Result.andThen]
 rw [Oper.upon_value]
 go_wp2
 go_ret
 exact ⟨rfl,rfl⟩
theorem zhL (s:Str) (b:UInt8):zc Tryz.prog 336 [] [Tx s,By (bI b)] (I (Lib.indexByte s b)) []:=by
 have e:(bI b).toNat.toUInt8=b:=by simp [bI]
 refine zaU [] (fun w=>?_) zkB fun E=>.v _ rfl
 have:=zjF ⟨⟨s⟩⟩ (bI b) w
 rw [e] at this
 exact this
theorem vI (s:Str) (b:UInt8):zc Tryz.prog 331 [] [Tx s,By (bI b)] (I (Lib.indexByte s b)) []:=by
 refine zc.zr (fn:=Tryz.f331) Tryz.func331 rfl ?_
 conv=>whnf
 refine ⟨_,_,(zhL s b).frame rfl _,?_⟩;refine dd ?_
 exact ⟨.inl rfl,_,.refl _,rfl⟩
end Go.Nam
namespace Go.Nam
open Go.Ab Go.Proofs Go.Hy Go.Gat
theorem zgz (X:Ob) (s:Str) (b:UInt8):zc Tryz.prog 320 [X] [Tx s,By (bI b)] (.fn 330 [] [.ref 1 [] 1 0 0,.ref 2 [] 1 0 0]) [X,⟨1,9,1,[[Tx s]],0⟩,⟨1,5,1,[[By (bI b)]],0⟩]:=by
 refine zc.zW (fn:=Tryz.f320) Tryz.func320 rfl ?_
 conv=>whnf
 exact ⟨.inl rfl,_,.refl _,rfl,rfl⟩
theorem zaX (l:Nat) (s:Str) (b:UInt8) (hs:s.length < 4611686018427387904) (X:Nat->Ob) (Y:Nat->List Ob) (j:Nat) (g:Bool) (hj:j < (jF b s).length) (hend:g=false∨j+1=(jF b s).length)
  (hy:∀ k p,k < j->(jF b s)[k]?= some p->jf Tryz.prog l (X k::⟨1,9,1,[[Tx (jS b s k)]],0⟩::⟨1,5,1,[[By (bI b)]],0⟩::Y k) [Tx p] (Bo true) (X (k+1)::⟨1,9,1,[[Tx (jS b s k)]],0⟩::⟨1,5,1,[[By (bI b)]],0⟩::Y (k+1)))
  (hz:∀ p,(jF b s)[j]?= some p->jf Tryz.prog l (X j::⟨1,9,1,[[Tx (jS b s j)]],0⟩::⟨1,5,1,[[By (bI b)]],0⟩::Y j) [Tx p] (Bo g) (X (j+1)::⟨1,9,1,[[Tx (jS b s j)]],0⟩::⟨1,5,1,[[By (bI b)]],0⟩::Y (j+1))):
  zc Tryz.prog 330 (X 0::⟨1,9,1,[[Tx (jS b s 0)]],0⟩::⟨1,5,1,[[By (bI b)]],0⟩::Y 0) [.v (.func (.yield l) #[] #[]),.ref 1 [] 1 0 0,.ref 2 [] 1 0 0] (.tup []) (X (j+1)::⟨1,9,1,[[Tx (jS b s j)]],0⟩::⟨1,5,1,[[By (bI b)]],0⟩::Y (j+1)):=by
 refine zc.zW (fn:=Tryz.f330) Tryz.func330 rfl ?_
 conv=>whnf
 refine qb.seq j (fun k=>[.v (.func (.yield l) #[] #[]),.ref 1 [] 1 0 0,.ref 2 [] 1 0 0,.za,.za,.za,.za,.za,.za,.za,.za,.za,.za,.za,.za,.za,.za,.za,.za,.za,.za,.za,.za]) (fun k=>X k::⟨1,9,1,[[Tx (jS b s k)]],0⟩::⟨1,5,1,[[By (bI b)]],0⟩::Y k) (fun _=>True) ?_ trivial (fun k hk _=>?_) (fun _=>?_)
 ·exact cC
 ·obtain ⟨h1,h2,h3⟩:=zc0 (b:=b) (s:=s) (k:=k) (by omega)
  have h4:=za1 b s k
  have h5:=zfs h1
  conv=>whnf
  refine ⟨_,_,(vI (jS b s k) b).frame rfl _,?_⟩
  rw [zdo h1]
  conv=>whnf
  refine ⟨fun h=>absurd h (by simp),fun _=>?_⟩
  refine dd ?_
  refine ⟨by omega,by omega,by simp;omega,?_⟩
  rw [toNat_cast,List.drop_zero,head_take]
  conv=>whnf
  refine ⟨_,_,hy k _ hk h2,?_⟩
  refine dd ?_
  (repeat ((first | apply ya | apply yb);refine dd ?_))
  rw [zD (by omega),toNat_cast]
  refine ⟨by omega,?_⟩
  conv=>whnf
  refine ⟨by omega,by omega,?_⟩
  rw [List.take_length,tail_drop]
  conv=>whnf
  exact .inl ⟨rfl,cC,trivial⟩
 ·have h4:=za1 b s j
  by_cases hl:j+1=(jF b s).length
  ·obtain ⟨h1,h2⟩:=zgb hl
   conv=>whnf
   refine ⟨_,_,(vI (jS b s j) b).frame rfl _,?_⟩
   rw [zgl h1]
   conv=>whnf
   refine ⟨fun _=>?_,fun h=>absurd h (by simp)⟩
   refine dd ?_
   refine ⟨_,_,hz _ h2,?_⟩
   conv=>whnf
   refine ⟨fun _=>?_,fun _=>?_⟩ <;>
   ·conv=>whnf
    exact ⟨by simp,.inl rfl,_,.refl _,rfl,rfl⟩
  ·obtain ⟨h1,h2,h3⟩:=zc0 (b:=b) (s:=s) (k:=j) (by omega)
   have h5:=zfs h1
   have hg:g=false:=by rcases hend with h | h;exact h;exact absurd h hl
   subst hg
   conv=>whnf
   refine ⟨_,_,(vI (jS b s j) b).frame rfl _,?_⟩
   rw [zdo h1]
   conv=>whnf
   refine ⟨fun h=>absurd h (by simp),fun _=>?_⟩
   refine dd ?_
   refine ⟨by omega,by omega,by simp;omega,?_⟩
   rw [toNat_cast,List.drop_zero,head_take]
   conv=>whnf
   refine ⟨_,_,hz _ h2,?_⟩
   refine dd ?_
   (repeat ((first | apply ya | apply yb);refine dd ?_))
   exact ⟨by simp,.inl rfl,_,.refl _,rfl,rfl⟩
end Go.Nam
namespace Go.Nam
open Go.Ab Go.Proofs Go.Hy Go.Gat
def kY (s:Str):Bool:=decide (s.length<=32) && (jF 46 s).all jR
theorem zmx (b:UInt8) (s:Str) (k:Nat) (p:Str) (h:(jF b s)[k]?= some p):p.length<=s.length:=by
 have hk:=(List.getElem?_eq_some_iff.1 h).1
 by_cases hl:k+1=(jF b s).length
 ·obtain ⟨h1,h2⟩:=zgb hl
  rw [h2] at h;cases h;exact za1 b s k
 ·obtain ⟨h1,h2,h3⟩:=zc0 (b:=b) (s:=s) (k:=k) (by omega)
  rw [h2] at h;cases h
  have:=zfs h1
  have:=za1 b s k
  omega
theorem zab (s:Str) (hs:s.length < 4611686018427387904):zc Tryz.prog 293 [] [Tx s] (Bo (kY s)) []:=by
 refine zc.zr (fn:=Tryz.f293) Tryz.func293 rfl ?_
 conv=>whnf
 refine ⟨fun h=>?_,fun h=>?_⟩
 ·refine dd ?_
  (exact ⟨.inl rfl,_,.refl _,congrArg (fun b=>some (C.v (Value.bool b))) (by simp [kY];simp at h;omega)⟩)
 ·refine dd ?_
  refine ⟨_,_,zgz _ s 46,?_⟩
  conv=>whnf
  have hn:=zfk 46 s
  have hlen:0 < (jF 46 s).length:=by
   rcases Nat.eq_zero_or_pos (jF 46 s).length with e | e
   ·exact absurd (List.length_eq_zero_iff.1 e) hn
   ·exact e
  have hple:∀ (k:Nat) (p:Str),(jF 46 s)[k]?= some p->p.length < 4611686018427387904:=fun k p hp=>by have:=zmx 46 s k p hp;omega
  refine ⟨_,.refl _,?_⟩
  by_cases zX:(jF 46 s).all jR=true
  ·have hname:∀ (k:Nat) p,(jF 46 s)[k]?= some p->jR p=true:=fun k p hp=>List.all_eq_true.1 zX p (List.mem_of_getElem? hp)
   refine ⟨.normal,_,[⟨1,4,1,[[Bo false]],0⟩],fun l r h1 h2 h3 h4 h5=>⟨_,_,r,zaX l s 46 hs (fun _=>⟨1,4,1,[[Bo false]],0⟩) (fun _=>[obR l r _]) ((jF 46 s).length - 1) true (by omega) (.inr (by omega)) (fun k p hk hp=>?_) (fun p hp=>?_),
    rfl,by rw [h1];decide,rfl,Nat.zero_le _,by rw [h2];trivial,zq.low 1 _ _ rfl rfl rfl⟩,?_⟩
   ·refine jf.zW (id:=3) rfl h1 h2 h3 h4 h5 rfl rfl rfl ?_
    conv=>whnf
    refine ⟨rfl,rfl,?_⟩
    conv=>whnf
    refine ⟨_,_,(xf p (hple _ _ hp)).frame rfl _,?_⟩;refine dd ?_
    refine ⟨fun _=>?_,fun h=>absurd ((hname _ _ hp).symm.trans h:true=false) (by decide)⟩;refine dd ?_
    exact ⟨_,_,.refl _,rfl,.inl ⟨rfl,rfl,rfl⟩⟩
   ·refine jf.zW (id:=3) rfl h1 h2 h3 h4 h5 rfl rfl rfl ?_
    conv=>whnf
    refine ⟨rfl,rfl,?_⟩
    conv=>whnf
    refine ⟨_,_,(xf p (hple _ _ hp)).frame rfl _,?_⟩;refine dd ?_
    refine ⟨fun _=>?_,fun h=>absurd ((hname _ _ hp).symm.trans h:true=false) (by decide)⟩;refine dd ?_
    exact ⟨_,_,.refl _,rfl,.inl ⟨rfl,rfl,rfl⟩⟩
   ·conv=>whnf
    (exact ⟨.inl rfl,_,.refl _,congrArg (fun b=>some (C.v (Value.bool b))) (by simp [kY,zX];simp at h;omega)⟩)
  ·obtain ⟨j,hj⟩:∃ j,(jF 46 s).findIdx? (fun p=>!jR p)=some j:=by
    cases e:(jF 46 s).findIdx? (fun p=>!jR p) with
    | some j=>exact ⟨j,rfl⟩
    | none=>
     exfalso
     rw [List.findIdx?_eq_none_iff] at e
     exact zX (List.all_eq_true.2 fun x hx=>by simpa using e x hx)
   rw [List.findIdx?_eq_some_iff_getElem] at hj
   obtain ⟨hjl,hj1,hj2⟩:=hj
   have zX:(jF 46 s).all jR=false:=by simpa using zX
   refine ⟨.ret,_,[⟨1,4,1,[[Bo false]],0⟩],fun l r h1 h2 h3 h4 h5=>⟨_,_,left r .ret,zaX l s 46 hs (fun _=>⟨1,4,1,[[Bo false]],0⟩) (fun k=>[obR l (if k < j+1 then r else left r .ret) _]) j false hjl (.inl rfl) (fun k p hk hp=>?_) (fun p hp=>?_),
    congrArg (fun x=>some (obR l x _)) (if_neg (Nat.lt_irrefl (j+1))),by simp,rfl,Nat.zero_le _,trivial,zq.low 1 _ _ rfl rfl rfl⟩,?_⟩
   ·have e1:k < j+1:=by omega
    have e2:k+1 < j+1:=by omega
    simp only [if_pos e1,if_pos e2]
    refine jf.zW (id:=3) rfl h1 h2 h3 h4 h5 rfl rfl rfl ?_
    conv=>whnf
    refine ⟨rfl,rfl,?_⟩
    conv=>whnf
    refine ⟨_,_,(xf p (hple _ _ hp)).frame rfl _,?_⟩;refine dd ?_
    have hname:jR p=true:=by
     have h6:=hj2 k hk
     rw [List.getElem?_eq_getElem (by omega)] at hp
     cases hp
     simpa using h6
    refine ⟨fun _=>?_,fun h=>absurd ((hname).symm.trans h:true=false) (by decide)⟩;refine dd ?_
    exact ⟨_,_,.refl _,rfl,.inl ⟨rfl,rfl,rfl⟩⟩
   ·simp only [if_pos (Nat.lt_succ_self j),if_neg (Nat.lt_irrefl (j+1))]
    refine jf.zW (id:=3) rfl h1 h2 h3 h4 h5 rfl rfl rfl ?_
    conv=>whnf
    refine ⟨rfl,rfl,?_⟩
    conv=>whnf
    refine ⟨_,_,(xf p (hple _ _ hp)).frame rfl _,?_⟩;refine dd ?_
    have hname:jR p=false:=by
     rw [List.getElem?_eq_getElem hjl] at hp
     cases hp
     simpa using hj1
    refine ⟨fun h=>absurd ((hname).symm.trans h:false=true) (by decide),fun _=>?_⟩;refine dd ?_
    exact ⟨_,_,.refl _,rfl,.inr ⟨rfl,.inl ⟨rfl,rfl⟩⟩⟩
   ·conv=>whnf
    (exact ⟨.inl rfl,_,.refl _,congrArg (fun b=>some (C.v (Value.bool b))) (by simp [kY,zX])⟩)
end Go.Nam
namespace Go.Nam
open Go.Ab Go.Proofs Go.Hy Go.Gat
def kV (s p:Str):Bool:=decide (p.length<=s.length) && (s.take p.length == p)
theorem zcr (s p:Str):zc Tryz.prog 329 [] [Tx s,Tx p] (Bo (kV s p)) []:=by
 refine zc.zr (fn:=Tryz.f329) Tryz.func329 rfl ?_
 conv=>whnf
 refine ⟨fun h=>?_,fun h=>?_⟩
 ·refine dd ?_
  refine ⟨by omega,by omega,by simp at h;omega,?_⟩
  rw [toNat_cast,List.drop_zero]
  conv=>whnf
  (repeat' (first | (refine ⟨fun _=>?_,fun _=>?_⟩ <;> (conv=>whnf)) | fail))
  all_goals (exact ⟨.inl rfl,_,.refl _,congrArg (fun b=>some (C.v (Value.bool b))) (by simp_all [kV])⟩)
 ·conv=>whnf
  (exact ⟨.inl rfl,_,.refl _,congrArg (fun b=>some (C.v (Value.bool b))) (by simp_all [kV];intros;omega)⟩)
abbrev tSB (r:Str × Bool):C:=.tup [Tx r.1,Bo r.2]
def yS (s p:Str):Str × Bool:=if kV s p then (s.drop p.length,true) else (s,false)
theorem zec (s p:Str):zc Tryz.prog 319 [] [Tx s,Tx p] (tSB (yS s p)) []:=by
 refine zc.zr (fn:=Tryz.f319) Tryz.func319 rfl ?_
 conv=>whnf
 refine ⟨_,_,(zcr s p).frame rfl _,?_⟩;refine dd ?_
 refine ⟨fun h=>?_,fun h=>?_⟩
 ·refine dd ?_
  have h':p.length<=s.length:=by simp [kV] at h;exact h.1
  refine ⟨by omega,by omega,by omega,?_⟩
  rw [List.take_length,toNat_cast]
  conv=>whnf
  have e:yS s p=(s.drop p.length,true):=by unfold yS;rw [if_pos h]
  rw [e]
  exact ⟨.inl rfl,_,.refl _,rfl⟩
 ·conv=>whnf
  have e:yS s p=(s,false):=by unfold yS;rw [if_neg (by simp [h])]
  rw [e]
  exact ⟨.inl rfl,_,.refl _,rfl⟩
theorem yC (s p:Str):zc Tryz.prog 292 [] [Tx s,Tx p] (tSB (yS s p)) []:=by
 refine zc.zr (fn:=Tryz.f292) Tryz.func292 rfl ?_
 conv=>whnf
 refine ⟨_,_,(zec s p).frame rfl _,?_⟩;refine dd ?_
 (repeat' (first | (refine ⟨fun _=>?_,fun _=>?_⟩ <;> (conv=>whnf)) | fail))
 all_goals
  rename_i h
  exact ⟨.inl rfl,_,.refl _,congrArg (fun b=>some (C.tup [Tx (yS s p).1,Bo b])) h.symm⟩
def zcs (s:Str):Bool:=if kV s [42,46] then kY (s.drop 2) else s == [42] || kY s
theorem vu (s:Str) (hs:s.length < 4611686018427387904):zc Tryz.prog 242 [] [Tx s] (Bo (zcs s)) []:=by
 refine zc.zr (fn:=Tryz.f242) Tryz.func242 rfl ?_
 conv=>whnf
 refine ⟨_,_,(yC s [42,46]).frame rfl _,?_⟩;refine dd ?_
 refine ⟨fun h=>?_,fun h=>?_⟩
 ·have h1:kV s [42,46]=true:=by
   cases e:kV s [42,46] with
   | true=>rfl
   | false=>simp [yS,e] at h
  have e:yS s [42,46]=(s.drop 2,true):=by unfold yS;rw [if_pos h1];rfl
  rw [e]
  refine dd ?_
  refine ⟨_,_,(zab (s.drop 2) (by simp;omega)).frame rfl _,?_⟩;refine dd ?_
  (repeat' (first | (refine ⟨fun _=>?_,fun _=>?_⟩ <;> (conv=>whnf)) | fail))
  all_goals (exact ⟨.inl rfl,_,.refl _,congrArg (fun b=>some (C.v (Value.bool b))) (by simp_all [zcs])⟩)
 ·have h1:kV s [42,46]=false:=by
   cases e:kV s [42,46] with
   | false=>rfl
   | true=>simp [yS,e] at h
  have e:yS s [42,46]=(s,false):=by unfold yS;rw [if_neg (by simp [h1])]
  rw [e]
  refine dd ?_
  refine ⟨fun h2=>?_,fun h2=>?_⟩
  ·refine dd ?_
   (exact ⟨.inl rfl,_,.refl _,congrArg (fun b=>some (C.v (Value.bool b))) (by simp_all [zcs])⟩)
  ·refine dd ?_
   refine ⟨_,_,(zab s hs).frame rfl _,?_⟩;refine dd ?_
   (repeat' (first | (refine ⟨fun _=>?_,fun _=>?_⟩ <;> (conv=>whnf)) | fail))
   all_goals (exact ⟨.inl rfl,_,.refl _,congrArg (fun b=>some (C.v (Value.bool b))) (by simp_all [zcs])⟩)
end Go.Nam
namespace Go.Nam
open Go.Ab Go.Proofs Go.Hy Go.Gat
def kq (s:Str):Bool:=decide (0 < s.length) && decide (s.length<=32) && (match s with | c::_=>bI c == 47 | []=>false) && zd9 kA s 47
theorem zai (s:Str) (hs:s.length < 4611686018427387904):zc Tryz.prog 243 [] [Tx s] (Bo (kq s)) []:=by
 refine zc.zr (fn:=Tryz.f243) Tryz.func243 rfl ?_
 cases s with
 | nil=>
  conv=>whnf
  (repeat ((first | apply ya | apply yb);refine dd ?_))
  exact ⟨.inl rfl,_,.refl _,rfl⟩
 | cons c s=>
  conv=>whnf
  refine ⟨fun _=>?_,fun h=>absurd h (by simp <;> omega)⟩
  conv=>whnf
  refine ⟨fun h1=>?_,fun h1=>?_⟩
  ·conv=>whnf
   refine ⟨by omega,c,rfl,?_⟩
   conv=>whnf
   refine ⟨fun h2=>?_,fun h2=>?_⟩
   ·conv=>whnf
    refine ⟨_,_,(zd7).frame rfl _,?_⟩;refine dd ?_
    refine ⟨_,_,(zep (c::s) 47 hs).frame rfl _,?_⟩;refine dd ?_
    have h1':s.length<=31:=by have:=h1;simp at this;omega
    have e:kq (c::s)=zd9 kA (c::s) 47:=by unfold kq;simp [h2];omega
    refine ⟨fun h3=>?_,fun h3=>?_⟩
    all_goals ((conv=>whnf);(exact ⟨.inl rfl,_,.refl _,congrArg (fun b=>some (C.v (Value.bool b))) (by rw [e,h3])⟩))
   ·conv=>whnf
    (exact ⟨.inl rfl,_,.refl _,congrArg (fun b=>some (C.v (Value.bool b))) (by simp [kq,h2])⟩)
  ·conv=>whnf
   (exact ⟨.inl rfl,_,.refl _,congrArg (fun b=>some (C.v (Value.bool b))) (by simp [kq];simp at h1;omega)⟩)
end Go.Nam
namespace Go.Nam
open Go.Ab Go.Proofs Go.Hy Go.Gat
end Go.Nam
namespace Go.Nam
open Go.Ab Go.Proofs Go.Hy Go.Gat
theorem zjD {c:UInt8} {s:Str} (h:kY (c::s)=true):zlb (bI c)=true:=by
 unfold kY at h
 simp only [Bool.and_eq_true,List.all_eq_true] at h
 by_cases e:c=46
 ·subst e
  have:=h.2 [] (by simp [jF])
  exact absurd this (by decide)
 ·have h1:(c == 46)=false:=by simpa using e
  cases h3:jF 46 s with
  | nil=>exact absurd h3 (zfk _ s)
  | cons x xs=>
   have:=h.2 (c::x) (by simp [jF,h1,h3])
   simp only [jR,Bool.and_eq_true] at this
   exact this.1.2
theorem zok {s:Str} (h:kq s=true):zcs s=false:=by
 match s,h with
 | [],h=>exact absurd h (by decide)
 | c::s,h=>
  have hc:c=47:=by
   simp only [kq,Bool.and_eq_true,beq_iff_eq] at h
   exact UInt8.toNat_inj.1 (by have:=h.1.2;simp [bI] at this;show c.toNat=47;omega)
  subst hc
  have h1:kV (47::s) [42,46]=false:=by simp [kV]
  have h2:kY (47::s)=false:=by
   cases e:kY (47::s) with
   | false=>rfl
   | true=>exact absurd (zjD e) (by decide)
  simp [zcs,h1,h2]
end Go.Nam
namespace Go.Hos
open Go.Ab Go.Proofs Go.Hy Go.Gat Go.Nam
def zko (s t:Str):Bool:=decide (t.length<=s.length) && (s.drop (s.length - t.length) == t)
theorem zil (s t:Str) (hs:s.length < 8000000000000):zc Tryz.prog 351 [] [Tx s,Tx t] (Bo (zko s t)) []:=by
 refine zc.zr (fn:=Tryz.f351) Tryz.func351 rfl ?_
 conv=>whnf
 refine ⟨fun h=>?_,fun h=>?_⟩
 ·have h':t.length<=s.length:=by simp at h;omega
  have w:IntKind.i64.wrap ((s.length:Int) - (t.length:Int))=(s.length - t.length:Nat):=by rw [jz (by omega) (by omega)];omega
  refine dd ?_
  rw [w]
  refine ⟨by omega,by omega,by omega,?_⟩
  rw [List.take_length,toNat_cast]
  refine dd ?_
  (repeat' (first | (refine ⟨fun _=>?_,fun _=>?_⟩ <;> (conv=>whnf)) | fail))
  all_goals (exact ⟨.inl rfl,_,.refl _,congrArg (fun b=>some (C.v (Value.bool b))) (by simp_all [zko])⟩)
 ·refine dd ?_
  (exact ⟨.inl rfl,_,.refl _,congrArg (fun b=>some (C.v (Value.bool b))) (by simp [zko];simp at h;intros;omega)⟩)
theorem ze1 (s t:Str) (hs:s.length < 8000000000000):zc Tryz.prog 350 [] [Tx s,Tx t] (Bo (zko s t)) []:=by
 refine zc.zr (fn:=Tryz.f350) Tryz.func350 rfl ?_
 conv=>whnf
 refine ⟨_,_,(zil s t hs).frame rfl _,?_⟩;refine dd ?_
 (repeat' (first | (refine ⟨fun _=>?_,fun _=>?_⟩ <;> (conv=>whnf)) | fail))
 all_goals (rename_i h;(exact ⟨.inl rfl,_,.refl _,congrArg (fun b=>some (C.v (Value.bool b))) (by exact h.symm)⟩))
def zgY (p h:Str):Bool:=match p with
 | c::t=>c == 42 && (t == [] || (decide (t.length < h.length) && zko h t))
 | []=>false
def vt (p h:Str):Bool:=zcs p && kY h && (p == h || zgY p h)
theorem znX (c:UInt8) (t:Str):yS (c::t) [42]=if c == 42 then (t,true) else (c::t,false):=by
 unfold yS kV
 by_cases h:c=42
 ·subst h;simp
 ·simp [h]
theorem zmy:zcs []=false:=by decide
theorem zgv (p h:Str) (hp:p.length < 8000000000000) (hh:h.length < 8000000000000):zc Tryz.prog 348 [] [Tx p,Tx h] (Bo (vt p h)) []:=by
 refine zc.zr (fn:=Tryz.f348) Tryz.func348 rfl ?_
 conv=>whnf
 refine ⟨_,_,(vu p (by omega)).frame rfl _,?_⟩;refine dd ?_
 refine ⟨fun h1=>?_,fun h1=>?_⟩
 ·refine dd ?_
  (repeat ((first | apply ya | apply yb);refine dd ?_))
  refine ⟨_,_,(zab h (by omega)).frame rfl _,?_⟩;refine dd ?_
  refine ⟨fun h2=>?_,fun h2=>?_⟩
  ·refine dd ?_
   (repeat ((first | apply ya | apply yb);refine dd ?_))
   refine ⟨_,_,(yC p [42]).frame rfl _,?_⟩;refine dd ?_
   cases p with
   | nil=>rw [zmy] at h1;cases h1
   | cons c t=>
    rw [znX]
    by_cases hc:(c == 42)=true
    ·rw [if_pos hc]
     refine ⟨fun _=>?_,fun h=>absurd h (by simp)⟩;refine dd ?_
     refine ⟨fun h3=>?_,fun h3=>?_⟩
     ·refine dd ?_
      (repeat ((first | apply ya | apply yb);refine dd ?_))
      (exact ⟨.inl rfl,_,.refl _,congrArg (fun b=>some (C.v (Value.bool b))) (by simp_all [vt])⟩)
     ·refine dd ?_
      refine ⟨fun h4=>?_,fun h4=>?_⟩
      ·refine dd ?_
       (repeat ((first | apply ya | apply yb);refine dd ?_))
       (exact ⟨.inl rfl,_,.refl _,congrArg (fun b=>some (C.v (Value.bool b))) (by simp_all [vt,zgY])⟩)
      ·refine dd ?_
       refine ⟨fun h5=>?_,fun h5=>?_⟩
       ·refine dd ?_
        refine ⟨_,_,(ze1 h t hh).frame rfl _,?_⟩;refine dd ?_
        (repeat' (first | (refine ⟨fun _=>?_,fun _=>?_⟩ <;> (conv=>whnf)) | fail))
        all_goals (rename_i h6;(exact ⟨.inl rfl,_,.refl _,congrArg (fun b=>some (C.v (Value.bool b))) (by simp at hc;subst hc;simp at h3 h4 h5;simp [vt,zgY,h1,h2,h3,h4,h5,h6])⟩))
       ·refine dd ?_
        (exact ⟨.inl rfl,_,.refl _,congrArg (fun b=>some (C.v (Value.bool b))) (by simp at hc;subst hc;simp at h3 h4 h5;simp [vt,zgY,h1,h2,h3,h4];intros;omega)⟩)
    ·rw [if_neg hc]
     refine ⟨fun h=>absurd h (by simp),fun _=>?_⟩;refine dd ?_
     refine ⟨fun h3=>?_,fun h3=>?_⟩
     ·refine dd ?_
      (repeat ((first | apply ya | apply yb);refine dd ?_))
      (exact ⟨.inl rfl,_,.refl _,congrArg (fun b=>some (C.v (Value.bool b))) (by simp_all [vt])⟩)
     ·refine dd ?_
      (exact ⟨.inl rfl,_,.refl _,congrArg (fun b=>some (C.v (Value.bool b))) (by simp at h3 hc;simp [vt,zgY,h1,h2,h3,hc])⟩)
  ·refine dd ?_
   (repeat ((first | apply ya | apply yb);refine dd ?_))
   (exact ⟨.inl rfl,_,.refl _,congrArg (fun b=>some (C.v (Value.bool b))) (by simp_all [vt])⟩)
 ·refine dd ?_
  (repeat ((first | apply ya | apply yb);refine dd ?_))
  (exact ⟨.inl rfl,_,.refl _,congrArg (fun b=>some (C.v (Value.bool b))) (by simp_all [vt])⟩)
def wm (p t:Str):Bool:=kq p && kq t && kV p t && (p.drop t.length == [] || zko t [47] || (p.drop t.length).head? == some 47)
theorem zni {s:Str} {c:UInt8} (h:s[0]?= some c):(s.head? == some 47)=(bI c == 47):=by
 rw [List.head?_eq_getElem?,h]
 by_cases e:c=47
 ·subst e;rfl
 ·have h1:¬bI c=47:=fun h=>e (by
   unfold bI at h
   have h':c.toNat=47:=by omega
   exact UInt8.toNat_inj.1 (by rw [h'];rfl))
  have h2:(c == 47)=false:=by simpa using e
  have h3:(bI c == 47)=false:=by simpa using h1
  rw [h3]
  simpa using e
theorem zgT (p t:Str) (hp:p.length < 8000000000000) (ht:t.length < 8000000000000):zc Tryz.prog 349 [] [Tx p,Tx t] (Bo (wm p t)) []:=by
 refine zc.zr (fn:=Tryz.f349) Tryz.func349 rfl ?_
 conv=>whnf
 refine ⟨_,_,(zai p (by omega)).frame rfl _,?_⟩;refine dd ?_
 refine ⟨fun h1=>?_,fun h1=>?_⟩
 ·refine dd ?_
  (repeat ((first | apply ya | apply yb);refine dd ?_))
  refine ⟨_,_,(zai t (by omega)).frame rfl _,?_⟩;refine dd ?_
  refine ⟨fun h2=>?_,fun h2=>?_⟩
  ·refine dd ?_
   (repeat ((first | apply ya | apply yb);refine dd ?_))
   refine ⟨_,_,(yC p t).frame rfl _,?_⟩;refine dd ?_
   by_cases h3:kV p t=true
   ·have e:yS p t=(p.drop t.length,true):=by unfold yS;rw [if_pos h3]
    rw [e]
    refine ⟨fun _=>?_,fun h=>absurd h (by simp)⟩;refine dd ?_
    refine ⟨fun h4=>?_,fun h4=>?_⟩
    ·refine dd ?_
     (repeat ((first | apply ya | apply yb);refine dd ?_))
     (exact ⟨.inl rfl,_,.refl _,congrArg (fun b=>some (C.v (Value.bool b))) (by simp_all [wm])⟩)
    ·refine dd ?_
     refine ⟨_,_,(ze1 t [47] ht).frame rfl _,?_⟩;refine dd ?_
     refine ⟨fun h5=>?_,fun h5=>?_⟩
     ·refine dd ?_
      (repeat ((first | apply ya | apply yb);refine dd ?_))
      (exact ⟨.inl rfl,_,.refl _,congrArg (fun b=>some (C.v (Value.bool b))) (by simp_all [wm])⟩)
     ·refine dd ?_
      obtain ⟨c,hc⟩:∃ c,(p.drop t.length)[0]?= some c:=by
       cases hd:p.drop t.length with
       | nil=>rw [hd] at h4;simp at h4
       | cons c _=>exact ⟨c,rfl⟩
      refine ⟨by omega,c,hc,?_⟩
      refine dd ?_
      (repeat' (first | (refine ⟨fun _=>?_,fun _=>?_⟩ <;> (conv=>whnf)) | fail))
      all_goals (rename_i h6;(exact ⟨.inl rfl,_,.refl _,congrArg (fun b=>some (C.v (Value.bool b))) (by simp only [wm,h1,h2,h3,h4,h5,zni hc];simpa using h6.symm)⟩))
   ·have e:yS p t=(p,false):=by unfold yS;rw [if_neg h3]
    rw [e]
    refine ⟨fun h=>absurd h (by simp),fun _=>?_⟩;refine dd ?_
    (exact ⟨.inl rfl,_,.refl _,congrArg (fun b=>some (C.v (Value.bool b))) (by simp_all [wm])⟩)
  ·refine dd ?_
   (repeat ((first | apply ya | apply yb);refine dd ?_))
   (exact ⟨.inl rfl,_,.refl _,congrArg (fun b=>some (C.v (Value.bool b))) (by simp_all [wm])⟩)
 ·refine dd ?_
  (repeat ((first | apply ya | apply yb);refine dd ?_))
  (exact ⟨.inl rfl,_,.refl _,congrArg (fun b=>some (C.v (Value.bool b))) (by simp_all [wm])⟩)
def xn (p:Str):Int:=if zcs p then (if kV p [42,46] then ((p.length - 2:Nat):Int) else if p == [42] then 0 else 100) else 0
theorem zbb (p:Str) (hp:p.length < 8000000000000):zc Tryz.prog 347 [] [Tx p] (I (xn p)) []:=by
 refine zc.zr (fn:=Tryz.f347) Tryz.func347 rfl ?_
 conv=>whnf
 refine ⟨_,_,(vu p (by omega)).frame rfl _,?_⟩;refine dd ?_
 refine ⟨fun h1=>?_,fun h1=>?_⟩
 ·refine dd ?_
  (repeat ((first | apply ya | apply yb);refine dd ?_))
  refine ⟨_,_,(yC p [42,46]).frame rfl _,?_⟩;refine dd ?_
  by_cases h3:kV p [42,46]=true
  ·have e:yS p [42,46]=(p.drop 2,true):=by unfold yS;rw [if_pos h3];rfl
   have ew:xn p=((p.drop 2).length:Nat):=by simp [xn,h1,h3]
   rw [e,ew]
   refine ⟨fun _=>?_,fun h=>absurd h (by simp)⟩;refine dd ?_
   exact ⟨.inl rfl,_,.refl _,rfl⟩
  ·have e:yS p [42,46]=(p,false):=by unfold yS;rw [if_neg h3]
   rw [e]
   refine ⟨fun h=>absurd h (by simp),fun _=>?_⟩;refine dd ?_
   refine ⟨fun h4=>?_,fun h4=>?_⟩
   ·have ew:xn p=0:=by simp_all [xn]
    rw [ew]
    refine dd ?_
    exact ⟨.inl rfl,_,.refl _,rfl⟩
   ·have ew:xn p=100:=by simp_all [xn]
    rw [ew]
    refine dd ?_
    exact ⟨.inl rfl,_,.refl _,rfl⟩
 ·have ew:xn p=0:=by simp_all [xn]
  rw [ew]
  refine dd ?_
  (repeat ((first | apply ya | apply yb);refine dd ?_))
  exact ⟨.inl rfl,_,.refl _,rfl⟩
def zcv (p q p' q':Str):Bool:=if xn p=xn p' then decide (q'.length < q.length) else decide (xn p' < xn p)
theorem zfc (p q p' q':Str) (hp:p.length < 8000000000000) (hq:p'.length < 8000000000000):zc Tryz.prog 341 [] [Tx p,Tx q,Tx p',Tx q'] (Bo (zcv p q p' q')) []:=by
 refine zc.zr (fn:=Tryz.f341) Tryz.func341 rfl ?_
 conv=>whnf
 refine ⟨_,_,(zbb p hp).frame rfl _,?_⟩;refine dd ?_
 refine ⟨_,_,(zbb p' hq).frame rfl _,?_⟩;refine dd ?_
 refine ⟨fun h1=>?_,fun h1=>?_⟩
 ·refine dd ?_
  (repeat' (first | (refine ⟨fun _=>?_,fun _=>?_⟩ <;> (conv=>whnf)) | fail))
  all_goals (rename_i h2;(exact ⟨.inl rfl,_,.refl _,congrArg (fun b=>some (C.v (Value.bool b))) (by simp_all [zcv])⟩))
 ·refine dd ?_
  (repeat' (first | (refine ⟨fun _=>?_,fun _=>?_⟩ <;> (conv=>whnf)) | fail))
  all_goals (rename_i h2;(exact ⟨.inl rfl,_,.refl _,congrArg (fun b=>some (C.v (Value.bool b))) (by simp_all [zcv])⟩))
end Go.Hos
namespace Go.Con
open Go.Ab Go.Proofs Go.Hy Go.Gat Go.Nam Go.Hos
theorem zcC {α:Type} (l:List α) (p:α->Bool):decide ((match l.findIdx? p with | some i=>(i:Int) | none=> -1)≥0)=l.any p:=by
 cases h:l.findIdx? p with
 | none=>
  rw [List.findIdx?_eq_none_iff] at h
  symm
  simp only [Int.reduceNeg,ge_iff_le,Int.reduceLE,decide_false]
  rw [List.any_eq_false]
  intro x hx;simp [h x hx]
 | some i=>
  obtain ⟨h1,h2,_⟩:=List.findIdx?_eq_some_iff_getElem.1 h
  symm
  have:(0:Int)<=(i:Int):=Int.natCast_nonneg i
  simp only [ge_iff_le,this,decide_true]
  rw [List.any_eq_true]
  exact ⟨_,List.getElem_mem h1,h2⟩
abbrev Cc (c:Clu):C:=.agg (jn c)
theorem zhM {H:zk} {f:FuncId} {caps:List C} {l:List Clu} (p:Clu->Bool) (hcb:qj Tryz.prog f=true) (hp:∀ r ∈ l,zc Tryz.prog f H ([Cc r]++caps) (Bo (p r)) H) (hl:l.length < 4611686018427387904):
  zc Tryz.prog 318 H [lC l,.fn f [] caps] (I (match l.findIdx? p with | some i=>(i:Int) | none=> -1)) H:=by
 refine zc.zW (fn:=Tryz.f318) Tryz.func318 rfl ?_
 conv=>whnf
 refine qb.inv (fun n t1 H1=>∃ k,k+n=l.length∧H1=H∧(∀ j,j < k->∀ r,l[j]?= some r->p r=false)∧
   t1=[lC l,.fn f [] caps,.za,.za,I 0,.za,.za,I (l.map jn).length,I k,.za,.za,.za,.za,.za,.za,.za,.za,.za,.za]) l.length ?_ ?_
 ·exact ⟨_,_,zq.mask [0,1,4,7,8] _ _,0,by simp,rfl,by simp,rfl⟩
 rintro n _ _ ⟨k,hk,rfl,hno,rfl⟩
 conv=>whnf
 refine ⟨fun h=>?_,fun h=>?_⟩
 ·conv=>whnf
  have hlt:k < l.length:=by simpa using h
  refine ⟨by omega,jn l[k],by simp [hlt],?_⟩
  conv=>whnf
  rw [hcb]
  refine ⟨_,_,hp _ (List.getElem_mem hlt),?_⟩
  conv=>whnf
  refine ⟨fun h2=>?_,fun h2=>?_⟩
  ·conv=>whnf
   refine .inr ⟨by simp,?_⟩
   conv=>whnf
   refine ⟨.inl rfl,_,.refl _,rfl,?_⟩
   have:l.findIdx? p=some k:=by
    rw [List.findIdx?_eq_some_iff_getElem]
    refine ⟨hlt,h2,fun j hj=>?_⟩
    simp [hno j hj _ (List.getElem?_eq_getElem (by omega))]
   rw [this]
   rfl
  ·conv=>whnf
   refine .inl ⟨rfl,n - 1,_,_,by omega,zq.mask [0,1,4,7,8] _ _,k+1,by omega,rfl,?_,?_⟩
   ·intro j hj r hr
    by_cases hjk:j=k
    ·subst hjk
     rw [List.getElem?_eq_getElem hlt] at hr
     cases hr
     exact h2
    ·exact hno j (by omega) r hr
   ·rw [zD (by omega)];rfl
 ·conv=>whnf
  refine .inr ⟨by simp,?_⟩
  conv=>whnf
  refine ⟨.inl rfl,_,.refl _,rfl,?_⟩
  have:l.findIdx? p=none:=by
   rw [List.findIdx?_eq_none_iff]
   intro x hx
   obtain ⟨j,hj⟩:=List.mem_iff_getElem?.1 hx
   have hjl:=(List.getElem?_eq_some_iff.1 hj).1
   have:¬k < l.length:=by simpa using h
   exact hno j (by omega) x hj
  rw [this]
  rfl
theorem zhl {H:zk} {f:FuncId} {caps:List C} {l:List Clu} (p:Clu->Bool) (hcb:qj Tryz.prog f=true) (hp:∀ r ∈ l,zc Tryz.prog f H ([Cc r]++caps) (Bo (p r)) H) (hl:l.length < 4611686018427387904):
  zc Tryz.prog 290 H [lC l,.fn f [] caps] (Bo (l.any p)) H:=by
 refine zc.zW (fn:=Tryz.f290) Tryz.func290 rfl ?_
 conv=>whnf
 refine ⟨_,_,zhM p hcb hp hl,?_⟩
 refine dd ?_
 rw [show decide ((match l.findIdx? p with | some i=>((i:Nat):Int) | none=>(-1:Int))≥(0:Int))=l.any p from zcC l p]
 refine ⟨fun h=>?_,fun h=>?_⟩ <;> rw [h]
 ·refine dd ?_
  exact ⟨.inl rfl,_,.refl _,rfl,rfl⟩
 ·refine dd ?_
  exact ⟨.inl rfl,_,.refl _,rfl,rfl⟩
theorem zfA (s:Str) (c:Clu):zc Tryz.prog 291 [⟨1,9,1,[[Tx s]],0⟩] [Cc c,.ref 0 [] 1 0 0] (Bo (c.name == s)) [⟨1,9,1,[[Tx s]],0⟩]:=by
 refine zc.zW (fn:=Tryz.f291) Tryz.func291 rfl ?_
 conv=>whnf
 refine ⟨fun h=>?_,fun h=>?_⟩ <;> rw [h]
 ·conv=>whnf
  exact ⟨.inl rfl,_,zq.keep [3] 1 _ _ rfl rfl rfl rfl,rfl,rfl⟩
 ·conv=>whnf
  exact ⟨.inl rfl,_,zq.keep [3] 1 _ _ rfl rfl rfl rfl,rfl,rfl⟩
def zae (l:List Clu) (s:Str):Bool:=l.any fun c=>c.name == s
theorem zb9 (l:List Clu) (s:Str) (hl:l.length < 4611686018427387904):zc Tryz.prog 241 [] [lC l,Tx s] (Bo (zae l s)) []:=by
 refine zc.zr (fn:=Tryz.f241) Tryz.func241 rfl ?_
 conv=>whnf
 refine ⟨_,_,zhl (fun c=>c.name == s) (by kernel_rfl) (fun r _=>zfA s r) hl,?_⟩
 refine dd ?_
 refine ⟨fun h=>?_,fun h=>?_⟩
 ·refine dd ?_
  (exact ⟨.inl rfl,_,.refl _,congrArg (fun b=>some (C.v (Value.bool b))) (by exact h.symm)⟩)
 ·refine dd ?_
  (exact ⟨.inl rfl,_,.refl _,congrArg (fun b=>some (C.v (Value.bool b))) (by exact h.symm)⟩)
theorem jX (n a b:Int):zc Tryz.prog 240 [] [I n,I a,I b] (Bo (decide (a<=n) && decide (n<=b))) []:=by
 refine zc.zr (fn:=Tryz.f240) Tryz.func240 rfl ?_
 conv=>whnf
 (repeat' (first | (refine ⟨fun _=>?_,fun _=>?_⟩ <;> (conv=>whnf)) | fail))
 all_goals (exact ⟨.inl rfl,_,.refl _,congrArg (fun b=>some (C.v (Value.bool b))) (by simp_all <;> omega)⟩)
def x3 (l:List Str) (s:Str):Int:=match l.findIdx? (fun x=>x == s) with | some i=>(i:Int) | none=> -1
theorem zhR (l:List Str) (s:Str) (hl:l.length < 4611686018427387904):zc Tryz.prog 184 [] [lT l,Tx s] (I (x3 l s)) []:=by
 have hlm:(l.map v7).length=l.length:=List.length_map ..
 refine zc.zr (fn:=Tryz.f184) Tryz.func184 rfl ?_
 conv=>whnf
 rw [hlm]
 refine qb.seq l.length (fun k=>[lT l,Tx s,.za,.za,I 0,.za,.za,I l.length,I k,.za,.za,.za,.za,.za,.za,.za,.za,.za,.za]) (fun k=>[]) (fun k=>∀ j,(h:j < l.length)->j < k->(l[j] == s)=false) ?_ (by simp) (fun k hk hr=>?_) (fun hr=>?_)
 ·exact cC
 ·have hg:(l.map v7)[k]?= some (v7 l[k]):=by rw [List.getElem?_map,List.getElem?_eq_getElem hk];rfl
  conv=>whnf
  refine ⟨fun _=>?_,fun h=>absurd h (by simp;omega)⟩
  refine dd ?_
  refine ⟨by omega,_,by rw [toNat_cast];exact hg,?_⟩
  refine dd ?_
  refine ⟨fun h2=>?_,fun h2=>?_⟩
  ·refine dd ?_
   refine .inr ⟨by simp,?_⟩
   conv=>whnf
   have e:x3 l s=k:=by
    unfold x3
    have:l.findIdx? (fun x=>x == s)=some k:=by
     rw [List.findIdx?_eq_some_iff_getElem]
     refine ⟨hk,?_,fun j hj=>by simp only [hr j (by omega) hj];decide⟩
     simp at h2;simp [h2]
    rw [this]
   rw [e]
   exact ⟨.inl rfl,_,.refl _,rfl⟩
  ·refine dd ?_
   refine .inl ⟨rfl,?_,fun j hj hjk=>?_⟩
   ·rw [zD (by omega)]
    exact cE 0
   ·by_cases e:j=k
    ·subst e;simp at h2 ⊢;exact fun h=>h2 h.symm
    ·exact hr j hj (by omega)
 ·conv=>whnf
  refine ⟨fun h=>absurd h (by simp),fun _=>?_⟩
  refine dd ?_
  refine ⟨by simp,?_⟩
  conv=>whnf
  have e:x3 l s= -1:=by
   unfold x3
   have:l.findIdx? (fun x=>x == s)=none:=by
    rw [List.findIdx?_eq_none_iff]
    intro x hx
    obtain ⟨j,hj,rfl⟩:=List.mem_iff_getElem.1 hx
    exact hr j hj hj
   rw [this]
  rw [e]
  exact ⟨.inl rfl,_,.refl _,rfl⟩
theorem zk7 (l:List Str) (s:Str):decide (x3 l s≥0)=l.any (fun x=>x == s):=zcC l _
theorem zcY (l:List Str) (s:Str) (hl:l.length < 4611686018427387904):zc Tryz.prog 131 [] [lT l,Tx s] (Bo (l.any fun x=>x == s)) []:=by
 refine zc.zr (fn:=Tryz.f131) Tryz.func131 rfl ?_
 conv=>whnf
 refine ⟨_,_,(zhR l s hl).frame rfl _,?_⟩;refine dd ?_
 rw [zk7]
 refine ⟨fun h=>?_,fun h=>?_⟩
 ·refine dd ?_
  (exact ⟨.inl rfl,_,.refl _,congrArg (fun b=>some (C.v (Value.bool b))) (by exact h.symm)⟩)
 ·refine dd ?_
  (exact ⟨.inl rfl,_,.refl _,congrArg (fun b=>some (C.v (Value.bool b))) (by exact h.symm)⟩)
end Go.Con
