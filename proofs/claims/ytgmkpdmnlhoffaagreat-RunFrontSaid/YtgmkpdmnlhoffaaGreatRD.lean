import Derived.Lib.Bytealg
import Derived.WalkKit
import Derived.IntWalk
import Derived.Test.YtgmkpdmnlhoffaaGreatRC
import Derived.Test.YtgmkpdmnlhoffaaGreatRJ
import Derived.Test.YtgmkpdmnlhoffaaGreatProg
set_option linter.all false
set_option maxRecDepth 100000
set_option maxHeartbeats 4000000
namespace Go.Gat
open Go.Ab Go.Proofs Go.Hy
def zp4 (n:Int):Bool:=decide (97<=n) && decide (n<=122)
def zax (n:Int):Bool:=zp4 n || (decide (48<=n) && decide (n<=57)) || (n == 45)
abbrev By (n:Int):C:=.v (.int .u8 n)
theorem zhA (n:Int):zb Tryz.prog 168 [] [By n] (Bo (zp4 n)) []:=by
 refine zb.zp (fn:=Tryz.f168) Tryz.func168 rfl (uH ?_);(repeat' (first | (refine ⟨fun _=>?_,fun _=>?_⟩ <;> (conv=>whnf)) | fail))
 all_goals (exact ⟨.inl rfl,_,.refl _,uN (by simp_all [zp4] <;> (intros;omega))⟩)
theorem zkG (n:Int):zb Tryz.prog 215 [] [By n] (Bo (zax n)) []:=by
 refine zb.zp (fn:=Tryz.f215) Tryz.func215 rfl (uH ?_);refine ⟨_,_,(zhA n).frame rfl _,dd ?_⟩;(repeat' (first | (refine ⟨fun _=>?_,fun _=>?_⟩ <;> (conv=>whnf)) | fail))
 all_goals (exact ⟨.inl rfl,_,.refl _,uN (by simp_all [zax] <;> (intros;omega))⟩)
theorem zgH:zb Tryz.prog 169 [] [] (.agg [.fn 215 [] []]) []:=by
 refine zb.zp (fn:=Tryz.f169) Tryz.func169 rfl (uH ?_);exact uI
abbrev bI (c:UInt8):Int:=(c.toNat:Int)
def zgJ (p:Int->Bool) (s:Str) (other:Int):Bool:=s.all fun c=>bI c == other || p (bI c)
theorem zkI {p:Int->Bool} {s:Str} {other:Int} {k:Nat} (hk:k < s.length) (h1:(bI s[k] == other)=false) (h2:p (bI s[k])=false):zgJ p s other=false:=by
 unfold zgJ;rw [List.all_eq_false];exact ⟨s[k],List.getElem_mem hk,by simp [h1,h2]⟩
theorem zhb (s:Str) (other:Int) (hs:s.length < 4611686018427387904):zb Tryz.prog 170 [] [.agg [.fn 215 [] []],Tx s,By other] (Bo (zgJ zax s other)) []:=by
 refine zb.zp (fn:=Tryz.f170) Tryz.func170 rfl (uH ?_);refine qf.seq s.length (fun k=>(.agg [.fn 215 [] []]::(Tx s)::(By other)::.ref 0 [] 1 0 0::.za::.za::Bo false::.za::.za::I s.length::I k::tY (tY ([.za])))) (fun k=>[⟨1,223,1,[[.fn 215 [] []]],0⟩]) (fun k=>∀ j,(h:j < s.length)->j < k->(bI s[j] == other || zax (bI s[j]))=true) ?_ (by simp) (fun k hk hr=>?_) (fun hr=>?_)
 ·exact cC
 ·conv=>whnf
  refine ⟨fun h=>uH ?_,fun h=>absurd h (by simp;omega)⟩;refine uE ?_;refine ⟨by omega,s[k],by simp [hk],uH ?_⟩;refine ⟨fun h1=>?_,fun h1=>?_⟩
  ·refine dd ?_;refine ⟨by omega,s[k],by simp [hk],dd ?_⟩;refine ⟨_,_,(zkG (bI s[k])).frame rfl _,dd ?_⟩;refine ⟨fun h2=>?_,fun h2=>?_⟩
   ·refine dd ?_;refine .inl ⟨rfl,?_,?_⟩
    ·rw [zA (by omega)];exact cE 1
    ·intro j hj hjk;by_cases e:j=k
     ·subst e;simp [h2]
     ·exact hr j hj (by omega)
   ·refine dd ?_;refine .inr ⟨by simp,uH ?_⟩
    (exact ⟨.inl rfl,_,.refl _,uN (by exact (zkI hk tE h2).symm)⟩)
  ·refine dd ?_;refine .inl ⟨rfl,?_,?_⟩
   ·rw [zA (by omega)];exact cE 1
   ·intro j hj hjk;by_cases e:j=k
    ·subst e;simp at h1;simp [h1]
    ·exact hr j hj (by omega)
 ·conv=>whnf
  refine ⟨fun h=>absurd h (by simp),fun h=>uH ?_⟩;refine ⟨by simp,uH ?_⟩
  have e:zgJ zax s other=true:=by
   unfold zgJ;rw [List.all_eq_true];intro x hx;obtain ⟨j,hj,rfl⟩:=List.mem_iff_getElem.1 hx;exact hr j hj hj
  exact ⟨.inl rfl,_,.refl _,by rw [e];rfl⟩
def xm (s:Str):Bool:=decide (0 < s.length) && decide (s.length<=16) && (match s with | c::_=>zp4 (bI c) | []=>false) && s.all fun c=>zax (bI c)
theorem zns (s:Str):zgJ zax s 45=s.all fun c=>zax (bI c):=by
 unfold zgJ
 congr 1
 funext c
 cases h:(bI c == 45) with
 | false=>rfl
 | true=>simp at h;simp [zax,h]
theorem yd (s:Str) (hs:s.length < 4611686018427387904):zb Tryz.prog 98 [] [Tx s] (Bo (xm s)) []:=by
 refine zb.zp (fn:=Tryz.f98) Tryz.func98 rfl ?_;cases s with
 | nil=>
  conv=>whnf
  (repeat refine uC ?_)
  exact uI
 | cons c s=>
  conv=>whnf
  refine ⟨fun _=>uH ?_,fun h=>absurd h (by simp <;> omega)⟩;refine ⟨fun h1=>?_,fun h1=>?_⟩
  ·conv=>whnf
   refine ⟨by omega,c,rfl,uH ?_⟩;refine ⟨_,_,(zhA (bI c)).frame rfl _,dd ?_⟩;refine ⟨fun h2=>?_,fun h2=>?_⟩
   ·conv=>whnf
    refine ⟨_,_,(zgH).frame rfl _,dd ?_⟩;refine ⟨_,_,(zhb (c::s) 45 hs).frame rfl _,dd ?_⟩;have h1':s.length<=15:=by have:=h1;simp at this;omega
    have e:xm (c::s)=zgJ zax (c::s) 45:=by rw [zns];unfold xm;simp [h2];omega
    refine ⟨fun h3=>?_,fun h3=>?_⟩
    all_goals ((conv=>whnf);(exact ⟨.inl rfl,_,.refl _,uN (by rw [e,h3])⟩))
   ·conv=>whnf
    (exact ⟨.inl rfl,_,.refl _,uN (by simp [xm,h2])⟩)
  ·conv=>whnf
   (exact ⟨.inl rfl,_,.refl _,uN (by simp [xm];simp at h1;omega)⟩)
end Go.Gat
namespace Go.Nam
open Go.Ab Go.Proofs Go.Hy Go.Gat Go.RowKit
def yG (b:UInt8) (s:Str):Str:=s.takeWhile (· != b)
def zbZ (b:UInt8) (s:Str):Str:=(s.dropWhile (· != b)).drop 1
def xc (b:UInt8):Str->List Str
 | []=>[[]]
 | c::s=>if c == b then []::xc b s else match xc b s with
  | p::ps=>(c::p)::ps
  | []=>[[c]]
theorem zik (b:UInt8) (s:Str):xc b s≠[]:=by
 cases s with
 | nil=>simp [xc]
 | cons c s=>unfold xc;split;simp;split <;> simp
theorem zbu {b:UInt8}:∀ {s:Str},b ∉ s->xc b s=[s]
 | [],_=>rfl
 | c::s,h=>by
  have h1:(c == b)=false:=by simp;intro e;subst e;exact h (List.mem_cons_self ..)
  have h2:=zbu (s:=s) fun e=>h (List.mem_cons_of_mem _ e)
  simp [xc,h1,h2]
theorem wt {b:UInt8}:∀ {s:Str},b ∈ s->xc b s=yG b s::xc b (zbZ b s)
 | [],h=>by simp at h
 | c::s,h=>by
  by_cases e:c=b
  ·subst e;simp [xc,yG,zbZ]
  ·have h1:(c == b)=false:=by simpa using e
   have h2:=wt (s:=s) (by rcases List.mem_cons.1 h with h | h;exact absurd h.symm e;exact h);have h3:(c != b)=true:=by simpa using e
   simp only [xc,h1,Bool.false_eq_true,if_false,h2,yG,zbZ,List.takeWhile_cons,List.dropWhile_cons,h3,if_true]
theorem zjI {b:UInt8}:∀ {s:Str},b ∉ s->Lib.indexByte s b= -1
 | [],_=>rfl
 | c::s,h=>by
  have h1:(c == b)=false:=by simp;intro e;subst e;exact h (List.mem_cons_self ..)
  have h2:=zjI (s:=s) fun e=>h (List.mem_cons_of_mem _ e)
  simp [Lib.indexByte,h1,h2]
theorem zfU {b:UInt8}:∀ {s:Str},b ∈ s->Lib.indexByte s b=((yG b s).length:Int)
 | [],h=>by simp at h
 | c::s,h=>by
  by_cases e:c=b
  ·subst e;simp [Lib.indexByte,yG]
  ·have h1:(c == b)=false:=by simpa using e
   have h3:(c != b)=true:=by simpa using e
   have h2:=zfU (s:=s) (by rcases List.mem_cons.1 h with h | h;exact absurd h.symm e;exact h);have h4:((yG b s).length == (-1:Int))=false:=by rw [beq_eq_false_iff_ne];omega
   simp only [Lib.indexByte,h1,Bool.false_eq_true,if_false,h2,yG,List.takeWhile_cons,h3,if_true,List.length_cons];rw [show ((↑(List.takeWhile (fun x=>x != b) s).length:Int) == -1)=false from h4];simp
theorem head_take (b:UInt8) (s:Str):s.take (yG b s).length=yG b s:=by
 induction s with
 | nil=>rfl
 | cons c s ih=>
  by_cases e:c=b
  ·subst e;simp [yG]
  ·have h3:(c != b)=true:=by simpa using e
   simp only [yG,List.takeWhile_cons,h3,if_true,List.length_cons,List.take_succ_cons];rw [show List.take (List.takeWhile (fun x=>x != b) s).length s=yG b s from ih];rfl
theorem tail_drop (b:UInt8) (s:Str):s.drop ((yG b s).length+1)=zbZ b s:=by
 induction s with
 | nil=>rfl
 | cons c s ih=>
  by_cases e:c=b
  ·subst e;simp [yG,zbZ]
  ·have h3:(c != b)=true:=by simpa using e
   simp only [yG,zbZ,List.takeWhile_cons,List.dropWhile_cons,h3,if_true,List.length_cons,List.drop_succ_cons];exact ih
theorem ziw {b:UInt8} {s:Str} (h:b ∈ s):(yG b s).length < s.length:=by
 have h1:=tail_drop b s;have h2:s.length≠0:=by intro e;rw [List.length_eq_zero_iff.1 e] at h;simp at h
 have h3:(yG b s).length<=s.length:=List.Sublist.length_le (List.takeWhile_sublist _);rcases Nat.lt_or_ge (yG b s).length s.length with h4 | h4
 ·exact h4
 ·have h5:=head_take b s;rw [List.take_of_length_le h4] at h5;have:b ∈ yG b s:=by rw [<- h5];exact h
  have:=List.all_takeWhile (l:=s) (p:=(· != b));rw [List.all_eq_true] at this;have:=this b (by assumption);simp at this
def xz (b:UInt8) (s:Str):Nat->Str
 | 0=>s
 | k+1=>zbZ b (xz b s k)
theorem zfD {b:UInt8}:∀ {k:Nat} {s:Str},k+1 < (xc b s).length->b ∈ xz b s k∧(xc b s)[k]?= some (yG b (xz b s k))∧xc b (xz b s (k+1))=(xc b s).drop (k+1)
 | 0,s,h=>by
  have hb:b ∈ s:=by
   rcases Classical.em (b ∈ s) with h1 | h1
   ·exact h1
   ·rw [zbu h1] at h;simp at h
  exact ⟨hb,by rw [wt hb];rfl,by rw [wt hb];rfl⟩
 | k+1,s,h=>by
  obtain ⟨h1,h2,h3⟩:=zfD (b:=b) (k:=k) (s:=s) (by omega)
  have hb:b ∈ xz b s (k+1):=by
   rcases Classical.em (b ∈ xz b s (k+1)) with h4 | h4
   ·exact h4
   ·rw [zbu h4] at h3;have:=congrArg List.length h3;simp at this;omega
  have h5:=wt hb;rw [h3] at h5;refine ⟨hb,?_,?_⟩
  ·have:=congrArg (fun l=>l[0]?) h5;simpa using this
  ·have:=congrArg (fun l=>l.drop 1) h5;simp at this;show xc b (zbZ b (xz b s (k+1)))=_;rw [<- this]
theorem zjl {b:UInt8} {k:Nat} {s:Str} (h:k+1=(xc b s).length):b ∉ xz b s k∧(xc b s)[k]?= some (xz b s k):=by
 have h3:xc b (xz b s k)=(xc b s).drop k:=by
  cases k with
  | zero=>rfl
  | succ k=>exact (zfD (b:=b) (s:=s) (k:=k) (by omega)).2.2
 have h4:b ∉ xz b s k:=by
  intro hb;rw [wt hb] at h3;have:=congrArg List.length h3
  have h5:(xc b (zbZ b (xz b s k))).length≠0:=by
   intro e;exact zik b _ (List.length_eq_zero_iff.1 e)
  simp at this;omega
 refine ⟨h4,?_⟩;rw [zbu h4] at h3;have:=congrArg (fun l=>l[0]?) h3;simpa using this.symm
theorem zdj (b:UInt8) (s:Str):∀ k,(xz b s k).length<=s.length
 | 0=>Nat.le_refl _
 | k+1=>by
  have h1:((xz b s k).dropWhile (· != b)).length<=(xz b s k).length:=List.Sublist.length_le (List.dropWhile_sublist _);have:=zdj b s k;simp only [xz,zbZ,List.length_drop];omega
theorem zn4 (s:ByteArray) (c:Int) (w:World):Calls Tryz.prog 323 #[.string s,.int .u8 c] w fun e w'=>e=.returned (.int .i64 (Lib.indexByte s.data.toList c.toNat.toUInt8))∧w'=w:=by
 go_enter Tryz.func323,Tryz.ntmps323
 go_wp2
 rw [run_callFunc_extern Tryz.func327 (by kernel_rfl) (by kernel_rfl) (by kernel_rfl) (e:=Extern.BytealgIndexByte.indexByte) (by kernel_rfl),Lib.run_indexByteString];simp only [Result.andThen];rw [Oper.upon_value]
 go_wp2
 go_ret
 exact ⟨rfl,rfl⟩
theorem zlx (s:Str) (b:UInt8):zb Tryz.prog 323 [] [Tx s,By (bI b)] (I (Lib.indexByte s b)) []:=by
 have e:(bI b).toNat.toUInt8=b:=by simp [bI]
 refine zc9 [] (fun w=>?_) zpk fun E=>.v _ rfl
 have:=zn4 ⟨⟨s⟩⟩ (bI b) w;rw [e] at this;exact this
theorem wF (s:Str) (b:UInt8):zb Tryz.prog 314 [] [Tx s,By (bI b)] (I (Lib.indexByte s b)) []:=by
 refine zb.zp (fn:=Tryz.f314) Tryz.func314 rfl (uH ?_);refine ⟨_,_,(zlx s b).frame rfl _,dd ?_⟩;exact uI
end Go.Nam
namespace Go.Nam
open Go.Ab Go.Proofs Go.Hy Go.Gat
theorem zj2 (X:Ob) (s:Str) (b:UInt8):zb Tryz.prog 291 [X] [Tx s,By (bI b)] (.fn 313 [] [.ref 1 [] 1 0 0,.ref 2 [] 1 0 0]) [X,⟨1,9,1,[[Tx s]],0⟩,⟨1,5,1,[[By (bI b)]],0⟩]:=by
 refine zb.zS (fn:=Tryz.f291) Tryz.func291 rfl (uH ?_);exact uJ
theorem zdd (l:Nat) (s:Str) (b:UInt8) (hs:s.length < 4611686018427387904) (X:Nat->Ob) (Y:Nat->List Ob) (j:Nat) (g:Bool) (hj:j < (xc b s).length) (hend:g=false∨j+1=(xc b s).length)
  (hy:∀ k p,k < j->(xc b s)[k]?= some p->jh Tryz.prog l (X k::⟨1,9,1,[[Tx (xz b s k)]],0⟩::⟨1,5,1,[[By (bI b)]],0⟩::Y k) [Tx p] (Bo true) (X (k+1)::⟨1,9,1,[[Tx (xz b s k)]],0⟩::⟨1,5,1,[[By (bI b)]],0⟩::Y (k+1)))
  (hz:∀ p,(xc b s)[j]?= some p->jh Tryz.prog l (X j::⟨1,9,1,[[Tx (xz b s j)]],0⟩::⟨1,5,1,[[By (bI b)]],0⟩::Y j) [Tx p] (Bo g) (X (j+1)::⟨1,9,1,[[Tx (xz b s j)]],0⟩::⟨1,5,1,[[By (bI b)]],0⟩::Y (j+1))):
  zb Tryz.prog 313 (X 0::⟨1,9,1,[[Tx (xz b s 0)]],0⟩::⟨1,5,1,[[By (bI b)]],0⟩::Y 0) [.v (.func (.yield l) #[] #[]),.ref 1 [] 1 0 0,.ref 2 [] 1 0 0] (.tup []) (X (j+1)::⟨1,9,1,[[Tx (xz b s j)]],0⟩::⟨1,5,1,[[By (bI b)]],0⟩::Y (j+1)):=by
 refine zb.zS (fn:=Tryz.f313) Tryz.func313 rfl (uH ?_);refine qf.seq j (fun k=>(.v (.func (.yield l) #[] #[])::.ref 1 [] 1 0 0::.ref 2 [] 1 0 0::tY (tY ([.za,.za,.za,.za])))) (fun k=>X k::⟨1,9,1,[[Tx (xz b s k)]],0⟩::⟨1,5,1,[[By (bI b)]],0⟩::Y k) (fun _=>True) ?_ trivial (fun k hk _=>?_) (fun _=>?_)
 ·exact cC
 ·obtain ⟨h1,h2,h3⟩:=zfD (b:=b) (s:=s) (k:=k) (by omega);have h4:=zdj b s k;have h5:=ziw h1;conv=>whnf
  refine ⟨_,_,(wF (xz b s k) b).frame rfl _,?_⟩;rw [zfU h1];conv=>whnf
  refine ⟨fun h=>absurd h (by simp),fun _=>dd ?_⟩;refine ⟨by omega,by omega,by simp;omega,?_⟩;rw [toNat_cast,List.drop_zero,head_take];conv=>whnf
  refine ⟨_,_,hy k _ hk h2,dd ?_⟩;(repeat refine uC ?_)
  rw [zA (by omega),toNat_cast];refine ⟨by omega,uH ?_⟩;refine ⟨by omega,by omega,?_⟩;rw [List.take_length,tail_drop];conv=>whnf
  exact .inl ⟨rfl,cC,trivial⟩
 ·have h4:=zdj b s j;by_cases hl:j+1=(xc b s).length
  ·obtain ⟨h1,h2⟩:=zjl hl;conv=>whnf
   refine ⟨_,_,(wF (xz b s j) b).frame rfl _,?_⟩;rw [zjI h1];conv=>whnf
   refine ⟨fun _=>dd ?_,fun h=>absurd h (by simp)⟩;refine ⟨_,_,hz _ h2,uH ?_⟩;refine ⟨fun _=>?_,fun _=>?_⟩ <;>
   ·conv=>whnf
    exact ⟨by simp,.inl rfl,_,.refl _,rfl,rfl⟩
  ·obtain ⟨h1,h2,h3⟩:=zfD (b:=b) (s:=s) (k:=j) (by omega);have h5:=ziw h1;have hg:g=false:=by rcases hend with h | h;exact h;exact absurd h hl
   subst hg;conv=>whnf
   refine ⟨_,_,(wF (xz b s j) b).frame rfl _,?_⟩;rw [zfU h1];conv=>whnf
   refine ⟨fun h=>absurd h (by simp),fun _=>dd ?_⟩;refine ⟨by omega,by omega,by simp;omega,?_⟩;rw [toNat_cast,List.drop_zero,head_take];conv=>whnf
   refine ⟨_,_,hz _ h2,dd ?_⟩;(repeat refine uC ?_)
   exact ⟨by simp,.inl rfl,_,.refl _,rfl,rfl⟩
def zaW (s:Str):Bool:=decide (s.length<=32) && (xc 46 s).all xm
theorem zr3 (b:UInt8) (s:Str) (k:Nat) (p:Str) (h:(xc b s)[k]?= some p):p.length<=s.length:=by
 have hk:=(List.getElem?_eq_some_iff.1 h).1;by_cases hl:k+1=(xc b s).length
 ·obtain ⟨h1,h2⟩:=zjl hl;rw [h2] at h;cases h;exact zdj b s k
 ·obtain ⟨h1,h2,h3⟩:=zfD (b:=b) (s:=s) (k:=k) (by omega);rw [h2] at h;cases h
  have:=ziw h1;have:=zdj b s k;omega
theorem zcf (s:Str) (hs:s.length < 4611686018427387904):zb Tryz.prog 254 [] [Tx s] (Bo (zaW s)) []:=by
 refine zb.zp (fn:=Tryz.f254) Tryz.func254 rfl (uH ?_);refine ⟨fun h=>?_,fun h=>?_⟩
 ·refine dd ?_
  (exact ⟨.inl rfl,_,.refl _,uN (by simp [zaW];simp at h;omega)⟩)
 ·refine dd ?_;refine ⟨_,_,zj2 _ s 46,uH ?_⟩;have hn:=zik 46 s
  have hlen:0 < (xc 46 s).length:=by
   rcases Nat.eq_zero_or_pos (xc 46 s).length with e | e
   ·exact absurd (List.length_eq_zero_iff.1 e) hn
   ·exact e
  have hple:∀ (k:Nat) (p:Str),(xc 46 s)[k]?= some p->p.length < 4611686018427387904:=fun k p hp=>by have:=zr3 46 s k p hp;omega
  refine ⟨_,.refl _,?_⟩;by_cases z5:(xc 46 s).all xm=true
  ·have hname:∀ (k:Nat) p,(xc 46 s)[k]?= some p->xm p=true:=fun k p hp=>List.all_eq_true.1 z5 p (List.mem_of_getElem? hp)
   refine ⟨.normal,_,[⟨1,4,1,[[Bo false]],0⟩],fun l r h1 h2 h3 h4 h5=>⟨_,_,r,zdd l s 46 hs (fun _=>⟨1,4,1,[[Bo false]],0⟩) (fun _=>[obR l r _]) ((xc 46 s).length - 1) true (by omega) (.inr (by omega)) (fun k p hk hp=>?_) (fun p hp=>?_),
    rfl,by rw [h1];decide,rfl,Nat.zero_le _,by rw [h2];trivial,zo.low 1 _ _ rfl rfl rfl⟩,?_⟩
   ·refine jh.zS (id:=3) rfl h1 h2 h3 h4 h5 rfl rfl rfl ?_;conv=>whnf
    refine ⟨rfl,rfl,uH ?_⟩;refine ⟨_,_,(yd p (hple _ _ hp)).frame rfl _,dd ?_⟩;refine ⟨fun _=>dd ?_,fun h=>absurd ((hname _ _ hp).symm.trans h:true=false) (by decide)⟩;exact ⟨_,_,.refl _,rfl,.inl ⟨rfl,rfl,rfl⟩⟩
   ·refine jh.zS (id:=3) rfl h1 h2 h3 h4 h5 rfl rfl rfl ?_;conv=>whnf
    refine ⟨rfl,rfl,uH ?_⟩;refine ⟨_,_,(yd p (hple _ _ hp)).frame rfl _,dd ?_⟩;refine ⟨fun _=>dd ?_,fun h=>absurd ((hname _ _ hp).symm.trans h:true=false) (by decide)⟩;exact ⟨_,_,.refl _,rfl,.inl ⟨rfl,rfl,rfl⟩⟩
   ·conv=>whnf
    (exact ⟨.inl rfl,_,.refl _,uN (by simp [zaW,z5];simp at h;omega)⟩)
  ·obtain ⟨j,hj⟩:∃ j,(xc 46 s).findIdx? (fun p=>!xm p)=some j:=by
    cases e:(xc 46 s).findIdx? (fun p=>!xm p) with
    | some j=>exact ⟨j,rfl⟩
    | none=>
     exfalso
     rw [List.findIdx?_eq_none_iff] at e;exact z5 (List.all_eq_true.2 fun x hx=>by simpa using e x hx)
   rw [List.findIdx?_eq_some_iff_getElem] at hj;obtain ⟨hjl,hj1,hj2⟩:=hj;have z5:(xc 46 s).all xm=false:=by simpa using z5
   refine ⟨.ret,_,[⟨1,4,1,[[Bo false]],0⟩],fun l r h1 h2 h3 h4 h5=>⟨_,_,left r .ret,zdd l s 46 hs (fun _=>⟨1,4,1,[[Bo false]],0⟩) (fun k=>[obR l (if k < j+1 then r else left r .ret) _]) j false hjl (.inl rfl) (fun k p hk hp=>?_) (fun p hp=>?_),
    congrArg (fun x=>some (obR l x _)) (if_neg (Nat.lt_irrefl (j+1))),by simp,rfl,Nat.zero_le _,trivial,zo.low 1 _ _ rfl rfl rfl⟩,?_⟩
   ·have e1:k < j+1:=by omega
    have e2:k+1 < j+1:=by omega
    simp only [if_pos e1,if_pos e2];refine jh.zS (id:=3) rfl h1 h2 h3 h4 h5 rfl rfl rfl (uH ?_);refine ⟨rfl,rfl,uH ?_⟩;refine ⟨_,_,(yd p (hple _ _ hp)).frame rfl _,dd ?_⟩
    have hname:xm p=true:=by
     have h6:=hj2 k hk;rw [List.getElem?_eq_getElem (by omega)] at hp;cases hp
     simpa using h6
    refine ⟨fun _=>dd ?_,fun h=>absurd ((hname).symm.trans h:true=false) (by decide)⟩;exact ⟨_,_,.refl _,rfl,.inl ⟨rfl,rfl,rfl⟩⟩
   ·simp only [if_pos (Nat.lt_succ_self j),if_neg (Nat.lt_irrefl (j+1))];refine jh.zS (id:=3) rfl h1 h2 h3 h4 h5 rfl rfl rfl (uH ?_);refine ⟨rfl,rfl,uH ?_⟩;refine ⟨_,_,(yd p (hple _ _ hp)).frame rfl _,dd ?_⟩
    have hname:xm p=false:=by
     rw [List.getElem?_eq_getElem hjl] at hp;cases hp
     simpa using hj1
    refine ⟨fun h=>absurd ((hname).symm.trans h:false=true) (by decide),fun _=>dd ?_⟩;exact ⟨_,_,.refl _,rfl,.inr ⟨rfl,.inl ⟨rfl,rfl⟩⟩⟩
   ·conv=>whnf
    (exact ⟨.inl rfl,_,.refl _,uN (by simp [zaW,z5])⟩)
abbrev pk (b:UInt8) (s:Str) (k:Nat):List (List C):=((xc b s).take k).map ql
def zaV (s p:Str):Bool:=decide (p.length<=s.length) && (s.take p.length == p)
theorem ze1 (s p:Str):zb Tryz.prog 312 [] [Tx s,Tx p] (Bo (zaV s p)) []:=by
 refine zb.zp (fn:=Tryz.f312) Tryz.func312 rfl (uH ?_);refine ⟨fun h=>?_,fun h=>?_⟩
 ·refine dd ?_;refine ⟨by omega,by omega,by simp at h;omega,?_⟩;rw [toNat_cast,List.drop_zero];conv=>whnf
  (repeat' (first | (refine ⟨fun _=>?_,fun _=>?_⟩ <;> (conv=>whnf)) | fail))
  all_goals (exact ⟨.inl rfl,_,.refl _,uN (by simp_all [zaV])⟩)
 ·conv=>whnf
  (exact ⟨.inl rfl,_,.refl _,uN (by simp_all [zaV];intros;omega)⟩)
abbrev tSB (r:Str × Bool):C:=.tup [Tx r.1,Bo r.2]
def ku (s p:Str):Str × Bool:=if zaV s p then (s.drop p.length,true) else (s,false)
theorem zgO (s p:Str):zb Tryz.prog 290 [] [Tx s,Tx p] (tSB (ku s p)) []:=by
 refine zb.zp (fn:=Tryz.f290) Tryz.func290 rfl (uH ?_);refine ⟨_,_,(ze1 s p).frame rfl _,dd ?_⟩;refine ⟨fun h=>?_,fun h=>?_⟩
 ·refine dd ?_;have h':p.length<=s.length:=by simp [zaV] at h;exact h.1
  refine ⟨by omega,by omega,by omega,?_⟩;rw [List.take_length,toNat_cast];conv=>whnf
  have e:ku s p=(s.drop p.length,true):=by unfold ku;rw [if_pos h]
  rw [e];exact uI
 ·conv=>whnf
  have e:ku s p=(s,false):=by unfold ku;rw [if_neg (by simp [h])]
  rw [e];exact uI
theorem vS (s p:Str):zb Tryz.prog 253 [] [Tx s,Tx p] (tSB (ku s p)) []:=by
 refine zb.zp (fn:=Tryz.f253) Tryz.func253 rfl (uH ?_);refine ⟨_,_,(zgO s p).frame rfl _,dd ?_⟩;(repeat' (first | (refine ⟨fun _=>?_,fun _=>?_⟩ <;> (conv=>whnf)) | fail))
 all_goals
  rename_i h;exact ⟨.inl rfl,_,.refl _,congrArg (fun b=>some (C.tup [Tx (ku s p).1,Bo b])) h.symm⟩
def ze5 (s:Str):Bool:=if zaV s [42,46] then zaW (s.drop 2) else s == [42] || zaW s
theorem wi (s:Str) (hs:s.length < 4611686018427387904):zb Tryz.prog 213 [] [Tx s] (Bo (ze5 s)) []:=by
 refine zb.zp (fn:=Tryz.f213) Tryz.func213 rfl (uH ?_);refine ⟨_,_,(vS s [42,46]).frame rfl _,dd ?_⟩;refine ⟨fun h=>?_,fun h=>?_⟩
 ·have h1:zaV s [42,46]=true:=by
   cases e:zaV s [42,46] with
   | true=>rfl
   | false=>simp [ku,e] at h
  have e:ku s [42,46]=(s.drop 2,true):=by unfold ku;rw [if_pos h1];rfl
  rw [e];refine dd ?_;refine ⟨_,_,(zcf (s.drop 2) (by simp;omega)).frame rfl _,dd ?_⟩;(repeat' (first | (refine ⟨fun _=>?_,fun _=>?_⟩ <;> (conv=>whnf)) | fail))
  all_goals (exact ⟨.inl rfl,_,.refl _,uN (by simp_all [ze5])⟩)
 ·have h1:zaV s [42,46]=false:=by
   cases e:zaV s [42,46] with
   | false=>rfl
   | true=>simp [ku,e] at h
  have e:ku s [42,46]=(s,false):=by unfold ku;rw [if_neg (by simp [h1])]
  rw [e];refine dd ?_;refine ⟨fun h2=>?_,fun h2=>?_⟩
  ·refine dd ?_
   (exact ⟨.inl rfl,_,.refl _,uN (by simp_all [ze5])⟩)
  ·refine dd ?_;refine ⟨_,_,(zcf s hs).frame rfl _,dd ?_⟩;(repeat' (first | (refine ⟨fun _=>?_,fun _=>?_⟩ <;> (conv=>whnf)) | fail))
   all_goals (exact ⟨.inl rfl,_,.refl _,uN (by simp_all [ze5])⟩)
def zat (s:Str):Bool:=decide (0 < s.length) && decide (s.length<=32) && (match s with | c::_=>bI c == 47 | []=>false) && zgJ zax s 47
theorem zcp (s:Str) (hs:s.length < 4611686018427387904):zb Tryz.prog 214 [] [Tx s] (Bo (zat s)) []:=by
 refine zb.zp (fn:=Tryz.f214) Tryz.func214 rfl ?_;cases s with
 | nil=>
  conv=>whnf
  (repeat refine uC ?_)
  exact uI
 | cons c s=>
  conv=>whnf
  refine ⟨fun _=>uH ?_,fun h=>absurd h (by simp <;> omega)⟩;refine ⟨fun h1=>?_,fun h1=>?_⟩
  ·conv=>whnf
   refine ⟨by omega,c,rfl,uH ?_⟩;refine ⟨fun h2=>?_,fun h2=>?_⟩
   ·conv=>whnf
    refine ⟨_,_,(zgH).frame rfl _,dd ?_⟩;refine ⟨_,_,(zhb (c::s) 47 hs).frame rfl _,dd ?_⟩;have h1':s.length<=31:=by have:=h1;simp at this;omega
    have e:zat (c::s)=zgJ zax (c::s) 47:=by unfold zat;simp [h2];omega
    refine ⟨fun h3=>?_,fun h3=>?_⟩
    all_goals ((conv=>whnf);(exact ⟨.inl rfl,_,.refl _,uN (by rw [e,h3])⟩))
   ·conv=>whnf
    (exact ⟨.inl rfl,_,.refl _,uN (by simp [zat,h2])⟩)
  ·conv=>whnf
   (exact ⟨.inl rfl,_,.refl _,uN (by simp [zat];simp at h1;omega)⟩)
theorem zn3 {c:UInt8} {s:Str} (h:zaW (c::s)=true):zp4 (bI c)=true:=by
 unfold zaW at h;simp only [Bool.and_eq_true,List.all_eq_true] at h;by_cases e:c=46
 ·subst e;have:=h.2 [] (by simp [xc]);exact absurd this (by decide)
 ·have h1:(c == 46)=false:=by simpa using e
  cases h3:xc 46 s with
  | nil=>exact absurd h3 (zik _ s)
  | cons x xs=>
   have:=h.2 (c::x) (by simp [xc,h1,h3]);simp only [xm,Bool.and_eq_true] at this;exact this.1.2
theorem ztZ {s:Str} (h:zat s=true):ze5 s=false:=by
 match s,h with
 | [],h=>exact absurd h (by decide)
 | c::s,h=>
  have hc:c=47:=by
   simp only [zat,Bool.and_eq_true,beq_iff_eq] at h;exact UInt8.toNat_inj.1 (by have:=h.1.2;simp [bI] at this;show c.toNat=47;omega)
  subst hc;have h1:zaV (47::s) [42,46]=false:=by simp [zaV]
  have h2:zaW (47::s)=false:=by
   cases e:zaW (47::s) with
   | false=>rfl
   | true=>exact absurd (zn3 e) (by decide)
  simp [ze5,h1,h2]
end Go.Nam
namespace Go.Hos
open Go.Ab Go.Proofs Go.Hy Go.Gat Go.Nam
def zo0 (s t:Str):Bool:=decide (t.length<=s.length) && (s.drop (s.length - t.length) == t)
theorem zmt (s t:Str) (hs:s.length < 8000000000000):zb Tryz.prog 337 [] [Tx s,Tx t] (Bo (zo0 s t)) []:=by
 refine zb.zp (fn:=Tryz.f337) Tryz.func337 rfl (uH ?_);refine ⟨fun h=>?_,fun h=>?_⟩
 ·have h':t.length<=s.length:=by simp at h;omega
  have w:IntKind.i64.wrap ((s.length:Int) - (t.length:Int))=(s.length - t.length:Nat):=by rw [q0 (by omega) (by omega)];omega
  refine dd ?_;rw [w];refine ⟨by omega,by omega,by omega,?_⟩;rw [List.take_length,toNat_cast];refine dd ?_;(repeat' (first | (refine ⟨fun _=>?_,fun _=>?_⟩ <;> (conv=>whnf)) | fail))
  all_goals (exact ⟨.inl rfl,_,.refl _,uN (by simp_all [zo0])⟩)
 ·refine dd ?_
  (exact ⟨.inl rfl,_,.refl _,uN (by simp [zo0];simp at h;intros;omega)⟩)
theorem zhS (s t:Str) (hs:s.length < 8000000000000):zb Tryz.prog 336 [] [Tx s,Tx t] (Bo (zo0 s t)) []:=by
 refine zb.zp (fn:=Tryz.f336) Tryz.func336 rfl (uH ?_);refine ⟨_,_,(zmt s t hs).frame rfl _,dd ?_⟩;(repeat' (first | (refine ⟨fun _=>?_,fun _=>?_⟩ <;> (conv=>whnf)) | fail))
 all_goals (rename_i h;(exact ⟨.inl rfl,_,.refl _,uN (by exact h.symm)⟩))
def zkF (p h:Str):Bool:=match p with
 | c::t=>c == 42 && (t == [] || (decide (t.length < h.length) && zo0 h t))
 | []=>false
def wh (p h:Str):Bool:=ze5 p && zaW h && (p == h || zkF p h)
theorem ztL (c:UInt8) (t:Str):ku (c::t) [42]=if c == 42 then (t,true) else (c::t,false):=by
 unfold ku zaV;by_cases h:c=42
 ·subst h;simp
 ·simp [h]
theorem zr4:ze5 []=false:=by decide
theorem zjS (p h:Str) (hp:p.length < 8000000000000) (hh:h.length < 8000000000000):zb Tryz.prog 334 [] [Tx p,Tx h] (Bo (wh p h)) []:=by
 refine zb.zp (fn:=Tryz.f334) Tryz.func334 rfl (uH ?_);refine ⟨_,_,(wi p (by omega)).frame rfl _,dd ?_⟩;refine ⟨fun h1=>?_,fun h1=>?_⟩
 ·refine dd ?_;(repeat refine uC ?_)
  refine ⟨_,_,(zcf h (by omega)).frame rfl _,dd ?_⟩;refine ⟨fun h2=>?_,fun h2=>?_⟩
  ·refine dd ?_;(repeat refine uC ?_)
   refine ⟨_,_,(vS p [42]).frame rfl _,dd ?_⟩;cases p with
   | nil=>rw [zr4] at h1;cases h1
   | cons c t=>
    rw [ztL];by_cases hc:(c == 42)=true
    ·rw [if_pos hc];refine ⟨fun _=>dd ?_,fun h=>absurd h (by simp)⟩;refine ⟨fun h3=>?_,fun h3=>?_⟩
     ·refine dd ?_;(repeat refine uC ?_)
      (exact ⟨.inl rfl,_,.refl _,uN (by simp_all [wh])⟩)
     ·refine dd ?_;refine ⟨fun h4=>?_,fun h4=>?_⟩
      ·refine dd ?_;(repeat refine uC ?_)
       (exact ⟨.inl rfl,_,.refl _,uN (by simp_all [wh,zkF])⟩)
      ·refine dd ?_;refine ⟨fun h5=>?_,fun h5=>?_⟩
       ·refine dd ?_;refine ⟨_,_,(zhS h t hh).frame rfl _,dd ?_⟩;(repeat' (first | (refine ⟨fun _=>?_,fun _=>?_⟩ <;> (conv=>whnf)) | fail))
        all_goals (rename_i h6;(exact ⟨.inl rfl,_,.refl _,uN (by simp at hc;subst hc;simp at h3 h4 h5;simp [wh,zkF,h1,h2,h3,h4,h5,h6])⟩))
       ·refine dd ?_
        (exact ⟨.inl rfl,_,.refl _,uN (by simp at hc;subst hc;simp at h3 h4 h5;simp [wh,zkF,h1,h2,h3,h4];intros;omega)⟩)
    ·rw [if_neg hc];refine uG ?_;refine ⟨fun h3=>?_,fun h3=>?_⟩
     ·refine dd ?_;(repeat refine uC ?_)
      (exact ⟨.inl rfl,_,.refl _,uN (by simp_all [wh])⟩)
     ·refine dd ?_
      (exact ⟨.inl rfl,_,.refl _,uN (by simp at h3 hc;simp [wh,zkF,h1,h2,h3,hc])⟩)
  ·refine dd ?_;(repeat refine uC ?_)
   (exact ⟨.inl rfl,_,.refl _,uN (by simp_all [wh])⟩)
 ·refine dd ?_;(repeat refine uC ?_)
  (exact ⟨.inl rfl,_,.refl _,uN (by simp_all [wh])⟩)
def zbk (p t:Str):Bool:=zat p && zat t && zaV p t && (p.drop t.length == [] || zo0 t [47] || (p.drop t.length).head? == some 47)
theorem zsW {s:Str} {c:UInt8} (h:s[0]?= some c):(s.head? == some 47)=(bI c == 47):=by
 rw [List.head?_eq_getElem?,h];by_cases e:c=47
 ·subst e;rfl
 ·have h1:¬bI c=47:=fun h=>e (by
   unfold bI at h;have h':c.toNat=47:=by omega
   exact UInt8.toNat_inj.1 (by rw [h'];rfl))
  have h2:(c == 47)=false:=by simpa using e
  have h3:(bI c == 47)=false:=by simpa using h1
  rw [h3];simpa using e
theorem zkz (p t:Str) (hp:p.length < 8000000000000) (ht:t.length < 8000000000000):zb Tryz.prog 335 [] [Tx p,Tx t] (Bo (zbk p t)) []:=by
 refine zb.zp (fn:=Tryz.f335) Tryz.func335 rfl (uH ?_);refine ⟨_,_,(zcp p (by omega)).frame rfl _,dd ?_⟩;refine ⟨fun h1=>?_,fun h1=>?_⟩
 ·refine dd ?_;(repeat refine uC ?_)
  refine ⟨_,_,(zcp t (by omega)).frame rfl _,dd ?_⟩;refine ⟨fun h2=>?_,fun h2=>?_⟩
  ·refine dd ?_;(repeat refine uC ?_)
   refine ⟨_,_,(vS p t).frame rfl _,dd ?_⟩;by_cases h3:zaV p t=true
   ·have e:ku p t=(p.drop t.length,true):=by unfold ku;rw [if_pos h3]
    rw [e];refine ⟨fun _=>dd ?_,fun h=>absurd h (by simp)⟩;refine ⟨fun h4=>?_,fun h4=>?_⟩
    ·refine dd ?_;(repeat refine uC ?_)
     (exact ⟨.inl rfl,_,.refl _,uN (by simp_all [zbk])⟩)
    ·refine dd ?_;refine ⟨_,_,(zhS t [47] ht).frame rfl _,dd ?_⟩;refine ⟨fun h5=>?_,fun h5=>?_⟩
     ·refine dd ?_;(repeat refine uC ?_)
      (exact ⟨.inl rfl,_,.refl _,uN (by simp_all [zbk])⟩)
     ·refine dd ?_
      obtain ⟨c,hc⟩:∃ c,(p.drop t.length)[0]?= some c:=by
       cases hd:p.drop t.length with
       | nil=>rw [hd] at h4;simp at h4
       | cons c _=>exact ⟨c,rfl⟩
      refine ⟨by omega,c,hc,dd ?_⟩;(repeat' (first | (refine ⟨fun _=>?_,fun _=>?_⟩ <;> (conv=>whnf)) | fail))
      all_goals (rename_i h6;(exact ⟨.inl rfl,_,.refl _,uN (by simp only [zbk,h1,h2,h3,h4,h5,zsW hc];simpa using h6.symm)⟩))
   ·have e:ku p t=(p,false):=by unfold ku;rw [if_neg h3]
    rw [e];refine uG ?_
    (exact ⟨.inl rfl,_,.refl _,uN (by simp_all [zbk])⟩)
  ·refine dd ?_;(repeat refine uC ?_)
   (exact ⟨.inl rfl,_,.refl _,uN (by simp_all [zbk])⟩)
 ·refine dd ?_;(repeat refine uC ?_)
  (exact ⟨.inl rfl,_,.refl _,uN (by simp_all [zbk])⟩)
def yl (p:Str):Int:=if ze5 p then (if zaV p [42,46] then ((p.length - 2:Nat):Int) else if p == [42] then 0 else 100) else 0
theorem zdv (p:Str) (hp:p.length < 8000000000000):zb Tryz.prog 333 [] [Tx p] (I (yl p)) []:=by
 refine zb.zp (fn:=Tryz.f333) Tryz.func333 rfl (uH ?_);refine ⟨_,_,(wi p (by omega)).frame rfl _,dd ?_⟩;refine ⟨fun h1=>?_,fun h1=>?_⟩
 ·refine dd ?_;(repeat refine uC ?_)
  refine ⟨_,_,(vS p [42,46]).frame rfl _,dd ?_⟩;by_cases h3:zaV p [42,46]=true
  ·have e:ku p [42,46]=(p.drop 2,true):=by unfold ku;rw [if_pos h3];rfl
   have ew:yl p=((p.drop 2).length:Nat):=by simp [yl,h1,h3]
   rw [e,ew];refine ⟨fun _=>dd ?_,fun h=>absurd h (by simp)⟩;exact uI
  ·have e:ku p [42,46]=(p,false):=by unfold ku;rw [if_neg h3]
   rw [e];refine uG ?_;refine ⟨fun h4=>?_,fun h4=>?_⟩
   ·have ew:yl p=0:=by simp_all [yl]
    rw [ew];refine dd ?_;exact uI
   ·have ew:yl p=100:=by simp_all [yl]
    rw [ew];refine dd ?_;exact uI
 ·have ew:yl p=0:=by simp_all [yl]
  rw [ew];refine dd ?_;(repeat refine uC ?_)
  exact uI
def ze8 (p q p' q':Str):Bool:=if yl p=yl p' then decide (q'.length < q.length) else decide (yl p' < yl p)
theorem zh5 (p q p' q':Str) (hp:p.length < 8000000000000) (hq:p'.length < 8000000000000):zb Tryz.prog 329 [] [Tx p,Tx q,Tx p',Tx q'] (Bo (ze8 p q p' q')) []:=by
 refine zb.zp (fn:=Tryz.f329) Tryz.func329 rfl (uH ?_);refine ⟨_,_,(zdv p hp).frame rfl _,dd ?_⟩;refine ⟨_,_,(zdv p' hq).frame rfl _,dd ?_⟩;refine ⟨fun h1=>?_,fun h1=>?_⟩
 ·refine dd ?_;(repeat' (first | (refine ⟨fun _=>?_,fun _=>?_⟩ <;> (conv=>whnf)) | fail))
  all_goals (rename_i h2;(exact ⟨.inl rfl,_,.refl _,uN (by simp_all [ze8])⟩))
 ·refine dd ?_;(repeat' (first | (refine ⟨fun _=>?_,fun _=>?_⟩ <;> (conv=>whnf)) | fail))
  all_goals (rename_i h2;(exact ⟨.inl rfl,_,.refl _,uN (by simp_all [ze8])⟩))
end Go.Hos
namespace Go.Con
open Go.Ab Go.Proofs Go.Hy Go.Gat Go.Nam Go.Hos
theorem zc3 {α:Type} (l:List α) (p:α->Bool):decide ((match l.findIdx? p with | some i=>(i:Int) | none=> -1)≥0)=l.any p:=by
 cases h:l.findIdx? p with
 | none=>
  rw [List.findIdx?_eq_none_iff] at h
  symm
  simp only [Int.reduceNeg,ge_iff_le,Int.reduceLE,decide_false];rw [List.any_eq_false];intro x hx;simp [h x hx]
 | some i=>
  obtain ⟨h1,h2,_⟩:=List.findIdx?_eq_some_iff_getElem.1 h
  symm
  have:(0:Int)<=(i:Int):=Int.natCast_nonneg i;simp only [ge_iff_le,this,decide_true];rw [List.any_eq_true];exact ⟨_,List.getElem_mem h1,h2⟩
abbrev Cc (c:Clu):C:=.agg (jU c)
theorem zly {H:zk} {f:FuncId} {caps:List C} {l:List Clu} (p:Clu->Bool) (hcb:qm Tryz.prog f=true) (hp:∀ r ∈ l,zb Tryz.prog f H ([Cc r]++caps) (Bo (p r)) H) (hl:l.length < 4611686018427387904):
  zb Tryz.prog 289 H [lC l,.fn f [] caps] (I (match l.findIdx? p with | some i=>(i:Int) | none=> -1)) H:=by
 refine zb.zS (fn:=Tryz.f289) Tryz.func289 rfl (uH ?_)
 refine qf.inv (fun n t1 H1=>∃ k,k+n=l.length∧H1=H∧(∀ j,j < k->∀ r,l[j]?= some r->p r=false)∧
   t1=((lC l)::.fn f [] caps::.za::.za::I 0::.za::.za::I (l.map jU).length::I k::tY ([.za,.za]))) l.length ?_ ?_
 ·exact ⟨_,_,zo.mask [0,1,4,7,8] _ _,0,by simp,rfl,by simp,rfl⟩
 rintro n _ _ ⟨k,hk,rfl,hno,rfl⟩;conv=>whnf
 refine ⟨fun h=>?_,fun h=>?_⟩
 ·conv=>whnf
  have hlt:k < l.length:=by simpa using h
  refine ⟨by omega,jU l[k],by simp [hlt],uH ?_⟩;rw [hcb];refine ⟨_,_,hp _ (List.getElem_mem hlt),uH ?_⟩;refine ⟨fun h2=>?_,fun h2=>?_⟩
  ·conv=>whnf
   refine .inr ⟨by simp,uH ?_⟩;refine ⟨.inl rfl,_,.refl _,rfl,?_⟩
   have:l.findIdx? p=some k:=by
    rw [List.findIdx?_eq_some_iff_getElem];refine ⟨hlt,h2,fun j hj=>?_⟩;simp [hno j hj _ (List.getElem?_eq_getElem (by omega))]
   rw [this]
   rfl
  ·conv=>whnf
   refine .inl ⟨rfl,n - 1,_,_,by omega,zo.mask [0,1,4,7,8] _ _,k+1,by omega,rfl,?_,?_⟩
   ·intro j hj r hr;by_cases hjk:j=k
    ·subst hjk;rw [List.getElem?_eq_getElem hlt] at hr;cases hr
     exact h2
    ·exact hno j (by omega) r hr
   ·rw [zA (by omega)];rfl
 ·conv=>whnf
  refine .inr ⟨by simp,uH ?_⟩;refine ⟨.inl rfl,_,.refl _,rfl,?_⟩
  have:l.findIdx? p=none:=by
   rw [List.findIdx?_eq_none_iff];intro x hx;obtain ⟨j,hj⟩:=List.mem_iff_getElem?.1 hx;have hjl:=(List.getElem?_eq_some_iff.1 hj).1;have:¬k < l.length:=by simpa using h
   exact hno j (by omega) x hj
  rw [this]
  rfl
theorem zk2 {H:zk} {f:FuncId} {caps:List C} {l:List Clu} (p:Clu->Bool) (hcb:qm Tryz.prog f=true) (hp:∀ r ∈ l,zb Tryz.prog f H ([Cc r]++caps) (Bo (p r)) H) (hl:l.length < 4611686018427387904):
  zb Tryz.prog 251 H [lC l,.fn f [] caps] (Bo (l.any p)) H:=by
 refine zb.zS (fn:=Tryz.f251) Tryz.func251 rfl (uH ?_);refine ⟨_,_,zly p hcb hp hl,dd ?_⟩;rw [show decide ((match l.findIdx? p with | some i=>((i:Nat):Int) | none=>(-1:Int))≥(0:Int))=l.any p from zc3 l p];refine ⟨fun h=>?_,fun h=>?_⟩ <;> rw [h]
 ·refine dd ?_;exact uJ
 ·refine dd ?_;exact uJ
theorem ziF (s:Str) (c:Clu):zb Tryz.prog 252 [⟨1,9,1,[[Tx s]],0⟩] [Cc c,.ref 0 [] 1 0 0] (Bo (c.name == s)) [⟨1,9,1,[[Tx s]],0⟩]:=by
 refine zb.zS (fn:=Tryz.f252) Tryz.func252 rfl (uH ?_);refine ⟨fun h=>?_,fun h=>?_⟩ <;> rw [h]
 ·conv=>whnf
  exact ⟨.inl rfl,_,zo.keep [3] 1 _ _ rfl rfl rfl rfl,rfl,rfl⟩
 ·conv=>whnf
  exact ⟨.inl rfl,_,zo.keep [3] 1 _ _ rfl rfl rfl rfl,rfl,rfl⟩
def zaj (l:List Clu) (s:Str):Bool:=l.any fun c=>c.name == s
theorem zey (l:List Clu) (s:Str) (hl:l.length < 4611686018427387904):zb Tryz.prog 212 [] [lC l,Tx s] (Bo (zaj l s)) []:=by
 refine zb.zp (fn:=Tryz.f212) Tryz.func212 rfl (uH ?_);refine ⟨_,_,zk2 (fun c=>c.name == s) (by kernel_rfl) (fun r _=>ziF s r) hl,dd ?_⟩;refine ⟨fun h=>?_,fun h=>?_⟩
 ·refine dd ?_
  (exact ⟨.inl rfl,_,.refl _,uN (by exact h.symm)⟩)
 ·refine dd ?_
  (exact ⟨.inl rfl,_,.refl _,uN (by exact h.symm)⟩)
theorem xK (n a b:Int):zb Tryz.prog 211 [] [I n,I a,I b] (Bo (decide (a<=n) && decide (n<=b))) []:=by
 refine zb.zp (fn:=Tryz.f211) Tryz.func211 rfl (uH ?_);(repeat' (first | (refine ⟨fun _=>?_,fun _=>?_⟩ <;> (conv=>whnf)) | fail))
 all_goals (exact ⟨.inl rfl,_,.refl _,uN (by simp_all <;> omega)⟩)
def yw (l:List Str) (s:Str):Int:=match l.findIdx? (fun x=>x == s) with | some i=>(i:Int) | none=> -1
theorem zlE (l:List Str) (s:Str) (hl:l.length < 4611686018427387904):zb Tryz.prog 172 [] [lT l,Tx s] (I (yw l s)) []:=by
 have hlm:(l.map ql).length=l.length:=List.length_map ..;refine zb.zp (fn:=Tryz.f172) Tryz.func172 rfl (uH ?_);rw [hlm];refine qf.seq l.length (fun k=>((lT l)::(Tx s)::.za::.za::I 0::.za::.za::I l.length::I k::tY ([.za,.za]))) (fun k=>[]) (fun k=>∀ j,(h:j < l.length)->j < k->(l[j] == s)=false) ?_ (by simp) (fun k hk hr=>?_) (fun hr=>?_)
 ·exact cC
 ·have hg:(l.map ql)[k]?= some (ql l[k]):=by rw [List.getElem?_map,List.getElem?_eq_getElem hk];rfl
  conv=>whnf
  refine ⟨fun _=>dd ?_,fun h=>absurd h (by simp;omega)⟩;refine ⟨by omega,_,by rw [toNat_cast];exact hg,dd ?_⟩;refine ⟨fun h2=>?_,fun h2=>?_⟩
  ·refine dd ?_;refine .inr ⟨by simp,uH ?_⟩
   have e:yw l s=k:=by
    unfold yw
    have:l.findIdx? (fun x=>x == s)=some k:=by
     rw [List.findIdx?_eq_some_iff_getElem];refine ⟨hk,?_,fun j hj=>by simp only [hr j (by omega) hj];decide⟩;simp at h2;simp [h2]
    rw [this]
   rw [e];exact uI
  ·refine dd ?_;refine .inl ⟨rfl,?_,fun j hj hjk=>?_⟩
   ·rw [zA (by omega)];exact cE 0
   ·by_cases e:j=k
    ·subst e;simp at h2 ⊢;exact fun h=>h2 h.symm
    ·exact hr j hj (by omega)
 ·conv=>whnf
  refine ⟨fun h=>absurd h (by simp),fun _=>dd ?_⟩;refine ⟨by simp,uH ?_⟩
  have e:yw l s= -1:=by
   unfold yw
   have:l.findIdx? (fun x=>x == s)=none:=by
    rw [List.findIdx?_eq_none_iff];intro x hx;obtain ⟨j,hj,rfl⟩:=List.mem_iff_getElem.1 hx;exact hr j hj hj
   rw [this]
  rw [e];exact uI
theorem zp0 (l:List Str) (s:Str):decide (yw l s≥0)=l.any (fun x=>x == s):=zc3 l _
theorem wV (l:List Str) (s:Str) (hl:l.length < 4611686018427387904):zb Tryz.prog 100 [] [lT l,Tx s] (Bo (l.any fun x=>x == s)) []:=by
 refine zb.zp (fn:=Tryz.f100) Tryz.func100 rfl (uH ?_);refine ⟨_,_,(zlE l s hl).frame rfl _,dd ?_⟩;rw [zp0];refine ⟨fun h=>?_,fun h=>?_⟩
 ·refine dd ?_
  (exact ⟨.inl rfl,_,.refl _,uN (by exact h.symm)⟩)
 ·refine dd ?_
  (exact ⟨.inl rfl,_,.refl _,uN (by exact h.symm)⟩)
end Go.Con
