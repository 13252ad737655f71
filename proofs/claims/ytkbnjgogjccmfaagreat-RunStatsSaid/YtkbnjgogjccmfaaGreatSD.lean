import Derived.Lib.Bytealg
import Derived.WalkKit
import Derived.IntWalk
import Derived.Test.YtkbnjgogjccmfaaGreatSC
import Derived.Test.YtkbnjgogjccmfaaGreatSJ
import Derived.Test.YtkbnjgogjccmfaaGreatProg
set_option linter.all false
set_option maxRecDepth 100000
set_option maxHeartbeats 4000000
namespace Go.Gat
open Go.Ab Go.Proofs Tryz Go.Hy
def C0 (n:Int):Bool:=decide (97<=n) && decide (n<=122)
def mM (n:Int):Bool:=C0 n || (decide (48<=n) && decide (n<=57)) || (n == 45)
abbrev By (n:Int):C:=.v (.int .u8 n)
def Kg (n:Int):to 82 [] [By n] (Bo (C0 n)) []:=by
 refine ab func82 ?_;(repeat' (first | (refine ⟨fun _=>?_,fun _=>?_⟩ <;> (conv=>whnf)) | fail))
 all_goals (exact ⟨.inl rfl,_,.refl _,uN (by simp_all [C0] <;> (intros;omega))⟩)
def Qh (n:Int):to 109 [] [By n] (Bo (mM n)) []:=by
 refine ab func109 ?_;refine ah (Kg n) ?_;(repeat' (first | (refine ⟨fun _=>?_,fun _=>?_⟩ <;> (conv=>whnf)) | fail))
 all_goals (exact ⟨.inl rfl,_,.refl _,uN (by simp_all [mM] <;> (intros;omega))⟩)
def JO:to 83 [] [] (.agg [.fn 109 [] []]) []:=by
 refine ab func83 ?_;exact uI
abbrev bI (c:UInt8):Int:=(c.toNat:Int)
def nV (p:Int->Bool) (s:ec) (other:Int):Bool:=s.all fun c=>bI c == other || p (bI c)
def Qi {p:Int->Bool} {s:ec} {other:Int} {k:Nat} (hk:k < s.length) (h1:(bI s[k] == other)=false) (h2:p (bI s[k])=false):nV p s other=false:=by
 unfold nV;rw [rT];exact ⟨s[k],gS hk,by simp [h1,h2]⟩
def Ku (s:ec) (other:Int) (hs:s.length < 4611686018427387904):to 84 [] [.agg [.fn 109 [] []],Tx s,By other] (Bo (nV mM s other)) []:=by
 refine ab func84 ?_;refine zW.seq s.length (fun k=>(.agg [.fn 109 [] []]::(Tx s)::(By other)::.ref 0 [] 1 0 0::.za::.za::Bo false::.za::.za::I s.length::I k::hZ (hZ ([.za])))) (fun k=>[⟨1,185,1,[[.fn 109 [] []]],0⟩]) (fun k=>∀ j,(h:j < s.length)->j < k->(bI s[j] == other || mM (bI s[j]))=true) ?_ aj (fun k hk hr=>?_) (fun hr=>?_)
 ·exact cC
 ·conv=>whnf
  refine ⟨fun h=>uH ?_,fun h=>absurd h aA⟩;refine uE ?_;refine ⟨aw,s[k],by simp [hk],uH ?_⟩;refine ⟨fun h1=>?_,fun h1=>?_⟩
  ·refine dd ?_;refine ⟨aw,s[k],by simp [hk],dd ?_⟩;refine ah (Qh (bI s[k])) ?_;refine ⟨fun h2=>?_,fun h2=>?_⟩
   ·refine dd ?_;refine .inl ⟨rfl,?_,?_⟩
    ·exact dg
    ·intro j hj hjk;by_cases e:j=k
     ·subst e;simp [h2]
     ·exact hr j hj aw
   ·refine dd ?_;refine .inr ⟨aj,uH ?_⟩
    (exact ⟨.inl rfl,_,.refl _,uN (by exact (Qi hk tH h2).symm)⟩)
  ·refine dd ?_;refine .inl ⟨rfl,?_,?_⟩
   ·exact dg
   ·intro j hj hjk;by_cases e:j=k
    ·subst e;simp at h1;simp [h1]
    ·exact hr j hj aw
 ·conv=>whnf
  refine ⟨fun h=>absurd h aj,fun h=>uH ?_⟩;refine ⟨aj,uH ?_⟩
  have e:nV mM s other=true:=by
   unfold nV;rw [dZ];intro x hx;obtain ⟨j,hj,rfl⟩:=pt.1 hx;exact hr j hj hj
  exact ⟨.inl rfl,_,.refl _,by rw [e];rfl⟩
def xJ (s:ec):Bool:=decide (0 < s.length) && decide (s.length<=16) && (match s with | c::_=>C0 (bI c) | []=>false) && s.all fun c=>mM (bI c)
def Rn (s:ec):nV mM s 45=s.all fun c=>mM (bI c):=by
 unfold nV
 congr 1
 funext c
 cases h:(bI c == 45) with
 | false=>rfl
 | true=>simp at h;simp [mM,h]
def yF (s:ec) (hs:s.length < 4611686018427387904):to 58 [] [Tx s] (Bo (xJ s)) []:=by
 refine zb.zo (fn:=f58) func58 rfl ?_;cases s with
 | nil=>
  conv=>whnf
  refine td ?_
  exact uI
 | cons c s=>
  conv=>whnf
  refine ⟨fun _=>uH ?_,fun h=>absurd h (by simp <;> omega)⟩;refine ⟨fun h1=>?_,fun h1=>?_⟩
  ·conv=>whnf
   refine ⟨aw,c,rfl,uH ?_⟩;refine ah (Kg (bI c)) ?_;refine ⟨fun h2=>?_,fun h2=>?_⟩
   ·conv=>whnf
    refine ah JO ?_;refine ah (Ku (c::s) 45 hs) ?_;have h1':s.length<=15:=by have:=h1;exact cQ
    have e:xJ (c::s)=nV mM (c::s) 45:=by rw [Rn];unfold xJ;simp [h2];omega
    refine ⟨fun h3=>?_,fun h3=>?_⟩
    all_goals ((conv=>whnf);(exact ⟨.inl rfl,_,.refl _,uN (by rw [e,h3])⟩))
   ·conv=>whnf
    (exact ⟨.inl rfl,_,.refl _,uN (by simp [xJ,h2])⟩)
  ·conv=>whnf
   (exact ⟨.inl rfl,_,.refl _,uN (by simp [xJ];simp at h1;omega)⟩)
end Go.Gat
namespace Go.Nam
open Go.Ab Go.Proofs Tryz Go.Hy Go.Gat Go.RowKit
def y6 (b:UInt8) (s:ec):ec:=s.takeWhile (· != b)
def nQ (b:UInt8) (s:ec):ec:=(s.dropWhile (· != b)).drop 1
def xA (b:UInt8):ec->List ec
 | []=>[[]]
 | c::s=>if c == b then []::xA b s else match xA b s with
  | p::ps=>(c::p)::ps
  | []=>[[c]]
def Gk (b:UInt8) (s:ec):xA b s≠[]:=by
 cases s with
 | nil=>simp [xA]
 | cons c s=>unfold xA;split;simp;split <;> simp
def Dk {b:UInt8}:∀ {s:ec},b ∉ s->xA b s=[s]
 | [],_=>rfl
 | c::s,h=>by
  have h1:(c == b)=false:=by simp;intro e;subst e;exact h (pD ..)
  have h2:=Dk (s:=s) fun e=>h (px _ e)
  simp [xA,h1,h2]
def BT {b:UInt8}:∀ {s:ec},b ∈ s->xA b s=y6 b s::xA b (nQ b s)
 | [],h=>by simp at h
 | c::s,h=>by
  by_cases e:c=b
  ·subst e;simp [xA,y6,nQ]
  ·have h1:(c == b)=false:=by simpa using e
   have h2:=BT (s:=s) bJ;have h3:(c != b)=true:=aq e
   simp only [xA,h1,rZ,if_false,h2,y6,nQ,sI,List.dropWhile_cons,h3,if_true]
def Lq {b:UInt8}:∀ {s:ec},b ∉ s->Lib.indexByte s b= -1
 | [],_=>rfl
 | c::s,h=>by
  have h1:(c == b)=false:=by simp;intro e;subst e;exact h (pD ..)
  have h2:=Lq (s:=s) fun e=>h (px _ e)
  simp [Lib.indexByte,h1,h2]
def F0 {b:UInt8}:∀ {s:ec},b ∈ s->Lib.indexByte s b=((y6 b s).length:Int)
 | [],h=>by simp at h
 | c::s,h=>by
  by_cases e:c=b
  ·subst e;simp [Lib.indexByte,y6]
  ·have h1:(c == b)=false:=by simpa using e
   have h3:(c != b)=true:=aq e
   have h2:=F0 (s:=s) bJ;have h4:((y6 b s).length == (-1:Int))=false:=by rw [beq_eq_false_iff_ne];omega
   simp only [Lib.indexByte,h1,rZ,if_false,h2,y6,sI,h3,if_true,pR];rw [show ((↑(List.takeWhile (fun x=>x != b) s).length:Int) == -1)=false from h4];simp
def head_take (b:UInt8) (s:ec):s.take (y6 b s).length=y6 b s:=by
 induction s with
 | nil=>rfl
 | cons c s ih=>
  by_cases e:c=b
  ·subst e;simp [y6]
  ·have h3:(c != b)=true:=by simpa using e
   simp only [y6,sI,h3,if_true,pR,List.take_succ_cons];rw [show List.take (List.takeWhile (fun x=>x != b) s).length s=y6 b s from ih];rfl
def tail_drop (b:UInt8) (s:ec):s.drop ((y6 b s).length+1)=nQ b s:=by
 induction s with
 | nil=>rfl
 | cons c s ih=>
  by_cases e:c=b
  ·subst e;simp [y6,nQ]
  ·have h3:(c != b)=true:=by simpa using e
   simp only [y6,nQ,sI,List.dropWhile_cons,h3,if_true,pR,List.drop_succ_cons];exact ih
def Gq {b:UInt8} {s:ec} (h:b ∈ s):(y6 b s).length < s.length:=by
 have h1:=tail_drop b s;have h2:s.length≠0:=by intro e;rw [rb.1 e] at h;simp at h
 have h3:(y6 b s).length<=s.length:=List.Sublist.length_le (List.takeWhile_sublist _);rcases rz (y6 b s).length s.length with h4 | h4
 ·exact h4
 ·have h5:=head_take b s;rw [rM h4] at h5;have:b ∈ y6 b s:=by rw [<- h5];exact h
  have:=List.all_takeWhile (l:=s) (p:=(· != b));rw [dZ] at this;have:=this b (by assumption);simp at this
def xV (b:UInt8) (s:ec):Nat->ec
 | 0=>s
 | k+1=>nQ b (xV b s k)
def CA {b:UInt8}:∀ {k:Nat} {s:ec},k+1 < (xA b s).length->b ∈ xV b s k∧(xA b s)[k]?= some (y6 b (xV b s k))∧xA b (xV b s (k+1))=(xA b s).drop (k+1)
 | 0,s,h=>by
  have hb:b ∈ s:=by
   rcases Classical.em (b ∈ s) with h1 | h1
   ·exact h1
   ·rw [Dk h1] at h;simp at h
  exact ⟨hb,by rw [BT hb];rfl,by rw [BT hb];rfl⟩
 | k+1,s,h=>by
  obtain ⟨h1,h2,h3⟩:=CA (b:=b) (k:=k) (s:=s) aw
  have hb:b ∈ xV b s (k+1):=by
   rcases Classical.em (b ∈ xV b s (k+1)) with h4 | h4
   ·exact h4
   ·rw [Dk h4] at h3;have:=pS List.length h3;exact cQ
  have h5:=BT hb;rw [h3] at h5;refine ⟨hb,?_,?_⟩
  ·have:=pS (fun l=>l[0]?) h5;simpa using this
  ·have:=pS (fun l=>l.drop 1) h5;simp at this;show xA b (nQ b (xV b s (k+1)))=_;rw [<- this]
def K4 {b:UInt8} {k:Nat} {s:ec} (h:k+1=(xA b s).length):b ∉ xV b s k∧(xA b s)[k]?= some (xV b s k):=by
 have h3:xA b (xV b s k)=(xA b s).drop k:=by
  cases k with
  | zero=>rfl
  | succ k=>exact (CA (b:=b) (s:=s) (k:=k) aw).2.2
 have h4:b ∉ xV b s k:=by
  intro hb;rw [BT hb] at h3;have:=pS List.length h3
  have h5:(xA b (nQ b (xV b s k))).length≠0:=by
   intro e;exact Gk b _ (rb.1 e)
  exact cQ
 refine ⟨h4,?_⟩;rw [Dk h4] at h3;have:=pS (fun l=>l[0]?) h3;simpa using this.symm
def Ch (b:UInt8) (s:ec):∀ k,(xV b s k).length<=s.length
 | 0=>gf _
 | k+1=>by
  have h1:((xV b s k).dropWhile (· != b)).length<=(xV b s k).length:=List.Sublist.length_le (List.dropWhile_sublist _);have:=Ch b s k;simp only [xV,nQ,List.length_drop];omega
def RU (s:ByteArray) (c:Int) (w:World):Calls prog 199 #[.string s,.int .u8 c] w fun e w'=>e=.returned (.int .i64 (Lib.indexByte s.data.toList c.toNat.toUInt8))∧w'=w:=by
 go_enter func199,Tryz.ntmps199
 go_wp2
 rw [run_callFunc_extern func202 au au au (e:=Extern.BytealgIndexByte.indexByte) au,Lib.run_indexByteString];simp only [Result.andThen];rw [Oper.upon_value]
 go_wp2
 go_ret
 exact dJ
def QV (s:ec) (b:UInt8):to 199 [] [Tx s,By (bI b)] (I (Lib.indexByte s b)) []:=by
 have e:(bI b).toNat.toUInt8=b:=by simp [bI]
 refine Dx [] (fun w=>?_) Hk fun E=>.v _ rfl
 have:=RU ⟨⟨s⟩⟩ (bI b) w;rw [e] at this;exact dB
def BZ (s:ec) (b:UInt8):to 193 [] [Tx s,By (bI b)] (I (Lib.indexByte s b)) []:=by
 refine ab func193 ?_;refine ah (QV s b) ?_;exact uI
end Go.Nam
namespace Go.Nam
open Go.Ab Go.Proofs Tryz Go.Hy Go.Gat
def PK (X:Ob) (s:ec) (b:UInt8):to 173 [X] [Tx s,By (bI b)] (.fn 192 [] [.ref 1 [] 1 0 0,.ref 2 [] 1 0 0]) [X,⟨1,9,1,[[Tx s]],0⟩,⟨1,5,1,[[By (bI b)]],0⟩]:=by
 refine zb.zT (fn:=f173) func173 rfl (uH ?_);exact uJ
def IA (l:Nat) (s:ec) (b:UInt8) (hs:s.length < 4611686018427387904) (X:Nat->Ob) (Y:Nat->List Ob) (j:Nat) (g:Bool) (hj:j < (xA b s).length) (hend:g=false∨j+1=(xA b s).length)
  (hy:∀ k p,k < j->(xA b s)[k]?= some p->jy prog l (X k::⟨1,9,1,[[Tx (xV b s k)]],0⟩::⟨1,5,1,[[By (bI b)]],0⟩::Y k) [Tx p] (Bo true) (X (k+1)::⟨1,9,1,[[Tx (xV b s k)]],0⟩::⟨1,5,1,[[By (bI b)]],0⟩::Y (k+1)))
  (hz:∀ p,(xA b s)[j]?= some p->jy prog l (X j::⟨1,9,1,[[Tx (xV b s j)]],0⟩::⟨1,5,1,[[By (bI b)]],0⟩::Y j) [Tx p] (Bo g) (X (j+1)::⟨1,9,1,[[Tx (xV b s j)]],0⟩::⟨1,5,1,[[By (bI b)]],0⟩::Y (j+1))):
  to 192 (X 0::⟨1,9,1,[[Tx (xV b s 0)]],0⟩::⟨1,5,1,[[By (bI b)]],0⟩::Y 0) [.v (.func (.yield l) #[] #[]),.ref 1 [] 1 0 0,.ref 2 [] 1 0 0] (.u7 []) (X (j+1)::⟨1,9,1,[[Tx (xV b s j)]],0⟩::⟨1,5,1,[[By (bI b)]],0⟩::Y (j+1)):=by
 refine zb.zT (fn:=f192) func192 rfl (uH ?_);refine zW.seq j (fun k=>(.v (.func (.yield l) #[] #[])::.ref 1 [] 1 0 0::.ref 2 [] 1 0 0::hZ (hZ ([.za,.za,.za,.za])))) (fun k=>X k::⟨1,9,1,[[Tx (xV b s k)]],0⟩::⟨1,5,1,[[By (bI b)]],0⟩::Y k) (fun _=>True) ?_ trivial (fun k hk _=>?_) (fun _=>?_)
 ·exact cC
 ·obtain ⟨h1,h2,h3⟩:=CA (b:=b) (s:=s) (k:=k) aw;have h4:=Ch b s k;have h5:=Gq h1;conv=>whnf
  refine ⟨_,_,(BZ (xV b s k) b).frame rfl _,?_⟩;rw [F0 h1];conv=>whnf
  refine ⟨fun h=>absurd h aj,fun _=>dd ?_⟩;refine ⟨aw,aw,aA,?_⟩;rw [toNat_cast,sr,head_take];conv=>whnf
  refine ⟨_,_,hy k _ hk h2,dd ?_⟩;refine td ?_
  rw [zu aw,toNat_cast];refine ⟨aw,uH ?_⟩;refine ⟨aw,aw,?_⟩;rw [gX,tail_drop];conv=>whnf
  exact .inl ⟨rfl,cC,trivial⟩
 ·have h4:=Ch b s j;by_cases hl:j+1=(xA b s).length
  ·obtain ⟨h1,h2⟩:=K4 hl;conv=>whnf
   refine ⟨_,_,(BZ (xV b s j) b).frame rfl _,?_⟩;rw [Lq h1];conv=>whnf
   refine ⟨fun _=>dd ?_,fun h=>absurd h aj⟩;refine ⟨_,_,hz _ h2,uH ?_⟩;refine ⟨fun _=>?_,fun _=>?_⟩ <;>
   ·conv=>whnf
    exact ⟨aj,.inl rfl,_,.refl _,rfl,rfl⟩
  ·obtain ⟨h1,h2,h3⟩:=CA (b:=b) (s:=s) (k:=j) aw;have h5:=Gq h1;have hg:g=false:=by rcases hend with h | h;exact h;exact absurd h hl
   subst hg;conv=>whnf
   refine ⟨_,_,(BZ (xV b s j) b).frame rfl _,?_⟩;rw [F0 h1];conv=>whnf
   refine ⟨fun h=>absurd h aj,fun _=>dd ?_⟩;refine ⟨aw,aw,aA,?_⟩;rw [toNat_cast,sr,head_take];conv=>whnf
   refine ⟨_,_,hz _ h2,dd ?_⟩;refine td ?_
   exact ⟨aj,.inl rfl,_,.refl _,rfl,rfl⟩
def ng (s:ec):Bool:=decide (s.length<=32) && (xA 46 s).all xJ
def UP (b:UInt8) (s:ec) (k:Nat) (p:ec) (h:(xA b s)[k]?= some p):p.length<=s.length:=by
 have hk:=(dP.1 h).1;by_cases hl:k+1=(xA b s).length
 ·obtain ⟨h1,h2⟩:=K4 hl;rw [h2] at h;cases h;exact Ch b s k
 ·obtain ⟨h1,h2,h3⟩:=CA (b:=b) (s:=s) (k:=k) aw;rw [h2] at h;cases h
  have:=Gq h1;have:=Ch b s k;omega
def Fi (s:ec) (hs:s.length < 4611686018427387904):to 138 [] [Tx s] (Bo (ng s)) []:=by
 refine ab func138 ?_;refine ⟨fun h=>?_,fun h=>?_⟩
 ·refine dd ?_
  (exact ⟨.inl rfl,_,.refl _,uN (by simp [ng];simp at h;omega)⟩)
 ·refine dd ?_;refine ⟨_,_,PK _ s 46,uH ?_⟩;have hn:=Gk 46 s
  have hlen:0 < (xA 46 s).length:=by
   rcases r6 (xA 46 s).length with e | e
   ·exact absurd (rb.1 e) hn
   ·exact e
  have hple:∀ (k:Nat) (p:ec),(xA 46 s)[k]?= some p->p.length < 4611686018427387904:=fun k p hp=>by have:=UP 46 s k p hp;omega
  refine ⟨_,.refl _,?_⟩;by_cases z8:(xA 46 s).all xJ=true
  ·have hname:∀ (k:Nat) p,(xA 46 s)[k]?= some p->xJ p=true:=fun k p hp=>dZ.1 z8 p (dS hp)
   refine ⟨.normal,_,[⟨1,4,1,[[Bo false]],0⟩],fun l r h1 h2 h3 h4 h5=>⟨_,_,r,IA l s 46 hs (fun _=>⟨1,4,1,[[Bo false]],0⟩) (fun _=>[ft l r _]) ((xA 46 s).length - 1) true aw (.inr aw) (fun k p hk hp=>?_) (fun p hp=>?_),
    rfl,aZ,rfl,gF _,ba,zp.low 1 _ _ rfl rfl rfl⟩,?_⟩
   ·refine jy.zT (id:=3) rfl h1 h2 h3 h4 h5 rfl rfl rfl ?_;conv=>whnf
    refine ⟨rfl,rfl,uH ?_⟩;refine ah (yF p (hple _ _ hp)) ?_;refine ⟨fun _=>dd ?_,fun h=>absurd ((hname _ _ hp).symm.trans h:true=false) ar⟩;exact cS
   ·refine jy.zT (id:=3) rfl h1 h2 h3 h4 h5 rfl rfl rfl ?_;conv=>whnf
    refine ⟨rfl,rfl,uH ?_⟩;refine ah (yF p (hple _ _ hp)) ?_;refine ⟨fun _=>dd ?_,fun h=>absurd ((hname _ _ hp).symm.trans h:true=false) ar⟩;exact cS
   ·conv=>whnf
    (exact ⟨.inl rfl,_,.refl _,uN (by simp [ng,z8];simp at h;omega)⟩)
  ·obtain ⟨j,hj⟩:∃ j,(xA 46 s).findIdx? (fun p=>!xJ p)=some j:=by
    cases e:(xA 46 s).findIdx? (fun p=>!xJ p) with
    | some j=>exact ⟨j,rfl⟩
    | none=>
     exfalso
     rw [gG] at e;exact z8 (dZ.2 fun x hx=>by simpa using e x hx)
   rw [gD] at hj;obtain ⟨hjl,hj1,hj2⟩:=hj;have z8:(xA 46 s).all xJ=false:=aq z8
   refine ⟨.ret,_,[⟨1,4,1,[[Bo false]],0⟩],fun l r h1 h2 h3 h4 h5=>⟨_,_,left r .ret,IA l s 46 hs (fun _=>⟨1,4,1,[[Bo false]],0⟩) (fun k=>[ft l (if k < j+1 then r else left r .ret) _]) j false hjl (.inl rfl) (fun k p hk hp=>?_) (fun p hp=>?_),
    pS (fun x=>some (ft l x _)) (dR (Nat.lt_irrefl (j+1))),aj,rfl,gF _,trivial,zp.low 1 _ _ rfl rfl rfl⟩,?_⟩
   ·have e1:k < j+1:=by omega
    have e2:k+1 < j+1:=aw
    simp only [dU e1,dU e2];refine jy.zT (id:=3) rfl h1 h2 h3 h4 h5 rfl rfl rfl (uH ?_);refine ⟨rfl,rfl,uH ?_⟩;refine ah (yF p (hple _ _ hp)) ?_
    have hname:xJ p=true:=by
     have h6:=hj2 k hk;rw [dQ aw] at hp;cases hp
     simpa using h6
    refine ⟨fun _=>dd ?_,fun h=>absurd ((hname).symm.trans h:true=false) ar⟩;exact cS
   ·simp only [dU (Nat.lt_succ_self j),dR (Nat.lt_irrefl (j+1))];refine jy.zT (id:=3) rfl h1 h2 h3 h4 h5 rfl rfl rfl (uH ?_);refine ⟨rfl,rfl,uH ?_⟩;refine ah (yF p (hple _ _ hp)) ?_
    have hname:xJ p=false:=by
     rw [dQ hjl] at hp;cases hp
     simpa using hj1
    refine ⟨fun h=>absurd ((hname).symm.trans h:false=true) ar,fun _=>dd ?_⟩;exact ⟨_,_,.refl _,rfl,.inr ⟨rfl,.inl ⟨rfl,rfl⟩⟩⟩
   ·conv=>whnf
    (exact ⟨.inl rfl,_,.refl _,uN (by simp [ng,z8])⟩)
abbrev pk (b:UInt8) (s:ec) (k:Nat):List (List C):=((xA b s).take k).map qm
def iH (s p:ec):Bool:=decide (p.length<=s.length) && (s.take p.length == p)
def NP (s p:ec):to 191 [] [Tx s,Tx p] (Bo (iH s p)) []:=by
 refine ab func191 ?_;refine ⟨fun h=>?_,fun h=>?_⟩
 ·refine dd ?_;refine ⟨aw,aw,by simp at h;omega,?_⟩;rw [toNat_cast,sr];conv=>whnf
  (repeat' (first | (refine ⟨fun _=>?_,fun _=>?_⟩ <;> (conv=>whnf)) | fail))
  all_goals (exact ⟨.inl rfl,_,.refl _,uN (by simp_all [iH])⟩)
 ·conv=>whnf
  (exact ⟨.inl rfl,_,.refl _,uN (by simp_all [iH];intros;omega)⟩)
abbrev Ih (r:ec × Bool):C:=.u7 [Tx r.1,Bo r.2]
def wg (s p:ec):ec × Bool:=if iH s p then (s.drop p.length,true) else (s,false)
def Of (s p:ec):to 172 [] [Tx s,Tx p] (Ih (wg s p)) []:=by
 refine ab func172 ?_;refine ah (NP s p) ?_;refine ⟨fun h=>?_,fun h=>?_⟩
 ·refine dd ?_;have h':p.length<=s.length:=by simp [iH] at h;exact h.1
  refine ⟨aw,aw,aw,?_⟩;rw [gX,toNat_cast];conv=>whnf
  have e:wg s p=(s.drop p.length,true):=by unfold wg;rw [dU h]
  rw [e];exact uI
 ·conv=>whnf
  have e:wg s p=(s,false):=by unfold wg;rw [dR aH]
  rw [e];exact uI
def kJ (s p:ec):to 137 [] [Tx s,Tx p] (Ih (wg s p)) []:=by
 refine ab func137 ?_;refine ah (Of s p) ?_;(repeat' (first | (refine ⟨fun _=>?_,fun _=>?_⟩ <;> (conv=>whnf)) | fail))
 all_goals
  rename_i h;exact ⟨.inl rfl,_,.refl _,pS (fun b=>some (C.u7 [Tx (wg s p).1,Bo b])) h.symm⟩
def mV (s:ec):Bool:=if iH s [42,46] then ng (s.drop 2) else s == [42] || ng s
def EZ (s:ec) (hs:s.length < 4611686018427387904):to 106 [] [Tx s] (Bo (mV s)) []:=by
 refine ab func106 ?_;refine ah (kJ s [42,46]) ?_;refine ⟨fun h=>?_,fun h=>?_⟩
 ·have h1:iH s [42,46]=true:=by
   cases e:iH s [42,46] with
   | true=>rfl
   | false=>simp [wg,e] at h
  have e:wg s [42,46]=(s.drop 2,true):=by unfold wg;rw [dU h1];rfl
  rw [e];refine dd ?_;refine ah (Fi (s.drop 2) aA) ?_;(repeat' (first | (refine ⟨fun _=>?_,fun _=>?_⟩ <;> (conv=>whnf)) | fail))
  all_goals (exact ⟨.inl rfl,_,.refl _,uN (by simp_all [mV])⟩)
 ·have h1:iH s [42,46]=false:=by
   cases e:iH s [42,46] with
   | false=>rfl
   | true=>simp [wg,e] at h
  have e:wg s [42,46]=(s,false):=by unfold wg;rw [dR aD]
  rw [e];refine dd ?_;refine ⟨fun h2=>?_,fun h2=>?_⟩
  ·refine dd ?_
   (exact ⟨.inl rfl,_,.refl _,uN (by simp_all [mV])⟩)
  ·refine dd ?_;refine ah (Fi s hs) ?_;(repeat' (first | (refine ⟨fun _=>?_,fun _=>?_⟩ <;> (conv=>whnf)) | fail))
   all_goals (exact ⟨.inl rfl,_,.refl _,uN (by simp_all [mV])⟩)
def mJ (s:ec):Bool:=decide (0 < s.length) && decide (s.length<=32) && (match s with | c::_=>bI c == 47 | []=>false) && nV mM s 47
def Ft (s:ec) (hs:s.length < 4611686018427387904):to 107 [] [Tx s] (Bo (mJ s)) []:=by
 refine zb.zo (fn:=f107) func107 rfl ?_;cases s with
 | nil=>
  conv=>whnf
  refine td ?_
  exact uI
 | cons c s=>
  conv=>whnf
  refine ⟨fun _=>uH ?_,fun h=>absurd h (by simp <;> omega)⟩;refine ⟨fun h1=>?_,fun h1=>?_⟩
  ·conv=>whnf
   refine ⟨aw,c,rfl,uH ?_⟩;refine ⟨fun h2=>?_,fun h2=>?_⟩
   ·conv=>whnf
    refine ah JO ?_;refine ah (Ku (c::s) 47 hs) ?_;have h1':s.length<=31:=by have:=h1;exact cQ
    have e:mJ (c::s)=nV mM (c::s) 47:=by unfold mJ;simp [h2];omega
    refine ⟨fun h3=>?_,fun h3=>?_⟩
    all_goals ((conv=>whnf);(exact ⟨.inl rfl,_,.refl _,uN (by rw [e,h3])⟩))
   ·conv=>whnf
    (exact ⟨.inl rfl,_,.refl _,uN (by simp [mJ,h2])⟩)
  ·conv=>whnf
   (exact ⟨.inl rfl,_,.refl _,uN (by simp [mJ];simp at h1;omega)⟩)
def RT {c:UInt8} {s:ec} (h:ng (c::s)=true):C0 (bI c)=true:=by
 unfold ng at h;simp only [dY,dZ] at h;by_cases e:c=46
 ·subst e;have:=h.2 [] (by simp [xA]);exact absurd this ar
 ·have h1:(c == 46)=false:=by simpa using e
  cases h3:xA 46 s with
  | nil=>exact absurd h3 (Gk _ s)
  | cons x xs=>
   have:=h.2 (c::x) (by simp [xA,h1,h3]);simp only [xJ,dY] at this;exact this.1.2
def Xw {s:ec} (h:mJ s=true):mV s=false:=by
 match s,h with
 | [],h=>exact absurd h ar
 | c::s,h=>
  have hc:c=47:=by
   simp only [mJ,dY,gT] at h;exact UInt8.toNat_inj.1 (by have:=h.1.2;simp [bI] at this;show c.toNat=47;omega)
  subst hc;have h1:iH (47::s) [42,46]=false:=by simp [iH]
  have h2:ng (47::s)=false:=by
   cases e:ng (47::s) with
   | false=>rfl
   | true=>exact absurd (RT e) ar
  simp [mV,h1,h2]
end Go.Nam
namespace Go.Hos
open Go.Ab Go.Proofs Tryz Go.Hy Go.Gat Go.Nam
def BD (s t:ec):Bool:=decide (t.length<=s.length) && (s.drop (s.length - t.length) == t)
def Qz (s t:ec) (hs:s.length < 8000000000000):to 212 [] [Tx s,Tx t] (Bo (BD s t)) []:=by
 refine ab func212 ?_;refine ⟨fun h=>?_,fun h=>?_⟩
 ·have h':t.length<=s.length:=by simp at h;omega
  have w:IntKind.i64.wrap ((s.length:Int) - (t.length:Int))=(s.length - t.length:Nat):=by rw [jc aw aw];omega
  refine dd ?_;rw [w];refine ⟨aw,aw,aw,?_⟩;rw [gX,toNat_cast];refine dd ?_;(repeat' (first | (refine ⟨fun _=>?_,fun _=>?_⟩ <;> (conv=>whnf)) | fail))
  all_goals (exact ⟨.inl rfl,_,.refl _,uN (by simp_all [BD])⟩)
 ·refine dd ?_
  (exact ⟨.inl rfl,_,.refl _,uN (by simp [BD];simp at h;intros;omega)⟩)
def J3 (s t:ec) (hs:s.length < 8000000000000):to 211 [] [Tx s,Tx t] (Bo (BD s t)) []:=by
 refine ab func211 ?_;refine ah (Qz s t hs) ?_;(repeat' (first | (refine ⟨fun _=>?_,fun _=>?_⟩ <;> (conv=>whnf)) | fail))
 all_goals (rename_i h;(exact ⟨.inl rfl,_,.refl _,uN (by exact h.symm)⟩))
def CQ (p h:ec):Bool:=match p with
 | c::t=>c == 42 && (t == [] || (decide (t.length < h.length) && BD h t))
 | []=>false
def nF (p h:ec):Bool:=mV p && ng h && (p == h || CQ p h)
def Wy (c:UInt8) (t:ec):wg (c::t) [42]=if c == 42 then (t,true) else (c::t,false):=by
 unfold wg iH;by_cases h:c=42
 ·subst h;simp
 ·simp [h]
def UQ:mV []=false:=by decide
def PE (p h:ec) (hp:p.length < 8000000000000) (hh:h.length < 8000000000000):to 209 [] [Tx p,Tx h] (Bo (nF p h)) []:=by
 refine ab func209 ?_;refine ah (EZ p aw) ?_;refine ⟨fun h1=>?_,fun h1=>?_⟩
 ·refine dd ?_;refine td ?_
  refine ah (Fi h aw) ?_;refine ⟨fun h2=>?_,fun h2=>?_⟩
  ·refine dd ?_;refine td ?_
   refine ah (kJ p [42]) ?_;cases p with
   | nil=>rw [UQ] at h1;cases h1
   | cons c t=>
    rw [Wy];by_cases hc:(c == 42)=true
    ·rw [dU hc];refine ⟨fun _=>dd ?_,fun h=>absurd h aj⟩;refine ⟨fun h3=>?_,fun h3=>?_⟩
     ·refine dd ?_;refine td ?_
      (exact ⟨.inl rfl,_,.refl _,uN (by simp_all [nF])⟩)
     ·refine dd ?_;refine ⟨fun h4=>?_,fun h4=>?_⟩
      ·refine dd ?_;refine td ?_
       (exact ⟨.inl rfl,_,.refl _,uN (by simp_all [nF,CQ])⟩)
      ·refine dd ?_;refine ⟨fun h5=>?_,fun h5=>?_⟩
       ·refine dd ?_;refine ah (J3 h t hh) ?_;(repeat' (first | (refine ⟨fun _=>?_,fun _=>?_⟩ <;> (conv=>whnf)) | fail))
        all_goals (rename_i h6;(exact ⟨.inl rfl,_,.refl _,uN (by simp at hc;subst hc;simp at h3 h4 h5;simp [nF,CQ,h1,h2,h3,h4,h5,h6])⟩))
       ·refine dd ?_
        (exact ⟨.inl rfl,_,.refl _,uN (by simp at hc;subst hc;simp at h3 h4 h5;simp [nF,CQ,h1,h2,h3,h4];intros;omega)⟩)
    ·rw [dR hc];refine uG ?_;refine ⟨fun h3=>?_,fun h3=>?_⟩
     ·refine dd ?_;refine td ?_
      (exact ⟨.inl rfl,_,.refl _,uN (by simp_all [nF])⟩)
     ·refine dd ?_
      (exact ⟨.inl rfl,_,.refl _,uN (by simp at h3 hc;simp [nF,CQ,h1,h2,h3,hc])⟩)
  ·refine dd ?_;refine td ?_
   (exact ⟨.inl rfl,_,.refl _,uN (by simp_all [nF])⟩)
 ·refine dd ?_;refine td ?_
  (exact ⟨.inl rfl,_,.refl _,uN (by simp_all [nF])⟩)
def Di (p t:ec):Bool:=mJ p && mJ t && iH p t && (p.drop t.length == [] || BD t [47] || (p.drop t.length).head? == some 47)
def VJ {s:ec} {c:UInt8} (h:s[0]?= some c):(s.head? == some 47)=(bI c == 47):=by
 rw [List.head?_eq_getElem?,h];by_cases e:c=47
 ·subst e;rfl
 ·have h1:¬bI c=47:=fun h=>e (by
   unfold bI at h;have h':c.toNat=47:=aw
   exact UInt8.toNat_inj.1 (by rw [h'];rfl))
  have h2:(c == 47)=false:=aq e
  have h3:(bI c == 47)=false:=aq h1
  rw [h3];simpa using e
def Qf (p t:ec) (hp:p.length < 8000000000000) (ht:t.length < 8000000000000):to 210 [] [Tx p,Tx t] (Bo (Di p t)) []:=by
 refine ab func210 ?_;refine ah (Ft p aw) ?_;refine ⟨fun h1=>?_,fun h1=>?_⟩
 ·refine dd ?_;refine td ?_
  refine ah (Ft t aw) ?_;refine ⟨fun h2=>?_,fun h2=>?_⟩
  ·refine dd ?_;refine td ?_
   refine ah (kJ p t) ?_;by_cases h3:iH p t=true
   ·have e:wg p t=(p.drop t.length,true):=by unfold wg;rw [dU h3]
    rw [e];refine ⟨fun _=>dd ?_,fun h=>absurd h aj⟩;refine ⟨fun h4=>?_,fun h4=>?_⟩
    ·refine dd ?_;refine td ?_
     (exact ⟨.inl rfl,_,.refl _,uN bL⟩)
    ·refine dd ?_;refine ah (J3 t [47] ht) ?_;refine ⟨fun h5=>?_,fun h5=>?_⟩
     ·refine dd ?_;refine td ?_
      (exact ⟨.inl rfl,_,.refl _,uN bL⟩)
     ·refine dd ?_
      obtain ⟨c,hc⟩:∃ c,(p.drop t.length)[0]?= some c:=by
       cases hd:p.drop t.length with
       | nil=>rw [hd] at h4;simp at h4
       | cons c _=>exact ⟨c,rfl⟩
      refine ⟨aw,c,hc,dd ?_⟩;(repeat' (first | (refine ⟨fun _=>?_,fun _=>?_⟩ <;> (conv=>whnf)) | fail))
      all_goals (rename_i h6;(exact ⟨.inl rfl,_,.refl _,uN (by simp only [Di,h1,h2,h3,h4,h5,VJ hc];simpa using h6.symm)⟩))
   ·have e:wg p t=(p,false):=by unfold wg;rw [dR h3]
    rw [e];refine uG ?_
    (exact ⟨.inl rfl,_,.refl _,uN bL⟩)
  ·refine dd ?_;refine td ?_
   (exact ⟨.inl rfl,_,.refl _,uN bL⟩)
 ·refine dd ?_;refine td ?_
  (exact ⟨.inl rfl,_,.refl _,uN bL⟩)
def yM (p:ec):Int:=if mV p then (if iH p [42,46] then ((p.length - 2:Nat):Int) else if p == [42] then 0 else 100) else 0
def IT (p:ec) (hp:p.length < 8000000000000):to 208 [] [Tx p] (I (yM p)) []:=by
 refine ab func208 ?_;refine ah (EZ p aw) ?_;refine ⟨fun h1=>?_,fun h1=>?_⟩
 ·refine dd ?_;refine td ?_
  refine ah (kJ p [42,46]) ?_;by_cases h3:iH p [42,46]=true
  ·have e:wg p [42,46]=(p.drop 2,true):=by unfold wg;rw [dU h3];rfl
   have ew:yM p=((p.drop 2).length:Nat):=by simp [yM,h1,h3]
   rw [e,ew];refine ⟨fun _=>dd ?_,fun h=>absurd h aj⟩;exact uI
  ·have e:wg p [42,46]=(p,false):=by unfold wg;rw [dR h3]
   rw [e];refine uG ?_;refine ⟨fun h4=>?_,fun h4=>?_⟩
   ·have ew:yM p=0:=by simp_all [yM]
    rw [ew];exact di
   ·have ew:yM p=100:=by simp_all [yM]
    rw [ew];exact di
 ·have ew:yM p=0:=by simp_all [yM]
  rw [ew];refine dd ?_;refine td ?_
  exact uI
def DM (p q p' q':ec):Bool:=if yM p=yM p' then decide (q'.length < q.length) else decide (yM p' < yM p)
def OL (p q p' q':ec) (hp:p.length < 8000000000000) (hq:p'.length < 8000000000000):to 204 [] [Tx p,Tx q,Tx p',Tx q'] (Bo (DM p q p' q')) []:=by
 refine ab func204 ?_;refine ah (IT p hp) ?_;refine ah (IT p' hq) ?_;refine ⟨fun h1=>?_,fun h1=>?_⟩
 ·refine dd ?_;(repeat' (first | (refine ⟨fun _=>?_,fun _=>?_⟩ <;> (conv=>whnf)) | fail))
  all_goals (rename_i h2;(exact ⟨.inl rfl,_,.refl _,uN (by simp_all [DM])⟩))
 ·refine dd ?_;(repeat' (first | (refine ⟨fun _=>?_,fun _=>?_⟩ <;> (conv=>whnf)) | fail))
  all_goals (rename_i h2;(exact ⟨.inl rfl,_,.refl _,uN (by simp_all [DM])⟩))
end Go.Hos
namespace Go.Con
open Go.Ab Go.Proofs Tryz Go.Hy Go.Gat Go.Nam Go.Hos
def Cl {α:Type} (l:List α) (p:α->Bool):decide ((match l.findIdx? p with | some i=>(i:Int) | none=> -1)≥0)=l.any p:=by
 cases h:l.findIdx? p with
 | none=>
  rw [gG] at h
  symm
  simp only [Int.reduceNeg,ge_iff_le,Int.reduceLE,decide_false];rw [gU];intro x hx;simp [h x hx]
 | some i=>
  obtain ⟨h1,h2,_⟩:=gD.1 h
  symm
  have:(0:Int)<=(i:Int):=uh i;simp only [ge_iff_le,this,decide_true];rw [pQ];exact ⟨_,gS h1,h2⟩
abbrev Cc (c:eV):C:=.agg (xa c)
def QW {H:zl} {f:FuncId} {caps:List C} {l:List eV} (p:eV->Bool) (hcb:qt prog f=true) (hp:∀ r ∈ l,to f H ([Cc r]++caps) (Bo (p r)) H) (hl:l.length < 4611686018427387904):
  to 171 H [lC l,.fn f [] caps] (I (match l.findIdx? p with | some i=>(i:Int) | none=> -1)) H:=by
 refine zb.zT (fn:=f171) func171 rfl (uH ?_)
 refine zW.inv (fun n t1 H1=>∃ k,k+n=l.length∧H1=H∧(∀ j,j < k->∀ r,l[j]?= some r->p r=false)∧
   t1=((lC l)::.fn f [] caps::.za::.za::I 0::.za::.za::I (l.map xa).length::I k::hZ ([.za,.za]))) l.length ?_ ?_
 ·exact cU
 rintro n _ _ ⟨k,hk,rfl,hno,rfl⟩;conv=>whnf
 refine ⟨fun h=>?_,fun h=>?_⟩
 ·conv=>whnf
  have u4:k < l.length:=aq h
  refine ⟨aw,xa l[k],aX,uH ?_⟩;rw [hcb];refine ⟨_,_,hp _ (gS u4),uH ?_⟩;refine ⟨fun h2=>?_,fun h2=>?_⟩
  ·conv=>whnf
   refine .inr ⟨aj,uH ?_⟩;refine ⟨.inl rfl,_,.refl _,rfl,?_⟩
   have:l.findIdx? p=some k:=by
    rw [gD];refine ⟨u4,h2,fun j hj=>?_⟩;simp [hno j hj _ (dQ aw)]
   rw [this]
   rfl
  ·conv=>whnf
   refine .inl ⟨rfl,n - 1,_,_,aw,zp.mask [0,1,4,7,8] _ _,k+1,aw,rfl,?_,?_⟩
   ·intro j hj r hr;by_cases hjk:j=k
    ·subst hjk;rw [dQ u4] at hr;cases hr
     exact h2
    ·exact hno j aw r hr
   ·rw [zu aw];rfl
 ·conv=>whnf
  refine .inr ⟨aj,uH ?_⟩;refine ⟨.inl rfl,_,.refl _,rfl,?_⟩
  have:l.findIdx? p=none:=by
   rw [gG];intro x hx;obtain ⟨j,hj⟩:=gA.1 hx;have hjl:=(dP.1 hj).1;have:¬k < l.length:=aq h
   exact hno j aw x hj
  rw [this]
  rfl
def PX {H:zl} {f:FuncId} {caps:List C} {l:List eV} (p:eV->Bool) (hcb:qt prog f=true) (hp:∀ r ∈ l,to f H ([Cc r]++caps) (Bo (p r)) H) (hl:l.length < 4611686018427387904):
  to 135 H [lC l,.fn f [] caps] (Bo (l.any p)) H:=by
 refine zb.zT (fn:=f135) func135 rfl (uH ?_);refine ⟨_,_,QW p hcb hp hl,dd ?_⟩;rw [show decide ((match l.findIdx? p with | some i=>((i:Nat):Int) | none=>(-1:Int))≥(0:Int))=l.any p from Cl l p];refine ⟨fun h=>?_,fun h=>?_⟩ <;> rw [h]
 ·exact dh
 ·exact dh
def OG (s:ec) (c:eV):to 136 [⟨1,9,1,[[Tx s]],0⟩] [Cc c,.ref 0 [] 1 0 0] (Bo (c.name == s)) [⟨1,9,1,[[Tx s]],0⟩]:=by
 refine zb.zT (fn:=f136) func136 rfl (uH ?_);refine ⟨fun h=>?_,fun h=>?_⟩ <;> rw [h]
 ·conv=>whnf
  exact cW
 ·conv=>whnf
  exact cW
def n9 (l:List eV) (s:ec):Bool:=l.any fun c=>c.name == s
def Jo (l:List eV) (s:ec) (hl:l.length < 4611686018427387904):to 105 [] [lC l,Tx s] (Bo (n9 l s)) []:=by
 refine ab func105 ?_;refine ⟨_,_,PX (fun c=>c.name == s) au (fun r _=>OG s r) hl,dd ?_⟩;refine ⟨fun h=>?_,fun h=>?_⟩
 ·refine dd ?_
  (exact ⟨.inl rfl,_,.refl _,uN (by exact h.symm)⟩)
 ·refine dd ?_
  (exact ⟨.inl rfl,_,.refl _,uN (by exact h.symm)⟩)
def yi (n a b:Int):to 104 [] [I n,I a,I b] (Bo (decide (a<=n) && decide (n<=b))) []:=by
 refine ab func104 ?_;(repeat' (first | (refine ⟨fun _=>?_,fun _=>?_⟩ <;> (conv=>whnf)) | fail))
 all_goals (exact ⟨.inl rfl,_,.refl _,uN (by simp_all <;> omega)⟩)
def yW (l:List ec) (s:ec):Int:=match l.findIdx? (fun x=>x == s) with | some i=>(i:Int) | none=> -1
def Q4 (l:List ec) (s:ec) (hl:l.length < 4611686018427387904):to 93 [] [lT l,Tx s] (I (yW l s)) []:=by
 have hlm:(l.map qm).length=l.length:=dV ..;refine ab func93 ?_;rw [hlm];refine zW.seq l.length (fun k=>((lT l)::(Tx s)::.za::.za::I 0::.za::.za::I l.length::I k::hZ ([.za,.za]))) (fun k=>[]) (fun k=>∀ j,(h:j < l.length)->j < k->(l[j] == s)=false) ?_ aj (fun k hk hr=>?_) (fun hr=>?_)
 ·exact cC
 ·have hg:(l.map qm)[k]?= some (qm l[k]):=by rw [dT,dQ hk];rfl
  conv=>whnf
  refine ⟨fun _=>dd ?_,fun h=>absurd h aA⟩;refine tf hg ?_;refine ⟨fun h2=>?_,fun h2=>?_⟩
  ·refine dd ?_;refine .inr ⟨aj,uH ?_⟩
   have e:yW l s=k:=by
    unfold yW
    have:l.findIdx? (fun x=>x == s)=some k:=by
     rw [gD];refine ⟨hk,?_,fun j hj=>by simp only [hr j aw hj];decide⟩;simp at h2;simp [h2]
    rw [this]
   rw [e];exact uI
  ·refine dd ?_;refine .inl ⟨rfl,?_,fun j hj hjk=>?_⟩
   ·rw [zu aw];exact cE 0
   ·by_cases e:j=k
    ·subst e;simp at h2 ⊢;exact fun h=>h2 h.symm
    ·exact hr j hj aw
 ·conv=>whnf
  refine ⟨fun h=>absurd h aj,fun _=>dd ?_⟩;refine ⟨aj,uH ?_⟩
  have e:yW l s= -1:=by
   unfold yW
   have:l.findIdx? (fun x=>x == s)=none:=by
    rw [gG];intro x hx;obtain ⟨j,hj,rfl⟩:=pt.1 hx;exact hr j hj hj
   rw [this]
  rw [e];exact uI
def TJ (l:List ec) (s:ec):decide (yW l s≥0)=l.any (fun x=>x == s):=Cl l _
def De (l:List ec) (s:ec) (hl:l.length < 4611686018427387904):to 68 [] [lT l,Tx s] (Bo (l.any fun x=>x == s)) []:=by
 refine ab func68 ?_;refine ah (Q4 l s hl) ?_;rw [TJ];refine ⟨fun h=>?_,fun h=>?_⟩
 ·refine dd ?_
  (exact ⟨.inl rfl,_,.refl _,uN (by exact h.symm)⟩)
 ·refine dd ?_
  (exact ⟨.inl rfl,_,.refl _,uN (by exact h.symm)⟩)
end Go.Con
