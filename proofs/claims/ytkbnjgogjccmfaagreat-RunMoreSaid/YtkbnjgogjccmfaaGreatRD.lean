import Derived.Lib.Bytealg
import Derived.WalkKit
import Derived.IntWalk
import Derived.Test.YtkbnjgogjccmfaaGreatRC
import Derived.Test.YtkbnjgogjccmfaaGreatRJ
import Derived.Test.YtkbnjgogjccmfaaGreatProg
set_option linter.all false
set_option maxRecDepth 100000
set_option maxHeartbeats 4000000
namespace Go.Gat
open Go.Ab Go.Proofs Tryz Go.Hy
def B2 (n:Int):Bool:=decide (97<=n) && decide (n<=122)
def l8 (n:Int):Bool:=B2 n || (decide (48<=n) && decide (n<=57)) || (n == 45)
abbrev By (n:Int):C:=.v (.int .u8 n)
def IQ (n:Int):tn 82 [] [By n] (Bo (B2 n)) []:=by
 refine ab func82 ?_;(repeat' (first | (refine ⟨fun _=>?_,fun _=>?_⟩ <;> (conv=>whnf)) | fail))
 all_goals (exact ⟨.inl rfl,_,.refl _,uN (by simp_all [B2] <;> (intros;omega))⟩)
def OI (n:Int):tn 109 [] [By n] (Bo (l8 n)) []:=by
 refine ab func109 ?_;refine ah (IQ n) ?_;(repeat' (first | (refine ⟨fun _=>?_,fun _=>?_⟩ <;> (conv=>whnf)) | fail))
 all_goals (exact ⟨.inl rfl,_,.refl _,uN (by simp_all [l8] <;> (intros;omega))⟩)
def Is:tn 83 [] [] (.agg [.fn 109 [] []]) []:=by
 refine ab func83 ?_;exact uI
abbrev bI (c:UInt8):Int:=(c.toNat:Int)
def m9 (p:Int->Bool) (s:uu) (other:Int):Bool:=s.all fun c=>bI c == other || p (bI c)
def OJ {p:Int->Bool} {s:uu} {other:Int} {k:Nat} (hk:k < s.length) (h1:(bI s[k] == other)=false) (h2:p (bI s[k])=false):m9 p s other=false:=by
 unfold m9;rw [rG];exact ⟨s[k],gH hk,by simp [h1,h2]⟩
def IY (s:uu) (other:Int) (hs:s.length < 4611686018427387904):tn 84 [] [.agg [.fn 109 [] []],Tx s,By other] (Bo (m9 l8 s other)) []:=by
 refine ab func84 ?_;refine z5.seq s.length (fun k=>(.agg [.fn 109 [] []]::(Tx s)::(By other)::.ref 0 [] 1 0 0::.za::.za::Bo false::.za::.za::I s.length::I k::tZ (tZ ([.za])))) (fun k=>[⟨1,185,1,[[.fn 109 [] []]],0⟩]) (fun k=>∀ j,(h:j < s.length)->j < k->(bI s[j] == other || l8 (bI s[j]))=true) ?_ aj (fun k hk hr=>?_) (fun hr=>?_)
 ·exact cC
 ·conv=>whnf
  refine ⟨fun h=>uH ?_,fun h=>absurd h aA⟩;refine uE ?_;refine ⟨aw,s[k],by simp [hk],uH ?_⟩;refine ⟨fun h1=>?_,fun h1=>?_⟩
  ·refine dd ?_;refine ⟨aw,s[k],by simp [hk],dd ?_⟩;refine ah (OI (bI s[k])) ?_;refine ⟨fun h2=>?_,fun h2=>?_⟩
   ·refine dd ?_;refine .inl ⟨rfl,?_,?_⟩
    ·exact dp
    ·intro j hj hjk;by_cases e:j=k
     ·subst e;simp [h2]
     ·exact hr j hj aw
   ·refine dd ?_;refine .inr ⟨aj,uH ?_⟩
    (exact ⟨.inl rfl,_,.refl _,uN (by exact (OJ hk tG h2).symm)⟩)
  ·refine dd ?_;refine .inl ⟨rfl,?_,?_⟩
   ·exact dp
   ·intro j hj hjk;by_cases e:j=k
    ·subst e;simp at h1;simp [h1]
    ·exact hr j hj aw
 ·conv=>whnf
  refine ⟨fun h=>absurd h aj,fun h=>uH ?_⟩;refine ⟨aj,uH ?_⟩
  have e:m9 l8 s other=true:=by
   unfold m9;rw [dT];intro x hx;obtain ⟨j,hj,rfl⟩:=gX.1 hx;exact hr j hj hj
  exact ⟨.inl rfl,_,.refl _,by rw [e];rfl⟩
def xv (s:uu):Bool:=decide (0 < s.length) && decide (s.length<=16) && (match s with | c::_=>B2 (bI c) | []=>false) && s.all fun c=>l8 (bI c)
def QB (s:uu):m9 l8 s 45=s.all fun c=>l8 (bI c):=by
 unfold m9
 congr 1
 funext c
 cases h:(bI c == 45) with
 | false=>rfl
 | true=>simp at h;simp [l8,h]
def ym (s:uu) (hs:s.length < 4611686018427387904):tn 58 [] [Tx s] (Bo (xv s)) []:=by
 refine zb.zp (fn:=f58) func58 rfl ?_;cases s with
 | nil=>
  conv=>whnf
  refine tc ?_
  exact uI
 | cons c s=>
  conv=>whnf
  refine ⟨fun _=>uH ?_,fun h=>absurd h (by simp <;> omega)⟩;refine ⟨fun h1=>?_,fun h1=>?_⟩
  ·conv=>whnf
   refine ⟨aw,c,rfl,uH ?_⟩;refine ah (IQ (bI c)) ?_;refine ⟨fun h2=>?_,fun h2=>?_⟩
   ·conv=>whnf
    refine ah Is ?_;refine ah (IY (c::s) 45 hs) ?_;have h1':s.length<=15:=by have:=h1;exact cN
    have e:xv (c::s)=m9 l8 (c::s) 45:=by rw [QB];unfold xv;simp [h2];omega
    refine ⟨fun h3=>?_,fun h3=>?_⟩
    all_goals ((conv=>whnf);(exact ⟨.inl rfl,_,.refl _,uN (by rw [e,h3])⟩))
   ·conv=>whnf
    (exact ⟨.inl rfl,_,.refl _,uN (by simp [xv,h2])⟩)
  ·conv=>whnf
   (exact ⟨.inl rfl,_,.refl _,uN (by simp [xv];simp at h1;omega)⟩)
end Go.Gat
namespace Go.Nam
open Go.Ab Go.Proofs Tryz Go.Hy Go.Gat Go.RowKit
def yL (b:UInt8) (s:uu):uu:=s.takeWhile (· != b)
def m7 (b:UInt8) (s:uu):uu:=(s.dropWhile (· != b)).drop 1
def xk (b:UInt8):uu->List uu
 | []=>[[]]
 | c::s=>if c == b then []::xk b s else match xk b s with
  | p::ps=>(c::p)::ps
  | []=>[[c]]
def Fk (b:UInt8) (s:uu):xk b s≠[]:=by
 cases s with
 | nil=>simp [xk]
 | cons c s=>unfold xk;split;simp;split <;> simp
def Co {b:UInt8}:∀ {s:uu},b ∉ s->xk b s=[s]
 | [],_=>rfl
 | c::s,h=>by
  have h1:(c == b)=false:=by simp;intro e;subst e;exact h (px ..)
  have h2:=Co (s:=s) fun e=>h (g9 _ e)
  simp [xk,h1,h2]
def wM {b:UInt8}:∀ {s:uu},b ∈ s->xk b s=yL b s::xk b (m7 b s)
 | [],h=>by simp at h
 | c::s,h=>by
  by_cases e:c=b
  ·subst e;simp [xk,yL,m7]
  ·have h1:(c == b)=false:=by simpa using e
   have h2:=wM (s:=s) bG;have h3:(c != b)=true:=aq e
   simp only [xk,h1,rO,if_false,h2,yL,m7,sr,List.dropWhile_cons,h3,if_true]
def J3 {b:UInt8}:∀ {s:uu},b ∉ s->Lib.indexByte s b= -1
 | [],_=>rfl
 | c::s,h=>by
  have h1:(c == b)=false:=by simp;intro e;subst e;exact h (px ..)
  have h2:=J3 (s:=s) fun e=>h (g9 _ e)
  simp [Lib.indexByte,h1,h2]
def EZ {b:UInt8}:∀ {s:uu},b ∈ s->Lib.indexByte s b=((yL b s).length:Int)
 | [],h=>by simp at h
 | c::s,h=>by
  by_cases e:c=b
  ·subst e;simp [Lib.indexByte,yL]
  ·have h1:(c == b)=false:=by simpa using e
   have h3:(c != b)=true:=aq e
   have h2:=EZ (s:=s) bG;have h4:((yL b s).length == (-1:Int))=false:=by rw [beq_eq_false_iff_ne];omega
   simp only [Lib.indexByte,h1,rO,if_false,h2,yL,sr,h3,if_true,pS];rw [show ((↑(List.takeWhile (fun x=>x != b) s).length:Int) == -1)=false from h4];simp
def head_take (b:UInt8) (s:uu):s.take (yL b s).length=yL b s:=by
 induction s with
 | nil=>rfl
 | cons c s ih=>
  by_cases e:c=b
  ·subst e;simp [yL]
  ·have h3:(c != b)=true:=by simpa using e
   simp only [yL,sr,h3,if_true,pS,List.take_succ_cons];rw [show List.take (List.takeWhile (fun x=>x != b) s).length s=yL b s from ih];rfl
def tail_drop (b:UInt8) (s:uu):s.drop ((yL b s).length+1)=m7 b s:=by
 induction s with
 | nil=>rfl
 | cons c s ih=>
  by_cases e:c=b
  ·subst e;simp [yL,m7]
  ·have h3:(c != b)=true:=by simpa using e
   simp only [yL,m7,sr,List.dropWhile_cons,h3,if_true,pS,List.drop_succ_cons];exact ih
def Fb {b:UInt8} {s:uu} (h:b ∈ s):(yL b s).length < s.length:=by
 have h1:=tail_drop b s;have h2:s.length≠0:=by intro e;rw [pR.1 e] at h;simp at h
 have h3:(yL b s).length<=s.length:=List.Sublist.length_le (List.takeWhile_sublist _);rcases rh (yL b s).length s.length with h4 | h4
 ·exact h4
 ·have h5:=head_take b s;rw [rT h4] at h5;have:b ∈ yL b s:=by rw [<- h5];exact h
  have:=List.all_takeWhile (l:=s) (p:=(· != b));rw [dT] at this;have:=this b (by assumption);simp at this
def xG (b:UInt8) (s:uu):Nat->uu
 | 0=>s
 | k+1=>m7 b (xG b s k)
def BB {b:UInt8}:∀ {k:Nat} {s:uu},k+1 < (xk b s).length->b ∈ xG b s k∧(xk b s)[k]?= some (yL b (xG b s k))∧xk b (xG b s (k+1))=(xk b s).drop (k+1)
 | 0,s,h=>by
  have hb:b ∈ s:=by
   rcases Classical.em (b ∈ s) with h1 | h1
   ·exact h1
   ·rw [Co h1] at h;simp at h
  exact ⟨hb,by rw [wM hb];rfl,by rw [wM hb];rfl⟩
 | k+1,s,h=>by
  obtain ⟨h1,h2,h3⟩:=BB (b:=b) (k:=k) (s:=s) aw
  have hb:b ∈ xG b s (k+1):=by
   rcases Classical.em (b ∈ xG b s (k+1)) with h4 | h4
   ·exact h4
   ·rw [Co h4] at h3;have:=pX List.length h3;exact cN
  have h5:=wM hb;rw [h3] at h5;refine ⟨hb,?_,?_⟩
  ·have:=pX (fun l=>l[0]?) h5;simpa using this
  ·have:=pX (fun l=>l.drop 1) h5;simp at this;show xk b (m7 b (xG b s (k+1)))=_;rw [<- this]
def JK {b:UInt8} {k:Nat} {s:uu} (h:k+1=(xk b s).length):b ∉ xG b s k∧(xk b s)[k]?= some (xG b s k):=by
 have h3:xk b (xG b s k)=(xk b s).drop k:=by
  cases k with
  | zero=>rfl
  | succ k=>exact (BB (b:=b) (s:=s) (k:=k) aw).2.2
 have h4:b ∉ xG b s k:=by
  intro hb;rw [wM hb] at h3;have:=pX List.length h3
  have h5:(xk b (m7 b (xG b s k))).length≠0:=by
   intro e;exact Fk b _ (pR.1 e)
  exact cN
 refine ⟨h4,?_⟩;rw [Co h4] at h3;have:=pX (fun l=>l[0]?) h3;simpa using this.symm
def BA (b:UInt8) (s:uu):∀ k,(xG b s k).length<=s.length
 | 0=>dU _
 | k+1=>by
  have h1:((xG b s k).dropWhile (· != b)).length<=(xG b s k).length:=List.Sublist.length_le (List.dropWhile_sublist _);have:=BA b s k;simp only [xG,m7,List.length_drop];omega
def Qp (s:ByteArray) (c:Int) (w:World):Calls prog 199 #[.string s,.int .u8 c] w fun e w'=>e=.returned (.int .i64 (Lib.indexByte s.data.toList c.toNat.toUInt8))∧w'=w:=by
 go_enter func199,Tryz.ntmps199
 go_wp2
 rw [run_callFunc_extern func202 au au au (e:=Extern.BytealgIndexByte.indexByte) au,Lib.run_indexByteString];simp only [Result.andThen];rw [Oper.upon_value]
 go_wp2
 go_ret
 exact ⟨rfl,rfl⟩
def Pt (s:uu) (b:UInt8):tn 199 [] [Tx s,By (bI b)] (I (Lib.indexByte s b)) []:=by
 have e:(bI b).toNat.toUInt8=b:=by simp [bI]
 refine CP [] (fun w=>?_) F1 fun E=>.v _ rfl
 have:=Qp ⟨⟨s⟩⟩ (bI b) w;rw [e] at this;exact dw
def wW (s:uu) (b:UInt8):tn 193 [] [Tx s,By (bI b)] (I (Lib.indexByte s b)) []:=by
 refine ab func193 ?_;refine ah (Pt s b) ?_;exact uI
end Go.Nam
namespace Go.Nam
open Go.Ab Go.Proofs Tryz Go.Hy Go.Gat
def NQ (X:Ob) (s:uu) (b:UInt8):tn 173 [X] [Tx s,By (bI b)] (.fn 192 [] [.ref 1 [] 1 0 0,.ref 2 [] 1 0 0]) [X,⟨1,9,1,[[Tx s]],0⟩,⟨1,5,1,[[By (bI b)]],0⟩]:=by
 refine zb.zS (fn:=f173) func173 rfl (uH ?_);exact uJ
def Hx (l:Nat) (s:uu) (b:UInt8) (hs:s.length < 4611686018427387904) (X:Nat->Ob) (Y:Nat->List Ob) (j:Nat) (g:Bool) (hj:j < (xk b s).length) (hend:g=false∨j+1=(xk b s).length)
  (hy:∀ k p,k < j->(xk b s)[k]?= some p->jn prog l (X k::⟨1,9,1,[[Tx (xG b s k)]],0⟩::⟨1,5,1,[[By (bI b)]],0⟩::Y k) [Tx p] (Bo true) (X (k+1)::⟨1,9,1,[[Tx (xG b s k)]],0⟩::⟨1,5,1,[[By (bI b)]],0⟩::Y (k+1)))
  (hz:∀ p,(xk b s)[j]?= some p->jn prog l (X j::⟨1,9,1,[[Tx (xG b s j)]],0⟩::⟨1,5,1,[[By (bI b)]],0⟩::Y j) [Tx p] (Bo g) (X (j+1)::⟨1,9,1,[[Tx (xG b s j)]],0⟩::⟨1,5,1,[[By (bI b)]],0⟩::Y (j+1))):
  tn 192 (X 0::⟨1,9,1,[[Tx (xG b s 0)]],0⟩::⟨1,5,1,[[By (bI b)]],0⟩::Y 0) [.v (.func (.yield l) #[] #[]),.ref 1 [] 1 0 0,.ref 2 [] 1 0 0] (.uo []) (X (j+1)::⟨1,9,1,[[Tx (xG b s j)]],0⟩::⟨1,5,1,[[By (bI b)]],0⟩::Y (j+1)):=by
 refine zb.zS (fn:=f192) func192 rfl (uH ?_);refine z5.seq j (fun k=>(.v (.func (.yield l) #[] #[])::.ref 1 [] 1 0 0::.ref 2 [] 1 0 0::tZ (tZ ([.za,.za,.za,.za])))) (fun k=>X k::⟨1,9,1,[[Tx (xG b s k)]],0⟩::⟨1,5,1,[[By (bI b)]],0⟩::Y k) (fun _=>True) ?_ trivial (fun k hk _=>?_) (fun _=>?_)
 ·exact cC
 ·obtain ⟨h1,h2,h3⟩:=BB (b:=b) (s:=s) (k:=k) aw;have h4:=BA b s k;have h5:=Fb h1;conv=>whnf
  refine ⟨_,_,(wW (xG b s k) b).frame rfl _,?_⟩;rw [EZ h1];conv=>whnf
  refine ⟨fun h=>absurd h aj,fun _=>dd ?_⟩;refine ⟨aw,aw,aA,?_⟩;rw [toNat_cast,r7,head_take];conv=>whnf
  refine ⟨_,_,hy k _ hk h2,dd ?_⟩;refine tc ?_
  rw [zu aw,toNat_cast];refine ⟨aw,uH ?_⟩;refine ⟨aw,aw,?_⟩;rw [gK,tail_drop];conv=>whnf
  exact .inl ⟨rfl,cC,trivial⟩
 ·have h4:=BA b s j;by_cases hl:j+1=(xk b s).length
  ·obtain ⟨h1,h2⟩:=JK hl;conv=>whnf
   refine ⟨_,_,(wW (xG b s j) b).frame rfl _,?_⟩;rw [J3 h1];conv=>whnf
   refine ⟨fun _=>dd ?_,fun h=>absurd h aj⟩;refine ⟨_,_,hz _ h2,uH ?_⟩;refine ⟨fun _=>?_,fun _=>?_⟩ <;>
   ·conv=>whnf
    exact ⟨aj,.inl rfl,_,.refl _,rfl,rfl⟩
  ·obtain ⟨h1,h2,h3⟩:=BB (b:=b) (s:=s) (k:=j) aw;have h5:=Fb h1;have hg:g=false:=by rcases hend with h | h;exact h;exact absurd h hl
   subst hg;conv=>whnf
   refine ⟨_,_,(wW (xG b s j) b).frame rfl _,?_⟩;rw [EZ h1];conv=>whnf
   refine ⟨fun h=>absurd h aj,fun _=>dd ?_⟩;refine ⟨aw,aw,aA,?_⟩;rw [toNat_cast,r7,head_take];conv=>whnf
   refine ⟨_,_,hz _ h2,dd ?_⟩;refine tc ?_
   exact ⟨aj,.inl rfl,_,.refl _,rfl,rfl⟩
def mF (s:uu):Bool:=decide (s.length<=32) && (xk 46 s).all xv
def Ty (b:UInt8) (s:uu) (k:Nat) (p:uu) (h:(xk b s)[k]?= some p):p.length<=s.length:=by
 have hk:=(dJ.1 h).1;by_cases hl:k+1=(xk b s).length
 ·obtain ⟨h1,h2⟩:=JK hl;rw [h2] at h;cases h;exact BA b s k
 ·obtain ⟨h1,h2,h3⟩:=BB (b:=b) (s:=s) (k:=k) aw;rw [h2] at h;cases h
  have:=Fb h1;have:=BA b s k;omega
def Ej (s:uu) (hs:s.length < 4611686018427387904):tn 138 [] [Tx s] (Bo (mF s)) []:=by
 refine ab func138 ?_;refine ⟨fun h=>?_,fun h=>?_⟩
 ·refine dd ?_
  (exact ⟨.inl rfl,_,.refl _,uN (by simp [mF];simp at h;omega)⟩)
 ·refine dd ?_;refine ⟨_,_,NQ _ s 46,uH ?_⟩;have hn:=Fk 46 s
  have hlen:0 < (xk 46 s).length:=by
   rcases rR (xk 46 s).length with e | e
   ·exact absurd (pR.1 e) hn
   ·exact e
  have hple:∀ (k:Nat) (p:uu),(xk 46 s)[k]?= some p->p.length < 4611686018427387904:=fun k p hp=>by have:=Ty 46 s k p hp;omega
  refine ⟨_,.refl _,?_⟩;by_cases z7:(xk 46 s).all xv=true
  ·have hname:∀ (k:Nat) p,(xk 46 s)[k]?= some p->xv p=true:=fun k p hp=>dT.1 z7 p (dM hp)
   refine ⟨.normal,_,[⟨1,4,1,[[Bo false]],0⟩],fun l r h1 h2 h3 h4 h5=>⟨_,_,r,Hx l s 46 hs (fun _=>⟨1,4,1,[[Bo false]],0⟩) (fun _=>[eV l r _]) ((xk 46 s).length - 1) true aw (.inr aw) (fun k p hk hp=>?_) (fun p hp=>?_),
    rfl,aY,rfl,gu _,aZ,zo.low 1 _ _ rfl rfl rfl⟩,?_⟩
   ·refine jn.zS (id:=3) rfl h1 h2 h3 h4 h5 rfl rfl rfl ?_;conv=>whnf
    refine ⟨rfl,rfl,uH ?_⟩;refine ah (ym p (hple _ _ hp)) ?_;refine ⟨fun _=>dd ?_,fun h=>absurd ((hname _ _ hp).symm.trans h:true=false) ar⟩;exact cQ
   ·refine jn.zS (id:=3) rfl h1 h2 h3 h4 h5 rfl rfl rfl ?_;conv=>whnf
    refine ⟨rfl,rfl,uH ?_⟩;refine ah (ym p (hple _ _ hp)) ?_;refine ⟨fun _=>dd ?_,fun h=>absurd ((hname _ _ hp).symm.trans h:true=false) ar⟩;exact cQ
   ·conv=>whnf
    (exact ⟨.inl rfl,_,.refl _,uN (by simp [mF,z7];simp at h;omega)⟩)
  ·obtain ⟨j,hj⟩:∃ j,(xk 46 s).findIdx? (fun p=>!xv p)=some j:=by
    cases e:(xk 46 s).findIdx? (fun p=>!xv p) with
    | some j=>exact ⟨j,rfl⟩
    | none=>
     exfalso
     rw [gy] at e;exact z7 (dT.2 fun x hx=>by simpa using e x hx)
   rw [gk] at hj;obtain ⟨hjl,hj1,hj2⟩:=hj;have z7:(xk 46 s).all xv=false:=aq z7
   refine ⟨.ret,_,[⟨1,4,1,[[Bo false]],0⟩],fun l r h1 h2 h3 h4 h5=>⟨_,_,left r .ret,Hx l s 46 hs (fun _=>⟨1,4,1,[[Bo false]],0⟩) (fun k=>[eV l (if k < j+1 then r else left r .ret) _]) j false hjl (.inl rfl) (fun k p hk hp=>?_) (fun p hp=>?_),
    pX (fun x=>some (eV l x _)) (dL (Nat.lt_irrefl (j+1))),aj,rfl,gu _,trivial,zo.low 1 _ _ rfl rfl rfl⟩,?_⟩
   ·have e1:k < j+1:=by omega
    have e2:k+1 < j+1:=aw
    simp only [dO e1,dO e2];refine jn.zS (id:=3) rfl h1 h2 h3 h4 h5 rfl rfl rfl (uH ?_);refine ⟨rfl,rfl,uH ?_⟩;refine ah (ym p (hple _ _ hp)) ?_
    have hname:xv p=true:=by
     have h6:=hj2 k hk;rw [dK aw] at hp;cases hp
     simpa using h6
    refine ⟨fun _=>dd ?_,fun h=>absurd ((hname).symm.trans h:true=false) ar⟩;exact cQ
   ·simp only [dO (Nat.lt_succ_self j),dL (Nat.lt_irrefl (j+1))];refine jn.zS (id:=3) rfl h1 h2 h3 h4 h5 rfl rfl rfl (uH ?_);refine ⟨rfl,rfl,uH ?_⟩;refine ah (ym p (hple _ _ hp)) ?_
    have hname:xv p=false:=by
     rw [dK hjl] at hp;cases hp
     simpa using hj1
    refine ⟨fun h=>absurd ((hname).symm.trans h:false=true) ar,fun _=>dd ?_⟩;exact ⟨_,_,.refl _,rfl,.inr ⟨rfl,.inl ⟨rfl,rfl⟩⟩⟩
   ·conv=>whnf
    (exact ⟨.inl rfl,_,.refl _,uN (by simp [mF,z7])⟩)
abbrev pk (b:UInt8) (s:uu) (k:Nat):List (List C):=((xk b s).take k).map qj
def il (s p:uu):Bool:=decide (p.length<=s.length) && (s.take p.length == p)
def Ml (s p:uu):tn 191 [] [Tx s,Tx p] (Bo (il s p)) []:=by
 refine ab func191 ?_;refine ⟨fun h=>?_,fun h=>?_⟩
 ·refine dd ?_;refine ⟨aw,aw,by simp at h;omega,?_⟩;rw [toNat_cast,r7];conv=>whnf
  (repeat' (first | (refine ⟨fun _=>?_,fun _=>?_⟩ <;> (conv=>whnf)) | fail))
  all_goals (exact ⟨.inl rfl,_,.refl _,uN (by simp_all [il])⟩)
 ·conv=>whnf
  (exact ⟨.inl rfl,_,.refl _,uN (by simp_all [il];intros;omega)⟩)
abbrev GU (r:uu × Bool):C:=.uo [Tx r.1,Bo r.2]
def kI (s p:uu):uu × Bool:=if il s p then (s.drop p.length,true) else (s,false)
def MB (s p:uu):tn 172 [] [Tx s,Tx p] (GU (kI s p)) []:=by
 refine ab func172 ?_;refine ah (Ml s p) ?_;refine ⟨fun h=>?_,fun h=>?_⟩
 ·refine dd ?_;have h':p.length<=s.length:=by simp [il] at h;exact h.1
  refine ⟨aw,aw,aw,?_⟩;rw [gK,toNat_cast];conv=>whnf
  have e:kI s p=(s.drop p.length,true):=by unfold kI;rw [dO h]
  rw [e];exact uI
 ·conv=>whnf
  have e:kI s p=(s,false):=by unfold kI;rw [dL aH]
  rw [e];exact uI
def kb (s p:uu):tn 137 [] [Tx s,Tx p] (GU (kI s p)) []:=by
 refine ab func137 ?_;refine ah (MB s p) ?_;(repeat' (first | (refine ⟨fun _=>?_,fun _=>?_⟩ <;> (conv=>whnf)) | fail))
 all_goals
  rename_i h;exact ⟨.inl rfl,_,.refl _,pX (fun b=>some (C.uo [Tx (kI s p).1,Bo b])) h.symm⟩
def mn (s:uu):Bool:=if il s [42,46] then mF (s.drop 2) else s == [42] || mF s
def wF (s:uu) (hs:s.length < 4611686018427387904):tn 106 [] [Tx s] (Bo (mn s)) []:=by
 refine ab func106 ?_;refine ah (kb s [42,46]) ?_;refine ⟨fun h=>?_,fun h=>?_⟩
 ·have h1:il s [42,46]=true:=by
   cases e:il s [42,46] with
   | true=>rfl
   | false=>simp [kI,e] at h
  have e:kI s [42,46]=(s.drop 2,true):=by unfold kI;rw [dO h1];rfl
  rw [e];refine dd ?_;refine ah (Ej (s.drop 2) aA) ?_;(repeat' (first | (refine ⟨fun _=>?_,fun _=>?_⟩ <;> (conv=>whnf)) | fail))
  all_goals (exact ⟨.inl rfl,_,.refl _,uN (by simp_all [mn])⟩)
 ·have h1:il s [42,46]=false:=by
   cases e:il s [42,46] with
   | false=>rfl
   | true=>simp [kI,e] at h
  have e:kI s [42,46]=(s,false):=by unfold kI;rw [dL aD]
  rw [e];refine dd ?_;refine ⟨fun h2=>?_,fun h2=>?_⟩
  ·refine dd ?_
   (exact ⟨.inl rfl,_,.refl _,uN (by simp_all [mn])⟩)
  ·refine dd ?_;refine ah (Ej s hs) ?_;(repeat' (first | (refine ⟨fun _=>?_,fun _=>?_⟩ <;> (conv=>whnf)) | fail))
   all_goals (exact ⟨.inl rfl,_,.refl _,uN (by simp_all [mn])⟩)
def lY (s:uu):Bool:=decide (0 < s.length) && decide (s.length<=32) && (match s with | c::_=>bI c == 47 | []=>false) && m9 l8 s 47
def D9 (s:uu) (hs:s.length < 4611686018427387904):tn 107 [] [Tx s] (Bo (lY s)) []:=by
 refine zb.zp (fn:=f107) func107 rfl ?_;cases s with
 | nil=>
  conv=>whnf
  refine tc ?_
  exact uI
 | cons c s=>
  conv=>whnf
  refine ⟨fun _=>uH ?_,fun h=>absurd h (by simp <;> omega)⟩;refine ⟨fun h1=>?_,fun h1=>?_⟩
  ·conv=>whnf
   refine ⟨aw,c,rfl,uH ?_⟩;refine ⟨fun h2=>?_,fun h2=>?_⟩
   ·conv=>whnf
    refine ah Is ?_;refine ah (IY (c::s) 47 hs) ?_;have h1':s.length<=31:=by have:=h1;exact cN
    have e:lY (c::s)=m9 l8 (c::s) 47:=by unfold lY;simp [h2];omega
    refine ⟨fun h3=>?_,fun h3=>?_⟩
    all_goals ((conv=>whnf);(exact ⟨.inl rfl,_,.refl _,uN (by rw [e,h3])⟩))
   ·conv=>whnf
    (exact ⟨.inl rfl,_,.refl _,uN (by simp [lY,h2])⟩)
  ·conv=>whnf
   (exact ⟨.inl rfl,_,.refl _,uN (by simp [lY];simp at h1;omega)⟩)
def Qo {c:UInt8} {s:uu} (h:mF (c::s)=true):B2 (bI c)=true:=by
 unfold mF at h;simp only [dS,dT] at h;by_cases e:c=46
 ·subst e;have:=h.2 [] (by simp [xk]);exact absurd this ar
 ·have h1:(c == 46)=false:=by simpa using e
  cases h3:xk 46 s with
  | nil=>exact absurd h3 (Fk _ s)
  | cons x xs=>
   have:=h.2 (c::x) (by simp [xk,h1,h3]);simp only [xv,dS] at this;exact this.1.2
def VC {s:uu} (h:lY s=true):mn s=false:=by
 match s,h with
 | [],h=>exact absurd h ar
 | c::s,h=>
  have hc:c=47:=by
   simp only [lY,dS,gM] at h;exact UInt8.toNat_inj.1 (by have:=h.1.2;simp [bI] at this;show c.toNat=47;omega)
  subst hc;have h1:il (47::s) [42,46]=false:=by simp [il]
  have h2:mF (47::s)=false:=by
   cases e:mF (47::s) with
   | false=>rfl
   | true=>exact absurd (Qo e) ar
  simp [mn,h1,h2]
end Go.Nam
namespace Go.Hos
open Go.Ab Go.Proofs Tryz Go.Hy Go.Gat Go.Nam
def AO (s t:uu):Bool:=decide (t.length<=s.length) && (s.drop (s.length - t.length) == t)
def PO (s t:uu) (hs:s.length < 8000000000000):tn 212 [] [Tx s,Tx t] (Bo (AO s t)) []:=by
 refine ab func212 ?_;refine ⟨fun h=>?_,fun h=>?_⟩
 ·have h':t.length<=s.length:=by simp at h;omega
  have w:IntKind.i64.wrap ((s.length:Int) - (t.length:Int))=(s.length - t.length:Nat):=by rw [qZ aw aw];omega
  refine dd ?_;rw [w];refine ⟨aw,aw,aw,?_⟩;rw [gK,toNat_cast];refine dd ?_;(repeat' (first | (refine ⟨fun _=>?_,fun _=>?_⟩ <;> (conv=>whnf)) | fail))
  all_goals (exact ⟨.inl rfl,_,.refl _,uN (by simp_all [AO])⟩)
 ·refine dd ?_
  (exact ⟨.inl rfl,_,.refl _,uN (by simp [AO];simp at h;intros;omega)⟩)
def Ju (s t:uu) (hs:s.length < 8000000000000):tn 211 [] [Tx s,Tx t] (Bo (AO s t)) []:=by
 refine ab func211 ?_;refine ah (PO s t hs) ?_;(repeat' (first | (refine ⟨fun _=>?_,fun _=>?_⟩ <;> (conv=>whnf)) | fail))
 all_goals (rename_i h;(exact ⟨.inl rfl,_,.refl _,uN (by exact h.symm)⟩))
def BS (p h:uu):Bool:=match p with
 | c::t=>c == 42 && (t == [] || (decide (t.length < h.length) && AO h t))
 | []=>false
def wE (p h:uu):Bool:=mn p && mF h && (p == h || BS p h)
def UI (c:UInt8) (t:uu):kI (c::t) [42]=if c == 42 then (t,true) else (c::t,false):=by
 unfold kI il;by_cases h:c=42
 ·subst h;simp
 ·simp [h]
def Tz:mn []=false:=by decide
def N6 (p h:uu) (hp:p.length < 8000000000000) (hh:h.length < 8000000000000):tn 209 [] [Tx p,Tx h] (Bo (wE p h)) []:=by
 refine ab func209 ?_;refine ah (wF p aw) ?_;refine ⟨fun h1=>?_,fun h1=>?_⟩
 ·refine dd ?_;refine tc ?_
  refine ah (Ej h aw) ?_;refine ⟨fun h2=>?_,fun h2=>?_⟩
  ·refine dd ?_;refine tc ?_
   refine ah (kb p [42]) ?_;cases p with
   | nil=>rw [Tz] at h1;cases h1
   | cons c t=>
    rw [UI];by_cases hc:(c == 42)=true
    ·rw [dO hc];refine ⟨fun _=>dd ?_,fun h=>absurd h aj⟩;refine ⟨fun h3=>?_,fun h3=>?_⟩
     ·refine dd ?_;refine tc ?_
      (exact ⟨.inl rfl,_,.refl _,uN (by simp_all [wE])⟩)
     ·refine dd ?_;refine ⟨fun h4=>?_,fun h4=>?_⟩
      ·refine dd ?_;refine tc ?_
       (exact ⟨.inl rfl,_,.refl _,uN (by simp_all [wE,BS])⟩)
      ·refine dd ?_;refine ⟨fun h5=>?_,fun h5=>?_⟩
       ·refine dd ?_;refine ah (Ju h t hh) ?_;(repeat' (first | (refine ⟨fun _=>?_,fun _=>?_⟩ <;> (conv=>whnf)) | fail))
        all_goals (rename_i h6;(exact ⟨.inl rfl,_,.refl _,uN (by simp at hc;subst hc;simp at h3 h4 h5;simp [wE,BS,h1,h2,h3,h4,h5,h6])⟩))
       ·refine dd ?_
        (exact ⟨.inl rfl,_,.refl _,uN (by simp at hc;subst hc;simp at h3 h4 h5;simp [wE,BS,h1,h2,h3,h4];intros;omega)⟩)
    ·rw [dL hc];refine uG ?_;refine ⟨fun h3=>?_,fun h3=>?_⟩
     ·refine dd ?_;refine tc ?_
      (exact ⟨.inl rfl,_,.refl _,uN (by simp_all [wE])⟩)
     ·refine dd ?_
      (exact ⟨.inl rfl,_,.refl _,uN (by simp at h3 hc;simp [wE,BS,h1,h2,h3,hc])⟩)
  ·refine dd ?_;refine tc ?_
   (exact ⟨.inl rfl,_,.refl _,uN (by simp_all [wE])⟩)
 ·refine dd ?_;refine tc ?_
  (exact ⟨.inl rfl,_,.refl _,uN (by simp_all [wE])⟩)
def Cl (p t:uu):Bool:=lY p && lY t && il p t && (p.drop t.length == [] || AO t [47] || (p.drop t.length).head? == some 47)
def Uk {s:uu} {c:UInt8} (h:s[0]?= some c):(s.head? == some 47)=(bI c == 47):=by
 rw [List.head?_eq_getElem?,h];by_cases e:c=47
 ·subst e;rfl
 ·have h1:¬bI c=47:=fun h=>e (by
   unfold bI at h;have h':c.toNat=47:=aw
   exact UInt8.toNat_inj.1 (by rw [h'];rfl))
  have h2:(c == 47)=false:=aq e
  have h3:(bI c == 47)=false:=aq h1
  rw [h3];simpa using e
def OG (p t:uu) (hp:p.length < 8000000000000) (ht:t.length < 8000000000000):tn 210 [] [Tx p,Tx t] (Bo (Cl p t)) []:=by
 refine ab func210 ?_;refine ah (D9 p aw) ?_;refine ⟨fun h1=>?_,fun h1=>?_⟩
 ·refine dd ?_;refine tc ?_
  refine ah (D9 t aw) ?_;refine ⟨fun h2=>?_,fun h2=>?_⟩
  ·refine dd ?_;refine tc ?_
   refine ah (kb p t) ?_;by_cases h3:il p t=true
   ·have e:kI p t=(p.drop t.length,true):=by unfold kI;rw [dO h3]
    rw [e];refine ⟨fun _=>dd ?_,fun h=>absurd h aj⟩;refine ⟨fun h4=>?_,fun h4=>?_⟩
    ·refine dd ?_;refine tc ?_
     (exact ⟨.inl rfl,_,.refl _,uN bH⟩)
    ·refine dd ?_;refine ah (Ju t [47] ht) ?_;refine ⟨fun h5=>?_,fun h5=>?_⟩
     ·refine dd ?_;refine tc ?_
      (exact ⟨.inl rfl,_,.refl _,uN bH⟩)
     ·refine dd ?_
      obtain ⟨c,hc⟩:∃ c,(p.drop t.length)[0]?= some c:=by
       cases hd:p.drop t.length with
       | nil=>rw [hd] at h4;simp at h4
       | cons c _=>exact ⟨c,rfl⟩
      refine ⟨aw,c,hc,dd ?_⟩;(repeat' (first | (refine ⟨fun _=>?_,fun _=>?_⟩ <;> (conv=>whnf)) | fail))
      all_goals (rename_i h6;(exact ⟨.inl rfl,_,.refl _,uN (by simp only [Cl,h1,h2,h3,h4,h5,Uk hc];simpa using h6.symm)⟩))
   ·have e:kI p t=(p,false):=by unfold kI;rw [dL h3]
    rw [e];refine uG ?_
    (exact ⟨.inl rfl,_,.refl _,uN bH⟩)
  ·refine dd ?_;refine tc ?_
   (exact ⟨.inl rfl,_,.refl _,uN bH⟩)
 ·refine dd ?_;refine tc ?_
  (exact ⟨.inl rfl,_,.refl _,uN bH⟩)
def yw (p:uu):Int:=if mn p then (if il p [42,46] then ((p.length - 2:Nat):Int) else if p == [42] then 0 else 100) else 0
def Hr (p:uu) (hp:p.length < 8000000000000):tn 208 [] [Tx p] (I (yw p)) []:=by
 refine ab func208 ?_;refine ah (wF p aw) ?_;refine ⟨fun h1=>?_,fun h1=>?_⟩
 ·refine dd ?_;refine tc ?_
  refine ah (kb p [42,46]) ?_;by_cases h3:il p [42,46]=true
  ·have e:kI p [42,46]=(p.drop 2,true):=by unfold kI;rw [dO h3];rfl
   have ew:yw p=((p.drop 2).length:Nat):=by simp [yw,h1,h3]
   rw [e,ew];refine ⟨fun _=>dd ?_,fun h=>absurd h aj⟩;exact uI
  ·have e:kI p [42,46]=(p,false):=by unfold kI;rw [dL h3]
   rw [e];refine uG ?_;refine ⟨fun h4=>?_,fun h4=>?_⟩
   ·have ew:yw p=0:=by simp_all [yw]
    rw [ew];exact de
   ·have ew:yw p=100:=by simp_all [yw]
    rw [ew];exact de
 ·have ew:yw p=0:=by simp_all [yw]
  rw [ew];refine dd ?_;refine tc ?_
  exact uI
def CW (p q p' q':uu):Bool:=if yw p=yw p' then decide (q'.length < q.length) else decide (yw p' < yw p)
def MV (p q p' q':uu) (hp:p.length < 8000000000000) (hq:p'.length < 8000000000000):tn 204 [] [Tx p,Tx q,Tx p',Tx q'] (Bo (CW p q p' q')) []:=by
 refine ab func204 ?_;refine ah (Hr p hp) ?_;refine ah (Hr p' hq) ?_;refine ⟨fun h1=>?_,fun h1=>?_⟩
 ·refine dd ?_;(repeat' (first | (refine ⟨fun _=>?_,fun _=>?_⟩ <;> (conv=>whnf)) | fail))
  all_goals (rename_i h2;(exact ⟨.inl rfl,_,.refl _,uN (by simp_all [CW])⟩))
 ·refine dd ?_;(repeat' (first | (refine ⟨fun _=>?_,fun _=>?_⟩ <;> (conv=>whnf)) | fail))
  all_goals (rename_i h2;(exact ⟨.inl rfl,_,.refl _,uN (by simp_all [CW])⟩))
end Go.Hos
namespace Go.Con
open Go.Ab Go.Proofs Tryz Go.Hy Go.Gat Go.Nam Go.Hos
def Bu {α:Type} (l:List α) (p:α->Bool):decide ((match l.findIdx? p with | some i=>(i:Int) | none=> -1)≥0)=l.any p:=by
 cases h:l.findIdx? p with
 | none=>
  rw [gy] at h
  symm
  simp only [Int.reduceNeg,ge_iff_le,Int.reduceLE,decide_false];rw [gI];intro x hx;simp [h x hx]
 | some i=>
  obtain ⟨h1,h2,_⟩:=gk.1 h
  symm
  have:(0:Int)<=(i:Int):=tt i;simp only [ge_iff_le,this,decide_true];rw [pI];exact ⟨_,gH h1,h2⟩
abbrev Cc (c:eC):C:=.agg (jV c)
def Pu {H:zl} {f:FuncId} {caps:List C} {l:List eC} (p:eC->Bool) (hcb:qm prog f=true) (hp:∀ r ∈ l,tn f H ([Cc r]++caps) (Bo (p r)) H) (hl:l.length < 4611686018427387904):
  tn 171 H [lC l,.fn f [] caps] (I (match l.findIdx? p with | some i=>(i:Int) | none=> -1)) H:=by
 refine zb.zS (fn:=f171) func171 rfl (uH ?_)
 refine z5.inv (fun n t1 H1=>∃ k,k+n=l.length∧H1=H∧(∀ j,j < k->∀ r,l[j]?= some r->p r=false)∧
   t1=((lC l)::.fn f [] caps::.za::.za::I 0::.za::.za::I (l.map jV).length::I k::tZ ([.za,.za]))) l.length ?_ ?_
 ·exact cS
 rintro n _ _ ⟨k,hk,rfl,hno,rfl⟩;conv=>whnf
 refine ⟨fun h=>?_,fun h=>?_⟩
 ·conv=>whnf
  have uj:k < l.length:=aq h
  refine ⟨aw,jV l[k],aW,uH ?_⟩;rw [hcb];refine ⟨_,_,hp _ (gH uj),uH ?_⟩;refine ⟨fun h2=>?_,fun h2=>?_⟩
  ·conv=>whnf
   refine .inr ⟨aj,uH ?_⟩;refine ⟨.inl rfl,_,.refl _,rfl,?_⟩
   have:l.findIdx? p=some k:=by
    rw [gk];refine ⟨uj,h2,fun j hj=>?_⟩;simp [hno j hj _ (dK aw)]
   rw [this]
   rfl
  ·conv=>whnf
   refine .inl ⟨rfl,n - 1,_,_,aw,zo.mask [0,1,4,7,8] _ _,k+1,aw,rfl,?_,?_⟩
   ·intro j hj r hr;by_cases hjk:j=k
    ·subst hjk;rw [dK uj] at hr;cases hr
     exact h2
    ·exact hno j aw r hr
   ·rw [zu aw];rfl
 ·conv=>whnf
  refine .inr ⟨aj,uH ?_⟩;refine ⟨.inl rfl,_,.refl _,rfl,?_⟩
  have:l.findIdx? p=none:=by
   rw [gy];intro x hx;obtain ⟨j,hj⟩:=gh.1 hx;have hjl:=(dJ.1 hj).1;have:¬k < l.length:=aq h
   exact hno j aw x hj
  rw [this]
  rfl
def Ot {H:zl} {f:FuncId} {caps:List C} {l:List eC} (p:eC->Bool) (hcb:qm prog f=true) (hp:∀ r ∈ l,tn f H ([Cc r]++caps) (Bo (p r)) H) (hl:l.length < 4611686018427387904):
  tn 135 H [lC l,.fn f [] caps] (Bo (l.any p)) H:=by
 refine zb.zS (fn:=f135) func135 rfl (uH ?_);refine ⟨_,_,Pu p hcb hp hl,dd ?_⟩;rw [show decide ((match l.findIdx? p with | some i=>((i:Nat):Int) | none=>(-1:Int))≥(0:Int))=l.any p from Bu l p];refine ⟨fun h=>?_,fun h=>?_⟩ <;> rw [h]
 ·exact dc
 ·exact dc
def Nu (s:uu) (c:eC):tn 136 [⟨1,9,1,[[Tx s]],0⟩] [Cc c,.ref 0 [] 1 0 0] (Bo (c.name == s)) [⟨1,9,1,[[Tx s]],0⟩]:=by
 refine zb.zS (fn:=f136) func136 rfl (uH ?_);refine ⟨fun h=>?_,fun h=>?_⟩ <;> rw [h]
 ·conv=>whnf
  exact cU
 ·conv=>whnf
  exact cU
def ns (l:List eC) (s:uu):Bool:=l.any fun c=>c.name == s
def HV (l:List eC) (s:uu) (hl:l.length < 4611686018427387904):tn 105 [] [lC l,Tx s] (Bo (ns l s)) []:=by
 refine ab func105 ?_;refine ⟨_,_,Ot (fun c=>c.name == s) au (fun r _=>Nu s r) hl,dd ?_⟩;refine ⟨fun h=>?_,fun h=>?_⟩
 ·refine dd ?_
  (exact ⟨.inl rfl,_,.refl _,uN (by exact h.symm)⟩)
 ·refine dd ?_
  (exact ⟨.inl rfl,_,.refl _,uN (by exact h.symm)⟩)
def xR (n a b:Int):tn 104 [] [I n,I a,I b] (Bo (decide (a<=n) && decide (n<=b))) []:=by
 refine ab func104 ?_;(repeat' (first | (refine ⟨fun _=>?_,fun _=>?_⟩ <;> (conv=>whnf)) | fail))
 all_goals (exact ⟨.inl rfl,_,.refl _,uN (by simp_all <;> omega)⟩)
def yE (l:List uu) (s:uu):Int:=match l.findIdx? (fun x=>x == s) with | some i=>(i:Int) | none=> -1
def PA (l:List uu) (s:uu) (hl:l.length < 4611686018427387904):tn 93 [] [lT l,Tx s] (I (yE l s)) []:=by
 have hlm:(l.map qj).length=l.length:=dP ..;refine ab func93 ?_;rw [hlm];refine z5.seq l.length (fun k=>((lT l)::(Tx s)::.za::.za::I 0::.za::.za::I l.length::I k::tZ ([.za,.za]))) (fun k=>[]) (fun k=>∀ j,(h:j < l.length)->j < k->(l[j] == s)=false) ?_ aj (fun k hk hr=>?_) (fun hr=>?_)
 ·exact cC
 ·have hg:(l.map qj)[k]?= some (qj l[k]):=by rw [dN,dK hk];rfl
  conv=>whnf
  refine ⟨fun _=>dd ?_,fun h=>absurd h aA⟩;refine td hg ?_;refine ⟨fun h2=>?_,fun h2=>?_⟩
  ·refine dd ?_;refine .inr ⟨aj,uH ?_⟩
   have e:yE l s=k:=by
    unfold yE
    have:l.findIdx? (fun x=>x == s)=some k:=by
     rw [gk];refine ⟨hk,?_,fun j hj=>by simp only [hr j aw hj];decide⟩;simp at h2;simp [h2]
    rw [this]
   rw [e];exact uI
  ·refine dd ?_;refine .inl ⟨rfl,?_,fun j hj hjk=>?_⟩
   ·rw [zu aw];exact cE 0
   ·by_cases e:j=k
    ·subst e;simp at h2 ⊢;exact fun h=>h2 h.symm
    ·exact hr j hj aw
 ·conv=>whnf
  refine ⟨fun h=>absurd h aj,fun _=>dd ?_⟩;refine ⟨aj,uH ?_⟩
  have e:yE l s= -1:=by
   unfold yE
   have:l.findIdx? (fun x=>x == s)=none:=by
    rw [gy];intro x hx;obtain ⟨j,hj,rfl⟩:=gX.1 hx;exact hr j hj hj
   rw [this]
  rw [e];exact uI
def RY (l:List uu) (s:uu):decide (yE l s≥0)=l.any (fun x=>x == s):=Bu l _
def Ch (l:List uu) (s:uu) (hl:l.length < 4611686018427387904):tn 68 [] [lT l,Tx s] (Bo (l.any fun x=>x == s)) []:=by
 refine ab func68 ?_;refine ah (PA l s hl) ?_;rw [RY];refine ⟨fun h=>?_,fun h=>?_⟩
 ·refine dd ?_
  (exact ⟨.inl rfl,_,.refl _,uN (by exact h.symm)⟩)
 ·refine dd ?_
  (exact ⟨.inl rfl,_,.refl _,uN (by exact h.symm)⟩)
end Go.Con
