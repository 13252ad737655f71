import Derived.Lib.Bytealg
import Derived.WalkKit
import Derived.IntWalk
import Derived.Test.YtkbnjgogjccmfaaGreatTC
import Derived.Test.YtkbnjgogjccmfaaGreatTJ
import Derived.Test.YtkbnjgogjccmfaaGreatProg
set_option linter.all false
set_option maxRecDepth 100000
set_option maxHeartbeats 4000000
namespace Go.Gat
open Go.Ab Go.Proofs Tryz Go.Hy
def CR (n:Int):Bool:=decide (97<=n) && decide (n<=122)
def mD (n:Int):Bool:=CR n || (decide (48<=n) && decide (n<=57)) || (n == 45)
abbrev By (n:Int):C:=.v (.int .u8 n)
def JP (n:Int):tn 82 [] [By n] (Bo (CR n)) []:=by
 refine ab func82 ?_;(repeat' (first | (refine ⟨fun _=>?_,fun _=>?_⟩ <;> (conv=>whnf)) | fail))
 all_goals (exact ⟨.inl rfl,_,.refl _,uN (by simp_all [CR] <;> (intros;omega))⟩)
def OU (n:Int):tn 109 [] [By n] (Bo (mD n)) []:=by
 refine ab func109 ?_;refine ah (JP n) ?_;(repeat' (first | (refine ⟨fun _=>?_,fun _=>?_⟩ <;> (conv=>whnf)) | fail))
 all_goals (exact ⟨.inl rfl,_,.refl _,uN (by simp_all [mD] <;> (intros;omega))⟩)
def Jw:tn 83 [] [] (.agg [.fn 109 [] []]) []:=by
 refine ab func83 ?_;exact uI
abbrev bI (c:UInt8):Int:=(c.toNat:Int)
def nJ (p:Int->Bool) (s:u4) (other:Int):Bool:=s.all fun c=>bI c == other || p (bI c)
def OV {p:Int->Bool} {s:u4} {other:Int} {k:Nat} (hk:k < s.length) (h1:(bI s[k] == other)=false) (h2:p (bI s[k])=false):nJ p s other=false:=by
 unfold nJ;rw [rM];exact ⟨s[k],gQ hk,by simp [h1,h2]⟩
def J7 (s:u4) (other:Int) (hs:s.length < 4611686018427387904):tn 84 [] [.agg [.fn 109 [] []],Tx s,By other] (Bo (nJ mD s other)) []:=by
 refine ab func84 ?_;refine zZ.seq s.length (fun k=>(.agg [.fn 109 [] []]::(Tx s)::(By other)::.ref 0 [] 1 0 0::.za::.za::Bo false::.za::.za::I s.length::I k::tZ (tZ ([.za])))) (fun k=>[⟨1,185,1,[[.fn 109 [] []]],0⟩]) (fun k=>∀ j,(h:j < s.length)->j < k->(bI s[j] == other || mD (bI s[j]))=true) ?_ aj (fun k hk hr=>?_) (fun hr=>?_)
 ·exact cC
 ·conv=>whnf
  refine ⟨fun h=>uH ?_,fun h=>absurd h aA⟩;refine uE ?_;refine ⟨aw,s[k],by simp [hk],uH ?_⟩;refine ⟨fun h1=>?_,fun h1=>?_⟩
  ·refine dd ?_;refine ⟨aw,s[k],by simp [hk],dd ?_⟩;refine ah (OU (bI s[k])) ?_;refine ⟨fun h2=>?_,fun h2=>?_⟩
   ·refine dd ?_;refine .inl ⟨rfl,?_,?_⟩
    ·exact dt
    ·intro j hj hjk;by_cases e:j=k
     ·subst e;simp [h2]
     ·exact hr j hj aw
   ·refine dd ?_;refine .inr ⟨aj,uH ?_⟩
    (exact ⟨.inl rfl,_,.refl _,uN (by exact (OV hk tG h2).symm)⟩)
  ·refine dd ?_;refine .inl ⟨rfl,?_,?_⟩
   ·exact dt
   ·intro j hj hjk;by_cases e:j=k
    ·subst e;simp at h1;simp [h1]
    ·exact hr j hj aw
 ·conv=>whnf
  refine ⟨fun h=>absurd h aj,fun h=>uH ?_⟩;refine ⟨aj,uH ?_⟩
  have e:nJ mD s other=true:=by
   unfold nJ;rw [dV];intro x hx;obtain ⟨j,hj,rfl⟩:=pa.1 hx;exact hr j hj hj
  exact ⟨.inl rfl,_,.refl _,by rw [e];rfl⟩
def xh (s:u4):Bool:=decide (0 < s.length) && decide (s.length<=16) && (match s with | c::_=>CR (bI c) | []=>false) && s.all fun c=>mD (bI c)
def Rk (s:u4):nJ mD s 45=s.all fun c=>mD (bI c):=by
 unfold nJ
 congr 1
 funext c
 cases h:(bI c == 45) with
 | false=>rfl
 | true=>simp at h;simp [mD,h]
def yy (s:u4) (hs:s.length < 4611686018427387904):tn 58 [] [Tx s] (Bo (xh s)) []:=by
 refine zb.zp (fn:=f58) func58 rfl ?_;cases s with
 | nil=>
  conv=>whnf
  refine tc ?_
  exact uI
 | cons c s=>
  conv=>whnf
  refine ⟨fun _=>uH ?_,fun h=>absurd h (by simp <;> omega)⟩;refine ⟨fun h1=>?_,fun h1=>?_⟩
  ·conv=>whnf
   refine ⟨aw,c,rfl,uH ?_⟩;refine ah (JP (bI c)) ?_;refine ⟨fun h2=>?_,fun h2=>?_⟩
   ·conv=>whnf
    refine ah Jw ?_;refine ah (J7 (c::s) 45 hs) ?_;have h1':s.length<=15:=by have:=h1;exact cP
    have e:xh (c::s)=nJ mD (c::s) 45:=by rw [Rk];unfold xh;simp [h2];omega
    refine ⟨fun h3=>?_,fun h3=>?_⟩
    all_goals ((conv=>whnf);(exact ⟨.inl rfl,_,.refl _,uN (by rw [e,h3])⟩))
   ·conv=>whnf
    (exact ⟨.inl rfl,_,.refl _,uN (by simp [xh,h2])⟩)
  ·conv=>whnf
   (exact ⟨.inl rfl,_,.refl _,uN (by simp [xh];simp at h1;omega)⟩)
end Go.Gat
namespace Go.Nam
open Go.Ab Go.Proofs Tryz Go.Hy Go.Gat Go.RowKit
def yX (b:UInt8) (s:u4):u4:=s.takeWhile (· != b)
def nC (b:UInt8) (s:u4):u4:=(s.dropWhile (· != b)).drop 1
def xy (b:UInt8):u4->List u4
 | []=>[[]]
 | c::s=>if c == b then []::xy b s else match xy b s with
  | p::ps=>(c::p)::ps
  | []=>[[c]]
def Gp (b:UInt8) (s:u4):xy b s≠[]:=by
 cases s with
 | nil=>simp [xy]
 | cons c s=>unfold xy;split;simp;split <;> simp
def Da {b:UInt8}:∀ {s:u4},b ∉ s->xy b s=[s]
 | [],_=>rfl
 | c::s,h=>by
  have h1:(c == b)=false:=by simp;intro e;subst e;exact h (pz ..)
  have h2:=Da (s:=s) fun e=>h (pj _ e)
  simp [xy,h1,h2]
def BK {b:UInt8}:∀ {s:u4},b ∈ s->xy b s=yX b s::xy b (nC b s)
 | [],h=>by simp at h
 | c::s,h=>by
  by_cases e:c=b
  ·subst e;simp [xy,yX,nC]
  ·have h1:(c == b)=false:=by simpa using e
   have h2:=BK (s:=s) bJ;have h3:(c != b)=true:=aq e
   simp only [xy,h1,rU,if_false,h2,yX,nC,sF,List.dropWhile_cons,h3,if_true]
def KL {b:UInt8}:∀ {s:u4},b ∉ s->Lib.indexByte s b= -1
 | [],_=>rfl
 | c::s,h=>by
  have h1:(c == b)=false:=by simp;intro e;subst e;exact h (pz ..)
  have h2:=KL (s:=s) fun e=>h (pj _ e)
  simp [Lib.indexByte,h1,h2]
def FH {b:UInt8}:∀ {s:u4},b ∈ s->Lib.indexByte s b=((yX b s).length:Int)
 | [],h=>by simp at h
 | c::s,h=>by
  by_cases e:c=b
  ·subst e;simp [Lib.indexByte,yX]
  ·have h1:(c == b)=false:=by simpa using e
   have h3:(c != b)=true:=aq e
   have h2:=FH (s:=s) bJ;have h4:((yX b s).length == (-1:Int))=false:=by rw [beq_eq_false_iff_ne];omega
   simp only [Lib.indexByte,h1,rU,if_false,h2,yX,sF,h3,if_true,pV];rw [show ((↑(List.takeWhile (fun x=>x != b) s).length:Int) == -1)=false from h4];simp
def head_take (b:UInt8) (s:u4):s.take (yX b s).length=yX b s:=by
 induction s with
 | nil=>rfl
 | cons c s ih=>
  by_cases e:c=b
  ·subst e;simp [yX]
  ·have h3:(c != b)=true:=by simpa using e
   simp only [yX,sF,h3,if_true,pV,List.take_succ_cons];rw [show List.take (List.takeWhile (fun x=>x != b) s).length s=yX b s from ih];rfl
def tail_drop (b:UInt8) (s:u4):s.drop ((yX b s).length+1)=nC b s:=by
 induction s with
 | nil=>rfl
 | cons c s ih=>
  by_cases e:c=b
  ·subst e;simp [yX,nC]
  ·have h3:(c != b)=true:=by simpa using e
   simp only [yX,nC,sF,List.dropWhile_cons,h3,if_true,pV,List.drop_succ_cons];exact ih
def F9 {b:UInt8} {s:u4} (h:b ∈ s):(yX b s).length < s.length:=by
 have h1:=tail_drop b s;have h2:s.length≠0:=by intro e;rw [pU.1 e] at h;simp at h
 have h3:(yX b s).length<=s.length:=List.Sublist.length_le (List.takeWhile_sublist _);rcases rm (yX b s).length s.length with h4 | h4
 ·exact h4
 ·have h5:=head_take b s;rw [rG h4] at h5;have:b ∈ yX b s:=by rw [<- h5];exact h
  have:=List.all_takeWhile (l:=s) (p:=(· != b));rw [dV] at this;have:=this b (by assumption);simp at this
def xR (b:UInt8) (s:u4):Nat->u4
 | 0=>s
 | k+1=>nC b (xR b s k)
def Cn {b:UInt8}:∀ {k:Nat} {s:u4},k+1 < (xy b s).length->b ∈ xR b s k∧(xy b s)[k]?= some (yX b (xR b s k))∧xy b (xR b s (k+1))=(xy b s).drop (k+1)
 | 0,s,h=>by
  have hb:b ∈ s:=by
   rcases Classical.em (b ∈ s) with h1 | h1
   ·exact h1
   ·rw [Da h1] at h;simp at h
  exact ⟨hb,by rw [BK hb];rfl,by rw [BK hb];rfl⟩
 | k+1,s,h=>by
  obtain ⟨h1,h2,h3⟩:=Cn (b:=b) (k:=k) (s:=s) aw
  have hb:b ∈ xR b s (k+1):=by
   rcases Classical.em (b ∈ xR b s (k+1)) with h4 | h4
   ·exact h4
   ·rw [Da h4] at h3;have:=pW List.length h3;exact cP
  have h5:=BK hb;rw [h3] at h5;refine ⟨hb,?_,?_⟩
  ·have:=pW (fun l=>l[0]?) h5;simpa using this
  ·have:=pW (fun l=>l.drop 1) h5;simp at this;show xy b (nC b (xR b s (k+1)))=_;rw [<- this]
def KA {b:UInt8} {k:Nat} {s:u4} (h:k+1=(xy b s).length):b ∉ xR b s k∧(xy b s)[k]?= some (xR b s k):=by
 have h3:xy b (xR b s k)=(xy b s).drop k:=by
  cases k with
  | zero=>rfl
  | succ k=>exact (Cn (b:=b) (s:=s) (k:=k) aw).2.2
 have h4:b ∉ xR b s k:=by
  intro hb;rw [BK hb] at h3;have:=pW List.length h3
  have h5:(xy b (nC b (xR b s k))).length≠0:=by
   intro e;exact Gp b _ (pU.1 e)
  exact cP
 refine ⟨h4,?_⟩;rw [Da h4] at h3;have:=pW (fun l=>l[0]?) h3;simpa using this.symm
def B3 (b:UInt8) (s:u4):∀ k,(xR b s k).length<=s.length
 | 0=>dW _
 | k+1=>by
  have h1:((xR b s k).dropWhile (· != b)).length<=(xR b s k).length:=List.Sublist.length_le (List.dropWhile_sublist _);have:=B3 b s k;simp only [xR,nC,List.length_drop];omega
def Sp (s:ByteArray) (c:Int) (w:World):Calls prog 199 #[.string s,.int .u8 c] w fun e w'=>e=.returned (.int .i64 (Lib.indexByte s.data.toList c.toNat.toUInt8))∧w'=w:=by
 go_enter func199,Tryz.ntmps199
 go_wp2
 rw [run_callFunc_extern func202 au au au (e:=Extern.BytealgIndexByte.indexByte) au,Lib.run_indexByteString];simp only [Result.andThen];rw [Oper.upon_value]
 go_wp2
 go_ret
 exact ⟨rfl,rfl⟩
def Pt (s:u4) (b:UInt8):tn 199 [] [Tx s,By (bI b)] (I (Lib.indexByte s b)) []:=by
 have e:(bI b).toNat.toUInt8=b:=by simp [bI]
 refine Dt [] (fun w=>?_) GY fun E=>.v _ rfl
 have:=Sp ⟨⟨s⟩⟩ (bI b) w;rw [e] at this;exact dy
def BQ (s:u4) (b:UInt8):tn 193 [] [Tx s,By (bI b)] (I (Lib.indexByte s b)) []:=by
 refine ab func193 ?_;refine ah (Pt s b) ?_;exact uI
end Go.Nam
namespace Go.Nam
open Go.Ab Go.Proofs Tryz Go.Hy Go.Gat
def Pk (X:Ob) (s:u4) (b:UInt8):tn 173 [X] [Tx s,By (bI b)] (.fn 192 [] [.ref 1 [] 1 0 0,.ref 2 [] 1 0 0]) [X,⟨1,9,1,[[Tx s]],0⟩,⟨1,5,1,[[By (bI b)]],0⟩]:=by
 refine zb.zU (fn:=f173) func173 rfl (uH ?_);exact uJ
def Im (l:Nat) (s:u4) (b:UInt8) (hs:s.length < 4611686018427387904) (X:Nat->Ob) (Y:Nat->List Ob) (j:Nat) (g:Bool) (hj:j < (xy b s).length) (hend:g=false∨j+1=(xy b s).length)
  (hy:∀ k p,k < j->(xy b s)[k]?= some p->ju prog l (X k::⟨1,9,1,[[Tx (xR b s k)]],0⟩::⟨1,5,1,[[By (bI b)]],0⟩::Y k) [Tx p] (Bo true) (X (k+1)::⟨1,9,1,[[Tx (xR b s k)]],0⟩::⟨1,5,1,[[By (bI b)]],0⟩::Y (k+1)))
  (hz:∀ p,(xy b s)[j]?= some p->ju prog l (X j::⟨1,9,1,[[Tx (xR b s j)]],0⟩::⟨1,5,1,[[By (bI b)]],0⟩::Y j) [Tx p] (Bo g) (X (j+1)::⟨1,9,1,[[Tx (xR b s j)]],0⟩::⟨1,5,1,[[By (bI b)]],0⟩::Y (j+1))):
  tn 192 (X 0::⟨1,9,1,[[Tx (xR b s 0)]],0⟩::⟨1,5,1,[[By (bI b)]],0⟩::Y 0) [.v (.func (.yield l) #[] #[]),.ref 1 [] 1 0 0,.ref 2 [] 1 0 0] (.u1 []) (X (j+1)::⟨1,9,1,[[Tx (xR b s j)]],0⟩::⟨1,5,1,[[By (bI b)]],0⟩::Y (j+1)):=by
 refine zb.zU (fn:=f192) func192 rfl (uH ?_);refine zZ.seq j (fun k=>(.v (.func (.yield l) #[] #[])::.ref 1 [] 1 0 0::.ref 2 [] 1 0 0::tZ (tZ ([.za,.za,.za,.za])))) (fun k=>X k::⟨1,9,1,[[Tx (xR b s k)]],0⟩::⟨1,5,1,[[By (bI b)]],0⟩::Y k) (fun _=>True) ?_ trivial (fun k hk _=>?_) (fun _=>?_)
 ·exact cC
 ·obtain ⟨h1,h2,h3⟩:=Cn (b:=b) (s:=s) (k:=k) aw;have h4:=B3 b s k;have h5:=F9 h1;conv=>whnf
  refine ⟨_,_,(BQ (xR b s k) b).frame rfl _,?_⟩;rw [FH h1];conv=>whnf
  refine ⟨fun h=>absurd h aj,fun _=>dd ?_⟩;refine ⟨aw,aw,aA,?_⟩;rw [toNat_cast,sf,head_take];conv=>whnf
  refine ⟨_,_,hy k _ hk h2,dd ?_⟩;refine tc ?_
  rw [zu aw,toNat_cast];refine ⟨aw,uH ?_⟩;refine ⟨aw,aw,?_⟩;rw [gO,tail_drop];conv=>whnf
  exact .inl ⟨rfl,cC,trivial⟩
 ·have h4:=B3 b s j;by_cases hl:j+1=(xy b s).length
  ·obtain ⟨h1,h2⟩:=KA hl;conv=>whnf
   refine ⟨_,_,(BQ (xR b s j) b).frame rfl _,?_⟩;rw [KL h1];conv=>whnf
   refine ⟨fun _=>dd ?_,fun h=>absurd h aj⟩;refine ⟨_,_,hz _ h2,uH ?_⟩;refine ⟨fun _=>?_,fun _=>?_⟩ <;>
   ·conv=>whnf
    exact ⟨aj,.inl rfl,_,.refl _,rfl,rfl⟩
  ·obtain ⟨h1,h2,h3⟩:=Cn (b:=b) (s:=s) (k:=j) aw;have h5:=F9 h1;have hg:g=false:=by rcases hend with h | h;exact h;exact absurd h hl
   subst hg;conv=>whnf
   refine ⟨_,_,(BQ (xR b s j) b).frame rfl _,?_⟩;rw [FH h1];conv=>whnf
   refine ⟨fun h=>absurd h aj,fun _=>dd ?_⟩;refine ⟨aw,aw,aA,?_⟩;rw [toNat_cast,sf,head_take];conv=>whnf
   refine ⟨_,_,hz _ h2,dd ?_⟩;refine tc ?_
   exact ⟨aj,.inl rfl,_,.refl _,rfl,rfl⟩
def mV (s:u4):Bool:=decide (s.length<=32) && (xy 46 s).all xh
def UK (b:UInt8) (s:u4) (k:Nat) (p:u4) (h:(xy b s)[k]?= some p):p.length<=s.length:=by
 have hk:=(dL.1 h).1;by_cases hl:k+1=(xy b s).length
 ·obtain ⟨h1,h2⟩:=KA hl;rw [h2] at h;cases h;exact B3 b s k
 ·obtain ⟨h1,h2,h3⟩:=Cn (b:=b) (s:=s) (k:=k) aw;rw [h2] at h;cases h
  have:=F9 h1;have:=B3 b s k;omega
def E9 (s:u4) (hs:s.length < 4611686018427387904):tn 138 [] [Tx s] (Bo (mV s)) []:=by
 refine ab func138 ?_;refine ⟨fun h=>?_,fun h=>?_⟩
 ·refine dd ?_
  (exact ⟨.inl rfl,_,.refl _,uN (by simp [mV];simp at h;omega)⟩)
 ·refine dd ?_;refine ⟨_,_,Pk _ s 46,uH ?_⟩;have hn:=Gp 46 s
  have hlen:0 < (xy 46 s).length:=by
   rcases rX (xy 46 s).length with e | e
   ·exact absurd (pU.1 e) hn
   ·exact e
  have hple:∀ (k:Nat) (p:u4),(xy 46 s)[k]?= some p->p.length < 4611686018427387904:=fun k p hp=>by have:=UK 46 s k p hp;omega
  refine ⟨_,.refl _,?_⟩;by_cases z7:(xy 46 s).all xh=true
  ·have hname:∀ (k:Nat) p,(xy 46 s)[k]?= some p->xh p=true:=fun k p hp=>dV.1 z7 p (dO hp)
   refine ⟨.normal,_,[⟨1,4,1,[[Bo false]],0⟩],fun l r h1 h2 h3 h4 h5=>⟨_,_,r,Im l s 46 hs (fun _=>⟨1,4,1,[[Bo false]],0⟩) (fun _=>[fh l r _]) ((xy 46 s).length - 1) true aw (.inr aw) (fun k p hk hp=>?_) (fun p hp=>?_),
    rfl,ba,rfl,gA _,bb,zo.low 1 _ _ rfl rfl rfl⟩,?_⟩
   ·refine ju.zU (id:=3) rfl h1 h2 h3 h4 h5 rfl rfl rfl ?_;conv=>whnf
    refine ⟨rfl,rfl,uH ?_⟩;refine ah (yy p (hple _ _ hp)) ?_;refine ⟨fun _=>dd ?_,fun h=>absurd ((hname _ _ hp).symm.trans h:true=false) ar⟩;exact cR
   ·refine ju.zU (id:=3) rfl h1 h2 h3 h4 h5 rfl rfl rfl ?_;conv=>whnf
    refine ⟨rfl,rfl,uH ?_⟩;refine ah (yy p (hple _ _ hp)) ?_;refine ⟨fun _=>dd ?_,fun h=>absurd ((hname _ _ hp).symm.trans h:true=false) ar⟩;exact cR
   ·conv=>whnf
    (exact ⟨.inl rfl,_,.refl _,uN (by simp [mV,z7];simp at h;omega)⟩)
  ·obtain ⟨j,hj⟩:∃ j,(xy 46 s).findIdx? (fun p=>!xh p)=some j:=by
    cases e:(xy 46 s).findIdx? (fun p=>!xh p) with
    | some j=>exact ⟨j,rfl⟩
    | none=>
     exfalso
     rw [gC] at e;exact z7 (dV.2 fun x hx=>by simpa using e x hx)
   rw [gy] at hj;obtain ⟨hjl,hj1,hj2⟩:=hj;have z7:(xy 46 s).all xh=false:=aq z7
   refine ⟨.ret,_,[⟨1,4,1,[[Bo false]],0⟩],fun l r h1 h2 h3 h4 h5=>⟨_,_,left r .ret,Im l s 46 hs (fun _=>⟨1,4,1,[[Bo false]],0⟩) (fun k=>[fh l (if k < j+1 then r else left r .ret) _]) j false hjl (.inl rfl) (fun k p hk hp=>?_) (fun p hp=>?_),
    pW (fun x=>some (fh l x _)) (dN (Nat.lt_irrefl (j+1))),aj,rfl,gA _,trivial,zo.low 1 _ _ rfl rfl rfl⟩,?_⟩
   ·have e1:k < j+1:=by omega
    have e2:k+1 < j+1:=aw
    simp only [dQ e1,dQ e2];refine ju.zU (id:=3) rfl h1 h2 h3 h4 h5 rfl rfl rfl (uH ?_);refine ⟨rfl,rfl,uH ?_⟩;refine ah (yy p (hple _ _ hp)) ?_
    have hname:xh p=true:=by
     have h6:=hj2 k hk;rw [dM aw] at hp;cases hp
     simpa using h6
    refine ⟨fun _=>dd ?_,fun h=>absurd ((hname).symm.trans h:true=false) ar⟩;exact cR
   ·simp only [dQ (Nat.lt_succ_self j),dN (Nat.lt_irrefl (j+1))];refine ju.zU (id:=3) rfl h1 h2 h3 h4 h5 rfl rfl rfl (uH ?_);refine ⟨rfl,rfl,uH ?_⟩;refine ah (yy p (hple _ _ hp)) ?_
    have hname:xh p=false:=by
     rw [dM hjl] at hp;cases hp
     simpa using hj1
    refine ⟨fun h=>absurd ((hname).symm.trans h:false=true) ar,fun _=>dd ?_⟩;exact ⟨_,_,.refl _,rfl,.inr ⟨rfl,.inl ⟨rfl,rfl⟩⟩⟩
   ·conv=>whnf
    (exact ⟨.inl rfl,_,.refl _,uN (by simp [mV,z7])⟩)
abbrev pk (b:UInt8) (s:u4) (k:Nat):List (List C):=((xy b s).take k).map ql
def ix (s p:u4):Bool:=decide (p.length<=s.length) && (s.take p.length == p)
def Nn (s p:u4):tn 191 [] [Tx s,Tx p] (Bo (ix s p)) []:=by
 refine ab func191 ?_;refine ⟨fun h=>?_,fun h=>?_⟩
 ·refine dd ?_;refine ⟨aw,aw,by simp at h;omega,?_⟩;rw [toNat_cast,sf];conv=>whnf
  (repeat' (first | (refine ⟨fun _=>?_,fun _=>?_⟩ <;> (conv=>whnf)) | fail))
  all_goals (exact ⟨.inl rfl,_,.refl _,uN (by simp_all [ix])⟩)
 ·conv=>whnf
  (exact ⟨.inl rfl,_,.refl _,uN (by simp_all [ix];intros;omega)⟩)
abbrev HU (r:u4 × Bool):C:=.u1 [Tx r.1,Bo r.2]
def k9 (s p:u4):u4 × Bool:=if ix s p then (s.drop p.length,true) else (s,false)
def NN (s p:u4):tn 172 [] [Tx s,Tx p] (HU (k9 s p)) []:=by
 refine ab func172 ?_;refine ah (Nn s p) ?_;refine ⟨fun h=>?_,fun h=>?_⟩
 ·refine dd ?_;have h':p.length<=s.length:=by simp [ix] at h;exact h.1
  refine ⟨aw,aw,aw,?_⟩;rw [gO,toNat_cast];conv=>whnf
  have e:k9 s p=(s.drop p.length,true):=by unfold k9;rw [dQ h]
  rw [e];exact uI
 ·conv=>whnf
  have e:k9 s p=(s,false):=by unfold k9;rw [dN aH]
  rw [e];exact uI
def kF (s p:u4):tn 137 [] [Tx s,Tx p] (HU (k9 s p)) []:=by
 refine ab func137 ?_;refine ah (NN s p) ?_;(repeat' (first | (refine ⟨fun _=>?_,fun _=>?_⟩ <;> (conv=>whnf)) | fail))
 all_goals
  rename_i h;exact ⟨.inl rfl,_,.refl _,pW (fun b=>some (C.u1 [Tx (k9 s p).1,Bo b])) h.symm⟩
def mK (s:u4):Bool:=if ix s [42,46] then mV (s.drop 2) else s == [42] || mV s
def w9 (s:u4) (hs:s.length < 4611686018427387904):tn 106 [] [Tx s] (Bo (mK s)) []:=by
 refine ab func106 ?_;refine ah (kF s [42,46]) ?_;refine ⟨fun h=>?_,fun h=>?_⟩
 ·have h1:ix s [42,46]=true:=by
   cases e:ix s [42,46] with
   | true=>rfl
   | false=>simp [k9,e] at h
  have e:k9 s [42,46]=(s.drop 2,true):=by unfold k9;rw [dQ h1];rfl
  rw [e];refine dd ?_;refine ah (E9 (s.drop 2) aA) ?_;(repeat' (first | (refine ⟨fun _=>?_,fun _=>?_⟩ <;> (conv=>whnf)) | fail))
  all_goals (exact ⟨.inl rfl,_,.refl _,uN (by simp_all [mK])⟩)
 ·have h1:ix s [42,46]=false:=by
   cases e:ix s [42,46] with
   | false=>rfl
   | true=>simp [k9,e] at h
  have e:k9 s [42,46]=(s,false):=by unfold k9;rw [dN aD]
  rw [e];refine dd ?_;refine ⟨fun h2=>?_,fun h2=>?_⟩
  ·refine dd ?_
   (exact ⟨.inl rfl,_,.refl _,uN (by simp_all [mK])⟩)
  ·refine dd ?_;refine ah (E9 s hs) ?_;(repeat' (first | (refine ⟨fun _=>?_,fun _=>?_⟩ <;> (conv=>whnf)) | fail))
   all_goals (exact ⟨.inl rfl,_,.refl _,uN (by simp_all [mK])⟩)
def my (s:u4):Bool:=decide (0 < s.length) && decide (s.length<=32) && (match s with | c::_=>bI c == 47 | []=>false) && nJ mD s 47
def E4 (s:u4) (hs:s.length < 4611686018427387904):tn 107 [] [Tx s] (Bo (my s)) []:=by
 refine zb.zp (fn:=f107) func107 rfl ?_;cases s with
 | nil=>
  conv=>whnf
  refine tc ?_
  exact uI
 | cons c s=>
  conv=>whnf
  refine ⟨fun _=>uH ?_,fun h=>absurd h (by simp <;> omega)⟩;refine ⟨fun h1=>?_,fun h1=>?_⟩
  ·conv=>whnf
   refine ⟨aw,c,rfl,uH ?_⟩;refine ⟨fun h2=>?_,fun h2=>?_⟩
   ·conv=>whnf
    refine ah Jw ?_;refine ah (J7 (c::s) 47 hs) ?_;have h1':s.length<=31:=by have:=h1;exact cP
    have e:my (c::s)=nJ mD (c::s) 47:=by unfold my;simp [h2];omega
    refine ⟨fun h3=>?_,fun h3=>?_⟩
    all_goals ((conv=>whnf);(exact ⟨.inl rfl,_,.refl _,uN (by rw [e,h3])⟩))
   ·conv=>whnf
    (exact ⟨.inl rfl,_,.refl _,uN (by simp [my,h2])⟩)
  ·conv=>whnf
   (exact ⟨.inl rfl,_,.refl _,uN (by simp [my];simp at h1;omega)⟩)
def Sn {c:UInt8} {s:u4} (h:mV (c::s)=true):CR (bI c)=true:=by
 unfold mV at h;simp only [dU,dV] at h;by_cases e:c=46
 ·subst e;have:=h.2 [] (by simp [xy]);exact absurd this ar
 ·have h1:(c == 46)=false:=by simpa using e
  cases h3:xy 46 s with
  | nil=>exact absurd h3 (Gp _ s)
  | cons x xs=>
   have:=h.2 (c::x) (by simp [xy,h1,h3]);simp only [xh,dU] at this;exact this.1.2
def W6 {s:u4} (h:my s=true):mK s=false:=by
 match s,h with
 | [],h=>exact absurd h ar
 | c::s,h=>
  have hc:c=47:=by
   simp only [my,dU,gT] at h;exact UInt8.toNat_inj.1 (by have:=h.1.2;simp [bI] at this;show c.toNat=47;omega)
  subst hc;have h1:ix (47::s) [42,46]=false:=by simp [ix]
  have h2:mV (47::s)=false:=by
   cases e:mV (47::s) with
   | false=>rfl
   | true=>exact absurd (Sn e) ar
  simp [mK,h1,h2]
end Go.Nam
namespace Go.Hos
open Go.Ab Go.Proofs Tryz Go.Hy Go.Gat Go.Nam
def Bx (s t:u4):Bool:=decide (t.length<=s.length) && (s.drop (s.length - t.length) == t)
def QI (s t:u4) (hs:s.length < 1000000000000000):tn 212 [] [Tx s,Tx t] (Bo (Bx s t)) []:=by
 refine ab func212 ?_;refine ⟨fun h=>?_,fun h=>?_⟩
 ·have h':t.length<=s.length:=by simp at h;omega
  have w:IntKind.i64.wrap ((s.length:Int) - (t.length:Int))=(s.length - t.length:Nat):=by rw [q9 aw aw];omega
  refine dd ?_;rw [w];refine ⟨aw,aw,aw,?_⟩;rw [gO,toNat_cast];refine dd ?_;(repeat' (first | (refine ⟨fun _=>?_,fun _=>?_⟩ <;> (conv=>whnf)) | fail))
  all_goals (exact ⟨.inl rfl,_,.refl _,uN (by simp_all [Bx])⟩)
 ·refine dd ?_
  (exact ⟨.inl rfl,_,.refl _,uN (by simp [Bx];simp at h;intros;omega)⟩)
def J4 (s t:u4) (hs:s.length < 1000000000000000):tn 211 [] [Tx s,Tx t] (Bo (Bx s t)) []:=by
 refine ab func211 ?_;refine ah (QI s t hs) ?_;(repeat' (first | (refine ⟨fun _=>?_,fun _=>?_⟩ <;> (conv=>whnf)) | fail))
 all_goals (rename_i h;(exact ⟨.inl rfl,_,.refl _,uN (by exact h.symm)⟩))
def CC (p h:u4):Bool:=match p with
 | c::t=>c == 42 && (t == [] || (decide (t.length < h.length) && Bx h t))
 | []=>false
def wZ (p h:u4):Bool:=mK p && mV h && (p == h || CC p h)
def WJ (c:UInt8) (t:u4):k9 (c::t) [42]=if c == 42 then (t,true) else (c::t,false):=by
 unfold k9 ix;by_cases h:c=42
 ·subst h;simp
 ·simp [h]
def UL:mK []=false:=by decide
def Pe (p h:u4) (hp:p.length < 1000000000000000) (hh:h.length < 1000000000000000):tn 209 [] [Tx p,Tx h] (Bo (wZ p h)) []:=by
 refine ab func209 ?_;refine ah (w9 p aw) ?_;refine ⟨fun h1=>?_,fun h1=>?_⟩
 ·refine dd ?_;refine tc ?_
  refine ah (E9 h aw) ?_;refine ⟨fun h2=>?_,fun h2=>?_⟩
  ·refine dd ?_;refine tc ?_
   refine ah (kF p [42]) ?_;cases p with
   | nil=>rw [UL] at h1;cases h1
   | cons c t=>
    rw [WJ];by_cases hc:(c == 42)=true
    ·rw [dQ hc];refine ⟨fun _=>dd ?_,fun h=>absurd h aj⟩;refine ⟨fun h3=>?_,fun h3=>?_⟩
     ·refine dd ?_;refine tc ?_
      (exact ⟨.inl rfl,_,.refl _,uN (by simp_all [wZ])⟩)
     ·refine dd ?_;refine ⟨fun h4=>?_,fun h4=>?_⟩
      ·refine dd ?_;refine tc ?_
       (exact ⟨.inl rfl,_,.refl _,uN (by simp_all [wZ,CC])⟩)
      ·refine dd ?_;refine ⟨fun h5=>?_,fun h5=>?_⟩
       ·refine dd ?_;refine ah (J4 h t hh) ?_;(repeat' (first | (refine ⟨fun _=>?_,fun _=>?_⟩ <;> (conv=>whnf)) | fail))
        all_goals (rename_i h6;(exact ⟨.inl rfl,_,.refl _,uN (by simp at hc;subst hc;simp at h3 h4 h5;simp [wZ,CC,h1,h2,h3,h4,h5,h6])⟩))
       ·refine dd ?_
        (exact ⟨.inl rfl,_,.refl _,uN (by simp at hc;subst hc;simp at h3 h4 h5;simp [wZ,CC,h1,h2,h3,h4];intros;omega)⟩)
    ·rw [dN hc];refine uG ?_;refine ⟨fun h3=>?_,fun h3=>?_⟩
     ·refine dd ?_;refine tc ?_
      (exact ⟨.inl rfl,_,.refl _,uN (by simp_all [wZ])⟩)
     ·refine dd ?_
      (exact ⟨.inl rfl,_,.refl _,uN (by simp at h3 hc;simp [wZ,CC,h1,h2,h3,hc])⟩)
  ·refine dd ?_;refine tc ?_
   (exact ⟨.inl rfl,_,.refl _,uN (by simp_all [wZ])⟩)
 ·refine dd ?_;refine tc ?_
  (exact ⟨.inl rfl,_,.refl _,uN (by simp_all [wZ])⟩)
def C8 (p t:u4):Bool:=my p && my t && ix p t && (p.drop t.length == [] || Bx t [47] || (p.drop t.length).head? == some 47)
def VB {s:u4} {c:UInt8} (h:s[0]?= some c):(s.head? == some 47)=(bI c == 47):=by
 rw [List.head?_eq_getElem?,h];by_cases e:c=47
 ·subst e;rfl
 ·have h1:¬bI c=47:=fun h=>e (by
   unfold bI at h;have h':c.toNat=47:=aw
   exact UInt8.toNat_inj.1 (by rw [h'];rfl))
  have h2:(c == 47)=false:=aq e
  have h3:(bI c == 47)=false:=aq h1
  rw [h3];simpa using e
def Pd (p t:u4) (hp:p.length < 1000000000000000) (ht:t.length < 1000000000000000):tn 210 [] [Tx p,Tx t] (Bo (C8 p t)) []:=by
 refine ab func210 ?_;refine ah (E4 p aw) ?_;refine ⟨fun h1=>?_,fun h1=>?_⟩
 ·refine dd ?_;refine tc ?_
  refine ah (E4 t aw) ?_;refine ⟨fun h2=>?_,fun h2=>?_⟩
  ·refine dd ?_;refine tc ?_
   refine ah (kF p t) ?_;by_cases h3:ix p t=true
   ·have e:k9 p t=(p.drop t.length,true):=by unfold k9;rw [dQ h3]
    rw [e];refine ⟨fun _=>dd ?_,fun h=>absurd h aj⟩;refine ⟨fun h4=>?_,fun h4=>?_⟩
    ·refine dd ?_;refine tc ?_
     (exact ⟨.inl rfl,_,.refl _,uN bL⟩)
    ·refine dd ?_;refine ah (J4 t [47] ht) ?_;refine ⟨fun h5=>?_,fun h5=>?_⟩
     ·refine dd ?_;refine tc ?_
      (exact ⟨.inl rfl,_,.refl _,uN bL⟩)
     ·refine dd ?_
      obtain ⟨c,hc⟩:∃ c,(p.drop t.length)[0]?= some c:=by
       cases hd:p.drop t.length with
       | nil=>rw [hd] at h4;simp at h4
       | cons c _=>exact ⟨c,rfl⟩
      refine ⟨aw,c,hc,dd ?_⟩;(repeat' (first | (refine ⟨fun _=>?_,fun _=>?_⟩ <;> (conv=>whnf)) | fail))
      all_goals (rename_i h6;(exact ⟨.inl rfl,_,.refl _,uN (by simp only [C8,h1,h2,h3,h4,h5,VB hc];simpa using h6.symm)⟩))
   ·have e:k9 p t=(p,false):=by unfold k9;rw [dN h3]
    rw [e];refine uG ?_
    (exact ⟨.inl rfl,_,.refl _,uN bL⟩)
  ·refine dd ?_;refine tc ?_
   (exact ⟨.inl rfl,_,.refl _,uN bL⟩)
 ·refine dd ?_;refine tc ?_
  (exact ⟨.inl rfl,_,.refl _,uN bL⟩)
def yH (p:u4):Int:=if mK p then (if ix p [42,46] then ((p.length - 2:Nat):Int) else if p == [42] then 0 else 100) else 0
def IE (p:u4) (hp:p.length < 1000000000000000):tn 208 [] [Tx p] (I (yH p)) []:=by
 refine ab func208 ?_;refine ah (w9 p aw) ?_;refine ⟨fun h1=>?_,fun h1=>?_⟩
 ·refine dd ?_;refine tc ?_
  refine ah (kF p [42,46]) ?_;by_cases h3:ix p [42,46]=true
  ·have e:k9 p [42,46]=(p.drop 2,true):=by unfold k9;rw [dQ h3];rfl
   have ew:yH p=((p.drop 2).length:Nat):=by simp [yH,h1,h3]
   rw [e,ew];refine ⟨fun _=>dd ?_,fun h=>absurd h aj⟩;exact uI
  ·have e:k9 p [42,46]=(p,false):=by unfold k9;rw [dN h3]
   rw [e];refine uG ?_;refine ⟨fun h4=>?_,fun h4=>?_⟩
   ·have ew:yH p=0:=by simp_all [yH]
    rw [ew];exact df
   ·have ew:yH p=100:=by simp_all [yH]
    rw [ew];exact df
 ·have ew:yH p=0:=by simp_all [yH]
  rw [ew];refine dd ?_;refine tc ?_
  exact uI
def DN (p q p' q':u4):Bool:=if yH p=yH p' then decide (q'.length < q.length) else decide (yH p' < yH p)
def Of (p q p' q':u4) (hp:p.length < 1000000000000000) (hq:p'.length < 1000000000000000):tn 204 [] [Tx p,Tx q,Tx p',Tx q'] (Bo (DN p q p' q')) []:=by
 refine ab func204 ?_;refine ah (IE p hp) ?_;refine ah (IE p' hq) ?_;refine ⟨fun h1=>?_,fun h1=>?_⟩
 ·refine dd ?_;(repeat' (first | (refine ⟨fun _=>?_,fun _=>?_⟩ <;> (conv=>whnf)) | fail))
  all_goals (rename_i h2;(exact ⟨.inl rfl,_,.refl _,uN (by simp_all [DN])⟩))
 ·refine dd ?_;(repeat' (first | (refine ⟨fun _=>?_,fun _=>?_⟩ <;> (conv=>whnf)) | fail))
  all_goals (rename_i h2;(exact ⟨.inl rfl,_,.refl _,uN (by simp_all [DN])⟩))
end Go.Hos
namespace Go.Con
open Go.Ab Go.Proofs Tryz Go.Hy Go.Gat Go.Nam Go.Hos
def B7 {α:Type} (l:List α) (p:α->Bool):decide ((match l.findIdx? p with | some i=>(i:Int) | none=> -1)≥0)=l.any p:=by
 cases h:l.findIdx? p with
 | none=>
  rw [gC] at h
  symm
  simp only [Int.reduceNeg,ge_iff_le,Int.reduceLE,decide_false];rw [gP];intro x hx;simp [h x hx]
 | some i=>
  obtain ⟨h1,h2,_⟩:=gy.1 h
  symm
  have:(0:Int)<=(i:Int):=sL i;simp only [ge_iff_le,this,decide_true];rw [pH];exact ⟨_,gQ h1,h2⟩
abbrev Cc (c:eM):C:=.agg (j6 c)
def Pu {H:zl} {f:FuncId} {caps:List C} {l:List eM} (p:eM->Bool) (hcb:qp prog f=true) (hp:∀ r ∈ l,tn f H ([Cc r]++caps) (Bo (p r)) H) (hl:l.length < 4611686018427387904):
  tn 171 H [lC l,.fn f [] caps] (I (match l.findIdx? p with | some i=>(i:Int) | none=> -1)) H:=by
 refine zb.zU (fn:=f171) func171 rfl (uH ?_)
 refine zZ.inv (fun n t1 H1=>∃ k,k+n=l.length∧H1=H∧(∀ j,j < k->∀ r,l[j]?= some r->p r=false)∧
   t1=((lC l)::.fn f [] caps::.za::.za::I 0::.za::.za::I (l.map j6).length::I k::tZ ([.za,.za]))) l.length ?_ ?_
 ·exact cT
 rintro n _ _ ⟨k,hk,rfl,hno,rfl⟩;conv=>whnf
 refine ⟨fun h=>?_,fun h=>?_⟩
 ·conv=>whnf
  have ux:k < l.length:=aq h
  refine ⟨aw,j6 l[k],aY,uH ?_⟩;rw [hcb];refine ⟨_,_,hp _ (gQ ux),uH ?_⟩;refine ⟨fun h2=>?_,fun h2=>?_⟩
  ·conv=>whnf
   refine .inr ⟨aj,uH ?_⟩;refine ⟨.inl rfl,_,.refl _,rfl,?_⟩
   have:l.findIdx? p=some k:=by
    rw [gy];refine ⟨ux,h2,fun j hj=>?_⟩;simp [hno j hj _ (dM aw)]
   rw [this]
   rfl
  ·conv=>whnf
   refine .inl ⟨rfl,n - 1,_,_,aw,zo.mask [0,1,4,7,8] _ _,k+1,aw,rfl,?_,?_⟩
   ·intro j hj r hr;by_cases hjk:j=k
    ·subst hjk;rw [dM ux] at hr;cases hr
     exact h2
    ·exact hno j aw r hr
   ·rw [zu aw];rfl
 ·conv=>whnf
  refine .inr ⟨aj,uH ?_⟩;refine ⟨.inl rfl,_,.refl _,rfl,?_⟩
  have:l.findIdx? p=none:=by
   rw [gC];intro x hx;obtain ⟨j,hj⟩:=gm.1 hx;have hjl:=(dL.1 hj).1;have:¬k < l.length:=aq h
   exact hno j aw x hj
  rw [this]
  rfl
def Qa {H:zl} {f:FuncId} {caps:List C} {l:List eM} (p:eM->Bool) (hcb:qp prog f=true) (hp:∀ r ∈ l,tn f H ([Cc r]++caps) (Bo (p r)) H) (hl:l.length < 4611686018427387904):
  tn 135 H [lC l,.fn f [] caps] (Bo (l.any p)) H:=by
 refine zb.zU (fn:=f135) func135 rfl (uH ?_);refine ⟨_,_,Pu p hcb hp hl,dd ?_⟩;rw [show decide ((match l.findIdx? p with | some i=>((i:Nat):Int) | none=>(-1:Int))≥(0:Int))=l.any p from B7 l p];refine ⟨fun h=>?_,fun h=>?_⟩ <;> rw [h]
 ·exact de
 ·exact de
def N8 (s:u4) (c:eM):tn 136 [⟨1,9,1,[[Tx s]],0⟩] [Cc c,.ref 0 [] 1 0 0] (Bo (c.name == s)) [⟨1,9,1,[[Tx s]],0⟩]:=by
 refine zb.zU (fn:=f136) func136 rfl (uH ?_);refine ⟨fun h=>?_,fun h=>?_⟩ <;> rw [h]
 ·conv=>whnf
  exact cV
 ·conv=>whnf
  exact cV
def nT (l:List eM) (s:u4):Bool:=l.any fun c=>c.name == s
def I0 (l:List eM) (s:u4) (hl:l.length < 4611686018427387904):tn 105 [] [lC l,Tx s] (Bo (nT l s)) []:=by
 refine ab func105 ?_;refine ⟨_,_,Qa (fun c=>c.name == s) au (fun r _=>N8 s r) hl,dd ?_⟩;refine ⟨fun h=>?_,fun h=>?_⟩
 ·refine dd ?_
  (exact ⟨.inl rfl,_,.refl _,uN (by exact h.symm)⟩)
 ·refine dd ?_
  (exact ⟨.inl rfl,_,.refl _,uN (by exact h.symm)⟩)
def ye (n a b:Int):tn 104 [] [I n,I a,I b] (Bo (decide (a<=n) && decide (n<=b))) []:=by
 refine ab func104 ?_;(repeat' (first | (refine ⟨fun _=>?_,fun _=>?_⟩ <;> (conv=>whnf)) | fail))
 all_goals (exact ⟨.inl rfl,_,.refl _,uN (by simp_all <;> omega)⟩)
def yP (l:List u4) (s:u4):Int:=match l.findIdx? (fun x=>x == s) with | some i=>(i:Int) | none=> -1
def PA (l:List u4) (s:u4) (hl:l.length < 4611686018427387904):tn 93 [] [lT l,Tx s] (I (yP l s)) []:=by
 have hlm:(l.map ql).length=l.length:=dR ..;refine ab func93 ?_;rw [hlm];refine zZ.seq l.length (fun k=>((lT l)::(Tx s)::.za::.za::I 0::.za::.za::I l.length::I k::tZ ([.za,.za]))) (fun k=>[]) (fun k=>∀ j,(h:j < l.length)->j < k->(l[j] == s)=false) ?_ aj (fun k hk hr=>?_) (fun hr=>?_)
 ·exact cC
 ·have hg:(l.map ql)[k]?= some (ql l[k]):=by rw [dP,dM hk];rfl
  conv=>whnf
  refine ⟨fun _=>dd ?_,fun h=>absurd h aA⟩;refine td hg ?_;refine ⟨fun h2=>?_,fun h2=>?_⟩
  ·refine dd ?_;refine .inr ⟨aj,uH ?_⟩
   have e:yP l s=k:=by
    unfold yP
    have:l.findIdx? (fun x=>x == s)=some k:=by
     rw [gy];refine ⟨hk,?_,fun j hj=>by simp only [hr j aw hj];decide⟩;simp at h2;simp [h2]
    rw [this]
   rw [e];exact uI
  ·refine dd ?_;refine .inl ⟨rfl,?_,fun j hj hjk=>?_⟩
   ·rw [zu aw];exact cE 0
   ·by_cases e:j=k
    ·subst e;simp at h2 ⊢;exact fun h=>h2 h.symm
    ·exact hr j hj aw
 ·conv=>whnf
  refine ⟨fun h=>absurd h aj,fun _=>dd ?_⟩;refine ⟨aj,uH ?_⟩
  have e:yP l s= -1:=by
   unfold yP
   have:l.findIdx? (fun x=>x == s)=none:=by
    rw [gC];intro x hx;obtain ⟨j,hj,rfl⟩:=pa.1 hx;exact hr j hj hj
   rw [this]
  rw [e];exact uI
def TQ (l:List u4) (s:u4):decide (yP l s≥0)=l.any (fun x=>x == s):=B7 l _
def C5 (l:List u4) (s:u4) (hl:l.length < 4611686018427387904):tn 68 [] [lT l,Tx s] (Bo (l.any fun x=>x == s)) []:=by
 refine ab func68 ?_;refine ah (PA l s hl) ?_;rw [TQ];refine ⟨fun h=>?_,fun h=>?_⟩
 ·refine dd ?_
  (exact ⟨.inl rfl,_,.refl _,uN (by exact h.symm)⟩)
 ·refine dd ?_
  (exact ⟨.inl rfl,_,.refl _,uN (by exact h.symm)⟩)
end Go.Con
