import Derived.Lib.Bytealg
import Derived.WalkKit
import Derived.IntWalk
import Derived.Test.YtoeaoedlpmohoaaGreatSC
import Derived.Test.YtoeaoedlpmohoaaGreatSJ
import Derived.Test.YtoeaoedlpmohoaaGreatProg
set_option linter.all false
set_option maxRecDepth 100000
set_option maxHeartbeats 4000000
namespace Go.Gat
open Go.Ab Go.Proofs Tryz Go.Hy
def Ji(n:Int):Bool:=decide (97<=n) && decide (n<=122)
def CD(n:Int):Bool:=Ji n || (decide (48<=n) && decide (n<=57)) || (n == 45)
abbrev By(n:Int):C:=.v (.int .u8 n)
def Uc(n:Int):tp 119 [] [By n] (Bo (Ji n)) []:=by
 refine ab func119 ?_;(repeat' (first|(refine⟨λ_=>?_,λ_=>?_⟩ <;> (conv=>whnf))|fail))
 all_goals (exact⟨.inl O,_,.refl _,uN (by simp_all[Ji] <;> (intros;omega))⟩)
def zqM(n:Int):tp 148 [] [By n] (Bo (CD n)) []:=by
 refine ab func148 ?_;refine ah (Uc n) ?_;(repeat' (first|(refine⟨λ_=>?_,λ_=>?_⟩ <;> (conv=>whnf))|fail))
 all_goals (exact⟨.inl O,_,.refl _,uN (by simp_all[CD] <;> (intros;omega))⟩)
def Tc:tp 120 [] [] (.agg [.fn 148 [] []]) []:=by
 refine ab func120 ?_;exact uI
abbrev bI(c:UInt8):Int:=(c.toNat:Int)
def DJ(p:Int->Bool)(s:lH)(other:Int):Bool:=s.all λc=>bI c == other || p (bI c)
def zqQ{p:Int->Bool}{s:lH}{other:Int}{k:Nat}(hk:k<s.length)(h1:(bI s[k] == other)=false)(h2:p (bI s[k])=false):DJ p s other=false:=by
 unfold DJ;rw[eM];exact⟨s[k],pY hk,by simp[h1,h2]⟩
def TN(s:lH)(other:Int)(hs:s.length<4611686018427387904):tp 121 [] [.agg [.fn 148 [] []],Tx s,By other] (Bo (DJ CD s other)) []:=by
 refine ab func121 ?_;refine zW.seq s.length (λk=>(.agg [.fn 148 [] []]::(Tx s)::(By other)::.ref 0 [] 1 0 0::.za::.za::Bo false::.za::.za::I s.length::I k::mF (mF ([.za])))) (λk=>[⟨1,215,1,[[.fn 148 [] []]],0⟩]) (λk=>∀j,(h:j<s.length)->j<k->(bI s[j] == other || CD (bI s[j]))=true) ?_ aj (λk hk hr=>?_) (λhr=>?_)
 ·exact cC
 ·conv=>whnf
  refine⟨λh=>uH ?_,λh=>absurd h aA⟩;refine uE ?_;refine⟨aw,s[k],by simp[hk],uH ?_⟩;refine⟨λh1=>?_,λh1=>?_⟩
  ·refine dd ?_;refine⟨aw,s[k],by simp[hk],dd ?_⟩;refine ah (zqM (bI s[k])) ?_;refine⟨λh2=>?_,λh2=>?_⟩
   ·refine dd ?_;refine .inl ⟨rfl,?_,?_⟩
    ·exact gA
    ·intro j hj hjk;by_cases e:j=k
     ·subst e;simp[h2]
     ·exact hr j hj aw
   ·refine dd ?_;refine .inr ⟨aj,uH ?_⟩
    (exact⟨.inl O,_,.refl _,uN (by exact(zqQ hk tE h2).symm)⟩)
  ·refine dd ?_;refine .inl ⟨rfl,?_,?_⟩
   ·exact gA
   ·intro j hj hjk;by_cases e:j=k
    ·subst e;simp at h1;simp[h1]
    ·exact hr j hj aw
 ·conv=>whnf
  refine⟨λh=>absurd h aj,λh=>uH ?_⟩;refine⟨aj,uH ?_⟩
  have e:DJ CD s other=true:=by
   unfold DJ;rw[pH];intro x hx;obtain⟨j,hj,rfl⟩:=rP.1 hx;exact hr j hj hj
  exact⟨.inl O,_,.refl _,by rw[e];rfl⟩
def yH(s:lH):Bool:=decide (0<s.length) && decide (s.length<=16) && (match s with|c::_=>Ji (bI c)|[]=>false) && s.all λc=>CD (bI c)
def zum(s:lH):DJ CD s 45=s.all λc=>CD (bI c):=by
 unfold DJ
 congr 1
 funext c
 cases h:(bI c == 45) with
 |false=>rfl
 |true=>simp at h;simp[CD,h]
def vN(s:lH)(hs:s.length<4611686018427387904):tp 87 [] [Tx s] (Bo (yH s)) []:=by
 refine zc.zu (fn:=f87) func87 O ?_;cases s with
 |nil=>
  conv=>whnf
  refine tf ?_
  exact uI
 |cons c s=>
  conv=>whnf
  refine⟨λ_=>uH ?_,λh=>absurd h (by simp <;> omega)⟩;refine⟨λh1=>?_,λh1=>?_⟩
  ·conv=>whnf
   refine⟨aw,c,rfl,uH ?_⟩;refine ah (Uc (bI c)) ?_;refine⟨λh2=>?_,λh2=>?_⟩
   ·conv=>whnf
    refine ah Tc ?_;refine ah (TN (c::s) 45 hs) ?_;have h1':s.length<=15:=by have:=h1;exact dB
    have e:yH (c::s)=DJ CD (c::s) 45:=by rw[zum];unfold yH;simp[h2];omega
    refine⟨λh3=>?_,λh3=>?_⟩
    all_goals ((conv=>whnf);(exact⟨.inl O,_,.refl _,uN (by rw[e,h3])⟩))
   ·conv=>whnf
    (exact⟨.inl O,_,.refl _,uN (by simp[yH,h2])⟩)
  ·conv=>whnf
   (exact⟨.inl O,_,.refl _,uN (by simp[yH];simp at h1;omega)⟩)
end Go.Gat
namespace Go.Nam
open Go.Ab Go.Proofs Tryz Go.Hy Go.Gat Go.RowKit
def kS(b:UInt8)(s:lH):lH:=s.takeWhile (· != b)
def kV(b:UInt8)(s:lH):lH:=(s.dropWhile (· != b)).drop 1
def yv(b:UInt8):lH->List lH
 |[]=>[[]]
 |c::s=>if c == b then []::yv b s else match yv b s with
  |p::ps=>(c::p)::ps
  |[]=>[[c]]
def Oq(b:UInt8)(s:lH):yv b s≠[]:=by
 cases s with
 |nil=>simp[yv]
 |cons c s=>unfold yv;split;simp;split <;> simp
def Kn{b:UInt8}:∀{s:lH},b∉s->yv b s=[s]
 |[],_=>rfl
 |c::s,h=>by
  have h1:(c == b)=false:=by simp;intro e;subst e;exact h (r7 ..)
  have h2:=Kn (s:=s) λe=>h (r8 _ e)
  simp[yv,h1,h2]
def H8{b:UInt8}:∀{s:lH},b∈s->yv b s=kS b s::yv b (kV b s)
 |[],h=>by simp at h
 |c::s,h=>by
  by_cases e:c=b
  ·subst e;simp[yv,kS,kV]
  ·have h1:(c == b)=false:=by simpa using e
   have h2:=H8 (s:=s) bM;have h3:(c != b)=true:=aq e
   simp only[yv,h1,ug,if_false,h2,kS,kV,fU,List.dropWhile_cons,h3,if_true]
def Vh{b:UInt8}:∀{s:lH},b∉s->Lib.indexByte s b= -1
 |[],_=>rfl
 |c::s,h=>by
  have h1:(c == b)=false:=by simp;intro e;subst e;exact h (r7 ..)
  have h2:=Vh (s:=s) λe=>h (r8 _ e)
  simp[Lib.indexByte,h1,h2]
def Oe{b:UInt8}:∀{s:lH},b∈s->Lib.indexByte s b=((kS b s).length:Int)
 |[],h=>by simp at h
 |c::s,h=>by
  by_cases e:c=b
  ·subst e;simp[Lib.indexByte,kS]
  ·have h1:(c == b)=false:=by simpa using e
   have h3:(c != b)=true:=aq e
   have h2:=Oe (s:=s) bM;have h4:((kS b s).length == (-1:Int))=false:=by rw[beq_eq_false_iff_ne];omega
   simp only[Lib.indexByte,h1,ug,if_false,h2,kS,fU,h3,if_true,rF];rw[show((↑(List.takeWhile (λx=>x != b) s).length:Int) == -1)=false from h4];simp
def head_take(b:UInt8)(s:lH):s.take (kS b s).length=kS b s:=by
 induction s with
 |nil=>rfl
 |cons c s ih=>
  by_cases e:c=b
  ·subst e;simp[kS]
  ·have h3:(c != b)=true:=by simpa using e
   simp only[kS,fU,h3,if_true,rF,List.take_succ_cons];rw[show List.take (List.takeWhile (λx=>x != b) s).length s=kS b s from ih];rfl
def tail_drop(b:UInt8)(s:lH):s.drop ((kS b s).length+1)=kV b s:=by
 induction s with
 |nil=>rfl
 |cons c s ih=>
  by_cases e:c=b
  ·subst e;simp[kS,kV]
  ·have h3:(c != b)=true:=by simpa using e
   simp only[kS,kV,fU,List.dropWhile_cons,h3,if_true,rF,List.drop_succ_cons];exact ih
def OW{b:UInt8}{s:lH}(h:b∈s):(kS b s).length<s.length:=by
 have h1:=tail_drop b s;have h2:s.length≠0:=by intro e;rw[sD.1 e]at h;simp at h
 have h3:(kS b s).length<=s.length:=List.Sublist.length_le (List.takeWhile_sublist _);rcases sd (kS b s).length s.length with h4|h4
 ·exact h4
 ·have h5:=head_take b s;rw[um h4]at h5;have:b∈kS b s:=by rw[<-h5];exact h
  have:=List.all_takeWhile (l:=s) (p:=(· != b));rw[pH]at this;have:=this b (by assumption);simp at this
def yU(b:UInt8)(s:lH):Nat->lH
 |0=>s
 |k+1=>kV b (yU b s k)
def IN{b:UInt8}:∀{k:Nat} {s:lH},k+1<(yv b s).length->b∈yU b s k/\(yv b s)[k]?=some (kS b (yU b s k))/\yv b (yU b s (k+1))=(yv b s).drop (k+1)
 |0,s,h=>by
  have hb:b∈s:=by
   rcases Classical.em (b∈s) with h1|h1
   ·exact h1
   ·rw[Kn h1]at h;simp at h
  exact⟨hb,by rw[H8 hb];rfl,by rw[H8 hb];rfl⟩
 |k+1,s,h=>by
  obtain⟨h1,h2,h3⟩:=IN (b:=b) (k:=k) (s:=s) aw
  have hb:b∈yU b s (k+1):=by
   rcases Classical.em (b∈yU b s (k+1)) with h4|h4
   ·exact h4
   ·rw[Kn h4]at h3;have:=sF List.length h3;exact dB
  have h5:=H8 hb;rw[h3]at h5;refine⟨hb,?_,?_⟩
  ·have:=sF (λl=>l[0]?) h5;simpa using this
  ·have:=sF (λl=>l.drop 1) h5;simp at this;show yv b (kV b (yU b s (k+1)))=_;rw[<-this]
def UK{b:UInt8}{k:Nat}{s:lH}(h:k+1=(yv b s).length):b∉yU b s k/\(yv b s)[k]?=some (yU b s k):=by
 have h3:yv b (yU b s k)=(yv b s).drop k:=by
  cases k with
  |zero=>rfl
  |succ k=>exact(IN (b:=b) (s:=s) (k:=k) aw).2.2
 have h4:b∉yU b s k:=by
  intro hb;rw[H8 hb]at h3;have:=sF List.length h3
  have h5:(yv b (kV b (yU b s k))).length≠0:=by
   intro e;exact Oq b _ (sD.1 e)
  exact dB
 refine⟨h4,?_⟩;rw[Kn h4]at h3;have:=sF (λl=>l[0]?) h3;simpa using this.symm
def IF(b:UInt8)(s:lH):∀k,(yU b s k).length<=s.length
 |0=>pI _
 |k+1=>by
  have h1:((yU b s k).dropWhile (· != b)).length<=(yU b s k).length:=List.Sublist.length_le (List.dropWhile_sublist _);have:=IF b s k;simp only[yU,kV,fN];omega
def zvb(s:ByteArray)(c:Int)(w:World):Calls prog 256 #[.string s,.int .u8 c] w λe w'=>e=.returned (.int .i64 (Lib.indexByte s.data.toList c.toNat.toUInt8))/\w'=w:=by
 go_enter func256,Tryz.ntmps256
 go_wp2
 rw[run_callFunc_extern func260 au au au (e:=Extern.BytealgIndexByte.indexByte) au,Lib.run_indexByteString];simp only[Result.andThen];rw[Oper.upon_value]
 go_wp2
 go_ret
 exact gD
def zrO(s:lH)(b:UInt8):tp 256 [] [Tx s,By (bI b)] (I (Lib.indexByte s b)) []:=by
 have e:(bI b).toNat.toUInt8=b:=by simp[bI]
 refine Ky [] (λw=>?_) PR λE=>.v _ O
 have:=zvb ⟨⟨s⟩⟩ (bI b) w;rw[e]at this;exact gh
def Ie(s:lH)(b:UInt8):tp 247 [] [Tx s,By (bI b)] (I (Lib.indexByte s b)) []:=by
 refine ab func247 ?_;refine ah (zrO s b) ?_;exact uI
end Go.Nam
namespace Go.Nam
open Go.Ab Go.Proofs Tryz Go.Hy Go.Gat
def zpT(X:Ob)(s:lH)(b:UInt8):tp 221 [X] [Tx s,By (bI b)] (.fn 246 [] [.ref 1 [] 1 0 0,.ref 2 [] 1 0 0]) [X,⟨1,9,1,[[Tx s]],0⟩,⟨1,5,1,[[By (bI b)]],0⟩]:=by
 refine zc.zM (fn:=f221) func221 O (uH ?_);exact uJ
def RS(l:Nat)(s:lH)(b:UInt8)(hs:s.length<4611686018427387904)(X:Nat->Ob)(Y:Nat->List Ob)(j:Nat)(g:Bool)(hj:j<(yv b s).length)(hend:g=false\/j+1=(yv b s).length)
 (hy:∀k p,k<j->(yv b s)[k]?=some p->xd prog l (X k::⟨1,9,1,[[Tx (yU b s k)]],0⟩::⟨1,5,1,[[By (bI b)]],0⟩::Y k) [Tx p] (Bo true) (X (k+1)::⟨1,9,1,[[Tx (yU b s k)]],0⟩::⟨1,5,1,[[By (bI b)]],0⟩::Y (k+1)))
 (hz:∀p,(yv b s)[j]?=some p->xd prog l (X j::⟨1,9,1,[[Tx (yU b s j)]],0⟩::⟨1,5,1,[[By (bI b)]],0⟩::Y j) [Tx p] (Bo g) (X (j+1)::⟨1,9,1,[[Tx (yU b s j)]],0⟩::⟨1,5,1,[[By (bI b)]],0⟩::Y (j+1))):
  tp 246 (X 0::⟨1,9,1,[[Tx (yU b s 0)]],0⟩::⟨1,5,1,[[By (bI b)]],0⟩::Y 0) [.v (.func (.yield l) #[] #[]),.ref 1 [] 1 0 0,.ref 2 [] 1 0 0] (.lK []) (X (j+1)::⟨1,9,1,[[Tx (yU b s j)]],0⟩::⟨1,5,1,[[By (bI b)]],0⟩::Y (j+1)):=by
 refine zc.zM (fn:=f246) func246 O (uH ?_);refine zW.seq j (λk=>(.v (.func (.yield l) #[] #[])::.ref 1 [] 1 0 0::.ref 2 [] 1 0 0::mF (mF ([.za,.za,.za,.za])))) (λk=>X k::⟨1,9,1,[[Tx (yU b s k)]],0⟩::⟨1,5,1,[[By (bI b)]],0⟩::Y k) (λ_=>True) ?_ trivial (λk hk _=>?_) (λ_=>?_)
 ·exact cC
 ·obtain⟨h1,h2,h3⟩:=IN (b:=b) (s:=s) (k:=k) aw;have h4:=IF b s k;have h5:=OW h1;conv=>whnf
  refine⟨_,_,(Ie (yU b s k) b).frame O _,?_⟩;rw[Oe h1];conv=>whnf
  refine⟨λh=>absurd h aj,λ_=>dd ?_⟩;refine⟨aw,aw,aA,?_⟩;rw[toNat_cast,fD,head_take];conv=>whnf
  refine⟨_,_,hy k _ hk h2,dd ?_⟩;refine tf ?_
  rw[zy aw,toNat_cast];refine⟨aw,uH ?_⟩;refine⟨aw,aw,?_⟩;rw[rj,tail_drop];conv=>whnf
  exact .inl ⟨rfl,cC,trivial⟩
 ·have h4:=IF b s j;by_cases hl:j+1=(yv b s).length
  ·obtain⟨h1,h2⟩:=UK hl;conv=>whnf
   refine⟨_,_,(Ie (yU b s j) b).frame O _,?_⟩;rw[Vh h1];conv=>whnf
   refine⟨λ_=>dd ?_,λh=>absurd h aj⟩;refine⟨_,_,hz _ h2,uH ?_⟩;refine⟨λ_=>?_,λ_=>?_⟩ <;>
   ·conv=>whnf
    exact⟨aj,.inl O,_,.refl _,rfl,rfl⟩
  ·obtain⟨h1,h2,h3⟩:=IN (b:=b) (s:=s) (k:=j) aw;have h5:=OW h1;have hg:g=false:=by rcases hend with h|h;exact h;exact absurd h hl
   subst hg;conv=>whnf
   refine⟨_,_,(Ie (yU b s j) b).frame O _,?_⟩;rw[Oe h1];conv=>whnf
   refine⟨λh=>absurd h aj,λ_=>dd ?_⟩;refine⟨aw,aw,aA,?_⟩;rw[toNat_cast,fD,head_take];conv=>whnf
   refine⟨_,_,hz _ h2,dd ?_⟩;refine tf ?_
   exact⟨aj,.inl O,_,.refl _,rfl,rfl⟩
def C7(s:lH):Bool:=decide (s.length<=32) && (yv 46 s).all yH
def XG(b:UInt8)(s:lH)(k:Nat)(p:lH)(h:(yv b s)[k]?=some p):p.length<=s.length:=by
 have hk:=(gZ.1 h).1;by_cases hl:k+1=(yv b s).length
 ·obtain⟨h1,h2⟩:=UK hl;rw[h2]at h;cases h;exact IF b s k
 ·obtain⟨h1,h2,h3⟩:=IN (b:=b) (s:=s) (k:=k) aw;rw[h2]at h;cases h
  have:=OW h1;have:=IF b s k;omega
def Nr(s:lH)(hs:s.length<4611686018427387904):tp 180 [] [Tx s] (Bo (C7 s)) []:=by
 refine ab func180 ?_;refine⟨λh=>?_,λh=>?_⟩
 ·refine dd ?_
  (exact⟨.inl O,_,.refl _,uN (by simp[C7];simp at h;omega)⟩)
 ·refine dd ?_;refine⟨_,_,zpT _ s 46,uH ?_⟩;have hn:=Oq 46 s
  have hlen:0<(yv 46 s).length:=by
   rcases fh (yv 46 s).length with e|e
   ·exact absurd (sD.1 e) hn
   ·exact e
  have hple:∀(k:Nat) (p:lH),(yv 46 s)[k]?=some p->p.length<4611686018427387904:=λk p hp=>by have:=XG 46 s k p hp;omega
  refine⟨_,.refl _,?_⟩;by_cases qj:(yv 46 s).all yH=true
  ·have hname:∀(k:Nat) p,(yv 46 s)[k]?=some p->yH p=true:=λk p hp=>pH.1 qj p (pq hp)
   refine⟨.normal,_,[⟨1,4,1,[[Bo false]],0⟩],λl r h1 h2 h3 h4 h5=>⟨_,_,r,RS l s 46 hs (λ_=>⟨1,4,1,[[Bo false]],0⟩) (λ_=>[nn l r _]) ((yv 46 s).length-1) true aw (.inr aw) (λk p hk hp=>?_) (λp hp=>?_),
    rfl,ba,rfl,rk _,bc,zt.low 1 _ _ O O O⟩,?_⟩
   ·refine xd.zM (id:=3) O h1 h2 h3 h4 h5 O O O ?_;conv=>whnf
    refine⟨rfl,rfl,uH ?_⟩;refine ah (vN p (hple _ _ hp)) ?_;refine⟨λ_=>dd ?_,λh=>absurd ((hname _ _ hp).symm.trans h:true=false) ar⟩;exact dF
   ·refine xd.zM (id:=3) O h1 h2 h3 h4 h5 O O O ?_;conv=>whnf
    refine⟨rfl,rfl,uH ?_⟩;refine ah (vN p (hple _ _ hp)) ?_;refine⟨λ_=>dd ?_,λh=>absurd ((hname _ _ hp).symm.trans h:true=false) ar⟩;exact dF
   ·conv=>whnf
    (exact⟨.inl O,_,.refl _,uN (by simp[C7,qj];simp at h;omega)⟩)
  ·obtain⟨j,hj⟩:∃j,(yv 46 s).findIdx? (λp=>!yH p)=some j:=by
    cases e:(yv 46 s).findIdx? (λp=>!yH p) with
    |some j=>exact⟨j,rfl⟩
    |none=>
     exfalso
     rw[pW]at e;exact qj (pH.2 λx hx=>by simpa using e x hx)
   rw[pO]at hj;obtain⟨hjl,hj1,hj2⟩:=hj;have qj:(yv 46 s).all yH=false:=aq qj
   refine⟨.ret,_,[⟨1,4,1,[[Bo false]],0⟩],λl r h1 h2 h3 h4 h5=>⟨_,_,left r .ret,RS l s 46 hs (λ_=>⟨1,4,1,[[Bo false]],0⟩) (λk=>[nn l (if k<j+1 then r else left r .ret) _]) j false hjl (.inl rfl) (λk p hk hp=>?_) (λp hp=>?_),
    sF (λx=>some (nn l x _)) (pw (Nat.lt_irrefl (j+1))),aj,rfl,rk _,trivial,zt.low 1 _ _ O O O⟩,?_⟩
   ·have e1:k<j+1:=by omega
    have e2:k+1<j+1:=aw
    simp only[pA e1,pA e2];refine xd.zM (id:=3) O h1 h2 h3 h4 h5 O O O (uH ?_);refine⟨rfl,rfl,uH ?_⟩;refine ah (vN p (hple _ _ hp)) ?_
    have hname:yH p=true:=by
     have h6:=hj2 k hk;rw[pa aw]at hp;cases hp
     simpa using h6
    refine⟨λ_=>dd ?_,λh=>absurd ((hname).symm.trans h:true=false) ar⟩;exact dF
   ·simp only[pA (Nat.lt_succ_self j),pw (Nat.lt_irrefl (j+1))];refine xd.zM (id:=3) O h1 h2 h3 h4 h5 O O O (uH ?_);refine⟨rfl,rfl,uH ?_⟩;refine ah (vN p (hple _ _ hp)) ?_
    have hname:yH p=false:=by
     rw[pa hjl]at hp;cases hp
     simpa using hj1
    refine⟨λh=>absurd ((hname).symm.trans h:false=true) ar,λ_=>dd ?_⟩;exact⟨_,_,.refl _,rfl,.inr ⟨rfl,.inl ⟨rfl,rfl⟩⟩⟩
   ·conv=>whnf
    (exact⟨.inl O,_,.refl _,uN (by simp[C7,qj])⟩)
abbrev pk(b:UInt8)(s:lH)(k:Nat):List (List C):=((yv b s).take k).map qG
def Az(s p:lH):Bool:=decide (p.length<=s.length) && (s.take p.length == p)
def ziT(s p:lH):tp 245 [] [Tx s,Tx p] (Bo (Az s p)) []:=by
 refine ab func245 ?_;refine⟨λh=>?_,λh=>?_⟩
 ·refine dd ?_;refine⟨aw,aw,by simp at h;omega,?_⟩;rw[toNat_cast,fD];conv=>whnf
  (repeat' (first|(refine⟨λ_=>?_,λ_=>?_⟩ <;> (conv=>whnf))|fail))
  all_goals (exact⟨.inl O,_,.refl _,uN (by simp_all[Az])⟩)
 ·conv=>whnf
  (exact⟨.inl O,_,.refl _,uN (by simp_all[Az];intros;omega)⟩)
abbrev Qt(r:lH×Bool):C:=.lK [Tx r.1,Bo r.2]
def oz(s p:lH):lH×Bool:=if Az s p then (s.drop p.length,true) else (s,false)
def zlb(s p:lH):tp 220 [] [Tx s,Tx p] (Qt (oz s p)) []:=by
 refine ab func220 ?_;refine ah (ziT s p) ?_;refine⟨λh=>?_,λh=>?_⟩
 ·refine dd ?_;have h':p.length<=s.length:=by simp[Az]at h;exact h.1
  refine⟨aw,aw,aw,?_⟩;rw[rj,toNat_cast];conv=>whnf
  have e:oz s p=(s.drop p.length,true):=by unfold oz;rw[pA h]
  rw[e];exact uI
 ·conv=>whnf
  have e:oz s p=(s,false):=by unfold oz;rw[pw aI]
  rw[e];exact uI
def JJ(s p:lH):tp 179 [] [Tx s,Tx p] (Qt (oz s p)) []:=by
 refine ab func179 ?_;refine ah (zlb s p) ?_;(repeat' (first|(refine⟨λ_=>?_,λ_=>?_⟩ <;> (conv=>whnf))|fail))
 all_goals
  rename_i h;exact⟨.inl O,_,.refl _,sF (λb=>some (C.lK [Tx (oz s p).1,Bo b])) h.symm⟩
def CQ(s:lH):Bool:=if Az s [42,46] then C7 (s.drop 2) else s == [42] || C7 s
def MR(s:lH)(hs:s.length<4611686018427387904):tp 144 [] [Tx s] (Bo (CQ s)) []:=by
 refine ab func144 ?_;refine ah (JJ s [42,46]) ?_;refine⟨λh=>?_,λh=>?_⟩
 ·have h1:Az s [42,46]=true:=by
   cases e:Az s [42,46] with
   |true=>rfl
   |false=>simp[oz,e]at h
  have e:oz s [42,46]=(s.drop 2,true):=by unfold oz;rw[pA h1];rfl
  rw[e];refine dd ?_;refine ah (Nr (s.drop 2) aA) ?_;(repeat' (first|(refine⟨λ_=>?_,λ_=>?_⟩ <;> (conv=>whnf))|fail))
  all_goals (exact⟨.inl O,_,.refl _,uN (by simp_all[CQ])⟩)
 ·have h1:Az s [42,46]=false:=by
   cases e:Az s [42,46] with
   |false=>rfl
   |true=>simp[oz,e]at h
  have e:oz s [42,46]=(s,false):=by unfold oz;rw[pw aD]
  rw[e];refine dd ?_;refine⟨λh2=>?_,λh2=>?_⟩
  ·refine dd ?_
   (exact⟨.inl O,_,.refl _,uN (by simp_all[CQ])⟩)
  ·refine dd ?_;refine ah (Nr s hs) ?_;(repeat' (first|(refine⟨λ_=>?_,λ_=>?_⟩ <;> (conv=>whnf))|fail))
   all_goals (exact⟨.inl O,_,.refl _,uN (by simp_all[CQ])⟩)
def Cz(s:lH):Bool:=decide (0<s.length) && decide (s.length<=32) && (match s with|c::_=>bI c == 47|[]=>false) && DJ CD s 47
def M9(s:lH)(hs:s.length<4611686018427387904):tp 145 [] [Tx s] (Bo (Cz s)) []:=by
 refine zc.zu (fn:=f145) func145 O ?_;cases s with
 |nil=>
  conv=>whnf
  refine tf ?_
  exact uI
 |cons c s=>
  conv=>whnf
  refine⟨λ_=>uH ?_,λh=>absurd h (by simp <;> omega)⟩;refine⟨λh1=>?_,λh1=>?_⟩
  ·conv=>whnf
   refine⟨aw,c,rfl,uH ?_⟩;refine⟨λh2=>?_,λh2=>?_⟩
   ·conv=>whnf
    refine ah Tc ?_;refine ah (TN (c::s) 47 hs) ?_;have h1':s.length<=31:=by have:=h1;exact dB
    have e:Cz (c::s)=DJ CD (c::s) 47:=by unfold Cz;simp[h2];omega
    refine⟨λh3=>?_,λh3=>?_⟩
    all_goals ((conv=>whnf);(exact⟨.inl O,_,.refl _,uN (by rw[e,h3])⟩))
   ·conv=>whnf
    (exact⟨.inl O,_,.refl _,uN (by simp[Cz,h2])⟩)
  ·conv=>whnf
   (exact⟨.inl O,_,.refl _,uN (by simp[Cz];simp at h1;omega)⟩)
def zu9{c:UInt8}{s:lH}(h:C7 (c::s)=true):Ji (bI c)=true:=by
 unfold C7 at h;simp only[pG,pH]at h;by_cases e:c=46
 ·subst e;have:=h.2 [] (by simp[yv]);exact absurd this ar
 ·have h1:(c == 46)=false:=by simpa using e
  cases h3:yv 46 s with
  |nil=>exact absurd h3 (Oq _ s)
  |cons x xs=>
   have:=h.2 (c::x) (by simp[yv,h1,h3]);simp only[yH,pG]at this;exact this.1.2
def zDW{s:lH}(h:Cz s=true):CQ s=false:=by
 match s,h with
 |[],h=>exact absurd h ar
 |c::s,h=>
  have hc:c=47:=by
   simp only[Cz,pG,rJ]at h;exact UInt8.toNat_inj.1 (by have:=h.1.2;simp[bI]at this;show c.toNat=47;omega)
  subst hc;have h1:Az (47::s) [42,46]=false:=by simp[Az]
  have h2:C7 (47::s)=false:=by
   cases e:C7 (47::s) with
   |false=>rfl
   |true=>exact absurd (zu9 e) ar
  simp[CQ,h1,h2]
end Go.Nam
namespace Go.Hos
open Go.Ab Go.Proofs Tryz Go.Hy Go.Gat Go.Nam
def Hv(s t:lH):Bool:=decide (t.length<=s.length) && (s.drop (s.length-t.length) == t)
def zsY(s t:lH)(hs:s.length<1000000000000000):tp 259 [] [Tx s,Tx t] (Bo (Hv s t)) []:=by
 refine ab func259 ?_;refine⟨λh=>?_,λh=>?_⟩
 ·have h':t.length<=s.length:=by simp at h;omega
  have w:IntKind.i64.wrap ((s.length:Int)-(t.length:Int))=(s.length-t.length:Nat):=bN
  refine dd ?_;rw[w];refine⟨aw,aw,aw,?_⟩;rw[rj,toNat_cast];refine dd ?_;(repeat' (first|(refine⟨λ_=>?_,λ_=>?_⟩ <;> (conv=>whnf))|fail))
  all_goals (exact⟨.inl O,_,.refl _,uN (by simp_all[Hv])⟩)
 ·refine dd ?_
  (exact⟨.inl O,_,.refl _,uN (by simp[Hv];simp at h;intros;omega)⟩)
def Us(s t:lH)(hs:s.length<1000000000000000):tp 255 [] [Tx s,Tx t] (Bo (Hv s t)) []:=by
 refine ab func255 ?_;refine ah (zsY s t hs) ?_;(repeat' (first|(refine⟨λ_=>?_,λ_=>?_⟩ <;> (conv=>whnf))|fail))
 all_goals (rename_i h;(exact⟨.inl O,_,.refl _,uN (by exact h.symm)⟩))
def I8(p h:lH):Bool:=match p with
 |c::t=>c == 42 && (t == [] || (decide (t.length<h.length) && Hv h t))
 |[]=>false
def Dy(p h:lH):Bool:=CQ p && C7 h && (p == h || I8 p h)
def ZT(c:UInt8)(t:lH):oz (c::t) [42]=if c == 42 then (t,true) else (c::t,false):=by
 unfold oz Az;by_cases h:c=42
 ·subst h;simp
 ·simp[h]
def XH:CQ []=false:=by decide
def zpD(p h:lH)(hp:p.length<1000000000000000)(hh:h.length<1000000000000000):tp 243 [] [Tx p,Tx h] (Bo (Dy p h)) []:=by
 refine ab func243 ?_;refine ah (MR p aw) ?_;refine⟨λh1=>?_,λh1=>?_⟩
 ·refine dd ?_;refine tf ?_
  refine ah (Nr h aw) ?_;refine⟨λh2=>?_,λh2=>?_⟩
  ·refine dd ?_;refine tf ?_
   refine ah (JJ p [42]) ?_;cases p with
   |nil=>rw[XH]at h1;cases h1
   |cons c t=>
    rw[ZT];by_cases hc:(c == 42)=true
    ·rw[pA hc];refine⟨λ_=>dd ?_,λh=>absurd h aj⟩;refine⟨λh3=>?_,λh3=>?_⟩
     ·refine dd ?_;refine tf ?_
      (exact⟨.inl O,_,.refl _,uN (by simp_all[Dy])⟩)
     ·refine dd ?_;refine⟨λh4=>?_,λh4=>?_⟩
      ·refine dd ?_;refine tf ?_
       (exact⟨.inl O,_,.refl _,uN (by simp_all[Dy,I8])⟩)
      ·refine dd ?_;refine⟨λh5=>?_,λh5=>?_⟩
       ·refine dd ?_;refine ah (Us h t hh) ?_;(repeat' (first|(refine⟨λ_=>?_,λ_=>?_⟩ <;> (conv=>whnf))|fail))
        all_goals (rename_i h6;(exact⟨.inl O,_,.refl _,uN (by simp at hc;subst hc;simp at h3 h4 h5;simp[Dy,I8,h1,h2,h3,h4,h5,h6])⟩))
       ·refine dd ?_
        (exact⟨.inl O,_,.refl _,uN (by simp at hc;subst hc;simp at h3 h4 h5;simp[Dy,I8,h1,h2,h3,h4];intros;omega)⟩)
    ·rw[pw hc];refine uG ?_;refine⟨λh3=>?_,λh3=>?_⟩
     ·refine dd ?_;refine tf ?_
      (exact⟨.inl O,_,.refl _,uN (by simp_all[Dy])⟩)
     ·refine dd ?_
      (exact⟨.inl O,_,.refl _,uN (by simp at h3 hc;simp[Dy,I8,h1,h2,h3,hc])⟩)
  ·refine dd ?_;refine tf ?_
   (exact⟨.inl O,_,.refl _,uN (by simp_all[Dy])⟩)
 ·refine dd ?_;refine tf ?_
  (exact⟨.inl O,_,.refl _,uN (by simp_all[Dy])⟩)
def Kh(p t:lH):Bool:=Cz p && Cz t && Az p t && (p.drop t.length == [] || Hv t [47] || (p.drop t.length).head? == some 47)
def ZI{s:lH}{c:UInt8}(h:s[0]?=some c):(s.head? == some 47)=(bI c == 47):=by
 rw[List.head?_eq_getElem?,h];by_cases e:c=47
 ·subst e;rfl
 ·have h1:¬bI c=47:=λh=>e (by
   unfold bI at h;have h':c.toNat=47:=aw
   exact UInt8.toNat_inj.1 (by rw[h'];rfl))
  have h2:(c == 47)=false:=aq e
  have h3:(bI c == 47)=false:=aq h1
  rw[h3];simpa using e
def zqF(p t:lH)(hp:p.length<1000000000000000)(ht:t.length<1000000000000000):tp 244 [] [Tx p,Tx t] (Bo (Kh p t)) []:=by
 refine ab func244 ?_;refine ah (M9 p aw) ?_;refine⟨λh1=>?_,λh1=>?_⟩
 ·refine dd ?_;refine tf ?_
  refine ah (M9 t aw) ?_;refine⟨λh2=>?_,λh2=>?_⟩
  ·refine dd ?_;refine tf ?_
   refine ah (JJ p t) ?_;by_cases h3:Az p t=true
   ·have e:oz p t=(p.drop t.length,true):=by unfold oz;rw[pA h3]
    rw[e];refine⟨λ_=>dd ?_,λh=>absurd h aj⟩;refine⟨λh4=>?_,λh4=>?_⟩
    ·refine dd ?_;refine tf ?_
     (exact⟨.inl O,_,.refl _,uN bO⟩)
    ·refine dd ?_;refine ah (Us t [47] ht) ?_;refine⟨λh5=>?_,λh5=>?_⟩
     ·refine dd ?_;refine tf ?_
      (exact⟨.inl O,_,.refl _,uN bO⟩)
     ·refine dd ?_
      obtain⟨c,hc⟩:∃c,(p.drop t.length)[0]?=some c:=by
       cases hd:p.drop t.length with
       |nil=>rw[hd]at h4;simp at h4
       |cons c _=>exact⟨c,rfl⟩
      refine⟨aw,c,hc,dd ?_⟩;(repeat' (first|(refine⟨λ_=>?_,λ_=>?_⟩ <;> (conv=>whnf))|fail))
      all_goals (rename_i h6;(exact⟨.inl O,_,.refl _,uN (by simp only[Kh,h1,h2,h3,h4,h5,ZI hc];simpa using h6.symm)⟩))
   ·have e:oz p t=(p,false):=by unfold oz;rw[pw h3]
    rw[e];refine uG ?_
    (exact⟨.inl O,_,.refl _,uN bO⟩)
  ·refine dd ?_;refine tf ?_
   (exact⟨.inl O,_,.refl _,uN bO⟩)
 ·refine dd ?_;refine tf ?_
  (exact⟨.inl O,_,.refl _,uN bO⟩)
def v7(p:lH):Int:=if CQ p then (if Az p [42,46] then ((p.length-2:Nat):Int) else if p == [42] then 0 else 100) else 0
def RQ(p:lH)(hp:p.length<1000000000000000):tp 217 [] [Tx p] (I (v7 p)) []:=by
 refine ab func217 ?_;refine ah (MR p aw) ?_;refine⟨λh1=>?_,λh1=>?_⟩
 ·refine dd ?_;refine tf ?_
  refine ah (JJ p [42,46]) ?_;by_cases h3:Az p [42,46]=true
  ·have e:oz p [42,46]=(p.drop 2,true):=by unfold oz;rw[pA h3];rfl
   have ew:v7 p=((p.drop 2).length:Nat):=by simp[v7,h1,h3]
   rw[e,ew];refine⟨λ_=>dd ?_,λh=>absurd h aj⟩;exact uI
  ·have e:oz p [42,46]=(p,false):=by unfold oz;rw[pw h3]
   rw[e];refine uG ?_;refine⟨λh4=>?_,λh4=>?_⟩
   ·have ew:v7 p=0:=by simp_all[v7]
    rw[ew];exact dT
   ·have ew:v7 p=100:=by simp_all[v7]
    rw[ew];exact dT
 ·have ew:v7 p=0:=by simp_all[v7]
  rw[ew];refine dd ?_;refine tf ?_
  exact uI
def KM(p q p' q':lH):Bool:=if v7 p=v7 p' then decide (q'.length<q.length) else decide (v7 p'<v7 p)
def zmL(p q p' q':lH)(hp:p.length<1000000000000000)(hq:p'.length<1000000000000000):tp 174 [] [Tx p,Tx q,Tx p',Tx q'] (Bo (KM p q p' q')) []:=by
 refine ab func174 ?_;refine ah (RQ p hp) ?_;refine ah (RQ p' hq) ?_;refine⟨λh1=>?_,λh1=>?_⟩
 ·refine dd ?_;(repeat' (first|(refine⟨λ_=>?_,λ_=>?_⟩ <;> (conv=>whnf))|fail))
  all_goals (rename_i h2;(exact⟨.inl O,_,.refl _,uN (by simp_all[KM])⟩))
 ·refine dd ?_;(repeat' (first|(refine⟨λ_=>?_,λ_=>?_⟩ <;> (conv=>whnf))|fail))
  all_goals (rename_i h2;(exact⟨.inl O,_,.refl _,uN (by simp_all[KM])⟩))
end Go.Hos
namespace Go.Con
open Go.Ab Go.Proofs Tryz Go.Hy Go.Gat Go.Nam Go.Hos
def Fp{α:Type}(l:List α)(p:α->Bool):decide ((match l.findIdx? p with|some i=>(i:Int)|none=> -1)≥0)=l.any p:=by
 cases h:l.findIdx? p with
 |none=>
  rw[pW]at h
  symm
  simp only[Int.reduceNeg,ge_iff_le,Int.reduceLE,decide_false];rw[rI];intro x hx;simp[h x hx]
 |some i=>
  obtain⟨h1,h2,_⟩:=pO.1 h
  symm
  have:(0:Int)<=(i:Int):=ua i;simp only[ge_iff_le,this,decide_true];rw[sb];exact⟨_,pY h1,h2⟩
abbrev Cc(c:mG):C:=.agg (y6 c)
def zrP{H:zo}{f:FuncId}{caps:List C}{l:List mG}(p:mG->Bool)(hcb:qw prog f=true)(hp:∀r∈l,tp f H ([Cc r]++caps) (Bo (p r)) H)(hl:l.length<4611686018427387904):
  tp 219 H [lC l,.fn f [] caps] (I (match l.findIdx? p with|some i=>(i:Int)|none=> -1)) H:=by
 refine zc.zM (fn:=f219) func219 O (uH ?_)
 refine zW.inv (λn t1 H1=>∃k,k+n=l.length/\H1=H/\(∀j,j<k->∀r,l[j]?=some r->p r=false)/\
   t1=((lC l)::.fn f [] caps::.za::.za::I 0::.za::.za::I (l.map y6).length::I k::mF ([.za,.za]))) l.length ?_ ?_
 ·exact dC
 rintro n _ _ ⟨k,hk,rfl,hno,rfl⟩;conv=>whnf
 refine⟨λh=>?_,λh=>?_⟩
 ·conv=>whnf
  have lu:k<l.length:=aq h
  refine⟨aw,y6 l[k],aY,uH ?_⟩;rw[hcb];refine⟨_,_,hp _ (pY lu),uH ?_⟩;refine⟨λh2=>?_,λh2=>?_⟩
  ·conv=>whnf
   refine .inr ⟨aj,uH ?_⟩;refine⟨.inl O,_,.refl _,rfl,?_⟩
   have:l.findIdx? p=some k:=by
    rw[pO];refine⟨lu,h2,λj hj=>?_⟩;simp[hno j hj _ (pa aw)]
   rw[this]
   rfl
  ·conv=>whnf
   refine .inl ⟨rfl,n-1,_,_,aw,zt.mask [0,1,4,7,8] _ _,k+1,aw,rfl,?_,?_⟩
   ·intro j hj r hr;by_cases hjk:j=k
    ·subst hjk;rw[pa lu]at hr;cases hr
     exact h2
    ·exact hno j aw r hr
   ·rw[zy aw];rfl
 ·conv=>whnf
  refine .inr ⟨aj,uH ?_⟩;refine⟨.inl O,_,.refl _,rfl,?_⟩
  have:l.findIdx? p=none:=by
   rw[pW];intro x hx;obtain⟨j,hj⟩:=pJ.1 hx;have hjl:=(gZ.1 hj).1;have:¬k<l.length:=aq h
   exact hno j aw x hj
  rw[this]
  rfl
def zrd{H:zo}{f:FuncId}{caps:List C}{l:List mG}(p:mG->Bool)(hcb:qw prog f=true)(hp:∀r∈l,tp f H ([Cc r]++caps) (Bo (p r)) H)(hl:l.length<4611686018427387904):
  tp 177 H [lC l,.fn f [] caps] (Bo (l.any p)) H:=by
 refine zc.zM (fn:=f177) func177 O (uH ?_);refine⟨_,_,zrP p hcb hp hl,dd ?_⟩;rw[show decide ((match l.findIdx? p with|some i=>((i:Nat):Int)|none=>(-1:Int))≥(0:Int))=l.any p from Fp l p];refine⟨λh=>?_,λh=>?_⟩ <;> rw[h]
 ·exact dN
 ·exact dN
def znJ(s:lH)(c:mG):tp 178 [⟨1,9,1,[[Tx s]],0⟩] [Cc c,.ref 0 [] 1 0 0] (Bo (c.name == s)) [⟨1,9,1,[[Tx s]],0⟩]:=by
 refine zc.zM (fn:=f178) func178 O (uH ?_);refine⟨λh=>?_,λh=>?_⟩ <;> rw[h]
 ·conv=>whnf
  exact dz
 ·conv=>whnf
  exact dz
def wU(l:List mG)(s:lH):Bool:=l.any λc=>c.name == s
def SJ(l:List mG)(s:lH)(hl:l.length<4611686018427387904):tp 143 [] [lC l,Tx s] (Bo (wU l s)) []:=by
 refine ab func143 ?_;refine⟨_,_,zrd (λc=>c.name == s) au (λr _=>znJ s r) hl,dd ?_⟩;refine⟨λh=>?_,λh=>?_⟩
 ·refine dd ?_
  (exact⟨.inl O,_,.refl _,uN (by exact h.symm)⟩)
 ·refine dd ?_
  (exact⟨.inl O,_,.refl _,uN (by exact h.symm)⟩)
def vj(n a b:Int):tp 142 [] [I n,I a,I b] (Bo (decide (a<=n) && decide (n<=b))) []:=by
 refine ab func142 ?_;(repeat' (first|(refine⟨λ_=>?_,λ_=>?_⟩ <;> (conv=>whnf))|fail))
 all_goals (exact⟨.inl O,_,.refl _,uN (by simp_all <;> omega)⟩)
def vF(l:List lH)(s:lH):Int:=match l.findIdx? (λx=>x == s) with|some i=>(i:Int)|none=> -1
def zrW(l:List lH)(s:lH)(hl:l.length<4611686018427387904):tp 125 [] [lT l,Tx s] (I (vF l s)) []:=by
 have hlm:(l.map qG).length=l.length:=pB ..;refine ab func125 ?_;rw[hlm];refine zW.seq l.length (λk=>((lT l)::(Tx s)::.za::.za::I 0::.za::.za::I l.length::I k::mF ([.za,.za]))) (λk=>[]) (λk=>∀j,(h:j<l.length)->j<k->(l[j] == s)=false) ?_ aj (λk hk hr=>?_) (λhr=>?_)
 ·exact cC
 ·have hg:(l.map qG)[k]?=some (qG l[k]):=by rw[pj,pa hk];rfl
  conv=>whnf
  refine⟨λ_=>dd ?_,λh=>absurd h aA⟩;refine tj hg ?_;refine⟨λh2=>?_,λh2=>?_⟩
  ·refine dd ?_;refine .inr ⟨aj,uH ?_⟩
   have e:vF l s=k:=by
    unfold vF
    have:l.findIdx? (λx=>x == s)=some k:=by
     rw[pO];refine⟨hk,?_,λj hj=>by simp only[hr j aw hj];decide⟩;simp at h2;simp[h2]
    rw[this]
   rw[e];exact uI
  ·refine dd ?_;refine .inl ⟨rfl,?_,λj hj hjk=>?_⟩
   ·rw[zy aw];exact cE 0
   ·by_cases e:j=k
    ·subst e;simp at h2 ⊢;exactλh=>h2 h.symm
    ·exact hr j hj aw
 ·conv=>whnf
  refine⟨λh=>absurd h aj,λ_=>dd ?_⟩;refine⟨aj,uH ?_⟩
  have e:vF l s= -1:=by
   unfold vF
   have:l.findIdx? (λx=>x == s)=none:=by
    rw[pW];intro x hx;obtain⟨j,hj,rfl⟩:=rP.1 hx;exact hr j hj hj
   rw[this]
  rw[e];exact uI
def zxP(l:List lH)(s:lH):decide (vF l s≥0)=l.any (λx=>x == s):=Fp l _
def J0(l:List lH)(s:lH)(hl:l.length<4611686018427387904):tp 90 [] [lT l,Tx s] (Bo (l.any λx=>x == s)) []:=by
 refine ab func90 ?_;refine ah (zrW l s hl) ?_;rw[zxP];refine⟨λh=>?_,λh=>?_⟩
 ·refine dd ?_
  (exact⟨.inl O,_,.refl _,uN (by exact h.symm)⟩)
 ·refine dd ?_
  (exact⟨.inl O,_,.refl _,uN (by exact h.symm)⟩)
end Go.Con
