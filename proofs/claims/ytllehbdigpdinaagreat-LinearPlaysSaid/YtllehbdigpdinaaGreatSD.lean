import Derived.Lib.Bytealg
import Derived.WalkKit
import Derived.IntWalk
import Derived.Test.YtllehbdigpdinaaGreatSC
import Derived.Test.YtllehbdigpdinaaGreatSJ
import Derived.Test.YtllehbdigpdinaaGreatProg
set_option linter.all false
set_option maxRecDepth 100000
set_option maxHeartbeats 4000000
namespace Go.Gat
open Go.Ab Go.Proofs Tryz Go.Hy
def EK(n:Int):Bool:=decide (97<=n) && decide (n<=122)
def nU(n:Int):Bool:=EK n || (decide (48<=n) && decide (n<=57)) || (n == 45)
abbrev By(n:Int):C:=.v (.int .u8 n)
def MH(n:Int):tn 128 [] [By n] (Bo (EK n)) []:=by
 refine ab func128 ?_;(repeat' (first|(refine⟨λ_=>?_,λ_=>?_⟩ <;> (conv=>whnf))|fail))
 all_goals (exact⟨.inl O,_,.refl _,uN (by simp_all[EK] <;> (intros;omega))⟩)
def T1(n:Int):tn 158 [] [By n] (Bo (nU n)) []:=by
 refine ab func158 ?_;refine ah (MH n) ?_;(repeat' (first|(refine⟨λ_=>?_,λ_=>?_⟩ <;> (conv=>whnf))|fail))
 all_goals (exact⟨.inl O,_,.refl _,uN (by simp_all[nU] <;> (intros;omega))⟩)
def Mg:tn 129 [] [] (.agg [.fn 158 [] []]) []:=by
 refine ab func129 ?_;exact uI
abbrev bI(c:UInt8):Int:=(c.toNat:Int)
def Ap(p:Int->Bool)(s:eZ)(other:Int):Bool:=s.all λc=>bI c == other || p (bI c)
def Tt{p:Int->Bool}{s:eZ}{other:Int}{k:Nat}(hk:k<s.length)(h1:(bI s[k] == other)=false)(h2:p (bI s[k])=false):Ap p s other=false:=by
 unfold Ap;rw[sF];exact⟨s[k],gW hk,by simp[h1,h2]⟩
def MX(s:eZ)(other:Int)(hs:s.length<4611686018427387904):tn 130 [] [.agg [.fn 158 [] []],Tx s,By other] (Bo (Ap nU s other)) []:=by
 refine ab func130 ?_;refine qa.seq s.length (λk=>(.agg [.fn 158 [] []]::(Tx s)::(By other)::.ref 0 [] 1 0 0::.za::.za::Bo false::.za::.za::I s.length::I k::hU (hU ([.za])))) (λk=>[⟨1,229,1,[[.fn 158 [] []]],0⟩]) (λk=>∀j,(h:j<s.length)->j<k->(bI s[j] == other || nU (bI s[j]))=true) ?_ aj (λk hk hr=>?_) (λhr=>?_)
 ·exact cC
 ·conv=>whnf
  refine⟨λh=>uH ?_,λh=>absurd h aA⟩;refine uE ?_;refine⟨aw,s[k],by simp[hk],uH ?_⟩;refine⟨λh1=>?_,λh1=>?_⟩
  ·refine dd ?_;refine⟨aw,s[k],by simp[hk],dd ?_⟩;refine ah (T1 (bI s[k])) ?_;refine⟨λh2=>?_,λh2=>?_⟩
   ·refine dd ?_;refine .inl ⟨rfl,?_,?_⟩
    ·exact dG
    ·intro j hj hjk;by_cases e:j=k
     ·subst e;simp[h2]
     ·exact hr j hj aw
   ·refine dd ?_;refine .inr ⟨aj,uH ?_⟩
    (exact⟨.inl O,_,.refl _,uN (by exact(Tt hk tD h2).symm)⟩)
  ·refine dd ?_;refine .inl ⟨rfl,?_,?_⟩
   ·exact dG
   ·intro j hj hjk;by_cases e:j=k
    ·subst e;simp at h1;simp[h1]
    ·exact hr j hj aw
 ·conv=>whnf
  refine⟨λh=>absurd h aj,λh=>uH ?_⟩;refine⟨aj,uH ?_⟩
  have e:Ap nU s other=true:=by
   unfold Ap;rw[gA];intro x hx;obtain⟨j,hj,rfl⟩:=pz.1 hx;exact hr j hj hj
  exact⟨.inl O,_,.refl _,by rw[e];rfl⟩
def xJ(s:eZ):Bool:=decide (0<s.length) && decide (s.length<=16) && (match s with|c::_=>EK (bI c)|[]=>false) && s.all λc=>nU (bI c)
def VG(s:eZ):Ap nU s 45=s.all λc=>nU (bI c):=by
 unfold Ap
 congr 1
 funext c
 cases h:(bI c == 45) with
 |false=>rfl
 |true=>simp at h;simp[nU,h]
def yH(s:eZ)(hs:s.length<4611686018427387904):tn 85 [] [Tx s] (Bo (xJ s)) []:=by
 refine zb.zp (fn:=f85) func85 O ?_;cases s with
 |nil=>
  conv=>whnf
  refine tc ?_
  exact uI
 |cons c s=>
  conv=>whnf
  refine⟨λ_=>uH ?_,λh=>absurd h (by simp <;> omega)⟩;refine⟨λh1=>?_,λh1=>?_⟩
  ·conv=>whnf
   refine⟨aw,c,rfl,uH ?_⟩;refine ah (MH (bI c)) ?_;refine⟨λh2=>?_,λh2=>?_⟩
   ·conv=>whnf
    refine ah Mg ?_;refine ah (MX (c::s) 45 hs) ?_;have h1':s.length<=15:=by have:=h1;exact de
    have e:xJ (c::s)=Ap nU (c::s) 45:=by rw[VG];unfold xJ;simp[h2];omega
    refine⟨λh3=>?_,λh3=>?_⟩
    all_goals ((conv=>whnf);(exact⟨.inl O,_,.refl _,uN (by rw[e,h3])⟩))
   ·conv=>whnf
    (exact⟨.inl O,_,.refl _,uN (by simp[xJ,h2])⟩)
  ·conv=>whnf
   (exact⟨.inl O,_,.refl _,uN (by simp[xJ];simp at h1;omega)⟩)
end Go.Gat
namespace Go.Nam
open Go.Ab Go.Proofs Tryz Go.Hy Go.Gat Go.RowKit
def vn(b:UInt8)(s:eZ):eZ:=s.takeWhile (· != b)
def Aj(b:UInt8)(s:eZ):eZ:=(s.dropWhile (· != b)).drop 1
def xA(b:UInt8):eZ->List eZ
 |[]=>[[]]
 |c::s=>if c == b then []::xA b s else match xA b s with
  |p::ps=>(c::p)::ps
  |[]=>[[c]]
def I1(b:UInt8)(s:eZ):xA b s≠[]:=by
 cases s with
 |nil=>simp[xA]
 |cons c s=>unfold xA;split;simp;split <;> simp
def Fq{b:UInt8}:∀{s:eZ},b∉s->xA b s=[s]
 |[],_=>rfl
 |c::s,h=>by
  have h1:(c == b)=false:=by simp;intro e;subst e;exact h (pW ..)
  have h2:=Fq (s:=s) λe=>h (pT _ e)
  simp[xA,h1,h2]
def DD{b:UInt8}:∀{s:eZ},b∈s->xA b s=vn b s::xA b (Aj b s)
 |[],h=>by simp at h
 |c::s,h=>by
  by_cases e:c=b
  ·subst e;simp[xA,vn,Aj]
  ·have h1:(c == b)=false:=by simpa using e
   have h2:=DD (s:=s) bL;have h3:(c != b)=true:=aq e
   simp only[xA,h1,sj,if_false,h2,vn,Aj,uc,List.dropWhile_cons,h3,if_true]
def N3{b:UInt8}:∀{s:eZ},b∉s->Lib.indexByte s b= -1
 |[],_=>rfl
 |c::s,h=>by
  have h1:(c == b)=false:=by simp;intro e;subst e;exact h (pW ..)
  have h2:=N3 (s:=s) λe=>h (pT _ e)
  simp[Lib.indexByte,h1,h2]
def Ij{b:UInt8}:∀{s:eZ},b∈s->Lib.indexByte s b=((vn b s).length:Int)
 |[],h=>by simp at h
 |c::s,h=>by
  by_cases e:c=b
  ·subst e;simp[Lib.indexByte,vn]
  ·have h1:(c == b)=false:=by simpa using e
   have h3:(c != b)=true:=aq e
   have h2:=Ij (s:=s) bL;have h4:((vn b s).length == (-1:Int))=false:=by rw[beq_eq_false_iff_ne];omega
   simp only[Lib.indexByte,h1,sj,if_false,h2,vn,uc,h3,if_true,pC];rw[show((↑(List.takeWhile (λx=>x != b) s).length:Int) == -1)=false from h4];simp
def head_take(b:UInt8)(s:eZ):s.take (vn b s).length=vn b s:=by
 induction s with
 |nil=>rfl
 |cons c s ih=>
  by_cases e:c=b
  ·subst e;simp[vn]
  ·have h3:(c != b)=true:=by simpa using e
   simp only[vn,uc,h3,if_true,pC,List.take_succ_cons];rw[show List.take (List.takeWhile (λx=>x != b) s).length s=vn b s from ih];rfl
def tail_drop(b:UInt8)(s:eZ):s.drop ((vn b s).length+1)=Aj b s:=by
 induction s with
 |nil=>rfl
 |cons c s ih=>
  by_cases e:c=b
  ·subst e;simp[vn,Aj]
  ·have h3:(c != b)=true:=by simpa using e
   simp only[vn,Aj,uc,List.dropWhile_cons,h3,if_true,pC,List.drop_succ_cons];exact ih
def IM{b:UInt8}{s:eZ}(h:b∈s):(vn b s).length<s.length:=by
 have h1:=tail_drop b s;have h2:s.length≠0:=by intro e;rw[rB.1 e]at h;simp at h
 have h3:(vn b s).length<=s.length:=List.Sublist.length_le (List.takeWhile_sublist _);rcases pR (vn b s).length s.length with h4|h4
 ·exact h4
 ·have h5:=head_take b s;rw[sf h4]at h5;have:b∈vn b s:=by rw[<-h5];exact h
  have:=List.all_takeWhile (l:=s) (p:=(· != b));rw[gA]at this;have:=this b (by assumption);simp at this
def xW(b:UInt8)(s:eZ):Nat->eZ
 |0=>s
 |k+1=>Aj b (xW b s k)
def Ei{b:UInt8}:∀{k:Nat} {s:eZ},k+1<(xA b s).length->b∈xW b s k/\(xA b s)[k]?=some (vn b (xW b s k))/\xA b (xW b s (k+1))=(xA b s).drop (k+1)
 |0,s,h=>by
  have hb:b∈s:=by
   rcases Classical.em (b∈s) with h1|h1
   ·exact h1
   ·rw[Fq h1]at h;simp at h
  exact⟨hb,by rw[DD hb];rfl,by rw[DD hb];rfl⟩
 |k+1,s,h=>by
  obtain⟨h1,h2,h3⟩:=Ei (b:=b) (k:=k) (s:=s) aw
  have hb:b∈xW b s (k+1):=by
   rcases Classical.em (b∈xW b s (k+1)) with h4|h4
   ·exact h4
   ·rw[Fq h4]at h3;have:=rz List.length h3;exact de
  have h5:=DD hb;rw[h3]at h5;refine⟨hb,?_,?_⟩
  ·have:=rz (λl=>l[0]?) h5;simpa using this
  ·have:=rz (λl=>l.drop 1) h5;simp at this;show xA b (Aj b (xW b s (k+1)))=_;rw[<-this]
def ND{b:UInt8}{k:Nat}{s:eZ}(h:k+1=(xA b s).length):b∉xW b s k/\(xA b s)[k]?=some (xW b s k):=by
 have h3:xA b (xW b s k)=(xA b s).drop k:=by
  cases k with
  |zero=>rfl
  |succ k=>exact(Ei (b:=b) (s:=s) (k:=k) aw).2.2
 have h4:b∉xW b s k:=by
  intro hb;rw[DD hb]at h3;have:=rz List.length h3
  have h5:(xA b (Aj b (xW b s k))).length≠0:=by
   intro e;exact I1 b _ (rB.1 e)
  exact de
 refine⟨h4,?_⟩;rw[Fq h4]at h3;have:=rz (λl=>l[0]?) h3;simpa using this.symm
def D9(b:UInt8)(s:eZ):∀k,(xW b s k).length<=s.length
 |0=>gD _
 |k+1=>by
  have h1:((xW b s k).dropWhile (· != b)).length<=(xW b s k).length:=List.Sublist.length_le (List.dropWhile_sublist _);have:=D9 b s k;simp only[xW,Aj,uz];omega
def VZ(s:ByteArray)(c:Int)(w:World):Calls prog 258 #[.string s,.int .u8 c] w λe w'=>e=.returned (.int .i64 (Lib.indexByte s.data.toList c.toNat.toUInt8))/\w'=w:=by
 go_enter func258,Tryz.ntmps258
 go_wp2
 rw[run_callFunc_extern func260 au au au (e:=Extern.BytealgIndexByte.indexByte) au,Lib.run_indexByteString];simp only[Result.andThen];rw[Oper.upon_value]
 go_wp2
 go_ret
 exact⟨rfl,rfl⟩
def T9(s:eZ)(b:UInt8):tn 258 [] [Tx s,By (bI b)] (I (Lib.indexByte s b)) []:=by
 have e:(bI b).toNat.toUInt8=b:=by simp[bI]
 refine FA [] (λw=>?_) JK λE=>.v _ O
 have:=VZ ⟨⟨s⟩⟩ (bI b) w;rw[e]at this;exact dF
def Dz(s:eZ)(b:UInt8):tn 253 [] [Tx s,By (bI b)] (I (Lib.indexByte s b)) []:=by
 refine ab func253 ?_;refine ah (T9 s b) ?_;exact uI
end Go.Nam
namespace Go.Nam
open Go.Ab Go.Proofs Tryz Go.Hy Go.Gat
def S5(X:Ob)(s:eZ)(b:UInt8):tn 231 [X] [Tx s,By (bI b)] (.fn 252 [] [.ref 1 [] 1 0 0,.ref 2 [] 1 0 0]) [X,⟨1,9,1,[[Tx s]],0⟩,⟨1,5,1,[[By (bI b)]],0⟩]:=by
 refine zb.zG (fn:=f231) func231 O (uH ?_);exact uJ
def K1(l:Nat)(s:eZ)(b:UInt8)(hs:s.length<4611686018427387904)(X:Nat->Ob)(Y:Nat->List Ob)(j:Nat)(g:Bool)(hj:j<(xA b s).length)(hend:g=false\/j+1=(xA b s).length)
 (hy:∀k p,k<j->(xA b s)[k]?=some p->jC prog l (X k::⟨1,9,1,[[Tx (xW b s k)]],0⟩::⟨1,5,1,[[By (bI b)]],0⟩::Y k) [Tx p] (Bo true) (X (k+1)::⟨1,9,1,[[Tx (xW b s k)]],0⟩::⟨1,5,1,[[By (bI b)]],0⟩::Y (k+1)))
 (hz:∀p,(xA b s)[j]?=some p->jC prog l (X j::⟨1,9,1,[[Tx (xW b s j)]],0⟩::⟨1,5,1,[[By (bI b)]],0⟩::Y j) [Tx p] (Bo g) (X (j+1)::⟨1,9,1,[[Tx (xW b s j)]],0⟩::⟨1,5,1,[[By (bI b)]],0⟩::Y (j+1))):
  tn 252 (X 0::⟨1,9,1,[[Tx (xW b s 0)]],0⟩::⟨1,5,1,[[By (bI b)]],0⟩::Y 0) [.v (.func (.yield l) #[] #[]),.ref 1 [] 1 0 0,.ref 2 [] 1 0 0] (.fb []) (X (j+1)::⟨1,9,1,[[Tx (xW b s j)]],0⟩::⟨1,5,1,[[By (bI b)]],0⟩::Y (j+1)):=by
 refine zb.zG (fn:=f252) func252 O (uH ?_);refine qa.seq j (λk=>(.v (.func (.yield l) #[] #[])::.ref 1 [] 1 0 0::.ref 2 [] 1 0 0::hU (hU ([.za,.za,.za,.za])))) (λk=>X k::⟨1,9,1,[[Tx (xW b s k)]],0⟩::⟨1,5,1,[[By (bI b)]],0⟩::Y k) (λ_=>True) ?_ trivial (λk hk _=>?_) (λ_=>?_)
 ·exact cC
 ·obtain⟨h1,h2,h3⟩:=Ei (b:=b) (s:=s) (k:=k) aw;have h4:=D9 b s k;have h5:=IM h1;conv=>whnf
  refine⟨_,_,(Dz (xW b s k) b).frame O _,?_⟩;rw[Ij h1];conv=>whnf
  refine⟨λh=>absurd h aj,λ_=>dd ?_⟩;refine⟨aw,aw,aA,?_⟩;rw[toNat_cast,sW,head_take];conv=>whnf
  refine⟨_,_,hy k _ hk h2,dd ?_⟩;refine tc ?_
  rw[zw aw,toNat_cast];refine⟨aw,uH ?_⟩;refine⟨aw,aw,?_⟩;rw[pQ,tail_drop];conv=>whnf
  exact .inl ⟨rfl,cC,trivial⟩
 ·have h4:=D9 b s j;by_cases hl:j+1=(xA b s).length
  ·obtain⟨h1,h2⟩:=ND hl;conv=>whnf
   refine⟨_,_,(Dz (xW b s j) b).frame O _,?_⟩;rw[N3 h1];conv=>whnf
   refine⟨λ_=>dd ?_,λh=>absurd h aj⟩;refine⟨_,_,hz _ h2,uH ?_⟩;refine⟨λ_=>?_,λ_=>?_⟩ <;>
   ·conv=>whnf
    exact⟨aj,.inl O,_,.refl _,rfl,rfl⟩
  ·obtain⟨h1,h2,h3⟩:=Ei (b:=b) (s:=s) (k:=j) aw;have h5:=IM h1;have hg:g=false:=by rcases hend with h|h;exact h;exact absurd h hl
   subst hg;conv=>whnf
   refine⟨_,_,(Dz (xW b s j) b).frame O _,?_⟩;rw[Ij h1];conv=>whnf
   refine⟨λh=>absurd h aj,λ_=>dd ?_⟩;refine⟨aw,aw,aA,?_⟩;rw[toNat_cast,sW,head_take];conv=>whnf
   refine⟨_,_,hz _ h2,dd ?_⟩;refine tc ?_
   exact⟨aj,.inl O,_,.refl _,rfl,rfl⟩
def oL(s:eZ):Bool:=decide (s.length<=32) && (xA 46 s).all xJ
def Z1(b:UInt8)(s:eZ)(k:Nat)(p:eZ)(h:(xA b s)[k]?=some p):p.length<=s.length:=by
 have hk:=(dY.1 h).1;by_cases hl:k+1=(xA b s).length
 ·obtain⟨h1,h2⟩:=ND hl;rw[h2]at h;cases h;exact D9 b s k
 ·obtain⟨h1,h2,h3⟩:=Ei (b:=b) (s:=s) (k:=k) aw;rw[h2]at h;cases h
  have:=IM h1;have:=D9 b s k;omega
def Hv(s:eZ)(hs:s.length<4611686018427387904):tn 193 [] [Tx s] (Bo (oL s)) []:=by
 refine ab func193 ?_;refine⟨λh=>?_,λh=>?_⟩
 ·refine dd ?_
  (exact⟨.inl O,_,.refl _,uN (by simp[oL];simp at h;omega)⟩)
 ·refine dd ?_;refine⟨_,_,S5 _ s 46,uH ?_⟩;have hn:=I1 46 s
  have hlen:0<(xA 46 s).length:=by
   rcases sM (xA 46 s).length with e|e
   ·exact absurd (rB.1 e) hn
   ·exact e
  have hple:∀(k:Nat) (p:eZ),(xA 46 s)[k]?=some p->p.length<4611686018427387904:=λk p hp=>by have:=Z1 46 s k p hp;omega
  refine⟨_,.refl _,?_⟩;by_cases z8:(xA 46 s).all xJ=true
  ·have hname:∀(k:Nat) p,(xA 46 s)[k]?=some p->xJ p=true:=λk p hp=>gA.1 z8 p (gh hp)
   refine⟨.normal,_,[⟨1,4,1,[[Bo false]],0⟩],λl r h1 h2 h3 h4 h5=>⟨_,_,r,K1 l s 46 hs (λ_=>⟨1,4,1,[[Bo false]],0⟩) (λ_=>[fZ l r _]) ((xA 46 s).length-1) true aw (.inr aw) (λk p hk hp=>?_) (λp hp=>?_),
    rfl,bb,rfl,gY _,bc,zn.low 1 _ _ O O O⟩,?_⟩
   ·refine jC.zG (id:=3) O h1 h2 h3 h4 h5 O O O ?_;conv=>whnf
    refine⟨rfl,rfl,uH ?_⟩;refine ah (yH p (hple _ _ hp)) ?_;refine⟨λ_=>dd ?_,λh=>absurd ((hname _ _ hp).symm.trans h:true=false) ar⟩;exact dg
   ·refine jC.zG (id:=3) O h1 h2 h3 h4 h5 O O O ?_;conv=>whnf
    refine⟨rfl,rfl,uH ?_⟩;refine ah (yH p (hple _ _ hp)) ?_;refine⟨λ_=>dd ?_,λh=>absurd ((hname _ _ hp).symm.trans h:true=false) ar⟩;exact dg
   ·conv=>whnf
    (exact⟨.inl O,_,.refl _,uN (by simp[oL,z8];simp at h;omega)⟩)
  ·obtain⟨j,hj⟩:∃j,(xA 46 s).findIdx? (λp=>!xJ p)=some j:=by
    cases e:(xA 46 s).findIdx? (λp=>!xJ p) with
    |some j=>exact⟨j,rfl⟩
    |none=>
     exfalso
     rw[gP]at e;exact z8 (gA.2 λx hx=>by simpa using e x hx)
   rw[gJ]at hj;obtain⟨hjl,hj1,hj2⟩:=hj;have z8:(xA 46 s).all xJ=false:=aq z8
   refine⟨.ret,_,[⟨1,4,1,[[Bo false]],0⟩],λl r h1 h2 h3 h4 h5=>⟨_,_,left r .ret,K1 l s 46 hs (λ_=>⟨1,4,1,[[Bo false]],0⟩) (λk=>[fZ l (if k<j+1 then r else left r .ret) _]) j false hjl (.inl rfl) (λk p hk hp=>?_) (λp hp=>?_),
    rz (λx=>some (fZ l x _)) (gf (Nat.lt_irrefl (j+1))),aj,rfl,gY _,trivial,zn.low 1 _ _ O O O⟩,?_⟩
   ·have e1:k<j+1:=by omega
    have e2:k+1<j+1:=aw
    simp only[gk e1,gk e2];refine jC.zG (id:=3) O h1 h2 h3 h4 h5 O O O (uH ?_);refine⟨rfl,rfl,uH ?_⟩;refine ah (yH p (hple _ _ hp)) ?_
    have hname:xJ p=true:=by
     have h6:=hj2 k hk;rw[dZ aw]at hp;cases hp
     simpa using h6
    refine⟨λ_=>dd ?_,λh=>absurd ((hname).symm.trans h:true=false) ar⟩;exact dg
   ·simp only[gk (Nat.lt_succ_self j),gf (Nat.lt_irrefl (j+1))];refine jC.zG (id:=3) O h1 h2 h3 h4 h5 O O O (uH ?_);refine⟨rfl,rfl,uH ?_⟩;refine ah (yH p (hple _ _ hp)) ?_
    have hname:xJ p=false:=by
     rw[dZ hjl]at hp;cases hp
     simpa using hj1
    refine⟨λh=>absurd ((hname).symm.trans h:false=true) ar,λ_=>dd ?_⟩;exact⟨_,_,.refl _,rfl,.inr ⟨rfl,.inl ⟨rfl,rfl⟩⟩⟩
   ·conv=>whnf
    (exact⟨.inl O,_,.refl _,uN (by simp[oL,z8])⟩)
abbrev pk(b:UInt8)(s:eZ)(k:Nat):List (List C):=((xA b s).take k).map qn
def lX(s p:eZ):Bool:=decide (p.length<=s.length) && (s.take p.length == p)
def Rc(s p:eZ):tn 251 [] [Tx s,Tx p] (Bo (lX s p)) []:=by
 refine ab func251 ?_;refine⟨λh=>?_,λh=>?_⟩
 ·refine dd ?_;refine⟨aw,aw,by simp at h;omega,?_⟩;rw[toNat_cast,sW];conv=>whnf
  (repeat' (first|(refine⟨λ_=>?_,λ_=>?_⟩ <;> (conv=>whnf))|fail))
  all_goals (exact⟨.inl O,_,.refl _,uN (by simp_all[lX])⟩)
 ·conv=>whnf
  (exact⟨.inl O,_,.refl _,uN (by simp_all[lX];intros;omega)⟩)
abbrev KC(r:eZ×Bool):C:=.fb [Tx r.1,Bo r.2]
def wL(s p:eZ):eZ×Bool:=if lX s p then (s.drop p.length,true) else (s,false)
def Rz(s p:eZ):tn 230 [] [Tx s,Tx p] (KC (wL s p)) []:=by
 refine ab func230 ?_;refine ah (Rc s p) ?_;refine⟨λh=>?_,λh=>?_⟩
 ·refine dd ?_;have h':p.length<=s.length:=by simp[lX]at h;exact h.1
  refine⟨aw,aw,aw,?_⟩;rw[pQ,toNat_cast];conv=>whnf
  have e:wL s p=(s.drop p.length,true):=by unfold wL;rw[gk h]
  rw[e];exact uI
 ·conv=>whnf
  have e:wL s p=(s,false):=by unfold wL;rw[gf aI]
  rw[e];exact uI
def wh(s p:eZ):tn 192 [] [Tx s,Tx p] (KC (wL s p)) []:=by
 refine ab func192 ?_;refine ah (Rz s p) ?_;(repeat' (first|(refine⟨λ_=>?_,λ_=>?_⟩ <;> (conv=>whnf))|fail))
 all_goals
  rename_i h;exact⟨.inl O,_,.refl _,rz (λb=>some (C.fb [Tx (wL s p).1,Bo b])) h.symm⟩
def n6(s:eZ):Bool:=if lX s [42,46] then oL (s.drop 2) else s == [42] || oL s
def G9(s:eZ)(hs:s.length<4611686018427387904):tn 156 [] [Tx s] (Bo (n6 s)) []:=by
 refine ab func156 ?_;refine ah (wh s [42,46]) ?_;refine⟨λh=>?_,λh=>?_⟩
 ·have h1:lX s [42,46]=true:=by
   cases e:lX s [42,46] with
   |true=>rfl
   |false=>simp[wL,e]at h
  have e:wL s [42,46]=(s.drop 2,true):=by unfold wL;rw[gk h1];rfl
  rw[e];refine dd ?_;refine ah (Hv (s.drop 2) aA) ?_;(repeat' (first|(refine⟨λ_=>?_,λ_=>?_⟩ <;> (conv=>whnf))|fail))
  all_goals (exact⟨.inl O,_,.refl _,uN (by simp_all[n6])⟩)
 ·have h1:lX s [42,46]=false:=by
   cases e:lX s [42,46] with
   |false=>rfl
   |true=>simp[wL,e]at h
  have e:wL s [42,46]=(s,false):=by unfold wL;rw[gf aD]
  rw[e];refine dd ?_;refine⟨λh2=>?_,λh2=>?_⟩
  ·refine dd ?_
   (exact⟨.inl O,_,.refl _,uN (by simp_all[n6])⟩)
  ·refine dd ?_;refine ah (Hv s hs) ?_;(repeat' (first|(refine⟨λ_=>?_,λ_=>?_⟩ <;> (conv=>whnf))|fail))
   all_goals (exact⟨.inl O,_,.refl _,uN (by simp_all[n6])⟩)
def nP(s:eZ):Bool:=decide (0<s.length) && decide (s.length<=32) && (match s with|c::_=>bI c == 47|[]=>false) && Ap nU s 47
def HE(s:eZ)(hs:s.length<4611686018427387904):tn 157 [] [Tx s] (Bo (nP s)) []:=by
 refine zb.zp (fn:=f157) func157 O ?_;cases s with
 |nil=>
  conv=>whnf
  refine tc ?_
  exact uI
 |cons c s=>
  conv=>whnf
  refine⟨λ_=>uH ?_,λh=>absurd h (by simp <;> omega)⟩;refine⟨λh1=>?_,λh1=>?_⟩
  ·conv=>whnf
   refine⟨aw,c,rfl,uH ?_⟩;refine⟨λh2=>?_,λh2=>?_⟩
   ·conv=>whnf
    refine ah Mg ?_;refine ah (MX (c::s) 47 hs) ?_;have h1':s.length<=31:=by have:=h1;exact de
    have e:nP (c::s)=Ap nU (c::s) 47:=by unfold nP;simp[h2];omega
    refine⟨λh3=>?_,λh3=>?_⟩
    all_goals ((conv=>whnf);(exact⟨.inl O,_,.refl _,uN (by rw[e,h3])⟩))
   ·conv=>whnf
    (exact⟨.inl O,_,.refl _,uN (by simp[nP,h2])⟩)
  ·conv=>whnf
   (exact⟨.inl O,_,.refl _,uN (by simp[nP];simp at h1;omega)⟩)
def VY{c:UInt8}{s:eZ}(h:oL (c::s)=true):EK (bI c)=true:=by
 unfold oL at h;simp only[gC,gA]at h;by_cases e:c=46
 ·subst e;have:=h.2 [] (by simp[xA]);exact absurd this ar
 ·have h1:(c == 46)=false:=by simpa using e
  cases h3:xA 46 s with
  |nil=>exact absurd h3 (I1 _ s)
  |cons x xs=>
   have:=h.2 (c::x) (by simp[xA,h1,h3]);simp only[xJ,gC]at this;exact this.1.2
def zyA{s:eZ}(h:nP s=true):n6 s=false:=by
 match s,h with
 |[],h=>exact absurd h ar
 |c::s,h=>
  have hc:c=47:=by
   simp only[nP,gC,pq]at h;exact UInt8.toNat_inj.1 (by have:=h.1.2;simp[bI]at this;show c.toNat=47;omega)
  subst hc;have h1:lX (47::s) [42,46]=false:=by simp[lX]
  have h2:oL (47::s)=false:=by
   cases e:oL (47::s) with
   |false=>rfl
   |true=>exact absurd (VY e) ar
  simp[n6,h1,h2]
end Go.Nam
namespace Go.Hos
open Go.Ab Go.Proofs Tryz Go.Hy Go.Gat Go.Nam
def Dl(s t:eZ):Bool:=decide (t.length<=s.length) && (s.drop (s.length-t.length) == t)
def US(s t:eZ)(hs:s.length<1000000000000000):tn 259 [] [Tx s,Tx t] (Bo (Dl s t)) []:=by
 refine ab func259 ?_;refine⟨λh=>?_,λh=>?_⟩
 ·have h':t.length<=s.length:=by simp at h;omega
  have w:IntKind.i64.wrap ((s.length:Int)-(t.length:Int))=(s.length-t.length:Nat):=bM
  refine dd ?_;rw[w];refine⟨aw,aw,aw,?_⟩;rw[pQ,toNat_cast];refine dd ?_;(repeat' (first|(refine⟨λ_=>?_,λ_=>?_⟩ <;> (conv=>whnf))|fail))
  all_goals (exact⟨.inl O,_,.refl _,uN (by simp_all[Dl])⟩)
 ·refine dd ?_
  (exact⟨.inl O,_,.refl _,uN (by simp[Dl];simp at h;intros;omega)⟩)
def Mt(s t:eZ)(hs:s.length<1000000000000000):tn 257 [] [Tx s,Tx t] (Bo (Dl s t)) []:=by
 refine ab func257 ?_;refine ah (US s t hs) ?_;(repeat' (first|(refine⟨λ_=>?_,λ_=>?_⟩ <;> (conv=>whnf))|fail))
 all_goals (rename_i h;(exact⟨.inl O,_,.refl _,uN (by exact h.symm)⟩))
def Ez(p h:eZ):Bool:=match p with
 |c::t=>c == 42 && (t == [] || (decide (t.length<h.length) && Dl h t))
 |[]=>false
def o7(p h:eZ):Bool:=n6 p && oL h && (p == h || Ez p h)
def zyh(c:UInt8)(t:eZ):wL (c::t) [42]=if c == 42 then (t,true) else (c::t,false):=by
 unfold wL lX;by_cases h:c=42
 ·subst h;simp
 ·simp[h]
def Z2:n6 []=false:=by decide
def Ti(p h:eZ)(hp:p.length<1000000000000000)(hh:h.length<1000000000000000):tn 249 [] [Tx p,Tx h] (Bo (o7 p h)) []:=by
 refine ab func249 ?_;refine ah (G9 p aw) ?_;refine⟨λh1=>?_,λh1=>?_⟩
 ·refine dd ?_;refine tc ?_
  refine ah (Hv h aw) ?_;refine⟨λh2=>?_,λh2=>?_⟩
  ·refine dd ?_;refine tc ?_
   refine ah (wh p [42]) ?_;cases p with
   |nil=>rw[Z2]at h1;cases h1
   |cons c t=>
    rw[zyh];by_cases hc:(c == 42)=true
    ·rw[gk hc];refine⟨λ_=>dd ?_,λh=>absurd h aj⟩;refine⟨λh3=>?_,λh3=>?_⟩
     ·refine dd ?_;refine tc ?_
      (exact⟨.inl O,_,.refl _,uN (by simp_all[o7])⟩)
     ·refine dd ?_;refine⟨λh4=>?_,λh4=>?_⟩
      ·refine dd ?_;refine tc ?_
       (exact⟨.inl O,_,.refl _,uN (by simp_all[o7,Ez])⟩)
      ·refine dd ?_;refine⟨λh5=>?_,λh5=>?_⟩
       ·refine dd ?_;refine ah (Mt h t hh) ?_;(repeat' (first|(refine⟨λ_=>?_,λ_=>?_⟩ <;> (conv=>whnf))|fail))
        all_goals (rename_i h6;(exact⟨.inl O,_,.refl _,uN (by simp at hc;subst hc;simp at h3 h4 h5;simp[o7,Ez,h1,h2,h3,h4,h5,h6])⟩))
       ·refine dd ?_
        (exact⟨.inl O,_,.refl _,uN (by simp at hc;subst hc;simp at h3 h4 h5;simp[o7,Ez,h1,h2,h3,h4];intros;omega)⟩)
    ·rw[gf hc];refine uG ?_;refine⟨λh3=>?_,λh3=>?_⟩
     ·refine dd ?_;refine tc ?_
      (exact⟨.inl O,_,.refl _,uN (by simp_all[o7])⟩)
     ·refine dd ?_
      (exact⟨.inl O,_,.refl _,uN (by simp at h3 hc;simp[o7,Ez,h1,h2,h3,hc])⟩)
  ·refine dd ?_;refine tc ?_
   (exact⟨.inl O,_,.refl _,uN (by simp_all[o7])⟩)
 ·refine dd ?_;refine tc ?_
  (exact⟨.inl O,_,.refl _,uN (by simp_all[o7])⟩)
def Fk(p t:eZ):Bool:=nP p && nP t && lX p t && (p.drop t.length == [] || Dl t [47] || (p.drop t.length).head? == some 47)
def zxh{s:eZ}{c:UInt8}(h:s[0]?=some c):(s.head? == some 47)=(bI c == 47):=by
 rw[List.head?_eq_getElem?,h];by_cases e:c=47
 ·subst e;rfl
 ·have h1:¬bI c=47:=λh=>e (by
   unfold bI at h;have h':c.toNat=47:=aw
   exact UInt8.toNat_inj.1 (by rw[h'];rfl))
  have h2:(c == 47)=false:=aq e
  have h3:(bI c == 47)=false:=aq h1
  rw[h3];simpa using e
def TZ(p t:eZ)(hp:p.length<1000000000000000)(ht:t.length<1000000000000000):tn 250 [] [Tx p,Tx t] (Bo (Fk p t)) []:=by
 refine ab func250 ?_;refine ah (HE p aw) ?_;refine⟨λh1=>?_,λh1=>?_⟩
 ·refine dd ?_;refine tc ?_
  refine ah (HE t aw) ?_;refine⟨λh2=>?_,λh2=>?_⟩
  ·refine dd ?_;refine tc ?_
   refine ah (wh p t) ?_;by_cases h3:lX p t=true
   ·have e:wL p t=(p.drop t.length,true):=by unfold wL;rw[gk h3]
    rw[e];refine⟨λ_=>dd ?_,λh=>absurd h aj⟩;refine⟨λh4=>?_,λh4=>?_⟩
    ·refine dd ?_;refine tc ?_
     (exact⟨.inl O,_,.refl _,uN bN⟩)
    ·refine dd ?_;refine ah (Mt t [47] ht) ?_;refine⟨λh5=>?_,λh5=>?_⟩
     ·refine dd ?_;refine tc ?_
      (exact⟨.inl O,_,.refl _,uN bN⟩)
     ·refine dd ?_
      obtain⟨c,hc⟩:∃c,(p.drop t.length)[0]?=some c:=by
       cases hd:p.drop t.length with
       |nil=>rw[hd]at h4;simp at h4
       |cons c _=>exact⟨c,rfl⟩
      refine⟨aw,c,hc,dd ?_⟩;(repeat' (first|(refine⟨λ_=>?_,λ_=>?_⟩ <;> (conv=>whnf))|fail))
      all_goals (rename_i h6;(exact⟨.inl O,_,.refl _,uN (by simp only[Fk,h1,h2,h3,h4,h5,zxh hc];simpa using h6.symm)⟩))
   ·have e:wL p t=(p,false):=by unfold wL;rw[gf h3]
    rw[e];refine uG ?_
    (exact⟨.inl O,_,.refl _,uN bN⟩)
  ·refine dd ?_;refine tc ?_
   (exact⟨.inl O,_,.refl _,uN bN⟩)
 ·refine dd ?_;refine tc ?_
  (exact⟨.inl O,_,.refl _,uN bN⟩)
def yR(p:eZ):Int:=if n6 p then (if lX p [42,46] then ((p.length-2:Nat):Int) else if p == [42] then 0 else 100) else 0
def KX(p:eZ)(hp:p.length<1000000000000000):tn 226 [] [Tx p] (I (yR p)) []:=by
 refine ab func226 ?_;refine ah (G9 p aw) ?_;refine⟨λh1=>?_,λh1=>?_⟩
 ·refine dd ?_;refine tc ?_
  refine ah (wh p [42,46]) ?_;by_cases h3:lX p [42,46]=true
  ·have e:wL p [42,46]=(p.drop 2,true):=by unfold wL;rw[gk h3];rfl
   have ew:yR p=((p.drop 2).length:Nat):=by simp[yR,h1,h3]
   rw[e,ew];refine⟨λ_=>dd ?_,λh=>absurd h aj⟩;exact uI
  ·have e:wL p [42,46]=(p,false):=by unfold wL;rw[gf h3]
   rw[e];refine uG ?_;refine⟨λh4=>?_,λh4=>?_⟩
   ·have ew:yR p=0:=by simp_all[yR]
    rw[ew];exact du
   ·have ew:yR p=100:=by simp_all[yR]
    rw[ew];exact du
 ·have ew:yR p=0:=by simp_all[yR]
  rw[ew];refine dd ?_;refine tc ?_
  exact uI
def FP(p q p' q':eZ):Bool:=if yR p=yR p' then decide (q'.length<q.length) else decide (yR p'<yR p)
def Sf(p q p' q':eZ)(hp:p.length<1000000000000000)(hq:p'.length<1000000000000000):tn 185 [] [Tx p,Tx q,Tx p',Tx q'] (Bo (FP p q p' q')) []:=by
 refine ab func185 ?_;refine ah (KX p hp) ?_;refine ah (KX p' hq) ?_;refine⟨λh1=>?_,λh1=>?_⟩
 ·refine dd ?_;(repeat' (first|(refine⟨λ_=>?_,λ_=>?_⟩ <;> (conv=>whnf))|fail))
  all_goals (rename_i h2;(exact⟨.inl O,_,.refl _,uN (by simp_all[FP])⟩))
 ·refine dd ?_;(repeat' (first|(refine⟨λ_=>?_,λ_=>?_⟩ <;> (conv=>whnf))|fail))
  all_goals (rename_i h2;(exact⟨.inl O,_,.refl _,uN (by simp_all[FP])⟩))
end Go.Hos
namespace Go.Con
open Go.Ab Go.Proofs Tryz Go.Hy Go.Gat Go.Nam Go.Hos
def BW{α:Type}(l:List α)(p:α->Bool):decide ((match l.findIdx? p with|some i=>(i:Int)|none=> -1)≥0)=l.any p:=by
 cases h:l.findIdx? p with
 |none=>
  rw[gP]at h
  symm
  simp only[Int.reduceNeg,ge_iff_le,Int.reduceLE,decide_false];rw[pd];intro x hx;simp[h x hx]
 |some i=>
  obtain⟨h1,h2,_⟩:=gJ.1 h
  symm
  have:(0:Int)<=(i:Int):=sN i;simp only[ge_iff_le,this,decide_true];rw[pZ];exact⟨_,gW h1,h2⟩
abbrev Cc(c:fF):C:=.agg (yE c)
def Ua{H:zl}{f:FuncId}{caps:List C}{l:List fF}(p:fF->Bool)(hcb:qi prog f=true)(hp:∀r∈l,tn f H ([Cc r]++caps) (Bo (p r)) H)(hl:l.length<4611686018427387904):
  tn 229 H [lC l,.fn f [] caps] (I (match l.findIdx? p with|some i=>(i:Int)|none=> -1)) H:=by
 refine zb.zG (fn:=f229) func229 O (uH ?_)
 refine qa.inv (λn t1 H1=>∃k,k+n=l.length/\H1=H/\(∀j,j<k->∀r,l[j]?=some r->p r=false)/\
   t1=((lC l)::.fn f [] caps::.za::.za::I 0::.za::.za::I (l.map yE).length::I k::hU ([.za,.za]))) l.length ?_ ?_
 ·exact dc
 rintro n _ _ ⟨k,hk,rfl,hno,rfl⟩;conv=>whnf
 refine⟨λh=>?_,λh=>?_⟩
 ·conv=>whnf
  have eU:k<l.length:=aq h
  refine⟨aw,yE l[k],aZ,uH ?_⟩;rw[hcb];refine⟨_,_,hp _ (gW eU),uH ?_⟩;refine⟨λh2=>?_,λh2=>?_⟩
  ·conv=>whnf
   refine .inr ⟨aj,uH ?_⟩;refine⟨.inl O,_,.refl _,rfl,?_⟩
   have:l.findIdx? p=some k:=by
    rw[gJ];refine⟨eU,h2,λj hj=>?_⟩;simp[hno j hj _ (dZ aw)]
   rw[this]
   rfl
  ·conv=>whnf
   refine .inl ⟨rfl,n-1,_,_,aw,zn.mask [0,1,4,7,8] _ _,k+1,aw,rfl,?_,?_⟩
   ·intro j hj r hr;by_cases hjk:j=k
    ·subst hjk;rw[dZ eU]at hr;cases hr
     exact h2
    ·exact hno j aw r hr
   ·rw[zw aw];rfl
 ·conv=>whnf
  refine .inr ⟨aj,uH ?_⟩;refine⟨.inl O,_,.refl _,rfl,?_⟩
  have:l.findIdx? p=none:=by
   rw[gP];intro x hx;obtain⟨j,hj⟩:=gQ.1 hx;have hjl:=(dY.1 hj).1;have:¬k<l.length:=aq h
   exact hno j aw x hj
  rw[this]
  rfl
def Tj{H:zl}{f:FuncId}{caps:List C}{l:List fF}(p:fF->Bool)(hcb:qi prog f=true)(hp:∀r∈l,tn f H ([Cc r]++caps) (Bo (p r)) H)(hl:l.length<4611686018427387904):
  tn 190 H [lC l,.fn f [] caps] (Bo (l.any p)) H:=by
 refine zb.zG (fn:=f190) func190 O (uH ?_);refine⟨_,_,Ua p hcb hp hl,dd ?_⟩;rw[show decide ((match l.findIdx? p with|some i=>((i:Nat):Int)|none=>(-1:Int))≥(0:Int))=l.any p from BW l p];refine⟨λh=>?_,λh=>?_⟩ <;> rw[h]
 ·exact dk
 ·exact dk
def RT(s:eZ)(c:fF):tn 191 [⟨1,9,1,[[Tx s]],0⟩] [Cc c,.ref 0 [] 1 0 0] (Bo (c.name == s)) [⟨1,9,1,[[Tx s]],0⟩]:=by
 refine zb.zG (fn:=f191) func191 O (uH ?_);refine⟨λh=>?_,λh=>?_⟩ <;> rw[h]
 ·conv=>whnf
  exact da
 ·conv=>whnf
  exact da
def kf(l:List fF)(s:eZ):Bool:=l.any λc=>c.name == s
def Lv(l:List fF)(s:eZ)(hl:l.length<4611686018427387904):tn 155 [] [lC l,Tx s] (Bo (kf l s)) []:=by
 refine ab func155 ?_;refine⟨_,_,Tj (λc=>c.name == s) au (λr _=>RT s r) hl,dd ?_⟩;refine⟨λh=>?_,λh=>?_⟩
 ·refine dd ?_
  (exact⟨.inl O,_,.refl _,uN (by exact h.symm)⟩)
 ·refine dd ?_
  (exact⟨.inl O,_,.refl _,uN (by exact h.symm)⟩)
def yh(n a b:Int):tn 154 [] [I n,I a,I b] (Bo (decide (a<=n) && decide (n<=b))) []:=by
 refine ab func154 ?_;(repeat' (first|(refine⟨λ_=>?_,λ_=>?_⟩ <;> (conv=>whnf))|fail))
 all_goals (exact⟨.inl O,_,.refl _,uN (by simp_all <;> omega)⟩)
def yz(l:List eZ)(s:eZ):Int:=match l.findIdx? (λx=>x == s) with|some i=>(i:Int)|none=> -1
def Uh(l:List eZ)(s:eZ)(hl:l.length<4611686018427387904):tn 132 [] [lT l,Tx s] (I (yz l s)) []:=by
 have hlm:(l.map qn).length=l.length:=gp ..;refine ab func132 ?_;rw[hlm];refine qa.seq l.length (λk=>((lT l)::(Tx s)::.za::.za::I 0::.za::.za::I l.length::I k::hU ([.za,.za]))) (λk=>[]) (λk=>∀j,(h:j<l.length)->j<k->(l[j] == s)=false) ?_ aj (λk hk hr=>?_) (λhr=>?_)
 ·exact cC
 ·have hg:(l.map qn)[k]?=some (qn l[k]):=by rw[gj,dZ hk];rfl
  conv=>whnf
  refine⟨λ_=>dd ?_,λh=>absurd h aA⟩;refine td hg ?_;refine⟨λh2=>?_,λh2=>?_⟩
  ·refine dd ?_;refine .inr ⟨aj,uH ?_⟩
   have e:yz l s=k:=by
    unfold yz
    have:l.findIdx? (λx=>x == s)=some k:=by
     rw[gJ];refine⟨hk,?_,λj hj=>by simp only[hr j aw hj];decide⟩;simp at h2;simp[h2]
    rw[this]
   rw[e];exact uI
  ·refine dd ?_;refine .inl ⟨rfl,?_,λj hj hjk=>?_⟩
   ·rw[zw aw];exact cE 0
   ·by_cases e:j=k
    ·subst e;simp at h2 ⊢;exactλh=>h2 h.symm
    ·exact hr j hj aw
 ·conv=>whnf
  refine⟨λh=>absurd h aj,λ_=>dd ?_⟩;refine⟨aj,uH ?_⟩
  have e:yz l s= -1:=by
   unfold yz
   have:l.findIdx? (λx=>x == s)=none:=by
    rw[gP];intro x hx;obtain⟨j,hj,rfl⟩:=pz.1 hx;exact hr j hj hj
   rw[this]
  rw[e];exact uI
def XN(l:List eZ)(s:eZ):decide (yz l s≥0)=l.any (λx=>x == s):=BW l _
def Fa(l:List eZ)(s:eZ)(hl:l.length<4611686018427387904):tn 87 [] [lT l,Tx s] (Bo (l.any λx=>x == s)) []:=by
 refine ab func87 ?_;refine ah (Uh l s hl) ?_;rw[XN];refine⟨λh=>?_,λh=>?_⟩
 ·refine dd ?_
  (exact⟨.inl O,_,.refl _,uN (by exact h.symm)⟩)
 ·refine dd ?_
  (exact⟨.inl O,_,.refl _,uN (by exact h.symm)⟩)
end Go.Con
