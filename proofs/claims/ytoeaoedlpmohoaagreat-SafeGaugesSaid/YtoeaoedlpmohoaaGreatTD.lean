import Derived.Lib.Bytealg
import Derived.WalkKit
import Derived.IntWalk
import Derived.Test.YtoeaoedlpmohoaaGreatTC
import Derived.Test.YtoeaoedlpmohoaaGreatTJ
import Derived.Test.YtoeaoedlpmohoaaGreatProg
set_option linter.all false
set_option maxRecDepth 100000
set_option maxHeartbeats 4000000
namespace Go.Gat
open Go.Ab Go.Proofs Tryz Go.Hy
def ER(n:Int):Bool:=decide (97<=n) && decide (n<=122)
def oH(n:Int):Bool:=ER n || (decide (48<=n) && decide (n<=57)) || (n == 45)
abbrev By(n:Int):C:=.v (.int .u8 n)
def MC(n:Int):tj 119 [] [By n] (Bo (ER n)) []:=by
 refine ab func119 ?_;(repeat' (first|(refine⟨λ_=>?_,λ_=>?_⟩ <;> (conv=>whnf))|fail))
 all_goals (exact⟨.inl J,_,.refl _,uN (by simp_all[ER] <;> (intros;omega))⟩)
def S9(n:Int):tj 148 [] [By n] (Bo (oH n)) []:=by
 refine ab func148 ?_;refine ah (MC n) ?_;(repeat' (first|(refine⟨λ_=>?_,λ_=>?_⟩ <;> (conv=>whnf))|fail))
 all_goals (exact⟨.inl J,_,.refl _,uN (by simp_all[oH] <;> (intros;omega))⟩)
def Mp:tj 120 [] [] (.agg [.fn 148 [] []]) []:=by
 refine ab func120 ?_;exact uI
abbrev bI(c:UInt8):Int:=(c.toNat:Int)
def AO(p:Int->Bool)(s:ft)(other:Int):Bool:=s.all λc=>bI c == other || p (bI c)
def Ta{p:Int->Bool}{s:ft}{other:Int}{k:Nat}(hk:k<s.length)(h1:(bI s[k] == other)=false)(h2:p (bI s[k])=false):AO p s other=false:=by
 unfold AO;rw[sr];exact⟨s[k],gU hk,by simp[h1,h2]⟩
def Na(s:ft)(other:Int)(hs:s.length<4611686018427387904):tj 121 [] [.agg [.fn 148 [] []],Tx s,By other] (Bo (AO oH s other)) []:=by
 refine ab func121 ?_;refine qe.seq s.length (λk=>(.agg [.fn 148 [] []]::(Tx s)::(By other)::.ref 0 [] 1 0 0::.za::.za::Bo false::.za::.za::I s.length::I k::tZ (tZ ([.za])))) (λk=>[⟨1,215,1,[[.fn 148 [] []]],0⟩]) (λk=>∀j,(h:j<s.length)->j<k->(bI s[j] == other || oH (bI s[j]))=true) ?_ aj (λk hk hr=>?_) (λhr=>?_)
 ·exact cC
 ·conv=>whnf
  refine⟨λh=>uH ?_,λh=>absurd h aA⟩;refine uE ?_;refine⟨aw,s[k],by simp[hk],uH ?_⟩;refine⟨λh1=>?_,λh1=>?_⟩
  ·refine dd ?_;refine⟨aw,s[k],by simp[hk],dd ?_⟩;refine ah (S9 (bI s[k])) ?_;refine⟨λh2=>?_,λh2=>?_⟩
   ·refine dd ?_;refine .inl ⟨rfl,?_,?_⟩
    ·exact dD
    ·intro j hj hjk;by_cases e:j=k
     ·subst e;simp[h2]
     ·exact hr j hj aw
   ·refine dd ?_;refine .inr ⟨aj,uH ?_⟩
    (exact⟨.inl J,_,.refl _,uN (by exact(Ta hk tE h2).symm)⟩)
  ·refine dd ?_;refine .inl ⟨rfl,?_,?_⟩
   ·exact dD
   ·intro j hj hjk;by_cases e:j=k
    ·subst e;simp at h1;simp[h1]
    ·exact hr j hj aw
 ·conv=>whnf
  refine⟨λh=>absurd h aj,λh=>uH ?_⟩;refine⟨aj,uH ?_⟩
  have e:AO oH s other=true:=by
   unfold AO;rw[gz];intro x hx;obtain⟨j,hj,rfl⟩:=pM.1 hx;exact hr j hj hj
  exact⟨.inl J,_,.refl _,by rw[e];rfl⟩
def xW(s:ft):Bool:=decide (0<s.length) && decide (s.length<=16) && (match s with|c::_=>ER (bI c)|[]=>false) && s.all λc=>oH (bI c)
def U7(s:ft):AO oH s 45=s.all λc=>oH (bI c):=by
 unfold AO
 congr 1
 funext c
 cases h:(bI c == 45) with
 |false=>rfl
 |true=>simp at h;simp[oH,h]
def yO(s:ft)(hs:s.length<4611686018427387904):tj 87 [] [Tx s] (Bo (xW s)) []:=by
 refine zb.zr (fn:=f87) func87 J ?_;cases s with
 |nil=>
  conv=>whnf
  refine hZ ?_
  exact uI
 |cons c s=>
  conv=>whnf
  refine⟨λ_=>uH ?_,λh=>absurd h (by simp <;> omega)⟩;refine⟨λh1=>?_,λh1=>?_⟩
  ·conv=>whnf
   refine⟨aw,c,rfl,uH ?_⟩;refine ah (MC (bI c)) ?_;refine⟨λh2=>?_,λh2=>?_⟩
   ·conv=>whnf
    refine ah Mp ?_;refine ah (Na (c::s) 45 hs) ?_;have h1':s.length<=15:=by have:=h1;exact cW
    have e:xW (c::s)=AO oH (c::s) 45:=by rw[U7];unfold xW;simp[h2];omega
    refine⟨λh3=>?_,λh3=>?_⟩
    all_goals ((conv=>whnf);(exact⟨.inl J,_,.refl _,uN (by rw[e,h3])⟩))
   ·conv=>whnf
    (exact⟨.inl J,_,.refl _,uN (by simp[xW,h2])⟩)
  ·conv=>whnf
   (exact⟨.inl J,_,.refl _,uN (by simp[xW];simp at h1;omega)⟩)
end Go.Gat
namespace Go.Nam
open Go.Ab Go.Proofs Tryz Go.Hy Go.Gat Go.RowKit
def vw(b:UInt8)(s:ft):ft:=s.takeWhile (· != b)
def vy(b:UInt8)(s:ft):ft:=(s.dropWhile (· != b)).drop 1
def xN(b:UInt8):ft->List ft
 |[]=>[[]]
 |c::s=>if c == b then []::xN b s else match xN b s with
  |p::ps=>(c::p)::ps
  |[]=>[[c]]
def I3(b:UInt8)(s:ft):xN b s≠[]:=by
 cases s with
 |nil=>simp[xN]
 |cons c s=>unfold xN;split;simp;split <;> simp
def Fm{b:UInt8}:∀{s:ft},b∉s->xN b s=[s]
 |[],_=>rfl
 |c::s,h=>by
  have h1:(c == b)=false:=by simp;intro e;subst e;exact h (pT ..)
  have h2:=Fm (s:=s) λe=>h (pP _ e)
  simp[xN,h1,h2]
def DG{b:UInt8}:∀{s:ft},b∈s->xN b s=vw b s::xN b (vy b s)
 |[],h=>by simp at h
 |c::s,h=>by
  by_cases e:c=b
  ·subst e;simp[xN,vw,vy]
  ·have h1:(c == b)=false:=by simpa using e
   have h2:=DG (s:=s) bJ;have h3:(c != b)=true:=aq e
   simp only[xN,h1,sd,if_false,h2,vw,vy,uc,List.dropWhile_cons,h3,if_true]
def NN{b:UInt8}:∀{s:ft},b∉s->Lib.indexByte s b= -1
 |[],_=>rfl
 |c::s,h=>by
  have h1:(c == b)=false:=by simp;intro e;subst e;exact h (pT ..)
  have h2:=NN (s:=s) λe=>h (pP _ e)
  simp[Lib.indexByte,h1,h2]
def IL{b:UInt8}:∀{s:ft},b∈s->Lib.indexByte s b=((vw b s).length:Int)
 |[],h=>by simp at h
 |c::s,h=>by
  by_cases e:c=b
  ·subst e;simp[Lib.indexByte,vw]
  ·have h1:(c == b)=false:=by simpa using e
   have h3:(c != b)=true:=aq e
   have h2:=IL (s:=s) bJ;have h4:((vw b s).length == (-1:Int))=false:=by rw[beq_eq_false_iff_ne];omega
   simp only[Lib.indexByte,h1,sd,if_false,h2,vw,uc,h3,if_true,rk];rw[show((↑(List.takeWhile (λx=>x != b) s).length:Int) == -1)=false from h4];simp
def head_take(b:UInt8)(s:ft):s.take (vw b s).length=vw b s:=by
 induction s with
 |nil=>rfl
 |cons c s ih=>
  by_cases e:c=b
  ·subst e;simp[vw]
  ·have h3:(c != b)=true:=by simpa using e
   simp only[vw,uc,h3,if_true,rk,List.take_succ_cons];rw[show List.take (List.takeWhile (λx=>x != b) s).length s=vw b s from ih];rfl
def tail_drop(b:UInt8)(s:ft):s.drop ((vw b s).length+1)=vy b s:=by
 induction s with
 |nil=>rfl
 |cons c s ih=>
  by_cases e:c=b
  ·subst e;simp[vw,vy]
  ·have h3:(c != b)=true:=by simpa using e
   simp only[vw,vy,uc,List.dropWhile_cons,h3,if_true,rk,List.drop_succ_cons];exact ih
def Jf{b:UInt8}{s:ft}(h:b∈s):(vw b s).length<s.length:=by
 have h1:=tail_drop b s;have h2:s.length≠0:=by intro e;rw[rh.1 e]at h;simp at h
 have h3:(vw b s).length<=s.length:=List.Sublist.length_le (List.takeWhile_sublist _);rcases rU (vw b s).length s.length with h4|h4
 ·exact h4
 ·have h5:=head_take b s;rw[r9 h4]at h5;have:b∈vw b s:=by rw[<-h5];exact h
  have:=List.all_takeWhile (l:=s) (p:=(· != b));rw[gz]at this;have:=this b (by assumption);simp at this
def yc(b:UInt8)(s:ft):Nat->ft
 |0=>s
 |k+1=>vy b (yc b s k)
def Ek{b:UInt8}:∀{k:Nat} {s:ft},k+1<(xN b s).length->b∈yc b s k/\(xN b s)[k]?=some (vw b (yc b s k))/\xN b (yc b s (k+1))=(xN b s).drop (k+1)
 |0,s,h=>by
  have hb:b∈s:=by
   rcases Classical.em (b∈s) with h1|h1
   ·exact h1
   ·rw[Fm h1]at h;simp at h
  exact⟨hb,by rw[DG hb];rfl,by rw[DG hb];rfl⟩
 |k+1,s,h=>by
  obtain⟨h1,h2,h3⟩:=Ek (b:=b) (k:=k) (s:=s) aw
  have hb:b∈yc b s (k+1):=by
   rcases Classical.em (b∈yc b s (k+1)) with h4|h4
   ·exact h4
   ·rw[Fm h4]at h3;have:=rq List.length h3;exact cW
  have h5:=DG hb;rw[h3]at h5;refine⟨hb,?_,?_⟩
  ·have:=rq (λl=>l[0]?) h5;simpa using this
  ·have:=rq (λl=>l.drop 1) h5;simp at this;show xN b (vy b (yc b s (k+1)))=_;rw[<-this]
def NZ{b:UInt8}{k:Nat}{s:ft}(h:k+1=(xN b s).length):b∉yc b s k/\(xN b s)[k]?=some (yc b s k):=by
 have h3:xN b (yc b s k)=(xN b s).drop k:=by
  cases k with
  |zero=>rfl
  |succ k=>exact(Ek (b:=b) (s:=s) (k:=k) aw).2.2
 have h4:b∉yc b s k:=by
  intro hb;rw[DG hb]at h3;have:=rq List.length h3
  have h5:(xN b (vy b (yc b s k))).length≠0:=by
   intro e;exact I3 b _ (rh.1 e)
  exact cW
 refine⟨h4,?_⟩;rw[Fm h4]at h3;have:=rq (λl=>l[0]?) h3;simpa using this.symm
def Eh(b:UInt8)(s:ft):∀k,(yc b s k).length<=s.length
 |0=>gC _
 |k+1=>by
  have h1:((yc b s k).dropWhile (· != b)).length<=(yc b s k).length:=List.Sublist.length_le (List.dropWhile_sublist _);have:=Eh b s k;simp only[yc,vy,List.length_drop];omega
def VC(s:ByteArray)(c:Int)(w:World):Calls prog 256 #[.string s,.int .u8 c] w λe w'=>e=.returned (.int .i64 (Lib.indexByte s.data.toList c.toNat.toUInt8))/\w'=w:=by
 go_enter func256,Tryz.ntmps256
 go_wp2
 rw[run_callFunc_extern func260 au au au (e:=Extern.BytealgIndexByte.indexByte) au,Lib.run_indexByteString];simp only[Result.andThen];rw[Oper.upon_value]
 go_wp2
 go_ret
 exact dK
def TR(s:ft)(b:UInt8):tj 256 [] [Tx s,By (bI b)] (I (Lib.indexByte s b)) []:=by
 have e:(bI b).toNat.toUInt8=b:=by simp[bI]
 refine FE [] (λw=>?_) JV λE=>.v _ J
 have:=VC ⟨⟨s⟩⟩ (bI b) w;rw[e]at this;exact dG
def DO(s:ft)(b:UInt8):tj 247 [] [Tx s,By (bI b)] (I (Lib.indexByte s b)) []:=by
 refine ab func247 ?_;refine ah (TR s b) ?_;exact uI
end Go.Nam
namespace Go.Nam
open Go.Ab Go.Proofs Tryz Go.Hy Go.Gat
def Sv(X:Ob)(s:ft)(b:UInt8):tj 221 [X] [Tx s,By (bI b)] (.fn 246 [] [.ref 1 [] 1 0 0,.ref 2 [] 1 0 0]) [X,⟨1,9,1,[[Tx s]],0⟩,⟨1,5,1,[[By (bI b)]],0⟩]:=by
 refine zb.zL (fn:=f221) func221 J (uH ?_);exact uJ
def K2(l:Nat)(s:ft)(b:UInt8)(hs:s.length<4611686018427387904)(X:Nat->Ob)(Y:Nat->List Ob)(j:Nat)(g:Bool)(hj:j<(xN b s).length)(hend:g=false\/j+1=(xN b s).length)
 (hy:∀k p,k<j->(xN b s)[k]?=some p->jI prog l (X k::⟨1,9,1,[[Tx (yc b s k)]],0⟩::⟨1,5,1,[[By (bI b)]],0⟩::Y k) [Tx p] (Bo true) (X (k+1)::⟨1,9,1,[[Tx (yc b s k)]],0⟩::⟨1,5,1,[[By (bI b)]],0⟩::Y (k+1)))
 (hz:∀p,(xN b s)[j]?=some p->jI prog l (X j::⟨1,9,1,[[Tx (yc b s j)]],0⟩::⟨1,5,1,[[By (bI b)]],0⟩::Y j) [Tx p] (Bo g) (X (j+1)::⟨1,9,1,[[Tx (yc b s j)]],0⟩::⟨1,5,1,[[By (bI b)]],0⟩::Y (j+1))):
  tj 246 (X 0::⟨1,9,1,[[Tx (yc b s 0)]],0⟩::⟨1,5,1,[[By (bI b)]],0⟩::Y 0) [.v (.func (.yield l) #[] #[]),.ref 1 [] 1 0 0,.ref 2 [] 1 0 0] (.fq []) (X (j+1)::⟨1,9,1,[[Tx (yc b s j)]],0⟩::⟨1,5,1,[[By (bI b)]],0⟩::Y (j+1)):=by
 refine zb.zL (fn:=f246) func246 J (uH ?_);refine qe.seq j (λk=>(.v (.func (.yield l) #[] #[])::.ref 1 [] 1 0 0::.ref 2 [] 1 0 0::tZ (tZ ([.za,.za,.za,.za])))) (λk=>X k::⟨1,9,1,[[Tx (yc b s k)]],0⟩::⟨1,5,1,[[By (bI b)]],0⟩::Y k) (λ_=>True) ?_ trivial (λk hk _=>?_) (λ_=>?_)
 ·exact cC
 ·obtain⟨h1,h2,h3⟩:=Ek (b:=b) (s:=s) (k:=k) aw;have h4:=Eh b s k;have h5:=Jf h1;conv=>whnf
  refine⟨_,_,(DO (yc b s k) b).frame J _,?_⟩;rw[IL h1];conv=>whnf
  refine⟨λh=>absurd h aj,λ_=>dd ?_⟩;refine⟨aw,aw,aA,?_⟩;rw[toNat_cast,sW,head_take];conv=>whnf
  refine⟨_,_,hy k _ hk h2,dd ?_⟩;refine hZ ?_
  rw[zw aw,toNat_cast];refine⟨aw,uH ?_⟩;refine⟨aw,aw,?_⟩;rw[gZ,tail_drop];conv=>whnf
  exact .inl ⟨rfl,cC,trivial⟩
 ·have h4:=Eh b s j;by_cases hl:j+1=(xN b s).length
  ·obtain⟨h1,h2⟩:=NZ hl;conv=>whnf
   refine⟨_,_,(DO (yc b s j) b).frame J _,?_⟩;rw[NN h1];conv=>whnf
   refine⟨λ_=>dd ?_,λh=>absurd h aj⟩;refine⟨_,_,hz _ h2,uH ?_⟩;refine⟨λ_=>?_,λ_=>?_⟩ <;>
   ·conv=>whnf
    exact⟨aj,.inl J,_,.refl _,rfl,rfl⟩
  ·obtain⟨h1,h2,h3⟩:=Ek (b:=b) (s:=s) (k:=j) aw;have h5:=Jf h1;have hg:g=false:=by rcases hend with h|h;exact h;exact absurd h hl
   subst hg;conv=>whnf
   refine⟨_,_,(DO (yc b s j) b).frame J _,?_⟩;rw[IL h1];conv=>whnf
   refine⟨λh=>absurd h aj,λ_=>dd ?_⟩;refine⟨aw,aw,aA,?_⟩;rw[toNat_cast,sW,head_take];conv=>whnf
   refine⟨_,_,hz _ h2,dd ?_⟩;refine hZ ?_
   exact⟨aj,.inl J,_,.refl _,rfl,rfl⟩
def Aa(s:ft):Bool:=decide (s.length<=32) && (xN 46 s).all xW
def Zv(b:UInt8)(s:ft)(k:Nat)(p:ft)(h:(xN b s)[k]?=some p):p.length<=s.length:=by
 have hk:=(dW.1 h).1;by_cases hl:k+1=(xN b s).length
 ·obtain⟨h1,h2⟩:=NZ hl;rw[h2]at h;cases h;exact Eh b s k
 ·obtain⟨h1,h2,h3⟩:=Ek (b:=b) (s:=s) (k:=k) aw;rw[h2]at h;cases h
  have:=Jf h1;have:=Eh b s k;omega
def HU(s:ft)(hs:s.length<4611686018427387904):tj 180 [] [Tx s] (Bo (Aa s)) []:=by
 refine ab func180 ?_;refine⟨λh=>?_,λh=>?_⟩
 ·refine dd ?_
  (exact⟨.inl J,_,.refl _,uN (by simp[Aa];simp at h;omega)⟩)
 ·refine dd ?_;refine⟨_,_,Sv _ s 46,uH ?_⟩;have hn:=I3 46 s
  have hlen:0<(xN 46 s).length:=by
   rcases sJ (xN 46 s).length with e|e
   ·exact absurd (rh.1 e) hn
   ·exact e
  have hple:∀(k:Nat) (p:ft),(xN 46 s)[k]?=some p->p.length<4611686018427387904:=λk p hp=>by have:=Zv 46 s k p hp;omega
  refine⟨_,.refl _,?_⟩;by_cases z8:(xN 46 s).all xW=true
  ·have hname:∀(k:Nat) p,(xN 46 s)[k]?=some p->xW p=true:=λk p hp=>gz.1 z8 p (dY hp)
   refine⟨.normal,_,[⟨1,4,1,[[Bo false]],0⟩],λl r h1 h2 h3 h4 h5=>⟨_,_,r,K2 l s 46 hs (λ_=>⟨1,4,1,[[Bo false]],0⟩) (λ_=>[iy l r _]) ((xN 46 s).length-1) true aw (.inr aw) (λk p hk hp=>?_) (λp hp=>?_),
    rfl,aZ,rfl,gV _,ba,zq.low 1 _ _ J J J⟩,?_⟩
   ·refine jI.zL (id:=3) J h1 h2 h3 h4 h5 J J J ?_;conv=>whnf
    refine⟨rfl,rfl,uH ?_⟩;refine ah (yO p (hple _ _ hp)) ?_;refine⟨λ_=>dd ?_,λh=>absurd ((hname _ _ hp).symm.trans h:true=false) ar⟩;exact cZ
   ·refine jI.zL (id:=3) J h1 h2 h3 h4 h5 J J J ?_;conv=>whnf
    refine⟨rfl,rfl,uH ?_⟩;refine ah (yO p (hple _ _ hp)) ?_;refine⟨λ_=>dd ?_,λh=>absurd ((hname _ _ hp).symm.trans h:true=false) ar⟩;exact cZ
   ·conv=>whnf
    (exact⟨.inl J,_,.refl _,uN (by simp[Aa,z8];simp at h;omega)⟩)
  ·obtain⟨j,hj⟩:∃j,(xN 46 s).findIdx? (λp=>!xW p)=some j:=by
    cases e:(xN 46 s).findIdx? (λp=>!xW p) with
    |some j=>exact⟨j,rfl⟩
    |none=>
     exfalso
     rw[gS]at e;exact z8 (gz.2 λx hx=>by simpa using e x hx)
   rw[gK]at hj;obtain⟨hjl,hj1,hj2⟩:=hj;have z8:(xN 46 s).all xW=false:=aq z8
   refine⟨.ret,_,[⟨1,4,1,[[Bo false]],0⟩],λl r h1 h2 h3 h4 h5=>⟨_,_,left r .ret,K2 l s 46 hs (λ_=>⟨1,4,1,[[Bo false]],0⟩) (λk=>[iy l (if k<j+1 then r else left r .ret) _]) j false hjl (.inl rfl) (λk p hk hp=>?_) (λp hp=>?_),
    rq (λx=>some (iy l x _)) (dZ (Nat.lt_irrefl (j+1))),aj,rfl,gV _,trivial,zq.low 1 _ _ J J J⟩,?_⟩
   ·have e1:k<j+1:=by omega
    have e2:k+1<j+1:=aw
    simp only[gh e1,gh e2];refine jI.zL (id:=3) J h1 h2 h3 h4 h5 J J J (uH ?_);refine⟨rfl,rfl,uH ?_⟩;refine ah (yO p (hple _ _ hp)) ?_
    have hname:xW p=true:=by
     have h6:=hj2 k hk;rw[dX aw]at hp;cases hp
     simpa using h6
    refine⟨λ_=>dd ?_,λh=>absurd ((hname).symm.trans h:true=false) ar⟩;exact cZ
   ·simp only[gh (Nat.lt_succ_self j),dZ (Nat.lt_irrefl (j+1))];refine jI.zL (id:=3) J h1 h2 h3 h4 h5 J J J (uH ?_);refine⟨rfl,rfl,uH ?_⟩;refine ah (yO p (hple _ _ hp)) ?_
    have hname:xW p=false:=by
     rw[dX hjl]at hp;cases hp
     simpa using hj1
    refine⟨λh=>absurd ((hname).symm.trans h:false=true) ar,λ_=>dd ?_⟩;exact⟨_,_,.refl _,rfl,.inr ⟨rfl,.inl ⟨rfl,rfl⟩⟩⟩
   ·conv=>whnf
    (exact⟨.inl J,_,.refl _,uN (by simp[Aa,z8])⟩)
abbrev pk(b:UInt8)(s:ft)(k:Nat):List (List C):=((xN b s).take k).map qw
def mb(s p:ft):Bool:=decide (p.length<=s.length) && (s.take p.length == p)
def Q0(s p:ft):tj 245 [] [Tx s,Tx p] (Bo (mb s p)) []:=by
 refine ab func245 ?_;refine⟨λh=>?_,λh=>?_⟩
 ·refine dd ?_;refine⟨aw,aw,by simp at h;omega,?_⟩;rw[toNat_cast,sW];conv=>whnf
  (repeat' (first|(refine⟨λ_=>?_,λ_=>?_⟩ <;> (conv=>whnf))|fail))
  all_goals (exact⟨.inl J,_,.refl _,uN (by simp_all[mb])⟩)
 ·conv=>whnf
  (exact⟨.inl J,_,.refl _,uN (by simp_all[mb];intros;omega)⟩)
abbrev KK(r:ft×Bool):C:=.fq [Tx r.1,Bo r.2]
def wX(s p:ft):ft×Bool:=if mb s p then (s.drop p.length,true) else (s,false)
def Rh(s p:ft):tj 220 [] [Tx s,Tx p] (KK (wX s p)) []:=by
 refine ab func220 ?_;refine ah (Q0 s p) ?_;refine⟨λh=>?_,λh=>?_⟩
 ·refine dd ?_;have h':p.length<=s.length:=by simp[mb]at h;exact h.1
  refine⟨aw,aw,aw,?_⟩;rw[gZ,toNat_cast];conv=>whnf
  have e:wX s p=(s.drop p.length,true):=by unfold wX;rw[gh h]
  rw[e];exact uI
 ·conv=>whnf
  have e:wX s p=(s,false):=by unfold wX;rw[dZ aH]
  rw[e];exact uI
def wz(s p:ft):tj 179 [] [Tx s,Tx p] (KK (wX s p)) []:=by
 refine ab func179 ?_;refine ah (Rh s p) ?_;(repeat' (first|(refine⟨λ_=>?_,λ_=>?_⟩ <;> (conv=>whnf))|fail))
 all_goals
  rename_i h;exact⟨.inl J,_,.refl _,rq (λb=>some (C.fq [Tx (wX s p).1,Bo b])) h.symm⟩
def oK(s:ft):Bool:=if mb s [42,46] then Aa (s.drop 2) else s == [42] || Aa s
def Hr(s:ft)(hs:s.length<4611686018427387904):tj 144 [] [Tx s] (Bo (oK s)) []:=by
 refine ab func144 ?_;refine ah (wz s [42,46]) ?_;refine⟨λh=>?_,λh=>?_⟩
 ·have h1:mb s [42,46]=true:=by
   cases e:mb s [42,46] with
   |true=>rfl
   |false=>simp[wX,e]at h
  have e:wX s [42,46]=(s.drop 2,true):=by unfold wX;rw[gh h1];rfl
  rw[e];refine dd ?_;refine ah (HU (s.drop 2) aA) ?_;(repeat' (first|(refine⟨λ_=>?_,λ_=>?_⟩ <;> (conv=>whnf))|fail))
  all_goals (exact⟨.inl J,_,.refl _,uN (by simp_all[oK])⟩)
 ·have h1:mb s [42,46]=false:=by
   cases e:mb s [42,46] with
   |false=>rfl
   |true=>simp[wX,e]at h
  have e:wX s [42,46]=(s,false):=by unfold wX;rw[dZ aD]
  rw[e];refine dd ?_;refine⟨λh2=>?_,λh2=>?_⟩
  ·refine dd ?_
   (exact⟨.inl J,_,.refl _,uN (by simp_all[oK])⟩)
  ·refine dd ?_;refine ah (HU s hs) ?_;(repeat' (first|(refine⟨λ_=>?_,λ_=>?_⟩ <;> (conv=>whnf))|fail))
   all_goals (exact⟨.inl J,_,.refl _,uN (by simp_all[oK])⟩)
def oB(s:ft):Bool:=decide (0<s.length) && decide (s.length<=32) && (match s with|c::_=>bI c == 47|[]=>false) && AO oH s 47
def HJ(s:ft)(hs:s.length<4611686018427387904):tj 145 [] [Tx s] (Bo (oB s)) []:=by
 refine zb.zr (fn:=f145) func145 J ?_;cases s with
 |nil=>
  conv=>whnf
  refine hZ ?_
  exact uI
 |cons c s=>
  conv=>whnf
  refine⟨λ_=>uH ?_,λh=>absurd h (by simp <;> omega)⟩;refine⟨λh1=>?_,λh1=>?_⟩
  ·conv=>whnf
   refine⟨aw,c,rfl,uH ?_⟩;refine⟨λh2=>?_,λh2=>?_⟩
   ·conv=>whnf
    refine ah Mp ?_;refine ah (Na (c::s) 47 hs) ?_;have h1':s.length<=31:=by have:=h1;exact cW
    have e:oB (c::s)=AO oH (c::s) 47:=by unfold oB;simp[h2];omega
    refine⟨λh3=>?_,λh3=>?_⟩
    all_goals ((conv=>whnf);(exact⟨.inl J,_,.refl _,uN (by rw[e,h3])⟩))
   ·conv=>whnf
    (exact⟨.inl J,_,.refl _,uN (by simp[oB,h2])⟩)
  ·conv=>whnf
   (exact⟨.inl J,_,.refl _,uN (by simp[oB];simp at h1;omega)⟩)
def VB{c:UInt8}{s:ft}(h:Aa (c::s)=true):ER (bI c)=true:=by
 unfold Aa at h;simp only[gA,gz]at h;by_cases e:c=46
 ·subst e;have:=h.2 [] (by simp[xN]);exact absurd this ar
 ·have h1:(c == 46)=false:=by simpa using e
  cases h3:xN 46 s with
  |nil=>exact absurd h3 (I3 _ s)
  |cons x xs=>
   have:=h.2 (c::x) (by simp[xN,h1,h3]);simp only[xW,gA]at this;exact this.1.2
def zyV{s:ft}(h:oB s=true):oK s=false:=by
 match s,h with
 |[],h=>exact absurd h ar
 |c::s,h=>
  have hc:c=47:=by
   simp only[oB,gA,pF]at h;exact UInt8.toNat_inj.1 (by have:=h.1.2;simp[bI]at this;show c.toNat=47;omega)
  subst hc;have h1:mb (47::s) [42,46]=false:=by simp[mb]
  have h2:Aa (47::s)=false:=by
   cases e:Aa (47::s) with
   |false=>rfl
   |true=>exact absurd (VB e) ar
  simp[oK,h1,h2]
end Go.Nam
namespace Go.Hos
open Go.Ab Go.Proofs Tryz Go.Hy Go.Gat Go.Nam
def Dv(s t:ft):Bool:=decide (t.length<=s.length) && (s.drop (s.length-t.length) == t)
def UG(s t:ft)(hs:s.length<1000000000000000):tj 259 [] [Tx s,Tx t] (Bo (Dv s t)) []:=by
 refine ab func259 ?_;refine⟨λh=>?_,λh=>?_⟩
 ·have h':t.length<=s.length:=by simp at h;omega
  have w:IntKind.i64.wrap ((s.length:Int)-(t.length:Int))=(s.length-t.length:Nat):=by rw[jx aw aw];omega
  refine dd ?_;rw[w];refine⟨aw,aw,aw,?_⟩;rw[gZ,toNat_cast];refine dd ?_;(repeat' (first|(refine⟨λ_=>?_,λ_=>?_⟩ <;> (conv=>whnf))|fail))
  all_goals (exact⟨.inl J,_,.refl _,uN (by simp_all[Dv])⟩)
 ·refine dd ?_
  (exact⟨.inl J,_,.refl _,uN (by simp[Dv];simp at h;intros;omega)⟩)
def Nr(s t:ft)(hs:s.length<1000000000000000):tj 255 [] [Tx s,Tx t] (Bo (Dv s t)) []:=by
 refine ab func255 ?_;refine ah (UG s t hs) ?_;(repeat' (first|(refine⟨λ_=>?_,λ_=>?_⟩ <;> (conv=>whnf))|fail))
 all_goals (rename_i h;(exact⟨.inl J,_,.refl _,uN (by exact h.symm)⟩))
def ED(p h:ft):Bool:=match p with
 |c::t=>c == 42 && (t == [] || (decide (t.length<h.length) && Dv h t))
 |[]=>false
def AE(p h:ft):Bool:=oK p && Aa h && (p == h || ED p h)
def zyE(c:UInt8)(t:ft):wX (c::t) [42]=if c == 42 then (t,true) else (c::t,false):=by
 unfold wX mb;by_cases h:c=42
 ·subst h;simp
 ·simp[h]
def Zw:oK []=false:=by decide
def SD(p h:ft)(hp:p.length<1000000000000000)(hh:h.length<1000000000000000):tj 243 [] [Tx p,Tx h] (Bo (AE p h)) []:=by
 refine ab func243 ?_;refine ah (Hr p aw) ?_;refine⟨λh1=>?_,λh1=>?_⟩
 ·refine dd ?_;refine hZ ?_
  refine ah (HU h aw) ?_;refine⟨λh2=>?_,λh2=>?_⟩
  ·refine dd ?_;refine hZ ?_
   refine ah (wz p [42]) ?_;cases p with
   |nil=>rw[Zw]at h1;cases h1
   |cons c t=>
    rw[zyE];by_cases hc:(c == 42)=true
    ·rw[gh hc];refine⟨λ_=>dd ?_,λh=>absurd h aj⟩;refine⟨λh3=>?_,λh3=>?_⟩
     ·refine dd ?_;refine hZ ?_
      (exact⟨.inl J,_,.refl _,uN (by simp_all[AE])⟩)
     ·refine dd ?_;refine⟨λh4=>?_,λh4=>?_⟩
      ·refine dd ?_;refine hZ ?_
       (exact⟨.inl J,_,.refl _,uN (by simp_all[AE,ED])⟩)
      ·refine dd ?_;refine⟨λh5=>?_,λh5=>?_⟩
       ·refine dd ?_;refine ah (Nr h t hh) ?_;(repeat' (first|(refine⟨λ_=>?_,λ_=>?_⟩ <;> (conv=>whnf))|fail))
        all_goals (rename_i h6;(exact⟨.inl J,_,.refl _,uN (by simp at hc;subst hc;simp at h3 h4 h5;simp[AE,ED,h1,h2,h3,h4,h5,h6])⟩))
       ·refine dd ?_
        (exact⟨.inl J,_,.refl _,uN (by simp at hc;subst hc;simp at h3 h4 h5;simp[AE,ED,h1,h2,h3,h4];intros;omega)⟩)
    ·rw[dZ hc];refine uG ?_;refine⟨λh3=>?_,λh3=>?_⟩
     ·refine dd ?_;refine hZ ?_
      (exact⟨.inl J,_,.refl _,uN (by simp_all[AE])⟩)
     ·refine dd ?_
      (exact⟨.inl J,_,.refl _,uN (by simp at h3 hc;simp[AE,ED,h1,h2,h3,hc])⟩)
  ·refine dd ?_;refine hZ ?_
   (exact⟨.inl J,_,.refl _,uN (by simp_all[AE])⟩)
 ·refine dd ?_;refine hZ ?_
  (exact⟨.inl J,_,.refl _,uN (by simp_all[AE])⟩)
def Fq(p t:ft):Bool:=oB p && oB t && mb p t && (p.drop t.length == [] || Dv t [47] || (p.drop t.length).head? == some 47)
def zxM{s:ft}{c:UInt8}(h:s[0]?=some c):(s.head? == some 47)=(bI c == 47):=by
 rw[List.head?_eq_getElem?,h];by_cases e:c=47
 ·subst e;rfl
 ·have h1:¬bI c=47:=λh=>e (by
   unfold bI at h;have h':c.toNat=47:=aw
   exact UInt8.toNat_inj.1 (by rw[h'];rfl))
  have h2:(c == 47)=false:=aq e
  have h3:(bI c == 47)=false:=aq h1
  rw[h3];simpa using e
def S7(p t:ft)(hp:p.length<1000000000000000)(ht:t.length<1000000000000000):tj 244 [] [Tx p,Tx t] (Bo (Fq p t)) []:=by
 refine ab func244 ?_;refine ah (HJ p aw) ?_;refine⟨λh1=>?_,λh1=>?_⟩
 ·refine dd ?_;refine hZ ?_
  refine ah (HJ t aw) ?_;refine⟨λh2=>?_,λh2=>?_⟩
  ·refine dd ?_;refine hZ ?_
   refine ah (wz p t) ?_;by_cases h3:mb p t=true
   ·have e:wX p t=(p.drop t.length,true):=by unfold wX;rw[gh h3]
    rw[e];refine⟨λ_=>dd ?_,λh=>absurd h aj⟩;refine⟨λh4=>?_,λh4=>?_⟩
    ·refine dd ?_;refine hZ ?_
     (exact⟨.inl J,_,.refl _,uN bL⟩)
    ·refine dd ?_;refine ah (Nr t [47] ht) ?_;refine⟨λh5=>?_,λh5=>?_⟩
     ·refine dd ?_;refine hZ ?_
      (exact⟨.inl J,_,.refl _,uN bL⟩)
     ·refine dd ?_
      obtain⟨c,hc⟩:∃c,(p.drop t.length)[0]?=some c:=by
       cases hd:p.drop t.length with
       |nil=>rw[hd]at h4;simp at h4
       |cons c _=>exact⟨c,rfl⟩
      refine⟨aw,c,hc,dd ?_⟩;(repeat' (first|(refine⟨λ_=>?_,λ_=>?_⟩ <;> (conv=>whnf))|fail))
      all_goals (rename_i h6;(exact⟨.inl J,_,.refl _,uN (by simp only[Fq,h1,h2,h3,h4,h5,zxM hc];simpa using h6.symm)⟩))
   ·have e:wX p t=(p,false):=by unfold wX;rw[dZ h3]
    rw[e];refine uG ?_
    (exact⟨.inl J,_,.refl _,uN bL⟩)
  ·refine dd ?_;refine hZ ?_
   (exact⟨.inl J,_,.refl _,uN bL⟩)
 ·refine dd ?_;refine hZ ?_
  (exact⟨.inl J,_,.refl _,uN bL⟩)
def yW(p:ft):Int:=if oK p then (if mb p [42,46] then ((p.length-2:Nat):Int) else if p == [42] then 0 else 100) else 0
def Le(p:ft)(hp:p.length<1000000000000000):tj 217 [] [Tx p] (I (yW p)) []:=by
 refine ab func217 ?_;refine ah (Hr p aw) ?_;refine⟨λh1=>?_,λh1=>?_⟩
 ·refine dd ?_;refine hZ ?_
  refine ah (wz p [42,46]) ?_;by_cases h3:mb p [42,46]=true
  ·have e:wX p [42,46]=(p.drop 2,true):=by unfold wX;rw[gh h3];rfl
   have ew:yW p=((p.drop 2).length:Nat):=by simp[yW,h1,h3]
   rw[e,ew];refine⟨λ_=>dd ?_,λh=>absurd h aj⟩;exact uI
  ·have e:wX p [42,46]=(p,false):=by unfold wX;rw[dZ h3]
   rw[e];refine uG ?_;refine⟨λh4=>?_,λh4=>?_⟩
   ·have ew:yW p=0:=by simp_all[yW]
    rw[ew];exact dk
   ·have ew:yW p=100:=by simp_all[yW]
    rw[ew];exact dk
 ·have ew:yW p=0:=by simp_all[yW]
  rw[ew];refine dd ?_;refine hZ ?_
  exact uI
def FY(p q p' q':ft):Bool:=if yW p=yW p' then decide (q'.length<q.length) else decide (yW p'<yW p)
def RO(p q p' q':ft)(hp:p.length<1000000000000000)(hq:p'.length<1000000000000000):tj 174 [] [Tx p,Tx q,Tx p',Tx q'] (Bo (FY p q p' q')) []:=by
 refine ab func174 ?_;refine ah (Le p hp) ?_;refine ah (Le p' hq) ?_;refine⟨λh1=>?_,λh1=>?_⟩
 ·refine dd ?_;(repeat' (first|(refine⟨λ_=>?_,λ_=>?_⟩ <;> (conv=>whnf))|fail))
  all_goals (rename_i h2;(exact⟨.inl J,_,.refl _,uN (by simp_all[FY])⟩))
 ·refine dd ?_;(repeat' (first|(refine⟨λ_=>?_,λ_=>?_⟩ <;> (conv=>whnf))|fail))
  all_goals (rename_i h2;(exact⟨.inl J,_,.refl _,uN (by simp_all[FY])⟩))
end Go.Hos
namespace Go.Con
open Go.Ab Go.Proofs Tryz Go.Hy Go.Gat Go.Nam Go.Hos
def D6{α:Type}(l:List α)(p:α->Bool):decide ((match l.findIdx? p with|some i=>(i:Int)|none=> -1)≥0)=l.any p:=by
 cases h:l.findIdx? p with
 |none=>
  rw[gS]at h
  symm
  simp only[Int.reduceNeg,ge_iff_le,Int.reduceLE,decide_false];rw[pC];intro x hx;simp[h x hx]
 |some i=>
  obtain⟨h1,h2,_⟩:=gK.1 h
  symm
  have:(0:Int)<=(i:Int):=eI i;simp only[ge_iff_le,this,decide_true];rw[p9];exact⟨_,gU h1,h2⟩
abbrev Cc(c:fV):C:=.agg (yY c)
def TS{H:zm}{f:FuncId}{caps:List C}{l:List fV}(p:fV->Bool)(hcb:qp prog f=true)(hp:∀r∈l,tj f H ([Cc r]++caps) (Bo (p r)) H)(hl:l.length<4611686018427387904):
  tj 219 H [lC l,.fn f [] caps] (I (match l.findIdx? p with|some i=>(i:Int)|none=> -1)) H:=by
 refine zb.zL (fn:=f219) func219 J (uH ?_)
 refine qe.inv (λn t1 H1=>∃k,k+n=l.length/\H1=H/\(∀j,j<k->∀r,l[j]?=some r->p r=false)/\
   t1=((lC l)::.fn f [] caps::.za::.za::I 0::.za::.za::I (l.map yY).length::I k::tZ ([.za,.za]))) l.length ?_ ?_
 ·exact c8
 rintro n _ _ ⟨k,hk,rfl,hno,rfl⟩;conv=>whnf
 refine⟨λh=>?_,λh=>?_⟩
 ·conv=>whnf
  have fj:k<l.length:=aq h
  refine⟨aw,yY l[k],aX,uH ?_⟩;rw[hcb];refine⟨_,_,hp _ (gU fj),uH ?_⟩;refine⟨λh2=>?_,λh2=>?_⟩
  ·conv=>whnf
   refine .inr ⟨aj,uH ?_⟩;refine⟨.inl J,_,.refl _,rfl,?_⟩
   have:l.findIdx? p=some k:=by
    rw[gK];refine⟨fj,h2,λj hj=>?_⟩;simp[hno j hj _ (dX aw)]
   rw[this]
   rfl
  ·conv=>whnf
   refine .inl ⟨rfl,n-1,_,_,aw,zq.mask [0,1,4,7,8] _ _,k+1,aw,rfl,?_,?_⟩
   ·intro j hj r hr;by_cases hjk:j=k
    ·subst hjk;rw[dX fj]at hr;cases hr
     exact h2
    ·exact hno j aw r hr
   ·rw[zw aw];rfl
 ·conv=>whnf
  refine .inr ⟨aj,uH ?_⟩;refine⟨.inl J,_,.refl _,rfl,?_⟩
  have:l.findIdx? p=none:=by
   rw[gS];intro x hx;obtain⟨j,hj⟩:=gE.1 hx;have hjl:=(dW.1 hj).1;have:¬k<l.length:=aq h
   exact hno j aw x hj
  rw[this]
  rfl
def T4{H:zm}{f:FuncId}{caps:List C}{l:List fV}(p:fV->Bool)(hcb:qp prog f=true)(hp:∀r∈l,tj f H ([Cc r]++caps) (Bo (p r)) H)(hl:l.length<4611686018427387904):
  tj 177 H [lC l,.fn f [] caps] (Bo (l.any p)) H:=by
 refine zb.zL (fn:=f177) func177 J (uH ?_);refine⟨_,_,TS p hcb hp hl,dd ?_⟩;rw[show decide ((match l.findIdx? p with|some i=>((i:Nat):Int)|none=>(-1:Int))≥(0:Int))=l.any p from D6 l p];refine⟨λh=>?_,λh=>?_⟩ <;> rw[h]
 ·exact dj
 ·exact dj
def Sl(s:ft)(c:fV):tj 178 [⟨1,9,1,[[Tx s]],0⟩] [Cc c,.ref 0 [] 1 0 0] (Bo (c.name == s)) [⟨1,9,1,[[Tx s]],0⟩]:=by
 refine zb.zL (fn:=f178) func178 J (uH ?_);refine⟨λh=>?_,λh=>?_⟩ <;> rw[h]
 ·conv=>whnf
  exact c9
 ·conv=>whnf
  exact c9
def A3(l:List fV)(s:ft):Bool:=l.any λc=>c.name == s
def Lh(l:List fV)(s:ft)(hl:l.length<4611686018427387904):tj 143 [] [lC l,Tx s] (Bo (A3 l s)) []:=by
 refine ab func143 ?_;refine⟨_,_,T4 (λc=>c.name == s) au (λr _=>Sl s r) hl,dd ?_⟩;refine⟨λh=>?_,λh=>?_⟩
 ·refine dd ?_
  (exact⟨.inl J,_,.refl _,uN (by exact h.symm)⟩)
 ·refine dd ?_
  (exact⟨.inl J,_,.refl _,uN (by exact h.symm)⟩)
def yt(n a b:Int):tj 142 [] [I n,I a,I b] (Bo (decide (a<=n) && decide (n<=b))) []:=by
 refine ab func142 ?_;(repeat' (first|(refine⟨λ_=>?_,λ_=>?_⟩ <;> (conv=>whnf))|fail))
 all_goals (exact⟨.inl J,_,.refl _,uN (by simp_all <;> omega)⟩)
def vj(l:List ft)(s:ft):Int:=match l.findIdx? (λx=>x == s) with|some i=>(i:Int)|none=> -1
def TY(l:List ft)(s:ft)(hl:l.length<4611686018427387904):tj 125 [] [lT l,Tx s] (I (vj l s)) []:=by
 have hlm:(l.map qw).length=l.length:=gu ..;refine ab func125 ?_;rw[hlm];refine qe.seq l.length (λk=>((lT l)::(Tx s)::.za::.za::I 0::.za::.za::I l.length::I k::tZ ([.za,.za]))) (λk=>[]) (λk=>∀j,(h:j<l.length)->j<k->(l[j] == s)=false) ?_ aj (λk hk hr=>?_) (λhr=>?_)
 ·exact cC
 ·have hg:(l.map qw)[k]?=some (qw l[k]):=by rw[gf,dX hk];rfl
  conv=>whnf
  refine⟨λ_=>dd ?_,λh=>absurd h aA⟩;refine tc hg ?_;refine⟨λh2=>?_,λh2=>?_⟩
  ·refine dd ?_;refine .inr ⟨aj,uH ?_⟩
   have e:vj l s=k:=by
    unfold vj
    have:l.findIdx? (λx=>x == s)=some k:=by
     rw[gK];refine⟨hk,?_,λj hj=>by simp only[hr j aw hj];decide⟩;simp at h2;simp[h2]
    rw[this]
   rw[e];exact uI
  ·refine dd ?_;refine .inl ⟨rfl,?_,λj hj hjk=>?_⟩
   ·rw[zw aw];exact cE 0
   ·by_cases e:j=k
    ·subst e;simp at h2 ⊢;exactλh=>h2 h.symm
    ·exact hr j hj aw
 ·conv=>whnf
  refine⟨λh=>absurd h aj,λ_=>dd ?_⟩;refine⟨aj,uH ?_⟩
  have e:vj l s= -1:=by
   unfold vj
   have:l.findIdx? (λx=>x == s)=none:=by
    rw[gS];intro x hx;obtain⟨j,hj,rfl⟩:=pM.1 hx;exact hr j hj hj
   rw[this]
  rw[e];exact uI
def Xe(l:List ft)(s:ft):decide (vj l s≥0)=l.any (λx=>x == s):=D6 l _
def Fa(l:List ft)(s:ft)(hl:l.length<4611686018427387904):tj 90 [] [lT l,Tx s] (Bo (l.any λx=>x == s)) []:=by
 refine ab func90 ?_;refine ah (TY l s hl) ?_;rw[Xe];refine⟨λh=>?_,λh=>?_⟩
 ·refine dd ?_
  (exact⟨.inl J,_,.refl _,uN (by exact h.symm)⟩)
 ·refine dd ?_
  (exact⟨.inl J,_,.refl _,uN (by exact h.symm)⟩)
end Go.Con
