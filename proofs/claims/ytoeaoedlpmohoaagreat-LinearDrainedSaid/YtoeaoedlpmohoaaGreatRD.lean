import Derived.Lib.Bytealg
import Derived.WalkKit
import Derived.IntWalk
import Derived.Test.YtoeaoedlpmohoaaGreatRC
import Derived.Test.YtoeaoedlpmohoaaGreatRJ
import Derived.Test.YtoeaoedlpmohoaaGreatProg
set_option linter.all false
set_option maxRecDepth 100000
set_option maxHeartbeats 4000000
namespace Go.Gat
open Go.Ab Go.Proofs Tryz Go.Hy
def EE(n:Int):Bool:=decide (97<=n) && decide (n<=122)
def n4(n:Int):Bool:=EE n || (decide (48<=n) && decide (n<=57)) || (n == 45)
abbrev By(n:Int):C:=.v (.int .u8 n)
def MU(n:Int):tn 119 [] [By n] (Bo (EE n)) []:=by
 refine ab func119 ?_;(repeat' (first|(refine⟨λ_=>?_,λ_=>?_⟩ <;> (conv=>whnf))|fail))
 all_goals (exact⟨.inl rfl,_,.refl _,uN (by simp_all[EE] <;> (intros;omega))⟩)
def Tw(n:Int):tn 148 [] [By n] (Bo (n4 n)) []:=by
 refine ab func148 ?_;refine ah (MU n) ?_;(repeat' (first|(refine⟨λ_=>?_,λ_=>?_⟩ <;> (conv=>whnf))|fail))
 all_goals (exact⟨.inl rfl,_,.refl _,uN (by simp_all[n4] <;> (intros;omega))⟩)
def Mj:tn 120 [] [] (.agg [.fn 148 [] []]) []:=by
 refine ab func120 ?_;exact uI
abbrev bI(c:UInt8):Int:=(c.toNat:Int)
def Ao(p:Int->Bool)(s:fA)(other:Int):Bool:=s.all λc=>bI c == other || p (bI c)
def Ty{p:Int->Bool}{s:fA}{other:Int}{k:Nat}(hk:k<s.length)(h1:(bI s[k] == other)=false)(h2:p (bI s[k])=false):Ao p s other=false:=by
 unfold Ao;rw[sK];exact⟨s[k],gZ hk,by simp[h1,h2]⟩
def L8(s:fA)(other:Int)(hs:s.length<4611686018427387904):tn 121 [] [.agg [.fn 148 [] []],Tx s,By other] (Bo (Ao n4 s other)) []:=by
 refine ab func121 ?_;refine zZ.seq s.length (λk=>(.agg [.fn 148 [] []]::(Tx s)::(By other)::.ref 0 [] 1 0 0::.za::.za::Bo false::.za::.za::I s.length::I k::mC (mC ([.za])))) (λk=>[⟨1,215,1,[[.fn 148 [] []]],0⟩]) (λk=>∀j,(h:j<s.length)->j<k->(bI s[j] == other || n4 (bI s[j]))=true) ?_ aj (λk hk hr=>?_) (λhr=>?_)
 ·exact cC
 ·conv=>whnf
  refine⟨λh=>uH ?_,λh=>absurd h aA⟩;refine uE ?_;refine⟨aw,s[k],by simp[hk],uH ?_⟩;refine⟨λh1=>?_,λh1=>?_⟩
  ·refine dd ?_;refine⟨aw,s[k],by simp[hk],dd ?_⟩;refine ah (Tw (bI s[k])) ?_;refine⟨λh2=>?_,λh2=>?_⟩
   ·refine dd ?_;refine .inl ⟨rfl,?_,?_⟩
    ·exact dL
    ·intro j hj hjk;by_cases e:j=k
     ·subst e;simp[h2]
     ·exact hr j hj aw
   ·refine dd ?_;refine .inr ⟨aj,uH ?_⟩
    (exact⟨.inl rfl,_,.refl _,uN (by exact(Ty hk tD h2).symm)⟩)
  ·refine dd ?_;refine .inl ⟨rfl,?_,?_⟩
   ·exact dL
   ·intro j hj hjk;by_cases e:j=k
    ·subst e;simp at h1;simp[h1]
    ·exact hr j hj aw
 ·conv=>whnf
  refine⟨λh=>absurd h aj,λh=>uH ?_⟩;refine⟨aj,uH ?_⟩
  have e:Ao n4 s other=true:=by
   unfold Ao;rw[gI];intro x hx;obtain⟨j,hj,rfl⟩:=pF.1 hx;exact hr j hj hj
  exact⟨.inl rfl,_,.refl _,by rw[e];rfl⟩
def xL(s:fA):Bool:=decide (0<s.length) && decide (s.length<=16) && (match s with|c::_=>EE (bI c)|[]=>false) && s.all λc=>n4 (bI c)
def Vs(s:fA):Ao n4 s 45=s.all λc=>n4 (bI c):=by
 unfold Ao
 congr 1
 funext c
 cases h:(bI c == 45) with
 |false=>rfl
 |true=>simp at h;simp[n4,h]
def yB(s:fA)(hs:s.length<4611686018427387904):tn 87 [] [Tx s] (Bo (xL s)) []:=by
 refine zb.zq (fn:=f87) func87 rfl ?_;cases s with
 |nil=>
  conv=>whnf
  refine tc ?_
  exact uI
 |cons c s=>
  conv=>whnf
  refine⟨λ_=>uH ?_,λh=>absurd h (by simp <;> omega)⟩;refine⟨λh1=>?_,λh1=>?_⟩
  ·conv=>whnf
   refine⟨aw,c,rfl,uH ?_⟩;refine ah (MU (bI c)) ?_;refine⟨λh2=>?_,λh2=>?_⟩
   ·conv=>whnf
    refine ah Mj ?_;refine ah (L8 (c::s) 45 hs) ?_;have h1':s.length<=15:=by have:=h1;exact de
    have e:xL (c::s)=Ao n4 (c::s) 45:=by rw[Vs];unfold xL;simp[h2];omega
    refine⟨λh3=>?_,λh3=>?_⟩
    all_goals ((conv=>whnf);(exact⟨.inl rfl,_,.refl _,uN (by rw[e,h3])⟩))
   ·conv=>whnf
    (exact⟨.inl rfl,_,.refl _,uN (by simp[xL,h2])⟩)
  ·conv=>whnf
   (exact⟨.inl rfl,_,.refl _,uN (by simp[xL];simp at h1;omega)⟩)
end Go.Gat
namespace Go.Nam
open Go.Ab Go.Proofs Tryz Go.Hy Go.Gat Go.RowKit
def vg(b:UInt8)(s:fA):fA:=s.takeWhile (· != b)
def Ah(b:UInt8)(s:fA):fA:=(s.dropWhile (· != b)).drop 1
def xC(b:UInt8):fA->List fA
 |[]=>[[]]
 |c::s=>if c == b then []::xC b s else match xC b s with
  |p::ps=>(c::p)::ps
  |[]=>[[c]]
def IT(b:UInt8)(s:fA):xC b s≠[]:=by
 cases s with
 |nil=>simp[xC]
 |cons c s=>unfold xC;split;simp;split <;> simp
def Fh{b:UInt8}:∀{s:fA},b∉s->xC b s=[s]
 |[],_=>rfl
 |c::s,h=>by
  have h1:(c == b)=false:=by simp;intro e;subst e;exact h (rh ..)
  have h2:=Fh (s:=s) λe=>h (pV _ e)
  simp[xC,h1,h2]
def Dq{b:UInt8}:∀{s:fA},b∈s->xC b s=vg b s::xC b (Ah b s)
 |[],h=>by simp at h
 |c::s,h=>by
  by_cases e:c=b
  ·subst e;simp[xC,vg,Ah]
  ·have h1:(c == b)=false:=by simpa using e
   have h2:=Dq (s:=s) bH;have h3:(c != b)=true:=aq e
   simp only[xC,h1,sF,if_false,h2,vg,Ah,uk,List.dropWhile_cons,h3,if_true]
def M1{b:UInt8}:∀{s:fA},b∉s->Lib.indexByte s b= -1
 |[],_=>rfl
 |c::s,h=>by
  have h1:(c == b)=false:=by simp;intro e;subst e;exact h (rh ..)
  have h2:=M1 (s:=s) λe=>h (pV _ e)
  simp[Lib.indexByte,h1,h2]
def Ig{b:UInt8}:∀{s:fA},b∈s->Lib.indexByte s b=((vg b s).length:Int)
 |[],h=>by simp at h
 |c::s,h=>by
  by_cases e:c=b
  ·subst e;simp[Lib.indexByte,vg]
  ·have h1:(c == b)=false:=by simpa using e
   have h3:(c != b)=true:=aq e
   have h2:=Ig (s:=s) bH;have h4:((vg b s).length == (-1:Int))=false:=by rw[beq_eq_false_iff_ne];omega
   simp only[Lib.indexByte,h1,sF,if_false,h2,vg,uk,h3,if_true,pR];rw[show((↑(List.takeWhile (λx=>x != b) s).length:Int) == -1)=false from h4];simp
def head_take(b:UInt8)(s:fA):s.take (vg b s).length=vg b s:=by
 induction s with
 |nil=>rfl
 |cons c s ih=>
  by_cases e:c=b
  ·subst e;simp[vg]
  ·have h3:(c != b)=true:=by simpa using e
   simp only[vg,uk,h3,if_true,pR,List.take_succ_cons];rw[show List.take (List.takeWhile (λx=>x != b) s).length s=vg b s from ih];rfl
def tail_drop(b:UInt8)(s:fA):s.drop ((vg b s).length+1)=Ah b s:=by
 induction s with
 |nil=>rfl
 |cons c s ih=>
  by_cases e:c=b
  ·subst e;simp[vg,Ah]
  ·have h3:(c != b)=true:=by simpa using e
   simp only[vg,Ah,uk,List.dropWhile_cons,h3,if_true,pR,List.drop_succ_cons];exact ih
def IY{b:UInt8}{s:fA}(h:b∈s):(vg b s).length<s.length:=by
 have h1:=tail_drop b s;have h2:s.length≠0:=by intro e;rw[rT.1 e]at h;simp at h
 have h3:(vg b s).length<=s.length:=List.Sublist.length_le (List.takeWhile_sublist _);rcases pY (vg b s).length s.length with h4|h4
 ·exact h4
 ·have h5:=head_take b s;rw[sD h4]at h5;have:b∈vg b s:=by rw[<-h5];exact h
  have:=List.all_takeWhile (l:=s) (p:=(· != b));rw[gI]at this;have:=this b (by assumption);simp at this
def xY(b:UInt8)(s:fA):Nat->fA
 |0=>s
 |k+1=>Ah b (xY b s k)
def D9{b:UInt8}:∀{k:Nat} {s:fA},k+1<(xC b s).length->b∈xY b s k/\(xC b s)[k]?=some (vg b (xY b s k))/\xC b (xY b s (k+1))=(xC b s).drop (k+1)
 |0,s,h=>by
  have hb:b∈s:=by
   rcases Classical.em (b∈s) with h1|h1
   ·exact h1
   ·rw[Fh h1]at h;simp at h
  exact⟨hb,by rw[Dq hb];rfl,by rw[Dq hb];rfl⟩
 |k+1,s,h=>by
  obtain⟨h1,h2,h3⟩:=D9 (b:=b) (k:=k) (s:=s) aw
  have hb:b∈xY b s (k+1):=by
   rcases Classical.em (b∈xY b s (k+1)) with h4|h4
   ·exact h4
   ·rw[Fh h4]at h3;have:=rF List.length h3;exact de
  have h5:=Dq hb;rw[h3]at h5;refine⟨hb,?_,?_⟩
  ·have:=rF (λl=>l[0]?) h5;simpa using this
  ·have:=rF (λl=>l.drop 1) h5;simp at this;show xC b (Ah b (xY b s (k+1)))=_;rw[<-this]
def M5{b:UInt8}{k:Nat}{s:fA}(h:k+1=(xC b s).length):b∉xY b s k/\(xC b s)[k]?=some (xY b s k):=by
 have h3:xC b (xY b s k)=(xC b s).drop k:=by
  cases k with
  |zero=>rfl
  |succ k=>exact(D9 (b:=b) (s:=s) (k:=k) aw).2.2
 have h4:b∉xY b s k:=by
  intro hb;rw[Dq hb]at h3;have:=rF List.length h3
  have h5:(xC b (Ah b (xY b s k))).length≠0:=by
   intro e;exact IT b _ (rT.1 e)
  exact de
 refine⟨h4,?_⟩;rw[Fh h4]at h3;have:=rF (λl=>l[0]?) h3;simpa using this.symm
def DV(b:UInt8)(s:fA):∀k,(xY b s k).length<=s.length
 |0=>gJ _
 |k+1=>by
  have h1:((xY b s k).dropWhile (· != b)).length<=(xY b s k).length:=List.Sublist.length_le (List.dropWhile_sublist _);have:=DV b s k;simp only[xY,Ah,eC];omega
def UU(s:ByteArray)(c:Int)(w:World):Calls prog 256 #[.string s,.int .u8 c] w λe w'=>e=.returned (.int .i64 (Lib.indexByte s.data.toList c.toNat.toUInt8))/\w'=w:=by
 go_enter func256,Tryz.ntmps256
 go_wp2
 rw[run_callFunc_extern func260 au au au (e:=Extern.BytealgIndexByte.indexByte) au,Lib.run_indexByteString];simp only[Result.andThen];rw[Oper.upon_value]
 go_wp2
 go_ret
 exact⟨rfl,rfl⟩
def Uf(s:fA)(b:UInt8):tn 256 [] [Tx s,By (bI b)] (I (Lib.indexByte s b)) []:=by
 have e:(bI b).toNat.toUInt8=b:=by simp[bI]
 refine FL [] (λw=>?_) JC λE=>.v _ rfl
 have:=UU ⟨⟨s⟩⟩ (bI b) w;rw[e]at this;exact dM
def Dy(s:fA)(b:UInt8):tn 247 [] [Tx s,By (bI b)] (I (Lib.indexByte s b)) []:=by
 refine ab func247 ?_;refine ah (Uf s b) ?_;exact uI
end Go.Nam
namespace Go.Nam
open Go.Ab Go.Proofs Tryz Go.Hy Go.Gat
def SZ(X:Ob)(s:fA)(b:UInt8):tn 221 [X] [Tx s,By (bI b)] (.fn 246 [] [.ref 1 [] 1 0 0,.ref 2 [] 1 0 0]) [X,⟨1,9,1,[[Tx s]],0⟩,⟨1,5,1,[[By (bI b)]],0⟩]:=by
 refine zb.zI (fn:=f221) func221 rfl (uH ?_);exact uJ
def KL(l:Nat)(s:fA)(b:UInt8)(hs:s.length<4611686018427387904)(X:Nat->Ob)(Y:Nat->List Ob)(j:Nat)(g:Bool)(hj:j<(xC b s).length)(hend:g=false\/j+1=(xC b s).length)
 (hy:∀k p,k<j->(xC b s)[k]?=some p->jH prog l (X k::⟨1,9,1,[[Tx (xY b s k)]],0⟩::⟨1,5,1,[[By (bI b)]],0⟩::Y k) [Tx p] (Bo true) (X (k+1)::⟨1,9,1,[[Tx (xY b s k)]],0⟩::⟨1,5,1,[[By (bI b)]],0⟩::Y (k+1)))
 (hz:∀p,(xC b s)[j]?=some p->jH prog l (X j::⟨1,9,1,[[Tx (xY b s j)]],0⟩::⟨1,5,1,[[By (bI b)]],0⟩::Y j) [Tx p] (Bo g) (X (j+1)::⟨1,9,1,[[Tx (xY b s j)]],0⟩::⟨1,5,1,[[By (bI b)]],0⟩::Y (j+1))):
  tn 246 (X 0::⟨1,9,1,[[Tx (xY b s 0)]],0⟩::⟨1,5,1,[[By (bI b)]],0⟩::Y 0) [.v (.func (.yield l) #[] #[]),.ref 1 [] 1 0 0,.ref 2 [] 1 0 0] (.fC []) (X (j+1)::⟨1,9,1,[[Tx (xY b s j)]],0⟩::⟨1,5,1,[[By (bI b)]],0⟩::Y (j+1)):=by
 refine zb.zI (fn:=f246) func246 rfl (uH ?_);refine zZ.seq j (λk=>(.v (.func (.yield l) #[] #[])::.ref 1 [] 1 0 0::.ref 2 [] 1 0 0::mC (mC ([.za,.za,.za,.za])))) (λk=>X k::⟨1,9,1,[[Tx (xY b s k)]],0⟩::⟨1,5,1,[[By (bI b)]],0⟩::Y k) (λ_=>True) ?_ trivial (λk hk _=>?_) (λ_=>?_)
 ·exact cC
 ·obtain⟨h1,h2,h3⟩:=D9 (b:=b) (s:=s) (k:=k) aw;have h4:=DV b s k;have h5:=IY h1;conv=>whnf
  refine⟨_,_,(Dy (xY b s k) b).frame rfl _,?_⟩;rw[Ig h1];conv=>whnf
  refine⟨λh=>absurd h aj,λ_=>dd ?_⟩;refine⟨aw,aw,aA,?_⟩;rw[toNat_cast,tw,head_take];conv=>whnf
  refine⟨_,_,hy k _ hk h2,dd ?_⟩;refine tc ?_
  rw[zw aw,toNat_cast];refine⟨aw,uH ?_⟩;refine⟨aw,aw,?_⟩;rw[pQ,tail_drop];conv=>whnf
  exact .inl ⟨rfl,cC,trivial⟩
 ·have h4:=DV b s j;by_cases hl:j+1=(xC b s).length
  ·obtain⟨h1,h2⟩:=M5 hl;conv=>whnf
   refine⟨_,_,(Dy (xY b s j) b).frame rfl _,?_⟩;rw[M1 h1];conv=>whnf
   refine⟨λ_=>dd ?_,λh=>absurd h aj⟩;refine⟨_,_,hz _ h2,uH ?_⟩;refine⟨λ_=>?_,λ_=>?_⟩ <;>
   ·conv=>whnf
    exact⟨aj,.inl rfl,_,.refl _,rfl,rfl⟩
  ·obtain⟨h1,h2,h3⟩:=D9 (b:=b) (s:=s) (k:=j) aw;have h5:=IY h1;have hg:g=false:=by rcases hend with h|h;exact h;exact absurd h hl
   subst hg;conv=>whnf
   refine⟨_,_,(Dy (xY b s j) b).frame rfl _,?_⟩;rw[Ig h1];conv=>whnf
   refine⟨λh=>absurd h aj,λ_=>dd ?_⟩;refine⟨aw,aw,aA,?_⟩;rw[toNat_cast,tw,head_take];conv=>whnf
   refine⟨_,_,hz _ h2,dd ?_⟩;refine tc ?_
   exact⟨aj,.inl rfl,_,.refl _,rfl,rfl⟩
def oJ(s:fA):Bool:=decide (s.length<=32) && (xC 46 s).all xL
def Zr(b:UInt8)(s:fA)(k:Nat)(p:fA)(h:(xC b s)[k]?=some p):p.length<=s.length:=by
 have hk:=(gm.1 h).1;by_cases hl:k+1=(xC b s).length
 ·obtain⟨h1,h2⟩:=M5 hl;rw[h2]at h;cases h;exact DV b s k
 ·obtain⟨h1,h2,h3⟩:=D9 (b:=b) (s:=s) (k:=k) aw;rw[h2]at h;cases h
  have:=IY h1;have:=DV b s k;omega
def HM(s:fA)(hs:s.length<4611686018427387904):tn 180 [] [Tx s] (Bo (oJ s)) []:=by
 refine ab func180 ?_;refine⟨λh=>?_,λh=>?_⟩
 ·refine dd ?_
  (exact⟨.inl rfl,_,.refl _,uN (by simp[oJ];simp at h;omega)⟩)
 ·refine dd ?_;refine⟨_,_,SZ _ s 46,uH ?_⟩;have hn:=IT 46 s
  have hlen:0<(xC 46 s).length:=by
   rcases sT (xC 46 s).length with e|e
   ·exact absurd (rT.1 e) hn
   ·exact e
  have hple:∀(k:Nat) (p:fA),(xC 46 s)[k]?=some p->p.length<4611686018427387904:=λk p hp=>by have:=Zr 46 s k p hp;omega
  refine⟨_,.refl _,?_⟩;by_cases qc:(xC 46 s).all xL=true
  ·have hname:∀(k:Nat) p,(xC 46 s)[k]?=some p->xL p=true:=λk p hp=>gI.1 qc p (gA hp)
   refine⟨.normal,_,[⟨1,4,1,[[Bo false]],0⟩],λl r h1 h2 h3 h4 h5=>⟨_,_,r,KL l s 46 hs (λ_=>⟨1,4,1,[[Bo false]],0⟩) (λ_=>[iD l r _]) ((xC 46 s).length-1) true aw (.inr aw) (λk p hk hp=>?_) (λp hp=>?_),
    rfl,aZ,rfl,pb _,ba,zp.low 1 _ _ rfl rfl rfl⟩,?_⟩
   ·refine jH.zI (id:=3) rfl h1 h2 h3 h4 h5 rfl rfl rfl ?_;conv=>whnf
    refine⟨rfl,rfl,uH ?_⟩;refine ah (yB p (hple _ _ hp)) ?_;refine⟨λ_=>dd ?_,λh=>absurd ((hname _ _ hp).symm.trans h:true=false) ar⟩;exact dg
   ·refine jH.zI (id:=3) rfl h1 h2 h3 h4 h5 rfl rfl rfl ?_;conv=>whnf
    refine⟨rfl,rfl,uH ?_⟩;refine ah (yB p (hple _ _ hp)) ?_;refine⟨λ_=>dd ?_,λh=>absurd ((hname _ _ hp).symm.trans h:true=false) ar⟩;exact dg
   ·conv=>whnf
    (exact⟨.inl rfl,_,.refl _,uN (by simp[oJ,qc];simp at h;omega)⟩)
  ·obtain⟨j,hj⟩:∃j,(xC 46 s).findIdx? (λp=>!xL p)=some j:=by
    cases e:(xC 46 s).findIdx? (λp=>!xL p) with
    |some j=>exact⟨j,rfl⟩
    |none=>
     exfalso
     rw[gX]at e;exact qc (gI.2 λx hx=>by simpa using e x hx)
   rw[gR]at hj;obtain⟨hjl,hj1,hj2⟩:=hj;have qc:(xC 46 s).all xL=false:=aq qc
   refine⟨.ret,_,[⟨1,4,1,[[Bo false]],0⟩],λl r h1 h2 h3 h4 h5=>⟨_,_,left r .ret,KL l s 46 hs (λ_=>⟨1,4,1,[[Bo false]],0⟩) (λk=>[iD l (if k<j+1 then r else left r .ret) _]) j false hjl (.inl rfl) (λk p hk hp=>?_) (λp hp=>?_),
    rF (λx=>some (iD l x _)) (gu (Nat.lt_irrefl (j+1))),aj,rfl,pb _,trivial,zp.low 1 _ _ rfl rfl rfl⟩,?_⟩
   ·have e1:k<j+1:=by omega
    have e2:k+1<j+1:=aw
    simp only[gC e1,gC e2];refine jH.zI (id:=3) rfl h1 h2 h3 h4 h5 rfl rfl rfl (uH ?_);refine⟨rfl,rfl,uH ?_⟩;refine ah (yB p (hple _ _ hp)) ?_
    have hname:xL p=true:=by
     have h6:=hj2 k hk;rw[gp aw]at hp;cases hp
     simpa using h6
    refine⟨λ_=>dd ?_,λh=>absurd ((hname).symm.trans h:true=false) ar⟩;exact dg
   ·simp only[gC (Nat.lt_succ_self j),gu (Nat.lt_irrefl (j+1))];refine jH.zI (id:=3) rfl h1 h2 h3 h4 h5 rfl rfl rfl (uH ?_);refine⟨rfl,rfl,uH ?_⟩;refine ah (yB p (hple _ _ hp)) ?_
    have hname:xL p=false:=by
     rw[gp hjl]at hp;cases hp
     simpa using hj1
    refine⟨λh=>absurd ((hname).symm.trans h:false=true) ar,λ_=>dd ?_⟩;exact⟨_,_,.refl _,rfl,.inr ⟨rfl,.inl ⟨rfl,rfl⟩⟩⟩
   ·conv=>whnf
    (exact⟨.inl rfl,_,.refl _,uN (by simp[oJ,qc])⟩)
abbrev pk(b:UInt8)(s:fA)(k:Nat):List (List C):=((xC b s).take k).map qv
def mr(s p:fA):Bool:=decide (p.length<=s.length) && (s.take p.length == p)
def QC(s p:fA):tn 245 [] [Tx s,Tx p] (Bo (mr s p)) []:=by
 refine ab func245 ?_;refine⟨λh=>?_,λh=>?_⟩
 ·refine dd ?_;refine⟨aw,aw,by simp at h;omega,?_⟩;rw[toNat_cast,tw];conv=>whnf
  (repeat' (first|(refine⟨λ_=>?_,λ_=>?_⟩ <;> (conv=>whnf))|fail))
  all_goals (exact⟨.inl rfl,_,.refl _,uN (by simp_all[mr])⟩)
 ·conv=>whnf
  (exact⟨.inl rfl,_,.refl _,uN (by simp_all[mr];intros;omega)⟩)
abbrev Km(r:fA×Bool):C:=.fC [Tx r.1,Bo r.2]
def wG(s p:fA):fA×Bool:=if mr s p then (s.drop p.length,true) else (s,false)
def Rk(s p:fA):tn 220 [] [Tx s,Tx p] (Km (wG s p)) []:=by
 refine ab func220 ?_;refine ah (QC s p) ?_;refine⟨λh=>?_,λh=>?_⟩
 ·refine dd ?_;have h':p.length<=s.length:=by simp[mr]at h;exact h.1
  refine⟨aw,aw,aw,?_⟩;rw[pQ,toNat_cast];conv=>whnf
  have e:wG s p=(s.drop p.length,true):=by unfold wG;rw[gC h]
  rw[e];exact uI
 ·conv=>whnf
  have e:wG s p=(s,false):=by unfold wG;rw[gu aH]
  rw[e];exact uI
def k8(s p:fA):tn 179 [] [Tx s,Tx p] (Km (wG s p)) []:=by
 refine ab func179 ?_;refine ah (Rk s p) ?_;(repeat' (first|(refine⟨λ_=>?_,λ_=>?_⟩ <;> (conv=>whnf))|fail))
 all_goals
  rename_i h;exact⟨.inl rfl,_,.refl _,rF (λb=>some (C.fC [Tx (wG s p).1,Bo b])) h.symm⟩
def n7(s:fA):Bool:=if mr s [42,46] then oJ (s.drop 2) else s == [42] || oJ s
def Ha(s:fA)(hs:s.length<4611686018427387904):tn 144 [] [Tx s] (Bo (n7 s)) []:=by
 refine ab func144 ?_;refine ah (k8 s [42,46]) ?_;refine⟨λh=>?_,λh=>?_⟩
 ·have h1:mr s [42,46]=true:=by
   cases e:mr s [42,46] with
   |true=>rfl
   |false=>simp[wG,e]at h
  have e:wG s [42,46]=(s.drop 2,true):=by unfold wG;rw[gC h1];rfl
  rw[e];refine dd ?_;refine ah (HM (s.drop 2) aA) ?_;(repeat' (first|(refine⟨λ_=>?_,λ_=>?_⟩ <;> (conv=>whnf))|fail))
  all_goals (exact⟨.inl rfl,_,.refl _,uN (by simp_all[n7])⟩)
 ·have h1:mr s [42,46]=false:=by
   cases e:mr s [42,46] with
   |false=>rfl
   |true=>simp[wG,e]at h
  have e:wG s [42,46]=(s,false):=by unfold wG;rw[gu aD]
  rw[e];refine dd ?_;refine⟨λh2=>?_,λh2=>?_⟩
  ·refine dd ?_
   (exact⟨.inl rfl,_,.refl _,uN (by simp_all[n7])⟩)
  ·refine dd ?_;refine ah (HM s hs) ?_;(repeat' (first|(refine⟨λ_=>?_,λ_=>?_⟩ <;> (conv=>whnf))|fail))
   all_goals (exact⟨.inl rfl,_,.refl _,uN (by simp_all[n7])⟩)
def nW(s:fA):Bool:=decide (0<s.length) && decide (s.length<=32) && (match s with|c::_=>bI c == 47|[]=>false) && Ao n4 s 47
def Hz(s:fA)(hs:s.length<4611686018427387904):tn 145 [] [Tx s] (Bo (nW s)) []:=by
 refine zb.zq (fn:=f145) func145 rfl ?_;cases s with
 |nil=>
  conv=>whnf
  refine tc ?_
  exact uI
 |cons c s=>
  conv=>whnf
  refine⟨λ_=>uH ?_,λh=>absurd h (by simp <;> omega)⟩;refine⟨λh1=>?_,λh1=>?_⟩
  ·conv=>whnf
   refine⟨aw,c,rfl,uH ?_⟩;refine⟨λh2=>?_,λh2=>?_⟩
   ·conv=>whnf
    refine ah Mj ?_;refine ah (L8 (c::s) 47 hs) ?_;have h1':s.length<=31:=by have:=h1;exact de
    have e:nW (c::s)=Ao n4 (c::s) 47:=by unfold nW;simp[h2];omega
    refine⟨λh3=>?_,λh3=>?_⟩
    all_goals ((conv=>whnf);(exact⟨.inl rfl,_,.refl _,uN (by rw[e,h3])⟩))
   ·conv=>whnf
    (exact⟨.inl rfl,_,.refl _,uN (by simp[nW,h2])⟩)
  ·conv=>whnf
   (exact⟨.inl rfl,_,.refl _,uN (by simp[nW];simp at h1;omega)⟩)
def UT{c:UInt8}{s:fA}(h:oJ (c::s)=true):EE (bI c)=true:=by
 unfold oJ at h;simp only[gH,gI]at h;by_cases e:c=46
 ·subst e;have:=h.2 [] (by simp[xC]);exact absurd this ar
 ·have h1:(c == 46)=false:=by simpa using e
  cases h3:xC 46 s with
  |nil=>exact absurd h3 (IT _ s)
  |cons x xs=>
   have:=h.2 (c::x) (by simp[xC,h1,h3]);simp only[xL,gH]at this;exact this.1.2
def zxN{s:fA}(h:nW s=true):n7 s=false:=by
 match s,h with
 |[],h=>exact absurd h ar
 |c::s,h=>
  have hc:c=47:=by
   simp only[nW,gH,pH]at h;exact UInt8.toNat_inj.1 (by have:=h.1.2;simp[bI]at this;show c.toNat=47;omega)
  subst hc;have h1:mr (47::s) [42,46]=false:=by simp[mr]
  have h2:oJ (47::s)=false:=by
   cases e:oJ (47::s) with
   |false=>rfl
   |true=>exact absurd (UT e) ar
  simp[n7,h1,h2]
end Go.Nam
namespace Go.Hos
open Go.Ab Go.Proofs Tryz Go.Hy Go.Gat Go.Nam
def C8(s t:fA):Bool:=decide (t.length<=s.length) && (s.drop (s.length-t.length) == t)
def UD(s t:fA)(hs:s.length<1000000000000000):tn 259 [] [Tx s,Tx t] (Bo (C8 s t)) []:=by
 refine ab func259 ?_;refine⟨λh=>?_,λh=>?_⟩
 ·have h':t.length<=s.length:=by simp at h;omega
  have w:IntKind.i64.wrap ((s.length:Int)-(t.length:Int))=(s.length-t.length:Nat):=bJ
  refine dd ?_;rw[w];refine⟨aw,aw,aw,?_⟩;rw[pQ,toNat_cast];refine dd ?_;(repeat' (first|(refine⟨λ_=>?_,λ_=>?_⟩ <;> (conv=>whnf))|fail))
  all_goals (exact⟨.inl rfl,_,.refl _,uN (by simp_all[C8])⟩)
 ·refine dd ?_
  (exact⟨.inl rfl,_,.refl _,uN (by simp[C8];simp at h;intros;omega)⟩)
def Mu(s t:fA)(hs:s.length<1000000000000000):tn 255 [] [Tx s,Tx t] (Bo (C8 s t)) []:=by
 refine ab func255 ?_;refine ah (UD s t hs) ?_;(repeat' (first|(refine⟨λ_=>?_,λ_=>?_⟩ <;> (conv=>whnf))|fail))
 all_goals (rename_i h;(exact⟨.inl rfl,_,.refl _,uN (by exact h.symm)⟩))
def Ep(p h:fA):Bool:=match p with
 |c::t=>c == 42 && (t == [] || (decide (t.length<h.length) && C8 h t))
 |[]=>false
def o6(p h:fA):Bool:=n7 p && oJ h && (p == h || Ep p h)
def zxx(c:UInt8)(t:fA):wG (c::t) [42]=if c == 42 then (t,true) else (c::t,false):=by
 unfold wG mr;by_cases h:c=42
 ·subst h;simp
 ·simp[h]
def Zs:n7 []=false:=by decide
def SR(p h:fA)(hp:p.length<1000000000000000)(hh:h.length<1000000000000000):tn 243 [] [Tx p,Tx h] (Bo (o6 p h)) []:=by
 refine ab func243 ?_;refine ah (Ha p aw) ?_;refine⟨λh1=>?_,λh1=>?_⟩
 ·refine dd ?_;refine tc ?_
  refine ah (HM h aw) ?_;refine⟨λh2=>?_,λh2=>?_⟩
  ·refine dd ?_;refine tc ?_
   refine ah (k8 p [42]) ?_;cases p with
   |nil=>rw[Zs]at h1;cases h1
   |cons c t=>
    rw[zxx];by_cases hc:(c == 42)=true
    ·rw[gC hc];refine⟨λ_=>dd ?_,λh=>absurd h aj⟩;refine⟨λh3=>?_,λh3=>?_⟩
     ·refine dd ?_;refine tc ?_
      (exact⟨.inl rfl,_,.refl _,uN (by simp_all[o6])⟩)
     ·refine dd ?_;refine⟨λh4=>?_,λh4=>?_⟩
      ·refine dd ?_;refine tc ?_
       (exact⟨.inl rfl,_,.refl _,uN (by simp_all[o6,Ep])⟩)
      ·refine dd ?_;refine⟨λh5=>?_,λh5=>?_⟩
       ·refine dd ?_;refine ah (Mu h t hh) ?_;(repeat' (first|(refine⟨λ_=>?_,λ_=>?_⟩ <;> (conv=>whnf))|fail))
        all_goals (rename_i h6;(exact⟨.inl rfl,_,.refl _,uN (by simp at hc;subst hc;simp at h3 h4 h5;simp[o6,Ep,h1,h2,h3,h4,h5,h6])⟩))
       ·refine dd ?_
        (exact⟨.inl rfl,_,.refl _,uN (by simp at hc;subst hc;simp at h3 h4 h5;simp[o6,Ep,h1,h2,h3,h4];intros;omega)⟩)
    ·rw[gu hc];refine uG ?_;refine⟨λh3=>?_,λh3=>?_⟩
     ·refine dd ?_;refine tc ?_
      (exact⟨.inl rfl,_,.refl _,uN (by simp_all[o6])⟩)
     ·refine dd ?_
      (exact⟨.inl rfl,_,.refl _,uN (by simp at h3 hc;simp[o6,Ep,h1,h2,h3,hc])⟩)
  ·refine dd ?_;refine tc ?_
   (exact⟨.inl rfl,_,.refl _,uN (by simp_all[o6])⟩)
 ·refine dd ?_;refine tc ?_
  (exact⟨.inl rfl,_,.refl _,uN (by simp_all[o6])⟩)
def Fb(p t:fA):Bool:=nW p && nW t && mr p t && (p.drop t.length == [] || C8 t [47] || (p.drop t.length).head? == some 47)
def Z6{s:fA}{c:UInt8}(h:s[0]?=some c):(s.head? == some 47)=(bI c == 47):=by
 rw[List.head?_eq_getElem?,h];by_cases e:c=47
 ·subst e;rfl
 ·have h1:¬bI c=47:=λh=>e (by
   unfold bI at h;have h':c.toNat=47:=aw
   exact UInt8.toNat_inj.1 (by rw[h'];rfl))
  have h2:(c == 47)=false:=aq e
  have h3:(bI c == 47)=false:=aq h1
  rw[h3];simpa using e
def Sx(p t:fA)(hp:p.length<1000000000000000)(ht:t.length<1000000000000000):tn 244 [] [Tx p,Tx t] (Bo (Fb p t)) []:=by
 refine ab func244 ?_;refine ah (Hz p aw) ?_;refine⟨λh1=>?_,λh1=>?_⟩
 ·refine dd ?_;refine tc ?_
  refine ah (Hz t aw) ?_;refine⟨λh2=>?_,λh2=>?_⟩
  ·refine dd ?_;refine tc ?_
   refine ah (k8 p t) ?_;by_cases h3:mr p t=true
   ·have e:wG p t=(p.drop t.length,true):=by unfold wG;rw[gC h3]
    rw[e];refine⟨λ_=>dd ?_,λh=>absurd h aj⟩;refine⟨λh4=>?_,λh4=>?_⟩
    ·refine dd ?_;refine tc ?_
     (exact⟨.inl rfl,_,.refl _,uN bL⟩)
    ·refine dd ?_;refine ah (Mu t [47] ht) ?_;refine⟨λh5=>?_,λh5=>?_⟩
     ·refine dd ?_;refine tc ?_
      (exact⟨.inl rfl,_,.refl _,uN bL⟩)
     ·refine dd ?_
      obtain⟨c,hc⟩:∃c,(p.drop t.length)[0]?=some c:=by
       cases hd:p.drop t.length with
       |nil=>rw[hd]at h4;simp at h4
       |cons c _=>exact⟨c,rfl⟩
      refine⟨aw,c,hc,dd ?_⟩;(repeat' (first|(refine⟨λ_=>?_,λ_=>?_⟩ <;> (conv=>whnf))|fail))
      all_goals (rename_i h6;(exact⟨.inl rfl,_,.refl _,uN (by simp only[Fb,h1,h2,h3,h4,h5,Z6 hc];simpa using h6.symm)⟩))
   ·have e:wG p t=(p,false):=by unfold wG;rw[gu h3]
    rw[e];refine uG ?_
    (exact⟨.inl rfl,_,.refl _,uN bL⟩)
  ·refine dd ?_;refine tc ?_
   (exact⟨.inl rfl,_,.refl _,uN bL⟩)
 ·refine dd ?_;refine tc ?_
  (exact⟨.inl rfl,_,.refl _,uN bL⟩)
def yM(p:fA):Int:=if n7 p then (if mr p [42,46] then ((p.length-2:Nat):Int) else if p == [42] then 0 else 100) else 0
def KO(p:fA)(hp:p.length<1000000000000000):tn 217 [] [Tx p] (I (yM p)) []:=by
 refine ab func217 ?_;refine ah (Ha p aw) ?_;refine⟨λh1=>?_,λh1=>?_⟩
 ·refine dd ?_;refine tc ?_
  refine ah (k8 p [42,46]) ?_;by_cases h3:mr p [42,46]=true
  ·have e:wG p [42,46]=(p.drop 2,true):=by unfold wG;rw[gC h3];rfl
   have ew:yM p=((p.drop 2).length:Nat):=by simp[yM,h1,h3]
   rw[e,ew];refine⟨λ_=>dd ?_,λh=>absurd h aj⟩;exact uI
  ·have e:wG p [42,46]=(p,false):=by unfold wG;rw[gu h3]
   rw[e];refine uG ?_;refine⟨λh4=>?_,λh4=>?_⟩
   ·have ew:yM p=0:=by simp_all[yM]
    rw[ew];exact dA
   ·have ew:yM p=100:=by simp_all[yM]
    rw[ew];exact dA
 ·have ew:yM p=0:=by simp_all[yM]
  rw[ew];refine dd ?_;refine tc ?_
  exact uI
def FN(p q p' q':fA):Bool:=if yM p=yM p' then decide (q'.length<q.length) else decide (yM p'<yM p)
def Rm(p q p' q':fA)(hp:p.length<1000000000000000)(hq:p'.length<1000000000000000):tn 174 [] [Tx p,Tx q,Tx p',Tx q'] (Bo (FN p q p' q')) []:=by
 refine ab func174 ?_;refine ah (KO p hp) ?_;refine ah (KO p' hq) ?_;refine⟨λh1=>?_,λh1=>?_⟩
 ·refine dd ?_;(repeat' (first|(refine⟨λ_=>?_,λ_=>?_⟩ <;> (conv=>whnf))|fail))
  all_goals (rename_i h2;(exact⟨.inl rfl,_,.refl _,uN (by simp_all[FN])⟩))
 ·refine dd ?_;(repeat' (first|(refine⟨λ_=>?_,λ_=>?_⟩ <;> (conv=>whnf))|fail))
  all_goals (rename_i h2;(exact⟨.inl rfl,_,.refl _,uN (by simp_all[FN])⟩))
end Go.Hos
namespace Go.Con
open Go.Ab Go.Proofs Tryz Go.Hy Go.Gat Go.Nam Go.Hos
def BK{α:Type}(l:List α)(p:α->Bool):decide ((match l.findIdx? p with|some i=>(i:Int)|none=> -1)≥0)=l.any p:=by
 cases h:l.findIdx? p with
 |none=>
  rw[gX]at h
  symm
  simp only[Int.reduceNeg,ge_iff_le,Int.reduceLE,decide_false];rw[pD];intro x hx;simp[h x hx]
 |some i=>
  obtain⟨h1,h2,_⟩:=gR.1 h
  symm
  have:(0:Int)<=(i:Int):=uu i;simp only[ge_iff_le,this,decide_true];rw[rB];exact⟨_,gZ h1,h2⟩
abbrev Cc(c:ic):C:=.agg (xc c)
def Ug{H:zl}{f:FuncId}{caps:List C}{l:List ic}(p:ic->Bool)(hcb:qm prog f=true)(hp:∀r∈l,tn f H ([Cc r]++caps) (Bo (p r)) H)(hl:l.length<4611686018427387904):
  tn 219 H [lC l,.fn f [] caps] (I (match l.findIdx? p with|some i=>(i:Int)|none=> -1)) H:=by
 refine zb.zI (fn:=f219) func219 rfl (uH ?_)
 refine zZ.inv (λn t1 H1=>∃k,k+n=l.length/\H1=H/\(∀j,j<k->∀r,l[j]?=some r->p r=false)/\
   t1=((lC l)::.fn f [] caps::.za::.za::I 0::.za::.za::I (l.map xc).length::I k::mC ([.za,.za]))) l.length ?_ ?_
 ·exact dc
 rintro n _ _ ⟨k,hk,rfl,hno,rfl⟩;conv=>whnf
 refine⟨λh=>?_,λh=>?_⟩
 ·conv=>whnf
  have ft:k<l.length:=aq h
  refine⟨aw,xc l[k],aX,uH ?_⟩;rw[hcb];refine⟨_,_,hp _ (gZ ft),uH ?_⟩;refine⟨λh2=>?_,λh2=>?_⟩
  ·conv=>whnf
   refine .inr ⟨aj,uH ?_⟩;refine⟨.inl rfl,_,.refl _,rfl,?_⟩
   have:l.findIdx? p=some k:=by
    rw[gR];refine⟨ft,h2,λj hj=>?_⟩;simp[hno j hj _ (gp aw)]
   rw[this]
   rfl
  ·conv=>whnf
   refine .inl ⟨rfl,n-1,_,_,aw,zp.mask [0,1,4,7,8] _ _,k+1,aw,rfl,?_,?_⟩
   ·intro j hj r hr;by_cases hjk:j=k
    ·subst hjk;rw[gp ft]at hr;cases hr
     exact h2
    ·exact hno j aw r hr
   ·rw[zw aw];rfl
 ·conv=>whnf
  refine .inr ⟨aj,uH ?_⟩;refine⟨.inl rfl,_,.refl _,rfl,?_⟩
  have:l.findIdx? p=none:=by
   rw[gX];intro x hx;obtain⟨j,hj⟩:=gW.1 hx;have hjl:=(gm.1 hj).1;have:¬k<l.length:=aq h
   exact hno j aw x hj
  rw[this]
  rfl
def Tb{H:zl}{f:FuncId}{caps:List C}{l:List ic}(p:ic->Bool)(hcb:qm prog f=true)(hp:∀r∈l,tn f H ([Cc r]++caps) (Bo (p r)) H)(hl:l.length<4611686018427387904):
  tn 177 H [lC l,.fn f [] caps] (Bo (l.any p)) H:=by
 refine zb.zI (fn:=f177) func177 rfl (uH ?_);refine⟨_,_,Ug p hcb hp hl,dd ?_⟩;rw[show decide ((match l.findIdx? p with|some i=>((i:Nat):Int)|none=>(-1:Int))≥(0:Int))=l.any p from BK l p];refine⟨λh=>?_,λh=>?_⟩ <;> rw[h]
 ·exact dt
 ·exact dt
def Rz(s:fA)(c:ic):tn 178 [⟨1,9,1,[[Tx s]],0⟩] [Cc c,.ref 0 [] 1 0 0] (Bo (c.name == s)) [⟨1,9,1,[[Tx s]],0⟩]:=by
 refine zb.zI (fn:=f178) func178 rfl (uH ?_);refine⟨λh=>?_,λh=>?_⟩ <;> rw[h]
 ·conv=>whnf
  exact da
 ·conv=>whnf
  exact da
def vX(l:List ic)(s:fA):Bool:=l.any λc=>c.name == s
def K0(l:List ic)(s:fA)(hl:l.length<4611686018427387904):tn 143 [] [lC l,Tx s] (Bo (vX l s)) []:=by
 refine ab func143 ?_;refine⟨_,_,Tb (λc=>c.name == s) au (λr _=>Rz s r) hl,dd ?_⟩;refine⟨λh=>?_,λh=>?_⟩
 ·refine dd ?_
  (exact⟨.inl rfl,_,.refl _,uN (by exact h.symm)⟩)
 ·refine dd ?_
  (exact⟨.inl rfl,_,.refl _,uN (by exact h.symm)⟩)
def yj(n a b:Int):tn 142 [] [I n,I a,I b] (Bo (decide (a<=n) && decide (n<=b))) []:=by
 refine ab func142 ?_;(repeat' (first|(refine⟨λ_=>?_,λ_=>?_⟩ <;> (conv=>whnf))|fail))
 all_goals (exact⟨.inl rfl,_,.refl _,uN (by simp_all <;> omega)⟩)
def yI(l:List fA)(s:fA):Int:=match l.findIdx? (λx=>x == s) with|some i=>(i:Int)|none=> -1
def Un(l:List fA)(s:fA)(hl:l.length<4611686018427387904):tn 125 [] [lT l,Tx s] (I (yI l s)) []:=by
 have hlm:(l.map qv).length=l.length:=gE ..;refine ab func125 ?_;rw[hlm];refine zZ.seq l.length (λk=>((lT l)::(Tx s)::.za::.za::I 0::.za::.za::I l.length::I k::mC ([.za,.za]))) (λk=>[]) (λk=>∀j,(h:j<l.length)->j<k->(l[j] == s)=false) ?_ aj (λk hk hr=>?_) (λhr=>?_)
 ·exact cC
 ·have hg:(l.map qv)[k]?=some (qv l[k]):=by rw[gz,gp hk];rfl
  conv=>whnf
  refine⟨λ_=>dd ?_,λh=>absurd h aA⟩;refine td hg ?_;refine⟨λh2=>?_,λh2=>?_⟩
  ·refine dd ?_;refine .inr ⟨aj,uH ?_⟩
   have e:yI l s=k:=by
    unfold yI
    have:l.findIdx? (λx=>x == s)=some k:=by
     rw[gR];refine⟨hk,?_,λj hj=>by simp only[hr j aw hj];decide⟩;simp at h2;simp[h2]
    rw[this]
   rw[e];exact uI
  ·refine dd ?_;refine .inl ⟨rfl,?_,λj hj hjk=>?_⟩
   ·rw[zw aw];exact cE 0
   ·by_cases e:j=k
    ·subst e;simp at h2 ⊢;exactλh=>h2 h.symm
    ·exact hr j hj aw
 ·conv=>whnf
  refine⟨λh=>absurd h aj,λ_=>dd ?_⟩;refine⟨aj,uH ?_⟩
  have e:yI l s= -1:=by
   unfold yI
   have:l.findIdx? (λx=>x == s)=none:=by
    rw[gX];intro x hx;obtain⟨j,hj,rfl⟩:=pF.1 hx;exact hr j hj hj
   rw[this]
  rw[e];exact uI
def WL(l:List fA)(s:fA):decide (yI l s≥0)=l.any (λx=>x == s):=BK l _
def EX(l:List fA)(s:fA)(hl:l.length<4611686018427387904):tn 90 [] [lT l,Tx s] (Bo (l.any λx=>x == s)) []:=by
 refine ab func90 ?_;refine ah (Un l s hl) ?_;rw[WL];refine⟨λh=>?_,λh=>?_⟩
 ·refine dd ?_
  (exact⟨.inl rfl,_,.refl _,uN (by exact h.symm)⟩)
 ·refine dd ?_
  (exact⟨.inl rfl,_,.refl _,uN (by exact h.symm)⟩)
end Go.Con
