import Derived.Lib.Bytealg
import Derived.WalkKit
import Derived.IntWalk
import Derived.Test.YtllehbdigpdinaaGreatTC
import Derived.Test.YtllehbdigpdinaaGreatTJ
import Derived.Test.YtllehbdigpdinaaGreatProg
set_option linter.all false
set_option maxRecDepth 100000
set_option maxHeartbeats 4000000
namespace Go.Gat
open Go.Ab Go.Proofs Tryz Go.Hy
def I8(n:Int):Bool:=decide (97<=n) && decide (n<=122)
def Av(n:Int):Bool:=I8 n || (decide (48<=n) && decide (n<=57)) || (n == 45)
abbrev By(n:Int):C:=.v (.int .u8 n)
def Ql(n:Int):tj 128 [] [By n] (Bo (I8 n)) []:=by
 refine ab func128 ?_;(repeat' (first|(refine⟨λ_=>?_,λ_=>?_⟩ <;> (conv=>whnf))|fail))
 all_goals (exact⟨.inl V,_,.refl _,uN (by simp_all[I8] <;> (intros;omega))⟩)
def X4(n:Int):tj 158 [] [By n] (Bo (Av n)) []:=by
 refine ab func158 ?_;refine ah (Ql n) ?_;(repeat' (first|(refine⟨λ_=>?_,λ_=>?_⟩ <;> (conv=>whnf))|fail))
 all_goals (exact⟨.inl V,_,.refl _,uN (by simp_all[Av] <;> (intros;omega))⟩)
def PF:tj 129 [] [] (.agg [.fn 158 [] []]) []:=by
 refine ab func129 ?_;exact uI
abbrev bI(c:UInt8):Int:=(c.toNat:Int)
def BJ(p:Int->Bool)(s:fK)(other:Int):Bool:=s.all λc=>bI c == other || p (bI c)
def XK{p:Int->Bool}{s:fK}{other:Int}{k:Nat}(hk:k<s.length)(h1:(bI s[k] == other)=false)(h2:p (bI s[k])=false):BJ p s other=false:=by
 unfold BJ;rw[sI];exact⟨s[k],pt hk,by simp[h1,h2]⟩
def Hl(s:fK)(other:Int)(hs:s.length<4611686018427387904):tj 130 [] [.agg [.fn 158 [] []],Tx s,By other] (Bo (BJ Av s other)) []:=by
 refine ab func130 ?_;refine qg.seq s.length (λk=>(.agg [.fn 158 [] []]::(Tx s)::(By other)::.ref 0 [] 1 0 0::.za::.za::Bo false::.za::.za::I s.length::I k::tY (tY ([.za])))) (λk=>[⟨1,229,1,[[.fn 158 [] []]],0⟩]) (λk=>∀j,(h:j<s.length)->j<k->(bI s[j] == other || Av (bI s[j]))=true) ?_ aj (λk hk hr=>?_) (λhr=>?_)
 .exact cC
 .conv=>whnf
  refine⟨λh=>uH ?_,λh=>absurd h aA⟩;refine uE ?_;refine⟨aw,s[k],by simp[hk],uH ?_⟩;refine⟨λh1=>?_,λh1=>?_⟩
  .refine dd ?_;refine⟨aw,s[k],by simp[hk],dd ?_⟩;refine ah (X4 (bI s[k])) ?_;refine⟨λh2=>?_,λh2=>?_⟩
   .refine dd ?_;refine .inl ⟨rfl,?_,?_⟩
    .exact du
    .intro j hj hjk;by_cases e:j=k
     .subst e;simp[h2]
     .exact hr j hj aw
   .refine dd ?_;refine zaJ ?_
    (exact⟨.inl V,_,.refl _,uN (by exact(XK hk tG h2).symm)⟩)
  .refine dd ?_;refine .inl ⟨rfl,?_,?_⟩
   .exact du
   .intro j hj hjk;by_cases e:j=k
    .subst e;simp at h1;simp[h1]
    .exact hr j hj aw
 .conv=>whnf
  refine⟨λh=>absurd h aj,λh=>uH ?_⟩;refine⟨aj,uH ?_⟩
  have e:BJ Av s other=true:=by
   unfold BJ;rw[gE];intro x hx;obtain⟨j,hj,rfl⟩:=pJ.1 hx;exact hr j hj hj
  exact⟨.inl V,_,.refl _,by rw[e];rfl⟩
def yk(s:fK):Bool:=decide (0<s.length) && decide (s.length<=16) && (match s with|c::_=>I8 (bI c)|[]=>false) && s.all λc=>Av (bI c)
def zsu(s:fK):BJ Av s 45=s.all λc=>Av (bI c):=by
 unfold BJ
 congr 1
 funext c
 cases h:(bI c == 45) with
 |false=>rfl
 |true=>simp at h;simp[Av,h]
def yv(s:fK)(hs:s.length<4611686018427387904):tj 85 [] [Tx s] (Bo (yk s)) []:=by
 refine zb.zr (fn:=f85) func85 V ?_;cases s with
 |nil=>
  conv=>whnf
  refine hZ ?_
  exact uI
 |cons c s=>
  conv=>whnf
  refine⟨λ_=>uH ?_,λh=>absurd h (by simp <;> omega)⟩;refine⟨λh1=>?_,λh1=>?_⟩
  .conv=>whnf
   refine⟨aw,c,rfl,uH ?_⟩;refine ah (Ql (bI c)) ?_;refine⟨λh2=>?_,λh2=>?_⟩
   .conv=>whnf
    refine ah PF ?_;refine ah (Hl (c::s) 45 hs) ?_;have h1':s.length<=15:=by have:=h1;exact dc
    have e:yk (c::s)=BJ Av (c::s) 45:=by rw[zsu];unfold yk;simp[h2];omega
    refine⟨λh3=>?_,λh3=>?_⟩
    all_goals ((conv=>whnf);(exact⟨.inl V,_,.refl _,uN (by rw[e,h3])⟩))
   .conv=>whnf
    (exact⟨.inl V,_,.refl _,uN (by simp[yk,h2])⟩)
  .conv=>whnf
   (exact⟨.inl V,_,.refl _,uN (by simp[yk];simp at h1;omega)⟩)
end Go.Gat
namespace Go.Nam
open Go.Ab Go.Proofs Tryz Go.Hy Go.Gat Go.RowKit
variable{b:UInt8}{s:fK}
def vS(b:UInt8)(s:fK):fK:=s.takeWhile (· != b)
def vW(b:UInt8)(s:fK):fK:=(s.dropWhile (· != b)).drop 1
def yp(b:UInt8):fK->List fK
 |[]=>[[]]
 |c::s=>if c == b then []::yp b s else match yp b s with
  |p::ps=>(c::p)::ps
  |[]=>[[c]]
def RX(b:UInt8)(s:fK):yp b s≠[]:=by
 cases s with
 |nil=>simp[yp]
 |cons c s=>unfold yp;split;simp;split <;> simp
def Hr{b:UInt8}:∀{s:fK},b∉s->yp b s=[s]
 |[],_=>rfl
 |c::s,h=>by
  have h1:(c == b)=false:=by simp;intro e;subst e;exact h (pX ..)
  have h2:=Hr (s:=s) λe=>h (pL _ e)
  simp[yp,h1,h2]
def FB{b:UInt8}:∀{s:fK},b∈s->yp b s=vS b s::yp b (vW b s)
 |[],h=>by simp at h
 |c::s,h=>by
  by_cases e:c=b
  .subst e;simp[yp,vS,vW]
  .have h1:(c == b)=false:=by simpa using e
   have h2:=FB (s:=s) bS;have h3:(c != b)=true:=aq e
   simp only[yp,h1,sB,if_false,h2,vS,vW,ug,List.dropWhile_cons,h3,if_true]
def Q4{b:UInt8}:∀{s:fK},b∉s->Lib.indexByte s b= -1
 |[],_=>rfl
 |c::s,h=>by
  have h1:(c == b)=false:=by simp;intro e;subst e;exact h (pX ..)
  have h2:=Q4 (s:=s) λe=>h (pL _ e)
  simp[Lib.indexByte,h1,h2]
def KZ{b:UInt8}:∀{s:fK},b∈s->Lib.indexByte s b=((vS b s).length:Int)
 |[],h=>by simp at h
 |c::s,h=>by
  by_cases e:c=b
  .subst e;simp[Lib.indexByte,vS]
  .have h1:(c == b)=false:=by simpa using e
   have h3:(c != b)=true:=aq e
   have h2:=KZ (s:=s) bS;have h4:((vS b s).length == (-1:Int))=false:=by rw[beq_eq_false_iff_ne];omega
   simp only[Lib.indexByte,h1,sB,if_false,h2,vS,ug,h3,if_true,ry];rw[show((↑(List.takeWhile (λx=>x != b) s).length:Int) == -1)=false from h4];simp
def head_take(b:UInt8)(s:fK):s.take (vS b s).length=vS b s:=by
 induction s with
 |nil=>rfl
 |cons c s ih=>
  by_cases e:c=b
  .subst e;simp[vS]
  .have h3:(c != b)=true:=by simpa using e
   simp only[vS,ug,h3,if_true,ry,List.take_succ_cons];rw[show List.take (List.takeWhile (λx=>x != b) s).length s=vS b s from ih];rfl
def tail_drop(b:UInt8)(s:fK):s.drop ((vS b s).length+1)=vW b s:=by
 induction s with
 |nil=>rfl
 |cons c s ih=>
  by_cases e:c=b
  .subst e;simp[vS,vW]
  .have h3:(c != b)=true:=by simpa using e
   simp only[vS,vW,ug,List.dropWhile_cons,h3,if_true,ry,List.drop_succ_cons];exact ih
def Lj(h:b∈s):(vS b s).length<s.length:=by
 have h1:=tail_drop b s;have h2:s.length≠0:=by intro e;rw[rF.1 e]at h;simp at h
 have h3:(vS b s).length<=s.length:=List.Sublist.length_le (List.takeWhile_sublist _);rcases r6 (vS b s).length s.length with h4|h4
 .exact h4
 .have h5:=head_take b s;rw[sr h4]at h5;have:b∈vS b s:=by rw[<-h5];exact h
  have:=List.all_takeWhile (l:=s) (p:=(· != b));rw[gE]at this;have:=this b (by assumption);simp at this
def yl(b:UInt8)(s:fK):Nat->fK
 |0=>s
 |k+1=>vW b (yl b s k)
def F9{b:UInt8}:∀{k:Nat} {s:fK},k+1<(yp b s).length->b∈yl b s k/\(yp b s)[k]?=some (vS b (yl b s k))/\yp b (yl b s (k+1))=(yp b s).drop (k+1)
 |0,s,h=>by
  have hb:b∈s:=by
   rcases Classical.em (b∈s) with h1|h1
   .exact h1
   .rw[Hr h1]at h;simp at h
  exact⟨hb,by rw[FB hb];rfl,by rw[FB hb];rfl⟩
 |k+1,s,h=>by
  obtain⟨h1,h2,h3⟩:=F9 (b:=b) (k:=k) (s:=s) aw
  have hb:b∈yl b s (k+1):=by
   rcases Classical.em (b∈yl b s (k+1)) with h4|h4
   .exact h4
   .rw[Hr h4]at h3;have:=rq List.length h3;exact dc
  have h5:=FB hb;rw[h3]at h5;refine⟨hb,?_,?_⟩
  .have:=rq (λl=>l[0]?) h5;simpa using this
  .have:=rq (λl=>l.drop 1) h5;simp at this;show yp b (vW b (yl b s (k+1)))=_;rw[<-this]
def Rc{k:Nat}(h:k+1=(yp b s).length):b∉yl b s k/\(yp b s)[k]?=some (yl b s k):=by
 have h3:yp b (yl b s k)=(yp b s).drop k:=by
  cases k with
  |zero=>rfl
  |succ k=>exact(F9 (b:=b) (s:=s) (k:=k) aw).2.2
 have h4:b∉yl b s k:=by
  intro hb;rw[FB hb]at h3;have:=rq List.length h3
  have h5:(yp b (vW b (yl b s k))).length≠0:=by
   intro e;exact RX b _ (rF.1 e)
  exact dc
 refine⟨h4,?_⟩;rw[Hr h4]at h3;have:=rq (λl=>l[0]?) h3;simpa using this.symm
def FV(b:UInt8)(s:fK):∀k,(yl b s k).length<=s.length
 |0=>gG _
 |k+1=>by
  have h1:((yl b s k).dropWhile (· != b)).length<=(yl b s k).length:=List.Sublist.length_le (List.dropWhile_sublist _);have:=FV b s k;simp only[yl,vW,List.length_drop];omega
def ztg(s:ByteArray)(c:Int)(w:World):Calls prog 258 #[.string s,.int .u8 c] w λe w'=>e=.returned (.int .i64 (Lib.indexByte s.data.toList c.toNat.toUInt8))/\w'=w:=by
 go_enter func258,Tryz.ntmps258
 go_wp2
 rw[run_callFunc_extern func260 au au au (e:=Extern.BytealgIndexByte.indexByte) au,Lib.run_indexByteString];simp only[Result.andThen];rw[Oper.upon_value]
 go_wp2
 go_ret
 exact dN
def YF(s:fK)(b:UInt8):tj 258 [] [Tx s,By (bI b)] (I (Lib.indexByte s b)) []:=by
 have e:(bI b).toNat.toUInt8=b:=by simp[bI]
 refine HM [] (λw=>?_) Mt λE=>.v _ V
 have:=ztg ⟨⟨s⟩⟩ (bI b) w;rw[e]at this;exact dG
def FF(s:fK)(b:UInt8):tj 253 [] [Tx s,By (bI b)] (I (Lib.indexByte s b)) []:=by
 refine ab func253 ?_;refine ah (YF s b) ?_;exact uI
end Go.Nam
namespace Go.Nam
open Go.Ab Go.Proofs Tryz Go.Hy Go.Gat
def X7(X:Ob)(s:fK)(b:UInt8):tj 231 [X] [Tx s,By (bI b)] (.fn 252 [] [.ref 1 [] 1 0 0,.ref 2 [] 1 0 0]) [X,⟨1,9,1,[[Tx s]],0⟩,⟨1,5,1,[[By (bI b)]],0⟩]:=by
 refine zb.zN (fn:=f231) func231 V (uH ?_);exact uJ
def Ol(l:Nat)(s:fK)(b:UInt8)(hs:s.length<4611686018427387904)(X:Nat->Ob)(Y:Nat->List Ob)(j:Nat)(g:Bool)(hj:j<(yp b s).length)(hend:g=false\/j+1=(yp b s).length)
 (hy:∀k p,k<j->(yp b s)[k]?=some p->jM prog l (X k::⟨1,9,1,[[Tx (yl b s k)]],0⟩::⟨1,5,1,[[By (bI b)]],0⟩::Y k) [Tx p] (Bo true) (X (k+1)::⟨1,9,1,[[Tx (yl b s k)]],0⟩::⟨1,5,1,[[By (bI b)]],0⟩::Y (k+1)))
 (hz:∀p,(yp b s)[j]?=some p->jM prog l (X j::⟨1,9,1,[[Tx (yl b s j)]],0⟩::⟨1,5,1,[[By (bI b)]],0⟩::Y j) [Tx p] (Bo g) (X (j+1)::⟨1,9,1,[[Tx (yl b s j)]],0⟩::⟨1,5,1,[[By (bI b)]],0⟩::Y (j+1))):
  tj 252 (X 0::⟨1,9,1,[[Tx (yl b s 0)]],0⟩::⟨1,5,1,[[By (bI b)]],0⟩::Y 0) [.v (.func (.yield l) #[] #[]),.ref 1 [] 1 0 0,.ref 2 [] 1 0 0] (.fJ []) (X (j+1)::⟨1,9,1,[[Tx (yl b s j)]],0⟩::⟨1,5,1,[[By (bI b)]],0⟩::Y (j+1)):=by
 refine zb.zN (fn:=f252) func252 V (uH ?_);refine qg.seq j (λk=>(.v (.func (.yield l) #[] #[])::.ref 1 [] 1 0 0::.ref 2 [] 1 0 0::tY (tY ([.za,.za,.za,.za])))) (λk=>X k::⟨1,9,1,[[Tx (yl b s k)]],0⟩::⟨1,5,1,[[By (bI b)]],0⟩::Y k) (λ_=>True) ?_ trivial (λk hk _=>?_) (λ_=>?_)
 .exact cC
 .obtain⟨h1,h2,h3⟩:=F9 (b:=b) (s:=s) (k:=k) aw;have h4:=FV b s k;have h5:=Lj h1;conv=>whnf
  refine⟨_,_,(FF (yl b s k) b).frame V _,?_⟩;rw[KZ h1];conv=>whnf
  refine⟨λh=>absurd h aj,λ_=>dd ?_⟩;refine⟨aw,aw,aA,?_⟩;rw[toNat_cast,sK,head_take];conv=>whnf
  refine⟨_,_,hy k _ hk h2,dd ?_⟩;refine hZ ?_
  rw[zw aw,toNat_cast];refine⟨aw,uH ?_⟩;refine⟨aw,aw,?_⟩;rw[pI,tail_drop];conv=>whnf
  exact .inl ⟨rfl,cC,trivial⟩
 .have h4:=FV b s j;by_cases hl:j+1=(yp b s).length
  .obtain⟨h1,h2⟩:=Rc hl;conv=>whnf
   refine⟨_,_,(FF (yl b s j) b).frame V _,?_⟩;rw[Q4 h1];conv=>whnf
   refine⟨λ_=>dd ?_,λh=>absurd h aj⟩;refine⟨_,_,hz _ h2,uH ?_⟩;refine⟨λ_=>?_,λ_=>?_⟩ <;>
   .conv=>whnf
    exact⟨aj,.inl V,_,.refl _,rfl,rfl⟩
  .obtain⟨h1,h2,h3⟩:=F9 (b:=b) (s:=s) (k:=j) aw;have h5:=Lj h1;have hg:g=false:=by rcases hend with h|h;exact h;exact absurd h hl
   subst hg;conv=>whnf
   refine⟨_,_,(FF (yl b s j) b).frame V _,?_⟩;rw[KZ h1];conv=>whnf
   refine⟨λh=>absurd h aj,λ_=>dd ?_⟩;refine⟨aw,aw,aA,?_⟩;rw[toNat_cast,sK,head_take];conv=>whnf
   refine⟨_,_,hz _ h2,dd ?_⟩;refine hZ ?_
   exact⟨aj,.inl V,_,.refl _,rfl,rfl⟩
def Dq(s:fK):Bool:=decide (s.length<=32) && (yp 46 s).all yk
def zyN(b:UInt8)(s:fK)(k:Nat)(p:fK)(h:(yp b s)[k]?=some p):p.length<=s.length:=by
 have hk:=(gh.1 h).1;by_cases hl:k+1=(yp b s).length
 .obtain⟨h1,h2⟩:=Rc hl;rw[h2]at h;cases h;exact FV b s k
 .obtain⟨h1,h2,h3⟩:=F9 (b:=b) (s:=s) (k:=k) aw;rw[h2]at h;cases h
  have:=Lj h1;have:=FV b s k;omega
def Kd(s:fK)(hs:s.length<4611686018427387904):tj 193 [] [Tx s] (Bo (Dq s)) []:=by
 refine ab func193 ?_;refine⟨λh=>?_,λh=>?_⟩
 .refine dd ?_
  (exact⟨.inl V,_,.refl _,uN (by simp[Dq];simp at h;omega)⟩)
 .refine dd ?_;refine⟨_,_,X7 _ s 46,uH ?_⟩;have hn:=RX 46 s
  have hlen:0<(yp 46 s).length:=by
   rcases sV (yp 46 s).length with e|e
   .exact absurd (rF.1 e) hn
   .exact e
  have hple:∀(k:Nat) (p:fK),(yp 46 s)[k]?=some p->p.length<4611686018427387904:=λk p hp=>by have:=zyN 46 s k p hp;omega
  refine⟨_,.refl _,?_⟩;by_cases qb:(yp 46 s).all yk=true
  .have hname:∀(k:Nat) p,(yp 46 s)[k]?=some p->yk p=true:=λk p hp=>gE.1 qb p (gu hp)
   refine⟨.normal,_,[⟨1,4,1,[[Bo false]],0⟩],λl r h1 h2 h3 h4 h5=>⟨_,_,r,Ol l s 46 hs (λ_=>⟨1,4,1,[[Bo false]],0⟩) (λ_=>[iN l r _]) ((yp 46 s).length-1) true aw (.inr aw) (λk p hk hp=>?_) (λp hp=>?_),
    rfl,bf,rfl,pa _,bh,zp.low 1 _ _ V V V⟩,?_⟩
   .refine jM.zN (id:=3) V h1 h2 h3 h4 h5 V V V ?_;conv=>whnf
    exact za4
   .refine jM.zN (id:=3) V h1 h2 h3 h4 h5 V V V ?_;conv=>whnf
    exact za4
   .conv=>whnf
    (exact⟨.inl V,_,.refl _,uN (by simp[Dq,qb];simp at h;omega)⟩)
  .obtain⟨j,hj⟩:∃j,(yp 46 s).findIdx? (λp=>!yk p)=some j:=by
    cases e:(yp 46 s).findIdx? (λp=>!yk p) with
    |some j=>exact⟨j,rfl⟩
    |none=>
     exfalso
     rw[gV]at e;exact qb (gE.2 λx hx=>by simpa using e x hx)
   rw[gS]at hj;obtain⟨hjl,hj1,hj2⟩:=hj;have qb:(yp 46 s).all yk=false:=aq qb
   refine⟨.ret,_,[⟨1,4,1,[[Bo false]],0⟩],λl r h1 h2 h3 h4 h5=>⟨_,_,left r .ret,Ol l s 46 hs (λ_=>⟨1,4,1,[[Bo false]],0⟩) (λk=>[iN l (if k<j+1 then r else left r .ret) _]) j false hjl (.inl rfl) (λk p hk hp=>?_) (λp hp=>?_),
    rq (λx=>some (iN l x _)) (gp (sR (j+1))),aj,rfl,pa _,trivial,zp.low 1 _ _ V V V⟩,?_⟩
   .have e1:k<j+1:=by omega
    have e2:k+1<j+1:=aw
    simp only[gz e1,gz e2];refine jM.zN (id:=3) V h1 h2 h3 h4 h5 V V V (uH ?_);refine⟨rfl,rfl,uH ?_⟩;refine ah (yv p (hple _ _ hp)) ?_
    have hname:yk p=true:=by
     have h6:=hj2 k hk;rw[gk aw]at hp;cases hp
     simpa using h6
    refine⟨λ_=>dd ?_,λh=>absurd ((hname).symm.trans h:true=false) ar⟩;exact dg
   .simp only[gz (fg j),gp (sR (j+1))];refine jM.zN (id:=3) V h1 h2 h3 h4 h5 V V V (uH ?_);refine⟨rfl,rfl,uH ?_⟩;refine ah (yv p (hple _ _ hp)) ?_
    have hname:yk p=false:=by
     rw[gk hjl]at hp;cases hp
     simpa using hj1
    refine⟨λh=>absurd ((hname).symm.trans h:false=true) ar,λ_=>dd ?_⟩;exact⟨_,_,.refl _,rfl,.inr ⟨rfl,.inl ⟨rfl,rfl⟩⟩⟩
   .conv=>whnf
    (exact⟨.inl V,_,.refl _,uN (by simp[Dq,qb])⟩)
abbrev pk(b:UInt8)(s:fK)(k:Nat):List (List C):=((yp b s).take k).map qx
def nQ(s p:fK):Bool:=decide (p.length<=s.length) && (s.take p.length == p)
def VV(s p:fK):tj 251 [] [Tx s,Tx p] (Bo (nQ s p)) []:=by
 refine ab func251 ?_;refine⟨λh=>?_,λh=>?_⟩
 .refine dd ?_;refine⟨aw,aw,by simp at h;omega,?_⟩;rw[toNat_cast,sK];conv=>whnf
  (repeat' (first|(refine⟨λ_=>?_,λ_=>?_⟩ <;> (conv=>whnf))|fail))
  all_goals (exact⟨.inl V,_,.refl _,uN (by simp_all[nQ])⟩)
 .conv=>whnf
  (exact⟨.inl V,_,.refl _,uN (by simp_all[nQ];intros;omega)⟩)
abbrev Nv(r:fK×Bool):C:=.fJ [Tx r.1,Bo r.2]
def lS(s p:fK):fK×Bool:=if nQ s p then (s.drop p.length,true) else (s,false)
def Wn(s p:fK):tj 230 [] [Tx s,Tx p] (Nv (lS s p)) []:=by
 refine ab func230 ?_;refine ah (VV s p) ?_;refine⟨λh=>?_,λh=>?_⟩
 .refine dd ?_;have h':p.length<=s.length:=by simp[nQ]at h;exact h.1
  refine⟨aw,aw,aw,?_⟩;rw[pI,toNat_cast];conv=>whnf
  have e:lS s p=(s.drop p.length,true):=by unfold lS;rw[gz h]
  rw[e];exact uI
 .conv=>whnf
  have e:lS s p=(s,false):=by unfold lS;rw[gp aH]
  rw[e];exact uI
def GX(s p:fK):tj 192 [] [Tx s,Tx p] (Nv (lS s p)) []:=by
 refine ab func192 ?_;refine ah (Wn s p) ?_;(repeat' (first|(refine⟨λ_=>?_,λ_=>?_⟩ <;> (conv=>whnf))|fail))
 all_goals
  rename_i h;exact⟨.inl V,_,.refl _,rq (λb=>some (C.fJ [Tx (lS s p).1,Bo b])) h.symm⟩
def BL(s:fK):Bool:=if nQ s [42,46] then Dq (s.drop 2) else s == [42] || Dq s
def JQ(s:fK)(hs:s.length<4611686018427387904):tj 156 [] [Tx s] (Bo (BL s)) []:=by
 refine ab func156 ?_;refine ah (GX s [42,46]) ?_;refine⟨λh=>?_,λh=>?_⟩
 .have h1:nQ s [42,46]=true:=by
   cases e:nQ s [42,46] with
   |true=>rfl
   |false=>simp[lS,e]at h
  have e:lS s [42,46]=(s.drop 2,true):=by unfold lS;rw[gz h1];rfl
  rw[e];refine dd ?_;refine ah (Kd (s.drop 2) aA) ?_;(repeat' (first|(refine⟨λ_=>?_,λ_=>?_⟩ <;> (conv=>whnf))|fail))
  all_goals (exact⟨.inl V,_,.refl _,uN (by simp_all[BL])⟩)
 .have h1:nQ s [42,46]=false:=by
   cases e:nQ s [42,46] with
   |false=>rfl
   |true=>simp[lS,e]at h
  have e:lS s [42,46]=(s,false):=by unfold lS;rw[gp aD]
  rw[e];refine dd ?_;refine⟨λh2=>?_,λh2=>?_⟩
  .refine dd ?_
   (exact⟨.inl V,_,.refl _,uN (by simp_all[BL])⟩)
  .refine dd ?_;refine ah (Kd s hs) ?_;(repeat' (first|(refine⟨λ_=>?_,λ_=>?_⟩ <;> (conv=>whnf))|fail))
   all_goals (exact⟨.inl V,_,.refl _,uN (by simp_all[BL])⟩)
def BD(s:fK):Bool:=decide (0<s.length) && decide (s.length<=32) && (match s with|c::_=>bI c == 47|[]=>false) && BJ Av s 47
def Kj(s:fK)(hs:s.length<4611686018427387904):tj 157 [] [Tx s] (Bo (BD s)) []:=by
 refine zb.zr (fn:=f157) func157 V ?_;cases s with
 |nil=>
  conv=>whnf
  refine hZ ?_
  exact uI
 |cons c s=>
  conv=>whnf
  refine⟨λ_=>uH ?_,λh=>absurd h (by simp <;> omega)⟩;refine⟨λh1=>?_,λh1=>?_⟩
  .conv=>whnf
   refine⟨aw,c,rfl,uH ?_⟩;refine⟨λh2=>?_,λh2=>?_⟩
   .conv=>whnf
    refine ah PF ?_;refine ah (Hl (c::s) 47 hs) ?_;have h1':s.length<=31:=by have:=h1;exact dc
    have e:BD (c::s)=BJ Av (c::s) 47:=by unfold BD;simp[h2];omega
    refine⟨λh3=>?_,λh3=>?_⟩
    all_goals ((conv=>whnf);(exact⟨.inl V,_,.refl _,uN (by rw[e,h3])⟩))
   .conv=>whnf
    (exact⟨.inl V,_,.refl _,uN (by simp[BD,h2])⟩)
  .conv=>whnf
   (exact⟨.inl V,_,.refl _,uN (by simp[BD];simp at h1;omega)⟩)
end Go.Nam
namespace Go.Hos
open Go.Ab Go.Proofs Tryz Go.Hy Go.Gat Go.Nam
def Fc(s t:fK):Bool:=decide (t.length<=s.length) && (s.drop (s.length-t.length) == t)
def Y5(s t:fK)(hs:s.length<1000000000000000):tj 259 [] [Tx s,Tx t] (Bo (Fc s t)) []:=by
 refine ab func259 ?_;refine⟨λh=>?_,λh=>?_⟩
 .have h':t.length<=s.length:=by simp at h;omega
  have w:IntKind.i64.wrap ((s.length:Int)-(t.length:Int))=(s.length-t.length:Nat):=by rw[z7 aw aw];omega
  refine dd ?_;rw[w];refine⟨aw,aw,aw,?_⟩;rw[pI,toNat_cast];refine dd ?_;(repeat' (first|(refine⟨λ_=>?_,λ_=>?_⟩ <;> (conv=>whnf))|fail))
  all_goals (exact⟨.inl V,_,.refl _,uN (by simp_all[Fc])⟩)
 .refine dd ?_
  (exact⟨.inl V,_,.refl _,uN (by simp[Fc];simp at h;intros;omega)⟩)
def QG(s t:fK)(hs:s.length<1000000000000000):tj 257 [] [Tx s,Tx t] (Bo (Fc s t)) []:=by
 refine ab func257 ?_;refine ah (Y5 s t hs) ?_;(repeat' (first|(refine⟨λ_=>?_,λ_=>?_⟩ <;> (conv=>whnf))|fail))
 all_goals (rename_i h;(exact⟨.inl V,_,.refl _,uN (by exact h.symm)⟩))
def Gn(p h:fK):Bool:=match p with
 |c::t=>c == 42 && (t == [] || (decide (t.length<h.length) && Fc h t))
 |[]=>false
def Bs(p h:fK):Bool:=BL p && Dq h && (p == h || Gn p h)
def U9(c:UInt8)(t:fK):lS (c::t) [42]=if c == 42 then (t,true) else (c::t,false):=by
 unfold lS nQ;by_cases h:c=42
 .subst h;simp
 .simp[h]
def zyO:BL []=false:=by decide
def Xh(p h:fK)(hp:p.length<1000000000000000)(hh:h.length<1000000000000000):tj 249 [] [Tx p,Tx h] (Bo (Bs p h)) []:=by
 refine ab func249 ?_;refine ah (JQ p aw) ?_;refine⟨λh1=>?_,λh1=>?_⟩
 .refine zad ?_
  refine ah (Kd h aw) ?_;refine⟨λh2=>?_,λh2=>?_⟩
  .refine zad ?_
   refine ah (GX p [42]) ?_;cases p with
   |nil=>rw[zyO]at h1;cases h1
   |cons c t=>
    rw[U9];by_cases hc:(c == 42)=true
    .rw[gz hc];refine⟨λ_=>dd ?_,λh=>absurd h aj⟩;refine⟨λh3=>?_,λh3=>?_⟩
     .refine zad ?_
      (exact⟨.inl V,_,.refl _,uN (by simp_all[Bs])⟩)
     .refine dd ?_;refine⟨λh4=>?_,λh4=>?_⟩
      .refine zad ?_
       (exact⟨.inl V,_,.refl _,uN (by simp_all[Bs,Gn])⟩)
      .refine dd ?_;refine⟨λh5=>?_,λh5=>?_⟩
       .refine dd ?_;refine ah (QG h t hh) ?_;(repeat' (first|(refine⟨λ_=>?_,λ_=>?_⟩ <;> (conv=>whnf))|fail))
        all_goals (rename_i h6;(exact⟨.inl V,_,.refl _,uN (by simp at hc;subst hc;simp at h3 h4 h5;simp[Bs,Gn,h1,h2,h3,h4,h5,h6])⟩))
       .refine dd ?_
        (exact⟨.inl V,_,.refl _,uN (by simp at hc;subst hc;simp at h3 h4 h5;simp[Bs,Gn,h1,h2,h3,h4];intros;omega)⟩)
    .rw[gp hc];refine uG ?_;refine⟨λh3=>?_,λh3=>?_⟩
     .refine zad ?_
      (exact⟨.inl V,_,.refl _,uN (by simp_all[Bs])⟩)
     .refine dd ?_
      (exact⟨.inl V,_,.refl _,uN (by simp at h3 hc;simp[Bs,Gn,h1,h2,h3,hc])⟩)
  .refine zad ?_
   (exact⟨.inl V,_,.refl _,uN (by simp_all[Bs])⟩)
 .refine zad ?_
  (exact⟨.inl V,_,.refl _,uN (by simp_all[Bs])⟩)
def HD(p t:fK):Bool:=BD p && BD t && nQ p t && (p.drop t.length == [] || Fc t [47] || (p.drop t.length).head? == some 47)
def zzZ{s:fK}{c:UInt8}(h:s[0]?=some c):(s.head? == some 47)=(bI c == 47):=by
 rw[List.head?_eq_getElem?,h];by_cases e:c=47
 .subst e;rfl
 .have h1:¬bI c=47:=λh=>e (by
   unfold bI at h;have h':c.toNat=47:=aw
   exact UInt8.toNat_inj.1 (by rw[h'];rfl))
  have h2:(c == 47)=false:=aq e
  have h3:(bI c == 47)=false:=aq h1
  rw[h3];simpa using e
def X2(p t:fK)(hp:p.length<1000000000000000)(ht:t.length<1000000000000000):tj 250 [] [Tx p,Tx t] (Bo (HD p t)) []:=by
 refine ab func250 ?_;refine ah (Kj p aw) ?_;refine⟨λh1=>?_,λh1=>?_⟩
 .refine zad ?_
  refine ah (Kj t aw) ?_;refine⟨λh2=>?_,λh2=>?_⟩
  .refine zad ?_
   refine ah (GX p t) ?_;by_cases h3:nQ p t=true
   .have e:lS p t=(p.drop t.length,true):=by unfold lS;rw[gz h3]
    rw[e];refine⟨λ_=>dd ?_,λh=>absurd h aj⟩;refine⟨λh4=>?_,λh4=>?_⟩
    .refine zad ?_
     (exact⟨.inl V,_,.refl _,uN bT⟩)
    .refine dd ?_;refine ah (QG t [47] ht) ?_;refine⟨λh5=>?_,λh5=>?_⟩
     .refine zad ?_
      (exact⟨.inl V,_,.refl _,uN bT⟩)
     .refine dd ?_
      obtain⟨c,hc⟩:∃c,(p.drop t.length)[0]?=some c:=by
       cases hd:p.drop t.length with
       |nil=>rw[hd]at h4;simp at h4
       |cons c _=>exact⟨c,rfl⟩
      refine⟨aw,c,hc,dd ?_⟩;(repeat' (first|(refine⟨λ_=>?_,λ_=>?_⟩ <;> (conv=>whnf))|fail))
      all_goals (rename_i h6;(exact⟨.inl V,_,.refl _,uN (by simp only[HD,h1,h2,h3,h4,h5,zzZ hc];simpa using h6.symm)⟩))
   .have e:lS p t=(p,false):=by unfold lS;rw[gp h3]
    rw[e];refine uG ?_
    (exact⟨.inl V,_,.refl _,uN bT⟩)
  .refine zad ?_
   (exact⟨.inl V,_,.refl _,uN bT⟩)
 .refine zad ?_
  (exact⟨.inl V,_,.refl _,uN bT⟩)
def vh(p:fK):Int:=if BL p then (if nQ p [42,46] then ((p.length-2:Nat):Int) else if p == [42] then 0 else 100) else 0
def OE(p:fK)(hp:p.length<1000000000000000):tj 226 [] [Tx p] (I (vh p)) []:=by
 refine ab func226 ?_;refine ah (JQ p aw) ?_;refine⟨λh1=>?_,λh1=>?_⟩
 .refine zad ?_
  refine ah (GX p [42,46]) ?_;by_cases h3:nQ p [42,46]=true
  .have e:lS p [42,46]=(p.drop 2,true):=by unfold lS;rw[gz h3];rfl
   have ew:vh p=((p.drop 2).length:Nat):=by simp[vh,h1,h3]
   rw[e,ew];refine⟨λ_=>dd ?_,λh=>absurd h aj⟩;exact uI
  .have e:lS p [42,46]=(p,false):=by unfold lS;rw[gp h3]
   rw[e];refine uG ?_;refine⟨λh4=>?_,λh4=>?_⟩
   .have ew:vh p=0:=by simp_all[vh]
    rw[ew];exact dp
   .have ew:vh p=100:=by simp_all[vh]
    rw[ew];exact dp
 .have ew:vh p=0:=by simp_all[vh]
  rw[ew];refine zad ?_
  exact uI
def Ib(p q p' q':fK):Bool:=if vh p=vh p' then decide (q'.length<q.length) else decide (vh p'<vh p)
def Wz(p q p' q':fK)(hp:p.length<1000000000000000)(hq:p'.length<1000000000000000):tj 185 [] [Tx p,Tx q,Tx p',Tx q'] (Bo (Ib p q p' q')) []:=by
 refine ab func185 ?_;refine ah (OE p hp) ?_;refine ah (OE p' hq) ?_;refine⟨λh1=>?_,λh1=>?_⟩
 .refine dd ?_;(repeat' (first|(refine⟨λ_=>?_,λ_=>?_⟩ <;> (conv=>whnf))|fail))
  all_goals (rename_i h2;(exact⟨.inl V,_,.refl _,uN (by simp_all[Ib])⟩))
 .refine dd ?_;(repeat' (first|(refine⟨λ_=>?_,λ_=>?_⟩ <;> (conv=>whnf))|fail))
  all_goals (rename_i h2;(exact⟨.inl V,_,.refl _,uN (by simp_all[Ib])⟩))
end Go.Hos
namespace Go.Con
open Go.Ab Go.Proofs Tryz Go.Hy Go.Gat Go.Nam Go.Hos
variable{H:zn}{f:FuncId}{caps:List C}{l:List ij}
def CB{α:Type}(l:List α)(p:α->Bool):decide ((match l.findIdx? p with|some i=>(i:Int)|none=> -1)≥0)=l.any p:=by
 cases h:l.findIdx? p with
 |none=>
  rw[gV]at h
  symm
  simp only[Int.reduceNeg,ge_iff_le,Int.reduceLE,decide_false];rw[pq];intro x hx;simp[h x hx]
 |some i=>
  obtain⟨h1,h2,_⟩:=gS.1 h
  symm
  have:(0:Int)<=(i:Int):=eR i;simp only[ge_iff_le,this,decide_true];rw[rh];exact⟨_,pt h1,h2⟩
abbrev Cc(c:ij):C:=.agg (vo c)
def YG(p:ij->Bool)(hcb:qh prog f=true)(hp:∀r∈l,tj f H ([Cc r]++caps) (Bo (p r)) H)(hl:l.length<4611686018427387904):
  tj 229 H [lC l,.fn f [] caps] (I (match l.findIdx? p with|some i=>(i:Int)|none=> -1)) H:=by
 refine zb.zN (fn:=f229) func229 V (uH ?_)
 refine qg.inv (λn t1 H1=>∃k,k+n=l.length/\H1=H/\(∀j,j<k->∀r,l[j]?=some r->p r=false)/\
   t1=((lC l)::.fn f [] caps::.za::.za::I 0::.za::.za::I (l.map vo).length::I k::tY ([.za,.za]))) l.length ?_ ?_
 .exact c9
 rintro n _ _ ⟨k,hk,rfl,hno,rfl⟩;conv=>whnf
 refine⟨λh=>?_,λh=>?_⟩
 .conv=>whnf
  have fE:k<l.length:=aq h
  refine⟨aw,vo l[k],bc,uH ?_⟩;refine za9 ?_;refine⟨λh2=>?_,λh2=>?_⟩
  .conv=>whnf
   refine zal ?_
   have:l.findIdx? p=some k:=by
    rw[gS];refine⟨fE,h2,λj hj=>?_⟩;simp[hno j hj _ (gk aw)]
   rw[this]
   rfl
  .conv=>whnf
   refine .inl ⟨rfl,n-1,_,_,aw,zp.mask [0,1,4,7,8] _ _,k+1,aw,rfl,?_,?_⟩
   .intro j hj r hr;by_cases hjk:j=k
    .subst hjk;rw[gk fE]at hr;cases hr
     exact h2
    .exact dV
   .rw[zw aw];rfl
 .conv=>whnf
  refine zal ?_
  have:l.findIdx? p=none:=by
   rw[gV];intro x hx;obtain⟨j,hj⟩:=gI.1 hx;have hjl:=(gh.1 hj).1;have:¬k<l.length:=aq h
   exact dU
  rw[this]
  rfl
def YR(p:ij->Bool)(hcb:qh prog f=true)(hp:∀r∈l,tj f H ([Cc r]++caps) (Bo (p r)) H)(hl:l.length<4611686018427387904):
  tj 190 H [lC l,.fn f [] caps] (Bo (l.any p)) H:=by
 refine zb.zN (fn:=f190) func190 V (uH ?_);refine⟨_,_,YG p hcb hp hl,dd ?_⟩;refine zax ?_;refine⟨λh=>?_,λh=>?_⟩ <;> rw[h]
 .exact di
 .exact di
def Xb(s:fK)(c:ij):tj 191 [⟨1,9,1,[[Tx s]],0⟩] [Cc c,.ref 0 [] 1 0 0] (Bo (c.name == s)) [⟨1,9,1,[[Tx s]],0⟩]:=by
 refine zb.zN (fn:=f191) func191 V (uH ?_);refine⟨λh=>?_,λh=>?_⟩ <;> rw[h]
 .conv=>whnf
  exact db
 .conv=>whnf
  exact db
def B3(l:List ij)(s:fK):Bool:=l.any λc=>c.name == s
def O6(l:List ij)(s:fK)(hl:l.length<4611686018427387904):tj 155 [] [lC l,Tx s] (Bo (B3 l s)) []:=by
 refine ab func155 ?_;refine⟨_,_,YR (λc=>c.name == s) au (λr _=>Xb s r) hl,dd ?_⟩;refine⟨λh=>?_,λh=>?_⟩
 .refine dd ?_
  (exact⟨.inl V,_,.refl _,uN (by exact h.symm)⟩)
 .refine dd ?_
  (exact⟨.inl V,_,.refl _,uN (by exact h.symm)⟩)
def yB(n a b:Int):tj 154 [] [I n,I a,I b] (Bo (decide (a<=n) && decide (n<=b))) []:=by
 refine ab func154 ?_;(repeat' (first|(refine⟨λ_=>?_,λ_=>?_⟩ <;> (conv=>whnf))|fail))
 all_goals (exact⟨.inl V,_,.refl _,uN (by simp_all <;> omega)⟩)
def vG(l:List fK)(s:fK):Int:=match l.findIdx? (λx=>x == s) with|some i=>(i:Int)|none=> -1
def Yj(l:List fK)(s:fK)(hl:l.length<4611686018427387904):tj 132 [] [lT l,Tx s] (I (vG l s)) []:=by
 have hlm:(l.map qx).length=l.length:=gC ..;refine ab func132 ?_;rw[hlm];refine qg.seq l.length (λk=>((lT l)::(Tx s)::.za::.za::I 0::.za::.za::I l.length::I k::tY ([.za,.za]))) (λk=>[]) (λk=>∀j,(h:j<l.length)->j<k->(l[j] == s)=false) ?_ aj (λk hk hr=>?_) (λhr=>?_)
 .exact cC
 .have hg:(l.map qx)[k]?=some (qx l[k]):=by rw[gy,gk hk];rfl
  conv=>whnf
  refine⟨λ_=>dd ?_,λh=>absurd h aA⟩;refine tc hg ?_;refine⟨λh2=>?_,λh2=>?_⟩
  .refine dd ?_;refine zaJ ?_
   have e:vG l s=k:=by
    unfold vG
    have:l.findIdx? (λx=>x == s)=some k:=by
     rw[gS];refine⟨hk,?_,λj hj=>by simp only[hr j aw hj];decide⟩;simp at h2;simp[h2]
    rw[this]
   rw[e];exact uI
  .refine dd ?_;refine .inl ⟨rfl,?_,λj hj hjk=>?_⟩
   .rw[zw aw];exact cE 0
   .by_cases e:j=k
    .subst e;simp at h2|-;exactλh=>h2 h.symm
    .exact hr j hj aw
 .conv=>whnf
  refine zaG ?_
  have e:vG l s= -1:=by
   unfold vG
   have:l.findIdx? (λx=>x == s)=none:=by
    rw[gV];intro x hx;obtain⟨j,hj,rfl⟩:=pJ.1 hx;exact hr j hj hj
   rw[this]
  rw[e];exact uI
def zvO(l:List fK)(s:fK):decide (vG l s≥0)=l.any (λx=>x == s):=CB l _
def G8(l:List fK)(s:fK)(hl:l.length<4611686018427387904):tj 87 [] [lT l,Tx s] (Bo (l.any λx=>x == s)) []:=by
 refine ab func87 ?_;refine ah (Yj l s hl) ?_;rw[zvO];refine⟨λh=>?_,λh=>?_⟩
 .refine dd ?_
  (exact⟨.inl V,_,.refl _,uN (by exact h.symm)⟩)
 .refine dd ?_
  (exact⟨.inl V,_,.refl _,uN (by exact h.symm)⟩)
end Go.Con
