import Derived.Test.YtoeaoedlpmohoaaGreatSN
import Derived.Test.YtoeaoedlpmohoaaGreatSM
import Derived.Test.YtoeaoedlpmohoaaGreatSQ
set_option linter.all false
set_option maxRecDepth 100000
set_option maxHeartbeats 4000000
namespace Go.Run
open Go.Ab Go.Proofs Tryz Go.Gat Go.Nam Go.Hos Go.Con Go.Sna Go.Pla Go.Ply Go.Wor Go.Saf
open Go.Hy hiding encI
def KE{b:Nat->Bool}:∀k,(∀i,i<k->b i=false)->Saf.oo b k=0
 |0,_=>rfl
 |k+1,h=>by
  show Saf.oo b k+_=0;rw[KE k λi hi=>h i aw,h k aw]
  rfl
def Po{e:lD}:Saf.Ap e=true↔EV e:=by unfold Saf.Ap EV;simp
def Zd{e:lD}:Saf.Ch e=true↔FH e:=by unfold Saf.Ch FH;simp
def UJ(l:List lD)(t v:Int):∀k,Saf.E7 l t k=some v->∃j,j<k/\FH (Saf.mT l j)/\(Saf.mT l j).zg=t/\(Saf.mT l j).value=v/\∀i,j<=i->i<k->¬((Saf.mT l i).zg=t/\(Saf.mT l i).done=true)
 |0,h=>by simp[Saf.E7]at h
 |k+1,h=>by
  have h:Saf.Ja l t (Saf.E7 l t k) k=some v:=h;unfold Saf.Ja at h
  have old:Saf.E7 l t k=some v->¬((Saf.mT l k).zg=t/\(Saf.mT l k).done=true)->∃j,j<k+1/\FH (Saf.mT l j)/\(Saf.mT l j).zg=t/\(Saf.mT l j).value=v/\∀i,j<=i->i<k+1->¬((Saf.mT l i).zg=t/\(Saf.mT l i).done=true):=λh n=>by
   obtain⟨j,h1,h2,h3,h4,h5⟩:=UJ l t v k h;refine⟨j,aw,h2,h3,h4,λi a b=>?_⟩;by_cases q:i=k
   ·subst q;exact n
   ·exact h5 i a aw
  split at h
  ·rename_i ht;split at h
   ·cases h
   ·rename_i hd;split at h
    ·rename_i hl;refine⟨k,aw,Zd.1 hl,ht,pz h,λi a b=>?_⟩;have:i=k:=by omega
     subst this
     exactλz=>hd z.2
    ·exact old h λz=>hd z.2
  ·rename_i ht;exact old h λz=>ht z.1
def zv9{s:Wor.mS}(sf:SF s):Saf.Lz s.2.2=0/\Saf.LA s.2.2=0/\Saf.K8 s.2.2=0:=by
 have at_:∀{i:Nat},i<s.2.2.length->s.2.2[i]?=some (Saf.mT s.2.2 i):=λh=>(Saf.ZF h).1
 refine⟨KE _ λi hi=>sf.QF _ (pq (at_ hi)),KE _ λi hi=>?_,KE _ λi hi=>?_⟩
 ·cases q:Saf.Jy s.2.2 i with
  |false=>rfl
  |true=>
   exfalso
   unfold Saf.Jy at q;simp only[pG,pQ]at q;obtain⟨j,h1,h2,h3⟩:=(Saf.Vs _ _ i).1 q.2;exact sf.Rb j i _ _ h1 (at_ aw) (at_ hi) (Po.1 h2) (Po.1 q.1) h3
 ·cases q:Saf.LY s.2.2 i with
  |false=>rfl
  |true=>
   exfalso
   unfold Saf.LY Saf.GP at q;simp only[pG,sb,pQ]at q;obtain⟨hf,y,hy,hv⟩:=q;have hc:=(Saf.VR s.2.2 y.1 y.2.1 i).1 ⟨y,hy,rfl,rfl⟩;obtain⟨j,h1,h2,h3,h4,h5⟩:=UJ _ _ _ i hc;obtain⟨k,f,z1,z2,z3,z4,z5⟩:=sf.early i j _ _ (at_ hi) (Po.1 hf) h1 (at_ aw) h2 (h4.trans hv);have:Saf.mT s.2.2 k=f:=Saf.IP z3;exact h5 k z1 z2 ⟨by rw[this,z4,h3],by rw[this];exact z5⟩
def zvY{s:mb}(ok:kL s)(h:(zK s).2.2=0):Saf.Lz (zK s).1=0/\Saf.LA (zK s).1=0/\Saf.K8 (zK s).1=0:=by
 obtain⟨_,sf,e⟩:=UP ok h;rw[e];exact zv9 sf
end Go.Run
namespace Go.Run
open Go.Ab Go.Proofs Tryz Go.Gat Go.Nam Go.Hos Go.Con Go.Sna Go.Pla Go.Ply Go.Wor
open Go.Hy hiding encI
def safePlays_sound(s:mb)(hs:s.Af):tp 6 [] [.agg (yC s)] (Bo true) []:=by
 have m1:(s.zP.map Go.Hy.encI).length=s.zP.length:=pB ..;refine ab func6 ?_;refine ah (kC s (D6 hs)) ?_;refine⟨λh0=>?_,λh0=>?_⟩
 ·refine dd ?_;refine tf ?_
  exact uI
 have ok:=Fz h0 hs;refine dd ?_;rw[m1];refine⟨λh1=>?_,λh1=>?_⟩
 ·refine dd ?_;refine tf ?_
  exact uI
 refine dd ?_;have bl:=KB ok;refine ah (vb s ok) ?_;have key:=zvY ok;have t1:=Saf.RO (zK s).1 aw;have t2:=Saf.Su (zK s).1 aw;have t3:=Saf.MW (zK s).1 aw;generalize zK s=p at *;obtain⟨l,w,e⟩:=p;dsimp only at *;have ml:(l.map jd).length=l.length:=pB ..;refine⟨λh3=>?_,λh3=>?_⟩
 ·refine dd ?_;refine tf ?_
  exact dD
 have e0:e=0:=aq h3
 subst e0;obtain⟨k1,k2,k3⟩:=key O;rw[k1]at t1;rw[k2]at t2;rw[k3]at t3;refine dd ?_;refine ah Saf.jm ?_;refine tf ?_
 refine ah t1 ?_;refine tf ?_
 refine ah t2 ?_;refine tf ?_
 refine ah t3 ?_;refine tf ?_
 exact uI
end Go.Run
