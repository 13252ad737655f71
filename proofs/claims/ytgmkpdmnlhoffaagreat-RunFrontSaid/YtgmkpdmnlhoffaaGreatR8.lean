import Derived.Test.YtgmkpdmnlhoffaaGreatR2
import Derived.Test.YtgmkpdmnlhoffaaGreatRW
import Derived.Test.YtgmkpdmnlhoffaaGreatRZ
set_option linter.all false
set_option maxRecDepth 100000
set_option maxHeartbeats 4000000
namespace Go.Ply
open Go.Ab Go.Proofs Go.Hy Go.Wor
theorem zt8 {t:Nat} (ht:t < 8) (X:List Thr) (ops:List Opn) (dn:Nat) (m:Mac) (given:List Ans) (w w':Wor) (m':Mac) (e:Eve) (hx:X[t]?= some ⟨ops,dn,true,m,given⟩) (hX:X.length<=8) (hgn:given.length<=1000) (hdn:dn<=1000)
  (hp:zb Tryz.prog 58 [] [.agg (zJ w),.agg (zD m)] (.tup [.agg (zJ w'),.agg (zD m'),.agg (zQ e)]) []):
  zb Tryz.prog 43 (hp9 X (zb5 1 X) (zfP given) [] t) [.ref 0 [] 48 t 0,.agg (zJ w),I (t:Nat)] (.tup [.agg (zJ w'),.agg (zQ { e with op:=dn,ym:=false })])
   (hp9 X ⟨1,0,48,(X.mapIdx (ql 1)).set t (ql 1 t (xu ⟨ops,dn,true,m,given⟩ m')),0⟩ (zfP (xu ⟨ops,dn,true,m,given⟩ m').given) [] t):=by
 have hg:(X.mapIdx (ql 1))[t]?= some (ql 1 t ⟨ops,dn,true,m,given⟩):=by rw [List.getElem?_mapIdx,hx];rfl
 have mA:(given.map j6).length=given.length:=List.length_map ..;have hlt:t < (X.mapIdx (ql 1)).length:=(List.getElem?_eq_some_iff.1 hg).1;have eA:given.map j6++[[I m'.answer.kind,I m'.answer.version,I m'.answer.zf,I m'.answer.end_,I m'.answer.slot,I m'.answer.listen,I m'.answer.n,U m'.answer.counts.c0,U m'.answer.counts.c1,U m'.answer.counts.c2,U m'.answer.counts.c3,U m'.answer.counts.c4,U m'.answer.counts.c5]]=(given++[m'.answer]).map j6:=by rw [List.map_append];rfl
 unfold Wor.xu;obtain ⟨u,hu⟩:∃ u,u=t:=⟨_,rfl⟩;rcases eight ht with rfl | rfl | rfl | rfl | rfl | rfl | rfl | rfl
 all_goals
  dsimp only [hp9];refine z6 (fn:=Tryz.f43) Tryz.func43 rfl (Nat.le_refl _) (uH ?_);refine ⟨_,hg,dd ?_⟩;refine ⟨by show 2+1<=48;decide,dd ?_⟩;(refine ⟨fun _=>dd ?_,fun h=>absurd (h.symm.trans rfl:false=true) (by decide)⟩)
  (repeat (first | ((refine ⟨fun _=>dd ?_,fun h=>absurd (h.symm.trans rfl:false=true) (by decide)⟩)) | ((refine ⟨fun h=>absurd (h.symm.trans rfl:true=false) (by decide),fun _=>dd ?_⟩))))
  refine .inr ⟨⟨[4,5],[0],false⟩,by kernel_rfl,fun h=>absurd h (by decide),fun t1 H1=>(t1=(.ref 0 [] 48 u 0:: .za::.za::.za::.ref 9 [] 8 0 0:: .za::.ref 10 [] 8 0 0:: .ref 11 [] 23 0 0::Bo false:: .ref 12 [] 44 0 0:: .ref 13 [] 23 0 0:: .za::.za::.za::.za::.za::.za::.za::tY (tY (tY (tY (tY (tY (tY (tY (tY ([]))))))))))∧H1=hp9 X (zb5 1 X) (zfP given) [⟨1,28,8,[zJ (w')],0⟩,⟨1,28,8,[[I 0,I 0,I 0,.lst 1 0 [],.lst 1 0 [],.lst 1 0 [],.lst 1 0 [],.lst 1 0 []]],0⟩,⟨1,62,23,[zQ znK],0⟩,⟨1,97,44,[zD m'],0⟩,⟨1,62,23,[zQ e],0⟩] u)∨(t1=(.ref 0 [] 48 u 0:: .za::.za::.za::.ref 9 [] 8 0 0:: .za::.ref 10 [] 8 0 0:: .ref 11 [] 23 0 0::Bo false:: .ref 13 [] 44 0 0:: .ref 12 [] 23 0 0:: .za::.za::.za::.za::.za::.za::.za::tY (tY (tY (tY (tY (tY (tY (tY (tY ([]))))))))))∧H1=hp9 X (zb5 1 X) (zfP given) [⟨1,28,8,[zJ (w')],0⟩,⟨1,28,8,[[I 0,I 0,I 0,.lst 1 0 [],.lst 1 0 [],.lst 1 0 [],.lst 1 0 [],.lst 1 0 []]],0⟩,⟨1,62,23,[zQ znK],0⟩,⟨1,62,23,[zQ e],0⟩,⟨1,97,44,[zD m'],0⟩] u),?_,?_⟩
  ·subst hu;conv=>whnf
   repeat' (first | (exact trivial) | (refine ⟨rfl,uH ?_⟩) | (refine ⟨_,List.getElem?_set_self hlt,by show 3+44<=48;decide,?_⟩;(conv=>whnf)) | (refine ⟨_,hg,by show 3+44<=48;decide,uH ?_⟩) | (refine ⟨_,fun H2 _=>hp.frame rfl H2,uH ?_⟩) | (exact ⟨_,_,cC,.inl ⟨rfl,rfl⟩⟩) | (exact ⟨_,_,cC,.inr ⟨rfl,rfl⟩⟩) | (refine And.intro ?_ ?_ <;> (conv=>whnf)))
  rintro t1 H1 (⟨e1,e2⟩ | ⟨e1,e2⟩) <;> subst hu <;> dsimp only [hp9] at e2 <;> subst e1 e2
  ·skip
   conv=>whnf
   first
    | (refine ⟨_,List.getElem?_set_self hlt,rfl,?_⟩)
    | (refine ⟨_,hg,rfl,?_⟩)
   refine dd ?_;(try rw [List.set_set])
   refine ⟨_,List.getElem?_set_self hlt,by show 1+1<=48;decide,?_⟩;refine dd ?_;refine ⟨fun hd=>?_,fun hd=>?_⟩
   ·refine dd ?_;refine ⟨_,List.getElem?_set_self hlt,rfl,?_⟩;refine dd ?_;rw [List.set_set];refine ⟨_,List.getElem?_set_self hlt,by show 1+1<=48;decide,?_⟩;refine dd ?_;refine ⟨_,List.getElem?_set_self hlt,rfl,?_⟩;refine dd ?_;rw [List.set_set];refine uE ?_;refine ⟨_,List.getElem?_set_self hlt,by show 47+1<=48;decide,?_⟩;refine dd ?_;refine ⟨rfl,.inr rfl,by rw [mA];simp [maxLen];omega,by rw [mA];show _ * 104<=_;simp;omega,dd ?_⟩;refine ⟨_,List.getElem?_set_self hlt,rfl,?_⟩;refine dd ?_;rw [List.set_set];refine .inl ⟨⟨false,[1],[13],[]⟩,by kernel_rfl,uH ?_⟩;(repeat (refine ⟨rfl,uH ?_⟩))
    rw [zA (by (try dsimp only);omega),eA,if_pos hd];exact ⟨.inl rfl,_,_,.refl _,rfl,zo.xa 9 (by (conv=>whnf);(repeat (refine ⟨rfl,uH ?_⟩));exact trivial) rfl rfl rfl (zH (qc (kZ (b:=1) (n:=9) (by decide) hX rfl)) rfl) rfl⟩
   ·refine dd ?_;refine .inl ⟨⟨false,[1],[13],[]⟩,by kernel_rfl,uH ?_⟩;(repeat (refine ⟨rfl,uH ?_⟩))
    rw [if_neg (by simp [hd])];exact ⟨.inl rfl,_,_,.refl _,rfl,zo.xa 9 (by (conv=>whnf);(repeat (refine ⟨rfl,uH ?_⟩));exact trivial) rfl rfl rfl (zH (qc (kZ (b:=1) (n:=9) (by decide) hX rfl)) rfl) rfl⟩
  ·skip
   conv=>whnf
   first
    | (refine ⟨_,List.getElem?_set_self hlt,rfl,?_⟩)
    | (refine ⟨_,hg,rfl,?_⟩)
   refine dd ?_;(try rw [List.set_set])
   refine ⟨_,List.getElem?_set_self hlt,by show 1+1<=48;decide,?_⟩;refine dd ?_;refine ⟨fun hd=>?_,fun hd=>?_⟩
   ·refine dd ?_;refine ⟨_,List.getElem?_set_self hlt,rfl,?_⟩;refine dd ?_;rw [List.set_set];refine ⟨_,List.getElem?_set_self hlt,by show 1+1<=48;decide,?_⟩;refine dd ?_;refine ⟨_,List.getElem?_set_self hlt,rfl,?_⟩;refine dd ?_;rw [List.set_set];refine uE ?_;refine ⟨_,List.getElem?_set_self hlt,by show 47+1<=48;decide,?_⟩;refine dd ?_;refine ⟨rfl,.inr rfl,by rw [mA];simp [maxLen];omega,by rw [mA];show _ * 104<=_;simp;omega,dd ?_⟩;refine ⟨_,List.getElem?_set_self hlt,rfl,?_⟩;refine dd ?_;rw [List.set_set];refine .inl ⟨⟨false,[1],[12],[]⟩,by kernel_rfl,uH ?_⟩;(repeat (refine ⟨rfl,uH ?_⟩))
    rw [zA (by (try dsimp only);omega),eA,if_pos hd];exact ⟨.inl rfl,_,_,.refl _,rfl,zo.xa 9 (by (conv=>whnf);(repeat (refine ⟨rfl,uH ?_⟩));exact trivial) rfl rfl rfl (zH (qc (kZ (b:=1) (n:=9) (by decide) hX rfl)) rfl) rfl⟩
   ·refine dd ?_;refine .inl ⟨⟨false,[1],[12],[]⟩,by kernel_rfl,uH ?_⟩;(repeat (refine ⟨rfl,uH ?_⟩))
    rw [if_neg (by simp [hd])];exact ⟨.inl rfl,_,_,.refl _,rfl,zo.xa 9 (by (conv=>whnf);(repeat (refine ⟨rfl,uH ?_⟩));exact trivial) rfl rfl rfl (zH (qc (kZ (b:=1) (n:=9) (by decide) hX rfl)) rfl) rfl⟩
end Go.Ply
