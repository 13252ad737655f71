import Derived.Test.YtgllekalddijbaaGreatRK
import Derived.Test.YtgllekalddijbaaGreatRO
set_option linter.unusedVariables false
set_option linter.unusedSimpArgs false
set_option linter.unusedSectionVars false
set_option maxRecDepth 100000
set_option maxHeartbeats 4000000
namespace Go.Wor
open Go.Ab Go.Proofs Go.Hy Go.Gat Go.Nam Go.Hos Go.Con Go.Sna
def zax (c:List (List Int)):Bool:=decide (50 < c.length) || c.any fun r=>decide (50 < r.length)
theorem zf0 (c:List (List Int)) (h1:c.length < 4000000000000000000):zc Tryz.prog 47 [] [lCo c] (Bo (zax c)) []:=by
 have m1:(c.map zL).length=c.length:=List.length_map ..
 refine zc.zr (fn:=Tryz.f47) Tryz.func47 rfl ?_
 conv=>whnf
 refine qb.seq (if c.length<=50 then c.length else 0) (fun k=>[lCo c,.za,Bo false,I k,.za,.za,.za,.za,.za,.za,.za,.za,.za,.za,.za,.za,.za,.za,.za,.za,.za,.za,.za,.za]) (fun k=>[]) (fun k=>∀ j,(h:j < c.length)->j < k->decide (50 < c[j].length)=false) ?_ (by simp) (fun k hk hr=>?_) (fun hr=>?_)
 ·exact cC
 ·have hk2:c.length<=50:=by split at hk <;> omega
  rw [if_pos hk2] at hk
  obtain ⟨x,hx⟩:∃ x,x=c[k]:=⟨_,rfl⟩
  have hg:(c.map zL)[k]?= some (zL x):=by rw [List.getElem?_map,List.getElem?_eq_getElem hk,hx];rfl
  have mh:(x.map qY).length=x.length:=List.length_map ..
  have bad:decide (50 < x.length)=true->zax c=true:=fun h=>by
   have:(c.any fun r=>decide (50 < r.length))=true:=List.any_eq_true.2 ⟨x,by rw [hx];exact List.getElem_mem hk,h⟩
   simp [zax,this]
  conv=>whnf
  rw [m1]
  refine ⟨fun a1=>?_,fun a1=>?_⟩
  rotate_left
  ·exact absurd a1 (by simp;omega)
  refine dd ?_
  rw [m1]
  refine ⟨fun a2=>?_,fun a2=>?_⟩
  rotate_left
  ·exact absurd a2 (by simp;omega)
  refine dd ?_
  (repeat ((first | apply ya | apply yb);refine dd ?_))
  (refine ⟨by omega,_,by rw [toNat_cast];exact hg,?_⟩);refine dd ?_
  rw [mh]
  refine ⟨fun a3=>?_,fun a3=>?_⟩
  ·rw [bad (by simp at a3 ⊢;omega)]
   refine dd ?_
   (refine .inr ⟨by simp,?_⟩);(conv=>whnf)
   exact ⟨.inl rfl,_,.refl _,rfl⟩
  refine dd ?_
  refine .inl ⟨rfl,?_,fun j hj hjk=>?_⟩
  ·rw [zD (by omega)]
   exact cE 0
  ·by_cases e:j=k
   ·subst e;rw [<- hx];simp at a3 ⊢;omega
   ·exact hr j hj (by omega)
 ·have fin:zax c=decide ((c.length:Int) > 50):=by
   by_cases hl:c.length<=50
   ·rw [if_pos hl] at hr
    have h0:(c.any fun r=>decide (50 < r.length))=false:=by
     rw [List.any_eq_false]
     intro x hx
     obtain ⟨i,hi,rfl⟩:=List.mem_iff_getElem.1 hx
     simpa using hr i hi hi
    unfold zax
    rw [h0,Bool.or_false]
    exact decide_eq_decide.2 (by omega)
   ·unfold zax
    rw [decide_eq_true (by omega),decide_eq_true (by omega)];rfl
  rw [fin]
  conv=>whnf
  rw [m1]
  refine ⟨fun a1=>?_,fun a1=>?_⟩
  ·have hl:¬c.length<=50:=fun hl=>by rw [if_pos hl] at a1;simp at a1
   refine dd ?_
   rw [m1]
   refine ⟨fun a2=>absurd a2 (by simp;omega),fun _=>?_⟩
   refine dd ?_
   refine ⟨by simp,?_⟩
   conv=>whnf
   rw [m1]
   refine ⟨fun a5=>?_,fun a5=>?_⟩
   all_goals
    rw [a5]
    refine dd ?_
    exact ⟨.inl rfl,_,.refl _,rfl⟩
  ·refine dd ?_
   refine ⟨by simp,?_⟩
   conv=>whnf
   rw [m1]
   refine ⟨fun a5=>?_,fun a5=>?_⟩
   all_goals
    rw [a5]
    refine dd ?_
    exact ⟨.inl rfl,_,.refl _,rfl⟩
def ruB (r:Rul):Bool:=decide (100 < r.host.length) || decide (100 < r.path.length)
def zbP (c:List Rul):Bool:=decide (50 < c.length) || c.any ruB
theorem zf2 (c:List Rul) (h1:c.length < 4000000000000000000):zc Tryz.prog 100 [] [vd c] (Bo (zbP c)) []:=by
 have m1:(c.map xU).length=c.length:=List.length_map ..
 refine zc.zr (fn:=Tryz.f100) Tryz.func100 rfl ?_
 conv=>whnf
 refine qb.seq (if c.length<=50 then c.length else 0) (fun k=>[vd c,.za,Bo false,I k,.za,.za,.za,.za,.za,.za,.za,.za,.za,.za,.za,.za,.za,.za,.za,.za,.za,.za,.za,.za,.za,.za,.za,.za,.za,.za,.za,.za,.za,.za]) (fun k=>[]) (fun k=>∀ j,(h:j < c.length)->j < k->ruB c[j]=false) ?_ (by simp) (fun k hk hr=>?_) (fun hr=>?_)
 ·exact cC
 ·have hk2:c.length<=50:=by split at hk <;> omega
  rw [if_pos hk2] at hk
  obtain ⟨x,hx⟩:∃ x,x=c[k]:=⟨_,rfl⟩
  have hg:(c.map xU)[k]?= some (xU x):=by rw [List.getElem?_map,List.getElem?_eq_getElem hk,hx];rfl
  have bad:ruB x=true->zbP c=true:=fun h=>by
   have:c.any ruB=true:=List.any_eq_true.2 ⟨x,by rw [hx];exact List.getElem_mem hk,h⟩
   simp [zbP,this]
  conv=>whnf
  rw [m1]
  refine ⟨fun a1=>?_,fun a1=>?_⟩
  rotate_left
  ·exact absurd a1 (by simp;omega)
  refine dd ?_
  rw [m1]
  refine ⟨fun a2=>?_,fun a2=>?_⟩
  rotate_left
  ·exact absurd a2 (by simp;omega)
  refine dd ?_
  (repeat ((first | apply ya | apply yb);refine dd ?_))
  (refine ⟨by omega,_,by rw [toNat_cast];exact hg,?_⟩);refine dd ?_
  refine ⟨fun b1=>?_,fun b1=>?_⟩
  ·rw [bad (by simp at b1;simp [ruB];omega)]
   refine dd ?_
   (repeat ((first | apply ya | apply yb);refine dd ?_))
   (refine .inr ⟨by simp,?_⟩);(conv=>whnf)
   exact ⟨.inl rfl,_,.refl _,rfl⟩
  refine dd ?_
  (refine ⟨by omega,_,by rw [toNat_cast];exact hg,?_⟩);refine dd ?_
  refine ⟨fun b2=>?_,fun b2=>?_⟩
  ·rw [bad (by simp at b2;simp [ruB];omega)]
   refine dd ?_
   (refine .inr ⟨by simp,?_⟩);(conv=>whnf)
   exact ⟨.inl rfl,_,.refl _,rfl⟩
  refine dd ?_
  refine .inl ⟨rfl,?_,fun j hj hjk=>?_⟩
  ·rw [zD (by omega)]
   exact cE 0
  ·by_cases e:j=k
   ·subst e;rw [<- hx];simp at b1 b2;simp [ruB];omega
   ·exact hr j hj (by omega)
 ·have fin:zbP c=decide ((c.length:Int) > 50):=by
   by_cases hl:c.length<=50
   ·rw [if_pos hl] at hr
    have h0:c.any ruB=false:=by
     rw [List.any_eq_false]
     intro x hx
     obtain ⟨i,hi,rfl⟩:=List.mem_iff_getElem.1 hx
     simpa using hr i hi hi
    unfold zbP
    rw [h0,Bool.or_false]
    exact decide_eq_decide.2 (by omega)
   ·unfold zbP
    rw [decide_eq_true (by omega),decide_eq_true (by omega)];rfl
  rw [fin]
  conv=>whnf
  rw [m1]
  refine ⟨fun a1=>?_,fun a1=>?_⟩
  ·have hl:¬c.length<=50:=fun hl=>by rw [if_pos hl] at a1;simp at a1
   refine dd ?_
   rw [m1]
   refine ⟨fun a2=>absurd a2 (by simp;omega),fun _=>?_⟩
   refine dd ?_
   refine ⟨by simp,?_⟩
   conv=>whnf
   rw [m1]
   refine ⟨fun a5=>?_,fun a5=>?_⟩
   all_goals
    rw [a5]
    refine dd ?_
    exact ⟨.inl rfl,_,.refl _,rfl⟩
  ·refine dd ?_
   refine ⟨by simp,?_⟩
   conv=>whnf
   rw [m1]
   refine ⟨fun a5=>?_,fun a5=>?_⟩
   all_goals
    rw [a5]
    refine dd ?_
    exact ⟨.inl rfl,_,.refl _,rfl⟩
def zfh (c:Clu):Bool:=decide (20 < c.zM.length) || decide (100 < c.name.length)
def yy (s:Sna):Bool:=decide (20 < s.ze.length) || decide (20 < s.zm.length) || zbP s.rules || s.zm.any zfh
theorem zf4 (s:Sna) (h1:s.ze.length < 4000000000000000000) (h2:s.rules.length < 4000000000000000000) (h3:s.zm.length < 4000000000000000000):zc Tryz.prog 48 [] [.agg (zJ s)] (Bo (yy s)) []:=by
 have m1:(s.ze.map v7).length=s.ze.length:=List.length_map ..
 have m3:(s.zm.map jn).length=s.zm.length:=List.length_map ..
 refine zc.zr (fn:=Tryz.f48) Tryz.func48 rfl ?_
 conv=>whnf
 rw [m1]
 (refine ⟨fun a1=>?_,fun a1=>?_⟩);(focus ((have e:yy s=true:=(by (try simp at a1);simp [yy];first | omega | exact .inl (.inr a1)));(rw [e]);refine dd ?_;(try (repeat ((first | apply ya | apply yb);refine dd ?_)));exact ⟨.inl rfl,_,.refl _,rfl⟩));refine dd ?_
 rw [m3]
 (refine ⟨fun a2=>?_,fun a2=>?_⟩);(focus ((have e:yy s=true:=(by (try simp at a2);simp [yy];first | omega | exact .inl (.inr a2)));(rw [e]);refine dd ?_;(try (repeat ((first | apply ya | apply yb);refine dd ?_)));exact ⟨.inl rfl,_,.refl _,rfl⟩));refine dd ?_
 refine ⟨_,_,(zf2 s.rules h2).frame rfl _,?_⟩;refine dd ?_
 (refine ⟨fun a3=>?_,fun a3=>?_⟩);(focus ((have e:yy s=true:=(by (try simp at a3);simp [yy];first | omega | exact .inl (.inr a3)));(rw [e]);refine dd ?_;(try (repeat ((first | apply ya | apply yb);refine dd ?_)));exact ⟨.inl rfl,_,.refl _,rfl⟩));refine dd ?_
 (repeat ((first | apply ya | apply yb);refine dd ?_))
 refine qb.seq s.zm.length (fun k=>[.agg (zJ s),.ref 0 [] 3 0 0,Bo false,I k,.za,.za,.za,.za,.za,.za,.za,.za,.za,.za,.za,.za,.za,.za,.za,.za,.za,.za,.za,.za,.za,.za,.za,.za,.za,.za,.za,.za,.za,.za,.za,.za,.za,.za,.za,.za,.za,.za,.za,.za]) (fun k=>[⟨1,69,3,[zJ s],0⟩]) (fun k=>∀ j,(h:j < s.zm.length)->j < k->zfh s.zm[j]=false) ?_ (by simp) (fun k hk hr=>?_) (fun hr=>?_)
 ·exact cC
 ·obtain ⟨x,hx⟩:∃ x,x=s.zm[k]:=⟨_,rfl⟩
  have hg:(s.zm.map jn)[k]?= some (jn x):=by rw [List.getElem?_map,List.getElem?_eq_getElem hk,hx];rfl
  have mh:(x.zM.map yu).length=x.zM.length:=List.length_map ..
  have bad:zfh x=true->yy s=true:=fun h=>by
   have:s.zm.any zfh=true:=List.any_eq_true.2 ⟨x,by rw [hx];exact List.getElem_mem hk,h⟩
   simp [yy,this]
  conv=>whnf
  rw [m3]
  (refine ⟨fun _=>?_,fun h=>absurd h (by simp;omega)⟩);refine dd ?_
  (refine ⟨by omega,_,by rw [toNat_cast];exact hg,?_⟩);refine dd ?_
  rw [mh]
  refine ⟨fun b1=>?_,fun b1=>?_⟩
  ·rw [bad (by simp at b1;simp [zfh];omega)]
   refine dd ?_
   (repeat ((first | apply ya | apply yb);refine dd ?_))
   (refine .inr ⟨by simp,?_⟩);(conv=>whnf)
   exact ⟨.inl rfl,_,.refl _,rfl⟩
  refine dd ?_
  (refine ⟨by omega,_,by rw [toNat_cast];exact hg,?_⟩);refine dd ?_
  refine ⟨fun b2=>?_,fun b2=>?_⟩
  ·rw [bad (by simp at b2;simp [zfh];omega)]
   refine dd ?_
   (refine .inr ⟨by simp,?_⟩);(conv=>whnf)
   exact ⟨.inl rfl,_,.refl _,rfl⟩
  refine dd ?_
  refine .inl ⟨rfl,?_,fun j hj hjk=>?_⟩
  ·rw [zD (by omega)]
   exact cE 1
  ·by_cases e:j=k
   ·subst e;rw [<- hx];simp at b1 b2;simp [zfh];omega
   ·exact hr j hj (by omega)
 ·have h0:s.zm.any zfh=false:=by
   rw [List.any_eq_false]
   intro x hx
   obtain ⟨i,hi,rfl⟩:=List.mem_iff_getElem.1 hx
   simp [hr i hi hi]
  have e:yy s=false:=by unfold yy;simp at a1 a2;rw [a3,h0,decide_eq_false (by omega),decide_eq_false (by omega)];rfl
  rw [e]
  conv=>whnf
  rw [m3]
  refine ⟨fun h=>absurd h (by simp),fun _=>?_⟩
  refine dd ?_
  refine ⟨by simp,?_⟩
  conv=>whnf
  exact ⟨.inl rfl,_,.refl _,rfl⟩
end Go.Wor
namespace Go.Wor
open Go.Ab Go.Proofs Go.Hy Go.Gat Go.Nam Go.Hos Go.Con Go.Sna
structure Wk (w:Wor):Prop where
 pins:w.pins.length < 4000000000000000000
 zd:w.zd.length < 4000000000000000000
 ze:w.ze.length < 4000000000000000000
 counts:w.counts.length < 4000000000000000000
 zt:w.zt.length < 4000000000000000000
 zi3:∀ v ∈ w.zd,v.snap.ze.length < 4000000000000000000∧v.snap.rules.length < 4000000000000000000∧v.snap.zm.length < 4000000000000000000
 zf:∀ v ∈ w.zd,v.zf.length < 4000000000000000000∧∀ g ∈ v.zf,g.ends.length < 4000000000000000000
def zf1 (g:Gr):Bool:=decide (20 < g.ends.length)
def zbh (v:Ver):Bool:=yy v.snap || decide (20 < v.zf.length) || v.zf.any zf1
def vY (w:Wor):Bool:=decide (20 < w.pins.length) || decide (40 < w.zd.length) || decide (40 < w.ze.length) || zax w.counts || decide (60 < w.zt.length) || w.zd.any zbh
theorem zhc (w:Wor) (hw:Wk w):zc Tryz.prog 15 [] [Cw w] (Bo (vY w)) []:=by
 have m1:(w.pins.map Go.Hy.encI).length=w.pins.length:=List.length_map ..
 have m2:(w.zd.map zw).length=w.zd.length:=List.length_map ..
 have m3:(w.ze.map jc).length=w.ze.length:=List.length_map ..
 have m4:(w.counts.map zL).length=w.counts.length:=List.length_map ..
 have m5:(w.zt.map vo).length=w.zt.length:=List.length_map ..
 have b2:=hw.zd
 refine zc.zr (fn:=Tryz.f15) Tryz.func15 rfl ?_
 conv=>whnf
 rw [m1]
 (refine ⟨fun a1=>?_,fun a1=>?_⟩);(focus ((have e:vY w=true:=(by (try simp at a1);simp [vY];first | omega | (rw [a1];simp)));(rw [e]);refine dd ?_;(try (repeat ((first | apply ya | apply yb);refine dd ?_)));exact ⟨.inl rfl,_,.refl _,rfl⟩));refine dd ?_
 rw [m2]
 (refine ⟨fun a2=>?_,fun a2=>?_⟩);(focus ((have e:vY w=true:=(by (try simp at a2);simp [vY];first | omega | (rw [a2];simp)));(rw [e]);refine dd ?_;(try (repeat ((first | apply ya | apply yb);refine dd ?_)));exact ⟨.inl rfl,_,.refl _,rfl⟩));refine dd ?_
 rw [m3]
 (refine ⟨fun a3=>?_,fun a3=>?_⟩);(focus ((have e:vY w=true:=(by (try simp at a3);simp [vY];first | omega | (rw [a3];simp)));(rw [e]);refine dd ?_;(try (repeat ((first | apply ya | apply yb);refine dd ?_)));exact ⟨.inl rfl,_,.refl _,rfl⟩));refine dd ?_
 refine ⟨_,_,(zf0 w.counts hw.counts).frame rfl _,?_⟩;refine dd ?_
 (refine ⟨fun a4=>?_,fun a4=>?_⟩);(focus ((have e:vY w=true:=(by (try simp at a4);simp [vY];first | omega | (rw [a4];simp)));(rw [e]);refine dd ?_;(try (repeat ((first | apply ya | apply yb);refine dd ?_)));exact ⟨.inl rfl,_,.refl _,rfl⟩));refine dd ?_
 rw [m5]
 (refine ⟨fun a5=>?_,fun a5=>?_⟩);(focus ((have e:vY w=true:=(by (try simp at a5);simp [vY];first | omega | (rw [a5];simp)));(rw [e]);refine dd ?_;(try (repeat ((first | apply ya | apply yb);refine dd ?_)));exact ⟨.inl rfl,_,.refl _,rfl⟩));refine dd ?_
 have eW:vY w=w.zd.any zbh:=by
  unfold vY
  simp at a1 a2 a3 a5
  rw [a4,decide_eq_false (by omega),decide_eq_false (by omega),decide_eq_false (by omega),decide_eq_false (by omega)]
  rfl
 refine qb.seq w.zd.length (fun k=>(Cw w:: .ref 0 [] 8 0 0::Bo false::I k:: .za::.za::.za::.za::.za::.za::.za::.za::.za::.za::.za::.za::.za::.za::.za::.za::.za::.za::.za::.za::.za::.za::.za::.za::.za::.za::.za::.za::.za::.za::.za::.za::.za::.za::.za::.za::.za::.za::.za::.za::.za::.za::.za::.za::.za::.za::.za::.za::.za::.za::.za::.za::.za::.za::.za::.za::.za::.za::.za::.za::.za::.za::.za::.za::.za::[])) (fun k=>[⟨1,28,8,[z5 w],0⟩]) (fun k=>∀ j,(h:j < w.zd.length)->j < k->zbh w.zd[j]=false) ?_ (by simp) (fun k hk hr=>?_) (fun hr=>?_)
 ·exact cC
 ·obtain ⟨v,hx⟩:∃ v,v=w.zd[k]:=⟨_,rfl⟩
  have hv:v ∈ w.zd:=by rw [hx];exact List.getElem_mem hk
  have hg:(w.zd.map zw)[k]?= some (zw v):=by rw [List.getElem?_map,List.getElem?_eq_getElem hk,hx];rfl
  have mg:(v.zf.map zp).length=v.zf.length:=List.length_map ..
  have bad:zbh v=true->vY w=true:=fun h=>by
   rw [eW];exact List.any_eq_true.2 ⟨v,hv,h⟩
  have bg:=(hw.zf v hv).1
  conv=>whnf
  rw [m2]
  (refine ⟨fun _=>?_,fun h=>absurd h (by simp;omega)⟩);refine dd ?_
  (refine ⟨by omega,_,by rw [toNat_cast];exact hg,?_⟩);refine dd ?_
  refine ⟨_,_,(zf4 v.snap (hw.zi3 v hv).1 (hw.zi3 v hv).2.1 (hw.zi3 v hv).2.2).frame rfl _,?_⟩;refine dd ?_
  refine ⟨fun c1=>?_,fun c1=>?_⟩
  ·rw [bad (by unfold zbh;rw [c1];rfl)]
   refine dd ?_
   (repeat ((first | apply ya | apply yb);refine dd ?_))
   (refine .inr ⟨by simp,?_⟩);(conv=>whnf)
   exact ⟨.inl rfl,_,.refl _,rfl⟩
  refine dd ?_
  rw [mg]
  refine ⟨fun c2=>?_,fun c2=>?_⟩
  ·rw [bad (by unfold zbh;rw [c1,decide_eq_true (by simp at c2;omega)];rfl)]
   refine dd ?_
   (refine .inr ⟨by simp,?_⟩);(conv=>whnf)
   exact ⟨.inl rfl,_,.refl _,rfl⟩
  refine dd ?_
  refine qb.seq v.zf.length (fun j=>(Cw w:: .ref 0 [] 8 0 0::Bo false::I k:: .ref 1 [] 5 0 0::I j:: .za::.za::.za::.za::.za::.za::.za::.za::.za::.za::.za::.za::.za::.za::.za::.za::.za::.za::.za::.za::.za::.za::.za::.za::.za::.za::.za::.za::.za::.za::.za::.za::.za::.za::.za::.za::.za::.za::.za::.za::.za::.za::.za::.za::.za::.za::.za::.za::.za::.za::.za::.za::.za::.za::.za::.za::.za::.za::.za::.za::.za::.za::.za::[])) (fun j=>[⟨1,28,8,[z5 w],0⟩,⟨1,72,5,[zw v],0⟩]) (fun j=>∀ i,(h:i < v.zf.length)->i < j->zf1 v.zf[i]=false) ?_ (by simp) (fun j hj hrj=>?_) (fun hrj=>?_)
  ·exact cC
  ·obtain ⟨g,hxg⟩:∃ g,g=v.zf[j]:=⟨_,rfl⟩
   have hgg:(v.zf.map zp)[j]?= some (zp g):=by rw [List.getElem?_map,List.getElem?_eq_getElem hj,hxg];rfl
   have me:(g.ends.map zn).length=g.ends.length:=List.length_map ..
   have badg:zf1 g=true->vY w=true:=fun h=>bad (by
    have:v.zf.any zf1=true:=List.any_eq_true.2 ⟨g,by rw [hxg];exact List.getElem_mem hj,h⟩
    unfold zbh;rw [this,Bool.or_true])
   conv=>whnf
   rw [mg]
   (refine ⟨fun _=>?_,fun h=>absurd h (by simp;omega)⟩);refine dd ?_
   (refine ⟨by omega,_,by rw [toNat_cast];exact hgg,?_⟩);refine dd ?_
   rw [me]
   refine ⟨fun c3=>?_,fun c3=>?_⟩
   ·rw [badg (by simp at c3;simp [zf1];omega)]
    refine dd ?_
    (refine .inr ⟨by simp,?_⟩);(conv=>whnf)
    (try (refine .inr ⟨by simp,?_⟩);(conv=>whnf))
    exact ⟨.inl rfl,_,.refl _,rfl⟩
   refine dd ?_
   refine .inl ⟨rfl,?_,fun i hi hij=>?_⟩
   ·rw [zD (by omega)]
    exact cE 2
   ·by_cases e:i=j
    ·subst e;rw [<- hxg];simp at c3;simp [zf1];omega
    ·exact hrj i hi (by omega)
  ·have h0:v.zf.any zf1=false:=by
    rw [List.any_eq_false]
    intro x hx
    obtain ⟨i,hi,rfl⟩:=List.mem_iff_getElem.1 hx
    simp [hrj i hi hi]
   have no:zbh v=false:=by unfold zbh;rw [c1,h0,decide_eq_false (by simp at c2;omega)];rfl
   (conv=>whnf);(refine ⟨fun h=>absurd h (by simp),fun _=>?_⟩);refine dd ?_;(refine ⟨by simp,?_⟩);(conv=>whnf)
   refine .inl ⟨rfl,?_,fun i hi hij=>?_⟩
   ·rw [zD (by omega)]
    exact cE 1
   ·by_cases e:i=k
    ·subst e;rw [<- hx];exact no
    ·exact hr i hi (by omega)
 ·have h0:w.zd.any zbh=false:=by
   rw [List.any_eq_false]
   intro x hx
   obtain ⟨i,hi,rfl⟩:=List.mem_iff_getElem.1 hx
   simp [hr i hi hi]
  rw [eW,h0]
  conv=>whnf
  rw [m2]
  refine ⟨fun h=>absurd h (by simp),fun _=>?_⟩
  refine dd ?_
  refine ⟨by simp,?_⟩
  conv=>whnf
  exact ⟨.inl rfl,_,.refl _,rfl⟩
end Go.Wor
namespace Go.Wor
open Go.Ab Go.Proofs Go.Hy Go.Gat Go.Nam Go.Hos Go.Con Go.Sna
def zbd (l:Lis):Bool:=decide (1000000 < l.zj)
def ze5 (e:En):Bool:=decide (1000000 < e.zj)
def zd6 (g:Gr):Bool:=g.ends.any ze5
def wX (v:Ver):Bool:=v.zf.any zd6
def kz (w:Wor):Bool:=decide (1000000 < w.zu) || w.ze.any zbd || w.zd.any wX
theorem zf6 (w:Wor) (hw:Wk w):zc Tryz.prog 16 [] [Cw w] (Bo (!kz w)) []:=by
 have m2:(w.zd.map zw).length=w.zd.length:=List.length_map ..
 have m3:(w.ze.map jc).length=w.ze.length:=List.length_map ..
 have b2:=hw.zd
 have b3:=hw.ze
 refine zc.zr (fn:=Tryz.f16) Tryz.func16 rfl ?_
 conv=>whnf
 refine ⟨fun a1=>?_,fun a1=>?_⟩
 ·have e:kz w=true:=by unfold kz;rw [decide_eq_true (by simp at a1;omega)];rfl
  rw [e]
  refine dd ?_
  (repeat ((first | apply ya | apply yb);refine dd ?_))
  exact ⟨.inl rfl,_,.refl _,rfl⟩
 have e0:kz w=(w.ze.any zbd || w.zd.any wX):=by unfold kz;rw [decide_eq_false (by simp at a1;omega)];rfl
 refine dd ?_
 refine qb.seq w.ze.length (fun k=>(Cw w:: .ref 0 [] 8 0 0::Bo false::I k:: .za::.za::.za::.za::.za::.za::.za::.za::.za::.za::.za::.za::.za::.za::.za::.za::.za::.za::.za::.za::.za::.za::.za::.za::.za::.za::.za::.za::.za::.za::.za::.za::.za::.za::.za::.za::.za::.za::.za::.za::.za::.za::.za::.za::.za::.za::.za::.za::.za::.za::.za::.za::.za::.za::.za::.za::.za::.za::.za::.za::.za::.za::.za::.za::.za::.za::.za::.za::[])) (fun k=>[⟨1,28,8,[z5 w],0⟩]) (fun k=>∀ j,(h:j < w.ze.length)->j < k->zbd w.ze[j]=false) ?_ (by simp) (fun k hk hr=>?_) (fun hr=>?_)
 ·exact cC
 ·obtain ⟨x,hx⟩:∃ x,x=w.ze[k]:=⟨_,rfl⟩
  have hg:(w.ze.map jc)[k]?= some (jc x):=by rw [List.getElem?_map,List.getElem?_eq_getElem hk,hx];rfl
  have bad:zbd x=true->kz w=true:=fun h=>by
   have:w.ze.any zbd=true:=List.any_eq_true.2 ⟨x,by rw [hx];exact List.getElem_mem hk,h⟩
   rw [e0,this];rfl
  conv=>whnf
  rw [m3]
  (refine ⟨fun _=>?_,fun h=>absurd h (by simp;omega)⟩);refine dd ?_
  (refine ⟨by omega,_,by rw [toNat_cast];exact hg,?_⟩);refine dd ?_
  refine ⟨fun c1=>?_,fun c1=>?_⟩
  ·rw [bad (by simp at c1;simp [zbd];omega)]
   refine dd ?_
   (refine .inr ⟨by simp,?_⟩);(conv=>whnf)
   exact ⟨.inl rfl,_,.refl _,rfl⟩
  refine dd ?_
  refine .inl ⟨rfl,?_,fun i hi hij=>?_⟩
  ·rw [zD (by omega)]
   exact cE 1
  ·by_cases e:i=k
   ·subst e;rw [<- hx];simp at c1;simp [zbd];omega
   ·exact hr i hi (by omega)
 have h0:w.ze.any zbd=false:=by
  rw [List.any_eq_false]
  intro x hx
  obtain ⟨i,hi,rfl⟩:=List.mem_iff_getElem.1 hx
  simp [hr i hi hi]
 have e1:kz w=w.zd.any wX:=by rw [e0,h0];rfl
 conv=>whnf
 rw [m3]
 refine ⟨fun h=>absurd h (by simp),fun _=>?_⟩
 refine dd ?_
 refine ⟨by simp,?_⟩
 conv=>whnf
 refine qb.seq w.zd.length (fun k=>(Cw w:: .ref 0 [] 8 0 0::Bo false:: .za::I k:: .za::.za::.za::.za::.za::.za::.za::.za::.za::.za::.za::.za::.za::.za::.za::.za::.za::.za::.za::.za::.za::.za::.za::.za::.za::.za::.za::.za::.za::.za::.za::.za::.za::.za::.za::.za::.za::.za::.za::.za::.za::.za::.za::.za::.za::.za::.za::.za::.za::.za::.za::.za::.za::.za::.za::.za::.za::.za::.za::.za::.za::.za::.za::.za::.za::.za::.za::[])) (fun k=>[⟨1,28,8,[z5 w],0⟩]) (fun k=>∀ j,(h:j < w.zd.length)->j < k->wX w.zd[j]=false) ?_ (by simp) (fun k hk hr2=>?_) (fun hr2=>?_)
 ·exact cC
 ·obtain ⟨v,hx⟩:∃ v,v=w.zd[k]:=⟨_,rfl⟩
  have hv:v ∈ w.zd:=by rw [hx];exact List.getElem_mem hk
  have hg:(w.zd.map zw)[k]?= some (zw v):=by rw [List.getElem?_map,List.getElem?_eq_getElem hk,hx];rfl
  have mg:(v.zf.map zp).length=v.zf.length:=List.length_map ..
  have bad:wX v=true->kz w=true:=fun h=>by
   rw [e1];exact List.any_eq_true.2 ⟨v,hv,h⟩
  have bg:=(hw.zf v hv).1
  conv=>whnf
  rw [m2]
  (refine ⟨fun _=>?_,fun h=>absurd h (by simp;omega)⟩);refine dd ?_
  refine qb.seq v.zf.length (fun j=>(Cw w:: .ref 0 [] 8 0 0::Bo false:: .za::I k::I j:: .za::.za::.za::.za::.za::.za::.za::.za::.za::.za::.za::.za::.za::.za::.za::.za::.za::.za::.za::.za::.za::.za::.za::.za::.za::.za::.za::.za::.za::.za::.za::.za::.za::.za::.za::.za::.za::.za::.za::.za::.za::.za::.za::.za::.za::.za::.za::.za::.za::.za::.za::.za::.za::.za::.za::.za::.za::.za::.za::.za::.za::.za::.za::.za::.za::.za::[])) (fun j=>[⟨1,28,8,[z5 w],0⟩]) (fun j=>∀ i,(h:i < v.zf.length)->i < j->zd6 v.zf[i]=false) ?_ (by simp) (fun j hj hrj=>?_) (fun hrj=>?_)
  ·exact cC
  ·obtain ⟨g,hxg⟩:∃ g,g=v.zf[j]:=⟨_,rfl⟩
   have hgm:g ∈ v.zf:=by rw [hxg];exact List.getElem_mem hj
   have hgg:(v.zf.map zp)[j]?= some (zp g):=by rw [List.getElem?_map,List.getElem?_eq_getElem hj,hxg];rfl
   have me:(g.ends.map zn).length=g.ends.length:=List.length_map ..
   have be:=(hw.zf v hv).2 g hgm
   have badg:zd6 g=true->kz w=true:=fun h=>bad (List.any_eq_true.2 ⟨g,hgm,h⟩)
   conv=>whnf
   (refine ⟨by omega,_,by rw [toNat_cast];exact hg,?_⟩);refine dd ?_
   rw [mg]
   (refine ⟨fun _=>?_,fun h=>absurd h (by simp;omega)⟩);refine dd ?_
   refine qb.seq g.ends.length (fun n=>(Cw w:: .ref 0 [] 8 0 0::Bo false:: .za::I k::I j::I n:: .za::.za::.za::.za::.za::.za::.za::.za::.za::.za::.za::.za::.za::.za::.za::.za::.za::.za::.za::.za::.za::.za::.za::.za::.za::.za::.za::.za::.za::.za::.za::.za::.za::.za::.za::.za::.za::.za::.za::.za::.za::.za::.za::.za::.za::.za::.za::.za::.za::.za::.za::.za::.za::.za::.za::.za::.za::.za::.za::.za::.za::.za::.za::.za::.za::[])) (fun n=>[⟨1,28,8,[z5 w],0⟩]) (fun n=>∀ i,(h:i < g.ends.length)->i < n->ze5 g.ends[i]=false) ?_ (by simp) (fun n hn hrn=>?_) (fun hrn=>?_)
   ·exact cC
   ·obtain ⟨e,hxe⟩:∃ e,e=g.ends[n]:=⟨_,rfl⟩
    have hge:(g.ends.map zn)[n]?= some (zn e):=by rw [List.getElem?_map,List.getElem?_eq_getElem hn,hxe];rfl
    conv=>whnf
    (refine ⟨by omega,_,by rw [toNat_cast];exact hg,?_⟩);refine dd ?_
    (refine ⟨by omega,_,by rw [toNat_cast];exact hgg,?_⟩);refine dd ?_
    rw [me]
    (refine ⟨fun _=>?_,fun h=>absurd h (by simp;omega)⟩);refine dd ?_
    (refine ⟨by omega,_,by rw [toNat_cast];exact hg,?_⟩);refine dd ?_
    (refine ⟨by omega,_,by rw [toNat_cast];exact hgg,?_⟩);refine dd ?_
    (refine ⟨by omega,_,by rw [toNat_cast];exact hge,?_⟩);refine dd ?_
    refine ⟨fun c1=>?_,fun c1=>?_⟩
    ·rw [badg (List.any_eq_true.2 ⟨e,by rw [hxe];exact List.getElem_mem hn,by simp at c1;simp [ze5];omega⟩)]
     refine dd ?_
     (refine .inr ⟨by simp,?_⟩);(conv=>whnf)
     (try (refine .inr ⟨by simp,?_⟩);(conv=>whnf))
     (try (refine .inr ⟨by simp,?_⟩);(conv=>whnf))
     exact ⟨.inl rfl,_,.refl _,rfl⟩
    refine dd ?_
    refine .inl ⟨rfl,?_,fun i hi hij=>?_⟩
    ·rw [zD (by omega)]
     exact cE 1
    ·by_cases e:i=n
     ·subst e;rw [<- hxe];simp at c1;simp [ze5];omega
     ·exact hrn i hi (by omega)
   ·have no:zd6 g=false:=by
     unfold zd6
     rw [List.any_eq_false]
     intro x hx
     obtain ⟨i,hi,rfl⟩:=List.mem_iff_getElem.1 hx
     simp [hrn i hi hi]
    conv=>whnf
    (refine ⟨by omega,_,by rw [toNat_cast];exact hg,?_⟩);refine dd ?_
    (refine ⟨by omega,_,by rw [toNat_cast];exact hgg,?_⟩);refine dd ?_
    rw [me]
    refine ⟨fun h=>absurd h (by simp),fun _=>?_⟩
    refine dd ?_
    refine ⟨by simp,?_⟩
    conv=>whnf
    refine .inl ⟨rfl,?_,fun i hi hij=>?_⟩
    ·rw [zD (by omega)]
     exact cE 1
    ·by_cases e:i=j
     ·subst e;rw [<- hxg];exact no
     ·exact hrj i hi (by omega)
  ·have no:wX v=false:=by
    unfold wX
    rw [List.any_eq_false]
    intro x hx
    obtain ⟨i,hi,rfl⟩:=List.mem_iff_getElem.1 hx
    simp [hrj i hi hi]
   conv=>whnf
   (refine ⟨by omega,_,by rw [toNat_cast];exact hg,?_⟩);refine dd ?_
   rw [mg]
   refine ⟨fun h=>absurd h (by simp),fun _=>?_⟩
   refine dd ?_
   refine ⟨by simp,?_⟩
   conv=>whnf
   refine .inl ⟨rfl,?_,fun i hi hij=>?_⟩
   ·rw [zD (by omega)]
    exact cE 1
   ·by_cases e:i=k
    ·subst e;rw [<- hx];exact no
    ·exact hr2 i hi (by omega)
 ·have h1:w.zd.any wX=false:=by
   rw [List.any_eq_false]
   intro x hx
   obtain ⟨i,hi,rfl⟩:=List.mem_iff_getElem.1 hx
   simp [hr2 i hi hi]
  rw [e1,h1]
  conv=>whnf
  rw [m2]
  refine ⟨fun h=>absurd h (by simp),fun _=>?_⟩
  refine dd ?_
  refine ⟨by simp,?_⟩
  conv=>whnf
  exact ⟨.inl rfl,_,.refl _,rfl⟩
end Go.Wor
namespace Go.Wor
open Go.Ab Go.Proofs Go.Hy Go.Gat Go.Nam Go.Hos Go.Con Go.Sna
end Go.Wor
namespace Go.Wor
open Go.Ab Go.Proofs Go.Hy Go.Gat Go.Nam Go.Hos Go.Con Go.Sna
structure WkS (s:Sna):Prop where
 ze:s.ze.length < 4000000000000000000
 rules:s.rules.length < 4000000000000000000
 zm:s.zm.length < 4000000000000000000
 zM:∀ x ∈ s.zm,x.zM.length < 4000000000000000000
structure WkW (w:Wor):Prop where
 wk:Wk w
 zi3:∀ v ∈ w.zd,WkS v.snap
 ends : ∀ v ∈ w.zd, ∀ g ∈ v.zf, ∀ e ∈ g.ends, e.ok
 counts:∀ r ∈ w.counts,r.length < 4000000000000000000
end Go.Wor
namespace Go.Hy
open Go.Ab Go.Proofs
theorem zjW:zH Tryz.prog 95 jc Lis.ok:=
 zH.map (zH.struct Tryz.underlying95 (by kernel_rfl) (zQ.cons rfl (xg) (zQ.cons rfl (zH.bool Tryz.underlying4) (zQ.cons rfl (zH.int Tryz.underlying3) (zQ.cons rfl (zH.bool Tryz.underlying4) (zQ.nil _)))))) (fun x=>⟨x.1,x.2.1,x.2.2.1,x.2.2.2.1⟩) fun x h=>⟨⟨h.1,wf_i64 h.2.2.1⟩,rfl⟩
theorem zh6:zH Tryz.prog 24 (fun l:List Lis=>[lL l]) (fun l=>(∀ x ∈ l,x.ok)∧l.length * 40<=reachBytes):=
 zH.slice (sz:=4) (by_:=40) Tryz.underlying24 (by kernel_rfl) (by kernel_rfl) (by decide) (fun _=>rfl) zjW
theorem zjY:zH Tryz.prog 113 vo Ret.ok:=
 zH.map (zH.struct Tryz.underlying113 (by kernel_rfl) (zQ.cons rfl (zH.int Tryz.underlying3) (zQ.cons rfl (zH.int Tryz.underlying3) (zQ.cons rfl (zH.bool Tryz.underlying4) (zQ.nil _))))) (fun x=>⟨x.1,x.2.1,x.2.2.1⟩) fun x h=>⟨⟨wf_i64 h.1,wf_i64 h.2.1⟩,rfl⟩
theorem zh7:zH Tryz.prog 26 (fun l:List Ret=>[lR l]) (fun l=>(∀ x ∈ l,x.ok)∧l.length * 24<=reachBytes):=
 zH.slice (sz:=3) (by_:=24) Tryz.underlying26 (by kernel_rfl) (by kernel_rfl) (by decide) (fun _=>rfl) zjY
theorem zlo:zH Tryz.prog 97 zn En.ok:=
 zH.map (zH.struct Tryz.underlying97 (by kernel_rfl) (zQ.cons rfl (zH.int Tryz.underlying38) (zQ.cons rfl ziW (zQ.cons rfl (zH.int Tryz.underlying3) (zQ.nil _))))) (fun x=>⟨x.1,x.2.1,x.2.2.1⟩) fun x h=>⟨⟨wf_u64 h.1,⟨fun y hy=>wf_i64 (h.2.1.1 y hy),by have:=h.2.1.2;unfold reachBytes at this;show x.2.1.length<=_;omega⟩,wf_i64 h.2.2.1⟩,rfl⟩
theorem zj3:zH Tryz.prog 91 (fun l:List En=>[lE l]) (fun l=>(∀ x ∈ l,x.ok)∧l.length * 40<=reachBytes):=
 zH.slice (sz:=3) (by_:=40) Tryz.underlying91 (by kernel_rfl) (by kernel_rfl) (by decide) (fun _=>rfl) zlo
def Gr.okW (g:Gr):Prop:=u64 g.zl∧(∀ e ∈ g.ends,e.ok)∧g.ends.length * 40<=reachBytes
theorem zlp:zH Tryz.prog 93 zp Gr.okW:=
 zH.map (zH.struct Tryz.underlying93 (by kernel_rfl) (zQ.cons rfl (zH.int Tryz.underlying38) (zQ.cons rfl zj3 (zQ.nil _)))) (fun x=>⟨x.1,x.2.1⟩) fun x h=>⟨⟨wf_u64 h.1,h.2.1⟩,rfl⟩
theorem zj4:zH Tryz.prog 70 (fun l:List Gr=>[lG l]) (fun l=>(∀ x ∈ l,x.okW)∧l.length * 32<=reachBytes):=
 zH.slice (sz:=2) (by_:=32) Tryz.underlying70 (by kernel_rfl) (by kernel_rfl) (by decide) (fun _=>rfl) zlp
def Rul.okW (r:Rul):Prop:=r.host.length<=reachBytes∧r.path.length<=reachBytes
theorem zjZ:zH Tryz.prog 164 xU Rul.okW:=
 zH.map (zH.struct Tryz.underlying164 (by kernel_rfl) (zQ.cons rfl (zH.int Tryz.underlying3) (zQ.cons rfl (xg) (zQ.cons rfl (xg) (zQ.cons rfl (zH.int Tryz.underlying3) (zQ.nil _)))))) (fun x=>⟨x.1,x.2.1,x.2.2.1,x.2.2.2.1⟩) fun x h=>⟨⟨h.2.1,h.2.2.1⟩,rfl⟩
theorem zh8:zH Tryz.prog 67 (fun l:List Rul=>[vd l]) (fun l=>(∀ x ∈ l,x.okW)∧l.length * 48<=reachBytes):=
 zH.slice (sz:=4) (by_:=48) Tryz.underlying67 (by kernel_rfl) (by kernel_rfl) (by decide) (fun _=>rfl) zjZ
def Sna.okW (s:Sna):Prop:=((∀ x ∈ s.ze,zfW x)∧s.ze.length * 16<=reachBytes)∧((∀ r ∈ s.rules,r.okW)∧s.rules.length * 48<=reachBytes)∧((∀ x ∈ s.zm,x.ok)∧s.zm.length * 56<=reachBytes)
theorem zj0:zH Tryz.prog 69 zJ Sna.okW:=
 zH.map (zH.struct Tryz.underlying69 (by kernel_rfl) (zQ.cons rfl ziX (zQ.cons rfl zh8 (zQ.cons rfl ziV (zQ.nil _))))) (fun x=>⟨x.1,x.2.1,x.2.2.1⟩) fun x h=>⟨⟨h.1,h.2.1,h.2.2.1⟩,rfl⟩
def Ver.okW (v:Ver):Prop:=v.snap.okW∧((∀ g ∈ v.zf,g.okW)∧v.zf.length * 32<=reachBytes)
theorem zj1:zH Tryz.prog 72 zw Ver.okW:=
 zH.map (zH.struct Tryz.underlying72 (by kernel_rfl) (zQ.cons rfl zj0 (zQ.cons rfl zj4 (zQ.cons rfl (zH.bool Tryz.underlying4) (zQ.nil _))))) (fun x=>⟨x.1,x.2.1,x.2.2.1⟩) fun x h=>⟨⟨h.1,h.2.1⟩,by simp [zw]⟩
theorem zh9:zH Tryz.prog 23 (fun l:List Ver=>[lV l]) (fun l=>(∀ x ∈ l,x.okW)∧l.length * 104<=reachBytes):=
 zH.slice (sz:=5) (by_:=104) Tryz.underlying23 (by kernel_rfl) (by kernel_rfl) (by decide) (fun _=>rfl) zj1
theorem zls:zH Tryz.prog 161 (fun l:List Int=>[lU l]) (fun l=>(∀ x ∈ l,(Lit.int .u64 x).wf=true)∧l.length * 8<=reachBytes):=
 zH.slice (sz:=1) (by_:=8) Tryz.underlying161 (by kernel_rfl) (by kernel_rfl) (by decide) (fun _=>rfl) (zH.int Tryz.underlying38)
theorem zj2:zH Tryz.prog 25 (fun l:List (List Int)=>[lCo l]) (fun l=>(∀ r ∈ l,(∀ x ∈ r,(Lit.int .u64 x).wf=true)∧r.length * 8<=reachBytes)∧l.length * 24<=reachBytes):=
 zH.slice (sz:=1) (by_:=24) Tryz.underlying25 (by kernel_rfl) (by kernel_rfl) (by decide) (fun _=>rfl) zls
structure Wor.okW (w:Wor):Prop where
 pins:w.pins.length * 8<=reachBytes
 zd:(∀ v ∈ w.zd,v.okW)∧w.zd.length * 104<=reachBytes
 ze:(∀ x ∈ w.ze,x.ok)∧w.ze.length * 40<=reachBytes
 counts:(∀ r ∈ w.counts,(∀ x ∈ r,(Lit.int .u64 x).wf=true)∧r.length * 8<=reachBytes)∧w.counts.length * 24<=reachBytes
 zt:w.zt.length * 24<=reachBytes
theorem zlr:zH Tryz.prog 28 z5 Wor.okW:=
 zH.map (zH.struct Tryz.underlying28 (by kernel_rfl) (zQ.cons rfl (zH.int Tryz.underlying3) (zQ.cons rfl (zH.int Tryz.underlying3) (zQ.cons rfl (zH.int Tryz.underlying3) (zQ.cons rfl ziW (zQ.cons rfl zh9 (zQ.cons rfl zh6 (zQ.cons rfl zj2 (zQ.cons rfl zh7 (zQ.nil _))))))))))
  (fun x=>⟨x.1,x.2.1,x.2.2.1,x.2.2.2.1,x.2.2.2.2.1,x.2.2.2.2.2.1,x.2.2.2.2.2.2.1,x.2.2.2.2.2.2.2.1⟩) fun x h=>⟨⟨h.2.2.2.1.2,h.2.2.2.2.1,h.2.2.2.2.2.1,h.2.2.2.2.2.2.1,h.2.2.2.2.2.2.2.1.2⟩,rfl⟩
theorem arg_Wor:vV Tryz.prog 28 (fun x=>.agg (z5 x)) Wor.okW:=zH.zer Tryz.underlying28 zlr
def Opn.okW (o:Opn):Prop:=o.ok∧i64 o.d0∧i64 o.d1
theorem zjX:zH Tryz.prog 35 zc2 Opn.okW:=
 zH.map (zH.struct Tryz.underlying35 (by kernel_rfl) (zQ.cons rfl (zH.int Tryz.underlying3) (zQ.cons rfl (xg) (zQ.cons rfl (xg) (zQ.cons rfl (xg) (zQ.cons rfl (zH.int Tryz.underlying3) (zQ.cons rfl (zH.int Tryz.underlying3) (zQ.cons rfl (zH.int Tryz.underlying3) (zQ.cons rfl zlm (zQ.nil _)))))))))) (fun x=>⟨x.1,x.2.1,x.2.2.1,x.2.2.2.1,x.2.2.2.2.1,x.2.2.2.2.2.1,x.2.2.2.2.2.2.1,x.2.2.2.2.2.2.2.1⟩) fun x h=>⟨⟨⟨h.2.1,h.2.2.1,h.2.2.2.1,h.2.2.2.2.2.2.2.1⟩,wf_i64 h.2.2.2.2.1,wf_i64 h.2.2.2.2.2.1⟩,by simp [zc2]⟩
theorem arg_OpnW:vV Tryz.prog 35 (fun x=>.agg (zc2 x)) Opn.okW:=zH.zer Tryz.underlying35 zjX
end Go.Hy
