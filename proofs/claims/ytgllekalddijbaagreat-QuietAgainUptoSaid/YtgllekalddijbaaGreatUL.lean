import Derived.Test.YtgllekalddijbaaGreatUK
import Derived.Test.YtgllekalddijbaaGreatUO
set_option linter.unusedVariables false
set_option linter.unusedSimpArgs false
set_option linter.unusedSectionVars false
set_option maxRecDepth 100000
set_option maxHeartbeats 4000000
namespace Go.Wor
open Go.Ab Go.Proofs Go.Hy Go.Gat Go.Nam Go.Hos Go.Con Go.Sna
def kO (c:List (List Int)):Bool:=decide (50 < c.length) || c.any fun r=>decide (50 < r.length)
theorem zex (c:List (List Int)) (h1:c.length < 4000000000000000000):zb Tryz.prog 47 [] [lCo c] (Bo (kO c)) []:=by
 have m1:(c.map jT).length=c.length:=List.length_map ..
 refine zb.zm (fn:=Tryz.f47) Tryz.func47 rfl ?_
 conv=>whnf
 refine zM.seq (if c.length<=50 then c.length else 0) (fun k=>[lCo c,.za,Bo false,I k,.za,.za,.za,.za,.za,.za,.za,.za,.za,.za,.za,.za,.za,.za,.za,.za,.za,.za,.za,.za]) (fun k=>[]) (fun k=>∀ j,(h:j < c.length)->j < k->decide (50 < c[j].length)=false) ?_ (by simp) (fun k hk hr=>?_) (fun hr=>?_)
 ·exact cC
 ·have hk2:c.length<=50:=by split at hk <;> omega
  rw [if_pos hk2] at hk
  obtain ⟨x,hx⟩:∃ x,x=c[k]:=⟨_,rfl⟩
  have hg:(c.map jT)[k]?= some (jT x):=by rw [List.getElem?_map,List.getElem?_eq_getElem hk,hx];rfl
  have mh:(x.map zls).length=x.length:=List.length_map ..
  have bad:decide (50 < x.length)=true->kO c=true:=fun h=>by
   have:(c.any fun r=>decide (50 < r.length))=true:=List.any_eq_true.2 ⟨x,by rw [hx];exact List.getElem_mem hk,h⟩
   simp [kO,this]
  conv=>whnf
  rw [m1]
  refine ⟨fun a1=>?_,fun a1=>?_⟩
  rotate_left
  ·exact absurd a1 (by simp;omega)
  refine dd ?_
  rw [m1]
  refine ⟨fun a2=>?_,fun a2=>?_⟩
  rotate_left
  ·exact absurd a2 (by simp;omega)
  refine dd ?_
  (repeat ((first | apply ya | apply yb);refine dd ?_))
  (refine ⟨by omega,_,by rw [toNat_cast];exact hg,?_⟩);refine dd ?_
  rw [mh]
  refine ⟨fun a3=>?_,fun a3=>?_⟩
  ·rw [bad (by simp at a3 ⊢;omega)]
   refine dd ?_
   (refine .inr ⟨by simp,?_⟩);(conv=>whnf)
   exact ⟨.inl rfl,_,.refl _,rfl⟩
  refine dd ?_
  refine .inl ⟨rfl,?_,fun j hj hjk=>?_⟩
  ·rw [zp (by omega)]
   exact cE 0
  ·by_cases e:j=k
   ·subst e;rw [<- hx];simp at a3 ⊢;omega
   ·exact hr j hj (by omega)
 ·have fin:kO c=decide ((c.length:Int) > 50):=by
   by_cases hl:c.length<=50
   ·rw [if_pos hl] at hr
    have h0:(c.any fun r=>decide (50 < r.length))=false:=by
     rw [List.any_eq_false]
     intro x hx
     obtain ⟨i,hi,rfl⟩:=List.mem_iff_getElem.1 hx
     simpa using hr i hi hi
    unfold kO
    rw [h0,Bool.or_false]
    exact decide_eq_decide.2 (by omega)
   ·unfold kO
    rw [decide_eq_true (by omega),decide_eq_true (by omega)];rfl
  rw [fin]
  conv=>whnf
  rw [m1]
  refine ⟨fun a1=>?_,fun a1=>?_⟩
  ·have hl:¬c.length<=50:=fun hl=>by rw [if_pos hl] at a1;simp at a1
   refine dd ?_
   rw [m1]
   refine ⟨fun a2=>absurd a2 (by simp;omega),fun _=>?_⟩
   refine dd ?_
   refine ⟨by simp,?_⟩
   conv=>whnf
   rw [m1]
   refine ⟨fun a5=>?_,fun a5=>?_⟩
   all_goals
    rw [a5]
    refine dd ?_
    exact ⟨.inl rfl,_,.refl _,rfl⟩
  ·refine dd ?_
   refine ⟨by simp,?_⟩
   conv=>whnf
   rw [m1]
   refine ⟨fun a5=>?_,fun a5=>?_⟩
   all_goals
    rw [a5]
    refine dd ?_
    exact ⟨.inl rfl,_,.refl _,rfl⟩
def ruB (r:Rul):Bool:=decide (100 < r.host.length) || decide (100 < r.path.length)
def zax (c:List Rul):Bool:=decide (50 < c.length) || c.any ruB
theorem zez (c:List Rul) (h1:c.length < 4000000000000000000):zb Tryz.prog 100 [] [zgo c] (Bo (zax c)) []:=by
 have m1:(c.map kY).length=c.length:=List.length_map ..
 refine zb.zm (fn:=Tryz.f100) Tryz.func100 rfl ?_
 conv=>whnf
 refine zM.seq (if c.length<=50 then c.length else 0) (fun k=>[zgo c,.za,Bo false,I k,.za,.za,.za,.za,.za,.za,.za,.za,.za,.za,.za,.za,.za,.za,.za,.za,.za,.za,.za,.za,.za,.za,.za,.za,.za,.za,.za,.za,.za,.za]) (fun k=>[]) (fun k=>∀ j,(h:j < c.length)->j < k->ruB c[j]=false) ?_ (by simp) (fun k hk hr=>?_) (fun hr=>?_)
 ·exact cC
 ·have hk2:c.length<=50:=by split at hk <;> omega
  rw [if_pos hk2] at hk
  obtain ⟨x,hx⟩:∃ x,x=c[k]:=⟨_,rfl⟩
  have hg:(c.map kY)[k]?= some (kY x):=by rw [List.getElem?_map,List.getElem?_eq_getElem hk,hx];rfl
  have bad:ruB x=true->zax c=true:=fun h=>by
   have:c.any ruB=true:=List.any_eq_true.2 ⟨x,by rw [hx];exact List.getElem_mem hk,h⟩
   simp [zax,this]
  conv=>whnf
  rw [m1]
  refine ⟨fun a1=>?_,fun a1=>?_⟩
  rotate_left
  ·exact absurd a1 (by simp;omega)
  refine dd ?_
  rw [m1]
  refine ⟨fun a2=>?_,fun a2=>?_⟩
  rotate_left
  ·exact absurd a2 (by simp;omega)
  refine dd ?_
  (repeat ((first | apply ya | apply yb);refine dd ?_))
  (refine ⟨by omega,_,by rw [toNat_cast];exact hg,?_⟩);refine dd ?_
  refine ⟨fun b1=>?_,fun b1=>?_⟩
  ·rw [bad (by simp at b1;simp [ruB];omega)]
   refine dd ?_
   (repeat ((first | apply ya | apply yb);refine dd ?_))
   (refine .inr ⟨by simp,?_⟩);(conv=>whnf)
   exact ⟨.inl rfl,_,.refl _,rfl⟩
  refine dd ?_
  (refine ⟨by omega,_,by rw [toNat_cast];exact hg,?_⟩);refine dd ?_
  refine ⟨fun b2=>?_,fun b2=>?_⟩
  ·rw [bad (by simp at b2;simp [ruB];omega)]
   refine dd ?_
   (refine .inr ⟨by simp,?_⟩);(conv=>whnf)
   exact ⟨.inl rfl,_,.refl _,rfl⟩
  refine dd ?_
  refine .inl ⟨rfl,?_,fun j hj hjk=>?_⟩
  ·rw [zp (by omega)]
   exact cE 0
  ·by_cases e:j=k
   ·subst e;rw [<- hx];simp at b1 b2;simp [ruB];omega
   ·exact hr j hj (by omega)
 ·have fin:zax c=decide ((c.length:Int) > 50):=by
   by_cases hl:c.length<=50
   ·rw [if_pos hl] at hr
    have h0:c.any ruB=false:=by
     rw [List.any_eq_false]
     intro x hx
     obtain ⟨i,hi,rfl⟩:=List.mem_iff_getElem.1 hx
     simpa using hr i hi hi
    unfold zax
    rw [h0,Bool.or_false]
    exact decide_eq_decide.2 (by omega)
   ·unfold zax
    rw [decide_eq_true (by omega),decide_eq_true (by omega)];rfl
  rw [fin]
  conv=>whnf
  rw [m1]
  refine ⟨fun a1=>?_,fun a1=>?_⟩
  ·have hl:¬c.length<=50:=fun hl=>by rw [if_pos hl] at a1;simp at a1
   refine dd ?_
   rw [m1]
   refine ⟨fun a2=>absurd a2 (by simp;omega),fun _=>?_⟩
   refine dd ?_
   refine ⟨by simp,?_⟩
   conv=>whnf
   rw [m1]
   refine ⟨fun a5=>?_,fun a5=>?_⟩
   all_goals
    rw [a5]
    refine dd ?_
    exact ⟨.inl rfl,_,.refl _,rfl⟩
  ·refine dd ?_
   refine ⟨by simp,?_⟩
   conv=>whnf
   rw [m1]
   refine ⟨fun a5=>?_,fun a5=>?_⟩
   all_goals
    rw [a5]
    refine dd ?_
    exact ⟨.inl rfl,_,.refl _,rfl⟩
def zdD (c:Clu):Bool:=decide (20 < c.zT.length) || decide (100 < c.name.length)
def xE (s:Sna):Bool:=decide (20 < s.zc.length) || decide (20 < s.zf.length) || zax s.rules || s.zf.any zdD
theorem zeB (s:Sna) (h1:s.zc.length < 4000000000000000000) (h2:s.rules.length < 4000000000000000000) (h3:s.zf.length < 4000000000000000000):zb Tryz.prog 48 [] [.agg (zba s)] (Bo (xE s)) []:=by
 have m1:(s.zc.map w8).length=s.zc.length:=List.length_map ..
 have m3:(s.zf.map jW).length=s.zf.length:=List.length_map ..
 refine zb.zm (fn:=Tryz.f48) Tryz.func48 rfl ?_
 conv=>whnf
 rw [m1]
 (refine ⟨fun a1=>?_,fun a1=>?_⟩);(focus ((have e:xE s=true:=(by (try simp at a1);simp [xE];first | omega | exact .inl (.inr a1)));(rw [e]);refine dd ?_;(try (repeat ((first | apply ya | apply yb);refine dd ?_)));exact ⟨.inl rfl,_,.refl _,rfl⟩));refine dd ?_
 rw [m3]
 (refine ⟨fun a2=>?_,fun a2=>?_⟩);(focus ((have e:xE s=true:=(by (try simp at a2);simp [xE];first | omega | exact .inl (.inr a2)));(rw [e]);refine dd ?_;(try (repeat ((first | apply ya | apply yb);refine dd ?_)));exact ⟨.inl rfl,_,.refl _,rfl⟩));refine dd ?_
 refine ⟨_,_,(zez s.rules h2).frame rfl _,?_⟩;refine dd ?_
 (refine ⟨fun a3=>?_,fun a3=>?_⟩);(focus ((have e:xE s=true:=(by (try simp at a3);simp [xE];first | omega | exact .inl (.inr a3)));(rw [e]);refine dd ?_;(try (repeat ((first | apply ya | apply yb);refine dd ?_)));exact ⟨.inl rfl,_,.refl _,rfl⟩));refine dd ?_
 (repeat ((first | apply ya | apply yb);refine dd ?_))
 refine zM.seq s.zf.length (fun k=>[.agg (zba s),.ref 0 [] 3 0 0,Bo false,I k,.za,.za,.za,.za,.za,.za,.za,.za,.za,.za,.za,.za,.za,.za,.za,.za,.za,.za,.za,.za,.za,.za,.za,.za,.za,.za,.za,.za,.za,.za,.za,.za,.za,.za,.za,.za,.za,.za,.za,.za]) (fun k=>[⟨1,69,3,[zba s],0⟩]) (fun k=>∀ j,(h:j < s.zf.length)->j < k->zdD s.zf[j]=false) ?_ (by simp) (fun k hk hr=>?_) (fun hr=>?_)
 ·exact cC
 ·obtain ⟨x,hx⟩:∃ x,x=s.zf[k]:=⟨_,rfl⟩
  have hg:(s.zf.map jW)[k]?= some (jW x):=by rw [List.getElem?_map,List.getElem?_eq_getElem hk,hx];rfl
  have mh:(x.zT.map xV).length=x.zT.length:=List.length_map ..
  have bad:zdD x=true->xE s=true:=fun h=>by
   have:s.zf.any zdD=true:=List.any_eq_true.2 ⟨x,by rw [hx];exact List.getElem_mem hk,h⟩
   simp [xE,this]
  conv=>whnf
  rw [m3]
  (refine ⟨fun _=>?_,fun h=>absurd h (by simp;omega)⟩);refine dd ?_
  (refine ⟨by omega,_,by rw [toNat_cast];exact hg,?_⟩);refine dd ?_
  rw [mh]
  refine ⟨fun b1=>?_,fun b1=>?_⟩
  ·rw [bad (by simp at b1;simp [zdD];omega)]
   refine dd ?_
   (repeat ((first | apply ya | apply yb);refine dd ?_))
   (refine .inr ⟨by simp,?_⟩);(conv=>whnf)
   exact ⟨.inl rfl,_,.refl _,rfl⟩
  refine dd ?_
  (refine ⟨by omega,_,by rw [toNat_cast];exact hg,?_⟩);refine dd ?_
  refine ⟨fun b2=>?_,fun b2=>?_⟩
  ·rw [bad (by simp at b2;simp [zdD];omega)]
   refine dd ?_
   (refine .inr ⟨by simp,?_⟩);(conv=>whnf)
   exact ⟨.inl rfl,_,.refl _,rfl⟩
  refine dd ?_
  refine .inl ⟨rfl,?_,fun j hj hjk=>?_⟩
  ·rw [zp (by omega)]
   exact cE 1
  ·by_cases e:j=k
   ·subst e;rw [<- hx];simp at b1 b2;simp [zdD];omega
   ·exact hr j hj (by omega)
 ·have h0:s.zf.any zdD=false:=by
   rw [List.any_eq_false]
   intro x hx
   obtain ⟨i,hi,rfl⟩:=List.mem_iff_getElem.1 hx
   simp [hr i hi hi]
  have e:xE s=false:=by unfold xE;simp at a1 a2;rw [a3,h0,decide_eq_false (by omega),decide_eq_false (by omega)];rfl
  rw [e]
  conv=>whnf
  rw [m3]
  refine ⟨fun h=>absurd h (by simp),fun _=>?_⟩
  refine dd ?_
  refine ⟨by simp,?_⟩
  conv=>whnf
  exact ⟨.inl rfl,_,.refl _,rfl⟩
end Go.Wor
namespace Go.Wor
open Go.Ab Go.Proofs Go.Hy Go.Gat Go.Nam Go.Hos Go.Con Go.Sna
structure Wk (w:Wor):Prop where
 pins:w.pins.length < 4000000000000000000
 zd:w.zd.length < 4000000000000000000
 zc:w.zc.length < 4000000000000000000
 counts:w.counts.length < 4000000000000000000
 zg:w.zg.length < 4000000000000000000
 zhw:∀ v ∈ w.zd,v.snap.zc.length < 4000000000000000000∧v.snap.rules.length < 4000000000000000000∧v.snap.zf.length < 4000000000000000000
 zk:∀ v ∈ w.zd,v.zk.length < 4000000000000000000∧∀ g ∈ v.zk,g.ends.length < 4000000000000000000
def zey (g:Gr):Bool:=decide (20 < g.ends.length)
def wX (v:Ver):Bool:=xE v.snap || decide (20 < v.zk.length) || v.zk.any zey
def j8 (w:Wor):Bool:=decide (20 < w.pins.length) || decide (40 < w.zd.length) || decide (40 < w.zc.length) || kO w.counts || decide (60 < w.zg.length) || w.zd.any wX
theorem kp (w:Wor) (hw:Wk w):zb Tryz.prog 15 [] [Cw w] (Bo (j8 w)) []:=by
 have m1:(w.pins.map Go.Hy.encI).length=w.pins.length:=List.length_map ..
 have m2:(w.zd.map qu).length=w.zd.length:=List.length_map ..
 have m3:(w.zc.map qL).length=w.zc.length:=List.length_map ..
 have m4:(w.counts.map jT).length=w.counts.length:=List.length_map ..
 have m5:(w.zg.map qM).length=w.zg.length:=List.length_map ..
 have b2:=hw.zd
 refine zb.zm (fn:=Tryz.f15) Tryz.func15 rfl ?_
 conv=>whnf
 rw [m1]
 (refine ⟨fun a1=>?_,fun a1=>?_⟩);(focus ((have e:j8 w=true:=(by (try simp at a1);simp [j8];first | omega | (rw [a1];simp)));(rw [e]);refine dd ?_;(try (repeat ((first | apply ya | apply yb);refine dd ?_)));exact ⟨.inl rfl,_,.refl _,rfl⟩));refine dd ?_
 rw [m2]
 (refine ⟨fun a2=>?_,fun a2=>?_⟩);(focus ((have e:j8 w=true:=(by (try simp at a2);simp [j8];first | omega | (rw [a2];simp)));(rw [e]);refine dd ?_;(try (repeat ((first | apply ya | apply yb);refine dd ?_)));exact ⟨.inl rfl,_,.refl _,rfl⟩));refine dd ?_
 rw [m3]
 (refine ⟨fun a3=>?_,fun a3=>?_⟩);(focus ((have e:j8 w=true:=(by (try simp at a3);simp [j8];first | omega | (rw [a3];simp)));(rw [e]);refine dd ?_;(try (repeat ((first | apply ya | apply yb);refine dd ?_)));exact ⟨.inl rfl,_,.refl _,rfl⟩));refine dd ?_
 refine ⟨_,_,(zex w.counts hw.counts).frame rfl _,?_⟩;refine dd ?_
 (refine ⟨fun a4=>?_,fun a4=>?_⟩);(focus ((have e:j8 w=true:=(by (try simp at a4);simp [j8];first | omega | (rw [a4];simp)));(rw [e]);refine dd ?_;(try (repeat ((first | apply ya | apply yb);refine dd ?_)));exact ⟨.inl rfl,_,.refl _,rfl⟩));refine dd ?_
 rw [m5]
 (refine ⟨fun a5=>?_,fun a5=>?_⟩);(focus ((have e:j8 w=true:=(by (try simp at a5);simp [j8];first | omega | (rw [a5];simp)));(rw [e]);refine dd ?_;(try (repeat ((first | apply ya | apply yb);refine dd ?_)));exact ⟨.inl rfl,_,.refl _,rfl⟩));refine dd ?_
 have eW:j8 w=w.zd.any wX:=by
  unfold j8
  simp at a1 a2 a3 a5
  rw [a4,decide_eq_false (by omega),decide_eq_false (by omega),decide_eq_false (by omega),decide_eq_false (by omega)]
  rfl
 refine zM.seq w.zd.length (fun k=>(Cw w:: .ref 0 [] 8 0 0::Bo false::I k:: .za::.za::.za::.za::.za::.za::.za::.za::.za::.za::.za::.za::.za::.za::.za::.za::.za::.za::.za::.za::.za::.za::.za::.za::.za::.za::.za::.za::.za::.za::.za::.za::.za::.za::.za::.za::.za::.za::.za::.za::.za::.za::.za::.za::.za::.za::.za::.za::.za::.za::.za::.za::.za::.za::.za::.za::.za::.za::.za::.za::.za::.za::.za::.za::.za::[])) (fun k=>[⟨1,28,8,[zU w],0⟩]) (fun k=>∀ j,(h:j < w.zd.length)->j < k->wX w.zd[j]=false) ?_ (by simp) (fun k hk hr=>?_) (fun hr=>?_)
 ·exact cC
 ·obtain ⟨v,hx⟩:∃ v,v=w.zd[k]:=⟨_,rfl⟩
  have hv:v ∈ w.zd:=by rw [hx];exact List.getElem_mem hk
  have hg:(w.zd.map qu)[k]?= some (qu v):=by rw [List.getElem?_map,List.getElem?_eq_getElem hk,hx];rfl
  have mg:(v.zk.map q7).length=v.zk.length:=List.length_map ..
  have bad:wX v=true->j8 w=true:=fun h=>by
   rw [eW];exact List.any_eq_true.2 ⟨v,hv,h⟩
  have bg:=(hw.zk v hv).1
  conv=>whnf
  rw [m2]
  (refine ⟨fun _=>?_,fun h=>absurd h (by simp;omega)⟩);refine dd ?_
  (refine ⟨by omega,_,by rw [toNat_cast];exact hg,?_⟩);refine dd ?_
  refine ⟨_,_,(zeB v.snap (hw.zhw v hv).1 (hw.zhw v hv).2.1 (hw.zhw v hv).2.2).frame rfl _,?_⟩;refine dd ?_
  refine ⟨fun c1=>?_,fun c1=>?_⟩
  ·rw [bad (by unfold wX;rw [c1];rfl)]
   refine dd ?_
   (repeat ((first | apply ya | apply yb);refine dd ?_))
   (refine .inr ⟨by simp,?_⟩);(conv=>whnf)
   exact ⟨.inl rfl,_,.refl _,rfl⟩
  refine dd ?_
  rw [mg]
  refine ⟨fun c2=>?_,fun c2=>?_⟩
  ·rw [bad (by unfold wX;rw [c1,decide_eq_true (by simp at c2;omega)];rfl)]
   refine dd ?_
   (refine .inr ⟨by simp,?_⟩);(conv=>whnf)
   exact ⟨.inl rfl,_,.refl _,rfl⟩
  refine dd ?_
  refine zM.seq v.zk.length (fun j=>(Cw w:: .ref 0 [] 8 0 0::Bo false::I k:: .ref 1 [] 5 0 0::I j:: .za::.za::.za::.za::.za::.za::.za::.za::.za::.za::.za::.za::.za::.za::.za::.za::.za::.za::.za::.za::.za::.za::.za::.za::.za::.za::.za::.za::.za::.za::.za::.za::.za::.za::.za::.za::.za::.za::.za::.za::.za::.za::.za::.za::.za::.za::.za::.za::.za::.za::.za::.za::.za::.za::.za::.za::.za::.za::.za::.za::.za::.za::.za::[])) (fun j=>[⟨1,28,8,[zU w],0⟩,⟨1,72,5,[qu v],0⟩]) (fun j=>∀ i,(h:i < v.zk.length)->i < j->zey v.zk[i]=false) ?_ (by simp) (fun j hj hrj=>?_) (fun hrj=>?_)
  ·exact cC
  ·obtain ⟨g,hxg⟩:∃ g,g=v.zk[j]:=⟨_,rfl⟩
   have hgg:(v.zk.map q7)[j]?= some (q7 g):=by rw [List.getElem?_map,List.getElem?_eq_getElem hj,hxg];rfl
   have me:(g.ends.map zX).length=g.ends.length:=List.length_map ..
   have badg:zey g=true->j8 w=true:=fun h=>bad (by
    have:v.zk.any zey=true:=List.any_eq_true.2 ⟨g,by rw [hxg];exact List.getElem_mem hj,h⟩
    unfold wX;rw [this,Bool.or_true])
   conv=>whnf
   rw [mg]
   (refine ⟨fun _=>?_,fun h=>absurd h (by simp;omega)⟩);refine dd ?_
   (refine ⟨by omega,_,by rw [toNat_cast];exact hgg,?_⟩);refine dd ?_
   rw [me]
   refine ⟨fun c3=>?_,fun c3=>?_⟩
   ·rw [badg (by simp at c3;simp [zey];omega)]
    refine dd ?_
    (refine .inr ⟨by simp,?_⟩);(conv=>whnf)
    (try (refine .inr ⟨by simp,?_⟩);(conv=>whnf))
    exact ⟨.inl rfl,_,.refl _,rfl⟩
   refine dd ?_
   refine .inl ⟨rfl,?_,fun i hi hij=>?_⟩
   ·rw [zp (by omega)]
    exact cE 2
   ·by_cases e:i=j
    ·subst e;rw [<- hxg];simp at c3;simp [zey];omega
    ·exact hrj i hi (by omega)
  ·have h0:v.zk.any zey=false:=by
    rw [List.any_eq_false]
    intro x hx
    obtain ⟨i,hi,rfl⟩:=List.mem_iff_getElem.1 hx
    simp [hrj i hi hi]
   have no:wX v=false:=by unfold wX;rw [c1,h0,decide_eq_false (by simp at c2;omega)];rfl
   (conv=>whnf);(refine ⟨fun h=>absurd h (by simp),fun _=>?_⟩);refine dd ?_;(refine ⟨by simp,?_⟩);(conv=>whnf)
   refine .inl ⟨rfl,?_,fun i hi hij=>?_⟩
   ·rw [zp (by omega)]
    exact cE 1
   ·by_cases e:i=k
    ·subst e;rw [<- hx];exact no
    ·exact hr i hi (by omega)
 ·have h0:w.zd.any wX=false:=by
   rw [List.any_eq_false]
   intro x hx
   obtain ⟨i,hi,rfl⟩:=List.mem_iff_getElem.1 hx
   simp [hr i hi hi]
  rw [eW,h0]
  conv=>whnf
  rw [m2]
  refine ⟨fun h=>absurd h (by simp),fun _=>?_⟩
  refine dd ?_
  refine ⟨by simp,?_⟩
  conv=>whnf
  exact ⟨.inl rfl,_,.refl _,rfl⟩
end Go.Wor
namespace Go.Wor
open Go.Ab Go.Proofs Go.Hy Go.Gat Go.Nam Go.Hos Go.Con Go.Sna
def wP (l:Lis):Bool:=decide (1000000 < l.zr)
def zdq (e:En):Bool:=decide (1000000 < e.zr)
def zcu (g:Gr):Bool:=g.ends.any zdq
def km (v:Ver):Bool:=v.zk.any zcu
def yQ (w:Wor):Bool:=decide (1000000 < w.zj) || w.zc.any wP || w.zd.any km
theorem zaA (w:Wor) (hw:Wk w):zb Tryz.prog 16 [] [Cw w] (Bo (!yQ w)) []:=by
 have m2:(w.zd.map qu).length=w.zd.length:=List.length_map ..
 have m3:(w.zc.map qL).length=w.zc.length:=List.length_map ..
 have b2:=hw.zd
 have b3:=hw.zc
 refine zb.zm (fn:=Tryz.f16) Tryz.func16 rfl ?_
 conv=>whnf
 refine ⟨fun a1=>?_,fun a1=>?_⟩
 ·have e:yQ w=true:=by unfold yQ;rw [decide_eq_true (by simp at a1;omega)];rfl
  rw [e]
  refine dd ?_
  (repeat ((first | apply ya | apply yb);refine dd ?_))
  exact ⟨.inl rfl,_,.refl _,rfl⟩
 have e0:yQ w=(w.zc.any wP || w.zd.any km):=by unfold yQ;rw [decide_eq_false (by simp at a1;omega)];rfl
 refine dd ?_
 refine zM.seq w.zc.length (fun k=>(Cw w:: .ref 0 [] 8 0 0::Bo false::I k:: .za::.za::.za::.za::.za::.za::.za::.za::.za::.za::.za::.za::.za::.za::.za::.za::.za::.za::.za::.za::.za::.za::.za::.za::.za::.za::.za::.za::.za::.za::.za::.za::.za::.za::.za::.za::.za::.za::.za::.za::.za::.za::.za::.za::.za::.za::.za::.za::.za::.za::.za::.za::.za::.za::.za::.za::.za::.za::.za::.za::.za::.za::.za::.za::.za::.za::.za::.za::[])) (fun k=>[⟨1,28,8,[zU w],0⟩]) (fun k=>∀ j,(h:j < w.zc.length)->j < k->wP w.zc[j]=false) ?_ (by simp) (fun k hk hr=>?_) (fun hr=>?_)
 ·exact cC
 ·obtain ⟨x,hx⟩:∃ x,x=w.zc[k]:=⟨_,rfl⟩
  have hg:(w.zc.map qL)[k]?= some (qL x):=by rw [List.getElem?_map,List.getElem?_eq_getElem hk,hx];rfl
  have bad:wP x=true->yQ w=true:=fun h=>by
   have:w.zc.any wP=true:=List.any_eq_true.2 ⟨x,by rw [hx];exact List.getElem_mem hk,h⟩
   rw [e0,this];rfl
  conv=>whnf
  rw [m3]
  (refine ⟨fun _=>?_,fun h=>absurd h (by simp;omega)⟩);refine dd ?_
  (refine ⟨by omega,_,by rw [toNat_cast];exact hg,?_⟩);refine dd ?_
  refine ⟨fun c1=>?_,fun c1=>?_⟩
  ·rw [bad (by simp at c1;simp [wP];omega)]
   refine dd ?_
   (refine .inr ⟨by simp,?_⟩);(conv=>whnf)
   exact ⟨.inl rfl,_,.refl _,rfl⟩
  refine dd ?_
  refine .inl ⟨rfl,?_,fun i hi hij=>?_⟩
  ·rw [zp (by omega)]
   exact cE 1
  ·by_cases e:i=k
   ·subst e;rw [<- hx];simp at c1;simp [wP];omega
   ·exact hr i hi (by omega)
 have h0:w.zc.any wP=false:=by
  rw [List.any_eq_false]
  intro x hx
  obtain ⟨i,hi,rfl⟩:=List.mem_iff_getElem.1 hx
  simp [hr i hi hi]
 have e1:yQ w=w.zd.any km:=by rw [e0,h0];rfl
 conv=>whnf
 rw [m3]
 refine ⟨fun h=>absurd h (by simp),fun _=>?_⟩
 refine dd ?_
 refine ⟨by simp,?_⟩
 conv=>whnf
 refine zM.seq w.zd.length (fun k=>(Cw w:: .ref 0 [] 8 0 0::Bo false:: .za::I k:: .za::.za::.za::.za::.za::.za::.za::.za::.za::.za::.za::.za::.za::.za::.za::.za::.za::.za::.za::.za::.za::.za::.za::.za::.za::.za::.za::.za::.za::.za::.za::.za::.za::.za::.za::.za::.za::.za::.za::.za::.za::.za::.za::.za::.za::.za::.za::.za::.za::.za::.za::.za::.za::.za::.za::.za::.za::.za::.za::.za::.za::.za::.za::.za::.za::.za::.za::[])) (fun k=>[⟨1,28,8,[zU w],0⟩]) (fun k=>∀ j,(h:j < w.zd.length)->j < k->km w.zd[j]=false) ?_ (by simp) (fun k hk hr2=>?_) (fun hr2=>?_)
 ·exact cC
 ·obtain ⟨v,hx⟩:∃ v,v=w.zd[k]:=⟨_,rfl⟩
  have hv:v ∈ w.zd:=by rw [hx];exact List.getElem_mem hk
  have hg:(w.zd.map qu)[k]?= some (qu v):=by rw [List.getElem?_map,List.getElem?_eq_getElem hk,hx];rfl
  have mg:(v.zk.map q7).length=v.zk.length:=List.length_map ..
  have bad:km v=true->yQ w=true:=fun h=>by
   rw [e1];exact List.any_eq_true.2 ⟨v,hv,h⟩
  have bg:=(hw.zk v hv).1
  conv=>whnf
  rw [m2]
  (refine ⟨fun _=>?_,fun h=>absurd h (by simp;omega)⟩);refine dd ?_
  refine zM.seq v.zk.length (fun j=>(Cw w:: .ref 0 [] 8 0 0::Bo false:: .za::I k::I j:: .za::.za::.za::.za::.za::.za::.za::.za::.za::.za::.za::.za::.za::.za::.za::.za::.za::.za::.za::.za::.za::.za::.za::.za::.za::.za::.za::.za::.za::.za::.za::.za::.za::.za::.za::.za::.za::.za::.za::.za::.za::.za::.za::.za::.za::.za::.za::.za::.za::.za::.za::.za::.za::.za::.za::.za::.za::.za::.za::.za::.za::.za::.za::.za::.za::.za::[])) (fun j=>[⟨1,28,8,[zU w],0⟩]) (fun j=>∀ i,(h:i < v.zk.length)->i < j->zcu v.zk[i]=false) ?_ (by simp) (fun j hj hrj=>?_) (fun hrj=>?_)
  ·exact cC
  ·obtain ⟨g,hxg⟩:∃ g,g=v.zk[j]:=⟨_,rfl⟩
   have hgm:g ∈ v.zk:=by rw [hxg];exact List.getElem_mem hj
   have hgg:(v.zk.map q7)[j]?= some (q7 g):=by rw [List.getElem?_map,List.getElem?_eq_getElem hj,hxg];rfl
   have me:(g.ends.map zX).length=g.ends.length:=List.length_map ..
   have be:=(hw.zk v hv).2 g hgm
   have badg:zcu g=true->yQ w=true:=fun h=>bad (List.any_eq_true.2 ⟨g,hgm,h⟩)
   conv=>whnf
   (refine ⟨by omega,_,by rw [toNat_cast];exact hg,?_⟩);refine dd ?_
   rw [mg]
   (refine ⟨fun _=>?_,fun h=>absurd h (by simp;omega)⟩);refine dd ?_
   refine zM.seq g.ends.length (fun n=>(Cw w:: .ref 0 [] 8 0 0::Bo false:: .za::I k::I j::I n:: .za::.za::.za::.za::.za::.za::.za::.za::.za::.za::.za::.za::.za::.za::.za::.za::.za::.za::.za::.za::.za::.za::.za::.za::.za::.za::.za::.za::.za::.za::.za::.za::.za::.za::.za::.za::.za::.za::.za::.za::.za::.za::.za::.za::.za::.za::.za::.za::.za::.za::.za::.za::.za::.za::.za::.za::.za::.za::.za::.za::.za::.za::.za::.za::.za::[])) (fun n=>[⟨1,28,8,[zU w],0⟩]) (fun n=>∀ i,(h:i < g.ends.length)->i < n->zdq g.ends[i]=false) ?_ (by simp) (fun n hn hrn=>?_) (fun hrn=>?_)
   ·exact cC
   ·obtain ⟨e,hxe⟩:∃ e,e=g.ends[n]:=⟨_,rfl⟩
    have hge:(g.ends.map zX)[n]?= some (zX e):=by rw [List.getElem?_map,List.getElem?_eq_getElem hn,hxe];rfl
    conv=>whnf
    (refine ⟨by omega,_,by rw [toNat_cast];exact hg,?_⟩);refine dd ?_
    (refine ⟨by omega,_,by rw [toNat_cast];exact hgg,?_⟩);refine dd ?_
    rw [me]
    (refine ⟨fun _=>?_,fun h=>absurd h (by simp;omega)⟩);refine dd ?_
    (refine ⟨by omega,_,by rw [toNat_cast];exact hg,?_⟩);refine dd ?_
    (refine ⟨by omega,_,by rw [toNat_cast];exact hgg,?_⟩);refine dd ?_
    (refine ⟨by omega,_,by rw [toNat_cast];exact hge,?_⟩);refine dd ?_
    refine ⟨fun c1=>?_,fun c1=>?_⟩
    ·rw [badg (List.any_eq_true.2 ⟨e,by rw [hxe];exact List.getElem_mem hn,by simp at c1;simp [zdq];omega⟩)]
     refine dd ?_
     (refine .inr ⟨by simp,?_⟩);(conv=>whnf)
     (try (refine .inr ⟨by simp,?_⟩);(conv=>whnf))
     (try (refine .inr ⟨by simp,?_⟩);(conv=>whnf))
     exact ⟨.inl rfl,_,.refl _,rfl⟩
    refine dd ?_
    refine .inl ⟨rfl,?_,fun i hi hij=>?_⟩
    ·rw [zp (by omega)]
     exact cE 1
    ·by_cases e:i=n
     ·subst e;rw [<- hxe];simp at c1;simp [zdq];omega
     ·exact hrn i hi (by omega)
   ·have no:zcu g=false:=by
     unfold zcu
     rw [List.any_eq_false]
     intro x hx
     obtain ⟨i,hi,rfl⟩:=List.mem_iff_getElem.1 hx
     simp [hrn i hi hi]
    conv=>whnf
    (refine ⟨by omega,_,by rw [toNat_cast];exact hg,?_⟩);refine dd ?_
    (refine ⟨by omega,_,by rw [toNat_cast];exact hgg,?_⟩);refine dd ?_
    rw [me]
    refine ⟨fun h=>absurd h (by simp),fun _=>?_⟩
    refine dd ?_
    refine ⟨by simp,?_⟩
    conv=>whnf
    refine .inl ⟨rfl,?_,fun i hi hij=>?_⟩
    ·rw [zp (by omega)]
     exact cE 1
    ·by_cases e:i=j
     ·subst e;rw [<- hxg];exact no
     ·exact hrj i hi (by omega)
  ·have no:km v=false:=by
    unfold km
    rw [List.any_eq_false]
    intro x hx
    obtain ⟨i,hi,rfl⟩:=List.mem_iff_getElem.1 hx
    simp [hrj i hi hi]
   conv=>whnf
   (refine ⟨by omega,_,by rw [toNat_cast];exact hg,?_⟩);refine dd ?_
   rw [mg]
   refine ⟨fun h=>absurd h (by simp),fun _=>?_⟩
   refine dd ?_
   refine ⟨by simp,?_⟩
   conv=>whnf
   refine .inl ⟨rfl,?_,fun i hi hij=>?_⟩
   ·rw [zp (by omega)]
    exact cE 1
   ·by_cases e:i=k
    ·subst e;rw [<- hx];exact no
    ·exact hr2 i hi (by omega)
 ·have h1:w.zd.any km=false:=by
   rw [List.any_eq_false]
   intro x hx
   obtain ⟨i,hi,rfl⟩:=List.mem_iff_getElem.1 hx
   simp [hr2 i hi hi]
  rw [e1,h1]
  conv=>whnf
  rw [m2]
  refine ⟨fun h=>absurd h (by simp),fun _=>?_⟩
  refine dd ?_
  refine ⟨by simp,?_⟩
  conv=>whnf
  exact ⟨.inl rfl,_,.refl _,rfl⟩
end Go.Wor
namespace Go.Wor
open Go.Ab Go.Proofs Go.Hy Go.Gat Go.Nam Go.Hos Go.Con Go.Sna
end Go.Wor
namespace Go.Wor
open Go.Ab Go.Proofs Go.Hy Go.Gat Go.Nam Go.Hos Go.Con Go.Sna
structure WkS (s:Sna):Prop where
 zc:s.zc.length < 4000000000000000000
 rules:s.rules.length < 4000000000000000000
 zf:s.zf.length < 4000000000000000000
 zT:∀ x ∈ s.zf,x.zT.length < 4000000000000000000
structure WkW (w:Wor):Prop where
 wk:Wk w
 zhw:∀ v ∈ w.zd,WkS v.snap
 ends : ∀ v ∈ w.zd, ∀ g ∈ v.zk, ∀ e ∈ g.ends, e.ok
 counts:∀ r ∈ w.counts,r.length < 4000000000000000000
end Go.Wor
namespace Go.Hy
open Go.Ab Go.Proofs
theorem zia:zi Tryz.prog 95 qL Lis.ok:=
 zi.map (zi.struct Tryz.underlying95 (by kernel_rfl) (zo.cons rfl (jI) (zo.cons rfl (zi.bool Tryz.underlying4) (zo.cons rfl (zi.int Tryz.underlying3) (zo.cons rfl (zi.bool Tryz.underlying4) (zo.nil _)))))) (fun x=>⟨x.1,x.2.1,x.2.2.1,x.2.2.2.1⟩) fun x h=>⟨⟨h.1,wf_i64 h.2.2.1⟩,rfl⟩
theorem zgE:zi Tryz.prog 24 (fun l:List Lis=>[lL l]) (fun l=>(∀ x ∈ l,x.ok)∧l.length * 40<=reachBytes):=
 zi.slice (sz:=4) (by_:=40) Tryz.underlying24 (by kernel_rfl) (by kernel_rfl) (by decide) (fun _=>rfl) zia
theorem zib:zi Tryz.prog 113 qM Ret.ok:=
 zi.map (zi.struct Tryz.underlying113 (by kernel_rfl) (zo.cons rfl (zi.int Tryz.underlying3) (zo.cons rfl (zi.int Tryz.underlying3) (zo.cons rfl (zi.bool Tryz.underlying4) (zo.nil _))))) (fun x=>⟨x.1,x.2.1,x.2.2.1⟩) fun x h=>⟨⟨wf_i64 h.1,wf_i64 h.2.1⟩,rfl⟩
theorem zgF:zi Tryz.prog 26 (fun l:List Ret=>[lR l]) (fun l=>(∀ x ∈ l,x.ok)∧l.length * 24<=reachBytes):=
 zi.slice (sz:=3) (by_:=24) Tryz.underlying26 (by kernel_rfl) (by kernel_rfl) (by decide) (fun _=>rfl) zib
theorem zjy:zi Tryz.prog 97 zX En.ok:=
 zi.map (zi.struct Tryz.underlying97 (by kernel_rfl) (zo.cons rfl (zi.int Tryz.underlying38) (zo.cons rfl wo (zo.cons rfl (zi.int Tryz.underlying3) (zo.nil _))))) (fun x=>⟨x.1,x.2.1,x.2.2.1⟩) fun x h=>⟨⟨wf_u64 h.1,⟨fun y hy=>wf_i64 (h.2.1.1 y hy),by have:=h.2.1.2;unfold reachBytes at this;show x.2.1.length<=_;omega⟩,wf_i64 h.2.2.1⟩,rfl⟩
theorem zig:zi Tryz.prog 91 (fun l:List En=>[lE l]) (fun l=>(∀ x ∈ l,x.ok)∧l.length * 40<=reachBytes):=
 zi.slice (sz:=3) (by_:=40) Tryz.underlying91 (by kernel_rfl) (by kernel_rfl) (by decide) (fun _=>rfl) zjy
def Gr.okW (g:Gr):Prop:=u64 g.jC∧(∀ e ∈ g.ends,e.ok)∧g.ends.length * 40<=reachBytes
theorem zjz:zi Tryz.prog 93 q7 Gr.okW:=
 zi.map (zi.struct Tryz.underlying93 (by kernel_rfl) (zo.cons rfl (zi.int Tryz.underlying38) (zo.cons rfl zig (zo.nil _)))) (fun x=>⟨x.1,x.2.1⟩) fun x h=>⟨⟨wf_u64 h.1,h.2.1⟩,rfl⟩
theorem zih:zi Tryz.prog 70 (fun l:List Gr=>[lG l]) (fun l=>(∀ x ∈ l,x.okW)∧l.length * 32<=reachBytes):=
 zi.slice (sz:=2) (by_:=32) Tryz.underlying70 (by kernel_rfl) (by kernel_rfl) (by decide) (fun _=>rfl) zjz
def Rul.okW (r:Rul):Prop:=r.host.length<=reachBytes∧r.path.length<=reachBytes
theorem zic:zi Tryz.prog 164 kY Rul.okW:=
 zi.map (zi.struct Tryz.underlying164 (by kernel_rfl) (zo.cons rfl (zi.int Tryz.underlying3) (zo.cons rfl (jI) (zo.cons rfl (jI) (zo.cons rfl (zi.int Tryz.underlying3) (zo.nil _)))))) (fun x=>⟨x.1,x.2.1,x.2.2.1,x.2.2.2.1⟩) fun x h=>⟨⟨h.2.1,h.2.2.1⟩,rfl⟩
theorem zgG:zi Tryz.prog 67 (fun l:List Rul=>[zgo l]) (fun l=>(∀ x ∈ l,x.okW)∧l.length * 48<=reachBytes):=
 zi.slice (sz:=4) (by_:=48) Tryz.underlying67 (by kernel_rfl) (by kernel_rfl) (by decide) (fun _=>rfl) zic
def Sna.okW (s:Sna):Prop:=((∀ x ∈ s.zc,zer x)∧s.zc.length * 16<=reachBytes)∧((∀ r ∈ s.rules,r.okW)∧s.rules.length * 48<=reachBytes)∧((∀ x ∈ s.zf,x.ok)∧s.zf.length * 56<=reachBytes)
theorem zid:zi Tryz.prog 69 zba Sna.okW:=
 zi.map (zi.struct Tryz.underlying69 (by kernel_rfl) (zo.cons rfl zd8 (zo.cons rfl zgG (zo.cons rfl zd7 (zo.nil _))))) (fun x=>⟨x.1,x.2.1,x.2.2.1⟩) fun x h=>⟨⟨h.1,h.2.1,h.2.2.1⟩,rfl⟩
def Ver.okW (v:Ver):Prop:=v.snap.okW∧((∀ g ∈ v.zk,g.okW)∧v.zk.length * 32<=reachBytes)
theorem zie:zi Tryz.prog 72 qu Ver.okW:=
 zi.map (zi.struct Tryz.underlying72 (by kernel_rfl) (zo.cons rfl zid (zo.cons rfl zih (zo.cons rfl (zi.bool Tryz.underlying4) (zo.nil _))))) (fun x=>⟨x.1,x.2.1,x.2.2.1⟩) fun x h=>⟨⟨h.1,h.2.1⟩,by simp [qu]⟩
theorem zgH:zi Tryz.prog 23 (fun l:List Ver=>[lV l]) (fun l=>(∀ x ∈ l,x.okW)∧l.length * 104<=reachBytes):=
 zi.slice (sz:=5) (by_:=104) Tryz.underlying23 (by kernel_rfl) (by kernel_rfl) (by decide) (fun _=>rfl) zie
theorem zjI:zi Tryz.prog 161 (fun l:List Int=>[lU l]) (fun l=>(∀ x ∈ l,(Lit.int .u64 x).wf=true)∧l.length * 8<=reachBytes):=
 zi.slice (sz:=1) (by_:=8) Tryz.underlying161 (by kernel_rfl) (by kernel_rfl) (by decide) (fun _=>rfl) (zi.int Tryz.underlying38)
theorem zif:zi Tryz.prog 25 (fun l:List (List Int)=>[lCo l]) (fun l=>(∀ r ∈ l,(∀ x ∈ r,(Lit.int .u64 x).wf=true)∧r.length * 8<=reachBytes)∧l.length * 24<=reachBytes):=
 zi.slice (sz:=1) (by_:=24) Tryz.underlying25 (by kernel_rfl) (by kernel_rfl) (by decide) (fun _=>rfl) zjI
structure Wor.okW (w:Wor):Prop where
 pins:w.pins.length * 8<=reachBytes
 zd:(∀ v ∈ w.zd,v.okW)∧w.zd.length * 104<=reachBytes
 zc:(∀ x ∈ w.zc,x.ok)∧w.zc.length * 40<=reachBytes
 counts:(∀ r ∈ w.counts,(∀ x ∈ r,(Lit.int .u64 x).wf=true)∧r.length * 8<=reachBytes)∧w.counts.length * 24<=reachBytes
 zg:w.zg.length * 24<=reachBytes
theorem zb8:zi Tryz.prog 28 zU Wor.okW:=
 zi.map (zi.struct Tryz.underlying28 (by kernel_rfl) (zo.cons rfl (zi.int Tryz.underlying3) (zo.cons rfl (zi.int Tryz.underlying3) (zo.cons rfl (zi.int Tryz.underlying3) (zo.cons rfl wo (zo.cons rfl zgH (zo.cons rfl zgE (zo.cons rfl zif (zo.cons rfl zgF (zo.nil _))))))))))
  (fun x=>⟨x.1,x.2.1,x.2.2.1,x.2.2.2.1,x.2.2.2.2.1,x.2.2.2.2.2.1,x.2.2.2.2.2.2.1,x.2.2.2.2.2.2.2.1⟩) fun x h=>⟨⟨h.2.2.2.1.2,h.2.2.2.2.1,h.2.2.2.2.2.1,h.2.2.2.2.2.2.1,h.2.2.2.2.2.2.2.1.2⟩,rfl⟩
theorem arg_Wor:OpenArg Tryz.prog 28 (fun x=>.agg (zU x)) Wor.okW:=zi.wV Tryz.underlying28 zb8
def Opn.okW (o:Opn):Prop:=o.ok∧i64 o.d0∧i64 o.d1
end Go.Hy
