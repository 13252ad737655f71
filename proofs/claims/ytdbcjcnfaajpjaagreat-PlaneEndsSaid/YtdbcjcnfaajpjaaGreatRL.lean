import Derived.Test.YtdbcjcnfaajpjaaGreatRK
import Derived.Test.YtdbcjcnfaajpjaaGreatRO
set_option linter.unusedVariables false
set_option linter.unusedSimpArgs false
set_option linter.unusedSectionVars false
set_option maxRecDepth 100000
set_option maxHeartbeats 4000000
namespace Go.Wor
open Go.Ab Go.Proofs Go.Hy Go.Gat Go.Nam Go.Hos Go.Con Go.Sna
def zaU (c:List (List Int)):Bool:=decide (50 < c.length) || c.any fun r=>decide (50 < r.length)
theorem zgV (c:List (List Int)) (h1:c.length < 4000000000000000000):zb Tryz.prog 29 [] [lCo c] (Bo (zaU c)) []:=by
 have m1:(c.map zJ).length=c.length:=List.length_map ..
 refine zb.zp (fn:=Tryz.f29) Tryz.func29 rfl ?_
 conv=>whnf
 refine qa.seq (if c.length<=50 then c.length else 0) (fun k=>[lCo c,.za,Bo false,I k,.za,.za,.za,.za,.za,.za,.za,.za,.za,.za,.za,.za,.za,.za,.za,.za,.za,.za,.za,.za]) (fun k=>[]) (fun k=>∀ j,(h:j < c.length)->j < k->decide (50 < c[j].length)=false) ?_ (by simp) (fun k hk hr=>?_) (fun hr=>?_)
 ·exact cC
 ·have hk2:c.length<=50:=by split at hk <;> omega
  rw [if_pos hk2] at hk
  obtain ⟨x,hx⟩:∃ x,x=c[k]:=⟨_,rfl⟩
  have hg:(c.map zJ)[k]?= some (zJ x):=by rw [List.getElem?_map,List.getElem?_eq_getElem hk,hx];rfl
  have mh:(x.map qY).length=x.length:=List.length_map ..
  have bad:decide (50 < x.length)=true->zaU c=true:=fun h=>by
   have:(c.any fun r=>decide (50 < r.length))=true:=List.any_eq_true.2 ⟨x,by rw [hx];exact List.getElem_mem hk,h⟩
   simp [zaU,this]
  conv=>whnf
  rw [m1]
  refine ⟨fun a1=>?_,fun a1=>?_⟩
  rotate_left
  ·exact absurd a1 (by simp;omega)
  refine dd ?_
  rw [m1]
  refine ⟨fun a2=>?_,fun a2=>?_⟩
  rotate_left
  ·exact absurd a2 (by simp;omega)
  refine dd ?_
  (repeat ((first | apply ya | apply yb);refine dd ?_))
  (refine ⟨by omega,_,by rw [toNat_cast];exact hg,?_⟩);refine dd ?_
  rw [mh]
  refine ⟨fun a3=>?_,fun a3=>?_⟩
  ·rw [bad (by simp at a3 ⊢;omega)]
   refine dd ?_
   (refine .inr ⟨by simp,?_⟩);(conv=>whnf)
   exact ⟨.inl rfl,_,.refl _,rfl⟩
  refine dd ?_
  refine .inl ⟨rfl,?_,fun j hj hjk=>?_⟩
  ·rw [zC (by omega)]
   exact cE 0
  ·by_cases e:j=k
   ·subst e;rw [<- hx];simp at a3 ⊢;omega
   ·exact hr j hj (by omega)
 ·have fin:zaU c=decide ((c.length:Int) > 50):=by
   by_cases hl:c.length<=50
   ·rw [if_pos hl] at hr
    have h0:(c.any fun r=>decide (50 < r.length))=false:=by
     rw [List.any_eq_false]
     intro x hx
     obtain ⟨i,hi,rfl⟩:=List.mem_iff_getElem.1 hx
     simpa using hr i hi hi
    unfold zaU
    rw [h0,Bool.or_false]
    exact decide_eq_decide.2 (by omega)
   ·unfold zaU
    rw [decide_eq_true (by omega),decide_eq_true (by omega)];rfl
  rw [fin]
  conv=>whnf
  rw [m1]
  refine ⟨fun a1=>?_,fun a1=>?_⟩
  ·have hl:¬c.length<=50:=fun hl=>by rw [if_pos hl] at a1;simp at a1
   refine dd ?_
   rw [m1]
   refine ⟨fun a2=>absurd a2 (by simp;omega),fun _=>?_⟩
   refine dd ?_
   refine ⟨by simp,?_⟩
   conv=>whnf
   rw [m1]
   refine ⟨fun a5=>?_,fun a5=>?_⟩
   all_goals
    rw [a5]
    refine dd ?_
    exact ⟨.inl rfl,_,.refl _,rfl⟩
  ·refine dd ?_
   refine ⟨by simp,?_⟩
   conv=>whnf
   rw [m1]
   refine ⟨fun a5=>?_,fun a5=>?_⟩
   all_goals
    rw [a5]
    refine dd ?_
    exact ⟨.inl rfl,_,.refl _,rfl⟩
def ruB (r:Rul):Bool:=decide (100 < r.host.length) || decide (100 < r.path.length)
def zcg (c:List Rul):Bool:=decide (50 < c.length) || c.any ruB
theorem zgX (c:List Rul) (h1:c.length < 4000000000000000000):zb Tryz.prog 45 [] [vx c] (Bo (zcg c)) []:=by
 have m1:(c.map jP).length=c.length:=List.length_map ..
 refine zb.zp (fn:=Tryz.f45) Tryz.func45 rfl ?_
 conv=>whnf
 refine qa.seq (if c.length<=50 then c.length else 0) (fun k=>[vx c,.za,Bo false,I k,.za,.za,.za,.za,.za,.za,.za,.za,.za,.za,.za,.za,.za,.za,.za,.za,.za,.za,.za,.za,.za,.za,.za,.za,.za,.za,.za,.za,.za,.za]) (fun k=>[]) (fun k=>∀ j,(h:j < c.length)->j < k->ruB c[j]=false) ?_ (by simp) (fun k hk hr=>?_) (fun hr=>?_)
 ·exact cC
 ·have hk2:c.length<=50:=by split at hk <;> omega
  rw [if_pos hk2] at hk
  obtain ⟨x,hx⟩:∃ x,x=c[k]:=⟨_,rfl⟩
  have hg:(c.map jP)[k]?= some (jP x):=by rw [List.getElem?_map,List.getElem?_eq_getElem hk,hx];rfl
  have bad:ruB x=true->zcg c=true:=fun h=>by
   have:c.any ruB=true:=List.any_eq_true.2 ⟨x,by rw [hx];exact List.getElem_mem hk,h⟩
   simp [zcg,this]
  conv=>whnf
  rw [m1]
  refine ⟨fun a1=>?_,fun a1=>?_⟩
  rotate_left
  ·exact absurd a1 (by simp;omega)
  refine dd ?_
  rw [m1]
  refine ⟨fun a2=>?_,fun a2=>?_⟩
  rotate_left
  ·exact absurd a2 (by simp;omega)
  refine dd ?_
  (repeat ((first | apply ya | apply yb);refine dd ?_))
  (refine ⟨by omega,_,by rw [toNat_cast];exact hg,?_⟩);refine dd ?_
  refine ⟨fun b1=>?_,fun b1=>?_⟩
  ·rw [bad (by simp at b1;simp [ruB];omega)]
   refine dd ?_
   (repeat ((first | apply ya | apply yb);refine dd ?_))
   (refine .inr ⟨by simp,?_⟩);(conv=>whnf)
   exact ⟨.inl rfl,_,.refl _,rfl⟩
  refine dd ?_
  (refine ⟨by omega,_,by rw [toNat_cast];exact hg,?_⟩);refine dd ?_
  refine ⟨fun b2=>?_,fun b2=>?_⟩
  ·rw [bad (by simp at b2;simp [ruB];omega)]
   refine dd ?_
   (refine .inr ⟨by simp,?_⟩);(conv=>whnf)
   exact ⟨.inl rfl,_,.refl _,rfl⟩
  refine dd ?_
  refine .inl ⟨rfl,?_,fun j hj hjk=>?_⟩
  ·rw [zC (by omega)]
   exact cE 0
  ·by_cases e:j=k
   ·subst e;rw [<- hx];simp at b1 b2;simp [ruB];omega
   ·exact hr j hj (by omega)
 ·have fin:zcg c=decide ((c.length:Int) > 50):=by
   by_cases hl:c.length<=50
   ·rw [if_pos hl] at hr
    have h0:c.any ruB=false:=by
     rw [List.any_eq_false]
     intro x hx
     obtain ⟨i,hi,rfl⟩:=List.mem_iff_getElem.1 hx
     simpa using hr i hi hi
    unfold zcg
    rw [h0,Bool.or_false]
    exact decide_eq_decide.2 (by omega)
   ·unfold zcg
    rw [decide_eq_true (by omega),decide_eq_true (by omega)];rfl
  rw [fin]
  conv=>whnf
  rw [m1]
  refine ⟨fun a1=>?_,fun a1=>?_⟩
  ·have hl:¬c.length<=50:=fun hl=>by rw [if_pos hl] at a1;simp at a1
   refine dd ?_
   rw [m1]
   refine ⟨fun a2=>absurd a2 (by simp;omega),fun _=>?_⟩
   refine dd ?_
   refine ⟨by simp,?_⟩
   conv=>whnf
   rw [m1]
   refine ⟨fun a5=>?_,fun a5=>?_⟩
   all_goals
    rw [a5]
    refine dd ?_
    exact ⟨.inl rfl,_,.refl _,rfl⟩
  ·refine dd ?_
   refine ⟨by simp,?_⟩
   conv=>whnf
   rw [m1]
   refine ⟨fun a5=>?_,fun a5=>?_⟩
   all_goals
    rw [a5]
    refine dd ?_
    exact ⟨.inl rfl,_,.refl _,rfl⟩
def zf3 (c:Clu):Bool:=decide (20 < c.zI.length) || decide (100 < c.name.length)
def yO (s:Sna):Bool:=decide (20 < s.ze.length) || decide (20 < s.zk.length) || zcg s.rules || s.zk.any zf3
theorem zgZ (s:Sna) (h1:s.ze.length < 4000000000000000000) (h2:s.rules.length < 4000000000000000000) (h3:s.zk.length < 4000000000000000000):zb Tryz.prog 30 [] [.agg (zL s)] (Bo (yO s)) []:=by
 have m1:(s.ze.map yT).length=s.ze.length:=List.length_map ..
 have m3:(s.zk.map jj).length=s.zk.length:=List.length_map ..
 refine zb.zp (fn:=Tryz.f30) Tryz.func30 rfl ?_
 conv=>whnf
 rw [m1]
 (refine ⟨fun a1=>?_,fun a1=>?_⟩);(focus ((have e:yO s=true:=(by (try simp at a1);simp [yO];first | omega | exact .inl (.inr a1)));(rw [e]);refine dd ?_;(try (repeat ((first | apply ya | apply yb);refine dd ?_)));exact ⟨.inl rfl,_,.refl _,rfl⟩));refine dd ?_
 rw [m3]
 (refine ⟨fun a2=>?_,fun a2=>?_⟩);(focus ((have e:yO s=true:=(by (try simp at a2);simp [yO];first | omega | exact .inl (.inr a2)));(rw [e]);refine dd ?_;(try (repeat ((first | apply ya | apply yb);refine dd ?_)));exact ⟨.inl rfl,_,.refl _,rfl⟩));refine dd ?_
 refine ⟨_,_,(zgX s.rules h2).frame rfl _,?_⟩;refine dd ?_
 (refine ⟨fun a3=>?_,fun a3=>?_⟩);(focus ((have e:yO s=true:=(by (try simp at a3);simp [yO];first | omega | exact .inl (.inr a3)));(rw [e]);refine dd ?_;(try (repeat ((first | apply ya | apply yb);refine dd ?_)));exact ⟨.inl rfl,_,.refl _,rfl⟩));refine dd ?_
 (repeat ((first | apply ya | apply yb);refine dd ?_))
 refine qa.seq s.zk.length (fun k=>[.agg (zL s),.ref 0 [] 3 0 0,Bo false,I k,.za,.za,.za,.za,.za,.za,.za,.za,.za,.za,.za,.za,.za,.za,.za,.za,.za,.za,.za,.za,.za,.za,.za,.za,.za,.za,.za,.za,.za,.za,.za,.za,.za,.za,.za,.za,.za,.za,.za,.za]) (fun k=>[⟨1,68,3,[zL s],0⟩]) (fun k=>∀ j,(h:j < s.zk.length)->j < k->zf3 s.zk[j]=false) ?_ (by simp) (fun k hk hr=>?_) (fun hr=>?_)
 ·exact cC
 ·obtain ⟨x,hx⟩:∃ x,x=s.zk[k]:=⟨_,rfl⟩
  have hg:(s.zk.map jj)[k]?= some (jj x):=by rw [List.getElem?_map,List.getElem?_eq_getElem hk,hx];rfl
  have mh:(x.zI.map xZ).length=x.zI.length:=List.length_map ..
  have bad:zf3 x=true->yO s=true:=fun h=>by
   have:s.zk.any zf3=true:=List.any_eq_true.2 ⟨x,by rw [hx];exact List.getElem_mem hk,h⟩
   simp [yO,this]
  conv=>whnf
  rw [m3]
  (refine ⟨fun _=>?_,fun h=>absurd h (by simp;omega)⟩);refine dd ?_
  (refine ⟨by omega,_,by rw [toNat_cast];exact hg,?_⟩);refine dd ?_
  rw [mh]
  refine ⟨fun b1=>?_,fun b1=>?_⟩
  ·rw [bad (by simp at b1;simp [zf3];omega)]
   refine dd ?_
   (repeat ((first | apply ya | apply yb);refine dd ?_))
   (refine .inr ⟨by simp,?_⟩);(conv=>whnf)
   exact ⟨.inl rfl,_,.refl _,rfl⟩
  refine dd ?_
  (refine ⟨by omega,_,by rw [toNat_cast];exact hg,?_⟩);refine dd ?_
  refine ⟨fun b2=>?_,fun b2=>?_⟩
  ·rw [bad (by simp at b2;simp [zf3];omega)]
   refine dd ?_
   (refine .inr ⟨by simp,?_⟩);(conv=>whnf)
   exact ⟨.inl rfl,_,.refl _,rfl⟩
  refine dd ?_
  refine .inl ⟨rfl,?_,fun j hj hjk=>?_⟩
  ·rw [zC (by omega)]
   exact cE 1
  ·by_cases e:j=k
   ·subst e;rw [<- hx];simp at b1 b2;simp [zf3];omega
   ·exact hr j hj (by omega)
 ·have h0:s.zk.any zf3=false:=by
   rw [List.any_eq_false]
   intro x hx
   obtain ⟨i,hi,rfl⟩:=List.mem_iff_getElem.1 hx
   simp [hr i hi hi]
  have e:yO s=false:=by unfold yO;simp at a1 a2;rw [a3,h0,decide_eq_false (by omega),decide_eq_false (by omega)];rfl
  rw [e]
  conv=>whnf
  rw [m3]
  refine ⟨fun h=>absurd h (by simp),fun _=>?_⟩
  refine dd ?_
  refine ⟨by simp,?_⟩
  conv=>whnf
  exact ⟨.inl rfl,_,.refl _,rfl⟩
end Go.Wor
namespace Go.Wor
open Go.Ab Go.Proofs Go.Hy Go.Gat Go.Nam Go.Hos Go.Con Go.Sna
structure Wk (w:Wor):Prop where
 pins:w.pins.length < 4000000000000000000
 zd:w.zd.length < 4000000000000000000
 ze:w.ze.length < 4000000000000000000
 counts:w.counts.length < 4000000000000000000
 zm:w.zm.length < 4000000000000000000
 zhR:∀ v ∈ w.zd,v.snap.ze.length < 4000000000000000000∧v.snap.rules.length < 4000000000000000000∧v.snap.zk.length < 4000000000000000000
 zf:∀ v ∈ w.zd,v.zf.length < 4000000000000000000∧∀ g ∈ v.zf,g.ends.length < 4000000000000000000
def zgW (g:Gr):Bool:=decide (20 < g.ends.length)
def zbG (v:Ver):Bool:=yO v.snap || decide (20 < v.zf.length) || v.zf.any zgW
def vI (w:Wor):Bool:=decide (20 < w.pins.length) || decide (40 < w.zd.length) || decide (40 < w.ze.length) || zaU w.counts || decide (60 < w.zm.length) || w.zd.any zbG
theorem zil (w:Wor) (hw:Wk w):zb Tryz.prog 13 [] [Cw w] (Bo (vI w)) []:=by
 have m1:(w.pins.map Go.Hy.encI).length=w.pins.length:=List.length_map ..
 have m2:(w.zd.map zx).length=w.zd.length:=List.length_map ..
 have m3:(w.ze.map ql).length=w.ze.length:=List.length_map ..
 have m4:(w.counts.map zJ).length=w.counts.length:=List.length_map ..
 have m5:(w.zm.map jx).length=w.zm.length:=List.length_map ..
 have b2:=hw.zd
 refine zb.zp (fn:=Tryz.f13) Tryz.func13 rfl ?_
 conv=>whnf
 rw [m1]
 (refine ⟨fun a1=>?_,fun a1=>?_⟩);(focus ((have e:vI w=true:=(by (try simp at a1);simp [vI];first | omega | (rw [a1];simp)));(rw [e]);refine dd ?_;(try (repeat ((first | apply ya | apply yb);refine dd ?_)));exact ⟨.inl rfl,_,.refl _,rfl⟩));refine dd ?_
 rw [m2]
 (refine ⟨fun a2=>?_,fun a2=>?_⟩);(focus ((have e:vI w=true:=(by (try simp at a2);simp [vI];first | omega | (rw [a2];simp)));(rw [e]);refine dd ?_;(try (repeat ((first | apply ya | apply yb);refine dd ?_)));exact ⟨.inl rfl,_,.refl _,rfl⟩));refine dd ?_
 rw [m3]
 (refine ⟨fun a3=>?_,fun a3=>?_⟩);(focus ((have e:vI w=true:=(by (try simp at a3);simp [vI];first | omega | (rw [a3];simp)));(rw [e]);refine dd ?_;(try (repeat ((first | apply ya | apply yb);refine dd ?_)));exact ⟨.inl rfl,_,.refl _,rfl⟩));refine dd ?_
 refine ⟨_,_,(zgV w.counts hw.counts).frame rfl _,?_⟩;refine dd ?_
 (refine ⟨fun a4=>?_,fun a4=>?_⟩);(focus ((have e:vI w=true:=(by (try simp at a4);simp [vI];first | omega | (rw [a4];simp)));(rw [e]);refine dd ?_;(try (repeat ((first | apply ya | apply yb);refine dd ?_)));exact ⟨.inl rfl,_,.refl _,rfl⟩));refine dd ?_
 rw [m5]
 (refine ⟨fun a5=>?_,fun a5=>?_⟩);(focus ((have e:vI w=true:=(by (try simp at a5);simp [vI];first | omega | (rw [a5];simp)));(rw [e]);refine dd ?_;(try (repeat ((first | apply ya | apply yb);refine dd ?_)));exact ⟨.inl rfl,_,.refl _,rfl⟩));refine dd ?_
 have eW:vI w=w.zd.any zbG:=by
  unfold vI
  simp at a1 a2 a3 a5
  rw [a4,decide_eq_false (by omega),decide_eq_false (by omega),decide_eq_false (by omega),decide_eq_false (by omega)]
  rfl
 refine qa.seq w.zd.length (fun k=>(Cw w:: .ref 0 [] 8 0 0::Bo false::I k:: .za::.za::.za::.za::.za::.za::.za::.za::.za::.za::.za::.za::.za::.za::.za::.za::.za::.za::.za::.za::.za::.za::.za::.za::.za::.za::.za::.za::.za::.za::.za::.za::.za::.za::.za::.za::.za::.za::.za::.za::.za::.za::.za::.za::.za::.za::.za::.za::.za::.za::.za::.za::.za::.za::.za::.za::.za::.za::.za::.za::.za::.za::.za::.za::.za::[])) (fun k=>[⟨1,48,8,[zQ w],0⟩]) (fun k=>∀ j,(h:j < w.zd.length)->j < k->zbG w.zd[j]=false) ?_ (by simp) (fun k hk hr=>?_) (fun hr=>?_)
 ·exact cC
 ·obtain ⟨v,hx⟩:∃ v,v=w.zd[k]:=⟨_,rfl⟩
  have hv:v ∈ w.zd:=by rw [hx];exact List.getElem_mem hk
  have hg:(w.zd.map zx)[k]?= some (zx v):=by rw [List.getElem?_map,List.getElem?_eq_getElem hk,hx];rfl
  have mg:(v.zf.map zw).length=v.zf.length:=List.length_map ..
  have bad:zbG v=true->vI w=true:=fun h=>by
   rw [eW];exact List.any_eq_true.2 ⟨v,hv,h⟩
  have bg:=(hw.zf v hv).1
  conv=>whnf
  rw [m2]
  (refine ⟨fun _=>?_,fun h=>absurd h (by simp;omega)⟩);refine dd ?_
  (refine ⟨by omega,_,by rw [toNat_cast];exact hg,?_⟩);refine dd ?_
  refine ⟨_,_,(zgZ v.snap (hw.zhR v hv).1 (hw.zhR v hv).2.1 (hw.zhR v hv).2.2).frame rfl _,?_⟩;refine dd ?_
  refine ⟨fun c1=>?_,fun c1=>?_⟩
  ·rw [bad (by unfold zbG;rw [c1];rfl)]
   refine dd ?_
   (repeat ((first | apply ya | apply yb);refine dd ?_))
   (refine .inr ⟨by simp,?_⟩);(conv=>whnf)
   exact ⟨.inl rfl,_,.refl _,rfl⟩
  refine dd ?_
  rw [mg]
  refine ⟨fun c2=>?_,fun c2=>?_⟩
  ·rw [bad (by unfold zbG;rw [c1,decide_eq_true (by simp at c2;omega)];rfl)]
   refine dd ?_
   (refine .inr ⟨by simp,?_⟩);(conv=>whnf)
   exact ⟨.inl rfl,_,.refl _,rfl⟩
  refine dd ?_
  refine qa.seq v.zf.length (fun j=>(Cw w:: .ref 0 [] 8 0 0::Bo false::I k:: .ref 1 [] 5 0 0::I j:: .za::.za::.za::.za::.za::.za::.za::.za::.za::.za::.za::.za::.za::.za::.za::.za::.za::.za::.za::.za::.za::.za::.za::.za::.za::.za::.za::.za::.za::.za::.za::.za::.za::.za::.za::.za::.za::.za::.za::.za::.za::.za::.za::.za::.za::.za::.za::.za::.za::.za::.za::.za::.za::.za::.za::.za::.za::.za::.za::.za::.za::.za::.za::[])) (fun j=>[⟨1,48,8,[zQ w],0⟩,⟨1,71,5,[zx v],0⟩]) (fun j=>∀ i,(h:i < v.zf.length)->i < j->zgW v.zf[i]=false) ?_ (by simp) (fun j hj hrj=>?_) (fun hrj=>?_)
  ·exact cC
  ·obtain ⟨g,hxg⟩:∃ g,g=v.zf[j]:=⟨_,rfl⟩
   have hgg:(v.zf.map zw)[j]?= some (zw g):=by rw [List.getElem?_map,List.getElem?_eq_getElem hj,hxg];rfl
   have me:(g.ends.map zo).length=g.ends.length:=List.length_map ..
   have badg:zgW g=true->vI w=true:=fun h=>bad (by
    have:v.zf.any zgW=true:=List.any_eq_true.2 ⟨g,by rw [hxg];exact List.getElem_mem hj,h⟩
    unfold zbG;rw [this,Bool.or_true])
   conv=>whnf
   rw [mg]
   (refine ⟨fun _=>?_,fun h=>absurd h (by simp;omega)⟩);refine dd ?_
   (refine ⟨by omega,_,by rw [toNat_cast];exact hgg,?_⟩);refine dd ?_
   rw [me]
   refine ⟨fun c3=>?_,fun c3=>?_⟩
   ·rw [badg (by simp at c3;simp [zgW];omega)]
    refine dd ?_
    (refine .inr ⟨by simp,?_⟩);(conv=>whnf)
    (try (refine .inr ⟨by simp,?_⟩);(conv=>whnf))
    exact ⟨.inl rfl,_,.refl _,rfl⟩
   refine dd ?_
   refine .inl ⟨rfl,?_,fun i hi hij=>?_⟩
   ·rw [zC (by omega)]
    exact cE 2
   ·by_cases e:i=j
    ·subst e;rw [<- hxg];simp at c3;simp [zgW];omega
    ·exact hrj i hi (by omega)
  ·have h0:v.zf.any zgW=false:=by
    rw [List.any_eq_false]
    intro x hx
    obtain ⟨i,hi,rfl⟩:=List.mem_iff_getElem.1 hx
    simp [hrj i hi hi]
   have no:zbG v=false:=by unfold zbG;rw [c1,h0,decide_eq_false (by simp at c2;omega)];rfl
   (conv=>whnf);(refine ⟨fun h=>absurd h (by simp),fun _=>?_⟩);refine dd ?_;(refine ⟨by simp,?_⟩);(conv=>whnf)
   refine .inl ⟨rfl,?_,fun i hi hij=>?_⟩
   ·rw [zC (by omega)]
    exact cE 1
   ·by_cases e:i=k
    ·subst e;rw [<- hx];exact no
    ·exact hr i hi (by omega)
 ·have h0:w.zd.any zbG=false:=by
   rw [List.any_eq_false]
   intro x hx
   obtain ⟨i,hi,rfl⟩:=List.mem_iff_getElem.1 hx
   simp [hr i hi hi]
  rw [eW,h0]
  conv=>whnf
  rw [m2]
  refine ⟨fun h=>absurd h (by simp),fun _=>?_⟩
  refine dd ?_
  refine ⟨by simp,?_⟩
  conv=>whnf
  exact ⟨.inl rfl,_,.refl _,rfl⟩
end Go.Wor
namespace Go.Wor
open Go.Ab Go.Proofs Go.Hy Go.Gat Go.Nam Go.Hos Go.Con Go.Sna
def zbC (l:Lis):Bool:=decide (1000000 < l.zj)
def zfN (e:En):Bool:=decide (1000000 < e.zj)
def zeD (g:Gr):Bool:=g.ends.any zfN
def zam (v:Ver):Bool:=v.zf.any zeD
def kp (w:Wor):Bool:=decide (1000000 < w.zn) || w.ze.any zbC || w.zd.any zam
theorem zg1 (w:Wor) (hw:Wk w):zb Tryz.prog 14 [] [Cw w] (Bo (!kp w)) []:=by
 have m2:(w.zd.map zx).length=w.zd.length:=List.length_map ..
 have m3:(w.ze.map ql).length=w.ze.length:=List.length_map ..
 have b2:=hw.zd
 have b3:=hw.ze
 refine zb.zp (fn:=Tryz.f14) Tryz.func14 rfl ?_
 conv=>whnf
 refine ⟨fun a1=>?_,fun a1=>?_⟩
 ·have e:kp w=true:=by unfold kp;rw [decide_eq_true (by simp at a1;omega)];rfl
  rw [e]
  refine dd ?_
  (repeat ((first | apply ya | apply yb);refine dd ?_))
  exact ⟨.inl rfl,_,.refl _,rfl⟩
 have e0:kp w=(w.ze.any zbC || w.zd.any zam):=by unfold kp;rw [decide_eq_false (by simp at a1;omega)];rfl
 refine dd ?_
 refine qa.seq w.ze.length (fun k=>(Cw w:: .ref 0 [] 8 0 0::Bo false::I k:: .za::.za::.za::.za::.za::.za::.za::.za::.za::.za::.za::.za::.za::.za::.za::.za::.za::.za::.za::.za::.za::.za::.za::.za::.za::.za::.za::.za::.za::.za::.za::.za::.za::.za::.za::.za::.za::.za::.za::.za::.za::.za::.za::.za::.za::.za::.za::.za::.za::.za::.za::.za::.za::.za::.za::.za::.za::.za::.za::.za::.za::.za::.za::.za::.za::.za::.za::.za::[])) (fun k=>[⟨1,48,8,[zQ w],0⟩]) (fun k=>∀ j,(h:j < w.ze.length)->j < k->zbC w.ze[j]=false) ?_ (by simp) (fun k hk hr=>?_) (fun hr=>?_)
 ·exact cC
 ·obtain ⟨x,hx⟩:∃ x,x=w.ze[k]:=⟨_,rfl⟩
  have hg:(w.ze.map ql)[k]?= some (ql x):=by rw [List.getElem?_map,List.getElem?_eq_getElem hk,hx];rfl
  have bad:zbC x=true->kp w=true:=fun h=>by
   have:w.ze.any zbC=true:=List.any_eq_true.2 ⟨x,by rw [hx];exact List.getElem_mem hk,h⟩
   rw [e0,this];rfl
  conv=>whnf
  rw [m3]
  (refine ⟨fun _=>?_,fun h=>absurd h (by simp;omega)⟩);refine dd ?_
  (refine ⟨by omega,_,by rw [toNat_cast];exact hg,?_⟩);refine dd ?_
  refine ⟨fun c1=>?_,fun c1=>?_⟩
  ·rw [bad (by simp at c1;simp [zbC];omega)]
   refine dd ?_
   (refine .inr ⟨by simp,?_⟩);(conv=>whnf)
   exact ⟨.inl rfl,_,.refl _,rfl⟩
  refine dd ?_
  refine .inl ⟨rfl,?_,fun i hi hij=>?_⟩
  ·rw [zC (by omega)]
   exact cE 1
  ·by_cases e:i=k
   ·subst e;rw [<- hx];simp at c1;simp [zbC];omega
   ·exact hr i hi (by omega)
 have h0:w.ze.any zbC=false:=by
  rw [List.any_eq_false]
  intro x hx
  obtain ⟨i,hi,rfl⟩:=List.mem_iff_getElem.1 hx
  simp [hr i hi hi]
 have e1:kp w=w.zd.any zam:=by rw [e0,h0];rfl
 conv=>whnf
 rw [m3]
 refine ⟨fun h=>absurd h (by simp),fun _=>?_⟩
 refine dd ?_
 refine ⟨by simp,?_⟩
 conv=>whnf
 refine qa.seq w.zd.length (fun k=>(Cw w:: .ref 0 [] 8 0 0::Bo false:: .za::I k:: .za::.za::.za::.za::.za::.za::.za::.za::.za::.za::.za::.za::.za::.za::.za::.za::.za::.za::.za::.za::.za::.za::.za::.za::.za::.za::.za::.za::.za::.za::.za::.za::.za::.za::.za::.za::.za::.za::.za::.za::.za::.za::.za::.za::.za::.za::.za::.za::.za::.za::.za::.za::.za::.za::.za::.za::.za::.za::.za::.za::.za::.za::.za::.za::.za::.za::.za::[])) (fun k=>[⟨1,48,8,[zQ w],0⟩]) (fun k=>∀ j,(h:j < w.zd.length)->j < k->zam w.zd[j]=false) ?_ (by simp) (fun k hk hr2=>?_) (fun hr2=>?_)
 ·exact cC
 ·obtain ⟨v,hx⟩:∃ v,v=w.zd[k]:=⟨_,rfl⟩
  have hv:v ∈ w.zd:=by rw [hx];exact List.getElem_mem hk
  have hg:(w.zd.map zx)[k]?= some (zx v):=by rw [List.getElem?_map,List.getElem?_eq_getElem hk,hx];rfl
  have mg:(v.zf.map zw).length=v.zf.length:=List.length_map ..
  have bad:zam v=true->kp w=true:=fun h=>by
   rw [e1];exact List.any_eq_true.2 ⟨v,hv,h⟩
  have bg:=(hw.zf v hv).1
  conv=>whnf
  rw [m2]
  (refine ⟨fun _=>?_,fun h=>absurd h (by simp;omega)⟩);refine dd ?_
  refine qa.seq v.zf.length (fun j=>(Cw w:: .ref 0 [] 8 0 0::Bo false:: .za::I k::I j:: .za::.za::.za::.za::.za::.za::.za::.za::.za::.za::.za::.za::.za::.za::.za::.za::.za::.za::.za::.za::.za::.za::.za::.za::.za::.za::.za::.za::.za::.za::.za::.za::.za::.za::.za::.za::.za::.za::.za::.za::.za::.za::.za::.za::.za::.za::.za::.za::.za::.za::.za::.za::.za::.za::.za::.za::.za::.za::.za::.za::.za::.za::.za::.za::.za::.za::[])) (fun j=>[⟨1,48,8,[zQ w],0⟩]) (fun j=>∀ i,(h:i < v.zf.length)->i < j->zeD v.zf[i]=false) ?_ (by simp) (fun j hj hrj=>?_) (fun hrj=>?_)
  ·exact cC
  ·obtain ⟨g,hxg⟩:∃ g,g=v.zf[j]:=⟨_,rfl⟩
   have hgm:g ∈ v.zf:=by rw [hxg];exact List.getElem_mem hj
   have hgg:(v.zf.map zw)[j]?= some (zw g):=by rw [List.getElem?_map,List.getElem?_eq_getElem hj,hxg];rfl
   have me:(g.ends.map zo).length=g.ends.length:=List.length_map ..
   have be:=(hw.zf v hv).2 g hgm
   have badg:zeD g=true->kp w=true:=fun h=>bad (List.any_eq_true.2 ⟨g,hgm,h⟩)
   conv=>whnf
   (refine ⟨by omega,_,by rw [toNat_cast];exact hg,?_⟩);refine dd ?_
   rw [mg]
   (refine ⟨fun _=>?_,fun h=>absurd h (by simp;omega)⟩);refine dd ?_
   refine qa.seq g.ends.length (fun n=>(Cw w:: .ref 0 [] 8 0 0::Bo false:: .za::I k::I j::I n:: .za::.za::.za::.za::.za::.za::.za::.za::.za::.za::.za::.za::.za::.za::.za::.za::.za::.za::.za::.za::.za::.za::.za::.za::.za::.za::.za::.za::.za::.za::.za::.za::.za::.za::.za::.za::.za::.za::.za::.za::.za::.za::.za::.za::.za::.za::.za::.za::.za::.za::.za::.za::.za::.za::.za::.za::.za::.za::.za::.za::.za::.za::.za::.za::.za::[])) (fun n=>[⟨1,48,8,[zQ w],0⟩]) (fun n=>∀ i,(h:i < g.ends.length)->i < n->zfN g.ends[i]=false) ?_ (by simp) (fun n hn hrn=>?_) (fun hrn=>?_)
   ·exact cC
   ·obtain ⟨e,hxe⟩:∃ e,e=g.ends[n]:=⟨_,rfl⟩
    have hge:(g.ends.map zo)[n]?= some (zo e):=by rw [List.getElem?_map,List.getElem?_eq_getElem hn,hxe];rfl
    conv=>whnf
    (refine ⟨by omega,_,by rw [toNat_cast];exact hg,?_⟩);refine dd ?_
    (refine ⟨by omega,_,by rw [toNat_cast];exact hgg,?_⟩);refine dd ?_
    rw [me]
    (refine ⟨fun _=>?_,fun h=>absurd h (by simp;omega)⟩);refine dd ?_
    (refine ⟨by omega,_,by rw [toNat_cast];exact hg,?_⟩);refine dd ?_
    (refine ⟨by omega,_,by rw [toNat_cast];exact hgg,?_⟩);refine dd ?_
    (refine ⟨by omega,_,by rw [toNat_cast];exact hge,?_⟩);refine dd ?_
    refine ⟨fun c1=>?_,fun c1=>?_⟩
    ·rw [badg (List.any_eq_true.2 ⟨e,by rw [hxe];exact List.getElem_mem hn,by simp at c1;simp [zfN];omega⟩)]
     refine dd ?_
     (refine .inr ⟨by simp,?_⟩);(conv=>whnf)
     (try (refine .inr ⟨by simp,?_⟩);(conv=>whnf))
     (try (refine .inr ⟨by simp,?_⟩);(conv=>whnf))
     exact ⟨.inl rfl,_,.refl _,rfl⟩
    refine dd ?_
    refine .inl ⟨rfl,?_,fun i hi hij=>?_⟩
    ·rw [zC (by omega)]
     exact cE 1
    ·by_cases e:i=n
     ·subst e;rw [<- hxe];simp at c1;simp [zfN];omega
     ·exact hrn i hi (by omega)
   ·have no:zeD g=false:=by
     unfold zeD
     rw [List.any_eq_false]
     intro x hx
     obtain ⟨i,hi,rfl⟩:=List.mem_iff_getElem.1 hx
     simp [hrn i hi hi]
    conv=>whnf
    (refine ⟨by omega,_,by rw [toNat_cast];exact hg,?_⟩);refine dd ?_
    (refine ⟨by omega,_,by rw [toNat_cast];exact hgg,?_⟩);refine dd ?_
    rw [me]
    refine ⟨fun h=>absurd h (by simp),fun _=>?_⟩
    refine dd ?_
    refine ⟨by simp,?_⟩
    conv=>whnf
    refine .inl ⟨rfl,?_,fun i hi hij=>?_⟩
    ·rw [zC (by omega)]
     exact cE 1
    ·by_cases e:i=j
     ·subst e;rw [<- hxg];exact no
     ·exact hrj i hi (by omega)
  ·have no:zam v=false:=by
    unfold zam
    rw [List.any_eq_false]
    intro x hx
    obtain ⟨i,hi,rfl⟩:=List.mem_iff_getElem.1 hx
    simp [hrj i hi hi]
   conv=>whnf
   (refine ⟨by omega,_,by rw [toNat_cast];exact hg,?_⟩);refine dd ?_
   rw [mg]
   refine ⟨fun h=>absurd h (by simp),fun _=>?_⟩
   refine dd ?_
   refine ⟨by simp,?_⟩
   conv=>whnf
   refine .inl ⟨rfl,?_,fun i hi hij=>?_⟩
   ·rw [zC (by omega)]
    exact cE 1
   ·by_cases e:i=k
    ·subst e;rw [<- hx];exact no
    ·exact hr2 i hi (by omega)
 ·have h1:w.zd.any zam=false:=by
   rw [List.any_eq_false]
   intro x hx
   obtain ⟨i,hi,rfl⟩:=List.mem_iff_getElem.1 hx
   simp [hr2 i hi hi]
  rw [e1,h1]
  conv=>whnf
  rw [m2]
  refine ⟨fun h=>absurd h (by simp),fun _=>?_⟩
  refine dd ?_
  refine ⟨by simp,?_⟩
  conv=>whnf
  exact ⟨.inl rfl,_,.refl _,rfl⟩
end Go.Wor
namespace Go.Wor
open Go.Ab Go.Proofs Go.Hy Go.Gat Go.Nam Go.Hos Go.Con Go.Sna
theorem zpL (l:List Str) (hl:l.length < 4000000000000000000):zb Tryz.prog 68 [] [lT l,lT l] (Bo true) []:=by
 have hlm:(l.map yT).length=l.length:=List.length_map ..
 refine zb.zp (fn:=Tryz.f68) Tryz.func68 rfl ?_
 conv=>whnf
 refine ⟨fun h=>absurd h (by simp),fun _=>?_⟩;refine dd ?_
 refine qa.seq l.length (fun k=>[lT l,lT l,.za,.za,Bo false,I k,.za,.za,.za,.za,.za,.za,.za,.za,.za,.za,.za,.za,.za,.za,.za,.za,.za,.za,.za,.za]) (fun k=>[]) (fun k=>True) ?_ trivial (fun k hk hr=>?_) (fun hr=>?_)
 ·exact cC
 ·have hg:(l.map yT)[k]?= some (yT l[k]):=by rw [List.getElem?_map,List.getElem?_eq_getElem hk];rfl
  conv=>whnf
  rw [hlm]
  (refine ⟨fun _=>?_,fun h=>absurd h (by simp;omega)⟩);refine dd ?_
  refine .inl ⟨⟨false,[],[],[]⟩,by kernel_rfl,?_⟩;(conv=>whnf)
  (refine ⟨by omega,_,by rw [toNat_cast];exact hg,?_⟩);refine dd ?_
  (refine ⟨by omega,_,by rw [toNat_cast];exact hg,?_⟩);refine dd ?_
  (try (refine ⟨by kernel_rfl,?_⟩;refine dd ?_))
  refine ⟨fun h=>absurd h (by simp),fun _=>?_⟩;refine dd ?_
  refine .inl ⟨rfl,?_,trivial⟩
  rw [zC (by omega)]
  exact cE 0
 ·conv=>whnf
  rw [hlm]
  refine ⟨fun h=>absurd h (by simp),fun _=>?_⟩
  refine dd ?_
  refine ⟨by simp,?_⟩
  conv=>whnf
  exact ⟨.inl rfl,_,.refl _,rfl⟩
theorem zpI (l:List Int) (hl:l.length < 4000000000000000000):zb Tryz.prog 33 [] [lI l,lI l] (Bo true) []:=by
 have hlm:(l.map Go.Hy.encI).length=l.length:=List.length_map ..
 refine zb.zp (fn:=Tryz.f33) Tryz.func33 rfl ?_
 conv=>whnf
 refine ⟨fun h=>absurd h (by simp),fun _=>?_⟩;refine dd ?_
 refine qa.seq l.length (fun k=>[lI l,lI l,.za,.za,Bo false,I k,.za,.za,.za,.za,.za,.za,.za,.za,.za,.za,.za,.za,.za,.za,.za,.za,.za,.za,.za,.za]) (fun k=>[]) (fun k=>True) ?_ trivial (fun k hk hr=>?_) (fun hr=>?_)
 ·exact cC
 ·have hg:(l.map Go.Hy.encI)[k]?= some (Go.Hy.encI l[k]):=by rw [List.getElem?_map,List.getElem?_eq_getElem hk];rfl
  conv=>whnf
  rw [hlm]
  (refine ⟨fun _=>?_,fun h=>absurd h (by simp;omega)⟩);refine dd ?_
  refine .inl ⟨⟨false,[],[],[]⟩,by kernel_rfl,?_⟩;(conv=>whnf)
  (refine ⟨by omega,_,by rw [toNat_cast];exact hg,?_⟩);refine dd ?_
  (refine ⟨by omega,_,by rw [toNat_cast];exact hg,?_⟩);refine dd ?_
  (try (refine ⟨by kernel_rfl,?_⟩;refine dd ?_))
  refine ⟨fun h=>absurd h (by simp),fun _=>?_⟩;refine dd ?_
  refine .inl ⟨rfl,?_,trivial⟩
  rw [zC (by omega)]
  exact cE 0
 ·conv=>whnf
  rw [hlm]
  refine ⟨fun h=>absurd h (by simp),fun _=>?_⟩
  refine dd ?_
  refine ⟨by simp,?_⟩
  conv=>whnf
  exact ⟨.inl rfl,_,.refl _,rfl⟩
theorem zpJ (l:List Ret) (hl:l.length < 4000000000000000000):zb Tryz.prog 35 [] [lR l,lR l] (Bo true) []:=by
 have hlm:(l.map jx).length=l.length:=List.length_map ..
 refine zb.zp (fn:=Tryz.f35) Tryz.func35 rfl ?_
 conv=>whnf
 refine ⟨fun h=>absurd h (by simp),fun _=>?_⟩;refine dd ?_
 refine qa.seq l.length (fun k=>[lR l,lR l,.za,.za,Bo false,I k,.za,.za,.za,.za,.za,.za,.za,.za,.za,.za,.za,.za,.za,.za,.za,.za,.za,.za,.za,.za]) (fun k=>[]) (fun k=>True) ?_ trivial (fun k hk hr=>?_) (fun hr=>?_)
 ·exact cC
 ·have hg:(l.map jx)[k]?= some (jx l[k]):=by rw [List.getElem?_map,List.getElem?_eq_getElem hk];rfl
  conv=>whnf
  rw [hlm]
  (refine ⟨fun _=>?_,fun h=>absurd h (by simp;omega)⟩);refine dd ?_
  refine .inl ⟨⟨false,[],[],[]⟩,by kernel_rfl,?_⟩;(conv=>whnf)
  (refine ⟨by omega,_,by rw [toNat_cast];exact hg,?_⟩);refine dd ?_
  (refine ⟨by omega,_,by rw [toNat_cast];exact hg,?_⟩);refine dd ?_
  (try (refine ⟨by kernel_rfl,?_⟩;refine dd ?_))
  refine ⟨fun h=>absurd h (by simp),fun _=>?_⟩;refine dd ?_
  refine .inl ⟨rfl,?_,trivial⟩
  rw [zC (by omega)]
  exact cE 0
 ·conv=>whnf
  rw [hlm]
  refine ⟨fun h=>absurd h (by simp),fun _=>?_⟩
  refine dd ?_
  refine ⟨by simp,?_⟩
  conv=>whnf
  exact ⟨.inl rfl,_,.refl _,rfl⟩
theorem zo2 (l:List (List Int)) (hl:l.length < 4000000000000000000) (hr:∀ r ∈ l,r.length < 4000000000000000000):zb Tryz.prog 34 [] [lCo l,lCo l] (Bo true) []:=by
 have hlm:(l.map zJ).length=l.length:=List.length_map ..
 refine zb.zp (fn:=Tryz.f34) Tryz.func34 rfl ?_
 conv=>whnf
 refine ⟨fun h=>absurd h (by simp),fun _=>?_⟩;refine dd ?_
 refine qa.seq l.length (fun k=>[lCo l,lCo l,.za,.za,Bo false,I k,.za,.za,.za,.za,.za,.za,.za,.za,.za,.za,.za,.za,.za,.za,.za,.za,.za,.za,.za,.za,.za,.za,.za,.za,.za,.za,.za,.za,.za,.za,.za,.za,.za,.za,.za,.za,.za,.za,.za,.za,.za,.za,.za,.za,.za,.za,.za]) (fun k=>[]) (fun k=>True) ?_ trivial (fun k hk _=>?_) (fun _=>?_)
 ·exact cC
 ·obtain ⟨x,hx⟩:∃ x,x=l[k]:=⟨_,rfl⟩
  have hg:(l.map zJ)[k]?= some (zJ x):=by rw [List.getElem?_map,List.getElem?_eq_getElem hk,hx];rfl
  have hx1:=hr x (by rw [hx];exact List.getElem_mem hk)
  have mx:(x.map qY).length=x.length:=List.length_map ..
  conv=>whnf
  rw [hlm]
  (refine ⟨fun _=>?_,fun h=>absurd h (by simp;omega)⟩);refine dd ?_
  refine .inl ⟨⟨false,[],[],[]⟩,by kernel_rfl,?_⟩;(conv=>whnf)
  (refine ⟨by omega,_,by rw [toNat_cast];exact hg,?_⟩);refine dd ?_;(refine ⟨by omega,_,by rw [toNat_cast];exact hg,?_⟩);refine dd ?_;refine ⟨fun h=>absurd h (by simp),fun _=>?_⟩;refine dd ?_
  refine qa.seq x.length (fun j=>[lCo l,lCo l,.za,.za,Bo false,I k,I j,.za,.za,.za,.za,.za,.za,.za,.za,.za,.za,.za,.za,.za,.za,.za,.za,.za,.za,.za,.za,.za,.za,.za,.za,.za,.za,.za,.za,.za,.za,.za,.za,.za,.za,.za,.za,.za,.za,.za,.za,.za,.za,.za,.za,.za,.za]) (fun k=>[]) (fun k=>True) ?_ trivial (fun j hj _=>?_) (fun _=>?_)
  ·exact cC
  ·have hu:(x.map qY)[j]?= some (qY x[j]):=by rw [List.getElem?_map,List.getElem?_eq_getElem hj];rfl
   conv=>whnf
   (refine ⟨by omega,_,by rw [toNat_cast];exact hg,?_⟩);refine dd ?_
   rw [mx]
   (refine ⟨fun _=>?_,fun h=>absurd h (by simp;omega)⟩);refine dd ?_
   refine .inl ⟨⟨false,[],[],[]⟩,by kernel_rfl,?_⟩;(conv=>whnf)
   (refine ⟨by omega,_,by rw [toNat_cast];exact hg,?_⟩);refine dd ?_
   (refine ⟨by omega,_,by rw [toNat_cast];exact hu,?_⟩);refine dd ?_
   (refine ⟨by omega,_,by rw [toNat_cast];exact hg,?_⟩);refine dd ?_
   (refine ⟨by omega,_,by rw [toNat_cast];exact hu,?_⟩);refine dd ?_
   refine ⟨fun h=>absurd h (by simp),fun _=>?_⟩;refine dd ?_
   refine .inl ⟨rfl,?_,trivial⟩
   rw [zC (by omega)]
   exact cE 0
  ·conv=>whnf
   (refine ⟨by omega,_,by rw [toNat_cast];exact hg,?_⟩);refine dd ?_
   rw [mx]
   (refine ⟨fun h=>absurd h (by simp),fun _=>?_⟩);refine dd ?_;(refine ⟨by simp,?_⟩);conv=>whnf
   refine .inl ⟨rfl,?_,trivial⟩
   rw [zC (by omega)]
   exact cE 0
 ·conv=>whnf
  rw [hlm]
  (refine ⟨fun h=>absurd h (by simp),fun _=>?_⟩);refine dd ?_;(refine ⟨by simp,?_⟩);conv=>whnf
  exact ⟨.inl rfl,_,.refl _,rfl⟩
theorem zpG (l:List Clu) (hl:l.length < 4000000000000000000) (hr:∀ x ∈ l,x.zI.length < 4000000000000000000):zb Tryz.prog 69 [] [lC l,lC l] (Bo true) []:=by
 have hlm:(l.map jj).length=l.length:=List.length_map ..
 refine zb.zp (fn:=Tryz.f69) Tryz.func69 rfl ?_
 conv=>whnf
 refine ⟨fun h=>absurd h (by simp),fun _=>?_⟩;refine dd ?_
 refine qa.seq l.length (fun k=>(lC l::lC l:: .za::.za::Bo false::I k:: .za::.za::.za::.za::.za::.za::.za::.za::.za::.za::.za::.za::.za::.za::.za::.za::.za::.za::.za::.za::.za::.za::.za::.za::.za::.za::.za::.za::.za::.za::.za::.za::.za::.za::.za::.za::.za::.za::.za::.za::.za::.za::.za::.za::.za::.za::.za::.za::.za::.za::.za::.za::.za::.za::.za::.za::.za::.za::.za::.za::.za::.za::.za::.za::.za::.za::.za::.za::.za::.za::.za::.za::.za::.za::.za::.za::.za::.za::.za::.za::.za::.za::.za::.za::.za::.za::.za::.za::.za::.za::.za::[])) (fun k=>[]) (fun k=>True) ?_ trivial (fun k hk _=>?_) (fun _=>?_)
 ·exact cC
 ·obtain ⟨x,hx⟩:∃ x,x=l[k]:=⟨_,rfl⟩
  have hg:(l.map jj)[k]?= some (jj x):=by rw [List.getElem?_map,List.getElem?_eq_getElem hk,hx];rfl
  have hx1:=hr x (by rw [hx];exact List.getElem_mem hk)
  have mx:(x.zI.map xZ).length=x.zI.length:=List.length_map ..
  conv=>whnf
  rw [hlm]
  (refine ⟨fun _=>?_,fun h=>absurd h (by simp;omega)⟩);refine dd ?_
  refine .inl ⟨⟨false,[],[],[]⟩,by kernel_rfl,?_⟩;(conv=>whnf)
  (refine ⟨by omega,_,by rw [toNat_cast];exact hg,?_⟩);refine dd ?_;(refine ⟨by omega,_,by rw [toNat_cast];exact hg,?_⟩);refine dd ?_;refine ⟨fun h=>absurd h (by simp),fun _=>?_⟩;refine dd ?_
  (refine ⟨by omega,_,by rw [toNat_cast];exact hg,?_⟩);refine dd ?_;(refine ⟨by omega,_,by rw [toNat_cast];exact hg,?_⟩);refine dd ?_;refine ⟨fun h=>absurd h (by simp),fun _=>?_⟩;refine dd ?_
  (refine ⟨by omega,_,by rw [toNat_cast];exact hg,?_⟩);refine dd ?_;(refine ⟨by omega,_,by rw [toNat_cast];exact hg,?_⟩);refine dd ?_;refine ⟨fun h=>absurd h (by simp),fun _=>?_⟩;refine dd ?_
  (refine ⟨by omega,_,by rw [toNat_cast];exact hg,?_⟩);refine dd ?_;(refine ⟨by omega,_,by rw [toNat_cast];exact hg,?_⟩);refine dd ?_;refine ⟨fun h=>absurd h (by simp),fun _=>?_⟩;refine dd ?_
  refine qa.seq x.zI.length (fun j=>(lC l::lC l:: .za::.za::Bo false::I k::I j:: .za::.za::.za::.za::.za::.za::.za::.za::.za::.za::.za::.za::.za::.za::.za::.za::.za::.za::.za::.za::.za::.za::.za::.za::.za::.za::.za::.za::.za::.za::.za::.za::.za::.za::.za::.za::.za::.za::.za::.za::.za::.za::.za::.za::.za::.za::.za::.za::.za::.za::.za::.za::.za::.za::.za::.za::.za::.za::.za::.za::.za::.za::.za::.za::.za::.za::.za::.za::.za::.za::.za::.za::.za::.za::.za::.za::.za::.za::.za::.za::.za::.za::.za::.za::.za::.za::.za::.za::.za::.za::[])) (fun k=>[]) (fun k=>True) ?_ trivial (fun j hj _=>?_) (fun _=>?_)
  ·exact cC
  ·obtain ⟨b,hb⟩:∃ b,b=x.zI[j]:=⟨_,rfl⟩
   have hu:(x.zI.map xZ)[j]?= some (xZ b):=by rw [List.getElem?_map,List.getElem?_eq_getElem hj,hb];rfl
   clear hb
   cases b
   all_goals
    conv=>whnf
    (refine ⟨by omega,_,by rw [toNat_cast];exact hg,?_⟩);refine dd ?_
    rw [mx]
    (refine ⟨fun _=>?_,fun h=>absurd h (by simp;omega)⟩);refine dd ?_
    refine .inl ⟨⟨false,[],[],[]⟩,by kernel_rfl,?_⟩;(conv=>whnf)
    (refine ⟨by omega,_,by rw [toNat_cast];exact hg,?_⟩);refine dd ?_
    (refine ⟨by omega,_,by rw [toNat_cast];exact hu,?_⟩);refine dd ?_
    (repeat (first | (refine ⟨fun _=>?_,?_⟩;rotate_left 1;(focus (intro h;simp at h;done));(refine dd ?_)) | (refine ⟨?_,fun _=>?_⟩;(focus (intro h;simp at h;done));(refine dd ?_))))
    (refine ⟨by omega,_,by rw [toNat_cast];exact hg,?_⟩);refine dd ?_
    (refine ⟨by omega,_,by rw [toNat_cast];exact hu,?_⟩);refine dd ?_
    (repeat (first | (refine ⟨fun _=>?_,?_⟩;rotate_left 1;(focus (intro h;simp at h;done));(refine dd ?_)) | (refine ⟨?_,fun _=>?_⟩;(focus (intro h;simp at h;done));(refine dd ?_))))
    refine .inl ⟨rfl,?_,trivial⟩
    rw [zC (by omega)]
    exact cE 0
  ·conv=>whnf
   (refine ⟨by omega,_,by rw [toNat_cast];exact hg,?_⟩);refine dd ?_
   rw [mx]
   (refine ⟨fun h=>absurd h (by simp),fun _=>?_⟩);refine dd ?_;(refine ⟨by simp,?_⟩);conv=>whnf
   refine .inl ⟨rfl,?_,trivial⟩
   rw [zC (by omega)]
   exact cE 0
 ·conv=>whnf
  rw [hlm]
  (refine ⟨fun h=>absurd h (by simp),fun _=>?_⟩);refine dd ?_;(refine ⟨by simp,?_⟩);conv=>whnf
  exact ⟨.inl rfl,_,.refl _,rfl⟩
theorem zpK (s:Sna) (h1:s.ze.length < 4000000000000000000) (h2:s.rules.length < 4000000000000000000) (h3:s.zk.length < 4000000000000000000) (h4:∀ x ∈ s.zk,x.zI.length < 4000000000000000000):zb Tryz.prog 47 [] [.agg (zL s),.agg (zL s)] (Bo true) []:=by
 have hlm:(s.rules.map jP).length=s.rules.length:=List.length_map ..
 refine zb.zp (fn:=Tryz.f47) Tryz.func47 rfl ?_
 conv=>whnf
 refine ⟨_,_,(zpL s.ze h1).frame rfl _,?_⟩;refine dd ?_
 (repeat (first | (refine ⟨fun _=>?_,?_⟩;rotate_left 1;(focus (intro h;simp at h;done));(refine dd ?_)) | (refine ⟨?_,fun _=>?_⟩;(focus (intro h;simp at h;done));(refine dd ?_))))
 refine ⟨_,_,(zpG s.zk h3 h4).frame rfl _,?_⟩;refine dd ?_
 (repeat (first | (refine ⟨fun _=>?_,?_⟩;rotate_left 1;(focus (intro h;simp at h;done));(refine dd ?_)) | (refine ⟨?_,fun _=>?_⟩;(focus (intro h;simp at h;done));(refine dd ?_))))
 refine qa.seq s.rules.length (fun k=>[.agg (zL s),.agg (zL s),.ref 0 [] 3 0 0,.ref 1 [] 3 0 0,Bo false,I k,.za,.za,.za,.za,.za,.za,.za,.za,.za,.za,.za,.za,.za,.za,.za,.za,.za,.za,.za,.za,.za,.za,.za,.za,.za,.za,.za,.za,.za,.za,.za,.za,.za,.za,.za,.za,.za,.za,.za,.za,.za]) (fun k=>[⟨1,68,3,[zL s],0⟩,⟨1,68,3,[zL s],0⟩]) (fun k=>True) ?_ trivial (fun k hk _=>?_) (fun _=>?_)
 ·exact cC
 ·have hg:(s.rules.map jP)[k]?= some (jP s.rules[k]):=by rw [List.getElem?_map,List.getElem?_eq_getElem hk];rfl
  conv=>whnf
  rw [hlm]
  (refine ⟨fun _=>?_,fun h=>absurd h (by simp;omega)⟩);refine dd ?_
  refine .inl ⟨⟨false,[],[],[]⟩,by kernel_rfl,?_⟩;(conv=>whnf)
  (refine ⟨by omega,_,by rw [toNat_cast];exact hg,?_⟩);refine dd ?_
  (refine ⟨by omega,_,by rw [toNat_cast];exact hg,?_⟩);refine dd ?_
  refine ⟨by kernel_rfl,?_⟩
  refine dd ?_
  refine ⟨fun h=>absurd h (by simp),fun _=>?_⟩;refine dd ?_
  refine .inl ⟨rfl,?_,trivial⟩
  rw [zC (by omega)]
  exact cE 2
 ·conv=>whnf
  rw [hlm]
  (refine ⟨fun h=>absurd h (by simp),fun _=>?_⟩);refine dd ?_;(refine ⟨by simp,?_⟩);conv=>whnf
  exact ⟨.inl rfl,_,.refl _,rfl⟩
end Go.Wor
namespace Go.Wor
open Go.Ab Go.Proofs Go.Hy Go.Gat Go.Nam Go.Hos Go.Con Go.Sna
theorem zpH {a:En} (ha:a.ok):zb Tryz.prog 48 [] [.agg (zo a),.agg (zo a)] (Bo true) []:=by
 have h:=Go.Slp.zhK a a ha ha
 rw [show Go.Slp.wI a a=true from by simp [Go.Slp.wI]] at h
 exact h
structure WkS (s:Sna):Prop where
 ze:s.ze.length < 4000000000000000000
 rules:s.rules.length < 4000000000000000000
 zk:s.zk.length < 4000000000000000000
 zI:∀ x ∈ s.zk,x.zI.length < 4000000000000000000
theorem zpM (v:Ver) (hs:WkS v.snap) (hl:v.zf.length < 4000000000000000000) (hg:∀ g ∈ v.zf,g.ends.length < 4000000000000000000∧∀ e ∈ g.ends,e.ok):zb Tryz.prog 36 [] [Cv v,Cv v] (Bo true) []:=by
 have hlm:(v.zf.map zw).length=v.zf.length:=List.length_map ..
 refine zb.zp (fn:=Tryz.f36) Tryz.func36 rfl ?_
 conv=>whnf
 refine ⟨_,_,(zpK v.snap hs.ze hs.rules hs.zk hs.zI).frame rfl _,?_⟩;refine dd ?_
 (repeat (first | (refine ⟨fun _=>?_,?_⟩;rotate_left 1;(focus (intro h;simp at h;done));(refine dd ?_)) | (refine ⟨?_,fun _=>?_⟩;(focus (intro h;simp at h;done));(refine dd ?_))))
 refine ⟨fun hf=>?_,fun hf=>?_⟩
 all_goals
  refine dd ?_
  (first | (refine ⟨fun _=>?_,fun h=>absurd ((hf).symm.trans h:true=false) (by decide)⟩;refine dd ?_) | (refine ⟨fun h=>absurd ((hf).symm.trans h:false=true) (by decide),fun _=>?_⟩;refine dd ?_))
  (repeat (first | (refine ⟨fun _=>?_,?_⟩;rotate_left 1;(focus (intro h;simp at h;done));(refine dd ?_)) | (refine ⟨?_,fun _=>?_⟩;(focus (intro h;simp at h;done));(refine dd ?_))))
  refine qa.seq v.zf.length (fun k=>(Cv v::Cv v:: .ref 0 [] 5 0 0:: .ref 1 [] 5 0 0::Bo false::I k:: .za::.za::.za::.za::.za::.za::.za::.za::.za::.za::.za::.za::.za::.za::.za::.za::.za::.za::.za::.za::.za::.za::.za::.za::.za::.za::.za::.za::.za::.za::.za::.za::.za::.za::.za::.za::.za::.za::.za::.za::.za::.za::.za::.za::.za::.za::.za::.za::.za::.za::.za::.za::.za::.za::.za::.za::.za::.za::.za::.za::.za::.za::.za::.za::.za::.za::.za::.za::.za::.za::.za::.za::.za::.za::.za::.za::.za::.za::.za::.za::.za::.za::.za::.za::.za::.za::.za::.za::.za::.za::.za::[])) (fun k=>[⟨1,71,5,[zx v],0⟩,⟨1,71,5,[zx v],0⟩]) (fun k=>True) ?_ trivial (fun k hk _=>?_) (fun _=>?_)
  ·exact cC
  ·obtain ⟨g,hx⟩:∃ g,g=v.zf[k]:=⟨_,rfl⟩
   have hgm:g ∈ v.zf:=by rw [hx];exact List.getElem_mem hk
   have hgg:(v.zf.map zw)[k]?= some (zw g):=by rw [List.getElem?_map,List.getElem?_eq_getElem hk,hx];rfl
   have hx1:=(hg g hgm).1
   have mx:(g.ends.map zo).length=g.ends.length:=List.length_map ..
   conv=>whnf
   rw [hlm]
   (refine ⟨fun _=>?_,fun h=>absurd h (by simp;omega)⟩);refine dd ?_
   refine .inl ⟨⟨false,[],[],[]⟩,by kernel_rfl,?_⟩;(conv=>whnf)
   (refine ⟨by omega,_,by rw [toNat_cast];exact hgg,?_⟩);refine dd ?_;(refine ⟨by omega,_,by rw [toNat_cast];exact hgg,?_⟩);refine dd ?_;refine ⟨fun h=>absurd h (by simp),fun _=>?_⟩;refine dd ?_
   (refine ⟨by omega,_,by rw [toNat_cast];exact hgg,?_⟩);refine dd ?_;(refine ⟨by omega,_,by rw [toNat_cast];exact hgg,?_⟩);refine dd ?_;refine ⟨fun h=>absurd h (by simp),fun _=>?_⟩;refine dd ?_
   refine qa.seq g.ends.length (fun j=>(Cv v::Cv v:: .ref 0 [] 5 0 0:: .ref 1 [] 5 0 0::Bo false::I k::I j:: .za::.za::.za::.za::.za::.za::.za::.za::.za::.za::.za::.za::.za::.za::.za::.za::.za::.za::.za::.za::.za::.za::.za::.za::.za::.za::.za::.za::.za::.za::.za::.za::.za::.za::.za::.za::.za::.za::.za::.za::.za::.za::.za::.za::.za::.za::.za::.za::.za::.za::.za::.za::.za::.za::.za::.za::.za::.za::.za::.za::.za::.za::.za::.za::.za::.za::.za::.za::.za::.za::.za::.za::.za::.za::.za::.za::.za::.za::.za::.za::.za::.za::.za::.za::.za::.za::.za::.za::.za::.za::[])) (fun k=>[⟨1,71,5,[zx v],0⟩,⟨1,71,5,[zx v],0⟩]) (fun k=>True) ?_ trivial (fun j hj _=>?_) (fun _=>?_)
   ·exact cC
   ·obtain ⟨e,he⟩:∃ e,e=g.ends[j]:=⟨_,rfl⟩
    have hem:e ∈ g.ends:=by rw [he];exact List.getElem_mem hj
    have hu:(g.ends.map zo)[j]?= some (zo e):=by rw [List.getElem?_map,List.getElem?_eq_getElem hj,he];rfl
    conv=>whnf
    (refine ⟨by omega,_,by rw [toNat_cast];exact hgg,?_⟩);refine dd ?_
    rw [mx]
    (refine ⟨fun _=>?_,fun h=>absurd h (by simp;omega)⟩);refine dd ?_
    refine .inl ⟨⟨true,[],[],[]⟩,by kernel_rfl,?_⟩;(conv=>whnf)
    (refine ⟨by omega,_,by rw [toNat_cast];exact hgg,?_⟩);refine dd ?_
    (refine ⟨by omega,_,by rw [toNat_cast];exact hu,?_⟩);refine dd ?_
    (refine ⟨by omega,_,by rw [toNat_cast];exact hgg,?_⟩);refine dd ?_
    (refine ⟨by omega,_,by rw [toNat_cast];exact hu,?_⟩);refine dd ?_
    refine ⟨_,_,(zpH ((hg g hgm).2 e hem)).frame rfl _,?_⟩;refine dd ?_
    (repeat (first | (refine ⟨fun _=>?_,?_⟩;rotate_left 1;(focus (intro h;simp at h;done));(refine dd ?_)) | (refine ⟨?_,fun _=>?_⟩;(focus (intro h;simp at h;done));(refine dd ?_))))
    refine .inl ⟨rfl,?_,trivial⟩
    rw [zC (by omega)]
    exact cE 2
   ·conv=>whnf
    (refine ⟨by omega,_,by rw [toNat_cast];exact hgg,?_⟩);refine dd ?_
    rw [mx]
    (refine ⟨fun h=>absurd h (by simp),fun _=>?_⟩);refine dd ?_;(refine ⟨by simp,?_⟩);conv=>whnf
    refine .inl ⟨rfl,?_,trivial⟩
    rw [zC (by omega)]
    exact cE 2
  ·conv=>whnf
   rw [hlm]
   (refine ⟨fun h=>absurd h (by simp),fun _=>?_⟩);refine dd ?_;(refine ⟨by simp,?_⟩);conv=>whnf
   exact ⟨.inl rfl,_,.refl _,rfl⟩
structure WkW (w:Wor):Prop where
 wk:Wk w
 zhR:∀ v ∈ w.zd,WkS v.snap
 ends : ∀ v ∈ w.zd, ∀ g ∈ v.zf, ∀ e ∈ g.ends, e.ok
 counts:∀ r ∈ w.counts,r.length < 4000000000000000000
theorem zoc (w:Wor) (hw:WkW w):zb Tryz.prog 18 [] [Cw w,Cw w] (Bo true) []:=by
 have m2:(w.zd.map zx).length=w.zd.length:=List.length_map ..
 have m3:(w.ze.map ql).length=w.ze.length:=List.length_map ..
 have b2:=hw.wk.zd
 have b3:=hw.wk.ze
 refine zb.zp (fn:=Tryz.f18) Tryz.func18 rfl ?_
 conv=>whnf
 (repeat (first | (refine ⟨fun _=>?_,?_⟩;rotate_left 1;(focus (intro h;simp at h;done));(refine dd ?_)) | (refine ⟨?_,fun _=>?_⟩;(focus (intro h;simp at h;done));(refine dd ?_))))
 refine ⟨_,_,(zpI w.pins hw.wk.pins).frame rfl _,?_⟩;refine dd ?_
 (repeat (first | (refine ⟨fun _=>?_,?_⟩;rotate_left 1;(focus (intro h;simp at h;done));(refine dd ?_)) | (refine ⟨?_,fun _=>?_⟩;(focus (intro h;simp at h;done));(refine dd ?_))))
 refine ⟨_,_,(zo2 w.counts hw.wk.counts hw.counts).frame rfl _,?_⟩;refine dd ?_
 (repeat (first | (refine ⟨fun _=>?_,?_⟩;rotate_left 1;(focus (intro h;simp at h;done));(refine dd ?_)) | (refine ⟨?_,fun _=>?_⟩;(focus (intro h;simp at h;done));(refine dd ?_))))
 refine ⟨_,_,(zpJ w.zm hw.wk.zm).frame rfl _,?_⟩;refine dd ?_
 (repeat (first | (refine ⟨fun _=>?_,?_⟩;rotate_left 1;(focus (intro h;simp at h;done));(refine dd ?_)) | (refine ⟨?_,fun _=>?_⟩;(focus (intro h;simp at h;done));(refine dd ?_))))
 refine qa.seq w.zd.length (fun k=>(Cw w::Cw w:: .ref 0 [] 8 0 0:: .ref 1 [] 8 0 0::Bo false::I k:: .za::.za::.za::.za::.za::.za::.za::.za::.za::.za::.za::.za::.za::.za::.za::.za::.za::.za::.za::.za::.za::.za::.za::.za::.za::.za::.za::.za::.za::.za::.za::.za::.za::.za::.za::.za::.za::.za::.za::.za::.za::.za::.za::.za::.za::.za::.za::.za::.za::.za::.za::.za::.za::.za::.za::.za::.za::.za::.za::.za::.za::.za::.za::.za::.za::.za::.za::.za::.za::.za::.za::.za::.za::.za::.za::.za::.za::.za::.za::.za::.za::.za::.za::.za::.za::.za::.za::.za::.za::.za::.za::.za::.za::.za::.za::.za::.za::.za::.za::[])) (fun k=>[⟨1,48,8,[zQ w],0⟩,⟨1,48,8,[zQ w],0⟩]) (fun k=>True) ?_ trivial (fun k hk _=>?_) (fun _=>?_)
 ·exact cC
 ·obtain ⟨v,hx⟩:∃ v,v=w.zd[k]:=⟨_,rfl⟩
  have hv:v ∈ w.zd:=by rw [hx];exact List.getElem_mem hk
  have hg:(w.zd.map zx)[k]?= some (zx v):=by rw [List.getElem?_map,List.getElem?_eq_getElem hk,hx];rfl
  conv=>whnf
  rw [m2]
  (refine ⟨fun _=>?_,fun h=>absurd h (by simp;omega)⟩);refine dd ?_
  refine .inl ⟨⟨true,[],[],[]⟩,by kernel_rfl,?_⟩;(conv=>whnf)
  (refine ⟨by omega,_,by rw [toNat_cast];exact hg,?_⟩);refine dd ?_
  (refine ⟨by omega,_,by rw [toNat_cast];exact hg,?_⟩);refine dd ?_
  refine ⟨_,_,(zpM v (hw.zhR v hv) (hw.wk.zf v hv).1 (fun g hg=>⟨(hw.wk.zf v hv).2 g hg,hw.ends v hv g hg⟩)).frame rfl _,?_⟩;refine dd ?_
  (repeat (first | (refine ⟨fun _=>?_,?_⟩;rotate_left 1;(focus (intro h;simp at h;done));(refine dd ?_)) | (refine ⟨?_,fun _=>?_⟩;(focus (intro h;simp at h;done));(refine dd ?_))))
  refine .inl ⟨rfl,?_,trivial⟩
  rw [zC (by omega)]
  exact cE 2
 conv=>whnf
 rw [m2]
 (refine ⟨fun h=>absurd h (by simp),fun _=>?_⟩);refine dd ?_;(refine ⟨by simp,?_⟩);conv=>whnf
 refine qa.seq w.ze.length (fun k=>(Cw w::Cw w:: .ref 0 [] 8 0 0:: .ref 1 [] 8 0 0::Bo false:: .za::I k:: .za::.za::.za::.za::.za::.za::.za::.za::.za::.za::.za::.za::.za::.za::.za::.za::.za::.za::.za::.za::.za::.za::.za::.za::.za::.za::.za::.za::.za::.za::.za::.za::.za::.za::.za::.za::.za::.za::.za::.za::.za::.za::.za::.za::.za::.za::.za::.za::.za::.za::.za::.za::.za::.za::.za::.za::.za::.za::.za::.za::.za::.za::.za::.za::.za::.za::.za::.za::.za::.za::.za::.za::.za::.za::.za::.za::.za::.za::.za::.za::.za::.za::.za::.za::.za::.za::.za::.za::.za::.za::.za::.za::.za::.za::.za::.za::.za::.za::[])) (fun k=>[⟨1,48,8,[zQ w],0⟩,⟨1,48,8,[zQ w],0⟩]) (fun k=>True) ?_ trivial (fun k hk _=>?_) (fun _=>?_)
 ·exact cC
 ·obtain ⟨x,hx⟩:∃ x,x=w.ze[k]:=⟨_,rfl⟩
  have hg:(w.ze.map ql)[k]?= some (ql x):=by rw [List.getElem?_map,List.getElem?_eq_getElem hk,hx];rfl
  conv=>whnf
  rw [m3]
  (refine ⟨fun _=>?_,fun h=>absurd h (by simp;omega)⟩);refine dd ?_
  refine .inl ⟨⟨false,[],[],[]⟩,by kernel_rfl,?_⟩;(conv=>whnf)
  (refine ⟨by omega,_,by rw [toNat_cast];exact hg,?_⟩);refine dd ?_
  (refine ⟨by omega,_,by rw [toNat_cast];exact hg,?_⟩);refine dd ?_
  refine ⟨by kernel_rfl,?_⟩
  refine dd ?_
  refine ⟨fun h=>absurd h (by simp),fun _=>?_⟩;refine dd ?_
  refine .inl ⟨rfl,?_,trivial⟩
  rw [zC (by omega)]
  exact cE 2
 ·conv=>whnf
  rw [m3]
  (refine ⟨fun h=>absurd h (by simp),fun _=>?_⟩);refine dd ?_;(refine ⟨by simp,?_⟩);conv=>whnf
  exact ⟨.inl rfl,_,.refl _,rfl⟩
end Go.Wor
namespace Go.Hy
open Go.Ab Go.Proofs
theorem zk6:zH Tryz.prog 77 ql Lis.ok:=
 zH.map (zH.struct Tryz.underlying77 (by kernel_rfl) (zT.cons rfl (xn) (zT.cons rfl (zH.bool Tryz.underlying4) (zT.cons rfl (zH.int Tryz.underlying3) (zT.cons rfl (zH.bool Tryz.underlying4) (zT.nil _)))))) (fun x=>⟨x.1,x.2.1,x.2.2.1,x.2.2.2.1⟩) fun x h=>⟨⟨h.1,wf_i64 h.2.2.1⟩,rfl⟩
theorem zjj:zH Tryz.prog 44 (fun l:List Lis=>[lL l]) (fun l=>(∀ x ∈ l,x.ok)∧l.length * 40<=reachBytes):=
 zH.slice (sz:=4) (by_:=40) Tryz.underlying44 (by kernel_rfl) (by kernel_rfl) (by decide) (fun _=>rfl) zk6
theorem zk8:zH Tryz.prog 96 jx Ret.ok:=
 zH.map (zH.struct Tryz.underlying96 (by kernel_rfl) (zT.cons rfl (zH.int Tryz.underlying3) (zT.cons rfl (zH.int Tryz.underlying3) (zT.cons rfl (zH.bool Tryz.underlying4) (zT.nil _))))) (fun x=>⟨x.1,x.2.1,x.2.2.1⟩) fun x h=>⟨⟨wf_i64 h.1,wf_i64 h.2.1⟩,rfl⟩
theorem zjk:zH Tryz.prog 46 (fun l:List Ret=>[lR l]) (fun l=>(∀ x ∈ l,x.ok)∧l.length * 24<=reachBytes):=
 zH.slice (sz:=3) (by_:=24) Tryz.underlying46 (by kernel_rfl) (by kernel_rfl) (by decide) (fun _=>rfl) zk8
theorem zmy:zH Tryz.prog 79 zo En.ok:=
 zH.map (zH.struct Tryz.underlying79 (by kernel_rfl) (zT.cons rfl (zH.int Tryz.underlying32) (zT.cons rfl zj5 (zT.cons rfl (zH.int Tryz.underlying3) (zT.nil _))))) (fun x=>⟨x.1,x.2.1,x.2.2.1⟩) fun x h=>⟨⟨wf_u64 h.1,⟨fun y hy=>wf_i64 (h.2.1.1 y hy),by have:=h.2.1.2;unfold reachBytes at this;show x.2.1.length<=_;omega⟩,wf_i64 h.2.2.1⟩,rfl⟩
theorem zld:zH Tryz.prog 73 (fun l:List En=>[lE l]) (fun l=>(∀ x ∈ l,x.ok)∧l.length * 40<=reachBytes):=
 zH.slice (sz:=3) (by_:=40) Tryz.underlying73 (by kernel_rfl) (by kernel_rfl) (by decide) (fun _=>rfl) zmy
def Gr.okW (g:Gr):Prop:=u64 g.zu∧(∀ e ∈ g.ends,e.ok)∧g.ends.length * 40<=reachBytes
theorem zmz:zH Tryz.prog 75 zw Gr.okW:=
 zH.map (zH.struct Tryz.underlying75 (by kernel_rfl) (zT.cons rfl (zH.int Tryz.underlying32) (zT.cons rfl zld (zT.nil _)))) (fun x=>⟨x.1,x.2.1⟩) fun x h=>⟨⟨wf_u64 h.1,h.2.1⟩,rfl⟩
theorem zle:zH Tryz.prog 69 (fun l:List Gr=>[lG l]) (fun l=>(∀ x ∈ l,x.okW)∧l.length * 32<=reachBytes):=
 zH.slice (sz:=2) (by_:=32) Tryz.underlying69 (by kernel_rfl) (by kernel_rfl) (by decide) (fun _=>rfl) zmz
def Rul.okW (r:Rul):Prop:=r.host.length<=reachBytes∧r.path.length<=reachBytes
theorem zk9:zH Tryz.prog 105 jP Rul.okW:=
 zH.map (zH.struct Tryz.underlying105 (by kernel_rfl) (zT.cons rfl (zH.int Tryz.underlying3) (zT.cons rfl (xn) (zT.cons rfl (xn) (zT.cons rfl (zH.int Tryz.underlying3) (zT.nil _)))))) (fun x=>⟨x.1,x.2.1,x.2.2.1,x.2.2.2.1⟩) fun x h=>⟨⟨h.2.1,h.2.2.1⟩,rfl⟩
theorem zjl:zH Tryz.prog 66 (fun l:List Rul=>[vx l]) (fun l=>(∀ x ∈ l,x.okW)∧l.length * 48<=reachBytes):=
 zH.slice (sz:=4) (by_:=48) Tryz.underlying66 (by kernel_rfl) (by kernel_rfl) (by decide) (fun _=>rfl) zk9
def Sna.okW (s:Sna):Prop:=((∀ x ∈ s.ze,ze6 x)∧s.ze.length * 16<=reachBytes)∧((∀ r ∈ s.rules,r.okW)∧s.rules.length * 48<=reachBytes)∧((∀ x ∈ s.zk,x.ok)∧s.zk.length * 56<=reachBytes)
theorem zla:zH Tryz.prog 68 zL Sna.okW:=
 zH.map (zH.struct Tryz.underlying68 (by kernel_rfl) (zT.cons rfl zj6 (zT.cons rfl zjl (zT.cons rfl zj4 (zT.nil _))))) (fun x=>⟨x.1,x.2.1,x.2.2.1⟩) fun x h=>⟨⟨h.1,h.2.1,h.2.2.1⟩,rfl⟩
def Ver.okW (v:Ver):Prop:=v.snap.okW∧((∀ g ∈ v.zf,g.okW)∧v.zf.length * 32<=reachBytes)
theorem zlb:zH Tryz.prog 71 zx Ver.okW:=
 zH.map (zH.struct Tryz.underlying71 (by kernel_rfl) (zT.cons rfl zla (zT.cons rfl zle (zT.cons rfl (zH.bool Tryz.underlying4) (zT.nil _))))) (fun x=>⟨x.1,x.2.1,x.2.2.1⟩) fun x h=>⟨⟨h.1,h.2.1⟩,by simp [zx]⟩
theorem zjm:zH Tryz.prog 43 (fun l:List Ver=>[lV l]) (fun l=>(∀ x ∈ l,x.okW)∧l.length * 104<=reachBytes):=
 zH.slice (sz:=5) (by_:=104) Tryz.underlying43 (by kernel_rfl) (by kernel_rfl) (by decide) (fun _=>rfl) zlb
theorem zmC:zH Tryz.prog 108 (fun l:List Int=>[lU l]) (fun l=>(∀ x ∈ l,(Lit.int .u64 x).wf=true)∧l.length * 8<=reachBytes):=
 zH.slice (sz:=1) (by_:=8) Tryz.underlying108 (by kernel_rfl) (by kernel_rfl) (by decide) (fun _=>rfl) (zH.int Tryz.underlying32)
theorem zlc:zH Tryz.prog 45 (fun l:List (List Int)=>[lCo l]) (fun l=>(∀ r ∈ l,(∀ x ∈ r,(Lit.int .u64 x).wf=true)∧r.length * 8<=reachBytes)∧l.length * 24<=reachBytes):=
 zH.slice (sz:=1) (by_:=24) Tryz.underlying45 (by kernel_rfl) (by kernel_rfl) (by decide) (fun _=>rfl) zmC
structure Wor.okW (w:Wor):Prop where
 pins:w.pins.length * 8<=reachBytes
 zd:(∀ v ∈ w.zd,v.okW)∧w.zd.length * 104<=reachBytes
 ze:(∀ x ∈ w.ze,x.ok)∧w.ze.length * 40<=reachBytes
 counts:(∀ r ∈ w.counts,(∀ x ∈ r,(Lit.int .u64 x).wf=true)∧r.length * 8<=reachBytes)∧w.counts.length * 24<=reachBytes
 zm:w.zm.length * 24<=reachBytes
theorem zmB:zH Tryz.prog 48 zQ Wor.okW:=
 zH.map (zH.struct Tryz.underlying48 (by kernel_rfl) (zT.cons rfl (zH.int Tryz.underlying3) (zT.cons rfl (zH.int Tryz.underlying3) (zT.cons rfl (zH.int Tryz.underlying3) (zT.cons rfl zj5 (zT.cons rfl zjm (zT.cons rfl zjj (zT.cons rfl zlc (zT.cons rfl zjk (zT.nil _))))))))))
  (fun x=>⟨x.1,x.2.1,x.2.2.1,x.2.2.2.1,x.2.2.2.2.1,x.2.2.2.2.2.1,x.2.2.2.2.2.2.1,x.2.2.2.2.2.2.2.1⟩) fun x h=>⟨⟨h.2.2.2.1.2,h.2.2.2.2.1,h.2.2.2.2.2.1,h.2.2.2.2.2.2.1,h.2.2.2.2.2.2.2.1.2⟩,rfl⟩
theorem arg_Wor:kq Tryz.prog 48 (fun x=>.agg (zQ x)) Wor.okW:=zH.zfa Tryz.underlying48 zmB
def Opn.okW (o:Opn):Prop:=o.ok∧i64 o.d0∧i64 o.d1
theorem zk7:zH Tryz.prog 28 zg8 Opn.okW:=
 zH.map (zH.struct Tryz.underlying28 (by kernel_rfl) (zT.cons rfl (zH.int Tryz.underlying3) (zT.cons rfl (xn) (zT.cons rfl (xn) (zT.cons rfl (xn) (zT.cons rfl (zH.int Tryz.underlying3) (zT.cons rfl (zH.int Tryz.underlying3) (zT.cons rfl (zH.int Tryz.underlying3) (zT.cons rfl zmw (zT.nil _)))))))))) (fun x=>⟨x.1,x.2.1,x.2.2.1,x.2.2.2.1,x.2.2.2.2.1,x.2.2.2.2.2.1,x.2.2.2.2.2.2.1,x.2.2.2.2.2.2.2.1⟩) fun x h=>⟨⟨⟨h.2.1,h.2.2.1,h.2.2.2.1,h.2.2.2.2.2.2.2.1⟩,wf_i64 h.2.2.2.2.1,wf_i64 h.2.2.2.2.2.1⟩,by simp [zg8]⟩
theorem arg_OpnW:kq Tryz.prog 28 (fun x=>.agg (zg8 x)) Opn.okW:=zH.zfa Tryz.underlying28 zk7
end Go.Hy
