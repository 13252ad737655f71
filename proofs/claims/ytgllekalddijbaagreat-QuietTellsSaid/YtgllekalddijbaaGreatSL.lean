import Derived.Test.YtgllekalddijbaaGreatSK
import Derived.Test.YtgllekalddijbaaGreatSO
set_option linter.unusedVariables false
set_option linter.unusedSimpArgs false
set_option linter.unusedSectionVars false
set_option maxRecDepth 100000
set_option maxHeartbeats 4000000
namespace Go.Wor
open Go.Ab Go.Proofs Go.Hy Go.Gat Go.Nam Go.Hos Go.Con Go.Sna
def kU (c:List (List Int)):Bool:=decide (50 < c.length) || c.any fun r=>decide (50 < r.length)
theorem zey (c:List (List Int)) (h1:c.length < 4000000000000000000):zb Tryz.prog 47 [] [lCo c] (Bo (kU c)) []:=by
 have m1:(c.map jP).length=c.length:=List.length_map ..
 refine zb.zl (fn:=Tryz.f47) Tryz.func47 rfl ?_
 conv=>whnf
 refine zE.seq (if c.length<=50 then c.length else 0) (fun k=>[lCo c,.za,Bo false,I k,.za,.za,.za,.za,.za,.za,.za,.za,.za,.za,.za,.za,.za,.za,.za,.za,.za,.za,.za,.za]) (fun k=>[]) (fun k=>∀ j,(h:j < c.length)->j < k->decide (50 < c[j].length)=false) ?_ (by simp) (fun k hk hr=>?_) (fun hr=>?_)
 ·exact cC
 ·have hk2:c.length<=50:=by split at hk <;> omega
  rw [if_pos hk2] at hk
  obtain ⟨x,hx⟩:∃ x,x=c[k]:=⟨_,rfl⟩
  have hg:(c.map jP)[k]?= some (jP x):=by rw [List.getElem?_map,List.getElem?_eq_getElem hk,hx];rfl
  have mh:(x.map zle).length=x.length:=List.length_map ..
  have bad:decide (50 < x.length)=true->kU c=true:=fun h=>by
   have:(c.any fun r=>decide (50 < r.length))=true:=List.any_eq_true.2 ⟨x,by rw [hx];exact List.getElem_mem hk,h⟩
   simp [kU,this]
  conv=>whnf
  rw [m1]
  refine ⟨fun a1=>?_,fun a1=>?_⟩
  rotate_left
  ·exact absurd a1 (by simp;omega)
  refine dd ?_
  rw [m1]
  refine ⟨fun a2=>?_,fun a2=>?_⟩
  rotate_left
  ·exact absurd a2 (by simp;omega)
  refine dd ?_
  (repeat ((first | apply ya | apply yb);refine dd ?_))
  (refine ⟨by omega,_,by rw [toNat_cast];exact hg,?_⟩);refine dd ?_
  rw [mh]
  refine ⟨fun a3=>?_,fun a3=>?_⟩
  ·rw [bad (by simp at a3 ⊢;omega)]
   refine dd ?_
   (refine .inr ⟨by simp,?_⟩);(conv=>whnf)
   exact ⟨.inl rfl,_,.refl _,rfl⟩
  refine dd ?_
  refine .inl ⟨rfl,?_,fun j hj hjk=>?_⟩
  ·rw [zn (by omega)]
   exact cE 0
  ·by_cases e:j=k
   ·subst e;rw [<- hx];simp at a3 ⊢;omega
   ·exact hr j hj (by omega)
 ·have fin:kU c=decide ((c.length:Int) > 50):=by
   by_cases hl:c.length<=50
   ·rw [if_pos hl] at hr
    have h0:(c.any fun r=>decide (50 < r.length))=false:=by
     rw [List.any_eq_false]
     intro x hx
     obtain ⟨i,hi,rfl⟩:=List.mem_iff_getElem.1 hx
     simpa using hr i hi hi
    unfold kU
    rw [h0,Bool.or_false]
    exact decide_eq_decide.2 (by omega)
   ·unfold kU
    rw [decide_eq_true (by omega),decide_eq_true (by omega)];rfl
  rw [fin]
  conv=>whnf
  rw [m1]
  refine ⟨fun a1=>?_,fun a1=>?_⟩
  ·have hl:¬c.length<=50:=fun hl=>by rw [if_pos hl] at a1;simp at a1
   refine dd ?_
   rw [m1]
   refine ⟨fun a2=>absurd a2 (by simp;omega),fun _=>?_⟩
   refine dd ?_
   refine ⟨by simp,?_⟩
   conv=>whnf
   rw [m1]
   refine ⟨fun a5=>?_,fun a5=>?_⟩
   all_goals
    rw [a5]
    refine dd ?_
    exact ⟨.inl rfl,_,.refl _,rfl⟩
  ·refine dd ?_
   refine ⟨by simp,?_⟩
   conv=>whnf
   rw [m1]
   refine ⟨fun a5=>?_,fun a5=>?_⟩
   all_goals
    rw [a5]
    refine dd ?_
    exact ⟨.inl rfl,_,.refl _,rfl⟩
def ruB (r:Rul):Bool:=decide (100 < r.host.length) || decide (100 < r.path.length)
def zax (c:List Rul):Bool:=decide (50 < c.length) || c.any ruB
theorem zeB (c:List Rul) (h1:c.length < 4000000000000000000):zb Tryz.prog 100 [] [zh3 c] (Bo (zax c)) []:=by
 have m1:(c.map zaG).length=c.length:=List.length_map ..
 refine zb.zl (fn:=Tryz.f100) Tryz.func100 rfl ?_
 conv=>whnf
 refine zE.seq (if c.length<=50 then c.length else 0) (fun k=>[zh3 c,.za,Bo false,I k,.za,.za,.za,.za,.za,.za,.za,.za,.za,.za,.za,.za,.za,.za,.za,.za,.za,.za,.za,.za,.za,.za,.za,.za,.za,.za,.za,.za,.za,.za]) (fun k=>[]) (fun k=>∀ j,(h:j < c.length)->j < k->ruB c[j]=false) ?_ (by simp) (fun k hk hr=>?_) (fun hr=>?_)
 ·exact cC
 ·have hk2:c.length<=50:=by split at hk <;> omega
  rw [if_pos hk2] at hk
  obtain ⟨x,hx⟩:∃ x,x=c[k]:=⟨_,rfl⟩
  have hg:(c.map zaG)[k]?= some (zaG x):=by rw [List.getElem?_map,List.getElem?_eq_getElem hk,hx];rfl
  have bad:ruB x=true->zax c=true:=fun h=>by
   have:c.any ruB=true:=List.any_eq_true.2 ⟨x,by rw [hx];exact List.getElem_mem hk,h⟩
   simp [zax,this]
  conv=>whnf
  rw [m1]
  refine ⟨fun a1=>?_,fun a1=>?_⟩
  rotate_left
  ·exact absurd a1 (by simp;omega)
  refine dd ?_
  rw [m1]
  refine ⟨fun a2=>?_,fun a2=>?_⟩
  rotate_left
  ·exact absurd a2 (by simp;omega)
  refine dd ?_
  (repeat ((first | apply ya | apply yb);refine dd ?_))
  (refine ⟨by omega,_,by rw [toNat_cast];exact hg,?_⟩);refine dd ?_
  refine ⟨fun b1=>?_,fun b1=>?_⟩
  ·rw [bad (by simp at b1;simp [ruB];omega)]
   refine dd ?_
   (repeat ((first | apply ya | apply yb);refine dd ?_))
   (refine .inr ⟨by simp,?_⟩);(conv=>whnf)
   exact ⟨.inl rfl,_,.refl _,rfl⟩
  refine dd ?_
  (refine ⟨by omega,_,by rw [toNat_cast];exact hg,?_⟩);refine dd ?_
  refine ⟨fun b2=>?_,fun b2=>?_⟩
  ·rw [bad (by simp at b2;simp [ruB];omega)]
   refine dd ?_
   (refine .inr ⟨by simp,?_⟩);(conv=>whnf)
   exact ⟨.inl rfl,_,.refl _,rfl⟩
  refine dd ?_
  refine .inl ⟨rfl,?_,fun j hj hjk=>?_⟩
  ·rw [zn (by omega)]
   exact cE 0
  ·by_cases e:j=k
   ·subst e;rw [<- hx];simp at b1 b2;simp [ruB];omega
   ·exact hr j hj (by omega)
 ·have fin:zax c=decide ((c.length:Int) > 50):=by
   by_cases hl:c.length<=50
   ·rw [if_pos hl] at hr
    have h0:c.any ruB=false:=by
     rw [List.any_eq_false]
     intro x hx
     obtain ⟨i,hi,rfl⟩:=List.mem_iff_getElem.1 hx
     simpa using hr i hi hi
    unfold zax
    rw [h0,Bool.or_false]
    exact decide_eq_decide.2 (by omega)
   ·unfold zax
    rw [decide_eq_true (by omega),decide_eq_true (by omega)];rfl
  rw [fin]
  conv=>whnf
  rw [m1]
  refine ⟨fun a1=>?_,fun a1=>?_⟩
  ·have hl:¬c.length<=50:=fun hl=>by rw [if_pos hl] at a1;simp at a1
   refine dd ?_
   rw [m1]
   refine ⟨fun a2=>absurd a2 (by simp;omega),fun _=>?_⟩
   refine dd ?_
   refine ⟨by simp,?_⟩
   conv=>whnf
   rw [m1]
   refine ⟨fun a5=>?_,fun a5=>?_⟩
   all_goals
    rw [a5]
    refine dd ?_
    exact ⟨.inl rfl,_,.refl _,rfl⟩
  ·refine dd ?_
   refine ⟨by simp,?_⟩
   conv=>whnf
   rw [m1]
   refine ⟨fun a5=>?_,fun a5=>?_⟩
   all_goals
    rw [a5]
    refine dd ?_
    exact ⟨.inl rfl,_,.refl _,rfl⟩
def zdF (c:Clu):Bool:=decide (20 < c.zQ.length) || decide (100 < c.name.length)
def xE (s:Sna):Bool:=decide (20 < s.zc.length) || decide (20 < s.zf.length) || zax s.rules || s.zf.any zdF
theorem zeD (s:Sna) (h1:s.zc.length < 4000000000000000000) (h2:s.rules.length < 4000000000000000000) (h3:s.zf.length < 4000000000000000000):zb Tryz.prog 48 [] [.agg (zbJ s)] (Bo (xE s)) []:=by
 have m1:(s.zc.map wc).length=s.zc.length:=List.length_map ..
 have m3:(s.zf.map jA).length=s.zf.length:=List.length_map ..
 refine zb.zl (fn:=Tryz.f48) Tryz.func48 rfl ?_
 conv=>whnf
 rw [m1]
 (refine ⟨fun a1=>?_,fun a1=>?_⟩);(focus ((have e:xE s=true:=(by (try simp at a1);simp [xE];first | omega | exact .inl (.inr a1)));(rw [e]);refine dd ?_;(try (repeat ((first | apply ya | apply yb);refine dd ?_)));exact ⟨.inl rfl,_,.refl _,rfl⟩));refine dd ?_
 rw [m3]
 (refine ⟨fun a2=>?_,fun a2=>?_⟩);(focus ((have e:xE s=true:=(by (try simp at a2);simp [xE];first | omega | exact .inl (.inr a2)));(rw [e]);refine dd ?_;(try (repeat ((first | apply ya | apply yb);refine dd ?_)));exact ⟨.inl rfl,_,.refl _,rfl⟩));refine dd ?_
 refine ⟨_,_,(zeB s.rules h2).frame rfl _,?_⟩;refine dd ?_
 (refine ⟨fun a3=>?_,fun a3=>?_⟩);(focus ((have e:xE s=true:=(by (try simp at a3);simp [xE];first | omega | exact .inl (.inr a3)));(rw [e]);refine dd ?_;(try (repeat ((first | apply ya | apply yb);refine dd ?_)));exact ⟨.inl rfl,_,.refl _,rfl⟩));refine dd ?_
 (repeat ((first | apply ya | apply yb);refine dd ?_))
 refine zE.seq s.zf.length (fun k=>[.agg (zbJ s),.ref 0 [] 3 0 0,Bo false,I k,.za,.za,.za,.za,.za,.za,.za,.za,.za,.za,.za,.za,.za,.za,.za,.za,.za,.za,.za,.za,.za,.za,.za,.za,.za,.za,.za,.za,.za,.za,.za,.za,.za,.za,.za,.za,.za,.za,.za,.za]) (fun k=>[⟨1,69,3,[zbJ s],0⟩]) (fun k=>∀ j,(h:j < s.zf.length)->j < k->zdF s.zf[j]=false) ?_ (by simp) (fun k hk hr=>?_) (fun hr=>?_)
 ·exact cC
 ·obtain ⟨x,hx⟩:∃ x,x=s.zf[k]:=⟨_,rfl⟩
  have hg:(s.zf.map jA)[k]?= some (jA x):=by rw [List.getElem?_map,List.getElem?_eq_getElem hk,hx];rfl
  have mh:(x.zQ.map xW).length=x.zQ.length:=List.length_map ..
  have bad:zdF x=true->xE s=true:=fun h=>by
   have:s.zf.any zdF=true:=List.any_eq_true.2 ⟨x,by rw [hx];exact List.getElem_mem hk,h⟩
   simp [xE,this]
  conv=>whnf
  rw [m3]
  (refine ⟨fun _=>?_,fun h=>absurd h (by simp;omega)⟩);refine dd ?_
  (refine ⟨by omega,_,by rw [toNat_cast];exact hg,?_⟩);refine dd ?_
  rw [mh]
  refine ⟨fun b1=>?_,fun b1=>?_⟩
  ·rw [bad (by simp at b1;simp [zdF];omega)]
   refine dd ?_
   (repeat ((first | apply ya | apply yb);refine dd ?_))
   (refine .inr ⟨by simp,?_⟩);(conv=>whnf)
   exact ⟨.inl rfl,_,.refl _,rfl⟩
  refine dd ?_
  (refine ⟨by omega,_,by rw [toNat_cast];exact hg,?_⟩);refine dd ?_
  refine ⟨fun b2=>?_,fun b2=>?_⟩
  ·rw [bad (by simp at b2;simp [zdF];omega)]
   refine dd ?_
   (refine .inr ⟨by simp,?_⟩);(conv=>whnf)
   exact ⟨.inl rfl,_,.refl _,rfl⟩
  refine dd ?_
  refine .inl ⟨rfl,?_,fun j hj hjk=>?_⟩
  ·rw [zn (by omega)]
   exact cE 1
  ·by_cases e:j=k
   ·subst e;rw [<- hx];simp at b1 b2;simp [zdF];omega
   ·exact hr j hj (by omega)
 ·have h0:s.zf.any zdF=false:=by
   rw [List.any_eq_false]
   intro x hx
   obtain ⟨i,hi,rfl⟩:=List.mem_iff_getElem.1 hx
   simp [hr i hi hi]
  have e:xE s=false:=by unfold xE;simp at a1 a2;rw [a3,h0,decide_eq_false (by omega),decide_eq_false (by omega)];rfl
  rw [e]
  conv=>whnf
  rw [m3]
  refine ⟨fun h=>absurd h (by simp),fun _=>?_⟩
  refine dd ?_
  refine ⟨by simp,?_⟩
  conv=>whnf
  exact ⟨.inl rfl,_,.refl _,rfl⟩
end Go.Wor
namespace Go.Wor
open Go.Ab Go.Proofs Go.Hy Go.Gat Go.Nam Go.Hos Go.Con Go.Sna
structure Wk (w:Wor):Prop where
 pins:w.pins.length < 4000000000000000000
 zd:w.zd.length < 4000000000000000000
 zc:w.zc.length < 4000000000000000000
 counts:w.counts.length < 4000000000000000000
 zg:w.zg.length < 4000000000000000000
 zhw:∀ v ∈ w.zd,v.snap.zc.length < 4000000000000000000∧v.snap.rules.length < 4000000000000000000∧v.snap.zf.length < 4000000000000000000
 zi:∀ v ∈ w.zd,v.zi.length < 4000000000000000000∧∀ g ∈ v.zi,g.ends.length < 4000000000000000000
def zez (g:Gr):Bool:=decide (20 < g.ends.length)
def wZ (v:Ver):Bool:=xE v.snap || decide (20 < v.zi.length) || v.zi.any zez
def xV (w:Wor):Bool:=decide (20 < w.pins.length) || decide (40 < w.zd.length) || decide (40 < w.zc.length) || kU w.counts || decide (60 < w.zg.length) || w.zd.any wZ
theorem zbz (w:Wor) (hw:Wk w):zb Tryz.prog 15 [] [Cw w] (Bo (xV w)) []:=by
 have m1:(w.pins.map Go.Hy.encI).length=w.pins.length:=List.length_map ..
 have m2:(w.zd.map qm).length=w.zd.length:=List.length_map ..
 have m3:(w.zc.map qy).length=w.zc.length:=List.length_map ..
 have m4:(w.counts.map jP).length=w.counts.length:=List.length_map ..
 have m5:(w.zg.map qz).length=w.zg.length:=List.length_map ..
 have b2:=hw.zd
 refine zb.zl (fn:=Tryz.f15) Tryz.func15 rfl ?_
 conv=>whnf
 rw [m1]
 (refine ⟨fun a1=>?_,fun a1=>?_⟩);(focus ((have e:xV w=true:=(by (try simp at a1);simp [xV];first | omega | (rw [a1];simp)));(rw [e]);refine dd ?_;(try (repeat ((first | apply ya | apply yb);refine dd ?_)));exact ⟨.inl rfl,_,.refl _,rfl⟩));refine dd ?_
 rw [m2]
 (refine ⟨fun a2=>?_,fun a2=>?_⟩);(focus ((have e:xV w=true:=(by (try simp at a2);simp [xV];first | omega | (rw [a2];simp)));(rw [e]);refine dd ?_;(try (repeat ((first | apply ya | apply yb);refine dd ?_)));exact ⟨.inl rfl,_,.refl _,rfl⟩));refine dd ?_
 rw [m3]
 (refine ⟨fun a3=>?_,fun a3=>?_⟩);(focus ((have e:xV w=true:=(by (try simp at a3);simp [xV];first | omega | (rw [a3];simp)));(rw [e]);refine dd ?_;(try (repeat ((first | apply ya | apply yb);refine dd ?_)));exact ⟨.inl rfl,_,.refl _,rfl⟩));refine dd ?_
 refine ⟨_,_,(zey w.counts hw.counts).frame rfl _,?_⟩;refine dd ?_
 (refine ⟨fun a4=>?_,fun a4=>?_⟩);(focus ((have e:xV w=true:=(by (try simp at a4);simp [xV];first | omega | (rw [a4];simp)));(rw [e]);refine dd ?_;(try (repeat ((first | apply ya | apply yb);refine dd ?_)));exact ⟨.inl rfl,_,.refl _,rfl⟩));refine dd ?_
 rw [m5]
 (refine ⟨fun a5=>?_,fun a5=>?_⟩);(focus ((have e:xV w=true:=(by (try simp at a5);simp [xV];first | omega | (rw [a5];simp)));(rw [e]);refine dd ?_;(try (repeat ((first | apply ya | apply yb);refine dd ?_)));exact ⟨.inl rfl,_,.refl _,rfl⟩));refine dd ?_
 have eW:xV w=w.zd.any wZ:=by
  unfold xV
  simp at a1 a2 a3 a5
  rw [a4,decide_eq_false (by omega),decide_eq_false (by omega),decide_eq_false (by omega),decide_eq_false (by omega)]
  rfl
 refine zE.seq w.zd.length (fun k=>(Cw w:: .ref 0 [] 8 0 0::Bo false::I k:: .za::.za::.za::.za::.za::.za::.za::.za::.za::.za::.za::.za::.za::.za::.za::.za::.za::.za::.za::.za::.za::.za::.za::.za::.za::.za::.za::.za::.za::.za::.za::.za::.za::.za::.za::.za::.za::.za::.za::.za::.za::.za::.za::.za::.za::.za::.za::.za::.za::.za::.za::.za::.za::.za::.za::.za::.za::.za::.za::.za::.za::.za::.za::.za::.za::[])) (fun k=>[⟨1,28,8,[zR w],0⟩]) (fun k=>∀ j,(h:j < w.zd.length)->j < k->wZ w.zd[j]=false) ?_ (by simp) (fun k hk hr=>?_) (fun hr=>?_)
 ·exact cC
 ·obtain ⟨v,hx⟩:∃ v,v=w.zd[k]:=⟨_,rfl⟩
  have hv:v ∈ w.zd:=by rw [hx];exact List.getElem_mem hk
  have hg:(w.zd.map qm)[k]?= some (qm v):=by rw [List.getElem?_map,List.getElem?_eq_getElem hk,hx];rfl
  have mg:(v.zi.map qJ).length=v.zi.length:=List.length_map ..
  have bad:wZ v=true->xV w=true:=fun h=>by
   rw [eW];exact List.any_eq_true.2 ⟨v,hv,h⟩
  have bg:=(hw.zi v hv).1
  conv=>whnf
  rw [m2]
  (refine ⟨fun _=>?_,fun h=>absurd h (by simp;omega)⟩);refine dd ?_
  (refine ⟨by omega,_,by rw [toNat_cast];exact hg,?_⟩);refine dd ?_
  refine ⟨_,_,(zeD v.snap (hw.zhw v hv).1 (hw.zhw v hv).2.1 (hw.zhw v hv).2.2).frame rfl _,?_⟩;refine dd ?_
  refine ⟨fun c1=>?_,fun c1=>?_⟩
  ·rw [bad (by unfold wZ;rw [c1];rfl)]
   refine dd ?_
   (repeat ((first | apply ya | apply yb);refine dd ?_))
   (refine .inr ⟨by simp,?_⟩);(conv=>whnf)
   exact ⟨.inl rfl,_,.refl _,rfl⟩
  refine dd ?_
  rw [mg]
  refine ⟨fun c2=>?_,fun c2=>?_⟩
  ·rw [bad (by unfold wZ;rw [c1,decide_eq_true (by simp at c2;omega)];rfl)]
   refine dd ?_
   (refine .inr ⟨by simp,?_⟩);(conv=>whnf)
   exact ⟨.inl rfl,_,.refl _,rfl⟩
  refine dd ?_
  refine zE.seq v.zi.length (fun j=>(Cw w:: .ref 0 [] 8 0 0::Bo false::I k:: .ref 1 [] 5 0 0::I j:: .za::.za::.za::.za::.za::.za::.za::.za::.za::.za::.za::.za::.za::.za::.za::.za::.za::.za::.za::.za::.za::.za::.za::.za::.za::.za::.za::.za::.za::.za::.za::.za::.za::.za::.za::.za::.za::.za::.za::.za::.za::.za::.za::.za::.za::.za::.za::.za::.za::.za::.za::.za::.za::.za::.za::.za::.za::.za::.za::.za::.za::.za::.za::[])) (fun j=>[⟨1,28,8,[zR w],0⟩,⟨1,72,5,[qm v],0⟩]) (fun j=>∀ i,(h:i < v.zi.length)->i < j->zez v.zi[i]=false) ?_ (by simp) (fun j hj hrj=>?_) (fun hrj=>?_)
  ·exact cC
  ·obtain ⟨g,hxg⟩:∃ g,g=v.zi[j]:=⟨_,rfl⟩
   have hgg:(v.zi.map qJ)[j]?= some (qJ g):=by rw [List.getElem?_map,List.getElem?_eq_getElem hj,hxg];rfl
   have me:(g.ends.map zU).length=g.ends.length:=List.length_map ..
   have badg:zez g=true->xV w=true:=fun h=>bad (by
    have:v.zi.any zez=true:=List.any_eq_true.2 ⟨g,by rw [hxg];exact List.getElem_mem hj,h⟩
    unfold wZ;rw [this,Bool.or_true])
   conv=>whnf
   rw [mg]
   (refine ⟨fun _=>?_,fun h=>absurd h (by simp;omega)⟩);refine dd ?_
   (refine ⟨by omega,_,by rw [toNat_cast];exact hgg,?_⟩);refine dd ?_
   rw [me]
   refine ⟨fun c3=>?_,fun c3=>?_⟩
   ·rw [badg (by simp at c3;simp [zez];omega)]
    refine dd ?_
    (refine .inr ⟨by simp,?_⟩);(conv=>whnf)
    (try (refine .inr ⟨by simp,?_⟩);(conv=>whnf))
    exact ⟨.inl rfl,_,.refl _,rfl⟩
   refine dd ?_
   refine .inl ⟨rfl,?_,fun i hi hij=>?_⟩
   ·rw [zn (by omega)]
    exact cE 2
   ·by_cases e:i=j
    ·subst e;rw [<- hxg];simp at c3;simp [zez];omega
    ·exact hrj i hi (by omega)
  ·have h0:v.zi.any zez=false:=by
    rw [List.any_eq_false]
    intro x hx
    obtain ⟨i,hi,rfl⟩:=List.mem_iff_getElem.1 hx
    simp [hrj i hi hi]
   have no:wZ v=false:=by unfold wZ;rw [c1,h0,decide_eq_false (by simp at c2;omega)];rfl
   (conv=>whnf);(refine ⟨fun h=>absurd h (by simp),fun _=>?_⟩);refine dd ?_;(refine ⟨by simp,?_⟩);(conv=>whnf)
   refine .inl ⟨rfl,?_,fun i hi hij=>?_⟩
   ·rw [zn (by omega)]
    exact cE 1
   ·by_cases e:i=k
    ·subst e;rw [<- hx];exact no
    ·exact hr i hi (by omega)
 ·have h0:w.zd.any wZ=false:=by
   rw [List.any_eq_false]
   intro x hx
   obtain ⟨i,hi,rfl⟩:=List.mem_iff_getElem.1 hx
   simp [hr i hi hi]
  rw [eW,h0]
  conv=>whnf
  rw [m2]
  refine ⟨fun h=>absurd h (by simp),fun _=>?_⟩
  refine dd ?_
  refine ⟨by simp,?_⟩
  conv=>whnf
  exact ⟨.inl rfl,_,.refl _,rfl⟩
end Go.Wor
namespace Go.Wor
open Go.Ab Go.Proofs Go.Hy Go.Gat Go.Nam Go.Hos Go.Con Go.Sna
def wT (l:Lis):Bool:=decide (1000000 < l.zr)
def zds (e:En):Bool:=decide (1000000 < e.zr)
def zcs (g:Gr):Bool:=g.ends.any zds
def ku (v:Ver):Bool:=v.zi.any zcs
def yW (w:Wor):Bool:=decide (1000000 < w.zj) || w.zc.any wT || w.zd.any ku
theorem zeF (w:Wor) (hw:Wk w):zb Tryz.prog 16 [] [Cw w] (Bo (!yW w)) []:=by
 have m2:(w.zd.map qm).length=w.zd.length:=List.length_map ..
 have m3:(w.zc.map qy).length=w.zc.length:=List.length_map ..
 have b2:=hw.zd
 have b3:=hw.zc
 refine zb.zl (fn:=Tryz.f16) Tryz.func16 rfl ?_
 conv=>whnf
 refine ⟨fun a1=>?_,fun a1=>?_⟩
 ·have e:yW w=true:=by unfold yW;rw [decide_eq_true (by simp at a1;omega)];rfl
  rw [e]
  refine dd ?_
  (repeat ((first | apply ya | apply yb);refine dd ?_))
  exact ⟨.inl rfl,_,.refl _,rfl⟩
 have e0:yW w=(w.zc.any wT || w.zd.any ku):=by unfold yW;rw [decide_eq_false (by simp at a1;omega)];rfl
 refine dd ?_
 refine zE.seq w.zc.length (fun k=>(Cw w:: .ref 0 [] 8 0 0::Bo false::I k:: .za::.za::.za::.za::.za::.za::.za::.za::.za::.za::.za::.za::.za::.za::.za::.za::.za::.za::.za::.za::.za::.za::.za::.za::.za::.za::.za::.za::.za::.za::.za::.za::.za::.za::.za::.za::.za::.za::.za::.za::.za::.za::.za::.za::.za::.za::.za::.za::.za::.za::.za::.za::.za::.za::.za::.za::.za::.za::.za::.za::.za::.za::.za::.za::.za::.za::.za::.za::[])) (fun k=>[⟨1,28,8,[zR w],0⟩]) (fun k=>∀ j,(h:j < w.zc.length)->j < k->wT w.zc[j]=false) ?_ (by simp) (fun k hk hr=>?_) (fun hr=>?_)
 ·exact cC
 ·obtain ⟨x,hx⟩:∃ x,x=w.zc[k]:=⟨_,rfl⟩
  have hg:(w.zc.map qy)[k]?= some (qy x):=by rw [List.getElem?_map,List.getElem?_eq_getElem hk,hx];rfl
  have bad:wT x=true->yW w=true:=fun h=>by
   have:w.zc.any wT=true:=List.any_eq_true.2 ⟨x,by rw [hx];exact List.getElem_mem hk,h⟩
   rw [e0,this];rfl
  conv=>whnf
  rw [m3]
  (refine ⟨fun _=>?_,fun h=>absurd h (by simp;omega)⟩);refine dd ?_
  (refine ⟨by omega,_,by rw [toNat_cast];exact hg,?_⟩);refine dd ?_
  refine ⟨fun c1=>?_,fun c1=>?_⟩
  ·rw [bad (by simp at c1;simp [wT];omega)]
   refine dd ?_
   (refine .inr ⟨by simp,?_⟩);(conv=>whnf)
   exact ⟨.inl rfl,_,.refl _,rfl⟩
  refine dd ?_
  refine .inl ⟨rfl,?_,fun i hi hij=>?_⟩
  ·rw [zn (by omega)]
   exact cE 1
  ·by_cases e:i=k
   ·subst e;rw [<- hx];simp at c1;simp [wT];omega
   ·exact hr i hi (by omega)
 have h0:w.zc.any wT=false:=by
  rw [List.any_eq_false]
  intro x hx
  obtain ⟨i,hi,rfl⟩:=List.mem_iff_getElem.1 hx
  simp [hr i hi hi]
 have e1:yW w=w.zd.any ku:=by rw [e0,h0];rfl
 conv=>whnf
 rw [m3]
 refine ⟨fun h=>absurd h (by simp),fun _=>?_⟩
 refine dd ?_
 refine ⟨by simp,?_⟩
 conv=>whnf
 refine zE.seq w.zd.length (fun k=>(Cw w:: .ref 0 [] 8 0 0::Bo false:: .za::I k:: .za::.za::.za::.za::.za::.za::.za::.za::.za::.za::.za::.za::.za::.za::.za::.za::.za::.za::.za::.za::.za::.za::.za::.za::.za::.za::.za::.za::.za::.za::.za::.za::.za::.za::.za::.za::.za::.za::.za::.za::.za::.za::.za::.za::.za::.za::.za::.za::.za::.za::.za::.za::.za::.za::.za::.za::.za::.za::.za::.za::.za::.za::.za::.za::.za::.za::.za::[])) (fun k=>[⟨1,28,8,[zR w],0⟩]) (fun k=>∀ j,(h:j < w.zd.length)->j < k->ku w.zd[j]=false) ?_ (by simp) (fun k hk hr2=>?_) (fun hr2=>?_)
 ·exact cC
 ·obtain ⟨v,hx⟩:∃ v,v=w.zd[k]:=⟨_,rfl⟩
  have hv:v ∈ w.zd:=by rw [hx];exact List.getElem_mem hk
  have hg:(w.zd.map qm)[k]?= some (qm v):=by rw [List.getElem?_map,List.getElem?_eq_getElem hk,hx];rfl
  have mg:(v.zi.map qJ).length=v.zi.length:=List.length_map ..
  have bad:ku v=true->yW w=true:=fun h=>by
   rw [e1];exact List.any_eq_true.2 ⟨v,hv,h⟩
  have bg:=(hw.zi v hv).1
  conv=>whnf
  rw [m2]
  (refine ⟨fun _=>?_,fun h=>absurd h (by simp;omega)⟩);refine dd ?_
  refine zE.seq v.zi.length (fun j=>(Cw w:: .ref 0 [] 8 0 0::Bo false:: .za::I k::I j:: .za::.za::.za::.za::.za::.za::.za::.za::.za::.za::.za::.za::.za::.za::.za::.za::.za::.za::.za::.za::.za::.za::.za::.za::.za::.za::.za::.za::.za::.za::.za::.za::.za::.za::.za::.za::.za::.za::.za::.za::.za::.za::.za::.za::.za::.za::.za::.za::.za::.za::.za::.za::.za::.za::.za::.za::.za::.za::.za::.za::.za::.za::.za::.za::.za::.za::[])) (fun j=>[⟨1,28,8,[zR w],0⟩]) (fun j=>∀ i,(h:i < v.zi.length)->i < j->zcs v.zi[i]=false) ?_ (by simp) (fun j hj hrj=>?_) (fun hrj=>?_)
  ·exact cC
  ·obtain ⟨g,hxg⟩:∃ g,g=v.zi[j]:=⟨_,rfl⟩
   have hgm:g ∈ v.zi:=by rw [hxg];exact List.getElem_mem hj
   have hgg:(v.zi.map qJ)[j]?= some (qJ g):=by rw [List.getElem?_map,List.getElem?_eq_getElem hj,hxg];rfl
   have me:(g.ends.map zU).length=g.ends.length:=List.length_map ..
   have be:=(hw.zi v hv).2 g hgm
   have badg:zcs g=true->yW w=true:=fun h=>bad (List.any_eq_true.2 ⟨g,hgm,h⟩)
   conv=>whnf
   (refine ⟨by omega,_,by rw [toNat_cast];exact hg,?_⟩);refine dd ?_
   rw [mg]
   (refine ⟨fun _=>?_,fun h=>absurd h (by simp;omega)⟩);refine dd ?_
   refine zE.seq g.ends.length (fun n=>(Cw w:: .ref 0 [] 8 0 0::Bo false:: .za::I k::I j::I n:: .za::.za::.za::.za::.za::.za::.za::.za::.za::.za::.za::.za::.za::.za::.za::.za::.za::.za::.za::.za::.za::.za::.za::.za::.za::.za::.za::.za::.za::.za::.za::.za::.za::.za::.za::.za::.za::.za::.za::.za::.za::.za::.za::.za::.za::.za::.za::.za::.za::.za::.za::.za::.za::.za::.za::.za::.za::.za::.za::.za::.za::.za::.za::.za::.za::[])) (fun n=>[⟨1,28,8,[zR w],0⟩]) (fun n=>∀ i,(h:i < g.ends.length)->i < n->zds g.ends[i]=false) ?_ (by simp) (fun n hn hrn=>?_) (fun hrn=>?_)
   ·exact cC
   ·obtain ⟨e,hxe⟩:∃ e,e=g.ends[n]:=⟨_,rfl⟩
    have hge:(g.ends.map zU)[n]?= some (zU e):=by rw [List.getElem?_map,List.getElem?_eq_getElem hn,hxe];rfl
    conv=>whnf
    (refine ⟨by omega,_,by rw [toNat_cast];exact hg,?_⟩);refine dd ?_
    (refine ⟨by omega,_,by rw [toNat_cast];exact hgg,?_⟩);refine dd ?_
    rw [me]
    (refine ⟨fun _=>?_,fun h=>absurd h (by simp;omega)⟩);refine dd ?_
    (refine ⟨by omega,_,by rw [toNat_cast];exact hg,?_⟩);refine dd ?_
    (refine ⟨by omega,_,by rw [toNat_cast];exact hgg,?_⟩);refine dd ?_
    (refine ⟨by omega,_,by rw [toNat_cast];exact hge,?_⟩);refine dd ?_
    refine ⟨fun c1=>?_,fun c1=>?_⟩
    ·rw [badg (List.any_eq_true.2 ⟨e,by rw [hxe];exact List.getElem_mem hn,by simp at c1;simp [zds];omega⟩)]
     refine dd ?_
     (refine .inr ⟨by simp,?_⟩);(conv=>whnf)
     (try (refine .inr ⟨by simp,?_⟩);(conv=>whnf))
     (try (refine .inr ⟨by simp,?_⟩);(conv=>whnf))
     exact ⟨.inl rfl,_,.refl _,rfl⟩
    refine dd ?_
    refine .inl ⟨rfl,?_,fun i hi hij=>?_⟩
    ·rw [zn (by omega)]
     exact cE 1
    ·by_cases e:i=n
     ·subst e;rw [<- hxe];simp at c1;simp [zds];omega
     ·exact hrn i hi (by omega)
   ·have no:zcs g=false:=by
     unfold zcs
     rw [List.any_eq_false]
     intro x hx
     obtain ⟨i,hi,rfl⟩:=List.mem_iff_getElem.1 hx
     simp [hrn i hi hi]
    conv=>whnf
    (refine ⟨by omega,_,by rw [toNat_cast];exact hg,?_⟩);refine dd ?_
    (refine ⟨by omega,_,by rw [toNat_cast];exact hgg,?_⟩);refine dd ?_
    rw [me]
    refine ⟨fun h=>absurd h (by simp),fun _=>?_⟩
    refine dd ?_
    refine ⟨by simp,?_⟩
    conv=>whnf
    refine .inl ⟨rfl,?_,fun i hi hij=>?_⟩
    ·rw [zn (by omega)]
     exact cE 1
    ·by_cases e:i=j
     ·subst e;rw [<- hxg];exact no
     ·exact hrj i hi (by omega)
  ·have no:ku v=false:=by
    unfold ku
    rw [List.any_eq_false]
    intro x hx
    obtain ⟨i,hi,rfl⟩:=List.mem_iff_getElem.1 hx
    simp [hrj i hi hi]
   conv=>whnf
   (refine ⟨by omega,_,by rw [toNat_cast];exact hg,?_⟩);refine dd ?_
   rw [mg]
   refine ⟨fun h=>absurd h (by simp),fun _=>?_⟩
   refine dd ?_
   refine ⟨by simp,?_⟩
   conv=>whnf
   refine .inl ⟨rfl,?_,fun i hi hij=>?_⟩
   ·rw [zn (by omega)]
    exact cE 1
   ·by_cases e:i=k
    ·subst e;rw [<- hx];exact no
    ·exact hr2 i hi (by omega)
 ·have h1:w.zd.any ku=false:=by
   rw [List.any_eq_false]
   intro x hx
   obtain ⟨i,hi,rfl⟩:=List.mem_iff_getElem.1 hx
   simp [hr2 i hi hi]
  rw [e1,h1]
  conv=>whnf
  rw [m2]
  refine ⟨fun h=>absurd h (by simp),fun _=>?_⟩
  refine dd ?_
  refine ⟨by simp,?_⟩
  conv=>whnf
  exact ⟨.inl rfl,_,.refl _,rfl⟩
end Go.Wor
namespace Go.Wor
open Go.Ab Go.Proofs Go.Hy Go.Gat Go.Nam Go.Hos Go.Con Go.Sna
end Go.Wor
namespace Go.Wor
open Go.Ab Go.Proofs Go.Hy Go.Gat Go.Nam Go.Hos Go.Con Go.Sna
structure WkS (s:Sna):Prop where
 zc:s.zc.length < 4000000000000000000
 rules:s.rules.length < 4000000000000000000
 zf:s.zf.length < 4000000000000000000
 zQ:∀ x ∈ s.zf,x.zQ.length < 4000000000000000000
structure WkW (w:Wor):Prop where
 wk:Wk w
 zhw:∀ v ∈ w.zd,WkS v.snap
 ends : ∀ v ∈ w.zd, ∀ g ∈ v.zi, ∀ e ∈ g.ends, e.ok
 counts:∀ r ∈ w.counts,r.length < 4000000000000000000
end Go.Wor
namespace Go.Hy
open Go.Ab Go.Proofs
theorem zia:zo Tryz.prog 95 qy Lis.ok:=
 zo.map (zo.struct Tryz.underlying95 (by kernel_rfl) (zu.cons rfl (jt) (zu.cons rfl (zo.bool Tryz.underlying4) (zu.cons rfl (zo.int Tryz.underlying3) (zu.cons rfl (zo.bool Tryz.underlying4) (zu.nil _)))))) (fun x=>⟨x.1,x.2.1,x.2.2.1,x.2.2.2.1⟩) fun x h=>⟨⟨h.1,wf_i64 h.2.2.1⟩,rfl⟩
theorem zgE:zo Tryz.prog 24 (fun l:List Lis=>[lL l]) (fun l=>(∀ x ∈ l,x.ok)∧l.length * 40<=reachBytes):=
 zo.slice (sz:=4) (by_:=40) Tryz.underlying24 (by kernel_rfl) (by kernel_rfl) (by decide) (fun _=>rfl) zia
theorem zib:zo Tryz.prog 113 qz Ret.ok:=
 zo.map (zo.struct Tryz.underlying113 (by kernel_rfl) (zu.cons rfl (zo.int Tryz.underlying3) (zu.cons rfl (zo.int Tryz.underlying3) (zu.cons rfl (zo.bool Tryz.underlying4) (zu.nil _))))) (fun x=>⟨x.1,x.2.1,x.2.2.1⟩) fun x h=>⟨⟨wf_i64 h.1,wf_i64 h.2.1⟩,rfl⟩
theorem zgF:zo Tryz.prog 26 (fun l:List Ret=>[lR l]) (fun l=>(∀ x ∈ l,x.ok)∧l.length * 24<=reachBytes):=
 zo.slice (sz:=3) (by_:=24) Tryz.underlying26 (by kernel_rfl) (by kernel_rfl) (by decide) (fun _=>rfl) zib
theorem zjp:zo Tryz.prog 97 zU En.ok:=
 zo.map (zo.struct Tryz.underlying97 (by kernel_rfl) (zu.cons rfl (zo.int Tryz.underlying38) (zu.cons rfl zd7 (zu.cons rfl (zo.int Tryz.underlying3) (zu.nil _))))) (fun x=>⟨x.1,x.2.1,x.2.2.1⟩) fun x h=>⟨⟨wf_u64 h.1,⟨fun y hy=>wf_i64 (h.2.1.1 y hy),by have:=h.2.1.2;unfold reachBytes at this;show x.2.1.length<=_;omega⟩,wf_i64 h.2.2.1⟩,rfl⟩
theorem zig:zo Tryz.prog 91 (fun l:List En=>[lE l]) (fun l=>(∀ x ∈ l,x.ok)∧l.length * 40<=reachBytes):=
 zo.slice (sz:=3) (by_:=40) Tryz.underlying91 (by kernel_rfl) (by kernel_rfl) (by decide) (fun _=>rfl) zjp
def Gr.okW (g:Gr):Prop:=u64 g.jM∧(∀ e ∈ g.ends,e.ok)∧g.ends.length * 40<=reachBytes
theorem zjq:zo Tryz.prog 93 qJ Gr.okW:=
 zo.map (zo.struct Tryz.underlying93 (by kernel_rfl) (zu.cons rfl (zo.int Tryz.underlying38) (zu.cons rfl zig (zu.nil _)))) (fun x=>⟨x.1,x.2.1⟩) fun x h=>⟨⟨wf_u64 h.1,h.2.1⟩,rfl⟩
theorem zih:zo Tryz.prog 70 (fun l:List Gr=>[lG l]) (fun l=>(∀ x ∈ l,x.okW)∧l.length * 32<=reachBytes):=
 zo.slice (sz:=2) (by_:=32) Tryz.underlying70 (by kernel_rfl) (by kernel_rfl) (by decide) (fun _=>rfl) zjq
def Rul.okW (r:Rul):Prop:=r.host.length<=reachBytes∧r.path.length<=reachBytes
theorem zic:zo Tryz.prog 164 zaG Rul.okW:=
 zo.map (zo.struct Tryz.underlying164 (by kernel_rfl) (zu.cons rfl (zo.int Tryz.underlying3) (zu.cons rfl (jt) (zu.cons rfl (jt) (zu.cons rfl (zo.int Tryz.underlying3) (zu.nil _)))))) (fun x=>⟨x.1,x.2.1,x.2.2.1,x.2.2.2.1⟩) fun x h=>⟨⟨h.2.1,h.2.2.1⟩,rfl⟩
theorem zgG:zo Tryz.prog 67 (fun l:List Rul=>[zh3 l]) (fun l=>(∀ x ∈ l,x.okW)∧l.length * 48<=reachBytes):=
 zo.slice (sz:=4) (by_:=48) Tryz.underlying67 (by kernel_rfl) (by kernel_rfl) (by decide) (fun _=>rfl) zic
def Sna.okW (s:Sna):Prop:=((∀ x ∈ s.zc,zes x)∧s.zc.length * 16<=reachBytes)∧((∀ r ∈ s.rules,r.okW)∧s.rules.length * 48<=reachBytes)∧((∀ x ∈ s.zf,x.ok)∧s.zf.length * 56<=reachBytes)
theorem zid:zo Tryz.prog 69 zbJ Sna.okW:=
 zo.map (zo.struct Tryz.underlying69 (by kernel_rfl) (zu.cons rfl zhq (zu.cons rfl zgG (zu.cons rfl zhp (zu.nil _))))) (fun x=>⟨x.1,x.2.1,x.2.2.1⟩) fun x h=>⟨⟨h.1,h.2.1,h.2.2.1⟩,rfl⟩
def Ver.okW (v:Ver):Prop:=v.snap.okW∧((∀ g ∈ v.zi,g.okW)∧v.zi.length * 32<=reachBytes)
theorem zie:zo Tryz.prog 72 qm Ver.okW:=
 zo.map (zo.struct Tryz.underlying72 (by kernel_rfl) (zu.cons rfl zid (zu.cons rfl zih (zu.cons rfl (zo.bool Tryz.underlying4) (zu.nil _))))) (fun x=>⟨x.1,x.2.1,x.2.2.1⟩) fun x h=>⟨⟨h.1,h.2.1⟩,by simp [qm]⟩
theorem zgH:zo Tryz.prog 23 (fun l:List Ver=>[lV l]) (fun l=>(∀ x ∈ l,x.okW)∧l.length * 104<=reachBytes):=
 zo.slice (sz:=5) (by_:=104) Tryz.underlying23 (by kernel_rfl) (by kernel_rfl) (by decide) (fun _=>rfl) zie
theorem zjv:zo Tryz.prog 161 (fun l:List Int=>[lU l]) (fun l=>(∀ x ∈ l,(Lit.int .u64 x).wf=true)∧l.length * 8<=reachBytes):=
 zo.slice (sz:=1) (by_:=8) Tryz.underlying161 (by kernel_rfl) (by kernel_rfl) (by decide) (fun _=>rfl) (zo.int Tryz.underlying38)
theorem zif:zo Tryz.prog 25 (fun l:List (List Int)=>[lCo l]) (fun l=>(∀ r ∈ l,(∀ x ∈ r,(Lit.int .u64 x).wf=true)∧r.length * 8<=reachBytes)∧l.length * 24<=reachBytes):=
 zo.slice (sz:=1) (by_:=24) Tryz.underlying25 (by kernel_rfl) (by kernel_rfl) (by decide) (fun _=>rfl) zjv
structure Wor.okW (w:Wor):Prop where
 pins:w.pins.length * 8<=reachBytes
 zd:(∀ v ∈ w.zd,v.okW)∧w.zd.length * 104<=reachBytes
 zc:(∀ x ∈ w.zc,x.ok)∧w.zc.length * 40<=reachBytes
 counts:(∀ r ∈ w.counts,(∀ x ∈ r,(Lit.int .u64 x).wf=true)∧r.length * 8<=reachBytes)∧w.counts.length * 24<=reachBytes
 zg:w.zg.length * 24<=reachBytes
theorem zju:zo Tryz.prog 28 zR Wor.okW:=
 zo.map (zo.struct Tryz.underlying28 (by kernel_rfl) (zu.cons rfl (zo.int Tryz.underlying3) (zu.cons rfl (zo.int Tryz.underlying3) (zu.cons rfl (zo.int Tryz.underlying3) (zu.cons rfl zd7 (zu.cons rfl zgH (zu.cons rfl zgE (zu.cons rfl zif (zu.cons rfl zgF (zu.nil _))))))))))
  (fun x=>⟨x.1,x.2.1,x.2.2.1,x.2.2.2.1,x.2.2.2.2.1,x.2.2.2.2.2.1,x.2.2.2.2.2.2.1,x.2.2.2.2.2.2.2.1⟩) fun x h=>⟨⟨h.2.2.2.1.2,h.2.2.2.2.1,h.2.2.2.2.2.1,h.2.2.2.2.2.2.1,h.2.2.2.2.2.2.2.1.2⟩,rfl⟩
theorem arg_Wor:zbi Tryz.prog 28 (fun x=>.agg (zR x)) Wor.okW:=zo.zcT Tryz.underlying28 zju
def Opn.okW (o:Opn):Prop:=o.ok∧i64 o.d0∧i64 o.d1
end Go.Hy
