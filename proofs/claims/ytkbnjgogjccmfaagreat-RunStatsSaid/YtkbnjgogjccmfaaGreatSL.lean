import Derived.Test.YtkbnjgogjccmfaaGreatSK
set_option linter.all false
set_option maxRecDepth 100000
set_option maxHeartbeats 4000000
namespace Go.Wor
open Go.Ab Go.Proofs Tryz Go.Hy Go.Gat Go.Nam Go.Hos Go.Con Go.Sna
structure Wk (w:Wor):Prop where
 pins:w.pins.length < 4000000000000000000
 ze:w.ze.length < 4000000000000000000
 zd:w.zd.length < 4000000000000000000
 counts:w.counts.length < 4000000000000000000
 zr:w.zr.length < 4000000000000000000
 MF:∀ v ∈ w.ze,v.snap.zd.length < 4000000000000000000∧v.snap.rules.length < 4000000000000000000∧v.snap.zk.length < 4000000000000000000
 zm:∀ v ∈ w.ze,v.zm.length < 4000000000000000000∧∀ g ∈ v.zm,g.ends.length < 4000000000000000000
def Xj (l:List ec) (hl:l.length < 4000000000000000000):to 85 [] [lT l,lT l] (Bo true) []:=by
 have hlm:(l.map qm).length=l.length:=dV ..;refine ab func85 ?_;refine uG ?_;refine zW.seq l.length (fun k=>((lT l)::(lT l)::.za::.za::Bo false::I k::hZ (hZ ([.za,.za,.za,.za])))) (fun k=>[]) (fun k=>True) ?_ trivial (fun k hk hr=>?_) (fun hr=>?_)
 ·exact cC
 ·have hg:(l.map qm)[k]?= some (qm l[k]):=by rw [dT,dQ hk];rfl
  conv=>whnf
  rw [hlm];refine uF ?_;refine uE ?_;(refine tf hg ?_)
  (refine tf hg ?_)
  (try (refine ⟨au,dd ?_⟩))
  refine uG ?_;exact cV
 ·conv=>whnf
  rw [hlm];exact c8
def Xg (l:List Int) (hl:l.length < 4000000000000000000):to 35 [] [lI l,lI l] (Bo true) []:=by
 have hlm:(l.map Go.Hy.encI).length=l.length:=dV ..;refine ab func35 ?_;refine uG ?_;refine zW.seq l.length (fun k=>((lI l)::(lI l)::.za::.za::Bo false::I k::hZ (hZ ([.za,.za,.za,.za])))) (fun k=>[]) (fun k=>True) ?_ trivial (fun k hk hr=>?_) (fun hr=>?_)
 ·exact cC
 ·have hg:(l.map Go.Hy.encI)[k]?= some (Go.Hy.encI l[k]):=by rw [dT,dQ hk];rfl
  conv=>whnf
  rw [hlm];refine uF ?_;refine uE ?_;(refine tf hg ?_)
  (refine tf hg ?_)
  (try (refine ⟨au,dd ?_⟩))
  refine uG ?_;exact cV
 ·conv=>whnf
  rw [hlm];exact c8
def Xh (l:List eJ) (hl:l.length < 4000000000000000000):to 37 [] [lR l,lR l] (Bo true) []:=by
 have hlm:(l.map xt).length=l.length:=dV ..;refine ab func37 ?_;refine uG ?_;refine zW.seq l.length (fun k=>((lR l)::(lR l)::.za::.za::Bo false::I k::hZ (hZ ([.za,.za,.za,.za])))) (fun k=>[]) (fun k=>True) ?_ trivial (fun k hk hr=>?_) (fun hr=>?_)
 ·exact cC
 ·have hg:(l.map xt)[k]?= some (xt l[k]):=by rw [dT,dQ hk];rfl
  conv=>whnf
  rw [hlm];refine uF ?_;refine uE ?_;(refine tf hg ?_)
  (refine tf hg ?_)
  (try (refine ⟨au,dd ?_⟩))
  refine uG ?_;exact cV
 ·conv=>whnf
  rw [hlm];exact c8
def WZ (l:List (List Int)) (hl:l.length < 4000000000000000000) (hr:∀ r ∈ l,r.length < 4000000000000000000):to 36 [] [eM l,eM l] (Bo true) []:=by
 have hlm:(l.map zN).length=l.length:=dV ..;refine ab func36 ?_;refine uG ?_;refine zW.seq l.length (fun k=>((eM l)::(eM l)::.za::.za::Bo false::I k::hZ (hZ (hZ (hZ (hZ ([.za,.za,.za,.za,.za,.za,.za]))))))) (fun k=>[]) (fun k=>True) ?_ trivial (fun k hk _=>?_) (fun _=>?_)
 ·exact cC
 ·obtain ⟨x,hx⟩:∃ x,x=l[k]:=⟨_,rfl⟩;have hg:(l.map zN)[k]?= some (zN x):=by rw [dT,dQ hk,hx];rfl
  have hx1:=hr x tE;have mx:(x.map jL).length=x.length:=dV ..;conv=>whnf
  rw [hlm];refine uF ?_;refine uE ?_;(refine tf hg ?_);(refine tf hg ?_);refine uG ?_
  refine zW.seq x.length (fun j=>((eM l)::(eM l)::.za::.za::Bo false::I k::I j::hZ (hZ (hZ (hZ (hZ ([.za,.za,.za,.za,.za,.za]))))))) (fun k=>[]) (fun k=>True) ?_ trivial (fun j hj _=>?_) (fun _=>?_)
  ·exact cC
  ·have hu:(x.map jL)[j]?= some (jL x[j]):=by rw [dT,dQ hj];rfl
   conv=>whnf
   (refine tf hg ?_)
   rw [mx];refine uF ?_;refine uE ?_;(refine tf hg ?_)
   (refine tf hu ?_)
   (refine tf hg ?_)
   (refine tf hu ?_)
   refine uG ?_;exact cV
  ·conv=>whnf
   (refine tf hg ?_)
   rw [mx];refine uG ?_;(refine ⟨aj,uH ?_⟩)
   exact cV
 ·conv=>whnf
  rw [hlm];refine uG ?_;(refine ⟨aj,uH ?_⟩)
  exact uI
def Xe (l:List eV) (hl:l.length < 4000000000000000000) (hr:∀ x ∈ l,x.zL.length < 4000000000000000000):to 86 [] [lC l,lC l] (Bo true) []:=by
 have hlm:(l.map xa).length=l.length:=dV ..;refine ab func86 ?_;refine uG ?_;refine zW.seq l.length (fun k=>(lC l::lC l:: .za::.za::Bo false::I k:: .za::.za::.za::hZ (hZ (hZ (hZ (hZ (hZ (hZ (hZ (hZ (hZ (hZ ([]))))))))))))) (fun k=>[]) (fun k=>True) ?_ trivial (fun k hk _=>?_) (fun _=>?_)
 ·exact cC
 ·obtain ⟨x,hx⟩:∃ x,x=l[k]:=⟨_,rfl⟩;have hg:(l.map xa)[k]?= some (xa x):=by rw [dT,dQ hk,hx];rfl
  have hx1:=hr x tE;have mx:(x.zL.map vr).length=x.zL.length:=dV ..;conv=>whnf
  rw [hlm];refine uF ?_;refine uE ?_;(refine tf hg ?_);(refine tf hg ?_);refine uG ?_
  (refine tf hg ?_);(refine tf hg ?_);refine uG ?_
  (refine tf hg ?_);(refine tf hg ?_);refine uG ?_
  (refine tf hg ?_);(refine tf hg ?_);refine uG ?_
  refine zW.seq x.zL.length (fun j=>(lC l::lC l:: .za::.za::Bo false::I k::I j:: .za::.za::hZ (hZ (hZ (hZ (hZ (hZ (hZ (hZ (hZ (hZ (hZ ([]))))))))))))) (fun k=>[]) (fun k=>True) ?_ trivial (fun j hj _=>?_) (fun _=>?_)
  ·exact cC
  ·obtain ⟨b,hb⟩:∃ b,b=x.zL[j]:=⟨_,rfl⟩;have hu:(x.zL.map vr)[j]?= some (vr b):=by rw [dT,dQ hj,hb];rfl
   clear hb
   cases b
   all_goals
    conv=>whnf
    (refine tf hg ?_)
    rw [mx];refine uF ?_;refine uE ?_;(refine tf hg ?_)
    (refine tf hu ?_)
    (repeat (first | (refine ⟨fun _=>?_,?_⟩;rotate_left 1;(focus (intro h;simp at h;done));(refine dd ?_)) | (refine ⟨?_,fun _=>?_⟩;(focus (intro h;simp at h;done));(refine dd ?_))))
    (refine tf hg ?_)
    (refine tf hu ?_)
    (repeat (first | (refine ⟨fun _=>?_,?_⟩;rotate_left 1;(focus (intro h;simp at h;done));(refine dd ?_)) | (refine ⟨?_,fun _=>?_⟩;(focus (intro h;simp at h;done));(refine dd ?_))))
    exact cV
  ·conv=>whnf
   (refine tf hg ?_)
   rw [mx];refine uG ?_;(refine ⟨aj,uH ?_⟩)
   exact cV
 ·conv=>whnf
  rw [hlm];refine uG ?_;(refine ⟨aj,uH ?_⟩)
  exact uI
def Xi (s:Sna) (h1:s.zd.length < 4000000000000000000) (h2:s.rules.length < 4000000000000000000) (h3:s.zk.length < 4000000000000000000) (h4:∀ x ∈ s.zk,x.zL.length < 4000000000000000000):to 61 [] [.agg (qN s),.agg (qN s)] (Bo true) []:=by
 have hlm:(s.rules.map yD).length=s.rules.length:=dV ..;refine ab func61 ?_;refine ah (Xj s.zd h1) ?_;(repeat (first | (refine ⟨fun _=>?_,?_⟩;rotate_left 1;(focus (intro h;simp at h;done));(refine dd ?_)) | (refine ⟨?_,fun _=>?_⟩;(focus (intro h;simp at h;done));(refine dd ?_))))
 refine ah (Xe s.zk h3 h4) ?_;(repeat (first | (refine ⟨fun _=>?_,?_⟩;rotate_left 1;(focus (intro h;simp at h;done));(refine dd ?_)) | (refine ⟨?_,fun _=>?_⟩;(focus (intro h;simp at h;done));(refine dd ?_))))
 refine zW.seq s.rules.length (fun k=>(.agg (qN s)::.agg (qN s)::.ref 0 [] 3 0 0::.ref 1 [] 3 0 0::Bo false::I k::hZ (hZ (hZ (hZ (hZ ([.za]))))))) (fun k=>[⟨1,104,3,[qN s],0⟩,⟨1,104,3,[qN s],0⟩]) (fun k=>True) ?_ trivial (fun k hk _=>?_) (fun _=>?_)
 ·exact cC
 ·have hg:(s.rules.map yD)[k]?= some (yD s.rules[k]):=by rw [dT,dQ hk];rfl
  conv=>whnf
  rw [hlm];refine uF ?_;refine uE ?_;(refine tf hg ?_)
  (refine tf hg ?_)
  refine ⟨au,dd ?_⟩;refine uG ?_;exact dp
 ·conv=>whnf
  rw [hlm];refine uG ?_;(refine ⟨aj,uH ?_⟩)
  exact uI
def Xf {a:En} (ha:a.ok):to 62 [] [.agg (zx a),.agg (zx a)] (Bo true) []:=by
 have h:=Go.Slp.Pt a a ha ha;rw [show Go.Slp.oR a a=true from by simp [Go.Slp.oR]] at h;exact h
structure H6 (s:Sna):Prop where
 zd:s.zd.length < 4000000000000000000
 rules:s.rules.length < 4000000000000000000
 zk:s.zk.length < 4000000000000000000
 zL:∀ x ∈ s.zk,x.zL.length < 4000000000000000000
def Xk (v:u9) (hs:H6 v.snap) (hl:v.zm.length < 4000000000000000000) (hg:∀ g ∈ v.zm,g.ends.length < 4000000000000000000∧∀ e ∈ g.ends,e.ok):to 38 [] [Cv v,Cv v] (Bo true) []:=by
 have hlm:(v.zm.map zE).length=v.zm.length:=dV ..;refine ab func38 ?_;refine ah (Xi v.snap hs.zd hs.rules hs.zk hs.zL) ?_;(repeat (first | (refine ⟨fun _=>?_,?_⟩;rotate_left 1;(focus (intro h;simp at h;done));(refine dd ?_)) | (refine ⟨?_,fun _=>?_⟩;(focus (intro h;simp at h;done));(refine dd ?_))))
 refine ⟨fun hf=>?_,fun hf=>?_⟩
 all_goals
  refine dd ?_;(first | (refine ⟨fun _=>dd ?_,fun h=>absurd ((hf).symm.trans h:true=false) ar⟩) | (refine ⟨fun h=>absurd ((hf).symm.trans h:false=true) ar,fun _=>dd ?_⟩))
  (repeat (first | (refine ⟨fun _=>?_,?_⟩;rotate_left 1;(focus (intro h;simp at h;done));(refine dd ?_)) | (refine ⟨?_,fun _=>?_⟩;(focus (intro h;simp at h;done));(refine dd ?_))))
  refine zW.seq v.zm.length (fun k=>(Cv v::Cv v:: .ref 0 [] 5 0 0:: .ref 1 [] 5 0 0::Bo false::I k:: .za::.za::.za::hZ (hZ (hZ (hZ (hZ (hZ (hZ (hZ (hZ (hZ (hZ ([]))))))))))))) (fun k=>[⟨1,107,5,[zF v],0⟩,⟨1,107,5,[zF v],0⟩]) (fun k=>True) ?_ trivial (fun k hk _=>?_) (fun _=>?_)
  ·exact cC
  ·obtain ⟨g,hx⟩:∃ g,g=v.zm[k]:=⟨_,rfl⟩;have hgm:g ∈ v.zm:=by rw [hx];exact dL
   have hgg:(v.zm.map zE)[k]?= some (zE g):=by rw [dT,dQ hk,hx];rfl
   have hx1:=(hg g hgm).1;have mx:(g.ends.map zx).length=g.ends.length:=dV ..;conv=>whnf
   rw [hlm];refine uF ?_;refine uE ?_;(refine tf hgg ?_);(refine tf hgg ?_);refine uG ?_
   (refine tf hgg ?_);(refine tf hgg ?_);refine uG ?_
   refine zW.seq g.ends.length (fun j=>(Cv v::Cv v:: .ref 0 [] 5 0 0:: .ref 1 [] 5 0 0::Bo false::I k::I j:: .za::.za::hZ (hZ (hZ (hZ (hZ (hZ (hZ (hZ (hZ (hZ (hZ ([]))))))))))))) (fun k=>[⟨1,107,5,[zF v],0⟩,⟨1,107,5,[zF v],0⟩]) (fun k=>True) ?_ trivial (fun j hj _=>?_) (fun _=>?_)
   ·exact cC
   ·obtain ⟨e,he⟩:∃ e,e=g.ends[j]:=⟨_,rfl⟩;have hem:e ∈ g.ends:=by rw [he];exact gS hj
    have hu:(g.ends.map zx)[j]?= some (zx e):=by rw [dT,dQ hj,he];rfl
    conv=>whnf
    (refine tf hgg ?_)
    rw [mx];refine uF ?_;refine .inl ⟨⟨true,[],[],[]⟩,au,uH ?_⟩;(refine tf hgg ?_)
    (refine tf hu ?_)
    (refine tf hgg ?_)
    (refine tf hu ?_)
    refine ah (Xf ((hg g hgm).2 e hem)) ?_;(repeat (first | (refine ⟨fun _=>?_,?_⟩;rotate_left 1;(focus (intro h;simp at h;done));(refine dd ?_)) | (refine ⟨?_,fun _=>?_⟩;(focus (intro h;simp at h;done));(refine dd ?_))))
    exact dp
   ·conv=>whnf
    (refine tf hgg ?_)
    rw [mx];refine uG ?_;(refine ⟨aj,uH ?_⟩)
    exact dp
  ·conv=>whnf
   rw [hlm];refine uG ?_;(refine ⟨aj,uH ?_⟩)
   exact uI
structure H7 (w:Wor):Prop where
 wk:Wk w
 MF:∀ v ∈ w.ze,H6 v.snap
 ends : ∀ v ∈ w.ze, ∀ g ∈ v.zm, ∀ e ∈ g.ends, e.ok
 counts:∀ r ∈ w.counts,r.length < 4000000000000000000
def Xl (w:Wor) (hw:H7 w):to 14 [] [Cw w,Cw w] (Bo true) []:=by
 have m2:(w.ze.map zF).length=w.ze.length:=dV ..;have m3:(w.zd.map qK).length=w.zd.length:=dV ..;have b2:=hw.wk.ze;have b3:=hw.wk.zd;refine ab func14 ?_;(repeat (first | (refine ⟨fun _=>?_,?_⟩;rotate_left 1;(focus (intro h;simp at h;done));(refine dd ?_)) | (refine ⟨?_,fun _=>?_⟩;(focus (intro h;simp at h;done));(refine dd ?_))))
 refine ah (Xg w.pins hw.wk.pins) ?_;(repeat (first | (refine ⟨fun _=>?_,?_⟩;rotate_left 1;(focus (intro h;simp at h;done));(refine dd ?_)) | (refine ⟨?_,fun _=>?_⟩;(focus (intro h;simp at h;done));(refine dd ?_))))
 refine ah (WZ w.counts hw.wk.counts hw.counts) ?_;(repeat (first | (refine ⟨fun _=>?_,?_⟩;rotate_left 1;(focus (intro h;simp at h;done));(refine dd ?_)) | (refine ⟨?_,fun _=>?_⟩;(focus (intro h;simp at h;done));(refine dd ?_))))
 refine ah (Xh w.zr hw.wk.zr) ?_;(repeat (first | (refine ⟨fun _=>?_,?_⟩;rotate_left 1;(focus (intro h;simp at h;done));(refine dd ?_)) | (refine ⟨?_,fun _=>?_⟩;(focus (intro h;simp at h;done));(refine dd ?_))))
 refine zW.seq w.ze.length (fun k=>(Cw w::Cw w:: .ref 0 [] 8 0 0:: .ref 1 [] 8 0 0::Bo false::I k:: .za::.za::.za::hZ (hZ (hZ (hZ (hZ (hZ (hZ (hZ (hZ (hZ (hZ (hZ ([])))))))))))))) (fun k=>[⟨1,37,8,[zJ w],0⟩,⟨1,37,8,[zJ w],0⟩]) (fun k=>True) ?_ trivial (fun k hk _=>?_) (fun _=>?_)
 ·exact cC
 ·obtain ⟨v,hx⟩:∃ v,v=w.ze[k]:=⟨_,rfl⟩;have hv:v ∈ w.ze:=by rw [hx];exact dL
  have hg:(w.ze.map zF)[k]?= some (zF v):=by rw [dT,dQ hk,hx];rfl
  conv=>whnf
  rw [m2];refine uF ?_;refine .inl ⟨⟨true,[],[],[]⟩,au,uH ?_⟩;(refine tf hg ?_)
  (refine tf hg ?_)
  refine ah (Xk v (hw.MF v hv) (hw.wk.zm v hv).1 (fun g hg=>⟨(hw.wk.zm v hv).2 g hg,hw.ends v hv g hg⟩)) ?_;(repeat (first | (refine ⟨fun _=>?_,?_⟩;rotate_left 1;(focus (intro h;simp at h;done));(refine dd ?_)) | (refine ⟨?_,fun _=>?_⟩;(focus (intro h;simp at h;done));(refine dd ?_))))
  exact dp
 conv=>whnf
 rw [m2];refine uG ?_;(refine ⟨aj,uH ?_⟩)
 refine zW.seq w.zd.length (fun k=>(Cw w::Cw w:: .ref 0 [] 8 0 0:: .ref 1 [] 8 0 0::Bo false:: .za::I k:: .za::.za::hZ (hZ (hZ (hZ (hZ (hZ (hZ (hZ (hZ (hZ (hZ (hZ ([])))))))))))))) (fun k=>[⟨1,37,8,[zJ w],0⟩,⟨1,37,8,[zJ w],0⟩]) (fun k=>True) ?_ trivial (fun k hk _=>?_) (fun _=>?_)
 ·exact cC
 ·obtain ⟨x,hx⟩:∃ x,x=w.zd[k]:=⟨_,rfl⟩;have hg:(w.zd.map qK)[k]?= some (qK x):=by rw [dT,dQ hk,hx];rfl
  conv=>whnf
  rw [m3];refine uF ?_;refine uE ?_;(refine tf hg ?_)
  (refine tf hg ?_)
  refine ⟨au,dd ?_⟩;refine uG ?_;exact dp
 ·conv=>whnf
  rw [m3];refine uG ?_;(refine ⟨aj,uH ?_⟩)
  exact uI
end Go.Wor
