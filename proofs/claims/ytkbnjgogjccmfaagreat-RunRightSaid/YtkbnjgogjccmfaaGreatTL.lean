import Derived.Test.YtkbnjgogjccmfaaGreatTK
set_option linter.all false
set_option maxRecDepth 100000
set_option maxHeartbeats 4000000
namespace Go.Wor
open Go.Ab Go.Proofs Tryz Go.Hy Go.Gat Go.Nam Go.Hos Go.Con Go.Sna
structure Wk (w:Wor):Prop where
 pins:w.pins.length < 4000000000000000000
 ze:w.ze.length < 4000000000000000000
 zd:w.zd.length < 4000000000000000000
 counts:w.counts.length < 4000000000000000000
 zr:w.zr.length < 4000000000000000000
 Mp:∀ v ∈ w.ze,v.snap.zd.length < 4000000000000000000∧v.snap.rules.length < 4000000000000000000∧v.snap.zk.length < 4000000000000000000
 zm:∀ v ∈ w.ze,v.zm.length < 4000000000000000000∧∀ g ∈ v.zm,g.ends.length < 4000000000000000000
def Wo (l:List u4) (hl:l.length < 4000000000000000000):tn 85 [] [lT l,lT l] (Bo true) []:=by
 have hlm:(l.map ql).length=l.length:=dR ..;refine ab func85 ?_;refine uG ?_;refine zZ.seq l.length (fun k=>((lT l)::(lT l)::.za::.za::Bo false::I k::tZ (tZ ([.za,.za,.za,.za])))) (fun k=>[]) (fun k=>True) ?_ trivial (fun k hk hr=>?_) (fun hr=>?_)
 ·exact cC
 ·have hg:(l.map ql)[k]?= some (ql l[k]):=by rw [dP,dM hk];rfl
  conv=>whnf
  rw [hlm];refine uF ?_;refine uE ?_;(refine td hg ?_)
  (refine td hg ?_)
  (try (refine ⟨au,dd ?_⟩))
  refine uG ?_;exact cU
 ·conv=>whnf
  rw [hlm];exact cZ
def Wl (l:List Int) (hl:l.length < 4000000000000000000):tn 35 [] [lI l,lI l] (Bo true) []:=by
 have hlm:(l.map Go.Hy.encI).length=l.length:=dR ..;refine ab func35 ?_;refine uG ?_;refine zZ.seq l.length (fun k=>((lI l)::(lI l)::.za::.za::Bo false::I k::tZ (tZ ([.za,.za,.za,.za])))) (fun k=>[]) (fun k=>True) ?_ trivial (fun k hk hr=>?_) (fun hr=>?_)
 ·exact cC
 ·have hg:(l.map Go.Hy.encI)[k]?= some (Go.Hy.encI l[k]):=by rw [dP,dM hk];rfl
  conv=>whnf
  rw [hlm];refine uF ?_;refine uE ?_;(refine td hg ?_)
  (refine td hg ?_)
  (try (refine ⟨au,dd ?_⟩))
  refine uG ?_;exact cU
 ·conv=>whnf
  rw [hlm];exact cZ
def Wm (l:List eC) (hl:l.length < 4000000000000000000):tn 37 [] [lR l,lR l] (Bo true) []:=by
 have hlm:(l.map xq).length=l.length:=dR ..;refine ab func37 ?_;refine uG ?_;refine zZ.seq l.length (fun k=>((lR l)::(lR l)::.za::.za::Bo false::I k::tZ (tZ ([.za,.za,.za,.za])))) (fun k=>[]) (fun k=>True) ?_ trivial (fun k hk hr=>?_) (fun hr=>?_)
 ·exact cC
 ·have hg:(l.map xq)[k]?= some (xq l[k]):=by rw [dP,dM hk];rfl
  conv=>whnf
  rw [hlm];refine uF ?_;refine uE ?_;(refine td hg ?_)
  (refine td hg ?_)
  (try (refine ⟨au,dd ?_⟩))
  refine uG ?_;exact cU
 ·conv=>whnf
  rw [hlm];exact cZ
def Ws (l:List (List Int)) (hl:l.length < 4000000000000000000) (hr:∀ r ∈ l,r.length < 4000000000000000000):tn 36 [] [eG l,eG l] (Bo true) []:=by
 have hlm:(l.map zN).length=l.length:=dR ..;refine ab func36 ?_;refine uG ?_;refine zZ.seq l.length (fun k=>((eG l)::(eG l)::.za::.za::Bo false::I k::tZ (tZ (tZ (tZ (tZ ([.za,.za,.za,.za,.za,.za,.za]))))))) (fun k=>[]) (fun k=>True) ?_ trivial (fun k hk _=>?_) (fun _=>?_)
 ·exact cC
 ·obtain ⟨x,hx⟩:∃ x,x=l[k]:=⟨_,rfl⟩;have hg:(l.map zN)[k]?= some (zN x):=by rw [dP,dM hk,hx];rfl
  have hx1:=hr x tD;have mx:(x.map jH).length=x.length:=dR ..;conv=>whnf
  rw [hlm];refine uF ?_;refine uE ?_;(refine td hg ?_);(refine td hg ?_);refine uG ?_
  refine zZ.seq x.length (fun j=>((eG l)::(eG l)::.za::.za::Bo false::I k::I j::tZ (tZ (tZ (tZ (tZ ([.za,.za,.za,.za,.za,.za]))))))) (fun k=>[]) (fun k=>True) ?_ trivial (fun j hj _=>?_) (fun _=>?_)
  ·exact cC
  ·have hu:(x.map jH)[j]?= some (jH x[j]):=by rw [dP,dM hj];rfl
   conv=>whnf
   (refine td hg ?_)
   rw [mx];refine uF ?_;refine uE ?_;(refine td hg ?_)
   (refine td hu ?_)
   (refine td hg ?_)
   (refine td hu ?_)
   refine uG ?_;exact cU
  ·conv=>whnf
   (refine td hg ?_)
   rw [mx];refine uG ?_;(refine ⟨aj,uH ?_⟩)
   exact cU
 ·conv=>whnf
  rw [hlm];refine uG ?_;(refine ⟨aj,uH ?_⟩)
  exact uI
def Wi (l:List eM) (hl:l.length < 4000000000000000000) (hr:∀ x ∈ l,x.zL.length < 4000000000000000000):tn 86 [] [lC l,lC l] (Bo true) []:=by
 have hlm:(l.map j6).length=l.length:=dR ..;refine ab func86 ?_;refine uG ?_;refine zZ.seq l.length (fun k=>(lC l::lC l:: .za::.za::Bo false::I k:: .za::.za::.za::tZ (tZ (tZ (tZ (tZ (tZ (tZ (tZ (tZ (tZ (tZ ([]))))))))))))) (fun k=>[]) (fun k=>True) ?_ trivial (fun k hk _=>?_) (fun _=>?_)
 ·exact cC
 ·obtain ⟨x,hx⟩:∃ x,x=l[k]:=⟨_,rfl⟩;have hg:(l.map j6)[k]?= some (j6 x):=by rw [dP,dM hk,hx];rfl
  have hx1:=hr x tD;have mx:(x.zL.map vq).length=x.zL.length:=dR ..;conv=>whnf
  rw [hlm];refine uF ?_;refine uE ?_;(refine td hg ?_);(refine td hg ?_);refine uG ?_
  (refine td hg ?_);(refine td hg ?_);refine uG ?_
  (refine td hg ?_);(refine td hg ?_);refine uG ?_
  (refine td hg ?_);(refine td hg ?_);refine uG ?_
  refine zZ.seq x.zL.length (fun j=>(lC l::lC l:: .za::.za::Bo false::I k::I j:: .za::.za::tZ (tZ (tZ (tZ (tZ (tZ (tZ (tZ (tZ (tZ (tZ ([]))))))))))))) (fun k=>[]) (fun k=>True) ?_ trivial (fun j hj _=>?_) (fun _=>?_)
  ·exact cC
  ·obtain ⟨b,hb⟩:∃ b,b=x.zL[j]:=⟨_,rfl⟩;have hu:(x.zL.map vq)[j]?= some (vq b):=by rw [dP,dM hj,hb];rfl
   clear hb
   cases b
   all_goals
    conv=>whnf
    (refine td hg ?_)
    rw [mx];refine uF ?_;refine uE ?_;(refine td hg ?_)
    (refine td hu ?_)
    (repeat (first | (refine ⟨fun _=>?_,?_⟩;rotate_left 1;(focus (intro h;simp at h;done));(refine dd ?_)) | (refine ⟨?_,fun _=>?_⟩;(focus (intro h;simp at h;done));(refine dd ?_))))
    (refine td hg ?_)
    (refine td hu ?_)
    (repeat (first | (refine ⟨fun _=>?_,?_⟩;rotate_left 1;(focus (intro h;simp at h;done));(refine dd ?_)) | (refine ⟨?_,fun _=>?_⟩;(focus (intro h;simp at h;done));(refine dd ?_))))
    exact cU
  ·conv=>whnf
   (refine td hg ?_)
   rw [mx];refine uG ?_;(refine ⟨aj,uH ?_⟩)
   exact cU
 ·conv=>whnf
  rw [hlm];refine uG ?_;(refine ⟨aj,uH ?_⟩)
  exact uI
def Wn (s:Sna) (h1:s.zd.length < 4000000000000000000) (h2:s.rules.length < 4000000000000000000) (h3:s.zk.length < 4000000000000000000) (h4:∀ x ∈ s.zk,x.zL.length < 4000000000000000000):tn 61 [] [.agg (qK s),.agg (qK s)] (Bo true) []:=by
 have hlm:(s.rules.map yw).length=s.rules.length:=dR ..;refine ab func61 ?_;refine ah (Wo s.zd h1) ?_;(repeat (first | (refine ⟨fun _=>?_,?_⟩;rotate_left 1;(focus (intro h;simp at h;done));(refine dd ?_)) | (refine ⟨?_,fun _=>?_⟩;(focus (intro h;simp at h;done));(refine dd ?_))))
 refine ah (Wi s.zk h3 h4) ?_;(repeat (first | (refine ⟨fun _=>?_,?_⟩;rotate_left 1;(focus (intro h;simp at h;done));(refine dd ?_)) | (refine ⟨?_,fun _=>?_⟩;(focus (intro h;simp at h;done));(refine dd ?_))))
 refine zZ.seq s.rules.length (fun k=>(.agg (qK s)::.agg (qK s)::.ref 0 [] 3 0 0::.ref 1 [] 3 0 0::Bo false::I k::tZ (tZ (tZ (tZ (tZ ([.za]))))))) (fun k=>[⟨1,104,3,[qK s],0⟩,⟨1,104,3,[qK s],0⟩]) (fun k=>True) ?_ trivial (fun k hk _=>?_) (fun _=>?_)
 ·exact cC
 ·have hg:(s.rules.map yw)[k]?= some (yw s.rules[k]):=by rw [dP,dM hk];rfl
  conv=>whnf
  rw [hlm];refine uF ?_;refine uE ?_;(refine td hg ?_)
  (refine td hg ?_)
  refine ⟨au,dd ?_⟩;refine uG ?_;exact c7
 ·conv=>whnf
  rw [hlm];refine uG ?_;(refine ⟨aj,uH ?_⟩)
  exact uI
def Wj {a:En} (ha:a.ok):tn 62 [] [.agg (zx a),.agg (zx a)] (Bo true) []:=by
 have h:=Go.Slp.Ps a a ha ha;rw [show Go.Slp.oJ a a=true from by simp [Go.Slp.oJ]] at h;exact h
structure HK (s:Sna):Prop where
 zd:s.zd.length < 4000000000000000000
 rules:s.rules.length < 4000000000000000000
 zk:s.zk.length < 4000000000000000000
 zL:∀ x ∈ s.zk,x.zL.length < 4000000000000000000
def Wp (v:u3) (hs:HK v.snap) (hl:v.zm.length < 4000000000000000000) (hg:∀ g ∈ v.zm,g.ends.length < 4000000000000000000∧∀ e ∈ g.ends,e.ok):tn 38 [] [Cv v,Cv v] (Bo true) []:=by
 have hlm:(v.zm.map zE).length=v.zm.length:=dR ..;refine ab func38 ?_;refine ah (Wn v.snap hs.zd hs.rules hs.zk hs.zL) ?_;(repeat (first | (refine ⟨fun _=>?_,?_⟩;rotate_left 1;(focus (intro h;simp at h;done));(refine dd ?_)) | (refine ⟨?_,fun _=>?_⟩;(focus (intro h;simp at h;done));(refine dd ?_))))
 refine ⟨fun hf=>?_,fun hf=>?_⟩
 all_goals
  refine dd ?_;(first | (refine ⟨fun _=>dd ?_,fun h=>absurd ((hf).symm.trans h:true=false) ar⟩) | (refine ⟨fun h=>absurd ((hf).symm.trans h:false=true) ar,fun _=>dd ?_⟩))
  (repeat (first | (refine ⟨fun _=>?_,?_⟩;rotate_left 1;(focus (intro h;simp at h;done));(refine dd ?_)) | (refine ⟨?_,fun _=>?_⟩;(focus (intro h;simp at h;done));(refine dd ?_))))
  refine zZ.seq v.zm.length (fun k=>(Cv v::Cv v:: .ref 0 [] 5 0 0:: .ref 1 [] 5 0 0::Bo false::I k:: .za::.za::.za::tZ (tZ (tZ (tZ (tZ (tZ (tZ (tZ (tZ (tZ (tZ ([]))))))))))))) (fun k=>[⟨1,107,5,[zF v],0⟩,⟨1,107,5,[zF v],0⟩]) (fun k=>True) ?_ trivial (fun k hk _=>?_) (fun _=>?_)
  ·exact cC
  ·obtain ⟨g,hx⟩:∃ g,g=v.zm[k]:=⟨_,rfl⟩;have hgm:g ∈ v.zm:=by rw [hx];exact dH
   have hgg:(v.zm.map zE)[k]?= some (zE g):=by rw [dP,dM hk,hx];rfl
   have hx1:=(hg g hgm).1;have mx:(g.ends.map zx).length=g.ends.length:=dR ..;conv=>whnf
   rw [hlm];refine uF ?_;refine uE ?_;(refine td hgg ?_);(refine td hgg ?_);refine uG ?_
   (refine td hgg ?_);(refine td hgg ?_);refine uG ?_
   refine zZ.seq g.ends.length (fun j=>(Cv v::Cv v:: .ref 0 [] 5 0 0:: .ref 1 [] 5 0 0::Bo false::I k::I j:: .za::.za::tZ (tZ (tZ (tZ (tZ (tZ (tZ (tZ (tZ (tZ (tZ ([]))))))))))))) (fun k=>[⟨1,107,5,[zF v],0⟩,⟨1,107,5,[zF v],0⟩]) (fun k=>True) ?_ trivial (fun j hj _=>?_) (fun _=>?_)
   ·exact cC
   ·obtain ⟨e,he⟩:∃ e,e=g.ends[j]:=⟨_,rfl⟩;have hem:e ∈ g.ends:=by rw [he];exact gQ hj
    have hu:(g.ends.map zx)[j]?= some (zx e):=by rw [dP,dM hj,he];rfl
    conv=>whnf
    (refine td hgg ?_)
    rw [mx];refine uF ?_;refine .inl ⟨⟨true,[],[],[]⟩,au,uH ?_⟩;(refine td hgg ?_)
    (refine td hu ?_)
    (refine td hgg ?_)
    (refine td hu ?_)
    refine ah (Wj ((hg g hgm).2 e hem)) ?_;(repeat (first | (refine ⟨fun _=>?_,?_⟩;rotate_left 1;(focus (intro h;simp at h;done));(refine dd ?_)) | (refine ⟨?_,fun _=>?_⟩;(focus (intro h;simp at h;done));(refine dd ?_))))
    exact c7
   ·conv=>whnf
    (refine td hgg ?_)
    rw [mx];refine uG ?_;(refine ⟨aj,uH ?_⟩)
    exact c7
  ·conv=>whnf
   rw [hlm];refine uG ?_;(refine ⟨aj,uH ?_⟩)
   exact uI
structure HL (w:Wor):Prop where
 wk:Wk w
 Mp:∀ v ∈ w.ze,HK v.snap
 ends : ∀ v ∈ w.ze, ∀ g ∈ v.zm, ∀ e ∈ g.ends, e.ok
 counts:∀ r ∈ w.counts,r.length < 4000000000000000000
def Wq (w:Wor) (hw:HL w):tn 14 [] [Cw w,Cw w] (Bo true) []:=by
 have m2:(w.ze.map zF).length=w.ze.length:=dR ..;have m3:(w.zd.map qH).length=w.zd.length:=dR ..;have b2:=hw.wk.ze;have b3:=hw.wk.zd;refine ab func14 ?_;(repeat (first | (refine ⟨fun _=>?_,?_⟩;rotate_left 1;(focus (intro h;simp at h;done));(refine dd ?_)) | (refine ⟨?_,fun _=>?_⟩;(focus (intro h;simp at h;done));(refine dd ?_))))
 refine ah (Wl w.pins hw.wk.pins) ?_;(repeat (first | (refine ⟨fun _=>?_,?_⟩;rotate_left 1;(focus (intro h;simp at h;done));(refine dd ?_)) | (refine ⟨?_,fun _=>?_⟩;(focus (intro h;simp at h;done));(refine dd ?_))))
 refine ah (Ws w.counts hw.wk.counts hw.counts) ?_;(repeat (first | (refine ⟨fun _=>?_,?_⟩;rotate_left 1;(focus (intro h;simp at h;done));(refine dd ?_)) | (refine ⟨?_,fun _=>?_⟩;(focus (intro h;simp at h;done));(refine dd ?_))))
 refine ah (Wm w.zr hw.wk.zr) ?_;(repeat (first | (refine ⟨fun _=>?_,?_⟩;rotate_left 1;(focus (intro h;simp at h;done));(refine dd ?_)) | (refine ⟨?_,fun _=>?_⟩;(focus (intro h;simp at h;done));(refine dd ?_))))
 refine zZ.seq w.ze.length (fun k=>(Cw w::Cw w:: .ref 0 [] 8 0 0:: .ref 1 [] 8 0 0::Bo false::I k:: .za::.za::.za::tZ (tZ (tZ (tZ (tZ (tZ (tZ (tZ (tZ (tZ (tZ (tZ ([])))))))))))))) (fun k=>[⟨1,37,8,[zJ w],0⟩,⟨1,37,8,[zJ w],0⟩]) (fun k=>True) ?_ trivial (fun k hk _=>?_) (fun _=>?_)
 ·exact cC
 ·obtain ⟨v,hx⟩:∃ v,v=w.ze[k]:=⟨_,rfl⟩;have hv:v ∈ w.ze:=by rw [hx];exact dH
  have hg:(w.ze.map zF)[k]?= some (zF v):=by rw [dP,dM hk,hx];rfl
  conv=>whnf
  rw [m2];refine uF ?_;refine .inl ⟨⟨true,[],[],[]⟩,au,uH ?_⟩;(refine td hg ?_)
  (refine td hg ?_)
  refine ah (Wp v (hw.Mp v hv) (hw.wk.zm v hv).1 (fun g hg=>⟨(hw.wk.zm v hv).2 g hg,hw.ends v hv g hg⟩)) ?_;(repeat (first | (refine ⟨fun _=>?_,?_⟩;rotate_left 1;(focus (intro h;simp at h;done));(refine dd ?_)) | (refine ⟨?_,fun _=>?_⟩;(focus (intro h;simp at h;done));(refine dd ?_))))
  exact c7
 conv=>whnf
 rw [m2];refine uG ?_;(refine ⟨aj,uH ?_⟩)
 refine zZ.seq w.zd.length (fun k=>(Cw w::Cw w:: .ref 0 [] 8 0 0:: .ref 1 [] 8 0 0::Bo false:: .za::I k:: .za::.za::tZ (tZ (tZ (tZ (tZ (tZ (tZ (tZ (tZ (tZ (tZ (tZ ([])))))))))))))) (fun k=>[⟨1,37,8,[zJ w],0⟩,⟨1,37,8,[zJ w],0⟩]) (fun k=>True) ?_ trivial (fun k hk _=>?_) (fun _=>?_)
 ·exact cC
 ·obtain ⟨x,hx⟩:∃ x,x=w.zd[k]:=⟨_,rfl⟩;have hg:(w.zd.map qH)[k]?= some (qH x):=by rw [dP,dM hk,hx];rfl
  conv=>whnf
  rw [m3];refine uF ?_;refine uE ?_;(refine td hg ?_)
  (refine td hg ?_)
  refine ⟨au,dd ?_⟩;refine uG ?_;exact c7
 ·conv=>whnf
  rw [m3];refine uG ?_;(refine ⟨aj,uH ?_⟩)
  exact uI
end Go.Wor
