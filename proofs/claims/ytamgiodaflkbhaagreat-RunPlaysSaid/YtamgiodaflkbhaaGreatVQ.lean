import Derived.Test.YtamgiodaflkbhaaGreatVO
import Derived.Test.YtamgiodaflkbhaaGreatVK
import Derived.Test.YtamgiodaflkbhaaGreatV9
set_option linter.all false
set_option maxRecDepth 100000
set_option maxHeartbeats 4000000
namespace Go.Hy
open Go.Ab Go.Proofs Tryz
def fQ.ow(o:fQ):Prop:=o.ok/\i64 o.d0/\i64 o.d1
def U6:qu prog 48 yB fQ.ow:=
 qu.map (qu.struct underlying48 ak (jc.cons V (qu.int underlying3) (jc.cons V (kI) (jc.cons V (kI) (jc.cons V (kI) (jc.cons V (qu.int underlying3) (jc.cons V (qu.int underlying3) (jc.cons V (qu.int underlying3) (jc.cons V LR (jc.nil _)))))))))) (λx=>⟨x.1,x.2.1,x.2.2.1,x.2.2.2.1,x.2.2.2.2.1,x.2.2.2.2.2.1,x.2.2.2.2.2.2.1,x.2.2.2.2.2.2.2.1⟩) λx h=>⟨⟨⟨h.2.1,h.2.2.1,h.2.2.2.1,h.2.2.2.2.2.2.2.1⟩,wf_i64 h.2.2.2.2.1,wf_i64 h.2.2.2.2.2.1⟩,by simp[yB]⟩
def Vn:qu prog 59 (λl:List fQ=>[lP l]) (λl=>(∀x∈l,x.ow)/\l.length*152<=reachBytes):=
 qu.slice (sz:=10) (by_:=152) underlying59 ak ak aj (λ_=>V) U6
def SJ:qu prog 27 (λl:List (List fQ)=>[Cz l]) (λl=>(∀x∈l,(∀o∈x,o.ow)/\x.length*152<=reachBytes)/\l.length*24<=reachBytes):=
 qu.slice (sz:=1) (by_:=24) underlying27 ak ak aj (λ_=>V) Vn
def ic.ow(s:ic):Prop:=s.first.ok/\((∀x∈s.threads,(∀o∈x,o.ow)/\x.length*152<=reachBytes)/\s.threads.length*24<=reachBytes)/\(∀p∈s.zY,i64 p)/\s.zY.length*8<=reachBytes
def U7:qu prog 30 vA ic.ow:=
 qu.map (qu.struct underlying30 ak (jc.cons V LR (jc.cons V SJ (jc.cons V Xc (jc.nil _))))) (λx=>⟨x.1,x.2.1,x.2.2.1⟩) λx h=>⟨⟨h.1,h.2.1,λp hp=>wf_i64 (h.2.2.1.1 p hp),h.2.2.1.2⟩,by simp[vA]⟩
def arg_ScrI:GR prog 30 (λx=>.agg (vA x)) ic.ow:=qu.Uq underlying30 U7
end Go.Hy
namespace Go.Wor
open Go.Ab Go.Proofs Tryz Go.Hy Go.Gat Go.Nam Go.Hos Go.Con Go.Sna
structure Wk(w:Wor):Prop where
 pins:w.pins.length<4000000000000000000
 zd:w.zd.length<4000000000000000000
 zc:w.zc.length<4000000000000000000
 counts:w.counts.length<4000000000000000000
 zn:w.zn.length<4000000000000000000
 Nh:∀v∈w.zd,v.snap.zc.length<4000000000000000000/\v.snap.rules.length<4000000000000000000/\v.snap.zj.length<4000000000000000000
 zg:∀v∈w.zd,v.zg.length<4000000000000000000/\∀g∈v.zg,g.ends.length<4000000000000000000
def X8(l:List fB)(hl:l.length<4000000000000000000):th 133 [] [lT l,lT l] (Bo true) []:=by
 have hlm:(l.map z7).length=l.length:=pz ..;refine ab func133 ?_;refine uG ?_;refine zH.seq l.length (λk=>((lT l)::(lT l)::.za::.za::Bo false::I k::mL (mL ([.za,.za,.za,.za])))) (λk=>[]) (λk=>True) ?_ trivial (λk hk hr=>?_) (λhr=>?_)
 .exact cC
 .have hg:(l.map z7)[k]?=some (z7 l[k]):=by rw[pw,pq hk];rfl
  conv=>whnf
  rw[hlm];refine za8 ?_
  refine zbR ?_
  (try (refine⟨ak,dd ?_⟩))
  refine uG ?_;exact gd
 .conv=>whnf
  rw[hlm];exact dO
def X5(l:List Int)(hl:l.length<4000000000000000000):th 35 [] [lI l,lI l] (Bo true) []:=by
 have hlm:(l.map Go.Hy.encI).length=l.length:=pz ..;refine ab func35 ?_;refine uG ?_;refine zH.seq l.length (λk=>((lI l)::(lI l)::.za::.za::Bo false::I k::mL (mL ([.za,.za,.za,.za])))) (λk=>[]) (λk=>True) ?_ trivial (λk hk hr=>?_) (λhr=>?_)
 .exact cC
 .have hg:(l.map Go.Hy.encI)[k]?=some (Go.Hy.encI l[k]):=by rw[pw,pq hk];rfl
  conv=>whnf
  rw[hlm];refine za8 ?_
  refine zbR ?_
  (try (refine⟨ak,dd ?_⟩))
  refine uG ?_;exact gd
 .conv=>whnf
  rw[hlm];exact dO
def X6(l:List fK)(hl:l.length<4000000000000000000):th 37 [] [lR l,lR l] (Bo true) []:=by
 have hlm:(l.map qk).length=l.length:=pz ..;refine ab func37 ?_;refine uG ?_;refine zH.seq l.length (λk=>((lR l)::(lR l)::.za::.za::Bo false::I k::mL (mL ([.za,.za,.za,.za])))) (λk=>[]) (λk=>True) ?_ trivial (λk hk hr=>?_) (λhr=>?_)
 .exact cC
 .have hg:(l.map qk)[k]?=some (qk l[k]):=by rw[pw,pq hk];rfl
  conv=>whnf
  rw[hlm];refine za8 ?_
  refine zbR ?_
  (try (refine⟨ak,dd ?_⟩))
  refine uG ?_;exact gd
 .conv=>whnf
  rw[hlm];exact dO
def XG(l:List (List Int))(hl:l.length<4000000000000000000)(hr:∀r∈l,r.length<4000000000000000000):th 36 [] [fJ l,fJ l] (Bo true) []:=by
 have hlm:(l.map zA).length=l.length:=pz ..;refine ab func36 ?_;refine uG ?_;refine zH.seq l.length (λk=>((fJ l)::(fJ l)::.za::.za::Bo false::I k::mL (jp ([.za,.za,.za,.za,.za,.za,.za])))) (λk=>[]) (λk=>True) ?_ trivial (λk hk _=>?_) (λ_=>?_)
 .exact cC
 .obtain⟨x,hx⟩:∃x,x=l[k]:=⟨_,rfl⟩;have hg:(l.map zA)[k]?=some (zA x):=by rw[pw,pq hk,hx];rfl
  have hx1:=hr x uY;have mx:(x.map qD).length=x.length:=pz ..;conv=>whnf
  rw[hlm];refine za8 ?_;refine zbR ?_;refine uG ?_
  refine zH.seq x.length (λj=>((fJ l)::(fJ l)::.za::.za::Bo false::I k::I j::mL (jp ([.za,.za,.za,.za,.za,.za])))) (λk=>[]) (λk=>True) ?_ trivial (λj hj _=>?_) (λ_=>?_)
  .exact cC
  .have hu:(x.map qD)[j]?=some (qD x[j]):=by rw[pw,pq hj];rfl
   conv=>whnf
   refine zbR ?_
   rw[mx];refine za8 ?_
   (refine te hu ?_)
   refine zbR ?_
   (refine te hu ?_)
   refine uG ?_;exact gd
  .conv=>whnf
   refine zbR ?_
   rw[mx];refine zbf ?_
   exact gd
 .conv=>whnf
  rw[hlm];refine zbf ?_
  exact uI
def X3(l:List fV)(hl:l.length<4000000000000000000)(hr:∀x∈l,x.zM.length<4000000000000000000):th 134 [] [lC l,lC l] (Bo true) []:=by
 have hlm:(l.map jx).length=l.length:=pz ..;refine ab func134 ?_;refine uG ?_;refine zH.seq l.length (λk=>(lC l::lC l:: .za::.za::Bo false::I k:: .za::.za::.za::mL (jp (jp (mL (mL ([]))))))) (λk=>[]) (λk=>True) ?_ trivial (λk hk _=>?_) (λ_=>?_)
 .exact cC
 .obtain⟨x,hx⟩:∃x,x=l[k]:=⟨_,rfl⟩;have hg:(l.map jx)[k]?=some (jx x):=by rw[pw,pq hk,hx];rfl
  have hx1:=hr x uY;have mx:(x.zM.map yK).length=x.zM.length:=pz ..;conv=>whnf
  rw[hlm];refine za8 ?_;refine zbR ?_;refine uG ?_
  refine zbR ?_;refine zbR ?_;refine uG ?_
  refine zbR ?_;refine zbR ?_;refine uG ?_
  refine zbR ?_;refine zbR ?_;refine uG ?_
  refine zH.seq x.zM.length (λj=>(lC l::lC l:: .za::.za::Bo false::I k::I j:: .za::.za::mL (jp (jp (mL (mL ([]))))))) (λk=>[]) (λk=>True) ?_ trivial (λj hj _=>?_) (λ_=>?_)
  .exact cC
  .obtain⟨b,hb⟩:∃b,b=x.zM[j]:=⟨_,rfl⟩;have hu:(x.zM.map yK)[j]?=some (yK b):=by rw[pw,pq hj,hb];rfl
   clear hb
   cases b
   all_goals
    conv=>whnf
    refine zbR ?_
    rw[mx];refine za8 ?_
    (refine te hu ?_)
    refine zak ?_
    refine zbR ?_
    (refine te hu ?_)
    refine zak ?_
    exact gd
  .conv=>whnf
   refine zbR ?_
   rw[mx];refine zbf ?_
   exact gd
 .conv=>whnf
  rw[hlm];refine zbf ?_
  exact uI
def X7(s:Sna)(h1:s.zc.length<4000000000000000000)(h2:s.rules.length<4000000000000000000)(h3:s.zj.length<4000000000000000000)(h4:∀x∈s.zj,x.zM.length<4000000000000000000):th 79 [] [.agg (qV s),.agg (qV s)] (Bo true) []:=by
 have hlm:(s.rules.map ju).length=s.rules.length:=pz ..;refine ab func79 ?_;refine af (X8 s.zc h1) ?_;refine zak ?_
 refine af (X3 s.zj h3 h4) ?_;refine zak ?_
 refine zH.seq s.rules.length (λk=>(.agg (qV s)::.agg (qV s)::.ref 0 [] 3 0 0::.ref 1 [] 3 0 0::Bo false::I k::mL (jp ([.za])))) (λk=>[⟨1,86,3,[qV s],0⟩,⟨1,86,3,[qV s],0⟩]) (λk=>True) ?_ trivial (λk hk _=>?_) (λ_=>?_)
 .exact cC
 .have hg:(s.rules.map ju)[k]?=some (ju s.rules[k]):=by rw[pw,pq hk];rfl
  conv=>whnf
  rw[hlm];refine za8 ?_
  refine zbR ?_
  refine⟨ak,dd ?_⟩;refine uG ?_;exact dH
 .conv=>whnf
  rw[hlm];refine zbf ?_
  exact uI
def X4{a:En}(ha:a.ok):th 80 [] [.agg (zx a),.agg (zx a)] (Bo true) []:=by
 have h:=Go.Slp.Rl a a ha ha;rw[show Go.Slp.AU a a=true from by simp[Go.Slp.AU]]at h;exact h
structure Iw(s:Sna):Prop where
 zc:s.zc.length<4000000000000000000
 rules:s.rules.length<4000000000000000000
 zj:s.zj.length<4000000000000000000
 zM:∀x∈s.zj,x.zM.length<4000000000000000000
def X9(v:fC)(hs:Iw v.snap)(hl:v.zg.length<4000000000000000000)(hg:∀g∈v.zg,g.ends.length<4000000000000000000/\∀e∈g.ends,e.ok):th 38 [] [Cv v,Cv v] (Bo true) []:=by
 have hlm:(v.zg.map zy).length=v.zg.length:=pz ..;refine ab func38 ?_;refine af (X7 v.snap hs.zc hs.rules hs.zj hs.zM) ?_;refine zak ?_
 refine⟨λhf=>?_,λhf=>?_⟩
 all_goals
  refine dd ?_;(first|(refine⟨λ_=>dd ?_,λh=>absurd ((hf).symm.trans h:true=false) aj⟩)|(refine⟨λh=>absurd ((hf).symm.trans h:false=true) aj,λ_=>dd ?_⟩))
  refine zak ?_
  refine zH.seq v.zg.length (λk=>(Cv v::Cv v:: .ref 0 [] 5 0 0:: .ref 1 [] 5 0 0::Bo false::I k:: .za::.za::.za::mL (jp (jp (mL (mL ([]))))))) (λk=>[⟨1,106,5,[zt v],0⟩,⟨1,106,5,[zt v],0⟩]) (λk=>True) ?_ trivial (λk hk _=>?_) (λ_=>?_)
  .exact cC
  .obtain⟨g,hx⟩:∃g,g=v.zg[k]:=⟨_,rfl⟩;have hgm:g∈v.zg:=by rw[hx];exact gp
   have hgg:(v.zg.map zy)[k]?=some (zy g):=by rw[pw,pq hk,hx];rfl
   have hx1:=(hg g hgm).1;have mx:(g.ends.map zx).length=g.ends.length:=pz ..;conv=>whnf
   rw[hlm];refine uF ?_;refine uE ?_;refine zbh ?_;refine zbh ?_;refine uG ?_
   refine zbh ?_;refine zbh ?_;refine uG ?_
   refine zH.seq g.ends.length (λj=>(Cv v::Cv v:: .ref 0 [] 5 0 0:: .ref 1 [] 5 0 0::Bo false::I k::I j:: .za::.za::mL (jp (jp (mL (mL ([]))))))) (λk=>[⟨1,106,5,[zt v],0⟩,⟨1,106,5,[zt v],0⟩]) (λk=>True) ?_ trivial (λj hj _=>?_) (λ_=>?_)
   .exact cC
   .obtain⟨e,he⟩:∃e,e=g.ends[j]:=⟨_,rfl⟩;have hem:e∈g.ends:=by rw[he];exact ph
    have hu:(g.ends.map zx)[j]?=some (zx e):=by rw[pw,pq hj,he];rfl
    conv=>whnf
    refine zbh ?_
    rw[mx];refine uF ?_;refine zaY ?_;refine zbh ?_
    (refine te hu ?_)
    refine zbh ?_
    (refine te hu ?_)
    refine af (X4 ((hg g hgm).2 e hem)) ?_;refine zak ?_
    exact dH
   .conv=>whnf
    refine zbh ?_
    rw[mx];refine zbf ?_
    exact dH
  .conv=>whnf
   rw[hlm];refine zbf ?_
   exact uI
structure Bl(w:Wor):Prop where
 wk:Wk w
 Nh:∀v∈w.zd,Iw v.snap
 ends : ∀v∈w.zd, ∀g∈v.zg, ∀e∈g.ends, e.ok
 counts:∀r∈w.counts,r.length<4000000000000000000
def Ng(w:Wor)(hw:Bl w):th 12 [] [Cw w,Cw w] (Bo true) []:=by
 have m2:(w.zd.map zt).length=w.zd.length:=pz ..;have m3:(w.zc.map zT).length=w.zc.length:=pz ..;have b2:=hw.wk.zd;have b3:=hw.wk.zc;refine ab func12 ?_;refine zak ?_
 refine af (X5 w.pins hw.wk.pins) ?_;refine zak ?_
 refine af (XG w.counts hw.wk.counts hw.counts) ?_;refine zak ?_
 refine af (X6 w.zn hw.wk.zn) ?_;refine zak ?_
 refine zH.seq w.zd.length (λk=>(Cw w::Cw w:: .ref 0 [] 8 0 0:: .ref 1 [] 8 0 0::Bo false::I k:: .za::.za::.za::mL (jp (jp (mL (mL (mL ([])))))))) (λk=>[oW w,oW w]) (λk=>True) ?_ trivial (λk hk _=>?_) (λ_=>?_)
 .exact cC
 .obtain⟨v,hx⟩:∃v,v=w.zd[k]:=⟨_,rfl⟩;have hv:v∈w.zd:=by rw[hx];exact gp
  have hg:(w.zd.map zt)[k]?=some (zt v):=by rw[pw,pq hk,hx];rfl
  conv=>whnf
  rw[m2];refine uF ?_;refine zaY ?_;refine zbR ?_
  refine zbR ?_
  refine af (X9 v (hw.Nh v hv) (hw.wk.zg v hv).1 (λg hg=>⟨(hw.wk.zg v hv).2 g hg,hw.ends v hv g hg⟩)) ?_;refine zak ?_
  exact dH
 conv=>whnf
 rw[m2];refine zbf ?_
 refine zH.seq w.zc.length (λk=>(Cw w::Cw w:: .ref 0 [] 8 0 0:: .ref 1 [] 8 0 0::Bo false:: .za::I k:: .za::.za::mL (jp (jp (mL (mL (mL ([])))))))) (λk=>[oW w,oW w]) (λk=>True) ?_ trivial (λk hk _=>?_) (λ_=>?_)
 .exact cC
 .obtain⟨x,hx⟩:∃x,x=w.zc[k]:=⟨_,rfl⟩;have hg:(w.zc.map zT)[k]?=some (zT x):=by rw[pw,pq hk,hx];rfl
  conv=>whnf
  rw[m3];refine za8 ?_
  refine zbR ?_
  refine⟨ak,dd ?_⟩;refine uG ?_;exact dH
 .conv=>whnf
  rw[m3];refine zbf ?_
  exact uI
end Go.Wor
namespace Go.Run
open Go.Ab Go.Proofs Tryz Go.Gat Go.Nam Go.Hos Go.Con Go.Sna Go.Pla Go.Ply Go.Wor
open Go.Hy hiding encI
variable{s:ic}
def wE{c:fZ}(h:iZ c=false)(ok:c.ok):qQ c:=by
 unfold iZ at h;simp only[r4,rD,eP]at h;obtain⟨⟨⟨⟨h1,h2⟩,h3⟩,h4⟩,h5⟩:=h;obtain⟨⟨a1,_⟩,⟨a2,_⟩,⟨a3,_⟩⟩:=ok;refine⟨⟨an,λs hs=>?_⟩,⟨an,λr hr=>?_⟩,⟨an,λx hx=>?_⟩⟩
 .have:=a1 s hs;unfold EY reachBytes at this;omega
 .have q:=rk.1 h5 r hr;unfold oR at q;simp only[rZ,pY,not_or,eP]at q;have:=a2 r hr;unfold np.ok reachBytes at this;omega
 .have q:=rk.1 h4 x hx;unfold oK at q;simp only[rZ,pY,not_or,eP]at q;omega
def KR(h:na s=false):iZ s.first=false/\s.threads.length<=20/\s.zY.length<=5000/\∀l∈s.threads,l.length<=40/\∀o∈l,iZ o.config=false/\o.host.length<=100/\o.path.length<=100:=by
 unfold na at h;simp only[r4,rD,eP]at h;obtain⟨⟨⟨h1,h2⟩,h3⟩,h4⟩:=h;refine⟨h1,h2,h3,λl hl=>?_⟩;have q:=rk.1 h4 l hl;unfold Ae at q;simp only[rZ,pY,not_or,eP]at q;refine⟨q.1,λo ho=>?_⟩;have q2:oQ o=false:=rk.1 (ai q.2) o ho |> λz=>by simpa using z
 unfold oQ at q2;simp only[r4,rD,eP]at q2;exact q2
def MI(ok:s.ow):Iv s:=by
 obtain⟨⟨⟨_,b1⟩,⟨_,b2⟩,⟨_,b3⟩⟩,⟨b4,b5⟩,_,_⟩:=ok;unfold reachBytes at b1 b2 b3 b5;refine⟨⟨an,an,an⟩,an,λl hl=>?_,λl hl o ho=>?_⟩
 .have:=(b4 l hl).2;unfold reachBytes at this;omega
 .obtain⟨⟨_,_,_,⟨⟨_,c1⟩,⟨_,c2⟩,⟨_,c3⟩⟩⟩,_⟩:=(b4 l hl).1 o ho;unfold reachBytes at c1 c2 c3;exact⟨an,an,an⟩
def UY{out:List fB}{n x:fB}(h:x∈jr out n):x∈out\/x=n:=by
 unfold jr at h;split at h
 .exact .inl h
 .simpa using h
def Ea{α:Type}{f:List fB->α->List fB}{P:fB->Prop}:∀(l:List α) (out:List fB),(∀y∈l,∀o x,(∀z∈o,P z)->x∈f o y->P x)->(∀z∈out,P z)->∀x∈l.foldl f out,P x
 |[],_,_,h,x,hx=>h x hx
 |y::l,out,hf,h,x,hx=>Ea l (f out y) (λy hy=>hf y (rY _ hy)) (λz hz=>hf y (sd ..) out z h hz) x hx
def QB(ok:s.ow):∀x∈jL s,x.length<=reachBytes:=by
 have cfg:∀(c:fZ) (out:List fB),c.ok->(∀z∈out,z.length<=reachBytes)->∀x∈yx out c,x.length<=reachBytes:=λc out hc ho=>
  Ea c.zc out (λy hy o x hz hx=>by
   rcases UY hx with h|rfl
   .exact hz x h
   .exact hc.1.1 _ hy) ho
 refine Ea s.threads _ (λl hl o x hz hx=>?_) (cfg s.first [] ok.1 ah);refine Ea l o (λp hp o x hz hx=>?_) hz x hx;unfold yP at hx;split at hx
 .exact cfg p.config o ((ok.2.1.1 l hl).1 p hp).1.2.2.2 hz x hx
 .exact hz x hx
def XF(h:na s=false)(ok:s.ow):Aq s:=by
 obtain⟨h1,h2,h3,h4⟩:=KR h;have w:=MI ok;refine⟨⟨(wE h1 ok.1).k,w.threads,w.ops,an⟩,λ_=>wE h1 ok.1,λl hl o ho=>(wE ((h4 l hl).2 o ho).1 ((ok.2.1.1 l hl).1 o ho).1.2.2.2).k,QB ok,λl hl o ho=>?_,ok.2.2.1⟩;have a:=(h4 l hl).2 o ho;have b:=(ok.2.1.1 l hl).1 o ho;exact⟨an,an,b.2.1,b.2.2,λ_=>(wE a.1 b.1.2.2.2).k⟩
end Go.Run
