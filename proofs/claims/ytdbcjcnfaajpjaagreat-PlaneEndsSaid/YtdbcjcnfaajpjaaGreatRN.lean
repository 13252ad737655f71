import Derived.Test.YtdbcjcnfaajpjaaGreatRL
import Derived.Test.YtdbcjcnfaajpjaaGreatRZ
import Derived.Test.YtdbcjcnfaajpjaaGreatRM
set_option linter.unusedVariables false
set_option linter.unusedSimpArgs false
set_option linter.unusedSectionVars false
set_option maxRecDepth 100000
set_option maxHeartbeats 4000000
namespace Go.Wor
open Go.Ab Go.Proofs Go.Gat Go.Nam Go.Hos Go.Con Go.Sna Go.Pla
open Go.Hy hiding encI
theorem vQ (t:Int) (o:Opn):Beg.xG t o []=⟨o,t,if o.kind=2 then 9 else 0,0,0, -1,0,0,0,0,0,0,0,0,0,false,Beg.zid,wL⟩:=by
 unfold Beg.xG
 by_cases h:o.kind=2
 ·rw [if_pos h,if_pos h,Beg.zcb (by
   rintro ⟨h1,h2⟩
   have:(j1 []).length=0:=rfl
   omega)]
  rfl
 ·rw [if_neg h,if_neg h]
theorem zpT {w:Wor} (h:Hy.Wor.okW w):WkW w:=by
 have r:reachBytes < 1000000000000000:=by decide
 have hv:=h.zd
 refine ⟨⟨by have:=h.pins;omega,by have:=hv.2;omega,by have:=h.ze.2;omega,by have:=h.counts.2;omega,by have:=h.zm;omega,fun v m=>?_,fun v m=>?_⟩,fun v m=>?_,fun v m g hg e he=>?_,fun r hr=>by have:=(h.counts.1 r hr).2;omega⟩
 ·have s:=(hv.1 v m).1
  exact ⟨by have:=s.1.2;omega,by have:=s.2.1.2;omega,by have:=s.2.2.2;omega⟩
 ·have s:=(hv.1 v m).2
  exact ⟨by have:=s.2;omega,fun g hg=>by have:=(s.1 g hg).2.2;omega⟩
 ·have s:=(hv.1 v m).1
  exact ⟨by have:=s.1.2;omega,by have:=s.2.1.2;omega,by have:=s.2.2.2;omega,fun x hx=>by have:=(s.2.2.1 x hx).2;omega⟩
 ·exact ((hv.1 v m).2.1 g hg).2.1 e he
theorem zbH {w:Wor} (h:vI w=false):w.pins.length<=20∧w.zd.length<=40∧w.ze.length<=40∧zaU w.counts=false∧w.zm.length<=60∧∀ v ∈ w.zd,zbG v=false:=by
 unfold vI at h
 simp only [Bool.or_eq_false_iff,decide_eq_false_iff_not,List.any_eq_false] at h
 obtain ⟨⟨⟨⟨⟨h1,h2⟩,h3⟩,h4⟩,h5⟩,h6⟩:=h
 exact ⟨by omega,by omega,by omega,h4,by omega,fun v hv=>by simpa using h6 v hv⟩
theorem zdi {v:Ver} (h:zbG v=false):yO v.snap=false∧v.zf.length<=20∧∀ g ∈ v.zf,g.ends.length<=20:=by
 unfold zbG at h
 simp only [Bool.or_eq_false_iff,decide_eq_false_iff_not,List.any_eq_false] at h
 obtain ⟨⟨h1,h2⟩,h3⟩:=h
 refine ⟨h1,by omega,fun g hg=>?_⟩
 have:=h3 g hg
 simp [zgW] at this
 omega
theorem zgY {s:Sna} (h:yO s=false):s.ze.length<=20∧s.zk.length<=20∧s.rules.length<=50∧(∀ r ∈ s.rules,r.host.length<=100∧r.path.length<=100)∧∀ x ∈ s.zk,x.zI.length<=20∧x.name.length<=100:=by
 unfold yO at h
 simp only [Bool.or_eq_false_iff,decide_eq_false_iff_not,List.any_eq_false] at h
 obtain ⟨⟨⟨h1,h2⟩,h3⟩,h4⟩:=h
 unfold zcg at h3
 simp only [Bool.or_eq_false_iff,decide_eq_false_iff_not,List.any_eq_false] at h3
 obtain ⟨h5,h6⟩:=h3
 refine ⟨by omega,by omega,by omega,fun r hr=>?_,fun x hx=>?_⟩
 ·have:=h6 r hr
  simp [ruB] at this
  omega
 ·have:=h4 x hx
  simp [zf3] at this
  omega
theorem zod {s:Sna} (h:s.okW) (hb:yO s=false):vb s:=by
 have r:reachBytes < 1000000000000000:=by decide
 obtain ⟨h1,h2,h3,h4,h5⟩:=zgY hb
 exact ⟨⟨by omega,fun x hx=>by have:=h.1.1 x hx;unfold ze6 at this;omega⟩,⟨by omega,fun r hr=>by have:=h4 r hr;omega⟩,⟨by omega,fun x hx=>by have:=h5 x hx;omega⟩⟩
theorem zpQ {w:Wor} (h:Hy.Wor.okW w) (hb:vI w=false):TyW 60 w:=by
 obtain ⟨b1,b2,b3,b4,b5,b6⟩:=zbH hb
 refine ⟨by omega,by omega,by omega,fun v hv=>?_,h.ze.1⟩
 have s:=h.zd.1 v hv
 exact ⟨zod s.1 (zdi (b6 v hv)).1,fun g hg=>⟨(s.2.1 g hg).1,(s.2.1 g hg).2.1⟩⟩
theorem zoJ {w:Wor} (h:Hy.Wor.okW w) (hb:vI w=false):OkW w:=by
 obtain ⟨b1,b2,b3,b4,b5,b6⟩:=zbH hb
 refine ⟨by omega,⟨by omega,fun v hv=>?_⟩,⟨by omega,h.ze.1⟩,?_,by omega⟩
 ·have s:=h.zd.1 v hv
  have q:=zdi (b6 v hv)
  exact ⟨zod s.1 q.1,by omega,fun g hg=>⟨by have:=q.2.2 g hg;omega,(s.2.1 g hg).2.1⟩⟩
 ·unfold zaU at b4
  simp only [Bool.or_eq_false_iff,decide_eq_false_iff_not,List.any_eq_false] at b4
  exact ⟨by omega,fun r hr=>by have:=b4.2 r hr;simp at this;omega⟩
theorem zox {w:Wor} (h:kp w=false):Cal 1000000 w:=by
 unfold kp at h
 simp only [Bool.or_eq_false_iff,decide_eq_false_iff_not,List.any_eq_false] at h
 obtain ⟨⟨h1,h2⟩,h3⟩:=h
 refine ⟨fun l hl=>?_,fun v hv g hg e he=>?_⟩
 ·have:=h2 l hl
  simp [zbC] at this
  omega
 ·have h4:zam v=false:=by simpa using h3 v hv
  unfold zam at h4
  have h5:zeD g=false:=by simpa using List.any_eq_false.1 h4 g hg
  unfold zeD at h5
  have h6:zfN e=false:=by simpa using List.any_eq_false.1 h5 e he
  simp [zfN] at h6
  omega
theorem zo4 {c:Cfg} (h:c.ok) (hb:wa c=false):xF c:=by
 have r:reachBytes < 1000000000000000:=by decide
 unfold wa at hb
 simp only [Bool.or_eq_false_iff,decide_eq_false_iff_not,List.any_eq_false] at hb
 obtain ⟨⟨⟨⟨b1,b2⟩,b3⟩,b4⟩,b5⟩:=hb
 refine ⟨⟨by omega,fun s hs=>by have:=h.1.1 s hs;unfold ze6 at this;omega⟩,⟨by omega,fun r hr=>?_⟩,⟨by omega,fun x hx=>?_⟩⟩
 ·have q:=h.2.1.1 r hr
  have:=b5 r hr
  simp [zeh] at this
  unfold Rou.ok at q
  omega
 ·have q:=h.2.2.1 x hx
  unfold Clu.ok at q
  omega
theorem zm0 {o:Opn} (t:Int) (ho:o.okW) (hc:wa o.config=false) (hh:o.host.length<=100) (hp:o.path.length<=100):TyM (Beg.xG t o []):=by
 rw [vQ]
 exact ⟨(by decide:i64 (-1)),(by decide:u64 0),(by decide:(-1:Int)<=0∧(0:Int)<=2147483646),by show o.host.length < _;omega,by show o.path.length < _;omega,ho.2.1,ho.2.2,zo4 ho.1.2.2.2 hc,fun _ _=>rfl⟩
theorem zkP {w:Wor} {o:Opn} {t:Int} {v:Ver} {g:Gr} {e:En} (hk:1<=o.kind∧o.kind<=6) (su:qI w (Beg.xG t o []) v g e):zib w (Beg.xG t o []) v g e:=by
 have gw:=qh.1 su.world
 have gg:=qm.1 gw.ground
 rw [vQ]
 unfold zib
 dsimp only
 rcases (by omega:o.kind=1∨o.kind=2∨o.kind=3∨o.kind=4∨o.kind=5∨o.kind=6) with k | k | k | k | k | k
 ·refine .inl ⟨k,?_⟩
  rw [if_neg (by omega)]
  constructor <;> dsimp only <;> omega
 ·refine .inr (.inl ⟨k,?_⟩)
  rw [if_pos k]
  rfl
 ·refine .inr (.inr (.inl ⟨k,?_⟩))
  rw [if_neg (by omega)]
  constructor <;> dsimp only <;> omega
 ·refine .inr (.inr (.inr (.inl ⟨k,?_⟩)))
  rw [if_neg (by omega)]
  rfl
 ·refine .inr (.inr (.inr (.inr (.inl ⟨k,?_⟩))))
  rw [if_neg (by omega)]
  constructor <;> dsimp only <;> omega
 ·refine .inr (.inr (.inr (.inr (.inr ⟨k,?_⟩))))
  rw [if_neg (by omega)]
  constructor <;> dsimp only
  ·omega
  ·have:=gg.counts.1
   have:=gg.pins
   omega
theorem zmq {w:Wor} {o:Opn} (t:Int) (hb:vI w=false) (hg:jF w):muA w (Beg.xG t o [])<=2000:=by
 obtain ⟨b1,b2,b3,b4,b5,b6⟩:=zbH hb
 have gg:=qm.1 hg.ground
 have g1:=gg.pins
 have g2:=gg.counts.1
 rw [vQ]
 unfold muA
 dsimp only
 split
 ·rename_i h
  rw [if_neg (by omega)]
  unfold muH
  dsimp only
  omega
 split
 ·rename_i h
  rw [if_neg (by omega)]
  unfold muS
  dsimp only
  omega
 split
 ·rename_i h
  rw [if_neg (by omega)]
  unfold muC
  dsimp only
  rw [if_pos rfl]
  omega
 split
 ·unfold muT
  dsimp only
  omega
 ·omega
theorem zkp {w:Wor} {o:Opn} {t:Int} (hw:Hy.Wor.okW w) (ho:o.okW) (hb:vI w=false) (hy:kp w=false) (hc:wa o.config=false) (hh:o.host.length<=100) (hp:o.path.length<=100) (hs:z5 w (Beg.xG t o [])=true) (hk:1<=o.kind∧o.kind<=6):
  ∃ n w' m',jt n w (Beg.xG t o []) w' m'∧n<=3000∧jJ w'=true∧OkW w'∧w'.pins.length=w.pins.length∧zdg m'∧m'.op=o:=by
 obtain ⟨v,g,e,su⟩:=y9 hs
 have gw:=qh.1 su.world
 have st:St 60 1000000 w:=⟨gw,zpQ hw hb,zox hy⟩
 obtain ⟨n,w',m',h1,h2,h3,h4,h5,h6,h7⟩:=zmd 2000 (zmq t hb gw) st su (zm0 t ho hc hh hp) (zkP hk su) (by omega) (by omega)
 refine ⟨n,w',m',h1,by omega,qh.2 h3,zcE h3 h4.ty (by omega),h5,h6,?_⟩
 rw [h7,vQ]
end Go.Wor
namespace Go.Wor
open Go.Ab Go.Proofs Go.Gat Go.Nam Go.Hos Go.Con Go.Sna Go.Pla
open Go.Hy hiding encI
theorem zeG {w:Wor} {m:Mac} (hk:¬(1<=m.op.kind∧m.op.kind<=6)):zb Tryz.prog 17 [] [Sw w,Sm m] (.tup [Sw w,.agg (qT m.answer),Bo false]) []:=by
 refine zb.zp (fn:=Tryz.f17) Tryz.func17 rfl ?_
 conv=>whnf
 refine qa.inv (fun i t1 H1=>i=0∧t1=[.za,.za,.ref 0 [] 8 0 0,.ref 1 [] 44 0 0,.ref 2 [] 8 0 0,.ref 3 [] 13 0 0,Bo false,I 0,.za,.za,.za,.za,.za,.za,.za,.za,.za,.za,.za,.za,.za,.za,.za,.za,.za,.za,.za,.za,.za,.za,.za,.za,.za,.za,.za,.za,.za,.za]∧H1=[⟨1,48,8,[zQ (w)],0⟩,⟨1,37,44,[zE (m)],0⟩,⟨1,48,8,[[I 0,I 0,I 0,.lst 1 0 [],.lst 1 0 [],.lst 1 0 [],.lst 1 0 [],.lst 1 0 []]],0⟩,⟨1,35,13,[qT ⟨0,0,0,0,0,0,0,wL⟩],0⟩]) 0 ?_ ?_
 ·exact ⟨_,_,cC,rfl,rfl,rfl⟩
 rintro i _ _ ⟨rfl,rfl,rfl⟩
 conv=>whnf
 (repeat ((first | apply ya | apply yb);refine dd ?_))
 refine ⟨_,_,(zgL w m hk).frame rfl _,?_⟩;refine dd ?_
 (repeat ((first | apply ya | apply yb);refine dd ?_))
 refine .inl ⟨⟨false,[0,2],[0,1],[]⟩,by kernel_rfl,?_⟩;(conv=>whnf)
 repeat (refine ⟨rfl,?_⟩;conv=>whnf)
 refine .inr ⟨by simp,?_⟩
 conv=>whnf
 exact ⟨.inl rfl,_,.refl _,rfl⟩
theorem planeEnds_sound (w:Wor) (t:Int) (o:Opn) (hw:Hy.Wor.okW w) (ho:o.okW):zb Tryz.prog 4 [] [Cw w,I t,.agg (zg8 o)] (Bo true) []:=by
 have hk:=zpT hw
 have bg:zb Tryz.prog 8 [] [I t,.agg (zg8 o),.lst 1 0 []] (Cm (Beg.xG t o [])) []:=(Beg.xQ t o [] (by decide)).pre (.cons (.refl _) (.cons (.refl _) (.cons (fun E y h=>WC.share 1 13 _ E y (WC.none 1 0 13 E y h)) .nil)))
 have r:reachBytes < 1000000000000000:=by decide
 have hcl:=ho.1.2.2.2
 refine zb.zp (fn:=Tryz.f4) Tryz.func4 rfl ?_
 conv=>whnf
 refine ⟨_,_,(bg).frame rfl _,?_⟩;refine dd ?_
 refine ⟨_,_,(zil w hk.wk).frame rfl _,?_⟩;refine dd ?_
 refine ⟨fun h1=>?_,fun h1=>?_⟩
 ·(refine dd ?_;(try (repeat ((first | apply ya | apply yb);refine dd ?_)));refine ⟨_,_,(jr).frame rfl _,?_⟩;refine dd ?_;(repeat ((first | apply ya | apply yb);refine dd ?_));exact ⟨.inl rfl,_,.refl _,rfl⟩)
 refine dd ?_
 refine ⟨_,_,(zg1 w hk.wk).frame rfl _,?_⟩;refine dd ?_
 refine ⟨fun h2=>?_,fun h2=>?_⟩
 rotate_left
 ·(refine dd ?_;(try (repeat ((first | apply ya | apply yb);refine dd ?_)));refine ⟨_,_,(jr).frame rfl _,?_⟩;refine dd ?_;(repeat ((first | apply ya | apply yb);refine dd ?_));exact ⟨.inl rfl,_,.refl _,rfl⟩)
 have h2:kp w=false:=by simpa using h2
 refine dd ?_
 refine ⟨_,_,(zkq o.config (by have:=hcl.1.2;omega) (by have:=hcl.2.1.2;omega) (by have:=hcl.2.2.2;omega)).frame rfl _,?_⟩;refine dd ?_
 refine ⟨fun h3=>?_,fun h3=>?_⟩
 ·(refine dd ?_;(try (repeat ((first | apply ya | apply yb);refine dd ?_)));refine ⟨_,_,(jr).frame rfl _,?_⟩;refine dd ?_;(repeat ((first | apply ya | apply yb);refine dd ?_));exact ⟨.inl rfl,_,.refl _,rfl⟩)
 refine dd ?_
 refine ⟨fun h4=>?_,fun h4=>?_⟩
 ·(refine dd ?_;(try (repeat ((first | apply ya | apply yb);refine dd ?_)));refine ⟨_,_,(jr).frame rfl _,?_⟩;refine dd ?_;(repeat ((first | apply ya | apply yb);refine dd ?_));exact ⟨.inl rfl,_,.refl _,rfl⟩)
 have h4:o.host.length<=100:=by simp at h4;omega
 refine dd ?_
 refine ⟨fun h5=>?_,fun h5=>?_⟩
 ·(refine dd ?_;(try (repeat ((first | apply ya | apply yb);refine dd ?_)));refine ⟨_,_,(jr).frame rfl _,?_⟩;refine dd ?_;(repeat ((first | apply ya | apply yb);refine dd ?_));exact ⟨.inl rfl,_,.refl _,rfl⟩)
 have h5:o.path.length<=100:=by simp at h5;omega
 refine dd ?_
 refine ⟨_,_,(zM w (Beg.xG t o []) (zoJ hw h1) (by rw [vQ];exact (by decide:i64 (-1)))).frame rfl _,?_⟩;refine dd ?_
 refine ⟨fun h6=>?_,fun h6=>?_⟩
 rotate_left
 ·(refine dd ?_;(try (repeat ((first | apply ya | apply yb);refine dd ?_)));refine ⟨_,_,(jr).frame rfl _,?_⟩;refine dd ?_;(repeat ((first | apply ya | apply yb);refine dd ?_));exact ⟨.inl rfl,_,.refl _,rfl⟩)
 have h6:z5 w (Beg.xG t o [])=true:=by simpa using h6
 refine dd ?_
 (repeat ((first | apply ya | apply yb);refine dd ?_))
 by_cases hkd:1<=o.kind∧o.kind<=6
 ·obtain ⟨n,w2,m2,hg,hn,hwd,hok,hpn,hfin,hop⟩:=zkp (t:=t) hw ho h1 h2 h3 h4 h5 h6 hkd
  have mp:(w.pins.map Go.Hy.encI).length=w.pins.length:=List.length_map ..
  have mp2:(w2.pins.map Go.Hy.encI).length=w2.pins.length:=List.length_map ..
  have f1:=hfin.1
  have f2:=hfin.2.1
  have f3:=hfin.2.2
  rw [hop] at f3
  refine ⟨_,_,(xP hg hn).frame rfl _,?_⟩;refine dd ?_
  (repeat ((first | apply ya | apply yb);refine dd ?_))
  refine ⟨fun k1=>?_,fun k1=>?_⟩
  ·exfalso;have k1:=of_decide_eq_true k1;omega
  refine dd ?_
  refine ⟨fun k2=>?_,fun k2=>?_⟩
  ·exfalso;have k2:=of_decide_eq_true k2;omega
  refine dd ?_
  refine ⟨_,_,(jr).frame rfl _,?_⟩;refine dd ?_
  (repeat ((first | apply ya | apply yb);refine dd ?_))
  refine ⟨_,_,(zan w2 hok).frame rfl _,?_⟩;refine dd ?_
  rw [hwd]
  (repeat ((first | apply ya | apply yb);refine dd ?_))
  (refine ⟨fun _=>?_,fun h=>absurd (of_decide_eq_false h) (by omega)⟩);refine dd ?_
  (refine ⟨fun _=>?_,fun h=>absurd (of_decide_eq_false h) (by omega)⟩);refine dd ?_
  rw [mp,mp2]
  (refine ⟨fun _=>?_,fun h=>absurd (of_decide_eq_false h) (by omega)⟩);refine dd ?_
  by_cases q:o.kind=1
  ·have q2:=f3.1 q
   (refine ⟨fun _=>?_,fun h=>absurd (of_decide_eq_false h) (by omega)⟩);refine dd ?_
   (refine ⟨fun _=>?_,fun h=>absurd (of_decide_eq_false h) (by omega)⟩);refine dd ?_
   (repeat ((first | apply ya | apply yb);refine dd ?_))
   exact ⟨.inl rfl,_,.refl _,rfl⟩
  ·have q2:¬m2.answer.kind<=5:=fun h=>q (f3.2 h)
   (refine ⟨fun h=>absurd (of_decide_eq_true h) (by omega),fun _=>?_⟩);refine dd ?_
   (refine ⟨fun h=>absurd (of_decide_eq_true h) (by omega),fun _=>?_⟩);refine dd ?_
   (repeat ((first | apply ya | apply yb);refine dd ?_))
   exact ⟨.inl rfl,_,.refl _,rfl⟩
 ·have en:=zeG (w:=w) (m:=Beg.xG t o []) (by rw [vQ];exact hkd)
  refine ⟨_,_,(en).frame rfl _,?_⟩;refine dd ?_
  (repeat ((first | apply ya | apply yb);refine dd ?_))
  refine ⟨fun k1=>?_,fun k1=>?_⟩
  ·refine dd ?_
   (try (repeat ((first | apply ya | apply yb);refine dd ?_)))
   refine ⟨_,_,(jr).frame rfl _,?_⟩;refine dd ?_;(repeat ((first | apply ya | apply yb);refine dd ?_));refine ⟨_,_,(zoc w hk).frame rfl _,?_⟩;refine dd ?_;(repeat ((first | apply ya | apply yb);refine dd ?_));exact ⟨.inl rfl,_,.refl _,rfl⟩
  ·have k1:=of_decide_eq_false k1
   refine dd ?_
   (refine ⟨fun _=>?_,fun h=>absurd (of_decide_eq_false h) (by omega)⟩);refine dd ?_
   (repeat ((first | apply ya | apply yb);refine dd ?_))
   refine ⟨_,_,(jr).frame rfl _,?_⟩;refine dd ?_;(repeat ((first | apply ya | apply yb);refine dd ?_));refine ⟨_,_,(zoc w hk).frame rfl _,?_⟩;refine dd ?_;(repeat ((first | apply ya | apply yb);refine dd ?_));exact ⟨.inl rfl,_,.refl _,rfl⟩
end Go.Wor
