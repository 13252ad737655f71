import Derived.Test.YtgllekalddijbaaGreatRY
import Derived.Test.YtgllekalddijbaaGreatRG
import Derived.Test.YtgllekalddijbaaGreatRH
import Derived.Test.YtgllekalddijbaaGreatRZ
set_option linter.unusedVariables false
set_option linter.unusedSimpArgs false
set_option linter.unusedSectionVars false
set_option maxRecDepth 100000
set_option maxHeartbeats 4000000
namespace Go.Wor
open Go.Ab Go.Proofs Go.Hy Go.Gat Go.Nam Go.Hos Go.Con Go.Sna
theorem zfm (w:Wor) (m:Mac) (v:Ver) (g:Gr) (e:En) (sw:ja w) (ok:OkW w) (hl:i64 m.listen) (hpc:m.pc=2) (hs:qc w m=true) (hat:AtE w m v g e) (hw:u64 m.word) (hh:u64 e.head) (hne:e.head≠m.word):
  zc Tryz.prog 153 [] [Cw w,Cm m] (.tup [Cw w,Cm { m with pc:=0 },Ce (evV m v 5 8 (e.head % 4294967296 - 1))]) []:=by
 have a0:=hat.v0
 have a1:=hat.toAtV.row
 have b0:=hat.g0
 have b1:(v.zf.map zp)[m.zg.toNat]?= some (zp g):=by rw [List.getElem?_map,hat.atg];rfl
 have c0:=hat.e0
 have c1:(g.ends.map zn)[m.end_.toNat]?= some (zn e):=by rw [List.getElem?_map,hat.ate];rfl
 refine zc.zr (fn:=Tryz.f153) Tryz.func153 rfl ?_
 conv=>whnf
 (repeat (first | (refine ⟨fun _=>?_,?_⟩;rotate_left 1;(focus (intro h;first | (simp [hpc] at h;done) | (have h:=of_decide_eq_true h;omega) | (have h:=of_decide_eq_false h;omega)));(refine dd ?_)) | (refine ⟨?_,fun _=>?_⟩;(focus (intro h;first | (simp [hpc] at h;done) | (have h:=of_decide_eq_true h;omega) | (have h:=of_decide_eq_false h;omega)));(refine dd ?_))))
 refine ⟨_,_,(zU w m ok hl).frame rfl _,?_⟩;refine dd ?_
 refine ⟨fun _=>?_,fun h=>absurd ((hs).symm.trans h:true=false) (by decide)⟩;refine dd ?_
 (repeat (first | (refine ⟨fun _=>?_,?_⟩;rotate_left 1;(focus (intro h;first | (simp [hpc] at h;done) | (have h:=of_decide_eq_true h;omega) | (have h:=of_decide_eq_false h;omega)));(refine dd ?_)) | (refine ⟨?_,fun _=>?_⟩;(focus (intro h;first | (simp [hpc] at h;done) | (have h:=of_decide_eq_true h;omega) | (have h:=of_decide_eq_false h;omega)));(refine dd ?_))))
 (repeat ((first | apply ya | apply yb);refine dd ?_))
 refine ⟨_,_,(qs w sw).frame rfl _,?_⟩;refine dd ?_
 refine .inl ⟨⟨false,[],[],[]⟩,by kernel_rfl,?_⟩;(conv=>whnf)
 (refine ⟨a0,_,a1,?_⟩);refine dd ?_
 (refine ⟨b0,_,b1,?_⟩);refine dd ?_
 (refine ⟨c0,_,c1,?_⟩);refine dd ?_
 refine ⟨_,_,(Slp.qg m.word hw).frame rfl _,?_⟩;refine dd ?_
 refine .inr ⟨⟨[0,1,5,6,7],[0,1],true⟩,by kernel_rfl,fun _=>rfl,_,?_,fun t2 H2 h=>h⟩;(conv=>whnf)
 refine ⟨_,zc.blind [] (Slp.qg e.head hh) rfl rfl rfl rfl rfl rfl rfl (fun _=>rfl) (fun _=>rfl),?_⟩;(conv=>whnf)
 refine ⟨_,zc.blind [] (xB w m v hat.toAtV 1 8 (e.head % 4294967296 - 1)) rfl rfl rfl rfl rfl rfl rfl (fun _=>rfl) (fun _=>rfl),?_⟩;(conv=>whnf)
 (refine ⟨?_,trivial⟩);(conv=>whnf);(repeat (refine ⟨rfl,?_⟩;(conv=>whnf)))
 (refine ⟨?_,trivial⟩);(conv=>whnf);(repeat (refine ⟨rfl,?_⟩;(conv=>whnf)))
 (refine ⟨_,_,.refl _,?_⟩);(conv=>whnf)
 (repeat (first | (refine ⟨fun _=>?_,?_⟩;rotate_left 1;(focus (intro h;first | (simp [hpc] at h;done) | (have h:=of_decide_eq_true h;omega) | (have h:=of_decide_eq_false h;omega)));(refine dd ?_)) | (refine ⟨?_,fun _=>?_⟩;(focus (intro h;first | (simp [hpc] at h;done) | (have h:=of_decide_eq_true h;omega) | (have h:=of_decide_eq_false h;omega)));(refine dd ?_))))
 refine .inl ⟨⟨false,[],[],[]⟩,by kernel_rfl,?_⟩;(conv=>whnf)
 refine ⟨fun _=>?_,fun h=>absurd h (by simpa using hne)⟩
 refine dd ?_
 refine vf.go rfl ?_;conv=>whnf
 refine .inl ⟨⟨false,[0,1,2],[5,1,6],[]⟩,by kernel_rfl,?_⟩;(conv=>whnf)
 repeat (refine ⟨rfl,?_⟩;conv=>whnf)
 exact ⟨.inl rfl,_,.refl _,rfl⟩
theorem zby (w:Wor) (m:Mac) (v:Ver) (g:Gr) (e:En) (hv:AtE w m v g e) (he:u64 e.head) (hi:¬(0<=e.head % 4294967296 - 1∧e.head % 4294967296 - 1 < e.next.length)):
  zc Tryz.prog 267 [⟨1,28,8,[z5 w],0⟩,⟨1,43,44,[zP (m)],0⟩] [.agg [.ref 0 [] 8 0 0,.ref 1 [] 44 0 0]] (Ce (evV m v 1 8 (e.head % 4294967296 - 1))) [⟨1,28,8,[z5 w],0⟩,⟨1,43,44,[zP (vB { m with word:=e.head } 4)],0⟩]:=by
 have ml:(e.next.map Go.Hy.encI).length=e.next.length:=List.length_map ..
 refine qy (fn:=Tryz.f267) Tryz.func267 rfl (Nat.le_refl _) ?_;conv=>whnf
 refine zcx [0,1] (yG w m v g e hv) rfl rfl rfl rfl rfl rfl ?_;refine dd ?_
 refine ⟨_,_,(Slp.qg e.head he).frame rfl _,?_⟩;refine dd ?_
 refine ⟨fun q1=>?_,fun q1=>?_⟩
 ·refine dd ?_
  (repeat ((first | apply ya | apply yb);refine dd ?_))
  refine zG [1] (xz { m with word:=e.head } 4) rfl rfl rfl rfl rfl rfl ?_;refine dd ?_
  refine zG [0,1] (yM w (vB { m with word:=e.head } 4) v ⟨hv.v0,hv.at_⟩ 1 8 (e.head % 4294967296 - 1)) rfl rfl rfl rfl rfl rfl ?_;refine dd ?_
  exact ⟨.inl rfl,_,_,.refl _,rfl,cE 2⟩
 ·refine dd ?_
  refine zcx [0,1] (yG w { m with word:=e.head } v g e ⟨⟨⟨hv.v0,hv.at_⟩,hv.g0,hv.atg⟩,hv.e0,hv.ate⟩) rfl rfl rfl rfl rfl rfl ?_;refine dd ?_
  rw [ml]
  refine ⟨fun q2=>?_,fun q2=>?_⟩
  ·refine dd ?_
   (repeat ((first | apply ya | apply yb);refine dd ?_))
   refine zG [1] (xz { m with word:=e.head } 4) rfl rfl rfl rfl rfl rfl ?_;refine dd ?_
   refine zG [0,1] (yM w (vB { m with word:=e.head } 4) v ⟨hv.v0,hv.at_⟩ 1 8 (e.head % 4294967296 - 1)) rfl rfl rfl rfl rfl rfl ?_;refine dd ?_
   exact ⟨.inl rfl,_,_,.refl _,rfl,cE 2⟩
  ·exact absurd ⟨by simp at q1;omega,by simp at q2;omega⟩ hi
end Go.Wor
namespace Go.Wor
open Go.Ab Go.Proofs Go.Hy Go.Gat Go.Nam Go.Hos Go.Con Go.Sna
abbrev Res:=Option (Wor × Mac × Eve)
def zlt (w:Wor) (m:Mac):Res:=
 if m.pc=0 then some (w,{ m with zu:=w.zu,pc:=1 },zed m (ldE w.zu))
 else if m.pc=1 then some (zdG w m.zo.toNat (IntKind.i64.wrap (m.zu+1)),{ m with pc:=2 },zed m ⟨0,0,2,2,0,false,IntKind.i64.wrap (m.zu+1),false,false,false,vL⟩)
 else if m.pc=2 then some (w,{ m with zu:=w.zu,pc:=if w.zu=m.zu then 3 else 1 },zed m (ldE w.zu))
 else none
abbrev zmW (x:Lis):Lis:={ x with zj:=IntKind.i64.wrap (x.zj+1) }
abbrev zB (x:Int):Int:=x % 4294967296 - 1
abbrev kk (m:Mac):Ans:=⟨1,m.version,m.zg,m.end_,m.slot,m.listen,0,⟨0,0,0,0,0,0⟩⟩
def zbk (w:Wor) (m:Mac) (k pc:Int):Res:=match w.counts[m.zo.toNat]? with
 | none=>none
 | some r0=>match r0[k.toNat]? with
  | none=>none
  | some x=>some ({ w with counts:=w.counts.set m.zo.toNat (r0.set k.toNat (IntKind.u64.wrap (x+1))) },{ m with pc:=pc },evO m 3 10 k)
def zbx (w:Wor) (m:Mac) (f:Lis->Wor × Mac × Eve):Res:=if m.listen < 0 then none else (w.ze[m.listen.toNat]?).map f
def zO (w:Wor) (m:Mac) (v:Ver) (g:Gr) (e:En):Res:=
 if m.pc < 3 then zlt w m
 else if m.pc=3 then some (w,if jd w.ze m.op.listen < 0 then vB (lvM w m) 2 else lvM w m,ptE (evO m 1 3 w.current))
 else if m.pc=4 then zbx w m fun x=>({ w with ze:=w.ze.set m.listen.toNat (zmW x) },{ m with pc:=5 },evO m 3 5 (IntKind.i64.wrap (x.zj+1)))
 else if m.pc=5 then zbx w m fun l=>(w,if l.drain then vB m 5 else xq m v,if l.drain then { evO m 1 4 1 with wT:=true } else evO m 1 4 0)
 else if m.pc=6 then (v.snap.zm[m.zg.toNat]?).map fun c=>(yB w m v g e (IntKind.u64.wrap (g.zl+1)) e.head e.zj,zfT m c g.zl,evV m v 3 6 (IntKind.i64.wrap g.zl))
 else if m.pc=7 then some (w,{ m with i:=e.zj,pc:=8 },evV m v 1 7 e.zj)
 else if m.pc=8 then (g.ends[m.other.toNat]?).map fun e2=>(w,{ m with end_:=if e2.zj < m.i then m.other else m.end_,pc:=9 },evV m v 1 7 e2.zj)
 else if m.pc=9 then some (w,if 0<=zB e.head∧zB e.head < e.next.length then { m with word:=e.head,slot:=zB e.head,pc:=10 } else vB { m with word:=e.head } 4,evV m v 1 8 (zB e.head))
 else if m.pc=10 then (e.next[m.slot.toNat]?).map fun x=>(w,{ m with link:=x,pc:=11 },evV m v 1 9 x)
 else if m.pc=11 then (if e.head=m.word then some (yB w m v g e g.zl (Slp.z6 m.word m.link) e.zj,{ m with pc:=12 },evV m v 4 8 m.slot) else some (w,{ m with pc:=9 },evV m v 5 8 (zB e.head)))
 else if m.pc=12 then some (yB w m v g e g.zl e.head (IntKind.i64.wrap (e.zj+1)),{ m with answer:=kk m,pc:=20 },evV m v 3 7 (IntKind.i64.wrap (e.zj+1)))
 else if m.pc=20 then zbk w m (zaS m.answer.kind) 21
 else if m.pc=21 then zbk w m 0 (if m.answer.kind=1∨m.listen < 0 then 23 else 22)
 else if m.pc=22 then zbx w m fun x=>({ w with ze:=w.ze.set m.listen.toNat (zb6 x) },{ m with pc:=23 },evO m 3 5 (IntKind.i64.wrap (x.zj - 1)))
 else if m.pc=23 then some (zdG w m.zo.toNat 0,{ m with done:=true },{ zlk m with done:=true,answer:=m.answer })
 else none
def xx (w:Wor) (m:Mac) (v:Ver) (g:Gr) (e:En):Res:=
 if m.pc=0 then some (w,{ m with word:=e.head,pc:=1 },evV m v 1 8 (zB e.head))
 else if m.pc=1 then some (yB w m v g (k7 m e) g.zl e.head e.zj,{ m with pc:=2 },evV m v 2 9 (zB m.word))
 else if m.pc=2 then (if e.head=m.word then some (yB w m v g e g.zl (Slp.z6 m.word m.slot) e.zj,{ m with pc:=3 },{ evV m v 4 8 m.slot with wT:=true }) else some (w,{ m with pc:=0 },evV m v 5 8 (zB e.head)))
 else if m.pc=3 then some (yB w m v g e g.zl e.head (IntKind.i64.wrap (e.zj - 1)),{ m with pc:=4 },evV m v 3 7 (IntKind.i64.wrap (e.zj - 1)))
 else if m.pc=4 then zbx w m fun x=>({ w with ze:=w.ze.set m.listen.toNat (zb6 x) },{ m with answer:=zkV m,done:=true },zkW m x)
 else if m.pc=9 then some (w,{ m with answer:=zcn 7,done:=true },zlj m)
 else none
structure TyW (N:Nat) (w:Wor):Prop where
 zel:w.zd.length<=N
 lis:w.ze.length<=N
 lim:w.zt.length<=N
 okv:∀ v ∈ w.zd,vm v.snap∧∀ g ∈ v.zf,u64 g.zl∧∀ e ∈ g.ends,e.ok
 okl:∀ l ∈ w.ze,l.ok
structure TyM (m:Mac):Prop where
 listen:i64 m.listen
 word:u64 m.word
 link: -1<=m.link∧m.link<=2147483646
 host:m.op.host.length < 1000000000000
 path:m.op.path.length < 1000000000000
 d0:i64 m.op.d0
 d1:i64 m.op.d1
 cfg:m.op.kind=3->w5 m.op.config
 ans:m.op.kind=6->m.done=false->m.answer=vL
end Go.Wor
namespace Go.Wor
open Go.Ab Go.Proofs Go.Hy Go.Gat Go.Nam Go.Hos Go.Con Go.Sna
theorem zf9 {c:Cfg} (h:(xb c).1=0):(yz c).1=0∧(jj (zfx c.ze) c.ze.length).1=0∧(jj (zbj c.zm) c.zm.length).1=0∧(jj (zdN c) c.qf.length).1=0:=by
 unfold xb at h
 split at h
 ·contradiction
 rename_i h1
 split at h
 ·contradiction
 rename_i h2
 split at h
 ·contradiction
 rename_i h3
 split at h
 ·contradiction
 rename_i h4
 exact ⟨by simpa using h1,Decidable.of_not_not h2,Decidable.of_not_not h3,Decidable.of_not_not h4⟩
theorem zkb {c:Cfg} {i:Nat} {r:Rou} (hr:c.qf[i]?= some r) (h:zdN c i=0):c.ze.any (fun x=>x == r.listen)=true∧zcs r.host=true∧kq r.path=true∧zae c.zm r.zg=true:=by
 unfold zdN at h
 rw [hr] at h
 dsimp only at h
 split at h
 ·cases h
 rename_i h1
 split at h
 ·cases h
 rename_i h2
 split at h
 ·cases h
 rename_i h3
 split at h
 ·cases h
 rename_i h4
 exact ⟨by simpa using h1,by simpa using h2,by simpa using h3,by simpa using h4⟩
theorem zjp {l:List Clu} {i:Nat} {c:Clu} (hc:l[i]?= some c) (h:zbj l i=0):jR c.name=true:=by
 unfold zbj at h
 rw [hc] at h
 dsimp only at h
 split at h
 ·cases h
 rename_i h1
 simpa using h1
theorem zjM:jR []=false:=by decide
theorem zkj {s:Sna} (h:vR s=true) {r:Rul} (hr:r ∈ s.rules):0<=r.zg∧r.zg < s.zm.length:=by
 have h:(xb (w7 s)).1=0:=by unfold vR at h;simpa using h
 obtain ⟨_,_,h3,h4⟩:=zf9 h
 obtain ⟨i,hi⟩:=List.mem_iff_getElem?.1 hr
 have hi':(w7 s).qf[i]?= some (zfM s r):=by unfold w7;simp only [List.getElem?_map,hi,Option.map_some]
 have hz:=zhz h4 i (List.getElem?_eq_some_iff.1 hi').1
 obtain ⟨_,_,_,hn⟩:=zkb hi' hz
 have hn:s.zm.any (fun c=>c.name == y3 s.zm r.zg)=true:=hn
 by_cases hb:0<=r.zg∧r.zg < s.zm.length
 ·exact hb
 ·unfold y3 at hn
  rw [if_neg hb] at hn
  obtain ⟨c,hc,he⟩:=List.any_eq_true.1 hn
  obtain ⟨j,hj⟩:=List.mem_iff_getElem?.1 hc
  have:=zjp hj (zhz h3 j (List.getElem?_eq_some_iff.1 hj).1)
  rw [show c.name=[] from by simpa using he,zjM] at this
  cases this
theorem zgi {s:Sna} (h:vR s=true) (n hh p:Str):0<=(vp s n hh p).1∧∃ c,s.zm[(vp s n hh p).1.toNat]?= some c:=by
 have g:=(yd h).zm.1
 have zero:∃ c,s.zm[(0:Int).toNat]?= some c:=⟨s.zm[0]'(by omega),List.getElem?_eq_getElem (by omega)⟩
 unfold vp
 split
 ·exact ⟨Int.le_refl _,zero⟩
 ·split
  ·exact ⟨Int.le_refl _,zero⟩
  ·split
   ·rename_i r hr
    have:=zkj h (List.mem_of_getElem? hr)
    exact ⟨this.1,s.zm[r.zg.toNat]'(by omega),List.getElem?_eq_getElem (by omega)⟩
   ·exact ⟨Int.le_refl _,zero⟩
structure zmO (x:Clu) (e:En):Prop where
 is:Slp.isV e=true
 len:(e.next.length:Int)=x.yA
structure zas (v:Ver):Prop where
 snap:vR v.snap=true
 len:v.zf.length=v.snap.zm.length
 grp:∀ (i:Nat) g x,v.zf[i]?= some g->v.snap.zm[i]?= some x->g.ends.length=x.zM.length∧∀ e ∈ g.ends,zmO x e
theorem zaH {x:Clu} {e:En}:v8 x e=false↔zmO x e:=by
 unfold v8
 constructor
 ·intro h
  simp at h
  exact ⟨h.1,h.2⟩
 ·rintro ⟨h1,h2⟩
  simp [h1,h2]
theorem zgU {v:Ver}:zbM v=true↔zas v:=by
 unfold zbM
 simp only [Bool.and_eq_true,decide_eq_true_eq,List.all_eq_true,List.mem_range]
 constructor
 ·rintro ⟨⟨h1,h2⟩,h3⟩
  refine ⟨h1,h2,fun i g x hg hx=>?_⟩
  have:=h3 i (List.getElem?_eq_some_iff.1 hg).1
  unfold zb1 at this
  rw [hg,hx] at this
  simp only [Bool.and_eq_true,decide_eq_true_eq,Bool.not_eq_true',List.any_eq_false] at this
  exact ⟨this.1,fun e he=>zaH.1 (by simpa using this.2 e he)⟩
 ·rintro ⟨h1,h2,h3⟩
  refine ⟨⟨h1,h2⟩,fun i hi=>?_⟩
  unfold zb1
  split
  ·rename_i g x hg hx
   obtain ⟨h4,h5⟩:=h3 i g x hg hx
   simp only [Bool.and_eq_true,decide_eq_true_eq,Bool.not_eq_true',List.any_eq_false]
   exact ⟨h4,fun e he=>by simp [zaH.2 (h5 e he)]⟩
  ·rfl
structure j8 (w:Wor):Prop where
 ground:q9 w=true
 current:0<=w.current∧w.current < w.zd.length
 zt:Go.Lim.isV w.zt=true
 bad:∀ r ∈ w.zt,xM w r=false
 ver:∀ (i:Nat) v,w.zd[i]?= some v->zas v∧v.zC=vl w.zt i
 lis:∀ (i:Nat) l,w.ze[i]?= some l->Go.Gat.isV l=true∧jd w.ze l.name=i
theorem qR {w:Wor}:jN w=true↔j8 w:=by
 unfold jN
 simp only [Bool.and_eq_true,decide_eq_true_eq,List.all_eq_true,List.mem_range,Bool.not_eq_true',List.any_eq_false]
 constructor
 ·rintro ⟨⟨⟨⟨⟨h1,h2⟩,h3⟩,h4⟩,h5⟩,h6⟩
  refine ⟨h1,h2,h3,fun r hr=>by simpa using h4 r hr,fun i v hv=>?_,fun i l hl=>?_⟩
  ·have:=h5 i (List.getElem?_eq_some_iff.1 hv).1
   unfold wq at this
   rw [hv] at this
   simp only [Bool.and_eq_true,beq_iff_eq] at this
   exact ⟨zgU.1 this.1,this.2⟩
  ·have:=h6 i (List.getElem?_eq_some_iff.1 hl).1
   unfold kp at this
   rw [hl] at this
   simpa using this
 ·rintro ⟨h1,h2,h3,h4,h5,h6⟩
  refine ⟨⟨⟨⟨⟨h1,h2⟩,h3⟩,fun r hr=>by simp [h4 r hr]⟩,fun i hi=>?_⟩,fun i hi=>?_⟩
  ·unfold wq
   split
   ·rename_i v hv
    obtain ⟨a,b⟩:=h5 i v hv
    simp [zgU.2 a,b]
   ·rfl
  ·unfold kp
   split
   ·rename_i l hl
    obtain ⟨a,b⟩:=h6 i l hl
    simp [a,b]
   ·rfl
theorem zas.few {v:Ver} (h:zas v):v.zf.length<=4∧∀ g ∈ v.zf,g.ends.length<=4∧1<=g.ends.length∧∀ e ∈ g.ends,Slp.isV e=true∧e.next.length<=4∧1<=e.next.length:=by
 have gn:=yd h.snap
 refine ⟨by have:=gn.zm.2;have:=h.len;omega,fun g hg=>?_⟩
 obtain ⟨i,hi⟩:=List.mem_iff_getElem?.1 hg
 have hlt:=(List.getElem?_eq_some_iff.1 hi).1
 obtain ⟨x,hx⟩:∃ x,v.snap.zm[i]?= some x:=⟨_,List.getElem?_eq_getElem (by have:=h.len;omega)⟩
 obtain ⟨h1,h2⟩:=h.grp i g x hi hx
 have gx:=gn.all x (List.mem_of_getElem? hx)
 refine ⟨by have:=gx.zM.2;omega,by have:=gx.zM.1;omega,fun e he=>?_⟩
 have ge:=h2 e he
 have gs:=gx.yA
 exact ⟨ge.is,by have:=ge.len;omega,by have:=ge.len;omega⟩
structure Grd (w:Wor):Prop where
 pins:1<=w.pins.length∧w.pins.length<=8
 counts:w.counts.length=w.pins.length∧∀ r ∈ w.counts,r.length=6
 zu:0<=w.zu∧w.zu<=1000000000000
 lock:w.lock=0∨w.lock=1
 pin:∀ p ∈ w.pins,0<=p∧p<=w.zu+1
theorem jx {w:Wor}:q9 w=true↔Grd w:=by
 unfold q9 km
 simp only [Bool.and_eq_true,Bool.or_eq_true,decide_eq_true_eq,List.all_eq_true,Bool.not_eq_true',List.any_eq_false,beq_iff_eq]
 constructor
 ·rintro ⟨⟨⟨⟨⟨⟨⟨h1,h2⟩,h3⟩,⟨h4,h5⟩,h6⟩,h7⟩,h8⟩,h9⟩,h10⟩
  exact ⟨⟨h1,h2⟩,⟨h3,h4⟩,⟨h7,h8⟩,h9,fun p hp=>by have:=h10 p hp;simp [vv] at this;omega⟩
 ·rintro ⟨⟨h1,h2⟩,⟨h3,h4⟩,⟨h7,h8⟩,h9,h10⟩
  exact ⟨⟨⟨⟨⟨⟨⟨h1,h2⟩,h3⟩,⟨h4,by omega⟩,by omega⟩,h7⟩,h8⟩,h9⟩,fun p hp=>by have:=h10 p hp;simp [vv];omega⟩
theorem zlH {N:Nat} {w:Wor} (h:j8 w) (t:TyW N w) (hN:N<=100000000):ja w:=by
 have g:=jx.1 h.ground
 refine ⟨by have:=g.pins;omega,⟨by have:=t.zel;omega,fun v hv=>?_⟩,by have:=t.lis;omega,⟨by have:=g.counts.1;have:=g.pins;omega,fun r hr=>by have:=g.counts.2 r hr;omega⟩,by have:=t.lim;omega⟩
 obtain ⟨i,hi⟩:=List.mem_iff_getElem?.1 hv
 have f:=(h.ver i v hi).1.few
 exact ⟨by omega,fun g hg=>⟨by have:=(f.2 g hg).1;omega,fun e he=>by have:=((f.2 g hg).2.2 e he).2;omega⟩⟩
theorem ziU {N:Nat} {w:Wor} (h:j8 w) (t:TyW N w) (hN:N<=100000000):OkW w:=by
 have g:=jx.1 h.ground
 refine ⟨by have:=g.pins;omega,⟨by have:=t.zel;omega,fun v hv=>?_⟩,⟨by have:=t.lis;omega,t.okl⟩,⟨by have:=g.counts.1;have:=g.pins;omega,fun r hr=>by have:=g.counts.2 r hr;omega⟩,by have:=t.lim;omega⟩
 obtain ⟨i,hi⟩:=List.mem_iff_getElem?.1 hv
 have f:=(h.ver i v hi).1.few
 have o:=t.okv v hv
 exact ⟨o.1,by omega,fun g hg=>⟨by have:=(f.2 g hg).1;omega,(o.2 g hg).2⟩⟩
theorem znp {N:Nat} {w:Wor} {m:Mac} (h:j8 w) (t:TyW N w) (tm:TyM m) {i:Nat} {v:Ver} (hv:w.zd[i]?= some v):OkR m v:=by
 have g:=(h.ver i v hv).1
 have o:=(t.okv v (List.mem_of_getElem? hv)).1
 refine ⟨⟨o.ze.1,o.rules.1,fun r hr=>o.rules.2 r hr⟩,tm.host,tm.path,tm.d0,tm.d1,fun _=>?_⟩
 obtain ⟨h0,c,hc⟩:=zgi g.snap m.op.listen m.op.host m.op.path
 exact ⟨h0,c,hc,by have:=((yd g.snap).all c (List.mem_of_getElem? hc)).zM.2;omega⟩
theorem zkM {w:Wor} (h:j8 w) {t:Int} (h0:0<=t) (h1:t < w.pins.length):∃ r,w.counts[t.toNat]?= some r∧r.length=6:=by
 have g:=jx.1 h.ground
 have hlt:t.toNat < w.counts.length:=by have:=g.counts.1;omega
 exact ⟨_,List.getElem?_eq_getElem hlt,g.counts.2 _ (List.getElem_mem hlt)⟩
theorem xQ {α:Type} (l:List α) (i:Nat) {x:α} (h:l[i]?= some x):l.set i x=l:=by
 obtain ⟨h1,rfl⟩:=List.getElem?_eq_some_iff.1 h
 exact List.set_getElem_self h1
theorem zis {w:Wor} {m:Mac} {v:Ver} {g:Gr} {e:En} (hat:AtE w m v g e):yB w m v g e g.zl e.head e.zj=w:=by
 unfold yB ju xj qQ
 rw [xQ g.ends _ hat.ate,xQ v.zf _ hat.atg,xQ w.zd _ hat.at_]
end Go.Wor
namespace Go.Wor
open Go.Ab Go.Proofs Go.Hy Go.Gat Go.Nam Go.Hos Go.Con Go.Sna
abbrev zg2 (f:FuncId) (w:Wor) (m:Mac) (r:Wor × Mac × Eve):Prop:=zc Tryz.prog f [] [Cw w,Cm m] (.tup [Cw r.1,Cm r.2.1,Ce r.2.2]) []
theorem wE {w:Wor} {m:Mac} {f:Lis->Wor × Mac × Eve} {r:Wor × Mac × Eve} (h:zbx w m f=some r):0<=m.listen∧∃ x,w.ze[m.listen.toNat]?= some x∧r=f x:=by
 unfold zbx at h
 split at h
 ·cases h
 obtain ⟨x,hx,rfl⟩:=Option.map_eq_some_iff.1 h
 exact ⟨by omega,x,hx,rfl⟩
theorem zbS {w:Wor} {m:Mac} {k pc:Int} {r:Wor × Mac × Eve} (h:zbk w m k pc=some r):∃ r0 x,w.counts[m.zo.toNat]?= some r0∧r0[k.toNat]?= some x∧
  r=({ w with counts:=w.counts.set m.zo.toNat (r0.set k.toNat (IntKind.u64.wrap (x+1))) },{ m with pc:=pc },evO m 3 10 k):=by
 unfold zbk at h
 split at h
 ·cases h
 split at h
 ·cases h
 rename_i r0 h1 _ x h2
 exact ⟨r0,x,h1,h2,(Option.some.inj h).symm⟩
theorem qP.at_ {w:Wor} {m:Mac} {v:Ver} {g:Gr} {e:En} (su:qP w m v g e):AtE w m v g e:=⟨⟨⟨su.version.1,su.atv⟩,su.zg.1,su.atg⟩,su.end_.1,su.ate⟩
theorem zdp (n:Int):0<=zaS n∧zaS n<=5:=by
 unfold zaS
 split <;> omega
section
variable {N:Nat} {w:Wor} {m:Mac} {v:Ver} {g:Gr} {e:En} {r:Wor × Mac × Eve}
theorem znk (su:qP w m v g e) (hs:qc w m=true) (t:TyW N w) (tm:TyM m) (hN:N<=100000000) (h3:m.pc < 3) (h:zlt w m=some r):zg2 152 w m r:=by
 have gw:=qR.1 su.world
 have sw:=zlH gw t hN
 have ok:=ziU gw t hN
 unfold zlt at h
 split at h
 ·rename_i hpc
  cases h
  exact jV (by omega) h3 (zaj w m sw ok tm.listen hpc hs)
 split at h
 ·rename_i hpc
  cases h
  exact jV (by omega) h3 (zak w m sw ok tm.listen hpc hs)
 split at h
 ·rename_i hpc
  cases h
  exact jV (by omega) h3 (zal w m sw ok tm.listen hpc hs)
 ·cases h
theorem zgk (su:qP w m v g e) (hs:qc w m=true) (t:TyW N w) (tm:TyM m) (hN:N<=100000000) (h:zO w m v g e=some r):zg2 152 w m r:=by
 have gw:=qR.1 su.world
 have sw:=zlH gw t hN
 have ok:=ziU gw t hN
 have hl:=tm.listen
 have at_:=su.at_
 have gv:=(gw.ver _ v su.atv).1
 have oe:=(t.okv v (List.mem_of_getElem? su.atv)).2 g (List.mem_of_getElem? su.atg)
 have okE:=oe.2 e (List.mem_of_getElem? su.ate)
 have hne:e.next≠[]:=by
  intro h0
  have:=su.slot
  rw [h0] at this
  simp at this
  omega
 unfold zO at h
 by_cases h3:m.pc < 3
 ·rw [if_pos h3] at h
  exact znk su hs t tm hN h3 h
 rw [if_neg h3] at h
 by_cases p:m.pc=3
 ·rw [if_pos p] at h
  cases h
  exact zdh sw ok hl p hs (xN w m (by have:=t.lis;omega))
 rw [if_neg p] at h
 clear p
 by_cases p:m.pc=4
 ·rw [if_pos p] at h
  obtain ⟨l0,x,hx,rfl⟩:=wE h
  exact zdi sw ok hl p hs l0 (by simp) (kR w m x l0 hx)
 rw [if_neg p] at h
 clear p
 by_cases p:m.pc=5
 ·rw [if_pos p] at h
  obtain ⟨l0,x,hx,rfl⟩:=wE h
  exact zdj sw ok hl p hs l0 (yv w m v at_.toAtV (znp gw t tm su.atv) l0 hx)
 rw [if_neg p] at h
 clear p
 by_cases p:m.pc=6
 ·rw [if_pos p] at h
  obtain ⟨c,hc,rfl⟩:=Option.map_eq_some_iff.1 h
  exact zdk sw ok hl p hs at_ hne (kn w m v g e c at_.ln hc oe.1 (by have:=((yd gv.snap).all c (List.mem_of_getElem? hc)).zM.2;omega))
 rw [if_neg p] at h
 clear p
 by_cases p:m.pc=7
 ·rw [if_pos p] at h
  cases h
  exact zk3 sw ok hl p hs (zaM w m v g e at_)
 rw [if_neg p] at h
 clear p
 by_cases p:m.pc=8
 ·rw [if_pos p] at h
  obtain ⟨e2,he2,rfl⟩:=Option.map_eq_some_iff.1 h
  exact zk4 sw ok hl p hs (zaW w m v g e2 at_.toAtG su.other.1 he2)
 rw [if_neg p] at h
 clear p
 by_cases p:m.pc=9
 ·rw [if_pos p] at h
  by_cases q:0<=zB e.head∧zB e.head < e.next.length
  ·rw [if_pos q] at h
   cases h
   exact zaQ sw ok hl p hs (yZ w m v g e at_ okE.1 q)
  ·rw [if_neg q] at h
   cases h
   exact zaQ sw ok hl p hs (zby w m v g e at_ okE.1 q)
 rw [if_neg p] at h
 clear p
 by_cases p:m.pc=10
 ·rw [if_pos p] at h
  obtain ⟨x,hx,rfl⟩:=Option.map_eq_some_iff.1 h
  exact zbr sw ok hl p hs (y0 w m v g e at_ su.slot.1 hx)
 rw [if_neg p] at h
 clear p
 by_cases p:m.pc=11
 ·rw [if_pos p] at h
  by_cases q:e.head=m.word
  ·rw [if_pos q] at h
   cases h
   exact wD sw ok hl p hs at_ hne (xV w m v g e at_.ln tm.word tm.link.1 tm.link.2 q)
  ·rw [if_neg q] at h
   cases h
   have:=wD sw ok hl p hs at_ hne (zcp w m v g e at_.ln tm.word tm.link.1 tm.link.2 okE.1 q)
   rwa [zis at_] at this
 rw [if_neg p] at h
 clear p
 by_cases p:m.pc=12
 ·rw [if_pos p] at h
  cases h
  exact zbs sw ok hl p hs at_ hne (vW w m v g e at_.ln)
 rw [if_neg p] at h
 clear p
 by_cases p:m.pc=20
 ·rw [if_pos p] at h
  obtain ⟨r0,x,hr,hx,rfl⟩:=zbS h
  exact zbt sw ok hl p hs su.zo.1 hr (by rintro rfl;simp at hx) (by simp) (yt w m r0 x _ rfl su.zo.1 hr hx)
 rw [if_neg p] at h
 clear p
 by_cases p:m.pc=21
 ·rw [if_pos p] at h
  obtain ⟨r0,x,hr,hx,rfl⟩:=zbS h
  exact zbu sw ok hl p hs su.zo.1 hr (by rintro rfl;simp at hx) (by simp) (yR w m r0 x su.zo.1 hr hx)
 rw [if_neg p] at h
 clear p
 by_cases p:m.pc=22
 ·rw [if_pos p] at h
  obtain ⟨l0,x,hx,rfl⟩:=wE h
  exact zjA sw ok hl p hs l0 (by simp) (zgo w m x l0 hx)
 rw [if_neg p] at h
 clear p
 by_cases p:m.pc=23
 ·rw [if_pos p] at h
  cases h
  exact zbv sw ok hl p hs (wo w m sw ok hl hs)
 rw [if_neg p] at h
 cases h
theorem zgg (su:qP w m v g e) (hs:qc w m=true) (t:TyW N w) (tm:TyM m) (hN:N<=100000000) (h:xx w m v g e=some r):zg2 153 w m r:=by
 have gw:=qR.1 su.world
 have sw:=zlH gw t hN
 have ok:=ziU gw t hN
 have hl:=tm.listen
 have at_:=su.at_
 have gv:=(gw.ver _ v su.atv).1
 have oe:=(t.okv v (List.mem_of_getElem? su.atv)).2 g (List.mem_of_getElem? su.atg)
 have okE:=oe.2 e (List.mem_of_getElem? su.ate)
 have ln:=((gv.few.2 g (List.mem_of_getElem? su.atg)).2.2 e (List.mem_of_getElem? su.ate)).2
 have hne:e.next≠[]:=by
  intro h0
  rw [h0] at ln
  simp at ln
 have sl:=su.slot
 unfold xx at h
 by_cases p:m.pc=0
 ·rw [if_pos p] at h
  cases h
  exact zc6 w m v g e sw ok hl p hs at_ tm.word okE.1
 rw [if_neg p] at h
 clear p
 by_cases p:m.pc=1
 ·rw [if_pos p] at h
  cases h
  exact zc7 w m v g e sw ok hl p hs at_ hne tm.word okE.1 sl.1 (by omega) rfl rfl rfl
 rw [if_neg p] at h
 clear p
 by_cases p:m.pc=2
 ·rw [if_pos p] at h
  by_cases q:e.head=m.word
  ·rw [if_pos q] at h
   cases h
   exact zc8 w m v g e sw ok hl p hs at_ hne tm.word okE.1 q (by omega) (by omega) rfl rfl rfl
  ·rw [if_neg q] at h
   cases h
   exact zfm w m v g e sw ok hl p hs at_ tm.word okE.1 q
 rw [if_neg p] at h
 clear p
 by_cases p:m.pc=3
 ·rw [if_pos p] at h
  cases h
  exact zc9 w m v g e sw ok hl p hs at_ hne tm.word okE.1 rfl rfl rfl
 rw [if_neg p] at h
 clear p
 by_cases p:m.pc=4
 ·rw [if_pos p] at h
  obtain ⟨l0,x,hx,rfl⟩:=wE h
  exact zda w m v g e x sw ok hl p hs at_ tm.word okE.1 l0 hx
 rw [if_neg p] at h
 clear p
 by_cases p:m.pc=9
 ·rw [if_pos p] at h
  cases h
  exact zdb w m v g e sw ok hl p hs at_ tm.word okE.1
 rw [if_neg p] at h
 cases h
end
end Go.Wor
namespace Go.Wor
open Go.Ab Go.Proofs Go.Hy Go.Gat Go.Nam Go.Hos Go.Con Go.Sna
section
variable {N:Nat} {w:Wor} {m:Mac} {v:Ver} {g:Gr} {e:En} {r:Wor × Mac × Eve}
theorem zk9 (gw:j8 w) {i:Nat} {x:Ret} (hx:w.zt[i]?= some x):0<=x.at_∧x.at_<=w.zu∧0<=x.version∧x.version < w.zd.length∧x.version≠w.current:=by
 have h1:=gw.bad x (List.mem_of_getElem? hx)
 have h2:=of_decide_eq_true (show decide (∀ i,(h:i < w.zt.length)->Go.Lim.okV w.zt i w.zt[i]=true)=true from gw.zt) i (List.getElem?_eq_some_iff.1 hx).1
 rw [(List.getElem?_eq_some_iff.1 hx).2] at h2
 unfold xM at h1
 unfold Go.Lim.okV at h2
 simp at h1 h2
 omega
end
end Go.Wor
namespace Go.Wor
open Go.Ab Go.Proofs Go.Gat Go.Nam Go.Hos Go.Con Go.Sna Go.Pla
open Go.Hy hiding encI
end Go.Wor
