import Derived.Test.YtdbcjcnfaajpjaaGreatRY
import Derived.Test.YtdbcjcnfaajpjaaGreatRG
import Derived.Test.YtdbcjcnfaajpjaaGreatRH
import Derived.Test.YtdbcjcnfaajpjaaGreatRZ
set_option linter.unusedVariables false
set_option linter.unusedSimpArgs false
set_option linter.unusedSectionVars false
set_option maxRecDepth 100000
set_option maxHeartbeats 4000000
namespace Go.Wor
open Go.Ab Go.Proofs Go.Hy Go.Gat Go.Nam Go.Hos Go.Con Go.Sna
theorem zgb (w:Wor) (m:Mac) (v:Ver) (g:Gr) (e:En) (sw:qC w) (ok:OkW w) (hl:i64 m.listen) (hpc:m.pc=2) (hs:z5 w m=true) (hat:AtE w m v g e) (hw:u64 m.word) (hh:u64 e.head) (hne:e.head≠m.word):
  zb Tryz.prog 63 [] [Cw w,Cm m] (.tup [Cw w,Cm { m with pc:=0 },Ce (evV m v 5 8 (e.head % 4294967296 - 1))]) []:=by
 have a0:=hat.v0
 have a1:=hat.toAtV.row
 have b0:=hat.g0
 have b1:(v.zf.map zw)[m.zg.toNat]?= some (zw g):=by rw [List.getElem?_map,hat.atg];rfl
 have c0:=hat.e0
 have c1:(g.ends.map zo)[m.end_.toNat]?= some (zo e):=by rw [List.getElem?_map,hat.ate];rfl
 refine zb.zp (fn:=Tryz.f63) Tryz.func63 rfl ?_
 conv=>whnf
 (repeat (first | (refine ⟨fun _=>?_,?_⟩;rotate_left 1;(focus (intro h;first | (simp [hpc] at h;done) | (have h:=of_decide_eq_true h;omega) | (have h:=of_decide_eq_false h;omega)));(refine dd ?_)) | (refine ⟨?_,fun _=>?_⟩;(focus (intro h;first | (simp [hpc] at h;done) | (have h:=of_decide_eq_true h;omega) | (have h:=of_decide_eq_false h;omega)));(refine dd ?_))))
 refine ⟨_,_,(zM w m ok hl).frame rfl _,?_⟩;refine dd ?_
 refine ⟨fun _=>?_,fun h=>absurd ((hs).symm.trans h:true=false) (by decide)⟩;refine dd ?_
 (repeat (first | (refine ⟨fun _=>?_,?_⟩;rotate_left 1;(focus (intro h;first | (simp [hpc] at h;done) | (have h:=of_decide_eq_true h;omega) | (have h:=of_decide_eq_false h;omega)));(refine dd ?_)) | (refine ⟨?_,fun _=>?_⟩;(focus (intro h;first | (simp [hpc] at h;done) | (have h:=of_decide_eq_true h;omega) | (have h:=of_decide_eq_false h;omega)));(refine dd ?_))))
 (repeat ((first | apply ya | apply yb);refine dd ?_))
 refine ⟨_,_,(qi w sw).frame rfl _,?_⟩;refine dd ?_
 refine .inl ⟨⟨false,[],[],[]⟩,by kernel_rfl,?_⟩;(conv=>whnf)
 (refine ⟨a0,_,a1,?_⟩);refine dd ?_
 (refine ⟨b0,_,b1,?_⟩);refine dd ?_
 (refine ⟨c0,_,c1,?_⟩);refine dd ?_
 refine ⟨_,_,(Slp.qu m.word hw).frame rfl _,?_⟩;refine dd ?_
 refine .inr ⟨⟨[0,1,5,6,7],[0,1],true⟩,by kernel_rfl,fun _=>rfl,_,?_,fun t2 H2 h=>h⟩;(conv=>whnf)
 refine ⟨_,zb.blind [] (Slp.qu e.head hh) rfl rfl rfl rfl rfl rfl rfl (fun _=>rfl) (fun _=>rfl),?_⟩;(conv=>whnf)
 refine ⟨_,zb.blind [] (xM w m v hat.toAtV 1 8 (e.head % 4294967296 - 1)) rfl rfl rfl rfl rfl rfl rfl (fun _=>rfl) (fun _=>rfl),?_⟩;(conv=>whnf)
 (refine ⟨?_,trivial⟩);(conv=>whnf);(repeat (refine ⟨rfl,?_⟩;(conv=>whnf)))
 (refine ⟨?_,trivial⟩);(conv=>whnf);(repeat (refine ⟨rfl,?_⟩;(conv=>whnf)))
 (refine ⟨_,_,.refl _,?_⟩);(conv=>whnf)
 (repeat (first | (refine ⟨fun _=>?_,?_⟩;rotate_left 1;(focus (intro h;first | (simp [hpc] at h;done) | (have h:=of_decide_eq_true h;omega) | (have h:=of_decide_eq_false h;omega)));(refine dd ?_)) | (refine ⟨?_,fun _=>?_⟩;(focus (intro h;first | (simp [hpc] at h;done) | (have h:=of_decide_eq_true h;omega) | (have h:=of_decide_eq_false h;omega)));(refine dd ?_))))
 refine .inl ⟨⟨false,[],[],[]⟩,by kernel_rfl,?_⟩;(conv=>whnf)
 refine ⟨fun _=>?_,fun h=>absurd h (by simpa using hne)⟩
 refine dd ?_
 refine vz.go rfl ?_;conv=>whnf
 refine .inl ⟨⟨false,[0,1,2],[5,1,6],[]⟩,by kernel_rfl,?_⟩;(conv=>whnf)
 repeat (refine ⟨rfl,?_⟩;conv=>whnf)
 exact ⟨.inl rfl,_,.refl _,rfl⟩
theorem zbZ (w:Wor) (m:Mac) (v:Ver) (g:Gr) (e:En) (hv:AtE w m v g e) (he:u64 e.head) (hi:¬(0<=e.head % 4294967296 - 1∧e.head % 4294967296 - 1 < e.next.length)):
  zb Tryz.prog 118 [⟨1,48,8,[zQ w],0⟩,⟨1,37,44,[zE (m)],0⟩] [.agg [.ref 0 [] 8 0 0,.ref 1 [] 44 0 0]] (Ce (evV m v 1 8 (e.head % 4294967296 - 1))) [⟨1,48,8,[zQ w],0⟩,⟨1,37,44,[zE (vU { m with word:=e.head } 4)],0⟩]:=by
 have ml:(e.next.map Go.Hy.encI).length=e.next.length:=List.length_map ..
 refine qb (fn:=Tryz.f118) Tryz.func118 rfl (Nat.le_refl _) ?_;conv=>whnf
 refine zc6 [0,1] (yZ w m v g e hv) rfl rfl rfl rfl rfl rfl ?_;refine dd ?_
 refine ⟨_,_,(Slp.qu e.head he).frame rfl _,?_⟩;refine dd ?_
 refine ⟨fun q1=>?_,fun q1=>?_⟩
 ·refine dd ?_
  (repeat ((first | apply ya | apply yb);refine dd ?_))
  refine zr [1] (xI { m with word:=e.head } 4) rfl rfl rfl rfl rfl rfl ?_;refine dd ?_
  refine zr [0,1] (y6 w (vU { m with word:=e.head } 4) v ⟨hv.v0,hv.at_⟩ 1 8 (e.head % 4294967296 - 1)) rfl rfl rfl rfl rfl rfl ?_;refine dd ?_
  exact ⟨.inl rfl,_,_,.refl _,rfl,cE 2⟩
 ·refine dd ?_
  refine zc6 [0,1] (yZ w { m with word:=e.head } v g e ⟨⟨⟨hv.v0,hv.at_⟩,hv.g0,hv.atg⟩,hv.e0,hv.ate⟩) rfl rfl rfl rfl rfl rfl ?_;refine dd ?_
  rw [ml]
  refine ⟨fun q2=>?_,fun q2=>?_⟩
  ·refine dd ?_
   (repeat ((first | apply ya | apply yb);refine dd ?_))
   refine zr [1] (xI { m with word:=e.head } 4) rfl rfl rfl rfl rfl rfl ?_;refine dd ?_
   refine zr [0,1] (y6 w (vU { m with word:=e.head } 4) v ⟨hv.v0,hv.at_⟩ 1 8 (e.head % 4294967296 - 1)) rfl rfl rfl rfl rfl rfl ?_;refine dd ?_
   exact ⟨.inl rfl,_,_,.refl _,rfl,cE 2⟩
  ·exact absurd ⟨by simp at q1;omega,by simp at q2;omega⟩ hi
end Go.Wor
namespace Go.Wor
open Go.Ab Go.Proofs Go.Hy Go.Gat Go.Nam Go.Hos Go.Con Go.Sna
abbrev Res:=Option (Wor × Mac × Eve)
def znM (w:Wor) (m:Mac):Res:=
 if m.pc=0 then some (w,{ m with zn:=w.zn,pc:=1 },zeN m (ldE w.zn))
 else if m.pc=1 then some (zd9 w m.zq.toNat (IntKind.i64.wrap (m.zn+1)),{ m with pc:=2 },zeN m ⟨0,0,2,2,0,false,IntKind.i64.wrap (m.zn+1),false,false,false,ki⟩)
 else if m.pc=2 then some (w,{ m with zn:=w.zn,pc:=if w.zn=m.zn then 3 else 1 },zeN m (ldE w.zn))
 else none
abbrev zn9 (x:Lis):Lis:={ x with zj:=IntKind.i64.wrap (x.zj+1) }
abbrev zR (x:Int):Int:=x % 4294967296 - 1
abbrev zkb (m:Mac):Ans:=⟨1,m.version,m.zg,m.end_,m.slot,m.listen,0,⟨0,0,0,0,0,0⟩⟩
def zbL (w:Wor) (m:Mac) (k pc:Int):Res:=match w.counts[m.zq.toNat]? with
 | none=>none
 | some r0=>match r0[k.toNat]? with
  | none=>none
  | some x=>some ({ w with counts:=w.counts.set m.zq.toNat (r0.set k.toNat (IntKind.u64.wrap (x+1))) },{ m with pc:=pc },evO m 3 10 k)
def zgn (w:Wor) (m:Mac) (f:Lis->Wor × Mac × Eve):Res:=if m.listen < 0 then none else (w.ze[m.listen.toNat]?).map f
def qn (w:Wor) (m:Mac) (v:Ver) (g:Gr) (e:En):Res:=
 if m.pc < 3 then znM w m
 else if m.pc=3 then some (w,if qd w.ze m.op.listen < 0 then vU (lvM w m) 2 else lvM w m,ptE (evO m 1 3 w.current))
 else if m.pc=4 then zgn w m fun x=>({ w with ze:=w.ze.set m.listen.toNat (zn9 x) },{ m with pc:=5 },evO m 3 5 (IntKind.i64.wrap (x.zj+1)))
 else if m.pc=5 then zgn w m fun l=>(w,if l.drain then vU m 5 else xN m v,if l.drain then { evO m 1 4 1 with ye:=true } else evO m 1 4 0)
 else if m.pc=6 then (v.snap.zk[m.zg.toNat]?).map fun c=>(vH w m v g e (IntKind.u64.wrap (g.zu+1)) e.head e.zj,zgO m c g.zu,evV m v 3 6 (IntKind.i64.wrap g.zu))
 else if m.pc=7 then some (w,{ m with i:=e.zj,pc:=8 },evV m v 1 7 e.zj)
 else if m.pc=8 then (g.ends[m.other.toNat]?).map fun e2=>(w,{ m with end_:=if e2.zj < m.i then m.other else m.end_,pc:=9 },evV m v 1 7 e2.zj)
 else if m.pc=9 then some (w,if 0<=zR e.head∧zR e.head < e.next.length then { m with word:=e.head,slot:=zR e.head,pc:=10 } else vU { m with word:=e.head } 4,evV m v 1 8 (zR e.head))
 else if m.pc=10 then (e.next[m.slot.toNat]?).map fun x=>(w,{ m with link:=x,pc:=11 },evV m v 1 9 x)
 else if m.pc=11 then (if e.head=m.word then some (vH w m v g e g.zu (Slp.xx m.word m.link) e.zj,{ m with pc:=12 },evV m v 4 8 m.slot) else some (w,{ m with pc:=9 },evV m v 5 8 (zR e.head)))
 else if m.pc=12 then some (vH w m v g e g.zu e.head (IntKind.i64.wrap (e.zj+1)),{ m with answer:=zkb m,pc:=20 },evV m v 3 7 (IntKind.i64.wrap (e.zj+1)))
 else if m.pc=20 then zbL w m (zbe m.answer.kind) 21
 else if m.pc=21 then zbL w m 0 (if m.answer.kind=1∨m.listen < 0 then 23 else 22)
 else if m.pc=22 then zgn w m fun x=>({ w with ze:=w.ze.set m.listen.toNat (zdV x) },{ m with pc:=23 },evO m 3 5 (IntKind.i64.wrap (x.zj - 1)))
 else if m.pc=23 then some (zd9 w m.zq.toNat 0,{ m with done:=true },{ zmv m with done:=true,answer:=m.answer })
 else none
def wY (w:Wor) (m:Mac) (v:Ver) (g:Gr) (e:En):Res:=
 if m.pc=0 then some (w,{ m with word:=e.head,pc:=1 },evV m v 1 8 (zR e.head))
 else if m.pc=1 then some (vH w m v g (wC m e) g.zu e.head e.zj,{ m with pc:=2 },evV m v 2 9 (zR m.word))
 else if m.pc=2 then (if e.head=m.word then some (vH w m v g e g.zu (Slp.xx m.word m.slot) e.zj,{ m with pc:=3 },{ evV m v 4 8 m.slot with ye:=true }) else some (w,{ m with pc:=0 },evV m v 5 8 (zR e.head)))
 else if m.pc=3 then some (vH w m v g e g.zu e.head (IntKind.i64.wrap (e.zj - 1)),{ m with pc:=4 },evV m v 3 7 (IntKind.i64.wrap (e.zj - 1)))
 else if m.pc=4 then zgn w m fun x=>({ w with ze:=w.ze.set m.listen.toNat (zdV x) },{ m with answer:=zl9 m,done:=true },zn5 m x)
 else if m.pc=9 then some (w,{ m with answer:=vN 7,done:=true },zoa m)
 else none
def zfJ (w:Wor) (m:Mac):Res:=
 if m.pc=0 then (if wM m.op.config=0 then some ({ w with current:=w.zd.length,zd:=w.zd++[kT m.op.config] },swM m w.current w.zd.length,{ evO m 6 3 w.zd.length with ye:=true })
  else some (w,{ m with done:=true,answer:=swN (wM m.op.config) },{ evO m 1 3 w.current with ye:=true,done:=true,answer:=swN (wM m.op.config) }))
 else if m.pc=1 then some (w,{ m with zn:=w.zn,pc:=2 },evO m 1 1 w.zn)
 else if m.pc=2 then (if kN w m then none else some ({ w with zm:=w.zm++[⟨m.version,m.zn,false⟩] },{ m with done:=true,answer:=zlz m },{ evO m 2 11 m.version with done:=true,answer:=zlz m }))
 else none
abbrev zpl (p:Int):Ans:=⟨10,0,0,0,0,p,0,⟨0,0,0,0,0,0⟩⟩
def zbM (w:Wor) (m:Mac):Res:=
 if m.pc=0 then (if qd w.ze m.op.listen < 0 then some (w,{ m with done:=true,answer:=vN 7 },{ drE m with done:=true,answer:=vN 7 })
  else (w.ze[(qd w.ze m.op.listen).toNat]?).map fun x=>({ w with ze:=w.ze.set (qd w.ze m.op.listen).toNat (Go.Gat.ky x) },{ m with listen:=qd w.ze m.op.listen,done:=true,answer:=zpl (qd w.ze m.op.listen) },{ zoy m with done:=true,answer:=zpl (qd w.ze m.op.listen) }))
 else none
def ldS (w:Wor) (m:Mac):Wor × Mac × Eve:=match w.ze[m.i.toNat]? with
 | none=>({ w with lock:=0 },{ m with done:=true,answer:=zlK 11 m.answer.n },{ evO m 2 14 0 with done:=true,answer:=zlK 11 m.answer.n })
 | some l=>(w,ldM m l,zpu m l)
def vS (w:Wor) (m:Mac):Res:=
 if m.pc=0 then some (if w.lock=0 then ({ w with lock:=1 },{ m with pc:=1 },evO m 4 14 1) else (w,{ m with done:=true,answer:=vN 12 },{ evO m 5 14 1 with done:=true,answer:=vN 12 }))
 else if m.pc=1 then some (w,{ m with zn:=w.zn,pc:=2,i:=0 },evO m 1 1 w.zn)
 else if m.pc=2 then (w.pins[m.i.toNat]?).map fun p=>(w,lpM w m p,evO m 1 2 p)
 else if m.pc=3 then some (if w.zn=m.zn∧w.zn < 1000000000000 then ({ w with zn:=IntKind.i64.wrap (w.zn+1) },{ atM m 4 0 with zn:=IntKind.i64.wrap (w.zn+1) },evO m 4 1 (IntKind.i64.wrap (w.zn+1))) else (w,atM m 4 0,evO m 5 1 w.zn))
 else if m.pc=4 then some (match w.zm[m.i.toNat]? with | none=>ldS w (atM m 8 0) | some r=>(w,llM m r,evO m 1 11 r.version))
 else if m.pc=5 then (w.zd[m.version.toNat]?).bind fun v=>((xw v)[m.k.toNat]?).map fun e=>(w,laM m v e.zj,laE m v e.zj)
 else if m.pc=6 then (w.zd[m.version.toNat]?).bind fun v=>(w.zm[m.i.toNat]?).bind fun r=>if r.version=m.version∧r.gone=false then
  some ({ w with zd:=w.zd.set m.version.toNat (zau v),zm:=w.zm.set m.i.toNat (v7 r) },frM m,evO m 2 12 m.version) else none
 else if m.pc=8 then some (ldS w m)
 else if m.pc=9 then (w.ze[m.i.toNat]?).map fun l=>(w,if l.zj=0 then { m with pc:=10 } else atM m 8 (IntKind.i64.wrap (m.i+1)),evO m 1 5 l.zj)
 else if m.pc=10 then (w.ze[m.i.toNat]?).bind fun l=>if l.drain then some ({ w with ze:=w.ze.set m.i.toNat (zer l) },atM m 8 (IntKind.i64.wrap (m.i+1)),evO m 2 13 1) else none
 else none
def zca (w:Wor) (m:Mac):Res:=
 if m.pc=0∧m.k < 6 then (w.counts[m.i.toNat]?).bind fun r=>(r[m.k.toNat]?).map fun n=>(w,jK w m n,zfG w m n) else none
def zhW (w:Wor) (m:Mac):Res:=match w.zd[m.version.toNat]? with
 | none=>none
 | some v=>match v.zf[m.zg.toNat]? with
  | none=>none
  | some g=>match g.ends[m.end_.toNat]? with
   | none=>none
   | some e=>if m.op.kind=1 then qn w m v g e else if m.op.kind=2 then wY w m v g e else if m.op.kind=3 then zfJ w m else if m.op.kind=4 then zbM w m
    else if m.op.kind=5 then vS w m else if m.op.kind=6 then zca w m else none
structure TyW (N:Nat) (w:Wor):Prop where
 zc2:w.zd.length<=N
 lis:w.ze.length<=N
 lim:w.zm.length<=N
 okv:∀ v ∈ w.zd,vb v.snap∧∀ g ∈ v.zf,u64 g.zu∧∀ e ∈ g.ends,e.ok
 okl:∀ l ∈ w.ze,l.ok
structure TyM (m:Mac):Prop where
 listen:i64 m.listen
 word:u64 m.word
 link: -1<=m.link∧m.link<=2147483646
 host:m.op.host.length < 1000000000000
 path:m.op.path.length < 1000000000000
 d0:i64 m.op.d0
 d1:i64 m.op.d1
 cfg:xF m.op.config
 ans:m.op.kind=6->m.done=false->m.answer=ki
end Go.Wor
namespace Go.Wor
open Go.Ab Go.Proofs Go.Hy Go.Gat Go.Nam Go.Hos Go.Con Go.Sna
theorem zcm {c:Cfg} (h:(jf c).1=0):(yQ c).1=0∧(jo (zgm c.ze) c.ze.length).1=0∧(jo (zbK c.zk) c.zk.length).1=0∧(jo (zei c) c.zP.length).1=0:=by
 unfold jf at h
 split at h
 ·contradiction
 rename_i h1
 split at h
 ·contradiction
 rename_i h2
 split at h
 ·contradiction
 rename_i h3
 split at h
 ·contradiction
 rename_i h4
 exact ⟨by simpa using h1,Decidable.of_not_not h2,Decidable.of_not_not h3,Decidable.of_not_not h4⟩
theorem zfB {c:Cfg} {i:Nat} {r:Rou} (hr:c.zP[i]?= some r) (h:zei c i=0):c.ze.any (fun x=>x == r.listen)=true∧zc1 r.host=true∧kP r.path=true∧kH c.zk r.zg=true:=by
 unfold zei at h
 rw [hr] at h
 dsimp only at h
 split at h
 ·cases h
 rename_i h1
 split at h
 ·cases h
 rename_i h2
 split at h
 ·cases h
 rename_i h3
 split at h
 ·cases h
 rename_i h4
 exact ⟨by simpa using h1,by simpa using h2,by simpa using h3,by simpa using h4⟩
theorem zkw {l:List Clu} {i:Nat} {c:Clu} (hc:l[i]?= some c) (h:zbK l i=0):j0 c.name=true:=by
 unfold zbK at h
 rw [hc] at h
 dsimp only at h
 split at h
 ·cases h
 rename_i h1
 simpa using h1
theorem zkT:j0 []=false:=by decide
theorem zls {s:Sna} (h:yR s=true) {r:Rul} (hr:r ∈ s.rules):0<=r.zg∧r.zg < s.zk.length:=by
 have h:(jf (wg s)).1=0:=by unfold yR at h;simpa using h
 obtain ⟨_,_,h3,h4⟩:=zcm h
 obtain ⟨i,hi⟩:=List.mem_iff_getElem?.1 hr
 have hi':(wg s).zP[i]?= some (zeZ s r):=by unfold wg;simp only [List.getElem?_map,hi,Option.map_some]
 have hz:=zgc h4 i (List.getElem?_eq_some_iff.1 hi').1
 obtain ⟨_,_,_,hn⟩:=zfB hi' hz
 have hn:s.zk.any (fun c=>c.name == yd s.zk r.zg)=true:=hn
 by_cases hb:0<=r.zg∧r.zg < s.zk.length
 ·exact hb
 ·unfold yd at hn
  rw [if_neg hb] at hn
  obtain ⟨c,hc,he⟩:=List.any_eq_true.1 hn
  obtain ⟨j,hj⟩:=List.mem_iff_getElem?.1 hc
  have:=zkw hj (zgc h3 j (List.getElem?_eq_some_iff.1 hj).1)
  rw [show c.name=[] from by simpa using he,zkT] at this
  cases this
theorem zhh {s:Sna} (h:yR s=true) (n hh p:Str):0<=(vJ s n hh p).1∧∃ c,s.zk[(vJ s n hh p).1.toNat]?= some c:=by
 have g:=(jE h).zk.1
 have zero:∃ c,s.zk[(0:Int).toNat]?= some c:=⟨s.zk[0]'(by omega),List.getElem?_eq_getElem (by omega)⟩
 unfold vJ
 split
 ·exact ⟨Int.le_refl _,zero⟩
 ·split
  ·exact ⟨Int.le_refl _,zero⟩
  ·split
   ·rename_i r hr
    have:=zls h (List.mem_of_getElem? hr)
    exact ⟨this.1,s.zk[r.zg.toNat]'(by omega),List.getElem?_eq_getElem (by omega)⟩
   ·exact ⟨Int.le_refl _,zero⟩
structure zn1 (x:Clu) (e:En):Prop where
 is:Slp.isV e=true
 len:(e.next.length:Int)=x.xy
structure kM (v:Ver):Prop where
 snap:yR v.snap=true
 len:v.zf.length=v.snap.zk.length
 grp:∀ (i:Nat) g x,v.zf[i]?= some g->v.snap.zk[i]?= some x->g.ends.length=x.zI.length∧∀ e ∈ g.ends,zn1 x e
theorem za3 {x:Clu} {e:En}:kz x e=false↔zn1 x e:=by
 unfold kz
 constructor
 ·intro h
  simp at h
  exact ⟨h.1,h.2⟩
 ·rintro ⟨h1,h2⟩
  simp [h1,h2]
theorem zh3 {v:Ver}:zcd v=true↔kM v:=by
 unfold zcd
 simp only [Bool.and_eq_true,decide_eq_true_eq,List.all_eq_true,List.mem_range]
 constructor
 ·rintro ⟨⟨h1,h2⟩,h3⟩
  refine ⟨h1,h2,fun i g x hg hx=>?_⟩
  have:=h3 i (List.getElem?_eq_some_iff.1 hg).1
  unfold zcw at this
  rw [hg,hx] at this
  simp only [Bool.and_eq_true,decide_eq_true_eq,Bool.not_eq_true',List.any_eq_false] at this
  exact ⟨this.1,fun e he=>za3.1 (by simpa using this.2 e he)⟩
 ·rintro ⟨h1,h2,h3⟩
  refine ⟨⟨h1,h2⟩,fun i hi=>?_⟩
  unfold zcw
  split
  ·rename_i g x hg hx
   obtain ⟨h4,h5⟩:=h3 i g x hg hx
   simp only [Bool.and_eq_true,decide_eq_true_eq,Bool.not_eq_true',List.any_eq_false]
   exact ⟨h4,fun e he=>by simp [za3.2 (h5 e he)]⟩
  ·rfl
structure jF (w:Wor):Prop where
 ground:jh w=true
 current:0<=w.current∧w.current < w.zd.length
 zm:Go.Lim.isV w.zm=true
 bad:∀ r ∈ w.zm,xl w r=false
 ver:∀ (i:Nat) v,w.zd[i]?= some v->kM v∧v.zD=yc w.zm i
 lis:∀ (i:Nat) l,w.ze[i]?= some l->Go.Gat.isV l=true∧qd w.ze l.name=i
theorem qh {w:Wor}:jJ w=true↔jF w:=by
 unfold jJ
 simp only [Bool.and_eq_true,decide_eq_true_eq,List.all_eq_true,List.mem_range,Bool.not_eq_true',List.any_eq_false]
 constructor
 ·rintro ⟨⟨⟨⟨⟨h1,h2⟩,h3⟩,h4⟩,h5⟩,h6⟩
  refine ⟨h1,h2,h3,fun r hr=>by simpa using h4 r hr,fun i v hv=>?_,fun i l hl=>?_⟩
  ·have:=h5 i (List.getElem?_eq_some_iff.1 hv).1
   unfold wQ at this
   rw [hv] at this
   simp only [Bool.and_eq_true,beq_iff_eq] at this
   exact ⟨zh3.1 this.1,this.2⟩
  ·have:=h6 i (List.getElem?_eq_some_iff.1 hl).1
   unfold kO at this
   rw [hl] at this
   simpa using this
 ·rintro ⟨h1,h2,h3,h4,h5,h6⟩
  refine ⟨⟨⟨⟨⟨h1,h2⟩,h3⟩,fun r hr=>by simp [h4 r hr]⟩,fun i hi=>?_⟩,fun i hi=>?_⟩
  ·unfold wQ
   split
   ·rename_i v hv
    obtain ⟨a,b⟩:=h5 i v hv
    simp [zh3.2 a,b]
   ·rfl
  ·unfold kO
   split
   ·rename_i l hl
    obtain ⟨a,b⟩:=h6 i l hl
    simp [a,b]
   ·rfl
theorem kM.few {v:Ver} (h:kM v):v.zf.length<=4∧∀ g ∈ v.zf,g.ends.length<=4∧1<=g.ends.length∧∀ e ∈ g.ends,Slp.isV e=true∧e.next.length<=4∧1<=e.next.length:=by
 have gn:=jE h.snap
 refine ⟨by have:=gn.zk.2;have:=h.len;omega,fun g hg=>?_⟩
 obtain ⟨i,hi⟩:=List.mem_iff_getElem?.1 hg
 have hlt:=(List.getElem?_eq_some_iff.1 hi).1
 obtain ⟨x,hx⟩:∃ x,v.snap.zk[i]?= some x:=⟨_,List.getElem?_eq_getElem (by have:=h.len;omega)⟩
 obtain ⟨h1,h2⟩:=h.grp i g x hi hx
 have gx:=gn.all x (List.mem_of_getElem? hx)
 refine ⟨by have:=gx.zI.2;omega,by have:=gx.zI.1;omega,fun e he=>?_⟩
 have ge:=h2 e he
 have gs:=gx.xy
 exact ⟨ge.is,by have:=ge.len;omega,by have:=ge.len;omega⟩
structure Grd (w:Wor):Prop where
 pins:1<=w.pins.length∧w.pins.length<=8
 counts:w.counts.length=w.pins.length∧∀ r ∈ w.counts,r.length=6
 zn:0<=w.zn∧w.zn<=1000000000000
 lock:w.lock=0∨w.lock=1
 pin:∀ p ∈ w.pins,0<=p∧p<=w.zn+1
theorem qm {w:Wor}:jh w=true↔Grd w:=by
 unfold jh kK
 simp only [Bool.and_eq_true,Bool.or_eq_true,decide_eq_true_eq,List.all_eq_true,Bool.not_eq_true',List.any_eq_false,beq_iff_eq]
 constructor
 ·rintro ⟨⟨⟨⟨⟨⟨⟨h1,h2⟩,h3⟩,⟨h4,h5⟩,h6⟩,h7⟩,h8⟩,h9⟩,h10⟩
  exact ⟨⟨h1,h2⟩,⟨h3,h4⟩,⟨h7,h8⟩,h9,fun p hp=>by have:=h10 p hp;simp [vM] at this;omega⟩
 ·rintro ⟨⟨h1,h2⟩,⟨h3,h4⟩,⟨h7,h8⟩,h9,h10⟩
  exact ⟨⟨⟨⟨⟨⟨⟨h1,h2⟩,h3⟩,⟨h4,by omega⟩,by omega⟩,h7⟩,h8⟩,h9⟩,fun p hp=>by have:=h10 p hp;simp [vM];omega⟩
theorem zes {N:Nat} {w:Wor} (h:jF w) (t:TyW N w) (hN:N<=100000000):qC w:=by
 have g:=qm.1 h.ground
 refine ⟨by have:=g.pins;omega,⟨by have:=t.zc2;omega,fun v hv=>?_⟩,by have:=t.lis;omega,⟨by have:=g.counts.1;have:=g.pins;omega,fun r hr=>by have:=g.counts.2 r hr;omega⟩,by have:=t.lim;omega⟩
 obtain ⟨i,hi⟩:=List.mem_iff_getElem?.1 hv
 have f:=(h.ver i v hi).1.few
 exact ⟨by omega,fun g hg=>⟨by have:=(f.2 g hg).1;omega,fun e he=>by have:=((f.2 g hg).2.2 e he).2;omega⟩⟩
theorem zcE {N:Nat} {w:Wor} (h:jF w) (t:TyW N w) (hN:N<=100000000):OkW w:=by
 have g:=qm.1 h.ground
 refine ⟨by have:=g.pins;omega,⟨by have:=t.zc2;omega,fun v hv=>?_⟩,⟨by have:=t.lis;omega,t.okl⟩,⟨by have:=g.counts.1;have:=g.pins;omega,fun r hr=>by have:=g.counts.2 r hr;omega⟩,by have:=t.lim;omega⟩
 obtain ⟨i,hi⟩:=List.mem_iff_getElem?.1 hv
 have f:=(h.ver i v hi).1.few
 have o:=t.okv v hv
 exact ⟨o.1,by omega,fun g hg=>⟨by have:=(f.2 g hg).1;omega,(o.2 g hg).2⟩⟩
theorem zl8 {w:Wor} (h:jF w) {i:Nat} {v:Ver} (hv:w.zd[i]?= some v):zlD v:=by
 have f:=(h.ver i v hv).1.few
 exact ⟨by omega,fun g hg=>by have:=(f.2 g hg).1;omega⟩
theorem zoI {N:Nat} {w:Wor} {m:Mac} (h:jF w) (t:TyW N w) (tm:TyM m) {i:Nat} {v:Ver} (hv:w.zd[i]?= some v):OkR m v:=by
 have g:=(h.ver i v hv).1
 have o:=(t.okv v (List.mem_of_getElem? hv)).1
 refine ⟨⟨o.ze.1,o.rules.1,fun r hr=>o.rules.2 r hr⟩,tm.host,tm.path,tm.d0,tm.d1,fun _=>?_⟩
 obtain ⟨h0,c,hc⟩:=zhh g.snap m.op.listen m.op.host m.op.path
 exact ⟨h0,c,hc,by have:=((jE g.snap).all c (List.mem_of_getElem? hc)).zI.2;omega⟩
theorem zl0 {w:Wor} (h:jF w) {t:Int} (h0:0<=t) (h1:t < w.pins.length):∃ r,w.counts[t.toNat]?= some r∧r.length=6:=by
 have g:=qm.1 h.ground
 have hlt:t.toNat < w.counts.length:=by have:=g.counts.1;omega
 exact ⟨_,List.getElem?_eq_getElem hlt,g.counts.2 _ (List.getElem_mem hlt)⟩
theorem x6 {α:Type} (l:List α) (i:Nat) {x:α} (h:l[i]?= some x):l.set i x=l:=by
 obtain ⟨h1,rfl⟩:=List.getElem?_eq_some_iff.1 h
 exact List.set_getElem_self h1
theorem zjG {w:Wor} {m:Mac} {v:Ver} {g:Gr} {e:En} (hat:AtE w m v g e):vH w m v g e g.zu e.head e.zj=w:=by
 unfold vH jB xt jl
 rw [x6 g.ends _ hat.ate,x6 v.zf _ hat.atg,x6 w.zd _ hat.at_]
end Go.Wor
namespace Go.Wor
open Go.Ab Go.Proofs Go.Hy Go.Gat Go.Nam Go.Hos Go.Con Go.Sna
abbrev zaq (f:FuncId) (w:Wor) (m:Mac) (r:Wor × Mac × Eve):Prop:=zb Tryz.prog f [] [Cw w,Cm m] (.tup [Cw r.1,Cm r.2.1,Ce r.2.2]) []
theorem w6 {w:Wor} {m:Mac} {f:Lis->Wor × Mac × Eve} {r:Wor × Mac × Eve} (h:zgn w m f=some r):0<=m.listen∧∃ x,w.ze[m.listen.toNat]?= some x∧r=f x:=by
 unfold zgn at h
 split at h
 ·cases h
 obtain ⟨x,hx,rfl⟩:=Option.map_eq_some_iff.1 h
 exact ⟨by omega,x,hx,rfl⟩
theorem zcn {w:Wor} {m:Mac} {k pc:Int} {r:Wor × Mac × Eve} (h:zbL w m k pc=some r):∃ r0 x,w.counts[m.zq.toNat]?= some r0∧r0[k.toNat]?= some x∧
  r=({ w with counts:=w.counts.set m.zq.toNat (r0.set k.toNat (IntKind.u64.wrap (x+1))) },{ m with pc:=pc },evO m 3 10 k):=by
 unfold zbL at h
 split at h
 ·cases h
 split at h
 ·cases h
 rename_i r0 h1 _ x h2
 exact ⟨r0,x,h1,h2,(Option.some.inj h).symm⟩
theorem qI.at_ {w:Wor} {m:Mac} {v:Ver} {g:Gr} {e:En} (su:qI w m v g e):AtE w m v g e:=⟨⟨⟨su.version.1,su.atv⟩,su.zg.1,su.atg⟩,su.end_.1,su.ate⟩
theorem zi5 (n:Int):0<=zbe n∧zbe n<=5:=by
 unfold zbe
 split <;> omega
section
variable {N:Nat} {w:Wor} {m:Mac} {v:Ver} {g:Gr} {e:En} {r:Wor × Mac × Eve}
theorem zoD (su:qI w m v g e) (hs:z5 w m=true) (t:TyW N w) (tm:TyM m) (hN:N<=100000000) (h3:m.pc < 3) (h:znM w m=some r):zaq 62 w m r:=by
 have gw:=qh.1 su.world
 have sw:=zes gw t hN
 have ok:=zcE gw t hN
 unfold znM at h
 split at h
 ·rename_i hpc
  cases h
  exact j5 (by omega) h3 (zaG w m sw ok tm.listen hpc hs)
 split at h
 ·rename_i hpc
  cases h
  exact j5 (by omega) h3 (zaH w m sw ok tm.listen hpc hs)
 split at h
 ·rename_i hpc
  cases h
  exact j5 (by omega) h3 (zaI w m sw ok tm.listen hpc hs)
 ·cases h
theorem zhj (su:qI w m v g e) (hs:z5 w m=true) (t:TyW N w) (tm:TyM m) (hN:N<=100000000) (h:qn w m v g e=some r):zaq 62 w m r:=by
 have gw:=qh.1 su.world
 have sw:=zes gw t hN
 have ok:=zcE gw t hN
 have hl:=tm.listen
 have at_:=su.at_
 have gv:=(gw.ver _ v su.atv).1
 have oe:=(t.okv v (List.mem_of_getElem? su.atv)).2 g (List.mem_of_getElem? su.atg)
 have okE:=oe.2 e (List.mem_of_getElem? su.ate)
 have hne:e.next≠[]:=by
  intro h0
  have:=su.slot
  rw [h0] at this
  simp at this
  omega
 unfold qn at h
 by_cases h3:m.pc < 3
 ·rw [if_pos h3] at h
  exact zoD su hs t tm hN h3 h
 rw [if_neg h3] at h
 by_cases p:m.pc=3
 ·rw [if_pos p] at h
  cases h
  exact zdM sw ok hl p hs (x3 w m (by have:=t.lis;omega))
 rw [if_neg p] at h
 clear p
 by_cases p:m.pc=4
 ·rw [if_pos p] at h
  obtain ⟨l0,x,hx,rfl⟩:=w6 h
  exact zdN sw ok hl p hs l0 (by simp) (wj w m x l0 hx)
 rw [if_neg p] at h
 clear p
 by_cases p:m.pc=5
 ·rw [if_pos p] at h
  obtain ⟨l0,x,hx,rfl⟩:=w6 h
  exact zdO sw ok hl p hs l0 (yK w m v at_.toAtV (zoI gw t tm su.atv) l0 hx)
 rw [if_neg p] at h
 clear p
 by_cases p:m.pc=6
 ·rw [if_pos p] at h
  obtain ⟨c,hc,rfl⟩:=Option.map_eq_some_iff.1 h
  exact zdP sw ok hl p hs at_ hne (kL w m v g e c at_.ln hc oe.1 (by have:=((jE gv.snap).all c (List.mem_of_getElem? hc)).zI.2;omega))
 rw [if_neg p] at h
 clear p
 by_cases p:m.pc=7
 ·rw [if_pos p] at h
  cases h
  exact zmf sw ok hl p hs (za7 w m v g e at_)
 rw [if_neg p] at h
 clear p
 by_cases p:m.pc=8
 ·rw [if_pos p] at h
  obtain ⟨e2,he2,rfl⟩:=Option.map_eq_some_iff.1 h
  exact zmg sw ok hl p hs (zbj w m v g e2 at_.toAtG su.other.1 he2)
 rw [if_neg p] at h
 clear p
 by_cases p:m.pc=9
 ·rw [if_pos p] at h
  by_cases q:0<=zR e.head∧zR e.head < e.next.length
  ·rw [if_pos q] at h
   cases h
   exact zbc sw ok hl p hs (vm w m v g e at_ okE.1 q)
  ·rw [if_neg q] at h
   cases h
   exact zbc sw ok hl p hs (zbZ w m v g e at_ okE.1 q)
 rw [if_neg p] at h
 clear p
 by_cases p:m.pc=10
 ·rw [if_pos p] at h
  obtain ⟨x,hx,rfl⟩:=Option.map_eq_some_iff.1 h
  exact zbS sw ok hl p hs (vn w m v g e at_ su.slot.1 hx)
 rw [if_neg p] at h
 clear p
 by_cases p:m.pc=11
 ·rw [if_pos p] at h
  by_cases q:e.head=m.word
  ·rw [if_pos q] at h
   cases h
   exact w5 sw ok hl p hs at_ hne (yf w m v g e at_.ln tm.word tm.link.1 tm.link.2 q)
  ·rw [if_neg q] at h
   cases h
   have:=w5 sw ok hl p hs at_ hne (zcW w m v g e at_.ln tm.word tm.link.1 tm.link.2 okE.1 q)
   rwa [zjG at_] at this
 rw [if_neg p] at h
 clear p
 by_cases p:m.pc=12
 ·rw [if_pos p] at h
  cases h
  exact zbT sw ok hl p hs at_ hne (ks w m v g e at_.ln)
 rw [if_neg p] at h
 clear p
 by_cases p:m.pc=20
 ·rw [if_pos p] at h
  obtain ⟨r0,x,hr,hx,rfl⟩:=zcn h
  exact zbU sw ok hl p hs su.zq.1 hr (by rintro rfl;simp at hx) (by simp) (yI w m r0 x _ rfl su.zq.1 hr hx)
 rw [if_neg p] at h
 clear p
 by_cases p:m.pc=21
 ·rw [if_pos p] at h
  obtain ⟨r0,x,hr,hx,rfl⟩:=zcn h
  exact zbV sw ok hl p hs su.zq.1 hr (by rintro rfl;simp at hx) (by simp) (vc w m r0 x su.zq.1 hr hx)
 rw [if_neg p] at h
 clear p
 by_cases p:m.pc=22
 ·rw [if_pos p] at h
  obtain ⟨l0,x,hx,rfl⟩:=w6 h
  exact zkG sw ok hl p hs l0 (by simp) (zhp w m x l0 hx)
 rw [if_neg p] at h
 clear p
 by_cases p:m.pc=23
 ·rw [if_pos p] at h
  cases h
  exact zbW sw ok hl p hs (wP w m sw ok hl hs)
 rw [if_neg p] at h
 cases h
theorem zhd (su:qI w m v g e) (hs:z5 w m=true) (t:TyW N w) (tm:TyM m) (hN:N<=100000000) (h:wY w m v g e=some r):zaq 63 w m r:=by
 have gw:=qh.1 su.world
 have sw:=zes gw t hN
 have ok:=zcE gw t hN
 have hl:=tm.listen
 have at_:=su.at_
 have gv:=(gw.ver _ v su.atv).1
 have oe:=(t.okv v (List.mem_of_getElem? su.atv)).2 g (List.mem_of_getElem? su.atg)
 have okE:=oe.2 e (List.mem_of_getElem? su.ate)
 have ln:=((gv.few.2 g (List.mem_of_getElem? su.atg)).2.2 e (List.mem_of_getElem? su.ate)).2
 have hne:e.next≠[]:=by
  intro h0
  rw [h0] at ln
  simp at ln
 have sl:=su.slot
 unfold wY at h
 by_cases p:m.pc=0
 ·rw [if_pos p] at h
  cases h
  exact zdB w m v g e sw ok hl p hs at_ tm.word okE.1
 rw [if_neg p] at h
 clear p
 by_cases p:m.pc=1
 ·rw [if_pos p] at h
  cases h
  exact zdC w m v g e sw ok hl p hs at_ hne tm.word okE.1 sl.1 (by omega) rfl rfl rfl
 rw [if_neg p] at h
 clear p
 by_cases p:m.pc=2
 ·rw [if_pos p] at h
  by_cases q:e.head=m.word
  ·rw [if_pos q] at h
   cases h
   exact zdD w m v g e sw ok hl p hs at_ hne tm.word okE.1 q (by omega) (by omega) rfl rfl rfl
  ·rw [if_neg q] at h
   cases h
   exact zgb w m v g e sw ok hl p hs at_ tm.word okE.1 q
 rw [if_neg p] at h
 clear p
 by_cases p:m.pc=3
 ·rw [if_pos p] at h
  cases h
  exact zdE w m v g e sw ok hl p hs at_ hne tm.word okE.1 rfl rfl rfl
 rw [if_neg p] at h
 clear p
 by_cases p:m.pc=4
 ·rw [if_pos p] at h
  obtain ⟨l0,x,hx,rfl⟩:=w6 h
  exact zdF w m v g e x sw ok hl p hs at_ tm.word okE.1 l0 hx
 rw [if_neg p] at h
 clear p
 by_cases p:m.pc=9
 ·rw [if_pos p] at h
  cases h
  exact zdG w m v g e sw ok hl p hs at_ tm.word okE.1
 rw [if_neg p] at h
 cases h
end
end Go.Wor
namespace Go.Wor
open Go.Ab Go.Proofs Go.Hy Go.Gat Go.Nam Go.Hos Go.Con Go.Sna
section
variable {N:Nat} {w:Wor} {m:Mac} {v:Ver} {g:Gr} {e:En} {r:Wor × Mac × Eve}
theorem zkM {l:List Str} {s:Str} (h:l.any (fun x=>x == s)=true):yP l (xL l s)=s:=by
 unfold xL
 cases hf:l.findIdx? (fun x=>x == s) with
 | none=>
  rw [List.findIdx?_eq_none_iff] at hf
  obtain ⟨x,hx,he⟩:=List.any_eq_true.1 h
  rw [hf x hx] at he
  cases he
 | some i=>
  obtain ⟨h1,h2,_⟩:=List.findIdx?_eq_some_iff_getElem.1 hf
  show yP l ((i:Nat):Int)=s
  unfold yP
  rw [if_pos ⟨by omega,by simpa using h1⟩]
  simp only [Int.toNat_natCast,List.getElem?_eq_getElem h1,Option.getD_some]
  simpa using h2
theorem zkL {l:List Clu} {s:Str} (h:kH l s=true):yd l (zeT l s)=s:=by
 unfold kH at h
 unfold zeT
 cases hf:l.findIdx? (fun x=>x.name == s) with
 | none=>
  rw [List.findIdx?_eq_none_iff] at hf
  obtain ⟨x,hx,he⟩:=List.any_eq_true.1 h
  rw [hf x hx] at he
  cases he
 | some i=>
  obtain ⟨h1,h2,_⟩:=List.findIdx?_eq_some_iff_getElem.1 hf
  show yd l ((i:Nat):Int)=s
  unfold yd
  rw [if_pos ⟨by omega,by simpa using h1⟩]
  simp only [Int.toNat_natCast,List.getElem?_eq_getElem h1,Option.map_some,Option.getD_some]
  simpa using h2
theorem zks {c:Cfg} (h:(jf c).1=0):wg (ji c).1=c:=by
 obtain ⟨_,_,_,h4⟩:=zcm h
 unfold ji
 rw [if_neg (by omega)]
 obtain ⟨ls,rs,cs⟩:=c
 unfold wg
 simp only [List.map_map,Cfg.mk.injEq,true_and,and_true]
 refine List.ext_getElem? fun i=>?_
 rw [List.getElem?_map]
 cases hi:rs[i]? with
 | none=>rfl
 | some r=>
  obtain ⟨a,_,_,b⟩:=zfB (c:=⟨ls,rs,cs⟩) hi (zgc h4 i (List.getElem?_eq_some_iff.1 hi).1)
  simp only [Option.map_some,Function.comp,Option.some.injEq]
  unfold zeZ zbp
  dsimp only
  rw [zkM a,zkL b]
theorem zdj {c:Cfg} (h:(jf c).1=0):yR (ji c).1=true:=by
 unfold yR
 rw [zks h,h]
 rfl
theorem zfc (c:Cfg):(ji c).2.1=(jf c).1:=by
 unfold ji
 split
 ·rfl
 ·rename_i h
  simpa using (Decidable.of_not_not h).symm
theorem zcR (c:Cfg):wM c=(jf c).1:=by
 unfold wM
 rw [zfc]
 split
 ·rfl
 ·rename_i h
  have h:(jf c).1=0:=Decidable.of_not_not h
  unfold q7
  rw [if_pos (zdj h),h]
theorem zly (su:qI w m v g e) (hs:z5 w m=true) (t:TyW N w) (tm:TyM m) (hN:N<=100000000) (h:zfJ w m=some r):zaq 64 w m r:=by
 have gw:=qh.1 su.world
 have sw:=zes gw t hN
 have ok:=zcE gw t hN
 have hl:=tm.listen
 unfold zfJ at h
 by_cases p:m.pc=0
 ·rw [if_pos p] at h
  by_cases q:wM m.op.config=0
  ·rw [if_pos q] at h
   cases h
   exact zhY w m sw ok hl p hs tm.cfg q
  ·rw [if_neg q] at h
   cases h
   exact ze2 w m _ sw ok hl p hs tm.cfg (by rw [zfc,zcR]) q
 rw [if_neg p] at h
 clear p
 by_cases p:m.pc=1
 ·rw [if_pos p] at h
  cases h
  exact zhZ w m sw ok hl p hs
 rw [if_neg p] at h
 clear p
 by_cases p:m.pc=2
 ·rw [if_pos p] at h
  cases q:kN w m
  ·rw [q] at h
   cases h
   cases hx:w.zm with
   | nil=>have:=zgN w m sw ok hl p hs q hx;rwa [hx] at this
   | cons x l=>have:=zh0 w m x l sw ok hl p hs q hx;rwa [hx] at this
  ·rw [q] at h
   cases h
 rw [if_neg p] at h
 cases h
theorem ziB (su:qI w m v g e) (hs:z5 w m=true) (t:TyW N w) (tm:TyM m) (hN:N<=100000000) (h:zbM w m=some r):zaq 65 w m r:=by
 have gw:=qh.1 su.world
 have sw:=zes gw t hN
 have ok:=zcE gw t hN
 have hl:=tm.listen
 unfold zbM at h
 by_cases p:m.pc=0
 ·rw [if_pos p] at h
  by_cases q:qd w.ze m.op.listen < 0
  ·rw [if_pos q] at h
   cases h
   exact zeL w m sw ok hl p hs q
  ·rw [if_neg q] at h
   obtain ⟨x,hx,rfl⟩:=Option.map_eq_some_iff.1 h
   exact zdv w m x sw ok hl p hs (by omega) hx
 rw [if_neg p] at h
 cases h
theorem zjA (su:qI w m v g e) (hs:z5 w m=true) (t:TyW N w) (tm:TyM m) (hN:N<=100000000) (hk:m.op.kind=6) (h:zca w m=some r):zaq 67 w m r:=by
 have gw:=qh.1 su.world
 have sw:=zes gw t hN
 have ok:=zcE gw t hN
 unfold zca at h
 split at h
 rotate_left
 ·cases h
 rename_i p
 obtain ⟨rw_,h1,h2⟩:=Option.bind_eq_some_iff.1 h
 obtain ⟨n,h3,rfl⟩:=Option.map_eq_some_iff.1 h2
 exact xp w m rw_ n sw ok tm.listen p.1 hs su.done ⟨su.i,h1,su.k,p.2,h3⟩ (tm.ans hk su.done)
theorem wB (gw:jF w) {i:Nat} {x:Ret} (hx:w.zm[i]?= some x):0<=x.at_∧x.at_<=w.zn∧0<=x.version∧x.version < w.zd.length∧x.version≠w.current:=by
 have h1:=gw.bad x (List.mem_of_getElem? hx)
 have h2:=of_decide_eq_true (show decide (∀ i,(h:i < w.zm.length)->Go.Lim.okV w.zm i w.zm[i]=true)=true from gw.zm) i (List.getElem?_eq_some_iff.1 hx).1
 rw [(List.getElem?_eq_some_iff.1 hx).2] at h2
 unfold xl at h1
 unfold Go.Lim.okV at h2
 simp at h1 h2
 omega
theorem zjZ (h0:0<=m.i):zb Tryz.prog 100 [⟨1,48,8,[zQ w],0⟩,⟨1,37,44,[zE m],0⟩] [.agg [.ref 0 [] 8 0 0,.ref 1 [] 44 0 0]] (Ce (ldS w m).2.2) [⟨1,48,8,[zQ (ldS w m).1],0⟩,⟨1,37,44,[zE (ldS w m).2.1],0⟩]:=by
 unfold ldS
 cases hx:w.ze[m.i.toNat]? with
 | none=>exact zaz w m (by have:=List.getElem?_eq_none_iff.1 hx;omega)
 | some l=>exact zbY w m l h0 hx
theorem zf4 (su:qI w m v g e) (hs:z5 w m=true) (t:TyW N w) (tm:TyM m) (hN:N<=100000000) (h:vS w m=some r):zaq 66 w m r:=by
 have gw:=qh.1 su.world
 have sw:=zes gw t hN
 have ok:=zcE gw t hN
 have hl:=tm.listen
 have av:=su.at_.toAtV
 unfold vS at h
 by_cases p:m.pc=0
 ·rw [if_pos p] at h
  by_cases q:w.lock=0
  ·rw [if_pos q] at h
   cases h
   (exact q8 sw ok hl hs (jH w m (by omega)) 0 _ rfl (fun _ _ _ _ _ _ _ _ _ _=>by rw [p];rfl) rfl (zeX w m q))
  ·rw [if_neg q] at h
   cases h
   (exact q8 sw ok hl hs (jH w m (by omega)) 0 _ rfl (fun _ _ _ _ _ _ _ _ _ _=>by rw [p];rfl) rfl (zgo w m q))
 rw [if_neg p] at h
 clear p
 by_cases p:m.pc=1
 ·rw [if_pos p] at h
  cases h
  (exact q8 sw ok hl hs (jH w m (by omega)) 1 _ rfl (fun _ _ _ _ _ _ _ _ _ _=>by rw [p];rfl) rfl (Go.Wor.zcZ w m))
 rw [if_neg p] at h
 clear p
 by_cases p:m.pc=2
 ·rw [if_pos p] at h
  obtain ⟨x,hx,rfl⟩:=Option.map_eq_some_iff.1 h
  have hlt:=(List.getElem?_eq_some_iff.1 hx).1
  have si:=su.i
  exact q8 sw ok hl hs (zjc w m p (by omega)) 2 _ rfl (fun _ _ _ _ _ _ _ _ _ _=>by rw [p];rfl) rfl (zeV w m x su.i hx)
 rw [if_neg p] at h
 clear p
 by_cases p:m.pc=3
 ·rw [if_pos p] at h
  by_cases q:w.zn=m.zn∧w.zn < 1000000000000
  ·rw [if_pos q] at h
   cases h
   (exact q8 sw ok hl hs (jH w m (by omega)) 3 _ rfl (fun _ _ _ _ _ _ _ _ _ _=>by rw [p];rfl) rfl (zaX w m q.1 q.2))
  ·rw [if_neg q] at h
   cases h
   (exact q8 sw ok hl hs (jH w m (by omega)) 3 _ rfl (fun _ _ _ _ _ _ _ _ _ _=>by rw [p];rfl) rfl (zbI w m q))
 rw [if_neg p] at h
 clear p
 by_cases p:m.pc=4
 ·rw [if_pos p] at h
  cases hx:w.zm[m.i.toNat]? with
  | none=>
   rw [hx] at h
   cases h
   (exact q8 sw ok hl hs (jH w m (by omega)) 4 _ rfl (fun _ _ _ _ _ _ _ _ _ _=>by rw [p];rfl) rfl (zaA (by have:=List.getElem?_eq_none_iff.1 hx;have:=su.i;omega) (zjZ (m:=atM m 8 0) (Int.le_refl _))))
  | some x=>
   rw [hx] at h
   cases h
   have la:=wB gw hx
   have ge:=(qm.1 gw.ground).zn
   (exact q8 sw ok hl hs (jH w m (by omega)) 4 _ rfl (fun _ _ _ _ _ _ _ _ _ _=>by rw [p];rfl) rfl (zc0 w m x ⟨by omega,by omega⟩ su.i hx))
 rw [if_neg p] at h
 clear p
 by_cases p:m.pc=5
 ·rw [if_pos p] at h
  obtain ⟨v',hv',h⟩:=Option.bind_eq_some_iff.1 h
  obtain ⟨x,hx,rfl⟩:=Option.map_eq_some_iff.1 h
  have hlt:=(List.getElem?_eq_some_iff.1 hx).1
  have sk:=su.k
  exact q8 sw ok hl hs (zjd w m v' (zl8 gw hv') p ⟨su.version.1,hv'⟩ (by omega)) 5 _ rfl (fun _ _ _ _ _ _ _ _ _ _=>by rw [p];rfl) rfl (zbX w m v' x (zl8 gw hv') ⟨su.version.1,hv'⟩ su.k hx)
 rw [if_neg p] at h
 clear p
 by_cases p:m.pc=6
 ·rw [if_pos p] at h
  obtain ⟨v',hv',h⟩:=Option.bind_eq_some_iff.1 h
  obtain ⟨x,hx,h⟩:=Option.bind_eq_some_iff.1 h
  split at h
  rotate_left
  ·cases h
  rename_i q
  cases h
  exact zf7 sw ok hl hs (zje w m x p su.i hx q.1 q.2) 6 _ rfl (fun _ _ _ _ _ _ _ _ _ _=>by rw [p];rfl) rfl (by rintro h0;rw [h0] at hv';simp at hv') (by rintro h0;rw [h0] at hx;simp at hx) (by simp) (by simp) (kC w m v' x ⟨su.version.1,hv'⟩ su.i hx)
 rw [if_neg p] at h
 clear p
 by_cases p:m.pc=8
 ·rw [if_pos p] at h
  cases h
  (exact q8 sw ok hl hs (jH w m (by omega)) 7 _ rfl (fun _ _ _ _ _ _ _ _ _ _=>by rw [p];rfl) rfl (zjZ su.i))
 rw [if_neg p] at h
 clear p
 by_cases p:m.pc=9
 ·rw [if_pos p] at h
  obtain ⟨x,hx,rfl⟩:=Option.map_eq_some_iff.1 h
  have hlt:=(List.getElem?_eq_some_iff.1 hx).1
  have si:=su.i
  exact q8 sw ok hl hs (zjf w m p (by omega)) 8 _ rfl (fun _ _ _ _ _ _ _ _ _ _=>by rw [p];rfl) rfl (zb0 w m x su.i hx)
 rw [if_neg p] at h
 clear p
 by_cases p:m.pc=10
 ·rw [if_pos p] at h
  obtain ⟨x,hx,h⟩:=Option.bind_eq_some_iff.1 h
  split at h
  rotate_left
  ·cases h
  rename_i q
  cases h
  exact zf8 sw ok hl hs (zhv w m x p su.i hx q) 9 _ rfl (fun _ _ _ _ _ _ _ _ _ _=>by rw [p];rfl) rfl (by rintro h0;rw [h0] at hx;simp at hx) (by simp) (zjx w m x su.i hx)
 rw [if_neg p] at h
 cases h
end
end Go.Wor
namespace Go.Wor
open Go.Ab Go.Proofs Go.Gat Go.Nam Go.Hos Go.Con Go.Sna Go.Pla
open Go.Hy hiding encI
abbrev znb (w:Wor) (m:Mac) (r:Wor × Mac × Eve):Prop:=zb Tryz.prog 32 [] [Sw w,Sm m] (Sr r.1 r.2.1 r.2.2) []
theorem zea {N:Nat} {w:Wor} {m:Mac} {r:Wor × Mac × Eve} (hs:z5 w m=true) (t:TyW N w) (tm:TyM m) (hN:N<=100000000) (h:zhW w m=some r):znb w m r:=by
 obtain ⟨v,g,e,su⟩:=y9 hs
 unfold zhW at h
 rw [su.atv] at h
 dsimp only at h
 rw [su.atg] at h
 dsimp only at h
 rw [su.ate] at h
 dsimp only at h
 by_cases k:m.op.kind=1
 ·rw [if_pos k] at h
  exact zW k (zhj su hs t tm hN h)
 rw [if_neg k] at h
 clear k
 by_cases k:m.op.kind=2
 ·rw [if_pos k] at h
  exact xq k (zhd su hs t tm hN h)
 rw [if_neg k] at h
 clear k
 by_cases k:m.op.kind=3
 ·rw [if_pos k] at h
  exact zhT k (zly su hs t tm hN h)
 rw [if_neg k] at h
 clear k
 by_cases k:m.op.kind=4
 ·rw [if_pos k] at h
  exact zhU k (ziB su hs t tm hN h)
 rw [if_neg k] at h
 clear k
 by_cases k:m.op.kind=5
 ·rw [if_pos k] at h
  exact zhV k (zf4 su hs t tm hN h)
 rw [if_neg k] at h
 clear k
 by_cases k:m.op.kind=6
 ·rw [if_pos k] at h
  exact xr k (zjA su hs t tm hN k h)
 rw [if_neg k] at h
 cases h
end Go.Wor
