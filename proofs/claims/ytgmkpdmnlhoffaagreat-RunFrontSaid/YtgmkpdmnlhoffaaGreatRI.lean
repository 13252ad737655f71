import Derived.Test.YtgmkpdmnlhoffaaGreatRY
import Derived.Test.YtgmkpdmnlhoffaaGreatRG
import Derived.Test.YtgmkpdmnlhoffaaGreatRH
import Derived.Test.YtgmkpdmnlhoffaaGreatRZ
set_option linter.all false
set_option maxRecDepth 100000
set_option maxHeartbeats 4000000
namespace Go.Wor
open Go.Ab Go.Proofs Go.Hy Go.Gat Go.Nam Go.Hos Go.Con Go.Sna
theorem zim (w:Wor) (m:Mac) (v:Ver) (g:Gr) (e:En) (sw:qR w) (ok:OkW w) (hl:i64 m.listen) (hpc:m.pc=2) (hs:zW w m=true) (hat:AtE w m v g e) (hw:u64 m.word) (hh:u64 e.head) (hne:e.head≠m.word):
  zb Tryz.prog 184 [] [Cw w,Cm m] (.tup [Cw w,Cm { m with pc:=0 },Ce (evV m v 5 8 (e.head % 4294967296 - 1))]) []:=by
 have a0:=hat.v0;have a1:=hat.toAtV.row;have b0:=hat.g0;have b1:(v.zm.map zE)[m.zf.toNat]?= some (zE g):=by rw [List.getElem?_map,hat.atg];rfl
 have c0:=hat.e0;have c1:(g.ends.map zu)[m.end_.toNat]?= some (zu e):=by rw [List.getElem?_map,hat.ate];rfl
 refine zb.zp (fn:=Tryz.f184) Tryz.func184 rfl (uH ?_);(repeat (first | refine uA ?_ | refine uB ?_))
 refine ⟨_,_,(zM w m ok hl).frame rfl _,dd ?_⟩;refine ⟨fun _=>dd ?_,fun h=>absurd ((hs).symm.trans h:true=false) (by decide)⟩;(repeat (first | refine uA ?_ | refine uB ?_))
 (repeat refine uC ?_)
 refine ⟨_,_,(qs w sw).frame rfl _,dd ?_⟩;refine uE ?_;(refine ⟨a0,_,a1,dd ?_⟩)
 (refine ⟨b0,_,b1,dd ?_⟩)
 (refine ⟨c0,_,c1,dd ?_⟩)
 refine ⟨_,_,(Slp.qA m.word hw).frame rfl _,dd ?_⟩;refine .inr ⟨⟨[0,1,5,6,7],[0,1],true⟩,by kernel_rfl,fun _=>rfl,_,uH ?_,fun t2 H2 h=>h⟩;refine ⟨_,zb.blind [] (Slp.qA e.head hh) rfl rfl rfl rfl rfl rfl rfl (fun _=>rfl) (fun _=>rfl),uH ?_⟩;refine ⟨_,zb.blind [] (yz w m v hat.toAtV 1 8 (e.head % 4294967296 - 1)) rfl rfl rfl rfl rfl rfl rfl (fun _=>rfl) (fun _=>rfl),uH ?_⟩;(refine ⟨uH ?_,trivial⟩);(repeat (refine ⟨rfl,uH ?_⟩))
 (refine ⟨uH ?_,trivial⟩);(repeat (refine ⟨rfl,uH ?_⟩))
 (refine ⟨_,_,.refl _,uH ?_⟩)
 (repeat (first | refine uA ?_ | refine uB ?_))
 refine uE ?_;refine ⟨fun _=>dd ?_,fun h=>absurd h (by simpa using hne)⟩;refine kR.go rfl (uH ?_);refine .inl ⟨⟨false,[0,1,2],[5,1,6],[]⟩,by kernel_rfl,uH ?_⟩;repeat (refine ⟨rfl,uH ?_⟩)
 exact uI
theorem zdU (w:Wor) (m:Mac) (v:Ver) (g:Gr) (e:En) (hv:AtE w m v g e) (he:u64 e.head) (hi:¬(0<=e.head % 4294967296 - 1∧e.head % 4294967296 - 1 < e.next.length)):
  zb Tryz.prog 264 [⟨1,28,8,[zJ w],0⟩,⟨1,97,44,[zD (m)],0⟩] [.agg [.ref 0 [] 8 0 0,.ref 1 [] 44 0 0]] (Ce (evV m v 1 8 (e.head % 4294967296 - 1))) [⟨1,28,8,[zJ w],0⟩,⟨1,97,44,[zD (wu { m with word:=e.head } 4)],0⟩]:=by
 have ml:(e.next.map Go.Hy.encI).length=e.next.length:=List.length_map ..;refine z6 (fn:=Tryz.f264) Tryz.func264 rfl (Nat.le_refl _) (uH ?_);refine zfa [0,1] (vY w m v g e hv) rfl rfl rfl rfl rfl rfl (dd ?_);refine ⟨_,_,(Slp.qA e.head he).frame rfl _,dd ?_⟩;refine ⟨fun q1=>?_,fun q1=>?_⟩
 ·refine dd ?_;(repeat refine uC ?_)
  refine zq [1] (yu { m with word:=e.head } 4) rfl rfl rfl rfl rfl rfl (dd ?_);refine zq [0,1] (kh w (wu { m with word:=e.head } 4) v ⟨hv.v0,hv.at_⟩ 1 8 (e.head % 4294967296 - 1)) rfl rfl rfl rfl rfl rfl (dd ?_);exact ⟨.inl rfl,_,_,.refl _,rfl,cE 2⟩
 ·refine dd ?_;refine zfa [0,1] (vY w { m with word:=e.head } v g e ⟨⟨⟨hv.v0,hv.at_⟩,hv.g0,hv.atg⟩,hv.e0,hv.ate⟩) rfl rfl rfl rfl rfl rfl (dd ?_);rw [ml];refine ⟨fun q2=>?_,fun q2=>?_⟩
  ·refine dd ?_;(repeat refine uC ?_)
   refine zq [1] (yu { m with word:=e.head } 4) rfl rfl rfl rfl rfl rfl (dd ?_);refine zq [0,1] (kh w (wu { m with word:=e.head } 4) v ⟨hv.v0,hv.at_⟩ 1 8 (e.head % 4294967296 - 1)) rfl rfl rfl rfl rfl rfl (dd ?_);exact ⟨.inl rfl,_,_,.refl _,rfl,cE 2⟩
  ·exact absurd ⟨by simp at q1;omega,by simp at q2;omega⟩ hi
abbrev Res:=Option (Wor × Mac × Eve)
def zqq (w:Wor) (m:Mac):Res:=
 if m.pc=0 then some (w,{ m with zn:=w.zn,pc:=1 },zgQ m (ldE w.zn))
 else if m.pc=1 then some (zgg w m.zj.toNat (IntKind.i64.wrap (m.zn+1)),{ m with pc:=2 },zgQ m ⟨0,0,2,2,0,false,IntKind.i64.wrap (m.zn+1),false,false,false,wL⟩)
 else if m.pc=2 then some (w,{ m with zn:=w.zn,pc:=if w.zn=m.zn then 3 else 1 },zgQ m (ldE w.zn))
 else none
abbrev zsz (x:Lis):Lis:={ x with zg:=IntKind.i64.wrap (x.zg+1) }
abbrev zC (x:Int):Int:=x % 4294967296 - 1
abbrev zbC (m:Mac):Ans:=⟨1,m.version,m.zf,m.end_,m.slot,m.listen,0,⟨0,0,0,0,0,0⟩⟩
def zdI (w:Wor) (m:Mac) (k pc:Int):Res:=match w.counts[m.zj.toNat]? with
 | none=>none
 | some r0=>match r0[k.toNat]? with
  | none=>none
  | some x=>some ({ w with counts:=w.counts.set m.zj.toNat (r0.set k.toNat (IntKind.u64.wrap (x+1))) },{ m with pc:=pc },evO m 3 10 k)
def zfX (w:Wor) (m:Mac) (f:Lis->Wor × Mac × Eve):Res:=if m.listen < 0 then none else (w.zd[m.listen.toNat]?).map f
def qi (w:Wor) (m:Mac) (v:Ver) (g:Gr) (e:En):Res:=
 if m.pc < 3 then zqq w m
 else if m.pc=3 then some (w,if z7 w.zd m.op.listen < 0 then wu (lvM w m) 2 else lvM w m,ptE (evO m 1 3 w.current))
 else if m.pc=4 then zfX w m fun x=>({ w with zd:=w.zd.set m.listen.toNat (zsz x) },{ m with pc:=5 },evO m 3 5 (IntKind.i64.wrap (x.zg+1)))
 else if m.pc=5 then zfX w m fun l=>(w,if l.drain then wu m 5 else yA m v,if l.drain then { evO m 1 4 1 with jq:=true } else evO m 1 4 0)
 else if m.pc=6 then (v.snap.zl[m.zf.toNat]?).map fun c=>(wb w m v g e (IntKind.u64.wrap (g.zr+1)) e.head e.zg,zi6 m c g.zr,evV m v 3 6 (IntKind.i64.wrap g.zr))
 else if m.pc=7 then some (w,{ m with i:=e.zg,pc:=8 },evV m v 1 7 e.zg)
 else if m.pc=8 then (g.ends[m.other.toNat]?).map fun e2=>(w,{ m with end_:=if e2.zg < m.i then m.other else m.end_,pc:=9 },evV m v 1 7 e2.zg)
 else if m.pc=9 then some (w,if 0<=zC e.head∧zC e.head < e.next.length then { m with word:=e.head,slot:=zC e.head,pc:=10 } else wu { m with word:=e.head } 4,evV m v 1 8 (zC e.head))
 else if m.pc=10 then (e.next[m.slot.toNat]?).map fun x=>(w,{ m with link:=x,pc:=11 },evV m v 1 9 x)
 else if m.pc=11 then (if e.head=m.word then some (wb w m v g e g.zr (Slp.qP m.word m.link) e.zg,{ m with pc:=12 },evV m v 4 8 m.slot) else some (w,{ m with pc:=9 },evV m v 5 8 (zC e.head)))
 else if m.pc=12 then some (wb w m v g e g.zr e.head (IntKind.i64.wrap (e.zg+1)),{ m with answer:=zbC m,pc:=20 },evV m v 3 7 (IntKind.i64.wrap (e.zg+1)))
 else if m.pc=20 then zdI w m (zc4 m.answer.kind) 21
 else if m.pc=21 then zdI w m 0 (if m.answer.kind=1∨m.listen < 0 then 23 else 22)
 else if m.pc=22 then zfX w m fun x=>({ w with zd:=w.zd.set m.listen.toNat (zev x) },{ m with pc:=23 },evO m 3 5 (IntKind.i64.wrap (x.zg - 1)))
 else if m.pc=23 then some (zgg w m.zj.toNat 0,{ m with done:=true },{ zqg m with done:=true,answer:=m.answer })
 else none
def vm (w:Wor) (m:Mac) (v:Ver) (g:Gr) (e:En):Res:=
 if m.pc=0 then some (w,{ m with word:=e.head,pc:=1 },evV m v 1 8 (zC e.head))
 else if m.pc=1 then some (wb w m v g (yQ m e) g.zr e.head e.zg,{ m with pc:=2 },evV m v 2 9 (zC m.word))
 else if m.pc=2 then (if e.head=m.word then some (wb w m v g e g.zr (Slp.qP m.word m.slot) e.zg,{ m with pc:=3 },{ evV m v 4 8 m.slot with jq:=true }) else some (w,{ m with pc:=0 },evV m v 5 8 (zC e.head)))
 else if m.pc=3 then some (wb w m v g e g.zr e.head (IntKind.i64.wrap (e.zg - 1)),{ m with pc:=4 },evV m v 3 7 (IntKind.i64.wrap (e.zg - 1)))
 else if m.pc=4 then zfX w m fun x=>({ w with zd:=w.zd.set m.listen.toNat (zev x) },{ m with answer:=zpI m,done:=true },zst m x)
 else if m.pc=9 then some (w,{ m with answer:=zaH 7,done:=true },zsA m)
 else none
def vP (w:Wor) (m:Mac):Res:=
 if m.pc=0 then (if wQ m.op.config=0 then some ({ w with current:=w.ze.length,ze:=w.ze++[yJ m.op.config] },swM m w.current w.ze.length,{ evO m 6 3 w.ze.length with jq:=true })
  else some (w,{ m with done:=true,answer:=swN (wQ m.op.config) },{ evO m 1 3 w.current with jq:=true,done:=true,answer:=swN (wQ m.op.config) }))
 else if m.pc=1 then some (w,{ m with zn:=w.zn,pc:=2 },evO m 1 1 w.zn)
 else if m.pc=2 then (if kF w m then none else some ({ w with zt:=w.zt++[⟨m.version,m.zn,false⟩] },{ m with done:=true,answer:=zkv m },{ evO m 2 11 m.version with done:=true,answer:=zkv m }))
 else none
abbrev ztO (p:Int):Ans:=⟨10,0,0,0,0,p,0,⟨0,0,0,0,0,0⟩⟩
def zb9 (w:Wor) (m:Mac):Res:=
 if m.pc=0 then (if z7 w.zd m.op.listen < 0 then some (w,{ m with done:=true,answer:=zaH 7 },{ drE m with done:=true,answer:=zaH 7 })
  else (w.zd[(z7 w.zd m.op.listen).toNat]?).map fun x=>({ w with zd:=w.zd.set (z7 w.zd m.op.listen).toNat (Go.Gat.we x) },{ m with listen:=z7 w.zd m.op.listen,done:=true,answer:=ztO (z7 w.zd m.op.listen) },{ zsR m with done:=true,answer:=ztO (z7 w.zd m.op.listen) }))
 else none
def ldS (w:Wor) (m:Mac):Wor × Mac × Eve:=match w.zd[m.i.toNat]? with
 | none=>({ w with lock:=0 },{ m with done:=true,answer:=zpe 11 m.answer.n },{ evO m 2 14 0 with done:=true,answer:=zpe 11 m.answer.n })
 | some l=>(w,ldM m l,ztS m l)
def ks (w:Wor) (m:Mac):Res:=
 if m.pc=0 then some (if w.lock=0 then ({ w with lock:=1 },{ m with pc:=1 },evO m 4 14 1) else (w,{ m with done:=true,answer:=zaH 12 },{ evO m 5 14 1 with done:=true,answer:=zaH 12 }))
 else if m.pc=1 then some (w,{ m with zn:=w.zn,pc:=2,i:=0 },evO m 1 1 w.zn)
 else if m.pc=2 then (w.pins[m.i.toNat]?).map fun p=>(w,lpM w m p,evO m 1 2 p)
 else if m.pc=3 then some (if w.zn=m.zn∧w.zn < 1000000000000 then ({ w with zn:=IntKind.i64.wrap (w.zn+1) },{ atM m 4 0 with zn:=IntKind.i64.wrap (w.zn+1) },evO m 4 1 (IntKind.i64.wrap (w.zn+1))) else (w,atM m 4 0,evO m 5 1 w.zn))
 else if m.pc=4 then some (match w.zt[m.i.toNat]? with | none=>ldS w (atM m 8 0) | some r=>(w,llM m r,evO m 1 11 r.version))
 else if m.pc=5 then (w.ze[m.version.toNat]?).bind fun v=>((xU v)[m.k.toNat]?).map fun e=>(w,laM m v e.zg,laE m v e.zg)
 else if m.pc=6 then (w.ze[m.version.toNat]?).bind fun v=>(w.zt[m.i.toNat]?).bind fun r=>if r.version=m.version∧r.gone=false then
  some ({ w with ze:=w.ze.set m.version.toNat (zaa v),zt:=w.zt.set m.i.toNat (kD r) },frM m,evO m 2 12 m.version) else none
 else if m.pc=8 then some (ldS w m)
 else if m.pc=9 then (w.zd[m.i.toNat]?).map fun l=>(w,if l.zg=0 then { m with pc:=10 } else atM m 8 (IntKind.i64.wrap (m.i+1)),evO m 1 5 l.zg)
 else if m.pc=10 then (w.zd[m.i.toNat]?).bind fun l=>if l.drain then some ({ w with zd:=w.zd.set m.i.toNat (zkg l) },atM m 8 (IntKind.i64.wrap (m.i+1)),evO m 2 13 1) else none
 else none
def zct (w:Wor) (m:Mac):Res:=
 if m.pc=0∧m.k < 6 then (w.counts[m.i.toNat]?).bind fun r=>(r[m.k.toNat]?).map fun n=>(w,jQ w m n,zhQ w m n) else none
def zbf (w:Wor) (m:Mac):Res:=match w.ze[m.version.toNat]? with
 | none=>none
 | some v=>match v.zm[m.zf.toNat]? with
  | none=>none
  | some g=>match g.ends[m.end_.toNat]? with
   | none=>none
   | some e=>if m.op.kind=1 then qi w m v g e else if m.op.kind=2 then vm w m v g e else if m.op.kind=3 then vP w m else if m.op.kind=4 then zb9 w m
    else if m.op.kind=5 then ks w m else if m.op.kind=6 then zct w m else none
structure TyW (N:Nat) (w:Wor):Prop where
 zbm:w.ze.length<=N
 lis:w.zd.length<=N
 lim:w.zt.length<=N
 okv:∀ v ∈ w.ze,wc v.snap∧∀ g ∈ v.zm,u64 g.zr∧∀ e ∈ g.ends,e.ok
 okl:∀ l ∈ w.zd,l.ok
structure TyM (m:Mac):Prop where
 listen:i64 m.listen
 word:u64 m.word
 link: -1<=m.link∧m.link<=2147483646
 host:m.op.host.length < 1000000000000
 path:m.op.path.length < 1000000000000
 d0:i64 m.op.d0
 d1:i64 m.op.d1
 cfg:m.op.kind=3->xf m.op.config
 ans:m.op.kind=6->m.done=false->m.answer=wL
theorem zef {c:Cfg} (h:(qY c).1=0):(y4 c).1=0∧(jO (ziA c.zd) c.zd.length).1=0∧(jO (zdH c.zl) c.zl.length).1=0∧(jO (zgn c) c.zP.length).1=0:=by
 unfold qY at h;split at h
 ·contradiction
 rename_i h1;split at h
 ·contradiction
 rename_i h2;split at h
 ·contradiction
 rename_i h3;split at h
 ·contradiction
 rename_i h4;exact ⟨by simpa using h1,Decidable.of_not_not h2,Decidable.of_not_not h3,Decidable.of_not_not h4⟩
theorem zhL {c:Cfg} {i:Nat} {r:Rou} (hr:c.zP[i]?= some r) (h:zgn c i=0):c.zd.any (fun x=>x == r.listen)=true∧ze5 r.host=true∧zat r.path=true∧zaj c.zl r.zf=true:=by
 unfold zgn at h;rw [hr] at h;dsimp only at h;split at h
 ·cases h
 rename_i h1;split at h
 ·cases h
 rename_i h2;split at h
 ·cases h
 rename_i h3;split at h
 ·cases h
 rename_i h4;exact ⟨by simpa using h1,by simpa using h2,by simpa using h3,by simpa using h4⟩
theorem znG {l:List Clu} {i:Nat} {c:Clu} (hc:l[i]?= some c) (h:zdH l i=0):xm c.name=true:=by
 unfold zdH at h;rw [hc] at h;dsimp only at h;split at h
 ·cases h
 rename_i h1;simpa using h1
theorem zok:xm []=false:=by decide
theorem zoV {s:Sna} (h:yT s=true) {r:Rul} (hr:r ∈ s.rules):0<=r.zf∧r.zf < s.zl.length:=by
 have h:(qY (zaN s)).1=0:=by unfold yT at h;simpa using h
 obtain ⟨_,_,h3,h4⟩:=zef h;obtain ⟨i,hi⟩:=List.mem_iff_getElem?.1 hr;have hi':(zaN s).zP[i]?= some (zg2 s r):=by unfold zaN;simp only [List.getElem?_map,hi,Option.map_some]
 have hz:=zin h4 i (List.getElem?_eq_some_iff.1 hi').1;obtain ⟨_,_,_,hn⟩:=zhL hi' hz;have hn:s.zl.any (fun c=>c.name == y3 s.zl r.zf)=true:=hn;by_cases hb:0<=r.zf∧r.zf < s.zl.length
 ·exact hb
 ·unfold y3 at hn;rw [if_neg hb] at hn;obtain ⟨c,hc,he⟩:=List.any_eq_true.1 hn;obtain ⟨j,hj⟩:=List.mem_iff_getElem?.1 hc;have:=znG hj (zin h3 j (List.getElem?_eq_some_iff.1 hj).1);rw [show c.name=[] from by simpa using he,zok] at this;cases this
theorem zjA {s:Sna} (h:yT s=true) (n hh p:Str):0<=(w9 s n hh p).1∧∃ c,s.zl[(w9 s n hh p).1.toNat]?= some c:=by
 have g:=(jk h).zl.1;have zero:∃ c,s.zl[(0:Int).toNat]?= some c:=⟨s.zl[0]'(by omega),List.getElem?_eq_getElem (by omega)⟩;unfold w9;split
 ·exact ⟨Int.le_refl _,zero⟩
 ·split
  ·exact ⟨Int.le_refl _,zero⟩
  ·split
   ·rename_i r hr;have:=zoV h (List.mem_of_getElem? hr);exact ⟨this.1,s.zl[r.zf.toNat]'(by omega),List.getElem?_eq_getElem (by omega)⟩
   ·exact ⟨Int.le_refl _,zero⟩
structure zso (x:Clu) (e:En):Prop where
 is:Slp.isV e=true
 len:(e.next.length:Int)=x.xv
structure zaq (v:Ver):Prop where
 snap:yT v.snap=true
 len:v.zm.length=v.snap.zl.length
 grp:∀ (i:Nat) g x,v.zm[i]?= some g->v.snap.zl[i]?= some x->g.ends.length=x.zR.length∧∀ e ∈ g.ends,zso x e
theorem zcQ {x:Clu} {e:En}:wW x e=false↔zso x e:=by
 unfold wW;constructor
 ·intro h;simp at h;exact ⟨h.1,h.2⟩
 ·rintro ⟨h1,h2⟩;simp [h1,h2]
theorem zkB {v:Ver}:zd8 v=true↔zaq v:=by
 unfold zd8;simp only [Bool.and_eq_true,decide_eq_true_eq,List.all_eq_true,List.mem_range];constructor
 ·rintro ⟨⟨h1,h2⟩,h3⟩;refine ⟨h1,h2,fun i g x hg hx=>?_⟩;have:=h3 i (List.getElem?_eq_some_iff.1 hg).1;unfold zeq at this;rw [hg,hx] at this;simp only [Bool.and_eq_true,decide_eq_true_eq,Bool.not_eq_true',List.any_eq_false] at this;exact ⟨this.1,fun e he=>zcQ.1 (by simpa using this.2 e he)⟩
 ·rintro ⟨h1,h2,h3⟩;refine ⟨⟨h1,h2⟩,fun i hi=>?_⟩;unfold zeq;split
  ·rename_i g x hg hx;obtain ⟨h4,h5⟩:=h3 i g x hg hx;simp only [Bool.and_eq_true,decide_eq_true_eq,Bool.not_eq_true',List.any_eq_false];exact ⟨h4,fun e he=>by simp [zcQ.2 (h5 e he)]⟩
  ·rfl
structure jH (w:Wor):Prop where
 ground:jI w=true
 current:0<=w.current∧w.current < w.ze.length
 zt:Go.Lim.isV w.zt=true
 bad:∀ r ∈ w.zt,yc w r=false
 ver:∀ (i:Nat) v,w.ze[i]?= some v->zaq v∧v.qj=yZ w.zt i
 lis:∀ (i:Nat) l,w.zd[i]?= some l->Go.Gat.isV l=true∧z7 w.zd l.name=i
theorem qe {w:Wor}:xw w=true↔jH w:=by
 unfold xw;simp only [Bool.and_eq_true,decide_eq_true_eq,List.all_eq_true,List.mem_range,Bool.not_eq_true',List.any_eq_false];constructor
 ·rintro ⟨⟨⟨⟨⟨h1,h2⟩,h3⟩,h4⟩,h5⟩,h6⟩;refine ⟨h1,h2,h3,fun r hr=>by simpa using h4 r hr,fun i v hv=>?_,fun i l hl=>?_⟩
  ·have:=h5 i (List.getElem?_eq_some_iff.1 hv).1;unfold zbl at this;rw [hv] at this;simp only [Bool.and_eq_true,beq_iff_eq] at this;exact ⟨zkB.1 this.1,this.2⟩
  ·have:=h6 i (List.getElem?_eq_some_iff.1 hl).1;unfold kY at this;rw [hl] at this;simpa using this
 ·rintro ⟨h1,h2,h3,h4,h5,h6⟩;refine ⟨⟨⟨⟨⟨h1,h2⟩,h3⟩,fun r hr=>by simp [h4 r hr]⟩,fun i hi=>?_⟩,fun i hi=>?_⟩
  ·unfold zbl;split
   ·rename_i v hv;obtain ⟨a,b⟩:=h5 i v hv;simp [zkB.2 a,b]
   ·rfl
  ·unfold kY;split
   ·rename_i l hl;obtain ⟨a,b⟩:=h6 i l hl;simp [a,b]
   ·rfl
theorem zaq.few {v:Ver} (h:zaq v):v.zm.length<=4∧∀ g ∈ v.zm,g.ends.length<=4∧1<=g.ends.length∧∀ e ∈ g.ends,Slp.isV e=true∧e.next.length<=4∧1<=e.next.length:=by
 have gn:=jk h.snap;refine ⟨by have:=gn.zl.2;have:=h.len;omega,fun g hg=>?_⟩;obtain ⟨i,hi⟩:=List.mem_iff_getElem?.1 hg;have hlt:=(List.getElem?_eq_some_iff.1 hi).1;obtain ⟨x,hx⟩:∃ x,v.snap.zl[i]?= some x:=⟨_,List.getElem?_eq_getElem (by have:=h.len;omega)⟩;obtain ⟨h1,h2⟩:=h.grp i g x hi hx;have gx:=gn.all x (List.mem_of_getElem? hx);refine ⟨by have:=gx.zR.2;omega,by have:=gx.zR.1;omega,fun e he=>?_⟩;have ge:=h2 e he;have gs:=gx.xv;exact ⟨ge.is,by have:=ge.len;omega,by have:=ge.len;omega⟩
structure Grd (w:Wor):Prop where
 pins:1<=w.pins.length∧w.pins.length<=8
 counts:w.counts.length=w.pins.length∧∀ r ∈ w.counts,r.length=6
 zn:0<=w.zn∧w.zn<=1000000000000
 lock:w.lock=0∨w.lock=1
 pin:∀ p ∈ w.pins,0<=p∧p<=w.zn+1
theorem qb {w:Wor}:jI w=true↔Grd w:=by
 unfold jI zap;simp only [Bool.and_eq_true,Bool.or_eq_true,decide_eq_true_eq,List.all_eq_true,Bool.not_eq_true',List.any_eq_false,beq_iff_eq];constructor
 ·rintro ⟨⟨⟨⟨⟨⟨⟨h1,h2⟩,h3⟩,⟨h4,h5⟩,h6⟩,h7⟩,h8⟩,h9⟩,h10⟩;exact ⟨⟨h1,h2⟩,⟨h3,h4⟩,⟨h7,h8⟩,h9,fun p hp=>by have:=h10 p hp;simp [wj] at this;omega⟩
 ·rintro ⟨⟨h1,h2⟩,⟨h3,h4⟩,⟨h7,h8⟩,h9,h10⟩;exact ⟨⟨⟨⟨⟨⟨⟨h1,h2⟩,h3⟩,⟨h4,by omega⟩,by omega⟩,h7⟩,h8⟩,h9⟩,fun p hp=>by have:=h10 p hp;simp [wj];omega⟩
theorem zgx {N:Nat} {w:Wor} (h:jH w) (t:TyW N w) (hN:N<=100000000):qR w:=by
 have g:=qb.1 h.ground;refine ⟨by have:=g.pins;omega,⟨by have:=t.zbm;omega,fun v hv=>?_⟩,by have:=t.lis;omega,⟨by have:=g.counts.1;have:=g.pins;omega,fun r hr=>by have:=g.counts.2 r hr;omega⟩,by have:=t.lim;omega⟩;obtain ⟨i,hi⟩:=List.mem_iff_getElem?.1 hv;have f:=(h.ver i v hi).1.few;exact ⟨by omega,fun g hg=>⟨by have:=(f.2 g hg).1;omega,fun e he=>by have:=((f.2 g hg).2.2 e he).2;omega⟩⟩
theorem zda {N:Nat} {w:Wor} (h:jH w) (t:TyW N w) (hN:N<=100000000):OkW w:=by
 have g:=qb.1 h.ground;refine ⟨by have:=g.pins;omega,⟨by have:=t.zbm;omega,fun v hv=>?_⟩,⟨by have:=t.lis;omega,t.okl⟩,⟨by have:=g.counts.1;have:=g.pins;omega,fun r hr=>by have:=g.counts.2 r hr;omega⟩,by have:=t.lim;omega⟩;obtain ⟨i,hi⟩:=List.mem_iff_getElem?.1 hv;have f:=(h.ver i v hi).1.few;have o:=t.okv v hv;exact ⟨o.1,by omega,fun g hg=>⟨by have:=(f.2 g hg).1;omega,(o.2 g hg).2⟩⟩
theorem zpH {w:Wor} (h:jH w) {i:Nat} {v:Ver} (hv:w.ze[i]?= some v):zo7 v:=by
 have f:=(h.ver i v hv).1.few;exact ⟨by omega,fun g hg=>by have:=(f.2 g hg).1;omega⟩
theorem zs5 {N:Nat} {w:Wor} {m:Mac} (h:jH w) (t:TyW N w) (tm:TyM m) {i:Nat} {v:Ver} (hv:w.ze[i]?= some v):OkR m v:=by
 have g:=(h.ver i v hv).1;have o:=(t.okv v (List.mem_of_getElem? hv)).1;refine ⟨⟨o.zd.1,o.rules.1,fun r hr=>o.rules.2 r hr⟩,tm.host,tm.path,tm.d0,tm.d1,fun _=>?_⟩;obtain ⟨h0,c,hc⟩:=zjA g.snap m.op.listen m.op.host m.op.path;exact ⟨h0,c,hc,by have:=((jk g.snap).all c (List.mem_of_getElem? hc)).zR.2;omega⟩
theorem zpy {w:Wor} (h:jH w) {t:Int} (h0:0<=t) (h1:t < w.pins.length):∃ r,w.counts[t.toNat]?= some r∧r.length=6:=by
 have g:=qb.1 h.ground;have hlt:t.toNat < w.counts.length:=by have:=g.counts.1;omega
 exact ⟨_,List.getElem?_eq_getElem hlt,g.counts.2 _ (List.getElem_mem hlt)⟩
theorem yg {α:Type} (l:List α) (i:Nat) {x:α} (h:l[i]?= some x):l.set i x=l:=by
 obtain ⟨h1,rfl⟩:=List.getElem?_eq_some_iff.1 h;exact List.set_getElem_self h1
theorem zmy {w:Wor} {m:Mac} {v:Ver} {g:Gr} {e:En} (hat:AtE w m v g e):wb w m v g e g.zr e.head e.zg=w:=by
 unfold wb jY yh qp;rw [yg g.ends _ hat.ate,yg v.zm _ hat.atg,yg w.ze _ hat.at_]
abbrev zb4 (f:FuncId) (w:Wor) (m:Mac) (r:Wor × Mac × Eve):Prop:=zb Tryz.prog f [] [Cw w,Cm m] (.tup [Cw r.1,Cm r.2.1,Ce r.2.2]) []
theorem zby {w:Wor} {m:Mac} {f:Lis->Wor × Mac × Eve} {r:Wor × Mac × Eve} (h:zfX w m f=some r):0<=m.listen∧∃ x,w.zd[m.listen.toNat]?= some x∧r=f x:=by
 unfold zfX at h;split at h
 ·cases h
 obtain ⟨x,hx,rfl⟩:=Option.map_eq_some_iff.1 h;exact ⟨by omega,x,hx,rfl⟩
theorem zeg {w:Wor} {m:Mac} {k pc:Int} {r:Wor × Mac × Eve} (h:zdI w m k pc=some r):∃ r0 x,w.counts[m.zj.toNat]?= some r0∧r0[k.toNat]?= some x∧
  r=({ w with counts:=w.counts.set m.zj.toNat (r0.set k.toNat (IntKind.u64.wrap (x+1))) },{ m with pc:=pc },evO m 3 10 k):=by
 unfold zdI at h;split at h
 ·cases h
 split at h
 ·cases h
 rename_i r0 h1 _ x h2;exact ⟨r0,x,h1,h2,(Option.some.inj h).symm⟩
theorem qC.at_ {w:Wor} {m:Mac} {v:Ver} {g:Gr} {e:En} (su:qC w m v g e):AtE w m v g e:=⟨⟨⟨su.version.1,su.atv⟩,su.zf.1,su.atg⟩,su.end_.1,su.ate⟩
theorem zlL (n:Int):0<=zc4 n∧zc4 n<=5:=by
 unfold zc4;split <;> omega
section
variable {N:Nat} {w:Wor} {m:Mac} {v:Ver} {g:Gr} {e:En} {r:Wor × Mac × Eve}
theorem zsX (su:qC w m v g e) (hs:zW w m=true) (t:TyW N w) (tm:TyM m) (hN:N<=100000000) (h3:m.pc < 3) (h:zqq w m=some r):zb4 183 w m r:=by
 have gw:=qe.1 su.world;have sw:=zgx gw t hN;have ok:=zda gw t hN;unfold zqq at h;split at h
 ·rename_i hpc;cases h
  exact zcg (by omega) h3 (zl9 w m sw ok tm.listen hpc hs)
 split at h
 ·rename_i hpc;cases h
  exact zcg (by omega) h3 (zma w m sw ok tm.listen hpc hs)
 split at h
 ·rename_i hpc;cases h
  exact zcg (by omega) h3 (zmb w m sw ok tm.listen hpc hs)
 ·cases h
theorem zjE (su:qC w m v g e) (hs:zW w m=true) (t:TyW N w) (tm:TyM m) (hN:N<=100000000) (h:qi w m v g e=some r):zb4 183 w m r:=by
 have gw:=qe.1 su.world;have sw:=zgx gw t hN;have ok:=zda gw t hN;have hl:=tm.listen;have at_:=su.at_;have gv:=(gw.ver _ v su.atv).1;have oe:=(t.okv v (List.mem_of_getElem? su.atv)).2 g (List.mem_of_getElem? su.atg);have okE:=oe.2 e (List.mem_of_getElem? su.ate)
 have hne:e.next≠[]:=by
  intro h0;have:=su.slot;rw [h0] at this;simp at this;omega
 unfold qi at h;by_cases h3:m.pc < 3
 ·rw [if_pos h3] at h;exact zsX su hs t tm hN h3 h
 rw [if_neg h3] at h;by_cases p:m.pc=3
 ·rw [if_pos p] at h;cases h
  exact zpO sw ok hl p hs (zc7 w m (by have:=t.lis;omega))
 rw [if_neg p] at h
 clear p
 by_cases p:m.pc=4
 ·rw [if_pos p] at h;obtain ⟨l0,x,hx,rfl⟩:=zby h;exact zpP sw ok hl p hs l0 (by simp) (zjs w m x l0 hx)
 rw [if_neg p] at h
 clear p
 by_cases p:m.pc=5
 ·rw [if_pos p] at h;obtain ⟨l0,x,hx,rfl⟩:=zby h;exact zpQ sw ok hl p hs l0 (ze2 w m v at_.toAtV (zs5 gw t tm su.atv) l0 hx)
 rw [if_neg p] at h
 clear p
 by_cases p:m.pc=6
 ·rw [if_pos p] at h;obtain ⟨c,hc,rfl⟩:=Option.map_eq_some_iff.1 h;exact zpR sw ok hl p hs at_ hne (zi7 w m v g e c at_.ln hc oe.1 (by have:=((jk gv.snap).all c (List.mem_of_getElem? hc)).zR.2;omega))
 rw [if_neg p] at h
 clear p
 by_cases p:m.pc=7
 ·rw [if_pos p] at h;cases h
  exact zpS sw ok hl p hs (zcW w m v g e at_)
 rw [if_neg p] at h
 clear p
 by_cases p:m.pc=8
 ·rw [if_pos p] at h;obtain ⟨e2,he2,rfl⟩:=Option.map_eq_some_iff.1 h;exact zpT sw ok hl p hs (zdc w m v g e2 at_.toAtG su.other.1 he2)
 rw [if_neg p] at h
 clear p
 by_cases p:m.pc=9
 ·rw [if_pos p] at h;by_cases q:0<=zC e.head∧zC e.head < e.next.length
  ·rw [if_pos q] at h;cases h
   exact zjD sw ok hl p hs (zfY w m v g e at_ okE.1 q)
  ·rw [if_neg q] at h;cases h
   exact zjD sw ok hl p hs (zdU w m v g e at_ okE.1 q)
 rw [if_neg p] at h
 clear p
 by_cases p:m.pc=10
 ·rw [if_pos p] at h;obtain ⟨x,hx,rfl⟩:=Option.map_eq_some_iff.1 h;exact znT sw ok hl p hs (zfZ w m v g e at_ su.slot.1 hx)
 rw [if_neg p] at h
 clear p
 by_cases p:m.pc=11
 ·rw [if_pos p] at h;by_cases q:e.head=m.word
  ·rw [if_pos q] at h;cases h
   exact zhv sw ok hl p hs at_ hne (zdF w m v g e at_.ln tm.word tm.link.1 tm.link.2 q)
  ·rw [if_neg q] at h;cases h
   have:=zhv sw ok hl p hs at_ hne (zeV w m v g e at_.ln tm.word tm.link.1 tm.link.2 okE.1 q)
   rwa [zmy at_] at this
 rw [if_neg p] at h
 clear p
 by_cases p:m.pc=12
 ·rw [if_pos p] at h;cases h
  exact znU sw ok hl p hs at_ hne (zh0 w m v g e at_.ln)
 rw [if_neg p] at h
 clear p
 by_cases p:m.pc=20
 ·rw [if_pos p] at h;obtain ⟨r0,x,hr,hx,rfl⟩:=zeg h;exact znV sw ok hl p hs su.zj.1 hr (by rintro rfl;simp at hx) (by simp) (zeX w m r0 x _ rfl su.zj.1 hr hx)
 rw [if_neg p] at h
 clear p
 by_cases p:m.pc=21
 ·rw [if_pos p] at h;obtain ⟨r0,x,hr,hx,rfl⟩:=zeg h;exact znW sw ok hl p hs su.zj.1 hr (by rintro rfl;simp at hx) (by simp) (zfB w m r0 x su.zj.1 hr hx)
 rw [if_neg p] at h
 clear p
 by_cases p:m.pc=22
 ·rw [if_pos p] at h;obtain ⟨l0,x,hx,rfl⟩:=zby h;exact znX sw ok hl p hs l0 (by simp) (zjL w m x l0 hx)
 rw [if_neg p] at h
 clear p
 by_cases p:m.pc=23
 ·rw [if_pos p] at h;cases h
  exact znY sw ok hl p hs (zkA w m sw ok hl hs)
 rw [if_neg p] at h;cases h
theorem zjv (su:qC w m v g e) (hs:zW w m=true) (t:TyW N w) (tm:TyM m) (hN:N<=100000000) (h:vm w m v g e=some r):zb4 184 w m r:=by
 have gw:=qe.1 su.world;have sw:=zgx gw t hN;have ok:=zda gw t hN;have hl:=tm.listen;have at_:=su.at_;have gv:=(gw.ver _ v su.atv).1;have oe:=(t.okv v (List.mem_of_getElem? su.atv)).2 g (List.mem_of_getElem? su.atg);have okE:=oe.2 e (List.mem_of_getElem? su.ate);have ln:=((gv.few.2 g (List.mem_of_getElem? su.atg)).2.2 e (List.mem_of_getElem? su.ate)).2
 have hne:e.next≠[]:=by
  intro h0;rw [h0] at ln;simp at ln
 have sl:=su.slot;unfold vm at h;by_cases p:m.pc=0
 ·rw [if_pos p] at h;cases h
  exact zlf w m v g e sw ok hl p hs at_ tm.word okE.1
 rw [if_neg p] at h
 clear p
 by_cases p:m.pc=1
 ·rw [if_pos p] at h;cases h
  exact zlg w m v g e sw ok hl p hs at_ hne tm.word okE.1 sl.1 (by omega) rfl rfl rfl
 rw [if_neg p] at h
 clear p
 by_cases p:m.pc=2
 ·rw [if_pos p] at h;by_cases q:e.head=m.word
  ·rw [if_pos q] at h;cases h
   exact zlh w m v g e sw ok hl p hs at_ hne tm.word okE.1 q (by omega) (by omega) rfl rfl rfl
  ·rw [if_neg q] at h;cases h
   exact zim w m v g e sw ok hl p hs at_ tm.word okE.1 q
 rw [if_neg p] at h
 clear p
 by_cases p:m.pc=3
 ·rw [if_pos p] at h;cases h
  exact zli w m v g e sw ok hl p hs at_ hne tm.word okE.1 rfl rfl rfl
 rw [if_neg p] at h
 clear p
 by_cases p:m.pc=4
 ·rw [if_pos p] at h;obtain ⟨l0,x,hx,rfl⟩:=zby h;exact zlj w m v g e x sw ok hl p hs at_ tm.word okE.1 l0 hx
 rw [if_neg p] at h
 clear p
 by_cases p:m.pc=9
 ·rw [if_pos p] at h;cases h
  exact zlk w m v g e sw ok hl p hs at_ tm.word okE.1
 rw [if_neg p] at h;cases h
end
section
variable {N:Nat} {w:Wor} {m:Mac} {v:Ver} {g:Gr} {e:En} {r:Wor × Mac × Eve}
theorem zn6 {l:List Str} {s:Str} (h:l.any (fun x=>x == s)=true):vO l (yw l s)=s:=by
 unfold yw;cases hf:l.findIdx? (fun x=>x == s) with
 | none=>
  rw [List.findIdx?_eq_none_iff] at hf;obtain ⟨x,hx,he⟩:=List.any_eq_true.1 h;rw [hf x hx] at he;cases he
 | some i=>
  obtain ⟨h1,h2,_⟩:=List.findIdx?_eq_some_iff_getElem.1 hf;show vO l ((i:Nat):Int)=s;unfold vO;rw [if_pos ⟨by omega,by simpa using h1⟩];simp only [Int.toNat_natCast,List.getElem?_eq_getElem h1,Option.getD_some];simpa using h2
theorem zn5 {l:List Clu} {s:Str} (h:zaj l s=true):y3 l (zgW l s)=s:=by
 unfold zaj at h;unfold zgW;cases hf:l.findIdx? (fun x=>x.name == s) with
 | none=>
  rw [List.findIdx?_eq_none_iff] at hf;obtain ⟨x,hx,he⟩:=List.any_eq_true.1 h;rw [hf x hx] at he;cases he
 | some i=>
  obtain ⟨h1,h2,_⟩:=List.findIdx?_eq_some_iff_getElem.1 hf;show y3 l ((i:Nat):Int)=s;unfold y3;rw [if_pos ⟨by omega,by simpa using h1⟩];simp only [Int.toNat_natCast,List.getElem?_eq_getElem h1,Option.map_some,Option.getD_some];simpa using h2
theorem znC {c:Cfg} (h:(qY c).1=0):zaN (ji c).1=c:=by
 obtain ⟨_,_,_,h4⟩:=zef h;unfold ji;rw [if_neg (by omega)];obtain ⟨ls,rs,cs⟩:=c;unfold zaN;simp only [List.map_map,Cfg.mk.injEq,true_and,and_true];refine List.ext_getElem? fun i=>?_
 rw [List.getElem?_map];cases hi:rs[i]? with
 | none=>rfl
 | some r=>
  obtain ⟨a,_,_,b⟩:=zhL (c:=⟨ls,rs,cs⟩) hi (zin h4 i (List.getElem?_eq_some_iff.1 hi).1);simp only [Option.map_some,Function.comp,Option.some.injEq];unfold zg2 zdl;dsimp only;rw [zn6 a,zn5 b]
theorem zb7 {c:Cfg} (h:(qY c).1=0):yT (ji c).1=true:=by
 unfold yT;rw [znC h,h]
 rfl
theorem zdD (c:Cfg):(ji c).2.1=(qY c).1:=by
 unfold ji;split
 ·rfl
 ·rename_i h;simpa using (Decidable.of_not_not h).symm
theorem wa (c:Cfg):wQ c=(qY c).1:=by
 unfold wQ;rw [zdD];split
 ·rfl
 ·rename_i h;have h:(qY c).1=0:=Decidable.of_not_not h;unfold qI;rw [if_pos (zb7 h),h]
theorem zhT (su:qC w m v g e) (hs:zW w m=true) (t:TyW N w) (tm:TyM m) (hN:N<=100000000) (hk:m.op.kind=3) (h:vP w m=some r):zb4 185 w m r:=by
 have gw:=qe.1 su.world;have sw:=zgx gw t hN;have ok:=zda gw t hN;have hl:=tm.listen;unfold vP at h;by_cases p:m.pc=0
 ·rw [if_pos p] at h;by_cases q:wQ m.op.config=0
  ·rw [if_pos q] at h;cases h
   exact zks w m sw ok hl p hs (tm.cfg hk) q
  ·rw [if_neg q] at h;cases h
   exact zg6 w m _ sw ok hl p hs (tm.cfg hk) (by rw [zdD,wa]) q
 rw [if_neg p] at h
 clear p
 by_cases p:m.pc=1
 ·rw [if_pos p] at h;cases h
  exact zkt w m sw ok hl p hs
 rw [if_neg p] at h
 clear p
 by_cases p:m.pc=2
 ·rw [if_pos p] at h;cases q:kF w m
  ·rw [q] at h;cases h
   cases hx:w.zt with
   | nil=>have:=zi4 w m sw ok hl p hs q hx;rwa [hx] at this
   | cons x l=>have:=zku w m x l sw ok hl p hs q hx;rwa [hx] at this
  ·rw [q] at h;cases h
 rw [if_neg p] at h;cases h
theorem zk6 (su:qC w m v g e) (hs:zW w m=true) (t:TyW N w) (tm:TyM m) (hN:N<=100000000) (h:zb9 w m=some r):zb4 186 w m r:=by
 have gw:=qe.1 su.world;have sw:=zgx gw t hN;have ok:=zda gw t hN;have hl:=tm.listen;unfold zb9 at h;by_cases p:m.pc=0
 ·rw [if_pos p] at h;by_cases q:z7 w.zd m.op.listen < 0
  ·rw [if_pos q] at h;cases h
   exact zgP w m sw ok hl p hs q
  ·rw [if_neg q] at h;obtain ⟨x,hx,rfl⟩:=Option.map_eq_some_iff.1 h;exact zfE w m x sw ok hl p hs (by omega) hx
 rw [if_neg p] at h;cases h
theorem zmr (su:qC w m v g e) (hs:zW w m=true) (t:TyW N w) (tm:TyM m) (hN:N<=100000000) (hk:m.op.kind=6) (h:zct w m=some r):zb4 188 w m r:=by
 have gw:=qe.1 su.world;have sw:=zgx gw t hN;have ok:=zda gw t hN;unfold zct at h;split at h
 rotate_left
 ·cases h
 rename_i p;obtain ⟨rw_,h1,h2⟩:=Option.bind_eq_some_iff.1 h;obtain ⟨n,h3,rfl⟩:=Option.map_eq_some_iff.1 h2;exact zkk w m rw_ n sw ok tm.listen p.1 hs su.done ⟨su.i,h1,su.k,p.2,h3⟩ (tm.ans hk su.done)
theorem wH (gw:jH w) {i:Nat} {x:Ret} (hx:w.zt[i]?= some x):0<=x.at_∧x.at_<=w.zn∧0<=x.version∧x.version < w.ze.length∧x.version≠w.current:=by
 have h1:=gw.bad x (List.mem_of_getElem? hx);have h2:=of_decide_eq_true (show decide (∀ i,(h:i < w.zt.length)->Go.Lim.okV w.zt i w.zt[i]=true)=true from gw.zt) i (List.getElem?_eq_some_iff.1 hx).1;rw [(List.getElem?_eq_some_iff.1 hx).2] at h2;unfold yc at h1;unfold Go.Lim.okV at h2;simp at h1 h2;omega
theorem zm4 (h0:0<=m.i):zb Tryz.prog 241 [⟨1,28,8,[zJ w],0⟩,⟨1,97,44,[zD m],0⟩] [.agg [.ref 0 [] 8 0 0,.ref 1 [] 44 0 0]] (Ce (ldS w m).2.2) [⟨1,28,8,[zJ (ldS w m).1],0⟩,⟨1,97,44,[zD (ldS w m).2.1],0⟩]:=by
 unfold ldS;cases hx:w.zd[m.i.toNat]? with
 | none=>exact zch w m (by have:=List.getElem?_eq_none_iff.1 hx;omega)
 | some l=>exact zdT w m l h0 hx
theorem zif (su:qC w m v g e) (hs:zW w m=true) (t:TyW N w) (tm:TyM m) (hN:N<=100000000) (h:ks w m=some r):zb4 187 w m r:=by
 have gw:=qe.1 su.world;have sw:=zgx gw t hN;have ok:=zda gw t hN;have hl:=tm.listen;have av:=su.at_.toAtV;unfold ks at h;by_cases p:m.pc=0
 ·rw [if_pos p] at h;by_cases q:w.lock=0
  ·rw [if_pos q] at h;cases h
   (exact jv sw ok hl hs (j9 w m (by omega)) 0 _ rfl (fun _ _ _ _ _ _ _ _ _ _=>by rw [p];rfl) rfl (zg0 w m q))
  ·rw [if_neg q] at h;cases h
   (exact jv sw ok hl hs (j9 w m (by omega)) 0 _ rfl (fun _ _ _ _ _ _ _ _ _ _=>by rw [p];rfl) rfl (ziC w m q))
 rw [if_neg p] at h
 clear p
 by_cases p:m.pc=1
 ·rw [if_pos p] at h;cases h
  (exact jv sw ok hl hs (j9 w m (by omega)) 1 _ rfl (fun _ _ _ _ _ _ _ _ _ _=>by rw [p];rfl) rfl (Go.Wor.ze3 w m))
 rw [if_neg p] at h
 clear p
 by_cases p:m.pc=2
 ·rw [if_pos p] at h;obtain ⟨x,hx,rfl⟩:=Option.map_eq_some_iff.1 h;have hlt:=(List.getElem?_eq_some_iff.1 hx).1;have si:=su.i;exact jv sw ok hl hs (zlS w m p (by omega)) 2 _ rfl (fun _ _ _ _ _ _ _ _ _ _=>by rw [p];rfl) rfl (zgZ w m x su.i hx)
 rw [if_neg p] at h
 clear p
 by_cases p:m.pc=3
 ·rw [if_pos p] at h;by_cases q:w.zn=m.zn∧w.zn < 1000000000000
  ·rw [if_pos q] at h;cases h
   (exact jv sw ok hl hs (j9 w m (by omega)) 3 _ rfl (fun _ _ _ _ _ _ _ _ _ _=>by rw [p];rfl) rfl (zcJ w m q.1 q.2))
  ·rw [if_neg q] at h;cases h
   (exact jv sw ok hl hs (j9 w m (by omega)) 3 _ rfl (fun _ _ _ _ _ _ _ _ _ _=>by rw [p];rfl) rfl (zdE w m q))
 rw [if_neg p] at h
 clear p
 by_cases p:m.pc=4
 ·rw [if_pos p] at h;cases hx:w.zt[m.i.toNat]? with
  | none=>
   rw [hx] at h;cases h
   (exact jv sw ok hl hs (j9 w m (by omega)) 4 _ rfl (fun _ _ _ _ _ _ _ _ _ _=>by rw [p];rfl) rfl (zci (by have:=List.getElem?_eq_none_iff.1 hx;have:=su.i;omega) (zm4 (m:=atM m 8 0) (Int.le_refl _))))
  | some x=>
   rw [hx] at h;cases h
   have la:=wH gw hx;have ge:=(qb.1 gw.ground).zn
   (exact jv sw ok hl hs (j9 w m (by omega)) 4 _ rfl (fun _ _ _ _ _ _ _ _ _ _=>by rw [p];rfl) rfl (ze4 w m x ⟨by omega,by omega⟩ su.i hx))
 rw [if_neg p] at h
 clear p
 by_cases p:m.pc=5
 ·rw [if_pos p] at h;obtain ⟨v',hv',h⟩:=Option.bind_eq_some_iff.1 h;obtain ⟨x,hx,rfl⟩:=Option.map_eq_some_iff.1 h;have hlt:=(List.getElem?_eq_some_iff.1 hx).1;have sk:=su.k;exact jv sw ok hl hs (zlT w m v' (zpH gw hv') p ⟨su.version.1,hv'⟩ (by omega)) 5 _ rfl (fun _ _ _ _ _ _ _ _ _ _=>by rw [p];rfl) rfl (zdS w m v' x (zpH gw hv') ⟨su.version.1,hv'⟩ su.k hx)
 rw [if_neg p] at h
 clear p
 by_cases p:m.pc=6
 ·rw [if_pos p] at h;obtain ⟨v',hv',h⟩:=Option.bind_eq_some_iff.1 h;obtain ⟨x,hx,h⟩:=Option.bind_eq_some_iff.1 h;split at h
  rotate_left
  ·cases h
  rename_i q;cases h
  exact zii sw ok hl hs (zlU w m x p su.i hx q.1 q.2) 6 _ rfl (fun _ _ _ _ _ _ _ _ _ _=>by rw [p];rfl) rfl (by rintro h0;rw [h0] at hv';simp at hv') (by rintro h0;rw [h0] at hx;simp at hx) (by simp) (by simp) (zac w m v' x ⟨su.version.1,hv'⟩ su.i hx)
 rw [if_neg p] at h
 clear p
 by_cases p:m.pc=8
 ·rw [if_pos p] at h;cases h
  (exact jv sw ok hl hs (j9 w m (by omega)) 7 _ rfl (fun _ _ _ _ _ _ _ _ _ _=>by rw [p];rfl) rfl (zm4 su.i))
 rw [if_neg p] at h
 clear p
 by_cases p:m.pc=9
 ·rw [if_pos p] at h;obtain ⟨x,hx,rfl⟩:=Option.map_eq_some_iff.1 h;have hlt:=(List.getElem?_eq_some_iff.1 hx).1;have si:=su.i;exact jv sw ok hl hs (zlV w m p (by omega)) 8 _ rfl (fun _ _ _ _ _ _ _ _ _ _=>by rw [p];rfl) rfl (zdV w m x su.i hx)
 rw [if_neg p] at h
 clear p
 by_cases p:m.pc=10
 ·rw [if_pos p] at h;obtain ⟨x,hx,h⟩:=Option.bind_eq_some_iff.1 h;split at h
  rotate_left
  ·cases h
  rename_i q;cases h
  exact zij sw ok hl hs (zjT w m x p su.i hx q) 9 _ rfl (fun _ _ _ _ _ _ _ _ _ _=>by rw [p];rfl) rfl (by rintro h0;rw [h0] at hx;simp at hx) (by simp) (zmo w m x su.i hx)
 rw [if_neg p] at h;cases h
end
end Go.Wor
namespace Go.Wor
open Go.Ab Go.Proofs Go.Gat Go.Nam Go.Hos Go.Con Go.Sna Go.Pla
open Go.Hy hiding encI
abbrev zq7 (w:Wor) (m:Mac) (r:Wor × Mac × Eve):Prop:=zb Tryz.prog 58 [] [Sw w,Sm m] (Sr r.1 r.2.1 r.2.2) []
theorem zmd {N:Nat} {w:Wor} {m:Mac} {r:Wor × Mac × Eve} (hs:zW w m=true) (t:TyW N w) (tm:TyM m) (hN:N<=100000000) (h:zbf w m=some r):zq7 w m r:=by
 obtain ⟨v,g,e,su⟩:=wP hs;unfold zbf at h;rw [su.atv] at h;dsimp only at h;rw [su.atg] at h;dsimp only at h;rw [su.ate] at h;dsimp only at h;by_cases k:m.op.kind=1
 ·rw [if_pos k] at h;exact zkl k (zjE su hs t tm hN h)
 rw [if_neg k] at h
 clear k
 by_cases k:m.op.kind=2
 ·rw [if_pos k] at h;exact zkm k (zjv su hs t tm hN h)
 rw [if_neg k] at h
 clear k
 by_cases k:m.op.kind=3
 ·rw [if_pos k] at h;exact zbe k (zhT su hs t tm hN k h)
 rw [if_neg k] at h
 clear k
 by_cases k:m.op.kind=4
 ·rw [if_pos k] at h;exact zkn k (zk6 su hs t tm hN h)
 rw [if_neg k] at h
 clear k
 by_cases k:m.op.kind=5
 ·rw [if_pos k] at h;exact zko k (zif su hs t tm hN h)
 rw [if_neg k] at h
 clear k
 by_cases k:m.op.kind=6
 ·rw [if_pos k] at h;exact zkp k (zmr su hs t tm hN k h)
 rw [if_neg k] at h;cases h
end Go.Wor
