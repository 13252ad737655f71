import Derived.Test.YtgmkpdmnlhoffaaGreatRZ
import Derived.Test.YtgmkpdmnlhoffaaGreatRU
import Derived.Test.YtgmkpdmnlhoffaaGreatRI
set_option linter.all false
set_option maxRecDepth 100000
set_option maxHeartbeats 4000000
namespace Go.Wor
open Go.Ab Go.Proofs Go.Gat Go.Nam Go.Hos Go.Con Go.Sna Go.Pla
open Go.Hy hiding encI
abbrev zo6 (s:Scr):C:=.agg (qH s)
def wm (c:Cfg):Bool:=(qY c).1 == 0
def zjg (o:Opn):Bool:=decide (o.kind < 1) || decide (6 < o.kind)
def zh4 (l:List Opn):Bool:=decide (16 < l.length) || l.any zjg
def zpo (n:Int):Bool:=decide (n < 0)
def isS (s:Scr):Bool:=wm s.first && decide (1<=s.threads.length) && decide (s.threads.length<=8) && decide (s.zY.length<=4000) && !s.threads.any zh4 && !s.zY.any zpo
structure WkR (s:Scr):Prop where
 first:ko s.first
 threads:s.threads.length < 4000000000000000000
 ops:∀ l ∈ s.threads,l.length < 4000000000000000000
 zY:s.zY.length < 4000000000000000000
theorem zeB (c:Cfg) (hc:ko c):zb Tryz.prog 59 [] [Cf c] (Bo (wm c)) []:=by
 refine zb.zp (fn:=Tryz.f59) Tryz.func59 rfl (uH ?_);refine ⟨_,_,(zcM c hc).frame rfl _,dd ?_⟩;refine ⟨fun h=>?_,fun h=>?_⟩
 ·refine dd ?_
  (exact ⟨.inl rfl,_,.refl _,uN (by exact h.symm)⟩)
 ·refine dd ?_
  (exact ⟨.inl rfl,_,.refl _,uN (by exact h.symm)⟩)
abbrev zsE (o:Opn):C:=.agg (y5 o)
theorem zlD {H:zk} {f:FuncId} {caps:List C} {l:List Opn} (p:Opn->Bool) (hcb:qm Tryz.prog f=true) (hp:∀ r ∈ l,zb Tryz.prog f H ([zsE r]++caps) (Bo (p r)) H) (hl:l.length < 4611686018427387904):
  zb Tryz.prog 114 H [lP l,.fn f [] caps] (I (match l.findIdx? p with | some i=>(i:Int) | none=> -1)) H:=by
 refine zb.zS (fn:=Tryz.f114) Tryz.func114 rfl (uH ?_)
 refine qf.inv (fun n t1 H1=>∃ k,k+n=l.length∧H1=H∧(∀ j,j < k->∀ r,l[j]?= some r->p r=false)∧
   t1=((lP l)::.fn f [] caps::.za::.za::I 0::.za::.za::I (l.map y5).length::I k::tY ([.za,.za]))) l.length ?_ ?_
 ·exact ⟨_,_,zo.mask [0,1,4,7,8] _ _,0,by simp,rfl,by simp,rfl⟩
 rintro n _ _ ⟨k,hk,rfl,hno,rfl⟩;conv=>whnf
 refine ⟨fun h=>?_,fun h=>?_⟩
 ·conv=>whnf
  have hlt:k < l.length:=by simpa using h
  refine ⟨by omega,y5 l[k],by simp [hlt],uH ?_⟩;rw [hcb];refine ⟨_,_,hp _ (List.getElem_mem hlt),uH ?_⟩;refine ⟨fun h2=>?_,fun h2=>?_⟩
  ·conv=>whnf
   refine .inr ⟨by simp,uH ?_⟩;refine ⟨.inl rfl,_,.refl _,rfl,?_⟩
   have:l.findIdx? p=some k:=by
    rw [List.findIdx?_eq_some_iff_getElem];refine ⟨hlt,h2,fun j hj=>?_⟩;simp [hno j hj _ (List.getElem?_eq_getElem (by omega))]
   rw [this]
   rfl
  ·conv=>whnf
   refine .inl ⟨rfl,n - 1,_,_,by omega,zo.mask [0,1,4,7,8] _ _,k+1,by omega,rfl,?_,?_⟩
   ·intro j hj r hr;by_cases hjk:j=k
    ·subst hjk;rw [List.getElem?_eq_getElem hlt] at hr;cases hr
     exact h2
    ·exact hno j (by omega) r hr
   ·rw [zA (by omega)];rfl
 ·conv=>whnf
  refine .inr ⟨by simp,uH ?_⟩;refine ⟨.inl rfl,_,.refl _,rfl,?_⟩
  have:l.findIdx? p=none:=by
   rw [List.findIdx?_eq_none_iff];intro x hx;obtain ⟨j,hj⟩:=List.mem_iff_getElem?.1 hx;have hjl:=(List.getElem?_eq_some_iff.1 hj).1;have:¬k < l.length:=by simpa using h
   exact hno j (by omega) x hj
  rw [this]
  rfl
theorem zk4 {H:zk} {f:FuncId} {caps:List C} {l:List Opn} (p:Opn->Bool) (hcb:qm Tryz.prog f=true) (hp:∀ r ∈ l,zb Tryz.prog f H ([zsE r]++caps) (Bo (p r)) H) (hl:l.length < 4611686018427387904):
  zb Tryz.prog 60 H [lP l,.fn f [] caps] (Bo (l.any p)) H:=by
 refine zb.zS (fn:=Tryz.f60) Tryz.func60 rfl (uH ?_);refine ⟨_,_,zlD p hcb hp hl,dd ?_⟩;rw [show decide ((match l.findIdx? p with | some i=>((i:Nat):Int) | none=>(-1:Int))≥(0:Int))=l.any p from zc3 l p];refine ⟨fun h=>?_,fun h=>?_⟩ <;> rw [h]
 ·refine dd ?_;exact uJ
 ·refine dd ?_;exact uJ
theorem zmm (o:Opn):zb Tryz.prog 61 [] [zsE o] (Bo (zjg o)) []:=by
 refine zb.zp (fn:=Tryz.f61) Tryz.func61 rfl (uH ?_);refine ⟨fun h1=>?_,fun h1=>?_⟩
 ·refine dd ?_;(repeat refine uC ?_)
  (exact ⟨.inl rfl,_,.refl _,uN (by unfold zjg;rw [h1];rfl)⟩)
 ·refine dd ?_;refine ⟨fun h2=>?_,fun h2=>?_⟩
  ·refine dd ?_
   (exact ⟨.inl rfl,_,.refl _,uN (by unfold zjg;rw [h1];simp at h2;simp [h2])⟩)
  ·refine dd ?_
   (exact ⟨.inl rfl,_,.refl _,uN (by unfold zjg;rw [h1];simp at h2;simp;omega)⟩)
theorem zmn (n:Int):zb Tryz.prog 63 [] [I n] (Bo (zpo n)) []:=by
 refine zb.zp (fn:=Tryz.f63) Tryz.func63 rfl (uH ?_);refine ⟨fun h1=>?_,fun h1=>?_⟩
 ·refine dd ?_
  (exact ⟨.inl rfl,_,.refl _,uN (by exact h1.symm)⟩)
 ·refine dd ?_
  (exact ⟨.inl rfl,_,.refl _,uN (by exact h1.symm)⟩)
theorem zgt (s:Scr) (hs:WkR s):zb Tryz.prog 26 [] [zo6 s] (Bo (isS s)) []:=by
 have m1:(s.threads.map yN).length=s.threads.length:=List.length_map ..;have m2:(s.zY.map Go.Hy.encI).length=s.zY.length:=List.length_map ..;have b1:=hs.threads;have b2:=hs.zY;have hcon:=Go.Wor.zfy (H:=[]) (f:=63) (l:=s.zY) (caps:=[]) zpo (by kernel_rfl) (fun r _=>zmn r) (by omega);refine zb.zp (fn:=Tryz.f26) Tryz.func26 rfl (uH ?_);refine ⟨_,_,(zeB s.first hs.first).frame rfl _,dd ?_⟩;refine ⟨fun h1=>?_,fun h1=>?_⟩
 rotate_left
 ·(rw [show isS s=false from by (unfold isS;rw [h1];rfl)]);refine dd ?_;(repeat refine uC ?_);exact uI
 refine dd ?_;rw [m1];refine ⟨fun h2=>?_,fun h2=>?_⟩
 ·(rw [show isS s=false from by (unfold isS;rw [decide_eq_false (show ¬1<=s.threads.length by simp at h2;omega)];simp)]);refine dd ?_;(repeat refine uC ?_);exact uI
 have h2:1<=s.threads.length:=by simp at h2;omega
 refine dd ?_;rw [m1];refine ⟨fun h3=>?_,fun h3=>?_⟩
 ·(rw [show isS s=false from by (unfold isS;rw [decide_eq_false (show ¬s.threads.length<=8 by simp at h3;omega)];simp)]);refine dd ?_;(repeat refine uC ?_);exact uI
 have h3:s.threads.length<=8:=by simp at h3;omega
 refine dd ?_;rw [m2];refine ⟨fun h4=>?_,fun h4=>?_⟩
 ·(rw [show isS s=false from by (unfold isS;rw [decide_eq_false (show ¬s.zY.length<=4000 by simp at h4;omega)];simp)]);refine dd ?_;(repeat refine uC ?_);exact uI
 have h4:s.zY.length<=4000:=by simp at h4;omega
 have e1:isS s=(!s.threads.any zh4 && !s.zY.any zpo):=by
  unfold isS;rw [h1,decide_eq_true h2,decide_eq_true h3,decide_eq_true h4]
  rfl
 refine dd ?_;(repeat refine uC ?_)
 rw [m1];refine qf.seq s.threads.length (fun k=>(.za::.ref 0 [] 5 0 0::Bo false::tY (tY (tY (.za::(zob s.threads)::I s.threads.length::I k::tY ([.za,.za,.za,.za,.za,.za,.za])))))) (fun k=>[⟨1,43,5,[qH s],0⟩]) (fun k=>∀ j,(h:j < s.threads.length)->j < k->zh4 s.threads[j]=false) ?_ (by simp) (fun k hk hr=>?_) (fun hr=>?_)
 ·exact cC
 ·obtain ⟨x,hx⟩:∃ x,x=s.threads[k]:=⟨_,rfl⟩;have hxm:x ∈ s.threads:=by rw [hx];exact List.getElem_mem hk
  have hg:(s.threads.map yN)[k]?= some (yN x):=by rw [List.getElem?_map,List.getElem?_eq_getElem hk,hx];rfl
  have m3:(x.map y5).length=x.length:=List.length_map ..;have bx:=hs.ops x hxm;have hcx:=zk4 (H:=[]) (f:=61) (l:=x) (caps:=[]) zjg (by kernel_rfl) (fun r _=>zmm r) (by omega)
  have bad:zh4 x=true->isS s=false:=fun h=>by
   rw [e1,List.any_eq_true.2 ⟨x,hxm,h⟩];rfl
  conv=>whnf
  refine uF ?_;(refine ⟨by omega,_,by rw [toNat_cast];exact hg,dd ?_⟩)
  rw [m3];refine ⟨fun c1=>?_,fun c1=>?_⟩
  ·rw [bad (by unfold zh4;rw [decide_eq_true (show 16 < x.length by simp at c1;omega)];rfl)];refine dd ?_;(repeat refine uC ?_)
   (refine .inr ⟨by simp,uH ?_⟩)
   exact uI
  have eT:zh4 x=x.any zjg:=by unfold zh4;rw [decide_eq_false (by simp at c1;omega)];rfl
  refine dd ?_;refine ⟨_,_,(hcx).frame rfl _,dd ?_⟩;refine ⟨fun c2=>?_,fun c2=>?_⟩
  ·rw [bad (by rw [eT,c2])];refine dd ?_;(repeat refine uC ?_)
   (refine .inr ⟨by simp,uH ?_⟩)
   exact uI
  ·refine dd ?_;(repeat refine uC ?_)
   refine .inl ⟨rfl,?_,fun i hi hij=>?_⟩
   ·rw [zA (by omega)];exact cE 1
   ·by_cases e:i=k
    ·subst e;rw [<- hx,eT,c2]
    ·exact hr i hi (by omega)
 ·have h5:s.threads.any zh4=false:=by
   rw [List.any_eq_false];intro x hx;obtain ⟨i,hi,rfl⟩:=List.mem_iff_getElem.1 hx;simp [hr i hi hi]
  rw [e1,h5];refine uD ?_;refine ⟨_,_,(hcon).frame rfl _,dd ?_⟩;refine ⟨fun q=>?_,fun q=>?_⟩
  all_goals
   rw [q];refine dd ?_;(repeat refine uC ?_)
   exact uI
def yW (out:List Str) (n:Str):List Str:=if (out.any fun x=>x == n)=true then out else out++[n]
def kq (out:List Str) (c:Cfg):List Str:=c.zd.foldl yW out
def zmf (o:Opn):Bool:=decide (o.kind=3) && wm o.config
def zaB (out:List Str) (o:Opn):List Str:=if zmf o=true then kq out o.config else out
def vN (out:List Str) (l:List Opn):List Str:=l.foldl zaB out
def xF (s:Scr):List Str:=s.threads.foldl vN (kq [] s.first)
theorem ki {c:Cfg} (h:wm c=true):c.zd.length<=4:=by
 have h:(qY c).1=0:=by simpa [wm] using h
 unfold qY at h;split at h
 ·rename_i q;exact absurd h q
 ·rename_i q;have q:(y4 c).1=0:=Decidable.of_not_not q;unfold y4 at q;split at q
  ·exact absurd (show (6:Int)=0 from q) (by decide)
  ·rename_i z;simp at z;omega
theorem zfm (out:List Str) (n:Str):(yW out n).length<=out.length+1:=by
 unfold yW;split
 ·omega
 ·simp
theorem zaS {α β:Type} (f:List β->α->List β) (k:Nat):∀ (l:List α) (out:List β),(∀ x ∈ l,∀ o:List β,(f o x).length<=o.length+k)->(l.foldl f out).length<=out.length+k * l.length
 | [],out,_=>by simp
 | x::l,out,h=>by
  have h1:=h x (List.mem_cons_self ..) out;have h2:=zaS f k l (f out x) fun y hy o=>h y (List.mem_cons_of_mem _ hy) o
  rw [List.foldl_cons,List.length_cons,Nat.mul_add];omega
theorem zcC (out:List Str) {c:Cfg} (h:c.zd.length<=4):(kq out c).length<=out.length+4:=by
 have:=zaS yW 1 c.zd out fun n _ o=>zfm o n
 unfold kq;omega
theorem zjb (out:List Str) (o:Opn):(zaB out o).length<=out.length+4:=by
 unfold zaB;split
 ·rename_i h;unfold zmf at h;simp only [Bool.and_eq_true] at h;exact zcC out (ki h.2)
 ·omega
theorem zdz (out:List Str) {l:List Opn} (h:l.length<=16):(vN out l).length<=out.length+64:=by
 have:=zaS zaB 4 l out fun o _ x=>zjb x o
 unfold vN;omega
theorem wZ {α β:Type} (f:β->α->β) (b:β) (l:List α) {k:Nat} (h:k < l.length):(l.take (k+1)).foldl f b=f ((l.take k).foldl f b) l[k]:=by
 rw [List.take_succ_eq_append_getElem h,List.foldl_append]
 rfl
theorem zgN (s:Scr) (X Y:Ob):zb Tryz.prog 99 [X,Y] [zo6 s] (.fn 171 [] [.ref 2 [] 5 0 0]) [X,Y,⟨1,43,5,[qH s],0⟩]:=by
 refine zb.zS (fn:=Tryz.f99) Tryz.func99 rfl (uH ?_);exact uJ
structure WkN (s:Scr):Prop where
 first:wm s.first=true
 threads:s.threads.length<=8
 ops:∀ l ∈ s.threads,l.length<=16
 cfg:∀ l ∈ s.threads,∀ o ∈ l,ko o.config
theorem zfz (s:Scr) (hs:WkN s) (l:Nat) (rec:Ob) (hrec:qF 5 [rec]=true)
  (hy0:∀ (out:List Str) (c:Cfg),out.length<=600->c.zd.length<=4->jh Tryz.prog l ([⟨1,43,5,[qH s],0⟩,⟨1,36,1,[[.gl 3 1 ((out).map ql)]],0⟩,⟨1,43,5,[qH s],0⟩,⟨4,9,1,(out).map ql,0⟩,rec]) [Cf c] (Bo true) ([⟨1,43,5,[qH s],0⟩,⟨1,36,1,[[.gl 3 1 ((kq out c).map ql)]],0⟩,⟨1,43,5,[qH s],0⟩,⟨4,9,1,(kq out c).map ql,0⟩,rec]))
  (hy1:∀ (out:List Str) (c:Cfg) (o:Opn),out.length<=600->c.zd.length<=4->jh Tryz.prog l ([⟨1,43,5,[qH s],0⟩,⟨1,36,1,[[.gl 3 1 ((out).map ql)]],0⟩,⟨1,43,5,[qH s],0⟩,⟨4,9,1,(out).map ql,0⟩,rec]++[⟨1,51,10,[y5 (o)],0⟩]) [Cf c] (Bo true) ([⟨1,43,5,[qH s],0⟩,⟨1,36,1,[[.gl 3 1 ((kq out c).map ql)]],0⟩,⟨1,43,5,[qH s],0⟩,⟨4,9,1,(kq out c).map ql,0⟩,rec]++[⟨1,51,10,[y5 (o)],0⟩])):
  zb Tryz.prog 171 ([⟨1,43,5,[qH s],0⟩,⟨1,36,1,[[.gl 3 1 (([]).map ql)]],0⟩,⟨1,43,5,[qH s],0⟩,⟨4,9,1,([]).map ql,0⟩,rec]) [.v (.func (.yield l) #[] #[]),.ref 2 [] 5 0 0] (.tup []) ([⟨1,43,5,[qH s],0⟩,⟨1,36,1,[[.gl 3 1 ((xF s).map ql)]],0⟩,⟨1,43,5,[qH s],0⟩,⟨4,9,1,(xF s).map ql,0⟩,rec]):=by
 have m1:(s.threads.map yN).length=s.threads.length:=List.length_map ..;have b1:=hs.threads;have y0:=hy0 [] s.first (by decide) (ki hs.first);refine zb.zS (fn:=Tryz.f171) Tryz.func171 rfl (uH ?_);refine ⟨_,_,y0,dd ?_⟩;(repeat refine uC ?_)
 rw [m1];refine qf.seq s.threads.length (fun k=>(.v (.func (.yield l) #[] #[])::.ref 2 [] 5 0 0::tY (.za::.za::.za::(zob s.threads)::I s.threads.length::I k::tY (tY (tY ([.za,.za])))))) (fun k=>[⟨1,43,5,[qH s],0⟩,⟨1,36,1,[[.gl 3 1 (((s.threads.take k).foldl vN (kq [] s.first)).map ql)]],0⟩,⟨1,43,5,[qH s],0⟩,⟨4,9,1,((s.threads.take k).foldl vN (kq [] s.first)).map ql,0⟩,rec]) (fun k=>((s.threads.take k).foldl vN (kq [] s.first)).length<=4+64 * k) ?_ (by have:=zcC [] (ki hs.first);simpa using this) (fun k hk hr=>?_) (fun hr=>?_)
 ·exact cC
 ·obtain ⟨x,hx⟩:∃ x,x=s.threads[k]:=⟨_,rfl⟩;have hxm:x ∈ s.threads:=by rw [hx];exact List.getElem_mem hk
  have hg:(s.threads.map yN)[k]?= some (yN x):=by rw [List.getElem?_map,List.getElem?_eq_getElem hk,hx];rfl
  have m3:(x.map y5).length=x.length:=List.length_map ..;have bx:=hs.ops x hxm;have et:(s.threads.take (k+1)).foldl vN (kq [] s.first)=vN ((s.threads.take k).foldl vN (kq [] s.first)) x:=by rw [wZ _ _ _ hk,hx]
  rw [et];generalize (s.threads.take k).foldl vN (kq [] s.first)=out at hr ⊢;conv=>whnf
  refine uF ?_;(refine ⟨by omega,_,by rw [toNat_cast];exact hg,dd ?_⟩)
  rw [m3];refine qf.seq x.length (fun j=>(.v (.func (.yield l) #[] #[])::.ref 2 [] 5 0 0::tY (.za::.za::.za::(zob s.threads)::I s.threads.length::I k::.za::.za::.za::(lP x)::I x.length::I j::tY (tY ([.za,.za,.za,.za]))))) (fun j=>[⟨1,43,5,[qH s],0⟩,⟨1,36,1,[[.gl 3 1 (((x.take j).foldl zaB out).map ql)]],0⟩,⟨1,43,5,[qH s],0⟩,⟨4,9,1,((x.take j).foldl zaB out).map ql,0⟩,rec]) (fun j=>((x.take j).foldl zaB out).length<=4+64 * k+4 * j) ?_ (by simpa using hr) (fun j hj hrj=>?_) (fun hrj=>?_)
  ·exact cC
  ·obtain ⟨o,hxo⟩:∃ o,o=x[j]:=⟨_,rfl⟩;have hom:o ∈ x:=by rw [hxo];exact List.getElem_mem hj
   have hgo:(x.map y5)[j]?= some (y5 o):=by rw [List.getElem?_map,List.getElem?_eq_getElem hj,hxo];rfl
   have eo:(x.take (j+1)).foldl zaB out=zaB ((x.take j).foldl zaB out) o:=by rw [wZ _ _ _ hj,hxo]
   have ol:=zjb ((x.take j).foldl zaB out) o;rw [eo];generalize (x.take j).foldl zaB out=out2 at hrj ol ⊢;have skip:zmf o=false->zaB out2 o=out2:=fun h=>by unfold zaB;rw [if_neg (by simp [h])]
   have take:zmf o=true->zaB out2 o=kq out2 o.config:=fun h=>by unfold zaB;rw [if_pos h]
   conv=>whnf
   refine uF ?_;(refine ⟨by omega,_,by rw [toNat_cast];exact hgo,dd ?_⟩)
   refine ⟨fun c1=>?_,fun c1=>?_⟩
   rotate_left
   ·rw [skip (by unfold zmf;rw [decide_eq_false (by simpa using c1)];rfl)] at ol ⊢;refine dd ?_;(repeat refine uC ?_)
    refine .inl ⟨rfl,?_,by omega⟩;rw [zA (by omega)];exact zo.xa 5 (by (conv=>whnf);(repeat (refine ⟨rfl,uH ?_⟩));exact trivial) rfl rfl rfl hrec rfl
   have c1:o.kind=3:=by simpa using c1
   refine dd ?_;refine ⟨_,_,(zeB o.config (hs.cfg x hxm o hom)).frame rfl _,dd ?_⟩;refine ⟨fun c2=>?_,fun c2=>?_⟩
   rotate_left
   ·rw [skip (by unfold zmf;rw [c2,Bool.and_false])] at ol ⊢;refine dd ?_;(repeat refine uC ?_)
    refine .inl ⟨rfl,?_,by omega⟩;rw [zA (by omega)];exact zo.xa 5 (by (conv=>whnf);(repeat (refine ⟨rfl,uH ?_⟩));exact trivial) rfl rfl rfl hrec rfl
   have y1:=hy1 out2 o.config o (by omega) (ki c2);rw [take (by unfold zmf;rw [c2,decide_eq_true c1];rfl)] at ol ⊢;refine dd ?_;refine ⟨_,_,y1,dd ?_⟩;(repeat refine uC ?_)
   refine .inl ⟨rfl,?_,by omega⟩;rw [zA (by omega)];exact zo.xa 5 (by (conv=>whnf);(repeat (refine ⟨rfl,uH ?_⟩));exact trivial) rfl rfl rfl hrec rfl
  ·have e:(x.take x.length).foldl zaB out=vN out x:=by rw [List.take_length];rfl
   have al:=zdz out bx;refine uD ?_;rw [e,zA (by omega)];refine .inl ⟨rfl,?_,by omega⟩;exact zo.xa 5 (by (conv=>whnf);(repeat (refine ⟨rfl,uH ?_⟩));exact trivial) rfl rfl rfl hrec rfl
 ·have e:(s.threads.take s.threads.length).foldl vN (kq [] s.first)=xF s:=by rw [List.take_length];rfl
  refine uD ?_;rw [e];exact ⟨.inr rfl,_,.refl _,rfl,rfl⟩
abbrev ztz (s:Scr):List C:=zo6 s:: .ref 0 [] 5 0 0:: .lst 1 0 []:: .ref 1 [] 1 0 0:: .un:: .un:: .un:: .agg (qH s):: .fn 171 [] [.ref 2 [] 5 0 0]::List.replicate 18 .un
theorem zjW (s:Scr) (hs:WkN s):zb Tryz.prog 50 [] [zo6 s] (lT (xF s)) []:=by
 refine zb.zp (fn:=Tryz.f50) Tryz.func50 rfl (uH ?_);refine ⟨_,_,zgN s _ _,uH ?_⟩;refine ⟨_,zo.zbS 1 0 9 1 rfl rfl (.inl rfl) rfl rfl,?_⟩;refine ⟨.normal,_,[⟨1,43,5,[qH s],0⟩,⟨1,36,1,[[.gl 3 1 ((xF s).map ql)]],0⟩,⟨1,43,5,[qH s],0⟩,⟨4,9,1,(xF s).map ql,0⟩],fun l r h1 h2 h3 h4 h5=>⟨_,_,r,zfz s hs l (obR l r (ztz s)) rfl (fun out c ho hc=>?_) (fun out c o ho hc=>?_),rfl,by rw [h1];decide,rfl,Nat.zero_le _,by rw [h2];trivial,zo.low 4 _ _ rfl rfl rfl⟩,?_⟩
 ·have mc:(c.zd.map ql).length=c.zd.length:=List.length_map ..;refine jh.zS (id:=4) rfl h1 h2 h3 h4 h5 rfl rfl rfl (uH ?_);refine ⟨rfl,rfl,uH ?_⟩;rw [mc];refine qf.seq c.zd.length (fun k=>(.za::.ref 0 [] 5 0 0::.za::.ref 1 [] 1 0 0::.za::.za::.za::.za::.za::.za::.za::(lT c.zd)::I c.zd.length::I k::tY ([.za,.za,.za,.za,.za]))) (fun k=>let R:=obR l (busy r) (ztz s);[⟨1,43,5,[qH s],0⟩,⟨1,36,1,[[.gl 3 1 (((c.zd.take k).foldl yW out).map ql)]],0⟩,⟨1,43,5,[qH s],0⟩,⟨4,9,1,((c.zd.take k).foldl yW out).map ql,0⟩,R]++[⟨1,40,3,[zdJ c],0⟩]) (fun k=>((c.zd.take k).foldl yW out).length<=out.length+k) ?_ (by simp) (fun k hk hr=>?_) (fun hr=>?_)
  ·exact cC
  ·obtain ⟨n,hx⟩:∃ n,n=c.zd[k]:=⟨_,rfl⟩;have hg:(c.zd.map ql)[k]?= some (ql n):=by rw [List.getElem?_map,List.getElem?_eq_getElem hk,hx];rfl
   have et:(c.zd.take (k+1)).foldl yW out=yW ((c.zd.take k).foldl yW out) n:=by rw [wZ _ _ _ hk,hx]
   have al:=zfm ((c.zd.take k).foldl yW out) n;dsimp only;rw [et];generalize (c.zd.take k).foldl yW out=o2 at hr al ⊢;have ml:(o2.map ql).length=o2.length:=List.length_map ..;conv=>whnf
   refine uF ?_;(refine ⟨by omega,_,by rw [toNat_cast];exact hg,dd ?_⟩)
   refine ⟨_,_,(wV o2 n (by omega)).frame rfl _,dd ?_⟩;refine ⟨fun q=>?_,fun q=>?_⟩
   ·rw [show yW o2 n=o2 from if_pos q];refine dd ?_;refine .inl ⟨rfl,?_,by omega⟩;rw [zA (by omega)];exact cE 6
   ·have ea:yW o2 n=o2++[n]:=if_neg (by simp [q]);rw [ea] at al ⊢;refine dd ?_;refine ⟨rfl,.inr rfl,by rw [ml];simp [maxLen];omega,by rw [ml];show _ * 16<=_;simp;omega,dd ?_⟩;have eb:o2.map ql++[[Tx n]]=(o2++[n]).map ql:=by simp [ql]
    rw [eb];refine .inl ⟨rfl,?_,by omega⟩;rw [zA (by omega)];exact cE 6
  ·have e:(c.zd.take c.zd.length).foldl yW out=kq out c:=by rw [List.take_length];rfl
   refine uD ?_;rw [e];exact ⟨(.za::.ref 0 [] 5 0 0::tY (tY (tY ([.za])))),_,cE 5,rfl,.inl ⟨rfl,rfl,rfl⟩⟩
 ·have mc:(c.zd.map ql).length=c.zd.length:=List.length_map ..;refine jh.zS (id:=4) rfl h1 h2 h3 h4 h5 rfl rfl rfl (uH ?_);refine ⟨rfl,rfl,uH ?_⟩;rw [mc];refine qf.seq c.zd.length (fun k=>(.za::.ref 0 [] 5 0 0::.za::.ref 1 [] 1 0 0::.za::.za::.za::.za::.za::.za::.za::(lT c.zd)::I c.zd.length::I k::tY ([.za,.za,.za,.za,.za]))) (fun k=>let R:=obR l (busy r) (ztz s);[⟨1,43,5,[qH s],0⟩,⟨1,36,1,[[.gl 3 1 (((c.zd.take k).foldl yW out).map ql)]],0⟩,⟨1,43,5,[qH s],0⟩,⟨4,9,1,((c.zd.take k).foldl yW out).map ql,0⟩,R]++[⟨1,51,10,[y5 o],0⟩,⟨1,40,3,[zdJ c],0⟩]) (fun k=>((c.zd.take k).foldl yW out).length<=out.length+k) ?_ (by simp) (fun k hk hr=>?_) (fun hr=>?_)
  ·exact cC
  ·obtain ⟨n,hx⟩:∃ n,n=c.zd[k]:=⟨_,rfl⟩;have hg:(c.zd.map ql)[k]?= some (ql n):=by rw [List.getElem?_map,List.getElem?_eq_getElem hk,hx];rfl
   have et:(c.zd.take (k+1)).foldl yW out=yW ((c.zd.take k).foldl yW out) n:=by rw [wZ _ _ _ hk,hx]
   have al:=zfm ((c.zd.take k).foldl yW out) n;dsimp only;rw [et];generalize (c.zd.take k).foldl yW out=o2 at hr al ⊢;have ml:(o2.map ql).length=o2.length:=List.length_map ..;conv=>whnf
   refine uF ?_;(refine ⟨by omega,_,by rw [toNat_cast];exact hg,dd ?_⟩)
   refine ⟨_,_,(wV o2 n (by omega)).frame rfl _,dd ?_⟩;refine ⟨fun q=>?_,fun q=>?_⟩
   ·rw [show yW o2 n=o2 from if_pos q];refine dd ?_;refine .inl ⟨rfl,?_,by omega⟩;rw [zA (by omega)];exact cE 7
   ·have ea:yW o2 n=o2++[n]:=if_neg (by simp [q]);rw [ea] at al ⊢;refine dd ?_;refine ⟨rfl,.inr rfl,by rw [ml];simp [maxLen];omega,by rw [ml];show _ * 16<=_;simp;omega,dd ?_⟩;have eb:o2.map ql++[[Tx n]]=(o2++[n]).map ql:=by simp [ql]
    rw [eb];refine .inl ⟨rfl,?_,by omega⟩;rw [zA (by omega)];exact cE 7
  ·have e:(c.zd.take c.zd.length).foldl yW out=kq out c:=by rw [List.take_length];rfl
   refine uD ?_;rw [e];exact ⟨(.za::.ref 0 [] 5 0 0::tY (tY (tY ([.za])))),_,cE 6,rfl,.inl ⟨rfl,rfl,rfl⟩⟩
 ·conv=>whnf
  exact uI
def qU (s:Scr):Wor × Int:=if isS s=true then zck (ji s.first).1 (xF s) s.threads.length else (zf9,1)
theorem yH {s:Scr} (h:isS s=true):wm s.first=true∧1<=s.threads.length∧s.threads.length<=8∧s.zY.length<=4000∧(∀ l ∈ s.threads,l.length<=16∧∀ o ∈ l,1<=o.kind∧o.kind<=6)∧∀ n ∈ s.zY,0<=n:=by
 unfold isS at h;simp only [Bool.and_eq_true,decide_eq_true_eq,Bool.not_eq_true',List.any_eq_false] at h;obtain ⟨⟨⟨⟨⟨h1,h2⟩,h3⟩,h4⟩,h5⟩,h6⟩:=h;refine ⟨h1,h2,h3,h4,fun l hl=>?_,fun n hn=>?_⟩
 ·have q:=h5 l hl;unfold zh4 at q;simp only [Bool.not_eq_true,Bool.or_eq_false_iff,decide_eq_false_iff_not,List.any_eq_false] at q;refine ⟨by omega,fun o ho=>?_⟩;have:=q.2 o ho;unfold zjg at this;simp at this;omega
 ·have:=h6 n hn;unfold zpo at this;simp at this;omega
theorem zba (s:Scr) (hs:WkR s) (hc:wm s.first=true->xf s.first) (ho:∀ l ∈ s.threads,∀ o ∈ l,ko o.config) (hn:isS s=true->∀ x ∈ xF s,x.length < 4000000000000000000):zb Tryz.prog 19 [] [zo6 s] (.tup [Cw (qU s).1,I (qU s).2]) []:=by
 have m1:(s.threads.map yN).length=s.threads.length:=List.length_map ..;refine zb.zp (fn:=Tryz.f19) Tryz.func19 rfl (uH ?_);refine ⟨_,_,(zgt s hs).frame rfl _,dd ?_⟩;refine ⟨fun h1=>?_,fun h1=>?_⟩
 rotate_left
 ·rw [show qU s=(zf9,1) from if_neg (by simp [h1])];refine dd ?_;(repeat refine uC ?_)
  exact ⟨.inl rfl,_,zo.var 1 rfl rfl rfl (.cons (.refl _) (.cons (.refl _) (.cons (.refl _) (.cons (WC.nil 0 1) (.cons (WC.nil 0 5) (.cons (WC.nil 0 4) (.cons (WC.nil 0 1) (.cons (WC.nil 0 3) .nil)))))))),rfl⟩
 obtain ⟨p1,p2,p3,p4,p5,p6⟩:=yH h1;have sc:=hc p1;have er:(qY s.first).1=0:=by simpa [wm] using p1
 refine dd ?_;(repeat refine uC ?_)
 refine ⟨_,_,(zaJ s.first sc).frame rfl _,dd ?_⟩;have eb:(ji s.first).2.1=0:=(zdD s.first).trans er;have en:qU s=zck (ji s.first).1 (xF s) s.threads.length:=if_pos h1;have wn:WkN s:=⟨p1,p3,fun l hl=>(p5 l hl).1,ho⟩
 have nl:(xF s).length < 1000000000:=by
  have a:=zcC [] (ki p1)
  have b:=zaS vN 64 s.threads (kq [] s.first) fun l hl o=>by
   have hl2:=(p5 l hl).1;exact zdz o hl2
  have c:xF s=s.threads.foldl vN (kq [] s.first):=rfl;rw [c];simp at a;omega
 have nw:=zon (ji s.first).1 (xF s) s.threads.length (k9 sc) ⟨nl,hn h1⟩;refine ⟨fun h=>absurd h (by rw [eb];decide),fun _=>dd ?_⟩;refine uE ?_;refine ⟨_,_,(zjW s wn).frame rfl _,dd ?_⟩;rw [m1];refine ⟨_,_,(nw).frame rfl _,dd ?_⟩;rw [en];exact uI
end Go.Wor
