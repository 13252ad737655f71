import Derived.Test.YtgllekalddijbaaGreatTZ
import Derived.Test.YtgllekalddijbaaGreatTU
import Derived.Test.YtgllekalddijbaaGreatTI
import Derived.Test.YtgllekalddijbaaGreatTQ
set_option linter.unusedVariables false
set_option linter.unusedSimpArgs false
set_option linter.unusedSectionVars false
set_option maxRecDepth 100000
set_option maxHeartbeats 4000000
namespace Go.Wor
open Go.Ab Go.Proofs Go.Gat Go.Nam Go.Hos Go.Con Go.Sna Go.Pla
open Go.Hy hiding encI
abbrev zju (s:Scr):C:=.agg (qk s)
def xY (c:Cfg):Bool:=(zY c).1 == 0
def zfD (o:Opn):Bool:=decide (o.kind < 1) || decide (6 < o.kind)
def zev (l:List Opn):Bool:=decide (16 < l.length) || l.any zfD
def zjI (n:Int):Bool:=decide (n < 0)
def isS (s:Scr):Bool:=xY s.first && decide (1<=s.threads.length) && decide (s.threads.length<=8) && decide (s.xP.length<=4000) && !s.threads.any zev && !s.xP.any zjI
structure WkR (s:Scr):Prop where
 first:xU s.first
 threads:s.threads.length < 4000000000000000000
 ops:∀ l ∈ s.threads,l.length < 4000000000000000000
 xP:s.xP.length < 4000000000000000000
theorem zbK (c:Cfg) (hc:xU c):zb Tryz.prog 94 [] [Cf c] (Bo (xY c)) []:=by
 refine zb.zk (fn:=Tryz.f94) Tryz.func94 rfl ?_
 conv=>whnf
 refine ⟨_,_,(zak c hc).frame rfl _,?_⟩;refine dd ?_
 refine ⟨fun h=>?_,fun h=>?_⟩
 ·refine dd ?_
  (exact ⟨.inl rfl,_,.refl _,congrArg (fun b=>some (C.v (Value.bool b))) (by exact h.symm)⟩)
 ·refine dd ?_
  (exact ⟨.inl rfl,_,.refl _,congrArg (fun b=>some (C.v (Value.bool b))) (by exact h.symm)⟩)
abbrev zl0 (o:Opn):C:=.agg (yL o)
theorem zhi {H:ze} {f:FuncId} {caps:List C} {l:List Opn} (p:Opn->Bool) (hcb:zy Tryz.prog f=true) (hp:∀ r ∈ l,zb Tryz.prog f H ([zl0 r]++caps) (Bo (p r)) H) (hl:l.length < 4611686018427387904):
  zb Tryz.prog 151 H [lP l,.fn f [] caps] (I (match l.findIdx? p with | some i=>(i:Int) | none=> -1)) H:=by
 refine zb.zA (fn:=Tryz.f151) Tryz.func151 rfl ?_
 conv=>whnf
 refine zH.inv (fun n t1 H1=>∃ k,k+n=l.length∧H1=H∧(∀ j,j < k->∀ r,l[j]?= some r->p r=false)∧
   t1=[lP l,.fn f [] caps,.za,.za,I 0,.za,.za,I (l.map yL).length,I k,.za,.za,.za,.za,.za,.za,.za,.za,.za,.za]) l.length ?_ ?_
 ·exact ⟨_,_,zj.mask [0,1,4,7,8] _ _,0,by simp,rfl,by simp,rfl⟩
 rintro n _ _ ⟨k,hk,rfl,hno,rfl⟩
 conv=>whnf
 refine ⟨fun h=>?_,fun h=>?_⟩
 ·conv=>whnf
  have hlt:k < l.length:=by simpa using h
  refine ⟨by omega,yL l[k],by simp [hlt],?_⟩
  conv=>whnf
  rw [hcb]
  refine ⟨_,_,hp _ (List.getElem_mem hlt),?_⟩
  conv=>whnf
  refine ⟨fun h2=>?_,fun h2=>?_⟩
  ·conv=>whnf
   refine .inr ⟨by simp,?_⟩
   conv=>whnf
   refine ⟨.inl rfl,_,.refl _,rfl,?_⟩
   have:l.findIdx? p=some k:=by
    rw [List.findIdx?_eq_some_iff_getElem]
    refine ⟨hlt,h2,fun j hj=>?_⟩
    simp [hno j hj _ (List.getElem?_eq_getElem (by omega))]
   rw [this]
   rfl
  ·conv=>whnf
   refine .inl ⟨rfl,n - 1,_,_,by omega,zj.mask [0,1,4,7,8] _ _,k+1,by omega,rfl,?_,?_⟩
   ·intro j hj r hr
    by_cases hjk:j=k
    ·subst hjk
     rw [List.getElem?_eq_getElem hlt] at hr
     cases hr
     exact h2
    ·exact hno j (by omega) r hr
   ·rw [zo (by omega)];rfl
 ·conv=>whnf
  refine .inr ⟨by simp,?_⟩
  conv=>whnf
  refine ⟨.inl rfl,_,.refl _,rfl,?_⟩
  have:l.findIdx? p=none:=by
   rw [List.findIdx?_eq_none_iff]
   intro x hx
   obtain ⟨j,hj⟩:=List.mem_iff_getElem?.1 hx
   have hjl:=(List.getElem?_eq_some_iff.1 hj).1
   have:¬k < l.length:=by simpa using h
   exact hno j (by omega) x hj
  rw [this]
  rfl
theorem zgY {H:ze} {f:FuncId} {caps:List C} {l:List Opn} (p:Opn->Bool) (hcb:zy Tryz.prog f=true) (hp:∀ r ∈ l,zb Tryz.prog f H ([zl0 r]++caps) (Bo (p r)) H) (hl:l.length < 4611686018427387904):
  zb Tryz.prog 95 H [lP l,.fn f [] caps] (Bo (l.any p)) H:=by
 refine zb.zA (fn:=Tryz.f95) Tryz.func95 rfl ?_
 conv=>whnf
 refine ⟨_,_,zhi p hcb hp hl,?_⟩
 refine dd ?_
 rw [show decide ((match l.findIdx? p with | some i=>((i:Nat):Int) | none=>(-1:Int))≥(0:Int))=l.any p from yX l p]
 refine ⟨fun h=>?_,fun h=>?_⟩ <;> rw [h]
 ·refine dd ?_
  exact ⟨.inl rfl,_,.refl _,rfl,rfl⟩
 ·refine dd ?_
  exact ⟨.inl rfl,_,.refl _,rfl,rfl⟩
theorem zhO (o:Opn):zb Tryz.prog 96 [] [zl0 o] (Bo (zfD o)) []:=by
 refine zb.zk (fn:=Tryz.f96) Tryz.func96 rfl ?_
 conv=>whnf
 refine ⟨fun h1=>?_,fun h1=>?_⟩
 ·refine dd ?_
  (try (repeat ((first | apply ya | apply yb);refine dd ?_)))
  (exact ⟨.inl rfl,_,.refl _,congrArg (fun b=>some (C.v (Value.bool b))) (by unfold zfD;rw [h1];rfl)⟩)
 ·refine dd ?_
  refine ⟨fun h2=>?_,fun h2=>?_⟩
  ·refine dd ?_
   (exact ⟨.inl rfl,_,.refl _,congrArg (fun b=>some (C.v (Value.bool b))) (by unfold zfD;rw [h1];simp at h2;simp [h2])⟩)
  ·refine dd ?_
   (exact ⟨.inl rfl,_,.refl _,congrArg (fun b=>some (C.v (Value.bool b))) (by unfold zfD;rw [h1];simp at h2;simp;omega)⟩)
theorem zhP (n:Int):zb Tryz.prog 98 [] [I n] (Bo (zjI n)) []:=by
 refine zb.zk (fn:=Tryz.f98) Tryz.func98 rfl ?_
 conv=>whnf
 refine ⟨fun h1=>?_,fun h1=>?_⟩
 ·refine dd ?_
  (exact ⟨.inl rfl,_,.refl _,congrArg (fun b=>some (C.v (Value.bool b))) (by exact h1.symm)⟩)
 ·refine dd ?_
  (exact ⟨.inl rfl,_,.refl _,congrArg (fun b=>some (C.v (Value.bool b))) (by exact h1.symm)⟩)
theorem zdc (s:Scr) (hs:WkR s):zb Tryz.prog 45 [] [zju s] (Bo (isS s)) []:=by
 have m1:(s.threads.map xd).length=s.threads.length:=List.length_map ..
 have m2:(s.xP.map Go.Hy.encI).length=s.xP.length:=List.length_map ..
 have b1:=hs.threads
 have b2:=hs.xP
 have hcon:=Go.Wor.wN (H:=[]) (f:=98) (l:=s.xP) (caps:=[]) zjI (by kernel_rfl) (fun r _=>zhP r) (by omega)
 refine zb.zk (fn:=Tryz.f45) Tryz.func45 rfl ?_
 conv=>whnf
 refine ⟨_,_,(zbK s.first hs.first).frame rfl _,?_⟩;refine dd ?_
 refine ⟨fun h1=>?_,fun h1=>?_⟩
 rotate_left
 ·(rw [show isS s=false from by (unfold isS;rw [h1];rfl)]);refine dd ?_;(try (repeat ((first | apply ya | apply yb);refine dd ?_)));exact ⟨.inl rfl,_,.refl _,rfl⟩
 refine dd ?_
 rw [m1]
 refine ⟨fun h2=>?_,fun h2=>?_⟩
 ·(rw [show isS s=false from by (unfold isS;rw [decide_eq_false (show ¬1<=s.threads.length by simp at h2;omega)];simp)]);refine dd ?_;(try (repeat ((first | apply ya | apply yb);refine dd ?_)));exact ⟨.inl rfl,_,.refl _,rfl⟩
 have h2:1<=s.threads.length:=by simp at h2;omega
 refine dd ?_
 rw [m1]
 refine ⟨fun h3=>?_,fun h3=>?_⟩
 ·(rw [show isS s=false from by (unfold isS;rw [decide_eq_false (show ¬s.threads.length<=8 by simp at h3;omega)];simp)]);refine dd ?_;(try (repeat ((first | apply ya | apply yb);refine dd ?_)));exact ⟨.inl rfl,_,.refl _,rfl⟩
 have h3:s.threads.length<=8:=by simp at h3;omega
 refine dd ?_
 rw [m2]
 refine ⟨fun h4=>?_,fun h4=>?_⟩
 ·(rw [show isS s=false from by (unfold isS;rw [decide_eq_false (show ¬s.xP.length<=4000 by simp at h4;omega)];simp)]);refine dd ?_;(try (repeat ((first | apply ya | apply yb);refine dd ?_)));exact ⟨.inl rfl,_,.refl _,rfl⟩
 have h4:s.xP.length<=4000:=by simp at h4;omega
 have e1:isS s=(!s.threads.any zev && !s.xP.any zjI):=by
  unfold isS
  rw [h1,decide_eq_true h2,decide_eq_true h3,decide_eq_true h4]
  rfl
 refine dd ?_
 (try (repeat ((first | apply ya | apply yb);refine dd ?_)))
 rw [m1]
 refine zH.seq s.threads.length (fun k=>[.za,.ref 0 [] 5 0 0,Bo false,.za,.za,.za,.za,.za,.za,.za,.za,.za,.za,.za,.za,.za,.za,.za,.za,.za,.za,.za,.za,.za,.za,.za,.za,.za,zj9 s.threads,I s.threads.length,I k,.za,.za,.za,.za,.za,.za,.za,.za,.za,.za,.za,.za,.za,.za,.za]) (fun k=>[⟨1,54,5,[qk s],0⟩]) (fun k=>∀ j,(h:j < s.threads.length)->j < k->zev s.threads[j]=false) ?_ (by simp) (fun k hk hr=>?_) (fun hr=>?_)
 ·exact cC
 ·obtain ⟨x,hx⟩:∃ x,x=s.threads[k]:=⟨_,rfl⟩
  have hxm:x ∈ s.threads:=by rw [hx];exact List.getElem_mem hk
  have hg:(s.threads.map xd)[k]?= some (xd x):=by rw [List.getElem?_map,List.getElem?_eq_getElem hk,hx];rfl
  have m3:(x.map yL).length=x.length:=List.length_map ..
  have bx:=hs.ops x hxm
  have hcx:=zgY (H:=[]) (f:=96) (l:=x) (caps:=[]) zfD (by kernel_rfl) (fun r _=>zhO r) (by omega)
  have bad:zev x=true->isS s=false:=fun h=>by
   rw [e1,List.any_eq_true.2 ⟨x,hxm,h⟩];rfl
  conv=>whnf
  (refine ⟨fun _=>?_,fun h=>absurd h (by simp;omega)⟩);refine dd ?_
  (refine ⟨by omega,_,by rw [toNat_cast];exact hg,?_⟩);refine dd ?_
  rw [m3]
  refine ⟨fun c1=>?_,fun c1=>?_⟩
  ·rw [bad (by unfold zev;rw [decide_eq_true (show 16 < x.length by simp at c1;omega)];rfl)]
   refine dd ?_
   (try (repeat ((first | apply ya | apply yb);refine dd ?_)))
   (refine .inr ⟨by simp,?_⟩);(conv=>whnf)
   exact ⟨.inl rfl,_,.refl _,rfl⟩
  have eT:zev x=x.any zfD:=by unfold zev;rw [decide_eq_false (by simp at c1;omega)];rfl
  refine dd ?_
  refine ⟨_,_,(hcx).frame rfl _,?_⟩;refine dd ?_
  refine ⟨fun c2=>?_,fun c2=>?_⟩
  ·rw [bad (by rw [eT,c2])]
   refine dd ?_
   (try (repeat ((first | apply ya | apply yb);refine dd ?_)))
   (refine .inr ⟨by simp,?_⟩);(conv=>whnf)
   exact ⟨.inl rfl,_,.refl _,rfl⟩
  ·refine dd ?_
   (try (repeat ((first | apply ya | apply yb);refine dd ?_)))
   refine .inl ⟨rfl,?_,fun i hi hij=>?_⟩
   ·rw [zo (by omega)]
    exact cE 1
   ·by_cases e:i=k
    ·subst e;rw [<- hx,eT,c2]
    ·exact hr i hi (by omega)
 ·have h5:s.threads.any zev=false:=by
   rw [List.any_eq_false]
   intro x hx
   obtain ⟨i,hi,rfl⟩:=List.mem_iff_getElem.1 hx
   simp [hr i hi hi]
  rw [e1,h5]
  (conv=>whnf);(refine ⟨fun h=>absurd h (by simp),fun _=>?_⟩);refine dd ?_;(refine ⟨by simp,?_⟩);(conv=>whnf)
  refine ⟨_,_,(hcon).frame rfl _,?_⟩;refine dd ?_
  refine ⟨fun q=>?_,fun q=>?_⟩
  all_goals
   rw [q]
   refine dd ?_
   (try (repeat ((first | apply ya | apply yb);refine dd ?_)))
   exact ⟨.inl rfl,_,.refl _,rfl⟩
end Go.Wor
namespace Go.Wor
open Go.Ab Go.Proofs Go.Gat Go.Nam Go.Hos Go.Con Go.Sna Go.Pla
open Go.Hy hiding encI
def xc (out:List Str) (n:Str):List Str:=if (out.any fun x=>x == n)=true then out else out++[n]
def yH (out:List Str) (c:Cfg):List Str:=c.zc.foldl xc out
def zhJ (o:Opn):Bool:=decide (o.kind=3) && xY o.config
def kg (out:List Str) (o:Opn):List Str:=if zhJ o=true then yH out o.config else out
def yO (out:List Str) (l:List Opn):List Str:=l.foldl kg out
def j5 (s:Scr):List Str:=s.threads.foldl yO (yH [] s.first)
theorem yi {c:Cfg} (h:xY c=true):c.zc.length<=4:=by
 have h:(zY c).1=0:=by simpa [xY] using h
 unfold zY at h
 split at h
 ·rename_i q;exact absurd h q
 ·rename_i q
  have q:(xg c).1=0:=Decidable.of_not_not q
  unfold xg at q
  split at q
  ·exact absurd (show (6:Int)=0 from q) (by decide)
  ·rename_i z
   simp at z
   omega
theorem zck (out:List Str) (n:Str):(xc out n).length<=out.length+1:=by
 unfold xc
 split
 ·omega
 ·simp
theorem zas {α β:Type} (f:List β->α->List β) (k:Nat):∀ (l:List α) (out:List β),(∀ x ∈ l,∀ o:List β,(f o x).length<=o.length+k)->(l.foldl f out).length<=out.length+k * l.length
 | [],out,_=>by simp
 | x::l,out,h=>by
  have h1:=h x (List.mem_cons_self ..) out
  have h2:=zas f k l (f out x) fun y hy o=>h y (List.mem_cons_of_mem _ hy) o
  rw [List.foldl_cons,List.length_cons,Nat.mul_add]
  omega
theorem zab (out:List Str) {c:Cfg} (h:c.zc.length<=4):(yH out c).length<=out.length+4:=by
 have:=zas xc 1 c.zc out fun n _ o=>zck o n
 unfold yH
 omega
theorem zfz (out:List Str) (o:Opn):(kg out o).length<=out.length+4:=by
 unfold kg
 split
 ·rename_i h
  unfold zhJ at h
  simp only [Bool.and_eq_true] at h
  exact zab out (yi h.2)
 ·omega
theorem zdM (out:List Str) {l:List Opn} (h:l.length<=16):(yO out l).length<=out.length+64:=by
 have:=zas kg 4 l out fun o _ x=>zfz x o
 unfold yO
 omega
theorem vF {α β:Type} (f:β->α->β) (b:β) (l:List α) {k:Nat} (h:k < l.length):(l.take (k+1)).foldl f b=f ((l.take k).foldl f b) l[k]:=by
 rw [List.take_succ_eq_append_getElem h,List.foldl_append]
 rfl
theorem zdt (s:Scr) (X Y:Ob):zb Tryz.prog 130 [X,Y] [zju s] (.fn 183 [] [.ref 2 [] 5 0 0]) [X,Y,⟨1,54,5,[qk s],0⟩]:=by
 refine zb.zA (fn:=Tryz.f130) Tryz.func130 rfl ?_
 conv=>whnf
 exact ⟨.inl rfl,_,.refl _,rfl,rfl⟩
structure WkN (s:Scr):Prop where
 first:xY s.first=true
 threads:s.threads.length<=8
 ops:∀ l ∈ s.threads,l.length<=16
 cfg:∀ l ∈ s.threads,∀ o ∈ l,xU o.config
theorem zcv (s:Scr) (hs:WkN s) (l:Nat) (rec:Ob) (hrec:ja 5 [rec]=true)
  (hy0:∀ (out:List Str) (c:Cfg),out.length<=600->c.zc.length<=4->qF Tryz.prog l ([⟨1,54,5,[qk s],0⟩,⟨1,29,1,[[.gl 3 1 ((out).map qA)]],0⟩,⟨1,54,5,[qk s],0⟩,⟨4,9,1,(out).map qA,0⟩,rec]) [Cf c] (Bo true) ([⟨1,54,5,[qk s],0⟩,⟨1,29,1,[[.gl 3 1 ((yH out c).map qA)]],0⟩,⟨1,54,5,[qk s],0⟩,⟨4,9,1,(yH out c).map qA,0⟩,rec]))
  (hy1:∀ (out:List Str) (c:Cfg) (o:Opn),out.length<=600->c.zc.length<=4->qF Tryz.prog l ([⟨1,54,5,[qk s],0⟩,⟨1,29,1,[[.gl 3 1 ((out).map qA)]],0⟩,⟨1,54,5,[qk s],0⟩,⟨4,9,1,(out).map qA,0⟩,rec]++[⟨1,35,10,[yL (o)],0⟩]) [Cf c] (Bo true) ([⟨1,54,5,[qk s],0⟩,⟨1,29,1,[[.gl 3 1 ((yH out c).map qA)]],0⟩,⟨1,54,5,[qk s],0⟩,⟨4,9,1,(yH out c).map qA,0⟩,rec]++[⟨1,35,10,[yL (o)],0⟩])):
  zb Tryz.prog 183 ([⟨1,54,5,[qk s],0⟩,⟨1,29,1,[[.gl 3 1 (([]).map qA)]],0⟩,⟨1,54,5,[qk s],0⟩,⟨4,9,1,([]).map qA,0⟩,rec]) [.v (.func (.yield l) #[] #[]),.ref 2 [] 5 0 0] (.tup []) ([⟨1,54,5,[qk s],0⟩,⟨1,29,1,[[.gl 3 1 ((j5 s).map qA)]],0⟩,⟨1,54,5,[qk s],0⟩,⟨4,9,1,(j5 s).map qA,0⟩,rec]):=by
 have m1:(s.threads.map xd).length=s.threads.length:=List.length_map ..
 have b1:=hs.threads
 have y0:=hy0 [] s.first (by decide) (yi hs.first)
 refine zb.zA (fn:=Tryz.f183) Tryz.func183 rfl ?_
 conv=>whnf
 refine ⟨_,_,y0,?_⟩
 refine dd ?_
 (repeat ((first | apply ya | apply yb);refine dd ?_))
 rw [m1]
 refine zH.seq s.threads.length (fun k=>[.v (.func (.yield l) #[] #[]),.ref 2 [] 5 0 0,.za,.za,.za,.za,.za,.za,.za,.za,.za,.za,.za,zj9 s.threads,I s.threads.length,I k,.za,.za,.za,.za,.za,.za,.za,.za,.za,.za,.za,.za,.za,.za,.za,.za,.za,.za,.za,.za,.za,.za,.za,.za,.za,.za]) (fun k=>[⟨1,54,5,[qk s],0⟩,⟨1,29,1,[[.gl 3 1 (((s.threads.take k).foldl yO (yH [] s.first)).map qA)]],0⟩,⟨1,54,5,[qk s],0⟩,⟨4,9,1,((s.threads.take k).foldl yO (yH [] s.first)).map qA,0⟩,rec]) (fun k=>((s.threads.take k).foldl yO (yH [] s.first)).length<=4+64 * k) ?_ (by have:=zab [] (yi hs.first);simpa using this) (fun k hk hr=>?_) (fun hr=>?_)
 ·exact cC
 ·obtain ⟨x,hx⟩:∃ x,x=s.threads[k]:=⟨_,rfl⟩
  have hxm:x ∈ s.threads:=by rw [hx];exact List.getElem_mem hk
  have hg:(s.threads.map xd)[k]?= some (xd x):=by rw [List.getElem?_map,List.getElem?_eq_getElem hk,hx];rfl
  have m3:(x.map yL).length=x.length:=List.length_map ..
  have bx:=hs.ops x hxm
  have et:(s.threads.take (k+1)).foldl yO (yH [] s.first)=yO ((s.threads.take k).foldl yO (yH [] s.first)) x:=by rw [vF _ _ _ hk,hx]
  rw [et]
  generalize (s.threads.take k).foldl yO (yH [] s.first)=out at hr ⊢
  conv=>whnf
  (refine ⟨fun _=>?_,fun h=>absurd h (by simp;omega)⟩);refine dd ?_
  (refine ⟨by omega,_,by rw [toNat_cast];exact hg,?_⟩);refine dd ?_
  rw [m3]
  refine zH.seq x.length (fun j=>[.v (.func (.yield l) #[] #[]),.ref 2 [] 5 0 0,.za,.za,.za,.za,.za,.za,.za,.za,.za,.za,.za,zj9 s.threads,I s.threads.length,I k,.za,.za,.za,lP x,I x.length,I j,.za,.za,.za,.za,.za,.za,.za,.za,.za,.za,.za,.za,.za,.za,.za,.za,.za,.za,.za,.za]) (fun j=>[⟨1,54,5,[qk s],0⟩,⟨1,29,1,[[.gl 3 1 (((x.take j).foldl kg out).map qA)]],0⟩,⟨1,54,5,[qk s],0⟩,⟨4,9,1,((x.take j).foldl kg out).map qA,0⟩,rec]) (fun j=>((x.take j).foldl kg out).length<=4+64 * k+4 * j) ?_ (by simpa using hr) (fun j hj hrj=>?_) (fun hrj=>?_)
  ·exact cC
  ·obtain ⟨o,hxo⟩:∃ o,o=x[j]:=⟨_,rfl⟩
   have hom:o ∈ x:=by rw [hxo];exact List.getElem_mem hj
   have hgo:(x.map yL)[j]?= some (yL o):=by rw [List.getElem?_map,List.getElem?_eq_getElem hj,hxo];rfl
   have eo:(x.take (j+1)).foldl kg out=kg ((x.take j).foldl kg out) o:=by rw [vF _ _ _ hj,hxo]
   have ol:=zfz ((x.take j).foldl kg out) o
   rw [eo]
   generalize (x.take j).foldl kg out=out2 at hrj ol ⊢
   have skip:zhJ o=false->kg out2 o=out2:=fun h=>by unfold kg;rw [if_neg (by simp [h])]
   have take:zhJ o=true->kg out2 o=yH out2 o.config:=fun h=>by unfold kg;rw [if_pos h]
   conv=>whnf
   (refine ⟨fun _=>?_,fun h=>absurd h (by simp;omega)⟩);refine dd ?_
   (refine ⟨by omega,_,by rw [toNat_cast];exact hgo,?_⟩);refine dd ?_
   refine ⟨fun c1=>?_,fun c1=>?_⟩
   rotate_left
   ·rw [skip (by unfold zhJ;rw [decide_eq_false (by simpa using c1)];rfl)] at ol ⊢
    refine dd ?_
    (try (repeat ((first | apply ya | apply yb);refine dd ?_)))
    refine .inl ⟨rfl,?_,by omega⟩
    rw [zo (by omega)]
    exact zj.zeI 5 (by (conv=>whnf);(repeat (refine ⟨rfl,?_⟩;(conv=>whnf)));exact trivial) rfl rfl rfl hrec rfl
   have c1:o.kind=3:=by simpa using c1
   refine dd ?_
   refine ⟨_,_,(zbK o.config (hs.cfg x hxm o hom)).frame rfl _,?_⟩;refine dd ?_
   refine ⟨fun c2=>?_,fun c2=>?_⟩
   rotate_left
   ·rw [skip (by unfold zhJ;rw [c2,Bool.and_false])] at ol ⊢
    refine dd ?_
    (try (repeat ((first | apply ya | apply yb);refine dd ?_)))
    refine .inl ⟨rfl,?_,by omega⟩
    rw [zo (by omega)]
    exact zj.zeI 5 (by (conv=>whnf);(repeat (refine ⟨rfl,?_⟩;(conv=>whnf)));exact trivial) rfl rfl rfl hrec rfl
   have y1:=hy1 out2 o.config o (by omega) (yi c2)
   rw [take (by unfold zhJ;rw [c2,decide_eq_true c1];rfl)] at ol ⊢
   refine dd ?_
   refine ⟨_,_,y1,?_⟩
   refine dd ?_
   (repeat ((first | apply ya | apply yb);refine dd ?_))
   refine .inl ⟨rfl,?_,by omega⟩
   rw [zo (by omega)]
   exact zj.zeI 5 (by (conv=>whnf);(repeat (refine ⟨rfl,?_⟩;(conv=>whnf)));exact trivial) rfl rfl rfl hrec rfl
  ·have e:(x.take x.length).foldl kg out=yO out x:=by rw [List.take_length];rfl
   have al:=zdM out bx
   (conv=>whnf);(refine ⟨fun h=>absurd h (by simp),fun _=>?_⟩);refine dd ?_;(refine ⟨by simp,?_⟩);(conv=>whnf)
   rw [e,zo (by omega)]
   refine .inl ⟨rfl,?_,by omega⟩
   exact zj.zeI 5 (by (conv=>whnf);(repeat (refine ⟨rfl,?_⟩;(conv=>whnf)));exact trivial) rfl rfl rfl hrec rfl
 ·have e:(s.threads.take s.threads.length).foldl yO (yH [] s.first)=j5 s:=by rw [List.take_length];rfl
  (conv=>whnf);(refine ⟨fun h=>absurd h (by simp),fun _=>?_⟩);refine dd ?_;(refine ⟨by simp,?_⟩);(conv=>whnf)
  rw [e]
  exact ⟨.inr rfl,_,.refl _,rfl,rfl⟩
end Go.Wor
namespace Go.Wor
open Go.Ab Go.Proofs Go.Gat Go.Nam Go.Hos Go.Con Go.Sna Go.Pla
open Go.Hy hiding encI
abbrev zmL (s:Scr):List C:=zju s:: .ref 0 [] 5 0 0:: .lst 1 0 []:: .ref 1 [] 1 0 0:: .un:: .un:: .un:: .agg (qk s):: .fn 183 [] [.ref 2 [] 5 0 0]::List.replicate 18 .un
theorem zgc (s:Scr) (hs:WkN s):zb Tryz.prog 81 [] [zju s] (lT (j5 s)) []:=by
 refine zb.zk (fn:=Tryz.f81) Tryz.func81 rfl ?_
 conv=>whnf
 refine ⟨_,_,zdt s _ _,?_⟩
 conv=>whnf
 refine ⟨_,zj.zcG 1 0 9 1 rfl rfl (.inl rfl) rfl rfl,?_⟩
 refine ⟨.normal,_,[⟨1,54,5,[qk s],0⟩,⟨1,29,1,[[.gl 3 1 ((j5 s).map qA)]],0⟩,⟨1,54,5,[qk s],0⟩,⟨4,9,1,(j5 s).map qA,0⟩],fun l r h1 h2 h3 h4 h5=>⟨_,_,r,zcv s hs l (obR l r (zmL s)) rfl (fun out c ho hc=>?_) (fun out c o ho hc=>?_),rfl,by rw [h1];decide,rfl,Nat.zero_le _,by rw [h2];trivial,zj.low 4 _ _ rfl rfl rfl⟩,?_⟩
 ·have mc:(c.zc.map qA).length=c.zc.length:=List.length_map ..
  refine qF.zA (id:=4) rfl h1 h2 h3 h4 h5 rfl rfl rfl ?_
  conv=>whnf
  refine ⟨rfl,rfl,?_⟩
  conv=>whnf
  rw [mc]
  refine zH.seq c.zc.length (fun k=>[.za,.ref 0 [] 5 0 0,.za,.ref 1 [] 1 0 0,.za,.za,.za,.za,.za,.za,.za,lT c.zc,I c.zc.length,I k,.za,.za,.za,.za,.za,.za,.za,.za,.za,.za,.za,.za,.za]) (fun k=>let R:=obR l (busy r) (zmL s);[⟨1,54,5,[qk s],0⟩,⟨1,29,1,[[.gl 3 1 (((c.zc.take k).foldl xc out).map qA)]],0⟩,⟨1,54,5,[qk s],0⟩,⟨4,9,1,((c.zc.take k).foldl xc out).map qA,0⟩,R]++[⟨1,33,3,[vB c],0⟩]) (fun k=>((c.zc.take k).foldl xc out).length<=out.length+k) ?_ (by simp) (fun k hk hr=>?_) (fun hr=>?_)
  ·exact cC
  ·obtain ⟨n,hx⟩:∃ n,n=c.zc[k]:=⟨_,rfl⟩
   have hg:(c.zc.map qA)[k]?= some (qA n):=by rw [List.getElem?_map,List.getElem?_eq_getElem hk,hx];rfl
   have et:(c.zc.take (k+1)).foldl xc out=xc ((c.zc.take k).foldl xc out) n:=by rw [vF _ _ _ hk,hx]
   have al:=zck ((c.zc.take k).foldl xc out) n
   dsimp only
   rw [et]
   generalize (c.zc.take k).foldl xc out=o2 at hr al ⊢
   have ml:(o2.map qA).length=o2.length:=List.length_map ..
   conv=>whnf
   (refine ⟨fun _=>?_,fun h=>absurd h (by simp;omega)⟩);refine dd ?_
   (refine ⟨by omega,_,by rw [toNat_cast];exact hg,?_⟩);refine dd ?_
   refine ⟨_,_,(vA o2 n (by omega)).frame rfl _,?_⟩;refine dd ?_
   refine ⟨fun q=>?_,fun q=>?_⟩
   ·rw [show xc o2 n=o2 from if_pos q]
    refine dd ?_
    refine .inl ⟨rfl,?_,by omega⟩
    rw [zo (by omega)]
    exact cE 6
   ·have ea:xc o2 n=o2++[n]:=if_neg (by simp [q])
    rw [ea] at al ⊢
    refine dd ?_
    refine ⟨rfl,.inr rfl,by rw [ml];simp [maxLen];omega,by rw [ml];show _ * 16<=_;simp;omega,?_⟩
    refine dd ?_
    have eb:o2.map qA++[[Tx n]]=(o2++[n]).map qA:=by simp [qA]
    rw [eb]
    refine .inl ⟨rfl,?_,by omega⟩
    rw [zo (by omega)]
    exact cE 6
  ·have e:(c.zc.take c.zc.length).foldl xc out=yH out c:=by rw [List.take_length];rfl
   (conv=>whnf);(refine ⟨fun h=>absurd h (by simp),fun _=>?_⟩);refine dd ?_;(refine ⟨by simp,?_⟩);(conv=>whnf)
   rw [e]
   exact ⟨[.za,.ref 0 [] 5 0 0,.za,.za,.za,.za,.za,.za,.za,.za,.za,.za,.za,.za,.za,.za,.za,.za,.za,.za,.za,.za,.za,.za,.za,.za,.za],_,cE 5,rfl,.inl ⟨rfl,rfl,rfl⟩⟩
 ·have mc:(c.zc.map qA).length=c.zc.length:=List.length_map ..
  refine qF.zA (id:=4) rfl h1 h2 h3 h4 h5 rfl rfl rfl ?_
  conv=>whnf
  refine ⟨rfl,rfl,?_⟩
  conv=>whnf
  rw [mc]
  refine zH.seq c.zc.length (fun k=>[.za,.ref 0 [] 5 0 0,.za,.ref 1 [] 1 0 0,.za,.za,.za,.za,.za,.za,.za,lT c.zc,I c.zc.length,I k,.za,.za,.za,.za,.za,.za,.za,.za,.za,.za,.za,.za,.za]) (fun k=>let R:=obR l (busy r) (zmL s);[⟨1,54,5,[qk s],0⟩,⟨1,29,1,[[.gl 3 1 (((c.zc.take k).foldl xc out).map qA)]],0⟩,⟨1,54,5,[qk s],0⟩,⟨4,9,1,((c.zc.take k).foldl xc out).map qA,0⟩,R]++[⟨1,35,10,[yL o],0⟩,⟨1,33,3,[vB c],0⟩]) (fun k=>((c.zc.take k).foldl xc out).length<=out.length+k) ?_ (by simp) (fun k hk hr=>?_) (fun hr=>?_)
  ·exact cC
  ·obtain ⟨n,hx⟩:∃ n,n=c.zc[k]:=⟨_,rfl⟩
   have hg:(c.zc.map qA)[k]?= some (qA n):=by rw [List.getElem?_map,List.getElem?_eq_getElem hk,hx];rfl
   have et:(c.zc.take (k+1)).foldl xc out=xc ((c.zc.take k).foldl xc out) n:=by rw [vF _ _ _ hk,hx]
   have al:=zck ((c.zc.take k).foldl xc out) n
   dsimp only
   rw [et]
   generalize (c.zc.take k).foldl xc out=o2 at hr al ⊢
   have ml:(o2.map qA).length=o2.length:=List.length_map ..
   conv=>whnf
   (refine ⟨fun _=>?_,fun h=>absurd h (by simp;omega)⟩);refine dd ?_
   (refine ⟨by omega,_,by rw [toNat_cast];exact hg,?_⟩);refine dd ?_
   refine ⟨_,_,(vA o2 n (by omega)).frame rfl _,?_⟩;refine dd ?_
   refine ⟨fun q=>?_,fun q=>?_⟩
   ·rw [show xc o2 n=o2 from if_pos q]
    refine dd ?_
    refine .inl ⟨rfl,?_,by omega⟩
    rw [zo (by omega)]
    exact cE 7
   ·have ea:xc o2 n=o2++[n]:=if_neg (by simp [q])
    rw [ea] at al ⊢
    refine dd ?_
    refine ⟨rfl,.inr rfl,by rw [ml];simp [maxLen];omega,by rw [ml];show _ * 16<=_;simp;omega,?_⟩
    refine dd ?_
    have eb:o2.map qA++[[Tx n]]=(o2++[n]).map qA:=by simp [qA]
    rw [eb]
    refine .inl ⟨rfl,?_,by omega⟩
    rw [zo (by omega)]
    exact cE 7
  ·have e:(c.zc.take c.zc.length).foldl xc out=yH out c:=by rw [List.take_length];rfl
   (conv=>whnf);(refine ⟨fun h=>absurd h (by simp),fun _=>?_⟩);refine dd ?_;(refine ⟨by simp,?_⟩);(conv=>whnf)
   rw [e]
   exact ⟨[.za,.ref 0 [] 5 0 0,.za,.za,.za,.za,.za,.za,.za,.za,.za,.za,.za,.za,.za,.za,.za,.za,.za,.za,.za,.za,.za,.za,.za,.za,.za],_,cE 6,rfl,.inl ⟨rfl,rfl,rfl⟩⟩
 ·conv=>whnf
  exact ⟨.inl rfl,_,.refl _,rfl⟩
end Go.Wor
namespace Go.Wor
open Go.Ab Go.Proofs Go.Gat Go.Nam Go.Hos Go.Con Go.Sna Go.Pla
open Go.Hy hiding encI
def vz (s:Scr):Wor × Int:=if isS s=true then wV (qc s.first).1 (j5 s) s.threads.length else (yx,1)
theorem zd6 {s:Scr} (h:isS s=true):xY s.first=true∧1<=s.threads.length∧s.threads.length<=8∧s.xP.length<=4000∧(∀ l ∈ s.threads,l.length<=16∧∀ o ∈ l,1<=o.kind∧o.kind<=6)∧∀ n ∈ s.xP,0<=n:=by
 unfold isS at h
 simp only [Bool.and_eq_true,decide_eq_true_eq,Bool.not_eq_true',List.any_eq_false] at h
 obtain ⟨⟨⟨⟨⟨h1,h2⟩,h3⟩,h4⟩,h5⟩,h6⟩:=h
 refine ⟨h1,h2,h3,h4,fun l hl=>?_,fun n hn=>?_⟩
 ·have q:=h5 l hl
  unfold zev at q
  simp only [Bool.not_eq_true,Bool.or_eq_false_iff,decide_eq_false_iff_not,List.any_eq_false] at q
  refine ⟨by omega,fun o ho=>?_⟩
  have:=q.2 o ho
  unfold zfD at this
  simp at this
  omega
 ·have:=h6 n hn
  unfold zjI at this
  simp at this
  omega
theorem zc8 (s:Scr) (hs:WkR s) (hc:xY s.first=true->jF s.first) (ho:∀ l ∈ s.threads,∀ o ∈ l,xU o.config) (hn:isS s=true->∀ x ∈ j5 s,x.length < 4000000000000000000):zb Tryz.prog 37 [] [zju s] (.tup [Cw (vz s).1,I (vz s).2]) []:=by
 have m1:(s.threads.map xd).length=s.threads.length:=List.length_map ..
 refine zb.zk (fn:=Tryz.f37) Tryz.func37 rfl ?_
 conv=>whnf
 refine ⟨_,_,(zdc s hs).frame rfl _,?_⟩;refine dd ?_
 refine ⟨fun h1=>?_,fun h1=>?_⟩
 rotate_left
 ·rw [show vz s=(yx,1) from if_neg (by simp [h1])]
  refine dd ?_
  (try (repeat ((first | apply ya | apply yb);refine dd ?_)))
  exact ⟨.inl rfl,_,zj.var 1 rfl rfl rfl (.cons (.refl _) (.cons (.refl _) (.cons (.refl _) (.cons (WC.nil 0 1) (.cons (WC.nil 0 5) (.cons (WC.nil 0 4) (.cons (WC.nil 0 1) (.cons (WC.nil 0 3) .nil)))))))),rfl⟩
 obtain ⟨p1,p2,p3,p4,p5,p6⟩:=zd6 h1
 have sc:=hc p1
 have er:(zY s.first).1=0:=by simpa [xY] using p1
 refine dd ?_
 (try (repeat ((first | apply ya | apply yb);refine dd ?_)))
 refine ⟨_,_,(kh s.first sc).frame rfl _,?_⟩;refine dd ?_
 have eb:(qc s.first).2.1=0:=(zaU s.first).trans er
 have en:vz s=wV (qc s.first).1 (j5 s) s.threads.length:=if_pos h1
 have wn:WkN s:=⟨p1,p3,fun l hl=>(p5 l hl).1,ho⟩
 have nl:(j5 s).length < 1000000000:=by
  have a:=zab [] (yi p1)
  have b:=zas yO 64 s.threads (yH [] s.first) fun l hl o=>by
   have hl2:=(p5 l hl).1
   exact zdM o hl2
  have c:j5 s=s.threads.foldl yO (yH [] s.first):=rfl
  rw [c]
  simp at a
  omega
 have nw:=zi7 (qc s.first).1 (j5 s) s.threads.length (y3 sc) ⟨nl,hn h1⟩
 refine ⟨fun h=>absurd h (by rw [eb];decide),fun _=>?_⟩
 refine dd ?_
 refine .inl ⟨⟨false,[],[],[]⟩,by kernel_rfl,?_⟩;(conv=>whnf)
 refine ⟨_,_,(zgc s wn).frame rfl _,?_⟩;refine dd ?_
 rw [m1]
 refine ⟨_,_,(nw).frame rfl _,?_⟩;refine dd ?_
 rw [en]
 exact ⟨.inl rfl,_,.refl _,rfl⟩
end Go.Wor
namespace Go.Wor
open Go.Ab Go.Proofs Go.Gat Go.Nam Go.Hos Go.Con Go.Sna Go.Pla
open Go.Hy hiding encI
abbrev zlk (c:Cfg):Opn:=⟨3,[],[],[],0,0,0,c⟩
abbrev swB (c:Cfg):Mac:=⟨zlk c,0,0,0,0, -1,0,0,0,0,0,0,0,0,0,false,Beg.zer,zdG⟩
def swW (w:Wor) (c:Cfg):Wor:={ w with current:=w.zd.length,zd:=w.zd++[jS c],zg:=w.zg++[⟨w.current,w.zi,false⟩] }
theorem zhH {N:Nat} {w:Wor} {m:Mac} {v:Ver} {g:Gr} {e:En} {r:Wor × Mac × Eve} (su:xG w m v g e) (t:TyW N w) (tm:TyM m) (hN:N<=100000000) (hk:m.op.kind=3) (h:kN w m=some r):zb Tryz.prog 53 [] [Sw w,Sm m] (Sr r.1 r.2.1 r.2.2) []:=
 zgu hk (zjq su (zdg su) t tm hN hk h)
theorem zkJ {c:Cfg} (sc:jF c):TyM (swB c):=⟨(by decide:i64 (-1)),(by decide:u64 0),(by decide:(-1:Int)<=0∧(0:Int)<=2147483646),by show (0:Nat) < _;decide,by show (0:Nat) < _;decide,(by decide:i64 0),(by decide:i64 0),fun _=>sc,fun _ _=>rfl⟩
theorem ziU {N K:Nat} {w:Wor} {c:Cfg} (st:St N K w) (hc:(zY c).1=0) (sc:jF c) (hN:N+3<=100000000):∃ m',zch 3 w (swB c) (swW w c) m'∧m'.answer=⟨8,w.zd.length,0,0,0,0,0,⟨0,0,0,0,0,0⟩⟩∧St (N+3) (K+3) (swW w c):=by
 have gw:=st.jm
 have gr:=zQ.1 gw.ground
 have q:vW c=0:=(kM c).trans hc
 obtain ⟨v,g,e,su⟩:=zbS gw (m:=swB c) ⟨Int.le_refl _,by show (0:Int) < _;have:=gr.pins.1;omega⟩ rfl rfl rfl rfl rfl rfl rfl rfl rfl
 have lo:zkU w (swB c) v g e:=by constructor <;> dsimp only <;> omega
 obtain ⟨r1,h1,n1⟩:=zc1 st su (zkJ sc) lo rfl
 have e1:kN w (swB c)=some ({ w with current:=w.zd.length,zd:=w.zd++[jS c] },swM (swB c) w.current w.zd.length,{ evO (swB c) 6 3 w.zd.length with yY:=true }):=by
  unfold kN
  rw [if_pos rfl,if_pos q]
 rw [e1] at h1
 obtain rfl:=Option.some.inj h1
 rcases n1.go with ⟨hd,_⟩ | ⟨⟨v1,g1,e1',su1,lo1⟩,_⟩
 ·exact nomatch hd
 obtain ⟨r2,h2,n2⟩:=zc1 n1.st su1 n1.tm lo1 rfl
 have e2:kN { w with current:=w.zd.length,zd:=w.zd++[jS c] } (swM (swB c) w.current w.zd.length)=some ({ w with current:=w.zd.length,zd:=w.zd++[jS c] },{ swM (swB c) w.current w.zd.length with zi:=w.zi,pc:=2 },evO (swM (swB c) w.current w.zd.length) 1 1 w.zi):=by
  unfold kN
  rw [if_neg (by show ¬(1:Int)=0;decide),if_pos rfl]
 rw [e2] at h2
 obtain rfl:=Option.some.inj h2
 rcases n2.go with ⟨hd,_⟩ | ⟨⟨v2,g2,e2',su2,lo2⟩,_⟩
 ·exact nomatch hd
 obtain ⟨r3,h3,n3⟩:=zc1 n2.st su2 n2.tm lo2 rfl
 have e3:kN { w with current:=w.zd.length,zd:=w.zd++[jS c] } { swM (swB c) w.current w.zd.length with zi:=w.zi,pc:=2 }=some (swW w c,{ { swM (swB c) w.current w.zd.length with zi:=w.zi,pc:=2 } with done:=true,answer:=zgz { swM (swB c) w.current w.zd.length with zi:=w.zi,pc:=2 } },{ evO { swM (swB c) w.current w.zd.length with zi:=w.zi,pc:=2 } 2 11 w.current with done:=true,answer:=zgz { swM (swB c) w.current w.zd.length with zi:=w.zi,pc:=2 } }):=by
  have h4:=h3
  unfold kN at h4 ⊢
  rw [if_neg (by show ¬(2:Int)=0;decide),if_neg (by show ¬(2:Int)=1;decide),if_pos rfl] at h4 ⊢
  by_cases z:vj { w with current:=w.zd.length,zd:=w.zd++[jS c] } { swM (swB c) w.current w.zd.length with zi:=w.zi,pc:=2 }=true
  ·rw [if_pos z] at h4
   cases h4
  ·rw [if_neg z]
   rfl
 rw [e3] at h3
 obtain rfl:=Option.some.inj h3
 refine ⟨_,.more (zhH su st.ty (zkJ sc) (by omega) rfl e1) (by show (6:Int)≠0;decide) rfl (.more (zhH su1 n1.st.ty n1.tm (by omega) rfl e2) (by show (1:Int)≠0;decide) rfl (.last (zhH su2 n2.st.ty n2.tm (by omega) rfl e3) (by show (2:Int)≠0;decide) rfl)),rfl,n3.st.mono (by omega) (by omega)⟩
def w5 (w:Wor) (c:Cfg):Nat->Wor
 | 0=>w
 | n+1=>swW (w5 w c n) c
end Go.Wor
namespace Go.Wor
open Go.Ab Go.Proofs Go.Gat Go.Nam Go.Hos Go.Con Go.Sna Go.Pla
open Go.Hy hiding encI
theorem zkp {l:List Str} {i:Nat} {s:Str} (h:l[i]?= some s) (hn:zZ ((l.take i).map xN) s < 0):zZ (l.map xN) s=i:=by
 have hlt:=(List.getElem?_eq_some_iff.1 h).1
 have h0:((l.take i).map xN).findIdx? (fun r=>r.name == s)=none:=by
  unfold zZ at hn
  split at hn
  ·omega
  ·rename_i q;exact q
 have e:(l.map xN).findIdx? (fun r=>r.name == s)=some i:=by
  rw [List.findIdx?_eq_some_iff_getElem]
  refine ⟨by simpa using hlt,?_,fun j hj=>?_⟩
  ·have:=(List.getElem?_eq_some_iff.1 h).2
   simp [xN,this]
  ·have q:=List.findIdx?_eq_none_iff.1 h0 (xN (l[j]'(by omega))) (List.mem_map.2 ⟨_,List.mem_take_iff_getElem.2 ⟨j,by omega,rfl⟩,rfl⟩)
   simpa using q
 unfold zZ
 rw [e]
theorem zmn {s:Sna} {l:List Str} {n:Int} {w:Wor} {N:Nat} (h:wV s l n=(w,0)) (hs:yn s) (hl:l.length<=N) (hN:1<=N) (hn:∀ x ∈ l,x.length<=reachBytes):
  St N 0 w∧Idl w∧w.zi=0∧w.zg=[]∧w.zd=[(zS s).1]∧w.current=0∧(w.pins.length:Int)=n:=by
 unfold wV at h
 split at h
 ·have:=congrArg Prod.snd h;exact absurd (show (1:Int)=0 from this) (by decide)
 rename_i q
 have hw:=(congrArg Prod.fst h).symm
 have hw:w=⟨0,0,0,List.replicate n.toNat 0,[(zS s).1],l.map xN,List.replicate n.toNat [0,0,0,0,0,0],[]⟩:=hw
 have q1:yE s=true:=by
  cases z:yE s with
  | true=>rfl
  | false=>exact absurd (.inl z) q
 have q2:1<=n:=by omega
 have q3:n<=8:=by omega
 have q4:∀ i x,l[i]?= some x->jG x=true∧zZ ((l.take i).map xN) x < 0:=fun i x hx=>by
  have z:vN l=true:=by
   cases z:vN l with
   | true=>rfl
   | false=>exact absurd (.inr (.inr (.inr z))) q
  have:=List.all_eq_true.1 z i (List.mem_range.2 (List.getElem?_eq_some_iff.1 hx).1)
  unfold za7 at this
  rw [hx] at this
  simpa using this
 subst hw
 have hc:(zS s).1=⟨s,s.zf.map vH,false⟩:=by unfold zS;rw [if_pos q1]
 have fr:∀ g ∈ (zS s).1.zm,g.jV=0∧∀ e ∈ g.ends,e.zr=0∧e.ok:=fun g hg=>by
  rw [hc] at hg
  obtain ⟨x,hx,rfl⟩:=List.mem_map.1 (show g ∈ s.zf.map vH from hg)
  refine ⟨rfl,fun e he=>?_⟩
  rw [List.eq_of_mem_replicate (show e ∈ List.replicate x.zV.length (jL x) from he)]
  have f:=xK ((qY q1).all x hx)
  exact f.2.2
 have one:∀ v,v ∈ [(zS s).1]->v=(zS s).1:=fun v hv=>List.mem_singleton.1 hv
 have lz:∀ x ∈ l.map xN,∃ y ∈ l,x=xN y:=fun x hx=>by
  obtain ⟨y,hy,e⟩:=List.mem_map.1 hx
  exact ⟨y,hy,e.symm⟩
 refine ⟨⟨⟨zQ.2 ⟨?_,⟨?_,?_⟩,⟨Int.le_refl _,by show (0:Int)<=1000000000000;decide⟩,.inl rfl,?_⟩,⟨Int.le_refl _,by show (0:Int) < 1;decide⟩,(by show Go.Lim.isV []=true;rfl),(fun r hr=>nomatch hr),?_,?_⟩,⟨by show 1<=N;omega,by simpa using hl,by show 0<=N;omega,?_,?_⟩,⟨?_,?_⟩⟩,⟨rfl,?_,?_,?_⟩,rfl,rfl,rfl,rfl,?_⟩
 ·simp only [List.length_replicate];omega
 ·simp
 ·intro r hr;rw [List.eq_of_mem_replicate hr];rfl
 ·intro p hp;rw [List.eq_of_mem_replicate hp];exact ⟨Int.le_refl _,by show (0:Int)<=0+1;decide⟩
 ·intro i v hv
  have hi:i=0:=by have:=(List.getElem?_eq_some_iff.1 hv).1;simp at this;omega
  subst hi
  cases hv
  exact ⟨zcp q1,by rw [hc];rfl⟩
 ·intro i x hx
  obtain ⟨y,hy,rfl⟩:=Option.map_eq_some_iff.1 ((List.getElem?_map ..).symm.trans hx)
  have z:=q4 i y hy
  refine ⟨zcN z.1 (Int.le_refl _) rfl,zkp hy z.2⟩
 ·intro v hv
  rw [one v hv]
  exact ⟨by rw [hc];exact hs,fun g hg=>⟨by rw [(fr g hg).1];decide,fun e he=>((fr g hg).2 e he).2⟩⟩
 ·intro x hx
  obtain ⟨y,hy,rfl⟩:=lz x hx
  exact ⟨hn y hy,by show i64 0;decide⟩
 ·intro x hx
  obtain ⟨y,hy,rfl⟩:=lz x hx
  show (0:Int)<=_
  decide
 ·intro v hv g hg e he
  rw [one v hv] at hg
  rw [((fr g hg).2 e he).1]
  decide
 ·intro p hp;exact List.eq_of_mem_replicate hp
 ·intro v hv e he
  rw [one v hv] at he
  obtain ⟨g,hg,he⟩:=List.mem_flatMap.1 he
  exact ((fr g hg).2 e he).1
 ·intro x hx
  obtain ⟨y,hy,rfl⟩:=lz x hx
  rfl
 ·simp only [List.length_replicate];omega
theorem Idl.swap {w:Wor} (h:Idl w) {c:Cfg} (hc:(zY c).1=0):Idl (swW w c):=by
 have hb:=wM hc
 have hsw:jS c=⟨(qc c).1,(qc c).1.zf.map vH,false⟩:=by unfold jS zS;rw [if_pos hb]
 refine ⟨h.lock,h.pins,fun v hv e he=>?_,h.lis⟩
 rcases List.mem_append.1 (show v ∈ w.zd++[jS c] from hv) with hv | hv
 ·exact h.ends v hv e he
 ·rw [List.mem_singleton.1 hv,hsw] at he
  obtain ⟨g,hg,he⟩:=List.mem_flatMap.1 he
  obtain ⟨x,hx,rfl⟩:=List.mem_map.1 (show g ∈ (qc c).1.zf.map vH from hg)
  rw [List.eq_of_mem_replicate (show e ∈ List.replicate x.zV.length (jL x) from he)]
  exact (xK ((qY hb).all x hx)).2.2.1
structure Swd (N K:Nat) (n:Nat) (w:Wor):Prop where
 st:St N K w
 idl:Idl w
 zi:w.zi=0
 xj:w.zd.length=n+1
 cur:w.current=n
 lim:w.zg.map (·.version)=(List.range n).map fun i=>((i:Nat):Int)
theorem Swd.next {N K n:Nat} {w:Wor} {c:Cfg} (s:Swd N K n w) (hc:(zY c).1=0) (sc:jF c) (hN:N+3<=100000000):
  ∃ m',zch 3 w (swB c) (swW w c) m'∧m'.answer=⟨8,(n+1:Nat),0,0,0,0,0,⟨0,0,0,0,0,0⟩⟩∧Swd (N+3) (K+3) (n+1) (swW w c):=by
 obtain ⟨m',h1,h2,h3⟩:=ziU s.st hc sc hN
 refine ⟨m',h1,by rw [h2,s.xj],h3,s.idl.swap hc,s.zi,?_,?_,?_⟩
 ·show (w.zd++[jS c]).length=_
  rw [List.length_append,s.xj]
  rfl
 ·show ((w.zd.length:Nat):Int)=_
  rw [s.xj]
 ·show (w.zg++[(⟨w.current,w.zi,false⟩:Ret)]).map (fun r:Ret=>r.version)=_
  rw [List.map_append,s.lim,List.range_succ,List.map_append,s.cur]
  rfl
theorem zld (w:Wor):(xo w).zg.map (·.version)=w.zg.map (·.version):=by
 show (w.zg.map (goR w)).map (·.version)=_
 rw [List.map_map]
 refine List.map_congr_left fun r _=>?_
 show (goR w r).version=r.version
 unfold goR
 split <;> rfl
theorem zcM (w:Wor):∀ n,(qH n w).zg.map (·.version)=w.zg.map (·.version)
 | 0=>rfl
 | n+1=>by
  show (xn (qH n w)).zg.map _=_
  unfold xn
  split
  ·rw [zld,zcM w n]
  ·exact zcM w n
theorem zbi (w:Wor):∀ n,(qH n w).zd.length=w.zd.length
 | 0=>rfl
 | n+1=>by
  show (xn (qH n w)).zd.length=_
  unfold xn
  split
  ·show ((qH n w).zd.mapIdx _).length=_
   rw [List.length_mapIdx,zbi w n]
  ·exact zbi w n
theorem ziQ {n:Nat} {y:Wor} (g:qK y) (q:Qui y) (hl:y.zg.map (·.version)=(List.range n).map fun i=>((i:Nat):Int)) (i:Nat) (v:Ver) (hv:y.zd[i]?= some v):v.jn=decide (i < n):=by
 rw [(g.ver i v hv).2,Bool.eq_iff_iff,yh _ _ fun a b x z ha hb he=>vm g.zg a b x z ha hb he,decide_eq_true_iff]
 constructor
 ·rintro ⟨r,hr,h1,_⟩
  have:(r.version) ∈ y.zg.map (·.version):=List.mem_map.2 ⟨r,hr,rfl⟩
  rw [hl] at this
  obtain ⟨j,hj,e⟩:=List.mem_map.1 this
  have:=List.mem_range.1 hj
  omega
 ·intro hi
  have:((i:Nat):Int) ∈ y.zg.map (·.version):=by rw [hl];exact List.mem_map.2 ⟨i,List.mem_range.2 hi,rfl⟩
  obtain ⟨r,hr,e⟩:=List.mem_map.1 this
  exact ⟨r,hr,e,q.gone r hr⟩
theorem yS {n:Nat}:∀ (k:Nat) (l:List Ver),l.length=n+1->(∀ (i:Nat) v,l[i]?= some v->v.jn=decide (i < n))->k<=n+1->(l.take k).countP (·.jn)=min k n
 | 0,l,_,_,_=>by simp
 | k+1,l,hl,h,hk=>by
  have ih:=yS k l hl h (by omega)
  have hlt:k < l.length:=by omega
  rw [List.take_succ_eq_append_getElem hlt,List.countP_append,ih,List.countP_singleton,h k _ (List.getElem?_eq_getElem hlt)]
  by_cases q:k < n
  ·rw [decide_eq_true q];simp;omega
  ·rw [decide_eq_false q];simp;omega
end Go.Wor
namespace Go.Wor
open Go.Ab Go.Proofs Go.Gat Go.Nam Go.Hos Go.Con Go.Sna Go.Pla Go.Dep
open Go.Hy hiding encI
theorem WC.deep (k:Nat) {c c':C} (hp:kE k c'=true) (he:jd k c=jd k c'):WC c c':=fun E y h=>wP k hp (he ▸ zeO k h)
theorem zlr {s:Str} (h:zb2 s=true):s.length<=34:=by
 unfold zb2 zby at h
 split at h
 ·simp only [Bool.and_eq_true,decide_eq_true_eq,List.length_drop] at h
  omega
 ·simp only [Bool.or_eq_true,Bool.and_eq_true,decide_eq_true_eq,beq_iff_eq] at h
  rcases h with h | h
  ·rw [h];decide
  ·omega
theorem zko {s:Str} (h:vr s=true):s.length<=32:=by
 unfold vr at h
 simp only [Bool.and_eq_true,decide_eq_true_eq] at h
 exact h.1.1.2
theorem zbJ {c:Cfg} (h:xY c=true) (hk:xU c):jF c:=by
 have h:(zY c).1=0:=by simpa [xY] using h
 obtain ⟨z1,_,_,z4⟩:=zbo h
 have f:c.zc.length<=4∧c.zp.length<=8∧c.zf.length<=4:=by
  have q:=z1
  unfold xg at q
  split at q
  ·exact absurd (show (6:Int)=0 from q) (by decide)
  ·rename_i z
   simp at z
   omega
 refine ⟨⟨by omega,hk.zc.2⟩,⟨by omega,fun r hr=>?_⟩,⟨by omega,hk.zf.2⟩⟩
 obtain ⟨i,hi⟩:=List.mem_iff_getElem?.1 hr
 have e:=zg6 z4 i (List.getElem?_eq_some_iff.1 hi).1
 unfold zb3 at e
 rw [hi] at e
 have k:=hk.zp.2 r hr
 dsimp only at e
 split at e
 ·exact absurd e (by decide)
 split at e
 ·exact absurd e (by decide)
 rename_i p1
 split at e
 ·exact absurd e (by decide)
 rename_i p2
 have a:=zlr (s:=r.host) (by cases z:zb2 r.host with | true=>rfl | false=>exact absurd z p1)
 have b:=zko (s:=r.path) (by cases z:vr r.path with | true=>rfl | false=>exact absurd z p2)
 exact ⟨k.1,by omega,by omega,k.2.2.2⟩
theorem zmE {c:Cfg} (h:c.ok):xU c:=by
 have r:reachBytes < 1000000000000000:=by decide
 refine ⟨⟨by have:=h.1.2;omega,fun x hx=>by have:=h.1.1 x hx;unfold zfy at this;omega⟩,⟨by have:=h.2.1.2;omega,fun x hx=>by have:=h.2.1.1 x hx;unfold Rou.ok at this;omega⟩,⟨by have:=h.2.2.2;omega,fun x hx=>by have:=h.2.2.1 x hx;unfold Clu.ok at this;omega⟩⟩
theorem zjA {out:List Str} {c:Cfg} {P:Str->Prop} (ho:∀ x ∈ out,P x) (hc:∀ x ∈ c.zc,P x):∀ x ∈ yH out c,P x:=by
 have key:∀ (l:List Str) (o:List Str),(∀ x ∈ o,P x)->(∀ x ∈ l,P x)->∀ x ∈ l.foldl xc o,P x:=by
  intro l
  induction l with
  | nil=>intro o ho _ x hx;exact ho x hx
  | cons a l ih=>
   intro o ho hl x hx
   refine ih (xc o a) (fun y hy=>?_) (fun y hy=>hl y (List.mem_cons_of_mem _ hy)) x hx
   unfold xc at hy
   split at hy
   ·exact ho y hy
   ·rcases List.mem_append.1 hy with hy | hy
    ·exact ho y hy
    ·rw [List.mem_singleton.1 hy];exact hl a (List.mem_cons_self ..)
 exact key c.zc out ho hc
abbrev wY (c:Cfg):Scr:=⟨c,[[]],[]⟩
theorem zkC {w:Wor} (hg:qK w) (h1:w.zg.length<=100) (h2:w.zc.length<=100):qO w<=5000:=by
 have gr:=zQ.1 hg.ground
 have q:∀ r ∈ w.zg.drop 0,qR w r<=18:=fun r _=>by
  unfold qR
  split
  ·rename_i v hv
   have:=kn (hg.ver _ v hv).1
   omega
  ·omega
 have:=zmK (qR w) 18 (w.zg.drop 0) q
 rw [List.drop_zero] at this
 have p:=gr.pins.2
 unfold qO zbe
 rw [List.drop_zero]
 omega
theorem quietSwaps_sound (c:Cfg) (n:Int) (hc:c.ok):zb Tryz.prog 8 [] [Cf c,I n] (Bo true) []:=by
 have kc:=zmE hc
 have wb:WkB (wY c):=⟨⟨by have:=kc.zc.1;show c.zc.length < _;omega,by have:=kc.zp.1;show c.zp.length < _;omega,by have:=kc.zf.1;show c.zf.length < _;omega⟩,by show (1:Nat) < _;decide,fun l hl=>by rw [List.mem_singleton.1 hl];exact ⟨by decide,fun _ h=>nomatch h⟩⟩
 have wr:WkR (wY c):=⟨kc,by show (1:Nat) < _;decide,fun l hl=>by rw [List.mem_singleton.1 hl];decide,by show (0:Nat) < _;decide⟩
 have rb:reachBytes < 1000000000000000:=by decide
 have nm:∀ x ∈ j5 (wY c),x.length<=reachBytes:=zjA (out:=[]) (fun _ h=>nomatch h) fun x hx=>hc.1.1 x hx
 have b1:=zc8 (wY c) wr (fun h=>zbJ h kc) (fun l hl=>by rw [List.mem_singleton.1 hl];exact fun _ h=>nomatch h) fun _ x hx=>by have:=nm x hx;omega
 have b2:=zgP (wY c) wb
 have cv:WCs (vB c++[.lst 1 1 [[.lst 1 10 []]],.lst 1 0 []]) (qk (wY c)):=.cons (.refl _) (.cons (.refl _) (.cons (.refl _) (.cons (WC.deep 9 rfl rfl) (.cons (WC.deep 9 rfl rfl) .nil))))
 have b1:=b1.pre (.cons (WC.zl7 cv) .nil)
 have b2:=b2.pre (.cons (WC.zl7 cv) .nil)
 refine zb.zk (fn:=Tryz.f8) Tryz.func8 rfl ?_
 conv=>whnf
 refine ⟨_,_,(b1).frame rfl _,?_⟩;refine dd ?_
 refine ⟨_,_,(b2).frame rfl _,?_⟩;refine dd ?_
 refine ⟨fun h1=>?_,fun h1=>?_⟩
 ·(refine dd ?_;(try (repeat ((first | apply ya | apply yb);refine dd ?_)));refine ⟨_,_,(jZ).frame rfl _,?_⟩;refine dd ?_;(repeat ((first | apply ya | apply yb);refine dd ?_));exact ⟨.inl rfl,_,.refl _,rfl⟩)
 refine dd ?_
 refine ⟨fun h2=>?_,fun h2=>?_⟩
 ·(refine dd ?_;(try (repeat ((first | apply ya | apply yb);refine dd ?_)));refine ⟨_,_,(jZ).frame rfl _,?_⟩;refine dd ?_;(repeat ((first | apply ya | apply yb);refine dd ?_));exact ⟨.inl rfl,_,.refl _,rfl⟩)
 have h2:(vz (wY c)).2=0:=by simpa using h2
 refine dd ?_
 refine ⟨fun h3=>?_,fun h3=>?_⟩
 ·(refine dd ?_;(try (repeat ((first | apply ya | apply yb);refine dd ?_)));refine ⟨_,_,(jZ).frame rfl _,?_⟩;refine dd ?_;(repeat ((first | apply ya | apply yb);refine dd ?_));exact ⟨.inl rfl,_,.refl _,rfl⟩)
 have h3:0<=n:=by simpa using h3
 refine dd ?_
 refine ⟨fun h4=>?_,fun h4=>?_⟩
 ·(refine dd ?_;(try (repeat ((first | apply ya | apply yb);refine dd ?_)));refine ⟨_,_,(jZ).frame rfl _,?_⟩;refine dd ?_;(repeat ((first | apply ya | apply yb);refine dd ?_));exact ⟨.inl rfl,_,.refl _,rfl⟩)
 have h4:n<=12:=by simpa using h4
 obtain ⟨N,rfl⟩:∃ N:Nat,n=N:=⟨n.toNat,by omega⟩
 obtain ⟨w0,hw0⟩:∃ w0,vz (wY c)=(w0,0):=⟨(vz (wY c)).1,by rw [<- h2]⟩
 have hS:isS (wY c)=true:=by
  cases z:isS (wY c) with
  | true=>rfl
  | false=>
   have:vz (wY c)=(yx,1):=if_neg (by simp [z])
   rw [this] at hw0
   exact absurd (congrArg Prod.snd hw0) (by show ¬(1:Int)=0;decide)
 have hr:=(zd6 hS).1
 have sc:jF c:=zbJ hr kc
 have hck:(zY c).1=0:=by simpa [xY] using hr
 have hnew:wV (qc c).1 (j5 (wY c)) ((1:Nat):Int)=(w0,0):=(if_pos hS).symm.trans hw0
 have nl:(j5 (wY c)).length<=4:=by have:=zab [] (yi hr);show (yH [] c).length<=4;simpa using this
 obtain ⟨st0,id0,ep0,li0,ve0,cu0,pi0⟩:=zmn (N:=4) hnew (y3 sc) nl (by decide) nm
 have s0:Swd 4 0 0 w0:=⟨st0,id0,ep0,by rw [ve0];rfl,cu0,by rw [li0];rfl⟩
 have bgs:zb Tryz.prog 18 [] [I 0,.agg (yL (zlk c)),lA []] (Sm (swB c)) []:=by
  have h:=Beg.zbk 0 (zlk c) [] (by decide)
  have e:Beg.wJ 0 (zlk c) []=swB c:=by rw [zfE];rfl
  rw [e] at h
  exact h
 rw [show (vz (wY c)).1=w0 from by rw [hw0]]
 refine dd ?_
 (try (repeat ((first | apply ya | apply yb);refine dd ?_)))
 refine zH.seq N (fun k=>(.za::I N:: .ref 0 [] 3 0 0:: .za::Bo false:: .za::.ref 2 [] 8 0 0:: .za::I k:: .za::.za::.za::.za::.za::.za::.za::.za::.za::.za::.za::.za::.za::.za::.za::.za::.za::.za::.za::.za::.za::.za::.za::.za::.za::.za::.za::.za::.za::.za::.za::.za::.za::.za::.za::.za::.za::.za::.za::.za::.za::.za::.za::.za::.za::.za::.za::.za::.za::.za::.za::.za::.za::.za::.za::.za::.za::.za::.za::.za::.za::.za::.za::.za::.za::.za::.za::.za::.za::.za::.za::.za::.za::.za::.za::.za::.za::.za::.za::.za::.za::.za::.za::.za::.za::.za::.za::.za::.za::.za::.za::.za::.za::.za::.za::.za::.za::.za::.za::.za::.za::.za::.za::.za::.za::[])) (fun k=>[⟨1,33,3,[vB c],0⟩,⟨1,54,5,[vB c++[.lst 1 1 [[.lst 1 10 []]],.lst 1 0 []]],0⟩,⟨1,28,8,[z7 (w5 w0 c k)],0⟩]) (fun k=>Swd (4+3 * k) (3 * k) k (w5 w0 c k)) ?_ s0 (fun k hk s=>?_) (fun s=>?_)
 ·exact cC
 ·obtain ⟨m',g1,g2,s'⟩:=s.next hck sc (by omega)
  have ra:=(kI (given:=[]) bgs g1 (by decide)).pre (.cons (.refl _) (.cons (.refl _) (.cons (.refl _) (.cons (WC.nil 0 13) .nil))))
  rw [g2] at ra
  conv=>whnf
  (refine ⟨fun _=>?_,fun h=>absurd h (by simp;omega)⟩);refine dd ?_
  refine ⟨_,_,(ra).frame rfl _,?_⟩;refine dd ?_
  (repeat ((first | apply ya | apply yb);refine dd ?_))
  rw [zo (by omega)]
  refine ⟨fun h=>absurd h (by simp),fun _=>?_⟩;refine dd ?_
  rw [zo (by omega)]
  refine .inl ⟨rfl,?_,by rw [Nat.mul_add,<- Nat.add_assoc];exact s'⟩
  exact cE 3
 have bs:=(Nat.mul_le_mul_left 3 (show N<=12 by omega))
 have st:St 60 (3 * N) (w5 w0 c N):=s.st.mono (by omega) (Nat.le_refl _)
 have ll:=s.st.ty.lim
 have lb:=s.st.ty.lis
 have few:=zkC st.jm (by omega) (by omega)
 have ok:=zec st.jm st.ty (by decide)
 have w1:qw (w5 w0 c N)=true:=qG.2 st.jm
 obtain ⟨K3,s3⟩:=zaM st 3 (by omega)
 have ok3:=zec s3.jm s3.ty (by omega)
 have w3:qw (qH 3 (w5 w0 c N))=true:=qG.2 s3.jm
 have qy:=ziY s.idl st (by omega) (by rw [s.zi];decide)
 have fy:=ziQ s3.jm qy ((zcM _ 3).trans s.lim)
 have vy:(qH 3 (w5 w0 c N)).zd.length=N+1:=(zbi _ 3).trans s.xj
 have cy:(qH 3 (w5 w0 c N)).current=N:=(zfO _ 3).trans s.cur
 have ss:zb Tryz.prog 32 [] [Sw (w5 w0 c N),I 3] (.tup [Sw (qH 3 (w5 w0 c N)),I 0]) []:=by
  have:=vw (w:=w5 w0 c N) (K:=3 * N) 3 ok fun _=>⟨st,by omega⟩
  have e:yZ (w5 w0 c N) 3=(qH 3 (w5 w0 c N),0):=if_pos ⟨w1,by decide,by decide⟩
  rw [e] at this
  exact this
 have iy:=xE _ (zfw ok3)
 rw [zlb.2 qy] at iy
 generalize qH 3 (w5 w0 c N)=y at *
 have my:(y.zd.map qm).length=y.zd.length:=List.length_map ..
 refine ⟨fun h=>absurd h (by simp),fun _=>?_⟩
 refine dd ?_
 refine ⟨by simp,?_⟩
 conv=>whnf
 refine ⟨_,_,(ss).frame rfl _,?_⟩;refine dd ?_
 (repeat ((first | apply ya | apply yb);refine dd ?_))
 rw [my,vy,zo (by omega)]
 refine ⟨fun h=>absurd h (by simp),fun _=>?_⟩;refine dd ?_
 refine ⟨_,_,(iy).frame rfl _,?_⟩;refine dd ?_
 (repeat ((first | apply ya | apply yb);refine dd ?_))
 refine zH.seq y.zd.length (fun k=>(.za::I N:: .za::.za::Bo false:: .za::.za::.za::.za::.za::.za::.za::.ref 3 [] 8 0 0:: .za::I ((y.zd.take k).countP (·.jn):Nat)::I k:: .za::.za::.za::.za::.za::.za::.za::.za::.za::.za::.za::.za::.za::.za::.za::.za::.za::.za::.za::.za::.za::.za::.za::.za::.za::.za::.za::.za::.za::.za::.za::.za::.za::.za::.za::.za::.za::.za::.za::.za::.za::.za::.za::.za::.za::.za::.za::.za::.za::.za::.za::.za::.za::.za::.za::.za::.za::.za::.za::.za::.za::.za::.za::.za::.za::.za::.za::.za::.za::.za::.za::.za::.za::.za::.za::.za::.za::.za::.za::.za::.za::.za::.za::.za::.za::.za::.za::.za::.za::.za::.za::.za::.za::.za::.za::.za::.za::.za::[])) (fun k=>[⟨1,33,3,[vB c],0⟩,⟨1,54,5,[vB c++[.lst 1 1 [[.lst 1 10 []]],.lst 1 0 []]],0⟩,⟨1,28,8,[z7 (w5 w0 c N)],0⟩,⟨1,28,8,[z7 (y)],0⟩]) (fun k=>True) ?_ trivial (fun k hk _=>?_) (fun _=>?_)
 ·exact cC
 ·obtain ⟨v,hx⟩:∃ v,y.zd[k]?= some v:=⟨_,List.getElem?_eq_getElem hk⟩
  have hg:(y.zd.map qm)[k]?= some (qm v):=by rw [List.getElem?_map,hx];rfl
  have c1:=yS k y.zd vy fy (by omega)
  have c2:=yS (k+1) y.zd vy fy (by omega)
  have fv:=fy k v hx
  conv=>whnf
  rw [my]
  (refine ⟨fun _=>?_,fun h=>absurd h (by simp;omega)⟩);refine dd ?_
  (refine ⟨by omega,_,by rw [toNat_cast];exact hg,?_⟩);refine dd ?_
  rw [fv]
  by_cases q:k < N
  ·rw [decide_eq_true q]
   (repeat ((first | apply ya | apply yb);refine dd ?_))
   rw [zo (by omega),show ((y.zd.take k).countP (·.jn))+1=(y.zd.take (k+1)).countP (·.jn) from by omega,zo (by omega)]
   refine .inl ⟨rfl,?_,trivial⟩
   exact cE 4
  ·rw [decide_eq_false q]
   (repeat ((first | apply ya | apply yb);refine dd ?_))
   rw [show ((y.zd.take k).countP (·.jn))=(y.zd.take (k+1)).countP (·.jn) from by omega,zo (by omega)]
   refine .inl ⟨rfl,?_,trivial⟩
   exact cE 4
 ·have c1:=yS (N+1) y.zd vy fy (Nat.le_refl _)
  conv=>whnf
  rw [my]
  refine ⟨fun h=>absurd h (by simp),fun _=>?_⟩
  refine dd ?_
  refine ⟨by simp,?_⟩
  conv=>whnf
  refine ⟨_,_,(jZ).frame rfl _,?_⟩;refine dd ?_
  (repeat ((first | apply ya | apply yb);refine dd ?_))
  rw [vy,c1,show min (N+1) N=N from by omega]
  refine ⟨fun _=>?_,fun h=>absurd h (by simp)⟩;refine dd ?_
  rw [cy]
  refine ⟨fun _=>?_,fun h=>absurd h (by simp)⟩;refine dd ?_
  refine ⟨_,_,(y6 y ok3).frame rfl _,?_⟩;refine dd ?_
  rw [w3]
  (try (repeat ((first | apply ya | apply yb);refine dd ?_)))
  exact ⟨.inl rfl,_,.refl _,rfl⟩
end Go.Wor
