import Derived.Test.YtgllekalddijbaaGreatTE
set_option linter.unusedVariables false
set_option linter.unusedSimpArgs false
set_option linter.unusedSectionVars false
set_option maxRecDepth 100000
set_option maxHeartbeats 4000000
namespace Go.Sna
open Go.Ab Go.Proofs Go.Hy Go.Gat Go.Nam Go.Hos Go.Con
theorem zhp (s x:Str):zb Tryz.prog 180 [⟨1,9,1,[[Tx s]],0⟩] [Tx x,.ref 0 [] 1 0 0] (Bo (x == s)) [⟨1,9,1,[[Tx s]],0⟩]:=by
 refine zb.zA (fn:=Tryz.f180) Tryz.func180 rfl ?_
 conv=>whnf
 refine ⟨fun h=>?_,fun h=>?_⟩ <;> rw [h]
 ·conv=>whnf
  exact ⟨.inl rfl,_,.refl _,rfl,rfl⟩
 ·conv=>whnf
  exact ⟨.inl rfl,_,.refl _,rfl,rfl⟩
theorem zgW (s:Str) (x:Clu):zb Tryz.prog 182 [⟨1,9,1,[[Tx s]],0⟩,⟨1,148,4,[jJ x],0⟩] [Cc x,.ref 0 [] 1 0 0] (Bo (x.name == s)) [⟨1,9,1,[[Tx s]],0⟩,⟨1,148,4,[jJ x],0⟩]:=by
 refine zb.zA (fn:=Tryz.f182) Tryz.func182 rfl ?_
 conv=>whnf
 refine ⟨fun h=>?_,fun h=>?_⟩ <;> rw [h]
 ·conv=>whnf
  exact ⟨.inl rfl,_,zj.keep [3] 2 _ _ rfl rfl rfl rfl,rfl,rfl⟩
 ·conv=>whnf
  exact ⟨.inl rfl,_,zj.keep [3] 2 _ _ rfl rfl rfl rfl,rfl,rfl⟩
theorem zfd (l:List Str) (s:Str) (hl:l.length < 4611686018427387904):zb Tryz.prog 179 [⟨1,9,1,[[Tx s]],0⟩] [lT l,.fn 180 [] [.ref 0 [] 1 0 0]] (I (vh l s)) [⟨1,9,1,[[Tx s]],0⟩]:=by
 have hlm:(l.map qA).length=l.length:=List.length_map ..
 refine zb.zA (fn:=Tryz.f179) Tryz.func179 rfl ?_
 conv=>whnf
 rw [hlm]
 refine zH.seq l.length (fun k=>[lT l,.fn 180 [] [.ref 0 [] 1 0 0],.za,.za,I 0,.za,.za,lT l,I l.length,I k,.za,.za,.za,.za,.za,.za,.za,.za,.za]) (fun k=>[⟨1,9,1,[[Tx s]],0⟩]) (fun k=>∀ j,(h:j < l.length)->j < k->(l[j] == s)=false) ?_ (by simp) (fun k hk hr=>?_) (fun hr=>?_)
 ·exact cC
 ·have hg:(l.map qA)[k]?= some (qA l[k]):=by rw [List.getElem?_map,List.getElem?_eq_getElem hk];rfl
  conv=>whnf
  (refine ⟨fun _=>?_,fun h=>absurd h (by simp;omega)⟩);refine dd ?_
  (refine ⟨by omega,_,by rw [toNat_cast];exact hg,?_⟩);refine dd ?_
  refine ⟨_,_,zhp s l[k],?_⟩
  refine dd ?_
  refine ⟨fun h2=>?_,fun h2=>?_⟩
  ·refine dd ?_
   (refine .inr ⟨by simp,?_⟩);(conv=>whnf)
   have e:vh l s=k:=by
    unfold vh
    have:l.findIdx? (fun x=>x == s)=some k:=by
     rw [List.findIdx?_eq_some_iff_getElem]
     exact ⟨hk,h2,fun j hj=>by simp only [hr j (by omega) hj];decide⟩
    rw [this]
   rw [e]
   exact ⟨.inl rfl,_,.refl _,rfl,rfl⟩
  ·refine dd ?_
   refine .inl ⟨rfl,?_,fun j hj hjk=>?_⟩
   ·rw [zo (by omega)]
    exact cC
   ·by_cases e:j=k
    ·subst e;exact h2
    ·exact hr j hj (by omega)
 ·(conv=>whnf);(refine ⟨fun h=>absurd h (by simp),fun _=>?_⟩);refine dd ?_;(refine ⟨by simp,?_⟩);(conv=>whnf)
  have e:vh l s= -1:=by
   unfold vh
   have:l.findIdx? (fun x=>x == s)=none:=by
    rw [List.findIdx?_eq_none_iff]
    intro x hx
    obtain ⟨j,hj,rfl⟩:=List.mem_iff_getElem.1 hx
    exact hr j hj hj
   rw [this]
  rw [e]
  exact ⟨.inl rfl,_,.refl _,rfl,rfl⟩
theorem zcO (l:List Str) (s:Str) (hl:l.length < 4611686018427387904):zb Tryz.prog 127 [] [lT l,Tx s] (I (vh l s)) []:=by
 refine zb.zk (fn:=Tryz.f127) Tryz.func127 rfl ?_
 conv=>whnf
 refine ⟨_,_,zfd l s hl,?_⟩
 refine dd ?_
 exact ⟨.inl rfl,_,.refl _,rfl⟩
theorem zfc (l:List Clu) (s:Str) (hl:l.length < 4611686018427387904):zb Tryz.prog 181 [⟨1,9,1,[[Tx s]],0⟩] [lC l,.fn 182 [] [.ref 0 [] 1 0 0]] (I (zdy l s)) [⟨1,9,1,[[Tx s]],0⟩]:=by
 have hlm:(l.map jJ).length=l.length:=List.length_map ..
 refine zb.zA (fn:=Tryz.f181) Tryz.func181 rfl ?_
 conv=>whnf
 rw [hlm]
 refine zH.seq l.length (fun k=>[lC l,.fn 182 [] [.ref 0 [] 1 0 0],.za,.za,I 0,.za,.za,lC l,I l.length,I k,.za,.za,.za,.za,.za,.za,.za,.za,.za]) (fun k=>[⟨1,9,1,[[Tx s]],0⟩]) (fun k=>∀ j,(h:j < l.length)->j < k->(l[j].name == s)=false) ?_ (by simp) (fun k hk hr=>?_) (fun hr=>?_)
 ·exact cC
 ·have hg:(l.map jJ)[k]?= some (jJ l[k]):=by rw [List.getElem?_map,List.getElem?_eq_getElem hk];rfl
  conv=>whnf
  (refine ⟨fun _=>?_,fun h=>absurd h (by simp;omega)⟩);refine dd ?_
  (refine ⟨by omega,_,by rw [toNat_cast];exact hg,?_⟩);refine dd ?_
  refine ⟨_,_,zgW s l[k],?_⟩
  refine dd ?_
  refine ⟨fun h2=>?_,fun h2=>?_⟩
  ·refine dd ?_
   (refine .inr ⟨by simp,?_⟩);(conv=>whnf)
   have e:zdy l s=k:=by
    unfold zdy
    have:l.findIdx? (fun x=>x.name == s)=some k:=by
     rw [List.findIdx?_eq_some_iff_getElem]
     exact ⟨hk,h2,fun j hj=>by simp only [hr j (by omega) hj];decide⟩
    rw [this]
   rw [e]
   exact ⟨.inl rfl,_,zj.keep [4] 1 _ _ rfl rfl rfl rfl,rfl,rfl⟩
  ·refine dd ?_
   refine .inl ⟨rfl,?_,fun j hj hjk=>?_⟩
   ·rw [zo (by omega)]
    exact cE 1
   ·by_cases e:j=k
    ·subst e;exact h2
    ·exact hr j hj (by omega)
 ·(conv=>whnf);(refine ⟨fun h=>absurd h (by simp),fun _=>?_⟩);refine dd ?_;(refine ⟨by simp,?_⟩);(conv=>whnf)
  have e:zdy l s= -1:=by
   unfold zdy
   have:l.findIdx? (fun x=>x.name == s)=none:=by
    rw [List.findIdx?_eq_none_iff]
    intro x hx
    obtain ⟨j,hj,rfl⟩:=List.mem_iff_getElem.1 hx
    exact hr j hj hj
   rw [this]
  rw [e]
  exact ⟨.inl rfl,_,.refl _,rfl,rfl⟩
theorem wy (l:List Clu) (s:Str) (hl:l.length < 4611686018427387904):zb Tryz.prog 128 [] [lC l,Tx s] (I (zdy l s)) []:=by
 refine zb.zk (fn:=Tryz.f128) Tryz.func128 rfl ?_
 conv=>whnf
 refine ⟨_,_,zfc l s hl,?_⟩
 refine dd ?_
 exact ⟨.inl rfl,_,.refl _,rfl⟩
def zmg (h:List Bool):Nat->List Int
 | 0=>[]
 | k+1=>if h[k]?= some true then zmg h k++[(k:Int)] else zmg h k
end Go.Sna
namespace Go.Sna
open Go.Ab Go.Proofs Go.Hy Go.Gat Go.Nam Go.Hos Go.Con
def zm8 (r:Rul) (n:Int) (h p:Str):Bool:=r.listen == n && zmm r.host h && zmO p r.path
def zl6 (r:Rul):Prop:=r.host.length < 1000000000000∧r.path.length < 1000000000000
def bst (l:List Rul) (n:Int) (h p:Str):Nat->Int
 | 0=> -1
 | k+1=>match l[k]? with
  | none=>bst l n h p k
  | some r=>if zm8 r n h p then (match l[(bst l n h p k).toNat]? with
    | none=>(k:Int)
    | some b=>if bst l n h p k < 0∨zkY r.host r.path b.host b.path=true then (k:Int) else bst l n h p k) else bst l n h p k
def zjJ (l:List Rul) (n:Int) (h p:Str):Int × Int:=if bst l n h p l.length < 0 then (0,5) else (bst l n h p l.length,0)
end Go.Sna
namespace Go.Sna
open Go.Ab Go.Proofs Go.Hy Go.Gat Go.Nam Go.Hos Go.Con
def zaC (c:Cfg) (r:Rou):Rul:=⟨vh c.zc r.listen,r.host,r.path,zdy c.zf r.zl⟩
def qc (c:Cfg):Sna × Int × Int:=if (zY c).1≠0 then (⟨[],[],[]⟩,zY c) else (⟨c.zc,c.zp.map (zaC c),c.zf⟩,0,0)
abbrev Cs (s:Sna):C:=.agg (zdv s)
abbrev t3 (r:Sna × Int × Int):C:=.tup [Cs r.1,I r.2.1,I r.2.2]
theorem kh (c:Cfg) (hc:jF c):zb Tryz.prog 79 [] [Cf c] (t3 (qc c)) []:=by
 have m1:(c.zp.map yp).length=c.zp.length:=List.length_map ..
 have hl:=hc.zp.1
 have hl1:=hc.zc.1
 have hl2:=hc.zf.1
 refine zb.zk (fn:=Tryz.f79) Tryz.func79 rfl ?_
 conv=>whnf
 refine ⟨_,_,(check_sound c hc).frame rfl _,?_⟩;refine dd ?_
 refine ⟨fun h1=>?_,fun h1=>?_⟩
 ·have e:qc c=(⟨[],[],[]⟩,zY c):=by unfold qc;rw [if_pos (by simpa using h1)]
  rw [e]
  refine dd ?_
  exact ⟨.inl rfl,_,zj.var 1 rfl rfl rfl (.cons (WC.nil 0 1) (.cons (WC.nil 0 4) (.cons (WC.nil 0 4) .nil))),rfl⟩
 ·have e:qc c=(⟨c.zc,c.zp.map (zaC c),c.zf⟩,0,0):=by unfold qc;rw [if_neg (by simpa using h1)]
  rw [e]
  refine dd ?_
  rw [m1]
  refine zH.seq c.zp.length (fun k=>[.za,.ref 0 [] 3 0 0,.ref 1 [] 3 0 0,I 0,I 0,.za,.za,.ref 2 [] 3 0 0,.za,.za,.za,.za,.za,.za,.za,.za,.za,.za,.za,.za,.za,.za,.za,.za,.za,.za,lO c.zp,I c.zp.length,I k,.za,.za,.za,.za,.za,.za,.za,.za,.za,.za,.za,.za,.za,.za,.za,.za,.za,.za,.za,.za,.za,.za,.za,.za,.za]) (fun k=>[⟨1,33,3,[vB c],0⟩,⟨1,69,3,[[.lst 1 0 [],.lst 1 0 [],.lst 1 0 []]],0⟩,⟨1,69,3,[[lT c.zc,.gl 3 4 (((c.zp.take k).map (zaC c)).map wz),lC c.zf]],0⟩,⟨4,164,4,((c.zp.take k).map (zaC c)).map wz,0⟩]) (fun k=>True) ?_ trivial (fun k hk hr=>?_) (fun hr=>?_)
  ·refine zj.trans (zj.zcG 2 1 164 4 rfl rfl (.inl rfl) rfl rfl) ?_
   exact cC
  ·obtain ⟨r,hx⟩:∃ r,r=c.zp[k]:=⟨_,rfl⟩
   have hg:(c.zp.map yp)[k]?= some (yp r):=by rw [List.getElem?_map,List.getElem?_eq_getElem hk,hx];rfl
   have hs:=hc.zp.2 r (by rw [hx];exact List.getElem_mem hk)
   have hlg:(((c.zp.take k).map (zaC c)).map wz).length=k:=by simp;omega
   have eg:((c.zp.take (k+1)).map (zaC c)).map wz=((c.zp.take k).map (zaC c)).map wz++[wz (zaC c r)]:=by rw [List.take_succ_eq_append_getElem hk,<- hx];simp
   conv=>whnf
   (refine ⟨fun _=>?_,fun h=>absurd h (by simp;omega)⟩);refine dd ?_
   (refine ⟨by omega,_,by rw [toNat_cast];exact hg,?_⟩);refine dd ?_
   refine .inl ⟨⟨false,[3,5,6,8,10,12,14,15],[0,4],[]⟩,by kernel_rfl,?_⟩;(conv=>whnf)
   refine ⟨I (vh c.zc r.listen),fun H2=>(zcO c.zc r.listen (by omega)).frame rfl H2,?_⟩
   refine dd ?_
   refine ⟨I (zdy c.zf r.zl),fun H2=>(wy c.zf r.zl (by omega)).frame rfl H2,?_⟩
   refine dd ?_
   refine ⟨rfl,.inr rfl,by rw [hlg];simp [maxLen];omega,by rw [hlg];show (k+1) * 48<=_;omega,?_⟩
   refine dd ?_
   refine ⟨rfl,rfl,?_⟩
   refine dd ?_
   refine ⟨rfl,rfl,?_⟩
   refine dd ?_
   refine .inl ⟨rfl,?_,trivial⟩
   rw [zo (by omega),eg]
   exact cE 4
  ·(conv=>whnf);(refine ⟨fun h=>absurd h (by simp),fun _=>?_⟩);refine dd ?_;(refine ⟨by simp,?_⟩);(conv=>whnf)
   rw [List.take_length]
   exact ⟨.inl rfl,_,.refl _,rfl⟩
structure zl5 (s:Sna):Prop where
 zc:s.zc.length < 1000000000000
 rules:s.rules.length < 1000000000000∧∀ r ∈ s.rules,zl6 r
def zmf (s:Sna) (n h p:Str):Int × Int:=
 if vh s.zc n < 0 then (0,3) else if (zjJ s.rules (vh s.zc n) h p).2≠0 then (0,(zjJ s.rules (vh s.zc n) h p).2)
 else match s.rules[(zjJ s.rules (vh s.zc n) h p).1.toNat]? with
  | some r=>(r.zl,0)
  | none=>(0,0)
end Go.Sna
namespace Go.Sna
open Go.Ab Go.Proofs Go.Hy Go.Gat Go.Nam Go.Hos Go.Con
end Go.Sna
