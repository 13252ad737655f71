import Derived.Test.YtgllekalddijbaaGreatUQ
import Derived.Test.YtgllekalddijbaaGreatUJ
import Derived.Test.YtgllekalddijbaaGreatRows
import Derived.Test.YtgllekalddijbaaGreatUO
set_option linter.unusedVariables false
set_option linter.unusedSimpArgs false
set_option linter.unusedSectionVars false
set_option maxRecDepth 100000
set_option maxHeartbeats 4000000
namespace Go.Wor
open Go.Ab Go.Proofs Go.Gat Go.Nam Go.Hos Go.Con Go.Sna Go.Pla Go.Dep
open Go.Hy hiding encI
theorem zcJ {n:Nat} {w w':Wor} {t:Int} {o:Opn} {m m':Mac} {given:List Ans} (hb:zb Tryz.prog 18 [] [I t,.agg (zbJ o),lA given] (Sm m) []) (hg:wR n w m w' m') (hn:10000 < n):zb Tryz.prog 35 [] [Sw w,I t,.agg (zbJ o),lA given] (.tup [Sw w,.agg (xq ⟨0,0,0,0,0,0,0,zbf⟩),I 0]) []:=by
 refine zb.zm (fn:=Tryz.f35) Tryz.func35 rfl ?_
 conv=>whnf
 refine ⟨_,_,(hb).frame rfl _,?_⟩;refine dd ?_
 refine zM.inv (fun i t1 H1=>∃ (k j:Nat) (wk:Wor) (mk:Mac),k+i=10000∧i < j∧wR j wk mk w' m'∧t1=[.za,.za,.za,.za,.ref 0 [] 8 0 0,.za,.ref 1 [] 10 0 0,.za,.ref 2 [] 8 0 0,.ref 3 [] 13 0 0,I 0,.ref 4 [] 44 0 0,.ref 5 [] 8 0 0,.za,.za,.za,.za,.za,.za,.za,.za,.za,I k,.za,.za,.za,.za,.za,.za,.za,.za,.za,.za,.za,.za,.za,.za,.za,.za,.za,.za,.za,.za,.za,.za,.za,.za]∧H1=[⟨1,28,8,[zU (w)],0⟩,⟨1,35,10,[zbJ o],0⟩,⟨1,28,8,[[I 0,I 0,I 0,.lst 1 0 [],.lst 1 0 [],.lst 1 0 [],.lst 1 0 [],.lst 1 0 []]],0⟩,⟨1,41,13,[xq ⟨0,0,0,0,0,0,0,zbf⟩],0⟩,⟨1,43,44,[zW (mk)],0⟩,⟨1,28,8,[zU (wk)],0⟩]) 10000 ?_ ?_
 ·exact ⟨_,_,cC,0,n,w,m,by simp,hn,hg,rfl,rfl⟩
 rintro i _ _ ⟨k,j,wk,mk,hk,hij,hg,rfl,rfl⟩
 conv=>whnf
 by_cases hi:i=0
 ·subst hi
  have e:k=10000:=by omega
  subst e
  refine ⟨fun h=>absurd h (by decide),fun _=>?_⟩
  refine dd ?_
  (refine .inr ⟨by simp,?_⟩);(conv=>whnf)
  exact ⟨.inl rfl,_,.refl _,rfl⟩
 (refine ⟨fun _=>?_,fun h=>absurd h (by simp;omega)⟩);refine dd ?_
 cases hg with
 | last h he hd=>omega
 | @more n2 _ _ _ _ _ _ _ h he hd hg=>
  refine ⟨_,_,(h).frame rfl _,?_⟩;refine dd ?_
  refine ⟨fun h=>absurd h (by simpa using he),fun _=>?_⟩
  refine dd ?_
  refine .inl ⟨⟨false,[0,1],[6,7],[]⟩,by kernel_rfl,?_⟩;(conv=>whnf)
  repeat (refine ⟨rfl,?_⟩;conv=>whnf)
  refine ⟨fun h=>absurd ((hd).symm.trans h:false=true) (by decide),fun _=>?_⟩;refine dd ?_
  rw [zp (by omega)]
  exact .inl ⟨rfl,i - 1,_,_,by omega,cE 6,k+1,n2,_,_,by omega,by omega,hg,rfl,rfl⟩
theorem zi0 {w:Wor} {m:Mac} {r:Wor × Mac × Eve} (h:jr w m=some r):r.1.zd.length=w.zd.length∧r.1.zc.length=w.zc.length∧r.1.zg.length=w.zg.length:=by
 have ld:∀ m,(ldS w m).1.zd.length=w.zd.length∧(ldS w m).1.zc.length=w.zc.length∧(ldS w m).1.zg.length=w.zg.length:=fun m=>by
  unfold ldS
  split <;> exact ⟨rfl,rfl,rfl⟩
 unfold jr at h
 by_cases p:m.pc=0
 ·rw [if_pos p] at h
  cases h
  by_cases q:w.lock=0
  ·rw [if_pos q];exact ⟨rfl,rfl,rfl⟩
  ·rw [if_neg q];exact ⟨rfl,rfl,rfl⟩
 rw [if_neg p] at h
 clear p
 by_cases p:m.pc=1
 ·rw [if_pos p] at h
  cases h
  exact ⟨rfl,rfl,rfl⟩
 rw [if_neg p] at h
 clear p
 by_cases p:m.pc=2
 ·rw [if_pos p] at h
  obtain ⟨p,_,rfl⟩:=Option.map_eq_some_iff.1 h
  exact ⟨rfl,rfl,rfl⟩
 rw [if_neg p] at h
 clear p
 by_cases p:m.pc=3
 ·rw [if_pos p] at h
  cases h
  by_cases q:w.zj=m.zj∧w.zj < 1000000000000
  ·rw [if_pos q];exact ⟨rfl,rfl,rfl⟩
  ·rw [if_neg q];exact ⟨rfl,rfl,rfl⟩
 rw [if_neg p] at h
 clear p
 by_cases p:m.pc=4
 ·rw [if_pos p] at h
  cases h
  cases w.zg[m.i.toNat]? with
  | none=>exact ld _
  | some r=>exact ⟨rfl,rfl,rfl⟩
 rw [if_neg p] at h
 clear p
 by_cases p:m.pc=5
 ·rw [if_pos p] at h
  obtain ⟨v,_,h⟩:=Option.bind_eq_some_iff.1 h
  obtain ⟨e,_,rfl⟩:=Option.map_eq_some_iff.1 h
  exact ⟨rfl,rfl,rfl⟩
 rw [if_neg p] at h
 clear p
 by_cases p:m.pc=6
 ·rw [if_pos p] at h
  obtain ⟨v,_,h⟩:=Option.bind_eq_some_iff.1 h
  obtain ⟨r0,_,h⟩:=Option.bind_eq_some_iff.1 h
  by_cases q:r0.version=m.version∧r0.gone=false
  ·rw [if_pos q] at h
   cases h
   exact ⟨by simp,rfl,by simp⟩
  ·rw [if_neg q] at h
   cases h
 rw [if_neg p] at h
 clear p
 by_cases p:m.pc=8
 ·rw [if_pos p] at h
  cases h
  exact ld _
 rw [if_neg p] at h
 clear p
 by_cases p:m.pc=9
 ·rw [if_pos p] at h
  obtain ⟨l,_,rfl⟩:=Option.map_eq_some_iff.1 h
  exact ⟨rfl,rfl,rfl⟩
 rw [if_neg p] at h
 clear p
 by_cases p:m.pc=10
 ·rw [if_pos p] at h
  obtain ⟨l,_,h⟩:=Option.bind_eq_some_iff.1 h
  by_cases q:l.drain=true
  ·rw [if_pos q] at h
   cases h
   exact ⟨rfl,by simp,rfl⟩
  ·rw [if_neg q] at h
   cases h
 rw [if_neg p] at h
 cases h
theorem St.lens {N N2 K:Nat} {w x:Wor} (s:St N2 K x) (st:TyW N w) (h:x.zd.length=w.zd.length∧x.zc.length=w.zc.length∧x.zg.length=w.zg.length):St N K x:=
 ⟨s.jF,⟨by have:=st.yc;omega,by have:=st.lis;omega,by have:=st.lim;omega,s.ty.okv,s.ty.okl⟩,s.cal⟩
theorem zhX:∀ (n:Nat) {N K:Nat} {w0 w:Wor} {m:Mac} {v:Ver} {g:Gr} {e:En},J w0 w m n->qG w0->w0.lock=0->(w0.zc.length < 1000000000∧w0.zg.length < 1000000000)->St N K w->yi w m v g e->TyM m->zeq w m v g e->m.op.kind=5->N<=100000000->
  ∃ n' m' K',wR n' w m (vd w0) m'∧1<=n'∧n'<=n∧St N K' (vd w0):=by
 intro n
 induction n using Nat.strongRecOn with
 | _ n ih=>
  intro N K w0 w m v g e hJ g0 hl hb st su tm lo hk hN
  obtain ⟨⟨w',m',ev⟩,h1,h2⟩:=yq st su tm lo hk hN
  have hp:=zeb su st.ty tm hN hk h1
  have nx:=zeH hJ su.done g0 hl hb h1 h2.st.jF
  have s2:=h2.st.lens st.ty (zi0 h1)
  rcases nx with ⟨hd,hc,hn⟩ | ⟨n',hn,hd',hJ'⟩
  ·have hc:w'=vd w0:=hc
   subst hc
   exact ⟨1,m',K+1,.last hp h2.ev hd,by omega,hn,s2⟩
  ·rcases h2.go with ⟨hd,hf⟩ | ⟨⟨v',g',e',hs',lo'⟩,h3⟩
   ·exact absurd (hd.symm.trans hd') (by decide)
   ·obtain ⟨n2,m2,K',hg,h4,h5,h6⟩:=ih n' hn hJ' g0 hl hb s2 hs' h2.tm lo' (by rw [h2.op];exact hk) hN
    exact ⟨n2+1,m2,K',.more hp h2.ev hs'.done hg,by omega,by omega,h6⟩
theorem zfX {N K:Nat} {w:Wor} (st:St N K w) (hN:N<=100000000):∃ n m' K',wR n w zbX (yp w) m'∧St N K' (yp w):=by
 have gw:=st.jF
 have gr:=qb.1 gw.ground
 obtain ⟨v,g,e,su⟩:=za5 gw (m:=zbX) ⟨Int.le_refl _,by show (0:Int) < _;have:=gr.pins.1;omega⟩ rfl rfl rfl rfl rfl rfl rfl rfl rfl
 have lo:zeq w zbX v g e:=by constructor <;> dsimp only <;> omega
 unfold yp
 by_cases hl:w.lock=0
 ·rw [if_pos hl]
  have b1:=st.ty.lis
  have b2:=st.ty.lim
  obtain ⟨n,m',K',h1,h2,h3,h4⟩:=zhX _ (J.p0 rfl) gw hl ⟨by omega,by omega⟩ st su vU lo rfl hN
  exact ⟨n,m',K',h1,h4⟩
 ·rw [if_neg hl]
  obtain ⟨⟨w',m',ev⟩,h1,h2⟩:=yq st su vU lo rfl hN
  have hp:=zeb su st.ty vU hN rfl h1
  unfold jr at h1
  rw [if_pos rfl,if_neg hl] at h1
  cases h1
  exact ⟨1,_,K,.last hp h2.ev rfl,st⟩
theorem zhJ {N K:Nat} {w:Wor} (st:St N K w) (hN:N<=100000000):∃ y a j K',zb Tryz.prog 35 [] [Sw w,I 0,zgC,.lst 1 0 []] (.tup [Sw y,.agg (xq a),I j]) []∧St N K' y:=by
 obtain ⟨n,m',K',h1,h2⟩:=zfX st hN
 by_cases h:n<=10000
 ·exact ⟨_,m'.answer,n,K',zcQ h1 h,h2⟩
 ·refine ⟨w,⟨0,0,0,0,0,0,0,zbf⟩,0,K,?_,st⟩
  exact (zcJ (given:=[]) zcR h1 (by omega)).pre (.cons (.refl _) (.cons (.refl _) (.cons (WC.zmc (.cons (.refl _) (.cons (.refl _) (.cons (.refl _) (.cons (.refl _) (.cons (.refl _) (.cons (.refl _) (.cons (.refl _) (.cons (WC.nil 0 1) (.cons (WC.nil 0 4) (.cons (WC.nil 0 4) .nil))))))))))) (.cons (WC.nil 0 13) .nil))))
theorem zgR {N K:Nat} {w:Wor} (n:Int) (ok:OkW w) (h:qa w=true->St N K w) (hN:N<=100000000):∃ x e,zb Tryz.prog 32 [] [Sw w,I n] (.tup [Sw x,I e]) []:=by
 by_cases hw:qa w=true
 rotate_left
 ·refine ⟨y4,1,?_⟩
  have hw:qa w=false:=by simpa using hw
  have:=wF w n ok (fun h=>absurd (hw.symm.trans h) (by decide))
  rw [show xo w n=(y4,1) from if_neg (by simp [hw])] at this
  exact this
 have st:=h hw
 have all:∀ s:{ x:Wor // ∃ K,St N K x },∃ t:{ x:Wor // ∃ K,St N K x },∃ a j,zb Tryz.prog 35 [] [Sw s.1,I 0,zgC,.lst 1 0 []] (.tup [Sw t.1,.agg (xq a),I j]) []:=fun s=>by
  obtain ⟨K2,s2⟩:=s.2
  obtain ⟨y,a,j,K',h1,h2⟩:=zhJ s2 hN
  exact ⟨⟨y,K',h2⟩,a,j,h1⟩
 obtain ⟨f,hf⟩:=Classical.axiomOfChoice all
 obtain ⟨F,hF0,hF⟩:∃ F:Nat->{ x:Wor // ∃ K,St N K x },F 0=⟨w,K,st⟩∧∀ k,F (k+1)=f (F k):=⟨fun k=>Nat.rec ⟨w,K,st⟩ (fun _ s=>f s) k,rfl,fun _=>rfl⟩
 by_cases hn:0<=n∧n<=10
 rotate_left
 ·refine ⟨y4,1,?_⟩
  refine zb.zm (fn:=Tryz.f32) Tryz.func32 rfl ?_
  conv=>whnf
  refine ⟨_,_,(jK w ok).frame rfl _,?_⟩;refine dd ?_
  rw [hw]
  (repeat ((first | apply ya | apply yb);refine dd ?_))
  refine ⟨fun h2=>?_,fun h2=>?_⟩
  ·refine dd ?_
   (try (repeat ((first | apply ya | apply yb);refine dd ?_)))
   exact ⟨.inl rfl,_,zl.var 1 rfl rfl rfl (.cons (.refl _) (.cons (.refl _) (.cons (.refl _) (.cons (WC.nil 0 1) (.cons (WC.nil 0 5) (.cons (WC.nil 0 4) (.cons (WC.nil 0 1) (.cons (WC.nil 0 3) .nil)))))))),rfl⟩
  refine dd ?_
  refine ⟨fun h3=>?_,fun h3=>?_⟩
  ·refine dd ?_
   (try (repeat ((first | apply ya | apply yb);refine dd ?_)))
   exact ⟨.inl rfl,_,zl.var 1 rfl rfl rfl (.cons (.refl _) (.cons (.refl _) (.cons (.refl _) (.cons (WC.nil 0 1) (.cons (WC.nil 0 5) (.cons (WC.nil 0 4) (.cons (WC.nil 0 1) (.cons (WC.nil 0 3) .nil)))))))),rfl⟩
  exact absurd ⟨by simpa using h2,by simpa using h3⟩ hn
 obtain ⟨M,rfl⟩:∃ M:Nat,n=M:=⟨n.toNat,by omega⟩
 refine ⟨(F M).1,0,?_⟩
 refine zb.zm (fn:=Tryz.f32) Tryz.func32 rfl ?_
 conv=>whnf
 refine ⟨_,_,(jK w ok).frame rfl _,?_⟩;refine dd ?_
 rw [hw]
 (repeat ((first | apply ya | apply yb);refine dd ?_))
 (try (refine ⟨fun h=>absurd (of_decide_eq_true h) (by omega),fun _=>?_⟩;refine dd ?_))
 (try (refine ⟨fun h=>absurd (of_decide_eq_true h) (by omega),fun _=>?_⟩;refine dd ?_))
 refine zM.seq M (fun k=>[.za,.za,.ref 0 [] 8 0 0,.za,.ref 1 [] 8 0 0,I 0,.za,.za,.za,.za,.za,.za,.za,.za,.za,.za,.za,.za,I M,I k,.za,.za,.za,.za,.za,.za,.za,.za,.za,.za]) (fun k=>[⟨1,28,8,[zU ((F k).1)],0⟩,⟨1,28,8,[[I 0,I 0,I 0,.lst 1 0 [],.lst 1 0 [],.lst 1 0 [],.lst 1 0 [],.lst 1 0 []]],0⟩]) (fun k=>True) ?_ trivial (fun k hk _=>?_) (fun _=>?_)
 ·rw [hF0]
  exact cC
 ·obtain ⟨a,j,hj⟩:=hf (F k)
  rw [<- hF k] at hj
  conv=>whnf
  (refine ⟨fun _=>?_,fun h=>absurd h (by simp;omega)⟩);refine dd ?_
  refine ⟨_,_,(hj).frame rfl _,?_⟩;refine dd ?_
  refine .inl ⟨rfl,?_,trivial⟩
  rw [zp (by omega)]
  exact cE 2
 ·(conv=>whnf);(refine ⟨fun h=>absurd h (by simp),fun _=>?_⟩);refine dd ?_;(refine ⟨by simp,?_⟩);(conv=>whnf)
  exact ⟨.inl rfl,_,.refl _,rfl⟩
end Go.Wor
namespace Go.AbU
open Go.Ab Go.Proofs
def zJ:Nat:=1048576000
def fits (P:Program) {H:Type} (t:TypeId) (d:DataW H):Prop:=(d.weights P t).all (·<=zJ)=true
def zi (P:Program) (t:TypeId) {α:Type} (enc:α->List C) (wf:α->Prop):Prop:=
 ∀ {H:Type} (eH:TypeId × Value->H) (w:World) (fuel:Nat) (cs:List Value) (d:DataW H) (ps:List MemPlace),
  DataW.trod eH P w 0 (fun _=>true) true fuel t cs=some (d,ps)->fits P t d->∃ x,wf x∧LL (E0 w) (enc x) cs∧∀ u ∈ cs,u.oneCell'=true
section
variable {P:Program} {t:TypeId}
theorem zi.int {k:IntKind} (ht:P.underlying t=some (.int k)):zi P t (fun n:Int=>[.v (.int k n)]) (fun n=>(Lit.int k n).wf=true):=by
 intro H eH w fuel cs d ps h _
 cases fuel with
 | zero=>cases h
 | succ fuel=>
  rcases cs with _ | ⟨v,_ | ⟨v2,r⟩⟩
  ·simp [DataW.trod,ht] at h
  ·cases v <;> simp [DataW.trod,ht] at h
   obtain ⟨⟨rfl,hw⟩,_⟩:=h
   exact ⟨_,hw,.one (.v _ rfl),by intro u hu;simp at hu;subst hu;rfl⟩
  ·simp [DataW.trod,ht] at h
theorem zi.bool (ht:P.underlying t=some .bool):zi P t (fun b:Bool=>[.v (.bool b)]) (fun _=>True):=by
 intro H eH w fuel cs d ps h _
 cases fuel with
 | zero=>cases h
 | succ fuel=>
  rcases cs with _ | ⟨v,_ | ⟨v2,r⟩⟩
  ·simp [DataW.trod,ht] at h
  ·cases v <;> simp [DataW.trod,ht] at h
   exact ⟨_,trivial,.one (.v _ rfl),by intro u hu;simp at hu;subst hu;rfl⟩
  ·simp [DataW.trod,ht] at h
theorem zi.string (ht:P.underlying t=some .string):zi P t (fun s:ByteArray=>[.v (.string s)]) (fun s=>s.size<=zJ):=by
 intro H eH w fuel cs d ps h hf
 cases fuel with
 | zero=>cases h
 | succ fuel=>
  rcases cs with _ | ⟨v,_ | ⟨v2,r⟩⟩
  ·simp [DataW.trod,ht] at h
  ·cases v <;> simp [DataW.trod,ht] at h
   obtain ⟨_,rfl,_⟩:=h
   refine ⟨_,?_,.one (.v _ rfl),by intro u hu;simp at hu;subst hu;rfl⟩
   simpa [fits,DataW.weights] using hf
  ·simp [DataW.trod,ht] at h
theorem zbC {w:World} {a:Addr} (ha:a.spot=none) {n:Nat} {cs:List Value} (h:w.cells? 0 a n=some cs):cs.length=n∧∀ (j:Nat) u,cs[j]?= some u->w.cell? ⟨a.block,a.off+j,none⟩=some u:=by
 unfold World.cells? at h
 rw [if_pos (Nat.zero_le _)] at h
 have key:∀ (m k:Nat) (cs:List Value),((List.range' k m).mapM fun i=>w.cell? (a.add i))=some cs->cs.length=m∧∀ (j:Nat) u,cs[j]?= some u->w.cell? (a.add (k+j))=some u:=by
  intro m
  induction m with
  | zero=>intro k cs h;simp at h;subst h;simp
  | succ m ih=>
   intro k cs h
   rw [List.range'_succ,List.mapM_cons] at h
   cases h1:w.cell? (a.add k) with
   | none=>rw [h1] at h;cases h
   | some u0=>
    rw [h1] at h
    cases h2:((List.range' (k+1) m).mapM fun i=>w.cell? (a.add i)) with
    | none=>rw [h2] at h;cases h
    | some r=>
     rw [h2] at h
     cases h
     obtain ⟨h3,h4⟩:=ih (k+1) r h2
     refine ⟨by simp [h3],?_⟩
     intro j u hj
     cases j with
     | zero=>simp at hj;subst hj;exact h1
     | succ j=>simp at hj;have:=h4 j u hj;rw [show k+1+j=k+(j+1) by omega] at this;exact this
 rw [List.range_eq_range'] at h
 obtain ⟨h1,h2⟩:=key n 0 cs h
 refine ⟨h1,fun j u hj=>?_⟩
 have:=h2 j u hj
 rw [Nat.zero_add] at this
 unfold Addr.add at this
 split at this
 ·rename_i hj0;subst hj0;obtain ⟨b,o,sp⟩:=a;cases ha;exact this
 ·exact this
theorem q8 {β:Type} {f:Nat->Option β}:∀ {n k:Nat} {xs:List β},(List.range' k n).mapM f=some xs->xs.length=n∧∀ (j:Nat) x,xs[j]?= some x->f (k+j)=some x
 | 0,k,xs,h=>by simp at h;subst h;simp
 | n+1,k,xs,h=>by
  rw [List.range'_succ,List.mapM_cons] at h
  cases h1:f k with
  | none=>rw [h1] at h;cases h
  | some u0=>
   rw [h1] at h
   cases h2:(List.range' (k+1) n).mapM f with
   | none=>rw [h2] at h;cases h
   | some r=>
    rw [h2] at h
    cases h
    obtain ⟨h3,h4⟩:=q8 h2
    refine ⟨by simp [h3],?_⟩
    intro j u hj
    cases j with
    | zero=>simp at hj;subst hj;exact h1
    | succ j=>simp at hj;have:=h4 j u hj;rw [show k+1+j=k+(j+1) by omega] at this;exact this
theorem wZ {w:World} {a:Addr} {u:Value} (h:w.cell? a=some u):a.spot=none:=by
 unfold World.cell? at h
 split at h
 ·split at h
  ·cases h
  ·rename_i hs;simpa using hs
 ·cases h
theorem xU {w:World} {a:Addr} {n:Nat} {cs:List Value} (h:w.cells? 0 a n=some cs) (hn:0 < n):a.spot=none:=by
 unfold World.cells? at h
 rw [if_pos (Nat.zero_le _),List.range_eq_range'] at h
 obtain ⟨h1,h2⟩:=q8 h
 have h3:cs[0]?= some cs[0]:=by simp [h1,hn]
 have:=h2 0 _ h3
 simp [Addr.add] at this
 exact wZ this
theorem jy {H:Type} {e:TypeId}:∀ {l:List (DataW H)} {d:DataW H},d ∈ l->∀ n ∈ d.weights P e,n ∈ DataW.weightsAll P e l
 | d0::l,d,hd,n,hn=>by
  simp only [DataW.weightsAll,List.mem_append]
  rcases List.mem_cons.1 hd with rfl | hd
  ·exact .inl hn
  ·exact .inr (jy hd n hn)
theorem zi.slice {e:TypeId} {α:Type} {enc:α->List C} {wf:α->Prop} (ht:P.underlying t=some (.slice e)) {sz by_:Nat} (hc:P.cellsOf e=sz) (hb:P.bytesOf e=by_) (hpos:0 < sz) (hsz:∀ x,(enc x).length=sz)
  (h:zi P e enc wf):zi P t (fun l:List α=>[.lst 0 sz (l.map enc)]) (fun l=>(∀ x ∈ l,wf x)∧l.length * by_<=zJ):=by
 subst hc
 subst hb
 intro H eH w fuel cs d ps hr hf
 cases fuel with
 | zero=>cases hr
 | succ fuel=>
  rcases cs with _ | ⟨v,_ | ⟨v2,r⟩⟩
  ·simp [DataW.trod,ht] at hr
  rotate_left
  ·simp [DataW.trod,ht] at hr
  have nil:∀ a,∃ x:List α,((∀ y ∈ x,wf y)∧x.length * P.bytesOf e<=zJ)∧LL (E0 w) [.lst 0 (P.cellsOf e) (x.map enc)] [.slice a 0 0]∧∀ u ∈ [Value.slice a 0 0],u.oneCell'=true:=fun a=>
   ⟨[],⟨by simp,by simp⟩,.one (.qP 0 _ (.inl rfl) a),by intro u hu;simp at hu;subst hu;rfl⟩
  cases v with
  | slice a len cap=>
   cases a with
   | none=>
    by_cases hz:len=0∧cap=0
    ·obtain ⟨rfl,rfl⟩:=hz
     exact nil none
    ·exfalso
     unfold DataW.trod at hr
     rw [ht] at hr
     dsimp only at hr
     split at hr <;> simp_all
   | some a=>
    simp only [DataW.trod,ht] at hr
    split at hr
    rotate_left
    ·cases hr
    rename_i hbound
    rw [List.range_eq_range'] at hr
    simp only [List.range_eq_range',if_true] at hr
    cases h1:(List.range' 0 len).mapM fun i=>(w.cells? 0 (a.add (i * P.cellsOf e)) (P.cellsOf e)).bind (DataW.trod eH P w 0 (fun _=>true) true fuel e) with
    | none=>rw [h1] at hr;cases hr
    | some elems=>
     rw [h1] at hr
     simp only [Option.bind_some] at hr
     cases h2:(List.range' 0 (cap - len)).mapM fun j=>(w.cells? 0 (a.add ((len+j) * P.cellsOf e)) (P.cellsOf e)).bind (DataW.trod eH P w 0 (fun _=>true) true fuel e) with
     | none=>rw [h2] at hr;cases hr
     | some rest=>
      rw [h2] at hr
      simp only [Option.map_some,Option.some.injEq,Prod.mk.injEq] at hr
      obtain ⟨rfl,_⟩:=hr
      obtain ⟨l1,g1⟩:=q8 h1
      obtain ⟨l2,g2⟩:=q8 h2
      by_cases hz:cap=0
      ·have hl0:len=0:=by omega
       subst hz
       subst hl0
       exact nil (some a)
      ·have hspot:a.spot=none:=by
        by_cases hl:len=0
        ·have h3:rest[0]?= some (rest[0]'(by omega)):=List.getElem?_eq_getElem _
         have h4:=g2 0 _ h3
         subst hl
         simp only [Nat.zero_add,Nat.zero_mul] at h4
         cases h5:w.cells? 0 (a.add 0) (P.cellsOf e) with
         | none=>rw [h5] at h4;cases h4
         | some cs=>have:=xU h5 hpos;simpa [Addr.add] using this
        ·have h3:elems[0]?= some (elems[0]'(by omega)):=List.getElem?_eq_getElem _
         have h4:=g1 0 _ h3
         simp only [Nat.zero_add,Nat.zero_mul] at h4
         cases h5:w.cells? 0 (a.add 0) (P.cellsOf e) with
         | none=>rw [h5] at h4;cases h4
         | some cs=>have:=xU h5 hpos;simpa [Addr.add] using this
       have hfw:=hf
       simp only [fits,DataW.weights,ht,List.all_cons,List.all_append,Bool.and_eq_true,decide_eq_true_eq] at hfw
       obtain ⟨hf1,hf2,_⟩:=hfw
       have each:∀ i,i < len->∃ x,wf x∧∃ cs,w.cells? 0 (a.add (i * P.cellsOf e)) (P.cellsOf e)=some cs∧LL (E0 w) (enc x) cs∧∀ u ∈ cs,u.oneCell'=true:=by
        intro i hi
        have h3:elems[i]?= some elems[i]:=by simp [l1,hi]
        have h4:=g1 i _ h3
        rw [Nat.zero_add] at h4
        cases h5:w.cells? 0 (a.add (i * P.cellsOf e)) (P.cellsOf e) with
        | none=>rw [h5] at h4;cases h4
        | some cs=>
         rw [h5] at h4
         obtain ⟨x,hx1,hx2,hx3⟩:=h eH w fuel cs elems[i].1 elems[i].2 h4 (by
          unfold fits
          rw [List.all_eq_true]
          intro n hn
          refine List.all_eq_true.1 hf2 n (jy ?_ n hn)
          simp only [List.mem_map]
          exact ⟨elems[i],by simp,rfl⟩)
         exact ⟨x,hx1,cs,rfl,hx2,hx3⟩
       have pick:∃ xs:List α,xs.length=len∧∀ (i:Nat) x,xs[i]?= some x->wf x∧∃ cs,w.cells? 0 (a.add (i * P.cellsOf e)) (P.cellsOf e)=some cs∧LL (E0 w) (enc x) cs∧∀ u ∈ cs,u.oneCell'=true:=by
        clear h1 h2 l1 l2 g1 g2 hf hf1 hf2
        clear hbound nil
        induction len with
        | zero=>exact ⟨[],rfl,by simp⟩
        | succ n ih=>
         obtain ⟨xs,hx1,hx2⟩:=ih (fun i hi=>each i (by omega))
         obtain ⟨x,hx3⟩:=each n (by omega)
         refine ⟨xs++[x],by simp [hx1],?_⟩
         intro i y hy
         by_cases hi:i < n
         ·rw [List.getElem?_append_left (by omega)] at hy
          exact hx2 i y hy
         ·rw [List.getElem?_append_right (by omega)] at hy
          have:i - xs.length=0:=by
           have:=(List.getElem?_eq_some_iff.1 hy).1
           simp at this
           omega
          rw [this] at hy
          cases hy
          obtain rfl:i=n:=by omega
          exact hx3
       obtain ⟨xs,hx1,hx2⟩:=pick
       refine ⟨xs,⟨fun x hx=>?_,?_⟩,.one ?_,by intro u hu;simp at hu;subst hu;rfl⟩
       ·obtain ⟨i,hi⟩:=List.mem_iff_getElem?.1 hx
        exact (hx2 i x hi).1
       ·rw [hx1]
        have:len * P.bytesOf e<=cap * P.bytesOf e:=Nat.mul_le_mul_right _ hbound.2.1
        simp [l1,l2] at hf1
        have e1:len+(cap - len)=cap:=by omega
        rw [e1] at hf1
        omega
       ·obtain ⟨b,off,sp⟩:=a
        cases hspot
        have cell:∀ i r k c,(xs.map enc)[i]?= some r->r[k]?= some c->∃ u,(E0 w).St b (off+i * P.cellsOf e+k)=some u∧L (E0 w) c u:=by
         intro i r k c hr hc
         rw [List.getElem?_map] at hr
         cases hxi:xs[i]? with
         | none=>rw [hxi] at hr;cases hr
         | some x=>
          rw [hxi] at hr
          cases hr
          obtain ⟨_,cs,e1,e2,e3⟩:=hx2 i x hxi
          obtain ⟨u,hu,hl⟩:=e2.get hc
          obtain ⟨_,hcell⟩:=zbC (a:=(⟨b,off,none⟩:Addr).add (i * P.cellsOf e)) (by unfold Addr.add;split <;> rfl) e1
          have:=hcell k u hu
          rw [qH] at this
          exact ⟨u,ziD.2 ⟨this,e3 u (List.mem_of_getElem? hu)⟩,hl⟩
        have hlen:(xs.map enc).length=len:=by simp [hx1]
        have:=L.lst (E:=E0 w) 0 (P.cellsOf e) (xs.map enc) b off cap (fun i k=>((E0 w).St b (off+i * P.cellsOf e+k)).getD undef) (.inl rfl) (by rw [hlen];exact hbound.2.1) ?_ ?_ ?_
        ·rw [hlen] at this;exact this
        ·intro r hr
         obtain ⟨x,_,rfl⟩:=List.mem_map.1 hr
         exact hsz x
        ·intro i r k c h5 h6
         obtain ⟨u,hu,_⟩:=cell i r k c h5 h6
         rw [hu];rfl
        ·intro i r k c h5 h6
         obtain ⟨u,hu,hl⟩:=cell i r k c h5 h6
         rw [hu]
         exact hl
  | _=>
   unfold DataW.trod at hr
   rw [ht] at hr
   simp at hr
theorem zi.map {α β:Type} {enc:α->List C} {wf:α->Prop} {enc':β->List C} {wf':β->Prop} (h:zi P t enc wf) (g:α->β) (hg:∀ a,wf a->wf' (g a)∧enc' (g a)=enc a):zi P t enc' wf':=by
 intro H eH w fuel cs d ps hr hf
 obtain ⟨x,h1,h2,h3⟩:=h eH w fuel cs d ps hr hf
 exact ⟨g x,(hg x h1).1,by rw [(hg x h1).2];exact h2,h3⟩
def zo (P:Program) (fs:List Field) (off:Nat) {α:Type} (enc:α->List C) (wf:α->Prop):Prop:=
 ∀ {H:Type} (eH:TypeId × Value->H) (w:World) (fuel:Nat) (cs:List Value) (xs:List (DataW H × List MemPlace)),
  (fs.mapM fun f=>DataW.trod eH P w 0 (fun _=>true) true fuel f.type ((cs.drop f.offset).take (P.cellsOf f.type)))=some xs->
  (DataW.weightsEach P (fs.map (·.type)) (xs.map (·.1))).all (·<=zJ)=true->cs.length=off+(fs.map fun f=>P.cellsOf f.type).sum->∃ x,wf x∧LL (E0 w) (enc x) (cs.drop off)∧∀ u ∈ cs.drop off,u.oneCell'=true
theorem zo.nil (off:Nat):zo P [] off (fun _:Unit=>[]) (fun _=>True):=by
 intro H eH w fuel cs xs _ _ hl
 simp at hl
 rw [List.drop_eq_nil_of_le (by omega)]
 exact ⟨(),trivial,LL.nil,by simp⟩
theorem zo.cons {f:Field} {fs:List Field} {off:Nat} {α β:Type} {enc:α->List C} {wf:α->Prop} {enc':β->List C} {wf':β->Prop} (ho:f.offset=off) (h:zi P f.type enc wf) (h':zo P fs (off+P.cellsOf f.type) enc' wf'):
  zo P (f::fs) off (fun x:α × β=>enc x.1++enc' x.2) (fun x=>wf x.1∧wf' x.2):=by
 intro H eH w fuel cs xs hm hf hl
 rw [List.mapM_cons] at hm
 cases h1:DataW.trod eH P w 0 (fun _=>true) true fuel f.type ((cs.drop f.offset).take (P.cellsOf f.type)) with
 | none=>rw [h1] at hm;cases hm
 | some x1=>
  rw [h1] at hm
  cases h2:(fs.mapM fun f=>DataW.trod eH P w 0 (fun _=>true) true fuel f.type ((cs.drop f.offset).take (P.cellsOf f.type))) with
  | none=>rw [h2] at hm;cases hm
  | some r=>
   rw [h2] at hm
   cases hm
   simp only [List.map_cons,DataW.weightsEach,List.all_append,Bool.and_eq_true] at hf
   obtain ⟨a,a1,a2,a3⟩:=h eH w fuel _ x1.1 x1.2 h1 hf.1
   obtain ⟨b,b1,b2,b3⟩:=h' eH w fuel cs r h2 hf.2 (by simp at hl ⊢;omega)
   rw [ho] at a2 a3
   have e:cs.drop off=(cs.drop off).take (P.cellsOf f.type)++cs.drop (off+P.cellsOf f.type):=by
    rw [<- List.drop_drop,List.take_append_drop]
   refine ⟨(a,b),⟨a1,b1⟩,?_,?_⟩
   ·rw [e];exact a2.append b2
   ·rw [e]
    intro u hu
    rcases List.mem_append.1 hu with hu | hu
    ·exact a3 u hu
    ·exact b3 u hu
theorem zi.struct {fs:Array Field} {α:Type} {enc:α->List C} {wf:α->Prop} (ht:P.underlying t=some (.struct fs)) (hc:P.cellsOf t=(fs.toList.map fun f=>P.cellsOf f.type).sum) (h:zo P fs.toList 0 enc wf):zi P t enc wf:=by
 intro H eH w fuel cs d ps hr hf
 cases fuel with
 | zero=>cases hr
 | succ fuel=>
  unfold DataW.trod at hr
  rw [ht] at hr
  dsimp only at hr
  split at hr
  ·rename_i hl
   cases h2:(fs.toList.mapM fun f=>DataW.trod eH P w 0 (fun _=>true) true fuel f.type ((cs.drop f.offset).take (P.cellsOf f.type))) with
   | none=>rw [h2] at hr;cases hr
   | some xs=>
    rw [h2] at hr
    cases hr
    obtain ⟨x,h3,h4,h5⟩:=h eH w fuel cs xs h2 (by simpa [fits,DataW.weights,ht] using hf) (by rw [hl,hc];simp)
    exact ⟨x,h3,by simpa using h4,by simpa using h5⟩
  ·cases hr
def OpenArg (P:Program) (t:TypeId) {α:Type} (c:α->C) (wf:α->Prop):Prop:=
 ∀ {H:Type} (eH:TypeId × Value->H) (w:World) (base:Nat) (v:Value) (d:DataW H) (ps:List MemPlace),Value.okWide P w .any base t v->
  DataW.Trod eH P w 0 (fun _=>true) true t v d ps->fits P t d->∃ x,wf x∧L (E0 w) (c x) v
theorem zi.zfP {α:Type} {c:α->C} {wf:α->Prop} (h:zi P t (fun x=>[c x]) wf) (hone:∀ (w:World) base v,Value.okWide P w .any base t v->v.cells= #[v]):OpenArg P t c wf:=by
 intro H eH w base v d ps hv hd hf
 obtain ⟨fuel,hd⟩:=hd
 rw [hone w base v hv] at hd
 obtain ⟨x,h1,h2,_⟩:=h eH w fuel _ d ps hd hf
 exact ⟨x,h1,h2.cons_inv.1⟩
theorem zi.zfO {k:IntKind} (ht:P.underlying t=some (.int k)):OpenArg P t (fun n:Int=>.v (.int k n)) (fun n=>(Lit.int k n).wf=true):=
 zi.zfP (c:=fun n=>.v (.int k n)) (zi.int ht) fun w base v hv=>by obtain ⟨n,rfl⟩:=WideShapes.okWide_int ht hv;rfl
theorem zi.wV {α:Type} {enc:α->List C} {wf:α->Prop} {fs:Array Field} (ht:P.underlying t=some (.struct fs)) (h:zi P t enc wf):OpenArg P t (fun x=>.agg (enc x)) wf:=by
 intro H eH w base v d ps hv hd hf
 simp only [Value.okWide,ht] at hv
 obtain ⟨cs,rfl,_⟩:=hv
 obtain ⟨fuel,hd⟩:=hd
 obtain ⟨x,h1,h2,h3⟩:=h eH w fuel _ d ps hd hf
 exact ⟨x,h1,.agg _ cs (by simpa [Value.cells] using h2.1) (fun i c y e1 e2=>h2.2 i c y e1 (by simpa [Value.cells] using e2)) (fun u hu=>h3 u (by simpa [Value.cells] using hu))⟩
def OpenArgs (P:Program) (ts:List TypeId) {α:Type} (c:α->List C) (wf:α->Prop):Prop:=
 ∀ {H:Type} (eH:TypeId × Value->H) (w:World) (base:Nat) (vs:List Value) (ds:List (DataW H)) (ps:List MemPlace),(∀ (j:Nat) t v,ts[j]?= some t->vs[j]?= some v->Value.okWide P w .any base t v)->
  DataW.TrodAll eH P w 0 (fun _=>true) true ts vs ds ps->(DataW.weightsEach P ts ds).all (·<=zJ)=true->∃ x,wf x∧LL (E0 w) (c x) vs
theorem OpenArgs.nil:OpenArgs P [] (fun _:Unit=>[]) (fun _=>True):=by
 intro H eH w base vs ds ps _ h _
 match vs,ds,h with
 | [],[],_=>exact ⟨(),trivial,LL.nil⟩
theorem OpenArgs.cons {ts:List TypeId} {α β:Type} {c:α->C} {wf:α->Prop} {cs:β->List C} {wf':β->Prop} (h:OpenArg P t c wf) (h':OpenArgs P ts cs wf'):
  OpenArgs P (t::ts) (fun x:α × β=>c x.1::cs x.2) (fun x=>wf x.1∧wf' x.2):=by
 intro H eH w base vs ds ps hv hd hf
 match vs,ds,hd with
 | v::vs,d::ds,⟨p,q,h1,h2,_⟩=>
  simp only [DataW.weightsEach,List.all_append,Bool.and_eq_true] at hf
  obtain ⟨a,a1,a2⟩:=h eH w base v d p (hv 0 t v rfl rfl) h1 hf.1
  obtain ⟨b,b1,b2⟩:=h' eH w base vs ds q (fun j t' v' e1 e2=>hv (j+1) t' v' (by simpa using e1) (by simpa using e2)) h2 hf.2
  exact ⟨(a,b),⟨a1,b1⟩,LL.cons a2 b2⟩
end
theorem jD {P:Program} {H:Type} {eH:TypeId × Value->H} (hl:laidOutB P=true) {W W':World} {sp':Nat->Bool}:∀ {ts:List TypeId} {vs:List Value} {ds:List (DataW H)} {ps:List MemPlace},
  ts.all (fun t=>P.readableRec t && decide (t < P.types.size))=true->DataW.TrodAll eH P W 0 (fun _=>true) true ts vs ds ps->(∀ p ∈ ps,W.sameAt W' p)->(∀ p ∈ ps,sp' p.block=true)->DataW.TrodAll eH P W' 0 sp' true ts vs ds ps
 | [],[],[],ps,_,h,_,_=>h
 | t::ts,v::vs,d::ds,ps,hts,⟨p,q,h1,h2,e⟩,hsame,hs=>by
  subst e
  simp only [List.all_cons,Bool.and_eq_true,decide_eq_true_eq] at hts
  exact ⟨p,q,WideElems.Trod_stays hl hts.1.1 hts.1.2 h1 (fun x hx=>hsame x (by simp [hx])) (fun x hx=>hs x (by simp [hx])),jD hl hts.2 h2 (fun x hx=>hsame x (by simp [hx])) (fun x hx=>hs x (by simp [hx])),rfl⟩
theorem yt {w w':World} {E E':Env} (g:Grow w E [] w' E' []):RowKit.Below w.heap.size w w':=
 ⟨g.os,g.tape,g.output,g.size,fun k hk=>g.frame k hk qz.none⟩
theorem xy {P:Program} {H:Type} {eH:TypeId × Value->H} {w:World} {b:Nat} {sp:Nat->Bool} {hd:Bool}:∀ {ts:List TypeId} {vs:List Value} {ds:List (DataW H)} {ps:List MemPlace},DataW.TrodAll eH P w b sp hd ts vs ds ps->ds.length=ts.length
 | [],[],[],_,_=>rfl
 | _::_,_::_,_::_,_,⟨_,_,_,h,_⟩=>by simp [xy h]
theorem law_close {P:Program} {f:FuncId} {fn:Func} {s:ChangeSpec} {H:Type} {eH:TypeId × Value->H} {W:World} {base:Nat} {args:Array Value} {ds gs:List (DataW H)} {before:List MemPlace} {tb:TypeId} {α:Type} {c:α->List C} {wf:α->Prop}
  (hl:laidOutB P=true) (hts:fn.params.toList.all (fun t=>P.readableRec t && decide (t < P.types.size))=true) (hres:fn.resultTypes= #[tb]) (htb:P.underlying tb=some .bool) (hvars:s.vars=[])
  (hspec:∀ ds:List (DataW H),ds.length=fn.params.toList.length->s.fn H (ds++[])={ results:=[.lit (.bool true)],args:=ds })
  (hval:∀ (j:Nat) t v,fn.params[j]?= some t->args[j]?= some v->Value.okWide P W .any base t v)
  (hW:DataW.Whole eH P fn.params.toList s.vars false W args.toList ds gs before)
  (hsz:(DataW.weightsEach P (fn.params.toList++s.plain.varTypes P) (ds++gs)).all (·<=zJ)=true)
  (hop:OpenArgs P fn.params.toList c wf) (hs:∀ x,wf x->zb P f [] (c x) (.v (.bool true)) []):
  Calls P f args W fun e W'=>∃ v,e=.returned v∧s.post eH P fn false true false false W args v W':=by
 have hW':=hW
 obtain ⟨p,q,hA,hV,rfl,hfz,hnd⟩:=hW
 rw [hvars] at hV
 obtain ⟨rfl,rfl⟩:=ChangeShapes.trodVars_none hV
 have hvt:s.plain.varTypes P=[]:=by simp [DataSpec.varTypes,ChangeSpec.plain,hvars]
 rw [hvt] at hsz
 simp only [List.append_nil] at hsz
 have hlt:=hW'.lt
 obtain ⟨x,hx,hL⟩:=hop eH W base args.toList ds p (fun j t v e1 e2=>hval j t v (by simpa using e1) (by simpa using e2)) hA hsz
 refine (hs x hx W (E0 W) args (zg5 W) hL).mono ?_
 rintro e W' ⟨v,E',rfl,_,hv,g⟩
 have hb:=yt g
 obtain rfl:v=.bool true:=by cases hv;rfl
 have hlen:=xy hA
 have hsp:=hspec ds hlen
 refine ⟨_,rfl,ds,[],p++[],[],p,[],hW',?_,?_,?_,?_,fun h=>by cases h⟩
 ·rw [hsp,hres]
  exact ⟨[],[],RowKit.shut_bool htb _,rfl,rfl⟩
 ·rw [hsp]
  exact jD hl hts hA (fun x hx=>hb.same (hlt x (by simpa using hx))) (fun x hx=>by simpa using hlt x (by simpa using hx))
 ·rw [hsp,hvars]
  rfl
 ·exact hb.frame _
open Go.Proofs.YtgllekalddijbaaGreat.Rows (uptoBulk uptoBulkAll uptoBulkEntries uptoBulkEntry)
section
variable {H:Type} {P:Program} {M:Nat}
mutual
theorem zkZ (h1:1<=M) (d:DataW H):1<=uptoBulk d:=by
 cases d with
 | lit l=>cases l <;> simp [uptoBulk]
 | _=>simp [uptoBulk]
end
theorem zby (h1:1<=M):∀ l:List (DataW H),l.length<=uptoBulkAll l
 | []=>Nat.le_refl _
 | d::l=>by
  have:=zkZ h1 d
  have:=zby h1 l
  simp only [uptoBulkAll,List.length_cons]
  omega
theorem kP (h1:1<=M):∀ l:List (Lit × DataW H),l.length<=uptoBulkEntries l
 | []=>Nat.le_refl _
 | (k,d)::l=>by
  have:=zkZ h1 d
  have:=kP h1 l
  have q:1<=uptoBulkEntry (k,d):=by cases k <;> simp [uptoBulkEntry]
  simp only [uptoBulkEntries,List.length_cons]
  omega
theorem vx {x a b:Nat} (h:x<=a * M) (hab:a<=b):x<=b * M:=Nat.le_trans h (Nat.mul_le_mul_right _ hab)
def kids:TypeDesc->List TypeId
 | .pointer e=>[e]
 | .slice e=>[e]
 | .array _ e=>[e]
 | .map k e=>[k,e]
 | .struct fs=>fs.toList.map (·.type)
 | _=>[]
structure Few (P:Program) (G:TypeId->Prop) (M:Nat):Prop where
 le:∀ t,G t->P.bytesOf t<=M
 kid:∀ t d,G t->P.underlying t=some d->∀ e ∈ kids d,G e
variable {G:TypeId->Prop}
mutual
theorem bw (F:Few P G M) (h1:1<=M):∀ (d:DataW H) (t:TypeId),G t->∀ x ∈ d.weights P t,x<=uptoBulk d * (2 * M)
 | .lit (.string b),t,_,x,hx=>by
  simp only [DataW.weights,List.mem_singleton] at hx
  subst hx
  simp only [uptoBulk]
  exact Nat.le_trans (Nat.le_succ _) (Nat.le_mul_of_pos_right _ (by omega))
 | .lit (.int _ _),t,_,x,hx=>by simp [DataW.weights] at hx
 | .lit (.bool _),t,_,x,hx=>by simp [DataW.weights] at hx
 | .lit (.float _ _),t,_,x,hx=>by simp [DataW.weights] at hx
 | .lit .nil,t,_,x,hx=>by simp [DataW.weights] at hx
 | .nil,t,_,x,hx=>by simp [DataW.weights] at hx
 | .held _,t,_,x,hx=>by simp [DataW.weights] at hx
 | .iface _ _,t,_,x,hx=>by simp [DataW.weights] at hx
 | .ptr d,t,g,x,hx=>by
  simp only [DataW.weights] at hx
  split at hx
  ·rename_i e he
   exact vx (bw F h1 d _ (F.kid t _ g he e (by simp [kids])) x hx) (by simp [uptoBulk])
  ·simp at hx
 | .slice es sp,t,g,x,hx=>by
  simp only [DataW.weights] at hx
  split at hx
  ·rename_i e he
   have ge:=F.kid t _ g he e (by simp [kids])
   rcases List.mem_cons.1 hx with rfl | hx
   ·have a:=zby (M:=M) h1 es
    have b:=zby (M:=M) h1 sp
    have c:=Nat.mul_le_mul (show es.length+sp.length<=uptoBulk (DataW.slice es sp) by simp only [uptoBulk];omega) (F.le e ge)
    exact Nat.le_trans c (Nat.mul_le_mul_left _ (by omega))
   ·rcases List.mem_append.1 hx with hx | hx
    ·exact vx (zha F h1 es _ ge x hx) (by simp only [uptoBulk];omega)
    ·exact vx (zha F h1 sp _ ge x hx) (by simp only [uptoBulk];omega)
  ·simp at hx
 | .agg ps,t,g,x,hx=>by
  simp only [DataW.weights] at hx
  split at hx
  ·rename_i fs he
   exact vx (zfT F h1 ps _ (F.kid t _ g he) x hx) (by simp only [uptoBulk];omega)
  ·rename_i n e he
   exact vx (zha F h1 ps _ (F.kid t _ g he e (by simp [kids])) x hx) (by simp only [uptoBulk];omega)
  ·simp at hx
 | .map es,t,g,x,hx=>by
  simp only [DataW.weights] at hx
  split at hx
  ·rename_i k e he
   have gk:=F.kid t _ g he k (by simp [kids])
   have ge:=F.kid t _ g he e (by simp [kids])
   rcases List.mem_cons.1 hx with rfl | hx
   ·have a:=kP (M:=M) h1 es
    have c:=Nat.mul_le_mul (show es.length<=uptoBulk (DataW.map es) by simp only [uptoBulk];omega) (show P.bytesOf k+P.bytesOf e<=2 * M by have:=F.le k gk;have:=F.le e ge;omega)
    exact c
   ·exact vx (ziS F h1 es _ ge x hx) (by simp only [uptoBulk];omega)
  ·simp at hx
theorem zha (F:Few P G M) (h1:1<=M):∀ (l:List (DataW H)) (t:TypeId),G t->∀ x ∈ DataW.weightsAll P t l,x<=uptoBulkAll l * (2 * M)
 | [],t,_,x,hx=>by simp [DataW.weightsAll] at hx
 | d::l,t,g,x,hx=>by
  simp only [DataW.weightsAll] at hx
  rcases List.mem_append.1 hx with hx | hx
  ·exact vx (bw F h1 d t g x hx) (by simp only [uptoBulkAll];omega)
  ·exact vx (zha F h1 l t g x hx) (by simp only [uptoBulkAll];omega)
theorem zfT (F:Few P G M) (h1:1<=M):∀ (l:List (DataW H)) (ts:List TypeId),(∀ t ∈ ts,G t)->∀ x ∈ DataW.weightsEach P ts l,x<=uptoBulkAll l * (2 * M)
 | [],[],_,x,hx=>by simp [DataW.weightsEach] at hx
 | [],_::_,_,x,hx=>by simp [DataW.weightsEach] at hx
 | _::_,[],_,x,hx=>by simp [DataW.weightsEach] at hx
 | d::l,t::ts,g,x,hx=>by
  simp only [DataW.weightsEach] at hx
  rcases List.mem_append.1 hx with hx | hx
  ·exact vx (bw F h1 d t (g t (by simp)) x hx) (by simp only [uptoBulkAll];omega)
  ·exact vx (zfT F h1 l ts (fun e he=>g e (by simp [he])) x hx) (by simp only [uptoBulkAll];omega)
theorem ziS (F:Few P G M) (h1:1<=M):∀ (l:List (Lit × DataW H)) (t:TypeId),G t->∀ x ∈ DataW.weightsEntries P t l,x<=uptoBulkEntries l * (2 * M)
 | [],t,_,x,hx=>by simp [DataW.weightsEntries] at hx
 | (k,d)::l,t,g,x,hx=>by
  simp only [DataW.weightsEntries] at hx
  rcases List.mem_append.1 hx with hx | hx
  ·have q:x<=uptoBulkEntry (k,d) * (2 * M):=by
    cases k with
    | string b=>
     simp only [DataW.weightsEntry] at hx
     rcases List.mem_cons.1 hx with rfl | hx
     ·simp only [uptoBulkEntry]
      exact Nat.le_trans (by omega) (Nat.le_mul_of_pos_right _ (by omega))
     ·exact vx (bw F h1 d t g x hx) (by simp only [uptoBulkEntry];omega)
    | int _ _=>
     simp only [DataW.weightsEntry] at hx
     exact vx (bw F h1 d t g x hx) (by simp only [uptoBulkEntry];omega)
    | bool _=>
     simp only [DataW.weightsEntry] at hx
     exact vx (bw F h1 d t g x hx) (by simp only [uptoBulkEntry];omega)
    | float _ _=>
     simp only [DataW.weightsEntry] at hx
     exact vx (bw F h1 d t g x hx) (by simp only [uptoBulkEntry];omega)
    | nil=>
     simp only [DataW.weightsEntry] at hx
     exact vx (bw F h1 d t g x hx) (by simp only [uptoBulkEntry];omega)
   exact vx q (by simp only [uptoBulkEntries];omega)
  ·exact vx (ziS F h1 l t g x hx) (by simp only [uptoBulkEntries];omega)
end
end
theorem ziT:(List.range Tryz.prog.types.size).all (fun t=>decide (Tryz.prog.bytesOf t<=500))=true:=by kernel_rfl
theorem zkr:(List.range Tryz.prog.types.size).all (fun t=>match Tryz.prog.underlying t with | some d=>(kids d).all fun e=>decide (e < Tryz.prog.types.size) | none=>true)=true:=by kernel_rfl
theorem few:Few Tryz.prog (· < Tryz.prog.types.size) 500 where
 le t h:=of_decide_eq_true (List.all_eq_true.1 ziT t (List.mem_range.2 h))
 kid t d h hd e he:=by
  have q:=List.all_eq_true.1 zkr t (List.mem_range.2 h)
  rw [hd] at q
  exact of_decide_eq_true (List.all_eq_true.1 q e he)
theorem small_w {H:Type} {l:List (DataW H)} (h:Go.Proofs.YtgllekalddijbaaGreat.Rows.uptoSmall H l=true) (ts:List TypeId) (ht:ts.all (fun t=>decide (t < Tryz.prog.types.size))=true):(DataW.weightsEach Tryz.prog ts l).all (·<=zJ)=true:=by
 refine List.all_eq_true.2 fun x hx=>decide_eq_true ?_
 have a:=zfT few (by decide) l ts (fun t hm=>of_decide_eq_true (List.all_eq_true.1 ht t hm)) x hx
 have b:uptoBulkAll l<=1048576:=of_decide_eq_true h
 have c:=Nat.mul_le_mul_right (2 * 500) b
 have e:zJ=1048576 * (2 * 500):=rfl
 omega
end Go.AbU
namespace Go.HyU
open Go.Ab Go.Proofs Go.Hy
open Go.AbU (zJ)
def wL (s:Str):Prop:=s.length<=zJ
def zkv (l:Lis):Prop:=wL l.name∧i64 l.zr
def enU (e:En):Prop:=u64 e.head∧((∀ x ∈ e.next,i64 x)∧e.next.length<=zJ)∧i64 e.zr
def grU (g:Gr):Prop:=u64 g.jC∧(∀ e ∈ g.ends,enU e)∧g.ends.length<=zJ
def zjR (r:Rul):Prop:=wL r.host∧wL r.path
def ziY (c:Clu):Prop:=wL c.name∧c.zT.length<=zJ
def zlP (s:Sna):Prop:=((∀ x ∈ s.zc,wL x)∧s.zc.length<=zJ)∧((∀ r ∈ s.rules,zjR r)∧s.rules.length<=zJ)∧((∀ x ∈ s.zf,ziY x)∧s.zf.length<=zJ)
def zlZ (v:Ver):Prop:=zlP v.snap∧((∀ g ∈ v.zk,grU g)∧v.zk.length<=zJ)
structure zcw (w:Wor):Prop where
 pins:w.pins.length * 8<=zJ
 zd:(∀ v ∈ w.zd,zlZ v)∧w.zd.length * 104<=zJ
 zc:(∀ x ∈ w.zc,zkv x)∧w.zc.length * 40<=zJ
 counts:(∀ r ∈ w.counts,(∀ x ∈ r,(Lit.int .u64 x).wf=true)∧r.length * 8<=zJ)∧w.counts.length * 24<=zJ
 zg:w.zg.length * 24<=zJ
theorem jI:Go.AbU.zi Tryz.prog 9 (fun s:Str=>[Tx s]) wL:=
 Go.AbU.zi.map (Go.AbU.zi.string Tryz.underlying9) (fun s=>s.data.toList) fun s h=>⟨h,rfl⟩
theorem wo:Go.AbU.zi Tryz.prog 22 (fun l:List Int=>[lI l]) (fun l=>(∀ x ∈ l,(fun n:Int=>(Lit.int .i64 n).wf=true) x)∧l.length * 8<=zJ):=
 Go.AbU.zi.slice (sz:=1) (by_:=8) Tryz.underlying22 (by kernel_rfl) (by kernel_rfl) (by decide) (fun _=>rfl) (Go.AbU.zi.int Tryz.underlying3)
theorem zd8:Go.AbU.zi Tryz.prog 29 (fun l:List Str=>[lT l]) (fun l=>(∀ x ∈ l,wL x)∧l.length * 16<=zJ):=
 Go.AbU.zi.slice (sz:=1) (by_:=16) Tryz.underlying29 (by kernel_rfl) (by kernel_rfl) (by decide) (fun _=>rfl) jI
theorem zgD:Go.AbU.zi Tryz.prog 4 xV (fun _=>True):=Go.AbU.zi.map ((Go.AbU.zi.bool Tryz.underlying4)) (fun b=>b) fun b h=>⟨trivial,rfl⟩
theorem zd6:Go.AbU.zi Tryz.prog 146 (fun l:List Bool=>[lB l]) (fun l=>(∀ x ∈ l,(fun _:Bool=>True) x)∧l.length * 1<=zJ):=
 Go.AbU.zi.slice (sz:=1) (by_:=1) Tryz.underlying146 (by kernel_rfl) (by kernel_rfl) (by decide) (fun _=>rfl) zgD
theorem zb7:Go.AbU.zi Tryz.prog 148 jW ziY:=
 Go.AbU.zi.map (Go.AbU.zi.struct Tryz.underlying148 (by kernel_rfl) (Go.AbU.zo.cons rfl jI (Go.AbU.zo.cons rfl (Go.AbU.zi.int Tryz.underlying3) (Go.AbU.zo.cons rfl (Go.AbU.zi.int Tryz.underlying3) (Go.AbU.zo.cons rfl zd6 (Go.AbU.zo.nil _)))))) (fun x=>⟨x.1,x.2.1,x.2.2.1,x.2.2.2.1⟩) fun x h=>⟨⟨h.1,by have:=h.2.2.2.1.2;show x.2.2.2.1.length<=zJ;omega⟩,rfl⟩
theorem zd7:Go.AbU.zi Tryz.prog 31 (fun l:List Clu=>[lC l]) (fun l=>(∀ x ∈ l,ziY x)∧l.length * 56<=zJ):=
 Go.AbU.zi.slice (sz:=4) (by_:=56) Tryz.underlying31 (by kernel_rfl) (by kernel_rfl) (by decide) (fun _=>rfl) zb7
theorem zjC:Go.AbU.zi Tryz.prog 164 kY zjR:=
 Go.AbU.zi.map (Go.AbU.zi.struct Tryz.underlying164 (by kernel_rfl) (Go.AbU.zo.cons rfl (Go.AbU.zi.int Tryz.underlying3) (Go.AbU.zo.cons rfl jI (Go.AbU.zo.cons rfl jI (Go.AbU.zo.cons rfl (Go.AbU.zi.int Tryz.underlying3) (Go.AbU.zo.nil _)))))) (fun x=>⟨x.1,x.2.1,x.2.2.1,x.2.2.2.1⟩) fun x h=>⟨⟨h.2.1,h.2.2.1⟩,rfl⟩
theorem zik:Go.AbU.zi Tryz.prog 67 (fun l:List Rul=>[zgo l]) (fun l=>(∀ x ∈ l,zjR x)∧l.length * 48<=zJ):=
 Go.AbU.zi.slice (sz:=4) (by_:=48) Tryz.underlying67 (by kernel_rfl) (by kernel_rfl) (by decide) (fun _=>rfl) zjC
theorem zjD:Go.AbU.zi Tryz.prog 69 zba zlP:=
 Go.AbU.zi.map (Go.AbU.zi.struct Tryz.underlying69 (by kernel_rfl) (Go.AbU.zo.cons rfl zd8 (Go.AbU.zo.cons rfl zik (Go.AbU.zo.cons rfl zd7 (Go.AbU.zo.nil _))))) (fun x=>⟨x.1,x.2.1,x.2.2.1⟩) fun x h=>⟨⟨⟨h.1.1,by have:=h.1.2;show x.1.length<=zJ;omega⟩,⟨h.2.1.1,by have:=h.2.1.2;show x.2.1.length<=zJ;omega⟩,⟨h.2.2.1.1,by have:=h.2.2.1.2;show x.2.2.1.length<=zJ;omega⟩⟩,rfl⟩
theorem zkA:Go.AbU.zi Tryz.prog 97 zX enU:=
 Go.AbU.zi.map (Go.AbU.zi.struct Tryz.underlying97 (by kernel_rfl) (Go.AbU.zo.cons rfl (Go.AbU.zi.int Tryz.underlying38) (Go.AbU.zo.cons rfl wo (Go.AbU.zo.cons rfl (Go.AbU.zi.int Tryz.underlying3) (Go.AbU.zo.nil _))))) (fun x=>⟨x.1,x.2.1,x.2.2.1⟩) fun x h=>⟨⟨wf_u64 h.1,⟨fun y hy=>wf_i64 (h.2.1.1 y hy),by have:=h.2.1.2;show x.2.1.length<=zJ;omega⟩,wf_i64 h.2.2.1⟩,rfl⟩
theorem zjG:Go.AbU.zi Tryz.prog 91 (fun l:List En=>[lE l]) (fun l=>(∀ x ∈ l,enU x)∧l.length * 40<=zJ):=
 Go.AbU.zi.slice (sz:=3) (by_:=40) Tryz.underlying91 (by kernel_rfl) (by kernel_rfl) (by decide) (fun _=>rfl) zkA
theorem zkB:Go.AbU.zi Tryz.prog 93 q7 grU:=
 Go.AbU.zi.map (Go.AbU.zi.struct Tryz.underlying93 (by kernel_rfl) (Go.AbU.zo.cons rfl (Go.AbU.zi.int Tryz.underlying38) (Go.AbU.zo.cons rfl zjG (Go.AbU.zo.nil _)))) (fun x=>⟨x.1,x.2.1⟩) fun x h=>⟨⟨wf_u64 h.1,h.2.1.1,by have:=h.2.1.2;show x.2.1.length<=zJ;omega⟩,rfl⟩
theorem zjH:Go.AbU.zi Tryz.prog 70 (fun l:List Gr=>[lG l]) (fun l=>(∀ x ∈ l,grU x)∧l.length * 32<=zJ):=
 Go.AbU.zi.slice (sz:=2) (by_:=32) Tryz.underlying70 (by kernel_rfl) (by kernel_rfl) (by decide) (fun _=>rfl) zkB
theorem zjE:Go.AbU.zi Tryz.prog 72 qu zlZ:=
 Go.AbU.zi.map (Go.AbU.zi.struct Tryz.underlying72 (by kernel_rfl) (Go.AbU.zo.cons rfl zjD (Go.AbU.zo.cons rfl zjH (Go.AbU.zo.cons rfl (Go.AbU.zi.bool Tryz.underlying4) (Go.AbU.zo.nil _))))) (fun x=>⟨x.1,x.2.1,x.2.2.1⟩) fun x h=>⟨⟨h.1,h.2.1.1,by have:=h.2.1.2;show x.2.1.length<=zJ;omega⟩,by simp [qu]⟩
theorem zil:Go.AbU.zi Tryz.prog 23 (fun l:List Ver=>[lV l]) (fun l=>(∀ x ∈ l,zlZ x)∧l.length * 104<=zJ):=
 Go.AbU.zi.slice (sz:=5) (by_:=104) Tryz.underlying23 (by kernel_rfl) (by kernel_rfl) (by decide) (fun _=>rfl) zjE
theorem zjA:Go.AbU.zi Tryz.prog 95 qL zkv:=
 Go.AbU.zi.map (Go.AbU.zi.struct Tryz.underlying95 (by kernel_rfl) (Go.AbU.zo.cons rfl jI (Go.AbU.zo.cons rfl (Go.AbU.zi.bool Tryz.underlying4) (Go.AbU.zo.cons rfl (Go.AbU.zi.int Tryz.underlying3) (Go.AbU.zo.cons rfl (Go.AbU.zi.bool Tryz.underlying4) (Go.AbU.zo.nil _)))))) (fun x=>⟨x.1,x.2.1,x.2.2.1,x.2.2.2.1⟩) fun x h=>⟨⟨h.1,wf_i64 h.2.2.1⟩,rfl⟩
theorem zii:Go.AbU.zi Tryz.prog 24 (fun l:List Lis=>[lL l]) (fun l=>(∀ x ∈ l,zkv x)∧l.length * 40<=zJ):=
 Go.AbU.zi.slice (sz:=4) (by_:=40) Tryz.underlying24 (by kernel_rfl) (by kernel_rfl) (by decide) (fun _=>rfl) zjA
theorem zjB:Go.AbU.zi Tryz.prog 113 qM (fun _:Ret=>True):=
 Go.AbU.zi.map (Go.AbU.zi.struct Tryz.underlying113 (by kernel_rfl) (Go.AbU.zo.cons rfl (Go.AbU.zi.int Tryz.underlying3) (Go.AbU.zo.cons rfl (Go.AbU.zi.int Tryz.underlying3) (Go.AbU.zo.cons rfl (Go.AbU.zi.bool Tryz.underlying4) (Go.AbU.zo.nil _))))) (fun x=>⟨x.1,x.2.1,x.2.2.1⟩) fun x h=>⟨trivial,rfl⟩
theorem zij:Go.AbU.zi Tryz.prog 26 (fun l:List Ret=>[lR l]) (fun l=>(∀ x ∈ l,(fun _:Ret=>True) x)∧l.length * 24<=zJ):=
 Go.AbU.zi.slice (sz:=3) (by_:=24) Tryz.underlying26 (by kernel_rfl) (by kernel_rfl) (by decide) (fun _=>rfl) zjB
theorem zkC:Go.AbU.zi Tryz.prog 161 (fun l:List Int=>[lU l]) (fun l=>(∀ x ∈ l,(fun n:Int=>(Lit.int .u64 n).wf=true) x)∧l.length * 8<=zJ):=
 Go.AbU.zi.slice (sz:=1) (by_:=8) Tryz.underlying161 (by kernel_rfl) (by kernel_rfl) (by decide) (fun _=>rfl) (Go.AbU.zi.int Tryz.underlying38)
theorem zjF:Go.AbU.zi Tryz.prog 25 (fun l:List (List Int)=>[lCo l]) (fun l=>(∀ x ∈ l,(fun r:List Int=>(∀ x ∈ r,(Lit.int .u64 x).wf=true)∧r.length * 8<=zJ) x)∧l.length * 24<=zJ):=
 Go.AbU.zi.slice (sz:=1) (by_:=24) Tryz.underlying25 (by kernel_rfl) (by kernel_rfl) (by decide) (fun _=>rfl) zkC
theorem zb8:Go.AbU.zi Tryz.prog 28 zU zcw:=
 Go.AbU.zi.map (Go.AbU.zi.struct Tryz.underlying28 (by kernel_rfl) (Go.AbU.zo.cons rfl (Go.AbU.zi.int Tryz.underlying3) (Go.AbU.zo.cons rfl (Go.AbU.zi.int Tryz.underlying3) (Go.AbU.zo.cons rfl (Go.AbU.zi.int Tryz.underlying3) (Go.AbU.zo.cons rfl wo (Go.AbU.zo.cons rfl zil (Go.AbU.zo.cons rfl zii (Go.AbU.zo.cons rfl zjF (Go.AbU.zo.cons rfl zij (Go.AbU.zo.nil _)))))))))) (fun x=>⟨x.1,x.2.1,x.2.2.1,x.2.2.2.1,x.2.2.2.2.1,x.2.2.2.2.2.1,x.2.2.2.2.2.2.1,x.2.2.2.2.2.2.2.1⟩) fun x h=>⟨⟨h.2.2.2.1.2,h.2.2.2.2.1,h.2.2.2.2.2.1,h.2.2.2.2.2.2.1,h.2.2.2.2.2.2.2.1.2⟩,rfl⟩
theorem arg_Wor:Go.AbU.OpenArg Tryz.prog 28 (fun x=>.agg (zU x)) zcw:=Go.AbU.zi.wV Tryz.underlying28 zb8
theorem arg_int:Go.AbU.OpenArg Tryz.prog 3 I (fun n=>(Lit.int .i64 n).wf=true):=Go.AbU.zi.zfO Tryz.underlying3
end Go.HyU
namespace Go.Wor
open Go.Ab Go.Proofs Go.Gat Go.Nam Go.Hos Go.Con Go.Sna Go.Pla Go.Dep
open Go.Hy hiding encI
open Go.AbU (zJ)
theorem sB:zJ=1048576000:=rfl
theorem zlr {e:En} (h:HyU.enU e):e.ok:=by
 have b:=sB
 unfold HyU.enU at h
 exact ⟨h.1,⟨h.2.1.1,by have:=h.2.1.2;omega⟩,h.2.2⟩
theorem zb4 {w:Wor} (h:HyU.zcw w):Hy.Wor.okW w:=by
 have r:1048576000 * 100<=reachBytes:=by decide
 have b:=sB
 refine ⟨by have:=h.pins;omega,⟨fun v hv=>?_,by have:=h.zd.2;omega⟩,⟨fun l hl=>?_,by have:=h.zc.2;omega⟩,⟨fun x hx=>?_,by have:=h.counts.2;omega⟩,by have:=h.zg;omega⟩
 ·obtain ⟨⟨⟨s1,s2⟩,⟨s3,s4⟩,s5,s6⟩,s7,s8⟩:=h.zd.1 v hv
  refine ⟨⟨⟨fun x hx=>?_,by omega⟩,⟨fun x hx=>?_,by omega⟩,⟨fun x hx=>?_,by omega⟩⟩,⟨fun g hg=>?_,by omega⟩⟩
  ·have:=s1 x hx
   unfold HyU.wL at this
   show x.length<=_
   omega
  ·have:=s3 x hx
   unfold HyU.zjR HyU.wL at this
   exact ⟨by omega,by omega⟩
  ·have:=s5 x hx
   unfold HyU.ziY HyU.wL at this
   exact ⟨by omega,by omega⟩
  ·have:=s7 g hg
   exact ⟨this.1,fun e he=>(zlr (this.2.1 e he)),by have:=this.2.2;omega⟩
 ·have:=h.zc.1 l hl
  unfold HyU.zkv HyU.wL at this
  exact ⟨by omega,this.2⟩
 ·have:=h.counts.1 x hx
  exact ⟨this.1,by omega⟩
theorem zmI {s:Sna} (h:HyU.zlP s):yr s:=by
 have b:=sB
 obtain ⟨⟨s1,s2⟩,⟨s3,s4⟩,s5,s6⟩:=h
 refine ⟨⟨by omega,fun x hx=>?_⟩,⟨by omega,fun x hx=>?_⟩,⟨by omega,fun x hx=>?_⟩⟩
 ·have:=s1 x hx
  unfold HyU.wL at this
  omega
 ·have:=s3 x hx
  unfold HyU.zjR HyU.wL at this
  exact ⟨by omega,by omega⟩
 ·have:=s5 x hx
  unfold HyU.ziY HyU.wL at this
  exact ⟨by omega,by omega⟩
theorem zmO {w:Wor} (h:HyU.zcw w):TyW 50000000 w:=by
 have b:=sB
 refine ⟨by have:=h.zd.2;omega,by have:=h.zc.2;omega,by have:=h.zg;omega,fun v hv=>?_,fun l hl=>(zb4 h).zc.1 l hl⟩
 have q:=h.zd.1 v hv
 exact ⟨zmI q.1,fun g hg=>⟨(q.2.1 g hg).1,fun e he=>zlr ((q.2.1 g hg).2.1 e he)⟩⟩
theorem zmX {w:Wor} (h:HyU.zcw w):OkW w:=by
 have b:=sB
 refine ⟨by have:=h.pins;omega,⟨by have:=h.zd.2;omega,fun v hv=>?_⟩,⟨by have:=h.zc.2;omega,fun l hl=>(zb4 h).zc.1 l hl⟩,⟨by have:=h.counts.2;omega,fun x hx=>by have:=(h.counts.1 x hx).2;omega⟩,by have:=h.zg;omega⟩
 have q:=h.zd.1 v hv
 exact ⟨zmI q.1,by have:=q.2.2;omega,fun g hg=>⟨by have:=(q.2.1 g hg).2.2;omega,fun e he=>zlr ((q.2.1 g hg).2.1 e he)⟩⟩
theorem zk0 {w:Wor} (h:HyU.zcw w):Cal 9223372036854775807 w:=
 ⟨fun l hl=>((zb4 h).zc.1 l hl).2.2,fun v hv g hg e he=>(((zmO h).okv v hv).2 g hg).2 e he |>.2.2.2⟩
theorem zhG {w:Wor} (n:Int) (h:HyU.zcw w) (hb:j8 w=true):zb Tryz.prog 7 [] [Cw w,I n] (Bo true) []:=by
 obtain ⟨x,e,hx⟩:=zgR n (zmX h) (fun hw=>⟨qB.1 hw,zmO h,zk0 h⟩) (by omega)
 refine zb.zm (fn:=Tryz.f7) Tryz.func7 rfl ?_
 conv=>whnf
 refine ⟨_,_,(hx).frame rfl _,?_⟩;refine dd ?_
 refine ⟨_,_,(kp w (zj5 (zb4 h)).wk).frame rfl _,?_⟩;refine dd ?_
 rw [hb]
 (repeat ((first | apply ya | apply yb);refine dd ?_))
 refine ⟨_,_,(jm).frame rfl _,?_⟩;refine dd ?_
 (repeat ((first | apply ya | apply yb);refine dd ?_))
 exact ⟨.inl rfl,_,.refl _,rfl⟩
theorem ziH {w:Wor} (n:Int) (h:HyU.zcw w) (h1:j8 w=false) (hx:zb Tryz.prog 32 [] [Sw w,I n] (.tup [Sw y4,I 1]) []):zb Tryz.prog 7 [] [Cw w,I n] (Bo true) []:=by
 have hk:=zj5 (zb4 h)
 refine zb.zm (fn:=Tryz.f7) Tryz.func7 rfl ?_
 conv=>whnf
 refine ⟨_,_,(hx).frame rfl _,?_⟩;refine dd ?_
 refine ⟨_,_,(kp w hk.wk).frame rfl _,?_⟩;refine dd ?_
 rw [h1]
 (repeat ((first | apply ya | apply yb);refine dd ?_))
 refine ⟨_,_,(zaA w hk.wk).frame rfl _,?_⟩;refine dd ?_
 refine ⟨fun h2=>?_,fun h2=>?_⟩
 ·refine dd ?_
  (try (repeat ((first | apply ya | apply yb);refine dd ?_)))
  refine ⟨_,_,(jm).frame rfl _,?_⟩;refine dd ?_
  (repeat ((first | apply ya | apply yb);refine dd ?_))
  exact ⟨.inl rfl,_,.refl _,rfl⟩
 ·refine dd ?_
  (try (repeat ((first | apply ya | apply yb);refine dd ?_)))
  refine ⟨_,_,(jm).frame rfl _,?_⟩;refine dd ?_
  (repeat ((first | apply ya | apply yb);refine dd ?_))
  exact ⟨.inl rfl,_,.refl _,rfl⟩
theorem zhH {w:Wor} (M:Nat) (h:HyU.zcw w) (h1:j8 w=false) (h3:qa w=true) (h5:M<=10) (hx:zb Tryz.prog 32 [] [Sw w,I M] (.tup [Sw (qZ M w),I 0]) []):zb Tryz.prog 7 [] [Cw w,I M] (Bo true) []:=by
 have hw:=zb4 h
 have hk:=zj5 hw
 refine zb.zm (fn:=Tryz.f7) Tryz.func7 rfl ?_
 conv=>whnf
 refine ⟨_,_,(hx).frame rfl _,?_⟩;refine dd ?_
 refine ⟨_,_,(kp w hk.wk).frame rfl _,?_⟩;refine dd ?_
 rw [h1]
 (repeat ((first | apply ya | apply yb);refine dd ?_))
 refine ⟨_,_,(zaA w hk.wk).frame rfl _,?_⟩;refine dd ?_
 refine ⟨fun h2=>?_,fun h2=>?_⟩
 rotate_left
 ·refine dd ?_
  (try (repeat ((first | apply ya | apply yb);refine dd ?_)))
  refine ⟨_,_,(jm).frame rfl _,?_⟩;refine dd ?_
  (repeat ((first | apply ya | apply yb);refine dd ?_))
  exact ⟨.inl rfl,_,.refl _,rfl⟩
 have h2:yQ w=false:=by simpa using h2
 have cal:=zlq h2
 refine dd ?_
 (try (repeat ((first | apply ya | apply yb);refine dd ?_)))
 refine ⟨_,_,(jJ w (zl1 h1)).frame rfl _,?_⟩;refine dd ?_
 refine ⟨fun h6=>?_,fun h6=>?_⟩
 rotate_left
 ·refine dd ?_
  (try (repeat ((first | apply ya | apply yb);refine dd ?_)))
  refine ⟨_,_,(jm).frame rfl _,?_⟩;refine dd ?_
  (repeat ((first | apply ya | apply yb);refine dd ?_))
  exact ⟨.inl rfl,_,.refl _,rfl⟩
 have h6:isQ w=true:=by simpa using h6
 obtain ⟨st,hs⟩:=zld hw h1 cal h3
 have few:=zdk h1 st.jF
 have hm:M * qy w<=10 * 2000:=Nat.mul_le_mul (by omega) few
 obtain ⟨K',s'⟩:=zbp st M (by omega)
 have ok':=zhs s'.jF s'.ty (by omega)
 have w':qa (qZ M w)=true:=qB.2 s'.jF
 have he:w.zj<=1000000:=by
  unfold yQ at h2
  simp only [Bool.or_eq_false_iff,decide_eq_false_iff_not] at h2
  omega
 obtain ⟨q',e'⟩:=zfl (zhm.1 h6) he M (by omega)
 have q':=zhm.2 q'
 have c':=zeL w M
 refine dd ?_
 refine ⟨_,_,(jm).frame rfl _,?_⟩;refine dd ?_
 (repeat ((first | apply ya | apply yb);refine dd ?_))
 refine ⟨_,_,(jJ (qZ M w) (zep ok')).frame rfl _,?_⟩;refine dd ?_
 rw [q']
 (repeat ((first | apply ya | apply yb);refine dd ?_))
 refine ⟨_,_,(jK (qZ M w) ok').frame rfl _,?_⟩;refine dd ?_
 rw [w']
 (repeat ((first | apply ya | apply yb);refine dd ?_))
 have gr:=qb.1 st.jF.ground
 have k1:((qZ M w).zj == IntKind.i64.wrap (w.zj+(M:Int)))=true:=by
  rw [qf (by have:=gr.zj;omega) (by omega),e']
  exact beq_self_eq_true _
 have k2:((qZ M w).current == w.current)=true:=by
  rw [c']
  exact beq_self_eq_true _
 refine ⟨fun _=>?_,fun h=>absurd (k1.symm.trans h) (by decide)⟩
 refine dd ?_
 refine ⟨fun _=>?_,fun h=>absurd (k2.symm.trans h) (by decide)⟩
 refine dd ?_
 exact ⟨.inl rfl,_,.refl _,rfl⟩
theorem quietAgain_sound (w:Wor) (n:Int) (h:HyU.zcw w):zb Tryz.prog 7 [] [Cw w,I n] (Bo true) []:=by
 by_cases h1:j8 w=true
 ·exact zhG n h h1
 have h1:j8 w=false:=by simpa using h1
 have hw:=zb4 h
 have hx:=yP (K:=9223372036854775807) n (zlD hw h1) (fun h3=>zld hw h1 (zk0 h) h3)
 by_cases h3:qa w=true∧0<=n∧n<=10
 ·have e:xo w n=(qZ n.toNat w,0):=if_pos h3
  rw [e] at hx
  obtain ⟨M,rfl⟩:∃ M:Nat,n=M:=⟨n.toNat,by omega⟩
  exact zhH M h h1 h3.1 (by omega) hx
 ·have e:xo w n=(y4,1):=if_neg h3
  rw [e] at hx
  exact ziH n h h1 hx
end Go.Wor
