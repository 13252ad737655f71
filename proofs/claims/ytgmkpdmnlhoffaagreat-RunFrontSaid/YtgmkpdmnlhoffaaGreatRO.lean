import Derived.Test.YtgmkpdmnlhoffaaGreatRJ
import Derived.Test.YtgmkpdmnlhoffaaGreatProg
set_option linter.all false
set_option maxRecDepth 100000
set_option maxHeartbeats 4000000
namespace Go.Hy
open Go.Ab Go.Proofs
theorem wf_i64 {n:Int} (h:(Lit.int .i64 n).wf=true):i64 n:=by
 simpa [Lit.wf,IntKind.min,IntKind.max,IntKind.signed,IntKind.bits,i64] using h
theorem vB:qd Tryz.prog 9 (fun s:Str=>[Tx s]) (fun s=>s.length<=reachBytes):=
 qd.map (qd.string Tryz.underlying9) (fun s=>s.data.toList) fun s h=>⟨h,rfl⟩
theorem arg_int:zbp Tryz.prog 3 I (fun n=>(Lit.int .i64 n).wf=true):=qd.zsJ Tryz.underlying3
theorem zrO:qd Tryz.prog 22 (fun l:List Int=>[lI l]) (fun l=>(∀ x ∈ l,(Lit.int .i64 x).wf=true)∧l.length * 8<=reachBytes):=
 qd.slice (sz:=1) (by_:=8) Tryz.underlying22 (by kernel_rfl) (by kernel_rfl) (by decide) (fun _=>rfl) (qd.int Tryz.underlying3)
theorem zdw {P:Program} {e:TypeId} {H X:Type} (f:Nat->Option (DataW H × X)):∀ (is:List Nat) (xs:List (DataW H × X)),is.mapM f=some xs->DataW.weightsEach P (is.map fun _=>e) (xs.map (·.1))=DataW.weightsAll P e (xs.map (·.1))
 | [],xs,h=>by
  rw [List.mapM_nil] at h;cases h
  rfl
 | i::is,xs,h=>by
  rw [List.mapM_cons] at h;cases h1:f i with
  | none=>rw [h1] at h;cases h
  | some x=>
   rw [h1] at h;cases h2:is.mapM f with
   | none=>rw [h2] at h;cases h
   | some r=>
    rw [h2] at h;cases h
    simp only [List.map_cons,DataW.weightsEach,DataW.weightsAll,zdw f is r h2]
def fieldAt (P:Program) (e:TypeId) (i:Nat):Field:={ (default:Field) with type:=e,offset:=i * P.cellsOf e }
theorem qd.array {P:Program} {t e:TypeId} {n:Nat} {α:Type} {enc:α->List C} {wf:α->Prop} (ht:P.underlying t=some (.array n e)) (hc:P.cellsOf t=(((List.range n).map (fieldAt P e)).map fun f=>P.cellsOf f.type).sum) (h:qW P ((List.range n).map (fieldAt P e)) 0 enc wf):qd P t enc wf:=by
 intro H eH w fuel cs d ps hr hf;cases fuel with
 | zero=>cases hr
 | succ fuel=>
  unfold DataW.trod at hr;rw [ht] at hr;dsimp only at hr;split at hr
  ·rename_i hl;cases h2:((List.range n).mapM fun i=>DataW.trod eH P w 0 (fun _=>true) true fuel e ((cs.drop (i * P.cellsOf e)).take (P.cellsOf e))) with
   | none=>rw [h2] at hr;cases hr
   | some xs=>
    rw [h2] at hr;cases hr
    have h3:(((List.range n).map (fieldAt P e)).mapM fun f=>DataW.trod eH P w 0 (fun _=>true) true fuel f.type ((cs.drop f.offset).take (P.cellsOf f.type)))=some xs:=by
     rw [List.mapM_map];exact h2
    have h4:(DataW.weightsEach P (((List.range n).map (fieldAt P e)).map (·.type)) (xs.map (·.1))).all (·<=reachBytes)=true:=by
     have e1:((List.range n).map (fieldAt P e)).map (·.type)=(List.range n).map fun _=>e:=by rw [List.map_map];rfl
     rw [e1,zdw _ _ _ h2];simpa [fits,DataW.weights,ht] using hf
    obtain ⟨x,h5,h6,h7⟩:=h eH w fuel cs xs h3 h4 (by rw [hl,hc];simp);exact ⟨x,h5,by simpa using h6,by simpa using h7⟩
  ·cases hr
def Six.ok (s:Six):Prop:=True
def Eve.ok (e:Eve):Prop:=True
def zmN (s:Str):Prop:=s.length<=reachBytes
def Clu.ok (c:Clu):Prop:=c.name.length<=reachBytes∧c.zR.length<=reachBytes
def Rou.ok (r:Rou):Prop:=r.listen.length<=reachBytes∧r.host.length<=reachBytes∧r.path.length<=reachBytes∧r.zf.length<=reachBytes
def Cfg.ok (c:Cfg):Prop:=((∀ s ∈ c.zd,zmN s)∧c.zd.length * 16<=reachBytes)∧((∀ r ∈ c.zP,r.ok)∧c.zP.length * 64<=reachBytes)∧((∀ x ∈ c.zl,x.ok)∧c.zl.length * 56<=reachBytes)
def Opn.ok (o:Opn):Prop:=o.listen.length<=reachBytes∧o.host.length<=reachBytes∧o.path.length<=reachBytes∧o.config.ok
theorem zs8:qd Tryz.prog 4 vH (fun _=>True):=qd.map (qd.bool Tryz.underlying4) (fun b=>b) fun b h=>⟨trivial,rfl⟩
theorem zrM:qd Tryz.prog 120 (fun l:List Bool=>[lB l]) (fun l=>(∀ x ∈ l,True)∧l.length * 1<=reachBytes):=
 qd.slice (sz:=1) (by_:=1) Tryz.underlying120 (by kernel_rfl) (by kernel_rfl) (by decide) (fun _=>rfl) zs8
theorem zs9:qd Tryz.prog 9 ql zmN:=qd.map (qd.string Tryz.underlying9) (fun s=>s.data.toList) fun s h=>⟨h,rfl⟩
theorem zrQ:qd Tryz.prog 36 (fun l:List Str=>[lT l]) (fun l=>(∀ x ∈ l,zmN x)∧l.length * 16<=reachBytes):=
 qd.slice (sz:=1) (by_:=16) Tryz.underlying36 (by kernel_rfl) (by kernel_rfl) (by decide) (fun _=>rfl) zs9
theorem zqi:qd Tryz.prog 122 jU Clu.ok:=
 qd.map (qd.struct Tryz.underlying122 (by kernel_rfl) (qW.cons rfl (vB) (qW.cons rfl (qd.int Tryz.underlying3) (qW.cons rfl (qd.int Tryz.underlying3) (qW.cons rfl zrM (qW.nil _)))))) (fun x=>⟨x.1,x.2.1,x.2.2.1,x.2.2.2.1⟩) fun x h=>⟨⟨h.1,by have:=h.2.2.2.1.2;rw [Nat.mul_one] at this;exact this⟩,rfl⟩
theorem zrN:qd Tryz.prog 38 (fun l:List Clu=>[lC l]) (fun l=>(∀ x ∈ l,x.ok)∧l.length * 56<=reachBytes):=
 qd.slice (sz:=4) (by_:=56) Tryz.underlying38 (by kernel_rfl) (by kernel_rfl) (by decide) (fun _=>rfl) zqi
theorem zqj:qd Tryz.prog 124 ky Rou.ok:=
 qd.map (qd.struct Tryz.underlying124 (by kernel_rfl) (qW.cons rfl (vB) (qW.cons rfl (vB) (qW.cons rfl (vB) (qW.cons rfl (vB) (qW.nil _)))))) (fun x=>⟨x.1,x.2.1,x.2.2.1,x.2.2.2.1⟩) fun x h=>⟨⟨h.1,h.2.1,h.2.2.1,h.2.2.2.1⟩,rfl⟩
theorem zrP:qd Tryz.prog 37 (fun l:List Rou=>[lO l]) (fun l=>(∀ x ∈ l,x.ok)∧l.length * 64<=reachBytes):=
 qd.slice (sz:=4) (by_:=64) Tryz.underlying37 (by kernel_rfl) (by kernel_rfl) (by decide) (fun _=>rfl) zqj
theorem zj0:qd Tryz.prog 40 zdJ Cfg.ok:=
 qd.map (qd.struct Tryz.underlying40 (by kernel_rfl) (qW.cons rfl zrQ (qW.cons rfl zrP (qW.cons rfl zrN (qW.nil _))))) (fun x=>⟨x.1,x.2.1,x.2.2.1⟩) fun x h=>⟨⟨h.1,h.2.1,h.2.2.1⟩,rfl⟩
def Scr.ok (s:Scr):Prop:=s.first.ok∧((∀ x ∈ s.threads,(∀ o ∈ x,o.ok)∧x.length * 152<=reachBytes)∧s.threads.length * 24<=reachBytes)
end Go.Hy
