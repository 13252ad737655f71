import Derived.Test.YtgllekalddijbaaGreatTJ
import Derived.Test.YtgllekalddijbaaGreatProg
set_option linter.unusedVariables false
set_option linter.unusedSimpArgs false
set_option linter.unusedSectionVars false
set_option maxRecDepth 100000
set_option maxHeartbeats 4000000
namespace Go.Hy
open Go.Ab Go.Proofs
theorem kC:zP Tryz.prog 9 (fun s:Str=>[Tx s]) (fun s=>s.length<=reachBytes):=
 zP.map (zP.string Tryz.underlying9) (fun s=>s.data.toList) fun s h=>⟨h,rfl⟩
theorem arg_int:kS Tryz.prog 3 I (fun n=>(Lit.int .i64 n).wf=true):=zP.zl8 Tryz.underlying3
end Go.Hy
namespace Go.Hy
open Go.Ab Go.Proofs
end Go.Hy
namespace Go.Hy
open Go.Ab Go.Proofs
theorem zaQ {P:Program} {e:TypeId} {H X:Type} (f:Nat->Option (DataW H × X)):∀ (is:List Nat) (xs:List (DataW H × X)),is.mapM f=some xs->DataW.weightsEach P (is.map fun _=>e) (xs.map (·.1))=DataW.weightsAll P e (xs.map (·.1))
 | [],xs,h=>by
  rw [List.mapM_nil] at h
  cases h
  rfl
 | i::is,xs,h=>by
  rw [List.mapM_cons] at h
  cases h1:f i with
  | none=>rw [h1] at h;cases h
  | some x=>
   rw [h1] at h
   cases h2:is.mapM f with
   | none=>rw [h2] at h;cases h
   | some r=>
    rw [h2] at h
    cases h
    simp only [List.map_cons,DataW.weightsEach,DataW.weightsAll,zaQ f is r h2]
def fieldAt (P:Program) (e:TypeId) (i:Nat):Field:={ (default:Field) with type:=e,offset:=i * P.cellsOf e }
theorem zP.array {P:Program} {t e:TypeId} {n:Nat} {α:Type} {enc:α->List C} {wf:α->Prop} (ht:P.underlying t=some (.array n e)) (hc:P.cellsOf t=(((List.range n).map (fieldAt P e)).map fun f=>P.cellsOf f.type).sum) (h:q7 P ((List.range n).map (fieldAt P e)) 0 enc wf):zP P t enc wf:=by
 intro H eH w fuel cs d ps hr hf
 cases fuel with
 | zero=>cases hr
 | succ fuel=>
  unfold DataW.trod at hr
  rw [ht] at hr
  dsimp only at hr
  split at hr
  ·rename_i hl
   cases h2:((List.range n).mapM fun i=>DataW.trod eH P w 0 (fun _=>true) true fuel e ((cs.drop (i * P.cellsOf e)).take (P.cellsOf e))) with
   | none=>rw [h2] at hr;cases hr
   | some xs=>
    rw [h2] at hr
    cases hr
    have h3:(((List.range n).map (fieldAt P e)).mapM fun f=>DataW.trod eH P w 0 (fun _=>true) true fuel f.type ((cs.drop f.offset).take (P.cellsOf f.type)))=some xs:=by
     rw [List.mapM_map];exact h2
    have h4:(DataW.weightsEach P (((List.range n).map (fieldAt P e)).map (·.type)) (xs.map (·.1))).all (·<=reachBytes)=true:=by
     have e1:((List.range n).map (fieldAt P e)).map (·.type)=(List.range n).map fun _=>e:=by rw [List.map_map];rfl
     rw [e1,zaQ _ _ _ h2]
     simpa [fits,DataW.weights,ht] using hf
    obtain ⟨x,h5,h6,h7⟩:=h eH w fuel cs xs h3 h4 (by rw [hl,hc];simp)
    exact ⟨x,h5,by simpa using h6,by simpa using h7⟩
  ·cases hr
def Six.ok (s:Six):Prop:=True
def Eve.ok (e:Eve):Prop:=True
end Go.Hy
namespace Go.Hy
open Go.Ab Go.Proofs
def zfy (s:Str):Prop:=s.length<=reachBytes
def Clu.ok (c:Clu):Prop:=c.name.length<=reachBytes∧c.zV.length<=reachBytes
def Rou.ok (r:Rou):Prop:=r.listen.length<=reachBytes∧r.host.length<=reachBytes∧r.path.length<=reachBytes∧r.zl.length<=reachBytes
def Cfg.ok (c:Cfg):Prop:=((∀ s ∈ c.zc,zfy s)∧c.zc.length * 16<=reachBytes)∧((∀ r ∈ c.zp,r.ok)∧c.zp.length * 64<=reachBytes)∧((∀ x ∈ c.zf,x.ok)∧c.zf.length * 56<=reachBytes)
def Opn.ok (o:Opn):Prop:=o.listen.length<=reachBytes∧o.host.length<=reachBytes∧o.path.length<=reachBytes∧o.config.ok
theorem zmr:zP Tryz.prog 4 yK (fun _=>True):=zP.map (zP.bool Tryz.underlying4) (fun b=>b) fun b h=>⟨trivial,rfl⟩
theorem zll:zP Tryz.prog 146 (fun l:List Bool=>[lB l]) (fun l=>(∀ x ∈ l,True)∧l.length * 1<=reachBytes):=
 zP.slice (sz:=1) (by_:=1) Tryz.underlying146 (by kernel_rfl) (by kernel_rfl) (by decide) (fun _=>rfl) zmr
theorem zms:zP Tryz.prog 9 qA zfy:=zP.map (zP.string Tryz.underlying9) (fun s=>s.data.toList) fun s h=>⟨h,rfl⟩
theorem zlo:zP Tryz.prog 29 (fun l:List Str=>[lT l]) (fun l=>(∀ x ∈ l,zfy x)∧l.length * 16<=reachBytes):=
 zP.slice (sz:=1) (by_:=16) Tryz.underlying29 (by kernel_rfl) (by kernel_rfl) (by decide) (fun _=>rfl) zms
theorem zkl:zP Tryz.prog 148 jJ Clu.ok:=
 zP.map (zP.struct Tryz.underlying148 (by kernel_rfl) (q7.cons rfl (kC) (q7.cons rfl (zP.int Tryz.underlying3) (q7.cons rfl (zP.int Tryz.underlying3) (q7.cons rfl zll (q7.nil _)))))) (fun x=>⟨x.1,x.2.1,x.2.2.1,x.2.2.2.1⟩) fun x h=>⟨⟨h.1,by have:=h.2.2.2.1.2;rw [Nat.mul_one] at this;exact this⟩,rfl⟩
theorem zlm:zP Tryz.prog 31 (fun l:List Clu=>[lC l]) (fun l=>(∀ x ∈ l,x.ok)∧l.length * 56<=reachBytes):=
 zP.slice (sz:=4) (by_:=56) Tryz.underlying31 (by kernel_rfl) (by kernel_rfl) (by decide) (fun _=>rfl) zkl
theorem zkm:zP Tryz.prog 150 yp Rou.ok:=
 zP.map (zP.struct Tryz.underlying150 (by kernel_rfl) (q7.cons rfl (kC) (q7.cons rfl (kC) (q7.cons rfl (kC) (q7.cons rfl (kC) (q7.nil _)))))) (fun x=>⟨x.1,x.2.1,x.2.2.1,x.2.2.2.1⟩) fun x h=>⟨⟨h.1,h.2.1,h.2.2.1,h.2.2.2.1⟩,rfl⟩
theorem zln:zP Tryz.prog 30 (fun l:List Rou=>[lO l]) (fun l=>(∀ x ∈ l,x.ok)∧l.length * 64<=reachBytes):=
 zP.slice (sz:=4) (by_:=64) Tryz.underlying30 (by kernel_rfl) (by kernel_rfl) (by decide) (fun _=>rfl) zkm
theorem zkk:zP Tryz.prog 33 vB Cfg.ok:=
 zP.map (zP.struct Tryz.underlying33 (by kernel_rfl) (q7.cons rfl zlo (q7.cons rfl zln (q7.cons rfl zlm (q7.nil _))))) (fun x=>⟨x.1,x.2.1,x.2.2.1⟩) fun x h=>⟨⟨h.1,h.2.1,h.2.2.1⟩,rfl⟩
theorem arg_Cfg:kS Tryz.prog 33 (fun x=>.agg (vB x)) Cfg.ok:=zP.ziE Tryz.underlying33 zkk
def Scr.ok (s:Scr):Prop:=s.first.ok∧((∀ x ∈ s.threads,(∀ o ∈ x,o.ok)∧x.length * 152<=reachBytes)∧s.threads.length * 24<=reachBytes)
end Go.Hy
namespace Go.Hy
open Go.Ab Go.Proofs
end Go.Hy
