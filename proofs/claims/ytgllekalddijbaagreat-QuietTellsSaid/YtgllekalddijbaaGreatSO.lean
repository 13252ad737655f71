import Derived.Test.YtgllekalddijbaaGreatSJ
import Derived.Test.YtgllekalddijbaaGreatProg
set_option linter.unusedVariables false
set_option linter.unusedSimpArgs false
set_option linter.unusedSectionVars false
set_option maxRecDepth 100000
set_option maxHeartbeats 4000000
namespace Go.Hy
open Go.Ab Go.Proofs
theorem wf_i64 {n:Int} (h:(Lit.int .i64 n).wf=true):i64 n:=by
 simpa [Lit.wf,IntKind.min,IntKind.max,IntKind.signed,IntKind.bits,i64] using h
theorem wf_u64 {n:Int} (h:(Lit.int .u64 n).wf=true):u64 n:=by
 simpa [Lit.wf,IntKind.min,IntKind.max,IntKind.signed,IntKind.bits,u64] using h
theorem jt:zo Tryz.prog 9 (fun s:Str=>[Tx s]) (fun s=>s.length<=reachBytes):=
 zo.map (zo.string Tryz.underlying9) (fun s=>s.data.toList) fun s h=>⟨h,rfl⟩
end Go.Hy
namespace Go.Hy
open Go.Ab Go.Proofs
theorem zd7:zo Tryz.prog 22 (fun l:List Int=>[lI l]) (fun l=>(∀ x ∈ l,(Lit.int .i64 x).wf=true)∧l.length * 8<=reachBytes):=
 zo.slice (sz:=1) (by_:=8) Tryz.underlying22 (by kernel_rfl) (by kernel_rfl) (by decide) (fun _=>rfl) (zo.int Tryz.underlying3)
end Go.Hy
namespace Go.Hy
open Go.Ab Go.Proofs
theorem wS {P:Program} {e:TypeId} {H X:Type} (f:Nat->Option (DataW H × X)):∀ (is:List Nat) (xs:List (DataW H × X)),is.mapM f=some xs->DataW.weightsEach P (is.map fun _=>e) (xs.map (·.1))=DataW.weightsAll P e (xs.map (·.1))
 | [],xs,h=>by
  rw [List.mapM_nil] at h
  cases h
  rfl
 | i::is,xs,h=>by
  rw [List.mapM_cons] at h
  cases h1:f i with
  | none=>rw [h1] at h;cases h
  | some x=>
   rw [h1] at h
   cases h2:is.mapM f with
   | none=>rw [h2] at h;cases h
   | some r=>
    rw [h2] at h
    cases h
    simp only [List.map_cons,DataW.weightsEach,DataW.weightsAll,wS f is r h2]
def fieldAt (P:Program) (e:TypeId) (i:Nat):Field:={ (default:Field) with type:=e,offset:=i * P.cellsOf e }
theorem zo.array {P:Program} {t e:TypeId} {n:Nat} {α:Type} {enc:α->List C} {wf:α->Prop} (ht:P.underlying t=some (.array n e)) (hc:P.cellsOf t=(((List.range n).map (fieldAt P e)).map fun f=>P.cellsOf f.type).sum) (h:zu P ((List.range n).map (fieldAt P e)) 0 enc wf):zo P t enc wf:=by
 intro H eH w fuel cs d ps hr hf
 cases fuel with
 | zero=>cases hr
 | succ fuel=>
  unfold DataW.trod at hr
  rw [ht] at hr
  dsimp only at hr
  split at hr
  ·rename_i hl
   cases h2:((List.range n).mapM fun i=>DataW.trod eH P w 0 (fun _=>true) true fuel e ((cs.drop (i * P.cellsOf e)).take (P.cellsOf e))) with
   | none=>rw [h2] at hr;cases hr
   | some xs=>
    rw [h2] at hr
    cases hr
    have h3:(((List.range n).map (fieldAt P e)).mapM fun f=>DataW.trod eH P w 0 (fun _=>true) true fuel f.type ((cs.drop f.offset).take (P.cellsOf f.type)))=some xs:=by
     rw [List.mapM_map];exact h2
    have h4:(DataW.weightsEach P (((List.range n).map (fieldAt P e)).map (·.type)) (xs.map (·.1))).all (·<=reachBytes)=true:=by
     have e1:((List.range n).map (fieldAt P e)).map (·.type)=(List.range n).map fun _=>e:=by rw [List.map_map];rfl
     rw [e1,wS _ _ _ h2]
     simpa [fits,DataW.weights,ht] using hf
    obtain ⟨x,h5,h6,h7⟩:=h eH w fuel cs xs h3 h4 (by rw [hl,hc];simp)
    exact ⟨x,h5,by simpa using h6,by simpa using h7⟩
  ·cases hr
def Six.ok (s:Six):Prop:=True
def Eve.ok (e:Eve):Prop:=True
end Go.Hy
namespace Go.Hy
open Go.Ab Go.Proofs
def zes (s:Str):Prop:=s.length<=reachBytes
def Clu.ok (c:Clu):Prop:=c.name.length<=reachBytes∧c.zQ.length<=reachBytes
def Rou.ok (r:Rou):Prop:=r.listen.length<=reachBytes∧r.host.length<=reachBytes∧r.path.length<=reachBytes∧r.zm.length<=reachBytes
def Cfg.ok (c:Cfg):Prop:=((∀ s ∈ c.zc,zes s)∧c.zc.length * 16<=reachBytes)∧((∀ r ∈ c.zC,r.ok)∧c.zC.length * 64<=reachBytes)∧((∀ x ∈ c.zf,x.ok)∧c.zf.length * 56<=reachBytes)
def Opn.ok (o:Opn):Prop:=o.listen.length<=reachBytes∧o.host.length<=reachBytes∧o.path.length<=reachBytes∧o.config.ok
theorem zlu:zo Tryz.prog 4 xW (fun _=>True):=zo.map (zo.bool Tryz.underlying4) (fun b=>b) fun b h=>⟨trivial,rfl⟩
theorem zkp:zo Tryz.prog 146 (fun l:List Bool=>[lB l]) (fun l=>(∀ x ∈ l,True)∧l.length * 1<=reachBytes):=
 zo.slice (sz:=1) (by_:=1) Tryz.underlying146 (by kernel_rfl) (by kernel_rfl) (by decide) (fun _=>rfl) zlu
theorem zlv:zo Tryz.prog 9 wc zes:=zo.map (zo.string Tryz.underlying9) (fun s=>s.data.toList) fun s h=>⟨h,rfl⟩
theorem zhq:zo Tryz.prog 29 (fun l:List Str=>[lT l]) (fun l=>(∀ x ∈ l,zes x)∧l.length * 16<=reachBytes):=
 zo.slice (sz:=1) (by_:=16) Tryz.underlying29 (by kernel_rfl) (by kernel_rfl) (by decide) (fun _=>rfl) zlv
theorem zjo:zo Tryz.prog 148 jA Clu.ok:=
 zo.map (zo.struct Tryz.underlying148 (by kernel_rfl) (zu.cons rfl (jt) (zu.cons rfl (zo.int Tryz.underlying3) (zu.cons rfl (zo.int Tryz.underlying3) (zu.cons rfl zkp (zu.nil _)))))) (fun x=>⟨x.1,x.2.1,x.2.2.1,x.2.2.2.1⟩) fun x h=>⟨⟨h.1,by have:=h.2.2.2.1.2;rw [Nat.mul_one] at this;exact this⟩,rfl⟩
theorem zhp:zo Tryz.prog 31 (fun l:List Clu=>[lC l]) (fun l=>(∀ x ∈ l,x.ok)∧l.length * 56<=reachBytes):=
 zo.slice (sz:=4) (by_:=56) Tryz.underlying31 (by kernel_rfl) (by kernel_rfl) (by decide) (fun _=>rfl) zjo
theorem zjs:zo Tryz.prog 150 yE Rou.ok:=
 zo.map (zo.struct Tryz.underlying150 (by kernel_rfl) (zu.cons rfl (jt) (zu.cons rfl (jt) (zu.cons rfl (jt) (zu.cons rfl (jt) (zu.nil _)))))) (fun x=>⟨x.1,x.2.1,x.2.2.1,x.2.2.2.1⟩) fun x h=>⟨⟨h.1,h.2.1,h.2.2.1,h.2.2.2.1⟩,rfl⟩
theorem zkq:zo Tryz.prog 30 (fun l:List Rou=>[lO l]) (fun l=>(∀ x ∈ l,x.ok)∧l.length * 64<=reachBytes):=
 zo.slice (sz:=4) (by_:=64) Tryz.underlying30 (by kernel_rfl) (by kernel_rfl) (by decide) (fun _=>rfl) zjs
theorem zfh:zo Tryz.prog 33 zcC Cfg.ok:=
 zo.map (zo.struct Tryz.underlying33 (by kernel_rfl) (zu.cons rfl zhq (zu.cons rfl zkq (zu.cons rfl zhp (zu.nil _))))) (fun x=>⟨x.1,x.2.1,x.2.2.1⟩) fun x h=>⟨⟨h.1,h.2.1,h.2.2.1⟩,rfl⟩
theorem zjr:zo Tryz.prog 35 wb Opn.ok:=
 zo.map (zo.struct Tryz.underlying35 (by kernel_rfl) (zu.cons rfl (zo.int Tryz.underlying3) (zu.cons rfl (jt) (zu.cons rfl (jt) (zu.cons rfl (jt) (zu.cons rfl (zo.int Tryz.underlying3) (zu.cons rfl (zo.int Tryz.underlying3) (zu.cons rfl (zo.int Tryz.underlying3) (zu.cons rfl zfh (zu.nil _)))))))))) (fun x=>⟨x.1,x.2.1,x.2.2.1,x.2.2.2.1,x.2.2.2.2.1,x.2.2.2.2.2.1,x.2.2.2.2.2.2.1,x.2.2.2.2.2.2.2.1⟩) fun x h=>⟨⟨h.2.1,h.2.2.1,h.2.2.2.1,h.2.2.2.2.2.2.2.1⟩,by simp [wb]⟩
theorem zkr:zo Tryz.prog 65 (fun l:List Opn=>[lP l]) (fun l=>(∀ x ∈ l,x.ok)∧l.length * 152<=reachBytes):=
 zo.slice (sz:=10) (by_:=152) Tryz.underlying65 (by kernel_rfl) (by kernel_rfl) (by decide) (fun _=>rfl) zjr
theorem zii:zo Tryz.prog 52 (fun l:List (List Opn)=>[zll l]) (fun l=>(∀ x ∈ l,(∀ o ∈ x,o.ok)∧x.length * 152<=reachBytes)∧l.length * 24<=reachBytes):=
 zo.slice (sz:=1) (by_:=24) Tryz.underlying52 (by kernel_rfl) (by kernel_rfl) (by decide) (fun _=>rfl) zkr
def Scr.ok (s:Scr):Prop:=s.first.ok∧((∀ x ∈ s.threads,(∀ o ∈ x,o.ok)∧x.length * 152<=reachBytes)∧s.threads.length * 24<=reachBytes)
theorem zjt:zo Tryz.prog 54 vx Scr.ok:=
 zo.map (zo.struct Tryz.underlying54 (by kernel_rfl) (zu.cons rfl zfh (zu.cons rfl zii (zu.cons rfl zd7 (zu.nil _))))) (fun x=>⟨x.1,x.2.1,x.2.2.1⟩) fun x h=>⟨⟨h.1,h.2.1⟩,by simp [vx]⟩
theorem arg_Scr:zbi Tryz.prog 54 (fun x=>.agg (vx x)) Scr.ok:=zo.zcT Tryz.underlying54 zjt
end Go.Hy
namespace Go.Hy
open Go.Ab Go.Proofs
end Go.Hy
