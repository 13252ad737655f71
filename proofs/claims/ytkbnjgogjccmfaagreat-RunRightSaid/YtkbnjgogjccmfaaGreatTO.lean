import Derived.Test.YtkbnjgogjccmfaaGreatTJ
import Derived.Test.YtkbnjgogjccmfaaGreatProg
set_option linter.all false
set_option maxRecDepth 100000
set_option maxHeartbeats 4000000
namespace Go.Hy
open Go.Ab Go.Proofs Tryz
def wf_i64 {n:Int} (h:(Lit.int .i64 n).wf=true):i64 n:=by
 simpa [Lit.wf,IntKind.min,IntKind.max,IntKind.signed,IntKind.bits,i64] using h
def kc:qo prog 9 (fun s:u4=>[Tx s]) (fun s=>s.length<=reachBytes):=
 qo.map (qo.string underlying9) (fun s=>s.data.toList) fun s h=>⟨h,rfl⟩
def Vh:qo prog 28 (fun l:List Int=>[lI l]) (fun l=>(∀ x ∈ l,(Lit.int .i64 x).wf=true)∧l.length * 8<=reachBytes):=
 qo.slice (sz:=1) (by_:=8) underlying28 au au ar (fun _=>rfl) (qo.int underlying3)
def IF {P:Program} {e:TypeId} {H X:Type} (f:Nat->Option (DataW H × X)):∀ (is:List Nat) (xs:List (DataW H × X)),is.mapM f=some xs->DataW.weightsEach P (is.map fun _=>e) (xs.map (·.1))=DataW.weightsAll P e (xs.map (·.1))
 | [],xs,h=>by
  rw [List.mapM_nil] at h;cases h
  rfl
 | i::is,xs,h=>by
  rw [se] at h;cases h1:f i with
  | none=>rw [h1] at h;cases h
  | some x=>
   rw [h1] at h;cases h2:is.mapM f with
   | none=>rw [h2] at h;cases h
   | some r=>
    rw [h2] at h;cases h
    simp only [pI,DataW.weightsEach,DataW.weightsAll,IF f is r h2]
def fieldAt (P:Program) (e:TypeId) (i:Nat):Field:={ (default:Field) with type:=e,offset:=i * P.cellsOf e }
def qo.array {P:Program} {t e:TypeId} {n:Nat} {α:Type} {enc:α->List C} {wf:α->Prop} (ht:P.underlying t=some (.array n e)) (hc:P.cellsOf t=(((List.range n).map (fieldAt P e)).map fun f=>P.cellsOf f.type).sum) (h:ja P ((List.range n).map (fieldAt P e)) 0 enc wf):qo P t enc wf:=by
 intro H eH w fuel cs d ps hr hf;cases fuel with
 | zero=>cases hr
 | succ fuel=>
  unfold DataW.trod at hr;rw [ht] at hr;dsimp only at hr;split at hr
  ·rename_i hl;cases h2:((List.range n).mapM fun i=>DataW.trod eH P w 0 (fun _=>true) true fuel e ((cs.drop (i * P.cellsOf e)).take (P.cellsOf e))) with
   | none=>rw [h2] at hr;cases hr
   | some xs=>
    rw [h2] at hr;cases hr
    have h3:(((List.range n).map (fieldAt P e)).mapM fun f=>DataW.trod eH P w 0 (fun _=>true) true fuel f.type ((cs.drop f.offset).take (P.cellsOf f.type)))=some xs:=by
     rw [List.mapM_map];exact h2
    have h4:(DataW.weightsEach P (((List.range n).map (fieldAt P e)).map (·.type)) (xs.map (·.1))).all (·<=reachBytes)=true:=by
     have e1:((List.range n).map (fieldAt P e)).map (·.type)=(List.range n).map fun _=>e:=by rw [pX];rfl
     rw [e1,IF _ _ _ h2];simpa [fits,DataW.weights,ht] using hf
    obtain ⟨x,h5,h6,h7⟩:=h eH w fuel cs xs h3 h4 (by rw [hl,hc];simp);exact ⟨x,h5,aq h6,aq h7⟩
  ·cases hr
def mi.ok (s:mi):Prop:=True
def uz.ok (e:uz):Prop:=True
def Bj (s:u4):Prop:=s.length<=reachBytes
def eM.ok (c:eM):Prop:=c.name.length<=reachBytes∧c.zL.length<=reachBytes
def lb.ok (r:lb):Prop:=r.listen.length<=reachBytes∧r.host.length<=reachBytes∧r.path.length<=reachBytes∧r.zi.length<=reachBytes
def eP.ok (c:eP):Prop:=((∀ s ∈ c.zd,Bj s)∧c.zd.length * 16<=reachBytes)∧((∀ r ∈ c.zP,r.ok)∧c.zP.length * 64<=reachBytes)∧((∀ x ∈ c.zk,x.ok)∧c.zk.length * 56<=reachBytes)
def eD.ok (o:eD):Prop:=o.listen.length<=reachBytes∧o.host.length<=reachBytes∧o.path.length<=reachBytes∧o.config.ok
def VI:qo prog 4 vq (fun _=>True):=qo.map (qo.bool underlying4) (fun b=>b) fun b h=>⟨trivial,rfl⟩
def Vf:qo prog 127 (fun l:List Bool=>[lB l]) (fun l=>(∀ x ∈ l,True)∧l.length * 1<=reachBytes):=
 qo.slice (sz:=1) (by_:=1) underlying127 au au ar (fun _=>rfl) VI
def VJ:qo prog 9 ql Bj:=qo.map (qo.string underlying9) (fun s=>s.data.toList) fun s h=>⟨h,rfl⟩
def Vj:qo prog 22 (fun l:List u4=>[lT l]) (fun l=>(∀ x ∈ l,Bj x)∧l.length * 16<=reachBytes):=
 qo.slice (sz:=1) (by_:=16) underlying22 au au ar (fun _=>rfl) VJ
def Tk:qo prog 129 j6 eM.ok:=
 qo.map (qo.struct underlying129 au (ja.cons rfl (kc) (ja.cons rfl (qo.int underlying3) (ja.cons rfl (qo.int underlying3) (ja.cons rfl Vf (ja.nil _)))))) (fun x=>⟨x.1,x.2.1,x.2.2.1,x.2.2.2.1⟩) fun x h=>⟨⟨h.1,by have:=h.2.2.2.1.2;rw [sD] at this;exact this⟩,rfl⟩
def Vg:qo prog 24 (fun l:List eM=>[lC l]) (fun l=>(∀ x ∈ l,x.ok)∧l.length * 56<=reachBytes):=
 qo.slice (sz:=4) (by_:=56) underlying24 au au ar (fun _=>rfl) Tk
def Tl:qo prog 131 wb lb.ok:=
 qo.map (qo.struct underlying131 au (ja.cons rfl (kc) (ja.cons rfl (kc) (ja.cons rfl (kc) (ja.cons rfl (kc) (ja.nil _)))))) (fun x=>⟨x.1,x.2.1,x.2.2.1,x.2.2.2.1⟩) fun x h=>⟨⟨h.1,h.2.1,h.2.2.1,h.2.2.2.1⟩,rfl⟩
def Vi:qo prog 23 (fun l:List lb=>[lO l]) (fun l=>(∀ x ∈ l,x.ok)∧l.length * 64<=reachBytes):=
 qo.slice (sz:=4) (by_:=64) underlying23 au au ar (fun _=>rfl) Tl
def K9:qo prog 26 mf eP.ok:=
 qo.map (qo.struct underlying26 au (ja.cons rfl Vj (ja.cons rfl Vi (ja.cons rfl Vg (ja.nil _))))) (fun x=>⟨x.1,x.2.1,x.2.2.1⟩) fun x h=>⟨⟨h.1,h.2.1,h.2.2.1⟩,rfl⟩
def eF.ok (s:eF):Prop:=s.first.ok∧((∀ x ∈ s.threads,(∀ o ∈ x,o.ok)∧x.length * 152<=reachBytes)∧s.threads.length * 24<=reachBytes)
end Go.Hy
