import Derived.Test.YtkbnjgogjccmfaaGreatRJ
import Derived.Test.YtkbnjgogjccmfaaGreatProg
set_option linter.all false
set_option maxRecDepth 100000
set_option maxHeartbeats 4000000
namespace Go.Hy
open Go.Ab Go.Proofs Tryz
def wf_i64 {n:Int} (h:(Lit.int .i64 n).wf=true):i64 n:=by
 simpa [Lit.wf,IntKind.min,IntKind.max,IntKind.signed,IntKind.bits,i64] using h
def vP:qe prog 9 (fun s:uu=>[Tx s]) (fun s=>s.length<=reachBytes):=
 qe.map (qe.string underlying9) (fun s=>s.data.toList) fun s h=>⟨h,rfl⟩
def KF:qe prog 28 (fun l:List Int=>[lI l]) (fun l=>(∀ x ∈ l,(Lit.int .i64 x).wf=true)∧l.length * 8<=reachBytes):=
 qe.slice (sz:=1) (by_:=8) underlying28 au au ar (fun _=>rfl) (qe.int underlying3)
def arg_lI:Ak prog 28 lI (fun l:List Int=>(∀ x ∈ l,(Lit.int .i64 x).wf=true)∧l.length * 8<=reachBytes):=qe.QZ underlying28 KF
def Ht {P:Program} {e:TypeId} {H X:Type} (f:Nat->Option (DataW H × X)):∀ (is:List Nat) (xs:List (DataW H × X)),is.mapM f=some xs->DataW.weightsEach P (is.map fun _=>e) (xs.map (·.1))=DataW.weightsAll P e (xs.map (·.1))
 | [],xs,h=>by
  rw [List.mapM_nil] at h;cases h
  rfl
 | i::is,xs,h=>by
  rw [r6] at h;cases h1:f i with
  | none=>rw [h1] at h;cases h
  | some x=>
   rw [h1] at h;cases h2:is.mapM f with
   | none=>rw [h2] at h;cases h
   | some r=>
    rw [h2] at h;cases h
    simp only [pE,DataW.weightsEach,DataW.weightsAll,Ht f is r h2]
def fieldAt (P:Program) (e:TypeId) (i:Nat):Field:={ (default:Field) with type:=e,offset:=i * P.cellsOf e }
def qe.array {P:Program} {t e:TypeId} {n:Nat} {α:Type} {enc:α->List C} {wf:α->Prop} (ht:P.underlying t=some (.array n e)) (hc:P.cellsOf t=(((List.range n).map (fieldAt P e)).map fun f=>P.cellsOf f.type).sum) (h:q6 P ((List.range n).map (fieldAt P e)) 0 enc wf):qe P t enc wf:=by
 intro H eH w fuel cs d ps hr hf;cases fuel with
 | zero=>cases hr
 | succ fuel=>
  unfold DataW.trod at hr;rw [ht] at hr;dsimp only at hr;split at hr
  ·rename_i hl;cases h2:((List.range n).mapM fun i=>DataW.trod eH P w 0 (fun _=>true) true fuel e ((cs.drop (i * P.cellsOf e)).take (P.cellsOf e))) with
   | none=>rw [h2] at hr;cases hr
   | some xs=>
    rw [h2] at hr;cases hr
    have h3:(((List.range n).map (fieldAt P e)).mapM fun f=>DataW.trod eH P w 0 (fun _=>true) true fuel f.type ((cs.drop f.offset).take (P.cellsOf f.type)))=some xs:=by
     rw [List.mapM_map];exact h2
    have h4:(DataW.weightsEach P (((List.range n).map (fieldAt P e)).map (·.type)) (xs.map (·.1))).all (·<=reachBytes)=true:=by
     have e1:((List.range n).map (fieldAt P e)).map (·.type)=(List.range n).map fun _=>e:=by rw [pT];rfl
     rw [e1,Ht _ _ _ h2];simpa [fits,DataW.weights,ht] using hf
    obtain ⟨x,h5,h6,h7⟩:=h eH w fuel cs xs h3 h4 (by rw [hl,hc];simp);exact ⟨x,h5,aq h6,aq h7⟩
  ·cases hr
def mR.ok (s:mR):Prop:=True
def uv.ok (e:uv):Prop:=True
def Dj (s:uu):Prop:=s.length<=reachBytes
def eC.ok (c:eC):Prop:=c.name.length<=reachBytes∧c.zL.length<=reachBytes
def lf.ok (r:lf):Prop:=r.listen.length<=reachBytes∧r.host.length<=reachBytes∧r.path.length<=reachBytes∧r.zg.length<=reachBytes
def eG.ok (c:eG):Prop:=((∀ s ∈ c.zd,Dj s)∧c.zd.length * 16<=reachBytes)∧((∀ r ∈ c.zQ,r.ok)∧c.zQ.length * 64<=reachBytes)∧((∀ x ∈ c.zk,x.ok)∧c.zk.length * 56<=reachBytes)
def ef.ok (o:ef):Prop:=o.listen.length<=reachBytes∧o.host.length<=reachBytes∧o.path.length<=reachBytes∧o.config.ok
def Up:qe prog 4 y7 (fun _=>True):=qe.map (qe.bool underlying4) (fun b=>b) fun b h=>⟨trivial,rfl⟩
def T4:qe prog 127 (fun l:List Bool=>[lB l]) (fun l=>(∀ x ∈ l,True)∧l.length * 1<=reachBytes):=
 qe.slice (sz:=1) (by_:=1) underlying127 au au ar (fun _=>rfl) Up
def Uq:qe prog 9 qj Dj:=qe.map (qe.string underlying9) (fun s=>s.data.toList) fun s h=>⟨h,rfl⟩
def Tl:qe prog 22 (fun l:List uu=>[lT l]) (fun l=>(∀ x ∈ l,Dj x)∧l.length * 16<=reachBytes):=
 qe.slice (sz:=1) (by_:=16) underlying22 au au ar (fun _=>rfl) Uq
def RH:qe prog 129 jV eC.ok:=
 qe.map (qe.struct underlying129 au (q6.cons rfl (vP) (q6.cons rfl (qe.int underlying3) (q6.cons rfl (qe.int underlying3) (q6.cons rfl T4 (q6.nil _)))))) (fun x=>⟨x.1,x.2.1,x.2.2.1,x.2.2.2.1⟩) fun x h=>⟨⟨h.1,by have:=h.2.2.2.1.2;rw [sg] at this;exact this⟩,rfl⟩
def T5:qe prog 24 (fun l:List eC=>[lC l]) (fun l=>(∀ x ∈ l,x.ok)∧l.length * 56<=reachBytes):=
 qe.slice (sz:=4) (by_:=56) underlying24 au au ar (fun _=>rfl) RH
def RI:qe prog 131 kJ lf.ok:=
 qe.map (qe.struct underlying131 au (q6.cons rfl (vP) (q6.cons rfl (vP) (q6.cons rfl (vP) (q6.cons rfl (vP) (q6.nil _)))))) (fun x=>⟨x.1,x.2.1,x.2.2.1,x.2.2.2.1⟩) fun x h=>⟨⟨h.1,h.2.1,h.2.2.1,h.2.2.2.1⟩,rfl⟩
def T6:qe prog 23 (fun l:List lf=>[lO l]) (fun l=>(∀ x ∈ l,x.ok)∧l.length * 64<=reachBytes):=
 qe.slice (sz:=4) (by_:=64) underlying23 au au ar (fun _=>rfl) RI
def JP:qe prog 26 lH eG.ok:=
 qe.map (qe.struct underlying26 au (q6.cons rfl Tl (q6.cons rfl T6 (q6.cons rfl T5 (q6.nil _))))) (fun x=>⟨x.1,x.2.1,x.2.2.1⟩) fun x h=>⟨⟨h.1,h.2.1,h.2.2.1⟩,rfl⟩
def ez.ok (s:ez):Prop:=s.first.ok∧((∀ x ∈ s.threads,(∀ o ∈ x,o.ok)∧x.length * 152<=reachBytes)∧s.threads.length * 24<=reachBytes)
end Go.Hy
