import Derived.Test.YtkbnjgogjccmfaaGreatSJ
import Derived.Test.YtkbnjgogjccmfaaGreatProg
set_option linter.all false
set_option maxRecDepth 100000
set_option maxHeartbeats 4000000
namespace Go.Hy
open Go.Ab Go.Proofs Tryz
def wf_i64 {n:Int} (h:(Lit.int .i64 n).wf=true):i64 n:=by
 simpa [Lit.wf,IntKind.min,IntKind.max,IntKind.signed,IntKind.bits,i64] using h
def kn:qs prog 9 (fun s:ec=>[Tx s]) (fun s=>s.length<=reachBytes):=
 qs.map (qs.string underlying9) (fun s=>s.data.toList) fun s h=>⟨h,rfl⟩
def U8:qs prog 28 (fun l:List Int=>[lI l]) (fun l=>(∀ x ∈ l,(Lit.int .i64 x).wf=true)∧l.length * 8<=reachBytes):=
 qs.slice (sz:=1) (by_:=8) underlying28 au au ar (fun _=>rfl) (qs.int underlying3)
def IU {P:Program} {e:TypeId} {H X:Type} (f:Nat->Option (DataW H × X)):∀ (is:List Nat) (xs:List (DataW H × X)),is.mapM f=some xs->DataW.weightsEach P (is.map fun _=>e) (xs.map (·.1))=DataW.weightsAll P e (xs.map (·.1))
 | [],xs,h=>by
  rw [List.mapM_nil] at h;cases h
  rfl
 | i::is,xs,h=>by
  rw [sq] at h;cases h1:f i with
  | none=>rw [h1] at h;cases h
  | some x=>
   rw [h1] at h;cases h2:is.mapM f with
   | none=>rw [h2] at h;cases h
   | some r=>
    rw [h2] at h;cases h
    simp only [pF,DataW.weightsEach,DataW.weightsAll,IU f is r h2]
def fieldAt (P:Program) (e:TypeId) (i:Nat):Field:={ (default:Field) with type:=e,offset:=i * P.cellsOf e }
def qs.array {P:Program} {t e:TypeId} {n:Nat} {α:Type} {enc:α->List C} {wf:α->Prop} (ht:P.underlying t=some (.array n e)) (hc:P.cellsOf t=(((List.range n).map (fieldAt P e)).map fun f=>P.cellsOf f.type).sum) (h:jd P ((List.range n).map (fieldAt P e)) 0 enc wf):qs P t enc wf:=by
 intro H eH w fuel cs d ps hr hf;cases fuel with
 | zero=>cases hr
 | succ fuel=>
  unfold DataW.trod at hr;rw [ht] at hr;dsimp only at hr;split at hr
  ·rename_i hl;cases h2:((List.range n).mapM fun i=>DataW.trod eH P w 0 (fun _=>true) true fuel e ((cs.drop (i * P.cellsOf e)).take (P.cellsOf e))) with
   | none=>rw [h2] at hr;cases hr
   | some xs=>
    rw [h2] at hr;cases hr
    have h3:(((List.range n).map (fieldAt P e)).mapM fun f=>DataW.trod eH P w 0 (fun _=>true) true fuel f.type ((cs.drop f.offset).take (P.cellsOf f.type)))=some xs:=by
     rw [List.mapM_map];exact h2
    have h4:(DataW.weightsEach P (((List.range n).map (fieldAt P e)).map (·.type)) (xs.map (·.1))).all (·<=reachBytes)=true:=by
     have e1:((List.range n).map (fieldAt P e)).map (·.type)=(List.range n).map fun _=>e:=by rw [pX];rfl
     rw [e1,IU _ _ _ h2];simpa [fits,DataW.weights,ht] using hf
    obtain ⟨x,h5,h6,h7⟩:=h eH w fuel cs xs h3 h4 (by rw [hl,hc];simp);exact ⟨x,h5,aq h6,aq h7⟩
  ·cases hr
def mB.ok (s:mB):Prop:=True
def u6.ok (e:u6):Prop:=True
def Eo (s:ec):Prop:=s.length<=reachBytes
def eV.ok (c:eV):Prop:=c.name.length<=reachBytes∧c.zL.length<=reachBytes
def l8.ok (r:l8):Prop:=r.listen.length<=reachBytes∧r.host.length<=reachBytes∧r.path.length<=reachBytes∧r.zi.length<=reachBytes
def fb.ok (c:fb):Prop:=((∀ s ∈ c.zd,Eo s)∧c.zd.length * 16<=reachBytes)∧((∀ r ∈ c.zR,r.ok)∧c.zR.length * 64<=reachBytes)∧((∀ x ∈ c.zk,x.ok)∧c.zk.length * 56<=reachBytes)
def eK.ok (o:eK):Prop:=o.listen.length<=reachBytes∧o.host.length<=reachBytes∧o.path.length<=reachBytes∧o.config.ok
def WE:qs prog 4 vr (fun _=>True):=qs.map (qs.bool underlying4) (fun b=>b) fun b h=>⟨trivial,rfl⟩
def U6:qs prog 127 (fun l:List Bool=>[lB l]) (fun l=>(∀ x ∈ l,True)∧l.length * 1<=reachBytes):=
 qs.slice (sz:=1) (by_:=1) underlying127 au au ar (fun _=>rfl) WE
def WG:qs prog 9 qm Eo:=qs.map (qs.string underlying9) (fun s=>s.data.toList) fun s h=>⟨h,rfl⟩
def Va:qs prog 22 (fun l:List ec=>[lT l]) (fun l=>(∀ x ∈ l,Eo x)∧l.length * 16<=reachBytes):=
 qs.slice (sz:=1) (by_:=16) underlying22 au au ar (fun _=>rfl) WG
def Tq:qs prog 129 xa eV.ok:=
 qs.map (qs.struct underlying129 au (jd.cons rfl (kn) (jd.cons rfl (qs.int underlying3) (jd.cons rfl (qs.int underlying3) (jd.cons rfl U6 (jd.nil _)))))) (fun x=>⟨x.1,x.2.1,x.2.2.1,x.2.2.2.1⟩) fun x h=>⟨⟨h.1,by have:=h.2.2.2.1.2;rw [sG] at this;exact this⟩,rfl⟩
def U7:qs prog 24 (fun l:List eV=>[lC l]) (fun l=>(∀ x ∈ l,x.ok)∧l.length * 56<=reachBytes):=
 qs.slice (sz:=4) (by_:=56) underlying24 au au ar (fun _=>rfl) Tq
def Ts:qs prog 131 wi l8.ok:=
 qs.map (qs.struct underlying131 au (jd.cons rfl (kn) (jd.cons rfl (kn) (jd.cons rfl (kn) (jd.cons rfl (kn) (jd.nil _)))))) (fun x=>⟨x.1,x.2.1,x.2.2.1,x.2.2.2.1⟩) fun x h=>⟨⟨h.1,h.2.1,h.2.2.1,h.2.2.2.1⟩,rfl⟩
def U9:qs prog 23 (fun l:List l8=>[lO l]) (fun l=>(∀ x ∈ l,x.ok)∧l.length * 64<=reachBytes):=
 qs.slice (sz:=4) (by_:=64) underlying23 au au ar (fun _=>rfl) Ts
def Lz:qs prog 26 mw fb.ok:=
 qs.map (qs.struct underlying26 au (jd.cons rfl Va (jd.cons rfl U9 (jd.cons rfl U7 (jd.nil _))))) (fun x=>⟨x.1,x.2.1,x.2.2.1⟩) fun x h=>⟨⟨h.1,h.2.1,h.2.2.1⟩,rfl⟩
def eP.ok (s:eP):Prop:=s.first.ok∧((∀ x ∈ s.threads,(∀ o ∈ x,o.ok)∧x.length * 152<=reachBytes)∧s.threads.length * 24<=reachBytes)
end Go.Hy
