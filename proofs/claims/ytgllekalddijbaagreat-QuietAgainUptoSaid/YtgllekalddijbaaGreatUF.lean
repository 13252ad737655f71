import Derived.Test.YtgllekalddijbaaGreatUE
set_option linter.unusedVariables false
set_option linter.unusedSimpArgs false
set_option linter.unusedSectionVars false
set_option maxRecDepth 100000
set_option maxHeartbeats 4000000
namespace Go.Sna
open Go.Ab Go.Proofs Go.Hy Go.Gat Go.Nam Go.Hos Go.Con
def zlw (h:List Bool):Nat->List Int
 | 0=>[]
 | k+1=>if h[k]?= some true then zlw h k++[(k:Int)] else zlw h k
end Go.Sna
namespace Go.Sna
open Go.Ab Go.Proofs Go.Hy Go.Gat Go.Nam Go.Hos Go.Con
def zmj (r:Rul) (n:Int) (h p:Str):Bool:=r.listen == n && zlB r.host h && zlY p r.path
def zll (r:Rul):Prop:=r.host.length < 1000000000000∧r.path.length < 1000000000000
def bst (l:List Rul) (n:Int) (h p:Str):Nat->Int
 | 0=> -1
 | k+1=>match l[k]? with
  | none=>bst l n h p k
  | some r=>if zmj r n h p then (match l[(bst l n h p k).toNat]? with
    | none=>(k:Int)
    | some b=>if bst l n h p k < 0∨zke r.host r.path b.host b.path=true then (k:Int) else bst l n h p k) else bst l n h p k
def ziP (l:List Rul) (n:Int) (h p:Str):Int × Int:=if bst l n h p l.length < 0 then (0,5) else (bst l n h p l.length,0)
end Go.Sna
namespace Go.Sna
open Go.Ab Go.Proofs Go.Hy Go.Gat Go.Nam Go.Hos Go.Con
abbrev Cs (s:Sna):C:=.agg (zba s)
abbrev t3 (r:Sna × Int × Int):C:=.tup [Cs r.1,I r.2.1,I r.2.2]
structure zlk (s:Sna):Prop where
 zc:s.zc.length < 1000000000000
 rules:s.rules.length < 1000000000000∧∀ r ∈ s.rules,zll r
def zlv (s:Sna) (n h p:Str):Int × Int:=
 if zcE s.zc n < 0 then (0,3) else if (ziP s.rules (zcE s.zc n) h p).2≠0 then (0,(ziP s.rules (zcE s.zc n) h p).2)
 else match s.rules[(ziP s.rules (zcE s.zc n) h p).1.toNat]? with
  | some r=>(r.zn,0)
  | none=>(0,0)
end Go.Sna
namespace Go.Sna
open Go.Ab Go.Proofs Go.Hy Go.Gat Go.Nam Go.Hos Go.Con
end Go.Sna
