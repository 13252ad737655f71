import Derived.Test.YtdgkfpgepoelcaaGreatSE
set_option linter.all false
set_option maxRecDepth 100000
set_option maxHeartbeats 4000000
namespace Go.Sna
open Go.Ab Go.Proofs Tryz Go.Hy Go.Gat Go.Nam Go.Hos Go.Con
def nK(h:List Bool):Nat->List Int
 |0=>[]
 |k+1=>if h[k]?=some true then nK h k++[(k:Int)] else nK h k
def Jw(r:sN)(n:Int)(h p:rK):Bool:=r.listen == n && IH r.host h && Jo p r.path
def IU(r:sN):Prop:=r.host.length<4000000000000/\r.path.length<4000000000000
def uk(l:List sN)(n:Int)(h p:rK):Nat->Int
 |0=> -1
 |k+1=>match l[k]? with
  |none=>uk l n h p k
  |some r=>if Jw r n h p then (match l[(uk l n h p k).toNat]? with
    |none=>(k:Int)
    |some b=>if uk l n h p k<0\/Im r.host r.path b.host b.path=true then (k:Int) else uk l n h p k) else uk l n h p k
def ny(l:List sN)(n:Int)(h p:rK):Int×Int:=if uk l n h p l.length<0 then (0,5) else (uk l n h p l.length,0)
abbrev Cs(s:Sna):C:=.agg (xf s)
abbrev t3(r:Sna×Int×Int):C:=.rO [Cs r.1,I r.2.1,I r.2.2]
structure IT(s:Sna):Prop where
 zc:s.zc.length<1000000000000
 rules:s.rules.length<1000000000000/\∀r∈s.rules,IU r
def IE(s:Sna)(n h p:rK):Int×Int:=
 if vH s.zc n<0 then (0,3) else if (ny s.rules (vH s.zc n) h p).2≠0 then (0,(ny s.rules (vH s.zc n) h p).2)
 else match s.rules[(ny s.rules (vH s.zc n) h p).1.toNat]? with
  |some r=>(r.zn,0)
  |none=>(0,0)
end Go.Sna
