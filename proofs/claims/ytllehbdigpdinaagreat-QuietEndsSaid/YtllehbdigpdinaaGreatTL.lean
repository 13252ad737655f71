import Derived.Test.YtllehbdigpdinaaGreatT0
set_option linter.all false
set_option maxRecDepth 100000
set_option maxHeartbeats 4000000
namespace Go.Cal
open Go.Ab Go.Proofs Tryz Go.Hy
abbrev NB:fN:=⟨4,0,0,0,0,0,0,vd⟩
abbrev p0:fG:=⟨1,0,0,0,0,false,0,true,false,false,yL⟩
abbrev p1:fG:=⟨0,0,0,0,0,false,0,true,true,false,yL⟩
abbrev p2:fG:=⟨0,0,0,0,0,false,0,false,false,true,NB⟩
abbrev p3:fG:=⟨1,0,0,0,0,false,0,false,true,false,yL⟩
abbrev p4:fG:=⟨0,0,0,0,0,false,0,true,false,false,yL⟩
abbrev p5:fG:=⟨0,1,0,0,0,false,0,true,false,true,yL⟩
abbrev CJ:List fG:=[p0,p1,p2,p3]
abbrev cA:Cal:=⟨1,0,0,3, -1,yL⟩
abbrev cB:Cal:=⟨0,0,1,1,2,NB⟩
def Bp:iH CJ=([cA,cB],0):=by kernel_rfl
def Na:iH [p1,p2,p3]=([],11):=by kernel_rfl
def Nb:iH [p0,p1,p2,p4]=([],11):=by kernel_rfl
def Yl(X:Ob):tj 142 [X] [.fF 1 0 [],I 0,I 0,.fn 54 [] [.ref 0 [] 1 0 0]] (.fJ []) [X]:=by
 refine zb.zN (fn:=f142) func142 V (uH ?_);refine .BV 1 (.step ?_);conv=>whnf
 refine hZ ?_
 refine zaJ ?_;exact de
def Wt(X:Ob):tj 94 [X] [.fF 1 0 [],I 0,.fn 54 [] [.ref 0 [] 1 0 0]] (.fJ []) [X]:=by
 refine zb.zN (fn:=f94) func94 V (uH ?_);refine .BV 1 (.step ?_);conv=>whnf
 refine hZ ?_
 refine zaJ ?_;refine⟨_,_,Yl X,dd ?_⟩;refine .BV 1 (.step ?_);conv=>whnf
 refine hZ ?_
 refine zaJ ?_;exact de
def OJ(X:Ob):tj 53 [X] [.fF 1 0 [],.fn 54 [] [.ref 0 [] 1 0 0]] (.fJ []) [X]:=by
 refine zb.zN (fn:=f53) func53 V (uH ?_);refine⟨_,_,Wt X,dd ?_⟩;exact de
end Go.Cal
