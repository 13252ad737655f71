import Derived.Test.YtoeaoedlpmohoaaGreatT0
set_option linter.all false
set_option maxRecDepth 100000
set_option maxHeartbeats 4000000
namespace Go.Cal
open Go.Ab Go.Proofs Tryz Go.Hy
abbrev Qh:fA:=⟨4,0,0,0,0,0,0,vq⟩
abbrev p0:fk:=⟨1,0,0,0,0,false,0,true,false,false,yI⟩
abbrev p1:fk:=⟨0,0,0,0,0,false,0,true,true,false,yI⟩
abbrev p2:fk:=⟨0,0,0,0,0,false,0,false,false,true,Qh⟩
abbrev p3:fk:=⟨1,0,0,0,0,false,0,false,true,false,yI⟩
abbrev p4:fk:=⟨0,0,0,0,0,false,0,true,false,false,yI⟩
abbrev p5:fk:=⟨0,1,0,0,0,false,0,true,false,true,yI⟩
abbrev yZ:List fk:=[p0,p1,p2,p3]
abbrev cA:Cal:=⟨1,0,0,3, -1,yI⟩
abbrev cB:Cal:=⟨0,0,1,1,2,Qh⟩
def Ay:ib yZ=([cA,cB],0):=by kernel_rfl
def KG:ib [p1,p2,p3]=([],11):=by kernel_rfl
def KH:ib [p0,p1,p2,p4]=([],11):=by kernel_rfl
def Tt(X:Ob):tj 134 [X] [.fh 1 0 [],I 0,I 0,.fn 68 [] [.ref 0 [] 1 0 0]] (.fq []) [X]:=by
 refine zb.zL (fn:=f134) func134 J (uH ?_);refine .CG 1 (.step ?_);conv=>whnf
 refine hZ ?_
 refine .inr ⟨aj,uH ?_⟩;exact cX
def RC(X:Ob):tj 96 [X] [.fh 1 0 [],I 0,.fn 68 [] [.ref 0 [] 1 0 0]] (.fq []) [X]:=by
 refine zb.zL (fn:=f96) func96 J (uH ?_);refine .CG 1 (.step ?_);conv=>whnf
 refine hZ ?_
 refine .inr ⟨aj,uH ?_⟩;refine⟨_,_,Tt X,dd ?_⟩;refine .CG 1 (.step ?_);conv=>whnf
 refine hZ ?_
 refine .inr ⟨aj,uH ?_⟩;exact cX
def Lv(X:Ob):tj 67 [X] [.fh 1 0 [],.fn 68 [] [.ref 0 [] 1 0 0]] (.fq []) [X]:=by
 refine zb.zL (fn:=f67) func67 J (uH ?_);refine⟨_,_,RC X,dd ?_⟩;exact cX
end Go.Cal
