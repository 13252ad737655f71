import Derived.Test.YtoeaoedlpmohoaaGreatS0
set_option linter.all false
set_option maxRecDepth 100000
set_option maxHeartbeats 4000000
namespace Go.Cal
open Go.Ab Go.Proofs Tryz Go.Hy
def N7{l:List Cal}{t o:Int}{k:Nat}(hk:k<l.length)(hr:∀j,(h:j<l.length)->j<k->¬(l[j].zg=t/\l[j].op=o))(h1:l[k].zg=t)(h2:l[k].op=o):zD l t o=some k:=by
 unfold zD;rw[pO];refine⟨hk,by simp[h1,h2],λj hj=>?_⟩;have:=hr j aw hj;simpa using this
abbrev Ro:lM:=⟨4,0,0,0,0,0,0,kK⟩
abbrev p0:lD:=⟨1,0,0,0,0,false,0,true,false,false,vG⟩
abbrev p1:lD:=⟨0,0,0,0,0,false,0,true,true,false,vG⟩
abbrev p2:lD:=⟨0,0,0,0,0,false,0,false,false,true,Ro⟩
abbrev p3:lD:=⟨1,0,0,0,0,false,0,false,true,false,vG⟩
abbrev p4:lD:=⟨0,0,0,0,0,false,0,true,false,false,vG⟩
abbrev p5:lD:=⟨0,1,0,0,0,false,0,true,false,true,vG⟩
abbrev kf:List lD:=[p0,p1,p2,p3]
abbrev cA:Cal:=⟨1,0,0,3, -1,vG⟩
abbrev cB:Cal:=⟨0,0,1,1,2,Ro⟩
def Dr:l8 kf=([cA,cB],0):=by kernel_rfl
def Qo:l8 [p1,p2,p3]=([],11):=by kernel_rfl
def Qp:l8 [p0,p1,p2,p4]=([],11):=by kernel_rfl
def zr0(X:Ob):tp 134 [X] [.lq 1 0 [],I 0,I 0,.fn 68 [] [.ref 0 [] 1 0 0]] (.lK []) [X]:=by
 refine zc.zM (fn:=f134) func134 O (uH ?_);refine .Fi 1 (.step ?_);conv=>whnf
 refine tf ?_
 exact gV
def zlu(X:Ob):tp 96 [X] [.lq 1 0 [],I 0,.fn 68 [] [.ref 0 [] 1 0 0]] (.lK []) [X]:=by
 refine zc.zM (fn:=f96) func96 O (uH ?_);refine .Fi 1 (.step ?_);conv=>whnf
 refine tf ?_
 refine .inr ⟨aj,uH ?_⟩;refine⟨_,_,zr0 X,dd ?_⟩;refine .Fi 1 (.step ?_);conv=>whnf
 refine tf ?_
 exact gV
def M0(X:Ob):tp 67 [X] [.lq 1 0 [],.fn 68 [] [.ref 0 [] 1 0 0]] (.lK []) [X]:=by
 refine zc.zM (fn:=f67) func67 O (uH ?_);refine⟨_,_,zlu X,dd ?_⟩;exact dx
end Go.Cal
