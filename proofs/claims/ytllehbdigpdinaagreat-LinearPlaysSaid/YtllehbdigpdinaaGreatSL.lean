import Derived.Test.YtllehbdigpdinaaGreatS0
set_option linter.all false
set_option maxRecDepth 100000
set_option maxHeartbeats 4000000
namespace Go.Cal
open Go.Ab Go.Proofs Tryz Go.Hy
def Ig{l:List Cal}{t o:Int}{k:Nat}(hk:k<l.length)(hr:∀j,(h:j<l.length)->j<k->¬(l[j].zf=t/\l[j].op=o))(h1:l[k].zf=t)(h2:l[k].op=o):zx l t o=some k:=by
 unfold zx;rw[gJ];refine⟨hk,by simp[h1,h2],λj hj=>?_⟩;have:=hr j aw hj;simpa using this
abbrev PV:ff:=⟨4,0,0,0,0,0,0,i4⟩
abbrev p0:eV:=⟨1,0,0,0,0,false,0,true,false,false,y6⟩
abbrev p1:eV:=⟨0,0,0,0,0,false,0,true,true,false,y6⟩
abbrev p2:eV:=⟨0,0,0,0,0,false,0,false,false,true,PV⟩
abbrev p3:eV:=⟨1,0,0,0,0,false,0,false,true,false,y6⟩
abbrev p4:eV:=⟨0,0,0,0,0,false,0,true,false,false,y6⟩
abbrev p5:eV:=⟨0,1,0,0,0,false,0,true,false,true,y6⟩
abbrev zxL:List eV:=[p0,p1,p2,p3]
abbrev cA:Cal:=⟨1,0,0,3, -1,y6⟩
abbrev cB:Cal:=⟨0,0,1,1,2,PV⟩
def Ct:fC zxL=([cA,cB],0):=by kernel_rfl
def Uj(X:Ob):tn 142 [X] [.eS 1 0 [],I 0,I 0,.fn 54 [] [.ref 0 [] 1 0 0]] (.fb []) [X]:=by
 refine zb.zG (fn:=f142) func142 O (uH ?_);refine .Bc 1 (.step ?_);conv=>whnf
 refine tc ?_
 exact dV
def Rr(X:Ob):tn 94 [X] [.eS 1 0 [],I 0,.fn 54 [] [.ref 0 [] 1 0 0]] (.fb []) [X]:=by
 refine zb.zG (fn:=f94) func94 O (uH ?_);refine .Bc 1 (.step ?_);conv=>whnf
 refine tc ?_
 refine .inr ⟨aj,uH ?_⟩;refine⟨_,_,Uj X,dd ?_⟩;refine .Bc 1 (.step ?_);conv=>whnf
 refine tc ?_
 exact dV
def SW(X:Ob):tn 53 [X] [.eS 1 0 [],.fn 54 [] [.ref 0 [] 1 0 0]] (.fb []) [X]:=by
 refine zb.zG (fn:=f53) func53 O (uH ?_);refine⟨_,_,Rr X,dd ?_⟩;exact c8
end Go.Cal
