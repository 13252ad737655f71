import Derived.Test.YtkbnjgogjccmfaaGreatRF
import Derived.Test.YtkbnjgogjccmfaaGreatRS
import Derived.Test.YtkbnjgogjccmfaaGreatRT
set_option linter.all false
set_option maxRecDepth 100000
set_option maxHeartbeats 4000000
namespace Go.Wor
open Go.Ab Go.Proofs Tryz Go.Hy Go.Gat Go.Nam Go.Hos Go.Con Go.Sna
def vZ (l:List uu) (n:Int):uu:=if 0<=n∧n < l.length then (l[n.toNat]?).getD [] else []
def vd (l:List eC) (n:Int):uu:=if 0<=n∧n < l.length then ((l[n.toNat]?).map (·.name)).getD [] else []
def nh (s:Sna) (r:iq):lf:=⟨vZ s.zd r.listen,r.host,r.path,vd s.zk r.zg⟩
def ic (s:Sna):eG:=⟨s.zd,s.rules.map (nh s),s.zk⟩
def yZ (s:Sna):Bool:=(q8 (ic s)).1 == 0
structure wA (s:Sna):Prop where
 zd:s.zd.length < 1000000000000∧∀ x ∈ s.zd,x.length < 4000000000000000000
 rules:s.rules.length < 1000000000000∧∀ r ∈ s.rules,r.host.length < 1000000000000∧r.path.length < 1000000000000
 zk:s.zk.length < 1000000000000∧∀ x ∈ s.zk,x.name.length < 4000000000000000000∧x.zL.length < 4000000000000000000
def wA.cfg {s:Sna} (h:wA s):xp (ic s):=by
 refine ⟨h.zd,⟨by simpa [ic] using h.rules.1,fun r hr=>?_⟩,h.zk⟩;simp only [ic,gC] at hr;obtain ⟨q,hq,rfl⟩:=hr;refine ⟨?_,(h.rules.2 q hq).1,(h.rules.2 q hq).2,?_⟩
 ·show (vZ s.zd q.listen).length < _;unfold vZ;split
  ·cases hx:s.zd[q.listen.toNat]? with
   | none=>simp
   | some x=>exact h.zd.2 x (dM hx)
  ·simp
 ·show (vd s.zk q.zg).length < _;unfold vd;split
  ·cases hx:s.zk[q.zg.toNat]? with
   | none=>simp
   | some x=>exact (h.zk.2 x (dM hx)).1
  ·simp
def M3 (s:Sna) (hs:wA s):tn 80 [] [Cs s] (Cf (ic s)) []:=by
 have m1:(s.rules.map yk).length=s.rules.length:=dP ..;have m2:(s.zd.map qj).length=s.zd.length:=dP ..;have m3:(s.zk.map jV).length=s.zk.length:=dP ..;have hl:=hs.rules.1;refine ab func80 ?_;rw [m1];refine z5.seq s.rules.length (fun k=>(.za::.ref 0 [] 3 0 0:: .ref 1 [] 3 0 0:: .ref 2 [] 3 0 0:: .za::tZ (fQ s.rules::I s.rules.length::I k:: .za::.za::.za::.za::.za::tZ (tZ (tZ (tZ (tZ (tZ ([]))))))))) (fun k=>[⟨1,104,3,[qJ s],0⟩,⟨1,26,3,[[.ui 1 0 [],.ui 1 0 [],.ui 1 0 []]],0⟩,⟨1,26,3,[[lT s.zd,.gl 3 4 (((s.rules.take k).map (nh s)).map kJ),lC s.zk]],0⟩,⟨4,131,4,((s.rules.take k).map (nh s)).map kJ,0⟩]) (fun k=>True) ?_ trivial (fun k hk hr=>?_) (fun hr=>?_)
 ·refine zo.trans (zo.mV 2 1 131 4 rfl rfl (.inl rfl) rfl rfl) ?_;exact cC
 ·obtain ⟨r,hx⟩:∃ r,r=s.rules[k]:=⟨_,rfl⟩;have hg:(s.rules.map yk)[k]?= some (yk r):=by rw [dN,dK hk,hx];rfl
  have hlg:(((s.rules.take k).map (nh s)).map kJ).length=k:=aA
  have eg:((s.rules.take (k+1)).map (nh s)).map kJ=((s.rules.take k).map (nh s)).map kJ++[kJ (nh s r)]:=bN
  have hv:∀ a b,a=vZ s.zd r.listen->b=vd s.zk r.zg->kJ ⟨a,r.host,r.path,b⟩=kJ (nh s r):=fun a b h1 h2=>by rw [h1,h2];rfl
  conv=>whnf
  refine uF ?_;(refine td hg ?_)
  refine ⟨fun h1=>?_,fun h1=>?_⟩
  rotate_left
  ·refine dd ?_;refine tc ?_
   refine ⟨fun q1=>?_,fun q1=>?_⟩;rotate_left;(focus (refine dd ?_;refine tc ?_;(refine ⟨rfl,.inr rfl,bO,b8,dd ?_⟩);(refine .inl ⟨rfl,?_,trivial⟩);(rw [zu aw,eg,<- hv _ _ b9 cb]);exact cE 4));refine dd ?_;(rw [m3]);refine ⟨fun q2=>?_,fun q2=>?_⟩;rotate_left;(focus (refine dd ?_;refine tc ?_;(refine ⟨rfl,.inr rfl,bO,b8,dd ?_⟩);(refine .inl ⟨rfl,?_,trivial⟩);(rw [zu aw,eg,<- hv _ _ b9 cf]);exact cE 4));(have q3:r.zg.toNat < s.zk.length:=by simp at q1 q2;omega);(have gq:(s.zk.map jV)[r.zg.toNat]?= some (jV s.zk[r.zg.toNat]):=by rw [dN,dK q3];rfl);refine dd ?_;refine tc ?_;(refine ⟨bS,_,gq,dd ?_⟩);(refine ⟨rfl,.inr rfl,bO,b8,dd ?_⟩);(refine .inl ⟨rfl,?_,trivial⟩);(rw [zu aw,eg,<- hv _ _ b9 (by unfold vd;rw [dO (by simp at q1 q2;omega),dK q3])]);exact cE 4
  refine dd ?_;rw [m2];refine ⟨fun h2=>?_,fun h2=>?_⟩
  rotate_left
  ·refine dd ?_;refine tc ?_
   refine ⟨fun q1=>?_,fun q1=>?_⟩;rotate_left;(focus (refine dd ?_;refine tc ?_;(refine ⟨rfl,.inr rfl,bO,b8,dd ?_⟩);(refine .inl ⟨rfl,?_,trivial⟩);(rw [zu aw,eg,<- hv _ _ cg cb]);exact cE 4));refine dd ?_;(rw [m3]);refine ⟨fun q2=>?_,fun q2=>?_⟩;rotate_left;(focus (refine dd ?_;refine tc ?_;(refine ⟨rfl,.inr rfl,bO,b8,dd ?_⟩);(refine .inl ⟨rfl,?_,trivial⟩);(rw [zu aw,eg,<- hv _ _ cg cf]);exact cE 4));(have q3:r.zg.toNat < s.zk.length:=by simp at q1 q2;omega);(have gq:(s.zk.map jV)[r.zg.toNat]?= some (jV s.zk[r.zg.toNat]):=by rw [dN,dK q3];rfl);refine dd ?_;refine tc ?_;(refine ⟨bS,_,gq,dd ?_⟩);(refine ⟨rfl,.inr rfl,bO,b8,dd ?_⟩);(refine .inl ⟨rfl,?_,trivial⟩);(rw [zu aw,eg,<- hv _ _ cg (by unfold vd;rw [dO (by simp at q1 q2;omega),dK q3])]);exact cE 4
  have h3:r.listen.toNat < s.zd.length:=ck
  have gl:(s.zd.map qj)[r.listen.toNat]?= some (qj s.zd[r.listen.toNat]):=by rw [dN,dK h3];rfl
  refine dd ?_;refine tc ?_
  refine ⟨bZ,_,gl,dd ?_⟩;refine ⟨fun q1=>?_,fun q1=>?_⟩;rotate_left;(focus (refine dd ?_;refine tc ?_;(refine ⟨rfl,.inr rfl,bO,b8,dd ?_⟩);(refine .inl ⟨rfl,?_,trivial⟩);(rw [zu aw,eg,<- hv _ _ (by unfold vZ;rw [dO ck,dK h3]) cb]);exact cE 4));refine dd ?_;(rw [m3]);refine ⟨fun q2=>?_,fun q2=>?_⟩;rotate_left;(focus (refine dd ?_;refine tc ?_;(refine ⟨rfl,.inr rfl,bO,b8,dd ?_⟩);(refine .inl ⟨rfl,?_,trivial⟩);(rw [zu aw,eg,<- hv _ _ (by unfold vZ;rw [dO ck,dK h3]) cf]);exact cE 4));(have q3:r.zg.toNat < s.zk.length:=by simp at q1 q2;omega);(have gq:(s.zk.map jV)[r.zg.toNat]?= some (jV s.zk[r.zg.toNat]):=by rw [dN,dK q3];rfl);refine dd ?_;refine tc ?_;(refine ⟨bS,_,gq,dd ?_⟩);(refine ⟨rfl,.inr rfl,bO,b8,dd ?_⟩);(refine .inl ⟨rfl,?_,trivial⟩);(rw [zu aw,eg,<- hv _ _ (by unfold vZ;rw [dO ck,dK h3]) (by unfold vd;rw [dO (by simp at q1 q2;omega),dK q3])]);exact cE 4
 ·refine uD ?_;rw [gK];exact uI
def Hq (s:Sna) (hs:wA s):tn 55 [] [Cs s] (Bo (yZ s)) []:=by
 refine ab func55 ?_;refine ah (M3 s hs) ?_;refine ah (check_sound (ic s) hs.cfg) ?_;refine ⟨fun h=>?_,fun h=>?_⟩
 ·refine dd ?_
  (exact ⟨.inl rfl,_,.refl _,uN (by unfold yZ;exact h.symm)⟩)
 ·refine dd ?_
  (exact ⟨.inl rfl,_,.refl _,uN (by unfold yZ;exact h.symm)⟩)
end Go.Wor
namespace Go.Wor
open Go.Ab Go.Proofs Tryz Go.Hy Go.Gat Go.Nam Go.Hos Go.Con Go.Sna
open Go.Slp (vU G7)
def C8 {f:Nat->Int} {n:Nat} (h:(jW f n).1=0):∀ j,j < n->f j=0:=fun j hj=>by
 unfold jW at h;split at h
 ·rename_i i hi;rw [List.find?_range_eq_some] at hi;exact absurd h (aq hi.1)
 ·rename_i hn;rw [List.find?_range_eq_none] at hn;simpa using hn j hj
structure Dn (x:eC):Prop where
 name:xv x.name=true
 xx:x.xx=1∨x.xx=2
 xB:1<=x.xB∧x.xB<=4
 zL:1<=x.zL.length∧x.zL.length<=4
structure Vh (s:Sna):Prop where
 zd:1<=s.zd.length∧s.zd.length<=4
 rules:1<=s.rules.length∧s.rules.length<=8
 zk:1<=s.zk.length∧s.zk.length<=4
 all:∀ x ∈ s.zk,Dn x
def jq {s:Sna} (h:yZ s=true):Vh s:=by
 unfold yZ at h;have h:(q8 (ic s)).1=0:=aq h
 unfold q8 at h;split at h
 ·contradiction
 rename_i h1;split at h
 ·contradiction
 rename_i h2;split at h
 ·contradiction
 rename_i h3;have h1:(ve (ic s)).1=0:=aq h1
 unfold ve at h1;split at h1
 ·cases h1
 rename_i h4;have e:(ic s).zQ.length=s.rules.length:=by simp [ic]
 rw [e] at h4;simp only [show (ic s).zd=s.zd from rfl,show (ic s).zk=s.zk from rfl] at h4;have b:∀ n:Nat,∀ m:Int,¬(decide (1<=(n:Int)) && decide ((n:Int)<=m))=false->1<=n∧(n:Int)<=m:=fun n m hh=>by simp at hh;omega
 have q1:=b s.zd.length 4 fun hh=>h4 (.inl (.inl hh))
 have q2:=b s.rules.length 8 fun hh=>h4 (.inl (.inr hh))
 have q3:=b s.zk.length 4 fun hh=>h4 (.inr hh)
 refine ⟨aw,aw,aw,fun x hx=>?_⟩;obtain ⟨i,hi,rfl⟩:=gX.1 hx;have h5:=C8 (f:=lF s.zk) (n:=s.zk.length) (Decidable.of_not_not h3) i hi;unfold lF at h5;rw [dK hi] at h5;dsimp only at h5;split at h5
 ·cases h5
 rename_i p1;split at h5
 ·cases h5
 split at h5
 ·cases h5
 rename_i p2;split at h5
 ·cases h5
 rename_i p3;split at h5
 ·cases h5
 rename_i p4;refine ⟨aq p1,?_,?_,?_⟩
 ·by_cases a:s.zk[i].xx=1
  ·exact .inl a
  ·by_cases a2:s.zk[i].xx=2
   ·exact .inr a2
   ·exact absurd ⟨a,a2⟩ p2
 ·simp at p3;omega
 ·simp at p4;omega
abbrev xt (x:eC):En:=(vU x.xB).1
def Sq {x:eC} (h:Dn x):vU x.xB=(xt x,0):=by
 have:=h.xB;unfold xt vU;rw [dL aw]
def fU (x:eC):Gr:=⟨0,List.replicate x.zL.length (xt x)⟩
abbrev UQ:Sna:=⟨[],[],[]⟩
abbrev Dm:uq:=⟨UQ,[],false⟩
def qM (s:Sna):uq × Int:=if yZ s then (⟨s,s.zk.map fU,false⟩,0) else (Dm,1)
abbrev Cv (v:uq):C:=.agg (zF v)
abbrev tV (r:uq × Int):C:=.uo [Cv r.1,I r.2]
def H6 (s:Sna) (hs:wA s):tn 65 [] [Cs s] (tV (qM s)) []:=by
 have m1:(s.zk.map jV).length=s.zk.length:=dP ..;refine ab func65 ?_;refine ah (Hq s hs) ?_;refine ⟨fun h1=>?_,fun h1=>?_⟩
 rotate_left
 ·have e:qM s=(Dm,1):=by unfold qM;rw [dL aY]
  rw [e];refine dd ?_;refine tc ?_
  exact ⟨.inl rfl,_,zo.var 1 rfl rfl rfl (.cons (WC.nil 0 1) (.cons (WC.nil 0 4) (.cons (WC.nil 0 4) (.cons (WC.nil 0 2) (.cons (.refl _) .nil))))),rfl⟩
 have e:qM s=(⟨s,s.zk.map fU,false⟩,0):=by unfold qM;rw [dO h1]
 have hg:=jq h1;rw [e];refine dd ?_;refine tc ?_
 rw [m1];refine z5.seq s.zk.length (fun k=>(.za::.ref 0 [] 3 0 0::.ref 1 [] 5 0 0::I 0::.ref 2 [] 5 0 0::tZ (.za::.za::.za::.za::(lC s.zk)::I s.zk.length::I k::tZ (tZ (tZ (tZ ([.za]))))))) (fun k=>[⟨1,104,3,[qJ s],0⟩,⟨1,107,5,[[.ui 1 0 [],.ui 1 0 [],.ui 1 0 [],.ui 1 0 [],Bo false]],0⟩,⟨1,107,5,[qJ s++[.gl 3 2 (((s.zk.take k).map fU).map zE),Bo false]],0⟩,⟨4,134,2,((s.zk.take k).map fU).map zE,0⟩]) (fun k=>True) ?_ trivial (fun k hk hr=>?_) (fun hr=>?_)
 ·refine zo.trans (zo.mV 2 3 134 2 rfl rfl (.inl rfl) rfl rfl) ?_;exact cC
 ·obtain ⟨x,hx⟩:∃ x,x=s.zk[k]:=⟨_,rfl⟩;have hgx:(s.zk.map jV)[k]?= some (jV x):=by rw [dN,dK hk,hx];rfl
  have hgood:=hg.all x tE;have hc4:=hg.zk.2;have h4:=hgood.zL.2;have hlg:(((s.zk.take k).map fU).map zE).length=k:=aA
  have eg:((s.zk.take (k+1)).map fU).map zE=((s.zk.take k).map fU).map zE++[zE (fU x)]:=bN
  have mh:(x.zL.map y7).length=x.zL.length:=dP ..
  have fs:tn 91 [] [I x.xB] (.uo [.agg (zx (xt x)),I 0]) []:=by
   have:=G7 x.xB;rw [Sq hgood] at this;exact dw
  conv=>whnf
  refine uF ?_;(refine td hgx ?_)
  rw [mh];refine z5.seq x.zL.length (fun j=>(.za::.ref 0 [] 3 0 0::.ref 1 [] 5 0 0::I 0::.ref 2 [] 5 0 0::.za::.ref 4 [] 4 0 0::.ref 5 [] 2 0 0::tZ (.za::(lC s.zk)::I s.zk.length::I k::.za::.za::.za::.za::.za::I x.zL.length::I j::tZ (tZ (tZ ([.za,.za])))))) (fun j=>[⟨1,104,3,[qJ s],0⟩,⟨1,107,5,[[.ui 1 0 [],.ui 1 0 [],.ui 1 0 [],.ui 1 0 [],Bo false]],0⟩,⟨1,107,5,[qJ s++[.gl 3 2 (((s.zk.take k).map fU).map zE),Bo false]],0⟩,⟨4,134,2,((s.zk.take k).map fU).map zE,0⟩,⟨1,129,4,[jV x],0⟩,⟨1,134,2,[[U 0,.gl 6 3 ((List.replicate j (xt x)).map zx)]],0⟩,⟨4,136,3,((List.replicate j (xt x)).map zx),0⟩]) (fun k=>True) ?_ trivial (fun j hj hr=>?_) (fun hr=>?_)
  ·refine zo.trans (zo.mV 5 1 136 3 rfl rfl (.inl rfl) rfl rfl) ?_;exact cC
  ·have hle:(((List.replicate j (xt x)).map zx)).length=j:=by simp
   have ee:((List.replicate (j+1) (xt x)).map zx)=((List.replicate j (xt x)).map zx)++[zx (xt x)]:=by rw [sR,pw];rfl
   conv=>whnf
   refine uF ?_;refine ah fs ?_;refine tc ?_
   refine ⟨rfl,.inr rfl,by rw [hle];simp [maxLen];omega,by rw [hle];show (j+1) * 40<=_;omega,dd ?_⟩;refine .inl ⟨rfl,?_,trivial⟩;rw [zu aw,ee];exact cE 7
  ·refine uD ?_;refine ⟨rfl,.inr rfl,bO,by rw [hlg];show (k+1) * 32<=_;omega,dd ?_⟩;refine .inl ⟨rfl,?_,trivial⟩;rw [zu aw,eg];exact cE 4
 ·refine uD ?_;rw [gK];exact uI
def kX (n:Int):List (List Int) × Int:=if n < 1∨8 < n then ([],1) else (List.replicate n.toNat [0,0,0,0,0,0],0)
abbrev LP (r:List (List Int) × Int):C:=.uo [eh r.1,I r.2]
def oL (c:List (List Int)):Bool:=c.all (fun r=>r.length == 6) && decide (1<=c.length) && decide (c.length<=8)
def JU {rows:List (List C)} (h:(rows.all fun r=>r.all fun c=>jc c && zy c)=true):∀ r ∈ rows,∀ c ∈ r,jc c=true∧zy c=true:=fun r hr c hc=>by
 have:=dT.1 (dT.1 h r hr) c hc;simpa using this
def shut_map {α:Type} {enc:α->List C} (h:∀ x,(enc x).all (fun c=>jc c && zy c)=true) (l:List α):∀ r ∈ l.map enc,∀ c ∈ r,jc c=true∧zy c=true:=
 JU (by rw [List.all_map];exact dT.2 fun x _=>h x)
def xS {n ty sz fz:Nat} {rows:List (List C)} (h:∀ r ∈ rows,∀ c ∈ r,qW n 9 c=true):qL n [⟨1,ty,sz,rows,fz⟩]=true:=by
 unfold qL;simp only [ry,sD,sf];simp;exact h
def TJ {α:Type} (a b:α) {k n:Nat} (h:k < n):(List.replicate k a++List.replicate (n - k) b).set k a=List.replicate (k+1) a++List.replicate (n - (k+1)) b:=by
 rw [sP _ _ aj];have e:n - k=(n - (k+1))+1:=aw
 simp only [rX,pY];rw [e,rK,sy,sR,pN]
 rfl
def TH {α:Type} (a b:α) {k n:Nat} (h:k < n):(List.replicate k a++List.replicate (n - k) b)[k]?= some b:=by
 rw [dY aj];simp only [rX,pY];have e:n - k=(n - (k+1))+1:=aw
 rw [e,rK]
 rfl
def Mu (n:Int):tn 66 [] [I n] (LP (kX n)) []:=by
 refine ab func66 ?_;refine ⟨fun h1=>?_,fun h1=>?_⟩
 ·have e:kX n=([],1):=by unfold kX;rw [dO bZ]
  rw [e];refine dd ?_;refine tc ?_
  exact dj
 refine dd ?_;refine ⟨fun h2=>?_,fun h2=>?_⟩
 ·have e:kX n=([],1):=by unfold kX;rw [dO aX]
  rw [e];refine dd ?_;refine tc ?_
  exact dj
 have b1:1<=n∧n<=8:=ck
 have e:kX n=(List.replicate n.toNat [0,0,0,0,0,0],0):=by unfold kX;rw [dL aw]
 rw [e];refine dd ?_;refine ⟨rfl,aw,by show (24:Int) * n<=_;omega,aw,dd ?_⟩;refine z5.seq n.toNat (fun k=>(I n::.za::.ui 1 0 []::I 0::.sl 0 [] 1 0 n.toNat false::tZ (.za::.za::I n.toNat::I k::tZ ([])))) (fun k=>[⟨1,0,1,(List.replicate k [lU [0,0,0,0,0,0]]++List.replicate (n.toNat - k) [C.ui 1 0 []]),0⟩]) (fun k=>True) ?_ trivial (fun k hk hr=>?_) (fun hr=>?_)
 ·refine zo.trans (zo.Av 0 rfl (by intro r hr c hc;rw [gL hr] at hc;rw [gF.1 hc];rfl)) ?_;exact cC
 ·conv=>whnf
  refine uF ?_;refine ⟨rfl,ar,by show (8:Int) * 6<=_;decide,ar,dd ?_⟩;refine ⟨aw,aA,dd ?_⟩;have e1:0+(k:Int).toNat=k:=aj
  rw [e1];refine ⟨_,TH _ _ hk,rfl,dd ?_⟩;refine .inl ⟨rfl,?_,trivial⟩;refine zo.trans (zo.zU 0 k 0 (r:=[.sl 1 [] 1 0 6 false]) rfl (by rw [dW,dO rfl,dO aA];rfl) rfl rfl (.inr rfl) rfl rfl ?_ ?_) ?_
  ·exact JU (rows:=List.replicate 6 [U 0]) rfl
  ·intro r hr c hc;rcases gW hr with hr | rfl
   ·rcases gD.1 hr with hr | hr <;> (rw [gL hr] at hc;rw [gF.1 hc];rfl)
   ·rw [gF.1 hc];rfl
  ·have e3:(List.replicate k [lU [0,0,0,0,0,0]]++List.replicate (n.toNat - k) [C.ui 1 0 []]).set k [lU [0,0,0,0,0,0]]=(List.replicate (k+1) [lU [0,0,0,0,0,0]]++List.replicate (n.toNat - (k+1)) [C.ui 1 0 []]):=TJ _ _ hk;rw [gA,<- e3,zu aw];refine zo.xi 1 hU rfl rfl rfl (xS (rows:=(List.replicate k [lU [0,0,0,0,0,0]]++List.replicate (n.toNat - k) [C.ui 1 0 []]).set k [lU [0,0,0,0,0,0]]) fun r hr c hc=>?_) rfl;rw [e3] at hr;rcases gD.1 hr with hr | hr <;> (rw [gL hr] at hc;rw [gF.1 hc];rfl)
 ·refine uD ?_;have e4:(List.replicate n.toNat [(0:Int),0,0,0,0,0]).map zN=(List.replicate n.toNat [lU [0,0,0,0,0,0]]++List.replicate (n.toNat - n.toNat) [C.ui 1 0 []]):=by rw [List.map_replicate,pY,List.replicate_zero,rD];rfl
  have sh:∀ r ∈ (List.replicate n.toNat [lU [0,0,0,0,0,0]]++List.replicate (n.toNat - n.toNat) [C.ui 1 0 []]),∀ c ∈ r,jc c=true∧zy c=true:=by
   rw [pY,List.replicate_zero,rD];intro r hr c hc;rw [gL hr] at hc;rw [gF.1 hc];exact ⟨rfl,rfl⟩
  refine ⟨.inl rfl,_,zo.Hv 2 rfl rfl (.inl rfl) aj sh,?_⟩;rw [<- e4]
  rfl
def MN (c:List (List Int)) (hc:c.length < 4000000000000000000):tn 39 [] [eh c] (Bo (oL c)) []:=by
 have m1:(c.map zN).length=c.length:=dP ..;refine ab func39 ?_;rw [m1];refine z5.seq c.length (fun k=>((eh c)::.za::Bo false::.za::.za::(eh c)::I c.length::I k::tZ ([.za,.za,.za,.za,.za,.za,.za]))) (fun k=>[]) (fun k=>∀ j,(h:j < c.length)->j < k->(c[j].length == 6)=true) ?_ aj (fun k hk hr=>?_) (fun hr=>?_)
 ·exact cC
 ·obtain ⟨x,hx⟩:∃ x,x=c[k]:=⟨_,rfl⟩;have hg:(c.map zN)[k]?= some (zN x):=by rw [dN,dK hk,hx];rfl
  have mx:(x.map jA).length=x.length:=dP ..;conv=>whnf
  refine uF ?_;(refine td hg ?_)
  rw [mx];refine ⟨fun h1=>?_,fun h1=>?_⟩
  ·have hf:c.all (fun r=>r.length == 6)=false:=by
    rw [rG];exact ⟨x,bL,by simp at h1 ⊢;omega⟩
   have e:oL c=false:=by unfold oL;rw [hf];rfl
   rw [e];refine dd ?_;(refine .inr ⟨aj,uH ?_⟩)
   exact uI
  ·refine dd ?_;refine .inl ⟨rfl,?_,fun j hj hjk=>?_⟩
   ·rw [zu aw];exact cE 0
   ·by_cases e:j=k
    ·subst e;rw [<- hx];simp at h1 ⊢;omega
    ·exact hr j hj aw
 ·have ht:c.all (fun r=>r.length == 6)=true:=by
   rw [dT];intro r hr';obtain ⟨j,hj,rfl⟩:=gX.1 hr';exact hr j hj hj
  have e:oL c=(decide (1<=c.length) && decide (c.length<=8)):=by unfold oL;rw [ht];rfl
  rw [e];refine uD ?_;rw [m1];refine ⟨fun h1=>?_,fun h1=>?_⟩
  ·refine dd ?_;rw [m1];refine ⟨fun h2=>?_,fun h2=>?_⟩
   ·refine dd ?_;refine tc ?_
    (exact ⟨.inl rfl,_,.refl _,uN (by symm;simp at h1 h2 ⊢;omega)⟩)
   ·refine dd ?_;refine tc ?_
    (exact ⟨.inl rfl,_,.refl _,uN (by symm;simp at h1 h2 ⊢;omega)⟩)
  ·refine dd ?_;refine tc ?_
   (exact ⟨.inl rfl,_,.refl _,uN (by symm;simp at h1 ⊢;omega)⟩)
abbrev Cw (w:Wor):C:=.agg (zJ w)
abbrev tW (r:Wor × Int):C:=.uo [Cw r.1,I r.2]
abbrev o3:Wor:=⟨0,0,0,[],[],[],[],[]⟩
def vM (s:uu):ec:=⟨s,false,0,false⟩
def As (l:List uu) (i:Nat):Bool:=match l[i]? with
 | some s=>xv s && decide (zT ((l.take i).map vM) s < 0)
 | none=>true
def oJ (l:List uu):Bool:=(List.range l.length).all (As l)
def iH (s:Sna) (l:List uu) (n:Int):Wor × Int:=
 if yZ s=false∨n < 1∨8 < n∨oJ l=false then (o3,1)
 else (⟨0,0,0,List.replicate n.toNat 0,[(qM s).1],l.map vM,List.replicate n.toNat [0,0,0,0,0,0],[]⟩,0)
def P9 (s:Sna) (l:List uu) (n:Int) (hs:wA s) (hl:l.length < 1000000000∧∀ x ∈ l,x.length < 4000000000000000000):tn 41 [] [Cs s,lT l,I n] (tW (iH s l n)) []:=by
 have m1:(l.map qj).length=l.length:=dP ..;have cs:=H6 s hs;refine ab func41 ?_;by_cases h0:yZ s=true
 rotate_left
 ·have e:iH s l n=(o3,1):=by unfold iH;rw [dO (.inl (aq h0))]
  have e2:qM s=(Dm,1):=by unfold qM;rw [dL h0]
  rw [e2] at cs;have cs:tn 65 [] [Cs s] (.uo [Cv Dm,I 1]) []:=cs;rw [e];refine ah cs ?_;refine tc ?_
  exact cI
 have e2:qM s=((qM s).1,0):=by unfold qM;rw [dO h0]
 rw [e2] at cs;have cs:tn 65 [] [Cs s] (.uo [Cv (qM s).1,I 0]) []:=cs;have hn:=Mu n;refine ah cs ?_;refine tc ?_
 by_cases h1:n < 1∨8 < n
 ·have e:iH s l n=(o3,1):=by unfold iH;rw [dO aw]
  have e3:kX n=([],1):=by unfold kX;rw [dO h1]
  rw [e3] at hn;have hn:tn 66 [] [I n] (.uo [eh [],I 1]) []:=hn;rw [e];refine ah hn ?_;refine tc ?_
  exact cI
 have e3:kX n=(List.replicate n.toNat [0,0,0,0,0,0],0):=by unfold kX;rw [dL h1]
 rw [e3] at hn;have hn:tn 66 [] [I n] (.uo [eh (List.replicate n.toNat [0,0,0,0,0,0]),I 0]) []:=hn;refine ah hn ?_;refine tc ?_
 refine .inl ⟨⟨false,[0,3],[2],[]⟩,au,uH ?_⟩;refine ⟨rfl,aw,by show (8:Int) * n<=_;omega,aw,dd ?_⟩;refine hZ ?_
 rw [m1];have hb:oJ l=false->iH s l n=(o3,1):=fun h=>by unfold iH;rw [dO (.inr (.inr (.inr h)))]
 refine z5.seq l.length (fun k=>(.za::.za::.za::.ref 0 [] 3 0 0:: .za::.za::.ref 1 [] 8 0 0::I 0:: .za::.za::.za::.ref 3 [] 8 0 0:: .za::.za::tZ (tZ (tZ (lT l::I l.length::I k:: .za::.za::.za::.za::.za::.za::.za::tZ (tZ ([]))))))) (fun k=>[⟨1,104,3,[qJ s],0⟩,⟨1,37,8,[[I 0,I 0,I 0,.ui 1 0 [],.ui 1 0 [],.ui 1 0 [],.ui 1 0 [],.ui 1 0 []]],0⟩,⟨1,107,5,[zF (qM s).1],0⟩,⟨1,37,8,[[I 0,I 0,I 0,.ui 0 1 (List.replicate n.toNat [I 0]),.ui 1 5 [zF (qM s).1],.gl 4 4 (((l.take k).map vM).map qF),eh (List.replicate n.toNat [0,0,0,0,0,0]),.ui 1 0 []]],0⟩,⟨4,85,4,((l.take k).map vM).map qF,0⟩]) (fun k=>∀ j,j < k->As l j=true) ?_ aj (fun k hk hr=>?_) (fun hr=>?_)
 ·refine zo.trans (zo.mV 3 5 85 4 rfl rfl (.inl rfl) rfl rfl) ?_;exact cC
 ·obtain ⟨x,hx⟩:∃ x,x=l[k]:=⟨_,rfl⟩;have hx2:l[k]?= some x:=by rw [dK hk,hx]
  have hg:(l.map qj)[k]?= some (qj x):=by rw [dN,hx2];rfl
  have hxm:x ∈ l:=bL
  have hno:As l k=(xv x && decide (zT ((l.take k).map vM) x < 0)):=by unfold As;rw [hx2]
  have bad:As l k=false->iH s l n=(o3,1):=fun h=>hb (by unfold oJ;rw [rG];exact ⟨k,aq hk,aH⟩)
  have hlg:(((l.take k).map vM).map qF).length=k:=aA
  have eg:((l.take (k+1)).map vM).map qF=((l.take k).map vM).map qF++[qF (vM x)]:=bN
  conv=>whnf
  refine uF ?_;(refine td hg ?_)
  refine ah (ym x (by have:=hl.2 x hxm;omega)) ?_;refine ⟨fun h2=>?_,fun h2=>?_⟩
  rotate_left
  ·rw [bad (by rw [hno,h2];rfl)];refine dd ?_;refine tc ?_
   (refine .inr ⟨aj,uH ?_⟩)
   exact cI
  refine dd ?_;refine ah (wv ((l.take k).map vM) x aA) ?_;refine ⟨fun h3=>?_,fun h3=>?_⟩
  ·rw [bad (by rw [hno,show decide (zT ((l.take k).map vM) x < 0)=false from by simp at h3 ⊢;omega,rY])];refine dd ?_;refine tc ?_
   (refine .inr ⟨aj,uH ?_⟩)
   exact cI
  refine dd ?_;refine tc ?_
  refine ⟨rfl,.inr rfl,bO,by rw [hlg];show (k+1) * 40<=_;omega,dd ?_⟩;refine .inl ⟨rfl,?_,fun j hj=>?_⟩
  ·rw [zu aw,eg];exact cE 5
  ·by_cases e:j=k
   ·subst e;rw [hno,h2];simp at h3 ⊢;omega
   ·exact hr j aw
 ·have z7:oJ l=true:=by
   unfold oJ;rw [dT];intro i hi;exact hr i (aq hi)
  have e:iH s l n=(⟨0,0,0,List.replicate n.toNat 0,[(qM s).1],l.map vM,List.replicate n.toNat [0,0,0,0,0,0],[]⟩,0):=by unfold iH;rw [dL (by simp only [h0,z7];simp;omega)]
  rw [e];refine uD ?_;rw [gK];refine ⟨.inl rfl,_,zo.var 1 rfl rfl rfl (.cons (.refl _) (.cons (.refl _) (.cons (.refl _) (.cons (.refl _) (.cons (WC.share 1 5 _) (.cons (.refl _) (.cons (.refl _) (.cons (WC.nil 0 3) .nil)))))))),?_⟩
  have e9:zJ ⟨0,0,0,List.replicate n.toNat 0,[(qM s).1],l.map vM,List.replicate n.toNat [0,0,0,0,0,0],[]⟩=[I 0,I 0,I 0,.ui 0 1 (List.replicate n.toNat [I 0]),.ui 0 5 [zF (qM s).1],lL (l.map vM),eh (List.replicate n.toNat [0,0,0,0,0,0]),.ui 0 3 []]:=by
   have e8:(List.replicate n.toNat (0:Int)).map encI=List.replicate n.toNat [I 0]:=List.map_replicate;show [I 0,I 0,I 0,C.ui 0 1 ((List.replicate n.toNat (0:Int)).map encI),_,_,_,_]=_;rw [e8]
   rfl
  show _=some (C.uo [C.agg (zJ ⟨0,0,0,List.replicate n.toNat 0,[(qM s).1],l.map vM,List.replicate n.toNat [0,0,0,0,0,0],[]⟩),I 0]);rw [e9]
  rfl
end Go.Wor
namespace Go.Wor
open Go.Ab Go.Proofs Tryz Go.Hy Go.Gat Go.Nam Go.Hos Go.Con Go.Sna
def jU {F:List (List C)} {z:List C} {k n:Nat} (hF:F.length=n) (h:k < n):(F.take k++(List.replicate n z).drop k)[k]?= some z:=by
 rw [dY aA,List.length_take,pt,rM,dO aw]
def qR {F:List (List C)} {x z:List C} {k n:Nat} (hx:F[k]?= some x) (hn:k < n):(F.take k++(List.replicate n z).drop k).set k x=F.take (k+1)++(List.replicate n z).drop (k+1):=by
 obtain ⟨hk,rfl⟩:=dJ.1 hx;have e1:(F.take k).length=k:=aA
 rw [sP _ _ aw,e1,pY,List.drop_replicate,List.drop_replicate,pq hk,pN];have e2:n - k=(n - (k+1))+1:=aw
 rw [e2,rK]
 rfl
def yK {F:List (List C)} {z:List C} {n:Nat} (hF:F.length=n):F.take n++(List.replicate n z).drop n=F:=by
 rw [rT aw,List.drop_of_length_le aj,rD]
def JI (x:Int) (l:List Int) (hl:l.length < 1000000000):tn 155 [] [lI (x::l)] (.sl 0 [] 1 0 (x::l).length false) [⟨2,3,1,(x::l).map encI,0⟩]:=by
 have e:0+((l.map encI).length+1)=(x::l).length:=aj
 rw [<- e];refine zb.zS (fn:=f155) func155 rfl (uH ?_);refine ⟨aj,uH ?_⟩;refine .inr ⟨.inl rfl,ay,ba,uH ?_⟩;exact uJ
def yP (l:List Int) (hl:l.length < 1000000000):tn 155 [] [lI l] (lI l) []:=by
 cases l with
 | nil=>
  refine ab func155 ?_;refine ⟨?_,?_⟩
  ·refine dd ?_;exact dj
  ·refine dd ?_;refine .inr ⟨rfl,dd ?_⟩;exact ⟨.inl rfl,_,zo.cell 2 rfl ((WC.none 1 1 1).trans (WC.share 1 1 [])),rfl⟩
 | cons x l=>
  have hl3:l.length+1 < 1000000000:=aq hl
  refine ab func155 ?_;refine ⟨aj,uH ?_⟩;refine .inr ⟨.inl rfl,ay,ba,uH ?_⟩;exact db
def Sb (x:Int) (l:List Int) (hl:l.length < 1000000000):tn 190 [] [lU (x::l)] (.sl 0 [] 1 0 (x::l).length false) [⟨2,43,1,(x::l).map jA,0⟩]:=by
 have e:0+((l.map jA).length+1)=(x::l).length:=aj
 rw [<- e];refine zb.zS (fn:=f190) func190 rfl (uH ?_);refine ⟨aj,uH ?_⟩;refine .inr ⟨.inl rfl,ay,ba,uH ?_⟩;exact uJ
def Sc (l:List Int) (hl:l.length < 1000000000):tn 190 [] [lU l] (lU l) []:=by
 cases l with
 | nil=>
  refine ab func190 ?_;refine ⟨?_,?_⟩
  ·refine dd ?_;exact dj
  ·refine dd ?_;refine .inr ⟨rfl,dd ?_⟩;exact ⟨.inl rfl,_,zo.cell 2 rfl ((WC.none 1 1 1).trans (WC.share 1 1 [])),rfl⟩
 | cons x l=>
  have hl3:l.length+1 < 1000000000:=aq hl
  refine ab func190 ?_;refine ⟨aj,uH ?_⟩;refine .inr ⟨.inl rfl,ay,ba,uH ?_⟩;exact db
def Sa (x:ec) (l:List ec) (hl:l.length < 1000000000):tn 158 [] [lL (x::l)] (.sl 0 [] 4 0 (x::l).length false) [⟨2,85,4,(x::l).map qF,0⟩]:=by
 have e:0+((l.map qF).length+1)=(x::l).length:=aj
 rw [<- e];refine zb.zS (fn:=f158) func158 rfl (uH ?_);refine ⟨aj,uH ?_⟩;refine .inr ⟨.inl rfl,ay,by show _ * 40<=_;simp;omega,uH ?_⟩;exact uJ
def vE (l:List ec) (hl:l.length < 1000000000):tn 158 [] [lL l] (lL l) []:=by
 cases l with
 | nil=>
  refine ab func158 ?_;refine ⟨?_,?_⟩
  ·refine dd ?_;exact ⟨.inl rfl,_,zo.cell 2 rfl (WC.nil 0 4),rfl⟩
  ·refine dd ?_;refine .inr ⟨rfl,dd ?_⟩;exact ⟨.inl rfl,_,zo.cell 2 rfl ((WC.none 1 4 4).trans (WC.share 1 4 [])),rfl⟩
 | cons x l=>
  have hl3:l.length+1 < 1000000000:=aq hl
  refine ab func158 ?_;refine ⟨aj,uH ?_⟩;refine .inr ⟨.inl rfl,ay,by show _ * 40<=_;simp;omega,uH ?_⟩;exact db
def JJ (x:u7) (l:List u7) (hl:l.length < 1000000000):tn 161 [] [lR (x::l)] (.sl 0 [] 3 0 (x::l).length false) [⟨2,101,3,(x::l).map xd,0⟩]:=by
 have e:0+((l.map xd).length+1)=(x::l).length:=aj
 rw [<- e];refine zb.zS (fn:=f161) func161 rfl (uH ?_);refine ⟨aj,uH ?_⟩;refine .inr ⟨.inl rfl,ay,by show _ * 24<=_;simp;omega,uH ?_⟩;exact uJ
def wL (l:List u7) (hl:l.length < 1000000000):tn 161 [] [lR l] (lR l) []:=by
 cases l with
 | nil=>
  refine ab func161 ?_;refine ⟨?_,?_⟩
  ·refine dd ?_;exact ⟨.inl rfl,_,zo.cell 2 rfl (WC.nil 0 3),rfl⟩
  ·refine dd ?_;refine .inr ⟨rfl,dd ?_⟩;exact ⟨.inl rfl,_,zo.cell 2 rfl ((WC.none 1 3 3).trans (WC.share 1 3 [])),rfl⟩
 | cons x l=>
  have hl3:l.length+1 < 1000000000:=aq hl
  refine ab func161 ?_;refine ⟨aj,uH ?_⟩;refine .inr ⟨.inl rfl,ay,by show _ * 24<=_;simp;omega,uH ?_⟩;exact db
def Ia (e:En) (he:e.next.length < 1000000000):tn 198 [] [.agg [],.agg (zx e)] (.agg (zx e)) []:=by
 refine ab func198 ?_;refine ah (yP e.next he) ?_;exact uI
def SB (l:List En) (hl:l.length < 1000000000) (hp:∀ x ∈ l,tn 198 [] [.agg [],.agg (zx x)] (.agg (zx x)) []):tn 197 [] [lE l,.fn 198 [] [],.agg []] (.sl 0 [] 3 0 l.length false) [⟨2,136,3,l.map zx,0⟩]:=by
 have m1:(l.map zx).length=l.length:=dP ..;refine zb.zS (fn:=f197) func197 rfl (uH ?_);rw [m1];refine ⟨rfl,aw,by show (40:Int) * _<=_;omega,aw,dd ?_⟩;rw [m1,toNat_cast];refine z5.seq l.length (fun k=>((lE l)::.fn 198 [] []::.za::.za::.za::.ref 0 [] 0 0 0::.ui 1 0 []::.sl 1 [] 3 0 l.length false::.za::.za::.za::.za::.za::(lE l)::I l.length::I k::tZ ([.za,.za,.za,.za,.za]))) (fun k=>[⟨1,243,0,[[]],0⟩,⟨2,136,3,(l.map zx).take k++(List.replicate l.length [U 0,.ui 1 0 [],I 0]).drop k,0⟩]) (fun k=>True) ?_ trivial (fun k hk hr=>?_) (fun hr=>?_)
 ·exact cC
 ·obtain ⟨x,hx⟩:∃ x,x=l[k]:=⟨_,rfl⟩;have hx2:l[k]?= some x:=by rw [dK hk,hx]
  have hg:(l.map zx)[k]?= some (zx x):=by rw [dN,hx2];rfl
  conv=>whnf
  refine uF ?_;(refine td hg ?_)
  refine ah (hp x tE) ?_;refine ⟨aw,aA,dd ?_⟩;have e1:0+(k:Int).toNat=k:=aj
  rw [e1];refine ⟨_,jU aj hk,rfl,dd ?_⟩;refine .inl ⟨rfl,?_,trivial⟩;have e2:=qR (z:=[U 0,.ui 1 0 [],I 0]) (n:=l.length) hg hk;rw [zu aw,<- e2];exact cE 2
 ·exact da
def zZ {r:List C} (h:r.all zy=true):∀ q ∈ [r],∀ c ∈ q,zy c=true:=fun q hq c hc=>by
 rw [gF.1 hq] at hc;exact dT.1 h c hc
def Gy (g:Gr):Prop:=g.ends.length < 1000000000∧∀ e ∈ g.ends,e.next.length < 1000000000
def Ds (v:uq):Prop:=v.zm.length < 1000000000∧∀ g ∈ v.zm,Gy g
structure qV (w:Wor):Prop where
 pins:w.pins.length < 1000000000
 ze:w.ze.length < 1000000000∧∀ v ∈ w.ze,Ds v
 zd:w.zd.length < 1000000000
 counts:w.counts.length < 1000000000∧∀ r ∈ w.counts,r.length < 1000000000
 zr:w.zr.length < 1000000000
def Hw (g:Gr) (hg:Gy g):tn 189 [] [.agg [],.agg (zE g)] (.agg (zE g)) []:=by
 refine ab func189 ?_;refine af [] (SB g.ends hg.1 fun e he=>Ia e (hg.2 e he)) ?_;exact ⟨.inl rfl,_,zo.zU 2 0 1 rfl rfl rfl rfl (.inr rfl) rfl aj (shut_map (enc:=zx) (fun _=>rfl) g.ends) (zZ rfl),rfl⟩
def SD (l:List Gr) (hl:l.length < 1000000000) (hp:∀ x ∈ l,tn 189 [] [.agg [],.agg (zE x)] (.agg (zE x)) []):tn 188 [] [lG l,.fn 189 [] [],.agg []] (.sl 0 [] 2 0 l.length false) [⟨2,134,2,l.map zE,0⟩]:=by
 have m1:(l.map zE).length=l.length:=dP ..;refine zb.zS (fn:=f188) func188 rfl (uH ?_);rw [m1];refine ⟨rfl,aw,by show (32:Int) * _<=_;omega,aw,dd ?_⟩;rw [m1,toNat_cast];refine z5.seq l.length (fun k=>((lG l)::.fn 189 [] []::.za::.za::.za::.ref 0 [] 0 0 0::.ui 1 0 []::.sl 1 [] 2 0 l.length false::.za::.za::.za::.za::.za::(lG l)::I l.length::I k::tZ ([.za,.za,.za,.za,.za]))) (fun k=>[⟨1,243,0,[[]],0⟩,⟨2,134,2,(l.map zE).take k++(List.replicate l.length ([U 0,.ui 1 0 []]:List C)).drop k,0⟩]) (fun k=>True) ?_ trivial (fun k hk hr=>?_) (fun hr=>?_)
 ·exact cC
 ·obtain ⟨x,hx⟩:∃ x,x=l[k]:=⟨_,rfl⟩;have hx2:l[k]?= some x:=by rw [dK hk,hx]
  have hg:(l.map zE)[k]?= some (zE x):=by rw [dN,hx2];rfl
  conv=>whnf
  refine uF ?_;(refine td hg ?_)
  refine ah (hp x tE) ?_;refine ⟨aw,aA,dd ?_⟩;have e1:0+(k:Int).toNat=k:=aj
  rw [e1];refine ⟨_,jU aj hk,rfl,dd ?_⟩;refine .inl ⟨rfl,?_,trivial⟩;have e2:=qR (z:=([U 0,.ui 1 0 []]:List C)) (n:=l.length) hg hk;rw [zu aw,<- e2];exact cE 2
 ·exact da
def jB (v:uq) (hv:Ds v):tn 157 [] [.agg [],.agg (zF v)] (.agg (zF v)) []:=by
 refine ab func157 ?_;refine af [] (SD v.zm hv.1 fun g hg=>Hw g (hv.2 g hg)) ?_;exact ⟨.inl rfl,_,zo.zU 2 0 3 rfl rfl rfl rfl (.inr rfl) rfl aj (shut_map (enc:=zE) (fun _=>rfl) v.zm) (zZ rfl),rfl⟩
def wh (l:List uq) (hl:l.length < 1000000000) (hp:∀ x ∈ l,tn 157 [] [.agg [],.agg (zF x)] (.agg (zF x)) []):tn 156 [] [lV l,.fn 157 [] [],.agg []] (.sl 0 [] 5 0 l.length false) [⟨2,107,5,l.map zF,0⟩]:=by
 have m1:(l.map zF).length=l.length:=dP ..;refine zb.zS (fn:=f156) func156 rfl (uH ?_);rw [m1];refine ⟨rfl,aw,by show (104:Int) * _<=_;omega,aw,dd ?_⟩;rw [m1,toNat_cast];refine z5.seq l.length (fun k=>((lV l)::.fn 157 [] []::.za::.za::.za::.ref 0 [] 0 0 0::.ui 1 0 []::.sl 1 [] 5 0 l.length false::.za::.za::.za::.za::.za::(lV l)::I l.length::I k::tZ ([.za,.za,.za,.za,.za]))) (fun k=>[⟨1,243,0,[[]],0⟩,⟨2,107,5,(l.map zF).take k++(List.replicate l.length ([.ui 1 0 [],.ui 1 0 [],.ui 1 0 [],.ui 1 0 [],Bo false]:List C)).drop k,0⟩]) (fun k=>True) ?_ trivial (fun k hk hr=>?_) (fun hr=>?_)
 ·exact cC
 ·obtain ⟨x,hx⟩:∃ x,x=l[k]:=⟨_,rfl⟩;have hx2:l[k]?= some x:=by rw [dK hk,hx]
  have hg:(l.map zF)[k]?= some (zF x):=by rw [dN,hx2];rfl
  conv=>whnf
  refine uF ?_;(refine td hg ?_)
  refine ah (hp x tE) ?_;refine ⟨aw,aA,dd ?_⟩;have e1:0+(k:Int).toNat=k:=aj
  rw [e1];refine ⟨_,jU aj hk,rfl,dd ?_⟩;refine .inl ⟨rfl,?_,trivial⟩;have e2:=qR (z:=([.ui 1 0 [],.ui 1 0 [],.ui 1 0 [],.ui 1 0 [],Bo false]:List C)) (n:=l.length) hg hk;rw [zu aw,<- e2];exact cE 2
 ·exact da
def xP (r:List Int) (hr:r.length < 1000000000):tn 160 [] [.agg [],lU r] (lU r) []:=by
 refine ab func160 ?_;refine ah (Sc r hr) ?_;exact uI
def Iw (H':zl) (ρ:Nat->Nat):∀ (i:Nat) (K:zl),lZ [] H' ρ i K=K
 | _,[]=>rfl
 | i,ob::K=>by unfold lZ;rw [Iw H' ρ (i+1) K];rfl
def nv {P:Program} {f:FuncId} {args:List C} {r:C} {H':zl} (h:zb P f [] args r H') (hR:qN H'=true) (ha:args.map (xO [] 9)=args) (H:zl) (hf:qN H=true):
  zb P f H args (yF (qX [] H.length) 9 r) (H++H'.map (zG (qX [] H.length))):=by
 have:=h.part [] hR (K:=H) rfl ha rfl rfl hf;have e:kW [] H H'=H++H'.map (zG (qX [] H.length)):=by unfold kW;rw [Iw];rfl
 rwa [e] at this
def J7 {α:Type} {enc:α->List C} {f:C->C} (hf:∀ x,(enc x).map f=enc x) (l:List α) (v:Nat) (row:List C):(((l.map enc).set v row).map fun r=>r.map f)=(l.map enc).set v (row.map f):=by
 rw [pH,pT]
 congr 1
 exact rz fun x _=>hf x
def jI {n:Nat} {x:Ob} {H:zl} (h1:qL n [x]=true) (h2:qL n H=true):qL n (x::H)=true:=by
 unfold qL at *;simp only [ry,sD,sf] at *;rw [h1,h2];rfl
def zc {x:Ob} {H:zl} (h1:qN [x]=true) (h2:qN H=true):qN (x::H)=true:=by
 unfold qN at *;simp only [ry,sD,sf] at *;rw [h1,h2];rfl
def zi {ty sz fz:Nat} {rows:List (List C)} (h:∀ r ∈ rows,∀ c ∈ r,zy c=true):qN [⟨1,ty,sz,rows,fz⟩]=true:=by
 unfold qN;simp only [ry,sD,sf];rw [dT]
 exact fun r hr=>dT.2 fun c hc=>h r hr c hc
def zA {α:Type} {enc:α->List C} {p:C->Bool} (h:∀ x,(enc x).all p=true) {row:List C} (hr:row.all p=true) (l:List α) (v:Nat):∀ r ∈ (l.map enc).set v row,∀ c ∈ r,p c=true:=fun r hm c hc=>by
 rcases gW hm with hm | rfl
 ·obtain ⟨x,_,rfl⟩:=gC.1 hm;exact dT.1 (h x) c hc
 ·exact dT.1 hr c hc
def vG {α:Type} {enc:α->List C} {p:C->Bool} (h:∀ x,(enc x).all p=true) {row z:List C} (hz:z.all p=true) (l:List α) {v k:Nat} (n:Nat) (hr:k<=v∨row.all p=true):∀ r ∈ ((l.map enc).set v row).take k++(List.replicate n z).drop k,∀ c ∈ r,p c=true:=fun r hm c hc=>by
 rcases gD.1 hm with hm | hm
 ·rcases hr with hr | hr
  ·rw [List.take_set_of_le hr] at hm;obtain ⟨x,_,rfl⟩:=gC.1 (pL hm);exact dT.1 (h x) c hc
  ·exact zA h hr l v r (pL hm) c hc
 ·rw [gL (rI hm)] at hc;exact dT.1 hz c hc
def Oz (e0:En) (x:Int) (l:List Int) (he:e0.next=x::l) (hl:l.length < 1000000000):tn 198 [] [.agg [],.agg (zx e0)] (.agg [U e0.head,C.sl 0 [] 1 0 e0.next.length false,I e0.zf]) [⟨2,3,1,e0.next.map encI,0⟩]:=by
 have h1:tn 198 [] [.agg [],.agg (zx e0)] (.agg [U e0.head,C.sl 3 [] 1 0 e0.next.length false,I e0.zf]) [⟨1,243,0,[[]],0⟩,⟨1,136,3,[[U e0.head,C.sl 3 [] 1 0 e0.next.length false,I e0.zf]],0⟩,⟨1,136,3,[[U e0.head,C.sl 3 [] 1 0 e0.next.length false,I e0.zf]],0⟩,⟨2,3,1,e0.next.map encI,0⟩]:=by
  have hc:=JI x l hl;rw [<- he] at hc;refine zb.zS (fn:=f198) func198 rfl (uH ?_);refine af [] (hc) ?_;exact uJ
 exact h1.mo (fun B h _=>zo.ur [3] [0] _ _ tJ rfl rfl rfl) (gu _)
def Sj (e0:En) (x:Int) (l:List Int) (he:e0.next=x::l) (hl:l.length < 1000000000) (H:zl) (hf:qN H=true):tn 198 H [.agg [],.agg (zx e0)] (.agg ([U e0.head,C.sl H.length [] 1 0 e0.next.length false,I e0.zf])) (H++[⟨2,3,1,e0.next.map encI,0⟩]):=
 nv (Oz e0 x l he hl) rfl rfl H hf
def zH {α:Type} {enc:α->List C} {sel:List Nat} (hf:∀ x,(enc x).map (xO sel 9)=enc x) (l:List α) (v:Nat) (row:List C) (ty sz fz:Nat):zK sel ⟨1,ty,sz,(l.map enc).set v row,fz⟩=⟨1,ty,sz,(l.map enc).set v (row.map (xO sel 9)),fz⟩:=by
 show (⟨1,ty,sz,((l.map enc).set v row).map (fun r=>r.map (xO sel 9)),fz⟩:Ob)=_;rw [J7 hf]
def zB {α:Type} {enc:α->List C} {ρ:Nat->Nat} (hf:∀ x,(enc x).map (yF ρ 9)=enc x) (l:List α) (v:Nat) (row:List C) (ty sz fz:Nat):zG ρ ⟨1,ty,sz,(l.map enc).set v row,fz⟩=⟨1,ty,sz,(l.map enc).set v (row.map (yF ρ 9)),fz⟩:=by
 show (⟨1,ty,sz,((l.map enc).set v row).map (fun r=>r.map (yF ρ 9)),fz⟩:Ob)=_;rw [J7 hf]
def Sf (l:List En) (e:Nat) (e0:En) (hv:l[e]?= some e0) (hl:l.length < 1000000000) (hp:∀ x ∈ l,tn 198 [] [.agg [],.agg (zx x)] (.agg (zx x)) [])
  (hA:∀ H,qN H=true->tn 198 H [.agg [],.agg (zx e0)] (.agg ([U e0.head,C.sl H.length [] 1 0 e0.next.length false,I e0.zf])) (H++[⟨2,3,1,e0.next.map encI,0⟩])):
  tn 197 [] [lE l,.fn 198 [] [],.agg []] (.sl 0 [] 3 0 l.length false) [⟨1,0,3,(l.map zx).set e ([U e0.head,C.sl 1 [] 1 0 e0.next.length false,I e0.zf]),0⟩,⟨2,3,1,e0.next.map encI,0⟩]:=by
 have m1:(l.map zx).length=l.length:=dP ..;have hvl:=(dJ.1 hv).1
 have h1:tn 197 [] [lE l,.fn 198 [] [],.agg []] (.sl 1 [] 3 0 l.length false) [⟨1,243,0,[[]],0⟩,⟨1,0,3,(l.map zx).set e ([U e0.head,C.sl 3 [] 1 0 e0.next.length false,I e0.zf]),0⟩,⟨1,136,3,[zx e0],0⟩,⟨2,3,1,e0.next.map encI,0⟩]:=by
  refine zb.zS (fn:=f197) func197 rfl (uH ?_);rw [m1];refine ⟨rfl,aw,by show (40:Int) * _<=_;omega,aw,dd ?_⟩;rw [m1,toNat_cast];have ZZ:List C:=([U 0,.ui 1 0 [],I 0]:List C);refine z5.seq l.length (fun k=>((lE l)::.fn 198 [] []::.za::.za::.za::.ref 0 [] 0 0 0::.ui 1 0 []::.sl 1 [] 3 0 l.length false::.za::.za::.za::.za::.za::(lE l)::I l.length::I k::tZ ([.za,.za,.za,.za,.za]))) (fun k=>if k<=e then [⟨1,243,0,[[]],0⟩,⟨1,0,3,((l.map zx).set e ([U e0.head,C.sl 3 [] 1 0 e0.next.length false,I e0.zf])).take k++(List.replicate l.length ([U 0,.ui 1 0 [],I 0]:List C)).drop k,0⟩] else [⟨1,243,0,[[]],0⟩,⟨1,0,3,((l.map zx).set e ([U e0.head,C.sl 3 [] 1 0 e0.next.length false,I e0.zf])).take k++(List.replicate l.length ([U 0,.ui 1 0 [],I 0]:List C)).drop k,0⟩,⟨1,136,3,[zx e0],0⟩,⟨2,3,1,e0.next.map encI,0⟩]) (fun k=>True) ?_ trivial (fun k hk hr=>?_) (fun hr=>?_)
  ·rw [dO (gu _)];refine zo.trans (zo.Av 1 rfl fun r hr c hc=>?_) (cC);rw [gL hr] at hc;exact dT.1 (rfl:([U 0,.ui 1 0 [],I 0]:List C).all zy=true) c hc
  ·obtain ⟨x,hx⟩:∃ x,x=l[k]:=⟨_,rfl⟩;have hx2:l[k]?= some x:=by rw [dK hk,hx]
   have hxm:x ∈ l:=bL
   have hg:(l.map zx)[k]?= some (zx x):=by rw [dN,hx2];rfl
   have e1:0+(k:Int).toNat=k:=aj
   have low:∀ n j,j<=e∨3 < n->∀ r ∈ ((l.map zx).set e ([U e0.head,C.sl 3 [] 1 0 e0.next.length false,I e0.zf])).take j++(List.replicate l.length ([U 0,.ui 1 0 [],I 0]:List C)).drop j,∀ c ∈ r,qW n 9 c=true:=fun n j h=>vG (enc:=zx) (fun _=>rfl) rfl l l.length (h.imp_right fun h=>by simp [qW,qJ];omega)
   have own:∀ j,∀ r ∈ ((l.map zx).set e ([U e0.head,C.sl 3 [] 1 0 e0.next.length false,I e0.zf])).take j++(List.replicate l.length ([U 0,.ui 1 0 [],I 0]:List C)).drop j,∀ c ∈ r,zy c=true:=fun j=>vG (enc:=zx) (fun _=>rfl) rfl l l.length (.inr rfl)
   by_cases hkv:k=e
   ·subst hkv;obtain rfl:e0=x:=by rw [hv] at hx2;exact gm hx2
    have hF:((l.map zx).set k ([U e0.head,C.sl 3 [] 1 0 e0.next.length false,I e0.zf]))[k]?= some ([U e0.head,C.sl 3 [] 1 0 e0.next.length false,I e0.zf]):=by rw [dW,dO rfl,dO (aq hk)]
    rw [dO (dU _),dL aw];conv=>whnf
    refine uF ?_;(refine td hg ?_)
    refine ⟨_,_,hA _ (zc rfl (zc (zi (own k)) rfl)),dd ?_⟩;exact cR
   ·have hF:((l.map zx).set e ([U e0.head,C.sl 3 [] 1 0 e0.next.length false,I e0.zf]))[k]?= some (zx x):=by rw [pa (fun h=>hkv h.symm)];exact hg
    by_cases uj:k < e
    ·rw [dO aw,dO aw];conv=>whnf
     refine uF ?_;(refine td hg ?_)
     refine ah (hp x hxm) ?_;refine ⟨aw,aA,dd ?_⟩;rw [e1];refine ⟨_,jU aj hk,rfl,dd ?_⟩;refine .inl ⟨rfl,?_,trivial⟩;rw [zu aw,<- qR hF hk];refine zo.xi 2 hU rfl rfl rfl (jI rfl (xS ?_)) rfl;have lw:=low 2 (k+1) (.inl aw);rw [<- qR (z:=([U 0,.ui 1 0 [],I 0]:List C)) (n:=l.length) hF hk] at lw;exact lw
    ·rw [dL aw,dL aw];conv=>whnf
     refine uF ?_;(refine td hg ?_)
     refine ah (hp x hxm) ?_;refine ⟨aw,aA,dd ?_⟩;rw [e1];refine ⟨_,jU aj hk,rfl,dd ?_⟩;refine .inl ⟨rfl,?_,trivial⟩;rw [zu aw,<- qR hF hk];refine zo.xi 4 hU rfl rfl rfl (jI rfl (jI (xS ?_) (jI rfl rfl))) rfl;have lw:=low 4 (k+1) (.inr aw);rw [<- qR (z:=([U 0,.ui 1 0 [],I 0]:List C)) (n:=l.length) hF hk] at lw;exact lw
  ·exact dI
 refine h1.mo (fun B h _=>?_) (gu _);have hw:=zo.ur (B:=B) [1,3] [0] [.sl 1 [] 3 0 l.length false] [⟨1,243,0,[[]],0⟩,⟨1,0,3,(l.map zx).set e ([U e0.head,C.sl 3 [] 1 0 e0.next.length false,I e0.zf]),0⟩,⟨1,136,3,[zx e0],0⟩,⟨2,3,1,e0.next.map encI,0⟩] tJ rfl rfl (zc rfl (zc (zi (zA (enc:=zx) (fun _=>rfl) rfl l e)) (zc rfl rfl)))
 have e:xn [1,3] [⟨1,243,0,[[]],0⟩,⟨1,0,3,(l.map zx).set e ([U e0.head,C.sl 3 [] 1 0 e0.next.length false,I e0.zf]),0⟩,⟨1,136,3,[zx e0],0⟩,⟨2,3,1,e0.next.map encI,0⟩]=[⟨1,0,3,(l.map zx).set e ([U e0.head,C.sl 1 [] 1 0 e0.next.length false,I e0.zf]),0⟩,⟨2,3,1,e0.next.map encI,0⟩]:=by
  show zK [1,3] ⟨1,0,3,(l.map zx).set e ([U e0.head,C.sl 3 [] 1 0 e0.next.length false,I e0.zf]),0⟩::_=_;rw [zH (enc:=zx) (fun _=>rfl)]
  rfl
 rw [e] at hw;exact hw
structure Dq (g0:Gr) (e:Nat) (e0:En):Prop where
 sm:Gy g0
 at_:g0.ends[e]?= some e0
 ne:e0.next≠[]
def SA {g0:Gr} {e:Nat} {e0:En} (h:Dq g0 e e0) (H:zl) (hf:qN H=true):tn 197 H [lE g0.ends,.fn 198 [] [],.agg []] (.sl H.length [] 3 0 g0.ends.length false) (H++[⟨1,0,3,(g0.ends.map zx).set e ([U e0.head,C.sl (H.length+1) [] 1 0 e0.next.length false,I e0.zf]),0⟩,⟨2,3,1,e0.next.map encI,0⟩]):=by
 obtain ⟨x,l,hx⟩:∃ x l,e0.next=x::l:=by
  cases hh:e0.next with
  | nil=>exact absurd hh h.ne
  | cons x l=>exact ⟨x,l,rfl⟩
 have hlen:l.length < 1000000000:=by
  have:=h.sm.2 e0 (dM h.at_);rw [hx] at this;exact cN
 have:=nv (Sf g0.ends e e0 h.at_ h.sm.1 (fun y hy=>Ia y (h.sm.2 y hy)) (Sj e0 x l hx hlen)) (zc (zi (zA (enc:=zx) (fun _=>rfl) rfl _ _)) rfl) rfl H hf
 have e9:[(⟨1,0,3,(g0.ends.map zx).set e ([U e0.head,C.sl 1 [] 1 0 e0.next.length false,I e0.zf]),0⟩:Ob),⟨2,3,1,e0.next.map encI,0⟩].map (zG (qX [] H.length))=[⟨1,0,3,(g0.ends.map zx).set e ([U e0.head,C.sl (H.length+1) [] 1 0 e0.next.length false,I e0.zf]),0⟩,⟨2,3,1,e0.next.map encI,0⟩]:=by
  show zG _ ⟨1,0,3,_,0⟩::_=_;rw [zB (enc:=zx) (fun _=>rfl)]
  rfl
 rw [e9] at this;exact dw
def MT {g0:Gr} {e:Nat} {e0:En} (h:Dq g0 e e0):tn 189 [] [.agg [],.agg (zE g0)] (.agg [U g0.zt,C.sl 0 [] 3 0 g0.ends.length false]) [⟨1,0,3,(g0.ends.map zx).set e ([U e0.head,C.sl 1 [] 1 0 e0.next.length false,I e0.zf]),0⟩,⟨2,3,1,e0.next.map encI,0⟩]:=by
 have own:∀ i,∀ r ∈ (g0.ends.map zx).set e ([U e0.head,C.sl i [] 1 0 e0.next.length false,I e0.zf]),∀ c ∈ r,zy c=true:=fun i=>zA (enc:=zx) (fun _=>rfl) rfl _ _
 have h1:tn 189 [] [.agg [],.agg (zE g0)] (.agg [U g0.zt,C.sl 3 [] 3 0 g0.ends.length false]) [⟨1,243,0,[[]],0⟩,⟨1,134,2,[[U g0.zt,C.sl 3 [] 3 0 g0.ends.length false]],0⟩,⟨1,134,2,[[U g0.zt,C.sl 3 [] 3 0 g0.ends.length false]],0⟩,⟨1,0,3,(g0.ends.map zx).set e ([U e0.head,C.sl 4 [] 1 0 e0.next.length false,I e0.zf]),0⟩,⟨2,3,1,e0.next.map encI,0⟩]:=by
  refine zb.zS (fn:=f189) func189 rfl (uH ?_);refine ⟨_,_,SA h _ rfl,dd ?_⟩;exact uJ
 refine h1.mo (fun B hB _=>?_) (gu _);have hw:=zo.ur (B:=B) [3,4] [0] [.agg [U g0.zt,C.sl 3 [] 3 0 g0.ends.length false]] [⟨1,243,0,[[]],0⟩,⟨1,134,2,[[U g0.zt,C.sl 3 [] 3 0 g0.ends.length false]],0⟩,⟨1,134,2,[[U g0.zt,C.sl 3 [] 3 0 g0.ends.length false]],0⟩,⟨1,0,3,(g0.ends.map zx).set e ([U e0.head,C.sl 4 [] 1 0 e0.next.length false,I e0.zf]),0⟩,⟨2,3,1,e0.next.map encI,0⟩] (by rw [show B=0 from aq hB];rfl) rfl rfl (zc rfl (zc rfl (zc rfl (zc (zi (own 4)) rfl))))
 have e:xn [3,4] [⟨1,243,0,[[]],0⟩,⟨1,134,2,[[U g0.zt,C.sl 3 [] 3 0 g0.ends.length false]],0⟩,⟨1,134,2,[[U g0.zt,C.sl 3 [] 3 0 g0.ends.length false]],0⟩,⟨1,0,3,(g0.ends.map zx).set e ([U e0.head,C.sl 4 [] 1 0 e0.next.length false,I e0.zf]),0⟩,⟨2,3,1,e0.next.map encI,0⟩]=[⟨1,0,3,(g0.ends.map zx).set e ([U e0.head,C.sl 1 [] 1 0 e0.next.length false,I e0.zf]),0⟩,⟨2,3,1,e0.next.map encI,0⟩]:=by
  show zK [3,4] ⟨1,0,3,(g0.ends.map zx).set e ([U e0.head,C.sl 4 [] 1 0 e0.next.length false,I e0.zf]),0⟩::_=_;rw [zH (enc:=zx) (fun _=>rfl)]
  rfl
 rw [e] at hw;exact hw
def Pq {g0:Gr} {e:Nat} {e0:En} (h:Dq g0 e e0) (H:zl) (hf:qN H=true):tn 189 H [.agg [],.agg (zE g0)] (.agg ([U g0.zt,C.sl H.length [] 3 0 g0.ends.length false])) (H++[⟨1,0,3,(g0.ends.map zx).set e ([U e0.head,C.sl (H.length+1) [] 1 0 e0.next.length false,I e0.zf]),0⟩,⟨2,3,1,e0.next.map encI,0⟩]):=by
 have:=nv (MT h) (zc (zi (zA (enc:=zx) (fun _=>rfl) rfl _ _)) rfl) rfl H hf
 have e9:[(⟨1,0,3,(g0.ends.map zx).set e ([U e0.head,C.sl 1 [] 1 0 e0.next.length false,I e0.zf]),0⟩:Ob),⟨2,3,1,e0.next.map encI,0⟩].map (zG (qX [] H.length))=[⟨1,0,3,(g0.ends.map zx).set e ([U e0.head,C.sl (H.length+1) [] 1 0 e0.next.length false,I e0.zf]),0⟩,⟨2,3,1,e0.next.map encI,0⟩]:=by
  show zG _ ⟨1,0,3,_,0⟩::_=_;rw [zB (enc:=zx) (fun _=>rfl)]
  rfl
 rw [e9] at this;exact dw
def Sg (e0:En) (e:Nat) (l:List Gr) (g:Nat) (g0:Gr) (hv:l[g]?= some g0) (hl:l.length < 1000000000) (hp:∀ x ∈ l,tn 189 [] [.agg [],.agg (zE x)] (.agg (zE x)) [])
  (hA:∀ H,qN H=true->tn 189 H [.agg [],.agg (zE g0)] (.agg ([U g0.zt,C.sl H.length [] 3 0 g0.ends.length false])) (H++[⟨1,0,3,(g0.ends.map zx).set e ([U e0.head,C.sl (H.length+1) [] 1 0 e0.next.length false,I e0.zf]),0⟩,⟨2,3,1,e0.next.map encI,0⟩])):
  tn 188 [] [lG l,.fn 189 [] [],.agg []] (.sl 0 [] 2 0 l.length false) [⟨1,0,2,(l.map zE).set g ([U g0.zt,C.sl 1 [] 3 0 g0.ends.length false]),0⟩,⟨1,0,3,(g0.ends.map zx).set e ([U e0.head,C.sl 2 [] 1 0 e0.next.length false,I e0.zf]),0⟩,⟨2,3,1,e0.next.map encI,0⟩]:=by
 have m1:(l.map zE).length=l.length:=dP ..;have hvl:=(dJ.1 hv).1
 have h1:tn 188 [] [lG l,.fn 189 [] [],.agg []] (.sl 1 [] 2 0 l.length false) [⟨1,243,0,[[]],0⟩,⟨1,0,2,(l.map zE).set g ([U g0.zt,C.sl 3 [] 3 0 g0.ends.length false]),0⟩,⟨1,134,2,[zE g0],0⟩,⟨1,0,3,(g0.ends.map zx).set e ([U e0.head,C.sl 4 [] 1 0 e0.next.length false,I e0.zf]),0⟩,⟨2,3,1,e0.next.map encI,0⟩]:=by
  refine zb.zS (fn:=f188) func188 rfl (uH ?_);rw [m1];refine ⟨rfl,aw,by show (32:Int) * _<=_;omega,aw,dd ?_⟩;rw [m1,toNat_cast];have ZZ:List C:=([U 0,.ui 1 0 []]:List C);refine z5.seq l.length (fun k=>((lG l)::.fn 189 [] []::.za::.za::.za::.ref 0 [] 0 0 0::.ui 1 0 []::.sl 1 [] 2 0 l.length false::.za::.za::.za::.za::.za::(lG l)::I l.length::I k::tZ ([.za,.za,.za,.za,.za]))) (fun k=>if k<=g then [⟨1,243,0,[[]],0⟩,⟨1,0,2,((l.map zE).set g ([U g0.zt,C.sl 3 [] 3 0 g0.ends.length false])).take k++(List.replicate l.length ([U 0,.ui 1 0 []]:List C)).drop k,0⟩] else [⟨1,243,0,[[]],0⟩,⟨1,0,2,((l.map zE).set g ([U g0.zt,C.sl 3 [] 3 0 g0.ends.length false])).take k++(List.replicate l.length ([U 0,.ui 1 0 []]:List C)).drop k,0⟩,⟨1,134,2,[zE g0],0⟩,⟨1,0,3,(g0.ends.map zx).set e ([U e0.head,C.sl 4 [] 1 0 e0.next.length false,I e0.zf]),0⟩,⟨2,3,1,e0.next.map encI,0⟩]) (fun k=>True) ?_ trivial (fun k hk hr=>?_) (fun hr=>?_)
  ·rw [dO (gu _)];refine zo.trans (zo.Av 1 rfl fun r hr c hc=>?_) (cC);rw [gL hr] at hc;exact dT.1 (rfl:([U 0,.ui 1 0 []]:List C).all zy=true) c hc
  ·obtain ⟨x,hx⟩:∃ x,x=l[k]:=⟨_,rfl⟩;have hx2:l[k]?= some x:=by rw [dK hk,hx]
   have hxm:x ∈ l:=bL
   have hg:(l.map zE)[k]?= some (zE x):=by rw [dN,hx2];rfl
   have e1:0+(k:Int).toNat=k:=aj
   have low:∀ n j,j<=g∨3 < n->∀ r ∈ ((l.map zE).set g ([U g0.zt,C.sl 3 [] 3 0 g0.ends.length false])).take j++(List.replicate l.length ([U 0,.ui 1 0 []]:List C)).drop j,∀ c ∈ r,qW n 9 c=true:=fun n j h=>vG (enc:=zE) (fun _=>rfl) rfl l l.length (h.imp_right fun h=>by simp [qW,qJ];omega)
   have own:∀ j,∀ r ∈ ((l.map zE).set g ([U g0.zt,C.sl 3 [] 3 0 g0.ends.length false])).take j++(List.replicate l.length ([U 0,.ui 1 0 []]:List C)).drop j,∀ c ∈ r,zy c=true:=fun j=>vG (enc:=zE) (fun _=>rfl) rfl l l.length (.inr rfl)
   by_cases hkv:k=g
   ·subst hkv;obtain rfl:g0=x:=by rw [hv] at hx2;exact gm hx2
    have hF:((l.map zE).set k ([U g0.zt,C.sl 3 [] 3 0 g0.ends.length false]))[k]?= some ([U g0.zt,C.sl 3 [] 3 0 g0.ends.length false]):=by rw [dW,dO rfl,dO (aq hk)]
    rw [dO (dU _),dL aw];conv=>whnf
    refine uF ?_;(refine td hg ?_)
    refine ⟨_,_,hA _ (zc rfl (zc (zi (own k)) rfl)),dd ?_⟩;exact cR
   ·have hF:((l.map zE).set g ([U g0.zt,C.sl 3 [] 3 0 g0.ends.length false]))[k]?= some (zE x):=by rw [pa (fun h=>hkv h.symm)];exact hg
    by_cases uj:k < g
    ·rw [dO aw,dO aw];conv=>whnf
     refine uF ?_;(refine td hg ?_)
     refine ah (hp x hxm) ?_;refine ⟨aw,aA,dd ?_⟩;rw [e1];refine ⟨_,jU aj hk,rfl,dd ?_⟩;refine .inl ⟨rfl,?_,trivial⟩;rw [zu aw,<- qR hF hk];refine zo.xi 2 hU rfl rfl rfl (jI rfl (xS ?_)) rfl;have lw:=low 2 (k+1) (.inl aw);rw [<- qR (z:=([U 0,.ui 1 0 []]:List C)) (n:=l.length) hF hk] at lw;exact lw
    ·rw [dL aw,dL aw];conv=>whnf
     refine uF ?_;(refine td hg ?_)
     refine ah (hp x hxm) ?_;refine ⟨aw,aA,dd ?_⟩;rw [e1];refine ⟨_,jU aj hk,rfl,dd ?_⟩;refine .inl ⟨rfl,?_,trivial⟩;rw [zu aw,<- qR hF hk];refine zo.xi 5 hU rfl rfl rfl (jI rfl (jI (xS ?_) (jI rfl (jI (xS (zA (enc:=zx) (fun _=>rfl) rfl _ _)) rfl)))) rfl;have lw:=low 5 (k+1) (.inr aw);rw [<- qR (z:=([U 0,.ui 1 0 []]:List C)) (n:=l.length) hF hk] at lw;exact lw
  ·exact dI
 refine h1.mo (fun B h _=>?_) (gu _);have hw:=zo.ur (B:=B) [1,3,4] [0] [.sl 1 [] 2 0 l.length false] [⟨1,243,0,[[]],0⟩,⟨1,0,2,(l.map zE).set g ([U g0.zt,C.sl 3 [] 3 0 g0.ends.length false]),0⟩,⟨1,134,2,[zE g0],0⟩,⟨1,0,3,(g0.ends.map zx).set e ([U e0.head,C.sl 4 [] 1 0 e0.next.length false,I e0.zf]),0⟩,⟨2,3,1,e0.next.map encI,0⟩] tJ rfl rfl (zc rfl (zc (zi (zA (enc:=zE) (fun _=>rfl) rfl l g)) (zc rfl (zc (zi (zA (enc:=zx) (fun _=>rfl) rfl _ _)) rfl))))
 have e:xn [1,3,4] [⟨1,243,0,[[]],0⟩,⟨1,0,2,(l.map zE).set g ([U g0.zt,C.sl 3 [] 3 0 g0.ends.length false]),0⟩,⟨1,134,2,[zE g0],0⟩,⟨1,0,3,(g0.ends.map zx).set e ([U e0.head,C.sl 4 [] 1 0 e0.next.length false,I e0.zf]),0⟩,⟨2,3,1,e0.next.map encI,0⟩]=[⟨1,0,2,(l.map zE).set g ([U g0.zt,C.sl 1 [] 3 0 g0.ends.length false]),0⟩,⟨1,0,3,(g0.ends.map zx).set e ([U e0.head,C.sl 2 [] 1 0 e0.next.length false,I e0.zf]),0⟩,⟨2,3,1,e0.next.map encI,0⟩]:=by
  show zK [1,3,4] ⟨1,0,2,(l.map zE).set g ([U g0.zt,C.sl 3 [] 3 0 g0.ends.length false]),0⟩::_=_;rw [zH (enc:=zE) (fun _=>rfl)];show _::zK [1,3,4] ⟨1,0,3,(g0.ends.map zx).set e ([U e0.head,C.sl 4 [] 1 0 e0.next.length false,I e0.zf]),0⟩::_=_;rw [zH (enc:=zx) (fun _=>rfl)];rfl
 rw [e] at hw;exact hw
structure Dr (v0:uq) (g:Nat) (g0:Gr) (e:Nat) (e0:En):Prop extends Dq g0 e e0 where
 fM:Ds v0
 u9:v0.zm[g]?= some g0
def SC {v0:uq} {g:Nat} {g0:Gr} {e:Nat} {e0:En} (h:Dr v0 g g0 e e0) (H:zl) (hf:qN H=true):tn 188 H [lG v0.zm,.fn 189 [] [],.agg []] (.sl H.length [] 2 0 v0.zm.length false) (H++[⟨1,0,2,(v0.zm.map zE).set g ([U g0.zt,C.sl (H.length+1) [] 3 0 g0.ends.length false]),0⟩,⟨1,0,3,(g0.ends.map zx).set e ([U e0.head,C.sl (H.length+2) [] 1 0 e0.next.length false,I e0.zf]),0⟩,⟨2,3,1,e0.next.map encI,0⟩]):=by
 have:=nv (Sg e0 e v0.zm g g0 h.u9 h.fM.1 (fun y hy=>Hw y (h.fM.2 y hy)) (Pq h.toDq)) (zc (zi (zA (enc:=zE) (fun _=>rfl) rfl _ _)) (zc (zi (zA (enc:=zx) (fun _=>rfl) rfl _ _)) rfl)) rfl H hf
 have e9:[(⟨1,0,2,(v0.zm.map zE).set g ([U g0.zt,C.sl 1 [] 3 0 g0.ends.length false]),0⟩:Ob),⟨1,0,3,(g0.ends.map zx).set e ([U e0.head,C.sl 2 [] 1 0 e0.next.length false,I e0.zf]),0⟩,⟨2,3,1,e0.next.map encI,0⟩].map (zG (qX [] H.length))=[⟨1,0,2,(v0.zm.map zE).set g ([U g0.zt,C.sl (H.length+1) [] 3 0 g0.ends.length false]),0⟩,⟨1,0,3,(g0.ends.map zx).set e ([U e0.head,C.sl (H.length+2) [] 1 0 e0.next.length false,I e0.zf]),0⟩,⟨2,3,1,e0.next.map encI,0⟩]:=by
  show zG _ ⟨1,0,2,_,0⟩::zG _ ⟨1,0,3,_,0⟩::_=_;rw [zB (enc:=zE) (fun _=>rfl),zB (enc:=zx) (fun _=>rfl)]
  rfl
 rw [e9] at this;exact dw
def Mq {v0:uq} {g:Nat} {g0:Gr} {e:Nat} {e0:En} (h:Dr v0 g g0 e e0):tn 157 [] [.agg [],.agg (zF v0)] (.agg (qJ v0.snap++[C.sl 0 [] 2 0 v0.zm.length false,Bo v0.qk])) [⟨1,0,2,(v0.zm.map zE).set g ([U g0.zt,C.sl 1 [] 3 0 g0.ends.length false]),0⟩,⟨1,0,3,(g0.ends.map zx).set e ([U e0.head,C.sl 2 [] 1 0 e0.next.length false,I e0.zf]),0⟩,⟨2,3,1,e0.next.map encI,0⟩]:=by
 have h1:tn 157 [] [.agg [],.agg (zF v0)] (.agg (qJ v0.snap++[C.sl 3 [] 2 0 v0.zm.length false,Bo v0.qk])) [⟨1,243,0,[[]],0⟩,⟨1,107,5,[(qJ v0.snap++[C.sl 3 [] 2 0 v0.zm.length false,Bo v0.qk])],0⟩,⟨1,107,5,[(qJ v0.snap++[C.sl 3 [] 2 0 v0.zm.length false,Bo v0.qk])],0⟩,⟨1,0,2,(v0.zm.map zE).set g ([U g0.zt,C.sl 4 [] 3 0 g0.ends.length false]),0⟩,⟨1,0,3,(g0.ends.map zx).set e ([U e0.head,C.sl 5 [] 1 0 e0.next.length false,I e0.zf]),0⟩,⟨2,3,1,e0.next.map encI,0⟩]:=by
  refine zb.zS (fn:=f157) func157 rfl (uH ?_);refine ⟨_,_,SC h _ rfl,dd ?_⟩;exact uJ
 refine h1.mo (fun B hB _=>?_) (gu _);have hw:=zo.ur (B:=B) [3,4,5] [0] [.agg (qJ v0.snap++[C.sl 3 [] 2 0 v0.zm.length false,Bo v0.qk])] [⟨1,243,0,[[]],0⟩,⟨1,107,5,[(qJ v0.snap++[C.sl 3 [] 2 0 v0.zm.length false,Bo v0.qk])],0⟩,⟨1,107,5,[(qJ v0.snap++[C.sl 3 [] 2 0 v0.zm.length false,Bo v0.qk])],0⟩,⟨1,0,2,(v0.zm.map zE).set g ([U g0.zt,C.sl 4 [] 3 0 g0.ends.length false]),0⟩,⟨1,0,3,(g0.ends.map zx).set e ([U e0.head,C.sl 5 [] 1 0 e0.next.length false,I e0.zf]),0⟩,⟨2,3,1,e0.next.map encI,0⟩] (by rw [show B=0 from aq hB];rfl) rfl rfl (zc rfl (zc rfl (zc rfl (zc (zi (zA (enc:=zE) (fun _=>rfl) rfl _ _)) (zc (zi (zA (enc:=zx) (fun _=>rfl) rfl _ _)) rfl)))))
 have e:xn [3,4,5] [⟨1,243,0,[[]],0⟩,⟨1,107,5,[(qJ v0.snap++[C.sl 3 [] 2 0 v0.zm.length false,Bo v0.qk])],0⟩,⟨1,107,5,[(qJ v0.snap++[C.sl 3 [] 2 0 v0.zm.length false,Bo v0.qk])],0⟩,⟨1,0,2,(v0.zm.map zE).set g ([U g0.zt,C.sl 4 [] 3 0 g0.ends.length false]),0⟩,⟨1,0,3,(g0.ends.map zx).set e ([U e0.head,C.sl 5 [] 1 0 e0.next.length false,I e0.zf]),0⟩,⟨2,3,1,e0.next.map encI,0⟩]=[⟨1,0,2,(v0.zm.map zE).set g ([U g0.zt,C.sl 1 [] 3 0 g0.ends.length false]),0⟩,⟨1,0,3,(g0.ends.map zx).set e ([U e0.head,C.sl 2 [] 1 0 e0.next.length false,I e0.zf]),0⟩,⟨2,3,1,e0.next.map encI,0⟩]:=by
  show zK [3,4,5] ⟨1,0,2,(v0.zm.map zE).set g ([U g0.zt,C.sl 4 [] 3 0 g0.ends.length false]),0⟩::zK [3,4,5] ⟨1,0,3,(g0.ends.map zx).set e ([U e0.head,C.sl 5 [] 1 0 e0.next.length false,I e0.zf]),0⟩::_=_;rw [zH (enc:=zE) (fun _=>rfl),zH (enc:=zx) (fun _=>rfl)]
  rfl
 rw [e] at hw;exact hw
def Np {v0:uq} {g:Nat} {g0:Gr} {e:Nat} {e0:En} (h:Dr v0 g g0 e e0) (H:zl) (hf:qN H=true):tn 157 H [.agg [],.agg (zF v0)] (.agg ((qJ v0.snap++[C.sl H.length [] 2 0 v0.zm.length false,Bo v0.qk]))) (H++[⟨1,0,2,(v0.zm.map zE).set g ([U g0.zt,C.sl (H.length+1) [] 3 0 g0.ends.length false]),0⟩,⟨1,0,3,(g0.ends.map zx).set e ([U e0.head,C.sl (H.length+2) [] 1 0 e0.next.length false,I e0.zf]),0⟩,⟨2,3,1,e0.next.map encI,0⟩]):=by
 have:=nv (Mq h) (zc (zi (zA (enc:=zE) (fun _=>rfl) rfl _ _)) (zc (zi (zA (enc:=zx) (fun _=>rfl) rfl _ _)) rfl)) rfl H hf
 have e9:[(⟨1,0,2,(v0.zm.map zE).set g ([U g0.zt,C.sl 1 [] 3 0 g0.ends.length false]),0⟩:Ob),⟨1,0,3,(g0.ends.map zx).set e ([U e0.head,C.sl 2 [] 1 0 e0.next.length false,I e0.zf]),0⟩,⟨2,3,1,e0.next.map encI,0⟩].map (zG (qX [] H.length))=[⟨1,0,2,(v0.zm.map zE).set g ([U g0.zt,C.sl (H.length+1) [] 3 0 g0.ends.length false]),0⟩,⟨1,0,3,(g0.ends.map zx).set e ([U e0.head,C.sl (H.length+2) [] 1 0 e0.next.length false,I e0.zf]),0⟩,⟨2,3,1,e0.next.map encI,0⟩]:=by
  show zG _ ⟨1,0,2,_,0⟩::zG _ ⟨1,0,3,_,0⟩::_=_;rw [zB (enc:=zE) (fun _=>rfl),zB (enc:=zx) (fun _=>rfl)]
  rfl
 rw [e9] at this;exact dw
def Si (g0:Gr) (g:Nat) (e0:En) (e:Nat) (l:List uq) (v:Nat) (v0:uq) (hv:l[v]?= some v0) (hl:l.length < 1000000000) (hp:∀ x ∈ l,tn 157 [] [.agg [],.agg (zF x)] (.agg (zF x)) [])
  (hA:∀ H,qN H=true->tn 157 H [.agg [],.agg (zF v0)] (.agg ((qJ v0.snap++[C.sl H.length [] 2 0 v0.zm.length false,Bo v0.qk]))) (H++[⟨1,0,2,(v0.zm.map zE).set g ([U g0.zt,C.sl (H.length+1) [] 3 0 g0.ends.length false]),0⟩,⟨1,0,3,(g0.ends.map zx).set e ([U e0.head,C.sl (H.length+2) [] 1 0 e0.next.length false,I e0.zf]),0⟩,⟨2,3,1,e0.next.map encI,0⟩])):
  tn 156 [] [lV l,.fn 157 [] [],.agg []] (.sl 0 [] 5 0 l.length false) [⟨1,0,5,(l.map zF).set v ((qJ v0.snap++[C.sl 1 [] 2 0 v0.zm.length false,Bo v0.qk])),0⟩,⟨1,0,2,(v0.zm.map zE).set g ([U g0.zt,C.sl 2 [] 3 0 g0.ends.length false]),0⟩,⟨1,0,3,(g0.ends.map zx).set e ([U e0.head,C.sl 3 [] 1 0 e0.next.length false,I e0.zf]),0⟩,⟨2,3,1,e0.next.map encI,0⟩]:=by
 have m1:(l.map zF).length=l.length:=dP ..;have hvl:=(dJ.1 hv).1
 have h1:tn 156 [] [lV l,.fn 157 [] [],.agg []] (.sl 1 [] 5 0 l.length false) [⟨1,243,0,[[]],0⟩,⟨1,0,5,(l.map zF).set v ((qJ v0.snap++[C.sl 3 [] 2 0 v0.zm.length false,Bo v0.qk])),0⟩,⟨1,107,5,[zF v0],0⟩,⟨1,0,2,(v0.zm.map zE).set g ([U g0.zt,C.sl 4 [] 3 0 g0.ends.length false]),0⟩,⟨1,0,3,(g0.ends.map zx).set e ([U e0.head,C.sl 5 [] 1 0 e0.next.length false,I e0.zf]),0⟩,⟨2,3,1,e0.next.map encI,0⟩]:=by
  refine zb.zS (fn:=f156) func156 rfl (uH ?_);rw [m1];refine ⟨rfl,aw,by show (104:Int) * _<=_;omega,aw,dd ?_⟩;rw [m1,toNat_cast];have ZZ:List C:=([.ui 1 0 [],.ui 1 0 [],.ui 1 0 [],.ui 1 0 [],Bo false]:List C);refine z5.seq l.length (fun k=>((lV l)::.fn 157 [] []::.za::.za::.za::.ref 0 [] 0 0 0::.ui 1 0 []::.sl 1 [] 5 0 l.length false::.za::.za::.za::.za::.za::(lV l)::I l.length::I k::tZ ([.za,.za,.za,.za,.za]))) (fun k=>if k<=v then [⟨1,243,0,[[]],0⟩,⟨1,0,5,((l.map zF).set v ((qJ v0.snap++[C.sl 3 [] 2 0 v0.zm.length false,Bo v0.qk]))).take k++(List.replicate l.length ([.ui 1 0 [],.ui 1 0 [],.ui 1 0 [],.ui 1 0 [],Bo false]:List C)).drop k,0⟩] else [⟨1,243,0,[[]],0⟩,⟨1,0,5,((l.map zF).set v ((qJ v0.snap++[C.sl 3 [] 2 0 v0.zm.length false,Bo v0.qk]))).take k++(List.replicate l.length ([.ui 1 0 [],.ui 1 0 [],.ui 1 0 [],.ui 1 0 [],Bo false]:List C)).drop k,0⟩,⟨1,107,5,[zF v0],0⟩,⟨1,0,2,(v0.zm.map zE).set g ([U g0.zt,C.sl 4 [] 3 0 g0.ends.length false]),0⟩,⟨1,0,3,(g0.ends.map zx).set e ([U e0.head,C.sl 5 [] 1 0 e0.next.length false,I e0.zf]),0⟩,⟨2,3,1,e0.next.map encI,0⟩]) (fun k=>True) ?_ trivial (fun k hk hr=>?_) (fun hr=>?_)
  ·rw [dO (gu _)];refine zo.trans (zo.Av 1 rfl fun r hr c hc=>?_) (cC);rw [gL hr] at hc;exact dT.1 (rfl:([.ui 1 0 [],.ui 1 0 [],.ui 1 0 [],.ui 1 0 [],Bo false]:List C).all zy=true) c hc
  ·obtain ⟨x,hx⟩:∃ x,x=l[k]:=⟨_,rfl⟩;have hx2:l[k]?= some x:=by rw [dK hk,hx]
   have hxm:x ∈ l:=bL
   have hg:(l.map zF)[k]?= some (zF x):=by rw [dN,hx2];rfl
   have e1:0+(k:Int).toNat=k:=aj
   have low:∀ n j,j<=v∨3 < n->∀ r ∈ ((l.map zF).set v ((qJ v0.snap++[C.sl 3 [] 2 0 v0.zm.length false,Bo v0.qk]))).take j++(List.replicate l.length ([.ui 1 0 [],.ui 1 0 [],.ui 1 0 [],.ui 1 0 [],Bo false]:List C)).drop j,∀ c ∈ r,qW n 9 c=true:=fun n j h=>vG (enc:=zF) (fun _=>rfl) rfl l l.length (h.imp_right fun h=>by simp [qW,qJ];omega)
   have own:∀ j,∀ r ∈ ((l.map zF).set v ((qJ v0.snap++[C.sl 3 [] 2 0 v0.zm.length false,Bo v0.qk]))).take j++(List.replicate l.length ([.ui 1 0 [],.ui 1 0 [],.ui 1 0 [],.ui 1 0 [],Bo false]:List C)).drop j,∀ c ∈ r,zy c=true:=fun j=>vG (enc:=zF) (fun _=>rfl) rfl l l.length (.inr rfl)
   by_cases hkv:k=v
   ·subst hkv;obtain rfl:v0=x:=by rw [hv] at hx2;exact gm hx2
    have hF:((l.map zF).set k ((qJ v0.snap++[C.sl 3 [] 2 0 v0.zm.length false,Bo v0.qk])))[k]?= some ((qJ v0.snap++[C.sl 3 [] 2 0 v0.zm.length false,Bo v0.qk])):=by rw [dW,dO rfl,dO (aq hk)]
    rw [dO (dU _),dL aw];conv=>whnf
    refine uF ?_;(refine td hg ?_)
    refine ⟨_,_,hA _ (zc rfl (zc (zi (own k)) rfl)),dd ?_⟩;exact cR
   ·have hF:((l.map zF).set v ((qJ v0.snap++[C.sl 3 [] 2 0 v0.zm.length false,Bo v0.qk])))[k]?= some (zF x):=by rw [pa (fun h=>hkv h.symm)];exact hg
    by_cases uj:k < v
    ·rw [dO aw,dO aw];conv=>whnf
     refine uF ?_;(refine td hg ?_)
     refine ah (hp x hxm) ?_;refine ⟨aw,aA,dd ?_⟩;rw [e1];refine ⟨_,jU aj hk,rfl,dd ?_⟩;refine .inl ⟨rfl,?_,trivial⟩;rw [zu aw,<- qR hF hk];refine zo.xi 2 hU rfl rfl rfl (jI rfl (xS ?_)) rfl;have lw:=low 2 (k+1) (.inl aw);rw [<- qR (z:=([.ui 1 0 [],.ui 1 0 [],.ui 1 0 [],.ui 1 0 [],Bo false]:List C)) (n:=l.length) hF hk] at lw;exact lw
    ·rw [dL aw,dL aw];conv=>whnf
     refine uF ?_;(refine td hg ?_)
     refine ah (hp x hxm) ?_;refine ⟨aw,aA,dd ?_⟩;rw [e1];refine ⟨_,jU aj hk,rfl,dd ?_⟩;refine .inl ⟨rfl,?_,trivial⟩;rw [zu aw,<- qR hF hk];refine zo.xi 6 hU rfl rfl rfl (jI rfl (jI (xS ?_) (jI rfl (jI (xS (zA (enc:=zE) (fun _=>rfl) rfl _ _)) (jI (xS (zA (enc:=zx) (fun _=>rfl) rfl _ _)) rfl))))) rfl;have lw:=low 6 (k+1) (.inr aw);rw [<- qR (z:=([.ui 1 0 [],.ui 1 0 [],.ui 1 0 [],.ui 1 0 [],Bo false]:List C)) (n:=l.length) hF hk] at lw;exact lw
  ·exact dI
 refine h1.mo (fun B h _=>?_) (gu _);have hw:=zo.ur (B:=B) [1,3,4,5] [0] [.sl 1 [] 5 0 l.length false] [⟨1,243,0,[[]],0⟩,⟨1,0,5,(l.map zF).set v ((qJ v0.snap++[C.sl 3 [] 2 0 v0.zm.length false,Bo v0.qk])),0⟩,⟨1,107,5,[zF v0],0⟩,⟨1,0,2,(v0.zm.map zE).set g ([U g0.zt,C.sl 4 [] 3 0 g0.ends.length false]),0⟩,⟨1,0,3,(g0.ends.map zx).set e ([U e0.head,C.sl 5 [] 1 0 e0.next.length false,I e0.zf]),0⟩,⟨2,3,1,e0.next.map encI,0⟩] tJ rfl rfl (zc rfl (zc (zi (zA (enc:=zF) (fun _=>rfl) rfl l v)) (zc rfl (zc (zi (zA (enc:=zE) (fun _=>rfl) rfl _ _)) (zc (zi (zA (enc:=zx) (fun _=>rfl) rfl _ _)) rfl)))))
 have e:xn [1,3,4,5] [⟨1,243,0,[[]],0⟩,⟨1,0,5,(l.map zF).set v ((qJ v0.snap++[C.sl 3 [] 2 0 v0.zm.length false,Bo v0.qk])),0⟩,⟨1,107,5,[zF v0],0⟩,⟨1,0,2,(v0.zm.map zE).set g ([U g0.zt,C.sl 4 [] 3 0 g0.ends.length false]),0⟩,⟨1,0,3,(g0.ends.map zx).set e ([U e0.head,C.sl 5 [] 1 0 e0.next.length false,I e0.zf]),0⟩,⟨2,3,1,e0.next.map encI,0⟩]=[⟨1,0,5,(l.map zF).set v ((qJ v0.snap++[C.sl 1 [] 2 0 v0.zm.length false,Bo v0.qk])),0⟩,⟨1,0,2,(v0.zm.map zE).set g ([U g0.zt,C.sl 2 [] 3 0 g0.ends.length false]),0⟩,⟨1,0,3,(g0.ends.map zx).set e ([U e0.head,C.sl 3 [] 1 0 e0.next.length false,I e0.zf]),0⟩,⟨2,3,1,e0.next.map encI,0⟩]:=by
  show zK [1,3,4,5] ⟨1,0,5,(l.map zF).set v ((qJ v0.snap++[C.sl 3 [] 2 0 v0.zm.length false,Bo v0.qk])),0⟩::_=_;rw [zH (enc:=zF) (fun _=>rfl)];show _::zK [1,3,4,5] ⟨1,0,2,(v0.zm.map zE).set g ([U g0.zt,C.sl 4 [] 3 0 g0.ends.length false]),0⟩::zK [1,3,4,5] ⟨1,0,3,(g0.ends.map zx).set e ([U e0.head,C.sl 5 [] 1 0 e0.next.length false,I e0.zf]),0⟩::_=_;rw [zH (enc:=zE) (fun _=>rfl),zH (enc:=zx) (fun _=>rfl)];rfl
 rw [e] at hw;exact hw
structure oz (vs:List uq) (v:Nat) (v0:uq) (g:Nat) (g0:Gr) (e:Nat) (e0:En):Prop extends Dr v0 g g0 e e0 where
 Lp:vs.length < 1000000000∧∀ v ∈ vs,Ds v
 eF:vs[v]?= some v0
def SF {vs:List uq} {v:Nat} {v0:uq} {g:Nat} {g0:Gr} {e:Nat} {e0:En} (h:oz vs v v0 g g0 e e0) (H:zl) (hf:qN H=true):tn 156 H [lV vs,.fn 157 [] [],.agg []] (.sl H.length [] 5 0 vs.length false) (H++[⟨1,0,5,(vs.map zF).set v ((qJ v0.snap++[C.sl (H.length+1) [] 2 0 v0.zm.length false,Bo v0.qk])),0⟩,⟨1,0,2,(v0.zm.map zE).set g ([U g0.zt,C.sl (H.length+2) [] 3 0 g0.ends.length false]),0⟩,⟨1,0,3,(g0.ends.map zx).set e ([U e0.head,C.sl (H.length+3) [] 1 0 e0.next.length false,I e0.zf]),0⟩,⟨2,3,1,e0.next.map encI,0⟩]):=by
 have:=nv (Si g0 g e0 e vs v v0 h.eF h.Lp.1 (fun y hy=>jB y (h.Lp.2 y hy)) (Np h.toDr)) (zc (zi (zA (enc:=zF) (fun _=>rfl) rfl _ _)) (zc (zi (zA (enc:=zE) (fun _=>rfl) rfl _ _)) (zc (zi (zA (enc:=zx) (fun _=>rfl) rfl _ _)) rfl))) rfl H hf
 have e9:[(⟨1,0,5,(vs.map zF).set v ((qJ v0.snap++[C.sl 1 [] 2 0 v0.zm.length false,Bo v0.qk])),0⟩:Ob),⟨1,0,2,(v0.zm.map zE).set g ([U g0.zt,C.sl 2 [] 3 0 g0.ends.length false]),0⟩,⟨1,0,3,(g0.ends.map zx).set e ([U e0.head,C.sl 3 [] 1 0 e0.next.length false,I e0.zf]),0⟩,⟨2,3,1,e0.next.map encI,0⟩].map (zG (qX [] H.length))=[⟨1,0,5,(vs.map zF).set v ((qJ v0.snap++[C.sl (H.length+1) [] 2 0 v0.zm.length false,Bo v0.qk])),0⟩,⟨1,0,2,(v0.zm.map zE).set g ([U g0.zt,C.sl (H.length+2) [] 3 0 g0.ends.length false]),0⟩,⟨1,0,3,(g0.ends.map zx).set e ([U e0.head,C.sl (H.length+3) [] 1 0 e0.next.length false,I e0.zf]),0⟩,⟨2,3,1,e0.next.map encI,0⟩]:=by
  show zG _ ⟨1,0,5,_,0⟩::zG _ ⟨1,0,2,_,0⟩::zG _ ⟨1,0,3,_,0⟩::_=_;rw [zB (enc:=zF) (fun _=>rfl),zB (enc:=zE) (fun _=>rfl),zB (enc:=zx) (fun _=>rfl)]
  rfl
 rw [e9] at this;exact dw
def wg (l:List (List Int)) (hl:l.length < 1000000000) (hp:∀ x ∈ l,tn 160 [] [.agg [],lU x] (lU x) []):tn 159 [] [eh l,.fn 160 [] [],.agg []] (.sl 0 [] 1 0 l.length false) [⟨2,116,1,l.map zN,0⟩]:=by
 have m1:(l.map zN).length=l.length:=dP ..;refine zb.zS (fn:=f159) func159 rfl (uH ?_);rw [m1];refine ⟨rfl,aw,by show (24:Int) * _<=_;omega,aw,dd ?_⟩;rw [m1,toNat_cast];refine z5.seq l.length (fun k=>((eh l)::.fn 160 [] []::.za::.za::.za::.ref 0 [] 0 0 0::.ui 1 0 []::.sl 1 [] 1 0 l.length false::.za::.za::.za::.za::.za::(eh l)::I l.length::I k::tZ ([.za,.za,.za,.za,.za]))) (fun k=>[⟨1,243,0,[[]],0⟩,⟨2,116,1,(l.map zN).take k++(List.replicate l.length ([.ui 1 0 []]:List C)).drop k,0⟩]) (fun k=>True) ?_ trivial (fun k hk hr=>?_) (fun hr=>?_)
 ·exact cC
 ·obtain ⟨x,hx⟩:∃ x,x=l[k]:=⟨_,rfl⟩;have hx2:l[k]?= some x:=by rw [dK hk,hx]
  have hg:(l.map zN)[k]?= some (zN x):=by rw [dN,hx2];rfl
  conv=>whnf
  refine uF ?_;(refine td hg ?_)
  refine ah (hp x tE) ?_;refine ⟨aw,aA,dd ?_⟩;have e1:0+(k:Int).toNat=k:=aj
  rw [e1];refine ⟨_,jU aj hk,rfl,dd ?_⟩;refine .inl ⟨rfl,?_,trivial⟩;have e2:=qR (z:=([.ui 1 0 []]:List C)) (n:=l.length) hg hk;rw [zu aw,<- e2];exact cE 2
 ·exact da
def OS (r0:List Int) (x:Int) (l:List Int) (he:r0=x::l) (hl:l.length < 1000000000):tn 160 [] [.agg [],lU r0] (.sl 0 [] 1 0 r0.length false) [⟨2,43,1,r0.map jA,0⟩]:=by
 have h1:tn 160 [] [.agg [],lU r0] (.sl 1 [] 1 0 r0.length false) [⟨1,243,0,[[]],0⟩,⟨2,43,1,r0.map jA,0⟩]:=by
  have hc:=Sb x l hl;rw [<- he] at hc;refine zb.zS (fn:=f160) func160 rfl (uH ?_);refine af [] (hc) ?_;exact uJ
 exact h1.mo (fun B h _=>zo.ur [1] [0] _ _ tJ rfl rfl rfl) (gu _)
def S4 (r0:List Int) (x:Int) (l:List Int) (he:r0=x::l) (hl:l.length < 1000000000) (H:zl) (hf:qN H=true):tn 160 H [.agg [],lU r0] (.sl H.length [] 1 0 r0.length false) (H++[⟨2,43,1,r0.map jA,0⟩]):=
 nv (OS r0 x l he hl) rfl rfl H hf
def oP {P:Program} {f:FuncId} {fn:Func} {c:Code} {H2:zl} {args:List C} {r:C} (hf:P.funcs[f]?= some fn) (hb:fn.body=some c)
  (h:wpA P 0 c (entry fn args) [] fun ex t1 H1=>(ex=.ret∨ex=.normal)∧∃ s2 r1,zo 0 ⟨t1,H1⟩ s2∧kc P fn s2=some r1∧zo 0 ⟨[r1],s2.H⟩ ⟨[r],H2⟩):zb P f [] args r H2:=fun w E vs hh hl=>by
 have h1:qB P f [] args fun r1 H1=>zo 0 ⟨[r1],H1⟩ ⟨[r],H2⟩:=qB.zS hf hb h
 refine (h1 w E vs hh hl).mono ?_;rintro e w' ⟨r1,H1,v,E',hw,h0,h2,h3,g⟩;obtain ⟨E2,hs,g2⟩:=hw 0 w' E' ⟨#[v],[]⟩ ⟨h2,LL.one h3,gu _,gu _⟩;have hn2:=hs.heap.n;have hn0:E.n=0:=hh.n;refine ⟨v,E2,h0,hs.heap,hs.tmps.cons_inv.1,⟨⟨by rw [hn0];exact gu _,fun id hops hi=>by rw [hn0] at hi;omega,fun id hops hi=>by rw [hn0] at hi;omega,fun b o u hu=>g2.le.St _ _ _ (g.le.St _ _ _ hu),fun id k u hi hu=>by rw [hn0] at hi;omega⟩,g2.os.trans g.os,g2.tape.trans g.tape,g2.output.trans g.output,gQ g.size g2.size,?_,?_,?_⟩⟩
 ·intro k hk ho;exact cV
 ·intro b o u hu;rcases g2.jE b o u hu with h1 | h1 | h1
  ·exact g.jE b o u h1
  ·exact .inr (.inl (gQ g.size h1))
  ·rcases g.own b h1 with h4 | h4
   ·exact .inr (.inl h4)
   ·exact .inr (.inr h4)
 ·intro b hb;rcases g2.own b hb with h1 | h1
  ·exact .inl (gQ g.size h1)
  ·exact g.own b h1
def qt (w:Wor) (h:qV w):tn 114 [] [Cw w] (Cw w) []:=by
 refine ab func114 ?_;refine ah (yP w.pins h.pins) ?_;refine af [] (wh w.ze h.ze.1 fun v hv=>jB v (h.ze.2 v hv)) ?_;refine ah (vE w.zd h.zd) ?_;refine af [] (wg w.counts h.counts.1 fun r hr=>xP r (h.counts.2 r hr)) ?_;refine ah (wL w.zr h.zr) ?_;exact ⟨.inl rfl,_,(zo.zU 1 0 4 rfl rfl rfl rfl (.inr rfl) rfl aj (shut_map (enc:=zF) (fun _=>rfl) w.ze) (zZ rfl)).trans (zo.zU 1 0 6 rfl rfl rfl rfl (.inr rfl) rfl aj (shut_map (enc:=zN) (fun _=>rfl) w.counts) (zZ rfl)),rfl⟩
def Sh (l:List (List Int)) (t:Nat) (r0:(List Int)) (hv:l[t]?= some r0) (hl:l.length < 1000000000) (hp:∀ x ∈ l,tn 160 [] [.agg [],lU x] (lU x) [])
  (hA:∀ H,qN H=true->tn 160 H [.agg [],lU r0] (.sl H.length [] 1 0 r0.length false) (H++[⟨2,43,1,r0.map jA,0⟩])):
  tn 159 [] [eh l,.fn 160 [] [],.agg []] (.sl 0 [] 1 0 l.length false) [⟨1,0,1,(l.map zN).set t ([C.sl 1 [] 1 0 r0.length false]),0⟩,⟨2,43,1,r0.map jA,0⟩]:=by
 have m1:(l.map zN).length=l.length:=dP ..;have hvl:=(dJ.1 hv).1
 have h1:tn 159 [] [eh l,.fn 160 [] [],.agg []] (.sl 1 [] 1 0 l.length false) [⟨1,243,0,[[]],0⟩,⟨1,0,1,(l.map zN).set t ([C.sl 2 [] 1 0 r0.length false]),0⟩,⟨2,43,1,r0.map jA,0⟩]:=by
  refine zb.zS (fn:=f159) func159 rfl (uH ?_);rw [m1];refine ⟨rfl,aw,by show (24:Int) * _<=_;omega,aw,dd ?_⟩;rw [m1,toNat_cast];have ZZ:List C:=([.ui 1 0 []]:List C);refine z5.seq l.length (fun k=>((eh l)::.fn 160 [] []::.za::.za::.za::.ref 0 [] 0 0 0::.ui 1 0 []::.sl 1 [] 1 0 l.length false::.za::.za::.za::.za::.za::(eh l)::I l.length::I k::tZ ([.za,.za,.za,.za,.za]))) (fun k=>if k<=t then [⟨1,243,0,[[]],0⟩,⟨1,0,1,((l.map zN).set t ([C.sl 2 [] 1 0 r0.length false])).take k++(List.replicate l.length ([.ui 1 0 []]:List C)).drop k,0⟩] else [⟨1,243,0,[[]],0⟩,⟨1,0,1,((l.map zN).set t ([C.sl 2 [] 1 0 r0.length false])).take k++(List.replicate l.length ([.ui 1 0 []]:List C)).drop k,0⟩,⟨2,43,1,r0.map jA,0⟩]) (fun k=>True) ?_ trivial (fun k hk hr=>?_) (fun hr=>?_)
  ·rw [dO (gu _)];refine zo.trans (zo.Av 1 rfl fun r hr c hc=>?_) (cC);rw [gL hr] at hc;exact dT.1 (rfl:([.ui 1 0 []]:List C).all zy=true) c hc
  ·obtain ⟨x,hx⟩:∃ x,x=l[k]:=⟨_,rfl⟩;have hx2:l[k]?= some x:=by rw [dK hk,hx]
   have hxm:x ∈ l:=bL
   have hg:(l.map zN)[k]?= some (zN x):=by rw [dN,hx2];rfl
   have e1:0+(k:Int).toNat=k:=aj
   have low:∀ n j,j<=t∨2 < n->∀ r ∈ ((l.map zN).set t ([C.sl 2 [] 1 0 r0.length false])).take j++(List.replicate l.length ([.ui 1 0 []]:List C)).drop j,∀ c ∈ r,qW n 9 c=true:=fun n j h=>vG (enc:=zN) (fun _=>rfl) rfl l l.length (h.imp_right fun h=>by simp [qW,qJ];omega)
   have own:∀ j,∀ r ∈ ((l.map zN).set t ([C.sl 2 [] 1 0 r0.length false])).take j++(List.replicate l.length ([.ui 1 0 []]:List C)).drop j,∀ c ∈ r,zy c=true:=fun j=>vG (enc:=zN) (fun _=>rfl) rfl l l.length (.inr rfl)
   by_cases hkv:k=t
   ·subst hkv;obtain rfl:r0=x:=by rw [hv] at hx2;exact gm hx2
    have hF:((l.map zN).set k ([C.sl 2 [] 1 0 r0.length false]))[k]?= some ([C.sl 2 [] 1 0 r0.length false]):=by rw [dW,dO rfl,dO (aq hk)]
    rw [dO (dU _),dL aw];conv=>whnf
    refine uF ?_;(refine td hg ?_)
    refine ⟨_,_,hA _ (zc rfl (zi (own k))),dd ?_⟩;exact cR
   ·have hF:((l.map zN).set t ([C.sl 2 [] 1 0 r0.length false]))[k]?= some (zN x):=by rw [pa (fun h=>hkv h.symm)];exact hg
    by_cases uj:k < t
    ·rw [dO aw,dO aw];conv=>whnf
     refine uF ?_;(refine td hg ?_)
     refine ah (hp x hxm) ?_;refine ⟨aw,aA,dd ?_⟩;rw [e1];refine ⟨_,jU aj hk,rfl,dd ?_⟩;refine .inl ⟨rfl,?_,trivial⟩;rw [zu aw,<- qR hF hk];refine zo.xi 2 hU rfl rfl rfl (jI rfl (xS ?_)) rfl;have lw:=low 2 (k+1) (.inl aw);rw [<- qR (z:=([.ui 1 0 []]:List C)) (n:=l.length) hF hk] at lw;exact lw
    ·rw [dL aw,dL aw];conv=>whnf
     refine uF ?_;(refine td hg ?_)
     refine ah (hp x hxm) ?_;refine ⟨aw,aA,dd ?_⟩;rw [e1];refine ⟨_,jU aj hk,rfl,dd ?_⟩;refine .inl ⟨rfl,?_,trivial⟩;rw [zu aw,<- qR hF hk];refine zo.xi 3 hU rfl rfl rfl (jI rfl (jI (xS ?_) rfl)) rfl;have lw:=low 3 (k+1) (.inr aw);rw [<- qR (z:=([.ui 1 0 []]:List C)) (n:=l.length) hF hk] at lw;exact lw
  ·exact dI
 refine h1.mo (fun B h _=>?_) (gu _);have hw:=zo.ur (B:=B) [1,2] [0] [.sl 1 [] 1 0 l.length false] [⟨1,243,0,[[]],0⟩,⟨1,0,1,(l.map zN).set t ([C.sl 2 [] 1 0 r0.length false]),0⟩,⟨2,43,1,r0.map jA,0⟩] tJ rfl rfl (zc rfl (zc (zi (zA (enc:=zN) (fun _=>rfl) rfl l t)) rfl))
 have e:xn [1,2] [⟨1,243,0,[[]],0⟩,⟨1,0,1,(l.map zN).set t ([C.sl 2 [] 1 0 r0.length false]),0⟩,⟨2,43,1,r0.map jA,0⟩]=[⟨1,0,1,(l.map zN).set t ([C.sl 1 [] 1 0 r0.length false]),0⟩,⟨2,43,1,r0.map jA,0⟩]:=by
  show zK [1,2] ⟨1,0,1,(l.map zN).set t ([C.sl 2 [] 1 0 r0.length false]),0⟩::_=_;rw [zH (enc:=zN) (fun _=>rfl)]
  rfl
 rw [e] at hw;exact hw
structure Dp (cs:List (List Int)) (t:Nat) (r0:List Int):Prop where
 sm:cs.length < 1000000000∧∀ r ∈ cs,r.length < 1000000000
 at_:cs[t]?= some r0
 ne:r0≠[]
def SE {cs:List (List Int)} {t:Nat} {r0:List Int} (h:Dp cs t r0) (H:zl) (hf:qN H=true):tn 159 H [eh cs,.fn 160 [] [],.agg []] (.sl H.length [] 1 0 cs.length false) (H++[⟨1,0,1,(cs.map zN).set t ([C.sl (H.length+1) [] 1 0 r0.length false]),0⟩,⟨2,43,1,r0.map jA,0⟩]):=by
 obtain ⟨x,l,hx⟩:∃ x l,r0=x::l:=by
  cases hh:r0 with
  | nil=>exact absurd hh h.ne
  | cons x l=>exact ⟨x,l,rfl⟩
 have hlen:l.length < 1000000000:=by
  have:=h.sm.2 r0 (dM h.at_);rw [hx] at this;exact cN
 have:=nv (Sh cs t r0 h.at_ h.sm.1 (fun y hy=>xP y (h.sm.2 y hy)) (S4 r0 x l hx hlen)) (zc (zi (zA (enc:=zN) (fun _=>rfl) rfl _ _)) rfl) rfl H hf
 have e9:[(⟨1,0,1,(cs.map zN).set t ([C.sl 1 [] 1 0 r0.length false]),0⟩:Ob),⟨2,43,1,r0.map jA,0⟩].map (zG (qX [] H.length))=[⟨1,0,1,(cs.map zN).set t ([C.sl (H.length+1) [] 1 0 r0.length false]),0⟩,⟨2,43,1,r0.map jA,0⟩]:=by
  show zG _ ⟨1,0,1,_,0⟩::_=_;rw [zB (enc:=zN) (fun _=>rfl)]
  rfl
 rw [e9] at this;exact dw
def Hg (w:Wor) (h:qV w) (x:Int) (l:List Int) (hx:w.pins=x::l):tn 114 [] [Cw w] (.agg [I w.zn,I w.current,I w.lock,.sl 0 [] 1 0 w.pins.length false,lV w.ze,lL w.zd,eh w.counts,lR w.zr]) [⟨2,3,1,w.pins.map encI,0⟩]:=by
 have hl:l.length < 1000000000:=by have:=h.pins;rw [hx] at this;exact cN
 have hc:=JI x l hl;rw [<- hx] at hc;refine oP (fn:=f114) func114 rfl (uH ?_);refine af [] (hc) ?_;refine af [] (wh w.ze h.ze.1 fun v hv=>jB v (h.ze.2 v hv)) ?_;refine ah (vE w.zd h.zd) ?_;refine af [] (wg w.counts h.counts.1 fun r hr=>xP r (h.counts.2 r hr)) ?_;refine ah (wL w.zr h.zr) ?_;refine ⟨.inl rfl,_,_,(zo.zU 1 0 4 rfl rfl rfl rfl (.inr rfl) rfl aj (shut_map (enc:=zF) (fun _=>rfl) w.ze) (zZ rfl)).trans (zo.zU 1 0 6 rfl rfl rfl rfl (.inr rfl) rfl aj (shut_map (enc:=zN) (fun _=>rfl) w.counts) (zZ rfl)),rfl,?_⟩;exact zo.ur [3] [0] _ _ rfl rfl rfl (zc rfl (zc rfl (zc rfl (zc rfl (zc (zi fun r hr c hc=>((shut_map (enc:=zF) (fun _=>rfl) w.ze) r hr c hc).2) (zi fun r hr c hc=>((shut_map (enc:=zN) (fun _=>rfl) w.counts) r hr c hc).2))))))
def Kf {B:Nat} (sel m:List Nat) {t t2:List C} {H H2:zl} (hB:Ax B 0 sel=true) (z7:sel.all (fun id=>Nat.blt id H.length)=true) (eS:x9 sel=true) (eL:qN H=true) (et:(ou m 0 t).map (xO sel 9)=t2) (e:xn sel H=H2):zo B ⟨t,H⟩ ⟨t2,H2⟩:=by
 subst et e;exact zo.ur sel m t H hB z7 eS eL
def yQ (w:Wor) (h:qV w) (x:ec) (l:List ec) (hx:w.zd=x::l):tn 114 [] [Cw w] (.agg [I w.zn,I w.current,I w.lock,lI w.pins,lV w.ze,.sl 0 [] 4 0 w.zd.length false,eh w.counts,lR w.zr]) [⟨2,85,4,w.zd.map qF,0⟩]:=by
 have hl:l.length < 1000000000:=by have:=h.zd;rw [hx] at this;exact cN
 have hc:=Sa x l hl;rw [<- hx] at hc;refine oP (fn:=f114) func114 rfl (uH ?_);refine ah (yP w.pins h.pins) ?_;refine af [] (wh w.ze h.ze.1 fun v hv=>jB v (h.ze.2 v hv)) ?_;refine af [] (hc) ?_;refine af [] (wg w.counts h.counts.1 fun r hr=>xP r (h.counts.2 r hr)) ?_;refine ah (wL w.zr h.zr) ?_;refine ⟨.inl rfl,_,_,(zo.zU 1 0 4 rfl rfl rfl rfl (.inr rfl) rfl aj (shut_map (enc:=zF) (fun _=>rfl) w.ze) (zZ rfl)).trans (zo.zU 1 0 6 rfl rfl rfl rfl (.inr rfl) rfl aj (shut_map (enc:=zN) (fun _=>rfl) w.counts) (zZ rfl)),rfl,?_⟩;exact zo.ur [4] [0] _ _ rfl rfl rfl (zc rfl (zc rfl (zc rfl (zc (zi fun r hr c hc=>((shut_map (enc:=zF) (fun _=>rfl) w.ze) r hr c hc).2) (zc rfl (zi fun r hr c hc=>((shut_map (enc:=zN) (fun _=>rfl) w.counts) r hr c hc).2))))))
def He (w:Wor) (h:qV w) (cs:List (List Int)) (hcs:w.counts=cs) {t:Nat} {r0:List Int} (hp:Dp cs t r0):tn 114 [] [Cw w] (.agg [I w.zn,I w.current,I w.lock,lI w.pins,lV w.ze,lL w.zd,.sl 0 [] 1 0 cs.length false,lR w.zr]) [⟨1,0,1,(cs.map zN).set t ([C.sl 1 [] 1 0 r0.length false]),0⟩,⟨2,43,1,r0.map jA,0⟩]:=by
 subst hcs;have own:∀ i,∀ r ∈ (w.counts.map zN).set t ([C.sl i [] 1 0 r0.length false]),∀ c ∈ r,zy c=true:=fun i=>zA (enc:=zN) (fun _=>rfl) rfl _ _
 refine oP (fn:=f114) func114 rfl (uH ?_);refine ah (yP w.pins h.pins) ?_;refine af [] (wh w.ze h.ze.1 fun v hv=>jB v (h.ze.2 v hv)) ?_;refine ah (vE w.zd h.zd) ?_;refine ⟨_,_,SE hp _ (zc rfl (zc rfl (zc rfl rfl))),dd ?_⟩;refine ah (wL w.zr h.zr) ?_;refine ⟨.inl rfl,_,_,zo.zU 1 0 4 rfl rfl rfl rfl (.inr rfl) rfl aj (shut_map (enc:=zF) (fun _=>rfl) w.ze) (zZ rfl),rfl,?_⟩;refine Kf [4,5] [0] rfl rfl rfl (zc rfl (zc rfl (zc rfl (zc (zi fun r hr c hc=>((shut_map (enc:=zF) (fun _=>rfl) w.ze) r hr c hc).2) (zc (zi (own 5)) rfl))))) rfl ?_;show zK [4,5] ⟨1,0,1,(w.counts.map zN).set t ([C.sl 5 [] 1 0 r0.length false]),0⟩::_=_;rw [zH (enc:=zN) (fun _=>rfl)]
 rfl
def Sz (w:Wor) (h:qV w) (H:zl) (hf:qN H=true):tn 159 H [eh w.counts,.fn 160 [] [],.agg []] (.sl H.length [] 1 0 w.counts.length false) (H++[⟨2,116,1,w.counts.map zN,0⟩]):=
 nv (wg w.counts h.counts.1 fun r hr=>xP r (h.counts.2 r hr)) rfl rfl H hf
def yr (w:Wor) (h:qV w) (vs:List uq) (hvs:w.ze=vs) {v:Nat} {v0:uq} {g:Nat} {g0:Gr} {e:Nat} {e0:En} (hp:oz vs v v0 g g0 e e0):tn 114 [] [Cw w] (.agg [I w.zn,I w.current,I w.lock,lI w.pins,.sl 0 [] 5 0 vs.length false,lL w.zd,eh w.counts,lR w.zr]) [⟨1,0,5,(vs.map zF).set v ((qJ v0.snap++[C.sl 1 [] 2 0 v0.zm.length false,Bo v0.qk])),0⟩,⟨1,0,2,(v0.zm.map zE).set g ([U g0.zt,C.sl 2 [] 3 0 g0.ends.length false]),0⟩,⟨1,0,3,(g0.ends.map zx).set e ([U e0.head,C.sl 3 [] 1 0 e0.next.length false,I e0.zf]),0⟩,⟨2,3,1,e0.next.map encI,0⟩]:=by
 subst hvs;have own:∀ i,∀ r ∈ (w.ze.map zF).set v ((qJ v0.snap++[C.sl i [] 2 0 v0.zm.length false,Bo v0.qk])),∀ c ∈ r,zy c=true:=fun i=>zA (enc:=zF) (fun _=>rfl) rfl _ _
 refine oP (fn:=f114) func114 rfl (uH ?_);refine ah (yP w.pins h.pins) ?_;refine ⟨_,_,SF hp _ rfl,dd ?_⟩;refine ah (vE w.zd h.zd) ?_;refine ⟨_,_,Sz w h _ (zc rfl (zc rfl (zc rfl (zc (zi (own 4)) (zc (zi (zA (enc:=zE) (fun _=>rfl) rfl _ _)) (zc (zi (zA (enc:=zx) (fun _=>rfl) rfl _ _)) rfl)))))),dd ?_⟩;refine ah (wL w.zr h.zr) ?_;refine ⟨.inl rfl,_,_,zo.zU 1 0 6 rfl rfl rfl rfl (.inr rfl) rfl aj (shut_map (enc:=zN) (fun _=>rfl) w.counts) (zZ rfl),rfl,?_⟩;refine Kf [3,4,5,6] [0] rfl rfl rfl (zc rfl (zc rfl (zc rfl (zc (zi (own 4)) (zc (zi (zA (enc:=zE) (fun _=>rfl) rfl _ _)) (zc (zi (zA (enc:=zx) (fun _=>rfl) rfl _ _)) (zc rfl (zi fun r hr c hc=>((shut_map (enc:=zN) (fun _=>rfl) w.counts) r hr c hc).2)))))))) rfl ?_;show zK [3,4,5,6] ⟨1,0,5,(w.ze.map zF).set v ((qJ v0.snap++[C.sl 4 [] 2 0 v0.zm.length false,Bo v0.qk])),0⟩::zK [3,4,5,6] ⟨1,0,2,(v0.zm.map zE).set g ([U g0.zt,C.sl 5 [] 3 0 g0.ends.length false]),0⟩::zK [3,4,5,6] ⟨1,0,3,(g0.ends.map zx).set e ([U e0.head,C.sl 6 [] 1 0 e0.next.length false,I e0.zf]),0⟩::_=_;rw [zH (enc:=zF) (fun _=>rfl),zH (enc:=zE) (fun _=>rfl),zH (enc:=zx) (fun _=>rfl)]
 rfl
def fF (i n:Int):Bool:=decide (0<=i) && decide (i < n)
def kQ (i n:Int):tn 140 [] [I i,I n] (Bo (fF i n)) []:=by
 refine ab func140 ?_;refine ⟨fun h1=>?_,fun h1=>?_⟩
 ·refine dd ?_;refine ⟨fun h2=>?_,fun h2=>?_⟩
  ·refine dd ?_
   (exact ⟨.inl rfl,_,.refl _,uN (by unfold fF;simp at h1 h2 ⊢;omega)⟩)
  ·refine dd ?_
   (exact ⟨.inl rfl,_,.refl _,uN (by unfold fF;simp at h1 h2 ⊢;omega)⟩)
 ·refine dd ?_
  (exact ⟨.inl rfl,_,.refl _,uN (by unfold fF;simp at h1 ⊢;omega)⟩)
def Pw {H:zl} {f:FuncId} {caps:List C} {l:List Int} (p:Int->Bool) (hcb:qm prog f=true) (hp:∀ r ∈ l,tn f H ([I r]++caps) (Bo (p r)) H) (hl:l.length < 4611686018427387904):
  tn 52 H [lI l,.fn f [] caps] (I (match l.findIdx? p with | some i=>(i:Int) | none=> -1)) H:=by
 refine zb.zS (fn:=f52) func52 rfl (uH ?_)
 refine z5.inv (fun n t1 H1=>∃ k,k+n=l.length∧H1=H∧(∀ j,j < k->∀ r,l[j]?= some r->p r=false)∧
   t1=((lI l)::.fn f [] caps::.za::.za::I 0::.za::.za::I (l.map encI).length::I k::tZ ([.za,.za]))) l.length ?_ ?_
 ·exact cS
 rintro n _ _ ⟨k,hk,rfl,hno,rfl⟩;conv=>whnf
 refine ⟨fun h=>?_,fun h=>?_⟩
 ·conv=>whnf
  have uj:k < l.length:=aq h
  refine ⟨aw,encI l[k],aW,uH ?_⟩;rw [hcb];refine ⟨_,_,hp _ (gH uj),uH ?_⟩;refine ⟨fun h2=>?_,fun h2=>?_⟩
  ·conv=>whnf
   refine .inr ⟨aj,uH ?_⟩;refine ⟨.inl rfl,_,.refl _,rfl,?_⟩
   have:l.findIdx? p=some k:=by
    rw [gk];refine ⟨uj,h2,fun j hj=>?_⟩;simp [hno j hj _ (dK aw)]
   rw [this]
   rfl
  ·conv=>whnf
   refine .inl ⟨rfl,n - 1,_,_,aw,zo.mask [0,1,4,7,8] _ _,k+1,aw,rfl,?_,?_⟩
   ·intro j hj r hr;by_cases hjk:j=k
    ·subst hjk;rw [dK uj] at hr;cases hr
     exact h2
    ·exact hno j aw r hr
   ·rw [zu aw];rfl
 ·conv=>whnf
  refine .inr ⟨aj,uH ?_⟩;refine ⟨.inl rfl,_,.refl _,rfl,?_⟩
  have:l.findIdx? p=none:=by
   rw [gy];intro x hx;obtain ⟨j,hj⟩:=gh.1 hx;have hjl:=(dJ.1 hj).1;have:¬k < l.length:=aq h
   exact hno j aw x hj
  rw [this]
  rfl
def Ik {H:zl} {f:FuncId} {caps:List C} {l:List Int} (p:Int->Bool) (hcb:qm prog f=true) (hp:∀ r ∈ l,tn f H ([I r]++caps) (Bo (p r)) H) (hl:l.length < 4611686018427387904):
  tn 27 H [lI l,.fn f [] caps] (Bo (l.any p)) H:=by
 refine zb.zS (fn:=f27) func27 rfl (uH ?_);refine ⟨_,_,Pw p hcb hp hl,dd ?_⟩;rw [show decide ((match l.findIdx? p with | some i=>((i:Nat):Int) | none=>(-1:Int))≥(0:Int))=l.any p from Bu l p];refine ⟨fun h=>?_,fun h=>?_⟩ <;> rw [h]
 ·exact dc
 ·exact dc
def Pv {H:zl} {f:FuncId} {caps:List C} {l:List En} (p:En->Bool) (hcb:qm prog f=true) (hp:∀ r ∈ l,tn f H ([Go.Slp.Ev r]++caps) (Bo (p r)) H) (hl:l.length < 4611686018427387904):
  tn 81 H [lE l,.fn f [] caps] (I (match l.findIdx? p with | some i=>(i:Int) | none=> -1)) H:=by
 refine zb.zS (fn:=f81) func81 rfl (uH ?_)
 refine z5.inv (fun n t1 H1=>∃ k,k+n=l.length∧H1=H∧(∀ j,j < k->∀ r,l[j]?= some r->p r=false)∧
   t1=((lE l)::.fn f [] caps::.za::.za::I 0::.za::.za::I (l.map zx).length::I k::tZ ([.za,.za]))) l.length ?_ ?_
 ·exact cS
 rintro n _ _ ⟨k,hk,rfl,hno,rfl⟩;conv=>whnf
 refine ⟨fun h=>?_,fun h=>?_⟩
 ·conv=>whnf
  have uj:k < l.length:=aq h
  refine ⟨aw,zx l[k],aW,uH ?_⟩;rw [hcb];refine ⟨_,_,hp _ (gH uj),uH ?_⟩;refine ⟨fun h2=>?_,fun h2=>?_⟩
  ·conv=>whnf
   refine .inr ⟨aj,uH ?_⟩;refine ⟨.inl rfl,_,.refl _,rfl,?_⟩
   have:l.findIdx? p=some k:=by
    rw [gk];refine ⟨uj,h2,fun j hj=>?_⟩;simp [hno j hj _ (dK aw)]
   rw [this]
   rfl
  ·conv=>whnf
   refine .inl ⟨rfl,n - 1,_,_,aw,zo.mask [0,1,4,7,8] _ _,k+1,aw,rfl,?_,?_⟩
   ·intro j hj r hr;by_cases hjk:j=k
    ·subst hjk;rw [dK uj] at hr;cases hr
     exact h2
    ·exact hno j aw r hr
   ·rw [zu aw];rfl
 ·conv=>whnf
  refine .inr ⟨aj,uH ?_⟩;refine ⟨.inl rfl,_,.refl _,rfl,?_⟩
  have:l.findIdx? p=none:=by
   rw [gy];intro x hx;obtain ⟨j,hj⟩:=gh.1 hx;have hjl:=(dJ.1 hj).1;have:¬k < l.length:=aq h
   exact hno j aw x hj
  rw [this]
  rfl
def Ou {H:zl} {f:FuncId} {caps:List C} {l:List En} (p:En->Bool) (hcb:qm prog f=true) (hp:∀ r ∈ l,tn f H ([Go.Slp.Ev r]++caps) (Bo (p r)) H) (hl:l.length < 4611686018427387904):
  tn 57 H [lE l,.fn f [] caps] (Bo (l.any p)) H:=by
 refine zb.zS (fn:=f57) func57 rfl (uH ?_);refine ⟨_,_,Pv p hcb hp hl,dd ?_⟩;rw [show decide ((match l.findIdx? p with | some i=>((i:Nat):Int) | none=>(-1:Int))≥(0:Int))=l.any p from Bu l p];refine ⟨fun h=>?_,fun h=>?_⟩ <;> rw [h]
 ·exact dc
 ·exact dc
def wG (ep p:Int):Bool:=decide (p < 0) || decide (p > ep+1)
def MG (w:Wor) (p:Int) (h0:0<=w.zn) (h1:w.zn<=1000000000000):tn 53 [⟨1,37,8,[zJ w],0⟩] ([I p]++[.ref 0 [] 8 0 0]) (Bo (wG w.zn p)) [⟨1,37,8,[zJ w],0⟩]:=by
 have e:IntKind.i64.wrap (w.zn+1)=w.zn+1:=qZ aw aw;refine zb.zS (fn:=f53) func53 rfl (uH ?_);refine ⟨fun h2=>?_,fun h2=>?_⟩
 ·refine dd ?_;exact ⟨.inl rfl,_,.refl _,rfl,uN (by unfold wG;rw [h2];rfl)⟩
 ·refine dd ?_;rw [e];refine ⟨fun h3=>?_,fun h3=>?_⟩
  ·refine dd ?_;exact ⟨.inl rfl,_,.refl _,rfl,uN (by unfold wG;rw [h2,h3];rfl)⟩
  ·refine dd ?_;exact ⟨.inl rfl,_,.refl _,rfl,uN (by unfold wG;rw [h2,h3];rfl)⟩
def jM (w:Wor):Bool:=decide (1<=w.pins.length) && decide (w.pins.length<=8) && decide (w.counts.length=w.pins.length) && oL w.counts && decide (0<=w.zn) && decide (w.zn<=1000000000000) && (decide (w.lock=0) || decide (w.lock=1)) && !w.pins.any (wG w.zn)
def MS (w:Wor) (hp:w.pins.length < 4000000000000000000) (hc:w.counts.length < 4000000000000000000):tn 30 [] [Cw w] (Bo (jM w)) []:=by
 have m1:(w.pins.map encI).length=w.pins.length:=dP ..;have m2:(w.counts.map zN).length=w.counts.length:=dP ..;refine ab func30 ?_;rw [m1];refine ⟨fun h1=>?_,fun h1=>?_⟩
 ·(have e:jM w=false:=by (unfold jM;(rw [show decide (1<=w.pins.length)=false from by rw [gT];have:=pn h1;omega]);simp));exact dG
 refine dd ?_;refine ⟨fun h2=>?_,fun h2=>?_⟩
 ·(have e:jM w=false:=by (unfold jM;(rw [show decide (w.pins.length<=8)=false from cm]);simp));exact dG
 refine dd ?_;rw [m2];refine ⟨fun h3=>?_,fun h3=>?_⟩
 ·(have e:jM w=false:=by (unfold jM;(rw [show decide (w.counts.length=w.pins.length)=false from by rw [gT];intro hh;simp [hh] at h3]);simp));exact dG
 refine dd ?_;refine ah (MN w.counts hc) ?_;refine ⟨fun h4=>?_,fun h4=>?_⟩
 rotate_left
 ·(have e:jM w=false:=by (unfold jM;(rw [h4]);simp));exact dG
 refine dd ?_;refine ⟨fun h5=>?_,fun h5=>?_⟩
 ·(have e:jM w=false:=by (unfold jM;(rw [show decide (0<=w.zn)=false from by simp at h5 ⊢;omega]);simp));exact dG
 refine dd ?_;refine ⟨fun h6=>?_,fun h6=>?_⟩
 ·(have e:jM w=false:=by (unfold jM;(rw [show decide (w.zn<=1000000000000)=false from by simp at h6 ⊢;omega]);simp));exact dG
 refine dd ?_;have b0:0<=w.zn:=by simp at h5;omega
 have b1:w.zn<=1000000000000:=by simp at h6;omega
 have hcon:=Ik (H:=[⟨1,37,8,[zJ w],0⟩]) (f:=53) (l:=w.pins) (caps:=[.ref 0 [] 8 0 0]) (wG w.zn) au (fun r _=>MG w r b0 b1) aw
 have g0:jM w=((decide (w.lock=0) || decide (w.lock=1)) && !w.pins.any (wG w.zn)):=by
  have h3':w.counts.length=w.pins.length:=by simp at h3;omega
  unfold jM;rw [show decide (1<=w.pins.length)=true from by rw [decide_eq_true_iff];have:=pC h1;omega,show decide (w.pins.length<=8)=true from cm,show decide (w.counts.length=w.pins.length)=true from aq h3',h4,show decide (0<=w.zn)=true from aq b0,show decide (w.zn<=1000000000000)=true from aq b1]
  rfl
 have fin:∀ hl:(decide (w.lock=0) || decide (w.lock=1))=true,jM w=!w.pins.any (wG w.zn):=fun hl=>by rw [g0,hl];rfl
 refine ⟨fun h7=>?_,fun h7=>?_⟩
 ·refine dd ?_;refine ⟨fun h8=>?_,fun h8=>?_⟩
  ·have e:jM w=false:=by rw [g0,show (decide (w.lock=0) || decide (w.lock=1))=false from by simp at h7 h8 ⊢;omega];rfl
   rw [e];refine dd ?_;refine tc ?_
   exact uI
  rw [fin (by simp at h8 ⊢;omega)];refine dd ?_;refine tc ?_
  refine af [0] (hcon) ?_;refine ⟨fun h9=>?_,fun h9=>?_⟩
  ·refine dd ?_
   (exact ⟨.inl rfl,_,.refl _,uN (by rw [h9];rfl)⟩)
  ·refine dd ?_
   (exact ⟨.inl rfl,_,.refl _,uN (by rw [h9];rfl)⟩)
 ·rw [fin (by simp at h7 ⊢;omega)];refine dd ?_;refine tc ?_
  refine af [0] (hcon) ?_;refine ⟨fun h9=>?_,fun h9=>?_⟩
  ·refine dd ?_
   (exact ⟨.inl rfl,_,.refl _,uN (by rw [h9];rfl)⟩)
  ·refine dd ?_
   (exact ⟨.inl rfl,_,.refl _,uN (by rw [h9];rfl)⟩)
def nz (x:eC) (e:En):Bool:=!Go.Slp.u5 e || (e.next.length:Int) != x.xB
def Mp (x:eC) (e:En) (he:e.ok):tn 56 [⟨1,129,4,[jV x],0⟩] ([Go.Slp.Ev e]++[.ref 0 [] 4 0 0]) (Bo (nz x e)) [⟨1,129,4,[jV x],0⟩]:=by
 have m1:(e.next.map encI).length=e.next.length:=dP ..;refine zb.zS (fn:=f56) func56 rfl (uH ?_);refine ah (Go.Slp.wX e he) ?_;refine ⟨fun h1=>?_,fun h1=>?_⟩
 rotate_left
 ·refine dd ?_;exact ⟨.inl rfl,_,zo.keep [3] 1 _ _ rfl rfl rfl rfl,rfl,uN (by unfold nz;rw [h1];rfl)⟩
 ·refine dd ?_;rw [m1];refine ⟨fun h2=>?_,fun h2=>?_⟩
  ·refine dd ?_;exact ⟨.inl rfl,_,zo.keep [3] 1 _ _ rfl rfl rfl rfl,rfl,uN (by unfold nz;rw [h1,h2];rfl)⟩
  ·refine dd ?_;exact ⟨.inl rfl,_,zo.keep [3] 1 _ _ rfl rfl rfl rfl,rfl,uN (by unfold nz;rw [h1,h2];rfl)⟩
structure GG (v:uq):Prop where
 snap:wA v.snap
 zm:v.zm.length < 1000000000000
 ends : ∀ g ∈ v.zm, g.ends.length < 1000000000000 ∧ ∀ e ∈ g.ends, e.ok
def oq (v:uq) (i:Nat):Bool:=match v.zm[i]?,v.snap.zk[i]? with
 | some g,some x=>decide (g.ends.length=x.zL.length) && !g.ends.any (nz x)
 | _,_=>true
def lK (v:uq):Bool:=yZ v.snap && decide (v.zm.length=v.snap.zk.length) && (List.range v.zm.length).all (oq v)
def MQ (v:uq) (hv:GG v):tn 32 [] [Cv v] (Bo (lK v)) []:=by
 have m1:(v.zm.map zE).length=v.zm.length:=dP ..;have m2:(v.snap.zk.map jV).length=v.snap.zk.length:=dP ..;have hgl:=hv.zm;refine ab func32 ?_;refine ah (Hq v.snap hv.snap) ?_;refine ⟨fun h1=>?_,fun h1=>?_⟩
 rotate_left
 ·have e:lK v=false:=by unfold lK;rw [h1];rfl
  rw [e];refine dd ?_;refine tc ?_
  exact uI
 refine dd ?_;rw [m1,m2];refine ⟨fun h2=>?_,fun h2=>?_⟩
 ·have e:lK v=false:=by unfold lK;rw [show decide (v.zm.length=v.snap.zk.length)=false from by rw [gT];intro hh;simp [hh] at h2,rY];rfl
  rw [e];refine dd ?_;refine tc ?_
  exact uI
 have h2':v.zm.length=v.snap.zk.length:=aX
 refine dd ?_;refine tc ?_
 rw [m1];refine z5.seq v.zm.length (fun k=>(.za::.ref 0 [] 5 0 0::Bo false::tZ (tZ (.za::.za::.za::(lG v.zm)::I v.zm.length::I k::tZ (tZ (tZ ([.za]))))))) (fun k=>[⟨1,107,5,[zF v],0⟩]) (fun k=>∀ j,j < k->oq v j=true) ?_ aj (fun k hk hr=>?_) (fun hr=>?_)
 ·exact cC
 ·obtain ⟨g,hg⟩:∃ g,g=v.zm[k]:=⟨_,rfl⟩;obtain ⟨x,hx⟩:∃ x,x=v.snap.zk[k]'aw:=⟨_,rfl⟩;have gg:(v.zm.map zE)[k]?= some (zE g):=by rw [dN,dK hk,hg];rfl
  have gx:(v.snap.zk.map jV)[k]?= some (jV x):=by rw [dN,dK aw,hx];rfl
  have hgm:g ∈ v.zm:=by rw [hg];exact dF
  have me:(g.ends.map zx).length=g.ends.length:=dP ..;have mh:(x.zL.map y7).length=x.zL.length:=dP ..
  have hd:oq v k=(decide (g.ends.length=x.zL.length) && !g.ends.any (nz x)):=by
   unfold oq;rw [dK hk,dK aw,<- hg,<- hx]
  have bad:oq v k=false->lK v=false:=fun h=>by
   have:(List.range v.zm.length).all (oq v)=false:=by rw [rG];exact ⟨k,aq hk,aH⟩
   unfold lK;rw [this,rY]
  have hcon:=Ou (H:=[⟨1,129,4,[jV x],0⟩]) (f:=56) (l:=g.ends) (caps:=[.ref 0 [] 4 0 0]) (nz x) au (fun r hr=>Mp x r ((hv.ends g hgm).2 r hr)) (by have:=(hv.ends g hgm).1;omega);conv=>whnf
  refine uF ?_;(refine td gg ?_)
  (refine td gx ?_)
  rw [me,mh];refine ⟨fun h3=>?_,fun h3=>?_⟩
  ·rw [bad (by rw [hd,show decide (g.ends.length=x.zL.length)=false from by rw [gT];intro hh;simp [hh] at h3];rfl)];refine dd ?_;refine tc ?_
   (refine .inr ⟨aj,uH ?_⟩)
   exact uI
  refine dd ?_;refine af [2] (hcon) ?_;refine ⟨fun h4=>?_,fun h4=>?_⟩
  ·rw [bad (by rw [hd,h4,sI,rY])];refine dd ?_;refine tc ?_
   (refine .inr ⟨aj,uH ?_⟩)
   exact uI
  refine dd ?_;refine tc ?_
  refine .inl ⟨rfl,?_,fun j hj=>?_⟩
  ·exact dp
  ·by_cases e:j=k
   ·subst e;rw [hd,h4];simp at h3 ⊢;omega
   ·exact hr j aw
 ·have e:lK v=true:=by
   unfold lK;rw [h1,show decide (v.zm.length=v.snap.zk.length)=true from aq h2',tx,tx,dT]
   exact fun i hi=>hr i (aq hi)
  rw [e];refine uD ?_;exact uI
def yz (l:List u7):List (Int × Value):=l.foldl (fun m r=>yc m r.version (Value.bool r.gone)) []
def vc (l:List u7) (i:Int):Bool:=match ((jf (yz l) i).bind fun j=>((yz l)[j]?).map (·.2):Option Value) with
 | some (.bool b)=>b
 | _=>false
def RC {m:List (Int × Value)} (h:∀ kv ∈ m,∃ b,kv.2=Value.bool b) (k:Int) (b:Bool):∀ kv ∈ yc m k (Value.bool b),∃ b,kv.2=Value.bool b:=fun kv hm=>by
 unfold yc at hm;split at hm
 ·rcases gW hm with hm | rfl
  ·exact h kv hm
  ·exact ⟨b,rfl⟩
 ·rcases gD.1 hm with hm | hm
  ·exact h kv hm
  ·rw [gF.1 hm];exact ⟨b,rfl⟩
def Pp (l:List u7):∀ kv ∈ yz l,∃ b,kv.2=Value.bool b:=by
 unfold yz
 suffices key:∀ (l:List u7) (m:List (Int × Value)),(∀ kv ∈ m,∃ b,kv.2=Value.bool b)->∀ kv ∈ l.foldl (fun m r=>yc m r.version (Value.bool r.gone)) m,∃ b,kv.2=Value.bool b from key l [] aj
 intro l
 induction l with
 | nil=>intro m h;exact h
 | cons r l ih=>intro m h;exact ih _ (RC h _ _)
def Su (l:List u7) (i:Int):(((jf (yz l) i).bind fun j=>((yz l)[j]?).map (·.2)).getD (Value.bool false))=Value.bool (vc l i):=by
 unfold vc;cases h:(jf (yz l) i).bind fun j=>((yz l)[j]?).map (·.2) with
 | none=>rfl
 | some v=>
  obtain ⟨j,_,hj⟩:=pd.1 h;obtain ⟨kv,h1,rfl⟩:=gJ.1 hj;obtain ⟨b,hb⟩:=Pp l kv (dM h1);simp only [gS];rw [hb]
def Qe (l:List u7) {k:Nat} {r:u7} (h:l[k]?= some r):yz (l.take (k+1))=yc (yz (l.take k)) r.version (Value.bool r.gone):=by
 obtain ⟨hk,rfl⟩:=dJ.1 h;unfold yz;rw [pq hk,rF]
 rfl
structure eR (w:Wor):Prop where
 pins:w.pins.length < 1000000000000
 ze:w.ze.length < 1000000000000∧∀ v ∈ w.ze,GG v
 zd:w.zd.length < 1000000000000∧∀ l ∈ w.zd,l.ok
 counts:w.counts.length < 1000000000000∧∀ r ∈ w.counts,r.length < 1000000000000
 zr:w.zr.length < 1000000000000
def yl (w:Wor) (r:u7):Bool:=decide (r.version≥(w.ze.length:Int)) || r.version == w.current || decide (r.at_ > w.zn)
def mD (w:Wor) (i:Nat):Bool:=match w.ze[i]? with
 | some v=>lK v && (v.qk == vc w.zr i)
 | none=>true
def wo (w:Wor) (i:Nat):Bool:=match w.zd[i]? with
 | some l=>Go.Gat.u5 l && decide (zT w.zd l.name=i)
 | none=>true
def xC (w:Wor):Bool:=jM w && (decide (0<=w.current) && decide (w.current < w.ze.length)) && Go.Lim.u5 w.zr && !w.zr.any (yl w) && (List.range w.ze.length).all (mD w) && (List.range w.zd.length).all (wo w)
def MR (w:Wor) (hw:eR w):tn 12 [] [Cw w] (Bo (xC w)) []:=by
 have m1:(w.ze.map zF).length=w.ze.length:=dP ..;have m2:(w.zr.map xd).length=w.zr.length:=dP ..;have m3:(w.zd.map qF).length=w.zd.length:=dP ..;have b1:=hw.pins;have b2:=hw.ze.1;have b3:=hw.zd.1;have b4:=hw.counts.1;have b5:=hw.zr;refine ab func12 ?_;refine ah (MS w aw aw) ?_;refine ⟨fun h1=>?_,fun h1=>?_⟩
 rotate_left
 ·(have e:xC w=false:=by (unfold xC;(rw [h1]);simp));exact dG
 refine dd ?_;refine ⟨fun h2=>?_,fun h2=>?_⟩
 ·(have e:xC w=false:=by (unfold xC;(rw [show decide (0<=w.current)=false from cm]);simp));exact dG
 refine dd ?_;rw [m1];refine ⟨fun h3=>?_,fun h3=>?_⟩
 ·(have e:xC w=false:=by (unfold xC;(rw [show decide (w.current < w.ze.length)=false from by simp at h3 ⊢;omega]);simp));exact dG
 refine dd ?_;refine ah (Go.Lim.wX (l:=w.zr) aw) ?_;refine ⟨fun h4=>?_,fun h4=>?_⟩
 rotate_left
 ·(have e:xC w=false:=by (unfold xC;(rw [h4]);simp));exact dG
 refine dd ?_;refine tc ?_
 intro b;refine dd ?_;rw [m2]
 have g0:xC w=(!w.zr.any (yl w) && (List.range w.ze.length).all (mD w) && (List.range w.zd.length).all (wo w)):=by
  unfold xC;rw [h1,show decide (0<=w.current)=true from cm,show decide (w.current < w.ze.length)=true from by simp at h3 ⊢;omega,h4]
  rfl
 refine z5.seq w.zr.length (fun k=>(.za::.ref 0 [] 8 0 0::Bo false:: .v (.map (some b)):: .za::.za::.za::.za::.za::.za::tZ (tZ (tZ (lR w.zr::I w.zr.length::I k:: .za::.za::.za::.za::.za::.za::tZ (tZ (tZ (tZ (tZ (tZ (tZ (tZ ([]))))))))))))) (fun k=>[⟨1,37,8,[zJ w],0⟩,eU b (jG qh (yz (w.zr.take k))) (yz (w.zr.take k)).length]) (fun k=>∀ j,(h:j < w.zr.length)->j < k->yl w w.zr[j]=false) ?_ aj (fun k hk hr=>?_) (fun hr=>?_)
 ·exact cC
 ·obtain ⟨r,hx⟩:∃ r,r=w.zr[k]:=⟨_,rfl⟩;have hx2:w.zr[k]?= some r:=by rw [dK hk,hx]
  have hg:(w.zr.map xd)[k]?= some (xd r):=by rw [dN,hx2];rfl
  have bad:yl w r=true->xC w=false:=fun h=>by
   have:w.zr.any (yl w)=true:=pI.2 ⟨r,dM hx2,h⟩;rw [g0,this];rfl
  conv=>whnf
  refine uF ?_;(refine td hg ?_)
  rw [m1];refine ⟨fun h5=>?_,fun h5=>?_⟩
  ·(rw [bad (by unfold yl;rw [h5];rfl)]);refine dd ?_;refine tc ?_;(refine .inr ⟨aj,uH ?_⟩);exact uI
  refine dd ?_;refine ⟨fun h6=>?_,fun h6=>?_⟩
  ·(rw [bad (by unfold yl;rw [h6,sA];rfl)]);refine dd ?_;refine tc ?_;(refine .inr ⟨aj,uH ?_⟩);exact uI
  refine dd ?_;refine ⟨fun h7=>?_,fun h7=>?_⟩
  ·(rw [bad (by unfold yl;rw [h7,sA])]);refine dd ?_;refine tc ?_;(refine .inr ⟨aj,uH ?_⟩);exact uI
  refine dd ?_;refine tc ?_
  refine ⟨fun q=>?_,fun q=>?_⟩
  all_goals
   refine dd ?_;refine ⟨_,_,uw.mapUpdate (id:=1) _ _ _ _ (.inl rfl) underlying99 (iK.int underlying3) rfl rfl r.version (fun E u h=>jF h) (.bool r.gone) (fun E u h=>by rw [q];exact jF h),dd ?_⟩;refine .inl ⟨rfl,?_,fun j hj hjk=>?_⟩
   ·rw [zu aw,<- Qe w.zr hx2];exact cE 2
   ·by_cases e:j=k
    ·subst e;rw [<- hx];unfold yl;rw [h5,h6,h7];rfl
    ·exact hr j hj aw
 have hl0:w.zr.any (yl w)=false:=by
  rw [gI];intro x hx;obtain ⟨j,hj,rfl⟩:=gX.1 hx;simp [hr j hj hj]
 rw [gK];refine uD ?_;rw [m1];have g1:xC w=((List.range w.ze.length).all (mD w) && (List.range w.zd.length).all (wo w)):=by rw [g0,hl0];rfl
 refine z5.seq w.ze.length (fun k=>(.za::.ref 0 [] 8 0 0::Bo false:: .v (.map (some b)):: .za::.za::.za::.za::.za::.za::.za::tZ (tZ (tZ (tZ (tZ (tZ (tZ (lV w.ze::I w.ze.length::I k:: .za::.za::.za::.za::.za::tZ (tZ (tZ (tZ ([]))))))))))))) (fun k=>[⟨1,37,8,[zJ w],0⟩,eU b (jG qh (yz (w.zr))) (yz (w.zr)).length]) (fun k=>∀ j,j < k->mD w j=true) ?_ aj (fun k hk hr=>?_) (fun hr=>?_)
 ·exact cC
 ·obtain ⟨v,hx⟩:∃ v,v=w.ze[k]:=⟨_,rfl⟩;have hx2:w.ze[k]?= some v:=by rw [dK hk,hx]
  have hg:(w.ze.map zF)[k]?= some (zF v):=by rw [dN,hx2];rfl
  have hd:mD w k=(lK v && (v.qk == vc w.zr k)):=by unfold mD;rw [hx2]
  have bad:mD w k=false->xC w=false:=fun h=>by
   have:(List.range w.ze.length).all (mD w)=false:=by rw [rG];exact ⟨k,aq hk,aH⟩
   rw [g1,this];rfl
  conv=>whnf
  refine uF ?_;(refine td hg ?_)
  refine ah (MQ v (hw.ze.2 v (dM hx2))) ?_;refine ⟨fun h5=>?_,fun h5=>?_⟩
  rotate_left
  ·(rw [bad (by rw [hd,h5];rfl)]);refine dd ?_;refine tc ?_;(refine .inr ⟨aj,uH ?_⟩);exact uI
  refine dd ?_;refine ⟨fun q=>?_,fun q=>?_⟩
  all_goals
   refine dd ?_;refine ⟨_,_,uw.lookup (id:=1) _ _ _ rfl underlying99 (iK.int underlying3) rfl rfl (k:Int) (fun E u h=>jF h) (c:=Bo (vc w.zr k)) rfl rfl (fun E=>by rw [Su];exact .v _ rfl),dd ?_⟩;refine ⟨fun q2=>?_,fun q2=>?_⟩
   ·(rw [bad (by rw [hd,q];simp at q2;simp [q2])]);refine dd ?_;refine tc ?_;(refine .inr ⟨aj,uH ?_⟩);exact uI
   refine dd ?_;refine tc ?_
   refine .inl ⟨rfl,?_,fun j hj=>?_⟩
   ·rw [zu aw];exact cE 2
   ·by_cases e:j=k
    ·subst e;rw [hd,h5,q];simp at q2;simp [q2]
    ·exact hr j aw
 have hv0:(List.range w.ze.length).all (mD w)=true:=by
  rw [dT]
  exact fun i hi=>hr i (aq hi)
 have g2:xC w=(List.range w.zd.length).all (wo w):=by rw [g1,hv0];rfl
 refine uD ?_;rw [m3];refine z5.seq w.zd.length (fun k=>(.za::.ref 0 [] 8 0 0::Bo false:: .v (.map (some b)):: .za::.za::.za::tZ (tZ (tZ (tZ (tZ (tZ (tZ (tZ (tZ (tZ (lL w.zd::I w.zd.length::I k:: .za::tZ (tZ ([])))))))))))))) (fun k=>[⟨1,37,8,[zJ w],0⟩,eU b (jG qh (yz (w.zr))) (yz (w.zr)).length]) (fun k=>∀ j,j < k->wo w j=true) ?_ aj (fun k hk hr=>?_) (fun hr=>?_)
 ·exact cC
 ·obtain ⟨l,hx⟩:∃ l,l=w.zd[k]:=⟨_,rfl⟩;have hx2:w.zd[k]?= some l:=by rw [dK hk,hx]
  have hg:(w.zd.map qF)[k]?= some (qF l):=by rw [dN,hx2];rfl
  have hd:wo w k=(Go.Gat.u5 l && decide (zT w.zd l.name=k)):=by unfold wo;rw [hx2]
  have bad:wo w k=false->xC w=false:=fun h=>by
   have:(List.range w.zd.length).all (wo w)=false:=by rw [rG];exact ⟨k,aq hk,aH⟩
   rw [g2,this]
  conv=>whnf
  refine uF ?_;(refine td hg ?_)
  refine ah (Go.Gat.wX l (hw.zd.2 l (dM hx2))) ?_;refine ⟨fun h5=>?_,fun h5=>?_⟩
  rotate_left
  ·(rw [bad (by rw [hd,h5];rfl)]);refine dd ?_;refine tc ?_;(refine .inr ⟨aj,uH ?_⟩);exact uI
  refine dd ?_;refine ah (wv w.zd l.name aw) ?_;refine ⟨fun h6=>?_,fun h6=>?_⟩
  ·(rw [bad (by rw [hd,show decide (zT w.zd l.name=(k:Int))=false from by rw [gT];intro hh;simp [hh] at h6,rY])]);refine dd ?_;refine tc ?_;(refine .inr ⟨aj,uH ?_⟩);exact uI
  refine dd ?_;refine tc ?_
  refine .inl ⟨rfl,?_,fun j hj=>?_⟩
  ·rw [zu aw];exact cE 2
  ·by_cases e:j=k
   ·subst e;rw [hd,h5];simp at h6;simp [h6]
   ·exact hr j aw
 ·have hl1:(List.range w.zd.length).all (wo w)=true:=by
   rw [dT]
   exact fun i hi=>hr i (aq hi)
  rw [g2,hl1];refine uD ?_;exact uI
end Go.Wor
