import Derived.Test.YtkbnjgogjccmfaaGreatSF
import Derived.Test.YtkbnjgogjccmfaaGreatSS
import Derived.Test.YtkbnjgogjccmfaaGreatST
set_option linter.all false
set_option maxRecDepth 100000
set_option maxHeartbeats 4000000
namespace Go.Wor
open Go.Ab Go.Proofs Tryz Go.Hy Go.Gat Go.Nam Go.Hos Go.Con Go.Sna
def kH (l:List ec) (n:Int):ec:=if 0<=n∧n < l.length then (l[n.toNat]?).getD [] else []
def vx (l:List eV) (n:Int):ec:=if 0<=n∧n < l.length then ((l[n.toNat]?).map (·.name)).getD [] else []
def nR (s:Sna) (r:iM):l8:=⟨kH s.zd r.listen,r.host,r.path,vx s.zk r.zi⟩
def iF (s:Sna):fb:=⟨s.zd,s.rules.map (nR s),s.zk⟩
def vn (s:Sna):Bool:=(jg (iF s)).1 == 0
structure nB (s:Sna):Prop where
 zd:s.zd.length < 1000000000000∧∀ x ∈ s.zd,x.length < 4000000000000000000
 rules:s.rules.length < 1000000000000∧∀ r ∈ s.rules,r.host.length < 1000000000000∧r.path.length < 1000000000000
 zk:s.zk.length < 1000000000000∧∀ x ∈ s.zk,x.name.length < 4000000000000000000∧x.zL.length < 4000000000000000000
def nB.cfg {s:Sna} (h:nB s):xD (iF s):=by
 refine ⟨h.zd,⟨by simpa [iF] using h.rules.1,fun r hr=>?_⟩,h.zk⟩;simp only [iF,gL] at hr;obtain ⟨q,hq,rfl⟩:=hr;refine ⟨?_,(h.rules.2 q hq).1,(h.rules.2 q hq).2,?_⟩
 ·show (kH s.zd q.listen).length < _;unfold kH;split
  ·cases hx:s.zd[q.listen.toNat]? with
   | none=>simp
   | some x=>exact h.zd.2 x (dS hx)
  ·simp
 ·show (vx s.zk q.zi).length < _;unfold vx;split
  ·cases hx:s.zk[q.zi.toNat]? with
   | none=>simp
   | some x=>exact (h.zk.2 x (dS hx)).1
  ·simp
def OS (s:Sna) (hs:nB s):to 80 [] [Cs s] (Cf (iF s)) []:=by
 have m1:(s.rules.map yD).length=s.rules.length:=dV ..;have m2:(s.zd.map qm).length=s.zd.length:=dV ..;have m3:(s.zk.map xa).length=s.zk.length:=dV ..;have hl:=hs.rules.1;refine ab func80 ?_;rw [m1];refine zW.seq s.rules.length (fun k=>(.za::.ref 0 [] 3 0 0:: .ref 1 [] 3 0 0:: .ref 2 [] 3 0 0:: .za::hZ (iq s.rules::I s.rules.length::I k:: .za::.za::.za::.za::.za::hZ (hZ (hZ (hZ (hZ (hZ ([]))))))))) (fun k=>[⟨1,104,3,[qN s],0⟩,⟨1,26,3,[[.u1 1 0 [],.u1 1 0 [],.u1 1 0 []]],0⟩,⟨1,26,3,[[lT s.zd,.gl 3 4 (((s.rules.take k).map (nR s)).map wi),lC s.zk]],0⟩,⟨4,131,4,((s.rules.take k).map (nR s)).map wi,0⟩]) (fun k=>True) ?_ trivial (fun k hk hr=>?_) (fun hr=>?_)
 ·refine zp.trans (zp.nK 2 1 131 4 rfl rfl (.inl rfl) rfl rfl) ?_;exact cC
 ·obtain ⟨r,hx⟩:∃ r,r=s.rules[k]:=⟨_,rfl⟩;have hg:(s.rules.map yD)[k]?= some (yD r):=by rw [dT,dQ hk,hx];rfl
  have hlg:(((s.rules.take k).map (nR s)).map wi).length=k:=aA
  have eg:((s.rules.take (k+1)).map (nR s)).map wi=((s.rules.take k).map (nR s)).map wi++[wi (nR s r)]:=bP
  have hv:∀ a b,a=kH s.zd r.listen->b=vx s.zk r.zi->wi ⟨a,r.host,r.path,b⟩=wi (nR s r):=fun a b h1 h2=>by rw [h1,h2];rfl
  conv=>whnf
  refine uF ?_;(refine tf hg ?_)
  refine ⟨fun h1=>?_,fun h1=>?_⟩
  rotate_left
  ·refine dd ?_;refine td ?_
   refine ⟨fun q1=>?_,fun q1=>?_⟩;rotate_left;(focus (refine dd ?_;refine td ?_;(refine ⟨rfl,.inr rfl,bQ,cb,dd ?_⟩);(refine .inl ⟨rfl,?_,trivial⟩);(rw [zu aw,eg,<- hv _ _ cf cg]);exact cE 4));refine dd ?_;(rw [m3]);refine ⟨fun q2=>?_,fun q2=>?_⟩;rotate_left;(focus (refine dd ?_;refine td ?_;(refine ⟨rfl,.inr rfl,bQ,cb,dd ?_⟩);(refine .inl ⟨rfl,?_,trivial⟩);(rw [zu aw,eg,<- hv _ _ cf cm]);exact cE 4));(have q3:r.zi.toNat < s.zk.length:=by simp at q1 q2;omega);(have gq:(s.zk.map xa)[r.zi.toNat]?= some (xa s.zk[r.zi.toNat]):=by rw [dT,dQ q3];rfl);refine dd ?_;refine td ?_;(refine ⟨bU,_,gq,dd ?_⟩);(refine ⟨rfl,.inr rfl,bQ,cb,dd ?_⟩);(refine .inl ⟨rfl,?_,trivial⟩);(rw [zu aw,eg,<- hv _ _ cf (by unfold vx;rw [dU (by simp at q1 q2;omega),dQ q3])]);exact cE 4
  refine dd ?_;rw [m2];refine ⟨fun h2=>?_,fun h2=>?_⟩
  rotate_left
  ·refine dd ?_;refine td ?_
   refine ⟨fun q1=>?_,fun q1=>?_⟩;rotate_left;(focus (refine dd ?_;refine td ?_;(refine ⟨rfl,.inr rfl,bQ,cb,dd ?_⟩);(refine .inl ⟨rfl,?_,trivial⟩);(rw [zu aw,eg,<- hv _ _ cp cg]);exact cE 4));refine dd ?_;(rw [m3]);refine ⟨fun q2=>?_,fun q2=>?_⟩;rotate_left;(focus (refine dd ?_;refine td ?_;(refine ⟨rfl,.inr rfl,bQ,cb,dd ?_⟩);(refine .inl ⟨rfl,?_,trivial⟩);(rw [zu aw,eg,<- hv _ _ cp cm]);exact cE 4));(have q3:r.zi.toNat < s.zk.length:=by simp at q1 q2;omega);(have gq:(s.zk.map xa)[r.zi.toNat]?= some (xa s.zk[r.zi.toNat]):=by rw [dT,dQ q3];rfl);refine dd ?_;refine td ?_;(refine ⟨bU,_,gq,dd ?_⟩);(refine ⟨rfl,.inr rfl,bQ,cb,dd ?_⟩);(refine .inl ⟨rfl,?_,trivial⟩);(rw [zu aw,eg,<- hv _ _ cp (by unfold vx;rw [dU (by simp at q1 q2;omega),dQ q3])]);exact cE 4
  have h3:r.listen.toNat < s.zd.length:=cq
  have gl:(s.zd.map qm)[r.listen.toNat]?= some (qm s.zd[r.listen.toNat]):=by rw [dT,dQ h3];rfl
  refine dd ?_;refine td ?_
  refine ⟨b9,_,gl,dd ?_⟩;refine ⟨fun q1=>?_,fun q1=>?_⟩;rotate_left;(focus (refine dd ?_;refine td ?_;(refine ⟨rfl,.inr rfl,bQ,cb,dd ?_⟩);(refine .inl ⟨rfl,?_,trivial⟩);(rw [zu aw,eg,<- hv _ _ (by unfold kH;rw [dU cq,dQ h3]) cg]);exact cE 4));refine dd ?_;(rw [m3]);refine ⟨fun q2=>?_,fun q2=>?_⟩;rotate_left;(focus (refine dd ?_;refine td ?_;(refine ⟨rfl,.inr rfl,bQ,cb,dd ?_⟩);(refine .inl ⟨rfl,?_,trivial⟩);(rw [zu aw,eg,<- hv _ _ (by unfold kH;rw [dU cq,dQ h3]) cm]);exact cE 4));(have q3:r.zi.toNat < s.zk.length:=by simp at q1 q2;omega);(have gq:(s.zk.map xa)[r.zi.toNat]?= some (xa s.zk[r.zi.toNat]):=by rw [dT,dQ q3];rfl);refine dd ?_;refine td ?_;(refine ⟨bU,_,gq,dd ?_⟩);(refine ⟨rfl,.inr rfl,bQ,cb,dd ?_⟩);(refine .inl ⟨rfl,?_,trivial⟩);(rw [zu aw,eg,<- hv _ _ (by unfold kH;rw [dU cq,dQ h3]) (by unfold vx;rw [dU (by simp at q1 q2;omega),dQ q3])]);exact cE 4
 ·exact dz
def IS (s:Sna) (hs:nB s):to 55 [] [Cs s] (Bo (vn s)) []:=by
 refine ab func55 ?_;refine ah (OS s hs) ?_;refine ah (check_sound (iF s) hs.cfg) ?_;refine ⟨fun h=>?_,fun h=>?_⟩
 ·refine dd ?_
  (exact ⟨.inl rfl,_,.refl _,uN (by unfold vn;exact h.symm)⟩)
 ·refine dd ?_
  (exact ⟨.inl rfl,_,.refl _,uN (by unfold vn;exact h.symm)⟩)
end Go.Wor
namespace Go.Wor
open Go.Ab Go.Proofs Tryz Go.Hy Go.Gat Go.Nam Go.Hos Go.Con Go.Sna
open Go.Slp (kA Ip)
def D3 {f:Nat->Int} {n:Nat} (h:(xc f n).1=0):∀ j,j < n->f j=0:=fun j hj=>by
 unfold xc at h;split at h
 ·rename_i i hi;rw [List.find?_range_eq_some] at hi;exact absurd h (aq hi.1)
 ·rename_i hn;rw [List.find?_range_eq_none] at hn;simpa using hn j hj
structure Ei (x:eV):Prop where
 name:xJ x.name=true
 xL:x.xL=1∨x.xL=2
 xP:1<=x.xP∧x.xP<=4
 zL:1<=x.zL.length∧x.zL.length<=4
structure Ws (s:Sna):Prop where
 zd:1<=s.zd.length∧s.zd.length<=4
 rules:1<=s.rules.length∧s.rules.length<=8
 zk:1<=s.zk.length∧s.zk.length<=4
 all:∀ x ∈ s.zk,Ei x
def jB {s:Sna} (h:vn s=true):Ws s:=by
 unfold vn at h;have h:(jg (iF s)).1=0:=aq h
 unfold jg at h;split at h
 ·contradiction
 rename_i h1;split at h
 ·contradiction
 rename_i h2;split at h
 ·contradiction
 rename_i h3;have h1:(vy (iF s)).1=0:=aq h1
 unfold vy at h1;split at h1
 ·cases h1
 rename_i h4;have e:(iF s).zR.length=s.rules.length:=by simp [iF]
 rw [e] at h4;simp only [show (iF s).zd=s.zd from rfl,show (iF s).zk=s.zk from rfl] at h4;have b:∀ n:Nat,∀ m:Int,¬(decide (1<=(n:Int)) && decide ((n:Int)<=m))=false->1<=n∧(n:Int)<=m:=fun n m hh=>by simp at hh;omega
 have q1:=b s.zd.length 4 fun hh=>h4 (.inl (.inl hh))
 have q2:=b s.rules.length 8 fun hh=>h4 (.inl (.inr hh))
 have q3:=b s.zk.length 4 fun hh=>h4 (.inr hh)
 refine ⟨aw,aw,aw,fun x hx=>?_⟩;obtain ⟨i,hi,rfl⟩:=pt.1 hx;have h5:=D3 (f:=mu s.zk) (n:=s.zk.length) (Decidable.of_not_not h3) i hi;unfold mu at h5;rw [dQ hi] at h5;dsimp only at h5;split at h5
 ·cases h5
 rename_i p1;split at h5
 ·cases h5
 split at h5
 ·cases h5
 rename_i p2;split at h5
 ·cases h5
 rename_i p3;split at h5
 ·cases h5
 rename_i p4;refine ⟨aq p1,?_,?_,?_⟩
 ·by_cases a:s.zk[i].xL=1
  ·exact .inl a
  ·by_cases a2:s.zk[i].xL=2
   ·exact .inr a2
   ·exact absurd ⟨a,a2⟩ p2
 ·simp at p3;omega
 ·simp at p4;omega
abbrev xG (x:eV):En:=(kA x.xP).1
def T9 {x:eV} (h:Ei x):kA x.xP=(xG x,0):=by
 have:=h.xP;unfold xG kA;rw [dR aw]
def iz (x:eV):Gr:=⟨0,List.replicate x.zL.length (xG x)⟩
abbrev We:Sna:=⟨[],[],[]⟩
abbrev Ef:u9:=⟨We,[],false⟩
def qR (s:Sna):u9 × Int:=if vn s then (⟨s,s.zk.map iz,false⟩,0) else (Ef,1)
abbrev Cv (v:u9):C:=.agg (zF v)
abbrev tV (r:u9 × Int):C:=.u7 [Cv r.1,I r.2]
def I9 (s:Sna) (hs:nB s):to 65 [] [Cs s] (tV (qR s)) []:=by
 have m1:(s.zk.map xa).length=s.zk.length:=dV ..;refine ab func65 ?_;refine ah (IS s hs) ?_;refine ⟨fun h1=>?_,fun h1=>?_⟩
 rotate_left
 ·have e:qR s=(Ef,1):=by unfold qR;rw [dR aZ]
  rw [e];refine dd ?_;refine td ?_
  exact ⟨.inl rfl,_,zp.var 1 rfl rfl rfl (.cons (WC.nil 0 1) (.cons (WC.nil 0 4) (.cons (WC.nil 0 4) (.cons (WC.nil 0 2) (.cons (.refl _) .nil))))),rfl⟩
 have e:qR s=(⟨s,s.zk.map iz,false⟩,0):=by unfold qR;rw [dU h1]
 have hg:=jB h1;rw [e];refine dd ?_;refine td ?_
 rw [m1];refine zW.seq s.zk.length (fun k=>(.za::.ref 0 [] 3 0 0::.ref 1 [] 5 0 0::I 0::.ref 2 [] 5 0 0::hZ (.za::.za::.za::.za::(lC s.zk)::I s.zk.length::I k::hZ (hZ (hZ (hZ ([.za]))))))) (fun k=>[⟨1,104,3,[qN s],0⟩,⟨1,107,5,[[.u1 1 0 [],.u1 1 0 [],.u1 1 0 [],.u1 1 0 [],Bo false]],0⟩,⟨1,107,5,[qN s++[.gl 3 2 (((s.zk.take k).map iz).map zE),Bo false]],0⟩,⟨4,134,2,((s.zk.take k).map iz).map zE,0⟩]) (fun k=>True) ?_ trivial (fun k hk hr=>?_) (fun hr=>?_)
 ·refine zp.trans (zp.nK 2 3 134 2 rfl rfl (.inl rfl) rfl rfl) ?_;exact cC
 ·obtain ⟨x,hx⟩:∃ x,x=s.zk[k]:=⟨_,rfl⟩;have hgx:(s.zk.map xa)[k]?= some (xa x):=by rw [dT,dQ hk,hx];rfl
  have hgood:=hg.all x tE;have hc4:=hg.zk.2;have h4:=hgood.zL.2;have hlg:(((s.zk.take k).map iz).map zE).length=k:=aA
  have eg:((s.zk.take (k+1)).map iz).map zE=((s.zk.take k).map iz).map zE++[zE (iz x)]:=bP
  have mh:(x.zL.map vr).length=x.zL.length:=dV ..
  have fs:to 91 [] [I x.xP] (.u7 [.agg (zx (xG x)),I 0]) []:=by
   have:=Ip x.xP;rw [T9 hgood] at this;exact dB
  conv=>whnf
  refine uF ?_;(refine tf hgx ?_)
  rw [mh];refine zW.seq x.zL.length (fun j=>(.za::.ref 0 [] 3 0 0::.ref 1 [] 5 0 0::I 0::.ref 2 [] 5 0 0::.za::.ref 4 [] 4 0 0::.ref 5 [] 2 0 0::hZ (.za::(lC s.zk)::I s.zk.length::I k::.za::.za::.za::.za::.za::I x.zL.length::I j::hZ (hZ (hZ ([.za,.za])))))) (fun j=>[⟨1,104,3,[qN s],0⟩,⟨1,107,5,[[.u1 1 0 [],.u1 1 0 [],.u1 1 0 [],.u1 1 0 [],Bo false]],0⟩,⟨1,107,5,[qN s++[.gl 3 2 (((s.zk.take k).map iz).map zE),Bo false]],0⟩,⟨4,134,2,((s.zk.take k).map iz).map zE,0⟩,⟨1,129,4,[xa x],0⟩,⟨1,134,2,[[U 0,.gl 6 3 ((List.replicate j (xG x)).map zx)]],0⟩,⟨4,136,3,((List.replicate j (xG x)).map zx),0⟩]) (fun k=>True) ?_ trivial (fun j hj hr=>?_) (fun hr=>?_)
  ·refine zp.trans (zp.nK 5 1 136 3 rfl rfl (.inl rfl) rfl rfl) ?_;exact cC
  ·have hle:(((List.replicate j (xG x)).map zx)).length=j:=by simp
   have ee:((List.replicate (j+1) (xG x)).map zx)=((List.replicate j (xG x)).map zx)++[zx (xG x)]:=by rw [tx,pb];rfl
   conv=>whnf
   refine uF ?_;refine ah fs ?_;refine td ?_
   refine ⟨rfl,.inr rfl,by rw [hle];simp [maxLen];omega,by rw [hle];show (j+1) * 40<=_;omega,dd ?_⟩;refine .inl ⟨rfl,?_,trivial⟩;rw [zu aw,ee];exact cE 7
  ·refine uD ?_;refine ⟨rfl,.inr rfl,bQ,by rw [hlg];show (k+1) * 32<=_;omega,dd ?_⟩;refine .inl ⟨rfl,?_,trivial⟩;rw [zu aw,eg];exact cE 4
 ·exact dz
def wD (n:Int):List (List Int) × Int:=if n < 1∨8 < n then ([],1) else (List.replicate n.toNat [0,0,0,0,0,0],0)
abbrev Nn (r:List (List Int) × Int):C:=.u7 [eM r.1,I r.2]
def vS (c:List (List Int)):Bool:=c.all (fun r=>r.length == 6) && decide (1<=c.length) && decide (c.length<=8)
def Lj {rows:List (List C)} (h:(rows.all fun r=>r.all fun c=>jl c && zy c)=true):∀ r ∈ rows,∀ c ∈ r,jl c=true∧zy c=true:=fun r hr c hc=>by
 have:=dZ.1 (dZ.1 h r hr) c hc;simpa using this
def shut_map {α:Type} {enc:α->List C} (h:∀ x,(enc x).all (fun c=>jl c && zy c)=true) (l:List α):∀ r ∈ l.map enc,∀ c ∈ r,jl c=true∧zy c=true:=
 Lj (by rw [List.all_map];exact dZ.2 fun x _=>h x)
def yj {n ty sz fz:Nat} {rows:List (List C)} (h:∀ r ∈ rows,∀ c ∈ r,q8 n 9 c=true):qP n [⟨1,ty,sz,rows,fz⟩]=true:=by
 unfold qP;simp only [rJ,sQ,sF];simp;exact h
def VZ {α:Type} (a b:α) {k n:Nat} (h:k < n):(List.replicate k a++List.replicate (n - k) b).set k a=List.replicate (k+1) a++List.replicate (n - (k+1)) b:=by
 rw [tt _ _ aj];have e:n - k=(n - (k+1))+1:=aw
 simp only [sb,rp];rw [e,rK,rO,tx,pW]
 rfl
def VY {α:Type} (a b:α) {k n:Nat} (h:k < n):(List.replicate k a++List.replicate (n - k) b)[k]?= some b:=by
 rw [gu aj];simp only [sb,rp];have e:n - k=(n - (k+1))+1:=aw
 rw [e,rK]
 rfl
def On (n:Int):to 66 [] [I n] (Nn (wD n)) []:=by
 refine ab func66 ?_;refine ⟨fun h1=>?_,fun h1=>?_⟩
 ·have e:wD n=([],1):=by unfold wD;rw [dU b9]
  rw [e];refine dd ?_;refine td ?_
  exact dq
 refine dd ?_;refine ⟨fun h2=>?_,fun h2=>?_⟩
 ·have e:wD n=([],1):=by unfold wD;rw [dU aY]
  rw [e];refine dd ?_;refine td ?_
  exact dq
 have b1:1<=n∧n<=8:=cq
 have e:wD n=(List.replicate n.toNat [0,0,0,0,0,0],0):=by unfold wD;rw [dR aw]
 rw [e];refine dd ?_;refine ⟨rfl,aw,by show (24:Int) * n<=_;omega,aw,dd ?_⟩;refine zW.seq n.toNat (fun k=>(I n::.za::.u1 1 0 []::I 0::.sl 0 [] 1 0 n.toNat false::hZ (.za::.za::I n.toNat::I k::hZ ([])))) (fun k=>[⟨1,0,1,(List.replicate k [lU [0,0,0,0,0,0]]++List.replicate (n.toNat - k) [C.u1 1 0 []]),0⟩]) (fun k=>True) ?_ trivial (fun k hk hr=>?_) (fun hr=>?_)
 ·refine zp.trans (zp.Bs 0 rfl (by intro r hr c hc;rw [gQ hr] at hc;rw [gM.1 hc];rfl)) ?_;exact cC
 ·conv=>whnf
  refine uF ?_;refine ⟨rfl,ar,by show (8:Int) * 6<=_;decide,ar,dd ?_⟩;refine ⟨aw,aA,dd ?_⟩;have e1:0+(k:Int).toNat=k:=aj
  rw [e1];refine ⟨_,VY _ _ hk,rfl,dd ?_⟩;refine .inl ⟨rfl,?_,trivial⟩;refine zp.trans (zp.zV 0 k 0 (r:=[.sl 1 [] 1 0 6 false]) rfl (by rw [gj,dU rfl,dU aA];rfl) rfl rfl (.inr rfl) rfl rfl ?_ ?_) ?_
  ·exact Lj (rows:=List.replicate 6 [U 0]) rfl
  ·intro r hr c hc;rcases gV hr with hr | rfl
   ·rcases gJ.1 hr with hr | hr <;> (rw [gQ hr] at hc;rw [gM.1 hc];rfl)
   ·rw [gM.1 hc];rfl
  ·have e3:(List.replicate k [lU [0,0,0,0,0,0]]++List.replicate (n.toNat - k) [C.u1 1 0 []]).set k [lU [0,0,0,0,0,0]]=(List.replicate (k+1) [lU [0,0,0,0,0,0]]++List.replicate (n.toNat - (k+1)) [C.u1 1 0 []]):=VZ _ _ hk;rw [gI,<- e3,zu aw];refine zp.xx 1 hU rfl rfl rfl (yj (rows:=(List.replicate k [lU [0,0,0,0,0,0]]++List.replicate (n.toNat - k) [C.u1 1 0 []]).set k [lU [0,0,0,0,0,0]]) fun r hr c hc=>?_) rfl;rw [e3] at hr;rcases gJ.1 hr with hr | hr <;> (rw [gQ hr] at hc;rw [gM.1 hc];rfl)
 ·refine uD ?_;have e4:(List.replicate n.toNat [(0:Int),0,0,0,0,0]).map zN=(List.replicate n.toNat [lU [0,0,0,0,0,0]]++List.replicate (n.toNat - n.toNat) [C.u1 1 0 []]):=by rw [List.map_replicate,rp,List.replicate_zero,rQ];rfl
  have sh:∀ r ∈ (List.replicate n.toNat [lU [0,0,0,0,0,0]]++List.replicate (n.toNat - n.toNat) [C.u1 1 0 []]),∀ c ∈ r,jl c=true∧zy c=true:=by
   rw [rp,List.replicate_zero,rQ];intro r hr c hc;rw [gQ hr] at hc;rw [gM.1 hc];exact dJ
  refine ⟨.inl rfl,_,zp.IH 2 rfl rfl (.inl rfl) aj sh,?_⟩;rw [<- e4]
  rfl
def Iw (c:List (List Int)) (hc:c.length < 4000000000000000000):to 39 [] [eM c] (Bo (vS c)) []:=by
 have m1:(c.map zN).length=c.length:=dV ..;refine ab func39 ?_;rw [m1];refine zW.seq c.length (fun k=>((eM c)::.za::Bo false::.za::.za::(eM c)::I c.length::I k::hZ ([.za,.za,.za,.za,.za,.za,.za]))) (fun k=>[]) (fun k=>∀ j,(h:j < c.length)->j < k->(c[j].length == 6)=true) ?_ aj (fun k hk hr=>?_) (fun hr=>?_)
 ·exact cC
 ·obtain ⟨x,hx⟩:∃ x,x=c[k]:=⟨_,rfl⟩;have hg:(c.map zN)[k]?= some (zN x):=by rw [dT,dQ hk,hx];rfl
  have mx:(x.map jL).length=x.length:=dV ..;conv=>whnf
  refine uF ?_;(refine tf hg ?_)
  rw [mx];refine ⟨fun h1=>?_,fun h1=>?_⟩
  ·have hf:c.all (fun r=>r.length == 6)=false:=by
    rw [rT];exact ⟨x,bN,by simp at h1 ⊢;omega⟩
   have e:vS c=false:=by unfold vS;rw [hf];rfl
   rw [e];refine dd ?_;(refine .inr ⟨aj,uH ?_⟩)
   exact uI
  ·refine dd ?_;refine .inl ⟨rfl,?_,fun j hj hjk=>?_⟩
   ·rw [zu aw];exact cE 0
   ·by_cases e:j=k
    ·subst e;rw [<- hx];simp at h1 ⊢;omega
    ·exact hr j hj aw
 ·have ht:c.all (fun r=>r.length == 6)=true:=by
   rw [dZ];intro r hr';obtain ⟨j,hj,rfl⟩:=pt.1 hr';exact hr j hj hj
  have e:vS c=(decide (1<=c.length) && decide (c.length<=8)):=by unfold vS;rw [ht];rfl
  rw [e];refine uD ?_;rw [m1];refine ⟨fun h1=>?_,fun h1=>?_⟩
  ·refine dd ?_;rw [m1];refine ⟨fun h2=>?_,fun h2=>?_⟩
   ·refine dd ?_;refine td ?_
    (exact ⟨.inl rfl,_,.refl _,uN (by symm;simp at h1 h2 ⊢;omega)⟩)
   ·refine dd ?_;refine td ?_
    (exact ⟨.inl rfl,_,.refl _,uN (by symm;simp at h1 h2 ⊢;omega)⟩)
  ·refine dd ?_;refine td ?_
   (exact ⟨.inl rfl,_,.refl _,uN (by symm;simp at h1 ⊢;omega)⟩)
abbrev Cw (w:Wor):C:=.agg (zJ w)
abbrev tW (r:Wor × Int):C:=.u7 [Cw r.1,I r.2]
abbrev Az:Wor:=⟨0,0,0,[],[],[],[],[]⟩
def kh (s:ec):eL:=⟨s,false,0,false⟩
def Bg (l:List ec) (i:Nat):Bool:=match l[i]? with
 | some s=>xJ s && decide (zU ((l.take i).map kh) s < 0)
 | none=>true
def Ak (l:List ec):Bool:=(List.range l.length).all (Bg l)
def ir (s:Sna) (l:List ec) (n:Int):Wor × Int:=
 if vn s=false∨n < 1∨8 < n∨Ak l=false then (Az,1)
 else (⟨0,0,0,List.replicate n.toNat 0,[(qR s).1],l.map kh,List.replicate n.toNat [0,0,0,0,0,0],[]⟩,0)
def RC (s:Sna) (l:List ec) (n:Int) (hs:nB s) (hl:l.length < 1000000000∧∀ x ∈ l,x.length < 4000000000000000000):to 41 [] [Cs s,lT l,I n] (tW (ir s l n)) []:=by
 have m1:(l.map qm).length=l.length:=dV ..;have cs:=I9 s hs;refine ab func41 ?_;by_cases h0:vn s=true
 rotate_left
 ·have e:ir s l n=(Az,1):=by unfold ir;rw [dU (.inl (aq h0))]
  have e2:qR s=(Ef,1):=by unfold qR;rw [dR h0]
  rw [e2] at cs;have cs:to 65 [] [Cs s] (.u7 [Cv Ef,I 1]) []:=cs;rw [e];refine ah cs ?_;refine td ?_
  exact cL
 have e2:qR s=((qR s).1,0):=by unfold qR;rw [dU h0]
 rw [e2] at cs;have cs:to 65 [] [Cs s] (.u7 [Cv (qR s).1,I 0]) []:=cs;have hn:=On n;refine ah cs ?_;refine td ?_
 by_cases h1:n < 1∨8 < n
 ·have e:ir s l n=(Az,1):=by unfold ir;rw [dU aw]
  have e3:wD n=([],1):=by unfold wD;rw [dU h1]
  rw [e3] at hn;have hn:to 66 [] [I n] (.u7 [eM [],I 1]) []:=hn;rw [e];refine ah hn ?_;refine td ?_
  exact cL
 have e3:wD n=(List.replicate n.toNat [0,0,0,0,0,0],0):=by unfold wD;rw [dR h1]
 rw [e3] at hn;have hn:to 66 [] [I n] (.u7 [eM (List.replicate n.toNat [0,0,0,0,0,0]),I 0]) []:=hn;refine ah hn ?_;refine td ?_
 refine .inl ⟨⟨false,[0,3],[2],[]⟩,au,uH ?_⟩;refine ⟨rfl,aw,by show (8:Int) * n<=_;omega,aw,dd ?_⟩;refine tc ?_
 rw [m1];have hb:Ak l=false->ir s l n=(Az,1):=fun h=>by unfold ir;rw [dU (.inr (.inr (.inr h)))]
 refine zW.seq l.length (fun k=>(.za::.za::.za::.ref 0 [] 3 0 0:: .za::.za::.ref 1 [] 8 0 0::I 0:: .za::.za::.za::.ref 3 [] 8 0 0:: .za::.za::hZ (hZ (hZ (lT l::I l.length::I k:: .za::.za::.za::.za::.za::.za::.za::hZ (hZ ([]))))))) (fun k=>[⟨1,104,3,[qN s],0⟩,⟨1,37,8,[[I 0,I 0,I 0,.u1 1 0 [],.u1 1 0 [],.u1 1 0 [],.u1 1 0 [],.u1 1 0 []]],0⟩,⟨1,107,5,[zF (qR s).1],0⟩,⟨1,37,8,[[I 0,I 0,I 0,.u1 0 1 (List.replicate n.toNat [I 0]),.u1 1 5 [zF (qR s).1],.gl 4 4 (((l.take k).map kh).map qK),eM (List.replicate n.toNat [0,0,0,0,0,0]),.u1 1 0 []]],0⟩,⟨4,85,4,((l.take k).map kh).map qK,0⟩]) (fun k=>∀ j,j < k->Bg l j=true) ?_ aj (fun k hk hr=>?_) (fun hr=>?_)
 ·refine zp.trans (zp.nK 3 5 85 4 rfl rfl (.inl rfl) rfl rfl) ?_;exact cC
 ·obtain ⟨x,hx⟩:∃ x,x=l[k]:=⟨_,rfl⟩;have hx2:l[k]?= some x:=by rw [dQ hk,hx]
  have hg:(l.map qm)[k]?= some (qm x):=by rw [dT,hx2];rfl
  have hxm:x ∈ l:=bN
  have hno:Bg l k=(xJ x && decide (zU ((l.take k).map kh) x < 0)):=by unfold Bg;rw [hx2]
  have bad:Bg l k=false->ir s l n=(Az,1):=fun h=>hb (by unfold Ak;rw [rT];exact ⟨k,aq hk,aH⟩)
  have hlg:(((l.take k).map kh).map qK).length=k:=aA
  have eg:((l.take (k+1)).map kh).map qK=((l.take k).map kh).map qK++[qK (kh x)]:=bP
  conv=>whnf
  refine uF ?_;(refine tf hg ?_)
  refine ah (yF x (by have:=hl.2 x hxm;omega)) ?_;refine ⟨fun h2=>?_,fun h2=>?_⟩
  rotate_left
  ·rw [bad (by rw [hno,h2];rfl)];refine dd ?_;refine td ?_
   (refine .inr ⟨aj,uH ?_⟩)
   exact cL
  refine dd ?_;refine ah (wX ((l.take k).map kh) x aA) ?_;refine ⟨fun h3=>?_,fun h3=>?_⟩
  ·rw [bad (by rw [hno,show decide (zU ((l.take k).map kh) x < 0)=false from by simp at h3 ⊢;omega,sd])];refine dd ?_;refine td ?_
   (refine .inr ⟨aj,uH ?_⟩)
   exact cL
  refine dd ?_;refine td ?_
  refine ⟨rfl,.inr rfl,bQ,by rw [hlg];show (k+1) * 40<=_;omega,dd ?_⟩;refine .inl ⟨rfl,?_,fun j hj=>?_⟩
  ·rw [zu aw,eg];exact cE 5
  ·by_cases e:j=k
   ·subst e;rw [hno,h2];simp at h3 ⊢;omega
   ·exact hr j aw
 ·have z8:Ak l=true:=by
   unfold Ak;rw [dZ];intro i hi;exact hr i (aq hi)
  have e:ir s l n=(⟨0,0,0,List.replicate n.toNat 0,[(qR s).1],l.map kh,List.replicate n.toNat [0,0,0,0,0,0],[]⟩,0):=by unfold ir;rw [dR (by simp only [h0,z8];simp;omega)]
  rw [e];refine uD ?_;rw [gX];refine ⟨.inl rfl,_,zp.var 1 rfl rfl rfl (.cons (.refl _) (.cons (.refl _) (.cons (.refl _) (.cons (.refl _) (.cons (WC.share 1 5 _) (.cons (.refl _) (.cons (.refl _) (.cons (WC.nil 0 3) .nil)))))))),?_⟩
  have e9:zJ ⟨0,0,0,List.replicate n.toNat 0,[(qR s).1],l.map kh,List.replicate n.toNat [0,0,0,0,0,0],[]⟩=[I 0,I 0,I 0,.u1 0 1 (List.replicate n.toNat [I 0]),.u1 0 5 [zF (qR s).1],lL (l.map kh),eM (List.replicate n.toNat [0,0,0,0,0,0]),.u1 0 3 []]:=by
   have e8:(List.replicate n.toNat (0:Int)).map encI=List.replicate n.toNat [I 0]:=List.map_replicate;show [I 0,I 0,I 0,C.u1 0 1 ((List.replicate n.toNat (0:Int)).map encI),_,_,_,_]=_;rw [e8]
   rfl
  show _=some (C.u7 [C.agg (zJ ⟨0,0,0,List.replicate n.toNat 0,[(qR s).1],l.map kh,List.replicate n.toNat [0,0,0,0,0,0],[]⟩),I 0]);rw [e9]
  rfl
end Go.Wor
namespace Go.Wor
open Go.Ab Go.Proofs Tryz Go.Hy Go.Gat Go.Nam Go.Hos Go.Con Go.Sna
def j9 {F:List (List C)} {z:List C} {k n:Nat} (hF:F.length=n) (h:k < n):(F.take k++(List.replicate n z).drop k)[k]?= some z:=by
 rw [gu aA,List.length_take,pE,rY,dU aw]
def qV {F:List (List C)} {x z:List C} {k n:Nat} (hx:F[k]?= some x) (hn:k < n):(F.take k++(List.replicate n z).drop k).set k x=F.take (k+1)++(List.replicate n z).drop (k+1):=by
 obtain ⟨hk,rfl⟩:=dP.1 hx;have e1:(F.take k).length=k:=aA
 rw [tt _ _ aw,e1,rp,List.drop_replicate,List.drop_replicate,gR hk,pW];have e2:n - k=(n - (k+1))+1:=aw
 rw [e2,rK]
 rfl
def y5 {F:List (List C)} {z:List C} {n:Nat} (hF:F.length=n):F.take n++(List.replicate n z).drop n=F:=by
 rw [rM aw,List.drop_of_length_le aj,rQ]
def K0 (x:Int) (l:List Int) (hl:l.length < 1000000000):to 155 [] [lI (x::l)] (.sl 0 [] 1 0 (x::l).length false) [⟨2,3,1,(x::l).map encI,0⟩]:=by
 have e:0+((l.map encI).length+1)=(x::l).length:=aj
 rw [<- e];refine zb.zT (fn:=f155) func155 rfl (uH ?_);refine ⟨aj,uH ?_⟩;refine .inr ⟨.inl rfl,ay,bb,uH ?_⟩;exact uJ
def vc (l:List Int) (hl:l.length < 1000000000):to 155 [] [lI l] (lI l) []:=by
 cases l with
 | nil=>
  refine ab func155 ?_;refine ⟨?_,?_⟩
  ·refine dd ?_;exact dq
  ·refine dd ?_;refine .inr ⟨rfl,dd ?_⟩;exact ⟨.inl rfl,_,zp.cell 2 rfl ((WC.none 1 1 1).trans (WC.share 1 1 [])),rfl⟩
 | cons x l=>
  have hl3:l.length+1 < 1000000000:=aq hl
  refine ab func155 ?_;refine ⟨aj,uH ?_⟩;refine .inr ⟨.inl rfl,ay,bb,uH ?_⟩;exact df
def TU (x:Int) (l:List Int) (hl:l.length < 1000000000):to 190 [] [lU (x::l)] (.sl 0 [] 1 0 (x::l).length false) [⟨2,43,1,(x::l).map jL,0⟩]:=by
 have e:0+((l.map jL).length+1)=(x::l).length:=aj
 rw [<- e];refine zb.zT (fn:=f190) func190 rfl (uH ?_);refine ⟨aj,uH ?_⟩;refine .inr ⟨.inl rfl,ay,bb,uH ?_⟩;exact uJ
def TV (l:List Int) (hl:l.length < 1000000000):to 190 [] [lU l] (lU l) []:=by
 cases l with
 | nil=>
  refine ab func190 ?_;refine ⟨?_,?_⟩
  ·refine dd ?_;exact dq
  ·refine dd ?_;refine .inr ⟨rfl,dd ?_⟩;exact ⟨.inl rfl,_,zp.cell 2 rfl ((WC.none 1 1 1).trans (WC.share 1 1 [])),rfl⟩
 | cons x l=>
  have hl3:l.length+1 < 1000000000:=aq hl
  refine ab func190 ?_;refine ⟨aj,uH ?_⟩;refine .inr ⟨.inl rfl,ay,bb,uH ?_⟩;exact df
def TT (x:eL) (l:List eL) (hl:l.length < 1000000000):to 158 [] [lL (x::l)] (.sl 0 [] 4 0 (x::l).length false) [⟨2,85,4,(x::l).map qK,0⟩]:=by
 have e:0+((l.map qK).length+1)=(x::l).length:=aj
 rw [<- e];refine zb.zT (fn:=f158) func158 rfl (uH ?_);refine ⟨aj,uH ?_⟩;refine .inr ⟨.inl rfl,ay,by show _ * 40<=_;simp;omega,uH ?_⟩;exact uJ
def vX (l:List eL) (hl:l.length < 1000000000):to 158 [] [lL l] (lL l) []:=by
 cases l with
 | nil=>
  refine ab func158 ?_;refine ⟨?_,?_⟩
  ·refine dd ?_;exact ⟨.inl rfl,_,zp.cell 2 rfl (WC.nil 0 4),rfl⟩
  ·refine dd ?_;refine .inr ⟨rfl,dd ?_⟩;exact ⟨.inl rfl,_,zp.cell 2 rfl ((WC.none 1 4 4).trans (WC.share 1 4 [])),rfl⟩
 | cons x l=>
  have hl3:l.length+1 < 1000000000:=aq hl
  refine ab func158 ?_;refine ⟨aj,uH ?_⟩;refine .inr ⟨.inl rfl,ay,by show _ * 40<=_;simp;omega,uH ?_⟩;exact df
def K1 (x:eJ) (l:List eJ) (hl:l.length < 1000000000):to 161 [] [lR (x::l)] (.sl 0 [] 3 0 (x::l).length false) [⟨2,101,3,(x::l).map xt,0⟩]:=by
 have e:0+((l.map xt).length+1)=(x::l).length:=aj
 rw [<- e];refine zb.zT (fn:=f161) func161 rfl (uH ?_);refine ⟨aj,uH ?_⟩;refine .inr ⟨.inl rfl,ay,by show _ * 24<=_;simp;omega,uH ?_⟩;exact uJ
def AW (l:List eJ) (hl:l.length < 1000000000):to 161 [] [lR l] (lR l) []:=by
 cases l with
 | nil=>
  refine ab func161 ?_;refine ⟨?_,?_⟩
  ·refine dd ?_;exact ⟨.inl rfl,_,zp.cell 2 rfl (WC.nil 0 3),rfl⟩
  ·refine dd ?_;refine .inr ⟨rfl,dd ?_⟩;exact ⟨.inl rfl,_,zp.cell 2 rfl ((WC.none 1 3 3).trans (WC.share 1 3 [])),rfl⟩
 | cons x l=>
  have hl3:l.length+1 < 1000000000:=aq hl
  refine ab func161 ?_;refine ⟨aj,uH ?_⟩;refine .inr ⟨.inl rfl,ay,by show _ * 24<=_;simp;omega,uH ?_⟩;exact df
def Jy (e:En) (he:e.next.length < 1000000000):to 198 [] [.agg [],.agg (zx e)] (.agg (zx e)) []:=by
 refine ab func198 ?_;refine ah (vc e.next he) ?_;exact uI
def Vp (l:List En) (hl:l.length < 1000000000) (hp:∀ x ∈ l,to 198 [] [.agg [],.agg (zx x)] (.agg (zx x)) []):to 197 [] [lE l,.fn 198 [] [],.agg []] (.sl 0 [] 3 0 l.length false) [⟨2,136,3,l.map zx,0⟩]:=by
 have m1:(l.map zx).length=l.length:=dV ..;refine zb.zT (fn:=f197) func197 rfl (uH ?_);rw [m1];refine ⟨rfl,aw,by show (40:Int) * _<=_;omega,aw,dd ?_⟩;rw [m1,toNat_cast];refine zW.seq l.length (fun k=>((lE l)::.fn 198 [] []::.za::.za::.za::.ref 0 [] 0 0 0::.u1 1 0 []::.sl 1 [] 3 0 l.length false::.za::.za::.za::.za::.za::(lE l)::I l.length::I k::hZ ([.za,.za,.za,.za,.za]))) (fun k=>[⟨1,243,0,[[]],0⟩,⟨2,136,3,(l.map zx).take k++(List.replicate l.length [U 0,.u1 1 0 [],I 0]).drop k,0⟩]) (fun k=>True) ?_ trivial (fun k hk hr=>?_) (fun hr=>?_)
 ·exact cC
 ·obtain ⟨x,hx⟩:∃ x,x=l[k]:=⟨_,rfl⟩;have hx2:l[k]?= some x:=by rw [dQ hk,hx]
  have hg:(l.map zx)[k]?= some (zx x):=by rw [dT,hx2];rfl
  conv=>whnf
  refine uF ?_;(refine tf hg ?_)
  refine ah (hp x tE) ?_;refine ⟨aw,aA,dd ?_⟩;have e1:0+(k:Int).toNat=k:=aj
  rw [e1];refine ⟨_,j9 aj hk,rfl,dd ?_⟩;refine .inl ⟨rfl,?_,trivial⟩;have e2:=qV (z:=[U 0,.u1 1 0 [],I 0]) (n:=l.length) hg hk;rw [zu aw,<- e2];exact cE 2
 ·exact de
def qa {r:List C} (h:r.all zy=true):∀ q ∈ [r],∀ c ∈ q,zy c=true:=fun q hq c hc=>by
 rw [gM.1 hq] at hc;exact dZ.1 h c hc
def HL (g:Gr):Prop:=g.ends.length < 1000000000∧∀ e ∈ g.ends,e.next.length < 1000000000
def Em (v:u9):Prop:=v.zm.length < 1000000000∧∀ g ∈ v.zm,HL g
structure qZ (w:Wor):Prop where
 pins:w.pins.length < 1000000000
 ze:w.ze.length < 1000000000∧∀ v ∈ w.ze,Em v
 zd:w.zd.length < 1000000000
 counts:w.counts.length < 1000000000∧∀ r ∈ w.counts,r.length < 1000000000
 zr:w.zr.length < 1000000000
def II (g:Gr) (hg:HL g):to 189 [] [.agg [],.agg (zE g)] (.agg (zE g)) []:=by
 refine ab func189 ?_;refine af [] (Vp g.ends hg.1 fun e he=>Jy e (hg.2 e he)) ?_;exact ⟨.inl rfl,_,zp.zV 2 0 1 rfl rfl rfl rfl (.inr rfl) rfl aj (shut_map (enc:=zx) (fun _=>rfl) g.ends) (qa rfl),rfl⟩
def Vr (l:List Gr) (hl:l.length < 1000000000) (hp:∀ x ∈ l,to 189 [] [.agg [],.agg (zE x)] (.agg (zE x)) []):to 188 [] [lG l,.fn 189 [] [],.agg []] (.sl 0 [] 2 0 l.length false) [⟨2,134,2,l.map zE,0⟩]:=by
 have m1:(l.map zE).length=l.length:=dV ..;refine zb.zT (fn:=f188) func188 rfl (uH ?_);rw [m1];refine ⟨rfl,aw,by show (32:Int) * _<=_;omega,aw,dd ?_⟩;rw [m1,toNat_cast];refine zW.seq l.length (fun k=>((lG l)::.fn 189 [] []::.za::.za::.za::.ref 0 [] 0 0 0::.u1 1 0 []::.sl 1 [] 2 0 l.length false::.za::.za::.za::.za::.za::(lG l)::I l.length::I k::hZ ([.za,.za,.za,.za,.za]))) (fun k=>[⟨1,243,0,[[]],0⟩,⟨2,134,2,(l.map zE).take k++(List.replicate l.length ([U 0,.u1 1 0 []]:List C)).drop k,0⟩]) (fun k=>True) ?_ trivial (fun k hk hr=>?_) (fun hr=>?_)
 ·exact cC
 ·obtain ⟨x,hx⟩:∃ x,x=l[k]:=⟨_,rfl⟩;have hx2:l[k]?= some x:=by rw [dQ hk,hx]
  have hg:(l.map zE)[k]?= some (zE x):=by rw [dT,hx2];rfl
  conv=>whnf
  refine uF ?_;(refine tf hg ?_)
  refine ah (hp x tE) ?_;refine ⟨aw,aA,dd ?_⟩;have e1:0+(k:Int).toNat=k:=aj
  rw [e1];refine ⟨_,j9 aj hk,rfl,dd ?_⟩;refine .inl ⟨rfl,?_,trivial⟩;have e2:=qV (z:=([U 0,.u1 1 0 []]:List C)) (n:=l.length) hg hk;rw [zu aw,<- e2];exact cE 2
 ·exact de
def jM (v:u9) (hv:Em v):to 157 [] [.agg [],.agg (zF v)] (.agg (zF v)) []:=by
 refine ab func157 ?_;refine af [] (Vr v.zm hv.1 fun g hg=>II g (hv.2 g hg)) ?_;exact ⟨.inl rfl,_,zp.zV 2 0 3 rfl rfl rfl rfl (.inr rfl) rfl aj (shut_map (enc:=zE) (fun _=>rfl) v.zm) (qa rfl),rfl⟩
def wQ (l:List u9) (hl:l.length < 1000000000) (hp:∀ x ∈ l,to 157 [] [.agg [],.agg (zF x)] (.agg (zF x)) []):to 156 [] [lV l,.fn 157 [] [],.agg []] (.sl 0 [] 5 0 l.length false) [⟨2,107,5,l.map zF,0⟩]:=by
 have m1:(l.map zF).length=l.length:=dV ..;refine zb.zT (fn:=f156) func156 rfl (uH ?_);rw [m1];refine ⟨rfl,aw,by show (104:Int) * _<=_;omega,aw,dd ?_⟩;rw [m1,toNat_cast];refine zW.seq l.length (fun k=>((lV l)::.fn 157 [] []::.za::.za::.za::.ref 0 [] 0 0 0::.u1 1 0 []::.sl 1 [] 5 0 l.length false::.za::.za::.za::.za::.za::(lV l)::I l.length::I k::hZ ([.za,.za,.za,.za,.za]))) (fun k=>[⟨1,243,0,[[]],0⟩,⟨2,107,5,(l.map zF).take k++(List.replicate l.length ([.u1 1 0 [],.u1 1 0 [],.u1 1 0 [],.u1 1 0 [],Bo false]:List C)).drop k,0⟩]) (fun k=>True) ?_ trivial (fun k hk hr=>?_) (fun hr=>?_)
 ·exact cC
 ·obtain ⟨x,hx⟩:∃ x,x=l[k]:=⟨_,rfl⟩;have hx2:l[k]?= some x:=by rw [dQ hk,hx]
  have hg:(l.map zF)[k]?= some (zF x):=by rw [dT,hx2];rfl
  conv=>whnf
  refine uF ?_;(refine tf hg ?_)
  refine ah (hp x tE) ?_;refine ⟨aw,aA,dd ?_⟩;have e1:0+(k:Int).toNat=k:=aj
  rw [e1];refine ⟨_,j9 aj hk,rfl,dd ?_⟩;refine .inl ⟨rfl,?_,trivial⟩;have e2:=qV (z:=([.u1 1 0 [],.u1 1 0 [],.u1 1 0 [],.u1 1 0 [],Bo false]:List C)) (n:=l.length) hg hk;rw [zu aw,<- e2];exact cE 2
 ·exact de
def yg (r:List Int) (hr:r.length < 1000000000):to 160 [] [.agg [],lU r] (lU r) []:=by
 refine ab func160 ?_;refine ah (TV r hr) ?_;exact uI
def JT (H':zl) (ρ:Nat->Nat):∀ (i:Nat) (K:zl),mK [] H' ρ i K=K
 | _,[]=>rfl
 | i,ob::K=>by unfold mK;rw [JT H' ρ (i+1) K];rfl
def oa {P:Program} {f:FuncId} {args:List C} {r:C} {H':zl} (h:zb P f [] args r H') (hR:qS H'=true) (ha:args.map (yf [] 9)=args) (H:zl) (hf:qS H=true):
  zb P f H args (yX (ja [] H.length) 9 r) (H++H'.map (zG (ja [] H.length))):=by
 have:=h.part [] hR (K:=H) rfl ha rfl rfl hf;have e:wC [] H H'=H++H'.map (zG (ja [] H.length)):=by unfold wC;rw [JT];rfl
 rwa [e] at this
def Lu {α:Type} {enc:α->List C} {f:C->C} (hf:∀ x,(enc x).map f=enc x) (l:List α) (v:Nat) (row:List C):(((l.map enc).set v row).map fun r=>r.map f)=(l.map enc).set v (row.map f):=by
 rw [pL,pX]
 congr 1
 exact ri fun x _=>hf x
def jU {n:Nat} {x:Ob} {H:zl} (h1:qP n [x]=true) (h2:qP n H=true):qP n (x::H)=true:=by
 unfold qP at *;simp only [rJ,sQ,sF] at *;rw [h1,h2];rfl
def zc {x:Ob} {H:zl} (h1:qS [x]=true) (h2:qS H=true):qS (x::H)=true:=by
 unfold qS at *;simp only [rJ,sQ,sF] at *;rw [h1,h2];rfl
def zj {ty sz fz:Nat} {rows:List (List C)} (h:∀ r ∈ rows,∀ c ∈ r,zy c=true):qS [⟨1,ty,sz,rows,fz⟩]=true:=by
 unfold qS;simp only [rJ,sQ,sF];rw [dZ]
 exact fun r hr=>dZ.2 fun c hc=>h r hr c hc
def zA {α:Type} {enc:α->List C} {p:C->Bool} (h:∀ x,(enc x).all p=true) {row:List C} (hr:row.all p=true) (l:List α) (v:Nat):∀ r ∈ (l.map enc).set v row,∀ c ∈ r,p c=true:=fun r hm c hc=>by
 rcases gV hm with hm | rfl
 ·obtain ⟨x,_,rfl⟩:=gL.1 hm;exact dZ.1 (h x) c hc
 ·exact dZ.1 hr c hc
def vZ {α:Type} {enc:α->List C} {p:C->Bool} (h:∀ x,(enc x).all p=true) {row z:List C} (hz:z.all p=true) (l:List α) {v k:Nat} (n:Nat) (hr:k<=v∨row.all p=true):∀ r ∈ ((l.map enc).set v row).take k++(List.replicate n z).drop k,∀ c ∈ r,p c=true:=fun r hm c hc=>by
 rcases gJ.1 hm with hm | hm
 ·rcases hr with hr | hr
  ·rw [List.take_set_of_le hr] at hm;obtain ⟨x,_,rfl⟩:=gL.1 (pK hm);exact dZ.1 (h x) c hc
  ·exact zA h hr l v r (pK hm) c hc
 ·rw [gQ (rV hm)] at hc;exact dZ.1 hz c hc
def P4 (e0:En) (x:Int) (l:List Int) (he:e0.next=x::l) (hl:l.length < 1000000000):to 198 [] [.agg [],.agg (zx e0)] (.agg [U e0.head,C.sl 0 [] 1 0 e0.next.length false,I e0.zf]) [⟨2,3,1,e0.next.map encI,0⟩]:=by
 have h1:to 198 [] [.agg [],.agg (zx e0)] (.agg [U e0.head,C.sl 3 [] 1 0 e0.next.length false,I e0.zf]) [⟨1,243,0,[[]],0⟩,⟨1,136,3,[[U e0.head,C.sl 3 [] 1 0 e0.next.length false,I e0.zf]],0⟩,⟨1,136,3,[[U e0.head,C.sl 3 [] 1 0 e0.next.length false,I e0.zf]],0⟩,⟨2,3,1,e0.next.map encI,0⟩]:=by
  have hc:=K0 x l hl;rw [<- he] at hc;refine zb.zT (fn:=f198) func198 rfl (uH ?_);refine af [] (hc) ?_;exact uJ
 exact h1.mP (fun B h _=>zp.ed [3] [0] _ _ tK rfl rfl rfl) (gF _)
def T4 (e0:En) (x:Int) (l:List Int) (he:e0.next=x::l) (hl:l.length < 1000000000) (H:zl) (hf:qS H=true):to 198 H [.agg [],.agg (zx e0)] (.agg ([U e0.head,C.sl H.length [] 1 0 e0.next.length false,I e0.zf])) (H++[⟨2,3,1,e0.next.map encI,0⟩]):=
 oa (P4 e0 x l he hl) rfl rfl H hf
def zH {α:Type} {enc:α->List C} {sel:List Nat} (hf:∀ x,(enc x).map (yf sel 9)=enc x) (l:List α) (v:Nat) (row:List C) (ty sz fz:Nat):zK sel ⟨1,ty,sz,(l.map enc).set v row,fz⟩=⟨1,ty,sz,(l.map enc).set v (row.map (yf sel 9)),fz⟩:=by
 show (⟨1,ty,sz,((l.map enc).set v row).map (fun r=>r.map (yf sel 9)),fz⟩:Ob)=_;rw [Lu hf]
def zB {α:Type} {enc:α->List C} {ρ:Nat->Nat} (hf:∀ x,(enc x).map (yX ρ 9)=enc x) (l:List α) (v:Nat) (row:List C) (ty sz fz:Nat):zG ρ ⟨1,ty,sz,(l.map enc).set v row,fz⟩=⟨1,ty,sz,(l.map enc).set v (row.map (yX ρ 9)),fz⟩:=by
 show (⟨1,ty,sz,((l.map enc).set v row).map (fun r=>r.map (yX ρ 9)),fz⟩:Ob)=_;rw [Lu hf]
def T0 (l:List En) (e:Nat) (e0:En) (hv:l[e]?= some e0) (hl:l.length < 1000000000) (hp:∀ x ∈ l,to 198 [] [.agg [],.agg (zx x)] (.agg (zx x)) [])
  (hA:∀ H,qS H=true->to 198 H [.agg [],.agg (zx e0)] (.agg ([U e0.head,C.sl H.length [] 1 0 e0.next.length false,I e0.zf])) (H++[⟨2,3,1,e0.next.map encI,0⟩])):
  to 197 [] [lE l,.fn 198 [] [],.agg []] (.sl 0 [] 3 0 l.length false) [⟨1,0,3,(l.map zx).set e ([U e0.head,C.sl 1 [] 1 0 e0.next.length false,I e0.zf]),0⟩,⟨2,3,1,e0.next.map encI,0⟩]:=by
 have m1:(l.map zx).length=l.length:=dV ..;have hvl:=(dP.1 hv).1
 have h1:to 197 [] [lE l,.fn 198 [] [],.agg []] (.sl 1 [] 3 0 l.length false) [⟨1,243,0,[[]],0⟩,⟨1,0,3,(l.map zx).set e ([U e0.head,C.sl 3 [] 1 0 e0.next.length false,I e0.zf]),0⟩,⟨1,136,3,[zx e0],0⟩,⟨2,3,1,e0.next.map encI,0⟩]:=by
  refine zb.zT (fn:=f197) func197 rfl (uH ?_);rw [m1];refine ⟨rfl,aw,by show (40:Int) * _<=_;omega,aw,dd ?_⟩;rw [m1,toNat_cast];have ZZ:List C:=([U 0,.u1 1 0 [],I 0]:List C);refine zW.seq l.length (fun k=>((lE l)::.fn 198 [] []::.za::.za::.za::.ref 0 [] 0 0 0::.u1 1 0 []::.sl 1 [] 3 0 l.length false::.za::.za::.za::.za::.za::(lE l)::I l.length::I k::hZ ([.za,.za,.za,.za,.za]))) (fun k=>if k<=e then [⟨1,243,0,[[]],0⟩,⟨1,0,3,((l.map zx).set e ([U e0.head,C.sl 3 [] 1 0 e0.next.length false,I e0.zf])).take k++(List.replicate l.length ([U 0,.u1 1 0 [],I 0]:List C)).drop k,0⟩] else [⟨1,243,0,[[]],0⟩,⟨1,0,3,((l.map zx).set e ([U e0.head,C.sl 3 [] 1 0 e0.next.length false,I e0.zf])).take k++(List.replicate l.length ([U 0,.u1 1 0 [],I 0]:List C)).drop k,0⟩,⟨1,136,3,[zx e0],0⟩,⟨2,3,1,e0.next.map encI,0⟩]) (fun k=>True) ?_ trivial (fun k hk hr=>?_) (fun hr=>?_)
  ·rw [dU (gF _)];refine zp.trans (zp.Bs 1 rfl fun r hr c hc=>?_) (cC);rw [gQ hr] at hc;exact dZ.1 (rfl:([U 0,.u1 1 0 [],I 0]:List C).all zy=true) c hc
  ·obtain ⟨x,hx⟩:∃ x,x=l[k]:=⟨_,rfl⟩;have hx2:l[k]?= some x:=by rw [dQ hk,hx]
   have hxm:x ∈ l:=bN
   have hg:(l.map zx)[k]?= some (zx x):=by rw [dT,hx2];rfl
   have e1:0+(k:Int).toNat=k:=aj
   have low:∀ n j,j<=e∨3 < n->∀ r ∈ ((l.map zx).set e ([U e0.head,C.sl 3 [] 1 0 e0.next.length false,I e0.zf])).take j++(List.replicate l.length ([U 0,.u1 1 0 [],I 0]:List C)).drop j,∀ c ∈ r,q8 n 9 c=true:=fun n j h=>vZ (enc:=zx) (fun _=>rfl) rfl l l.length (h.imp_right fun h=>by simp [q8,qN];omega)
   have own:∀ j,∀ r ∈ ((l.map zx).set e ([U e0.head,C.sl 3 [] 1 0 e0.next.length false,I e0.zf])).take j++(List.replicate l.length ([U 0,.u1 1 0 [],I 0]:List C)).drop j,∀ c ∈ r,zy c=true:=fun j=>vZ (enc:=zx) (fun _=>rfl) rfl l l.length (.inr rfl)
   by_cases hkv:k=e
   ·subst hkv;obtain rfl:e0=x:=by rw [hv] at hx2;exact gk hx2
    have hF:((l.map zx).set k ([U e0.head,C.sl 3 [] 1 0 e0.next.length false,I e0.zf]))[k]?= some ([U e0.head,C.sl 3 [] 1 0 e0.next.length false,I e0.zf]):=by rw [gj,dU rfl,dU (aq hk)]
    rw [dU (gf _),dR aw];conv=>whnf
    refine uF ?_;(refine tf hg ?_)
    refine ⟨_,_,hA _ (zc rfl (zc (zj (own k)) rfl)),dd ?_⟩;exact cT
   ·have hF:((l.map zx).set e ([U e0.head,C.sl 3 [] 1 0 e0.next.length false,I e0.zf]))[k]?= some (zx x):=by rw [gZ (fun h=>hkv h.symm)];exact hg
    by_cases u4:k < e
    ·rw [dU aw,dU aw];conv=>whnf
     refine uF ?_;(refine tf hg ?_)
     refine ah (hp x hxm) ?_;refine ⟨aw,aA,dd ?_⟩;rw [e1];refine ⟨_,j9 aj hk,rfl,dd ?_⟩;refine .inl ⟨rfl,?_,trivial⟩;rw [zu aw,<- qV hF hk];refine zp.xx 2 hU rfl rfl rfl (jU rfl (yj ?_)) rfl;have lw:=low 2 (k+1) (.inl aw);rw [<- qV (z:=([U 0,.u1 1 0 [],I 0]:List C)) (n:=l.length) hF hk] at lw;exact lw
    ·rw [dR aw,dR aw];conv=>whnf
     refine uF ?_;(refine tf hg ?_)
     refine ah (hp x hxm) ?_;refine ⟨aw,aA,dd ?_⟩;rw [e1];refine ⟨_,j9 aj hk,rfl,dd ?_⟩;refine .inl ⟨rfl,?_,trivial⟩;rw [zu aw,<- qV hF hk];refine zp.xx 4 hU rfl rfl rfl (jU rfl (jU (yj ?_) (jU rfl rfl))) rfl;have lw:=low 4 (k+1) (.inr aw);rw [<- qV (z:=([U 0,.u1 1 0 [],I 0]:List C)) (n:=l.length) hF hk] at lw;exact lw
  ·exact dO
 refine h1.mP (fun B h _=>?_) (gF _);have hw:=zp.ed (B:=B) [1,3] [0] [.sl 1 [] 3 0 l.length false] [⟨1,243,0,[[]],0⟩,⟨1,0,3,(l.map zx).set e ([U e0.head,C.sl 3 [] 1 0 e0.next.length false,I e0.zf]),0⟩,⟨1,136,3,[zx e0],0⟩,⟨2,3,1,e0.next.map encI,0⟩] tK rfl rfl (zc rfl (zc (zj (zA (enc:=zx) (fun _=>rfl) rfl l e)) (zc rfl rfl)))
 have e:xC [1,3] [⟨1,243,0,[[]],0⟩,⟨1,0,3,(l.map zx).set e ([U e0.head,C.sl 3 [] 1 0 e0.next.length false,I e0.zf]),0⟩,⟨1,136,3,[zx e0],0⟩,⟨2,3,1,e0.next.map encI,0⟩]=[⟨1,0,3,(l.map zx).set e ([U e0.head,C.sl 1 [] 1 0 e0.next.length false,I e0.zf]),0⟩,⟨2,3,1,e0.next.map encI,0⟩]:=by
  show zK [1,3] ⟨1,0,3,(l.map zx).set e ([U e0.head,C.sl 3 [] 1 0 e0.next.length false,I e0.zf]),0⟩::_=_;rw [zH (enc:=zx) (fun _=>rfl)]
  rfl
 rw [e] at hw;exact hw
structure Ek (g0:Gr) (e:Nat) (e0:En):Prop where
 sm:HL g0
 at_:g0.ends[e]?= some e0
 ne:e0.next≠[]
def Vo {g0:Gr} {e:Nat} {e0:En} (h:Ek g0 e e0) (H:zl) (hf:qS H=true):to 197 H [lE g0.ends,.fn 198 [] [],.agg []] (.sl H.length [] 3 0 g0.ends.length false) (H++[⟨1,0,3,(g0.ends.map zx).set e ([U e0.head,C.sl (H.length+1) [] 1 0 e0.next.length false,I e0.zf]),0⟩,⟨2,3,1,e0.next.map encI,0⟩]):=by
 obtain ⟨x,l,hx⟩:∃ x l,e0.next=x::l:=by
  cases hh:e0.next with
  | nil=>exact absurd hh h.ne
  | cons x l=>exact ⟨x,l,rfl⟩
 have hlen:l.length < 1000000000:=by
  have:=h.sm.2 e0 (dS h.at_);rw [hx] at this;exact cQ
 have:=oa (T0 g0.ends e e0 h.at_ h.sm.1 (fun y hy=>Jy y (h.sm.2 y hy)) (T4 e0 x l hx hlen)) (zc (zj (zA (enc:=zx) (fun _=>rfl) rfl _ _)) rfl) rfl H hf
 have e9:[(⟨1,0,3,(g0.ends.map zx).set e ([U e0.head,C.sl 1 [] 1 0 e0.next.length false,I e0.zf]),0⟩:Ob),⟨2,3,1,e0.next.map encI,0⟩].map (zG (ja [] H.length))=[⟨1,0,3,(g0.ends.map zx).set e ([U e0.head,C.sl (H.length+1) [] 1 0 e0.next.length false,I e0.zf]),0⟩,⟨2,3,1,e0.next.map encI,0⟩]:=by
  show zG _ ⟨1,0,3,_,0⟩::_=_;rw [zB (enc:=zx) (fun _=>rfl)]
  rfl
 rw [e9] at this;exact dB
def OD {g0:Gr} {e:Nat} {e0:En} (h:Ek g0 e e0):to 189 [] [.agg [],.agg (zE g0)] (.agg [U g0.zt,C.sl 0 [] 3 0 g0.ends.length false]) [⟨1,0,3,(g0.ends.map zx).set e ([U e0.head,C.sl 1 [] 1 0 e0.next.length false,I e0.zf]),0⟩,⟨2,3,1,e0.next.map encI,0⟩]:=by
 have own:∀ i,∀ r ∈ (g0.ends.map zx).set e ([U e0.head,C.sl i [] 1 0 e0.next.length false,I e0.zf]),∀ c ∈ r,zy c=true:=fun i=>zA (enc:=zx) (fun _=>rfl) rfl _ _
 have h1:to 189 [] [.agg [],.agg (zE g0)] (.agg [U g0.zt,C.sl 3 [] 3 0 g0.ends.length false]) [⟨1,243,0,[[]],0⟩,⟨1,134,2,[[U g0.zt,C.sl 3 [] 3 0 g0.ends.length false]],0⟩,⟨1,134,2,[[U g0.zt,C.sl 3 [] 3 0 g0.ends.length false]],0⟩,⟨1,0,3,(g0.ends.map zx).set e ([U e0.head,C.sl 4 [] 1 0 e0.next.length false,I e0.zf]),0⟩,⟨2,3,1,e0.next.map encI,0⟩]:=by
  refine zb.zT (fn:=f189) func189 rfl (uH ?_);refine ⟨_,_,Vo h _ rfl,dd ?_⟩;exact uJ
 refine h1.mP (fun B hB _=>?_) (gF _);have hw:=zp.ed (B:=B) [3,4] [0] [.agg [U g0.zt,C.sl 3 [] 3 0 g0.ends.length false]] [⟨1,243,0,[[]],0⟩,⟨1,134,2,[[U g0.zt,C.sl 3 [] 3 0 g0.ends.length false]],0⟩,⟨1,134,2,[[U g0.zt,C.sl 3 [] 3 0 g0.ends.length false]],0⟩,⟨1,0,3,(g0.ends.map zx).set e ([U e0.head,C.sl 4 [] 1 0 e0.next.length false,I e0.zf]),0⟩,⟨2,3,1,e0.next.map encI,0⟩] (by rw [show B=0 from aq hB];rfl) rfl rfl (zc rfl (zc rfl (zc rfl (zc (zj (own 4)) rfl))))
 have e:xC [3,4] [⟨1,243,0,[[]],0⟩,⟨1,134,2,[[U g0.zt,C.sl 3 [] 3 0 g0.ends.length false]],0⟩,⟨1,134,2,[[U g0.zt,C.sl 3 [] 3 0 g0.ends.length false]],0⟩,⟨1,0,3,(g0.ends.map zx).set e ([U e0.head,C.sl 4 [] 1 0 e0.next.length false,I e0.zf]),0⟩,⟨2,3,1,e0.next.map encI,0⟩]=[⟨1,0,3,(g0.ends.map zx).set e ([U e0.head,C.sl 1 [] 1 0 e0.next.length false,I e0.zf]),0⟩,⟨2,3,1,e0.next.map encI,0⟩]:=by
  show zK [3,4] ⟨1,0,3,(g0.ends.map zx).set e ([U e0.head,C.sl 4 [] 1 0 e0.next.length false,I e0.zf]),0⟩::_=_;rw [zH (enc:=zx) (fun _=>rfl)]
  rfl
 rw [e] at hw;exact hw
def PS {g0:Gr} {e:Nat} {e0:En} (h:Ek g0 e e0) (H:zl) (hf:qS H=true):to 189 H [.agg [],.agg (zE g0)] (.agg ([U g0.zt,C.sl H.length [] 3 0 g0.ends.length false])) (H++[⟨1,0,3,(g0.ends.map zx).set e ([U e0.head,C.sl (H.length+1) [] 1 0 e0.next.length false,I e0.zf]),0⟩,⟨2,3,1,e0.next.map encI,0⟩]):=by
 have:=oa (OD h) (zc (zj (zA (enc:=zx) (fun _=>rfl) rfl _ _)) rfl) rfl H hf
 have e9:[(⟨1,0,3,(g0.ends.map zx).set e ([U e0.head,C.sl 1 [] 1 0 e0.next.length false,I e0.zf]),0⟩:Ob),⟨2,3,1,e0.next.map encI,0⟩].map (zG (ja [] H.length))=[⟨1,0,3,(g0.ends.map zx).set e ([U e0.head,C.sl (H.length+1) [] 1 0 e0.next.length false,I e0.zf]),0⟩,⟨2,3,1,e0.next.map encI,0⟩]:=by
  show zG _ ⟨1,0,3,_,0⟩::_=_;rw [zB (enc:=zx) (fun _=>rfl)]
  rfl
 rw [e9] at this;exact dB
def T1 (e0:En) (e:Nat) (l:List Gr) (g:Nat) (g0:Gr) (hv:l[g]?= some g0) (hl:l.length < 1000000000) (hp:∀ x ∈ l,to 189 [] [.agg [],.agg (zE x)] (.agg (zE x)) [])
  (hA:∀ H,qS H=true->to 189 H [.agg [],.agg (zE g0)] (.agg ([U g0.zt,C.sl H.length [] 3 0 g0.ends.length false])) (H++[⟨1,0,3,(g0.ends.map zx).set e ([U e0.head,C.sl (H.length+1) [] 1 0 e0.next.length false,I e0.zf]),0⟩,⟨2,3,1,e0.next.map encI,0⟩])):
  to 188 [] [lG l,.fn 189 [] [],.agg []] (.sl 0 [] 2 0 l.length false) [⟨1,0,2,(l.map zE).set g ([U g0.zt,C.sl 1 [] 3 0 g0.ends.length false]),0⟩,⟨1,0,3,(g0.ends.map zx).set e ([U e0.head,C.sl 2 [] 1 0 e0.next.length false,I e0.zf]),0⟩,⟨2,3,1,e0.next.map encI,0⟩]:=by
 have m1:(l.map zE).length=l.length:=dV ..;have hvl:=(dP.1 hv).1
 have h1:to 188 [] [lG l,.fn 189 [] [],.agg []] (.sl 1 [] 2 0 l.length false) [⟨1,243,0,[[]],0⟩,⟨1,0,2,(l.map zE).set g ([U g0.zt,C.sl 3 [] 3 0 g0.ends.length false]),0⟩,⟨1,134,2,[zE g0],0⟩,⟨1,0,3,(g0.ends.map zx).set e ([U e0.head,C.sl 4 [] 1 0 e0.next.length false,I e0.zf]),0⟩,⟨2,3,1,e0.next.map encI,0⟩]:=by
  refine zb.zT (fn:=f188) func188 rfl (uH ?_);rw [m1];refine ⟨rfl,aw,by show (32:Int) * _<=_;omega,aw,dd ?_⟩;rw [m1,toNat_cast];have ZZ:List C:=([U 0,.u1 1 0 []]:List C);refine zW.seq l.length (fun k=>((lG l)::.fn 189 [] []::.za::.za::.za::.ref 0 [] 0 0 0::.u1 1 0 []::.sl 1 [] 2 0 l.length false::.za::.za::.za::.za::.za::(lG l)::I l.length::I k::hZ ([.za,.za,.za,.za,.za]))) (fun k=>if k<=g then [⟨1,243,0,[[]],0⟩,⟨1,0,2,((l.map zE).set g ([U g0.zt,C.sl 3 [] 3 0 g0.ends.length false])).take k++(List.replicate l.length ([U 0,.u1 1 0 []]:List C)).drop k,0⟩] else [⟨1,243,0,[[]],0⟩,⟨1,0,2,((l.map zE).set g ([U g0.zt,C.sl 3 [] 3 0 g0.ends.length false])).take k++(List.replicate l.length ([U 0,.u1 1 0 []]:List C)).drop k,0⟩,⟨1,134,2,[zE g0],0⟩,⟨1,0,3,(g0.ends.map zx).set e ([U e0.head,C.sl 4 [] 1 0 e0.next.length false,I e0.zf]),0⟩,⟨2,3,1,e0.next.map encI,0⟩]) (fun k=>True) ?_ trivial (fun k hk hr=>?_) (fun hr=>?_)
  ·rw [dU (gF _)];refine zp.trans (zp.Bs 1 rfl fun r hr c hc=>?_) (cC);rw [gQ hr] at hc;exact dZ.1 (rfl:([U 0,.u1 1 0 []]:List C).all zy=true) c hc
  ·obtain ⟨x,hx⟩:∃ x,x=l[k]:=⟨_,rfl⟩;have hx2:l[k]?= some x:=by rw [dQ hk,hx]
   have hxm:x ∈ l:=bN
   have hg:(l.map zE)[k]?= some (zE x):=by rw [dT,hx2];rfl
   have e1:0+(k:Int).toNat=k:=aj
   have low:∀ n j,j<=g∨3 < n->∀ r ∈ ((l.map zE).set g ([U g0.zt,C.sl 3 [] 3 0 g0.ends.length false])).take j++(List.replicate l.length ([U 0,.u1 1 0 []]:List C)).drop j,∀ c ∈ r,q8 n 9 c=true:=fun n j h=>vZ (enc:=zE) (fun _=>rfl) rfl l l.length (h.imp_right fun h=>by simp [q8,qN];omega)
   have own:∀ j,∀ r ∈ ((l.map zE).set g ([U g0.zt,C.sl 3 [] 3 0 g0.ends.length false])).take j++(List.replicate l.length ([U 0,.u1 1 0 []]:List C)).drop j,∀ c ∈ r,zy c=true:=fun j=>vZ (enc:=zE) (fun _=>rfl) rfl l l.length (.inr rfl)
   by_cases hkv:k=g
   ·subst hkv;obtain rfl:g0=x:=by rw [hv] at hx2;exact gk hx2
    have hF:((l.map zE).set k ([U g0.zt,C.sl 3 [] 3 0 g0.ends.length false]))[k]?= some ([U g0.zt,C.sl 3 [] 3 0 g0.ends.length false]):=by rw [gj,dU rfl,dU (aq hk)]
    rw [dU (gf _),dR aw];conv=>whnf
    refine uF ?_;(refine tf hg ?_)
    refine ⟨_,_,hA _ (zc rfl (zc (zj (own k)) rfl)),dd ?_⟩;exact cT
   ·have hF:((l.map zE).set g ([U g0.zt,C.sl 3 [] 3 0 g0.ends.length false]))[k]?= some (zE x):=by rw [gZ (fun h=>hkv h.symm)];exact hg
    by_cases u4:k < g
    ·rw [dU aw,dU aw];conv=>whnf
     refine uF ?_;(refine tf hg ?_)
     refine ah (hp x hxm) ?_;refine ⟨aw,aA,dd ?_⟩;rw [e1];refine ⟨_,j9 aj hk,rfl,dd ?_⟩;refine .inl ⟨rfl,?_,trivial⟩;rw [zu aw,<- qV hF hk];refine zp.xx 2 hU rfl rfl rfl (jU rfl (yj ?_)) rfl;have lw:=low 2 (k+1) (.inl aw);rw [<- qV (z:=([U 0,.u1 1 0 []]:List C)) (n:=l.length) hF hk] at lw;exact lw
    ·rw [dR aw,dR aw];conv=>whnf
     refine uF ?_;(refine tf hg ?_)
     refine ah (hp x hxm) ?_;refine ⟨aw,aA,dd ?_⟩;rw [e1];refine ⟨_,j9 aj hk,rfl,dd ?_⟩;refine .inl ⟨rfl,?_,trivial⟩;rw [zu aw,<- qV hF hk];refine zp.xx 5 hU rfl rfl rfl (jU rfl (jU (yj ?_) (jU rfl (jU (yj (zA (enc:=zx) (fun _=>rfl) rfl _ _)) rfl)))) rfl;have lw:=low 5 (k+1) (.inr aw);rw [<- qV (z:=([U 0,.u1 1 0 []]:List C)) (n:=l.length) hF hk] at lw;exact lw
  ·exact dO
 refine h1.mP (fun B h _=>?_) (gF _);have hw:=zp.ed (B:=B) [1,3,4] [0] [.sl 1 [] 2 0 l.length false] [⟨1,243,0,[[]],0⟩,⟨1,0,2,(l.map zE).set g ([U g0.zt,C.sl 3 [] 3 0 g0.ends.length false]),0⟩,⟨1,134,2,[zE g0],0⟩,⟨1,0,3,(g0.ends.map zx).set e ([U e0.head,C.sl 4 [] 1 0 e0.next.length false,I e0.zf]),0⟩,⟨2,3,1,e0.next.map encI,0⟩] tK rfl rfl (zc rfl (zc (zj (zA (enc:=zE) (fun _=>rfl) rfl l g)) (zc rfl (zc (zj (zA (enc:=zx) (fun _=>rfl) rfl _ _)) rfl))))
 have e:xC [1,3,4] [⟨1,243,0,[[]],0⟩,⟨1,0,2,(l.map zE).set g ([U g0.zt,C.sl 3 [] 3 0 g0.ends.length false]),0⟩,⟨1,134,2,[zE g0],0⟩,⟨1,0,3,(g0.ends.map zx).set e ([U e0.head,C.sl 4 [] 1 0 e0.next.length false,I e0.zf]),0⟩,⟨2,3,1,e0.next.map encI,0⟩]=[⟨1,0,2,(l.map zE).set g ([U g0.zt,C.sl 1 [] 3 0 g0.ends.length false]),0⟩,⟨1,0,3,(g0.ends.map zx).set e ([U e0.head,C.sl 2 [] 1 0 e0.next.length false,I e0.zf]),0⟩,⟨2,3,1,e0.next.map encI,0⟩]:=by
  show zK [1,3,4] ⟨1,0,2,(l.map zE).set g ([U g0.zt,C.sl 3 [] 3 0 g0.ends.length false]),0⟩::_=_;rw [zH (enc:=zE) (fun _=>rfl)];show _::zK [1,3,4] ⟨1,0,3,(g0.ends.map zx).set e ([U e0.head,C.sl 4 [] 1 0 e0.next.length false,I e0.zf]),0⟩::_=_;rw [zH (enc:=zx) (fun _=>rfl)];rfl
 rw [e] at hw;exact hw
structure El (v0:u9) (g:Nat) (g0:Gr) (e:Nat) (e0:En):Prop extends Ek g0 e e0 where
 il:Em v0
 eG:v0.zm[g]?= some g0
def Vq {v0:u9} {g:Nat} {g0:Gr} {e:Nat} {e0:En} (h:El v0 g g0 e e0) (H:zl) (hf:qS H=true):to 188 H [lG v0.zm,.fn 189 [] [],.agg []] (.sl H.length [] 2 0 v0.zm.length false) (H++[⟨1,0,2,(v0.zm.map zE).set g ([U g0.zt,C.sl (H.length+1) [] 3 0 g0.ends.length false]),0⟩,⟨1,0,3,(g0.ends.map zx).set e ([U e0.head,C.sl (H.length+2) [] 1 0 e0.next.length false,I e0.zf]),0⟩,⟨2,3,1,e0.next.map encI,0⟩]):=by
 have:=oa (T1 e0 e v0.zm g g0 h.eG h.il.1 (fun y hy=>II y (h.il.2 y hy)) (PS h.toEk)) (zc (zj (zA (enc:=zE) (fun _=>rfl) rfl _ _)) (zc (zj (zA (enc:=zx) (fun _=>rfl) rfl _ _)) rfl)) rfl H hf
 have e9:[(⟨1,0,2,(v0.zm.map zE).set g ([U g0.zt,C.sl 1 [] 3 0 g0.ends.length false]),0⟩:Ob),⟨1,0,3,(g0.ends.map zx).set e ([U e0.head,C.sl 2 [] 1 0 e0.next.length false,I e0.zf]),0⟩,⟨2,3,1,e0.next.map encI,0⟩].map (zG (ja [] H.length))=[⟨1,0,2,(v0.zm.map zE).set g ([U g0.zt,C.sl (H.length+1) [] 3 0 g0.ends.length false]),0⟩,⟨1,0,3,(g0.ends.map zx).set e ([U e0.head,C.sl (H.length+2) [] 1 0 e0.next.length false,I e0.zf]),0⟩,⟨2,3,1,e0.next.map encI,0⟩]:=by
  show zG _ ⟨1,0,2,_,0⟩::zG _ ⟨1,0,3,_,0⟩::_=_;rw [zB (enc:=zE) (fun _=>rfl),zB (enc:=zx) (fun _=>rfl)]
  rfl
 rw [e9] at this;exact dB
def Oa {v0:u9} {g:Nat} {g0:Gr} {e:Nat} {e0:En} (h:El v0 g g0 e e0):to 157 [] [.agg [],.agg (zF v0)] (.agg (qN v0.snap++[C.sl 0 [] 2 0 v0.zm.length false,Bo v0.qn])) [⟨1,0,2,(v0.zm.map zE).set g ([U g0.zt,C.sl 1 [] 3 0 g0.ends.length false]),0⟩,⟨1,0,3,(g0.ends.map zx).set e ([U e0.head,C.sl 2 [] 1 0 e0.next.length false,I e0.zf]),0⟩,⟨2,3,1,e0.next.map encI,0⟩]:=by
 have h1:to 157 [] [.agg [],.agg (zF v0)] (.agg (qN v0.snap++[C.sl 3 [] 2 0 v0.zm.length false,Bo v0.qn])) [⟨1,243,0,[[]],0⟩,⟨1,107,5,[(qN v0.snap++[C.sl 3 [] 2 0 v0.zm.length false,Bo v0.qn])],0⟩,⟨1,107,5,[(qN v0.snap++[C.sl 3 [] 2 0 v0.zm.length false,Bo v0.qn])],0⟩,⟨1,0,2,(v0.zm.map zE).set g ([U g0.zt,C.sl 4 [] 3 0 g0.ends.length false]),0⟩,⟨1,0,3,(g0.ends.map zx).set e ([U e0.head,C.sl 5 [] 1 0 e0.next.length false,I e0.zf]),0⟩,⟨2,3,1,e0.next.map encI,0⟩]:=by
  refine zb.zT (fn:=f157) func157 rfl (uH ?_);refine ⟨_,_,Vq h _ rfl,dd ?_⟩;exact uJ
 refine h1.mP (fun B hB _=>?_) (gF _);have hw:=zp.ed (B:=B) [3,4,5] [0] [.agg (qN v0.snap++[C.sl 3 [] 2 0 v0.zm.length false,Bo v0.qn])] [⟨1,243,0,[[]],0⟩,⟨1,107,5,[(qN v0.snap++[C.sl 3 [] 2 0 v0.zm.length false,Bo v0.qn])],0⟩,⟨1,107,5,[(qN v0.snap++[C.sl 3 [] 2 0 v0.zm.length false,Bo v0.qn])],0⟩,⟨1,0,2,(v0.zm.map zE).set g ([U g0.zt,C.sl 4 [] 3 0 g0.ends.length false]),0⟩,⟨1,0,3,(g0.ends.map zx).set e ([U e0.head,C.sl 5 [] 1 0 e0.next.length false,I e0.zf]),0⟩,⟨2,3,1,e0.next.map encI,0⟩] (by rw [show B=0 from aq hB];rfl) rfl rfl (zc rfl (zc rfl (zc rfl (zc (zj (zA (enc:=zE) (fun _=>rfl) rfl _ _)) (zc (zj (zA (enc:=zx) (fun _=>rfl) rfl _ _)) rfl)))))
 have e:xC [3,4,5] [⟨1,243,0,[[]],0⟩,⟨1,107,5,[(qN v0.snap++[C.sl 3 [] 2 0 v0.zm.length false,Bo v0.qn])],0⟩,⟨1,107,5,[(qN v0.snap++[C.sl 3 [] 2 0 v0.zm.length false,Bo v0.qn])],0⟩,⟨1,0,2,(v0.zm.map zE).set g ([U g0.zt,C.sl 4 [] 3 0 g0.ends.length false]),0⟩,⟨1,0,3,(g0.ends.map zx).set e ([U e0.head,C.sl 5 [] 1 0 e0.next.length false,I e0.zf]),0⟩,⟨2,3,1,e0.next.map encI,0⟩]=[⟨1,0,2,(v0.zm.map zE).set g ([U g0.zt,C.sl 1 [] 3 0 g0.ends.length false]),0⟩,⟨1,0,3,(g0.ends.map zx).set e ([U e0.head,C.sl 2 [] 1 0 e0.next.length false,I e0.zf]),0⟩,⟨2,3,1,e0.next.map encI,0⟩]:=by
  show zK [3,4,5] ⟨1,0,2,(v0.zm.map zE).set g ([U g0.zt,C.sl 4 [] 3 0 g0.ends.length false]),0⟩::zK [3,4,5] ⟨1,0,3,(g0.ends.map zx).set e ([U e0.head,C.sl 5 [] 1 0 e0.next.length false,I e0.zf]),0⟩::_=_;rw [zH (enc:=zE) (fun _=>rfl),zH (enc:=zx) (fun _=>rfl)]
  rfl
 rw [e] at hw;exact hw
def Ph {v0:u9} {g:Nat} {g0:Gr} {e:Nat} {e0:En} (h:El v0 g g0 e e0) (H:zl) (hf:qS H=true):to 157 H [.agg [],.agg (zF v0)] (.agg ((qN v0.snap++[C.sl H.length [] 2 0 v0.zm.length false,Bo v0.qn]))) (H++[⟨1,0,2,(v0.zm.map zE).set g ([U g0.zt,C.sl (H.length+1) [] 3 0 g0.ends.length false]),0⟩,⟨1,0,3,(g0.ends.map zx).set e ([U e0.head,C.sl (H.length+2) [] 1 0 e0.next.length false,I e0.zf]),0⟩,⟨2,3,1,e0.next.map encI,0⟩]):=by
 have:=oa (Oa h) (zc (zj (zA (enc:=zE) (fun _=>rfl) rfl _ _)) (zc (zj (zA (enc:=zx) (fun _=>rfl) rfl _ _)) rfl)) rfl H hf
 have e9:[(⟨1,0,2,(v0.zm.map zE).set g ([U g0.zt,C.sl 1 [] 3 0 g0.ends.length false]),0⟩:Ob),⟨1,0,3,(g0.ends.map zx).set e ([U e0.head,C.sl 2 [] 1 0 e0.next.length false,I e0.zf]),0⟩,⟨2,3,1,e0.next.map encI,0⟩].map (zG (ja [] H.length))=[⟨1,0,2,(v0.zm.map zE).set g ([U g0.zt,C.sl (H.length+1) [] 3 0 g0.ends.length false]),0⟩,⟨1,0,3,(g0.ends.map zx).set e ([U e0.head,C.sl (H.length+2) [] 1 0 e0.next.length false,I e0.zf]),0⟩,⟨2,3,1,e0.next.map encI,0⟩]:=by
  show zG _ ⟨1,0,2,_,0⟩::zG _ ⟨1,0,3,_,0⟩::_=_;rw [zB (enc:=zE) (fun _=>rfl),zB (enc:=zx) (fun _=>rfl)]
  rfl
 rw [e9] at this;exact dB
def T3 (g0:Gr) (g:Nat) (e0:En) (e:Nat) (l:List u9) (v:Nat) (v0:u9) (hv:l[v]?= some v0) (hl:l.length < 1000000000) (hp:∀ x ∈ l,to 157 [] [.agg [],.agg (zF x)] (.agg (zF x)) [])
  (hA:∀ H,qS H=true->to 157 H [.agg [],.agg (zF v0)] (.agg ((qN v0.snap++[C.sl H.length [] 2 0 v0.zm.length false,Bo v0.qn]))) (H++[⟨1,0,2,(v0.zm.map zE).set g ([U g0.zt,C.sl (H.length+1) [] 3 0 g0.ends.length false]),0⟩,⟨1,0,3,(g0.ends.map zx).set e ([U e0.head,C.sl (H.length+2) [] 1 0 e0.next.length false,I e0.zf]),0⟩,⟨2,3,1,e0.next.map encI,0⟩])):
  to 156 [] [lV l,.fn 157 [] [],.agg []] (.sl 0 [] 5 0 l.length false) [⟨1,0,5,(l.map zF).set v ((qN v0.snap++[C.sl 1 [] 2 0 v0.zm.length false,Bo v0.qn])),0⟩,⟨1,0,2,(v0.zm.map zE).set g ([U g0.zt,C.sl 2 [] 3 0 g0.ends.length false]),0⟩,⟨1,0,3,(g0.ends.map zx).set e ([U e0.head,C.sl 3 [] 1 0 e0.next.length false,I e0.zf]),0⟩,⟨2,3,1,e0.next.map encI,0⟩]:=by
 have m1:(l.map zF).length=l.length:=dV ..;have hvl:=(dP.1 hv).1
 have h1:to 156 [] [lV l,.fn 157 [] [],.agg []] (.sl 1 [] 5 0 l.length false) [⟨1,243,0,[[]],0⟩,⟨1,0,5,(l.map zF).set v ((qN v0.snap++[C.sl 3 [] 2 0 v0.zm.length false,Bo v0.qn])),0⟩,⟨1,107,5,[zF v0],0⟩,⟨1,0,2,(v0.zm.map zE).set g ([U g0.zt,C.sl 4 [] 3 0 g0.ends.length false]),0⟩,⟨1,0,3,(g0.ends.map zx).set e ([U e0.head,C.sl 5 [] 1 0 e0.next.length false,I e0.zf]),0⟩,⟨2,3,1,e0.next.map encI,0⟩]:=by
  refine zb.zT (fn:=f156) func156 rfl (uH ?_);rw [m1];refine ⟨rfl,aw,by show (104:Int) * _<=_;omega,aw,dd ?_⟩;rw [m1,toNat_cast];have ZZ:List C:=([.u1 1 0 [],.u1 1 0 [],.u1 1 0 [],.u1 1 0 [],Bo false]:List C);refine zW.seq l.length (fun k=>((lV l)::.fn 157 [] []::.za::.za::.za::.ref 0 [] 0 0 0::.u1 1 0 []::.sl 1 [] 5 0 l.length false::.za::.za::.za::.za::.za::(lV l)::I l.length::I k::hZ ([.za,.za,.za,.za,.za]))) (fun k=>if k<=v then [⟨1,243,0,[[]],0⟩,⟨1,0,5,((l.map zF).set v ((qN v0.snap++[C.sl 3 [] 2 0 v0.zm.length false,Bo v0.qn]))).take k++(List.replicate l.length ([.u1 1 0 [],.u1 1 0 [],.u1 1 0 [],.u1 1 0 [],Bo false]:List C)).drop k,0⟩] else [⟨1,243,0,[[]],0⟩,⟨1,0,5,((l.map zF).set v ((qN v0.snap++[C.sl 3 [] 2 0 v0.zm.length false,Bo v0.qn]))).take k++(List.replicate l.length ([.u1 1 0 [],.u1 1 0 [],.u1 1 0 [],.u1 1 0 [],Bo false]:List C)).drop k,0⟩,⟨1,107,5,[zF v0],0⟩,⟨1,0,2,(v0.zm.map zE).set g ([U g0.zt,C.sl 4 [] 3 0 g0.ends.length false]),0⟩,⟨1,0,3,(g0.ends.map zx).set e ([U e0.head,C.sl 5 [] 1 0 e0.next.length false,I e0.zf]),0⟩,⟨2,3,1,e0.next.map encI,0⟩]) (fun k=>True) ?_ trivial (fun k hk hr=>?_) (fun hr=>?_)
  ·rw [dU (gF _)];refine zp.trans (zp.Bs 1 rfl fun r hr c hc=>?_) (cC);rw [gQ hr] at hc;exact dZ.1 (rfl:([.u1 1 0 [],.u1 1 0 [],.u1 1 0 [],.u1 1 0 [],Bo false]:List C).all zy=true) c hc
  ·obtain ⟨x,hx⟩:∃ x,x=l[k]:=⟨_,rfl⟩;have hx2:l[k]?= some x:=by rw [dQ hk,hx]
   have hxm:x ∈ l:=bN
   have hg:(l.map zF)[k]?= some (zF x):=by rw [dT,hx2];rfl
   have e1:0+(k:Int).toNat=k:=aj
   have low:∀ n j,j<=v∨3 < n->∀ r ∈ ((l.map zF).set v ((qN v0.snap++[C.sl 3 [] 2 0 v0.zm.length false,Bo v0.qn]))).take j++(List.replicate l.length ([.u1 1 0 [],.u1 1 0 [],.u1 1 0 [],.u1 1 0 [],Bo false]:List C)).drop j,∀ c ∈ r,q8 n 9 c=true:=fun n j h=>vZ (enc:=zF) (fun _=>rfl) rfl l l.length (h.imp_right fun h=>by simp [q8,qN];omega)
   have own:∀ j,∀ r ∈ ((l.map zF).set v ((qN v0.snap++[C.sl 3 [] 2 0 v0.zm.length false,Bo v0.qn]))).take j++(List.replicate l.length ([.u1 1 0 [],.u1 1 0 [],.u1 1 0 [],.u1 1 0 [],Bo false]:List C)).drop j,∀ c ∈ r,zy c=true:=fun j=>vZ (enc:=zF) (fun _=>rfl) rfl l l.length (.inr rfl)
   by_cases hkv:k=v
   ·subst hkv;obtain rfl:v0=x:=by rw [hv] at hx2;exact gk hx2
    have hF:((l.map zF).set k ((qN v0.snap++[C.sl 3 [] 2 0 v0.zm.length false,Bo v0.qn])))[k]?= some ((qN v0.snap++[C.sl 3 [] 2 0 v0.zm.length false,Bo v0.qn])):=by rw [gj,dU rfl,dU (aq hk)]
    rw [dU (gf _),dR aw];conv=>whnf
    refine uF ?_;(refine tf hg ?_)
    refine ⟨_,_,hA _ (zc rfl (zc (zj (own k)) rfl)),dd ?_⟩;exact cT
   ·have hF:((l.map zF).set v ((qN v0.snap++[C.sl 3 [] 2 0 v0.zm.length false,Bo v0.qn])))[k]?= some (zF x):=by rw [gZ (fun h=>hkv h.symm)];exact hg
    by_cases u4:k < v
    ·rw [dU aw,dU aw];conv=>whnf
     refine uF ?_;(refine tf hg ?_)
     refine ah (hp x hxm) ?_;refine ⟨aw,aA,dd ?_⟩;rw [e1];refine ⟨_,j9 aj hk,rfl,dd ?_⟩;refine .inl ⟨rfl,?_,trivial⟩;rw [zu aw,<- qV hF hk];refine zp.xx 2 hU rfl rfl rfl (jU rfl (yj ?_)) rfl;have lw:=low 2 (k+1) (.inl aw);rw [<- qV (z:=([.u1 1 0 [],.u1 1 0 [],.u1 1 0 [],.u1 1 0 [],Bo false]:List C)) (n:=l.length) hF hk] at lw;exact lw
    ·rw [dR aw,dR aw];conv=>whnf
     refine uF ?_;(refine tf hg ?_)
     refine ah (hp x hxm) ?_;refine ⟨aw,aA,dd ?_⟩;rw [e1];refine ⟨_,j9 aj hk,rfl,dd ?_⟩;refine .inl ⟨rfl,?_,trivial⟩;rw [zu aw,<- qV hF hk];refine zp.xx 6 hU rfl rfl rfl (jU rfl (jU (yj ?_) (jU rfl (jU (yj (zA (enc:=zE) (fun _=>rfl) rfl _ _)) (jU (yj (zA (enc:=zx) (fun _=>rfl) rfl _ _)) rfl))))) rfl;have lw:=low 6 (k+1) (.inr aw);rw [<- qV (z:=([.u1 1 0 [],.u1 1 0 [],.u1 1 0 [],.u1 1 0 [],Bo false]:List C)) (n:=l.length) hF hk] at lw;exact lw
  ·exact dO
 refine h1.mP (fun B h _=>?_) (gF _);have hw:=zp.ed (B:=B) [1,3,4,5] [0] [.sl 1 [] 5 0 l.length false] [⟨1,243,0,[[]],0⟩,⟨1,0,5,(l.map zF).set v ((qN v0.snap++[C.sl 3 [] 2 0 v0.zm.length false,Bo v0.qn])),0⟩,⟨1,107,5,[zF v0],0⟩,⟨1,0,2,(v0.zm.map zE).set g ([U g0.zt,C.sl 4 [] 3 0 g0.ends.length false]),0⟩,⟨1,0,3,(g0.ends.map zx).set e ([U e0.head,C.sl 5 [] 1 0 e0.next.length false,I e0.zf]),0⟩,⟨2,3,1,e0.next.map encI,0⟩] tK rfl rfl (zc rfl (zc (zj (zA (enc:=zF) (fun _=>rfl) rfl l v)) (zc rfl (zc (zj (zA (enc:=zE) (fun _=>rfl) rfl _ _)) (zc (zj (zA (enc:=zx) (fun _=>rfl) rfl _ _)) rfl)))))
 have e:xC [1,3,4,5] [⟨1,243,0,[[]],0⟩,⟨1,0,5,(l.map zF).set v ((qN v0.snap++[C.sl 3 [] 2 0 v0.zm.length false,Bo v0.qn])),0⟩,⟨1,107,5,[zF v0],0⟩,⟨1,0,2,(v0.zm.map zE).set g ([U g0.zt,C.sl 4 [] 3 0 g0.ends.length false]),0⟩,⟨1,0,3,(g0.ends.map zx).set e ([U e0.head,C.sl 5 [] 1 0 e0.next.length false,I e0.zf]),0⟩,⟨2,3,1,e0.next.map encI,0⟩]=[⟨1,0,5,(l.map zF).set v ((qN v0.snap++[C.sl 1 [] 2 0 v0.zm.length false,Bo v0.qn])),0⟩,⟨1,0,2,(v0.zm.map zE).set g ([U g0.zt,C.sl 2 [] 3 0 g0.ends.length false]),0⟩,⟨1,0,3,(g0.ends.map zx).set e ([U e0.head,C.sl 3 [] 1 0 e0.next.length false,I e0.zf]),0⟩,⟨2,3,1,e0.next.map encI,0⟩]:=by
  show zK [1,3,4,5] ⟨1,0,5,(l.map zF).set v ((qN v0.snap++[C.sl 3 [] 2 0 v0.zm.length false,Bo v0.qn])),0⟩::_=_;rw [zH (enc:=zF) (fun _=>rfl)];show _::zK [1,3,4,5] ⟨1,0,2,(v0.zm.map zE).set g ([U g0.zt,C.sl 4 [] 3 0 g0.ends.length false]),0⟩::zK [1,3,4,5] ⟨1,0,3,(g0.ends.map zx).set e ([U e0.head,C.sl 5 [] 1 0 e0.next.length false,I e0.zf]),0⟩::_=_;rw [zH (enc:=zE) (fun _=>rfl),zH (enc:=zx) (fun _=>rfl)];rfl
 rw [e] at hw;exact hw
structure oX (vs:List u9) (v:Nat) (v0:u9) (g:Nat) (g0:Gr) (e:Nat) (e0:En):Prop extends El v0 g g0 e e0 where
 M5:vs.length < 1000000000∧∀ v ∈ vs,Em v
 eX:vs[v]?= some v0
def Vt {vs:List u9} {v:Nat} {v0:u9} {g:Nat} {g0:Gr} {e:Nat} {e0:En} (h:oX vs v v0 g g0 e e0) (H:zl) (hf:qS H=true):to 156 H [lV vs,.fn 157 [] [],.agg []] (.sl H.length [] 5 0 vs.length false) (H++[⟨1,0,5,(vs.map zF).set v ((qN v0.snap++[C.sl (H.length+1) [] 2 0 v0.zm.length false,Bo v0.qn])),0⟩,⟨1,0,2,(v0.zm.map zE).set g ([U g0.zt,C.sl (H.length+2) [] 3 0 g0.ends.length false]),0⟩,⟨1,0,3,(g0.ends.map zx).set e ([U e0.head,C.sl (H.length+3) [] 1 0 e0.next.length false,I e0.zf]),0⟩,⟨2,3,1,e0.next.map encI,0⟩]):=by
 have:=oa (T3 g0 g e0 e vs v v0 h.eX h.M5.1 (fun y hy=>jM y (h.M5.2 y hy)) (Ph h.toEl)) (zc (zj (zA (enc:=zF) (fun _=>rfl) rfl _ _)) (zc (zj (zA (enc:=zE) (fun _=>rfl) rfl _ _)) (zc (zj (zA (enc:=zx) (fun _=>rfl) rfl _ _)) rfl))) rfl H hf
 have e9:[(⟨1,0,5,(vs.map zF).set v ((qN v0.snap++[C.sl 1 [] 2 0 v0.zm.length false,Bo v0.qn])),0⟩:Ob),⟨1,0,2,(v0.zm.map zE).set g ([U g0.zt,C.sl 2 [] 3 0 g0.ends.length false]),0⟩,⟨1,0,3,(g0.ends.map zx).set e ([U e0.head,C.sl 3 [] 1 0 e0.next.length false,I e0.zf]),0⟩,⟨2,3,1,e0.next.map encI,0⟩].map (zG (ja [] H.length))=[⟨1,0,5,(vs.map zF).set v ((qN v0.snap++[C.sl (H.length+1) [] 2 0 v0.zm.length false,Bo v0.qn])),0⟩,⟨1,0,2,(v0.zm.map zE).set g ([U g0.zt,C.sl (H.length+2) [] 3 0 g0.ends.length false]),0⟩,⟨1,0,3,(g0.ends.map zx).set e ([U e0.head,C.sl (H.length+3) [] 1 0 e0.next.length false,I e0.zf]),0⟩,⟨2,3,1,e0.next.map encI,0⟩]:=by
  show zG _ ⟨1,0,5,_,0⟩::zG _ ⟨1,0,2,_,0⟩::zG _ ⟨1,0,3,_,0⟩::_=_;rw [zB (enc:=zF) (fun _=>rfl),zB (enc:=zE) (fun _=>rfl),zB (enc:=zx) (fun _=>rfl)]
  rfl
 rw [e9] at this;exact dB
def wP (l:List (List Int)) (hl:l.length < 1000000000) (hp:∀ x ∈ l,to 160 [] [.agg [],lU x] (lU x) []):to 159 [] [eM l,.fn 160 [] [],.agg []] (.sl 0 [] 1 0 l.length false) [⟨2,116,1,l.map zN,0⟩]:=by
 have m1:(l.map zN).length=l.length:=dV ..;refine zb.zT (fn:=f159) func159 rfl (uH ?_);rw [m1];refine ⟨rfl,aw,by show (24:Int) * _<=_;omega,aw,dd ?_⟩;rw [m1,toNat_cast];refine zW.seq l.length (fun k=>((eM l)::.fn 160 [] []::.za::.za::.za::.ref 0 [] 0 0 0::.u1 1 0 []::.sl 1 [] 1 0 l.length false::.za::.za::.za::.za::.za::(eM l)::I l.length::I k::hZ ([.za,.za,.za,.za,.za]))) (fun k=>[⟨1,243,0,[[]],0⟩,⟨2,116,1,(l.map zN).take k++(List.replicate l.length ([.u1 1 0 []]:List C)).drop k,0⟩]) (fun k=>True) ?_ trivial (fun k hk hr=>?_) (fun hr=>?_)
 ·exact cC
 ·obtain ⟨x,hx⟩:∃ x,x=l[k]:=⟨_,rfl⟩;have hx2:l[k]?= some x:=by rw [dQ hk,hx]
  have hg:(l.map zN)[k]?= some (zN x):=by rw [dT,hx2];rfl
  conv=>whnf
  refine uF ?_;(refine tf hg ?_)
  refine ah (hp x tE) ?_;refine ⟨aw,aA,dd ?_⟩;have e1:0+(k:Int).toNat=k:=aj
  rw [e1];refine ⟨_,j9 aj hk,rfl,dd ?_⟩;refine .inl ⟨rfl,?_,trivial⟩;have e2:=qV (z:=([.u1 1 0 []]:List C)) (n:=l.length) hg hk;rw [zu aw,<- e2];exact cE 2
 ·exact de
def QT (r0:List Int) (x:Int) (l:List Int) (he:r0=x::l) (hl:l.length < 1000000000):to 160 [] [.agg [],lU r0] (.sl 0 [] 1 0 r0.length false) [⟨2,43,1,r0.map jL,0⟩]:=by
 have h1:to 160 [] [.agg [],lU r0] (.sl 1 [] 1 0 r0.length false) [⟨1,243,0,[[]],0⟩,⟨2,43,1,r0.map jL,0⟩]:=by
  have hc:=TU x l hl;rw [<- he] at hc;refine zb.zT (fn:=f160) func160 rfl (uH ?_);refine af [] (hc) ?_;exact uJ
 exact h1.mP (fun B h _=>zp.ed [1] [0] _ _ tK rfl rfl rfl) (gF _)
def UH (r0:List Int) (x:Int) (l:List Int) (he:r0=x::l) (hl:l.length < 1000000000) (H:zl) (hf:qS H=true):to 160 H [.agg [],lU r0] (.sl H.length [] 1 0 r0.length false) (H++[⟨2,43,1,r0.map jL,0⟩]):=
 oa (QT r0 x l he hl) rfl rfl H hf
def Ar {P:Program} {f:FuncId} {fn:Func} {c:Code} {H2:zl} {args:List C} {r:C} (hf:P.funcs[f]?= some fn) (hb:fn.body=some c)
  (h:wpA P 0 c (entry fn args) [] fun ex t1 H1=>(ex=.ret∨ex=.normal)∧∃ s2 r1,zp 0 ⟨t1,H1⟩ s2∧kL P fn s2=some r1∧zp 0 ⟨[r1],s2.H⟩ ⟨[r],H2⟩):zb P f [] args r H2:=fun w E vs hh hl=>by
 have h1:qE P f [] args fun r1 H1=>zp 0 ⟨[r1],H1⟩ ⟨[r],H2⟩:=qE.zT hf hb h
 refine (h1 w E vs hh hl).mono ?_;rintro e w' ⟨r1,H1,v,E',hw,h0,h2,h3,g⟩;obtain ⟨E2,hs,g2⟩:=hw 0 w' E' ⟨#[v],[]⟩ ⟨h2,LL.one h3,gF _,gF _⟩;have hn2:=hs.heap.n;have hn0:E.n=0:=hh.n;refine ⟨v,E2,h0,hs.heap,hs.tmps.cons_inv.1,⟨⟨by rw [hn0];exact gF _,fun id hops hi=>by rw [hn0] at hi;omega,fun id hops hi=>by rw [hn0] at hi;omega,fun b o u hu=>g2.le.St _ _ _ (g.le.St _ _ _ hu),fun id k u hi hu=>by rw [hn0] at hi;omega⟩,g2.os.trans g.os,g2.tape.trans g.tape,g2.output.trans g.output,gY g.size g2.size,?_,?_,?_⟩⟩
 ·intro k hk ho;exact cX
 ·intro b o u hu;rcases g2.jP b o u hu with h1 | h1 | h1
  ·exact g.jP b o u h1
  ·exact .inr (.inl (gY g.size h1))
  ·rcases g.own b h1 with h4 | h4
   ·exact .inr (.inl h4)
   ·exact .inr (.inr h4)
 ·intro b hb;rcases g2.own b hb with h1 | h1
  ·exact .inl (gY g.size h1)
  ·exact g.own b h1
def qy (w:Wor) (h:qZ w):to 114 [] [Cw w] (Cw w) []:=by
 refine ab func114 ?_;refine ah (vc w.pins h.pins) ?_;refine af [] (wQ w.ze h.ze.1 fun v hv=>jM v (h.ze.2 v hv)) ?_;refine ah (vX w.zd h.zd) ?_;refine af [] (wP w.counts h.counts.1 fun r hr=>yg r (h.counts.2 r hr)) ?_;refine ah (AW w.zr h.zr) ?_;exact ⟨.inl rfl,_,(zp.zV 1 0 4 rfl rfl rfl rfl (.inr rfl) rfl aj (shut_map (enc:=zF) (fun _=>rfl) w.ze) (qa rfl)).trans (zp.zV 1 0 6 rfl rfl rfl rfl (.inr rfl) rfl aj (shut_map (enc:=zN) (fun _=>rfl) w.counts) (qa rfl)),rfl⟩
def T2 (l:List (List Int)) (t:Nat) (r0:(List Int)) (hv:l[t]?= some r0) (hl:l.length < 1000000000) (hp:∀ x ∈ l,to 160 [] [.agg [],lU x] (lU x) [])
  (hA:∀ H,qS H=true->to 160 H [.agg [],lU r0] (.sl H.length [] 1 0 r0.length false) (H++[⟨2,43,1,r0.map jL,0⟩])):
  to 159 [] [eM l,.fn 160 [] [],.agg []] (.sl 0 [] 1 0 l.length false) [⟨1,0,1,(l.map zN).set t ([C.sl 1 [] 1 0 r0.length false]),0⟩,⟨2,43,1,r0.map jL,0⟩]:=by
 have m1:(l.map zN).length=l.length:=dV ..;have hvl:=(dP.1 hv).1
 have h1:to 159 [] [eM l,.fn 160 [] [],.agg []] (.sl 1 [] 1 0 l.length false) [⟨1,243,0,[[]],0⟩,⟨1,0,1,(l.map zN).set t ([C.sl 2 [] 1 0 r0.length false]),0⟩,⟨2,43,1,r0.map jL,0⟩]:=by
  refine zb.zT (fn:=f159) func159 rfl (uH ?_);rw [m1];refine ⟨rfl,aw,by show (24:Int) * _<=_;omega,aw,dd ?_⟩;rw [m1,toNat_cast];have ZZ:List C:=([.u1 1 0 []]:List C);refine zW.seq l.length (fun k=>((eM l)::.fn 160 [] []::.za::.za::.za::.ref 0 [] 0 0 0::.u1 1 0 []::.sl 1 [] 1 0 l.length false::.za::.za::.za::.za::.za::(eM l)::I l.length::I k::hZ ([.za,.za,.za,.za,.za]))) (fun k=>if k<=t then [⟨1,243,0,[[]],0⟩,⟨1,0,1,((l.map zN).set t ([C.sl 2 [] 1 0 r0.length false])).take k++(List.replicate l.length ([.u1 1 0 []]:List C)).drop k,0⟩] else [⟨1,243,0,[[]],0⟩,⟨1,0,1,((l.map zN).set t ([C.sl 2 [] 1 0 r0.length false])).take k++(List.replicate l.length ([.u1 1 0 []]:List C)).drop k,0⟩,⟨2,43,1,r0.map jL,0⟩]) (fun k=>True) ?_ trivial (fun k hk hr=>?_) (fun hr=>?_)
  ·rw [dU (gF _)];refine zp.trans (zp.Bs 1 rfl fun r hr c hc=>?_) (cC);rw [gQ hr] at hc;exact dZ.1 (rfl:([.u1 1 0 []]:List C).all zy=true) c hc
  ·obtain ⟨x,hx⟩:∃ x,x=l[k]:=⟨_,rfl⟩;have hx2:l[k]?= some x:=by rw [dQ hk,hx]
   have hxm:x ∈ l:=bN
   have hg:(l.map zN)[k]?= some (zN x):=by rw [dT,hx2];rfl
   have e1:0+(k:Int).toNat=k:=aj
   have low:∀ n j,j<=t∨2 < n->∀ r ∈ ((l.map zN).set t ([C.sl 2 [] 1 0 r0.length false])).take j++(List.replicate l.length ([.u1 1 0 []]:List C)).drop j,∀ c ∈ r,q8 n 9 c=true:=fun n j h=>vZ (enc:=zN) (fun _=>rfl) rfl l l.length (h.imp_right fun h=>by simp [q8,qN];omega)
   have own:∀ j,∀ r ∈ ((l.map zN).set t ([C.sl 2 [] 1 0 r0.length false])).take j++(List.replicate l.length ([.u1 1 0 []]:List C)).drop j,∀ c ∈ r,zy c=true:=fun j=>vZ (enc:=zN) (fun _=>rfl) rfl l l.length (.inr rfl)
   by_cases hkv:k=t
   ·subst hkv;obtain rfl:r0=x:=by rw [hv] at hx2;exact gk hx2
    have hF:((l.map zN).set k ([C.sl 2 [] 1 0 r0.length false]))[k]?= some ([C.sl 2 [] 1 0 r0.length false]):=by rw [gj,dU rfl,dU (aq hk)]
    rw [dU (gf _),dR aw];conv=>whnf
    refine uF ?_;(refine tf hg ?_)
    refine ⟨_,_,hA _ (zc rfl (zj (own k))),dd ?_⟩;exact cT
   ·have hF:((l.map zN).set t ([C.sl 2 [] 1 0 r0.length false]))[k]?= some (zN x):=by rw [gZ (fun h=>hkv h.symm)];exact hg
    by_cases u4:k < t
    ·rw [dU aw,dU aw];conv=>whnf
     refine uF ?_;(refine tf hg ?_)
     refine ah (hp x hxm) ?_;refine ⟨aw,aA,dd ?_⟩;rw [e1];refine ⟨_,j9 aj hk,rfl,dd ?_⟩;refine .inl ⟨rfl,?_,trivial⟩;rw [zu aw,<- qV hF hk];refine zp.xx 2 hU rfl rfl rfl (jU rfl (yj ?_)) rfl;have lw:=low 2 (k+1) (.inl aw);rw [<- qV (z:=([.u1 1 0 []]:List C)) (n:=l.length) hF hk] at lw;exact lw
    ·rw [dR aw,dR aw];conv=>whnf
     refine uF ?_;(refine tf hg ?_)
     refine ah (hp x hxm) ?_;refine ⟨aw,aA,dd ?_⟩;rw [e1];refine ⟨_,j9 aj hk,rfl,dd ?_⟩;refine .inl ⟨rfl,?_,trivial⟩;rw [zu aw,<- qV hF hk];refine zp.xx 3 hU rfl rfl rfl (jU rfl (jU (yj ?_) rfl)) rfl;have lw:=low 3 (k+1) (.inr aw);rw [<- qV (z:=([.u1 1 0 []]:List C)) (n:=l.length) hF hk] at lw;exact lw
  ·exact dO
 refine h1.mP (fun B h _=>?_) (gF _);have hw:=zp.ed (B:=B) [1,2] [0] [.sl 1 [] 1 0 l.length false] [⟨1,243,0,[[]],0⟩,⟨1,0,1,(l.map zN).set t ([C.sl 2 [] 1 0 r0.length false]),0⟩,⟨2,43,1,r0.map jL,0⟩] tK rfl rfl (zc rfl (zc (zj (zA (enc:=zN) (fun _=>rfl) rfl l t)) rfl))
 have e:xC [1,2] [⟨1,243,0,[[]],0⟩,⟨1,0,1,(l.map zN).set t ([C.sl 2 [] 1 0 r0.length false]),0⟩,⟨2,43,1,r0.map jL,0⟩]=[⟨1,0,1,(l.map zN).set t ([C.sl 1 [] 1 0 r0.length false]),0⟩,⟨2,43,1,r0.map jL,0⟩]:=by
  show zK [1,2] ⟨1,0,1,(l.map zN).set t ([C.sl 2 [] 1 0 r0.length false]),0⟩::_=_;rw [zH (enc:=zN) (fun _=>rfl)]
  rfl
 rw [e] at hw;exact hw
structure Ej (cs:List (List Int)) (t:Nat) (r0:List Int):Prop where
 sm:cs.length < 1000000000∧∀ r ∈ cs,r.length < 1000000000
 at_:cs[t]?= some r0
 ne:r0≠[]
def Vs {cs:List (List Int)} {t:Nat} {r0:List Int} (h:Ej cs t r0) (H:zl) (hf:qS H=true):to 159 H [eM cs,.fn 160 [] [],.agg []] (.sl H.length [] 1 0 cs.length false) (H++[⟨1,0,1,(cs.map zN).set t ([C.sl (H.length+1) [] 1 0 r0.length false]),0⟩,⟨2,43,1,r0.map jL,0⟩]):=by
 obtain ⟨x,l,hx⟩:∃ x l,r0=x::l:=by
  cases hh:r0 with
  | nil=>exact absurd hh h.ne
  | cons x l=>exact ⟨x,l,rfl⟩
 have hlen:l.length < 1000000000:=by
  have:=h.sm.2 r0 (dS h.at_);rw [hx] at this;exact cQ
 have:=oa (T2 cs t r0 h.at_ h.sm.1 (fun y hy=>yg y (h.sm.2 y hy)) (UH r0 x l hx hlen)) (zc (zj (zA (enc:=zN) (fun _=>rfl) rfl _ _)) rfl) rfl H hf
 have e9:[(⟨1,0,1,(cs.map zN).set t ([C.sl 1 [] 1 0 r0.length false]),0⟩:Ob),⟨2,43,1,r0.map jL,0⟩].map (zG (ja [] H.length))=[⟨1,0,1,(cs.map zN).set t ([C.sl (H.length+1) [] 1 0 r0.length false]),0⟩,⟨2,43,1,r0.map jL,0⟩]:=by
  show zG _ ⟨1,0,1,_,0⟩::_=_;rw [zB (enc:=zN) (fun _=>rfl)]
  rfl
 rw [e9] at this;exact dB
def IF (w:Wor) (h:qZ w) (x:Int) (l:List Int) (hx:w.pins=x::l):to 114 [] [Cw w] (.agg [I w.zn,I w.current,I w.lock,.sl 0 [] 1 0 w.pins.length false,lV w.ze,lL w.zd,eM w.counts,lR w.zr]) [⟨2,3,1,w.pins.map encI,0⟩]:=by
 have hl:l.length < 1000000000:=by have:=h.pins;rw [hx] at this;exact cQ
 have hc:=K0 x l hl;rw [<- hx] at hc;refine Ar (fn:=f114) func114 rfl (uH ?_);refine af [] (hc) ?_;refine af [] (wQ w.ze h.ze.1 fun v hv=>jM v (h.ze.2 v hv)) ?_;refine ah (vX w.zd h.zd) ?_;refine af [] (wP w.counts h.counts.1 fun r hr=>yg r (h.counts.2 r hr)) ?_;refine ah (AW w.zr h.zr) ?_;refine ⟨.inl rfl,_,_,(zp.zV 1 0 4 rfl rfl rfl rfl (.inr rfl) rfl aj (shut_map (enc:=zF) (fun _=>rfl) w.ze) (qa rfl)).trans (zp.zV 1 0 6 rfl rfl rfl rfl (.inr rfl) rfl aj (shut_map (enc:=zN) (fun _=>rfl) w.counts) (qa rfl)),rfl,?_⟩;exact zp.ed [3] [0] _ _ rfl rfl rfl (zc rfl (zc rfl (zc rfl (zc rfl (zc (zj fun r hr c hc=>((shut_map (enc:=zF) (fun _=>rfl) w.ze) r hr c hc).2) (zj fun r hr c hc=>((shut_map (enc:=zN) (fun _=>rfl) w.counts) r hr c hc).2))))))
def LC {B:Nat} (sel m:List Nat) {t t2:List C} {H H2:zl} (hB:Br B 0 sel=true) (z8:sel.all (fun id=>Nat.blt id H.length)=true) (fp:yq sel=true) (fg:qS H=true) (et:(o6 m 0 t).map (yf sel 9)=t2) (e:xC sel H=H2):zp B ⟨t,H⟩ ⟨t2,H2⟩:=by
 subst et e;exact zp.ed sel m t H hB z8 fp fg
def vd (w:Wor) (h:qZ w) (x:eL) (l:List eL) (hx:w.zd=x::l):to 114 [] [Cw w] (.agg [I w.zn,I w.current,I w.lock,lI w.pins,lV w.ze,.sl 0 [] 4 0 w.zd.length false,eM w.counts,lR w.zr]) [⟨2,85,4,w.zd.map qK,0⟩]:=by
 have hl:l.length < 1000000000:=by have:=h.zd;rw [hx] at this;exact cQ
 have hc:=TT x l hl;rw [<- hx] at hc;refine Ar (fn:=f114) func114 rfl (uH ?_);refine ah (vc w.pins h.pins) ?_;refine af [] (wQ w.ze h.ze.1 fun v hv=>jM v (h.ze.2 v hv)) ?_;refine af [] (hc) ?_;refine af [] (wP w.counts h.counts.1 fun r hr=>yg r (h.counts.2 r hr)) ?_;refine ah (AW w.zr h.zr) ?_;refine ⟨.inl rfl,_,_,(zp.zV 1 0 4 rfl rfl rfl rfl (.inr rfl) rfl aj (shut_map (enc:=zF) (fun _=>rfl) w.ze) (qa rfl)).trans (zp.zV 1 0 6 rfl rfl rfl rfl (.inr rfl) rfl aj (shut_map (enc:=zN) (fun _=>rfl) w.counts) (qa rfl)),rfl,?_⟩;exact zp.ed [4] [0] _ _ rfl rfl rfl (zc rfl (zc rfl (zc rfl (zc (zj fun r hr c hc=>((shut_map (enc:=zF) (fun _=>rfl) w.ze) r hr c hc).2) (zc rfl (zj fun r hr c hc=>((shut_map (enc:=zN) (fun _=>rfl) w.counts) r hr c hc).2))))))
def IE (w:Wor) (h:qZ w) (cs:List (List Int)) (hcs:w.counts=cs) {t:Nat} {r0:List Int} (hp:Ej cs t r0):to 114 [] [Cw w] (.agg [I w.zn,I w.current,I w.lock,lI w.pins,lV w.ze,lL w.zd,.sl 0 [] 1 0 cs.length false,lR w.zr]) [⟨1,0,1,(cs.map zN).set t ([C.sl 1 [] 1 0 r0.length false]),0⟩,⟨2,43,1,r0.map jL,0⟩]:=by
 subst hcs;have own:∀ i,∀ r ∈ (w.counts.map zN).set t ([C.sl i [] 1 0 r0.length false]),∀ c ∈ r,zy c=true:=fun i=>zA (enc:=zN) (fun _=>rfl) rfl _ _
 refine Ar (fn:=f114) func114 rfl (uH ?_);refine ah (vc w.pins h.pins) ?_;refine af [] (wQ w.ze h.ze.1 fun v hv=>jM v (h.ze.2 v hv)) ?_;refine ah (vX w.zd h.zd) ?_;refine ⟨_,_,Vs hp _ (zc rfl (zc rfl (zc rfl rfl))),dd ?_⟩;refine ah (AW w.zr h.zr) ?_;refine ⟨.inl rfl,_,_,zp.zV 1 0 4 rfl rfl rfl rfl (.inr rfl) rfl aj (shut_map (enc:=zF) (fun _=>rfl) w.ze) (qa rfl),rfl,?_⟩;refine LC [4,5] [0] rfl rfl rfl (zc rfl (zc rfl (zc rfl (zc (zj fun r hr c hc=>((shut_map (enc:=zF) (fun _=>rfl) w.ze) r hr c hc).2) (zc (zj (own 5)) rfl))))) rfl ?_;show zK [4,5] ⟨1,0,1,(w.counts.map zN).set t ([C.sl 5 [] 1 0 r0.length false]),0⟩::_=_;rw [zH (enc:=zN) (fun _=>rfl)]
 rfl
def Vn (w:Wor) (h:qZ w) (H:zl) (hf:qS H=true):to 159 H [eM w.counts,.fn 160 [] [],.agg []] (.sl H.length [] 1 0 w.counts.length false) (H++[⟨2,116,1,w.counts.map zN,0⟩]):=
 oa (wP w.counts h.counts.1 fun r hr=>yg r (h.counts.2 r hr)) rfl rfl H hf
def yK (w:Wor) (h:qZ w) (vs:List u9) (hvs:w.ze=vs) {v:Nat} {v0:u9} {g:Nat} {g0:Gr} {e:Nat} {e0:En} (hp:oX vs v v0 g g0 e e0):to 114 [] [Cw w] (.agg [I w.zn,I w.current,I w.lock,lI w.pins,.sl 0 [] 5 0 vs.length false,lL w.zd,eM w.counts,lR w.zr]) [⟨1,0,5,(vs.map zF).set v ((qN v0.snap++[C.sl 1 [] 2 0 v0.zm.length false,Bo v0.qn])),0⟩,⟨1,0,2,(v0.zm.map zE).set g ([U g0.zt,C.sl 2 [] 3 0 g0.ends.length false]),0⟩,⟨1,0,3,(g0.ends.map zx).set e ([U e0.head,C.sl 3 [] 1 0 e0.next.length false,I e0.zf]),0⟩,⟨2,3,1,e0.next.map encI,0⟩]:=by
 subst hvs;have own:∀ i,∀ r ∈ (w.ze.map zF).set v ((qN v0.snap++[C.sl i [] 2 0 v0.zm.length false,Bo v0.qn])),∀ c ∈ r,zy c=true:=fun i=>zA (enc:=zF) (fun _=>rfl) rfl _ _
 refine Ar (fn:=f114) func114 rfl (uH ?_);refine ah (vc w.pins h.pins) ?_;refine ⟨_,_,Vt hp _ rfl,dd ?_⟩;refine ah (vX w.zd h.zd) ?_;refine ⟨_,_,Vn w h _ (zc rfl (zc rfl (zc rfl (zc (zj (own 4)) (zc (zj (zA (enc:=zE) (fun _=>rfl) rfl _ _)) (zc (zj (zA (enc:=zx) (fun _=>rfl) rfl _ _)) rfl)))))),dd ?_⟩;refine ah (AW w.zr h.zr) ?_;refine ⟨.inl rfl,_,_,zp.zV 1 0 6 rfl rfl rfl rfl (.inr rfl) rfl aj (shut_map (enc:=zN) (fun _=>rfl) w.counts) (qa rfl),rfl,?_⟩;refine LC [3,4,5,6] [0] rfl rfl rfl (zc rfl (zc rfl (zc rfl (zc (zj (own 4)) (zc (zj (zA (enc:=zE) (fun _=>rfl) rfl _ _)) (zc (zj (zA (enc:=zx) (fun _=>rfl) rfl _ _)) (zc rfl (zj fun r hr c hc=>((shut_map (enc:=zN) (fun _=>rfl) w.counts) r hr c hc).2)))))))) rfl ?_;show zK [3,4,5,6] ⟨1,0,5,(w.ze.map zF).set v ((qN v0.snap++[C.sl 4 [] 2 0 v0.zm.length false,Bo v0.qn])),0⟩::zK [3,4,5,6] ⟨1,0,2,(v0.zm.map zE).set g ([U g0.zt,C.sl 5 [] 3 0 g0.ends.length false]),0⟩::zK [3,4,5,6] ⟨1,0,3,(g0.ends.map zx).set e ([U e0.head,C.sl 6 [] 1 0 e0.next.length false,I e0.zf]),0⟩::_=_;rw [zH (enc:=zF) (fun _=>rfl),zH (enc:=zE) (fun _=>rfl),zH (enc:=zx) (fun _=>rfl)]
 rfl
def fX (i n:Int):Bool:=decide (0<=i) && decide (i < n)
def wv (i n:Int):to 140 [] [I i,I n] (Bo (fX i n)) []:=by
 refine ab func140 ?_;refine ⟨fun h1=>?_,fun h1=>?_⟩
 ·refine dd ?_;refine ⟨fun h2=>?_,fun h2=>?_⟩
  ·refine dd ?_
   (exact ⟨.inl rfl,_,.refl _,uN (by unfold fX;simp at h1 h2 ⊢;omega)⟩)
  ·refine dd ?_
   (exact ⟨.inl rfl,_,.refl _,uN (by unfold fX;simp at h1 h2 ⊢;omega)⟩)
 ·refine dd ?_
  (exact ⟨.inl rfl,_,.refl _,uN (by unfold fX;simp at h1 ⊢;omega)⟩)
def QY {H:zl} {f:FuncId} {caps:List C} {l:List Int} (p:Int->Bool) (hcb:qt prog f=true) (hp:∀ r ∈ l,to f H ([I r]++caps) (Bo (p r)) H) (hl:l.length < 4611686018427387904):
  to 52 H [lI l,.fn f [] caps] (I (match l.findIdx? p with | some i=>(i:Int) | none=> -1)) H:=by
 refine zb.zT (fn:=f52) func52 rfl (uH ?_)
 refine zW.inv (fun n t1 H1=>∃ k,k+n=l.length∧H1=H∧(∀ j,j < k->∀ r,l[j]?= some r->p r=false)∧
   t1=((lI l)::.fn f [] caps::.za::.za::I 0::.za::.za::I (l.map encI).length::I k::hZ ([.za,.za]))) l.length ?_ ?_
 ·exact cU
 rintro n _ _ ⟨k,hk,rfl,hno,rfl⟩;conv=>whnf
 refine ⟨fun h=>?_,fun h=>?_⟩
 ·conv=>whnf
  have u4:k < l.length:=aq h
  refine ⟨aw,encI l[k],aX,uH ?_⟩;rw [hcb];refine ⟨_,_,hp _ (gS u4),uH ?_⟩;refine ⟨fun h2=>?_,fun h2=>?_⟩
  ·conv=>whnf
   refine .inr ⟨aj,uH ?_⟩;refine ⟨.inl rfl,_,.refl _,rfl,?_⟩
   have:l.findIdx? p=some k:=by
    rw [gD];refine ⟨u4,h2,fun j hj=>?_⟩;simp [hno j hj _ (dQ aw)]
   rw [this]
   rfl
  ·conv=>whnf
   refine .inl ⟨rfl,n - 1,_,_,aw,zp.mask [0,1,4,7,8] _ _,k+1,aw,rfl,?_,?_⟩
   ·intro j hj r hr;by_cases hjk:j=k
    ·subst hjk;rw [dQ u4] at hr;cases hr
     exact h2
    ·exact hno j aw r hr
   ·rw [zu aw];rfl
 ·conv=>whnf
  refine .inr ⟨aj,uH ?_⟩;refine ⟨.inl rfl,_,.refl _,rfl,?_⟩
  have:l.findIdx? p=none:=by
   rw [gG];intro x hx;obtain ⟨j,hj⟩:=gA.1 hx;have hjl:=(dP.1 hj).1;have:¬k < l.length:=aq h
   exact hno j aw x hj
  rw [this]
  rfl
def JK {H:zl} {f:FuncId} {caps:List C} {l:List Int} (p:Int->Bool) (hcb:qt prog f=true) (hp:∀ r ∈ l,to f H ([I r]++caps) (Bo (p r)) H) (hl:l.length < 4611686018427387904):
  to 27 H [lI l,.fn f [] caps] (Bo (l.any p)) H:=by
 refine zb.zT (fn:=f27) func27 rfl (uH ?_);refine ⟨_,_,QY p hcb hp hl,dd ?_⟩;rw [show decide ((match l.findIdx? p with | some i=>((i:Nat):Int) | none=>(-1:Int))≥(0:Int))=l.any p from Cl l p];refine ⟨fun h=>?_,fun h=>?_⟩ <;> rw [h]
 ·exact dh
 ·exact dh
def QX {H:zl} {f:FuncId} {caps:List C} {l:List En} (p:En->Bool) (hcb:qt prog f=true) (hp:∀ r ∈ l,to f H ([Go.Slp.Ev r]++caps) (Bo (p r)) H) (hl:l.length < 4611686018427387904):
  to 81 H [lE l,.fn f [] caps] (I (match l.findIdx? p with | some i=>(i:Int) | none=> -1)) H:=by
 refine zb.zT (fn:=f81) func81 rfl (uH ?_)
 refine zW.inv (fun n t1 H1=>∃ k,k+n=l.length∧H1=H∧(∀ j,j < k->∀ r,l[j]?= some r->p r=false)∧
   t1=((lE l)::.fn f [] caps::.za::.za::I 0::.za::.za::I (l.map zx).length::I k::hZ ([.za,.za]))) l.length ?_ ?_
 ·exact cU
 rintro n _ _ ⟨k,hk,rfl,hno,rfl⟩;conv=>whnf
 refine ⟨fun h=>?_,fun h=>?_⟩
 ·conv=>whnf
  have u4:k < l.length:=aq h
  refine ⟨aw,zx l[k],aX,uH ?_⟩;rw [hcb];refine ⟨_,_,hp _ (gS u4),uH ?_⟩;refine ⟨fun h2=>?_,fun h2=>?_⟩
  ·conv=>whnf
   refine .inr ⟨aj,uH ?_⟩;refine ⟨.inl rfl,_,.refl _,rfl,?_⟩
   have:l.findIdx? p=some k:=by
    rw [gD];refine ⟨u4,h2,fun j hj=>?_⟩;simp [hno j hj _ (dQ aw)]
   rw [this]
   rfl
  ·conv=>whnf
   refine .inl ⟨rfl,n - 1,_,_,aw,zp.mask [0,1,4,7,8] _ _,k+1,aw,rfl,?_,?_⟩
   ·intro j hj r hr;by_cases hjk:j=k
    ·subst hjk;rw [dQ u4] at hr;cases hr
     exact h2
    ·exact hno j aw r hr
   ·rw [zu aw];rfl
 ·conv=>whnf
  refine .inr ⟨aj,uH ?_⟩;refine ⟨.inl rfl,_,.refl _,rfl,?_⟩
  have:l.findIdx? p=none:=by
   rw [gG];intro x hx;obtain ⟨j,hj⟩:=gA.1 hx;have hjl:=(dP.1 hj).1;have:¬k < l.length:=aq h
   exact hno j aw x hj
  rw [this]
  rfl
def PY {H:zl} {f:FuncId} {caps:List C} {l:List En} (p:En->Bool) (hcb:qt prog f=true) (hp:∀ r ∈ l,to f H ([Go.Slp.Ev r]++caps) (Bo (p r)) H) (hl:l.length < 4611686018427387904):
  to 57 H [lE l,.fn f [] caps] (Bo (l.any p)) H:=by
 refine zb.zT (fn:=f57) func57 rfl (uH ?_);refine ⟨_,_,QX p hcb hp hl,dd ?_⟩;rw [show decide ((match l.findIdx? p with | some i=>((i:Nat):Int) | none=>(-1:Int))≥(0:Int))=l.any p from Cl l p];refine ⟨fun h=>?_,fun h=>?_⟩ <;> rw [h]
 ·exact dh
 ·exact dh
def nG (ep p:Int):Bool:=decide (p < 0) || decide (p > ep+1)
def Ok (w:Wor) (p:Int) (h0:0<=w.zn) (h1:w.zn<=1000000000000):to 53 [⟨1,37,8,[zJ w],0⟩] ([I p]++[.ref 0 [] 8 0 0]) (Bo (nG w.zn p)) [⟨1,37,8,[zJ w],0⟩]:=by
 have e:IntKind.i64.wrap (w.zn+1)=w.zn+1:=jc aw aw;refine zb.zT (fn:=f53) func53 rfl (uH ?_);refine ⟨fun h2=>?_,fun h2=>?_⟩
 ·refine dd ?_;exact ⟨.inl rfl,_,.refl _,rfl,uN (by unfold nG;rw [h2];rfl)⟩
 ·refine dd ?_;rw [e];refine ⟨fun h3=>?_,fun h3=>?_⟩
  ·refine dd ?_;exact ⟨.inl rfl,_,.refl _,rfl,uN (by unfold nG;rw [h2,h3];rfl)⟩
  ·refine dd ?_;exact ⟨.inl rfl,_,.refl _,rfl,uN (by unfold nG;rw [h2,h3];rfl)⟩
def jX (w:Wor):Bool:=decide (1<=w.pins.length) && decide (w.pins.length<=8) && decide (w.counts.length=w.pins.length) && vS w.counts && decide (0<=w.zn) && decide (w.zn<=1000000000000) && (decide (w.lock=0) || decide (w.lock=1)) && !w.pins.any (nG w.zn)
def OC (w:Wor) (hp:w.pins.length < 4000000000000000000) (hc:w.counts.length < 4000000000000000000):to 30 [] [Cw w] (Bo (jX w)) []:=by
 have m1:(w.pins.map encI).length=w.pins.length:=dV ..;have m2:(w.counts.map zN).length=w.counts.length:=dV ..;refine ab func30 ?_;rw [m1];refine ⟨fun h1=>?_,fun h1=>?_⟩
 ·(have e:jX w=false:=by (unfold jX;(rw [show decide (1<=w.pins.length)=false from by rw [pn];have:=gd h1;omega]);simp));exact dM
 refine dd ?_;refine ⟨fun h2=>?_,fun h2=>?_⟩
 ·(have e:jX w=false:=by (unfold jX;(rw [show decide (w.pins.length<=8)=false from cw]);simp));exact dM
 refine dd ?_;rw [m2];refine ⟨fun h3=>?_,fun h3=>?_⟩
 ·(have e:jX w=false:=by (unfold jX;(rw [show decide (w.counts.length=w.pins.length)=false from by rw [pn];intro hh;simp [hh] at h3]);simp));exact dM
 refine dd ?_;refine ah (Iw w.counts hc) ?_;refine ⟨fun h4=>?_,fun h4=>?_⟩
 rotate_left
 ·(have e:jX w=false:=by (unfold jX;(rw [h4]);simp));exact dM
 refine dd ?_;refine ⟨fun h5=>?_,fun h5=>?_⟩
 ·(have e:jX w=false:=by (unfold jX;(rw [show decide (0<=w.zn)=false from by simp at h5 ⊢;omega]);simp));exact dM
 refine dd ?_;refine ⟨fun h6=>?_,fun h6=>?_⟩
 ·(have e:jX w=false:=by (unfold jX;(rw [show decide (w.zn<=1000000000000)=false from by simp at h6 ⊢;omega]);simp));exact dM
 refine dd ?_;have b0:0<=w.zn:=by simp at h5;omega
 have b1:w.zn<=1000000000000:=by simp at h6;omega
 have hcon:=JK (H:=[⟨1,37,8,[zJ w],0⟩]) (f:=53) (l:=w.pins) (caps:=[.ref 0 [] 8 0 0]) (nG w.zn) au (fun r _=>Ok w r b0 b1) aw
 have g0:jX w=((decide (w.lock=0) || decide (w.lock=1)) && !w.pins.any (nG w.zn)):=by
  have h3':w.counts.length=w.pins.length:=by simp at h3;omega
  unfold jX;rw [show decide (1<=w.pins.length)=true from by rw [decide_eq_true_iff];have:=pM h1;omega,show decide (w.pins.length<=8)=true from cw,show decide (w.counts.length=w.pins.length)=true from aq h3',h4,show decide (0<=w.zn)=true from aq b0,show decide (w.zn<=1000000000000)=true from aq b1]
  rfl
 have fin:∀ hl:(decide (w.lock=0) || decide (w.lock=1))=true,jX w=!w.pins.any (nG w.zn):=fun hl=>by rw [g0,hl];rfl
 refine ⟨fun h7=>?_,fun h7=>?_⟩
 ·refine dd ?_;refine ⟨fun h8=>?_,fun h8=>?_⟩
  ·have e:jX w=false:=by rw [g0,show (decide (w.lock=0) || decide (w.lock=1))=false from by simp at h7 h8 ⊢;omega];rfl
   rw [e];refine dd ?_;refine td ?_
   exact uI
  rw [fin (by simp at h8 ⊢;omega)];refine dd ?_;refine td ?_
  refine af [0] (hcon) ?_;refine ⟨fun h9=>?_,fun h9=>?_⟩
  ·refine dd ?_
   (exact ⟨.inl rfl,_,.refl _,uN (by rw [h9];rfl)⟩)
  ·refine dd ?_
   (exact ⟨.inl rfl,_,.refl _,uN (by rw [h9];rfl)⟩)
 ·rw [fin (by simp at h7 ⊢;omega)];refine dd ?_;refine td ?_
  refine af [0] (hcon) ?_;refine ⟨fun h9=>?_,fun h9=>?_⟩
  ·refine dd ?_
   (exact ⟨.inl rfl,_,.refl _,uN (by rw [h9];rfl)⟩)
  ·refine dd ?_
   (exact ⟨.inl rfl,_,.refl _,uN (by rw [h9];rfl)⟩)
def od (x:eV) (e:En):Bool:=!Go.Slp.eF e || (e.next.length:Int) != x.xP
def N9 (x:eV) (e:En) (he:e.ok):to 56 [⟨1,129,4,[xa x],0⟩] ([Go.Slp.Ev e]++[.ref 0 [] 4 0 0]) (Bo (od x e)) [⟨1,129,4,[xa x],0⟩]:=by
 have m1:(e.next.map encI).length=e.next.length:=dV ..;refine zb.zT (fn:=f56) func56 rfl (uH ?_);refine ah (Go.Slp.AZ e he) ?_;refine ⟨fun h1=>?_,fun h1=>?_⟩
 rotate_left
 ·refine dd ?_;exact ⟨.inl rfl,_,zp.keep [3] 1 _ _ rfl rfl rfl rfl,rfl,uN (by unfold od;rw [h1];rfl)⟩
 ·refine dd ?_;rw [m1];refine ⟨fun h2=>?_,fun h2=>?_⟩
  ·refine dd ?_;exact ⟨.inl rfl,_,zp.keep [3] 1 _ _ rfl rfl rfl rfl,rfl,uN (by unfold od;rw [h1,h2];rfl)⟩
  ·refine dd ?_;exact ⟨.inl rfl,_,zp.keep [3] 1 _ _ rfl rfl rfl rfl,rfl,uN (by unfold od;rw [h1,h2];rfl)⟩
structure HZ (v:u9):Prop where
 snap:nB v.snap
 zm:v.zm.length < 1000000000000
 ends : ∀ g ∈ v.zm, g.ends.length < 1000000000000 ∧ ∀ e ∈ g.ends, e.ok
def o4 (v:u9) (i:Nat):Bool:=match v.zm[i]?,v.snap.zk[i]? with
 | some g,some x=>decide (g.ends.length=x.zL.length) && !g.ends.any (od x)
 | _,_=>true
def mr (v:u9):Bool:=vn v.snap && decide (v.zm.length=v.snap.zk.length) && (List.range v.zm.length).all (o4 v)
def Oo (v:u9) (hv:HZ v):to 32 [] [Cv v] (Bo (mr v)) []:=by
 have m1:(v.zm.map zE).length=v.zm.length:=dV ..;have m2:(v.snap.zk.map xa).length=v.snap.zk.length:=dV ..;have hgl:=hv.zm;refine ab func32 ?_;refine ah (IS v.snap hv.snap) ?_;refine ⟨fun h1=>?_,fun h1=>?_⟩
 rotate_left
 ·have e:mr v=false:=by unfold mr;rw [h1];rfl
  rw [e];refine dd ?_;refine td ?_
  exact uI
 refine dd ?_;rw [m1,m2];refine ⟨fun h2=>?_,fun h2=>?_⟩
 ·have e:mr v=false:=by unfold mr;rw [show decide (v.zm.length=v.snap.zk.length)=false from by rw [pn];intro hh;simp [hh] at h2,sd];rfl
  rw [e];refine dd ?_;refine td ?_
  exact uI
 have h2':v.zm.length=v.snap.zk.length:=aY
 refine dd ?_;refine td ?_
 rw [m1];refine zW.seq v.zm.length (fun k=>(.za::.ref 0 [] 5 0 0::Bo false::hZ (hZ (.za::.za::.za::(lG v.zm)::I v.zm.length::I k::hZ (hZ (hZ ([.za]))))))) (fun k=>[⟨1,107,5,[zF v],0⟩]) (fun k=>∀ j,j < k->o4 v j=true) ?_ aj (fun k hk hr=>?_) (fun hr=>?_)
 ·exact cC
 ·obtain ⟨g,hg⟩:∃ g,g=v.zm[k]:=⟨_,rfl⟩;obtain ⟨x,hx⟩:∃ x,x=v.snap.zk[k]'aw:=⟨_,rfl⟩;have gg:(v.zm.map zE)[k]?= some (zE g):=by rw [dT,dQ hk,hg];rfl
  have gx:(v.snap.zk.map xa)[k]?= some (xa x):=by rw [dT,dQ aw,hx];rfl
  have hgm:g ∈ v.zm:=by rw [hg];exact dL
  have me:(g.ends.map zx).length=g.ends.length:=dV ..;have mh:(x.zL.map vr).length=x.zL.length:=dV ..
  have hd:o4 v k=(decide (g.ends.length=x.zL.length) && !g.ends.any (od x)):=by
   unfold o4;rw [dQ hk,dQ aw,<- hg,<- hx]
  have bad:o4 v k=false->mr v=false:=fun h=>by
   have:(List.range v.zm.length).all (o4 v)=false:=by rw [rT];exact ⟨k,aq hk,aH⟩
   unfold mr;rw [this,sd]
  have hcon:=PY (H:=[⟨1,129,4,[xa x],0⟩]) (f:=56) (l:=g.ends) (caps:=[.ref 0 [] 4 0 0]) (od x) au (fun r hr=>N9 x r ((hv.ends g hgm).2 r hr)) (by have:=(hv.ends g hgm).1;omega);conv=>whnf
  refine uF ?_;(refine tf gg ?_)
  (refine tf gx ?_)
  rw [me,mh];refine ⟨fun h3=>?_,fun h3=>?_⟩
  ·rw [bad (by rw [hd,show decide (g.ends.length=x.zL.length)=false from by rw [pn];intro hh;simp [hh] at h3];rfl)];refine dd ?_;refine td ?_
   (refine .inr ⟨aj,uH ?_⟩)
   exact uI
  refine dd ?_;refine af [2] (hcon) ?_;refine ⟨fun h4=>?_,fun h4=>?_⟩
  ·rw [bad (by rw [hd,h4,sV,sd])];refine dd ?_;refine td ?_
   (refine .inr ⟨aj,uH ?_⟩)
   exact uI
  refine dd ?_;refine td ?_
  refine .inl ⟨rfl,?_,fun j hj=>?_⟩
  ·exact dg
  ·by_cases e:j=k
   ·subst e;rw [hd,h4];simp at h3 ⊢;omega
   ·exact hr j aw
 ·have e:mr v=true:=by
   unfold mr;rw [h1,show decide (v.zm.length=v.snap.zk.length)=true from aq h2',sX,sX,dZ]
   exact fun i hi=>hr i (aq hi)
  rw [e];refine uD ?_;exact uI
def yQ (l:List eJ):List (Int × Value):=l.foldl (fun m r=>yt m r.version (Value.bool r.gone)) []
def vw (l:List eJ) (i:Int):Bool:=match ((jo (yQ l) i).bind fun j=>((yQ l)[j]?).map (·.2):Option Value) with
 | some (.bool b)=>b
 | _=>false
def Tb {m:List (Int × Value)} (h:∀ kv ∈ m,∃ b,kv.2=Value.bool b) (k:Int) (b:Bool):∀ kv ∈ yt m k (Value.bool b),∃ b,kv.2=Value.bool b:=fun kv hm=>by
 unfold yt at hm;split at hm
 ·rcases gV hm with hm | rfl
  ·exact h kv hm
  ·exact ⟨b,rfl⟩
 ·rcases gJ.1 hm with hm | hm
  ·exact h kv hm
  ·rw [gM.1 hm];exact ⟨b,rfl⟩
def PR (l:List eJ):∀ kv ∈ yQ l,∃ b,kv.2=Value.bool b:=by
 unfold yQ
 suffices key:∀ (l:List eJ) (m:List (Int × Value)),(∀ kv ∈ m,∃ b,kv.2=Value.bool b)->∀ kv ∈ l.foldl (fun m r=>yt m r.version (Value.bool r.gone)) m,∃ b,kv.2=Value.bool b from key l [] aj
 intro l
 induction l with
 | nil=>intro m h;exact h
 | cons r l ih=>intro m h;exact ih _ (Tb h _ _)
def Tt (l:List eJ) (i:Int):(((jo (yQ l) i).bind fun j=>((yQ l)[j]?).map (·.2)).getD (Value.bool false))=Value.bool (vw l i):=by
 unfold vw;cases h:(jo (yQ l) i).bind fun j=>((yQ l)[j]?).map (·.2) with
 | none=>rfl
 | some v=>
  obtain ⟨j,_,hj⟩:=gP.1 h;obtain ⟨kv,h1,rfl⟩:=gK.1 hj;obtain ⟨b,hb⟩:=PR l kv (dS h1);simp only [pj];rw [hb]
def SC (l:List eJ) {k:Nat} {r:eJ} (h:l[k]?= some r):yQ (l.take (k+1))=yt (yQ (l.take k)) r.version (Value.bool r.gone):=by
 obtain ⟨hk,rfl⟩:=dP.1 h;unfold yQ;rw [gR hk,rS]
 rfl
structure fm (w:Wor):Prop where
 pins:w.pins.length < 1000000000000
 ze:w.ze.length < 1000000000000∧∀ v ∈ w.ze,HZ v
 zd:w.zd.length < 1000000000000∧∀ l ∈ w.zd,l.ok
 counts:w.counts.length < 1000000000000∧∀ r ∈ w.counts,r.length < 1000000000000
 zr:w.zr.length < 1000000000000
def yE (w:Wor) (r:eJ):Bool:=decide (r.version≥(w.ze.length:Int)) || r.version == w.current || decide (r.at_ > w.zn)
def np (w:Wor) (i:Nat):Bool:=match w.ze[i]? with
 | some v=>mr v && (v.qn == vw w.zr i)
 | none=>true
def wU (w:Wor) (i:Nat):Bool:=match w.zd[i]? with
 | some l=>Go.Gat.eF l && decide (zU w.zd l.name=i)
 | none=>true
def xQ (w:Wor):Bool:=jX w && (decide (0<=w.current) && decide (w.current < w.ze.length)) && Go.Lim.eF w.zr && !w.zr.any (yE w) && (List.range w.ze.length).all (np w) && (List.range w.zd.length).all (wU w)
def Oq (w:Wor) (hw:fm w):to 12 [] [Cw w] (Bo (xQ w)) []:=by
 have m1:(w.ze.map zF).length=w.ze.length:=dV ..;have m2:(w.zr.map xt).length=w.zr.length:=dV ..;have m3:(w.zd.map qK).length=w.zd.length:=dV ..;have b1:=hw.pins;have b2:=hw.ze.1;have b3:=hw.zd.1;have b4:=hw.counts.1;have b5:=hw.zr;refine ab func12 ?_;refine ah (OC w aw aw) ?_;refine ⟨fun h1=>?_,fun h1=>?_⟩
 rotate_left
 ·(have e:xQ w=false:=by (unfold xQ;(rw [h1]);simp));exact dM
 refine dd ?_;refine ⟨fun h2=>?_,fun h2=>?_⟩
 ·(have e:xQ w=false:=by (unfold xQ;(rw [show decide (0<=w.current)=false from cw]);simp));exact dM
 refine dd ?_;rw [m1];refine ⟨fun h3=>?_,fun h3=>?_⟩
 ·(have e:xQ w=false:=by (unfold xQ;(rw [show decide (w.current < w.ze.length)=false from by simp at h3 ⊢;omega]);simp));exact dM
 refine dd ?_;refine ah (Go.Lim.AZ (l:=w.zr) aw) ?_;refine ⟨fun h4=>?_,fun h4=>?_⟩
 rotate_left
 ·(have e:xQ w=false:=by (unfold xQ;(rw [h4]);simp));exact dM
 refine dd ?_;refine td ?_
 intro b;refine dd ?_;rw [m2]
 have g0:xQ w=(!w.zr.any (yE w) && (List.range w.ze.length).all (np w) && (List.range w.zd.length).all (wU w)):=by
  unfold xQ;rw [h1,show decide (0<=w.current)=true from cw,show decide (w.current < w.ze.length)=true from by simp at h3 ⊢;omega,h4]
  rfl
 refine zW.seq w.zr.length (fun k=>(.za::.ref 0 [] 8 0 0::Bo false:: .v (.map (some b)):: .za::.za::.za::.za::.za::.za::hZ (hZ (hZ (lR w.zr::I w.zr.length::I k:: .za::.za::.za::.za::.za::.za::hZ (hZ (hZ (hZ (hZ (hZ (hZ (hZ ([]))))))))))))) (fun k=>[⟨1,37,8,[zJ w],0⟩,fq b (jR qk (yQ (w.zr.take k))) (yQ (w.zr.take k)).length]) (fun k=>∀ j,(h:j < w.zr.length)->j < k->yE w w.zr[j]=false) ?_ aj (fun k hk hr=>?_) (fun hr=>?_)
 ·exact cC
 ·obtain ⟨r,hx⟩:∃ r,r=w.zr[k]:=⟨_,rfl⟩;have hx2:w.zr[k]?= some r:=by rw [dQ hk,hx]
  have hg:(w.zr.map xt)[k]?= some (xt r):=by rw [dT,hx2];rfl
  have bad:yE w r=true->xQ w=false:=fun h=>by
   have:w.zr.any (yE w)=true:=pQ.2 ⟨r,dS hx2,h⟩;rw [g0,this];rfl
  conv=>whnf
  refine uF ?_;(refine tf hg ?_)
  rw [m1];refine ⟨fun h5=>?_,fun h5=>?_⟩
  ·(rw [bad (by unfold yE;rw [h5];rfl)]);refine dd ?_;refine td ?_;(refine .inr ⟨aj,uH ?_⟩);exact uI
  refine dd ?_;refine ⟨fun h6=>?_,fun h6=>?_⟩
  ·(rw [bad (by unfold yE;rw [h6,sN];rfl)]);refine dd ?_;refine td ?_;(refine .inr ⟨aj,uH ?_⟩);exact uI
  refine dd ?_;refine ⟨fun h7=>?_,fun h7=>?_⟩
  ·(rw [bad (by unfold yE;rw [h7,sN])]);refine dd ?_;refine td ?_;(refine .inr ⟨aj,uH ?_⟩);exact uI
  refine dd ?_;refine td ?_
  refine ⟨fun q=>?_,fun q=>?_⟩
  all_goals
   refine dd ?_;refine ⟨_,_,eh.mapUpdate (id:=1) _ _ _ _ (.inl rfl) underlying99 (lj.int underlying3) rfl rfl r.version (fun E u h=>jQ h) (.bool r.gone) (fun E u h=>by rw [q];exact jQ h),dd ?_⟩;refine .inl ⟨rfl,?_,fun j hj hjk=>?_⟩
   ·rw [zu aw,<- SC w.zr hx2];exact cE 2
   ·by_cases e:j=k
    ·subst e;rw [<- hx];unfold yE;rw [h5,h6,h7];rfl
    ·exact hr j hj aw
 have hl0:w.zr.any (yE w)=false:=by
  rw [gU];intro x hx;obtain ⟨j,hj,rfl⟩:=pt.1 hx;simp [hr j hj hj]
 rw [gX];refine uD ?_;rw [m1];have g1:xQ w=((List.range w.ze.length).all (np w) && (List.range w.zd.length).all (wU w)):=by rw [g0,hl0];rfl
 refine zW.seq w.ze.length (fun k=>(.za::.ref 0 [] 8 0 0::Bo false:: .v (.map (some b)):: .za::.za::.za::.za::.za::.za::.za::hZ (hZ (hZ (hZ (hZ (hZ (hZ (lV w.ze::I w.ze.length::I k:: .za::.za::.za::.za::.za::hZ (hZ (hZ (hZ ([]))))))))))))) (fun k=>[⟨1,37,8,[zJ w],0⟩,fq b (jR qk (yQ (w.zr))) (yQ (w.zr)).length]) (fun k=>∀ j,j < k->np w j=true) ?_ aj (fun k hk hr=>?_) (fun hr=>?_)
 ·exact cC
 ·obtain ⟨v,hx⟩:∃ v,v=w.ze[k]:=⟨_,rfl⟩;have hx2:w.ze[k]?= some v:=by rw [dQ hk,hx]
  have hg:(w.ze.map zF)[k]?= some (zF v):=by rw [dT,hx2];rfl
  have hd:np w k=(mr v && (v.qn == vw w.zr k)):=by unfold np;rw [hx2]
  have bad:np w k=false->xQ w=false:=fun h=>by
   have:(List.range w.ze.length).all (np w)=false:=by rw [rT];exact ⟨k,aq hk,aH⟩
   rw [g1,this];rfl
  conv=>whnf
  refine uF ?_;(refine tf hg ?_)
  refine ah (Oo v (hw.ze.2 v (dS hx2))) ?_;refine ⟨fun h5=>?_,fun h5=>?_⟩
  rotate_left
  ·(rw [bad (by rw [hd,h5];rfl)]);refine dd ?_;refine td ?_;(refine .inr ⟨aj,uH ?_⟩);exact uI
  refine dd ?_;refine ⟨fun q=>?_,fun q=>?_⟩
  all_goals
   refine dd ?_;refine ⟨_,_,eh.lookup (id:=1) _ _ _ rfl underlying99 (lj.int underlying3) rfl rfl (k:Int) (fun E u h=>jQ h) (c:=Bo (vw w.zr k)) rfl rfl (fun E=>by rw [Tt];exact .v _ rfl),dd ?_⟩;refine ⟨fun q2=>?_,fun q2=>?_⟩
   ·(rw [bad (by rw [hd,q];simp at q2;simp [q2])]);refine dd ?_;refine td ?_;(refine .inr ⟨aj,uH ?_⟩);exact uI
   refine dd ?_;refine td ?_
   refine .inl ⟨rfl,?_,fun j hj=>?_⟩
   ·rw [zu aw];exact cE 2
   ·by_cases e:j=k
    ·subst e;rw [hd,h5,q];simp at q2;simp [q2]
    ·exact hr j aw
 have hv0:(List.range w.ze.length).all (np w)=true:=by
  rw [dZ]
  exact fun i hi=>hr i (aq hi)
 have g2:xQ w=(List.range w.zd.length).all (wU w):=by rw [g1,hv0];rfl
 refine uD ?_;rw [m3];refine zW.seq w.zd.length (fun k=>(.za::.ref 0 [] 8 0 0::Bo false:: .v (.map (some b)):: .za::.za::.za::hZ (hZ (hZ (hZ (hZ (hZ (hZ (hZ (hZ (hZ (lL w.zd::I w.zd.length::I k:: .za::hZ (hZ ([])))))))))))))) (fun k=>[⟨1,37,8,[zJ w],0⟩,fq b (jR qk (yQ (w.zr))) (yQ (w.zr)).length]) (fun k=>∀ j,j < k->wU w j=true) ?_ aj (fun k hk hr=>?_) (fun hr=>?_)
 ·exact cC
 ·obtain ⟨l,hx⟩:∃ l,l=w.zd[k]:=⟨_,rfl⟩;have hx2:w.zd[k]?= some l:=by rw [dQ hk,hx]
  have hg:(w.zd.map qK)[k]?= some (qK l):=by rw [dT,hx2];rfl
  have hd:wU w k=(Go.Gat.eF l && decide (zU w.zd l.name=k)):=by unfold wU;rw [hx2]
  have bad:wU w k=false->xQ w=false:=fun h=>by
   have:(List.range w.zd.length).all (wU w)=false:=by rw [rT];exact ⟨k,aq hk,aH⟩
   rw [g2,this]
  conv=>whnf
  refine uF ?_;(refine tf hg ?_)
  refine ah (Go.Gat.AZ l (hw.zd.2 l (dS hx2))) ?_;refine ⟨fun h5=>?_,fun h5=>?_⟩
  rotate_left
  ·(rw [bad (by rw [hd,h5];rfl)]);refine dd ?_;refine td ?_;(refine .inr ⟨aj,uH ?_⟩);exact uI
  refine dd ?_;refine ah (wX w.zd l.name aw) ?_;refine ⟨fun h6=>?_,fun h6=>?_⟩
  ·(rw [bad (by rw [hd,show decide (zU w.zd l.name=(k:Int))=false from by rw [pn];intro hh;simp [hh] at h6,sd])]);refine dd ?_;refine td ?_;(refine .inr ⟨aj,uH ?_⟩);exact uI
  refine dd ?_;refine td ?_
  refine .inl ⟨rfl,?_,fun j hj=>?_⟩
  ·rw [zu aw];exact cE 2
  ·by_cases e:j=k
   ·subst e;rw [hd,h5];simp at h6;simp [h6]
   ·exact hr j aw
 ·have hl1:(List.range w.zd.length).all (wU w)=true:=by
   rw [dZ]
   exact fun i hi=>hr i (aq hi)
  rw [g2,hl1];refine uD ?_;exact uI
end Go.Wor
