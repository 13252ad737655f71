import Derived.Test.YtkbnjgogjccmfaaGreatTF
import Derived.Test.YtkbnjgogjccmfaaGreatTS
import Derived.Test.YtkbnjgogjccmfaaGreatTT
set_option linter.all false
set_option maxRecDepth 100000
set_option maxHeartbeats 4000000
namespace Go.Wor
open Go.Ab Go.Proofs Tryz Go.Hy Go.Gat Go.Nam Go.Hos Go.Con Go.Sna
def kB (l:List u4) (n:Int):u4:=if 0<=n∧n < l.length then (l[n.toNat]?).getD [] else []
def vw (l:List eM) (n:Int):u4:=if 0<=n∧n < l.length then ((l[n.toNat]?).map (·.name)).getD [] else []
def nF (s:Sna) (r:iE):lb:=⟨kB s.zd r.listen,r.host,r.path,vw s.zk r.zi⟩
def iB (s:Sna):eP:=⟨s.zd,s.rules.map (nF s),s.zk⟩
def vj (s:Sna):Bool:=(qN (iB s)).1 == 0
structure wV (s:Sna):Prop where
 zd:s.zd.length < 1000000000000∧∀ x ∈ s.zd,x.length < 4000000000000000000
 rules:s.rules.length < 1000000000000∧∀ r ∈ s.rules,r.host.length < 1000000000000000∧r.path.length < 1000000000000000
 zk:s.zk.length < 1000000000000∧∀ x ∈ s.zk,x.name.length < 4000000000000000000∧x.zL.length < 4000000000000000000
def wV.cfg {s:Sna} (h:wV s):y8 (iB s):=by
 refine ⟨h.zd,⟨by simpa [iB] using h.rules.1,fun r hr=>?_⟩,h.zk⟩;simp only [iB,gG] at hr;obtain ⟨q,hq,rfl⟩:=hr;refine ⟨?_,(h.rules.2 q hq).1,(h.rules.2 q hq).2,?_⟩
 ·show (kB s.zd q.listen).length < _;unfold kB;split
  ·cases hx:s.zd[q.listen.toNat]? with
   | none=>simp
   | some x=>exact h.zd.2 x (dO hx)
  ·simp
 ·show (vw s.zk q.zi).length < _;unfold vw;split
  ·cases hx:s.zk[q.zi.toNat]? with
   | none=>simp
   | some x=>exact (h.zk.2 x (dO hx)).1
  ·simp
def On (s:Sna) (hs:wV s):tn 80 [] [Cs s] (Cf (iB s)) []:=by
 have m1:(s.rules.map yw).length=s.rules.length:=dR ..;have m2:(s.zd.map ql).length=s.zd.length:=dR ..;have m3:(s.zk.map j6).length=s.zk.length:=dR ..;have hl:=hs.rules.1;refine ab func80 ?_;rw [m1];refine zZ.seq s.rules.length (fun k=>(.za::.ref 0 [] 3 0 0:: .ref 1 [] 3 0 0:: .ref 2 [] 3 0 0:: .za::tZ (ic s.rules::I s.rules.length::I k:: .za::.za::.za::.za::.za::tZ (tZ (tZ (tZ (tZ (tZ ([]))))))))) (fun k=>[⟨1,104,3,[qK s],0⟩,⟨1,26,3,[[.uv 1 0 [],.uv 1 0 [],.uv 1 0 []]],0⟩,⟨1,26,3,[[lT s.zd,.gl 3 4 (((s.rules.take k).map (nF s)).map wb),lC s.zk]],0⟩,⟨4,131,4,((s.rules.take k).map (nF s)).map wb,0⟩]) (fun k=>True) ?_ trivial (fun k hk hr=>?_) (fun hr=>?_)
 ·refine zo.trans (zo.nv 2 1 131 4 rfl rfl (.inl rfl) rfl rfl) ?_;exact cC
 ·obtain ⟨r,hx⟩:∃ r,r=s.rules[k]:=⟨_,rfl⟩;have hg:(s.rules.map yw)[k]?= some (yw r):=by rw [dP,dM hk,hx];rfl
  have hlg:(((s.rules.take k).map (nF s)).map wb).length=k:=aA
  have eg:((s.rules.take (k+1)).map (nF s)).map wb=((s.rules.take k).map (nF s)).map wb++[wb (nF s r)]:=bP
  have hv:∀ a b,a=kB s.zd r.listen->b=vw s.zk r.zi->wb ⟨a,r.host,r.path,b⟩=wb (nF s r):=fun a b h1 h2=>by rw [h1,h2];rfl
  conv=>whnf
  refine uF ?_;(refine td hg ?_)
  refine ⟨fun h1=>?_,fun h1=>?_⟩
  rotate_left
  ·refine dd ?_;refine tc ?_
   refine ⟨fun q1=>?_,fun q1=>?_⟩;rotate_left;(focus (refine dd ?_;refine tc ?_;(refine ⟨rfl,.inr rfl,bQ,cb,dd ?_⟩);(refine .inl ⟨rfl,?_,trivial⟩);(rw [zu aw,eg,<- hv _ _ cf cg]);exact cE 4));refine dd ?_;(rw [m3]);refine ⟨fun q2=>?_,fun q2=>?_⟩;rotate_left;(focus (refine dd ?_;refine tc ?_;(refine ⟨rfl,.inr rfl,bQ,cb,dd ?_⟩);(refine .inl ⟨rfl,?_,trivial⟩);(rw [zu aw,eg,<- hv _ _ cf ck]);exact cE 4));(have q3:r.zi.toNat < s.zk.length:=by simp at q1 q2;omega);(have gq:(s.zk.map j6)[r.zi.toNat]?= some (j6 s.zk[r.zi.toNat]):=by rw [dP,dM q3];rfl);refine dd ?_;refine tc ?_;(refine ⟨bU,_,gq,dd ?_⟩);(refine ⟨rfl,.inr rfl,bQ,cb,dd ?_⟩);(refine .inl ⟨rfl,?_,trivial⟩);(rw [zu aw,eg,<- hv _ _ cf (by unfold vw;rw [dQ (by simp at q1 q2;omega),dM q3])]);exact cE 4
  refine dd ?_;rw [m2];refine ⟨fun h2=>?_,fun h2=>?_⟩
  rotate_left
  ·refine dd ?_;refine tc ?_
   refine ⟨fun q1=>?_,fun q1=>?_⟩;rotate_left;(focus (refine dd ?_;refine tc ?_;(refine ⟨rfl,.inr rfl,bQ,cb,dd ?_⟩);(refine .inl ⟨rfl,?_,trivial⟩);(rw [zu aw,eg,<- hv _ _ cm cg]);exact cE 4));refine dd ?_;(rw [m3]);refine ⟨fun q2=>?_,fun q2=>?_⟩;rotate_left;(focus (refine dd ?_;refine tc ?_;(refine ⟨rfl,.inr rfl,bQ,cb,dd ?_⟩);(refine .inl ⟨rfl,?_,trivial⟩);(rw [zu aw,eg,<- hv _ _ cm ck]);exact cE 4));(have q3:r.zi.toNat < s.zk.length:=by simp at q1 q2;omega);(have gq:(s.zk.map j6)[r.zi.toNat]?= some (j6 s.zk[r.zi.toNat]):=by rw [dP,dM q3];rfl);refine dd ?_;refine tc ?_;(refine ⟨bU,_,gq,dd ?_⟩);(refine ⟨rfl,.inr rfl,bQ,cb,dd ?_⟩);(refine .inl ⟨rfl,?_,trivial⟩);(rw [zu aw,eg,<- hv _ _ cm (by unfold vw;rw [dQ (by simp at q1 q2;omega),dM q3])]);exact cE 4
  have h3:r.listen.toNat < s.zd.length:=cp
  have gl:(s.zd.map ql)[r.listen.toNat]?= some (ql s.zd[r.listen.toNat]):=by rw [dP,dM h3];rfl
  refine dd ?_;refine tc ?_
  refine ⟨b9,_,gl,dd ?_⟩;refine ⟨fun q1=>?_,fun q1=>?_⟩;rotate_left;(focus (refine dd ?_;refine tc ?_;(refine ⟨rfl,.inr rfl,bQ,cb,dd ?_⟩);(refine .inl ⟨rfl,?_,trivial⟩);(rw [zu aw,eg,<- hv _ _ (by unfold kB;rw [dQ cp,dM h3]) cg]);exact cE 4));refine dd ?_;(rw [m3]);refine ⟨fun q2=>?_,fun q2=>?_⟩;rotate_left;(focus (refine dd ?_;refine tc ?_;(refine ⟨rfl,.inr rfl,bQ,cb,dd ?_⟩);(refine .inl ⟨rfl,?_,trivial⟩);(rw [zu aw,eg,<- hv _ _ (by unfold kB;rw [dQ cp,dM h3]) ck]);exact cE 4));(have q3:r.zi.toNat < s.zk.length:=by simp at q1 q2;omega);(have gq:(s.zk.map j6)[r.zi.toNat]?= some (j6 s.zk[r.zi.toNat]):=by rw [dP,dM q3];rfl);refine dd ?_;refine tc ?_;(refine ⟨bU,_,gq,dd ?_⟩);(refine ⟨rfl,.inr rfl,bQ,cb,dd ?_⟩);(refine .inl ⟨rfl,?_,trivial⟩);(rw [zu aw,eg,<- hv _ _ (by unfold kB;rw [dQ cp,dM h3]) (by unfold vw;rw [dQ (by simp at q1 q2;omega),dM q3])]);exact cE 4
 ·refine uD ?_;rw [gO];exact uI
def ID (s:Sna) (hs:wV s):tn 55 [] [Cs s] (Bo (vj s)) []:=by
 refine ab func55 ?_;refine ah (On s hs) ?_;refine ah (check_sound (iB s) hs.cfg) ?_;refine ⟨fun h=>?_,fun h=>?_⟩
 ·refine dd ?_
  (exact ⟨.inl rfl,_,.refl _,uN (by unfold vj;exact h.symm)⟩)
 ·refine dd ?_
  (exact ⟨.inl rfl,_,.refl _,uN (by unfold vj;exact h.symm)⟩)
end Go.Wor
namespace Go.Wor
open Go.Ab Go.Proofs Tryz Go.Hy Go.Gat Go.Nam Go.Hos Go.Con Go.Sna
open Go.Slp (kq H4)
def Ck {f:Nat->Int} {n:Nat} (h:(j7 f n).1=0):∀ j,j < n->f j=0:=fun j hj=>by
 unfold j7 at h;split at h
 ·rename_i i hi;rw [List.find?_range_eq_some] at hi;exact absurd h (aq hi.1)
 ·rename_i hn;rw [List.find?_range_eq_none] at hn;simpa using hn j hj
structure D7 (x:eM):Prop where
 name:xh x.name=true
 xH:x.xH=1∨x.xH=2
 xL:1<=x.xL∧x.xL<=4
 zL:1<=x.zL.length∧x.zL.length<=4
structure WD (s:Sna):Prop where
 zd:1<=s.zd.length∧s.zd.length<=4
 rules:1<=s.rules.length∧s.rules.length<=8
 zk:1<=s.zk.length∧s.zk.length<=4
 all:∀ x ∈ s.zk,D7 x
def jx {s:Sna} (h:vj s=true):WD s:=by
 unfold vj at h;have h:(qN (iB s)).1=0:=aq h
 unfold qN at h;split at h
 ·contradiction
 rename_i h1;split at h
 ·contradiction
 rename_i h2;split at h
 ·contradiction
 rename_i h3;have h1:(yZ (iB s)).1=0:=aq h1
 unfold yZ at h1;split at h1
 ·cases h1
 rename_i h4;have e:(iB s).zP.length=s.rules.length:=by simp [iB]
 rw [e] at h4;simp only [show (iB s).zd=s.zd from rfl,show (iB s).zk=s.zk from rfl] at h4;have b:∀ n:Nat,∀ m:Int,¬(decide (1<=(n:Int)) && decide ((n:Int)<=m))=false->1<=n∧(n:Int)<=m:=fun n m hh=>by simp at hh;omega
 have q1:=b s.zd.length 4 fun hh=>h4 (.inl (.inl hh))
 have q2:=b s.rules.length 8 fun hh=>h4 (.inl (.inr hh))
 have q3:=b s.zk.length 4 fun hh=>h4 (.inr hh)
 refine ⟨aw,aw,aw,fun x hx=>?_⟩;obtain ⟨i,hi,rfl⟩:=pa.1 hx;have h5:=Ck (f:=ma s.zk) (n:=s.zk.length) (Decidable.of_not_not h3) i hi;unfold ma at h5;rw [dM hi] at h5;dsimp only at h5;split at h5
 ·cases h5
 rename_i p1;split at h5
 ·cases h5
 split at h5
 ·cases h5
 rename_i p2;split at h5
 ·cases h5
 rename_i p3;split at h5
 ·cases h5
 rename_i p4;refine ⟨aq p1,?_,?_,?_⟩
 ·by_cases a:s.zk[i].xH=1
  ·exact .inl a
  ·by_cases a2:s.zk[i].xH=2
   ·exact .inr a2
   ·exact absurd ⟨a,a2⟩ p2
 ·simp at p3;omega
 ·simp at p4;omega
abbrev xE (x:eM):En:=(kq x.xL).1
def Tz {x:eM} (h:D7 x):kq x.xL=(xE x,0):=by
 have:=h.xL;unfold xE kq;rw [dN aw]
def im (x:eM):Gr:=⟨0,List.replicate x.zL.length (xE x)⟩
abbrev Wc:Sna:=⟨[],[],[]⟩
abbrev D4:u3:=⟨Wc,[],false⟩
def qO (s:Sna):u3 × Int:=if vj s then (⟨s,s.zk.map im,false⟩,0) else (D4,1)
abbrev Cv (v:u3):C:=.agg (zF v)
abbrev tV (r:u3 × Int):C:=.u1 [Cv r.1,I r.2]
def Ix (s:Sna) (hs:wV s):tn 65 [] [Cs s] (tV (qO s)) []:=by
 have m1:(s.zk.map j6).length=s.zk.length:=dR ..;refine ab func65 ?_;refine ah (ID s hs) ?_;refine ⟨fun h1=>?_,fun h1=>?_⟩
 rotate_left
 ·have e:qO s=(D4,1):=by unfold qO;rw [dN ba]
  rw [e];refine dd ?_;refine tc ?_
  exact ⟨.inl rfl,_,zo.var 1 rfl rfl rfl (.cons (WC.nil 0 1) (.cons (WC.nil 0 4) (.cons (WC.nil 0 4) (.cons (WC.nil 0 2) (.cons (.refl _) .nil))))),rfl⟩
 have e:qO s=(⟨s,s.zk.map im,false⟩,0):=by unfold qO;rw [dQ h1]
 have hg:=jx h1;rw [e];refine dd ?_;refine tc ?_
 rw [m1];refine zZ.seq s.zk.length (fun k=>(.za::.ref 0 [] 3 0 0::.ref 1 [] 5 0 0::I 0::.ref 2 [] 5 0 0::tZ (.za::.za::.za::.za::(lC s.zk)::I s.zk.length::I k::tZ (tZ (tZ (tZ ([.za]))))))) (fun k=>[⟨1,104,3,[qK s],0⟩,⟨1,107,5,[[.uv 1 0 [],.uv 1 0 [],.uv 1 0 [],.uv 1 0 [],Bo false]],0⟩,⟨1,107,5,[qK s++[.gl 3 2 (((s.zk.take k).map im).map zE),Bo false]],0⟩,⟨4,134,2,((s.zk.take k).map im).map zE,0⟩]) (fun k=>True) ?_ trivial (fun k hk hr=>?_) (fun hr=>?_)
 ·refine zo.trans (zo.nv 2 3 134 2 rfl rfl (.inl rfl) rfl rfl) ?_;exact cC
 ·obtain ⟨x,hx⟩:∃ x,x=s.zk[k]:=⟨_,rfl⟩;have hgx:(s.zk.map j6)[k]?= some (j6 x):=by rw [dP,dM hk,hx];rfl
  have hgood:=hg.all x tD;have hc4:=hg.zk.2;have h4:=hgood.zL.2;have hlg:(((s.zk.take k).map im).map zE).length=k:=aA
  have eg:((s.zk.take (k+1)).map im).map zE=((s.zk.take k).map im).map zE++[zE (im x)]:=bP
  have mh:(x.zL.map vq).length=x.zL.length:=dR ..
  have fs:tn 91 [] [I x.xL] (.u1 [.agg (zx (xE x)),I 0]) []:=by
   have:=H4 x.xL;rw [Tz hgood] at this;exact dy
  conv=>whnf
  refine uF ?_;(refine td hgx ?_)
  rw [mh];refine zZ.seq x.zL.length (fun j=>(.za::.ref 0 [] 3 0 0::.ref 1 [] 5 0 0::I 0::.ref 2 [] 5 0 0::.za::.ref 4 [] 4 0 0::.ref 5 [] 2 0 0::tZ (.za::(lC s.zk)::I s.zk.length::I k::.za::.za::.za::.za::.za::I x.zL.length::I j::tZ (tZ (tZ ([.za,.za])))))) (fun j=>[⟨1,104,3,[qK s],0⟩,⟨1,107,5,[[.uv 1 0 [],.uv 1 0 [],.uv 1 0 [],.uv 1 0 [],Bo false]],0⟩,⟨1,107,5,[qK s++[.gl 3 2 (((s.zk.take k).map im).map zE),Bo false]],0⟩,⟨4,134,2,((s.zk.take k).map im).map zE,0⟩,⟨1,129,4,[j6 x],0⟩,⟨1,134,2,[[U 0,.gl 6 3 ((List.replicate j (xE x)).map zx)]],0⟩,⟨4,136,3,((List.replicate j (xE x)).map zx),0⟩]) (fun k=>True) ?_ trivial (fun j hj hr=>?_) (fun hr=>?_)
  ·refine zo.trans (zo.nv 5 1 136 3 rfl rfl (.inl rfl) rfl rfl) ?_;exact cC
  ·have hle:(((List.replicate j (xE x)).map zx)).length=j:=by simp
   have ee:((List.replicate (j+1) (xE x)).map zx)=((List.replicate j (xE x)).map zx)++[zx (xE x)]:=by rw [tp,pB];rfl
   conv=>whnf
   refine uF ?_;refine ah fs ?_;refine tc ?_
   refine ⟨rfl,.inr rfl,by rw [hle];simp [maxLen];omega,by rw [hle];show (j+1) * 40<=_;omega,dd ?_⟩;refine .inl ⟨rfl,?_,trivial⟩;rw [zu aw,ee];exact cE 7
  ·refine uD ?_;refine ⟨rfl,.inr rfl,bQ,by rw [hlg];show (k+1) * 32<=_;omega,dd ?_⟩;refine .inl ⟨rfl,?_,trivial⟩;rw [zu aw,eg];exact cE 4
 ·refine uD ?_;rw [gO];exact uI
def wy (n:Int):List (List Int) × Int:=if n < 1∨8 < n then ([],1) else (List.replicate n.toNat [0,0,0,0,0,0],0)
abbrev MW (r:List (List Int) × Int):C:=.u1 [eG r.1,I r.2]
def Aa (c:List (List Int)):Bool:=c.all (fun r=>r.length == 6) && decide (1<=c.length) && decide (c.length<=8)
def KX {rows:List (List C)} (h:(rows.all fun r=>r.all fun c=>jf c && zy c)=true):∀ r ∈ rows,∀ c ∈ r,jf c=true∧zy c=true:=fun r hr c hc=>by
 have:=dV.1 (dV.1 h r hr) c hc;simpa using this
def shut_map {α:Type} {enc:α->List C} (h:∀ x,(enc x).all (fun c=>jf c && zy c)=true) (l:List α):∀ r ∈ l.map enc,∀ c ∈ r,jf c=true∧zy c=true:=
 KX (by rw [List.all_map];exact dV.2 fun x _=>h x)
def yf {n ty sz fz:Nat} {rows:List (List C)} (h:∀ r ∈ rows,∀ c ∈ r,qY n 9 c=true):qM n [⟨1,ty,sz,rows,fz⟩]=true:=by
 unfold qM;simp only [rD,sM,sC];simp;exact h
def US {α:Type} (a b:α) {k n:Nat} (h:k < n):(List.replicate k a++List.replicate (n - k) b).set k a=List.replicate (k+1) a++List.replicate (n - (k+1)) b:=by
 rw [sX _ _ aj];have e:n - k=(n - (k+1))+1:=aw
 simp only [r8,rb];rw [e,rR,sH,tp,pQ]
 rfl
def UR {α:Type} (a b:α) {k n:Nat} (h:k < n):(List.replicate k a++List.replicate (n - k) b)[k]?= some b:=by
 rw [gj aj];simp only [r8,rb];have e:n - k=(n - (k+1))+1:=aw
 rw [e,rR]
 rfl
def NY (n:Int):tn 66 [] [I n] (MW (wy n)) []:=by
 refine ab func66 ?_;refine ⟨fun h1=>?_,fun h1=>?_⟩
 ·have e:wy n=([],1):=by unfold wy;rw [dQ b9]
  rw [e];refine dd ?_;refine tc ?_
  exact dj
 refine dd ?_;refine ⟨fun h2=>?_,fun h2=>?_⟩
 ·have e:wy n=([],1):=by unfold wy;rw [dQ aZ]
  rw [e];refine dd ?_;refine tc ?_
  exact dj
 have b1:1<=n∧n<=8:=cp
 have e:wy n=(List.replicate n.toNat [0,0,0,0,0,0],0):=by unfold wy;rw [dN aw]
 rw [e];refine dd ?_;refine ⟨rfl,aw,by show (24:Int) * n<=_;omega,aw,dd ?_⟩;refine zZ.seq n.toNat (fun k=>(I n::.za::.uv 1 0 []::I 0::.sl 0 [] 1 0 n.toNat false::tZ (.za::.za::I n.toNat::I k::tZ ([])))) (fun k=>[⟨1,0,1,(List.replicate k [lU [0,0,0,0,0,0]]++List.replicate (n.toNat - k) [C.uv 1 0 []]),0⟩]) (fun k=>True) ?_ trivial (fun k hk hr=>?_) (fun hr=>?_)
 ·refine zo.trans (zo.Bf 0 rfl (by intro r hr c hc;rw [gS hr] at hc;rw [gI.1 hc];rfl)) ?_;exact cC
 ·conv=>whnf
  refine uF ?_;refine ⟨rfl,ar,by show (8:Int) * 6<=_;decide,ar,dd ?_⟩;refine ⟨aw,aA,dd ?_⟩;have e1:0+(k:Int).toNat=k:=aj
  rw [e1];refine ⟨_,UR _ _ hk,rfl,dd ?_⟩;refine .inl ⟨rfl,?_,trivial⟩;refine zo.trans (zo.zV 0 k 0 (r:=[.sl 1 [] 1 0 6 false]) rfl (by rw [dY,dQ rfl,dQ aA];rfl) rfl rfl (.inr rfl) rfl rfl ?_ ?_) ?_
  ·exact KX (rows:=List.replicate 6 [U 0]) rfl
  ·intro r hr c hc;rcases pd hr with hr | rfl
   ·rcases gH.1 hr with hr | hr <;> (rw [gS hr] at hc;rw [gI.1 hc];rfl)
   ·rw [gI.1 hc];rfl
  ·have e3:(List.replicate k [lU [0,0,0,0,0,0]]++List.replicate (n.toNat - k) [C.uv 1 0 []]).set k [lU [0,0,0,0,0,0]]=(List.replicate (k+1) [lU [0,0,0,0,0,0]]++List.replicate (n.toNat - (k+1)) [C.uv 1 0 []]):=US _ _ hk;rw [gF,<- e3,zu aw];refine zo.xv 1 hU rfl rfl rfl (yf (rows:=(List.replicate k [lU [0,0,0,0,0,0]]++List.replicate (n.toNat - k) [C.uv 1 0 []]).set k [lU [0,0,0,0,0,0]]) fun r hr c hc=>?_) rfl;rw [e3] at hr;rcases gH.1 hr with hr | hr <;> (rw [gS hr] at hc;rw [gI.1 hc];rfl)
 ·refine uD ?_;have e4:(List.replicate n.toNat [(0:Int),0,0,0,0,0]).map zN=(List.replicate n.toNat [lU [0,0,0,0,0,0]]++List.replicate (n.toNat - n.toNat) [C.uv 1 0 []]):=by rw [List.map_replicate,rb,List.replicate_zero,rJ];rfl
  have sh:∀ r ∈ (List.replicate n.toNat [lU [0,0,0,0,0,0]]++List.replicate (n.toNat - n.toNat) [C.uv 1 0 []]),∀ c ∈ r,jf c=true∧zy c=true:=by
   rw [rb,List.replicate_zero,rJ];intro r hr c hc;rw [gS hr] at hc;rw [gI.1 hc];exact ⟨rfl,rfl⟩
  refine ⟨.inl rfl,_,zo.Ik 2 rfl rfl (.inl rfl) aj sh,?_⟩;rw [<- e4]
  rfl
def ND (c:List (List Int)) (hc:c.length < 4000000000000000000):tn 39 [] [eG c] (Bo (Aa c)) []:=by
 have m1:(c.map zN).length=c.length:=dR ..;refine ab func39 ?_;rw [m1];refine zZ.seq c.length (fun k=>((eG c)::.za::Bo false::.za::.za::(eG c)::I c.length::I k::tZ ([.za,.za,.za,.za,.za,.za,.za]))) (fun k=>[]) (fun k=>∀ j,(h:j < c.length)->j < k->(c[j].length == 6)=true) ?_ aj (fun k hk hr=>?_) (fun hr=>?_)
 ·exact cC
 ·obtain ⟨x,hx⟩:∃ x,x=c[k]:=⟨_,rfl⟩;have hg:(c.map zN)[k]?= some (zN x):=by rw [dP,dM hk,hx];rfl
  have mx:(x.map jH).length=x.length:=dR ..;conv=>whnf
  refine uF ?_;(refine td hg ?_)
  rw [mx];refine ⟨fun h1=>?_,fun h1=>?_⟩
  ·have hf:c.all (fun r=>r.length == 6)=false:=by
    rw [rM];exact ⟨x,bN,by simp at h1 ⊢;omega⟩
   have e:Aa c=false:=by unfold Aa;rw [hf];rfl
   rw [e];refine dd ?_;(refine .inr ⟨aj,uH ?_⟩)
   exact uI
  ·refine dd ?_;refine .inl ⟨rfl,?_,fun j hj hjk=>?_⟩
   ·rw [zu aw];exact cE 0
   ·by_cases e:j=k
    ·subst e;rw [<- hx];simp at h1 ⊢;omega
    ·exact hr j hj aw
 ·have ht:c.all (fun r=>r.length == 6)=true:=by
   rw [dV];intro r hr';obtain ⟨j,hj,rfl⟩:=pa.1 hr';exact hr j hj hj
  have e:Aa c=(decide (1<=c.length) && decide (c.length<=8)):=by unfold Aa;rw [ht];rfl
  rw [e];refine uD ?_;rw [m1];refine ⟨fun h1=>?_,fun h1=>?_⟩
  ·refine dd ?_;rw [m1];refine ⟨fun h2=>?_,fun h2=>?_⟩
   ·refine dd ?_;refine tc ?_
    (exact ⟨.inl rfl,_,.refl _,uN (by symm;simp at h1 h2 ⊢;omega)⟩)
   ·refine dd ?_;refine tc ?_
    (exact ⟨.inl rfl,_,.refl _,uN (by symm;simp at h1 h2 ⊢;omega)⟩)
  ·refine dd ?_;refine tc ?_
   (exact ⟨.inl rfl,_,.refl _,uN (by symm;simp at h1 ⊢;omega)⟩)
abbrev Cw (w:Wor):C:=.agg (zJ w)
abbrev tW (r:Wor × Int):C:=.u1 [Cw r.1,I r.2]
abbrev Al:Wor:=⟨0,0,0,[],[],[],[],[]⟩
def vr (s:u4):eE:=⟨s,false,0,false⟩
def Ae (l:List u4) (i:Nat):Bool:=match l[i]? with
 | some s=>xh s && decide (zS ((l.take i).map vr) s < 0)
 | none=>true
def kG (l:List u4):Bool:=(List.range l.length).all (Ae l)
def ir (s:Sna) (l:List u4) (n:Int):Wor × Int:=
 if vj s=false∨n < 1∨8 < n∨kG l=false then (Al,1)
 else (⟨0,0,0,List.replicate n.toNat 0,[(qO s).1],l.map vr,List.replicate n.toNat [0,0,0,0,0,0],[]⟩,0)
def RQ (s:Sna) (l:List u4) (n:Int) (hs:wV s) (hl:l.length < 1000000000∧∀ x ∈ l,x.length < 4000000000000000000):tn 41 [] [Cs s,lT l,I n] (tW (ir s l n)) []:=by
 have m1:(l.map ql).length=l.length:=dR ..;have cs:=Ix s hs;refine ab func41 ?_;by_cases h0:vj s=true
 rotate_left
 ·have e:ir s l n=(Al,1):=by unfold ir;rw [dQ (.inl (aq h0))]
  have e2:qO s=(D4,1):=by unfold qO;rw [dN h0]
  rw [e2] at cs;have cs:tn 65 [] [Cs s] (.u1 [Cv D4,I 1]) []:=cs;rw [e];refine ah cs ?_;refine tc ?_
  exact cK
 have e2:qO s=((qO s).1,0):=by unfold qO;rw [dQ h0]
 rw [e2] at cs;have cs:tn 65 [] [Cs s] (.u1 [Cv (qO s).1,I 0]) []:=cs;have hn:=NY n;refine ah cs ?_;refine tc ?_
 by_cases h1:n < 1∨8 < n
 ·have e:ir s l n=(Al,1):=by unfold ir;rw [dQ aw]
  have e3:wy n=([],1):=by unfold wy;rw [dQ h1]
  rw [e3] at hn;have hn:tn 66 [] [I n] (.u1 [eG [],I 1]) []:=hn;rw [e];refine ah hn ?_;refine tc ?_
  exact cK
 have e3:wy n=(List.replicate n.toNat [0,0,0,0,0,0],0):=by unfold wy;rw [dN h1]
 rw [e3] at hn;have hn:tn 66 [] [I n] (.u1 [eG (List.replicate n.toNat [0,0,0,0,0,0]),I 0]) []:=hn;refine ah hn ?_;refine tc ?_
 refine .inl ⟨⟨false,[0,3],[2],[]⟩,au,uH ?_⟩;refine ⟨rfl,aw,by show (8:Int) * n<=_;omega,aw,dd ?_⟩;refine hZ ?_
 rw [m1];have hb:kG l=false->ir s l n=(Al,1):=fun h=>by unfold ir;rw [dQ (.inr (.inr (.inr h)))]
 refine zZ.seq l.length (fun k=>(.za::.za::.za::.ref 0 [] 3 0 0:: .za::.za::.ref 1 [] 8 0 0::I 0:: .za::.za::.za::.ref 3 [] 8 0 0:: .za::.za::tZ (tZ (tZ (lT l::I l.length::I k:: .za::.za::.za::.za::.za::.za::.za::tZ (tZ ([]))))))) (fun k=>[⟨1,104,3,[qK s],0⟩,⟨1,37,8,[[I 0,I 0,I 0,.uv 1 0 [],.uv 1 0 [],.uv 1 0 [],.uv 1 0 [],.uv 1 0 []]],0⟩,⟨1,107,5,[zF (qO s).1],0⟩,⟨1,37,8,[[I 0,I 0,I 0,.uv 0 1 (List.replicate n.toNat [I 0]),.uv 1 5 [zF (qO s).1],.gl 4 4 (((l.take k).map vr).map qH),eG (List.replicate n.toNat [0,0,0,0,0,0]),.uv 1 0 []]],0⟩,⟨4,85,4,((l.take k).map vr).map qH,0⟩]) (fun k=>∀ j,j < k->Ae l j=true) ?_ aj (fun k hk hr=>?_) (fun hr=>?_)
 ·refine zo.trans (zo.nv 3 5 85 4 rfl rfl (.inl rfl) rfl rfl) ?_;exact cC
 ·obtain ⟨x,hx⟩:∃ x,x=l[k]:=⟨_,rfl⟩;have hx2:l[k]?= some x:=by rw [dM hk,hx]
  have hg:(l.map ql)[k]?= some (ql x):=by rw [dP,hx2];rfl
  have hxm:x ∈ l:=bN
  have hno:Ae l k=(xh x && decide (zS ((l.take k).map vr) x < 0)):=by unfold Ae;rw [hx2]
  have bad:Ae l k=false->ir s l n=(Al,1):=fun h=>hb (by unfold kG;rw [rM];exact ⟨k,aq hk,aH⟩)
  have hlg:(((l.take k).map vr).map qH).length=k:=aA
  have eg:((l.take (k+1)).map vr).map qH=((l.take k).map vr).map qH++[qH (vr x)]:=bP
  conv=>whnf
  refine uF ?_;(refine td hg ?_)
  refine ah (yy x (by have:=hl.2 x hxm;omega)) ?_;refine ⟨fun h2=>?_,fun h2=>?_⟩
  rotate_left
  ·rw [bad (by rw [hno,h2];rfl)];refine dd ?_;refine tc ?_
   (refine .inr ⟨aj,uH ?_⟩)
   exact cK
  refine dd ?_;refine ah (wS ((l.take k).map vr) x aA) ?_;refine ⟨fun h3=>?_,fun h3=>?_⟩
  ·rw [bad (by rw [hno,show decide (zS ((l.take k).map vr) x < 0)=false from by simp at h3 ⊢;omega,r9])];refine dd ?_;refine tc ?_
   (refine .inr ⟨aj,uH ?_⟩)
   exact cK
  refine dd ?_;refine tc ?_
  refine ⟨rfl,.inr rfl,bQ,by rw [hlg];show (k+1) * 40<=_;omega,dd ?_⟩;refine .inl ⟨rfl,?_,fun j hj=>?_⟩
  ·rw [zu aw,eg];exact cE 5
  ·by_cases e:j=k
   ·subst e;rw [hno,h2];simp at h3 ⊢;omega
   ·exact hr j aw
 ·have z7:kG l=true:=by
   unfold kG;rw [dV];intro i hi;exact hr i (aq hi)
  have e:ir s l n=(⟨0,0,0,List.replicate n.toNat 0,[(qO s).1],l.map vr,List.replicate n.toNat [0,0,0,0,0,0],[]⟩,0):=by unfold ir;rw [dN (by simp only [h0,z7];simp;omega)]
  rw [e];refine uD ?_;rw [gO];refine ⟨.inl rfl,_,zo.var 1 rfl rfl rfl (.cons (.refl _) (.cons (.refl _) (.cons (.refl _) (.cons (.refl _) (.cons (WC.share 1 5 _) (.cons (.refl _) (.cons (.refl _) (.cons (WC.nil 0 3) .nil)))))))),?_⟩
  have e9:zJ ⟨0,0,0,List.replicate n.toNat 0,[(qO s).1],l.map vr,List.replicate n.toNat [0,0,0,0,0,0],[]⟩=[I 0,I 0,I 0,.uv 0 1 (List.replicate n.toNat [I 0]),.uv 0 5 [zF (qO s).1],lL (l.map vr),eG (List.replicate n.toNat [0,0,0,0,0,0]),.uv 0 3 []]:=by
   have e8:(List.replicate n.toNat (0:Int)).map encI=List.replicate n.toNat [I 0]:=List.map_replicate;show [I 0,I 0,I 0,C.uv 0 1 ((List.replicate n.toNat (0:Int)).map encI),_,_,_,_]=_;rw [e8]
   rfl
  show _=some (C.u1 [C.agg (zJ ⟨0,0,0,List.replicate n.toNat 0,[(qO s).1],l.map vr,List.replicate n.toNat [0,0,0,0,0,0],[]⟩),I 0]);rw [e9]
  rfl
end Go.Wor
namespace Go.Wor
open Go.Ab Go.Proofs Tryz Go.Hy Go.Gat Go.Nam Go.Hos Go.Con Go.Sna
def j0 {F:List (List C)} {z:List C} {k n:Nat} (hF:F.length=n) (h:k < n):(F.take k++(List.replicate n z).drop k)[k]?= some z:=by
 rw [gj aA,List.length_take,pA,rT,dQ aw]
def qU {F:List (List C)} {x z:List C} {k n:Nat} (hx:F[k]?= some x) (hn:k < n):(F.take k++(List.replicate n z).drop k).set k x=F.take (k+1)++(List.replicate n z).drop (k+1):=by
 obtain ⟨hk,rfl⟩:=dL.1 hx;have e1:(F.take k).length=k:=aA
 rw [sX _ _ aw,e1,rb,List.drop_replicate,List.drop_replicate,px hk,pQ];have e2:n - k=(n - (k+1))+1:=aw
 rw [e2,rR]
 rfl
def yW {F:List (List C)} {z:List C} {n:Nat} (hF:F.length=n):F.take n++(List.replicate n z).drop n=F:=by
 rw [rG aw,List.drop_of_length_le aj,rJ]
def KS (x:Int) (l:List Int) (hl:l.length < 1000000000):tn 155 [] [lI (x::l)] (.sl 0 [] 1 0 (x::l).length false) [⟨2,3,1,(x::l).map encI,0⟩]:=by
 have e:0+((l.map encI).length+1)=(x::l).length:=aj
 rw [<- e];refine zb.zU (fn:=f155) func155 rfl (uH ?_);refine ⟨aj,uH ?_⟩;refine .inr ⟨.inl rfl,ay,bc,uH ?_⟩;exact uJ
def y9 (l:List Int) (hl:l.length < 1000000000):tn 155 [] [lI l] (lI l) []:=by
 cases l with
 | nil=>
  refine ab func155 ?_;refine ⟨?_,?_⟩
  ·refine dd ?_;exact dj
  ·refine dd ?_;refine .inr ⟨rfl,dd ?_⟩;exact ⟨.inl rfl,_,zo.cell 2 rfl ((WC.none 1 1 1).trans (WC.share 1 1 [])),rfl⟩
 | cons x l=>
  have hl3:l.length+1 < 1000000000:=aq hl
  refine ab func155 ?_;refine ⟨aj,uH ?_⟩;refine .inr ⟨.inl rfl,ay,bc,uH ?_⟩;exact dc
def SO (x:Int) (l:List Int) (hl:l.length < 1000000000):tn 190 [] [lU (x::l)] (.sl 0 [] 1 0 (x::l).length false) [⟨2,43,1,(x::l).map jH,0⟩]:=by
 have e:0+((l.map jH).length+1)=(x::l).length:=aj
 rw [<- e];refine zb.zU (fn:=f190) func190 rfl (uH ?_);refine ⟨aj,uH ?_⟩;refine .inr ⟨.inl rfl,ay,bc,uH ?_⟩;exact uJ
def Sv (l:List Int) (hl:l.length < 1000000000):tn 190 [] [lU l] (lU l) []:=by
 cases l with
 | nil=>
  refine ab func190 ?_;refine ⟨?_,?_⟩
  ·refine dd ?_;exact dj
  ·refine dd ?_;refine .inr ⟨rfl,dd ?_⟩;exact ⟨.inl rfl,_,zo.cell 2 rfl ((WC.none 1 1 1).trans (WC.share 1 1 [])),rfl⟩
 | cons x l=>
  have hl3:l.length+1 < 1000000000:=aq hl
  refine ab func190 ?_;refine ⟨aj,uH ?_⟩;refine .inr ⟨.inl rfl,ay,bc,uH ?_⟩;exact dc
def SN (x:eE) (l:List eE) (hl:l.length < 1000000000):tn 158 [] [lL (x::l)] (.sl 0 [] 4 0 (x::l).length false) [⟨2,85,4,(x::l).map qH,0⟩]:=by
 have e:0+((l.map qH).length+1)=(x::l).length:=aj
 rw [<- e];refine zb.zU (fn:=f158) func158 rfl (uH ?_);refine ⟨aj,uH ?_⟩;refine .inr ⟨.inl rfl,ay,by show _ * 40<=_;simp;omega,uH ?_⟩;exact uJ
def vT (l:List eE) (hl:l.length < 1000000000):tn 158 [] [lL l] (lL l) []:=by
 cases l with
 | nil=>
  refine ab func158 ?_;refine ⟨?_,?_⟩
  ·refine dd ?_;exact ⟨.inl rfl,_,zo.cell 2 rfl (WC.nil 0 4),rfl⟩
  ·refine dd ?_;refine .inr ⟨rfl,dd ?_⟩;exact ⟨.inl rfl,_,zo.cell 2 rfl ((WC.none 1 4 4).trans (WC.share 1 4 [])),rfl⟩
 | cons x l=>
  have hl3:l.length+1 < 1000000000:=aq hl
  refine ab func158 ?_;refine ⟨aj,uH ?_⟩;refine .inr ⟨.inl rfl,ay,by show _ * 40<=_;simp;omega,uH ?_⟩;exact dc
def Kz (x:eC) (l:List eC) (hl:l.length < 1000000000):tn 161 [] [lR (x::l)] (.sl 0 [] 3 0 (x::l).length false) [⟨2,101,3,(x::l).map xq,0⟩]:=by
 have e:0+((l.map xq).length+1)=(x::l).length:=aj
 rw [<- e];refine zb.zU (fn:=f161) func161 rfl (uH ?_);refine ⟨aj,uH ?_⟩;refine .inr ⟨.inl rfl,ay,by show _ * 24<=_;simp;omega,uH ?_⟩;exact uJ
def AJ (l:List eC) (hl:l.length < 1000000000):tn 161 [] [lR l] (lR l) []:=by
 cases l with
 | nil=>
  refine ab func161 ?_;refine ⟨?_,?_⟩
  ·refine dd ?_;exact ⟨.inl rfl,_,zo.cell 2 rfl (WC.nil 0 3),rfl⟩
  ·refine dd ?_;refine .inr ⟨rfl,dd ?_⟩;exact ⟨.inl rfl,_,zo.cell 2 rfl ((WC.none 1 3 3).trans (WC.share 1 3 [])),rfl⟩
 | cons x l=>
  have hl3:l.length+1 < 1000000000:=aq hl
  refine ab func161 ?_;refine ⟨aj,uH ?_⟩;refine .inr ⟨.inl rfl,ay,by show _ * 24<=_;simp;omega,uH ?_⟩;exact dc
def Jh (e:En) (he:e.next.length < 1000000000):tn 198 [] [.agg [],.agg (zx e)] (.agg (zx e)) []:=by
 refine ab func198 ?_;refine ah (y9 e.next he) ?_;exact uI
def Uj (l:List En) (hl:l.length < 1000000000) (hp:∀ x ∈ l,tn 198 [] [.agg [],.agg (zx x)] (.agg (zx x)) []):tn 197 [] [lE l,.fn 198 [] [],.agg []] (.sl 0 [] 3 0 l.length false) [⟨2,136,3,l.map zx,0⟩]:=by
 have m1:(l.map zx).length=l.length:=dR ..;refine zb.zU (fn:=f197) func197 rfl (uH ?_);rw [m1];refine ⟨rfl,aw,by show (40:Int) * _<=_;omega,aw,dd ?_⟩;rw [m1,toNat_cast];refine zZ.seq l.length (fun k=>((lE l)::.fn 198 [] []::.za::.za::.za::.ref 0 [] 0 0 0::.uv 1 0 []::.sl 1 [] 3 0 l.length false::.za::.za::.za::.za::.za::(lE l)::I l.length::I k::tZ ([.za,.za,.za,.za,.za]))) (fun k=>[⟨1,243,0,[[]],0⟩,⟨2,136,3,(l.map zx).take k++(List.replicate l.length [U 0,.uv 1 0 [],I 0]).drop k,0⟩]) (fun k=>True) ?_ trivial (fun k hk hr=>?_) (fun hr=>?_)
 ·exact cC
 ·obtain ⟨x,hx⟩:∃ x,x=l[k]:=⟨_,rfl⟩;have hx2:l[k]?= some x:=by rw [dM hk,hx]
  have hg:(l.map zx)[k]?= some (zx x):=by rw [dP,hx2];rfl
  conv=>whnf
  refine uF ?_;(refine td hg ?_)
  refine ah (hp x tD) ?_;refine ⟨aw,aA,dd ?_⟩;have e1:0+(k:Int).toNat=k:=aj
  rw [e1];refine ⟨_,j0 aj hk,rfl,dd ?_⟩;refine .inl ⟨rfl,?_,trivial⟩;have e2:=qU (z:=[U 0,.uv 1 0 [],I 0]) (n:=l.length) hg hk;rw [zu aw,<- e2];exact cE 2
 ·exact db
def z5 {r:List C} (h:r.all zy=true):∀ q ∈ [r],∀ c ∈ q,zy c=true:=fun q hq c hc=>by
 rw [gI.1 hq] at hc;exact dV.1 h c hc
def Hv (g:Gr):Prop:=g.ends.length < 1000000000∧∀ e ∈ g.ends,e.next.length < 1000000000
def Eb (v:u3):Prop:=v.zm.length < 1000000000∧∀ g ∈ v.zm,Hv g
structure qX (w:Wor):Prop where
 pins:w.pins.length < 1000000000
 ze:w.ze.length < 1000000000∧∀ v ∈ w.ze,Eb v
 zd:w.zd.length < 1000000000
 counts:w.counts.length < 1000000000∧∀ r ∈ w.counts,r.length < 1000000000
 zr:w.zr.length < 1000000000
def Il (g:Gr) (hg:Hv g):tn 189 [] [.agg [],.agg (zE g)] (.agg (zE g)) []:=by
 refine ab func189 ?_;refine af [] (Uj g.ends hg.1 fun e he=>Jh e (hg.2 e he)) ?_;exact ⟨.inl rfl,_,zo.zV 2 0 1 rfl rfl rfl rfl (.inr rfl) rfl aj (shut_map (enc:=zx) (fun _=>rfl) g.ends) (z5 rfl),rfl⟩
def Ul (l:List Gr) (hl:l.length < 1000000000) (hp:∀ x ∈ l,tn 189 [] [.agg [],.agg (zE x)] (.agg (zE x)) []):tn 188 [] [lG l,.fn 189 [] [],.agg []] (.sl 0 [] 2 0 l.length false) [⟨2,134,2,l.map zE,0⟩]:=by
 have m1:(l.map zE).length=l.length:=dR ..;refine zb.zU (fn:=f188) func188 rfl (uH ?_);rw [m1];refine ⟨rfl,aw,by show (32:Int) * _<=_;omega,aw,dd ?_⟩;rw [m1,toNat_cast];refine zZ.seq l.length (fun k=>((lG l)::.fn 189 [] []::.za::.za::.za::.ref 0 [] 0 0 0::.uv 1 0 []::.sl 1 [] 2 0 l.length false::.za::.za::.za::.za::.za::(lG l)::I l.length::I k::tZ ([.za,.za,.za,.za,.za]))) (fun k=>[⟨1,243,0,[[]],0⟩,⟨2,134,2,(l.map zE).take k++(List.replicate l.length ([U 0,.uv 1 0 []]:List C)).drop k,0⟩]) (fun k=>True) ?_ trivial (fun k hk hr=>?_) (fun hr=>?_)
 ·exact cC
 ·obtain ⟨x,hx⟩:∃ x,x=l[k]:=⟨_,rfl⟩;have hx2:l[k]?= some x:=by rw [dM hk,hx]
  have hg:(l.map zE)[k]?= some (zE x):=by rw [dP,hx2];rfl
  conv=>whnf
  refine uF ?_;(refine td hg ?_)
  refine ah (hp x tD) ?_;refine ⟨aw,aA,dd ?_⟩;have e1:0+(k:Int).toNat=k:=aj
  rw [e1];refine ⟨_,j0 aj hk,rfl,dd ?_⟩;refine .inl ⟨rfl,?_,trivial⟩;have e2:=qU (z:=([U 0,.uv 1 0 []]:List C)) (n:=l.length) hg hk;rw [zu aw,<- e2];exact cE 2
 ·exact db
def jI (v:u3) (hv:Eb v):tn 157 [] [.agg [],.agg (zF v)] (.agg (zF v)) []:=by
 refine ab func157 ?_;refine af [] (Ul v.zm hv.1 fun g hg=>Il g (hv.2 g hg)) ?_;exact ⟨.inl rfl,_,zo.zV 2 0 3 rfl rfl rfl rfl (.inr rfl) rfl aj (shut_map (enc:=zE) (fun _=>rfl) v.zm) (z5 rfl),rfl⟩
def wK (l:List u3) (hl:l.length < 1000000000) (hp:∀ x ∈ l,tn 157 [] [.agg [],.agg (zF x)] (.agg (zF x)) []):tn 156 [] [lV l,.fn 157 [] [],.agg []] (.sl 0 [] 5 0 l.length false) [⟨2,107,5,l.map zF,0⟩]:=by
 have m1:(l.map zF).length=l.length:=dR ..;refine zb.zU (fn:=f156) func156 rfl (uH ?_);rw [m1];refine ⟨rfl,aw,by show (104:Int) * _<=_;omega,aw,dd ?_⟩;rw [m1,toNat_cast];refine zZ.seq l.length (fun k=>((lV l)::.fn 157 [] []::.za::.za::.za::.ref 0 [] 0 0 0::.uv 1 0 []::.sl 1 [] 5 0 l.length false::.za::.za::.za::.za::.za::(lV l)::I l.length::I k::tZ ([.za,.za,.za,.za,.za]))) (fun k=>[⟨1,243,0,[[]],0⟩,⟨2,107,5,(l.map zF).take k++(List.replicate l.length ([.uv 1 0 [],.uv 1 0 [],.uv 1 0 [],.uv 1 0 [],Bo false]:List C)).drop k,0⟩]) (fun k=>True) ?_ trivial (fun k hk hr=>?_) (fun hr=>?_)
 ·exact cC
 ·obtain ⟨x,hx⟩:∃ x,x=l[k]:=⟨_,rfl⟩;have hx2:l[k]?= some x:=by rw [dM hk,hx]
  have hg:(l.map zF)[k]?= some (zF x):=by rw [dP,hx2];rfl
  conv=>whnf
  refine uF ?_;(refine td hg ?_)
  refine ah (hp x tD) ?_;refine ⟨aw,aA,dd ?_⟩;have e1:0+(k:Int).toNat=k:=aj
  rw [e1];refine ⟨_,j0 aj hk,rfl,dd ?_⟩;refine .inl ⟨rfl,?_,trivial⟩;have e2:=qU (z:=([.uv 1 0 [],.uv 1 0 [],.uv 1 0 [],.uv 1 0 [],Bo false]:List C)) (n:=l.length) hg hk;rw [zu aw,<- e2];exact cE 2
 ·exact db
def yc (r:List Int) (hr:r.length < 1000000000):tn 160 [] [.agg [],lU r] (lU r) []:=by
 refine ab func160 ?_;refine ah (Sv r hr) ?_;exact uI
def Jz (H':zl) (ρ:Nat->Nat):∀ (i:Nat) (K:zl),mz [] H' ρ i K=K
 | _,[]=>rfl
 | i,ob::K=>by unfold mz;rw [Jz H' ρ (i+1) K];rfl
def nU {P:Program} {f:FuncId} {args:List C} {r:C} {H':zl} (h:zb P f [] args r H') (hR:qP H'=true) (ha:args.map (x9 [] 9)=args) (H:zl) (hf:qP H=true):
  zb P f H args (yQ (qZ [] H.length) 9 r) (H++H'.map (zG (qZ [] H.length))):=by
 have:=h.part [] hR (K:=H) rfl ha rfl rfl hf;have e:wx [] H H'=H++H'.map (zG (qZ [] H.length)):=by unfold wx;rw [Jz];rfl
 rwa [e] at this
def Kw {α:Type} {enc:α->List C} {f:C->C} (hf:∀ x,(enc x).map f=enc x) (l:List α) (v:Nat) (row:List C):(((l.map enc).set v row).map fun r=>r.map f)=(l.map enc).set v (row.map f):=by
 rw [pM,pX]
 congr 1
 exact rE fun x _=>hf x
def jP {n:Nat} {x:Ob} {H:zl} (h1:qM n [x]=true) (h2:qM n H=true):qM n (x::H)=true:=by
 unfold qM at *;simp only [rD,sM,sC] at *;rw [h1,h2];rfl
def zc {x:Ob} {H:zl} (h1:qP [x]=true) (h2:qP H=true):qP (x::H)=true:=by
 unfold qP at *;simp only [rD,sM,sC] at *;rw [h1,h2];rfl
def zj {ty sz fz:Nat} {rows:List (List C)} (h:∀ r ∈ rows,∀ c ∈ r,zy c=true):qP [⟨1,ty,sz,rows,fz⟩]=true:=by
 unfold qP;simp only [rD,sM,sC];rw [dV]
 exact fun r hr=>dV.2 fun c hc=>h r hr c hc
def zA {α:Type} {enc:α->List C} {p:C->Bool} (h:∀ x,(enc x).all p=true) {row:List C} (hr:row.all p=true) (l:List α) (v:Nat):∀ r ∈ (l.map enc).set v row,∀ c ∈ r,p c=true:=fun r hm c hc=>by
 rcases pd hm with hm | rfl
 ·obtain ⟨x,_,rfl⟩:=gG.1 hm;exact dV.1 (h x) c hc
 ·exact dV.1 hr c hc
def vV {α:Type} {enc:α->List C} {p:C->Bool} (h:∀ x,(enc x).all p=true) {row z:List C} (hz:z.all p=true) (l:List α) {v k:Nat} (n:Nat) (hr:k<=v∨row.all p=true):∀ r ∈ ((l.map enc).set v row).take k++(List.replicate n z).drop k,∀ c ∈ r,p c=true:=fun r hm c hc=>by
 rcases gH.1 hm with hm | hm
 ·rcases hr with hr | hr
  ·rw [List.take_set_of_le hr] at hm;obtain ⟨x,_,rfl⟩:=gG.1 (pJ hm);exact dV.1 (h x) c hc
  ·exact zA h hr l v r (pJ hm) c hc
 ·rw [gS (rP hm)] at hc;exact dV.1 hz c hc
def PC (e0:En) (x:Int) (l:List Int) (he:e0.next=x::l) (hl:l.length < 1000000000):tn 198 [] [.agg [],.agg (zx e0)] (.agg [U e0.head,C.sl 0 [] 1 0 e0.next.length false,I e0.zg]) [⟨2,3,1,e0.next.map encI,0⟩]:=by
 have h1:tn 198 [] [.agg [],.agg (zx e0)] (.agg [U e0.head,C.sl 3 [] 1 0 e0.next.length false,I e0.zg]) [⟨1,243,0,[[]],0⟩,⟨1,136,3,[[U e0.head,C.sl 3 [] 1 0 e0.next.length false,I e0.zg]],0⟩,⟨1,136,3,[[U e0.head,C.sl 3 [] 1 0 e0.next.length false,I e0.zg]],0⟩,⟨2,3,1,e0.next.map encI,0⟩]:=by
  have hc:=KS x l hl;rw [<- he] at hc;refine zb.zU (fn:=f198) func198 rfl (uH ?_);refine af [] (hc) ?_;exact uJ
 exact h1.mL (fun B h _=>zo.u5 [3] [0] _ _ tJ rfl rfl rfl) (gA _)
def SC (e0:En) (x:Int) (l:List Int) (he:e0.next=x::l) (hl:l.length < 1000000000) (H:zl) (hf:qP H=true):tn 198 H [.agg [],.agg (zx e0)] (.agg ([U e0.head,C.sl H.length [] 1 0 e0.next.length false,I e0.zg])) (H++[⟨2,3,1,e0.next.map encI,0⟩]):=
 nU (PC e0 x l he hl) rfl rfl H hf
def zH {α:Type} {enc:α->List C} {sel:List Nat} (hf:∀ x,(enc x).map (x9 sel 9)=enc x) (l:List α) (v:Nat) (row:List C) (ty sz fz:Nat):zK sel ⟨1,ty,sz,(l.map enc).set v row,fz⟩=⟨1,ty,sz,(l.map enc).set v (row.map (x9 sel 9)),fz⟩:=by
 show (⟨1,ty,sz,((l.map enc).set v row).map (fun r=>r.map (x9 sel 9)),fz⟩:Ob)=_;rw [Kw hf]
def zB {α:Type} {enc:α->List C} {ρ:Nat->Nat} (hf:∀ x,(enc x).map (yQ ρ 9)=enc x) (l:List α) (v:Nat) (row:List C) (ty sz fz:Nat):zG ρ ⟨1,ty,sz,(l.map enc).set v row,fz⟩=⟨1,ty,sz,(l.map enc).set v (row.map (yQ ρ 9)),fz⟩:=by
 show (⟨1,ty,sz,((l.map enc).set v row).map (fun r=>r.map (yQ ρ 9)),fz⟩:Ob)=_;rw [Kw hf]
def Sy (l:List En) (e:Nat) (e0:En) (hv:l[e]?= some e0) (hl:l.length < 1000000000) (hp:∀ x ∈ l,tn 198 [] [.agg [],.agg (zx x)] (.agg (zx x)) [])
  (hA:∀ H,qP H=true->tn 198 H [.agg [],.agg (zx e0)] (.agg ([U e0.head,C.sl H.length [] 1 0 e0.next.length false,I e0.zg])) (H++[⟨2,3,1,e0.next.map encI,0⟩])):
  tn 197 [] [lE l,.fn 198 [] [],.agg []] (.sl 0 [] 3 0 l.length false) [⟨1,0,3,(l.map zx).set e ([U e0.head,C.sl 1 [] 1 0 e0.next.length false,I e0.zg]),0⟩,⟨2,3,1,e0.next.map encI,0⟩]:=by
 have m1:(l.map zx).length=l.length:=dR ..;have hvl:=(dL.1 hv).1
 have h1:tn 197 [] [lE l,.fn 198 [] [],.agg []] (.sl 1 [] 3 0 l.length false) [⟨1,243,0,[[]],0⟩,⟨1,0,3,(l.map zx).set e ([U e0.head,C.sl 3 [] 1 0 e0.next.length false,I e0.zg]),0⟩,⟨1,136,3,[zx e0],0⟩,⟨2,3,1,e0.next.map encI,0⟩]:=by
  refine zb.zU (fn:=f197) func197 rfl (uH ?_);rw [m1];refine ⟨rfl,aw,by show (40:Int) * _<=_;omega,aw,dd ?_⟩;rw [m1,toNat_cast];have ZZ:List C:=([U 0,.uv 1 0 [],I 0]:List C);refine zZ.seq l.length (fun k=>((lE l)::.fn 198 [] []::.za::.za::.za::.ref 0 [] 0 0 0::.uv 1 0 []::.sl 1 [] 3 0 l.length false::.za::.za::.za::.za::.za::(lE l)::I l.length::I k::tZ ([.za,.za,.za,.za,.za]))) (fun k=>if k<=e then [⟨1,243,0,[[]],0⟩,⟨1,0,3,((l.map zx).set e ([U e0.head,C.sl 3 [] 1 0 e0.next.length false,I e0.zg])).take k++(List.replicate l.length ([U 0,.uv 1 0 [],I 0]:List C)).drop k,0⟩] else [⟨1,243,0,[[]],0⟩,⟨1,0,3,((l.map zx).set e ([U e0.head,C.sl 3 [] 1 0 e0.next.length false,I e0.zg])).take k++(List.replicate l.length ([U 0,.uv 1 0 [],I 0]:List C)).drop k,0⟩,⟨1,136,3,[zx e0],0⟩,⟨2,3,1,e0.next.map encI,0⟩]) (fun k=>True) ?_ trivial (fun k hk hr=>?_) (fun hr=>?_)
  ·rw [dQ (gA _)];refine zo.trans (zo.Bf 1 rfl fun r hr c hc=>?_) (cC);rw [gS hr] at hc;exact dV.1 (rfl:([U 0,.uv 1 0 [],I 0]:List C).all zy=true) c hc
  ·obtain ⟨x,hx⟩:∃ x,x=l[k]:=⟨_,rfl⟩;have hx2:l[k]?= some x:=by rw [dM hk,hx]
   have hxm:x ∈ l:=bN
   have hg:(l.map zx)[k]?= some (zx x):=by rw [dP,hx2];rfl
   have e1:0+(k:Int).toNat=k:=aj
   have low:∀ n j,j<=e∨3 < n->∀ r ∈ ((l.map zx).set e ([U e0.head,C.sl 3 [] 1 0 e0.next.length false,I e0.zg])).take j++(List.replicate l.length ([U 0,.uv 1 0 [],I 0]:List C)).drop j,∀ c ∈ r,qY n 9 c=true:=fun n j h=>vV (enc:=zx) (fun _=>rfl) rfl l l.length (h.imp_right fun h=>by simp [qY,qK];omega)
   have own:∀ j,∀ r ∈ ((l.map zx).set e ([U e0.head,C.sl 3 [] 1 0 e0.next.length false,I e0.zg])).take j++(List.replicate l.length ([U 0,.uv 1 0 [],I 0]:List C)).drop j,∀ c ∈ r,zy c=true:=fun j=>vV (enc:=zx) (fun _=>rfl) rfl l l.length (.inr rfl)
   by_cases hkv:k=e
   ·subst hkv;obtain rfl:e0=x:=by rw [hv] at hx2;exact dZ hx2
    have hF:((l.map zx).set k ([U e0.head,C.sl 3 [] 1 0 e0.next.length false,I e0.zg]))[k]?= some ([U e0.head,C.sl 3 [] 1 0 e0.next.length false,I e0.zg]):=by rw [dY,dQ rfl,dQ (aq hk)]
    rw [dQ (dW _),dN aw];conv=>whnf
    refine uF ?_;(refine td hg ?_)
    refine ⟨_,_,hA _ (zc rfl (zc (zj (own k)) rfl)),dd ?_⟩;exact cS
   ·have hF:((l.map zx).set e ([U e0.head,C.sl 3 [] 1 0 e0.next.length false,I e0.zg]))[k]?= some (zx x):=by rw [gJ (fun h=>hkv h.symm)];exact hg
    by_cases ux:k < e
    ·rw [dQ aw,dQ aw];conv=>whnf
     refine uF ?_;(refine td hg ?_)
     refine ah (hp x hxm) ?_;refine ⟨aw,aA,dd ?_⟩;rw [e1];refine ⟨_,j0 aj hk,rfl,dd ?_⟩;refine .inl ⟨rfl,?_,trivial⟩;rw [zu aw,<- qU hF hk];refine zo.xv 2 hU rfl rfl rfl (jP rfl (yf ?_)) rfl;have lw:=low 2 (k+1) (.inl aw);rw [<- qU (z:=([U 0,.uv 1 0 [],I 0]:List C)) (n:=l.length) hF hk] at lw;exact lw
    ·rw [dN aw,dN aw];conv=>whnf
     refine uF ?_;(refine td hg ?_)
     refine ah (hp x hxm) ?_;refine ⟨aw,aA,dd ?_⟩;rw [e1];refine ⟨_,j0 aj hk,rfl,dd ?_⟩;refine .inl ⟨rfl,?_,trivial⟩;rw [zu aw,<- qU hF hk];refine zo.xv 4 hU rfl rfl rfl (jP rfl (jP (yf ?_) (jP rfl rfl))) rfl;have lw:=low 4 (k+1) (.inr aw);rw [<- qU (z:=([U 0,.uv 1 0 [],I 0]:List C)) (n:=l.length) hF hk] at lw;exact lw
  ·exact dK
 refine h1.mL (fun B h _=>?_) (gA _);have hw:=zo.u5 (B:=B) [1,3] [0] [.sl 1 [] 3 0 l.length false] [⟨1,243,0,[[]],0⟩,⟨1,0,3,(l.map zx).set e ([U e0.head,C.sl 3 [] 1 0 e0.next.length false,I e0.zg]),0⟩,⟨1,136,3,[zx e0],0⟩,⟨2,3,1,e0.next.map encI,0⟩] tJ rfl rfl (zc rfl (zc (zj (zA (enc:=zx) (fun _=>rfl) rfl l e)) (zc rfl rfl)))
 have e:xA [1,3] [⟨1,243,0,[[]],0⟩,⟨1,0,3,(l.map zx).set e ([U e0.head,C.sl 3 [] 1 0 e0.next.length false,I e0.zg]),0⟩,⟨1,136,3,[zx e0],0⟩,⟨2,3,1,e0.next.map encI,0⟩]=[⟨1,0,3,(l.map zx).set e ([U e0.head,C.sl 1 [] 1 0 e0.next.length false,I e0.zg]),0⟩,⟨2,3,1,e0.next.map encI,0⟩]:=by
  show zK [1,3] ⟨1,0,3,(l.map zx).set e ([U e0.head,C.sl 3 [] 1 0 e0.next.length false,I e0.zg]),0⟩::_=_;rw [zH (enc:=zx) (fun _=>rfl)]
  rfl
 rw [e] at hw;exact hw
structure D9 (g0:Gr) (e:Nat) (e0:En):Prop where
 sm:Hv g0
 at_:g0.ends[e]?= some e0
 ne:e0.next≠[]
def Ui {g0:Gr} {e:Nat} {e0:En} (h:D9 g0 e e0) (H:zl) (hf:qP H=true):tn 197 H [lE g0.ends,.fn 198 [] [],.agg []] (.sl H.length [] 3 0 g0.ends.length false) (H++[⟨1,0,3,(g0.ends.map zx).set e ([U e0.head,C.sl (H.length+1) [] 1 0 e0.next.length false,I e0.zg]),0⟩,⟨2,3,1,e0.next.map encI,0⟩]):=by
 obtain ⟨x,l,hx⟩:∃ x l,e0.next=x::l:=by
  cases hh:e0.next with
  | nil=>exact absurd hh h.ne
  | cons x l=>exact ⟨x,l,rfl⟩
 have hlen:l.length < 1000000000:=by
  have:=h.sm.2 e0 (dO h.at_);rw [hx] at this;exact cP
 have:=nU (Sy g0.ends e e0 h.at_ h.sm.1 (fun y hy=>Jh y (h.sm.2 y hy)) (SC e0 x l hx hlen)) (zc (zj (zA (enc:=zx) (fun _=>rfl) rfl _ _)) rfl) rfl H hf
 have e9:[(⟨1,0,3,(g0.ends.map zx).set e ([U e0.head,C.sl 1 [] 1 0 e0.next.length false,I e0.zg]),0⟩:Ob),⟨2,3,1,e0.next.map encI,0⟩].map (zG (qZ [] H.length))=[⟨1,0,3,(g0.ends.map zx).set e ([U e0.head,C.sl (H.length+1) [] 1 0 e0.next.length false,I e0.zg]),0⟩,⟨2,3,1,e0.next.map encI,0⟩]:=by
  show zG _ ⟨1,0,3,_,0⟩::_=_;rw [zB (enc:=zx) (fun _=>rfl)]
  rfl
 rw [e9] at this;exact dy
def N5 {g0:Gr} {e:Nat} {e0:En} (h:D9 g0 e e0):tn 189 [] [.agg [],.agg (zE g0)] (.agg [U g0.zt,C.sl 0 [] 3 0 g0.ends.length false]) [⟨1,0,3,(g0.ends.map zx).set e ([U e0.head,C.sl 1 [] 1 0 e0.next.length false,I e0.zg]),0⟩,⟨2,3,1,e0.next.map encI,0⟩]:=by
 have own:∀ i,∀ r ∈ (g0.ends.map zx).set e ([U e0.head,C.sl i [] 1 0 e0.next.length false,I e0.zg]),∀ c ∈ r,zy c=true:=fun i=>zA (enc:=zx) (fun _=>rfl) rfl _ _
 have h1:tn 189 [] [.agg [],.agg (zE g0)] (.agg [U g0.zt,C.sl 3 [] 3 0 g0.ends.length false]) [⟨1,243,0,[[]],0⟩,⟨1,134,2,[[U g0.zt,C.sl 3 [] 3 0 g0.ends.length false]],0⟩,⟨1,134,2,[[U g0.zt,C.sl 3 [] 3 0 g0.ends.length false]],0⟩,⟨1,0,3,(g0.ends.map zx).set e ([U e0.head,C.sl 4 [] 1 0 e0.next.length false,I e0.zg]),0⟩,⟨2,3,1,e0.next.map encI,0⟩]:=by
  refine zb.zU (fn:=f189) func189 rfl (uH ?_);refine ⟨_,_,Ui h _ rfl,dd ?_⟩;exact uJ
 refine h1.mL (fun B hB _=>?_) (gA _);have hw:=zo.u5 (B:=B) [3,4] [0] [.agg [U g0.zt,C.sl 3 [] 3 0 g0.ends.length false]] [⟨1,243,0,[[]],0⟩,⟨1,134,2,[[U g0.zt,C.sl 3 [] 3 0 g0.ends.length false]],0⟩,⟨1,134,2,[[U g0.zt,C.sl 3 [] 3 0 g0.ends.length false]],0⟩,⟨1,0,3,(g0.ends.map zx).set e ([U e0.head,C.sl 4 [] 1 0 e0.next.length false,I e0.zg]),0⟩,⟨2,3,1,e0.next.map encI,0⟩] (by rw [show B=0 from aq hB];rfl) rfl rfl (zc rfl (zc rfl (zc rfl (zc (zj (own 4)) rfl))))
 have e:xA [3,4] [⟨1,243,0,[[]],0⟩,⟨1,134,2,[[U g0.zt,C.sl 3 [] 3 0 g0.ends.length false]],0⟩,⟨1,134,2,[[U g0.zt,C.sl 3 [] 3 0 g0.ends.length false]],0⟩,⟨1,0,3,(g0.ends.map zx).set e ([U e0.head,C.sl 4 [] 1 0 e0.next.length false,I e0.zg]),0⟩,⟨2,3,1,e0.next.map encI,0⟩]=[⟨1,0,3,(g0.ends.map zx).set e ([U e0.head,C.sl 1 [] 1 0 e0.next.length false,I e0.zg]),0⟩,⟨2,3,1,e0.next.map encI,0⟩]:=by
  show zK [3,4] ⟨1,0,3,(g0.ends.map zx).set e ([U e0.head,C.sl 4 [] 1 0 e0.next.length false,I e0.zg]),0⟩::_=_;rw [zH (enc:=zx) (fun _=>rfl)]
  rfl
 rw [e] at hw;exact hw
def PT {g0:Gr} {e:Nat} {e0:En} (h:D9 g0 e e0) (H:zl) (hf:qP H=true):tn 189 H [.agg [],.agg (zE g0)] (.agg ([U g0.zt,C.sl H.length [] 3 0 g0.ends.length false])) (H++[⟨1,0,3,(g0.ends.map zx).set e ([U e0.head,C.sl (H.length+1) [] 1 0 e0.next.length false,I e0.zg]),0⟩,⟨2,3,1,e0.next.map encI,0⟩]):=by
 have:=nU (N5 h) (zc (zj (zA (enc:=zx) (fun _=>rfl) rfl _ _)) rfl) rfl H hf
 have e9:[(⟨1,0,3,(g0.ends.map zx).set e ([U e0.head,C.sl 1 [] 1 0 e0.next.length false,I e0.zg]),0⟩:Ob),⟨2,3,1,e0.next.map encI,0⟩].map (zG (qZ [] H.length))=[⟨1,0,3,(g0.ends.map zx).set e ([U e0.head,C.sl (H.length+1) [] 1 0 e0.next.length false,I e0.zg]),0⟩,⟨2,3,1,e0.next.map encI,0⟩]:=by
  show zG _ ⟨1,0,3,_,0⟩::_=_;rw [zB (enc:=zx) (fun _=>rfl)]
  rfl
 rw [e9] at this;exact dy
def Sz (e0:En) (e:Nat) (l:List Gr) (g:Nat) (g0:Gr) (hv:l[g]?= some g0) (hl:l.length < 1000000000) (hp:∀ x ∈ l,tn 189 [] [.agg [],.agg (zE x)] (.agg (zE x)) [])
  (hA:∀ H,qP H=true->tn 189 H [.agg [],.agg (zE g0)] (.agg ([U g0.zt,C.sl H.length [] 3 0 g0.ends.length false])) (H++[⟨1,0,3,(g0.ends.map zx).set e ([U e0.head,C.sl (H.length+1) [] 1 0 e0.next.length false,I e0.zg]),0⟩,⟨2,3,1,e0.next.map encI,0⟩])):
  tn 188 [] [lG l,.fn 189 [] [],.agg []] (.sl 0 [] 2 0 l.length false) [⟨1,0,2,(l.map zE).set g ([U g0.zt,C.sl 1 [] 3 0 g0.ends.length false]),0⟩,⟨1,0,3,(g0.ends.map zx).set e ([U e0.head,C.sl 2 [] 1 0 e0.next.length false,I e0.zg]),0⟩,⟨2,3,1,e0.next.map encI,0⟩]:=by
 have m1:(l.map zE).length=l.length:=dR ..;have hvl:=(dL.1 hv).1
 have h1:tn 188 [] [lG l,.fn 189 [] [],.agg []] (.sl 1 [] 2 0 l.length false) [⟨1,243,0,[[]],0⟩,⟨1,0,2,(l.map zE).set g ([U g0.zt,C.sl 3 [] 3 0 g0.ends.length false]),0⟩,⟨1,134,2,[zE g0],0⟩,⟨1,0,3,(g0.ends.map zx).set e ([U e0.head,C.sl 4 [] 1 0 e0.next.length false,I e0.zg]),0⟩,⟨2,3,1,e0.next.map encI,0⟩]:=by
  refine zb.zU (fn:=f188) func188 rfl (uH ?_);rw [m1];refine ⟨rfl,aw,by show (32:Int) * _<=_;omega,aw,dd ?_⟩;rw [m1,toNat_cast];have ZZ:List C:=([U 0,.uv 1 0 []]:List C);refine zZ.seq l.length (fun k=>((lG l)::.fn 189 [] []::.za::.za::.za::.ref 0 [] 0 0 0::.uv 1 0 []::.sl 1 [] 2 0 l.length false::.za::.za::.za::.za::.za::(lG l)::I l.length::I k::tZ ([.za,.za,.za,.za,.za]))) (fun k=>if k<=g then [⟨1,243,0,[[]],0⟩,⟨1,0,2,((l.map zE).set g ([U g0.zt,C.sl 3 [] 3 0 g0.ends.length false])).take k++(List.replicate l.length ([U 0,.uv 1 0 []]:List C)).drop k,0⟩] else [⟨1,243,0,[[]],0⟩,⟨1,0,2,((l.map zE).set g ([U g0.zt,C.sl 3 [] 3 0 g0.ends.length false])).take k++(List.replicate l.length ([U 0,.uv 1 0 []]:List C)).drop k,0⟩,⟨1,134,2,[zE g0],0⟩,⟨1,0,3,(g0.ends.map zx).set e ([U e0.head,C.sl 4 [] 1 0 e0.next.length false,I e0.zg]),0⟩,⟨2,3,1,e0.next.map encI,0⟩]) (fun k=>True) ?_ trivial (fun k hk hr=>?_) (fun hr=>?_)
  ·rw [dQ (gA _)];refine zo.trans (zo.Bf 1 rfl fun r hr c hc=>?_) (cC);rw [gS hr] at hc;exact dV.1 (rfl:([U 0,.uv 1 0 []]:List C).all zy=true) c hc
  ·obtain ⟨x,hx⟩:∃ x,x=l[k]:=⟨_,rfl⟩;have hx2:l[k]?= some x:=by rw [dM hk,hx]
   have hxm:x ∈ l:=bN
   have hg:(l.map zE)[k]?= some (zE x):=by rw [dP,hx2];rfl
   have e1:0+(k:Int).toNat=k:=aj
   have low:∀ n j,j<=g∨3 < n->∀ r ∈ ((l.map zE).set g ([U g0.zt,C.sl 3 [] 3 0 g0.ends.length false])).take j++(List.replicate l.length ([U 0,.uv 1 0 []]:List C)).drop j,∀ c ∈ r,qY n 9 c=true:=fun n j h=>vV (enc:=zE) (fun _=>rfl) rfl l l.length (h.imp_right fun h=>by simp [qY,qK];omega)
   have own:∀ j,∀ r ∈ ((l.map zE).set g ([U g0.zt,C.sl 3 [] 3 0 g0.ends.length false])).take j++(List.replicate l.length ([U 0,.uv 1 0 []]:List C)).drop j,∀ c ∈ r,zy c=true:=fun j=>vV (enc:=zE) (fun _=>rfl) rfl l l.length (.inr rfl)
   by_cases hkv:k=g
   ·subst hkv;obtain rfl:g0=x:=by rw [hv] at hx2;exact dZ hx2
    have hF:((l.map zE).set k ([U g0.zt,C.sl 3 [] 3 0 g0.ends.length false]))[k]?= some ([U g0.zt,C.sl 3 [] 3 0 g0.ends.length false]):=by rw [dY,dQ rfl,dQ (aq hk)]
    rw [dQ (dW _),dN aw];conv=>whnf
    refine uF ?_;(refine td hg ?_)
    refine ⟨_,_,hA _ (zc rfl (zc (zj (own k)) rfl)),dd ?_⟩;exact cS
   ·have hF:((l.map zE).set g ([U g0.zt,C.sl 3 [] 3 0 g0.ends.length false]))[k]?= some (zE x):=by rw [gJ (fun h=>hkv h.symm)];exact hg
    by_cases ux:k < g
    ·rw [dQ aw,dQ aw];conv=>whnf
     refine uF ?_;(refine td hg ?_)
     refine ah (hp x hxm) ?_;refine ⟨aw,aA,dd ?_⟩;rw [e1];refine ⟨_,j0 aj hk,rfl,dd ?_⟩;refine .inl ⟨rfl,?_,trivial⟩;rw [zu aw,<- qU hF hk];refine zo.xv 2 hU rfl rfl rfl (jP rfl (yf ?_)) rfl;have lw:=low 2 (k+1) (.inl aw);rw [<- qU (z:=([U 0,.uv 1 0 []]:List C)) (n:=l.length) hF hk] at lw;exact lw
    ·rw [dN aw,dN aw];conv=>whnf
     refine uF ?_;(refine td hg ?_)
     refine ah (hp x hxm) ?_;refine ⟨aw,aA,dd ?_⟩;rw [e1];refine ⟨_,j0 aj hk,rfl,dd ?_⟩;refine .inl ⟨rfl,?_,trivial⟩;rw [zu aw,<- qU hF hk];refine zo.xv 5 hU rfl rfl rfl (jP rfl (jP (yf ?_) (jP rfl (jP (yf (zA (enc:=zx) (fun _=>rfl) rfl _ _)) rfl)))) rfl;have lw:=low 5 (k+1) (.inr aw);rw [<- qU (z:=([U 0,.uv 1 0 []]:List C)) (n:=l.length) hF hk] at lw;exact lw
  ·exact dK
 refine h1.mL (fun B h _=>?_) (gA _);have hw:=zo.u5 (B:=B) [1,3,4] [0] [.sl 1 [] 2 0 l.length false] [⟨1,243,0,[[]],0⟩,⟨1,0,2,(l.map zE).set g ([U g0.zt,C.sl 3 [] 3 0 g0.ends.length false]),0⟩,⟨1,134,2,[zE g0],0⟩,⟨1,0,3,(g0.ends.map zx).set e ([U e0.head,C.sl 4 [] 1 0 e0.next.length false,I e0.zg]),0⟩,⟨2,3,1,e0.next.map encI,0⟩] tJ rfl rfl (zc rfl (zc (zj (zA (enc:=zE) (fun _=>rfl) rfl l g)) (zc rfl (zc (zj (zA (enc:=zx) (fun _=>rfl) rfl _ _)) rfl))))
 have e:xA [1,3,4] [⟨1,243,0,[[]],0⟩,⟨1,0,2,(l.map zE).set g ([U g0.zt,C.sl 3 [] 3 0 g0.ends.length false]),0⟩,⟨1,134,2,[zE g0],0⟩,⟨1,0,3,(g0.ends.map zx).set e ([U e0.head,C.sl 4 [] 1 0 e0.next.length false,I e0.zg]),0⟩,⟨2,3,1,e0.next.map encI,0⟩]=[⟨1,0,2,(l.map zE).set g ([U g0.zt,C.sl 1 [] 3 0 g0.ends.length false]),0⟩,⟨1,0,3,(g0.ends.map zx).set e ([U e0.head,C.sl 2 [] 1 0 e0.next.length false,I e0.zg]),0⟩,⟨2,3,1,e0.next.map encI,0⟩]:=by
  show zK [1,3,4] ⟨1,0,2,(l.map zE).set g ([U g0.zt,C.sl 3 [] 3 0 g0.ends.length false]),0⟩::_=_;rw [zH (enc:=zE) (fun _=>rfl)];show _::zK [1,3,4] ⟨1,0,3,(g0.ends.map zx).set e ([U e0.head,C.sl 4 [] 1 0 e0.next.length false,I e0.zg]),0⟩::_=_;rw [zH (enc:=zx) (fun _=>rfl)];rfl
 rw [e] at hw;exact hw
structure Ea (v0:u3) (g:Nat) (g0:Gr) (e:Nat) (e0:En):Prop extends D9 g0 e e0 where
 fW:Eb v0
 ey:v0.zm[g]?= some g0
def Uk {v0:u3} {g:Nat} {g0:Gr} {e:Nat} {e0:En} (h:Ea v0 g g0 e e0) (H:zl) (hf:qP H=true):tn 188 H [lG v0.zm,.fn 189 [] [],.agg []] (.sl H.length [] 2 0 v0.zm.length false) (H++[⟨1,0,2,(v0.zm.map zE).set g ([U g0.zt,C.sl (H.length+1) [] 3 0 g0.ends.length false]),0⟩,⟨1,0,3,(g0.ends.map zx).set e ([U e0.head,C.sl (H.length+2) [] 1 0 e0.next.length false,I e0.zg]),0⟩,⟨2,3,1,e0.next.map encI,0⟩]):=by
 have:=nU (Sz e0 e v0.zm g g0 h.ey h.fW.1 (fun y hy=>Il y (h.fW.2 y hy)) (PT h.toD9)) (zc (zj (zA (enc:=zE) (fun _=>rfl) rfl _ _)) (zc (zj (zA (enc:=zx) (fun _=>rfl) rfl _ _)) rfl)) rfl H hf
 have e9:[(⟨1,0,2,(v0.zm.map zE).set g ([U g0.zt,C.sl 1 [] 3 0 g0.ends.length false]),0⟩:Ob),⟨1,0,3,(g0.ends.map zx).set e ([U e0.head,C.sl 2 [] 1 0 e0.next.length false,I e0.zg]),0⟩,⟨2,3,1,e0.next.map encI,0⟩].map (zG (qZ [] H.length))=[⟨1,0,2,(v0.zm.map zE).set g ([U g0.zt,C.sl (H.length+1) [] 3 0 g0.ends.length false]),0⟩,⟨1,0,3,(g0.ends.map zx).set e ([U e0.head,C.sl (H.length+2) [] 1 0 e0.next.length false,I e0.zg]),0⟩,⟨2,3,1,e0.next.map encI,0⟩]:=by
  show zG _ ⟨1,0,2,_,0⟩::zG _ ⟨1,0,3,_,0⟩::_=_;rw [zB (enc:=zE) (fun _=>rfl),zB (enc:=zx) (fun _=>rfl)]
  rfl
 rw [e9] at this;exact dy
def NJ {v0:u3} {g:Nat} {g0:Gr} {e:Nat} {e0:En} (h:Ea v0 g g0 e e0):tn 157 [] [.agg [],.agg (zF v0)] (.agg (qK v0.snap++[C.sl 0 [] 2 0 v0.zm.length false,Bo v0.qm])) [⟨1,0,2,(v0.zm.map zE).set g ([U g0.zt,C.sl 1 [] 3 0 g0.ends.length false]),0⟩,⟨1,0,3,(g0.ends.map zx).set e ([U e0.head,C.sl 2 [] 1 0 e0.next.length false,I e0.zg]),0⟩,⟨2,3,1,e0.next.map encI,0⟩]:=by
 have h1:tn 157 [] [.agg [],.agg (zF v0)] (.agg (qK v0.snap++[C.sl 3 [] 2 0 v0.zm.length false,Bo v0.qm])) [⟨1,243,0,[[]],0⟩,⟨1,107,5,[(qK v0.snap++[C.sl 3 [] 2 0 v0.zm.length false,Bo v0.qm])],0⟩,⟨1,107,5,[(qK v0.snap++[C.sl 3 [] 2 0 v0.zm.length false,Bo v0.qm])],0⟩,⟨1,0,2,(v0.zm.map zE).set g ([U g0.zt,C.sl 4 [] 3 0 g0.ends.length false]),0⟩,⟨1,0,3,(g0.ends.map zx).set e ([U e0.head,C.sl 5 [] 1 0 e0.next.length false,I e0.zg]),0⟩,⟨2,3,1,e0.next.map encI,0⟩]:=by
  refine zb.zU (fn:=f157) func157 rfl (uH ?_);refine ⟨_,_,Uk h _ rfl,dd ?_⟩;exact uJ
 refine h1.mL (fun B hB _=>?_) (gA _);have hw:=zo.u5 (B:=B) [3,4,5] [0] [.agg (qK v0.snap++[C.sl 3 [] 2 0 v0.zm.length false,Bo v0.qm])] [⟨1,243,0,[[]],0⟩,⟨1,107,5,[(qK v0.snap++[C.sl 3 [] 2 0 v0.zm.length false,Bo v0.qm])],0⟩,⟨1,107,5,[(qK v0.snap++[C.sl 3 [] 2 0 v0.zm.length false,Bo v0.qm])],0⟩,⟨1,0,2,(v0.zm.map zE).set g ([U g0.zt,C.sl 4 [] 3 0 g0.ends.length false]),0⟩,⟨1,0,3,(g0.ends.map zx).set e ([U e0.head,C.sl 5 [] 1 0 e0.next.length false,I e0.zg]),0⟩,⟨2,3,1,e0.next.map encI,0⟩] (by rw [show B=0 from aq hB];rfl) rfl rfl (zc rfl (zc rfl (zc rfl (zc (zj (zA (enc:=zE) (fun _=>rfl) rfl _ _)) (zc (zj (zA (enc:=zx) (fun _=>rfl) rfl _ _)) rfl)))))
 have e:xA [3,4,5] [⟨1,243,0,[[]],0⟩,⟨1,107,5,[(qK v0.snap++[C.sl 3 [] 2 0 v0.zm.length false,Bo v0.qm])],0⟩,⟨1,107,5,[(qK v0.snap++[C.sl 3 [] 2 0 v0.zm.length false,Bo v0.qm])],0⟩,⟨1,0,2,(v0.zm.map zE).set g ([U g0.zt,C.sl 4 [] 3 0 g0.ends.length false]),0⟩,⟨1,0,3,(g0.ends.map zx).set e ([U e0.head,C.sl 5 [] 1 0 e0.next.length false,I e0.zg]),0⟩,⟨2,3,1,e0.next.map encI,0⟩]=[⟨1,0,2,(v0.zm.map zE).set g ([U g0.zt,C.sl 1 [] 3 0 g0.ends.length false]),0⟩,⟨1,0,3,(g0.ends.map zx).set e ([U e0.head,C.sl 2 [] 1 0 e0.next.length false,I e0.zg]),0⟩,⟨2,3,1,e0.next.map encI,0⟩]:=by
  show zK [3,4,5] ⟨1,0,2,(v0.zm.map zE).set g ([U g0.zt,C.sl 4 [] 3 0 g0.ends.length false]),0⟩::zK [3,4,5] ⟨1,0,3,(g0.ends.map zx).set e ([U e0.head,C.sl 5 [] 1 0 e0.next.length false,I e0.zg]),0⟩::_=_;rw [zH (enc:=zE) (fun _=>rfl),zH (enc:=zx) (fun _=>rfl)]
  rfl
 rw [e] at hw;exact hw
def OP {v0:u3} {g:Nat} {g0:Gr} {e:Nat} {e0:En} (h:Ea v0 g g0 e e0) (H:zl) (hf:qP H=true):tn 157 H [.agg [],.agg (zF v0)] (.agg ((qK v0.snap++[C.sl H.length [] 2 0 v0.zm.length false,Bo v0.qm]))) (H++[⟨1,0,2,(v0.zm.map zE).set g ([U g0.zt,C.sl (H.length+1) [] 3 0 g0.ends.length false]),0⟩,⟨1,0,3,(g0.ends.map zx).set e ([U e0.head,C.sl (H.length+2) [] 1 0 e0.next.length false,I e0.zg]),0⟩,⟨2,3,1,e0.next.map encI,0⟩]):=by
 have:=nU (NJ h) (zc (zj (zA (enc:=zE) (fun _=>rfl) rfl _ _)) (zc (zj (zA (enc:=zx) (fun _=>rfl) rfl _ _)) rfl)) rfl H hf
 have e9:[(⟨1,0,2,(v0.zm.map zE).set g ([U g0.zt,C.sl 1 [] 3 0 g0.ends.length false]),0⟩:Ob),⟨1,0,3,(g0.ends.map zx).set e ([U e0.head,C.sl 2 [] 1 0 e0.next.length false,I e0.zg]),0⟩,⟨2,3,1,e0.next.map encI,0⟩].map (zG (qZ [] H.length))=[⟨1,0,2,(v0.zm.map zE).set g ([U g0.zt,C.sl (H.length+1) [] 3 0 g0.ends.length false]),0⟩,⟨1,0,3,(g0.ends.map zx).set e ([U e0.head,C.sl (H.length+2) [] 1 0 e0.next.length false,I e0.zg]),0⟩,⟨2,3,1,e0.next.map encI,0⟩]:=by
  show zG _ ⟨1,0,2,_,0⟩::zG _ ⟨1,0,3,_,0⟩::_=_;rw [zB (enc:=zE) (fun _=>rfl),zB (enc:=zx) (fun _=>rfl)]
  rfl
 rw [e9] at this;exact dy
def SB (g0:Gr) (g:Nat) (e0:En) (e:Nat) (l:List u3) (v:Nat) (v0:u3) (hv:l[v]?= some v0) (hl:l.length < 1000000000) (hp:∀ x ∈ l,tn 157 [] [.agg [],.agg (zF x)] (.agg (zF x)) [])
  (hA:∀ H,qP H=true->tn 157 H [.agg [],.agg (zF v0)] (.agg ((qK v0.snap++[C.sl H.length [] 2 0 v0.zm.length false,Bo v0.qm]))) (H++[⟨1,0,2,(v0.zm.map zE).set g ([U g0.zt,C.sl (H.length+1) [] 3 0 g0.ends.length false]),0⟩,⟨1,0,3,(g0.ends.map zx).set e ([U e0.head,C.sl (H.length+2) [] 1 0 e0.next.length false,I e0.zg]),0⟩,⟨2,3,1,e0.next.map encI,0⟩])):
  tn 156 [] [lV l,.fn 157 [] [],.agg []] (.sl 0 [] 5 0 l.length false) [⟨1,0,5,(l.map zF).set v ((qK v0.snap++[C.sl 1 [] 2 0 v0.zm.length false,Bo v0.qm])),0⟩,⟨1,0,2,(v0.zm.map zE).set g ([U g0.zt,C.sl 2 [] 3 0 g0.ends.length false]),0⟩,⟨1,0,3,(g0.ends.map zx).set e ([U e0.head,C.sl 3 [] 1 0 e0.next.length false,I e0.zg]),0⟩,⟨2,3,1,e0.next.map encI,0⟩]:=by
 have m1:(l.map zF).length=l.length:=dR ..;have hvl:=(dL.1 hv).1
 have h1:tn 156 [] [lV l,.fn 157 [] [],.agg []] (.sl 1 [] 5 0 l.length false) [⟨1,243,0,[[]],0⟩,⟨1,0,5,(l.map zF).set v ((qK v0.snap++[C.sl 3 [] 2 0 v0.zm.length false,Bo v0.qm])),0⟩,⟨1,107,5,[zF v0],0⟩,⟨1,0,2,(v0.zm.map zE).set g ([U g0.zt,C.sl 4 [] 3 0 g0.ends.length false]),0⟩,⟨1,0,3,(g0.ends.map zx).set e ([U e0.head,C.sl 5 [] 1 0 e0.next.length false,I e0.zg]),0⟩,⟨2,3,1,e0.next.map encI,0⟩]:=by
  refine zb.zU (fn:=f156) func156 rfl (uH ?_);rw [m1];refine ⟨rfl,aw,by show (104:Int) * _<=_;omega,aw,dd ?_⟩;rw [m1,toNat_cast];have ZZ:List C:=([.uv 1 0 [],.uv 1 0 [],.uv 1 0 [],.uv 1 0 [],Bo false]:List C);refine zZ.seq l.length (fun k=>((lV l)::.fn 157 [] []::.za::.za::.za::.ref 0 [] 0 0 0::.uv 1 0 []::.sl 1 [] 5 0 l.length false::.za::.za::.za::.za::.za::(lV l)::I l.length::I k::tZ ([.za,.za,.za,.za,.za]))) (fun k=>if k<=v then [⟨1,243,0,[[]],0⟩,⟨1,0,5,((l.map zF).set v ((qK v0.snap++[C.sl 3 [] 2 0 v0.zm.length false,Bo v0.qm]))).take k++(List.replicate l.length ([.uv 1 0 [],.uv 1 0 [],.uv 1 0 [],.uv 1 0 [],Bo false]:List C)).drop k,0⟩] else [⟨1,243,0,[[]],0⟩,⟨1,0,5,((l.map zF).set v ((qK v0.snap++[C.sl 3 [] 2 0 v0.zm.length false,Bo v0.qm]))).take k++(List.replicate l.length ([.uv 1 0 [],.uv 1 0 [],.uv 1 0 [],.uv 1 0 [],Bo false]:List C)).drop k,0⟩,⟨1,107,5,[zF v0],0⟩,⟨1,0,2,(v0.zm.map zE).set g ([U g0.zt,C.sl 4 [] 3 0 g0.ends.length false]),0⟩,⟨1,0,3,(g0.ends.map zx).set e ([U e0.head,C.sl 5 [] 1 0 e0.next.length false,I e0.zg]),0⟩,⟨2,3,1,e0.next.map encI,0⟩]) (fun k=>True) ?_ trivial (fun k hk hr=>?_) (fun hr=>?_)
  ·rw [dQ (gA _)];refine zo.trans (zo.Bf 1 rfl fun r hr c hc=>?_) (cC);rw [gS hr] at hc;exact dV.1 (rfl:([.uv 1 0 [],.uv 1 0 [],.uv 1 0 [],.uv 1 0 [],Bo false]:List C).all zy=true) c hc
  ·obtain ⟨x,hx⟩:∃ x,x=l[k]:=⟨_,rfl⟩;have hx2:l[k]?= some x:=by rw [dM hk,hx]
   have hxm:x ∈ l:=bN
   have hg:(l.map zF)[k]?= some (zF x):=by rw [dP,hx2];rfl
   have e1:0+(k:Int).toNat=k:=aj
   have low:∀ n j,j<=v∨3 < n->∀ r ∈ ((l.map zF).set v ((qK v0.snap++[C.sl 3 [] 2 0 v0.zm.length false,Bo v0.qm]))).take j++(List.replicate l.length ([.uv 1 0 [],.uv 1 0 [],.uv 1 0 [],.uv 1 0 [],Bo false]:List C)).drop j,∀ c ∈ r,qY n 9 c=true:=fun n j h=>vV (enc:=zF) (fun _=>rfl) rfl l l.length (h.imp_right fun h=>by simp [qY,qK];omega)
   have own:∀ j,∀ r ∈ ((l.map zF).set v ((qK v0.snap++[C.sl 3 [] 2 0 v0.zm.length false,Bo v0.qm]))).take j++(List.replicate l.length ([.uv 1 0 [],.uv 1 0 [],.uv 1 0 [],.uv 1 0 [],Bo false]:List C)).drop j,∀ c ∈ r,zy c=true:=fun j=>vV (enc:=zF) (fun _=>rfl) rfl l l.length (.inr rfl)
   by_cases hkv:k=v
   ·subst hkv;obtain rfl:v0=x:=by rw [hv] at hx2;exact dZ hx2
    have hF:((l.map zF).set k ((qK v0.snap++[C.sl 3 [] 2 0 v0.zm.length false,Bo v0.qm])))[k]?= some ((qK v0.snap++[C.sl 3 [] 2 0 v0.zm.length false,Bo v0.qm])):=by rw [dY,dQ rfl,dQ (aq hk)]
    rw [dQ (dW _),dN aw];conv=>whnf
    refine uF ?_;(refine td hg ?_)
    refine ⟨_,_,hA _ (zc rfl (zc (zj (own k)) rfl)),dd ?_⟩;exact cS
   ·have hF:((l.map zF).set v ((qK v0.snap++[C.sl 3 [] 2 0 v0.zm.length false,Bo v0.qm])))[k]?= some (zF x):=by rw [gJ (fun h=>hkv h.symm)];exact hg
    by_cases ux:k < v
    ·rw [dQ aw,dQ aw];conv=>whnf
     refine uF ?_;(refine td hg ?_)
     refine ah (hp x hxm) ?_;refine ⟨aw,aA,dd ?_⟩;rw [e1];refine ⟨_,j0 aj hk,rfl,dd ?_⟩;refine .inl ⟨rfl,?_,trivial⟩;rw [zu aw,<- qU hF hk];refine zo.xv 2 hU rfl rfl rfl (jP rfl (yf ?_)) rfl;have lw:=low 2 (k+1) (.inl aw);rw [<- qU (z:=([.uv 1 0 [],.uv 1 0 [],.uv 1 0 [],.uv 1 0 [],Bo false]:List C)) (n:=l.length) hF hk] at lw;exact lw
    ·rw [dN aw,dN aw];conv=>whnf
     refine uF ?_;(refine td hg ?_)
     refine ah (hp x hxm) ?_;refine ⟨aw,aA,dd ?_⟩;rw [e1];refine ⟨_,j0 aj hk,rfl,dd ?_⟩;refine .inl ⟨rfl,?_,trivial⟩;rw [zu aw,<- qU hF hk];refine zo.xv 6 hU rfl rfl rfl (jP rfl (jP (yf ?_) (jP rfl (jP (yf (zA (enc:=zE) (fun _=>rfl) rfl _ _)) (jP (yf (zA (enc:=zx) (fun _=>rfl) rfl _ _)) rfl))))) rfl;have lw:=low 6 (k+1) (.inr aw);rw [<- qU (z:=([.uv 1 0 [],.uv 1 0 [],.uv 1 0 [],.uv 1 0 [],Bo false]:List C)) (n:=l.length) hF hk] at lw;exact lw
  ·exact dK
 refine h1.mL (fun B h _=>?_) (gA _);have hw:=zo.u5 (B:=B) [1,3,4,5] [0] [.sl 1 [] 5 0 l.length false] [⟨1,243,0,[[]],0⟩,⟨1,0,5,(l.map zF).set v ((qK v0.snap++[C.sl 3 [] 2 0 v0.zm.length false,Bo v0.qm])),0⟩,⟨1,107,5,[zF v0],0⟩,⟨1,0,2,(v0.zm.map zE).set g ([U g0.zt,C.sl 4 [] 3 0 g0.ends.length false]),0⟩,⟨1,0,3,(g0.ends.map zx).set e ([U e0.head,C.sl 5 [] 1 0 e0.next.length false,I e0.zg]),0⟩,⟨2,3,1,e0.next.map encI,0⟩] tJ rfl rfl (zc rfl (zc (zj (zA (enc:=zF) (fun _=>rfl) rfl l v)) (zc rfl (zc (zj (zA (enc:=zE) (fun _=>rfl) rfl _ _)) (zc (zj (zA (enc:=zx) (fun _=>rfl) rfl _ _)) rfl)))))
 have e:xA [1,3,4,5] [⟨1,243,0,[[]],0⟩,⟨1,0,5,(l.map zF).set v ((qK v0.snap++[C.sl 3 [] 2 0 v0.zm.length false,Bo v0.qm])),0⟩,⟨1,107,5,[zF v0],0⟩,⟨1,0,2,(v0.zm.map zE).set g ([U g0.zt,C.sl 4 [] 3 0 g0.ends.length false]),0⟩,⟨1,0,3,(g0.ends.map zx).set e ([U e0.head,C.sl 5 [] 1 0 e0.next.length false,I e0.zg]),0⟩,⟨2,3,1,e0.next.map encI,0⟩]=[⟨1,0,5,(l.map zF).set v ((qK v0.snap++[C.sl 1 [] 2 0 v0.zm.length false,Bo v0.qm])),0⟩,⟨1,0,2,(v0.zm.map zE).set g ([U g0.zt,C.sl 2 [] 3 0 g0.ends.length false]),0⟩,⟨1,0,3,(g0.ends.map zx).set e ([U e0.head,C.sl 3 [] 1 0 e0.next.length false,I e0.zg]),0⟩,⟨2,3,1,e0.next.map encI,0⟩]:=by
  show zK [1,3,4,5] ⟨1,0,5,(l.map zF).set v ((qK v0.snap++[C.sl 3 [] 2 0 v0.zm.length false,Bo v0.qm])),0⟩::_=_;rw [zH (enc:=zF) (fun _=>rfl)];show _::zK [1,3,4,5] ⟨1,0,2,(v0.zm.map zE).set g ([U g0.zt,C.sl 4 [] 3 0 g0.ends.length false]),0⟩::zK [1,3,4,5] ⟨1,0,3,(g0.ends.map zx).set e ([U e0.head,C.sl 5 [] 1 0 e0.next.length false,I e0.zg]),0⟩::_=_;rw [zH (enc:=zE) (fun _=>rfl),zH (enc:=zx) (fun _=>rfl)];rfl
 rw [e] at hw;exact hw
structure oP (vs:List u3) (v:Nat) (v0:u3) (g:Nat) (g0:Gr) (e:Nat) (e0:En):Prop extends Ea v0 g g0 e e0 where
 Mt:vs.length < 1000000000∧∀ v ∈ vs,Eb v
 eQ:vs[v]?= some v0
def Un {vs:List u3} {v:Nat} {v0:u3} {g:Nat} {g0:Gr} {e:Nat} {e0:En} (h:oP vs v v0 g g0 e e0) (H:zl) (hf:qP H=true):tn 156 H [lV vs,.fn 157 [] [],.agg []] (.sl H.length [] 5 0 vs.length false) (H++[⟨1,0,5,(vs.map zF).set v ((qK v0.snap++[C.sl (H.length+1) [] 2 0 v0.zm.length false,Bo v0.qm])),0⟩,⟨1,0,2,(v0.zm.map zE).set g ([U g0.zt,C.sl (H.length+2) [] 3 0 g0.ends.length false]),0⟩,⟨1,0,3,(g0.ends.map zx).set e ([U e0.head,C.sl (H.length+3) [] 1 0 e0.next.length false,I e0.zg]),0⟩,⟨2,3,1,e0.next.map encI,0⟩]):=by
 have:=nU (SB g0 g e0 e vs v v0 h.eQ h.Mt.1 (fun y hy=>jI y (h.Mt.2 y hy)) (OP h.toEa)) (zc (zj (zA (enc:=zF) (fun _=>rfl) rfl _ _)) (zc (zj (zA (enc:=zE) (fun _=>rfl) rfl _ _)) (zc (zj (zA (enc:=zx) (fun _=>rfl) rfl _ _)) rfl))) rfl H hf
 have e9:[(⟨1,0,5,(vs.map zF).set v ((qK v0.snap++[C.sl 1 [] 2 0 v0.zm.length false,Bo v0.qm])),0⟩:Ob),⟨1,0,2,(v0.zm.map zE).set g ([U g0.zt,C.sl 2 [] 3 0 g0.ends.length false]),0⟩,⟨1,0,3,(g0.ends.map zx).set e ([U e0.head,C.sl 3 [] 1 0 e0.next.length false,I e0.zg]),0⟩,⟨2,3,1,e0.next.map encI,0⟩].map (zG (qZ [] H.length))=[⟨1,0,5,(vs.map zF).set v ((qK v0.snap++[C.sl (H.length+1) [] 2 0 v0.zm.length false,Bo v0.qm])),0⟩,⟨1,0,2,(v0.zm.map zE).set g ([U g0.zt,C.sl (H.length+2) [] 3 0 g0.ends.length false]),0⟩,⟨1,0,3,(g0.ends.map zx).set e ([U e0.head,C.sl (H.length+3) [] 1 0 e0.next.length false,I e0.zg]),0⟩,⟨2,3,1,e0.next.map encI,0⟩]:=by
  show zG _ ⟨1,0,5,_,0⟩::zG _ ⟨1,0,2,_,0⟩::zG _ ⟨1,0,3,_,0⟩::_=_;rw [zB (enc:=zF) (fun _=>rfl),zB (enc:=zE) (fun _=>rfl),zB (enc:=zx) (fun _=>rfl)]
  rfl
 rw [e9] at this;exact dy
def wJ (l:List (List Int)) (hl:l.length < 1000000000) (hp:∀ x ∈ l,tn 160 [] [.agg [],lU x] (lU x) []):tn 159 [] [eG l,.fn 160 [] [],.agg []] (.sl 0 [] 1 0 l.length false) [⟨2,116,1,l.map zN,0⟩]:=by
 have m1:(l.map zN).length=l.length:=dR ..;refine zb.zU (fn:=f159) func159 rfl (uH ?_);rw [m1];refine ⟨rfl,aw,by show (24:Int) * _<=_;omega,aw,dd ?_⟩;rw [m1,toNat_cast];refine zZ.seq l.length (fun k=>((eG l)::.fn 160 [] []::.za::.za::.za::.ref 0 [] 0 0 0::.uv 1 0 []::.sl 1 [] 1 0 l.length false::.za::.za::.za::.za::.za::(eG l)::I l.length::I k::tZ ([.za,.za,.za,.za,.za]))) (fun k=>[⟨1,243,0,[[]],0⟩,⟨2,116,1,(l.map zN).take k++(List.replicate l.length ([.uv 1 0 []]:List C)).drop k,0⟩]) (fun k=>True) ?_ trivial (fun k hk hr=>?_) (fun hr=>?_)
 ·exact cC
 ·obtain ⟨x,hx⟩:∃ x,x=l[k]:=⟨_,rfl⟩;have hx2:l[k]?= some x:=by rw [dM hk,hx]
  have hg:(l.map zN)[k]?= some (zN x):=by rw [dP,hx2];rfl
  conv=>whnf
  refine uF ?_;(refine td hg ?_)
  refine ah (hp x tD) ?_;refine ⟨aw,aA,dd ?_⟩;have e1:0+(k:Int).toNat=k:=aj
  rw [e1];refine ⟨_,j0 aj hk,rfl,dd ?_⟩;refine .inl ⟨rfl,?_,trivial⟩;have e2:=qU (z:=([.uv 1 0 []]:List C)) (n:=l.length) hg hk;rw [zu aw,<- e2];exact cE 2
 ·exact db
def Qy (r0:List Int) (x:Int) (l:List Int) (he:r0=x::l) (hl:l.length < 1000000000):tn 160 [] [.agg [],lU r0] (.sl 0 [] 1 0 r0.length false) [⟨2,43,1,r0.map jH,0⟩]:=by
 have h1:tn 160 [] [.agg [],lU r0] (.sl 1 [] 1 0 r0.length false) [⟨1,243,0,[[]],0⟩,⟨2,43,1,r0.map jH,0⟩]:=by
  have hc:=SO x l hl;rw [<- he] at hc;refine zb.zU (fn:=f160) func160 rfl (uH ?_);refine af [] (hc) ?_;exact uJ
 exact h1.mL (fun B h _=>zo.u5 [1] [0] _ _ tJ rfl rfl rfl) (gA _)
def Ur (r0:List Int) (x:Int) (l:List Int) (he:r0=x::l) (hl:l.length < 1000000000) (H:zl) (hf:qP H=true):tn 160 H [.agg [],lU r0] (.sl H.length [] 1 0 r0.length false) (H++[⟨2,43,1,r0.map jH,0⟩]):=
 nU (Qy r0 x l he hl) rfl rfl H hf
def Af {P:Program} {f:FuncId} {fn:Func} {c:Code} {H2:zl} {args:List C} {r:C} (hf:P.funcs[f]?= some fn) (hb:fn.body=some c)
  (h:wpA P 0 c (entry fn args) [] fun ex t1 H1=>(ex=.ret∨ex=.normal)∧∃ s2 r1,zo 0 ⟨t1,H1⟩ s2∧kH P fn s2=some r1∧zo 0 ⟨[r1],s2.H⟩ ⟨[r],H2⟩):zb P f [] args r H2:=fun w E vs hh hl=>by
 have h1:qC P f [] args fun r1 H1=>zo 0 ⟨[r1],H1⟩ ⟨[r],H2⟩:=qC.zU hf hb h
 refine (h1 w E vs hh hl).mono ?_;rintro e w' ⟨r1,H1,v,E',hw,h0,h2,h3,g⟩;obtain ⟨E2,hs,g2⟩:=hw 0 w' E' ⟨#[v],[]⟩ ⟨h2,LL.one h3,gA _,gA _⟩;have hn2:=hs.heap.n;have hn0:E.n=0:=hh.n;refine ⟨v,E2,h0,hs.heap,hs.tmps.cons_inv.1,⟨⟨by rw [hn0];exact gA _,fun id hops hi=>by rw [hn0] at hi;omega,fun id hops hi=>by rw [hn0] at hi;omega,fun b o u hu=>g2.le.St _ _ _ (g.le.St _ _ _ hu),fun id k u hi hu=>by rw [hn0] at hi;omega⟩,g2.os.trans g.os,g2.tape.trans g.tape,g2.output.trans g.output,gW g.size g2.size,?_,?_,?_⟩⟩
 ·intro k hk ho;exact cW
 ·intro b o u hu;rcases g2.jK b o u hu with h1 | h1 | h1
  ·exact g.jK b o u h1
  ·exact .inr (.inl (gW g.size h1))
  ·rcases g.own b h1 with h4 | h4
   ·exact .inr (.inl h4)
   ·exact .inr (.inr h4)
 ·intro b hb;rcases g2.own b hb with h1 | h1
  ·exact .inl (gW g.size h1)
  ·exact g.own b h1
def qw (w:Wor) (h:qX w):tn 114 [] [Cw w] (Cw w) []:=by
 refine ab func114 ?_;refine ah (y9 w.pins h.pins) ?_;refine af [] (wK w.ze h.ze.1 fun v hv=>jI v (h.ze.2 v hv)) ?_;refine ah (vT w.zd h.zd) ?_;refine af [] (wJ w.counts h.counts.1 fun r hr=>yc r (h.counts.2 r hr)) ?_;refine ah (AJ w.zr h.zr) ?_;exact ⟨.inl rfl,_,(zo.zV 1 0 4 rfl rfl rfl rfl (.inr rfl) rfl aj (shut_map (enc:=zF) (fun _=>rfl) w.ze) (z5 rfl)).trans (zo.zV 1 0 6 rfl rfl rfl rfl (.inr rfl) rfl aj (shut_map (enc:=zN) (fun _=>rfl) w.counts) (z5 rfl)),rfl⟩
def SA (l:List (List Int)) (t:Nat) (r0:(List Int)) (hv:l[t]?= some r0) (hl:l.length < 1000000000) (hp:∀ x ∈ l,tn 160 [] [.agg [],lU x] (lU x) [])
  (hA:∀ H,qP H=true->tn 160 H [.agg [],lU r0] (.sl H.length [] 1 0 r0.length false) (H++[⟨2,43,1,r0.map jH,0⟩])):
  tn 159 [] [eG l,.fn 160 [] [],.agg []] (.sl 0 [] 1 0 l.length false) [⟨1,0,1,(l.map zN).set t ([C.sl 1 [] 1 0 r0.length false]),0⟩,⟨2,43,1,r0.map jH,0⟩]:=by
 have m1:(l.map zN).length=l.length:=dR ..;have hvl:=(dL.1 hv).1
 have h1:tn 159 [] [eG l,.fn 160 [] [],.agg []] (.sl 1 [] 1 0 l.length false) [⟨1,243,0,[[]],0⟩,⟨1,0,1,(l.map zN).set t ([C.sl 2 [] 1 0 r0.length false]),0⟩,⟨2,43,1,r0.map jH,0⟩]:=by
  refine zb.zU (fn:=f159) func159 rfl (uH ?_);rw [m1];refine ⟨rfl,aw,by show (24:Int) * _<=_;omega,aw,dd ?_⟩;rw [m1,toNat_cast];have ZZ:List C:=([.uv 1 0 []]:List C);refine zZ.seq l.length (fun k=>((eG l)::.fn 160 [] []::.za::.za::.za::.ref 0 [] 0 0 0::.uv 1 0 []::.sl 1 [] 1 0 l.length false::.za::.za::.za::.za::.za::(eG l)::I l.length::I k::tZ ([.za,.za,.za,.za,.za]))) (fun k=>if k<=t then [⟨1,243,0,[[]],0⟩,⟨1,0,1,((l.map zN).set t ([C.sl 2 [] 1 0 r0.length false])).take k++(List.replicate l.length ([.uv 1 0 []]:List C)).drop k,0⟩] else [⟨1,243,0,[[]],0⟩,⟨1,0,1,((l.map zN).set t ([C.sl 2 [] 1 0 r0.length false])).take k++(List.replicate l.length ([.uv 1 0 []]:List C)).drop k,0⟩,⟨2,43,1,r0.map jH,0⟩]) (fun k=>True) ?_ trivial (fun k hk hr=>?_) (fun hr=>?_)
  ·rw [dQ (gA _)];refine zo.trans (zo.Bf 1 rfl fun r hr c hc=>?_) (cC);rw [gS hr] at hc;exact dV.1 (rfl:([.uv 1 0 []]:List C).all zy=true) c hc
  ·obtain ⟨x,hx⟩:∃ x,x=l[k]:=⟨_,rfl⟩;have hx2:l[k]?= some x:=by rw [dM hk,hx]
   have hxm:x ∈ l:=bN
   have hg:(l.map zN)[k]?= some (zN x):=by rw [dP,hx2];rfl
   have e1:0+(k:Int).toNat=k:=aj
   have low:∀ n j,j<=t∨2 < n->∀ r ∈ ((l.map zN).set t ([C.sl 2 [] 1 0 r0.length false])).take j++(List.replicate l.length ([.uv 1 0 []]:List C)).drop j,∀ c ∈ r,qY n 9 c=true:=fun n j h=>vV (enc:=zN) (fun _=>rfl) rfl l l.length (h.imp_right fun h=>by simp [qY,qK];omega)
   have own:∀ j,∀ r ∈ ((l.map zN).set t ([C.sl 2 [] 1 0 r0.length false])).take j++(List.replicate l.length ([.uv 1 0 []]:List C)).drop j,∀ c ∈ r,zy c=true:=fun j=>vV (enc:=zN) (fun _=>rfl) rfl l l.length (.inr rfl)
   by_cases hkv:k=t
   ·subst hkv;obtain rfl:r0=x:=by rw [hv] at hx2;exact dZ hx2
    have hF:((l.map zN).set k ([C.sl 2 [] 1 0 r0.length false]))[k]?= some ([C.sl 2 [] 1 0 r0.length false]):=by rw [dY,dQ rfl,dQ (aq hk)]
    rw [dQ (dW _),dN aw];conv=>whnf
    refine uF ?_;(refine td hg ?_)
    refine ⟨_,_,hA _ (zc rfl (zj (own k))),dd ?_⟩;exact cS
   ·have hF:((l.map zN).set t ([C.sl 2 [] 1 0 r0.length false]))[k]?= some (zN x):=by rw [gJ (fun h=>hkv h.symm)];exact hg
    by_cases ux:k < t
    ·rw [dQ aw,dQ aw];conv=>whnf
     refine uF ?_;(refine td hg ?_)
     refine ah (hp x hxm) ?_;refine ⟨aw,aA,dd ?_⟩;rw [e1];refine ⟨_,j0 aj hk,rfl,dd ?_⟩;refine .inl ⟨rfl,?_,trivial⟩;rw [zu aw,<- qU hF hk];refine zo.xv 2 hU rfl rfl rfl (jP rfl (yf ?_)) rfl;have lw:=low 2 (k+1) (.inl aw);rw [<- qU (z:=([.uv 1 0 []]:List C)) (n:=l.length) hF hk] at lw;exact lw
    ·rw [dN aw,dN aw];conv=>whnf
     refine uF ?_;(refine td hg ?_)
     refine ah (hp x hxm) ?_;refine ⟨aw,aA,dd ?_⟩;rw [e1];refine ⟨_,j0 aj hk,rfl,dd ?_⟩;refine .inl ⟨rfl,?_,trivial⟩;rw [zu aw,<- qU hF hk];refine zo.xv 3 hU rfl rfl rfl (jP rfl (jP (yf ?_) rfl)) rfl;have lw:=low 3 (k+1) (.inr aw);rw [<- qU (z:=([.uv 1 0 []]:List C)) (n:=l.length) hF hk] at lw;exact lw
  ·exact dK
 refine h1.mL (fun B h _=>?_) (gA _);have hw:=zo.u5 (B:=B) [1,2] [0] [.sl 1 [] 1 0 l.length false] [⟨1,243,0,[[]],0⟩,⟨1,0,1,(l.map zN).set t ([C.sl 2 [] 1 0 r0.length false]),0⟩,⟨2,43,1,r0.map jH,0⟩] tJ rfl rfl (zc rfl (zc (zj (zA (enc:=zN) (fun _=>rfl) rfl l t)) rfl))
 have e:xA [1,2] [⟨1,243,0,[[]],0⟩,⟨1,0,1,(l.map zN).set t ([C.sl 2 [] 1 0 r0.length false]),0⟩,⟨2,43,1,r0.map jH,0⟩]=[⟨1,0,1,(l.map zN).set t ([C.sl 1 [] 1 0 r0.length false]),0⟩,⟨2,43,1,r0.map jH,0⟩]:=by
  show zK [1,2] ⟨1,0,1,(l.map zN).set t ([C.sl 2 [] 1 0 r0.length false]),0⟩::_=_;rw [zH (enc:=zN) (fun _=>rfl)]
  rfl
 rw [e] at hw;exact hw
structure D8 (cs:List (List Int)) (t:Nat) (r0:List Int):Prop where
 sm:cs.length < 1000000000∧∀ r ∈ cs,r.length < 1000000000
 at_:cs[t]?= some r0
 ne:r0≠[]
def Um {cs:List (List Int)} {t:Nat} {r0:List Int} (h:D8 cs t r0) (H:zl) (hf:qP H=true):tn 159 H [eG cs,.fn 160 [] [],.agg []] (.sl H.length [] 1 0 cs.length false) (H++[⟨1,0,1,(cs.map zN).set t ([C.sl (H.length+1) [] 1 0 r0.length false]),0⟩,⟨2,43,1,r0.map jH,0⟩]):=by
 obtain ⟨x,l,hx⟩:∃ x l,r0=x::l:=by
  cases hh:r0 with
  | nil=>exact absurd hh h.ne
  | cons x l=>exact ⟨x,l,rfl⟩
 have hlen:l.length < 1000000000:=by
  have:=h.sm.2 r0 (dO h.at_);rw [hx] at this;exact cP
 have:=nU (SA cs t r0 h.at_ h.sm.1 (fun y hy=>yc y (h.sm.2 y hy)) (Ur r0 x l hx hlen)) (zc (zj (zA (enc:=zN) (fun _=>rfl) rfl _ _)) rfl) rfl H hf
 have e9:[(⟨1,0,1,(cs.map zN).set t ([C.sl 1 [] 1 0 r0.length false]),0⟩:Ob),⟨2,43,1,r0.map jH,0⟩].map (zG (qZ [] H.length))=[⟨1,0,1,(cs.map zN).set t ([C.sl (H.length+1) [] 1 0 r0.length false]),0⟩,⟨2,43,1,r0.map jH,0⟩]:=by
  show zG _ ⟨1,0,1,_,0⟩::_=_;rw [zB (enc:=zN) (fun _=>rfl)]
  rfl
 rw [e9] at this;exact dy
def Is (w:Wor) (h:qX w) (x:Int) (l:List Int) (hx:w.pins=x::l):tn 114 [] [Cw w] (.agg [I w.zn,I w.current,I w.lock,.sl 0 [] 1 0 w.pins.length false,lV w.ze,lL w.zd,eG w.counts,lR w.zr]) [⟨2,3,1,w.pins.map encI,0⟩]:=by
 have hl:l.length < 1000000000:=by have:=h.pins;rw [hx] at this;exact cP
 have hc:=KS x l hl;rw [<- hx] at hc;refine Af (fn:=f114) func114 rfl (uH ?_);refine af [] (hc) ?_;refine af [] (wK w.ze h.ze.1 fun v hv=>jI v (h.ze.2 v hv)) ?_;refine ah (vT w.zd h.zd) ?_;refine af [] (wJ w.counts h.counts.1 fun r hr=>yc r (h.counts.2 r hr)) ?_;refine ah (AJ w.zr h.zr) ?_;refine ⟨.inl rfl,_,_,(zo.zV 1 0 4 rfl rfl rfl rfl (.inr rfl) rfl aj (shut_map (enc:=zF) (fun _=>rfl) w.ze) (z5 rfl)).trans (zo.zV 1 0 6 rfl rfl rfl rfl (.inr rfl) rfl aj (shut_map (enc:=zN) (fun _=>rfl) w.counts) (z5 rfl)),rfl,?_⟩;exact zo.u5 [3] [0] _ _ rfl rfl rfl (zc rfl (zc rfl (zc rfl (zc rfl (zc (zj fun r hr c hc=>((shut_map (enc:=zF) (fun _=>rfl) w.ze) r hr c hc).2) (zj fun r hr c hc=>((shut_map (enc:=zN) (fun _=>rfl) w.counts) r hr c hc).2))))))
def KU {B:Nat} (sel m:List Nat) {t t2:List C} {H H2:zl} (hB:Be B 0 sel=true) (z7:sel.all (fun id=>Nat.blt id H.length)=true) (ff:ym sel=true) (eX:qP H=true) (et:(oT m 0 t).map (x9 sel 9)=t2) (e:xA sel H=H2):zo B ⟨t,H⟩ ⟨t2,H2⟩:=by
 subst et e;exact zo.u5 sel m t H hB z7 ff eX
def va (w:Wor) (h:qX w) (x:eE) (l:List eE) (hx:w.zd=x::l):tn 114 [] [Cw w] (.agg [I w.zn,I w.current,I w.lock,lI w.pins,lV w.ze,.sl 0 [] 4 0 w.zd.length false,eG w.counts,lR w.zr]) [⟨2,85,4,w.zd.map qH,0⟩]:=by
 have hl:l.length < 1000000000:=by have:=h.zd;rw [hx] at this;exact cP
 have hc:=SN x l hl;rw [<- hx] at hc;refine Af (fn:=f114) func114 rfl (uH ?_);refine ah (y9 w.pins h.pins) ?_;refine af [] (wK w.ze h.ze.1 fun v hv=>jI v (h.ze.2 v hv)) ?_;refine af [] (hc) ?_;refine af [] (wJ w.counts h.counts.1 fun r hr=>yc r (h.counts.2 r hr)) ?_;refine ah (AJ w.zr h.zr) ?_;refine ⟨.inl rfl,_,_,(zo.zV 1 0 4 rfl rfl rfl rfl (.inr rfl) rfl aj (shut_map (enc:=zF) (fun _=>rfl) w.ze) (z5 rfl)).trans (zo.zV 1 0 6 rfl rfl rfl rfl (.inr rfl) rfl aj (shut_map (enc:=zN) (fun _=>rfl) w.counts) (z5 rfl)),rfl,?_⟩;exact zo.u5 [4] [0] _ _ rfl rfl rfl (zc rfl (zc rfl (zc rfl (zc (zj fun r hr c hc=>((shut_map (enc:=zF) (fun _=>rfl) w.ze) r hr c hc).2) (zc rfl (zj fun r hr c hc=>((shut_map (enc:=zN) (fun _=>rfl) w.counts) r hr c hc).2))))))
def Ir (w:Wor) (h:qX w) (cs:List (List Int)) (hcs:w.counts=cs) {t:Nat} {r0:List Int} (hp:D8 cs t r0):tn 114 [] [Cw w] (.agg [I w.zn,I w.current,I w.lock,lI w.pins,lV w.ze,lL w.zd,.sl 0 [] 1 0 cs.length false,lR w.zr]) [⟨1,0,1,(cs.map zN).set t ([C.sl 1 [] 1 0 r0.length false]),0⟩,⟨2,43,1,r0.map jH,0⟩]:=by
 subst hcs;have own:∀ i,∀ r ∈ (w.counts.map zN).set t ([C.sl i [] 1 0 r0.length false]),∀ c ∈ r,zy c=true:=fun i=>zA (enc:=zN) (fun _=>rfl) rfl _ _
 refine Af (fn:=f114) func114 rfl (uH ?_);refine ah (y9 w.pins h.pins) ?_;refine af [] (wK w.ze h.ze.1 fun v hv=>jI v (h.ze.2 v hv)) ?_;refine ah (vT w.zd h.zd) ?_;refine ⟨_,_,Um hp _ (zc rfl (zc rfl (zc rfl rfl))),dd ?_⟩;refine ah (AJ w.zr h.zr) ?_;refine ⟨.inl rfl,_,_,zo.zV 1 0 4 rfl rfl rfl rfl (.inr rfl) rfl aj (shut_map (enc:=zF) (fun _=>rfl) w.ze) (z5 rfl),rfl,?_⟩;refine KU [4,5] [0] rfl rfl rfl (zc rfl (zc rfl (zc rfl (zc (zj fun r hr c hc=>((shut_map (enc:=zF) (fun _=>rfl) w.ze) r hr c hc).2) (zc (zj (own 5)) rfl))))) rfl ?_;show zK [4,5] ⟨1,0,1,(w.counts.map zN).set t ([C.sl 5 [] 1 0 r0.length false]),0⟩::_=_;rw [zH (enc:=zN) (fun _=>rfl)]
 rfl
def Uh (w:Wor) (h:qX w) (H:zl) (hf:qP H=true):tn 159 H [eG w.counts,.fn 160 [] [],.agg []] (.sl H.length [] 1 0 w.counts.length false) (H++[⟨2,116,1,w.counts.map zN,0⟩]):=
 nU (wJ w.counts h.counts.1 fun r hr=>yc r (h.counts.2 r hr)) rfl rfl H hf
def yF (w:Wor) (h:qX w) (vs:List u3) (hvs:w.ze=vs) {v:Nat} {v0:u3} {g:Nat} {g0:Gr} {e:Nat} {e0:En} (hp:oP vs v v0 g g0 e e0):tn 114 [] [Cw w] (.agg [I w.zn,I w.current,I w.lock,lI w.pins,.sl 0 [] 5 0 vs.length false,lL w.zd,eG w.counts,lR w.zr]) [⟨1,0,5,(vs.map zF).set v ((qK v0.snap++[C.sl 1 [] 2 0 v0.zm.length false,Bo v0.qm])),0⟩,⟨1,0,2,(v0.zm.map zE).set g ([U g0.zt,C.sl 2 [] 3 0 g0.ends.length false]),0⟩,⟨1,0,3,(g0.ends.map zx).set e ([U e0.head,C.sl 3 [] 1 0 e0.next.length false,I e0.zg]),0⟩,⟨2,3,1,e0.next.map encI,0⟩]:=by
 subst hvs;have own:∀ i,∀ r ∈ (w.ze.map zF).set v ((qK v0.snap++[C.sl i [] 2 0 v0.zm.length false,Bo v0.qm])),∀ c ∈ r,zy c=true:=fun i=>zA (enc:=zF) (fun _=>rfl) rfl _ _
 refine Af (fn:=f114) func114 rfl (uH ?_);refine ah (y9 w.pins h.pins) ?_;refine ⟨_,_,Un hp _ rfl,dd ?_⟩;refine ah (vT w.zd h.zd) ?_;refine ⟨_,_,Uh w h _ (zc rfl (zc rfl (zc rfl (zc (zj (own 4)) (zc (zj (zA (enc:=zE) (fun _=>rfl) rfl _ _)) (zc (zj (zA (enc:=zx) (fun _=>rfl) rfl _ _)) rfl)))))),dd ?_⟩;refine ah (AJ w.zr h.zr) ?_;refine ⟨.inl rfl,_,_,zo.zV 1 0 6 rfl rfl rfl rfl (.inr rfl) rfl aj (shut_map (enc:=zN) (fun _=>rfl) w.counts) (z5 rfl),rfl,?_⟩;refine KU [3,4,5,6] [0] rfl rfl rfl (zc rfl (zc rfl (zc rfl (zc (zj (own 4)) (zc (zj (zA (enc:=zE) (fun _=>rfl) rfl _ _)) (zc (zj (zA (enc:=zx) (fun _=>rfl) rfl _ _)) (zc rfl (zj fun r hr c hc=>((shut_map (enc:=zN) (fun _=>rfl) w.counts) r hr c hc).2)))))))) rfl ?_;show zK [3,4,5,6] ⟨1,0,5,(w.ze.map zF).set v ((qK v0.snap++[C.sl 4 [] 2 0 v0.zm.length false,Bo v0.qm])),0⟩::zK [3,4,5,6] ⟨1,0,2,(v0.zm.map zE).set g ([U g0.zt,C.sl 5 [] 3 0 g0.ends.length false]),0⟩::zK [3,4,5,6] ⟨1,0,3,(g0.ends.map zx).set e ([U e0.head,C.sl 6 [] 1 0 e0.next.length false,I e0.zg]),0⟩::_=_;rw [zH (enc:=zF) (fun _=>rfl),zH (enc:=zE) (fun _=>rfl),zH (enc:=zx) (fun _=>rfl)]
 rfl
def fP (i n:Int):Bool:=decide (0<=i) && decide (i < n)
def wm (i n:Int):tn 140 [] [I i,I n] (Bo (fP i n)) []:=by
 refine ab func140 ?_;refine ⟨fun h1=>?_,fun h1=>?_⟩
 ·refine dd ?_;refine ⟨fun h2=>?_,fun h2=>?_⟩
  ·refine dd ?_
   (exact ⟨.inl rfl,_,.refl _,uN (by unfold fP;simp at h1 h2 ⊢;omega)⟩)
  ·refine dd ?_
   (exact ⟨.inl rfl,_,.refl _,uN (by unfold fP;simp at h1 h2 ⊢;omega)⟩)
 ·refine dd ?_
  (exact ⟨.inl rfl,_,.refl _,uN (by unfold fP;simp at h1 ⊢;omega)⟩)
def Pw {H:zl} {f:FuncId} {caps:List C} {l:List Int} (p:Int->Bool) (hcb:qp prog f=true) (hp:∀ r ∈ l,tn f H ([I r]++caps) (Bo (p r)) H) (hl:l.length < 4611686018427387904):
  tn 52 H [lI l,.fn f [] caps] (I (match l.findIdx? p with | some i=>(i:Int) | none=> -1)) H:=by
 refine zb.zU (fn:=f52) func52 rfl (uH ?_)
 refine zZ.inv (fun n t1 H1=>∃ k,k+n=l.length∧H1=H∧(∀ j,j < k->∀ r,l[j]?= some r->p r=false)∧
   t1=((lI l)::.fn f [] caps::.za::.za::I 0::.za::.za::I (l.map encI).length::I k::tZ ([.za,.za]))) l.length ?_ ?_
 ·exact cT
 rintro n _ _ ⟨k,hk,rfl,hno,rfl⟩;conv=>whnf
 refine ⟨fun h=>?_,fun h=>?_⟩
 ·conv=>whnf
  have ux:k < l.length:=aq h
  refine ⟨aw,encI l[k],aY,uH ?_⟩;rw [hcb];refine ⟨_,_,hp _ (gQ ux),uH ?_⟩;refine ⟨fun h2=>?_,fun h2=>?_⟩
  ·conv=>whnf
   refine .inr ⟨aj,uH ?_⟩;refine ⟨.inl rfl,_,.refl _,rfl,?_⟩
   have:l.findIdx? p=some k:=by
    rw [gy];refine ⟨ux,h2,fun j hj=>?_⟩;simp [hno j hj _ (dM aw)]
   rw [this]
   rfl
  ·conv=>whnf
   refine .inl ⟨rfl,n - 1,_,_,aw,zo.mask [0,1,4,7,8] _ _,k+1,aw,rfl,?_,?_⟩
   ·intro j hj r hr;by_cases hjk:j=k
    ·subst hjk;rw [dM ux] at hr;cases hr
     exact h2
    ·exact hno j aw r hr
   ·rw [zu aw];rfl
 ·conv=>whnf
  refine .inr ⟨aj,uH ?_⟩;refine ⟨.inl rfl,_,.refl _,rfl,?_⟩
  have:l.findIdx? p=none:=by
   rw [gC];intro x hx;obtain ⟨j,hj⟩:=gm.1 hx;have hjl:=(dL.1 hj).1;have:¬k < l.length:=aq h
   exact hno j aw x hj
  rw [this]
  rfl
def Jt {H:zl} {f:FuncId} {caps:List C} {l:List Int} (p:Int->Bool) (hcb:qp prog f=true) (hp:∀ r ∈ l,tn f H ([I r]++caps) (Bo (p r)) H) (hl:l.length < 4611686018427387904):
  tn 27 H [lI l,.fn f [] caps] (Bo (l.any p)) H:=by
 refine zb.zU (fn:=f27) func27 rfl (uH ?_);refine ⟨_,_,Pw p hcb hp hl,dd ?_⟩;rw [show decide ((match l.findIdx? p with | some i=>((i:Nat):Int) | none=>(-1:Int))≥(0:Int))=l.any p from B7 l p];refine ⟨fun h=>?_,fun h=>?_⟩ <;> rw [h]
 ·exact de
 ·exact de
def Pv {H:zl} {f:FuncId} {caps:List C} {l:List En} (p:En->Bool) (hcb:qp prog f=true) (hp:∀ r ∈ l,tn f H ([Go.Slp.Ev r]++caps) (Bo (p r)) H) (hl:l.length < 4611686018427387904):
  tn 81 H [lE l,.fn f [] caps] (I (match l.findIdx? p with | some i=>(i:Int) | none=> -1)) H:=by
 refine zb.zU (fn:=f81) func81 rfl (uH ?_)
 refine zZ.inv (fun n t1 H1=>∃ k,k+n=l.length∧H1=H∧(∀ j,j < k->∀ r,l[j]?= some r->p r=false)∧
   t1=((lE l)::.fn f [] caps::.za::.za::I 0::.za::.za::I (l.map zx).length::I k::tZ ([.za,.za]))) l.length ?_ ?_
 ·exact cT
 rintro n _ _ ⟨k,hk,rfl,hno,rfl⟩;conv=>whnf
 refine ⟨fun h=>?_,fun h=>?_⟩
 ·conv=>whnf
  have ux:k < l.length:=aq h
  refine ⟨aw,zx l[k],aY,uH ?_⟩;rw [hcb];refine ⟨_,_,hp _ (gQ ux),uH ?_⟩;refine ⟨fun h2=>?_,fun h2=>?_⟩
  ·conv=>whnf
   refine .inr ⟨aj,uH ?_⟩;refine ⟨.inl rfl,_,.refl _,rfl,?_⟩
   have:l.findIdx? p=some k:=by
    rw [gy];refine ⟨ux,h2,fun j hj=>?_⟩;simp [hno j hj _ (dM aw)]
   rw [this]
   rfl
  ·conv=>whnf
   refine .inl ⟨rfl,n - 1,_,_,aw,zo.mask [0,1,4,7,8] _ _,k+1,aw,rfl,?_,?_⟩
   ·intro j hj r hr;by_cases hjk:j=k
    ·subst hjk;rw [dM ux] at hr;cases hr
     exact h2
    ·exact hno j aw r hr
   ·rw [zu aw];rfl
 ·conv=>whnf
  refine .inr ⟨aj,uH ?_⟩;refine ⟨.inl rfl,_,.refl _,rfl,?_⟩
  have:l.findIdx? p=none:=by
   rw [gC];intro x hx;obtain ⟨j,hj⟩:=gm.1 hx;have hjl:=(dL.1 hj).1;have:¬k < l.length:=aq h
   exact hno j aw x hj
  rw [this]
  rfl
def Qb {H:zl} {f:FuncId} {caps:List C} {l:List En} (p:En->Bool) (hcb:qp prog f=true) (hp:∀ r ∈ l,tn f H ([Go.Slp.Ev r]++caps) (Bo (p r)) H) (hl:l.length < 4611686018427387904):
  tn 57 H [lE l,.fn f [] caps] (Bo (l.any p)) H:=by
 refine zb.zU (fn:=f57) func57 rfl (uH ?_);refine ⟨_,_,Pv p hcb hp hl,dd ?_⟩;rw [show decide ((match l.findIdx? p with | some i=>((i:Nat):Int) | none=>(-1:Int))≥(0:Int))=l.any p from B7 l p];refine ⟨fun h=>?_,fun h=>?_⟩ <;> rw [h]
 ·exact de
 ·exact de
def ns (ep p:Int):Bool:=decide (p < 0) || decide (p > ep+1)
def NS (w:Wor) (p:Int) (h0:0<=w.zn) (h1:w.zn<=1000000000000):tn 53 [⟨1,37,8,[zJ w],0⟩] ([I p]++[.ref 0 [] 8 0 0]) (Bo (ns w.zn p)) [⟨1,37,8,[zJ w],0⟩]:=by
 have e:IntKind.i64.wrap (w.zn+1)=w.zn+1:=q9 aw aw;refine zb.zU (fn:=f53) func53 rfl (uH ?_);refine ⟨fun h2=>?_,fun h2=>?_⟩
 ·refine dd ?_;exact ⟨.inl rfl,_,.refl _,rfl,uN (by unfold ns;rw [h2];rfl)⟩
 ·refine dd ?_;rw [e];refine ⟨fun h3=>?_,fun h3=>?_⟩
  ·refine dd ?_;exact ⟨.inl rfl,_,.refl _,rfl,uN (by unfold ns;rw [h2,h3];rfl)⟩
  ·refine dd ?_;exact ⟨.inl rfl,_,.refl _,rfl,uN (by unfold ns;rw [h2,h3];rfl)⟩
def jS (w:Wor):Bool:=decide (1<=w.pins.length) && decide (w.pins.length<=8) && decide (w.counts.length=w.pins.length) && Aa w.counts && decide (0<=w.zn) && decide (w.zn<=1000000000000) && (decide (w.lock=0) || decide (w.lock=1)) && !w.pins.any (ns w.zn)
def N4 (w:Wor) (hp:w.pins.length < 4000000000000000000) (hc:w.counts.length < 4000000000000000000):tn 30 [] [Cw w] (Bo (jS w)) []:=by
 have m1:(w.pins.map encI).length=w.pins.length:=dR ..;have m2:(w.counts.map zN).length=w.counts.length:=dR ..;refine ab func30 ?_;rw [m1];refine ⟨fun h1=>?_,fun h1=>?_⟩
 ·(have e:jS w=false:=by (unfold jS;(rw [show decide (1<=w.pins.length)=false from by rw [gZ];have:=gK h1;omega]);simp));exact dI
 refine dd ?_;refine ⟨fun h2=>?_,fun h2=>?_⟩
 ·(have e:jS w=false:=by (unfold jS;(rw [show decide (w.pins.length<=8)=false from cq]);simp));exact dI
 refine dd ?_;rw [m2];refine ⟨fun h3=>?_,fun h3=>?_⟩
 ·(have e:jS w=false:=by (unfold jS;(rw [show decide (w.counts.length=w.pins.length)=false from by rw [gZ];intro hh;simp [hh] at h3]);simp));exact dI
 refine dd ?_;refine ah (ND w.counts hc) ?_;refine ⟨fun h4=>?_,fun h4=>?_⟩
 rotate_left
 ·(have e:jS w=false:=by (unfold jS;(rw [h4]);simp));exact dI
 refine dd ?_;refine ⟨fun h5=>?_,fun h5=>?_⟩
 ·(have e:jS w=false:=by (unfold jS;(rw [show decide (0<=w.zn)=false from by simp at h5 ⊢;omega]);simp));exact dI
 refine dd ?_;refine ⟨fun h6=>?_,fun h6=>?_⟩
 ·(have e:jS w=false:=by (unfold jS;(rw [show decide (w.zn<=1000000000000)=false from by simp at h6 ⊢;omega]);simp));exact dI
 refine dd ?_;have b0:0<=w.zn:=by simp at h5;omega
 have b1:w.zn<=1000000000000:=by simp at h6;omega
 have hcon:=Jt (H:=[⟨1,37,8,[zJ w],0⟩]) (f:=53) (l:=w.pins) (caps:=[.ref 0 [] 8 0 0]) (ns w.zn) au (fun r _=>NS w r b0 b1) aw
 have g0:jS w=((decide (w.lock=0) || decide (w.lock=1)) && !w.pins.any (ns w.zn)):=by
  have h3':w.counts.length=w.pins.length:=by simp at h3;omega
  unfold jS;rw [show decide (1<=w.pins.length)=true from by rw [decide_eq_true_iff];have:=pF h1;omega,show decide (w.pins.length<=8)=true from cq,show decide (w.counts.length=w.pins.length)=true from aq h3',h4,show decide (0<=w.zn)=true from aq b0,show decide (w.zn<=1000000000000)=true from aq b1]
  rfl
 have fin:∀ hl:(decide (w.lock=0) || decide (w.lock=1))=true,jS w=!w.pins.any (ns w.zn):=fun hl=>by rw [g0,hl];rfl
 refine ⟨fun h7=>?_,fun h7=>?_⟩
 ·refine dd ?_;refine ⟨fun h8=>?_,fun h8=>?_⟩
  ·have e:jS w=false:=by rw [g0,show (decide (w.lock=0) || decide (w.lock=1))=false from by simp at h7 h8 ⊢;omega];rfl
   rw [e];refine dd ?_;refine tc ?_
   exact uI
  rw [fin (by simp at h8 ⊢;omega)];refine dd ?_;refine tc ?_
  refine af [0] (hcon) ?_;refine ⟨fun h9=>?_,fun h9=>?_⟩
  ·refine dd ?_
   (exact ⟨.inl rfl,_,.refl _,uN (by rw [h9];rfl)⟩)
  ·refine dd ?_
   (exact ⟨.inl rfl,_,.refl _,uN (by rw [h9];rfl)⟩)
 ·rw [fin (by simp at h7 ⊢;omega)];refine dd ?_;refine tc ?_
  refine af [0] (hcon) ?_;refine ⟨fun h9=>?_,fun h9=>?_⟩
  ·refine dd ?_
   (exact ⟨.inl rfl,_,.refl _,uN (by rw [h9];rfl)⟩)
  ·refine dd ?_
   (exact ⟨.inl rfl,_,.refl _,uN (by rw [h9];rfl)⟩)
def nV (x:eM) (e:En):Bool:=!Go.Slp.eu e || (e.next.length:Int) != x.xL
def NI (x:eM) (e:En) (he:e.ok):tn 56 [⟨1,129,4,[j6 x],0⟩] ([Go.Slp.Ev e]++[.ref 0 [] 4 0 0]) (Bo (nV x e)) [⟨1,129,4,[j6 x],0⟩]:=by
 have m1:(e.next.map encI).length=e.next.length:=dR ..;refine zb.zU (fn:=f56) func56 rfl (uH ?_);refine ah (Go.Slp.AM e he) ?_;refine ⟨fun h1=>?_,fun h1=>?_⟩
 rotate_left
 ·refine dd ?_;exact ⟨.inl rfl,_,zo.keep [3] 1 _ _ rfl rfl rfl rfl,rfl,uN (by unfold nV;rw [h1];rfl)⟩
 ·refine dd ?_;rw [m1];refine ⟨fun h2=>?_,fun h2=>?_⟩
  ·refine dd ?_;exact ⟨.inl rfl,_,zo.keep [3] 1 _ _ rfl rfl rfl rfl,rfl,uN (by unfold nV;rw [h1,h2];rfl)⟩
  ·refine dd ?_;exact ⟨.inl rfl,_,zo.keep [3] 1 _ _ rfl rfl rfl rfl,rfl,uN (by unfold nV;rw [h1,h2];rfl)⟩
structure HG (v:u3):Prop where
 snap:wV v.snap
 zm:v.zm.length < 1000000000000
 ends : ∀ g ∈ v.zm, g.ends.length < 1000000000000 ∧ ∀ e ∈ g.ends, e.ok
def oR (v:u3) (i:Nat):Bool:=match v.zm[i]?,v.snap.zk[i]? with
 | some g,some x=>decide (g.ends.length=x.zL.length) && !g.ends.any (nV x)
 | _,_=>true
def l9 (v:u3):Bool:=vj v.snap && decide (v.zm.length=v.snap.zk.length) && (List.range v.zm.length).all (oR v)
def NH (v:u3) (hv:HG v):tn 32 [] [Cv v] (Bo (l9 v)) []:=by
 have m1:(v.zm.map zE).length=v.zm.length:=dR ..;have m2:(v.snap.zk.map j6).length=v.snap.zk.length:=dR ..;have hgl:=hv.zm;refine ab func32 ?_;refine ah (ID v.snap hv.snap) ?_;refine ⟨fun h1=>?_,fun h1=>?_⟩
 rotate_left
 ·have e:l9 v=false:=by unfold l9;rw [h1];rfl
  rw [e];refine dd ?_;refine tc ?_
  exact uI
 refine dd ?_;rw [m1,m2];refine ⟨fun h2=>?_,fun h2=>?_⟩
 ·have e:l9 v=false:=by unfold l9;rw [show decide (v.zm.length=v.snap.zk.length)=false from by rw [gZ];intro hh;simp [hh] at h2,r9];rfl
  rw [e];refine dd ?_;refine tc ?_
  exact uI
 have h2':v.zm.length=v.snap.zk.length:=aZ
 refine dd ?_;refine tc ?_
 rw [m1];refine zZ.seq v.zm.length (fun k=>(.za::.ref 0 [] 5 0 0::Bo false::tZ (tZ (.za::.za::.za::(lG v.zm)::I v.zm.length::I k::tZ (tZ (tZ ([.za]))))))) (fun k=>[⟨1,107,5,[zF v],0⟩]) (fun k=>∀ j,j < k->oR v j=true) ?_ aj (fun k hk hr=>?_) (fun hr=>?_)
 ·exact cC
 ·obtain ⟨g,hg⟩:∃ g,g=v.zm[k]:=⟨_,rfl⟩;obtain ⟨x,hx⟩:∃ x,x=v.snap.zk[k]'aw:=⟨_,rfl⟩;have gg:(v.zm.map zE)[k]?= some (zE g):=by rw [dP,dM hk,hg];rfl
  have gx:(v.snap.zk.map j6)[k]?= some (j6 x):=by rw [dP,dM aw,hx];rfl
  have hgm:g ∈ v.zm:=by rw [hg];exact dH
  have me:(g.ends.map zx).length=g.ends.length:=dR ..;have mh:(x.zL.map vq).length=x.zL.length:=dR ..
  have hd:oR v k=(decide (g.ends.length=x.zL.length) && !g.ends.any (nV x)):=by
   unfold oR;rw [dM hk,dM aw,<- hg,<- hx]
  have bad:oR v k=false->l9 v=false:=fun h=>by
   have:(List.range v.zm.length).all (oR v)=false:=by rw [rM];exact ⟨k,aq hk,aH⟩
   unfold l9;rw [this,r9]
  have hcon:=Qb (H:=[⟨1,129,4,[j6 x],0⟩]) (f:=56) (l:=g.ends) (caps:=[.ref 0 [] 4 0 0]) (nV x) au (fun r hr=>NI x r ((hv.ends g hgm).2 r hr)) (by have:=(hv.ends g hgm).1;omega);conv=>whnf
  refine uF ?_;(refine td gg ?_)
  (refine td gx ?_)
  rw [me,mh];refine ⟨fun h3=>?_,fun h3=>?_⟩
  ·rw [bad (by rw [hd,show decide (g.ends.length=x.zL.length)=false from by rw [gZ];intro hh;simp [hh] at h3];rfl)];refine dd ?_;refine tc ?_
   (refine .inr ⟨aj,uH ?_⟩)
   exact uI
  refine dd ?_;refine af [2] (hcon) ?_;refine ⟨fun h4=>?_,fun h4=>?_⟩
  ·rw [bad (by rw [hd,h4,sR,r9])];refine dd ?_;refine tc ?_
   (refine .inr ⟨aj,uH ?_⟩)
   exact uI
  refine dd ?_;refine tc ?_
  refine .inl ⟨rfl,?_,fun j hj=>?_⟩
  ·exact dt
  ·by_cases e:j=k
   ·subst e;rw [hd,h4];simp at h3 ⊢;omega
   ·exact hr j aw
 ·have e:l9 v=true:=by
   unfold l9;rw [h1,show decide (v.zm.length=v.snap.zk.length)=true from aq h2',sB,sB,dV]
   exact fun i hi=>hr i (aq hi)
  rw [e];refine uD ?_;exact uI
def yK (l:List eC):List (Int × Value):=l.foldl (fun m r=>yn m r.version (Value.bool r.gone)) []
def vv (l:List eC) (i:Int):Bool:=match ((jj (yK l) i).bind fun j=>((yK l)[j]?).map (·.2):Option Value) with
 | some (.bool b)=>b
 | _=>false
def SP {m:List (Int × Value)} (h:∀ kv ∈ m,∃ b,kv.2=Value.bool b) (k:Int) (b:Bool):∀ kv ∈ yn m k (Value.bool b),∃ b,kv.2=Value.bool b:=fun kv hm=>by
 unfold yn at hm;split at hm
 ·rcases pd hm with hm | rfl
  ·exact h kv hm
  ·exact ⟨b,rfl⟩
 ·rcases gH.1 hm with hm | hm
  ·exact h kv hm
  ·rw [gI.1 hm];exact ⟨b,rfl⟩
def PS (l:List eC):∀ kv ∈ yK l,∃ b,kv.2=Value.bool b:=by
 unfold yK
 suffices key:∀ (l:List eC) (m:List (Int × Value)),(∀ kv ∈ m,∃ b,kv.2=Value.bool b)->∀ kv ∈ l.foldl (fun m r=>yn m r.version (Value.bool r.gone)) m,∃ b,kv.2=Value.bool b from key l [] aj
 intro l
 induction l with
 | nil=>intro m h;exact h
 | cons r l ih=>intro m h;exact ih _ (SP h _ _)
def TD (l:List eC) (i:Int):(((jj (yK l) i).bind fun j=>((yK l)[j]?).map (·.2)).getD (Value.bool false))=Value.bool (vv l i):=by
 unfold vv;cases h:(jj (yK l) i).bind fun j=>((yK l)[j]?).map (·.2) with
 | none=>rfl
 | some v=>
  obtain ⟨j,_,hj⟩:=gM.1 h;obtain ⟨kv,h1,rfl⟩:=gD.1 hj;obtain ⟨b,hb⟩:=PS l kv (dO h1);simp only [gY];rw [hb]
def Sb (l:List eC) {k:Nat} {r:eC} (h:l[k]?= some r):yK (l.take (k+1))=yn (yK (l.take k)) r.version (Value.bool r.gone):=by
 obtain ⟨hk,rfl⟩:=dL.1 h;unfold yK;rw [px hk,rL]
 rfl
structure fe (w:Wor):Prop where
 pins:w.pins.length < 1000000000000
 ze:w.ze.length < 1000000000000∧∀ v ∈ w.ze,HG v
 zd:w.zd.length < 1000000000000∧∀ l ∈ w.zd,l.ok
 counts:w.counts.length < 1000000000000∧∀ r ∈ w.counts,r.length < 1000000000000
 zr:w.zr.length < 1000000000000
def yx (w:Wor) (r:eC):Bool:=decide (r.version≥(w.ze.length:Int)) || r.version == w.current || decide (r.at_ > w.zn)
def mT (w:Wor) (i:Nat):Bool:=match w.ze[i]? with
 | some v=>l9 v && (v.qm == vv w.zr i)
 | none=>true
def wP (w:Wor) (i:Nat):Bool:=match w.zd[i]? with
 | some l=>Go.Gat.eu l && decide (zS w.zd l.name=i)
 | none=>true
def xM (w:Wor):Bool:=jS w && (decide (0<=w.current) && decide (w.current < w.ze.length)) && Go.Lim.eu w.zr && !w.zr.any (yx w) && (List.range w.ze.length).all (mT w) && (List.range w.zd.length).all (wP w)
def Ii (w:Wor) (hw:fe w):tn 12 [] [Cw w] (Bo (xM w)) []:=by
 have m1:(w.ze.map zF).length=w.ze.length:=dR ..;have m2:(w.zr.map xq).length=w.zr.length:=dR ..;have m3:(w.zd.map qH).length=w.zd.length:=dR ..;have b1:=hw.pins;have b2:=hw.ze.1;have b3:=hw.zd.1;have b4:=hw.counts.1;have b5:=hw.zr;refine ab func12 ?_;refine ah (N4 w aw aw) ?_;refine ⟨fun h1=>?_,fun h1=>?_⟩
 rotate_left
 ·(have e:xM w=false:=by (unfold xM;(rw [h1]);simp));exact dI
 refine dd ?_;refine ⟨fun h2=>?_,fun h2=>?_⟩
 ·(have e:xM w=false:=by (unfold xM;(rw [show decide (0<=w.current)=false from cq]);simp));exact dI
 refine dd ?_;rw [m1];refine ⟨fun h3=>?_,fun h3=>?_⟩
 ·(have e:xM w=false:=by (unfold xM;(rw [show decide (w.current < w.ze.length)=false from by simp at h3 ⊢;omega]);simp));exact dI
 refine dd ?_;refine ah (Go.Lim.AM (l:=w.zr) aw) ?_;refine ⟨fun h4=>?_,fun h4=>?_⟩
 rotate_left
 ·(have e:xM w=false:=by (unfold xM;(rw [h4]);simp));exact dI
 refine dd ?_;refine tc ?_
 intro b;refine dd ?_;rw [m2]
 have g0:xM w=(!w.zr.any (yx w) && (List.range w.ze.length).all (mT w) && (List.range w.zd.length).all (wP w)):=by
  unfold xM;rw [h1,show decide (0<=w.current)=true from cq,show decide (w.current < w.ze.length)=true from by simp at h3 ⊢;omega,h4]
  rfl
 refine zZ.seq w.zr.length (fun k=>(.za::.ref 0 [] 8 0 0::Bo false:: .v (.map (some b)):: .za::.za::.za::.za::.za::.za::tZ (tZ (tZ (lR w.zr::I w.zr.length::I k:: .za::.za::.za::.za::.za::.za::tZ (tZ (tZ (tZ (tZ (tZ (tZ (tZ ([]))))))))))))) (fun k=>[⟨1,37,8,[zJ w],0⟩,fg b (jM qk (yK (w.zr.take k))) (yK (w.zr.take k)).length]) (fun k=>∀ j,(h:j < w.zr.length)->j < k->yx w w.zr[j]=false) ?_ aj (fun k hk hr=>?_) (fun hr=>?_)
 ·exact cC
 ·obtain ⟨r,hx⟩:∃ r,r=w.zr[k]:=⟨_,rfl⟩;have hx2:w.zr[k]?= some r:=by rw [dM hk,hx]
  have hg:(w.zr.map xq)[k]?= some (xq r):=by rw [dP,hx2];rfl
  have bad:yx w r=true->xM w=false:=fun h=>by
   have:w.zr.any (yx w)=true:=pH.2 ⟨r,dO hx2,h⟩;rw [g0,this];rfl
  conv=>whnf
  refine uF ?_;(refine td hg ?_)
  rw [m1];refine ⟨fun h5=>?_,fun h5=>?_⟩
  ·(rw [bad (by unfold yx;rw [h5];rfl)]);refine dd ?_;refine tc ?_;(refine .inr ⟨aj,uH ?_⟩);exact uI
  refine dd ?_;refine ⟨fun h6=>?_,fun h6=>?_⟩
  ·(rw [bad (by unfold yx;rw [h6,sI];rfl)]);refine dd ?_;refine tc ?_;(refine .inr ⟨aj,uH ?_⟩);exact uI
  refine dd ?_;refine ⟨fun h7=>?_,fun h7=>?_⟩
  ·(rw [bad (by unfold yx;rw [h7,sI])]);refine dd ?_;refine tc ?_;(refine .inr ⟨aj,uH ?_⟩);exact uI
  refine dd ?_;refine tc ?_
  refine ⟨fun q=>?_,fun q=>?_⟩
  all_goals
   refine dd ?_;refine ⟨_,_,u6.mapUpdate (id:=1) _ _ _ _ (.inl rfl) underlying99 (iU.int underlying3) rfl rfl r.version (fun E u h=>jL h) (.bool r.gone) (fun E u h=>by rw [q];exact jL h),dd ?_⟩;refine .inl ⟨rfl,?_,fun j hj hjk=>?_⟩
   ·rw [zu aw,<- Sb w.zr hx2];exact cE 2
   ·by_cases e:j=k
    ·subst e;rw [<- hx];unfold yx;rw [h5,h6,h7];rfl
    ·exact hr j hj aw
 have hl0:w.zr.any (yx w)=false:=by
  rw [gP];intro x hx;obtain ⟨j,hj,rfl⟩:=pa.1 hx;simp [hr j hj hj]
 rw [gO];refine uD ?_;rw [m1];have g1:xM w=((List.range w.ze.length).all (mT w) && (List.range w.zd.length).all (wP w)):=by rw [g0,hl0];rfl
 refine zZ.seq w.ze.length (fun k=>(.za::.ref 0 [] 8 0 0::Bo false:: .v (.map (some b)):: .za::.za::.za::.za::.za::.za::.za::tZ (tZ (tZ (tZ (tZ (tZ (tZ (lV w.ze::I w.ze.length::I k:: .za::.za::.za::.za::.za::tZ (tZ (tZ (tZ ([]))))))))))))) (fun k=>[⟨1,37,8,[zJ w],0⟩,fg b (jM qk (yK (w.zr))) (yK (w.zr)).length]) (fun k=>∀ j,j < k->mT w j=true) ?_ aj (fun k hk hr=>?_) (fun hr=>?_)
 ·exact cC
 ·obtain ⟨v,hx⟩:∃ v,v=w.ze[k]:=⟨_,rfl⟩;have hx2:w.ze[k]?= some v:=by rw [dM hk,hx]
  have hg:(w.ze.map zF)[k]?= some (zF v):=by rw [dP,hx2];rfl
  have hd:mT w k=(l9 v && (v.qm == vv w.zr k)):=by unfold mT;rw [hx2]
  have bad:mT w k=false->xM w=false:=fun h=>by
   have:(List.range w.ze.length).all (mT w)=false:=by rw [rM];exact ⟨k,aq hk,aH⟩
   rw [g1,this];rfl
  conv=>whnf
  refine uF ?_;(refine td hg ?_)
  refine ah (NH v (hw.ze.2 v (dO hx2))) ?_;refine ⟨fun h5=>?_,fun h5=>?_⟩
  rotate_left
  ·(rw [bad (by rw [hd,h5];rfl)]);refine dd ?_;refine tc ?_;(refine .inr ⟨aj,uH ?_⟩);exact uI
  refine dd ?_;refine ⟨fun q=>?_,fun q=>?_⟩
  all_goals
   refine dd ?_;refine ⟨_,_,u6.lookup (id:=1) _ _ _ rfl underlying99 (iU.int underlying3) rfl rfl (k:Int) (fun E u h=>jL h) (c:=Bo (vv w.zr k)) rfl rfl (fun E=>by rw [TD];exact .v _ rfl),dd ?_⟩;refine ⟨fun q2=>?_,fun q2=>?_⟩
   ·(rw [bad (by rw [hd,q];simp at q2;simp [q2])]);refine dd ?_;refine tc ?_;(refine .inr ⟨aj,uH ?_⟩);exact uI
   refine dd ?_;refine tc ?_
   refine .inl ⟨rfl,?_,fun j hj=>?_⟩
   ·rw [zu aw];exact cE 2
   ·by_cases e:j=k
    ·subst e;rw [hd,h5,q];simp at q2;simp [q2]
    ·exact hr j aw
 have hv0:(List.range w.ze.length).all (mT w)=true:=by
  rw [dV]
  exact fun i hi=>hr i (aq hi)
 have g2:xM w=(List.range w.zd.length).all (wP w):=by rw [g1,hv0];rfl
 refine uD ?_;rw [m3];refine zZ.seq w.zd.length (fun k=>(.za::.ref 0 [] 8 0 0::Bo false:: .v (.map (some b)):: .za::.za::.za::tZ (tZ (tZ (tZ (tZ (tZ (tZ (tZ (tZ (tZ (lL w.zd::I w.zd.length::I k:: .za::tZ (tZ ([])))))))))))))) (fun k=>[⟨1,37,8,[zJ w],0⟩,fg b (jM qk (yK (w.zr))) (yK (w.zr)).length]) (fun k=>∀ j,j < k->wP w j=true) ?_ aj (fun k hk hr=>?_) (fun hr=>?_)
 ·exact cC
 ·obtain ⟨l,hx⟩:∃ l,l=w.zd[k]:=⟨_,rfl⟩;have hx2:w.zd[k]?= some l:=by rw [dM hk,hx]
  have hg:(w.zd.map qH)[k]?= some (qH l):=by rw [dP,hx2];rfl
  have hd:wP w k=(Go.Gat.eu l && decide (zS w.zd l.name=k)):=by unfold wP;rw [hx2]
  have bad:wP w k=false->xM w=false:=fun h=>by
   have:(List.range w.zd.length).all (wP w)=false:=by rw [rM];exact ⟨k,aq hk,aH⟩
   rw [g2,this]
  conv=>whnf
  refine uF ?_;(refine td hg ?_)
  refine ah (Go.Gat.AM l (hw.zd.2 l (dO hx2))) ?_;refine ⟨fun h5=>?_,fun h5=>?_⟩
  rotate_left
  ·(rw [bad (by rw [hd,h5];rfl)]);refine dd ?_;refine tc ?_;(refine .inr ⟨aj,uH ?_⟩);exact uI
  refine dd ?_;refine ah (wS w.zd l.name aw) ?_;refine ⟨fun h6=>?_,fun h6=>?_⟩
  ·(rw [bad (by rw [hd,show decide (zS w.zd l.name=(k:Int))=false from by rw [gZ];intro hh;simp [hh] at h6,r9])]);refine dd ?_;refine tc ?_;(refine .inr ⟨aj,uH ?_⟩);exact uI
  refine dd ?_;refine tc ?_
  refine .inl ⟨rfl,?_,fun j hj=>?_⟩
  ·rw [zu aw];exact cE 2
  ·by_cases e:j=k
   ·subst e;rw [hd,h5];simp at h6;simp [h6]
   ·exact hr j aw
 ·have hl1:(List.range w.zd.length).all (wP w)=true:=by
   rw [dV]
   exact fun i hi=>hr i (aq hi)
  rw [g2,hl1];refine uD ?_;exact uI
end Go.Wor
