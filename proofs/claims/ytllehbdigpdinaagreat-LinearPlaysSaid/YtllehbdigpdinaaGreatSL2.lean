import Derived.Test.YtllehbdigpdinaaGreatSF
import Derived.Test.YtllehbdigpdinaaGreatSJ
import Derived.Test.YtllehbdigpdinaaGreatS0
import Derived.Test.YtllehbdigpdinaaGreatSL1
set_option linter.all false
set_option maxRecDepth 100000
set_option maxHeartbeats 4000000
namespace Go.Lin
open Go.Ab Go.Proofs Tryz Go.Hy Go.Gat Go.Nam Go.Hos Go.Con Go.Sna
abbrev Cp(o:fh):C:=.agg (y8 o)
abbrev Ca(a:ff):C:=.agg (x3 a)
structure fM where
 z6:List Sna
 now:Int
 dr:List eZ
def mR:List eZ->List eZ->List eZ
 |acc,[]=>acc
 |acc,s::l=>mR (if s∈acc then acc else acc++[s]) l
def MF:∀(l acc:List eZ) (s:eZ),mR acc (l++[s])=if s∈mR acc l then mR acc l else mR acc l++[s]
 |[],acc,s=>rfl
 |x::l,acc,s=>MF l _ s
def H9:∀(l acc:List eZ) (s:eZ),s∈mR acc l↔s∈acc\/s∈l
 |[],acc,s=>by simp[mR]
 |x::l,acc,s=>by
  simp only[mR];rw[H9 l];split
  ·rename_i h;constructor
   ·rintro(h1|h1)
    ·exact .inl h1
    ·exact .inr (pT _ h1)
   ·rintro(h1|h1)
    ·exact .inl h1
    ·rcases pP.1 h1 with rfl|h1
     ·exact .inl h
     ·exact .inr h1
  ·simp only[gO,pP,List.not_mem_nil,or_false,false_or,or_assoc]
def iz(dr:List eZ):List (eZ×Value):=(mR [] dr).map λs=>(s,Value.bool true)
def Nd(l:List eZ)(s:eZ):Ab.je (l.map λx=>(x,Value.bool true)) s=l.findIdx? λx=>decide (x=s):=by
 unfold Ab.je;rw[rI]
 rfl
def O6(dr:List eZ)(s:eZ):(((Ab.je (iz dr) s).bind λi=>((iz dr)[i]?).map (·.2)).getD (.bool false))=if s∈dr then .bool true else .bool false:=by
 have hm:=H9 dr [] s;unfold iz;rw[Nd];cases h:(mR [] dr).findIdx? λx=>decide (x=s) with
 |none=>
  rw[gP]at h;rw[gf]
  ·rfl
  ·intro hs;have:=h s (hm.2 (.inr hs));simp at this
 |some i=>
  obtain⟨h1,h2,_⟩:=gJ.1 h;have hs:(mR [] dr)[i]=s:=aq h2
  have:s∈dr:=by
   have:=hm.1 (by rw[<-hs];exact gW h1);simpa using this
  rw[gk this];simp[h1]
def zxl(dr:List eZ)(s:eZ):ye (iz dr) s (.bool true)=iz (dr++[s]):=by
 have hm:=H9 dr [] s;unfold iz ye;rw[Nd,MF];cases h:(mR [] dr).findIdx? λx=>decide (x=s) with
 |none=>
  rw[gP]at h;have:¬s∈mR [] dr:=λhs=>by have:=h s hs;simp at this
  rw[gf this];simp
 |some i=>
  obtain⟨h1,h2,_⟩:=gJ.1 h;have hs:(mR [] dr)[i]=s:=aq h2
  rw[gk (by rw[<-hs];exact gW h1)];apply pI
  intro j;rw[gG];split
  ·rename_i e;subst e;simp[h1,hs]
  ·rfl
structure C9(s:Sna):Prop where
 small:Jd s
 rules:∀r∈s.rules,0<=r.zj/\r.zj.toNat<s.zk.length
 zk:∀c∈s.zk,c.zJ.length<1000000000000
structure Ac(m:fM):Prop where
 len:m.z6.length<1000000000000
 EI:0<=m.now
 Dd:m.now.toNat<m.z6.length
 all:∀s∈m.z6,C9 s
 dr:m.dr.length<1000000000000
def Ac.cur{m:fM}(h:Ac m):∃s,m.z6[m.now.toNat]?=some s/\C9 s:=⟨_,dZ h.Dd,h.all _ (gW h.Dd)⟩
structure AD(o:fh):Prop where
 host:o.host.length<1000000000000000
 path:o.path.length<1000000000000000
 config:xn o.config
abbrev kK(c:fF):List Int:=iZ c.zJ c.zJ.length
def handleV(m:fM)(o:fh)(a:ff):Bool:=
 if o.listen∈m.dr then a.kind == 5 else match m.z6[m.now.toNat]? with
 |none=>false
 |some s=>if (jr s o.listen o.host o.path).2≠0 then a.kind == 2 else match s.zk[(jr s o.listen o.host o.path).1.toNat]? with
  |none=>false
  |some c=>if kK c=[] then a.kind == 3 else if a.kind=4 then true else a.kind == 1 && a.version == m.now && a.zj == (jr s o.listen o.host o.path).1 && (kK c).any λx=>x == a.end_
def w8(m:fM)(o:fh)(a:ff):Bool×fM:=
 if (zT o.config).2.1≠0 then (a.kind == 9 && a.n == (zT o.config).2.1,m)
 else if a.kind≠8\/a.version≠(m.z6.length:Int) then (false,m) else (true,⟨m.z6++[(zT o.config).1],(m.z6.length:Int),m.dr⟩)
def qU(m:fM)(o:fh)(a:ff):Bool×fM:=
 if o.kind=1 then (handleV m o a,m) else if o.kind=3 then w8 m o a
 else if o.kind=4 then (a.kind == 10 || a.kind == 7,if a.kind=10 then ⟨m.z6,m.now,m.dr++[o.listen]⟩ else m) else (true,m)
def S9{f:Nat->Int}{n:Nat}(h:(jV f n).1=0):∀j,j<n->f j=0:=λj hj=>by
 unfold jV at h;split at h
 ·rename_i i hi;have:=List.find?_some hi;simp at this;exact absurd h this
 ·rename_i hn;rw[ui]at hn;have:=hn j hj;simpa using this
def TL{c:fD}(h:(qg c).1=0):(jV (nA c) c.zM.length).1=0:=by
 unfold qg at h;split at h
 ·rename_i h1;exact absurd h h1
 ·split at h
  ·rename_i h1;exact absurd h h1
  ·split at h
   ·rename_i h1;exact absurd h h1
   ·split at h
    ·rename_i h1;exact absurd h h1
    ·rename_i h1;simpa using h1
def Ue{l:List fF}{s:eZ}(h:kf l s=true):0<=nF l s/\(nF l s).toNat<l.length:=by
 unfold kf at h;rw[pZ]at h;obtain⟨x,hx,h2⟩:=h;unfold nF;cases hf:l.findIdx? (λx=>x.name == s) with
 |none=>
  rw[gP]at hf;rw[hf x hx]at h2;cases h2
 |some i=>
  obtain⟨h1,_⟩:=gJ.1 hf;exact⟨sN i,aq h1⟩
def HN{c:fD}(hc:xn c)(hh:∀x∈c.zk,x.zJ.length<1000000000000)(h:(zT c).2.1=0):C9 (zT c).1:=by
 unfold zT at h ⊢;split at h
 ·rename_i h1;exact absurd h h1
 ·rename_i h1;rw[gf h1];have h1:(qg c).1=0:=by simpa using h1
  have h2:=S9 (TL h1);refine⟨⟨hc.zd.1,aq hc.zM.1,λr hr=>?_⟩,λr hr=>?_,hh⟩
  ·obtain⟨x,hx,rfl⟩:=gZ.1 hr;have:=hc.zM.2 x hx;exact⟨this.2.1,this.2.2.1⟩
  ·obtain⟨x,hx,rfl⟩:=gZ.1 hr;obtain⟨j,hj,e⟩:=pz.1 hx;have h3:=h2 j hj;unfold nA at h3;rw[dZ hj]at h3
   have h4:kf c.zk x.zj=true:=by
    rw[<-e];cases hn:kf c.zk c.zM[j].zj with
    |true=>rfl
    |false=>
     exfalso
     simp only[hn]at h3
     revert h3
     split
     ·decide
     ·split
      ·decide
      ·split
       ·decide
       ·simp
   exact Ue h4
def UE{s:Sna}{n h p:eZ}(hs:C9 s)(h0:(jr s n h p).2=0):∃c,s.zk[(jr s n h p).1.toNat]?=some c/\c∈s.zk/\0<=(jr s n h p).1:=by
 have hb:=F7 s.rules (yz s.zd n) h p s.rules.length;unfold jr at h0 ⊢;split at h0
 ·cases h0
 ·rename_i h1;rw[gf h1];split at h0
  ·rename_i h2;exact absurd h0 h2
  ·rename_i h2;rw[gf h2];have h2:(vg s.rules (yz s.zd n) h p).2=0:=by simpa using h2
   have hb2:(vg s.rules (yz s.zd n) h p).1.toNat<s.rules.length:=by
    unfold vg at h2 ⊢;split at h2
    ·cases h2
    ·rename_i h3;rw[gf h3];simp only;omega
   rw[dZ hb2];obtain⟨h4,h5⟩:=hs.rules _ (gW hb2);exact⟨_,dZ h5,gW h5,h4⟩
def De(l:List Int)(s:Int):Int:=match l.findIdx? (λx=>x == s) with|some i=>(i:Int)|none=> -1
def Hx(l:List Int)(s:Int)(hl:l.length<4611686018427387904):tn 141 [] [lI l,I s] (I (De l s)) []:=by
 have hlm:(l.map encI).length=l.length:=gp ..;refine ab func141 ?_;rw[hlm];refine qa.seq l.length (λk=>((lI l)::I s::.za::.za::I 0::.za::.za::I l.length::I k::hU ([.za,.za]))) (λk=>[]) (λk=>∀j,(h:j<l.length)->j<k->(l[j] == s)=false) ?_ aj (λk hk hr=>?_) (λhr=>?_)
 ·exact cC
 ·have hg:(l.map encI)[k]?=some (encI l[k]):=by rw[gj,dZ hk];rfl
  conv=>whnf
  refine uF ?_;(refine td hg ?_)
  refine⟨λh2=>?_,λh2=>?_⟩
  ·refine dd ?_;(refine .inr ⟨aj,uH ?_⟩)
   have e:De l s=k:=by
    unfold De
    have:l.findIdx? (λx=>x == s)=some k:=by
     rw[gJ];refine⟨hk,?_,λj hj=>by simp only[hr j aw hj];decide⟩;simp at h2;simp[h2]
    rw[this]
   rw[e];exact uI
  ·refine dd ?_;refine .inl ⟨rfl,?_,λj hj hjk=>?_⟩
   ·rw[zw aw];exact cE 0
   ·by_cases e:j=k
    ·subst e;simp at h2 ⊢;exactλh=>h2 h.symm
    ·exact hr j hj aw
 ·refine uD ?_
  have e:De l s= -1:=by
   unfold De
   have:l.findIdx? (λx=>x == s)=none:=by
    rw[gP];intro x hx;obtain⟨j,hj,rfl⟩:=pz.1 hx;exact hr j hj hj
   rw[this]
  rw[e];exact uI
def E9(l:List Int)(s:Int)(hl:l.length<4611686018427387904):tn 93 [] [lI l,I s] (Bo (l.any λx=>x == s)) []:=by
 refine ab func93 ?_;refine ah (Hx l s hl) ?_;rw[show decide (De l s≥0)=l.any (λx=>x == s) from BW l _];refine⟨λh=>?_,λh=>?_⟩
 ·refine dd ?_
  (exact⟨.inl O,_,.refl _,uN (by exact h.symm)⟩)
 ·refine dd ?_
  (exact⟨.inl O,_,.refl _,uN (by exact h.symm)⟩)
def R4(b:Nat)(m:fM)(hm:Ac m)(o:fh)(a:ff)(ho:AD o):tn 50 [(fN b (jk nv (iz m.dr)) (iz m.dr).length),⟨1,130,3,[[.gl 2 3 (m.z6.map qv),I m.now,.v (.map (some b))]],0⟩,⟨4,116,3,m.z6.map qv,0⟩] [.ref 1 [] 3 0 0,Cp o,Ca a] (Bo (handleV m o a)) [(fN b (jk nv (iz m.dr)) (iz m.dr).length),⟨1,130,3,[[.gl 2 3 (m.z6.map qv),I m.now,.v (.map (some b))]],0⟩,⟨4,116,3,m.z6.map qv,0⟩]:=by
 obtain⟨s,hs,hsg⟩:=hm.cur;have hg:(m.z6.map qv)[m.now.toNat]?=some (qv s):=by rw[gj,hs];rfl
 refine zb.zG (fn:=f50) func50 O (uH ?_);refine uE ?_;by_cases hd:o.listen∈m.dr
 ·refine⟨_,_,fg.lookup (id:=0) _ _ _ O underlying128 (i5.str underlying9) O O o.listen (λE u h=>jB h) (c:=Bo true) O O (λE=>by rw[O6,gk hd];exact .v _ O),?_⟩;refine dd ?_;refine⟨λh1=>?_,λh1=>?_⟩
  ·have e:handleV m o a=true:=by unfold handleV;rw[gk hd];exact h1
   rw[e];refine dd ?_;exact⟨.inl O,⟨(.za::.za::.za::.za::.za::.za::Bo true:: .za::hU (jp (jp (hU ([]))))),_⟩,cE 3,rfl,rfl⟩
  ·have e:handleV m o a=false:=by unfold handleV;rw[gk hd];exact h1
   rw[e];exact db
 refine⟨_,_,fg.lookup (id:=0) _ _ _ O underlying128 (i5.str underlying9) O O o.listen (λE u h=>jB h) (c:=Bo false) O O (λE=>by rw[O6,gf hd];exact .v _ O),dd ?_⟩;refine .inl ⟨⟨false,[3,7,9],[1],[]⟩,au,uH ?_⟩;refine⟨hm.EI,_,hg,dd ?_⟩;refine⟨rfl,dd ?_⟩;refine⟨rfl,dd ?_⟩
 have e0:handleV m o a=if (jr s o.listen o.host o.path).2≠0 then a.kind == 2 else match s.zk[(jr s o.listen o.host o.path).1.toNat]? with
  |none=>false
  |some c=>if kK c=[] then a.kind == 3 else if a.kind=4 then true else a.kind == 1 && a.version == m.now && a.zj == (jr s o.listen o.host o.path).1 && (kK c).any λx=>x == a.end_:=by
  unfold handleV;rw[gf hd,hs];(try rfl)
 refine ah (Mf s o.listen o.host o.path hsg.small ho.host ho.path) ?_;refine⟨λh2=>?_,λh2=>?_⟩
 ·rw[gk tR]at e0;refine dd ?_;refine⟨λh1=>?_,λh1=>?_⟩ <;> (rw[e0,h1];refine dd ?_;exact⟨.inl O,⟨(.za::.za::.za::.za::.za::.za::Bo _:: .za::hU (jp (jp (hU ([]))))),_⟩,cE 3,rfl,rfl⟩)
 have h2:(jr s o.listen o.host o.path).2=0:=aq h2
 rw[gf bG]at e0;obtain⟨c,hc,hcm,hc0⟩:=UE hsg h2;have hgc:(s.zk.map yE)[(jr s o.listen o.host o.path).1.toNat]?=some (yE c):=by rw[gj,hc];rfl
 have hch:=hsg.zk c hcm;have ml:((kK c).map encI).length=(kK c).length:=gp ..;rw[hc]at e0;simp only at e0;refine dd ?_;refine⟨hc0,_,hgc,dd ?_⟩;refine ah (v7 c hch) ?_;rw[ml];refine⟨λh3=>?_,λh3=>?_⟩
 ·have h3:kK c=[]:=by simpa using h3
  rw[gk h3]at e0;refine dd ?_;refine⟨λh1=>?_,λh1=>?_⟩ <;> (rw[e0,h1];refine dd ?_;exact⟨.inl O,⟨(.za::.za::.za::.za::.za::.za::Bo _:: .za::hU (jp (jp (hU ([]))))),_⟩,cE 3,rfl,rfl⟩)
 rw[gf (λh=>by rw[h]at h3;simp at h3)]at e0;refine dd ?_;refine⟨λh4=>?_,λh4=>?_⟩
 ·rw[gk (aq h4)]at e0;rw[e0];refine dd ?_;exact⟨.inl O,⟨(.za::.za::.za::.za::.za::.za::Bo true:: .za::hU (jp (jp (hU ([]))))),_⟩,cE 3,rfl,rfl⟩
 rw[gf (aq h4)]at e0;refine dd ?_;refine uE ?_;refine⟨λh5=>?_,λh5=>?_⟩
 rotate_left
 ·rw[e0,h5,rT,rT,rT];exact db
 rw[h5,rX]at e0;refine dd ?_;refine⟨λh6=>?_,λh6=>?_⟩
 rotate_left
 ·rw[e0,h6,rT,rT];exact db
 rw[h6,rX]at e0;refine dd ?_;refine⟨λh7=>?_,λh7=>?_⟩
 rotate_left
 ·rw[e0,h7,rT];exact db
 rw[h7,rX]at e0;refine dd ?_;refine ah (E9 (kK c) a.end_ (by have:=DS c.zJ c.zJ.length;show(iZ c.zJ c.zJ.length).length<_;omega)) ?_;refine⟨λh8=>?_,λh8=>?_⟩ <;> (rw[e0,h8];refine dd ?_;exact⟨.inl O,⟨(.za::.za::.za::.za::.za::.za::Bo _:: .za::hU (jp (jp (hU ([]))))),_⟩,cE 3,rfl,rfl⟩)
def SR(b:Nat)(m:fM)(hm:Ac m)(o:fh)(a:ff)(ho:AD o)(h0:(w8 m o a).2=m)(hno:(zT o.config).2.1≠0\/a.kind≠8\/a.version≠(m.z6.length:Int)):
  tn 51 [(fN b (jk nv (iz m.dr)) (iz m.dr).length),⟨1,130,3,[[.gl 2 3 (m.z6.map qv),I m.now,.v (.map (some b))]],0⟩,⟨4,116,3,m.z6.map qv,0⟩] [.ref 1 [] 3 0 0,Cp o,Ca a] (Bo (w8 m o a).1) [(fN b (jk nv (iz m.dr)) (iz m.dr).length),⟨1,130,3,[[.gl 2 3 (m.z6.map qv),I m.now,.v (.map (some b))]],0⟩,⟨4,116,3,m.z6.map qv,0⟩]:=by
 have ml:(m.z6.map qv).length=m.z6.length:=gp ..;refine zb.zG (fn:=f51) func51 O (uH ?_);refine ah (yB o.config ho.config.k) ?_;refine⟨λh1=>?_,λh1=>?_⟩
 ·have e:(w8 m o a).1=(a.kind == 9 && a.n == (zT o.config).2.1):=by unfold w8;rw[gk tD]
  refine dd ?_;refine⟨λh2=>?_,λh2=>?_⟩
  ·rw[e,h2,rX];refine dd ?_;refine⟨λh3=>?_,λh3=>?_⟩ <;> (rw[h3];refine dd ?_;exact⟨.inl O,⟨(.za::.za::.za::.za::.za::.za::Bo _:: .za::.za::.za::.za::.za::.za::hU (jp (hU ([])))),_⟩,cE 3,rfl,rfl⟩)
  ·rw[e,h2,rT];refine dd ?_;exact dz
 have h1:(zT o.config).2.1=0:=aq h1
 have e:(w8 m o a).1=false:=by
  unfold w8;rw[gf aD,gk];rcases hno with h|h
  ·exact absurd h1 h
  ·exact h
 rw[e];refine dd ?_;refine uE ?_;refine⟨λh2=>?_,λh2=>?_⟩
 ·refine dd ?_;refine tc ?_
  exact dz
 ·refine dd ?_;rw[ml];refine⟨λ_=>?_,λh=>?_⟩
  rotate_left
  ·exfalso
   simp at h2 h;rcases hno with h3|h3|h3
   ·exact h3 h1
   ·exact h3 h2
   ·exact h3 h
  refine dd ?_;exact dz
def Rt(b:Nat)(m:fM)(hm:Ac m)(o:fh)(a:ff)(ho:AD o)(h1:(zT o.config).2.1=0)(h2:a.kind=8)(h3:a.version=(m.z6.length:Int)):
  tn 51 [(fN b (jk nv (iz m.dr)) (iz m.dr).length),⟨1,130,3,[[.gl 2 3 (m.z6.map qv),I m.now,.v (.map (some b))]],0⟩,⟨4,116,3,m.z6.map qv,0⟩] [.ref 1 [] 3 0 0,Cp o,Ca a] (Bo true) [(fN b (jk nv (iz m.dr)) (iz m.dr).length),⟨1,130,3,[[.gl 2 3 ((m.z6++[(zT o.config).1]).map qv),I m.z6.length,.v (.map (some b))]],0⟩,⟨4,116,3,(m.z6++[(zT o.config).1]).map qv,0⟩]:=by
 have ml:(m.z6.map qv).length=m.z6.length:=gp ..;have hml:=hm.len;have em:(m.z6++[(zT o.config).1]).map qv=m.z6.map qv++[qv (zT o.config).1]:=aj
 rw[em];refine zb.zG (fn:=f51) func51 O (uH ?_);refine ah (yB o.config ho.config.k) ?_;refine⟨λh=>absurd h aD,λ_=>dd ?_⟩;refine uE ?_;refine⟨λh=>absurd h bG,λ_=>dd ?_⟩;rw[ml];refine⟨λh=>absurd h bO,λ_=>dd ?_⟩;rw[ml];refine uE ?_;refine⟨rfl,.inr O,by rw[ml];simp[maxLen];omega,by rw[ml];show(m.z6.length+1)*72<=_;omega,dd ?_⟩;exact⟨.inl O,⟨(.za::.za::.za::.za::.za::.za::Bo true:: .za::.za::.za::.za::.za::.za::hU (jp (hU ([])))),_⟩,cE 3,rfl,rfl⟩
def Hc(b:Nat)(m:fM):tn 24 [(fN b (jk nv (iz (m).dr)) (iz (m).dr).length),⟨1,130,3,[[.gl 2 3 ((m).z6.map qv),I (m).now,.v (.map (some b))]],0⟩,⟨4,116,3,(m).z6.map qv,0⟩] [.ref 1 [] 3 0 0] (I m.now) [(fN b (jk nv (iz (m).dr)) (iz (m).dr).length),⟨1,130,3,[[.gl 2 3 ((m).z6.map qv),I (m).now,.v (.map (some b))]],0⟩,⟨4,116,3,(m).z6.map qv,0⟩]:=by
 refine zb.zG (fn:=f24) func24 O (uH ?_);refine tc ?_
 exact uJ
def xz(b:Nat)(m:fM)(hm:Ac m)(o:fh)(a:ff)(ho:AD o):
  tn 23 [(fN b (jk nv (iz (m).dr)) (iz (m).dr).length),⟨1,130,3,[[.gl 2 3 ((m).z6.map qv),I (m).now,.v (.map (some b))]],0⟩,⟨4,116,3,(m).z6.map qv,0⟩] [.ref 1 [] 3 0 0,Cp o,Ca a] (Bo (qU m o a).1) [(fN b (jk nv (iz ((qU m o a).2).dr)) (iz ((qU m o a).2).dr).length),⟨1,130,3,[[.gl 2 3 (((qU m o a).2).z6.map qv),I ((qU m o a).2).now,.v (.map (some b))]],0⟩,⟨4,116,3,((qU m o a).2).z6.map qv,0⟩]:=by
 refine zb.zG (fn:=f23) func23 O (uH ?_);refine tc ?_
 refine⟨λk1=>?_,λk1=>?_⟩
 ·have k1:o.kind=1:=by simpa using k1
  have e:qU m o a=(handleV m o a,m):=by unfold qU;rw[gk k1]
  rw[e];refine dd ?_;refine af [0,1,2] (R4 b m hm o a ho) ?_;refine⟨λh1=>?_,λh1=>?_⟩ <;> (rw[h1];refine dd ?_;exact⟨.inl O,⟨(.za::.za::.za::.za::.za::.za::Bo _::hU (hU (hU (hU ([.za,.za,.za]))))),_⟩,cE 3,rfl,rfl⟩)
 have k1:o.kind≠1:=aq k1
 refine dd ?_;refine⟨λk3=>?_,λk3=>?_⟩
 ·have k3:o.kind=3:=by simpa using k3
  have e:qU m o a=w8 m o a:=by unfold qU;rw[gf k1,gk k3]
  rw[e];refine dd ?_;by_cases hy:(zT o.config).2.1=0/\a.kind=8/\a.version=(m.z6.length:Int)
  ·have e:w8 m o a=(true,⟨m.z6++[(zT o.config).1],(m.z6.length:Int),m.dr⟩):=by
    unfold w8;rw[gf (by simp[hy.1]),gf (by simp[hy.2.1,hy.2.2])]
   rw[e];refine af [0,1,2] (Rt b m hm o a ho hy.1 hy.2.1 hy.2.2) ?_;refine tc ?_
   exact dI
  ·have hno:(zT o.config).2.1≠0\/a.kind≠8\/a.version≠(m.z6.length:Int):=by
    by_cases g1:(zT o.config).2.1=0
    ·by_cases g2:a.kind=8
     ·exact .inr (.inr λg3=>hy ⟨g1,g2,g3⟩)
     ·exact .inr (.inl g2)
    ·exact .inl g1
   have e:(w8 m o a).2=m:=by
    unfold w8;split
    ·rfl
    ·rename_i g1;rw[gk];rcases hno with g|g
     ·exact absurd g g1
     ·exact g
   rw[e];refine af [0,1,2] (SR b m hm o a ho e hno) ?_;refine⟨λh1=>?_,λh1=>?_⟩ <;> (rw[h1];refine dd ?_;exact⟨.inl O,⟨(.za::.za::.za::.za::.za::.za::Bo _::hU (hU (hU (hU ([.za,.za,.za]))))),_⟩,cE 3,rfl,rfl⟩)
 have k3:o.kind≠3:=aq k3
 refine dd ?_;refine⟨λk4=>?_,λk4=>?_⟩
 rotate_left
 ·have e:qU m o a=(true,m):=by unfold qU;rw[gf k1,gf k3,gf (aq k4)]
  rw[e];refine dd ?_;exact dI
 have k4:o.kind=4:=aq k4
 refine dd ?_;refine⟨λk5=>?_,λk5=>?_⟩
 ·have k5:a.kind=10:=by simpa using k5
  have e:qU m o a=(true,⟨m.z6,m.now,m.dr++[o.listen]⟩):=by unfold qU;rw[gf k1,gf k3,gk k4,gk k5,k5];rfl
  rw[e];refine dd ?_;refine uE ?_;refine⟨_,_,fg.mapUpdate (id:=0) _ _ _ _ (.inl O) underlying128 (i5.str underlying9) O O o.listen (λE u h=>jB h) (.bool true) (λE u h=>jB h),dd ?_⟩;rw[zxl];refine⟨λh1=>?_,λh1=>?_⟩
  ·refine dd ?_;refine tc ?_
   exact dI
  ·exact absurd h1 (by simp[k5])
 ·have k5:a.kind≠10:=by simpa using k5
  have e:qU m o a=(a.kind == 7,m):=by unfold qU;rw[gf k1,gf k3,gk k4,gf k5];simp[k5]
  rw[e];refine dd ?_;refine⟨λh=>absurd h (by simp[k5]),λ_=>dd ?_⟩;refine⟨λh1=>?_,λh1=>?_⟩ <;> (rw[h1];refine dd ?_;exact⟨.inl O,⟨(.za::.za::.za::.za::.za::.za::Bo _::hU (hU (hU (hU ([.za,.za,.za]))))),_⟩,cE 3,rfl,rfl⟩)
abbrev Ki(b:Nat)(m:fM):Ob:=fN b (jk nv (iz m.dr)) (iz m.dr).length
abbrev zys(b:Nat)(m:fM):Ob:=⟨1,130,3,[[.gl 2 3 (m.z6.map qv),I m.now,.v (.map (some b))]],0⟩
abbrev Ka(m:fM):Ob:=⟨4,116,3,m.z6.map qv,0⟩
abbrev firstM(c:fD):fM:=⟨[(zT c).1],0,[]⟩
def PT(c:fD)(r:C)(H':zl):Prop:=∃b,r=.fb [.ref 1 [] 3 0 0,I 0]/\H'=[Ki b (firstM c),zys b (firstM c),Ka (firstM c)]
def Lw(c:fD)(hc:xn c)(h:(zT c).2.1≠0):tn 21 [] [Cf c] (.fb [.v (.pointer none),I (zT c).2.1]) []:=by
 refine ab func21 ?_;refine ah (yB c hc.k) ?_;refine⟨λ_=>dd ?_,λh2=>absurd h2 aI⟩;exact uI
def K0(c:fD)(hc:xn c)(h:(zT c).2.1=0):ql prog 21 [] [Cf c] (PT c):=by
 refine ql.zG (fn:=f21) func21 O (uH ?_);refine ah (yB c hc.k) ?_;refine⟨λh2=>absurd h2 aI,λ_=>dd ?_⟩;intro b;refine dd ?_;exact⟨.inl O,_,.fb [.ref 1 [] 3 0 0,I 0],(zn.Ae 3 0 116 3 O O (.inr O) O O).trans (zn.fe [2,3,4] [2,3] _ _ O O O O),rfl,b,rfl,rfl⟩
abbrev BK(s:fy):C:=.agg (kV s)
abbrev EM(c:Cal):C:=.agg (qY c)
def xc(s:fy)(c:Cal):Bool:=decide (c.zf<0) || decide (c.zf≥(s.threads.length:Int)) || decide (c.op<0) || (match s.threads[c.zf.toNat]? with|some ops=>decide (c.op≥(ops.length:Int))|none=>true)
def G0(s:fy)(c:Cal):Option fh:=(s.threads[c.zf.toNat]?).bind λops=>ops[c.op.toNat]?
def OS{s:fy}{c:Cal}(h:xc s c=false):∃ops o,0<=c.zf/\0<=c.op/\s.threads[c.zf.toNat]?=some ops/\ops[c.op.toNat]?=some o/\G0 s c=some o:=by
 unfold xc at h;simp only[pD,pn]at h;obtain⟨⟨⟨h1,h2⟩,h3⟩,h4⟩:=h;have h5:c.zf.toNat<s.threads.length:=aw
 have e1:=dZ h5;rw[e1]at h4;simp only[pn]at h4;have h6:c.op.toNat<(s.threads[c.zf.toNat]).length:=aw
 have e2:=dZ h6;exact⟨_,_,aw,aw,e1,e2,by unfold G0;rw[e1];exact e2⟩
abbrev B9:na:=⟨0,0,0,0,0,0⟩
def Gq(l:List eV)(i:Int):Int:=match l[i.toNat]? with|some e=>e.value|none=>0
def mU(l:List eV)(o:fh)(c:Cal):Option ff:=if 0<=c.ic then some c.answer else if o.kind=3 then some ⟨8,Gq l c.zI,0,0,0,0,0,B9⟩ else none
def yl(s:fy)(l:List eV)(c:Cal)(m:fM):Option (fM×Bool):=match G0 s c with
 |none=>none
 |some o=>match mU l o c with
  |none=>some (m,false)
  |some a=>if (qU m o a).1 then some ((qU m o a).2,true) else none
def iI(s:fy)(l:List eV)(cs:List Cal):List Int->fM->Int->Int×Bool
 |[],m,n=>(n,true)
 |i::is,m,n=>match cs[i.toNat]? with
  |none=>(n,true)
  |some c=>match yl s l c m with
   |none=>(n,false)
   |some (m',b)=>iI s l cs is m' (if b then n+1 else n)
noncomputable def chkV(s:fy)(l:List eV)(cs:List Cal×Int):Int×Bool:=
 if cs.2≠0\/(zT s.first).2.1≠0\/cs.1.any (xc s)=true then (0,false) else iI s l cs.1 (Srt.ordV cs.1) (firstM s.first) 0
structure nK(n:Nat)(m:fM):Prop where
 len:m.z6.length<=n+1
 EI:0<=m.now
 Dd:m.now.toNat<m.z6.length
 all:∀s∈m.z6,C9 s
 dr:m.dr.length<=n
def nK.jz{n:Nat}{m:fM}(h:nK n m)(hn:n<100000000000):Ac m:=⟨by have:=h.len;omega,h.EI,h.Dd,h.all,by have:=h.dr;omega⟩
structure Jk(o:fh):Prop extends AD o where
 zJ:∀x∈o.config.zk,x.zJ.length<1000000000000
def nK.take{n:Nat}{m:fM}{o:fh}{a:ff}(h:nK n m)(ho:Jk o):nK (n+1) (qU m o a).2:=by
 have hle:=h.len;have hld:=h.dr;have same:nK (n+1) m:=⟨aw,h.EI,h.Dd,h.all,aw⟩;unfold qU;split
 ·exact same
 ·split
  ·unfold w8;split
   ·exact same
   ·rename_i h1;split
    ·exact same
    ·refine⟨aA,aj,aj,λs hs=>?_,aA⟩;rcases gO.1 hs with h2|h2
     ·exact h.all s h2
     ·obtain rfl:=gN.1 h2;exact HN ho.config ho.zJ tD
  ·split
   ·simp only;split
    ·exact⟨aA,h.EI,h.Dd,h.all,aA⟩
    ·exact same
   ·exact same
def nK.first{c:fD}(hc:xn c)(hh:∀x∈c.zk,x.zJ.length<1000000000000)(h:(zT c).2.1=0):nK 0 (firstM c):=
 ⟨aj,aj,aj,λs hs=>by obtain rfl:=gN.1 hs;exact HN hc hh h,aj⟩
structure Ia(s:fy):Prop where
 first:xn s.first
 zJ:∀x∈s.first.zk,x.zJ.length<1000000000000
 threads:s.threads.length<4000000000000000000
 ops:∀ops∈s.threads,ops.length<4000000000000000000/\∀o∈ops,Jk o
def RE(s:fy)(c:Cal):tn 27 [] [BK s,EM c] (Bo (xc s c)) []:=by
 have m1:(s.threads.map x4).length=s.threads.length:=gp ..;refine ab func27 ?_;refine .inl ⟨⟨false,[24],[],[]⟩,au,uH ?_⟩;refine⟨λh1=>?_,λh1=>?_⟩
 ·refine dd ?_
  (exact⟨.inl O,_,.refl _,uN (by unfold xc;rw[h1];rfl)⟩)
 refine dd ?_;rw[m1];refine⟨λh2=>?_,λh2=>?_⟩
 ·refine dd ?_
  (exact⟨.inl O,_,.refl _,uN (by unfold xc;rw[h1,h2];rfl)⟩)
 refine dd ?_;refine⟨λh3=>?_,λh3=>?_⟩
 ·refine dd ?_
  (exact⟨.inl O,_,.refl _,uN (by unfold xc;rw[h1,h2,h3];rfl)⟩)
 have ht:c.zf.toNat<s.threads.length:=cy
 have e1:=dZ ht;have hg:(s.threads.map x4)[c.zf.toNat]?=some (x4 s.threads[c.zf.toNat]):=by rw[gj,e1];rfl
 have m2:(s.threads[c.zf.toNat].map y8).length=s.threads[c.zf.toNat].length:=gp ..;have e2:xc s c=decide (c.op≥(s.threads[c.zf.toNat].length:Int)):=by unfold xc;rw[h1,h2,h3,e1];rfl
 rw[e2];refine dd ?_;refine⟨cz,_,hg,dd ?_⟩;rw[m2];refine⟨λh4=>?_,λh4=>?_⟩
 ·refine dd ?_
  (exact⟨.inl O,_,.refl _,uN (by exact h4.symm)⟩)
 ·refine dd ?_
  (exact⟨.inl O,_,.refl _,uN (by exact h4.symm)⟩)
def Uc{H:zl}{f:FuncId}{caps:List C}{l:List Cal}(p:Cal->Bool)(hcb:qi prog f=true)(hp:∀r∈l,tn f H ([EM r]++caps) (Bo (p r)) H)(hl:l.length<4611686018427387904):
  tn 52 H [qZ l,.fn f [] caps] (I (match l.findIdx? p with|some i=>(i:Int)|none=> -1)) H:=by
 refine zb.zG (fn:=f52) func52 O (uH ?_)
 refine qa.inv (λn t1 H1=>∃k,k+n=l.length/\H1=H/\(∀j,j<k->∀r,l[j]?=some r->p r=false)/\
   t1=((qZ l)::.fn f [] caps::.za::.za::I 0::.za::.za::I (l.map qY).length::I k::hU ([.za,.za]))) l.length ?_ ?_
 ·exact dc
 rintro n _ _ ⟨k,hk,rfl,hno,rfl⟩;conv=>whnf
 refine⟨λh=>?_,λh=>?_⟩
 ·conv=>whnf
  have eU:k<l.length:=aq h
  refine⟨aw,qY l[k],aZ,uH ?_⟩;rw[hcb];refine⟨_,_,hp _ (gW eU),uH ?_⟩;refine⟨λh2=>?_,λh2=>?_⟩
  ·conv=>whnf
   refine .inr ⟨aj,uH ?_⟩;refine⟨.inl O,_,.refl _,rfl,?_⟩
   have:l.findIdx? p=some k:=by
    rw[gJ];refine⟨eU,h2,λj hj=>?_⟩;simp[hno j hj _ (dZ aw)]
   rw[this]
   rfl
  ·conv=>whnf
   refine .inl ⟨rfl,n-1,_,_,aw,zn.mask [0,1,4,7,8] _ _,k+1,aw,rfl,?_,?_⟩
   ·intro j hj r hr;by_cases hjk:j=k
    ·subst hjk;rw[dZ eU]at hr;cases hr
     exact h2
    ·exact hno j aw r hr
   ·rw[zw aw];rfl
 ·conv=>whnf
  refine .inr ⟨aj,uH ?_⟩;refine⟨.inl O,_,.refl _,rfl,?_⟩
  have:l.findIdx? p=none:=by
   rw[gP];intro x hx;obtain⟨j,hj⟩:=gQ.1 hx;have hjl:=(dY.1 hj).1;have:¬k<l.length:=aq h
   exact hno j aw x hj
  rw[this]
  rfl
def Tl{H:zl}{f:FuncId}{caps:List C}{l:List Cal}(p:Cal->Bool)(hcb:qi prog f=true)(hp:∀r∈l,tn f H ([EM r]++caps) (Bo (p r)) H)(hl:l.length<4611686018427387904):
  tn 25 H [qZ l,.fn f [] caps] (Bo (l.any p)) H:=by
 refine zb.zG (fn:=f25) func25 O (uH ?_);refine⟨_,_,Uc p hcb hp hl,dd ?_⟩;rw[show decide ((match l.findIdx? p with|some i=>((i:Nat):Int)|none=>(-1:Int))≥(0:Int))=l.any p from BW l p];refine⟨λh=>?_,λh=>?_⟩ <;> rw[h]
 ·exact dk
 ·exact dk
end Go.Lin
namespace Go.Lin
open Go.Ab Go.Proofs Tryz Go.Hy Go.Gat Go.Nam Go.Hos Go.Con Go.Sna Go.Cal
def Jn{l:List eV}(h:(Cal.fC l).2=0):(Cal.fC l).1.length<=l.length/\∀c∈(Cal.fC l).1,nJ (l.length:Int) c:=by
 unfold Cal.fC at h ⊢;split
 ·rename_i b hb;have hc:=Fw l hb;refine⟨?_,hc.ok⟩;rw[hc.begun];exact pB u5 aj
 ·rename_i hb;simp only[hb]at h;exact absurd h ar
def zxA{l:List eV}(h:(Cal.fC l).2=0){x:Int}(hx:x∈Srt.ordV (Cal.fC l).1):∃c,(Cal.fC l).1[x.toNat]?=some c/\c∈(Cal.fC l).1/\0<=x/\0<=c.zI/\c.zI.toNat<l.length:=by
 obtain⟨h1,h2,h3⟩:=Srt.CU ((Srt.yp _).mem_iff.1 hx);have eU:x.toNat<(Cal.fC l).1.length:=aw
 have hm:=gW eU;have hp:=((Jn h).2 _ hm).Pl;have hf:=((Jn h).2 _ hm).PB;have e:Srt.fm (Cal.fC l).1 x=((Cal.fC l).1[x.toNat]).zI:=by unfold Srt.fm;rw[dZ eU];rfl
 rw[e]at h3;exact⟨_,dZ eU,hm,h1,aw,aw⟩
def YU(cs:List Cal):(Srt.ordV cs).length<=cs.length:=by rw[(Srt.yp cs).length_eq];exact Srt.D1 _
def TM(s:fy)(c:Cal):tn 26 [oS s] ([EM c]++[.ref 0 [] 5 0 0]) (Bo (xc s c)) [oS s]:=by
 refine zb.zG (fn:=f26) func26 O (uH ?_);refine ah (RE s c) ?_;refine⟨λh=>?_,λh=>?_⟩ <;> rw[h]
 ·conv=>whnf
  exact da
 ·conv=>whnf
  exact da
def check_sound(s:fy)(l:List eV)(hs:Ia s)(hl:l.length<=1000000):tn 8 [] [BK s,nh l] (.fb [I (chkV s l (Cal.fC l)).1,Bo (chkV s l (Cal.fC l)).2]) []:=by
 have hlm:(l.map j3).length=l.length:=gp ..;refine ab func8 ?_;refine ah (XA l aw) ?_;by_cases hb:(zT s.first).2.1=0
 rotate_left
 ·refine Fm [] ((Lw s.first hs.first hb).lM (R:=λr H'=>r=.fb [.v (.pointer none),I (zT s.first).2.1]/\H'=[]) ⟨rfl,rfl⟩) (λr H' h=>h.2 ▸ rfl) O O O O O ?_;rintro _ _ ⟨rfl,rfl⟩;have er:chkV s l (Cal.fC l)=(0,false):=by unfold chkV;rw[gk (.inr (.inl hb))]
  rw[er];conv=>whnf
  refine⟨λh1=>?_,λh1=>?_⟩
  ·refine dd ?_;refine tc ?_
   exact uI
  ·refine dd ?_;refine⟨λ_=>dd ?_,λh=>absurd h (by simp[hb])⟩;refine tc ?_
   exact uI
 refine Fm [] (K0 s.first hs.first hb) (λr H' ⟨b,_,h⟩=>h ▸ rfl) O O O O O ?_;rintro _ _ ⟨b,rfl,rfl⟩;conv=>whnf
 refine⟨λh1=>?_,λh1=>?_⟩
 ·have er:chkV s l (Cal.fC l)=(0,false):=by unfold chkV;rw[gk (.inl tD)]
  rw[er];refine dd ?_;refine tc ?_
  exact uI
 have h1:(Cal.fC l).2=0:=aq h1
 refine dd ?_;refine tc ?_
 obtain⟨hcl,hco⟩:=Jn h1;have hcon:=Tl (H:=[oS s]) (f:=26) (l:=(Cal.fC l).1) (caps:=[.ref 0 [] 5 0 0]) (xc s) au (λr _=>TM s r) aw;refine af [0] (hcon) ?_;refine⟨λh2=>?_,λh2=>?_⟩
 ·have er:chkV s l (Cal.fC l)=(0,false):=by unfold chkV;rw[gk (.inr (.inr h2))]
  rw[er];refine dd ?_;refine tc ?_
  exact uI
 have er:chkV s l (Cal.fC l)=iI s l (Cal.fC l).1 (Srt.ordV (Cal.fC l).1) (firstM s.first) 0:=by unfold chkV;rw[gf (by simp only[h1,hb,h2];decide)]
 rw[er];refine dd ?_;refine ah (Srt.S3 (Cal.fC l).1 aw) ?_;have hol:=YU (Cal.fC l).1;have om:((Srt.ordV (Cal.fC l).1).map encI).length=(Srt.ordV (Cal.fC l).1).length:=gp ..;have cm:((Cal.fC l).1.map qY).length=(Cal.fC l).1.length:=gp ..;have hpl:∀x∈Srt.ordV (Cal.fC l).1,∃c,(Cal.fC l).1[x.toNat]?=some c/\c∈(Cal.fC l).1/\0<=x/\0<=c.zI/\c.zI.toNat<l.length:=λx hx=>zxA h1 hx
 revert hpl hol om cm h2 hcl hco
 generalize (Cal.fC l).1=cs;intro hcl hco h2 hol om cm hpl;rw[om];refine qa.inv (λq t1 H1=>∃(k:Nat) (m:fM) (n:Nat),k+q=(Srt.ordV cs).length/\n<=k/\nK n m/\iI s l cs ((Srt.ordV cs).drop k) m n=iI s l cs (Srt.ordV cs) (firstM s.first) 0/\t1=(BK s::nh l:: .ref 0 [] 5 0 0:: .za::I 0::Bo false::qZ cs::I (Cal.fC l).2:: .ref 2 [] 3 0 0::I 0::I n:: .za::.za::.za::hU (hU (hU (lI (Srt.ordV cs)::I (Srt.ordV cs).length::I k:: .za::.za::.za::.za::hU (jp ([]))))))/\H1=[oS s,Ki b m,⟨1,130,3,[[.gl 3 3 ((m).z6.map qv),I (m).now,.v (.map (some b))]],0⟩,Ka (m)]) (Srt.ordV cs).length ?_ ?_
 ·exact⟨(BK s::nh l:: .ref 0 [] 5 0 0:: .za::I 0::Bo false::qZ cs::I (Cal.fC l).2:: .ref 2 [] 3 0 0::I 0::I (0:Nat):: .za::.za::.za::hU (hU (hU (lI (Srt.ordV cs)::I (Srt.ordV cs).length::I (0:Nat):: .za::.za::.za::.za::hU (jp ([])))))),_,cC,0,firstM s.first,0,aw,aw,nK.first hs.first hs.zJ hb,rfl,rfl,rfl⟩
 rintro q t1 H1 ⟨k,m,n,k1,k2,k3,k4,rfl,rfl⟩;conv=>whnf
 refine⟨λhc=>?_,λhc=>?_⟩
 rotate_left
 ·have hk:(Srt.ordV cs).length<=k:=by simp at hc;omega
  rw[List.drop_of_length_le hk]at k4;rw[<-k4];refine dd ?_;exact dA
 have hk:k<(Srt.ordV cs).length:=by simp at hc;omega
 obtain⟨c,gc,hcm,x0,p0,p1⟩:=hpl _ (gW hk);have gx:((Srt.ordV cs).map encI)[k]?=some (encI (Srt.ordV cs)[k]):=by rw[gj,dZ hk];rfl
 have gy:(cs.map qY)[((Srt.ordV cs)[k]).toNat]?=some (qY c):=by rw[gj,gc];rfl
 have hf:xc s c=false:=by
  rw[pd]at h2;simpa using h2 c hcm
 obtain⟨ops,o,t0,o0,g1,g2,g3⟩:=OS hf;have g1':(s.threads.map x4)[c.zf.toNat]?=some (x4 ops):=by rw[gj,g1];rfl
 have g2':(ops.map y8)[c.op.toNat]?=some (y8 o):=by rw[gj,g2];rfl
 have hq:Jk o:=(hs.ops ops (gh g1)).2 o (gh g2);rw[List.drop_eq_getElem_cons hk]at k4;simp only[iI,gc]at k4;have es:yl s l c m=match mU l o c with|none=>some (m,false)|some a=>if (qU m o a).1 then some ((qU m o a).2,true) else none:=by unfold yl;rw[g3] <;> rfl
 refine dd ?_;refine td gx ?_;refine⟨x0,_,gy,dd ?_⟩;refine .inl ⟨⟨false,[1,3,5,7,9],[0,4],[]⟩,au,uH ?_⟩;refine⟨t0,_,g1',dd ?_⟩;refine⟨o0,_,g2',dd ?_⟩;refine hZ ?_
 refine⟨λh5=>?_,λh5=>?_⟩
 ·have ea:mU l o c=some c.answer:=by unfold mU;rw[gk (aq h5)]
  rw[es,ea]at k4;simp only at k4;refine dd ?_;have ht:=xz b m (k3.jz aw) o c.answer hq.toAD;refine af [1,2,3] (ht) ?_;refine⟨λh7=>?_,λh7=>?_⟩
  ·rw[gk h7]at k4;simp only at k4;refine dd ?_;refine tc ?_
   rw[zw aw,zw aw];refine .inl ⟨rfl,q-1,(BK s::nh l:: .ref 0 [] 5 0 0:: .za::I 0::Bo false::qZ cs::I (Cal.fC l).2:: .ref 2 [] 3 0 0::I 0::I (n+1:Nat):: .za::.za::.za::hU (hU (hU (lI (Srt.ordV cs)::I (Srt.ordV cs).length::I (k+1:Nat):: .za::.za::.za::.za::hU (jp ([])))))),_,aw,?_,k+1,(qU m o c.answer).2,n+1,aw,aw,k3.take hq,k4,rfl,rfl⟩;exact cE 4
  ·rw[gf (by rw[h7];decide)]at k4;simp only at k4;rw[<-k4];refine dd ?_;refine tc ?_
   exact dA
 have h5:¬0<=c.ic:=aq h5
 refine dd ?_;refine⟨λh6=>?_,λh6=>?_⟩
 rotate_left
 ·have ea:mU l o c=none:=by unfold mU;rw[gf h5,gf (aq h6)]
  rw[es,ea]at k4;simp only at k4;refine dd ?_;rw[zw aw];refine .inl ⟨rfl,q-1,(BK s::nh l:: .ref 0 [] 5 0 0:: .za::I 0::Bo false::qZ cs::I (Cal.fC l).2:: .ref 2 [] 3 0 0::I 0::I n:: .za::.za::.za::hU (hU (hU (lI (Srt.ordV cs)::I (Srt.ordV cs).length::I (k+1:Nat):: .za::.za::.za::.za::hU (jp ([])))))),[oS s,Ki b m,⟨1,130,3,[[.gl 3 3 ((m).z6.map qv),I (m).now,.v (.map (some b))]],0⟩,Ka (m)],aw,?_,k+1,m,n,aw,aw,k3,k4,rfl,rfl⟩;exact cE 4
 have ge:(l.map j3)[c.zI.toNat]?=some (j3 l[c.zI.toNat]):=by rw[gj,dZ p1];rfl
 have ev:Gq l c.zI=l[c.zI.toNat].value:=by unfold Gq;rw[dZ p1]
 have ea:mU l o c=some ⟨8,l[c.zI.toNat].value,0,0,0,0,0,B9⟩:=by unfold mU;rw[gf h5,gk (aq h6),ev]
 rw[es,ea]at k4;simp only at k4;refine dd ?_;refine⟨p0,_,ge,dd ?_⟩;have ht:=xz b m (k3.jz aw) o ⟨8,l[c.zI.toNat].value,0,0,0,0,0,B9⟩ hq.toAD;refine af [1,2,3] (ht) ?_;refine⟨λh7=>?_,λh7=>?_⟩
 ·rw[gk h7]at k4;simp only at k4;refine dd ?_;refine tc ?_
  rw[zw aw,zw aw];refine .inl ⟨rfl,q-1,(BK s::nh l:: .ref 0 [] 5 0 0:: .za::I 0::Bo false::qZ cs::I (Cal.fC l).2:: .ref 2 [] 3 0 0::I 0::I (n+1:Nat):: .za::.za::.za::hU (hU (hU (lI (Srt.ordV cs)::I (Srt.ordV cs).length::I (k+1:Nat):: .za::.za::.za::.za::hU (jp ([])))))),_,aw,?_,k+1,(qU m o ⟨8,l[c.zI.toNat].value,0,0,0,0,0,B9⟩).2,n+1,aw,aw,k3.take hq,k4,rfl,rfl⟩;exact cE 4
 ·rw[gf (by rw[h7];decide)]at k4;simp only at k4;rw[<-k4];refine dd ?_;refine tc ?_
  exact dA
def qR:Nat->C->C
 |0,c=>c
 |k+1,c=>match c with
  |.eS o sz rows=>match rows with
   |[]=>.eS (if o=2 then 2 else 0) 0 []
   |r::rs=>.eS (if o=2 then 2 else 0) sz (r.map (qR k)::rs.map λr=>r.map (qR k))
  |.agg cs=>.agg (cs.map (qR k))
  |c=>c
def DE(k o sz:Nat)(rows:List (List C))(h:rows≠[]):qR (k+1) (.eS o sz rows)=.eS (if o=2 then 2 else 0) sz (rows.map λr=>r.map (qR k)):=by
 cases rows with
 |nil=>exact absurd O h
 |cons r rs=>rfl
def DC{f:C->C}{rows:List (List C)}{i j:Nat}{r:List C}{c:C}(h1:(rows.map λr=>r.map f)[i]?=some r)(h2:r[j]?=some c):∃r0 c0,rows[i]?=some r0/\r0[j]?=some c0/\c=f c0:=by
 rw[gj]at h1;cases h3:rows[i]? with
 |none=>rw[h3]at h1;cases h1
 |some r0=>
  rw[h3]at h1;cases h1
  rw[gj]at h2;cases h4:r0[j]? with
  |none=>rw[h4]at h2;cases h2
  |some c0=>rw[h4]at h2;cases h2;exact⟨r0,c0,rfl,h4,rfl⟩
def Ed:∀(k:Nat) {E:Env} {c:C} {y:Value},L E c y->L E (qR k c) y:=by
 intro k
 induction k with
 |zero=>intro E c y h;exact h
 |succ k ih=>
  intro E c y h;cases h with
  |eS o sz rows b off cap us ho hc hsz hst hL=>
   have ho2:o≠2:=cD
   by_cases hr:rows=[]
   ·subst hr;have e:qR (k+1) (.eS o sz [])=.eS 0 0 []:=by show C.eS (if o=2 then 2 else 0) 0 _=_;rw[gf ho2]
    rw[e];exact .eS 0 0 [] b off cap us (.inl O) hc (λr hr=>by cases hr) (λi r j c h1 h2=>by simp at h1) (λi r j c h1 h2=>by simp at h1)
   rw[DE k o sz rows hr,gf ho2]
   have:=L.eS (E:=E) 0 sz (rows.map λr=>r.map (qR k)) b off cap us (.inl O) (aq hc)
    (λr hr=>by obtain⟨r0,h1,rfl⟩:=gZ.1 hr;simpa using hsz r0 h1)
    (λi r j c h1 h2=>by obtain⟨r0,c0,h3,h4,rfl⟩:=DC h1 h2;exact hst i r0 j c0 h3 h4)
    (λi r j c h1 h2=>by obtain⟨r0,c0,h3,h4,rfl⟩:=DC h1 h2;exact ih (hL i r0 j c0 h3 h4))
   rw[gp]at this;exact dF
  |xq o sz ho a=>
   have ho2:o≠2:=cD
   have e:qR (k+1) (.eS o sz [])=.eS 0 0 []:=by show C.eS (if o=2 then 2 else 0) 0 _=_;rw[gf ho2]
   rw[e];exact .xq 0 0 (.inl O) a
  |agg cs ys h1 h2 h3=>
   have:=LL.fe (f:=qR k) (E':=E) (cs:=cs) (ys:=ys.toList) ⟨aq h1,λi c y e1 e2=>h2 i c y e1 uZ⟩ (λc y hl=>ih hl);exact dw
  |v x hx=>exact .v _ hx
  |jP cells b off us hst hL=>exact .jP cells b off us hst hL
  |ref id hops sz i j hn=>exact .ref id hops sz i j hn
  |sl id hops sz lo len full cap hn hlen hf hf'=>exact .sl id hops sz lo len full cap hn hlen hf hf'
  |fn f first caps ys zs h1 h2 h3 h4=>exact .fn f first caps ys zs h1 h2 h3 h4
  |mp id hn=>exact .mp id hn
  |fb cs ys h1 h2=>exact .fb cs ys h1 h2
  |un=>exact .un
  |za y=>exact .za y
  |gl id sz rows y hn hg h=>exact .gl id sz rows y hn hg h
  |fR t c y h=>exact .fR t c y h
def vd:Nat->C->Bool
 |0,_=>true
 |k+1,c=>match c with
  |.eS o _ rows=>o == 0 && rows.all λr=>r.all (vd k)
  |.agg cs=>cs.all (vd k)
  |_=>true
def wM:∀(k:Nat) {E:Env} {c:C} {y:Value},vd k c=true->L E (qR k c) y->L E c y:=by
 intro k
 induction k with
 |zero=>intro E c y _ h;exact h
 |succ k ih=>
  intro E c y hp h;cases c with
  |eS o sz rows=>
   simp only[vd,gC,pq,gA]at hp;obtain⟨rfl,hp⟩:=hp;by_cases hr:rows=[]
   ·subst hr;have h:L E (.eS 0 0 []) y:=h;exact WC.none 0 0 sz E y h
   rw[DE k 0 sz rows hr,gf ar]at h;generalize hgr:(rows.map λr=>r.map (qR k))=rows' at h;cases h with
   |eS _ _ _ b off cap us ho hc hsz hst hL=>
    subst hgr
    have back:∀{i:Nat} {r:List C} {j:Nat} {c:C},rows[i]?=some r->r[j]?=some c->(rows.map λr=>r.map (qR k))[i]?=some (r.map (qR k))/\(r.map (qR k))[j]?=some (qR k c):=λh1 h2=>by
     rw[gj,h1,gj,h2];exact⟨rfl,rfl⟩
    have:=L.eS (E:=E) 0 sz rows b off cap us (.inl O) (aq hc)
     (λr hr=>by have:=hsz _ (List.mem_map_of_mem (f:=λr=>r.map (qR k)) hr);simpa using this)
     (λi r j c h1 h2=>hst i _ j _ (back h1 h2).1 (back h1 h2).2)
     (λi r j c h1 h2=>ih (hp r (gh h1) c (gh h2)) (hL i _ j _ (back h1 h2).1 (back h1 h2).2))
    rw[gp];exact dF
   |xq o sz ho a=>exact absurd (List.map_eq_nil_iff.1 hgr) hr
  |agg cs=>
   have hp:cs.all (vd k)=true:=hp;rw[gA]at hp;have h:L E (.agg (cs.map (qR k))) y:=h;generalize hg:cs.map (qR k)=cs' at h;cases h with
   |agg _ ys h1 h2 h3=>
    subst hg;refine .agg cs ys tD (λi c y e1 e2=>ih (hp c (gh e1)) (h2 i _ y (by rw[gj,e1];rfl) e2)) h3
  |_=>exact h
def zb.deep{P:Program}{f:FuncId}{H H':zl}{args:List C}{r:C}(k:Nat)(h:zb P f H args r H'){r':C}(hp:vd k r'=true)(hr:qR k r=qR k r'):zb P f H args r' H':=λw E vs hh hl=>
 (h w E vs hh hl).mono λe w' ⟨v,E',h1,h2,h3,h4⟩=>⟨v,E',h1,h2,wM k hp (hr ▸ Ed k h3),h4⟩
def zb.vN{P:Program}{f:FuncId}{H H':zl}{args args':List C}{r:C}(k:Nat)(h:zb P f H args r H')(hp:args.all (vd k)=true)(ha:args'.map (qR k)=args.map (qR k)):zb P f H args' r H':=λw E vs hh hl=>
 h w E vs hh ⟨cF,λi c y e1 e2=>by
  have e3:(args'.map (qR k))[i]?=some (qR k c):=by rw[ha,gj,e1];rfl
  rw[gj]at e3;cases hx:args'[i]? with
  |none=>rw[hx]at e3;cases e3
  |some c'=>
   rw[hx]at e3;simp only[gF,gS]at e3;exact wM k (gA.1 hp c (gh e1)) (e3 ▸ Ed k (hl.2 i c' y hx e2))⟩
abbrev Be:eZ:=[105,110]
abbrev tA:eZ:=[97]
abbrev JX:eZ:=[42]
abbrev EW:eZ:=[47]
abbrev tX:eZ:=[120]
abbrev Ar:fD:=⟨[Be],[⟨Be,JX,EW,tA⟩],[⟨tA,1,1,[false,true]⟩]⟩
abbrev Dh:fD:=⟨[],[],[]⟩
abbrev Cj:Sna:=⟨[Be],[⟨0,JX,EW,0⟩],[⟨tA,1,1,[false,true]⟩]⟩
abbrev lq:fh:=⟨1,Be,tX,EW,0,0,0,Dh⟩
abbrev oB:fh:=⟨3,[],[],[],0,0,0,Ar⟩
abbrev G5:fh:=⟨3,[],[],[],0,0,0,Dh⟩
abbrev Dv:fh:=⟨4,Be,[],[],0,0,0,Dh⟩
abbrev an(k v e n:Int):ff:=⟨k,v,0,e,0,0,n,B9⟩
abbrev At:fM:=⟨[Cj],0,[]⟩
abbrev Au:fM:=⟨[Cj,Cj],1,[]⟩
abbrev AV:fM:=⟨[Cj,Cj],1,[Be]⟩
def Bs:firstM Ar=At:=by kernel_rfl
def P7:(zT Ar).2.1=0:=by kernel_rfl
def P8:(zT Dh).2.1=6:=by kernel_rfl
def QC:qU At lq (an 1 0 1 0)=(true,At):=by kernel_rfl
def QD:qU At lq (an 1 0 0 0)=(false,At):=by kernel_rfl
def QE:qU At oB (an 8 1 0 0)=(true,Au):=by kernel_rfl
def QF:qU Au lq (an 1 0 1 0)=(false,Au):=by kernel_rfl
def QG:qU Au G5 (an 9 0 0 6)=(true,Au):=by kernel_rfl
def QH:qU Au Dv (an 10 0 0 0)=(true,AV):=by kernel_rfl
def QI:qU AV lq (an 5 0 0 0)=(true,AV):=by kernel_rfl
def QJ:qU AV lq (an 4 0 0 0)=(false,AV):=by kernel_rfl
abbrev n7:fy:=⟨Ar,[[lq]],[]⟩
abbrev Ba(e:Int):eV:=⟨0,0,0,0,0,false,0,true,true,true,an 1 0 e 0⟩
abbrev Db(e:Int):Cal:=⟨0,0,0,0,0,an 1 0 e 0⟩
def zyw:Cal.fC [Ba 1]=([Db 1],0):=by kernel_rfl
def zyv:Cal.fC [Ba 0]=([Db 0],0):=by kernel_rfl
def OV(e:Int):Srt.ordV [Db e]=[0]:=by
 have h:=Srt.yp [Db e];rw[show Srt.idx [Db e] [Db e].length=[(0:Int)] from O]at h;exact List.perm_singleton.1 h
def zxb:chkV n7 [Ba 1] (Cal.fC [Ba 1])=(1,true):=by
 rw[zyw];unfold chkV;rw[gf (by simp only;decide),OV,Bs]
 kernel_rfl
def zxa:chkV n7 [Ba 0] (Cal.fC [Ba 0])=(0,false):=by
 rw[zyv];unfold chkV;rw[gf (by simp only;decide),OV,Bs]
 kernel_rfl
def Gd:xn Dh:=⟨ar,ar,ar⟩
def Gc:xn Ar:=⟨ar,ar,ar⟩
def Jy:C9 Cj:=by
 have h:=HN Gc ar P7;rw[show(zT Ar).1=Cj from au]at h;exact h
def Ho:tn 22 [] [] (Cf Ar) []:=by
 refine zb.deep 9 (r:=.agg [.eS 1 1 [[Tx Be]],.eS 1 4 [[Tx Be,Tx JX,Tx EW,Tx tA]],.eS 1 4 [[Tx tA,I 1,I 1,.eS 1 1 [[Bo false],[Bo true]]]]]) ?_ O O;refine ab func22 ?_;exact uI
def QV:tn 24 [] [.v (.pointer none)] (I (-1)) []:=by
 refine ab func24 ?_;refine tc ?_
 exact uI
def Ru(o:fh)(a:ff):tn 23 [] [.v (.pointer none),Cp o,Ca a] (Bo false) []:=by
 refine ab func23 ?_;refine tc ?_
 exact uI
def GX:Ac At:=⟨ar,ar,ar,λs hs=>by obtain rfl:=gN.1 hs;exact Jy,ar⟩
def EP:Ac Au:=⟨ar,ar,ar,λs hs=>by rcases pP.1 hs with rfl|hs;exact Jy;obtain rfl:=gN.1 hs;exact Jy,ar⟩
def Kt:Ac AV:=⟨ar,ar,ar,EP.all,ar⟩
def Cx:AD lq:=⟨ar,ar,Gd⟩
def Qx:AD oB:=⟨ar,ar,Gc⟩
def Qy:AD G5:=⟨ar,ar,Gd⟩
def Qw:AD Dv:=⟨ar,ar,Gd⟩
def PN:Ia n7:=by
 refine⟨Gc,ar,ar,λops h=>?_⟩;obtain rfl:=gN.1 h;refine⟨ar,λo h2=>?_⟩;obtain rfl:=gN.1 h2;exact⟨Cx,ar⟩
def LN:tn 7 [] [] (Bo true) []:=by
 have hn:ql prog 21 [] [Cf Ar] (PT Ar):=K0 Ar Gc P7;refine ab func7 ?_;refine ah Ho ?_;refine Fm [] hn (λr H' ⟨b,_,h⟩=>h ▸ rfl) O O O O O ?_;rintro _ _ ⟨b,rfl,rfl⟩;rw[Bs];have t1:=xz b At GX lq (an 1 0 1 0) Cx;have t2:=xz b At GX lq (an 1 0 0 0) Cx;have t3:=xz b At GX oB (an 8 1 0 0) Qx;have t4:=xz b Au EP lq (an 1 0 1 0) Cx;have t5:=xz b Au EP G5 (an 9 0 0 6) Qy;have t6:=xz b Au EP Dv (an 10 0 0 0) Qw;have t7:=xz b AV Kt lq (an 5 0 0 0) Cx;have t8:=xz b AV Kt lq (an 4 0 0 0) Cx;rw[QC]at t1;rw[QD]at t2;rw[QE]at t3;rw[QF]at t4;rw[QG]at t5;rw[QH]at t6;rw[QI]at t7;rw[QJ]at t8;conv=>whnf
 refine ah Ho ?_;refine zm [0,1,2] (zb.vN 9 (t1) O ?_) O O O O O O ?_;(focus rfl);refine dd ?_
 (refine ya (dd ?_))
 refine zm [0,1,2] (zb.vN 9 (t2) O ?_) O O O O O O ?_;(focus rfl);refine dd ?_
 (refine yb (dd ?_))
 refine zm [0,1,2] (zb.vN 9 (t3) O ?_) O O O O O O ?_;(focus rfl);refine dd ?_
 (refine ya (dd ?_))
 refine zm [0,1,2] (zb.vN 9 (t4) O ?_) O O O O O O ?_;(focus rfl);refine dd ?_
 (refine yb (dd ?_))
 refine zm [0,1,2] (zb.vN 9 (t5) O ?_) O O O O O O ?_;(focus rfl);refine dd ?_
 (refine ya (dd ?_))
 refine zm [0,1,2] (zb.vN 9 (t6) O ?_) O O O O O O ?_;(focus rfl);refine dd ?_
 (refine ya (dd ?_))
 refine zm [0,1,2] (zb.vN 9 (t7) O ?_) O O O O O O ?_;(focus rfl);refine dd ?_
 (refine ya (dd ?_))
 refine zm [0,1,2] (zb.vN 9 (t8) O ?_) O O O O O O ?_;(focus rfl);refine dd ?_
 (refine yb (dd ?_))
 refine .inl ⟨⟨true,[0,1],[3],[0]⟩,au,uH ?_⟩;refine⟨_,λH2=>(Ho).frame O H2,dd ?_⟩;refine hZ ?_
 have c1:=check_sound n7 [Ba 1] PN ar;rw[zxb]at c1;have c0:=check_sound n7 [Ba 0] PN ar;rw[zxa]at c0;refine⟨_,_,(zb.vN 9 (c1) O ?_).frame O _,?_⟩;(focus rfl);refine dd ?_
 (refine ya (dd ?_))
 refine⟨_,_,(zb.vN 9 (c0) O ?_).frame O _,?_⟩;(focus rfl);refine dd ?_
 (refine yb (dd ?_))
 have z:=Lw Dh Gd (by rw[P8];decide);rw[P8]at z;refine Fm [] (Go.Ab.zb.lM (R:=λr H'=>r=.fb [.v (.pointer none),I 6]/\H'=[]) (zb.vN 9 z O ?_) ⟨rfl,rfl⟩) (λr H' h=>by obtain⟨_,rfl⟩:=h;rfl) O O O O O ?_;(focus rfl)
 rintro _ _ ⟨rfl,rfl⟩;conv=>whnf
 (repeat ((refine ya (dd ?_))))
 refine af [0,1,2] (Hc b AV) ?_;(repeat ((refine ya (dd ?_))))
 refine ah QV ?_;(repeat ((refine ya (dd ?_))))
 refine⟨_,_,(zb.vN 9 (Ru lq (an 0 0 0 0)) O ?_).frame O _,?_⟩;(focus rfl);refine dd ?_
 (refine yb (dd ?_))
 exact uI
end Go.Lin
