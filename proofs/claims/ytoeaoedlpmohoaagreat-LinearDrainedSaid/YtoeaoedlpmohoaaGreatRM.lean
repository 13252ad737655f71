import Derived.Test.YtoeaoedlpmohoaaGreatRF
import Derived.Test.YtoeaoedlpmohoaaGreatRJ
import Derived.Test.YtoeaoedlpmohoaaGreatR0
import Derived.Test.YtoeaoedlpmohoaaGreatRL
set_option linter.all false
set_option maxRecDepth 100000
set_option maxHeartbeats 4000000
namespace Go.Lin
open Go.Ab Go.Proofs Tryz Go.Hy Go.Gat Go.Nam Go.Hos Go.Con Go.Sna
abbrev Cp(o:fG):C:=.agg (vq o)
abbrev Ca(a:fF):C:=.agg (yG a)
structure iA where
 qz:List Sna
 now:Int
 dr:List fA
def m7:List fA->List fA->List fA
 |acc,[]=>acc
 |acc,s::l=>m7 (if s∈acc then acc else acc++[s]) l
def MQ:∀(l acc:List fA) (s:fA),m7 acc (l++[s])=if s∈m7 acc l then m7 acc l else m7 acc l++[s]
 |[],acc,s=>rfl
 |x::l,acc,s=>MQ l _ s
def H6:∀(l acc:List fA) (s:fA),s∈m7 acc l↔s∈acc\/s∈l
 |[],acc,s=>by simp[m7]
 |x::l,acc,s=>by
  simp only[m7];rw[H6 l];split
  ·rename_i h;constructor
   ·rintro(h1|h1)
    ·exact .inl h1
    ·exact .inr (pV _ h1)
   ·rintro(h1|h1)
    ·exact .inl h1
    ·rcases rk.1 h1 with rfl|h1
     ·exact .inl h
     ·exact .inr h1
  ·simp only[gT,rk,List.not_mem_nil,or_false,false_or,or_assoc]
def iO(dr:List fA):List (fA×Value):=(m7 [] dr).map λs=>(s,Value.bool true)
def MD(l:List fA)(s:fA):Ab.ji (l.map λx=>(x,Value.bool true)) s=l.findIdx? λx=>decide (x=s):=by
 unfold Ab.ji;rw[r4]
 rfl
def OL(dr:List fA)(s:fA):(((Ab.ji (iO dr) s).bind λi=>((iO dr)[i]?).map (·.2)).getD (.bool false))=if s∈dr then .bool true else .bool false:=by
 have hm:=H6 dr [] s;unfold iO;rw[MD];cases h:(m7 [] dr).findIdx? λx=>decide (x=s) with
 |none=>
  rw[gX]at h;rw[gu]
  ·rfl
  ·intro hs;have:=h s (hm.2 (.inr hs));simp at this
 |some i=>
  obtain⟨h1,h2,_⟩:=gR.1 h;have hs:(m7 [] dr)[i]=s:=aq h2
  have:s∈dr:=by
   have:=hm.1 (by rw[<-hs];exact gZ h1);simpa using this
  rw[gC this];simp[h1]
def ZB(dr:List fA)(s:fA):yg (iO dr) s (.bool true)=iO (dr++[s]):=by
 have hm:=H6 dr [] s;unfold iO yg;rw[MD,MQ];cases h:(m7 [] dr).findIdx? λx=>decide (x=s) with
 |none=>
  rw[gX]at h;have:¬s∈m7 [] dr:=λhs=>by have:=h s hs;simp at this
  rw[gu this];simp
 |some i=>
  obtain⟨h1,h2,_⟩:=gR.1 h;have hs:(m7 [] dr)[i]=s:=aq h2
  rw[gC (by rw[<-hs];exact gZ h1)];apply pL
  intro j;rw[gM];split
  ·rename_i e;subst e;simp[h1,hs]
  ·rfl
structure CR(s:Sna):Prop where
 small:Jd s
 rules:∀r∈s.rules,0<=r.zg/\r.zg.toNat<s.zk.length
 zk:∀c∈s.zk,c.zL.length<1000000000000
structure o9(m:iA):Prop where
 len:m.qz.length<1000000000000
 EG:0<=m.now
 Dd:m.now.toNat<m.qz.length
 all:∀s∈m.qz,CR s
 dr:m.dr.length<1000000000000
def o9.cur{m:iA}(h:o9 m):∃s,m.qz[m.now.toNat]?=some s/\CR s:=⟨_,gp h.Dd,h.all _ (gZ h.Dd)⟩
structure Ay(o:fG):Prop where
 host:o.host.length<1000000000000000
 path:o.path.length<1000000000000000
 config:x3 o.config
abbrev kE(c:ic):List Int:=lD c.zL c.zL.length
def handleV(m:iA)(o:fG)(a:fF):Bool:=
 if o.listen∈m.dr then a.kind == 5 else match m.qz[m.now.toNat]? with
 |none=>false
 |some s=>if (xg s o.listen o.host o.path).2≠0 then a.kind == 2 else match s.zk[(xg s o.listen o.host o.path).1.toNat]? with
  |none=>false
  |some c=>if kE c=[] then a.kind == 3 else if a.kind=4 then true else a.kind == 1 && a.version == m.now && a.zg == (xg s o.listen o.host o.path).1 && (kE c).any λx=>x == a.end_
def nA(m:iA)(o:fG)(a:fF):Bool×iA:=
 if (qa o.config).2.1≠0 then (a.kind == 9 && a.n == (qa o.config).2.1,m)
 else if a.kind≠8\/a.version≠(m.qz.length:Int) then (false,m) else (true,⟨m.qz++[(qa o.config).1],(m.qz.length:Int),m.dr⟩)
def jT(m:iA)(o:fG)(a:fF):Bool×iA:=
 if o.kind=1 then (handleV m o a,m) else if o.kind=3 then nA m o a
 else if o.kind=4 then (a.kind == 10 || a.kind == 7,if a.kind=10 then ⟨m.qz,m.now,m.dr++[o.listen]⟩ else m) else (true,m)
def Sc{f:Nat->Int}{n:Nat}(h:(jZ f n).1=0):∀j,j<n->f j=0:=λj hj=>by
 unfold jZ at h;split at h
 ·rename_i i hi;have:=List.find?_some hi;simp at this;exact absurd h this
 ·rename_i hn;rw[uv]at hn;have:=hn j hj;simpa using this
def TM{c:ib}(h:(qO c).1=0):(jZ (nI c) c.zO.length).1=0:=by
 unfold qO at h;split at h
 ·rename_i h1;exact absurd h h1
 ·split at h
  ·rename_i h1;exact absurd h h1
  ·split at h
   ·rename_i h1;exact absurd h h1
   ·split at h
    ·rename_i h1;exact absurd h h1
    ·rename_i h1;simpa using h1
def Uk{l:List ic}{s:fA}(h:vX l s=true):0<=nN l s/\(nN l s).toNat<l.length:=by
 unfold vX at h;rw[rB]at h;obtain⟨x,hx,h2⟩:=h;unfold nN;cases hf:l.findIdx? (λx=>x.name == s) with
 |none=>
  rw[gX]at hf;rw[hf x hx]at h2;cases h2
 |some i=>
  obtain⟨h1,_⟩:=gR.1 hf;exact⟨uu i,aq h1⟩
def HF{c:ib}(hc:x3 c)(hh:∀x∈c.zk,x.zL.length<1000000000000)(h:(qa c).2.1=0):CR (qa c).1:=by
 unfold qa at h ⊢;split at h
 ·rename_i h1;exact absurd h h1
 ·rename_i h1;rw[gu h1];have h1:(qO c).1=0:=by simpa using h1
  have h2:=Sc (TM h1);refine⟨⟨hc.zd.1,aq hc.zO.1,λr hr=>?_⟩,λr hr=>?_,hh⟩
  ·obtain⟨x,hx,rfl⟩:=pd.1 hr;have:=hc.zO.2 x hx;exact⟨this.2.1,this.2.2.1⟩
  ·obtain⟨x,hx,rfl⟩:=pd.1 hr;obtain⟨j,hj,e⟩:=pF.1 hx;have h3:=h2 j hj;unfold nI at h3;rw[gp hj]at h3
   have h4:vX c.zk x.zg=true:=by
    rw[<-e];cases hn:vX c.zk c.zO[j].zg with
    |true=>rfl
    |false=>
     exfalso
     simp only[hn]at h3
     revert h3
     split
     ·decide
     ·split
      ·decide
      ·split
       ·decide
       ·simp
   exact Uk h4
def S2{s:Sna}{n h p:fA}(hs:CR s)(h0:(xg s n h p).2=0):∃c,s.zk[(xg s n h p).1.toNat]?=some c/\c∈s.zk/\0<=(xg s n h p).1:=by
 have hb:=F6 s.rules (yI s.zd n) h p s.rules.length;unfold xg at h0 ⊢;split at h0
 ·cases h0
 ·rename_i h1;rw[gu h1];split at h0
  ·rename_i h2;exact absurd h0 h2
  ·rename_i h2;rw[gu h2];have h2:(va s.rules (yI s.zd n) h p).2=0:=by simpa using h2
   have hb2:(va s.rules (yI s.zd n) h p).1.toNat<s.rules.length:=by
    unfold va at h2 ⊢;split at h2
    ·cases h2
    ·rename_i h3;rw[gu h3];simp only;omega
   rw[gp hb2];obtain⟨h4,h5⟩:=hs.rules _ (gZ hb2);exact⟨_,gp h5,gZ h5,h4⟩
def CZ(l:List Int)(s:Int):Int:=match l.findIdx? (λx=>x == s) with|some i=>(i:Int)|none=> -1
def Ht(l:List Int)(s:Int)(hl:l.length<4611686018427387904):tn 133 [] [lI l,I s] (I (CZ l s)) []:=by
 have hlm:(l.map encI).length=l.length:=gE ..;refine ab func133 ?_;rw[hlm];refine zZ.seq l.length (λk=>((lI l)::I s::.za::.za::I 0::.za::.za::I l.length::I k::mC ([.za,.za]))) (λk=>[]) (λk=>∀j,(h:j<l.length)->j<k->(l[j] == s)=false) ?_ aj (λk hk hr=>?_) (λhr=>?_)
 ·exact cC
 ·have hg:(l.map encI)[k]?=some (encI l[k]):=by rw[gz,gp hk];rfl
  conv=>whnf
  refine uF ?_;(refine td hg ?_)
  refine⟨λh2=>?_,λh2=>?_⟩
  ·refine dd ?_;(refine .inr ⟨aj,uH ?_⟩)
   have e:CZ l s=k:=by
    unfold CZ
    have:l.findIdx? (λx=>x == s)=some k:=by
     rw[gR];refine⟨hk,?_,λj hj=>by simp only[hr j aw hj];decide⟩;simp at h2;simp[h2]
    rw[this]
   rw[e];exact uI
  ·refine dd ?_;refine .inl ⟨rfl,?_,λj hj hjk=>?_⟩
   ·rw[zw aw];exact cE 0
   ·by_cases e:j=k
    ·subst e;simp at h2 ⊢;exactλh=>h2 h.symm
    ·exact hr j hj aw
 ·refine uD ?_
  have e:CZ l s= -1:=by
   unfold CZ
   have:l.findIdx? (λx=>x == s)=none:=by
    rw[gX];intro x hx;obtain⟨j,hj,rfl⟩:=pF.1 hx;exact hr j hj hj
   rw[this]
  rw[e];exact uI
def EW(l:List Int)(s:Int)(hl:l.length<4611686018427387904):tn 95 [] [lI l,I s] (Bo (l.any λx=>x == s)) []:=by
 refine ab func95 ?_;refine ah (Ht l s hl) ?_;rw[show decide (CZ l s≥0)=l.any (λx=>x == s) from BK l _];refine⟨λh=>?_,λh=>?_⟩
 ·refine dd ?_
  (exact⟨.inl rfl,_,.refl _,uN (by exact h.symm)⟩)
 ·refine dd ?_
  (exact⟨.inl rfl,_,.refl _,uN (by exact h.symm)⟩)
def RU(b:Nat)(m:iA)(hm:o9 m)(o:fG)(a:fF)(ho:Ay o):tn 64 [(im b (jq nC (iO m.dr)) (iO m.dr).length),⟨1,149,3,[[.gl 2 3 (m.qz.map ql),I m.now,.v (.map (some b))]],0⟩,⟨4,66,3,m.qz.map ql,0⟩] [.ref 1 [] 3 0 0,Cp o,Ca a] (Bo (handleV m o a)) [(im b (jq nC (iO m.dr)) (iO m.dr).length),⟨1,149,3,[[.gl 2 3 (m.qz.map ql),I m.now,.v (.map (some b))]],0⟩,⟨4,66,3,m.qz.map ql,0⟩]:=by
 obtain⟨s,hs,hsg⟩:=hm.cur;have hg:(m.qz.map ql)[m.now.toNat]?=some (ql s):=by rw[gz,hs];rfl
 refine zb.zI (fn:=f64) func64 rfl (uH ?_);refine uE ?_;by_cases hd:o.listen∈m.dr
 ·refine⟨_,_,fE.lookup (id:=0) _ _ _ rfl underlying147 (lF.str underlying9) rfl rfl o.listen (λE u h=>jG h) (c:=Bo true) rfl rfl (λE=>by rw[OL,gC hd];exact .v _ rfl),?_⟩;refine dd ?_;refine⟨λh1=>?_,λh1=>?_⟩
  ·have e:handleV m o a=true:=by unfold handleV;rw[gC hd];exact h1
   rw[e];refine dd ?_;exact⟨.inl rfl,⟨(.za::.za::.za::.za::.za::.za::Bo true:: .za::mC (mC (mC (mC (mC (mC (mC (mC (mC (mC ([]))))))))))),_⟩,cE 3,rfl,rfl⟩
  ·have e:handleV m o a=false:=by unfold handleV;rw[gC hd];exact h1
   rw[e];exact db
 refine⟨_,_,fE.lookup (id:=0) _ _ _ rfl underlying147 (lF.str underlying9) rfl rfl o.listen (λE u h=>jG h) (c:=Bo false) rfl rfl (λE=>by rw[OL,gu hd];exact .v _ rfl),dd ?_⟩;refine .inl ⟨⟨false,[3,7,9],[1],[]⟩,au,uH ?_⟩;refine⟨hm.EG,_,hg,dd ?_⟩;refine⟨rfl,dd ?_⟩;refine⟨rfl,dd ?_⟩
 have e0:handleV m o a=if (xg s o.listen o.host o.path).2≠0 then a.kind == 2 else match s.zk[(xg s o.listen o.host o.path).1.toNat]? with
  |none=>false
  |some c=>if kE c=[] then a.kind == 3 else if a.kind=4 then true else a.kind == 1 && a.version == m.now && a.zg == (xg s o.listen o.host o.path).1 && (kE c).any λx=>x == a.end_:=by
  unfold handleV;rw[gu hd,hs];(try rfl)
 refine ah (L5 s o.listen o.host o.path hsg.small ho.host ho.path) ?_;refine⟨λh2=>?_,λh2=>?_⟩
 ·rw[gC tR]at e0;refine dd ?_;refine⟨λh1=>?_,λh1=>?_⟩ <;> (rw[e0,h1];refine dd ?_;exact⟨.inl rfl,⟨(.za::.za::.za::.za::.za::.za::Bo _:: .za::mC (mC (mC (mC (mC (mC (mC (mC (mC (mC ([]))))))))))),_⟩,cE 3,rfl,rfl⟩)
 have h2:(xg s o.listen o.host o.path).2=0:=aq h2
 rw[gu bE]at e0;obtain⟨c,hc,hcm,hc0⟩:=S2 hsg h2;have hgc:(s.zk.map xc)[(xg s o.listen o.host o.path).1.toNat]?=some (xc c):=by rw[gz,hc];rfl
 have hch:=hsg.zk c hcm;have ml:((kE c).map encI).length=(kE c).length:=gE ..;rw[hc]at e0;simp only at e0;refine dd ?_;refine⟨hc0,_,hgc,dd ?_⟩;refine ah (vU c hch) ?_;rw[ml];refine⟨λh3=>?_,λh3=>?_⟩
 ·have h3:kE c=[]:=by simpa using h3
  rw[gC h3]at e0;refine dd ?_;refine⟨λh1=>?_,λh1=>?_⟩ <;> (rw[e0,h1];refine dd ?_;exact⟨.inl rfl,⟨(.za::.za::.za::.za::.za::.za::Bo _:: .za::mC (mC (mC (mC (mC (mC (mC (mC (mC (mC ([]))))))))))),_⟩,cE 3,rfl,rfl⟩)
 rw[gu (λh=>by rw[h]at h3;simp at h3)]at e0;refine dd ?_;refine⟨λh4=>?_,λh4=>?_⟩
 ·rw[gC (aq h4)]at e0;rw[e0];refine dd ?_;exact⟨.inl rfl,⟨(.za::.za::.za::.za::.za::.za::Bo true:: .za::mC (mC (mC (mC (mC (mC (mC (mC (mC (mC ([]))))))))))),_⟩,cE 3,rfl,rfl⟩
 rw[gu (aq h4)]at e0;refine dd ?_;refine uE ?_;refine⟨λh5=>?_,λh5=>?_⟩
 rotate_left
 ·rw[e0,h5,r3,r3,r3];exact db
 rw[h5,sr]at e0;refine dd ?_;refine⟨λh6=>?_,λh6=>?_⟩
 rotate_left
 ·rw[e0,h6,r3,r3];exact db
 rw[h6,sr]at e0;refine dd ?_;refine⟨λh7=>?_,λh7=>?_⟩
 rotate_left
 ·rw[e0,h7,r3];exact db
 rw[h7,sr]at e0;refine dd ?_;refine ah (EW (kE c) a.end_ (by have:=DD c.zL c.zL.length;show(lD c.zL c.zL.length).length<_;omega)) ?_;refine⟨λh8=>?_,λh8=>?_⟩ <;> (rw[e0,h8];refine dd ?_;exact⟨.inl rfl,⟨(.za::.za::.za::.za::.za::.za::Bo _:: .za::mC (mC (mC (mC (mC (mC (mC (mC (mC (mC ([]))))))))))),_⟩,cE 3,rfl,rfl⟩)
def Si(b:Nat)(m:iA)(hm:o9 m)(o:fG)(a:fF)(ho:Ay o)(h0:(nA m o a).2=m)(hno:(qa o.config).2.1≠0\/a.kind≠8\/a.version≠(m.qz.length:Int)):
  tn 65 [(im b (jq nC (iO m.dr)) (iO m.dr).length),⟨1,149,3,[[.gl 2 3 (m.qz.map ql),I m.now,.v (.map (some b))]],0⟩,⟨4,66,3,m.qz.map ql,0⟩] [.ref 1 [] 3 0 0,Cp o,Ca a] (Bo (nA m o a).1) [(im b (jq nC (iO m.dr)) (iO m.dr).length),⟨1,149,3,[[.gl 2 3 (m.qz.map ql),I m.now,.v (.map (some b))]],0⟩,⟨4,66,3,m.qz.map ql,0⟩]:=by
 have ml:(m.qz.map ql).length=m.qz.length:=gE ..;refine zb.zI (fn:=f65) func65 rfl (uH ?_);refine ah (yy o.config ho.config.k) ?_;refine⟨λh1=>?_,λh1=>?_⟩
 ·have e:(nA m o a).1=(a.kind == 9 && a.n == (qa o.config).2.1):=by unfold nA;rw[gC tD]
  refine dd ?_;refine⟨λh2=>?_,λh2=>?_⟩
  ·rw[e,h2,sr];refine dd ?_;refine⟨λh3=>?_,λh3=>?_⟩ <;> (rw[h3];refine dd ?_;exact⟨.inl rfl,⟨(.za::.za::.za::.za::.za::.za::Bo _:: .za::.za::.za::.za::.za::.za::mC (mC (mC (mC (mC (mC ([]))))))),_⟩,cE 3,rfl,rfl⟩)
  ·rw[e,h2,r3];refine dd ?_;exact dE
 have h1:(qa o.config).2.1=0:=aq h1
 have e:(nA m o a).1=false:=by
  unfold nA;rw[gu aD,gC];rcases hno with h|h
  ·exact absurd h1 h
  ·exact h
 rw[e];refine dd ?_;refine uE ?_;refine⟨λh2=>?_,λh2=>?_⟩
 ·refine dd ?_;refine tc ?_
  exact dE
 ·refine dd ?_;rw[ml];refine⟨λ_=>?_,λh=>?_⟩
  rotate_left
  ·exfalso
   simp at h2 h;rcases hno with h3|h3|h3
   ·exact h3 h1
   ·exact h3 h2
   ·exact h3 h
  refine dd ?_;exact dE
def Q8(b:Nat)(m:iA)(hm:o9 m)(o:fG)(a:fF)(ho:Ay o)(h1:(qa o.config).2.1=0)(h2:a.kind=8)(h3:a.version=(m.qz.length:Int)):
  tn 65 [(im b (jq nC (iO m.dr)) (iO m.dr).length),⟨1,149,3,[[.gl 2 3 (m.qz.map ql),I m.now,.v (.map (some b))]],0⟩,⟨4,66,3,m.qz.map ql,0⟩] [.ref 1 [] 3 0 0,Cp o,Ca a] (Bo true) [(im b (jq nC (iO m.dr)) (iO m.dr).length),⟨1,149,3,[[.gl 2 3 ((m.qz++[(qa o.config).1]).map ql),I m.qz.length,.v (.map (some b))]],0⟩,⟨4,66,3,(m.qz++[(qa o.config).1]).map ql,0⟩]:=by
 have ml:(m.qz.map ql).length=m.qz.length:=gE ..;have hml:=hm.len;have em:(m.qz++[(qa o.config).1]).map ql=m.qz.map ql++[ql (qa o.config).1]:=aj
 rw[em];refine zb.zI (fn:=f65) func65 rfl (uH ?_);refine ah (yy o.config ho.config.k) ?_;refine⟨λh=>absurd h aD,λ_=>dd ?_⟩;refine uE ?_;refine⟨λh=>absurd h bE,λ_=>dd ?_⟩;rw[ml];refine⟨λh=>absurd h bM,λ_=>dd ?_⟩;rw[ml];refine uE ?_;refine⟨rfl,.inr rfl,by rw[ml];simp[maxLen];omega,by rw[ml];show(m.qz.length+1)*72<=_;omega,dd ?_⟩;exact⟨.inl rfl,⟨(.za::.za::.za::.za::.za::.za::Bo true:: .za::.za::.za::.za::.za::.za::mC (mC (mC (mC (mC (mC ([]))))))),_⟩,cE 3,rfl,rfl⟩
def He(b:Nat)(m:iA):tn 37 [(im b (jq nC (iO (m).dr)) (iO (m).dr).length),⟨1,149,3,[[.gl 2 3 ((m).qz.map ql),I (m).now,.v (.map (some b))]],0⟩,⟨4,66,3,(m).qz.map ql,0⟩] [.ref 1 [] 3 0 0] (I m.now) [(im b (jq nC (iO (m).dr)) (iO (m).dr).length),⟨1,149,3,[[.gl 2 3 ((m).qz.map ql),I (m).now,.v (.map (some b))]],0⟩,⟨4,66,3,(m).qz.map ql,0⟩]:=by
 refine zb.zI (fn:=f37) func37 rfl (uH ?_);refine tc ?_
 exact uJ
def xB(b:Nat)(m:iA)(hm:o9 m)(o:fG)(a:fF)(ho:Ay o):
  tn 36 [(im b (jq nC (iO (m).dr)) (iO (m).dr).length),⟨1,149,3,[[.gl 2 3 ((m).qz.map ql),I (m).now,.v (.map (some b))]],0⟩,⟨4,66,3,(m).qz.map ql,0⟩] [.ref 1 [] 3 0 0,Cp o,Ca a] (Bo (jT m o a).1) [(im b (jq nC (iO ((jT m o a).2).dr)) (iO ((jT m o a).2).dr).length),⟨1,149,3,[[.gl 2 3 (((jT m o a).2).qz.map ql),I ((jT m o a).2).now,.v (.map (some b))]],0⟩,⟨4,66,3,((jT m o a).2).qz.map ql,0⟩]:=by
 refine zb.zI (fn:=f36) func36 rfl (uH ?_);refine tc ?_
 refine⟨λk1=>?_,λk1=>?_⟩
 ·have k1:o.kind=1:=by simpa using k1
  have e:jT m o a=(handleV m o a,m):=by unfold jT;rw[gC k1]
  rw[e];refine dd ?_;refine af [0,1,2] (RU b m hm o a ho) ?_;refine⟨λh1=>?_,λh1=>?_⟩ <;> (rw[h1];refine dd ?_;exact⟨.inl rfl,⟨(.za::.za::.za::.za::.za::.za::Bo _::mC (mC (mC (mC ([.za,.za,.za]))))),_⟩,cE 3,rfl,rfl⟩)
 have k1:o.kind≠1:=aq k1
 refine dd ?_;refine⟨λk3=>?_,λk3=>?_⟩
 ·have k3:o.kind=3:=by simpa using k3
  have e:jT m o a=nA m o a:=by unfold jT;rw[gu k1,gC k3]
  rw[e];refine dd ?_;by_cases hy:(qa o.config).2.1=0/\a.kind=8/\a.version=(m.qz.length:Int)
  ·have e:nA m o a=(true,⟨m.qz++[(qa o.config).1],(m.qz.length:Int),m.dr⟩):=by
    unfold nA;rw[gu (by simp[hy.1]),gu (by simp[hy.2.1,hy.2.2])]
   rw[e];refine af [0,1,2] (Q8 b m hm o a ho hy.1 hy.2.1 hy.2.2) ?_;refine tc ?_
   exact dO
  ·have hno:(qa o.config).2.1≠0\/a.kind≠8\/a.version≠(m.qz.length:Int):=by
    by_cases g1:(qa o.config).2.1=0
    ·by_cases g2:a.kind=8
     ·exact .inr (.inr λg3=>hy ⟨g1,g2,g3⟩)
     ·exact .inr (.inl g2)
    ·exact .inl g1
   have e:(nA m o a).2=m:=by
    unfold nA;split
    ·rfl
    ·rename_i g1;rw[gC];rcases hno with g|g
     ·exact absurd g g1
     ·exact g
   rw[e];refine af [0,1,2] (Si b m hm o a ho e hno) ?_;refine⟨λh1=>?_,λh1=>?_⟩ <;> (rw[h1];refine dd ?_;exact⟨.inl rfl,⟨(.za::.za::.za::.za::.za::.za::Bo _::mC (mC (mC (mC ([.za,.za,.za]))))),_⟩,cE 3,rfl,rfl⟩)
 have k3:o.kind≠3:=aq k3
 refine dd ?_;refine⟨λk4=>?_,λk4=>?_⟩
 rotate_left
 ·have e:jT m o a=(true,m):=by unfold jT;rw[gu k1,gu k3,gu (aq k4)]
  rw[e];refine dd ?_;exact dO
 have k4:o.kind=4:=aq k4
 refine dd ?_;refine⟨λk5=>?_,λk5=>?_⟩
 ·have k5:a.kind=10:=by simpa using k5
  have e:jT m o a=(true,⟨m.qz,m.now,m.dr++[o.listen]⟩):=by unfold jT;rw[gu k1,gu k3,gC k4,gC k5,k5];rfl
  rw[e];refine dd ?_;refine uE ?_;refine⟨_,_,fE.mapUpdate (id:=0) _ _ _ _ (.inl rfl) underlying147 (lF.str underlying9) rfl rfl o.listen (λE u h=>jG h) (.bool true) (λE u h=>jG h),dd ?_⟩;rw[ZB];refine⟨λh1=>?_,λh1=>?_⟩
  ·refine dd ?_;refine tc ?_
   exact dO
  ·exact absurd h1 (by simp[k5])
 ·have k5:a.kind≠10:=by simpa using k5
  have e:jT m o a=(a.kind == 7,m):=by unfold jT;rw[gu k1,gu k3,gC k4,gu k5];simp[k5]
  rw[e];refine dd ?_;refine⟨λh=>absurd h (by simp[k5]),λ_=>dd ?_⟩;refine⟨λh1=>?_,λh1=>?_⟩ <;> (rw[h1];refine dd ?_;exact⟨.inl rfl,⟨(.za::.za::.za::.za::.za::.za::Bo _::mC (mC (mC (mC ([.za,.za,.za]))))),_⟩,cE 3,rfl,rfl⟩)
abbrev JX(b:Nat)(m:iA):Ob:=im b (jq nC (iO m.dr)) (iO m.dr).length
abbrev zxG(b:Nat)(m:iA):Ob:=⟨1,149,3,[[.gl 2 3 (m.qz.map ql),I m.now,.v (.map (some b))]],0⟩
abbrev JS(m:iA):Ob:=⟨4,66,3,m.qz.map ql,0⟩
abbrev firstM(c:ib):iA:=⟨[(qa c).1],0,[]⟩
def Pv(c:ib)(r:C)(H':zl):Prop:=∃b,r=.fC [.ref 1 [] 3 0 0,I 0]/\H'=[JX b (firstM c),zxG b (firstM c),JS (firstM c)]
def K1(c:ib)(hc:x3 c)(h:(qa c).2.1≠0):tn 34 [] [Cf c] (.fC [.v (.pointer none),I (qa c).2.1]) []:=by
 refine ab func34 ?_;refine ah (yy c hc.k) ?_;refine⟨λ_=>dd ?_,λh2=>absurd h2 aH⟩;exact uI
def KU(c:ib)(hc:x3 c)(h:(qa c).2.1=0):qs prog 34 [] [Cf c] (Pv c):=by
 refine qs.zI (fn:=f34) func34 rfl (uH ?_);refine ah (yy c hc.k) ?_;refine⟨λh2=>absurd h2 aH,λ_=>dd ?_⟩;intro b;refine dd ?_;exact⟨.inl rfl,_,.fC [.ref 1 [] 3 0 0,I 0],(zp.Ac 3 0 66 3 rfl rfl (.inr rfl) rfl rfl).trans (zp.fD [2,3,4] [2,3] _ _ rfl rfl rfl rfl),rfl,b,rfl,rfl⟩
abbrev BC(s:fW):C:=.agg (qi s)
abbrev EI(c:Cal):C:=.agg (qC c)
def yk(s:fW)(c:Cal):Bool:=decide (c.zf<0) || decide (c.zf≥(s.threads.length:Int)) || decide (c.op<0) || (match s.threads[c.zf.toNat]? with|some ops=>decide (c.op≥(ops.length:Int))|none=>true)
def G6(s:fW)(c:Cal):Option fG:=(s.threads[c.zf.toNat]?).bind λops=>ops[c.op.toNat]?
def Y9{s:fW}{c:Cal}(h:yk s c=false):∃ops o,0<=c.zf/\0<=c.op/\s.threads[c.zf.toNat]?=some ops/\ops[c.op.toNat]?=some o/\G6 s c=some o:=by
 unfold yk at h;simp only[pX,pN]at h;obtain⟨⟨⟨h1,h2⟩,h3⟩,h4⟩:=h;have h5:c.zf.toNat<s.threads.length:=aw
 have e1:=gp h5;rw[e1]at h4;simp only[pN]at h4;have h6:c.op.toNat<(s.threads[c.zf.toNat]).length:=aw
 have e2:=gp h6;exact⟨_,_,aw,aw,e1,e2,by unfold G6;rw[e1];exact e2⟩
abbrev Er:nv:=⟨0,0,0,0,0,0⟩
def JO(l:List fx)(i:Int):Int:=match l[i.toNat]? with|some e=>e.value|none=>0
def Bz(l:List fx)(o:fG)(c:Cal):Option fF:=if 0<=c.iw then some c.answer else if o.kind=3 then some ⟨8,JO l c.z5,0,0,0,0,0,Er⟩ else none
def x2(s:fW)(l:List fx)(c:Cal)(m:iA):Option (iA×Bool):=match G6 s c with
 |none=>none
 |some o=>match Bz l o c with
  |none=>some (m,false)
  |some a=>if (jT m o a).1 then some ((jT m o a).2,true) else none
def iZ(s:fW)(l:List fx)(cs:List Cal):List Int->iA->Int->Int×Bool
 |[],m,n=>(n,true)
 |i::is,m,n=>match cs[i.toNat]? with
  |none=>(n,true)
  |some c=>match x2 s l c m with
   |none=>(n,false)
   |some (m',b)=>iZ s l cs is m' (if b then n+1 else n)
noncomputable def chkV(s:fW)(l:List fx)(cs:List Cal×Int):Int×Bool:=
 if cs.2≠0\/(qa s.first).2.1≠0\/cs.1.any (yk s)=true then (0,false) else iZ s l cs.1 (Srt.ordV cs.1) (firstM s.first) 0
structure nR(n:Nat)(m:iA):Prop where
 len:m.qz.length<=n+1
 EG:0<=m.now
 Dd:m.now.toNat<m.qz.length
 all:∀s∈m.qz,CR s
 dr:m.dr.length<=n
def nR.jQ{n:Nat}{m:iA}(h:nR n m)(hn:n<100000000000):o9 m:=⟨by have:=h.len;omega,h.EG,h.Dd,h.all,by have:=h.dr;omega⟩
structure Jc(o:fG):Prop extends Ay o where
 zL:∀x∈o.config.zk,x.zL.length<1000000000000
def nR.take{n:Nat}{m:iA}{o:fG}{a:fF}(h:nR n m)(ho:Jc o):nR (n+1) (jT m o a).2:=by
 have hle:=h.len;have hld:=h.dr;have same:nR (n+1) m:=⟨aw,h.EG,h.Dd,h.all,aw⟩;unfold jT;split
 ·exact same
 ·split
  ·unfold nA;split
   ·exact same
   ·rename_i h1;split
    ·exact same
    ·refine⟨aA,aj,aj,λs hs=>?_,aA⟩;rcases gT.1 hs with h2|h2
     ·exact h.all s h2
     ·obtain rfl:=gS.1 h2;exact HF ho.config ho.zL tD
  ·split
   ·simp only;split
    ·exact⟨aA,h.EG,h.Dd,h.all,aA⟩
    ·exact same
   ·exact same
def nR.first{c:ib}(hc:x3 c)(hh:∀x∈c.zk,x.zL.length<1000000000000)(h:(qa c).2.1=0):nR 0 (firstM c):=
 ⟨aj,aj,aj,λs hs=>by obtain rfl:=gS.1 hs;exact HF hc hh h,aj⟩
structure Ni(s:fW):Prop where
 first:x3 s.first
 zL:∀x∈s.first.zk,x.zL.length<1000000000000
 threads:s.threads.length<4000000000000000000
 ops:∀ops∈s.threads,ops.length<4000000000000000000/\∀o∈ops,Jc o
def QU(s:fW)(c:Cal):tn 40 [] [BC s,EI c] (Bo (yk s c)) []:=by
 have m1:(s.threads.map xf).length=s.threads.length:=gE ..;refine ab func40 ?_;refine .inl ⟨⟨false,[24],[],[]⟩,au,uH ?_⟩;refine⟨λh1=>?_,λh1=>?_⟩
 ·refine dd ?_
  (exact⟨.inl rfl,_,.refl _,uN (by unfold yk;rw[h1];rfl)⟩)
 refine dd ?_;rw[m1];refine⟨λh2=>?_,λh2=>?_⟩
 ·refine dd ?_
  (exact⟨.inl rfl,_,.refl _,uN (by unfold yk;rw[h1,h2];rfl)⟩)
 refine dd ?_;refine⟨λh3=>?_,λh3=>?_⟩
 ·refine dd ?_
  (exact⟨.inl rfl,_,.refl _,uN (by unfold yk;rw[h1,h2,h3];rfl)⟩)
 have ht:c.zf.toNat<s.threads.length:=cw
 have e1:=gp ht;have hg:(s.threads.map xf)[c.zf.toNat]?=some (xf s.threads[c.zf.toNat]):=by rw[gz,e1];rfl
 have m2:(s.threads[c.zf.toNat].map vq).length=s.threads[c.zf.toNat].length:=gE ..;have e2:yk s c=decide (c.op≥(s.threads[c.zf.toNat].length:Int)):=by unfold yk;rw[h1,h2,h3,e1];rfl
 rw[e2];refine dd ?_;refine⟨cx,_,hg,dd ?_⟩;rw[m2];refine⟨λh4=>?_,λh4=>?_⟩
 ·refine dd ?_
  (exact⟨.inl rfl,_,.refl _,uN (by exact h4.symm)⟩)
 ·refine dd ?_
  (exact⟨.inl rfl,_,.refl _,uN (by exact h4.symm)⟩)
def Ui{H:zl}{f:FuncId}{caps:List C}{l:List Cal}(p:Cal->Bool)(hcb:qm prog f=true)(hp:∀r∈l,tn f H ([EI r]++caps) (Bo (p r)) H)(hl:l.length<4611686018427387904):
  tn 66 H [qZ l,.fn f [] caps] (I (match l.findIdx? p with|some i=>(i:Int)|none=> -1)) H:=by
 refine zb.zI (fn:=f66) func66 rfl (uH ?_)
 refine zZ.inv (λn t1 H1=>∃k,k+n=l.length/\H1=H/\(∀j,j<k->∀r,l[j]?=some r->p r=false)/\
   t1=((qZ l)::.fn f [] caps::.za::.za::I 0::.za::.za::I (l.map qC).length::I k::mC ([.za,.za]))) l.length ?_ ?_
 ·exact dc
 rintro n _ _ ⟨k,hk,rfl,hno,rfl⟩;conv=>whnf
 refine⟨λh=>?_,λh=>?_⟩
 ·conv=>whnf
  have ft:k<l.length:=aq h
  refine⟨aw,qC l[k],aX,uH ?_⟩;rw[hcb];refine⟨_,_,hp _ (gZ ft),uH ?_⟩;refine⟨λh2=>?_,λh2=>?_⟩
  ·conv=>whnf
   refine .inr ⟨aj,uH ?_⟩;refine⟨.inl rfl,_,.refl _,rfl,?_⟩
   have:l.findIdx? p=some k:=by
    rw[gR];refine⟨ft,h2,λj hj=>?_⟩;simp[hno j hj _ (gp aw)]
   rw[this]
   rfl
  ·conv=>whnf
   refine .inl ⟨rfl,n-1,_,_,aw,zp.mask [0,1,4,7,8] _ _,k+1,aw,rfl,?_,?_⟩
   ·intro j hj r hr;by_cases hjk:j=k
    ·subst hjk;rw[gp ft]at hr;cases hr
     exact h2
    ·exact hno j aw r hr
   ·rw[zw aw];rfl
 ·conv=>whnf
  refine .inr ⟨aj,uH ?_⟩;refine⟨.inl rfl,_,.refl _,rfl,?_⟩
  have:l.findIdx? p=none:=by
   rw[gX];intro x hx;obtain⟨j,hj⟩:=gW.1 hx;have hjl:=(gm.1 hj).1;have:¬k<l.length:=aq h
   exact hno j aw x hj
  rw[this]
  rfl
def Td{H:zl}{f:FuncId}{caps:List C}{l:List Cal}(p:Cal->Bool)(hcb:qm prog f=true)(hp:∀r∈l,tn f H ([EI r]++caps) (Bo (p r)) H)(hl:l.length<4611686018427387904):
  tn 38 H [qZ l,.fn f [] caps] (Bo (l.any p)) H:=by
 refine zb.zI (fn:=f38) func38 rfl (uH ?_);refine⟨_,_,Ui p hcb hp hl,dd ?_⟩;rw[show decide ((match l.findIdx? p with|some i=>((i:Nat):Int)|none=>(-1:Int))≥(0:Int))=l.any p from BK l p];refine⟨λh=>?_,λh=>?_⟩ <;> rw[h]
 ·exact dt
 ·exact dt
end Go.Lin
namespace Go.Lin
open Go.Ab Go.Proofs Tryz Go.Hy Go.Gat Go.Nam Go.Hos Go.Con Go.Sna Go.Cal
def Jl{l:List fx}(h:(Cal.fS l).2=0):(Cal.fS l).1.length<=l.length/\∀c∈(Cal.fS l).1,n6 (l.length:Int) c:=by
 unfold Cal.fS at h ⊢;split
 ·rename_i b hb;have hc:=Fv l hb;refine⟨?_,hc.ok⟩;rw[hc.begun];exact pM eF aj
 ·rename_i hb;simp only[hb]at h;exact absurd h ar
def ZJ{l:List fx}(h:(Cal.fS l).2=0){x:Int}(hx:x∈Srt.ordV (Cal.fS l).1):∃c,(Cal.fS l).1[x.toNat]?=some c/\c∈(Cal.fS l).1/\0<=x/\0<=c.z5/\c.z5.toNat<l.length:=by
 obtain⟨h1,h2,h3⟩:=Srt.D1 ((Srt.wy _).mem_iff.1 hx);have ft:x.toNat<(Cal.fS l).1.length:=aw
 have hm:=gZ ft;have hp:=((Jl h).2 _ hm).OC;have hf:=((Jl h).2 _ hm).OV;have e:Srt.fO (Cal.fS l).1 x=((Cal.fS l).1[x.toNat]).z5:=by unfold Srt.fO;rw[gp ft];rfl
 rw[e]at h3;exact⟨_,gp ft,hm,h1,aw,aw⟩
def Zh(cs:List Cal):(Srt.ordV cs).length<=cs.length:=by rw[(Srt.wy cs).length_eq];exact Srt.FW _
def TN(s:fW)(c:Cal):tn 39 [⟨1,30,5,[qi s],0⟩] ([EI c]++[.ref 0 [] 5 0 0]) (Bo (yk s c)) [⟨1,30,5,[qi s],0⟩]:=by
 refine zb.zI (fn:=f39) func39 rfl (uH ?_);refine ah (QU s c) ?_;refine⟨λh=>?_,λh=>?_⟩ <;> rw[h]
 ·conv=>whnf
  exact da
 ·conv=>whnf
  exact da
def check_sound(s:fW)(l:List fx)(hs:Ni s)(hl:l.length<=1000000):tn 15 [] [BC s,mf l] (.fC [I (chkV s l (Cal.fS l)).1,Bo (chkV s l (Cal.fS l)).2]) []:=by
 have hlm:(l.map zS).length=l.length:=gE ..;refine ab func15 ?_;refine ah (Il l aw) ?_;by_cases hb:(qa s.first).2.1=0
 rotate_left
 ·refine Fe [] ((K1 s.first hs.first hb).mi (R:=λr H'=>r=.fC [.v (.pointer none),I (qa s.first).2.1]/\H'=[]) ⟨rfl,rfl⟩) (λr H' h=>h.2 ▸ rfl) rfl rfl rfl rfl rfl ?_;rintro _ _ ⟨rfl,rfl⟩;have er:chkV s l (Cal.fS l)=(0,false):=by unfold chkV;rw[gC (.inr (.inl hb))]
  rw[er];conv=>whnf
  refine⟨λh1=>?_,λh1=>?_⟩
  ·refine dd ?_;refine tc ?_
   exact uI
  ·refine dd ?_;refine⟨λ_=>dd ?_,λh=>absurd h (by simp[hb])⟩;refine tc ?_
   exact uI
 refine Fe [] (KU s.first hs.first hb) (λr H' ⟨b,_,h⟩=>h ▸ rfl) rfl rfl rfl rfl rfl ?_;rintro _ _ ⟨b,rfl,rfl⟩;conv=>whnf
 refine⟨λh1=>?_,λh1=>?_⟩
 ·have er:chkV s l (Cal.fS l)=(0,false):=by unfold chkV;rw[gC (.inl tD)]
  rw[er];refine dd ?_;refine tc ?_
  exact uI
 have h1:(Cal.fS l).2=0:=aq h1
 refine dd ?_;refine tc ?_
 obtain⟨hcl,hco⟩:=Jl h1;have hcon:=Td (H:=[⟨1,30,5,[qi s],0⟩]) (f:=39) (l:=(Cal.fS l).1) (caps:=[.ref 0 [] 5 0 0]) (yk s) au (λr _=>TN s r) aw;refine af [0] (hcon) ?_;refine⟨λh2=>?_,λh2=>?_⟩
 ·have er:chkV s l (Cal.fS l)=(0,false):=by unfold chkV;rw[gC (.inr (.inr h2))]
  rw[er];refine dd ?_;refine tc ?_
  exact uI
 have er:chkV s l (Cal.fS l)=iZ s l (Cal.fS l).1 (Srt.ordV (Cal.fS l).1) (firstM s.first) 0:=by unfold chkV;rw[gu (by simp only[h1,hb,h2];decide)]
 rw[er];refine dd ?_;refine ah (Srt.SX (Cal.fS l).1 aw) ?_;have hol:=Zh (Cal.fS l).1;have om:((Srt.ordV (Cal.fS l).1).map encI).length=(Srt.ordV (Cal.fS l).1).length:=gE ..;have cm:((Cal.fS l).1.map qC).length=(Cal.fS l).1.length:=gE ..;have hpl:∀x∈Srt.ordV (Cal.fS l).1,∃c,(Cal.fS l).1[x.toNat]?=some c/\c∈(Cal.fS l).1/\0<=x/\0<=c.z5/\c.z5.toNat<l.length:=λx hx=>ZJ h1 hx
 revert hpl hol om cm h2 hcl hco
 generalize (Cal.fS l).1=cs;intro hcl hco h2 hol om cm hpl;rw[om];refine zZ.inv (λq t1 H1=>∃(k:Nat) (m:iA) (n:Nat),k+q=(Srt.ordV cs).length/\n<=k/\nR n m/\iZ s l cs ((Srt.ordV cs).drop k) m n=iZ s l cs (Srt.ordV cs) (firstM s.first) 0/\t1=(BC s::mf l:: .ref 0 [] 5 0 0:: .za::I 0::Bo false::qZ cs::I (Cal.fS l).2:: .ref 2 [] 3 0 0::I 0::I n:: .za::.za::.za::mC (mC (mC (lI (Srt.ordV cs)::I (Srt.ordV cs).length::I k:: .za::.za::.za::.za::mC (mC (mC (mC (mC ([])))))))))/\H1=[⟨1,30,5,[qi s],0⟩,JX b m,⟨1,149,3,[[.gl 3 3 ((m).qz.map ql),I (m).now,.v (.map (some b))]],0⟩,JS (m)]) (Srt.ordV cs).length ?_ ?_
 ·exact⟨(BC s::mf l:: .ref 0 [] 5 0 0:: .za::I 0::Bo false::qZ cs::I (Cal.fS l).2:: .ref 2 [] 3 0 0::I 0::I (0:Nat):: .za::.za::.za::mC (mC (mC (lI (Srt.ordV cs)::I (Srt.ordV cs).length::I (0:Nat):: .za::.za::.za::.za::mC (mC (mC (mC (mC ([]))))))))),_,cC,0,firstM s.first,0,aw,aw,nR.first hs.first hs.zL hb,rfl,rfl,rfl⟩
 rintro q t1 H1 ⟨k,m,n,k1,k2,k3,k4,rfl,rfl⟩;conv=>whnf
 refine⟨λhc=>?_,λhc=>?_⟩
 rotate_left
 ·have hk:(Srt.ordV cs).length<=k:=by simp at hc;omega
  rw[List.drop_of_length_le hk]at k4;rw[<-k4];refine dd ?_;exact dF
 have hk:k<(Srt.ordV cs).length:=by simp at hc;omega
 obtain⟨c,gc,hcm,x0,p0,p1⟩:=hpl _ (gZ hk);have gx:((Srt.ordV cs).map encI)[k]?=some (encI (Srt.ordV cs)[k]):=by rw[gz,gp hk];rfl
 have gy:(cs.map qC)[((Srt.ordV cs)[k]).toNat]?=some (qC c):=by rw[gz,gc];rfl
 have hf:yk s c=false:=by
  rw[pD]at h2;simpa using h2 c hcm
 obtain⟨ops,o,t0,o0,g1,g2,g3⟩:=Y9 hf;have g1':(s.threads.map xf)[c.zf.toNat]?=some (xf ops):=by rw[gz,g1];rfl
 have g2':(ops.map vq)[c.op.toNat]?=some (vq o):=by rw[gz,g2];rfl
 have hq:Jc o:=(hs.ops ops (gA g1)).2 o (gA g2);rw[List.drop_eq_getElem_cons hk]at k4;simp only[iZ,gc]at k4;have es:x2 s l c m=match Bz l o c with|none=>some (m,false)|some a=>if (jT m o a).1 then some ((jT m o a).2,true) else none:=by unfold x2;rw[g3] <;> rfl
 refine dd ?_;refine td gx ?_;refine⟨x0,_,gy,dd ?_⟩;refine .inl ⟨⟨false,[1,3,5,7,9],[0,4],[]⟩,au,uH ?_⟩;refine⟨t0,_,g1',dd ?_⟩;refine⟨o0,_,g2',dd ?_⟩;refine hZ ?_
 refine⟨λh5=>?_,λh5=>?_⟩
 ·have ea:Bz l o c=some c.answer:=by unfold Bz;rw[gC (aq h5)]
  rw[es,ea]at k4;simp only at k4;refine dd ?_;have ht:=xB b m (k3.jQ aw) o c.answer hq.toAy;refine af [1,2,3] (ht) ?_;refine⟨λh7=>?_,λh7=>?_⟩
  ·rw[gC h7]at k4;simp only at k4;refine dd ?_;refine tc ?_
   rw[zw aw,zw aw];refine .inl ⟨rfl,q-1,(BC s::mf l:: .ref 0 [] 5 0 0:: .za::I 0::Bo false::qZ cs::I (Cal.fS l).2:: .ref 2 [] 3 0 0::I 0::I (n+1:Nat):: .za::.za::.za::mC (mC (mC (lI (Srt.ordV cs)::I (Srt.ordV cs).length::I (k+1:Nat):: .za::.za::.za::.za::mC (mC (mC (mC (mC ([]))))))))),_,aw,?_,k+1,(jT m o c.answer).2,n+1,aw,aw,k3.take hq,k4,rfl,rfl⟩;exact cE 4
  ·rw[gu (by rw[h7];decide)]at k4;simp only at k4;rw[<-k4];refine dd ?_;refine tc ?_
   exact dF
 have h5:¬0<=c.iw:=aq h5
 refine dd ?_;refine⟨λh6=>?_,λh6=>?_⟩
 rotate_left
 ·have ea:Bz l o c=none:=by unfold Bz;rw[gu h5,gu (aq h6)]
  rw[es,ea]at k4;simp only at k4;refine dd ?_;rw[zw aw];refine .inl ⟨rfl,q-1,(BC s::mf l:: .ref 0 [] 5 0 0:: .za::I 0::Bo false::qZ cs::I (Cal.fS l).2:: .ref 2 [] 3 0 0::I 0::I n:: .za::.za::.za::mC (mC (mC (lI (Srt.ordV cs)::I (Srt.ordV cs).length::I (k+1:Nat):: .za::.za::.za::.za::mC (mC (mC (mC (mC ([]))))))))),[⟨1,30,5,[qi s],0⟩,JX b m,⟨1,149,3,[[.gl 3 3 ((m).qz.map ql),I (m).now,.v (.map (some b))]],0⟩,JS (m)],aw,?_,k+1,m,n,aw,aw,k3,k4,rfl,rfl⟩;exact cE 4
 have ge:(l.map zS)[c.z5.toNat]?=some (zS l[c.z5.toNat]):=by rw[gz,gp p1];rfl
 have ev:JO l c.z5=l[c.z5.toNat].value:=by unfold JO;rw[gp p1]
 have ea:Bz l o c=some ⟨8,l[c.z5.toNat].value,0,0,0,0,0,Er⟩:=by unfold Bz;rw[gu h5,gC (aq h6),ev]
 rw[es,ea]at k4;simp only at k4;refine dd ?_;refine⟨p0,_,ge,dd ?_⟩;have ht:=xB b m (k3.jQ aw) o ⟨8,l[c.z5.toNat].value,0,0,0,0,0,Er⟩ hq.toAy;refine af [1,2,3] (ht) ?_;refine⟨λh7=>?_,λh7=>?_⟩
 ·rw[gC h7]at k4;simp only at k4;refine dd ?_;refine tc ?_
  rw[zw aw,zw aw];refine .inl ⟨rfl,q-1,(BC s::mf l:: .ref 0 [] 5 0 0:: .za::I 0::Bo false::qZ cs::I (Cal.fS l).2:: .ref 2 [] 3 0 0::I 0::I (n+1:Nat):: .za::.za::.za::mC (mC (mC (lI (Srt.ordV cs)::I (Srt.ordV cs).length::I (k+1:Nat):: .za::.za::.za::.za::mC (mC (mC (mC (mC ([]))))))))),_,aw,?_,k+1,(jT m o ⟨8,l[c.z5.toNat].value,0,0,0,0,0,Er⟩).2,n+1,aw,aw,k3.take hq,k4,rfl,rfl⟩;exact cE 4
 ·rw[gu (by rw[h7];decide)]at k4;simp only at k4;rw[<-k4];refine dd ?_;refine tc ?_
  exact dF
def q9:Nat->C->C
 |0,c=>c
 |k+1,c=>match c with
  |.fp o sz rows=>match rows with
   |[]=>.fp (if o=2 then 2 else 0) 0 []
   |r::rs=>.fp (if o=2 then 2 else 0) sz (r.map (q9 k)::rs.map λr=>r.map (q9 k))
  |.agg cs=>.agg (cs.map (q9 k))
  |c=>c
def Dr(k o sz:Nat)(rows:List (List C))(h:rows≠[]):q9 (k+1) (.fp o sz rows)=.fp (if o=2 then 2 else 0) sz (rows.map λr=>r.map (q9 k)):=by
 cases rows with
 |nil=>exact absurd rfl h
 |cons r rs=>rfl
def Dp{f:C->C}{rows:List (List C)}{i j:Nat}{r:List C}{c:C}(h1:(rows.map λr=>r.map f)[i]?=some r)(h2:r[j]?=some c):∃r0 c0,rows[i]?=some r0/\r0[j]?=some c0/\c=f c0:=by
 rw[gz]at h1;cases h3:rows[i]? with
 |none=>rw[h3]at h1;cases h1
 |some r0=>
  rw[h3]at h1;cases h1
  rw[gz]at h2;cases h4:r0[j]? with
  |none=>rw[h4]at h2;cases h2
  |some c0=>rw[h4]at h2;cases h2;exact⟨r0,c0,rfl,h4,rfl⟩
def DY:∀(k:Nat) {E:Env} {c:C} {y:Value},L E c y->L E (q9 k c) y:=by
 intro k
 induction k with
 |zero=>intro E c y h;exact h
 |succ k ih=>
  intro E c y h;cases h with
  |fp o sz rows b off cap us ho hc hsz hst hL=>
   have ho2:o≠2:=cy
   by_cases hr:rows=[]
   ·subst hr;have e:q9 (k+1) (.fp o sz [])=.fp 0 0 []:=by show C.fp (if o=2 then 2 else 0) 0 _=_;rw[gu ho2]
    rw[e];exact .fp 0 0 [] b off cap us (.inl rfl) hc (λr hr=>by cases hr) (λi r j c h1 h2=>by simp at h1) (λi r j c h1 h2=>by simp at h1)
   rw[Dr k o sz rows hr,gu ho2]
   have:=L.fp (E:=E) 0 sz (rows.map λr=>r.map (q9 k)) b off cap us (.inl rfl) (aq hc)
    (λr hr=>by obtain⟨r0,h1,rfl⟩:=pd.1 hr;simpa using hsz r0 h1)
    (λi r j c h1 h2=>by obtain⟨r0,c0,h3,h4,rfl⟩:=Dp h1 h2;exact hst i r0 j c0 h3 h4)
    (λi r j c h1 h2=>by obtain⟨r0,c0,h3,h4,rfl⟩:=Dp h1 h2;exact ih (hL i r0 j c0 h3 h4))
   rw[gE]at this;exact dM
  |xp o sz ho a=>
   have ho2:o≠2:=cy
   have e:q9 (k+1) (.fp o sz [])=.fp 0 0 []:=by show C.fp (if o=2 then 2 else 0) 0 _=_;rw[gu ho2]
   rw[e];exact .xp 0 0 (.inl rfl) a
  |agg cs ys h1 h2 h3=>
   have:=LL.fD (f:=q9 k) (E':=E) (cs:=cs) (ys:=ys.toList) ⟨aq h1,λi c y e1 e2=>h2 i c y e1 uZ⟩ (λc y hl=>ih hl);exact dB
  |v x hx=>exact .v _ hx
  |jU cells b off us hst hL=>exact .jU cells b off us hst hL
  |ref id hops sz i j hn=>exact .ref id hops sz i j hn
  |sl id hops sz lo len full cap hn hlen hf hf'=>exact .sl id hops sz lo len full cap hn hlen hf hf'
  |fn f first caps ys zs h1 h2 h3 h4=>exact .fn f first caps ys zs h1 h2 h3 h4
  |mp id hn=>exact .mp id hn
  |fC cs ys h1 h2=>exact .fC cs ys h1 h2
  |un=>exact .un
  |za y=>exact .za y
  |gl id sz rows y hn hg h=>exact .gl id sz rows y hn hg h
  |iu t c y h=>exact .iu t c y h
def y8:Nat->C->Bool
 |0,_=>true
 |k+1,c=>match c with
  |.fp o _ rows=>o == 0 && rows.all λr=>r.all (y8 k)
  |.agg cs=>cs.all (y8 k)
  |_=>true
def wH:∀(k:Nat) {E:Env} {c:C} {y:Value},y8 k c=true->L E (q9 k c) y->L E c y:=by
 intro k
 induction k with
 |zero=>intro E c y _ h;exact h
 |succ k ih=>
  intro E c y hp h;cases c with
  |fp o sz rows=>
   simp only[y8,gH,pH,gI]at hp;obtain⟨rfl,hp⟩:=hp;by_cases hr:rows=[]
   ·subst hr;have h:L E (.fp 0 0 []) y:=h;exact WC.none 0 0 sz E y h
   rw[Dr k 0 sz rows hr,gu ar]at h;generalize hgr:(rows.map λr=>r.map (q9 k))=rows' at h;cases h with
   |fp _ _ _ b off cap us ho hc hsz hst hL=>
    subst hgr
    have back:∀{i:Nat} {r:List C} {j:Nat} {c:C},rows[i]?=some r->r[j]?=some c->(rows.map λr=>r.map (q9 k))[i]?=some (r.map (q9 k))/\(r.map (q9 k))[j]?=some (q9 k c):=λh1 h2=>by
     rw[gz,h1,gz,h2];exact⟨rfl,rfl⟩
    have:=L.fp (E:=E) 0 sz rows b off cap us (.inl rfl) (aq hc)
     (λr hr=>by have:=hsz _ (List.mem_map_of_mem (f:=λr=>r.map (q9 k)) hr);simpa using this)
     (λi r j c h1 h2=>hst i _ j _ (back h1 h2).1 (back h1 h2).2)
     (λi r j c h1 h2=>ih (hp r (gA h1) c (gA h2)) (hL i _ j _ (back h1 h2).1 (back h1 h2).2))
    rw[gE];exact dM
   |xp o sz ho a=>exact absurd (List.map_eq_nil_iff.1 hgr) hr
  |agg cs=>
   have hp:cs.all (y8 k)=true:=hp;rw[gI]at hp;have h:L E (.agg (cs.map (q9 k))) y:=h;generalize hg:cs.map (q9 k)=cs' at h;cases h with
   |agg _ ys h1 h2 h3=>
    subst hg;refine .agg cs ys tD (λi c y e1 e2=>ih (hp c (gA e1)) (h2 i _ y (by rw[gz,e1];rfl) e2)) h3
  |_=>exact h
def zb.deep{P:Program}{f:FuncId}{H H':zl}{args:List C}{r:C}(k:Nat)(h:zb P f H args r H'){r':C}(hp:y8 k r'=true)(hr:q9 k r=q9 k r'):zb P f H args r' H':=λw E vs hh hl=>
 (h w E vs hh hl).mono λe w' ⟨v,E',h1,h2,h3,h4⟩=>⟨v,E',h1,h2,wH k hp (hr ▸ DY k h3),h4⟩
def zb.kV{P:Program}{f:FuncId}{H H':zl}{args args':List C}{r:C}(k:Nat)(h:zb P f H args r H')(hp:args.all (y8 k)=true)(ha:args'.map (q9 k)=args.map (q9 k)):zb P f H args' r H':=λw E vs hh hl=>
 h w E vs hh ⟨cz,λi c y e1 e2=>by
  have e3:(args'.map (q9 k))[i]?=some (q9 k c):=by rw[ha,gz,e1];rfl
  rw[gz]at e3;cases hx:args'[i]? with
  |none=>rw[hx]at e3;cases e3
  |some c'=>
   rw[hx]at e3;simp only[gL,gV]at e3;exact wH k (gI.1 hp c (gA e1)) (e3 ▸ DY k (hl.2 i c' y hx e2))⟩
abbrev AZ:fA:=[105,110]
abbrev tA:fA:=[97]
abbrev JF:fA:=[42]
abbrev ER:fA:=[47]
abbrev tX:fA:=[120]
abbrev Aq:ib:=⟨[AZ],[⟨AZ,JF,ER,tA⟩],[⟨tA,1,1,[false,true]⟩]⟩
abbrev C7:ib:=⟨[],[],[]⟩
abbrev B7:Sna:=⟨[AZ],[⟨0,JF,ER,0⟩],[⟨tA,1,1,[false,true]⟩]⟩
abbrev lZ:fG:=⟨1,AZ,tX,ER,0,0,0,C7⟩
abbrev AY:fG:=⟨3,[],[],[],0,0,0,Aq⟩
abbrev G7:fG:=⟨3,[],[],[],0,0,0,C7⟩
abbrev Dj:fG:=⟨4,AZ,[],[],0,0,0,C7⟩
abbrev an(k v e n:Int):fF:=⟨k,v,0,e,0,0,n,Er⟩
abbrev Aj:iA:=⟨[B7],0,[]⟩
abbrev Ak:iA:=⟨[B7,B7],1,[]⟩
abbrev AS:iA:=⟨[B7,B7],1,[AZ]⟩
def Bg:firstM Aq=Aj:=by kernel_rfl
def Pz:(qa Aq).2.1=0:=by kernel_rfl
def PA:(qa C7).2.1=6:=by kernel_rfl
def P6:jT Aj lZ (an 1 0 1 0)=(true,Aj):=by kernel_rfl
def P7:jT Aj lZ (an 1 0 0 0)=(false,Aj):=by kernel_rfl
def P8:jT Aj AY (an 8 1 0 0)=(true,Ak):=by kernel_rfl
def P9:jT Ak lZ (an 1 0 1 0)=(false,Ak):=by kernel_rfl
def Qa:jT Ak G7 (an 9 0 0 6)=(true,Ak):=by kernel_rfl
def Qb:jT Ak Dj (an 10 0 0 0)=(true,AS):=by kernel_rfl
def Qc:jT AS lZ (an 5 0 0 0)=(true,AS):=by kernel_rfl
def Qd:jT AS lZ (an 4 0 0 0)=(false,AS):=by kernel_rfl
abbrev n8:fW:=⟨Aq,[[lZ]],[]⟩
abbrev AW(e:Int):fx:=⟨0,0,0,0,0,false,0,true,true,true,an 1 0 e 0⟩
abbrev C6(e:Int):Cal:=⟨0,0,0,0,0,an 1 0 e 0⟩
def zxJ:Cal.fS [AW 1]=([C6 1],0):=by kernel_rfl
def zxI:Cal.fS [AW 0]=([C6 0],0):=by kernel_rfl
def NT(e:Int):Srt.ordV [C6 e]=[0]:=by
 have h:=Srt.wy [C6 e];rw[show Srt.idx [C6 e] [C6 e].length=[(0:Int)] from rfl]at h;exact List.perm_singleton.1 h
def Z2:chkV n8 [AW 1] (Cal.fS [AW 1])=(1,true):=by
 rw[zxJ];unfold chkV;rw[gu (by simp only;decide),NT,Bg]
 kernel_rfl
def Z1:chkV n8 [AW 0] (Cal.fS [AW 0])=(0,false):=by
 rw[zxI];unfold chkV;rw[gu (by simp only;decide),NT,Bg]
 kernel_rfl
def Gb:x3 C7:=⟨ar,ar,ar⟩
def Ga:x3 Aq:=⟨ar,ar,ar⟩
def I5:CR B7:=by
 have h:=HF Ga ar Pz;rw[show(qa Aq).1=B7 from au]at h;exact h
def Hn:tn 35 [] [] (Cf Aq) []:=by
 refine zb.deep 9 (r:=.agg [.fp 1 1 [[Tx AZ]],.fp 1 4 [[Tx AZ,Tx JF,Tx ER,Tx tA]],.fp 1 4 [[Tx tA,I 1,I 1,.fp 1 1 [[Bo false],[Bo true]]]]]) ?_ rfl rfl;refine ab func35 ?_;exact uI
def Qp:tn 37 [] [.v (.pointer none)] (I (-1)) []:=by
 refine ab func37 ?_;refine tc ?_
 exact uI
def Q9(o:fG)(a:fF):tn 36 [] [.v (.pointer none),Cp o,Ca a] (Bo false) []:=by
 refine ab func36 ?_;refine tc ?_
 exact uI
def GZ:o9 Aj:=⟨ar,ar,ar,λs hs=>by obtain rfl:=gS.1 hs;exact I5,ar⟩
def EM:o9 Ak:=⟨ar,ar,ar,λs hs=>by rcases rk.1 hs with rfl|hs;exact I5;obtain rfl:=gS.1 hs;exact I5,ar⟩
def Kf:o9 AS:=⟨ar,ar,ar,EM.all,ar⟩
def Ck:Ay lZ:=⟨ar,ar,Gb⟩
def P3:Ay AY:=⟨ar,ar,Ga⟩
def P4:Ay G7:=⟨ar,ar,Gb⟩
def P2:Ay Dj:=⟨ar,ar,Gb⟩
def Pc:Ni n8:=by
 refine⟨Ga,ar,ar,λops h=>?_⟩;obtain rfl:=gS.1 h;refine⟨ar,λo h2=>?_⟩;obtain rfl:=gS.1 h2;exact⟨Ck,ar⟩
def vn:tn 14 [] [] (Bo true) []:=by
 have hn:qs prog 34 [] [Cf Aq] (Pv Aq):=KU Aq Ga Pz;refine ab func14 ?_;refine ah Hn ?_;refine Fe [] hn (λr H' ⟨b,_,h⟩=>h ▸ rfl) rfl rfl rfl rfl rfl ?_;rintro _ _ ⟨b,rfl,rfl⟩;rw[Bg];have t1:=xB b Aj GZ lZ (an 1 0 1 0) Ck;have t2:=xB b Aj GZ lZ (an 1 0 0 0) Ck;have t3:=xB b Aj GZ AY (an 8 1 0 0) P3;have t4:=xB b Ak EM lZ (an 1 0 1 0) Ck;have t5:=xB b Ak EM G7 (an 9 0 0 6) P4;have t6:=xB b Ak EM Dj (an 10 0 0 0) P2;have t7:=xB b AS Kf lZ (an 5 0 0 0) Ck;have t8:=xB b AS Kf lZ (an 4 0 0 0) Ck;rw[P6]at t1;rw[P7]at t2;rw[P8]at t3;rw[P9]at t4;rw[Qa]at t5;rw[Qb]at t6;rw[Qc]at t7;rw[Qd]at t8;conv=>whnf
 refine ah Hn ?_;refine zn [0,1,2] (zb.kV 9 (t1) rfl ?_) rfl rfl rfl rfl rfl rfl ?_;(focus rfl);refine dd ?_
 (refine ya (dd ?_))
 refine zn [0,1,2] (zb.kV 9 (t2) rfl ?_) rfl rfl rfl rfl rfl rfl ?_;(focus rfl);refine dd ?_
 (refine yb (dd ?_))
 refine zn [0,1,2] (zb.kV 9 (t3) rfl ?_) rfl rfl rfl rfl rfl rfl ?_;(focus rfl);refine dd ?_
 (refine ya (dd ?_))
 refine zn [0,1,2] (zb.kV 9 (t4) rfl ?_) rfl rfl rfl rfl rfl rfl ?_;(focus rfl);refine dd ?_
 (refine yb (dd ?_))
 refine zn [0,1,2] (zb.kV 9 (t5) rfl ?_) rfl rfl rfl rfl rfl rfl ?_;(focus rfl);refine dd ?_
 (refine ya (dd ?_))
 refine zn [0,1,2] (zb.kV 9 (t6) rfl ?_) rfl rfl rfl rfl rfl rfl ?_;(focus rfl);refine dd ?_
 (refine ya (dd ?_))
 refine zn [0,1,2] (zb.kV 9 (t7) rfl ?_) rfl rfl rfl rfl rfl rfl ?_;(focus rfl);refine dd ?_
 (refine ya (dd ?_))
 refine zn [0,1,2] (zb.kV 9 (t8) rfl ?_) rfl rfl rfl rfl rfl rfl ?_;(focus rfl);refine dd ?_
 (refine yb (dd ?_))
 refine .inl ⟨⟨true,[0,1],[3],[0]⟩,au,uH ?_⟩;refine⟨_,λH2=>(Hn).frame rfl H2,dd ?_⟩;refine hZ ?_
 have c1:=check_sound n8 [AW 1] Pc ar;rw[Z2]at c1;have c0:=check_sound n8 [AW 0] Pc ar;rw[Z1]at c0;refine⟨_,_,(zb.kV 9 (c1) rfl ?_).frame rfl _,?_⟩;(focus rfl);refine dd ?_
 (refine ya (dd ?_))
 refine⟨_,_,(zb.kV 9 (c0) rfl ?_).frame rfl _,?_⟩;(focus rfl);refine dd ?_
 (refine yb (dd ?_))
 have z:=K1 C7 Gb (by rw[PA];decide);rw[PA]at z;refine Fe [] (Go.Ab.zb.mi (R:=λr H'=>r=.fC [.v (.pointer none),I 6]/\H'=[]) (zb.kV 9 z rfl ?_) ⟨rfl,rfl⟩) (λr H' h=>by obtain⟨_,rfl⟩:=h;rfl) rfl rfl rfl rfl rfl ?_;(focus rfl)
 rintro _ _ ⟨rfl,rfl⟩;conv=>whnf
 (repeat ((refine ya (dd ?_))))
 refine af [0,1,2] (He b AS) ?_;(repeat ((refine ya (dd ?_))))
 refine ah Qp ?_;(repeat ((refine ya (dd ?_))))
 refine⟨_,_,(zb.kV 9 (Q9 lZ (an 0 0 0 0)) rfl ?_).frame rfl _,?_⟩;(focus rfl);refine dd ?_
 (refine yb (dd ?_))
 exact uI
end Go.Lin
