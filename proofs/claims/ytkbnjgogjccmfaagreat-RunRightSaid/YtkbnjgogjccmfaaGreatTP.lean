import Derived.Sort.Grow
import Derived.Shelf.Slices.Delete
import Derived.Test.YtkbnjgogjccmfaaGreatTJ
import Derived.Test.YtkbnjgogjccmfaaGreatProg
set_option linter.all false
set_option maxRecDepth 100000
set_option maxHeartbeats 4000000
namespace Go.Ab
open Go.Sort
abbrev iJ (n:Int):List C:=[.v (.int .i64 n)]
def S6 {w:World} {b n:Nat} {d:Array Int} {os:Array Obj} {cur:Array Value} {e:TypeId} {fr:Nat × Nat} (h:w.heap[b]?= some (.cells cur e fr)):
  (grow (putRow (Value.int .i64) (Sort.ahead w n) b 0 d) os).heap[b]?= some (.cells (putCells (Value.int .i64) 0 d cur) e fr):=by
 have ux:=(gf.1 h).1;unfold Sort.grow putRow mapBlock Sort.ahead;rw [sy (aq ux),rI,dQ rfl,h]
 rfl
def JJ {w:World} {b n k:Nat} {d:Array Int} {os:Array Obj} (hk:k < w.heap.size) (hne:b≠k):
  (grow (putRow (Value.int .i64) (Sort.ahead w n) b 0 d) os).heap[k]?= w.heap[k]?:=by
 unfold Sort.grow putRow mapBlock Sort.ahead;rw [sy (aq hk),rI,dN hne]
def zb.ofRow {P:Program} {f:FuncId} {ty:TypeId} {zs zs':List Int} {full:Bool} {xs:List Value} {r:C} (hlen:zs'.length=zs.length) (hxs:∀ x ∈ xs,x.oneCell'=true)
  (hc:∀ (b cap:Nat) (w:World),Holds (Value.int .i64) w b 0 zs.toArray->b < w.heap.size->zs.length<=cap->
   Calls P f (#[.slice (some ⟨b,0,none⟩) zs.length cap]++xs.toArray) w fun e w'=>∃ v,e=.returned v∧(∀ E:Env,0 < E.n->E.β 0 []=b->(full=true->cap=zs.length)->(full=false->cap=E.κ 0 [])->L E r v)∧∃ n os,w'=grow (putRow (Value.int .i64) (Sort.ahead w n) b 0 zs'.toArray) os):
  zb P f [⟨2,ty,1,zs.map iJ,0⟩] (.sl 0 [] 1 0 zs.length full::xs.map .v) r [⟨2,ty,1,zs'.map iJ,0⟩]:=fun w E vs hh hl=>by
 have hob:([⟨2,ty,1,zs.map iJ,0⟩]:zl)[0]?= some ⟨2,ty,1,zs.map iJ,0⟩:=rfl;have hb:=hh.base.u9 0 _ [] 1 (zs.map iJ) hob (by simp [z6,vA]);obtain ⟨cur,e,h1,h2,h3⟩:=hb.u9;rw [sD] at h2;have hlen0:=hb.len;rw [dR] at hlen0;have hsize:=(gf.1 h1).1;obtain ⟨v0,hv0,hl0⟩:=hl.get (i:=0) rfl
 obtain ⟨cap,rfl,hcap,hf,hf'⟩:∃ cap,v0=.slice (some ⟨E.β 0 [],0,none⟩) zs.length cap∧zs.length<=cap∧(full=true->cap=zs.length)∧(full=false->cap=E.κ 0 []):=by
  generalize hcc:C.sl 0 [] 1 0 zs.length full=cc at hl0;cases hl0 <;> cases hcc
  rename_i cap hn hlen hf' hf;exact ⟨cap,aj,hlen,hf,fun h=>by simpa using hf' h⟩
 have hvs:vs= #[.slice (some ⟨E.β 0 [],0,none⟩) zs.length cap]++xs.toArray:=by
  apply Array.ext'
  have hll:vs.toList.length=xs.length+1:=by rw [<- hl.1];simp
  apply g9
  intro i;cases i with
  | zero=>rw [hv0];simp
  | succ i=>
   rw [rS,List.cons_append,pN];simp only [sG];cases hx:xs[i]? with
   | none=>
    rw [pK] at hx ⊢;omega
   | some x=>
    obtain ⟨y,hy,hly⟩:=hl.get (i:=i+1) (c:=.v x) (by simp [hx]);rw [hy];cases hly
    rfl
 have hcell:∀ j,j < zs.length->cur[j]?= some (.int .i64 zs[j]!):=fun j hj=>by
  obtain ⟨u,hu,hlu⟩:=h3 j 0 (.v (.int .i64 zs[j]!)) (by simp [cellAt,hj,getElem!_pos]);rw [sD,rB] at hu;rw [hu];cases hlu.1
  rfl
 have hold:Holds (Value.int .i64) w (E.β 0 []) 0 zs.toArray:=fun j hj=>by
  have hj:j < zs.length:=aq hj
  refine ⟨?_,?_⟩
  ·unfold World.cell?;rw [h1];simp only [gp];rw [hcell j hj];simp [getElem!_pos,hj]
  ·unfold World.frozen?;rw [h1];simp
 rw [hvs];refine (hc (E.β 0 []) cap w hold hsize hcap).mono ?_;rintro e' w' ⟨v,rfl,hlv,n,os,rfl⟩
 have hgb:∀ {id hops x},z6 ([⟨2,ty,1,zs'.map iJ,0⟩]:zl) id hops=some x->id=0∧hops=[]∧x=(1,zs'.map iJ):=fun {id hops x} hx=>by
  unfold z6 at hx;cases id with
  | succ id=>simp at hx
  | zero=>
   refine ⟨rfl,?_⟩;simp at hx;cases hops with
   | nil=>simp [vA] at hx;exact ⟨rfl,hx.symm⟩
   | cons p ps=>
    obtain ⟨i,k⟩:=p;simp only [vA] at hx;split at hx
    ·rename_i hc;unfold cellAt at hc;rw [dP] at hc;cases hz:zs'[i]? with
     | none=>rw [hz] at hc;simp at hc
     | some z=>
      rw [hz] at hc;simp only [dX,gz] at hc;cases k <;> simp at hc
    ·cases hx
 have hnew:=S6 (n:=n) (d:=zs'.toArray) (os:=os) h1
 have hst:∀ b o u,E.St b o=some u->b≠E.β 0 []:=fun b o u hu he=>by
  subst he;obtain ⟨_,ob,h4,h5⟩:=hh.base.sep 0 [] (1,zs.map iJ) o u (by simp [z6,vA]) hu;rw [hob] at h4;cases h4
  simp at h5
 have hno4:∀ {id ob},([⟨2,ty,1,zs'.map iJ,0⟩]:zl)[id]?= some ob->ob.kind=2∧id=0∧ob=⟨2,ty,1,zs'.map iJ,0⟩:=fun {id ob} h=>by
  cases id with
  | zero=>simp at h;subst h;exact ⟨rfl,rfl,rfl⟩
  | succ id=>simp at h
 have hty:e=ty:=by
  obtain ⟨cur2,h4⟩:=hh.base.ty 0 _ hob rfl;rw [h1] at h4;cases h4
  rfl
 refine ⟨v,E,rfl,⟨{ n:=by rw [hh.base.n];rfl,u9:=?_,inj:=?_,qs:=?_,sep:=?_,ty:=?_,fz:=?_ },{ val:=?_,u9:=?_,sep:=?_,inj:=?_,st:=?_,top:=?_,fy:=?_,wF:=?_ }⟩,hlv E (by rw [hh.base.n];exact Nat.zero_lt_one) rfl hf hf',{ le:=.refl E,os:=rfl,tape:=rfl,output:=rfl,size:=by simp,frame:=?_,jK:=fun b o u h=>.inl h,own:=?_ }⟩
 ·intro id ob hops sz rows h4 h5;obtain ⟨rfl,rfl,h6⟩:=hgb h5;cases h6
  obtain ⟨_,_,rfl⟩:=hno4 h4;refine ⟨by rw [dR,hlen];exact hlen0,fun r hr=>by obtain ⟨z,_,rfl⟩:=gG.1 hr;rfl,_,e,hnew,by simp [putCells,h2],?_⟩;intro i k c hcc;unfold cellAt at hcc;rw [dP] at hcc;cases hz:zs'[i]? with
  | none=>rw [hz] at hcc;simp at hcc
  | some z=>
   rw [hz] at hcc;simp only [dX,gz] at hcc;have hi:=(dL.1 hz).1;cases k with
   | succ k=>simp at hcc
   | zero=>
    simp at hcc;subst hcc;refine ⟨.int .i64 z,?_,.v _ rfl,rfl⟩;rw [sD,rB];simp only [putCells,Array.getElem?_mapIdx];rw [hcell i aw];simp only [dX,gA,sT,sP,gp,dQ hi,pY];have:zs'[i]=z:=by rw [dM hi] at hz;exact dZ hz
    simp [getElem!_pos,hi,this]
 ·intro id hops id' hops' x y h4 h5 _;obtain ⟨rfl,rfl,_⟩:=hgb h4;obtain ⟨rfl,rfl,_⟩:=hgb h5;exact ⟨rfl,rfl⟩
 ·intro b o u hu;obtain ⟨h4,h5⟩:=hh.base.qs b o u hu;refine ⟨?_,h5⟩;unfold World.cell? at h4 ⊢;split at h4
  ·rename_i c t z hcc;rw [JJ (gf.1 hcc).1 (hst b o u hu).symm,hcc];exact h4
  ·cases h4
 ·intro id hops x o u h4 hu;obtain ⟨rfl,rfl,_⟩:=hgb h4;exact absurd rfl (hst _ o u hu)
 ·intro id ob h4 _;obtain ⟨_,rfl,rfl⟩:=hno4 h4;exact ⟨_,by rw [<- hty];exact hnew⟩
 ·intro id ob h4;obtain ⟨_,_,rfl⟩:=hno4 h4;exact gA _
 ·intro id ob h4 hk;exact dE
 ·intro id b ob ⟨ob',_,h4,hk,_⟩ _;exact dE
 ·intro id b ⟨ob',_,h4,hk,_⟩;exact dE
 ·intro id id' b ⟨ob',_,h4,hk,_⟩;exact dE
 ·intro id b ob o u ⟨ob',_,h4,hk,_⟩;exact dE
 ·intro id ob k u h4 hk;exact dE
 ·intro id ob o t h4 hk;exact dE
 ·intro id id' b ⟨ob',_,_,h4,hk,_⟩;exact dE
 ·intro k hk hno;refine JJ hk fun he=>hno (.inl ⟨0,[],(1,zs.map iJ),by simp [z6,vA],he⟩)
 ·intro b hb;rcases hb with ⟨id,hops,x,h4,rfl⟩ | ⟨id,hb⟩
  ·obtain ⟨rfl,rfl,_⟩:=hgb h4;exact .inr (.inl ⟨0,[],(1,zs.map iJ),by simp [z6,vA],rfl⟩)
  ·exfalso
   rcases hb with ⟨ob',_,h4,hk,_⟩ | ⟨ob',_,_,h4,hk,_⟩ <;> · exact dE
end Go.Ab
namespace Go.Ab
open Go.Proofs Tryz Go.Sort Go.RowKit Go.Lib
def SY (w:World) (b k:Nat) (d:Array Int) (hH:Holds encI w b 0 d) (hk:k < d.size):
  w.drew.setCells b (0+k * 1) ((d.toList.drop (k+1)).map encI)=putRow encI (Sort.ahead w 1) b 0 (lay d k (d.toList.drop (k+1))):=by
 rw [sD,<- putRow_setCells encI (Sort.ahead w 1) b 0 _ d k aA,putRow_self encI (Sort.ahead w 1) b 0 d (holds_ahead encI w 1 b 0 d hH)]
 rfl
set_option maxRecDepth 1000000 in
def Ot (b cap k j:Nat) (hj:j=k+1) (d:Array Int) (w:World) (hH:Holds encI w b 0 d) (hcap:d.size<=cap) (hk:k < d.size):
  Calls prog 95 #[.slice (some ⟨b,0,none⟩) d.size cap,.int .i64 k,.int .i64 j] w fun e w'=>e=.returned (.slice (some ⟨b,0,none⟩) (d.size - 1) cap)∧∃ q,w'=putRow encI (Sort.ahead w q) b 0 (d.toList.take k++d.toList.drop j++[0]).toArray:=by
 have hnl:((d.toList.drop j).map encI).length=d.size - j:=aj
 have hget:∀ t u,((d.toList.drop j).map encI)[t]?= some u->w.drew.cell? ⟨b,j+t,none⟩=some u:=fun t u hu=>by
  rw [dP,pA] at hu;cases hx:d.toList[j+t]? with
  | none=>rw [hx] at hu;cases hu
  | some x=>
   rw [hx] at hu;cases hu
   have ux:j+t < d.size:=by simpa using (dL.1 hx).1
   have:=(hH (j+t) ux).1;rw [gp] at this;refine (show w.drew.cell? _=w.cell? _ from rfl).trans (this.trans ?_);rw [getElem!_pos d _ ux];rw [gL,pZ ux] at hx;rw [dZ hx]
 obtain ⟨A,hA,hsrc⟩:∃ A:Addr,(if cap=j then some (⟨b,0,none⟩:Addr) else some ⟨b,j,none⟩)=some A∧Hid (∀ t u,((d.toList.drop j).map encI)[t]?= some u->w.drew.cell? (A.add t)=some u):=by
  by_cases h:cap=j
  ·refine ⟨⟨b,0,none⟩,aH,fun t u hu=>?_⟩;have h0:((d.toList.drop j).map encI).length=0:=by rw [hnl];omega
   rw [pU.1 h0] at hu;simp at hu
  ·exact ⟨⟨b,j,none⟩,aH,fun t u hu=>by rw [Addr.add_lit];exact hget t u hu⟩
 obtain ⟨W1,hW1⟩:∃ W1,W1=w.drew.setCells b (0+k * 1) ((d.toList.drop j).map encI):=⟨_,rfl⟩;have hrow:W1=putRow encI (Sort.ahead w 1) b 0 (lay d k (d.toList.drop j)):=by subst hj;exact hW1.trans (SY w b k d hH hk)
 have hH1:Holds encI W1 b 0 (lay d k (d.toList.drop j)):=by rw [hrow];exact holds_putRow encI _ b 0 d _ (holds_ahead encI w 1 b 0 d hH) (lay_size _ _ _)
 obtain ⟨g,hg⟩:∃ g,g=k+(d.size - j):=⟨_,rfl⟩
 have hcl:∀ ty,(Builtin.clear_ #[28] ty #[.slice (some ⟨b,k+(d.size - j),none⟩) (d.size - (k+(d.size - j))) (cap - (k+(d.size - j)))]).run prog W1=.ok (.tuple #[]) (W1.setCells b (k+(d.size - j)) (List.replicate (d.size - (k+(d.size - j))) (encI 0))):=fun ty=>
  Lib.run_clear_slice W1 _ _ ty _ underlying28 zeroValue3 rfl rfl b _ _ _ aw (fun t ht=>by have:=(hH1 (k+(d.size - j)+t) (by rw [lay_size];omega)).1;rw [gp] at this;rw [this];rfl) (fun t ht=>by have:=(hH1 (k+(d.size - j)+t) (by rw [lay_size];omega)).2;rw [gp] at this;exact this)
 have s1:Hid (((d.toList.drop j).map encI).length=(d.size - j) * 1):=by rw [sD];exact hnl
 have s2:Hid (∀ u ∈ (d.toList.drop j).map encI,u.oneCell'=true):=fun u hu=>by obtain ⟨x,_,rfl⟩:=gG.1 hu;rfl
 have s3:Hid (∀ t,t < ((d.toList.drop j).map encI).length->(w.drew.cell? ⟨b,0+k * 1+t,none⟩).isSome=true∧w.drew.frozen? ⟨b,0+k * 1+t,none⟩=false):=fun t ht=>by
  rw [hnl] at ht;rw [sD,rp];exact ⟨by show (w.cell? _).isSome=true;rw [(hH (k+t) aw).1];rfl,(hH (k+t) aw).2⟩
 have hend:Aside (W1.setCells b (k+(d.size - j)) (List.replicate (d.size - (k+(d.size - j))) (encI 0))=putRow encI (Sort.ahead w 1) b 0 (d.toList.take k++d.toList.drop j++[0]).toArray):=by
  show _=_;rw [hrow,show d.size - (k+(d.size - j))=1 from aw,show List.replicate 1 (encI 0)=(List.replicate 1 (0:Int)).map encI from rfl,show k+(d.size - j)=0+(k+(d.size - j)) from (gp _).symm,putRow_setCells encI _ b 0 _ _ _ (by rw [lay_size];simp;omega)];have:=delete_arr d k j 0 aw aw;rw [show j - k=1 from aw] at this;rw [this]
  rfl
 have hW:Hid (W1=w.drew.setCells b (0+k * 1) ((d.toList.drop j).map encI)):=hW1;have hic:k<=cap:=aw
 have hjc:j<=cap:=aw
 have hjs:j<=d.size:=aw
 have hkj:k<=j:=aw
 have hne:k≠j:=aw
 obtain ⟨i0,hi0,hz1⟩:∃ i0,prog.info? 3=some i0∧i0.size=1:=⟨_,rfl,rfl⟩;have mixed:prog.follows .mixedOrders=true:=au
 have hjj:Hid (d.size - 1=k+(d.size - j)):=by show _=_;omega
 clear hW1 hrow hH1 hH hget hnl hg hj
 generalize (d.toList.drop j).map encI=news at *
 go_enter func95,Tryz.ntmps95
 go_wp2_with fail
 go_region_law_o (refine step_append_room rfl (.tmp 22) (.tmp 25) 28 rfl 3 i0 1 underlying28 hi0 hz1 b 0 k cap (by simp [Act.eval,Act.put]) A (d.size - j) (cap - j) news (by simp [Act.eval,Act.put]) s1.out hsrc.out s2.out aw s3.out ?_;rw [<- hW.out])
 go_wp2
 go_ret
 exact ⟨by rw [hjj.out];rfl,1,hend.out⟩
end Go.Ab
namespace Go.Pla
open Go.Ab Go.Proofs Tryz Go.Hy
def fY:mi:=⟨0,0,0,0,0,0⟩
def we (f a:ef):Bool:=decide (f.kind=6) && (decide (a.kind=1) && (decide (f.version=a.version) && (decide (f.zi=a.zi) && (decide (f.end_=a.end_) && (decide (f.slot=a.slot) && decide (f.listen=a.listen))))))
def fq (given:List ef) (f:ef) (n:Nat):Bool:=match given[n]? with | some a=>we f a | none=>false
def nz (given:List ef) (out:List Nat) (i:Nat):List Nat:=match given[i]? with
 | some a=>if a.kind=1 then out++[i] else match out.findIdx? (fq given a) with
  | some k=>out.eraseIdx k
  | none=>out
 | none=>out
def je (given:List ef):Nat->List Nat
 | 0=>[]
 | k+1=>nz given (je given k) k
def jB (given:List ef):List Nat:=je given given.length
def kb (given:List ef):∀ k,k<=given.length->∀ n ∈ je given k,n < k
 | 0,_,n,h=>by simp [je] at h
 | k+1,hk,n,h=>by
  have ih:=kb given k aw;unfold je nz at h;split at h
  ·split at h
   ·rcases gH.1 h with h | h
    ·have:=ih n h;omega
    ·simp at h;omega
   ·split at h
    ·have:=ih n (List.mem_of_mem_eraseIdx h);omega
    ·have:=ih n h;omega
  ·have:=ih n h;omega
def BG (given:List ef):∀ k,(je given k).length<=k
 | 0=>by simp [je]
 | k+1=>by
  have ih:=BG given k;unfold je nz;split
  ·split
   ·simp;omega
   ·split
    ·have:=List.length_eraseIdx_le (je given k) ‹Nat›;omega
    ·omega
  ·omega
abbrev rN (n:Nat):List C:=[I (n:Int)]
def Gm (a:ef):ef:={ a with kind:=1,n:=0,counts:=fY }
def Ph (given:List ef) (out:List Nat) (a:ef) (n:Nat) (hn:n < given.length) (hlen:given.length < 4000000000000000000) (ha:a.kind=6):
  tn 94 [⟨1,70,1,[[lA given]],0⟩,⟨2,3,1,out.map rN,0⟩,⟨1,46,13,[xz (Gm a)],0⟩] ([I n]++[.ref 0 [] 1 0 0,.ref 2 [] 13 0 0]) (Bo (fq given a n)) [⟨1,70,1,[[lA given]],0⟩,⟨2,3,1,out.map rN,0⟩,⟨1,46,13,[xz (Gm a)],0⟩]:=by
 have hb:given[n]?= some given[n]:=dM hn;generalize given[n]=b at hb;have gb:(given.map xz)[n]?= some (xz b):=by rw [dP,hb];rfl
 have e:fq given a n=we a b:=by unfold fq;rw [hb]
 rw [e];refine zb.zU (fn:=f94) func94 rfl (uH ?_);refine ⟨aw,_,gb,dd ?_⟩;refine ⟨au,dd ?_⟩;refine ⟨fun h=>?_,fun h=>?_⟩ <;> refine dd ?_
 ·exact ⟨.inl rfl,⟨(.za::.za::.za::.za::Bo true::tZ ([.za,.za,.za])),_⟩,cE 3,rfl,uN (h.symm.trans b8)⟩
 ·exact ⟨.inl rfl,⟨(.za::.za::.za::.za::Bo false::tZ ([.za,.za,.za])),_⟩,cE 3,rfl,uN (h.symm.trans b8)⟩
def Py {Y X:Ob} {f:FuncId} {caps:List C} {l:List Nat} {full:Bool} (p:Nat->Bool) (hcb:qp prog f=true) (hp:∀ r ∈ l,tn f [Y,⟨2,3,1,l.map rN,0⟩,X] ([I r]++caps) (Bo (p r)) [Y,⟨2,3,1,l.map rN,0⟩,X]) (hl:l.length < 4611686018427387904):
  tn 52 [Y,⟨2,3,1,l.map rN,0⟩,X] [.sl 1 [] 1 0 l.length full,.fn f [] caps] (I (match l.findIdx? p with | some i=>(i:Int) | none=> -1)) [Y,⟨2,3,1,l.map rN,0⟩,X]:=by
 refine zb.zU (fn:=f52) func52 rfl (uH ?_)
 refine zZ.inv (fun n t1 H1=>∃ k,k+n=l.length∧H1=[Y,⟨2,3,1,l.map rN,0⟩,X]∧(∀ j,j < k->∀ r,l[j]?= some r->p r=false)∧
   t1=(.sl 1 [] 1 0 l.length full::.fn f [] caps::.za::.za::I 0::.za::.za::I l.length::I k::tZ ([.za,.za]))) l.length ?_ ?_
 ·exact cT
 rintro n _ _ ⟨k,hk,rfl,hno,rfl⟩;conv=>whnf
 refine ⟨fun h=>?_,fun h=>?_⟩
 ·conv=>whnf
  have ux:k < l.length:=aq h
  have hq:l[k]?= some l[k]:=dM ux;have gq:(l.map rN)[k]?= some (rN l[k]):=by rw [dP,hq];rfl
  refine ⟨aw,ux,dd ?_⟩;refine ⟨_,by rw [gp];exact gq,dd ?_⟩;refine ⟨aj,dd ?_⟩;rw [hcb];refine ⟨_,_,hp _ (gQ ux),dd ?_⟩;refine ⟨fun h2=>?_,fun h2=>?_⟩
  ·refine dd ?_;refine .inr ⟨aj,uH ?_⟩
   have:l.findIdx? p=some k:=by
    rw [gy];refine ⟨ux,h2,fun j hj=>?_⟩;simp [hno j hj _ (dM aw)]
   rw [this];exact uJ
  ·refine dd ?_;refine .inl ⟨rfl,n - 1,_,_,aw,zo.mask [0,1,4,7,8] _ _,k+1,aw,rfl,?_,?_⟩
   ·intro j hj r hr;by_cases hjk:j=k
    ·subst hjk;rw [hq] at hr;cases hr
     exact h2
    ·exact hno j aw r hr
   ·rw [zu aw];rfl
 ·refine dd ?_;refine .inr ⟨aj,uH ?_⟩
  have:l.findIdx? p=none:=by
   rw [gC];intro x hx;obtain ⟨j,hj⟩:=gm.1 hx;have hjl:=(dL.1 hj).1;have:¬k < l.length:=aq h
   exact hno j aw x hj
  rw [this];exact uJ
def UP (l:List Nat):l.map rN=(l.map fun (n:Nat)=>(n:Int)).map iJ:=by simp [iJ,rN]
def R3 (l:List Nat) (k:Nat) (hk:k < l.length):
  tn 95 [⟨2,3,1,l.map rN,0⟩] [.sl 0 [] 1 0 l.length false,I k,I ((k+1:Nat):Int)] (.sl 0 [] 1 0 (l.length - 1) false) [⟨2,3,1,(l.eraseIdx k).map rN,0⟩]:=by
 have e2:((l.map fun (n:Nat)=>(n:Int)).toArray.toList.take k++(l.map fun (n:Nat)=>(n:Int)).toArray.toList.drop (k+1)++[0])=((l.eraseIdx k++[0]).map fun (n:Nat)=>(n:Int)):=by
  rw [List.eraseIdx_eq_take_drop_succ];simp [sS,List.map_drop]
 have h:=zb.ofRow (P:=prog) (f:=95) (ty:=3) (full:=false) (zs:=l.map fun (n:Nat)=>(n:Int)) (zs':=(l.eraseIdx k++[0]).map fun (n:Nat)=>(n:Int)) (xs:=[.int .i64 k,.int .i64 ((k+1:Nat):Int)]) (r:=.sl 0 [] 1 0 (l.length - 1) false)
  (by simp [List.length_eraseIdx,hk];omega) (by simp [Value.oneCell']) fun b cap w hH hb hcap=>by
  refine (Ot b cap k (k+1) rfl (l.map fun (n:Nat)=>(n:Int)).toArray w hH (aq hcap) (aq hk)).mono ?_;rintro e w' ⟨rfl,q,rfl⟩;refine ⟨_,rfl,fun E hE hb _ hf=>?_,q, #[],?_⟩
  ·have hcap:l.length<=cap:=by simpa using hcap
   have:=L.sl (E:=E) 0 [] 1 0 (l.length - 1) false cap hE aw (fun h=>by cases h) (fun _=>by rw [gp];exact hf rfl);rw [hb] at this;simpa using this
  ·rw [e2,Go.Sort.grow_empty]
 rw [dR,<- UP] at h;refine h.mL (fun B _ _=>?_) (dW _);have e3:((l.eraseIdx k++[0]).map fun (n:Nat)=>(n:Int)).map iJ=(l.eraseIdx k).map rN++[rN 0]:=by simp [iJ,rN]
 rw [e3];refine zo.shrink (s:=⟨[_],[⟨2,3,1,(l.eraseIdx k).map rN++[rN 0],0⟩]⟩) 0 (rows':=[rN 0]) rfl fun r hr c hc=>?_
 have:∃ n,r=rN n:=by
  rcases gH.1 hr with h | h
  ·obtain ⟨n,_,rfl⟩:=gG.1 h;exact ⟨n,rfl⟩
  ·exact ⟨0,gI.1 h⟩
 obtain ⟨n,rfl⟩:=this;simp at hc;subst hc
 rfl
def PW {Y X:Ob} {f:FuncId} {caps:List C}:
  tn 52 [Y,X] [.uv 1 0 [],.fn f [] caps] (I (-1)) [Y,X]:=by
 refine zb.zU (fn:=f52) func52 rfl (uH ?_);refine od.CX 1 (LoopN.step ?_);conv=>whnf
 refine ⟨fun h=>absurd h ar,fun _=>dd ?_⟩;refine .inr ⟨aj,uH ?_⟩;exact uJ
def vD (given:List ef) (k:Nat) (a:ef) (ha:given[k]?= some a):je given (k+1)=if a.kind=1 then je given k++[k] else match (je given k).findIdx? (fq given a) with
  | some j=>(je given k).eraseIdx j
  | none=>je given k:=by
 show nz given (je given k) k=_;unfold nz;rw [ha]
def SJ {given:List ef} {a:ef} (h:a.kind≠6):fq given a=fun _=>false:=by
 funext n
 unfold fq we;cases given[n]? <;> simp [h]
def I2 (given:List ef) (k:Nat) (a:ef) (ha:given[k]?= some a) (h1:a.kind≠1) (h6:a.kind≠6):je given (k+1)=je given k:=by
 rw [vD given k a ha,dN h1,SJ h6];have:(je given k).findIdx? (fun _=>false)=none:=by rw [gC];simp
 rw [this]
def LO (l:List Nat):∀ r ∈ l.map rN,∀ c ∈ r,zy c=true:=fun r hr c hc=>by
 obtain ⟨n,_,rfl⟩:=gG.1 hr;simp at hc;subst hc
 rfl
def UO (l:List Nat):(l.map rN).all (·.all zy)=true:=by
 simp only [dV];exact LO l
def Q0 (given:List ef) (hlen:given.length < 1000000000000):tn 70 [] [lA given] (lI ((jB given).map fun (n:Nat)=>(n:Int))) []:=by
 have m1:(given.map xz).length=given.length:=dR ..;refine ab func70 ?_;rw [m1];refine zZ.inv (fun n t1 H1=>∃ k,k+n=given.length∧((t1=(.za::.ref 0 [] 1 0 0::.uv 1 0 []::.uv 1 0 []::.za::.za::.za::(lA given)::I given.length::I (k:Nat)::tZ (tZ (tZ ([.za,.za,.za,.za,.za,.za]))))∧H1=[⟨1,70,1,[[lA given]],0⟩]∧je given k=[])∨(t1=(.za::.ref 0 [] 1 0 0::.uv 1 0 []::.sl 1 [] 1 0 (je given (k)).length false::.za::.za::.za::(lA given)::I given.length::I (k:Nat)::tZ (tZ (tZ ([.za,.za,.za,.za,.za,.za]))))∧H1=[⟨1,70,1,[[lA given]],0⟩,⟨2,3,1,(je given k).map rN,0⟩]))) given.length ?_ ?_
 ·exact ⟨_,_,cC,0,aj,.inl ⟨rfl,rfl,rfl⟩⟩
 rintro n _ _ ⟨k,hk,⟨rfl,rfl,hout⟩ | ⟨rfl,rfl⟩⟩
 ·conv=>whnf
  refine ⟨fun h=>?_,fun h=>?_⟩
  ·refine dd ?_;have ux:k < given.length:=by simpa using h
   have hq:given[k]?= some given[k]:=dM ux;generalize given[k]=a at hq;have gq:(given.map xz)[k]?= some (xz a):=by rw [dP,hq];rfl
   refine ⟨aw,_,gq,dd ?_⟩;refine ⟨fun h1=>?_,fun h1=>?_⟩
   ·refine dd ?_;have hk1:a.kind=1:=by simpa using h1
    refine .inr (dd ?_);refine ⟨.inl rfl,ar,ar,dd ?_⟩;rw [zu aw];have e:je given (k+1)=[k]:=by rw [vD given k a hq,dQ hk1,hout];rfl
    refine .inl ⟨rfl,n - 1,_,_,aw,zo.u5 [0,2] [1,2,3,7,8,9] _ _ rfl rfl rfl rfl,k+1,aw,.inr ⟨?_,?_⟩⟩
    ·rw [e];rfl
    ·rw [e];rfl
   ·refine dd ?_;refine ⟨fun h6=>?_,fun h6=>?_⟩
    ·refine dd ?_;have hk6:a.kind=6:=by simpa using h6
     refine ⟨_,_,PW,dd ?_⟩;refine tc ?_
     rw [zu aw];have e:je given (k+1)=[]:=by rw [vD given k a hq,dN aw,hout];rfl
     exact .inl ⟨rfl,n - 1,_,_,aw,zo.u5 [0] [1,2,3,7,8,9] _ _ rfl rfl rfl rfl,k+1,aw,.inl ⟨rfl,rfl,e⟩⟩
    ·refine dd ?_;have e:je given (k+1)=[]:=by rw [I2 given k a hq tG (aq h6),hout]
     rw [zu aw];exact .inl ⟨rfl,n - 1,_,_,aw,zo.u5 [0] [1,2,3,7,8,9] _ _ rfl rfl rfl rfl,k+1,aw,.inl ⟨rfl,rfl,e⟩⟩
  ·refine dd ?_;refine .inr ⟨aj,uH ?_⟩
   have ek:k=given.length:=by
     have:¬k < given.length:=aq h
     omega
   have e:jB given=[]:=by unfold jB;rw [<- ek];exact hout
   rw [e];exact dj
 ·conv=>whnf
  refine ⟨fun h=>?_,fun h=>?_⟩
  ·refine dd ?_;have ux:k < given.length:=by simpa using h
   have hq:given[k]?= some given[k]:=dM ux;generalize given[k]=a at hq;have gq:(given.map xz)[k]?= some (xz a):=by rw [dP,hq];rfl
   refine ⟨aw,_,gq,dd ?_⟩;refine ⟨fun h1=>?_,fun h1=>?_⟩
   ·refine dd ?_;have hk1:a.kind=1:=by simpa using h1
    have hle:=BG given k;refine ⟨aj,UO _,ay,bc,dd ?_⟩;have e:je given (k+1)=je given k++[k]:=by rw [vD given k a hq,dQ hk1]
    rw [zu aw];refine .inl ⟨rfl,n - 1,_,_,aw,zo.u5 [0,3] [1,2,3,7,8,9] _ _ rfl rfl rfl rfl,k+1,aw,.inr ⟨?_,?_⟩⟩
    ·rw [e,gR];rfl
    ·rw [e,pB];rfl
   ·refine dd ?_;refine ⟨fun h6=>?_,fun h6=>?_⟩
    ·refine dd ?_;have hk6:a.kind=6:=by simpa using h6
     refine ⟨_,_,Py (fq given a) rfl (fun r hr=>Ph given (je given k) a r (by have:=kb given k aw r hr;omega) aw hk6) (by have:=BG given k;omega),dd ?_⟩;cases hf:(je given k).findIdx? (fq given a) with
     | none=>
      refine dd ?_;refine ⟨fun h=>absurd h ar,fun _=>dd ?_⟩;have e:je given (k+1)=je given k:=by rw [vD given k a hq,dN aw,hf]
      rw [zu aw];refine .inl ⟨rfl,n - 1,_,_,aw,zo.u5 [0,1] [1,2,3,7,8,9] _ _ rfl rfl rfl rfl,k+1,aw,.inr ⟨?_,?_⟩⟩
      ·rw [e];rfl
      ·rw [e];rfl
     | some j=>
      obtain ⟨hj1,_,_⟩:=gy.1 hf;have hle:=BG given k;refine dd ?_;refine ⟨fun _=>dd ?_,fun h=>absurd h aj⟩;rw [zu aw];refine af [1] (R3 (je given k) j hj1) ?_;have e:je given (k+1)=(je given k).eraseIdx j:=by rw [vD given k a hq,dN aw,hf]
      have el:((je given k).eraseIdx j).length=(je given k).length - 1:=by rw [List.length_eraseIdx,dQ hj1]
      rw [zu aw];refine .inl ⟨rfl,n - 1,_,_,aw,zo.u5 [0,1] [1,2,3,7,8,9] _ _ rfl rfl rfl rfl,k+1,aw,.inr ⟨?_,?_⟩⟩
      ·rw [e,el];rfl
      ·rw [e];rfl
    ·refine dd ?_;have e:je given (k+1)=je given k:=I2 given k a hq tG (aq h6);rw [zu aw];refine .inl ⟨rfl,n - 1,_,_,aw,zo.u5 [0,1] [1,2,3,7,8,9] _ _ rfl rfl rfl rfl,k+1,aw,.inr ⟨?_,?_⟩⟩
     ·rw [e];rfl
     ·rw [e];rfl
  ·refine dd ?_;refine .inr ⟨aj,uH ?_⟩
   have ek:k=given.length:=by
     have:¬k < given.length:=aq h
     omega
   have e:jB given=je given k:=by unfold jB;rw [<- ek]
   rw [e];refine ⟨.inl rfl,_,zo.F6 2 rfl rfl aj (LO _),?_⟩;refine (show _=some (C.uv 0 1 ((je given k).map rN)) from rfl).trans ?_;simp [rN,Hy.encI,Function.comp_def]
end Go.Pla
