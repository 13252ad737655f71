import Derived.Sort.Grow
import Derived.Shelf.Slices.Delete
import Derived.Test.YtllehbdigpdinaaGreatSJ
import Derived.Test.YtllehbdigpdinaaGreatProg
set_option linter.all false
set_option maxRecDepth 100000
set_option maxHeartbeats 4000000
namespace Go.Ab
open Go.Sort
abbrev mn(n:Int):List C:=[.v (.int .i64 n)]
def WY{w:World}{b n:Nat}{d:Array Int}{os:Array Obj}{cur:Array Value}{e:TypeId}{fr:Nat×Nat}(h:w.heap[b]?=some (.cells cur e fr)):
  (grow (putRow (Value.int .i64) (Sort.ahead w n) b 0 d) os).heap[b]?=some (.cells (putCells (Value.int .i64) 0 d cur) e fr):=by
 have eU:=(gL.1 h).1;unfold Sort.grow putRow mapBlock Sort.ahead;rw[tz (aq eU),sB,gk O,h]
 rfl
def Mx{w:World}{b n k:Nat}{d:Array Int}{os:Array Obj}(hk:k<w.heap.size)(hne:b≠k):
  (grow (putRow (Value.int .i64) (Sort.ahead w n) b 0 d) os).heap[k]?=w.heap[k]?:=by
 unfold Sort.grow putRow mapBlock Sort.ahead;rw[tz (aq hk),sB,gf hne]
def zb.ofRow{P:Program}{f:FuncId}{ty:TypeId}{zs zs':List Int}{full:Bool}{xs:List Value}{r:C}(hlen:zs'.length=zs.length)(hxs:∀x∈xs,x.oneCell'=true)
 (hc:∀(b cap:Nat) (w:World),Holds (Value.int .i64) w b 0 zs.toArray->b<w.heap.size->zs.length<=cap->
   Calls P f (#[.slice (some ⟨b,0,none⟩) zs.length cap]++xs.toArray) w λe w'=>∃v,e=.returned v/\(∀E:Env,0<E.n->E.β 0 []=b->(full=true->cap=zs.length)->(full=false->cap=E.κ 0 [])->L E r v)/\∃n os,w'=grow (putRow (Value.int .i64) (Sort.ahead w n) b 0 zs'.toArray) os):
  zb P f [⟨2,ty,1,zs.map mn,0⟩] (.sl 0 [] 1 0 zs.length full::xs.map .v) r [⟨2,ty,1,zs'.map mn,0⟩]:=λw E vs hh hl=>by
 have hob:([⟨2,ty,1,zs.map mn,0⟩]:zl)[0]?=some ⟨2,ty,1,zs.map mn,0⟩:=rfl;have hb:=hh.base.fj 0 _ [] 1 (zs.map mn) hob (by simp[z7,vY]);obtain⟨cur,e,h1,h2,h3⟩:=hb.fj;rw[ua]at h2;have hlen0:=hb.len;rw[gp]at hlen0;have hsize:=(gL.1 h1).1;obtain⟨v0,hv0,hl0⟩:=hl.get (i:=0) O
 obtain⟨cap,rfl,hcap,hf,hf'⟩:∃cap,v0=.slice (some ⟨E.β 0 [],0,none⟩) zs.length cap/\zs.length<=cap/\(full=true->cap=zs.length)/\(full=false->cap=E.κ 0 []):=by
  generalize hcc:C.sl 0 [] 1 0 zs.length full=cc at hl0;cases hl0 <;> cases hcc
  rename_i cap hn hlen hf' hf;exact⟨cap,aj,hlen,hf,λh=>by simpa using hf' h⟩
 have hvs:vs= #[.slice (some ⟨E.β 0 [],0,none⟩) zs.length cap]++xs.toArray:=by
  apply Array.ext'
  have hll:vs.toList.length=xs.length+1:=by rw[<-hl.1];simp
  apply pI
  intro i;cases i with
  |zero=>rw[hv0];simp
  |succ i=>
   rw[sK,List.cons_append,rD];simp only[List.nil_append];cases hx:xs[i]? with
   |none=>
    rw[rh]at hx ⊢;omega
   |some x=>
    obtain⟨y,hy,hly⟩:=hl.get (i:=i+1) (c:=.v x) (by simp[hx]);rw[hy];cases hly
    rfl
 have hcell:∀j,j<zs.length->cur[j]?=some (.int .i64 zs[j]!):=λj hj=>by
  obtain⟨u,hu,hlu⟩:=h3 j 0 (.v (.int .i64 zs[j]!)) (by simp[cellAt,hj,getElem!_pos]);rw[ua,r6]at hu;rw[hu];cases hlu.1
  rfl
 have hold:Holds (Value.int .i64) w (E.β 0 []) 0 zs.toArray:=λj hj=>by
  have hj:j<zs.length:=aq hj
  refine⟨?_,?_⟩
  ·unfold World.cell?;rw[h1];simp only[gI];rw[hcell j hj];simp[getElem!_pos,hj]
  ·unfold World.frozen?;rw[h1];simp
 rw[hvs];refine(hc (E.β 0 []) cap w hold hsize hcap).mono ?_;rintro e' w' ⟨v,rfl,hlv,n,os,rfl⟩
 have hgb:∀{id hops x},z7 ([⟨2,ty,1,zs'.map mn,0⟩]:zl) id hops=some x->id=0/\hops=[]/\x=(1,zs'.map mn):=λ{id hops x} hx=>by
  unfold z7 at hx;cases id with
  |succ id=>simp at hx
  |zero=>
   refine⟨rfl,?_⟩;simp at hx;cases hops with
   |nil=>simp[vY]at hx;exact⟨rfl,hx.symm⟩
   |cons p ps=>
    obtain⟨i,k⟩:=p;simp only[vY]at hx;split at hx
    ·rename_i hc;unfold cellAt at hc;rw[gj]at hc;cases hz:zs'[i]? with
     |none=>rw[hz]at hc;simp at hc
     |some z=>
      rw[hz]at hc;simp only[gF,gX]at hc;cases k <;> simp at hc
    ·cases hx
 have hnew:=WY (n:=n) (d:=zs'.toArray) (os:=os) h1
 have hst:∀b o u,E.St b o=some u->b≠E.β 0 []:=λb o u hu he=>by
  subst he;obtain⟨_,ob,h4,h5⟩:=hh.base.sep 0 [] (1,zs.map mn) o u (by simp[z7,vY]) hu;rw[hob]at h4;cases h4
  simp at h5
 have hno4:∀{id ob},([⟨2,ty,1,zs'.map mn,0⟩]:zl)[id]?=some ob->ob.kind=2/\id=0/\ob=⟨2,ty,1,zs'.map mn,0⟩:=λ{id ob} h=>by
  cases id with
  |zero=>simp at h;subst h;exact⟨rfl,rfl,rfl⟩
  |succ id=>simp at h
 have hty:e=ty:=by
  obtain⟨cur2,h4⟩:=hh.base.ty 0 _ hob O;rw[h1]at h4;cases h4
  rfl
 refine⟨v,E,rfl,⟨{n:=by rw[hh.base.n];rfl,fj:=?_,inj:=?_,qs:=?_,sep:=?_,ty:=?_,fz:=?_},{val:=?_,fj:=?_,sep:=?_,inj:=?_,st:=?_,top:=?_,iw:=?_,iO:=?_}⟩,hlv E (by rw[hh.base.n];exact Nat.zero_lt_one) O hf hf',{le:=.refl E,os:=rfl,tape:=rfl,output:=rfl,size:=by simp,frame:=?_,jO:=λb o u h=>.inl h,own:=?_}⟩
 ·intro id ob hops sz rows h4 h5;obtain⟨rfl,rfl,h6⟩:=hgb h5;cases h6
  obtain⟨_,_,rfl⟩:=hno4 h4;refine⟨by rw[gp,hlen];exact hlen0,λr hr=>by obtain⟨z,_,rfl⟩:=gZ.1 hr;rfl,_,e,hnew,by simp[putCells,h2],?_⟩;intro i k c hcc;unfold cellAt at hcc;rw[gj]at hcc;cases hz:zs'[i]? with
  |none=>rw[hz]at hcc;simp at hcc
  |some z=>
   rw[hz]at hcc;simp only[gF,gX]at hcc;have hi:=(dY.1 hz).1;cases k with
   |succ k=>simp at hcc
   |zero=>
    simp at hcc;subst hcc;refine⟨.int .i64 z,?_,.v _ O,rfl⟩;rw[ua,r6];simp only[putCells,Array.getElem?_mapIdx];rw[hcell i aw];simp only[gF,gY,uv,um,gI,gk hi,rM];have:zs'[i]=z:=by rw[dZ hi]at hz;exact gm hz
    simp[getElem!_pos,hi,this]
 ·intro id hops id' hops' x y h4 h5 _;obtain⟨rfl,rfl,_⟩:=hgb h4;obtain⟨rfl,rfl,_⟩:=hgb h5;exact⟨rfl,rfl⟩
 ·intro b o u hu;obtain⟨h4,h5⟩:=hh.base.qs b o u hu;refine⟨?_,h5⟩;unfold World.cell? at h4 ⊢;split at h4
  ·rename_i c t z hcc;rw[Mx (gL.1 hcc).1 (hst b o u hu).symm,hcc];exact h4
  ·cases h4
 ·intro id hops x o u h4 hu;obtain⟨rfl,rfl,_⟩:=hgb h4;exact absurd O (hst _ o u hu)
 ·intro id ob h4 _;obtain⟨_,rfl,rfl⟩:=hno4 h4;exact⟨_,by rw[<-hty];exact hnew⟩
 ·intro id ob h4;obtain⟨_,_,rfl⟩:=hno4 h4;exact gY _
 ·intro id ob h4 hk;exact dR
 ·intro id b ob ⟨ob',_,h4,hk,_⟩ _;exact dR
 ·intro id b ⟨ob',_,h4,hk,_⟩;exact dR
 ·intro id id' b ⟨ob',_,h4,hk,_⟩;exact dR
 ·intro id b ob o u ⟨ob',_,h4,hk,_⟩;exact dR
 ·intro id ob k u h4 hk;exact dR
 ·intro id ob o t h4 hk;exact dR
 ·intro id id' b ⟨ob',_,_,h4,hk,_⟩;exact dR
 ·intro k hk hno;refine Mx hk λhe=>hno (.inl ⟨0,[],(1,zs.map mn),by simp[z7,vY],he⟩)
 ·intro b hb;rcases hb with⟨id,hops,x,h4,rfl⟩|⟨id,hb⟩
  ·obtain⟨rfl,rfl,_⟩:=hgb h4;exact .inr (.inl ⟨0,[],(1,zs.map mn),by simp[z7,vY],rfl⟩)
  ·exfalso
   rcases hb with⟨ob',_,h4,hk,_⟩|⟨ob',_,_,h4,hk,_⟩ <;> · exact dR
end Go.Ab
namespace Go.Ab
open Go.Proofs Tryz Go.Sort Go.RowKit Go.Lib
def Xs(w:World)(b k:Nat)(d:Array Int)(hH:Holds encI w b 0 d)(hk:k<d.size):
  w.drew.setCells b (0+k*1) ((d.toList.drop (k+1)).map encI)=putRow encI (Sort.ahead w 1) b 0 (lay d k (d.toList.drop (k+1))):=by
 rw[ua,<-putRow_setCells encI (Sort.ahead w 1) b 0 _ d k aA,putRow_self encI (Sort.ahead w 1) b 0 d (holds_ahead encI w 1 b 0 d hH)]
 rfl
set_option maxRecDepth 1000000 in
def RX(b cap k j:Nat)(hj:j=k+1)(d:Array Int)(w:World)(hH:Holds encI w b 0 d)(hcap:d.size<=cap)(hk:k<d.size):
  Calls prog 61 #[.slice (some ⟨b,0,none⟩) d.size cap,.int .i64 k,.int .i64 j] w λe w'=>e=.returned (.slice (some ⟨b,0,none⟩) (d.size-1) cap)/\∃q,w'=putRow encI (Sort.ahead w q) b 0 (d.toList.take k++d.toList.drop j++[0]).toArray:=by
 have hnl:((d.toList.drop j).map encI).length=d.size-j:=aj
 have hget:∀t u,((d.toList.drop j).map encI)[t]?=some u->w.drew.cell? ⟨b,j+t,none⟩=some u:=λt u hu=>by
  rw[gj,pX]at hu;cases hx:d.toList[j+t]? with
  |none=>rw[hx]at hu;cases hu
  |some x=>
   rw[hx]at hu;cases hu
   have eU:j+t<d.size:=by simpa using (dY.1 hx).1
   have:=(hH (j+t) eU).1;rw[gI]at this;refine(show w.drew.cell? _=w.cell? _ from O).trans (this.trans ?_);rw[getElem!_pos d _ eU];rw[pa,rO eU]at hx;rw[gm hx]
 obtain⟨A,hA,hsrc⟩:∃A:Addr,(if cap=j then some (⟨b,0,none⟩:Addr) else some ⟨b,j,none⟩)=some A/\Hid (∀t u,((d.toList.drop j).map encI)[t]?=some u->w.drew.cell? (A.add t)=some u):=by
  by_cases h:cap=j
  ·refine⟨⟨b,0,none⟩,aI,λt u hu=>?_⟩;have h0:((d.toList.drop j).map encI).length=0:=by rw[hnl];omega
   rw[rB.1 h0]at hu;simp at hu
  ·exact⟨⟨b,j,none⟩,aI,λt u hu=>by rw[Addr.add_lit];exact hget t u hu⟩
 obtain⟨W1,hW1⟩:∃W1,W1=w.drew.setCells b (0+k*1) ((d.toList.drop j).map encI):=⟨_,rfl⟩;have hrow:W1=putRow encI (Sort.ahead w 1) b 0 (lay d k (d.toList.drop j)):=by subst hj;exact hW1.trans (Xs w b k d hH hk)
 have hH1:Holds encI W1 b 0 (lay d k (d.toList.drop j)):=by rw[hrow];exact holds_putRow encI _ b 0 d _ (holds_ahead encI w 1 b 0 d hH) (lay_size _ _ _)
 obtain⟨g,hg⟩:∃g,g=k+(d.size-j):=⟨_,rfl⟩
 have hcl:∀ty,(Builtin.clear_ #[28] ty #[.slice (some ⟨b,k+(d.size-j),none⟩) (d.size-(k+(d.size-j))) (cap-(k+(d.size-j)))]).run prog W1=.ok (.tuple #[]) (W1.setCells b (k+(d.size-j)) (List.replicate (d.size-(k+(d.size-j))) (encI 0))):=λty=>
  Lib.run_clear_slice W1 _ _ ty _ underlying28 zeroValue3 O O b _ _ _ aw (λt ht=>by have:=(hH1 (k+(d.size-j)+t) (by rw[lay_size];omega)).1;rw[gI]at this;rw[this];rfl) (λt ht=>by have:=(hH1 (k+(d.size-j)+t) (by rw[lay_size];omega)).2;rw[gI]at this;exact this)
 have s1:Hid (((d.toList.drop j).map encI).length=(d.size-j)*1):=by rw[ua];exact hnl
 have s2:Hid (∀u∈(d.toList.drop j).map encI,u.oneCell'=true):=λu hu=>by obtain⟨x,_,rfl⟩:=gZ.1 hu;rfl
 have s3:Hid (∀t,t<((d.toList.drop j).map encI).length->(w.drew.cell? ⟨b,0+k*1+t,none⟩).isSome=true/\w.drew.frozen? ⟨b,0+k*1+t,none⟩=false):=λt ht=>by
  rw[hnl]at ht;rw[ua,r9];exact⟨by show(w.cell? _).isSome=true;rw[(hH (k+t) aw).1];rfl,(hH (k+t) aw).2⟩
 have hend:Aside (W1.setCells b (k+(d.size-j)) (List.replicate (d.size-(k+(d.size-j))) (encI 0))=putRow encI (Sort.ahead w 1) b 0 (d.toList.take k++d.toList.drop j++[0]).toArray):=by
  show _=_;rw[hrow,show d.size-(k+(d.size-j))=1 from aw,show List.replicate 1 (encI 0)=(List.replicate 1 (0:Int)).map encI from O,show k+(d.size-j)=0+(k+(d.size-j)) from(gI _).symm,putRow_setCells encI _ b 0 _ _ _ (by rw[lay_size];simp;omega)];have:=delete_arr d k j 0 aw aw;rw[show j-k=1 from aw]at this;rw[this]
  rfl
 have hW:Hid (W1=w.drew.setCells b (0+k*1) ((d.toList.drop j).map encI)):=hW1;have hic:k<=cap:=aw
 have hjc:j<=cap:=aw
 have hjs:j<=d.size:=aw
 have hkj:k<=j:=aw
 have hne:k≠j:=aw
 obtain⟨i0,hi0,hz1⟩:∃i0,prog.info? 3=some i0/\i0.size=1:=⟨_,rfl,rfl⟩;have mixed:prog.follows .mixedOrders=true:=au
 have hjj:Hid (d.size-1=k+(d.size-j)):=by show _=_;omega
 clear hW1 hrow hH1 hH hget hnl hg hj
 generalize (d.toList.drop j).map encI=news at *
 go_enter func61,Tryz.ntmps61
 go_wp2_with fail
 go_region_law_o (refine step_append_room O (.tmp 22) (.tmp 25) 28 O 3 i0 1 underlying28 hi0 hz1 b 0 k cap (by simp[Act.eval,Act.put]) A (d.size-j) (cap-j) news (by simp[Act.eval,Act.put]) s1.out hsrc.out s2.out aw s3.out ?_;rw[<-hW.out])
 go_wp2
 go_ret
 exact⟨by rw[hjj.out];rfl,1,hend.out⟩
end Go.Ab
namespace Go.Pla
open Go.Ab Go.Proofs Tryz Go.Hy
def i4:na:=⟨0,0,0,0,0,0⟩
def wP(f a:ff):Bool:=decide (f.kind=6) && (decide (a.kind=1) && (decide (f.version=a.version) && (decide (f.zj=a.zj) && (decide (f.end_=a.end_) && (decide (f.slot=a.slot) && decide (f.listen=a.listen))))))
def ir(given:List ff)(f:ff)(n:Nat):Bool:=match given[n]? with|some a=>wP f a|none=>false
def Af(given:List ff)(out:List Nat)(i:Nat):List Nat:=match given[i]? with
 |some a=>if a.kind=1 then out++[i] else match out.findIdx? (ir given a) with
  |some k=>out.eraseIdx k
  |none=>out
 |none=>out
def jn(given:List ff):Nat->List Nat
 |0=>[]
 |k+1=>Af given (jn given k) k
def jH(given:List ff):List Nat:=jn given given.length
def kM(given:List ff):∀k,k<=given.length->∀n∈jn given k,n<k
 |0,_,n,h=>by simp[jn]at h
 |k+1,hk,n,h=>by
  have ih:=kM given k aw;unfold jn Af at h;split at h
  ·split at h
   ·rcases gO.1 h with h|h
    ·have:=ih n h;omega
    ·simp at h;omega
   ·split at h
    ·have:=ih n (List.mem_of_mem_eraseIdx h);omega
    ·have:=ih n h;omega
  ·have:=ih n h;omega
def DM(given:List ff):∀k,(jn given k).length<=k
 |0=>by simp[jn]
 |k+1=>by
  have ih:=DM given k;unfold jn Af;split
  ·split
   ·simp;omega
   ·split
    ·have:=List.length_eraseIdx_le (jn given k) ‹Nat›;omega
    ·omega
  ·omega
abbrev rN(n:Nat):List C:=[I (n:Int)]
def IZ(a:ff):ff:={a with kind:=1,n:=0,counts:=i4}
def S2(given:List ff)(out:List Nat)(a:ff)(n:Nat)(hn:n<given.length)(hlen:given.length<4000000000000000000)(ha:a.kind=6):
  tn 60 [⟨1,49,1,[[lA given]],0⟩,⟨2,3,1,out.map rN,0⟩,⟨1,66,13,[x3 (IZ a)],0⟩] ([I n]++[.ref 0 [] 1 0 0,.ref 2 [] 13 0 0]) (Bo (ir given a n)) [⟨1,49,1,[[lA given]],0⟩,⟨2,3,1,out.map rN,0⟩,⟨1,66,13,[x3 (IZ a)],0⟩]:=by
 have hb:given[n]?=some given[n]:=dZ hn;generalize given[n]=b at hb;have gb:(given.map x3)[n]?=some (x3 b):=by rw[gj,hb];rfl
 have e:ir given a n=wP a b:=by unfold ir;rw[hb]
 rw[e];refine zb.zG (fn:=f60) func60 O (uH ?_);refine⟨aw,_,gb,dd ?_⟩;refine⟨au,dd ?_⟩;refine⟨λh=>?_,λh=>?_⟩ <;> refine dd ?_
 ·exact⟨.inl O,⟨(.za::.za::.za::.za::Bo true::hU ([.za,.za,.za])),_⟩,cE 3,rfl,uN (h.symm.trans cI)⟩
 ·exact⟨.inl O,⟨(.za::.za::.za::.za::Bo false::hU ([.za,.za,.za])),_⟩,cE 3,rfl,uN (h.symm.trans cI)⟩
def Uf{Y X:Ob}{f:FuncId}{caps:List C}{l:List Nat}{full:Bool}(p:Nat->Bool)(hcb:qi prog f=true)(hp:∀r∈l,tn f [Y,⟨2,3,1,l.map rN,0⟩,X] ([I r]++caps) (Bo (p r)) [Y,⟨2,3,1,l.map rN,0⟩,X])(hl:l.length<4611686018427387904):
  tn 59 [Y,⟨2,3,1,l.map rN,0⟩,X] [.sl 1 [] 1 0 l.length full,.fn f [] caps] (I (match l.findIdx? p with|some i=>(i:Int)|none=> -1)) [Y,⟨2,3,1,l.map rN,0⟩,X]:=by
 refine zb.zG (fn:=f59) func59 O (uH ?_)
 refine qa.inv (λn t1 H1=>∃k,k+n=l.length/\H1=[Y,⟨2,3,1,l.map rN,0⟩,X]/\(∀j,j<k->∀r,l[j]?=some r->p r=false)/\
   t1=(.sl 1 [] 1 0 l.length full::.fn f [] caps::.za::.za::I 0::.za::.za::I l.length::I k::hU ([.za,.za]))) l.length ?_ ?_
 ·exact dc
 rintro n _ _ ⟨k,hk,rfl,hno,rfl⟩;conv=>whnf
 refine⟨λh=>?_,λh=>?_⟩
 ·conv=>whnf
  have eU:k<l.length:=aq h
  have hq:l[k]?=some l[k]:=dZ eU;have gq:(l.map rN)[k]?=some (rN l[k]):=by rw[gj,hq];rfl
  refine⟨aw,eU,dd ?_⟩;refine⟨_,by rw[gI];exact gq,dd ?_⟩;refine⟨aj,dd ?_⟩;rw[hcb];refine⟨_,_,hp _ (gW eU),dd ?_⟩;refine⟨λh2=>?_,λh2=>?_⟩
  ·refine dd ?_;refine .inr ⟨aj,uH ?_⟩
   have:l.findIdx? p=some k:=by
    rw[gJ];refine⟨eU,h2,λj hj=>?_⟩;simp[hno j hj _ (dZ aw)]
   rw[this];exact uJ
  ·refine dd ?_;refine .inl ⟨rfl,n-1,_,_,aw,zn.mask [0,1,4,7,8] _ _,k+1,aw,rfl,?_,?_⟩
   ·intro j hj r hr;by_cases hjk:j=k
    ·subst hjk;rw[hq]at hr;cases hr
     exact h2
    ·exact hno j aw r hr
   ·rw[zw aw];rfl
 ·refine dd ?_;refine .inr ⟨aj,uH ?_⟩
  have:l.findIdx? p=none:=by
   rw[gP];intro x hx;obtain⟨j,hj⟩:=gQ.1 hx;have hjl:=(dY.1 hj).1;have:¬k<l.length:=aq h
   exact hno j aw x hj
  rw[this];exact uJ
def Z7(l:List Nat):l.map rN=(l.map λ(n:Nat)=>(n:Int)).map mn:=by simp[mn,rN]
def Wp(l:List Nat)(k:Nat)(hk:k<l.length):
  tn 61 [⟨2,3,1,l.map rN,0⟩] [.sl 0 [] 1 0 l.length false,I k,I ((k+1:Nat):Int)] (.sl 0 [] 1 0 (l.length-1) false) [⟨2,3,1,(l.eraseIdx k).map rN,0⟩]:=by
 have e2:((l.map λ(n:Nat)=>(n:Int)).toArray.toList.take k++(l.map λ(n:Nat)=>(n:Int)).toArray.toList.drop (k+1)++[0])=((l.eraseIdx k++[0]).map λ(n:Nat)=>(n:Int)):=by
  rw[List.eraseIdx_eq_take_drop_succ];simp[uu,List.map_drop]
 have h:=zb.ofRow (P:=prog) (f:=61) (ty:=3) (full:=false) (zs:=l.map λ(n:Nat)=>(n:Int)) (zs':=(l.eraseIdx k++[0]).map λ(n:Nat)=>(n:Int)) (xs:=[.int .i64 k,.int .i64 ((k+1:Nat):Int)]) (r:=.sl 0 [] 1 0 (l.length-1) false)
  (by simp[List.length_eraseIdx,hk];omega) (by simp[Value.oneCell']) λb cap w hH hb hcap=>by
  refine(RX b cap k (k+1) O (l.map λ(n:Nat)=>(n:Int)).toArray w hH (aq hcap) (aq hk)).mono ?_;rintro e w' ⟨rfl,q,rfl⟩;refine⟨_,rfl,λE hE hb _ hf=>?_,q, #[],?_⟩
  ·have hcap:l.length<=cap:=by simpa using hcap
   have:=L.sl (E:=E) 0 [] 1 0 (l.length-1) false cap hE aw (λh=>by cases h) (λ_=>by rw[gI];exact hf O);rw[hb]at this;simpa using this
  ·rw[e2,Go.Sort.grow_empty]
 rw[gp,<-Z7]at h;refine h.n8 (λB _ _=>?_) (gD _);have e3:((l.eraseIdx k++[0]).map λ(n:Nat)=>(n:Int)).map mn=(l.eraseIdx k).map rN++[rN 0]:=by simp[mn,rN]
 rw[e3];refine zn.shrink (s:=⟨[_],[⟨2,3,1,(l.eraseIdx k).map rN++[rN 0],0⟩]⟩) 0 (rows':=[rN 0]) O λr hr c hc=>?_
 have:∃n,r=rN n:=by
  rcases gO.1 hr with h|h
  ·obtain⟨n,_,rfl⟩:=gZ.1 h;exact⟨n,rfl⟩
  ·exact⟨0,gN.1 h⟩
 obtain⟨n,rfl⟩:=this;simp at hc;subst hc
 rfl
def UL{Y X:Ob}{f:FuncId}{caps:List C}:
  tn 59 [Y,X] [.eS 1 0 [],.fn f [] caps] (I (-1)) [Y,X]:=by
 refine zb.zG (fn:=f59) func59 O (uH ?_);refine AK.Bc 1 (LoopN.step ?_);conv=>whnf
 refine⟨λh=>absurd h ar,λ_=>dd ?_⟩;refine .inr ⟨aj,uH ?_⟩;exact uJ
def kh(given:List ff)(k:Nat)(a:ff)(ha:given[k]?=some a):jn given (k+1)=if a.kind=1 then jn given k++[k] else match (jn given k).findIdx? (ir given a) with
  |some j=>(jn given k).eraseIdx j
  |none=>jn given k:=by
 show Af given (jn given k) k=_;unfold Af;rw[ha]
def WM{given:List ff}{a:ff}(h:a.kind≠6):ir given a=λ_=>false:=by
 funext n
 unfold ir wP;cases given[n]? <;> simp[h]
def Lx(given:List ff)(k:Nat)(a:ff)(ha:given[k]?=some a)(h1:a.kind≠1)(h6:a.kind≠6):jn given (k+1)=jn given k:=by
 rw[kh given k a ha,gf h1,WM h6];have:(jn given k).findIdx? (λ_=>false)=none:=by rw[gP];simp
 rw[this]
def Pn(l:List Nat):∀r∈l.map rN,∀c∈r,zB c=true:=λr hr c hc=>by
 obtain⟨n,_,rfl⟩:=gZ.1 hr;simp at hc;subst hc
 rfl
def Z6(l:List Nat):(l.map rN).all (·.all zB)=true:=by
 simp only[gA];exact Pn l
def U9(given:List ff)(hlen:given.length<1000000000000):tn 33 [] [lA given] (lI ((jH given).map λ(n:Nat)=>(n:Int))) []:=by
 have m1:(given.map x3).length=given.length:=gp ..;refine ab func33 ?_;rw[m1];refine qa.inv (λn t1 H1=>∃k,k+n=given.length/\((t1=(.za::.ref 0 [] 1 0 0::.eS 1 0 []::.eS 1 0 []::.za::.za::.za::(lA given)::I given.length::I (k:Nat)::hU (hU (hU ([.za,.za,.za,.za,.za,.za]))))/\H1=[⟨1,49,1,[[lA given]],0⟩]/\jn given k=[])\/(t1=(.za::.ref 0 [] 1 0 0::.eS 1 0 []::.sl 1 [] 1 0 (jn given (k)).length false::.za::.za::.za::(lA given)::I given.length::I (k:Nat)::hU (hU (hU ([.za,.za,.za,.za,.za,.za]))))/\H1=[⟨1,49,1,[[lA given]],0⟩,⟨2,3,1,(jn given k).map rN,0⟩]))) given.length ?_ ?_
 ·exact⟨_,_,cC,0,aj,.inl ⟨rfl,rfl,rfl⟩⟩
 rintro n _ _ ⟨k,hk,⟨rfl,rfl,hout⟩|⟨rfl,rfl⟩⟩
 ·conv=>whnf
  refine⟨λh=>?_,λh=>?_⟩
  ·refine dd ?_;have eU:k<given.length:=by simpa using h
   have hq:given[k]?=some given[k]:=dZ eU;generalize given[k]=a at hq;have gq:(given.map x3)[k]?=some (x3 a):=by rw[gj,hq];rfl
   refine⟨aw,_,gq,dd ?_⟩;refine⟨λh1=>?_,λh1=>?_⟩
   ·refine dd ?_;have hk1:a.kind=1:=by simpa using h1
    refine .inr (dd ?_);refine⟨.inl O,ar,ar,dd ?_⟩;rw[zw aw];have e:jn given (k+1)=[k]:=by rw[kh given k a hq,gk hk1,hout];rfl
    refine .inl ⟨rfl,n-1,_,_,aw,zn.fe [0,2] [1,2,3,7,8,9] _ _ O O O O,k+1,aw,.inr ⟨?_,?_⟩⟩
    ·rw[e];rfl
    ·rw[e];rfl
   ·refine dd ?_;refine⟨λh6=>?_,λh6=>?_⟩
    ·refine dd ?_;have hk6:a.kind=6:=by simpa using h6
     refine⟨_,_,UL,dd ?_⟩;refine tc ?_
     rw[zw aw];have e:jn given (k+1)=[]:=by rw[kh given k a hq,gf aw,hout];rfl
     exact .inl ⟨rfl,n-1,_,_,aw,zn.fe [0] [1,2,3,7,8,9] _ _ O O O O,k+1,aw,.inl ⟨rfl,rfl,e⟩⟩
    ·refine dd ?_;have e:jn given (k+1)=[]:=by rw[Lx given k a hq tD (aq h6),hout]
     rw[zw aw];exact .inl ⟨rfl,n-1,_,_,aw,zn.fe [0] [1,2,3,7,8,9] _ _ O O O O,k+1,aw,.inl ⟨rfl,rfl,e⟩⟩
  ·refine dd ?_;refine .inr ⟨aj,uH ?_⟩
   have ek:k=given.length:=by
     have:¬k<given.length:=aq h
     omega
   have e:jH given=[]:=by unfold jH;rw[<-ek];exact hout
   rw[e];exact dp
 ·conv=>whnf
  refine⟨λh=>?_,λh=>?_⟩
  ·refine dd ?_;have eU:k<given.length:=by simpa using h
   have hq:given[k]?=some given[k]:=dZ eU;generalize given[k]=a at hq;have gq:(given.map x3)[k]?=some (x3 a):=by rw[gj,hq];rfl
   refine⟨aw,_,gq,dd ?_⟩;refine⟨λh1=>?_,λh1=>?_⟩
   ·refine dd ?_;have hk1:a.kind=1:=by simpa using h1
    have hle:=DM given k;refine⟨aj,Z6 _,ay,bd,dd ?_⟩;have e:jn given (k+1)=jn given k++[k]:=by rw[kh given k a hq,gk hk1]
    rw[zw aw];refine .inl ⟨rfl,n-1,_,_,aw,zn.fe [0,3] [1,2,3,7,8,9] _ _ O O O O,k+1,aw,.inr ⟨?_,?_⟩⟩
    ·rw[e,gE];rfl
    ·rw[e,rb];rfl
   ·refine dd ?_;refine⟨λh6=>?_,λh6=>?_⟩
    ·refine dd ?_;have hk6:a.kind=6:=by simpa using h6
     refine⟨_,_,Uf (ir given a) O (λr hr=>S2 given (jn given k) a r (by have:=kM given k aw r hr;omega) aw hk6) (by have:=DM given k;omega),dd ?_⟩;cases hf:(jn given k).findIdx? (ir given a) with
     |none=>
      refine dd ?_;refine⟨λh=>absurd h ar,λ_=>dd ?_⟩;have e:jn given (k+1)=jn given k:=by rw[kh given k a hq,gf aw,hf]
      rw[zw aw];refine .inl ⟨rfl,n-1,_,_,aw,zn.fe [0,1] [1,2,3,7,8,9] _ _ O O O O,k+1,aw,.inr ⟨?_,?_⟩⟩
      ·rw[e];rfl
      ·rw[e];rfl
     |some j=>
      obtain⟨hj1,_,_⟩:=gJ.1 hf;have hle:=DM given k;refine dd ?_;refine⟨λ_=>dd ?_,λh=>absurd h aj⟩;rw[zw aw];refine af [1] (Wp (jn given k) j hj1) ?_;have e:jn given (k+1)=(jn given k).eraseIdx j:=by rw[kh given k a hq,gf aw,hf]
      have el:((jn given k).eraseIdx j).length=(jn given k).length-1:=by rw[List.length_eraseIdx,gk hj1]
      rw[zw aw];refine .inl ⟨rfl,n-1,_,_,aw,zn.fe [0,1] [1,2,3,7,8,9] _ _ O O O O,k+1,aw,.inr ⟨?_,?_⟩⟩
      ·rw[e,el];rfl
      ·rw[e];rfl
    ·refine dd ?_;have e:jn given (k+1)=jn given k:=Lx given k a hq tD (aq h6);rw[zw aw];refine .inl ⟨rfl,n-1,_,_,aw,zn.fe [0,1] [1,2,3,7,8,9] _ _ O O O O,k+1,aw,.inr ⟨?_,?_⟩⟩
     ·rw[e];rfl
     ·rw[e];rfl
  ·refine dd ?_;refine .inr ⟨aj,uH ?_⟩
   have ek:k=given.length:=by
     have:¬k<given.length:=aq h
     omega
   have e:jH given=jn given k:=by unfold jH;rw[<-ek]
   rw[e];refine⟨.inl O,_,zn.FW 2 O O aj (Pn _),?_⟩;refine(show _=some (C.eS 0 1 ((jn given k).map rN)) from O).trans ?_;simp[rN,Hy.encI,Function.comp_def]
end Go.Pla
