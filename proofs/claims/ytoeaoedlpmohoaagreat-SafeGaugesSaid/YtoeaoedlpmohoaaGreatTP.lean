import Derived.Sort.Grow
import Derived.Shelf.Slices.Delete
import Derived.Test.YtoeaoedlpmohoaaGreatTJ
import Derived.Test.YtoeaoedlpmohoaaGreatProg
set_option linter.all false
set_option maxRecDepth 100000
set_option maxHeartbeats 4000000
namespace Go.Ab
open Go.Sort
abbrev wq(n:Int):List C:=[.v (.int .i64 n)]
def WD{w:World}{b n:Nat}{d:Array Int}{os:Array Obj}{cur:Array Value}{e:TypeId}{fr:Nat×Nat}(h:w.heap[b]?=some (.cells cur e fr)):
  (grow (putRow (Value.int .i64) (Sort.ahead w n) b 0 d) os).heap[b]?=some (.cells (putCells (Value.int .i64) 0 d cur) e fr):=by
 have fj:=(gI.1 h).1;unfold Sort.grow putRow mapBlock Sort.ahead;rw[tU tS,r5,gh J,h]
 rfl
def Ns{w:World}{b n k:Nat}{d:Array Int}{os:Array Obj}(hk:k<w.heap.size)(hne:b≠k):
  (grow (putRow (Value.int .i64) (Sort.ahead w n) b 0 d) os).heap[k]?=w.heap[k]?:=by
 unfold Sort.grow putRow mapBlock Sort.ahead;rw[tU (aq hk),r5,dZ hne]
def zb.ofRow{P:Program}{f:FuncId}{ty:TypeId}{zs zs':List Int}{full:Bool}{xs:List Value}{r:C}(hlen:zs'.length=zs.length)(hxs:∀x∈xs,x.oneCell'=true)
 (hc:∀(b cap:Nat) (w:World),Holds (Value.int .i64) w b 0 zs.toArray->b<w.heap.size->zs.length<=cap->
   Calls P f (#[.slice (some ⟨b,0,none⟩) zs.length cap]++xs.toArray) w λe w'=>∃v,e=.returned v/\(∀E:Env,0<E.n->E.β 0 []=b->(full=true->cap=zs.length)->(full=false->cap=E.κ 0 [])->L E r v)/\∃n os,w'=grow (putRow (Value.int .i64) (Sort.ahead w n) b 0 zs'.toArray) os):
  zb P f [⟨2,ty,1,zs.map wq,0⟩] (.sl 0 [] 1 0 zs.length full::xs.map .v) r [⟨2,ty,1,zs'.map wq,0⟩]:=λw E vs hh hl=>by
 have hob:([⟨2,ty,1,zs.map wq,0⟩]:zm)[0]?=some ⟨2,ty,1,zs.map wq,0⟩:=rfl;have hb:=hh.base.fD 0 _ [] 1 (zs.map wq) hob (by simp[qf,v7]);obtain⟨cur,e,h1,h2,h3⟩:=hb.fD;rw[ub]at h2;have hlen0:=hb.len;rw[gu]at hlen0;have hsize:=(gI.1 h1).1;obtain⟨v0,hv0,hl0⟩:=hl.get (i:=0) J
 obtain⟨cap,rfl,hcap,hf,hf'⟩:∃cap,v0=.slice (some ⟨E.β 0 [],0,none⟩) zs.length cap/\zs.length<=cap/\(full=true->cap=zs.length)/\(full=false->cap=E.κ 0 []):=by
  generalize hcc:C.sl 0 [] 1 0 zs.length full=cc at hl0;cases hl0 <;> cases hcc
  rename_i cap hn hlen hf' hf;exact⟨cap,aj,hlen,hf,λh=>by simpa using hf' h⟩
 have hvs:vs= #[.slice (some ⟨E.β 0 [],0,none⟩) zs.length cap]++xs.toArray:=by
  apply Array.ext'
  have hll:vs.toList.length=xs.length+1:=by rw[<-hl.1];simp
  apply pq
  intro i;cases i with
  |zero=>rw[hv0];simp
  |succ i=>
   rw[sD,List.cons_append,pZ];simp only[fe];cases hx:xs[i]? with
   |none=>
    rw[pV]at hx ⊢;omega
   |some x=>
    obtain⟨y,hy,hly⟩:=hl.get (i:=i+1) (c:=.v x) bY;rw[hy];cases hly
    rfl
 have hcell:∀j,j<zs.length->cur[j]?=some (.int .i64 zs[j]!):=λj hj=>by
  obtain⟨u,hu,hlu⟩:=h3 j 0 (.v (.int .i64 zs[j]!)) (by simp[cellAt,hj,getElem!_pos]);rw[ub,sa]at hu;rw[hu];cases hlu.1
  rfl
 have hold:Holds (Value.int .i64) w (E.β 0 []) 0 zs.toArray:=λj hj=>by
  have hj:j<zs.length:=aq hj
  refine⟨?_,?_⟩
  ·unfold World.cell?;rw[h1];simp only[gP];rw[hcell j hj];simp[getElem!_pos,hj]
  ·unfold World.frozen?;rw[h1];simp
 rw[hvs];refine(hc (E.β 0 []) cap w hold hsize hcap).mono ?_;rintro e' w' ⟨v,rfl,hlv,n,os,rfl⟩
 have hgb:∀{id hops x},qf ([⟨2,ty,1,zs'.map wq,0⟩]:zm) id hops=some x->id=0/\hops=[]/\x=(1,zs'.map wq):=λ{id hops x} hx=>by
  unfold qf at hx;cases id with
  |succ id=>simp at hx
  |zero=>
   refine⟨rfl,?_⟩;simp at hx;cases hops with
   |nil=>simp[v7]at hx;exact⟨rfl,hx.symm⟩
   |cons p ps=>
    obtain⟨i,k⟩:=p;simp only[v7]at hx;split at hx
    ·rename_i hc;unfold cellAt at hc;rw[gf]at hc;cases hz:zs'[i]? with
     |none=>rw[hz]at hc;simp at hc
     |some z=>
      rw[hz]at hc;simp only[gF,gT]at hc;cases k <;> simp at hc
    ·cases hx
 have hnew:=WD (n:=n) (d:=zs'.toArray) (os:=os) h1
 have hst:∀b o u,E.St b o=some u->b≠E.β 0 []:=λb o u hu he=>by
  subst he;obtain⟨_,ob,h4,h5⟩:=hh.base.sep 0 [] (1,zs.map wq) o u (by simp[qf,v7]) hu;rw[hob]at h4;cases h4
  simp at h5
 have hno4:∀{id ob},([⟨2,ty,1,zs'.map wq,0⟩]:zm)[id]?=some ob->ob.kind=2/\id=0/\ob=⟨2,ty,1,zs'.map wq,0⟩:=λ{id ob} h=>by
  cases id with
  |zero=>simp at h;subst h;exact⟨rfl,rfl,rfl⟩
  |succ id=>simp at h
 have hty:e=ty:=by
  obtain⟨cur2,h4⟩:=hh.base.ty 0 _ hob J;rw[h1]at h4;cases h4
  rfl
 refine⟨v,E,rfl,⟨{n:=by rw[hh.base.n];rfl,fD:=?_,inj:=?_,qz:=?_,sep:=?_,ty:=?_,fz:=?_},{val:=?_,fD:=?_,sep:=?_,inj:=?_,st:=?_,top:=?_,iD:=?_,lb:=?_}⟩,hlv E (by rw[hh.base.n];exact Nat.zero_lt_one) J hf hf',{le:=.refl E,os:=rfl,tape:=rfl,output:=rfl,size:=by simp,frame:=?_,jX:=λb o u h=>.inl h,own:=?_}⟩
 ·intro id ob hops sz rows h4 h5;obtain⟨rfl,rfl,h6⟩:=hgb h5;cases h6
  obtain⟨_,_,rfl⟩:=hno4 h4;refine⟨by rw[gu,hlen];exact hlen0,λr hr=>by obtain⟨z,_,rfl⟩:=gR.1 hr;rfl,_,e,hnew,by simp[putCells,h2],?_⟩;intro i k c hcc;unfold cellAt at hcc;rw[gf]at hcc;cases hz:zs'[i]? with
  |none=>rw[hz]at hcc;simp at hcc
  |some z=>
   rw[hz]at hcc;simp only[gF,gT]at hcc;have hi:=(dW.1 hz).1;cases k with
   |succ k=>simp at hcc
   |zero=>
    simp at hcc;subst hcc;refine⟨.int .i64 z,?_,.v _ J,rfl⟩;rw[ub,sa];simp only[putCells,Array.getElem?_mapIdx];rw[hcell i aw];simp only[gF,gV,uy,ur,gP,gh hi,rM];have:zs'[i]=z:=by rw[dX hi]at hz;exact gp hz
    simp[getElem!_pos,hi,this]
 ·intro id hops id' hops' x y h4 h5 _;obtain⟨rfl,rfl,_⟩:=hgb h4;obtain⟨rfl,rfl,_⟩:=hgb h5;exact dK
 ·intro b o u hu;obtain⟨h4,h5⟩:=hh.base.qz b o u hu;refine⟨?_,h5⟩;unfold World.cell? at h4 ⊢;split at h4
  ·rename_i c t z hcc;rw[Ns (gI.1 hcc).1 (hst b o u hu).symm,hcc];exact h4
  ·cases h4
 ·intro id hops x o u h4 hu;obtain⟨rfl,rfl,_⟩:=hgb h4;exact absurd J (hst _ o u hu)
 ·intro id ob h4 _;obtain⟨_,rfl,rfl⟩:=hno4 h4;exact⟨_,by rw[<-hty];exact hnew⟩
 ·intro id ob h4;obtain⟨_,_,rfl⟩:=hno4 h4;exact gV _
 ·intro id ob h4 hk;exact dQ
 ·intro id b ob ⟨ob',_,h4,hk,_⟩ _;exact dQ
 ·intro id b ⟨ob',_,h4,hk,_⟩;exact dQ
 ·intro id id' b ⟨ob',_,h4,hk,_⟩;exact dQ
 ·intro id b ob o u ⟨ob',_,h4,hk,_⟩;exact dQ
 ·intro id ob k u h4 hk;exact dQ
 ·intro id ob o t h4 hk;exact dQ
 ·intro id id' b ⟨ob',_,_,h4,hk,_⟩;exact dQ
 ·intro k hk hno;refine Ns hk λhe=>hno (.inl ⟨0,[],(1,zs.map wq),by simp[qf,v7],he⟩)
 ·intro b hb;rcases hb with⟨id,hops,x,h4,rfl⟩|⟨id,hb⟩
  ·obtain⟨rfl,rfl,_⟩:=hgb h4;exact .inr (.inl ⟨0,[],(1,zs.map wq),by simp[qf,v7],rfl⟩)
  ·exfalso
   rcases hb with⟨ob',_,h4,hk,_⟩|⟨ob',_,_,h4,hk,_⟩ <;> · exact dQ
end Go.Ab
namespace Go.Ab
open Go.Proofs Tryz Go.Sort Go.RowKit Go.Lib
def Wq(w:World)(b k:Nat)(d:Array Int)(hH:Holds encI w b 0 d)(hk:k<d.size):
  w.drew.setCells b (0+k*1) ((d.toList.drop (k+1)).map encI)=putRow encI (Sort.ahead w 1) b 0 (lay d k (d.toList.drop (k+1))):=by
 rw[ub,<-putRow_setCells encI (Sort.ahead w 1) b 0 _ d k aA,putRow_self encI (Sort.ahead w 1) b 0 d (holds_ahead encI w 1 b 0 d hH)]
 rfl
set_option maxRecDepth 1000000 in
def R0(b cap k j:Nat)(hj:j=k+1)(d:Array Int)(w:World)(hH:Holds encI w b 0 d)(hcap:d.size<=cap)(hk:k<d.size):
  Calls prog 73 #[.slice (some ⟨b,0,none⟩) d.size cap,.int .i64 k,.int .i64 j] w λe w'=>e=.returned (.slice (some ⟨b,0,none⟩) (d.size-1) cap)/\∃q,w'=putRow encI (Sort.ahead w q) b 0 (d.toList.take k++d.toList.drop j++[0]).toArray:=by
 have hnl:((d.toList.drop j).map encI).length=d.size-j:=aj
 have hget:∀t u,((d.toList.drop j).map encI)[t]?=some u->w.drew.cell? ⟨b,j+t,none⟩=some u:=λt u hu=>by
  rw[gf,pO]at hu;cases hx:d.toList[j+t]? with
  |none=>rw[hx]at hu;cases hu
  |some x=>
   rw[hx]at hu;cases hu
   have fj:j+t<d.size:=by simpa using (dW.1 hx).1
   have:=(hH (j+t) fj).1;rw[gP]at this;refine(show w.drew.cell? _=w.cell? _ from J).trans (this.trans ?_);rw[getElem!_pos d _ fj];rw[pt,rQ fj]at hx;rw[gp hx]
 obtain⟨A,hA,hsrc⟩:∃A:Addr,(if cap=j then some (⟨b,0,none⟩:Addr) else some ⟨b,j,none⟩)=some A/\Hid (∀t u,((d.toList.drop j).map encI)[t]?=some u->w.drew.cell? (A.add t)=some u):=by
  by_cases h:cap=j
  ·refine⟨⟨b,0,none⟩,aH,λt u hu=>?_⟩;have h0:((d.toList.drop j).map encI).length=0:=by rw[hnl];omega
   rw[rh.1 h0]at hu;simp at hu
  ·exact⟨⟨b,j,none⟩,aH,λt u hu=>by rw[Addr.add_lit];exact hget t u hu⟩
 obtain⟨W1,hW1⟩:∃W1,W1=w.drew.setCells b (0+k*1) ((d.toList.drop j).map encI):=⟨_,rfl⟩;have hrow:W1=putRow encI (Sort.ahead w 1) b 0 (lay d k (d.toList.drop j)):=by subst hj;exact hW1.trans (Wq w b k d hH hk)
 have hH1:Holds encI W1 b 0 (lay d k (d.toList.drop j)):=by rw[hrow];exact holds_putRow encI _ b 0 d _ (holds_ahead encI w 1 b 0 d hH) (lay_size _ _ _)
 obtain⟨g,hg⟩:∃g,g=k+(d.size-j):=⟨_,rfl⟩
 have hcl:∀ty,(Builtin.clear_ #[28] ty #[.slice (some ⟨b,k+(d.size-j),none⟩) (d.size-(k+(d.size-j))) (cap-(k+(d.size-j)))]).run prog W1=.ok (.tuple #[]) (W1.setCells b (k+(d.size-j)) (List.replicate (d.size-(k+(d.size-j))) (encI 0))):=λty=>
  Lib.run_clear_slice W1 _ _ ty _ underlying28 zeroValue3 J J b _ _ _ aw (λt ht=>by have:=(hH1 (k+(d.size-j)+t) (by rw[lay_size];omega)).1;rw[gP]at this;rw[this];rfl) (λt ht=>by have:=(hH1 (k+(d.size-j)+t) (by rw[lay_size];omega)).2;rw[gP]at this;exact this)
 have s1:Hid (((d.toList.drop j).map encI).length=(d.size-j)*1):=by rw[ub];exact hnl
 have s2:Hid (∀u∈(d.toList.drop j).map encI,u.oneCell'=true):=λu hu=>by obtain⟨x,_,rfl⟩:=gR.1 hu;rfl
 have s3:Hid (∀t,t<((d.toList.drop j).map encI).length->(w.drew.cell? ⟨b,0+k*1+t,none⟩).isSome=true/\w.drew.frozen? ⟨b,0+k*1+t,none⟩=false):=λt ht=>by
  rw[hnl]at ht;rw[ub,rV];exact⟨by show(w.cell? _).isSome=true;rw[(hH (k+t) aw).1];rfl,(hH (k+t) aw).2⟩
 have hend:Aside (W1.setCells b (k+(d.size-j)) (List.replicate (d.size-(k+(d.size-j))) (encI 0))=putRow encI (Sort.ahead w 1) b 0 (d.toList.take k++d.toList.drop j++[0]).toArray):=by
  show _=_;rw[hrow,show d.size-(k+(d.size-j))=1 from aw,show List.replicate 1 (encI 0)=(List.replicate 1 (0:Int)).map encI from J,show k+(d.size-j)=0+(k+(d.size-j)) from(gP _).symm,putRow_setCells encI _ b 0 _ _ _ (by rw[lay_size];simp;omega)];have:=delete_arr d k j 0 aw aw;rw[show j-k=1 from aw]at this;rw[this]
  rfl
 have hW:Hid (W1=w.drew.setCells b (0+k*1) ((d.toList.drop j).map encI)):=hW1;have hic:k<=cap:=aw
 have hjc:j<=cap:=aw
 have hjs:j<=d.size:=aw
 have hkj:k<=j:=aw
 have hne:k≠j:=aw
 obtain⟨i0,hi0,hz1⟩:∃i0,prog.info? 3=some i0/\i0.size=1:=⟨_,rfl,rfl⟩;have mixed:prog.follows .mixedOrders=true:=au
 have hjj:Hid (d.size-1=k+(d.size-j)):=by show _=_;omega
 clear hW1 hrow hH1 hH hget hnl hg hj
 generalize (d.toList.drop j).map encI=news at *
 go_enter func73,Tryz.ntmps73
 go_wp2_with fail
 go_region_law_o (refine step_append_room J (.tmp 22) (.tmp 25) 28 J 3 i0 1 underlying28 hi0 hz1 b 0 k cap (by simp[Act.eval,Act.put]) A (d.size-j) (cap-j) news (by simp[Act.eval,Act.put]) s1.out hsrc.out s2.out aw s3.out ?_;rw[<-hW.out])
 go_wp2
 go_ret
 exact⟨by rw[hjj.out];rfl,1,hend.out⟩
end Go.Ab
namespace Go.Pla
open Go.Ab Go.Proofs Tryz Go.Hy
def vq:oa:=⟨0,0,0,0,0,0⟩
def wZ(f a:fA):Bool:=decide (f.kind=6) && (decide (a.kind=1) && (decide (f.version=a.version) && (decide (f.zg=a.zg) && (decide (f.end_=a.end_) && (decide (f.slot=a.slot) && decide (f.listen=a.listen))))))
def iC(given:List fA)(f:fA)(n:Nat):Bool:=match given[n]? with|some a=>wZ f a|none=>false
def AI(given:List fA)(out:List Nat)(i:Nat):List Nat:=match given[i]? with
 |some a=>if a.kind=1 then out++[i] else match out.findIdx? (iC given a) with
  |some k=>out.eraseIdx k
  |none=>out
 |none=>out
def jr(given:List fA):Nat->List Nat
 |0=>[]
 |k+1=>AI given (jr given k) k
def qE(given:List fA):List Nat:=jr given given.length
def vT(given:List fA):∀k,k<=given.length->∀n∈jr given k,n<k
 |0,_,n,h=>by simp[jr]at h
 |k+1,hk,n,h=>by
  have ih:=vT given k aw;unfold jr AI at h;split at h
  ·split at h
   ·rcases gY.1 h with h|h
    ·have:=ih n h;omega
    ·simp at h;omega
   ·split at h
    ·have:=ih n (List.mem_of_mem_eraseIdx h);omega
    ·have:=ih n h;omega
  ·have:=ih n h;omega
def ky(given:List fA):∀k,(jr given k).length<=k
 |0=>by simp[jr]
 |k+1=>by
  have ih:=ky given k;unfold jr AI;split
  ·split
   ·simp;omega
   ·split
    ·have:=List.length_eraseIdx_le (jr given k) ‹Nat›;omega
    ·omega
  ·omega
abbrev rN(n:Nat):List C:=[I (n:Int)]
def IZ(a:fA):fA:={a with kind:=1,n:=0,counts:=vq}
def Ss(given:List fA)(out:List Nat)(a:fA)(n:Nat)(hn:n<given.length)(hlen:given.length<4000000000000000000)(ha:a.kind=6):
  tj 72 [⟨1,61,1,[[lA given]],0⟩,⟨2,3,1,out.map rN,0⟩,⟨1,51,13,[xk (IZ a)],0⟩] ([I n]++[.ref 0 [] 1 0 0,.ref 2 [] 13 0 0]) (Bo (iC given a n)) [⟨1,61,1,[[lA given]],0⟩,⟨2,3,1,out.map rN,0⟩,⟨1,51,13,[xk (IZ a)],0⟩]:=by
 have hb:given[n]?=some given[n]:=dX hn;generalize given[n]=b at hb;have gb:(given.map xk)[n]?=some (xk b):=by rw[gf,hb];rfl
 have e:iC given a n=wZ a b:=by unfold iC;rw[hb]
 rw[e];refine zb.zL (fn:=f72) func72 J (uH ?_);refine⟨aw,_,gb,dd ?_⟩;refine⟨au,dd ?_⟩;refine⟨λh=>?_,λh=>?_⟩ <;> refine dd ?_
 ·exact⟨.inl J,⟨(.za::.za::.za::.za::Bo true::tZ ([.za,.za,.za])),_⟩,cE 3,rfl,uN (h.symm.trans cb)⟩
 ·exact⟨.inl J,⟨(.za::.za::.za::.za::Bo false::tZ ([.za,.za,.za])),_⟩,cE 3,rfl,uN (h.symm.trans cb)⟩
def TW{Y X:Ob}{f:FuncId}{caps:List C}{l:List Nat}{full:Bool}(p:Nat->Bool)(hcb:qp prog f=true)(hp:∀r∈l,tj f [Y,⟨2,3,1,l.map rN,0⟩,X] ([I r]++caps) (Bo (p r)) [Y,⟨2,3,1,l.map rN,0⟩,X])(hl:l.length<4611686018427387904):
  tj 71 [Y,⟨2,3,1,l.map rN,0⟩,X] [.sl 1 [] 1 0 l.length full,.fn f [] caps] (I (match l.findIdx? p with|some i=>(i:Int)|none=> -1)) [Y,⟨2,3,1,l.map rN,0⟩,X]:=by
 refine zb.zL (fn:=f71) func71 J (uH ?_)
 refine qe.inv (λn t1 H1=>∃k,k+n=l.length/\H1=[Y,⟨2,3,1,l.map rN,0⟩,X]/\(∀j,j<k->∀r,l[j]?=some r->p r=false)/\
   t1=(.sl 1 [] 1 0 l.length full::.fn f [] caps::.za::.za::I 0::.za::.za::I l.length::I k::tZ ([.za,.za]))) l.length ?_ ?_
 ·exact c8
 rintro n _ _ ⟨k,hk,rfl,hno,rfl⟩;conv=>whnf
 refine⟨λh=>?_,λh=>?_⟩
 ·conv=>whnf
  have fj:k<l.length:=aq h
  have hq:l[k]?=some l[k]:=dX fj;have gq:(l.map rN)[k]?=some (rN l[k]):=by rw[gf,hq];rfl
  refine⟨aw,fj,dd ?_⟩;refine⟨_,by rw[gP];exact gq,dd ?_⟩;refine⟨aj,dd ?_⟩;rw[hcb];refine⟨_,_,hp _ (gU fj),dd ?_⟩;refine⟨λh2=>?_,λh2=>?_⟩
  ·refine dd ?_;refine .inr ⟨aj,uH ?_⟩
   have:l.findIdx? p=some k:=by
    rw[gK];refine⟨fj,h2,λj hj=>?_⟩;simp[hno j hj _ (dX aw)]
   rw[this];exact uJ
  ·refine dd ?_;refine .inl ⟨rfl,n-1,_,_,aw,zq.mask [0,1,4,7,8] _ _,k+1,aw,rfl,?_,?_⟩
   ·intro j hj r hr;by_cases hjk:j=k
    ·subst hjk;rw[hq]at hr;cases hr
     exact h2
    ·exact hno j aw r hr
   ·rw[zw aw];rfl
 ·refine dd ?_;refine .inr ⟨aj,uH ?_⟩
  have:l.findIdx? p=none:=by
   rw[gS];intro x hx;obtain⟨j,hj⟩:=gE.1 hx;have hjl:=(dW.1 hj).1;have:¬k<l.length:=aq h
   exact hno j aw x hj
  rw[this];exact uJ
def ZC(l:List Nat):l.map rN=(l.map λ(n:Nat)=>(n:Int)).map wq:=by simp[wq,rN]
def VZ(l:List Nat)(k:Nat)(hk:k<l.length):
  tj 73 [⟨2,3,1,l.map rN,0⟩] [.sl 0 [] 1 0 l.length false,I k,I ((k+1:Nat):Int)] (.sl 0 [] 1 0 (l.length-1) false) [⟨2,3,1,(l.eraseIdx k).map rN,0⟩]:=by
 have e2:((l.map λ(n:Nat)=>(n:Int)).toArray.toList.take k++(l.map λ(n:Nat)=>(n:Int)).toArray.toList.drop (k+1)++[0])=((l.eraseIdx k++[0]).map λ(n:Nat)=>(n:Int)):=by
  rw[List.eraseIdx_eq_take_drop_succ];simp[ux,List.map_drop]
 have h:=zb.ofRow (P:=prog) (f:=73) (ty:=3) (full:=false) (zs:=l.map λ(n:Nat)=>(n:Int)) (zs':=(l.eraseIdx k++[0]).map λ(n:Nat)=>(n:Int)) (xs:=[.int .i64 k,.int .i64 ((k+1:Nat):Int)]) (r:=.sl 0 [] 1 0 (l.length-1) false)
  (by simp[List.length_eraseIdx,hk];omega) (by simp[Value.oneCell']) λb cap w hH hb hcap=>by
  refine(R0 b cap k (k+1) J (l.map λ(n:Nat)=>(n:Int)).toArray w hH (aq hcap) (aq hk)).mono ?_;rintro e w' ⟨rfl,q,rfl⟩;refine⟨_,rfl,λE hE hb _ hf=>?_,q, #[],?_⟩
  ·have hcap:l.length<=cap:=by simpa using hcap
   have:=L.sl (E:=E) 0 [] 1 0 (l.length-1) false cap hE aw (λh=>by cases h) (λ_=>by rw[gP];exact hf J);rw[hb]at this;simpa using this
  ·rw[e2,Go.Sort.grow_empty]
 rw[gu,<-ZC]at h;refine h.nZ (λB _ _=>?_) (gC _);have e3:((l.eraseIdx k++[0]).map λ(n:Nat)=>(n:Int)).map wq=(l.eraseIdx k).map rN++[rN 0]:=by simp[wq,rN]
 rw[e3];refine zq.shrink (s:=⟨[_],[⟨2,3,1,(l.eraseIdx k).map rN++[rN 0],0⟩]⟩) 0 (rows':=[rN 0]) J λr hr c hc=>?_
 have:∃n,r=rN n:=by
  rcases gY.1 hr with h|h
  ·obtain⟨n,_,rfl⟩:=gR.1 h;exact⟨n,rfl⟩
  ·exact⟨0,gX.1 h⟩
 obtain⟨n,rfl⟩:=this;simp at hc;subst hc
 rfl
def TQ{Y X:Ob}{f:FuncId}{caps:List C}:
  tj 71 [Y,X] [.fh 1 0 [],.fn f [] caps] (I (-1)) [Y,X]:=by
 refine zb.zL (fn:=f71) func71 J (uH ?_);refine Bh.CG 1 (LoopN.step ?_);conv=>whnf
 refine⟨λh=>absurd h ar,λ_=>dd ?_⟩;refine .inr ⟨aj,uH ?_⟩;exact uJ
def kz(given:List fA)(k:Nat)(a:fA)(ha:given[k]?=some a):jr given (k+1)=if a.kind=1 then jr given k++[k] else match (jr given k).findIdx? (iC given a) with
  |some j=>(jr given k).eraseIdx j
  |none=>jr given k:=by
 show AI given (jr given k) k=_;unfold AI;rw[ha]
def XE{given:List fA}{a:fA}(h:a.kind≠6):iC given a=λ_=>false:=by
 funext n
 unfold iC wZ;cases given[n]? <;> simp[h]
def Lj(given:List fA)(k:Nat)(a:fA)(ha:given[k]?=some a)(h1:a.kind≠1)(h6:a.kind≠6):jr given (k+1)=jr given k:=by
 rw[kz given k a ha,dZ h1,XE h6];have:(jr given k).findIdx? (λ_=>false)=none:=by rw[gS];simp
 rw[this]
def Pk(l:List Nat):∀r∈l.map rN,∀c∈r,zx c=true:=λr hr c hc=>by
 obtain⟨n,_,rfl⟩:=gR.1 hr;simp at hc;subst hc
 rfl
def ZB(l:List Nat):(l.map rN).all (·.all zx)=true:=by
 simp only[gz];exact Pk l
def My(given:List fA)(hlen:given.length<1000000000000):tj 51 [] [lA given] (lI ((qE given).map λ(n:Nat)=>(n:Int))) []:=by
 have m1:(given.map xk).length=given.length:=gu ..;refine ab func51 ?_;rw[m1];refine qe.inv (λn t1 H1=>∃k,k+n=given.length/\((t1=(.za::.ref 0 [] 1 0 0::.fh 1 0 []::.fh 1 0 []::.za::.za::.za::(lA given)::I given.length::I (k:Nat)::tZ (tZ (tZ ([.za,.za,.za,.za,.za,.za]))))/\H1=[⟨1,61,1,[[lA given]],0⟩]/\jr given k=[])\/(t1=(.za::.ref 0 [] 1 0 0::.fh 1 0 []::.sl 1 [] 1 0 (jr given (k)).length false::.za::.za::.za::(lA given)::I given.length::I (k:Nat)::tZ (tZ (tZ ([.za,.za,.za,.za,.za,.za]))))/\H1=[⟨1,61,1,[[lA given]],0⟩,⟨2,3,1,(jr given k).map rN,0⟩]))) given.length ?_ ?_
 ·exact⟨_,_,cC,0,aj,.inl ⟨rfl,rfl,rfl⟩⟩
 rintro n _ _ ⟨k,hk,⟨rfl,rfl,hout⟩|⟨rfl,rfl⟩⟩
 ·conv=>whnf
  refine⟨λh=>?_,λh=>?_⟩
  ·refine dd ?_;have fj:k<given.length:=by simpa using h
   have hq:given[k]?=some given[k]:=dX fj;generalize given[k]=a at hq;have gq:(given.map xk)[k]?=some (xk a):=by rw[gf,hq];rfl
   refine⟨aw,_,gq,dd ?_⟩;refine⟨λh1=>?_,λh1=>?_⟩
   ·refine dd ?_;have hk1:a.kind=1:=by simpa using h1
    refine .inr (dd ?_);refine⟨.inl J,ar,ar,dd ?_⟩;rw[zw aw];have e:jr given (k+1)=[k]:=by rw[kz given k a hq,gh hk1,hout];rfl
    refine .inl ⟨rfl,n-1,_,_,aw,zq.fx [0,2] [1,2,3,7,8,9] _ _ J J J J,k+1,aw,.inr ⟨?_,?_⟩⟩
    ·rw[e];rfl
    ·rw[e];rfl
   ·refine dd ?_;refine⟨λh6=>?_,λh6=>?_⟩
    ·refine dd ?_;have hk6:a.kind=6:=by simpa using h6
     refine⟨_,_,TQ,dd ?_⟩;refine hZ ?_
     rw[zw aw];have e:jr given (k+1)=[]:=by rw[kz given k a hq,dZ aw,hout];rfl
     exact .inl ⟨rfl,n-1,_,_,aw,zq.fx [0] [1,2,3,7,8,9] _ _ J J J J,k+1,aw,.inl ⟨rfl,rfl,e⟩⟩
    ·refine dd ?_;have e:jr given (k+1)=[]:=by rw[Lj given k a hq tE (aq h6),hout]
     rw[zw aw];exact .inl ⟨rfl,n-1,_,_,aw,zq.fx [0] [1,2,3,7,8,9] _ _ J J J J,k+1,aw,.inl ⟨rfl,rfl,e⟩⟩
  ·refine dd ?_;refine .inr ⟨aj,uH ?_⟩
   have ek:k=given.length:=by
     have:¬k<given.length:=aq h
     omega
   have e:qE given=[]:=by unfold qE;rw[<-ek];exact hout
   rw[e];exact dt
 ·conv=>whnf
  refine⟨λh=>?_,λh=>?_⟩
  ·refine dd ?_;have fj:k<given.length:=by simpa using h
   have hq:given[k]?=some given[k]:=dX fj;generalize given[k]=a at hq;have gq:(given.map xk)[k]?=some (xk a):=by rw[gf,hq];rfl
   refine⟨aw,_,gq,dd ?_⟩;refine⟨λh1=>?_,λh1=>?_⟩
   ·refine dd ?_;have hk1:a.kind=1:=by simpa using h1
    have hle:=ky given k;refine⟨aj,ZB _,ay,bc,dd ?_⟩;have e:jr given (k+1)=jr given k++[k]:=by rw[kz given k a hq,gh hk1]
    rw[zw aw];refine .inl ⟨rfl,n-1,_,_,aw,zq.fx [0,3] [1,2,3,7,8,9] _ _ J J J J,k+1,aw,.inr ⟨?_,?_⟩⟩
    ·rw[e,pj];rfl
    ·rw[e,pE];rfl
   ·refine dd ?_;refine⟨λh6=>?_,λh6=>?_⟩
    ·refine dd ?_;have hk6:a.kind=6:=by simpa using h6
     refine⟨_,_,TW (iC given a) J (λr hr=>Ss given (jr given k) a r (by have:=vT given k aw r hr;omega) aw hk6) (by have:=ky given k;omega),dd ?_⟩;cases hf:(jr given k).findIdx? (iC given a) with
     |none=>
      refine dd ?_;refine⟨λh=>absurd h ar,λ_=>dd ?_⟩;have e:jr given (k+1)=jr given k:=by rw[kz given k a hq,dZ aw,hf]
      rw[zw aw];refine .inl ⟨rfl,n-1,_,_,aw,zq.fx [0,1] [1,2,3,7,8,9] _ _ J J J J,k+1,aw,.inr ⟨?_,?_⟩⟩
      ·rw[e];rfl
      ·rw[e];rfl
     |some j=>
      obtain⟨hj1,_,_⟩:=gK.1 hf;have hle:=ky given k;refine dd ?_;refine⟨λ_=>dd ?_,λh=>absurd h aj⟩;rw[zw aw];refine af [1] (VZ (jr given k) j hj1) ?_;have e:jr given (k+1)=(jr given k).eraseIdx j:=by rw[kz given k a hq,dZ aw,hf]
      have el:((jr given k).eraseIdx j).length=(jr given k).length-1:=by rw[List.length_eraseIdx,gh hj1]
      rw[zw aw];refine .inl ⟨rfl,n-1,_,_,aw,zq.fx [0,1] [1,2,3,7,8,9] _ _ J J J J,k+1,aw,.inr ⟨?_,?_⟩⟩
      ·rw[e,el];rfl
      ·rw[e];rfl
    ·refine dd ?_;have e:jr given (k+1)=jr given k:=Lj given k a hq tE (aq h6);rw[zw aw];refine .inl ⟨rfl,n-1,_,_,aw,zq.fx [0,1] [1,2,3,7,8,9] _ _ J J J J,k+1,aw,.inr ⟨?_,?_⟩⟩
     ·rw[e];rfl
     ·rw[e];rfl
  ·refine dd ?_;refine .inr ⟨aj,uH ?_⟩
   have ek:k=given.length:=by
     have:¬k<given.length:=aq h
     omega
   have e:qE given=jr given k:=by unfold qE;rw[<-ek]
   rw[e];refine⟨.inl J,_,zq.IV 2 J J aj (Pk _),?_⟩;refine(show _=some (C.fh 0 1 ((jr given k).map rN)) from J).trans ?_;simp[rN,Hy.encI,Function.comp_def]
end Go.Pla
