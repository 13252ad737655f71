import Derived.Sort.Grow
import Derived.Shelf.Slices.Delete
import Derived.Test.YtllehbdigpdinaaGreatTJ
import Derived.Test.YtllehbdigpdinaaGreatProg
set_option linter.all false
set_option maxRecDepth 100000
set_option maxHeartbeats 4000000
namespace Go.Ab
open Go.Sort
variable{w:World}{d:Array Int}{os:Array Obj}
abbrev ly(n:Int):List C:=[.v (.int .i64 n)]
def zuu{b n:Nat}{cur:Array Value}{e:TypeId}{fr:Nat×Nat}(h:w.heap[b]?=some (.cells cur e fr)):
  (grow (putRow (Value.int .i64) (Sort.ahead w n) b 0 d) os).heap[b]?=some (.cells (putCells (Value.int .i64) 0 d cur) e fr):=by
 have fE:=(gM.1 h).1;unfold Sort.grow putRow mapBlock Sort.ahead;rw[ue tR,r9,gz V,h]
 rfl
def QJ{b n k:Nat}(hk:k<w.heap.size)(hne:b≠k):
  (grow (putRow (Value.int .i64) (Sort.ahead w n) b 0 d) os).heap[k]?=w.heap[k]?:=by
 unfold Sort.grow putRow mapBlock Sort.ahead;rw[ue (aq hk),r9,gp hne]
def zb.ofRow{P:Program}{f:FuncId}{ty:TypeId}{zs zs':List Int}{full:Bool}{xs:List Value}{r:C}(hlen:zs'.length=zs.length)(hxs:∀x∈xs,x.oneCell'=true)
 (hc:∀(b cap:Nat) (w:World),Holds (Value.int .i64) w b 0 zs.toArray->b<w.heap.size->zs.length<=cap->
   Calls P f (#[.slice (some ⟨b,0,none⟩) zs.length cap]++xs.toArray) w λe w'=>∃v,e=.returned v/\(∀E:Env,0<E.n->E.β 0 []=b->(full=true->cap=zs.length)->(full=false->cap=E.κ 0 [])->L E r v)/\∃n os,w'=grow (putRow (Value.int .i64) (Sort.ahead w n) b 0 zs'.toArray) os):
  zb P f [⟨2,ty,1,zs.map ly,0⟩] (.sl 0 [] 1 0 zs.length full::xs.map .v) r [⟨2,ty,1,zs'.map ly,0⟩]:=λw E vs hh hl=>by
 have hob:([⟨2,ty,1,zs.map ly,0⟩]:zn)[0]?=some ⟨2,ty,1,zs.map ly,0⟩:=rfl;have hb:=hh.base.fR 0 _ [] 1 (zs.map ly) hob (by simp[qd,kF]);obtain⟨cur,e,h1,h2,h3⟩:=hb.fR;rw[sY]at h2;have hlen0:=hb.len;rw[gC]at hlen0;have hsize:=(gM.1 h1).1;obtain⟨v0,hv0,hl0⟩:=hl.get (i:=0) V
 obtain⟨cap,rfl,hcap,hf,hf'⟩:∃cap,v0=.slice (some ⟨E.β 0 [],0,none⟩) zs.length cap/\zs.length<=cap/\(full=true->cap=zs.length)/\(full=false->cap=E.κ 0 []):=by
  generalize hcc:C.sl 0 [] 1 0 zs.length full=cc at hl0;cases hl0 <;> cases hcc
  rename_i cap hn hlen hf' hf;exact⟨cap,aj,hlen,hf,λh=>by simpa using hf' h⟩
 have hvs:vs= #[.slice (some ⟨E.β 0 [],0,none⟩) zs.length cap]++xs.toArray:=by
  apply Array.ext'
  have hll:vs.toList.length=xs.length+1:=by rw[<-hl.1];simp
  apply pC
  intro i;cases i with
  |zero=>rw[hv0];simp
  |succ i=>
   rw[sO,List.cons_append,rB];simp only[fA];cases hx:xs[i]? with
   |none=>
    rw[pW]at hx|-;omega
   |some x=>
    obtain⟨y,hy,hly⟩:=hl.get (i:=i+1) (c:=.v x) cp;rw[hy];cases hly
    rfl
 have hcell:∀j,j<zs.length->cur[j]?=some (.int .i64 zs[j]!):=λj hj=>by
  obtain⟨u,hu,hlu⟩:=h3 j 0 (.v (.int .i64 zs[j]!)) (by simp[cellAt,hj,getElem!_pos]);rw[sY,sy]at hu;rw[hu];cases hlu.1
  rfl
 have hold:Holds (Value.int .i64) w (E.β 0 []) 0 zs.toArray:=λj hj=>by
  have hj:j<zs.length:=aq hj
  refine⟨?_,?_⟩
  .unfold World.cell?;rw[h1];simp only[gU];rw[hcell j hj];simp[getElem!_pos,hj]
  .unfold World.frozen?;rw[h1];simp
 rw[hvs];refine(hc (E.β 0 []) cap w hold hsize hcap).mono ?_;rintro e' w' ⟨v,rfl,hlv,n,os,rfl⟩
 have hgb:∀{id hops x},qd ([⟨2,ty,1,zs'.map ly,0⟩]:zn) id hops=some x->id=0/\hops=[]/\x=(1,zs'.map ly):=λ{id hops x} hx=>by
  unfold qd at hx;cases id with
  |succ id=>simp at hx
  |zero=>
   refine⟨rfl,?_⟩;simp at hx;cases hops with
   |nil=>simp[kF]at hx;exact⟨rfl,hx.symm⟩
   |cons p ps=>
    obtain⟨i,k⟩:=p;simp only[kF]at hx;split at hx
    .rename_i hc;unfold cellAt at hc;rw[gy]at hc;cases hz:zs'[i]? with
     |none=>rw[hz]at hc;simp at hc
     |some z=>
      rw[hz]at hc;simp only[gK,gW]at hc;cases k <;> simp at hc
    .cases hx
 have hnew:=zuu (n:=n) (d:=zs'.toArray) (os:=os) h1
 have hst:∀b o u,E.St b o=some u->b≠E.β 0 []:=λb o u hu he=>by
  subst he;obtain⟨_,ob,h4,h5⟩:=hh.base.sep 0 [] (1,zs.map ly) o u (by simp[qd,kF]) hu;rw[hob]at h4;cases h4
  simp at h5
 have hno4:∀{id ob},([⟨2,ty,1,zs'.map ly,0⟩]:zn)[id]?=some ob->ob.kind=2/\id=0/\ob=⟨2,ty,1,zs'.map ly,0⟩:=λ{id ob} h=>by
  cases id with
  |zero=>simp at h;subst h;exact⟨rfl,rfl,rfl⟩
  |succ id=>simp at h
 have hty:e=ty:=by
  obtain⟨cur2,h4⟩:=hh.base.ty 0 _ hob V;rw[h1]at h4;cases h4
  rfl
 refine⟨v,E,rfl,⟨{n:=by rw[hh.base.n];rfl,fR:=?_,inj:=?_,qA:=?_,sep:=?_,ty:=?_,fz:=?_},{val:=?_,fR:=?_,sep:=?_,inj:=?_,st:=?_,top:=?_,iW:=?_,mb:=?_}⟩,hlv E (by rw[hh.base.n];exact Nat.zero_lt_one) V hf hf',{le:=.refl E,os:=rfl,tape:=rfl,output:=rfl,size:=by simp,frame:=?_,jZ:=λb o u h=>.inl h,own:=?_}⟩
 .intro id ob hops sz rows h4 h5;obtain⟨rfl,rfl,h6⟩:=hgb h5;cases h6
  obtain⟨_,_,rfl⟩:=hno4 h4;refine⟨by rw[gC,hlen];exact hlen0,λr hr=>by obtain⟨z,_,rfl⟩:=gY.1 hr;rfl,_,e,hnew,by simp[putCells,h2],?_⟩;intro i k c hcc;unfold cellAt at hcc;rw[gy]at hcc;cases hz:zs'[i]? with
  |none=>rw[hz]at hcc;simp at hcc
  |some z=>
   rw[hz]at hcc;simp only[gK,gW]at hcc;have hi:=(gh.1 hz).1;cases k with
   |succ k=>simp at hcc
   |zero=>
    simp at hcc;subst hcc;refine⟨.int .i64 z,?_,.v _ V,rfl⟩;rw[sY,sy];simp only[putCells,Array.getElem?_mapIdx];rw[hcell i aw];simp only[gK,pa,true_and,ux,gU,gz hi,rS];have:zs'[i]=z:=by rw[gk hi]at hz;exact gA hz
    simp[getElem!_pos,hi,this]
 .intro id hops id' hops' x y h4 h5 _;obtain⟨rfl,rfl,_⟩:=hgb h4;obtain⟨rfl,rfl,_⟩:=hgb h5;exact dN
 .intro b o u hu;obtain⟨h4,h5⟩:=hh.base.qA b o u hu;refine⟨?_,h5⟩;unfold World.cell? at h4|-;split at h4
  .rename_i c t z hcc;rw[QJ (gM.1 hcc).1 (hst b o u hu).symm,hcc];exact h4
  .cases h4
 .intro id hops x o u h4 hu;obtain⟨rfl,rfl,_⟩:=hgb h4;exact absurd V (hst _ o u hu)
 .intro id ob h4 _;obtain⟨_,rfl,rfl⟩:=hno4 h4;exact⟨_,by rw[<-hty];exact hnew⟩
 .intro id ob h4;obtain⟨_,_,rfl⟩:=hno4 h4;exact pa _
 .intro id ob h4 hk;exact dT
 .intro id b ob ⟨ob',_,h4,hk,_⟩ _;exact dT
 .intro id b ⟨ob',_,h4,hk,_⟩;exact dT
 .intro id id' b ⟨ob',_,h4,hk,_⟩;exact dT
 .intro id b ob o u ⟨ob',_,h4,hk,_⟩;exact dT
 .intro id ob k u h4 hk;exact dT
 .intro id ob o t h4 hk;exact dT
 .intro id id' b ⟨ob',_,_,h4,hk,_⟩;exact dT
 .intro k hk hno;refine QJ hk λhe=>hno (.inl ⟨0,[],(1,zs.map ly),by simp[qd,kF],he⟩)
 .intro b hb;rcases hb with⟨id,hops,x,h4,rfl⟩|⟨id,hb⟩
  .obtain⟨rfl,rfl,_⟩:=hgb h4;exact .inr (.inl ⟨0,[],(1,zs.map ly),by simp[qd,kF],rfl⟩)
  .exfalso
   rcases hb with⟨ob',_,h4,hk,_⟩|⟨ob',_,_,h4,hk,_⟩ <;> · exact dT
end Go.Ab
namespace Go.Ab
open Go.Proofs Tryz Go.Sort Go.RowKit Go.Lib
def zuh(w:World)(b k:Nat)(d:Array Int)(hH:Holds encI w b 0 d)(hk:k<d.size):
  w.drew.setCells b (0+k*1) ((d.toList.drop (k+1)).map encI)=putRow encI (Sort.ahead w 1) b 0 (lay d k (d.toList.drop (k+1))):=by
 rw[sY,<-putRow_setCells encI (Sort.ahead w 1) b 0 _ d k aA,putRow_self encI (Sort.ahead w 1) b 0 d (holds_ahead encI w 1 b 0 d hH)]
 rfl
set_option maxRecDepth 1000000 in
def WM(b cap k j:Nat)(hj:j=k+1)(d:Array Int)(w:World)(hH:Holds encI w b 0 d)(hcap:d.size<=cap)(hk:k<d.size):
  Calls prog 61 #[.slice (some ⟨b,0,none⟩) d.size cap,.int .i64 k,.int .i64 j] w λe w'=>e=.returned (.slice (some ⟨b,0,none⟩) (d.size-1) cap)/\∃q,w'=putRow encI (Sort.ahead w q) b 0 (d.toList.take k++d.toList.drop j++[0]).toArray:=by
 have hnl:((d.toList.drop j).map encI).length=d.size-j:=aj
 have hget:∀t u,((d.toList.drop j).map encI)[t]?=some u->w.drew.cell? ⟨b,j+t,none⟩=some u:=λt u hu=>by
  rw[gy,rb]at hu;cases hx:d.toList[j+t]? with
  |none=>rw[hx]at hu;cases hu
  |some x=>
   rw[hx]at hu;cases hu
   have fE:j+t<d.size:=by simpa using (gh.1 hx).1
   have:=(hH (j+t) fE).1;rw[gU]at this;refine(show w.drew.cell? _=w.cell? _ from V).trans (this.trans ?_);rw[getElem!_pos d _ fE];rw[pD,rV fE]at hx;rw[gA hx]
 obtain⟨A,hA,hsrc⟩:∃A:Addr,(if cap=j then some (⟨b,0,none⟩:Addr) else some ⟨b,j,none⟩)=some A/\Hid (∀t u,((d.toList.drop j).map encI)[t]?=some u->w.drew.cell? (A.add t)=some u):=by
  by_cases h:cap=j
  .refine⟨⟨b,0,none⟩,aH,λt u hu=>?_⟩;have h0:((d.toList.drop j).map encI).length=0:=by rw[hnl];omega
   rw[rF.1 h0]at hu;simp at hu
  .exact⟨⟨b,j,none⟩,aH,λt u hu=>by rw[Addr.add_lit];exact hget t u hu⟩
 obtain⟨W1,hW1⟩:∃W1,W1=w.drew.setCells b (0+k*1) ((d.toList.drop j).map encI):=⟨_,rfl⟩;have hrow:W1=putRow encI (Sort.ahead w 1) b 0 (lay d k (d.toList.drop j)):=by subst hj;exact hW1.trans (zuh w b k d hH hk)
 have hH1:Holds encI W1 b 0 (lay d k (d.toList.drop j)):=by rw[hrow];exact holds_putRow encI _ b 0 d _ (holds_ahead encI w 1 b 0 d hH) (lay_size _ _ _)
 obtain⟨g,hg⟩:∃g,g=k+(d.size-j):=⟨_,rfl⟩
 have hcl:∀ty,(Builtin.clear_ #[28] ty #[.slice (some ⟨b,k+(d.size-j),none⟩) (d.size-(k+(d.size-j))) (cap-(k+(d.size-j)))]).run prog W1=.ok (.tuple #[]) (W1.setCells b (k+(d.size-j)) (List.replicate (d.size-(k+(d.size-j))) (encI 0))):=λty=>
  Lib.run_clear_slice W1 _ _ ty _ underlying28 zeroValue3 V V b _ _ _ aw (λt ht=>by have:=(hH1 (k+(d.size-j)+t) (by rw[lay_size];omega)).1;rw[gU]at this;rw[this];rfl) (λt ht=>by have:=(hH1 (k+(d.size-j)+t) (by rw[lay_size];omega)).2;rw[gU]at this;exact this)
 have s1:Hid (((d.toList.drop j).map encI).length=(d.size-j)*1):=by rw[sY];exact hnl
 have s2:Hid (∀u∈(d.toList.drop j).map encI,u.oneCell'=true):=λu hu=>by obtain⟨x,_,rfl⟩:=gY.1 hu;rfl
 have s3:Hid (∀t,t<((d.toList.drop j).map encI).length->(w.drew.cell? ⟨b,0+k*1+t,none⟩).isSome=true/\w.drew.frozen? ⟨b,0+k*1+t,none⟩=false):=λt ht=>by
  rw[hnl]at ht;rw[sY,se];exact⟨by show(w.cell? _).isSome=true;rw[(hH (k+t) aw).1];rfl,(hH (k+t) aw).2⟩
 have hend:Aside (W1.setCells b (k+(d.size-j)) (List.replicate (d.size-(k+(d.size-j))) (encI 0))=putRow encI (Sort.ahead w 1) b 0 (d.toList.take k++d.toList.drop j++[0]).toArray):=by
  show _=_;rw[hrow,show d.size-(k+(d.size-j))=1 from aw,show List.replicate 1 (encI 0)=(List.replicate 1 (0:Int)).map encI from V,show k+(d.size-j)=0+(k+(d.size-j)) from(gU _).symm,putRow_setCells encI _ b 0 _ _ _ (by rw[lay_size];simp;omega)];have:=delete_arr d k j 0 aw aw;rw[show j-k=1 from aw]at this;rw[this]
  rfl
 have hW:Hid (W1=w.drew.setCells b (0+k*1) ((d.toList.drop j).map encI)):=hW1;have hic:k<=cap:=aw
 have hjc:j<=cap:=aw
 have hjs:j<=d.size:=aw
 have hkj:k<=j:=aw
 have hne:k≠j:=aw
 obtain⟨i0,hi0,hz1⟩:∃i0,prog.info? 3=some i0/\i0.size=1:=⟨_,rfl,rfl⟩;have mixed:prog.follows .mixedOrders=true:=au
 have hjj:Hid (d.size-1=k+(d.size-j)):=by show _=_;omega
 clear hW1 hrow hH1 hH hget hnl hg hj
 generalize (d.toList.drop j).map encI=news at *
 go_enter func61,Tryz.ntmps61
 go_wp2_with fail
 go_region_law_o (refine step_append_room V (.tmp 22) (.tmp 25) 28 V 3 i0 1 underlying28 hi0 hz1 b 0 k cap (by simp[Act.eval,Act.put]) A (d.size-j) (cap-j) news (by simp[Act.eval,Act.put]) s1.out hsrc.out s2.out aw s3.out ?_;rw[<-hW.out])
 go_wp2
 go_ret
 exact⟨by rw[hjj.out];rfl,1,hend.out⟩
end Go.Ab
namespace Go.Pla
open Go.Ab Go.Proofs Tryz Go.Hy
variable{f:FuncId}{caps:List C}
def vd:Ah:=⟨0,0,0,0,0,0⟩
def od(f a:fN):Bool:=decide (f.kind=6) && (decide (a.kind=1) && (decide (f.version=a.version) && (decide (f.zg=a.zg) && (decide (f.end_=a.end_) && (decide (f.slot=a.slot) && decide (f.listen=a.listen))))))
def iS(given:List fN)(f:fN)(n:Nat):Bool:=match given[n]? with|some a=>od f a|none=>false
def BB(given:List fN)(out:List Nat)(i:Nat):List Nat:=match given[i]? with
 |some a=>if a.kind=1 then out++[i] else match out.findIdx? (iS given a) with
  |some k=>out.eraseIdx k
  |none=>out
 |none=>out
def jw(given:List fN):Nat->List Nat
 |0=>[]
 |k+1=>BB given (jw given k) k
def qG(given:List fN):List Nat:=jw given given.length
def ky(given:List fN):∀k,k<=given.length->∀n∈jw given k,n<k
 |0,_,n,h=>by simp[jw]at h
 |k+1,hk,n,h=>by
  have ih:=ky given k aw;unfold jw BB at h;split at h
  .split at h
   .rcases pw.1 h with h|h
    .have:=ih n h;omega
    .simp at h;omega
   .split at h
    .have:=ih n (List.mem_of_mem_eraseIdx h);omega
    .have:=ih n h;omega
  .have:=ih n h;omega
def kZ(given:List fN):∀k,(jw given k).length<=k
 |0=>by simp[jw]
 |k+1=>by
  have ih:=kZ given k;unfold jw BB;split
  .split
   .simp;omega
   .split
    .have:=List.length_eraseIdx_le (jw given k) ‹Nat›;omega
    .omega
  .omega
abbrev rN(n:Nat):List C:=[I (n:Int)]
def Lq(a:fN):fN:={a with kind:=1,n:=0,counts:=vd}
def X5(given:List fN)(out:List Nat)(a:fN)(n:Nat)(hn:n<given.length)(hlen:given.length<4000000000000000000)(ha:a.kind=6):
  tj 60 [⟨1,49,1,[[lA given]],0⟩,⟨2,3,1,out.map rN,0⟩,⟨1,66,13,[xx (Lq a)],0⟩] ([I n]++[.ref 0 [] 1 0 0,.ref 2 [] 13 0 0]) (Bo (iS given a n)) [⟨1,49,1,[[lA given]],0⟩,⟨2,3,1,out.map rN,0⟩,⟨1,66,13,[xx (Lq a)],0⟩]:=by
 have hb:given[n]?=some given[n]:=gk hn;generalize given[n]=b at hb;have gb:(given.map xx)[n]?=some (xx b):=by rw[gy,hb];rfl
 have e:iS given a n=od a b:=by unfold iS;rw[hb]
 rw[e];refine zb.zN (fn:=f60) func60 V (uH ?_);refine⟨aw,_,gb,dd ?_⟩;refine⟨au,dd ?_⟩;refine⟨λh=>?_,λh=>?_⟩ <;> refine dd ?_
 .exact⟨.inl V,⟨(.za::.za::.za::.za::Bo true::tY ([.za,.za,.za])),_⟩,cE 3,rfl,uN (h.symm.trans cH)⟩
 .exact⟨.inl V,⟨(.za::.za::.za::.za::Bo false::tY ([.za,.za,.za])),_⟩,cE 3,rfl,uN (h.symm.trans cH)⟩
def Yh{Y X:Ob}{l:List Nat}{full:Bool}(p:Nat->Bool)(hcb:qh prog f=true)(hp:∀r∈l,tj f [Y,⟨2,3,1,l.map rN,0⟩,X] ([I r]++caps) (Bo (p r)) [Y,⟨2,3,1,l.map rN,0⟩,X])(hl:l.length<4611686018427387904):
  tj 59 [Y,⟨2,3,1,l.map rN,0⟩,X] [.sl 1 [] 1 0 l.length full,.fn f [] caps] (I (match l.findIdx? p with|some i=>(i:Int)|none=> -1)) [Y,⟨2,3,1,l.map rN,0⟩,X]:=by
 refine zb.zN (fn:=f59) func59 V (uH ?_)
 refine qg.inv (λn t1 H1=>∃k,k+n=l.length/\H1=[Y,⟨2,3,1,l.map rN,0⟩,X]/\(∀j,j<k->∀r,l[j]?=some r->p r=false)/\
   t1=(.sl 1 [] 1 0 l.length full::.fn f [] caps::.za::.za::I 0::.za::.za::I l.length::I k::tY ([.za,.za]))) l.length ?_ ?_
 .exact c9
 rintro n _ _ ⟨k,hk,rfl,hno,rfl⟩;conv=>whnf
 refine⟨λh=>?_,λh=>?_⟩
 .conv=>whnf
  have fE:k<l.length:=aq h
  have hq:l[k]?=some l[k]:=gk fE;have gq:(l.map rN)[k]?=some (rN l[k]):=by rw[gy,hq];rfl
  refine⟨aw,fE,dd ?_⟩;refine⟨_,by rw[gU];exact gq,dd ?_⟩;refine⟨aj,dd ?_⟩;rw[hcb];refine⟨_,_,hp _ (pt fE),dd ?_⟩;refine⟨λh2=>?_,λh2=>?_⟩
  .refine dd ?_;refine zaJ ?_
   have:l.findIdx? p=some k:=by
    rw[gS];refine⟨fE,h2,λj hj=>?_⟩;simp[hno j hj _ (gk aw)]
   rw[this];exact uJ
  .refine dd ?_;refine .inl ⟨rfl,n-1,_,_,aw,zp.mask [0,1,4,7,8] _ _,k+1,aw,rfl,?_,?_⟩
   .intro j hj r hr;by_cases hjk:j=k
    .subst hjk;rw[hq]at hr;cases hr
     exact h2
    .exact dV
   .rw[zw aw];rfl
 .refine dd ?_;refine zaJ ?_
  have:l.findIdx? p=none:=by
   rw[gV];intro x hx;obtain⟨j,hj⟩:=gI.1 hx;have hjl:=(gh.1 hj).1;have:¬k<l.length:=aq h
   exact dU
  rw[this];exact uJ
def zyY(l:List Nat):l.map rN=(l.map λ(n:Nat)=>(n:Int)).map ly:=by simp[ly,rN]
def zsM(l:List Nat)(k:Nat)(hk:k<l.length):
  tj 61 [⟨2,3,1,l.map rN,0⟩] [.sl 0 [] 1 0 l.length false,I k,I ((k+1:Nat):Int)] (.sl 0 [] 1 0 (l.length-1) false) [⟨2,3,1,(l.eraseIdx k).map rN,0⟩]:=by
 have e2:((l.map λ(n:Nat)=>(n:Int)).toArray.toList.take k++(l.map λ(n:Nat)=>(n:Int)).toArray.toList.drop (k+1)++[0])=((l.eraseIdx k++[0]).map λ(n:Nat)=>(n:Int)):=by
  rw[List.eraseIdx_eq_take_drop_succ];simp[u4,List.map_drop]
 have h:=zb.ofRow (P:=prog) (f:=61) (ty:=3) (full:=false) (zs:=l.map λ(n:Nat)=>(n:Int)) (zs':=(l.eraseIdx k++[0]).map λ(n:Nat)=>(n:Int)) (xs:=[.int .i64 k,.int .i64 ((k+1:Nat):Int)]) (r:=.sl 0 [] 1 0 (l.length-1) false)
  (by simp[List.length_eraseIdx,hk];omega) (by simp[Value.oneCell']) λb cap w hH hb hcap=>by
  refine(WM b cap k (k+1) V (l.map λ(n:Nat)=>(n:Int)).toArray w hH (aq hcap) (aq hk)).mono ?_;rintro e w' ⟨rfl,q,rfl⟩;refine⟨_,rfl,λE hE hb _ hf=>?_,q, #[],?_⟩
  .have hcap:l.length<=cap:=by simpa using hcap
   have:=L.sl (E:=E) 0 [] 1 0 (l.length-1) false cap hE aw (λh=>by cases h) (λ_=>by rw[gU];exact hf V);rw[hb]at this;simpa using this
  .rw[e2,Go.Sort.grow_empty]
 rw[gC,<-zyY]at h;refine h.o7 (λB _ _=>?_) (gG _);have e3:((l.eraseIdx k++[0]).map λ(n:Nat)=>(n:Int)).map ly=(l.eraseIdx k).map rN++[rN 0]:=by simp[ly,rN]
 rw[e3];refine zp.shrink (s:=⟨[_],[⟨2,3,1,(l.eraseIdx k).map rN++[rN 0],0⟩]⟩) 0 (rows':=[rN 0]) V λr hr c hc=>?_
 have:∃n,r=rN n:=by
  rcases pw.1 hr with h|h
  .obtain⟨n,_,rfl⟩:=gY.1 h;exact⟨n,rfl⟩
  .exact⟨0,gZ.1 h⟩
 obtain⟨n,rfl⟩:=this;simp at hc;subst hc
 rfl
def YE{Y X:Ob}:
  tj 59 [Y,X] [.fF 1 0 [],.fn f [] caps] (I (-1)) [Y,X]:=by
 refine zb.zN (fn:=f59) func59 V (uH ?_);refine Aw.BV 1 (LoopN.step ?_);conv=>whnf
 refine⟨λh=>absurd h ar,λ_=>dd ?_⟩;refine zaJ ?_;exact uJ
def k8(given:List fN)(k:Nat)(a:fN)(ha:given[k]?=some a):jw given (k+1)=if a.kind=1 then jw given k++[k] else match (jw given k).findIdx? (iS given a) with
  |some j=>(jw given k).eraseIdx j
  |none=>jw given k:=by
 show BB given (jw given k) k=_;unfold BB;rw[ha]
def zuQ{given:List fN}{a:fN}(h:a.kind≠6):iS given a=λ_=>false:=by
 funext n
 unfold iS od;cases given[n]? <;> simp[h]
def O7(given:List fN)(k:Nat)(a:fN)(ha:given[k]?=some a)(h1:a.kind≠1)(h6:a.kind≠6):jw given (k+1)=jw given k:=by
 rw[k8 given k a ha,gp h1,zuQ h6];have:(jw given k).findIdx? (λ_=>false)=none:=by rw[gV];simp
 rw[this]
def SO(l:List Nat):∀r∈l.map rN,∀c∈r,zB c=true:=λr hr c hc=>by
 obtain⟨n,_,rfl⟩:=gY.1 hr;simp at hc;subst hc
 rfl
def zyX(l:List Nat):(l.map rN).all (·.all zB)=true:=by
 simp only[gE];exact SO l
def PL(given:List fN)(hlen:given.length<1000000000000):tj 33 [] [lA given] (lI ((qG given).map λ(n:Nat)=>(n:Int))) []:=by
 have m1:(given.map xx).length=given.length:=gC ..;refine ab func33 ?_;rw[m1];refine qg.inv (λn t1 H1=>∃k,k+n=given.length/\((t1=(.za::.ref 0 [] 1 0 0::.fF 1 0 []::.fF 1 0 []::.za::.za::.za::(lA given)::I given.length::I (k:Nat)::tY (tY (tY ([.za,.za,.za,.za,.za,.za]))))/\H1=[⟨1,49,1,[[lA given]],0⟩]/\jw given k=[])\/(t1=(.za::.ref 0 [] 1 0 0::.fF 1 0 []::.sl 1 [] 1 0 (jw given (k)).length false::.za::.za::.za::(lA given)::I given.length::I (k:Nat)::tY (tY (tY ([.za,.za,.za,.za,.za,.za]))))/\H1=[⟨1,49,1,[[lA given]],0⟩,⟨2,3,1,(jw given k).map rN,0⟩]))) given.length ?_ ?_
 .exact⟨_,_,cC,0,aj,.inl ⟨rfl,rfl,rfl⟩⟩
 rintro n _ _ ⟨k,hk,⟨rfl,rfl,hout⟩|⟨rfl,rfl⟩⟩
 .conv=>whnf
  refine⟨λh=>?_,λh=>?_⟩
  .refine dd ?_;have fE:k<given.length:=by simpa using h
   have hq:given[k]?=some given[k]:=gk fE;generalize given[k]=a at hq;have gq:(given.map xx)[k]?=some (xx a):=by rw[gy,hq];rfl
   refine⟨aw,_,gq,dd ?_⟩;refine⟨λh1=>?_,λh1=>?_⟩
   .refine dd ?_;have hk1:a.kind=1:=by simpa using h1
    refine .inr (dd ?_);refine⟨.inl V,ar,ar,dd ?_⟩;rw[zw aw];have e:jw given (k+1)=[k]:=by rw[k8 given k a hq,gz hk1,hout];rfl
    refine .inl ⟨rfl,n-1,_,_,aw,zp.fL [0,2] [1,2,3,7,8,9] _ _ V V V V,k+1,aw,.inr ⟨?_,?_⟩⟩
    .rw[e];rfl
    .rw[e];rfl
   .refine dd ?_;refine⟨λh6=>?_,λh6=>?_⟩
    .refine dd ?_;have hk6:a.kind=6:=by simpa using h6
     refine⟨_,_,YE,dd ?_⟩;refine hZ ?_
     rw[zw aw];have e:jw given (k+1)=[]:=by rw[k8 given k a hq,gp aw,hout];rfl
     exact .inl ⟨rfl,n-1,_,_,aw,zp.fL [0] [1,2,3,7,8,9] _ _ V V V V,k+1,aw,.inl ⟨rfl,rfl,e⟩⟩
    .refine dd ?_;have e:jw given (k+1)=[]:=by rw[O7 given k a hq tG (aq h6),hout]
     rw[zw aw];exact .inl ⟨rfl,n-1,_,_,aw,zp.fL [0] [1,2,3,7,8,9] _ _ V V V V,k+1,aw,.inl ⟨rfl,rfl,e⟩⟩
  .refine dd ?_;refine zaJ ?_
   have ek:k=given.length:=by
     have:¬k<given.length:=aq h
     omega
   have e:qG given=[]:=by unfold qG;rw[<-ek];exact hout
   rw[e];exact dy
 .conv=>whnf
  refine⟨λh=>?_,λh=>?_⟩
  .refine dd ?_;have fE:k<given.length:=by simpa using h
   have hq:given[k]?=some given[k]:=gk fE;generalize given[k]=a at hq;have gq:(given.map xx)[k]?=some (xx a):=by rw[gy,hq];rfl
   refine⟨aw,_,gq,dd ?_⟩;refine⟨λh1=>?_,λh1=>?_⟩
   .refine dd ?_;have hk1:a.kind=1:=by simpa using h1
    have hle:=kZ given k;refine⟨aj,zyX _,ay,bj,dd ?_⟩;have e:jw given (k+1)=jw given k++[k]:=by rw[k8 given k a hq,gz hk1]
    rw[zw aw];refine .inl ⟨rfl,n-1,_,_,aw,zp.fL [0,3] [1,2,3,7,8,9] _ _ V V V V,k+1,aw,.inr ⟨?_,?_⟩⟩
    .rw[e,pz];rfl
    .rw[e,pR];rfl
   .refine dd ?_;refine⟨λh6=>?_,λh6=>?_⟩
    .refine dd ?_;have hk6:a.kind=6:=by simpa using h6
     refine⟨_,_,Yh (iS given a) V (λr hr=>X5 given (jw given k) a r (by have:=ky given k aw r hr;omega) aw hk6) (by have:=kZ given k;omega),dd ?_⟩;cases hf:(jw given k).findIdx? (iS given a) with
     |none=>
      refine dd ?_;refine⟨λh=>absurd h ar,λ_=>dd ?_⟩;have e:jw given (k+1)=jw given k:=by rw[k8 given k a hq,gp aw,hf]
      rw[zw aw];refine .inl ⟨rfl,n-1,_,_,aw,zp.fL [0,1] [1,2,3,7,8,9] _ _ V V V V,k+1,aw,.inr ⟨?_,?_⟩⟩
      .rw[e];rfl
      .rw[e];rfl
     |some j=>
      obtain⟨hj1,_,_⟩:=gS.1 hf;have hle:=kZ given k;refine dd ?_;refine⟨λ_=>dd ?_,λh=>absurd h aj⟩;rw[zw aw];refine af [1] (zsM (jw given k) j hj1) ?_;have e:jw given (k+1)=(jw given k).eraseIdx j:=by rw[k8 given k a hq,gp aw,hf]
      have el:((jw given k).eraseIdx j).length=(jw given k).length-1:=by rw[List.length_eraseIdx,gz hj1]
      rw[zw aw];refine .inl ⟨rfl,n-1,_,_,aw,zp.fL [0,1] [1,2,3,7,8,9] _ _ V V V V,k+1,aw,.inr ⟨?_,?_⟩⟩
      .rw[e,el];rfl
      .rw[e];rfl
    .refine dd ?_;have e:jw given (k+1)=jw given k:=O7 given k a hq tG (aq h6);rw[zw aw];refine .inl ⟨rfl,n-1,_,_,aw,zp.fL [0,1] [1,2,3,7,8,9] _ _ V V V V,k+1,aw,.inr ⟨?_,?_⟩⟩
     .rw[e];rfl
     .rw[e];rfl
  .refine dd ?_;refine zaJ ?_
   have ek:k=given.length:=by
     have:¬k<given.length:=aq h
     omega
   have e:qG given=jw given k:=by unfold qG;rw[<-ek]
   rw[e];refine⟨.inl V,_,zp.Lu 2 V V aj (SO _),?_⟩;refine(show _=some (C.fF 0 1 ((jw given k).map rN)) from V).trans ?_;simp[rN,Hy.encI,Function.comp_def]
end Go.Pla
