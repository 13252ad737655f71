import Derived.Sort.Grow
import Derived.Shelf.Slices.Delete
import Derived.Test.YtamgiodaflkbhaaGreatVJ
import Derived.Test.YtamgiodaflkbhaaGreatProg
set_option linter.all false
set_option maxRecDepth 100000
set_option maxHeartbeats 4000000
namespace Go.Ab
open Go.Sort
variable{w:World}{d:Array Int}{os:Array Obj}
abbrev l7(n:Int):List C:=[.v (.int .i64 n)]
def UU{b n:Nat}{cur:Array Value}{e:TypeId}{fr:Nat×Nat}(h:w.heap[b]?=some (.cells cur e fr)):
  (grow (putRow (Value.int .i64) (Sort.ahead w n) b 0 d) os).heap[b]?=some (.cells (putCells (Value.int .i64) 0 d cur) e fr):=by
 have ft:=(pP.1 h).1;unfold Sort.grow putRow mapBlock Sort.ahead;rw[uv mF,ti,pD V,h]
 rfl
def Lg{b n k:Nat}(hk:k<w.heap.size)(hne:b≠k):
  (grow (putRow (Value.int .i64) (Sort.ahead w n) b 0 d) os).heap[k]?=w.heap[k]?:=by
 unfold Sort.grow putRow mapBlock Sort.ahead;rw[uv (ai hk),ti,pA hne]
def zb.ofRow{P:Program}{f:FuncId}{ty:TypeId}{zs zs':List Int}{full:Bool}{xs:List Value}{r:C}(hlen:zs'.length=zs.length)(hxs:∀x∈xs,x.oneCell'=true)
 (hc:∀(b cap:Nat) (w:World),Holds (Value.int .i64) w b 0 zs.toArray->b<w.heap.size->zs.length<=cap->
   Calls P f (#[.slice (some ⟨b,0,none⟩) zs.length cap]++xs.toArray) w λe w'=>∃v,e=.returned v/\(∀E:Env,0<E.n->E.β 0 []=b->(full=true->cap=zs.length)->(full=false->cap=E.κ 0 [])->L E r v)/\∃n os,w'=grow (putRow (Value.int .i64) (Sort.ahead w n) b 0 zs'.toArray) os):
  zb P f [⟨2,ty,1,zs.map l7,0⟩] (.sl 0 [] 1 0 zs.length full::xs.map .v) r [⟨2,ty,1,zs'.map l7,0⟩]:=λw E vs hh hl=>by
 have hob:([⟨2,ty,1,zs.map l7,0⟩]:zq)[0]?=some ⟨2,ty,1,zs.map l7,0⟩:=rfl;have hb:=hh.base.fH 0 _ [] 1 (zs.map l7) hob (by simp[qe,v7]);obtain⟨cur,e,h1,h2,h3⟩:=hb.fH;rw[uy]at h2;have hlen0:=hb.len;rw[pz]at hlen0;have hsize:=(pP.1 h1).1;obtain⟨v0,hv0,hl0⟩:=hl.get (i:=0) V
 obtain⟨cap,rfl,hcap,hf,hf'⟩:∃cap,v0=.slice (some ⟨E.β 0 [],0,none⟩) zs.length cap/\zs.length<=cap/\(full=true->cap=zs.length)/\(full=false->cap=E.κ 0 []):=by
  generalize hcc:C.sl 0 [] 1 0 zs.length full=cc at hl0;cases hl0 <;> cases hcc
  rename_i cap hn hlen hf' hf;exact⟨cap,ah,hlen,hf,λh=>by simpa using hf' h⟩
 have hvs:vs= #[.slice (some ⟨E.β 0 [],0,none⟩) zs.length cap]++xs.toArray:=by
  apply Array.ext'
  have hll:vs.toList.length=xs.length+1:=by rw[<-hl.1];simp
  apply rL
  intro i;cases i with
  |zero=>rw[hv0];simp
  |succ i=>
   rw[uz,fj,sx];simp only[List.nil_append];cases hx:xs[i]? with
   |none=>
    rw[rT]at hx|-;omega
   |some x=>
    obtain⟨y,hy,hly⟩:=hl.get (i:=i+1) (c:=.v x) (by simp[hx]);rw[hy];cases hly
    rfl
 have hcell:∀j,j<zs.length->cur[j]?=some (.int .i64 zs[j]!):=λj hj=>by
  obtain⟨u,hu,hlu⟩:=h3 j 0 (.v (.int .i64 zs[j]!)) (by simp[cellAt,hj,getElem!_pos]);rw[uy,tv]at hu;rw[hu];cases hlu.1
  rfl
 have hold:Holds (Value.int .i64) w (E.β 0 []) 0 zs.toArray:=λj hj=>by
  have hj:j<zs.length:=ai hj
  refine⟨?_,?_⟩
  .unfold World.cell?;rw[h1];simp only[pK];rw[hcell j hj];simp[getElem!_pos,hj]
  .unfold World.frozen?;rw[h1];simp
 rw[hvs];refine(hc (E.β 0 []) cap w hold hsize hcap).mono ?_;rintro e' w' ⟨v,rfl,hlv,n,os,rfl⟩
 have hgb:∀{id hops x},qe ([⟨2,ty,1,zs'.map l7,0⟩]:zq) id hops=some x->id=0/\hops=[]/\x=(1,zs'.map l7):=λ{id hops x} hx=>by
  unfold qe at hx;cases id with
  |succ id=>simp at hx
  |zero=>
   refine⟨rfl,?_⟩;simp at hx;cases hops with
   |nil=>simp[v7]at hx;exact⟨rfl,hx.symm⟩
   |cons p ps=>
    obtain⟨i,k⟩:=p;simp only[v7]at hx;split at hx
    .rename_i hc;unfold cellAt at hc;rw[pw]at hc;cases hz:zs'[i]? with
     |none=>rw[hz]at hc;simp at hc
     |some z=>
      rw[hz]at hc;simp only[pL,ri]at hc;cases k <;> simp at hc
    .cases hx
 have hnew:=UU (n:=n) (d:=zs'.toArray) (os:=os) h1
 have hst:∀b o u,E.St b o=some u->b≠E.β 0 []:=λb o u hu he=>by
  subst he;obtain⟨_,ob,h4,h5⟩:=hh.base.sep 0 [] (1,zs.map l7) o u (by simp[qe,v7]) hu;rw[hob]at h4;cases h4
  simp at h5
 have hno4:∀{id ob},([⟨2,ty,1,zs'.map l7,0⟩]:zq)[id]?=some ob->ob.kind=2/\id=0/\ob=⟨2,ty,1,zs'.map l7,0⟩:=λ{id ob} h=>by
  cases id with
  |zero=>simp at h;subst h;exact⟨rfl,rfl,rfl⟩
  |succ id=>simp at h
 have hty:e=ty:=by
  obtain⟨cur2,h4⟩:=hh.base.ty 0 _ hob V;rw[h1]at h4;cases h4
  rfl
 refine⟨v,E,rfl,⟨{n:=by rw[hh.base.n];rfl,fH:=?_,inj:=?_,qp:=?_,sep:=?_,ty:=?_,fz:=?_},{val:=?_,fH:=?_,sep:=?_,inj:=?_,st:=?_,top:=?_,iK:=?_,wZ:=?_}⟩,hlv E (by rw[hh.base.n];exact Nat.zero_lt_one) V hf hf',{le:=.refl E,os:=rfl,tape:=rfl,output:=rfl,size:=by simp,frame:=?_,jB:=λb o u h=>.inl h,own:=?_}⟩
 .intro id ob hops sz rows h4 h5;obtain⟨rfl,rfl,h6⟩:=hgb h5;cases h6
  obtain⟨_,_,rfl⟩:=hno4 h4;refine⟨by rw[pz,hlen];exact hlen0,λr hr=>by obtain⟨z,_,rfl⟩:=rp.1 hr;rfl,_,e,hnew,by simp[putCells,h2],?_⟩;intro i k c hcc;unfold cellAt at hcc;rw[pw]at hcc;cases hz:zs'[i]? with
  |none=>rw[hz]at hcc;simp at hcc
  |some z=>
   rw[hz]at hcc;simp only[pL,ri]at hcc;have hi:=(px.1 hz).1;cases k with
   |succ k=>simp at hcc
   |zero=>
    simp at hcc;subst hcc;refine⟨.int .i64 z,?_,.v _ V,rfl⟩;rw[uy,tv];simp only[putCells,Array.getElem?_mapIdx];rw[hcell i an];simp only[pL,pW,true_and,ue,pK,pD hi,sK];have:zs'[i]=z:=by rw[pq hi]at hz;exact rV hz
    simp[getElem!_pos,hi,this]
 .intro id hops id' hops' x y h4 h5 _;obtain⟨rfl,rfl,_⟩:=hgb h4;obtain⟨rfl,rfl,_⟩:=hgb h5;exact gO
 .intro b o u hu;obtain⟨h4,h5⟩:=hh.base.qp b o u hu;refine⟨?_,h5⟩;unfold World.cell? at h4|-;split at h4
  .rename_i c t z hcc;rw[Lg (pP.1 hcc).1 (hst b o u hu).symm,hcc];exact h4
  .cases h4
 .intro id hops x o u h4 hu;obtain⟨rfl,rfl,_⟩:=hgb h4;exact absurd V (hst _ o u hu)
 .intro id ob h4 _;obtain⟨_,rfl,rfl⟩:=hno4 h4;exact⟨_,by rw[<-hty];exact hnew⟩
 .intro id ob h4;obtain⟨_,_,rfl⟩:=hno4 h4;exact pW _
 .intro id ob h4 hk;exact g9
 .intro id b ob ⟨ob',_,h4,hk,_⟩ _;exact g9
 .intro id b ⟨ob',_,h4,hk,_⟩;exact g9
 .intro id id' b ⟨ob',_,h4,hk,_⟩;exact g9
 .intro id b ob o u ⟨ob',_,h4,hk,_⟩;exact g9
 .intro id ob k u h4 hk;exact g9
 .intro id ob o t h4 hk;exact g9
 .intro id id' b ⟨ob',_,_,h4,hk,_⟩;exact g9
 .intro k hk hno;refine Lg hk λhe=>hno (.inl ⟨0,[],(1,zs.map l7),by simp[qe,v7],he⟩)
 .intro b hb;rcases hb with⟨id,hops,x,h4,rfl⟩|⟨id,hb⟩
  .obtain⟨rfl,rfl,_⟩:=hgb h4;exact .inr (.inl ⟨0,[],(1,zs.map l7),by simp[qe,v7],rfl⟩)
  .exfalso
   rcases hb with⟨ob',_,h4,hk,_⟩|⟨ob',_,_,h4,hk,_⟩ <;> · exact g9
end Go.Ab
namespace Go.Ab
open Go.Proofs Tryz Go.Sort Go.RowKit Go.Lib
def UI(w:World)(b k:Nat)(d:Array Int)(hH:Holds encI w b 0 d)(hk:k<d.size):
  w.drew.setCells b (0+k*1) ((d.toList.drop (k+1)).map encI)=putRow encI (Sort.ahead w 1) b 0 (lay d k (d.toList.drop (k+1))):=by
 rw[uy,<-putRow_setCells encI (Sort.ahead w 1) b 0 _ d k ar,putRow_self encI (Sort.ahead w 1) b 0 d (holds_ahead encI w 1 b 0 d hH)]
 rfl
set_option maxRecDepth 1000000 in
def PV(b cap k j:Nat)(hj:j=k+1)(d:Array Int)(w:World)(hH:Holds encI w b 0 d)(hcap:d.size<=cap)(hk:k<d.size):
  Calls prog 136 #[.slice (some ⟨b,0,none⟩) d.size cap,.int .i64 k,.int .i64 j] w λe w'=>e=.returned (.slice (some ⟨b,0,none⟩) (d.size-1) cap)/\∃q,w'=putRow encI (Sort.ahead w q) b 0 (d.toList.take k++d.toList.drop j++[0]).toArray:=by
 have hnl:((d.toList.drop j).map encI).length=d.size-j:=ah
 have hget:∀t u,((d.toList.drop j).map encI)[t]?=some u->w.drew.cell? ⟨b,j+t,none⟩=some u:=λt u hu=>by
  rw[pw,rM]at hu;cases hx:d.toList[j+t]? with
  |none=>rw[hx]at hu;cases hu
  |some x=>
   rw[hx]at hu;cases hu
   have ft:j+t<d.size:=by simpa using (px.1 hx).1
   have:=(hH (j+t) ft).1;rw[pK]at this;refine(show w.drew.cell? _=w.cell? _ from V).trans (this.trans ?_);rw[getElem!_pos d _ ft];rw[rm,sB ft]at hx;rw[rV hx]
 obtain⟨A,hA,hsrc⟩:∃A:Addr,(if cap=j then some (⟨b,0,none⟩:Addr) else some ⟨b,j,none⟩)=some A/\Hid (∀t u,((d.toList.drop j).map encI)[t]?=some u->w.drew.cell? (A.add t)=some u):=by
  by_cases h:cap=j
  .refine⟨⟨b,0,none⟩,aA,λt u hu=>?_⟩;have h0:((d.toList.drop j).map encI).length=0:=by rw[hnl];omega
   rw[sf.1 h0]at hu;simp at hu
  .exact⟨⟨b,j,none⟩,aA,λt u hu=>by rw[Addr.add_lit];exact hget t u hu⟩
 obtain⟨W1,hW1⟩:∃W1,W1=w.drew.setCells b (0+k*1) ((d.toList.drop j).map encI):=⟨_,rfl⟩;have hrow:W1=putRow encI (Sort.ahead w 1) b 0 (lay d k (d.toList.drop j)):=by subst hj;exact hW1.trans (UI w b k d hH hk)
 have hH1:Holds encI W1 b 0 (lay d k (d.toList.drop j)):=by rw[hrow];exact holds_putRow encI _ b 0 d _ (holds_ahead encI w 1 b 0 d hH) (lay_size _ _ _)
 obtain⟨g,hg⟩:∃g,g=k+(d.size-j):=⟨_,rfl⟩
 have hcl:∀ty,(Builtin.clear_ #[28] ty #[.slice (some ⟨b,k+(d.size-j),none⟩) (d.size-(k+(d.size-j))) (cap-(k+(d.size-j)))]).run prog W1=.ok (.tuple #[]) (W1.setCells b (k+(d.size-j)) (List.replicate (d.size-(k+(d.size-j))) (encI 0))):=λty=>
  Lib.run_clear_slice W1 _ _ ty _ underlying28 zeroValue3 V V b _ _ _ an (λt ht=>by have:=(hH1 (k+(d.size-j)+t) (by rw[lay_size];omega)).1;rw[pK]at this;rw[this];rfl) (λt ht=>by have:=(hH1 (k+(d.size-j)+t) (by rw[lay_size];omega)).2;rw[pK]at this;exact this)
 have s1:Hid (((d.toList.drop j).map encI).length=(d.size-j)*1):=by rw[uy];exact hnl
 have s2:Hid (∀u∈(d.toList.drop j).map encI,u.oneCell'=true):=λu hu=>by obtain⟨x,_,rfl⟩:=rp.1 hu;rfl
 have s3:Hid (∀t,t<((d.toList.drop j).map encI).length->(w.drew.cell? ⟨b,0+k*1+t,none⟩).isSome=true/\w.drew.frozen? ⟨b,0+k*1+t,none⟩=false):=λt ht=>by
  rw[hnl]at ht;rw[uy,sS];exact⟨by show(w.cell? _).isSome=true;rw[(hH (k+t) an).1];rfl,(hH (k+t) an).2⟩
 have hend:Aside (W1.setCells b (k+(d.size-j)) (List.replicate (d.size-(k+(d.size-j))) (encI 0))=putRow encI (Sort.ahead w 1) b 0 (d.toList.take k++d.toList.drop j++[0]).toArray):=by
  show _=_;rw[hrow,show d.size-(k+(d.size-j))=1 from an,show List.replicate 1 (encI 0)=(List.replicate 1 (0:Int)).map encI from V,show k+(d.size-j)=0+(k+(d.size-j)) from(pK _).symm,putRow_setCells encI _ b 0 _ _ _ (by rw[lay_size];simp;omega)];have:=delete_arr d k j 0 an an;rw[show j-k=1 from an]at this;rw[this]
  rfl
 have hW:Hid (W1=w.drew.setCells b (0+k*1) ((d.toList.drop j).map encI)):=hW1;have hic:k<=cap:=an
 have hjc:j<=cap:=an
 have hjs:j<=d.size:=an
 have hkj:k<=j:=an
 have hne:k≠j:=an
 obtain⟨i0,hi0,hz1⟩:∃i0,prog.info? 3=some i0/\i0.size=1:=⟨_,rfl,rfl⟩;have mixed:prog.follows .mixedOrders=true:=ak
 have hjj:Hid (d.size-1=k+(d.size-j)):=by show _=_;omega
 clear hW1 hrow hH1 hH hget hnl hg hj
 generalize (d.toList.drop j).map encI=news at *
 go_enter func136,Tryz.ntmps136
 go_wp2_with fail
 go_region_law_o (refine step_append_room V (.tmp 22) (.tmp 25) 28 V 3 i0 1 underlying28 hi0 hz1 b 0 k cap (by simp[Act.eval,Act.put]) A (d.size-j) (cap-j) news (by simp[Act.eval,Act.put]) s1.out hsrc.out s2.out an s3.out ?_;rw[<-hW.out])
 go_wp2
 go_ret
 exact⟨by rw[hjj.out];rfl,1,hend.out⟩
end Go.Ab
namespace Go.Pla
open Go.Ab Go.Proofs Tryz Go.Hy
variable{f:FuncId}{caps:List C}
def Ay:oU:=⟨0,0,0,0,0,0⟩
def vh(f a:fM):Bool:=decide (f.kind=6) && (decide (a.kind=1) && (decide (f.version=a.version) && (decide (f.zp=a.zp) && (decide (f.end_=a.end_) && (decide (f.slot=a.slot) && decide (f.listen=a.listen))))))
def fU(given:List fM)(f:fM)(n:Nat):Bool:=match given[n]? with|some a=>vh f a|none=>false
def o6(given:List fM)(out:List Nat)(i:Nat):List Nat:=match given[i]? with
 |some a=>if a.kind=1 then out++[i] else match out.findIdx? (fU given a) with
  |some k=>out.eraseIdx k
  |none=>out
 |none=>out
def qJ(given:List fM):Nat->List Nat
 |0=>[]
 |k+1=>o6 given (qJ given k) k
def q7(given:List fM):List Nat:=qJ given given.length
def wO(given:List fM):∀k,k<=given.length->∀n∈qJ given k,n<k
 |0,_,n,h=>by simp[qJ]at h
 |k+1,hk,n,h=>by
  have ih:=wO given k an;unfold qJ o6 at h;split at h
  .split at h
   .rcases pS.1 h with h|h
    .have:=ih n h;omega
    .simp at h;omega
   .split at h
    .have:=ih n (List.mem_of_mem_eraseIdx h);omega
    .have:=ih n h;omega
  .have:=ih n h;omega
def ke(given:List fM):∀k,(qJ given k).length<=k
 |0=>by simp[qJ]
 |k+1=>by
  have ih:=ke given k;unfold qJ o6;split
  .split
   .simp;omega
   .split
    .have:=List.length_eraseIdx_le (qJ given k) ‹Nat›;omega
    .omega
  .omega
abbrev rN(n:Nat):List C:=[I (n:Int)]
def GO(a:fM):fM:={a with kind:=1,n:=0,counts:=Ay}
def xU(f a:fM):th 86 [] [.agg (qY f),.agg (qY a)] (Bo (vh f a)) []:=by
 refine ab func86 ?_;refine⟨λh1=>?_,λh1=>?_⟩
 rotate_left
 .refine dd ?_
  (exact⟨.inl V,_,.refl _,uN (by unfold vh;simp at h1|-;simp[h1])⟩)
 refine dd ?_;refine⟨λh2=>?_,λh2=>?_⟩
 rotate_left
 .refine dd ?_
  (exact⟨.inl V,_,.refl _,uN (by unfold vh;simp at h1 h2|-;simp[h1,h2])⟩)
 refine dd ?_;refine⟨λh3=>?_,λh3=>?_⟩
 rotate_left
 .refine dd ?_
  (exact⟨.inl V,_,.refl _,uN (by unfold vh;simp at h1 h2 h3|-;simp[h1,h2,h3])⟩)
 refine dd ?_;refine⟨λh4=>?_,λh4=>?_⟩
 rotate_left
 .refine dd ?_
  (exact⟨.inl V,_,.refl _,uN (by unfold vh;simp at h1 h2 h3 h4|-;simp[h1,h2,h3,h4])⟩)
 refine dd ?_;refine⟨λh5=>?_,λh5=>?_⟩
 rotate_left
 .refine dd ?_
  (exact⟨.inl V,_,.refl _,uN (by unfold vh;simp at h1 h2 h3 h4 h5|-;simp[h1,h2,h3,h4,h5])⟩)
 refine dd ?_;refine⟨λh6=>?_,λh6=>?_⟩
 rotate_left
 .refine dd ?_
  (exact⟨.inl V,_,.refl _,uN (by unfold vh;simp at h1 h2 h3 h4 h5 h6|-;simp[h1,h2,h3,h4,h5,h6])⟩)
 refine dd ?_;refine⟨λh7=>?_,λh7=>?_⟩
 .refine dd ?_
  (exact⟨.inl V,_,.refl _,uN b9⟩)
 .refine dd ?_
  (exact⟨.inl V,_,.refl _,uN b9⟩)
def Rn(given:List fM)(out:List Nat)(a:fM)(n:Nat)(hn:n<given.length)(hlen:given.length<4000000000000000000)(ha:a.kind=6):
  th 135 [⟨1,49,1,[[lA given]],0⟩,⟨2,3,1,out.map rN,0⟩,⟨1,55,13,[qY (GO a)],0⟩] ([I n]++[.ref 0 [] 1 0 0,.ref 2 [] 13 0 0]) (Bo (fU given a n)) [⟨1,49,1,[[lA given]],0⟩,⟨2,3,1,out.map rN,0⟩,⟨1,55,13,[qY (GO a)],0⟩]:=by
 have hb:given[n]?=some given[n]:=pq hn;generalize given[n]=b at hb;have gb:(given.map qY)[n]?=some (qY b):=by rw[pw,hb];rfl
 have e:fU given a n=vh a b:=by unfold fU;rw[hb]
 rw[e];refine zb.zX (fn:=f135) func135 V (uH ?_);refine⟨an,_,gb,dd ?_⟩;refine⟨ak,dd ?_⟩;refine⟨λh=>?_,λh=>?_⟩ <;> refine dd ?_
 .exact⟨.inl V,⟨(.za::.za::.za::.za::Bo true::mL ([.za,.za,.za])),_⟩,cE 3,rfl,uN (h.symm.trans cb)⟩
 .exact⟨.inl V,⟨(.za::.za::.za::.za::Bo false::mL ([.za,.za,.za])),_⟩,cE 3,rfl,uN (h.symm.trans cb)⟩
def S5{Y X:Ob}{l:List Nat}{full:Bool}(p:Nat->Bool)(hcb:qv prog f=true)(hp:∀r∈l,th f [Y,⟨2,3,1,l.map rN,0⟩,X] ([I r]++caps) (Bo (p r)) [Y,⟨2,3,1,l.map rN,0⟩,X])(hl:l.length<4611686018427387904):
  th 107 [Y,⟨2,3,1,l.map rN,0⟩,X] [.sl 1 [] 1 0 l.length full,.fn f [] caps] (I (match l.findIdx? p with|some i=>(i:Int)|none=> -1)) [Y,⟨2,3,1,l.map rN,0⟩,X]:=by
 refine zb.zX (fn:=f107) func107 V (uH ?_)
 refine zH.inv (λn t1 H1=>∃k,k+n=l.length/\H1=[Y,⟨2,3,1,l.map rN,0⟩,X]/\(∀j,j<k->∀r,l[j]?=some r->p r=false)/\
   t1=(.sl 1 [] 1 0 l.length full::.fn f [] caps::.za::.za::I 0::.za::.za::I l.length::I k::mL ([.za,.za]))) l.length ?_ ?_
 .exact dS
 rintro n _ _ ⟨k,hk,rfl,hno,rfl⟩;conv=>whnf
 refine⟨λh=>?_,λh=>?_⟩
 .conv=>whnf
  have ft:k<l.length:=ai h
  have hq:l[k]?=some l[k]:=pq ft;have gq:(l.map rN)[k]?=some (rN l[k]):=by rw[pw,hq];rfl
  refine⟨an,ft,dd ?_⟩;refine⟨_,by rw[pK];exact gq,dd ?_⟩;refine⟨ah,dd ?_⟩;rw[hcb];refine⟨_,_,hp _ (rj ft),dd ?_⟩;refine⟨λh2=>?_,λh2=>?_⟩
  .refine zci ?_
   have:l.findIdx? p=some k:=by
    rw[pT];refine⟨ft,h2,λj hj=>?_⟩;simp[hno j hj _ (pq an)]
   rw[this];exact uJ
  .refine dd ?_;refine .inl ⟨rfl,n-1,_,_,an,zl.mask [0,1,4,7,8] _ _,k+1,an,rfl,?_,?_⟩
   .intro j hj r hr;by_cases hjk:j=k
    .subst hjk;rw[hq]at hr;cases hr
     exact h2
    .exact hno j an r hr
   .rw[zk an];rfl
 .refine zci ?_
  have:l.findIdx? p=none:=by
   rw[pX];intro x hx;obtain⟨j,hj⟩:=pV.1 hx;have hjl:=(px.1 hj).1;have:¬k<l.length:=ai h
   exact hno j an x hj
  rw[this];exact uJ
def WA(l:List Nat):l.map rN=(l.map λ(n:Nat)=>(n:Int)).map l7:=by simp[l7,rN]
def TY(l:List Nat)(k:Nat)(hk:k<l.length):
  th 136 [⟨2,3,1,l.map rN,0⟩] [.sl 0 [] 1 0 l.length false,I k,I ((k+1:Nat):Int)] (.sl 0 [] 1 0 (l.length-1) false) [⟨2,3,1,(l.eraseIdx k).map rN,0⟩]:=by
 have e2:((l.map λ(n:Nat)=>(n:Int)).toArray.toList.take k++(l.map λ(n:Nat)=>(n:Int)).toArray.toList.drop (k+1)++[0])=((l.eraseIdx k++[0]).map λ(n:Nat)=>(n:Int)):=by
  rw[List.eraseIdx_eq_take_drop_succ];simp[s5,List.map_drop]
 have h:=zb.ofRow (P:=prog) (f:=136) (ty:=3) (full:=false) (zs:=l.map λ(n:Nat)=>(n:Int)) (zs':=(l.eraseIdx k++[0]).map λ(n:Nat)=>(n:Int)) (xs:=[.int .i64 k,.int .i64 ((k+1:Nat):Int)]) (r:=.sl 0 [] 1 0 (l.length-1) false)
  (by simp[List.length_eraseIdx,hk];omega) (by simp[Value.oneCell']) λb cap w hH hb hcap=>by
  refine(PV b cap k (k+1) V (l.map λ(n:Nat)=>(n:Int)).toArray w hH (ai hcap) (ai hk)).mono ?_;rintro e w' ⟨rfl,q,rfl⟩;refine⟨_,rfl,λE hE hb _ hf=>?_,q, #[],?_⟩
  .have hcap:l.length<=cap:=by simpa using hcap
   have:=L.sl (E:=E) 0 [] 1 0 (l.length-1) false cap hE an (λh=>by cases h) (λ_=>by rw[pK];exact hf V);rw[hb]at this;simpa using this
  .rw[e2,Go.Sort.grow_empty]
 rw[pz,<-WA]at h;refine h.ng (λB _ _=>?_) (pN _);have e3:((l.eraseIdx k++[0]).map λ(n:Nat)=>(n:Int)).map l7=(l.eraseIdx k).map rN++[rN 0]:=by simp[l7,rN]
 rw[e3];refine zl.shrink (s:=⟨[_],[⟨2,3,1,(l.eraseIdx k).map rN++[rN 0],0⟩]⟩) 0 (rows':=[rN 0]) V λr hr c hc=>?_
 have:∃n,r=rN n:=by
  rcases pS.1 hr with h|h
  .obtain⟨n,_,rfl⟩:=rp.1 h;exact⟨n,rfl⟩
  .exact⟨0,rH.1 h⟩
 obtain⟨n,rfl⟩:=this;simp at hc;subst hc
 rfl
def RN{Y X:Ob}:
  th 107 [Y,X] [.fq 1 0 [],.fn f [] caps] (I (-1)) [Y,X]:=by
 refine zb.zX (fn:=f107) func107 V (uH ?_);refine AY.FB 1 (LoopN.step ?_);conv=>whnf
 refine⟨λh=>absurd h aj,λ_=>dd ?_⟩;refine zaW ?_;exact uJ
def vb(given:List fM)(k:Nat)(a:fM)(ha:given[k]?=some a):qJ given (k+1)=if a.kind=1 then qJ given k++[k] else match (qJ given k).findIdx? (fU given a) with
  |some j=>(qJ given k).eraseIdx j
  |none=>qJ given k:=by
 show o6 given (qJ given k) k=_;unfold o6;rw[ha]
def LB{given:List fM}{a:fM}(h:a.kind≠6):fU given a=λ_=>false:=by
 funext n
 unfold fU vh;cases given[n]? <;> simp[h]
def J1(given:List fM)(k:Nat)(a:fM)(ha:given[k]?=some a)(h1:a.kind≠1)(h6:a.kind≠6):qJ given (k+1)=qJ given k:=by
 rw[vb given k a ha,pA h1,LB h6];have:(qJ given k).findIdx? (λ_=>false)=none:=by rw[pX];simp
 rw[this]
def Mw(l:List Nat):∀r∈l.map rN,∀c∈r,zF c=true:=λr hr c hc=>by
 obtain⟨n,_,rfl⟩:=rp.1 hr;simp at hc;subst hc
 rfl
def Wz(l:List Nat):(l.map rN).all (·.all zF)=true:=by
 simp only[pG];exact Mw l
def SK(given:List fM)(hlen:given.length<1000000000000):th 82 [] [lA given] (lI ((q7 given).map λ(n:Nat)=>(n:Int))) []:=by
 have m1:(given.map qY).length=given.length:=pz ..;refine ab func82 ?_;rw[m1];refine zH.inv (λn t1 H1=>∃k,k+n=given.length/\((t1=(.za::.ref 0 [] 1 0 0::.fq 1 0 []::.fq 1 0 []::.za::.za::.za::(lA given)::I given.length::I (k:Nat)::mL (mL (mL ([.za,.za,.za,.za,.za,.za]))))/\H1=[⟨1,49,1,[[lA given]],0⟩]/\qJ given k=[])\/(t1=(.za::.ref 0 [] 1 0 0::.fq 1 0 []::.sl 1 [] 1 0 (qJ given (k)).length false::.za::.za::.za::(lA given)::I given.length::I (k:Nat)::mL (mL (mL ([.za,.za,.za,.za,.za,.za]))))/\H1=[⟨1,49,1,[[lA given]],0⟩,⟨2,3,1,(qJ given k).map rN,0⟩]))) given.length ?_ ?_
 .exact⟨_,_,cC,0,ah,.inl ⟨rfl,rfl,rfl⟩⟩
 rintro n _ _ ⟨k,hk,⟨rfl,rfl,hout⟩|⟨rfl,rfl⟩⟩
 .conv=>whnf
  refine⟨λh=>?_,λh=>?_⟩
  .refine dd ?_;have ft:k<given.length:=by simpa using h
   have hq:given[k]?=some given[k]:=pq ft;generalize given[k]=a at hq;have gq:(given.map qY)[k]?=some (qY a):=by rw[pw,hq];rfl
   refine⟨an,_,gq,dd ?_⟩;refine⟨λh1=>?_,λh1=>?_⟩
   .refine dd ?_;have hk1:a.kind=1:=by simpa using h1
    refine .inr (dd ?_);refine⟨.inl V,aj,aj,dd ?_⟩;rw[zk an];have e:qJ given (k+1)=[k]:=by rw[vb given k a hq,pD hk1,hout];rfl
    refine .inl ⟨rfl,n-1,_,_,an,zl.fD [0,2] [1,2,3,7,8,9] _ _ V V V V,k+1,an,.inr ⟨?_,?_⟩⟩
    .rw[e];rfl
    .rw[e];rfl
   .refine dd ?_;refine⟨λh6=>?_,λh6=>?_⟩
    .refine dd ?_;have hk6:a.kind=6:=by simpa using h6
     refine⟨_,_,RN,dd ?_⟩;refine td ?_
     rw[zk an];have e:qJ given (k+1)=[]:=by rw[vb given k a hq,pA an,hout];rfl
     exact .inl ⟨rfl,n-1,_,_,an,zl.fD [0] [1,2,3,7,8,9] _ _ V V V V,k+1,an,.inl ⟨rfl,rfl,e⟩⟩
    .refine dd ?_;have e:qJ given (k+1)=[]:=by rw[J1 given k a hq uZ (ai h6),hout]
     rw[zk an];exact .inl ⟨rfl,n-1,_,_,an,zl.fD [0] [1,2,3,7,8,9] _ _ V V V V,k+1,an,.inl ⟨rfl,rfl,e⟩⟩
  .refine zci ?_
   have ek:k=given.length:=by
     have:¬k<given.length:=ai h
     omega
   have e:q7 given=[]:=by unfold q7;rw[<-ek];exact hout
   rw[e];exact dN
 .conv=>whnf
  refine⟨λh=>?_,λh=>?_⟩
  .refine dd ?_;have ft:k<given.length:=by simpa using h
   have hq:given[k]?=some given[k]:=pq ft;generalize given[k]=a at hq;have gq:(given.map qY)[k]?=some (qY a):=by rw[pw,hq];rfl
   refine⟨an,_,gq,dd ?_⟩;refine⟨λh1=>?_,λh1=>?_⟩
   .refine dd ?_;have hk1:a.kind=1:=by simpa using h1
    have hle:=ke given k;refine⟨ah,Wz _,aq,aL,dd ?_⟩;have e:qJ given (k+1)=qJ given k++[k]:=by rw[vb given k a hq,pD hk1]
    rw[zk an];refine .inl ⟨rfl,n-1,_,_,an,zl.fD [0,3] [1,2,3,7,8,9] _ _ V V V V,k+1,an,.inr ⟨?_,?_⟩⟩
    .rw[e,rB];rfl
    .rw[e,ry];rfl
   .refine dd ?_;refine⟨λh6=>?_,λh6=>?_⟩
    .refine dd ?_;have hk6:a.kind=6:=by simpa using h6
     refine⟨_,_,S5 (fU given a) V (λr hr=>Rn given (qJ given k) a r (by have:=wO given k an r hr;omega) an hk6) (by have:=ke given k;omega),dd ?_⟩;cases hf:(qJ given k).findIdx? (fU given a) with
     |none=>
      refine dd ?_;refine⟨λh=>absurd h aj,λ_=>dd ?_⟩;have e:qJ given (k+1)=qJ given k:=by rw[vb given k a hq,pA an,hf]
      rw[zk an];refine .inl ⟨rfl,n-1,_,_,an,zl.fD [0,1] [1,2,3,7,8,9] _ _ V V V V,k+1,an,.inr ⟨?_,?_⟩⟩
      .rw[e];rfl
      .rw[e];rfl
     |some j=>
      obtain⟨hj1,_,_⟩:=pT.1 hf;have hle:=ke given k;refine dd ?_;refine zcp ?_;rw[zk an];refine ae [1] (TY (qJ given k) j hj1) ?_;have e:qJ given (k+1)=(qJ given k).eraseIdx j:=by rw[vb given k a hq,pA an,hf]
      have el:((qJ given k).eraseIdx j).length=(qJ given k).length-1:=by rw[List.length_eraseIdx,pD hj1]
      rw[zk an];refine .inl ⟨rfl,n-1,_,_,an,zl.fD [0,1] [1,2,3,7,8,9] _ _ V V V V,k+1,an,.inr ⟨?_,?_⟩⟩
      .rw[e,el];rfl
      .rw[e];rfl
    .refine dd ?_;have e:qJ given (k+1)=qJ given k:=J1 given k a hq uZ (ai h6);rw[zk an];refine .inl ⟨rfl,n-1,_,_,an,zl.fD [0,1] [1,2,3,7,8,9] _ _ V V V V,k+1,an,.inr ⟨?_,?_⟩⟩
     .rw[e];rfl
     .rw[e];rfl
  .refine zci ?_
   have ek:k=given.length:=by
     have:¬k<given.length:=ai h
     omega
   have e:q7 given=qJ given k:=by unfold q7;rw[<-ek]
   rw[e];refine⟨.inl V,_,zl.GH 2 V V ah (Mw _),?_⟩;refine(show _=some (C.fq 0 1 ((qJ given k).map rN)) from V).trans ?_;simp[rN,Hy.encI,Function.comp_def]
def xk(p:Nat->Bool):List Nat->List Nat
 |[]=>[]
 |x::l=>if p x then l else x::xk p l
def JN(p:Nat->Bool):∀l:List Nat,xk p l=match l.findIdx? p with|some k=>l.eraseIdx k|none=>l
 |[]=>rfl
 |x::l=>by
  unfold xk;rw[sG];cases hx:p x with
  |true=>simp
  |false=>
   simp only[s8,if_false];rw[JN p l];cases l.findIdx? p <;> simp
def Kb(p:Nat->Bool)(l:List Nat)(k:Nat)(x:Nat)(hx:l[k]?=some x):xk p (l.take (k+1))=if !(l.take k).any p && p x then xk p (l.take k) else xk p (l.take k)++[x]:=by
 have e:l.take (k+1)=l.take k++[x]:=by rw[tr,hx];rfl
 rw[e];generalize l.take k=m
 induction m with
 |nil=>cases hp:p x <;> simp[xk,hp]
 |cons y m ih=>
  cases hy:p y with
  |true=>simp[xk,hy]
  |false=>
   simp only[fj,xk,hy,s8,if_false,List.any_cons,sD];rw[ih];split <;> simp
def Gk(p:Nat->Bool):∀l:List Nat,(xk p l).length<=l.length
 |[]=>pN _
 |x::l=>by
  unfold xk;split
  .simp
  .have:=Gk p l;simp;omega
def Ks(given:List fM)(k:Nat)(a:fM)(ha:given[k]?=some a):qJ given (k+1)=xk (fU given a) (if a.kind=1 then qJ given k++[k] else qJ given k):=by
 rw[vb given k a ha,JN];by_cases h1:a.kind=1
 .rw[pD h1,pD h1,LB an];have:(qJ given k++[k]).findIdx? (λ_=>false)=none:=by rw[pX];simp
  rw[this]
 .rw[pA h1,pA h1]
  try (cases (qJ given k).findIdx? (fU given a) <;> rfl)
def Ro(given:List fM)(hlen:given.length<1000000000000):th 46 [] [lA given] (lI ((q7 given).map λ(n:Nat)=>(n:Int))) []:=by
 have m1:(given.map qY).length=given.length:=pz ..;refine ab func46 ?_;refine zH.seq given.length (λk=>((lA given)::.za::.fq 1 0 []::.gl 0 1 ((qJ given k).map rN)::I k::mL (jp (mL ([.za,.za,.za,.za]))))) (λk=>[⟨4,3,1,(qJ given k).map rN,0⟩]) (λ_=>True) ?_ trivial (λk hk _=>?_) (λ_=>?_)
 .exact(zl.grow 3 3 1 V (.inl V)).trans (cC)
 .conv=>whnf
  rw[m1];have hq:given[k]?=some given[k]:=pq hk;generalize given[k]=a at hq;have gq:(given.map qY)[k]?=some (qY a):=by rw[pw,hq];rfl
  have hle:=ke given k;have ft:=wO given k an;refine uF ?_;refine⟨an,_,gq,dd ?_⟩;refine⟨λh1=>?_,λh1=>?_⟩
  .refine dd ?_;have hk1:a.kind=1:=by simpa using h1
   refine⟨rfl,.inr V,aq,aL,dd ?_⟩;have hst:=Ks given k a hq;rw[pD hk1]at hst;obtain⟨o,ho⟩:∃o,o=qJ given k++[k]:=⟨_,rfl⟩;have em:(qJ given k).map rN++[[C.v (.int .i64 k)]]=o.map rN:=by rw[ho];simp
   have ho2:o.length<=k+1:=by rw[ho];simp;omega
   have ho3:∀n∈o,n<given.length:=λn hn=>by
    rw[ho]at hn;rcases pS.1 hn with h|h
    .have:=ft n h;omega
    .simp at h;omega
   have ml:(o.map rN).length=o.length:=pz ..;rw[<-ho]at hst;rw[em]
   clear ho em
   refine zH.seq o.length (λj=>((lA given)::.za::.fq 1 0 []::.gl 0 1 (o.map rN)::I k::.gl 1 1 ((xk (fU given a) (o.take j)).map rN)::Bo ((o.take j).any (fU given a))::I j::mL (jp (mL ([.za]))))) (λj=>[⟨4,3,1,o.map rN,0⟩,⟨4,3,1,(xk (fU given a) (o.take j)).map rN,0⟩]) (λ_=>True) ?_ trivial (λj hj _=>?_) (λ_=>?_)
   .exact(zl.grow 5 3 1 V (.inl V)).trans (cC)
   .have hqj:o[j]?=some o[j]:=pq hj;have hxl:=ho3 o[j] (rj hj);generalize o[j]=x at hqj hxl;have gj:(o.map rN)[j]?=some (rN x):=by rw[pw,hqj];rfl
    have hb:given[x]?=some given[x]:=pq hxl;generalize given[x]=b at hb;have gb:(given.map qY)[x]?=some (qY b):=by rw[pw,hb];rfl
    have hat:fU given a x=vh a b:=by unfold fU;rw[hb]
    have hsj:=Kb (fU given a) o j x hqj;have han:(o.take (j+1)).any (fU given a)=((o.take j).any (fU given a) || vh a b):=by rw[tr,hqj];simp[hat]
    have hdl:(xk (fU given a) (o.take j)).length<=j:=rR (Gk _ _) (by rw[sI];omega);rw[hat]at hsj;conv=>whnf
    rw[ml];refine⟨λ_=>?_,λh=>absurd h ar⟩;cases hf:(o.take j).any (fU given a) with
    |true=>
     rw[hf]at hsj han;have hsj:xk (fU given a) (o.take (j+1))=xk (fU given a) (o.take j)++[x]:=by rw[hsj];simp
     refine dd ?_;refine uE ?_;refine zcc ?_;rw[zk an,hsj,han,ry];exact cE 2
    |false=>
     rw[hf]at hsj han;refine dd ?_;refine uE ?_;refine⟨an,_,gq,dd ?_⟩;refine⟨an,_,gj,dd ?_⟩;refine⟨an,_,gb,dd ?_⟩;refine af (xU a b) ?_;refine⟨λh5=>?_,λh5=>?_⟩
     .have hsj:xk (fU given a) (o.take (j+1))=xk (fU given a) (o.take j):=by rw[hsj,h5];simp
      refine dd ?_;refine zap ?_;rw[zk an,hsj,han,h5];exact cE 2
     .have hsj:xk (fU given a) (o.take (j+1))=xk (fU given a) (o.take j)++[x]:=by rw[hsj,h5];simp
      refine dd ?_;refine zcc ?_;rw[zk an,hsj,han,h5,ry];exact cE 2
   .conv=>whnf
    exact zct
  .refine dd ?_;have hst:=Ks given k a hq;rw[pA uZ]at hst;obtain⟨o,ho⟩:∃o,o=qJ given k:=⟨_,rfl⟩;have ho2:o.length<=k+1:=by rw[ho];omega
   have ho3:∀n∈o,n<given.length:=λn hn=>by rw[ho]at hn;have:=ft n hn;omega
   have ml:(o.map rN).length=o.length:=pz ..;rw[<-ho]at hst|-
   clear ho
   refine zH.seq o.length (λj=>((lA given)::.za::.fq 1 0 []::.gl 0 1 (o.map rN)::I k::.gl 1 1 ((xk (fU given a) (o.take j)).map rN)::Bo ((o.take j).any (fU given a))::I j::mL (jp (mL ([.za]))))) (λj=>[⟨4,3,1,o.map rN,0⟩,⟨4,3,1,(xk (fU given a) (o.take j)).map rN,0⟩]) (λ_=>True) ?_ trivial (λj hj _=>?_) (λ_=>?_)
   .exact(zl.grow 5 3 1 V (.inl V)).trans (cC)
   .have hqj:o[j]?=some o[j]:=pq hj;have hxl:=ho3 o[j] (rj hj);generalize o[j]=x at hqj hxl;have gj:(o.map rN)[j]?=some (rN x):=by rw[pw,hqj];rfl
    have hb:given[x]?=some given[x]:=pq hxl;generalize given[x]=b at hb;have gb:(given.map qY)[x]?=some (qY b):=by rw[pw,hb];rfl
    have hat:fU given a x=vh a b:=by unfold fU;rw[hb]
    have hsj:=Kb (fU given a) o j x hqj;have han:(o.take (j+1)).any (fU given a)=((o.take j).any (fU given a) || vh a b):=by rw[tr,hqj];simp[hat]
    have hdl:(xk (fU given a) (o.take j)).length<=j:=rR (Gk _ _) (by rw[sI];omega);rw[hat]at hsj;conv=>whnf
    rw[ml];refine⟨λ_=>?_,λh=>absurd h ar⟩;cases hf:(o.take j).any (fU given a) with
    |true=>
     rw[hf]at hsj han;have hsj:xk (fU given a) (o.take (j+1))=xk (fU given a) (o.take j)++[x]:=by rw[hsj];simp
     refine dd ?_;refine uE ?_;refine zcc ?_;rw[zk an,hsj,han,ry];exact cE 2
    |false=>
     rw[hf]at hsj han;refine dd ?_;refine uE ?_;refine⟨an,_,gq,dd ?_⟩;refine⟨an,_,gj,dd ?_⟩;refine⟨an,_,gb,dd ?_⟩;refine af (xU a b) ?_;refine⟨λh5=>?_,λh5=>?_⟩
     .have hsj:xk (fU given a) (o.take (j+1))=xk (fU given a) (o.take j):=by rw[hsj,h5];simp
      refine dd ?_;refine zap ?_;rw[zk an,hsj,han,h5];exact cE 2
     .have hsj:xk (fU given a) (o.take (j+1))=xk (fU given a) (o.take j)++[x]:=by rw[hsj,h5];simp
      refine dd ?_;refine zcc ?_;rw[zk an,hsj,han,h5,ry];exact cE 2
   .conv=>whnf
    exact zct
 .conv=>whnf
  rw[m1];refine zaf ?_;refine⟨.inl V,_,.refl _,?_⟩;refine(show _=some (C.fq 0 1 ((qJ given given.length).map rN)) from V).trans ?_;simp[rN,Hy.encI,Function.comp_def,q7]
end Go.Pla
