import Derived.Sort.Grow
import Derived.Shelf.Slices.Delete
import Derived.Test.YtdgkfpgepoelcaaGreatSJ
import Derived.Test.YtdgkfpgepoelcaaGreatProg
set_option linter.all false
set_option maxRecDepth 100000
set_option maxHeartbeats 4000000
namespace Go.Ab
open Go.Sort
variable{w:World}{d:Array Int}{os:Array Obj}
abbrev ky(n:Int):List C:=[.v (.int .i64 n)]
def F6{b n:Nat}{cur:Array Value}{e:TypeId}{fr:Nat×Nat}(h:w.heap[b]?=some (.cells cur e fr)):
  (grow (putRow (Value.int .i64) (Sort.ahead w n) b 0 d) os).heap[b]?=some (.cells (putCells (Value.int .i64) 0 d cur) e fr):=by
 have rF:=(db.1 h).1;unfold Sort.grow putRow mapBlock Sort.ahead;rw[po (ak rF),gQ,c7 V,h]
 rfl
def AB{b n k:Nat}(hk:k<w.heap.size)(hne:b≠k):
  (grow (putRow (Value.int .i64) (Sort.ahead w n) b 0 d) os).heap[k]?=w.heap[k]?:=by
 unfold Sort.grow putRow mapBlock Sort.ahead;rw[po (ak hk),gQ,c6 hne]
def zb.ofRow{P:Program}{f:FuncId}{ty:TypeId}{zs zs':List Int}{full:Bool}{xs:List Value}{r:C}(hlen:zs'.length=zs.length)(hxs:∀x∈xs,x.oneCell'=true)
 (hc:∀(b cap:Nat) (w:World),Holds (Value.int .i64) w b 0 zs.toArray->b<w.heap.size->zs.length<=cap->
   Calls P f (#[.slice (some ⟨b,0,none⟩) zs.length cap]++xs.toArray) w λe w'=>∃v,e=.returned v/\(∀E:Env,0<E.n->E.β 0 []=b->(full=true->cap=zs.length)->(full=false->cap=E.κ 0 [])->L E r v)/\∃n os,w'=grow (putRow (Value.int .i64) (Sort.ahead w n) b 0 zs'.toArray) os):
  zb P f [⟨2,ty,1,zs.map ky,0⟩] (.sl 0 [] 1 0 zs.length full::xs.map .v) r [⟨2,ty,1,zs'.map ky,0⟩]:=λw E vs hh hl=>by
 have hob:([⟨2,ty,1,zs.map ky,0⟩]:zf)[0]?=some ⟨2,ty,1,zs.map ky,0⟩:=rfl;have hb:=hh.base.rM 0 _ [] 1 (zs.map ky) hob (by simp[zB,xh]);obtain⟨cur,e,h1,h2,h3⟩:=hb.rM;rw[pr]at h2;have hlen0:=hb.len;rw[cY]at hlen0;have hsize:=(db.1 h1).1;obtain⟨v0,hv0,hl0⟩:=hl.get (i:=0) V
 obtain⟨cap,rfl,hcap,hf,hf'⟩:∃cap,v0=.slice (some ⟨E.β 0 [],0,none⟩) zs.length cap/\zs.length<=cap/\(full=true->cap=zs.length)/\(full=false->cap=E.κ 0 []):=by
  generalize hcc:C.sl 0 [] 1 0 zs.length full=cc at hl0;cases hl0 <;> cases hcc
  rename_i cap hn hlen hf' hf;exact⟨cap,aj,hlen,hf,λh=>by simpa using hf' h⟩
 have hvs:vs= #[.slice (some ⟨E.β 0 [],0,none⟩) zs.length cap]++xs.toArray:=by
  apply Array.ext'
  have hll:vs.toList.length=xs.length+1:=by rw[<-hl.1];simp
  apply dS
  intro i;cases i with
  |zero=>rw[hv0];simp
  |succ i=>
   rw[gX,List.cons_append,gp];simp only[List.nil_append];cases hx:xs[i]? with
   |none=>
    rw[dI]at hx|-;omega
   |some x=>
    obtain⟨y,hy,hly⟩:=hl.get (i:=i+1) (c:=.v x) (by simp[hx]);rw[hy];cases hly
    rfl
 have hcell:∀j,j<zs.length->cur[j]?=some (.int .i64 zs[j]!):=λj hj=>by
  obtain⟨u,hu,hlu⟩:=h3 j 0 (.v (.int .i64 zs[j]!)) (by simp[cellAt,hj,getElem!_pos]);rw[pr,pG]at hu;rw[hu];cases hlu.1
  rfl
 have hold:Holds (Value.int .i64) w (E.β 0 []) 0 zs.toArray:=λj hj=>by
  have hj:j<zs.length:=ak hj
  refine⟨?_,?_⟩
  .unfold World.cell?;rw[h1];simp only[dF];rw[hcell j hj];simp[getElem!_pos,hj]
  .unfold World.frozen?;rw[h1];simp
 rw[hvs];refine(hc (E.β 0 []) cap w hold hsize hcap).mono ?_;rintro e' w' ⟨v,rfl,hlv,n,os,rfl⟩
 have hgb:∀{id hops x},zB ([⟨2,ty,1,zs'.map ky,0⟩]:zf) id hops=some x->id=0/\hops=[]/\x=(1,zs'.map ky):=λ{id hops x} hx=>by
  unfold zB at hx;cases id with
  |succ id=>simp at hx
  |zero=>
   refine⟨rfl,?_⟩;simp at hx;cases hops with
   |nil=>simp[xh]at hx;exact⟨rfl,hx.symm⟩
   |cons p ps=>
    obtain⟨i,k⟩:=p;simp only[xh]at hx;split at hx
    .rename_i hc;unfold cellAt at hc;rw[cX]at hc;cases hz:zs'[i]? with
     |none=>rw[hz]at hc;simp at hc
     |some z=>
      rw[hz]at hc;simp only[dc,dB]at hc;cases k <;> simp at hc
    .cases hx
 have hnew:=F6 (n:=n) (d:=zs'.toArray) (os:=os) h1
 have hst:∀b o u,E.St b o=some u->b≠E.β 0 []:=λb o u hu he=>by
  subst he;obtain⟨_,ob,h4,h5⟩:=hh.base.sep 0 [] (1,zs.map ky) o u (by simp[zB,xh]) hu;rw[hob]at h4;cases h4
  simp at h5
 have hno4:∀{id ob},([⟨2,ty,1,zs'.map ky,0⟩]:zf)[id]?=some ob->ob.kind=2/\id=0/\ob=⟨2,ty,1,zs'.map ky,0⟩:=λ{id ob} h=>by
  cases id with
  |zero=>simp at h;subst h;exact⟨rfl,rfl,rfl⟩
  |succ id=>simp at h
 have hty:e=ty:=by
  obtain⟨cur2,h4⟩:=hh.base.ty 0 _ hob V;rw[h1]at h4;cases h4
  rfl
 refine⟨v,E,rfl,⟨{n:=by rw[hh.base.n];rfl,rM:=?_,inj:=?_,zK:=?_,sep:=?_,ty:=?_,fz:=?_},{val:=?_,rM:=?_,sep:=?_,inj:=?_,st:=?_,top:=?_,sa:=?_,yq:=?_}⟩,hlv E (by rw[hh.base.n];exact Nat.zero_lt_one) V hf hf',{le:=.refl E,os:=rfl,tape:=rfl,output:=rfl,size:=by simp,frame:=?_,qB:=λb o u h=>.inl h,own:=?_}⟩
 .intro id ob hops sz rows h4 h5;obtain⟨rfl,rfl,h6⟩:=hgb h5;cases h6
  obtain⟨_,_,rfl⟩:=hno4 h4;refine⟨by rw[cY,hlen];exact hlen0,λr hr=>by obtain⟨z,_,rfl⟩:=dT.1 hr;rfl,_,e,hnew,by simp[putCells,h2],?_⟩;intro i k c hcc;unfold cellAt at hcc;rw[cX]at hcc;cases hz:zs'[i]? with
  |none=>rw[hz]at hcc;simp at hcc
  |some z=>
   rw[hz]at hcc;simp only[dc,dB]at hcc;have hi:=(cW.1 hz).1;cases k with
   |succ k=>simp at hcc
   |zero=>
    simp at hcc;subst hcc;refine⟨.int .i64 z,?_,.v _ V,rfl⟩;rw[pr,pG];simp only[putCells,Array.getElem?_mapIdx];rw[hcell i ah];simp only[dc,dA,true_and,pK,dF,c7 hi,gu];have:zs'[i]=z:=by rw[cV hi]at hz;exact rA hz
    simp[getElem!_pos,hi,this]
 .intro id hops id' hops' x y h4 h5 _;obtain⟨rfl,rfl,_⟩:=hgb h4;obtain⟨rfl,rfl,_⟩:=hgb h5;exact⟨rfl,rfl⟩
 .intro b o u hu;obtain⟨h4,h5⟩:=hh.base.zK b o u hu;refine⟨?_,h5⟩;unfold World.cell? at h4|-;split at h4
  .rename_i c t z hcc;rw[AB (db.1 hcc).1 (hst b o u hu).symm,hcc];exact h4
  .cases h4
 .intro id hops x o u h4 hu;obtain⟨rfl,rfl,_⟩:=hgb h4;exact absurd V (hst _ o u hu)
 .intro id ob h4 _;obtain⟨_,rfl,rfl⟩:=hno4 h4;exact⟨_,by rw[<-hty];exact hnew⟩
 .intro id ob h4;obtain⟨_,_,rfl⟩:=hno4 h4;exact dA _
 .intro id ob h4 hk;exact cO
 .intro id b ob ⟨ob',_,h4,hk,_⟩ _;exact cO
 .intro id b ⟨ob',_,h4,hk,_⟩;exact cO
 .intro id id' b ⟨ob',_,h4,hk,_⟩;exact cO
 .intro id b ob o u ⟨ob',_,h4,hk,_⟩;exact cO
 .intro id ob k u h4 hk;exact cO
 .intro id ob o t h4 hk;exact cO
 .intro id id' b ⟨ob',_,_,h4,hk,_⟩;exact cO
 .intro k hk hno;refine AB hk λhe=>hno (.inl ⟨0,[],(1,zs.map ky),by simp[zB,xh],he⟩)
 .intro b hb;rcases hb with⟨id,hops,x,h4,rfl⟩|⟨id,hb⟩
  .obtain⟨rfl,rfl,_⟩:=hgb h4;exact .inr (.inl ⟨0,[],(1,zs.map ky),by simp[zB,xh],rfl⟩)
  .exfalso
   rcases hb with⟨ob',_,h4,hk,_⟩|⟨ob',_,_,h4,hk,_⟩ <;> · exact cO
end Go.Ab
namespace Go.Ab
open Go.Proofs Tryz Go.Sort Go.RowKit Go.Lib
def F1(w:World)(b k:Nat)(d:Array Int)(hH:Holds encI w b 0 d)(hk:k<d.size):
  w.drew.setCells b (0+k*1) ((d.toList.drop (k+1)).map encI)=putRow encI (Sort.ahead w 1) b 0 (lay d k (d.toList.drop (k+1))):=by
 rw[pr,<-putRow_setCells encI (Sort.ahead w 1) b 0 _ d k aw,putRow_self encI (Sort.ahead w 1) b 0 d (holds_ahead encI w 1 b 0 d hH)]
 rfl
set_option maxRecDepth 1000000 in
def D7(b cap k j:Nat)(hj:j=k+1)(d:Array Int)(w:World)(hH:Holds encI w b 0 d)(hcap:d.size<=cap)(hk:k<d.size):
  Calls prog 176 #[.slice (some ⟨b,0,none⟩) d.size cap,.int .i64 k,.int .i64 j] w λe w'=>e=.returned (.slice (some ⟨b,0,none⟩) (d.size-1) cap)/\∃q,w'=putRow encI (Sort.ahead w q) b 0 (d.toList.take k++d.toList.drop j++[0]).toArray:=by
 have hnl:((d.toList.drop j).map encI).length=d.size-j:=aj
 have hget:∀t u,((d.toList.drop j).map encI)[t]?=some u->w.drew.cell? ⟨b,j+t,none⟩=some u:=λt u hu=>by
  rw[cX,dM]at hu;cases hx:d.toList[j+t]? with
  |none=>rw[hx]at hu;cases hu
  |some x=>
   rw[hx]at hu;cases hu
   have rF:j+t<d.size:=by simpa using (cW.1 hx).1
   have:=(hH (j+t) rF).1;rw[dF]at this;refine(show w.drew.cell? _=w.cell? _ from V).trans (this.trans ?_);rw[getElem!_pos d _ rF];rw[dw,gz rF]at hx;rw[rA hx]
 obtain⟨A,hA,hsrc⟩:∃A:Addr,(if cap=j then some (⟨b,0,none⟩:Addr) else some ⟨b,j,none⟩)=some A/\Hid (∀t u,((d.toList.drop j).map encI)[t]?=some u->w.drew.cell? (A.add t)=some u):=by
  by_cases h:cap=j
  .refine⟨⟨b,0,none⟩,aG,λt u hu=>?_⟩;have h0:((d.toList.drop j).map encI).length=0:=by rw[hnl];omega
   rw[gN.1 h0]at hu;simp at hu
  .exact⟨⟨b,j,none⟩,aG,λt u hu=>by rw[Addr.add_lit];exact hget t u hu⟩
 obtain⟨W1,hW1⟩:∃W1,W1=w.drew.setCells b (0+k*1) ((d.toList.drop j).map encI):=⟨_,rfl⟩;have hrow:W1=putRow encI (Sort.ahead w 1) b 0 (lay d k (d.toList.drop j)):=by subst hj;exact hW1.trans (F1 w b k d hH hk)
 have hH1:Holds encI W1 b 0 (lay d k (d.toList.drop j)):=by rw[hrow];exact holds_putRow encI _ b 0 d _ (holds_ahead encI w 1 b 0 d hH) (lay_size _ _ _)
 obtain⟨g,hg⟩:∃g,g=k+(d.size-j):=⟨_,rfl⟩
 have hcl:∀ty,(Builtin.clear_ #[22] ty #[.slice (some ⟨b,k+(d.size-j),none⟩) (d.size-(k+(d.size-j))) (cap-(k+(d.size-j)))]).run prog W1=.ok (.tuple #[]) (W1.setCells b (k+(d.size-j)) (List.replicate (d.size-(k+(d.size-j))) (encI 0))):=λty=>
  Lib.run_clear_slice W1 _ _ ty _ underlying22 zeroValue3 V V b _ _ _ ah (λt ht=>by have:=(hH1 (k+(d.size-j)+t) (by rw[lay_size];omega)).1;rw[dF]at this;rw[this];rfl) (λt ht=>by have:=(hH1 (k+(d.size-j)+t) (by rw[lay_size];omega)).2;rw[dF]at this;exact this)
 have s1:Hid (((d.toList.drop j).map encI).length=(d.size-j)*1):=by rw[pr];exact hnl
 have s2:Hid (∀u∈(d.toList.drop j).map encI,u.oneCell'=true):=λu hu=>by obtain⟨x,_,rfl⟩:=dT.1 hu;rfl
 have s3:Hid (∀t,t<((d.toList.drop j).map encI).length->(w.drew.cell? ⟨b,0+k*1+t,none⟩).isSome=true/\w.drew.frozen? ⟨b,0+k*1+t,none⟩=false):=λt ht=>by
  rw[hnl]at ht;rw[pr,gM];exact⟨by show(w.cell? _).isSome=true;rw[(hH (k+t) ah).1];rfl,(hH (k+t) ah).2⟩
 have hend:Aside (W1.setCells b (k+(d.size-j)) (List.replicate (d.size-(k+(d.size-j))) (encI 0))=putRow encI (Sort.ahead w 1) b 0 (d.toList.take k++d.toList.drop j++[0]).toArray):=by
  show _=_;rw[hrow,show d.size-(k+(d.size-j))=1 from ah,show List.replicate 1 (encI 0)=(List.replicate 1 (0:Int)).map encI from V,show k+(d.size-j)=0+(k+(d.size-j)) from(dF _).symm,putRow_setCells encI _ b 0 _ _ _ (by rw[lay_size];simp;omega)];have:=delete_arr d k j 0 ah ah;rw[show j-k=1 from ah]at this;rw[this]
  rfl
 have hW:Hid (W1=w.drew.setCells b (0+k*1) ((d.toList.drop j).map encI)):=hW1;have hic:k<=cap:=ah
 have hjc:j<=cap:=ah
 have hjs:j<=d.size:=ah
 have hkj:k<=j:=ah
 have hne:k≠j:=ah
 obtain⟨i0,hi0,hz1⟩:∃i0,prog.info? 3=some i0/\i0.size=1:=⟨_,rfl,rfl⟩;have mixed:prog.follows .mixedOrders=true:=an
 have hjj:Hid (d.size-1=k+(d.size-j)):=by show _=_;omega
 clear hW1 hrow hH1 hH hget hnl hg hj
 generalize (d.toList.drop j).map encI=news at *
 go_enter func176,Tryz.ntmps176
 go_wp2_with fail
 go_region_law_o (refine step_append_room V (.tmp 22) (.tmp 25) 22 V 3 i0 1 underlying22 hi0 hz1 b 0 k cap (by simp[Act.eval,Act.put]) A (d.size-j) (cap-j) news (by simp[Act.eval,Act.put]) s1.out hsrc.out s2.out ah s3.out ?_;rw[<-hW.out])
 go_wp2
 go_ret
 exact⟨by rw[hjj.out];rfl,1,hend.out⟩
end Go.Ab
namespace Go.Pla
open Go.Ab Go.Proofs Tryz Go.Hy
variable{f:FuncId}{caps:List C}
def ux:eh:=⟨0,0,0,0,0,0⟩
def fq(f a:r3):Bool:=decide (f.kind=6) && (decide (a.kind=1) && (decide (f.version=a.version) && (decide (f.zn=a.zn) && (decide (f.end_=a.end_) && (decide (f.slot=a.slot) && decide (f.listen=a.listen))))))
def sS(given:List r3)(f:r3)(n:Nat):Bool:=match given[n]? with|some a=>fq f a|none=>false
def fD(given:List r3)(out:List Nat)(i:Nat):List Nat:=match given[i]? with
 |some a=>if a.kind=1 then out++[i] else match out.findIdx? (sS given a) with
  |some k=>out.eraseIdx k
  |none=>out
 |none=>out
def qw(given:List r3):Nat->List Nat
 |0=>[]
 |k+1=>fD given (qw given k) k
def jw(given:List r3):List Nat:=qw given given.length
def mj(given:List r3):∀k,k<=given.length->∀n∈qw given k,n<k
 |0,_,n,h=>by simp[qw]at h
 |k+1,hk,n,h=>by
  have ih:=mj given k ah;unfold qw fD at h;split at h
  .split at h
   .rcases dU.1 h with h|h
    .have:=ih n h;omega
    .simp at h;omega
   .split at h
    .have:=ih n (List.mem_of_mem_eraseIdx h);omega
    .have:=ih n h;omega
  .have:=ih n h;omega
def yY(given:List r3):∀k,(qw given k).length<=k
 |0=>by simp[qw]
 |k+1=>by
  have ih:=yY given k;unfold qw fD;split
  .split
   .simp;omega
   .split
    .have:=List.length_eraseIdx_le (qw given k) ‹Nat›;omega
    .omega
  .omega
abbrev rN(n:Nat):List C:=[I (n:Int)]
def mz(a:r3):r3:={a with kind:=1,n:=0,counts:=ux}
def El(given:List r3)(out:List Nat)(a:r3)(n:Nat)(hn:n<given.length)(hlen:given.length<4000000000000000000)(ha:a.kind=6):
  tc 175 [⟨1,52,1,[[lA given]],0⟩,⟨2,3,1,out.map rN,0⟩,⟨1,57,13,[xy (mz a)],0⟩] ([I n]++[.ref 0 [] 1 0 0,.ref 2 [] 13 0 0]) (Bo (sS given a n)) [⟨1,52,1,[[lA given]],0⟩,⟨2,3,1,out.map rN,0⟩,⟨1,57,13,[xy (mz a)],0⟩]:=by
 have hb:given[n]?=some given[n]:=cV hn;generalize given[n]=b at hb;have gb:(given.map xy)[n]?=some (xy b):=by rw[cX,hb];rfl
 have e:sS given a n=fq a b:=by unfold sS;rw[hb]
 rw[e];refine zb.zJ (fn:=f175) func175 V (uH ?_);refine⟨ah,_,gb,dd ?_⟩;refine⟨an,dd ?_⟩;refine⟨λh=>?_,λh=>?_⟩ <;> refine dd ?_
 .exact⟨.inl V,⟨(.za::.za::.za::.za::Bo true::tJ ([.za,.za,.za])),_⟩,cE 3,rfl,uN (h.symm.trans bR)⟩
 .exact⟨.inl V,⟨(.za::.za::.za::.za::Bo false::tJ ([.za,.za,.za])),_⟩,cE 3,rfl,uN (h.symm.trans bR)⟩
def Fg{Y X:Ob}{l:List Nat}{full:Bool}(p:Nat->Bool)(hcb:zC prog f=true)(hp:∀r∈l,tc f [Y,⟨2,3,1,l.map rN,0⟩,X] ([I r]++caps) (Bo (p r)) [Y,⟨2,3,1,l.map rN,0⟩,X])(hl:l.length<4611686018427387904):
  tc 153 [Y,⟨2,3,1,l.map rN,0⟩,X] [.sl 1 [] 1 0 l.length full,.fn f [] caps] (I (match l.findIdx? p with|some i=>(i:Int)|none=> -1)) [Y,⟨2,3,1,l.map rN,0⟩,X]:=by
 refine zb.zJ (fn:=f153) func153 V (uH ?_)
 refine zp.inv (λn t1 H1=>∃k,k+n=l.length/\H1=[Y,⟨2,3,1,l.map rN,0⟩,X]/\(∀j,j<k->∀r,l[j]?=some r->p r=false)/\
   t1=(.sl 1 [] 1 0 l.length full::.fn f [] caps::.za::.za::I 0::.za::.za::I l.length::I k::tJ ([.za,.za]))) l.length ?_ ?_
 .exact bZ
 rintro n _ _ ⟨k,hk,rfl,hno,rfl⟩;conv=>whnf
 refine⟨λh=>?_,λh=>?_⟩
 .conv=>whnf
  have rF:k<l.length:=ak h
  have hq:l[k]?=some l[k]:=cV rF;have gq:(l.map rN)[k]?=some (rN l[k]):=by rw[cX,hq];rfl
  refine⟨ah,rF,dd ?_⟩;refine⟨_,by rw[dF];exact gq,dd ?_⟩;refine⟨aj,dd ?_⟩;rw[hcb];refine⟨_,_,hp _ (dn rF),dd ?_⟩;refine⟨λh2=>?_,λh2=>?_⟩
  .refine dd ?_;refine zaq ?_
   have:l.findIdx? p=some k:=by
    rw[dh];refine⟨rF,h2,λj hj=>?_⟩;simp[hno j hj _ (cV ah)]
   rw[this];exact uJ
  .refine dd ?_;refine .inl ⟨rfl,n-1,_,_,ah,zm.mask [0,1,4,7,8] _ _,k+1,ah,rfl,?_,?_⟩
   .intro j hj r hr;by_cases hjk:j=k
    .subst hjk;rw[hq]at hr;cases hr
     exact h2
    .exact cS
   .rw[zk ah];rfl
 .refine dd ?_;refine zaq ?_
  have:l.findIdx? p=none:=by
   rw[dt];intro x hx;obtain⟨j,hj⟩:=di.1 hx;have hjl:=(cW.1 hj).1;have:¬k<l.length:=ak h
   exact cR
  rw[this];exact uJ
def H6(l:List Nat):l.map rN=(l.map λ(n:Nat)=>(n:Int)).map ky:=by simp[ky,rN]
def GN(l:List Nat)(k:Nat)(hk:k<l.length):
  tc 176 [⟨2,3,1,l.map rN,0⟩] [.sl 0 [] 1 0 l.length false,I k,I ((k+1:Nat):Int)] (.sl 0 [] 1 0 (l.length-1) false) [⟨2,3,1,(l.eraseIdx k).map rN,0⟩]:=by
 have e2:((l.map λ(n:Nat)=>(n:Int)).toArray.toList.take k++(l.map λ(n:Nat)=>(n:Int)).toArray.toList.drop (k+1)++[0])=((l.eraseIdx k++[0]).map λ(n:Nat)=>(n:Int)):=by
  rw[List.eraseIdx_eq_take_drop_succ];simp[gZ,List.map_drop]
 have h:=zb.ofRow (P:=prog) (f:=176) (ty:=3) (full:=false) (zs:=l.map λ(n:Nat)=>(n:Int)) (zs':=(l.eraseIdx k++[0]).map λ(n:Nat)=>(n:Int)) (xs:=[.int .i64 k,.int .i64 ((k+1:Nat):Int)]) (r:=.sl 0 [] 1 0 (l.length-1) false)
  (by simp[List.length_eraseIdx,hk];omega) (by simp[Value.oneCell']) λb cap w hH hb hcap=>by
  refine(D7 b cap k (k+1) V (l.map λ(n:Nat)=>(n:Int)).toArray w hH (ak hcap) (ak hk)).mono ?_;rintro e w' ⟨rfl,q,rfl⟩;refine⟨_,rfl,λE hE hb _ hf=>?_,q, #[],?_⟩
  .have hcap:l.length<=cap:=by simpa using hcap
   have:=L.sl (E:=E) 0 [] 1 0 (l.length-1) false cap hE ah (λh=>by cases h) (λ_=>by rw[dF];exact hf V);rw[hb]at this;simpa using this
  .rw[e2,Go.Sort.grow_empty]
 rw[cY,<-H6]at h;refine h.i5 (λB _ _=>?_) (de _);have e3:((l.eraseIdx k++[0]).map λ(n:Nat)=>(n:Int)).map ky=(l.eraseIdx k).map rN++[rN 0]:=by simp[ky,rN]
 rw[e3];refine zm.shrink (s:=⟨[_],[⟨2,3,1,(l.eraseIdx k).map rN++[rN 0],0⟩]⟩) 0 (rows':=[rN 0]) V λr hr c hc=>?_
 have:∃n,r=rN n:=by
  rcases dU.1 hr with h|h
  .obtain⟨n,_,rfl⟩:=dT.1 h;exact⟨n,rfl⟩
  .exact⟨0,dC.1 h⟩
 obtain⟨n,rfl⟩:=this;simp at hc;subst hc
 rfl
def E9{Y X:Ob}:
  tc 153 [Y,X] [.rG 1 0 [],.fn f [] caps] (I (-1)) [Y,X]:=by
 refine zb.zJ (fn:=f153) func153 V (uH ?_);refine wc.fU 1 (LoopN.step ?_);conv=>whnf
 refine⟨λh=>absurd h aq,λ_=>dd ?_⟩;refine zaq ?_;exact uJ
def xm(given:List r3)(k:Nat)(a:r3)(ha:given[k]?=some a):qw given (k+1)=if a.kind=1 then qw given k++[k] else match (qw given k).findIdx? (sS given a) with
  |some j=>(qw given k).eraseIdx j
  |none=>qw given k:=by
 show fD given (qw given k) k=_;unfold fD;rw[ha]
def Hq{given:List r3}{a:r3}(h:a.kind≠6):sS given a=λ_=>false:=by
 funext n
 unfold sS fq;cases given[n]? <;> simp[h]
def ou(given:List r3)(k:Nat)(a:r3)(ha:given[k]?=some a)(h1:a.kind≠1)(h6:a.kind≠6):qw given (k+1)=qw given k:=by
 rw[xm given k a ha,c6 h1,Hq h6];have:(qw given k).findIdx? (λ_=>false)=none:=by rw[dt];simp
 rw[this]
def BH(l:List Nat):∀r∈l.map rN,∀c∈r,zy c=true:=λr hr c hc=>by
 obtain⟨n,_,rfl⟩:=dT.1 hr;simp at hc;subst hc
 rfl
def H5(l:List Nat):(l.map rN).all (·.all zy)=true:=by
 simp only[c8];exact BH l
def FK(given:List r3)(hlen:given.length<1000000000000):tc 104 [] [lA given] (lI ((jw given).map λ(n:Nat)=>(n:Int))) []:=by
 have m1:(given.map xy).length=given.length:=cY ..;refine ab func104 ?_;rw[m1];refine zp.inv (λn t1 H1=>∃k,k+n=given.length/\((t1=(.za::.ref 0 [] 1 0 0::.rG 1 0 []::.rG 1 0 []::.za::.za::.za::(lA given)::I given.length::I (k:Nat)::tJ (tJ (tJ ([.za,.za,.za,.za,.za,.za]))))/\H1=[⟨1,52,1,[[lA given]],0⟩]/\qw given k=[])\/(t1=(.za::.ref 0 [] 1 0 0::.rG 1 0 []::.sl 1 [] 1 0 (qw given (k)).length false::.za::.za::.za::(lA given)::I given.length::I (k:Nat)::tJ (tJ (tJ ([.za,.za,.za,.za,.za,.za]))))/\H1=[⟨1,52,1,[[lA given]],0⟩,⟨2,3,1,(qw given k).map rN,0⟩]))) given.length ?_ ?_
 .exact⟨_,_,cC,0,aj,.inl ⟨rfl,rfl,rfl⟩⟩
 rintro n _ _ ⟨k,hk,⟨rfl,rfl,hout⟩|⟨rfl,rfl⟩⟩
 .conv=>whnf
  refine⟨λh=>?_,λh=>?_⟩
  .refine dd ?_;have rF:k<given.length:=by simpa using h
   have hq:given[k]?=some given[k]:=cV rF;generalize given[k]=a at hq;have gq:(given.map xy)[k]?=some (xy a):=by rw[cX,hq];rfl
   refine⟨ah,_,gq,dd ?_⟩;refine⟨λh1=>?_,λh1=>?_⟩
   .refine dd ?_;have hk1:a.kind=1:=by simpa using h1
    refine .inr (dd ?_);refine⟨.inl V,aq,aq,dd ?_⟩;rw[zk ah];have e:qw given (k+1)=[k]:=by rw[xm given k a hq,c7 hk1,hout];rfl
    refine .inl ⟨rfl,n-1,_,_,ah,zm.rJ [0,2] [1,2,3,7,8,9] _ _ V V V V,k+1,ah,.inr ⟨?_,?_⟩⟩
    .rw[e];rfl
    .rw[e];rfl
   .refine dd ?_;refine⟨λh6=>?_,λh6=>?_⟩
    .refine dd ?_;have hk6:a.kind=6:=by simpa using h6
     refine⟨_,_,E9,dd ?_⟩;refine hU ?_
     rw[zk ah];have e:qw given (k+1)=[]:=by rw[xm given k a hq,c6 ah,hout];rfl
     exact .inl ⟨rfl,n-1,_,_,ah,zm.rJ [0] [1,2,3,7,8,9] _ _ V V V V,k+1,ah,.inl ⟨rfl,rfl,e⟩⟩
    .refine dd ?_;have e:qw given (k+1)=[]:=by rw[ou given k a hq tD (ak h6),hout]
     rw[zk ah];exact .inl ⟨rfl,n-1,_,_,ah,zm.rJ [0] [1,2,3,7,8,9] _ _ V V V V,k+1,ah,.inl ⟨rfl,rfl,e⟩⟩
  .refine dd ?_;refine zaq ?_
   have ek:k=given.length:=by
     have:¬k<given.length:=ak h
     omega
   have e:jw given=[]:=by unfold jw;rw[<-ek];exact hout
   rw[e];exact cf
 .conv=>whnf
  refine⟨λh=>?_,λh=>?_⟩
  .refine dd ?_;have rF:k<given.length:=by simpa using h
   have hq:given[k]?=some given[k]:=cV rF;generalize given[k]=a at hq;have gq:(given.map xy)[k]?=some (xy a):=by rw[cX,hq];rfl
   refine⟨ah,_,gq,dd ?_⟩;refine⟨λh1=>?_,λh1=>?_⟩
   .refine dd ?_;have hk1:a.kind=1:=by simpa using h1
    have hle:=yY given k;refine⟨aj,H5 _,aH,aI,dd ?_⟩;have e:qw given (k+1)=qw given k++[k]:=by rw[xm given k a hq,c7 hk1]
    rw[zk ah];refine .inl ⟨rfl,n-1,_,_,ah,zm.rJ [0,3] [1,2,3,7,8,9] _ _ V V V V,k+1,ah,.inr ⟨?_,?_⟩⟩
    .rw[e,dX];rfl
    .rw[e,g4];rfl
   .refine dd ?_;refine⟨λh6=>?_,λh6=>?_⟩
    .refine dd ?_;have hk6:a.kind=6:=by simpa using h6
     refine⟨_,_,Fg (sS given a) V (λr hr=>El given (qw given k) a r (by have:=mj given k ah r hr;omega) ah hk6) (by have:=yY given k;omega),dd ?_⟩;cases hf:(qw given k).findIdx? (sS given a) with
     |none=>
      refine dd ?_;refine⟨λh=>absurd h aq,λ_=>dd ?_⟩;have e:qw given (k+1)=qw given k:=by rw[xm given k a hq,c6 ah,hf]
      rw[zk ah];refine .inl ⟨rfl,n-1,_,_,ah,zm.rJ [0,1] [1,2,3,7,8,9] _ _ V V V V,k+1,ah,.inr ⟨?_,?_⟩⟩
      .rw[e];rfl
      .rw[e];rfl
     |some j=>
      obtain⟨hj1,_,_⟩:=dh.1 hf;have hle:=yY given k;refine dd ?_;refine⟨λ_=>dd ?_,λh=>absurd h aj⟩;rw[zk ah];refine ae [1] (GN (qw given k) j hj1) ?_;have e:qw given (k+1)=(qw given k).eraseIdx j:=by rw[xm given k a hq,c6 ah,hf]
      have el:((qw given k).eraseIdx j).length=(qw given k).length-1:=by rw[List.length_eraseIdx,c7 hj1]
      rw[zk ah];refine .inl ⟨rfl,n-1,_,_,ah,zm.rJ [0,1] [1,2,3,7,8,9] _ _ V V V V,k+1,ah,.inr ⟨?_,?_⟩⟩
      .rw[e,el];rfl
      .rw[e];rfl
    .refine dd ?_;have e:qw given (k+1)=qw given k:=ou given k a hq tD (ak h6);rw[zk ah];refine .inl ⟨rfl,n-1,_,_,ah,zm.rJ [0,1] [1,2,3,7,8,9] _ _ V V V V,k+1,ah,.inr ⟨?_,?_⟩⟩
     .rw[e];rfl
     .rw[e];rfl
  .refine dd ?_;refine zaq ?_
   have ek:k=given.length:=by
     have:¬k<given.length:=ak h
     omega
   have e:jw given=qw given k:=by unfold jw;rw[<-ek]
   rw[e];refine⟨.inl V,_,zm.Br 2 V V aj (BH _),?_⟩;refine(show _=some (C.rG 0 1 ((qw given k).map rN)) from V).trans ?_;simp[rN,Hy.encI,Function.comp_def]
end Go.Pla
