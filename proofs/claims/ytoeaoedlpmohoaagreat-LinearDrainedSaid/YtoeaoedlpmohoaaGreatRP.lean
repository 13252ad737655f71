import Derived.Sort.Grow
import Derived.Shelf.Slices.Delete
import Derived.Test.YtoeaoedlpmohoaaGreatRJ
import Derived.Test.YtoeaoedlpmohoaaGreatProg
set_option linter.all false
set_option maxRecDepth 100000
set_option maxHeartbeats 4000000
namespace Go.Ab
open Go.Sort
abbrev mI(n:Int):List C:=[.v (.int .i64 n)]
def VJ{w:World}{b n:Nat}{d:Array Int}{os:Array Obj}{cur:Array Value}{e:TypeId}{fr:Nat×Nat}(h:w.heap[b]?=some (.cells cur e fr)):
  (grow (putRow (Value.int .i64) (Sort.ahead w n) b 0 d) os).heap[b]?=some (.cells (putCells (Value.int .i64) 0 d cur) e fr):=by
 have ft:=(gP.1 h).1;unfold Sort.grow putRow mapBlock Sort.ahead;rw[uf (aq ft),sG,gC rfl,h]
 rfl
def Mw{w:World}{b n k:Nat}{d:Array Int}{os:Array Obj}(hk:k<w.heap.size)(hne:b≠k):
  (grow (putRow (Value.int .i64) (Sort.ahead w n) b 0 d) os).heap[k]?=w.heap[k]?:=by
 unfold Sort.grow putRow mapBlock Sort.ahead;rw[uf (aq hk),sG,gu hne]
def zb.ofRow{P:Program}{f:FuncId}{ty:TypeId}{zs zs':List Int}{full:Bool}{xs:List Value}{r:C}(hlen:zs'.length=zs.length)(hxs:∀x∈xs,x.oneCell'=true)
 (hc:∀(b cap:Nat) (w:World),Holds (Value.int .i64) w b 0 zs.toArray->b<w.heap.size->zs.length<=cap->
   Calls P f (#[.slice (some ⟨b,0,none⟩) zs.length cap]++xs.toArray) w λe w'=>∃v,e=.returned v/\(∀E:Env,0<E.n->E.β 0 []=b->(full=true->cap=zs.length)->(full=false->cap=E.κ 0 [])->L E r v)/\∃n os,w'=grow (putRow (Value.int .i64) (Sort.ahead w n) b 0 zs'.toArray) os):
  zb P f [⟨2,ty,1,zs.map mI,0⟩] (.sl 0 [] 1 0 zs.length full::xs.map .v) r [⟨2,ty,1,zs'.map mI,0⟩]:=λw E vs hh hl=>by
 have hob:([⟨2,ty,1,zs.map mI,0⟩]:zl)[0]?=some ⟨2,ty,1,zs.map mI,0⟩:=rfl;have hb:=hh.base.fJ 0 _ [] 1 (zs.map mI) hob (by simp[qb,vS]);obtain⟨cur,e,h1,h2,h3⟩:=hb.fJ;rw[ui]at h2;have hlen0:=hb.len;rw[gE]at hlen0;have hsize:=(gP.1 h1).1;obtain⟨v0,hv0,hl0⟩:=hl.get (i:=0) rfl
 obtain⟨cap,rfl,hcap,hf,hf'⟩:∃cap,v0=.slice (some ⟨E.β 0 [],0,none⟩) zs.length cap/\zs.length<=cap/\(full=true->cap=zs.length)/\(full=false->cap=E.κ 0 []):=by
  generalize hcc:C.sl 0 [] 1 0 zs.length full=cc at hl0;cases hl0 <;> cases hcc
  rename_i cap hn hlen hf' hf;exact⟨cap,aj,hlen,hf,λh=>by simpa using hf' h⟩
 have hvs:vs= #[.slice (some ⟨E.β 0 [],0,none⟩) zs.length cap]++xs.toArray:=by
  apply Array.ext'
  have hll:vs.toList.length=xs.length+1:=by rw[<-hl.1];simp
  apply pL
  intro i;cases i with
  |zero=>rw[hv0];simp
  |succ i=>
   rw[sP,List.cons_append,rL];simp only[List.nil_append];cases hx:xs[i]? with
   |none=>
    rw[rA]at hx ⊢;omega
   |some x=>
    obtain⟨y,hy,hly⟩:=hl.get (i:=i+1) (c:=.v x) (by simp[hx]);rw[hy];cases hly
    rfl
 have hcell:∀j,j<zs.length->cur[j]?=some (.int .i64 zs[j]!):=λj hj=>by
  obtain⟨u,hu,hlu⟩:=h3 j 0 (.v (.int .i64 zs[j]!)) (by simp[cellAt,hj,getElem!_pos]);rw[ui,sd]at hu;rw[hu];cases hlu.1
  rfl
 have hold:Holds (Value.int .i64) w (E.β 0 []) 0 zs.toArray:=λj hj=>by
  have hj:j<zs.length:=aq hj
  refine⟨?_,?_⟩
  ·unfold World.cell?;rw[h1];simp only[gN];rw[hcell j hj];simp[getElem!_pos,hj]
  ·unfold World.frozen?;rw[h1];simp
 rw[hvs];refine(hc (E.β 0 []) cap w hold hsize hcap).mono ?_;rintro e' w' ⟨v,rfl,hlv,n,os,rfl⟩
 have hgb:∀{id hops x},qb ([⟨2,ty,1,zs'.map mI,0⟩]:zl) id hops=some x->id=0/\hops=[]/\x=(1,zs'.map mI):=λ{id hops x} hx=>by
  unfold qb at hx;cases id with
  |succ id=>simp at hx
  |zero=>
   refine⟨rfl,?_⟩;simp at hx;cases hops with
   |nil=>simp[vS]at hx;exact⟨rfl,hx.symm⟩
   |cons p ps=>
    obtain⟨i,k⟩:=p;simp only[vS]at hx;split at hx
    ·rename_i hc;unfold cellAt at hc;rw[gz]at hc;cases hz:zs'[i]? with
     |none=>rw[hz]at hc;simp at hc
     |some z=>
      rw[hz]at hc;simp only[gL,pa]at hc;cases k <;> simp at hc
    ·cases hx
 have hnew:=VJ (n:=n) (d:=zs'.toArray) (os:=os) h1
 have hst:∀b o u,E.St b o=some u->b≠E.β 0 []:=λb o u hu he=>by
  subst he;obtain⟨_,ob,h4,h5⟩:=hh.base.sep 0 [] (1,zs.map mI) o u (by simp[qb,vS]) hu;rw[hob]at h4;cases h4
  simp at h5
 have hno4:∀{id ob},([⟨2,ty,1,zs'.map mI,0⟩]:zl)[id]?=some ob->ob.kind=2/\id=0/\ob=⟨2,ty,1,zs'.map mI,0⟩:=λ{id ob} h=>by
  cases id with
  |zero=>simp at h;subst h;exact⟨rfl,rfl,rfl⟩
  |succ id=>simp at h
 have hty:e=ty:=by
  obtain⟨cur2,h4⟩:=hh.base.ty 0 _ hob rfl;rw[h1]at h4;cases h4
  rfl
 refine⟨v,E,rfl,⟨{ n:=by rw[hh.base.n];rfl,fJ:=?_,inj:=?_,qy:=?_,sep:=?_,ty:=?_,fz:=?_ },{ val:=?_,fJ:=?_,sep:=?_,inj:=?_,st:=?_,top:=?_,iL:=?_,w6:=?_ }⟩,hlv E (by rw[hh.base.n];exact Nat.zero_lt_one) rfl hf hf',{ le:=.refl E,os:=rfl,tape:=rfl,output:=rfl,size:=by simp,frame:=?_,jS:=λb o u h=>.inl h,own:=?_ }⟩
 ·intro id ob hops sz rows h4 h5;obtain⟨rfl,rfl,h6⟩:=hgb h5;cases h6
  obtain⟨_,_,rfl⟩:=hno4 h4;refine⟨by rw[gE,hlen];exact hlen0,λr hr=>by obtain⟨z,_,rfl⟩:=pd.1 hr;rfl,_,e,hnew,by simp[putCells,h2],?_⟩;intro i k c hcc;unfold cellAt at hcc;rw[gz]at hcc;cases hz:zs'[i]? with
  |none=>rw[hz]at hcc;simp at hcc
  |some z=>
   rw[hz]at hcc;simp only[gL,pa]at hcc;have hi:=(gm.1 hz).1;cases k with
   |succ k=>simp at hcc
   |zero=>
    simp at hcc;subst hcc;refine⟨.int .i64 z,?_,.v _ rfl,rfl⟩;rw[ui,sd];simp only[putCells,Array.getElem?_mapIdx];rw[hcell i aw];simp only[gL,pb,eh,uy,gN,gC hi,rV];have:zs'[i]=z:=by rw[gp hi]at hz;exact gF hz
    simp[getElem!_pos,hi,this]
 ·intro id hops id' hops' x y h4 h5 _;obtain⟨rfl,rfl,_⟩:=hgb h4;obtain⟨rfl,rfl,_⟩:=hgb h5;exact⟨rfl,rfl⟩
 ·intro b o u hu;obtain⟨h4,h5⟩:=hh.base.qy b o u hu;refine⟨?_,h5⟩;unfold World.cell? at h4 ⊢;split at h4
  ·rename_i c t z hcc;rw[Mw (gP.1 hcc).1 (hst b o u hu).symm,hcc];exact h4
  ·cases h4
 ·intro id hops x o u h4 hu;obtain⟨rfl,rfl,_⟩:=hgb h4;exact absurd rfl (hst _ o u hu)
 ·intro id ob h4 _;obtain⟨_,rfl,rfl⟩:=hno4 h4;exact⟨_,by rw[<-hty];exact hnew⟩
 ·intro id ob h4;obtain⟨_,_,rfl⟩:=hno4 h4;exact pb _
 ·intro id ob h4 hk;exact dX
 ·intro id b ob ⟨ob',_,h4,hk,_⟩ _;exact dX
 ·intro id b ⟨ob',_,h4,hk,_⟩;exact dX
 ·intro id id' b ⟨ob',_,h4,hk,_⟩;exact dX
 ·intro id b ob o u ⟨ob',_,h4,hk,_⟩;exact dX
 ·intro id ob k u h4 hk;exact dX
 ·intro id ob o t h4 hk;exact dX
 ·intro id id' b ⟨ob',_,_,h4,hk,_⟩;exact dX
 ·intro k hk hno;refine Mw hk λhe=>hno (.inl ⟨0,[],(1,zs.map mI),by simp[qb,vS],he⟩)
 ·intro b hb;rcases hb with⟨id,hops,x,h4,rfl⟩|⟨id,hb⟩
  ·obtain⟨rfl,rfl,_⟩:=hgb h4;exact .inr (.inl ⟨0,[],(1,zs.map mI),by simp[qb,vS],rfl⟩)
  ·exfalso
   rcases hb with⟨ob',_,h4,hk,_⟩|⟨ob',_,_,h4,hk,_⟩ <;> · exact dX
end Go.Ab
namespace Go.Ab
open Go.Proofs Tryz Go.Sort Go.RowKit Go.Lib
def V8(w:World)(b k:Nat)(d:Array Int)(hH:Holds encI w b 0 d)(hk:k<d.size):
  w.drew.setCells b (0+k*1) ((d.toList.drop (k+1)).map encI)=putRow encI (Sort.ahead w 1) b 0 (lay d k (d.toList.drop (k+1))):=by
 rw[ui,<-putRow_setCells encI (Sort.ahead w 1) b 0 _ d k aA,putRow_self encI (Sort.ahead w 1) b 0 d (holds_ahead encI w 1 b 0 d hH)]
 rfl
set_option maxRecDepth 1000000 in
def RP(b cap k j:Nat)(hj:j=k+1)(d:Array Int)(w:World)(hH:Holds encI w b 0 d)(hcap:d.size<=cap)(hk:k<d.size):
  Calls prog 73 #[.slice (some ⟨b,0,none⟩) d.size cap,.int .i64 k,.int .i64 j] w λe w'=>e=.returned (.slice (some ⟨b,0,none⟩) (d.size-1) cap)/\∃q,w'=putRow encI (Sort.ahead w q) b 0 (d.toList.take k++d.toList.drop j++[0]).toArray:=by
 have hnl:((d.toList.drop j).map encI).length=d.size-j:=aj
 have hget:∀t u,((d.toList.drop j).map encI)[t]?=some u->w.drew.cell? ⟨b,j+t,none⟩=some u:=λt u hu=>by
  rw[gz,rj]at hu;cases hx:d.toList[j+t]? with
  |none=>rw[hx]at hu;cases hu
  |some x=>
   rw[hx]at hu;cases hu
   have ft:j+t<d.size:=by simpa using (gm.1 hx).1
   have:=(hH (j+t) ft).1;rw[gN]at this;refine(show w.drew.cell? _=w.cell? _ from rfl).trans (this.trans ?_);rw[getElem!_pos d _ ft];rw[pB,rW ft]at hx;rw[gF hx]
 obtain⟨A,hA,hsrc⟩:∃A:Addr,(if cap=j then some (⟨b,0,none⟩:Addr) else some ⟨b,j,none⟩)=some A/\Hid (∀t u,((d.toList.drop j).map encI)[t]?=some u->w.drew.cell? (A.add t)=some u):=by
  by_cases h:cap=j
  ·refine⟨⟨b,0,none⟩,aH,λt u hu=>?_⟩;have h0:((d.toList.drop j).map encI).length=0:=by rw[hnl];omega
   rw[rT.1 h0]at hu;simp at hu
  ·exact⟨⟨b,j,none⟩,aH,λt u hu=>by rw[Addr.add_lit];exact hget t u hu⟩
 obtain⟨W1,hW1⟩:∃W1,W1=w.drew.setCells b (0+k*1) ((d.toList.drop j).map encI):=⟨_,rfl⟩;have hrow:W1=putRow encI (Sort.ahead w 1) b 0 (lay d k (d.toList.drop j)):=by subst hj;exact hW1.trans (V8 w b k d hH hk)
 have hH1:Holds encI W1 b 0 (lay d k (d.toList.drop j)):=by rw[hrow];exact holds_putRow encI _ b 0 d _ (holds_ahead encI w 1 b 0 d hH) (lay_size _ _ _)
 obtain⟨g,hg⟩:∃g,g=k+(d.size-j):=⟨_,rfl⟩
 have hcl:∀ty,(Builtin.clear_ #[28] ty #[.slice (some ⟨b,k+(d.size-j),none⟩) (d.size-(k+(d.size-j))) (cap-(k+(d.size-j)))]).run prog W1=.ok (.tuple #[]) (W1.setCells b (k+(d.size-j)) (List.replicate (d.size-(k+(d.size-j))) (encI 0))):=λty=>
  Lib.run_clear_slice W1 _ _ ty _ underlying28 zeroValue3 rfl rfl b _ _ _ aw (λt ht=>by have:=(hH1 (k+(d.size-j)+t) (by rw[lay_size];omega)).1;rw[gN]at this;rw[this];rfl) (λt ht=>by have:=(hH1 (k+(d.size-j)+t) (by rw[lay_size];omega)).2;rw[gN]at this;exact this)
 have s1:Hid (((d.toList.drop j).map encI).length=(d.size-j)*1):=by rw[ui];exact hnl
 have s2:Hid (∀u∈(d.toList.drop j).map encI,u.oneCell'=true):=λu hu=>by obtain⟨x,_,rfl⟩:=pd.1 hu;rfl
 have s3:Hid (∀t,t<((d.toList.drop j).map encI).length->(w.drew.cell? ⟨b,0+k*1+t,none⟩).isSome=true/\w.drew.frozen? ⟨b,0+k*1+t,none⟩=false):=λt ht=>by
  rw[hnl]at ht;rw[ui,r8];exact⟨by show(w.cell? _).isSome=true;rw[(hH (k+t) aw).1];rfl,(hH (k+t) aw).2⟩
 have hend:Aside (W1.setCells b (k+(d.size-j)) (List.replicate (d.size-(k+(d.size-j))) (encI 0))=putRow encI (Sort.ahead w 1) b 0 (d.toList.take k++d.toList.drop j++[0]).toArray):=by
  show _=_;rw[hrow,show d.size-(k+(d.size-j))=1 from aw,show List.replicate 1 (encI 0)=(List.replicate 1 (0:Int)).map encI from rfl,show k+(d.size-j)=0+(k+(d.size-j)) from(gN _).symm,putRow_setCells encI _ b 0 _ _ _ (by rw[lay_size];simp;omega)];have:=delete_arr d k j 0 aw aw;rw[show j-k=1 from aw]at this;rw[this]
  rfl
 have hW:Hid (W1=w.drew.setCells b (0+k*1) ((d.toList.drop j).map encI)):=hW1;have hic:k<=cap:=aw
 have hjc:j<=cap:=aw
 have hjs:j<=d.size:=aw
 have hkj:k<=j:=aw
 have hne:k≠j:=aw
 obtain⟨i0,hi0,hz1⟩:∃i0,prog.info? 3=some i0/\i0.size=1:=⟨_,rfl,rfl⟩;have mixed:prog.follows .mixedOrders=true:=au
 have hjj:Hid (d.size-1=k+(d.size-j)):=by show _=_;omega
 clear hW1 hrow hH1 hH hget hnl hg hj
 generalize (d.toList.drop j).map encI=news at *
 go_enter func73,Tryz.ntmps73
 go_wp2_with fail
 go_region_law_o (refine step_append_room rfl (.tmp 22) (.tmp 25) 28 rfl 3 i0 1 underlying28 hi0 hz1 b 0 k cap (by simp[Act.eval,Act.put]) A (d.size-j) (cap-j) news (by simp[Act.eval,Act.put]) s1.out hsrc.out s2.out aw s3.out ?_;rw[<-hW.out])
 go_wp2
 go_ret
 exact⟨by rw[hjj.out];rfl,1,hend.out⟩
end Go.Ab
namespace Go.Pla
open Go.Ab Go.Proofs Tryz Go.Hy
def lJ:nv:=⟨0,0,0,0,0,0⟩
def kz(f a:fF):Bool:=decide (f.kind=6) && (decide (a.kind=1) && (decide (f.version=a.version) && (decide (f.zg=a.zg) && (decide (f.end_=a.end_) && (decide (f.slot=a.slot) && decide (f.listen=a.listen))))))
def iG(given:List fF)(f:fF)(n:Nat):Bool:=match given[n]? with|some a=>kz f a|none=>false
def Ae(given:List fF)(out:List Nat)(i:Nat):List Nat:=match given[i]? with
 |some a=>if a.kind=1 then out++[i] else match out.findIdx? (iG given a) with
  |some k=>out.eraseIdx k
  |none=>out
 |none=>out
def jt(given:List fF):Nat->List Nat
 |0=>[]
 |k+1=>Ae given (jt given k) k
def jF(given:List fF):List Nat:=jt given given.length
def vA(given:List fF):∀k,k<=given.length->∀n∈jt given k,n<k
 |0,_,n,h=>by simp[jt]at h
 |k+1,hk,n,h=>by
  have ih:=vA given k aw;unfold jt Ae at h;split at h
  ·split at h
   ·rcases gT.1 h with h|h
    ·have:=ih n h;omega
    ·simp at h;omega
   ·split at h
    ·have:=ih n (List.mem_of_mem_eraseIdx h);omega
    ·have:=ih n h;omega
  ·have:=ih n h;omega
def Dz(given:List fF):∀k,(jt given k).length<=k
 |0=>by simp[jt]
 |k+1=>by
  have ih:=Dz given k;unfold jt Ae;split
  ·split
   ·simp;omega
   ·split
    ·have:=List.length_eraseIdx_le (jt given k) ‹Nat›;omega
    ·omega
  ·omega
abbrev rN(n:Nat):List C:=[I (n:Int)]
def IA(a:fF):fF:={ a with kind:=1,n:=0,counts:=lJ }
def SW(given:List fF)(out:List Nat)(a:fF)(n:Nat)(hn:n<given.length)(hlen:given.length<4000000000000000000)(ha:a.kind=6):
  tn 72 [⟨1,61,1,[[lA given]],0⟩,⟨2,3,1,out.map rN,0⟩,⟨1,51,13,[yG (IA a)],0⟩] ([I n]++[.ref 0 [] 1 0 0,.ref 2 [] 13 0 0]) (Bo (iG given a n)) [⟨1,61,1,[[lA given]],0⟩,⟨2,3,1,out.map rN,0⟩,⟨1,51,13,[yG (IA a)],0⟩]:=by
 have hb:given[n]?=some given[n]:=gp hn;generalize given[n]=b at hb;have gb:(given.map yG)[n]?=some (yG b):=by rw[gz,hb];rfl
 have e:iG given a n=kz a b:=by unfold iG;rw[hb]
 rw[e];refine zb.zI (fn:=f72) func72 rfl (uH ?_);refine⟨aw,_,gb,dd ?_⟩;refine⟨au,dd ?_⟩;refine⟨λh=>?_,λh=>?_⟩ <;> refine dd ?_
 ·exact⟨.inl rfl,⟨(.za::.za::.za::.za::Bo true::mC ([.za,.za,.za])),_⟩,cE 3,rfl,uN (h.symm.trans cD)⟩
 ·exact⟨.inl rfl,⟨(.za::.za::.za::.za::Bo false::mC ([.za,.za,.za])),_⟩,cE 3,rfl,uN (h.symm.trans cD)⟩
def Ul{Y X:Ob}{f:FuncId}{caps:List C}{l:List Nat}{full:Bool}(p:Nat->Bool)(hcb:qm prog f=true)(hp:∀r∈l,tn f [Y,⟨2,3,1,l.map rN,0⟩,X] ([I r]++caps) (Bo (p r)) [Y,⟨2,3,1,l.map rN,0⟩,X])(hl:l.length<4611686018427387904):
  tn 71 [Y,⟨2,3,1,l.map rN,0⟩,X] [.sl 1 [] 1 0 l.length full,.fn f [] caps] (I (match l.findIdx? p with|some i=>(i:Int)|none=> -1)) [Y,⟨2,3,1,l.map rN,0⟩,X]:=by
 refine zb.zI (fn:=f71) func71 rfl (uH ?_)
 refine zZ.inv (λn t1 H1=>∃k,k+n=l.length/\H1=[Y,⟨2,3,1,l.map rN,0⟩,X]/\(∀j,j<k->∀r,l[j]?=some r->p r=false)/\
   t1=(.sl 1 [] 1 0 l.length full::.fn f [] caps::.za::.za::I 0::.za::.za::I l.length::I k::mC ([.za,.za]))) l.length ?_ ?_
 ·exact dc
 rintro n _ _ ⟨k,hk,rfl,hno,rfl⟩;conv=>whnf
 refine⟨λh=>?_,λh=>?_⟩
 ·conv=>whnf
  have ft:k<l.length:=aq h
  have hq:l[k]?=some l[k]:=gp ft;have gq:(l.map rN)[k]?=some (rN l[k]):=by rw[gz,hq];rfl
  refine⟨aw,ft,dd ?_⟩;refine⟨_,by rw[gN];exact gq,dd ?_⟩;refine⟨aj,dd ?_⟩;rw[hcb];refine⟨_,_,hp _ (gZ ft),dd ?_⟩;refine⟨λh2=>?_,λh2=>?_⟩
  ·refine dd ?_;refine .inr ⟨aj,uH ?_⟩
   have:l.findIdx? p=some k:=by
    rw[gR];refine⟨ft,h2,λj hj=>?_⟩;simp[hno j hj _ (gp aw)]
   rw[this];exact uJ
  ·refine dd ?_;refine .inl ⟨rfl,n-1,_,_,aw,zp.mask [0,1,4,7,8] _ _,k+1,aw,rfl,?_,?_⟩
   ·intro j hj r hr;by_cases hjk:j=k
    ·subst hjk;rw[hq]at hr;cases hr
     exact h2
    ·exact hno j aw r hr
   ·rw[zw aw];rfl
 ·refine dd ?_;refine .inr ⟨aj,uH ?_⟩
  have:l.findIdx? p=none:=by
   rw[gX];intro x hx;obtain⟨j,hj⟩:=gW.1 hx;have hjl:=(gm.1 hj).1;have:¬k<l.length:=aq h
   exact hno j aw x hj
  rw[this];exact uJ
def YP(l:List Nat):l.map rN=(l.map λ(n:Nat)=>(n:Int)).map mI:=by simp[mI,rN]
def U5(l:List Nat)(k:Nat)(hk:k<l.length):
  tn 73 [⟨2,3,1,l.map rN,0⟩] [.sl 0 [] 1 0 l.length false,I k,I ((k+1:Nat):Int)] (.sl 0 [] 1 0 (l.length-1) false) [⟨2,3,1,(l.eraseIdx k).map rN,0⟩]:=by
 have e2:((l.map λ(n:Nat)=>(n:Int)).toArray.toList.take k++(l.map λ(n:Nat)=>(n:Int)).toArray.toList.drop (k+1)++[0])=((l.eraseIdx k++[0]).map λ(n:Nat)=>(n:Int)):=by
  rw[List.eraseIdx_eq_take_drop_succ];simp[u9,List.map_drop]
 have h:=zb.ofRow (P:=prog) (f:=73) (ty:=3) (full:=false) (zs:=l.map λ(n:Nat)=>(n:Int)) (zs':=(l.eraseIdx k++[0]).map λ(n:Nat)=>(n:Int)) (xs:=[.int .i64 k,.int .i64 ((k+1:Nat):Int)]) (r:=.sl 0 [] 1 0 (l.length-1) false)
  (by simp[List.length_eraseIdx,hk];omega) (by simp[Value.oneCell']) λb cap w hH hb hcap=>by
  refine(RP b cap k (k+1) rfl (l.map λ(n:Nat)=>(n:Int)).toArray w hH (aq hcap) (aq hk)).mono ?_;rintro e w' ⟨rfl,q,rfl⟩;refine⟨_,rfl,λE hE hb _ hf=>?_,q, #[],?_⟩
  ·have hcap:l.length<=cap:=by simpa using hcap
   have:=L.sl (E:=E) 0 [] 1 0 (l.length-1) false cap hE aw (λh=>by cases h) (λ_=>by rw[gN];exact hf rfl);rw[hb]at this;simpa using this
  ·rw[e2,Go.Sort.grow_empty]
 rw[gE,<-YP]at h;refine h.n9 (λB _ _=>?_) (gJ _);have e3:((l.eraseIdx k++[0]).map λ(n:Nat)=>(n:Int)).map mI=(l.eraseIdx k).map rN++[rN 0]:=by simp[mI,rN]
 rw[e3];refine zp.shrink (s:=⟨[_],[⟨2,3,1,(l.eraseIdx k).map rN++[rN 0],0⟩]⟩) 0 (rows':=[rN 0]) rfl λr hr c hc=>?_
 have:∃n,r=rN n:=by
  rcases gT.1 hr with h|h
  ·obtain⟨n,_,rfl⟩:=pd.1 h;exact⟨n,rfl⟩
  ·exact⟨0,gS.1 h⟩
 obtain⟨n,rfl⟩:=this;simp at hc;subst hc
 rfl
def S9{Y X:Ob}{f:FuncId}{caps:List C}:
  tn 71 [Y,X] [.fp 1 0 [],.fn f [] caps] (I (-1)) [Y,X]:=by
 refine zb.zI (fn:=f71) func71 rfl (uH ?_);refine Bq.BG 1 (LoopN.step ?_);conv=>whnf
 refine⟨λh=>absurd h ar,λ_=>dd ?_⟩;refine .inr ⟨aj,uH ?_⟩;exact uJ
def vY(given:List fF)(k:Nat)(a:fF)(ha:given[k]?=some a):jt given (k+1)=if a.kind=1 then jt given k++[k] else match (jt given k).findIdx? (iG given a) with
  |some j=>(jt given k).eraseIdx j
  |none=>jt given k:=by
 show Ae given (jt given k) k=_;unfold Ae;rw[ha]
def Xd{given:List fF}{a:fF}(h:a.kind≠6):iG given a=λ_=>false:=by
 funext n
 unfold iG kz;cases given[n]? <;> simp[h]
def Lm(given:List fF)(k:Nat)(a:fF)(ha:given[k]?=some a)(h1:a.kind≠1)(h6:a.kind≠6):jt given (k+1)=jt given k:=by
 rw[vY given k a ha,gu h1,Xd h6];have:(jt given k).findIdx? (λ_=>false)=none:=by rw[gX];simp
 rw[this]
def OE(l:List Nat):∀r∈l.map rN,∀c∈r,zy c=true:=λr hr c hc=>by
 obtain⟨n,_,rfl⟩:=pd.1 hr;simp at hc;subst hc
 rfl
def YO(l:List Nat):(l.map rN).all (·.all zy)=true:=by
 simp only[gI];exact OE l
def T4(given:List fF)(hlen:given.length<1000000000000):tn 51 [] [lA given] (lI ((jF given).map λ(n:Nat)=>(n:Int))) []:=by
 have m1:(given.map yG).length=given.length:=gE ..;refine ab func51 ?_;rw[m1];refine zZ.inv (λn t1 H1=>∃k,k+n=given.length/\((t1=(.za::.ref 0 [] 1 0 0::.fp 1 0 []::.fp 1 0 []::.za::.za::.za::(lA given)::I given.length::I (k:Nat)::mC (mC (mC ([.za,.za,.za,.za,.za,.za]))))/\H1=[⟨1,61,1,[[lA given]],0⟩]/\jt given k=[])\/(t1=(.za::.ref 0 [] 1 0 0::.fp 1 0 []::.sl 1 [] 1 0 (jt given (k)).length false::.za::.za::.za::(lA given)::I given.length::I (k:Nat)::mC (mC (mC ([.za,.za,.za,.za,.za,.za]))))/\H1=[⟨1,61,1,[[lA given]],0⟩,⟨2,3,1,(jt given k).map rN,0⟩]))) given.length ?_ ?_
 ·exact⟨_,_,cC,0,aj,.inl ⟨rfl,rfl,rfl⟩⟩
 rintro n _ _ ⟨k,hk,⟨rfl,rfl,hout⟩|⟨rfl,rfl⟩⟩
 ·conv=>whnf
  refine⟨λh=>?_,λh=>?_⟩
  ·refine dd ?_;have ft:k<given.length:=by simpa using h
   have hq:given[k]?=some given[k]:=gp ft;generalize given[k]=a at hq;have gq:(given.map yG)[k]?=some (yG a):=by rw[gz,hq];rfl
   refine⟨aw,_,gq,dd ?_⟩;refine⟨λh1=>?_,λh1=>?_⟩
   ·refine dd ?_;have hk1:a.kind=1:=by simpa using h1
    refine .inr (dd ?_);refine⟨.inl rfl,ar,ar,dd ?_⟩;rw[zw aw];have e:jt given (k+1)=[k]:=by rw[vY given k a hq,gC hk1,hout];rfl
    refine .inl ⟨rfl,n-1,_,_,aw,zp.fD [0,2] [1,2,3,7,8,9] _ _ rfl rfl rfl rfl,k+1,aw,.inr ⟨?_,?_⟩⟩
    ·rw[e];rfl
    ·rw[e];rfl
   ·refine dd ?_;refine⟨λh6=>?_,λh6=>?_⟩
    ·refine dd ?_;have hk6:a.kind=6:=by simpa using h6
     refine⟨_,_,S9,dd ?_⟩;refine tc ?_
     rw[zw aw];have e:jt given (k+1)=[]:=by rw[vY given k a hq,gu aw,hout];rfl
     exact .inl ⟨rfl,n-1,_,_,aw,zp.fD [0] [1,2,3,7,8,9] _ _ rfl rfl rfl rfl,k+1,aw,.inl ⟨rfl,rfl,e⟩⟩
    ·refine dd ?_;have e:jt given (k+1)=[]:=by rw[Lm given k a hq tD (aq h6),hout]
     rw[zw aw];exact .inl ⟨rfl,n-1,_,_,aw,zp.fD [0] [1,2,3,7,8,9] _ _ rfl rfl rfl rfl,k+1,aw,.inl ⟨rfl,rfl,e⟩⟩
  ·refine dd ?_;refine .inr ⟨aj,uH ?_⟩
   have ek:k=given.length:=by
     have:¬k<given.length:=aq h
     omega
   have e:jF given=[]:=by unfold jF;rw[<-ek];exact hout
   rw[e];exact dw
 ·conv=>whnf
  refine⟨λh=>?_,λh=>?_⟩
  ·refine dd ?_;have ft:k<given.length:=by simpa using h
   have hq:given[k]?=some given[k]:=gp ft;generalize given[k]=a at hq;have gq:(given.map yG)[k]?=some (yG a):=by rw[gz,hq];rfl
   refine⟨aw,_,gq,dd ?_⟩;refine⟨λh1=>?_,λh1=>?_⟩
   ·refine dd ?_;have hk1:a.kind=1:=by simpa using h1
    have hle:=Dz given k;refine⟨aj,YO _,ay,bb,dd ?_⟩;have e:jt given (k+1)=jt given k++[k]:=by rw[vY given k a hq,gC hk1]
    rw[zw aw];refine .inl ⟨rfl,n-1,_,_,aw,zp.fD [0,3] [1,2,3,7,8,9] _ _ rfl rfl rfl rfl,k+1,aw,.inr ⟨?_,?_⟩⟩
    ·rw[e,gK];rfl
    ·rw[e,rp];rfl
   ·refine dd ?_;refine⟨λh6=>?_,λh6=>?_⟩
    ·refine dd ?_;have hk6:a.kind=6:=by simpa using h6
     refine⟨_,_,Ul (iG given a) rfl (λr hr=>SW given (jt given k) a r (by have:=vA given k aw r hr;omega) aw hk6) (by have:=Dz given k;omega),dd ?_⟩;cases hf:(jt given k).findIdx? (iG given a) with
     |none=>
      refine dd ?_;refine⟨λh=>absurd h ar,λ_=>dd ?_⟩;have e:jt given (k+1)=jt given k:=by rw[vY given k a hq,gu aw,hf]
      rw[zw aw];refine .inl ⟨rfl,n-1,_,_,aw,zp.fD [0,1] [1,2,3,7,8,9] _ _ rfl rfl rfl rfl,k+1,aw,.inr ⟨?_,?_⟩⟩
      ·rw[e];rfl
      ·rw[e];rfl
     |some j=>
      obtain⟨hj1,_,_⟩:=gR.1 hf;have hle:=Dz given k;refine dd ?_;refine⟨λ_=>dd ?_,λh=>absurd h aj⟩;rw[zw aw];refine af [1] (U5 (jt given k) j hj1) ?_;have e:jt given (k+1)=(jt given k).eraseIdx j:=by rw[vY given k a hq,gu aw,hf]
      have el:((jt given k).eraseIdx j).length=(jt given k).length-1:=by rw[List.length_eraseIdx,gC hj1]
      rw[zw aw];refine .inl ⟨rfl,n-1,_,_,aw,zp.fD [0,1] [1,2,3,7,8,9] _ _ rfl rfl rfl rfl,k+1,aw,.inr ⟨?_,?_⟩⟩
      ·rw[e,el];rfl
      ·rw[e];rfl
    ·refine dd ?_;have e:jt given (k+1)=jt given k:=Lm given k a hq tD (aq h6);rw[zw aw];refine .inl ⟨rfl,n-1,_,_,aw,zp.fD [0,1] [1,2,3,7,8,9] _ _ rfl rfl rfl rfl,k+1,aw,.inr ⟨?_,?_⟩⟩
     ·rw[e];rfl
     ·rw[e];rfl
  ·refine dd ?_;refine .inr ⟨aj,uH ?_⟩
   have ek:k=given.length:=by
     have:¬k<given.length:=aq h
     omega
   have e:jF given=jt given k:=by unfold jF;rw[<-ek]
   rw[e];refine⟨.inl rfl,_,zp.FU 2 rfl rfl aj (OE _),?_⟩;refine(show _=some (C.fp 0 1 ((jt given k).map rN)) from rfl).trans ?_;simp[rN,Hy.encI,Function.comp_def]
end Go.Pla
