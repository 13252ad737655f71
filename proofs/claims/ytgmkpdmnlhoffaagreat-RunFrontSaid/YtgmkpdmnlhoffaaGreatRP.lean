import Derived.Sort.Grow
import Derived.Shelf.Slices.Delete
import Derived.Test.YtgmkpdmnlhoffaaGreatRJ
import Derived.Test.YtgmkpdmnlhoffaaGreatProg
set_option linter.all false
set_option maxRecDepth 100000
set_option maxHeartbeats 4000000
namespace Go.Ab
open Go.Sort
abbrev zbJ (n:Int):List C:=[.v (.int .i64 n)]
theorem zo1 {w:World} {b n:Nat} {d:Array Int} {os:Array Obj} {cur:Array Value} {e:TypeId} {fr:Nat × Nat} (h:w.heap[b]?= some (.cells cur e fr)):
  (grow (putRow (Value.int .i64) (Sort.ahead w n) b 0 d) os).heap[b]?= some (.cells (putCells (Value.int .i64) 0 d cur) e fr):=by
 have hlt:=(Array.getElem?_eq_some_iff.1 h).1;unfold Sort.grow putRow mapBlock Sort.ahead;rw [Array.getElem?_append_left (by simpa using hlt),Array.getElem?_modify,if_pos rfl,h]
 rfl
theorem zhW {w:World} {b n k:Nat} {d:Array Int} {os:Array Obj} (hk:k < w.heap.size) (hne:b≠k):
  (grow (putRow (Value.int .i64) (Sort.ahead w n) b 0 d) os).heap[k]?= w.heap[k]?:=by
 unfold Sort.grow putRow mapBlock Sort.ahead;rw [Array.getElem?_append_left (by simpa using hk),Array.getElem?_modify,if_neg hne]
theorem zb.ofRow {P:Program} {f:FuncId} {ty:TypeId} {zs zs':List Int} {full:Bool} {xs:List Value} {r:C} (hlen:zs'.length=zs.length) (hxs:∀ x ∈ xs,x.oneCell'=true)
  (hc:∀ (b cap:Nat) (w:World),Holds (Value.int .i64) w b 0 zs.toArray->b < w.heap.size->zs.length<=cap->
   Calls P f (#[.slice (some ⟨b,0,none⟩) zs.length cap]++xs.toArray) w fun e w'=>∃ v,e=.returned v∧(∀ E:Env,0 < E.n->E.β 0 []=b->(full=true->cap=zs.length)->(full=false->cap=E.κ 0 [])->L E r v)∧∃ n os,w'=grow (putRow (Value.int .i64) (Sort.ahead w n) b 0 zs'.toArray) os):
  zb P f [⟨2,ty,1,zs.map zbJ,0⟩] (.sl 0 [] 1 0 zs.length full::xs.map .v) r [⟨2,ty,1,zs'.map zbJ,0⟩]:=fun w E vs hh hl=>by
 have hob:([⟨2,ty,1,zs.map zbJ,0⟩]:zk)[0]?= some ⟨2,ty,1,zs.map zbJ,0⟩:=rfl;have hb:=hh.base.blk 0 _ [] 1 (zs.map zbJ) hob (by simp [zZ,y8]);obtain ⟨cur,e,h1,h2,h3⟩:=hb.blk;rw [Nat.mul_one] at h2;have hlen0:=hb.len;rw [List.length_map] at hlen0;have hsize:=(Array.getElem?_eq_some_iff.1 h1).1;obtain ⟨v0,hv0,hl0⟩:=hl.get (i:=0) rfl
 obtain ⟨cap,rfl,hcap,hf,hf'⟩:∃ cap,v0=.slice (some ⟨E.β 0 [],0,none⟩) zs.length cap∧zs.length<=cap∧(full=true->cap=zs.length)∧(full=false->cap=E.κ 0 []):=by
  generalize hcc:C.sl 0 [] 1 0 zs.length full=cc at hl0;cases hl0 <;> cases hcc
  rename_i cap hn hlen hf' hf;exact ⟨cap,by simp,hlen,hf,fun h=>by simpa using hf' h⟩
 have hvs:vs= #[.slice (some ⟨E.β 0 [],0,none⟩) zs.length cap]++xs.toArray:=by
  apply Array.ext'
  have hll:vs.toList.length=xs.length+1:=by rw [<- hl.1];simp
  apply List.ext_getElem?
  intro i;cases i with
  | zero=>rw [hv0];simp
  | succ i=>
   rw [Array.toList_append,List.cons_append,List.getElem?_cons_succ];simp only [List.nil_append];cases hx:xs[i]? with
   | none=>
    rw [List.getElem?_eq_none_iff] at hx ⊢;omega
   | some x=>
    obtain ⟨y,hy,hly⟩:=hl.get (i:=i+1) (c:=.v x) (by simp [hx]);rw [hy];cases hly
    rfl
 have hcell:∀ j,j < zs.length->cur[j]?= some (.int .i64 zs[j]!):=fun j hj=>by
  obtain ⟨u,hu,hlu⟩:=h3 j 0 (.v (.int .i64 zs[j]!)) (by simp [cellAt,hj,getElem!_pos]);rw [Nat.mul_one,Nat.add_zero] at hu;rw [hu];cases hlu.1
  rfl
 have hold:Holds (Value.int .i64) w (E.β 0 []) 0 zs.toArray:=fun j hj=>by
  have hj:j < zs.length:=by simpa using hj
  refine ⟨?_,?_⟩
  ·unfold World.cell?;rw [h1];simp only [Nat.zero_add];rw [hcell j hj];simp [getElem!_pos,hj]
  ·unfold World.frozen?;rw [h1];simp
 rw [hvs];refine (hc (E.β 0 []) cap w hold hsize hcap).mono ?_;rintro e' w' ⟨v,rfl,hlv,n,os,rfl⟩
 have hgb:∀ {id hops x},zZ ([⟨2,ty,1,zs'.map zbJ,0⟩]:zk) id hops=some x->id=0∧hops=[]∧x=(1,zs'.map zbJ):=fun {id hops x} hx=>by
  unfold zZ at hx;cases id with
  | succ id=>simp at hx
  | zero=>
   refine ⟨rfl,?_⟩;simp at hx;cases hops with
   | nil=>simp [y8] at hx;exact ⟨rfl,hx.symm⟩
   | cons p ps=>
    obtain ⟨i,k⟩:=p;simp only [y8] at hx;split at hx
    ·rename_i hc;unfold cellAt at hc;rw [List.getElem?_map] at hc;cases hz:zs'[i]? with
     | none=>rw [hz] at hc;simp at hc
     | some z=>
      rw [hz] at hc;simp only [Option.map_some,Option.bind_some] at hc;cases k <;> simp at hc
    ·cases hx
 have hnew:=zo1 (n:=n) (d:=zs'.toArray) (os:=os) h1
 have hst:∀ b o u,E.St b o=some u->b≠E.β 0 []:=fun b o u hu he=>by
  subst he;obtain ⟨_,ob,h4,h5⟩:=hh.base.sep 0 [] (1,zs.map zbJ) o u (by simp [zZ,y8]) hu;rw [hob] at h4;cases h4
  simp at h5
 have hno4:∀ {id ob},([⟨2,ty,1,zs'.map zbJ,0⟩]:zk)[id]?= some ob->ob.kind=2∧id=0∧ob=⟨2,ty,1,zs'.map zbJ,0⟩:=fun {id ob} h=>by
  cases id with
  | zero=>simp at h;subst h;exact ⟨rfl,rfl,rfl⟩
  | succ id=>simp at h
 have hty:e=ty:=by
  obtain ⟨cur2,h4⟩:=hh.base.ty 0 _ hob rfl;rw [h1] at h4;cases h4
  rfl
 refine ⟨v,E,rfl,⟨{ n:=by rw [hh.base.n];rfl,blk:=?_,inj:=?_,qo:=?_,sep:=?_,ty:=?_,fz:=?_ },{ val:=?_,blk:=?_,sep:=?_,inj:=?_,st:=?_,top:=?_,lop:=?_,kQ:=?_ }⟩,hlv E (by rw [hh.base.n];exact Nat.zero_lt_one) rfl hf hf',{ le:=.refl E,os:=rfl,tape:=rfl,output:=rfl,size:=by simp,frame:=?_,jy:=fun b o u h=>.inl h,own:=?_ }⟩
 ·intro id ob hops sz rows h4 h5;obtain ⟨rfl,rfl,h6⟩:=hgb h5;cases h6
  obtain ⟨_,_,rfl⟩:=hno4 h4;refine ⟨by rw [List.length_map,hlen];exact hlen0,fun r hr=>by obtain ⟨z,_,rfl⟩:=List.mem_map.1 hr;rfl,_,e,hnew,by simp [putCells,h2],?_⟩;intro i k c hcc;unfold cellAt at hcc;rw [List.getElem?_map] at hcc;cases hz:zs'[i]? with
  | none=>rw [hz] at hcc;simp at hcc
  | some z=>
   rw [hz] at hcc;simp only [Option.map_some,Option.bind_some] at hcc;have hi:=(List.getElem?_eq_some_iff.1 hz).1;cases k with
   | succ k=>simp at hcc
   | zero=>
    simp at hcc;subst hcc;refine ⟨.int .i64 z,?_,.v _ rfl,rfl⟩;rw [Nat.mul_one,Nat.add_zero];simp only [putCells,Array.getElem?_mapIdx];rw [hcell i (by omega)];simp only [Option.map_some,Nat.zero_le,true_and,List.size_toArray,Nat.zero_add,if_pos hi,Nat.sub_zero];have:zs'[i]=z:=by rw [List.getElem?_eq_getElem hi] at hz;exact Option.some.inj hz
    simp [getElem!_pos,hi,this]
 ·intro id hops id' hops' x y h4 h5 _;obtain ⟨rfl,rfl,_⟩:=hgb h4;obtain ⟨rfl,rfl,_⟩:=hgb h5;exact ⟨rfl,rfl⟩
 ·intro b o u hu;obtain ⟨h4,h5⟩:=hh.base.qo b o u hu;refine ⟨?_,h5⟩;unfold World.cell? at h4 ⊢;split at h4
  ·rename_i c t z hcc;rw [zhW (Array.getElem?_eq_some_iff.1 hcc).1 (hst b o u hu).symm,hcc];exact h4
  ·cases h4
 ·intro id hops x o u h4 hu;obtain ⟨rfl,rfl,_⟩:=hgb h4;exact absurd rfl (hst _ o u hu)
 ·intro id ob h4 _;obtain ⟨_,rfl,rfl⟩:=hno4 h4;exact ⟨_,by rw [<- hty];exact hnew⟩
 ·intro id ob h4;obtain ⟨_,_,rfl⟩:=hno4 h4;exact Nat.zero_le _
 ·intro id ob h4 hk;have:=(hno4 h4).1;omega
 ·intro id b ob ⟨ob',_,h4,hk,_⟩ _;have:=(hno4 h4).1;omega
 ·intro id b ⟨ob',_,h4,hk,_⟩;have:=(hno4 h4).1;omega
 ·intro id id' b ⟨ob',_,h4,hk,_⟩;have:=(hno4 h4).1;omega
 ·intro id b ob o u ⟨ob',_,h4,hk,_⟩;have:=(hno4 h4).1;omega
 ·intro id ob k u h4 hk;have:=(hno4 h4).1;omega
 ·intro id ob o t h4 hk;have:=(hno4 h4).1;omega
 ·intro id id' b ⟨ob',_,_,h4,hk,_⟩;have:=(hno4 h4).1;omega
 ·intro k hk hno;refine zhW hk fun he=>hno (.inl ⟨0,[],(1,zs.map zbJ),by simp [zZ,y8],he⟩)
 ·intro b hb;rcases hb with ⟨id,hops,x,h4,rfl⟩ | ⟨id,hb⟩
  ·obtain ⟨rfl,rfl,_⟩:=hgb h4;exact .inr (.inl ⟨0,[],(1,zs.map zbJ),by simp [zZ,y8],rfl⟩)
  ·exfalso
   rcases hb with ⟨ob',_,h4,hk,_⟩ | ⟨ob',_,_,h4,hk,_⟩ <;> · have:=(hno4 h4).1;omega
end Go.Ab
namespace Go.Ab
open Go.Proofs Go.Sort Go.RowKit Go.Lib
theorem zoT (w:World) (b k:Nat) (d:Array Int) (hH:Holds encI w b 0 d) (hk:k < d.size):
  w.drew.setCells b (0+k * 1) ((d.toList.drop (k+1)).map encI)=putRow encI (Sort.ahead w 1) b 0 (lay d k (d.toList.drop (k+1))):=by
 rw [Nat.mul_one,<- putRow_setCells encI (Sort.ahead w 1) b 0 _ d k (by simp;omega),putRow_self encI (Sort.ahead w 1) b 0 d (holds_ahead encI w 1 b 0 d hH)]
 rfl
set_option maxRecDepth 1000000 in
theorem zil (b cap k j:Nat) (hj:j=k+1) (d:Array Int) (w:World) (hH:Holds encI w b 0 d) (hcap:d.size<=cap) (hk:k < d.size):
  Calls Tryz.prog 182 #[.slice (some ⟨b,0,none⟩) d.size cap,.int .i64 k,.int .i64 j] w fun e w'=>e=.returned (.slice (some ⟨b,0,none⟩) (d.size - 1) cap)∧∃ q,w'=putRow encI (Sort.ahead w q) b 0 (d.toList.take k++d.toList.drop j++[0]).toArray:=by
 have hnl:((d.toList.drop j).map encI).length=d.size - j:=by simp
 have hget:∀ t u,((d.toList.drop j).map encI)[t]?= some u->w.drew.cell? ⟨b,j+t,none⟩=some u:=fun t u hu=>by
  rw [List.getElem?_map,List.getElem?_drop] at hu;cases hx:d.toList[j+t]? with
  | none=>rw [hx] at hu;cases hu
  | some x=>
   rw [hx] at hu;cases hu
   have hlt:j+t < d.size:=by simpa using (List.getElem?_eq_some_iff.1 hx).1
   have:=(hH (j+t) hlt).1;rw [Nat.zero_add] at this;refine (show w.drew.cell? _=w.cell? _ from rfl).trans (this.trans ?_);rw [getElem!_pos d _ hlt];rw [Array.getElem?_toList,Array.getElem?_eq_getElem hlt] at hx;rw [Option.some.inj hx]
 obtain ⟨A,hA,hsrc⟩:∃ A:Addr,(if cap=j then some (⟨b,0,none⟩:Addr) else some ⟨b,j,none⟩)=some A∧Hid (∀ t u,((d.toList.drop j).map encI)[t]?= some u->w.drew.cell? (A.add t)=some u):=by
  by_cases h:cap=j
  ·refine ⟨⟨b,0,none⟩,by simp [h],fun t u hu=>?_⟩;have h0:((d.toList.drop j).map encI).length=0:=by rw [hnl];omega
   rw [List.length_eq_zero_iff.1 h0] at hu;simp at hu
  ·exact ⟨⟨b,j,none⟩,by simp [h],fun t u hu=>by rw [Addr.add_lit];exact hget t u hu⟩
 obtain ⟨W1,hW1⟩:∃ W1,W1=w.drew.setCells b (0+k * 1) ((d.toList.drop j).map encI):=⟨_,rfl⟩;have hrow:W1=putRow encI (Sort.ahead w 1) b 0 (lay d k (d.toList.drop j)):=by subst hj;exact hW1.trans (zoT w b k d hH hk)
 have hH1:Holds encI W1 b 0 (lay d k (d.toList.drop j)):=by rw [hrow];exact holds_putRow encI _ b 0 d _ (holds_ahead encI w 1 b 0 d hH) (lay_size _ _ _)
 obtain ⟨g,hg⟩:∃ g,g=k+(d.size - j):=⟨_,rfl⟩
 have hcl:∀ ty,(Builtin.clear_ #[22] ty #[.slice (some ⟨b,k+(d.size - j),none⟩) (d.size - (k+(d.size - j))) (cap - (k+(d.size - j)))]).run Tryz.prog W1=.ok (.tuple #[]) (W1.setCells b (k+(d.size - j)) (List.replicate (d.size - (k+(d.size - j))) (encI 0))):=fun ty=>
  Lib.run_clear_slice W1 _ _ ty _ Tryz.underlying22 Tryz.zeroValue3 rfl rfl b _ _ _ (by omega) (fun t ht=>by have:=(hH1 (k+(d.size - j)+t) (by rw [lay_size];omega)).1;rw [Nat.zero_add] at this;rw [this];rfl) (fun t ht=>by have:=(hH1 (k+(d.size - j)+t) (by rw [lay_size];omega)).2;rw [Nat.zero_add] at this;exact this)
 have s1:Hid (((d.toList.drop j).map encI).length=(d.size - j) * 1):=by rw [Nat.mul_one];exact hnl
 have s2:Hid (∀ u ∈ (d.toList.drop j).map encI,u.oneCell'=true):=fun u hu=>by obtain ⟨x,_,rfl⟩:=List.mem_map.1 hu;rfl
 have s3:Hid (∀ t,t < ((d.toList.drop j).map encI).length->(w.drew.cell? ⟨b,0+k * 1+t,none⟩).isSome=true∧w.drew.frozen? ⟨b,0+k * 1+t,none⟩=false):=fun t ht=>by
  rw [hnl] at ht;rw [Nat.mul_one,Nat.add_assoc];exact ⟨by show (w.cell? _).isSome=true;rw [(hH (k+t) (by omega)).1];rfl,(hH (k+t) (by omega)).2⟩
 have hend:Aside (W1.setCells b (k+(d.size - j)) (List.replicate (d.size - (k+(d.size - j))) (encI 0))=putRow encI (Sort.ahead w 1) b 0 (d.toList.take k++d.toList.drop j++[0]).toArray):=by
  show _=_;rw [hrow,show d.size - (k+(d.size - j))=1 from by omega,show List.replicate 1 (encI 0)=(List.replicate 1 (0:Int)).map encI from rfl,show k+(d.size - j)=0+(k+(d.size - j)) from (Nat.zero_add _).symm,putRow_setCells encI _ b 0 _ _ _ (by rw [lay_size];simp;omega)];have:=delete_arr d k j 0 (by omega) (by omega);rw [show j - k=1 from by omega] at this;rw [this]
  rfl
 have hW:Hid (W1=w.drew.setCells b (0+k * 1) ((d.toList.drop j).map encI)):=hW1;have hic:k<=cap:=by omega
 have hjc:j<=cap:=by omega
 have hjs:j<=d.size:=by omega
 have hkj:k<=j:=by omega
 have hne:k≠j:=by omega
 obtain ⟨i0,hi0,hz1⟩:∃ i0,Tryz.prog.info? 3=some i0∧i0.size=1:=⟨_,rfl,rfl⟩;have mixed:Tryz.prog.follows .mixedOrders=true:=by kernel_rfl
 have hjj:Hid (d.size - 1=k+(d.size - j)):=by show _=_;omega
 clear hW1 hrow hH1 hH hget hnl hg hj
 generalize (d.toList.drop j).map encI=news at *
 go_enter Tryz.func182,Tryz.ntmps182
 go_wp2_with fail
 go_region_law_o (refine step_append_room rfl (.tmp 22) (.tmp 25) 22 rfl 3 i0 1 Tryz.underlying22 hi0 hz1 b 0 k cap (by simp [Act.eval,Act.put]) A (d.size - j) (cap - j) news (by simp [Act.eval,Act.put]) s1.out hsrc.out s2.out (by omega) s3.out ?_;rw [<- hW.out])
 go_wp2
 go_ret
 exact ⟨by rw [hjj.out];rfl,1,hend.out⟩
end Go.Ab
namespace Go.Pla
open Go.Ab Go.Proofs Go.Hy
def zbd:Six:=⟨0,0,0,0,0,0⟩
def xV (f a:Ans):Bool:=decide (f.kind=6) && (decide (a.kind=1) && (decide (f.version=a.version) && (decide (f.zf=a.zf) && (decide (f.end_=a.end_) && (decide (f.slot=a.slot) && decide (f.listen=a.listen))))))
def atV (given:List Ans) (f:Ans) (n:Nat):Bool:=match given[n]? with | some a=>xV f a | none=>false
def zbV (given:List Ans) (out:List Nat) (i:Nat):List Nat:=match given[i]? with
 | some a=>if a.kind=1 then out++[i] else match out.findIdx? (atV given a) with
  | some k=>out.eraseIdx k
  | none=>out
 | none=>out
def q7 (given:List Ans):Nat->List Nat
 | 0=>[]
 | k+1=>zbV given (q7 given k) k
def jo (given:List Ans):List Nat:=q7 given given.length
theorem vA (given:List Ans):∀ k,k<=given.length->∀ n ∈ q7 given k,n < k
 | 0,_,n,h=>by simp [q7] at h
 | k+1,hk,n,h=>by
  have ih:=vA given k (by omega);unfold q7 zbV at h;split at h
  ·split at h
   ·rcases List.mem_append.1 h with h | h
    ·have:=ih n h;omega
    ·simp at h;omega
   ·split at h
    ·have:=ih n (List.mem_of_mem_eraseIdx h);omega
    ·have:=ih n h;omega
  ·have:=ih n h;omega
theorem wM (given:List Ans):∀ k,(q7 given k).length<=k
 | 0=>by simp [q7]
 | k+1=>by
  have ih:=wM given k;unfold q7 zbV;split
  ·split
   ·simp;omega
   ·split
    ·have:=List.length_eraseIdx_le (q7 given k) ‹Nat›;omega
    ·omega
  ·omega
abbrev rN (n:Nat):List C:=[I (n:Int)]
def zh6 (a:Ans):Ans:={ a with kind:=1,n:=0,counts:=zbd }
theorem yu (f a:Ans):zb Tryz.prog 140 [] [.agg (j6 f),.agg (j6 a)] (Bo (xV f a)) []:=by
 refine zb.zp (fn:=Tryz.f140) Tryz.func140 rfl (uH ?_);refine ⟨fun h1=>?_,fun h1=>?_⟩
 rotate_left
 ·refine dd ?_
  (exact ⟨.inl rfl,_,.refl _,uN (by unfold xV;simp at h1 ⊢;simp [h1])⟩)
 refine dd ?_;refine ⟨fun h2=>?_,fun h2=>?_⟩
 rotate_left
 ·refine dd ?_
  (exact ⟨.inl rfl,_,.refl _,uN (by unfold xV;simp at h1 h2 ⊢;simp [h1,h2])⟩)
 refine dd ?_;refine ⟨fun h3=>?_,fun h3=>?_⟩
 rotate_left
 ·refine dd ?_
  (exact ⟨.inl rfl,_,.refl _,uN (by unfold xV;simp at h1 h2 h3 ⊢;simp [h1,h2,h3])⟩)
 refine dd ?_;refine ⟨fun h4=>?_,fun h4=>?_⟩
 rotate_left
 ·refine dd ?_
  (exact ⟨.inl rfl,_,.refl _,uN (by unfold xV;simp at h1 h2 h3 h4 ⊢;simp [h1,h2,h3,h4])⟩)
 refine dd ?_;refine ⟨fun h5=>?_,fun h5=>?_⟩
 rotate_left
 ·refine dd ?_
  (exact ⟨.inl rfl,_,.refl _,uN (by unfold xV;simp at h1 h2 h3 h4 h5 ⊢;simp [h1,h2,h3,h4,h5])⟩)
 refine dd ?_;refine ⟨fun h6=>?_,fun h6=>?_⟩
 rotate_left
 ·refine dd ?_
  (exact ⟨.inl rfl,_,.refl _,uN (by unfold xV;simp at h1 h2 h3 h4 h5 h6 ⊢;simp [h1,h2,h3,h4,h5,h6])⟩)
 refine dd ?_;refine ⟨fun h7=>?_,fun h7=>?_⟩
 ·refine dd ?_
  (exact ⟨.inl rfl,_,.refl _,uN (by unfold xV;simp at h1 h2 h3 h4 h5 h6 h7 ⊢;simp [h1,h2,h3,h4,h5,h6,h7])⟩)
 ·refine dd ?_
  (exact ⟨.inl rfl,_,.refl _,uN (by unfold xV;simp at h1 h2 h3 h4 h5 h6 h7 ⊢;simp [h1,h2,h3,h4,h5,h6,h7])⟩)
theorem zjZ (given:List Ans) (out:List Nat) (a:Ans) (n:Nat) (hn:n < given.length) (hlen:given.length < 4000000000000000000) (ha:a.kind=6):
  zb Tryz.prog 181 [⟨1,52,1,[[lA given]],0⟩,⟨2,3,1,out.map rN,0⟩,⟨1,57,13,[j6 (zh6 a)],0⟩] ([I n]++[.ref 0 [] 1 0 0,.ref 2 [] 13 0 0]) (Bo (atV given a n)) [⟨1,52,1,[[lA given]],0⟩,⟨2,3,1,out.map rN,0⟩,⟨1,57,13,[j6 (zh6 a)],0⟩]:=by
 have hb:given[n]?= some given[n]:=List.getElem?_eq_getElem hn;generalize given[n]=b at hb;have gb:(given.map j6)[n]?= some (j6 b):=by rw [List.getElem?_map,hb];rfl
 have e:atV given a n=xV a b:=by unfold atV;rw [hb]
 rw [e];refine zb.zS (fn:=Tryz.f181) Tryz.func181 rfl (uH ?_);refine ⟨by omega,_,gb,dd ?_⟩;refine ⟨by kernel_rfl,dd ?_⟩;refine ⟨fun h=>?_,fun h=>?_⟩ <;> refine dd ?_
 ·exact ⟨.inl rfl,⟨(.za::.za::.za::.za::Bo true::tY ([.za,.za,.za])),_⟩,cE 3,rfl,uN (h.symm.trans (by rw [Bool.eq_iff_iff];simp [xV,zh6,zbd,ha,@eq_comm _ 1 b.kind]))⟩
 ·exact ⟨.inl rfl,⟨(.za::.za::.za::.za::Bo false::tY ([.za,.za,.za])),_⟩,cE 3,rfl,uN (h.symm.trans (by rw [Bool.eq_iff_iff];simp [xV,zh6,zbd,ha,@eq_comm _ 1 b.kind]))⟩
theorem zlC {Y X:Ob} {f:FuncId} {caps:List C} {l:List Nat} {full:Bool} (p:Nat->Bool) (hcb:qm Tryz.prog f=true) (hp:∀ r ∈ l,zb Tryz.prog f [Y,⟨2,3,1,l.map rN,0⟩,X] ([I r]++caps) (Bo (p r)) [Y,⟨2,3,1,l.map rN,0⟩,X]) (hl:l.length < 4611686018427387904):
  zb Tryz.prog 115 [Y,⟨2,3,1,l.map rN,0⟩,X] [.sl 1 [] 1 0 l.length full,.fn f [] caps] (I (match l.findIdx? p with | some i=>(i:Int) | none=> -1)) [Y,⟨2,3,1,l.map rN,0⟩,X]:=by
 refine zb.zS (fn:=Tryz.f115) Tryz.func115 rfl (uH ?_)
 refine qf.inv (fun n t1 H1=>∃ k,k+n=l.length∧H1=[Y,⟨2,3,1,l.map rN,0⟩,X]∧(∀ j,j < k->∀ r,l[j]?= some r->p r=false)∧
   t1=(.sl 1 [] 1 0 l.length full::.fn f [] caps::.za::.za::I 0::.za::.za::I l.length::I k::tY ([.za,.za]))) l.length ?_ ?_
 ·exact ⟨_,_,zo.mask [0,1,4,7,8] _ _,0,by simp,rfl,by simp,rfl⟩
 rintro n _ _ ⟨k,hk,rfl,hno,rfl⟩;conv=>whnf
 refine ⟨fun h=>?_,fun h=>?_⟩
 ·conv=>whnf
  have hlt:k < l.length:=by simpa using h
  have hq:l[k]?= some l[k]:=List.getElem?_eq_getElem hlt;have gq:(l.map rN)[k]?= some (rN l[k]):=by rw [List.getElem?_map,hq];rfl
  refine ⟨by omega,hlt,dd ?_⟩;refine ⟨_,by rw [Nat.zero_add];exact gq,dd ?_⟩;refine ⟨by simp,dd ?_⟩;rw [hcb];refine ⟨_,_,hp _ (List.getElem_mem hlt),dd ?_⟩;refine ⟨fun h2=>?_,fun h2=>?_⟩
  ·refine dd ?_;refine .inr ⟨by simp,uH ?_⟩
   have:l.findIdx? p=some k:=by
    rw [List.findIdx?_eq_some_iff_getElem];refine ⟨hlt,h2,fun j hj=>?_⟩;simp [hno j hj _ (List.getElem?_eq_getElem (by omega))]
   rw [this];exact uJ
  ·refine dd ?_;refine .inl ⟨rfl,n - 1,_,_,by omega,zo.mask [0,1,4,7,8] _ _,k+1,by omega,rfl,?_,?_⟩
   ·intro j hj r hr;by_cases hjk:j=k
    ·subst hjk;rw [hq] at hr;cases hr
     exact h2
    ·exact hno j (by omega) r hr
   ·rw [zA (by omega)];rfl
 ·refine dd ?_;refine .inr ⟨by simp,uH ?_⟩
  have:l.findIdx? p=none:=by
   rw [List.findIdx?_eq_none_iff];intro x hx;obtain ⟨j,hj⟩:=List.mem_iff_getElem?.1 hx;have hjl:=(List.getElem?_eq_some_iff.1 hj).1;have:¬k < l.length:=by simpa using h
   exact hno j (by omega) x hj
  rw [this];exact uJ
theorem zsa (l:List Nat):l.map rN=(l.map fun (n:Nat)=>(n:Int)).map zbJ:=by simp [zbJ,rN]
theorem znI (l:List Nat) (k:Nat) (hk:k < l.length):
  zb Tryz.prog 182 [⟨2,3,1,l.map rN,0⟩] [.sl 0 [] 1 0 l.length false,I k,I ((k+1:Nat):Int)] (.sl 0 [] 1 0 (l.length - 1) false) [⟨2,3,1,(l.eraseIdx k).map rN,0⟩]:=by
 have e2:((l.map fun (n:Nat)=>(n:Int)).toArray.toList.take k++(l.map fun (n:Nat)=>(n:Int)).toArray.toList.drop (k+1)++[0])=((l.eraseIdx k++[0]).map fun (n:Nat)=>(n:Int)):=by
  rw [List.eraseIdx_eq_take_drop_succ];simp [List.map_take,List.map_drop]
 have h:=zb.ofRow (P:=Tryz.prog) (f:=182) (ty:=3) (full:=false) (zs:=l.map fun (n:Nat)=>(n:Int)) (zs':=(l.eraseIdx k++[0]).map fun (n:Nat)=>(n:Int)) (xs:=[.int .i64 k,.int .i64 ((k+1:Nat):Int)]) (r:=.sl 0 [] 1 0 (l.length - 1) false)
  (by simp [List.length_eraseIdx,hk];omega) (by simp [Value.oneCell']) fun b cap w hH hb hcap=>by
  refine (zil b cap k (k+1) rfl (l.map fun (n:Nat)=>(n:Int)).toArray w hH (by simpa using hcap) (by simpa using hk)).mono ?_;rintro e w' ⟨rfl,q,rfl⟩;refine ⟨_,rfl,fun E hE hb _ hf=>?_,q, #[],?_⟩
  ·have hcap:l.length<=cap:=by simpa using hcap
   have:=L.sl (E:=E) 0 [] 1 0 (l.length - 1) false cap hE (by omega) (fun h=>by cases h) (fun _=>by rw [Nat.zero_add];exact hf rfl);rw [hb] at this;simpa using this
  ·rw [e2,Go.Sort.grow_empty]
 rw [List.length_map,<- zsa] at h;refine h.ze6 (fun B _ _=>?_) (Nat.le_refl _);have e3:((l.eraseIdx k++[0]).map fun (n:Nat)=>(n:Int)).map zbJ=(l.eraseIdx k).map rN++[rN 0]:=by simp [zbJ,rN]
 rw [e3];refine zo.shrink (s:=⟨[_],[⟨2,3,1,(l.eraseIdx k).map rN++[rN 0],0⟩]⟩) 0 (rows':=[rN 0]) rfl fun r hr c hc=>?_
 have:∃ n,r=rN n:=by
  rcases List.mem_append.1 hr with h | h
  ·obtain ⟨n,_,rfl⟩:=List.mem_map.1 h;exact ⟨n,rfl⟩
  ·exact ⟨0,List.mem_singleton.1 h⟩
 obtain ⟨n,rfl⟩:=this;simp at hc;subst hc
 rfl
theorem zlw {Y X:Ob} {f:FuncId} {caps:List C}:
  zb Tryz.prog 115 [Y,X] [.lst 1 0 [],.fn f [] caps] (I (-1)) [Y,X]:=by
 refine zb.zS (fn:=Tryz.f115) Tryz.func115 rfl (uH ?_);refine zcA.ofN 1 (LoopN.step ?_);conv=>whnf
 refine ⟨fun h=>absurd h (by decide),fun _=>dd ?_⟩;refine .inr ⟨by simp,uH ?_⟩;exact uJ
theorem vb (given:List Ans) (k:Nat) (a:Ans) (ha:given[k]?= some a):q7 given (k+1)=if a.kind=1 then q7 given k++[k] else match (q7 given k).findIdx? (atV given a) with
  | some j=>(q7 given k).eraseIdx j
  | none=>q7 given k:=by
 show zbV given (q7 given k) k=_;unfold zbV;rw [ha]
theorem zpm {given:List Ans} {a:Ans} (h:a.kind≠6):atV given a=fun _=>false:=by
 funext n
 unfold atV xV;cases given[n]? <;> simp [h]
theorem zez (given:List Ans) (k:Nat) (a:Ans) (ha:given[k]?= some a) (h1:a.kind≠1) (h6:a.kind≠6):q7 given (k+1)=q7 given k:=by
 rw [vb given k a ha,if_neg h1,zpm h6];have:(q7 given k).findIdx? (fun _=>false)=none:=by rw [List.findIdx?_eq_none_iff];simp
 rw [this]
theorem zqw (l:List Nat):∀ r ∈ l.map rN,∀ c ∈ r,zx c=true:=fun r hr c hc=>by
 obtain ⟨n,_,rfl⟩:=List.mem_map.1 hr;simp at hc;subst hc
 rfl
theorem zr9 (l:List Nat):(l.map rN).all (·.all zx)=true:=by
 simp only [List.all_eq_true];exact zqw l
theorem zl1 (given:List Ans) (hlen:given.length < 1000000000000):zb Tryz.prog 111 [] [lA given] (lI ((jo given).map fun (n:Nat)=>(n:Int))) []:=by
 have m1:(given.map j6).length=given.length:=List.length_map ..;refine zb.zp (fn:=Tryz.f111) Tryz.func111 rfl (uH ?_);rw [m1];refine qf.inv (fun n t1 H1=>∃ k,k+n=given.length∧((t1=(.za::.ref 0 [] 1 0 0::.lst 1 0 []::.lst 1 0 []::.za::.za::.za::(lA given)::I given.length::I (k:Nat)::tY (tY (tY ([.za,.za,.za,.za,.za,.za]))))∧H1=[⟨1,52,1,[[lA given]],0⟩]∧q7 given k=[])∨(t1=(.za::.ref 0 [] 1 0 0::.lst 1 0 []::.sl 1 [] 1 0 (q7 given (k)).length false::.za::.za::.za::(lA given)::I given.length::I (k:Nat)::tY (tY (tY ([.za,.za,.za,.za,.za,.za]))))∧H1=[⟨1,52,1,[[lA given]],0⟩,⟨2,3,1,(q7 given k).map rN,0⟩]))) given.length ?_ ?_
 ·exact ⟨_,_,cC,0,by simp,.inl ⟨rfl,rfl,rfl⟩⟩
 rintro n _ _ ⟨k,hk,⟨rfl,rfl,hout⟩ | ⟨rfl,rfl⟩⟩
 ·conv=>whnf
  refine ⟨fun h=>?_,fun h=>?_⟩
  ·refine dd ?_;have hlt:k < given.length:=by simpa using h
   have hq:given[k]?= some given[k]:=List.getElem?_eq_getElem hlt;generalize given[k]=a at hq;have gq:(given.map j6)[k]?= some (j6 a):=by rw [List.getElem?_map,hq];rfl
   refine ⟨by omega,_,gq,dd ?_⟩;refine ⟨fun h1=>?_,fun h1=>?_⟩
   ·refine dd ?_;have hk1:a.kind=1:=by simpa using h1
    refine .inr (dd ?_);refine ⟨.inl rfl,by decide,by decide,dd ?_⟩;rw [zA (by omega)];have e:q7 given (k+1)=[k]:=by rw [vb given k a hq,if_pos hk1,hout];rfl
    refine .inl ⟨rfl,n - 1,_,_,by omega,zo.ren [0,2] [1,2,3,7,8,9] _ _ rfl rfl rfl rfl,k+1,by omega,.inr ⟨?_,?_⟩⟩
    ·rw [e];rfl
    ·rw [e];rfl
   ·refine dd ?_;refine ⟨fun h6=>?_,fun h6=>?_⟩
    ·refine dd ?_;have hk6:a.kind=6:=by simpa using h6
     refine ⟨_,_,zlw,dd ?_⟩;(repeat refine uC ?_)
     rw [zA (by omega)];have e:q7 given (k+1)=[]:=by rw [vb given k a hq,if_neg (by omega),hout];rfl
     exact .inl ⟨rfl,n - 1,_,_,by omega,zo.ren [0] [1,2,3,7,8,9] _ _ rfl rfl rfl rfl,k+1,by omega,.inl ⟨rfl,rfl,e⟩⟩
    ·refine dd ?_;have e:q7 given (k+1)=[]:=by rw [zez given k a hq tE (by simpa using h6),hout]
     rw [zA (by omega)];exact .inl ⟨rfl,n - 1,_,_,by omega,zo.ren [0] [1,2,3,7,8,9] _ _ rfl rfl rfl rfl,k+1,by omega,.inl ⟨rfl,rfl,e⟩⟩
  ·refine dd ?_;refine .inr ⟨by simp,uH ?_⟩
   have ek:k=given.length:=by have:¬k < given.length:=by simpa using h
                              omega
   have e:jo given=[]:=by unfold jo;rw [<- ek];exact hout
   rw [e];exact ⟨.inl rfl,_,zo.cell 2 rfl (WC.nil 0 1),rfl⟩
 ·conv=>whnf
  refine ⟨fun h=>?_,fun h=>?_⟩
  ·refine dd ?_;have hlt:k < given.length:=by simpa using h
   have hq:given[k]?= some given[k]:=List.getElem?_eq_getElem hlt;generalize given[k]=a at hq;have gq:(given.map j6)[k]?= some (j6 a):=by rw [List.getElem?_map,hq];rfl
   refine ⟨by omega,_,gq,dd ?_⟩;refine ⟨fun h1=>?_,fun h1=>?_⟩
   ·refine dd ?_;have hk1:a.kind=1:=by simpa using h1
    have hle:=wM given k;refine ⟨by simp,zr9 _,by simp [maxLen];omega,by show _ * 8<=_;simp;omega,dd ?_⟩;have e:q7 given (k+1)=q7 given k++[k]:=by rw [vb given k a hq,if_pos hk1]
    rw [zA (by omega)];refine .inl ⟨rfl,n - 1,_,_,by omega,zo.ren [0,3] [1,2,3,7,8,9] _ _ rfl rfl rfl rfl,k+1,by omega,.inr ⟨?_,?_⟩⟩
    ·rw [e,List.length_append];rfl
    ·rw [e,List.map_append];rfl
   ·refine dd ?_;refine ⟨fun h6=>?_,fun h6=>?_⟩
    ·refine dd ?_;have hk6:a.kind=6:=by simpa using h6
     refine ⟨_,_,zlC (atV given a) rfl (fun r hr=>zjZ given (q7 given k) a r (by have:=vA given k (by omega) r hr;omega) (by omega) hk6) (by have:=wM given k;omega),dd ?_⟩;cases hf:(q7 given k).findIdx? (atV given a) with
     | none=>
      refine dd ?_;refine ⟨fun h=>absurd h (by decide),fun _=>dd ?_⟩;have e:q7 given (k+1)=q7 given k:=by rw [vb given k a hq,if_neg (by omega),hf]
      rw [zA (by omega)];refine .inl ⟨rfl,n - 1,_,_,by omega,zo.ren [0,1] [1,2,3,7,8,9] _ _ rfl rfl rfl rfl,k+1,by omega,.inr ⟨?_,?_⟩⟩
      ·rw [e];rfl
      ·rw [e];rfl
     | some j=>
      obtain ⟨hj1,_,_⟩:=List.findIdx?_eq_some_iff_getElem.1 hf;have hle:=wM given k;refine dd ?_;refine ⟨fun _=>dd ?_,fun h=>absurd h (by simp)⟩;rw [zA (by omega)];refine zq [1] (znI (q7 given k) j hj1) rfl rfl rfl rfl rfl rfl (dd ?_);have e:q7 given (k+1)=(q7 given k).eraseIdx j:=by rw [vb given k a hq,if_neg (by omega),hf]
      have el:((q7 given k).eraseIdx j).length=(q7 given k).length - 1:=by rw [List.length_eraseIdx,if_pos hj1]
      rw [zA (by omega)];refine .inl ⟨rfl,n - 1,_,_,by omega,zo.ren [0,1] [1,2,3,7,8,9] _ _ rfl rfl rfl rfl,k+1,by omega,.inr ⟨?_,?_⟩⟩
      ·rw [e,el];rfl
      ·rw [e];rfl
    ·refine dd ?_;have e:q7 given (k+1)=q7 given k:=zez given k a hq tE (by simpa using h6);rw [zA (by omega)];refine .inl ⟨rfl,n - 1,_,_,by omega,zo.ren [0,1] [1,2,3,7,8,9] _ _ rfl rfl rfl rfl,k+1,by omega,.inr ⟨?_,?_⟩⟩
     ·rw [e];rfl
     ·rw [e];rfl
  ·refine dd ?_;refine .inr ⟨by simp,uH ?_⟩
   have ek:k=given.length:=by have:¬k < given.length:=by simpa using h
                              omega
   have e:jo given=q7 given k:=by unfold jo;rw [<- ek]
   rw [e];refine ⟨.inl rfl,_,zo.zir 2 rfl rfl (by simp) (zqw _),?_⟩;refine (show _=some (C.lst 0 1 ((q7 given k).map rN)) from rfl).trans ?_;simp [rN,Hy.encI,Function.comp_def]
end Go.Pla
