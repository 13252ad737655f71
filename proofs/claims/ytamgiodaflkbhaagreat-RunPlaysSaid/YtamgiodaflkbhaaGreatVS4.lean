import Derived.Test.YtamgiodaflkbhaaGreatVS1
import Derived.Test.YtamgiodaflkbhaaGreatVS3
import Derived.Test.YtamgiodaflkbhaaGreatVK
import Derived.Test.YtamgiodaflkbhaaGreatVS2
set_option linter.all false
set_option maxRecDepth 100000
set_option maxHeartbeats 4000000
namespace Go.Wor
open Go.Ab Go.Proofs Tryz Go.Gat Go.Nam Go.Hos Go.Con Go.Sna
open Go.Hy hiding encI
variable{p x:Int}{r0:List Int}{l:fO}
section
variable {w:Wor} {m:fx}
def Rc(sw:z6 w)(ok:fG w)(hl:i64 m.listen)(hs:zG w m=true)(hp:m.pc=0):th 88 [] [Cw w,Cm m] (.fy [Cw w,Cm {m with zr:=w.zr,pc:=1},Ce (nH m (ot w.zr))]) []:=by
 refine zbz ?_
 refine af (qy w sw) ?_;refine za7 ?_
 refine .inl ⟨⟨false,[0,1,2],[1,5,6],[]⟩,ak,uH ?_⟩;refine tc ?_
 exact uI
def Re(sw:z6 w)(ok:fG w)(hl:i64 m.listen)(hs:zG w m=true)(hp:m.pc=2):th 88 [] [Cw w,Cm m] (.fy [Cw w,Cm {m with zr:=w.zr,pc:=if w.zr=m.zr then 3 else 1},Ce (nH m (ot w.zr))]) []:=by
 refine zbz ?_
 refine af (qy w sw) ?_;refine zat ?_
 refine zat ?_
 by_cases c:w.zr=m.zr
 .rw[pD c];refine⟨λq=>absurd c tO,λ_=>dd ?_⟩;refine .inl ⟨⟨false,[0,1,2],[1,5,6],[]⟩,ak,uH ?_⟩;refine tc ?_
  exact uI
 .rw[pA c];refine⟨λ_=>dd ?_,λq=>absurd tO c⟩;refine .inl ⟨⟨false,[0,1,2],[1,5,6],[]⟩,ak,uH ?_⟩;refine tc ?_
  exact uI
def Rd(sw:z6 w)(ok:fG w)(hl:i64 m.listen)(hs:zG w m=true)(hp:m.pc=1)(h0:0<=m.zm)(hx:w.pins[m.zm.toNat]?=some p):
  th 88 [] [Cw w,Cm m] (.fy [Cw (mJ w m.zm.toNat (IntKind.i64.wrap (m.zr+1))),Cm {m with pc:=2},Ce (nH m ⟨0,0,2,2,0,false,IntKind.i64.wrap (m.zr+1),false,false,false,kG⟩)]) []:=by
 obtain⟨p0,ps,hq⟩:∃p0 ps,w.pins=p0::ps:=cT
 have e1:0+m.zm.toNat=m.zm.toNat:=pK _;have gx:(w.pins.map Go.Hy.encI)[m.zm.toNat]?=some (Go.Hy.encI p):=by rw[pw,hx];rfl
 have ft:=(px.1 hx).1;have hst:(w.pins.map Go.Hy.encI).set m.zm.toNat [I (IntKind.i64.wrap (m.zr+1))]=(w.pins.set m.zm.toNat (IntKind.i64.wrap (m.zr+1))).map Go.Hy.encI:=bO
 refine zbz ?_
 refine ae [] (IU w sw p0 ps hq) ?_;refine zat ?_
 refine za7 ?_
 refine⟨h0,ft,?_⟩;(refine dd ?_);(rw[e1]);refine zcA ?_
 refine .inl ⟨⟨false,[0,1,2],[1,6,7],[]⟩,ak,uH ?_⟩;refine tc ?_
 exact⟨.inl V,_,zl.zN 2 0 3 V V V V (.inr V) V ah (shut_map (enc:=Go.Hy.encI) (λ_=>V) _) (zB V),rfl⟩
def SD(sw:z6 w)(ok:fG w)(hl:i64 m.listen)(hs:zG w m=true)(h0:0<=m.zm)(hx:w.pins[m.zm.toNat]?=some p):
  th 152 [] [Cw w,Cm m] (.fy [Cw (mJ w m.zm.toNat 0),Ce (BL m)]) []:=by
 obtain⟨p0,ps,hq⟩:∃p0 ps,w.pins=p0::ps:=cT
 have e1:0+m.zm.toNat=m.zm.toNat:=pK _;have gx:(w.pins.map Go.Hy.encI)[m.zm.toNat]?=some (Go.Hy.encI p):=by rw[pw,hx];rfl
 have ft:=(px.1 hx).1;have hst:(w.pins.map Go.Hy.encI).set m.zm.toNat [I 0]=(w.pins.set m.zm.toNat 0).map Go.Hy.encI:=bO
 refine ab func152 ?_;refine af (zP w m ok hl) ?_;rw[hs];refine td ?_
 refine ae [] (IU w sw p0 ps hq) ?_;refine⟨h0,ft,?_⟩;(refine dd ?_);(rw[e1]);refine zcA ?_
 refine .inl ⟨⟨false,[0,2],[1,5],[]⟩,ak,uH ?_⟩;refine tc ?_
 exact⟨.inl V,_,zl.zN 2 0 3 V V V V (.inr V) V ah (shut_map (enc:=Go.Hy.encI) (λ_=>V) _) (zB V),rfl⟩
def SG{r:Wor×fx×fF}(sw:z6 w)(ok:fG w)(hl:i64 m.listen)(hs:zG w m=true)(h0:0<=m.zm)(ht:m.zm<w.pins.length)(h:CF w m=some r):th 88 [] [Cw w,Cm m] (.fy [Cw r.1,Cm r.2.1,Ce r.2.2]) []:=by
 obtain⟨p,hx⟩:∃p,w.pins[m.zm.toNat]?=some p:=⟨_,pq an⟩;unfold CF at h;split at h
 .rename_i p0;cases h
  exact Rc sw ok hl hs p0
 split at h
 .rename_i p1;cases h
  exact Rd sw ok hl hs p1 h0 hx
 split at h
 .rename_i p2;cases h
  exact Re sw ok hl hs p2
 .cases h
end
def Rh(c:fV)(n:Int)(hn:u64 n)(hl:c.zM.length<1000000000000)(hh:(ft c).length<=c.zM.length):th 148 [] [Cc c,U n] (.fy [I (nR c n).1,I (nR c n).2]) []:=by
 have ml:((ft c).map Go.Hy.encI).length=(ft c).length:=pz ..;refine ab func148 ?_;refine af (I1 c hl) ?_;rw[ml];refine⟨λh0=>?_,λh0=>?_⟩
 .unfold nR;have h0:=pC h0;rw[pD an];exact uI
 .unfold nR;have h0:=pB h0;rw[pA an];refine dd ?_
  have hw:IntKind.u64.wrap ((((ft c).map Go.Hy.encI).length:Nat):Int)≠0:=by
   have hk:=ml;have:IntKind.u64.wrap ((((ft c).map Go.Hy.encI).length:Nat):Int)=(ft c).length:=cU
   omega
  split
  rotate_left
  .rename_i hno;exact(hno _ (jU V V V hw)).elim
  .rename_i v e;have e':=e.symm.trans (jU V V V hw);cases e'
   refine dd ?_;have ew:IntKind.u64.wrap ((((ft c).map Go.Hy.encI).length:Nat):Int)=(ft c).length:=cU
   have et:n.tmod (IntKind.u64.wrap ((((ft c).map Go.Hy.encI).length:Nat):Int))=n%(ft c).length:=by rw[ew];exact tq hn.1
   have b0:0<=n%((ft c).length:Int):=sP _ h0;have b1:n%((ft c).length:Int)<(ft c).length:=sN _ an;have hi:(n%((ft c).length:Int)).toNat<(ft c).length:=an
   have et2:IntKind.i64.wrap (n.tmod (IntKind.u64.wrap ((((ft c).map Go.Hy.encI).length:Nat):Int)))=n%(ft c).length:=by rw[et];exact jF an an
   have gx:((ft c).map Go.Hy.encI)[(IntKind.i64.wrap (n.tmod (IntKind.u64.wrap ((((ft c).map Go.Hy.encI).length:Nat):Int)))).toNat]?=some (Go.Hy.encI ((ft c)[(n%((ft c).length:Int)).toNat]'hi)):=by rw[et2,pw,pq hi];rfl
   refine⟨by show 0<=IntKind.i64.wrap (n.tmod (IntKind.u64.wrap ((((ft c).map Go.Hy.encI).length:Nat):Int)));rw[et2];exact b0,_,gx,dd ?_⟩;rw[pq hi];exact uI
def Q3(a x b y:Int):th 150 [] [I a,I x,I b,I y] (I (if y<x then b else a)) []:=by
 refine ab func150 ?_;refine⟨λh=>?_,λh=>?_⟩
 .rw[pA cK];exact dB
 .rw[pD (by have:=pB h;omega)];exact dB
def Jt(d:Int)(n:Nat)(hd:i64 d)(hn:0<n)(hm:n<1000000000000):th 245 [] [I d,I n] (I (d%n)) []:=by
 have h1:=Int.tmod_lt_of_pos d (show(0:Int)<n by omega);have h2:=Int.lt_tmod_of_pos d (show(0:Int)<n by omega);have h3:=sP d (show(n:Int)≠0 by omega);have h4:=sN d (show(0:Int)<n by omega);have h5:(d.tmod n)%n=d%n:=by rw[Int.tmod_def,fa]
 have hw:((n:Nat):Int)≠0:=an
 refine ab func245 ?_;split;(rotate_left;(rename_i hno;exact(hno _ (jU V V V hw)).elim));(rename_i v e;cases e.symm.trans (jU rfl rfl rfl hw));refine dd ?_
 refine⟨λq=>?_,λq=>?_⟩
 .have q:=pC q;have e:d.tmod n+n=d%n:=by rw[<-h5,<-Int.add_emod_right,ej an an]
  refine dd ?_;rw[jF an an,e];exact uI
 .have q:=pB q;have e:d.tmod n=d%n:=by rw[<-h5,ej an an]
  refine dd ?_;exact gK
def Rx(c:fV)(d0 d1:Int)(h0:i64 d0)(h1:i64 d1)(hl:c.zM.length<1000000000000)(hh:(ft c).length<=c.zM.length):th 197 [] [Cc c,I d0,I d1] (.fy [I (yA c d0 d1).1,I (yA c d0 d1).2.1,I (yA c d0 d1).2.2]) []:=by
 have ml:((ft c).map Go.Hy.encI).length=(ft c).length:=pz ..;refine ab func197 ?_;refine af (I1 c hl) ?_;rw[ml];refine⟨λhz=>?_,λhz=>?_⟩
 .unfold yA;have hz:=eq_of_beq hz;rw[pD an];exact dB
 .unfold yA;have hz:(ft c).length≠0:=λq=>by rw[q]at hz;simp at hz
  rw[pA hz];have b0:∀d:Int,0<=d%((ft c).length:Int):=λd=>sP _ an
  have b1:∀d:Int,d%((ft c).length:Int)<(ft c).length:=λd=>sN _ an
  have gx:∀d:Int,((ft c).map Go.Hy.encI)[(d%((ft c).length:Int)).toNat]?=some [I (yg c d)]:=λd=>by
   have hi:(d%((ft c).length:Int)).toNat<(ft c).length:=by have:=b0 d;have:=b1 d;omega
   unfold yg;rw[pw,pq hi]
   rfl
  refine dd ?_;refine .inl ⟨⟨true,[6,13],[0],[4,11]⟩,ak,uH ?_⟩;rw[ml];refine af (Jt d0 (ft c).length h0 an an) ?_;refine⟨b0 d0,_,gx d0,uH ?_⟩;rw[ml];refine af (Jt d1 (ft c).length h1 an an) ?_;refine⟨b0 d1,_,gx d1,uH ?_⟩;exact uI
def Kv(b:Bool):th 146 [] [Bo b] (I (if b then 1 else 0)) []:=by
 cases b
 all_goals
  refine ab func146 ?_;exact uI
def wz(m:fx)(n:Int):th 145 [] [Cm m,I n] (Cm (kB m n)) []:=by
 refine ab func145 ?_;exact uI
def Q0(n:Int):th 151 [] [I n] (I (wM n)) []:=by
 refine ab func151 ?_;by_cases h1:n<1
 .rw[show wM n=0 from pD (.inl h1)];refine zbI ?_;refine td ?_
  exact uI
 refine⟨λ_=>dd ?_,λq=>absurd (pB q) an⟩;by_cases h5:5<n
 .rw[show wM n=0 from pD (.inr h5)];refine zbI ?_;refine td ?_
  exact uI
 refine⟨λ_=>dd ?_,λq=>absurd (pB q) an⟩;refine td ?_
 rw[show wM n=n from pA an]
 have hx:[[I 0],[I 1],[I 2],[I 3],[I 4],[I 5]][n.toNat]?=some [I n]:=by
  obtain rfl|rfl|rfl|rfl|rfl:n=1\/n=2\/n=3\/n=4\/n=5:=an
  all_goals exact V
 refine⟨an,_,hx,uH ?_⟩;exact uI
def SU(w:Wor)(m:fx)(v:fC)(g:Gr)(e:En)(hat:ig w m v g e):th 149 [] [Cw w,Cm m] (.agg (zx e)) []:=by
 refine ab func149 ?_;(try (refine uE ?_))
 refine⟨hat.v0,_,hat.row,uH ?_⟩;refine⟨hat.g0,_,hat.oT,uH ?_⟩;refine⟨hat.e0,_,hat.AF,uH ?_⟩;exact uI
def Qj(w:Wor)(m:fx)(v:fC)(hv:mK w m v)(h:CK m v):th 147 [] [Cw w,Cm m] (Cm (yu m v)) []:=by
 refine ab func147 ?_;(try (refine uE ?_))
 refine⟨hv.v0,_,hv.row,uH ?_⟩;refine af (RF v.snap m.op.listen m.op.host m.op.path h.small h.host h.path) ?_;refine⟨λh1=>?_,λh1=>?_⟩
 .have h2:(xx m v).2≠0:=by simpa using h1
  rw[K9 h2];refine dd ?_;refine af (wz m 2) ?_;exact uI
 have h2:(xx m v).2=0:=ai h1
 obtain⟨g0,c,hc,hcl⟩:=h.Nw h2;have gc:(v.snap.zj.map jx)[(xx m v).1.toNat]?=some (jx c):=by rw[pw,hc];rfl
 refine dd ?_;refine .inl ⟨⟨true,[1,4,7,10],[1,3],[11]⟩,ak,uH ?_⟩;refine⟨g0,_,gc,uH ?_⟩;refine af (Rx c m.op.d0 m.op.d1 h.d0 h.d1 hcl (EK c)) ?_;refine⟨λh3=>?_,λh3=>?_⟩
 .have h4:(yA c m.op.d0 m.op.d1).2.2≠0:=by simpa using h3
  rw[Jr h2 hc h4];refine dd ?_;refine af (wz {m with zp:=(xx m v).1} 3) ?_;exact uI
 have h4:(yA c m.op.d0 m.op.d1).2.2=0:=ai h3
 refine dd ?_;refine⟨g0,_,gc,uH ?_⟩;refine⟨λh5=>?_,λh5=>?_⟩
 .have h6:c.jP=1:=by simpa using h5
  rw[Ki h2 hc h4 h6];exact dB
 .have h6:c.jP≠1:=by simpa using h5
  rw[Kj h2 hc h4 h6];exact dB
def Ps(w:Wor)(m:fx)(hp:m.pc=3)(hl:w.zc.length<4611686018427387904):th 90 [] [Cw w,Cw w,Cm m] (.fy [Cw w,Cm (if zZ w.zc m.op.listen<0 then kB (AK w m) 2 else AK w m),Ce (FD (fI m 1 3 w.current))]) []:=by
 refine ab func90 ?_;refine za7 ?_
 refine af (zS m 1 3 w.current) ?_;refine af (vJ w.zc m.op.listen hl) ?_;refine⟨λq=>?_,λq=>?_⟩
 .rw[pD (pC q)];refine dd ?_;refine af (wz (AK w m) 2) ?_;refine zbm ?_
  exact uI
 .rw[pA (pB q)];refine dd ?_;refine zbm ?_
  exact uI
def Pt(w:Wor)(m:fx)(l:fO)(hp:m.pc=4)(h0:0<=m.listen)(hx:w.zc[m.listen.toNat]?=some l):
  th 90 [⟨2,98,4,(w.zc).map zT,0⟩] [Cw w,.agg (iU 0 w),Cm m] (.fy [.agg (iU 0 w),Cm {m with pc:=5},Ce (fI m 3 5 (IntKind.i64.wrap (l.zo+1)))]) [⟨2,98,4,(w.zc.set m.listen.toNat (BD l)).map zT,0⟩]:=by
 have e1:0+m.listen.toNat=m.listen.toNat:=pK _;have gx:(w.zc.map zT)[m.listen.toNat]?=some (zT l):=by rw[pw,hx];rfl
 have ft:=(px.1 hx).1;have hst:(w.zc.map zT).set m.listen.toNat [Tx l.name,Bo l.drain,I (IntKind.i64.wrap (l.zo+1)),Bo l.closed]=(w.zc.set m.listen.toNat (BD l)).map zT:=bO
 have gy:((w.zc.set m.listen.toNat (BD l)).map zT)[m.listen.toNat]?=some (zT (BD l)):=by rw[pw,pH ft];rfl
 refine aa func90 ?_;refine zat ?_
 refine za7 ?_
 refine uE ?_;refine⟨h0,_,gx,uH ?_⟩;refine zbl ?_
 rw[hst];refine .inl ⟨⟨true,[0,1,2,4,6,9],[0,2,3],[10]⟩,ak,uH ?_⟩;refine⟨h0,ft,dd ?_⟩;rw[e1];refine⟨_,gy,tZ,dd ?_⟩;refine af (zS {m with pc:=5} 3 5 (IntKind.i64.wrap (l.zo+1))) ?_;refine tc ?_;exact dF
def Pu(w:Wor)(m:fx)(v:fC)(l:fO)(hp:m.pc=5)(hv:mK w m v)(h:CK m v)(h0:0<=m.listen)(hx:w.zc[m.listen.toNat]?=some l):
  th 90 [] [Cw w,Cw w,Cm m] (.fy [Cw w,Cm (if l.drain then kB m 5 else yu m v),Ce (if l.drain then {fI m 1 4 1 with jo:=true} else fI m 1 4 0)]) []:=by
 have gx:(w.zc.map zT)[m.listen.toNat]?=some (zT l):=by rw[pw,hx];rfl
 obtain⟨ln,ld,la,lc⟩:=l;cases ld
 all_goals
  refine ab func90 ?_;refine zat ?_
  refine zat ?_
  refine .inr ⟨⟨[0,2,4,7,8,9],[0,2],true⟩,ak,λ_=>V,_,uH ?_,λt2 H2 h=>h⟩;refine⟨h0,_,gx,uH ?_⟩;refine zaG ?_
 .refine⟨_,ag [] (Kv false),uH ?_⟩;refine⟨_,ag [] (zS m 1 4 0),uH ?_⟩;(repeat' (first|(refine And.intro V (uH ?_))|(refine And.intro (uH ?_) trivial)|(refine And.intro ?_ ?_ <;> (conv=>whnf))))
  refine zaM ?_
  refine⟨h0,_,gx,uH ?_⟩;refine zaG ?_
  refine .inl ⟨⟨true,[0,1,2,4],[0,1,2,6],[3]⟩,ak,uH ?_⟩;refine af (Qj w m v hv h) ?_;refine tc ?_
  exact uI
 .refine⟨_,ag [] (Kv true),uH ?_⟩;refine⟨_,ag [] (zS m 1 4 1),uH ?_⟩;(repeat' (first|(refine And.intro V (uH ?_))|(refine And.intro (uH ?_) trivial)|(refine And.intro ?_ ?_ <;> (conv=>whnf))))
  refine zaM ?_
  refine⟨h0,_,gx,uH ?_⟩;refine zaG ?_
  refine .inl ⟨⟨true,[0,1,3],[1,2,6],[2]⟩,ak,uH ?_⟩;refine af (wz m 5) ?_;refine tc ?_
  exact uI
section
variable {w:Wor} {m:fx} {v:fC} {g:Gr} {e:En}
def Qg(hat:ig w m v g e)(hp:m.pc=7):th 91 [] [Cw w,Cw w,Cm m] (.fy [Cw w,Cm {m with i:=e.zo,pc:=8},Ce (ib m v 1 7 e.zo)]) []:=by
 refine ab func91 ?_;refine zat ?_
 refine za7 ?_
 refine af (SU w m v g e hat) ?_;refine .inl ⟨⟨true,[0,1,2,3,5],[0,1,2],[6]⟩,ak,uH ?_⟩;refine af (jk w {m with i:=e.zo,pc:=8} v 1 7 e.zo hat.v0 hat.at_) ?_;refine tc ?_
 exact uI
def Qh(hat:ig w m v g e)(hp:m.pc=8)(o0:0<=m.other){e2:En}(ho:g.ends[m.other.toNat]?=some e2):th 91 [] [Cw w,Cw w,Cm m] (.fy [Cw w,Cm {m with end_:=if e2.zo<m.i then m.other else m.end_,pc:=9},Ce (ib m v 1 7 e2.zo)]) []:=by
 have ro:(g.ends.map zx)[m.other.toNat]?=some (zx e2):=by rw[pw,ho];rfl
 refine ab func91 ?_;refine zat ?_
 refine zat ?_
 refine uE ?_;refine⟨hat.v0,_,hat.row,uH ?_⟩;refine⟨hat.g0,_,hat.oT,uH ?_⟩;refine⟨o0,_,ro,uH ?_⟩;refine af (jk w m v 1 7 e2.zo hat.v0 hat.at_) ?_;refine af (Q3 m.end_ m.i m.other e2.zo) ?_;refine zbm ?_
 exact uI
def Qk(hat:ig w m v g e)(hp:m.pc=9)(hh:u64 e.head)(ll:e.next.length<4000000000000000000):th 92 [] [Cw w,Cw w,Cm m]
  (.fy [Cw w,Cm (if 0<=zQ e.head/\zQ e.head<e.next.length then {m with word:=e.head,slot:=zQ e.head,pc:=10} else kB {m with word:=e.head} 4),Ce (ib m v 1 8 (zQ e.head))]) []:=by
 have ml:(e.next.map Go.Hy.encI).length=e.next.length:=pz ..;refine ab func92 ?_;refine zaS ?_
 refine za7 ?_
 refine af (Go.Slp.x9 e.head hh) ?_;refine af (jk w {m with word:=e.head} v 1 8 (zQ e.head) hat.v0 hat.at_) ?_;by_cases c0:zQ e.head<0
 .rw[pA an];refine⟨λ_=>dd ?_,λq=>absurd c0 (pB q)⟩;refine td ?_
  refine .inl ⟨⟨true,[0,1,3],[1,2,6],[2]⟩,ak,uH ?_⟩;refine af (wz {m with word:=e.head} 4) ?_;refine tc ?_
  exact uI
 refine⟨λq=>absurd (pC q) c0,λ_=>dd ?_⟩;rw[ml];by_cases c1:zQ e.head<e.next.length
 .rw[pD ⟨an,c1⟩];refine⟨λq=>absurd (pC q) (by have:zQ e.head=e.head%4294967296-1:=rfl;omega),λ_=>dd ?_⟩;refine td ?_
  refine zbm ?_
  exact uI
 .rw[pA an];refine⟨λ_=>dd ?_,λq=>absurd (pB q) (by have:zQ e.head=e.head%4294967296-1:=rfl;omega)⟩;refine td ?_
  refine .inl ⟨⟨true,[0,1,3],[1,2,6],[2]⟩,ak,uH ?_⟩;refine af (wz {m with word:=e.head} 4) ?_;refine tc ?_
  exact uI
def O5(hat:ig w m v g e)(hp:m.pc=10)(s0:0<=m.slot)(hx:e.next[m.slot.toNat]?=some x):th 92 [] [Cw w,Cw w,Cm m] (.fy [Cw w,Cm {m with link:=x,pc:=11},Ce (ib m v 1 9 x)]) []:=by
 have rx:(e.next.map Go.Hy.encI)[m.slot.toNat]?=some (Go.Hy.encI x):=by rw[pw,hx];rfl
 refine ab func92 ?_;refine zaS ?_
 refine zat ?_
 refine za7 ?_
 refine uE ?_;refine⟨s0,_,rx,uH ?_⟩;refine .inl ⟨⟨true,[0,1,2,3,5],[0,1,2],[6]⟩,ak,uH ?_⟩;refine af (jk w {m with link:=x,pc:=11} v 1 9 x hat.v0 hat.at_) ?_;refine tc ?_
 exact uI
def OJ(hat:ig w m v g e)(hp:m.pc=11)(hw:u64 m.word)(l0: -1<=m.link)(l1:m.link<=2147483646)(hh:u64 e.head)(hne:e.head≠m.word):th 92 [] [Cw w,Cw w,Cm m] (.fy [Cw w,Cm {m with pc:=9},Ce (ib m v 5 8 (zQ e.head))]) []:=by
 refine ab func92 ?_;refine zaS ?_
 refine zat ?_
 refine zat ?_
 refine za7 ?_
 refine af (Go.Slp.FR m.word m.link hw l0 l1) ?_;refine uE ?_;refine⟨λ_=>dd ?_,λq=>absurd tO hne⟩;refine td ?_
 refine .inl ⟨⟨true,[0,1,2,3,7],[0,1,2],[8,9]⟩,ak,uH ?_⟩;refine af (Go.Slp.x9 e.head hh) ?_;refine af (jk w {m with pc:=9} v 5 8 (zQ e.head) hat.v0 hat.at_) ?_;refine tc ?_
 exact uI
end
section
variable {w:Wor} {m:fx} {v0:fC} {g0:Gr} {e0:En}
def Hw(hat:ig w m v0 g0 e0):m.version.toNat<w.zd.length/\m.zp.toNat<v0.zg.length/\m.end_.toNat<g0.ends.length/\(fX w m v0 (1))[m.version.toNat]?=some (fR (1) v0)/\(∀t,(fT m v0 g0 (t) 2)[m.zp.toNat]?=some ([U (t),C.sl 2 [] 3 0 g0.ends.length false]))/\(∀a b,(fP m g0 e0 (a) 3 (b))[m.end_.toNat]?=some ([U (a),C.sl 3 [] 1 0 e0.next.length false,I (b)]))/\
  (∀r∈(fX w m v0 (1)),∀c∈r,qE 4 9 c=true)/\(∀t,∀r∈(fT m v0 g0 (t) 2),∀c∈r,qE 4 9 c=true)/\(∀a b,∀r∈(fP m g0 e0 (a) 3 (b)),∀c∈r,qE 4 9 c=true)/\0+m.version.toNat=m.version.toNat/\0+m.zp.toNat=m.zp.toNat/\0+m.end_.toNat=m.end_.toNat:=by
 have lv:=(px.1 hat.at_).1;have lg:=(px.1 hat.iC).1;have le:=(px.1 hat.iM).1;exact⟨lv,lg,le,pH (ai lv),λ_=>pH (ai lg),λ_ _=>pH (ai le),zE (enc:=zt) (λ_=>V) V _ _,λ_=>zE (enc:=zy) (λ_=>V) V _ _,λ_ _=>zE (enc:=zx) (λ_=>V) V _ _,pK _,pK _,pK _⟩
def O7(hat:ig w m v0 g0 e0)(hp:m.pc=12):th 92 [⟨1,0,5,(fX w m v0 (1)),0⟩,⟨1,0,2,(fT m v0 g0 (g0.zC) 2),0⟩,⟨1,0,3,(fP m g0 e0 (e0.head) 3 (e0.zo)),0⟩,⟨2,3,1,(e0.next).map Go.Hy.encI,0⟩] [Cw w,.agg (ir w 0),Cm m]
  (.fy [.agg (ir w 0),Cm {m with answer:=Dl m,pc:=20},Ce (ib m v0 3 7 (IntKind.i64.wrap (e0.zo+1)))]) [⟨1,0,5,(fX w m v0 (1)),0⟩,⟨1,0,2,(fT m v0 g0 (g0.zC) 2),0⟩,⟨1,0,3,((g0.ends.map zx).set m.end_.toNat ([U (e0.head),C.sl 3 [] 1 0 e0.next.length false,I ((IntKind.i64.wrap (e0.zo+1)))])),0⟩,⟨2,3,1,(e0.next).map Go.Hy.encI,0⟩]:=by
 obtain⟨lv,lg,le,gv,gg,ge,lowV,lowG,lowE,z1,z2,z3⟩:=Hw hat;refine zbU ?_;(rw[z2]);(refine⟨_,gg _,mD,?_⟩);(refine dd ?_);(refine⟨hat.e0,le,?_⟩);(refine dd ?_);(rw[z3])
 refine zat ?_
 refine zat ?_
 refine zat ?_
 refine⟨_,ge _ _,mH,dd ?_⟩;refine⟨_,ge _ _,rfl,dd ?_⟩;rw[rb];refine .inl ⟨⟨true,[0,1,2,3,7],[2,4,5,6],[8]⟩,ak,uH ?_⟩;refine⟨_,ge _ _,mH,dd ?_⟩;refine af (jk w {m with answer:=Dl m,pc:=20} v0 3 7 (IntKind.i64.wrap (e0.zo+1)) hat.v0 hat.at_) ?_;refine tc ?_;exact⟨.inl V,_,_,.refl _,rfl,zl.jd 4 ta V V V (by (repeat' (first|(exact V)|(exact qi lowV)|(exact qi (lowG _))|(exact qi (lowE _ _))|(refine qc ?_ ?_)))) V⟩
def O6(hat:ig w m v0 g0 e0)(hp:m.pc=11)(hw:u64 m.word)(l0: -1<=m.link)(l1:m.link<=2147483646)(heq:e0.head=m.word):th 92 [⟨1,0,5,(fX w m v0 (1)),0⟩,⟨1,0,2,(fT m v0 g0 (g0.zC) 2),0⟩,⟨1,0,3,(fP m g0 e0 (e0.head) 3 (e0.zo)),0⟩,⟨2,3,1,(e0.next).map Go.Hy.encI,0⟩] [Cw w,.agg (ir w 0),Cm m]
  (.fy [.agg (ir w 0),Cm {m with pc:=12},Ce (ib m v0 4 8 m.slot)]) [⟨1,0,5,(fX w m v0 (1)),0⟩,⟨1,0,2,(fT m v0 g0 (g0.zC) 2),0⟩,⟨1,0,3,(fP m g0 e0 ((Go.Slp.vq m.word m.link)) 3 (e0.zo)),0⟩,⟨2,3,1,(e0.next).map Go.Hy.encI,0⟩]:=by
 obtain⟨lv,lg,le,gv,gg,ge,lowV,lowG,lowE,z1,z2,z3⟩:=Hw hat;refine zbU ?_;(rw[z2]);(refine⟨_,gg _,mD,?_⟩);(refine dd ?_);(refine⟨hat.e0,le,?_⟩);(refine dd ?_);(rw[z3])
 refine zat ?_
 refine zat ?_
 refine za7 ?_
 refine af (Go.Slp.FR m.word m.link hw l0 l1) ?_;refine .inl ⟨⟨false,[3,5],[2,6],[]⟩,ak,uH ?_⟩;refine⟨_,ge _ _,mE,dd ?_⟩;refine⟨λq=>absurd heq tO,λ_=>dd ?_⟩;refine td ?_
 refine⟨_,ge _ _,rfl,dd ?_⟩;rw[rb];refine .inl ⟨⟨true,[0,1,2,3,5],[4,5,6],[6]⟩,ak,uH ?_⟩;refine af (jk w {m with pc:=12} v0 4 8 m.slot hat.v0 hat.at_) ?_;refine tc ?_;exact⟨.inl V,_,_,.refl _,rfl,zl.jd 4 ta V V V (by (repeat' (first|(exact V)|(exact qi lowV)|(exact qi (lowG _))|(exact qi (lowE _ _))|(refine qc ?_ ?_)))) V⟩
def Qf(hat:ig w m v0 g0 e0)(hp:m.pc=6){c:fV}(hc:v0.snap.zj[m.zp.toNat]?=some c)(ht:u64 g0.zC)(hl:c.zM.length<1000000000000):th 91 [⟨1,0,5,(fX w m v0 (1)),0⟩,⟨1,0,2,(fT m v0 g0 (g0.zC) 2),0⟩,⟨1,0,3,(fP m g0 e0 (e0.head) 3 (e0.zo)),0⟩,⟨2,3,1,(e0.next).map Go.Hy.encI,0⟩] [Cw w,.agg (ir w 0),Cm m]
  (.fy [.agg (ir w 0),Cm (EC m c g0.zC),Ce (ib m v0 3 6 (IntKind.i64.wrap g0.zC))]) [⟨1,0,5,(fX w m v0 (1)),0⟩,⟨1,0,2,((v0.zg.map zy).set m.zp.toNat ([U ((IntKind.u64.wrap (g0.zC+1))),C.sl 2 [] 3 0 g0.ends.length false])),0⟩,⟨1,0,3,(fP m g0 e0 (e0.head) 3 (e0.zo)),0⟩,⟨2,3,1,(e0.next).map Go.Hy.encI,0⟩]:=by
 have rc:(v0.snap.zj.map jx)[m.zp.toNat]?=some (jx c):=by rw[pw,hc];rfl
 obtain⟨lv,lg,le,gv,gg,ge,lowV,lowG,lowE,z1,z2,z3⟩:=Hw hat;refine aa func91 ?_;refine za7 ?_
 refine uE ?_;refine⟨hat.v0,_,hat.row,uH ?_⟩;refine⟨hat.g0,_,hat.oT,uH ?_⟩;refine .inl ⟨⟨false,[1,5,7],[0,5,6],[]⟩,ak,uH ?_⟩;refine⟨hat.v0,lv,dd ?_⟩;rw[z1];refine⟨_,gv,mB,dd ?_⟩;refine⟨hat.g0,lg,dd ?_⟩;rw[z2];refine⟨_,gg _,rfl,dd ?_⟩;refine tc ?_
 rw[rb];refine af (jk w m v0 3 6 (IntKind.i64.wrap g0.zC) hat.v0 hat.at_) ?_;refine tc ?_
 refine .inl ⟨⟨true,[1,6,10],[4],[12]⟩,ak,uH ?_⟩;refine⟨hat.v0,_,hat.row,uH ?_⟩;refine⟨hat.g0,_,rc,uH ?_⟩;refine af (Rh c g0.zC ht hl (EK c)) ?_;refine tc ?_
 refine .inl ⟨⟨false,[0,1,2],[5,6,10],[]⟩,ak,uH ?_⟩;refine tc ?_;exact⟨.inl V,_,_,.refl _,rfl,zl.jd 4 ta V V V (by (repeat' (first|(exact V)|(exact qi lowV)|(exact qi (lowG _))|(exact qi (lowE _ _))|(refine qc ?_ ?_)))) V⟩
end
section
variable {w:Wor} {m:fx}
def OT{k:Int}(hp:m.pc=20)(hk:wM m.answer.kind=k)(h0:0<=m.zm)(hr:w.counts[m.zm.toNat]?=some r0)(hx:r0[k.toNat]?=some x):
  th 93 [⟨1,0,1,((w.counts.map zA).set m.zm.toNat [C.sl 1 [] 1 0 r0.length false]),0⟩,⟨2,52,1,(r0).map qD,0⟩] [Cw w,.agg (iO 0 w),Cm m] (.fy [.agg (iO 0 w),Cm {m with pc:=21},Ce (fI m 3 10 k)]) [⟨1,0,1,((w.counts.map zA).set m.zm.toNat [C.sl 1 [] 1 0 r0.length false]),0⟩,⟨2,52,1,(r0.set k.toNat (IntKind.u64.wrap (x+1))).map qD,0⟩]:=by
 have e1:0+m.zm.toNat=m.zm.toNat:=pK _;have e2:0+k.toNat=k.toNat:=pK _;have k0:0<=k:=by rw[<-hk];unfold wM;split <;> omega
 have k1:k.toNat<r0.length:=(px.1 hx).1;have ft:m.zm.toNat<w.counts.length:=(px.1 hr).1;have gt:((w.counts.map zA).set m.zm.toNat [C.sl 1 [] 1 0 r0.length false])[m.zm.toNat]?=some [C.sl 1 [] 1 0 r0.length false]:=pH mF;have gx:(r0.map qD)[k.toNat]?=some (qD x):=by rw[pw,hx];rfl
 have hst:(r0.map qD).set k.toNat [U (IntKind.u64.wrap (x+1))]=(r0.set k.toNat (IntKind.u64.wrap (x+1))).map qD:=bO
 have lowC2:∀r∈((w.counts.map zA).set m.zm.toNat [C.sl 1 [] 1 0 r0.length false]),∀c∈r,qE 2 9 c=true:=zE (enc:=zA) (λ_=>V) V _ _;refine aa func93 ?_;refine za7 ?_
 refine af (Q0 m.answer.kind) ?_;rw[hk];(refine .inl ⟨⟨false,[1,3,5,8,10,12],[0,3,4],[]⟩,ak,uH ?_⟩);refine zbN ?_;refine zbN ?_;(refine⟨k0,k1,?_⟩);(refine dd ?_);(rw[e2]);(refine⟨_,gx,tH,?_⟩);(refine dd ?_);(refine⟨k0,k1,?_⟩);(refine dd ?_);(rw[e2]);refine zcA ?_
 refine .inl ⟨⟨true,[0,1,2],[3,4],[4]⟩,ak,uH ?_⟩;refine af (zS {m with pc:=21} 3 10 k) ?_;refine tc ?_;exact⟨.inl V,_,_,.refl _,rfl,zl.jd 2 ta V V V (by (repeat' (first|(exact V)|(exact qi lowC2)|(refine qc ?_ ?_)))) V⟩
def OU(hp:m.pc=21)(h0:0<=m.zm)(hr:w.counts[m.zm.toNat]?=some r0)(hx:r0[0]?=some x):
  th 93 [⟨1,0,1,((w.counts.map zA).set m.zm.toNat [C.sl 1 [] 1 0 r0.length false]),0⟩,⟨2,52,1,(r0).map qD,0⟩] [Cw w,.agg (iO 0 w),Cm m] (.fy [.agg (iO 0 w),Cm {m with pc:=if m.answer.kind=1\/m.listen<0 then 23 else 22},Ce (fI m 3 10 0)]) [⟨1,0,1,((w.counts.map zA).set m.zm.toNat [C.sl 1 [] 1 0 r0.length false]),0⟩,⟨2,52,1,(r0.set 0 (IntKind.u64.wrap (x+1))).map qD,0⟩]:=by
 have e1:0+m.zm.toNat=m.zm.toNat:=pK _;have e2:0+(0:Int).toNat=(0:Int).toNat:=pK _;have k0:(0:Int)<=0:=sW _;have k1:(0:Int).toNat<r0.length:=(px.1 hx).1;have ft:m.zm.toNat<w.counts.length:=(px.1 hr).1;have gt:((w.counts.map zA).set m.zm.toNat [C.sl 1 [] 1 0 r0.length false])[m.zm.toNat]?=some [C.sl 1 [] 1 0 r0.length false]:=pH mF;have gx:(r0.map qD)[(0:Int).toNat]?=some (qD x):=by rw[pw];show(r0[0]?).map _=_;rw[hx];rfl
 have hst:(r0.map qD).set (0:Int).toNat [U (IntKind.u64.wrap (x+1))]=(r0.set 0 (IntKind.u64.wrap (x+1))).map qD:=bO
 have lowC2:∀r∈((w.counts.map zA).set m.zm.toNat [C.sl 1 [] 1 0 r0.length false]),∀c∈r,qE 2 9 c=true:=zE (enc:=zA) (λ_=>V) V _ _;refine aa func93 ?_;refine zat ?_
 refine za7 ?_
 (refine .inl ⟨⟨false,[1,3,5,7,9,11],[0,3,4],[]⟩,ak,uH ?_⟩);refine zbN ?_;refine zbN ?_;(refine⟨k0,k1,?_⟩);(refine dd ?_);(rw[e2]);(refine⟨_,gx,tH,?_⟩);(refine dd ?_);(refine⟨k0,k1,?_⟩);(refine dd ?_);(rw[e2]);refine zcA ?_
 by_cases c1:m.answer.kind=1
 .rw[pD (.inl c1)];refine⟨λ_=>dd ?_,λq=>absurd (rF.2 c1) tU⟩;refine td ?_
  refine .inl ⟨⟨true,[0,1,2],[3,4],[3]⟩,ak,uH ?_⟩;refine af (zS {m with pc:=23} 3 10 0) ?_;refine tc ?_;exact⟨.inl V,_,_,.refl _,rfl,zl.jd 2 ta V V V (by (repeat' (first|(exact V)|(exact qi lowC2)|(refine qc ?_ ?_)))) V⟩
 refine⟨λq=>absurd (eq_of_beq q) c1,λ_=>dd ?_⟩;by_cases c2:m.listen<0
 .rw[pD (.inr c2)];refine⟨λ_=>dd ?_,λq=>absurd c2 (pB q)⟩;refine td ?_
  refine .inl ⟨⟨true,[0,1,2],[3,4],[3]⟩,ak,uH ?_⟩;refine af (zS {m with pc:=23} 3 10 0) ?_;refine tc ?_;exact⟨.inl V,_,_,.refl _,rfl,zl.jd 2 ta V V V (by (repeat' (first|(exact V)|(exact qi lowC2)|(refine qc ?_ ?_)))) V⟩
 .rw[pA an];refine⟨λq=>absurd (pC q) c2,λ_=>dd ?_⟩;refine td ?_
  refine .inl ⟨⟨true,[0,1,2],[3,4],[3]⟩,ak,uH ?_⟩;refine af (zS {m with pc:=22} 3 10 0) ?_;refine tc ?_;exact⟨.inl V,_,_,.refl _,rfl,zl.jd 2 ta V V V (by (repeat' (first|(exact V)|(exact qi lowC2)|(refine qc ?_ ?_)))) V⟩
def OV(hp:m.pc=22)(h0:0<=m.listen)(hx:w.zc[m.listen.toNat]?=some l):
  th 93 [⟨2,98,4,(w.zc).map zT,0⟩] [Cw w,.agg (iU 0 w),Cm m] (.fy [.agg (iU 0 w),Cm {m with pc:=23},Ce (fI m 3 5 (IntKind.i64.wrap (l.zo-1)))]) [⟨2,98,4,(w.zc.set m.listen.toNat (kF l)).map zT,0⟩]:=by
 have e1:0+m.listen.toNat=m.listen.toNat:=pK _;have gx:(w.zc.map zT)[m.listen.toNat]?=some (zT l):=by rw[pw,hx];rfl
 have ft:=(px.1 hx).1;have hst:(w.zc.map zT).set m.listen.toNat [Tx l.name,Bo l.drain,I (IntKind.i64.wrap (l.zo-1)),Bo l.closed]=(w.zc.set m.listen.toNat (kF l)).map zT:=bO
 have gy:((w.zc.set m.listen.toNat (kF l)).map zT)[m.listen.toNat]?=some (zT (kF l)):=by rw[pw,pH ft];rfl
 refine aa func93 ?_;refine zat ?_
 refine zat ?_
 refine za7 ?_
 refine .inl ⟨⟨false,[1,3,5,7],[2,3],[]⟩,ak,uH ?_⟩;refine⟨h0,ft,dd ?_⟩;rw[e1];refine⟨_,gx,tZ,dd ?_⟩;refine zbl ?_
 rw[hst];refine .inl ⟨⟨true,[0,1,2,4,6,9],[0,2,3],[10]⟩,ak,uH ?_⟩;refine⟨h0,ft,dd ?_⟩;rw[e1];refine⟨_,gy,tZ,dd ?_⟩;refine af (zS {m with pc:=23} 3 5 (IntKind.i64.wrap (l.zo-1))) ?_;refine tc ?_;exact dF
def OW(sw:z6 w)(ok:fG w)(hl:i64 m.listen)(hs:zG w m=true)(hp:m.pc=23)(h0:0<=m.zm)(hx:w.pins[m.zm.toNat]?=some p):
  th 93 [] [Cw w,Cw w,Cm m] (.fy [Cw (mJ w m.zm.toNat 0),Cm {m with done:=true},Ce {BL m with done:=true,answer:=m.answer}]) []:=by
 refine ab func93 ?_;refine zat ?_
 refine zat ?_
 refine zat ?_
 refine af (SD sw ok hl hs h0 hx) ?_;refine .inl ⟨⟨false,[0,1,2],[2,6,7],[]⟩,ak,uH ?_⟩;refine tc ?_
 exact uI
end
def IV(m:fx)(e:fF)(a:fM):th 97 [] [Cm m,Ce e,.agg (qY a)] (.fy [Cm {m with done:=true,answer:=a},Ce {e with done:=true,answer:=a}]) []:=by
 refine ab func97 ?_;refine .inl ⟨⟨false,[0,1],[0,1],[]⟩,ak,uH ?_⟩;refine tc ?_
 exact uI
section
variable {w:Wor} {m:fx} {v:fC} {g:Gr} {e:En}
def Rz(sw:z6 w)(ok:fG w)(hl:i64 m.listen)(hs:zG w m=true)(hp:m.pc=0)(hat:ig w m v g e)(hh:u64 e.head):th 49 [] [Cw w,Cm m] (.fy [Cw w,Cm {m with word:=e.head,pc:=1},Ce (ib m v 1 8 (zQ e.head))]) []:=by
 refine zav ?_
 refine af (qy w sw) ?_;refine zaS ?_
 refine zaF ?_
 refine .inl ⟨⟨true,[0,1,2,3,5],[0,1,5],[6,7]⟩,ak,uH ?_⟩;refine af (Go.Slp.x9 e.head hh) ?_;refine af (jk w {m with word:=e.head,pc:=1} v 1 8 (zQ e.head) hat.v0 hat.at_) ?_;refine tc ?_
 exact uI
def P5(sw:z6 w)(ok:fG w)(hl:i64 m.listen)(hs:zG w m=true)(hp:m.pc=2)(hat:ig w m v g e)(hh:u64 e.head)(hne:e.head≠m.word):th 49 [] [Cw w,Cm m] (.fy [Cw w,Cm {m with pc:=0},Ce (ib m v 5 8 (zQ e.head))]) []:=by
 refine zav ?_
 refine af (qy w sw) ?_;refine zaS ?_
 refine zaF ?_
 refine uE ?_;refine⟨λ_=>dd ?_,λq=>absurd tO hne⟩;refine .inl ⟨⟨true,[0,1,2,3,7],[0,1,5],[8,9]⟩,ak,uH ?_⟩;refine af (Go.Slp.x9 e.head hh) ?_;refine af (jk w {m with pc:=0} v 5 8 (zQ e.head) hat.v0 hat.at_) ?_;refine tc ?_
 exact uI
def RE(sw:z6 w)(ok:fG w)(hl:i64 m.listen)(hs:zG w m=true)(hp:m.pc=9)(hat:ig w m v g e):th 49 [] [Cw w,Cm m] (.fy [Cw w,Cm {m with answer:=wW 7,done:=true},Ce (HT m)]) []:=by
 refine zav ?_
 refine af (qy w sw) ?_;refine zaS ?_
 refine zaF ?_
 refine .inr ⟨⟨[0,1,2,4],[1],true⟩,ak,λ_=>V,_,uH ?_,λt2 H2 h=>h⟩;refine⟨_,ag [] (zS m 1 0 0),uH ?_⟩;refine⟨_,ag [] (IV m (fI m 1 0 0) (wW 7)),uH (uH ?_)⟩;(repeat' (first|(refine And.intro V (uH ?_))|(refine And.intro (uH ?_) trivial)|(refine And.intro ?_ ?_ <;> (conv=>whnf))))
 all_goals
  refine zaM ?_
  refine zaC ?_
  exact uI
def RD(sw:z6 w)(ok:fG w)(hl:i64 m.listen)(hs:zG w m=true)(hp:m.pc=4)(hat:ig w m v g e)(h0:0<=m.listen)(hx:w.zc[m.listen.toNat]?=some l):
  th 49 [] [Cw w,Cm m] (.fy [Cw {w with zc:=w.zc.set m.listen.toNat (kF l)},Cm {m with answer:=Du m,done:=true},Ce (HW m l)]) []:=by
 obtain⟨l0,ls,hq⟩:∃l0 ls,w.zc=l0::ls:=cO
 have e1:0+m.listen.toNat=m.listen.toNat:=pK _;have gx:(w.zc.map zT)[m.listen.toNat]?=some (zT l):=by rw[pw,hx];rfl
 have ft:=(px.1 hx).1;have hst:(w.zc.map zT).set m.listen.toNat [Tx l.name,Bo l.drain,I (IntKind.i64.wrap (l.zo-1)),Bo l.closed]=(w.zc.set m.listen.toNat (kF l)).map zT:=bO
 have gy:((w.zc.set m.listen.toNat (kF l)).map zT)[m.listen.toNat]?=some (zT (kF l)):=by rw[pw,pH ft];rfl
 refine zav ?_
 refine ae [] (yZ w sw l0 ls hq) ?_;refine zaS ?_
 refine zaF ?_
 refine .inl ⟨⟨false,[1,3,5,7],[1,6],[]⟩,ak,uH ?_⟩;refine⟨h0,ft,dd ?_⟩;rw[e1];refine⟨_,gx,tZ,dd ?_⟩;refine zbl ?_
 rw[hst];refine .inr ⟨⟨[0,1,3,5,8,9,11,13,15,17,19,21],[1,5,6],true⟩,ak,λ_=>V,_,uH ?_,λt2 H2 h=>h⟩;refine⟨h0,ft,dd ?_⟩;rw[e1];refine⟨_,gy,tZ,dd ?_⟩;refine⟨_,ag [] (zS m 3 5 (IntKind.i64.wrap (l.zo-1))),uH ?_⟩;refine⟨_,ag [] (IV m (fI m 3 5 (IntKind.i64.wrap (l.zo-1))) (Du m)),uH (uH ?_)⟩;(repeat' (first|(refine And.intro V (uH ?_))|(refine And.intro (uH ?_) trivial)|(refine And.intro ?_ ?_ <;> (conv=>whnf))))
 all_goals
  refine zaM ?_
  refine zbK ?_
  exact dW
end
section
variable {w:Wor} {m m':fx} {v0:fC} {g0:Gr} {e0:En} {e:fF}
def RC(sw:z6 w)(ok:fG w)(hl:i64 m.listen)(hs:zG w m=true)(hpc:m.pc=3)(hat:ig w m v0 g0 e0)(hne:e0.next≠[]){tk hd ac:Int}(htk:tk=g0.zC)(hhd:hd=e0.head)(hac:ac=IntKind.i64.wrap (e0.zo-1)):
  th 49 [] [Cw w,Cm m] (.fy [Cw (vO w m v0 g0 e0 tk hd ac),Cm {m with pc:=4},Ce (ib m v0 3 7 ac)]) []:=by
 obtain⟨hp,ownV,ownG,ownE,gv,gg,ge,estE,estG,estV,eshE,eshG,eshV⟩:=wI tk hd ac sw hat hne;have e1:0+m.version.toNat=m.version.toNat:=pK _;have e2:0+m.zp.toNat=m.zp.toNat:=pK _;have e3:0+m.end_.toNat=m.end_.toNat:=pK _;refine ab func49 ?_;refine zaV ?_;((repeat (first|refine uA ?_|refine uB ?_)))
 refine zbP ?_
 refine zah ?_
 refine⟨_,ge _ _,mH,dd ?_⟩;refine⟨_,ge _ _,rfl,dd ?_⟩;rw[rb];subst htk hhd hac;refine .inl ⟨⟨true,[0,1,2,3,7],[0,1,7,9],[8]⟩,ak,uH ?_⟩;refine⟨_,ge _ _,mH,dd ?_⟩;refine af (jk w {m with pc:=4} v0 3 7 (IntKind.i64.wrap (e0.zo-1)) hat.v0 hat.at_) ?_;refine tc ?_
 refine zax ?_;show _=some (C.fy [C.agg [I w.zr,I w.current,I w.lock,lI w.pins,C.fq 0 5 ((w.zd.set m.version.toNat (xL m v0 g0 e0 g0.zC e0.head (IntKind.i64.wrap (e0.zo-1)))).map zt),lL w.zc,fJ w.counts,lR w.zn],_,_]);rw[<-estV,<-estG,<-estE]
 rfl
def RB(sw:z6 w)(ok:fG w)(hl:i64 m.listen)(hs:zG w m=true)(hpc:m.pc=2)(hat:ig w m v0 g0 e0)(hne:e0.next≠[])(hw:u64 m.word)(s0: -1<=m.slot)(s1:m.slot<=2147483646)(heq:e0.head=m.word){tk hd ac:Int}(htk:tk=g0.zC)(hhd:hd=Go.Slp.vq m.word m.slot)(hac:ac=e0.zo):
  th 49 [] [Cw w,Cm m] (.fy [Cw (vO w m v0 g0 e0 tk hd ac),Cm {m with pc:=3},Ce {ib m v0 4 8 m.slot with jo:=true}]) []:=by
 obtain⟨hp,ownV,ownG,ownE,gv,gg,ge,estE,estG,estV,eshE,eshG,eshV⟩:=wI tk hd ac sw hat hne;have e1:0+m.version.toNat=m.version.toNat:=pK _;have e2:0+m.zp.toNat=m.zp.toNat:=pK _;have e3:0+m.end_.toNat=m.end_.toNat:=pK _;refine ab func49 ?_;refine zaV ?_;((repeat (first|refine uA ?_|refine uB ?_)))
 refine zbP ?_
 refine zah ?_
 refine .inl ⟨⟨false,[3,5],[1,7],[]⟩,ak,uH ?_⟩;refine⟨_,ge _ _,mE,dd ?_⟩;refine⟨λq=>absurd heq tO,λ_=>dd ?_⟩;refine af (Go.Slp.FR m.word m.slot hw s0 s1) ?_;refine⟨_,ge _ _,rfl,dd ?_⟩;rw[rb];subst htk hhd hac;refine af (jk w {m with pc:=3} v0 4 8 m.slot hat.v0 hat.at_) ?_;refine tc ?_
 refine .inl ⟨⟨false,[0,1,2],[1,9,10],[]⟩,ak,uH ?_⟩;refine tc ?_
 refine zax ?_;show _=some (C.fy [C.agg [I w.zr,I w.current,I w.lock,lI w.pins,C.fq 0 5 ((w.zd.set m.version.toNat (xL m v0 g0 e0 g0.zC (Go.Slp.vq m.word m.slot) e0.zo)).map zt),lL w.zc,fJ w.counts,lR w.zn],_,_]);rw[<-estV,<-estG,<-estE]
 rfl
def RA(sw:z6 w)(ok:fG w)(hl:i64 m.listen)(hs:zG w m=true)(hpc:m.pc=1)(hat:ig w m v0 g0 e0)(hne:e0.next≠[])(hw:u64 m.word)(s0:0<=m.slot)(s1:m.slot.toNat<e0.next.length){tk hd ac:Int}(htk:tk=g0.zC)(hhd:hd=e0.head)(hac:ac=e0.zo):
  th 49 [] [Cw w,Cm m] (.fy [Cw (vO w m v0 g0 (yw m e0) tk hd ac),Cm {m with pc:=2},Ce (ib m v0 2 9 (m.word%4294967296-1))]) []:=by
 have estE1:((fP m g0 e0 (e0.head) (8) (e0.zo)).set m.end_.toNat [U e0.head,C.fq 0 1 ((e0.next.set m.slot.toNat (m.word%4294967296-1)).map Go.Hy.encI),I e0.zo])=(g0.ends.set m.end_.toNat (vN (yw m e0) e0.head e0.zo)).map zx:=cV
 have estG1:((fT m v0 g0 (g0.zC) (7)).set m.zp.toNat [U g0.zC,C.fq 0 3 (((g0.ends.set m.end_.toNat (vN (yw m e0) e0.head e0.zo)).map zx))])=(v0.zg.set m.zp.toNat (nN m g0 (yw m e0) g0.zC e0.head e0.zo)).map zy:=cW
 have estV1:((fX w m v0 (6)).set m.version.toNat (qV v0.snap++[C.fq 0 2 (((v0.zg.set m.zp.toNat (nN m g0 (yw m e0) g0.zC e0.head e0.zo)).map zy)),Bo v0.qH]))=(w.zd.set m.version.toNat (xL m v0 g0 (yw m e0) g0.zC e0.head e0.zo)).map zt:=cX
 have eshE1:∀r∈((fP m g0 e0 (e0.head) (8) (e0.zo)).set m.end_.toNat [U e0.head,C.fq 0 1 ((e0.next.set m.slot.toNat (m.word%4294967296-1)).map Go.Hy.encI),I e0.zo]),∀c∈r,jV c=true/\zF c=true:=by
  rw[estE1];exact shut_map (enc:=zx) (λ_=>V) _
 have eshG1:∀r∈((fT m v0 g0 (g0.zC) (7)).set m.zp.toNat [U g0.zC,C.fq 0 3 ((fP m g0 e0 (e0.head) (8) (e0.zo)).set m.end_.toNat [U e0.head,C.fq 0 1 ((e0.next.set m.slot.toNat (m.word%4294967296-1)).map Go.Hy.encI),I e0.zo])]),∀c∈r,jV c=true/\zF c=true:=by
  rw[estE1,estG1];exact shut_map (enc:=zy) (λ_=>V) _
 have eshV1:∀r∈((fX w m v0 (6)).set m.version.toNat (qV v0.snap++[C.fq 0 2 ((fT m v0 g0 (g0.zC) (7)).set m.zp.toNat [U g0.zC,C.fq 0 3 ((fP m g0 e0 (e0.head) (8) (e0.zo)).set m.end_.toNat [U e0.head,C.fq 0 1 ((e0.next.set m.slot.toNat (m.word%4294967296-1)).map Go.Hy.encI),I e0.zo])]),Bo v0.qH])),∀c∈r,jV c=true/\zF c=true:=by
  rw[estE1,estG1,estV1];exact shut_map (enc:=zt) (λ_=>V) _
 have gn:(e0.next.map Hy.encI)[m.slot.toNat]?=some (Hy.encI (e0.next[m.slot.toNat]'s1)):=by rw[pw,pq s1];rfl
 have hst:(e0.next.map Hy.encI).set m.slot.toNat [I (m.word%4294967296-1)]=(e0.next.set m.slot.toNat (m.word%4294967296-1)).map Hy.encI:=bO
 have e4:0+m.slot.toNat=m.slot.toNat:=pK _;obtain⟨hp,ownV,ownG,ownE,gv,gg,ge,estE,estG,estV,eshE,eshG,eshV⟩:=wI tk hd ac sw hat hne;have e1:0+m.version.toNat=m.version.toNat:=pK _;have e2:0+m.zp.toNat=m.zp.toNat:=pK _;have e3:0+m.end_.toNat=m.end_.toNat:=pK _;refine ab func49 ?_;refine zaV ?_;((repeat (first|refine uA ?_|refine uB ?_)))
 refine zbP ?_
 refine zah ?_
 subst htk hhd hac;refine .inl ⟨⟨true,[3,5,7],[1,7],[8]⟩,ak,uH ?_⟩;refine⟨_,ge _ _,(by show 1+1<=3;decide),dd ?_⟩;refine af (Go.Slp.x9 m.word hw) ?_;refine⟨s0,s1,dd ?_⟩;rw[e4];refine⟨_,gn,rfl,dd ?_⟩;refine tc ?_
 rw[hst];refine .inl ⟨⟨true,[0,1,2,3,5],[0,1,9],[6,7]⟩,ak,uH ?_⟩;refine af (Go.Slp.x9 m.word hw) ?_;refine af (jk w {m with pc:=2} v0 2 9 (m.word%4294967296-1) hat.v0 hat.at_) ?_;refine tc ?_
 refine⟨.inl V,_,(((zl.zN 7 m.end_.toNat 1 V (ge _ _) V V (.inr V) ah ah (shut_map (enc:=Go.Hy.encI) (λ_=>V) _) (ownE 8 _ _)).trans (zl.zN 6 m.zp.toNat 1 V (gg _) V V (.inl V) ah ah eshE1 (ownG 7 _))).trans (zl.zN 5 m.version.toNat 3 V gv V V (.inl V) ah ah eshG1 (ownV 6))).trans (zl.zN 2 0 4 V V V V (.inl V) ah ah eshV1 (zB V)),?_⟩;show _=some (C.fy [C.agg [I w.zr,I w.current,I w.lock,lI w.pins,C.fq 0 5 ((w.zd.set m.version.toNat (xL m v0 g0 (yw m e0) g0.zC e0.head e0.zo)).map zt),lL w.zc,fJ w.counts,lR w.zn],_,_]);rw[<-estV1,<-estG1,<-estE1]
 rfl
end
end Go.Wor
