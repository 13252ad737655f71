import Derived.Test.YtamgiodaflkbhaaGreatTS1
import Derived.Test.YtamgiodaflkbhaaGreatTS3
import Derived.Test.YtamgiodaflkbhaaGreatTK
import Derived.Test.YtamgiodaflkbhaaGreatTS2
set_option linter.all false
set_option maxRecDepth 100000
set_option maxHeartbeats 4000000
namespace Go.Wor
open Go.Ab Go.Proofs Tryz Go.Gat Go.Nam Go.Hos Go.Con Go.Sna
open Go.Hy hiding encI
variable{p x:Int}{r0:List Int}{l:fj}
section
variable {w:Wor} {m:eQ}
def Q4(sw:z6 w)(ok:fa w)(hl:i64 m.listen)(hs:zE w m=true)(hp:m.pc=0):th 88 [] [Cw w,Cm m] (.eR [Cw w,Cm {m with zr:=w.zr,pc:=1},Ce (mN m (nz w.zr))]) []:=by
 refine zbm ?_
 refine af (qw w sw) ?_;refine zaV ?_
 refine .inl ⟨⟨false,[0,1,2],[1,5,6],[]⟩,ak,uH ?_⟩;refine tc ?_
 exact uI
def Q6(sw:z6 w)(ok:fa w)(hl:i64 m.listen)(hs:zE w m=true)(hp:m.pc=2):th 88 [] [Cw w,Cm m] (.eR [Cw w,Cm {m with zr:=w.zr,pc:=if w.zr=m.zr then 3 else 1},Ce (mN m (nz w.zr))]) []:=by
 refine zbm ?_
 refine af (qw w sw) ?_;refine zal ?_
 refine zal ?_
 by_cases c:w.zr=m.zr
 .rw[gS c];refine⟨λq=>absurd c mG,λ_=>dd ?_⟩;refine .inl ⟨⟨false,[0,1,2],[1,5,6],[]⟩,ak,uH ?_⟩;refine tc ?_
  exact uI
 .rw[gP c];refine⟨λ_=>dd ?_,λq=>absurd mG c⟩;refine .inl ⟨⟨false,[0,1,2],[1,5,6],[]⟩,ak,uH ?_⟩;refine tc ?_
  exact uI
def Q5(sw:z6 w)(ok:fa w)(hl:i64 m.listen)(hs:zE w m=true)(hp:m.pc=1)(h0:0<=m.zl)(hx:w.pins[m.zl.toNat]?=some p):
  th 88 [] [Cw w,Cm m] (.eR [Cw (lN w m.zl.toNat (IntKind.i64.wrap (m.zr+1))),Cm {m with pc:=2},Ce (mN m ⟨0,0,2,2,0,false,IntKind.i64.wrap (m.zr+1),false,false,false,kk⟩)]) []:=by
 obtain⟨p0,ps,hq⟩:∃p0 ps,w.pins=p0::ps:=cL
 have e1:0+m.zl.toNat=m.zl.toNat:=gZ _;have gx:(w.pins.map Go.Hy.encI)[m.zl.toNat]?=some (Go.Hy.encI p):=by rw[gM,hx];rfl
 have eP:=(gN.1 hx).1;have hst:(w.pins.map Go.Hy.encI).set m.zl.toNat [I (IntKind.i64.wrap (m.zr+1))]=(w.pins.set m.zl.toNat (IntKind.i64.wrap (m.zr+1))).map Go.Hy.encI:=bE
 refine zbm ?_
 refine ae [] (Ii w sw p0 ps hq) ?_;refine zal ?_
 refine zaV ?_
 refine⟨h0,eP,?_⟩;(refine dd ?_);(rw[e1]);refine zcl ?_
 refine .inl ⟨⟨false,[0,1,2],[1,6,7],[]⟩,ak,uH ?_⟩;refine tc ?_
 exact⟨.inl V,_,zk.zN 2 0 3 V V V V (.inr V) V ah (shut_map (enc:=Go.Hy.encI) (λ_=>V) _) (zB V),rfl⟩
def Sd(sw:z6 w)(ok:fa w)(hl:i64 m.listen)(hs:zE w m=true)(h0:0<=m.zl)(hx:w.pins[m.zl.toNat]?=some p):
  th 152 [] [Cw w,Cm m] (.eR [Cw (lN w m.zl.toNat 0),Ce (AX m)]) []:=by
 obtain⟨p0,ps,hq⟩:∃p0 ps,w.pins=p0::ps:=cL
 have e1:0+m.zl.toNat=m.zl.toNat:=gZ _;have gx:(w.pins.map Go.Hy.encI)[m.zl.toNat]?=some (Go.Hy.encI p):=by rw[gM,hx];rfl
 have eP:=(gN.1 hx).1;have hst:(w.pins.map Go.Hy.encI).set m.zl.toNat [I 0]=(w.pins.set m.zl.toNat 0).map Go.Hy.encI:=bE
 refine ab func152 ?_;refine af (zQ w m ok hl) ?_;rw[hs];refine td ?_
 refine ae [] (Ii w sw p0 ps hq) ?_;refine⟨h0,eP,?_⟩;(refine dd ?_);(rw[e1]);refine zcl ?_
 refine .inl ⟨⟨false,[0,2],[1,5],[]⟩,ak,uH ?_⟩;refine tc ?_
 exact⟨.inl V,_,zk.zN 2 0 3 V V V V (.inr V) V ah (shut_map (enc:=Go.Hy.encI) (λ_=>V) _) (zB V),rfl⟩
def Sg{r:Wor×eQ×e7}(sw:z6 w)(ok:fa w)(hl:i64 m.listen)(hs:zE w m=true)(h0:0<=m.zl)(ht:m.zl<w.pins.length)(h:BT w m=some r):th 88 [] [Cw w,Cm m] (.eR [Cw r.1,Cm r.2.1,Ce r.2.2]) []:=by
 obtain⟨p,hx⟩:∃p,w.pins[m.zl.toNat]?=some p:=⟨_,gL an⟩;unfold BT at h;split at h
 .rename_i p0;cases h
  exact Q4 sw ok hl hs p0
 split at h
 .rename_i p1;cases h
  exact Q5 sw ok hl hs p1 h0 hx
 split at h
 .rename_i p2;cases h
  exact Q6 sw ok hl hs p2
 .cases h
end
def Qt(c:fq)(n:Int)(hn:u64 n)(hl:c.zL.length<1000000000000)(hh:(eP c).length<=c.zL.length):th 148 [] [Cc c,U n] (.eR [I (nh c n).1,I (nh c n).2]) []:=by
 have ml:((eP c).map Go.Hy.encI).length=(eP c).length:=gO ..;refine ab func148 ?_;refine af (H6 c hl) ?_;rw[ml];refine⟨λh0=>?_,λh0=>?_⟩
 .unfold nh;have h0:=gQ h0;rw[gS an];exact uI
 .unfold nh;have h0:=gR h0;rw[gP an];refine dd ?_
  have hw:IntKind.u64.wrap ((((eP c).map Go.Hy.encI).length:Nat):Int)≠0:=by
   have hk:=ml;have:IntKind.u64.wrap ((((eP c).map Go.Hy.encI).length:Nat):Int)=(eP c).length:=cM
   omega
  split
  rotate_left
  .rename_i hno;exact(hno _ (jV V V V hw)).elim
  .rename_i v e;have e':=e.symm.trans (jV V V V hw);cases e'
   refine dd ?_;have ew:IntKind.u64.wrap ((((eP c).map Go.Hy.encI).length:Nat):Int)=(eP c).length:=cM
   have et:n.tmod (IntKind.u64.wrap ((((eP c).map Go.Hy.encI).length:Nat):Int))=n%(eP c).length:=by rw[ew];exact so hn.1
   have b0:0<=n%((eP c).length:Int):=sB _ h0;have b1:n%((eP c).length:Int)<(eP c).length:=ss _ an;have hi:(n%((eP c).length:Int)).toNat<(eP c).length:=an
   have et2:IntKind.i64.wrap (n.tmod (IntKind.u64.wrap ((((eP c).map Go.Hy.encI).length:Nat):Int)))=n%(eP c).length:=by rw[et];exact jB an an
   have gx:((eP c).map Go.Hy.encI)[(IntKind.i64.wrap (n.tmod (IntKind.u64.wrap ((((eP c).map Go.Hy.encI).length:Nat):Int)))).toNat]?=some (Go.Hy.encI ((eP c)[(n%((eP c).length:Int)).toNat]'hi)):=by rw[et2,gM,gL hi];rfl
   refine⟨by show 0<=IntKind.i64.wrap (n.tmod (IntKind.u64.wrap ((((eP c).map Go.Hy.encI).length:Nat):Int)));rw[et2];exact b0,_,gx,dd ?_⟩;rw[gL hi];exact uI
def QU(a x b y:Int):th 150 [] [I a,I x,I b,I y] (I (if y<x then b else a)) []:=by
 refine ab func150 ?_;refine⟨λh=>?_,λh=>?_⟩
 .rw[gP cA];exact dg
 .rw[gS (by have:=gR h;omega)];exact dg
def Jp(d:Int)(n:Nat)(hd:i64 d)(hn:0<n)(hm:n<1000000000000):th 245 [] [I d,I n] (I (d%n)) []:=by
 have h1:=Int.tmod_lt_of_pos d (show(0:Int)<n by omega);have h2:=Int.lt_tmod_of_pos d (show(0:Int)<n by omega);have h3:=sB d (show(n:Int)≠0 by omega);have h4:=ss d (show(0:Int)<n by omega);have h5:(d.tmod n)%n=d%n:=by rw[Int.tmod_def,ed]
 have hw:((n:Nat):Int)≠0:=an
 refine ab func245 ?_;split;(rotate_left;(rename_i hno;exact(hno _ (jV V V V hw)).elim));(rename_i v e;cases e.symm.trans (jV rfl rfl rfl hw));refine dd ?_
 refine⟨λq=>?_,λq=>?_⟩
 .have q:=gQ q;have e:d.tmod n+n=d%n:=by rw[<-h5,<-Int.add_emod_right,uj an an]
  refine dd ?_;rw[jB an an,e];exact uI
 .have q:=gR q;have e:d.tmod n=d%n:=by rw[<-h5,uj an an]
  refine dd ?_;exact dY
def PW(c:fq)(d0 d1:Int)(h0:i64 d0)(h1:i64 d1)(hl:c.zL.length<1000000000000)(hh:(eP c).length<=c.zL.length):th 197 [] [Cc c,I d0,I d1] (.eR [I (yr c d0 d1).1,I (yr c d0 d1).2.1,I (yr c d0 d1).2.2]) []:=by
 have ml:((eP c).map Go.Hy.encI).length=(eP c).length:=gO ..;refine ab func197 ?_;refine af (H6 c hl) ?_;rw[ml];refine⟨λhz=>?_,λhz=>?_⟩
 .unfold yr;have hz:=eq_of_beq hz;rw[gS an];exact dg
 .unfold yr;have hz:(eP c).length≠0:=λq=>by rw[q]at hz;simp at hz
  rw[gP hz];have b0:∀d:Int,0<=d%((eP c).length:Int):=λd=>sB _ an
  have b1:∀d:Int,d%((eP c).length:Int)<(eP c).length:=λd=>ss _ an
  have gx:∀d:Int,((eP c).map Go.Hy.encI)[(d%((eP c).length:Int)).toNat]?=some [I (kF c d)]:=λd=>by
   have hi:(d%((eP c).length:Int)).toNat<(eP c).length:=by have:=b0 d;have:=b1 d;omega
   unfold kF;rw[gM,gL hi]
   rfl
  refine dd ?_;refine .inl ⟨⟨true,[6,13],[0],[4,11]⟩,ak,uH ?_⟩;rw[ml];refine af (Jp d0 (eP c).length h0 an an) ?_;refine⟨b0 d0,_,gx d0,uH ?_⟩;rw[ml];refine af (Jp d1 (eP c).length h1 an an) ?_;refine⟨b0 d1,_,gx d1,uH ?_⟩;exact uI
def Jv(b:Bool):th 146 [] [Bo b] (I (if b then 1 else 0)) []:=by
 cases b
 all_goals
  refine ab func146 ?_;exact uI
def k9(m:eQ)(n:Int):th 145 [] [Cm m,I n] (Cm (kf m n)) []:=by
 refine ab func145 ?_;exact uI
def QT(n:Int):th 151 [] [I n] (I (wv n)) []:=by
 refine ab func151 ?_;by_cases h1:n<1
 .rw[show wv n=0 from gS (.inl h1)];refine zbu ?_;refine td ?_
  exact uI
 refine⟨λ_=>dd ?_,λq=>absurd (gR q) an⟩;by_cases h5:5<n
 .rw[show wv n=0 from gS (.inr h5)];refine zbu ?_;refine td ?_
  exact uI
 refine⟨λ_=>dd ?_,λq=>absurd (gR q) an⟩;refine td ?_
 rw[show wv n=n from gP an]
 have hx:[[I 0],[I 1],[I 2],[I 3],[I 4],[I 5]][n.toNat]?=some [I n]:=by
  obtain rfl|rfl|rfl|rfl|rfl:n=1\/n=2\/n=3\/n=4\/n=5:=an
  all_goals exact V
 refine⟨an,_,hx,uH ?_⟩;exact uI
def SP(w:Wor)(m:eQ)(v:eX)(g:Gr)(e:En)(hat:fF w m v g e):th 149 [] [Cw w,Cm m] (.agg (zu e)) []:=by
 refine ab func149 ?_;(try (refine uE ?_))
 refine⟨hat.v0,_,hat.row,uH ?_⟩;refine⟨hat.g0,_,hat.nR,uH ?_⟩;refine⟨hat.e0,_,hat.o3,uH ?_⟩;exact uI
def Pq(w:Wor)(m:eQ)(v:eX)(hv:lS w m v)(h:B2 m v):th 147 [] [Cw w,Cm m] (Cm (yl m v)) []:=by
 refine ab func147 ?_;(try (refine uE ?_))
 refine⟨hv.v0,_,hv.row,uH ?_⟩;refine af (QQ v.snap m.op.listen m.op.host m.op.path h.small h.host h.path) ?_;refine⟨λh1=>?_,λh1=>?_⟩
 .have h2:(xq m v).2≠0:=by simpa using h1
  rw[J8 h2];refine dd ?_;refine af (k9 m 2) ?_;exact uI
 have h2:(xq m v).2=0:=ai h1
 obtain⟨g0,c,hc,hcl⟩:=h.MN h2;have gc:(v.snap.zi.map jl)[(xq m v).1.toNat]?=some (jl c):=by rw[gM,hc];rfl
 refine dd ?_;refine .inl ⟨⟨true,[1,4,7,10],[1,3],[11]⟩,ak,uH ?_⟩;refine⟨g0,_,gc,uH ?_⟩;refine af (PW c m.op.d0 m.op.d1 h.d0 h.d1 hcl (D7 c)) ?_;refine⟨λh3=>?_,λh3=>?_⟩
 .have h4:(yr c m.op.d0 m.op.d1).2.2≠0:=by simpa using h3
  rw[Jn h2 hc h4];refine dd ?_;refine af (k9 {m with zp:=(xq m v).1} 3) ?_;exact uI
 have h4:(yr c m.op.d0 m.op.d1).2.2=0:=ai h3
 refine dd ?_;refine⟨g0,_,gc,uH ?_⟩;refine⟨λh5=>?_,λh5=>?_⟩
 .have h6:c.jJ=1:=by simpa using h5
  rw[JU h2 hc h4 h6];exact dg
 .have h6:c.jJ≠1:=by simpa using h5
  rw[JV h2 hc h4 h6];exact dg
def Ow(w:Wor)(m:eQ)(hp:m.pc=3)(hl:w.zc.length<4611686018427387904):th 90 [] [Cw w,Cw w,Cm m] (.eR [Cw w,Cm (if z7 w.zc m.op.listen<0 then kf (Aa w m) 2 else Aa w m),Ce (EU (fc m 1 3 w.current))]) []:=by
 refine ab func90 ?_;refine zaV ?_
 refine af (zT m 1 3 w.current) ?_;refine af (kL w.zc m.op.listen hl) ?_;refine⟨λq=>?_,λq=>?_⟩
 .rw[gS (gQ q)];refine dd ?_;refine af (k9 (Aa w m) 2) ?_;refine za9 ?_
  exact uI
 .rw[gP (gR q)];refine dd ?_;refine za9 ?_
  exact uI
def Ox(w:Wor)(m:eQ)(l:fj)(hp:m.pc=4)(h0:0<=m.listen)(hx:w.zc[m.listen.toNat]?=some l):
  th 90 [⟨2,98,4,(w.zc).map zU,0⟩] [Cw w,.agg (iv 0 w),Cm m] (.eR [.agg (iv 0 w),Cm {m with pc:=5},Ce (fc m 3 5 (IntKind.i64.wrap (l.zo+1)))]) [⟨2,98,4,(w.zc.set m.listen.toNat (AK l)).map zU,0⟩]:=by
 have e1:0+m.listen.toNat=m.listen.toNat:=gZ _;have gx:(w.zc.map zU)[m.listen.toNat]?=some (zU l):=by rw[gM,hx];rfl
 have eP:=(gN.1 hx).1;have hst:(w.zc.map zU).set m.listen.toNat [Tx l.name,Bo l.drain,I (IntKind.i64.wrap (l.zo+1)),Bo l.closed]=(w.zc.set m.listen.toNat (AK l)).map zU:=bE
 have gy:((w.zc.set m.listen.toNat (AK l)).map zU)[m.listen.toNat]?=some (zU (AK l)):=by rw[gM,gX eP];rfl
 refine aa func90 ?_;refine zal ?_
 refine zaV ?_
 refine uE ?_;refine⟨h0,_,gx,uH ?_⟩;refine za8 ?_
 rw[hst];refine .inl ⟨⟨true,[0,1,2,4,6,9],[0,2,3],[10]⟩,ak,uH ?_⟩;refine⟨h0,eP,dd ?_⟩;rw[e1];refine⟨_,gy,tY,dd ?_⟩;refine af (zT {m with pc:=5} 3 5 (IntKind.i64.wrap (l.zo+1))) ?_;refine tc ?_;exact dG
def Oy(w:Wor)(m:eQ)(v:eX)(l:fj)(hp:m.pc=5)(hv:lS w m v)(h:B2 m v)(h0:0<=m.listen)(hx:w.zc[m.listen.toNat]?=some l):
  th 90 [] [Cw w,Cw w,Cm m] (.eR [Cw w,Cm (if l.drain then kf m 5 else yl m v),Ce (if l.drain then {fc m 1 4 1 with jj:=true} else fc m 1 4 0)]) []:=by
 have gx:(w.zc.map zU)[m.listen.toNat]?=some (zU l):=by rw[gM,hx];rfl
 obtain⟨ln,ld,la,lc⟩:=l;cases ld
 all_goals
  refine ab func90 ?_;refine zal ?_
  refine zal ?_
  refine .inr ⟨⟨[0,2,4,7,8,9],[0,2],true⟩,ak,λ_=>V,_,uH ?_,λt2 H2 h=>h⟩;refine⟨h0,_,gx,uH ?_⟩;refine zav ?_
 .refine⟨_,ag [] (Jv false),uH ?_⟩;refine⟨_,ag [] (zT m 1 4 0),uH ?_⟩;(repeat' (first|(refine And.intro V (uH ?_))|(refine And.intro (uH ?_) trivial)|(refine And.intro ?_ ?_ <;> (conv=>whnf))))
  refine zaC ?_
  refine⟨h0,_,gx,uH ?_⟩;refine zav ?_
  refine .inl ⟨⟨true,[0,1,2,4],[0,1,2,6],[3]⟩,ak,uH ?_⟩;refine af (Pq w m v hv h) ?_;refine tc ?_
  exact uI
 .refine⟨_,ag [] (Jv true),uH ?_⟩;refine⟨_,ag [] (zT m 1 4 1),uH ?_⟩;(repeat' (first|(refine And.intro V (uH ?_))|(refine And.intro (uH ?_) trivial)|(refine And.intro ?_ ?_ <;> (conv=>whnf))))
  refine zaC ?_
  refine⟨h0,_,gx,uH ?_⟩;refine zav ?_
  refine .inl ⟨⟨true,[0,1,3],[1,2,6],[2]⟩,ak,uH ?_⟩;refine af (k9 m 5) ?_;refine tc ?_
  exact uI
section
variable {w:Wor} {m:eQ} {v:eX} {g:Gr} {e:En}
def Pn(hat:fF w m v g e)(hp:m.pc=7):th 91 [] [Cw w,Cw w,Cm m] (.eR [Cw w,Cm {m with i:=e.zo,pc:=8},Ce (fD m v 1 7 e.zo)]) []:=by
 refine ab func91 ?_;refine zal ?_
 refine zaV ?_
 refine af (SP w m v g e hat) ?_;refine .inl ⟨⟨true,[0,1,2,3,5],[0,1,2],[6]⟩,ak,uH ?_⟩;refine af (jg w {m with i:=e.zo,pc:=8} v 1 7 e.zo hat.v0 hat.at_) ?_;refine tc ?_
 exact uI
def Po(hat:fF w m v g e)(hp:m.pc=8)(o0:0<=m.other){e2:En}(ho:g.ends[m.other.toNat]?=some e2):th 91 [] [Cw w,Cw w,Cm m] (.eR [Cw w,Cm {m with end_:=if e2.zo<m.i then m.other else m.end_,pc:=9},Ce (fD m v 1 7 e2.zo)]) []:=by
 have ro:(g.ends.map zu)[m.other.toNat]?=some (zu e2):=by rw[gM,ho];rfl
 refine ab func91 ?_;refine zal ?_
 refine zal ?_
 refine uE ?_;refine⟨hat.v0,_,hat.row,uH ?_⟩;refine⟨hat.g0,_,hat.nR,uH ?_⟩;refine⟨o0,_,ro,uH ?_⟩;refine af (jg w m v 1 7 e2.zo hat.v0 hat.at_) ?_;refine af (QU m.end_ m.i m.other e2.zo) ?_;refine za9 ?_
 exact uI
def Pr(hat:fF w m v g e)(hp:m.pc=9)(hh:u64 e.head)(ll:e.next.length<4000000000000000000):th 92 [] [Cw w,Cw w,Cm m]
  (.eR [Cw w,Cm (if 0<=zR e.head/\zR e.head<e.next.length then {m with word:=e.head,slot:=zR e.head,pc:=10} else kf {m with word:=e.head} 4),Ce (fD m v 1 8 (zR e.head))]) []:=by
 have ml:(e.next.map Go.Hy.encI).length=e.next.length:=gO ..;refine ab func92 ?_;refine zaH ?_
 refine zaV ?_
 refine af (Go.Slp.xS e.head hh) ?_;refine af (jg w {m with word:=e.head} v 1 8 (zR e.head) hat.v0 hat.at_) ?_;by_cases c0:zR e.head<0
 .rw[gP an];refine⟨λ_=>dd ?_,λq=>absurd c0 (gR q)⟩;refine td ?_
  refine .inl ⟨⟨true,[0,1,3],[1,2,6],[2]⟩,ak,uH ?_⟩;refine af (k9 {m with word:=e.head} 4) ?_;refine tc ?_
  exact uI
 refine⟨λq=>absurd (gQ q) c0,λ_=>dd ?_⟩;rw[ml];by_cases c1:zR e.head<e.next.length
 .rw[gS ⟨an,c1⟩];refine⟨λq=>absurd (gQ q) (by have:zR e.head=e.head%4294967296-1:=rfl;omega),λ_=>dd ?_⟩;refine td ?_
  refine za9 ?_
  exact uI
 .rw[gP an];refine⟨λ_=>dd ?_,λq=>absurd (gR q) (by have:zR e.head=e.head%4294967296-1:=rfl;omega)⟩;refine td ?_
  refine .inl ⟨⟨true,[0,1,3],[1,2,6],[2]⟩,ak,uH ?_⟩;refine af (k9 {m with word:=e.head} 4) ?_;refine tc ?_
  exact uI
def OI(hat:fF w m v g e)(hp:m.pc=10)(s0:0<=m.slot)(hx:e.next[m.slot.toNat]?=some x):th 92 [] [Cw w,Cw w,Cm m] (.eR [Cw w,Cm {m with link:=x,pc:=11},Ce (fD m v 1 9 x)]) []:=by
 have rx:(e.next.map Go.Hy.encI)[m.slot.toNat]?=some (Go.Hy.encI x):=by rw[gM,hx];rfl
 refine ab func92 ?_;refine zaH ?_
 refine zal ?_
 refine zaV ?_
 refine uE ?_;refine⟨s0,_,rx,uH ?_⟩;refine .inl ⟨⟨true,[0,1,2,3,5],[0,1,2],[6]⟩,ak,uH ?_⟩;refine af (jg w {m with link:=x,pc:=11} v 1 9 x hat.v0 hat.at_) ?_;refine tc ?_
 exact uI
def Oq(hat:fF w m v g e)(hp:m.pc=11)(hw:u64 m.word)(l0: -1<=m.link)(l1:m.link<=2147483646)(hh:u64 e.head)(hne:e.head≠m.word):th 92 [] [Cw w,Cw w,Cm m] (.eR [Cw w,Cm {m with pc:=9},Ce (fD m v 5 8 (zR e.head))]) []:=by
 refine ab func92 ?_;refine zaH ?_
 refine zal ?_
 refine zal ?_
 refine zaV ?_
 refine af (Go.Slp.Ff m.word m.link hw l0 l1) ?_;refine uE ?_;refine⟨λ_=>dd ?_,λq=>absurd mG hne⟩;refine td ?_
 refine .inl ⟨⟨true,[0,1,2,3,7],[0,1,2],[8,9]⟩,ak,uH ?_⟩;refine af (Go.Slp.xS e.head hh) ?_;refine af (jg w {m with pc:=9} v 5 8 (zR e.head) hat.v0 hat.at_) ?_;refine tc ?_
 exact uI
end
section
variable {w:Wor} {m:eQ} {v0:eX} {g0:Gr} {e0:En}
def GL(hat:fF w m v0 g0 e0):m.version.toNat<w.zd.length/\m.zp.toNat<v0.zg.length/\m.end_.toNat<g0.ends.length/\(fy w m v0 (1))[m.version.toNat]?=some (fl (1) v0)/\(∀t,(fp m v0 g0 (t) 2)[m.zp.toNat]?=some ([U (t),C.sl 2 [] 3 0 g0.ends.length false]))/\(∀a b,(fk m g0 e0 (a) 3 (b))[m.end_.toNat]?=some ([U (a),C.sl 3 [] 1 0 e0.next.length false,I (b)]))/\
  (∀r∈(fy w m v0 (1)),∀c∈r,qE 4 9 c=true)/\(∀t,∀r∈(fp m v0 g0 (t) 2),∀c∈r,qE 4 9 c=true)/\(∀a b,∀r∈(fk m g0 e0 (a) 3 (b)),∀c∈r,qE 4 9 c=true)/\0+m.version.toNat=m.version.toNat/\0+m.zp.toNat=m.zp.toNat/\0+m.end_.toNat=m.end_.toNat:=by
 have lv:=(gN.1 hat.at_).1;have lg:=(gN.1 hat.fV).1;have le:=(gN.1 hat.ig).1;exact⟨lv,lg,le,gX (ai lv),λ_=>gX (ai lg),λ_ _=>gX (ai le),zF (enc:=zt) (λ_=>V) V _ _,λ_=>zF (enc:=zy) (λ_=>V) V _ _,λ_ _=>zF (enc:=zu) (λ_=>V) V _ _,gZ _,gZ _,gZ _⟩
def OL(hat:fF w m v0 g0 e0)(hp:m.pc=12):th 92 [⟨1,0,5,(fy w m v0 (1)),0⟩,⟨1,0,2,(fp m v0 g0 (g0.zC) 2),0⟩,⟨1,0,3,(fk m g0 e0 (e0.head) 3 (e0.zo)),0⟩,⟨2,3,1,(e0.next).map Go.Hy.encI,0⟩] [Cw w,.agg (fL w 0),Cm m]
  (.eR [.agg (fL w 0),Cm {m with answer:=CB m,pc:=20},Ce (fD m v0 3 7 (IntKind.i64.wrap (e0.zo+1)))]) [⟨1,0,5,(fy w m v0 (1)),0⟩,⟨1,0,2,(fp m v0 g0 (g0.zC) 2),0⟩,⟨1,0,3,((g0.ends.map zu).set m.end_.toNat ([U (e0.head),C.sl 3 [] 1 0 e0.next.length false,I ((IntKind.i64.wrap (e0.zo+1)))])),0⟩,⟨2,3,1,(e0.next).map Go.Hy.encI,0⟩]:=by
 obtain⟨lv,lg,le,gv,gg,ge,lowV,lowG,lowE,z1,z2,z3⟩:=GL hat;refine zbG ?_;(rw[z2]);(refine⟨_,gg _,mB,?_⟩);(refine dd ?_);(refine⟨hat.e0,le,?_⟩);(refine dd ?_);(rw[z3])
 refine zal ?_
 refine zal ?_
 refine zal ?_
 refine⟨_,ge _ _,mF,dd ?_⟩;refine⟨_,ge _ _,rfl,dd ?_⟩;rw[pL];refine .inl ⟨⟨true,[0,1,2,3,7],[2,4,5,6],[8]⟩,ak,uH ?_⟩;refine⟨_,ge _ _,mF,dd ?_⟩;refine af (jg w {m with answer:=CB m,pc:=20} v0 3 7 (IntKind.i64.wrap (e0.zo+1)) hat.v0 hat.at_) ?_;refine tc ?_;exact⟨.inl V,_,_,.refl _,rfl,zk.jq 4 ta V V V (by (repeat' (first|(exact V)|(exact qm lowV)|(exact qm (lowG _))|(exact qm (lowE _ _))|(refine qg ?_ ?_)))) V⟩
def OJ(hat:fF w m v0 g0 e0)(hp:m.pc=11)(hw:u64 m.word)(l0: -1<=m.link)(l1:m.link<=2147483646)(heq:e0.head=m.word):th 92 [⟨1,0,5,(fy w m v0 (1)),0⟩,⟨1,0,2,(fp m v0 g0 (g0.zC) 2),0⟩,⟨1,0,3,(fk m g0 e0 (e0.head) 3 (e0.zo)),0⟩,⟨2,3,1,(e0.next).map Go.Hy.encI,0⟩] [Cw w,.agg (fL w 0),Cm m]
  (.eR [.agg (fL w 0),Cm {m with pc:=12},Ce (fD m v0 4 8 m.slot)]) [⟨1,0,5,(fy w m v0 (1)),0⟩,⟨1,0,2,(fp m v0 g0 (g0.zC) 2),0⟩,⟨1,0,3,(fk m g0 e0 ((Go.Slp.y9 m.word m.link)) 3 (e0.zo)),0⟩,⟨2,3,1,(e0.next).map Go.Hy.encI,0⟩]:=by
 obtain⟨lv,lg,le,gv,gg,ge,lowV,lowG,lowE,z1,z2,z3⟩:=GL hat;refine zbG ?_;(rw[z2]);(refine⟨_,gg _,mB,?_⟩);(refine dd ?_);(refine⟨hat.e0,le,?_⟩);(refine dd ?_);(rw[z3])
 refine zal ?_
 refine zal ?_
 refine zaV ?_
 refine af (Go.Slp.Ff m.word m.link hw l0 l1) ?_;refine .inl ⟨⟨false,[3,5],[2,6],[]⟩,ak,uH ?_⟩;refine⟨_,ge _ _,mC,dd ?_⟩;refine⟨λq=>absurd heq mG,λ_=>dd ?_⟩;refine td ?_
 refine⟨_,ge _ _,rfl,dd ?_⟩;rw[pL];refine .inl ⟨⟨true,[0,1,2,3,5],[4,5,6],[6]⟩,ak,uH ?_⟩;refine af (jg w {m with pc:=12} v0 4 8 m.slot hat.v0 hat.at_) ?_;refine tc ?_;exact⟨.inl V,_,_,.refl _,rfl,zk.jq 4 ta V V V (by (repeat' (first|(exact V)|(exact qm lowV)|(exact qm (lowG _))|(exact qm (lowE _ _))|(refine qg ?_ ?_)))) V⟩
def Pm(hat:fF w m v0 g0 e0)(hp:m.pc=6){c:fq}(hc:v0.snap.zi[m.zp.toNat]?=some c)(ht:u64 g0.zC)(hl:c.zL.length<1000000000000):th 91 [⟨1,0,5,(fy w m v0 (1)),0⟩,⟨1,0,2,(fp m v0 g0 (g0.zC) 2),0⟩,⟨1,0,3,(fk m g0 e0 (e0.head) 3 (e0.zo)),0⟩,⟨2,3,1,(e0.next).map Go.Hy.encI,0⟩] [Cw w,.agg (fL w 0),Cm m]
  (.eR [.agg (fL w 0),Cm (DZ m c g0.zC),Ce (fD m v0 3 6 (IntKind.i64.wrap g0.zC))]) [⟨1,0,5,(fy w m v0 (1)),0⟩,⟨1,0,2,((v0.zg.map zy).set m.zp.toNat ([U ((IntKind.u64.wrap (g0.zC+1))),C.sl 2 [] 3 0 g0.ends.length false])),0⟩,⟨1,0,3,(fk m g0 e0 (e0.head) 3 (e0.zo)),0⟩,⟨2,3,1,(e0.next).map Go.Hy.encI,0⟩]:=by
 have rc:(v0.snap.zi.map jl)[m.zp.toNat]?=some (jl c):=by rw[gM,hc];rfl
 obtain⟨lv,lg,le,gv,gg,ge,lowV,lowG,lowE,z1,z2,z3⟩:=GL hat;refine aa func91 ?_;refine zaV ?_
 refine uE ?_;refine⟨hat.v0,_,hat.row,uH ?_⟩;refine⟨hat.g0,_,hat.nR,uH ?_⟩;refine .inl ⟨⟨false,[1,5,7],[0,5,6],[]⟩,ak,uH ?_⟩;refine⟨hat.v0,lv,dd ?_⟩;rw[z1];refine⟨_,gv,hO,dd ?_⟩;refine⟨hat.g0,lg,dd ?_⟩;rw[z2];refine⟨_,gg _,rfl,dd ?_⟩;refine tc ?_
 rw[pL];refine af (jg w m v0 3 6 (IntKind.i64.wrap g0.zC) hat.v0 hat.at_) ?_;refine tc ?_
 refine .inl ⟨⟨true,[1,6,10],[4],[12]⟩,ak,uH ?_⟩;refine⟨hat.v0,_,hat.row,uH ?_⟩;refine⟨hat.g0,_,rc,uH ?_⟩;refine af (Qt c g0.zC ht hl (D7 c)) ?_;refine tc ?_
 refine .inl ⟨⟨false,[0,1,2],[5,6,10],[]⟩,ak,uH ?_⟩;refine tc ?_;exact⟨.inl V,_,_,.refl _,rfl,zk.jq 4 ta V V V (by (repeat' (first|(exact V)|(exact qm lowV)|(exact qm (lowG _))|(exact qm (lowE _ _))|(refine qg ?_ ?_)))) V⟩
end
section
variable {w:Wor} {m:eQ}
def NH{k:Int}(hp:m.pc=20)(hk:wv m.answer.kind=k)(h0:0<=m.zl)(hr:w.counts[m.zl.toNat]?=some r0)(hx:r0[k.toNat]?=some x):
  th 93 [⟨1,0,1,((w.counts.map zA).set m.zl.toNat [C.sl 1 [] 1 0 r0.length false]),0⟩,⟨2,52,1,(r0).map qB,0⟩] [Cw w,.agg (ik 0 w),Cm m] (.eR [.agg (ik 0 w),Cm {m with pc:=21},Ce (fc m 3 10 k)]) [⟨1,0,1,((w.counts.map zA).set m.zl.toNat [C.sl 1 [] 1 0 r0.length false]),0⟩,⟨2,52,1,(r0.set k.toNat (IntKind.u64.wrap (x+1))).map qB,0⟩]:=by
 have e1:0+m.zl.toNat=m.zl.toNat:=gZ _;have e2:0+k.toNat=k.toNat:=gZ _;have k0:0<=k:=by rw[<-hk];unfold wv;split <;> omega
 have k1:k.toNat<r0.length:=(gN.1 hx).1;have eP:m.zl.toNat<w.counts.length:=(gN.1 hr).1;have gt:((w.counts.map zA).set m.zl.toNat [C.sl 1 [] 1 0 r0.length false])[m.zl.toNat]?=some [C.sl 1 [] 1 0 r0.length false]:=gX mD;have gx:(r0.map qB)[k.toNat]?=some (qB x):=by rw[gM,hx];rfl
 have hst:(r0.map qB).set k.toNat [U (IntKind.u64.wrap (x+1))]=(r0.set k.toNat (IntKind.u64.wrap (x+1))).map qB:=bE
 have lowC2:∀r∈((w.counts.map zA).set m.zl.toNat [C.sl 1 [] 1 0 r0.length false]),∀c∈r,qE 2 9 c=true:=zF (enc:=zA) (λ_=>V) V _ _;refine aa func93 ?_;refine zaV ?_
 refine af (QT m.answer.kind) ?_;rw[hk];(refine .inl ⟨⟨false,[1,3,5,8,10,12],[0,3,4],[]⟩,ak,uH ?_⟩);refine zbA ?_;refine zbA ?_;(refine⟨k0,k1,?_⟩);(refine dd ?_);(rw[e2]);(refine⟨_,gx,tL,?_⟩);(refine dd ?_);(refine⟨k0,k1,?_⟩);(refine dd ?_);(rw[e2]);refine zcl ?_
 refine .inl ⟨⟨true,[0,1,2],[3,4],[4]⟩,ak,uH ?_⟩;refine af (zT {m with pc:=21} 3 10 k) ?_;refine tc ?_;exact⟨.inl V,_,_,.refl _,rfl,zk.jq 2 ta V V V (by (repeat' (first|(exact V)|(exact qm lowC2)|(refine qg ?_ ?_)))) V⟩
def NI(hp:m.pc=21)(h0:0<=m.zl)(hr:w.counts[m.zl.toNat]?=some r0)(hx:r0[0]?=some x):
  th 93 [⟨1,0,1,((w.counts.map zA).set m.zl.toNat [C.sl 1 [] 1 0 r0.length false]),0⟩,⟨2,52,1,(r0).map qB,0⟩] [Cw w,.agg (ik 0 w),Cm m] (.eR [.agg (ik 0 w),Cm {m with pc:=if m.answer.kind=1\/m.listen<0 then 23 else 22},Ce (fc m 3 10 0)]) [⟨1,0,1,((w.counts.map zA).set m.zl.toNat [C.sl 1 [] 1 0 r0.length false]),0⟩,⟨2,52,1,(r0.set 0 (IntKind.u64.wrap (x+1))).map qB,0⟩]:=by
 have e1:0+m.zl.toNat=m.zl.toNat:=gZ _;have e2:0+(0:Int).toNat=(0:Int).toNat:=gZ _;have k0:(0:Int)<=0:=sA _;have k1:(0:Int).toNat<r0.length:=(gN.1 hx).1;have eP:m.zl.toNat<w.counts.length:=(gN.1 hr).1;have gt:((w.counts.map zA).set m.zl.toNat [C.sl 1 [] 1 0 r0.length false])[m.zl.toNat]?=some [C.sl 1 [] 1 0 r0.length false]:=gX mD;have gx:(r0.map qB)[(0:Int).toNat]?=some (qB x):=by rw[gM];show(r0[0]?).map _=_;rw[hx];rfl
 have hst:(r0.map qB).set (0:Int).toNat [U (IntKind.u64.wrap (x+1))]=(r0.set 0 (IntKind.u64.wrap (x+1))).map qB:=bE
 have lowC2:∀r∈((w.counts.map zA).set m.zl.toNat [C.sl 1 [] 1 0 r0.length false]),∀c∈r,qE 2 9 c=true:=zF (enc:=zA) (λ_=>V) V _ _;refine aa func93 ?_;refine zal ?_
 refine zaV ?_
 (refine .inl ⟨⟨false,[1,3,5,7,9,11],[0,3,4],[]⟩,ak,uH ?_⟩);refine zbA ?_;refine zbA ?_;(refine⟨k0,k1,?_⟩);(refine dd ?_);(rw[e2]);(refine⟨_,gx,tL,?_⟩);(refine dd ?_);(refine⟨k0,k1,?_⟩);(refine dd ?_);(rw[e2]);refine zcl ?_
 by_cases c1:m.answer.kind=1
 .rw[gS (.inl c1)];refine⟨λ_=>dd ?_,λq=>absurd (pU.2 c1) tU⟩;refine td ?_
  refine .inl ⟨⟨true,[0,1,2],[3,4],[3]⟩,ak,uH ?_⟩;refine af (zT {m with pc:=23} 3 10 0) ?_;refine tc ?_;exact⟨.inl V,_,_,.refl _,rfl,zk.jq 2 ta V V V (by (repeat' (first|(exact V)|(exact qm lowC2)|(refine qg ?_ ?_)))) V⟩
 refine⟨λq=>absurd (eq_of_beq q) c1,λ_=>dd ?_⟩;by_cases c2:m.listen<0
 .rw[gS (.inr c2)];refine⟨λ_=>dd ?_,λq=>absurd c2 (gR q)⟩;refine td ?_
  refine .inl ⟨⟨true,[0,1,2],[3,4],[3]⟩,ak,uH ?_⟩;refine af (zT {m with pc:=23} 3 10 0) ?_;refine tc ?_;exact⟨.inl V,_,_,.refl _,rfl,zk.jq 2 ta V V V (by (repeat' (first|(exact V)|(exact qm lowC2)|(refine qg ?_ ?_)))) V⟩
 .rw[gP an];refine⟨λq=>absurd (gQ q) c2,λ_=>dd ?_⟩;refine td ?_
  refine .inl ⟨⟨true,[0,1,2],[3,4],[3]⟩,ak,uH ?_⟩;refine af (zT {m with pc:=22} 3 10 0) ?_;refine tc ?_;exact⟨.inl V,_,_,.refl _,rfl,zk.jq 2 ta V V V (by (repeat' (first|(exact V)|(exact qm lowC2)|(refine qg ?_ ?_)))) V⟩
def Oj(hp:m.pc=22)(h0:0<=m.listen)(hx:w.zc[m.listen.toNat]?=some l):
  th 93 [⟨2,98,4,(w.zc).map zU,0⟩] [Cw w,.agg (iv 0 w),Cm m] (.eR [.agg (iv 0 w),Cm {m with pc:=23},Ce (fc m 3 5 (IntKind.i64.wrap (l.zo-1)))]) [⟨2,98,4,(w.zc.set m.listen.toNat (kj l)).map zU,0⟩]:=by
 have e1:0+m.listen.toNat=m.listen.toNat:=gZ _;have gx:(w.zc.map zU)[m.listen.toNat]?=some (zU l):=by rw[gM,hx];rfl
 have eP:=(gN.1 hx).1;have hst:(w.zc.map zU).set m.listen.toNat [Tx l.name,Bo l.drain,I (IntKind.i64.wrap (l.zo-1)),Bo l.closed]=(w.zc.set m.listen.toNat (kj l)).map zU:=bE
 have gy:((w.zc.set m.listen.toNat (kj l)).map zU)[m.listen.toNat]?=some (zU (kj l)):=by rw[gM,gX eP];rfl
 refine aa func93 ?_;refine zal ?_
 refine zal ?_
 refine zaV ?_
 refine .inl ⟨⟨false,[1,3,5,7],[2,3],[]⟩,ak,uH ?_⟩;refine⟨h0,eP,dd ?_⟩;rw[e1];refine⟨_,gx,tY,dd ?_⟩;refine za8 ?_
 rw[hst];refine .inl ⟨⟨true,[0,1,2,4,6,9],[0,2,3],[10]⟩,ak,uH ?_⟩;refine⟨h0,eP,dd ?_⟩;rw[e1];refine⟨_,gy,tY,dd ?_⟩;refine af (zT {m with pc:=23} 3 5 (IntKind.i64.wrap (l.zo-1))) ?_;refine tc ?_;exact dG
def Ok(sw:z6 w)(ok:fa w)(hl:i64 m.listen)(hs:zE w m=true)(hp:m.pc=23)(h0:0<=m.zl)(hx:w.pins[m.zl.toNat]?=some p):
  th 93 [] [Cw w,Cw w,Cm m] (.eR [Cw (lN w m.zl.toNat 0),Cm {m with done:=true},Ce {AX m with done:=true,answer:=m.answer}]) []:=by
 refine ab func93 ?_;refine zal ?_
 refine zal ?_
 refine zal ?_
 refine af (Sd sw ok hl hs h0 hx) ?_;refine .inl ⟨⟨false,[0,1,2],[2,6,7],[]⟩,ak,uH ?_⟩;refine tc ?_
 exact uI
end
def Ij(m:eQ)(e:e7)(a:fe):th 97 [] [Cm m,Ce e,.agg (jr a)] (.eR [Cm {m with done:=true,answer:=a},Ce {e with done:=true,answer:=a}]) []:=by
 refine ab func97 ?_;refine .inl ⟨⟨false,[0,1],[0,1],[]⟩,ak,uH ?_⟩;refine tc ?_
 exact uI
section
variable {w:Wor} {m:eQ} {v:eX} {g:Gr} {e:En}
def QK(sw:z6 w)(ok:fa w)(hl:i64 m.listen)(hs:zE w m=true)(hp:m.pc=0)(hat:fF w m v g e)(hh:u64 e.head):th 49 [] [Cw w,Cm m] (.eR [Cw w,Cm {m with word:=e.head,pc:=1},Ce (fD m v 1 8 (zR e.head))]) []:=by
 refine ab func49 ?_;refine zan ?_;((repeat (first|(refine⟨λ_=>?_,?_⟩;rotate_left 1;(focus (intro h;first|(simp[hp]at h;done)|(have h:=gQ h;omega)|(have h:=gR h;omega)));(refine dd ?_))|(refine⟨?_,λ_=>?_⟩;(focus (intro h;first|(simp[hp]at h;done)|(have h:=gQ h;omega)|(have h:=gR h;omega)));(refine dd ?_)))))
 refine af (qw w sw) ?_;refine zaH ?_
 (repeat (first|(refine⟨λ_=>?_,?_⟩;rotate_left 1;(focus (intro h;first|(simp[hp]at h;done)|(have h:=gQ h;omega)|(have h:=gR h;omega)));(refine dd ?_))|(refine⟨?_,λ_=>?_⟩;(focus (intro h;first|(simp[hp]at h;done)|(have h:=gQ h;omega)|(have h:=gR h;omega)));(refine dd ?_))))
 refine .inl ⟨⟨true,[0,1,2,3,5],[0,1,5],[6,7]⟩,ak,uH ?_⟩;refine af (Go.Slp.xS e.head hh) ?_;refine af (jg w {m with word:=e.head,pc:=1} v 1 8 (zR e.head) hat.v0 hat.at_) ?_;refine tc ?_
 exact uI
def PG(sw:z6 w)(ok:fa w)(hl:i64 m.listen)(hs:zE w m=true)(hp:m.pc=2)(hat:fF w m v g e)(hh:u64 e.head)(hne:e.head≠m.word):th 49 [] [Cw w,Cm m] (.eR [Cw w,Cm {m with pc:=0},Ce (fD m v 5 8 (zR e.head))]) []:=by
 refine ab func49 ?_;refine zan ?_;((repeat (first|(refine⟨λ_=>?_,?_⟩;rotate_left 1;(focus (intro h;first|(simp[hp]at h;done)|(have h:=gQ h;omega)|(have h:=gR h;omega)));(refine dd ?_))|(refine⟨?_,λ_=>?_⟩;(focus (intro h;first|(simp[hp]at h;done)|(have h:=gQ h;omega)|(have h:=gR h;omega)));(refine dd ?_)))))
 refine af (qw w sw) ?_;refine zaH ?_
 (repeat (first|(refine⟨λ_=>?_,?_⟩;rotate_left 1;(focus (intro h;first|(simp[hp]at h;done)|(have h:=gQ h;omega)|(have h:=gR h;omega)));(refine dd ?_))|(refine⟨?_,λ_=>?_⟩;(focus (intro h;first|(simp[hp]at h;done)|(have h:=gQ h;omega)|(have h:=gR h;omega)));(refine dd ?_))))
 refine uE ?_;refine⟨λ_=>dd ?_,λq=>absurd mG hne⟩;refine .inl ⟨⟨true,[0,1,2,3,7],[0,1,5],[8,9]⟩,ak,uH ?_⟩;refine af (Go.Slp.xS e.head hh) ?_;refine af (jg w {m with pc:=0} v 5 8 (zR e.head) hat.v0 hat.at_) ?_;refine tc ?_
 exact uI
def QP(sw:z6 w)(ok:fa w)(hl:i64 m.listen)(hs:zE w m=true)(hp:m.pc=9)(hat:fF w m v g e):th 49 [] [Cw w,Cm m] (.eR [Cw w,Cm {m with answer:=wG 7,done:=true},Ce (G6 m)]) []:=by
 refine ab func49 ?_;refine zan ?_;((repeat (first|(refine⟨λ_=>?_,?_⟩;rotate_left 1;(focus (intro h;first|(simp[hp]at h;done)|(have h:=gQ h;omega)|(have h:=gR h;omega)));(refine dd ?_))|(refine⟨?_,λ_=>?_⟩;(focus (intro h;first|(simp[hp]at h;done)|(have h:=gQ h;omega)|(have h:=gR h;omega)));(refine dd ?_)))))
 refine af (qw w sw) ?_;refine zaH ?_
 (repeat (first|(refine⟨λ_=>?_,?_⟩;rotate_left 1;(focus (intro h;first|(simp[hp]at h;done)|(have h:=gQ h;omega)|(have h:=gR h;omega)));(refine dd ?_))|(refine⟨?_,λ_=>?_⟩;(focus (intro h;first|(simp[hp]at h;done)|(have h:=gQ h;omega)|(have h:=gR h;omega)));(refine dd ?_))))
 refine .inr ⟨⟨[0,1,2,4],[1],true⟩,ak,λ_=>V,_,uH ?_,λt2 H2 h=>h⟩;refine⟨_,ag [] (zT m 1 0 0),uH ?_⟩;refine⟨_,ag [] (Ij m (fc m 1 0 0) (wG 7)),uH (uH ?_)⟩;(repeat' (first|(refine And.intro V (uH ?_))|(refine And.intro (uH ?_) trivial)|(refine And.intro ?_ ?_ <;> (conv=>whnf))))
 all_goals
  refine zaC ?_
  refine zat ?_
  exact uI
def QO(sw:z6 w)(ok:fa w)(hl:i64 m.listen)(hs:zE w m=true)(hp:m.pc=4)(hat:fF w m v g e)(h0:0<=m.listen)(hx:w.zc[m.listen.toNat]?=some l):
  th 49 [] [Cw w,Cm m] (.eR [Cw {w with zc:=w.zc.set m.listen.toNat (kj l)},Cm {m with answer:=C0 m,done:=true},Ce (G8 m l)]) []:=by
 obtain⟨l0,ls,hq⟩:∃l0 ls,w.zc=l0::ls:=cG
 have e1:0+m.listen.toNat=m.listen.toNat:=gZ _;have gx:(w.zc.map zU)[m.listen.toNat]?=some (zU l):=by rw[gM,hx];rfl
 have eP:=(gN.1 hx).1;have hst:(w.zc.map zU).set m.listen.toNat [Tx l.name,Bo l.drain,I (IntKind.i64.wrap (l.zo-1)),Bo l.closed]=(w.zc.set m.listen.toNat (kj l)).map zU:=bE
 have gy:((w.zc.set m.listen.toNat (kj l)).map zU)[m.listen.toNat]?=some (zU (kj l)):=by rw[gM,gX eP];rfl
 refine ab func49 ?_;refine zan ?_;((repeat (first|(refine⟨λ_=>?_,?_⟩;rotate_left 1;(focus (intro h;first|(simp[hp]at h;done)|(have h:=gQ h;omega)|(have h:=gR h;omega)));(refine dd ?_))|(refine⟨?_,λ_=>?_⟩;(focus (intro h;first|(simp[hp]at h;done)|(have h:=gQ h;omega)|(have h:=gR h;omega)));(refine dd ?_)))))
 refine ae [] (yL w sw l0 ls hq) ?_;refine zaH ?_
 (repeat (first|(refine⟨λ_=>?_,?_⟩;rotate_left 1;(focus (intro h;first|(simp[hp]at h;done)|(have h:=gQ h;omega)|(have h:=gR h;omega)));(refine dd ?_))|(refine⟨?_,λ_=>?_⟩;(focus (intro h;first|(simp[hp]at h;done)|(have h:=gQ h;omega)|(have h:=gR h;omega)));(refine dd ?_))))
 refine .inl ⟨⟨false,[1,3,5,7],[1,6],[]⟩,ak,uH ?_⟩;refine⟨h0,eP,dd ?_⟩;rw[e1];refine⟨_,gx,tY,dd ?_⟩;refine za8 ?_
 rw[hst];refine .inr ⟨⟨[0,1,3,5,8,9,11,13,15,17,19,21],[1,5,6],true⟩,ak,λ_=>V,_,uH ?_,λt2 H2 h=>h⟩;refine⟨h0,eP,dd ?_⟩;rw[e1];refine⟨_,gy,tY,dd ?_⟩;refine⟨_,ag [] (zT m 3 5 (IntKind.i64.wrap (l.zo-1))),uH ?_⟩;refine⟨_,ag [] (Ij m (fc m 3 5 (IntKind.i64.wrap (l.zo-1))) (C0 m)),uH (uH ?_)⟩;(repeat' (first|(refine And.intro V (uH ?_))|(refine And.intro (uH ?_) trivial)|(refine And.intro ?_ ?_ <;> (conv=>whnf))))
 all_goals
  refine zaC ?_
  refine zbx ?_
  exact dD
end
section
variable {w:Wor} {m m':eQ} {v0:eX} {g0:Gr} {e0:En} {e:e7}
def QN(sw:z6 w)(ok:fa w)(hl:i64 m.listen)(hs:zE w m=true)(hpc:m.pc=3)(hat:fF w m v0 g0 e0)(hne:e0.next≠[]){tk hd ac:Int}(htk:tk=g0.zC)(hhd:hd=e0.head)(hac:ac=IntKind.i64.wrap (e0.zo-1)):
  th 49 [] [Cw w,Cm m] (.eR [Cw (vv w m v0 g0 e0 tk hd ac),Cm {m with pc:=4},Ce (fD m v0 3 7 ac)]) []:=by
 obtain⟨hp,ownV,ownG,ownE,gv,gg,ge,estE,estG,estV,eshE,eshG,eshV⟩:=wm tk hd ac sw hat hne;have e1:0+m.version.toNat=m.version.toNat:=gZ _;have e2:0+m.zp.toNat=m.zp.toNat:=gZ _;have e3:0+m.end_.toNat=m.end_.toNat:=gZ _;refine ab func49 ?_;refine zan ?_;((repeat (first|refine uA ?_|refine uB ?_)))
 refine zbC ?_
 refine zad ?_
 refine⟨_,ge _ _,mF,dd ?_⟩;refine⟨_,ge _ _,rfl,dd ?_⟩;rw[pL];subst htk hhd hac;refine .inl ⟨⟨true,[0,1,2,3,7],[0,1,7,9],[8]⟩,ak,uH ?_⟩;refine⟨_,ge _ _,mF,dd ?_⟩;refine af (jg w {m with pc:=4} v0 3 7 (IntKind.i64.wrap (e0.zo-1)) hat.v0 hat.at_) ?_;refine tc ?_
 refine zao ?_;show _=some (C.eR [C.agg [I w.zr,I w.current,I w.lock,lI w.pins,C.eM 0 5 ((w.zd.set m.version.toNat (xE m v0 g0 e0 g0.zC e0.head (IntKind.i64.wrap (e0.zo-1)))).map zt),lL w.zc,ff w.counts,lR w.zn],_,_]);rw[<-estV,<-estG,<-estE]
 rfl
def QM(sw:z6 w)(ok:fa w)(hl:i64 m.listen)(hs:zE w m=true)(hpc:m.pc=2)(hat:fF w m v0 g0 e0)(hne:e0.next≠[])(hw:u64 m.word)(s0: -1<=m.slot)(s1:m.slot<=2147483646)(heq:e0.head=m.word){tk hd ac:Int}(htk:tk=g0.zC)(hhd:hd=Go.Slp.y9 m.word m.slot)(hac:ac=e0.zo):
  th 49 [] [Cw w,Cm m] (.eR [Cw (vv w m v0 g0 e0 tk hd ac),Cm {m with pc:=3},Ce {fD m v0 4 8 m.slot with jj:=true}]) []:=by
 obtain⟨hp,ownV,ownG,ownE,gv,gg,ge,estE,estG,estV,eshE,eshG,eshV⟩:=wm tk hd ac sw hat hne;have e1:0+m.version.toNat=m.version.toNat:=gZ _;have e2:0+m.zp.toNat=m.zp.toNat:=gZ _;have e3:0+m.end_.toNat=m.end_.toNat:=gZ _;refine ab func49 ?_;refine zan ?_;((repeat (first|refine uA ?_|refine uB ?_)))
 refine zbC ?_
 refine zad ?_
 refine .inl ⟨⟨false,[3,5],[1,7],[]⟩,ak,uH ?_⟩;refine⟨_,ge _ _,mC,dd ?_⟩;refine⟨λq=>absurd heq mG,λ_=>dd ?_⟩;refine af (Go.Slp.Ff m.word m.slot hw s0 s1) ?_;refine⟨_,ge _ _,rfl,dd ?_⟩;rw[pL];subst htk hhd hac;refine af (jg w {m with pc:=3} v0 4 8 m.slot hat.v0 hat.at_) ?_;refine tc ?_
 refine .inl ⟨⟨false,[0,1,2],[1,9,10],[]⟩,ak,uH ?_⟩;refine tc ?_
 refine zao ?_;show _=some (C.eR [C.agg [I w.zr,I w.current,I w.lock,lI w.pins,C.eM 0 5 ((w.zd.set m.version.toNat (xE m v0 g0 e0 g0.zC (Go.Slp.y9 m.word m.slot) e0.zo)).map zt),lL w.zc,ff w.counts,lR w.zn],_,_]);rw[<-estV,<-estG,<-estE]
 rfl
def QL(sw:z6 w)(ok:fa w)(hl:i64 m.listen)(hs:zE w m=true)(hpc:m.pc=1)(hat:fF w m v0 g0 e0)(hne:e0.next≠[])(hw:u64 m.word)(s0:0<=m.slot)(s1:m.slot.toNat<e0.next.length){tk hd ac:Int}(htk:tk=g0.zC)(hhd:hd=e0.head)(hac:ac=e0.zo):
  th 49 [] [Cw w,Cm m] (.eR [Cw (vv w m v0 g0 (yn m e0) tk hd ac),Cm {m with pc:=2},Ce (fD m v0 2 9 (m.word%4294967296-1))]) []:=by
 have estE1:((fk m g0 e0 (e0.head) (8) (e0.zo)).set m.end_.toNat [U e0.head,C.eM 0 1 ((e0.next.set m.slot.toNat (m.word%4294967296-1)).map Go.Hy.encI),I e0.zo])=(g0.ends.set m.end_.toNat (vu (yn m e0) e0.head e0.zo)).map zu:=cN
 have estG1:((fp m v0 g0 (g0.zC) (7)).set m.zp.toNat [U g0.zC,C.eM 0 3 (((g0.ends.set m.end_.toNat (vu (yn m e0) e0.head e0.zo)).map zu))])=(v0.zg.set m.zp.toNat (mZ m g0 (yn m e0) g0.zC e0.head e0.zo)).map zy:=cO
 have estV1:((fy w m v0 (6)).set m.version.toNat (qP v0.snap++[C.eM 0 2 (((v0.zg.set m.zp.toNat (mZ m g0 (yn m e0) g0.zC e0.head e0.zo)).map zy)),Bo v0.qF]))=(w.zd.set m.version.toNat (xE m v0 g0 (yn m e0) g0.zC e0.head e0.zo)).map zt:=cP
 have eshE1:∀r∈((fk m g0 e0 (e0.head) (8) (e0.zo)).set m.end_.toNat [U e0.head,C.eM 0 1 ((e0.next.set m.slot.toNat (m.word%4294967296-1)).map Go.Hy.encI),I e0.zo]),∀c∈r,jM c=true/\zG c=true:=by
  rw[estE1];exact shut_map (enc:=zu) (λ_=>V) _
 have eshG1:∀r∈((fp m v0 g0 (g0.zC) (7)).set m.zp.toNat [U g0.zC,C.eM 0 3 ((fk m g0 e0 (e0.head) (8) (e0.zo)).set m.end_.toNat [U e0.head,C.eM 0 1 ((e0.next.set m.slot.toNat (m.word%4294967296-1)).map Go.Hy.encI),I e0.zo])]),∀c∈r,jM c=true/\zG c=true:=by
  rw[estE1,estG1];exact shut_map (enc:=zy) (λ_=>V) _
 have eshV1:∀r∈((fy w m v0 (6)).set m.version.toNat (qP v0.snap++[C.eM 0 2 ((fp m v0 g0 (g0.zC) (7)).set m.zp.toNat [U g0.zC,C.eM 0 3 ((fk m g0 e0 (e0.head) (8) (e0.zo)).set m.end_.toNat [U e0.head,C.eM 0 1 ((e0.next.set m.slot.toNat (m.word%4294967296-1)).map Go.Hy.encI),I e0.zo])]),Bo v0.qF])),∀c∈r,jM c=true/\zG c=true:=by
  rw[estE1,estG1,estV1];exact shut_map (enc:=zt) (λ_=>V) _
 have gn:(e0.next.map Hy.encI)[m.slot.toNat]?=some (Hy.encI (e0.next[m.slot.toNat]'s1)):=by rw[gM,gL s1];rfl
 have hst:(e0.next.map Hy.encI).set m.slot.toNat [I (m.word%4294967296-1)]=(e0.next.set m.slot.toNat (m.word%4294967296-1)).map Hy.encI:=bE
 have e4:0+m.slot.toNat=m.slot.toNat:=gZ _;obtain⟨hp,ownV,ownG,ownE,gv,gg,ge,estE,estG,estV,eshE,eshG,eshV⟩:=wm tk hd ac sw hat hne;have e1:0+m.version.toNat=m.version.toNat:=gZ _;have e2:0+m.zp.toNat=m.zp.toNat:=gZ _;have e3:0+m.end_.toNat=m.end_.toNat:=gZ _;refine ab func49 ?_;refine zan ?_;((repeat (first|refine uA ?_|refine uB ?_)))
 refine zbC ?_
 refine zad ?_
 subst htk hhd hac;refine .inl ⟨⟨true,[3,5,7],[1,7],[8]⟩,ak,uH ?_⟩;refine⟨_,ge _ _,(by show 1+1<=3;decide),dd ?_⟩;refine af (Go.Slp.xS m.word hw) ?_;refine⟨s0,s1,dd ?_⟩;rw[e4];refine⟨_,gn,rfl,dd ?_⟩;refine tc ?_
 rw[hst];refine .inl ⟨⟨true,[0,1,2,3,5],[0,1,9],[6,7]⟩,ak,uH ?_⟩;refine af (Go.Slp.xS m.word hw) ?_;refine af (jg w {m with pc:=2} v0 2 9 (m.word%4294967296-1) hat.v0 hat.at_) ?_;refine tc ?_
 refine⟨.inl V,_,(((zk.zN 7 m.end_.toNat 1 V (ge _ _) V V (.inr V) ah ah (shut_map (enc:=Go.Hy.encI) (λ_=>V) _) (ownE 8 _ _)).trans (zk.zN 6 m.zp.toNat 1 V (gg _) V V (.inl V) ah ah eshE1 (ownG 7 _))).trans (zk.zN 5 m.version.toNat 3 V gv V V (.inl V) ah ah eshG1 (ownV 6))).trans (zk.zN 2 0 4 V V V V (.inl V) ah ah eshV1 (zB V)),?_⟩;show _=some (C.eR [C.agg [I w.zr,I w.current,I w.lock,lI w.pins,C.eM 0 5 ((w.zd.set m.version.toNat (xE m v0 g0 (yn m e0) g0.zC e0.head e0.zo)).map zt),lL w.zc,ff w.counts,lR w.zn],_,_]);rw[<-estV1,<-estG1,<-estE1]
 rfl
end
end Go.Wor
