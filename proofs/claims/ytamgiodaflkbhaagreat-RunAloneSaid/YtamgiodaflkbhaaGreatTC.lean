import Derived.IntWalk
import Derived.Test.YtamgiodaflkbhaaGreatTB
set_option linter.all false
set_option maxRecDepth 100000
set_option maxHeartbeats 4000000
namespace Go.Ab
variable{t e ty:TypeId}{α:Type}{x:Operand}{c:Code}{ob ob':Ob}{H H':zq}{dst:Option Tmp}{b full:Bool}{ρ:Operand->C}{P:Program}{hops:List fA}{sz i j fz B:Nat}{rows:List (List C)}{r cs caps args:List C}{K:Exit->List C->zq->Prop}{l:List α}{f:FuncId}{y z:Value}{op:BinOp}{cl:Call}{md:Region.Mode}{listed:Array Bool}{oi o:Oper}{w:World}{E:Env}{ps:Array Tmp}{R:C->zq->Prop}{ops:Array Oper}{X:zq->Prop}{s:S}{fn:Func}{ys:List Value}{sel:List Nat}
def Gx(x:Value)(k:Value->Prop):Prop:=
 match x with
 |.int t n=>k (.int t n)
 |.bool b=>k (.bool b)
 |.string s=>k (.string s)
 |x=>k x
def jf(n:Nat)(k:Nat->Prop):Prop:=
 match n with
 |0=>k 0
 |1=>k 1
 |2=>k 2
 |3=>k 3
 |4=>k 4
 |5=>k 5
 |6=>k 6
 |7=>k 7
 |8=>k 8
 |9=>k 9
 |10=>k 10
 |11=>k 11
 |12=>k 12
 |13=>k 13
 |14=>k 14
 |15=>k 15
 |16=>k 16
 |17=>k 17
 |18=>k 18
 |19=>k 19
 |20=>k 20
 |21=>k 21
 |22=>k 22
 |23=>k 23
 |24=>k 24
 |25=>k 25
 |26=>k 26
 |27=>k 27
 |28=>k 28
 |29=>k 29
 |30=>k 30
 |31=>k 31
 |32=>k 32
 |33=>k 33
 |34=>k 34
 |35=>k 35
 |36=>k 36
 |37=>k 37
 |38=>k 38
 |39=>k 39
 |40=>k 40
 |41=>k 41
 |42=>k 42
 |43=>k 43
 |44=>k 44
 |45=>k 45
 |46=>k 46
 |47=>k 47
 |48=>k 48
 |49=>k 49
 |50=>k 50
 |51=>k 51
 |52=>k 52
 |53=>k 53
 |54=>k 54
 |55=>k 55
 |56=>k 56
 |57=>k 57
 |58=>k 58
 |59=>k 59
 |60=>k 60
 |61=>k 61
 |62=>k 62
 |63=>k 63
 |64=>k 64
 |n=>k n
def qu{n:Nat}{k:Nat->Prop}(h:jf n k):k n:=by
 unfold jf at h;split at h <;> exact h
def xg{α:Type}:List α->(List α->Prop)->Prop
 |[],k=>k []
 |x::xs,k=>xg xs λys=>k (x::ys)
def q7{α:Type}:∀{l:List α} {k:List α->Prop},xg l k->k l
 |[],k,h=>h
 |x::xs,k,h=>q7 (l:=xs) (k:=λys=>k (x::ys)) h
def qK(c:C)(k:C->Prop):Prop:=
 match c with
 |.v x=>Gx x λx=>k (.v x)
 |.eM o sz rows=>k (.eM o sz rows)
 |.jL cells=>xg cells λcells=>k (.jL cells)
 |.ref id hops sz i j=>jf id λid=>jf sz λsz=>jf j λj=>k (.ref id hops sz i j)
 |.sl id hops sz lo len full=>jf id λid=>k (.sl id hops sz lo len full)
 |.fn f first caps=>k (.fn f first caps)
 |.mp id=>jf id λid=>k (.mp id)
 |.agg cs=>xg cs λcs=>k (.agg cs)
 |.eR cs=>xg cs λcs=>k (.eR cs)
 |.un=>k .un
 |.za=>k .za
 |.gl id sz rows=>jf id λid=>k (.gl id sz rows)
 |.fK t c=>k (.fK t c)
 |.rc r=>k (.rc r)
def Qk{x:Value}{k:Value->Prop}(h:Gx x k):k x:=by
 unfold Gx at h;split at h <;> exact h
def zX{c:C}{k:C->Prop}(h:qK c k):k c:=by
 cases c with
 |v x=>exact Qk (k:=λx=>k (.v x)) h
 |jL cells=>exact q7 (k:=λcells=>k (.jL cells)) h
 |ref id hops sz i j=>exact qu (k:=λj=>k (.ref id hops sz i j)) (qu (k:=λsz=>jf j λj=>k (.ref id hops sz i j)) (qu (k:=λid=>jf sz λsz=>jf j λj=>k (.ref id hops sz i j)) h))
 |sl id hops sz lo len full=>exact qu (k:=λid=>k (.sl id hops sz lo len full)) h
 |mp id=>exact qu (k:=λid=>k (.mp id)) h
 |gl id sz rows=>exact qu (k:=λid=>k (.gl id sz rows)) h
 |agg cs=>exact q7 (k:=λcs=>k (.agg cs)) h
 |eR cs=>exact q7 (k:=λcs=>k (.eR cs)) h
 |_=>exact h
def yZ{α:Type}(f:α->(α->Prop)->Prop):List α->(List α->Prop)->Prop
 |[],k=>k []
 |x::xs,k=>f x λx=>yZ f xs λxs=>k (x::xs)
def qJ{α:Type}{f:α->(α->Prop)->Prop}(hf:∀x k,f x k->k x):∀{l:List α} {k:List α->Prop},yZ f l k->k l
 |[],k,h=>h
 |x::xs,k,h=>qJ hf (l:=xs) (k:=λxs=>k (x::xs)) (hf x _ h)
def F6(ob:Ob)(k:Ob->Prop):Prop:=
 match ob with
 |⟨kind,ty,sz,rows,fz⟩=>match kind with
  |1=>jf sz λsz=>yZ (yZ qK) rows λrows=>k ⟨1,ty,sz,rows,fz⟩
  |kd=>k ⟨kd,ty,sz,rows,fz⟩
def O6{k:Ob->Prop}(h:F6 ob k):k ob:=by
 obtain⟨kind,ty,sz,rows,fz⟩:=ob;unfold F6 at h;dsimp only at h;split at h
 .exact qJ (λ_ _ h=>qJ (λ_ _ h=>zX h) h) (k:=λrows=>k ⟨1,ty,sz,rows,fz⟩) (qu (k:=λsz=>yZ (yZ qK) rows λrows=>k ⟨1,ty,sz,rows,fz⟩) h)
 .exact h
def Ai(H:zq)(k:zq->Prop):Prop:=yZ F6 H k
def kh{k:zq->Prop}(h:Ai H k):k H:=qJ (λ_ _ h=>O6 h) h
def okB(c:C)(k:C->Prop):Prop:=
 match c with
 |.v (.bool b)=>(b=true->k (.v (.bool true)))/\(b=false->k (.v (.bool false)))
 |c=>k c
def HA(c:C)(k:C->Prop):Prop:=
 match c with
 |.v (.bool b)=>match b with
  |true=>k (.v (.bool true))
  |false=>k (.v (.bool false))
 |c=>qK c k
def Ku{c:C}{k:C->Prop}(h:HA c k):k c:=by
 unfold HA at h;split at h
 .rename_i b;cases b <;> exact h
 .exact zX h
def jc{c:C}{k:C->Prop}(h:okB c k):k c:=by
 unfold okB at h;split at h
 .rename_i b;cases b
  .exact h.2 V
  .exact h.1 V
 .exact h
def o5{α:Type}:List α->Nat->α->(List α->Prop)->Prop
 |[],_,_,k=>k []
 |_::xs,0,y,k=>k (y::xs)
 |x::xs,n+1,y,k=>o5 xs n y λys=>k (x::ys)
def we{α:Type}:∀{l:List α} {n:Nat} {y:α} {k:List α->Prop},o5 l n y k->k (l.set n y)
 |[],_,_,k,h=>h
 |_::xs,0,y,k,h=>h
 |x::xs,n+1,y,k,h=>we (l:=xs) (n:=n) (y:=y) (k:=λys=>k (x::ys)) h
def mf(tmps:List C)(dst:Option Tmp)(c:C)(k:List C->Prop):Prop:=
 match dst with
 |some d=>o5 tmps d c k
 |none=>k tmps
def jD{tmps:List C}{c:C}{k:List C->Prop}(h:mf tmps dst c k):k (put tmps dst c):=by
 cases dst with
 |none=>exact h
 |some d=>exact we h
def bK(b:Bool)(k:Prop):Prop:=
 match b with
 |true=>k
 |false=>False
def qb{k:Prop}(h:bK b k):b=true/\k:=by
 cases b
 .exact df
 .exact⟨rfl,h⟩
def ns(ρ:Operand->C)(x:Option Operand)(dflt:Nat)(k:Nat->Prop):Prop:=
 match x with
 |none=>k dflt
 |some y=>match ρ y with
  |.v (.int _ n)=>0<=n/\k n.toNat
  |_=>False
def x9{x:Option Operand}{dflt:Nat}{k:Nat->Prop}(h:ns ρ x dflt k):∃n,lq ρ x dflt n/\k n:=by
 unfold ns at h;unfold lq;cases x with
 |none=>exact⟨dflt,rfl,h⟩
 |some y=>
  dsimp only at h;split at h
  .rename_i kd n e;exact⟨n.toNat,⟨kd,by rw[e,tx h.1]⟩,h.2⟩
  .exact df
def oO(place:Nat->Option (Nat×Nat)):List C->List (Nat×C)->(List C->Prop)->Prop
 |cells,[],k=>k cells
 |cells,(i,c)::rest,k=>match place i with
  |none=>False
  |some (off,size)=>bK (lQ c && (c.cells.length == size) && decide (off+size<=cells.length)) <|yZ qK (xZ off c.cells cells) λcells=>oO place cells rest k
def Fj{place:Nat->Option (Nat×Nat)}:∀{parts:List (Nat×C)} {cells:List C} {k:List C->Prop},oO place cells parts k->∃cs,nF place cells parts=some cs/\k cs
 |[],cells,k,h=>⟨cells,rfl,h⟩
 |(i,c)::rest,cells,k,h=>by
  unfold oO at h;split at h
  .exact df
  .rename_i off size hp;obtain⟨h1,h2⟩:=qb h;have h3:=qJ (λ_ _ h=>zX h) (k:=λcells=>oO place cells rest k) h2;obtain⟨cs,h4,h5⟩:=Fj h3;refine⟨cs,?_,h5⟩;simp only[nF,hp];rw[gS h1];exact h4
def GB(P:Program)(t:TypeId)(parts:List (Nat×C))(k:List C->Prop):Prop:=
 match wZ P t,P.underlying t with
 |some z,some (.array _ e)=>match P.info? e with
  |some ie=>yZ qK z λz=>oO (λi=>some (i*ie.size,ie.size)) z parts k
  |none=>False
 |some z,some (.struct fields)=>match fields.toList.mapM (λf=>(P.info? f.type).map λi=>(f.offset,i.size)) with
  |some places=>xg places λplaces=>yZ qK z λz=>oO (places.toArray[·]?) z parts k
  |none=>False
 |_,_=>False
def IF{parts:List (Nat×C)}{k:List C->Prop}(h:GB P t parts k):∃cs,Ea P t parts=some cs/\k cs:=by
 unfold GB at h;unfold Ea;split at h
 .rename_i z n e hz hu;simp only[hz,hu];split at h
  .rename_i ie hie;simp only[hie];exact Fj (qJ (λ_ _ h=>zX h) (k:=λz=>oO (λi=>some (i*ie.size,ie.size)) z parts k) h)
  .exact df
 .rename_i z fields hz hu;simp only[hz,hu];split at h
  .rename_i places hpl;simp only[hpl];have h1:=q7 (k:=λplaces:List (Nat×Nat)=>yZ qK z λz=>oO (places.toArray[·]?) z parts k) h;exact Fj (qJ (λ_ _ h=>zX h) (k:=λz=>oO (places.toArray[·]?) z parts k) h1)
  .exact df
 .exact df
def GM(P:Program)(H:zq)(ρ:Operand->C)(t:TypeId)(x:Operand)(lo hi mx:Option Operand)(K:C->zq->Prop):Prop:=
 match P.underlying t with
 |some (.slice e)=>match P.info? e with
  |some i=>match ρ x with
   |.eM fo sz rows=>(rows=[]\/sz=i.size)/\match mx with
    |none=>match hi with
     |none=>ns ρ lo 0 λl=>l<=rows.length/\K (.eM (if fo == 1 then 1 else 0) sz (rows.drop l)) H
     |some hh=>ns ρ lo 0 λl=>ns ρ (some hh) rows.length λh=>l<=h/\h<=rows.length/\K (.eM 0 sz ((rows.drop l).take (h-l))) H
    |some m=>match hi with
     |some hh=>ns ρ lo 0 λl=>ns ρ (some hh) 0 λh=>ns ρ (some m) 0 λm'=>m'=h/\l<=h/\h<=rows.length/\K (.eM 1 sz ((rows.drop l).take (h-l))) H
     |none=>False
   |.sl id hops sz lo0 len full=>match mx with
    |none=>sz=i.size/\ns ρ lo 0 λl=>ns ρ hi len λh=>l<=h/\h<=len/\(l=0\/l<h)/\(full=false\/h=len)/\K (.sl id hops sz (lo0+l) (h-l) full) H
    |some _=>False
   |_=>False
  |none=>False
 |some .string=>match ρ x with
  |.v (.string s)=>match s with
   |⟨⟨b⟩⟩=>match mx with
    |none=>ns ρ lo 0 λl=>ns ρ hi b.length λh=>l<=h/\h<=b.length/\K (.v (.string ⟨⟨(b.take h).drop l⟩⟩)) H
    |some _=>False
  |_=>False
 |_=>False
def Gy(P:Program)(H:zq)(ρ:Operand->C)(t:TypeId)(x y:Operand)(K:C->zq->Prop):Prop:=
 match P.underlying t with
 |some (.slice e)=>match P.info? e with
  |some i=>match ρ y with
   |.v (.int _ n)=>match ρ x with
    |.eM o sz rows=>bK ((o == 0 || o == 1) && sz == i.size) <|0<=n/\∃r,rows[n.toNat]?=some r/\K (.jL r) H
    |.sl id hops sz lo len _=>bK (sz == i.size) <|0<=n/\n.toNat<len/\K (.ref id hops sz (lo+n.toNat) 0) H
    |_=>False
   |_=>False
  |none=>False
 |some (.array len e)=>match P.info? e with
  |some i=>match ρ y with
   |.v (.int _ n)=>match wP (ρ x) (n.toNat*i.size) with
    |some c=>0<=n/\n<len/\qK c λc=>K c H
    |none=>False
   |_=>False
  |none=>False
 |_=>False
def Gz(P:Program)(H:zq)(ρ:Operand->C)(t:TypeId)(x y:Operand)(K:C->zq->Prop):Prop:=
 match ρ y with
 |.v (.int _ n)=>match P.underlying t with
  |some .string=>match ρ x with
   |.v (.string s)=>match s with
    |⟨⟨b⟩⟩=>0<=n/\∃c,b[n.toNat]?=some c/\K (.v (.int .u8 c.toNat)) H
   |_=>False
  |some (.array len e)=>match P.info? e with
   |some i=>match ρ x with
    |.agg cs=>0<=n/\n<len/\∃c,oh P e cs (n.toNat*i.size)=some c/\okB c λc=>qK c λc=>K c H
    |_=>False
   |none=>False
  |_=>False
 |_=>False
def GG(P:Program)(H:zq)(ρ:Operand->C)(t:TypeId)(x:Operand)(f:Nat)(K:C->zq->Prop):Prop:=
 match P.underlying t with
 |some (.struct fs)=>match fs[f]? with
  |some fd=>match ρ x with
   |.agg cs=>match oh P fd.type cs fd.offset with
    |some c=>okB c λc=>qK c λc=>K c H
    |none=>False
   |_=>False
  |none=>False
 |_=>False
def GF(P:Program)(H:zq)(ρ:Operand->C)(t:TypeId)(x:Operand)(f:Nat)(K:C->zq->Prop):Prop:=
 match P.underlying t with
 |some (.struct fs)=>match fs[f]? with
  |some fd=>match P.info? fd.type with
   |some i=>match wP (ρ x) fd.offset with
    |some c=>bK (i.size != 0) <|qK c λc=>K c H
    |none=>False
   |none=>False
  |none=>False
 |_=>False
def DQ(P:Program)(H:zq)(x:C)(sz':Nat)(rows':List (List C))(e:TypeId)(i:TypeInfo)(K:C->zq->Prop):Prop:=
 match rows' with
 |[]=>(xt H (fH x)).isSome=true/\K (fH x) H
 |r'::rs'=>bK (sz' == i.size) <|jf i.size λsz0=>jf H.length λm=>match x with
  |.eM 1 sz rows=>(rows=[]\/sz=sz0)/\rows.length+(rs'.length+1)<=maxLen/\(rows.length+(rs'.length+1))*i.bytes<=140737488355328/\
    xg (H++[⟨2,e,sz0,rows++r'::rs',0⟩]) λH'=>K (.sl m [] sz0 0 (rows.length+(rs'.length+1)) false) H'
  |.sl id [] sz 0 n false=>match H[id]? with
   |some ob=>bK (sz == sz0 && ob.kind == 2 && ob.ty == e && ob.sz == sz0) <|ob.rows.length=n/\ob.rows.all (·.all zG)=true/\n+(rs'.length+1)<=maxLen/\(n+(rs'.length+1))*i.bytes<=140737488355328/\
     xg (jS H id++[⟨2,e,sz0,ob.rows++r'::rs',ob.fz⟩]) λH'=>K (.sl m [] sz0 0 (n+(rs'.length+1)) false) H'
   |none=>False
  |_=>False
def Ly(H:zq)(sz:Nat)(rows:List (List C))(sz':Nat)(rows':List (List C))(e:TypeId)(i:TypeInfo)(K:C->zq->Prop):Prop:=
 jf i.size λsz0=>jf H.length λm=>(rows=[]\/sz=sz0)/\(rows'=[]\/sz'=sz0)/\rows.length+rows'.length<=maxLen/\(rows.length+rows'.length)*i.bytes<=140737488355328/\
  xg (H++[⟨4,e,sz0,rows++rows',0⟩]) λH'=>K (.gl m sz0 (rows++rows')) H'
def Ge(P:Program)(H:zq)(ρ:Operand->C)(x y:Operand)(e:TypeId)(i:TypeInfo)(K:C->zq->Prop):Prop:=
 match xt H (fH (ρ y)) with
 |some (sz',rows')=>match ρ x with
  |.gl id sz rows=>match H[id]? with
   |some ob=>bK (sz == i.size) <|jf i.size λsz0=>ob=⟨4,e,sz,rows,0⟩/\(rows'=[]\/sz'=sz0)/\rows.length+rows'.length<=maxLen/\(rows.length+rows'.length)*i.bytes<=140737488355328/\
     o5 H id ⟨4,e,sz0,rows++rows',0⟩ λH'=>K (.gl id sz0 (rows++rows')) H'
   |none=>False
  |.eM 1 sz rows=>Ly H sz rows sz' rows' e i K\/DQ P H (.eM 1 sz rows) sz' rows' e i K
  |x=>DQ P H x sz' rows' e i K
 |none=>False
def Ho(H:zq)(op:BinOp)(a b:List UInt8)(K:C->zq->Prop):Prop:=
 match op with
 |.eql=>okB (.v (.bool (a == b))) λc=>K c H
 |.neq=>okB (.v (.bool (!(a == b)))) λc=>K c H
 |.add=>a.length+b.length<=9223372036854775807/\K (.v (.string ⟨⟨a++b⟩⟩)) H
 |_=>False
def Eo(P:Program)(H:zq)(ρ:Operand->C)(o:Oper)(cl:Call)(K:C->zq->Prop):Prop:=
 match cl.callee with
 |.value x=>match ρ x with
  |.fn f first caps=>bK (qt P f) <| ∃r H',zb P f H (first++(cl.args.toList.map λx=>fH (ρ x))++caps) r H'/\okB r λr=>K r H'
  |.v (.func g first caps)=>match g with
   |.yield l=>bK (first.isEmpty && caps.isEmpty) <| ∃r H',jn P l H (cl.args.toList.map ρ) r H'/\okB r λr=>K r H'
   |_=>False
  |_=>False
 |.invoke x name=>match ρ x with
  |.fK t c=>∃f,GZ P t name f=true/\qt P f=true/\∃r H',zb P f H (c::(cl.args.toList.map ρ)) r H'/\okB r λr=>K r H'
  |_=>False
 |.builtin .len=>match cl.args.toList,cl.argTypes.toList with
  |[x],[t]=>match P.underlying t with
   |some (.slice _)=>match EC (fH (ρ x)) with
    |some n=>K (.v (.int .i64 n)) H
    |none=>False
   |some .string=>match ρ x with
    |.v (.string s)=>match s with
     |⟨⟨b⟩⟩=>K (.v (.int .i64 b.length)) H
    |_=>False
   |_=>match lf P (execOp (λx=>ow (ρ x)) o) with
    |some (.value v)=>bK (o.op.operands.toList.all (λx=>fm (ρ x)) && v.oneCell') <|okB (.v v) λc=>K c H
    |_=>False
  |_,_=>False
 |.builtin .append=>match cl.args.toList,cl.argTypes.toList with
  |[x,y],[t,t']=>bK (t' == t) <|match P.underlying t with
   |some (.slice e)=>match P.info? e with
    |some i=>match i.zero with
     |some z=>bK (z.cells.size == i.size) <|Ge P H ρ x y e i K
     |none=>False
    |none=>False
   |_=>False
  |_,_=>False
 |_=>match lf P (execOp (λx=>ow (ρ x)) o) with
  |some (.value v)=>bK (o.op.operands.toList.all (λx=>fm (ρ x)) && v.oneCell') <|okB (.v v) λc=>K c H
  |_=>False
def MX(P:Program)(H:zq)(o:Oper)(ρ:Operand->C)(op:BinOp)(t:TypeId)(xs ys:List C)(K:C->zq->Prop):Prop:=
 (!P.eqGuardType P.depth t && na P 9 t)=true/\match mV P 9 t (.agg xs) (.agg ys) with
  |some b=>match op with
   |.eql=>okB (.v (.bool b)) λc=>K c H
   |.neq=>okB (.v (.bool (!b))) λc=>K c H
   |_=>False
  |none=>False
def C5(P:Program)(t:TypeId)(id:Nat)(hops:List fA)(i k:Nat)(r:List C)(K:C->Prop):Prop:=
 match P.underlying t,P.info? t with
 |some d,some inf=>match Bw d with
  |true=>k+inf.size<=r.length/\yZ qK (vw id hops i k ((r.drop k).take inf.size)) λcs=>K (.agg cs)
  |false=>k+1<=r.length/\match vw id hops i k ((r.drop k).take 1) with
   |[x]=>okB x λx=>qK x K
   |_=>False
 |_,_=>False
def CW(P:Program)(H:zq)(t:TypeId)(c:C)(K:C->Prop):Prop:=
 match c with
 |.ref id hops sz i k=>match H[id]? with
  |some ⟨kind,ty,osz,orows,fz⟩=>match kind with
   |2=>match hops with
    |[]=>bK (osz == sz) <| ∃r,orows[i]?=some r/\C5 P t id [] i k r K
    |h::hs=>∃rows r,qd H id (h::hs)=some (sz,rows)/\rows[i]?=some r/\C5 P t id (h::hs) i k r K
   |1=>match ty with
    |0=>bK (osz == sz && hops.isEmpty) <| ∃r,orows[i]?=some r/\C5 P t id [] i k r K
    |_=>match wx P H t (.ref id hops sz i k) with
     |some c=>okB c λc=>qK c K
     |none=>False
   |_=>match wx P H t (.ref id hops sz i k) with
    |some c=>okB c λc=>qK c K
    |none=>False
  |none=>False
 |c=>match wx P H t c with
  |some c=>okB c λc=>qK c K
  |none=>False
def Fv{id:Nat}{k:Nat}{K:C->Prop}(hg:qd H id hops=some (sz,rows))(hr:rows[i]?=some r)(h:C5 P t id hops i k r K):
  ∃c,wx P H t (.ref id hops sz i k)=some c/\K c:=by
 unfold C5 at h;split at h
 .rename_i d inf hd hi;have hrd:∀n,k+n<=r.length->nH H (.ref id hops sz i k) n=some (vw id hops i k ((r.drop k).take n)):=λn hn=>by simp[nH,hg,hr,hn]
  split at h
  .rename_i hag;obtain⟨h1,h2⟩:=h;refine⟨_,?_,qJ (λ_ _ h=>zX h) (k:=λcs=>K (.agg cs)) h2⟩;unfold wx;rw[hd,hi];simp only[hag,if_true];rw[hrd _ h1]
   rfl
  .rename_i hag;obtain⟨h1,h2⟩:=h;split at h2
   .rename_i x hx;refine⟨x,?_,zX (jc (k:=λx=>qK x K) h2)⟩;unfold wx;rw[hd,hi];simp only[hag];rw[hrd _ h1,hx]
    rfl
   .exact h2.elim
 .exact df
def Ds{c:C}{K:C->Prop}(h:CW P H t c K):∃c',wx P H t c=some c'/\K c':=by
 unfold CW at h;split at h
 .split at h
  .rename_i id hops sz i k kind ty osz orows fz hob;split at h
   .split at h
    .obtain⟨h1,r,h2,h3⟩:=qb h;simp only[pU]at h1;exact Fv (by unfold qd;rw[hob];simp[qS,h1]) h2 h3
    .obtain⟨rows,r,h1,h2,h3⟩:=h;exact Fv h1 h2 h3
   .split at h
    .obtain⟨h1,r,h2,h3⟩:=qb h;simp only[gY,pU,ez]at h1;obtain⟨h1,rfl⟩:=h1;exact Fv (by unfold qd;rw[hob];simp[qS,h1]) h2 h3
    .split at h
     .rename_i c hc;exact⟨c,hc,zX (jc (k:=λc=>qK c K) h)⟩
     .exact df
   .split at h
    .rename_i c hc;exact⟨c,hc,zX (jc (k:=λc=>qK c K) h)⟩
    .exact df
  .exact df
 .split at h
  .rename_i c hc;exact⟨c,hc,zX (jc (k:=λc=>qK c K) h)⟩
  .exact df
def vQ(r:List C)(k:Nat)(cs:List C)(K:List C->Prop):Prop:=bK (Nat.ble (k+cs.length) r.length) <|xg (xZ k cs r) K
def FF{k:Nat}{K:List C->Prop}(h:vQ r k cs K):k+cs.length<=r.length/\K (xZ k cs r):=
 ⟨ph (qb h).1,q7 (qb h).2⟩
def Eb(P:Program)(H:zq)(t:TypeId)(a x:C)(K:zq->Prop):Prop:=
 match a with
 |.ref id hops sz i k=>match H[id]? with
  |some ⟨kind,ty,osz,orows,fz⟩=>match kind with
   |2=>match P.info? t with
    |some inf=>bK (lQ x && (x.cells.length == inf.size) && x.cells.all jM) <|yZ qK x.cells λcs=>match hops with
     |[]=>bK (osz == sz && fz == 0) <| ∃r,orows[i]?=some r/\((r.drop k).take cs.length).all zG=true/\vQ r k cs λr'=>o5 H id ⟨2,ty,osz,orows.set i r',0⟩ K
     |h::hs=>bK (fz == 0) <| ∃rows r,qd H id (h::hs)=some (sz,rows)/\rows[i]?=some r/\((r.drop k).take cs.length).all zG=true/\vQ r k cs λr'=>o5 H id ⟨2,ty,osz,yH orows (h::hs) (λrows=>rows.set i r'),0⟩ K
    |none=>False
   |1=>match ty with
    |0=>match P.info? t with
     |some inf=>bK (lQ x && (x.cells.length == inf.size)) <|yZ qK x.cells λcs=>bK (osz == sz && fz == 0 && hops.isEmpty) <| ∃r,orows[i]?=some r/\((r.drop k).take cs.length).all zG=true/\vQ r k cs λr'=>o5 H id ⟨1,0,osz,orows.set i r',0⟩ K
     |none=>False
    |_=>match hops,orows,i with
     |[],[r],0=>match P.info? t with
      |some inf=>bK (osz == sz && fz == 0 && lQ x && (x.cells.length == inf.size) && ((r.drop k).take x.cells.length).all zG) <|yZ qK x.cells λcs=>vQ r k cs λr'=>o5 H id ⟨1,ty,osz,[r'],0⟩ K
      |none=>False
     |hops,_,i=>match vt P H t (.ref id hops sz i k) x with
      |some H'=>Ai H' K
      |none=>False
   |_=>match vt P H t (.ref id hops sz i k) x with
    |some H'=>Ai H' K
    |none=>False
  |none=>False
 |a=>match vt P H t a x with
  |some H'=>Ai H' K
  |none=>False
def yU{r:α}(f:α->α)(h:l[i]?=some r):l.modify i f=l.set i (f r):=by
 apply rh
 intro j;rw[rF,pd];split
 .rename_i e;subst e;rw[gS (gN.1 h).1,h]
  rfl
 .simp
def JL{f g:List (List C)->List (List C)}:∀(hops:List fA) (sz:Nat) (rows:List (List C)) {sz':Nat} {rows':List (List C)},vH sz rows hops=some (sz',rows')->f rows'=g rows'->yH rows hops f=yH rows hops g
 |[],sz,rows,sz',rows',h,he=>by
  rw[qS]at h;cases h
  exact he
 |(i,k)::hs,sz,rows,sz',rows',h,he=>by
  rw[xz]at h;rw[Dz,Dz];split at h
  .rename_i sz2 rows2 hc
   try rw[hc]
   simp only[JL hs sz2 rows2 h he]
  .cases h
def I1{a x:C}{K:zq->Prop}(h:Eb P H t a x K):∃H',vt P H t a x=some H'/\K H':=by
 unfold Eb at h;cases a with
 |ref id hops sz i k=>
  dsimp only at h;split at h
  .rename_i kind ty osz orows fz hob;split at h
   .split at h
    .rename_i inf hinf;obtain⟨hv,h⟩:=qb h;have h:=qJ (λ_ _ h=>zX h) h;simp only[gY,pU]at hv
     have go:∀hops rows r,qd H id hops=some (sz,rows)->rows[i]?=some r->fz=0->((r.drop k).take x.cells.length).all zG=true->(vQ r k x.cells λr'=>o5 H id ⟨2,ty,osz,yH orows hops (λrows=>rows.set i r'),0⟩ K)->
       ∃H',vt P H t (.ref id hops sz i k) x=some H'/\K H':=λhops rows r h1 h2 h0 h3 h4=>by
      obtain⟨h5,h6⟩:=FF h4;have h6:=we h6;refine⟨_,?_,h6⟩;unfold vt;rw[hinf];dsimp only;rw[h1,hob];dsimp only;rw[h2];dsimp only;rw[gS]
      .congr 1
       unfold l9;rw[yU _ hob]
       congr 1
       dsimp only;subst h0
       congr 1
       obtain⟨ob2,e1,_,e3⟩:=qU h1;rw[hob]at e1;cases e1
       exact JL hops _ _ e3 (by unfold kP;rw[yU _ h2])
      .simp only[gY,pU,rI,pE];exact⟨⟨⟨⟨⟨⟨⟨trivial,hv.1.1⟩,hv.1.2⟩,h5⟩,h3⟩,.inr hv.2⟩,.inr an⟩,.inr h0⟩
     split at h
     .obtain⟨h1,r,h2,h3,h4⟩:=qb h;simp only[gY,pU]at h1;exact go [] orows r (by unfold qd;rw[hob];simp[qS,h1.1]) h2 h1.2 h3 h4
     .obtain⟨h1,rows,r,h2,h3,h4,h5⟩:=qb h;simp only[pU]at h1;exact go _ rows r h2 h3 h1 h4 h5
    .exact df
   .split at h
    .split at h
     .rename_i inf hinf;obtain⟨hv,h⟩:=qb h;have h:=qJ (λ_ _ h=>zX h) h;obtain⟨h1,r,h2,h3,h4⟩:=qb h;obtain⟨h5,h6⟩:=FF h4;have h6:=we h6;simp only[gY,pU,ez]at hv h1;obtain⟨⟨rfl,rfl⟩,rfl⟩:=h1;refine⟨_,?_,h6⟩;have hg:qd H id []=some (osz,orows):=by unfold qd;rw[hob];simp[qS]
      unfold vt;rw[hinf];dsimp only;rw[hg,hob];dsimp only;rw[h2];dsimp only;rw[gS]
      .congr 1
       unfold l9;rw[yU _ hob]
       congr 1
       dsimp only;rw[DC];unfold kP;rw[yU _ h2]
      .simp only[gY,pU,rI,pE];exact⟨⟨⟨⟨⟨⟨⟨trivial,hv.1⟩,hv.2⟩,h5⟩,h3⟩,.inl trivial⟩,.inr an⟩,.inr trivial⟩
     .exact df
    .split at h
     .rename_i r;split at h
      .rename_i inf hinf;obtain⟨hv,h⟩:=qb h;have h:=qJ (λ_ _ h=>zX h) h;obtain⟨h5,h6⟩:=FF h;have h6:=we h6;simp only[gY,pU]at hv;refine⟨_,?_,h6⟩;have h1:qd H id []=some (osz,[r]):=by unfold qd;rw[hob];simp[qS]
       unfold vt;rw[hinf];dsimp only;rw[h1,hob];dsimp only;rw[show [r][0]?=some r from V];dsimp only;rw[gS]
       .congr 1
        unfold l9;rw[yU _ hob]
        congr 1
        dsimp only;obtain⟨⟨⟨⟨_,rfl⟩,_⟩,_⟩,_⟩:=hv;rw[DC];unfold kP
        rfl
       .simp only[gY,pU,rI,pE];obtain⟨⟨⟨⟨e1,e2⟩,e3⟩,e4⟩,e5⟩:=hv;exact⟨⟨⟨⟨⟨⟨⟨e1,e3⟩,e4⟩,h5⟩,e5⟩,.inl trivial⟩,.inr an⟩,.inr e2⟩
      .exact df
     .split at h
      .rename_i H' hc;exact⟨H',hc,kh h⟩
      .exact df
   .split at h
    .rename_i H' hc;exact⟨H',hc,kh h⟩
    .exact df
  .exact df
 |_=>
  dsimp only at h;split at h
  .rename_i H' hc;exact⟨H',hc,kh h⟩
  .exact df
def Wc(H:zq)(a y:C):Bool:=
 match a with
 |.ref id _ _ _ _=>match H[id]? with
  |some ob=>match ob.kind with
   |2=>true
   |1=>match ob.ty with
    |0=>match y with
     |.gl ..=>false
     |_=>true
    |_=>false
   |_=>false
  |none=>false
 |_=>false
def GP(P:Program)(H:zq)(ρ:Operand->C)(o:Oper)(src dst:TypeId)(x:Operand)(K:C->zq->Prop):Prop:=
 match Ab.fH (ρ x) with
 |.eM _ sz rows=>match P.underlying src,P.underlying dst with
  |some (.slice e),some .string=>match P.underlying e with
   |some (.int .u8)=>bK (sz == 1) <| ∃bts:List UInt8,rows=bts.map AO/\K (.v (.string ⟨⟨bts⟩⟩)) H
   |_=>False
  |_,_=>False
 |_=>match lf P (execOp (λx=>ow (ρ x)) o) with
  |some (.value v)=>bK (xA o && o.op.operands.toList.all (λx=>fm (ρ x)) && v.oneCell') <|okB (.v v) λc=>K c H
  |_=>False
def G9(P:Program)(H:zq)(ρ:Operand->C)(t:TypeId)(x y:Operand)(K:C->zq->Prop):Prop:=
 match ρ x,ρ y with
 |.v (.int _ n),.v (.int _ n')=>match P.underlying t with
  |some (.slice e)=>match P.info? e with
   |some i=>match wZ P e with
    |some cs=>bK (cs.all jM) <|n'=n/\0<=n/\(i.bytes:Int)*n<=281474976710656/\n<=9223372036854775807/\
      jf i.size λsz=>jf H.length λm=>xg (H++[⟨2,e,sz,List.replicate n.toNat cs,0⟩]) λH'=>K (.sl m [] sz 0 n.toNat false) H'
    |none=>False
   |none=>False
  |_=>False
 |_,_=>False
def G5(o:Oper):Option (BinOp×TypeId×Operand):=
 match o.op with
 |.binOp op t x y _=>match y with
  |.const v=>match v with
   |.slice none 0 0=>some (op,t,x)
   |_=>none
  |_=>none
 |_=>none
def HC(P:Program)(H:zq)(op:BinOp)(t:TypeId)(x:C)(K:C->zq->Prop):Prop:=
 match P.underlying t with
 |some (.slice _)=>match x with
  |.eM _ _ rows=>match rows with
   |[]=>match op with
    |.eql=>K (.v (.bool true)) H/\K (.v (.bool false)) H
    |.neq=>K (.v (.bool true)) H/\K (.v (.bool false)) H
    |_=>False
   |r::rs=>match op with
    |.eql=>r::rs≠[]/\K (.v (.bool false)) H
    |.neq=>r::rs≠[]/\K (.v (.bool true)) H
    |_=>False
  |.sl ..=>match op with
   |.eql=>K (.v (.bool false)) H
   |.neq=>K (.v (.bool true)) H
   |_=>False
  |_=>False
 |_=>False
def GX(o:Oper):Option (BinOp×TypeId×Operand):=
 match o.op with
 |.binOp op t x y _=>match y with
  |.const v=>match v with
   |.pointer p=>match p with
    |none=>some (op,t,x)
    |some _=>none
   |_=>none
  |_=>none
 |_=>none
def Gv(x:C):Option Bool:=
 match x with
 |.ref ..=>some false
 |.jL _=>some false
 |.v y=>match y with
  |.pointer p=>match p with
   |none=>some true
   |some _=>some false
  |_=>none
 |_=>none
def EF(P:Program)(t:TypeId):Bool:=
 match P.underlying t with
 |some (.pointer e)=>e == P.pointee t
 |_=>false
def Hh(P:Program)(H:zq)(op:BinOp)(t:TypeId)(x:C)(K:C->zq->Prop):Prop:=
 match Gv x with
 |some b=>match op with
  |.eql=>bK (EF P t) <|K (.v (.bool b)) H
  |.neq=>bK (EF P t) <|K (.v (.bool (!b))) H
  |_=>False
 |none=>False
def ng(P:Program)(H:zq)(ρ:Operand->C)(o:Oper)(K:C->zq->Prop):Prop:=
 match o.op with
 |.move x=>qK (ρ x) λc=>K c H
 |.assign x=>qK (ρ x) λc=>K c H
 |.pick x y z=>match ρ x with
  |.v (.bool b)=>qK (if b then ρ y else ρ z) λc=>K c H
  |_=>False
 |.alloc t=>match wZ P t with
  |some cs=>xg cs λcs=>jf cs.length λn=>jf H.length λm=>xg (H++[⟨1,t,n,[cs],0⟩]) λH'=>K (.ref m [] n 0 0) H'
  |none=>False
 |.box t x=>bK (lQ (ρ x)) <|yZ qK (ρ x).cells λcs=>jf cs.length λn=>jf H.length λm=>xg (H++[⟨1,t,n,[cs],0⟩]) λH'=>K (.ref m [] n 0 0) H'
 |.fieldAddr t x f=>GF P H ρ t x f K
 |.indexAddr t x y=>Gy P H (λx=>fH (ρ x)) t x y K
 |.index t x y=>Gz P H ρ t x y K
 |.field t x f=>GG P H ρ t x f K
 |.load t x=>CW P H t (ρ x) λc=>K c H
 |.store t x y=>match Wc H (ρ x) (ρ y) with
  |true=>Eb P H t (ρ x) (wD (ρ y)) λH'=>K .un H'
  |false=>Eb P H t (ρ x) (ρ y) λH'=>K .un H'
 |.extract x n=>match ρ x with
  |.eR vs=>match vs[n]? with
   |some c=>okB c λc=>qK c λc=>K c H
   |none=>False
  |_=>False
 |.nilCheck x=>bK (F3 (ρ x)) <|qK (ρ x) λc=>K c H
 |.makeFunc f first caps=>match f with
  |.func f=>yZ qK (first.toList.map ρ) λa=>yZ qK (caps.toList.map ρ) λb=>K (.fn f a b) H
  |_=>False
 |.build t parts=>GB P t (parts.toList.map λp=>(p.1,ρ p.2)) λcs=>K (.agg cs) H
 |.makeInterface t x=>match P.underlying t with
  |some d=>bK (vn d) <|qK (ρ x) λc=>K (.fK t c) H
  |none=>False
 |.typeAssert x _ t ok=>bK ok <|match ρ x with
  |.fK t' c=>match P.underlying t with
   |some d=>match t' == t with
    |true=>bK (vn d) <|K (.eR [c,.v (.bool true)]) H
    |false=>match P.info? t with
     |some i=>bK (vn d && i.zero.isSome) <|K (.eR [.za,.v (.bool false)]) H
     |none=>False
   |none=>False
  |_=>False
 |.buildSlice t len parts=>match HB P t len (parts.toList.map λp=>(p.1,wD (ρ p.2))) with
  |some c=>match c with
   |.eM o sz rows=>yZ (yZ qK) rows λrows=>jf sz λsz=>K (.eM o sz rows) H
   |_=>False
  |none=>False
 |.slice t x lo hi mx=>GM P H (λx=>fH (ρ x)) t x lo hi mx K
 |.makeSlice t x y=>G9 P H ρ t x y K
 |.lookup ..=>∃c H',e6 P o ρ H c H'/\K c H'
 |.mapUpdate ..=>∃c H',e6 P o ρ H c H'/\K c H'
 |.mapEntry ..=>∃c H',e6 P o ρ H c H'/\K c H'
 |.entryStore ..=>∃c H',e6 P o ρ H c H'/\K c H'
 |.call cl=>Eo P H ρ o cl K
 |.binOp op t x y _=>match ρ x,ρ y with
  |.agg xs,.agg ys=>MX P H o ρ op t xs ys K
  |.v (.string s),.v (.string s')=>match s,s' with
   |⟨⟨a⟩⟩,⟨⟨b⟩⟩=>Ho H op a b K
  |_,_=>match lf P (execOp (λx=>ow (ρ x)) o) with
   |some (.value v)=>bK (xA o && o.op.operands.toList.all (λx=>fm (ρ x)) && v.oneCell') <|okB (.v v) λc=>K c H
   |_=>False
 |.convert src dst x=>GP P H ρ o src dst x K
 |.unOp _ _ _=>match lf P (execOp (λx=>ow (ρ x)) o) with
  |some (.value v)=>bK (xA o && o.op.operands.toList.all (λx=>fm (ρ x)) && v.oneCell') <|HA (.v v) λc=>K c H
  |_=>False
 |_=>match lf P (execOp (λx=>ow (ρ x)) o) with
  |some (.value v)=>bK (xA o && o.op.operands.toList.all (λx=>fm (ρ x)) && v.oneCell') <|okB (.v v) λc=>K c H
  |_=>False
section
variable {P:Program} {o:Oper} {ρ:Operand->C} {H:zq} {K:C->zq->Prop}
def e6.mj{c c':C}(h:e6 P o ρ H c H')(hw:WC c c'):e6 P o ρ H c' H':=λw E σ hh hl K hk=>h w E σ hh hl K λv w' E' h1 h2 g=>hk v w' E' h1 (hw E' v h2) g
def e6.GV(cl:Call)(ho:o.op=.call cl)(x:Operand)(hcl:cl.callee=.value x){first:List C}(hf:ρ x=.fn f first caps)(hcb:qt P f=true){r:C}
 (hs:zb P f H (first++(cl.args.toList.map λx=>Ab.fH (ρ x))++caps) r H'):e6 P o ρ H r H':=.fH <|.call cl ho x hcl (by rw[hf];rfl) hcb hs
def e6.WV(t:TypeId)(x y:Operand)(ho:o.op=.store t x y)(hs:vt P H t (ρ x) (wD (ρ y))=some H'):e6 P o ρ H .un H':=by
 classical
 have hρ:∀z,∃c,(c=ρ z\/c=wD (ρ z))/\(z=y->c=wD (ρ z))/\(z≠y->c=ρ z):=λz=>by
  by_cases e:z=y
  .exact⟨wD (ρ z),.inr V,λ_=>V,λh=>absurd e h⟩
  .exact⟨ρ z,.inl V,λh=>absurd h e,λ_=>V⟩
 obtain⟨ρ',hρ'⟩:∃ρ':Operand->C,∀z,(ρ' z=ρ z\/ρ' z=wD (ρ z))/\(z=y->ρ' z=wD (ρ z))/\(z≠y->ρ' z=ρ z):=⟨λz=>(hρ z).choose,λz=>(hρ z).choose_spec⟩
 have hx:ρ' x=ρ x:=by
  rcases(hρ' x).1 with e|e
  .exact e
  .rw[e];unfold vt at hs;split at hs
   .rename_i e2 _;rw[e2];rfl
   .cases hs
 have h0:qy P o ρ' H .un H':=qy.store t x y ho (by rw[hx,(hρ' y).2.1 V];exact hs);refine .AB (h0.weaken λz E v hl=>?_) (I0 hs);rcases(hρ' z).1 with e|e
 .rw[e];exact hl
 .rw[e];exact FX hl
def km(h:match lf P (execOp (λx=>ow (ρ x)) o) with
  |some (.value v)=>bK (xA o && o.op.operands.toList.all (λx=>fm (ρ x)) && v.oneCell') <|okB (.v v) λc=>K c H
  |_=>False):∃c,(∀H2,e6 P o ρ H2 c H2)/\K c H:=by
 split at h
 .rename_i v e;obtain⟨h1,h2⟩:=qb h;simp only[gY,sR]at h1;exact⟨.v v,λH2=>.same <|.scalar h1.1.1 h1.1.2 e h1.2,jc (k:=λc=>K c H) h2⟩
 .exact df
def IV{lo hi mx:Option Operand}(ho:o.op=.slice t x lo hi mx)(h:GM P H ρ t x lo hi mx K):∃c,(∀H2,e6 P o ρ H2 c H2)/\K c H:=by
 unfold GM at h;split at h
 rotate_left
 .rename_i hu;split at h
  .rename_i s hx;obtain⟨⟨b⟩⟩:=s;dsimp only at h;split at h
   .obtain⟨l,h1,h⟩:=x9 h;obtain⟨h',h2,h3,h4,h5⟩:=x9 h;exact⟨_,λH2=>.same <|.VY t x lo hi ho hu hx h1 h2 h3 h4,h5⟩
   .exact df
  .exact df
 .exact df
 rename_i e hu;split at h
 rotate_left
 .exact df
 rename_i i hi';split at h
 .rename_i fo sz rows hx;obtain⟨hsz,h⟩:=h;split at h
  .split at h
   .obtain⟨l,h1,h3,h5⟩:=x9 h;have:=λH2=>e6.same <|qy.K8 (H:=H2) t x lo none ho hu hi' hx hsz h1 (rfl:lq ρ none rows.length rows.length) h3 (pj _)
    refine⟨_,this,?_⟩;rw[rO ah];by_cases hfo:fo=1
    .simpa [hfo] using h5
    .simpa [hfo] using h5
   .rename_i hh;obtain⟨l,h1,h⟩:=x9 h;obtain⟨h',h2,h3,h4,h5⟩:=x9 h;exact⟨_,λH2=>.mj (.same <|.K8 t x lo (some hh) ho hu hi' hx hsz h1 h2 h3 h4) (.share _ _ _),h5⟩
  .split at h
   .obtain⟨l,h1,h⟩:=x9 h;obtain⟨h',h2,h⟩:=x9 h;obtain⟨m,h3,rfl,h4,h5,h6⟩:=x9 h;exact⟨_,λH2=>.same <|.UD t x lo _ _ ho hu hi' hx hsz h1 h2 h3 h4 h5,h6⟩
   .exact df
 .rename_i id hops sz lo0 len full hx;split at h
  .obtain⟨hsz,h⟩:=h;obtain⟨l,h1,h⟩:=x9 h;obtain⟨h',h2,h3,h4,h5,h6,h7⟩:=x9 h;exact⟨_,λH2=>.same <|.Wb t x lo hi ho hu hi' hx hsz h1 h2 h3 h4 h5 h6,h7⟩
  .exact df
 .exact df
def Ja{y:Operand}(ho:o.op=.indexAddr t x y)(h:Gy P H ρ t x y K):∃c,(∀H2,e6 P o ρ H2 c H2)/\K c H:=by
 unfold Gy at h;split at h
 rotate_left
 .rename_i len e hu;split at h
  .rename_i i hi;split at h
   .rename_i k n hy;split at h
    .rename_i c hx;exact⟨c,λH2=>.same <|.Vj t x y ho hu hi hy h.1 h.2.1 hx,zX (k:=λc=>K c H) h.2.2⟩
    .exact df
   .exact df
  .exact df
 .exact df
 rename_i e hu;split at h
 rotate_left
 .exact df
 rename_i i hi;split at h
 rotate_left
 .exact df
 rename_i k n hy;split at h
 .rename_i fo sz rows hx;obtain⟨h1,h3,r,h4,h5⟩:=qb h;refine⟨_,λH2=>.same <|.indexAddr t x y ho hu hi hy h3 (c:=.jL r) ?_,h5⟩;rw[hx];simp only[Am];rw[gS h1,h4]
  rfl
 .rename_i id hops sz lo len full hx;obtain⟨h2,h3,h4,h5⟩:=qb h;simp only[pU]at h2;refine⟨_,λH2=>.same <|.indexAddr t x y ho hu hi hy h3 (c:=.ref id hops sz (lo+n.toNat) 0) ?_,h5⟩;rw[hx];simp only[Am];rw[gS (by simp[h4,h2])]
 .exact df
def Jb{y:Operand}(ho:o.op=.index t x y)(h:Gz P H ρ t x y K):∃c,(∀H2,e6 P o ρ H2 c H2)/\K c H:=by
 unfold Gz at h;split at h
 .rename_i k n hy;split at h
  .rename_i hu;split at h
   .rename_i s hx;obtain⟨⟨b⟩⟩:=s;obtain⟨h1,c,h2,h3⟩:=h;exact⟨_,λH2=>.same <|.VX t x y ho hu hx hy h1 h2,h3⟩
   .exact df
  .rename_i len e hu;split at h
   .rename_i i hi;split at h
    .rename_i cs hx;obtain⟨h1,h2,c,h3,h4⟩:=h;exact⟨c,λH2=>.same <|.RA t x y ho hu hi hx hy h1 h2 h3,zX (k:=λc=>K c H) (jc (k:=λc=>qK c λc=>K c H) h4)⟩
    .exact df
   .exact df
  .exact df
 .exact df
def I6{f:Nat}(ho:o.op=.field t x f)(h:GG P H ρ t x f K):∃c,(∀H2,e6 P o ρ H2 c H2)/\K c H:=by
 unfold GG at h;split at h
 .rename_i fs hu;split at h
  .rename_i fd hf;split at h
   .rename_i cs hx;split at h
    .rename_i c hc;exact⟨c,λH2=>.same <|.field t x f ho hu hf hx hc,zX (k:=λc=>K c H) (jc (k:=λc=>qK c λc=>K c H) h)⟩
    .exact df
   .exact df
  .exact df
 .exact df
def Kz{t':TypeId}{y:Operand}{a b:List UInt8}(ho:o.op=.binOp op t x y t')(hx:ρ x=.v (.string (bs a)))(hy:ρ y=.v (.string (bs b)))(h:Ho H op a b K):∃c,(∀H2,e6 P o ρ H2 c H2)/\K c H:=by
 unfold Ho at h;split at h
 .exact⟨_,λH2=>.same <|.Mm .eql t t' x y ho (.inl V) hx hy,jc (k:=λc=>K c H) h⟩
 .exact⟨_,λH2=>.same <|.Mm .neq t t' x y ho (.inr V) hx hy,jc (k:=λc=>K c H) h⟩
 .exact⟨_,λH2=>.same <|.WW t t' x y ho hx hy h.1,h.2⟩
 .exact df
def I5{f:Nat}(ho:o.op=.fieldAddr t x f)(h:GF P H ρ t x f K):∃c,(∀H2,e6 P o ρ H2 c H2)/\K c H:=by
 unfold GF at h;split at h
 rotate_left
 .exact df
 rename_i fs hu;split at h
 rotate_left
 .exact df
 rename_i fd hf;split at h
 rotate_left
 .exact df
 rename_i i hi;split at h
 rotate_left
 .exact df
 rename_i c hc;obtain⟨h1,h2⟩:=qb h;exact⟨c,λH2=>.same <|.fieldAddr t x f ho hu hf hi uZ hc,zX (k:=λc=>K c H) h2⟩
def ID(ho:o.op=.call cl){y:Operand}{i:TypeInfo}(ht:nP P cl x y e i z){sz':Nat}{rows':List (List C)}(hy:xt H (fH (ρ y))=some (sz',rows'))
 (h:DQ P H (ρ x) sz' rows' e i K):∃c H',e6 P o ρ H c H'/\K c H':=by
 unfold DQ at h;split at h
 .obtain⟨h1,h2⟩:=h;obtain⟨⟨sz,rows⟩,hx⟩:=Option.isSome_iff_exists.1 h1;exact⟨_,H,.fH (ρ:=ρ) (.same <|.Qq cl ho x y ht hx hy),h2⟩
 .rename_i r' rs'
  replace h:=qb h
  obtain⟨hz,h⟩:=h;have hz:=eq_of_beq hz;subst hz;have h:=qu h;have h:=qu h;split at h
  .rename_i sz rows hx;obtain⟨h1,h2,h3,h4⟩:=h;exact⟨_,_,.fH (ρ:=ρ) (.Eg (.Qp cl ho x y ht (by rw[hx];rfl) h1 hy ah tM (ai h3)) _ (λe=>by cases e) rfl),by simpa using q7 h4⟩
  .rename_i id sz n hx;split at h
   .rename_i ob hob
    replace h:=qb h
    obtain⟨hb,h4,h5,h6,h7,h8⟩:=h;simp only[gY,pU]at hb;obtain⟨⟨⟨rfl,h1⟩,h2⟩,h3⟩:=hb;exact⟨_,_,.fH (ρ:=ρ) (.AB (.SR cl ho x y ht (by rw[hx];rfl) hob h1 h2 h3 h4 h5 hy ah (ai h6) (ai h7)) (jm.trans (jm.jS H id λob' h'=>by rw[hob]at h';cases h';rw[h1];decide) (jm.push _ _ (λe=>by cases e)))),by simpa using q7 h8⟩
   .exact df
  .exact df
def Pb(ho:o.op=.call cl){y:Operand}{i:TypeInfo}(ht:nP P cl x y e i z)(h:Ge P H ρ x y e i K):∃c H',e6 P o ρ H c H'/\K c H':=by
 unfold Ge at h;split at h
 rotate_left
 .exact df
 rename_i sz' rows' hy;split at h
 .rename_i id sz rows hx;split at h
  .rename_i ob hob
   replace h:=qb h
   obtain⟨hz,h⟩:=h;have hz:=eq_of_beq hz;subst hz;have h:=qu h;obtain⟨h1,h2,h3,h4,h5⟩:=h;exact⟨_,_,.KH cl ho x y ht hx hob h1 hy h2 h3 h4,we h5⟩
  .exact df
 .rename_i sz rows hx;rcases h with h|h
  .unfold Ly at h;have h:=qu h;have h:=qu h;obtain⟨h1,h2,h3,h4,h5⟩:=h;exact⟨_,_,.Pa cl ho x y ht hx h1 hy h2 h3 h4,q7 h5⟩
  .exact ID ho ht hy (hx ▸ h)
 .exact ID ho ht hy h
def Array.yc{a:Array α}(h:a.toList=l):a=l.toArray:=by subst h;simp
def RE(ho:o.op=.call cl)(h:Eo P H ρ o cl K):∃c H',e6 P o ρ H c H'/\K c H':=by
 have hns:xA o=true:=by simp[xA,ho]
 have scal:∀(h:match lf P (execOp (λx=>ow (ρ x)) o) with
   |some (.value v)=>bK (o.op.operands.toList.all (λx=>fm (ρ x)) && v.oneCell') <|okB (.v v) λc=>K c H
   |_=>False),∃c H',e6 P o ρ H c H'/\K c H':=by
  intro h;split at h
  .rename_i v e;obtain⟨h1,h2⟩:=qb h;simp only[gY,sR]at h1;exact⟨.v v,H,.same <|.scalar hns h1.1 e h1.2,jc (k:=λc=>K c H) h2⟩
  .exact df
 unfold Eo at h;split at h
 .rename_i x hcl;split at h
  .rename_i f first caps hf;obtain⟨h1,r,H',h2,h3⟩:=qb h;exact⟨r,H',.GV cl ho x hcl hf h1 h2,jc (k:=λc=>K c H') h3⟩
  .rename_i g first caps hf;split at h
   .rename_i l;obtain⟨h1,r,H',h2,h3⟩:=qb h;simp only[gY,Array.isEmpty_iff]at h1;obtain⟨rfl,rfl⟩:=h1;exact⟨r,H',.yield cl ho x hcl hf h2,jc (k:=λc=>K c H') h3⟩
   .exact df
  .exact df
 .rename_i x name hcl;split at h
  .rename_i t c hx;obtain⟨f,hm,hcb,r,H',h2,h3⟩:=h;exact⟨r,H',.invoke cl ho x name hcl hx hm hcb h2,jc (k:=λc=>K c H') h3⟩
  .exact df
 .rename_i hcl;split at h
  .rename_i x t hx ht;split at h
   .rename_i e hu;split at h
    .rename_i n hn;exact⟨_,H,.fH (ρ:=ρ) <|.same <|.len cl ho hcl x (Array.yc hx) (Array.yc ht) hu hn,h⟩
    .exact df
   .rename_i hu;split at h
    .rename_i s hs;obtain⟨⟨b⟩⟩:=s;exact⟨_,H,.same <|.Mf cl ho hcl x (Array.yc hx) (Array.yc ht) hu hs,h⟩
    .exact df
   .exact scal h
  .exact df
 .rename_i hcl;split at h
  .rename_i x y t t' hx ht;obtain⟨ht',h⟩:=qb h;simp only[pU]at ht';subst ht';split at h
   .rename_i e hu;split at h
    .rename_i i hi;split at h
     .rename_i z hz;exact Pb ho ⟨hcl,Array.yc hx,⟨_,Array.yc ht,hu⟩,hi,hz,by simpa using (qb h).1⟩ (qb h).2
     .exact df
    .exact df
   .exact df
  .exact df
 .exact scal h
def Tw(ho:G5 o=some (op,t,x))(h:HC P H op t (ρ x) K):jy P o ρ H K:=by
 obtain⟨t',ho⟩:∃t',o.op=.binOp op t x (.const (.slice none 0 0)) t':=by
  unfold G5 at ho;split at ho
  .rename_i h1;split at ho
   .split at ho
    .cases ho;exact⟨_,h1⟩
    .cases ho
   .cases ho
  .cases ho
 unfold HC at h;split at h
 .rename_i e hu;split at h
  .rename_i fo sz rows hx;split at h
   .split at h
    .exact .LU .eql t t' x ho (.inl V) hu hx h.1 h.2
    .exact .LU .neq t t' x ho (.inr V) hu hx h.1 h.2
    .exact df
   .split at h
    .exact(mi.D5 .eql t t' x ho (.inl V) hu (.inl ⟨_,_,_,hx,h.1⟩)).fM h.2
    .exact(mi.D5 .neq t t' x ho (.inr V) hu (.inl ⟨_,_,_,hx,h.1⟩)).fM h.2
    .exact df
  .rename_i hx;split at h
   .exact(mi.D5 .eql t t' x ho (.inl V) hu (.inr ⟨_,_,_,_,_,_,hx⟩)).fM h
   .exact(mi.D5 .neq t t' x ho (.inr V) hu (.inr ⟨_,_,_,_,_,_,hx⟩)).fM h
   .exact df
  .exact df
 .exact df
def Jc{x:C}(h:Gv x=some b):∀E u,L E x u->∃a,u=.pointer a/\a.isNone=b:=by
 intro E u hl;unfold Gv at h;split at h
 .cases h;cases hl;exact⟨_,rfl,rfl⟩
 .cases h;cases hl;exact⟨_,rfl,rfl⟩
 .split at h
  .split at h <;> (cases h;cases hl;exact⟨_,rfl,rfl⟩)
  .cases h
 .cases h
def Us(ho:GX o=some (op,t,x))(h:Hh P H op t (ρ x) K):∃c,mi P o ρ H c H/\K c H:=by
 obtain⟨t',ho⟩:∃t',o.op=.binOp op t x (.const (.pointer none)) t':=by
  unfold GX at ho;split at ho
  .rename_i h1;split at ho
   .split at ho
    .split at ho
     .cases ho;exact⟨_,h1⟩
     .cases ho
    .cases ho
   .cases ho
  .cases ho
 have hT:EF P t=true->P.underlying t=some (.pointer (P.pointee t)):=λhp=>by
  unfold EF at hp;split at hp
  .rename_i e hu;have he:e=P.pointee t:=by simpa using hp
   rw[hu,he]
  .cases hp
 unfold Hh at h;split at h
 .rename_i b hb;split at h
  .exact⟨_,.LO .eql t t' x ho (.inl V) (hT (qb h).1) b (Jc hb),(qb h).2⟩
  .exact⟨_,.LO .neq t t' x ho (.inr V) (hT (qb h).1) b (Jc hb),(qb h).2⟩
  .exact df
 .exact df
def Rd{y:Operand}(ho:o.op=.makeSlice t x y)(h:G9 P H ρ t x y K):∃c H',e6 P o ρ H c H'/\K c H':=by
 unfold G9 at h;split at h
 .rename_i k n k' n' hx hy;split at h
  .rename_i e hu;split at h
   .rename_i i hi;split at h
    .rename_i cs hz;obtain⟨h1,rfl,h2,h3,h4,h5⟩:=qb h;have h5:=qu h5;have h5:=qu h5;exact⟨_,_,.Eg (.makeSlice t x y ho hu hi hz h1 hx hy h2 h3 h4) _ (λe=>by cases e) rfl,q7 h5⟩
    .exact df
   .exact df
  .exact df
 .exact df
def JJ{src dst:TypeId}(ho:o.op=.convert src dst x)(h:GP P H ρ o src dst x K):∃c,(∀H2,e6 P o ρ H2 c H2)/\K c H:=by
 unfold GP at h;split at h
 .rename_i fo sz rows hx;split at h
  .rename_i e hs hd;split at h
   .rename_i he;obtain⟨h1,bts,rfl,h2⟩:=qb h;have h1:=eq_of_beq h1;subst h1;exact⟨_,λH2=>.fH (ρ:=ρ) <|.same <|.TT src dst x ho hs he hd hx,h2⟩
   .exact df
  .exact df
 .exact km h
def Fx(h:ng P H ρ o K):∃c H',e6 P o ρ H c H'/\K c H':=by
 unfold ng at h;split at h
 .rename_i x ho;exact⟨_,H,.same <|.move x (.inl ho),zX (k:=λc=>K c H) h⟩
 .rename_i x ho;exact⟨_,H,.same <|.move x (.inr ho),zX (k:=λc=>K c H) h⟩
 .rename_i x y z ho;split at h
  .rename_i b hb;exact⟨_,H,.same <|.pick x y z ho b hb,zX (k:=λc=>K c H) h⟩
  .exact df
 .rename_i t ho;split at h
  .rename_i cs hz;have h:=q7 (k:=λcs=>jf cs.length λn=>jf H.length λm=>xg (H++[⟨1,t,n,[cs],0⟩]) λH'=>K (.ref m [] n 0 0) H') h;have h:=qu (k:=λn=>jf H.length λm=>xg (H++[⟨1,t,n,[cs],0⟩]) λH'=>K (.ref m [] n 0 0) H') h;have h:=qu (k:=λm=>xg (H++[⟨1,t,cs.length,[cs],0⟩]) λH'=>K (.ref m [] cs.length 0 0) H') h;exact⟨_,_,.Eg (.alloc t ho hz) _ (λe=>by cases e) rfl,q7 (k:=λH'=>K (.ref H.length [] cs.length 0 0) H') h⟩
  .exact df
 .rename_i t x ho;obtain⟨h0,h⟩:=qb h;have h:=qJ (λ_ _ h=>zX h) (k:=λcs=>jf cs.length λn=>jf H.length λm=>xg (H++[⟨1,t,n,[cs],0⟩]) λH'=>K (.ref m [] n 0 0) H') h;have h:=qu (k:=λn=>jf H.length λm=>xg (H++[⟨1,t,n,[(ρ x).cells],0⟩]) λH'=>K (.ref m [] n 0 0) H') h;have h:=qu (k:=λm=>xg (H++[⟨1,t,(ρ x).cells.length,[(ρ x).cells],0⟩]) λH'=>K (.ref m [] (ρ x).cells.length 0 0) H') h;exact⟨_,_,.Eg (.box t x ho h0) _ (λe=>by cases e) rfl,q7 (k:=λH'=>K (.ref H.length [] (ρ x).cells.length 0 0) H') h⟩
 .rename_i t x f ho;obtain⟨c,h1,h2⟩:=I5 ho h;exact⟨c,H,h1 H,h2⟩
 .rename_i t x y ho;obtain⟨c,h1,h2⟩:=Ja (ρ:=λx=>fH (ρ x)) ho h;exact⟨c,H,(h1 H).fH,h2⟩
 .rename_i t x y ho;obtain⟨c,h1,h2⟩:=Jb ho h;exact⟨c,H,h1 H,h2⟩
 .rename_i t x f ho;obtain⟨c,h1,h2⟩:=I6 ho h;exact⟨c,H,h1 H,h2⟩
 .rename_i t x ho;obtain⟨c,h1,h2⟩:=Ds h;exact⟨c,H,.same <|.load t x ho h1,h2⟩
 .rename_i t x y ho;split at h
  .obtain⟨H',h1,h2⟩:=I1 h;exact⟨_,H',.WV t x y ho h1,h2⟩
  .obtain⟨H',h1,h2⟩:=I1 h;exact⟨_,H',.AB (.store t x y ho h1) (I0 h1),h2⟩
 .rename_i x n ho;split at h
  .rename_i vs hx;split at h
   .rename_i c hc;exact⟨c,H,.same <|.extract x n ho hx hc,zX (k:=λc=>K c H) (jc (k:=λc=>qK c λc=>K c H) h)⟩
   .exact df
  .exact df
 .rename_i x ho;exact⟨_,H,.same <|.nilCheck x ho (qb h).1,zX (k:=λc=>K c H) (qb h).2⟩
 .rename_i f first caps ho;split at h
  .have h:=qJ (λ_ _ h=>zX h) h;exact⟨_,H,.same <|.makeFunc _ first caps ho,qJ (λ_ _ h=>zX h) (k:=λb=>K (.fn _ (first.toList.map ρ) b) H) h⟩
  .exact df
 .rename_i t parts ho;obtain⟨cs,hc,h⟩:=IF h;exact⟨_,H,.same <|.build t parts ho hc,h⟩
 .rename_i t x ho;split at h
  .rename_i d hd;obtain⟨h1,h2⟩:=qb h;exact⟨_,H,.Tp t x ho hd h1,zX (k:=λc=>K (.fK t c) H) h2⟩
  .exact df
 .rename_i x xT t ok ho
  replace h:=qb h
  obtain⟨h1,h⟩:=h;subst h1;split at h
  .rename_i t' c hx;split at h
   .rename_i d hd;split at h
    .rename_i he;obtain rfl:t'=t:=by simpa using he
     exact⟨_,H,.SU x xT t' ho hx hd (qb h).1,(qb h).2⟩
    .rename_i he;split at h
     .rename_i i hi;have h2:=(qb h).1;rw[gY]at h2;exact⟨_,H,.Un x xT t ho hx he hd h2.1 hi h2.2,(qb h).2⟩
     .exact df
   .exact df
  .exact df
 .rename_i t len parts ho;split at h
  .rename_i c hc;split at h
   .rename_i o' sz rows;have h:=qJ (λ_ _ h=>qJ (λ_ _ h=>zX h) h) (k:=λrows=>jf sz λsz=>K (.eM o' sz rows) H) h;exact⟨_,H,.same <|(qy.buildSlice (ρ:=λz=>wD (ρ z)) t len parts ho hc).weaken λz E v hl=>FX hl,qu (k:=λsz=>K (.eM o' sz rows) H) h⟩
   .exact df
  .exact df
 .rename_i t x lo hi mx ho;obtain⟨c,h1,h2⟩:=IV (ρ:=λx=>fH (ρ x)) ho h;exact⟨c,H,(h1 H).fH,h2⟩
 .rename_i t x y ho;exact Rd ho h
 .exact h
 .exact h
 .exact h
 .exact h
 .rename_i cl ho;exact RE ho h
 .rename_i op t x y t' ho;split at h
  .rename_i xs ys hx hy;obtain⟨h1,h⟩:=h;simp only[gY,pS]at h1;split at h
   .rename_i b hb;split at h
    .exact⟨_,H,.same <|.DF .eql t t' x y ho (.inl V) h1.1 h1.2 hx hy hb,jc (k:=λc=>K c H) h⟩
    .exact⟨_,H,.same <|.DF .neq t t' x y ho (.inr V) h1.1 h1.2 hx hy hb,jc (k:=λc=>K c H) h⟩
    .exact df
   .exact df
  .rename_i s s' hx hy;obtain⟨⟨a⟩⟩:=s;obtain⟨⟨b⟩⟩:=s';obtain⟨c,h1,h2⟩:=Kz ho hx hy h;exact⟨c,H,h1 H,h2⟩
  .obtain⟨c,h1,h2⟩:=km h;exact⟨c,H,h1 H,h2⟩
 .rename_i src dst x ho;obtain⟨c,h1,h2⟩:=JJ ho h;exact⟨c,H,h1 H,h2⟩
 .split at h
  .rename_i v e;obtain⟨h1,h2⟩:=qb h;simp only[gY,sR]at h1;exact⟨.v v,H,.same <|.scalar h1.1.1 h1.1.2 e h1.2,Ku (k:=λc=>K c H) h2⟩
  .exact df
 .obtain⟨c,h1,h2⟩:=km h;exact⟨c,H,h1 H,h2⟩
end
def CP(calls:Bool)(o:Oper):Bool:=
 match o.op with
 |.alloc _|.box .. |.store .. |.makeSlice .. |.makeMap .. |.mapUpdate .. |.insert .. |.mapEntry .. |.entryStore ..=>true
 |.call cl=>match cl.callee with
  |.builtin .len=>false
  |.builtin _=>true
  |_=>calls
 |_=>false
def xw(o:Oper):Bool:=
 match o.op with
 |.move _|.assign _|.pick .. |.fieldAddr .. |.indexAddr .. |.extract .. |.nilCheck _|.makeFunc .. |.build .. |.buildSlice .. |.slice .. |.index .. |.field .. |.binOp .. |.unOp .. |.convert ..=>true
 |.call cl=>match cl.callee with
  |.builtin .len=>true
  |_=>false
 |_=>false
section
variable {P:Program} {o:Oper} {ρ:Operand->C} {H:zq} {K:C->zq->Prop}
def IZ(hb:xw o=true)(h:ng P H ρ o K):∃c,(∀H2,e6 P o ρ H2 c H2)/\K c H:=by
 unfold ng at h;split at h
 .rename_i x ho;exact⟨_,λH2=>.same <|.move x (.inl ho),zX (k:=λc=>K c H) h⟩
 .rename_i x ho;exact⟨_,λH2=>.same <|.move x (.inr ho),zX (k:=λc=>K c H) h⟩
 .rename_i x y z ho;split at h
  .rename_i b hb;exact⟨_,λH2=>.same <|.pick x y z ho b hb,zX (k:=λc=>K c H) h⟩
  .exact df
 .rename_i t ho;simp[xw,ho]at hb
 .rename_i t x ho;simp[xw,ho]at hb
 .rename_i t x f ho;exact I5 ho h
 .rename_i t x y ho;obtain⟨c,h1,h2⟩:=Ja (ρ:=λx=>fH (ρ x)) ho h;exact⟨c,λH2=>(h1 H2).fH,h2⟩
 .rename_i t x y ho;exact Jb ho h
 .rename_i t x f ho;exact I6 ho h
 .rename_i t x ho;simp[xw,ho]at hb
 .rename_i t x y ho;simp[xw,ho]at hb
 .rename_i x n ho;split at h
  .rename_i vs hx;split at h
   .rename_i c hc;exact⟨c,λH2=>.same <|.extract x n ho hx hc,zX (k:=λc=>K c H) (jc (k:=λc=>qK c λc=>K c H) h)⟩
   .exact df
  .exact df
 .rename_i x ho;exact⟨_,λH2=>.same <|.nilCheck x ho (qb h).1,zX (k:=λc=>K c H) (qb h).2⟩
 .rename_i f first caps ho;split at h
  .have h:=qJ (λ_ _ h=>zX h) h;exact⟨_,λH2=>.same <|.makeFunc _ first caps ho,qJ (λ_ _ h=>zX h) (k:=λb=>K (.fn _ (first.toList.map ρ) b) H) h⟩
  .exact df
 .rename_i t parts ho;obtain⟨cs,hc,h⟩:=IF h;exact⟨_,λH2=>.same <|.build t parts ho hc,h⟩
 .rename_i t x ho;simp[xw,ho]at hb
 .rename_i x xT t ok ho;simp[xw,ho]at hb
 .rename_i t len parts ho;split at h
  .rename_i c hc;split at h
   .rename_i o' sz rows;have h:=qJ (λ_ _ h=>qJ (λ_ _ h=>zX h) h) (k:=λrows=>jf sz λsz=>K (.eM o' sz rows) H) h;exact⟨_,λH2=>.same <|(qy.buildSlice (ρ:=λz=>wD (ρ z)) t len parts ho hc).weaken λz E v hl=>FX hl,qu (k:=λsz=>K (.eM o' sz rows) H) h⟩
   .exact df
  .exact df
 .rename_i t x lo hi mx ho;obtain⟨c,h1,h2⟩:=IV (ρ:=λx=>fH (ρ x)) ho h;exact⟨c,λH2=>(h1 H2).fH,h2⟩
 .rename_i t x y ho;simp[xw,ho]at hb
 .rename_i ho;simp[xw,ho]at hb
 .rename_i ho;simp[xw,ho]at hb
 .rename_i ho;simp[xw,ho]at hb
 .rename_i ho;simp[xw,ho]at hb
 .rename_i cl ho
  have hc:cl.callee=.builtin .len:=by
   simp only[xw,ho]at hb;split at hb
   .assumption
   .cases hb
  have hns:xA o=true:=by simp[xA,ho]
  unfold Eo at h;rw[hc]at h;dsimp only at h;split at h
  .rename_i x t hx ht;split at h
   .rename_i e hu;split at h
    .rename_i n hn;exact⟨_,λH2=>.fH (ρ:=ρ) <|.same <|.len cl ho hc x (Array.yc hx) (Array.yc ht) hu hn,h⟩
    .exact df
   .rename_i hu;split at h
    .rename_i s hs;obtain⟨⟨b⟩⟩:=s;exact⟨_,λH2=>.same <|.Mf cl ho hc x (Array.yc hx) (Array.yc ht) hu hs,h⟩
    .exact df
   .split at h
    .rename_i v e;obtain⟨h1,h2⟩:=qb h;simp only[gY,sR]at h1;exact⟨.v v,λH2=>.same <|.scalar hns h1.1 e h1.2,jc (k:=λc=>K c H) h2⟩
    .exact df
  .exact df
 .rename_i op t x y t' ho;split at h
  .rename_i xs ys hx hy;obtain⟨h1,h⟩:=h;simp only[gY,pS]at h1;split at h
   .rename_i b hb;split at h
    .exact⟨_,λH2=>.same <|.DF .eql t t' x y ho (.inl V) h1.1 h1.2 hx hy hb,jc (k:=λc=>K c H) h⟩
    .exact⟨_,λH2=>.same <|.DF .neq t t' x y ho (.inr V) h1.1 h1.2 hx hy hb,jc (k:=λc=>K c H) h⟩
    .exact df
   .exact df
  .rename_i s s' hx hy;obtain⟨⟨a⟩⟩:=s;obtain⟨⟨b⟩⟩:=s';exact Kz ho hx hy h
  .exact km h
 .rename_i src dst x ho;exact JJ ho h
 .split at h
  .rename_i v e;obtain⟨h1,h2⟩:=qb h;simp only[gY,sR]at h1;exact⟨.v v,λH2=>.same <|.scalar h1.1.1 h1.1.2 e h1.2,Ku (k:=λc=>K c H) h2⟩
  .exact df
 .exact km h
end
section
variable {P:Program} {B:Nat} {ops:Array Oper} {md:Region.Mode} {Hs:Nat->zq} {eff:Nat->Bool} {idx:Nat->Nat} {inR:Nat->Nat->Bool}
def Cz(md:Region.Mode)(ms:List Nat)(o:Oper):List Nat:=
 ms++[o.after.toList.foldl (λm e=>if Region.binds md e then m ||| (1 <<< e.on) ||| (ms[e.on]?).getD 0 else m) 0]
def my(md:Region.Mode)(ops:Array Oper):List Nat:=ops.toList.foldl (Cz md) []
def nt(md:Region.Mode)(ops:Array Oper)(ms:List Nat)(j i:Nat):Bool:=Nat.testBit ((ms[j]?).getD 0) i
def J0{md:Region.Mode}{ms:List Nat}{i:Nat}:∀{l:List Edge} {m0:Nat},Nat.testBit (l.foldl (λm e=>if Region.binds md e then m ||| (1 <<< e.on) ||| (ms[e.on]?).getD 0 else m) m0) i=true->
  Nat.testBit m0 i=true\/∃e∈l,Region.binds md e=true/\(e.on=i\/Nat.testBit ((ms[e.on]?).getD 0) i=true)
 |[],m0,h=>.inl h
 |e::l,m0,h=>by
  rw[eI]at h;rcases J0 h with h1|⟨e',h1,h2⟩
  .split at h1
   .rename_i hb;simp only[Nat.testBit_or,rI]at h1;rcases h1 with(h1|h1)|h1
    .exact .inl h1
    .refine .inr ⟨e,ah,hb,.inl ?_⟩;rw[Nat.testBit_shiftLeft]at h1;simp only[gY,pE]at h1;obtain⟨h2,h3⟩:=h1;have:=Nat.testBit_one_eq_true_iff_self_eq_zero.1 h3;omega
    .exact .inr ⟨e,ah,hb,.inr h1⟩
   .exact .inl h1
  .exact .inr ⟨e',aG,h2⟩
def Ah(md:Region.Mode)(l:List Oper)(ms:List Nat):Prop:=ms.length=l.length/\∀(j i:Nat),Nat.testBit ((ms[j]?).getD 0) i=true->
  ∃oj,l[j]?=some oj/\∃e∈oj.after,Region.binds md e=true/\(e.on=i\/(e.on<j/\Nat.testBit ((ms[e.on]?).getD 0) i=true))
def Ah.step{l:List Oper}{ms:List Nat}(h0:Ah md l ms)(o:Oper):Ah md (l++[o]) (Cz md ms o):=by
 obtain⟨ih1,ih2⟩:=h0;refine⟨by simp[Cz,ih1],?_⟩;intro j i h;unfold Cz at h|-;by_cases hj:j<ms.length
 .rw[gW hj]at h;obtain⟨oj,h1,e,h2,h3,h4⟩:=ih2 j i h;refine⟨oj,by rw[gW an];exact h1,e,h2,h3,h4.imp id λ⟨h5,h6⟩=>⟨h5,?_⟩⟩;rw[gW an];exact h6
 .rw[pq an]at h
  have hj0:j-ms.length=0:=by
   rcases sW (j-ms.length) with h0|h0
   .exact h0
   .rw[rq ar]at h;simp at h
  rw[hj0]at h;simp only[ui,rm]at h;rcases J0 h with h1|⟨e,h1,h2,h3⟩
  .simp at h1
  .refine⟨o,by rw[pq an,<-ih1,hj0];rfl,e,ai h1,h2,h3.imp id λh4=>?_⟩
   have eP:e.on<ms.length:=by
    rcases sP e.on ms.length with h5|h5
    .exact h5
    .rw[rq h5]at h4;simp at h4
   exact⟨an,by rw[gW eP];exact h4⟩
def Ah.fold{md:Region.Mode}:∀{l pre:List Oper} {ms:List Nat},Ah md pre ms->Ah md (pre++l) (l.foldl (Cz md) ms)
 |[],pre,ms,h=>by simpa using h
 |o::l,pre,ms,h=>by
  have:=(h.step o).fold (l:=l);simpa using this
def JA(ops:Array Oper):Ah md ops.toList (my md ops):=by
 have:=Ah.fold (md:=md) (l:=ops.toList) (pre:=[]) (ms:=[]) ⟨rfl,ah⟩;simpa [my] using this
def Down(md:Region.Mode)(ops:Array Oper)(listed:Array Bool):Prop:=∀j oj,ops[j]?=some oj->listed.getD j false=true->∀e∈oj.after,Region.binds md e=true->listed.getD e.on false=true
def Down.start:Down md ops (Array.replicate ops.size false):=λj oj _ h=>by
 exfalso
 rw[pY,Array.getElem?_replicate]at h;split at h <;> simp at h
def Down.dep(hd:Down md ops listed)(j i:Nat)(hj:listed.getD j false=true)(h:nt md ops (my md ops) j i=true):listed.getD i false=true:=by
 induction j using Nat.strongRecOn with
 |_ j ih=>
  obtain⟨oj,h1,e,h2,h3,h4⟩:=(JA (md:=md) ops).2 j i h;have h5:=hd j oj uZ hj e h2 h3;rcases h4 with rfl|⟨h6,h7⟩
  .exact h5
  .exact ih e.on h6 h5 h7
def Down.ready(hd:Down md ops listed)(hj:j∈Region.ready md ops listed)(h:nt md ops (my md ops) j i=true):listed.getD i false=true:=by
 obtain⟨_,oj,ho,qc⟩:=mem_ready.1 hj;obtain⟨oj',h1,e,h2,h3,h4⟩:=(JA (md:=md) ops).2 j i h
 have e1:oj'=oj:=by
  have:ops[j]?=some oj':=ai h1
  rw[ho]at this;cases this
  rfl
 subst e1;have h5:=qc e h2 h3;rcases h4 with rfl|⟨h6,h7⟩
 .exact h5
 .exact hd.dep e.on i h5 h7
def Down.step(hd:Down md ops listed)(hi:i∈Region.ready md ops listed):Down md ops (listed.setIfInBounds i true):=λj oj ho hj e he hb=>by
 by_cases hji:i=j
 .subst hji;obtain⟨_,oi,ho',qc⟩:=mem_ready.1 hi;rw[ho]at ho';cases ho'
  exact getD_set_true (qc e he hb)
 .rw[getD_set_ne false hji]at hj;exact getD_set_true (hd j oj ho hj e he hb)
def QA(P:Program)(ops:Array Oper)(Hs:Nat->zq)(r:Nat->Bool)(o:Oper)(c:C)(t:List C):Prop:=
 (jz ops t o=some true/\∀k,r k=true->e6 P o (ev t) (Hs k) c (Hs k))\/(jz ops t o=some false/\c=.un)
def EA(P:Program)(ops:Array Oper)(H H':zq)(o:Oper)(c:C)(t:List C):Prop:=
 (jz ops t o=some true/\e6 P o (ev t) H c H')\/(jz ops t o=some false/\c=.un/\H'=H)
def QA.put{r:Nat->Bool}{o:Oper}{c x:C}{t:List C}{dst:Option Tmp}(h:∀d,dst=some d->d∉o.looksAt ops):QA P ops Hs r o c (put t dst x)↔QA P ops Hs r o c t:=by
 unfold QA;rw[yY h];constructor
 .rintro(⟨h1,h2⟩|h1)
  .exact .inl ⟨h1,λk hk=>(e6.put h).1 (h2 k hk)⟩
  .exact .inr h1
 .rintro(⟨h1,h2⟩|h1)
  .exact .inl ⟨h1,λk hk=>(e6.put h).2 (h2 k hk)⟩
  .exact .inr h1
def EA.put{H H':zq}{o:Oper}{c x:C}{t:List C}{dst:Option Tmp}(h:∀d,dst=some d->d∉o.looksAt ops):EA P ops H H' o c (put t dst x)↔EA P ops H H' o c t:=by
 unfold EA;rw[yY h,e6.put h]
def Er(P:Program)(ops:Array Oper)(Hs:Nat->zq)(eff:Nat->Bool)(idx:Nat->Nat)(inR:Nat->Nat->Bool)(i:Nat)(o:Oper)(c:C)(n':Nat)(t:List C)(n:Nat):Prop:=
 (eff i=false/\inR i n=true/\QA P ops Hs (inR i) o c t/\n'=n)\/(eff i=true/\idx i=n/\EA P ops (Hs n) (Hs (n+1)) o c t/\n'=n+1)
def lF(P:Program)(ops:Array Oper)(Hs:Nat->zq)(eff:Nat->Bool)(idx:Nat->Nat)(inR:Nat->Nat->Bool)(i:Nat)(K:List C->Nat->Prop)(t:List C)(n:Nat):Prop:=
 match ops[i]? with
 |none=>K t n
 |some o=>∃c n',Er P ops Hs eff idx inR i o c n' t n/\K (put t o.dst c) n'
def S0{t:List C}{n:Nat}{K K':List C->Nat->Prop}(h:∀t n,K t n->K' t n)(hh:lF P ops Hs eff idx inR i K t n):lF P ops Hs eff idx inR i K' t n:=by
 unfold lF at *;split
 .exact h _ _ (by simpa [*] using hh)
 .rename_i o ho;simp only[ho]at hh;obtain⟨c,n',h1,h2⟩:=hh;exact⟨c,n',h1,h _ _ h2⟩
def oT(P:Program)(ops:Array Oper)(Hs:Nat->zq)(eff:Nat->Bool)(idx:Nat->Nat)(inR:Nat->Nat->Bool)(Q:List C->Nat->Prop):List Oper->Nat->List C->Nat->Prop
 |[],_,t,n=>Q t n
 |_::l,k,t,n=>lF P ops Hs eff idx inR k (oT P ops Hs eff idx inR Q l (k+1)) t n
def Da(P:Program)(md:Region.Mode)(ops:Array Oper)(Hs:Nat->zq)(eff:Nat->Bool)(idx:Nat->Nat)(inR:Nat->Nat->Bool)(Q:List C->Nat->Prop):Nat->Array Bool->List C->Nat->Prop
 |0,listed,t,n=>Region.ready md ops listed=[]/\Q t n
 |fuel+1,listed,t,n=>(Region.ready md ops listed=[]->Q t n)/\∀i∈Region.ready md ops listed,lF P ops Hs eff idx inR i (Da P md ops Hs eff idx inR Q fuel (listed.setIfInBounds i true)) t n
def ye{q:Option Nat}{m:Nat}{H0:zq}{Q:List C->Nat->Prop}{w0:World}{E0:Env}{Q':Exit->Act->World->Prop}(hQ:∀t n w E a,Q t n->xF B m w E ⟨t,Hs n⟩ a->jw B w0 E0 H0 w E (Hs n)->Q' .normal a w):
  ∀(fuel:Nat) (listed:Array Bool) (t:List C) (n:Nat) (w:World) (E:Env) (a:Act),xF B m w E ⟨t,Hs n⟩ a->jw B w0 E0 H0 w E (Hs n)->Da P md ops Hs eff idx inR Q fuel listed t n->wpAnyIn (fw q) 0 P md ops Q' fuel listed a w
 |0,_,t,n,w,E,a,hs,hg,h=>⟨h.1,hQ t n w E a h.2 hs hg⟩
 |fuel+1,listed,t,n,w,E,a,hs,hg,h=>⟨λh0=>hQ t n w E a (h.1 h0) hs hg,λi hi=>by
   have h1:=h.2 i hi;unfold lF at h1;unfold wpOpIn;split
   .rename_i ho;simp only[ho]at h1;exact ye hQ fuel _ t n w E a hs hg h1
   .rename_i o ho;simp only[ho]at h1;obtain⟨c,n',hf,hK⟩:=h1;rcases hf with⟨_,hin,⟨hw,hv⟩|⟨hw,rfl⟩,rfl⟩|⟨_,_,⟨hw,hv⟩|⟨hw,rfl,he⟩,rfl⟩
    .rw[gS (jH hs.tmps hw)];exact oc.Ec (s:=⟨t,Hs n'⟩) (hv _ hin) q m w E a _ Q' hs λw' E' a' h2 g2=>ye hQ fuel _ (put t o.dst c) n' w' E' a' h2 (hg.trans g2) hK
    .rw[gP aU];exact⟨λ_ _=>trivial,ye hQ fuel _ (put t o.dst .un) n' w E _ (hs.put .un o.dst) hg hK⟩
    .rw[gS (jH hs.tmps hw)];exact oc.Ec (s:=⟨t,Hs n⟩) hv q m w E a _ Q' hs λw' E' a' h2 g2=>ye hQ fuel _ (put t o.dst c) (n+1) w' E' a' h2 (hg.trans g2) hK
    .rw[gP aU];have hs':=hs.put .un o.dst;exact⟨λ_ _=>trivial,ye hQ fuel _ (put t o.dst .un) (n+1) w E _ (by rw[he];exact hs') (by rw[he];exact hg) hK⟩⟩
structure BS(md:Region.Mode)(ops:Array Oper)(eff:Nat->Bool)(idx:Nat->Nat)(inR:Nat->Nat->Bool)(i j:Nat):Prop where
 c1:eff i=false->eff j=true->nt md ops (my md ops) j i=false->inR i (idx j)=true->inR i (idx j+1)=true
 c2:eff i=true->eff j=false->nt md ops (my md ops) j i=false->inR j (idx i+1)=true->inR j (idx i)=true
def S1{oj:Oper}{c:C}{n ni:Nat}(hj:ops[j]?=some oj)(hap:oi.apart ops oj=true)(he:eff i=true->eff j=false)(hp:BS md ops eff idx inR i j)(hno:nt md ops (my md ops) j i=false){K:List C->Nat->Prop}{t:List C}
 (hf:Er P ops Hs eff idx inR i oi c ni t n)(h:lF P ops Hs eff idx inR j K (put t oi.dst c) ni):
  lF P ops Hs eff idx inR j (λt' n'=>∃n2,Er P ops Hs eff idx inR i oi c n2 t' n'/\K (put t' oi.dst c) n2) t n:=by
 obtain⟨h1,h2,h3⟩:=Oper.apart_spec hap;unfold lF at *;simp only[hj] at *;obtain⟨cj,nj,hfj,hK⟩:=h;rw[put_comm _ _ h2]at hK;rcases hf with⟨e1,e2,e3,rfl⟩|⟨e1,e2,e3,rfl⟩
 .rcases hfj with⟨f1,f2,f3,rfl⟩|⟨f1,f2,f3,rfl⟩
  .exact⟨cj,nj,.inl ⟨f1,f2,(QA.put h1).1 f3,rfl⟩,nj,.inl ⟨e1,e2,(QA.put h3).2 e3,rfl⟩,hK⟩
  .refine⟨cj,ni+1,.inr ⟨f1,f2,(EA.put h1).1 f3,rfl⟩,ni+1,.inl ⟨e1,?_,(QA.put h3).2 e3,rfl⟩,hK⟩;rw[<-f2];exact hp.c1 e1 f1 hno (by rw[f2];exact e2)
 .rcases hfj with⟨f1,f2,f3,rfl⟩|⟨f1,f2,f3,rfl⟩
  .refine⟨cj,n,.inl ⟨f1,?_,(QA.put h1).1 f3,rfl⟩,n+1,.inr ⟨e1,e2,(EA.put h3).2 e3,rfl⟩,hK⟩;rw[<-e2];exact hp.c2 e1 f1 hno (by rw[e2];exact f2)
  .rw[he e1]at f1;cases f1
def Qm{Q:List C->Nat->Prop}{c:C}(hi:ops[i]?=some oi):
  ∀(fuel:Nat) (listed:Array Bool) (t:List C) (n ni:Nat),Down md ops listed->
   (∀j oj,ops[j]?=some oj->j≠i->listed.getD j true=false->(∀e∈oj.after,Region.binds md e=true->e.on≠i)->oi.apart ops oj=true/\(eff i=true->eff j=false)/\BS md ops eff idx inR i j)->
   i∈Region.ready md ops listed->Er P ops Hs eff idx inR i oi c ni t n->
   Da P md ops Hs eff idx inR Q fuel (listed.setIfInBounds i true) (put t oi.dst c) ni->Da P md ops Hs eff idx inR Q (fuel+1) listed t n:=by
 intro fuel
 induction fuel with
 |zero=>
  intro listed t n ni _ _ hr hy H;refine⟨λh=>aV,λj hj=>?_⟩;by_cases hji:j=i
  .subst hji;unfold lF;simp only[hi];exact⟨c,ni,hy,H⟩
  .have:=ready_mono hj hji;rw[H.1]at this;cases this
 |succ fuel ih=>
  intro listed t n ni hdown hfree hr hy H;refine⟨λh=>aV,λj hj=>?_⟩;by_cases hji:j=i
  .subst hji;unfold lF;simp only[hi];exact⟨c,ni,hy,H⟩
  .have h1:=H.2 j (ready_mono hj hji);obtain⟨hjun,oj,hoj,qc⟩:=mem_ready.1 hj
   have hiun:listed.getD i false=false:=by
    have h0:=(mem_ready.1 hr).1;rcases sP i listed.size with h'|h'
    .simp[h']at h0|-;exact h0
    .simp[sI h']
   have hnot:∀e∈oj.after,Region.binds md e=true->e.on≠i:=λe he hb heq=>by
    have h1:=qc e he hb;rw[heq,hiun]at h1;cases h1
   have hno:nt md ops (my md ops) j i=false:=by
    cases hd:nt md ops (my md ops) j i with
    |false=>rfl
    |true=>have:=hdown.ready hj hd;rw[hiun]at this;cases this
   obtain⟨hap,hee,hp⟩:=hfree j oj hoj hji hjun hnot;have h2:=S1 hoj hap hee hp hno hy h1
   have hfree':∀k ok,ops[k]?=some ok->k≠i->(listed.setIfInBounds j true).getD k true=false->
     (∀e∈ok.after,Region.binds md e=true->e.on≠i)->oi.apart ops ok=true/\(eff i=true->eff k=false)/\BS md ops eff idx inR i k:=λk ok hk hki hun hno=>by
    refine hfree k ok hk hki ?_ hno;by_cases hjk:j=k
    .subst hjk;exact hjun
    .rw[getD_set_ne true hjk]at hun;exact hun
   refine S0 (λt' n' ⟨n2,h3,h4⟩=>ih (listed.setIfInBounds j true) t' n' n2 (hdown.step hj) hfree' (ready_mono hr (Ne.symm hji)) h3 ?_) h2;rw[ue _ _ hji];exact h4
def KF{Q:List C->Nat->Prop}(hE:Ay md ops eff=true)(hP:∀i j,BS md ops eff idx inR i j):∀(l:List Oper) (k:Nat) (listed:Array Bool) (t:List C) (n:Nat),Down md ops listed->(∀j,l[j]?=ops[k+j]?)->(∀j,j<k->listed.getD j true=true)->
  Region.lexFrom md ops l.length k listed=true->oT P ops Hs eff idx inR Q l k t n->Da P md ops Hs eff idx inR Q l.length listed t n
 |[],_,_,_,_,_,_,_,hB,h=>⟨by simpa [Region.lexFrom] using hB,h⟩
 |o::l,k,listed,t,n,hd,hl,hk,hB,h=>by
  have h0:ops[k]?=some o:=by simpa using (hl 0).symm
  simp only[rK,Region.lexFrom,gY]at hB;obtain⟨⟨hr,hf⟩,hB'⟩:=hB;have h':lF P ops Hs eff idx inR k (oT P ops Hs eff idx inR Q l (k+1)) t n:=h;unfold lF at h';simp only[h0]at h';obtain⟨c,n',hfst,hK⟩:=h';have hr':k∈Region.ready md ops listed:=ai hr
  refine Qm h0 l.length listed t n n' hd (λj oj hj hne hun hno=>⟨Region.free_spec h0 hf j oj hj hne hun hno,λhe=>?_,hP k j⟩) hr' hfst
   (KF hE hP l (k+1) _ _ _ (hd.step hr') (λj=>by have:=hl (j+1);simpa [sf,eu 1 j] using this) ?_ hB' hK)
  .refine Kk hE he ?_ hj hno;rcases rU j k with eP|heq|eP
   .rw[hk j eP]at hun;cases hun
   .exact absurd heq hne
   .exact eP
  .intro j hj;by_cases hjk:k=j
   .subst hjk;by_cases eP:k<listed.size
    .simp[eP]
    .simp[eP]
   .rw[getD_set_ne true hjk];exact hk j an
def Run.XK{id n':Nat}{t t':List C}(hm:P.follows .mixedOrders=true)(hB:Region.lexB .any ops=true)(hE:Ay .any ops eff=true)(hP:∀i j,BS .any ops eff idx inR i j)(hH:Hs 0=H)
 (h:oT P ops Hs eff idx inR (λt n=>t=t'/\n=n') ops.toList 0 t 0):Run P B (.region id ops true) ⟨t,H⟩ .normal ⟨t',Hs n'⟩:=λq m w E a Q _ hs hq=>by
 simp only[Region.lexB,gY]at hB;subst hH;refine wpIn_region_any hm (ye (Hs:=Hs) (eff:=eff) (idx:=idx) (inR:=inR) (H0:=Hs 0) (Q:=λt n=>t=t'/\n=n') (w0:=w) (E0:=E) (λt1 n1 w1 E1 a1 he h1 g1=>by obtain⟨rfl,rfl⟩:=he;exact hq _ _ w1 E1 a1 ⟨rfl,rfl⟩ h1 g1) _ _ t 0 _ E a hs.drew ((Grow.drew w E (Hs 0)).ix tA) ?_);have:=KF (Hs:=Hs) (eff:=eff) (idx:=idx) (inR:=inR) (Q:=λt n=>t=t'/\n=n') (P:=P) (md:=.any) hE hP ops.toList 0 (Array.replicate ops.size false) t 0 Down.start ah (λj hj=>absurd hj (pR j)) (ai hB.2) h;simpa using this
structure iJ where
 calls:Bool
 bl:List Nat
 keep:List Nat:=[]
 calm:List Nat:=[]
def nv:List Nat->Nat->Bool
 |[],_=>false
 |x::xs,k=>match Nat.beq x k with|true=>true|false=>nv xs k
def iJ.blind(T:iJ)(k:Nat):Bool:=nv T.bl k
def iJ.CJ(T:iJ)(k:Nat):Bool:=match T.calls with|true=>!nv T.calm k|false=>false
def wH(T:iJ)(ops:Array Oper)(i:Nat):Bool:=match ops[i]? with|some o=>CP (T.CJ i) o && !T.blind i|none=>false
def yp(T:iJ)(ops:Array Oper)(i:Nat):Nat:=((List.range i).filter (wH T ops)).length
def ly(T:iJ)(ops:Array Oper)(i k:Nat):Bool:=match ops[i]? with|some o=>(xw o || T.blind i) || k == yp T ops i|none=>true
def GH(md:Region.Mode)(T:iJ)(ops:Array Oper)(ms:List Nat):Bool:=
 Ay md ops (wH T ops) && (List.range ops.size).all λi=>(List.range ops.size).all λj=>
  (!(wH T ops j) || wH T ops i || ly T ops i (yp T ops j+1) || !(ly T ops i (yp T ops j)) || nt md ops ms j i) &&
  (!(wH T ops i) || wH T ops j || ly T ops j (yp T ops i) || !(ly T ops j (yp T ops i+1)) || nt md ops ms j i)
def BR(md:Region.Mode)(T:iJ)(ops:Array Oper):Bool:=GH md T ops (my md ops)
def RX{T:iJ}(h:BR md T ops=true)(i j:Nat):BS md ops (wH T ops) (yp T ops) (ly T ops) i j:=by
 simp only[BR,GH,gY,gV,rS]at h
 have he:∀i,wH T ops i=true->i<ops.size:=λi hi=>by
  unfold wH at hi;split at hi
  .rename_i o ho;exact(pn.1 ho).1
  .cases hi
 have hin:∀i k,¬i<ops.size->ly T ops i k=true:=λi k hi=>by
  unfold ly;rw[sI an]
 constructor
 .intro h1 h2 h3 h4;by_cases hi:i<ops.size
  .have:=(h.2 i hi j (he j h2)).1;simp only[h1,h2,h3,h4,uo,rV,uq]at this;exact dW
  .exact hin i _ hi
 .intro h1 h2 h3 h4;by_cases hj:j<ops.size
  .have:=(h.2 i (he i h1) j hj).2;simp only[h1,h2,h3,h4,uo,rV,uq]at this;exact dW
  .exact hin j _ hj
def CX(o:Oper):Bool:=match o.op with|.load ..=>true|_=>false
def JM{K:C->zq->Prop}(hb:CX o=true)(h:ng P H ρ o K):∃c,e6 P o ρ H c H/\K c H:=by
 unfold CX at hb;split at hb
 .rename_i t x ho;unfold ng at h;rw[ho]at h;dsimp only at h;obtain⟨c,h1,h2⟩:=Ds h;exact⟨c,.same <|.load t x ho h1,h2⟩
 .cases hb
def kq(keep:List Nat)(H H':zq):Prop:=∀id,nv keep id=true->H'[id]?=H[id]?
def kq.refl(keep:List Nat)(H:zq):kq keep H H:=λ_ _=>rfl
def kq.trans{keep:List Nat}{H H' H'':zq}(h:kq keep H H')(h':kq keep H' H''):kq keep H H'':=λid hi=>(h' id hi).trans (h id hi)
def C1(H H':zq)(k:Prop):List Nat->Prop
 |[]=>k
 |id::ids=>H'[id]?=H[id]?/\C1 H H' k ids
def Dv{H H':zq}{k:Prop}:∀{keep:List Nat},C1 H H' k keep->kq keep H H'/\k
 |[],h=>⟨λid hi=>by simp[nv]at hi,h⟩
 |x::xs,h=>by
  obtain⟨h1,h2⟩:=h;obtain⟨h3,h4⟩:=Dv h2;refine⟨λid hi=>?_,h4⟩;unfold nv at hi;split at hi
  .rename_i e;obtain rfl:=uw e;exact h1
  .exact h3 id hi
def TY{id:Nat}(h:H'[id]?=H[id]?)(hops:List fA):qd H' id hops=qd H id hops:=by unfold qd;rw[h]
def Rc{id:Nat}{k:Nat}(h:H'[id]?=H[id]?):wx P H' t (.ref id hops sz i k)=wx P H t (.ref id hops sz i k):=by
 unfold wx nH;simp only[TY h]
def D8(P:Program)(keep:List Nat)(H:zq)(ρ:Operand->C)(o:Oper)(K:C->zq->Prop):Prop:=
 match o.op with
 |.load t x=>match ρ x with
  |.jL cells=>CW P H t (.jL cells) λc=>K c H
  |.ref id hops sz i k=>bK (nv keep id) <|CW P H t (.ref id hops sz i k) λc=>K c H
  |_=>False
 |.call cl=>match cl.callee with
  |.value x=>match ρ x with
   |.fn f first caps=>bK (qt P f) <| ∃r,(∀H2,zb P f H2 (first++(cl.args.toList.map λx=>fH (ρ x))++caps) r H2)/\okB r λr=>K r H
   |_=>False
  |_=>False
 |.makeSlice t x y=>match ρ x,ρ y with
  |.v (.int _ n),.v (.int _ n')=>match P.underlying t with
   |some (.slice e)=>match P.info? e with
    |some i=>match wZ P e with
     |some cs=>bK (cs.all jM) <|n'=n/\0<=n/\(i.bytes:Int)*n<=281474976710656/\n<=9223372036854775807/\jf i.size λsz=>K (.eM 0 sz (List.replicate n.toNat cs)) H
     |none=>False
    |none=>False
   |_=>False
  |_,_=>False
 |_=>False
def IE{keep:List Nat}{K:C->zq->Prop}(h:D8 P keep H ρ o K):∃c,(∀H2,kq keep H H2->e6 P o ρ H2 c H2)/\K c H:=by
 unfold D8 at h;split at h
 .rename_i t x ho;split at h
  .rename_i cells hx;obtain⟨c,h1,h2⟩:=Ds h;refine⟨c,λH2 _=>.same <|.load t x ho ?_,h2⟩;rw[hx,<-h1]
   rfl
  .rename_i id hops sz i k hx;obtain⟨h0,h⟩:=qb h;obtain⟨c,h1,h2⟩:=Ds h;refine⟨c,λH2 hs=>.same <|.load t x ho ?_,h2⟩;rw[hx,<-h1];exact Rc (hs id h0)
  .exact df
 .rename_i cl ho;split at h
  .rename_i x hcl;split at h
   .rename_i f first caps hf;obtain⟨h1,r,h2,h3⟩:=qb h;exact⟨r,λH2 _=>.GV cl ho x hcl hf h1 (h2 H2),jc (k:=λc=>K c H) h3⟩
   .exact df
  .exact df
 .rename_i t x y ho;split at h
  .rename_i k n k' n' hx hy;split at h
   .rename_i e hu;split at h
    .rename_i i hi;split at h
     .rename_i cs hz;obtain⟨h1,rfl,h2,h3,h4,h5⟩:=qb h;exact⟨_,λH2 _=>.same <|.Re t x y ho hu hi hz h1 hx hy h2 h3 h4,qu (k:=λsz=>K (.eM 0 sz (List.replicate n'.toNat cs)) H) h5⟩
     .exact df
    .exact df
   .exact df
  .exact df
 .exact df
def HD(P:Program)(T:iJ)(ops:Array Oper)(o:Oper)(next:Nat->List C->zq->(List C->zq->Prop)->Prop)(k:Nat)(t:List C)(H:zq)(K:List C->zq->Prop):Prop:=
 match jz ops t o with
 |some true=>match T.blind k with
  |true=>D8 P T.keep H (ev t) o λc H'=>mf t o.dst c λt=>next (k+1) t H K
  |false=>match CP (T.CJ k) o with
   |true=>ng P H (ev t) o λc H'=>C1 H H' (mf t o.dst c λt=>next (k+1) t H' K) T.keep
   |false=>match xw o || CX o with
    |true=>ng P H (ev t) o λc H'=>mf t o.dst c λt=>next (k+1) t H' K
    |false=>ng P H (ev t) o λc H'=>H'=H/\mf t o.dst c λt=>next (k+1) t H K
 |some false=>mf t o.dst .un λt=>next (k+1) t H K
 |none=>False
def ma(P:Program)(T:iJ)(ops:Array Oper)(l:List Oper):Nat->List C->zq->(List C->zq->Prop)->Prop:=
 List.rec (motive:=λ_=>Nat->List C->zq->(List C->zq->Prop)->Prop) (λ_ t H K=>K t H) (λo _ next=>HD P T ops o next) l
theorem Th(T:iJ)(o:Oper)(l:List Oper)(k:Nat)(t:List C)(H:zq)(K:List C->zq->Prop):ma P T ops (o::l) k t H K=HD P T ops o (ma P T ops l) k t H K:=rfl
def Kh(T:iJ)(k:Nat):yp T ops (k+1)=yp T ops k+if wH T ops k then 1 else 0:=by
 unfold yp;rw[ua,List.filter_append,pW];cases h:wH T ops k <;> simp[h]
def FL{T:iJ}{D:zq}:∀{l:List Oper} {k:Nat} {t:List C} {H:zq} {K:List C->zq->Prop},(∀j,l[j]?=ops[k+j]?)->kq T.keep H D->ma P T ops l k t H K->
  ∃(L:List zq) (t':List C),K t' ((H::L).getLast ah)/\(∀X∈L,kq T.keep H X)/\∀past:List zq,past.length=yp T ops k->(∀X∈past,kq T.keep H X)->
   oT P ops (λi=>((past++H::L)[i]?).getD D) (wH T ops) (yp T ops) (ly T ops) (λt n=>t=t'/\n=yp T ops k+L.length) l k t (yp T ops k)
 |[],k,t,H,K,hl,hD,h=>⟨[],t,h,ah,λpast hp _=>⟨rfl,rfl⟩⟩
 |o::l,k,t,H,K,hl,hD,h=>by
  have h0:ops[k]?=some o:=by simpa using (hl 0).symm
  have hl':∀j,l[j]?=ops[k+1+j]?:=λj=>by have:=hl (j+1);simpa [sf,eu 1 j] using this
  have he:wH T ops k=(CP (T.CJ k) o && !T.blind k):=by unfold wH;rw[h0]
  have hin:∀m,ly T ops k m=((xw o || T.blind k) || m == yp T ops k):=λm=>by unfold ly;rw[h0]
  have all:∀(past L:List zq),(∀X∈past,kq T.keep H X)->(∀X∈L,kq T.keep H X)->∀m:Nat,kq T.keep H (((past++H::L)[m]?).getD D):=λpast L hp hL m=>by
   cases hx:(past++H::L)[m]? with
   |none=>exact hD
   |some X=>
    have:=gT hx;rcases pw.1 this with h1|h1
    .exact hp X h1
    .rcases sF.1 h1 with rfl|h1
     .exact .refl _ _
     .exact hL X h1
  have quiet:∀c,wH T ops k=false->(∀past L,past.length=yp T ops k->(∀X∈past,kq T.keep H X)->(∀X∈L,kq T.keep H X)->QA P ops (λi=>((past++H::L)[i]?).getD D) (ly T ops k) o c t)->ma P T ops l (k+1) (put t o.dst c) H K->
    ∃(L:List zq) (t':List C),K t' ((H::L).getLast ah)/\(∀X∈L,kq T.keep H X)/\∀past:List zq,past.length=yp T ops k->(∀X∈past,kq T.keep H X)->
     oT P ops (λi=>((past++H::L)[i]?).getD D) (wH T ops) (yp T ops) (ly T ops) (λt n=>t=t'/\n=yp T ops k+L.length) (o::l) k t (yp T ops k):=λc ht hq hK=>by
   obtain⟨L,t',h1,hL,h2⟩:=FL hl' hD hK;have hc:yp T ops (k+1)=yp T ops k:=by rw[Kh,ht];rfl
   rw[hc]at h2;refine⟨L,t',h1,hL,λpast hp hs=>?_⟩;unfold oT lF;rw[h0];exact⟨c,_,.inl ⟨ht,by rw[hin];simp,hq past L hp hs hL,rfl⟩,h2 past hp hs⟩
  have ox:∀c H',wH T ops k=true->EA P ops H H' o c t->kq T.keep H H'->ma P T ops l (k+1) (put t o.dst c) H' K->
    ∃(L:List zq) (t':List C),K t' ((H::L).getLast ah)/\(∀X∈L,kq T.keep H X)/\∀past:List zq,past.length=yp T ops k->(∀X∈past,kq T.keep H X)->
     oT P ops (λi=>((past++H::L)[i]?).getD D) (wH T ops) (yp T ops) (ly T ops) (λt n=>t=t'/\n=yp T ops k+L.length) (o::l) k t (yp T ops k):=λc H' ht hq hsm hK=>by
   have back:kq T.keep H' H:=λid hi=>(hsm id hi).symm
   obtain⟨L,t',h1,hL,h2⟩:=FL hl' (back.trans hD) hK;have hc:yp T ops (k+1)=yp T ops k+1:=by rw[Kh,ht];rfl
   rw[hc]at h2;refine⟨H'::L,t',ai h1,λX hX=>?_,λpast hp hs=>?_⟩
   .rcases sF.1 hX with rfl|hX
    .exact hsm
    .exact hsm.trans (hL X hX)
   have h3:=h2 (past++[H]) (by simp[hp]) (λX hX=>by
    rcases pw.1 hX with h|h
    .exact back.trans (hs X h)
    .rw[pX.1 h];exact back)
   unfold oT lF;rw[h0];refine⟨c,yp T ops k+1,.inr ⟨ht,rfl,?_,rfl⟩,?_⟩
   .have e1:((past++H::H'::L)[yp T ops k]?).getD D=H:=by rw[<-hp];simp
    have e2:((past++H::H'::L)[yp T ops k+1]?).getD D=H':=by rw[<-hp,pq an];simp
    dsimp only;rw[e1,e2];exact hq
   .simpa [rL,sf,eu 1] using h3
  have same:∀(past L:List zq),past.length=yp T ops k->((past++H::L)[yp T ops k]?).getD D=H:=λpast L hp=>by rw[<-hp];simp
  rw[Th]at h;unfold HD at h;split at h
  .rename_i hw;cases hbl:T.blind k with
   |true=>
    rw[hbl]at h;obtain⟨c,h1,h2⟩:=IE h;exact quiet c (by rw[he,hbl];simp) (λpast L _ hs hL=>.inl ⟨hw,λm _=>h1 _ (all past L hs hL m)⟩) (jD (k:=λt=>ma P T ops l (k+1) t H K) h2)
   |false=>
   rw[hbl]at h;simp only at h;have he2:wH T ops k=CP (T.CJ k) o:=by rw[he,hbl];simp
   cases ht:CP (T.CJ k) o with
   |true=>
    rw[ht]at h;obtain⟨c,H',h1,h2⟩:=Fx h;obtain⟨h3,h4⟩:=Dv h2;exact ox c H' (he2.trans ht) (.inl ⟨hw,h1⟩) h3 (jD (k:=λt=>ma P T ops l (k+1) t H' K) h4)
   |false=>
    rw[ht]at h;simp only at h;cases hb:xw o with
    |true=>
     rw[hb,eD]at h;obtain⟨c,h1,h2⟩:=IZ hb h;exact quiet c (he2.trans ht) (λpast L _ _ _=>.inl ⟨hw,λm _=>h1 _⟩) (jD (k:=λt=>ma P T ops l (k+1) t H K) h2)
    |false=>
     rw[hb,rV]at h
     have only:∀c,e6 P o (ev t) H c H->∀past L,past.length=yp T ops k->(∀X∈past,kq T.keep H X)->(∀X∈L,kq T.keep H X)->QA P ops (λi=>((past++H::L)[i]?).getD D) (ly T ops k) o c t:=λc h1 past L hp _ _=>.inl ⟨hw,λm hm=>by
      rw[hin,hb,hbl,rV,rV,pU]at hm;subst hm;dsimp only;rw[same past L hp];exact h1⟩
     cases hlo:CX o with
     |true=>
      rw[hlo]at h;obtain⟨c,h1,h2⟩:=JM hlo h;exact quiet c (he2.trans ht) (only c h1) (jD (k:=λt=>ma P T ops l (k+1) t H K) h2)
     |false=>
      rw[hlo]at h;obtain⟨c,H',h1,rfl,h2⟩:=Fx h;exact quiet c (he2.trans ht) (only c h1) (jD (k:=λt=>ma P T ops l (k+1) t _ K) h2)
  .rename_i hw;have hK:=jD (k:=λt=>ma P T ops l (k+1) t H K) h;cases ht:wH T ops k with
   |true=>exact ox .un H ht (.inr ⟨hw,rfl,rfl⟩) (.refl _ _) hK
   |false=>exact quiet .un ht (λpast L _ _ _=>.inr ⟨hw,rfl⟩) hK
  .exact df
def Run.XL{id:Nat}{T:iJ}{t:List C}{K:List C->zq->Prop}(hm:P.follows .mixedOrders=true)(hB:Region.lexB .any ops=true)(hT:BR .any T ops=true)(h:ma P T ops ops.toList 0 t H K):
  ∃s',Run P B (.region id ops true) ⟨t,H⟩ .normal s'/\K s'.tmps s'.H:=by
 obtain⟨L,t',h1,_,h2⟩:=FL (k:=0) (D:=H) ah (.refl _ _) h;have h3:=h2 [] V ah;have hE:Ay .any ops (wH T ops)=true:=by simp only[BR,GH,gY]at hT;exact hT.1
 have:=Run.XK (B:=B) (id:=id) (Hs:=λi=>((H::L)[i]?).getD H) (eff:=wH T ops) (idx:=yp T ops) (inR:=ly T ops) (n':=L.length) (t':=t') hm hB hE (λi j=>RX hT i j) V (by simpa [yp] using h3);refine⟨_,this,?_⟩
 have e:((H::L)[L.length]?).getD H=(H::L).getLast ah:=by
  rw[List.getLast_eq_getElem];simp
 dsimp only;rw[e];exact h1
end
def Bv:C->Bool
 |.agg cs=>cs.all jM
 |c=>jM c
def qQ(H:zq):Bool:=H.all λob=>match ob.kind with
 |1=>ob.rows.all λr=>r.all zG
 |4=>ob.fz == 0 || (match ob.rows with|[.rc _::t]=>t.all Bv|_=>false)
 |_=>true
def wQ{id:Nat}{r':List C}(hob:H[id]?=some ⟨1,ty,sz,[r],fz⟩)(hno:r.all zG=true)(hno':r'.all zG=true){id':Nat}{p:List fA}{x:Nat×List (List C)}
 (h:qd (H.set id ⟨1,ty,sz,[r'],fz⟩) id' p=some x):(id'≠id/\qd H id' p=some x)\/(id'=id/\p=[]/\x=(sz,[r'])/\qd H id []=some (sz,[r])):=by
 obtain⟨ob,ho,hk,hg⟩:=qU h;by_cases hi:id'=id
 .subst hi
  right
  rw[pd,gS V,gS (gN.1 hob).1]at ho;cases ho
  obtain⟨rfl,rfl⟩:=kW (λi k c hc=>by
   obtain⟨rfl,hc⟩:=yS.1 hc;exact gV.1 hno' c (gT hc)) hg
  exact⟨rfl,rfl,rfl,by unfold qd;rw[hob];simp[qS]⟩
 .left
  refine⟨hi,?_⟩;rw[pd,gP (Ne.symm hi)]at ho;unfold qd;rw[ho];simp only[hk,if_true];exact hg
def z8.CR(h:z8 w E H){id:Nat}{r':List C}(hob:H[id]?=some ⟨1,ty,sz,[r],fz⟩)(hlen:r'.length=r.length)(hno:r.all zG=true)(hno':r'.all zG=true)
 (hc:∀(k:Nat) c c' u,r[k]?=some c->r'[k]?=some c'->L E c u->w.cell? ⟨E.β id [],k,none⟩=some u->L E c' u):z8 w E (H.set id ⟨1,ty,sz,[r'],fz⟩) where
 n:=ai h.n
 fb id' ob p sz' rows' hob' hx:=by
  rcases wQ hob hno hno' hx with⟨h1,h2⟩|⟨rfl,rfl,h1,h2⟩
  .rw[pd,gP (Ne.symm h1)]at hob';exact h.fb id' ob p sz' rows' hob' h2
  .rw[pd,gS V,gS (gN.1 hob).1]at hob';cases hob'
   cases h1
   have hb:=h.fb _ _ _ _ _ hob h2;refine⟨hb.len,λq hq=>?_,?_⟩
   .rw[pX.1 hq,hlen];exact hb.row r (pX.2 V)
   .obtain⟨cur,e,h3,h4,h5⟩:=hb.fb;refine⟨cur,e,h3,h4,?_⟩;intro i k c' hc';obtain⟨rfl,hc'⟩:=yS.1 hc';have hk:k<r.length:=by rw[<-hlen];exact(gN.1 hc').1
    have hk':r[k]?=some r[k]:=by simp[hk]
    obtain⟨u,hu,ho⟩:=h5 0 k r[k] (yS.2 ⟨rfl,hk'⟩);refine⟨u,hu,?_⟩;rw[qN.loose (gV.1 hno _ (gT hk'))]at ho;rw[qN.loose (gV.1 hno' c' (gT hc'))];refine⟨?_,ho.2⟩;have h6:L E r[k] u:=ax
    have h7:L E c' u:=hc k _ _ u hk' hc' h6 (by
     unfold World.cell?;rw[h3];simpa using hu)
    simpa [Env.at] using h7
 inj i p j q x y hx hy he:=by
  have key:∀i p x,qd (H.set id ⟨1,ty,sz,[r'],fz⟩) i p=some x->∃x',qd H i p=some x':=λi p x hx=>by
   rcases wQ hob hno hno' hx with⟨h1,h2⟩|⟨rfl,rfl,h1,h2⟩
   .exact⟨x,h2⟩
   .exact⟨_,h2⟩
  obtain⟨x',hx'⟩:=key i p x hx;obtain⟨y',hy'⟩:=key j q y hy;exact h.inj i p j q x' y' hx' hy' he
 qn:=h.qn
 sep i p x o u hx hu:=by
  rcases wQ hob hno hno' hx with⟨h1,h2⟩|⟨rfl,rfl,h1,h2⟩
  .obtain⟨e1,ob,e2,e3⟩:=h.sep i p x o u h2 hu;exact⟨e1,ob,by rw[pd,gP (Ne.symm h1)];exact e2,e3⟩
  .obtain⟨e1,ob,e2,e3⟩:=h.sep _ [] _ o u h2 hu;rw[hob]at e2;cases e2
   exact⟨rfl,⟨1,ty,sz,[r'],fz⟩,by rw[pd,gS V,gS (gN.1 hob).1],e3⟩
 ty i ob ho hk:=by
  rw[pd]at ho;split at ho
  .split at ho
   .cases ho;cases hk
   .cases ho
  .exact h.ty i ob ho hk
 fz i ob ho:=by
  rw[pd]at ho;split at ho
  .split at ho
   .cases ho;have:=h.fz id _ hob;exact dW
   .cases ho
  .exact h.fz i ob ho
def jm.Hn{id:Nat}(hob:H[id]?=some ob)(h1:ob.kind≠4)(h2:ob'.kind≠4):jm H (H.set id ob'):=λi o h4=>by
 rw[pd];split
 .rename_i e;subst e;rw[gS (gN.1 hob).1,hob];constructor
  .intro e;cases e;exact absurd h4 h2
  .intro e;cases e;exact absurd h4 h1
 .exact Iff.rfl
def qv.CR{w:World}{E:Env}{H:zq}(h:qv w E H){id:Nat}{ty:TypeId}{sz fz:Nat}{r r':List C}(hob:H[id]?=some ⟨1,ty,sz,[r],fz⟩)(hlen:r'.length=r.length)(hno:r.all zG=true)(hno':r'.all zG=true)
 (hc:∀(k:Nat) c c' u,r[k]?=some c->r'[k]?=some c'->L E c u->w.cell? ⟨E.β id [],k,none⟩=some u->L E c' u):qv w E (H.set id ⟨1,ty,sz,[r'],fz⟩)/\Grow w E H w E (H.set id ⟨1,ty,sz,[r'],fz⟩):=by
 have hR:=h.base.CR hob hlen hno hno' hc
 have hG:qj w E H w E (H.set id ⟨1,ty,sz,[r'],fz⟩):=⟨Env.le.refl E,λ_ _ _=>V,rfl,rfl,rfl,pj _,λ_ _ _=>V,λ_ _ _ h=>.inl h,λb ⟨i,p,x,hx,he⟩=>by
  rcases wQ hob hno hno' hx with⟨h1,h2⟩|⟨rfl,rfl,h1,h2⟩
  .exact .inr ⟨i,p,x,h2,he⟩
  .exact .inr ⟨_,[],_,h2,he⟩⟩
 have hk:=jm.Hn (ob':=⟨1,ty,sz,[r'],fz⟩) hob (λe=>by cases e) (λe=>by cases e);exact⟨⟨hR,lX.step h hG hk⟩,hG.up h hk⟩
section
variable {B:Nat} {s:S}
def zk.var(id:Nat){r':List C}(hob:s.H[id]?=some ⟨1,ty,sz,[r],fz⟩)(hno:r.all zG=true)(hno':r'.all zG=true)(hw:iq r r'):zk B s ⟨s.tmps,s.H.set id ⟨1,ty,sz,[r'],fz⟩⟩:=λm w E a hs=>by
 have hlen:∀{a b:List C},iq a b->b.length=a.length:=by
  intro a b h
  induction h with
  |nil=>rfl
  |cons _ _ ih=>simp[ih]
 have hget:∀{a b:List C},iq a b->∀(k:Nat) c c',a[k]?=some c->b[k]?=some c'->WC c c':=by
  intro a b h
  induction h with
  |nil=>intro k c c' h;simp at h
  |cons h1 _ ih=>
   intro k c c' e1 e2;cases k with
   |zero=>simp at e1 e2;subst e1 e2;exact h1
   |succ k=>exact ih k c c' (ai e1) uX
 obtain⟨hR,g⟩:=hs.heap.CR hob (hlen hw) hno hno' λk c c' u e1 e2 hl _=>hget hw k c c' e1 e2 E u hl
 exact gp
def zk.qM(id k:Nat)(ty':TypeId)(sz':Nat){sz0:Nat}(hob:s.H[id]?=some ⟨1,ty,sz,[r],fz⟩)(hk:r[k]?=some (.eM 1 sz0 rows))(hz:rows=[]\/sz'=sz0)(hno:r.all zG=true)
 (hno':(r.set k (.gl s.H.length sz' rows)).all zG=true):
  zk B s ⟨s.tmps,s.H.set id ⟨1,ty,sz,[r.set k (.gl s.H.length sz' rows)],fz⟩++[⟨4,ty',sz',rows,0⟩]⟩:=λm w E a hs=>by
 have hgb:qd s.H id []=some (sz,[r]):=by unfold qd;rw[hob];simp[qS]
 have hb:=hs.heap.base.fb _ _ _ _ _ hob hgb;obtain⟨cur,e,h3,h4,h5⟩:=hb.fb;obtain⟨u,hu,ho⟩:=h5 0 k _ (yS.2 ⟨rfl,hk⟩);rw[qN.loose V]at ho;have hl:L E (.eM 1 sz0 rows) u:=ax
 obtain⟨E1,hh1,hl1,g1⟩:=hs.heap.Dx hl ty' hz;have eP:id<s.H.length:=(gN.1 hob).1;have hob1:(s.H++[⟨4,ty',sz',rows,0⟩])[id]?=some ⟨1,ty,sz,[r],fz⟩:=by rw[gW eP];exact hob
 have hβ:E1.β id []=E.β id []:=g1.le.β id [] (by rw[hs.heap.n];exact eP)
 have hcu:w.cell? ⟨E1.β id [],k,none⟩=some u:=by
  unfold World.cell?;rw[hβ,h3];simpa using hu
 obtain⟨hR,g2⟩:=hh1.CR hob1 (r':=r.set k (.gl s.H.length sz' rows)) ah hno hno' λj c c' v e1 e2 hl' hv=>by
  rw[pd]at e2;split at e2
  .rename_i e;subst e;rw[hcu]at hv;cases hv
   split at e2
   .cases e2;exact hl1
   .cases e2
  .rw[e1]at e2;cases e2
   exact hl'
 rw[uy _ _ eP]at hR g2;exact dJ
end
def FI(w:World)(o:Obj){k:Nat}(h:k<w.heap.size):(w.alloc o).heap[k]?=w.heap[k]?:=by
 show(w.heap.push o)[k]?=_;rw[Array.getElem?_push,gP an]
def Ta{g:Operand}{assign body:Code}{m:Nat}{t:List C}{a:Act}{Q:Exit->Act->World->Prop}
 (hs:xF B m w E ⟨t,H⟩ a)(hg:ev t g=.fn f [] caps)(hcb:qt P f=true)
 (hit:∀(l:Nat) (r:Loop),r.state=.ready->r.pending=none->r.params=ps->r.assign=assign->r.body=body->
   ∃(rr:C) (Hf:zq) (rf:Loop),zb P f (H++[fQ l r t]) (.v (.func (.yield l) #[] #[])::caps) rr Hf/\Hf[H.length]?=some (fQ l rf t)/\rf.state≠.busy/\rf.tmps=r.tmps/\B<=Hf.length/\
   ∀w' E' a',xF B m w' E' ⟨t,Hf.set H.length (fQ l {rf with state:=.exhausted} t)⟩ a'->jw B w E H w' E' (Hf.set H.length (fQ l {rf with state:=.exhausted} t))->
    match rf.pending with|none=>Q .normal a' w'|some c=>c.wpIn (fw none) 0 P Q a' w'):
  (Code.rangeFunc g ps assign body).wpIn (fw none) 0 P Q a w:=by
 have hm:=hs.defers.le;refine wpIn_rangeFunc ?_;intro fn _;obtain⟨r,hr⟩:∃r:Loop,r={state:=.ready,pending:=none,fn,tmps:=a.tmps,params:=ps,assign,body,defers:=w.heap.size}:=⟨_,rfl⟩;obtain⟨W1,hW1⟩:∃W1,W1=(w.alloc (.deferred (some []))).alloc (.loop r):=⟨_,rfl⟩
 have hL1:W1.heap[w.heap.size+1]?=some (.loop r):=by
  rw[hW1];have:=World.alloc_heap_new (w.alloc (.deferred (some []))) (.loop r);rwa [World.size_alloc]at this
 have hK1:W1.heap[w.heap.size]?=some (.deferred (some [])):=by
  rw[hW1];exact(FI _ _ ah).trans (World.alloc_heap_new w _)
 have hsame:∀k,k<w.heap.size->W1.heap[k]?=w.heap[k]?:=λk hk=>by
  rw[hW1];exact(FI _ _ ar).trans (FI _ _ hk)
 have hsz:W1.heap.size=w.heap.size+2:=by rw[hW1];simp
 have hv:=C7 hs.tmps g;rw[hg]at hv
 obtain⟨zs,hσ,hzs⟩:∃zs,a.eval g=.func (.func f) #[] zs/\LL E caps zs.toList:=by
  generalize a.eval g=u at *;cases hv with
  |fn f first caps ys zs h1 h2 h3 h4=>
   have:ys= #[]:=ai h1.symm
   subst this;exact⟨zs,rfl,ai h2,λi c y e1 e2=>h4 i c y e1 uX⟩
 obtain⟨E1,hR1,G1⟩:=hs.heap.Wn (w:=W1) (l:=w.heap.size+1) (r:=r) (t:=t) hsame (by rw[hW1];rfl) (by rw[hW1];rfl) (by rw[hW1];rfl) an hL1 an (by rw[hr];exact hs.tmps);obtain⟨rr,Hf,rf,hS,hHf,hbusy,htm,hB,hQ⟩:=hit (w.heap.size+1) r (by rw[hr]) (by rw[hr]) (by rw[hr]) (by rw[hr]) (by rw[hr])
 have eg:∀(args:Array Value),(callFunc f args).run P W1=.ok (.enter f args) W1:=by
  intro args;unfold qt at hcb;split at hcb
  rotate_left
  .cases hcb
  rename_i fn hfn;simp only[gY,pS]at hcb;have hname : fn.name ≠ "runtime.NumGoroutine" := by simpa using hcb.1
  have hbody:fn.body≠none:=bc
  simp[callFunc,hfn,hname,hbody]
 refine⟨w.heap.size+1,[AA w.heap.size],W1,{target:=.fn (.func f) zs,args:= #[.func (.yield (w.heap.size+1)) #[] #[]]},W1,f, #[.func (.yield (w.heap.size+1)) #[] #[]]++zs,W1,?_,?_,λ_ _=>trivial,?_,λh=>(by cases h),?_⟩
 .rw[hW1,hr];exact run_enterLoop_outer _ _ _ _ _
 .simp only[resolve,hσ];simp[go_sem]
 .simp[invoke,go_sem,eg]
 .refine(callsIn_wide (n:=0)).2 ((hS W1 E1 _ hR1 ?_).mono ?_)
  .have:=(LL.one (.v _ rfl:L E1 (.v (.func (.yield (w.heap.size+1)) #[] #[])) (.func (.yield (w.heap.size+1)) #[] #[]))).append (hzs.mono G1.le);simpa using this
  .rintro e w3 ⟨v,E3,rfl,hR3,_,G3⟩;obtain⟨⟨hL3,_⟩,ht3⟩:=hR3.eS.ic H.length _ (.loop rf) t hHf V ⟨rfl,rfl⟩;obtain⟨hR4,G4⟩:=hR3.DY (r':={rf with state:=.exhausted}) hHf V;have hend:=run_endLoop (P:=P) hL3 hbusy;have G:=(G1.trans G3).trans G4;have hn:B<=E.n:=by rw[hs.heap.n];exact hs.base
   have hD:(w3.putObj (w.heap.size+1) (.loop {rf with state:=.exhausted})).heap[w.heap.size]?=some (.deferred (some [])):=by
    rw[World.putObj_heap_other an];exact(G3.frame _ an (hR1.free hK1)).trans hK1
   have h4:xF B m (w3.putObj (w.heap.size+1) (.loop {rf with state:=.exhausted})) E3 ⟨t,Hf.set H.length (fQ (w.heap.size+1) {rf with state:=.exhausted} t)⟩ {a with defers:=[AA w.heap.size]++a.defers}:=by
    refine⟨hR4,hs.tmps.mono G.le,⟨⟨w.heap.size,rfl,hm,hD,?_⟩,hs.defers.grow hs.heap G⟩,ai hB⟩;intro hmem
    have key:∀{ds:List Deferred},Marks m w ds->AA w.heap.size∉ds:=by
     intro ds
     induction ds with
     |nil=>intro _ h;cases h
     |cons d ds ih=>
      rintro⟨⟨D,h1,_,h3,_⟩,ht⟩ h;rcases sF.1 h with h5|h5
      .rw[h1]at h5;have:w.heap.size=D:=by simpa [AA] using h5
       have:=(pn.1 h3).1;omega
      .exact ih ht h5
    exact key hs.defers hmem
   have:=hQ _ _ _ h4 (G.ix hn);refine⟨rf.pending,_,hend,?_⟩;exact dW
def MR:Option Code->Exit->Prop
 |none,.normal=>True
 |some .ret,.ret=>True
 |some (.exit i),.exit j=>i=j
 |_,_=>False
def qW.rangeFunc{P:Program}{g:Operand}{ps:Array Tmp}{assign body:Code}{B:Nat}{H:zq}{t:List C}{f:FuncId}{caps:List C}{R:Exit->S->Prop}(hg:ev t g=.fn f [] caps)(hcb:qt P f=true)
 (hit:∀(l:Nat) (r:Loop),r.state=.ready->r.pending=none->r.params=ps->r.assign=assign->r.body=body->
   ∃(rr:C) (Hf:zq) (rf:Loop) (ex:Exit) (s':S),zb P f (H++[fQ l r t]) (.v (.func (.yield l) #[] #[])::caps) rr Hf/\Hf[H.length]?=some (fQ l rf t)/\rf.state≠.busy/\rf.tmps=r.tmps/\B<=Hf.length/\MR rf.pending ex/\
    zk B ⟨t,Hf.set H.length (fQ l {rf with state:=.exhausted} t)⟩ s'/\R ex s'):qW P B (.rangeFunc g ps assign body) ⟨t,H⟩ R:=λq m w E a Q hr hs hq=>by
 obtain rfl:=hr V;refine Ta hs hg hcb λl r h1 h2 h3 h4 h5=>?_
 obtain⟨rr,Hf,rf,ex,s',a1,a2,a3,a4,a5,a6,a7,a8⟩:=hit l r h1 h2 h3 h4 h5;refine⟨rr,Hf,rf,a1,a2,a3,a4,a5,λw' E' a' hs' g'=>?_⟩;obtain⟨E2,hs2,g2⟩:=a7 m w' E' a' hs';have hq':=hq ex s' w' E2 a' a8 hs2 (g'.trans g2);generalize rf.pending=pe at a6
 match pe,ex,a6 with
 |none,.normal,_=>exact hq'
 |some .ret,.ret,_=>exact wpIn_ret hq'
 |some (.exit i),.exit j,h=>cases h;exact wpIn_exit hq'
def KU(o:Oper):Option TypeId:=match o.op with
 |.makeMap t r=>match r with
  |none=>some t
  |some _=>none
 |_=>none
def Wl(P:Program)(t:TypeId):Bool:=match P.underlying t with
 |some (.map _ e)=>match P.underlying e with
  |some (.int _)=>false
  |some .bool=>false
  |some .string=>false
  |_=>true
 |_=>false
noncomputable def hasC(H:zq):Bool:=List.rec (motive:=λ_=>Bool) false (λob _ next=>match ob with
 |⟨kind,_,sz,_,fz⟩=>match fz with
  |1=>match kind with
   |4=>match sz with
    |2=>true
    |_=>next
   |_=>next
  |_=>next) H
noncomputable def kept1(H:zq)(c:C):Bool:=match c with
 |.sl id _ _ _ _ _=>match H[id]? with
  |some ob=>match ob with
   |⟨kind,_,_,_,_⟩=>match kind with
    |1=>true
    |_=>false
  |none=>false
 |_=>false
noncomputable def heldC(c:C):Bool:=match c with
 |.sl _ _ _ _ _ _=>true
 |.agg cs=>List.rec (motive:=λ_=>Bool) false (λc _ ih=>match c with
  |.sl _ _ _ _ _ _=>true
  |_=>ih) cs
 |_=>false
noncomputable def heldO(ρ:Operand->C)(o:Oper):Bool:=match o.op with
 |.buildSlice _ _ parts=>List.rec (motive:=λ_=>Bool) false (λp _ ih=>match heldC (ρ p.2) with
  |true=>true
  |false=>ih) parts.toList
 |_=>false
noncomputable def j9(H:zq)(t:Nat):Bool:=match H[2]? with
 |some ob=>match ob with
  |⟨kind,ty,sz,_,_⟩=>match kind with
   |0=>match ty with
    |77=>match Nat.beq sz t with
     |true=>true
     |false=>(H.take 2).any λob=>Nat.beq ob.sz t
    |_=>false
   |_=>false
 |none=>false
noncomputable def mapRel(H:zq)(ρ:Operand->C)(o:Oper):Bool:=match o.op with
 |.range _ _=>true
 |.next _ _=>true
 |.entry _=>true
 |.insert _ _ _ _=>true
 |.mapUpdate _ _ _ _=>hasC H
 |.buildSlice t _ parts=>match parts.toList with
  |[]=>j9 H t
  |_::_=>heldO ρ o
 |.call cl=>match cl.callee with
  |.builtin b=>match b with
   |.delete=>true
   |.append=>match cl.args.toList with
    |x::ys=>match ρ x with
     |.gl _ _ _=>hasC H
     |.eM _ sz _=>match sz with
      |99=>true
      |_=>match ys with
       |y::_=>kept1 H (ρ y)
       |[]=>false
     |.sl id hops sz lo len full=>match kept1 H (.sl id hops sz lo len full) with
      |true=>true
      |false=>match ys with
       |y::_=>kept1 H (ρ y)
       |[]=>false
     |_=>false
    |[]=>false
   |_=>false
  |_=>false
 |_=>false
def XI(P:Program)(t:TypeId):Bool:=
 match P.underlying t with
 |some (.pointer _)=>true
 |some (.map _ _)=>true
 |some (.tuple es)=>match es.toList with
  |u::_=>match P.underlying u with
   |some (.pointer _)=>true
   |_=>false
  |[]=>false
 |_=>false
def MS(P:Program)(ρ:Operand->C)(o:Oper):Option (FuncId×List C):=
 match o.op with
 |.call cl=>match cl.callee with
  |.value x=>match ρ x with
   |.fn f first caps=>match qt P f with
    |true=>some (f,first++(cl.args.toList.map λx=>fH (ρ x))++caps)
    |false=>none
   |_=>none
  |_=>none
 |_=>none
def GY(P:Program)(ρ:Operand->C)(o:Oper):Option (FuncId×List C):=
 match XI P o.type with
 |true=>MS P ρ o
 |false=>none
def jy.call(h:GY P ρ o=some (f,args))(hs:qz P f H args R):jy P o ρ H R:=λw E σ hh hl _ K hk=>by
 unfold GY at h;split at h
 rotate_left
 .cases h
 unfold MS at h;split at h
 rotate_left
 .cases h
 rename_i cl ho;split at h
 rotate_left
 .cases h
 rename_i x hcl;split at h
 rotate_left
 .cases h
 rename_i f' first caps hf;split at h
 rotate_left
 .cases h
 rename_i hcb;cases h
 have hl:∀x∈o.op.operands,L E (Ab.fH (ρ x)) (σ x):=λx hx=>oP (hl x hx)
 have h0:=hl x bb;rw[hf]at h0;have h0:L E (.fn f first caps) (σ x):=h0
 obtain⟨ys,zs,hv,h1,h2,h3,h4⟩:∃ys zs,σ x=.func (.func f) ys zs/\first.length=ys.size/\caps.length=zs.size/\(∀(i:Nat) c y,first[i]?=some c->ys[i]?=some y->L E c y)/\(∀(i:Nat) c y,caps[i]?=some c->zs[i]?=some y->L E c y):=by
  generalize σ x=u at *;cases h0 with
  |fn f first caps ys zs h1 h2 h3 h4=>exact⟨ys,zs,rfl,h1,h2,h3,h4⟩
 unfold qt at hcb;split at hcb
 rotate_left
 .cases hcb
 rename_i fn hfn;simp only[gY,pS]at hcb;have hname : fn.name ≠ "runtime.NumGoroutine" := by simpa using hcb.1
 have hbody:fn.body≠none:=bc
 have hr:(execOp σ o).run P w=.ok (.enter f (ys++cl.args.map σ++zs)) w:=by
  unfold execOp;simp[ho,resolve,hcl,hv,Deferred.ofValue,invoke,callFunc,hfn,hname,hbody]
 rw[hr];refine(hs w E (ys++cl.args.map σ++zs) hh ?_).mono ?_
 .have e1:LL E first ys.toList:=⟨ai h1,λi c y e1 e2=>h3 i c y e1 uX⟩;have e2:LL E caps zs.toList:=⟨ai h2,λi c y e1 e2=>h4 i c y e1 uX⟩
  have e3:LL E (cl.args.toList.map λx=>Ab.fH (ρ x)) (cl.args.map σ).toList:=by
   refine⟨ah,?_⟩;intro i c y hc hy;rw[gM]at hc;rw[uu,gM]at hy;cases ha:cl.args.toList[i]? with
   |none=>rw[ha]at hc;cases hc
   |some a=>
    rw[ha]at hc hy;cases hc
    cases hy
    exact gF
  have:=(e1.append e3).append e2;simpa using this
 .rintro e w' ⟨c,H',v,E',hR,rfl,h5,h6,h7⟩;exact⟨v,rfl,hk c H' v w' E' hR h5 h6 h7⟩
def Hz(o:Oper):Option (BinOp×TypeId×Operand):=
 match o.op with
 |.binOp op t x y _=>match y with
  |.const v=>match v with
   |.nilFunc=>some (op,t,x)
   |_=>none
  |_=>none
 |_=>none
def Gw(x:C):Option Bool:=
 match x with
 |.fn ..=>some false
 |.v y=>match y with
  |.nilFunc=>some true
  |_=>none
 |_=>none
def Jd{x:C}(h:Gw x=some b):∀E u,L E x u->(b=true/\u=.nilFunc)\/(b=false/\∃f ys zs,u=.func f ys zs):=by
 intro E u hl;unfold Gw at h;split at h
 .cases h;cases hl;exact .inr ⟨rfl,_,_,_,rfl⟩
 .split at h
  .cases h;cases hl;exact .inl ⟨rfl,rfl⟩
  .cases h
 .cases h
def Ba(P:Program)(t:TypeId):Bool:=
 match P.underlying t with
 |some (.func ..)=>true
 |_=>false
def EM(P:Program)(H:zq)(op:BinOp)(t:TypeId)(x:C)(K:C->zq->Prop):Prop:=
 match Gw x with
 |some b=>match op with
  |.eql=>bK (Ba P t) <|K (.v (.bool b)) H
  |.neq=>bK (Ba P t) <|K (.v (.bool (!b))) H
  |_=>False
 |none=>False
def Pt(w:World)(d:Nat)(t:TypeId)(ht:Ba P t=true)(y:Value)(n:Bool)(hy:(n=true/\y=.nilFunc)\/(n=false/\∃f xs ys,y=.func f xs ys)):(Op.equalIn (d+1) t y .nilFunc).run P w=.ok n w:=by
 unfold Ba at ht;split at ht
 rotate_left
 .cases ht
 rename_i a b c hu;rcases hy with⟨rfl,rfl⟩|⟨rfl,f,xs,ys,rfl⟩ <;> simp[Op.equalIn,run_underlying hu]
def Sj(w:World)(t:TypeId)(ht:Ba P t=true)(y:Value)(n:Bool)(hy:(n=true/\y=.nilFunc)\/(n=false/\∃f xs ys,y=.func f xs ys)):(Op.equal t y .nilFunc).run P w=.ok n w:=Pt w 9999 t ht y n hy
def mi.Mw(op:BinOp)(t t':TypeId)(x:Operand)(ho:o.op=.binOp op t x (.const .nilFunc) t')(hop:op=.eql\/op=.neq)(ht:Ba P t=true)(b:Bool)
 (hx:∀E u,L E (ρ x) u->(b=true/\u=.nilFunc)\/(b=false/\∃f ys zs,u=.func f ys zs)):mi P o ρ H (.v (.bool (if op=.eql then b else !b))) H:=λw E σ hh hl hc K hk=>by
 have hv:=hx E _ (hl x uU);have he:=Sj w t ht _ _ hv
 have hr:(execOp σ o).run P w=.ok (.value (.bool (if op=.eql then b else !b))) w:=by
  unfold execOp;rcases hv with⟨rfl,hv⟩|⟨rfl,f,ys,zs,hv⟩ <;> rw[hv]at he <;> rcases hop with rfl|rfl <;> simp[ho,hv,hc,eqGuard,binOp,he]
 rw[hr];exact hk _ w E hh (.v _ V) (Grow.refl w E H)
def U8{K:C->zq->Prop}(ho:Hz o=some (op,t,x))(h:EM P H op t (ρ x) K):∃c,mi P o ρ H c H/\K c H:=by
 obtain⟨t',ho⟩:∃t',o.op=.binOp op t x (.const .nilFunc) t':=by
  unfold Hz at ho;split at ho
  .rename_i h1;split at ho
   .split at ho
    .cases ho;exact⟨_,h1⟩
    .cases ho
   .cases ho
  .cases ho
 unfold EM at h;split at h
 .rename_i b hb;split at h
  .exact⟨_,.Mw .eql t t' x ho (.inl V) (qb h).1 b (Jd hb),(qb h).2⟩
  .exact⟨_,.Mw .neq t t' x ho (.inr V) (qb h).1 b (Jd hb),(qb h).2⟩
  .exact df
 .exact df
def Dm(P:Program)(H:zq)(ρ:Operand->C)(o:Oper)(K:C->zq->Prop):Prop:=
 match G5 o with
 |some (op,ty,x)=>HC P H op ty (ρ x) K
 |none=>match GX o with
  |some (op,ty,x)=>Hh P H op ty (ρ x) K
  |none=>match Hz o with
  |some (op,ty,x)=>EM P H op ty (ρ x) K
  |none=>match GY P ρ o with
  |some (f,args)=>∃R,qz P f H args R/\∀r H',R r H'->K r H'
  |none=>match mapRel H ρ o with
   |true=>jy P o ρ H K
   |false=>match KU o with
    |some t=>match Wl P t with
     |true=>∀b:Nat,xg (H++[Bc b [] 0 []]) λH'=>K (.v (.map (some b))) H'
     |false=>∀b:Nat,xg (H++[fP b #[] 0]) λH'=>K (.v (.map (some b))) H'
    |none=>ng P H ρ o K
def FV{K:C->zq->Prop}(h:Dm P H ρ o K):jy P o ρ H K:=by
 unfold Dm at h;split at h
 .rename_i op ty x hn;exact Tw hn h
 .split at h
  .rename_i op ty x hn;obtain⟨c,h1,h2⟩:=Us hn h;exact h1.fM h2
  split at h
  .rename_i op ty x hn;obtain⟨c,h1,h2⟩:=U8 hn h;exact h1.fM h2
  .split at h
   .rename_i f args hn;obtain⟨R,h1,h2⟩:=h;exact jy.call hn (λw E vs hh hl=>(h1 w E vs hh hl).mono λe w' ⟨r,H',v,E',hR,h3⟩=>⟨r,H',v,E',h2 r H' hR,h3⟩)
   split at h
   .exact h
   split at h
   .rename_i t hm
    have ho:o.op=.makeMap t none:=by
     unfold KU at hm;split at hm
     .rename_i ho;split at hm
      .cases hm;exact ho
      .cases hm
     .cases hm
    split at h
    .exact .Vm t ho λb=>q7 (h b)
    .exact .makeMap t ho λb=>q7 (h b)
   .obtain⟨c,H',h1,h2⟩:=Fx h;exact h1.fM h2
def Dl(P:Program)(ops:Array Oper)(o:Oper)(next:List C->zq->(List C->zq->Prop)->Prop)(t:List C)(H:zq)(K:List C->zq->Prop):Prop:=
 match jz ops t o with
 |some true=>Dm P H (ev t) o λc H'=>mf t o.dst c λt=>next t H' K
 |some false=>mf t o.dst .un λt=>next t H K
 |none=>False
def mQ(P:Program)(ops:Array Oper)(l:List Oper):List C->zq->(List C->zq->Prop)->Prop:=
 List.rec (motive:=λ_=>List C->zq->(List C->zq->Prop)->Prop) (λt H K=>K t H) (λo _ next=>Dl P ops o next) l
theorem J3(P:Program)(ops:Array Oper)(o:Oper)(l:List Oper)(t:List C)(H:zq)(K:List C->zq->Prop):mQ P ops (o::l) t H K=Dl P ops o (mQ P ops l) t H K:=rfl
section
variable {P:Program} {B:Nat} {ops:Array Oper}
def FC:∀{l:List Oper} {t:List C} {H:zq} {K:List C->zq->Prop},mQ P ops l t H K->wg P B ops l ⟨t,H⟩ λs'=>K s'.tmps s'.H
 |[],t,H,K,h=>.nil h
 |o::l,t,H,K,h=>by
  rw[J3]at h;unfold Dl at h;split at h
  .rename_i hw;refine .run (s:=⟨t,H⟩) hw (.DV (s:=⟨t,H⟩) (FV h)) ?_;rintro s1 ⟨c,H',h1,rfl⟩;exact FC (jD (k:=λt=>mQ P ops l t H' K) h1)
  .rename_i hw;exact .pass (s:=⟨t,H⟩) hw (FC (jD (k:=λt=>mQ P ops l t H K) h))
  .exact df
abbrev WK:=List C->zq->(Exit->List C->zq->Prop)->Prop
def Xi(x y:WK):WK:=λt H K=>x t H λex t H=>match ex with
 |.normal=>y t H K
 |ex=>K ex t H
def W4(id:Nat)(c:WK):WK:=λt H K=>c t H λex t H=>match ex with
 |.exit id'=>if id'=id then K .normal t H else K (.exit id') t H
 |ex=>K ex t H
def GW(c:Operand)(x y:WK):WK:=λt H K=>match ev t c with
 |.v (.bool b)=>match b with
  |true=>x t H K
  |false=>y t H K
 |_=>False
noncomputable def readyB(all:List Bool)(ops:List Oper):List Bool->Nat->List Nat:=
 List.rec (motive:=λ_=>List Bool->Nat->List Nat) (λ_ _=>[]) (λo _ ih bs k=>match bs with
  |[]=>[]
  |b::bs=>match b with
   |true=>ih bs (k+1)
   |false=>match o.after.toList.all (λe=>!Region.binds .any e || all.getD e.on false) with
    |true=>k::ih bs (k+1)
    |false=>ih bs (k+1)) ops
noncomputable def bothK(f:Nat->Prop)(l:List Nat):Prop:=List.rec (motive:=λ_=>Prop) True (λi _ ih=>f i/\ih) l
structure iX where
 bl:List Nat:=[]
 keep:List Nat:=[]
 flat:Bool:=false
def XC(T:iX)(H0 H:zq):Prop:=kq T.keep H0 H/\(T.flat=true->qQ H=true)
noncomputable def pickE(bl:List Nat)(ops:Array Oper)(t:List C)(l:List Nat):Option Nat:=
 List.rec (motive:=λ_=>Option Nat) none (λi _ ih=>match ops[i]? with
  |some o=>match (xw o && !heldO (ev t) o) || nv bl i with
   |true=>some i
   |false=>match jz ops t o with
    |some b=>match b with
     |true=>ih
     |false=>some i
    |none=>ih
  |none=>ih) l
def GA(P:Program)(T:iX)(H:zq)(ρ:Operand->C)(o:Oper)(K:C->zq->Prop):Prop:=
 match o.op with
 |.call cl=>match cl.callee with
  |.value x=>match ρ x with
   |.fn f first caps=>bK (qt P f) <| ∃r,(∀H2,XC T H H2->zb P f H2 (first++(cl.args.toList.map λx=>fH (ρ x))++caps) r H2)/\okB r λr=>K r H
   |_=>False
  |_=>False
 |_=>D8 P T.keep H ρ o K
def ET(P:Program)(T:iX)(ops:Array Oper)(o:Oper)(k:Nat)(next:List C->zq->(List C->zq->Prop)->Prop)(t:List C)(H:zq)(K:List C->zq->Prop):Prop:=
 match jz ops t o with
 |some true=>match nv T.bl k with
  |true=>GA P T H (ev t) o λc H'=>mf t o.dst c λt=>next t H' K
  |false=>match xw o with
   |true=>ng P H (ev t) o λc H'=>mf t o.dst c λt=>next t H' K
   |false=>False
 |some false=>mf t o.dst .un λt=>next t H K
 |none=>False
def Ha(T:iX)(H H':zq)(k:Prop):Prop:=match T.flat with
 |true=>qQ H'=true/\C1 H H' k T.keep
 |false=>C1 H H' k T.keep
def mY(P:Program)(T:iX)(ops:Array Oper)(o:Oper)(next:List C->zq->(List C->zq->Prop)->Prop)(t:List C)(H:zq)(K:List C->zq->Prop):Prop:=
 match jz ops t o with
 |some true=>match CX o with
  |true=>ng P H (ev t) o λc H'=>mf t o.dst c λt=>next t H' K
  |false=>Dm P H (ev t) o λc H'=>Ha T H H' (mf t o.dst c λt=>next t H' K)
 |some false=>mf t o.dst .un λt=>next t H K
 |none=>False
noncomputable def bruteK(P:Program)(T:iX)(ops:Array Oper)(n:Nat):List Bool->List C->zq->(List C->zq->Prop)->Prop:=
 Nat.rec (motive:=λ_=>List Bool->List C->zq->(List C->zq->Prop)->Prop)
  (λlisted t H K=>match readyB listed ops.toList listed 0 with
   |[]=>K t H
   |_::_=>False)
  (λ_ ih listed t H K=>match readyB listed ops.toList listed 0 with
   |[]=>K t H
   |i::is=>match pickE T.bl ops t (i::is) with
    |some i=>match ops[i]? with
     |some o=>ET P T ops o i (λt H K=>ih (listed.set i true) t H K) t H K
     |none=>False
    |none=>bothK (λi=>match ops[i]? with
     |some o=>mY P T ops o (λt H K=>ih (listed.set i true) t H K) t H K
     |none=>False) (i::is)) n
def LJ(md:Region.Mode)(ops:Array Oper)(ms:List Nat):Bool:=
 (List.range ops.size).all λi=>(List.range ops.size).all λj=>Nat.beq j i || nt md ops ms i j || match ops[i]?,ops[j]? with
  |some oi,some oj=>(oj.after.any λe=>Region.binds md e && e.on == i) || oi.apart ops oj
  |_,_=>true
def Bq(md:Region.Mode)(ops:Array Oper):Bool:=LJ md ops (my md ops)
noncomputable def regionK(P:Program)(B:Nat)(ops:Array Oper)(draw:Bool):WK:=λt H K=>match draw with
 |false=>mQ P ops ops.toList t H λt H=>K .normal t H
 |true=>(∃T:iJ,(P.follows .mixedOrders && Region.lexB .any ops && BR .any T ops)=true/\ma P T ops ops.toList 0 t H λt H=>K .normal t H)\/
  ∃T:iX,(P.follows .mixedOrders && Bq .any ops)=true/\(T.flat=true->qQ H=true)/\∃R:List C->zq->Prop,bruteK P T ops ops.size (ops.toList.map λ_=>false) t H (λt1 H1=>∃t2 H2,zk B ⟨t1,H1⟩ ⟨t2,H2⟩/\R t2 H2)/\∀t2 H2,R t2 H2->K .normal t2 H2
def JB{all:List Bool}:∀{os:List Oper} {bs:List Bool} {k i:Nat},i∈readyB all os bs k↔∃j o,i=k+j/\os[j]?=some o/\bs[j]?=some false/\o.after.toList.all (λe=>!Region.binds .any e || all.getD e.on false)=true
 |[],bs,k,i=>by simp[readyB]
 |o::os,[],k,i=>by
  have e:readyB all (o::os) [] k=[]:=rfl;rw[e];simp
 |o::os,b::bs,k,i=>by
  have e:readyB all (o::os) (b::bs) k=match b with
   |true=>readyB all os bs (k+1)
   |false=>match o.after.toList.all (λe=>!Region.binds .any e || all.getD e.on false) with
    |true=>k::readyB all os bs (k+1)
    |false=>readyB all os bs (k+1):=rfl
  have ih:=JB (all:=all) (os:=os) (bs:=bs) (k:=k+1) (i:=i)
  have split:(∃j o',i=k+j/\(o::os)[j]?=some o'/\(b::bs)[j]?=some false/\o'.after.toList.all (λe=>!Region.binds .any e || all.getD e.on false)=true)↔
    (i=k/\b=false/\o.after.toList.all (λe=>!Region.binds .any e || all.getD e.on false)=true)\/i∈readyB all os bs (k+1):=by
   rw[ih];constructor
   .rintro⟨j,o',h1,h2,h3,h4⟩;cases j with
    |zero=>simp at h2 h3;subst h2;exact .inl ⟨an,h3,h4⟩
    |succ j=>exact .inr ⟨j,o',an,ai h2,ai h3,h4⟩
   .rintro(⟨h1,h2,h3⟩|⟨j,o',h1,h2,h3,h4⟩)
    .exact⟨0,o,an,rfl,bd,h3⟩
    .exact⟨j+1,o',an,ai h2,ai h3,h4⟩
  rw[split,e];cases b with
  |true=>simp
  |false=>
   dsimp only;split
   .rename_i h;rw[h];simp only[sF,and_true]
   .rename_i h;rw[h];simp only[sJ,and_false,false_or]
def CF(hl:listed.size=ops.size)(i:Nat):i∈Region.ready .any ops listed↔i∈readyB listed.toList ops.toList listed.toList 0:=by
 rw[JB];unfold Region.ready;rw[List.mem_filter,rS]
 have qc:∀o:Oper,o.after.toList.all (λe=>!Region.binds .any e || listed.toList.getD e.on false)=o.after.all (λe=>!Region.binds .any e || listed.getD e.on false):=λo=>by
  rw[<-sR]
  congr 1
  funext e
  rw[ec,pK,pY]
 constructor
 .rintro⟨h1,h2⟩;rw[gY]at h2;obtain⟨h2,h3⟩:=h2;obtain⟨o,ho⟩:∃o,ops[i]?=some o:=⟨ops[i],aG⟩;rw[ho]at h3;simp only[g9,rm]at h3;refine⟨i,o,an,by rw[pK];exact ho,?_,by rw[qc];exact h3⟩;rw[pK];rw[pY,rT an]at h2;simp only[rm]at h2;rw[rT an];simpa using h2
 .rintro⟨j,o,h1,h2,h3,h4⟩;obtain rfl:i=j:=by omega
  rw[pK]at h2 h3;have eP:=(pn.1 h2).1;refine⟨eP,?_⟩;rw[gY];rw[qc]at h4;refine⟨?_,by rw[h2];simpa using h4⟩;rw[pY,h3]
  rfl
def Kf{f:Nat->Prop}:∀{l:List Nat},bothK f l->∀i∈l,f i
 |[],_,i,hi=>by cases hi
 |j::l,h,i,hi=>by
  have h:f j/\bothK f l:=h;rcases sF.1 hi with rfl|hi
  .exact h.1
  .exact Kf h.2 i hi
def jy.XH{tmps:List C}{x:C}(h:∀d,dst=some d->d∉o.looksAt ops)(h':jy P o (ev (put tmps dst x)) H R):jy P o (ev tmps) H R:=
 λw E σ hh hl hc K hk=>h' w E σ hh (λy hy=>by rw[GD (FR h y hy)];exact hl y hy) hc K hk
def jy.G0{R':C->zq->Prop}(hR:∀c H',R c H'->R' c H')(h:jy P o ρ H R):jy P o ρ H R':=
 λw E σ hh hl hc K hk=>h w E σ hh hl hc K λc H' v w' E' h1=>hk c H' v w' E' (hR c H' h1)
def nO(P:Program)(ops:Array Oper)(X:zq->Prop)(i:Nat)(K:S->Prop)(s:S):Prop:=
 match ops[i]? with
 |none=>K s
 |some o=>(jz ops s.tmps o=some true/\jy P o (ev s.tmps) s.H λc H'=>X H'/\K ⟨put s.tmps o.dst c,H'⟩)\/(jz ops s.tmps o=some false/\K ⟨put s.tmps o.dst .un,s.H⟩)
def S2{K K':S->Prop}(hX:X s.H)(h:∀s,X s.H->K s->K' s)(hh:nO P ops X i K s):nO P ops X i K' s:=by
 unfold nO at *;split
 .exact h _ hX (by simpa [*] using hh)
 .rename_i o ho;simp only[ho]at hh;rcases hh with⟨h1,h2⟩|⟨h1,h2⟩
  .exact .inl ⟨h1,h2.G0 λc H' ⟨h3,h4⟩=>⟨h3,h _ h3 h4⟩⟩
  .exact .inr ⟨h1,h _ hX h2⟩
def AQ(P:Program)(md:Region.Mode)(ops:Array Oper)(X:zq->Prop)(Q:S->Prop):Nat->Array Bool->S->Prop
 |0,listed,s=>Region.ready md ops listed=[]/\Q s
 |fuel+1,listed,s=>(Region.ready md ops listed=[]->Q s)/\∀i∈Region.ready md ops listed,nO P ops X i (AQ P md ops X Q fuel (listed.setIfInBounds i true)) s
def ka{P:Program}{B:Nat}{ops:Array Oper}{md:Region.Mode}{X:zq->Prop}{q:Option Nat}{m:Nat}{H0:zq}{Q:S->Prop}{w0:World}{E0:Env}{Q':Exit->Act->World->Prop}(hQ:∀s w E a,Q s->xF B m w E s a->jw B w0 E0 H0 w E s.H->Q' .normal a w):
  ∀(fuel:Nat) (listed:Array Bool) (s:S) (w:World) (E:Env) (a:Act),xF B m w E s a->jw B w0 E0 H0 w E s.H->AQ P md ops X Q fuel listed s->wpAnyIn (fw q) 0 P md ops Q' fuel listed a w
 |0,_,s,w,E,a,hs,hg,h=>⟨h.1,hQ s w E a h.2 hs hg⟩
 |fuel+1,listed,s,w,E,a,hs,hg,h=>⟨λh0=>hQ s w E a (h.1 h0) hs hg,λi hi=>by
   have h1:=h.2 i hi;unfold nO at h1;unfold wpOpIn;split
   .rename_i ho;simp only[ho]at h1;exact ka hQ fuel _ s w E a hs hg h1
   .rename_i o ho;simp only[ho]at h1;rcases h1 with⟨hw,hv⟩|⟨hw,hK⟩
    .rw[gS (jH hs.tmps hw)];refine oc.DV (s:=s) hv q m w E a _ Q' hs λs' w' E' a' hR h2 g2=>?_
     obtain⟨c,H',⟨_,h3⟩,rfl⟩:=hR;exact ka hQ fuel _ _ w' E' a' h2 (hg.trans g2) h3
    .rw[gP aU];exact⟨λ_ _=>trivial,ka hQ fuel _ ⟨put s.tmps o.dst .un,s.H⟩ w E _ (hs.put .un o.dst) hg hK⟩⟩
def S3{oj:Oper}{c:C}(hj:ops[j]?=some oj)(hap:oi.apart ops oj=true){K:S->Prop}(hy:YA P ops X oi c s.tmps)
 (h:nO P ops X j K ⟨put s.tmps oi.dst c,s.H⟩):nO P ops X j (λs'=>YA P ops X oi c s'.tmps/\K ⟨put s'.tmps oi.dst c,s'.H⟩) s:=by
 obtain⟨h1,h2,h3⟩:=Oper.apart_spec hap;unfold nO at *;simp only[hj] at *;rcases h with⟨hw,hv⟩|⟨hw,hK⟩
 .refine .inl ⟨(yY h1) ▸ hw,(hv.G0 λc' H' ⟨h4,h5⟩=>⟨h4,(YA.put h3).2 hy,?_⟩).XH h1⟩;rw[put_comm _ _ h2]at h5;exact h5
 .refine .inr ⟨(yY h1) ▸ hw,(YA.put h3).2 hy,?_⟩;rw[put_comm _ _ h2]at hK;exact hK
def Qo{Q:S->Prop}{c:C}(hi:ops[i]?=some oi):
  ∀(fuel:Nat) (listed:Array Bool) (s:S),X s.H->
   (∀j oj,ops[j]?=some oj->j≠i->listed.getD j true=false->(∀e∈oj.after,Region.binds md e=true->e.on≠i)->oi.apart ops oj=true)->
   i∈Region.ready md ops listed->YA P ops X oi c s.tmps->
   AQ P md ops X Q fuel (listed.setIfInBounds i true) ⟨put s.tmps oi.dst c,s.H⟩->AQ P md ops X Q (fuel+1) listed s:=by
 have here:∀(s:S) (K:S->Prop),X s.H->YA P ops X oi c s.tmps->K ⟨put s.tmps oi.dst c,s.H⟩->nO P ops X i K s:=λs K hX hy hK=>by
  unfold nO;simp only[hi];rcases hy with⟨h1,h2⟩|⟨h1,rfl⟩
  .exact .inl ⟨h1,(h2 s.H hX).fM ⟨hX,hK⟩⟩
  .exact .inr ⟨h1,hK⟩
 intro fuel
 induction fuel with
 |zero=>
  intro listed s hX _ hr hy H;refine⟨λh=>aV,λj hj=>?_⟩;by_cases hji:j=i
  .subst hji;exact here s _ hX hy H
  .have:=ready_mono hj hji;rw[H.1]at this;cases this
 |succ fuel ih=>
  intro listed s hX hfree hr hy H;refine⟨λh=>aV,λj hj=>?_⟩;by_cases hji:j=i
  .subst hji;exact here s _ hX hy H
  .have h1:=H.2 j (ready_mono hj hji);obtain⟨hjun,oj,hoj,qc⟩:=mem_ready.1 hj
   have hnot:∀e∈oj.after,Region.binds md e=true->e.on≠i:=λe he hb heq=>by
    have h1:=qc e he hb;have h0:=(mem_ready.1 hr).1;rw[heq]at h1;rcases sP i listed.size with h'|h'
    .simp[h']at h0 h1;rw[h0]at h1;cases h1
    .simp[sI h']at h1
   have hap:=hfree j oj hoj hji hjun hnot;have h2:=S3 hoj hap hy h1
   have hfree':∀k ok,ops[k]?=some ok->k≠i->(listed.setIfInBounds j true).getD k true=false->
     (∀e∈ok.after,Region.binds md e=true->e.on≠i)->oi.apart ops ok=true:=λk ok hk hki hun hno=>by
    refine hfree k ok hk hki ?_ hno;by_cases hjk:j=k
    .subst hjk;exact hjun
    .rw[getD_set_ne true hjk]at hun;exact hun
   refine S2 hX (λs' hX' ⟨h3,h4⟩=>ih (listed.setIfInBounds j true) s' hX' hfree' (ready_mono hr (Ne.symm hji)) h3 ?_) h2;rw[ue _ _ hji];exact h4
def N7(h:Bq md ops=true){oj:Oper}(hi:ops[i]?=some oi)(hj:ops[j]?=some oj)(hne:j≠i)(hd:nt md ops (my md ops) i j=false)
 (hno:∀e∈oj.after,Region.binds md e=true->e.on≠i):oi.apart ops oj=true:=by
 simp only[Bq,LJ,gV,rS]at h;have h1:=h i (pn.1 hi).1 j (pn.1 hj).1
 have hb:Nat.beq j i=false:=by
  cases hb:Nat.beq j i with
  |false=>rfl
  |true=>exact absurd (uw hb) hne
 simp only[hb,hd,rV,hi,hj,rI]at h1;rcases h1 with h1|h1
 .obtain⟨e,hem,hb⟩:=Array.any_eq_true'.1 h1;simp only[gY,pU]at hb;exact absurd hb.2 (hno e hem hb.1)
 .exact h1
def XC.trans{T:iX}{H H' H'':zq}(h:XC T H H')(h':XC T H' H''):XC T H H'':=⟨h.1.trans h'.1,h'.2⟩
def XC.back{T:iX}{H'':zq}(h:XC T H H')(h':XC T H H''):XC T H' H'':=⟨λid hi=>(h'.1 id hi).trans (h.1 id hi).symm,h'.2⟩
def Qb{T:iX}{K:C->zq->Prop}(h:GA P T H ρ o K):∃c,(∀H2,XC T H H2->e6 P o ρ H2 c H2)/\K c H:=by
 unfold GA at h;split at h
 .rename_i cl ho;split at h
  .rename_i x hcl;split at h
   .rename_i f first caps hf;obtain⟨h1,r,h2,h3⟩:=qb h;exact⟨r,λH2 hx=>.GV cl ho x hcl hf h1 (h2 H2 hx),jc (k:=λc=>K c H) h3⟩
   .exact df
  .exact df
 .obtain⟨c,h1,h2⟩:=IE h;exact⟨c,λH2 hx=>h1 H2 hx.1,h2⟩
def Su{T:iX}{H0:zq}{k:Prop}(hX:XC T H0 H)(h:Ha T H H' k):XC T H0 H'/\k:=by
 unfold Ha at h;split at h
 .obtain⟨h1,h2⟩:=Dv h.2;exact⟨⟨hX.1.trans h1,λ_=>h.1⟩,h2⟩
 .rename_i hf;obtain⟨h1,h2⟩:=Dv h;exact⟨⟨hX.1.trans h1,λh=>by rw[hf]at h;cases h⟩,h2⟩
def Dy{bl:List Nat}{ops:Array Oper}{t:List C}:∀{l:List Nat} {i:Nat},pickE bl ops t l=some i->i∈l
 |[],i,h=>by cases h
 |j::l,i,h=>by
  have h:(match ops[j]? with
   |some o=>match (xw o && !heldO (ev t) o) || nv bl j with
    |true=>some j
    |false=>match jz ops t o with
     |some b=>match b with
      |true=>pickE bl ops t l
      |false=>some j
     |none=>pickE bl ops t l
   |none=>pickE bl ops t l)=some i:=h
  split at h
  .split at h
   .cases h;exact rM ..
   .split at h
    .split at h
     .exact rE _ (Dy h)
     .cases h;exact rM ..
    .exact rE _ (Dy h)
  .exact rE _ (Dy h)
def Fi{T:iX}{ops:Array Oper}{H0:zq}{K:List C->zq->Prop}(hap:Bq .any ops=true):
  ∀(fuel:Nat) (listed:Array Bool) (t:List C) (H:zq),Down .any ops listed->listed.size=ops.size->XC T H0 H->bruteK P T ops fuel listed.toList t H K->
   AQ P .any ops (XC T H0) (λs=>K s.tmps s.H) fuel listed ⟨t,H⟩
 |0,listed,t,H,hd,hl,hX,h=>by
  have h:match readyB listed.toList ops.toList listed.toList 0 with
   |[]=>K t H
   |_::_=>False:=h
  split at h
  .rename_i hr;refine⟨?_,h⟩;rw[u3];intro i hi;have:=(CF hl i).1 hi;rw[hr]at this;cases this
  .exact df
 |fuel+1,listed,t,H,hd,hl,hX,h=>by
  have h:match readyB listed.toList ops.toList listed.toList 0 with
   |[]=>K t H
   |i::is=>match pickE T.bl ops t (i::is) with
    |some i=>match ops[i]? with
     |some o=>ET P T ops o i (λt H K=>bruteK P T ops fuel (listed.toList.set i true) t H K) t H K
     |none=>False
    |none=>bothK (λi=>match ops[i]? with
     |some o=>mY P T ops o (λt H K=>bruteK P T ops fuel (listed.toList.set i true) t H K) t H K
     |none=>False) (i::is):=h
  split at h
  .rename_i hr
   have h0:Region.ready .any ops listed=[]:=by
    rw[u3];intro i hi;have:=(CF hl i).1 hi;rw[hr]at this;cases this
   exact⟨λ_=>h,λi hi=>by rw[h0]at hi;cases hi⟩
  .rename_i j js hr;have hset:∀i,(listed.setIfInBounds i true).toList=listed.toList.set i true:=λi=>by simp
   have hsz:∀i,(listed.setIfInBounds i true).size=ops.size:=λi=>by simpa using hl
   split at h
   .rename_i i hp;have hi:i∈Region.ready .any ops listed:=(CF hl i).2 (by rw[hr];exact Dy hp);split at h
    rotate_left
    .exact df
    rename_i o ho
    have go:∀c,YA P ops (XC T H0) o c t->bruteK P T ops fuel (listed.toList.set i true) (put t o.dst c) H K->AQ P .any ops (XC T H0) (λs=>K s.tmps s.H) (fuel+1) listed ⟨t,H⟩:=λc hy hb=>
     Qo ho fuel listed ⟨t,H⟩ hX (λj oj hj hne hun hno=>N7 hap ho hj hne (by
       cases hdp:nt .any ops (my .any ops) i j with
       |false=>rfl
       |true=>
        have h1:=hd.ready hi hdp;rcases sP j listed.size with h'|h'
        .simp[h']at h1 hun;rw[h1]at hun;cases hun
        .simp[sI h']at h1) hno) hi hy
      (Fi hap fuel _ _ _ (hd.step hi) (hsz i) hX (by rw[hset];exact hb))
    unfold ET at h;split at h
    .rename_i hw;split at h
     .obtain⟨c,h1,h2⟩:=Qb h;exact go c (.inl ⟨hw,λH2 h3=>h1 H2 (hX.back h3)⟩) (jD (k:=λt=>bruteK P T ops fuel (listed.toList.set i true) t H K) h2)
     .split at h
      .rename_i hb;obtain⟨c,h1,h2⟩:=IZ hb h;exact go c (.inl ⟨hw,λH2 _=>h1 H2⟩) (jD (k:=λt=>bruteK P T ops fuel (listed.toList.set i true) t H K) h2)
      .exact df
    .rename_i hw;exact go .un (.inr ⟨hw,rfl⟩) (jD (k:=λt=>bruteK P T ops fuel (listed.toList.set i true) t H K) h)
    .exact df
   .have hne:Region.ready .any ops listed≠[]:=λh0=>by
     have:j∈readyB listed.toList ops.toList listed.toList 0:=by rw[hr];exact rM ..
     have:=(CF hl j).2 this;rw[h0]at this;cases this
    refine⟨λh0=>absurd h0 hne,λi hi=>?_⟩;have hi2:=(CF hl i).1 hi;rw[hr]at hi2;have h1:=Kf h i hi2;split at h1
    rotate_left
    .exact h1.elim
    rename_i o ho;unfold nO;rw[ho];dsimp only
    have next:∀t' H',XC T H0 H'->bruteK P T ops fuel (listed.toList.set i true) t' H' K->AQ P .any ops (XC T H0) (λs=>K s.tmps s.H) fuel (listed.setIfInBounds i true) ⟨t',H'⟩:=λt' H' hX' hb=>
     Fi hap fuel _ _ _ (hd.step hi) (hsz i) hX' (by rw[hset];exact hb)
    unfold mY at h1;split at h1
    .rename_i hw;refine .inl ⟨hw,?_⟩;split at h1
     .rename_i hlo;obtain⟨c,h2,h3⟩:=JM hlo h1;exact h2.fM ⟨hX,next _ _ hX (jD (k:=λt=>bruteK P T ops fuel (listed.toList.set i true) t H K) h3)⟩
     .refine(FV h1).G0 λc H' h2=>?_
      obtain⟨h3,h4⟩:=Su hX h2;exact⟨h3,next _ _ h3 (jD (k:=λt=>bruteK P T ops fuel (listed.toList.set i true) t H' K) h4)⟩
    .rename_i hw;exact .inr ⟨hw,next _ _ hX (jD (k:=λt=>bruteK P T ops fuel (listed.toList.set i true) t H K) h1)⟩
    .exact h1.elim
def qW.WD{id:Nat}{t:List C}{R:Exit->S->Prop}{R':List C->zq->Prop}{T:iX}(hm:P.follows .mixedOrders=true)(hap:Bq .any ops=true)(hf:T.flat=true->qQ H=true)
 (h:bruteK P T ops ops.size (ops.toList.map λ_=>false) t H (λt1 H1=>∃t2 H2,zk B ⟨t1,H1⟩ ⟨t2,H2⟩/\R' t2 H2))(hR:∀t2 H2,R' t2 H2->R .normal ⟨t2,H2⟩):qW P B (.region id ops true) ⟨t,H⟩ R:=λq m w E a Q _ hs hq=>by
 refine wpIn_region_any hm (ka (X:=XC T H) (H0:=H) (Q:=λs=>∃t2 H2,zk B s ⟨t2,H2⟩/\R' t2 H2) (w0:=w) (E0:=E) (λs1 w1 E1 a1 he h1 g1=>?_) _ _ ⟨t,H⟩ _ E a hs.drew ((Grow.drew w E H).ix tA) ?_)
 .obtain⟨t2,H2,hw,hR2⟩:=he;obtain⟨E2,h2,g2⟩:=hw m w1 E1 a1 h1;exact hq _ _ w1 E2 a1 (hR t2 H2 hR2) h2 (g1.trans g2)
 .have e:(Array.replicate ops.size false).toList=ops.toList.map λ_=>false:=by
   rw[Array.toList_replicate,List.map_const'];simp
  refine Fi (K:=λt1 H1=>∃t2 H2,zk B ⟨t1,H1⟩ ⟨t2,H2⟩/\R' t2 H2) hap _ _ _ _ Down.start ah ⟨.refl _ _,hf⟩ ?_;rw[e];exact h
structure An(P:Program)(B:Nat)(c:Code)(t:List C)(H:zq)(K:Exit->List C->zq->Prop):Prop where
 out:zH P B c ⟨t,H⟩ λex s=>K ex s.tmps s.H
def XP(P:Program)(B:Nat)(c:Code):WK:=λt H K=>An P B c t H K
def GK(P:Program)(B:Nat)(g:Operand)(ps:Array Tmp)(assign body:Code):WK:=λt H K=>match ev t g with
 |.fn f first caps=>bK (qt P f && first.isEmpty) <| ∃H0,zk B ⟨t,H⟩ ⟨t,H0⟩/\∃ex t' H',(∀(l:Nat) (r:Loop),r.state=.ready->r.pending=none->r.params=ps->r.assign=assign->r.body=body->
   ∃(rr:C) (Hf:zq) (rf:Loop),zb P f (H0++[fQ l r t]) (.v (.func (.yield l) #[] #[])::caps) rr Hf/\Hf[H0.length]?=some (fQ l rf t)/\rf.state≠.busy/\rf.tmps=r.tmps/\B<=Hf.length/\MR rf.pending ex/\
    zk B ⟨t,Hf.set H0.length (fQ l {rf with state:=.exhausted} t)⟩ ⟨t',H'⟩)/\K ex t' H'
 |_=>False
structure wK(P:Program)(B:Nat)(c:Code)(l:Nat)(t:List C)(H:zq)(K:Exit->List C->zq->Prop):Prop where
 out:AM P B c (λex s=>K ex s.tmps s.H) l ⟨t,H⟩
def WO(P:Program)(B:Nat)(c:Code)(x:WK):WK:=λt H K=>x t H λex t H=>match ex with
 |.goto l=>wK P B c l t H K
 |ex=>K ex t H
def M4:WK:=λ_ _ _=>False
noncomputable def wpA(P:Program)(B:Nat)(c:Code):WK:=
 Code.rec (motive:=λ_=>WK) (λt H K=>K .normal t H) (λ_ ops draw=>regionK P B ops draw) (λ_ _ x y=>Xi x y) (λc _ _ x y=>GW c x y) (λid _ x=>W4 id x) (λc _=>XP P B c)
  (λg ps assign body _ _=>GK P B g ps assign body) (λid t H K=>K (.exit id) t H) (λc x=>WO P B c x) (λ_ t H K=>K .normal t H) (λl t H K=>K (.goto l) t H) (λt H K=>K .ret t H) (λ_=>M4) c
def jd:∀{c:Code} {t:List C} {H:zq} {K:Exit->List C->zq->Prop},wpA P B c t H K->qW P B c ⟨t,H⟩ λex s=>K ex s.tmps s.H:=by
 intro c
 induction c with
 |skip=>intro t H K h;exact .skip h
 |exit id=>intro t H K h;exact .exit id h
 |ret=>intro t H K h;exact .ret h
 |label l=>intro t H K h;exact .label l h
 |seq x y ihx ihy=>
  intro t H K h;refine .seq ((ihx (t:=t) (H:=H) (K:=λex t H=>match ex with|.normal=>wpA P B y t H K|ex=>K ex t H) h).mono λex s1 h1=>?_);cases ex with
  |normal=>exact ihy h1
  |_=>exact h1
 |block id c ih=>
  intro t H K h;refine .block ((ih (t:=t) (H:=H) (K:=λex t H=>match ex with|.exit id'=>if id'=id then K .normal t H else K (.exit id') t H|ex=>K ex t H) h).mono λex s1 h1=>?_);cases ex with
  |exit id'=>exact h1
  |_=>exact h1
 |scope c ih=>
  intro t H K h;refine .WN ((ih (t:=t) (H:=H) (K:=λex t H=>match ex with|.goto l=>wK P B c l t H K|ex=>K ex t H) h).mono λex s1 h1=>?_);cases ex with
  |goto l=>exact(show wK P B c l s1.tmps s1.H K from h1).out
  |_=>exact h1
 |goto l=>intro t H K h;exact .goto l h
 |cond c x y ihx ihy=>
  intro t H K h
  change GW c (wpA P B x) (wpA P B y) t H K at h
  unfold GW at h;split at h
  .rename_i b hb;cases b with
   |true=>exact .cond (s:=⟨t,H⟩) hb (ihx h)
   |false=>exact .cond (s:=⟨t,H⟩) hb (ihy h)
  .exact df
 |region id ops draw=>
  intro t H K h;cases draw with
  |false=>exact .region (FC (show mQ P ops ops.toList t H (λt H=>K .normal t H) from h))
  |true=>
   rcases(show(∃T:iJ,(P.follows .mixedOrders && Region.lexB .any ops && BR .any T ops)=true/\ma P T ops ops.toList 0 t H λt H=>K .normal t H)\/
    ∃T:iX,(P.follows .mixedOrders && Bq .any ops)=true/\(T.flat=true->qQ H=true)/\∃R:List C->zq->Prop,bruteK P T ops ops.size (ops.toList.map λ_=>false) t H (λt1 H1=>∃t2 H2,zk B ⟨t1,H1⟩ ⟨t2,H2⟩/\R t2 H2)/\∀t2 H2,R t2 H2->K .normal t2 H2 from h) with h|⟨T,hm,hf,R,h1,h2⟩
   rotate_left
   .rw[gY]at hm;exact qW.WD hm.1 hm.2 hf h1 h2
   obtain⟨T,h1,h2⟩:=h;simp only[gY]at h1;obtain⟨s',h3,h4⟩:=Run.XL (B:=B) (id:=id) h1.1.1 h1.1.2 h1.2 h2;exact qW.mono h3 λex s1 ⟨e1,e2⟩=>by subst e1 e2;exact h4
 |loop c ih=>intro t H K h;exact .loop (show An P B c t H K from h).out
 |rangeFunc g ps assign body=>
  intro t H K h
  change GK P B g ps assign body t H K at h
  unfold GK at h;split at h
  .rename_i f first caps hg;obtain⟨h1,H0,h0,ex,t',H',h2,h3⟩:=qb h;simp only[gY,ez]at h1;obtain⟨h1,rfl⟩:=h1;refine .pre h0 (.rangeFunc hg h1 λl r a1 a2 a3 a4 a5=>?_);obtain⟨rr,Hf,rf,b1,b2,b3,b4,b5,b6,b7⟩:=h2 l r a1 a2 a3 a4 a5;exact⟨rr,Hf,rf,ex,⟨t',H'⟩,b1,b2,b3,b4,b5,b6,b7,h3⟩
  .exact df
 |_=>intro t H K h;exact(show False from h).elim
def wK.go{rest:Code}{l:Nat}{t:List C}(hf:findLabel c l=some rest)
 (h:wpA P B rest t H λex t H=>match ex with|.goto l=>wK P B c l t H K|ex=>K ex t H):wK P B c l t H K:=by
 refine⟨.mk _ hf (jd h) (λe s h1 he=>?_) λl s h1=>(show wK P B c l s.tmps s.H K from h1).out⟩;cases e with
 |goto l=>exact absurd V (he l)
 |_=>exact h1
def jn.zZ{H1:zq}{id l:Nat}{r:Loop}{t:List C}{rv:Bool}{assign body:Code}(hob:H1[id]?=some (fQ l r t))(hst:r.state=.ready)(hpe:r.pending=none)(hps:r.params=ps)(ha:r.assign=assign)(hb:r.body=body)
 (hn:args.length=ps.size)(hna:xn assign=false)(hnb:xn body=false)
 (h:wpA P H1.length assign (AY t ps.toList args) H1 λe t1 H1'=>e=.normal/\H1'[id]?=some (fQ l r t)/\wpA P H1.length body t1 (H1'.set id (fQ l (busy r) t)) λe t2 H2=>
   ∃t3 H3,zk H1.length ⟨t2,H2⟩ ⟨t3,H3⟩/\LS id l r t rv H' e H3):
  jn P l H1 args (.v (.bool rv)) H':=by
 subst hps ha hb;refine jn.kz hob hst hpe hn hna hnb ((jd h).mono λe s1 ⟨h1,h2,h3⟩=>⟨h1,h2,(jd h3).mono λe s2 ⟨t3,H3,h4,h5⟩=>⟨⟨t3,H3⟩,h4,h5⟩⟩)
def zH.inv{t:List C}(I:Nat->List C->zq->Prop)(n:Nat)(h0:∃t0 H0,zk B ⟨t,H⟩ ⟨t0,H0⟩/\I n t0 H0)
 (step:∀n t H,I n t H->wpA P B c t H λe t1 H1=>(e=.normal/\∃m t2 H2,m<n/\zk B ⟨t1,H1⟩ ⟨t2,H2⟩/\I m t2 H2)\/(e≠.normal/\K e t1 H1)):
  An P B c t H K:=by
 obtain⟨t0,H0,hw,hI⟩:=h0;refine⟨.pre hw ?_⟩
 suffices key:∀n t H,I n t H->iU P B c (n+1) ⟨t,H⟩ λex s=>K ex s.tmps s.H from⟨n+1,key n t0 H0 hI⟩
 intro n
 induction n using Nat.strongRecOn with
 |_ n ih=>
  intro t H hI;refine .step ((jd (step n t H hI)).post λex s1 h1=>?_);rcases h1 with⟨rfl,m,t2,H2,hm,hw2,hI2⟩|⟨hne,hK⟩
  .exact⟨⟨t2,H2⟩,hw2,(iU.more an (ih m hm t2 H2 hI2):iU P B c n ⟨t2,H2⟩ _)⟩
  .refine⟨s1,.refl s1,?_⟩;cases ex with
   |normal=>exact absurd V hne
   |_=>exact hK
def zb.zZ{r:C}(hf:P.funcs[f]?=some fn)(hb:fn.body=some c)
 (h:wpA P H.length c (entry fn args) H λex t1 H1=>(ex=.ret\/ex=.normal)/\∃s2,zk H.length ⟨t1,H1⟩ s2/\s2.H=H'/\vP P fn s2=some r):zb P f H args r H':=
 qz.at (qz.kz hf hb ((jd h).mono λex s1 ⟨hex,s2,hw,h2,h3⟩=>⟨hex,s2,r,hw,h3,rfl,h2⟩))
def qz.zZ(hf:P.funcs[f]?=some fn)(hb:fn.body=some c)
 (h:wpA P H.length c (entry fn args) H λex t1 H1=>(ex=.ret\/ex=.normal)/\∃s2 r,zk H.length ⟨t1,H1⟩ s2/\vP P fn s2=some r/\R r s2.H):qz P f H args R:=
 qz.kz hf hb (jd h)
def zb.AF{r:C}(hf:P.funcs[f]?=some fn)(hb:fn.body=some c)
 (h:wpA P 0 c (entry fn args) [] λex t1 H1=>(ex=.ret\/ex=.normal)/\∃s2,zk 0 ⟨t1,H1⟩ s2/\vP P fn s2=some r)(hr:qE 0 9 r=true):zb P f [] args r []:=
 qz.close (R:=λc=>c=r) (qz.kz (H:=[]) (R:=λc _=>c=r) hf hb ((jd h).mono λex s1 ⟨hex,s2,hw,h2⟩=>⟨hex,s2,r,hw,h2,rfl⟩)) λc h=>⟨h,hr⟩
end
def jB{n:Int}(h0: -9223372036854775808<=n)(h1:n<=9223372036854775807):IntKind.i64.wrap n=n:=IntWalk.i64_in n ⟨h0,h1⟩
def zm{n:Nat}(h:n<9223372036854775807):IntKind.i64.wrap ((n:Int)+1)=((n+1:Nat):Int):=by rw[jB an an];rfl
section
variable {P:Program} {f:FuncId} {H H':zq}
def zb.pre{args':List C}{r:C}(h:zb P f H args' r H')(hw:iq args args'):zb P f H args r H':=λw E vs hh hl=>h w E vs hh (hw.LL hl)
def zb.post{r r':C}(h:zb P f H args r H')(hw:WC r r'):zb P f H args r' H':=λw E vs hh hl=>(h w E vs hh hl).mono λe w' ⟨v,E',h1,h2,h3,h4⟩=>⟨v,E',h1,h2,hw E' v h3,h4⟩
def toNat_cast(n:Nat):((n:Int)).toNat=n:=by simp
end
def Bi{vs:Array Value}{v:Value}{r:C}(H:zq)(hc:∀w,Calls P f vs w λe w'=>e=.returned v/\w'=w)(ha:∀E (us:Array Value),LL E args us.toList->us=vs)(hr:∀E,L E r v):zb P f H args r H:=λw E us hh hl=>by
 obtain rfl:=ha E us hl;refine(hc w).mono ?_;rintro e w' ⟨rfl,rfl⟩;exact⟨v,E,rfl,hh,hr E,Grow.refl _ _ _⟩
def Mu{a:Value}(E:Env)(us:Array Value)(h:LL E [.v a] us.toList):us= #[a]:=by
 obtain⟨l⟩:=us
 match l,h with
 |[],h=>have:=h.1;simp at this
 |[x],h=>
  obtain⟨h1,_⟩:=h.cons_inv;cases h1;rfl
 |_::_::_,h=>have:=h.1;simp at this
def Em{a b:Value}(E:Env)(us:Array Value)(h:LL E [.v a,.v b] us.toList):us= #[a,b]:=by
 obtain⟨l⟩:=us
 match l,h with
 |[],h=>have:=h.1;simp at this
 |[_],h=>have:=h.1;simp at this
 |[x,y],h=>
  obtain⟨h1,h2⟩:=h.cons_inv;obtain⟨h2,_⟩:=h2.cons_inv;cases h1;cases h2;rfl
 |_::_::_::_,h=>have:=h.1;simp at this
theorem kn{t:Nat}{y:α}(h:l[t]?=some y):l.set t y=l:=by
 apply rh
 intro i;rw[pd];split
 .rename_i e;subst e;obtain⟨h1,h2⟩:=gN.1 h;rw[gS h1,h]
 .rfl
section
variable {B:Nat} {s:S}
def z8.freeze(h:z8 w E H){id:Nat}(hob:H[id]?=some ob)(hk:ob.kind=2)(hno:∀i k c,cellAt ob.rows i k=some c->zG c=true):
  ∃E',E.le E'/\z8 w E' (H.modify id λob=>⟨ob.kind,ob.ty,ob.sz,ob.rows,ob.rows.length⟩)/\(∀b o u,E'.St b o=some u->E.St b o=some u\/b=E.β id [])/\E'.β=E.β/\E'.G=E.G/\
   ∀i k c,cellAt ob.rows i k=some c->∃u,E'.St (E.β id []) (i*ob.sz+k)=some u/\L E'.shut c u:=by
 have hgb:qd H id []=some (ob.sz,ob.rows):=by unfold qd;rw[hob];simp[hk,qS]
 have hB:=h.fb id ob [] _ _ hob hgb;obtain⟨cur,e,hg,hcs,hcell⟩:=hB.fb
 have key:∀o,o<ob.rows.length*ob.sz->∃u,cur[o]?=some u/\u.oneCell'=true/\w.cell? ⟨E.β id [],o,none⟩=some u:=by
  intro o ho;obtain⟨h1,h2,h3⟩:=wT ho;obtain⟨c,hc⟩:=kc hB.row h1 h2;obtain⟨u,hu,hok⟩:=hcell _ _ c hc;rw[qN.loose (hno _ _ c hc)]at hok;rw[h3]at hu;exact⟨u,hu,hok.2,by unfold World.cell?;rw[hg];simpa using hu⟩
 obtain⟨E',hE'⟩:∃E':Env,E'={E with St:=λb o=>if b=E.β id []/\o<ob.rows.length*ob.sz then cur[o]? else E.St b o}:=⟨_,rfl⟩
 have hle:E.le E':=by
  subst hE';refine⟨pj _,λ_ _ _=>V,λ_ _ _=>V,λb o u hu=>?_,λ_ _ _ _ hu=>hu⟩;show(if b=E.β id []/\o<ob.rows.length*ob.sz then cur[o]? else E.St b o)=some u;split
  .rename_i hc;obtain⟨rfl,ho⟩:=hc;obtain⟨u',h1,_,h2⟩:=key o ho;have:=(h.qn _ _ _ hu).1;rw[h2]at this;rw[h1,<-this]
  .exact hu
 have hSt:∀b o u,E'.St b o=some u->E.St b o=some u\/(b=E.β id []/\o<ob.rows.length*ob.sz/\cur[o]?=some u):=by
  subst hE';intro b o u hu
  change (if b=E.β id []/\o<ob.rows.length*ob.sz then cur[o]? else E.St b o)=some u at hu
  split at hu
  .rename_i hc;exact .inr ⟨hc.1,hc.2,hu⟩
  .exact .inl hu
 have hβ:E'.β=E.β:=by subst hE';rfl
 have hn:E'.n=E.n:=by subst hE';rfl
 have get:∀id' hops x,qd (H.modify id λob=>⟨ob.kind,ob.ty,ob.sz,ob.rows,ob.rows.length⟩) id' hops=some x->qd H id' hops=some x:=by
  intro id' hops x hx;obtain⟨ob',ho',hk',hg'⟩:=qU hx;rw[rF]at ho';cases hx':H[id']? with
  |none=>rw[hx']at ho';cases ho'
  |some ob0=>
   rw[hx']at ho';simp only[r8,g9,pG]at ho';unfold qd;rw[hx'];split at ho'
   .subst ho';simp only[hk',if_true];exact hg'
   .subst ho';simp only[hk',if_true];exact hg'
 have obs:∀(id':Nat) (ob':Ob),(H.modify id λob=>⟨ob.kind,ob.ty,ob.sz,ob.rows,ob.rows.length⟩)[id']?=some ob'->∃ob0,H[id']?=some ob0/\ob'.kind=ob0.kind/\ob'.ty=ob0.ty/\ob'.sz=ob0.sz/\ob'.rows=ob0.rows/\ob0.fz<=ob'.fz/\ob'.fz<=ob'.rows.length/\(id'=id->ob'.fz=ob0.rows.length):=by
  intro id' ob' ho';rw[rF]at ho';cases hx':H[id']? with
  |none=>rw[hx']at ho';cases ho'
  |some ob0=>
   rw[hx']at ho';simp only[r8,g9,pG]at ho';have:=h.fz id' ob0 hx';split at ho'
   .subst ho';exact⟨ob0,rfl,rfl,rfl,rfl,rfl,this,pj _,λ_=>V⟩
   .rename_i hne;subst ho';exact⟨ob0,rfl,rfl,rfl,rfl,rfl,pj _,this,λe=>absurd e.symm hne⟩
 refine⟨E',hle,⟨by rw[hn,h.n];simp,?_,?_,?_,?_,?_,?_⟩,λb o u hu=>(hSt b o u hu).imp_right (·.1),hβ,by subst hE';rfl,?_⟩
 .intro id' ob' hops sz rows hob' hx;obtain⟨ob0,h1,h2,_⟩:=obs id' ob' hob';have hx':=get _ _ _ hx;rw[h2];exact(h.fb id' ob0 hops sz rows h1 hx').step hle (by rw[h.n];exact AE hx') V
 .intro id1 p1 id2 p2 x y hx hy he;rw[hβ]at he;exact h.inj id1 p1 id2 p2 x y (get _ _ _ hx) (get _ _ _ hy) he
 .intro b o u hu;rcases hSt b o u hu with h1|⟨rfl,h2,h3⟩
  .exact h.qn b o u h1
  .obtain⟨u',h4,h5,h6⟩:=key o h2;rw[h3]at h4;cases h4
   exact⟨h6,h5⟩
 .intro id' hops x o u hx hu;have hx':=get _ _ _ hx;rw[hβ]at hu;obtain⟨ob1,ho1,_,_⟩:=qU hx;obtain⟨ob0,h1,h2,h3,h4,h5,h6,h7,h8⟩:=obs id' ob1 ho1;rcases hSt _ o u hu with h9|⟨h9,h10,_⟩
  .obtain⟨e1,ob2,e2,e3⟩:=h.sep id' hops x o u hx' h9;rw[h1]at e2;cases e2
   exact⟨e1,ob1,ho1,by rw[h4];exact pV e3 (pQ _ h6)⟩
  .obtain⟨rfl,rfl⟩:=h.inj id' hops id [] x _ hx' hgb h9;rw[hob]at h1;cases h1
   exact⟨rfl,ob1,ho1,by rw[h8 V,h4];exact h10⟩
 .intro id' ob' hob' hk';obtain⟨ob0,h1,h2,h3,_⟩:=obs id' ob' hob';obtain⟨cur',hc⟩:=h.ty id' ob0 h1 (by rw[<-h2];exact hk');exact⟨cur',by rw[hβ,h3];exact hc⟩
 .intro id' ob' hob';obtain⟨ob0,h1,h2,h3,h4,h5,h6,h7,h8⟩:=obs id' ob' hob';exact h7
 .intro i k c hc;obtain⟨u,hu,hok⟩:=hcell i k c hc;rw[qN.loose (hno _ _ c hc)]at hok;obtain⟨h1,h2⟩:=Cg hB.row hc
  have eP:i*ob.sz+k<ob.rows.length*ob.sz:=by
   have:(i+1)*ob.sz<=ob.rows.length*ob.sz:=pQ _ h1;rw[rp]at this;omega
  refine⟨u,?_,?_⟩
  .subst hE';show(if E.β id []=E.β id []/\i*ob.sz+k<ob.rows.length*ob.sz then cur[i*ob.sz+k]? else _)=some u;rw[gS ⟨rfl,eP⟩];exact hu
  .have h3:=hok.1;simp only[Env.at,hk,if_true]at h3;exact h3.mono hle.shut
def zk.freeze(t:Nat){id sz lo len:Nat}{full:Bool}{ob:Ob}(ht:s.tmps[t]?=some (.sl id [] sz lo len full))(hob:s.H[id]?=some ob)(hk:ob.kind=2)(hsz:ob.sz=sz)(hlen:lo+len<=ob.rows.length)
 (hno:∀r∈ob.rows,∀c∈r,zG c=true):
  zk B s ⟨s.tmps.set t (.eM (if full then 1 else 0) sz ((ob.rows.drop lo).take len)),s.H.modify id λob=>⟨ob.kind,ob.ty,ob.sz,ob.rows,ob.rows.length⟩⟩:=λm w E a hs=>by
 subst hsz
 have hno':∀i k c,cellAt ob.rows i k=some c->zG c=true:=λi k c hc=>by
  unfold cellAt at hc;cases hx:ob.rows[i]? with
  |none=>rw[hx]at hc;cases hc
  |some r=>rw[hx]at hc;exact hno r (gT hx) c (gT hc)
 obtain⟨E',hle,hR,hnew,hβ,hKG0,hcells⟩:=hs.heap.base.freeze hob hk hno';have hgb:qd s.H id []=some (ob.sz,ob.rows):=by unfold qd;rw[hob];simp[hk,qS]
 have hrow:=(hs.heap.base.fb id ob [] _ _ hob hgb).row;obtain⟨y,hy,hl⟩:=hs.tmps.get ht
 have hnl:L E' (.eM (if full then 1 else 0) ob.sz ((ob.rows.drop lo).take len)) y:=by
  generalize hc:C.sl id [] ob.sz lo len full=c at hl;cases hl with
  |sl id' hops' sz' lo' len' full' cap hn hlen' hf hf'=>
   cases hc
   have hrl:((ob.rows.drop lo).take len).length=len:=ar
   have hsub:∀i k,cellAt ((ob.rows.drop lo).take len) i k=if i<len then cellAt ob.rows (lo+i) k else none:=by
    intro i k;unfold cellAt;rw[pF];split
    .rw[rj]
    .rfl
   have ex:∀i r k c,((ob.rows.drop lo).take len)[i]?=some r->r[k]?=some c->∃u,E'.St (E.β id []) (lo*ob.sz+i*ob.sz+k)=some u/\L E'.shut c u:=by
    intro i r k c hr hc;have hcc:cellAt ((ob.rows.drop lo).take len) i k=some c:=by unfold cellAt;rw[hr];exact hc
    rw[hsub]at hcc;split at hcc
    .obtain⟨u,h1,h2⟩:=hcells _ _ c hcc;exact⟨u,by rw[<-rp];exact h1,h2⟩
    .cases hcc
   have:=L.eM (E:=E') (if full then 1 else 0) ob.sz ((ob.rows.drop lo).take len) (E.β id []) (lo*ob.sz) cap (λi k=>(E'.St (E.β id []) (lo*ob.sz+i*ob.sz+k)).getD undef) ?_ ?_ ?_ ?_ ?_
   .rw[hrl]at this;exact dW
   .cases full with
    |false=>exact .inl V
    |true=>exact .inr ⟨rfl,by rw[hrl];exact hf V⟩
   .rw[hrl];exact hlen'
   .exactλr hr=>hrow r (sO (gU hr))
   .intro i r k c hr hc;obtain⟨u,h1,h2⟩:=ex i r k c hr hc;rw[h1];rfl
   .intro i r k c hr hc;obtain⟨u,h1,h2⟩:=ex i r k c hr hc;rw[h1];exact h2
  |_=>cases hc
 have hG:qj w E s.H w E' (s.H.modify id λob=>⟨ob.kind,ob.ty,ob.sz,ob.rows,ob.rows.length⟩):=by
  have hKG:∀(id k:Nat),id<E.n->E'.G id k=E.G id k:=λ_ _ _=>by rw[hKG0]
  refine⟨hle,hKG,rfl,rfl,rfl,pj _,λ_ _ _=>V,λb o u hu=>?_,?_⟩
  .rcases hnew b o u hu with h1|h1
   .exact .inl h1
   .exact .inr (.inr ⟨id,[],_,hgb,h1.symm⟩)
  .rintro b ⟨id',p,x,hx,rfl⟩
   right
   refine⟨id',p,x,?_,by rw[hβ]⟩;obtain⟨ob',ho',hk',hg'⟩:=qU hx;rw[rF]at ho';cases hx':s.H[id']? with
   |none=>rw[hx']at ho';cases ho'
   |some ob0=>
    rw[hx']at ho';simp only[r8,g9,pG]at ho';unfold qd;rw[hx'];split at ho'
    .subst ho';simp only[hk',if_true];exact hg'
    .subst ho';simp only[hk',if_true];exact hg'
 have hk4:jm s.H (s.H.modify id λob=>⟨ob.kind,ob.ty,ob.sz,ob.rows,ob.rows.length⟩):=jm.modify _ _ _ λob' h'=>by
  rw[hob]at h';cases h'
  exact⟨by rw[hk];decide,by show ob.kind≠4;rw[hk];decide⟩
 refine⟨E',⟨⟨hR,lX.step hs.heap hG hk4⟩,?_,hs.defers,ai hs.base⟩,(hG.up hs.heap hk4).ix tA⟩;have:=(hs.tmps.mono hle).set hnl t;rw[kn hy]at this;exact dW
end
def posOf:List Nat->Nat->Nat->Option Nat
 |[],_,_=>none
 |x::xs,i,id=>if x == id then some i else posOf xs (i+1) id
def xR:∀{sel:List Nat} {k id i:Nat},posOf sel k id=some i->k<=i/\sel[i-k]?=some id
 |[],k,id,i,h=>by simp[posOf]at h
 |x::xs,k,id,i,h=>by
  unfold posOf at h;split at h
  .rename_i e;cases h
   exact⟨pj _,ai e⟩
  .obtain⟨h1,h2⟩:=xR h;refine⟨an,?_⟩;rw[show i-k=(i-(k+1))+1 from an];simpa using h2
def jK(sel:List Nat):Nat->C->C
 |0,_=>.za
 |k+1,c=>match c with
  |.ref id hops sz i j=>match posOf sel 0 id with
   |some id'=>.ref id' hops sz i j
   |none=>.za
  |.sl id hops sz lo len full=>match posOf sel 0 id with
   |some id'=>.sl id' hops sz lo len full
   |none=>.za
  |.mp id=>match posOf sel 0 id with
   |some id'=>.mp id'
   |none=>.za
  |.gl id sz rows=>match posOf sel 0 id with
   |some id'=>.gl id' sz rows
   |none=>.eM 0 sz rows
  |.fK t c=>.fK t (jK sel k c)
  |.rc r=>.rc r
  |.agg cs=>.agg (cs.map (jK sel k))
  |.eR cs=>.eR (cs.map (jK sel k))
  |.fn f first caps=>.fn f (first.map (jK sel k)) (caps.map (jK sel k))
  |.v x=>.v x
  |.eM o sz rows=>.eM o sz rows
  |.jL cells=>.jL cells
  |.un=>.un
  |.za=>.za
def Env.eZ(E:Env)(sel:List Nat):Env:={n:=sel.length,β:=λi hops=>E.β ((sel[i]?).getD 0) hops,κ:=λi hops=>E.κ ((sel[i]?).getD 0) hops,St:=E.St,G:=λi k=>E.G ((sel[i]?).getD 0) k}
def Env.DI(E:Env)(sel:List Nat):E.shut.le (E.eZ sel).shut:=⟨pj _,λid hops hi=>absurd hi (pR _),λid hops hi=>absurd hi (pR _),λb o u hu=>hu,λid _ _ hi=>absurd hi (pR _)⟩
def LL.eZ{E':Env}{f:C->C}(h:LL E cs ys)(hf:∀c y,L E c y->L E' (f c) y):LL E' (cs.map f) ys:=
 ⟨ai h.1,λi c y e1 e2=>by
  rw[gM]at e1;cases hx:cs[i]? with
  |none=>rw[hx]at e1;cases e1
  |some c0=>rw[hx]at e1;cases e1;exact hf c0 y (h.2 i c0 y hx e2)⟩
def L.eZ{E:Env}(sel:List Nat):∀(k:Nat) {c:C} {y:Value},L E c y->L (E.eZ sel) (jK sel k c) y:=by
 intro k
 induction k with
 |zero=>intro c y h;exact .za y
 |succ k ih=>
  intro c y h
  have pos:∀{id i},posOf sel 0 id=some i->i<sel.length/\(sel[i]?).getD 0=id:=λ{id i} e=>by
   obtain⟨_,h2⟩:=xR e;rw[r4]at h2;exact⟨(gN.1 h2).1,by rw[h2];rfl⟩
  cases h with
  |v x hx=>exact .v _ hx
  |eM o sz rows b off cap us ho hc hsz hst hL=>
   exact .eM o sz rows b off cap us ho hc hsz hst (λi r k c e1 e2=>(hL i r k c e1 e2).mono (E.DI sel))
  |xu o sz ho a=>exact .xu o sz ho a
  |jL cells b off us hst hL=>
   exact .jL cells b off us hst (λk c e1=>(hL k c e1).mono (E.DI sel))
  |ref id hops sz i j hn=>
   unfold jK;dsimp only;split
   .rename_i id' e;obtain⟨h1,h2⟩:=pos e;have:=L.ref (E:=E.eZ sel) id' hops sz i j h1;simp only[Env.eZ,h2]at this;exact dW
   .exact .za _
  |sl id hops sz lo len full cap hn hlen hf hf'=>
   unfold jK;dsimp only;split
   .rename_i id' e;obtain⟨h1,h2⟩:=pos e;have:=L.sl (E:=E.eZ sel) id' hops sz lo len full cap h1 hlen hf (by simp only[Env.eZ,h2];exact hf');simp only[Env.eZ,h2]at this;exact dW
   .exact .za _
  |mp id hn=>
   unfold jK;dsimp only;split
   .rename_i id' e;obtain⟨h1,h2⟩:=pos e;have:=L.mp (E:=E.eZ sel) id' h1;simp only[Env.eZ,h2]at this;exact dW
   .exact .za _
  |agg cs ys h1 h2 h3=>
   have:=LL.eZ (f:=jK sel k) (E':=E.eZ sel) (cs:=cs) (ys:=ys.toList) ⟨ai h1,λi c y e1 e2=>h2 i c y e1 uX⟩ (λc y hl=>ih hl);exact dX
  |eR cs ys h1 h2=>
   have:=LL.eZ (f:=jK sel k) (E':=E.eZ sel) (cs:=cs) (ys:=ys.toList) ⟨ai h1,λi c y e1 e2=>h2 i c y e1 uX⟩ (λc y hl=>ih hl);exact .eR _ ys (ai this.1) (λi c y e1 e2=>this.2 i c y e1 uX)
  |fn f first caps ys zs h1 h2 h3 h4=>
   have t1:=LL.eZ (f:=jK sel k) (E':=E.eZ sel) (cs:=first) (ys:=ys.toList) ⟨ai h1,λi c y e1 e2=>h3 i c y e1 uX⟩ (λc y hl=>ih hl);have t2:=LL.eZ (f:=jK sel k) (E':=E.eZ sel) (cs:=caps) (ys:=zs.toList) ⟨ai h2,λi c y e1 e2=>h4 i c y e1 uX⟩ (λc y hl=>ih hl);exact gm
  |un=>exact .un
  |za y=>exact .za y
  |gl id sz rows y hn hg hl=>
   unfold jK;dsimp only;split
   .rename_i id' e;obtain⟨h1,h2⟩:=pos e;exact .gl id' sz rows y h1 (by simp only[Env.eZ,h2];exact hg) (hl.mono (E.DI sel))
   .have h3:E.shut.le (E.eZ sel):=⟨pC _,λid hops hi=>absurd hi (pR _),λid hops hi=>absurd hi (pR _),λb o u hu=>hu,λid _ _ hi=>absurd hi (pR _)⟩;exact hl.mono h3
  |fK t c y hl=>exact .fK t _ y (ih hl)
def J2(sel:List Nat)(k:Nat){c:C}(h:zG c=true):zG (jK sel k c)=true:=by
 cases k with
 |zero=>rfl
 |succ k=>
  cases c with
  |eM o sz rows=>exact h
  |ref id hops sz i j=>unfold jK;dsimp only;split <;> rfl
  |sl id hops sz lo len full=>unfold jK;dsimp only;split <;> rfl
  |mp id=>unfold jK;dsimp only;split <;> rfl
  |gl id sz rows=>unfold jK;dsimp only;split <;> rfl
  |_=>rfl
def zJ(sel:List Nat)(ob:Ob):Ob:=
 match ob with
 |⟨kind,ty,sz,rows,fz⟩=>⟨kind,ty,sz,match kind with
  |2=>rows
  |4=>rows
  |_=>rows.map λr=>r.map (jK sel 9),fz⟩
def dead:Ob:=⟨0,0,0,[],0⟩
def xv(sel:List Nat)(H:zq):zq:=sel.map λid=>zJ sel ((H[id]?).getD dead)
def yk:List Nat->Bool
 |[]=>true
 |x::xs=>!(xs.any (· == x)) && yk xs
def kl:∀{l:List Nat},yk l=true->∀(i j x:Nat),l[i]?=some x->l[j]?=some x->i=j
 |[],_,i,j,x,h,_=>by simp at h
 |y::l,h,i,j,x,h1,h2=>by
  simp only[yk,gY,pS,pI]at h;cases i with
  |zero=>
   cases j with
   |zero=>rfl
   |succ j=>
    simp at h1 h2;subst h1;exact absurd ah (h.1 _ (gT h2))
  |succ i=>
   cases j with
   |zero=>
    simp at h1 h2;subst h2;exact absurd ah (h.1 _ (gT h1))
   |succ j=>
    simp at h1 h2;rw[kl h.2 i j x h1 h2]
def L.V0{c:C}(h:L E c y)(hc:Bv c=true):L E.shut c y:=by
 cases h with
 |agg cs ys h1 h2 h3=>
  refine .agg cs ys h1 (λi c y e1 e2=>(h2 i c y e1 e2).vW ?_) h3;exact gV.1 (show cs.all jM=true from hc) _ (gT e1)
 |v x hx=>exact(L.v (E:=E) _ hx).vW hc
 |eM o sz rows b off cap us ho h2 hsz hst hL=>exact(L.eM (E:=E) o sz rows b off cap us ho h2 hsz hst hL).vW hc
 |xu o sz ho a=>exact(L.xu (E:=E) o sz ho a).vW hc
 |jL cells b off us hst hL=>exact(L.jL (E:=E) cells b off us hst hL).vW hc
 |fn f first caps ys zs h1 h2 h3 h4=>exact(L.fn (E:=E) f first caps ys zs h1 h2 h3 h4).vW hc
 |_=>simp[Bv,jM,oK]at hc
def LL.closed{E':Env}{t:List C}(h:LL E t ys)(hc:t.all Bv=true)(hs:E.shut.le E'):LL E' t ys:=
 ⟨h.1,λi c y e1 e2=>((h.2 i c y e1 e2).V0 (gV.1 hc _ (gT e1))).mono hs⟩
section
variable {B:Nat}
def xC(h:(xv sel H)[i]?=some ob')(qc:sel.all (λid=>Nat.blt id H.length)=true):∃id ob,sel[i]?=some id/\H[id]?=some ob/\ob'=zJ sel ob:=by
 unfold xv at h;rw[gM]at h;cases hx:sel[i]? with
 |none=>rw[hx]at h;cases h
 |some id=>
  rw[hx]at h
  have eP:id<H.length:=by
   have:=gV.1 qc id (gT hx);simpa [Nat.blt_eq] using this
  have h2:H[id]?=some H[id]:=aB
  simp only[g9,pG,h2,rm]at h;exact⟨id,H[id],rfl,h2,h.symm⟩
def kU(qc:sel.all (λid=>Nat.blt id H.length)=true)(fI:qQ H=true)(h:qd (xv sel H) i hops=some (sz,rows)):
  ∃id ob rows0,sel[i]?=some id/\H[id]?=some ob/\qd H id hops=some (sz,rows0)/\((ob.kind=2/\rows=rows0)\/(ob.kind=1/\hops=[]/\rows=rows0.map (λr=>r.map (jK sel 9))/\∀r∈rows0,∀c∈r,zG c=true)):=by
 obtain⟨ob',ho',hk',hg'⟩:=qU h;obtain⟨id,ob,h1,h2,rfl⟩:=xC ho' qc;obtain⟨kind,ty,sz0,rows0,fz⟩:=ob;rcases hk' with hk|hk
 .have hk:kind=1:=hk;subst hk
  have hno:∀r∈rows0,∀c∈r,zG c=true:=by
   have:=gV.1 fI _ (gT h2);dsimp only at this;simpa [gV] using this
  have hg2:vH sz0 (rows0.map λr=>r.map (jK sel 9)) hops=some (sz,rows):=hg'
  obtain⟨rfl,e⟩:=kW (λi k c hc=>by
   unfold cellAt at hc;rw[gM]at hc;cases hx:rows0[i]? with
   |none=>rw[hx]at hc;cases hc
   |some r=>
    rw[hx]at hc;simp only[g9,pJ,gM]at hc;cases hy:r[k]? with
    |none=>rw[hy]at hc;cases hc
    |some c0=>
     rw[hy]at hc;cases hc
     exact J2 sel 9 (hno r (gT hx) c0 (gT hy))) hg2
  cases e
  exact⟨id,_,rows0,h1,h2,by unfold qd;rw[h2];simp[qS],.inr ⟨rfl,rfl,rfl,hno⟩⟩
 .have hk:kind=2:=hk;subst hk;exact⟨id,_,rows,h1,h2,bf,.inl ⟨rfl,rfl⟩⟩
def z8.eZ{w:World}{E:Env}{H:zq}(hh:z8 w E H)(sel:List Nat)(qc:sel.all (λid=>Nat.blt id H.length)=true)(fN:yk sel=true)(fI:qQ H=true):z8 w (E.eZ sel) (xv sel H) where
 n:=by simp[Env.eZ,xv]
 fb i ob' hops sz rows hob' hx:=by
  obtain⟨id,ob,rows0,h1,h2,h3,h4⟩:=kU qc fI hx;obtain⟨id2,ob2,e1,e2,rfl⟩:=xC hob' qc;rw[h1]at e1;cases e1
  rw[h2]at e2;cases e2
  have hb:=hh.fb id ob hops sz rows0 h2 h3;obtain⟨cur,e,hg,hcs,hcell⟩:=hb.fb;have hβ:∀hops,(E.eZ sel).β i hops=E.β id hops:=λhops=>by simp[Env.eZ,h1]
  have hκ:∀hops,(E.eZ sel).κ i hops=E.κ id hops:=λhops=>by simp[Env.eZ,h1]
  have hkind:(zJ sel ob).kind=ob.kind:=by obtain⟨kind,ty,sz,rows,fz⟩:=ob;rfl
  rw[hkind];rcases h4 with⟨hk,rfl⟩|⟨hk,rfl,rfl,hno⟩
  .refine⟨by rw[hκ];exact hb.len,hb.row,cur,e,by rw[hβ];exact hg,by rw[hκ];exact hcs,?_⟩;intro i' k c hc;obtain⟨u,hu,ho⟩:=hcell i' k c hc;refine⟨u,hu,?_⟩;unfold qN at ho|-;split at ho
   .rw[hβ,hκ];exact ho
   .refine⟨?_,ho.2⟩;have h5:=ho.1;simp only[Env.at,hk,if_true]at h5|-;exact h5.mono (E.DI sel)
  .refine⟨by rw[hκ];simpa using hb.len,?_,cur,e,by rw[hβ];exact hg,by rw[hκ];exact hcs,?_⟩
   .intro r hr;obtain⟨r0,h5,rfl⟩:=pO.1 hr;simpa using hb.row r0 h5
   .intro i' k c hc;unfold cellAt at hc;rw[gM]at hc;cases hx1:rows0[i']? with
    |none=>rw[hx1]at hc;cases hc
    |some r=>
     rw[hx1]at hc;simp only[g9,pJ,gM]at hc;cases hy:r[k]? with
     |none=>rw[hy]at hc;cases hc
     |some c0=>
      rw[hy]at hc;cases hc
      obtain⟨u,hu,ho⟩:=hcell i' k c0 (by unfold cellAt;rw[hx1];exact hy);have hn0:=hno r (gT hx1) c0 (gT hy);rw[qN.loose hn0]at ho;refine⟨u,hu,(qN.loose (J2 sel 9 hn0)).2 ⟨?_,ho.2⟩⟩;have h5:=ho.1;have hk2:¬ob.kind=2:=by rw[hk];decide
      simp only[Env.at,gP hk2]at h5|-;exact h5.eZ sel 9
 inj i hops i' hops' x y hx hy he:=by
  obtain⟨id,ob,rows0,h1,h2,h3,_⟩:=kU qc fI (sz:=x.1) (rows:=x.2) (ai hx);obtain⟨id',ob',rows0',h1',h2',h3',_⟩:=kU qc fI (sz:=y.1) (rows:=y.2) (ai hy);simp only[Env.eZ,h1,h1',rm]at he;obtain⟨rfl,rfl⟩:=hh.inj id hops id' hops' _ _ h3 h3' he;exact⟨kl fN _ _ _ h1 h1',rfl⟩
 qn:=hh.qn
 sep i hops x o u hx hu:=by
  obtain⟨id,ob,rows0,h1,h2,h3,_⟩:=kU qc fI (sz:=x.1) (rows:=x.2) (ai hx);simp only[Env.eZ,h1,rm]at hu;obtain⟨e1,ob2,e2,e3⟩:=hh.sep id hops _ o u h3 hu;rw[h2]at e2;cases e2
  refine⟨e1,zJ sel ob,?_,?_⟩
  .unfold xv;rw[gM,h1];simp[h2]
  .obtain⟨kind,ty,sz,rows,fz⟩:=ob;exact e3
 ty i ob' hob' hk:=by
  obtain⟨id,ob,h1,h2,rfl⟩:=xC hob' qc;obtain⟨kind,ty,sz,rows,fz⟩:=ob;obtain⟨cur,hc⟩:=hh.ty id _ h2 hk;exact⟨cur,by simp only[Env.eZ,h1,rm];exact hc⟩
 fz i ob' hob':=by
  obtain⟨id,ob,h1,h2,rfl⟩:=xC hob' qc;obtain⟨kind,ty,sz,rows,fz⟩:=ob;have:=hh.fz id _ h2;dsimp only[zJ]at this|-;split
  .exact dW
  .exact dW
  .simpa using this
def BN:Nat->Nat->List Nat->Bool
 |0,_,_=>true
 |n+1,k,x::xs=>x == k && BN n (k+1) xs
 |_+1,_,[]=>false
def Jz:∀{n k:Nat} {l:List Nat},BN n k l=true->n<=l.length/\∀i,i<n->l[i]?=some (k+i)
 |0,k,l,h=>⟨pC _,λi hi=>absurd hi (pR _)⟩
 |n+1,k,x::xs,h=>by
  simp only[BN,gY,pU]at h;obtain⟨h1,h2⟩:=Jz h.2;refine⟨ai h1,λi hi=>?_⟩;cases i with
  |zero=>simp[h.1]
  |succ i=>simp[h2 i an];omega
 |n+1,k,[],h=>by simp[BN]at h
def vO(sel:List Nat)(ob:Ob):(zJ sel ob).kind=ob.kind/\(zJ sel ob).ty=ob.ty/\(zJ sel ob).sz=ob.sz/\(zJ sel ob).rows.length=ob.rows.length:=by
 obtain⟨kind,ty,sz,rows,fz⟩:=ob;refine⟨rfl,rfl,rfl,?_⟩;unfold zJ;dsimp only;split <;> simp
def qD.eZ{E:Env}{H:zq}{sel:List Nat}(qc:sel.all (λid=>Nat.blt id H.length)=true){i b:Nat}(h:qD (E.eZ sel) (xv sel H) i b):∃id,sel[i]?=some id/\qD E H id b:=by
 obtain⟨ob',cap,h1,h2,h3,h4⟩:=h;obtain⟨id,ob,e1,e2,rfl⟩:=xC h1 qc;obtain⟨l1,l2,l3,l4⟩:=vO sel ob;rw[l4]at h3 h4;simp only[Env.eZ,e1,rm]at h3;exact⟨id,e1,ob,cap,e2,bh,h3,h4⟩
def Gt(h:ob.kind=4):zJ sel ob=ob:=by
 obtain⟨kind,ty,sz,rows,fz⟩:=ob;cases h
 rfl
def ju.eZ(qc:sel.all (λid=>Nat.blt id H.length)=true){b:Nat}(h:ju (xv sel H) i b):∃id,sel[i]?=some id/\ju H id b:=by
 obtain⟨ob',r,t,h1,h2,h3,h4⟩:=h;obtain⟨id,ob,e1,e2,rfl⟩:=xC h1 qc;have hk4:ob.kind=4:=by rw[<-(vO sel ob).1];exact h2
 rw[Gt hk4]at h3 h4;exact⟨id,e1,ob,r,t,e2,hk4,h3,h4⟩
def qY.eZ{E:Env}{H:zq}{sel:List Nat}(qc:sel.all (λid=>Nat.blt id H.length)=true)(fI:qQ H=true){b:Nat}(h:qY (E.eZ sel) (xv sel H) b):qY E H b:=by
 obtain⟨i,hops,⟨sz,rows⟩,hx,rfl⟩:=h;obtain⟨id,ob,rows0,h3,h4,h5,_⟩:=kU qc fI hx;exact⟨id,hops,_,h5,by simp[Env.eZ,h3]⟩
def qv.eZ{w:World}{E:Env}{H:zq}(hh:qv w E H)(sel:List Nat)(qc:sel.all (λid=>Nat.blt id H.length)=true)(fN:yk sel=true)(fI:qQ H=true):qv w (E.eZ sel) (xv sel H) where
 base:=hh.base.eZ sel qc fN fI
 eS:={
  val:=λi ob' h1 h2=>by
   obtain⟨id,ob,e1,e2,rfl⟩:=xC h1 qc;obtain⟨l1,l2,l3,l4⟩:=vO sel ob;rw[l4];simp only[Env.eZ,e1,rm];exact hh.eS.val id ob e2 bh
  fb:=λi b ob' h1 h2=>by
   obtain⟨id,e0,h3⟩:=h1.eZ qc;obtain⟨id',ob,e1,e2,rfl⟩:=xC h2 qc;rw[e0]at e1;cases e1
   obtain⟨l1,l2,l3,l4⟩:=vO sel ob;rw[l2,l3,l4];simp only[Env.eZ,e0,rm];exact hh.eS.fb id b ob h3 e2
  sep:=λi b h1 h2=>by
   obtain⟨id,e0,h3⟩:=h1.eZ qc;exact hh.eS.sep id b h3 (h2.eZ qc fI)
  inj:=λi i' b h1 h2=>by
   obtain⟨id,e0,h3⟩:=h1.eZ qc;obtain⟨id',e1,h4⟩:=h2.eZ qc;obtain rfl:=hh.eS.inj id id' b h3 h4;exact kl fN _ _ _ e0 e1
  st:=λi b ob' o u h1 h2 h3=>by
   obtain⟨id,e0,h4⟩:=h1.eZ qc;obtain⟨id',ob,e1,e2,rfl⟩:=xC h2 qc;rw[e0]at e1;cases e1
   obtain⟨l1,l2,l3,l4⟩:=vO sel ob;rw[l3,l4];exact hh.eS.st id b ob o u h4 e2 h3
  top:=λi ob' k u h1 h2 h3=>by
   obtain⟨id,ob,e1,e2,rfl⟩:=xC h1 qc;obtain⟨l1,l2,l3,l4⟩:=vO sel ob;rw[l4];simp only[Env.eZ,e1,rm]at h3;exact hh.eS.top id ob k u e2 bh h3
  ic:=λi ob' r t h1 h2 h3=>by
   obtain⟨id,ob,e1,e2,rfl⟩:=xC h1 qc;have hk4:ob.kind=4:=by rw[<-(vO sel ob).1];exact h2
   rw[Gt hk4]at h3;have:=gV.1 fI ob (gT e2);rw[hk4,h3.2,h3.1]at this;obtain⟨p1,p2⟩:=hh.eS.ic id ob r t e2 hk4 h3;have ht:t.all Bv=true:=ai this
   rw[Gt hk4];exact⟨p1,p2.map λys hl=>hl.closed ht ⟨pC _,λ_ _ h=>absurd h (pR _),λ_ _ h=>absurd h (pR _),λ_ _ _ h=>h,λ_ _ _ h=>absurd h (pR _)⟩⟩
  wJ:=λi i' b h1 h2=>by
   obtain⟨id,e0,h3⟩:=h1.eZ qc;obtain⟨id',e1,h4⟩:=h2.eZ qc;obtain rfl:=hh.eS.wJ id id' b h3 h4;exact kl fN _ _ _ e0 e1}
def zk.eZ(sel m:List Nat)(t:List C)(H:zq)(hB:BN B 0 sel=true)(qc:sel.all (λid=>Nat.blt id H.length)=true)(fN:yk sel=true)(fI:qQ H=true):zk B ⟨t,H⟩ ⟨(Ap m 0 t).map (jK sel 9),xv sel H⟩:=λmm w E a hs=>by
 obtain⟨h1,h2⟩:=Jz hB
 refine⟨E.eZ sel,⟨hs.heap.eZ sel qc fN fI,((FB m t 0).LL hs.tmps).eZ (λc y hl=>hl.eZ sel 9),hs.defers,by simpa [xv] using h1⟩,
  ⟨⟨λid hops hi=>by simp[Env.eZ,h2 id hi],λid hops hi=>by simp[Env.eZ,h2 id hi],λ_ _ _ h=>h,λid k u hi hu=>by simpa [Env.eZ,h2 id hi] using hu⟩,rfl,rfl,rfl,pj _,λ_ _ _=>V,λb o u hu=>.inl hu,?_⟩⟩
 rintro b (hb|⟨i,hb|hb⟩)
 .exact .inr (.inl (hb.eZ qc fI))
 .obtain⟨id,_,h3⟩:=hb.eZ qc;exact .inr (.inr ⟨id,.inl h3⟩)
 .obtain⟨id,_,h3⟩:=hb.eZ qc;exact .inr (.inr ⟨id,.inr h3⟩)
end
def WC.trans{c c' c'':C}(h:WC c c')(h':WC c' c''):WC c c'':=λE y hl=>h' E y (h E y hl)
def WC.nil(sz sz':Nat):WC (.eM 1 sz []) (.eM 0 sz' []):=(WC.none 1 sz sz').trans (WC.share 1 sz' [])
def iq.at:∀{cs:List C} {i:Nat} {c c':C},cs[i]?=some c->WC c c'->iq cs (cs.set i c')
 |[],i,c,c',h,hw=>by simp at h
 |x::xs,0,c,c',h,hw=>by simp at h;subst h;exact .cons hw (iq.refl xs)
 |x::xs,i+1,c,c',h,hw=>.cons (.refl x) (iq.at uW hw)
def zk.cell(i:Nat){c c':C}(h:s.tmps[i]?=some c)(hw:WC c c'):zk B s ⟨s.tmps.set i c',s.H⟩:=zk.tmps (iq.at h hw)
def o8(t2:List C):List C->Prop:=
 List.rec (motive:=λ_=>List C->Prop) (λt1=>match t1 with|[]=>True|_::_=>False)
  (λc' _ ih t1=>match t1 with
   |[]=>False
   |c::cs=>match c' with
    |.za=>ih cs
    |c'=>c=c'/\ih cs) t2
def F4:∀{t2 t1:List C},o8 t2 t1->iq t1 t2
 |[],[],_=>.nil
 |[],_::_,h=>h.elim
 |_::_,[],h=>h.elim
 |c'::t2,c::t1,h=>by
  cases c' with
  |za=>exact .cons (.za c) (F4 (t2:=t2) (t1:=t1) h)
  |_=>
   obtain⟨h1,h2⟩:=h;exact .cons (h1 ▸ .refl c) (F4 (t2:=t2) (t1:=t1) h2)
section
variable {P:Program} {B:Nat}
def zk.o8{t1 t2:List C}(h:Ab.o8 t2 t1):zk B ⟨t1,H⟩ ⟨t2,H⟩:=zk.tmps (F4 h)
def zk.jq(n:Nat){t1 t2:List C}{H1 H2:zq}(h:Ab.o8 t2 t1)(hB:Nat.ble B n=true)(hn:Nat.ble n H1.length=true)(ht:t2.all (qE n 9)=true)(hr:ql n (H1.take n)=true)(hH:H1.take n=H2):zk B ⟨t1,H1⟩ ⟨t2,H2⟩:=by
 subst hH;exact(zk.o8 h).trans (zk.drop (s:=⟨t2,H1⟩) n hB hn ht hr)
def zk.F7(t:Nat){id len ty:Nat}(ht:s.tmps[t]?=some (.sl id [] sz 0 len full))(hob:s.H[id]?=some ⟨2,ty,sz,rows,0⟩)(hlen:len=rows.length)
 (hno:∀r∈rows,∀c∈r,zG c=true):
  zk B s ⟨s.tmps.set t (.eM (if full then 1 else 0) sz rows),s.H.set id ⟨2,ty,sz,rows,rows.length⟩⟩:=by
 have:=zk.freeze (B:=B) t ht hob V V (by simp[hlen]) hno;rw[yU _ hob]at this;simpa [hlen] using this
def qv.I8(hh:qv w E H){id len ty:Nat}(hl:L E (.sl id [] sz 0 len full) y)(hob:H[id]?=some ⟨2,ty,sz,rows,0⟩)(hlen:len=rows.length)
 (hno:∀r∈rows,∀c∈r,zG c=true):
  ∃E1,qv w E1 (H.set id ⟨2,ty,sz,rows,rows.length⟩)/\L E1 (.eM (if full then 1 else 0) sz rows) y/\Grow w E H w E1 (H.set id ⟨2,ty,sz,rows,rows.length⟩):=by
 obtain⟨E1,hs,g⟩:=zk.F7 (B:=H.length) (s:=⟨[.sl id [] sz 0 len full],H⟩) 0 V hob hlen hno 0 w E ⟨#[y],[]⟩ ⟨hh,LL.one hl,pC _,pj _⟩;have hn:=hs.heap.n
 refine⟨E1,hs.heap,hs.tmps.cons_inv.1,⟨⟨by rw[hn,hh.n];simp,λid hops hi=>g.le.β id hops tE,λid hops hi=>g.le.κ id hops tE,g.le.St,λid k u hi=>g.le.G id k u tE⟩,
  g.os,g.tape,g.output,g.size,g.frame,g.jx,g.own⟩⟩
def zk.Vv(vid k:Nat){id len ty vty vsz:Nat}(hv:s.H[vid]?=some ⟨1,vty,vsz,[r],fz⟩)(hk:r[k]?=some (.sl id [] sz 0 len full))(hob:s.H[id]?=some ⟨2,ty,sz,rows,0⟩)(hlen:len=rows.length)
 (hno:∀r∈rows,∀c∈r,zG c=true)(hr:r.all zG=true)(hr':(r.set k (.eM (if full then 1 else 0) sz rows)).all zG=true):
  zk B s ⟨s.tmps,(s.H.set id ⟨2,ty,sz,rows,rows.length⟩).set vid ⟨1,vty,vsz,[r.set k (.eM (if full then 1 else 0) sz rows)],fz⟩⟩:=λm w E a hs=>by
 have hgb:qd s.H vid []=some (vsz,[r]):=by unfold qd;rw[hv];simp[qS]
 obtain⟨cur,e,h3,h4,h5⟩:=(hs.heap.base.fb _ _ _ _ _ hv hgb).fb;obtain⟨u,hu,ho⟩:=h5 0 k _ (yS.2 ⟨rfl,hk⟩);rw[qN.loose V]at ho;have hl:L E (.sl id [] sz 0 len full) u:=ax
 obtain⟨E1,hh1,hl1,g1⟩:=hs.heap.I8 hl hob hlen hno;have hne:vid≠id:=by rintro rfl;rw[hv]at hob;cases hob
 have hob1:(s.H.set id ⟨2,ty,sz,rows,rows.length⟩)[vid]?=some ⟨1,vty,vsz,[r],fz⟩:=by rw[pd,gP (Ne.symm hne)];exact hv
 have hβ:E1.β vid []=E.β vid []:=g1.le.β vid [] (by rw[hs.heap.n];exact(gN.1 hv).1)
 have hcu:w.cell? ⟨E1.β vid [],k,none⟩=some u:=by
  unfold World.cell?;rw[hβ,h3];simpa using hu
 obtain⟨hR,g2⟩:=hh1.CR hob1 (r':=r.set k (.eM (if full then 1 else 0) sz rows)) ah hr hr' λj c c' v e1 e2 hl' hv=>by
  rw[pd]at e2;split at e2
  .rename_i e;subst e;rw[hcu]at hv;cases hv
   split at e2
   .cases e2;exact hl1
   .cases e2
  .rw[e1]at e2;cases e2
   exact hl'
 exact dJ
def qz.GC{r:C}(h:qz P f [] args λc _=>xG 0 9 c=r):zb P f [] args r []:=λw E vs hh hl=>by
 refine(h w E vs hh hl).mono ?_;rintro e w' ⟨c,H',v,E',rfl,rfl,h1,h2,g⟩;have h3:=h1.drop 0 (pC _) (by simp[ql]);rw[u6]at h3;have hn:E.n=0:=hh.n
 exact⟨v,E'.cut 0,rfl,h3,h2.low 0 9,⟨⟨by rw[hn];exact pC _,λid hops hi=>by rw[hn]at hi;omega,λid hops hi=>by rw[hn]at hi;omega,g.le.St,λid k u hi=>by rw[hn]at hi;omega⟩,g.os,g.tape,g.output,g.size,g.frame,g.jx,
  λb h=>absurd h xd.none⟩⟩
def zb.zj{r:C}(hf:P.funcs[f]?=some fn)(hb:fn.body=some c)
 (h:wpA P 0 c (entry fn args) [] λex t1 H1=>(ex=.ret\/ex=.normal)/\∃s2,zk 0 ⟨t1,H1⟩ s2/\(vP P fn s2).map (xG 0 9)=some r):zb P f [] args r []:=by
 refine qz.GC (qz.kz (H:=[]) hf hb ((jd h).mono λex s1 ⟨hex,s2,hw,h2⟩=>?_));cases h3:vP P fn s2 with
 |none=>rw[h3]at h2;cases h2
 |some r0=>
  rw[h3]at h2;cases h2
  exact⟨hex,s2,r0,hw,h3,rfl⟩
def ab{r:C}{zQ:Prop}(hf:P.funcs[f]?=some fn)(z0:zQ)(hb:fn.body=some c:=by exact V)(ze:zQ->wpA P 0 c (entry fn args) [] λex t1 H1=>(ex=.ret\/ex=.normal)/\∃s2,zk 0 ⟨t1,H1⟩ s2/\(vP P fn s2).map (xG 0 9)=some r:=by intro zh;(conv=>whnf);exact zh):zb P f [] args r []:=zb.zj hf hb (ze z0)
def zH.seq{t:List C}(N:Nat)(T:Nat->List C)(Hp:Nat->zq)(R:Nat->Prop)(h0:zk B ⟨t,H⟩ ⟨T 0,Hp 0⟩)(r0:R 0)
 (step:∀k,k<N->R k->wpA P B c (T k) (Hp k) λe t1 H1=>(e=.normal/\zk B ⟨t1,H1⟩ ⟨T (k+1),Hp (k+1)⟩/\R (k+1))\/(e≠.normal/\K e t1 H1))
 (done:R N->wpA P B c (T N) (Hp N) λe t1 H1=>e≠.normal/\K e t1 H1):
  An P B c t H K:=by
 have key:∀n k,k+n=N->R k->iU P B c (n+1) ⟨T k,Hp k⟩ λex s=>K ex s.tmps s.H:=by
  intro n
  induction n with
  |zero=>
   intro k hk hr;obtain rfl:k=N:=an
   refine .step ((jd (done hr)).mono λex s1 ⟨hne,hK⟩=>?_);cases ex with
   |normal=>exact absurd V hne
   |_=>exact hK
  |succ n ih=>
   intro k hk hr;refine .step ((jd (step k an hr)).post λex s1 h1=>?_);rcases h1 with⟨rfl,hw,hr'⟩|⟨hne,hK⟩
   .exact⟨_,hw,(ih (k+1) an hr':iU P B c (n+1) _ _)⟩
   .refine⟨s1,.refl s1,?_⟩;cases ex with
    |normal=>exact absurd V hne
    |_=>exact hK
 exact⟨.pre h0 ⟨N+1,key N 0 an r0⟩⟩
end
section
variable {P:Program} {B:Nat}
structure LoopN(P:Program)(B:Nat)(c:Code)(n:Nat)(t:List C)(H:zq)(K:Exit->List C->zq->Prop):Prop where
 out:iU P B c n ⟨t,H⟩ λex s=>K ex s.tmps s.H
def LoopN.step{c:Code}{n:Nat}{t:List C}{H:zq}{K:Exit->List C->zq->Prop}
 (h:wpA P B c t H λe t1 H1=>(e=.normal/\LoopN P B c n t1 H1 K)\/(e≠.normal/\K e t1 H1)):LoopN P B c (n+1) t H K:=by
 refine⟨.step ((jd h).post λex s1 h1=>?_)⟩;rcases h1 with⟨rfl,h⟩|⟨hne,hK⟩
 .exact⟨s1,.refl s1,h.out⟩
 .refine⟨s1,.refl s1,?_⟩;cases ex with
  |normal=>exact absurd V hne
  |_=>exact hK
def An.ES(n:Nat){t:List C}(h:LoopN P B c n t H K):An P B c t H K:=⟨⟨n,h.out⟩⟩
end
section
variable {P:Program} {B:Nat}
def iR{x y:Code}{t:List C}{R:Exit->S->Prop}(h:wpA P B x t H λe t1 H1=>(e=.normal/\∃t2 H2,zk B ⟨t1,H1⟩ ⟨t2,H2⟩/\qW P B y ⟨t2,H2⟩ R)\/(e≠.normal/\R e ⟨t1,H1⟩)):qW P B (.seq x y) ⟨t,H⟩ R:=by
 refine .seq ((jd h).post λex s1 h1=>?_);rcases h1 with⟨rfl,t2,H2,hw,hr⟩|⟨hne,hr⟩
 .exact⟨_,hw,hr⟩
 .refine⟨s1,.refl s1,?_⟩;cases ex with
  |normal=>exact absurd V hne
  |_=>exact hr
end
def behind:Nat->Code->Code
 |0,c=>c
 |n+1,.seq _ y=>behind n y
 |_,c=>c
def cE(n:Nat){t1 t2:List C}{H1 H2:zq}(h:Ab.o8 t2 t1:=by (conv=>whnf);refine tc ?_;exact trivial)(hB:Nat.ble B n=true:=by exact V)(hn:Nat.ble n H1.length=true:=by exact V)(ht:t2.all (qE n 9)=true:=by exact V)(hr:ql n (H1.take n)=true:=by exact V)(hH:H1.take n=H2:=by exact V):zk B ⟨t1,H1⟩ ⟨t2,H2⟩:=zk.jq n h hB hn ht hr hH
def cC{t1 t2:List C}(h:Ab.o8 t2 t1:=by (conv=>whnf);refine tc ?_;exact trivial):zk B ⟨t1,H⟩ ⟨t2,H⟩:=zk.o8 h
end Go.Ab
