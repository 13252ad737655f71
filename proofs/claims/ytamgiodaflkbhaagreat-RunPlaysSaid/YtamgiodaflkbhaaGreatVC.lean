import Derived.IntWalk
import Derived.Test.YtamgiodaflkbhaaGreatVB
set_option linter.all false
set_option maxRecDepth 100000
set_option maxHeartbeats 4000000
namespace Go.Ab
variable{t e ty:TypeId}{α:Type}{x:Operand}{c:Code}{ob ob':Ob}{H H':zq}{dst:Option Tmp}{b full:Bool}{ρ:Operand->C}{P:Program}{hops:List fY}{sz i j fz B:Nat}{rows:List (List C)}{r cs caps args:List C}{K:Exit->List C->zq->Prop}{l:List α}{f:FuncId}{y z:Value}{op:BinOp}{cl:Call}{md:Region.Mode}{listed:Array Bool}{oi o:Oper}{w:World}{E:Env}{ps:Array Tmp}{R:C->zq->Prop}{ops:Array Oper}{X:zq->Prop}{s:S}{fn:Func}{ys:List Value}{sel:List Nat}
def Hk(x:Value)(k:Value->Prop):Prop:=
 match x with
 |.int t n=>k (.int t n)
 |.bool b=>k (.bool b)
 |.string s=>k (.string s)
 |x=>k x
def jj(n:Nat)(k:Nat->Prop):Prop:=
 match n with
 |0=>k 0
 |1=>k 1
 |2=>k 2
 |3=>k 3
 |4=>k 4
 |5=>k 5
 |6=>k 6
 |7=>k 7
 |8=>k 8
 |9=>k 9
 |10=>k 10
 |11=>k 11
 |12=>k 12
 |13=>k 13
 |14=>k 14
 |15=>k 15
 |16=>k 16
 |17=>k 17
 |18=>k 18
 |19=>k 19
 |20=>k 20
 |21=>k 21
 |22=>k 22
 |23=>k 23
 |24=>k 24
 |25=>k 25
 |26=>k 26
 |27=>k 27
 |28=>k 28
 |29=>k 29
 |30=>k 30
 |31=>k 31
 |32=>k 32
 |33=>k 33
 |34=>k 34
 |35=>k 35
 |36=>k 36
 |37=>k 37
 |38=>k 38
 |39=>k 39
 |40=>k 40
 |41=>k 41
 |42=>k 42
 |43=>k 43
 |44=>k 44
 |45=>k 45
 |46=>k 46
 |47=>k 47
 |48=>k 48
 |49=>k 49
 |50=>k 50
 |51=>k 51
 |52=>k 52
 |53=>k 53
 |54=>k 54
 |55=>k 55
 |56=>k 56
 |57=>k 57
 |58=>k 58
 |59=>k 59
 |60=>k 60
 |61=>k 61
 |62=>k 62
 |63=>k 63
 |64=>k 64
 |n=>k n
def qw{n:Nat}{k:Nat->Prop}(h:jj n k):k n:=by
 unfold jj at h;split at h <;> exact h
def xn{α:Type}:List α->(List α->Prop)->Prop
 |[],k=>k []
 |x::xs,k=>xn xs λys=>k (x::ys)
def q9{α:Type}:∀{l:List α} {k:List α->Prop},xn l k->k l
 |[],k,h=>h
 |x::xs,k,h=>q9 (l:=xs) (k:=λys=>k (x::ys)) h
def qM(c:C)(k:C->Prop):Prop:=
 match c with
 |.v x=>Hk x λx=>k (.v x)
 |.fq o sz rows=>k (.fq o sz rows)
 |.jR cells=>xn cells λcells=>k (.jR cells)
 |.ref id hops sz i j=>jj id λid=>jj sz λsz=>jj j λj=>k (.ref id hops sz i j)
 |.sl id hops sz lo len full=>jj id λid=>k (.sl id hops sz lo len full)
 |.fn f first caps=>k (.fn f first caps)
 |.mp id=>jj id λid=>k (.mp id)
 |.agg cs=>xn cs λcs=>k (.agg cs)
 |.fy cs=>xn cs λcs=>k (.fy cs)
 |.un=>k .un
 |.za=>k .za
 |.gl id sz rows=>jj id λid=>k (.gl id sz rows)
 |.iq t c=>k (.iq t c)
 |.rc r=>k (.rc r)
def QH{x:Value}{k:Value->Prop}(h:Hk x k):k x:=by
 unfold Hk at h;split at h <;> exact h
def zV{c:C}{k:C->Prop}(h:qM c k):k c:=by
 cases c with
 |v x=>exact QH (k:=λx=>k (.v x)) h
 |jR cells=>exact q9 (k:=λcells=>k (.jR cells)) h
 |ref id hops sz i j=>exact qw (k:=λj=>k (.ref id hops sz i j)) (qw (k:=λsz=>jj j λj=>k (.ref id hops sz i j)) (qw (k:=λid=>jj sz λsz=>jj j λj=>k (.ref id hops sz i j)) h))
 |sl id hops sz lo len full=>exact qw (k:=λid=>k (.sl id hops sz lo len full)) h
 |mp id=>exact qw (k:=λid=>k (.mp id)) h
 |gl id sz rows=>exact qw (k:=λid=>k (.gl id sz rows)) h
 |agg cs=>exact q9 (k:=λcs=>k (.agg cs)) h
 |fy cs=>exact q9 (k:=λcs=>k (.fy cs)) h
 |_=>exact h
def vg{α:Type}(f:α->(α->Prop)->Prop):List α->(List α->Prop)->Prop
 |[],k=>k []
 |x::xs,k=>f x λx=>vg f xs λxs=>k (x::xs)
def qK{α:Type}{f:α->(α->Prop)->Prop}(hf:∀x k,f x k->k x):∀{l:List α} {k:List α->Prop},vg f l k->k l
 |[],k,h=>h
 |x::xs,k,h=>qK hf (l:=xs) (k:=λxs=>k (x::xs)) (hf x _ h)
def GG(ob:Ob)(k:Ob->Prop):Prop:=
 match ob with
 |⟨kind,ty,sz,rows,fz⟩=>match kind with
  |1=>jj sz λsz=>vg (vg qM) rows λrows=>k ⟨1,ty,sz,rows,fz⟩
  |kd=>k ⟨kd,ty,sz,rows,fz⟩
def PC{k:Ob->Prop}(h:GG ob k):k ob:=by
 obtain⟨kind,ty,sz,rows,fz⟩:=ob;unfold GG at h;dsimp only at h;split at h
 .exact qK (λ_ _ h=>qK (λ_ _ h=>zV h) h) (k:=λrows=>k ⟨1,ty,sz,rows,fz⟩) (qw (k:=λsz=>vg (vg qM) rows λrows=>k ⟨1,ty,sz,rows,fz⟩) h)
 .exact h
def AX(H:zq)(k:zq->Prop):Prop:=vg GG H k
def kD{k:zq->Prop}(h:AX H k):k H:=qK (λ_ _ h=>PC h) h
def okB(c:C)(k:C->Prop):Prop:=
 match c with
 |.v (.bool b)=>(b=true->k (.v (.bool true)))/\(b=false->k (.v (.bool false)))
 |c=>k c
def H6(c:C)(k:C->Prop):Prop:=
 match c with
 |.v (.bool b)=>match b with
  |true=>k (.v (.bool true))
  |false=>k (.v (.bool false))
 |c=>qM c k
def KZ{c:C}{k:C->Prop}(h:H6 c k):k c:=by
 unfold H6 at h;split at h
 .rename_i b;cases b <;> exact h
 .exact zV h
def jg{c:C}{k:C->Prop}(h:okB c k):k c:=by
 unfold okB at h;split at h
 .rename_i b;cases b
  .exact h.2 V
  .exact h.1 V
 .exact h
def AD{α:Type}:List α->Nat->α->(List α->Prop)->Prop
 |[],_,_,k=>k []
 |_::xs,0,y,k=>k (y::xs)
 |x::xs,n+1,y,k=>AD xs n y λys=>k (x::ys)
def wD{α:Type}:∀{l:List α} {n:Nat} {y:α} {k:List α->Prop},AD l n y k->k (l.set n y)
 |[],_,_,k,h=>h
 |_::xs,0,y,k,h=>h
 |x::xs,n+1,y,k,h=>wD (l:=xs) (n:=n) (y:=y) (k:=λys=>k (x::ys)) h
def nc(tmps:List C)(dst:Option Tmp)(c:C)(k:List C->Prop):Prop:=
 match dst with
 |some d=>AD tmps d c k
 |none=>k tmps
def jH{tmps:List C}{c:C}{k:List C->Prop}(h:nc tmps dst c k):k (put tmps dst c):=by
 cases dst with
 |none=>exact h
 |some d=>exact wD h
def bK(b:Bool)(k:Prop):Prop:=
 match b with
 |true=>k
 |false=>False
def qb{k:Prop}(h:bK b k):b=true/\k:=by
 cases b
 .exact dA
 .exact⟨rfl,h⟩
def od(ρ:Operand->C)(x:Option Operand)(dflt:Nat)(k:Nat->Prop):Prop:=
 match x with
 |none=>k dflt
 |some y=>match ρ y with
  |.v (.int _ n)=>0<=n/\k n.toNat
  |_=>False
def yk{x:Option Operand}{dflt:Nat}{k:Nat->Prop}(h:od ρ x dflt k):∃n,ma ρ x dflt n/\k n:=by
 unfold od at h;unfold ma;cases x with
 |none=>exact⟨dflt,rfl,h⟩
 |some y=>
  dsimp only at h;split at h
  .rename_i kd n e;exact⟨n.toNat,⟨kd,by rw[e,u1 h.1]⟩,h.2⟩
  .exact dA
def Ap(place:Nat->Option (Nat×Nat)):List C->List (Nat×C)->(List C->Prop)->Prop
 |cells,[],k=>k cells
 |cells,(i,c)::rest,k=>match place i with
  |none=>False
  |some (off,size)=>bK (mj c && (c.cells.length == size) && decide (off+size<=cells.length)) <|vg qM (yj off c.cells cells) λcells=>Ap place cells rest k
def F7{place:Nat->Option (Nat×Nat)}:∀{parts:List (Nat×C)} {cells:List C} {k:List C->Prop},Ap place cells parts k->∃cs,oG place cells parts=some cs/\k cs
 |[],cells,k,h=>⟨cells,rfl,h⟩
 |(i,c)::rest,cells,k,h=>by
  unfold Ap at h;split at h
  .exact dA
  .rename_i off size hp;obtain⟨h1,h2⟩:=qb h;have h3:=qK (λ_ _ h=>zV h) (k:=λcells=>Ap place cells rest k) h2;obtain⟨cs,h4,h5⟩:=F7 h3;refine⟨cs,?_,h5⟩;simp only[oG,hp];rw[pD h1];exact h4
def Hn(P:Program)(t:TypeId)(parts:List (Nat×C))(k:List C->Prop):Prop:=
 match mY P t,P.underlying t with
 |some z,some (.array _ e)=>match P.info? e with
  |some ie=>vg qM z λz=>Ap (λi=>some (i*ie.size,ie.size)) z parts k
  |none=>False
 |some z,some (.struct fields)=>match fields.toList.mapM (λf=>(P.info? f.type).map λi=>(f.offset,i.size)) with
  |some places=>xn places λplaces=>vg qM z λz=>Ap (places.toArray[·]?) z parts k
  |none=>False
 |_,_=>False
def JI{parts:List (Nat×C)}{k:List C->Prop}(h:Hn P t parts k):∃cs,EI P t parts=some cs/\k cs:=by
 unfold Hn at h;unfold EI;split at h
 .rename_i z n e hz hu;simp only[hz,hu];split at h
  .rename_i ie hie;simp only[hie];exact F7 (qK (λ_ _ h=>zV h) (k:=λz=>Ap (λi=>some (i*ie.size,ie.size)) z parts k) h)
  .exact dA
 .rename_i z fields hz hu;simp only[hz,hu];split at h
  .rename_i places hpl;simp only[hpl];have h1:=q9 (k:=λplaces:List (Nat×Nat)=>vg qM z λz=>Ap (places.toArray[·]?) z parts k) h;exact F7 (qK (λ_ _ h=>zV h) (k:=λz=>Ap (places.toArray[·]?) z parts k) h1)
  .exact dA
 .exact dA
def HD(P:Program)(H:zq)(ρ:Operand->C)(t:TypeId)(x:Operand)(lo hi mx:Option Operand)(K:C->zq->Prop):Prop:=
 match P.underlying t with
 |some (.slice e)=>match P.info? e with
  |some i=>match ρ x with
   |.fq fo sz rows=>(rows=[]\/sz=i.size)/\match mx with
    |none=>match hi with
     |none=>od ρ lo 0 λl=>l<=rows.length/\K (.fq (if fo == 1 then 1 else 0) sz (rows.drop l)) H
     |some hh=>od ρ lo 0 λl=>od ρ (some hh) rows.length λh=>l<=h/\h<=rows.length/\K (.fq 0 sz ((rows.drop l).take (h-l))) H
    |some m=>match hi with
     |some hh=>od ρ lo 0 λl=>od ρ (some hh) 0 λh=>od ρ (some m) 0 λm'=>m'=h/\l<=h/\h<=rows.length/\K (.fq 1 sz ((rows.drop l).take (h-l))) H
     |none=>False
   |.sl id hops sz lo0 len full=>match mx with
    |none=>sz=i.size/\od ρ lo 0 λl=>od ρ hi len λh=>l<=h/\h<=len/\(l=0\/l<h)/\(full=false\/h=len)/\K (.sl id hops sz (lo0+l) (h-l) full) H
    |some _=>False
   |_=>False
  |none=>False
 |some .string=>match ρ x with
  |.v (.string s)=>match s with
   |⟨⟨b⟩⟩=>match mx with
    |none=>od ρ lo 0 λl=>od ρ hi b.length λh=>l<=h/\h<=b.length/\K (.v (.string ⟨⟨(b.take h).drop l⟩⟩)) H
    |some _=>False
  |_=>False
 |_=>False
def Hx(P:Program)(H:zq)(ρ:Operand->C)(t:TypeId)(x y:Operand)(K:C->zq->Prop):Prop:=
 match P.underlying t with
 |some (.slice e)=>match P.info? e with
  |some i=>match ρ y with
   |.v (.int _ n)=>match ρ x with
    |.fq o sz rows=>bK ((o == 0 || o == 1) && sz == i.size) <|0<=n/\∃r,rows[n.toNat]?=some r/\K (.jR r) H
    |.sl id hops sz lo len _=>bK (sz == i.size) <|0<=n/\n.toNat<len/\K (.ref id hops sz (lo+n.toNat) 0) H
    |_=>False
   |_=>False
  |none=>False
 |some (.array len e)=>match P.info? e with
  |some i=>match ρ y with
   |.v (.int _ n)=>match AP (ρ x) (n.toNat*i.size) with
    |some c=>0<=n/\n<len/\qM c λc=>K c H
    |none=>False
   |_=>False
  |none=>False
 |_=>False
def Hz(P:Program)(H:zq)(ρ:Operand->C)(t:TypeId)(x y:Operand)(K:C->zq->Prop):Prop:=
 match ρ y with
 |.v (.int _ n)=>match P.underlying t with
  |some .string=>match ρ x with
   |.v (.string s)=>match s with
    |⟨⟨b⟩⟩=>0<=n/\∃c,b[n.toNat]?=some c/\K (.v (.int .u8 c.toNat)) H
   |_=>False
  |some (.array len e)=>match P.info? e with
   |some i=>match ρ x with
    |.agg cs=>0<=n/\n<len/\∃c,o7 P e cs (n.toNat*i.size)=some c/\okB c λc=>qM c λc=>K c H
    |_=>False
   |none=>False
  |_=>False
 |_=>False
def Hh(P:Program)(H:zq)(ρ:Operand->C)(t:TypeId)(x:Operand)(f:Nat)(K:C->zq->Prop):Prop:=
 match P.underlying t with
 |some (.struct fs)=>match fs[f]? with
  |some fd=>match ρ x with
   |.agg cs=>match o7 P fd.type cs fd.offset with
    |some c=>okB c λc=>qM c λc=>K c H
    |none=>False
   |_=>False
  |none=>False
 |_=>False
def Hg(P:Program)(H:zq)(ρ:Operand->C)(t:TypeId)(x:Operand)(f:Nat)(K:C->zq->Prop):Prop:=
 match P.underlying t with
 |some (.struct fs)=>match fs[f]? with
  |some fd=>match P.info? fd.type with
   |some i=>match AP (ρ x) fd.offset with
    |some c=>bK (i.size != 0) <|qM c λc=>K c H
    |none=>False
   |none=>False
  |none=>False
 |_=>False
def Ep(P:Program)(H:zq)(x:C)(sz':Nat)(rows':List (List C))(e:TypeId)(i:TypeInfo)(K:C->zq->Prop):Prop:=
 match rows' with
 |[]=>(xz H (ij x)).isSome=true/\K (ij x) H
 |r'::rs'=>bK (sz' == i.size) <|jj i.size λsz0=>jj H.length λm=>match x with
  |.fq 1 sz rows=>(rows=[]\/sz=sz0)/\rows.length+(rs'.length+1)<=maxLen/\(rows.length+(rs'.length+1))*i.bytes<=140737488355328/\
    xn (H++[⟨2,e,sz0,rows++r'::rs',0⟩]) λH'=>K (.sl m [] sz0 0 (rows.length+(rs'.length+1)) false) H'
  |.sl id [] sz 0 n false=>match H[id]? with
   |some ob=>bK (sz == sz0 && ob.kind == 2 && ob.ty == e && ob.sz == sz0) <|ob.rows.length=n/\ob.rows.all (·.all zF)=true/\n+(rs'.length+1)<=maxLen/\(n+(rs'.length+1))*i.bytes<=140737488355328/\
     xn (jY H id++[⟨2,e,sz0,ob.rows++r'::rs',ob.fz⟩]) λH'=>K (.sl m [] sz0 0 (n+(rs'.length+1)) false) H'
   |none=>False
  |_=>False
def Ma(H:zq)(sz:Nat)(rows:List (List C))(sz':Nat)(rows':List (List C))(e:TypeId)(i:TypeInfo)(K:C->zq->Prop):Prop:=
 jj i.size λsz0=>jj H.length λm=>(rows=[]\/sz=sz0)/\(rows'=[]\/sz'=sz0)/\rows.length+rows'.length<=maxLen/\(rows.length+rows'.length)*i.bytes<=140737488355328/\
  xn (H++[⟨4,e,sz0,rows++rows',0⟩]) λH'=>K (.gl m sz0 (rows++rows')) H'
def GS(P:Program)(H:zq)(ρ:Operand->C)(x y:Operand)(e:TypeId)(i:TypeInfo)(K:C->zq->Prop):Prop:=
 match xz H (ij (ρ y)) with
 |some (sz',rows')=>match ρ x with
  |.gl id sz rows=>match H[id]? with
   |some ob=>bK (sz == i.size) <|jj i.size λsz0=>ob=⟨4,e,sz,rows,0⟩/\(rows'=[]\/sz'=sz0)/\rows.length+rows'.length<=maxLen/\(rows.length+rows'.length)*i.bytes<=140737488355328/\
     AD H id ⟨4,e,sz0,rows++rows',0⟩ λH'=>K (.gl id sz0 (rows++rows')) H'
   |none=>False
  |.fq 1 sz rows=>Ma H sz rows sz' rows' e i K\/Ep P H (.fq 1 sz rows) sz' rows' e i K
  |x=>Ep P H x sz' rows' e i K
 |none=>False
def H4(H:zq)(op:BinOp)(a b:List UInt8)(K:C->zq->Prop):Prop:=
 match op with
 |.eql=>okB (.v (.bool (a == b))) λc=>K c H
 |.neq=>okB (.v (.bool (!(a == b)))) λc=>K c H
 |.add=>a.length+b.length<=9223372036854775807/\K (.v (.string ⟨⟨a++b⟩⟩)) H
 |_=>False
def E4(P:Program)(H:zq)(ρ:Operand->C)(o:Oper)(cl:Call)(K:C->zq->Prop):Prop:=
 match cl.callee with
 |.value x=>match ρ x with
  |.fn f first caps=>bK (qv P f) <| ∃r H',zb P f H (first++(cl.args.toList.map λx=>ij (ρ x))++caps) r H'/\okB r λr=>K r H'
  |.v (.func g first caps)=>match g with
   |.yield l=>bK (first.isEmpty && caps.isEmpty) <| ∃r H',jv P l H (cl.args.toList.map ρ) r H'/\okB r λr=>K r H'
   |_=>False
  |_=>False
 |.invoke x name=>match ρ x with
  |.iq t c=>∃f,HQ P t name f=true/\qv P f=true/\∃r H',zb P f H (c::(cl.args.toList.map ρ)) r H'/\okB r λr=>K r H'
  |_=>False
 |.builtin .len=>match cl.args.toList,cl.argTypes.toList with
  |[x],[t]=>match P.underlying t with
   |some (.slice _)=>match Fo (ij (ρ x)) with
    |some n=>K (.v (.int .i64 n)) H
    |none=>False
   |some .string=>match ρ x with
    |.v (.string s)=>match s with
     |⟨⟨b⟩⟩=>K (.v (.int .i64 b.length)) H
    |_=>False
   |_=>match l9 P (execOp (λx=>Af (ρ x)) o) with
    |some (.value v)=>bK (o.op.operands.toList.all (λx=>fS (ρ x)) && v.oneCell') <|okB (.v v) λc=>K c H
    |_=>False
  |_,_=>False
 |.builtin .append=>match cl.args.toList,cl.argTypes.toList with
  |[x,y],[t,t']=>bK (t' == t) <|match P.underlying t with
   |some (.slice e)=>match P.info? e with
    |some i=>match i.zero with
     |some z=>bK (z.cells.size == i.size) <|GS P H ρ x y e i K
     |none=>False
    |none=>False
   |_=>False
  |_,_=>False
 |_=>match l9 P (execOp (λx=>Af (ρ x)) o) with
  |some (.value v)=>bK (o.op.operands.toList.all (λx=>fS (ρ x)) && v.oneCell') <|okB (.v v) λc=>K c H
  |_=>False
def NG(P:Program)(H:zq)(o:Oper)(ρ:Operand->C)(op:BinOp)(t:TypeId)(xs ys:List C)(K:C->zq->Prop):Prop:=
 (!P.eqGuardType P.depth t && nT P 9 t)=true/\match nJ P 9 t (.agg xs) (.agg ys) with
  |some b=>match op with
   |.eql=>okB (.v (.bool b)) λc=>K c H
   |.neq=>okB (.v (.bool (!b))) λc=>K c H
   |_=>False
  |none=>False
def DD(P:Program)(t:TypeId)(id:Nat)(hops:List fY)(i k:Nat)(r:List C)(K:C->Prop):Prop:=
 match P.underlying t,P.info? t with
 |some d,some inf=>match B9 d with
  |true=>k+inf.size<=r.length/\vg qM (vP id hops i k ((r.drop k).take inf.size)) λcs=>K (.agg cs)
  |false=>k+1<=r.length/\match vP id hops i k ((r.drop k).take 1) with
   |[x]=>okB x λx=>qM x K
   |_=>False
 |_,_=>False
def Dw(P:Program)(H:zq)(t:TypeId)(c:C)(K:C->Prop):Prop:=
 match c with
 |.ref id hops sz i k=>match H[id]? with
  |some ⟨kind,ty,osz,orows,fz⟩=>match kind with
   |2=>match hops with
    |[]=>bK (osz == sz) <| ∃r,orows[i]?=some r/\DD P t id [] i k r K
    |h::hs=>∃rows r,qe H id (h::hs)=some (sz,rows)/\rows[i]?=some r/\DD P t id (h::hs) i k r K
   |1=>match ty with
    |0=>bK (osz == sz && hops.isEmpty) <| ∃r,orows[i]?=some r/\DD P t id [] i k r K
    |_=>match wN P H t (.ref id hops sz i k) with
     |some c=>okB c λc=>qM c K
     |none=>False
   |_=>match wN P H t (.ref id hops sz i k) with
    |some c=>okB c λc=>qM c K
    |none=>False
  |none=>False
 |c=>match wN P H t c with
  |some c=>okB c λc=>qM c K
  |none=>False
def F0{id:Nat}{k:Nat}{K:C->Prop}(hg:qe H id hops=some (sz,rows))(hr:rows[i]?=some r)(h:DD P t id hops i k r K):
  ∃c,wN P H t (.ref id hops sz i k)=some c/\K c:=by
 unfold DD at h;split at h
 .rename_i d inf hd hi;have hrd:∀n,k+n<=r.length->oA H (.ref id hops sz i k) n=some (vP id hops i k ((r.drop k).take n)):=λn hn=>by simp[oA,hg,hr,hn]
  split at h
  .rename_i hag;obtain⟨h1,h2⟩:=h;refine⟨_,?_,qK (λ_ _ h=>zV h) (k:=λcs=>K (.agg cs)) h2⟩;unfold wN;rw[hd,hi];simp only[hag,if_true];rw[hrd _ h1]
   rfl
  .rename_i hag;obtain⟨h1,h2⟩:=h;split at h2
   .rename_i x hx;refine⟨x,?_,zV (jg (k:=λx=>qM x K) h2)⟩;unfold wN;rw[hd,hi];simp only[hag];rw[hrd _ h1,hx]
    rfl
   .exact h2.elim
 .exact dA
def D1{c:C}{K:C->Prop}(h:Dw P H t c K):∃c',wN P H t c=some c'/\K c':=by
 unfold Dw at h;split at h
 .split at h
  .rename_i id hops sz i k kind ty osz orows fz hob;split at h
   .split at h
    .obtain⟨h1,r,h2,h3⟩:=qb h;simp only[rF]at h1;exact F0 (by unfold qe;rw[hob];simp[qT,h1]) h2 h3
    .obtain⟨rows,r,h1,h2,h3⟩:=h;exact F0 h1 h2 h3
   .split at h
    .obtain⟨h1,r,h2,h3⟩:=qb h;simp only[pJ,rF,fh]at h1;obtain⟨h1,rfl⟩:=h1;exact F0 (by unfold qe;rw[hob];simp[qT,h1]) h2 h3
    .split at h
     .rename_i c hc;exact⟨c,hc,zV (jg (k:=λc=>qM c K) h)⟩
     .exact dA
   .split at h
    .rename_i c hc;exact⟨c,hc,zV (jg (k:=λc=>qM c K) h)⟩
    .exact dA
  .exact dA
 .split at h
  .rename_i c hc;exact⟨c,hc,zV (jg (k:=λc=>qM c K) h)⟩
  .exact dA
def kh(r:List C)(k:Nat)(cs:List C)(K:List C->Prop):Prop:=bK (Nat.ble (k+cs.length) r.length) <|xn (yj k cs r) K
def Gi{k:Nat}{K:List C->Prop}(h:kh r k cs K):k+cs.length<=r.length/\K (yj k cs r):=
 ⟨pO (qb h).1,q9 (qb h).2⟩
def EJ(P:Program)(H:zq)(t:TypeId)(a x:C)(K:zq->Prop):Prop:=
 match a with
 |.ref id hops sz i k=>match H[id]? with
  |some ⟨kind,ty,osz,orows,fz⟩=>match kind with
   |2=>match P.info? t with
    |some inf=>bK (mj x && (x.cells.length == inf.size) && x.cells.all jV) <|vg qM x.cells λcs=>match hops with
     |[]=>bK (osz == sz && fz == 0) <| ∃r,orows[i]?=some r/\((r.drop k).take cs.length).all zF=true/\kh r k cs λr'=>AD H id ⟨2,ty,osz,orows.set i r',0⟩ K
     |h::hs=>bK (fz == 0) <| ∃rows r,qe H id (h::hs)=some (sz,rows)/\rows[i]?=some r/\((r.drop k).take cs.length).all zF=true/\kh r k cs λr'=>AD H id ⟨2,ty,osz,yh orows (h::hs) (λrows=>rows.set i r'),0⟩ K
    |none=>False
   |1=>match ty with
    |0=>match P.info? t with
     |some inf=>bK (mj x && (x.cells.length == inf.size)) <|vg qM x.cells λcs=>bK (osz == sz && fz == 0 && hops.isEmpty) <| ∃r,orows[i]?=some r/\((r.drop k).take cs.length).all zF=true/\kh r k cs λr'=>AD H id ⟨1,0,osz,orows.set i r',0⟩ K
     |none=>False
    |_=>match hops,orows,i with
     |[],[r],0=>match P.info? t with
      |some inf=>bK (osz == sz && fz == 0 && mj x && (x.cells.length == inf.size) && ((r.drop k).take x.cells.length).all zF) <|vg qM x.cells λcs=>kh r k cs λr'=>AD H id ⟨1,ty,osz,[r'],0⟩ K
      |none=>False
     |hops,_,i=>match vM P H t (.ref id hops sz i k) x with
      |some H'=>AX H' K
      |none=>False
   |_=>match vM P H t (.ref id hops sz i k) x with
    |some H'=>AX H' K
    |none=>False
  |none=>False
 |a=>match vM P H t a x with
  |some H'=>AX H' K
  |none=>False
def va{r:α}(f:α->α)(h:l[i]?=some r):l.modify i f=l.set i (f r):=by
 apply rL
 intro j;rw[r5,pM];split
 .rename_i e;subst e;rw[pD (px.1 h).1,h]
  rfl
 .simp
def Ko{f g:List (List C)->List (List C)}:∀(hops:List fY) (sz:Nat) (rows:List (List C)) {sz':Nat} {rows':List (List C)},v7 sz rows hops=some (sz',rows')->f rows'=g rows'->yh rows hops f=yh rows hops g
 |[],sz,rows,sz',rows',h,he=>by
  rw[qT]at h;cases h
  exact he
 |(i,k)::hs,sz,rows,sz',rows',h,he=>by
  rw[xG]at h;rw[D7,D7];split at h
  .rename_i sz2 rows2 hc
   try rw[hc]
   simp only[Ko hs sz2 rows2 h he]
  .cases h
def JE{a x:C}{K:zq->Prop}(h:EJ P H t a x K):∃H',vM P H t a x=some H'/\K H':=by
 unfold EJ at h;cases a with
 |ref id hops sz i k=>
  dsimp only at h;split at h
  .rename_i kind ty osz orows fz hob;split at h
   .split at h
    .rename_i inf hinf;obtain⟨hv,h⟩:=qb h;have h:=qK (λ_ _ h=>zV h) h;simp only[pJ,rF]at hv
     have go:∀hops rows r,qe H id hops=some (sz,rows)->rows[i]?=some r->fz=0->((r.drop k).take x.cells.length).all zF=true->(kh r k x.cells λr'=>AD H id ⟨2,ty,osz,yh orows hops (λrows=>rows.set i r'),0⟩ K)->
       ∃H',vM P H t (.ref id hops sz i k) x=some H'/\K H':=λhops rows r h1 h2 h0 h3 h4=>by
      obtain⟨h5,h6⟩:=Gi h4;have h6:=wD h6;refine⟨_,?_,h6⟩;unfold vM;rw[hinf];dsimp only;rw[h1,hob];dsimp only;rw[h2];dsimp only;rw[pD]
      .congr 1
       unfold nd;rw[va _ hob]
       congr 1
       dsimp only;subst h0
       congr 1
       obtain⟨ob2,e1,_,e3⟩:=qU h1;rw[hob]at e1;cases e1
       exact Ko hops _ _ e3 (by unfold wg;rw[va _ h2])
      .simp only[pJ,rF,rZ,pY];exact⟨⟨⟨⟨⟨⟨⟨trivial,hv.1.1⟩,hv.1.2⟩,h5⟩,h3⟩,.inr hv.2⟩,.inr an⟩,.inr h0⟩
     split at h
     .obtain⟨h1,r,h2,h3,h4⟩:=qb h;simp only[pJ,rF]at h1;exact go [] orows r (by unfold qe;rw[hob];simp[qT,h1.1]) h2 h1.2 h3 h4
     .obtain⟨h1,rows,r,h2,h3,h4,h5⟩:=qb h;simp only[rF]at h1;exact go _ rows r h2 h3 h1 h4 h5
    .exact dA
   .split at h
    .split at h
     .rename_i inf hinf;obtain⟨hv,h⟩:=qb h;have h:=qK (λ_ _ h=>zV h) h;obtain⟨h1,r,h2,h3,h4⟩:=qb h;obtain⟨h5,h6⟩:=Gi h4;have h6:=wD h6;simp only[pJ,rF,fh]at hv h1;obtain⟨⟨rfl,rfl⟩,rfl⟩:=h1;refine⟨_,?_,h6⟩;have hg:qe H id []=some (osz,orows):=by unfold qe;rw[hob];simp[qT]
      unfold vM;rw[hinf];dsimp only;rw[hg,hob];dsimp only;rw[h2];dsimp only;rw[pD]
      .congr 1
       unfold nd;rw[va _ hob]
       congr 1
       dsimp only;rw[Ei];unfold wg;rw[va _ h2]
      .simp only[pJ,rF,rZ,pY];exact⟨⟨⟨⟨⟨⟨⟨trivial,hv.1⟩,hv.2⟩,h5⟩,h3⟩,.inl trivial⟩,.inr an⟩,.inr trivial⟩
     .exact dA
    .split at h
     .rename_i r;split at h
      .rename_i inf hinf;obtain⟨hv,h⟩:=qb h;have h:=qK (λ_ _ h=>zV h) h;obtain⟨h5,h6⟩:=Gi h;have h6:=wD h6;simp only[pJ,rF]at hv;refine⟨_,?_,h6⟩;have h1:qe H id []=some (osz,[r]):=by unfold qe;rw[hob];simp[qT]
       unfold vM;rw[hinf];dsimp only;rw[h1,hob];dsimp only;rw[show [r][0]?=some r from V];dsimp only;rw[pD]
       .congr 1
        unfold nd;rw[va _ hob]
        congr 1
        dsimp only;obtain⟨⟨⟨⟨_,rfl⟩,_⟩,_⟩,_⟩:=hv;rw[Ei];unfold wg
        rfl
       .simp only[pJ,rF,rZ,pY];obtain⟨⟨⟨⟨e1,e2⟩,e3⟩,e4⟩,e5⟩:=hv;exact⟨⟨⟨⟨⟨⟨⟨e1,e3⟩,e4⟩,h5⟩,e5⟩,.inl trivial⟩,.inr an⟩,.inr e2⟩
      .exact dA
     .split at h
      .rename_i H' hc;exact⟨H',hc,kD h⟩
      .exact dA
   .split at h
    .rename_i H' hc;exact⟨H',hc,kD h⟩
    .exact dA
  .exact dA
 |_=>
  dsimp only at h;split at h
  .rename_i H' hc;exact⟨H',hc,kD h⟩
  .exact dA
def WQ(H:zq)(a y:C):Bool:=
 match a with
 |.ref id _ _ _ _=>match H[id]? with
  |some ob=>match ob.kind with
   |2=>true
   |1=>match ob.ty with
    |0=>match y with
     |.gl ..=>false
     |_=>true
    |_=>false
   |_=>false
  |none=>false
 |_=>false
def HV(P:Program)(H:zq)(ρ:Operand->C)(o:Oper)(src dst:TypeId)(x:Operand)(K:C->zq->Prop):Prop:=
 match Ab.ij (ρ x) with
 |.fq _ sz rows=>match P.underlying src,P.underlying dst with
  |some (.slice e),some .string=>match P.underlying e with
   |some (.int .u8)=>bK (sz == 1) <| ∃bts:List UInt8,rows=bts.map BA/\K (.v (.string ⟨⟨bts⟩⟩)) H
   |_=>False
  |_,_=>False
 |_=>match l9 P (execOp (λx=>Af (ρ x)) o) with
  |some (.value v)=>bK (xH o && o.op.operands.toList.all (λx=>fS (ρ x)) && v.oneCell') <|okB (.v v) λc=>K c H
  |_=>False
def HP(P:Program)(H:zq)(ρ:Operand->C)(t:TypeId)(x y:Operand)(K:C->zq->Prop):Prop:=
 match ρ x,ρ y with
 |.v (.int _ n),.v (.int _ n')=>match P.underlying t with
  |some (.slice e)=>match P.info? e with
   |some i=>match mY P e with
    |some cs=>bK (cs.all jV) <|n'=n/\0<=n/\(i.bytes:Int)*n<=281474976710656/\n<=9223372036854775807/\
      jj i.size λsz=>jj H.length λm=>xn (H++[⟨2,e,sz,List.replicate n.toNat cs,0⟩]) λH'=>K (.sl m [] sz 0 n.toNat false) H'
    |none=>False
   |none=>False
  |_=>False
 |_,_=>False
def HS(o:Oper):Option (BinOp×TypeId×Operand):=
 match o.op with
 |.binOp op t x y _=>match y with
  |.const v=>match v with
   |.slice none 0 0=>some (op,t,x)
   |_=>none
  |_=>none
 |_=>none
def H8(P:Program)(H:zq)(op:BinOp)(t:TypeId)(x:C)(K:C->zq->Prop):Prop:=
 match P.underlying t with
 |some (.slice _)=>match x with
  |.fq _ _ rows=>match rows with
   |[]=>match op with
    |.eql=>K (.v (.bool true)) H/\K (.v (.bool false)) H
    |.neq=>K (.v (.bool true)) H/\K (.v (.bool false)) H
    |_=>False
   |r::rs=>match op with
    |.eql=>r::rs≠[]/\K (.v (.bool false)) H
    |.neq=>r::rs≠[]/\K (.v (.bool true)) H
    |_=>False
  |.sl ..=>match op with
   |.eql=>K (.v (.bool false)) H
   |.neq=>K (.v (.bool true)) H
   |_=>False
  |_=>False
 |_=>False
def HO(o:Oper):Option (BinOp×TypeId×Operand):=
 match o.op with
 |.binOp op t x y _=>match y with
  |.const v=>match v with
   |.pointer p=>match p with
    |none=>some (op,t,x)
    |some _=>none
   |_=>none
  |_=>none
 |_=>none
def HA(x:C):Option Bool:=
 match x with
 |.ref ..=>some false
 |.jR _=>some false
 |.v y=>match y with
  |.pointer p=>match p with
   |none=>some true
   |some _=>some false
  |_=>none
 |_=>none
def Fi(P:Program)(t:TypeId):Bool:=
 match P.underlying t with
 |some (.pointer e)=>e == P.pointee t
 |_=>false
def Ia(P:Program)(H:zq)(op:BinOp)(t:TypeId)(x:C)(K:C->zq->Prop):Prop:=
 match HA x with
 |some b=>match op with
  |.eql=>bK (Fi P t) <|K (.v (.bool b)) H
  |.neq=>bK (Fi P t) <|K (.v (.bool (!b))) H
  |_=>False
 |none=>False
def nQ(P:Program)(H:zq)(ρ:Operand->C)(o:Oper)(K:C->zq->Prop):Prop:=
 match o.op with
 |.move x=>qM (ρ x) λc=>K c H
 |.assign x=>qM (ρ x) λc=>K c H
 |.pick x y z=>match ρ x with
  |.v (.bool b)=>qM (if b then ρ y else ρ z) λc=>K c H
  |_=>False
 |.alloc t=>match mY P t with
  |some cs=>xn cs λcs=>jj cs.length λn=>jj H.length λm=>xn (H++[⟨1,t,n,[cs],0⟩]) λH'=>K (.ref m [] n 0 0) H'
  |none=>False
 |.box t x=>bK (mj (ρ x)) <|vg qM (ρ x).cells λcs=>jj cs.length λn=>jj H.length λm=>xn (H++[⟨1,t,n,[cs],0⟩]) λH'=>K (.ref m [] n 0 0) H'
 |.fieldAddr t x f=>Hg P H ρ t x f K
 |.indexAddr t x y=>Hx P H (λx=>ij (ρ x)) t x y K
 |.index t x y=>Hz P H ρ t x y K
 |.field t x f=>Hh P H ρ t x f K
 |.load t x=>Dw P H t (ρ x) λc=>K c H
 |.store t x y=>match WQ H (ρ x) (ρ y) with
  |true=>EJ P H t (ρ x) (wU (ρ y)) λH'=>K .un H'
  |false=>EJ P H t (ρ x) (ρ y) λH'=>K .un H'
 |.extract x n=>match ρ x with
  |.fy vs=>match vs[n]? with
   |some c=>okB c λc=>qM c λc=>K c H
   |none=>False
  |_=>False
 |.nilCheck x=>bK (G8 (ρ x)) <|qM (ρ x) λc=>K c H
 |.makeFunc f first caps=>match f with
  |.func f=>vg qM (first.toList.map ρ) λa=>vg qM (caps.toList.map ρ) λb=>K (.fn f a b) H
  |_=>False
 |.build t parts=>Hn P t (parts.toList.map λp=>(p.1,ρ p.2)) λcs=>K (.agg cs) H
 |.makeInterface t x=>match P.underlying t with
  |some d=>bK (vE d) <|qM (ρ x) λc=>K (.iq t c) H
  |none=>False
 |.typeAssert x _ t ok=>bK ok <|match ρ x with
  |.iq t' c=>match P.underlying t with
   |some d=>match t' == t with
    |true=>bK (vE d) <|K (.fy [c,.v (.bool true)]) H
    |false=>match P.info? t with
     |some i=>bK (vE d && i.zero.isSome) <|K (.fy [.za,.v (.bool false)]) H
     |none=>False
   |none=>False
  |_=>False
 |.buildSlice t len parts=>match H7 P t len (parts.toList.map λp=>(p.1,wU (ρ p.2))) with
  |some c=>match c with
   |.fq o sz rows=>vg (vg qM) rows λrows=>jj sz λsz=>K (.fq o sz rows) H
   |_=>False
  |none=>False
 |.slice t x lo hi mx=>HD P H (λx=>ij (ρ x)) t x lo hi mx K
 |.makeSlice t x y=>HP P H ρ t x y K
 |.lookup ..=>∃c H',fE P o ρ H c H'/\K c H'
 |.mapUpdate ..=>∃c H',fE P o ρ H c H'/\K c H'
 |.mapEntry ..=>∃c H',fE P o ρ H c H'/\K c H'
 |.entryStore ..=>∃c H',fE P o ρ H c H'/\K c H'
 |.call cl=>E4 P H ρ o cl K
 |.binOp op t x y _=>match ρ x,ρ y with
  |.agg xs,.agg ys=>NG P H o ρ op t xs ys K
  |.v (.string s),.v (.string s')=>match s,s' with
   |⟨⟨a⟩⟩,⟨⟨b⟩⟩=>H4 H op a b K
  |_,_=>match l9 P (execOp (λx=>Af (ρ x)) o) with
   |some (.value v)=>bK (xH o && o.op.operands.toList.all (λx=>fS (ρ x)) && v.oneCell') <|okB (.v v) λc=>K c H
   |_=>False
 |.convert src dst x=>HV P H ρ o src dst x K
 |.unOp _ _ _=>match l9 P (execOp (λx=>Af (ρ x)) o) with
  |some (.value v)=>bK (xH o && o.op.operands.toList.all (λx=>fS (ρ x)) && v.oneCell') <|H6 (.v v) λc=>K c H
  |_=>False
 |_=>match l9 P (execOp (λx=>Af (ρ x)) o) with
  |some (.value v)=>bK (xH o && o.op.operands.toList.all (λx=>fS (ρ x)) && v.oneCell') <|okB (.v v) λc=>K c H
  |_=>False
section
variable {P:Program} {o:Oper} {ρ:Operand->C} {H:zq} {K:C->zq->Prop}
def fE.ng{c c':C}(h:fE P o ρ H c H')(hw:WC c c'):fE P o ρ H c' H':=λw E σ hh hl K hk=>h w E σ hh hl K λv w' E' h1 h2 g=>hk v w' E' h1 (hw E' v h2) g
def fE.HJ(cl:Call)(ho:o.op=.call cl)(x:Operand)(hcl:cl.callee=.value x){first:List C}(hf:ρ x=.fn f first caps)(hcb:qv P f=true){r:C}
 (hs:zb P f H (first++(cl.args.toList.map λx=>Ab.ij (ρ x))++caps) r H'):fE P o ρ H r H':=.ij <|.call cl ho x hcl (by rw[hf];rfl) hcb hs
def fE.Xk(t:TypeId)(x y:Operand)(ho:o.op=.store t x y)(hs:vM P H t (ρ x) (wU (ρ y))=some H'):fE P o ρ H .un H':=by
 classical
 have hρ:∀z,∃c,(c=ρ z\/c=wU (ρ z))/\(z=y->c=wU (ρ z))/\(z≠y->c=ρ z):=λz=>by
  by_cases e:z=y
  .exact⟨wU (ρ z),.inr V,λ_=>V,λh=>absurd e h⟩
  .exact⟨ρ z,.inl V,λh=>absurd h e,λ_=>V⟩
 obtain⟨ρ',hρ'⟩:∃ρ':Operand->C,∀z,(ρ' z=ρ z\/ρ' z=wU (ρ z))/\(z=y->ρ' z=wU (ρ z))/\(z≠y->ρ' z=ρ z):=⟨λz=>(hρ z).choose,λz=>(hρ z).choose_spec⟩
 have hx:ρ' x=ρ x:=by
  rcases(hρ' x).1 with e|e
  .exact e
  .rw[e];unfold vM at hs;split at hs
   .rename_i e2 _;rw[e2];rfl
   .cases hs
 have h0:qA P o ρ' H .un H':=qA.store t x y ho (by rw[hx,(hρ' y).2.1 V];exact hs);refine .Bn (h0.weaken λz E v hl=>?_) (JD hs);rcases(hρ' z).1 with e|e
 .rw[e];exact hl
 .rw[e];exact GA hl
def kK(h:match l9 P (execOp (λx=>Af (ρ x)) o) with
  |some (.value v)=>bK (xH o && o.op.operands.toList.all (λx=>fS (ρ x)) && v.oneCell') <|okB (.v v) λc=>K c H
  |_=>False):∃c,(∀H2,fE P o ρ H2 c H2)/\K c H:=by
 split at h
 .rename_i v e;obtain⟨h1,h2⟩:=qb h;simp only[pJ,tw]at h1;exact⟨.v v,λH2=>.same <|.scalar h1.1.1 h1.1.2 e h1.2,jg (k:=λc=>K c H) h2⟩
 .exact dA
def Jy{lo hi mx:Option Operand}(ho:o.op=.slice t x lo hi mx)(h:HD P H ρ t x lo hi mx K):∃c,(∀H2,fE P o ρ H2 c H2)/\K c H:=by
 unfold HD at h;split at h
 rotate_left
 .rename_i hu;split at h
  .rename_i s hx;obtain⟨⟨b⟩⟩:=s;dsimp only at h;split at h
   .obtain⟨l,h1,h⟩:=yk h;obtain⟨h',h2,h3,h4,h5⟩:=yk h;exact⟨_,λH2=>.same <|.Ww t x lo hi ho hu hx h1 h2 h3 h4,h5⟩
   .exact dA
  .exact dA
 .exact dA
 rename_i e hu;split at h
 rotate_left
 .exact dA
 rename_i i hi';split at h
 .rename_i fo sz rows hx;obtain⟨hsz,h⟩:=h;split at h
  .split at h
   .obtain⟨l,h1,h3,h5⟩:=yk h;have:=λH2=>fE.same <|qA.LJ (H:=H2) t x lo none ho hu hi' hx hsz h1 (rfl:ma ρ none rows.length rows.length) h3 (pN _)
    refine⟨_,this,?_⟩;rw[sq ah];by_cases hfo:fo=1
    .simpa [hfo] using h5
    .simpa [hfo] using h5
   .rename_i hh;obtain⟨l,h1,h⟩:=yk h;obtain⟨h',h2,h3,h4,h5⟩:=yk h;exact⟨_,λH2=>.ng (.same <|.LJ t x lo (some hh) ho hu hi' hx hsz h1 h2 h3 h4) (.share _ _ _),h5⟩
  .split at h
   .obtain⟨l,h1,h⟩:=yk h;obtain⟨h',h2,h⟩:=yk h;obtain⟨m,h3,rfl,h4,h5,h6⟩:=yk h;exact⟨_,λH2=>.same <|.UJ t x lo _ _ ho hu hi' hx hsz h1 h2 h3 h4 h5,h6⟩
   .exact dA
 .rename_i id hops sz lo0 len full hx;split at h
  .obtain⟨hsz,h⟩:=h;obtain⟨l,h1,h⟩:=yk h;obtain⟨h',h2,h3,h4,h5,h6,h7⟩:=yk h;exact⟨_,λH2=>.same <|.WO t x lo hi ho hu hi' hx hsz h1 h2 h3 h4 h5 h6,h7⟩
  .exact dA
 .exact dA
def JV{y:Operand}(ho:o.op=.indexAddr t x y)(h:Hx P H ρ t x y K):∃c,(∀H2,fE P o ρ H2 c H2)/\K c H:=by
 unfold Hx at h;split at h
 rotate_left
 .rename_i len e hu;split at h
  .rename_i i hi;split at h
   .rename_i k n hy;split at h
    .rename_i c hx;exact⟨c,λH2=>.same <|.Vv t x y ho hu hi hy h.1 h.2.1 hx,zV (k:=λc=>K c H) h.2.2⟩
    .exact dA
   .exact dA
  .exact dA
 .exact dA
 rename_i e hu;split at h
 rotate_left
 .exact dA
 rename_i i hi;split at h
 rotate_left
 .exact dA
 rename_i k n hy;split at h
 .rename_i fo sz rows hx;obtain⟨h1,h3,r,h4,h5⟩:=qb h;refine⟨_,λH2=>.same <|.indexAddr t x y ho hu hi hy h3 (c:=.jR r) ?_,h5⟩;rw[hx];simp only[A3];rw[pD h1,h4]
  rfl
 .rename_i id hops sz lo len full hx;obtain⟨h2,h3,h4,h5⟩:=qb h;simp only[rF]at h2;refine⟨_,λH2=>.same <|.indexAddr t x y ho hu hi hy h3 (c:=.ref id hops sz (lo+n.toNat) 0) ?_,h5⟩;rw[hx];simp only[A3];rw[pD (by simp[h4,h2])]
 .exact dA
def JW{y:Operand}(ho:o.op=.index t x y)(h:Hz P H ρ t x y K):∃c,(∀H2,fE P o ρ H2 c H2)/\K c H:=by
 unfold Hz at h;split at h
 .rename_i k n hy;split at h
  .rename_i hu;split at h
   .rename_i s hx;obtain⟨⟨b⟩⟩:=s;obtain⟨h1,c,h2,h3⟩:=h;exact⟨_,λH2=>.same <|.Wv t x y ho hu hx hy h1 h2,h3⟩
   .exact dA
  .rename_i len e hu;split at h
   .rename_i i hi;split at h
    .rename_i cs hx;obtain⟨h1,h2,c,h3,h4⟩:=h;exact⟨c,λH2=>.same <|.S8 t x y ho hu hi hx hy h1 h2 h3,zV (k:=λc=>K c H) (jg (k:=λc=>qM c λc=>K c H) h4)⟩
    .exact dA
   .exact dA
  .exact dA
 .exact dA
def JR{f:Nat}(ho:o.op=.field t x f)(h:Hh P H ρ t x f K):∃c,(∀H2,fE P o ρ H2 c H2)/\K c H:=by
 unfold Hh at h;split at h
 .rename_i fs hu;split at h
  .rename_i fd hf;split at h
   .rename_i cs hx;split at h
    .rename_i c hc;exact⟨c,λH2=>.same <|.field t x f ho hu hf hx hc,zV (k:=λc=>K c H) (jg (k:=λc=>qM c λc=>K c H) h)⟩
    .exact dA
   .exact dA
  .exact dA
 .exact dA
def Ld{t':TypeId}{y:Operand}{a b:List UInt8}(ho:o.op=.binOp op t x y t')(hx:ρ x=.v (.string (bs a)))(hy:ρ y=.v (.string (bs b)))(h:H4 H op a b K):∃c,(∀H2,fE P o ρ H2 c H2)/\K c H:=by
 unfold H4 at h;split at h
 .exact⟨_,λH2=>.same <|.Ni .eql t t' x y ho (.inl V) hx hy,jg (k:=λc=>K c H) h⟩
 .exact⟨_,λH2=>.same <|.Ni .neq t t' x y ho (.inr V) hx hy,jg (k:=λc=>K c H) h⟩
 .exact⟨_,λH2=>.same <|.Xl t t' x y ho hx hy h.1,h.2⟩
 .exact dA
def JQ{f:Nat}(ho:o.op=.fieldAddr t x f)(h:Hg P H ρ t x f K):∃c,(∀H2,fE P o ρ H2 c H2)/\K c H:=by
 unfold Hg at h;split at h
 rotate_left
 .exact dA
 rename_i fs hu;split at h
 rotate_left
 .exact dA
 rename_i fd hf;split at h
 rotate_left
 .exact dA
 rename_i i hi;split at h
 rotate_left
 .exact dA
 rename_i c hc;obtain⟨h1,h2⟩:=qb h;exact⟨c,λH2=>.same <|.fieldAddr t x f ho hu hf hi uZ hc,zV (k:=λc=>K c H) h2⟩
def I8(ho:o.op=.call cl){y:Operand}{i:TypeInfo}(ht:oP P cl x y e i z){sz':Nat}{rows':List (List C)}(hy:xz H (ij (ρ y))=some (sz',rows'))
 (h:Ep P H (ρ x) sz' rows' e i K):∃c H',fE P o ρ H c H'/\K c H':=by
 unfold Ep at h;split at h
 .obtain⟨h1,h2⟩:=h;obtain⟨⟨sz,rows⟩,hx⟩:=Option.isSome_iff_exists.1 h1;exact⟨_,H,.ij (ρ:=ρ) (.same <|.Sn cl ho x y ht hx hy),h2⟩
 .rename_i r' rs'
  replace h:=qb h
  obtain⟨hz,h⟩:=h;have hz:=eq_of_beq hz;subst hz;have h:=qw h;have h:=qw h;split at h
  .rename_i sz rows hx;obtain⟨h1,h2,h3,h4⟩:=h;exact⟨_,_,.ij (ρ:=ρ) (.E7 (.Sl cl ho x y ht (by rw[hx];rfl) h1 hy ah tM (ai h3)) _ (λe=>by cases e) rfl),by simpa using q9 h4⟩
  .rename_i id sz n hx;split at h
   .rename_i ob hob
    replace h:=qb h
    obtain⟨hb,h4,h5,h6,h7,h8⟩:=h;simp only[pJ,rF]at hb;obtain⟨⟨⟨rfl,h1⟩,h2⟩,h3⟩:=hb;exact⟨_,_,.ij (ρ:=ρ) (.Bn (.Uo cl ho x y ht (by rw[hx];rfl) hob h1 h2 h3 h4 h5 hy ah (ai h6) (ai h7)) (jt.trans (jt.jY H id λob' h'=>by rw[hob]at h';cases h';rw[h1];decide) (jt.push _ _ (λe=>by cases e)))),by simpa using q9 h8⟩
   .exact dA
  .exact dA
def PF(ho:o.op=.call cl){y:Operand}{i:TypeInfo}(ht:oP P cl x y e i z)(h:GS P H ρ x y e i K):∃c H',fE P o ρ H c H'/\K c H':=by
 unfold GS at h;split at h
 rotate_left
 .exact dA
 rename_i sz' rows' hy;split at h
 .rename_i id sz rows hx;split at h
  .rename_i ob hob
   replace h:=qb h
   obtain⟨hz,h⟩:=h;have hz:=eq_of_beq hz;subst hz;have h:=qw h;obtain⟨h1,h2,h3,h4,h5⟩:=h;exact⟨_,_,.LA cl ho x y ht hx hob h1 hy h2 h3 h4,wD h5⟩
  .exact dA
 .rename_i sz rows hx;rcases h with h|h
  .unfold Ma at h;have h:=qw h;have h:=qw h;obtain⟨h1,h2,h3,h4,h5⟩:=h;exact⟨_,_,.PZ cl ho x y ht hx h1 hy h2 h3 h4,q9 h5⟩
  .exact I8 ho ht hy (hx ▸ h)
 .exact I8 ho ht hy h
def Array.ym{a:Array α}(h:a.toList=l):a=l.toArray:=by subst h;simp
def Sx(ho:o.op=.call cl)(h:E4 P H ρ o cl K):∃c H',fE P o ρ H c H'/\K c H':=by
 have hns:xH o=true:=by simp[xH,ho]
 have scal:∀(h:match l9 P (execOp (λx=>Af (ρ x)) o) with
   |some (.value v)=>bK (o.op.operands.toList.all (λx=>fS (ρ x)) && v.oneCell') <|okB (.v v) λc=>K c H
   |_=>False),∃c H',fE P o ρ H c H'/\K c H':=by
  intro h;split at h
  .rename_i v e;obtain⟨h1,h2⟩:=qb h;simp only[pJ,tw]at h1;exact⟨.v v,H,.same <|.scalar hns h1.1 e h1.2,jg (k:=λc=>K c H) h2⟩
  .exact dA
 unfold E4 at h;split at h
 .rename_i x hcl;split at h
  .rename_i f first caps hf;obtain⟨h1,r,H',h2,h3⟩:=qb h;exact⟨r,H',.HJ cl ho x hcl hf h1 h2,jg (k:=λc=>K c H') h3⟩
  .rename_i g first caps hf;split at h
   .rename_i l;obtain⟨h1,r,H',h2,h3⟩:=qb h;simp only[pJ,Array.isEmpty_iff]at h1;obtain⟨rfl,rfl⟩:=h1;exact⟨r,H',.yield cl ho x hcl hf h2,jg (k:=λc=>K c H') h3⟩
   .exact dA
  .exact dA
 .rename_i x name hcl;split at h
  .rename_i t c hx;obtain⟨f,hm,hcb,r,H',h2,h3⟩:=h;exact⟨r,H',.invoke cl ho x name hcl hx hm hcb h2,jg (k:=λc=>K c H') h3⟩
  .exact dA
 .rename_i hcl;split at h
  .rename_i x t hx ht;split at h
   .rename_i e hu;split at h
    .rename_i n hn;exact⟨_,H,.ij (ρ:=ρ) <|.same <|.len cl ho hcl x (Array.ym hx) (Array.ym ht) hu hn,h⟩
    .exact dA
   .rename_i hu;split at h
    .rename_i s hs;obtain⟨⟨b⟩⟩:=s;exact⟨_,H,.same <|.MU cl ho hcl x (Array.ym hx) (Array.ym ht) hu hs,h⟩
    .exact dA
   .exact scal h
  .exact dA
 .rename_i hcl;split at h
  .rename_i x y t t' hx ht;obtain⟨ht',h⟩:=qb h;simp only[rF]at ht';subst ht';split at h
   .rename_i e hu;split at h
    .rename_i i hi;split at h
     .rename_i z hz;exact PF ho ⟨hcl,Array.ym hx,⟨_,Array.ym ht,hu⟩,hi,hz,by simpa using (qb h).1⟩ (qb h).2
     .exact dA
    .exact dA
   .exact dA
  .exact dA
 .exact scal h
def TT(ho:HS o=some (op,t,x))(h:H8 P H op t (ρ x) K):jC P o ρ H K:=by
 obtain⟨t',ho⟩:∃t',o.op=.binOp op t x (.const (.slice none 0 0)) t':=by
  unfold HS at ho;split at ho
  .rename_i h1;split at ho
   .split at ho
    .cases ho;exact⟨_,h1⟩
    .cases ho
   .cases ho
  .cases ho
 unfold H8 at h;split at h
 .rename_i e hu;split at h
  .rename_i fo sz rows hx;split at h
   .split at h
    .exact .Mz .eql t t' x ho (.inl V) hu hx h.1 h.2
    .exact .Mz .neq t t' x ho (.inr V) hu hx h.1 h.2
    .exact dA
   .split at h
    .exact(m9.EO .eql t t' x ho (.inl V) hu (.inl ⟨_,_,_,hx,h.1⟩)).iu h.2
    .exact(m9.EO .neq t t' x ho (.inr V) hu (.inl ⟨_,_,_,hx,h.1⟩)).iu h.2
    .exact dA
  .rename_i hx;split at h
   .exact(m9.EO .eql t t' x ho (.inl V) hu (.inr ⟨_,_,_,_,_,_,hx⟩)).iu h
   .exact(m9.EO .neq t t' x ho (.inr V) hu (.inr ⟨_,_,_,_,_,_,hx⟩)).iu h
   .exact dA
  .exact dA
 .exact dA
def JX{x:C}(h:HA x=some b):∀E u,L E x u->∃a,u=.pointer a/\a.isNone=b:=by
 intro E u hl;unfold HA at h;split at h
 .cases h;cases hl;exact⟨_,rfl,rfl⟩
 .cases h;cases hl;exact⟨_,rfl,rfl⟩
 .split at h
  .split at h <;> (cases h;cases hl;exact⟨_,rfl,rfl⟩)
  .cases h
 .cases h
def Vd(ho:HO o=some (op,t,x))(h:Ia P H op t (ρ x) K):∃c,m9 P o ρ H c H/\K c H:=by
 obtain⟨t',ho⟩:∃t',o.op=.binOp op t x (.const (.pointer none)) t':=by
  unfold HO at ho;split at ho
  .rename_i h1;split at ho
   .split at ho
    .split at ho
     .cases ho;exact⟨_,h1⟩
     .cases ho
    .cases ho
   .cases ho
  .cases ho
 have hT:Fi P t=true->P.underlying t=some (.pointer (P.pointee t)):=λhp=>by
  unfold Fi at hp;split at hp
  .rename_i e hu;have he:e=P.pointee t:=by simpa using hp
   rw[hu,he]
  .cases hp
 unfold Ia at h;split at h
 .rename_i b hb;split at h
  .exact⟨_,.Mv .eql t t' x ho (.inl V) (hT (qb h).1) b (JX hb),(qb h).2⟩
  .exact⟨_,.Mv .neq t t' x ho (.inr V) (hT (qb h).1) b (JX hb),(qb h).2⟩
  .exact dA
 .exact dA
def Td{y:Operand}(ho:o.op=.makeSlice t x y)(h:HP P H ρ t x y K):∃c H',fE P o ρ H c H'/\K c H':=by
 unfold HP at h;split at h
 .rename_i k n k' n' hx hy;split at h
  .rename_i e hu;split at h
   .rename_i i hi;split at h
    .rename_i cs hz;obtain⟨h1,rfl,h2,h3,h4,h5⟩:=qb h;have h5:=qw h5;have h5:=qw h5;exact⟨_,_,.E7 (.makeSlice t x y ho hu hi hz h1 hx hy h2 h3 h4) _ (λe=>by cases e) rfl,q9 h5⟩
    .exact dA
   .exact dA
  .exact dA
 .exact dA
def J9{src dst:TypeId}(ho:o.op=.convert src dst x)(h:HV P H ρ o src dst x K):∃c,(∀H2,fE P o ρ H2 c H2)/\K c H:=by
 unfold HV at h;split at h
 .rename_i fo sz rows hx;split at h
  .rename_i e hs hd;split at h
   .rename_i he;obtain⟨h1,bts,rfl,h2⟩:=qb h;have h1:=eq_of_beq h1;subst h1;exact⟨_,λH2=>.ij (ρ:=ρ) <|.same <|.TX src dst x ho hs he hd hx,h2⟩
   .exact dA
  .exact dA
 .exact kK h
def F2(h:nQ P H ρ o K):∃c H',fE P o ρ H c H'/\K c H':=by
 unfold nQ at h;split at h
 .rename_i x ho;exact⟨_,H,.same <|.move x (.inl ho),zV (k:=λc=>K c H) h⟩
 .rename_i x ho;exact⟨_,H,.same <|.move x (.inr ho),zV (k:=λc=>K c H) h⟩
 .rename_i x y z ho;split at h
  .rename_i b hb;exact⟨_,H,.same <|.pick x y z ho b hb,zV (k:=λc=>K c H) h⟩
  .exact dA
 .rename_i t ho;split at h
  .rename_i cs hz;have h:=q9 (k:=λcs=>jj cs.length λn=>jj H.length λm=>xn (H++[⟨1,t,n,[cs],0⟩]) λH'=>K (.ref m [] n 0 0) H') h;have h:=qw (k:=λn=>jj H.length λm=>xn (H++[⟨1,t,n,[cs],0⟩]) λH'=>K (.ref m [] n 0 0) H') h;have h:=qw (k:=λm=>xn (H++[⟨1,t,cs.length,[cs],0⟩]) λH'=>K (.ref m [] cs.length 0 0) H') h;exact⟨_,_,.E7 (.alloc t ho hz) _ (λe=>by cases e) rfl,q9 (k:=λH'=>K (.ref H.length [] cs.length 0 0) H') h⟩
  .exact dA
 .rename_i t x ho;obtain⟨h0,h⟩:=qb h;have h:=qK (λ_ _ h=>zV h) (k:=λcs=>jj cs.length λn=>jj H.length λm=>xn (H++[⟨1,t,n,[cs],0⟩]) λH'=>K (.ref m [] n 0 0) H') h;have h:=qw (k:=λn=>jj H.length λm=>xn (H++[⟨1,t,n,[(ρ x).cells],0⟩]) λH'=>K (.ref m [] n 0 0) H') h;have h:=qw (k:=λm=>xn (H++[⟨1,t,(ρ x).cells.length,[(ρ x).cells],0⟩]) λH'=>K (.ref m [] (ρ x).cells.length 0 0) H') h;exact⟨_,_,.E7 (.box t x ho h0) _ (λe=>by cases e) rfl,q9 (k:=λH'=>K (.ref H.length [] (ρ x).cells.length 0 0) H') h⟩
 .rename_i t x f ho;obtain⟨c,h1,h2⟩:=JQ ho h;exact⟨c,H,h1 H,h2⟩
 .rename_i t x y ho;obtain⟨c,h1,h2⟩:=JV (ρ:=λx=>ij (ρ x)) ho h;exact⟨c,H,(h1 H).ij,h2⟩
 .rename_i t x y ho;obtain⟨c,h1,h2⟩:=JW ho h;exact⟨c,H,h1 H,h2⟩
 .rename_i t x f ho;obtain⟨c,h1,h2⟩:=JR ho h;exact⟨c,H,h1 H,h2⟩
 .rename_i t x ho;obtain⟨c,h1,h2⟩:=D1 h;exact⟨c,H,.same <|.load t x ho h1,h2⟩
 .rename_i t x y ho;split at h
  .obtain⟨H',h1,h2⟩:=JE h;exact⟨_,H',.Xk t x y ho h1,h2⟩
  .obtain⟨H',h1,h2⟩:=JE h;exact⟨_,H',.Bn (.store t x y ho h1) (JD h1),h2⟩
 .rename_i x n ho;split at h
  .rename_i vs hx;split at h
   .rename_i c hc;exact⟨c,H,.same <|.extract x n ho hx hc,zV (k:=λc=>K c H) (jg (k:=λc=>qM c λc=>K c H) h)⟩
   .exact dA
  .exact dA
 .rename_i x ho;exact⟨_,H,.same <|.nilCheck x ho (qb h).1,zV (k:=λc=>K c H) (qb h).2⟩
 .rename_i f first caps ho;split at h
  .have h:=qK (λ_ _ h=>zV h) h;exact⟨_,H,.same <|.makeFunc _ first caps ho,qK (λ_ _ h=>zV h) (k:=λb=>K (.fn _ (first.toList.map ρ) b) H) h⟩
  .exact dA
 .rename_i t parts ho;obtain⟨cs,hc,h⟩:=JI h;exact⟨_,H,.same <|.build t parts ho hc,h⟩
 .rename_i t x ho;split at h
  .rename_i d hd;obtain⟨h1,h2⟩:=qb h;exact⟨_,H,.TM t x ho hd h1,zV (k:=λc=>K (.iq t c) H) h2⟩
  .exact dA
 .rename_i x xT t ok ho
  replace h:=qb h
  obtain⟨h1,h⟩:=h;subst h1;split at h
  .rename_i t' c hx;split at h
   .rename_i d hd;split at h
    .rename_i he;obtain rfl:t'=t:=by simpa using he
     exact⟨_,H,.Ur x xT t' ho hx hd (qb h).1,(qb h).2⟩
    .rename_i he;split at h
     .rename_i i hi;have h2:=(qb h).1;rw[pJ]at h2;exact⟨_,H,.UD x xT t ho hx he hd h2.1 hi h2.2,(qb h).2⟩
     .exact dA
   .exact dA
  .exact dA
 .rename_i t len parts ho;split at h
  .rename_i c hc;split at h
   .rename_i o' sz rows;have h:=qK (λ_ _ h=>qK (λ_ _ h=>zV h) h) (k:=λrows=>jj sz λsz=>K (.fq o' sz rows) H) h;exact⟨_,H,.same <|(qA.buildSlice (ρ:=λz=>wU (ρ z)) t len parts ho hc).weaken λz E v hl=>GA hl,qw (k:=λsz=>K (.fq o' sz rows) H) h⟩
   .exact dA
  .exact dA
 .rename_i t x lo hi mx ho;obtain⟨c,h1,h2⟩:=Jy (ρ:=λx=>ij (ρ x)) ho h;exact⟨c,H,(h1 H).ij,h2⟩
 .rename_i t x y ho;exact Td ho h
 .exact h
 .exact h
 .exact h
 .exact h
 .rename_i cl ho;exact Sx ho h
 .rename_i op t x y t' ho;split at h
  .rename_i xs ys hx hy;obtain⟨h1,h⟩:=h;simp only[pJ,rE]at h1;split at h
   .rename_i b hb;split at h
    .exact⟨_,H,.same <|.Eg .eql t t' x y ho (.inl V) h1.1 h1.2 hx hy hb,jg (k:=λc=>K c H) h⟩
    .exact⟨_,H,.same <|.Eg .neq t t' x y ho (.inr V) h1.1 h1.2 hx hy hb,jg (k:=λc=>K c H) h⟩
    .exact dA
   .exact dA
  .rename_i s s' hx hy;obtain⟨⟨a⟩⟩:=s;obtain⟨⟨b⟩⟩:=s';obtain⟨c,h1,h2⟩:=Ld ho hx hy h;exact⟨c,H,h1 H,h2⟩
  .obtain⟨c,h1,h2⟩:=kK h;exact⟨c,H,h1 H,h2⟩
 .rename_i src dst x ho;obtain⟨c,h1,h2⟩:=J9 ho h;exact⟨c,H,h1 H,h2⟩
 .split at h
  .rename_i v e;obtain⟨h1,h2⟩:=qb h;simp only[pJ,tw]at h1;exact⟨.v v,H,.same <|.scalar h1.1.1 h1.1.2 e h1.2,KZ (k:=λc=>K c H) h2⟩
  .exact dA
 .obtain⟨c,h1,h2⟩:=kK h;exact⟨c,H,h1 H,h2⟩
end
def Dq(calls:Bool)(o:Oper):Bool:=
 match o.op with
 |.alloc _|.box .. |.store .. |.makeSlice .. |.makeMap .. |.mapUpdate .. |.insert .. |.mapEntry .. |.entryStore ..=>true
 |.call cl=>match cl.callee with
  |.builtin .len=>false
  |.builtin _=>true
  |_=>calls
 |_=>false
def xD(o:Oper):Bool:=
 match o.op with
 |.move _|.assign _|.pick .. |.fieldAddr .. |.indexAddr .. |.extract .. |.nilCheck _|.makeFunc .. |.build .. |.buildSlice .. |.slice .. |.index .. |.field .. |.binOp .. |.unOp .. |.convert ..=>true
 |.call cl=>match cl.callee with
  |.builtin .len=>true
  |_=>false
 |_=>false
section
variable {P:Program} {o:Oper} {ρ:Operand->C} {H:zq} {K:C->zq->Prop}
def JC(hb:xD o=true)(h:nQ P H ρ o K):∃c,(∀H2,fE P o ρ H2 c H2)/\K c H:=by
 unfold nQ at h;split at h
 .rename_i x ho;exact⟨_,λH2=>.same <|.move x (.inl ho),zV (k:=λc=>K c H) h⟩
 .rename_i x ho;exact⟨_,λH2=>.same <|.move x (.inr ho),zV (k:=λc=>K c H) h⟩
 .rename_i x y z ho;split at h
  .rename_i b hb;exact⟨_,λH2=>.same <|.pick x y z ho b hb,zV (k:=λc=>K c H) h⟩
  .exact dA
 .rename_i t ho;simp[xD,ho]at hb
 .rename_i t x ho;simp[xD,ho]at hb
 .rename_i t x f ho;exact JQ ho h
 .rename_i t x y ho;obtain⟨c,h1,h2⟩:=JV (ρ:=λx=>ij (ρ x)) ho h;exact⟨c,λH2=>(h1 H2).ij,h2⟩
 .rename_i t x y ho;exact JW ho h
 .rename_i t x f ho;exact JR ho h
 .rename_i t x ho;simp[xD,ho]at hb
 .rename_i t x y ho;simp[xD,ho]at hb
 .rename_i x n ho;split at h
  .rename_i vs hx;split at h
   .rename_i c hc;exact⟨c,λH2=>.same <|.extract x n ho hx hc,zV (k:=λc=>K c H) (jg (k:=λc=>qM c λc=>K c H) h)⟩
   .exact dA
  .exact dA
 .rename_i x ho;exact⟨_,λH2=>.same <|.nilCheck x ho (qb h).1,zV (k:=λc=>K c H) (qb h).2⟩
 .rename_i f first caps ho;split at h
  .have h:=qK (λ_ _ h=>zV h) h;exact⟨_,λH2=>.same <|.makeFunc _ first caps ho,qK (λ_ _ h=>zV h) (k:=λb=>K (.fn _ (first.toList.map ρ) b) H) h⟩
  .exact dA
 .rename_i t parts ho;obtain⟨cs,hc,h⟩:=JI h;exact⟨_,λH2=>.same <|.build t parts ho hc,h⟩
 .rename_i t x ho;simp[xD,ho]at hb
 .rename_i x xT t ok ho;simp[xD,ho]at hb
 .rename_i t len parts ho;split at h
  .rename_i c hc;split at h
   .rename_i o' sz rows;have h:=qK (λ_ _ h=>qK (λ_ _ h=>zV h) h) (k:=λrows=>jj sz λsz=>K (.fq o' sz rows) H) h;exact⟨_,λH2=>.same <|(qA.buildSlice (ρ:=λz=>wU (ρ z)) t len parts ho hc).weaken λz E v hl=>GA hl,qw (k:=λsz=>K (.fq o' sz rows) H) h⟩
   .exact dA
  .exact dA
 .rename_i t x lo hi mx ho;obtain⟨c,h1,h2⟩:=Jy (ρ:=λx=>ij (ρ x)) ho h;exact⟨c,λH2=>(h1 H2).ij,h2⟩
 .rename_i t x y ho;simp[xD,ho]at hb
 .rename_i ho;simp[xD,ho]at hb
 .rename_i ho;simp[xD,ho]at hb
 .rename_i ho;simp[xD,ho]at hb
 .rename_i ho;simp[xD,ho]at hb
 .rename_i cl ho
  have hc:cl.callee=.builtin .len:=by
   simp only[xD,ho]at hb;split at hb
   .assumption
   .cases hb
  have hns:xH o=true:=by simp[xH,ho]
  unfold E4 at h;rw[hc]at h;dsimp only at h;split at h
  .rename_i x t hx ht;split at h
   .rename_i e hu;split at h
    .rename_i n hn;exact⟨_,λH2=>.ij (ρ:=ρ) <|.same <|.len cl ho hc x (Array.ym hx) (Array.ym ht) hu hn,h⟩
    .exact dA
   .rename_i hu;split at h
    .rename_i s hs;obtain⟨⟨b⟩⟩:=s;exact⟨_,λH2=>.same <|.MU cl ho hc x (Array.ym hx) (Array.ym ht) hu hs,h⟩
    .exact dA
   .split at h
    .rename_i v e;obtain⟨h1,h2⟩:=qb h;simp only[pJ,tw]at h1;exact⟨.v v,λH2=>.same <|.scalar hns h1.1 e h1.2,jg (k:=λc=>K c H) h2⟩
    .exact dA
  .exact dA
 .rename_i op t x y t' ho;split at h
  .rename_i xs ys hx hy;obtain⟨h1,h⟩:=h;simp only[pJ,rE]at h1;split at h
   .rename_i b hb;split at h
    .exact⟨_,λH2=>.same <|.Eg .eql t t' x y ho (.inl V) h1.1 h1.2 hx hy hb,jg (k:=λc=>K c H) h⟩
    .exact⟨_,λH2=>.same <|.Eg .neq t t' x y ho (.inr V) h1.1 h1.2 hx hy hb,jg (k:=λc=>K c H) h⟩
    .exact dA
   .exact dA
  .rename_i s s' hx hy;obtain⟨⟨a⟩⟩:=s;obtain⟨⟨b⟩⟩:=s';exact Ld ho hx hy h
  .exact kK h
 .rename_i src dst x ho;exact J9 ho h
 .split at h
  .rename_i v e;obtain⟨h1,h2⟩:=qb h;simp only[pJ,tw]at h1;exact⟨.v v,λH2=>.same <|.scalar h1.1.1 h1.1.2 e h1.2,KZ (k:=λc=>K c H) h2⟩
  .exact dA
 .exact kK h
end
section
variable {P:Program} {B:Nat} {ops:Array Oper} {md:Region.Mode} {Hs:Nat->zq} {eff:Nat->Bool} {idx:Nat->Nat} {inR:Nat->Nat->Bool}
def C7(md:Region.Mode)(ms:List Nat)(o:Oper):List Nat:=
 ms++[o.after.toList.foldl (λm e=>if Region.binds md e then m ||| (1 <<< e.on) ||| (ms[e.on]?).getD 0 else m) 0]
def nz(md:Region.Mode)(ops:Array Oper):List Nat:=ops.toList.foldl (C7 md) []
def nW(md:Region.Mode)(ops:Array Oper)(ms:List Nat)(j i:Nat):Bool:=Nat.testBit ((ms[j]?).getD 0) i
def K1{md:Region.Mode}{ms:List Nat}{i:Nat}:∀{l:List Edge} {m0:Nat},Nat.testBit (l.foldl (λm e=>if Region.binds md e then m ||| (1 <<< e.on) ||| (ms[e.on]?).getD 0 else m) m0) i=true->
  Nat.testBit m0 i=true\/∃e∈l,Region.binds md e=true/\(e.on=i\/Nat.testBit ((ms[e.on]?).getD 0) i=true)
 |[],m0,h=>.inl h
 |e::l,m0,h=>by
  rw[u4]at h;rcases K1 h with h1|⟨e',h1,h2⟩
  .split at h1
   .rename_i hb;simp only[Nat.testBit_or,rZ]at h1;rcases h1 with(h1|h1)|h1
    .exact .inl h1
    .refine .inr ⟨e,ah,hb,.inl ?_⟩;rw[Nat.testBit_shiftLeft]at h1;simp only[pJ,pY]at h1;obtain⟨h2,h3⟩:=h1;have:=Nat.testBit_one_eq_true_iff_self_eq_zero.1 h3;omega
    .exact .inr ⟨e,ah,hb,.inr h1⟩
   .exact .inl h1
  .exact .inr ⟨e',aJ,h2⟩
def AR(md:Region.Mode)(l:List Oper)(ms:List Nat):Prop:=ms.length=l.length/\∀(j i:Nat),Nat.testBit ((ms[j]?).getD 0) i=true->
  ∃oj,l[j]?=some oj/\∃e∈oj.after,Region.binds md e=true/\(e.on=i\/(e.on<j/\Nat.testBit ((ms[e.on]?).getD 0) i=true))
def AR.step{l:List Oper}{ms:List Nat}(h0:AR md l ms)(o:Oper):AR md (l++[o]) (C7 md ms o):=by
 obtain⟨ih1,ih2⟩:=h0;refine⟨by simp[C7,ih1],?_⟩;intro j i h;unfold C7 at h|-;by_cases hj:j<ms.length
 .rw[pI hj]at h;obtain⟨oj,h1,e,h2,h3,h4⟩:=ih2 j i h;refine⟨oj,by rw[pI an];exact h1,e,h2,h3,h4.imp id λ⟨h5,h6⟩=>⟨h5,?_⟩⟩;rw[pI an];exact h6
 .rw[pR an]at h
  have hj0:j-ms.length=0:=by
   rcases uc (j-ms.length) with h0|h0
   .exact h0
   .rw[rQ ar]at h;simp at h
  rw[hj0]at h;simp only[eh,rO]at h;rcases K1 h with h1|⟨e,h1,h2,h3⟩
  .simp at h1
  .refine⟨o,by rw[pR an,<-ih1,hj0];rfl,e,ai h1,h2,h3.imp id λh4=>?_⟩
   have ft:e.on<ms.length:=by
    rcases tu e.on ms.length with h5|h5
    .exact h5
    .rw[rQ h5]at h4;simp at h4
   exact⟨an,by rw[pI ft];exact h4⟩
def AR.fold{md:Region.Mode}:∀{l pre:List Oper} {ms:List Nat},AR md pre ms->AR md (pre++l) (l.foldl (C7 md) ms)
 |[],pre,ms,h=>by simpa using h
 |o::l,pre,ms,h=>by
  have:=(h.step o).fold (l:=l);simpa using this
def J4(ops:Array Oper):AR md ops.toList (nz md ops):=by
 have:=AR.fold (md:=md) (l:=ops.toList) (pre:=[]) (ms:=[]) ⟨rfl,ah⟩;simpa [nz] using this
def Down(md:Region.Mode)(ops:Array Oper)(listed:Array Bool):Prop:=∀j oj,ops[j]?=some oj->listed.getD j false=true->∀e∈oj.after,Region.binds md e=true->listed.getD e.on false=true
def Down.start:Down md ops (Array.replicate ops.size false):=λj oj _ h=>by
 exfalso
 rw[rI,Array.getElem?_replicate]at h;split at h <;> simp at h
def Down.dep(hd:Down md ops listed)(j i:Nat)(hj:listed.getD j false=true)(h:nW md ops (nz md ops) j i=true):listed.getD i false=true:=by
 induction j using Nat.strongRecOn with
 |_ j ih=>
  obtain⟨oj,h1,e,h2,h3,h4⟩:=(J4 (md:=md) ops).2 j i h;have h5:=hd j oj uZ hj e h2 h3;rcases h4 with rfl|⟨h6,h7⟩
  .exact h5
  .exact ih e.on h6 h5 h7
def Down.ready(hd:Down md ops listed)(hj:j∈Region.ready md ops listed)(h:nW md ops (nz md ops) j i=true):listed.getD i false=true:=by
 obtain⟨_,oj,ho,qd⟩:=mem_ready.1 hj;obtain⟨oj',h1,e,h2,h3,h4⟩:=(J4 (md:=md) ops).2 j i h
 have e1:oj'=oj:=by
  have:ops[j]?=some oj':=ai h1
  rw[ho]at this;cases this
  rfl
 subst e1;have h5:=qd e h2 h3;rcases h4 with rfl|⟨h6,h7⟩
 .exact h5
 .exact hd.dep e.on i h5 h7
def Down.step(hd:Down md ops listed)(hi:i∈Region.ready md ops listed):Down md ops (listed.setIfInBounds i true):=λj oj ho hj e he hb=>by
 by_cases hji:i=j
 .subst hji;obtain⟨_,oi,ho',qd⟩:=mem_ready.1 hi;rw[ho]at ho';cases ho'
  exact getD_set_true (qd e he hb)
 .rw[getD_set_ne false hji]at hj;exact getD_set_true (hd j oj ho hj e he hb)
def QA(P:Program)(ops:Array Oper)(Hs:Nat->zq)(r:Nat->Bool)(o:Oper)(c:C)(t:List C):Prop:=
 (jD ops t o=some true/\∀k,r k=true->fE P o (ev t) (Hs k) c (Hs k))\/(jD ops t o=some false/\c=.un)
def EA(P:Program)(ops:Array Oper)(H H':zq)(o:Oper)(c:C)(t:List C):Prop:=
 (jD ops t o=some true/\fE P o (ev t) H c H')\/(jD ops t o=some false/\c=.un/\H'=H)
def QA.put{r:Nat->Bool}{o:Oper}{c x:C}{t:List C}{dst:Option Tmp}(h:∀d,dst=some d->d∉o.looksAt ops):QA P ops Hs r o c (put t dst x)↔QA P ops Hs r o c t:=by
 unfold QA;rw[vf h];constructor
 .rintro(⟨h1,h2⟩|h1)
  .exact .inl ⟨h1,λk hk=>(fE.put h).1 (h2 k hk)⟩
  .exact .inr h1
 .rintro(⟨h1,h2⟩|h1)
  .exact .inl ⟨h1,λk hk=>(fE.put h).2 (h2 k hk)⟩
  .exact .inr h1
def EA.put{H H':zq}{o:Oper}{c x:C}{t:List C}{dst:Option Tmp}(h:∀d,dst=some d->d∉o.looksAt ops):EA P ops H H' o c (put t dst x)↔EA P ops H H' o c t:=by
 unfold EA;rw[vf h,fE.put h]
def Fb(P:Program)(ops:Array Oper)(Hs:Nat->zq)(eff:Nat->Bool)(idx:Nat->Nat)(inR:Nat->Nat->Bool)(i:Nat)(o:Oper)(c:C)(n':Nat)(t:List C)(n:Nat):Prop:=
 (eff i=false/\inR i n=true/\QA P ops Hs (inR i) o c t/\n'=n)\/(eff i=true/\idx i=n/\EA P ops (Hs n) (Hs (n+1)) o c t/\n'=n+1)
def mq(P:Program)(ops:Array Oper)(Hs:Nat->zq)(eff:Nat->Bool)(idx:Nat->Nat)(inR:Nat->Nat->Bool)(i:Nat)(K:List C->Nat->Prop)(t:List C)(n:Nat):Prop:=
 match ops[i]? with
 |none=>K t n
 |some o=>∃c n',Fb P ops Hs eff idx inR i o c n' t n/\K (put t o.dst c) n'
def Uj{t:List C}{n:Nat}{K K':List C->Nat->Prop}(h:∀t n,K t n->K' t n)(hh:mq P ops Hs eff idx inR i K t n):mq P ops Hs eff idx inR i K' t n:=by
 unfold mq at *;split
 .exact h _ _ (by simpa [*] using hh)
 .rename_i o ho;simp only[ho]at hh;obtain⟨c,n',h1,h2⟩:=hh;exact⟨c,n',h1,h _ _ h2⟩
def Ax(P:Program)(ops:Array Oper)(Hs:Nat->zq)(eff:Nat->Bool)(idx:Nat->Nat)(inR:Nat->Nat->Bool)(Q:List C->Nat->Prop):List Oper->Nat->List C->Nat->Prop
 |[],_,t,n=>Q t n
 |_::l,k,t,n=>mq P ops Hs eff idx inR k (Ax P ops Hs eff idx inR Q l (k+1)) t n
def DG(P:Program)(md:Region.Mode)(ops:Array Oper)(Hs:Nat->zq)(eff:Nat->Bool)(idx:Nat->Nat)(inR:Nat->Nat->Bool)(Q:List C->Nat->Prop):Nat->Array Bool->List C->Nat->Prop
 |0,listed,t,n=>Region.ready md ops listed=[]/\Q t n
 |fuel+1,listed,t,n=>(Region.ready md ops listed=[]->Q t n)/\∀i∈Region.ready md ops listed,mq P ops Hs eff idx inR i (DG P md ops Hs eff idx inR Q fuel (listed.setIfInBounds i true)) t n
def yo{q:Option Nat}{m:Nat}{H0:zq}{Q:List C->Nat->Prop}{w0:World}{E0:Env}{Q':Exit->Act->World->Prop}(hQ:∀t n w E a,Q t n->xM B m w E ⟨t,Hs n⟩ a->jA B w0 E0 H0 w E (Hs n)->Q' .normal a w):
  ∀(fuel:Nat) (listed:Array Bool) (t:List C) (n:Nat) (w:World) (E:Env) (a:Act),xM B m w E ⟨t,Hs n⟩ a->jA B w0 E0 H0 w E (Hs n)->DG P md ops Hs eff idx inR Q fuel listed t n->wpAnyIn (fw q) 0 P md ops Q' fuel listed a w
 |0,_,t,n,w,E,a,hs,hg,h=>⟨h.1,hQ t n w E a h.2 hs hg⟩
 |fuel+1,listed,t,n,w,E,a,hs,hg,h=>⟨λh0=>hQ t n w E a (h.1 h0) hs hg,λi hi=>by
   have h1:=h.2 i hi;unfold mq at h1;unfold wpOpIn;split
   .rename_i ho;simp only[ho]at h1;exact yo hQ fuel _ t n w E a hs hg h1
   .rename_i o ho;simp only[ho]at h1;obtain⟨c,n',hf,hK⟩:=h1;rcases hf with⟨_,hin,⟨hw,hv⟩|⟨hw,rfl⟩,rfl⟩|⟨_,_,⟨hw,hv⟩|⟨hw,rfl,he⟩,rfl⟩
    .rw[pD (jN hs.tmps hw)];exact Ac.EP (s:=⟨t,Hs n'⟩) (hv _ hin) q m w E a _ Q' hs λw' E' a' h2 g2=>yo hQ fuel _ (put t o.dst c) n' w' E' a' h2 (hg.trans g2) hK
    .rw[pA aZ];exact⟨λ_ _=>trivial,yo hQ fuel _ (put t o.dst .un) n' w E _ (hs.put .un o.dst) hg hK⟩
    .rw[pD (jN hs.tmps hw)];exact Ac.EP (s:=⟨t,Hs n⟩) hv q m w E a _ Q' hs λw' E' a' h2 g2=>yo hQ fuel _ (put t o.dst c) (n+1) w' E' a' h2 (hg.trans g2) hK
    .rw[pA aZ];have hs':=hs.put .un o.dst;exact⟨λ_ _=>trivial,yo hQ fuel _ (put t o.dst .un) (n+1) w E _ (by rw[he];exact hs') (by rw[he];exact hg) hK⟩⟩
structure CC(md:Region.Mode)(ops:Array Oper)(eff:Nat->Bool)(idx:Nat->Nat)(inR:Nat->Nat->Bool)(i j:Nat):Prop where
 c1:eff i=false->eff j=true->nW md ops (nz md ops) j i=false->inR i (idx j)=true->inR i (idx j+1)=true
 c2:eff i=true->eff j=false->nW md ops (nz md ops) j i=false->inR j (idx i+1)=true->inR j (idx i)=true
def Uk{oj:Oper}{c:C}{n ni:Nat}(hj:ops[j]?=some oj)(hap:oi.apart ops oj=true)(he:eff i=true->eff j=false)(hp:CC md ops eff idx inR i j)(hno:nW md ops (nz md ops) j i=false){K:List C->Nat->Prop}{t:List C}
 (hf:Fb P ops Hs eff idx inR i oi c ni t n)(h:mq P ops Hs eff idx inR j K (put t oi.dst c) ni):
  mq P ops Hs eff idx inR j (λt' n'=>∃n2,Fb P ops Hs eff idx inR i oi c n2 t' n'/\K (put t' oi.dst c) n2) t n:=by
 obtain⟨h1,h2,h3⟩:=Oper.apart_spec hap;unfold mq at *;simp only[hj] at *;obtain⟨cj,nj,hfj,hK⟩:=h;rw[put_comm _ _ h2]at hK;rcases hf with⟨e1,e2,e3,rfl⟩|⟨e1,e2,e3,rfl⟩
 .rcases hfj with⟨f1,f2,f3,rfl⟩|⟨f1,f2,f3,rfl⟩
  .exact⟨cj,nj,.inl ⟨f1,f2,(QA.put h1).1 f3,rfl⟩,nj,.inl ⟨e1,e2,(QA.put h3).2 e3,rfl⟩,hK⟩
  .refine⟨cj,ni+1,.inr ⟨f1,f2,(EA.put h1).1 f3,rfl⟩,ni+1,.inl ⟨e1,?_,(QA.put h3).2 e3,rfl⟩,hK⟩;rw[<-f2];exact hp.c1 e1 f1 hno (by rw[f2];exact e2)
 .rcases hfj with⟨f1,f2,f3,rfl⟩|⟨f1,f2,f3,rfl⟩
  .refine⟨cj,n,.inl ⟨f1,?_,(QA.put h1).1 f3,rfl⟩,n+1,.inr ⟨e1,e2,(EA.put h3).2 e3,rfl⟩,hK⟩;rw[<-e2];exact hp.c2 e1 f1 hno (by rw[e2];exact f2)
  .rw[he e1]at f1;cases f1
def Si{Q:List C->Nat->Prop}{c:C}(hi:ops[i]?=some oi):
  ∀(fuel:Nat) (listed:Array Bool) (t:List C) (n ni:Nat),Down md ops listed->
   (∀j oj,ops[j]?=some oj->j≠i->listed.getD j true=false->(∀e∈oj.after,Region.binds md e=true->e.on≠i)->oi.apart ops oj=true/\(eff i=true->eff j=false)/\CC md ops eff idx inR i j)->
   i∈Region.ready md ops listed->Fb P ops Hs eff idx inR i oi c ni t n->
   DG P md ops Hs eff idx inR Q fuel (listed.setIfInBounds i true) (put t oi.dst c) ni->DG P md ops Hs eff idx inR Q (fuel+1) listed t n:=by
 intro fuel
 induction fuel with
 |zero=>
  intro listed t n ni _ _ hr hy H;refine⟨λh=>bc,λj hj=>?_⟩;by_cases hji:j=i
  .subst hji;unfold mq;simp only[hi];exact⟨c,ni,hy,H⟩
  .have:=ready_mono hj hji;rw[H.1]at this;cases this
 |succ fuel ih=>
  intro listed t n ni hdown hfree hr hy H;refine⟨λh=>bc,λj hj=>?_⟩;by_cases hji:j=i
  .subst hji;unfold mq;simp only[hi];exact⟨c,ni,hy,H⟩
  .have h1:=H.2 j (ready_mono hj hji);obtain⟨hjun,oj,hoj,qd⟩:=mem_ready.1 hj
   have hiun:listed.getD i false=false:=by
    have h0:=(mem_ready.1 hr).1;rcases tu i listed.size with h'|h'
    .simp[h']at h0|-;exact h0
    .simp[s7 h']
   have hnot:∀e∈oj.after,Region.binds md e=true->e.on≠i:=λe he hb heq=>by
    have h1:=qd e he hb;rw[heq,hiun]at h1;cases h1
   have hno:nW md ops (nz md ops) j i=false:=by
    cases hd:nW md ops (nz md ops) j i with
    |false=>rfl
    |true=>have:=hdown.ready hj hd;rw[hiun]at this;cases this
   obtain⟨hap,hee,hp⟩:=hfree j oj hoj hji hjun hnot;have h2:=Uk hoj hap hee hp hno hy h1
   have hfree':∀k ok,ops[k]?=some ok->k≠i->(listed.setIfInBounds j true).getD k true=false->
     (∀e∈ok.after,Region.binds md e=true->e.on≠i)->oi.apart ops ok=true/\(eff i=true->eff k=false)/\CC md ops eff idx inR i k:=λk ok hk hki hun hno=>by
    refine hfree k ok hk hki ?_ hno;by_cases hjk:j=k
    .subst hjk;exact hjun
    .rw[getD_set_ne true hjk]at hun;exact hun
   refine Uj (λt' n' ⟨n2,h3,h4⟩=>ih (listed.setIfInBounds j true) t' n' n2 (hdown.step hj) hfree' (ready_mono hr (Ne.symm hji)) h3 ?_) h2;rw[ec _ _ hji];exact h4
def Ly{Q:List C->Nat->Prop}(hE:Bi md ops eff=true)(hP:∀i j,CC md ops eff idx inR i j):∀(l:List Oper) (k:Nat) (listed:Array Bool) (t:List C) (n:Nat),Down md ops listed->(∀j,l[j]?=ops[k+j]?)->(∀j,j<k->listed.getD j true=true)->
  Region.lexFrom md ops l.length k listed=true->Ax P ops Hs eff idx inR Q l k t n->DG P md ops Hs eff idx inR Q l.length listed t n
 |[],_,_,_,_,_,_,_,hB,h=>⟨by simpa [Region.lexFrom] using hB,h⟩
 |o::l,k,listed,t,n,hd,hl,hk,hB,h=>by
  have h0:ops[k]?=some o:=by simpa using (hl 0).symm
  simp only[r8,Region.lexFrom,pJ]at hB;obtain⟨⟨hr,hf⟩,hB'⟩:=hB;have h':mq P ops Hs eff idx inR k (Ax P ops Hs eff idx inR Q l (k+1)) t n:=h;unfold mq at h';simp only[h0]at h';obtain⟨c,n',hfst,hK⟩:=h';have hr':k∈Region.ready md ops listed:=ai hr
  refine Si h0 l.length listed t n n' hd (λj oj hj hne hun hno=>⟨Region.free_spec h0 hf j oj hj hne hun hno,λhe=>?_,hP k j⟩) hr' hfst
   (Ly hE hP l (k+1) _ _ _ (hd.step hr') (λj=>by have:=hl (j+1);simpa [sS,ff 1 j] using this) ?_ hB' hK)
  .refine KD hE he ?_ hj hno;rcases sC j k with ft|heq|ft
   .rw[hk j ft]at hun;cases hun
   .exact absurd heq hne
   .exact ft
  .intro j hj;by_cases hjk:k=j
   .subst hjk;by_cases ft:k<listed.size
    .simp[ft]
    .simp[ft]
   .rw[getD_set_ne true hjk];exact hk j an
def Run.Yq{id n':Nat}{t t':List C}(hm:P.follows .mixedOrders=true)(hB:Region.lexB .any ops=true)(hE:Bi .any ops eff=true)(hP:∀i j,CC .any ops eff idx inR i j)(hH:Hs 0=H)
 (h:Ax P ops Hs eff idx inR (λt n=>t=t'/\n=n') ops.toList 0 t 0):Run P B (.region id ops true) ⟨t,H⟩ .normal ⟨t',Hs n'⟩:=λq m w E a Q _ hs hq=>by
 simp only[Region.lexB,pJ]at hB;subst hH;refine wpIn_region_any hm (yo (Hs:=Hs) (eff:=eff) (idx:=idx) (inR:=inR) (H0:=Hs 0) (Q:=λt n=>t=t'/\n=n') (w0:=w) (E0:=E) (λt1 n1 w1 E1 a1 he h1 g1=>by obtain⟨rfl,rfl⟩:=he;exact hq _ _ w1 E1 a1 ⟨rfl,rfl⟩ h1 g1) _ _ t 0 _ E a hs.drew ((Grow.drew w E (Hs 0)).iW tA) ?_);have:=Ly (Hs:=Hs) (eff:=eff) (idx:=idx) (inR:=inR) (Q:=λt n=>t=t'/\n=n') (P:=P) (md:=.any) hE hP ops.toList 0 (Array.replicate ops.size false) t 0 Down.start ah (λj hj=>absurd hj (rA j)) (ai hB.2) h;simpa using this
structure ly where
 calls:Bool
 bl:List Nat
 keep:List Nat:=[]
 calm:List Nat:=[]
def og:List Nat->Nat->Bool
 |[],_=>false
 |x::xs,k=>match Nat.beq x k with|true=>true|false=>og xs k
def ly.blind(T:ly)(k:Nat):Bool:=og T.bl k
def ly.Dh(T:ly)(k:Nat):Bool:=match T.calls with|true=>!og T.calm k|false=>false
def wX(T:ly)(ops:Array Oper)(i:Nat):Bool:=match ops[i]? with|some o=>Dq (T.Dh i) o && !T.blind i|none=>false
def yz(T:ly)(ops:Array Oper)(i:Nat):Nat:=((List.range i).filter (wX T ops)).length
def mi(T:ly)(ops:Array Oper)(i k:Nat):Bool:=match ops[i]? with|some o=>(xD o || T.blind i) || k == yz T ops i|none=>true
def HE(md:Region.Mode)(T:ly)(ops:Array Oper)(ms:List Nat):Bool:=
 Bi md ops (wX T ops) && (List.range ops.size).all λi=>(List.range ops.size).all λj=>
  (!(wX T ops j) || wX T ops i || mi T ops i (yz T ops j+1) || !(mi T ops i (yz T ops j)) || nW md ops ms j i) &&
  (!(wX T ops i) || wX T ops j || mi T ops j (yz T ops i) || !(mi T ops j (yz T ops i+1)) || nW md ops ms j i)
def Cy(md:Region.Mode)(T:ly)(ops:Array Oper):Bool:=HE md T ops (nz md ops)
def Tz{T:ly}(h:Cy md T ops=true)(i j:Nat):CC md ops (wX T ops) (yz T ops) (mi T ops) i j:=by
 simp only[Cy,HE,pJ,pG,sy]at h
 have he:∀i,wX T ops i=true->i<ops.size:=λi hi=>by
  unfold wX at hi;split at hi
  .rename_i o ho;exact(pP.1 ho).1
  .cases hi
 have hin:∀i k,¬i<ops.size->mi T ops i k=true:=λi k hi=>by
  unfold mi;rw[s7 an]
 constructor
 .intro h1 h2 h3 h4;by_cases hi:i<ops.size
  .have:=(h.2 i hi j (he j h2)).1;simp only[h1,h2,h3,h4,ey,sD,Bool.or_false]at this;exact gI
  .exact hin i _ hi
 .intro h1 h2 h3 h4;by_cases hj:j<ops.size
  .have:=(h.2 i (he i h1) j hj).2;simp only[h1,h2,h3,h4,ey,sD,Bool.or_false]at this;exact gI
  .exact hin j _ hj
def Dx(o:Oper):Bool:=match o.op with|.load ..=>true|_=>false
def Kp{K:C->zq->Prop}(hb:Dx o=true)(h:nQ P H ρ o K):∃c,fE P o ρ H c H/\K c H:=by
 unfold Dx at hb;split at hb
 .rename_i t x ho;unfold nQ at h;rw[ho]at h;dsimp only at h;obtain⟨c,h1,h2⟩:=D1 h;exact⟨c,.same <|.load t x ho h1,h2⟩
 .cases hb
def kM(keep:List Nat)(H H':zq):Prop:=∀id,og keep id=true->H'[id]?=H[id]?
def kM.refl(keep:List Nat)(H:zq):kM keep H H:=λ_ _=>rfl
def kM.trans{keep:List Nat}{H H' H'':zq}(h:kM keep H H')(h':kM keep H' H''):kM keep H H'':=λid hi=>(h' id hi).trans (h id hi)
def DC(H H':zq)(k:Prop):List Nat->Prop
 |[]=>k
 |id::ids=>H'[id]?=H[id]?/\DC H H' k ids
def D3{H H':zq}{k:Prop}:∀{keep:List Nat},DC H H' k keep->kM keep H H'/\k
 |[],h=>⟨λid hi=>by simp[og]at hi,h⟩
 |x::xs,h=>by
  obtain⟨h1,h2⟩:=h;obtain⟨h3,h4⟩:=D3 h2;refine⟨λid hi=>?_,h4⟩;unfold og at hi;split at hi
  .rename_i e;obtain rfl:=eI e;exact h1
  .exact h3 id hi
def T2{id:Nat}(h:H'[id]?=H[id]?)(hops:List fY):qe H' id hops=qe H id hops:=by unfold qe;rw[h]
def Tc{id:Nat}{k:Nat}(h:H'[id]?=H[id]?):wN P H' t (.ref id hops sz i k)=wN P H t (.ref id hops sz i k):=by
 unfold wN oA;simp only[T2 h]
def EG(P:Program)(keep:List Nat)(H:zq)(ρ:Operand->C)(o:Oper)(K:C->zq->Prop):Prop:=
 match o.op with
 |.load t x=>match ρ x with
  |.jR cells=>Dw P H t (.jR cells) λc=>K c H
  |.ref id hops sz i k=>bK (og keep id) <|Dw P H t (.ref id hops sz i k) λc=>K c H
  |_=>False
 |.call cl=>match cl.callee with
  |.value x=>match ρ x with
   |.fn f first caps=>bK (qv P f) <| ∃r,(∀H2,zb P f H2 (first++(cl.args.toList.map λx=>ij (ρ x))++caps) r H2)/\okB r λr=>K r H
   |_=>False
  |_=>False
 |.makeSlice t x y=>match ρ x,ρ y with
  |.v (.int _ n),.v (.int _ n')=>match P.underlying t with
   |some (.slice e)=>match P.info? e with
    |some i=>match mY P e with
     |some cs=>bK (cs.all jV) <|n'=n/\0<=n/\(i.bytes:Int)*n<=281474976710656/\n<=9223372036854775807/\jj i.size λsz=>K (.fq 0 sz (List.replicate n.toNat cs)) H
     |none=>False
    |none=>False
   |_=>False
  |_,_=>False
 |_=>False
def JH{keep:List Nat}{K:C->zq->Prop}(h:EG P keep H ρ o K):∃c,(∀H2,kM keep H H2->fE P o ρ H2 c H2)/\K c H:=by
 unfold EG at h;split at h
 .rename_i t x ho;split at h
  .rename_i cells hx;obtain⟨c,h1,h2⟩:=D1 h;refine⟨c,λH2 _=>.same <|.load t x ho ?_,h2⟩;rw[hx,<-h1]
   rfl
  .rename_i id hops sz i k hx;obtain⟨h0,h⟩:=qb h;obtain⟨c,h1,h2⟩:=D1 h;refine⟨c,λH2 hs=>.same <|.load t x ho ?_,h2⟩;rw[hx,<-h1];exact Tc (hs id h0)
  .exact dA
 .rename_i cl ho;split at h
  .rename_i x hcl;split at h
   .rename_i f first caps hf;obtain⟨h1,r,h2,h3⟩:=qb h;exact⟨r,λH2 _=>.HJ cl ho x hcl hf h1 (h2 H2),jg (k:=λc=>K c H) h3⟩
   .exact dA
  .exact dA
 .rename_i t x y ho;split at h
  .rename_i k n k' n' hx hy;split at h
   .rename_i e hu;split at h
    .rename_i i hi;split at h
     .rename_i cs hz;obtain⟨h1,rfl,h2,h3,h4,h5⟩:=qb h;exact⟨_,λH2 _=>.same <|.Te t x y ho hu hi hz h1 hx hy h2 h3 h4,qw (k:=λsz=>K (.fq 0 sz (List.replicate n'.toNat cs)) H) h5⟩
     .exact dA
    .exact dA
   .exact dA
  .exact dA
 .exact dA
def H9(P:Program)(T:ly)(ops:Array Oper)(o:Oper)(next:Nat->List C->zq->(List C->zq->Prop)->Prop)(k:Nat)(t:List C)(H:zq)(K:List C->zq->Prop):Prop:=
 match jD ops t o with
 |some true=>match T.blind k with
  |true=>EG P T.keep H (ev t) o λc H'=>nc t o.dst c λt=>next (k+1) t H K
  |false=>match Dq (T.Dh k) o with
   |true=>nQ P H (ev t) o λc H'=>DC H H' (nc t o.dst c λt=>next (k+1) t H' K) T.keep
   |false=>match xD o || Dx o with
    |true=>nQ P H (ev t) o λc H'=>nc t o.dst c λt=>next (k+1) t H' K
    |false=>nQ P H (ev t) o λc H'=>H'=H/\nc t o.dst c λt=>next (k+1) t H K
 |some false=>nc t o.dst .un λt=>next (k+1) t H K
 |none=>False
def mZ(P:Program)(T:ly)(ops:Array Oper)(l:List Oper):Nat->List C->zq->(List C->zq->Prop)->Prop:=
 List.rec (motive:=λ_=>Nat->List C->zq->(List C->zq->Prop)->Prop) (λ_ t H K=>K t H) (λo _ next=>H9 P T ops o next) l
theorem U9(T:ly)(o:Oper)(l:List Oper)(k:Nat)(t:List C)(H:zq)(K:List C->zq->Prop):mZ P T ops (o::l) k t H K=H9 P T ops o (mZ P T ops l) k t H K:=rfl
def KV(T:ly)(k:Nat):yz T ops (k+1)=yz T ops k+if wX T ops k then 1 else 0:=by
 unfold yz;rw[u5,List.filter_append,rB];cases h:wX T ops k <;> simp[h]
def GD{T:ly}{D:zq}:∀{l:List Oper} {k:Nat} {t:List C} {H:zq} {K:List C->zq->Prop},(∀j,l[j]?=ops[k+j]?)->kM T.keep H D->mZ P T ops l k t H K->
  ∃(L:List zq) (t':List C),K t' ((H::L).getLast ah)/\(∀X∈L,kM T.keep H X)/\∀past:List zq,past.length=yz T ops k->(∀X∈past,kM T.keep H X)->
   Ax P ops (λi=>((past++H::L)[i]?).getD D) (wX T ops) (yz T ops) (mi T ops) (λt n=>t=t'/\n=yz T ops k+L.length) l k t (yz T ops k)
 |[],k,t,H,K,hl,hD,h=>⟨[],t,h,ah,λpast hp _=>⟨rfl,rfl⟩⟩
 |o::l,k,t,H,K,hl,hD,h=>by
  have h0:ops[k]?=some o:=by simpa using (hl 0).symm
  have hl':∀j,l[j]?=ops[k+1+j]?:=λj=>by have:=hl (j+1);simpa [sS,ff 1 j] using this
  have he:wX T ops k=(Dq (T.Dh k) o && !T.blind k):=by unfold wX;rw[h0]
  have hin:∀m,mi T ops k m=((xD o || T.blind k) || m == yz T ops k):=λm=>by unfold mi;rw[h0]
  have all:∀(past L:List zq),(∀X∈past,kM T.keep H X)->(∀X∈L,kM T.keep H X)->∀m:Nat,kM T.keep H (((past++H::L)[m]?).getD D):=λpast L hp hL m=>by
   cases hx:(past++H::L)[m]? with
   |none=>exact hD
   |some X=>
    have:=pE hx;rcases pS.1 this with h1|h1
    .exact hp X h1
    .rcases s4.1 h1 with rfl|h1
     .exact .refl _ _
     .exact hL X h1
  have quiet:∀c,wX T ops k=false->(∀past L,past.length=yz T ops k->(∀X∈past,kM T.keep H X)->(∀X∈L,kM T.keep H X)->QA P ops (λi=>((past++H::L)[i]?).getD D) (mi T ops k) o c t)->mZ P T ops l (k+1) (put t o.dst c) H K->
    ∃(L:List zq) (t':List C),K t' ((H::L).getLast ah)/\(∀X∈L,kM T.keep H X)/\∀past:List zq,past.length=yz T ops k->(∀X∈past,kM T.keep H X)->
     Ax P ops (λi=>((past++H::L)[i]?).getD D) (wX T ops) (yz T ops) (mi T ops) (λt n=>t=t'/\n=yz T ops k+L.length) (o::l) k t (yz T ops k):=λc ht hq hK=>by
   obtain⟨L,t',h1,hL,h2⟩:=GD hl' hD hK;have hc:yz T ops (k+1)=yz T ops k:=by rw[KV,ht];rfl
   rw[hc]at h2;refine⟨L,t',h1,hL,λpast hp hs=>?_⟩;unfold Ax mq;rw[h0];exact⟨c,_,.inl ⟨ht,by rw[hin];simp,hq past L hp hs hL,rfl⟩,h2 past hp hs⟩
  have Ag:∀c H',wX T ops k=true->EA P ops H H' o c t->kM T.keep H H'->mZ P T ops l (k+1) (put t o.dst c) H' K->
    ∃(L:List zq) (t':List C),K t' ((H::L).getLast ah)/\(∀X∈L,kM T.keep H X)/\∀past:List zq,past.length=yz T ops k->(∀X∈past,kM T.keep H X)->
     Ax P ops (λi=>((past++H::L)[i]?).getD D) (wX T ops) (yz T ops) (mi T ops) (λt n=>t=t'/\n=yz T ops k+L.length) (o::l) k t (yz T ops k):=λc H' ht hq hsm hK=>by
   have back:kM T.keep H' H:=λid hi=>(hsm id hi).symm
   obtain⟨L,t',h1,hL,h2⟩:=GD hl' (back.trans hD) hK;have hc:yz T ops (k+1)=yz T ops k+1:=by rw[KV,ht];rfl
   rw[hc]at h2;refine⟨H'::L,t',ai h1,λX hX=>?_,λpast hp hs=>?_⟩
   .rcases s4.1 hX with rfl|hX
    .exact hsm
    .exact hsm.trans (hL X hX)
   have h3:=h2 (past++[H]) (by simp[hp]) (λX hX=>by
    rcases pS.1 hX with h|h
    .exact back.trans (hs X h)
    .rw[rH.1 h];exact back)
   unfold Ax mq;rw[h0];refine⟨c,yz T ops k+1,.inr ⟨ht,rfl,?_,rfl⟩,?_⟩
   .have e1:((past++H::H'::L)[yz T ops k]?).getD D=H:=by rw[<-hp];simp
    have e2:((past++H::H'::L)[yz T ops k+1]?).getD D=H':=by rw[<-hp,pR an];simp
    dsimp only;rw[e1,e2];exact hq
   .simpa [sa,sS,ff 1] using h3
  have same:∀(past L:List zq),past.length=yz T ops k->((past++H::L)[yz T ops k]?).getD D=H:=λpast L hp=>by rw[<-hp];simp
  rw[U9]at h;unfold H9 at h;split at h
  .rename_i hw;cases hbl:T.blind k with
   |true=>
    rw[hbl]at h;obtain⟨c,h1,h2⟩:=JH h;exact quiet c (by rw[he,hbl];simp) (λpast L _ hs hL=>.inl ⟨hw,λm _=>h1 _ (all past L hs hL m)⟩) (jH (k:=λt=>mZ P T ops l (k+1) t H K) h2)
   |false=>
   rw[hbl]at h;simp only at h;have he2:wX T ops k=Dq (T.Dh k) o:=by rw[he,hbl];simp
   cases ht:Dq (T.Dh k) o with
   |true=>
    rw[ht]at h;obtain⟨c,H',h1,h2⟩:=F2 h;obtain⟨h3,h4⟩:=D3 h2;exact Ag c H' (he2.trans ht) (.inl ⟨hw,h1⟩) h3 (jH (k:=λt=>mZ P T ops l (k+1) t H' K) h4)
   |false=>
    rw[ht]at h;simp only at h;cases hb:xD o with
    |true=>
     rw[hb,fi]at h;obtain⟨c,h1,h2⟩:=JC hb h;exact quiet c (he2.trans ht) (λpast L _ _ _=>.inl ⟨hw,λm _=>h1 _⟩) (jH (k:=λt=>mZ P T ops l (k+1) t H K) h2)
    |false=>
     rw[hb,sD]at h
     have only:∀c,fE P o (ev t) H c H->∀past L,past.length=yz T ops k->(∀X∈past,kM T.keep H X)->(∀X∈L,kM T.keep H X)->QA P ops (λi=>((past++H::L)[i]?).getD D) (mi T ops k) o c t:=λc h1 past L hp _ _=>.inl ⟨hw,λm hm=>by
      rw[hin,hb,hbl,sD,sD,rF]at hm;subst hm;dsimp only;rw[same past L hp];exact h1⟩
     cases hlo:Dx o with
     |true=>
      rw[hlo]at h;obtain⟨c,h1,h2⟩:=Kp hlo h;exact quiet c (he2.trans ht) (only c h1) (jH (k:=λt=>mZ P T ops l (k+1) t H K) h2)
     |false=>
      rw[hlo]at h;obtain⟨c,H',h1,rfl,h2⟩:=F2 h;exact quiet c (he2.trans ht) (only c h1) (jH (k:=λt=>mZ P T ops l (k+1) t _ K) h2)
  .rename_i hw;have hK:=jH (k:=λt=>mZ P T ops l (k+1) t H K) h;cases ht:wX T ops k with
   |true=>exact Ag .un H ht (.inr ⟨hw,rfl,rfl⟩) (.refl _ _) hK
   |false=>exact quiet .un ht (λpast L _ _ _=>.inr ⟨hw,rfl⟩) hK
  .exact dA
def Run.Yr{id:Nat}{T:ly}{t:List C}{K:List C->zq->Prop}(hm:P.follows .mixedOrders=true)(hB:Region.lexB .any ops=true)(hT:Cy .any T ops=true)(h:mZ P T ops ops.toList 0 t H K):
  ∃s',Run P B (.region id ops true) ⟨t,H⟩ .normal s'/\K s'.tmps s'.H:=by
 obtain⟨L,t',h1,_,h2⟩:=GD (k:=0) (D:=H) ah (.refl _ _) h;have h3:=h2 [] V ah;have hE:Bi .any ops (wX T ops)=true:=by simp only[Cy,HE,pJ]at hT;exact hT.1
 have:=Run.Yq (B:=B) (id:=id) (Hs:=λi=>((H::L)[i]?).getD H) (eff:=wX T ops) (idx:=yz T ops) (inR:=mi T ops) (n':=L.length) (t':=t') hm hB hE (λi j=>Tz hT i j) V (by simpa [yz] using h3);refine⟨_,this,?_⟩
 have e:((H::L)[L.length]?).getD H=(H::L).getLast ah:=by
  rw[List.getLast_eq_getElem];simp
 dsimp only;rw[e];exact h1
end
def Ck:C->Bool
 |.agg cs=>cs.all jV
 |c=>jV c
def qL(H:zq):Bool:=H.all λob=>match ob.kind with
 |1=>ob.rows.all λr=>r.all zF
 |4=>ob.fz == 0 || (match ob.rows with|[.rc _::t]=>t.all Ck|_=>false)
 |_=>true
def DV{id:Nat}{r':List C}(hob:H[id]?=some ⟨1,ty,sz,[r],fz⟩)(hno:r.all zF=true)(hno':r'.all zF=true){id':Nat}{p:List fY}{x:Nat×List (List C)}
 (h:qe (H.set id ⟨1,ty,sz,[r'],fz⟩) id' p=some x):(id'≠id/\qe H id' p=some x)\/(id'=id/\p=[]/\x=(sz,[r'])/\qe H id []=some (sz,[r])):=by
 obtain⟨ob,ho,hk,hg⟩:=qU h;by_cases hi:id'=id
 .subst hi
  right
  rw[pM,pD V,pD (px.1 hob).1]at ho;cases ho
  obtain⟨rfl,rfl⟩:=wu (λi k c hc=>by
   obtain⟨rfl,hc⟩:=y7.1 hc;exact pG.1 hno' c (pE hc)) hg
  exact⟨rfl,rfl,rfl,by unfold qe;rw[hob];simp[qT]⟩
 .left
  refine⟨hi,?_⟩;rw[pM,pA (Ne.symm hi)]at ho;unfold qe;rw[ho];simp only[hk,if_true];exact hg
def qa.Ds(h:qa w E H){id:Nat}{r':List C}(hob:H[id]?=some ⟨1,ty,sz,[r],fz⟩)(hlen:r'.length=r.length)(hno:r.all zF=true)(hno':r'.all zF=true)
 (hc:∀(k:Nat) c c' u,r[k]?=some c->r'[k]?=some c'->L E c u->w.cell? ⟨E.β id [],k,none⟩=some u->L E c' u):qa w E (H.set id ⟨1,ty,sz,[r'],fz⟩) where
 n:=ai h.n
 fH id' ob p sz' rows' hob' hx:=by
  rcases DV hob hno hno' hx with⟨h1,h2⟩|⟨rfl,rfl,h1,h2⟩
  .rw[pM,pA (Ne.symm h1)]at hob';exact h.fH id' ob p sz' rows' hob' h2
  .rw[pM,pD V,pD (px.1 hob).1]at hob';cases hob'
   cases h1
   have hb:=h.fH _ _ _ _ _ hob h2;refine⟨hb.len,λq hq=>?_,?_⟩
   .rw[rH.1 hq,hlen];exact hb.row r (rH.2 V)
   .obtain⟨cur,e,h3,h4,h5⟩:=hb.fH;refine⟨cur,e,h3,h4,?_⟩;intro i k c' hc';obtain⟨rfl,hc'⟩:=y7.1 hc';have hk:k<r.length:=by rw[<-hlen];exact(px.1 hc').1
    have hk':r[k]?=some r[k]:=by simp[hk]
    obtain⟨u,hu,ho⟩:=h5 0 k r[k] (y7.2 ⟨rfl,hk'⟩);refine⟨u,hu,?_⟩;rw[qO.loose (pG.1 hno _ (pE hk'))]at ho;rw[qO.loose (pG.1 hno' c' (pE hc'))];refine⟨?_,ho.2⟩;have h6:L E r[k] u:=ax
    have h7:L E c' u:=hc k _ _ u hk' hc' h6 (by
     unfold World.cell?;rw[h3];simpa using hu)
    simpa [Env.at] using h7
 inj i p j q x y hx hy he:=by
  have key:∀i p x,qe (H.set id ⟨1,ty,sz,[r'],fz⟩) i p=some x->∃x',qe H i p=some x':=λi p x hx=>by
   rcases DV hob hno hno' hx with⟨h1,h2⟩|⟨rfl,rfl,h1,h2⟩
   .exact⟨x,h2⟩
   .exact⟨_,h2⟩
  obtain⟨x',hx'⟩:=key i p x hx;obtain⟨y',hy'⟩:=key j q y hy;exact h.inj i p j q x' y' hx' hy' he
 qp:=h.qp
 sep i p x o u hx hu:=by
  rcases DV hob hno hno' hx with⟨h1,h2⟩|⟨rfl,rfl,h1,h2⟩
  .obtain⟨e1,ob,e2,e3⟩:=h.sep i p x o u h2 hu;exact⟨e1,ob,by rw[pM,pA (Ne.symm h1)];exact e2,e3⟩
  .obtain⟨e1,ob,e2,e3⟩:=h.sep _ [] _ o u h2 hu;rw[hob]at e2;cases e2
   exact⟨rfl,⟨1,ty,sz,[r'],fz⟩,by rw[pM,pD V,pD (px.1 hob).1],e3⟩
 ty i ob ho hk:=by
  rw[pM]at ho;split at ho
  .split at ho
   .cases ho;cases hk
   .cases ho
  .exact h.ty i ob ho hk
 fz i ob ho:=by
  rw[pM]at ho;split at ho
  .split at ho
   .cases ho;have:=h.fz id _ hob;exact gI
   .cases ho
  .exact h.fz i ob ho
def jt.Ig{id:Nat}(hob:H[id]?=some ob)(h1:ob.kind≠4)(h2:ob'.kind≠4):jt H (H.set id ob'):=λi o h4=>by
 rw[pM];split
 .rename_i e;subst e;rw[pD (px.1 hob).1,hob];constructor
  .intro e;cases e;exact absurd h4 h2
  .intro e;cases e;exact absurd h4 h1
 .exact Iff.rfl
def qx.Ds{w:World}{E:Env}{H:zq}(h:qx w E H){id:Nat}{ty:TypeId}{sz fz:Nat}{r r':List C}(hob:H[id]?=some ⟨1,ty,sz,[r],fz⟩)(hlen:r'.length=r.length)(hno:r.all zF=true)(hno':r'.all zF=true)
 (hc:∀(k:Nat) c c' u,r[k]?=some c->r'[k]?=some c'->L E c u->w.cell? ⟨E.β id [],k,none⟩=some u->L E c' u):qx w E (H.set id ⟨1,ty,sz,[r'],fz⟩)/\Grow w E H w E (H.set id ⟨1,ty,sz,[r'],fz⟩):=by
 have hR:=h.base.Ds hob hlen hno hno' hc
 have hG:qn w E H w E (H.set id ⟨1,ty,sz,[r'],fz⟩):=⟨Env.le.refl E,λ_ _ _=>V,rfl,rfl,rfl,pN _,λ_ _ _=>V,λ_ _ _ h=>.inl h,λb ⟨i,p,x,hx,he⟩=>by
  rcases DV hob hno hno' hx with⟨h1,h2⟩|⟨rfl,rfl,h1,h2⟩
  .exact .inr ⟨i,p,x,h2,he⟩
  .exact .inr ⟨_,[],_,h2,he⟩⟩
 have hk:=jt.Ig (ob':=⟨1,ty,sz,[r'],fz⟩) hob (λe=>by cases e) (λe=>by cases e);exact⟨⟨hR,mN.step h hG hk⟩,hG.up h hk⟩
section
variable {B:Nat} {s:S}
def zl.var(id:Nat){r':List C}(hob:s.H[id]?=some ⟨1,ty,sz,[r],fz⟩)(hno:r.all zF=true)(hno':r'.all zF=true)(hw:iI r r'):zl B s ⟨s.tmps,s.H.set id ⟨1,ty,sz,[r'],fz⟩⟩:=λm w E a hs=>by
 have hlen:∀{a b:List C},iI a b->b.length=a.length:=by
  intro a b h
  induction h with
  |nil=>rfl
  |cons _ _ ih=>simp[ih]
 have hget:∀{a b:List C},iI a b->∀(k:Nat) c c',a[k]?=some c->b[k]?=some c'->WC c c':=by
  intro a b h
  induction h with
  |nil=>intro k c c' h;simp at h
  |cons h1 _ ih=>
   intro k c c' e1 e2;cases k with
   |zero=>simp at e1 e2;subst e1 e2;exact h1
   |succ k=>exact ih k c c' (ai e1) uX
 obtain⟨hR,g⟩:=hs.heap.Ds hob (hlen hw) hno hno' λk c c' u e1 e2 hl _=>hget hw k c c' e1 e2 E u hl
 exact gT
def zl.qN(id k:Nat)(ty':TypeId)(sz':Nat){sz0:Nat}(hob:s.H[id]?=some ⟨1,ty,sz,[r],fz⟩)(hk:r[k]?=some (.fq 1 sz0 rows))(hz:rows=[]\/sz'=sz0)(hno:r.all zF=true)
 (hno':(r.set k (.gl s.H.length sz' rows)).all zF=true):
  zl B s ⟨s.tmps,s.H.set id ⟨1,ty,sz,[r.set k (.gl s.H.length sz' rows)],fz⟩++[⟨4,ty',sz',rows,0⟩]⟩:=λm w E a hs=>by
 have hgb:qe s.H id []=some (sz,[r]):=by unfold qe;rw[hob];simp[qT]
 have hb:=hs.heap.base.fH _ _ _ _ _ hob hgb;obtain⟨cur,e,h3,h4,h5⟩:=hb.fH;obtain⟨u,hu,ho⟩:=h5 0 k _ (y7.2 ⟨rfl,hk⟩);rw[qO.loose V]at ho;have hl:L E (.fq 1 sz0 rows) u:=ax
 obtain⟨E1,hh1,hl1,g1⟩:=hs.heap.D5 hl ty' hz;have ft:id<s.H.length:=(px.1 hob).1;have hob1:(s.H++[⟨4,ty',sz',rows,0⟩])[id]?=some ⟨1,ty,sz,[r],fz⟩:=by rw[pI ft];exact hob
 have hβ:E1.β id []=E.β id []:=g1.le.β id [] (by rw[hs.heap.n];exact ft)
 have hcu:w.cell? ⟨E1.β id [],k,none⟩=some u:=by
  unfold World.cell?;rw[hβ,h3];simpa using hu
 obtain⟨hR,g2⟩:=hh1.Ds hob1 (r':=r.set k (.gl s.H.length sz' rows)) ah hno hno' λj c c' v e1 e2 hl' hv=>by
  rw[pM]at e2;split at e2
  .rename_i e;subst e;rw[hcu]at hv;cases hv
   split at e2
   .cases e2;exact hl1
   .cases e2
  .rw[e1]at e2;cases e2
   exact hl'
 rw[eJ _ _ ft]at hR g2;exact dY
end
def Gj(w:World)(o:Obj){k:Nat}(h:k<w.heap.size):(w.alloc o).heap[k]?=w.heap[k]?:=by
 show(w.heap.push o)[k]?=_;rw[Array.getElem?_push,pA an]
def Tm{g:Operand}{assign body:Code}{m:Nat}{t:List C}{a:Act}{Q:Exit->Act->World->Prop}
 (hs:xM B m w E ⟨t,H⟩ a)(hg:ev t g=.fn f [] caps)(hcb:qv P f=true)
 (hit:∀(l:Nat) (r:Loop),r.state=.ready->r.pending=none->r.params=ps->r.assign=assign->r.body=body->
   ∃(rr:C) (Hf:zq) (rf:Loop),zb P f (H++[iy l r t]) (.v (.func (.yield l) #[] #[])::caps) rr Hf/\Hf[H.length]?=some (iy l rf t)/\rf.state≠.busy/\rf.tmps=r.tmps/\B<=Hf.length/\
   ∀w' E' a',xM B m w' E' ⟨t,Hf.set H.length (iy l {rf with state:=.exhausted} t)⟩ a'->jA B w E H w' E' (Hf.set H.length (iy l {rf with state:=.exhausted} t))->
    match rf.pending with|none=>Q .normal a' w'|some c=>c.wpIn (fw none) 0 P Q a' w'):
  (Code.rangeFunc g ps assign body).wpIn (fw none) 0 P Q a w:=by
 have hm:=hs.defers.le;refine wpIn_rangeFunc ?_;intro fn _;obtain⟨r,hr⟩:∃r:Loop,r={state:=.ready,pending:=none,fn,tmps:=a.tmps,params:=ps,assign,body,defers:=w.heap.size}:=⟨_,rfl⟩;obtain⟨W1,hW1⟩:∃W1,W1=(w.alloc (.deferred (some []))).alloc (.loop r):=⟨_,rfl⟩
 have hL1:W1.heap[w.heap.size+1]?=some (.loop r):=by
  rw[hW1];have:=World.alloc_heap_new (w.alloc (.deferred (some []))) (.loop r);rwa [World.size_alloc]at this
 have hK1:W1.heap[w.heap.size]?=some (.deferred (some [])):=by
  rw[hW1];exact(Gj _ _ ah).trans (World.alloc_heap_new w _)
 have hsame:∀k,k<w.heap.size->W1.heap[k]?=w.heap[k]?:=λk hk=>by
  rw[hW1];exact(Gj _ _ ar).trans (Gj _ _ hk)
 have hsz:W1.heap.size=w.heap.size+2:=by rw[hW1];simp
 have hv:=DM hs.tmps g;rw[hg]at hv
 obtain⟨zs,hσ,hzs⟩:∃zs,a.eval g=.func (.func f) #[] zs/\LL E caps zs.toList:=by
  generalize a.eval g=u at *;cases hv with
  |fn f first caps ys zs h1 h2 h3 h4=>
   have:ys= #[]:=ai h1.symm
   subst this;exact⟨zs,rfl,ai h2,λi c y e1 e2=>h4 i c y e1 uX⟩
 obtain⟨E1,hR1,G1⟩:=hs.heap.W7 (w:=W1) (l:=w.heap.size+1) (r:=r) (t:=t) hsame (by rw[hW1];rfl) (by rw[hW1];rfl) (by rw[hW1];rfl) an hL1 an (by rw[hr];exact hs.tmps);obtain⟨rr,Hf,rf,hS,hHf,hbusy,htm,hB,hQ⟩:=hit (w.heap.size+1) r (by rw[hr]) (by rw[hr]) (by rw[hr]) (by rw[hr]) (by rw[hr])
 have eg:∀(args:Array Value),(callFunc f args).run P W1=.ok (.enter f args) W1:=by
  intro args;unfold qv at hcb;split at hcb
  rotate_left
  .cases hcb
  rename_i fn hfn;simp only[pJ,rE]at hcb;have hname : fn.name ≠ "runtime.NumGoroutine" := by simpa using hcb.1
  have hbody:fn.body≠none:=bo
  simp[callFunc,hfn,hname,hbody]
 refine⟨w.heap.size+1,[Bm w.heap.size],W1,{target:=.fn (.func f) zs,args:= #[.func (.yield (w.heap.size+1)) #[] #[]]},W1,f, #[.func (.yield (w.heap.size+1)) #[] #[]]++zs,W1,?_,?_,λ_ _=>trivial,?_,λh=>(by cases h),?_⟩
 .rw[hW1,hr];exact run_enterLoop_outer _ _ _ _ _
 .simp only[resolve,hσ];simp[go_sem]
 .simp[invoke,go_sem,eg]
 .refine(callsIn_wide (n:=0)).2 ((hS W1 E1 _ hR1 ?_).mono ?_)
  .have:=(LL.one (.v _ rfl:L E1 (.v (.func (.yield (w.heap.size+1)) #[] #[])) (.func (.yield (w.heap.size+1)) #[] #[]))).append (hzs.mono G1.le);simpa using this
  .rintro e w3 ⟨v,E3,rfl,hR3,_,G3⟩;obtain⟨⟨hL3,_⟩,ht3⟩:=hR3.fA.iK H.length _ (.loop rf) t hHf V ⟨rfl,rfl⟩;obtain⟨hR4,G4⟩:=hR3.Ez (r':={rf with state:=.exhausted}) hHf V;have hend:=run_endLoop (P:=P) hL3 hbusy;have G:=(G1.trans G3).trans G4;have hn:B<=E.n:=by rw[hs.heap.n];exact hs.base
   have hD:(w3.putObj (w.heap.size+1) (.loop {rf with state:=.exhausted})).heap[w.heap.size]?=some (.deferred (some [])):=by
    rw[World.putObj_heap_other an];exact(G3.frame _ an (hR1.free hK1)).trans hK1
   have h4:xM B m (w3.putObj (w.heap.size+1) (.loop {rf with state:=.exhausted})) E3 ⟨t,Hf.set H.length (iy (w.heap.size+1) {rf with state:=.exhausted} t)⟩ {a with defers:=[Bm w.heap.size]++a.defers}:=by
    refine⟨hR4,hs.tmps.mono G.le,⟨⟨w.heap.size,rfl,hm,hD,?_⟩,hs.defers.grow hs.heap G⟩,ai hB⟩;intro hmem
    have key:∀{ds:List Deferred},Marks m w ds->Bm w.heap.size∉ds:=by
     intro ds
     induction ds with
     |nil=>intro _ h;cases h
     |cons d ds ih=>
      rintro⟨⟨D,h1,_,h3,_⟩,ht⟩ h;rcases s4.1 h with h5|h5
      .rw[h1]at h5;have:w.heap.size=D:=by simpa [Bm] using h5
       have:=(pP.1 h3).1;omega
      .exact ih ht h5
    exact key hs.defers hmem
   have:=hQ _ _ _ h4 (G.iW hn);refine⟨rf.pending,_,hend,?_⟩;exact gI
def Nm:Option Code->Exit->Prop
 |none,.normal=>True
 |some .ret,.ret=>True
 |some (.exit i),.exit j=>i=j
 |_,_=>False
def qX.rangeFunc{P:Program}{g:Operand}{ps:Array Tmp}{assign body:Code}{B:Nat}{H:zq}{t:List C}{f:FuncId}{caps:List C}{R:Exit->S->Prop}(hg:ev t g=.fn f [] caps)(hcb:qv P f=true)
 (hit:∀(l:Nat) (r:Loop),r.state=.ready->r.pending=none->r.params=ps->r.assign=assign->r.body=body->
   ∃(rr:C) (Hf:zq) (rf:Loop) (ex:Exit) (s':S),zb P f (H++[iy l r t]) (.v (.func (.yield l) #[] #[])::caps) rr Hf/\Hf[H.length]?=some (iy l rf t)/\rf.state≠.busy/\rf.tmps=r.tmps/\B<=Hf.length/\Nm rf.pending ex/\
    zl B ⟨t,Hf.set H.length (iy l {rf with state:=.exhausted} t)⟩ s'/\R ex s'):qX P B (.rangeFunc g ps assign body) ⟨t,H⟩ R:=λq m w E a Q hr hs hq=>by
 obtain rfl:=hr V;refine Tm hs hg hcb λl r h1 h2 h3 h4 h5=>?_
 obtain⟨rr,Hf,rf,ex,s',a1,a2,a3,a4,a5,a6,a7,a8⟩:=hit l r h1 h2 h3 h4 h5;refine⟨rr,Hf,rf,a1,a2,a3,a4,a5,λw' E' a' hs' g'=>?_⟩;obtain⟨E2,hs2,g2⟩:=a7 m w' E' a' hs';have hq':=hq ex s' w' E2 a' a8 hs2 (g'.trans g2);generalize rf.pending=pe at a6
 match pe,ex,a6 with
 |none,.normal,_=>exact hq'
 |some .ret,.ret,_=>exact wpIn_ret hq'
 |some (.exit i),.exit j,h=>cases h;exact wpIn_exit hq'
def Lj(o:Oper):Option TypeId:=match o.op with
 |.makeMap t r=>match r with
  |none=>some t
  |some _=>none
 |_=>none
def W5(P:Program)(t:TypeId):Bool:=match P.underlying t with
 |some (.map _ e)=>match P.underlying e with
  |some (.int _)=>false
  |some .bool=>false
  |some .string=>false
  |_=>true
 |_=>false
noncomputable def hasC(H:zq):Bool:=List.rec (motive:=λ_=>Bool) false (λob _ next=>match ob with
 |⟨kind,_,sz,_,fz⟩=>match fz with
  |1=>match kind with
   |4=>match sz with
    |2=>true
    |_=>next
   |_=>next
  |_=>next) H
noncomputable def kept1(H:zq)(c:C):Bool:=match c with
 |.sl id _ _ _ _ _=>match H[id]? with
  |some ob=>match ob with
   |⟨kind,_,_,_,_⟩=>match kind with
    |1=>true
    |_=>false
  |none=>false
 |_=>false
noncomputable def heldC(c:C):Bool:=match c with
 |.sl _ _ _ _ _ _=>true
 |.agg cs=>List.rec (motive:=λ_=>Bool) false (λc _ ih=>match c with
  |.sl _ _ _ _ _ _=>true
  |_=>ih) cs
 |_=>false
noncomputable def heldO(ρ:Operand->C)(o:Oper):Bool:=match o.op with
 |.buildSlice _ _ parts=>List.rec (motive:=λ_=>Bool) false (λp _ ih=>match heldC (ρ p.2) with
  |true=>true
  |false=>ih) parts.toList
 |_=>false
noncomputable def xf(H:zq)(t:Nat):Bool:=match H[2]? with
 |some ob=>match ob with
  |⟨kind,ty,sz,_,_⟩=>match kind with
   |0=>match ty with
    |77=>match Nat.beq sz t with
     |true=>true
     |false=>(H.take 2).any λob=>Nat.beq ob.sz t
    |_=>false
   |_=>false
 |none=>false
noncomputable def mapRel(H:zq)(ρ:Operand->C)(o:Oper):Bool:=match o.op with
 |.range _ _=>true
 |.next _ _=>true
 |.entry _=>true
 |.insert _ _ _ _=>true
 |.mapUpdate _ _ _ _=>hasC H
 |.buildSlice t _ parts=>match parts.toList with
  |[]=>xf H t
  |_::_=>heldO ρ o
 |.call cl=>match cl.callee with
  |.builtin b=>match b with
   |.delete=>true
   |.append=>match cl.args.toList with
    |x::ys=>match ρ x with
     |.gl _ _ _=>hasC H
     |.fq _ sz _=>match sz with
      |99=>true
      |_=>match ys with
       |y::_=>kept1 H (ρ y)
       |[]=>false
     |.sl id hops sz lo len full=>match kept1 H (.sl id hops sz lo len full) with
      |true=>true
      |false=>match ys with
       |y::_=>kept1 H (ρ y)
       |[]=>false
     |_=>false
    |[]=>false
   |_=>false
  |_=>false
 |_=>false
def XP(P:Program)(t:TypeId):Bool:=
 match P.underlying t with
 |some (.pointer _)=>true
 |some (.map _ _)=>true
 |some (.tuple es)=>match es.toList with
  |u::_=>match P.underlying u with
   |some (.pointer _)=>true
   |_=>false
  |[]=>false
 |_=>false
def Nn(P:Program)(ρ:Operand->C)(o:Oper):Option (FuncId×List C):=
 match o.op with
 |.call cl=>match cl.callee with
  |.value x=>match ρ x with
   |.fn f first caps=>match qv P f with
    |true=>some (f,first++(cl.args.toList.map λx=>ij (ρ x))++caps)
    |false=>none
   |_=>none
  |_=>none
 |_=>none
def HY(P:Program)(ρ:Operand->C)(o:Oper):Option (FuncId×List C):=
 match XP P o.type with
 |true=>Nn P ρ o
 |false=>none
def jC.call(h:HY P ρ o=some (f,args))(hs:qC P f H args R):jC P o ρ H R:=λw E σ hh hl _ K hk=>by
 unfold HY at h;split at h
 rotate_left
 .cases h
 unfold Nn at h;split at h
 rotate_left
 .cases h
 rename_i cl ho;split at h
 rotate_left
 .cases h
 rename_i x hcl;split at h
 rotate_left
 .cases h
 rename_i f' first caps hf;split at h
 rotate_left
 .cases h
 rename_i hcb;cases h
 have hl:∀x∈o.op.operands,L E (Ab.ij (ρ x)) (σ x):=λx hx=>Ar (hl x hx)
 have h0:=hl x bn;rw[hf]at h0;have h0:L E (.fn f first caps) (σ x):=h0
 obtain⟨ys,zs,hv,h1,h2,h3,h4⟩:∃ys zs,σ x=.func (.func f) ys zs/\first.length=ys.size/\caps.length=zs.size/\(∀(i:Nat) c y,first[i]?=some c->ys[i]?=some y->L E c y)/\(∀(i:Nat) c y,caps[i]?=some c->zs[i]?=some y->L E c y):=by
  generalize σ x=u at *;cases h0 with
  |fn f first caps ys zs h1 h2 h3 h4=>exact⟨ys,zs,rfl,h1,h2,h3,h4⟩
 unfold qv at hcb;split at hcb
 rotate_left
 .cases hcb
 rename_i fn hfn;simp only[pJ,rE]at hcb;have hname : fn.name ≠ "runtime.NumGoroutine" := by simpa using hcb.1
 have hbody:fn.body≠none:=bo
 have hr:(execOp σ o).run P w=.ok (.enter f (ys++cl.args.map σ++zs)) w:=by
  unfold execOp;simp[ho,resolve,hcl,hv,Deferred.ofValue,invoke,callFunc,hfn,hname,hbody]
 rw[hr];refine(hs w E (ys++cl.args.map σ++zs) hh ?_).mono ?_
 .have e1:LL E first ys.toList:=⟨ai h1,λi c y e1 e2=>h3 i c y e1 uX⟩;have e2:LL E caps zs.toList:=⟨ai h2,λi c y e1 e2=>h4 i c y e1 uX⟩
  have e3:LL E (cl.args.toList.map λx=>Ab.ij (ρ x)) (cl.args.map σ).toList:=by
   refine⟨ah,?_⟩;intro i c y hc hy;rw[pw]at hc;rw[eD,pw]at hy;cases ha:cl.args.toList[i]? with
   |none=>rw[ha]at hc;cases hc
   |some a=>
    rw[ha]at hc hy;cases hc
    cases hy
    exact gX
  have:=(e1.append e3).append e2;simpa using this
 .rintro e w' ⟨c,H',v,E',hR,rfl,h5,h6,h7⟩;exact⟨v,rfl,hk c H' v w' E' hR h5 h6 h7⟩
def Iq(o:Oper):Option (BinOp×TypeId×Operand):=
 match o.op with
 |.binOp op t x y _=>match y with
  |.const v=>match v with
   |.nilFunc=>some (op,t,x)
   |_=>none
  |_=>none
 |_=>none
def HB(x:C):Option Bool:=
 match x with
 |.fn ..=>some false
 |.v y=>match y with
  |.nilFunc=>some true
  |_=>none
 |_=>none
def JY{x:C}(h:HB x=some b):∀E u,L E x u->(b=true/\u=.nilFunc)\/(b=false/\∃f ys zs,u=.func f ys zs):=by
 intro E u hl;unfold HB at h;split at h
 .cases h;cases hl;exact .inr ⟨rfl,_,_,_,rfl⟩
 .split at h
  .cases h;cases hl;exact .inl ⟨rfl,rfl⟩
  .cases h
 .cases h
def BO(P:Program)(t:TypeId):Bool:=
 match P.underlying t with
 |some (.func ..)=>true
 |_=>false
def Fv(P:Program)(H:zq)(op:BinOp)(t:TypeId)(x:C)(K:C->zq->Prop):Prop:=
 match HB x with
 |some b=>match op with
  |.eql=>bK (BO P t) <|K (.v (.bool b)) H
  |.neq=>bK (BO P t) <|K (.v (.bool (!b))) H
  |_=>False
 |none=>False
def Qn(w:World)(d:Nat)(t:TypeId)(ht:BO P t=true)(y:Value)(n:Bool)(hy:(n=true/\y=.nilFunc)\/(n=false/\∃f xs ys,y=.func f xs ys)):(Op.equalIn (d+1) t y .nilFunc).run P w=.ok n w:=by
 unfold BO at ht;split at ht
 rotate_left
 .cases ht
 rename_i a b c hu;rcases hy with⟨rfl,rfl⟩|⟨rfl,f,xs,ys,rfl⟩ <;> simp[Op.equalIn,run_underlying hu]
def Tp(w:World)(t:TypeId)(ht:BO P t=true)(y:Value)(n:Bool)(hy:(n=true/\y=.nilFunc)\/(n=false/\∃f xs ys,y=.func f xs ys)):(Op.equal t y .nilFunc).run P w=.ok n w:=Qn w 9999 t ht y n hy
def m9.M0(op:BinOp)(t t':TypeId)(x:Operand)(ho:o.op=.binOp op t x (.const .nilFunc) t')(hop:op=.eql\/op=.neq)(ht:BO P t=true)(b:Bool)
 (hx:∀E u,L E (ρ x) u->(b=true/\u=.nilFunc)\/(b=false/\∃f ys zs,u=.func f ys zs)):m9 P o ρ H (.v (.bool (if op=.eql then b else !b))) H:=λw E σ hh hl hc K hk=>by
 have hv:=hx E _ (hl x uU);have he:=Tp w t ht _ _ hv
 have hr:(execOp σ o).run P w=.ok (.value (.bool (if op=.eql then b else !b))) w:=by
  unfold execOp;rcases hv with⟨rfl,hv⟩|⟨rfl,f,ys,zs,hv⟩ <;> rw[hv]at he <;> rcases hop with rfl|rfl <;> simp[ho,hv,hc,eqGuard,binOp,he]
 rw[hr];exact hk _ w E hh (.v _ V) (Grow.refl w E H)
def VR{K:C->zq->Prop}(ho:Iq o=some (op,t,x))(h:Fv P H op t (ρ x) K):∃c,m9 P o ρ H c H/\K c H:=by
 obtain⟨t',ho⟩:∃t',o.op=.binOp op t x (.const .nilFunc) t':=by
  unfold Iq at ho;split at ho
  .rename_i h1;split at ho
   .split at ho
    .cases ho;exact⟨_,h1⟩
    .cases ho
   .cases ho
  .cases ho
 unfold Fv at h;split at h
 .rename_i b hb;split at h
  .exact⟨_,.M0 .eql t t' x ho (.inl V) (qb h).1 b (JY hb),(qb h).2⟩
  .exact⟨_,.M0 .neq t t' x ho (.inr V) (qb h).1 b (JY hb),(qb h).2⟩
  .exact dA
 .exact dA
def DS(P:Program)(H:zq)(ρ:Operand->C)(o:Oper)(K:C->zq->Prop):Prop:=
 match HS o with
 |some (op,ty,x)=>H8 P H op ty (ρ x) K
 |none=>match HO o with
  |some (op,ty,x)=>Ia P H op ty (ρ x) K
  |none=>match Iq o with
  |some (op,ty,x)=>Fv P H op ty (ρ x) K
  |none=>match HY P ρ o with
  |some (f,args)=>∃R,qC P f H args R/\∀r H',R r H'->K r H'
  |none=>match mapRel H ρ o with
   |true=>jC P o ρ H K
   |false=>match Lj o with
    |some t=>match W5 P t with
     |true=>∀b:Nat,xn (H++[BQ b [] 0 []]) λH'=>K (.v (.map (some b))) H'
     |false=>∀b:Nat,xn (H++[ix b #[] 0]) λH'=>K (.v (.map (some b))) H'
    |none=>nQ P H ρ o K
def GC{K:C->zq->Prop}(h:DS P H ρ o K):jC P o ρ H K:=by
 unfold DS at h;split at h
 .rename_i op ty x hn;exact TT hn h
 .split at h
  .rename_i op ty x hn;obtain⟨c,h1,h2⟩:=Vd hn h;exact h1.iu h2
  split at h
  .rename_i op ty x hn;obtain⟨c,h1,h2⟩:=VR hn h;exact h1.iu h2
  .split at h
   .rename_i f args hn;obtain⟨R,h1,h2⟩:=h;exact jC.call hn (λw E vs hh hl=>(h1 w E vs hh hl).mono λe w' ⟨r,H',v,E',hR,h3⟩=>⟨r,H',v,E',h2 r H' hR,h3⟩)
   split at h
   .exact h
   split at h
   .rename_i t hm
    have ho:o.op=.makeMap t none:=by
     unfold Lj at hm;split at hm
     .rename_i ho;split at hm
      .cases hm;exact ho
      .cases hm
     .cases hm
    split at h
    .exact .Vy t ho λb=>q9 (h b)
    .exact .makeMap t ho λb=>q9 (h b)
   .obtain⟨c,H',h1,h2⟩:=F2 h;exact h1.iu h2
def DR(P:Program)(ops:Array Oper)(o:Oper)(next:List C->zq->(List C->zq->Prop)->Prop)(t:List C)(H:zq)(K:List C->zq->Prop):Prop:=
 match jD ops t o with
 |some true=>DS P H (ev t) o λc H'=>nc t o.dst c λt=>next t H' K
 |some false=>nc t o.dst .un λt=>next t H K
 |none=>False
def nD(P:Program)(ops:Array Oper)(l:List Oper):List C->zq->(List C->zq->Prop)->Prop:=
 List.rec (motive:=λ_=>List C->zq->(List C->zq->Prop)->Prop) (λt H K=>K t H) (λo _ next=>DR P ops o next) l
theorem K4(P:Program)(ops:Array Oper)(o:Oper)(l:List Oper)(t:List C)(H:zq)(K:List C->zq->Prop):nD P ops (o::l) t H K=DR P ops o (nD P ops l) t H K:=rfl
section
variable {P:Program} {B:Nat} {ops:Array Oper}
def Gf:∀{l:List Oper} {t:List C} {H:zq} {K:List C->zq->Prop},nD P ops l t H K->wF P B ops l ⟨t,H⟩ λs'=>K s'.tmps s'.H
 |[],t,H,K,h=>.nil h
 |o::l,t,H,K,h=>by
  rw[K4]at h;unfold DR at h;split at h
  .rename_i hw;refine .run (s:=⟨t,H⟩) hw (.Ew (s:=⟨t,H⟩) (GC h)) ?_;rintro s1 ⟨c,H',h1,rfl⟩;exact Gf (jH (k:=λt=>nD P ops l t H' K) h1)
  .rename_i hw;exact .pass (s:=⟨t,H⟩) hw (Gf (jH (k:=λt=>nD P ops l t H K) h))
  .exact dA
abbrev WK:=List C->zq->(Exit->List C->zq->Prop)->Prop
def XT(x y:WK):WK:=λt H K=>x t H λex t H=>match ex with
 |.normal=>y t H K
 |ex=>K ex t H
def XJ(id:Nat)(c:WK):WK:=λt H K=>c t H λex t H=>match ex with
 |.exit id'=>if id'=id then K .normal t H else K (.exit id') t H
 |ex=>K ex t H
def HU(c:Operand)(x y:WK):WK:=λt H K=>match ev t c with
 |.v (.bool b)=>match b with
  |true=>x t H K
  |false=>y t H K
 |_=>False
noncomputable def readyB(all:List Bool)(ops:List Oper):List Bool->Nat->List Nat:=
 List.rec (motive:=λ_=>List Bool->Nat->List Nat) (λ_ _=>[]) (λo _ ih bs k=>match bs with
  |[]=>[]
  |b::bs=>match b with
   |true=>ih bs (k+1)
   |false=>match o.after.toList.all (λe=>!Region.binds .any e || all.getD e.on false) with
    |true=>k::ih bs (k+1)
    |false=>ih bs (k+1)) ops
noncomputable def bothK(f:Nat->Prop)(l:List Nat):Prop:=List.rec (motive:=λ_=>Prop) True (λi _ ih=>f i/\ih) l
structure lS where
 bl:List Nat:=[]
 keep:List Nat:=[]
 flat:Bool:=false
def XC(T:lS)(H0 H:zq):Prop:=kM T.keep H0 H/\(T.flat=true->qL H=true)
noncomputable def pickE(bl:List Nat)(ops:Array Oper)(t:List C)(l:List Nat):Option Nat:=
 List.rec (motive:=λ_=>Option Nat) none (λi _ ih=>match ops[i]? with
  |some o=>match (xD o && !heldO (ev t) o) || og bl i with
   |true=>some i
   |false=>match jD ops t o with
    |some b=>match b with
     |true=>ih
     |false=>some i
    |none=>ih
  |none=>ih) l
def Hm(P:Program)(T:lS)(H:zq)(ρ:Operand->C)(o:Oper)(K:C->zq->Prop):Prop:=
 match o.op with
 |.call cl=>match cl.callee with
  |.value x=>match ρ x with
   |.fn f first caps=>bK (qv P f) <| ∃r,(∀H2,XC T H H2->zb P f H2 (first++(cl.args.toList.map λx=>ij (ρ x))++caps) r H2)/\okB r λr=>K r H
   |_=>False
  |_=>False
 |_=>EG P T.keep H ρ o K
def FC(P:Program)(T:lS)(ops:Array Oper)(o:Oper)(k:Nat)(next:List C->zq->(List C->zq->Prop)->Prop)(t:List C)(H:zq)(K:List C->zq->Prop):Prop:=
 match jD ops t o with
 |some true=>match og T.bl k with
  |true=>Hm P T H (ev t) o λc H'=>nc t o.dst c λt=>next t H' K
  |false=>match xD o with
   |true=>nQ P H (ev t) o λc H'=>nc t o.dst c λt=>next t H' K
   |false=>False
 |some false=>nc t o.dst .un λt=>next t H K
 |none=>False
def HZ(T:lS)(H H':zq)(k:Prop):Prop:=match T.flat with
 |true=>qL H'=true/\DC H H' k T.keep
 |false=>DC H H' k T.keep
def nM(P:Program)(T:lS)(ops:Array Oper)(o:Oper)(next:List C->zq->(List C->zq->Prop)->Prop)(t:List C)(H:zq)(K:List C->zq->Prop):Prop:=
 match jD ops t o with
 |some true=>match Dx o with
  |true=>nQ P H (ev t) o λc H'=>nc t o.dst c λt=>next t H' K
  |false=>DS P H (ev t) o λc H'=>HZ T H H' (nc t o.dst c λt=>next t H' K)
 |some false=>nc t o.dst .un λt=>next t H K
 |none=>False
noncomputable def bruteK(P:Program)(T:lS)(ops:Array Oper)(n:Nat):List Bool->List C->zq->(List C->zq->Prop)->Prop:=
 Nat.rec (motive:=λ_=>List Bool->List C->zq->(List C->zq->Prop)->Prop)
  (λlisted t H K=>match readyB listed ops.toList listed 0 with
   |[]=>K t H
   |_::_=>False)
  (λ_ ih listed t H K=>match readyB listed ops.toList listed 0 with
   |[]=>K t H
   |i::is=>match pickE T.bl ops t (i::is) with
    |some i=>match ops[i]? with
     |some o=>FC P T ops o i (λt H K=>ih (listed.set i true) t H K) t H K
     |none=>False
    |none=>bothK (λi=>match ops[i]? with
     |some o=>nM P T ops o (λt H K=>ih (listed.set i true) t H K) t H K
     |none=>False) (i::is)) n
def Mq(md:Region.Mode)(ops:Array Oper)(ms:List Nat):Bool:=
 (List.range ops.size).all λi=>(List.range ops.size).all λj=>Nat.beq j i || nW md ops ms i j || match ops[i]?,ops[j]? with
  |some oi,some oj=>(oj.after.any λe=>Region.binds md e && e.on == i) || oi.apart ops oj
  |_,_=>true
def BX(md:Region.Mode)(ops:Array Oper):Bool:=Mq md ops (nz md ops)
noncomputable def regionK(P:Program)(B:Nat)(ops:Array Oper)(draw:Bool):WK:=λt H K=>match draw with
 |false=>nD P ops ops.toList t H λt H=>K .normal t H
 |true=>(∃T:ly,(P.follows .mixedOrders && Region.lexB .any ops && Cy .any T ops)=true/\mZ P T ops ops.toList 0 t H λt H=>K .normal t H)\/
  ∃T:lS,(P.follows .mixedOrders && BX .any ops)=true/\(T.flat=true->qL H=true)/\∃R:List C->zq->Prop,bruteK P T ops ops.size (ops.toList.map λ_=>false) t H (λt1 H1=>∃t2 H2,zl B ⟨t1,H1⟩ ⟨t2,H2⟩/\R t2 H2)/\∀t2 H2,R t2 H2->K .normal t2 H2
def Kq{all:List Bool}:∀{os:List Oper} {bs:List Bool} {k i:Nat},i∈readyB all os bs k↔∃j o,i=k+j/\os[j]?=some o/\bs[j]?=some false/\o.after.toList.all (λe=>!Region.binds .any e || all.getD e.on false)=true
 |[],bs,k,i=>by simp[readyB]
 |o::os,[],k,i=>by
  have e:readyB all (o::os) [] k=[]:=rfl;rw[e];simp
 |o::os,b::bs,k,i=>by
  have e:readyB all (o::os) (b::bs) k=match b with
   |true=>readyB all os bs (k+1)
   |false=>match o.after.toList.all (λe=>!Region.binds .any e || all.getD e.on false) with
    |true=>k::readyB all os bs (k+1)
    |false=>readyB all os bs (k+1):=rfl
  have ih:=Kq (all:=all) (os:=os) (bs:=bs) (k:=k+1) (i:=i)
  have split:(∃j o',i=k+j/\(o::os)[j]?=some o'/\(b::bs)[j]?=some false/\o'.after.toList.all (λe=>!Region.binds .any e || all.getD e.on false)=true)↔
    (i=k/\b=false/\o.after.toList.all (λe=>!Region.binds .any e || all.getD e.on false)=true)\/i∈readyB all os bs (k+1):=by
   rw[ih];constructor
   .rintro⟨j,o',h1,h2,h3,h4⟩;cases j with
    |zero=>simp at h2 h3;subst h2;exact .inl ⟨an,h3,h4⟩
    |succ j=>exact .inr ⟨j,o',an,ai h2,ai h3,h4⟩
   .rintro(⟨h1,h2,h3⟩|⟨j,o',h1,h2,h3,h4⟩)
    .exact⟨0,o,an,rfl,bp,h3⟩
    .exact⟨j+1,o',an,ai h2,ai h3,h4⟩
  rw[split,e];cases b with
  |true=>simp
  |false=>
   dsimp only;split
   .rename_i h;rw[h];simp only[s4,and_true]
   .rename_i h;rw[h];simp only[s8,and_false,false_or]
def Dj(hl:listed.size=ops.size)(i:Nat):i∈Region.ready .any ops listed↔i∈readyB listed.toList ops.toList listed.toList 0:=by
 rw[Kq];unfold Region.ready;rw[List.mem_filter,sy]
 have qd:∀o:Oper,o.after.toList.all (λe=>!Region.binds .any e || listed.toList.getD e.on false)=o.after.all (λe=>!Region.binds .any e || listed.getD e.on false):=λo=>by
  rw[<-tw]
  congr 1
  funext e
  rw[e7,rm,rI]
 constructor
 .rintro⟨h1,h2⟩;rw[pJ]at h2;obtain⟨h2,h3⟩:=h2;obtain⟨o,ho⟩:∃o,ops[i]?=some o:=⟨ops[i],aJ⟩;rw[ho]at h3;simp only[pL,rO]at h3;refine⟨i,o,an,by rw[rm];exact ho,?_,by rw[qd];exact h3⟩;rw[rm];rw[rI,sB an]at h2;simp only[rO]at h2;rw[sB an];simpa using h2
 .rintro⟨j,o,h1,h2,h3,h4⟩;obtain rfl:i=j:=by omega
  rw[rm]at h2 h3;have ft:=(pP.1 h2).1;refine⟨ft,?_⟩;rw[pJ];rw[qd]at h4;refine⟨?_,by rw[h2];simpa using h4⟩;rw[rI,h3]
  rfl
def KT{f:Nat->Prop}:∀{l:List Nat},bothK f l->∀i∈l,f i
 |[],_,i,hi=>by cases hi
 |j::l,h,i,hi=>by
  have h:f j/\bothK f l:=h;rcases s4.1 hi with rfl|hi
  .exact h.1
  .exact KT h.2 i hi
def jC.XO{tmps:List C}{x:C}(h:∀d,dst=some d->d∉o.looksAt ops)(h':jC P o (ev (put tmps dst x)) H R):jC P o (ev tmps) H R:=
 λw E σ hh hl hc K hk=>h' w E σ hh (λy hy=>by rw[He (Gp h y hy)];exact hl y hy) hc K hk
def jC.HR{R':C->zq->Prop}(hR:∀c H',R c H'->R' c H')(h:jC P o ρ H R):jC P o ρ H R':=
 λw E σ hh hl hc K hk=>h w E σ hh hl hc K λc H' v w' E' h1=>hk c H' v w' E' (hR c H' h1)
def oO(P:Program)(ops:Array Oper)(X:zq->Prop)(i:Nat)(K:S->Prop)(s:S):Prop:=
 match ops[i]? with
 |none=>K s
 |some o=>(jD ops s.tmps o=some true/\jC P o (ev s.tmps) s.H λc H'=>X H'/\K ⟨put s.tmps o.dst c,H'⟩)\/(jD ops s.tmps o=some false/\K ⟨put s.tmps o.dst .un,s.H⟩)
def Ul{K K':S->Prop}(hX:X s.H)(h:∀s,X s.H->K s->K' s)(hh:oO P ops X i K s):oO P ops X i K' s:=by
 unfold oO at *;split
 .exact h _ hX (by simpa [*] using hh)
 .rename_i o ho;simp only[ho]at hh;rcases hh with⟨h1,h2⟩|⟨h1,h2⟩
  .exact .inl ⟨h1,h2.HR λc H' ⟨h3,h4⟩=>⟨h3,h _ h3 h4⟩⟩
  .exact .inr ⟨h1,h _ hX h2⟩
def BI(P:Program)(md:Region.Mode)(ops:Array Oper)(X:zq->Prop)(Q:S->Prop):Nat->Array Bool->S->Prop
 |0,listed,s=>Region.ready md ops listed=[]/\Q s
 |fuel+1,listed,s=>(Region.ready md ops listed=[]->Q s)/\∀i∈Region.ready md ops listed,oO P ops X i (BI P md ops X Q fuel (listed.setIfInBounds i true)) s
def ky{P:Program}{B:Nat}{ops:Array Oper}{md:Region.Mode}{X:zq->Prop}{q:Option Nat}{m:Nat}{H0:zq}{Q:S->Prop}{w0:World}{E0:Env}{Q':Exit->Act->World->Prop}(hQ:∀s w E a,Q s->xM B m w E s a->jA B w0 E0 H0 w E s.H->Q' .normal a w):
  ∀(fuel:Nat) (listed:Array Bool) (s:S) (w:World) (E:Env) (a:Act),xM B m w E s a->jA B w0 E0 H0 w E s.H->BI P md ops X Q fuel listed s->wpAnyIn (fw q) 0 P md ops Q' fuel listed a w
 |0,_,s,w,E,a,hs,hg,h=>⟨h.1,hQ s w E a h.2 hs hg⟩
 |fuel+1,listed,s,w,E,a,hs,hg,h=>⟨λh0=>hQ s w E a (h.1 h0) hs hg,λi hi=>by
   have h1:=h.2 i hi;unfold oO at h1;unfold wpOpIn;split
   .rename_i ho;simp only[ho]at h1;exact ky hQ fuel _ s w E a hs hg h1
   .rename_i o ho;simp only[ho]at h1;rcases h1 with⟨hw,hv⟩|⟨hw,hK⟩
    .rw[pD (jN hs.tmps hw)];refine Ac.Ew (s:=s) hv q m w E a _ Q' hs λs' w' E' a' hR h2 g2=>?_
     obtain⟨c,H',⟨_,h3⟩,rfl⟩:=hR;exact ky hQ fuel _ _ w' E' a' h2 (hg.trans g2) h3
    .rw[pA aZ];exact⟨λ_ _=>trivial,ky hQ fuel _ ⟨put s.tmps o.dst .un,s.H⟩ w E _ (hs.put .un o.dst) hg hK⟩⟩
def Um{oj:Oper}{c:C}(hj:ops[j]?=some oj)(hap:oi.apart ops oj=true){K:S->Prop}(hy:YA P ops X oi c s.tmps)
 (h:oO P ops X j K ⟨put s.tmps oi.dst c,s.H⟩):oO P ops X j (λs'=>YA P ops X oi c s'.tmps/\K ⟨put s'.tmps oi.dst c,s'.H⟩) s:=by
 obtain⟨h1,h2,h3⟩:=Oper.apart_spec hap;unfold oO at *;simp only[hj] at *;rcases h with⟨hw,hv⟩|⟨hw,hK⟩
 .refine .inl ⟨(vf h1) ▸ hw,(hv.HR λc' H' ⟨h4,h5⟩=>⟨h4,(YA.put h3).2 hy,?_⟩).XO h1⟩;rw[put_comm _ _ h2]at h5;exact h5
 .refine .inr ⟨(vf h1) ▸ hw,(YA.put h3).2 hy,?_⟩;rw[put_comm _ _ h2]at hK;exact hK
def Sk{Q:S->Prop}{c:C}(hi:ops[i]?=some oi):
  ∀(fuel:Nat) (listed:Array Bool) (s:S),X s.H->
   (∀j oj,ops[j]?=some oj->j≠i->listed.getD j true=false->(∀e∈oj.after,Region.binds md e=true->e.on≠i)->oi.apart ops oj=true)->
   i∈Region.ready md ops listed->YA P ops X oi c s.tmps->
   BI P md ops X Q fuel (listed.setIfInBounds i true) ⟨put s.tmps oi.dst c,s.H⟩->BI P md ops X Q (fuel+1) listed s:=by
 have here:∀(s:S) (K:S->Prop),X s.H->YA P ops X oi c s.tmps->K ⟨put s.tmps oi.dst c,s.H⟩->oO P ops X i K s:=λs K hX hy hK=>by
  unfold oO;simp only[hi];rcases hy with⟨h1,h2⟩|⟨h1,rfl⟩
  .exact .inl ⟨h1,(h2 s.H hX).iu ⟨hX,hK⟩⟩
  .exact .inr ⟨h1,hK⟩
 intro fuel
 induction fuel with
 |zero=>
  intro listed s hX _ hr hy H;refine⟨λh=>bc,λj hj=>?_⟩;by_cases hji:j=i
  .subst hji;exact here s _ hX hy H
  .have:=ready_mono hj hji;rw[H.1]at this;cases this
 |succ fuel ih=>
  intro listed s hX hfree hr hy H;refine⟨λh=>bc,λj hj=>?_⟩;by_cases hji:j=i
  .subst hji;exact here s _ hX hy H
  .have h1:=H.2 j (ready_mono hj hji);obtain⟨hjun,oj,hoj,qd⟩:=mem_ready.1 hj
   have hnot:∀e∈oj.after,Region.binds md e=true->e.on≠i:=λe he hb heq=>by
    have h1:=qd e he hb;have h0:=(mem_ready.1 hr).1;rw[heq]at h1;rcases tu i listed.size with h'|h'
    .simp[h']at h0 h1;rw[h0]at h1;cases h1
    .simp[s7 h']at h1
   have hap:=hfree j oj hoj hji hjun hnot;have h2:=Um hoj hap hy h1
   have hfree':∀k ok,ops[k]?=some ok->k≠i->(listed.setIfInBounds j true).getD k true=false->
     (∀e∈ok.after,Region.binds md e=true->e.on≠i)->oi.apart ops ok=true:=λk ok hk hki hun hno=>by
    refine hfree k ok hk hki ?_ hno;by_cases hjk:j=k
    .subst hjk;exact hjun
    .rw[getD_set_ne true hjk]at hun;exact hun
   refine Ul hX (λs' hX' ⟨h3,h4⟩=>ih (listed.setIfInBounds j true) s' hX' hfree' (ready_mono hr (Ne.symm hji)) h3 ?_) h2;rw[ec _ _ hji];exact h4
def OA(h:BX md ops=true){oj:Oper}(hi:ops[i]?=some oi)(hj:ops[j]?=some oj)(hne:j≠i)(hd:nW md ops (nz md ops) i j=false)
 (hno:∀e∈oj.after,Region.binds md e=true->e.on≠i):oi.apart ops oj=true:=by
 simp only[BX,Mq,pG,sy]at h;have h1:=h i (pP.1 hi).1 j (pP.1 hj).1
 have hb:Nat.beq j i=false:=by
  cases hb:Nat.beq j i with
  |false=>rfl
  |true=>exact absurd (eI hb) hne
 simp only[hb,hd,sD,hi,hj,rZ]at h1;rcases h1 with h1|h1
 .obtain⟨e,hem,hb⟩:=Array.any_eq_true'.1 h1;simp only[pJ,rF]at hb;exact absurd hb.2 (hno e hem hb.1)
 .exact h1
def XC.trans{T:lS}{H H' H'':zq}(h:XC T H H')(h':XC T H' H''):XC T H H'':=⟨h.1.trans h'.1,h'.2⟩
def XC.back{T:lS}{H'':zq}(h:XC T H H')(h':XC T H H''):XC T H' H'':=⟨λid hi=>(h'.1 id hi).trans (h.1 id hi).symm,h'.2⟩
def QO{T:lS}{K:C->zq->Prop}(h:Hm P T H ρ o K):∃c,(∀H2,XC T H H2->fE P o ρ H2 c H2)/\K c H:=by
 unfold Hm at h;split at h
 .rename_i cl ho;split at h
  .rename_i x hcl;split at h
   .rename_i f first caps hf;obtain⟨h1,r,h2,h3⟩:=qb h;exact⟨r,λH2 hx=>.HJ cl ho x hcl hf h1 (h2 H2 hx),jg (k:=λc=>K c H) h3⟩
   .exact dA
  .exact dA
 .obtain⟨c,h1,h2⟩:=JH h;exact⟨c,λH2 hx=>h1 H2 hx.1,h2⟩
def Tw{T:lS}{H0:zq}{k:Prop}(hX:XC T H0 H)(h:HZ T H H' k):XC T H0 H'/\k:=by
 unfold HZ at h;split at h
 .obtain⟨h1,h2⟩:=D3 h.2;exact⟨⟨hX.1.trans h1,λ_=>h.1⟩,h2⟩
 .rename_i hf;obtain⟨h1,h2⟩:=D3 h;exact⟨⟨hX.1.trans h1,λh=>by rw[hf]at h;cases h⟩,h2⟩
def D6{bl:List Nat}{ops:Array Oper}{t:List C}:∀{l:List Nat} {i:Nat},pickE bl ops t l=some i->i∈l
 |[],i,h=>by cases h
 |j::l,i,h=>by
  have h:(match ops[j]? with
   |some o=>match (xD o && !heldO (ev t) o) || og bl j with
    |true=>some j
    |false=>match jD ops t o with
     |some b=>match b with
      |true=>pickE bl ops t l
      |false=>some j
     |none=>pickE bl ops t l
   |none=>pickE bl ops t l)=some i:=h
  split at h
  .split at h
   .cases h;exact sd ..
   .split at h
    .split at h
     .exact rY _ (D6 h)
     .cases h;exact sd ..
    .exact rY _ (D6 h)
  .exact rY _ (D6 h)
def F5{T:lS}{ops:Array Oper}{H0:zq}{K:List C->zq->Prop}(hap:BX .any ops=true):
  ∀(fuel:Nat) (listed:Array Bool) (t:List C) (H:zq),Down .any ops listed->listed.size=ops.size->XC T H0 H->bruteK P T ops fuel listed.toList t H K->
   BI P .any ops (XC T H0) (λs=>K s.tmps s.H) fuel listed ⟨t,H⟩
 |0,listed,t,H,hd,hl,hX,h=>by
  have h:match readyB listed.toList ops.toList listed.toList 0 with
   |[]=>K t H
   |_::_=>False:=h
  split at h
  .rename_i hr;refine⟨?_,h⟩;rw[eM];intro i hi;have:=(Dj hl i).1 hi;rw[hr]at this;cases this
  .exact dA
 |fuel+1,listed,t,H,hd,hl,hX,h=>by
  have h:match readyB listed.toList ops.toList listed.toList 0 with
   |[]=>K t H
   |i::is=>match pickE T.bl ops t (i::is) with
    |some i=>match ops[i]? with
     |some o=>FC P T ops o i (λt H K=>bruteK P T ops fuel (listed.toList.set i true) t H K) t H K
     |none=>False
    |none=>bothK (λi=>match ops[i]? with
     |some o=>nM P T ops o (λt H K=>bruteK P T ops fuel (listed.toList.set i true) t H K) t H K
     |none=>False) (i::is):=h
  split at h
  .rename_i hr
   have h0:Region.ready .any ops listed=[]:=by
    rw[eM];intro i hi;have:=(Dj hl i).1 hi;rw[hr]at this;cases this
   exact⟨λ_=>h,λi hi=>by rw[h0]at hi;cases hi⟩
  .rename_i j js hr;have hset:∀i,(listed.setIfInBounds i true).toList=listed.toList.set i true:=λi=>by simp
   have hsz:∀i,(listed.setIfInBounds i true).size=ops.size:=λi=>by simpa using hl
   split at h
   .rename_i i hp;have hi:i∈Region.ready .any ops listed:=(Dj hl i).2 (by rw[hr];exact D6 hp);split at h
    rotate_left
    .exact dA
    rename_i o ho
    have go:∀c,YA P ops (XC T H0) o c t->bruteK P T ops fuel (listed.toList.set i true) (put t o.dst c) H K->BI P .any ops (XC T H0) (λs=>K s.tmps s.H) (fuel+1) listed ⟨t,H⟩:=λc hy hb=>
     Sk ho fuel listed ⟨t,H⟩ hX (λj oj hj hne hun hno=>OA hap ho hj hne (by
       cases hdp:nW .any ops (nz .any ops) i j with
       |false=>rfl
       |true=>
        have h1:=hd.ready hi hdp;rcases tu j listed.size with h'|h'
        .simp[h']at h1 hun;rw[h1]at hun;cases hun
        .simp[s7 h']at h1) hno) hi hy
      (F5 hap fuel _ _ _ (hd.step hi) (hsz i) hX (by rw[hset];exact hb))
    unfold FC at h;split at h
    .rename_i hw;split at h
     .obtain⟨c,h1,h2⟩:=QO h;exact go c (.inl ⟨hw,λH2 h3=>h1 H2 (hX.back h3)⟩) (jH (k:=λt=>bruteK P T ops fuel (listed.toList.set i true) t H K) h2)
     .split at h
      .rename_i hb;obtain⟨c,h1,h2⟩:=JC hb h;exact go c (.inl ⟨hw,λH2 _=>h1 H2⟩) (jH (k:=λt=>bruteK P T ops fuel (listed.toList.set i true) t H K) h2)
      .exact dA
    .rename_i hw;exact go .un (.inr ⟨hw,rfl⟩) (jH (k:=λt=>bruteK P T ops fuel (listed.toList.set i true) t H K) h)
    .exact dA
   .have hne:Region.ready .any ops listed≠[]:=λh0=>by
     have:j∈readyB listed.toList ops.toList listed.toList 0:=by rw[hr];exact sd ..
     have:=(Dj hl j).2 this;rw[h0]at this;cases this
    refine⟨λh0=>absurd h0 hne,λi hi=>?_⟩;have hi2:=(Dj hl i).1 hi;rw[hr]at hi2;have h1:=KT h i hi2;split at h1
    rotate_left
    .exact h1.elim
    rename_i o ho;unfold oO;rw[ho];dsimp only
    have next:∀t' H',XC T H0 H'->bruteK P T ops fuel (listed.toList.set i true) t' H' K->BI P .any ops (XC T H0) (λs=>K s.tmps s.H) fuel (listed.setIfInBounds i true) ⟨t',H'⟩:=λt' H' hX' hb=>
     F5 hap fuel _ _ _ (hd.step hi) (hsz i) hX' (by rw[hset];exact hb)
    unfold nM at h1;split at h1
    .rename_i hw;refine .inl ⟨hw,?_⟩;split at h1
     .rename_i hlo;obtain⟨c,h2,h3⟩:=Kp hlo h1;exact h2.iu ⟨hX,next _ _ hX (jH (k:=λt=>bruteK P T ops fuel (listed.toList.set i true) t H K) h3)⟩
     .refine(GC h1).HR λc H' h2=>?_
      obtain⟨h3,h4⟩:=Tw hX h2;exact⟨h3,next _ _ h3 (jH (k:=λt=>bruteK P T ops fuel (listed.toList.set i true) t H' K) h4)⟩
    .rename_i hw;exact .inr ⟨hw,next _ _ hX (jH (k:=λt=>bruteK P T ops fuel (listed.toList.set i true) t H K) h1)⟩
    .exact h1.elim
def qX.Yn{id:Nat}{t:List C}{R:Exit->S->Prop}{R':List C->zq->Prop}{T:lS}(hm:P.follows .mixedOrders=true)(hap:BX .any ops=true)(hf:T.flat=true->qL H=true)
 (h:bruteK P T ops ops.size (ops.toList.map λ_=>false) t H (λt1 H1=>∃t2 H2,zl B ⟨t1,H1⟩ ⟨t2,H2⟩/\R' t2 H2))(hR:∀t2 H2,R' t2 H2->R .normal ⟨t2,H2⟩):qX P B (.region id ops true) ⟨t,H⟩ R:=λq m w E a Q _ hs hq=>by
 refine wpIn_region_any hm (ky (X:=XC T H) (H0:=H) (Q:=λs=>∃t2 H2,zl B s ⟨t2,H2⟩/\R' t2 H2) (w0:=w) (E0:=E) (λs1 w1 E1 a1 he h1 g1=>?_) _ _ ⟨t,H⟩ _ E a hs.drew ((Grow.drew w E H).iW tA) ?_)
 .obtain⟨t2,H2,hw,hR2⟩:=he;obtain⟨E2,h2,g2⟩:=hw m w1 E1 a1 h1;exact hq _ _ w1 E2 a1 (hR t2 H2 hR2) h2 (g1.trans g2)
 .have e:(Array.replicate ops.size false).toList=ops.toList.map λ_=>false:=by
   rw[Array.toList_replicate,List.map_const'];simp
  refine F5 (K:=λt1 H1=>∃t2 H2,zl B ⟨t1,H1⟩ ⟨t2,H2⟩/\R' t2 H2) hap _ _ _ _ Down.start ah ⟨.refl _ _,hf⟩ ?_;rw[e];exact h
structure AY(P:Program)(B:Nat)(c:Code)(t:List C)(H:zq)(K:Exit->List C->zq->Prop):Prop where
 out:zH P B c ⟨t,H⟩ λex s=>K ex s.tmps s.H
def Yv(P:Program)(B:Nat)(c:Code):WK:=λt H K=>AY P B c t H K
def Hv(P:Program)(B:Nat)(g:Operand)(ps:Array Tmp)(assign body:Code):WK:=λt H K=>match ev t g with
 |.fn f first caps=>bK (qv P f && first.isEmpty) <| ∃H0,zl B ⟨t,H⟩ ⟨t,H0⟩/\∃ex t' H',(∀(l:Nat) (r:Loop),r.state=.ready->r.pending=none->r.params=ps->r.assign=assign->r.body=body->
   ∃(rr:C) (Hf:zq) (rf:Loop),zb P f (H0++[iy l r t]) (.v (.func (.yield l) #[] #[])::caps) rr Hf/\Hf[H0.length]?=some (iy l rf t)/\rf.state≠.busy/\rf.tmps=r.tmps/\B<=Hf.length/\Nm rf.pending ex/\
    zl B ⟨t,Hf.set H0.length (iy l {rf with state:=.exhausted} t)⟩ ⟨t',H'⟩)/\K ex t' H'
 |_=>False
structure mU(P:Program)(B:Nat)(c:Code)(l:Nat)(t:List C)(H:zq)(K:Exit->List C->zq->Prop):Prop where
 out:Bx P B c (λex s=>K ex s.tmps s.H) l ⟨t,H⟩
def XD(P:Program)(B:Nat)(c:Code)(x:WK):WK:=λt H K=>x t H λex t H=>match ex with
 |.goto l=>mU P B c l t H K
 |ex=>K ex t H
def NM:WK:=λ_ _ _=>False
noncomputable def wpA(P:Program)(B:Nat)(c:Code):WK:=
 Code.rec (motive:=λ_=>WK) (λt H K=>K .normal t H) (λ_ ops draw=>regionK P B ops draw) (λ_ _ x y=>XT x y) (λc _ _ x y=>HU c x y) (λid _ x=>XJ id x) (λc _=>Yv P B c)
  (λg ps assign body _ _=>Hv P B g ps assign body) (λid t H K=>K (.exit id) t H) (λc x=>XD P B c x) (λ_ t H K=>K .normal t H) (λl t H K=>K (.goto l) t H) (λt H K=>K .ret t H) (λ_=>NM) c
def jh:∀{c:Code} {t:List C} {H:zq} {K:Exit->List C->zq->Prop},wpA P B c t H K->qX P B c ⟨t,H⟩ λex s=>K ex s.tmps s.H:=by
 intro c
 induction c with
 |skip=>intro t H K h;exact .skip h
 |exit id=>intro t H K h;exact .exit id h
 |ret=>intro t H K h;exact .ret h
 |label l=>intro t H K h;exact .label l h
 |seq x y ihx ihy=>
  intro t H K h;refine .seq ((ihx (t:=t) (H:=H) (K:=λex t H=>match ex with|.normal=>wpA P B y t H K|ex=>K ex t H) h).mono λex s1 h1=>?_);cases ex with
  |normal=>exact ihy h1
  |_=>exact h1
 |block id c ih=>
  intro t H K h;refine .block ((ih (t:=t) (H:=H) (K:=λex t H=>match ex with|.exit id'=>if id'=id then K .normal t H else K (.exit id') t H|ex=>K ex t H) h).mono λex s1 h1=>?_);cases ex with
  |exit id'=>exact h1
  |_=>exact h1
 |scope c ih=>
  intro t H K h;refine .XB ((ih (t:=t) (H:=H) (K:=λex t H=>match ex with|.goto l=>mU P B c l t H K|ex=>K ex t H) h).mono λex s1 h1=>?_);cases ex with
  |goto l=>exact(show mU P B c l s1.tmps s1.H K from h1).out
  |_=>exact h1
 |goto l=>intro t H K h;exact .goto l h
 |cond c x y ihx ihy=>
  intro t H K h
  change HU c (wpA P B x) (wpA P B y) t H K at h
  unfold HU at h;split at h
  .rename_i b hb;cases b with
   |true=>exact .cond (s:=⟨t,H⟩) hb (ihx h)
   |false=>exact .cond (s:=⟨t,H⟩) hb (ihy h)
  .exact dA
 |region id ops draw=>
  intro t H K h;cases draw with
  |false=>exact .region (Gf (show nD P ops ops.toList t H (λt H=>K .normal t H) from h))
  |true=>
   rcases(show(∃T:ly,(P.follows .mixedOrders && Region.lexB .any ops && Cy .any T ops)=true/\mZ P T ops ops.toList 0 t H λt H=>K .normal t H)\/
    ∃T:lS,(P.follows .mixedOrders && BX .any ops)=true/\(T.flat=true->qL H=true)/\∃R:List C->zq->Prop,bruteK P T ops ops.size (ops.toList.map λ_=>false) t H (λt1 H1=>∃t2 H2,zl B ⟨t1,H1⟩ ⟨t2,H2⟩/\R t2 H2)/\∀t2 H2,R t2 H2->K .normal t2 H2 from h) with h|⟨T,hm,hf,R,h1,h2⟩
   rotate_left
   .rw[pJ]at hm;exact qX.Yn hm.1 hm.2 hf h1 h2
   obtain⟨T,h1,h2⟩:=h;simp only[pJ]at h1;obtain⟨s',h3,h4⟩:=Run.Yr (B:=B) (id:=id) h1.1.1 h1.1.2 h1.2 h2;exact qX.mono h3 λex s1 ⟨e1,e2⟩=>by subst e1 e2;exact h4
 |loop c ih=>intro t H K h;exact .loop (show AY P B c t H K from h).out
 |rangeFunc g ps assign body=>
  intro t H K h
  change Hv P B g ps assign body t H K at h
  unfold Hv at h;split at h
  .rename_i f first caps hg;obtain⟨h1,H0,h0,ex,t',H',h2,h3⟩:=qb h;simp only[pJ,fh]at h1;obtain⟨h1,rfl⟩:=h1;refine .pre h0 (.rangeFunc hg h1 λl r a1 a2 a3 a4 a5=>?_);obtain⟨rr,Hf,rf,b1,b2,b3,b4,b5,b6,b7⟩:=h2 l r a1 a2 a3 a4 a5;exact⟨rr,Hf,rf,ex,⟨t',H'⟩,b1,b2,b3,b4,b5,b6,b7,h3⟩
  .exact dA
 |_=>intro t H K h;exact(show False from h).elim
def mU.go{rest:Code}{l:Nat}{t:List C}(hf:findLabel c l=some rest)
 (h:wpA P B rest t H λex t H=>match ex with|.goto l=>mU P B c l t H K|ex=>K ex t H):mU P B c l t H K:=by
 refine⟨.mk _ hf (jh h) (λe s h1 he=>?_) λl s h1=>(show mU P B c l s.tmps s.H K from h1).out⟩;cases e with
 |goto l=>exact absurd V (he l)
 |_=>exact h1
def jv.zX{H1:zq}{id l:Nat}{r:Loop}{t:List C}{rv:Bool}{assign body:Code}(hob:H1[id]?=some (iy l r t))(hst:r.state=.ready)(hpe:r.pending=none)(hps:r.params=ps)(ha:r.assign=assign)(hb:r.body=body)
 (hn:args.length=ps.size)(hna:xv assign=false)(hnb:xv body=false)
 (h:wpA P H1.length assign (BJ t ps.toList args) H1 λe t1 H1'=>e=.normal/\H1'[id]?=some (iy l r t)/\wpA P H1.length body t1 (H1'.set id (iy l (busy r) t)) λe t2 H2=>
   ∃t3 H3,zl H1.length ⟨t2,H2⟩ ⟨t3,H3⟩/\ML id l r t rv H' e H3):
  jv P l H1 args (.v (.bool rv)) H':=by
 subst hps ha hb;refine jv.kQ hob hst hpe hn hna hnb ((jh h).mono λe s1 ⟨h1,h2,h3⟩=>⟨h1,h2,(jh h3).mono λe s2 ⟨t3,H3,h4,h5⟩=>⟨⟨t3,H3⟩,h4,h5⟩⟩)
def zH.inv{t:List C}(I:Nat->List C->zq->Prop)(n:Nat)(h0:∃t0 H0,zl B ⟨t,H⟩ ⟨t0,H0⟩/\I n t0 H0)
 (step:∀n t H,I n t H->wpA P B c t H λe t1 H1=>(e=.normal/\∃m t2 H2,m<n/\zl B ⟨t1,H1⟩ ⟨t2,H2⟩/\I m t2 H2)\/(e≠.normal/\K e t1 H1)):
  AY P B c t H K:=by
 obtain⟨t0,H0,hw,hI⟩:=h0;refine⟨.pre hw ?_⟩
 suffices key:∀n t H,I n t H->lK P B c (n+1) ⟨t,H⟩ λex s=>K ex s.tmps s.H from⟨n+1,key n t0 H0 hI⟩
 intro n
 induction n using Nat.strongRecOn with
 |_ n ih=>
  intro t H hI;refine .step ((jh (step n t H hI)).post λex s1 h1=>?_);rcases h1 with⟨rfl,m,t2,H2,hm,hw2,hI2⟩|⟨hne,hK⟩
  .exact⟨⟨t2,H2⟩,hw2,(lK.more an (ih m hm t2 H2 hI2):lK P B c n ⟨t2,H2⟩ _)⟩
  .refine⟨s1,.refl s1,?_⟩;cases ex with
   |normal=>exact absurd V hne
   |_=>exact hK
def zb.zX{r:C}(hf:P.funcs[f]?=some fn)(hb:fn.body=some c)
 (h:wpA P H.length c (entry fn args) H λex t1 H1=>(ex=.ret\/ex=.normal)/\∃s2,zl H.length ⟨t1,H1⟩ s2/\s2.H=H'/\kg P fn s2=some r):zb P f H args r H':=
 qC.at (qC.kQ hf hb ((jh h).mono λex s1 ⟨hex,s2,hw,h2,h3⟩=>⟨hex,s2,r,hw,h3,rfl,h2⟩))
def qC.zX(hf:P.funcs[f]?=some fn)(hb:fn.body=some c)
 (h:wpA P H.length c (entry fn args) H λex t1 H1=>(ex=.ret\/ex=.normal)/\∃s2 r,zl H.length ⟨t1,H1⟩ s2/\kg P fn s2=some r/\R r s2.H):qC P f H args R:=
 qC.kQ hf hb (jh h)
def zb.Bq{r:C}(hf:P.funcs[f]?=some fn)(hb:fn.body=some c)
 (h:wpA P 0 c (entry fn args) [] λex t1 H1=>(ex=.ret\/ex=.normal)/\∃s2,zl 0 ⟨t1,H1⟩ s2/\kg P fn s2=some r)(hr:qE 0 9 r=true):zb P f [] args r []:=
 qC.close (R:=λc=>c=r) (qC.kQ (H:=[]) (R:=λc _=>c=r) hf hb ((jh h).mono λex s1 ⟨hex,s2,hw,h2⟩=>⟨hex,s2,r,hw,h2,rfl⟩)) λc h=>⟨h,hr⟩
end
def jF{n:Int}(h0: -9223372036854775808<=n)(h1:n<=9223372036854775807):IntKind.i64.wrap n=n:=IntWalk.i64_in n ⟨h0,h1⟩
def zk{n:Nat}(h:n<9223372036854775807):IntKind.i64.wrap ((n:Int)+1)=((n+1:Nat):Int):=by rw[jF an an];rfl
section
variable {P:Program} {f:FuncId} {H H':zq}
def zb.pre{args':List C}{r:C}(h:zb P f H args' r H')(hw:iI args args'):zb P f H args r H':=λw E vs hh hl=>h w E vs hh (hw.LL hl)
def zb.post{r r':C}(h:zb P f H args r H')(hw:WC r r'):zb P f H args r' H':=λw E vs hh hl=>(h w E vs hh hl).mono λe w' ⟨v,E',h1,h2,h3,h4⟩=>⟨v,E',h1,h2,hw E' v h3,h4⟩
def toNat_cast(n:Nat):((n:Int)).toNat=n:=by simp
end
def B6{vs:Array Value}{v:Value}{r:C}(H:zq)(hc:∀w,Calls P f vs w λe w'=>e=.returned v/\w'=w)(ha:∀E (us:Array Value),LL E args us.toList->us=vs)(hr:∀E,L E r v):zb P f H args r H:=λw E us hh hl=>by
 obtain rfl:=ha E us hl;refine(hc w).mono ?_;rintro e w' ⟨rfl,rfl⟩;exact⟨v,E,rfl,hh,hr E,Grow.refl _ _ _⟩
def MY{a:Value}(E:Env)(us:Array Value)(h:LL E [.v a] us.toList):us= #[a]:=by
 obtain⟨l⟩:=us
 match l,h with
 |[],h=>have:=h.1;simp at this
 |[x],h=>
  obtain⟨h1,_⟩:=h.cons_inv;cases h1;rfl
 |_::_::_,h=>have:=h.1;simp at this
def EZ{a b:Value}(E:Env)(us:Array Value)(h:LL E [.v a,.v b] us.toList):us= #[a,b]:=by
 obtain⟨l⟩:=us
 match l,h with
 |[],h=>have:=h.1;simp at this
 |[_],h=>have:=h.1;simp at this
 |[x,y],h=>
  obtain⟨h1,h2⟩:=h.cons_inv;obtain⟨h2,_⟩:=h2.cons_inv;cases h1;cases h2;rfl
 |_::_::_::_,h=>have:=h.1;simp at this
theorem vK{t:Nat}{y:α}(h:l[t]?=some y):l.set t y=l:=by
 apply rL
 intro i;rw[pM];split
 .rename_i e;subst e;obtain⟨h1,h2⟩:=px.1 h;rw[pD h1,h]
 .rfl
section
variable {B:Nat} {s:S}
def qa.freeze(h:qa w E H){id:Nat}(hob:H[id]?=some ob)(hk:ob.kind=2)(hno:∀i k c,cellAt ob.rows i k=some c->zF c=true):
  ∃E',E.le E'/\qa w E' (H.modify id λob=>⟨ob.kind,ob.ty,ob.sz,ob.rows,ob.rows.length⟩)/\(∀b o u,E'.St b o=some u->E.St b o=some u\/b=E.β id [])/\E'.β=E.β/\E'.G=E.G/\
   ∀i k c,cellAt ob.rows i k=some c->∃u,E'.St (E.β id []) (i*ob.sz+k)=some u/\L E'.shut c u:=by
 have hgb:qe H id []=some (ob.sz,ob.rows):=by unfold qe;rw[hob];simp[hk,qT]
 have hB:=h.fH id ob [] _ _ hob hgb;obtain⟨cur,e,hg,hcs,hcell⟩:=hB.fH
 have key:∀o,o<ob.rows.length*ob.sz->∃u,cur[o]?=some u/\u.oneCell'=true/\w.cell? ⟨E.β id [],o,none⟩=some u:=by
  intro o ho;obtain⟨h1,h2,h3⟩:=DW ho;obtain⟨c,hc⟩:=kz hB.row h1 h2;obtain⟨u,hu,hok⟩:=hcell _ _ c hc;rw[qO.loose (hno _ _ c hc)]at hok;rw[h3]at hu;exact⟨u,hu,hok.2,by unfold World.cell?;rw[hg];simpa using hu⟩
 obtain⟨E',hE'⟩:∃E':Env,E'={E with St:=λb o=>if b=E.β id []/\o<ob.rows.length*ob.sz then cur[o]? else E.St b o}:=⟨_,rfl⟩
 have hle:E.le E':=by
  subst hE';refine⟨pN _,λ_ _ _=>V,λ_ _ _=>V,λb o u hu=>?_,λ_ _ _ _ hu=>hu⟩;show(if b=E.β id []/\o<ob.rows.length*ob.sz then cur[o]? else E.St b o)=some u;split
  .rename_i hc;obtain⟨rfl,ho⟩:=hc;obtain⟨u',h1,_,h2⟩:=key o ho;have:=(h.qp _ _ _ hu).1;rw[h2]at this;rw[h1,<-this]
  .exact hu
 have hSt:∀b o u,E'.St b o=some u->E.St b o=some u\/(b=E.β id []/\o<ob.rows.length*ob.sz/\cur[o]?=some u):=by
  subst hE';intro b o u hu
  change (if b=E.β id []/\o<ob.rows.length*ob.sz then cur[o]? else E.St b o)=some u at hu
  split at hu
  .rename_i hc;exact .inr ⟨hc.1,hc.2,hu⟩
  .exact .inl hu
 have hβ:E'.β=E.β:=by subst hE';rfl
 have hn:E'.n=E.n:=by subst hE';rfl
 have get:∀id' hops x,qe (H.modify id λob=>⟨ob.kind,ob.ty,ob.sz,ob.rows,ob.rows.length⟩) id' hops=some x->qe H id' hops=some x:=by
  intro id' hops x hx;obtain⟨ob',ho',hk',hg'⟩:=qU hx;rw[r5]at ho';cases hx':H[id']? with
  |none=>rw[hx']at ho';cases ho'
  |some ob0=>
   rw[hx']at ho';simp only[sO,pL,rh]at ho';unfold qe;rw[hx'];split at ho'
   .subst ho';simp only[hk',if_true];exact hg'
   .subst ho';simp only[hk',if_true];exact hg'
 have obs:∀(id':Nat) (ob':Ob),(H.modify id λob=>⟨ob.kind,ob.ty,ob.sz,ob.rows,ob.rows.length⟩)[id']?=some ob'->∃ob0,H[id']?=some ob0/\ob'.kind=ob0.kind/\ob'.ty=ob0.ty/\ob'.sz=ob0.sz/\ob'.rows=ob0.rows/\ob0.fz<=ob'.fz/\ob'.fz<=ob'.rows.length/\(id'=id->ob'.fz=ob0.rows.length):=by
  intro id' ob' ho';rw[r5]at ho';cases hx':H[id']? with
  |none=>rw[hx']at ho';cases ho'
  |some ob0=>
   rw[hx']at ho';simp only[sO,pL,rh]at ho';have:=h.fz id' ob0 hx';split at ho'
   .subst ho';exact⟨ob0,rfl,rfl,rfl,rfl,rfl,this,pN _,λ_=>V⟩
   .rename_i hne;subst ho';exact⟨ob0,rfl,rfl,rfl,rfl,rfl,pN _,this,λe=>absurd e.symm hne⟩
 refine⟨E',hle,⟨by rw[hn,h.n];simp,?_,?_,?_,?_,?_,?_⟩,λb o u hu=>(hSt b o u hu).imp_right (·.1),hβ,by subst hE';rfl,?_⟩
 .intro id' ob' hops sz rows hob' hx;obtain⟨ob0,h1,h2,_⟩:=obs id' ob' hob';have hx':=get _ _ _ hx;rw[h2];exact(h.fH id' ob0 hops sz rows h1 hx').step hle (by rw[h.n];exact Bp hx') V
 .intro id1 p1 id2 p2 x y hx hy he;rw[hβ]at he;exact h.inj id1 p1 id2 p2 x y (get _ _ _ hx) (get _ _ _ hy) he
 .intro b o u hu;rcases hSt b o u hu with h1|⟨rfl,h2,h3⟩
  .exact h.qp b o u h1
  .obtain⟨u',h4,h5,h6⟩:=key o h2;rw[h3]at h4;cases h4
   exact⟨h6,h5⟩
 .intro id' hops x o u hx hu;have hx':=get _ _ _ hx;rw[hβ]at hu;obtain⟨ob1,ho1,_,_⟩:=qU hx;obtain⟨ob0,h1,h2,h3,h4,h5,h6,h7,h8⟩:=obs id' ob1 ho1;rcases hSt _ o u hu with h9|⟨h9,h10,_⟩
  .obtain⟨e1,ob2,e2,e3⟩:=h.sep id' hops x o u hx' h9;rw[h1]at e2;cases e2
   exact⟨e1,ob1,ho1,by rw[h4];exact rG e3 (rz _ h6)⟩
  .obtain⟨rfl,rfl⟩:=h.inj id' hops id [] x _ hx' hgb h9;rw[hob]at h1;cases h1
   exact⟨rfl,ob1,ho1,by rw[h8 V,h4];exact h10⟩
 .intro id' ob' hob' hk';obtain⟨ob0,h1,h2,h3,_⟩:=obs id' ob' hob';obtain⟨cur',hc⟩:=h.ty id' ob0 h1 (by rw[<-h2];exact hk');exact⟨cur',by rw[hβ,h3];exact hc⟩
 .intro id' ob' hob';obtain⟨ob0,h1,h2,h3,h4,h5,h6,h7,h8⟩:=obs id' ob' hob';exact h7
 .intro i k c hc;obtain⟨u,hu,hok⟩:=hcell i k c hc;rw[qO.loose (hno _ _ c hc)]at hok;obtain⟨h1,h2⟩:=CV hB.row hc
  have ft:i*ob.sz+k<ob.rows.length*ob.sz:=by
   have:(i+1)*ob.sz<=ob.rows.length*ob.sz:=rz _ h1;rw[rP]at this;omega
  refine⟨u,?_,?_⟩
  .subst hE';show(if E.β id []=E.β id []/\i*ob.sz+k<ob.rows.length*ob.sz then cur[i*ob.sz+k]? else _)=some u;rw[pD ⟨rfl,ft⟩];exact hu
  .have h3:=hok.1;simp only[Env.at,hk,if_true]at h3;exact h3.mono hle.shut
def zl.freeze(t:Nat){id sz lo len:Nat}{full:Bool}{ob:Ob}(ht:s.tmps[t]?=some (.sl id [] sz lo len full))(hob:s.H[id]?=some ob)(hk:ob.kind=2)(hsz:ob.sz=sz)(hlen:lo+len<=ob.rows.length)
 (hno:∀r∈ob.rows,∀c∈r,zF c=true):
  zl B s ⟨s.tmps.set t (.fq (if full then 1 else 0) sz ((ob.rows.drop lo).take len)),s.H.modify id λob=>⟨ob.kind,ob.ty,ob.sz,ob.rows,ob.rows.length⟩⟩:=λm w E a hs=>by
 subst hsz
 have hno':∀i k c,cellAt ob.rows i k=some c->zF c=true:=λi k c hc=>by
  unfold cellAt at hc;cases hx:ob.rows[i]? with
  |none=>rw[hx]at hc;cases hc
  |some r=>rw[hx]at hc;exact hno r (pE hx) c (pE hc)
 obtain⟨E',hle,hR,hnew,hβ,hKG0,hcells⟩:=hs.heap.base.freeze hob hk hno';have hgb:qe s.H id []=some (ob.sz,ob.rows):=by unfold qe;rw[hob];simp[hk,qT]
 have hrow:=(hs.heap.base.fH id ob [] _ _ hob hgb).row;obtain⟨y,hy,hl⟩:=hs.tmps.get ht
 have hnl:L E' (.fq (if full then 1 else 0) ob.sz ((ob.rows.drop lo).take len)) y:=by
  generalize hc:C.sl id [] ob.sz lo len full=c at hl;cases hl with
  |sl id' hops' sz' lo' len' full' cap hn hlen' hf hf'=>
   cases hc
   have hrl:((ob.rows.drop lo).take len).length=len:=ar
   have hsub:∀i k,cellAt ((ob.rows.drop lo).take len) i k=if i<len then cellAt ob.rows (lo+i) k else none:=by
    intro i k;unfold cellAt;rw[pZ];split
    .rw[rM]
    .rfl
   have ex:∀i r k c,((ob.rows.drop lo).take len)[i]?=some r->r[k]?=some c->∃u,E'.St (E.β id []) (lo*ob.sz+i*ob.sz+k)=some u/\L E'.shut c u:=by
    intro i r k c hr hc;have hcc:cellAt ((ob.rows.drop lo).take len) i k=some c:=by unfold cellAt;rw[hr];exact hc
    rw[hsub]at hcc;split at hcc
    .obtain⟨u,h1,h2⟩:=hcells _ _ c hcc;exact⟨u,by rw[<-rP];exact h1,h2⟩
    .cases hcc
   have:=L.fq (E:=E') (if full then 1 else 0) ob.sz ((ob.rows.drop lo).take len) (E.β id []) (lo*ob.sz) cap (λi k=>(E'.St (E.β id []) (lo*ob.sz+i*ob.sz+k)).getD undef) ?_ ?_ ?_ ?_ ?_
   .rw[hrl]at this;exact gI
   .cases full with
    |false=>exact .inl V
    |true=>exact .inr ⟨rfl,by rw[hrl];exact hf V⟩
   .rw[hrl];exact hlen'
   .exactλr hr=>hrow r (tt (pF hr))
   .intro i r k c hr hc;obtain⟨u,h1,h2⟩:=ex i r k c hr hc;rw[h1];rfl
   .intro i r k c hr hc;obtain⟨u,h1,h2⟩:=ex i r k c hr hc;rw[h1];exact h2
  |_=>cases hc
 have hG:qn w E s.H w E' (s.H.modify id λob=>⟨ob.kind,ob.ty,ob.sz,ob.rows,ob.rows.length⟩):=by
  have hKG:∀(id k:Nat),id<E.n->E'.G id k=E.G id k:=λ_ _ _=>by rw[hKG0]
  refine⟨hle,hKG,rfl,rfl,rfl,pN _,λ_ _ _=>V,λb o u hu=>?_,?_⟩
  .rcases hnew b o u hu with h1|h1
   .exact .inl h1
   .exact .inr (.inr ⟨id,[],_,hgb,h1.symm⟩)
  .rintro b ⟨id',p,x,hx,rfl⟩
   right
   refine⟨id',p,x,?_,by rw[hβ]⟩;obtain⟨ob',ho',hk',hg'⟩:=qU hx;rw[r5]at ho';cases hx':s.H[id']? with
   |none=>rw[hx']at ho';cases ho'
   |some ob0=>
    rw[hx']at ho';simp only[sO,pL,rh]at ho';unfold qe;rw[hx'];split at ho'
    .subst ho';simp only[hk',if_true];exact hg'
    .subst ho';simp only[hk',if_true];exact hg'
 have hk4:jt s.H (s.H.modify id λob=>⟨ob.kind,ob.ty,ob.sz,ob.rows,ob.rows.length⟩):=jt.modify _ _ _ λob' h'=>by
  rw[hob]at h';cases h'
  exact⟨by rw[hk];decide,by show ob.kind≠4;rw[hk];decide⟩
 refine⟨E',⟨⟨hR,mN.step hs.heap hG hk4⟩,?_,hs.defers,ai hs.base⟩,(hG.up hs.heap hk4).iW tA⟩;have:=(hs.tmps.mono hle).set hnl t;rw[vK hy]at this;exact gI
end
def posOf:List Nat->Nat->Nat->Option Nat
 |[],_,_=>none
 |x::xs,i,id=>if x == id then some i else posOf xs (i+1) id
def xZ:∀{sel:List Nat} {k id i:Nat},posOf sel k id=some i->k<=i/\sel[i-k]?=some id
 |[],k,id,i,h=>by simp[posOf]at h
 |x::xs,k,id,i,h=>by
  unfold posOf at h;split at h
  .rename_i e;cases h
   exact⟨pN _,ai e⟩
  .obtain⟨h1,h2⟩:=xZ h;refine⟨an,?_⟩;rw[show i-k=(i-(k+1))+1 from an];simpa using h2
def jQ(sel:List Nat):Nat->C->C
 |0,_=>.za
 |k+1,c=>match c with
  |.ref id hops sz i j=>match posOf sel 0 id with
   |some id'=>.ref id' hops sz i j
   |none=>.za
  |.sl id hops sz lo len full=>match posOf sel 0 id with
   |some id'=>.sl id' hops sz lo len full
   |none=>.za
  |.mp id=>match posOf sel 0 id with
   |some id'=>.mp id'
   |none=>.za
  |.gl id sz rows=>match posOf sel 0 id with
   |some id'=>.gl id' sz rows
   |none=>.fq 0 sz rows
  |.iq t c=>.iq t (jQ sel k c)
  |.rc r=>.rc r
  |.agg cs=>.agg (cs.map (jQ sel k))
  |.fy cs=>.fy (cs.map (jQ sel k))
  |.fn f first caps=>.fn f (first.map (jQ sel k)) (caps.map (jQ sel k))
  |.v x=>.v x
  |.fq o sz rows=>.fq o sz rows
  |.jR cells=>.jR cells
  |.un=>.un
  |.za=>.za
def Env.fD(E:Env)(sel:List Nat):Env:={n:=sel.length,β:=λi hops=>E.β ((sel[i]?).getD 0) hops,κ:=λi hops=>E.κ ((sel[i]?).getD 0) hops,St:=E.St,G:=λi k=>E.G ((sel[i]?).getD 0) k}
def Env.Eh(E:Env)(sel:List Nat):E.shut.le (E.fD sel).shut:=⟨pN _,λid hops hi=>absurd hi (rA _),λid hops hi=>absurd hi (rA _),λb o u hu=>hu,λid _ _ hi=>absurd hi (rA _)⟩
def LL.fD{E':Env}{f:C->C}(h:LL E cs ys)(hf:∀c y,L E c y->L E' (f c) y):LL E' (cs.map f) ys:=
 ⟨ai h.1,λi c y e1 e2=>by
  rw[pw]at e1;cases hx:cs[i]? with
  |none=>rw[hx]at e1;cases e1
  |some c0=>rw[hx]at e1;cases e1;exact hf c0 y (h.2 i c0 y hx e2)⟩
def L.fD{E:Env}(sel:List Nat):∀(k:Nat) {c:C} {y:Value},L E c y->L (E.fD sel) (jQ sel k c) y:=by
 intro k
 induction k with
 |zero=>intro c y h;exact .za y
 |succ k ih=>
  intro c y h
  have pos:∀{id i},posOf sel 0 id=some i->i<sel.length/\(sel[i]?).getD 0=id:=λ{id i} e=>by
   obtain⟨_,h2⟩:=xZ e;rw[sK]at h2;exact⟨(px.1 h2).1,by rw[h2];rfl⟩
  cases h with
  |v x hx=>exact .v _ hx
  |fq o sz rows b off cap us ho hc hsz hst hL=>
   exact .fq o sz rows b off cap us ho hc hsz hst (λi r k c e1 e2=>(hL i r k c e1 e2).mono (E.Eh sel))
  |xA o sz ho a=>exact .xA o sz ho a
  |jR cells b off us hst hL=>
   exact .jR cells b off us hst (λk c e1=>(hL k c e1).mono (E.Eh sel))
  |ref id hops sz i j hn=>
   unfold jQ;dsimp only;split
   .rename_i id' e;obtain⟨h1,h2⟩:=pos e;have:=L.ref (E:=E.fD sel) id' hops sz i j h1;simp only[Env.fD,h2]at this;exact gI
   .exact .za _
  |sl id hops sz lo len full cap hn hlen hf hf'=>
   unfold jQ;dsimp only;split
   .rename_i id' e;obtain⟨h1,h2⟩:=pos e;have:=L.sl (E:=E.fD sel) id' hops sz lo len full cap h1 hlen hf (by simp only[Env.fD,h2];exact hf');simp only[Env.fD,h2]at this;exact gI
   .exact .za _
  |mp id hn=>
   unfold jQ;dsimp only;split
   .rename_i id' e;obtain⟨h1,h2⟩:=pos e;have:=L.mp (E:=E.fD sel) id' h1;simp only[Env.fD,h2]at this;exact gI
   .exact .za _
  |agg cs ys h1 h2 h3=>
   have:=LL.fD (f:=jQ sel k) (E':=E.fD sel) (cs:=cs) (ys:=ys.toList) ⟨ai h1,λi c y e1 e2=>h2 i c y e1 uX⟩ (λc y hl=>ih hl);exact gJ
  |fy cs ys h1 h2=>
   have:=LL.fD (f:=jQ sel k) (E':=E.fD sel) (cs:=cs) (ys:=ys.toList) ⟨ai h1,λi c y e1 e2=>h2 i c y e1 uX⟩ (λc y hl=>ih hl);exact .fy _ ys (ai this.1) (λi c y e1 e2=>this.2 i c y e1 uX)
  |fn f first caps ys zs h1 h2 h3 h4=>
   have t1:=LL.fD (f:=jQ sel k) (E':=E.fD sel) (cs:=first) (ys:=ys.toList) ⟨ai h1,λi c y e1 e2=>h3 i c y e1 uX⟩ (λc y hl=>ih hl);have t2:=LL.fD (f:=jQ sel k) (E':=E.fD sel) (cs:=caps) (ys:=zs.toList) ⟨ai h2,λi c y e1 e2=>h4 i c y e1 uX⟩ (λc y hl=>ih hl);exact gS
  |un=>exact .un
  |za y=>exact .za y
  |gl id sz rows y hn hg hl=>
   unfold jQ;dsimp only;split
   .rename_i id' e;obtain⟨h1,h2⟩:=pos e;exact .gl id' sz rows y h1 (by simp only[Env.fD,h2];exact hg) (hl.mono (E.Eh sel))
   .have h3:E.shut.le (E.fD sel):=⟨pW _,λid hops hi=>absurd hi (rA _),λid hops hi=>absurd hi (rA _),λb o u hu=>hu,λid _ _ hi=>absurd hi (rA _)⟩;exact hl.mono h3
  |iq t c y hl=>exact .iq t _ y (ih hl)
def K3(sel:List Nat)(k:Nat){c:C}(h:zF c=true):zF (jQ sel k c)=true:=by
 cases k with
 |zero=>rfl
 |succ k=>
  cases c with
  |fq o sz rows=>exact h
  |ref id hops sz i j=>unfold jQ;dsimp only;split <;> rfl
  |sl id hops sz lo len full=>unfold jQ;dsimp only;split <;> rfl
  |mp id=>unfold jQ;dsimp only;split <;> rfl
  |gl id sz rows=>unfold jQ;dsimp only;split <;> rfl
  |_=>rfl
def zJ(sel:List Nat)(ob:Ob):Ob:=
 match ob with
 |⟨kind,ty,sz,rows,fz⟩=>⟨kind,ty,sz,match kind with
  |2=>rows
  |4=>rows
  |_=>rows.map λr=>r.map (jQ sel 9),fz⟩
def dead:Ob:=⟨0,0,0,[],0⟩
def xC(sel:List Nat)(H:zq):zq:=sel.map λid=>zJ sel ((H[id]?).getD dead)
def yt:List Nat->Bool
 |[]=>true
 |x::xs=>!(xs.any (· == x)) && yt xs
def kH:∀{l:List Nat},yt l=true->∀(i j x:Nat),l[i]?=some x->l[j]?=some x->i=j
 |[],_,i,j,x,h,_=>by simp at h
 |y::l,h,i,j,x,h1,h2=>by
  simp only[yt,pJ,rE,rk]at h;cases i with
  |zero=>
   cases j with
   |zero=>rfl
   |succ j=>
    simp at h1 h2;subst h1;exact absurd ah (h.1 _ (pE h2))
  |succ i=>
   cases j with
   |zero=>
    simp at h1 h2;subst h2;exact absurd ah (h.1 _ (pE h1))
   |succ j=>
    simp at h1 h2;rw[kH h.2 i j x h1 h2]
def L.V6{c:C}(h:L E c y)(hc:Ck c=true):L E.shut c y:=by
 cases h with
 |agg cs ys h1 h2 h3=>
  refine .agg cs ys h1 (λi c y e1 e2=>(h2 i c y e1 e2).kn ?_) h3;exact pG.1 (show cs.all jV=true from hc) _ (pE e1)
 |v x hx=>exact(L.v (E:=E) _ hx).kn hc
 |fq o sz rows b off cap us ho h2 hsz hst hL=>exact(L.fq (E:=E) o sz rows b off cap us ho h2 hsz hst hL).kn hc
 |xA o sz ho a=>exact(L.xA (E:=E) o sz ho a).kn hc
 |jR cells b off us hst hL=>exact(L.jR (E:=E) cells b off us hst hL).kn hc
 |fn f first caps ys zs h1 h2 h3 h4=>exact(L.fn (E:=E) f first caps ys zs h1 h2 h3 h4).kn hc
 |_=>simp[Ck,jV,Av]at hc
def LL.closed{E':Env}{t:List C}(h:LL E t ys)(hc:t.all Ck=true)(hs:E.shut.le E'):LL E' t ys:=
 ⟨h.1,λi c y e1 e2=>((h.2 i c y e1 e2).V6 (pG.1 hc _ (pE e1))).mono hs⟩
section
variable {B:Nat}
def xI(h:(xC sel H)[i]?=some ob')(qd:sel.all (λid=>Nat.blt id H.length)=true):∃id ob,sel[i]?=some id/\H[id]?=some ob/\ob'=zJ sel ob:=by
 unfold xC at h;rw[pw]at h;cases hx:sel[i]? with
 |none=>rw[hx]at h;cases h
 |some id=>
  rw[hx]at h
  have ft:id<H.length:=by
   have:=pG.1 qd id (pE hx);simpa [Nat.blt_eq] using this
  have h2:H[id]?=some H[id]:=aB
  simp only[pL,rh,h2,rO]at h;exact⟨id,H[id],rfl,h2,h.symm⟩
def wq(qd:sel.all (λid=>Nat.blt id H.length)=true)(ik:qL H=true)(h:qe (xC sel H) i hops=some (sz,rows)):
  ∃id ob rows0,sel[i]?=some id/\H[id]?=some ob/\qe H id hops=some (sz,rows0)/\((ob.kind=2/\rows=rows0)\/(ob.kind=1/\hops=[]/\rows=rows0.map (λr=>r.map (jQ sel 9))/\∀r∈rows0,∀c∈r,zF c=true)):=by
 obtain⟨ob',ho',hk',hg'⟩:=qU h;obtain⟨id,ob,h1,h2,rfl⟩:=xI ho' qd;obtain⟨kind,ty,sz0,rows0,fz⟩:=ob;rcases hk' with hk|hk
 .have hk:kind=1:=hk;subst hk
  have hno:∀r∈rows0,∀c∈r,zF c=true:=by
   have:=pG.1 ik _ (pE h2);dsimp only at this;simpa [pG] using this
  have hg2:v7 sz0 (rows0.map λr=>r.map (jQ sel 9)) hops=some (sz,rows):=hg'
  obtain⟨rfl,e⟩:=wu (λi k c hc=>by
   unfold cellAt at hc;rw[pw]at hc;cases hx:rows0[i]? with
   |none=>rw[hx]at hc;cases hc
   |some r=>
    rw[hx]at hc;simp only[pL,ri,pw]at hc;cases hy:r[k]? with
    |none=>rw[hy]at hc;cases hc
    |some c0=>
     rw[hy]at hc;cases hc
     exact K3 sel 9 (hno r (pE hx) c0 (pE hy))) hg2
  cases e
  exact⟨id,_,rows0,h1,h2,by unfold qe;rw[h2];simp[qT],.inr ⟨rfl,rfl,rfl,hno⟩⟩
 .have hk:kind=2:=hk;subst hk;exact⟨id,_,rows,h1,h2,bq,.inl ⟨rfl,rfl⟩⟩
def qa.fD{w:World}{E:Env}{H:zq}(hh:qa w E H)(sel:List Nat)(qd:sel.all (λid=>Nat.blt id H.length)=true)(iv:yt sel=true)(ik:qL H=true):qa w (E.fD sel) (xC sel H) where
 n:=by simp[Env.fD,xC]
 fH i ob' hops sz rows hob' hx:=by
  obtain⟨id,ob,rows0,h1,h2,h3,h4⟩:=wq qd ik hx;obtain⟨id2,ob2,e1,e2,rfl⟩:=xI hob' qd;rw[h1]at e1;cases e1
  rw[h2]at e2;cases e2
  have hb:=hh.fH id ob hops sz rows0 h2 h3;obtain⟨cur,e,hg,hcs,hcell⟩:=hb.fH;have hβ:∀hops,(E.fD sel).β i hops=E.β id hops:=λhops=>by simp[Env.fD,h1]
  have hκ:∀hops,(E.fD sel).κ i hops=E.κ id hops:=λhops=>by simp[Env.fD,h1]
  have hkind:(zJ sel ob).kind=ob.kind:=by obtain⟨kind,ty,sz,rows,fz⟩:=ob;rfl
  rw[hkind];rcases h4 with⟨hk,rfl⟩|⟨hk,rfl,rfl,hno⟩
  .refine⟨by rw[hκ];exact hb.len,hb.row,cur,e,by rw[hβ];exact hg,by rw[hκ];exact hcs,?_⟩;intro i' k c hc;obtain⟨u,hu,ho⟩:=hcell i' k c hc;refine⟨u,hu,?_⟩;unfold qO at ho|-;split at ho
   .rw[hβ,hκ];exact ho
   .refine⟨?_,ho.2⟩;have h5:=ho.1;simp only[Env.at,hk,if_true]at h5|-;exact h5.mono (E.Eh sel)
  .refine⟨by rw[hκ];simpa using hb.len,?_,cur,e,by rw[hβ];exact hg,by rw[hκ];exact hcs,?_⟩
   .intro r hr;obtain⟨r0,h5,rfl⟩:=rp.1 hr;simpa using hb.row r0 h5
   .intro i' k c hc;unfold cellAt at hc;rw[pw]at hc;cases hx1:rows0[i']? with
    |none=>rw[hx1]at hc;cases hc
    |some r=>
     rw[hx1]at hc;simp only[pL,ri,pw]at hc;cases hy:r[k]? with
     |none=>rw[hy]at hc;cases hc
     |some c0=>
      rw[hy]at hc;cases hc
      obtain⟨u,hu,ho⟩:=hcell i' k c0 (by unfold cellAt;rw[hx1];exact hy);have hn0:=hno r (pE hx1) c0 (pE hy);rw[qO.loose hn0]at ho;refine⟨u,hu,(qO.loose (K3 sel 9 hn0)).2 ⟨?_,ho.2⟩⟩;have h5:=ho.1;have hk2:¬ob.kind=2:=by rw[hk];decide
      simp only[Env.at,pA hk2]at h5|-;exact h5.fD sel 9
 inj i hops i' hops' x y hx hy he:=by
  obtain⟨id,ob,rows0,h1,h2,h3,_⟩:=wq qd ik (sz:=x.1) (rows:=x.2) (ai hx);obtain⟨id',ob',rows0',h1',h2',h3',_⟩:=wq qd ik (sz:=y.1) (rows:=y.2) (ai hy);simp only[Env.fD,h1,h1',rO]at he;obtain⟨rfl,rfl⟩:=hh.inj id hops id' hops' _ _ h3 h3' he;exact⟨kH iv _ _ _ h1 h1',rfl⟩
 qp:=hh.qp
 sep i hops x o u hx hu:=by
  obtain⟨id,ob,rows0,h1,h2,h3,_⟩:=wq qd ik (sz:=x.1) (rows:=x.2) (ai hx);simp only[Env.fD,h1,rO]at hu;obtain⟨e1,ob2,e2,e3⟩:=hh.sep id hops _ o u h3 hu;rw[h2]at e2;cases e2
  refine⟨e1,zJ sel ob,?_,?_⟩
  .unfold xC;rw[pw,h1];simp[h2]
  .obtain⟨kind,ty,sz,rows,fz⟩:=ob;exact e3
 ty i ob' hob' hk:=by
  obtain⟨id,ob,h1,h2,rfl⟩:=xI hob' qd;obtain⟨kind,ty,sz,rows,fz⟩:=ob;obtain⟨cur,hc⟩:=hh.ty id _ h2 hk;exact⟨cur,by simp only[Env.fD,h1,rO];exact hc⟩
 fz i ob' hob':=by
  obtain⟨id,ob,h1,h2,rfl⟩:=xI hob' qd;obtain⟨kind,ty,sz,rows,fz⟩:=ob;have:=hh.fz id _ h2;dsimp only[zJ]at this|-;split
  .exact gI
  .exact gI
  .simpa using this
def Cr:Nat->Nat->List Nat->Bool
 |0,_,_=>true
 |n+1,k,x::xs=>x == k && Cr n (k+1) xs
 |_+1,_,[]=>false
def Kf:∀{n k:Nat} {l:List Nat},Cr n k l=true->n<=l.length/\∀i,i<n->l[i]?=some (k+i)
 |0,k,l,h=>⟨pW _,λi hi=>absurd hi (rA _)⟩
 |n+1,k,x::xs,h=>by
  simp only[Cr,pJ,rF]at h;obtain⟨h1,h2⟩:=Kf h.2;refine⟨ai h1,λi hi=>?_⟩;cases i with
  |zero=>simp[h.1]
  |succ i=>simp[h2 i an];omega
 |n+1,k,[],h=>by simp[Cr]at h
def kf(sel:List Nat)(ob:Ob):(zJ sel ob).kind=ob.kind/\(zJ sel ob).ty=ob.ty/\(zJ sel ob).sz=ob.sz/\(zJ sel ob).rows.length=ob.rows.length:=by
 obtain⟨kind,ty,sz,rows,fz⟩:=ob;refine⟨rfl,rfl,rfl,?_⟩;unfold zJ;dsimp only;split <;> simp
def qG.fD{E:Env}{H:zq}{sel:List Nat}(qd:sel.all (λid=>Nat.blt id H.length)=true){i b:Nat}(h:qG (E.fD sel) (xC sel H) i b):∃id,sel[i]?=some id/\qG E H id b:=by
 obtain⟨ob',cap,h1,h2,h3,h4⟩:=h;obtain⟨id,ob,e1,e2,rfl⟩:=xI h1 qd;obtain⟨l1,l2,l3,l4⟩:=kf sel ob;rw[l4]at h3 h4;simp only[Env.fD,e1,rO]at h3;exact⟨id,e1,ob,cap,e2,br,h3,h4⟩
def GZ(h:ob.kind=4):zJ sel ob=ob:=by
 obtain⟨kind,ty,sz,rows,fz⟩:=ob;cases h
 rfl
def jz.fD(qd:sel.all (λid=>Nat.blt id H.length)=true){b:Nat}(h:jz (xC sel H) i b):∃id,sel[i]?=some id/\jz H id b:=by
 obtain⟨ob',r,t,h1,h2,h3,h4⟩:=h;obtain⟨id,ob,e1,e2,rfl⟩:=xI h1 qd;have hk4:ob.kind=4:=by rw[<-(kf sel ob).1];exact h2
 rw[GZ hk4]at h3 h4;exact⟨id,e1,ob,r,t,e2,hk4,h3,h4⟩
def q6.fD{E:Env}{H:zq}{sel:List Nat}(qd:sel.all (λid=>Nat.blt id H.length)=true)(ik:qL H=true){b:Nat}(h:q6 (E.fD sel) (xC sel H) b):q6 E H b:=by
 obtain⟨i,hops,⟨sz,rows⟩,hx,rfl⟩:=h;obtain⟨id,ob,rows0,h3,h4,h5,_⟩:=wq qd ik hx;exact⟨id,hops,_,h5,by simp[Env.fD,h3]⟩
def qx.fD{w:World}{E:Env}{H:zq}(hh:qx w E H)(sel:List Nat)(qd:sel.all (λid=>Nat.blt id H.length)=true)(iv:yt sel=true)(ik:qL H=true):qx w (E.fD sel) (xC sel H) where
 base:=hh.base.fD sel qd iv ik
 fA:={
  val:=λi ob' h1 h2=>by
   obtain⟨id,ob,e1,e2,rfl⟩:=xI h1 qd;obtain⟨l1,l2,l3,l4⟩:=kf sel ob;rw[l4];simp only[Env.fD,e1,rO];exact hh.fA.val id ob e2 br
  fH:=λi b ob' h1 h2=>by
   obtain⟨id,e0,h3⟩:=h1.fD qd;obtain⟨id',ob,e1,e2,rfl⟩:=xI h2 qd;rw[e0]at e1;cases e1
   obtain⟨l1,l2,l3,l4⟩:=kf sel ob;rw[l2,l3,l4];simp only[Env.fD,e0,rO];exact hh.fA.fH id b ob h3 e2
  sep:=λi b h1 h2=>by
   obtain⟨id,e0,h3⟩:=h1.fD qd;exact hh.fA.sep id b h3 (h2.fD qd ik)
  inj:=λi i' b h1 h2=>by
   obtain⟨id,e0,h3⟩:=h1.fD qd;obtain⟨id',e1,h4⟩:=h2.fD qd;obtain rfl:=hh.fA.inj id id' b h3 h4;exact kH iv _ _ _ e0 e1
  st:=λi b ob' o u h1 h2 h3=>by
   obtain⟨id,e0,h4⟩:=h1.fD qd;obtain⟨id',ob,e1,e2,rfl⟩:=xI h2 qd;rw[e0]at e1;cases e1
   obtain⟨l1,l2,l3,l4⟩:=kf sel ob;rw[l3,l4];exact hh.fA.st id b ob o u h4 e2 h3
  top:=λi ob' k u h1 h2 h3=>by
   obtain⟨id,ob,e1,e2,rfl⟩:=xI h1 qd;obtain⟨l1,l2,l3,l4⟩:=kf sel ob;rw[l4];simp only[Env.fD,e1,rO]at h3;exact hh.fA.top id ob k u e2 br h3
  iK:=λi ob' r t h1 h2 h3=>by
   obtain⟨id,ob,e1,e2,rfl⟩:=xI h1 qd;have hk4:ob.kind=4:=by rw[<-(kf sel ob).1];exact h2
   rw[GZ hk4]at h3;have:=pG.1 ik ob (pE e2);rw[hk4,h3.2,h3.1]at this;obtain⟨p1,p2⟩:=hh.fA.iK id ob r t e2 hk4 h3;have ht:t.all Ck=true:=ai this
   rw[GZ hk4];exact⟨p1,p2.map λys hl=>hl.closed ht ⟨pW _,λ_ _ h=>absurd h (rA _),λ_ _ h=>absurd h (rA _),λ_ _ _ h=>h,λ_ _ _ h=>absurd h (rA _)⟩⟩
  wZ:=λi i' b h1 h2=>by
   obtain⟨id,e0,h3⟩:=h1.fD qd;obtain⟨id',e1,h4⟩:=h2.fD qd;obtain rfl:=hh.fA.wZ id id' b h3 h4;exact kH iv _ _ _ e0 e1}
def zl.fD(sel m:List Nat)(t:List C)(H:zq)(hB:Cr B 0 sel=true)(qd:sel.all (λid=>Nat.blt id H.length)=true)(iv:yt sel=true)(ik:qL H=true):zl B ⟨t,H⟩ ⟨(Ba m 0 t).map (jQ sel 9),xC sel H⟩:=λmm w E a hs=>by
 obtain⟨h1,h2⟩:=Kf hB
 refine⟨E.fD sel,⟨hs.heap.fD sel qd iv ik,((Ge m t 0).LL hs.tmps).fD (λc y hl=>hl.fD sel 9),hs.defers,by simpa [xC] using h1⟩,
  ⟨⟨λid hops hi=>by simp[Env.fD,h2 id hi],λid hops hi=>by simp[Env.fD,h2 id hi],λ_ _ _ h=>h,λid k u hi hu=>by simpa [Env.fD,h2 id hi] using hu⟩,rfl,rfl,rfl,pN _,λ_ _ _=>V,λb o u hu=>.inl hu,?_⟩⟩
 rintro b (hb|⟨i,hb|hb⟩)
 .exact .inr (.inl (hb.fD qd ik))
 .obtain⟨id,_,h3⟩:=hb.fD qd;exact .inr (.inr ⟨id,.inl h3⟩)
 .obtain⟨id,_,h3⟩:=hb.fD qd;exact .inr (.inr ⟨id,.inr h3⟩)
end
def WC.trans{c c' c'':C}(h:WC c c')(h':WC c' c''):WC c c'':=λE y hl=>h' E y (h E y hl)
def WC.nil(sz sz':Nat):WC (.fq 1 sz []) (.fq 0 sz' []):=(WC.none 1 sz sz').trans (WC.share 1 sz' [])
def iI.at:∀{cs:List C} {i:Nat} {c c':C},cs[i]?=some c->WC c c'->iI cs (cs.set i c')
 |[],i,c,c',h,hw=>by simp at h
 |x::xs,0,c,c',h,hw=>by simp at h;subst h;exact .cons hw (iI.refl xs)
 |x::xs,i+1,c,c',h,hw=>.cons (.refl x) (iI.at uW hw)
def zl.cell(i:Nat){c c':C}(h:s.tmps[i]?=some c)(hw:WC c c'):zl B s ⟨s.tmps.set i c',s.H⟩:=zl.tmps (iI.at h hw)
def AI(t2:List C):List C->Prop:=
 List.rec (motive:=λ_=>List C->Prop) (λt1=>match t1 with|[]=>True|_::_=>False)
  (λc' _ ih t1=>match t1 with
   |[]=>False
   |c::cs=>match c' with
    |.za=>ih cs
    |c'=>c=c'/\ih cs) t2
def GP:∀{t2 t1:List C},AI t2 t1->iI t1 t2
 |[],[],_=>.nil
 |[],_::_,h=>h.elim
 |_::_,[],h=>h.elim
 |c'::t2,c::t1,h=>by
  cases c' with
  |za=>exact .cons (.za c) (GP (t2:=t2) (t1:=t1) h)
  |_=>
   obtain⟨h1,h2⟩:=h;exact .cons (h1 ▸ .refl c) (GP (t2:=t2) (t1:=t1) h2)
section
variable {P:Program} {B:Nat}
def zl.AI{t1 t2:List C}(h:Ab.AI t2 t1):zl B ⟨t1,H⟩ ⟨t2,H⟩:=zl.tmps (GP h)
def zl.jd(n:Nat){t1 t2:List C}{H1 H2:zq}(h:Ab.AI t2 t1)(hB:Nat.ble B n=true)(hn:Nat.ble n H1.length=true)(ht:t2.all (qE n 9)=true)(hr:qj n (H1.take n)=true)(hH:H1.take n=H2):zl B ⟨t1,H1⟩ ⟨t2,H2⟩:=by
 subst hH;exact(zl.AI h).trans (zl.drop (s:=⟨t2,H1⟩) n hB hn ht hr)
def zl.GH(t:Nat){id len ty:Nat}(ht:s.tmps[t]?=some (.sl id [] sz 0 len full))(hob:s.H[id]?=some ⟨2,ty,sz,rows,0⟩)(hlen:len=rows.length)
 (hno:∀r∈rows,∀c∈r,zF c=true):
  zl B s ⟨s.tmps.set t (.fq (if full then 1 else 0) sz rows),s.H.set id ⟨2,ty,sz,rows,rows.length⟩⟩:=by
 have:=zl.freeze (B:=B) t ht hob V V (by simp[hlen]) hno;rw[va _ hob]at this;simpa [hlen] using this
def qx.JT(hh:qx w E H){id len ty:Nat}(hl:L E (.sl id [] sz 0 len full) y)(hob:H[id]?=some ⟨2,ty,sz,rows,0⟩)(hlen:len=rows.length)
 (hno:∀r∈rows,∀c∈r,zF c=true):
  ∃E1,qx w E1 (H.set id ⟨2,ty,sz,rows,rows.length⟩)/\L E1 (.fq (if full then 1 else 0) sz rows) y/\Grow w E H w E1 (H.set id ⟨2,ty,sz,rows,rows.length⟩):=by
 obtain⟨E1,hs,g⟩:=zl.GH (B:=H.length) (s:=⟨[.sl id [] sz 0 len full],H⟩) 0 V hob hlen hno 0 w E ⟨#[y],[]⟩ ⟨hh,LL.one hl,pW _,pN _⟩;have hn:=hs.heap.n
 refine⟨E1,hs.heap,hs.tmps.cons_inv.1,⟨⟨by rw[hn,hh.n];simp,λid hops hi=>g.le.β id hops tE,λid hops hi=>g.le.κ id hops tE,g.le.St,λid k u hi=>g.le.G id k u tE⟩,
  g.os,g.tape,g.output,g.size,g.frame,g.jB,g.own⟩⟩
def zl.WW(vid k:Nat){id len ty vty vsz:Nat}(hv:s.H[vid]?=some ⟨1,vty,vsz,[r],fz⟩)(hk:r[k]?=some (.sl id [] sz 0 len full))(hob:s.H[id]?=some ⟨2,ty,sz,rows,0⟩)(hlen:len=rows.length)
 (hno:∀r∈rows,∀c∈r,zF c=true)(hr:r.all zF=true)(hr':(r.set k (.fq (if full then 1 else 0) sz rows)).all zF=true):
  zl B s ⟨s.tmps,(s.H.set id ⟨2,ty,sz,rows,rows.length⟩).set vid ⟨1,vty,vsz,[r.set k (.fq (if full then 1 else 0) sz rows)],fz⟩⟩:=λm w E a hs=>by
 have hgb:qe s.H vid []=some (vsz,[r]):=by unfold qe;rw[hv];simp[qT]
 obtain⟨cur,e,h3,h4,h5⟩:=(hs.heap.base.fH _ _ _ _ _ hv hgb).fH;obtain⟨u,hu,ho⟩:=h5 0 k _ (y7.2 ⟨rfl,hk⟩);rw[qO.loose V]at ho;have hl:L E (.sl id [] sz 0 len full) u:=ax
 obtain⟨E1,hh1,hl1,g1⟩:=hs.heap.JT hl hob hlen hno;have hne:vid≠id:=by rintro rfl;rw[hv]at hob;cases hob
 have hob1:(s.H.set id ⟨2,ty,sz,rows,rows.length⟩)[vid]?=some ⟨1,vty,vsz,[r],fz⟩:=by rw[pM,pA (Ne.symm hne)];exact hv
 have hβ:E1.β vid []=E.β vid []:=g1.le.β vid [] (by rw[hs.heap.n];exact(px.1 hv).1)
 have hcu:w.cell? ⟨E1.β vid [],k,none⟩=some u:=by
  unfold World.cell?;rw[hβ,h3];simpa using hu
 obtain⟨hR,g2⟩:=hh1.Ds hob1 (r':=r.set k (.fq (if full then 1 else 0) sz rows)) ah hr hr' λj c c' v e1 e2 hl' hv=>by
  rw[pM]at e2;split at e2
  .rename_i e;subst e;rw[hcu]at hv;cases hv
   split at e2
   .cases e2;exact hl1
   .cases e2
  .rw[e1]at e2;cases e2
   exact hl'
 exact dY
def qC.Ho{r:C}(h:qC P f [] args λc _=>xN 0 9 c=r):zb P f [] args r []:=λw E vs hh hl=>by
 refine(h w E vs hh hl).mono ?_;rintro e w' ⟨c,H',v,E',rfl,rfl,h1,h2,g⟩;have h3:=h1.drop 0 (pW _) (by simp[qj]);rw[eU]at h3;have hn:E.n=0:=hh.n
 exact⟨v,E'.cut 0,rfl,h3,h2.low 0 9,⟨⟨by rw[hn];exact pW _,λid hops hi=>by rw[hn]at hi;omega,λid hops hi=>by rw[hn]at hi;omega,g.le.St,λid k u hi=>by rw[hn]at hi;omega⟩,g.os,g.tape,g.output,g.size,g.frame,g.jB,
  λb h=>absurd h xj.none⟩⟩
def zb.zi{r:C}(hf:P.funcs[f]?=some fn)(hb:fn.body=some c)
 (h:wpA P 0 c (entry fn args) [] λex t1 H1=>(ex=.ret\/ex=.normal)/\∃s2,zl 0 ⟨t1,H1⟩ s2/\(kg P fn s2).map (xN 0 9)=some r):zb P f [] args r []:=by
 refine qC.Ho (qC.kQ (H:=[]) hf hb ((jh h).mono λex s1 ⟨hex,s2,hw,h2⟩=>?_));cases h3:kg P fn s2 with
 |none=>rw[h3]at h2;cases h2
 |some r0=>
  rw[h3]at h2;cases h2
  exact⟨hex,s2,r0,hw,h3,rfl⟩
def ab{r:C}{zQ:Prop}(hf:P.funcs[f]?=some fn)(z0:zQ)(hb:fn.body=some c:=by exact V)(ze:zQ->wpA P 0 c (entry fn args) [] λex t1 H1=>(ex=.ret\/ex=.normal)/\∃s2,zl 0 ⟨t1,H1⟩ s2/\(kg P fn s2).map (xN 0 9)=some r:=by intro zh;(conv=>whnf);exact zh):zb P f [] args r []:=zb.zi hf hb (ze z0)
def zH.seq{t:List C}(N:Nat)(T:Nat->List C)(Hp:Nat->zq)(R:Nat->Prop)(h0:zl B ⟨t,H⟩ ⟨T 0,Hp 0⟩)(r0:R 0)
 (step:∀k,k<N->R k->wpA P B c (T k) (Hp k) λe t1 H1=>(e=.normal/\zl B ⟨t1,H1⟩ ⟨T (k+1),Hp (k+1)⟩/\R (k+1))\/(e≠.normal/\K e t1 H1))
 (done:R N->wpA P B c (T N) (Hp N) λe t1 H1=>e≠.normal/\K e t1 H1):
  AY P B c t H K:=by
 have key:∀n k,k+n=N->R k->lK P B c (n+1) ⟨T k,Hp k⟩ λex s=>K ex s.tmps s.H:=by
  intro n
  induction n with
  |zero=>
   intro k hk hr;obtain rfl:k=N:=an
   refine .step ((jh (done hr)).mono λex s1 ⟨hne,hK⟩=>?_);cases ex with
   |normal=>exact absurd V hne
   |_=>exact hK
  |succ n ih=>
   intro k hk hr;refine .step ((jh (step k an hr)).post λex s1 h1=>?_);rcases h1 with⟨rfl,hw,hr'⟩|⟨hne,hK⟩
   .exact⟨_,hw,(ih (k+1) an hr':lK P B c (n+1) _ _)⟩
   .refine⟨s1,.refl s1,?_⟩;cases ex with
    |normal=>exact absurd V hne
    |_=>exact hK
 exact⟨.pre h0 ⟨N+1,key N 0 an r0⟩⟩
end
section
variable {P:Program} {B:Nat}
structure LoopN(P:Program)(B:Nat)(c:Code)(n:Nat)(t:List C)(H:zq)(K:Exit->List C->zq->Prop):Prop where
 out:lK P B c n ⟨t,H⟩ λex s=>K ex s.tmps s.H
def LoopN.step{c:Code}{n:Nat}{t:List C}{H:zq}{K:Exit->List C->zq->Prop}
 (h:wpA P B c t H λe t1 H1=>(e=.normal/\LoopN P B c n t1 H1 K)\/(e≠.normal/\K e t1 H1)):LoopN P B c (n+1) t H K:=by
 refine⟨.step ((jh h).post λex s1 h1=>?_)⟩;rcases h1 with⟨rfl,h⟩|⟨hne,hK⟩
 .exact⟨s1,.refl s1,h.out⟩
 .refine⟨s1,.refl s1,?_⟩;cases ex with
  |normal=>exact absurd V hne
  |_=>exact hK
def AY.FB(n:Nat){t:List C}(h:LoopN P B c n t H K):AY P B c t H K:=⟨⟨n,h.out⟩⟩
end
section
variable {P:Program} {B:Nat}
def lM{x y:Code}{t:List C}{R:Exit->S->Prop}(h:wpA P B x t H λe t1 H1=>(e=.normal/\∃t2 H2,zl B ⟨t1,H1⟩ ⟨t2,H2⟩/\qX P B y ⟨t2,H2⟩ R)\/(e≠.normal/\R e ⟨t1,H1⟩)):qX P B (.seq x y) ⟨t,H⟩ R:=by
 refine .seq ((jh h).post λex s1 h1=>?_);rcases h1 with⟨rfl,t2,H2,hw,hr⟩|⟨hne,hr⟩
 .exact⟨_,hw,hr⟩
 .refine⟨s1,.refl s1,?_⟩;cases ex with
  |normal=>exact absurd V hne
  |_=>exact hr
end
def behind:Nat->Code->Code
 |0,c=>c
 |n+1,.seq _ y=>behind n y
 |_,c=>c
def cE(n:Nat){t1 t2:List C}{H1 H2:zq}(h:Ab.AI t2 t1:=by (conv=>whnf);refine tc ?_;exact trivial)(hB:Nat.ble B n=true:=by exact V)(hn:Nat.ble n H1.length=true:=by exact V)(ht:t2.all (qE n 9)=true:=by exact V)(hr:qj n (H1.take n)=true:=by exact V)(hH:H1.take n=H2:=by exact V):zl B ⟨t1,H1⟩ ⟨t2,H2⟩:=zl.jd n h hB hn ht hr hH
def cC{t1 t2:List C}(h:Ab.AI t2 t1:=by (conv=>whnf);refine tc ?_;exact trivial):zl B ⟨t1,H⟩ ⟨t2,H⟩:=zl.AI h
end Go.Ab
