import Derived.IntWalk
import Derived.Test.YtoeaoedlpmohoaaGreatSB
set_option linter.all false
set_option maxRecDepth 100000
set_option maxHeartbeats 4000000
namespace Go.Ab
def PA(x:Value)(k:Value->Prop):Prop:=
 match x with
 |.int t n=>k (.int t n)
 |.bool b=>k (.bool b)
 |.string s=>k (.string s)
 |x=>k x
def jV(n:Nat)(k:Nat->Prop):Prop:=
 match n with
 |0=>k 0
 |1=>k 1
 |2=>k 2
 |3=>k 3
 |4=>k 4
 |5=>k 5
 |6=>k 6
 |7=>k 7
 |8=>k 8
 |9=>k 9
 |10=>k 10
 |11=>k 11
 |12=>k 12
 |13=>k 13
 |14=>k 14
 |15=>k 15
 |16=>k 16
 |17=>k 17
 |18=>k 18
 |19=>k 19
 |20=>k 20
 |21=>k 21
 |22=>k 22
 |23=>k 23
 |24=>k 24
 |25=>k 25
 |26=>k 26
 |27=>k 27
 |28=>k 28
 |29=>k 29
 |30=>k 30
 |31=>k 31
 |32=>k 32
 |33=>k 33
 |34=>k 34
 |35=>k 35
 |36=>k 36
 |37=>k 37
 |38=>k 38
 |39=>k 39
 |40=>k 40
 |41=>k 41
 |42=>k 42
 |43=>k 43
 |44=>k 44
 |45=>k 45
 |46=>k 46
 |47=>k 47
 |48=>k 48
 |49=>k 49
 |50=>k 50
 |51=>k 51
 |52=>k 52
 |53=>k 53
 |54=>k 54
 |55=>k 55
 |56=>k 56
 |57=>k 57
 |58=>k 58
 |59=>k 59
 |60=>k 60
 |61=>k 61
 |62=>k 62
 |63=>k 63
 |64=>k 64
 |n=>k n
def qI{n:Nat}{k:Nat->Prop}(h:jV n k):k n:=by
 unfold jV at h;split at h <;> exact h
def yd{α:Type}:List α->(List α->Prop)->Prop
 |[],k=>k []
 |x::xs,k=>yd xs λys=>k (x::ys)
def jJ{α:Type}:∀{l:List α} {k:List α->Prop},yd l k->k l
 |[],k,h=>h
 |x::xs,k,h=>jJ (l:=xs) (k:=λys=>k (x::ys)) h
def jk(c:C)(k:C->Prop):Prop:=
 match c with
 |.v x=>PA x λx=>k (.v x)
 |.lq o sz rows=>k (.lq o sz rows)
 |.jK cells=>yd cells λcells=>k (.jK cells)
 |.ref id hops sz i j=>jV id λid=>jV sz λsz=>jV j λj=>k (.ref id hops sz i j)
 |.sl id hops sz lo len full=>jV id λid=>k (.sl id hops sz lo len full)
 |.fn f first caps=>k (.fn f first caps)
 |.mp id=>jV id λid=>k (.mp id)
 |.agg cs=>yd cs λcs=>k (.agg cs)
 |.lK cs=>yd cs λcs=>k (.lK cs)
 |.un=>k .un
 |.za=>k .za
 |.gl id sz rows=>jV id λid=>k (.gl id sz rows)
 |.mZ t c=>k (.mZ t c)
 |.rc r=>k (.rc r)
def zpg{x:Value}{k:Value->Prop}(h:PA x k):k x:=by
 unfold PA at h;split at h <;> exact h
def zU{c:C}{k:C->Prop}(h:jk c k):k c:=by
 cases c with
 |v x=>exact zpg (k:=λx=>k (.v x)) h
 |jK cells=>exact jJ (k:=λcells=>k (.jK cells)) h
 |ref id hops sz i j=>exact qI (k:=λj=>k (.ref id hops sz i j)) (qI (k:=λsz=>jV j λj=>k (.ref id hops sz i j)) (qI (k:=λid=>jV sz λsz=>jV j λj=>k (.ref id hops sz i j)) h))
 |sl id hops sz lo len full=>exact qI (k:=λid=>k (.sl id hops sz lo len full)) h
 |mp id=>exact qI (k:=λid=>k (.mp id)) h
 |gl id sz rows=>exact qI (k:=λid=>k (.gl id sz rows)) h
 |agg cs=>exact jJ (k:=λcs=>k (.agg cs)) h
 |lK cs=>exact jJ (k:=λcs=>k (.lK cs)) h
 |_=>exact h
def kO{α:Type}(f:α->(α->Prop)->Prop):List α->(List α->Prop)->Prop
 |[],k=>k []
 |x::xs,k=>f x λx=>kO f xs λxs=>k (x::xs)
def jj{α:Type}{f:α->(α->Prop)->Prop}(hf:∀x k,f x k->k x):∀{l:List α} {k:List α->Prop},kO f l k->k l
 |[],k,h=>h
 |x::xs,k,h=>jj hf (l:=xs) (k:=λxs=>k (x::xs)) (hf x _ h)
def OR(ob:Ob)(k:Ob->Prop):Prop:=
 match ob with
 |⟨kind,ty,sz,rows,fz⟩=>match kind with
  |1=>jV sz λsz=>kO (kO jk) rows λrows=>k ⟨1,ty,sz,rows,fz⟩
  |kd=>k ⟨kd,ty,sz,rows,fz⟩
def zne{ob:Ob}{k:Ob->Prop}(h:OR ob k):k ob:=by
 obtain⟨kind,ty,sz,rows,fz⟩:=ob;unfold OR at h;dsimp only at h;split at h
 ·exact jj (λ_ _ h=>jj (λ_ _ h=>zU h) h) (k:=λrows=>k ⟨1,ty,sz,rows,fz⟩) (qI (k:=λsz=>kO (kO jk) rows λrows=>k ⟨1,ty,sz,rows,fz⟩) h)
 ·exact h
def D4(H:zo)(k:zo->Prop):Prop:=kO OR H k
def kR{H:zo}{k:zo->Prop}(h:D4 H k):k H:=jj (λ_ _ h=>zne h) h
def okB(c:C)(k:C->Prop):Prop:=
 match c with
 |.v (.bool b)=>(b=true->k (.v (.bool true)))/\(b=false->k (.v (.bool false)))
 |c=>k c
def Mr(c:C)(k:C->Prop):Prop:=
 match c with
 |.v (.bool b)=>match b with
  |true=>k (.v (.bool true))
  |false=>k (.v (.bool false))
 |c=>jk c k
def Ub{c:C}{k:C->Prop}(h:Mr c k):k c:=by
 unfold Mr at h;split at h
 ·rename_i b;cases b <;> exact h
 ·exact zU h
def jR{c:C}{k:C->Prop}(h:okB c k):k c:=by
 unfold okB at h;split at h
 ·rename_i b;cases b
  ·exact h.2 O
  ·exact h.1 O
 ·exact h
def Ej{α:Type}:List α->Nat->α->(List α->Prop)->Prop
 |[],_,_,k=>k []
 |_::xs,0,y,k=>k (y::xs)
 |x::xs,n+1,y,k=>Ej xs n y λys=>k (x::ys)
def Gg{α:Type}:∀{l:List α} {n:Nat} {y:α} {k:List α->Prop},Ej l n y k->k (l.set n y)
 |[],_,_,k,h=>h
 |_::xs,0,y,k,h=>h
 |x::xs,n+1,y,k,h=>Gg (l:=xs) (n:=n) (y:=y) (k:=λys=>k (x::ys)) h
def BL(tmps:List C)(dst:Option Tmp)(c:C)(k:List C->Prop):Prop:=
 match dst with
 |some d=>Ej tmps d c k
 |none=>k tmps
def j5{tmps:List C}{dst:Option Tmp}{c:C}{k:List C->Prop}(h:BL tmps dst c k):k (put tmps dst c):=by
 cases dst with
 |none=>exact h
 |some d=>exact Gg h
def bK(b:Bool)(k:Prop):Prop:=
 match b with
 |true=>k
 |false=>False
def qh{b:Bool}{k:Prop}(h:bK b k):b=true/\k:=by
 cases b
 ·exact du
 ·exact⟨rfl,h⟩
def CL(ρ:Operand->C)(x:Option Operand)(dflt:Nat)(k:Nat->Prop):Prop:=
 match x with
 |none=>k dflt
 |some y=>match ρ y with
  |.v (.int _ n)=>0<=n/\k n.toNat
  |_=>False
def vr{ρ:Operand->C}{x:Option Operand}{dflt:Nat}{k:Nat->Prop}(h:CL ρ x dflt k):∃n,AW ρ x dflt n/\k n:=by
 unfold CL at h;unfold AW;cases x with
 |none=>exact⟨dflt,rfl,h⟩
 |some y=>
  dsimp only at h;split at h
  ·rename_i kd n e;exact⟨n.toNat,⟨kd,by rw[e,tq h.1]⟩,h.2⟩
  ·exact du
def Eg(place:Nat->Option (Nat×Nat)):List C->List (Nat×C)->(List C->Prop)->Prop
 |cells,[],k=>k cells
 |cells,(i,c)::rest,k=>match place i with
  |none=>False
  |some (off,size)=>bK (AP c && (c.cells.length == size) && decide (off+size<=cells.length)) <|kO jk (yR off c.cells cells) λcells=>Eg place cells rest k
def Nq{place:Nat->Option (Nat×Nat)}:∀{parts:List (Nat×C)} {cells:List C} {k:List C->Prop},Eg place cells parts k->∃cs,Ef place cells parts=some cs/\k cs
 |[],cells,k,h=>⟨cells,rfl,h⟩
 |(i,c)::rest,cells,k,h=>by
  unfold Eg at h;split at h
  ·exact du
  ·rename_i off size hp;obtain⟨h1,h2⟩:=qh h;have h3:=jj (λ_ _ h=>zU h) (k:=λcells=>Eg place cells rest k) h2;obtain⟨cs,h4,h5⟩:=Nq h3;refine⟨cs,?_,h5⟩;simp only[Ef,hp];rw[pA h1];exact h4
def Pd(P:Program)(t:TypeId)(parts:List (Nat×C))(k:List C->Prop):Prop:=
 match Bx P t,P.underlying t with
 |some z,some (.array _ e)=>match P.info? e with
  |some ie=>kO jk z λz=>Eg (λi=>some (i*ie.size,ie.size)) z parts k
  |none=>False
 |some z,some (.struct fields)=>match fields.toList.mapM (λf=>(P.info? f.type).map λi=>(f.offset,i.size)) with
  |some places=>yd places λplaces=>kO jk z λz=>Eg (places.toArray[·]?) z parts k
  |none=>False
 |_,_=>False
def R4{P:Program}{t:TypeId}{parts:List (Nat×C)}{k:List C->Prop}(h:Pd P t parts k):∃cs,Ld P t parts=some cs/\k cs:=by
 unfold Pd at h;unfold Ld;split at h
 ·rename_i z n e hz hu;simp only[hz,hu];split at h
  ·rename_i ie hie;simp only[hie];exact Nq (jj (λ_ _ h=>zU h) (k:=λz=>Eg (λi=>some (i*ie.size,ie.size)) z parts k) h)
  ·exact du
 ·rename_i z fields hz hu;simp only[hz,hu];split at h
  ·rename_i places hpl;simp only[hpl];have h1:=jJ (k:=λplaces:List (Nat×Nat)=>kO jk z λz=>Eg (places.toArray[·]?) z parts k) h;exact Nq (jj (λ_ _ h=>zU h) (k:=λz=>Eg (places.toArray[·]?) z parts k) h1)
  ·exact du
 ·exact du
def PF(P:Program)(H:zo)(ρ:Operand->C)(t:TypeId)(x:Operand)(lo hi mx:Option Operand)(K:C->zo->Prop):Prop:=
 match P.underlying t with
 |some (.slice e)=>match P.info? e with
  |some i=>match ρ x with
   |.lq fo sz rows=>(rows=[]\/sz=i.size)/\match mx with
    |none=>match hi with
     |none=>CL ρ lo 0 λl=>l<=rows.length/\K (.lq (if fo == 1 then 1 else 0) sz (rows.drop l)) H
     |some hh=>CL ρ lo 0 λl=>CL ρ (some hh) rows.length λh=>l<=h/\h<=rows.length/\K (.lq 0 sz ((rows.drop l).take (h-l))) H
    |some m=>match hi with
     |some hh=>CL ρ lo 0 λl=>CL ρ (some hh) 0 λh=>CL ρ (some m) 0 λm'=>m'=h/\l<=h/\h<=rows.length/\K (.lq 1 sz ((rows.drop l).take (h-l))) H
     |none=>False
   |.sl id hops sz lo0 len full=>match mx with
    |none=>sz=i.size/\CL ρ lo 0 λl=>CL ρ hi len λh=>l<=h/\h<=len/\(l=0\/l<h)/\(full=false\/h=len)/\K (.sl id hops sz (lo0+l) (h-l) full) H
    |some _=>False
   |_=>False
  |none=>False
 |some .string=>match ρ x with
  |.v (.string s)=>match s with
   |⟨⟨b⟩⟩=>match mx with
    |none=>CL ρ lo 0 λl=>CL ρ hi b.length λh=>l<=h/\h<=b.length/\K (.v (.string ⟨⟨(b.take h).drop l⟩⟩)) H
    |some _=>False
  |_=>False
 |_=>False
def Pu(P:Program)(H:zo)(ρ:Operand->C)(t:TypeId)(x y:Operand)(K:C->zo->Prop):Prop:=
 match P.underlying t with
 |some (.slice e)=>match P.info? e with
  |some i=>match ρ y with
   |.v (.int _ n)=>match ρ x with
    |.lq o sz rows=>bK ((o == 0 || o == 1) && sz == i.size) <|0<=n/\∃r,rows[n.toNat]?=some r/\K (.jK r) H
    |.sl id hops sz lo len _=>bK (sz == i.size) <|0<=n/\n.toNat<len/\K (.ref id hops sz (lo+n.toNat) 0) H
    |_=>False
   |_=>False
  |none=>False
 |some (.array len e)=>match P.info? e with
  |some i=>match ρ y with
   |.v (.int _ n)=>match EK (ρ x) (n.toNat*i.size) with
    |some c=>0<=n/\n<len/\jk c λc=>K c H
    |none=>False
   |_=>False
  |none=>False
 |_=>False
def Pv(P:Program)(H:zo)(ρ:Operand->C)(t:TypeId)(x y:Operand)(K:C->zo->Prop):Prop:=
 match ρ y with
 |.v (.int _ n)=>match P.underlying t with
  |some .string=>match ρ x with
   |.v (.string s)=>match s with
    |⟨⟨b⟩⟩=>0<=n/\∃c,b[n.toNat]?=some c/\K (.v (.int .u8 c.toNat)) H
   |_=>False
  |some (.array len e)=>match P.info? e with
   |some i=>match ρ x with
    |.agg cs=>0<=n/\n<len/\∃c,DF P e cs (n.toNat*i.size)=some c/\okB c λc=>jk c λc=>K c H
    |_=>False
   |none=>False
  |_=>False
 |_=>False
def Pz(P:Program)(H:zo)(ρ:Operand->C)(t:TypeId)(x:Operand)(f:Nat)(K:C->zo->Prop):Prop:=
 match P.underlying t with
 |some (.struct fs)=>match fs[f]? with
  |some fd=>match ρ x with
   |.agg cs=>match DF P fd.type cs fd.offset with
    |some c=>okB c λc=>jk c λc=>K c H
    |none=>False
   |_=>False
  |none=>False
 |_=>False
def Py(P:Program)(H:zo)(ρ:Operand->C)(t:TypeId)(x:Operand)(f:Nat)(K:C->zo->Prop):Prop:=
 match P.underlying t with
 |some (.struct fs)=>match fs[f]? with
  |some fd=>match P.info? fd.type with
   |some i=>match EK (ρ x) fd.offset with
    |some c=>bK (i.size != 0) <|jk c λc=>K c H
    |none=>False
   |none=>False
  |none=>False
 |_=>False
def KL(P:Program)(H:zo)(x:C)(sz':Nat)(rows':List (List C))(e:TypeId)(i:TypeInfo)(K:C->zo->Prop):Prop:=
 match rows' with
 |[]=>(ym H (mX x)).isSome=true/\K (mX x) H
 |r'::rs'=>bK (sz' == i.size) <|jV i.size λsz0=>jV H.length λm=>match x with
  |.lq 1 sz rows=>(rows=[]\/sz=sz0)/\rows.length+(rs'.length+1)<=maxLen/\(rows.length+(rs'.length+1))*i.bytes<=140737488355328/\
    yd (H++[⟨2,e,sz0,rows++r'::rs',0⟩]) λH'=>K (.sl m [] sz0 0 (rows.length+(rs'.length+1)) false) H'
  |.sl id [] sz 0 n false=>match H[id]? with
   |some ob=>bK (sz == sz0 && ob.kind == 2 && ob.ty == e && ob.sz == sz0) <|ob.rows.length=n/\ob.rows.all (·.all zB)=true/\n+(rs'.length+1)<=maxLen/\(n+(rs'.length+1))*i.bytes<=140737488355328/\
     yd (xm H id++[⟨2,e,sz0,ob.rows++r'::rs',ob.fz⟩]) λH'=>K (.sl m [] sz0 0 (n+(rs'.length+1)) false) H'
   |none=>False
  |_=>False
def Wd(H:zo)(sz:Nat)(rows:List (List C))(sz':Nat)(rows':List (List C))(e:TypeId)(i:TypeInfo)(K:C->zo->Prop):Prop:=
 jV i.size λsz0=>jV H.length λm=>(rows=[]\/sz=sz0)/\(rows'=[]\/sz'=sz0)/\rows.length+rows'.length<=maxLen/\(rows.length+rows'.length)*i.bytes<=140737488355328/\
  yd (H++[⟨4,e,sz0,rows++rows',0⟩]) λH'=>K (.gl m sz0 (rows++rows')) H'
def Ov(P:Program)(H:zo)(ρ:Operand->C)(x y:Operand)(e:TypeId)(i:TypeInfo)(K:C->zo->Prop):Prop:=
 match ym H (mX (ρ y)) with
 |some (sz',rows')=>match ρ x with
  |.gl id sz rows=>match H[id]? with
   |some ob=>bK (sz == i.size) <|jV i.size λsz0=>ob=⟨4,e,sz,rows,0⟩/\(rows'=[]\/sz'=sz0)/\rows.length+rows'.length<=maxLen/\(rows.length+rows'.length)*i.bytes<=140737488355328/\
     Ej H id ⟨4,e,sz0,rows++rows',0⟩ λH'=>K (.gl id sz0 (rows++rows')) H'
   |none=>False
  |.lq 1 sz rows=>Wd H sz rows sz' rows' e i K\/KL P H (.lq 1 sz rows) sz' rows' e i K
  |x=>KL P H x sz' rows' e i K
 |none=>False
def MH(H:zo)(op:BinOp)(a b:List UInt8)(K:C->zo->Prop):Prop:=
 match op with
 |.eql=>okB (.v (.bool (a == b))) λc=>K c H
 |.neq=>okB (.v (.bool (!(a == b)))) λc=>K c H
 |.add=>a.length+b.length<=9223372036854775807/\K (.v (.string ⟨⟨a++b⟩⟩)) H
 |_=>False
def LS(P:Program)(H:zo)(ρ:Operand->C)(o:Oper)(cl:Call)(K:C->zo->Prop):Prop:=
 match cl.callee with
 |.value x=>match ρ x with
  |.fn f first caps=>bK (qw P f) <| ∃r H',zc P f H (first++(cl.args.toList.map λx=>mX (ρ x))++caps) r H'/\okB r λr=>K r H'
  |.v (.func g first caps)=>match g with
   |.yield l=>bK (first.isEmpty && caps.isEmpty) <| ∃r H',xd P l H (cl.args.toList.map ρ) r H'/\okB r λr=>K r H'
   |_=>False
  |_=>False
 |.invoke x name=>match ρ x with
  |.mZ t c=>∃f,PV P t name f=true/\qw P f=true/\∃r H',zc P f H (c::(cl.args.toList.map ρ)) r H'/\okB r λr=>K r H'
  |_=>False
 |.builtin .len=>match cl.args.toList,cl.argTypes.toList with
  |[x],[t]=>match P.underlying t with
   |some (.slice _)=>match JE (mX (ρ x)) with
    |some n=>K (.v (.int .i64 n)) H
    |none=>False
   |some .string=>match ρ x with
    |.v (.string s)=>match s with
     |⟨⟨b⟩⟩=>K (.v (.int .i64 b.length)) H
    |_=>False
   |_=>match AA P (execOp (λx=>DR (ρ x)) o) with
    |some (.value v)=>bK (o.op.operands.toList.all (λx=>mq (ρ x)) && v.oneCell') <|okB (.v v) λc=>K c H
    |_=>False
  |_,_=>False
 |.builtin .append=>match cl.args.toList,cl.argTypes.toList with
  |[x,y],[t,t']=>bK (t' == t) <|match P.underlying t with
   |some (.slice e)=>match P.info? e with
    |some i=>match i.zero with
     |some z=>bK (z.cells.size == i.size) <|Ov P H ρ x y e i K
     |none=>False
    |none=>False
   |_=>False
  |_,_=>False
 |_=>match AA P (execOp (λx=>DR (ρ x)) o) with
  |some (.value v)=>bK (o.op.operands.toList.all (λx=>mq (ρ x)) && v.oneCell') <|okB (.v v) λc=>K c H
  |_=>False
def Xc(P:Program)(H:zo)(o:Oper)(ρ:Operand->C)(op:BinOp)(t:TypeId)(xs ys:List C)(K:C->zo->Prop):Prop:=
 (!P.eqGuardType P.depth t && Cx P 9 t)=true/\match Cb P 9 t (.agg xs) (.agg ys) with
  |some b=>match op with
   |.eql=>okB (.v (.bool b)) λc=>K c H
   |.neq=>okB (.v (.bool (!b))) λc=>K c H
   |_=>False
  |none=>False
def I0(P:Program)(t:TypeId)(id:Nat)(hops:List mP)(i k:Nat)(r:List C)(K:C->Prop):Prop:=
 match P.underlying t,P.info? t with
 |some d,some inf=>match GA d with
  |true=>k+inf.size<=r.length/\kO jk (wv id hops i k ((r.drop k).take inf.size)) λcs=>K (.agg cs)
  |false=>k+1<=r.length/\match wv id hops i k ((r.drop k).take 1) with
   |[x]=>okB x λx=>jk x K
   |_=>False
 |_,_=>False
def I4(P:Program)(H:zo)(t:TypeId)(c:C)(K:C->Prop):Prop:=
 match c with
 |.ref id hops sz i k=>match H[id]? with
  |some ⟨kind,ty,osz,orows,fz⟩=>match kind with
   |2=>match hops with
    |[]=>bK (osz == sz) <| ∃r,orows[i]?=some r/\I0 P t id [] i k r K
    |h::hs=>∃rows r,qm H id (h::hs)=some (sz,rows)/\rows[i]?=some r/\I0 P t id (h::hs) i k r K
   |1=>match ty with
    |0=>bK (osz == sz && hops.isEmpty) <| ∃r,orows[i]?=some r/\I0 P t id [] i k r K
    |_=>match Bf P H t (.ref id hops sz i k) with
     |some c=>okB c λc=>jk c K
     |none=>False
   |_=>match Bf P H t (.ref id hops sz i k) with
    |some c=>okB c λc=>jk c K
    |none=>False
  |none=>False
 |c=>match Bf P H t c with
  |some c=>okB c λc=>jk c K
  |none=>False
def Nd{P:Program}{H:zo}{t:TypeId}{id:Nat}{hops:List mP}{sz i k:Nat}{rows:List (List C)}{r:List C}{K:C->Prop}(hg:qm H id hops=some (sz,rows))(hr:rows[i]?=some r)(h:I0 P t id hops i k r K):
  ∃c,Bf P H t (.ref id hops sz i k)=some c/\K c:=by
 unfold I0 at h;split at h
 ·rename_i d inf hd hi;have hrd:∀n,k+n<=r.length->Da H (.ref id hops sz i k) n=some (wv id hops i k ((r.drop k).take n)):=λn hn=>by simp[Da,hg,hr,hn]
  split at h
  ·rename_i hag;obtain⟨h1,h2⟩:=h;refine⟨_,?_,jj (λ_ _ h=>zU h) (k:=λcs=>K (.agg cs)) h2⟩;unfold Bf;rw[hd,hi];simp only[hag,if_true];rw[hrd _ h1]
   rfl
  ·rename_i hag;obtain⟨h1,h2⟩:=h;split at h2
   ·rename_i x hx;refine⟨x,?_,zU (jR (k:=λx=>jk x K) h2)⟩;unfold Bf;rw[hd,hi];simp only[hag];rw[hrd _ h1,hx]
    rfl
   ·exact h2.elim
 ·exact du
def JW{P:Program}{H:zo}{t:TypeId}{c:C}{K:C->Prop}(h:I4 P H t c K):∃c',Bf P H t c=some c'/\K c':=by
 unfold I4 at h;split at h
 ·split at h
  ·rename_i id hops sz i k kind ty osz orows fz hob;split at h
   ·split at h
    ·obtain⟨h1,r,h2,h3⟩:=qh h;simp only[rJ]at h1;exact Nd (by unfold qm;rw[hob];simp[jt,h1]) h2 h3
    ·obtain⟨rows,r,h1,h2,h3⟩:=h;exact Nd h1 h2 h3
   ·split at h
    ·obtain⟨h1,r,h2,h3⟩:=qh h;simp only[pG,rJ,iZ]at h1;obtain⟨h1,rfl⟩:=h1;exact Nd (by unfold qm;rw[hob];simp[jt,h1]) h2 h3
    ·split at h
     ·rename_i c hc;exact⟨c,hc,zU (jR (k:=λc=>jk c K) h)⟩
     ·exact du
   ·split at h
    ·rename_i c hc;exact⟨c,hc,zU (jR (k:=λc=>jk c K) h)⟩
    ·exact du
  ·exact du
 ·split at h
  ·rename_i c hc;exact⟨c,hc,zU (jR (k:=λc=>jk c K) h)⟩
  ·exact du
def wZ(r:List C)(k:Nat)(cs:List C)(K:List C->Prop):Prop:=bK (Nat.ble (k+cs.length) r.length) <|yd (yR k cs r) K
def NG{r:List C}{k:Nat}{cs:List C}{K:List C->Prop}(h:wZ r k cs K):k+cs.length<=r.length/\K (yR k cs r):=
 ⟨rq (qh h).1,jJ (qh h).2⟩
def Lv(P:Program)(H:zo)(t:TypeId)(a x:C)(K:zo->Prop):Prop:=
 match a with
 |.ref id hops sz i k=>match H[id]? with
  |some ⟨kind,ty,osz,orows,fz⟩=>match kind with
   |2=>match P.info? t with
    |some inf=>bK (AP x && (x.cells.length == inf.size) && x.cells.all jE) <|kO jk x.cells λcs=>match hops with
     |[]=>bK (osz == sz && fz == 0) <| ∃r,orows[i]?=some r/\((r.drop k).take cs.length).all zB=true/\wZ r k cs λr'=>Ej H id ⟨2,ty,osz,orows.set i r',0⟩ K
     |h::hs=>bK (fz == 0) <| ∃rows r,qm H id (h::hs)=some (sz,rows)/\rows[i]?=some r/\((r.drop k).take cs.length).all zB=true/\wZ r k cs λr'=>Ej H id ⟨2,ty,osz,qq orows (h::hs) (λrows=>rows.set i r'),0⟩ K
    |none=>False
   |1=>match ty with
    |0=>match P.info? t with
     |some inf=>bK (AP x && (x.cells.length == inf.size)) <|kO jk x.cells λcs=>bK (osz == sz && fz == 0 && hops.isEmpty) <| ∃r,orows[i]?=some r/\((r.drop k).take cs.length).all zB=true/\wZ r k cs λr'=>Ej H id ⟨1,0,osz,orows.set i r',0⟩ K
     |none=>False
    |_=>match hops,orows,i with
     |[],[r],0=>match P.info? t with
      |some inf=>bK (osz == sz && fz == 0 && AP x && (x.cells.length == inf.size) && ((r.drop k).take x.cells.length).all zB) <|kO jk x.cells λcs=>wZ r k cs λr'=>Ej H id ⟨1,ty,osz,[r'],0⟩ K
      |none=>False
     |hops,_,i=>match ki P H t (.ref id hops sz i k) x with
      |some H'=>D4 H' K
      |none=>False
   |_=>match ki P H t (.ref id hops sz i k) x with
    |some H'=>D4 H' K
    |none=>False
  |none=>False
 |a=>match ki P H t a x with
  |some H'=>D4 H' K
  |none=>False
def kF{α:Type}{l:List α}{i:Nat}{r:α}(f:α->α)(h:l[i]?=some r):l.modify i f=l.set i (f r):=by
 apply rp
 intro j;rw[sa,pK];split
 ·rename_i e;subst e;rw[pA (gZ.1 h).1,h]
  rfl
 ·simp
def Tm{f g:List (List C)->List (List C)}:∀(hops:List mP) (sz:Nat) (rows:List (List C)) {sz':Nat} {rows':List (List C)},wz sz rows hops=some (sz',rows')->f rows'=g rows'->qq rows hops f=qq rows hops g
 |[],sz,rows,sz',rows',h,he=>by
  rw[jt]at h;cases h
  exact he
 |(i,k)::hs,sz,rows,sz',rows',h,he=>by
  rw[yF]at h;rw[Kd,Kd];split at h
  ·rename_i sz2 rows2 hc
   try rw[hc]
   simp only[Tm hs sz2 rows2 h he]
  ·cases h
def Sl{P:Program}{H:zo}{t:TypeId}{a x:C}{K:zo->Prop}(h:Lv P H t a x K):∃H',ki P H t a x=some H'/\K H':=by
 unfold Lv at h;cases a with
 |ref id hops sz i k=>
  dsimp only at h;split at h
  ·rename_i kind ty osz orows fz hob;split at h
   ·split at h
    ·rename_i inf hinf;obtain⟨hv,h⟩:=qh h;have h:=jj (λ_ _ h=>zU h) h;simp only[pG,rJ]at hv
     have go:∀hops rows r,qm H id hops=some (sz,rows)->rows[i]?=some r->fz=0->((r.drop k).take x.cells.length).all zB=true->(wZ r k x.cells λr'=>Ej H id ⟨2,ty,osz,qq orows hops (λrows=>rows.set i r'),0⟩ K)->
       ∃H',ki P H t (.ref id hops sz i k) x=some H'/\K H':=λhops rows r h1 h2 h0 h3 h4=>by
      obtain⟨h5,h6⟩:=NG h4;have h6:=Gg h6;refine⟨_,?_,h6⟩;unfold ki;rw[hinf];dsimp only;rw[h1,hob];dsimp only;rw[h2];dsimp only;rw[pA]
      ·congr 1
       unfold Bi;rw[kF _ hob]
       congr 1
       dsimp only;subst h0
       congr 1
       obtain⟨ob2,e1,_,e3⟩:=jP h1;rw[hob]at e1;cases e1
       exact Tm hops _ _ e3 (by unfold Dv;rw[kF _ h2])
      ·simp only[pG,rJ,sB,pQ];exact⟨⟨⟨⟨⟨⟨⟨trivial,hv.1.1⟩,hv.1.2⟩,h5⟩,h3⟩,.inr hv.2⟩,.inr aw⟩,.inr h0⟩
     split at h
     ·obtain⟨h1,r,h2,h3,h4⟩:=qh h;simp only[pG,rJ]at h1;exact go [] orows r (by unfold qm;rw[hob];simp[jt,h1.1]) h2 h1.2 h3 h4
     ·obtain⟨h1,rows,r,h2,h3,h4,h5⟩:=qh h;simp only[rJ]at h1;exact go _ rows r h2 h3 h1 h4 h5
    ·exact du
   ·split at h
    ·split at h
     ·rename_i inf hinf;obtain⟨hv,h⟩:=qh h;have h:=jj (λ_ _ h=>zU h) h;obtain⟨h1,r,h2,h3,h4⟩:=qh h;obtain⟨h5,h6⟩:=NG h4;have h6:=Gg h6;simp only[pG,rJ,iZ]at hv h1;obtain⟨⟨rfl,rfl⟩,rfl⟩:=h1;refine⟨_,?_,h6⟩;have hg:qm H id []=some (osz,orows):=by unfold qm;rw[hob];simp[jt]
      unfold ki;rw[hinf];dsimp only;rw[hg,hob];dsimp only;rw[h2];dsimp only;rw[pA]
      ·congr 1
       unfold Bi;rw[kF _ hob]
       congr 1
       dsimp only;rw[Ks];unfold Dv;rw[kF _ h2]
      ·simp only[pG,rJ,sB,pQ];exact⟨⟨⟨⟨⟨⟨⟨trivial,hv.1⟩,hv.2⟩,h5⟩,h3⟩,.inl trivial⟩,.inr aw⟩,.inr trivial⟩
     ·exact du
    ·split at h
     ·rename_i r;split at h
      ·rename_i inf hinf;obtain⟨hv,h⟩:=qh h;have h:=jj (λ_ _ h=>zU h) h;obtain⟨h5,h6⟩:=NG h;have h6:=Gg h6;simp only[pG,rJ]at hv;refine⟨_,?_,h6⟩;have h1:qm H id []=some (osz,[r]):=by unfold qm;rw[hob];simp[jt]
       unfold ki;rw[hinf];dsimp only;rw[h1,hob];dsimp only;rw[show [r][0]?=some r from O];dsimp only;rw[pA]
       ·congr 1
        unfold Bi;rw[kF _ hob]
        congr 1
        dsimp only;obtain⟨⟨⟨⟨_,rfl⟩,_⟩,_⟩,_⟩:=hv;rw[Ks];unfold Dv
        rfl
       ·simp only[pG,rJ,sB,pQ];obtain⟨⟨⟨⟨e1,e2⟩,e3⟩,e4⟩,e5⟩:=hv;exact⟨⟨⟨⟨⟨⟨⟨e1,e3⟩,e4⟩,h5⟩,e5⟩,.inl trivial⟩,.inr aw⟩,.inr e2⟩
      ·exact du
     ·split at h
      ·rename_i H' hc;exact⟨H',hc,kR h⟩
      ·exact du
   ·split at h
    ·rename_i H' hc;exact⟨H',hc,kR h⟩
    ·exact du
  ·exact du
 |_=>
  dsimp only at h;split at h
  ·rename_i H' hc;exact⟨H',hc,kR h⟩
  ·exact du
def YS(H:zo)(a y:C):Bool:=
 match a with
 |.ref id _ _ _ _=>match H[id]? with
  |some ob=>match ob.kind with
   |2=>true
   |1=>match ob.ty with
    |0=>match y with
     |.gl ..=>false
     |_=>true
    |_=>false
   |_=>false
  |none=>false
 |_=>false
def PO(P:Program)(H:zo)(ρ:Operand->C)(o:Oper)(src dst:TypeId)(x:Operand)(K:C->zo->Prop):Prop:=
 match Ab.mX (ρ x) with
 |.lq _ sz rows=>match P.underlying src,P.underlying dst with
  |some (.slice e),some .string=>match P.underlying e with
   |some (.int .u8)=>bK (sz == 1) <| ∃bts:List UInt8,rows=bts.map FE/\K (.v (.string ⟨⟨bts⟩⟩)) H
   |_=>False
  |_,_=>False
 |_=>match AA P (execOp (λx=>DR (ρ x)) o) with
  |some (.value v)=>bK (yJ o && o.op.operands.toList.all (λx=>mq (ρ x)) && v.oneCell') <|okB (.v v) λc=>K c H
  |_=>False
def PU(P:Program)(H:zo)(ρ:Operand->C)(t:TypeId)(x y:Operand)(K:C->zo->Prop):Prop:=
 match ρ x,ρ y with
 |.v (.int _ n),.v (.int _ n')=>match P.underlying t with
  |some (.slice e)=>match P.info? e with
   |some i=>match Bx P e with
    |some cs=>bK (cs.all jE) <|n'=n/\0<=n/\(i.bytes:Int)*n<=281474976710656/\n<=9223372036854775807/\
      jV i.size λsz=>jV H.length λm=>yd (H++[⟨2,e,sz,List.replicate n.toNat cs,0⟩]) λH'=>K (.sl m [] sz 0 n.toNat false) H'
    |none=>False
   |none=>False
  |_=>False
 |_,_=>False
def P7(o:Oper):Option (BinOp×TypeId×Operand):=
 match o.op with
 |.binOp op t x y _=>match y with
  |.const v=>match v with
   |.slice none 0 0=>some (op,t,x)
   |_=>none
  |_=>none
 |_=>none
def Mw(P:Program)(H:zo)(op:BinOp)(t:TypeId)(x:C)(K:C->zo->Prop):Prop:=
 match P.underlying t with
 |some (.slice _)=>match x with
  |.lq _ _ rows=>match rows with
   |[]=>match op with
    |.eql=>K (.v (.bool true)) H/\K (.v (.bool false)) H
    |.neq=>K (.v (.bool true)) H/\K (.v (.bool false)) H
    |_=>False
   |r::rs=>match op with
    |.eql=>r::rs≠[]/\K (.v (.bool false)) H
    |.neq=>r::rs≠[]/\K (.v (.bool true)) H
    |_=>False
  |.sl ..=>match op with
   |.eql=>K (.v (.bool false)) H
   |.neq=>K (.v (.bool true)) H
   |_=>False
  |_=>False
 |_=>False
def P4(o:Oper):Option (BinOp×TypeId×Operand):=
 match o.op with
 |.binOp op t x y _=>match y with
  |.const v=>match v with
   |.pointer p=>match p with
    |none=>some (op,t,x)
    |some _=>none
   |_=>none
  |_=>none
 |_=>none
def Pk(x:C):Option Bool:=
 match x with
 |.ref ..=>some false
 |.jK _=>some false
 |.v y=>match y with
  |.pointer p=>match p with
   |none=>some true
   |some _=>some false
  |_=>none
 |_=>none
def JG(P:Program)(t:TypeId):Bool:=
 match P.underlying t with
 |some (.pointer e)=>e == P.pointee t
 |_=>false
def Mp(P:Program)(H:zo)(op:BinOp)(t:TypeId)(x:C)(K:C->zo->Prop):Prop:=
 match Pk x with
 |some b=>match op with
  |.eql=>bK (JG P t) <|K (.v (.bool b)) H
  |.neq=>bK (JG P t) <|K (.v (.bool (!b))) H
  |_=>False
 |none=>False
def CC(P:Program)(H:zo)(ρ:Operand->C)(o:Oper)(K:C->zo->Prop):Prop:=
 match o.op with
 |.move x=>jk (ρ x) λc=>K c H
 |.assign x=>jk (ρ x) λc=>K c H
 |.pick x y z=>match ρ x with
  |.v (.bool b)=>jk (if b then ρ y else ρ z) λc=>K c H
  |_=>False
 |.alloc t=>match Bx P t with
  |some cs=>yd cs λcs=>jV cs.length λn=>jV H.length λm=>yd (H++[⟨1,t,n,[cs],0⟩]) λH'=>K (.ref m [] n 0 0) H'
  |none=>False
 |.box t x=>bK (AP (ρ x)) <|kO jk (ρ x).cells λcs=>jV cs.length λn=>jV H.length λm=>yd (H++[⟨1,t,n,[cs],0⟩]) λH'=>K (.ref m [] n 0 0) H'
 |.fieldAddr t x f=>Py P H ρ t x f K
 |.indexAddr t x y=>Pu P H (λx=>mX (ρ x)) t x y K
 |.index t x y=>Pv P H ρ t x y K
 |.field t x f=>Pz P H ρ t x f K
 |.load t x=>I4 P H t (ρ x) λc=>K c H
 |.store t x y=>match YS H (ρ x) (ρ y) with
  |true=>Lv P H t (ρ x) (C6 (ρ y)) λH'=>K .un H'
  |false=>Lv P H t (ρ x) (ρ y) λH'=>K .un H'
 |.extract x n=>match ρ x with
  |.lK vs=>match vs[n]? with
   |some c=>okB c λc=>jk c λc=>K c H
   |none=>False
  |_=>False
 |.nilCheck x=>bK (OH (ρ x)) <|jk (ρ x) λc=>K c H
 |.makeFunc f first caps=>match f with
  |.func f=>kO jk (first.toList.map ρ) λa=>kO jk (caps.toList.map ρ) λb=>K (.fn f a b) H
  |_=>False
 |.build t parts=>Pd P t (parts.toList.map λp=>(p.1,ρ p.2)) λcs=>K (.agg cs) H
 |.makeInterface t x=>match P.underlying t with
  |some d=>bK (wt d) <|jk (ρ x) λc=>K (.mZ t c) H
  |none=>False
 |.typeAssert x _ t ok=>bK ok <|match ρ x with
  |.mZ t' c=>match P.underlying t with
   |some d=>match t' == t with
    |true=>bK (wt d) <|K (.lK [c,.v (.bool true)]) H
    |false=>match P.info? t with
     |some i=>bK (wt d && i.zero.isSome) <|K (.lK [.za,.v (.bool false)]) H
     |none=>False
   |none=>False
  |_=>False
 |.buildSlice t len parts=>match Ms P t len (parts.toList.map λp=>(p.1,C6 (ρ p.2))) with
  |some c=>match c with
   |.lq o sz rows=>kO (kO jk) rows λrows=>jV sz λsz=>K (.lq o sz rows) H
   |_=>False
  |none=>False
 |.slice t x lo hi mx=>PF P H (λx=>mX (ρ x)) t x lo hi mx K
 |.makeSlice t x y=>PU P H ρ t x y K
 |.lookup ..=>∃c H',lS P o ρ H c H'/\K c H'
 |.mapUpdate ..=>∃c H',lS P o ρ H c H'/\K c H'
 |.mapEntry ..=>∃c H',lS P o ρ H c H'/\K c H'
 |.entryStore ..=>∃c H',lS P o ρ H c H'/\K c H'
 |.call cl=>LS P H ρ o cl K
 |.binOp op t x y _=>match ρ x,ρ y with
  |.agg xs,.agg ys=>Xc P H o ρ op t xs ys K
  |.v (.string s),.v (.string s')=>match s,s' with
   |⟨⟨a⟩⟩,⟨⟨b⟩⟩=>MH H op a b K
  |_,_=>match AA P (execOp (λx=>DR (ρ x)) o) with
   |some (.value v)=>bK (yJ o && o.op.operands.toList.all (λx=>mq (ρ x)) && v.oneCell') <|okB (.v v) λc=>K c H
   |_=>False
 |.convert src dst x=>PO P H ρ o src dst x K
 |.unOp _ _ _=>match AA P (execOp (λx=>DR (ρ x)) o) with
  |some (.value v)=>bK (yJ o && o.op.operands.toList.all (λx=>mq (ρ x)) && v.oneCell') <|Mr (.v v) λc=>K c H
  |_=>False
 |_=>match AA P (execOp (λx=>DR (ρ x)) o) with
  |some (.value v)=>bK (yJ o && o.op.operands.toList.all (λx=>mq (ρ x)) && v.oneCell') <|okB (.v v) λc=>K c H
  |_=>False
section
variable {P:Program} {o:Oper} {ρ:Operand->C} {H:zo} {K:C->zo->Prop}
def lS.B4{c c':C}{H':zo}(h:lS P o ρ H c H')(hw:WC c c'):lS P o ρ H c' H':=λw E σ hh hl K hk=>h w E σ hh hl K λv w' E' h1 h2 g=>hk v w' E' h1 (hw E' v h2) g
def lS.PS(cl:Call)(ho:o.op=.call cl)(x:Operand)(hcl:cl.callee=.value x){f:FuncId}{first caps:List C}(hf:ρ x=.fn f first caps)(hcb:qw P f=true){r:C}{H':zo}
 (hs:zc P f H (first++(cl.args.toList.map λx=>Ab.mX (ρ x))++caps) r H'):lS P o ρ H r H':=.mX <|.call cl ho x hcl (by rw[hf];rfl) hcb hs
def lS.zDg(t:TypeId)(x y:Operand)(ho:o.op=.store t x y){H':zo}(hs:ki P H t (ρ x) (C6 (ρ y))=some H'):lS P o ρ H .un H':=by
 classical
 have hρ:∀z,∃c,(c=ρ z\/c=C6 (ρ z))/\(z=y->c=C6 (ρ z))/\(z≠y->c=ρ z):=λz=>by
  by_cases e:z=y
  ·exact⟨C6 (ρ z),.inr O,λ_=>O,λh=>absurd e h⟩
  ·exact⟨ρ z,.inl O,λh=>absurd h e,λ_=>O⟩
 obtain⟨ρ',hρ'⟩:∃ρ':Operand->C,∀z,(ρ' z=ρ z\/ρ' z=C6 (ρ z))/\(z=y->ρ' z=C6 (ρ z))/\(z≠y->ρ' z=ρ z):=⟨λz=>(hρ z).choose,λz=>(hρ z).choose_spec⟩
 have hx:ρ' x=ρ x:=by
  rcases(hρ' x).1 with e|e
  ·exact e
  ·rw[e];unfold ki at hs;split at hs
   ·rename_i e2 _;rw[e2];rfl
   ·cases hs
 have h0:jg P o ρ' H .un H':=jg.store t x y ho (by rw[hx,(hρ' y).2.1 O];exact hs);refine .Dr (h0.weaken λz E v hl=>?_) (M3 hs);rcases(hρ' z).1 with e|e
 ·rw[e];exact hl
 ·rw[e];exact Oa hl
def HO(h:match AA P (execOp (λx=>DR (ρ x)) o) with
  |some (.value v)=>bK (yJ o && o.op.operands.toList.all (λx=>mq (ρ x)) && v.oneCell') <|okB (.v v) λc=>K c H
  |_=>False):∃c,(∀H2,lS P o ρ H2 c H2)/\K c H:=by
 split at h
 ·rename_i v e;obtain⟨h1,h2⟩:=qh h;simp only[pG,eV]at h1;exact⟨.v v,λH2=>.same <|.scalar h1.1.1 h1.1.2 e h1.2,jR (k:=λc=>K c H) h2⟩
 ·exact du
def Sj{t:TypeId}{x:Operand}{lo hi mx:Option Operand}(ho:o.op=.slice t x lo hi mx)(h:PF P H ρ t x lo hi mx K):∃c,(∀H2,lS P o ρ H2 c H2)/\K c H:=by
 unfold PF at h;split at h
 rotate_left
 ·rename_i hu;split at h
  ·rename_i s hx;obtain⟨⟨b⟩⟩:=s;dsimp only at h;split at h
   ·obtain⟨l,h1,h⟩:=vr h;obtain⟨h',h2,h3,h4,h5⟩:=vr h;exact⟨_,λH2=>.same <|.zy7 t x lo hi ho hu hx h1 h2 h3 h4,h5⟩
   ·exact du
  ·exact du
 ·exact du
 rename_i e hu;split at h
 rotate_left
 ·exact du
 rename_i i hi';split at h
 ·rename_i fo sz rows hx;obtain⟨hsz,h⟩:=h;split at h
  ·split at h
   ·obtain⟨l,h1,h3,h5⟩:=vr h;have:=λH2=>lS.same <|jg.Vv (H:=H2) t x lo none ho hu hi' hx hsz h1 (rfl:AW ρ none rows.length rows.length) h3 (pI _)
    refine⟨_,this,?_⟩;rw[um aj];by_cases hfo:fo=1
    ·simpa [hfo] using h5
    ·simpa [hfo] using h5
   ·rename_i hh;obtain⟨l,h1,h⟩:=vr h;obtain⟨h',h2,h3,h4,h5⟩:=vr h;exact⟨_,λH2=>.B4 (.same <|.Vv t x lo (some hh) ho hu hi' hx hsz h1 h2 h3 h4) (.share _ _ _),h5⟩
  ·split at h
   ·obtain⟨l,h1,h⟩:=vr h;obtain⟨h',h2,h⟩:=vr h;obtain⟨m,h3,rfl,h4,h5,h6⟩:=vr h;exact⟨_,λH2=>.same <|.zwe t x lo _ _ ho hu hi' hx hsz h1 h2 h3 h4 h5,h6⟩
   ·exact du
 ·rename_i id hops sz lo0 len full hx;split at h
  ·obtain⟨hsz,h⟩:=h;obtain⟨l,h1,h⟩:=vr h;obtain⟨h',h2,h3,h4,h5,h6,h7⟩:=vr h;exact⟨_,λH2=>.same <|.YO t x lo hi ho hu hi' hx hsz h1 h2 h3 h4 h5 h6,h7⟩
  ·exact du
 ·exact du
def SB{t:TypeId}{x y:Operand}(ho:o.op=.indexAddr t x y)(h:Pu P H ρ t x y K):∃c,(∀H2,lS P o ρ H2 c H2)/\K c H:=by
 unfold Pu at h;split at h
 rotate_left
 ·rename_i len e hu;split at h
  ·rename_i i hi;split at h
   ·rename_i k n hy;split at h
    ·rename_i c hx;exact⟨c,λH2=>.same <|.zxQ t x y ho hu hi hy h.1 h.2.1 hx,zU (k:=λc=>K c H) h.2.2⟩
    ·exact du
   ·exact du
  ·exact du
 ·exact du
 rename_i e hu;split at h
 rotate_left
 ·exact du
 rename_i i hi;split at h
 rotate_left
 ·exact du
 rename_i k n hy;split at h
 ·rename_i fo sz rows hx;obtain⟨h1,h3,r,h4,h5⟩:=qh h;refine⟨_,λH2=>.same <|.indexAddr t x y ho hu hi hy h3 (c:=.jK r) ?_,h5⟩;rw[hx];simp only[ET];rw[pA h1,h4]
  rfl
 ·rename_i id hops sz lo len full hx;obtain⟨h2,h3,h4,h5⟩:=qh h;simp only[rJ]at h2;refine⟨_,λH2=>.same <|.indexAddr t x y ho hu hi hy h3 (c:=.ref id hops sz (lo+n.toNat) 0) ?_,h5⟩;rw[hx];simp only[ET];rw[pA (by simp[h4,h2])]
 ·exact du
def SC{t:TypeId}{x y:Operand}(ho:o.op=.index t x y)(h:Pv P H ρ t x y K):∃c,(∀H2,lS P o ρ H2 c H2)/\K c H:=by
 unfold Pv at h;split at h
 ·rename_i k n hy;split at h
  ·rename_i hu;split at h
   ·rename_i s hx;obtain⟨⟨b⟩⟩:=s;obtain⟨h1,c,h2,h3⟩:=h;exact⟨_,λH2=>.same <|.zy5 t x y ho hu hx hy h1 h2,h3⟩
   ·exact du
  ·rename_i len e hu;split at h
   ·rename_i i hi;split at h
    ·rename_i cs hx;obtain⟨h1,h2,c,h3,h4⟩:=h;exact⟨c,λH2=>.same <|.zrX t x y ho hu hi hx hy h1 h2 h3,zU (k:=λc=>K c H) (jR (k:=λc=>jk c λc=>K c H) h4)⟩
    ·exact du
   ·exact du
  ·exact du
 ·exact du
def Sc{t:TypeId}{x:Operand}{f:Nat}(ho:o.op=.field t x f)(h:Pz P H ρ t x f K):∃c,(∀H2,lS P o ρ H2 c H2)/\K c H:=by
 unfold Pz at h;split at h
 ·rename_i fs hu;split at h
  ·rename_i fd hf;split at h
   ·rename_i cs hx;split at h
    ·rename_i c hc;exact⟨c,λH2=>.same <|.field t x f ho hu hf hx hc,zU (k:=λc=>K c H) (jR (k:=λc=>jk c λc=>K c H) h)⟩
    ·exact du
   ·exact du
  ·exact du
 ·exact du
def Ur{t t':TypeId}{op:BinOp}{x y:Operand}{a b:List UInt8}(ho:o.op=.binOp op t x y t')(hx:ρ x=.v (.string (bs a)))(hy:ρ y=.v (.string (bs b)))(h:MH H op a b K):∃c,(∀H2,lS P o ρ H2 c H2)/\K c H:=by
 unfold MH at h;split at h
 ·exact⟨_,λH2=>.same <|.QC .eql t t' x y ho (.inl O) hx hy,jR (k:=λc=>K c H) h⟩
 ·exact⟨_,λH2=>.same <|.QC .neq t t' x y ho (.inr O) hx hy,jR (k:=λc=>K c H) h⟩
 ·exact⟨_,λH2=>.same <|.zDh t t' x y ho hx hy h.1,h.2⟩
 ·exact du
def Sb{t:TypeId}{x:Operand}{f:Nat}(ho:o.op=.fieldAddr t x f)(h:Py P H ρ t x f K):∃c,(∀H2,lS P o ρ H2 c H2)/\K c H:=by
 unfold Py at h;split at h
 rotate_left
 ·exact du
 rename_i fs hu;split at h
 rotate_left
 ·exact du
 rename_i fd hf;split at h
 rotate_left
 ·exact du
 rename_i i hi;split at h
 rotate_left
 ·exact du
 rename_i c hc;obtain⟨h1,h2⟩:=qh h;exact⟨c,λH2=>.same <|.fieldAddr t x f ho hu hf hi tE hc,zU (k:=λc=>K c H) h2⟩
def RL{cl:Call}(ho:o.op=.call cl){x y:Operand}{e:TypeId}{i:TypeInfo}{z:Value}(ht:Dk P cl x y e i z){sz':Nat}{rows':List (List C)}(hy:ym H (mX (ρ y))=some (sz',rows'))
 (h:KL P H (ρ x) sz' rows' e i K):∃c H',lS P o ρ H c H'/\K c H':=by
 unfold KL at h;split at h
 ·obtain⟨h1,h2⟩:=h;obtain⟨⟨sz,rows⟩,hx⟩:=Option.isSome_iff_exists.1 h1;exact⟨_,H,.mX (ρ:=ρ) (.same <|.zqW cl ho x y ht hx hy),h2⟩
 ·rename_i r' rs'
  replace h:=qh h
  obtain⟨hz,h⟩:=h;have hz:=eq_of_beq hz;subst hz;have h:=qI h;have h:=qI h;split at h
  ·rename_i sz rows hx;obtain⟨h1,h2,h3,h4⟩:=h;exact⟨_,_,.mX (ρ:=ρ) (.GZ (.Tb cl ho x y ht (by rw[hx];rfl) h1 hy aj tS (aq h3)) _ (λe=>by cases e) rfl),by simpa using jJ h4⟩
  ·rename_i id sz n hx;split at h
   ·rename_i ob hob
    replace h:=qh h
    obtain⟨hb,h4,h5,h6,h7,h8⟩:=h;simp only[pG,rJ]at hb;obtain⟨⟨⟨rfl,h1⟩,h2⟩,h3⟩:=hb;exact⟨_,_,.mX (ρ:=ρ) (.Dr (.TO cl ho x y ht (by rw[hx];rfl) hob h1 h2 h3 h4 h5 hy aj (aq h6) (aq h7)) (xc.trans (xc.xm H id λob' h'=>by rw[hob]at h';cases h';rw[h1];decide) (xc.push _ _ (λe=>by cases e)))),by simpa using jJ h8⟩
   ·exact du
  ·exact du
def zmJ{cl:Call}(ho:o.op=.call cl){x y:Operand}{e:TypeId}{i:TypeInfo}{z:Value}(ht:Dk P cl x y e i z)(h:Ov P H ρ x y e i K):∃c H',lS P o ρ H c H'/\K c H':=by
 unfold Ov at h;split at h
 rotate_left
 ·exact du
 rename_i sz' rows' hy;split at h
 ·rename_i id sz rows hx;split at h
  ·rename_i ob hob
   replace h:=qh h
   obtain⟨hz,h⟩:=h;have hz:=eq_of_beq hz;subst hz;have h:=qI h;obtain⟨h1,h2,h3,h4,h5⟩:=h;exact⟨_,_,.Ko cl ho x y ht hx hob h1 hy h2 h3 h4,Gg h5⟩
  ·exact du
 ·rename_i sz rows hx;rcases h with h|h
  ·unfold Wd at h;have h:=qI h;have h:=qI h;obtain⟨h1,h2,h3,h4,h5⟩:=h;exact⟨_,_,.MO cl ho x y ht hx h1 hy h2 h3 h4,jJ h5⟩
  ·exact RL ho ht hy (hx ▸ h)
 ·exact RL ho ht hy h
def Array.vu{α:Type}{a:Array α}{l:List α}(h:a.toList=l):a=l.toArray:=by subst h;simp
def zq5{cl:Call}(ho:o.op=.call cl)(h:LS P H ρ o cl K):∃c H',lS P o ρ H c H'/\K c H':=by
 have hns:yJ o=true:=by simp[yJ,ho]
 have scal:∀(h:match AA P (execOp (λx=>DR (ρ x)) o) with
   |some (.value v)=>bK (o.op.operands.toList.all (λx=>mq (ρ x)) && v.oneCell') <|okB (.v v) λc=>K c H
   |_=>False),∃c H',lS P o ρ H c H'/\K c H':=by
  intro h;split at h
  ·rename_i v e;obtain⟨h1,h2⟩:=qh h;simp only[pG,eV]at h1;exact⟨.v v,H,.same <|.scalar hns h1.1 e h1.2,jR (k:=λc=>K c H) h2⟩
  ·exact du
 unfold LS at h;split at h
 ·rename_i x hcl;split at h
  ·rename_i f first caps hf;obtain⟨h1,r,H',h2,h3⟩:=qh h;exact⟨r,H',.PS cl ho x hcl hf h1 h2,jR (k:=λc=>K c H') h3⟩
  ·rename_i g first caps hf;split at h
   ·rename_i l;obtain⟨h1,r,H',h2,h3⟩:=qh h;simp only[pG,Array.isEmpty_iff]at h1;obtain⟨rfl,rfl⟩:=h1;exact⟨r,H',.yield cl ho x hcl hf h2,jR (k:=λc=>K c H') h3⟩
   ·exact du
  ·exact du
 ·rename_i x name hcl;split at h
  ·rename_i t c hx;obtain⟨f,hm,hcb,r,H',h2,h3⟩:=h;exact⟨r,H',.invoke cl ho x name hcl hx hm hcb h2,jR (k:=λc=>K c H') h3⟩
  ·exact du
 ·rename_i hcl;split at h
  ·rename_i x t hx ht;split at h
   ·rename_i e hu;split at h
    ·rename_i n hn;exact⟨_,H,.mX (ρ:=ρ) <|.same <|.len cl ho hcl x (Array.vu hx) (Array.vu ht) hu hn,h⟩
    ·exact du
   ·rename_i hu;split at h
    ·rename_i s hs;obtain⟨⟨b⟩⟩:=s;exact⟨_,H,.same <|.Wz cl ho hcl x (Array.vu hx) (Array.vu ht) hu hs,h⟩
    ·exact du
   ·exact scal h
  ·exact du
 ·rename_i hcl;split at h
  ·rename_i x y t t' hx ht;obtain⟨ht',h⟩:=qh h;simp only[rJ]at ht';subst ht';split at h
   ·rename_i e hu;split at h
    ·rename_i i hi;split at h
     ·rename_i z hz;exact zmJ ho ⟨hcl,Array.vu hx,⟨_,Array.vu ht,hu⟩,hi,hz,by simpa using (qh h).1⟩ (qh h).2
     ·exact du
    ·exact du
   ·exact du
  ·exact du
 ·exact scal h
def zvB{op:BinOp}{t:TypeId}{x:Operand}(ho:P7 o=some (op,t,x))(h:Mw P H op t (ρ x) K):jq P o ρ H K:=by
 obtain⟨t',ho⟩:∃t',o.op=.binOp op t x (.const (.slice none 0 0)) t':=by
  unfold P7 at ho;split at ho
  ·rename_i h1;split at ho
   ·split at ho
    ·cases ho;exact⟨_,h1⟩
    ·cases ho
   ·cases ho
  ·cases ho
 unfold Mw at h;split at h
 ·rename_i e hu;split at h
  ·rename_i fo sz rows hx;split at h
   ·split at h
    ·exact .WH .eql t t' x ho (.inl O) hu hx h.1 h.2
    ·exact .WH .neq t t' x ho (.inr O) hu hx h.1 h.2
    ·exact du
   ·split at h
    ·exact(BF.Lh .eql t t' x ho (.inl O) hu (.inl ⟨_,_,_,hx,h.1⟩)).nO h.2
    ·exact(BF.Lh .neq t t' x ho (.inr O) hu (.inl ⟨_,_,_,hx,h.1⟩)).nO h.2
    ·exact du
  ·rename_i hx;split at h
   ·exact(BF.Lh .eql t t' x ho (.inl O) hu (.inr ⟨_,_,_,_,_,_,hx⟩)).nO h
   ·exact(BF.Lh .neq t t' x ho (.inr O) hu (.inr ⟨_,_,_,_,_,_,hx⟩)).nO h
   ·exact du
  ·exact du
 ·exact du
def SD{x:C}{b:Bool}(h:Pk x=some b):∀E u,L E x u->∃a,u=.pointer a/\a.isNone=b:=by
 intro E u hl;unfold Pk at h;split at h
 ·cases h;cases hl;exact⟨_,rfl,rfl⟩
 ·cases h;cases hl;exact⟨_,rfl,rfl⟩
 ·split at h
  ·split at h <;> (cases h;cases hl;exact⟨_,rfl,rfl⟩)
  ·cases h
 ·cases h
def zvZ{op:BinOp}{t:TypeId}{x:Operand}(ho:P4 o=some (op,t,x))(h:Mp P H op t (ρ x) K):∃c,BF P o ρ H c H/\K c H:=by
 obtain⟨t',ho⟩:∃t',o.op=.binOp op t x (.const (.pointer none)) t':=by
  unfold P4 at ho;split at ho
  ·rename_i h1;split at ho
   ·split at ho
    ·split at ho
     ·cases ho;exact⟨_,h1⟩
     ·cases ho
    ·cases ho
   ·cases ho
  ·cases ho
 have hT:JG P t=true->P.underlying t=some (.pointer (P.pointee t)):=λhp=>by
  unfold JG at hp;split at hp
  ·rename_i e hu;have he:e=P.pointee t:=by simpa using hp
   rw[hu,he]
  ·cases hp
 unfold Mp at h;split at h
 ·rename_i b hb;split at h
  ·exact⟨_,.WR .eql t t' x ho (.inl O) (hT (qh h).1) b (SD hb),(qh h).2⟩
  ·exact⟨_,.WR .neq t t' x ho (.inr O) (hT (qh h).1) b (SD hb),(qh h).2⟩
  ·exact du
 ·exact du
def zsa{t:TypeId}{x y:Operand}(ho:o.op=.makeSlice t x y)(h:PU P H ρ t x y K):∃c H',lS P o ρ H c H'/\K c H':=by
 unfold PU at h;split at h
 ·rename_i k n k' n' hx hy;split at h
  ·rename_i e hu;split at h
   ·rename_i i hi;split at h
    ·rename_i cs hz;obtain⟨h1,rfl,h2,h3,h4,h5⟩:=qh h;have h5:=qI h5;have h5:=qI h5;exact⟨_,_,.GZ (.makeSlice t x y ho hu hi hz h1 hx hy h2 h3 h4) _ (λe=>by cases e) rfl,jJ h5⟩
    ·exact du
   ·exact du
  ·exact du
 ·exact du
def S5{src dst:TypeId}{x:Operand}(ho:o.op=.convert src dst x)(h:PO P H ρ o src dst x K):∃c,(∀H2,lS P o ρ H2 c H2)/\K c H:=by
 unfold PO at h;split at h
 ·rename_i fo sz rows hx;split at h
  ·rename_i e hs hd;split at h
   ·rename_i he;obtain⟨h1,bts,rfl,h2⟩:=qh h;have h1:=eq_of_beq h1;subst h1;exact⟨_,λH2=>.mX (ρ:=ρ) <|.same <|.zuD src dst x ho hs he hd hx,h2⟩
   ·exact du
  ·exact du
 ·exact HO h
def Nh(h:CC P H ρ o K):∃c H',lS P o ρ H c H'/\K c H':=by
 unfold CC at h;split at h
 ·rename_i x ho;exact⟨_,H,.same <|.move x (.inl ho),zU (k:=λc=>K c H) h⟩
 ·rename_i x ho;exact⟨_,H,.same <|.move x (.inr ho),zU (k:=λc=>K c H) h⟩
 ·rename_i x y z ho;split at h
  ·rename_i b hb;exact⟨_,H,.same <|.pick x y z ho b hb,zU (k:=λc=>K c H) h⟩
  ·exact du
 ·rename_i t ho;split at h
  ·rename_i cs hz;have h:=jJ (k:=λcs=>jV cs.length λn=>jV H.length λm=>yd (H++[⟨1,t,n,[cs],0⟩]) λH'=>K (.ref m [] n 0 0) H') h;have h:=qI (k:=λn=>jV H.length λm=>yd (H++[⟨1,t,n,[cs],0⟩]) λH'=>K (.ref m [] n 0 0) H') h;have h:=qI (k:=λm=>yd (H++[⟨1,t,cs.length,[cs],0⟩]) λH'=>K (.ref m [] cs.length 0 0) H') h;exact⟨_,_,.GZ (.alloc t ho hz) _ (λe=>by cases e) rfl,jJ (k:=λH'=>K (.ref H.length [] cs.length 0 0) H') h⟩
  ·exact du
 ·rename_i t x ho;obtain⟨h0,h⟩:=qh h;have h:=jj (λ_ _ h=>zU h) (k:=λcs=>jV cs.length λn=>jV H.length λm=>yd (H++[⟨1,t,n,[cs],0⟩]) λH'=>K (.ref m [] n 0 0) H') h;have h:=qI (k:=λn=>jV H.length λm=>yd (H++[⟨1,t,n,[(ρ x).cells],0⟩]) λH'=>K (.ref m [] n 0 0) H') h;have h:=qI (k:=λm=>yd (H++[⟨1,t,(ρ x).cells.length,[(ρ x).cells],0⟩]) λH'=>K (.ref m [] (ρ x).cells.length 0 0) H') h;exact⟨_,_,.GZ (.box t x ho h0) _ (λe=>by cases e) rfl,jJ (k:=λH'=>K (.ref H.length [] (ρ x).cells.length 0 0) H') h⟩
 ·rename_i t x f ho;obtain⟨c,h1,h2⟩:=Sb ho h;exact⟨c,H,h1 H,h2⟩
 ·rename_i t x y ho;obtain⟨c,h1,h2⟩:=SB (ρ:=λx=>mX (ρ x)) ho h;exact⟨c,H,(h1 H).mX,h2⟩
 ·rename_i t x y ho;obtain⟨c,h1,h2⟩:=SC ho h;exact⟨c,H,h1 H,h2⟩
 ·rename_i t x f ho;obtain⟨c,h1,h2⟩:=Sc ho h;exact⟨c,H,h1 H,h2⟩
 ·rename_i t x ho;obtain⟨c,h1,h2⟩:=JW h;exact⟨c,H,.same <|.load t x ho h1,h2⟩
 ·rename_i t x y ho;split at h
  ·obtain⟨H',h1,h2⟩:=Sl h;exact⟨_,H',.zDg t x y ho h1,h2⟩
  ·obtain⟨H',h1,h2⟩:=Sl h;exact⟨_,H',.Dr (.store t x y ho h1) (M3 h1),h2⟩
 ·rename_i x n ho;split at h
  ·rename_i vs hx;split at h
   ·rename_i c hc;exact⟨c,H,.same <|.extract x n ho hx hc,zU (k:=λc=>K c H) (jR (k:=λc=>jk c λc=>K c H) h)⟩
   ·exact du
  ·exact du
 ·rename_i x ho;exact⟨_,H,.same <|.nilCheck x ho (qh h).1,zU (k:=λc=>K c H) (qh h).2⟩
 ·rename_i f first caps ho;split at h
  ·have h:=jj (λ_ _ h=>zU h) h;exact⟨_,H,.same <|.makeFunc _ first caps ho,jj (λ_ _ h=>zU h) (k:=λb=>K (.fn _ (first.toList.map ρ) b) H) h⟩
  ·exact du
 ·rename_i t parts ho;obtain⟨cs,hc,h⟩:=R4 h;exact⟨_,H,.same <|.build t parts ho hc,h⟩
 ·rename_i t x ho;split at h
  ·rename_i d hd;obtain⟨h1,h2⟩:=qh h;exact⟨_,H,.zvq t x ho hd h1,zU (k:=λc=>K (.mZ t c) H) h2⟩
  ·exact du
 ·rename_i x xT t ok ho
  replace h:=qh h
  obtain⟨h1,h⟩:=h;subst h1;split at h
  ·rename_i t' c hx;split at h
   ·rename_i d hd;split at h
    ·rename_i he;obtain rfl:t'=t:=by simpa using he
     exact⟨_,H,.zup x xT t' ho hx hd (qh h).1,(qh h).2⟩
    ·rename_i he;split at h
     ·rename_i i hi;have h2:=(qh h).1;rw[pG]at h2;exact⟨_,H,.zwO x xT t ho hx he hd h2.1 hi h2.2,(qh h).2⟩
     ·exact du
   ·exact du
  ·exact du
 ·rename_i t len parts ho;split at h
  ·rename_i c hc;split at h
   ·rename_i o' sz rows;have h:=jj (λ_ _ h=>jj (λ_ _ h=>zU h) h) (k:=λrows=>jV sz λsz=>K (.lq o' sz rows) H) h;exact⟨_,H,.same <|(jg.buildSlice (ρ:=λz=>C6 (ρ z)) t len parts ho hc).weaken λz E v hl=>Oa hl,qI (k:=λsz=>K (.lq o' sz rows) H) h⟩
   ·exact du
  ·exact du
 ·rename_i t x lo hi mx ho;obtain⟨c,h1,h2⟩:=Sj (ρ:=λx=>mX (ρ x)) ho h;exact⟨c,H,(h1 H).mX,h2⟩
 ·rename_i t x y ho;exact zsa ho h
 ·exact h
 ·exact h
 ·exact h
 ·exact h
 ·rename_i cl ho;exact zq5 ho h
 ·rename_i op t x y t' ho;split at h
  ·rename_i xs ys hx hy;obtain⟨h1,h⟩:=h;simp only[pG,rZ]at h1;split at h
   ·rename_i b hb;split at h
    ·exact⟨_,H,.same <|.KH .eql t t' x y ho (.inl O) h1.1 h1.2 hx hy hb,jR (k:=λc=>K c H) h⟩
    ·exact⟨_,H,.same <|.KH .neq t t' x y ho (.inr O) h1.1 h1.2 hx hy hb,jR (k:=λc=>K c H) h⟩
    ·exact du
   ·exact du
  ·rename_i s s' hx hy;obtain⟨⟨a⟩⟩:=s;obtain⟨⟨b⟩⟩:=s';obtain⟨c,h1,h2⟩:=Ur ho hx hy h;exact⟨c,H,h1 H,h2⟩
  ·obtain⟨c,h1,h2⟩:=HO h;exact⟨c,H,h1 H,h2⟩
 ·rename_i src dst x ho;obtain⟨c,h1,h2⟩:=S5 ho h;exact⟨c,H,h1 H,h2⟩
 ·split at h
  ·rename_i v e;obtain⟨h1,h2⟩:=qh h;simp only[pG,eV]at h1;exact⟨.v v,H,.same <|.scalar h1.1.1 h1.1.2 e h1.2,Ub (k:=λc=>K c H) h2⟩
  ·exact du
 ·obtain⟨c,h1,h2⟩:=HO h;exact⟨c,H,h1 H,h2⟩
end
def IT(calls:Bool)(o:Oper):Bool:=
 match o.op with
 |.alloc _|.box .. |.store .. |.makeSlice .. |.makeMap .. |.mapUpdate .. |.insert .. |.mapEntry .. |.entryStore ..=>true
 |.call cl=>match cl.callee with
  |.builtin .len=>false
  |.builtin _=>true
  |_=>calls
 |_=>false
def yz(o:Oper):Bool:=
 match o.op with
 |.move _|.assign _|.pick .. |.fieldAddr .. |.indexAddr .. |.extract .. |.nilCheck _|.makeFunc .. |.build .. |.buildSlice .. |.slice .. |.index .. |.field .. |.binOp .. |.unOp .. |.convert ..=>true
 |.call cl=>match cl.callee with
  |.builtin .len=>true
  |_=>false
 |_=>false
section
variable {P:Program} {o:Oper} {ρ:Operand->C} {H:zo} {K:C->zo->Prop}
def Sk(hb:yz o=true)(h:CC P H ρ o K):∃c,(∀H2,lS P o ρ H2 c H2)/\K c H:=by
 unfold CC at h;split at h
 ·rename_i x ho;exact⟨_,λH2=>.same <|.move x (.inl ho),zU (k:=λc=>K c H) h⟩
 ·rename_i x ho;exact⟨_,λH2=>.same <|.move x (.inr ho),zU (k:=λc=>K c H) h⟩
 ·rename_i x y z ho;split at h
  ·rename_i b hb;exact⟨_,λH2=>.same <|.pick x y z ho b hb,zU (k:=λc=>K c H) h⟩
  ·exact du
 ·rename_i t ho;simp[yz,ho]at hb
 ·rename_i t x ho;simp[yz,ho]at hb
 ·rename_i t x f ho;exact Sb ho h
 ·rename_i t x y ho;obtain⟨c,h1,h2⟩:=SB (ρ:=λx=>mX (ρ x)) ho h;exact⟨c,λH2=>(h1 H2).mX,h2⟩
 ·rename_i t x y ho;exact SC ho h
 ·rename_i t x f ho;exact Sc ho h
 ·rename_i t x ho;simp[yz,ho]at hb
 ·rename_i t x y ho;simp[yz,ho]at hb
 ·rename_i x n ho;split at h
  ·rename_i vs hx;split at h
   ·rename_i c hc;exact⟨c,λH2=>.same <|.extract x n ho hx hc,zU (k:=λc=>K c H) (jR (k:=λc=>jk c λc=>K c H) h)⟩
   ·exact du
  ·exact du
 ·rename_i x ho;exact⟨_,λH2=>.same <|.nilCheck x ho (qh h).1,zU (k:=λc=>K c H) (qh h).2⟩
 ·rename_i f first caps ho;split at h
  ·have h:=jj (λ_ _ h=>zU h) h;exact⟨_,λH2=>.same <|.makeFunc _ first caps ho,jj (λ_ _ h=>zU h) (k:=λb=>K (.fn _ (first.toList.map ρ) b) H) h⟩
  ·exact du
 ·rename_i t parts ho;obtain⟨cs,hc,h⟩:=R4 h;exact⟨_,λH2=>.same <|.build t parts ho hc,h⟩
 ·rename_i t x ho;simp[yz,ho]at hb
 ·rename_i x xT t ok ho;simp[yz,ho]at hb
 ·rename_i t len parts ho;split at h
  ·rename_i c hc;split at h
   ·rename_i o' sz rows;have h:=jj (λ_ _ h=>jj (λ_ _ h=>zU h) h) (k:=λrows=>jV sz λsz=>K (.lq o' sz rows) H) h;exact⟨_,λH2=>.same <|(jg.buildSlice (ρ:=λz=>C6 (ρ z)) t len parts ho hc).weaken λz E v hl=>Oa hl,qI (k:=λsz=>K (.lq o' sz rows) H) h⟩
   ·exact du
  ·exact du
 ·rename_i t x lo hi mx ho;obtain⟨c,h1,h2⟩:=Sj (ρ:=λx=>mX (ρ x)) ho h;exact⟨c,λH2=>(h1 H2).mX,h2⟩
 ·rename_i t x y ho;simp[yz,ho]at hb
 ·rename_i ho;simp[yz,ho]at hb
 ·rename_i ho;simp[yz,ho]at hb
 ·rename_i ho;simp[yz,ho]at hb
 ·rename_i ho;simp[yz,ho]at hb
 ·rename_i cl ho
  have hc:cl.callee=.builtin .len:=by
   simp only[yz,ho]at hb;split at hb
   ·assumption
   ·cases hb
  have hns:yJ o=true:=by simp[yJ,ho]
  unfold LS at h;rw[hc]at h;dsimp only at h;split at h
  ·rename_i x t hx ht;split at h
   ·rename_i e hu;split at h
    ·rename_i n hn;exact⟨_,λH2=>.mX (ρ:=ρ) <|.same <|.len cl ho hc x (Array.vu hx) (Array.vu ht) hu hn,h⟩
    ·exact du
   ·rename_i hu;split at h
    ·rename_i s hs;obtain⟨⟨b⟩⟩:=s;exact⟨_,λH2=>.same <|.Wz cl ho hc x (Array.vu hx) (Array.vu ht) hu hs,h⟩
    ·exact du
   ·split at h
    ·rename_i v e;obtain⟨h1,h2⟩:=qh h;simp only[pG,eV]at h1;exact⟨.v v,λH2=>.same <|.scalar hns h1.1 e h1.2,jR (k:=λc=>K c H) h2⟩
    ·exact du
  ·exact du
 ·rename_i op t x y t' ho;split at h
  ·rename_i xs ys hx hy;obtain⟨h1,h⟩:=h;simp only[pG,rZ]at h1;split at h
   ·rename_i b hb;split at h
    ·exact⟨_,λH2=>.same <|.KH .eql t t' x y ho (.inl O) h1.1 h1.2 hx hy hb,jR (k:=λc=>K c H) h⟩
    ·exact⟨_,λH2=>.same <|.KH .neq t t' x y ho (.inr O) h1.1 h1.2 hx hy hb,jR (k:=λc=>K c H) h⟩
    ·exact du
   ·exact du
  ·rename_i s s' hx hy;obtain⟨⟨a⟩⟩:=s;obtain⟨⟨b⟩⟩:=s';exact Ur ho hx hy h
  ·exact HO h
 ·rename_i src dst x ho;exact S5 ho h
 ·split at h
  ·rename_i v e;obtain⟨h1,h2⟩:=qh h;simp only[pG,eV]at h1;exact⟨.v v,λH2=>.same <|.scalar h1.1.1 h1.1.2 e h1.2,Ub (k:=λc=>K c H) h2⟩
  ·exact du
 ·exact HO h
end
section
variable {P:Program} {B:Nat} {ops:Array Oper} {md:Region.Mode} {Hs:Nat->zo} {eff:Nat->Bool} {idx:Nat->Nat} {inR:Nat->Nat->Bool}
def Ii(md:Region.Mode)(ms:List Nat)(o:Oper):List Nat:=
 ms++[o.after.toList.foldl (λm e=>if Region.binds md e then m ||| (1 <<< e.on) ||| (ms[e.on]?).getD 0 else m) 0]
def BW(md:Region.Mode)(ops:Array Oper):List Nat:=ops.toList.foldl (Ii md) []
def CN(md:Region.Mode)(ops:Array Oper)(ms:List Nat)(j i:Nat):Bool:=Nat.testBit ((ms[j]?).getD 0) i
def Ud{md:Region.Mode}{ms:List Nat}{i:Nat}:∀{l:List Edge} {m0:Nat},Nat.testBit (l.foldl (λm e=>if Region.binds md e then m ||| (1 <<< e.on) ||| (ms[e.on]?).getD 0 else m) m0) i=true->
  Nat.testBit m0 i=true\/∃e∈l,Region.binds md e=true/\(e.on=i\/Nat.testBit ((ms[e.on]?).getD 0) i=true)
 |[],m0,h=>.inl h
 |e::l,m0,h=>by
  rw[iI]at h;rcases Ud h with h1|⟨e',h1,h2⟩
  ·split at h1
   ·rename_i hb;simp only[Nat.testBit_or,sB]at h1;rcases h1 with(h1|h1)|h1
    ·exact .inl h1
    ·refine .inr ⟨e,aj,hb,.inl ?_⟩;rw[Nat.testBit_shiftLeft]at h1;simp only[pG,pQ]at h1;obtain⟨h2,h3⟩:=h1;have:=Nat.testBit_one_eq_true_iff_self_eq_zero.1 h3;omega
    ·exact .inr ⟨e,aj,hb,.inr h1⟩
   ·exact .inl h1
  ·exact .inr ⟨e',aD,h2⟩
def EM(md:Region.Mode)(l:List Oper)(ms:List Nat):Prop:=ms.length=l.length/\∀(j i:Nat),Nat.testBit ((ms[j]?).getD 0) i=true->
  ∃oj,l[j]?=some oj/\∃e∈oj.after,Region.binds md e=true/\(e.on=i\/(e.on<j/\Nat.testBit ((ms[e.on]?).getD 0) i=true))
def EM.step{md:Region.Mode}{l:List Oper}{ms:List Nat}(h0:EM md l ms)(o:Oper):EM md (l++[o]) (Ii md ms o):=by
 obtain⟨ih1,ih2⟩:=h0;refine⟨by simp[Ii,ih1],?_⟩;intro j i h;unfold Ii at h ⊢;by_cases hj:j<ms.length
 ·rw[pD hj]at h;obtain⟨oj,h1,e,h2,h3,h4⟩:=ih2 j i h;refine⟨oj,by rw[pD aw];exact h1,e,h2,h3,h4.imp id λ⟨h5,h6⟩=>⟨h5,?_⟩⟩;rw[pD aw];exact h6
 ·rw[pT aw]at h
  have hj0:j-ms.length=0:=by
   rcases fh (j-ms.length) with h0|h0
   ·exact h0
   ·rw[rT aA]at h;simp at h
  rw[hj0]at h;simp only[ij,Option.getD_some]at h;rcases Ud h with h1|⟨e,h1,h2,h3⟩
  ·simp at h1
  ·refine⟨o,by rw[pT aw,<-ih1,hj0];rfl,e,aq h1,h2,h3.imp id λh4=>?_⟩
   have lu:e.on<ms.length:=by
    rcases sd e.on ms.length with h5|h5
    ·exact h5
    ·rw[rT h5]at h4;simp at h4
   exact⟨aw,by rw[pD lu];exact h4⟩
def EM.fold{md:Region.Mode}:∀{l pre:List Oper} {ms:List Nat},EM md pre ms->EM md (pre++l) (l.foldl (Ii md) ms)
 |[],pre,ms,h=>by simpa using h
 |o::l,pre,ms,h=>by
  have:=(h.step o).fold (l:=l);simpa using this
def Tv{md:Region.Mode}(ops:Array Oper):EM md ops.toList (BW md ops):=by
 have:=EM.fold (md:=md) (l:=ops.toList) (pre:=[]) (ms:=[]) ⟨rfl,aj⟩;simpa [BW] using this
def Down(md:Region.Mode)(ops:Array Oper)(listed:Array Bool):Prop:=∀j oj,ops[j]?=some oj->listed.getD j false=true->∀e∈oj.after,Region.binds md e=true->listed.getD e.on false=true
def Down.start:Down md ops (Array.replicate ops.size false):=λj oj _ h=>by
 exfalso
 rw[rV,Array.getElem?_replicate]at h;split at h <;> simp at h
def Down.dep{listed:Array Bool}(hd:Down md ops listed)(j i:Nat)(hj:listed.getD j false=true)(h:CN md ops (BW md ops) j i=true):listed.getD i false=true:=by
 induction j using Nat.strongRecOn with
 |_ j ih=>
  obtain⟨oj,h1,e,h2,h3,h4⟩:=(Tv (md:=md) ops).2 j i h;have h5:=hd j oj tE hj e h2 h3;rcases h4 with rfl|⟨h6,h7⟩
  ·exact h5
  ·exact ih e.on h6 h5 h7
def Down.ready{listed:Array Bool}(hd:Down md ops listed){j i:Nat}(hj:j∈Region.ready md ops listed)(h:CN md ops (BW md ops) j i=true):listed.getD i false=true:=by
 obtain⟨_,oj,ho,qj⟩:=mem_ready.1 hj;obtain⟨oj',h1,e,h2,h3,h4⟩:=(Tv (md:=md) ops).2 j i h
 have e1:oj'=oj:=by
  have:ops[j]?=some oj':=aq h1
  rw[ho]at this;cases this
  rfl
 subst e1;have h5:=qj e h2 h3;rcases h4 with rfl|⟨h6,h7⟩
 ·exact h5
 ·exact hd.dep e.on i h5 h7
def Down.step{listed:Array Bool}(hd:Down md ops listed){i:Nat}(hi:i∈Region.ready md ops listed):Down md ops (listed.setIfInBounds i true):=λj oj ho hj e he hb=>by
 by_cases hji:i=j
 ·subst hji;obtain⟨_,oi,ho',qj⟩:=mem_ready.1 hi;rw[ho]at ho';cases ho'
  exact getD_set_true (qj e he hb)
 ·rw[getD_set_ne false hji]at hj;exact getD_set_true (hd j oj ho hj e he hb)
def QA(P:Program)(ops:Array Oper)(Hs:Nat->zo)(r:Nat->Bool)(o:Oper)(c:C)(t:List C):Prop:=
 (jN ops t o=some true/\∀k,r k=true->lS P o (ev t) (Hs k) c (Hs k))\/(jN ops t o=some false/\c=.un)
def EA(P:Program)(ops:Array Oper)(H H':zo)(o:Oper)(c:C)(t:List C):Prop:=
 (jN ops t o=some true/\lS P o (ev t) H c H')\/(jN ops t o=some false/\c=.un/\H'=H)
def QA.put{r:Nat->Bool}{o:Oper}{c x:C}{t:List C}{dst:Option Tmp}(h:∀d,dst=some d->d∉o.looksAt ops):QA P ops Hs r o c (put t dst x)↔QA P ops Hs r o c t:=by
 unfold QA;rw[kM h];constructor
 ·rintro(⟨h1,h2⟩|h1)
  ·exact .inl ⟨h1,λk hk=>(lS.put h).1 (h2 k hk)⟩
  ·exact .inr h1
 ·rintro(⟨h1,h2⟩|h1)
  ·exact .inl ⟨h1,λk hk=>(lS.put h).2 (h2 k hk)⟩
  ·exact .inr h1
def EA.put{H H':zo}{o:Oper}{c x:C}{t:List C}{dst:Option Tmp}(h:∀d,dst=some d->d∉o.looksAt ops):EA P ops H H' o c (put t dst x)↔EA P ops H H' o c t:=by
 unfold EA;rw[kM h,lS.put h]
def LZ(P:Program)(ops:Array Oper)(Hs:Nat->zo)(eff:Nat->Bool)(idx:Nat->Nat)(inR:Nat->Nat->Bool)(i:Nat)(o:Oper)(c:C)(n':Nat)(t:List C)(n:Nat):Prop:=
 (eff i=false/\inR i n=true/\QA P ops Hs (inR i) o c t/\n'=n)\/(eff i=true/\idx i=n/\EA P ops (Hs n) (Hs (n+1)) o c t/\n'=n+1)
def Bl(P:Program)(ops:Array Oper)(Hs:Nat->zo)(eff:Nat->Bool)(idx:Nat->Nat)(inR:Nat->Nat->Bool)(i:Nat)(K:List C->Nat->Prop)(t:List C)(n:Nat):Prop:=
 match ops[i]? with
 |none=>K t n
 |some o=>∃c n',LZ P ops Hs eff idx inR i o c n' t n/\K (put t o.dst c) n'
def zud{i:Nat}{t:List C}{n:Nat}{K K':List C->Nat->Prop}(h:∀t n,K t n->K' t n)(hh:Bl P ops Hs eff idx inR i K t n):Bl P ops Hs eff idx inR i K' t n:=by
 unfold Bl at *;split
 ·exact h _ _ (by simpa [*] using hh)
 ·rename_i o ho;simp only[ho]at hh;obtain⟨c,n',h1,h2⟩:=hh;exact⟨c,n',h1,h _ _ h2⟩
def Ed(P:Program)(ops:Array Oper)(Hs:Nat->zo)(eff:Nat->Bool)(idx:Nat->Nat)(inR:Nat->Nat->Bool)(Q:List C->Nat->Prop):List Oper->Nat->List C->Nat->Prop
 |[],_,t,n=>Q t n
 |_::l,k,t,n=>Bl P ops Hs eff idx inR k (Ed P ops Hs eff idx inR Q l (k+1)) t n
def Jd(P:Program)(md:Region.Mode)(ops:Array Oper)(Hs:Nat->zo)(eff:Nat->Bool)(idx:Nat->Nat)(inR:Nat->Nat->Bool)(Q:List C->Nat->Prop):Nat->Array Bool->List C->Nat->Prop
 |0,listed,t,n=>Region.ready md ops listed=[]/\Q t n
 |fuel+1,listed,t,n=>(Region.ready md ops listed=[]->Q t n)/\∀i∈Region.ready md ops listed,Bl P ops Hs eff idx inR i (Jd P md ops Hs eff idx inR Q fuel (listed.setIfInBounds i true)) t n
def vx{q:Option Nat}{m:Nat}{H0:zo}{Q:List C->Nat->Prop}{w0:World}{E0:Env}{Q':Exit->Act->World->Prop}(hQ:∀t n w E a,Q t n->yS B m w E ⟨t,Hs n⟩ a->xk B w0 E0 H0 w E (Hs n)->Q' .normal a w):
  ∀(fuel:Nat) (listed:Array Bool) (t:List C) (n:Nat) (w:World) (E:Env) (a:Act),yS B m w E ⟨t,Hs n⟩ a->xk B w0 E0 H0 w E (Hs n)->Jd P md ops Hs eff idx inR Q fuel listed t n->wpAnyIn (fw q) 0 P md ops Q' fuel listed a w
 |0,_,t,n,w,E,a,hs,hg,h=>⟨h.1,hQ t n w E a h.2 hs hg⟩
 |fuel+1,listed,t,n,w,E,a,hs,hg,h=>⟨λh0=>hQ t n w E a (h.1 h0) hs hg,λi hi=>by
   have h1:=h.2 i hi;unfold Bl at h1;unfold wpOpIn;split
   ·rename_i ho;simp only[ho]at h1;exact vx hQ fuel _ t n w E a hs hg h1
   ·rename_i o ho;simp only[ho]at h1;obtain⟨c,n',hf,hK⟩:=h1;rcases hf with⟨_,hin,⟨hw,hv⟩|⟨hw,rfl⟩,rfl⟩|⟨_,_,⟨hw,hv⟩|⟨hw,rfl,he⟩,rfl⟩
    ·rw[pA (xA hs.tmps hw)];exact Cr.Lj (s:=⟨t,Hs n'⟩) (hv _ hin) q m w E a _ Q' hs λw' E' a' h2 g2=>vx hQ fuel _ (put t o.dst c) n' w' E' a' h2 (hg.trans g2) hK
    ·rw[pw bw];exact⟨λ_ _=>trivial,vx hQ fuel _ (put t o.dst .un) n' w E _ (hs.put .un o.dst) hg hK⟩
    ·rw[pA (xA hs.tmps hw)];exact Cr.Lj (s:=⟨t,Hs n⟩) hv q m w E a _ Q' hs λw' E' a' h2 g2=>vx hQ fuel _ (put t o.dst c) (n+1) w' E' a' h2 (hg.trans g2) hK
    ·rw[pw bw];have hs':=hs.put .un o.dst;exact⟨λ_ _=>trivial,vx hQ fuel _ (put t o.dst .un) (n+1) w E _ (by rw[he];exact hs') (by rw[he];exact hg) hK⟩⟩
structure Hg(md:Region.Mode)(ops:Array Oper)(eff:Nat->Bool)(idx:Nat->Nat)(inR:Nat->Nat->Bool)(i j:Nat):Prop where
 c1:eff i=false->eff j=true->CN md ops (BW md ops) j i=false->inR i (idx j)=true->inR i (idx j+1)=true
 c2:eff i=true->eff j=false->CN md ops (BW md ops) j i=false->inR j (idx i+1)=true->inR j (idx i)=true
def zue{i j:Nat}{oi oj:Oper}{c:C}{n ni:Nat}(hj:ops[j]?=some oj)(hap:oi.apart ops oj=true)(he:eff i=true->eff j=false)(hp:Hg md ops eff idx inR i j)(hno:CN md ops (BW md ops) j i=false){K:List C->Nat->Prop}{t:List C}
 (hf:LZ P ops Hs eff idx inR i oi c ni t n)(h:Bl P ops Hs eff idx inR j K (put t oi.dst c) ni):
  Bl P ops Hs eff idx inR j (λt' n'=>∃n2,LZ P ops Hs eff idx inR i oi c n2 t' n'/\K (put t' oi.dst c) n2) t n:=by
 obtain⟨h1,h2,h3⟩:=Oper.apart_spec hap;unfold Bl at *;simp only[hj] at *;obtain⟨cj,nj,hfj,hK⟩:=h;rw[put_comm _ _ h2]at hK;rcases hf with⟨e1,e2,e3,rfl⟩|⟨e1,e2,e3,rfl⟩
 ·rcases hfj with⟨f1,f2,f3,rfl⟩|⟨f1,f2,f3,rfl⟩
  ·exact⟨cj,nj,.inl ⟨f1,f2,(QA.put h1).1 f3,rfl⟩,nj,.inl ⟨e1,e2,(QA.put h3).2 e3,rfl⟩,hK⟩
  ·refine⟨cj,ni+1,.inr ⟨f1,f2,(EA.put h1).1 f3,rfl⟩,ni+1,.inl ⟨e1,?_,(QA.put h3).2 e3,rfl⟩,hK⟩;rw[<-f2];exact hp.c1 e1 f1 hno (by rw[f2];exact e2)
 ·rcases hfj with⟨f1,f2,f3,rfl⟩|⟨f1,f2,f3,rfl⟩
  ·refine⟨cj,n,.inl ⟨f1,?_,(QA.put h1).1 f3,rfl⟩,n+1,.inr ⟨e1,e2,(EA.put h3).2 e3,rfl⟩,hK⟩;rw[<-e2];exact hp.c2 e1 f1 hno (by rw[e2];exact f2)
  ·rw[he e1]at f1;cases f1
def zqR{Q:List C->Nat->Prop}{i:Nat}{oi:Oper}{c:C}(hi:ops[i]?=some oi):
  ∀(fuel:Nat) (listed:Array Bool) (t:List C) (n ni:Nat),Down md ops listed->
   (∀j oj,ops[j]?=some oj->j≠i->listed.getD j true=false->(∀e∈oj.after,Region.binds md e=true->e.on≠i)->oi.apart ops oj=true/\(eff i=true->eff j=false)/\Hg md ops eff idx inR i j)->
   i∈Region.ready md ops listed->LZ P ops Hs eff idx inR i oi c ni t n->
   Jd P md ops Hs eff idx inR Q fuel (listed.setIfInBounds i true) (put t oi.dst c) ni->Jd P md ops Hs eff idx inR Q (fuel+1) listed t n:=by
 intro fuel
 induction fuel with
 |zero=>
  intro listed t n ni _ _ hr hy H;refine⟨λh=>bz,λj hj=>?_⟩;by_cases hji:j=i
  ·subst hji;unfold Bl;simp only[hi];exact⟨c,ni,hy,H⟩
  ·have:=ready_mono hj hji;rw[H.1]at this;cases this
 |succ fuel ih=>
  intro listed t n ni hdown hfree hr hy H;refine⟨λh=>bz,λj hj=>?_⟩;by_cases hji:j=i
  ·subst hji;unfold Bl;simp only[hi];exact⟨c,ni,hy,H⟩
  ·have h1:=H.2 j (ready_mono hj hji);obtain⟨hjun,oj,hoj,qj⟩:=mem_ready.1 hj
   have hiun:listed.getD i false=false:=by
    have h0:=(mem_ready.1 hr).1;rcases sd i listed.size with h'|h'
    ·simp[h']at h0 ⊢;exact h0
    ·simp[u6 h']
   have hnot:∀e∈oj.after,Region.binds md e=true->e.on≠i:=λe he hb heq=>by
    have h1:=qj e he hb;rw[heq,hiun]at h1;cases h1
   have hno:CN md ops (BW md ops) j i=false:=by
    cases hd:CN md ops (BW md ops) j i with
    |false=>rfl
    |true=>have:=hdown.ready hj hd;rw[hiun]at this;cases this
   obtain⟨hap,hee,hp⟩:=hfree j oj hoj hji hjun hnot;have h2:=zue hoj hap hee hp hno hy h1
   have hfree':∀k ok,ops[k]?=some ok->k≠i->(listed.setIfInBounds j true).getD k true=false->
     (∀e∈ok.after,Region.binds md e=true->e.on≠i)->oi.apart ops ok=true/\(eff i=true->eff k=false)/\Hg md ops eff idx inR i k:=λk ok hk hki hun hno=>by
    refine hfree k ok hk hki ?_ hno;by_cases hjk:j=k
    ·subst hjk;exact hjun
    ·rw[getD_set_ne true hjk]at hun;exact hun
   refine zud (λt' n' ⟨n2,h3,h4⟩=>ih (listed.setIfInBounds j true) t' n' n2 (hdown.step hj) hfree' (ready_mono hr (Ne.symm hji)) h3 ?_) h2;rw[ib _ _ hji];exact h4
def UB{Q:List C->Nat->Prop}(hE:E8 md ops eff=true)(hP:∀i j,Hg md ops eff idx inR i j):∀(l:List Oper) (k:Nat) (listed:Array Bool) (t:List C) (n:Nat),Down md ops listed->(∀j,l[j]?=ops[k+j]?)->(∀j,j<k->listed.getD j true=true)->
  Region.lexFrom md ops l.length k listed=true->Ed P ops Hs eff idx inR Q l k t n->Jd P md ops Hs eff idx inR Q l.length listed t n
 |[],_,_,_,_,_,_,_,hB,h=>⟨by simpa [Region.lexFrom] using hB,h⟩
 |o::l,k,listed,t,n,hd,hl,hk,hB,h=>by
  have h0:ops[k]?=some o:=by simpa using (hl 0).symm
  simp only[rF,Region.lexFrom,pG]at hB;obtain⟨⟨hr,hf⟩,hB'⟩:=hB;have h':Bl P ops Hs eff idx inR k (Ed P ops Hs eff idx inR Q l (k+1)) t n:=h;unfold Bl at h';simp only[h0]at h';obtain⟨c,n',hfst,hK⟩:=h';have hr':k∈Region.ready md ops listed:=aq hr
  refine zqR h0 l.length listed t n n' hd (λj oj hj hne hun hno=>⟨Region.free_spec h0 hf j oj hj hne hun hno,λhe=>?_,hP k j⟩) hr' hfst
   (UB hE hP l (k+1) _ _ _ (hd.step hr') (λj=>by have:=hl (j+1);simpa [uh,iX 1 j] using this) ?_ hB' hK)
  ·refine TW hE he ?_ hj hno;rcases sX j k with lu|heq|lu
   ·rw[hk j lu]at hun;cases hun
   ·exact absurd heq hne
   ·exact lu
  ·intro j hj;by_cases hjk:k=j
   ·subst hjk;by_cases lu:k<listed.size
    ·simp[lu]
    ·simp[lu]
   ·rw[getD_set_ne true hjk];exact hk j aw
def Run.ZU{id n':Nat}{t t':List C}{H:zo}(hm:P.follows .mixedOrders=true)(hB:Region.lexB .any ops=true)(hE:E8 .any ops eff=true)(hP:∀i j,Hg .any ops eff idx inR i j)(hH:Hs 0=H)
 (h:Ed P ops Hs eff idx inR (λt n=>t=t'/\n=n') ops.toList 0 t 0):Run P B (.region id ops true) ⟨t,H⟩ .normal ⟨t',Hs n'⟩:=λq m w E a Q _ hs hq=>by
 simp only[Region.lexB,pG]at hB;subst hH;refine wpIn_region_any hm (vx (Hs:=Hs) (eff:=eff) (idx:=idx) (inR:=inR) (H0:=Hs 0) (Q:=λt n=>t=t'/\n=n') (w0:=w) (E0:=E) (λt1 n1 w1 E1 a1 he h1 g1=>by obtain⟨rfl,rfl⟩:=he;exact hq _ _ w1 E1 a1 ⟨rfl,rfl⟩ h1 g1) _ _ t 0 _ E a hs.drew ((Grow.drew w E (Hs 0)).nD tD) ?_);have:=UB (Hs:=Hs) (eff:=eff) (idx:=idx) (inR:=inR) (Q:=λt n=>t=t'/\n=n') (P:=P) (md:=.any) hE hP ops.toList 0 (Array.replicate ops.size false) t 0 Down.start aj (λj hj=>absurd hj (rE j)) (aq hB.2) h;simpa using this
structure An where
 calls:Bool
 bl:List Nat
 keep:List Nat:=[]
 calm:List Nat:=[]
def CS:List Nat->Nat->Bool
 |[],_=>false
 |x::xs,k=>match Nat.beq x k with|true=>true|false=>CS xs k
def An.blind(T:An)(k:Nat):Bool:=CS T.bl k
def An.It(T:An)(k:Nat):Bool:=match T.calls with|true=>!CS T.calm k|false=>false
def oI(T:An)(ops:Array Oper)(i:Nat):Bool:=match ops[i]? with|some o=>IT (T.It i) o && !T.blind i|none=>false
def vJ(T:An)(ops:Array Oper)(i:Nat):Nat:=((List.range i).filter (oI T ops)).length
def A3(T:An)(ops:Array Oper)(i k:Nat):Bool:=match ops[i]? with|some o=>(yz o || T.blind i) || k == vJ T ops i|none=>true
def PB(md:Region.Mode)(T:An)(ops:Array Oper)(ms:List Nat):Bool:=
 E8 md ops (oI T ops) && (List.range ops.size).all λi=>(List.range ops.size).all λj=>
  (!(oI T ops j) || oI T ops i || A3 T ops i (vJ T ops j+1) || !(A3 T ops i (vJ T ops j)) || CN md ops ms j i) &&
  (!(oI T ops i) || oI T ops j || A3 T ops j (vJ T ops i) || !(A3 T ops j (vJ T ops i+1)) || CN md ops ms j i)
def G6(md:Region.Mode)(T:An)(ops:Array Oper):Bool:=PB md T ops (BW md ops)
def zs1{T:An}(h:G6 md T ops=true)(i j:Nat):Hg md ops (oI T ops) (vJ T ops) (A3 T ops) i j:=by
 simp only[G6,PB,pG,pH,sJ]at h
 have he:∀i,oI T ops i=true->i<ops.size:=λi hi=>by
  unfold oI at hi;split at hi
  ·rename_i o ho;exact(pU.1 ho).1
  ·cases hi
 have hin:∀i k,¬i<ops.size->A3 T ops i k=true:=λi k hi=>by
  unfold A3;rw[u6 aw]
 constructor
 ·intro h1 h2 h3 h4;by_cases hi:i<ops.size
  ·have:=(h.2 i hi j (he j h2)).1;simp only[h1,h2,h3,h4,iy,uc,Bool.or_false]at this;exact gh
  ·exact hin i _ hi
 ·intro h1 h2 h3 h4;by_cases hj:j<ops.size
  ·have:=(h.2 i (he i h1) j hj).2;simp only[h1,h2,h3,h4,iy,uc,Bool.or_false]at this;exact gh
  ·exact hin j _ hj
def I5(o:Oper):Bool:=match o.op with|.load ..=>true|_=>false
def Tn{o:Oper}{ρ:Operand->C}{H:zo}{K:C->zo->Prop}(hb:I5 o=true)(h:CC P H ρ o K):∃c,lS P o ρ H c H/\K c H:=by
 unfold I5 at hb;split at hb
 ·rename_i t x ho;unfold CC at h;rw[ho]at h;dsimp only at h;obtain⟨c,h1,h2⟩:=JW h;exact⟨c,.same <|.load t x ho h1,h2⟩
 ·cases hb
def x6(keep:List Nat)(H H':zo):Prop:=∀id,CS keep id=true->H'[id]?=H[id]?
def x6.refl(keep:List Nat)(H:zo):x6 keep H H:=λ_ _=>rfl
def x6.trans{keep:List Nat}{H H' H'':zo}(h:x6 keep H H')(h':x6 keep H' H''):x6 keep H H'':=λid hi=>(h' id hi).trans (h id hi)
def I1(H H':zo)(k:Prop):List Nat->Prop
 |[]=>k
 |id::ids=>H'[id]?=H[id]?/\I1 H H' k ids
def J5{H H':zo}{k:Prop}:∀{keep:List Nat},I1 H H' k keep->x6 keep H H'/\k
 |[],h=>⟨λid hi=>by simp[CS]at hi,h⟩
 |x::xs,h=>by
  obtain⟨h1,h2⟩:=h;obtain⟨h3,h4⟩:=J5 h2;refine⟨λid hi=>?_,h4⟩;unfold CS at hi;split at hi
  ·rename_i e;obtain rfl:=Nat.eq_of_beq_eq_true e;exact h1
  ·exact h3 id hi
def zuS{H H':zo}{id:Nat}(h:H'[id]?=H[id]?)(hops:List mP):qm H' id hops=qm H id hops:=by unfold qm;rw[h]
def zr9{H H':zo}{t:TypeId}{id:Nat}{hops:List mP}{sz i k:Nat}(h:H'[id]?=H[id]?):Bf P H' t (.ref id hops sz i k)=Bf P H t (.ref id hops sz i k):=by
 unfold Bf Da;simp only[zuS h]
def La(P:Program)(keep:List Nat)(H:zo)(ρ:Operand->C)(o:Oper)(K:C->zo->Prop):Prop:=
 match o.op with
 |.load t x=>match ρ x with
  |.jK cells=>I4 P H t (.jK cells) λc=>K c H
  |.ref id hops sz i k=>bK (CS keep id) <|I4 P H t (.ref id hops sz i k) λc=>K c H
  |_=>False
 |.call cl=>match cl.callee with
  |.value x=>match ρ x with
   |.fn f first caps=>bK (qw P f) <| ∃r,(∀H2,zc P f H2 (first++(cl.args.toList.map λx=>mX (ρ x))++caps) r H2)/\okB r λr=>K r H
   |_=>False
  |_=>False
 |.makeSlice t x y=>match ρ x,ρ y with
  |.v (.int _ n),.v (.int _ n')=>match P.underlying t with
   |some (.slice e)=>match P.info? e with
    |some i=>match Bx P e with
     |some cs=>bK (cs.all jE) <|n'=n/\0<=n/\(i.bytes:Int)*n<=281474976710656/\n<=9223372036854775807/\jV i.size λsz=>K (.lq 0 sz (List.replicate n.toNat cs)) H
     |none=>False
    |none=>False
   |_=>False
  |_,_=>False
 |_=>False
def Sf{keep:List Nat}{o:Oper}{ρ:Operand->C}{H:zo}{K:C->zo->Prop}(h:La P keep H ρ o K):∃c,(∀H2,x6 keep H H2->lS P o ρ H2 c H2)/\K c H:=by
 unfold La at h;split at h
 ·rename_i t x ho;split at h
  ·rename_i cells hx;obtain⟨c,h1,h2⟩:=JW h;refine⟨c,λH2 _=>.same <|.load t x ho ?_,h2⟩;rw[hx,<-h1]
   rfl
  ·rename_i id hops sz i k hx;obtain⟨h0,h⟩:=qh h;obtain⟨c,h1,h2⟩:=JW h;refine⟨c,λH2 hs=>.same <|.load t x ho ?_,h2⟩;rw[hx,<-h1];exact zr9 (hs id h0)
  ·exact du
 ·rename_i cl ho;split at h
  ·rename_i x hcl;split at h
   ·rename_i f first caps hf;obtain⟨h1,r,h2,h3⟩:=qh h;exact⟨r,λH2 _=>.PS cl ho x hcl hf h1 (h2 H2),jR (k:=λc=>K c H) h3⟩
   ·exact du
  ·exact du
 ·rename_i t x y ho;split at h
  ·rename_i k n k' n' hx hy;split at h
   ·rename_i e hu;split at h
    ·rename_i i hi;split at h
     ·rename_i cs hz;obtain⟨h1,rfl,h2,h3,h4,h5⟩:=qh h;exact⟨_,λH2 _=>.same <|.zsb t x y ho hu hi hz h1 hx hy h2 h3 h4,qI (k:=λsz=>K (.lq 0 sz (List.replicate n'.toNat cs)) H) h5⟩
     ·exact du
    ·exact du
   ·exact du
  ·exact du
 ·exact du
def My(P:Program)(T:An)(ops:Array Oper)(o:Oper)(next:Nat->List C->zo->(List C->zo->Prop)->Prop)(k:Nat)(t:List C)(H:zo)(K:List C->zo->Prop):Prop:=
 match jN ops t o with
 |some true=>match T.blind k with
  |true=>La P T.keep H (ev t) o λc H'=>BL t o.dst c λt=>next (k+1) t H K
  |false=>match IT (T.It k) o with
   |true=>CC P H (ev t) o λc H'=>I1 H H' (BL t o.dst c λt=>next (k+1) t H' K) T.keep
   |false=>match yz o || I5 o with
    |true=>CC P H (ev t) o λc H'=>BL t o.dst c λt=>next (k+1) t H' K
    |false=>CC P H (ev t) o λc H'=>H'=H/\BL t o.dst c λt=>next (k+1) t H K
 |some false=>BL t o.dst .un λt=>next (k+1) t H K
 |none=>False
def BH(P:Program)(T:An)(ops:Array Oper)(l:List Oper):Nat->List C->zo->(List C->zo->Prop)->Prop:=
 List.rec (motive:=λ_=>Nat->List C->zo->(List C->zo->Prop)->Prop) (λ_ t H K=>K t H) (λo _ next=>My P T ops o next) l
theorem zvR(T:An)(o:Oper)(l:List Oper)(k:Nat)(t:List C)(H:zo)(K:List C->zo->Prop):BH P T ops (o::l) k t H K=My P T ops o (BH P T ops l) k t H K:=rfl
def TT(T:An)(k:Nat):vJ T ops (k+1)=vJ T ops k+if oI T ops k then 1 else 0:=by
 unfold vJ;rw[fi,ez,pL];cases h:oI T ops k <;> simp[h]
def N6{T:An}{D:zo}:∀{l:List Oper} {k:Nat} {t:List C} {H:zo} {K:List C->zo->Prop},(∀j,l[j]?=ops[k+j]?)->x6 T.keep H D->BH P T ops l k t H K->
  ∃(L:List zo) (t':List C),K t' ((H::L).getLast aj)/\(∀X∈L,x6 T.keep H X)/\∀past:List zo,past.length=vJ T ops k->(∀X∈past,x6 T.keep H X)->
   Ed P ops (λi=>((past++H::L)[i]?).getD D) (oI T ops) (vJ T ops) (A3 T ops) (λt n=>t=t'/\n=vJ T ops k+L.length) l k t (vJ T ops k)
 |[],k,t,H,K,hl,hD,h=>⟨[],t,h,aj,λpast hp _=>⟨rfl,rfl⟩⟩
 |o::l,k,t,H,K,hl,hD,h=>by
  have h0:ops[k]?=some o:=by simpa using (hl 0).symm
  have hl':∀j,l[j]?=ops[k+1+j]?:=λj=>by have:=hl (j+1);simpa [uh,iX 1 j] using this
  have he:oI T ops k=(IT (T.It k) o && !T.blind k):=by unfold oI;rw[h0]
  have hin:∀m,A3 T ops k m=((yz o || T.blind k) || m == vJ T ops k):=λm=>by unfold A3;rw[h0]
  have all:∀(past L:List zo),(∀X∈past,x6 T.keep H X)->(∀X∈L,x6 T.keep H X)->∀m:Nat,x6 T.keep H (((past++H::L)[m]?).getD D):=λpast L hp hL m=>by
   cases hx:(past++H::L)[m]? with
   |none=>exact hD
   |some X=>
    have:=pq hx;rcases pV.1 this with h1|h1
    ·exact hp X h1
    ·rcases rO.1 h1 with rfl|h1
     ·exact .refl _ _
     ·exact hL X h1
  have quiet:∀c,oI T ops k=false->(∀past L,past.length=vJ T ops k->(∀X∈past,x6 T.keep H X)->(∀X∈L,x6 T.keep H X)->QA P ops (λi=>((past++H::L)[i]?).getD D) (A3 T ops k) o c t)->BH P T ops l (k+1) (put t o.dst c) H K->
    ∃(L:List zo) (t':List C),K t' ((H::L).getLast aj)/\(∀X∈L,x6 T.keep H X)/\∀past:List zo,past.length=vJ T ops k->(∀X∈past,x6 T.keep H X)->
     Ed P ops (λi=>((past++H::L)[i]?).getD D) (oI T ops) (vJ T ops) (A3 T ops) (λt n=>t=t'/\n=vJ T ops k+L.length) (o::l) k t (vJ T ops k):=λc ht hq hK=>by
   obtain⟨L,t',h1,hL,h2⟩:=N6 hl' hD hK;have hc:vJ T ops (k+1)=vJ T ops k:=by rw[TT,ht];rfl
   rw[hc]at h2;refine⟨L,t',h1,hL,λpast hp hs=>?_⟩;unfold Ed Bl;rw[h0];exact⟨c,_,.inl ⟨ht,by rw[hin];simp,hq past L hp hs hL,rfl⟩,h2 past hp hs⟩
  have Am:∀c H',oI T ops k=true->EA P ops H H' o c t->x6 T.keep H H'->BH P T ops l (k+1) (put t o.dst c) H' K->
    ∃(L:List zo) (t':List C),K t' ((H::L).getLast aj)/\(∀X∈L,x6 T.keep H X)/\∀past:List zo,past.length=vJ T ops k->(∀X∈past,x6 T.keep H X)->
     Ed P ops (λi=>((past++H::L)[i]?).getD D) (oI T ops) (vJ T ops) (A3 T ops) (λt n=>t=t'/\n=vJ T ops k+L.length) (o::l) k t (vJ T ops k):=λc H' ht hq hsm hK=>by
   have back:x6 T.keep H' H:=λid hi=>(hsm id hi).symm
   obtain⟨L,t',h1,hL,h2⟩:=N6 hl' (back.trans hD) hK;have hc:vJ T ops (k+1)=vJ T ops k+1:=by rw[TT,ht];rfl
   rw[hc]at h2;refine⟨H'::L,t',aq h1,λX hX=>?_,λpast hp hs=>?_⟩
   ·rcases rO.1 hX with rfl|hX
    ·exact hsm
    ·exact hsm.trans (hL X hX)
   have h3:=h2 (past++[H]) (by simp[hp]) (λX hX=>by
    rcases pV.1 hX with h|h
    ·exact back.trans (hs X h)
    ·rw[pP.1 h];exact back)
   unfold Ed Bl;rw[h0];refine⟨c,vJ T ops k+1,.inr ⟨ht,rfl,?_,rfl⟩,?_⟩
   ·have e1:((past++H::H'::L)[vJ T ops k]?).getD D=H:=by rw[<-hp];simp
    have e2:((past++H::H'::L)[vJ T ops k+1]?).getD D=H':=by rw[<-hp,pT aw];simp
    dsimp only;rw[e1,e2];exact hq
   ·simpa [rR,uh,iX 1] using h3
  have same:∀(past L:List zo),past.length=vJ T ops k->((past++H::L)[vJ T ops k]?).getD D=H:=λpast L hp=>by rw[<-hp];simp
  rw[zvR]at h;unfold My at h;split at h
  ·rename_i hw;cases hbl:T.blind k with
   |true=>
    rw[hbl]at h;obtain⟨c,h1,h2⟩:=Sf h;exact quiet c (by rw[he,hbl];simp) (λpast L _ hs hL=>.inl ⟨hw,λm _=>h1 _ (all past L hs hL m)⟩) (j5 (k:=λt=>BH P T ops l (k+1) t H K) h2)
   |false=>
   rw[hbl]at h;simp only at h;have he2:oI T ops k=IT (T.It k) o:=by rw[he,hbl];simp
   cases ht:IT (T.It k) o with
   |true=>
    rw[ht]at h;obtain⟨c,H',h1,h2⟩:=Nh h;obtain⟨h3,h4⟩:=J5 h2;exact Am c H' (he2.trans ht) (.inl ⟨hw,h1⟩) h3 (j5 (k:=λt=>BH P T ops l (k+1) t H' K) h4)
   |false=>
    rw[ht]at h;simp only at h;cases hb:yz o with
    |true=>
     rw[hb,iK]at h;obtain⟨c,h1,h2⟩:=Sk hb h;exact quiet c (he2.trans ht) (λpast L _ _ _=>.inl ⟨hw,λm _=>h1 _⟩) (j5 (k:=λt=>BH P T ops l (k+1) t H K) h2)
    |false=>
     rw[hb,uc]at h
     have only:∀c,lS P o (ev t) H c H->∀past L,past.length=vJ T ops k->(∀X∈past,x6 T.keep H X)->(∀X∈L,x6 T.keep H X)->QA P ops (λi=>((past++H::L)[i]?).getD D) (A3 T ops k) o c t:=λc h1 past L hp _ _=>.inl ⟨hw,λm hm=>by
      rw[hin,hb,hbl,uc,uc,rJ]at hm;subst hm;dsimp only;rw[same past L hp];exact h1⟩
     cases hlo:I5 o with
     |true=>
      rw[hlo]at h;obtain⟨c,h1,h2⟩:=Tn hlo h;exact quiet c (he2.trans ht) (only c h1) (j5 (k:=λt=>BH P T ops l (k+1) t H K) h2)
     |false=>
      rw[hlo]at h;obtain⟨c,H',h1,rfl,h2⟩:=Nh h;exact quiet c (he2.trans ht) (only c h1) (j5 (k:=λt=>BH P T ops l (k+1) t _ K) h2)
  ·rename_i hw;have hK:=j5 (k:=λt=>BH P T ops l (k+1) t H K) h;cases ht:oI T ops k with
   |true=>exact Am .un H ht (.inr ⟨hw,rfl,rfl⟩) (.refl _ _) hK
   |false=>exact quiet .un ht (λpast L _ _ _=>.inr ⟨hw,rfl⟩) hK
  ·exact du
def Run.ZV{id:Nat}{T:An}{t:List C}{H:zo}{K:List C->zo->Prop}(hm:P.follows .mixedOrders=true)(hB:Region.lexB .any ops=true)(hT:G6 .any T ops=true)(h:BH P T ops ops.toList 0 t H K):
  ∃s',Run P B (.region id ops true) ⟨t,H⟩ .normal s'/\K s'.tmps s'.H:=by
 obtain⟨L,t',h1,_,h2⟩:=N6 (k:=0) (D:=H) aj (.refl _ _) h;have h3:=h2 [] O aj;have hE:E8 .any ops (oI T ops)=true:=by simp only[G6,PB,pG]at hT;exact hT.1
 have:=Run.ZU (B:=B) (id:=id) (Hs:=λi=>((H::L)[i]?).getD H) (eff:=oI T ops) (idx:=vJ T ops) (inR:=A3 T ops) (n':=L.length) (t':=t') hm hB hE (λi j=>zs1 hT i j) O (by simpa [vJ] using h3);refine⟨_,this,?_⟩
 have e:((H::L)[L.length]?).getD H=(H::L).getLast aj:=by
  rw[List.getLast_eq_getElem];simp
 dsimp only;rw[e];exact h1
end
def Ft:C->Bool
 |.agg cs=>cs.all jE
 |c=>jE c
def qC(H:zo):Bool:=H.all λob=>match ob.kind with
 |1=>ob.rows.all λr=>r.all zB
 |4=>ob.fz == 0 || (match ob.rows with|[.rc _::t]=>t.all Ft|_=>false)
 |_=>true
def JU{H:zo}{id:Nat}{ty:TypeId}{sz fz:Nat}{r r':List C}(hob:H[id]?=some ⟨1,ty,sz,[r],fz⟩)(hno:r.all zB=true)(hno':r'.all zB=true){id':Nat}{p:List mP}{x:Nat×List (List C)}
 (h:qm (H.set id ⟨1,ty,sz,[r'],fz⟩) id' p=some x):(id'≠id/\qm H id' p=some x)\/(id'=id/\p=[]/\x=(sz,[r'])/\qm H id []=some (sz,[r])):=by
 obtain⟨ob,ho,hk,hg⟩:=jP h;by_cases hi:id'=id
 ·subst hi
  right
  rw[pK,pA O,pA (gZ.1 hob).1]at ho;cases ho
  obtain⟨rfl,rfl⟩:=F8 (λi k c hc=>by
   obtain⟨rfl,hc⟩:=kD.1 hc;exact pH.1 hno' c (pq hc)) hg
  exact⟨rfl,rfl,rfl,by unfold qm;rw[hob];simp[jt]⟩
 ·left
  refine⟨hi,?_⟩;rw[pK,pw (Ne.symm hi)]at ho;unfold qm;rw[ho];simp only[hk,if_true];exact hg
def qv.IQ{w:World}{E:Env}{H:zo}(h:qv w E H){id:Nat}{ty:TypeId}{sz fz:Nat}{r r':List C}(hob:H[id]?=some ⟨1,ty,sz,[r],fz⟩)(hlen:r'.length=r.length)(hno:r.all zB=true)(hno':r'.all zB=true)
 (hc:∀(k:Nat) c c' u,r[k]?=some c->r'[k]?=some c'->L E c u->w.cell? ⟨E.β id [],k,none⟩=some u->L E c' u):qv w E (H.set id ⟨1,ty,sz,[r'],fz⟩) where
 n:=aq h.n
 lZ id' ob p sz' rows' hob' hx:=by
  rcases JU hob hno hno' hx with⟨h1,h2⟩|⟨rfl,rfl,h1,h2⟩
  ·rw[pK,pw (Ne.symm h1)]at hob';exact h.lZ id' ob p sz' rows' hob' h2
  ·rw[pK,pA O,pA (gZ.1 hob).1]at hob';cases hob'
   cases h1
   have hb:=h.lZ _ _ _ _ _ hob h2;refine⟨hb.len,λq hq=>?_,?_⟩
   ·rw[pP.1 hq,hlen];exact hb.row r (pP.2 O)
   ·obtain⟨cur,e,h3,h4,h5⟩:=hb.lZ;refine⟨cur,e,h3,h4,?_⟩;intro i k c' hc';obtain⟨rfl,hc'⟩:=kD.1 hc';have hk:k<r.length:=by rw[<-hlen];exact(gZ.1 hc').1
    have hk':r[k]?=some r[k]:=by simp[hk]
    obtain⟨u,hu,ho⟩:=h5 0 k r[k] (kD.2 ⟨rfl,hk'⟩);refine⟨u,hu,?_⟩;rw[jx.loose (pH.1 hno _ (pq hk'))]at ho;rw[jx.loose (pH.1 hno' c' (pq hc'))];refine⟨?_,ho.2⟩;have h6:L E r[k] u:=aG
    have h7:L E c' u:=hc k _ _ u hk' hc' h6 (by
     unfold World.cell?;rw[h3];simpa using hu)
    simpa [Env.at] using h7
 inj i p j q x y hx hy he:=by
  have key:∀i p x,qm (H.set id ⟨1,ty,sz,[r'],fz⟩) i p=some x->∃x',qm H i p=some x':=λi p x hx=>by
   rcases JU hob hno hno' hx with⟨h1,h2⟩|⟨rfl,rfl,h1,h2⟩
   ·exact⟨x,h2⟩
   ·exact⟨_,h2⟩
  obtain⟨x',hx'⟩:=key i p x hx;obtain⟨y',hy'⟩:=key j q y hy;exact h.inj i p j q x' y' hx' hy' he
 qJ:=h.qJ
 sep i p x o u hx hu:=by
  rcases JU hob hno hno' hx with⟨h1,h2⟩|⟨rfl,rfl,h1,h2⟩
  ·obtain⟨e1,ob,e2,e3⟩:=h.sep i p x o u h2 hu;exact⟨e1,ob,by rw[pK,pw (Ne.symm h1)];exact e2,e3⟩
  ·obtain⟨e1,ob,e2,e3⟩:=h.sep _ [] _ o u h2 hu;rw[hob]at e2;cases e2
   exact⟨rfl,⟨1,ty,sz,[r'],fz⟩,by rw[pK,pA O,pA (gZ.1 hob).1],e3⟩
 ty i ob ho hk:=by
  rw[pK]at ho;split at ho
  ·split at ho
   ·cases ho;cases hk
   ·cases ho
  ·exact h.ty i ob ho hk
 fz i ob ho:=by
  rw[pK]at ho;split at ho
  ·split at ho
   ·cases ho;have:=h.fz id _ hob;exact gh
   ·cases ho
  ·exact h.fz i ob ho
def xc.Q8{H:zo}{id:Nat}{ob ob':Ob}(hob:H[id]?=some ob)(h1:ob.kind≠4)(h2:ob'.kind≠4):xc H (H.set id ob'):=λi o h4=>by
 rw[pK];split
 ·rename_i e;subst e;rw[pA (gZ.1 hob).1,hob];constructor
  ·intro e;cases e;exact absurd h4 h2
  ·intro e;cases e;exact absurd h4 h1
 ·exact Iff.rfl
def qL.IQ{w:World}{E:Env}{H:zo}(h:qL w E H){id:Nat}{ty:TypeId}{sz fz:Nat}{r r':List C}(hob:H[id]?=some ⟨1,ty,sz,[r],fz⟩)(hlen:r'.length=r.length)(hno:r.all zB=true)(hno':r'.all zB=true)
 (hc:∀(k:Nat) c c' u,r[k]?=some c->r'[k]?=some c'->L E c u->w.cell? ⟨E.β id [],k,none⟩=some u->L E c' u):qL w E (H.set id ⟨1,ty,sz,[r'],fz⟩)/\Grow w E H w E (H.set id ⟨1,ty,sz,[r'],fz⟩):=by
 have hR:=h.base.IQ hob hlen hno hno' hc
 have hG:qW w E H w E (H.set id ⟨1,ty,sz,[r'],fz⟩):=⟨Env.le.refl E,λ_ _ _=>O,rfl,rfl,rfl,pI _,λ_ _ _=>O,λ_ _ _ h=>.inl h,λb ⟨i,p,x,hx,he⟩=>by
  rcases JU hob hno hno' hx with⟨h1,h2⟩|⟨rfl,rfl,h1,h2⟩
  ·exact .inr ⟨i,p,x,h2,he⟩
  ·exact .inr ⟨_,[],_,h2,he⟩⟩
 have hk:=xc.Q8 (ob':=⟨1,ty,sz,[r'],fz⟩) hob (λe=>by cases e) (λe=>by cases e);exact⟨⟨hR,Br.step h hG hk⟩,hG.up h hk⟩
section
variable {B:Nat} {s:S}
def zt.var(id:Nat){ty:TypeId}{sz fz:Nat}{r r':List C}(hob:s.H[id]?=some ⟨1,ty,sz,[r],fz⟩)(hno:r.all zB=true)(hno':r'.all zB=true)(hw:nJ r r'):zt B s ⟨s.tmps,s.H.set id ⟨1,ty,sz,[r'],fz⟩⟩:=λm w E a hs=>by
 have hlen:∀{a b:List C},nJ a b->b.length=a.length:=by
  intro a b h
  induction h with
  |nil=>rfl
  |cons _ _ ih=>simp[ih]
 have hget:∀{a b:List C},nJ a b->∀(k:Nat) c c',a[k]?=some c->b[k]?=some c'->WC c c':=by
  intro a b h
  induction h with
  |nil=>intro k c c' h;simp at h
  |cons h1 _ ih=>
   intro k c c' e1 e2;cases k with
   |zero=>simp at e1 e2;subst e1 e2;exact h1
   |succ k=>exact ih k c c' (aq e1) uZ
 obtain⟨hR,g⟩:=hs.heap.IQ hob (hlen hw) hno hno' λk c c' u e1 e2 hl _=>hget hw k c c' e1 e2 E u hl
 exact⟨E,⟨hR,hs.tmps,hs.defers,aq hs.base⟩,g.nD tD⟩
def zt.DC(id k:Nat)(ty':TypeId)(sz':Nat){ty:TypeId}{sz fz sz0:Nat}{r:List C}{rows:List (List C)}(hob:s.H[id]?=some ⟨1,ty,sz,[r],fz⟩)(hk:r[k]?=some (.lq 1 sz0 rows))(hz:rows=[]\/sz'=sz0)(hno:r.all zB=true)
 (hno':(r.set k (.gl s.H.length sz' rows)).all zB=true):
  zt B s ⟨s.tmps,s.H.set id ⟨1,ty,sz,[r.set k (.gl s.H.length sz' rows)],fz⟩++[⟨4,ty',sz',rows,0⟩]⟩:=λm w E a hs=>by
 have hgb:qm s.H id []=some (sz,[r]):=by unfold qm;rw[hob];simp[jt]
 have hb:=hs.heap.base.lZ _ _ _ _ _ hob hgb;obtain⟨cur,e,h3,h4,h5⟩:=hb.lZ;obtain⟨u,hu,ho⟩:=h5 0 k _ (kD.2 ⟨rfl,hk⟩);rw[jx.loose O]at ho;have hl:L E (.lq 1 sz0 rows) u:=aG
 obtain⟨E1,hh1,hl1,g1⟩:=hs.heap.J7 hl ty' hz;have lu:id<s.H.length:=(gZ.1 hob).1;have hob1:(s.H++[⟨4,ty',sz',rows,0⟩])[id]?=some ⟨1,ty,sz,[r],fz⟩:=by rw[pD lu];exact hob
 have hβ:E1.β id []=E.β id []:=g1.le.β id [] (by rw[hs.heap.n];exact lu)
 have hcu:w.cell? ⟨E1.β id [],k,none⟩=some u:=by
  unfold World.cell?;rw[hβ,h3];simpa using hu
 obtain⟨hR,g2⟩:=hh1.IQ hob1 (r':=r.set k (.gl s.H.length sz' rows)) aj hno hno' λj c c' v e1 e2 hl' hv=>by
  rw[pK]at e2;split at e2
  ·rename_i e;subst e;rw[hcu]at hv;cases hv
   split at e2
   ·cases e2;exact hl1
   ·cases e2
  ·rw[e1]at e2;cases e2
   exact hl'
 rw[fK _ _ lu]at hR g2;exact dO
end
def NL(w:World)(o:Obj){k:Nat}(h:k<w.heap.size):(w.alloc o).heap[k]?=w.heap[k]?:=by
 show(w.heap.push o)[k]?=_;rw[Array.getElem?_push,pw aw]
def zti{P:Program}{g:Operand}{ps:Array Tmp}{assign body:Code}{B m:Nat}{H:zo}{t:List C}{f:FuncId}{caps:List C}{w:World}{E:Env}{a:Act}{Q:Exit->Act->World->Prop}
 (hs:yS B m w E ⟨t,H⟩ a)(hg:ev t g=.fn f [] caps)(hcb:qw P f=true)
 (hit:∀(l:Nat) (r:Loop),r.state=.ready->r.pending=none->r.params=ps->r.assign=assign->r.body=body->
   ∃(rr:C) (Hf:zo) (rf:Loop),zc P f (H++[nn l r t]) (.v (.func (.yield l) #[] #[])::caps) rr Hf/\Hf[H.length]?=some (nn l rf t)/\rf.state≠.busy/\rf.tmps=r.tmps/\B<=Hf.length/\
   ∀w' E' a',yS B m w' E' ⟨t,Hf.set H.length (nn l {rf with state:=.exhausted} t)⟩ a'->xk B w E H w' E' (Hf.set H.length (nn l {rf with state:=.exhausted} t))->
    match rf.pending with|none=>Q .normal a' w'|some c=>c.wpIn (fw none) 0 P Q a' w'):
  (Code.rangeFunc g ps assign body).wpIn (fw none) 0 P Q a w:=by
 have hm:=hs.defers.le;refine wpIn_rangeFunc ?_;intro fn _;obtain⟨r,hr⟩:∃r:Loop,r={state:=.ready,pending:=none,fn,tmps:=a.tmps,params:=ps,assign,body,defers:=w.heap.size}:=⟨_,rfl⟩;obtain⟨W1,hW1⟩:∃W1,W1=(w.alloc (.deferred (some []))).alloc (.loop r):=⟨_,rfl⟩
 have hL1:W1.heap[w.heap.size+1]?=some (.loop r):=by
  rw[hW1];have:=World.alloc_heap_new (w.alloc (.deferred (some []))) (.loop r);rwa [World.size_alloc]at this
 have hK1:W1.heap[w.heap.size]?=some (.deferred (some [])):=by
  rw[hW1];exact(NL _ _ aj).trans (World.alloc_heap_new w _)
 have hsame:∀k,k<w.heap.size->W1.heap[k]?=w.heap[k]?:=λk hk=>by
  rw[hW1];exact(NL _ _ aA).trans (NL _ _ hk)
 have hsz:W1.heap.size=w.heap.size+2:=by rw[hW1];simp
 have hv:=Jj hs.tmps g;rw[hg]at hv
 obtain⟨zs,hσ,hzs⟩:∃zs,a.eval g=.func (.func f) #[] zs/\LL E caps zs.toList:=by
  generalize a.eval g=u at *;cases hv with
  |fn f first caps ys zs h1 h2 h3 h4=>
   have:ys= #[]:=aq h1.symm
   subst this;exact⟨zs,rfl,aq h2,λi c y e1 e2=>h4 i c y e1 uZ⟩
 obtain⟨E1,hR1,G1⟩:=hs.heap.XO (w:=W1) (l:=w.heap.size+1) (r:=r) (t:=t) hsame (by rw[hW1];rfl) (by rw[hW1];rfl) (by rw[hW1];rfl) aw hL1 aw (by rw[hr];exact hs.tmps);obtain⟨rr,Hf,rf,hS,hHf,hbusy,htm,hB,hQ⟩:=hit (w.heap.size+1) r (by rw[hr]) (by rw[hr]) (by rw[hr]) (by rw[hr]) (by rw[hr])
 have eg:∀(args:Array Value),(callFunc f args).run P W1=.ok (.enter f args) W1:=by
  intro args;unfold qw at hcb;split at hcb
  rotate_left
  ·cases hcb
  rename_i fn hfn;simp only[pG,rZ]at hcb;have hname : fn.name ≠ "runtime.NumGoroutine" := by simpa using hcb.1
  have hbody:fn.body≠none:=bG
  simp[callFunc,hfn,hname,hbody]
 refine⟨w.heap.size+1,[Fh w.heap.size],W1,{target:=.fn (.func f) zs,args:= #[.func (.yield (w.heap.size+1)) #[] #[]]},W1,f, #[.func (.yield (w.heap.size+1)) #[] #[]]++zs,W1,?_,?_,λ_ _=>trivial,?_,λh=>aS,?_⟩
 ·rw[hW1,hr];exact run_enterLoop_outer _ _ _ _ _
 ·simp only[resolve,hσ];simp[go_sem]
 ·simp[invoke,go_sem,eg]
 ·refine(callsIn_wide (n:=0)).2 ((hS W1 E1 _ hR1 ?_).mono ?_)
  ·have:=(LL.one (.v _ rfl:L E1 (.v (.func (.yield (w.heap.size+1)) #[] #[])) (.func (.yield (w.heap.size+1)) #[] #[]))).append (hzs.mono G1.le);simpa using this
  ·rintro e w3 ⟨v,E3,rfl,hR3,_,G3⟩;obtain⟨⟨hL3,_⟩,ht3⟩:=hR3.lF.nA H.length _ (.loop rf) t hHf O ⟨rfl,rfl⟩;obtain⟨hR4,G4⟩:=hR3.K2 (r':={rf with state:=.exhausted}) hHf O;have hend:=run_endLoop (P:=P) hL3 hbusy;have G:=(G1.trans G3).trans G4;have hn:B<=E.n:=by rw[hs.heap.n];exact hs.base
   have hD:(w3.putObj (w.heap.size+1) (.loop {rf with state:=.exhausted})).heap[w.heap.size]?=some (.deferred (some [])):=by
    rw[World.putObj_heap_other aw];exact(G3.frame _ aw (hR1.free hK1)).trans hK1
   have h4:yS B m (w3.putObj (w.heap.size+1) (.loop {rf with state:=.exhausted})) E3 ⟨t,Hf.set H.length (nn (w.heap.size+1) {rf with state:=.exhausted} t)⟩ {a with defers:=[Fh w.heap.size]++a.defers}:=by
    refine⟨hR4,hs.tmps.mono G.le,⟨⟨w.heap.size,rfl,hm,hD,?_⟩,hs.defers.grow hs.heap G⟩,aq hB⟩;intro hmem
    have key:∀{ds:List Deferred},Marks m w ds->Fh w.heap.size∉ds:=by
     intro ds
     induction ds with
     |nil=>intro _ h;cases h
     |cons d ds ih=>
      rintro⟨⟨D,h1,_,h3,_⟩,ht⟩ h;rcases rO.1 h with h5|h5
      ·rw[h1]at h5;have:w.heap.size=D:=by simpa [Fh] using h5
       have:=(pU.1 h3).1;omega
      ·exact ih ht h5
    exact key hs.defers hmem
   have:=hQ _ _ _ h4 (G.nD hn);refine⟨rf.pending,_,hend,?_⟩;exact gh
def Rh:Option Code->Exit->Prop
 |none,.normal=>True
 |some .ret,.ret=>True
 |some (.exit i),.exit j=>i=j
 |_,_=>False
def jh.rangeFunc{P:Program}{g:Operand}{ps:Array Tmp}{assign body:Code}{B:Nat}{H:zo}{t:List C}{f:FuncId}{caps:List C}{R:Exit->S->Prop}(hg:ev t g=.fn f [] caps)(hcb:qw P f=true)
 (hit:∀(l:Nat) (r:Loop),r.state=.ready->r.pending=none->r.params=ps->r.assign=assign->r.body=body->
   ∃(rr:C) (Hf:zo) (rf:Loop) (ex:Exit) (s':S),zc P f (H++[nn l r t]) (.v (.func (.yield l) #[] #[])::caps) rr Hf/\Hf[H.length]?=some (nn l rf t)/\rf.state≠.busy/\rf.tmps=r.tmps/\B<=Hf.length/\Rh rf.pending ex/\
    zt B ⟨t,Hf.set H.length (nn l {rf with state:=.exhausted} t)⟩ s'/\R ex s'):jh P B (.rangeFunc g ps assign body) ⟨t,H⟩ R:=λq m w E a Q hr hs hq=>by
 obtain rfl:=hr O;refine zti hs hg hcb λl r h1 h2 h3 h4 h5=>?_
 obtain⟨rr,Hf,rf,ex,s',a1,a2,a3,a4,a5,a6,a7,a8⟩:=hit l r h1 h2 h3 h4 h5;refine⟨rr,Hf,rf,a1,a2,a3,a4,a5,λw' E' a' hs' g'=>?_⟩;obtain⟨E2,hs2,g2⟩:=a7 m w' E' a' hs';have hq':=hq ex s' w' E2 a' a8 hs2 (g'.trans g2);generalize rf.pending=pe at a6
 match pe,ex,a6 with
 |none,.normal,_=>exact hq'
 |some .ret,.ret,_=>exact wpIn_ret hq'
 |some (.exit i),.exit j,h=>cases h;exact wpIn_exit hq'
def UX(o:Oper):Option TypeId:=match o.op with
 |.makeMap t r=>match r with
  |none=>some t
  |some _=>none
 |_=>none
def Yr(P:Program)(t:TypeId):Bool:=match P.underlying t with
 |some (.map _ e)=>match P.underlying e with
  |some (.int _)=>false
  |some .bool=>false
  |some .string=>false
  |_=>true
 |_=>false
noncomputable def hasC(H:zo):Bool:=List.rec (motive:=λ_=>Bool) false (λob _ next=>match ob with
 |⟨kind,_,sz,_,fz⟩=>match kind with
  |4=>match sz with
   |2=>match fz with
    |1=>true
    |_=>next
   |_=>next
  |_=>next) H
noncomputable def mapRel(H:zo)(ρ:Operand->C)(o:Oper):Bool:=match o.op with
 |.range _ _=>true
 |.next _ _=>true
 |.entry _=>true
 |.insert _ _ _ _=>true
 |.mapUpdate _ _ _ _=>hasC H
 |.call cl=>match cl.callee with
  |.builtin b=>match b with
   |.delete=>true
   |.append=>match cl.args.toList with
    |x::_=>match ρ x with
     |.gl _ _ _=>hasC H
     |.lq _ sz _=>match sz with
      |99=>true
      |_=>false
     |_=>false
    |[]=>false
   |_=>false
  |_=>false
 |_=>false
def zEu(P:Program)(t:TypeId):Bool:=
 match P.underlying t with
 |some (.pointer _)=>true
 |some (.map _ _)=>true
 |some (.tuple es)=>match es.toList with
  |u::_=>match P.underlying u with
   |some (.pointer _)=>true
   |_=>false
  |[]=>false
 |_=>false
def Rj(P:Program)(ρ:Operand->C)(o:Oper):Option (FuncId×List C):=
 match o.op with
 |.call cl=>match cl.callee with
  |.value x=>match ρ x with
   |.fn f first caps=>match qw P f with
    |true=>some (f,first++(cl.args.toList.map λx=>mX (ρ x))++caps)
    |false=>none
   |_=>none
  |_=>none
 |_=>none
def P5(P:Program)(ρ:Operand->C)(o:Oper):Option (FuncId×List C):=
 match zEu P o.type with
 |true=>Rj P ρ o
 |false=>none
def jq.call{P:Program}{H:zo}{ρ:Operand->C}{o:Oper}{f:FuncId}{args:List C}{R:C->zo->Prop}(h:P5 P ρ o=some (f,args))(hs:qF P f H args R):jq P o ρ H R:=λw E σ hh hl _ K hk=>by
 unfold P5 at h;split at h
 rotate_left
 ·cases h
 unfold Rj at h;split at h
 rotate_left
 ·cases h
 rename_i cl ho;split at h
 rotate_left
 ·cases h
 rename_i x hcl;split at h
 rotate_left
 ·cases h
 rename_i f' first caps hf;split at h
 rotate_left
 ·cases h
 rename_i hcb;cases h
 have hl:∀x∈o.op.operands,L E (Ab.mX (ρ x)) (σ x):=λx hx=>D7 (hl x hx)
 have h0:=hl x bF;rw[hf]at h0;have h0:L E (.fn f first caps) (σ x):=h0
 obtain⟨ys,zs,hv,h1,h2,h3,h4⟩:∃ys zs,σ x=.func (.func f) ys zs/\first.length=ys.size/\caps.length=zs.size/\(∀(i:Nat) c y,first[i]?=some c->ys[i]?=some y->L E c y)/\(∀(i:Nat) c y,caps[i]?=some c->zs[i]?=some y->L E c y):=by
  generalize σ x=u at *;cases h0 with
  |fn f first caps ys zs h1 h2 h3 h4=>exact⟨ys,zs,rfl,h1,h2,h3,h4⟩
 unfold qw at hcb;split at hcb
 rotate_left
 ·cases hcb
 rename_i fn hfn;simp only[pG,rZ]at hcb;have hname : fn.name ≠ "runtime.NumGoroutine" := by simpa using hcb.1
 have hbody:fn.body≠none:=bG
 have hr:(execOp σ o).run P w=.ok (.enter f (ys++cl.args.map σ++zs)) w:=by
  unfold execOp;simp[ho,resolve,hcl,hv,Deferred.ofValue,invoke,callFunc,hfn,hname,hbody]
 rw[hr];refine(hs w E (ys++cl.args.map σ++zs) hh ?_).mono ?_
 ·have e1:LL E first ys.toList:=⟨aq h1,λi c y e1 e2=>h3 i c y e1 uZ⟩;have e2:LL E caps zs.toList:=⟨aq h2,λi c y e1 e2=>h4 i c y e1 uZ⟩
  have e3:LL E (cl.args.toList.map λx=>Ab.mX (ρ x)) (cl.args.map σ).toList:=by
   refine⟨aj,?_⟩;intro i c y hc hy;rw[pj]at hc;rw[iB,pj]at hy;cases ha:cl.args.toList[i]? with
   |none=>rw[ha]at hc;cases hc
   |some a=>
    rw[ha]at hc hy;cases hc
    cases hy
    exact gL
  have:=(e1.append e3).append e2;simpa using this
 ·rintro e w' ⟨c,H',v,E',hR,rfl,h5,h6,h7⟩;exact⟨v,rfl,hk c H' v w' E' hR h5 h6 h7⟩
def ME(o:Oper):Option (BinOp×TypeId×Operand):=
 match o.op with
 |.binOp op t x y _=>match y with
  |.const v=>match v with
   |.nilFunc=>some (op,t,x)
   |_=>none
  |_=>none
 |_=>none
def Pl(x:C):Option Bool:=
 match x with
 |.fn ..=>some false
 |.v y=>match y with
  |.nilFunc=>some true
  |_=>none
 |_=>none
def SG{x:C}{b:Bool}(h:Pl x=some b):∀E u,L E x u->(b=true/\u=.nilFunc)\/(b=false/\∃f ys zs,u=.func f ys zs):=by
 intro E u hl;unfold Pl at h;split at h
 ·cases h;cases hl;exact .inr ⟨rfl,_,_,_,rfl⟩
 ·split at h
  ·cases h;cases hl;exact .inl ⟨rfl,rfl⟩
  ·cases h
 ·cases h
def FW(P:Program)(t:TypeId):Bool:=
 match P.underlying t with
 |some (.func ..)=>true
 |_=>false
def Me(P:Program)(H:zo)(op:BinOp)(t:TypeId)(x:C)(K:C->zo->Prop):Prop:=
 match Pl x with
 |some b=>match op with
  |.eql=>bK (FW P t) <|K (.v (.bool b)) H
  |.neq=>bK (FW P t) <|K (.v (.bool (!b))) H
  |_=>False
 |none=>False
def zn5{P:Program}(w:World)(d:Nat)(t:TypeId)(ht:FW P t=true)(y:Value)(n:Bool)(hy:(n=true/\y=.nilFunc)\/(n=false/\∃f xs ys,y=.func f xs ys)):(Op.equalIn (d+1) t y .nilFunc).run P w=.ok n w:=by
 unfold FW at ht;split at ht
 rotate_left
 ·cases ht
 rename_i a b c hu;rcases hy with⟨rfl,rfl⟩|⟨rfl,f,xs,ys,rfl⟩ <;> simp[Op.equalIn,run_underlying hu]
def zsL{P:Program}(w:World)(t:TypeId)(ht:FW P t=true)(y:Value)(n:Bool)(hy:(n=true/\y=.nilFunc)\/(n=false/\∃f xs ys,y=.func f xs ys)):(Op.equal t y .nilFunc).run P w=.ok n w:=zn5 w 9999 t ht y n hy
def BF.QQ{P:Program}{o:Oper}{ρ:Operand->C}{H:zo}(op:BinOp)(t t':TypeId)(x:Operand)(ho:o.op=.binOp op t x (.const .nilFunc) t')(hop:op=.eql\/op=.neq)(ht:FW P t=true)(b:Bool)
 (hx:∀E u,L E (ρ x) u->(b=true/\u=.nilFunc)\/(b=false/\∃f ys zs,u=.func f ys zs)):BF P o ρ H (.v (.bool (if op=.eql then b else !b))) H:=λw E σ hh hl hc K hk=>by
 have hv:=hx E _ (hl x uX);have he:=zsL w t ht _ _ hv
 have hr:(execOp σ o).run P w=.ok (.value (.bool (if op=.eql then b else !b))) w:=by
  unfold execOp;rcases hv with⟨rfl,hv⟩|⟨rfl,f,ys,zs,hv⟩ <;> rw[hv]at he <;> rcases hop with rfl|rfl <;> simp[ho,hv,hc,eqGuard,binOp,he]
 rw[hr];exact hk _ w E hh (.v _ O) (Grow.refl w E H)
def zxp{P:Program}{o:Oper}{ρ:Operand->C}{H:zo}{K:C->zo->Prop}{op:BinOp}{t:TypeId}{x:Operand}(ho:ME o=some (op,t,x))(h:Me P H op t (ρ x) K):∃c,BF P o ρ H c H/\K c H:=by
 obtain⟨t',ho⟩:∃t',o.op=.binOp op t x (.const .nilFunc) t':=by
  unfold ME at ho;split at ho
  ·rename_i h1;split at ho
   ·split at ho
    ·cases ho;exact⟨_,h1⟩
    ·cases ho
   ·cases ho
  ·cases ho
 unfold Me at h;split at h
 ·rename_i b hb;split at h
  ·exact⟨_,.QQ .eql t t' x ho (.inl O) (qh h).1 b (SG hb),(qh h).2⟩
  ·exact⟨_,.QQ .neq t t' x ho (.inr O) (qh h).1 b (SG hb),(qh h).2⟩
  ·exact du
 ·exact du
def Ag(P:Program)(H:zo)(ρ:Operand->C)(o:Oper)(K:C->zo->Prop):Prop:=
 match P7 o with
 |some (op,ty,x)=>Mw P H op ty (ρ x) K
 |none=>match P4 o with
  |some (op,ty,x)=>Mp P H op ty (ρ x) K
  |none=>match ME o with
  |some (op,ty,x)=>Me P H op ty (ρ x) K
  |none=>match P5 P ρ o with
  |some (f,args)=>∃R,qF P f H args R/\∀r H',R r H'->K r H'
  |none=>match mapRel H ρ o with
   |true=>jq P o ρ H K
   |false=>match UX o with
    |some t=>match Yr P t with
     |true=>∀b:Nat,yd (H++[nC b [] 0 []]) λH'=>K (.v (.map (some b))) H'
     |false=>∀b:Nat,yd (H++[mC b #[] 0]) λH'=>K (.v (.map (some b))) H'
    |none=>CC P H ρ o K
def Kz{P:Program}{H:zo}{ρ:Operand->C}{o:Oper}{K:C->zo->Prop}(h:Ag P H ρ o K):jq P o ρ H K:=by
 unfold Ag at h;split at h
 ·rename_i op ty x hn;exact zvB hn h
 ·split at h
  ·rename_i op ty x hn;obtain⟨c,h1,h2⟩:=zvZ hn h;exact h1.nO h2
  split at h
  ·rename_i op ty x hn;obtain⟨c,h1,h2⟩:=zxp hn h;exact h1.nO h2
  ·split at h
   ·rename_i f args hn;obtain⟨R,h1,h2⟩:=h;exact jq.call hn (λw E vs hh hl=>(h1 w E vs hh hl).mono λe w' ⟨r,H',v,E',hR,h3⟩=>⟨r,H',v,E',h2 r H' hR,h3⟩)
   split at h
   ·exact h
   split at h
   ·rename_i t hm
    have ho:o.op=.makeMap t none:=by
     unfold UX at hm;split at hm
     ·rename_i ho;split at hm
      ·cases hm;exact ho
      ·cases hm
     ·cases hm
    split at h
    ·exact .zx2 t ho λb=>jJ (h b)
    ·exact .makeMap t ho λb=>jJ (h b)
   ·obtain⟨c,H',h1,h2⟩:=Nh h;exact h1.nO h2
def HF(P:Program)(ops:Array Oper)(o:Oper)(next:List C->zo->(List C->zo->Prop)->Prop)(t:List C)(H:zo)(K:List C->zo->Prop):Prop:=
 match jN ops t o with
 |some true=>Ag P H (ev t) o λc H'=>BL t o.dst c λt=>next t H' K
 |some false=>BL t o.dst .un λt=>next t H K
 |none=>False
def Ak(P:Program)(ops:Array Oper)(l:List Oper):List C->zo->(List C->zo->Prop)->Prop:=
 List.rec (motive:=λ_=>List C->zo->(List C->zo->Prop)->Prop) (λt H K=>K t H) (λo _ next=>HF P ops o next) l
theorem Nz(P:Program)(ops:Array Oper)(o:Oper)(l:List Oper)(t:List C)(H:zo)(K:List C->zo->Prop):Ak P ops (o::l) t H K=HF P ops o (Ak P ops l) t H K:=rfl
section
variable {P:Program} {B:Nat} {ops:Array Oper}
def NA:∀{l:List Oper} {t:List C} {H:zo} {K:List C->zo->Prop},Ak P ops l t H K->kA P B ops l ⟨t,H⟩ λs'=>K s'.tmps s'.H
 |[],t,H,K,h=>.nil h
 |o::l,t,H,K,h=>by
  rw[Nz]at h;unfold HF at h;split at h
  ·rename_i hw;refine .run (s:=⟨t,H⟩) hw (.Fv (s:=⟨t,H⟩) (Kz h)) ?_;rintro s1 ⟨c,H',h1,rfl⟩;exact NA (j5 (k:=λt=>Ak P ops l t H' K) h1)
  ·rename_i hw;exact .pass (s:=⟨t,H⟩) hw (NA (j5 (k:=λt=>Ak P ops l t H K) h))
  ·exact du
abbrev WK:=List C->zo->(Exit->List C->zo->Prop)->Prop
def zEy(x y:WK):WK:=λt H K=>x t H λex t H=>match ex with
 |.normal=>y t H K
 |ex=>K ex t H
def ZA(id:Nat)(c:WK):WK:=λt H K=>c t H λex t H=>match ex with
 |.exit id'=>if id'=id then K .normal t H else K (.exit id') t H
 |ex=>K ex t H
def PT(c:Operand)(x y:WK):WK:=λt H K=>match ev t c with
 |.v (.bool b)=>match b with
  |true=>x t H K
  |false=>y t H K
 |_=>False
noncomputable def readyB(all:List Bool)(ops:List Oper):List Bool->Nat->List Nat:=
 List.rec (motive:=λ_=>List Bool->Nat->List Nat) (λ_ _=>[]) (λo _ ih bs k=>match bs with
  |[]=>[]
  |b::bs=>match b with
   |true=>ih bs (k+1)
   |false=>match o.after.toList.all (λe=>!Region.binds .any e || all.getD e.on false) with
    |true=>k::ih bs (k+1)
    |false=>ih bs (k+1)) ops
noncomputable def bothK(f:Nat->Prop)(l:List Nat):Prop:=List.rec (motive:=λ_=>Prop) True (λi _ ih=>f i/\ih) l
structure AB where
 bl:List Nat:=[]
 keep:List Nat:=[]
 flat:Bool:=false
def XC(T:AB)(H0 H:zo):Prop:=x6 T.keep H0 H/\(T.flat=true->qC H=true)
noncomputable def pickE(bl:List Nat)(ops:Array Oper)(t:List C)(l:List Nat):Option Nat:=
 List.rec (motive:=λ_=>Option Nat) none (λi _ ih=>match ops[i]? with
  |some o=>match yz o || CS bl i with
   |true=>some i
   |false=>match jN ops t o with
    |some b=>match b with
     |true=>ih
     |false=>some i
    |none=>ih
  |none=>ih) l
def Pb(P:Program)(T:AB)(H:zo)(ρ:Operand->C)(o:Oper)(K:C->zo->Prop):Prop:=
 match o.op with
 |.call cl=>match cl.callee with
  |.value x=>match ρ x with
   |.fn f first caps=>bK (qw P f) <| ∃r,(∀H2,XC T H H2->zc P f H2 (first++(cl.args.toList.map λx=>mX (ρ x))++caps) r H2)/\okB r λr=>K r H
   |_=>False
  |_=>False
 |_=>La P T.keep H ρ o K
def nQ(P:Program)(T:AB)(ops:Array Oper)(o:Oper)(k:Nat)(next:List C->zo->(List C->zo->Prop)->Prop)(t:List C)(H:zo)(K:List C->zo->Prop):Prop:=
 match jN ops t o with
 |some true=>match CS T.bl k with
  |true=>Pb P T H (ev t) o λc H'=>BL t o.dst c λt=>next t H' K
  |false=>match yz o with
   |true=>CC P H (ev t) o λc H'=>BL t o.dst c λt=>next t H' K
   |false=>False
 |some false=>BL t o.dst .un λt=>next t H K
 |none=>False
def P3(T:AB)(H H':zo)(k:Prop):Prop:=match T.flat with
 |true=>qC H'=true/\I1 H H' k T.keep
 |false=>I1 H H' k T.keep
def Et(P:Program)(T:AB)(ops:Array Oper)(o:Oper)(next:List C->zo->(List C->zo->Prop)->Prop)(t:List C)(H:zo)(K:List C->zo->Prop):Prop:=
 match jN ops t o with
 |some true=>match I5 o with
  |true=>CC P H (ev t) o λc H'=>BL t o.dst c λt=>next t H' K
  |false=>Ag P H (ev t) o λc H'=>P3 T H H' (BL t o.dst c λt=>next t H' K)
 |some false=>BL t o.dst .un λt=>next t H K
 |none=>False
noncomputable def bruteK(P:Program)(T:AB)(ops:Array Oper)(n:Nat):List Bool->List C->zo->(List C->zo->Prop)->Prop:=
 Nat.rec (motive:=λ_=>List Bool->List C->zo->(List C->zo->Prop)->Prop)
  (λlisted t H K=>match readyB listed ops.toList listed 0 with
   |[]=>K t H
   |_::_=>False)
  (λ_ ih listed t H K=>match readyB listed ops.toList listed 0 with
   |[]=>K t H
   |i::is=>match pickE T.bl ops t (i::is) with
    |some i=>match ops[i]? with
     |some o=>nQ P T ops o i (λt H K=>ih (listed.set i true) t H K) t H K
     |none=>False
    |none=>bothK (λi=>match ops[i]? with
     |some o=>Et P T ops o (λt H K=>ih (listed.set i true) t H K) t H K
     |none=>False) (i::is)) n
def Wq(md:Region.Mode)(ops:Array Oper)(ms:List Nat):Bool:=
 (List.range ops.size).all λi=>(List.range ops.size).all λj=>Nat.beq j i || CN md ops ms i j || match ops[i]?,ops[j]? with
  |some oi,some oj=>(oj.after.any λe=>Region.binds md e && e.on == i) || oi.apart ops oj
  |_,_=>true
def Gp(md:Region.Mode)(ops:Array Oper):Bool:=Wq md ops (BW md ops)
noncomputable def regionK(P:Program)(B:Nat)(ops:Array Oper)(draw:Bool):WK:=λt H K=>match draw with
 |false=>Ak P ops ops.toList t H λt H=>K .normal t H
 |true=>(∃T:An,(P.follows .mixedOrders && Region.lexB .any ops && G6 .any T ops)=true/\BH P T ops ops.toList 0 t H λt H=>K .normal t H)\/
  ∃T:AB,(P.follows .mixedOrders && Gp .any ops)=true/\(T.flat=true->qC H=true)/\∃R:List C->zo->Prop,bruteK P T ops ops.size (ops.toList.map λ_=>false) t H (λt1 H1=>∃t2 H2,zt B ⟨t1,H1⟩ ⟨t2,H2⟩/\R t2 H2)/\∀t2 H2,R t2 H2->K .normal t2 H2
def Tw{all:List Bool}:∀{os:List Oper} {bs:List Bool} {k i:Nat},i∈readyB all os bs k↔∃j o,i=k+j/\os[j]?=some o/\bs[j]?=some false/\o.after.toList.all (λe=>!Region.binds .any e || all.getD e.on false)=true
 |[],bs,k,i=>by simp[readyB]
 |o::os,[],k,i=>by
  have e:readyB all (o::os) [] k=[]:=rfl;rw[e];simp
 |o::os,b::bs,k,i=>by
  have e:readyB all (o::os) (b::bs) k=match b with
   |true=>readyB all os bs (k+1)
   |false=>match o.after.toList.all (λe=>!Region.binds .any e || all.getD e.on false) with
    |true=>k::readyB all os bs (k+1)
    |false=>readyB all os bs (k+1):=rfl
  have ih:=Tw (all:=all) (os:=os) (bs:=bs) (k:=k+1) (i:=i)
  have split:(∃j o',i=k+j/\(o::os)[j]?=some o'/\(b::bs)[j]?=some false/\o'.after.toList.all (λe=>!Region.binds .any e || all.getD e.on false)=true)↔
    (i=k/\b=false/\o.after.toList.all (λe=>!Region.binds .any e || all.getD e.on false)=true)\/i∈readyB all os bs (k+1):=by
   rw[ih];constructor
   ·rintro⟨j,o',h1,h2,h3,h4⟩;cases j with
    |zero=>simp at h2 h3;subst h2;exact .inl ⟨aw,h3,h4⟩
    |succ j=>exact .inr ⟨j,o',aw,aq h2,aq h3,h4⟩
   ·rintro(⟨h1,h2,h3⟩|⟨j,o',h1,h2,h3,h4⟩)
    ·exact⟨0,o,aw,rfl,bH,h3⟩
    ·exact⟨j+1,o',aw,aq h2,aq h3,h4⟩
  rw[split,e];cases b with
  |true=>simp
  |false=>
   dsimp only;split
   ·rename_i h;rw[h];simp only[rO,and_true]
   ·rename_i h;rw[h];simp only[ug,and_false,false_or]
def IE{ops:Array Oper}{listed:Array Bool}(hl:listed.size=ops.size)(i:Nat):i∈Region.ready .any ops listed↔i∈readyB listed.toList ops.toList listed.toList 0:=by
 rw[Tw];unfold Region.ready;rw[iL,sJ]
 have qj:∀o:Oper,o.after.toList.all (λe=>!Region.binds .any e || listed.toList.getD e.on false)=o.after.all (λe=>!Region.binds .any e || listed.getD e.on false):=λo=>by
  rw[<-eV]
  congr 1
  funext e
  rw[sS,rG,rV]
 constructor
 ·rintro⟨h1,h2⟩;rw[pG]at h2;obtain⟨h2,h3⟩:=h2;obtain⟨o,ho⟩:∃o,ops[i]?=some o:=⟨ops[i],aD⟩;rw[ho]at h3;simp only[pM,Option.getD_some]at h3;refine⟨i,o,aw,by rw[rG];exact ho,?_,by rw[qj];exact h3⟩;rw[rG];rw[rV,uf aw]at h2;simp only[Option.getD_some]at h2;rw[uf aw];simpa using h2
 ·rintro⟨j,o,h1,h2,h3,h4⟩;obtain rfl:i=j:=by omega
  rw[rG]at h2 h3;have lu:=(pU.1 h2).1;refine⟨lu,?_⟩;rw[pG];rw[qj]at h4;refine⟨?_,by rw[h2];simpa using h4⟩;rw[rV,h3]
  rfl
def TS{f:Nat->Prop}:∀{l:List Nat},bothK f l->∀i∈l,f i
 |[],_,i,hi=>by cases hi
 |j::l,h,i,hi=>by
  have h:f j/\bothK f l:=h;rcases rO.1 hi with rfl|hi
  ·exact h.1
  ·exact TS h.2 i hi
def jq.zEr{o:Oper}{tmps:List C}{H:zo}{R:C->zo->Prop}{x:C}{dst:Option Tmp}{ops:Array Oper}(h:∀d,dst=some d->d∉o.looksAt ops)(h':jq P o (ev (put tmps dst x)) H R):jq P o (ev tmps) H R:=
 λw E σ hh hl hc K hk=>h' w E σ hh (λy hy=>by rw[Lm (Og h y hy)];exact hl y hy) hc K hk
def jq.PW{o:Oper}{ρ:Operand->C}{H:zo}{R R':C->zo->Prop}(hR:∀c H',R c H'->R' c H')(h:jq P o ρ H R):jq P o ρ H R':=
 λw E σ hh hl hc K hk=>h w E σ hh hl hc K λc H' v w' E' h1=>hk c H' v w' E' (hR c H' h1)
def Dj(P:Program)(ops:Array Oper)(X:zo->Prop)(i:Nat)(K:S->Prop)(s:S):Prop:=
 match ops[i]? with
 |none=>K s
 |some o=>(jN ops s.tmps o=some true/\jq P o (ev s.tmps) s.H λc H'=>X H'/\K ⟨put s.tmps o.dst c,H'⟩)\/(jN ops s.tmps o=some false/\K ⟨put s.tmps o.dst .un,s.H⟩)
def zuf{ops:Array Oper}{X:zo->Prop}{i:Nat}{s:S}{K K':S->Prop}(hX:X s.H)(h:∀s,X s.H->K s->K' s)(hh:Dj P ops X i K s):Dj P ops X i K' s:=by
 unfold Dj at *;split
 ·exact h _ hX (by simpa [*] using hh)
 ·rename_i o ho;simp only[ho]at hh;rcases hh with⟨h1,h2⟩|⟨h1,h2⟩
  ·exact .inl ⟨h1,h2.PW λc H' ⟨h3,h4⟩=>⟨h3,h _ h3 h4⟩⟩
  ·exact .inr ⟨h1,h _ hX h2⟩
def FO(P:Program)(md:Region.Mode)(ops:Array Oper)(X:zo->Prop)(Q:S->Prop):Nat->Array Bool->S->Prop
 |0,listed,s=>Region.ready md ops listed=[]/\Q s
 |fuel+1,listed,s=>(Region.ready md ops listed=[]->Q s)/\∀i∈Region.ready md ops listed,Dj P ops X i (FO P md ops X Q fuel (listed.setIfInBounds i true)) s
def JN{P:Program}{B:Nat}{ops:Array Oper}{md:Region.Mode}{X:zo->Prop}{q:Option Nat}{m:Nat}{H0:zo}{Q:S->Prop}{w0:World}{E0:Env}{Q':Exit->Act->World->Prop}(hQ:∀s w E a,Q s->yS B m w E s a->xk B w0 E0 H0 w E s.H->Q' .normal a w):
  ∀(fuel:Nat) (listed:Array Bool) (s:S) (w:World) (E:Env) (a:Act),yS B m w E s a->xk B w0 E0 H0 w E s.H->FO P md ops X Q fuel listed s->wpAnyIn (fw q) 0 P md ops Q' fuel listed a w
 |0,_,s,w,E,a,hs,hg,h=>⟨h.1,hQ s w E a h.2 hs hg⟩
 |fuel+1,listed,s,w,E,a,hs,hg,h=>⟨λh0=>hQ s w E a (h.1 h0) hs hg,λi hi=>by
   have h1:=h.2 i hi;unfold Dj at h1;unfold wpOpIn;split
   ·rename_i ho;simp only[ho]at h1;exact JN hQ fuel _ s w E a hs hg h1
   ·rename_i o ho;simp only[ho]at h1;rcases h1 with⟨hw,hv⟩|⟨hw,hK⟩
    ·rw[pA (xA hs.tmps hw)];refine Cr.Fv (s:=s) hv q m w E a _ Q' hs λs' w' E' a' hR h2 g2=>?_
     obtain⟨c,H',⟨_,h3⟩,rfl⟩:=hR;exact JN hQ fuel _ _ w' E' a' h2 (hg.trans g2) h3
    ·rw[pw bw];exact⟨λ_ _=>trivial,JN hQ fuel _ ⟨put s.tmps o.dst .un,s.H⟩ w E _ (hs.put .un o.dst) hg hK⟩⟩
def zug{ops:Array Oper}{X:zo->Prop}{j:Nat}{oi oj:Oper}{c:C}(hj:ops[j]?=some oj)(hap:oi.apart ops oj=true){K:S->Prop}{s:S}(hy:YA P ops X oi c s.tmps)
 (h:Dj P ops X j K ⟨put s.tmps oi.dst c,s.H⟩):Dj P ops X j (λs'=>YA P ops X oi c s'.tmps/\K ⟨put s'.tmps oi.dst c,s'.H⟩) s:=by
 obtain⟨h1,h2,h3⟩:=Oper.apart_spec hap;unfold Dj at *;simp only[hj] at *;rcases h with⟨hw,hv⟩|⟨hw,hK⟩
 ·refine .inl ⟨(kM h1) ▸ hw,(hv.PW λc' H' ⟨h4,h5⟩=>⟨h4,(YA.put h3).2 hy,?_⟩).zEr h1⟩;rw[put_comm _ _ h2]at h5;exact h5
 ·refine .inr ⟨(kM h1) ▸ hw,(YA.put h3).2 hy,?_⟩;rw[put_comm _ _ h2]at hK;exact hK
def zqU{ops:Array Oper}{md:Region.Mode}{X:zo->Prop}{Q:S->Prop}{i:Nat}{oi:Oper}{c:C}(hi:ops[i]?=some oi):
  ∀(fuel:Nat) (listed:Array Bool) (s:S),X s.H->
   (∀j oj,ops[j]?=some oj->j≠i->listed.getD j true=false->(∀e∈oj.after,Region.binds md e=true->e.on≠i)->oi.apart ops oj=true)->
   i∈Region.ready md ops listed->YA P ops X oi c s.tmps->
   FO P md ops X Q fuel (listed.setIfInBounds i true) ⟨put s.tmps oi.dst c,s.H⟩->FO P md ops X Q (fuel+1) listed s:=by
 have here:∀(s:S) (K:S->Prop),X s.H->YA P ops X oi c s.tmps->K ⟨put s.tmps oi.dst c,s.H⟩->Dj P ops X i K s:=λs K hX hy hK=>by
  unfold Dj;simp only[hi];rcases hy with⟨h1,h2⟩|⟨h1,rfl⟩
  ·exact .inl ⟨h1,(h2 s.H hX).nO ⟨hX,hK⟩⟩
  ·exact .inr ⟨h1,hK⟩
 intro fuel
 induction fuel with
 |zero=>
  intro listed s hX _ hr hy H;refine⟨λh=>bz,λj hj=>?_⟩;by_cases hji:j=i
  ·subst hji;exact here s _ hX hy H
  ·have:=ready_mono hj hji;rw[H.1]at this;cases this
 |succ fuel ih=>
  intro listed s hX hfree hr hy H;refine⟨λh=>bz,λj hj=>?_⟩;by_cases hji:j=i
  ·subst hji;exact here s _ hX hy H
  ·have h1:=H.2 j (ready_mono hj hji);obtain⟨hjun,oj,hoj,qj⟩:=mem_ready.1 hj
   have hnot:∀e∈oj.after,Region.binds md e=true->e.on≠i:=λe he hb heq=>by
    have h1:=qj e he hb;have h0:=(mem_ready.1 hr).1;rw[heq]at h1;rcases sd i listed.size with h'|h'
    ·simp[h']at h0 h1;rw[h0]at h1;cases h1
    ·simp[u6 h']at h1
   have hap:=hfree j oj hoj hji hjun hnot;have h2:=zug hoj hap hy h1
   have hfree':∀k ok,ops[k]?=some ok->k≠i->(listed.setIfInBounds j true).getD k true=false->
     (∀e∈ok.after,Region.binds md e=true->e.on≠i)->oi.apart ops ok=true:=λk ok hk hki hun hno=>by
    refine hfree k ok hk hki ?_ hno;by_cases hjk:j=k
    ·subst hjk;exact hjun
    ·rw[getD_set_ne true hjk]at hun;exact hun
   refine zuf hX (λs' hX' ⟨h3,h4⟩=>ih (listed.setIfInBounds j true) s' hX' hfree' (ready_mono hr (Ne.symm hji)) h3 ?_) h2;rw[ib _ _ hji];exact h4
def zk6{md:Region.Mode}{ops:Array Oper}(h:Gp md ops=true){i j:Nat}{oi oj:Oper}(hi:ops[i]?=some oi)(hj:ops[j]?=some oj)(hne:j≠i)(hd:CN md ops (BW md ops) i j=false)
 (hno:∀e∈oj.after,Region.binds md e=true->e.on≠i):oi.apart ops oj=true:=by
 simp only[Gp,Wq,pH,sJ]at h;have h1:=h i (pU.1 hi).1 j (pU.1 hj).1
 have hb:Nat.beq j i=false:=by
  cases hb:Nat.beq j i with
  |false=>rfl
  |true=>exact absurd (Nat.eq_of_beq_eq_true hb) hne
 simp only[hb,hd,uc,hi,hj,sB]at h1;rcases h1 with h1|h1
 ·obtain⟨e,hem,hb⟩:=Array.any_eq_true'.1 h1;simp only[pG,rJ]at hb;exact absurd hb.2 (hno e hem hb.1)
 ·exact h1
def XC.trans{T:AB}{H H' H'':zo}(h:XC T H H')(h':XC T H' H''):XC T H H'':=⟨h.1.trans h'.1,h'.2⟩
def XC.back{T:AB}{H H' H'':zo}(h:XC T H H')(h':XC T H H''):XC T H' H'':=⟨λid hi=>(h'.1 id hi).trans (h.1 id hi).symm,h'.2⟩
def zoK{T:AB}{o:Oper}{ρ:Operand->C}{H:zo}{K:C->zo->Prop}(h:Pb P T H ρ o K):∃c,(∀H2,XC T H H2->lS P o ρ H2 c H2)/\K c H:=by
 unfold Pb at h;split at h
 ·rename_i cl ho;split at h
  ·rename_i x hcl;split at h
   ·rename_i f first caps hf;obtain⟨h1,r,h2,h3⟩:=qh h;exact⟨r,λH2 hx=>.PS cl ho x hcl hf h1 (h2 H2 hx),jR (k:=λc=>K c H) h3⟩
   ·exact du
  ·exact du
 ·obtain⟨c,h1,h2⟩:=Sf h;exact⟨c,λH2 hx=>h1 H2 hx.1,h2⟩
def zsX{T:AB}{H0 H H':zo}{k:Prop}(hX:XC T H0 H)(h:P3 T H H' k):XC T H0 H'/\k:=by
 unfold P3 at h;split at h
 ·obtain⟨h1,h2⟩:=J5 h.2;exact⟨⟨hX.1.trans h1,λ_=>h.1⟩,h2⟩
 ·rename_i hf;obtain⟨h1,h2⟩:=J5 h;exact⟨⟨hX.1.trans h1,λh=>by rw[hf]at h;cases h⟩,h2⟩
def Ka{bl:List Nat}{ops:Array Oper}{t:List C}:∀{l:List Nat} {i:Nat},pickE bl ops t l=some i->i∈l
 |[],i,h=>by cases h
 |j::l,i,h=>by
  have h:(match ops[j]? with
   |some o=>match yz o || CS bl j with
    |true=>some j
    |false=>match jN ops t o with
     |some b=>match b with
      |true=>pickE bl ops t l
      |false=>some j
     |none=>pickE bl ops t l
   |none=>pickE bl ops t l)=some i:=h
  split at h
  ·split at h
   ·cases h;exact r7 ..
   ·split at h
    ·split at h
     ·exact r8 _ (Ka h)
     ·cases h;exact r7 ..
    ·exact r8 _ (Ka h)
  ·exact r8 _ (Ka h)
def Nk{T:AB}{ops:Array Oper}{H0:zo}{K:List C->zo->Prop}(hap:Gp .any ops=true):
  ∀(fuel:Nat) (listed:Array Bool) (t:List C) (H:zo),Down .any ops listed->listed.size=ops.size->XC T H0 H->bruteK P T ops fuel listed.toList t H K->
   FO P .any ops (XC T H0) (λs=>K s.tmps s.H) fuel listed ⟨t,H⟩
 |0,listed,t,H,hd,hl,hX,h=>by
  have h:match readyB listed.toList ops.toList listed.toList 0 with
   |[]=>K t H
   |_::_=>False:=h
  split at h
  ·rename_i hr;refine⟨?_,h⟩;rw[iM];intro i hi;have:=(IE hl i).1 hi;rw[hr]at this;cases this
  ·exact du
 |fuel+1,listed,t,H,hd,hl,hX,h=>by
  have h:match readyB listed.toList ops.toList listed.toList 0 with
   |[]=>K t H
   |i::is=>match pickE T.bl ops t (i::is) with
    |some i=>match ops[i]? with
     |some o=>nQ P T ops o i (λt H K=>bruteK P T ops fuel (listed.toList.set i true) t H K) t H K
     |none=>False
    |none=>bothK (λi=>match ops[i]? with
     |some o=>Et P T ops o (λt H K=>bruteK P T ops fuel (listed.toList.set i true) t H K) t H K
     |none=>False) (i::is):=h
  split at h
  ·rename_i hr
   have h0:Region.ready .any ops listed=[]:=by
    rw[iM];intro i hi;have:=(IE hl i).1 hi;rw[hr]at this;cases this
   exact⟨λ_=>h,λi hi=>by rw[h0]at hi;cases hi⟩
  ·rename_i j js hr;have hset:∀i,(listed.setIfInBounds i true).toList=listed.toList.set i true:=λi=>by simp
   have hsz:∀i,(listed.setIfInBounds i true).size=ops.size:=λi=>by simpa using hl
   split at h
   ·rename_i i hp;have hi:i∈Region.ready .any ops listed:=(IE hl i).2 (by rw[hr];exact Ka hp);split at h
    rotate_left
    ·exact du
    rename_i o ho
    have go:∀c,YA P ops (XC T H0) o c t->bruteK P T ops fuel (listed.toList.set i true) (put t o.dst c) H K->FO P .any ops (XC T H0) (λs=>K s.tmps s.H) (fuel+1) listed ⟨t,H⟩:=λc hy hb=>
     zqU ho fuel listed ⟨t,H⟩ hX (λj oj hj hne hun hno=>zk6 hap ho hj hne (by
       cases hdp:CN .any ops (BW .any ops) i j with
       |false=>rfl
       |true=>
        have h1:=hd.ready hi hdp;rcases sd j listed.size with h'|h'
        ·simp[h']at h1 hun;rw[h1]at hun;cases hun
        ·simp[u6 h']at h1) hno) hi hy
      (Nk hap fuel _ _ _ (hd.step hi) (hsz i) hX (by rw[hset];exact hb))
    unfold nQ at h;split at h
    ·rename_i hw;split at h
     ·obtain⟨c,h1,h2⟩:=zoK h;exact go c (.inl ⟨hw,λH2 h3=>h1 H2 (hX.back h3)⟩) (j5 (k:=λt=>bruteK P T ops fuel (listed.toList.set i true) t H K) h2)
     ·split at h
      ·rename_i hb;obtain⟨c,h1,h2⟩:=Sk hb h;exact go c (.inl ⟨hw,λH2 _=>h1 H2⟩) (j5 (k:=λt=>bruteK P T ops fuel (listed.toList.set i true) t H K) h2)
      ·exact du
    ·rename_i hw;exact go .un (.inr ⟨hw,rfl⟩) (j5 (k:=λt=>bruteK P T ops fuel (listed.toList.set i true) t H K) h)
    ·exact du
   ·have hne:Region.ready .any ops listed≠[]:=λh0=>by
     have:j∈readyB listed.toList ops.toList listed.toList 0:=by rw[hr];exact r7 ..
     have:=(IE hl j).2 this;rw[h0]at this;cases this
    refine⟨λh0=>absurd h0 hne,λi hi=>?_⟩;have hi2:=(IE hl i).1 hi;rw[hr]at hi2;have h1:=TS h i hi2;split at h1
    rotate_left
    ·exact h1.elim
    rename_i o ho;unfold Dj;rw[ho];dsimp only
    have next:∀t' H',XC T H0 H'->bruteK P T ops fuel (listed.toList.set i true) t' H' K->FO P .any ops (XC T H0) (λs=>K s.tmps s.H) fuel (listed.setIfInBounds i true) ⟨t',H'⟩:=λt' H' hX' hb=>
     Nk hap fuel _ _ _ (hd.step hi) (hsz i) hX' (by rw[hset];exact hb)
    unfold Et at h1;split at h1
    ·rename_i hw;refine .inl ⟨hw,?_⟩;split at h1
     ·rename_i hlo;obtain⟨c,h2,h3⟩:=Tn hlo h1;exact h2.nO ⟨hX,next _ _ hX (j5 (k:=λt=>bruteK P T ops fuel (listed.toList.set i true) t H K) h3)⟩
     ·refine(Kz h1).PW λc H' h2=>?_
      obtain⟨h3,h4⟩:=zsX hX h2;exact⟨h3,next _ _ h3 (j5 (k:=λt=>bruteK P T ops fuel (listed.toList.set i true) t H' K) h4)⟩
    ·rename_i hw;exact .inr ⟨hw,next _ _ hX (j5 (k:=λt=>bruteK P T ops fuel (listed.toList.set i true) t H K) h1)⟩
    ·exact h1.elim
def jh.zDx{P:Program}{B:Nat}{ops:Array Oper}{id:Nat}{t:List C}{H:zo}{R:Exit->S->Prop}{R':List C->zo->Prop}{T:AB}(hm:P.follows .mixedOrders=true)(hap:Gp .any ops=true)(hf:T.flat=true->qC H=true)
 (h:bruteK P T ops ops.size (ops.toList.map λ_=>false) t H (λt1 H1=>∃t2 H2,zt B ⟨t1,H1⟩ ⟨t2,H2⟩/\R' t2 H2))(hR:∀t2 H2,R' t2 H2->R .normal ⟨t2,H2⟩):jh P B (.region id ops true) ⟨t,H⟩ R:=λq m w E a Q _ hs hq=>by
 refine wpIn_region_any hm (JN (X:=XC T H) (H0:=H) (Q:=λs=>∃t2 H2,zt B s ⟨t2,H2⟩/\R' t2 H2) (w0:=w) (E0:=E) (λs1 w1 E1 a1 he h1 g1=>?_) _ _ ⟨t,H⟩ _ E a hs.drew ((Grow.drew w E H).nD tD) ?_)
 ·obtain⟨t2,H2,hw,hR2⟩:=he;obtain⟨E2,h2,g2⟩:=hw m w1 E1 a1 h1;exact hq _ _ w1 E2 a1 (hR t2 H2 hR2) h2 (g1.trans g2)
 ·have e:(Array.replicate ops.size false).toList=ops.toList.map λ_=>false:=by
   rw[Array.toList_replicate,List.map_const'];simp
  refine Nk (K:=λt1 H1=>∃t2 H2,zt B ⟨t1,H1⟩ ⟨t2,H2⟩/\R' t2 H2) hap _ _ _ _ Down.start aj ⟨.refl _ _,hf⟩ ?_;rw[e];exact h
structure Ea(P:Program)(B:Nat)(c:Code)(t:List C)(H:zo)(K:Exit->List C->zo->Prop):Prop where
 out:zW P B c ⟨t,H⟩ λex s=>K ex s.tmps s.H
def Z1(P:Program)(B:Nat)(c:Code):WK:=λt H K=>Ea P B c t H K
def PE(P:Program)(B:Nat)(g:Operand)(ps:Array Tmp)(assign body:Code):WK:=λt H K=>match ev t g with
 |.fn f first caps=>bK (qw P f && first.isEmpty) <| ∃H0,zt B ⟨t,H⟩ ⟨t,H0⟩/\∃ex t' H',(∀(l:Nat) (r:Loop),r.state=.ready->r.pending=none->r.params=ps->r.assign=assign->r.body=body->
   ∃(rr:C) (Hf:zo) (rf:Loop),zc P f (H0++[nn l r t]) (.v (.func (.yield l) #[] #[])::caps) rr Hf/\Hf[H0.length]?=some (nn l rf t)/\rf.state≠.busy/\rf.tmps=r.tmps/\B<=Hf.length/\Rh rf.pending ex/\
    zt B ⟨t,Hf.set H0.length (nn l {rf with state:=.exhausted} t)⟩ ⟨t',H'⟩)/\K ex t' H'
 |_=>False
structure Bz(P:Program)(B:Nat)(c:Code)(l:Nat)(t:List C)(H:zo)(K:Exit->List C->zo->Prop):Prop where
 out:FF P B c (λex s=>K ex s.tmps s.H) l ⟨t,H⟩
def Za(P:Program)(B:Nat)(c:Code)(x:WK):WK:=λt H K=>x t H λex t H=>match ex with
 |.goto l=>Bz P B c l t H K
 |ex=>K ex t H
def oZ:WK:=λ_ _ _=>False
noncomputable def wpA(P:Program)(B:Nat)(c:Code):WK:=
 Code.rec (motive:=λ_=>WK) (λt H K=>K .normal t H) (λ_ ops draw=>regionK P B ops draw) (λ_ _ x y=>zEy x y) (λc _ _ x y=>PT c x y) (λid _ x=>ZA id x) (λc _=>Z1 P B c)
  (λg ps assign body _ _=>PE P B g ps assign body) (λid t H K=>K (.exit id) t H) (λc x=>Za P B c x) (λ_ t H K=>K .normal t H) (λl t H K=>K (.goto l) t H) (λt H K=>K .ret t H) (λ_=>oZ) c
def jU:∀{c:Code} {t:List C} {H:zo} {K:Exit->List C->zo->Prop},wpA P B c t H K->jh P B c ⟨t,H⟩ λex s=>K ex s.tmps s.H:=by
 intro c
 induction c with
 |skip=>intro t H K h;exact .skip h
 |exit id=>intro t H K h;exact .exit id h
 |ret=>intro t H K h;exact .ret h
 |label l=>intro t H K h;exact .label l h
 |seq x y ihx ihy=>
  intro t H K h;refine .seq ((ihx (t:=t) (H:=H) (K:=λex t H=>match ex with|.normal=>wpA P B y t H K|ex=>K ex t H) h).mono λex s1 h1=>?_);cases ex with
  |normal=>exact ihy h1
  |_=>exact h1
 |block id c ih=>
  intro t H K h;refine .block ((ih (t:=t) (H:=H) (K:=λex t H=>match ex with|.exit id'=>if id'=id then K .normal t H else K (.exit id') t H|ex=>K ex t H) h).mono λex s1 h1=>?_);cases ex with
  |exit id'=>exact h1
  |_=>exact h1
 |scope c ih=>
  intro t H K h;refine .Y9 ((ih (t:=t) (H:=H) (K:=λex t H=>match ex with|.goto l=>Bz P B c l t H K|ex=>K ex t H) h).mono λex s1 h1=>?_);cases ex with
  |goto l=>exact(show Bz P B c l s1.tmps s1.H K from h1).out
  |_=>exact h1
 |goto l=>intro t H K h;exact .goto l h
 |cond c x y ihx ihy=>
  intro t H K h
  change PT c (wpA P B x) (wpA P B y) t H K at h
  unfold PT at h;split at h
  ·rename_i b hb;cases b with
   |true=>exact .cond (s:=⟨t,H⟩) hb (ihx h)
   |false=>exact .cond (s:=⟨t,H⟩) hb (ihy h)
  ·exact du
 |region id ops draw=>
  intro t H K h;cases draw with
  |false=>exact .region (NA (show Ak P ops ops.toList t H (λt H=>K .normal t H) from h))
  |true=>
   rcases(show(∃T:An,(P.follows .mixedOrders && Region.lexB .any ops && G6 .any T ops)=true/\BH P T ops ops.toList 0 t H λt H=>K .normal t H)\/
    ∃T:AB,(P.follows .mixedOrders && Gp .any ops)=true/\(T.flat=true->qC H=true)/\∃R:List C->zo->Prop,bruteK P T ops ops.size (ops.toList.map λ_=>false) t H (λt1 H1=>∃t2 H2,zt B ⟨t1,H1⟩ ⟨t2,H2⟩/\R t2 H2)/\∀t2 H2,R t2 H2->K .normal t2 H2 from h) with h|⟨T,hm,hf,R,h1,h2⟩
   rotate_left
   ·rw[pG]at hm;exact jh.zDx hm.1 hm.2 hf h1 h2
   obtain⟨T,h1,h2⟩:=h;simp only[pG]at h1;obtain⟨s',h3,h4⟩:=Run.ZV (B:=B) (id:=id) h1.1.1 h1.1.2 h1.2 h2;exact jh.mono h3 λex s1 ⟨e1,e2⟩=>by subst e1 e2;exact h4
 |loop c ih=>intro t H K h;exact .loop (show Ea P B c t H K from h).out
 |rangeFunc g ps assign body=>
  intro t H K h
  change PE P B g ps assign body t H K at h
  unfold PE at h;split at h
  ·rename_i f first caps hg;obtain⟨h1,H0,h0,ex,t',H',h2,h3⟩:=qh h;simp only[pG,iZ]at h1;obtain⟨h1,rfl⟩:=h1;refine .pre h0 (.rangeFunc hg h1 λl r a1 a2 a3 a4 a5=>?_);obtain⟨rr,Hf,rf,b1,b2,b3,b4,b5,b6,b7⟩:=h2 l r a1 a2 a3 a4 a5;exact⟨rr,Hf,rf,ex,⟨t',H'⟩,b1,b2,b3,b4,b5,b6,b7,h3⟩
  ·exact du
 |_=>intro t H K h;exact(show False from h).elim
def Bz.go{c rest:Code}{l:Nat}{t:List C}{H:zo}{K:Exit->List C->zo->Prop}(hf:findLabel c l=some rest)
 (h:wpA P B rest t H λex t H=>match ex with|.goto l=>Bz P B c l t H K|ex=>K ex t H):Bz P B c l t H K:=by
 refine⟨.mk _ hf (jU h) (λe s h1 he=>?_) λl s h1=>(show Bz P B c l s.tmps s.H K from h1).out⟩;cases e with
 |goto l=>exact absurd O (he l)
 |_=>exact h1
def xd.zM{H1 H':zo}{id l:Nat}{r:Loop}{t:List C}{args:List C}{rv:Bool}{ps:Array Tmp}{assign body:Code}(hob:H1[id]?=some (nn l r t))(hst:r.state=.ready)(hpe:r.pending=none)(hps:r.params=ps)(ha:r.assign=assign)(hb:r.body=body)
 (hn:args.length=ps.size)(hna:yp assign=false)(hnb:yp body=false)
 (h:wpA P H1.length assign (FR t ps.toList args) H1 λe t1 H1'=>e=.normal/\H1'[id]?=some (nn l r t)/\wpA P H1.length body t1 (H1'.set id (nn l (busy r) t)) λe t2 H2=>
   ∃t3 H3,zt H1.length ⟨t2,H2⟩ ⟨t3,H3⟩/\WD id l r t rv H' e H3):
  xd P l H1 args (.v (.bool rv)) H':=by
 subst hps ha hb;refine xd.Ci hob hst hpe hn hna hnb ((jU h).mono λe s1 ⟨h1,h2,h3⟩=>⟨h1,h2,(jU h3).mono λe s2 ⟨t3,H3,h4,h5⟩=>⟨⟨t3,H3⟩,h4,h5⟩⟩)
def zW.inv{c:Code}{t:List C}{H:zo}{K:Exit->List C->zo->Prop}(I:Nat->List C->zo->Prop)(n:Nat)(h0:∃t0 H0,zt B ⟨t,H⟩ ⟨t0,H0⟩/\I n t0 H0)
 (step:∀n t H,I n t H->wpA P B c t H λe t1 H1=>(e=.normal/\∃m t2 H2,m<n/\zt B ⟨t1,H1⟩ ⟨t2,H2⟩/\I m t2 H2)\/(e≠.normal/\K e t1 H1)):
  Ea P B c t H K:=by
 obtain⟨t0,H0,hw,hI⟩:=h0;refine⟨.pre hw ?_⟩
 suffices key:∀n t H,I n t H->oY P B c (n+1) ⟨t,H⟩ λex s=>K ex s.tmps s.H from⟨n+1,key n t0 H0 hI⟩
 intro n
 induction n using Nat.strongRecOn with
 |_ n ih=>
  intro t H hI;refine .step ((jU (step n t H hI)).post λex s1 h1=>?_);rcases h1 with⟨rfl,m,t2,H2,hm,hw2,hI2⟩|⟨hne,hK⟩
  ·exact⟨⟨t2,H2⟩,hw2,(oY.more aw (ih m hm t2 H2 hI2):oY P B c n ⟨t2,H2⟩ _)⟩
  ·refine⟨s1,.refl s1,?_⟩;cases ex with
   |normal=>exact absurd O hne
   |_=>exact hK
def zc.zM{f:FuncId}{fn:Func}{c:Code}{H H':zo}{args:List C}{r:C}(hf:P.funcs[f]?=some fn)(hb:fn.body=some c)
 (h:wpA P H.length c (entry fn args) H λex t1 H1=>(ex=.ret\/ex=.normal)/\∃s2,zt H.length ⟨t1,H1⟩ s2/\s2.H=H'/\kJ P fn s2=some r):zc P f H args r H':=
 qF.at (qF.Ci hf hb ((jU h).mono λex s1 ⟨hex,s2,hw,h2,h3⟩=>⟨hex,s2,r,hw,h3,rfl,h2⟩))
def qF.zM{f:FuncId}{fn:Func}{c:Code}{H:zo}{args:List C}{R:C->zo->Prop}(hf:P.funcs[f]?=some fn)(hb:fn.body=some c)
 (h:wpA P H.length c (entry fn args) H λex t1 H1=>(ex=.ret\/ex=.normal)/\∃s2 r,zt H.length ⟨t1,H1⟩ s2/\kJ P fn s2=some r/\R r s2.H):qF P f H args R:=
 qF.Ci hf hb (jU h)
def zc.OJ{f:FuncId}{fn:Func}{c:Code}{args:List C}{r:C}(hf:P.funcs[f]?=some fn)(hb:fn.body=some c)
 (h:wpA P 0 c (entry fn args) [] λex t1 H1=>(ex=.ret\/ex=.normal)/\∃s2,zt 0 ⟨t1,H1⟩ s2/\kJ P fn s2=some r)(hr:jv 0 9 r=true):zc P f [] args r []:=
 qF.close (R:=λc=>c=r) (qF.Ci (H:=[]) (R:=λc _=>c=r) hf hb ((jU h).mono λex s1 ⟨hex,s2,hw,h2⟩=>⟨hex,s2,r,hw,h2,rfl⟩)) λc h=>⟨h,hr⟩
end
def qi{n:Int}(h0: -9223372036854775808<=n)(h1:n<=9223372036854775807):IntKind.i64.wrap n=n:=IntWalk.i64_in n ⟨h0,h1⟩
def zy{n:Nat}(h:n<9223372036854775807):IntKind.i64.wrap ((n:Int)+1)=((n+1:Nat):Int):=by rw[qi aw aw];rfl
section
variable {P:Program} {f:FuncId} {H H':zo}
def zc.pre{args args':List C}{r:C}(h:zc P f H args' r H')(hw:nJ args args'):zc P f H args r H':=λw E vs hh hl=>h w E vs hh (hw.LL hl)
def zc.post{args:List C}{r r':C}(h:zc P f H args r H')(hw:WC r r'):zc P f H args r' H':=λw E vs hh hl=>(h w E vs hh hl).mono λe w' ⟨v,E',h1,h2,h3,h4⟩=>⟨v,E',h1,h2,hw E' v h3,h4⟩
def toNat_cast(n:Nat):((n:Int)).toNat=n:=by simp
end
def Ky{P:Program}{f:FuncId}{vs:Array Value}{v:Value}{args:List C}{r:C}(H:zo)(hc:∀w,Calls P f vs w λe w'=>e=.returned v/\w'=w)(ha:∀E (us:Array Value),LL E args us.toList->us=vs)(hr:∀E,L E r v):zc P f H args r H:=λw E us hh hl=>by
 obtain rfl:=ha E us hl;refine(hc w).mono ?_;rintro e w' ⟨rfl,rfl⟩;exact⟨v,E,rfl,hh,hr E,Grow.refl _ _ _⟩
def zDt{a:Value}(E:Env)(us:Array Value)(h:LL E [.v a] us.toList):us= #[a]:=by
 obtain⟨l⟩:=us
 match l,h with
 |[],h=>have:=h.1;simp at this
 |[x],h=>
  obtain⟨h1,_⟩:=h.cons_inv;cases h1;rfl
 |_::_::_,h=>have:=h.1;simp at this
def PR{a b:Value}(E:Env)(us:Array Value)(h:LL E [.v a,.v b] us.toList):us= #[a,b]:=by
 obtain⟨l⟩:=us
 match l,h with
 |[],h=>have:=h.1;simp at this
 |[_],h=>have:=h.1;simp at this
 |[x,y],h=>
  obtain⟨h1,h2⟩:=h.cons_inv;obtain⟨h2,_⟩:=h2.cons_inv;cases h1;cases h2;rfl
 |_::_::_::_,h=>have:=h.1;simp at this
def yO{α:Type}{l:List α}{t:Nat}{y:α}(h:l[t]?=some y):l.set t y=l:=by
 apply rp
 intro i;rw[pK];split
 ·rename_i e;subst e;obtain⟨h1,h2⟩:=gZ.1 h;rw[pA h1,h]
 ·rfl
section
variable {B:Nat} {s:S}
def qv.freeze{w:World}{E:Env}{H:zo}(h:qv w E H){id:Nat}{ob:Ob}(hob:H[id]?=some ob)(hk:ob.kind=2)(hno:∀i k c,cellAt ob.rows i k=some c->zB c=true):
  ∃E',E.le E'/\qv w E' (H.modify id λob=>⟨ob.kind,ob.ty,ob.sz,ob.rows,ob.rows.length⟩)/\(∀b o u,E'.St b o=some u->E.St b o=some u\/b=E.β id [])/\E'.β=E.β/\E'.G=E.G/\
   ∀i k c,cellAt ob.rows i k=some c->∃u,E'.St (E.β id []) (i*ob.sz+k)=some u/\L E'.shut c u:=by
 have hgb:qm H id []=some (ob.sz,ob.rows):=by unfold qm;rw[hob];simp[hk,jt]
 have hB:=h.lZ id ob [] _ _ hob hgb;obtain⟨cur,e,hg,hcs,hcell⟩:=hB.lZ
 have key:∀o,o<ob.rows.length*ob.sz->∃u,cur[o]?=some u/\u.oneCell'=true/\w.cell? ⟨E.β id [],o,none⟩=some u:=by
  intro o ho;obtain⟨h1,h2,h3⟩:=MV ho;obtain⟨c,hc⟩:=JR hB.row h1 h2;obtain⟨u,hu,hok⟩:=hcell _ _ c hc;rw[jx.loose (hno _ _ c hc)]at hok;rw[h3]at hu;exact⟨u,hu,hok.2,by unfold World.cell?;rw[hg];simpa using hu⟩
 obtain⟨E',hE'⟩:∃E':Env,E'={E with St:=λb o=>if b=E.β id []/\o<ob.rows.length*ob.sz then cur[o]? else E.St b o}:=⟨_,rfl⟩
 have hle:E.le E':=by
  subst hE';refine⟨pI _,λ_ _ _=>O,λ_ _ _=>O,λb o u hu=>?_,λ_ _ _ _ hu=>hu⟩;show(if b=E.β id []/\o<ob.rows.length*ob.sz then cur[o]? else E.St b o)=some u;split
  ·rename_i hc;obtain⟨rfl,ho⟩:=hc;obtain⟨u',h1,_,h2⟩:=key o ho;have:=(h.qJ _ _ _ hu).1;rw[h2]at this;rw[h1,<-this]
  ·exact hu
 have hSt:∀b o u,E'.St b o=some u->E.St b o=some u\/(b=E.β id []/\o<ob.rows.length*ob.sz/\cur[o]?=some u):=by
  subst hE';intro b o u hu
  change (if b=E.β id []/\o<ob.rows.length*ob.sz then cur[o]? else E.St b o)=some u at hu
  split at hu
  ·rename_i hc;exact .inr ⟨hc.1,hc.2,hu⟩
  ·exact .inl hu
 have hβ:E'.β=E.β:=by subst hE';rfl
 have hn:E'.n=E.n:=by subst hE';rfl
 have get:∀id' hops x,qm (H.modify id λob=>⟨ob.kind,ob.ty,ob.sz,ob.rows,ob.rows.length⟩) id' hops=some x->qm H id' hops=some x:=by
  intro id' hops x hx;obtain⟨ob',ho',hk',hg'⟩:=jP hx;rw[sa]at ho';cases hx':H[id']? with
  |none=>rw[hx']at ho';cases ho'
  |some ob0=>
   rw[hx']at ho';simp only[uj,pM,p9]at ho';unfold qm;rw[hx'];split at ho'
   ·subst ho';simp only[hk',if_true];exact hg'
   ·subst ho';simp only[hk',if_true];exact hg'
 have obs:∀(id':Nat) (ob':Ob),(H.modify id λob=>⟨ob.kind,ob.ty,ob.sz,ob.rows,ob.rows.length⟩)[id']?=some ob'->∃ob0,H[id']?=some ob0/\ob'.kind=ob0.kind/\ob'.ty=ob0.ty/\ob'.sz=ob0.sz/\ob'.rows=ob0.rows/\ob0.fz<=ob'.fz/\ob'.fz<=ob'.rows.length/\(id'=id->ob'.fz=ob0.rows.length):=by
  intro id' ob' ho';rw[sa]at ho';cases hx':H[id']? with
  |none=>rw[hx']at ho';cases ho'
  |some ob0=>
   rw[hx']at ho';simp only[uj,pM,p9]at ho';have:=h.fz id' ob0 hx';split at ho'
   ·subst ho';exact⟨ob0,rfl,rfl,rfl,rfl,rfl,this,pI _,λ_=>O⟩
   ·rename_i hne;subst ho';exact⟨ob0,rfl,rfl,rfl,rfl,rfl,pI _,this,λe=>absurd e.symm hne⟩
 refine⟨E',hle,⟨by rw[hn,h.n];simp,?_,?_,?_,?_,?_,?_⟩,λb o u hu=>(hSt b o u hu).imp_right (·.1),hβ,by subst hE';rfl,?_⟩
 ·intro id' ob' hops sz rows hob' hx;obtain⟨ob0,h1,h2,_⟩:=obs id' ob' hob';have hx':=get _ _ _ hx;rw[h2];exact(h.lZ id' ob0 hops sz rows h1 hx').step hle (by rw[h.n];exact Fo hx') O
 ·intro id1 p1 id2 p2 x y hx hy he;rw[hβ]at he;exact h.inj id1 p1 id2 p2 x y (get _ _ _ hx) (get _ _ _ hy) he
 ·intro b o u hu;rcases hSt b o u hu with h1|⟨rfl,h2,h3⟩
  ·exact h.qJ b o u h1
  ·obtain⟨u',h4,h5,h6⟩:=key o h2;rw[h3]at h4;cases h4
   exact⟨h6,h5⟩
 ·intro id' hops x o u hx hu;have hx':=get _ _ _ hx;rw[hβ]at hu;obtain⟨ob1,ho1,_,_⟩:=jP hx;obtain⟨ob0,h1,h2,h3,h4,h5,h6,h7,h8⟩:=obs id' ob1 ho1;rcases hSt _ o u hu with h9|⟨h9,h10,_⟩
  ·obtain⟨e1,ob2,e2,e3⟩:=h.sep id' hops x o u hx' h9;rw[h1]at e2;cases e2
   exact⟨e1,ob1,ho1,by rw[h4];exact rU e3 (sC _ h6)⟩
  ·obtain⟨rfl,rfl⟩:=h.inj id' hops id [] x _ hx' hgb h9;rw[hob]at h1;cases h1
   exact⟨rfl,ob1,ho1,by rw[h8 O,h4];exact h10⟩
 ·intro id' ob' hob' hk';obtain⟨ob0,h1,h2,h3,_⟩:=obs id' ob' hob';obtain⟨cur',hc⟩:=h.ty id' ob0 h1 (by rw[<-h2];exact hk');exact⟨cur',by rw[hβ,h3];exact hc⟩
 ·intro id' ob' hob';obtain⟨ob0,h1,h2,h3,h4,h5,h6,h7,h8⟩:=obs id' ob' hob';exact h7
 ·intro i k c hc;obtain⟨u,hu,hok⟩:=hcell i k c hc;rw[jx.loose (hno _ _ c hc)]at hok;obtain⟨h1,h2⟩:=Kl hB.row hc
  have lu:i*ob.sz+k<ob.rows.length*ob.sz:=by
   have:(i+1)*ob.sz<=ob.rows.length*ob.sz:=sC _ h1;rw[sL]at this;omega
  refine⟨u,?_,?_⟩
  ·subst hE';show(if E.β id []=E.β id []/\i*ob.sz+k<ob.rows.length*ob.sz then cur[i*ob.sz+k]? else _)=some u;rw[pA ⟨rfl,lu⟩];exact hu
  ·have h3:=hok.1;simp only[Env.at,hk,if_true]at h3;exact h3.mono hle.shut
def zt.freeze(t:Nat){id sz lo len:Nat}{full:Bool}{ob:Ob}(ht:s.tmps[t]?=some (.sl id [] sz lo len full))(hob:s.H[id]?=some ob)(hk:ob.kind=2)(hsz:ob.sz=sz)(hlen:lo+len<=ob.rows.length)
 (hno:∀r∈ob.rows,∀c∈r,zB c=true):
  zt B s ⟨s.tmps.set t (.lq (if full then 1 else 0) sz ((ob.rows.drop lo).take len)),s.H.modify id λob=>⟨ob.kind,ob.ty,ob.sz,ob.rows,ob.rows.length⟩⟩:=λm w E a hs=>by
 subst hsz
 have hno':∀i k c,cellAt ob.rows i k=some c->zB c=true:=λi k c hc=>by
  unfold cellAt at hc;cases hx:ob.rows[i]? with
  |none=>rw[hx]at hc;cases hc
  |some r=>rw[hx]at hc;exact hno r (pq hx) c (pq hc)
 obtain⟨E',hle,hR,hnew,hβ,hKG0,hcells⟩:=hs.heap.base.freeze hob hk hno';have hgb:qm s.H id []=some (ob.sz,ob.rows):=by unfold qm;rw[hob];simp[hk,jt]
 have hrow:=(hs.heap.base.lZ id ob [] _ _ hob hgb).row;obtain⟨y,hy,hl⟩:=hs.tmps.get ht
 have hnl:L E' (.lq (if full then 1 else 0) ob.sz ((ob.rows.drop lo).take len)) y:=by
  generalize hc:C.sl id [] ob.sz lo len full=c at hl;cases hl with
  |sl id' hops' sz' lo' len' full' cap hn hlen' hf hf'=>
   cases hc
   have hrl:((ob.rows.drop lo).take len).length=len:=aA
   have hsub:∀i k,cellAt ((ob.rows.drop lo).take len) i k=if i<len then cellAt ob.rows (lo+i) k else none:=by
    intro i k;unfold cellAt;rw[ru];split
    ·rw[sr]
    ·rfl
   have ex:∀i r k c,((ob.rows.drop lo).take len)[i]?=some r->r[k]?=some c->∃u,E'.St (E.β id []) (lo*ob.sz+i*ob.sz+k)=some u/\L E'.shut c u:=by
    intro i r k c hr hc;have hcc:cellAt ((ob.rows.drop lo).take len) i k=some c:=by unfold cellAt;rw[hr];exact hc
    rw[hsub]at hcc;split at hcc
    ·obtain⟨u,h1,h2⟩:=hcells _ _ c hcc;exact⟨u,by rw[<-sL];exact h1,h2⟩
    ·cases hcc
   have:=L.lq (E:=E') (if full then 1 else 0) ob.sz ((ob.rows.drop lo).take len) (E.β id []) (lo*ob.sz) cap (λi k=>(E'.St (E.β id []) (lo*ob.sz+i*ob.sz+k)).getD undef) ?_ ?_ ?_ ?_ ?_
   ·rw[hrl]at this;exact gh
   ·cases full with
    |false=>exact .inl O
    |true=>exact .inr ⟨rfl,by rw[hrl];exact hf O⟩
   ·rw[hrl];exact hlen'
   ·exactλr hr=>hrow r (uy (sT hr))
   ·intro i r k c hr hc;obtain⟨u,h1,h2⟩:=ex i r k c hr hc;rw[h1];rfl
   ·intro i r k c hr hc;obtain⟨u,h1,h2⟩:=ex i r k c hr hc;rw[h1];exact h2
  |_=>cases hc
 have hG:qW w E s.H w E' (s.H.modify id λob=>⟨ob.kind,ob.ty,ob.sz,ob.rows,ob.rows.length⟩):=by
  have hKG:∀(id k:Nat),id<E.n->E'.G id k=E.G id k:=λ_ _ _=>by rw[hKG0]
  refine⟨hle,hKG,rfl,rfl,rfl,pI _,λ_ _ _=>O,λb o u hu=>?_,?_⟩
  ·rcases hnew b o u hu with h1|h1
   ·exact .inl h1
   ·exact .inr (.inr ⟨id,[],_,hgb,h1.symm⟩)
  ·rintro b ⟨id',p,x,hx,rfl⟩
   right
   refine⟨id',p,x,?_,by rw[hβ]⟩;obtain⟨ob',ho',hk',hg'⟩:=jP hx;rw[sa]at ho';cases hx':s.H[id']? with
   |none=>rw[hx']at ho';cases ho'
   |some ob0=>
    rw[hx']at ho';simp only[uj,pM,p9]at ho';unfold qm;rw[hx'];split at ho'
    ·subst ho';simp only[hk',if_true];exact hg'
    ·subst ho';simp only[hk',if_true];exact hg'
 have hk4:xc s.H (s.H.modify id λob=>⟨ob.kind,ob.ty,ob.sz,ob.rows,ob.rows.length⟩):=xc.modify _ _ _ λob' h'=>by
  rw[hob]at h';cases h'
  exact⟨by rw[hk];decide,by show ob.kind≠4;rw[hk];decide⟩
 refine⟨E',⟨⟨hR,Br.step hs.heap hG hk4⟩,?_,hs.defers,aq hs.base⟩,(hG.up hs.heap hk4).nD tD⟩;have:=(hs.tmps.mono hle).set hnl t;rw[yO hy]at this;exact gh
end
def posOf:List Nat->Nat->Nat->Option Nat
 |[],_,_=>none
 |x::xs,i,id=>if x == id then some i else posOf xs (i+1) id
def vd:∀{sel:List Nat} {k id i:Nat},posOf sel k id=some i->k<=i/\sel[i-k]?=some id
 |[],k,id,i,h=>by simp[posOf]at h
 |x::xs,k,id,i,h=>by
  unfold posOf at h;split at h
  ·rename_i e;cases h
   exact⟨pI _,aq e⟩
  ·obtain⟨h1,h2⟩:=vd h;refine⟨aw,?_⟩;rw[show i-k=(i-(k+1))+1 from aw];simpa using h2
def yq(sel:List Nat):Nat->C->C
 |0,_=>.za
 |k+1,c=>match c with
  |.ref id hops sz i j=>match posOf sel 0 id with
   |some id'=>.ref id' hops sz i j
   |none=>.za
  |.sl id hops sz lo len full=>match posOf sel 0 id with
   |some id'=>.sl id' hops sz lo len full
   |none=>.za
  |.mp id=>match posOf sel 0 id with
   |some id'=>.mp id'
   |none=>.za
  |.gl id sz rows=>match posOf sel 0 id with
   |some id'=>.gl id' sz rows
   |none=>.lq 0 sz rows
  |.mZ t c=>.mZ t (yq sel k c)
  |.rc r=>.rc r
  |.agg cs=>.agg (cs.map (yq sel k))
  |.lK cs=>.lK (cs.map (yq sel k))
  |.fn f first caps=>.fn f (first.map (yq sel k)) (caps.map (yq sel k))
  |.v x=>.v x
  |.lq o sz rows=>.lq o sz rows
  |.jK cells=>.jK cells
  |.un=>.un
  |.za=>.za
def Env.lQ(E:Env)(sel:List Nat):Env:={n:=sel.length,β:=λi hops=>E.β ((sel[i]?).getD 0) hops,κ:=λi hops=>E.κ ((sel[i]?).getD 0) hops,St:=E.St,G:=λi k=>E.G ((sel[i]?).getD 0) k}
def Env.KC(E:Env)(sel:List Nat):E.shut.le (E.lQ sel).shut:=⟨pI _,λid hops hi=>absurd hi (rE _),λid hops hi=>absurd hi (rE _),λb o u hu=>hu,λid _ _ hi=>absurd hi (rE _)⟩
def LL.lQ{E E':Env}{f:C->C}{cs:List C}{ys:List Value}(h:LL E cs ys)(hf:∀c y,L E c y->L E' (f c) y):LL E' (cs.map f) ys:=
 ⟨aq h.1,λi c y e1 e2=>by
  rw[pj]at e1;cases hx:cs[i]? with
  |none=>rw[hx]at e1;cases e1
  |some c0=>rw[hx]at e1;cases e1;exact hf c0 y (h.2 i c0 y hx e2)⟩
def L.lQ{E:Env}(sel:List Nat):∀(k:Nat) {c:C} {y:Value},L E c y->L (E.lQ sel) (yq sel k c) y:=by
 intro k
 induction k with
 |zero=>intro c y h;exact .za y
 |succ k ih=>
  intro c y h
  have pos:∀{id i},posOf sel 0 id=some i->i<sel.length/\(sel[i]?).getD 0=id:=λ{id i} e=>by
   obtain⟨_,h2⟩:=vd e;rw[ud]at h2;exact⟨(gZ.1 h2).1,by rw[h2];rfl⟩
  cases h with
  |v x hx=>exact .v _ hx
  |lq o sz rows b off cap us ho hc hsz hst hL=>
   exact .lq o sz rows b off cap us ho hc hsz hst (λi r k c e1 e2=>(hL i r k c e1 e2).mono (E.KC sel))
  |xR o sz ho a=>exact .xR o sz ho a
  |jK cells b off us hst hL=>
   exact .jK cells b off us hst (λk c e1=>(hL k c e1).mono (E.KC sel))
  |ref id hops sz i j hn=>
   unfold yq;dsimp only;split
   ·rename_i id' e;obtain⟨h1,h2⟩:=pos e;have:=L.ref (E:=E.lQ sel) id' hops sz i j h1;simp only[Env.lQ,h2]at this;exact gh
   ·exact .za _
  |sl id hops sz lo len full cap hn hlen hf hf'=>
   unfold yq;dsimp only;split
   ·rename_i id' e;obtain⟨h1,h2⟩:=pos e;have:=L.sl (E:=E.lQ sel) id' hops sz lo len full cap h1 hlen hf (by simp only[Env.lQ,h2];exact hf');simp only[Env.lQ,h2]at this;exact gh
   ·exact .za _
  |mp id hn=>
   unfold yq;dsimp only;split
   ·rename_i id' e;obtain⟨h1,h2⟩:=pos e;have:=L.mp (E:=E.lQ sel) id' h1;simp only[Env.lQ,h2]at this;exact gh
   ·exact .za _
  |agg cs ys h1 h2 h3=>
   have:=LL.lQ (f:=yq sel k) (E':=E.lQ sel) (cs:=cs) (ys:=ys.toList) ⟨aq h1,λi c y e1 e2=>h2 i c y e1 uZ⟩ (λc y hl=>ih hl);exact dU
  |lK cs ys h1 h2=>
   have:=LL.lQ (f:=yq sel k) (E':=E.lQ sel) (cs:=cs) (ys:=ys.toList) ⟨aq h1,λi c y e1 e2=>h2 i c y e1 uZ⟩ (λc y hl=>ih hl);exact .lK _ ys hZ (λi c y e1 e2=>this.2 i c y e1 uZ)
  |fn f first caps ys zs h1 h2 h3 h4=>
   have t1:=LL.lQ (f:=yq sel k) (E':=E.lQ sel) (cs:=first) (ys:=ys.toList) ⟨aq h1,λi c y e1 e2=>h3 i c y e1 uZ⟩ (λc y hl=>ih hl);have t2:=LL.lQ (f:=yq sel k) (E':=E.lQ sel) (cs:=caps) (ys:=zs.toList) ⟨aq h2,λi c y e1 e2=>h4 i c y e1 uZ⟩ (λc y hl=>ih hl);exact gI
  |un=>exact .un
  |za y=>exact .za y
  |gl id sz rows y hn hg hl=>
   unfold yq;dsimp only;split
   ·rename_i id' e;obtain⟨h1,h2⟩:=pos e;exact .gl id' sz rows y h1 (by simp only[Env.lQ,h2];exact hg) (hl.mono (E.KC sel))
   ·have h3:E.shut.le (E.lQ sel):=⟨rk _,λid hops hi=>absurd hi (rE _),λid hops hi=>absurd hi (rE _),λb o u hu=>hu,λid _ _ hi=>absurd hi (rE _)⟩;exact hl.mono h3
  |mZ t c y hl=>exact .mZ t _ y (ih hl)
def Uf(sel:List Nat)(k:Nat){c:C}(h:zB c=true):zB (yq sel k c)=true:=by
 cases k with
 |zero=>rfl
 |succ k=>
  cases c with
  |lq o sz rows=>exact h
  |ref id hops sz i j=>unfold yq;dsimp only;split <;> rfl
  |sl id hops sz lo len full=>unfold yq;dsimp only;split <;> rfl
  |mp id=>unfold yq;dsimp only;split <;> rfl
  |gl id sz rows=>unfold yq;dsimp only;split <;> rfl
  |_=>rfl
def zR(sel:List Nat)(ob:Ob):Ob:=
 match ob with
 |⟨kind,ty,sz,rows,fz⟩=>⟨kind,ty,sz,match kind with
  |2=>rows
  |4=>rows
  |_=>rows.map λr=>r.map (yq sel 9),fz⟩
def dead:Ob:=⟨0,0,0,[],0⟩
def x7(sel:List Nat)(H:zo):zo:=sel.map λid=>zR sel ((H[id]?).getD dead)
def yI:List Nat->Bool
 |[]=>true
 |x::xs=>!(xs.any (· == x)) && yI xs
def HM:∀{l:List Nat},yI l=true->∀(i j x:Nat),l[i]?=some x->l[j]?=some x->i=j
 |[],_,i,j,x,h,_=>by simp at h
 |y::l,h,i,j,x,h1,h2=>by
  simp only[yI,pG,rZ,rI]at h;cases i with
  |zero=>
   cases j with
   |zero=>rfl
   |succ j=>
    simp at h1 h2;subst h1;exact absurd aj (h.1 _ (pq h2))
  |succ i=>
   cases j with
   |zero=>
    simp at h1 h2;subst h2;exact absurd aj (h.1 _ (pq h1))
   |succ j=>
    simp at h1 h2;rw[HM h.2 i j x h1 h2]
def L.zzn{E:Env}{c:C}{y:Value}(h:L E c y)(hc:Ft c=true):L E.shut c y:=by
 cases h with
 |agg cs ys h1 h2 h3=>
  refine .agg cs ys h1 (λi c y e1 e2=>(h2 i c y e1 e2).w8 ?_) h3;exact pH.1 (show cs.all jE=true from hc) _ (pq e1)
 |v x hx=>exact(L.v (E:=E) _ hx).w8 hc
 |lq o sz rows b off cap us ho h2 hsz hst hL=>exact(L.lq (E:=E) o sz rows b off cap us ho h2 hsz hst hL).w8 hc
 |xR o sz ho a=>exact(L.xR (E:=E) o sz ho a).w8 hc
 |jK cells b off us hst hL=>exact(L.jK (E:=E) cells b off us hst hL).w8 hc
 |fn f first caps ys zs h1 h2 h3 h4=>exact(L.fn (E:=E) f first caps ys zs h1 h2 h3 h4).w8 hc
 |_=>simp[Ft,jE,Ec]at hc
def LL.closed{E E':Env}{t:List C}{ys:List Value}(h:LL E t ys)(hc:t.all Ft=true)(hs:E.shut.le E'):LL E' t ys:=
 ⟨h.1,λi c y e1 e2=>((h.2 i c y e1 e2).zzn (pH.1 hc _ (pq e1))).mono hs⟩
section
variable {B:Nat}
def yL{sel:List Nat}{H:zo}{i:Nat}{ob':Ob}(h:(x7 sel H)[i]?=some ob')(qj:sel.all (λid=>Nat.blt id H.length)=true):∃id ob,sel[i]?=some id/\H[id]?=some ob/\ob'=zR sel ob:=by
 unfold x7 at h;rw[pj]at h;cases hx:sel[i]? with
 |none=>rw[hx]at h;cases h
 |some id=>
  rw[hx]at h
  have lu:id<H.length:=by
   have:=pH.1 qj id (pq hx);simpa [lf] using this
  have h2:H[id]?=some H[id]:=aY
  simp only[pM,p9,h2,Option.getD_some]at h;exact⟨id,H[id],rfl,h2,h.symm⟩
def F6{sel:List Nat}{H:zo}{i:Nat}{hops:List mP}{sz:Nat}{rows:List (List C)}(qj:sel.all (λid=>Nat.blt id H.length)=true)(mU:qC H=true)(h:qm (x7 sel H) i hops=some (sz,rows)):
  ∃id ob rows0,sel[i]?=some id/\H[id]?=some ob/\qm H id hops=some (sz,rows0)/\((ob.kind=2/\rows=rows0)\/(ob.kind=1/\hops=[]/\rows=rows0.map (λr=>r.map (yq sel 9))/\∀r∈rows0,∀c∈r,zB c=true)):=by
 obtain⟨ob',ho',hk',hg'⟩:=jP h;obtain⟨id,ob,h1,h2,rfl⟩:=yL ho' qj;obtain⟨kind,ty,sz0,rows0,fz⟩:=ob;rcases hk' with hk|hk
 ·have hk:kind=1:=hk;subst hk
  have hno:∀r∈rows0,∀c∈r,zB c=true:=by
   have:=pH.1 mU _ (pq h2);dsimp only at this;simpa [pH] using this
  have hg2:wz sz0 (rows0.map λr=>r.map (yq sel 9)) hops=some (sz,rows):=hg'
  obtain⟨rfl,e⟩:=F8 (λi k c hc=>by
   unfold cellAt at hc;rw[pj]at hc;cases hx:rows0[i]? with
   |none=>rw[hx]at hc;cases hc
   |some r=>
    rw[hx]at hc;simp only[pM,rh,pj]at hc;cases hy:r[k]? with
    |none=>rw[hy]at hc;cases hc
    |some c0=>
     rw[hy]at hc;cases hc
     exact Uf sel 9 (hno r (pq hx) c0 (pq hy))) hg2
  cases e
  exact⟨id,_,rows0,h1,h2,by unfold qm;rw[h2];simp[jt],.inr ⟨rfl,rfl,rfl,hno⟩⟩
 ·have hk:kind=2:=hk;subst hk;exact⟨id,_,rows,h1,h2,bJ,.inl ⟨rfl,rfl⟩⟩
def qv.lQ{w:World}{E:Env}{H:zo}(hh:qv w E H)(sel:List Nat)(qj:sel.all (λid=>Nat.blt id H.length)=true)(m8:yI sel=true)(mU:qC H=true):qv w (E.lQ sel) (x7 sel H) where
 n:=by simp[Env.lQ,x7]
 lZ i ob' hops sz rows hob' hx:=by
  obtain⟨id,ob,rows0,h1,h2,h3,h4⟩:=F6 qj mU hx;obtain⟨id2,ob2,e1,e2,rfl⟩:=yL hob' qj;rw[h1]at e1;cases e1
  rw[h2]at e2;cases e2
  have hb:=hh.lZ id ob hops sz rows0 h2 h3;obtain⟨cur,e,hg,hcs,hcell⟩:=hb.lZ;have hβ:∀hops,(E.lQ sel).β i hops=E.β id hops:=λhops=>by simp[Env.lQ,h1]
  have hκ:∀hops,(E.lQ sel).κ i hops=E.κ id hops:=λhops=>by simp[Env.lQ,h1]
  have hkind:(zR sel ob).kind=ob.kind:=by obtain⟨kind,ty,sz,rows,fz⟩:=ob;rfl
  rw[hkind];rcases h4 with⟨hk,rfl⟩|⟨hk,rfl,rfl,hno⟩
  ·refine⟨by rw[hκ];exact hb.len,hb.row,cur,e,by rw[hβ];exact hg,by rw[hκ];exact hcs,?_⟩;intro i' k c hc;obtain⟨u,hu,ho⟩:=hcell i' k c hc;refine⟨u,hu,?_⟩;unfold jx at ho ⊢;split at ho
   ·rw[hβ,hκ];exact ho
   ·refine⟨?_,ho.2⟩;have h5:=ho.1;simp only[Env.at,hk,if_true]at h5 ⊢;exact h5.mono (E.KC sel)
  ·refine⟨by rw[hκ];simpa using hb.len,?_,cur,e,by rw[hβ];exact hg,by rw[hκ];exact hcs,?_⟩
   ·intro r hr;obtain⟨r0,h5,rfl⟩:=pZ.1 hr;simpa using hb.row r0 h5
   ·intro i' k c hc;unfold cellAt at hc;rw[pj]at hc;cases hx1:rows0[i']? with
    |none=>rw[hx1]at hc;cases hc
    |some r=>
     rw[hx1]at hc;simp only[pM,rh,pj]at hc;cases hy:r[k]? with
     |none=>rw[hy]at hc;cases hc
     |some c0=>
      rw[hy]at hc;cases hc
      obtain⟨u,hu,ho⟩:=hcell i' k c0 (by unfold cellAt;rw[hx1];exact hy);have hn0:=hno r (pq hx1) c0 (pq hy);rw[jx.loose hn0]at ho;refine⟨u,hu,(jx.loose (Uf sel 9 hn0)).2 ⟨?_,ho.2⟩⟩;have h5:=ho.1;have hk2:¬ob.kind=2:=by rw[hk];decide
      simp only[Env.at,pw hk2]at h5 ⊢;exact h5.lQ sel 9
 inj i hops i' hops' x y hx hy he:=by
  obtain⟨id,ob,rows0,h1,h2,h3,_⟩:=F6 qj mU (sz:=x.1) (rows:=x.2) (aq hx);obtain⟨id',ob',rows0',h1',h2',h3',_⟩:=F6 qj mU (sz:=y.1) (rows:=y.2) (aq hy);simp only[Env.lQ,h1,h1',Option.getD_some]at he;obtain⟨rfl,rfl⟩:=hh.inj id hops id' hops' _ _ h3 h3' he;exact⟨HM m8 _ _ _ h1 h1',rfl⟩
 qJ:=hh.qJ
 sep i hops x o u hx hu:=by
  obtain⟨id,ob,rows0,h1,h2,h3,_⟩:=F6 qj mU (sz:=x.1) (rows:=x.2) (aq hx);simp only[Env.lQ,h1,Option.getD_some]at hu;obtain⟨e1,ob2,e2,e3⟩:=hh.sep id hops _ o u h3 hu;rw[h2]at e2;cases e2
  refine⟨e1,zR sel ob,?_,?_⟩
  ·unfold x7;rw[pj,h1];simp[h2]
  ·obtain⟨kind,ty,sz,rows,fz⟩:=ob;exact e3
 ty i ob' hob' hk:=by
  obtain⟨id,ob,h1,h2,rfl⟩:=yL hob' qj;obtain⟨kind,ty,sz,rows,fz⟩:=ob;obtain⟨cur,hc⟩:=hh.ty id _ h2 hk;exact⟨cur,by simp only[Env.lQ,h1,Option.getD_some];exact hc⟩
 fz i ob' hob':=by
  obtain⟨id,ob,h1,h2,rfl⟩:=yL hob' qj;obtain⟨kind,ty,sz,rows,fz⟩:=ob;have:=hh.fz id _ h2;dsimp only[zR]at this ⊢;split
  ·exact gh
  ·exact gh
  ·simpa using this
def GQ:Nat->Nat->List Nat->Bool
 |0,_,_=>true
 |n+1,k,x::xs=>x == k && GQ n (k+1) xs
 |_+1,_,[]=>false
def Tp:∀{n k:Nat} {l:List Nat},GQ n k l=true->n<=l.length/\∀i,i<n->l[i]?=some (k+i)
 |0,k,l,h=>⟨rk _,λi hi=>absurd hi (rE _)⟩
 |n+1,k,x::xs,h=>by
  simp only[GQ,pG,rJ]at h;obtain⟨h1,h2⟩:=Tp h.2;refine⟨aq h1,λi hi=>?_⟩;cases i with
  |zero=>simp[h.1]
  |succ i=>simp[h2 i aw];omega
 |n+1,k,[],h=>by simp[GQ]at h
def wX(sel:List Nat)(ob:Ob):(zR sel ob).kind=ob.kind/\(zR sel ob).ty=ob.ty/\(zR sel ob).sz=ob.sz/\(zR sel ob).rows.length=ob.rows.length:=by
 obtain⟨kind,ty,sz,rows,fz⟩:=ob;refine⟨rfl,rfl,rfl,?_⟩;unfold zR;dsimp only;split <;> simp
def jc.lQ{E:Env}{H:zo}{sel:List Nat}(qj:sel.all (λid=>Nat.blt id H.length)=true){i b:Nat}(h:jc (E.lQ sel) (x7 sel H) i b):∃id,sel[i]?=some id/\jc E H id b:=by
 obtain⟨ob',cap,h1,h2,h3,h4⟩:=h;obtain⟨id,ob,e1,e2,rfl⟩:=yL h1 qj;obtain⟨l1,l2,l3,l4⟩:=wX sel ob;rw[l4]at h3 h4;simp only[Env.lQ,e1,Option.getD_some]at h3;exact⟨id,e1,ob,cap,e2,bL,h3,h4⟩
def K0{sel:List Nat}{ob:Ob}(h:ob.kind=4):zR sel ob=ob:=by
 obtain⟨kind,ty,sz,rows,fz⟩:=ob;cases h
 rfl
def xj.lQ{H:zo}{sel:List Nat}(qj:sel.all (λid=>Nat.blt id H.length)=true){i b:Nat}(h:xj (x7 sel H) i b):∃id,sel[i]?=some id/\xj H id b:=by
 obtain⟨ob',r,t,h1,h2,h3,h4⟩:=h;obtain⟨id,ob,e1,e2,rfl⟩:=yL h1 qj;have hk4:ob.kind=4:=by rw[<-(wX sel ob).1];exact h2
 rw[K0 hk4]at h3 h4;exact⟨id,e1,ob,r,t,e2,hk4,h3,h4⟩
def jM.lQ{E:Env}{H:zo}{sel:List Nat}(qj:sel.all (λid=>Nat.blt id H.length)=true)(mU:qC H=true){b:Nat}(h:jM (E.lQ sel) (x7 sel H) b):jM E H b:=by
 obtain⟨i,hops,⟨sz,rows⟩,hx,rfl⟩:=h;obtain⟨id,ob,rows0,h3,h4,h5,_⟩:=F6 qj mU hx;exact⟨id,hops,_,h5,by simp[Env.lQ,h3]⟩
def qL.lQ{w:World}{E:Env}{H:zo}(hh:qL w E H)(sel:List Nat)(qj:sel.all (λid=>Nat.blt id H.length)=true)(m8:yI sel=true)(mU:qC H=true):qL w (E.lQ sel) (x7 sel H) where
 base:=hh.base.lQ sel qj m8 mU
 lF:={
  val:=λi ob' h1 h2=>by
   obtain⟨id,ob,e1,e2,rfl⟩:=yL h1 qj;obtain⟨l1,l2,l3,l4⟩:=wX sel ob;rw[l4];simp only[Env.lQ,e1,Option.getD_some];exact hh.lF.val id ob e2 bL
  lZ:=λi b ob' h1 h2=>by
   obtain⟨id,e0,h3⟩:=h1.lQ qj;obtain⟨id',ob,e1,e2,rfl⟩:=yL h2 qj;rw[e0]at e1;cases e1
   obtain⟨l1,l2,l3,l4⟩:=wX sel ob;rw[l2,l3,l4];simp only[Env.lQ,e0,Option.getD_some];exact hh.lF.lZ id b ob h3 e2
  sep:=λi b h1 h2=>by
   obtain⟨id,e0,h3⟩:=h1.lQ qj;exact hh.lF.sep id b h3 (h2.lQ qj mU)
  inj:=λi i' b h1 h2=>by
   obtain⟨id,e0,h3⟩:=h1.lQ qj;obtain⟨id',e1,h4⟩:=h2.lQ qj;obtain rfl:=hh.lF.inj id id' b h3 h4;exact HM m8 _ _ _ e0 e1
  st:=λi b ob' o u h1 h2 h3=>by
   obtain⟨id,e0,h4⟩:=h1.lQ qj;obtain⟨id',ob,e1,e2,rfl⟩:=yL h2 qj;rw[e0]at e1;cases e1
   obtain⟨l1,l2,l3,l4⟩:=wX sel ob;rw[l3,l4];exact hh.lF.st id b ob o u h4 e2 h3
  top:=λi ob' k u h1 h2 h3=>by
   obtain⟨id,ob,e1,e2,rfl⟩:=yL h1 qj;obtain⟨l1,l2,l3,l4⟩:=wX sel ob;rw[l4];simp only[Env.lQ,e1,Option.getD_some]at h3;exact hh.lF.top id ob k u e2 bL h3
  nA:=λi ob' r t h1 h2 h3=>by
   obtain⟨id,ob,e1,e2,rfl⟩:=yL h1 qj;have hk4:ob.kind=4:=by rw[<-(wX sel ob).1];exact h2
   rw[K0 hk4]at h3;have:=pH.1 mU ob (pq e2);rw[hk4,h3.2,h3.1]at this;obtain⟨p1,p2⟩:=hh.lF.nA id ob r t e2 hk4 h3;have ht:t.all Ft=true:=aq this
   rw[K0 hk4];exact⟨p1,p2.map λys hl=>hl.closed ht ⟨rk _,λ_ _ h=>absurd h (rE _),λ_ _ h=>absurd h (rE _),λ_ _ _ h=>h,λ_ _ _ h=>absurd h (rE _)⟩⟩
  oJ:=λi i' b h1 h2=>by
   obtain⟨id,e0,h3⟩:=h1.lQ qj;obtain⟨id',e1,h4⟩:=h2.lQ qj;obtain rfl:=hh.lF.oJ id id' b h3 h4;exact HM m8 _ _ _ e0 e1}
def zt.lQ(sel m:List Nat)(t:List C)(H:zo)(hB:GQ B 0 sel=true)(qj:sel.all (λid=>Nat.blt id H.length)=true)(m8:yI sel=true)(mU:qC H=true):zt B ⟨t,H⟩ ⟨(DD m 0 t).map (yq sel 9),x7 sel H⟩:=λmm w E a hs=>by
 obtain⟨h1,h2⟩:=Tp hB
 refine⟨E.lQ sel,⟨hs.heap.lQ sel qj m8 mU,((Nv m t 0).LL hs.tmps).lQ (λc y hl=>hl.lQ sel 9),hs.defers,by simpa [x7] using h1⟩,
  ⟨⟨λid hops hi=>by simp[Env.lQ,h2 id hi],λid hops hi=>by simp[Env.lQ,h2 id hi],λ_ _ _ h=>h,λid k u hi hu=>by simpa [Env.lQ,h2 id hi] using hu⟩,rfl,rfl,rfl,pI _,λ_ _ _=>O,λb o u hu=>.inl hu,?_⟩⟩
 rintro b (hb|⟨i,hb|hb⟩)
 ·exact .inr (.inl (hb.lQ qj mU))
 ·obtain⟨id,_,h3⟩:=hb.lQ qj;exact .inr (.inr ⟨id,.inl h3⟩)
 ·obtain⟨id,_,h3⟩:=hb.lQ qj;exact .inr (.inr ⟨id,.inr h3⟩)
end
def WC.trans{c c' c'':C}(h:WC c c')(h':WC c' c''):WC c c'':=λE y hl=>h' E y (h E y hl)
def WC.nil(sz sz':Nat):WC (.lq 1 sz []) (.lq 0 sz' []):=(WC.none 1 sz sz').trans (WC.share 1 sz' [])
def nJ.at:∀{cs:List C} {i:Nat} {c c':C},cs[i]?=some c->WC c c'->nJ cs (cs.set i c')
 |[],i,c,c',h,hw=>by simp at h
 |x::xs,0,c,c',h,hw=>by simp at h;subst h;exact .cons hw (nJ.refl xs)
 |x::xs,i+1,c,c',h,hw=>.cons (.refl x) (nJ.at (aq h) hw)
def zt.cell{B:Nat}{s:S}(i:Nat){c c':C}(h:s.tmps[i]?=some c)(hw:WC c c'):zt B s ⟨s.tmps.set i c',s.H⟩:=zt.tmps (nJ.at h hw)
def BS(t2:List C):List C->Prop:=
 List.rec (motive:=λ_=>List C->Prop) (λt1=>match t1 with|[]=>True|_::_=>False)
  (λc' _ ih t1=>match t1 with
   |[]=>False
   |c::cs=>match c' with
    |.za=>ih cs
    |c'=>c=c'/\ih cs) t2
def Oo:∀{t2 t1:List C},BS t2 t1->nJ t1 t2
 |[],[],_=>.nil
 |[],_::_,h=>h.elim
 |_::_,[],h=>h.elim
 |c'::t2,c::t1,h=>by
  cases c' with
  |za=>exact .cons (.za c) (Oo (t2:=t2) (t1:=t1) h)
  |_=>
   obtain⟨h1,h2⟩:=h;exact .cons (h1 ▸ .refl c) (Oo (t2:=t2) (t1:=t1) h2)
section
variable {P:Program} {B:Nat}
def zt.BS{t1 t2:List C}{H:zo}(h:Ab.BS t2 t1):zt B ⟨t1,H⟩ ⟨t2,H⟩:=zt.tmps (Oo h)
def zt.yi(n:Nat){t1 t2:List C}{H1 H2:zo}(h:Ab.BS t2 t1)(hB:Nat.ble B n=true)(hn:Nat.ble n H1.length=true)(ht:t2.all (jv n 9)=true)(hr:qf n (H1.take n)=true)(hH:H1.take n=H2):zt B ⟨t1,H1⟩ ⟨t2,H2⟩:=by
 subst hH;exact(zt.BS h).trans (zt.drop (s:=⟨t2,H1⟩) n hB hn ht hr)
def zt.IJ{s:S}(t:Nat){id sz len ty:Nat}{full:Bool}{rows:List (List C)}(ht:s.tmps[t]?=some (.sl id [] sz 0 len full))(hob:s.H[id]?=some ⟨2,ty,sz,rows,0⟩)(hlen:len=rows.length)
 (hno:∀r∈rows,∀c∈r,zB c=true):
  zt B s ⟨s.tmps.set t (.lq (if full then 1 else 0) sz rows),s.H.set id ⟨2,ty,sz,rows,rows.length⟩⟩:=by
 have:=zt.freeze (B:=B) t ht hob O O (by simp[hlen]) hno;rw[kF _ hob]at this;simpa [hlen] using this
def qL.Sy{w:World}{E:Env}{H:zo}(hh:qL w E H){id sz len ty:Nat}{full:Bool}{rows:List (List C)}{y:Value}(hl:L E (.sl id [] sz 0 len full) y)(hob:H[id]?=some ⟨2,ty,sz,rows,0⟩)(hlen:len=rows.length)
 (hno:∀r∈rows,∀c∈r,zB c=true):
  ∃E1,qL w E1 (H.set id ⟨2,ty,sz,rows,rows.length⟩)/\L E1 (.lq (if full then 1 else 0) sz rows) y/\Grow w E H w E1 (H.set id ⟨2,ty,sz,rows,rows.length⟩):=by
 obtain⟨E1,hs,g⟩:=zt.IJ (B:=H.length) (s:=⟨[.sl id [] sz 0 len full],H⟩) 0 O hob hlen hno 0 w E ⟨#[y],[]⟩ ⟨hh,LL.one hl,rk _,pI _⟩;have hn:=hs.heap.n
 refine⟨E1,hs.heap,hs.tmps.cons_inv.1,⟨⟨by rw[hn,hh.n];simp,λid hops hi=>g.le.β id hops tH,λid hops hi=>g.le.κ id hops tH,g.le.St,λid k u hi=>g.le.G id k u tH⟩,
  g.os,g.tape,g.output,g.size,g.frame,g.xv,g.own⟩⟩
def zt.zz5{s:S}(vid k:Nat){id sz len ty vty vsz fz:Nat}{full:Bool}{r:List C}{rows:List (List C)}(hv:s.H[vid]?=some ⟨1,vty,vsz,[r],fz⟩)(hk:r[k]?=some (.sl id [] sz 0 len full))(hob:s.H[id]?=some ⟨2,ty,sz,rows,0⟩)(hlen:len=rows.length)
 (hno:∀r∈rows,∀c∈r,zB c=true)(hr:r.all zB=true)(hr':(r.set k (.lq (if full then 1 else 0) sz rows)).all zB=true):
  zt B s ⟨s.tmps,(s.H.set id ⟨2,ty,sz,rows,rows.length⟩).set vid ⟨1,vty,vsz,[r.set k (.lq (if full then 1 else 0) sz rows)],fz⟩⟩:=λm w E a hs=>by
 have hgb:qm s.H vid []=some (vsz,[r]):=by unfold qm;rw[hv];simp[jt]
 obtain⟨cur,e,h3,h4,h5⟩:=(hs.heap.base.lZ _ _ _ _ _ hv hgb).lZ;obtain⟨u,hu,ho⟩:=h5 0 k _ (kD.2 ⟨rfl,hk⟩);rw[jx.loose O]at ho;have hl:L E (.sl id [] sz 0 len full) u:=aG
 obtain⟨E1,hh1,hl1,g1⟩:=hs.heap.Sy hl hob hlen hno;have hne:vid≠id:=by rintro rfl;rw[hv]at hob;cases hob
 have hob1:(s.H.set id ⟨2,ty,sz,rows,rows.length⟩)[vid]?=some ⟨1,vty,vsz,[r],fz⟩:=by rw[pK,pw (Ne.symm hne)];exact hv
 have hβ:E1.β vid []=E.β vid []:=g1.le.β vid [] (by rw[hs.heap.n];exact(gZ.1 hv).1)
 have hcu:w.cell? ⟨E1.β vid [],k,none⟩=some u:=by
  unfold World.cell?;rw[hβ,h3];simpa using hu
 obtain⟨hR,g2⟩:=hh1.IQ hob1 (r':=r.set k (.lq (if full then 1 else 0) sz rows)) aj hr hr' λj c c' v e1 e2 hl' hv=>by
  rw[pK]at e2;split at e2
  ·rename_i e;subst e;rw[hcu]at hv;cases hv
   split at e2
   ·cases e2;exact hl1
   ·cases e2
  ·rw[e1]at e2;cases e2
   exact hl'
 exact dO
def qF.Pw{f:FuncId}{args:List C}{r:C}(h:qF P f [] args λc _=>yc 0 9 c=r):zc P f [] args r []:=λw E vs hh hl=>by
 refine(h w E vs hh hl).mono ?_;rintro e w' ⟨c,H',v,E',rfl,rfl,h1,h2,g⟩;have h3:=h1.drop 0 (rk _) (by simp[qf]);rw[fC]at h3;have hn:E.n=0:=hh.n
 exact⟨v,E'.cut 0,rfl,h3,h2.low 0 9,⟨⟨by rw[hn];exact rk _,λid hops hi=>by rw[hn]at hi;omega,λid hops hi=>by rw[hn]at hi;omega,g.le.St,λid k u hi=>by rw[hn]at hi;omega⟩,g.os,g.tape,g.output,g.size,g.frame,g.xv,
  λb h=>absurd h x8.none⟩⟩
def zc.zu{f:FuncId}{fn:Func}{c:Code}{args:List C}{r:C}(hf:P.funcs[f]?=some fn)(hb:fn.body=some c)
 (h:wpA P 0 c (entry fn args) [] λex t1 H1=>(ex=.ret\/ex=.normal)/\∃s2,zt 0 ⟨t1,H1⟩ s2/\(kJ P fn s2).map (yc 0 9)=some r):zc P f [] args r []:=by
 refine qF.Pw (qF.Ci (H:=[]) hf hb ((jU h).mono λex s1 ⟨hex,s2,hw,h2⟩=>?_));cases h3:kJ P fn s2 with
 |none=>rw[h3]at h2;cases h2
 |some r0=>
  rw[h3]at h2;cases h2
  exact⟨hex,s2,r0,hw,h3,rfl⟩
def ab{f:FuncId}{fn:Func}{c:Code}{args:List C}{r:C}{zQ:Prop}(hf:P.funcs[f]?=some fn)(z0:zQ)(hb:fn.body=some c:=by exact O)(ze:zQ->wpA P 0 c (entry fn args) [] λex t1 H1=>(ex=.ret\/ex=.normal)/\∃s2,zt 0 ⟨t1,H1⟩ s2/\(kJ P fn s2).map (yc 0 9)=some r:=by intro zh;(conv=>whnf);exact zh):zc P f [] args r []:=zc.zu hf hb (ze z0)
def zW.seq{c:Code}{t:List C}{H:zo}{K:Exit->List C->zo->Prop}(N:Nat)(T:Nat->List C)(Hp:Nat->zo)(R:Nat->Prop)(h0:zt B ⟨t,H⟩ ⟨T 0,Hp 0⟩)(r0:R 0)
 (step:∀k,k<N->R k->wpA P B c (T k) (Hp k) λe t1 H1=>(e=.normal/\zt B ⟨t1,H1⟩ ⟨T (k+1),Hp (k+1)⟩/\R (k+1))\/(e≠.normal/\K e t1 H1))
 (done:R N->wpA P B c (T N) (Hp N) λe t1 H1=>e≠.normal/\K e t1 H1):
  Ea P B c t H K:=by
 have key:∀n k,k+n=N->R k->oY P B c (n+1) ⟨T k,Hp k⟩ λex s=>K ex s.tmps s.H:=by
  intro n
  induction n with
  |zero=>
   intro k hk hr;obtain rfl:k=N:=aw
   refine .step ((jU (done hr)).mono λex s1 ⟨hne,hK⟩=>?_);cases ex with
   |normal=>exact absurd O hne
   |_=>exact hK
  |succ n ih=>
   intro k hk hr;refine .step ((jU (step k aw hr)).post λex s1 h1=>?_);rcases h1 with⟨rfl,hw,hr'⟩|⟨hne,hK⟩
   ·exact⟨_,hw,(ih (k+1) aw hr':oY P B c (n+1) _ _)⟩
   ·refine⟨s1,.refl s1,?_⟩;cases ex with
    |normal=>exact absurd O hne
    |_=>exact hK
 exact⟨.pre h0 ⟨N+1,key N 0 aw r0⟩⟩
end
section
variable {P:Program} {B:Nat}
structure LoopN(P:Program)(B:Nat)(c:Code)(n:Nat)(t:List C)(H:zo)(K:Exit->List C->zo->Prop):Prop where
 out:oY P B c n ⟨t,H⟩ λex s=>K ex s.tmps s.H
def LoopN.step{c:Code}{n:Nat}{t:List C}{H:zo}{K:Exit->List C->zo->Prop}
 (h:wpA P B c t H λe t1 H1=>(e=.normal/\LoopN P B c n t1 H1 K)\/(e≠.normal/\K e t1 H1)):LoopN P B c (n+1) t H K:=by
 refine⟨.step ((jU h).post λex s1 h1=>?_)⟩;rcases h1 with⟨rfl,h⟩|⟨hne,hK⟩
 ·exact⟨s1,.refl s1,h.out⟩
 ·refine⟨s1,.refl s1,?_⟩;cases ex with
  |normal=>exact absurd O hne
  |_=>exact hK
def Ea.Fi{c:Code}(n:Nat){t:List C}{H:zo}{K:Exit->List C->zo->Prop}(h:LoopN P B c n t H K):Ea P B c t H K:=⟨⟨n,h.out⟩⟩
end
section
variable {P:Program} {B:Nat}
def vy{x y:Code}{t:List C}{H:zo}{R:Exit->S->Prop}(h:wpA P B x t H λe t1 H1=>(e=.normal/\∃t2 H2,zt B ⟨t1,H1⟩ ⟨t2,H2⟩/\jh P B y ⟨t2,H2⟩ R)\/(e≠.normal/\R e ⟨t1,H1⟩)):jh P B (.seq x y) ⟨t,H⟩ R:=by
 refine .seq ((jU h).post λex s1 h1=>?_);rcases h1 with⟨rfl,t2,H2,hw,hr⟩|⟨hne,hr⟩
 ·exact⟨_,hw,hr⟩
 ·refine⟨s1,.refl s1,?_⟩;cases ex with
  |normal=>exact absurd O hne
  |_=>exact hr
def zc.Zg{f:FuncId}{fn:Func}{c:Code}{H H':zo}{args:List C}{r:C}(hf:P.funcs[f]?=some fn)(hb:fn.body=some c)
 (h:jh P H.length c ⟨entry fn args,H⟩ λex s=>(ex=.ret\/ex=.normal)/\s.H=H'/\kJ P fn s=some r):zc P f H args r H':=
 qF.at (qF.Ci hf hb (h.mono λex s1 ⟨hex,h2,h3⟩=>⟨hex,s1,r,.refl _,h3,rfl,h2⟩))
end
def behind:Nat->Code->Code
 |0,c=>c
 |n+1,.seq _ y=>behind n y
 |_,c=>c
def cE{B:Nat}(n:Nat){t1 t2:List C}{H1 H2:zo}(h:Ab.BS t2 t1:=by (conv=>whnf);refine td ?_;exact trivial)(hB:Nat.ble B n=true:=by exact O)(hn:Nat.ble n H1.length=true:=by exact O)(ht:t2.all (jv n 9)=true:=by exact O)(hr:qf n (H1.take n)=true:=by exact O)(hH:H1.take n=H2:=by exact O):zt B ⟨t1,H1⟩ ⟨t2,H2⟩:=zt.yi n h hB hn ht hr hH
def cC{B:Nat}{t1 t2:List C}{H:zo}(h:Ab.BS t2 t1:=by (conv=>whnf);refine td ?_;exact trivial):zt B ⟨t1,H⟩ ⟨t2,H⟩:=zt.BS h
end Go.Ab
