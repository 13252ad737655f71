import Derived.IntWalk
import Derived.Test.YtllehbdigpdinaaGreatTB
set_option linter.all false
set_option maxRecDepth 100000
set_option maxHeartbeats 4000000
namespace Go.Ab
variable{t e ty:TypeId}{α:Type}{x:Operand}{c:Code}{ob ob':Ob}{H H':zn}{dst:Option Tmp}{b full:Bool}{ρ:Operand->C}{P:Program}{hops:List ig}{sz i j fz B:Nat}{rows:List (List C)}{r cs caps args:List C}{K:Exit->List C->zn->Prop}{l:List α}{f:FuncId}{y z:Value}{op:BinOp}{cl:Call}{md:Region.Mode}{listed:Array Bool}{oi o:Oper}{w:World}{E:Env}{ps:Array Tmp}{R:C->zn->Prop}{ops:Array Oper}{X:zn->Prop}{s:S}{fn:Func}{ys:List Value}{sel:List Nat}
def L0(x:Value)(k:Value->Prop):Prop:=
 match x with
 |.int t n=>k (.int t n)
 |.bool b=>k (.bool b)
 |.string s=>k (.string s)
 |x=>k x
def jA(n:Nat)(k:Nat->Prop):Prop:=
 match n with
 |0=>k 0
 |1=>k 1
 |2=>k 2
 |3=>k 3
 |4=>k 4
 |5=>k 5
 |6=>k 6
 |7=>k 7
 |8=>k 8
 |9=>k 9
 |10=>k 10
 |11=>k 11
 |12=>k 12
 |13=>k 13
 |14=>k 14
 |15=>k 15
 |16=>k 16
 |17=>k 17
 |18=>k 18
 |19=>k 19
 |20=>k 20
 |21=>k 21
 |22=>k 22
 |23=>k 23
 |24=>k 24
 |25=>k 25
 |26=>k 26
 |27=>k 27
 |28=>k 28
 |29=>k 29
 |30=>k 30
 |31=>k 31
 |32=>k 32
 |33=>k 33
 |34=>k 34
 |35=>k 35
 |36=>k 36
 |37=>k 37
 |38=>k 38
 |39=>k 39
 |40=>k 40
 |41=>k 41
 |42=>k 42
 |43=>k 43
 |44=>k 44
 |45=>k 45
 |46=>k 46
 |47=>k 47
 |48=>k 48
 |49=>k 49
 |50=>k 50
 |51=>k 51
 |52=>k 52
 |53=>k 53
 |54=>k 54
 |55=>k 55
 |56=>k 56
 |57=>k 57
 |58=>k 58
 |59=>k 59
 |60=>k 60
 |61=>k 61
 |62=>k 62
 |63=>k 63
 |64=>k 64
 |n=>k n
def qz{n:Nat}{k:Nat->Prop}(h:jA n k):k n:=by
 unfold jA at h;split at h <;> exact h
def xI{α:Type}:List α->(List α->Prop)->Prop
 |[],k=>k []
 |x::xs,k=>xI xs λys=>k (x::ys)
def jn{α:Type}:∀{l:List α} {k:List α->Prop},xI l k->k l
 |[],k,h=>h
 |x::xs,k,h=>jn (l:=xs) (k:=λys=>k (x::ys)) h
def qW(c:C)(k:C->Prop):Prop:=
 match c with
 |.v x=>L0 x λx=>k (.v x)
 |.fF o sz rows=>k (.fF o sz rows)
 |.jy cells=>xI cells λcells=>k (.jy cells)
 |.ref id hops sz i j=>jA id λid=>jA sz λsz=>jA j λj=>k (.ref id hops sz i j)
 |.sl id hops sz lo len full=>jA id λid=>k (.sl id hops sz lo len full)
 |.fn f first caps=>k (.fn f first caps)
 |.mp id=>jA id λid=>k (.mp id)
 |.agg cs=>xI cs λcs=>k (.agg cs)
 |.fJ cs=>xI cs λcs=>k (.fJ cs)
 |.un=>k .un
 |.za=>k .za
 |.gl id sz rows=>jA id λid=>k (.gl id sz rows)
 |.iF t c=>k (.iF t c)
 |.rc r=>k (.rc r)
def Xl{x:Value}{k:Value->Prop}(h:L0 x k):k x:=by
 unfold L0 at h;split at h <;> exact h
def zR{c:C}{k:C->Prop}(h:qW c k):k c:=by
 cases c with
 |v x=>exact Xl (k:=λx=>k (.v x)) h
 |jy cells=>exact jn (k:=λcells=>k (.jy cells)) h
 |ref id hops sz i j=>exact qz (k:=λj=>k (.ref id hops sz i j)) (qz (k:=λsz=>jA j λj=>k (.ref id hops sz i j)) (qz (k:=λid=>jA sz λsz=>jA j λj=>k (.ref id hops sz i j)) h))
 |sl id hops sz lo len full=>exact qz (k:=λid=>k (.sl id hops sz lo len full)) h
 |mp id=>exact qz (k:=λid=>k (.mp id)) h
 |gl id sz rows=>exact qz (k:=λid=>k (.gl id sz rows)) h
 |agg cs=>exact jn (k:=λcs=>k (.agg cs)) h
 |fJ cs=>exact jn (k:=λcs=>k (.fJ cs)) h
 |_=>exact h
def vP{α:Type}(f:α->(α->Prop)->Prop):List α->(List α->Prop)->Prop
 |[],k=>k []
 |x::xs,k=>f x λx=>vP f xs λxs=>k (x::xs)
def qV{α:Type}{f:α->(α->Prop)->Prop}(hf:∀x k,f x k->k x):∀{l:List α} {k:List α->Prop},vP f l k->k l
 |[],k,h=>h
 |x::xs,k,h=>qV hf (l:=xs) (k:=λxs=>k (x::xs)) (hf x _ h)
def Lt(ob:Ob)(k:Ob->Prop):Prop:=
 match ob with
 |⟨kind,ty,sz,rows,fz⟩=>match kind with
  |1=>jA sz λsz=>vP (vP qW) rows λrows=>k ⟨1,ty,sz,rows,fz⟩
  |kd=>k ⟨kd,ty,sz,rows,fz⟩
def WO{k:Ob->Prop}(h:Lt ob k):k ob:=by
 obtain⟨kind,ty,sz,rows,fz⟩:=ob;unfold Lt at h;dsimp only at h;split at h
 .exact qV (λ_ _ h=>qV (λ_ _ h=>zR h) h) (k:=λrows=>k ⟨1,ty,sz,rows,fz⟩) (qz (k:=λsz=>vP (vP qW) rows λrows=>k ⟨1,ty,sz,rows,fz⟩) h)
 .exact h
def CO(H:zn)(k:zn->Prop):Prop:=vP Lt H k
def wJ{k:zn->Prop}(h:CO H k):k H:=qV (λ_ _ h=>WO h) h
def okB(c:C)(k:C->Prop):Prop:=
 match c with
 |.v (.bool b)=>(b=true->k (.v (.bool true)))/\(b=false->k (.v (.bool false)))
 |c=>k c
def MP(c:C)(k:C->Prop):Prop:=
 match c with
 |.v (.bool b)=>match b with
  |true=>k (.v (.bool true))
  |false=>k (.v (.bool false))
 |c=>qW c k
def Qk{c:C}{k:C->Prop}(h:MP c k):k c:=by
 unfold MP at h;split at h
 .rename_i b;cases b <;> exact h
 .exact zR h
def jv{c:C}{k:C->Prop}(h:okB c k):k c:=by
 unfold okB at h;split at h
 .rename_i b;cases b
  .exact h.2 V
  .exact h.1 V
 .exact h
def Ck{α:Type}:List α->Nat->α->(List α->Prop)->Prop
 |[],_,_,k=>k []
 |_::xs,0,y,k=>k (y::xs)
 |x::xs,n+1,y,k=>Ck xs n y λys=>k (x::ys)
def D2{α:Type}:∀{l:List α} {n:Nat} {y:α} {k:List α->Prop},Ck l n y k->k (l.set n y)
 |[],_,_,k,h=>h
 |_::xs,0,y,k,h=>h
 |x::xs,n+1,y,k,h=>D2 (l:=xs) (n:=n) (y:=y) (k:=λys=>k (x::ys)) h
def oy(tmps:List C)(dst:Option Tmp)(c:C)(k:List C->Prop):Prop:=
 match dst with
 |some d=>Ck tmps d c k
 |none=>k tmps
def jG{tmps:List C}{c:C}{k:List C->Prop}(h:oy tmps dst c k):k (put tmps dst c):=by
 cases dst with
 |none=>exact h
 |some d=>exact D2 h
def bK(b:Bool)(k:Prop):Prop:=
 match b with
 |true=>k
 |false=>False
def zY{k:Prop}(h:bK b k):b=true/\k:=by
 cases b
 .exact c7
 .exact⟨rfl,h⟩
def AD(ρ:Operand->C)(x:Option Operand)(dflt:Nat)(k:Nat->Prop):Prop:=
 match x with
 |none=>k dflt
 |some y=>match ρ y with
  |.v (.int _ n)=>0<=n/\k n.toNat
  |_=>False
def yG{x:Option Operand}{dflt:Nat}{k:Nat->Prop}(h:AD ρ x dflt k):∃n,nv ρ x dflt n/\k n:=by
 unfold AD at h;unfold nv;cases x with
 |none=>exact⟨dflt,rfl,h⟩
 |some y=>
  dsimp only at h;split at h
  .rename_i kd n e;exact⟨n.toNat,⟨kd,by rw[e,rM h.1]⟩,h.2⟩
  .exact c7
def Cd(place:Nat->Option (Nat×Nat)):List C->List (Nat×C)->(List C->Prop)->Prop
 |cells,[],k=>k cells
 |cells,(i,c)::rest,k=>match place i with
  |none=>False
  |some (off,size)=>bK (nr c && (c.cells.length == size) && decide (off+size<=cells.length)) <|vP qW (yh off c.cells cells) λcells=>Cd place cells rest k
def Ka{place:Nat->Option (Nat×Nat)}:∀{parts:List (Nat×C)} {cells:List C} {k:List C->Prop},Cd place cells parts k->∃cs,Cb place cells parts=some cs/\k cs
 |[],cells,k,h=>⟨cells,rfl,h⟩
 |(i,c)::rest,cells,k,h=>by
  unfold Cd at h;split at h
  .exact c7
  .rename_i off size hp;obtain⟨h1,h2⟩:=zY h;have h3:=qV (λ_ _ h=>zR h) (k:=λcells=>Cd place cells rest k) h2;obtain⟨cs,h4,h5⟩:=Ka h3;refine⟨cs,?_,h5⟩;simp only[Cb,hp];rw[gz h1];exact h4
def L9(P:Program)(t:TypeId)(parts:List (Nat×C))(k:List C->Prop):Prop:=
 match ox P t,P.underlying t with
 |some z,some (.array _ e)=>match P.info? e with
  |some ie=>vP qW z λz=>Cd (λi=>some (i*ie.size,ie.size)) z parts k
  |none=>False
 |some z,some (.struct fields)=>match fields.toList.mapM (λf=>(P.info? f.type).map λi=>(f.offset,i.size)) with
  |some places=>xI places λplaces=>vP qW z λz=>Cd (places.toArray[·]?) z parts k
  |none=>False
 |_,_=>False
def Oy{parts:List (Nat×C)}{k:List C->Prop}(h:L9 P t parts k):∃cs,Il P t parts=some cs/\k cs:=by
 unfold L9 at h;unfold Il;split at h
 .rename_i z n e hz hu;simp only[hz,hu];split at h
  .rename_i ie hie;simp only[hie];exact Ka (qV (λ_ _ h=>zR h) (k:=λz=>Cd (λi=>some (i*ie.size,ie.size)) z parts k) h)
  .exact c7
 .rename_i z fields hz hu;simp only[hz,hu];split at h
  .rename_i places hpl;simp only[hpl];have h1:=jn (k:=λplaces:List (Nat×Nat)=>vP qW z λz=>Cd (places.toArray[·]?) z parts k) h;exact Ka (qV (λ_ _ h=>zR h) (k:=λz=>Cd (places.toArray[·]?) z parts k) h1)
  .exact c7
 .exact c7
def Ml(P:Program)(H:zn)(ρ:Operand->C)(t:TypeId)(x:Operand)(lo hi mx:Option Operand)(K:C->zn->Prop):Prop:=
 match P.underlying t with
 |some (.slice e)=>match P.info? e with
  |some i=>match ρ x with
   |.fF fo sz rows=>(rows=[]\/sz=i.size)/\match mx with
    |none=>match hi with
     |none=>AD ρ lo 0 λl=>l<=rows.length/\K (.fF (if fo == 1 then 1 else 0) sz (rows.drop l)) H
     |some hh=>AD ρ lo 0 λl=>AD ρ (some hh) rows.length λh=>l<=h/\h<=rows.length/\K (.fF 0 sz ((rows.drop l).take (h-l))) H
    |some m=>match hi with
     |some hh=>AD ρ lo 0 λl=>AD ρ (some hh) 0 λh=>AD ρ (some m) 0 λm'=>m'=h/\l<=h/\h<=rows.length/\K (.fF 1 sz ((rows.drop l).take (h-l))) H
     |none=>False
   |.sl id hops sz lo0 len full=>match mx with
    |none=>sz=i.size/\AD ρ lo 0 λl=>AD ρ hi len λh=>l<=h/\h<=len/\(l=0\/l<h)/\(full=false\/h=len)/\K (.sl id hops sz (lo0+l) (h-l) full) H
    |some _=>False
   |_=>False
  |none=>False
 |some .string=>match ρ x with
  |.v (.string s)=>match s with
   |⟨⟨b⟩⟩=>match mx with
    |none=>AD ρ lo 0 λl=>AD ρ hi b.length λh=>l<=h/\h<=b.length/\K (.v (.string ⟨⟨(b.take h).drop l⟩⟩)) H
    |some _=>False
  |_=>False
 |_=>False
def LW(P:Program)(H:zn)(ρ:Operand->C)(t:TypeId)(x y:Operand)(K:C->zn->Prop):Prop:=
 match P.underlying t with
 |some (.slice e)=>match P.info? e with
  |some i=>match ρ y with
   |.v (.int _ n)=>match ρ x with
    |.fF o sz rows=>bK ((o == 0 || o == 1) && sz == i.size) <|0<=n/\∃r,rows[n.toNat]?=some r/\K (.jy r) H
    |.sl id hops sz lo len _=>bK (sz == i.size) <|0<=n/\n.toNat<len/\K (.ref id hops sz (lo+n.toNat) 0) H
    |_=>False
   |_=>False
  |none=>False
 |some (.array len e)=>match P.info? e with
  |some i=>match ρ y with
   |.v (.int _ n)=>match CA (ρ x) (n.toNat*i.size) with
    |some c=>0<=n/\n<len/\qW c λc=>K c H
    |none=>False
   |_=>False
  |none=>False
 |_=>False
def LX(P:Program)(H:zn)(ρ:Operand->C)(t:TypeId)(x y:Operand)(K:C->zn->Prop):Prop:=
 match ρ y with
 |.v (.int _ n)=>match P.underlying t with
  |some .string=>match ρ x with
   |.v (.string s)=>match s with
    |⟨⟨b⟩⟩=>0<=n/\∃c,b[n.toNat]?=some c/\K (.v (.int .u8 c.toNat)) H
   |_=>False
  |some (.array len e)=>match P.info? e with
   |some i=>match ρ x with
    |.agg cs=>0<=n/\n<len/\∃c,BC P e cs (n.toNat*i.size)=some c/\okB c λc=>qW c λc=>K c H
    |_=>False
   |none=>False
  |_=>False
 |_=>False
def Mc(P:Program)(H:zn)(ρ:Operand->C)(t:TypeId)(x:Operand)(f:Nat)(K:C->zn->Prop):Prop:=
 match P.underlying t with
 |some (.struct fs)=>match fs[f]? with
  |some fd=>match ρ x with
   |.agg cs=>match BC P fd.type cs fd.offset with
    |some c=>okB c λc=>qW c λc=>K c H
    |none=>False
   |_=>False
  |none=>False
 |_=>False
def Mb(P:Program)(H:zn)(ρ:Operand->C)(t:TypeId)(x:Operand)(f:Nat)(K:C->zn->Prop):Prop:=
 match P.underlying t with
 |some (.struct fs)=>match fs[f]? with
  |some fd=>match P.info? fd.type with
   |some i=>match CA (ρ x) fd.offset with
    |some c=>bK (i.size != 0) <|qW c λc=>K c H
    |none=>False
   |none=>False
  |none=>False
 |_=>False
def Ia(P:Program)(H:zn)(x:C)(sz':Nat)(rows':List (List C))(e:TypeId)(i:TypeInfo)(K:C->zn->Prop):Prop:=
 match rows' with
 |[]=>(xU H (iA x)).isSome=true/\K (iA x) H
 |r'::rs'=>bK (sz' == i.size) <|jA i.size λsz0=>jA H.length λm=>match x with
  |.fF 1 sz rows=>(rows=[]\/sz=sz0)/\rows.length+(rs'.length+1)<=maxLen/\(rows.length+(rs'.length+1))*i.bytes<=140737488355328/\
    xI (H++[⟨2,e,sz0,rows++r'::rs',0⟩]) λH'=>K (.sl m [] sz0 0 (rows.length+(rs'.length+1)) false) H'
  |.sl id [] sz 0 n false=>match H[id]? with
   |some ob=>bK (sz == sz0 && ob.kind == 2 && ob.ty == e && ob.sz == sz0) <|ob.rows.length=n/\ob.rows.all (·.all zB)=true/\n+(rs'.length+1)<=maxLen/\(n+(rs'.length+1))*i.bytes<=140737488355328/\
     xI (jT H id++[⟨2,e,sz0,ob.rows++r'::rs',ob.fz⟩]) λH'=>K (.sl m [] sz0 0 (n+(rs'.length+1)) false) H'
   |none=>False
  |_=>False
def Sg(H:zn)(sz:Nat)(rows:List (List C))(sz':Nat)(rows':List (List C))(e:TypeId)(i:TypeInfo)(K:C->zn->Prop):Prop:=
 jA i.size λsz0=>jA H.length λm=>(rows=[]\/sz=sz0)/\(rows'=[]\/sz'=sz0)/\rows.length+rows'.length<=maxLen/\(rows.length+rows'.length)*i.bytes<=140737488355328/\
  xI (H++[⟨4,e,sz0,rows++rows',0⟩]) λH'=>K (.gl m sz0 (rows++rows')) H'
def Lz(P:Program)(H:zn)(ρ:Operand->C)(x y:Operand)(e:TypeId)(i:TypeInfo)(K:C->zn->Prop):Prop:=
 match xU H (iA (ρ y)) with
 |some (sz',rows')=>match ρ x with
  |.gl id sz rows=>match H[id]? with
   |some ob=>bK (sz == i.size) <|jA i.size λsz0=>ob=⟨4,e,sz,rows,0⟩/\(rows'=[]\/sz'=sz0)/\rows.length+rows'.length<=maxLen/\(rows.length+rows'.length)*i.bytes<=140737488355328/\
     Ck H id ⟨4,e,sz0,rows++rows',0⟩ λH'=>K (.gl id sz0 (rows++rows')) H'
   |none=>False
  |.fF 1 sz rows=>Sg H sz rows sz' rows' e i K\/Ia P H (.fF 1 sz rows) sz' rows' e i K
  |x=>Ia P H x sz' rows' e i K
 |none=>False
def JC(H:zn)(op:BinOp)(a b:List UInt8)(K:C->zn->Prop):Prop:=
 match op with
 |.eql=>okB (.v (.bool (a == b))) λc=>K c H
 |.neq=>okB (.v (.bool (!(a == b)))) λc=>K c H
 |.add=>a.length+b.length<=9223372036854775807/\K (.v (.string ⟨⟨a++b⟩⟩)) H
 |_=>False
def IC(P:Program)(H:zn)(ρ:Operand->C)(o:Oper)(cl:Call)(K:C->zn->Prop):Prop:=
 match cl.callee with
 |.value x=>match ρ x with
  |.fn f first caps=>bK (qh P f) <| ∃r H',zb P f H (first++(cl.args.toList.map λx=>iA (ρ x))++caps) r H'/\okB r λr=>K r H'
  |.v (.func g first caps)=>match g with
   |.yield l=>bK (first.isEmpty && caps.isEmpty) <| ∃r H',jM P l H (cl.args.toList.map ρ) r H'/\okB r λr=>K r H'
   |_=>False
  |_=>False
 |.invoke x name=>match ρ x with
  |.iF t c=>∃f,My P t name f=true/\qh P f=true/\∃r H',zb P f H (c::(cl.args.toList.map ρ)) r H'/\okB r λr=>K r H'
  |_=>False
 |.builtin .len=>match cl.args.toList,cl.argTypes.toList with
  |[x],[t]=>match P.underlying t with
   |some (.slice _)=>match IV (iA (ρ x)) with
    |some n=>K (.v (.int .i64 n)) H
    |none=>False
   |some .string=>match ρ x with
    |.v (.string s)=>match s with
     |⟨⟨b⟩⟩=>K (.v (.int .i64 b.length)) H
    |_=>False
   |_=>match nh P (execOp (λx=>BP (ρ x)) o) with
    |some (.value v)=>bK (o.op.operands.toList.all (λx=>fV (ρ x)) && v.oneCell') <|okB (.v v) λc=>K c H
    |_=>False
  |_,_=>False
 |.builtin .append=>match cl.args.toList,cl.argTypes.toList with
  |[x,y],[t,t']=>bK (t' == t) <|match P.underlying t with
   |some (.slice e)=>match P.info? e with
    |some i=>match i.zero with
     |some z=>bK (z.cells.size == i.size) <|Lz P H ρ x y e i K
     |none=>False
    |none=>False
   |_=>False
  |_,_=>False
 |_=>match nh P (execOp (λx=>BP (ρ x)) o) with
  |some (.value v)=>bK (o.op.operands.toList.all (λx=>fV (ρ x)) && v.oneCell') <|okB (.v v) λc=>K c H
  |_=>False
def TQ(P:Program)(H:zn)(o:Oper)(ρ:Operand->C)(op:BinOp)(t:TypeId)(xs ys:List C)(K:C->zn->Prop):Prop:=
 (!P.eqGuardType P.depth t && Ap P 9 t)=true/\match Ai P 9 t (.agg xs) (.agg ys) with
  |some b=>match op with
   |.eql=>okB (.v (.bool b)) λc=>K c H
   |.neq=>okB (.v (.bool (!b))) λc=>K c H
   |_=>False
  |none=>False
def Gp(P:Program)(t:TypeId)(id:Nat)(hops:List ig)(i k:Nat)(r:List C)(K:C->Prop):Prop:=
 match P.underlying t,P.info? t with
 |some d,some inf=>match El d with
  |true=>k+inf.size<=r.length/\vP qW (kB id hops i k ((r.drop k).take inf.size)) λcs=>K (.agg cs)
  |false=>k+1<=r.length/\match kB id hops i k ((r.drop k).take 1) with
   |[x]=>okB x λx=>qW x K
   |_=>False
 |_,_=>False
def Gi(P:Program)(H:zn)(t:TypeId)(c:C)(K:C->Prop):Prop:=
 match c with
 |.ref id hops sz i k=>match H[id]? with
  |some ⟨kind,ty,osz,orows,fz⟩=>match kind with
   |2=>match hops with
    |[]=>bK (osz == sz) <| ∃r,orows[i]?=some r/\Gp P t id [] i k r K
    |h::hs=>∃rows r,qd H id (h::hs)=some (sz,rows)/\rows[i]?=some r/\Gp P t id (h::hs) i k r K
   |1=>match ty with
    |0=>bK (osz == sz && hops.isEmpty) <| ∃r,orows[i]?=some r/\Gp P t id [] i k r K
    |_=>match nK P H t (.ref id hops sz i k) with
     |some c=>okB c λc=>qW c K
     |none=>False
   |_=>match nK P H t (.ref id hops sz i k) with
    |some c=>okB c λc=>qW c K
    |none=>False
  |none=>False
 |c=>match nK P H t c with
  |some c=>okB c λc=>qW c K
  |none=>False
def J2{id:Nat}{k:Nat}{K:C->Prop}(hg:qd H id hops=some (sz,rows))(hr:rows[i]?=some r)(h:Gp P t id hops i k r K):
  ∃c,nK P H t (.ref id hops sz i k)=some c/\K c:=by
 unfold Gp at h;split at h
 .rename_i d inf hd hi;have hrd:∀n,k+n<=r.length->A3 H (.ref id hops sz i k) n=some (kB id hops i k ((r.drop k).take n)):=λn hn=>by simp[A3,hg,hr,hn]
  split at h
  .rename_i hag;obtain⟨h1,h2⟩:=h;refine⟨_,?_,qV (λ_ _ h=>zR h) (k:=λcs=>K (.agg cs)) h2⟩;unfold nK;rw[hd,hi];simp only[hag,if_true];rw[hrd _ h1]
   rfl
  .rename_i hag;obtain⟨h1,h2⟩:=h;split at h2
   .rename_i x hx;refine⟨x,?_,zR (jv (k:=λx=>qW x K) h2)⟩;unfold nK;rw[hd,hi];simp only[hag];rw[hrd _ h1,hx]
    rfl
   .exact h2.elim
 .exact c7
def Hc{c:C}{K:C->Prop}(h:Gi P H t c K):∃c',nK P H t c=some c'/\K c':=by
 unfold Gi at h;split at h
 .split at h
  .rename_i id hops sz i k kind ty osz orows fz hob;split at h
   .split at h
    .obtain⟨h1,r,h2,h3⟩:=zY h;simp only[pT]at h1;exact J2 (by unfold qd;rw[hob];simp[jc,h1]) h2 h3
    .obtain⟨rows,r,h1,h2,h3⟩:=h;exact J2 h1 h2 h3
   .split at h
    .obtain⟨h1,r,h2,h3⟩:=zY h;simp only[gH,pT,fj]at h1;obtain⟨h1,rfl⟩:=h1;exact J2 (by unfold qd;rw[hob];simp[jc,h1]) h2 h3
    .split at h
     .rename_i c hc;exact⟨c,hc,zR (jv (k:=λc=>qW c K) h)⟩
     .exact c7
   .split at h
    .rename_i c hc;exact⟨c,hc,zR (jv (k:=λc=>qW c K) h)⟩
    .exact c7
  .exact c7
 .split at h
  .rename_i c hc;exact⟨c,hc,zR (jv (k:=λc=>qW c K) h)⟩
  .exact c7
def wg(r:List C)(k:Nat)(cs:List C)(K:List C->Prop):Prop:=bK (Nat.ble (k+cs.length) r.length) <|xI (yh k cs r) K
def KB{k:Nat}{K:List C->Prop}(h:wg r k cs K):k+cs.length<=r.length/\K (yh k cs r):=
 ⟨rW (zY h).1,jn (zY h).2⟩
def It(P:Program)(H:zn)(t:TypeId)(a x:C)(K:zn->Prop):Prop:=
 match a with
 |.ref id hops sz i k=>match H[id]? with
  |some ⟨kind,ty,osz,orows,fz⟩=>match kind with
   |2=>match P.info? t with
    |some inf=>bK (nr x && (x.cells.length == inf.size) && x.cells.all xm) <|vP qW x.cells λcs=>match hops with
     |[]=>bK (osz == sz && fz == 0) <| ∃r,orows[i]?=some r/\((r.drop k).take cs.length).all zB=true/\wg r k cs λr'=>Ck H id ⟨2,ty,osz,orows.set i r',0⟩ K
     |h::hs=>bK (fz == 0) <| ∃rows r,qd H id (h::hs)=some (sz,rows)/\rows[i]?=some r/\((r.drop k).take cs.length).all zB=true/\wg r k cs λr'=>Ck H id ⟨2,ty,osz,ql orows (h::hs) (λrows=>rows.set i r'),0⟩ K
    |none=>False
   |1=>match ty with
    |0=>match P.info? t with
     |some inf=>bK (nr x && (x.cells.length == inf.size)) <|vP qW x.cells λcs=>bK (osz == sz && fz == 0 && hops.isEmpty) <| ∃r,orows[i]?=some r/\((r.drop k).take cs.length).all zB=true/\wg r k cs λr'=>Ck H id ⟨1,0,osz,orows.set i r',0⟩ K
     |none=>False
    |_=>match hops,orows,i with
     |[],[r],0=>match P.info? t with
      |some inf=>bK (osz == sz && fz == 0 && nr x && (x.cells.length == inf.size) && ((r.drop k).take x.cells.length).all zB) <|vP qW x.cells λcs=>wg r k cs λr'=>Ck H id ⟨1,ty,osz,[r'],0⟩ K
      |none=>False
     |hops,_,i=>match vq P H t (.ref id hops sz i k) x with
      |some H'=>CO H' K
      |none=>False
   |_=>match vq P H t (.ref id hops sz i k) x with
    |some H'=>CO H' K
    |none=>False
  |none=>False
 |a=>match vq P H t a x with
  |some H'=>CO H' K
  |none=>False
def vJ{r:α}(f:α->α)(h:l[i]?=some r):l.modify i f=l.set i (f r):=by
 apply pC
 intro j;rw[pZ,gJ];split
 .rename_i e;subst e;rw[gz (gh.1 h).1,h]
  rfl
 .simp
def PA{f g:List (List C)->List (List C)}:∀(hops:List ig) (sz:Nat) (rows:List (List C)) {sz':Nat} {rows':List (List C)},kF sz rows hops=some (sz',rows')->f rows'=g rows'->ql rows hops f=ql rows hops g
 |[],sz,rows,sz',rows',h,he=>by
  rw[jc]at h;cases h
  exact he
 |(i,k)::hs,sz,rows,sz',rows',h,he=>by
  rw[x7]at h;rw[HA,HA];split at h
  .rename_i sz2 rows2 hc
   try rw[hc]
   simp only[PA hs sz2 rows2 h he]
  .cases h
def ON{a x:C}{K:zn->Prop}(h:It P H t a x K):∃H',vq P H t a x=some H'/\K H':=by
 unfold It at h;cases a with
 |ref id hops sz i k=>
  dsimp only at h;split at h
  .rename_i kind ty osz orows fz hob;split at h
   .split at h
    .rename_i inf hinf;obtain⟨hv,h⟩:=zY h;have h:=qV (λ_ _ h=>zR h) h;simp only[gH,pT]at hv
     have go:∀hops rows r,qd H id hops=some (sz,rows)->rows[i]?=some r->fz=0->((r.drop k).take x.cells.length).all zB=true->(wg r k x.cells λr'=>Ck H id ⟨2,ty,osz,ql orows hops (λrows=>rows.set i r'),0⟩ K)->
       ∃H',vq P H t (.ref id hops sz i k) x=some H'/\K H':=λhops rows r h1 h2 h0 h3 h4=>by
      obtain⟨h5,h6⟩:=KB h4;have h6:=D2 h6;refine⟨_,?_,h6⟩;unfold vq;rw[hinf];dsimp only;rw[h1,hob];dsimp only;rw[h2];dsimp only;rw[gz]
      .congr 1
       unfold nP;rw[vJ _ hob]
       congr 1
       dsimp only;subst h0
       congr 1
       obtain⟨ob2,e1,_,e3⟩:=ju h1;rw[hob]at e1;cases e1
       exact PA hops _ _ e3 (by unfold wv;rw[vJ _ h2])
      .simp only[gH,pT,rD,gR];exact⟨⟨⟨⟨⟨⟨⟨trivial,hv.1.1⟩,hv.1.2⟩,h5⟩,h3⟩,.inr hv.2⟩,.inr aw⟩,.inr h0⟩
     split at h
     .obtain⟨h1,r,h2,h3,h4⟩:=zY h;simp only[gH,pT]at h1;exact go [] orows r (by unfold qd;rw[hob];simp[jc,h1.1]) h2 h1.2 h3 h4
     .obtain⟨h1,rows,r,h2,h3,h4,h5⟩:=zY h;simp only[pT]at h1;exact go _ rows r h2 h3 h1 h4 h5
    .exact c7
   .split at h
    .split at h
     .rename_i inf hinf;obtain⟨hv,h⟩:=zY h;have h:=qV (λ_ _ h=>zR h) h;obtain⟨h1,r,h2,h3,h4⟩:=zY h;obtain⟨h5,h6⟩:=KB h4;have h6:=D2 h6;simp only[gH,pT,fj]at hv h1;obtain⟨⟨rfl,rfl⟩,rfl⟩:=h1;refine⟨_,?_,h6⟩;have hg:qd H id []=some (osz,orows):=by unfold qd;rw[hob];simp[jc]
      unfold vq;rw[hinf];dsimp only;rw[hg,hob];dsimp only;rw[h2];dsimp only;rw[gz]
      .congr 1
       unfold nP;rw[vJ _ hob]
       congr 1
       dsimp only;rw[HG];unfold wv;rw[vJ _ h2]
      .simp only[gH,pT,rD,gR];exact⟨⟨⟨⟨⟨⟨⟨trivial,hv.1⟩,hv.2⟩,h5⟩,h3⟩,.inl trivial⟩,.inr aw⟩,.inr trivial⟩
     .exact c7
    .split at h
     .rename_i r;split at h
      .rename_i inf hinf;obtain⟨hv,h⟩:=zY h;have h:=qV (λ_ _ h=>zR h) h;obtain⟨h5,h6⟩:=KB h;have h6:=D2 h6;simp only[gH,pT]at hv;refine⟨_,?_,h6⟩;have h1:qd H id []=some (osz,[r]):=by unfold qd;rw[hob];simp[jc]
       unfold vq;rw[hinf];dsimp only;rw[h1,hob];dsimp only;rw[show [r][0]?=some r from V];dsimp only;rw[gz]
       .congr 1
        unfold nP;rw[vJ _ hob]
        congr 1
        dsimp only;obtain⟨⟨⟨⟨_,rfl⟩,_⟩,_⟩,_⟩:=hv;rw[HG];unfold wv
        rfl
       .simp only[gH,pT,rD,gR];obtain⟨⟨⟨⟨e1,e2⟩,e3⟩,e4⟩,e5⟩:=hv;exact⟨⟨⟨⟨⟨⟨⟨e1,e3⟩,e4⟩,h5⟩,e5⟩,.inl trivial⟩,.inr aw⟩,.inr e2⟩
      .exact c7
     .split at h
      .rename_i H' hc;exact⟨H',hc,wJ h⟩
      .exact c7
   .split at h
    .rename_i H' hc;exact⟨H',hc,wJ h⟩
    .exact c7
  .exact c7
 |_=>
  dsimp only at h;split at h
  .rename_i H' hc;exact⟨H',hc,wJ h⟩
  .exact c7
def zy9(H:zn)(a y:C):Bool:=
 match a with
 |.ref id _ _ _ _=>match H[id]? with
  |some ob=>match ob.kind with
   |2=>true
   |1=>match ob.ty with
    |0=>match y with
     |.gl ..=>false
     |_=>true
    |_=>false
   |_=>false
  |none=>false
 |_=>false
def Mq(P:Program)(H:zn)(ρ:Operand->C)(o:Oper)(src dst:TypeId)(x:Operand)(K:C->zn->Prop):Prop:=
 match Ab.iA (ρ x) with
 |.fF _ sz rows=>match P.underlying src,P.underlying dst with
  |some (.slice e),some .string=>match P.underlying e with
   |some (.int .u8)=>bK (sz == 1) <| ∃bts:List UInt8,rows=bts.map Dt/\K (.v (.string ⟨⟨bts⟩⟩)) H
   |_=>False
  |_,_=>False
 |_=>match nh P (execOp (λx=>BP (ρ x)) o) with
  |some (.value v)=>bK (x8 o && o.op.operands.toList.all (λx=>fV (ρ x)) && v.oneCell') <|okB (.v v) λc=>K c H
  |_=>False
def MD(P:Program)(H:zn)(ρ:Operand->C)(t:TypeId)(x y:Operand)(K:C->zn->Prop):Prop:=
 match ρ x,ρ y with
 |.v (.int _ n),.v (.int _ n')=>match P.underlying t with
  |some (.slice e)=>match P.info? e with
   |some i=>match ox P e with
    |some cs=>bK (cs.all xm) <|n'=n/\0<=n/\(i.bytes:Int)*n<=281474976710656/\n<=9223372036854775807/\
      jA i.size λsz=>jA H.length λm=>xI (H++[⟨2,e,sz,List.replicate n.toNat cs,0⟩]) λH'=>K (.sl m [] sz 0 n.toNat false) H'
    |none=>False
   |none=>False
  |_=>False
 |_,_=>False
def ML(o:Oper):Option (BinOp×TypeId×Operand):=
 match o.op with
 |.binOp op t x y _=>match y with
  |.const v=>match v with
   |.slice none 0 0=>some (op,t,x)
   |_=>none
  |_=>none
 |_=>none
def MS(P:Program)(H:zn)(op:BinOp)(t:TypeId)(x:C)(K:C->zn->Prop):Prop:=
 match P.underlying t with
 |some (.slice _)=>match x with
  |.fF _ _ rows=>match rows with
   |[]=>match op with
    |.eql=>K (.v (.bool true)) H/\K (.v (.bool false)) H
    |.neq=>K (.v (.bool true)) H/\K (.v (.bool false)) H
    |_=>False
   |r::rs=>match op with
    |.eql=>r::rs≠[]/\K (.v (.bool false)) H
    |.neq=>r::rs≠[]/\K (.v (.bool true)) H
    |_=>False
  |.sl ..=>match op with
   |.eql=>K (.v (.bool false)) H
   |.neq=>K (.v (.bool true)) H
   |_=>False
  |_=>False
 |_=>False
def MM(o:Oper):Option (BinOp×TypeId×Operand):=
 match o.op with
 |.binOp op t x y _=>match y with
  |.const v=>match v with
   |.pointer p=>match p with
    |none=>some (op,t,x)
    |some _=>none
   |_=>none
  |_=>none
 |_=>none
def LY(x:C):Option Bool:=
 match x with
 |.ref ..=>some false
 |.jy _=>some false
 |.v y=>match y with
  |.pointer p=>match p with
   |none=>some true
   |some _=>some false
  |_=>none
 |_=>none
def I6(P:Program)(t:TypeId):Bool:=
 match P.underlying t with
 |some (.pointer e)=>e == P.pointee t
 |_=>false
def JM(P:Program)(H:zn)(op:BinOp)(t:TypeId)(x:C)(K:C->zn->Prop):Prop:=
 match LY x with
 |some b=>match op with
  |.eql=>bK (I6 P t) <|K (.v (.bool b)) H
  |.neq=>bK (I6 P t) <|K (.v (.bool (!b))) H
  |_=>False
 |none=>False
def Au(P:Program)(H:zn)(ρ:Operand->C)(o:Oper)(K:C->zn->Prop):Prop:=
 match o.op with
 |.move x=>qW (ρ x) λc=>K c H
 |.assign x=>qW (ρ x) λc=>K c H
 |.pick x y z=>match ρ x with
  |.v (.bool b)=>qW (if b then ρ y else ρ z) λc=>K c H
  |_=>False
 |.alloc t=>match ox P t with
  |some cs=>xI cs λcs=>jA cs.length λn=>jA H.length λm=>xI (H++[⟨1,t,n,[cs],0⟩]) λH'=>K (.ref m [] n 0 0) H'
  |none=>False
 |.box t x=>bK (nr (ρ x)) <|vP qW (ρ x).cells λcs=>jA cs.length λn=>jA H.length λm=>xI (H++[⟨1,t,n,[cs],0⟩]) λH'=>K (.ref m [] n 0 0) H'
 |.fieldAddr t x f=>Mb P H ρ t x f K
 |.indexAddr t x y=>LW P H (λx=>iA (ρ x)) t x y K
 |.index t x y=>LX P H ρ t x y K
 |.field t x f=>Mc P H ρ t x f K
 |.load t x=>Gi P H t (ρ x) λc=>K c H
 |.store t x y=>match zy9 H (ρ x) (ρ y) with
  |true=>It P H t (ρ x) (AS (ρ y)) λH'=>K .un H'
  |false=>It P H t (ρ x) (ρ y) λH'=>K .un H'
 |.extract x n=>match ρ x with
  |.fJ vs=>match vs[n]? with
   |some c=>okB c λc=>qW c λc=>K c H
   |none=>False
  |_=>False
 |.nilCheck x=>bK (LN (ρ x)) <|qW (ρ x) λc=>K c H
 |.makeFunc f first caps=>match f with
  |.func f=>vP qW (first.toList.map ρ) λa=>vP qW (caps.toList.map ρ) λb=>K (.fn f a b) H
  |_=>False
 |.build t parts=>L9 P t (parts.toList.map λp=>(p.1,ρ p.2)) λcs=>K (.agg cs) H
 |.makeInterface t x=>match P.underlying t with
  |some d=>bK (ku d) <|qW (ρ x) λc=>K (.iF t c) H
  |none=>False
 |.typeAssert x _ t ok=>bK ok <|match ρ x with
  |.iF t' c=>match P.underlying t with
   |some d=>match t' == t with
    |true=>bK (ku d) <|K (.fJ [c,.v (.bool true)]) H
    |false=>match P.info? t with
     |some i=>bK (ku d && i.zero.isSome) <|K (.fJ [.za,.v (.bool false)]) H
     |none=>False
   |none=>False
  |_=>False
 |.buildSlice t len parts=>match MQ P t len (parts.toList.map λp=>(p.1,AS (ρ p.2))) with
  |some c=>match c with
   |.fF o sz rows=>vP (vP qW) rows λrows=>jA sz λsz=>K (.fF o sz rows) H
   |_=>False
  |none=>False
 |.slice t x lo hi mx=>Ml P H (λx=>iA (ρ x)) t x lo hi mx K
 |.makeSlice t x y=>MD P H ρ t x y K
 |.lookup ..=>∃c H',fO P o ρ H c H'/\K c H'
 |.mapUpdate ..=>∃c H',fO P o ρ H c H'/\K c H'
 |.mapEntry ..=>∃c H',fO P o ρ H c H'/\K c H'
 |.entryStore ..=>∃c H',fO P o ρ H c H'/\K c H'
 |.call cl=>IC P H ρ o cl K
 |.binOp op t x y _=>match ρ x,ρ y with
  |.agg xs,.agg ys=>TQ P H o ρ op t xs ys K
  |.v (.string s),.v (.string s')=>match s,s' with
   |⟨⟨a⟩⟩,⟨⟨b⟩⟩=>JC H op a b K
  |_,_=>match nh P (execOp (λx=>BP (ρ x)) o) with
   |some (.value v)=>bK (x8 o && o.op.operands.toList.all (λx=>fV (ρ x)) && v.oneCell') <|okB (.v v) λc=>K c H
   |_=>False
 |.convert src dst x=>Mq P H ρ o src dst x K
 |.unOp _ _ _=>match nh P (execOp (λx=>BP (ρ x)) o) with
  |some (.value v)=>bK (x8 o && o.op.operands.toList.all (λx=>fV (ρ x)) && v.oneCell') <|MP (.v v) λc=>K c H
  |_=>False
 |_=>match nh P (execOp (λx=>BP (ρ x)) o) with
  |some (.value v)=>bK (x8 o && o.op.operands.toList.all (λx=>fV (ρ x)) && v.oneCell') <|okB (.v v) λc=>K c H
  |_=>False
section
variable {P:Program} {o:Oper} {ρ:Operand->C} {H:zn} {K:C->zn->Prop}
def fO.o7{c c':C}(h:fO P o ρ H c H')(hw:WC c c'):fO P o ρ H c' H':=λw E σ hh hl K hk=>h w E σ hh hl K λv w' E' h1 h2 g=>hk v w' E' h1 (hw E' v h2) g
def fO.Mw(cl:Call)(ho:o.op=.call cl)(x:Operand)(hcl:cl.callee=.value x){first:List C}(hf:ρ x=.fn f first caps)(hcb:qh P f=true){r:C}
 (hs:zb P f H (first++(cl.args.toList.map λx=>Ab.iA (ρ x))++caps) r H'):fO P o ρ H r H':=.iA <|.call cl ho x hcl (by rw[hf];rfl) hcb hs
def fO.Uf(t:TypeId)(x y:Operand)(ho:o.op=.store t x y)(hs:vq P H t (ρ x) (AS (ρ y))=some H'):fO P o ρ H .un H':=by
 classical
 have hρ:∀z,∃c,(c=ρ z\/c=AS (ρ z))/\(z=y->c=AS (ρ z))/\(z≠y->c=ρ z):=λz=>by
  by_cases e:z=y
  .exact⟨AS (ρ z),.inr V,λ_=>V,λh=>absurd e h⟩
  .exact⟨ρ z,.inl V,λh=>absurd h e,λ_=>V⟩
 obtain⟨ρ',hρ'⟩:∃ρ':Operand->C,∀z,(ρ' z=ρ z\/ρ' z=AS (ρ z))/\(z=y->ρ' z=AS (ρ z))/\(z≠y->ρ' z=ρ z):=⟨λz=>(hρ z).choose,λz=>(hρ z).choose_spec⟩
 have hx:ρ' x=ρ x:=by
  rcases(hρ' x).1 with e|e
  .exact e
  .rw[e];unfold vq at hs;split at hs
   .rename_i e2 _;rw[e2];rfl
   .cases hs
 have h0:qU P o ρ' H .un H':=qU.store t x y ho (by rw[hx,(hρ' y).2.1 V];exact hs);refine .Bp (h0.weaken λz E v hl=>?_) (J0 hs);rcases(hρ' z).1 with e|e
 .rw[e];exact hl
 .rw[e];exact K5 hl
def wT(h:match nh P (execOp (λx=>BP (ρ x)) o) with
  |some (.value v)=>bK (x8 o && o.op.operands.toList.all (λx=>fV (ρ x)) && v.oneCell') <|okB (.v v) λc=>K c H
  |_=>False):∃c,(∀H2,fO P o ρ H2 c H2)/\K c H:=by
 split at h
 .rename_i v e;obtain⟨h1,h2⟩:=zY h;simp only[gH,sM]at h1;exact⟨.v v,λH2=>.same <|.scalar h1.1.1 h1.1.2 e h1.2,jv (k:=λc=>K c H) h2⟩
 .exact c7
def OI{lo hi mx:Option Operand}(ho:o.op=.slice t x lo hi mx)(h:Ml P H ρ t x lo hi mx K):∃c,(∀H2,fO P o ρ H2 c H2)/\K c H:=by
 unfold Ml at h;split at h
 rotate_left
 .rename_i hu;split at h
  .rename_i s hx;obtain⟨⟨b⟩⟩:=s;dsimp only at h;split at h
   .obtain⟨l,h1,h⟩:=yG h;obtain⟨h',h2,h3,h4,h5⟩:=yG h;exact⟨_,λH2=>.same <|.zw6 t x lo hi ho hu hx h1 h2 h3 h4,h5⟩
   .exact c7
  .exact c7
 .exact c7
 rename_i e hu;split at h
 rotate_left
 .exact c7
 rename_i i hi';split at h
 .rename_i fo sz rows hx;obtain⟨hsz,h⟩:=h;split at h
  .split at h
   .obtain⟨l,h1,h3,h5⟩:=yG h;have:=λH2=>fO.same <|qU.RE (H:=H2) t x lo none ho hu hi' hx hsz h1 (rfl:nv ρ none rows.length rows.length) h3 (gG _)
    refine⟨_,this,?_⟩;rw[sr aj];by_cases hfo:fo=1
    .simpa [hfo] using h5
    .simpa [hfo] using h5
   .rename_i hh;obtain⟨l,h1,h⟩:=yG h;obtain⟨h',h2,h3,h4,h5⟩:=yG h;exact⟨_,λH2=>.o7 (.same <|.RE t x lo (some hh) ho hu hi' hx hsz h1 h2 h3 h4) (.share _ _ _),h5⟩
  .split at h
   .obtain⟨l,h1,h⟩:=yG h;obtain⟨h',h2,h⟩:=yG h;obtain⟨m,h3,rfl,h4,h5,h6⟩:=yG h;exact⟨_,λH2=>.same <|.zui t x lo _ _ ho hu hi' hx hsz h1 h2 h3 h4 h5,h6⟩
   .exact c7
 .rename_i id hops sz lo0 len full hx;split at h
  .obtain⟨hsz,h⟩:=h;obtain⟨l,h1,h⟩:=yG h;obtain⟨h',h2,h3,h4,h5,h6,h7⟩:=yG h;exact⟨_,λH2=>.same <|.zy6 t x lo hi ho hu hi' hx hsz h1 h2 h3 h4 h5 h6,h7⟩
  .exact c7
 .exact c7
def OY{y:Operand}(ho:o.op=.indexAddr t x y)(h:LW P H ρ t x y K):∃c,(∀H2,fO P o ρ H2 c H2)/\K c H:=by
 unfold LW at h;split at h
 rotate_left
 .rename_i len e hu;split at h
  .rename_i i hi;split at h
   .rename_i k n hy;split at h
    .rename_i c hx;exact⟨c,λH2=>.same <|.zvP t x y ho hu hi hy h.1 h.2.1 hx,zR (k:=λc=>K c H) h.2.2⟩
    .exact c7
   .exact c7
  .exact c7
 .exact c7
 rename_i e hu;split at h
 rotate_left
 .exact c7
 rename_i i hi;split at h
 rotate_left
 .exact c7
 rename_i k n hy;split at h
 .rename_i fo sz rows hx;obtain⟨h1,h3,r,h4,h5⟩:=zY h;refine⟨_,λH2=>.same <|.indexAddr t x y ho hu hi hy h3 (c:=.jy r) ?_,h5⟩;rw[hx];simp only[CQ];rw[gz h1,h4]
  rfl
 .rename_i id hops sz lo len full hx;obtain⟨h2,h3,h4,h5⟩:=zY h;simp only[pT]at h2;refine⟨_,λH2=>.same <|.indexAddr t x y ho hu hi hy h3 (c:=.ref id hops sz (lo+n.toNat) 0) ?_,h5⟩;rw[hx];simp only[CQ];rw[gz (by simp[h4,h2])]
 .exact c7
def OZ{y:Operand}(ho:o.op=.index t x y)(h:LX P H ρ t x y K):∃c,(∀H2,fO P o ρ H2 c H2)/\K c H:=by
 unfold LX at h;split at h
 .rename_i k n hy;split at h
  .rename_i hu;split at h
   .rename_i s hx;obtain⟨⟨b⟩⟩:=s;obtain⟨h1,c,h2,h3⟩:=h;exact⟨_,λH2=>.same <|.zw4 t x y ho hu hx hy h1 h2,h3⟩
   .exact c7
  .rename_i len e hu;split at h
   .rename_i i hi;split at h
    .rename_i cs hx;obtain⟨h1,h2,c,h3,h4⟩:=h;exact⟨c,λH2=>.same <|.Yk t x y ho hu hi hx hy h1 h2 h3,zR (k:=λc=>K c H) (jv (k:=λc=>qW c λc=>K c H) h4)⟩
    .exact c7
   .exact c7
  .exact c7
 .exact c7
def OU{f:Nat}(ho:o.op=.field t x f)(h:Mc P H ρ t x f K):∃c,(∀H2,fO P o ρ H2 c H2)/\K c H:=by
 unfold Mc at h;split at h
 .rename_i fs hu;split at h
  .rename_i fd hf;split at h
   .rename_i cs hx;split at h
    .rename_i c hc;exact⟨c,λH2=>.same <|.field t x f ho hu hf hx hc,zR (k:=λc=>K c H) (jv (k:=λc=>qW c λc=>K c H) h)⟩
    .exact c7
   .exact c7
  .exact c7
 .exact c7
def QF{t':TypeId}{y:Operand}{a b:List UInt8}(ho:o.op=.binOp op t x y t')(hx:ρ x=.v (.string (bs a)))(hy:ρ y=.v (.string (bs b)))(h:JC H op a b K):∃c,(∀H2,fO P o ρ H2 c H2)/\K c H:=by
 unfold JC at h;split at h
 .exact⟨_,λH2=>.same <|.Te .eql t t' x y ho (.inl V) hx hy,jv (k:=λc=>K c H) h⟩
 .exact⟨_,λH2=>.same <|.Te .neq t t' x y ho (.inr V) hx hy,jv (k:=λc=>K c H) h⟩
 .exact⟨_,λH2=>.same <|.Ug t t' x y ho hx hy h.1,h.2⟩
 .exact c7
def OT{f:Nat}(ho:o.op=.fieldAddr t x f)(h:Mb P H ρ t x f K):∃c,(∀H2,fO P o ρ H2 c H2)/\K c H:=by
 unfold Mb at h;split at h
 rotate_left
 .exact c7
 rename_i fs hu;split at h
 rotate_left
 .exact c7
 rename_i fd hf;split at h
 rotate_left
 .exact c7
 rename_i i hi;split at h
 rotate_left
 .exact c7
 rename_i c hc;obtain⟨h1,h2⟩:=zY h;exact⟨c,λH2=>.same <|.fieldAddr t x f ho hu hf hi tG hc,zR (k:=λc=>K c H) h2⟩
def Om(ho:o.op=.call cl){y:Operand}{i:TypeInfo}(ht:Bf P cl x y e i z){sz':Nat}{rows':List (List C)}(hy:xU H (iA (ρ y))=some (sz',rows'))
 (h:Ia P H (ρ x) sz' rows' e i K):∃c H',fO P o ρ H c H'/\K c H':=by
 unfold Ia at h;split at h
 .obtain⟨h1,h2⟩:=h;obtain⟨⟨sz,rows⟩,hx⟩:=Option.isSome_iff_exists.1 h1;exact⟨_,H,.iA (ρ:=ρ) (.same <|.XP cl ho x y ht hx hy),h2⟩
 .rename_i r' rs'
  replace h:=zY h
  obtain⟨hz,h⟩:=h;have hz:=eq_of_beq hz;subst hz;have h:=qz h;have h:=qz h;split at h
  .rename_i sz rows hx;obtain⟨h1,h2,h3,h4⟩:=h;exact⟨_,_,.iA (ρ:=ρ) (.EN (.Pr cl ho x y ht (by rw[hx];rfl) h1 hy aj tS (aq h3)) _ (λe=>by cases e) rfl),by simpa using jn h4⟩
  .rename_i id sz n hx;split at h
   .rename_i ob hob
    replace h:=zY h
    obtain⟨hb,h4,h5,h6,h7,h8⟩:=h;simp only[gH,pT]at hb;obtain⟨⟨⟨rfl,h1⟩,h2⟩,h3⟩:=hb;exact⟨_,_,.iA (ρ:=ρ) (.Bp (.Qv cl ho x y ht (by rw[hx];rfl) hob h1 h2 h3 h4 h5 hy aj (aq h6) (aq h7)) (jL.trans (jL.jT H id λob' h'=>by rw[hob]at h';cases h';rw[h1];decide) (jL.push _ _ (λe=>by cases e)))),by simpa using jn h8⟩
   .exact c7
  .exact c7
def WR(ho:o.op=.call cl){y:Operand}{i:TypeInfo}(ht:Bf P cl x y e i z)(h:Lz P H ρ x y e i K):∃c H',fO P o ρ H c H'/\K c H':=by
 unfold Lz at h;split at h
 rotate_left
 .exact c7
 rename_i sz' rows' hy;split at h
 .rename_i id sz rows hx;split at h
  .rename_i ob hob
   replace h:=zY h
   obtain⟨hz,h⟩:=h;have hz:=eq_of_beq hz;subst hz;have h:=qz h;obtain⟨h1,h2,h3,h4,h5⟩:=h;exact⟨_,_,.HR cl ho x y ht hx hob h1 hy h2 h3 h4,D2 h5⟩
  .exact c7
 .rename_i sz rows hx;rcases h with h|h
  .unfold Sg at h;have h:=qz h;have h:=qz h;obtain⟨h1,h2,h3,h4,h5⟩:=h;exact⟨_,_,.JP cl ho x y ht hx h1 hy h2 h3 h4,jn h5⟩
  .exact Om ho ht hy (hx ▸ h)
 .exact Om ho ht hy h
def Array.yI{a:Array α}(h:a.toList=l):a=l.toArray:=by subst h;simp
def YN(ho:o.op=.call cl)(h:IC P H ρ o cl K):∃c H',fO P o ρ H c H'/\K c H':=by
 have hns:x8 o=true:=by simp[x8,ho]
 have scal:∀(h:match nh P (execOp (λx=>BP (ρ x)) o) with
   |some (.value v)=>bK (o.op.operands.toList.all (λx=>fV (ρ x)) && v.oneCell') <|okB (.v v) λc=>K c H
   |_=>False),∃c H',fO P o ρ H c H'/\K c H':=by
  intro h;split at h
  .rename_i v e;obtain⟨h1,h2⟩:=zY h;simp only[gH,sM]at h1;exact⟨.v v,H,.same <|.scalar hns h1.1 e h1.2,jv (k:=λc=>K c H) h2⟩
  .exact c7
 unfold IC at h;split at h
 .rename_i x hcl;split at h
  .rename_i f first caps hf;obtain⟨h1,r,H',h2,h3⟩:=zY h;exact⟨r,H',.Mw cl ho x hcl hf h1 h2,jv (k:=λc=>K c H') h3⟩
  .rename_i g first caps hf;split at h
   .rename_i l;obtain⟨h1,r,H',h2,h3⟩:=zY h;simp only[gH,Array.isEmpty_iff]at h1;obtain⟨rfl,rfl⟩:=h1;exact⟨r,H',.yield cl ho x hcl hf h2,jv (k:=λc=>K c H') h3⟩
   .exact c7
  .exact c7
 .rename_i x name hcl;split at h
  .rename_i t c hx;obtain⟨f,hm,hcb,r,H',h2,h3⟩:=h;exact⟨r,H',.invoke cl ho x name hcl hx hm hcb h2,jv (k:=λc=>K c H') h3⟩
  .exact c7
 .rename_i hcl;split at h
  .rename_i x t hx ht;split at h
   .rename_i e hu;split at h
    .rename_i n hn;exact⟨_,H,.iA (ρ:=ρ) <|.same <|.len cl ho hcl x (Array.yI hx) (Array.yI ht) hu hn,h⟩
    .exact c7
   .rename_i hu;split at h
    .rename_i s hs;obtain⟨⟨b⟩⟩:=s;exact⟨_,H,.same <|.SM cl ho hcl x (Array.yI hx) (Array.yI ht) hu hs,h⟩
    .exact c7
   .exact scal h
  .exact c7
 .rename_i hcl;split at h
  .rename_i x y t t' hx ht;obtain⟨ht',h⟩:=zY h;simp only[pT]at ht';subst ht';split at h
   .rename_i e hu;split at h
    .rename_i i hi;split at h
     .rename_i z hz;exact WR ho ⟨hcl,Array.yI hx,⟨_,Array.yI ht,hu⟩,hi,hz,by simpa using (zY h).1⟩ (zY h).2
     .exact c7
    .exact c7
   .exact c7
  .exact c7
 .exact scal h
def ztD(ho:ML o=some (op,t,x))(h:MS P H op t (ρ x) K):jK P o ρ H K:=by
 obtain⟨t',ho⟩:∃t',o.op=.binOp op t x (.const (.slice none 0 0)) t':=by
  unfold ML at ho;split at ho
  .rename_i h1;split at ho
   .split at ho
    .cases ho;exact⟨_,h1⟩
    .cases ho
   .cases ho
  .cases ho
 unfold MS at h;split at h
 .rename_i e hu;split at h
  .rename_i fo sz rows hx;split at h
   .split at h
    .exact .SW .eql t t' x ho (.inl V) hu hx h.1 h.2
    .exact .SW .neq t t' x ho (.inr V) hu hx h.1 h.2
    .exact c7
   .split at h
    .exact(oH.Ix .eql t t' x ho (.inl V) hu (.inl ⟨_,_,_,hx,h.1⟩)).lh h.2
    .exact(oH.Ix .neq t t' x ho (.inr V) hu (.inl ⟨_,_,_,hx,h.1⟩)).lh h.2
    .exact c7
  .rename_i hx;split at h
   .exact(oH.Ix .eql t t' x ho (.inl V) hu (.inr ⟨_,_,_,_,_,_,hx⟩)).lh h
   .exact(oH.Ix .neq t t' x ho (.inr V) hu (.inr ⟨_,_,_,_,_,_,hx⟩)).lh h
   .exact c7
  .exact c7
 .exact c7
def O3{x:C}(h:LY x=some b):∀E u,L E x u->∃a,u=.pointer a/\a.isNone=b:=by
 intro E u hl;unfold LY at h;split at h
 .cases h;cases hl;exact⟨_,rfl,rfl⟩
 .cases h;cases hl;exact⟨_,rfl,rfl⟩
 .split at h
  .split at h <;> (cases h;cases hl;exact⟨_,rfl,rfl⟩)
  .cases h
 .cases h
def zt3(ho:MM o=some (op,t,x))(h:JM P H op t (ρ x) K):∃c,oH P o ρ H c H/\K c H:=by
 obtain⟨t',ho⟩:∃t',o.op=.binOp op t x (.const (.pointer none)) t':=by
  unfold MM at ho;split at ho
  .rename_i h1;split at ho
   .split at ho
    .split at ho
     .cases ho;exact⟨_,h1⟩
     .cases ho
    .cases ho
   .cases ho
  .cases ho
 have hT:I6 P t=true->P.underlying t=some (.pointer (P.pointee t)):=λhp=>by
  unfold I6 at hp;split at hp
  .rename_i e hu;have he:e=P.pointee t:=by simpa using hp
   rw[hu,he]
  .cases hp
 unfold JM at h;split at h
 .rename_i b hb;split at h
  .exact⟨_,.S4 .eql t t' x ho (.inl V) (hT (zY h).1) b (O3 hb),(zY h).2⟩
  .exact⟨_,.S4 .neq t t' x ho (.inr V) (hT (zY h).1) b (O3 hb),(zY h).2⟩
  .exact c7
 .exact c7
def Zw{y:Operand}(ho:o.op=.makeSlice t x y)(h:MD P H ρ t x y K):∃c H',fO P o ρ H c H'/\K c H':=by
 unfold MD at h;split at h
 .rename_i k n k' n' hx hy;split at h
  .rename_i e hu;split at h
   .rename_i i hi;split at h
    .rename_i cs hz;obtain⟨h1,rfl,h2,h3,h4,h5⟩:=zY h;have h5:=qz h5;have h5:=qz h5;exact⟨_,_,.EN (.makeSlice t x y ho hu hi hz h1 hx hy h2 h3 h4) _ (λe=>by cases e) rfl,jn h5⟩
    .exact c7
   .exact c7
  .exact c7
 .exact c7
def Pj{src dst:TypeId}(ho:o.op=.convert src dst x)(h:Mq P H ρ o src dst x K):∃c,(∀H2,fO P o ρ H2 c H2)/\K c H:=by
 unfold Mq at h;split at h
 .rename_i fo sz rows hx;split at h
  .rename_i e hs hd;split at h
   .rename_i he;obtain⟨h1,bts,rfl,h2⟩:=zY h;have h1:=eq_of_beq h1;subst h1;exact⟨_,λH2=>.iA (ρ:=ρ) <|.same <|.zsL src dst x ho hs he hd hx,h2⟩
   .exact c7
  .exact c7
 .exact wT h
def J5(h:Au P H ρ o K):∃c H',fO P o ρ H c H'/\K c H':=by
 unfold Au at h;split at h
 .rename_i x ho;exact⟨_,H,.same <|.move x (.inl ho),zR (k:=λc=>K c H) h⟩
 .rename_i x ho;exact⟨_,H,.same <|.move x (.inr ho),zR (k:=λc=>K c H) h⟩
 .rename_i x y z ho;split at h
  .rename_i b hb;exact⟨_,H,.same <|.pick x y z ho b hb,zR (k:=λc=>K c H) h⟩
  .exact c7
 .rename_i t ho;split at h
  .rename_i cs hz;have h:=jn (k:=λcs=>jA cs.length λn=>jA H.length λm=>xI (H++[⟨1,t,n,[cs],0⟩]) λH'=>K (.ref m [] n 0 0) H') h;have h:=qz (k:=λn=>jA H.length λm=>xI (H++[⟨1,t,n,[cs],0⟩]) λH'=>K (.ref m [] n 0 0) H') h;have h:=qz (k:=λm=>xI (H++[⟨1,t,cs.length,[cs],0⟩]) λH'=>K (.ref m [] cs.length 0 0) H') h;exact⟨_,_,.EN (.alloc t ho hz) _ (λe=>by cases e) rfl,jn (k:=λH'=>K (.ref H.length [] cs.length 0 0) H') h⟩
  .exact c7
 .rename_i t x ho;obtain⟨h0,h⟩:=zY h;have h:=qV (λ_ _ h=>zR h) (k:=λcs=>jA cs.length λn=>jA H.length λm=>xI (H++[⟨1,t,n,[cs],0⟩]) λH'=>K (.ref m [] n 0 0) H') h;have h:=qz (k:=λn=>jA H.length λm=>xI (H++[⟨1,t,n,[(ρ x).cells],0⟩]) λH'=>K (.ref m [] n 0 0) H') h;have h:=qz (k:=λm=>xI (H++[⟨1,t,(ρ x).cells.length,[(ρ x).cells],0⟩]) λH'=>K (.ref m [] (ρ x).cells.length 0 0) H') h;exact⟨_,_,.EN (.box t x ho h0) _ (λe=>by cases e) rfl,jn (k:=λH'=>K (.ref H.length [] (ρ x).cells.length 0 0) H') h⟩
 .rename_i t x f ho;obtain⟨c,h1,h2⟩:=OT ho h;exact⟨c,H,h1 H,h2⟩
 .rename_i t x y ho;obtain⟨c,h1,h2⟩:=OY (ρ:=λx=>iA (ρ x)) ho h;exact⟨c,H,(h1 H).iA,h2⟩
 .rename_i t x y ho;obtain⟨c,h1,h2⟩:=OZ ho h;exact⟨c,H,h1 H,h2⟩
 .rename_i t x f ho;obtain⟨c,h1,h2⟩:=OU ho h;exact⟨c,H,h1 H,h2⟩
 .rename_i t x ho;obtain⟨c,h1,h2⟩:=Hc h;exact⟨c,H,.same <|.load t x ho h1,h2⟩
 .rename_i t x y ho;split at h
  .obtain⟨H',h1,h2⟩:=ON h;exact⟨_,H',.Uf t x y ho h1,h2⟩
  .obtain⟨H',h1,h2⟩:=ON h;exact⟨_,H',.Bp (.store t x y ho h1) (J0 h1),h2⟩
 .rename_i x n ho;split at h
  .rename_i vs hx;split at h
   .rename_i c hc;exact⟨c,H,.same <|.extract x n ho hx hc,zR (k:=λc=>K c H) (jv (k:=λc=>qW c λc=>K c H) h)⟩
   .exact c7
  .exact c7
 .rename_i x ho;exact⟨_,H,.same <|.nilCheck x ho (zY h).1,zR (k:=λc=>K c H) (zY h).2⟩
 .rename_i f first caps ho;split at h
  .have h:=qV (λ_ _ h=>zR h) h;exact⟨_,H,.same <|.makeFunc _ first caps ho,qV (λ_ _ h=>zR h) (k:=λb=>K (.fn _ (first.toList.map ρ) b) H) h⟩
  .exact c7
 .rename_i t parts ho;obtain⟨cs,hc,h⟩:=Oy h;exact⟨_,H,.same <|.build t parts ho hc,h⟩
 .rename_i t x ho;split at h
  .rename_i d hd;obtain⟨h1,h2⟩:=zY h;exact⟨_,H,.zts t x ho hd h1,zR (k:=λc=>K (.iF t c) H) h2⟩
  .exact c7
 .rename_i x xT t ok ho
  replace h:=zY h
  obtain⟨h1,h⟩:=h;subst h1;split at h
  .rename_i t' c hx;split at h
   .rename_i d hd;split at h
    .rename_i he;obtain rfl:t'=t:=by simpa using he
     exact⟨_,H,.zsz x xT t' ho hx hd (zY h).1,(zY h).2⟩
    .rename_i he;split at h
     .rename_i i hi;have h2:=(zY h).1;rw[gH]at h2;exact⟨_,H,.zuN x xT t ho hx he hd h2.1 hi h2.2,(zY h).2⟩
     .exact c7
   .exact c7
  .exact c7
 .rename_i t len parts ho;split at h
  .rename_i c hc;split at h
   .rename_i o' sz rows;have h:=qV (λ_ _ h=>qV (λ_ _ h=>zR h) h) (k:=λrows=>jA sz λsz=>K (.fF o' sz rows) H) h;exact⟨_,H,.same <|(qU.buildSlice (ρ:=λz=>AS (ρ z)) t len parts ho hc).weaken λz E v hl=>K5 hl,qz (k:=λsz=>K (.fF o' sz rows) H) h⟩
   .exact c7
  .exact c7
 .rename_i t x lo hi mx ho;obtain⟨c,h1,h2⟩:=OI (ρ:=λx=>iA (ρ x)) ho h;exact⟨c,H,(h1 H).iA,h2⟩
 .rename_i t x y ho;exact Zw ho h
 .exact h
 .exact h
 .exact h
 .exact h
 .rename_i cl ho;exact YN ho h
 .rename_i op t x y t' ho;split at h
  .rename_i xs ys hx hy;obtain⟨h1,h⟩:=h;simp only[gH,pK]at h1;split at h
   .rename_i b hb;split at h
    .exact⟨_,H,.same <|.HV .eql t t' x y ho (.inl V) h1.1 h1.2 hx hy hb,jv (k:=λc=>K c H) h⟩
    .exact⟨_,H,.same <|.HV .neq t t' x y ho (.inr V) h1.1 h1.2 hx hy hb,jv (k:=λc=>K c H) h⟩
    .exact c7
   .exact c7
  .rename_i s s' hx hy;obtain⟨⟨a⟩⟩:=s;obtain⟨⟨b⟩⟩:=s';obtain⟨c,h1,h2⟩:=QF ho hx hy h;exact⟨c,H,h1 H,h2⟩
  .obtain⟨c,h1,h2⟩:=wT h;exact⟨c,H,h1 H,h2⟩
 .rename_i src dst x ho;obtain⟨c,h1,h2⟩:=Pj ho h;exact⟨c,H,h1 H,h2⟩
 .split at h
  .rename_i v e;obtain⟨h1,h2⟩:=zY h;simp only[gH,sM]at h1;exact⟨.v v,H,.same <|.scalar h1.1.1 h1.1.2 e h1.2,Qk (k:=λc=>K c H) h2⟩
  .exact c7
 .obtain⟨c,h1,h2⟩:=wT h;exact⟨c,H,h1 H,h2⟩
end
def Ga(calls:Bool)(o:Oper):Bool:=
 match o.op with
 |.alloc _|.box .. |.store .. |.makeSlice .. |.makeMap .. |.mapUpdate .. |.insert .. |.mapEntry .. |.entryStore ..=>true
 |.call cl=>match cl.callee with
  |.builtin .len=>false
  |.builtin _=>true
  |_=>calls
 |_=>false
def x3(o:Oper):Bool:=
 match o.op with
 |.move _|.assign _|.pick .. |.fieldAddr .. |.indexAddr .. |.extract .. |.nilCheck _|.makeFunc .. |.build .. |.buildSlice .. |.slice .. |.index .. |.field .. |.binOp .. |.unOp .. |.convert ..=>true
 |.call cl=>match cl.callee with
  |.builtin .len=>true
  |_=>false
 |_=>false
section
variable {P:Program} {o:Oper} {ρ:Operand->C} {H:zn} {K:C->zn->Prop}
def OM(hb:x3 o=true)(h:Au P H ρ o K):∃c,(∀H2,fO P o ρ H2 c H2)/\K c H:=by
 unfold Au at h;split at h
 .rename_i x ho;exact⟨_,λH2=>.same <|.move x (.inl ho),zR (k:=λc=>K c H) h⟩
 .rename_i x ho;exact⟨_,λH2=>.same <|.move x (.inr ho),zR (k:=λc=>K c H) h⟩
 .rename_i x y z ho;split at h
  .rename_i b hb;exact⟨_,λH2=>.same <|.pick x y z ho b hb,zR (k:=λc=>K c H) h⟩
  .exact c7
 .rename_i t ho;simp[x3,ho]at hb
 .rename_i t x ho;simp[x3,ho]at hb
 .rename_i t x f ho;exact OT ho h
 .rename_i t x y ho;obtain⟨c,h1,h2⟩:=OY (ρ:=λx=>iA (ρ x)) ho h;exact⟨c,λH2=>(h1 H2).iA,h2⟩
 .rename_i t x y ho;exact OZ ho h
 .rename_i t x f ho;exact OU ho h
 .rename_i t x ho;simp[x3,ho]at hb
 .rename_i t x y ho;simp[x3,ho]at hb
 .rename_i x n ho;split at h
  .rename_i vs hx;split at h
   .rename_i c hc;exact⟨c,λH2=>.same <|.extract x n ho hx hc,zR (k:=λc=>K c H) (jv (k:=λc=>qW c λc=>K c H) h)⟩
   .exact c7
  .exact c7
 .rename_i x ho;exact⟨_,λH2=>.same <|.nilCheck x ho (zY h).1,zR (k:=λc=>K c H) (zY h).2⟩
 .rename_i f first caps ho;split at h
  .have h:=qV (λ_ _ h=>zR h) h;exact⟨_,λH2=>.same <|.makeFunc _ first caps ho,qV (λ_ _ h=>zR h) (k:=λb=>K (.fn _ (first.toList.map ρ) b) H) h⟩
  .exact c7
 .rename_i t parts ho;obtain⟨cs,hc,h⟩:=Oy h;exact⟨_,λH2=>.same <|.build t parts ho hc,h⟩
 .rename_i t x ho;simp[x3,ho]at hb
 .rename_i x xT t ok ho;simp[x3,ho]at hb
 .rename_i t len parts ho;split at h
  .rename_i c hc;split at h
   .rename_i o' sz rows;have h:=qV (λ_ _ h=>qV (λ_ _ h=>zR h) h) (k:=λrows=>jA sz λsz=>K (.fF o' sz rows) H) h;exact⟨_,λH2=>.same <|(qU.buildSlice (ρ:=λz=>AS (ρ z)) t len parts ho hc).weaken λz E v hl=>K5 hl,qz (k:=λsz=>K (.fF o' sz rows) H) h⟩
   .exact c7
  .exact c7
 .rename_i t x lo hi mx ho;obtain⟨c,h1,h2⟩:=OI (ρ:=λx=>iA (ρ x)) ho h;exact⟨c,λH2=>(h1 H2).iA,h2⟩
 .rename_i t x y ho;simp[x3,ho]at hb
 .rename_i ho;simp[x3,ho]at hb
 .rename_i ho;simp[x3,ho]at hb
 .rename_i ho;simp[x3,ho]at hb
 .rename_i ho;simp[x3,ho]at hb
 .rename_i cl ho
  have hc:cl.callee=.builtin .len:=by
   simp only[x3,ho]at hb;split at hb
   .assumption
   .cases hb
  have hns:x8 o=true:=by simp[x8,ho]
  unfold IC at h;rw[hc]at h;dsimp only at h;split at h
  .rename_i x t hx ht;split at h
   .rename_i e hu;split at h
    .rename_i n hn;exact⟨_,λH2=>.iA (ρ:=ρ) <|.same <|.len cl ho hc x (Array.yI hx) (Array.yI ht) hu hn,h⟩
    .exact c7
   .rename_i hu;split at h
    .rename_i s hs;obtain⟨⟨b⟩⟩:=s;exact⟨_,λH2=>.same <|.SM cl ho hc x (Array.yI hx) (Array.yI ht) hu hs,h⟩
    .exact c7
   .split at h
    .rename_i v e;obtain⟨h1,h2⟩:=zY h;simp only[gH,sM]at h1;exact⟨.v v,λH2=>.same <|.scalar hns h1.1 e h1.2,jv (k:=λc=>K c H) h2⟩
    .exact c7
  .exact c7
 .rename_i op t x y t' ho;split at h
  .rename_i xs ys hx hy;obtain⟨h1,h⟩:=h;simp only[gH,pK]at h1;split at h
   .rename_i b hb;split at h
    .exact⟨_,λH2=>.same <|.HV .eql t t' x y ho (.inl V) h1.1 h1.2 hx hy hb,jv (k:=λc=>K c H) h⟩
    .exact⟨_,λH2=>.same <|.HV .neq t t' x y ho (.inr V) h1.1 h1.2 hx hy hb,jv (k:=λc=>K c H) h⟩
    .exact c7
   .exact c7
  .rename_i s s' hx hy;obtain⟨⟨a⟩⟩:=s;obtain⟨⟨b⟩⟩:=s';exact QF ho hx hy h
  .exact wT h
 .rename_i src dst x ho;exact Pj ho h
 .split at h
  .rename_i v e;obtain⟨h1,h2⟩:=zY h;simp only[gH,sM]at h1;exact⟨.v v,λH2=>.same <|.scalar h1.1.1 h1.1.2 e h1.2,Qk (k:=λc=>K c H) h2⟩
  .exact c7
 .exact wT h
end
section
variable {P:Program} {B:Nat} {ops:Array Oper} {md:Region.Mode} {Hs:Nat->zn} {eff:Nat->Bool} {idx:Nat->Nat} {inR:Nat->Nat->Bool}
def FN(md:Region.Mode)(ms:List Nat)(o:Oper):List Nat:=
 ms++[o.after.toList.foldl (λm e=>if Region.binds md e then m ||| (1 <<< e.on) ||| (ms[e.on]?).getD 0 else m) 0]
def oZ(md:Region.Mode)(ops:Array Oper):List Nat:=ops.toList.foldl (FN md) []
def AE(md:Region.Mode)(ops:Array Oper)(ms:List Nat)(j i:Nat):Bool:=Nat.testBit ((ms[j]?).getD 0) i
def Qn{md:Region.Mode}{ms:List Nat}{i:Nat}:∀{l:List Edge} {m0:Nat},Nat.testBit (l.foldl (λm e=>if Region.binds md e then m ||| (1 <<< e.on) ||| (ms[e.on]?).getD 0 else m) m0) i=true->
  Nat.testBit m0 i=true\/∃e∈l,Region.binds md e=true/\(e.on=i\/Nat.testBit ((ms[e.on]?).getD 0) i=true)
 |[],m0,h=>.inl h
 |e::l,m0,h=>by
  rw[fq]at h;rcases Qn h with h1|⟨e',h1,h2⟩
  .split at h1
   .rename_i hb;simp only[Nat.testBit_or,rD]at h1;rcases h1 with(h1|h1)|h1
    .exact .inl h1
    .refine .inr ⟨e,aj,hb,.inl ?_⟩;rw[Nat.testBit_shiftLeft]at h1;simp only[gH,gR]at h1;obtain⟨h2,h3⟩:=h1;have:=Nat.testBit_one_eq_true_iff_self_eq_zero.1 h3;omega
    .exact .inr ⟨e,aj,hb,.inr h1⟩
   .exact .inl h1
  .exact .inr ⟨e',aD,h2⟩
def CH(md:Region.Mode)(l:List Oper)(ms:List Nat):Prop:=ms.length=l.length/\∀(j i:Nat),Nat.testBit ((ms[j]?).getD 0) i=true->
  ∃oj,l[j]?=some oj/\∃e∈oj.after,Region.binds md e=true/\(e.on=i\/(e.on<j/\Nat.testBit ((ms[e.on]?).getD 0) i=true))
def CH.step{l:List Oper}{ms:List Nat}(h0:CH md l ms)(o:Oper):CH md (l++[o]) (FN md ms o):=by
 obtain⟨ih1,ih2⟩:=h0;refine⟨by simp[FN,ih1],?_⟩;intro j i h;unfold FN at h|-;by_cases hj:j<ms.length
 .rw[gF hj]at h;obtain⟨oj,h1,e,h2,h3,h4⟩:=ih2 j i h;refine⟨oj,by rw[gF aw];exact h1,e,h2,h3,h4.imp id λ⟨h5,h6⟩=>⟨h5,?_⟩⟩;rw[gF aw];exact h6
 .rw[gP aw]at h
  have hj0:j-ms.length=0:=by
   rcases sV (j-ms.length) with h0|h0
   .exact h0
   .rw[pM aA]at h;simp at h
  rw[hj0]at h;simp only[uw,Option.getD_some]at h;rcases Qn h with h1|⟨e,h1,h2,h3⟩
  .simp at h1
  .refine⟨o,by rw[gP aw,<-ih1,hj0];rfl,e,aq h1,h2,h3.imp id λh4=>?_⟩
   have fE:e.on<ms.length:=by
    rcases r6 e.on ms.length with h5|h5
    .exact h5
    .rw[pM h5]at h4;simp at h4
   exact⟨aw,by rw[gF fE];exact h4⟩
def CH.fold{md:Region.Mode}:∀{l pre:List Oper} {ms:List Nat},CH md pre ms->CH md (pre++l) (l.foldl (FN md) ms)
 |[],pre,ms,h=>by simpa using h
 |o::l,pre,ms,h=>by
  have:=(h.step o).fold (l:=l);simpa using this
def Ph(ops:Array Oper):CH md ops.toList (oZ md ops):=by
 have:=CH.fold (md:=md) (l:=ops.toList) (pre:=[]) (ms:=[]) ⟨rfl,aj⟩;simpa [oZ] using this
def Down(md:Region.Mode)(ops:Array Oper)(listed:Array Bool):Prop:=∀j oj,ops[j]?=some oj->listed.getD j false=true->∀e∈oj.after,Region.binds md e=true->listed.getD e.on false=true
def Down.start:Down md ops (Array.replicate ops.size false):=λj oj _ h=>by
 exfalso
 rw[pO,Array.getElem?_replicate]at h;split at h <;> simp at h
def Down.dep(hd:Down md ops listed)(j i:Nat)(hj:listed.getD j false=true)(h:AE md ops (oZ md ops) j i=true):listed.getD i false=true:=by
 induction j using Nat.strongRecOn with
 |_ j ih=>
  obtain⟨oj,h1,e,h2,h3,h4⟩:=(Ph (md:=md) ops).2 j i h;have h5:=hd j oj tG hj e h2 h3;rcases h4 with rfl|⟨h6,h7⟩
  .exact h5
  .exact ih e.on h6 h5 h7
def Down.ready(hd:Down md ops listed)(hj:j∈Region.ready md ops listed)(h:AE md ops (oZ md ops) j i=true):listed.getD i false=true:=by
 obtain⟨_,oj,ho,qb⟩:=mem_ready.1 hj;obtain⟨oj',h1,e,h2,h3,h4⟩:=(Ph (md:=md) ops).2 j i h
 have e1:oj'=oj:=by
  have:ops[j]?=some oj':=aq h1
  rw[ho]at this;cases this
  rfl
 subst e1;have h5:=qb e h2 h3;rcases h4 with rfl|⟨h6,h7⟩
 .exact h5
 .exact hd.dep e.on i h5 h7
def Down.step(hd:Down md ops listed)(hi:i∈Region.ready md ops listed):Down md ops (listed.setIfInBounds i true):=λj oj ho hj e he hb=>by
 by_cases hji:i=j
 .subst hji;obtain⟨_,oi,ho',qb⟩:=mem_ready.1 hi;rw[ho]at ho';cases ho'
  exact getD_set_true (qb e he hb)
 .rw[getD_set_ne false hji]at hj;exact getD_set_true (hd j oj ho hj e he hb)
def QA(P:Program)(ops:Array Oper)(Hs:Nat->zn)(r:Nat->Bool)(o:Oper)(c:C)(t:List C):Prop:=
 (jt ops t o=some true/\∀k,r k=true->fO P o (ev t) (Hs k) c (Hs k))\/(jt ops t o=some false/\c=.un)
def EA(P:Program)(ops:Array Oper)(H H':zn)(o:Oper)(c:C)(t:List C):Prop:=
 (jt ops t o=some true/\fO P o (ev t) H c H')\/(jt ops t o=some false/\c=.un/\H'=H)
def QA.put{r:Nat->Bool}{o:Oper}{c x:C}{t:List C}{dst:Option Tmp}(h:∀d,dst=some d->d∉o.looksAt ops):QA P ops Hs r o c (put t dst x)↔QA P ops Hs r o c t:=by
 unfold QA;rw[vO h];constructor
 .rintro(⟨h1,h2⟩|h1)
  .exact .inl ⟨h1,λk hk=>(fO.put h).1 (h2 k hk)⟩
  .exact .inr h1
 .rintro(⟨h1,h2⟩|h1)
  .exact .inl ⟨h1,λk hk=>(fO.put h).2 (h2 k hk)⟩
  .exact .inr h1
def EA.put{H H':zn}{o:Oper}{c x:C}{t:List C}{dst:Option Tmp}(h:∀d,dst=some d->d∉o.looksAt ops):EA P ops H H' o c (put t dst x)↔EA P ops H H' o c t:=by
 unfold EA;rw[vO h,fO.put h]
def IX(P:Program)(ops:Array Oper)(Hs:Nat->zn)(eff:Nat->Bool)(idx:Nat->Nat)(inR:Nat->Nat->Bool)(i:Nat)(o:Oper)(c:C)(n':Nat)(t:List C)(n:Nat):Prop:=
 (eff i=false/\inR i n=true/\QA P ops Hs (inR i) o c t/\n'=n)\/(eff i=true/\idx i=n/\EA P ops (Hs n) (Hs (n+1)) o c t/\n'=n+1)
def nU(P:Program)(ops:Array Oper)(Hs:Nat->zn)(eff:Nat->Bool)(idx:Nat->Nat)(inR:Nat->Nat->Bool)(i:Nat)(K:List C->Nat->Prop)(t:List C)(n:Nat):Prop:=
 match ops[i]? with
 |none=>K t n
 |some o=>∃c n',IX P ops Hs eff idx inR i o c n' t n/\K (put t o.dst c) n'
def zsm{t:List C}{n:Nat}{K K':List C->Nat->Prop}(h:∀t n,K t n->K' t n)(hh:nU P ops Hs eff idx inR i K t n):nU P ops Hs eff idx inR i K' t n:=by
 unfold nU at *;split
 .exact h _ _ (by simpa [*] using hh)
 .rename_i o ho;simp only[ho]at hh;obtain⟨c,n',h1,h2⟩:=hh;exact⟨c,n',h1,h _ _ h2⟩
def Cg(P:Program)(ops:Array Oper)(Hs:Nat->zn)(eff:Nat->Bool)(idx:Nat->Nat)(inR:Nat->Nat->Bool)(Q:List C->Nat->Prop):List Oper->Nat->List C->Nat->Prop
 |[],_,t,n=>Q t n
 |_::l,k,t,n=>nU P ops Hs eff idx inR k (Cg P ops Hs eff idx inR Q l (k+1)) t n
def Gv(P:Program)(md:Region.Mode)(ops:Array Oper)(Hs:Nat->zn)(eff:Nat->Bool)(idx:Nat->Nat)(inR:Nat->Nat->Bool)(Q:List C->Nat->Prop):Nat->Array Bool->List C->Nat->Prop
 |0,listed,t,n=>Region.ready md ops listed=[]/\Q t n
 |fuel+1,listed,t,n=>(Region.ready md ops listed=[]->Q t n)/\∀i∈Region.ready md ops listed,nU P ops Hs eff idx inR i (Gv P md ops Hs eff idx inR Q fuel (listed.setIfInBounds i true)) t n
def yK{q:Option Nat}{m:Nat}{H0:zn}{Q:List C->Nat->Prop}{w0:World}{E0:Env}{Q':Exit->Act->World->Prop}(hQ:∀t n w E a,Q t n->yi B m w E ⟨t,Hs n⟩ a->jS B w0 E0 H0 w E (Hs n)->Q' .normal a w):
  ∀(fuel:Nat) (listed:Array Bool) (t:List C) (n:Nat) (w:World) (E:Env) (a:Act),yi B m w E ⟨t,Hs n⟩ a->jS B w0 E0 H0 w E (Hs n)->Gv P md ops Hs eff idx inR Q fuel listed t n->wpAnyIn (fw q) 0 P md ops Q' fuel listed a w
 |0,_,t,n,w,E,a,hs,hg,h=>⟨h.1,hQ t n w E a h.2 hs hg⟩
 |fuel+1,listed,t,n,w,E,a,hs,hg,h=>⟨λh0=>hQ t n w E a (h.1 h0) hs hg,λi hi=>by
   have h1:=h.2 i hi;unfold nU at h1;unfold wpOpIn;split
   .rename_i ho;simp only[ho]at h1;exact yK hQ fuel _ t n w E a hs hg h1
   .rename_i o ho;simp only[ho]at h1;obtain⟨c,n',hf,hK⟩:=h1;rcases hf with⟨_,hin,⟨hw,hv⟩|⟨hw,rfl⟩,rfl⟩|⟨_,_,⟨hw,hv⟩|⟨hw,rfl,he⟩,rfl⟩
    .rw[gz (j6 hs.tmps hw)];exact Ax.Iy (s:=⟨t,Hs n'⟩) (hv _ hin) q m w E a _ Q' hs λw' E' a' h2 g2=>yK hQ fuel _ (put t o.dst c) n' w' E' a' h2 (hg.trans g2) hK
    .rw[gp bE];exact⟨λ_ _=>trivial,yK hQ fuel _ (put t o.dst .un) n' w E _ (hs.put .un o.dst) hg hK⟩
    .rw[gz (j6 hs.tmps hw)];exact Ax.Iy (s:=⟨t,Hs n⟩) hv q m w E a _ Q' hs λw' E' a' h2 g2=>yK hQ fuel _ (put t o.dst c) (n+1) w' E' a' h2 (hg.trans g2) hK
    .rw[gp bE];have hs':=hs.put .un o.dst;exact⟨λ_ _=>trivial,yK hQ fuel _ (put t o.dst .un) (n+1) w E _ (by rw[he];exact hs') (by rw[he];exact hg) hK⟩⟩
structure EY(md:Region.Mode)(ops:Array Oper)(eff:Nat->Bool)(idx:Nat->Nat)(inR:Nat->Nat->Bool)(i j:Nat):Prop where
 c1:eff i=false->eff j=true->AE md ops (oZ md ops) j i=false->inR i (idx j)=true->inR i (idx j+1)=true
 c2:eff i=true->eff j=false->AE md ops (oZ md ops) j i=false->inR j (idx i+1)=true->inR j (idx i)=true
def zsn{oj:Oper}{c:C}{n ni:Nat}(hj:ops[j]?=some oj)(hap:oi.apart ops oj=true)(he:eff i=true->eff j=false)(hp:EY md ops eff idx inR i j)(hno:AE md ops (oZ md ops) j i=false){K:List C->Nat->Prop}{t:List C}
 (hf:IX P ops Hs eff idx inR i oi c ni t n)(h:nU P ops Hs eff idx inR j K (put t oi.dst c) ni):
  nU P ops Hs eff idx inR j (λt' n'=>∃n2,IX P ops Hs eff idx inR i oi c n2 t' n'/\K (put t' oi.dst c) n2) t n:=by
 obtain⟨h1,h2,h3⟩:=Oper.apart_spec hap;unfold nU at *;simp only[hj] at *;obtain⟨cj,nj,hfj,hK⟩:=h;rw[put_comm _ _ h2]at hK;rcases hf with⟨e1,e2,e3,rfl⟩|⟨e1,e2,e3,rfl⟩
 .rcases hfj with⟨f1,f2,f3,rfl⟩|⟨f1,f2,f3,rfl⟩
  .exact⟨cj,nj,.inl ⟨f1,f2,(QA.put h1).1 f3,rfl⟩,nj,.inl ⟨e1,e2,(QA.put h3).2 e3,rfl⟩,hK⟩
  .refine⟨cj,ni+1,.inr ⟨f1,f2,(EA.put h1).1 f3,rfl⟩,ni+1,.inl ⟨e1,?_,(QA.put h3).2 e3,rfl⟩,hK⟩;rw[<-f2];exact hp.c1 e1 f1 hno (by rw[f2];exact e2)
 .rcases hfj with⟨f1,f2,f3,rfl⟩|⟨f1,f2,f3,rfl⟩
  .refine⟨cj,n,.inl ⟨f1,?_,(QA.put h1).1 f3,rfl⟩,n+1,.inr ⟨e1,e2,(EA.put h3).2 e3,rfl⟩,hK⟩;rw[<-e2];exact hp.c2 e1 f1 hno (by rw[e2];exact f2)
  .rw[he e1]at f1;cases f1
def XL{Q:List C->Nat->Prop}{c:C}(hi:ops[i]?=some oi):
  ∀(fuel:Nat) (listed:Array Bool) (t:List C) (n ni:Nat),Down md ops listed->
   (∀j oj,ops[j]?=some oj->j≠i->listed.getD j true=false->(∀e∈oj.after,Region.binds md e=true->e.on≠i)->oi.apart ops oj=true/\(eff i=true->eff j=false)/\EY md ops eff idx inR i j)->
   i∈Region.ready md ops listed->IX P ops Hs eff idx inR i oi c ni t n->
   Gv P md ops Hs eff idx inR Q fuel (listed.setIfInBounds i true) (put t oi.dst c) ni->Gv P md ops Hs eff idx inR Q (fuel+1) listed t n:=by
 intro fuel
 induction fuel with
 |zero=>
  intro listed t n ni _ _ hr hy H;refine⟨λh=>bF,λj hj=>?_⟩;by_cases hji:j=i
  .subst hji;unfold nU;simp only[hi];exact⟨c,ni,hy,H⟩
  .have:=ready_mono hj hji;rw[H.1]at this;cases this
 |succ fuel ih=>
  intro listed t n ni hdown hfree hr hy H;refine⟨λh=>bF,λj hj=>?_⟩;by_cases hji:j=i
  .subst hji;unfold nU;simp only[hi];exact⟨c,ni,hy,H⟩
  .have h1:=H.2 j (ready_mono hj hji);obtain⟨hjun,oj,hoj,qb⟩:=mem_ready.1 hj
   have hiun:listed.getD i false=false:=by
    have h0:=(mem_ready.1 hr).1;rcases r6 i listed.size with h'|h'
    .simp[h']at h0|-;exact h0
    .simp[sj h']
   have hnot:∀e∈oj.after,Region.binds md e=true->e.on≠i:=λe he hb heq=>by
    have h1:=qb e he hb;rw[heq,hiun]at h1;cases h1
   have hno:AE md ops (oZ md ops) j i=false:=by
    cases hd:AE md ops (oZ md ops) j i with
    |false=>rfl
    |true=>have:=hdown.ready hj hd;rw[hiun]at this;cases this
   obtain⟨hap,hee,hp⟩:=hfree j oj hoj hji hjun hnot;have h2:=zsn hoj hap hee hp hno hy h1
   have hfree':∀k ok,ops[k]?=some ok->k≠i->(listed.setIfInBounds j true).getD k true=false->
     (∀e∈ok.after,Region.binds md e=true->e.on≠i)->oi.apart ops ok=true/\(eff i=true->eff k=false)/\EY md ops eff idx inR i k:=λk ok hk hki hun hno=>by
    refine hfree k ok hk hki ?_ hno;by_cases hjk:j=k
    .subst hjk;exact hjun
    .rw[getD_set_ne true hjk]at hun;exact hun
   refine zsm (λt' n' ⟨n2,h3,h4⟩=>ih (listed.setIfInBounds j true) t' n' n2 (hdown.step hj) hfree' (ready_mono hr (Ne.symm hji)) h3 ?_) h2;rw[uu _ _ hji];exact h4
def QN{Q:List C->Nat->Prop}(hE:CY md ops eff=true)(hP:∀i j,EY md ops eff idx inR i j):∀(l:List Oper) (k:Nat) (listed:Array Bool) (t:List C) (n:Nat),Down md ops listed->(∀j,l[j]?=ops[k+j]?)->(∀j,j<k->listed.getD j true=true)->
  Region.lexFrom md ops l.length k listed=true->Cg P ops Hs eff idx inR Q l k t n->Gv P md ops Hs eff idx inR Q l.length listed t n
 |[],_,_,_,_,_,_,_,hB,h=>⟨by simpa [Region.lexFrom] using hB,h⟩
 |o::l,k,listed,t,n,hd,hl,hk,hB,h=>by
  have h0:ops[k]?=some o:=by simpa using (hl 0).symm
  simp only[ry,Region.lexFrom,gH]at hB;obtain⟨⟨hr,hf⟩,hB'⟩:=hB;have h':nU P ops Hs eff idx inR k (Cg P ops Hs eff idx inR Q l (k+1)) t n:=h;unfold nU at h';simp only[h0]at h';obtain⟨c,n',hfst,hK⟩:=h';have hr':k∈Region.ready md ops listed:=aq hr
  refine XL h0 l.length listed t n n' hd (λj oj hj hne hun hno=>⟨Region.free_spec h0 hf j oj hj hne hun hno,λhe=>?_,hP k j⟩) hr' hfst
   (QN hE hP l (k+1) _ _ _ (hd.step hr') (λj=>by have:=hl (j+1);simpa [se,fh 1 j] using this) ?_ hB' hK)
  .refine P4 hE he ?_ hj hno;rcases rZ j k with fE|heq|fE
   .rw[hk j fE]at hun;cases hun
   .exact absurd heq hne
   .exact fE
  .intro j hj;by_cases hjk:k=j
   .subst hjk;by_cases fE:k<listed.size
    .simp[fE]
    .simp[fE]
   .rw[getD_set_ne true hjk];exact hk j aw
def Run.Va{id n':Nat}{t t':List C}(hm:P.follows .mixedOrders=true)(hB:Region.lexB .any ops=true)(hE:CY .any ops eff=true)(hP:∀i j,EY .any ops eff idx inR i j)(hH:Hs 0=H)
 (h:Cg P ops Hs eff idx inR (λt n=>t=t'/\n=n') ops.toList 0 t 0):Run P B (.region id ops true) ⟨t,H⟩ .normal ⟨t',Hs n'⟩:=λq m w E a Q _ hs hq=>by
 simp only[Region.lexB,gH]at hB;subst hH;refine wpIn_region_any hm (yK (Hs:=Hs) (eff:=eff) (idx:=idx) (inR:=inR) (H0:=Hs 0) (Q:=λt n=>t=t'/\n=n') (w0:=w) (E0:=E) (λt1 n1 w1 E1 a1 he h1 g1=>by obtain⟨rfl,rfl⟩:=he;exact hq _ _ w1 E1 a1 ⟨rfl,rfl⟩ h1 g1) _ _ t 0 _ E a hs.drew ((Grow.drew w E (Hs 0)).iX tB) ?_);have:=QN (Hs:=Hs) (eff:=eff) (idx:=idx) (inR:=inR) (Q:=λt n=>t=t'/\n=n') (P:=P) (md:=.any) hE hP ops.toList 0 (Array.replicate ops.size false) t 0 Down.start aj (λj hj=>absurd hj (pG j)) (aq hB.2) h;simpa using this
structure mI where
 calls:Bool
 bl:List Nat
 keep:List Nat:=[]
 calm:List Nat:=[]
def AG:List Nat->Nat->Bool
 |[],_=>false
 |x::xs,k=>match Nat.beq x k with|true=>true|false=>AG xs k
def mI.blind(T:mI)(k:Nat):Bool:=AG T.bl k
def mI.F5(T:mI)(k:Nat):Bool:=match T.calls with|true=>!AG T.calm k|false=>false
def l9(T:mI)(ops:Array Oper)(i:Nat):Bool:=match ops[i]? with|some o=>Ga (T.F5 i) o && !T.blind i|none=>false
def yX(T:mI)(ops:Array Oper)(i:Nat):Nat:=((List.range i).filter (l9 T ops)).length
def nC(T:mI)(ops:Array Oper)(i k:Nat):Bool:=match ops[i]? with|some o=>(x3 o || T.blind i) || k == yX T ops i|none=>true
def Me(md:Region.Mode)(T:mI)(ops:Array Oper)(ms:List Nat):Bool:=
 CY md ops (l9 T ops) && (List.range ops.size).all λi=>(List.range ops.size).all λj=>
  (!(l9 T ops j) || l9 T ops i || nC T ops i (yX T ops j+1) || !(nC T ops i (yX T ops j)) || AE md ops ms j i) &&
  (!(l9 T ops i) || l9 T ops j || nC T ops j (yX T ops i) || !(nC T ops j (yX T ops i+1)) || AE md ops ms j i)
def ES(md:Region.Mode)(T:mI)(ops:Array Oper):Bool:=Me md T ops (oZ md ops)
def Y6{T:mI}(h:ES md T ops=true)(i j:Nat):EY md ops (l9 T ops) (yX T ops) (nC T ops) i j:=by
 simp only[ES,Me,gH,gE,rG]at h
 have he:∀i,l9 T ops i=true->i<ops.size:=λi hi=>by
  unfold l9 at hi;split at hi
  .rename_i o ho;exact(gM.1 ho).1
  .cases hi
 have hin:∀i k,¬i<ops.size->nC T ops i k=true:=λi k hi=>by
  unfold nC;rw[sj aw]
 constructor
 .intro h1 h2 h3 h4;by_cases hi:i<ops.size
  .have:=(h.2 i hi j (he j h2)).1;simp only[h1,h2,h3,h4,u3,rY,Bool.or_false]at this;exact dG
  .exact hin i _ hi
 .intro h1 h2 h3 h4;by_cases hj:j<ops.size
  .have:=(h.2 i (he i h1) j hj).2;simp only[h1,h2,h3,h4,u3,rY,Bool.or_false]at this;exact dG
  .exact hin j _ hj
def Gj(o:Oper):Bool:=match o.op with|.load ..=>true|_=>false
def PB{K:C->zn->Prop}(hb:Gj o=true)(h:Au P H ρ o K):∃c,fO P o ρ H c H/\K c H:=by
 unfold Gj at hb;split at hb
 .rename_i t x ho;unfold Au at h;rw[ho]at h;dsimp only at h;obtain⟨c,h1,h2⟩:=Hc h;exact⟨c,.same <|.load t x ho h1,h2⟩
 .cases hb
def w5(keep:List Nat)(H H':zn):Prop:=∀id,AG keep id=true->H'[id]?=H[id]?
theorem w5.refl(keep:List Nat)(H:zn):w5 keep H H:=λ_ _=>rfl
def w5.trans{keep:List Nat}{H H' H'':zn}(h:w5 keep H H')(h':w5 keep H' H''):w5 keep H H'':=λid hi=>(h' id hi).trans (h id hi)
def Gq(H H':zn)(k:Prop):List Nat->Prop
 |[]=>k
 |id::ids=>H'[id]?=H[id]?/\Gq H H' k ids
def Hg{H H':zn}{k:Prop}:∀{keep:List Nat},Gq H H' k keep->w5 keep H H'/\k
 |[],h=>⟨λid hi=>by simp[AG]at hi,h⟩
 |x::xs,h=>by
  obtain⟨h1,h2⟩:=h;obtain⟨h3,h4⟩:=Hg h2;refine⟨λid hi=>?_,h4⟩;unfold AG at hi;split at hi
  .rename_i e;obtain rfl:=Nat.eq_of_beq_eq_true e;exact h1
  .exact h3 id hi
def zsZ{id:Nat}(h:H'[id]?=H[id]?)(hops:List ig):qd H' id hops=qd H id hops:=by unfold qd;rw[h]
def Zv{id:Nat}{k:Nat}(h:H'[id]?=H[id]?):nK P H' t (.ref id hops sz i k)=nK P H t (.ref id hops sz i k):=by
 unfold nK A3;simp only[zsZ h]
def Ik(P:Program)(keep:List Nat)(H:zn)(ρ:Operand->C)(o:Oper)(K:C->zn->Prop):Prop:=
 match o.op with
 |.load t x=>match ρ x with
  |.jy cells=>Gi P H t (.jy cells) λc=>K c H
  |.ref id hops sz i k=>bK (AG keep id) <|Gi P H t (.ref id hops sz i k) λc=>K c H
  |_=>False
 |.call cl=>match cl.callee with
  |.value x=>match ρ x with
   |.fn f first caps=>bK (qh P f) <| ∃r,(∀H2,zb P f H2 (first++(cl.args.toList.map λx=>iA (ρ x))++caps) r H2)/\okB r λr=>K r H
   |_=>False
  |_=>False
 |.makeSlice t x y=>match ρ x,ρ y with
  |.v (.int _ n),.v (.int _ n')=>match P.underlying t with
   |some (.slice e)=>match P.info? e with
    |some i=>match ox P e with
     |some cs=>bK (cs.all xm) <|n'=n/\0<=n/\(i.bytes:Int)*n<=281474976710656/\n<=9223372036854775807/\jA i.size λsz=>K (.fF 0 sz (List.replicate n.toNat cs)) H
     |none=>False
    |none=>False
   |_=>False
  |_,_=>False
 |_=>False
def Ox{keep:List Nat}{K:C->zn->Prop}(h:Ik P keep H ρ o K):∃c,(∀H2,w5 keep H H2->fO P o ρ H2 c H2)/\K c H:=by
 unfold Ik at h;split at h
 .rename_i t x ho;split at h
  .rename_i cells hx;obtain⟨c,h1,h2⟩:=Hc h;refine⟨c,λH2 _=>.same <|.load t x ho ?_,h2⟩;rw[hx,<-h1]
   rfl
  .rename_i id hops sz i k hx;obtain⟨h0,h⟩:=zY h;obtain⟨c,h1,h2⟩:=Hc h;refine⟨c,λH2 hs=>.same <|.load t x ho ?_,h2⟩;rw[hx,<-h1];exact Zv (hs id h0)
  .exact c7
 .rename_i cl ho;split at h
  .rename_i x hcl;split at h
   .rename_i f first caps hf;obtain⟨h1,r,h2,h3⟩:=zY h;exact⟨r,λH2 _=>.Mw cl ho x hcl hf h1 (h2 H2),jv (k:=λc=>K c H) h3⟩
   .exact c7
  .exact c7
 .rename_i t x y ho;split at h
  .rename_i k n k' n' hx hy;split at h
   .rename_i e hu;split at h
    .rename_i i hi;split at h
     .rename_i cs hz;obtain⟨h1,rfl,h2,h3,h4,h5⟩:=zY h;exact⟨_,λH2 _=>.same <|.Zx t x y ho hu hi hz h1 hx hy h2 h3 h4,qz (k:=λsz=>K (.fF 0 sz (List.replicate n'.toNat cs)) H) h5⟩
     .exact c7
    .exact c7
   .exact c7
  .exact c7
 .exact c7
def JG(P:Program)(T:mI)(ops:Array Oper)(o:Oper)(next:Nat->List C->zn->(List C->zn->Prop)->Prop)(k:Nat)(t:List C)(H:zn)(K:List C->zn->Prop):Prop:=
 match jt ops t o with
 |some true=>match T.blind k with
  |true=>Ik P T.keep H (ev t) o λc H'=>oy t o.dst c λt=>next (k+1) t H K
  |false=>match Ga (T.F5 k) o with
   |true=>Au P H (ev t) o λc H'=>Gq H H' (oy t o.dst c λt=>next (k+1) t H' K) T.keep
   |false=>match x3 o || Gj o with
    |true=>Au P H (ev t) o λc H'=>oy t o.dst c λt=>next (k+1) t H' K
    |false=>Au P H (ev t) o λc H'=>H'=H/\oy t o.dst c λt=>next (k+1) t H K
 |some false=>oy t o.dst .un λt=>next (k+1) t H K
 |none=>False
def oF(P:Program)(T:mI)(ops:Array Oper)(l:List Oper):Nat->List C->zn->(List C->zn->Prop)->Prop:=
 List.rec (motive:=λ_=>Nat->List C->zn->(List C->zn->Prop)->Prop) (λ_ t H K=>K t H) (λo _ next=>JG P T ops o next) l
theorem ztR(T:mI)(o:Oper)(l:List Oper)(k:Nat)(t:List C)(H:zn)(K:List C->zn->Prop):oF P T ops (o::l) k t H K=JG P T ops o (oF P T ops l) k t H K:=rfl
def Qz(T:mI)(k:Nat):yX T ops (k+1)=yX T ops k+if l9 T ops k then 1 else 0:=by
 unfold yX;rw[fx,sW,pz];cases h:l9 T ops k <;> simp[h]
def Ld{T:mI}{D:zn}:∀{l:List Oper} {k:Nat} {t:List C} {H:zn} {K:List C->zn->Prop},(∀j,l[j]?=ops[k+j]?)->w5 T.keep H D->oF P T ops l k t H K->
  ∃(L:List zn) (t':List C),K t' ((H::L).getLast aj)/\(∀X∈L,w5 T.keep H X)/\∀past:List zn,past.length=yX T ops k->(∀X∈past,w5 T.keep H X)->
   Cg P ops (λi=>((past++H::L)[i]?).getD D) (l9 T ops) (yX T ops) (nC T ops) (λt n=>t=t'/\n=yX T ops k+L.length) l k t (yX T ops k)
 |[],k,t,H,K,hl,hD,h=>⟨[],t,h,aj,λpast hp _=>⟨rfl,rfl⟩⟩
 |o::l,k,t,H,K,hl,hD,h=>by
  have h0:ops[k]?=some o:=by simpa using (hl 0).symm
  have hl':∀j,l[j]?=ops[k+1+j]?:=λj=>by have:=hl (j+1);simpa [se,fh 1 j] using this
  have he:l9 T ops k=(Ga (T.F5 k) o && !T.blind k):=by unfold l9;rw[h0]
  have hin:∀m,nC T ops k m=((x3 o || T.blind k) || m == yX T ops k):=λm=>by unfold nC;rw[h0]
  have all:∀(past L:List zn),(∀X∈past,w5 T.keep H X)->(∀X∈L,w5 T.keep H X)->∀m:Nat,w5 T.keep H (((past++H::L)[m]?).getD D):=λpast L hp hL m=>by
   cases hx:(past++H::L)[m]? with
   |none=>exact hD
   |some X=>
    have:=gu hx;rcases pw.1 this with h1|h1
    .exact hp X h1
    .rcases rJ.1 h1 with rfl|h1
     .exact .refl _ _
     .exact hL X h1
  have quiet:∀c,l9 T ops k=false->(∀past L,past.length=yX T ops k->(∀X∈past,w5 T.keep H X)->(∀X∈L,w5 T.keep H X)->QA P ops (λi=>((past++H::L)[i]?).getD D) (nC T ops k) o c t)->oF P T ops l (k+1) (put t o.dst c) H K->
    ∃(L:List zn) (t':List C),K t' ((H::L).getLast aj)/\(∀X∈L,w5 T.keep H X)/\∀past:List zn,past.length=yX T ops k->(∀X∈past,w5 T.keep H X)->
     Cg P ops (λi=>((past++H::L)[i]?).getD D) (l9 T ops) (yX T ops) (nC T ops) (λt n=>t=t'/\n=yX T ops k+L.length) (o::l) k t (yX T ops k):=λc ht hq hK=>by
   obtain⟨L,t',h1,hL,h2⟩:=Ld hl' hD hK;have hc:yX T ops (k+1)=yX T ops k:=by rw[Qz,ht];rfl
   rw[hc]at h2;refine⟨L,t',h1,hL,λpast hp hs=>?_⟩;unfold Cg nU;rw[h0];exact⟨c,_,.inl ⟨ht,by rw[hin];simp,hq past L hp hs hL,rfl⟩,h2 past hp hs⟩
  have np:∀c H',l9 T ops k=true->EA P ops H H' o c t->w5 T.keep H H'->oF P T ops l (k+1) (put t o.dst c) H' K->
    ∃(L:List zn) (t':List C),K t' ((H::L).getLast aj)/\(∀X∈L,w5 T.keep H X)/\∀past:List zn,past.length=yX T ops k->(∀X∈past,w5 T.keep H X)->
     Cg P ops (λi=>((past++H::L)[i]?).getD D) (l9 T ops) (yX T ops) (nC T ops) (λt n=>t=t'/\n=yX T ops k+L.length) (o::l) k t (yX T ops k):=λc H' ht hq hsm hK=>by
   have back:w5 T.keep H' H:=λid hi=>(hsm id hi).symm
   obtain⟨L,t',h1,hL,h2⟩:=Ld hl' (back.trans hD) hK;have hc:yX T ops (k+1)=yX T ops k+1:=by rw[Qz,ht];rfl
   rw[hc]at h2;refine⟨H'::L,t',aq h1,λX hX=>?_,λpast hp hs=>?_⟩
   .rcases rJ.1 hX with rfl|hX
    .exact hsm
    .exact hsm.trans (hL X hX)
   have h3:=h2 (past++[H]) (by simp[hp]) (λX hX=>by
    rcases pw.1 hX with h|h
    .exact back.trans (hs X h)
    .rw[gZ.1 h];exact back)
   unfold Cg nU;rw[h0];refine⟨c,yX T ops k+1,.inr ⟨ht,rfl,?_,rfl⟩,?_⟩
   .have e1:((past++H::H'::L)[yX T ops k]?).getD D=H:=by rw[<-hp];simp
    have e2:((past++H::H'::L)[yX T ops k+1]?).getD D=H':=by rw[<-hp,gP aw];simp
    dsimp only;rw[e1,e2];exact hq
   .simpa [rO,se,fh 1] using h3
  have same:∀(past L:List zn),past.length=yX T ops k->((past++H::L)[yX T ops k]?).getD D=H:=λpast L hp=>by rw[<-hp];simp
  rw[ztR]at h;unfold JG at h;split at h
  .rename_i hw;cases hbl:T.blind k with
   |true=>
    rw[hbl]at h;obtain⟨c,h1,h2⟩:=Ox h;exact quiet c (by rw[he,hbl];simp) (λpast L _ hs hL=>.inl ⟨hw,λm _=>h1 _ (all past L hs hL m)⟩) (jG (k:=λt=>oF P T ops l (k+1) t H K) h2)
   |false=>
   rw[hbl]at h;simp only at h;have he2:l9 T ops k=Ga (T.F5 k) o:=by rw[he,hbl];simp
   cases ht:Ga (T.F5 k) o with
   |true=>
    rw[ht]at h;obtain⟨c,H',h1,h2⟩:=J5 h;obtain⟨h3,h4⟩:=Hg h2;exact np c H' (he2.trans ht) (.inl ⟨hw,h1⟩) h3 (jG (k:=λt=>oF P T ops l (k+1) t H' K) h4)
   |false=>
    rw[ht]at h;simp only at h;cases hb:x3 o with
    |true=>
     rw[hb,fk]at h;obtain⟨c,h1,h2⟩:=OM hb h;exact quiet c (he2.trans ht) (λpast L _ _ _=>.inl ⟨hw,λm _=>h1 _⟩) (jG (k:=λt=>oF P T ops l (k+1) t H K) h2)
    |false=>
     rw[hb,rY]at h
     have only:∀c,fO P o (ev t) H c H->∀past L,past.length=yX T ops k->(∀X∈past,w5 T.keep H X)->(∀X∈L,w5 T.keep H X)->QA P ops (λi=>((past++H::L)[i]?).getD D) (nC T ops k) o c t:=λc h1 past L hp _ _=>.inl ⟨hw,λm hm=>by
      rw[hin,hb,hbl,rY,rY,pT]at hm;subst hm;dsimp only;rw[same past L hp];exact h1⟩
     cases hlo:Gj o with
     |true=>
      rw[hlo]at h;obtain⟨c,h1,h2⟩:=PB hlo h;exact quiet c (he2.trans ht) (only c h1) (jG (k:=λt=>oF P T ops l (k+1) t H K) h2)
     |false=>
      rw[hlo]at h;obtain⟨c,H',h1,rfl,h2⟩:=J5 h;exact quiet c (he2.trans ht) (only c h1) (jG (k:=λt=>oF P T ops l (k+1) t _ K) h2)
  .rename_i hw;have hK:=jG (k:=λt=>oF P T ops l (k+1) t H K) h;cases ht:l9 T ops k with
   |true=>exact np .un H ht (.inr ⟨hw,rfl,rfl⟩) (.refl _ _) hK
   |false=>exact quiet .un ht (λpast L _ _ _=>.inr ⟨hw,rfl⟩) hK
  .exact c7
def Run.Vb{id:Nat}{T:mI}{t:List C}{K:List C->zn->Prop}(hm:P.follows .mixedOrders=true)(hB:Region.lexB .any ops=true)(hT:ES .any T ops=true)(h:oF P T ops ops.toList 0 t H K):
  ∃s',Run P B (.region id ops true) ⟨t,H⟩ .normal s'/\K s'.tmps s'.H:=by
 obtain⟨L,t',h1,_,h2⟩:=Ld (k:=0) (D:=H) aj (.refl _ _) h;have h3:=h2 [] V aj;have hE:CY .any ops (l9 T ops)=true:=by simp only[ES,Me,gH]at hT;exact hT.1
 have:=Run.Va (B:=B) (id:=id) (Hs:=λi=>((H::L)[i]?).getD H) (eff:=l9 T ops) (idx:=yX T ops) (inR:=nC T ops) (n':=L.length) (t':=t') hm hB hE (λi j=>Y6 hT i j) V (by simpa [yX] using h3);refine⟨_,this,?_⟩
 have e:((H::L)[L.length]?).getD H=(H::L).getLast aj:=by
  rw[List.getLast_eq_getElem];simp
 dsimp only;rw[e];exact h1
end
def Dd:C->Bool
 |.agg cs=>cs.all xm
 |c=>xm c
def qw(H:zn):Bool:=H.all λob=>match ob.kind with
 |1=>ob.rows.all λr=>r.all zB
 |4=>ob.fz == 0 || (match ob.rows with|[.rc _::t]=>t.all Dd|_=>false)
 |_=>true
def G5{id:Nat}{r':List C}(hob:H[id]?=some ⟨1,ty,sz,[r],fz⟩)(hno:r.all zB=true)(hno':r'.all zB=true){id':Nat}{p:List ig}{x:Nat×List (List C)}
 (h:qd (H.set id ⟨1,ty,sz,[r'],fz⟩) id' p=some x):(id'≠id/\qd H id' p=some x)\/(id'=id/\p=[]/\x=(sz,[r'])/\qd H id []=some (sz,[r])):=by
 obtain⟨ob,ho,hk,hg⟩:=ju h;by_cases hi:id'=id
 .subst hi
  right
  rw[gJ,gz V,gz (gh.1 hob).1]at ho;cases ho
  obtain⟨rfl,rfl⟩:=DW (λi k c hc=>by
   obtain⟨rfl,hc⟩:=vE.1 hc;exact gE.1 hno' c (gu hc)) hg
  exact⟨rfl,rfl,rfl,by unfold qd;rw[hob];simp[jc]⟩
 .left
  refine⟨hi,?_⟩;rw[gJ,gp (Ne.symm hi)]at ho;unfold qd;rw[ho];simp only[hk,if_true];exact hg
def qn.Gd(h:qn w E H){id:Nat}{r':List C}(hob:H[id]?=some ⟨1,ty,sz,[r],fz⟩)(hlen:r'.length=r.length)(hno:r.all zB=true)(hno':r'.all zB=true)
 (hc:∀(k:Nat) c c' u,r[k]?=some c->r'[k]?=some c'->L E c u->w.cell? ⟨E.β id [],k,none⟩=some u->L E c' u):qn w E (H.set id ⟨1,ty,sz,[r'],fz⟩) where
 n:=aq h.n
 fR id' ob p sz' rows' hob' hx:=by
  rcases G5 hob hno hno' hx with⟨h1,h2⟩|⟨rfl,rfl,h1,h2⟩
  .rw[gJ,gp (Ne.symm h1)]at hob';exact h.fR id' ob p sz' rows' hob' h2
  .rw[gJ,gz V,gz (gh.1 hob).1]at hob';cases hob'
   cases h1
   have hb:=h.fR _ _ _ _ _ hob h2;refine⟨hb.len,λq hq=>?_,?_⟩
   .rw[gZ.1 hq,hlen];exact hb.row r (gZ.2 V)
   .obtain⟨cur,e,h3,h4,h5⟩:=hb.fR;refine⟨cur,e,h3,h4,?_⟩;intro i k c' hc';obtain⟨rfl,hc'⟩:=vE.1 hc';have hk:k<r.length:=by rw[<-hlen];exact(gh.1 hc').1
    have hk':r[k]?=some r[k]:=by simp[hk]
    obtain⟨u,hu,ho⟩:=h5 0 k r[k] (vE.2 ⟨rfl,hk'⟩);refine⟨u,hu,?_⟩;rw[jf.loose (gE.1 hno _ (gu hk'))]at ho;rw[jf.loose (gE.1 hno' c' (gu hc'))];refine⟨?_,ho.2⟩;have h6:L E r[k] u:=aF
    have h7:L E c' u:=hc k _ _ u hk' hc' h6 (by
     unfold World.cell?;rw[h3];simpa using hu)
    simpa [Env.at] using h7
 inj i p j q x y hx hy he:=by
  have key:∀i p x,qd (H.set id ⟨1,ty,sz,[r'],fz⟩) i p=some x->∃x',qd H i p=some x':=λi p x hx=>by
   rcases G5 hob hno hno' hx with⟨h1,h2⟩|⟨rfl,rfl,h1,h2⟩
   .exact⟨x,h2⟩
   .exact⟨_,h2⟩
  obtain⟨x',hx'⟩:=key i p x hx;obtain⟨y',hy'⟩:=key j q y hy;exact h.inj i p j q x' y' hx' hy' he
 qA:=h.qA
 sep i p x o u hx hu:=by
  rcases G5 hob hno hno' hx with⟨h1,h2⟩|⟨rfl,rfl,h1,h2⟩
  .obtain⟨e1,ob,e2,e3⟩:=h.sep i p x o u h2 hu;exact⟨e1,ob,by rw[gJ,gp (Ne.symm h1)];exact e2,e3⟩
  .obtain⟨e1,ob,e2,e3⟩:=h.sep _ [] _ o u h2 hu;rw[hob]at e2;cases e2
   exact⟨rfl,⟨1,ty,sz,[r'],fz⟩,by rw[gJ,gz V,gz (gh.1 hob).1],e3⟩
 ty i ob ho hk:=by
  rw[gJ]at ho;split at ho
  .split at ho
   .cases ho;cases hk
   .cases ho
  .exact h.ty i ob ho hk
 fz i ob ho:=by
  rw[gJ]at ho;split at ho
  .split at ho
   .cases ho;have:=h.fz id _ hob;exact dG
   .cases ho
  .exact h.fz i ob ho
def jL.NL{id:Nat}(hob:H[id]?=some ob)(h1:ob.kind≠4)(h2:ob'.kind≠4):jL H (H.set id ob'):=λi o h4=>by
 rw[gJ];split
 .rename_i e;subst e;rw[gz (gh.1 hob).1,hob];constructor
  .intro e;cases e;exact absurd h4 h2
  .intro e;cases e;exact absurd h4 h1
 .exact Iff.rfl
def qC.Gd{w:World}{E:Env}{H:zn}(h:qC w E H){id:Nat}{ty:TypeId}{sz fz:Nat}{r r':List C}(hob:H[id]?=some ⟨1,ty,sz,[r],fz⟩)(hlen:r'.length=r.length)(hno:r.all zB=true)(hno':r'.all zB=true)
 (hc:∀(k:Nat) c c' u,r[k]?=some c->r'[k]?=some c'->L E c u->w.cell? ⟨E.β id [],k,none⟩=some u->L E c' u):qC w E (H.set id ⟨1,ty,sz,[r'],fz⟩)/\Grow w E H w E (H.set id ⟨1,ty,sz,[r'],fz⟩):=by
 have hR:=h.base.Gd hob hlen hno hno' hc
 have hG:qL w E H w E (H.set id ⟨1,ty,sz,[r'],fz⟩):=⟨Env.le.refl E,λ_ _ _=>V,rfl,rfl,rfl,gG _,λ_ _ _=>V,λ_ _ _ h=>.inl h,λb ⟨i,p,x,hx,he⟩=>by
  rcases G5 hob hno hno' hx with⟨h1,h2⟩|⟨rfl,rfl,h1,h2⟩
  .exact .inr ⟨i,p,x,h2,he⟩
  .exact .inr ⟨_,[],_,h2,he⟩⟩
 have hk:=jL.NL (ob':=⟨1,ty,sz,[r'],fz⟩) hob (λe=>by cases e) (λe=>by cases e);exact⟨⟨hR,nX.step h hG hk⟩,hG.up h hk⟩
section
variable {B:Nat} {s:S}
def zp.var(id:Nat){r':List C}(hob:s.H[id]?=some ⟨1,ty,sz,[r],fz⟩)(hno:r.all zB=true)(hno':r'.all zB=true)(hw:i7 r r'):zp B s ⟨s.tmps,s.H.set id ⟨1,ty,sz,[r'],fz⟩⟩:=λm w E a hs=>by
 have hlen:∀{a b:List C},i7 a b->b.length=a.length:=by
  intro a b h
  induction h with
  |nil=>rfl
  |cons _ _ ih=>simp[ih]
 have hget:∀{a b:List C},i7 a b->∀(k:Nat) c c',a[k]?=some c->b[k]?=some c'->WC c c':=by
  intro a b h
  induction h with
  |nil=>intro k c c' h;simp at h
  |cons h1 _ ih=>
   intro k c c' e1 e2;cases k with
   |zero=>simp at e1 e2;subst e1 e2;exact h1
   |succ k=>exact ih k c c' (aq e1) uZ
 obtain⟨hR,g⟩:=hs.heap.Gd hob (hlen hw) hno hno' λk c c' u e1 e2 hl _=>hget hw k c c' e1 e2 E u hl
 exact⟨E,⟨hR,hs.tmps,hs.defers,aq hs.base⟩,g.iX tB⟩
def zp.B7(id k:Nat)(ty':TypeId)(sz':Nat){sz0:Nat}(hob:s.H[id]?=some ⟨1,ty,sz,[r],fz⟩)(hk:r[k]?=some (.fF 1 sz0 rows))(hz:rows=[]\/sz'=sz0)(hno:r.all zB=true)
 (hno':(r.set k (.gl s.H.length sz' rows)).all zB=true):
  zp B s ⟨s.tmps,s.H.set id ⟨1,ty,sz,[r.set k (.gl s.H.length sz' rows)],fz⟩++[⟨4,ty',sz',rows,0⟩]⟩:=λm w E a hs=>by
 have hgb:qd s.H id []=some (sz,[r]):=by unfold qd;rw[hob];simp[jc]
 have hb:=hs.heap.base.fR _ _ _ _ _ hob hgb;obtain⟨cur,e,h3,h4,h5⟩:=hb.fR;obtain⟨u,hu,ho⟩:=h5 0 k _ (vE.2 ⟨rfl,hk⟩);rw[jf.loose V]at ho;have hl:L E (.fF 1 sz0 rows) u:=aF
 obtain⟨E1,hh1,hl1,g1⟩:=hs.heap.Hu hl ty' hz;have fE:id<s.H.length:=(gh.1 hob).1;have hob1:(s.H++[⟨4,ty',sz',rows,0⟩])[id]?=some ⟨1,ty,sz,[r],fz⟩:=by rw[gF fE];exact hob
 have hβ:E1.β id []=E.β id []:=g1.le.β id [] (by rw[hs.heap.n];exact fE)
 have hcu:w.cell? ⟨E1.β id [],k,none⟩=some u:=by
  unfold World.cell?;rw[hβ,h3];simpa using hu
 obtain⟨hR,g2⟩:=hh1.Gd hob1 (r':=r.set k (.gl s.H.length sz' rows)) aj hno hno' λj c c' v e1 e2 hl' hv=>by
  rw[gJ]at e2;split at e2
  .rename_i e;subst e;rw[hcu]at hv;cases hv
   split at e2
   .cases e2;exact hl1
   .cases e2
  .rw[e1]at e2;cases e2
   exact hl'
 rw[eE _ _ fE]at hR g2;exact dm
end
def KG(w:World)(o:Obj){k:Nat}(h:k<w.heap.size):(w.alloc o).heap[k]?=w.heap[k]?:=by
 show(w.heap.push o)[k]?=_;rw[Array.getElem?_push,gp aw]
def ZW{g:Operand}{assign body:Code}{m:Nat}{t:List C}{a:Act}{Q:Exit->Act->World->Prop}
 (hs:yi B m w E ⟨t,H⟩ a)(hg:ev t g=.fn f [] caps)(hcb:qh P f=true)
 (hit:∀(l:Nat) (r:Loop),r.state=.ready->r.pending=none->r.params=ps->r.assign=assign->r.body=body->
   ∃(rr:C) (Hf:zn) (rf:Loop),zb P f (H++[iN l r t]) (.v (.func (.yield l) #[] #[])::caps) rr Hf/\Hf[H.length]?=some (iN l rf t)/\rf.state≠.busy/\rf.tmps=r.tmps/\B<=Hf.length/\
   ∀w' E' a',yi B m w' E' ⟨t,Hf.set H.length (iN l {rf with state:=.exhausted} t)⟩ a'->jS B w E H w' E' (Hf.set H.length (iN l {rf with state:=.exhausted} t))->
    match rf.pending with|none=>Q .normal a' w'|some c=>c.wpIn (fw none) 0 P Q a' w'):
  (Code.rangeFunc g ps assign body).wpIn (fw none) 0 P Q a w:=by
 have hm:=hs.defers.le;refine wpIn_rangeFunc ?_;intro fn _;obtain⟨r,hr⟩:∃r:Loop,r={state:=.ready,pending:=none,fn,tmps:=a.tmps,params:=ps,assign,body,defers:=w.heap.size}:=⟨_,rfl⟩;obtain⟨W1,hW1⟩:∃W1,W1=(w.alloc (.deferred (some []))).alloc (.loop r):=⟨_,rfl⟩
 have hL1:W1.heap[w.heap.size+1]?=some (.loop r):=by
  rw[hW1];have:=World.alloc_heap_new (w.alloc (.deferred (some []))) (.loop r);rwa [World.size_alloc]at this
 have hK1:W1.heap[w.heap.size]?=some (.deferred (some [])):=by
  rw[hW1];exact(KG _ _ aj).trans (World.alloc_heap_new w _)
 have hsame:∀k,k<w.heap.size->W1.heap[k]?=w.heap[k]?:=λk hk=>by
  rw[hW1];exact(KG _ _ aA).trans (KG _ _ hk)
 have hsz:W1.heap.size=w.heap.size+2:=by rw[hW1];simp
 have hv:=Gz hs.tmps g;rw[hg]at hv
 obtain⟨zs,hσ,hzs⟩:∃zs,a.eval g=.func (.func f) #[] zs/\LL E caps zs.toList:=by
  generalize a.eval g=u at *;cases hv with
  |fn f first caps ys zs h1 h2 h3 h4=>
   have:ys= #[]:=aq h1.symm
   subst this;exact⟨zs,rfl,aq h2,λi c y e1 e2=>h4 i c y e1 uZ⟩
 obtain⟨E1,hR1,G1⟩:=hs.heap.zyo (w:=W1) (l:=w.heap.size+1) (r:=r) (t:=t) hsame (by rw[hW1];rfl) (by rw[hW1];rfl) (by rw[hW1];rfl) aw hL1 aw (by rw[hr];exact hs.tmps);obtain⟨rr,Hf,rf,hS,hHf,hbusy,htm,hB,hQ⟩:=hit (w.heap.size+1) r (by rw[hr]) (by rw[hr]) (by rw[hr]) (by rw[hr]) (by rw[hr])
 have eg:∀(args:Array Value),(callFunc f args).run P W1=.ok (.enter f args) W1:=by
  intro args;unfold qh at hcb;split at hcb
  rotate_left
  .cases hcb
  rename_i fn hfn;simp only[gH,pK]at hcb;have hname : fn.name ≠ "runtime.NumGoroutine" := by simpa using hcb.1
  have hbody:fn.body≠none:=bO
  simp[callFunc,hfn,hname,hbody]
 refine⟨w.heap.size+1,[C7 w.heap.size],W1,{target:=.fn (.func f) zs,args:= #[.func (.yield (w.heap.size+1)) #[] #[]]},W1,f, #[.func (.yield (w.heap.size+1)) #[] #[]]++zs,W1,?_,?_,λ_ _=>trivial,?_,λh=>aR,?_⟩
 .rw[hW1,hr];exact run_enterLoop_outer _ _ _ _ _
 .simp only[resolve,hσ];simp[go_sem]
 .simp[invoke,go_sem,eg]
 .refine(callsIn_wide (n:=0)).2 ((hS W1 E1 _ hR1 ?_).mono ?_)
  .have:=(LL.one (.v _ rfl:L E1 (.v (.func (.yield (w.heap.size+1)) #[] #[])) (.func (.yield (w.heap.size+1)) #[] #[]))).append (hzs.mono G1.le);simpa using this
  .rintro e w3 ⟨v,E3,rfl,hR3,_,G3⟩;obtain⟨⟨hL3,_⟩,ht3⟩:=hR3.fH.iW H.length _ (.loop rf) t hHf V ⟨rfl,rfl⟩;obtain⟨hR4,G4⟩:=hR3.H9 (r':={rf with state:=.exhausted}) hHf V;have hend:=run_endLoop (P:=P) hL3 hbusy;have G:=(G1.trans G3).trans G4;have hn:B<=E.n:=by rw[hs.heap.n];exact hs.base
   have hD:(w3.putObj (w.heap.size+1) (.loop {rf with state:=.exhausted})).heap[w.heap.size]?=some (.deferred (some [])):=by
    rw[World.putObj_heap_other aw];exact(G3.frame _ aw (hR1.free hK1)).trans hK1
   have h4:yi B m (w3.putObj (w.heap.size+1) (.loop {rf with state:=.exhausted})) E3 ⟨t,Hf.set H.length (iN (w.heap.size+1) {rf with state:=.exhausted} t)⟩ {a with defers:=[C7 w.heap.size]++a.defers}:=by
    refine⟨hR4,hs.tmps.mono G.le,⟨⟨w.heap.size,rfl,hm,hD,?_⟩,hs.defers.grow hs.heap G⟩,aq hB⟩;intro hmem
    have key:∀{ds:List Deferred},Marks m w ds->C7 w.heap.size∉ds:=by
     intro ds
     induction ds with
     |nil=>intro _ h;cases h
     |cons d ds ih=>
      rintro⟨⟨D,h1,_,h3,_⟩,ht⟩ h;rcases rJ.1 h with h5|h5
      .rw[h1]at h5;have:w.heap.size=D:=by simpa [C7] using h5
       have:=(gM.1 h3).1;omega
      .exact ih ht h5
    exact key hs.defers hmem
   have:=hQ _ _ _ h4 (G.iX hn);refine⟨rf.pending,_,hend,?_⟩;exact dG
def NX:Option Code->Exit->Prop
 |none,.normal=>True
 |some .ret,.ret=>True
 |some (.exit i),.exit j=>i=j
 |_,_=>False
def jb.rangeFunc{P:Program}{g:Operand}{ps:Array Tmp}{assign body:Code}{B:Nat}{H:zn}{t:List C}{f:FuncId}{caps:List C}{R:Exit->S->Prop}(hg:ev t g=.fn f [] caps)(hcb:qh P f=true)
 (hit:∀(l:Nat) (r:Loop),r.state=.ready->r.pending=none->r.params=ps->r.assign=assign->r.body=body->
   ∃(rr:C) (Hf:zn) (rf:Loop) (ex:Exit) (s':S),zb P f (H++[iN l r t]) (.v (.func (.yield l) #[] #[])::caps) rr Hf/\Hf[H.length]?=some (iN l rf t)/\rf.state≠.busy/\rf.tmps=r.tmps/\B<=Hf.length/\NX rf.pending ex/\
    zp B ⟨t,Hf.set H.length (iN l {rf with state:=.exhausted} t)⟩ s'/\R ex s'):jb P B (.rangeFunc g ps assign body) ⟨t,H⟩ R:=λq m w E a Q hr hs hq=>by
 obtain rfl:=hr V;refine ZW hs hg hcb λl r h1 h2 h3 h4 h5=>?_
 obtain⟨rr,Hf,rf,ex,s',a1,a2,a3,a4,a5,a6,a7,a8⟩:=hit l r h1 h2 h3 h4 h5;refine⟨rr,Hf,rf,a1,a2,a3,a4,a5,λw' E' a' hs' g'=>?_⟩;obtain⟨E2,hs2,g2⟩:=a7 m w' E' a' hs';have hq':=hq ex s' w' E2 a' a8 hs2 (g'.trans g2);generalize rf.pending=pe at a6
 match pe,ex,a6 with
 |none,.normal,_=>exact hq'
 |some .ret,.ret,_=>exact wpIn_ret hq'
 |some (.exit i),.exit j,h=>cases h;exact wpIn_exit hq'
def QU(o:Oper):Option TypeId:=match o.op with
 |.makeMap t r=>match r with
  |none=>some t
  |some _=>none
 |_=>none
def zyf(P:Program)(t:TypeId):Bool:=match P.underlying t with
 |some (.map _ e)=>match P.underlying e with
  |some (.int _)=>false
  |some .bool=>false
  |some .string=>false
  |_=>true
 |_=>false
noncomputable def hasC(H:zn):Bool:=List.rec (motive:=λ_=>Bool) false (λob _ next=>match ob with
 |⟨kind,_,sz,_,fz⟩=>match kind with
  |4=>match sz with
   |2=>match fz with
    |1=>true
    |_=>next
   |_=>next
  |_=>next) H
noncomputable def mapRel(H:zn)(ρ:Operand->C)(o:Oper):Bool:=match o.op with
 |.range _ _=>true
 |.next _ _=>true
 |.entry _=>true
 |.insert _ _ _ _=>true
 |.mapUpdate _ _ _ _=>hasC H
 |.call cl=>match cl.callee with
  |.builtin b=>match b with
   |.delete=>true
   |.append=>match cl.args.toList with
    |x::_=>match ρ x with
     |.gl _ _ _=>hasC H
     |.fF _ sz _=>match sz with
      |99=>true
      |_=>false
     |_=>false
    |[]=>false
   |_=>false
  |_=>false
 |_=>false
def UP(P:Program)(t:TypeId):Bool:=
 match P.underlying t with
 |some (.pointer _)=>true
 |some (.map _ _)=>true
 |some (.tuple es)=>match es.toList with
  |u::_=>match P.underlying u with
   |some (.pointer _)=>true
   |_=>false
  |[]=>false
 |_=>false
def NI(P:Program)(ρ:Operand->C)(o:Oper):Option (FuncId×List C):=
 match o.op with
 |.call cl=>match cl.callee with
  |.value x=>match ρ x with
   |.fn f first caps=>match qh P f with
    |true=>some (f,first++(cl.args.toList.map λx=>iA (ρ x))++caps)
    |false=>none
   |_=>none
  |_=>none
 |_=>none
def MH(P:Program)(ρ:Operand->C)(o:Oper):Option (FuncId×List C):=
 match UP P o.type with
 |true=>NI P ρ o
 |false=>none
def jK.call(h:MH P ρ o=some (f,args))(hs:qM P f H args R):jK P o ρ H R:=λw E σ hh hl _ K hk=>by
 unfold MH at h;split at h
 rotate_left
 .cases h
 unfold NI at h;split at h
 rotate_left
 .cases h
 rename_i cl ho;split at h
 rotate_left
 .cases h
 rename_i x hcl;split at h
 rotate_left
 .cases h
 rename_i f' first caps hf;split at h
 rotate_left
 .cases h
 rename_i hcb;cases h
 have hl:∀x∈o.op.operands,L E (Ab.iA (ρ x)) (σ x):=λx hx=>Ca (hl x hx)
 have h0:=hl x bN;rw[hf]at h0;have h0:L E (.fn f first caps) (σ x):=h0
 obtain⟨ys,zs,hv,h1,h2,h3,h4⟩:∃ys zs,σ x=.func (.func f) ys zs/\first.length=ys.size/\caps.length=zs.size/\(∀(i:Nat) c y,first[i]?=some c->ys[i]?=some y->L E c y)/\(∀(i:Nat) c y,caps[i]?=some c->zs[i]?=some y->L E c y):=by
  generalize σ x=u at *;cases h0 with
  |fn f first caps ys zs h1 h2 h3 h4=>exact⟨ys,zs,rfl,h1,h2,h3,h4⟩
 unfold qh at hcb;split at hcb
 rotate_left
 .cases hcb
 rename_i fn hfn;simp only[gH,pK]at hcb;have hname : fn.name ≠ "runtime.NumGoroutine" := by simpa using hcb.1
 have hbody:fn.body≠none:=bO
 have hr:(execOp σ o).run P w=.ok (.enter f (ys++cl.args.map σ++zs)) w:=by
  unfold execOp;simp[ho,resolve,hcl,hv,Deferred.ofValue,invoke,callFunc,hfn,hname,hbody]
 rw[hr];refine(hs w E (ys++cl.args.map σ++zs) hh ?_).mono ?_
 .have e1:LL E first ys.toList:=⟨aq h1,λi c y e1 e2=>h3 i c y e1 uZ⟩;have e2:LL E caps zs.toList:=⟨aq h2,λi c y e1 e2=>h4 i c y e1 uZ⟩
  have e3:LL E (cl.args.toList.map λx=>Ab.iA (ρ x)) (cl.args.map σ).toList:=by
   refine⟨aj,?_⟩;intro i c y hc hy;rw[gy]at hc;rw[u9,gy]at hy;cases ha:cl.args.toList[i]? with
   |none=>rw[ha]at hc;cases hc
   |some a=>
    rw[ha]at hc hy;cases hc
    cases hy
    exact dP
  have:=(e1.append e3).append e2;simpa using this
 .rintro e w' ⟨c,H',v,E',hR,rfl,h5,h6,h7⟩;exact⟨v,rfl,hk c H' v w' E' hR h5 h6 h7⟩
def MZ(o:Oper):Option (BinOp×TypeId×Operand):=
 match o.op with
 |.binOp op t x y _=>match y with
  |.const v=>match v with
   |.nilFunc=>some (op,t,x)
   |_=>none
  |_=>none
 |_=>none
def LZ(x:C):Option Bool:=
 match x with
 |.fn ..=>some false
 |.v y=>match y with
  |.nilFunc=>some true
  |_=>none
 |_=>none
def O4{x:C}(h:LZ x=some b):∀E u,L E x u->(b=true/\u=.nilFunc)\/(b=false/\∃f ys zs,u=.func f ys zs):=by
 intro E u hl;unfold LZ at h;split at h
 .cases h;cases hl;exact .inr ⟨rfl,_,_,_,rfl⟩
 .split at h
  .cases h;cases hl;exact .inl ⟨rfl,rfl⟩
  .cases h
 .cases h
def DJ(P:Program)(t:TypeId):Bool:=
 match P.underlying t with
 |some (.func ..)=>true
 |_=>false
def Jl(P:Program)(H:zn)(op:BinOp)(t:TypeId)(x:C)(K:C->zn->Prop):Prop:=
 match LZ x with
 |some b=>match op with
  |.eql=>bK (DJ P t) <|K (.v (.bool b)) H
  |.neq=>bK (DJ P t) <|K (.v (.bool (!b))) H
  |_=>False
 |none=>False
def WZ(w:World)(d:Nat)(t:TypeId)(ht:DJ P t=true)(y:Value)(n:Bool)(hy:(n=true/\y=.nilFunc)\/(n=false/\∃f xs ys,y=.func f xs ys)):(Op.equalIn (d+1) t y .nilFunc).run P w=.ok n w:=by
 unfold DJ at ht;split at ht
 rotate_left
 .cases ht
 rename_i a b c hu;rcases hy with⟨rfl,rfl⟩|⟨rfl,f,xs,ys,rfl⟩ <;> simp[Op.equalIn,run_underlying hu]
def Zk(w:World)(t:TypeId)(ht:DJ P t=true)(y:Value)(n:Bool)(hy:(n=true/\y=.nilFunc)\/(n=false/\∃f xs ys,y=.func f xs ys)):(Op.equal t y .nilFunc).run P w=.ok n w:=WZ w 9999 t ht y n hy
def oH.Ts(op:BinOp)(t t':TypeId)(x:Operand)(ho:o.op=.binOp op t x (.const .nilFunc) t')(hop:op=.eql\/op=.neq)(ht:DJ P t=true)(b:Bool)
 (hx:∀E u,L E (ρ x) u->(b=true/\u=.nilFunc)\/(b=false/\∃f ys zs,u=.func f ys zs)):oH P o ρ H (.v (.bool (if op=.eql then b else !b))) H:=λw E σ hh hl hc K hk=>by
 have hv:=hx E _ (hl x uY);have he:=Zk w t ht _ _ hv
 have hr:(execOp σ o).run P w=.ok (.value (.bool (if op=.eql then b else !b))) w:=by
  unfold execOp;rcases hv with⟨rfl,hv⟩|⟨rfl,f,ys,zs,hv⟩ <;> rw[hv]at he <;> rcases hop with rfl|rfl <;> simp[ho,hv,hc,eqGuard,binOp,he]
 rw[hr];exact hk _ w E hh (.v _ V) (Grow.refl w E H)
def zvo{K:C->zn->Prop}(ho:MZ o=some (op,t,x))(h:Jl P H op t (ρ x) K):∃c,oH P o ρ H c H/\K c H:=by
 obtain⟨t',ho⟩:∃t',o.op=.binOp op t x (.const .nilFunc) t':=by
  unfold MZ at ho;split at ho
  .rename_i h1;split at ho
   .split at ho
    .cases ho;exact⟨_,h1⟩
    .cases ho
   .cases ho
  .cases ho
 unfold Jl at h;split at h
 .rename_i b hb;split at h
  .exact⟨_,.Ts .eql t t' x ho (.inl V) (zY h).1 b (O4 hb),(zY h).2⟩
  .exact⟨_,.Ts .neq t t' x ho (.inr V) (zY h).1 b (O4 hb),(zY h).2⟩
  .exact c7
 .exact c7
def GO(P:Program)(H:zn)(ρ:Operand->C)(o:Oper)(K:C->zn->Prop):Prop:=
 match ML o with
 |some (op,ty,x)=>MS P H op ty (ρ x) K
 |none=>match MM o with
  |some (op,ty,x)=>JM P H op ty (ρ x) K
  |none=>match MZ o with
  |some (op,ty,x)=>Jl P H op ty (ρ x) K
  |none=>match MH P ρ o with
  |some (f,args)=>∃R,qM P f H args R/\∀r H',R r H'->K r H'
  |none=>match mapRel H ρ o with
   |true=>jK P o ρ H K
   |false=>match QU o with
    |some t=>match zyf P t with
     |true=>∀b:Nat,xI (H++[iU b [] 0 []]) λH'=>K (.v (.map (some b))) H'
     |false=>∀b:Nat,xI (H++[iM b #[] 0]) λH'=>K (.v (.map (some b))) H'
    |none=>Au P H ρ o K
def HN{K:C->zn->Prop}(h:GO P H ρ o K):jK P o ρ H K:=by
 unfold GO at h;split at h
 .rename_i op ty x hn;exact ztD hn h
 .split at h
  .rename_i op ty x hn;obtain⟨c,h1,h2⟩:=zt3 hn h;exact h1.lh h2
  split at h
  .rename_i op ty x hn;obtain⟨c,h1,h2⟩:=zvo hn h;exact h1.lh h2
  .split at h
   .rename_i f args hn;obtain⟨R,h1,h2⟩:=h;exact jK.call hn (λw E vs hh hl=>(h1 w E vs hh hl).mono λe w' ⟨r,H',v,E',hR,h3⟩=>⟨r,H',v,E',h2 r H' hR,h3⟩)
   split at h
   .exact h
   split at h
   .rename_i t hm
    have ho:o.op=.makeMap t none:=by
     unfold QU at hm;split at hm
     .rename_i ho;split at hm
      .cases hm;exact ho
      .cases hm
     .cases hm
    split at h
    .exact .zvZ t ho λb=>jn (h b)
    .exact .makeMap t ho λb=>jn (h b)
   .obtain⟨c,H',h1,h2⟩:=J5 h;exact h1.lh h2
def Fi(P:Program)(ops:Array Oper)(o:Oper)(next:List C->zn->(List C->zn->Prop)->Prop)(t:List C)(H:zn)(K:List C->zn->Prop):Prop:=
 match jt ops t o with
 |some true=>GO P H (ev t) o λc H'=>oy t o.dst c λt=>next t H' K
 |some false=>oy t o.dst .un λt=>next t H K
 |none=>False
def mM(P:Program)(ops:Array Oper)(l:List Oper):List C->zn->(List C->zn->Prop)->Prop:=
 List.rec (motive:=λ_=>List C->zn->(List C->zn->Prop)->Prop) (λt H K=>K t H) (λo _ next=>Fi P ops o next) l
theorem Ku(P:Program)(ops:Array Oper)(o:Oper)(l:List Oper)(t:List C)(H:zn)(K:List C->zn->Prop):mM P ops (o::l) t H K=Fi P ops o (mM P ops l) t H K:=rfl
section
variable {P:Program} {B:Nat} {ops:Array Oper}
def Kv:∀{l:List Oper} {t:List C} {H:zn} {K:List C->zn->Prop},mM P ops l t H K->vC P B ops l ⟨t,H⟩ λs'=>K s'.tmps s'.H
 |[],t,H,K,h=>.nil h
 |o::l,t,H,K,h=>by
  rw[Ku]at h;unfold Fi at h;split at h
  .rename_i hw;refine .run (s:=⟨t,H⟩) hw (.Dh (s:=⟨t,H⟩) (HN h)) ?_;rintro s1 ⟨c,H',h1,rfl⟩;exact Kv (jG (k:=λt=>mM P ops l t H' K) h1)
  .rename_i hw;exact .pass (s:=⟨t,H⟩) hw (Kv (jG (k:=λt=>mM P ops l t H K) h))
  .exact c7
abbrev WK:=List C->zn->(Exit->List C->zn->Prop)->Prop
def Vs(x y:WK):WK:=λt H K=>x t H λex t H=>match ex with
 |.normal=>y t H K
 |ex=>K ex t H
def zzP(id:Nat)(c:WK):WK:=λt H K=>c t H λex t H=>match ex with
 |.exit id'=>if id'=id then K .normal t H else K (.exit id') t H
 |ex=>K ex t H
def Mp(c:Operand)(x y:WK):WK:=λt H K=>match ev t c with
 |.v (.bool b)=>match b with
  |true=>x t H K
  |false=>y t H K
 |_=>False
noncomputable def readyB(all:List Bool)(ops:List Oper):List Bool->Nat->List Nat:=
 List.rec (motive:=λ_=>List Bool->Nat->List Nat) (λ_ _=>[]) (λo _ ih bs k=>match bs with
  |[]=>[]
  |b::bs=>match b with
   |true=>ih bs (k+1)
   |false=>match o.after.toList.all (λe=>!Region.binds .any e || all.getD e.on false) with
    |true=>k::ih bs (k+1)
    |false=>ih bs (k+1)) ops
noncomputable def bothK(f:Nat->Prop)(l:List Nat):Prop:=List.rec (motive:=λ_=>Prop) True (λi _ ih=>f i/\ih) l
structure mW where
 bl:List Nat:=[]
 keep:List Nat:=[]
 flat:Bool:=false
def XC(T:mW)(H0 H:zn):Prop:=w5 T.keep H0 H/\(T.flat=true->qw H=true)
noncomputable def pickE(bl:List Nat)(ops:Array Oper)(t:List C)(l:List Nat):Option Nat:=
 List.rec (motive:=λ_=>Option Nat) none (λi _ ih=>match ops[i]? with
  |some o=>match x3 o || AG bl i with
   |true=>some i
   |false=>match jt ops t o with
    |some b=>match b with
     |true=>ih
     |false=>some i
    |none=>ih
  |none=>ih) l
def L7(P:Program)(T:mW)(H:zn)(ρ:Operand->C)(o:Oper)(K:C->zn->Prop):Prop:=
 match o.op with
 |.call cl=>match cl.callee with
  |.value x=>match ρ x with
   |.fn f first caps=>bK (qh P f) <| ∃r,(∀H2,XC T H H2->zb P f H2 (first++(cl.args.toList.map λx=>iA (ρ x))++caps) r H2)/\okB r λr=>K r H
   |_=>False
  |_=>False
 |_=>Ik P T.keep H ρ o K
def Cx(P:Program)(T:mW)(ops:Array Oper)(o:Oper)(k:Nat)(next:List C->zn->(List C->zn->Prop)->Prop)(t:List C)(H:zn)(K:List C->zn->Prop):Prop:=
 match jt ops t o with
 |some true=>match AG T.bl k with
  |true=>L7 P T H (ev t) o λc H'=>oy t o.dst c λt=>next t H' K
  |false=>match x3 o with
   |true=>Au P H (ev t) o λc H'=>oy t o.dst c λt=>next t H' K
   |false=>False
 |some false=>oy t o.dst .un λt=>next t H K
 |none=>False
def MG(T:mW)(H H':zn)(k:Prop):Prop:=match T.flat with
 |true=>qw H'=true/\Gq H H' k T.keep
 |false=>Gq H H' k T.keep
def C9(P:Program)(T:mW)(ops:Array Oper)(o:Oper)(next:List C->zn->(List C->zn->Prop)->Prop)(t:List C)(H:zn)(K:List C->zn->Prop):Prop:=
 match jt ops t o with
 |some true=>match Gj o with
  |true=>Au P H (ev t) o λc H'=>oy t o.dst c λt=>next t H' K
  |false=>GO P H (ev t) o λc H'=>MG T H H' (oy t o.dst c λt=>next t H' K)
 |some false=>oy t o.dst .un λt=>next t H K
 |none=>False
noncomputable def bruteK(P:Program)(T:mW)(ops:Array Oper)(n:Nat):List Bool->List C->zn->(List C->zn->Prop)->Prop:=
 Nat.rec (motive:=λ_=>List Bool->List C->zn->(List C->zn->Prop)->Prop)
  (λlisted t H K=>match readyB listed ops.toList listed 0 with
   |[]=>K t H
   |_::_=>False)
  (λ_ ih listed t H K=>match readyB listed ops.toList listed 0 with
   |[]=>K t H
   |i::is=>match pickE T.bl ops t (i::is) with
    |some i=>match ops[i]? with
     |some o=>Cx P T ops o i (λt H K=>ih (listed.set i true) t H K) t H K
     |none=>False
    |none=>bothK (λi=>match ops[i]? with
     |some o=>C9 P T ops o (λt H K=>ih (listed.set i true) t H K) t H K
     |none=>False) (i::is)) n
def SA(md:Region.Mode)(ops:Array Oper)(ms:List Nat):Bool:=
 (List.range ops.size).all λi=>(List.range ops.size).all λj=>Nat.beq j i || AE md ops ms i j || match ops[i]?,ops[j]? with
  |some oi,some oj=>(oj.after.any λe=>Region.binds md e && e.on == i) || oi.apart ops oj
  |_,_=>true
def D6(md:Region.Mode)(ops:Array Oper):Bool:=SA md ops (oZ md ops)
noncomputable def regionK(P:Program)(B:Nat)(ops:Array Oper)(draw:Bool):WK:=λt H K=>match draw with
 |false=>mM P ops ops.toList t H λt H=>K .normal t H
 |true=>(∃T:mI,(P.follows .mixedOrders && Region.lexB .any ops && ES .any T ops)=true/\oF P T ops ops.toList 0 t H λt H=>K .normal t H)\/
  ∃T:mW,(P.follows .mixedOrders && D6 .any ops)=true/\(T.flat=true->qw H=true)/\∃R:List C->zn->Prop,bruteK P T ops ops.size (ops.toList.map λ_=>false) t H (λt1 H1=>∃t2 H2,zp B ⟨t1,H1⟩ ⟨t2,H2⟩/\R t2 H2)/\∀t2 H2,R t2 H2->K .normal t2 H2
def PG{all:List Bool}:∀{os:List Oper} {bs:List Bool} {k i:Nat},i∈readyB all os bs k↔∃j o,i=k+j/\os[j]?=some o/\bs[j]?=some false/\o.after.toList.all (λe=>!Region.binds .any e || all.getD e.on false)=true
 |[],bs,k,i=>by simp[readyB]
 |o::os,[],k,i=>by
  have e:readyB all (o::os) [] k=[]:=rfl;rw[e];simp
 |o::os,b::bs,k,i=>by
  have e:readyB all (o::os) (b::bs) k=match b with
   |true=>readyB all os bs (k+1)
   |false=>match o.after.toList.all (λe=>!Region.binds .any e || all.getD e.on false) with
    |true=>k::readyB all os bs (k+1)
    |false=>readyB all os bs (k+1):=rfl
  have ih:=PG (all:=all) (os:=os) (bs:=bs) (k:=k+1) (i:=i)
  have split:(∃j o',i=k+j/\(o::os)[j]?=some o'/\(b::bs)[j]?=some false/\o'.after.toList.all (λe=>!Region.binds .any e || all.getD e.on false)=true)↔
    (i=k/\b=false/\o.after.toList.all (λe=>!Region.binds .any e || all.getD e.on false)=true)\/i∈readyB all os bs (k+1):=by
   rw[ih];constructor
   .rintro⟨j,o',h1,h2,h3,h4⟩;cases j with
    |zero=>simp at h2 h3;subst h2;exact .inl ⟨aw,h3,h4⟩
    |succ j=>exact .inr ⟨j,o',aw,aq h2,aq h3,h4⟩
   .rintro(⟨h1,h2,h3⟩|⟨j,o',h1,h2,h3,h4⟩)
    .exact⟨0,o,aw,rfl,bP,h3⟩
    .exact⟨j+1,o',aw,aq h2,aq h3,h4⟩
  rw[split,e];cases b with
  |true=>simp
  |false=>
   dsimp only;split
   .rename_i h;rw[h];simp only[rJ,and_true]
   .rename_i h;rw[h];simp only[sB,and_false,false_or]
def FU(hl:listed.size=ops.size)(i:Nat):i∈Region.ready .any ops listed↔i∈readyB listed.toList ops.toList listed.toList 0:=by
 rw[PG];unfold Region.ready;rw[fy,rG]
 have qb:∀o:Oper,o.after.toList.all (λe=>!Region.binds .any e || listed.toList.getD e.on false)=o.after.all (λe=>!Region.binds .any e || listed.getD e.on false):=λo=>by
  rw[<-sM]
  congr 1
  funext e
  rw[eU,pD,pO]
 constructor
 .rintro⟨h1,h2⟩;rw[gH]at h2;obtain⟨h2,h3⟩:=h2;obtain⟨o,ho⟩:∃o,ops[i]?=some o:=⟨ops[i],aD⟩;rw[ho]at h3;simp only[gK,Option.getD_some]at h3;refine⟨i,o,aw,by rw[pD];exact ho,?_,by rw[qb];exact h3⟩;rw[pD];rw[pO,rV aw]at h2;simp only[Option.getD_some]at h2;rw[rV aw];simpa using h2
 .rintro⟨j,o,h1,h2,h3,h4⟩;obtain rfl:i=j:=by omega
  rw[pD]at h2 h3;have fE:=(gM.1 h2).1;refine⟨fE,?_⟩;rw[gH];rw[qb]at h4;refine⟨?_,by rw[h2];simpa using h4⟩;rw[pO,h3]
  rfl
def Qx{f:Nat->Prop}:∀{l:List Nat},bothK f l->∀i∈l,f i
 |[],_,i,hi=>by cases hi
 |j::l,h,i,hi=>by
  have h:f j/\bothK f l:=h;rcases rJ.1 hi with rfl|hi
  .exact h.1
  .exact Qx h.2 i hi
def jK.UN{tmps:List C}{x:C}(h:∀d,dst=some d->d∉o.looksAt ops)(h':jK P o (ev (put tmps dst x)) H R):jK P o (ev tmps) H R:=
 λw E σ hh hl hc K hk=>h' w E σ hh (λy hy=>by rw[Io (KN h y hy)];exact hl y hy) hc K hk
def jK.Mz{R':C->zn->Prop}(hR:∀c H',R c H'->R' c H')(h:jK P o ρ H R):jK P o ρ H R':=
 λw E σ hh hl hc K hk=>h w E σ hh hl hc K λc H' v w' E' h1=>hk c H' v w' E' (hR c H' h1)
def Be(P:Program)(ops:Array Oper)(X:zn->Prop)(i:Nat)(K:S->Prop)(s:S):Prop:=
 match ops[i]? with
 |none=>K s
 |some o=>(jt ops s.tmps o=some true/\jK P o (ev s.tmps) s.H λc H'=>X H'/\K ⟨put s.tmps o.dst c,H'⟩)\/(jt ops s.tmps o=some false/\K ⟨put s.tmps o.dst .un,s.H⟩)
def zso{K K':S->Prop}(hX:X s.H)(h:∀s,X s.H->K s->K' s)(hh:Be P ops X i K s):Be P ops X i K' s:=by
 unfold Be at *;split
 .exact h _ hX (by simpa [*] using hh)
 .rename_i o ho;simp only[ho]at hh;rcases hh with⟨h1,h2⟩|⟨h1,h2⟩
  .exact .inl ⟨h1,h2.Mz λc H' ⟨h3,h4⟩=>⟨h3,h _ h3 h4⟩⟩
  .exact .inr ⟨h1,h _ hX h2⟩
def Dy(P:Program)(md:Region.Mode)(ops:Array Oper)(X:zn->Prop)(Q:S->Prop):Nat->Array Bool->S->Prop
 |0,listed,s=>Region.ready md ops listed=[]/\Q s
 |fuel+1,listed,s=>(Region.ready md ops listed=[]->Q s)/\∀i∈Region.ready md ops listed,Be P ops X i (Dy P md ops X Q fuel (listed.setIfInBounds i true)) s
def wu{P:Program}{B:Nat}{ops:Array Oper}{md:Region.Mode}{X:zn->Prop}{q:Option Nat}{m:Nat}{H0:zn}{Q:S->Prop}{w0:World}{E0:Env}{Q':Exit->Act->World->Prop}(hQ:∀s w E a,Q s->yi B m w E s a->jS B w0 E0 H0 w E s.H->Q' .normal a w):
  ∀(fuel:Nat) (listed:Array Bool) (s:S) (w:World) (E:Env) (a:Act),yi B m w E s a->jS B w0 E0 H0 w E s.H->Dy P md ops X Q fuel listed s->wpAnyIn (fw q) 0 P md ops Q' fuel listed a w
 |0,_,s,w,E,a,hs,hg,h=>⟨h.1,hQ s w E a h.2 hs hg⟩
 |fuel+1,listed,s,w,E,a,hs,hg,h=>⟨λh0=>hQ s w E a (h.1 h0) hs hg,λi hi=>by
   have h1:=h.2 i hi;unfold Be at h1;unfold wpOpIn;split
   .rename_i ho;simp only[ho]at h1;exact wu hQ fuel _ s w E a hs hg h1
   .rename_i o ho;simp only[ho]at h1;rcases h1 with⟨hw,hv⟩|⟨hw,hK⟩
    .rw[gz (j6 hs.tmps hw)];refine Ax.Dh (s:=s) hv q m w E a _ Q' hs λs' w' E' a' hR h2 g2=>?_
     obtain⟨c,H',⟨_,h3⟩,rfl⟩:=hR;exact wu hQ fuel _ _ w' E' a' h2 (hg.trans g2) h3
    .rw[gp bE];exact⟨λ_ _=>trivial,wu hQ fuel _ ⟨put s.tmps o.dst .un,s.H⟩ w E _ (hs.put .un o.dst) hg hK⟩⟩
def zsp{oj:Oper}{c:C}(hj:ops[j]?=some oj)(hap:oi.apart ops oj=true){K:S->Prop}(hy:YA P ops X oi c s.tmps)
 (h:Be P ops X j K ⟨put s.tmps oi.dst c,s.H⟩):Be P ops X j (λs'=>YA P ops X oi c s'.tmps/\K ⟨put s'.tmps oi.dst c,s'.H⟩) s:=by
 obtain⟨h1,h2,h3⟩:=Oper.apart_spec hap;unfold Be at *;simp only[hj] at *;rcases h with⟨hw,hv⟩|⟨hw,hK⟩
 .refine .inl ⟨(vO h1) ▸ hw,(hv.Mz λc' H' ⟨h4,h5⟩=>⟨h4,(YA.put h3).2 hy,?_⟩).UN h1⟩;rw[put_comm _ _ h2]at h5;exact h5
 .refine .inr ⟨(vO h1) ▸ hw,(YA.put h3).2 hy,?_⟩;rw[put_comm _ _ h2]at hK;exact hK
def XN{Q:S->Prop}{c:C}(hi:ops[i]?=some oi):
  ∀(fuel:Nat) (listed:Array Bool) (s:S),X s.H->
   (∀j oj,ops[j]?=some oj->j≠i->listed.getD j true=false->(∀e∈oj.after,Region.binds md e=true->e.on≠i)->oi.apart ops oj=true)->
   i∈Region.ready md ops listed->YA P ops X oi c s.tmps->
   Dy P md ops X Q fuel (listed.setIfInBounds i true) ⟨put s.tmps oi.dst c,s.H⟩->Dy P md ops X Q (fuel+1) listed s:=by
 have here:∀(s:S) (K:S->Prop),X s.H->YA P ops X oi c s.tmps->K ⟨put s.tmps oi.dst c,s.H⟩->Be P ops X i K s:=λs K hX hy hK=>by
  unfold Be;simp only[hi];rcases hy with⟨h1,h2⟩|⟨h1,rfl⟩
  .exact .inl ⟨h1,(h2 s.H hX).lh ⟨hX,hK⟩⟩
  .exact .inr ⟨h1,hK⟩
 intro fuel
 induction fuel with
 |zero=>
  intro listed s hX _ hr hy H;refine⟨λh=>bF,λj hj=>?_⟩;by_cases hji:j=i
  .subst hji;exact here s _ hX hy H
  .have:=ready_mono hj hji;rw[H.1]at this;cases this
 |succ fuel ih=>
  intro listed s hX hfree hr hy H;refine⟨λh=>bF,λj hj=>?_⟩;by_cases hji:j=i
  .subst hji;exact here s _ hX hy H
  .have h1:=H.2 j (ready_mono hj hji);obtain⟨hjun,oj,hoj,qb⟩:=mem_ready.1 hj
   have hnot:∀e∈oj.after,Region.binds md e=true->e.on≠i:=λe he hb heq=>by
    have h1:=qb e he hb;have h0:=(mem_ready.1 hr).1;rw[heq]at h1;rcases r6 i listed.size with h'|h'
    .simp[h']at h0 h1;rw[h0]at h1;cases h1
    .simp[sj h']at h1
   have hap:=hfree j oj hoj hji hjun hnot;have h2:=zsp hoj hap hy h1
   have hfree':∀k ok,ops[k]?=some ok->k≠i->(listed.setIfInBounds j true).getD k true=false->
     (∀e∈ok.after,Region.binds md e=true->e.on≠i)->oi.apart ops ok=true:=λk ok hk hki hun hno=>by
    refine hfree k ok hk hki ?_ hno;by_cases hjk:j=k
    .subst hjk;exact hjun
    .rw[getD_set_ne true hjk]at hun;exact hun
   refine zso hX (λs' hX' ⟨h3,h4⟩=>ih (listed.setIfInBounds j true) s' hX' hfree' (ready_mono hr (Ne.symm hji)) h3 ?_) h2;rw[uu _ _ hji];exact h4
def Wj(h:D6 md ops=true){oj:Oper}(hi:ops[i]?=some oi)(hj:ops[j]?=some oj)(hne:j≠i)(hd:AE md ops (oZ md ops) i j=false)
 (hno:∀e∈oj.after,Region.binds md e=true->e.on≠i):oi.apart ops oj=true:=by
 simp only[D6,SA,gE,rG]at h;have h1:=h i (gM.1 hi).1 j (gM.1 hj).1
 have hb:Nat.beq j i=false:=by
  cases hb:Nat.beq j i with
  |false=>rfl
  |true=>exact absurd (Nat.eq_of_beq_eq_true hb) hne
 simp only[hb,hd,rY,hi,hj,rD]at h1;rcases h1 with h1|h1
 .obtain⟨e,hem,hb⟩:=Array.any_eq_true'.1 h1;simp only[gH,pT]at hb;exact absurd hb.2 (hno e hem hb.1)
 .exact h1
def XC.trans{T:mW}{H H' H'':zn}(h:XC T H H')(h':XC T H' H''):XC T H H'':=⟨h.1.trans h'.1,h'.2⟩
def XC.back{T:mW}{H'':zn}(h:XC T H H')(h':XC T H H''):XC T H' H'':=⟨λid hi=>(h'.1 id hi).trans (h.1 id hi).symm,h'.2⟩
def WT{T:mW}{K:C->zn->Prop}(h:L7 P T H ρ o K):∃c,(∀H2,XC T H H2->fO P o ρ H2 c H2)/\K c H:=by
 unfold L7 at h;split at h
 .rename_i cl ho;split at h
  .rename_i x hcl;split at h
   .rename_i f first caps hf;obtain⟨h1,r,h2,h3⟩:=zY h;exact⟨r,λH2 hx=>.Mw cl ho x hcl hf h1 (h2 H2 hx),jv (k:=λc=>K c H) h3⟩
   .exact c7
  .exact c7
 .obtain⟨c,h1,h2⟩:=Ox h;exact⟨c,λH2 hx=>h1 H2 hx.1,h2⟩
def Y3{T:mW}{H0:zn}{k:Prop}(hX:XC T H0 H)(h:MG T H H' k):XC T H0 H'/\k:=by
 unfold MG at h;split at h
 .obtain⟨h1,h2⟩:=Hg h.2;exact⟨⟨hX.1.trans h1,λ_=>h.1⟩,h2⟩
 .rename_i hf;obtain⟨h1,h2⟩:=Hg h;exact⟨⟨hX.1.trans h1,λh=>by rw[hf]at h;cases h⟩,h2⟩
def Hx{bl:List Nat}{ops:Array Oper}{t:List C}:∀{l:List Nat} {i:Nat},pickE bl ops t l=some i->i∈l
 |[],i,h=>by cases h
 |j::l,i,h=>by
  have h:(match ops[j]? with
   |some o=>match x3 o || AG bl j with
    |true=>some j
    |false=>match jt ops t o with
     |some b=>match b with
      |true=>pickE bl ops t l
      |false=>some j
     |none=>pickE bl ops t l
   |none=>pickE bl ops t l)=some i:=h
  split at h
  .split at h
   .cases h;exact pX ..
   .split at h
    .split at h
     .exact pL _ (Hx h)
     .cases h;exact pX ..
    .exact pL _ (Hx h)
  .exact pL _ (Hx h)
def Km{T:mW}{ops:Array Oper}{H0:zn}{K:List C->zn->Prop}(hap:D6 .any ops=true):
  ∀(fuel:Nat) (listed:Array Bool) (t:List C) (H:zn),Down .any ops listed->listed.size=ops.size->XC T H0 H->bruteK P T ops fuel listed.toList t H K->
   Dy P .any ops (XC T H0) (λs=>K s.tmps s.H) fuel listed ⟨t,H⟩
 |0,listed,t,H,hd,hl,hX,h=>by
  have h:match readyB listed.toList ops.toList listed.toList 0 with
   |[]=>K t H
   |_::_=>False:=h
  split at h
  .rename_i hr;refine⟨?_,h⟩;rw[eI];intro i hi;have:=(FU hl i).1 hi;rw[hr]at this;cases this
  .exact c7
 |fuel+1,listed,t,H,hd,hl,hX,h=>by
  have h:match readyB listed.toList ops.toList listed.toList 0 with
   |[]=>K t H
   |i::is=>match pickE T.bl ops t (i::is) with
    |some i=>match ops[i]? with
     |some o=>Cx P T ops o i (λt H K=>bruteK P T ops fuel (listed.toList.set i true) t H K) t H K
     |none=>False
    |none=>bothK (λi=>match ops[i]? with
     |some o=>C9 P T ops o (λt H K=>bruteK P T ops fuel (listed.toList.set i true) t H K) t H K
     |none=>False) (i::is):=h
  split at h
  .rename_i hr
   have h0:Region.ready .any ops listed=[]:=by
    rw[eI];intro i hi;have:=(FU hl i).1 hi;rw[hr]at this;cases this
   exact⟨λ_=>h,λi hi=>by rw[h0]at hi;cases hi⟩
  .rename_i j js hr;have hset:∀i,(listed.setIfInBounds i true).toList=listed.toList.set i true:=λi=>by simp
   have hsz:∀i,(listed.setIfInBounds i true).size=ops.size:=λi=>by simpa using hl
   split at h
   .rename_i i hp;have hi:i∈Region.ready .any ops listed:=(FU hl i).2 (by rw[hr];exact Hx hp);split at h
    rotate_left
    .exact c7
    rename_i o ho
    have go:∀c,YA P ops (XC T H0) o c t->bruteK P T ops fuel (listed.toList.set i true) (put t o.dst c) H K->Dy P .any ops (XC T H0) (λs=>K s.tmps s.H) (fuel+1) listed ⟨t,H⟩:=λc hy hb=>
     XN ho fuel listed ⟨t,H⟩ hX (λj oj hj hne hun hno=>Wj hap ho hj hne (by
       cases hdp:AE .any ops (oZ .any ops) i j with
       |false=>rfl
       |true=>
        have h1:=hd.ready hi hdp;rcases r6 j listed.size with h'|h'
        .simp[h']at h1 hun;rw[h1]at hun;cases hun
        .simp[sj h']at h1) hno) hi hy
      (Km hap fuel _ _ _ (hd.step hi) (hsz i) hX (by rw[hset];exact hb))
    unfold Cx at h;split at h
    .rename_i hw;split at h
     .obtain⟨c,h1,h2⟩:=WT h;exact go c (.inl ⟨hw,λH2 h3=>h1 H2 (hX.back h3)⟩) (jG (k:=λt=>bruteK P T ops fuel (listed.toList.set i true) t H K) h2)
     .split at h
      .rename_i hb;obtain⟨c,h1,h2⟩:=OM hb h;exact go c (.inl ⟨hw,λH2 _=>h1 H2⟩) (jG (k:=λt=>bruteK P T ops fuel (listed.toList.set i true) t H K) h2)
      .exact c7
    .rename_i hw;exact go .un (.inr ⟨hw,rfl⟩) (jG (k:=λt=>bruteK P T ops fuel (listed.toList.set i true) t H K) h)
    .exact c7
   .have hne:Region.ready .any ops listed≠[]:=λh0=>by
     have:j∈readyB listed.toList ops.toList listed.toList 0:=by rw[hr];exact pX ..
     have:=(FU hl j).2 this;rw[h0]at this;cases this
    refine⟨λh0=>absurd h0 hne,λi hi=>?_⟩;have hi2:=(FU hl i).1 hi;rw[hr]at hi2;have h1:=Qx h i hi2;split at h1
    rotate_left
    .exact h1.elim
    rename_i o ho;unfold Be;rw[ho];dsimp only
    have next:∀t' H',XC T H0 H'->bruteK P T ops fuel (listed.toList.set i true) t' H' K->Dy P .any ops (XC T H0) (λs=>K s.tmps s.H) fuel (listed.setIfInBounds i true) ⟨t',H'⟩:=λt' H' hX' hb=>
     Km hap fuel _ _ _ (hd.step hi) (hsz i) hX' (by rw[hset];exact hb)
    unfold C9 at h1;split at h1
    .rename_i hw;refine .inl ⟨hw,?_⟩;split at h1
     .rename_i hlo;obtain⟨c,h2,h3⟩:=PB hlo h1;exact h2.lh ⟨hX,next _ _ hX (jG (k:=λt=>bruteK P T ops fuel (listed.toList.set i true) t H K) h3)⟩
     .refine(HN h1).Mz λc H' h2=>?_
      obtain⟨h3,h4⟩:=Y3 hX h2;exact⟨h3,next _ _ h3 (jG (k:=λt=>bruteK P T ops fuel (listed.toList.set i true) t H' K) h4)⟩
    .rename_i hw;exact .inr ⟨hw,next _ _ hX (jG (k:=λt=>bruteK P T ops fuel (listed.toList.set i true) t H K) h1)⟩
    .exact h1.elim
def jb.T3{id:Nat}{t:List C}{R:Exit->S->Prop}{R':List C->zn->Prop}{T:mW}(hm:P.follows .mixedOrders=true)(hap:D6 .any ops=true)(hf:T.flat=true->qw H=true)
 (h:bruteK P T ops ops.size (ops.toList.map λ_=>false) t H (λt1 H1=>∃t2 H2,zp B ⟨t1,H1⟩ ⟨t2,H2⟩/\R' t2 H2))(hR:∀t2 H2,R' t2 H2->R .normal ⟨t2,H2⟩):jb P B (.region id ops true) ⟨t,H⟩ R:=λq m w E a Q _ hs hq=>by
 refine wpIn_region_any hm (wu (X:=XC T H) (H0:=H) (Q:=λs=>∃t2 H2,zp B s ⟨t2,H2⟩/\R' t2 H2) (w0:=w) (E0:=E) (λs1 w1 E1 a1 he h1 g1=>?_) _ _ ⟨t,H⟩ _ E a hs.drew ((Grow.drew w E H).iX tB) ?_)
 .obtain⟨t2,H2,hw,hR2⟩:=he;obtain⟨E2,h2,g2⟩:=hw m w1 E1 a1 h1;exact hq _ _ w1 E2 a1 (hR t2 H2 hR2) h2 (g1.trans g2)
 .have e:(Array.replicate ops.size false).toList=ops.toList.map λ_=>false:=by
   rw[Array.toList_replicate,List.map_const'];simp
  refine Km (K:=λt1 H1=>∃t2 H2,zp B ⟨t1,H1⟩ ⟨t2,H2⟩/\R' t2 H2) hap _ _ _ _ Down.start aj ⟨.refl _ _,hf⟩ ?_;rw[e];exact h
structure Aw(P:Program)(B:Nat)(c:Code)(t:List C)(H:zn)(K:Exit->List C->zn->Prop):Prop where
 out:qg P B c ⟨t,H⟩ λex s=>K ex s.tmps s.H
def Vh(P:Program)(B:Nat)(c:Code):WK:=λt H K=>Aw P B c t H K
def Mk(P:Program)(B:Nat)(g:Operand)(ps:Array Tmp)(assign body:Code):WK:=λt H K=>match ev t g with
 |.fn f first caps=>bK (qh P f && first.isEmpty) <| ∃H0,zp B ⟨t,H⟩ ⟨t,H0⟩/\∃ex t' H',(∀(l:Nat) (r:Loop),r.state=.ready->r.pending=none->r.params=ps->r.assign=assign->r.body=body->
   ∃(rr:C) (Hf:zn) (rf:Loop),zb P f (H0++[iN l r t]) (.v (.func (.yield l) #[] #[])::caps) rr Hf/\Hf[H0.length]?=some (iN l rf t)/\rf.state≠.busy/\rf.tmps=r.tmps/\B<=Hf.length/\NX rf.pending ex/\
    zp B ⟨t,Hf.set H0.length (iN l {rf with state:=.exhausted} t)⟩ ⟨t',H'⟩)/\K ex t' H'
 |_=>False
structure n9(P:Program)(B:Nat)(c:Code)(l:Nat)(t:List C)(H:zn)(K:Exit->List C->zn->Prop):Prop where
 out:Dr P B c (λex s=>K ex s.tmps s.H) l ⟨t,H⟩
def T6(P:Program)(B:Nat)(c:Code)(x:WK):WK:=λt H K=>x t H λex t H=>match ex with
 |.goto l=>n9 P B c l t H K
 |ex=>K ex t H
def mD:WK:=λ_ _ _=>False
noncomputable def wpA(P:Program)(B:Nat)(c:Code):WK:=
 Code.rec (motive:=λ_=>WK) (λt H K=>K .normal t H) (λ_ ops draw=>regionK P B ops draw) (λ_ _ x y=>Vs x y) (λc _ _ x y=>Mp c x y) (λid _ x=>zzP id x) (λc _=>Vh P B c)
  (λg ps assign body _ _=>Mk P B g ps assign body) (λid t H K=>K (.exit id) t H) (λc x=>T6 P B c x) (λ_ t H K=>K .normal t H) (λl t H K=>K (.goto l) t H) (λt H K=>K .ret t H) (λ_=>mD) c
def jJ:∀{c:Code} {t:List C} {H:zn} {K:Exit->List C->zn->Prop},wpA P B c t H K->jb P B c ⟨t,H⟩ λex s=>K ex s.tmps s.H:=by
 intro c
 induction c with
 |skip=>intro t H K h;exact .skip h
 |exit id=>intro t H K h;exact .exit id h
 |ret=>intro t H K h;exact .ret h
 |label l=>intro t H K h;exact .label l h
 |seq x y ihx ihy=>
  intro t H K h;refine .seq ((ihx (t:=t) (H:=H) (K:=λex t H=>match ex with|.normal=>wpA P B y t H K|ex=>K ex t H) h).mono λex s1 h1=>?_);cases ex with
  |normal=>exact ihy h1
  |_=>exact h1
 |block id c ih=>
  intro t H K h;refine .block ((ih (t:=t) (H:=H) (K:=λex t H=>match ex with|.exit id'=>if id'=id then K .normal t H else K (.exit id') t H|ex=>K ex t H) h).mono λex s1 h1=>?_);cases ex with
  |exit id'=>exact h1
  |_=>exact h1
 |scope c ih=>
  intro t H K h;refine .T5 ((ih (t:=t) (H:=H) (K:=λex t H=>match ex with|.goto l=>n9 P B c l t H K|ex=>K ex t H) h).mono λex s1 h1=>?_);cases ex with
  |goto l=>exact(show n9 P B c l s1.tmps s1.H K from h1).out
  |_=>exact h1
 |goto l=>intro t H K h;exact .goto l h
 |cond c x y ihx ihy=>
  intro t H K h
  change Mp c (wpA P B x) (wpA P B y) t H K at h
  unfold Mp at h;split at h
  .rename_i b hb;cases b with
   |true=>exact .cond (s:=⟨t,H⟩) hb (ihx h)
   |false=>exact .cond (s:=⟨t,H⟩) hb (ihy h)
  .exact c7
 |region id ops draw=>
  intro t H K h;cases draw with
  |false=>exact .region (Kv (show mM P ops ops.toList t H (λt H=>K .normal t H) from h))
  |true=>
   rcases(show(∃T:mI,(P.follows .mixedOrders && Region.lexB .any ops && ES .any T ops)=true/\oF P T ops ops.toList 0 t H λt H=>K .normal t H)\/
    ∃T:mW,(P.follows .mixedOrders && D6 .any ops)=true/\(T.flat=true->qw H=true)/\∃R:List C->zn->Prop,bruteK P T ops ops.size (ops.toList.map λ_=>false) t H (λt1 H1=>∃t2 H2,zp B ⟨t1,H1⟩ ⟨t2,H2⟩/\R t2 H2)/\∀t2 H2,R t2 H2->K .normal t2 H2 from h) with h|⟨T,hm,hf,R,h1,h2⟩
   rotate_left
   .rw[gH]at hm;exact jb.T3 hm.1 hm.2 hf h1 h2
   obtain⟨T,h1,h2⟩:=h;simp only[gH]at h1;obtain⟨s',h3,h4⟩:=Run.Vb (B:=B) (id:=id) h1.1.1 h1.1.2 h1.2 h2;exact jb.mono h3 λex s1 ⟨e1,e2⟩=>by subst e1 e2;exact h4
 |loop c ih=>intro t H K h;exact .loop (show Aw P B c t H K from h).out
 |rangeFunc g ps assign body=>
  intro t H K h
  change Mk P B g ps assign body t H K at h
  unfold Mk at h;split at h
  .rename_i f first caps hg;obtain⟨h1,H0,h0,ex,t',H',h2,h3⟩:=zY h;simp only[gH,fj]at h1;obtain⟨h1,rfl⟩:=h1;refine .pre h0 (.rangeFunc hg h1 λl r a1 a2 a3 a4 a5=>?_);obtain⟨rr,Hf,rf,b1,b2,b3,b4,b5,b6,b7⟩:=h2 l r a1 a2 a3 a4 a5;exact⟨rr,Hf,rf,ex,⟨t',H'⟩,b1,b2,b3,b4,b5,b6,b7,h3⟩
  .exact c7
 |_=>intro t H K h;exact(show False from h).elim
def n9.go{rest:Code}{l:Nat}{t:List C}(hf:findLabel c l=some rest)
 (h:wpA P B rest t H λex t H=>match ex with|.goto l=>n9 P B c l t H K|ex=>K ex t H):n9 P B c l t H K:=by
 refine⟨.mk _ hf (jJ h) (λe s h1 he=>?_) λl s h1=>(show n9 P B c l s.tmps s.H K from h1).out⟩;cases e with
 |goto l=>exact absurd V (he l)
 |_=>exact h1
def jM.zN{H1:zn}{id l:Nat}{r:Loop}{t:List C}{rv:Bool}{assign body:Code}(hob:H1[id]?=some (iN l r t))(hst:r.state=.ready)(hpe:r.pending=none)(hps:r.params=ps)(ha:r.assign=assign)(hb:r.body=body)
 (hn:args.length=ps.size)(hna:xW assign=false)(hnb:xW body=false)
 (h:wpA P H1.length assign (DE t ps.toList args) H1 λe t1 H1'=>e=.normal/\H1'[id]?=some (iN l r t)/\wpA P H1.length body t1 (H1'.set id (iN l (busy r) t)) λe t2 H2=>
   ∃t3 H3,zp H1.length ⟨t2,H2⟩ ⟨t3,H3⟩/\SR id l r t rv H' e H3):
  jM P l H1 args (.v (.bool rv)) H':=by
 subst hps ha hb;refine jM.AP hob hst hpe hn hna hnb ((jJ h).mono λe s1 ⟨h1,h2,h3⟩=>⟨h1,h2,(jJ h3).mono λe s2 ⟨t3,H3,h4,h5⟩=>⟨⟨t3,H3⟩,h4,h5⟩⟩)
def qg.inv{t:List C}(I:Nat->List C->zn->Prop)(n:Nat)(h0:∃t0 H0,zp B ⟨t,H⟩ ⟨t0,H0⟩/\I n t0 H0)
 (step:∀n t H,I n t H->wpA P B c t H λe t1 H1=>(e=.normal/\∃m t2 H2,m<n/\zp B ⟨t1,H1⟩ ⟨t2,H2⟩/\I m t2 H2)\/(e≠.normal/\K e t1 H1)):
  Aw P B c t H K:=by
 obtain⟨t0,H0,hw,hI⟩:=h0;refine⟨.pre hw ?_⟩
 suffices key:∀n t H,I n t H->mu P B c (n+1) ⟨t,H⟩ λex s=>K ex s.tmps s.H from⟨n+1,key n t0 H0 hI⟩
 intro n
 induction n using Nat.strongRecOn with
 |_ n ih=>
  intro t H hI;refine .step ((jJ (step n t H hI)).post λex s1 h1=>?_);rcases h1 with⟨rfl,m,t2,H2,hm,hw2,hI2⟩|⟨hne,hK⟩
  .exact⟨⟨t2,H2⟩,hw2,(mu.more aw (ih m hm t2 H2 hI2):mu P B c n ⟨t2,H2⟩ _)⟩
  .refine⟨s1,.refl s1,?_⟩;cases ex with
   |normal=>exact absurd V hne
   |_=>exact hK
def zb.zN{r:C}(hf:P.funcs[f]?=some fn)(hb:fn.body=some c)
 (h:wpA P H.length c (entry fn args) H λex t1 H1=>(ex=.ret\/ex=.normal)/\∃s2,zp H.length ⟨t1,H1⟩ s2/\s2.H=H'/\wa P fn s2=some r):zb P f H args r H':=
 qM.at (qM.AP hf hb ((jJ h).mono λex s1 ⟨hex,s2,hw,h2,h3⟩=>⟨hex,s2,r,hw,h3,rfl,h2⟩))
def qM.zN(hf:P.funcs[f]?=some fn)(hb:fn.body=some c)
 (h:wpA P H.length c (entry fn args) H λex t1 H1=>(ex=.ret\/ex=.normal)/\∃s2 r,zp H.length ⟨t1,H1⟩ s2/\wa P fn s2=some r/\R r s2.H):qM P f H args R:=
 qM.AP hf hb (jJ h)
def zb.LO{r:C}(hf:P.funcs[f]?=some fn)(hb:fn.body=some c)
 (h:wpA P 0 c (entry fn args) [] λex t1 H1=>(ex=.ret\/ex=.normal)/\∃s2,zp 0 ⟨t1,H1⟩ s2/\wa P fn s2=some r)(hr:je 0 9 r=true):zb P f [] args r []:=
 qM.close (R:=λc=>c=r) (qM.AP (H:=[]) (R:=λc _=>c=r) hf hb ((jJ h).mono λex s1 ⟨hex,s2,hw,h2⟩=>⟨hex,s2,r,hw,h2,rfl⟩)) λc h=>⟨h,hr⟩
end
theorem z7{n:Int}(h0: -9223372036854775808<=n)(h1:n<=9223372036854775807):IntKind.i64.wrap n=n:=IntWalk.i64_in n ⟨h0,h1⟩
def zw{n:Nat}(h:n<9223372036854775807):IntKind.i64.wrap ((n:Int)+1)=((n+1:Nat):Int):=by rw[z7 aw aw];rfl
section
variable {P:Program} {f:FuncId} {H H':zn}
def zb.pre{args':List C}{r:C}(h:zb P f H args' r H')(hw:i7 args args'):zb P f H args r H':=λw E vs hh hl=>h w E vs hh (hw.LL hl)
def zb.post{r r':C}(h:zb P f H args r H')(hw:WC r r'):zb P f H args r' H':=λw E vs hh hl=>(h w E vs hh hl).mono λe w' ⟨v,E',h1,h2,h3,h4⟩=>⟨v,E',h1,h2,hw E' v h3,h4⟩
def toNat_cast(n:Nat):((n:Int)).toNat=n:=by simp
end
def HM{vs:Array Value}{v:Value}{r:C}(H:zn)(hc:∀w,Calls P f vs w λe w'=>e=.returned v/\w'=w)(ha:∀E (us:Array Value),LL E args us.toList->us=vs)(hr:∀E,L E r v):zb P f H args r H:=λw E us hh hl=>by
 obtain rfl:=ha E us hl;refine(hc w).mono ?_;rintro e w' ⟨rfl,rfl⟩;exact⟨v,E,rfl,hh,hr E,Grow.refl _ _ _⟩
def T2{a:Value}(E:Env)(us:Array Value)(h:LL E [.v a] us.toList):us= #[a]:=by
 obtain⟨l⟩:=us
 match l,h with
 |[],h=>have:=h.1;simp at this
 |[x],h=>
  obtain⟨h1,_⟩:=h.cons_inv;cases h1;rfl
 |_::_::_,h=>have:=h.1;simp at this
def Mt{a b:Value}(E:Env)(us:Array Value)(h:LL E [.v a,.v b] us.toList):us= #[a,b]:=by
 obtain⟨l⟩:=us
 match l,h with
 |[],h=>have:=h.1;simp at this
 |[_],h=>have:=h.1;simp at this
 |[x,y],h=>
  obtain⟨h1,h2⟩:=h.cons_inv;obtain⟨h2,_⟩:=h2.cons_inv;cases h1;cases h2;rfl
 |_::_::_::_,h=>have:=h.1;simp at this
theorem xV{t:Nat}{y:α}(h:l[t]?=some y):l.set t y=l:=by
 apply pC
 intro i;rw[gJ];split
 .rename_i e;subst e;obtain⟨h1,h2⟩:=gh.1 h;rw[gz h1,h]
 .rfl
section
variable {B:Nat} {s:S}
def qn.freeze(h:qn w E H){id:Nat}(hob:H[id]?=some ob)(hk:ob.kind=2)(hno:∀i k c,cellAt ob.rows i k=some c->zB c=true):
  ∃E',E.le E'/\qn w E' (H.modify id λob=>⟨ob.kind,ob.ty,ob.sz,ob.rows,ob.rows.length⟩)/\(∀b o u,E'.St b o=some u->E.St b o=some u\/b=E.β id [])/\E'.β=E.β/\E'.G=E.G/\
   ∀i k c,cellAt ob.rows i k=some c->∃u,E'.St (E.β id []) (i*ob.sz+k)=some u/\L E'.shut c u:=by
 have hgb:qd H id []=some (ob.sz,ob.rows):=by unfold qd;rw[hob];simp[hk,jc]
 have hB:=h.fR id ob [] _ _ hob hgb;obtain⟨cur,e,hg,hcs,hcell⟩:=hB.fR
 have key:∀o,o<ob.rows.length*ob.sz->∃u,cur[o]?=some u/\u.oneCell'=true/\w.cell? ⟨E.β id [],o,none⟩=some u:=by
  intro o ho;obtain⟨h1,h2,h3⟩:=JS ho;obtain⟨c,hc⟩:=GU hB.row h1 h2;obtain⟨u,hu,hok⟩:=hcell _ _ c hc;rw[jf.loose (hno _ _ c hc)]at hok;rw[h3]at hu;exact⟨u,hu,hok.2,by unfold World.cell?;rw[hg];simpa using hu⟩
 obtain⟨E',hE'⟩:∃E':Env,E'={E with St:=λb o=>if b=E.β id []/\o<ob.rows.length*ob.sz then cur[o]? else E.St b o}:=⟨_,rfl⟩
 have hle:E.le E':=by
  subst hE';refine⟨gG _,λ_ _ _=>V,λ_ _ _=>V,λb o u hu=>?_,λ_ _ _ _ hu=>hu⟩;show(if b=E.β id []/\o<ob.rows.length*ob.sz then cur[o]? else E.St b o)=some u;split
  .rename_i hc;obtain⟨rfl,ho⟩:=hc;obtain⟨u',h1,_,h2⟩:=key o ho;have:=(h.qA _ _ _ hu).1;rw[h2]at this;rw[h1,<-this]
  .exact hu
 have hSt:∀b o u,E'.St b o=some u->E.St b o=some u\/(b=E.β id []/\o<ob.rows.length*ob.sz/\cur[o]?=some u):=by
  subst hE';intro b o u hu
  change (if b=E.β id []/\o<ob.rows.length*ob.sz then cur[o]? else E.St b o)=some u at hu
  split at hu
  .rename_i hc;exact .inr ⟨hc.1,hc.2,hu⟩
  .exact .inl hu
 have hβ:E'.β=E.β:=by subst hE';rfl
 have hn:E'.n=E.n:=by subst hE';rfl
 have get:∀id' hops x,qd (H.modify id λob=>⟨ob.kind,ob.ty,ob.sz,ob.rows,ob.rows.length⟩) id' hops=some x->qd H id' hops=some x:=by
  intro id' hops x hx;obtain⟨ob',ho',hk',hg'⟩:=ju hx;rw[pZ]at ho';cases hx':H[id']? with
  |none=>rw[hx']at ho';cases ho'
  |some ob0=>
   rw[hx']at ho';simp only[r5,gK,gX]at ho';unfold qd;rw[hx'];split at ho'
   .subst ho';simp only[hk',if_true];exact hg'
   .subst ho';simp only[hk',if_true];exact hg'
 have obs:∀(id':Nat) (ob':Ob),(H.modify id λob=>⟨ob.kind,ob.ty,ob.sz,ob.rows,ob.rows.length⟩)[id']?=some ob'->∃ob0,H[id']?=some ob0/\ob'.kind=ob0.kind/\ob'.ty=ob0.ty/\ob'.sz=ob0.sz/\ob'.rows=ob0.rows/\ob0.fz<=ob'.fz/\ob'.fz<=ob'.rows.length/\(id'=id->ob'.fz=ob0.rows.length):=by
  intro id' ob' ho';rw[pZ]at ho';cases hx':H[id']? with
  |none=>rw[hx']at ho';cases ho'
  |some ob0=>
   rw[hx']at ho';simp only[r5,gK,gX]at ho';have:=h.fz id' ob0 hx';split at ho'
   .subst ho';exact⟨ob0,rfl,rfl,rfl,rfl,rfl,this,gG _,λ_=>V⟩
   .rename_i hne;subst ho';exact⟨ob0,rfl,rfl,rfl,rfl,rfl,gG _,this,λe=>absurd e.symm hne⟩
 refine⟨E',hle,⟨by rw[hn,h.n];simp,?_,?_,?_,?_,?_,?_⟩,λb o u hu=>(hSt b o u hu).imp_right (·.1),hβ,by subst hE';rfl,?_⟩
 .intro id' ob' hops sz rows hob' hx;obtain⟨ob0,h1,h2,_⟩:=obs id' ob' hob';have hx':=get _ _ _ hx;rw[h2];exact(h.fR id' ob0 hops sz rows h1 hx').step hle (by rw[h.n];exact Dg hx') V
 .intro id1 p1 id2 p2 x y hx hy he;rw[hβ]at he;exact h.inj id1 p1 id2 p2 x y (get _ _ _ hx) (get _ _ _ hy) he
 .intro b o u hu;rcases hSt b o u hu with h1|⟨rfl,h2,h3⟩
  .exact h.qA b o u h1
  .obtain⟨u',h4,h5,h6⟩:=key o h2;rw[h3]at h4;cases h4
   exact⟨h6,h5⟩
 .intro id' hops x o u hx hu;have hx':=get _ _ _ hx;rw[hβ]at hu;obtain⟨ob1,ho1,_,_⟩:=ju hx;obtain⟨ob0,h1,h2,h3,h4,h5,h6,h7,h8⟩:=obs id' ob1 ho1;rcases hSt _ o u hu with h9|⟨h9,h10,_⟩
  .obtain⟨e1,ob2,e2,e3⟩:=h.sep id' hops x o u hx' h9;rw[h1]at e2;cases e2
   exact⟨e1,ob1,ho1,by rw[h4];exact pN e3 (p7 _ h6)⟩
  .obtain⟨rfl,rfl⟩:=h.inj id' hops id [] x _ hx' hgb h9;rw[hob]at h1;cases h1
   exact⟨rfl,ob1,ho1,by rw[h8 V,h4];exact h10⟩
 .intro id' ob' hob' hk';obtain⟨ob0,h1,h2,h3,_⟩:=obs id' ob' hob';obtain⟨cur',hc⟩:=h.ty id' ob0 h1 (by rw[<-h2];exact hk');exact⟨cur',by rw[hβ,h3];exact hc⟩
 .intro id' ob' hob';obtain⟨ob0,h1,h2,h3,h4,h5,h6,h7,h8⟩:=obs id' ob' hob';exact h7
 .intro i k c hc;obtain⟨u,hu,hok⟩:=hcell i k c hc;rw[jf.loose (hno _ _ c hc)]at hok;obtain⟨h1,h2⟩:=Hq hB.row hc
  have fE:i*ob.sz+k<ob.rows.length*ob.sz:=by
   have:(i+1)*ob.sz<=ob.rows.length*ob.sz:=p7 _ h1;rw[rk]at this;omega
  refine⟨u,?_,?_⟩
  .subst hE';show(if E.β id []=E.β id []/\i*ob.sz+k<ob.rows.length*ob.sz then cur[i*ob.sz+k]? else _)=some u;rw[gz ⟨rfl,fE⟩];exact hu
  .have h3:=hok.1;simp only[Env.at,hk,if_true]at h3;exact h3.mono hle.shut
def zp.freeze(t:Nat){id sz lo len:Nat}{full:Bool}{ob:Ob}(ht:s.tmps[t]?=some (.sl id [] sz lo len full))(hob:s.H[id]?=some ob)(hk:ob.kind=2)(hsz:ob.sz=sz)(hlen:lo+len<=ob.rows.length)
 (hno:∀r∈ob.rows,∀c∈r,zB c=true):
  zp B s ⟨s.tmps.set t (.fF (if full then 1 else 0) sz ((ob.rows.drop lo).take len)),s.H.modify id λob=>⟨ob.kind,ob.ty,ob.sz,ob.rows,ob.rows.length⟩⟩:=λm w E a hs=>by
 subst hsz
 have hno':∀i k c,cellAt ob.rows i k=some c->zB c=true:=λi k c hc=>by
  unfold cellAt at hc;cases hx:ob.rows[i]? with
  |none=>rw[hx]at hc;cases hc
  |some r=>rw[hx]at hc;exact hno r (gu hx) c (gu hc)
 obtain⟨E',hle,hR,hnew,hβ,hKG0,hcells⟩:=hs.heap.base.freeze hob hk hno';have hgb:qd s.H id []=some (ob.sz,ob.rows):=by unfold qd;rw[hob];simp[hk,jc]
 have hrow:=(hs.heap.base.fR id ob [] _ _ hob hgb).row;obtain⟨y,hy,hl⟩:=hs.tmps.get ht
 have hnl:L E' (.fF (if full then 1 else 0) ob.sz ((ob.rows.drop lo).take len)) y:=by
  generalize hc:C.sl id [] ob.sz lo len full=c at hl;cases hl with
  |sl id' hops' sz' lo' len' full' cap hn hlen' hf hf'=>
   cases hc
   have hrl:((ob.rows.drop lo).take len).length=len:=aA
   have hsub:∀i k,cellAt ((ob.rows.drop lo).take len) i k=if i<len then cellAt ob.rows (lo+i) k else none:=by
    intro i k;unfold cellAt;rw[pB];split
    .rw[rb]
    .rfl
   have ex:∀i r k c,((ob.rows.drop lo).take len)[i]?=some r->r[k]?=some c->∃u,E'.St (E.β id []) (lo*ob.sz+i*ob.sz+k)=some u/\L E'.shut c u:=by
    intro i r k c hr hc;have hcc:cellAt ((ob.rows.drop lo).take len) i k=some c:=by unfold cellAt;rw[hr];exact hc
    rw[hsub]at hcc;split at hcc
    .obtain⟨u,h1,h2⟩:=hcells _ _ c hcc;exact⟨u,by rw[<-rk];exact h1,h2⟩
    .cases hcc
   have:=L.fF (E:=E') (if full then 1 else 0) ob.sz ((ob.rows.drop lo).take len) (E.β id []) (lo*ob.sz) cap (λi k=>(E'.St (E.β id []) (lo*ob.sz+i*ob.sz+k)).getD undef) ?_ ?_ ?_ ?_ ?_
   .rw[hrl]at this;exact dG
   .cases full with
    |false=>exact .inl V
    |true=>exact .inr ⟨rfl,by rw[hrl];exact hf V⟩
   .rw[hrl];exact hlen'
   .exactλr hr=>hrow r (sa (rH hr))
   .intro i r k c hr hc;obtain⟨u,h1,h2⟩:=ex i r k c hr hc;rw[h1];rfl
   .intro i r k c hr hc;obtain⟨u,h1,h2⟩:=ex i r k c hr hc;rw[h1];exact h2
  |_=>cases hc
 have hG:qL w E s.H w E' (s.H.modify id λob=>⟨ob.kind,ob.ty,ob.sz,ob.rows,ob.rows.length⟩):=by
  have hKG:∀(id k:Nat),id<E.n->E'.G id k=E.G id k:=λ_ _ _=>by rw[hKG0]
  refine⟨hle,hKG,rfl,rfl,rfl,gG _,λ_ _ _=>V,λb o u hu=>?_,?_⟩
  .rcases hnew b o u hu with h1|h1
   .exact .inl h1
   .exact .inr (.inr ⟨id,[],_,hgb,h1.symm⟩)
  .rintro b ⟨id',p,x,hx,rfl⟩
   right
   refine⟨id',p,x,?_,by rw[hβ]⟩;obtain⟨ob',ho',hk',hg'⟩:=ju hx;rw[pZ]at ho';cases hx':s.H[id']? with
   |none=>rw[hx']at ho';cases ho'
   |some ob0=>
    rw[hx']at ho';simp only[r5,gK,gX]at ho';unfold qd;rw[hx'];split at ho'
    .subst ho';simp only[hk',if_true];exact hg'
    .subst ho';simp only[hk',if_true];exact hg'
 have hk4:jL s.H (s.H.modify id λob=>⟨ob.kind,ob.ty,ob.sz,ob.rows,ob.rows.length⟩):=jL.modify _ _ _ λob' h'=>by
  rw[hob]at h';cases h'
  exact⟨by rw[hk];decide,by show ob.kind≠4;rw[hk];decide⟩
 refine⟨E',⟨⟨hR,nX.step hs.heap hG hk4⟩,?_,hs.defers,aq hs.base⟩,(hG.up hs.heap hk4).iX tB⟩;have:=(hs.tmps.mono hle).set hnl t;rw[xV hy]at this;exact dG
end
def posOf:List Nat->Nat->Nat->Option Nat
 |[],_,_=>none
 |x::xs,i,id=>if x == id then some i else posOf xs (i+1) id
def yx:∀{sel:List Nat} {k id i:Nat},posOf sel k id=some i->k<=i/\sel[i-k]?=some id
 |[],k,id,i,h=>by simp[posOf]at h
 |x::xs,k,id,i,h=>by
  unfold posOf at h;split at h
  .rename_i e;cases h
   exact⟨gG _,aq e⟩
  .obtain⟨h1,h2⟩:=yx h;refine⟨aw,?_⟩;rw[show i-k=(i-(k+1))+1 from aw];simpa using h2
def xX(sel:List Nat):Nat->C->C
 |0,_=>.za
 |k+1,c=>match c with
  |.ref id hops sz i j=>match posOf sel 0 id with
   |some id'=>.ref id' hops sz i j
   |none=>.za
  |.sl id hops sz lo len full=>match posOf sel 0 id with
   |some id'=>.sl id' hops sz lo len full
   |none=>.za
  |.mp id=>match posOf sel 0 id with
   |some id'=>.mp id'
   |none=>.za
  |.gl id sz rows=>match posOf sel 0 id with
   |some id'=>.gl id' sz rows
   |none=>.fF 0 sz rows
  |.iF t c=>.iF t (xX sel k c)
  |.rc r=>.rc r
  |.agg cs=>.agg (cs.map (xX sel k))
  |.fJ cs=>.fJ (cs.map (xX sel k))
  |.fn f first caps=>.fn f (first.map (xX sel k)) (caps.map (xX sel k))
  |.v x=>.v x
  |.fF o sz rows=>.fF o sz rows
  |.jy cells=>.jy cells
  |.un=>.un
  |.za=>.za
def Env.fL(E:Env)(sel:List Nat):Env:={n:=sel.length,β:=λi hops=>E.β ((sel[i]?).getD 0) hops,κ:=λi hops=>E.κ ((sel[i]?).getD 0) hops,St:=E.St,G:=λi k=>E.G ((sel[i]?).getD 0) k}
def Env.HF(E:Env)(sel:List Nat):E.shut.le (E.fL sel).shut:=⟨gG _,λid hops hi=>absurd hi (pG _),λid hops hi=>absurd hi (pG _),λb o u hu=>hu,λid _ _ hi=>absurd hi (pG _)⟩
def LL.fL{E':Env}{f:C->C}(h:LL E cs ys)(hf:∀c y,L E c y->L E' (f c) y):LL E' (cs.map f) ys:=
 ⟨aq h.1,λi c y e1 e2=>by
  rw[gy]at e1;cases hx:cs[i]? with
  |none=>rw[hx]at e1;cases e1
  |some c0=>rw[hx]at e1;cases e1;exact hf c0 y (h.2 i c0 y hx e2)⟩
def L.fL{E:Env}(sel:List Nat):∀(k:Nat) {c:C} {y:Value},L E c y->L (E.fL sel) (xX sel k c) y:=by
 intro k
 induction k with
 |zero=>intro c y h;exact .za y
 |succ k ih=>
  intro c y h
  have pos:∀{id i},posOf sel 0 id=some i->i<sel.length/\(sel[i]?).getD 0=id:=λ{id i} e=>by
   obtain⟨_,h2⟩:=yx e;rw[rS]at h2;exact⟨(gh.1 h2).1,by rw[h2];rfl⟩
  cases h with
  |v x hx=>exact .v _ hx
  |fF o sz rows b off cap us ho hc hsz hst hL=>
   exact .fF o sz rows b off cap us ho hc hsz hst (λi r k c e1 e2=>(hL i r k c e1 e2).mono (E.HF sel))
  |xE o sz ho a=>exact .xE o sz ho a
  |jy cells b off us hst hL=>
   exact .jy cells b off us hst (λk c e1=>(hL k c e1).mono (E.HF sel))
  |ref id hops sz i j hn=>
   unfold xX;dsimp only;split
   .rename_i id' e;obtain⟨h1,h2⟩:=pos e;have:=L.ref (E:=E.fL sel) id' hops sz i j h1;simp only[Env.fL,h2]at this;exact dG
   .exact .za _
  |sl id hops sz lo len full cap hn hlen hf hf'=>
   unfold xX;dsimp only;split
   .rename_i id' e;obtain⟨h1,h2⟩:=pos e;have:=L.sl (E:=E.fL sel) id' hops sz lo len full cap h1 hlen hf (by simp only[Env.fL,h2];exact hf');simp only[Env.fL,h2]at this;exact dG
   .exact .za _
  |mp id hn=>
   unfold xX;dsimp only;split
   .rename_i id' e;obtain⟨h1,h2⟩:=pos e;have:=L.mp (E:=E.fL sel) id' h1;simp only[Env.fL,h2]at this;exact dG
   .exact .za _
  |agg cs ys h1 h2 h3=>
   have:=LL.fL (f:=xX sel k) (E':=E.fL sel) (cs:=cs) (ys:=ys.toList) ⟨aq h1,λi c y e1 e2=>h2 i c y e1 uZ⟩ (λc y hl=>ih hl);exact dD
  |fJ cs ys h1 h2=>
   have:=LL.fL (f:=xX sel k) (E':=E.fL sel) (cs:=cs) (ys:=ys.toList) ⟨aq h1,λi c y e1 e2=>h2 i c y e1 uZ⟩ (λc y hl=>ih hl);exact .fJ _ ys (aq this.1) (λi c y e1 e2=>this.2 i c y e1 uZ)
  |fn f first caps ys zs h1 h2 h3 h4=>
   have t1:=LL.fL (f:=xX sel k) (E':=E.fL sel) (cs:=first) (ys:=ys.toList) ⟨aq h1,λi c y e1 e2=>h3 i c y e1 uZ⟩ (λc y hl=>ih hl);have t2:=LL.fL (f:=xX sel k) (E':=E.fL sel) (cs:=caps) (ys:=zs.toList) ⟨aq h2,λi c y e1 e2=>h4 i c y e1 uZ⟩ (λc y hl=>ih hl);exact dM
  |un=>exact .un
  |za y=>exact .za y
  |gl id sz rows y hn hg hl=>
   unfold xX;dsimp only;split
   .rename_i id' e;obtain⟨h1,h2⟩:=pos e;exact .gl id' sz rows y h1 (by simp only[Env.fL,h2];exact hg) (hl.mono (E.HF sel))
   .have h3:E.shut.le (E.fL sel):=⟨pa _,λid hops hi=>absurd hi (pG _),λid hops hi=>absurd hi (pG _),λb o u hu=>hu,λid _ _ hi=>absurd hi (pG _)⟩;exact hl.mono h3
  |iF t c y hl=>exact .iF t _ y (ih hl)
def Qq(sel:List Nat)(k:Nat){c:C}(h:zB c=true):zB (xX sel k c)=true:=by
 cases k with
 |zero=>rfl
 |succ k=>
  cases c with
  |fF o sz rows=>exact h
  |ref id hops sz i j=>unfold xX;dsimp only;split <;> rfl
  |sl id hops sz lo len full=>unfold xX;dsimp only;split <;> rfl
  |mp id=>unfold xX;dsimp only;split <;> rfl
  |gl id sz rows=>unfold xX;dsimp only;split <;> rfl
  |_=>rfl
def zL(sel:List Nat)(ob:Ob):Ob:=
 match ob with
 |⟨kind,ty,sz,rows,fz⟩=>⟨kind,ty,sz,match kind with
  |2=>rows
  |4=>rows
  |_=>rows.map λr=>r.map (xX sel 9),fz⟩
def dead:Ob:=⟨0,0,0,[],0⟩
def xJ(sel:List Nat)(H:zn):zn:=sel.map λid=>zL sel ((H[id]?).getD dead)
def yw:List Nat->Bool
 |[]=>true
 |x::xs=>!(xs.any (· == x)) && yw xs
def wN:∀{l:List Nat},yw l=true->∀(i j x:Nat),l[i]?=some x->l[j]?=some x->i=j
 |[],_,i,j,x,h,_=>by simp at h
 |y::l,h,i,j,x,h1,h2=>by
  simp only[yw,gH,pK,pq]at h;cases i with
  |zero=>
   cases j with
   |zero=>rfl
   |succ j=>
    simp at h1 h2;subst h1;exact absurd aj (h.1 _ (gu h2))
  |succ i=>
   cases j with
   |zero=>
    simp at h1 h2;subst h2;exact absurd aj (h.1 _ (gu h1))
   |succ j=>
    simp at h1 h2;rw[wN h.2 i j x h1 h2]
def L.zxf{c:C}(h:L E c y)(hc:Dd c=true):L E.shut c y:=by
 cases h with
 |agg cs ys h1 h2 h3=>
  refine .agg cs ys h1 (λi c y e1 e2=>(h2 i c y e1 e2).wj ?_) h3;exact gE.1 (show cs.all xm=true from hc) _ (gu e1)
 |v x hx=>exact(L.v (E:=E) _ hx).wj hc
 |fF o sz rows b off cap us ho h2 hsz hst hL=>exact(L.fF (E:=E) o sz rows b off cap us ho h2 hsz hst hL).wj hc
 |xE o sz ho a=>exact(L.xE (E:=E) o sz ho a).wj hc
 |jy cells b off us hst hL=>exact(L.jy (E:=E) cells b off us hst hL).wj hc
 |fn f first caps ys zs h1 h2 h3 h4=>exact(L.fn (E:=E) f first caps ys zs h1 h2 h3 h4).wj hc
 |_=>simp[Dd,xm,B6]at hc
def LL.closed{E':Env}{t:List C}(h:LL E t ys)(hc:t.all Dd=true)(hs:E.shut.le E'):LL E' t ys:=
 ⟨h.1,λi c y e1 e2=>((h.2 i c y e1 e2).zxf (gE.1 hc _ (gu e1))).mono hs⟩
section
variable {B:Nat}
def yc(h:(xJ sel H)[i]?=some ob')(qb:sel.all (λid=>Nat.blt id H.length)=true):∃id ob,sel[i]?=some id/\H[id]?=some ob/\ob'=zL sel ob:=by
 unfold xJ at h;rw[gy]at h;cases hx:sel[i]? with
 |none=>rw[hx]at h;cases h
 |some id=>
  rw[hx]at h
  have fE:id<H.length:=by
   have:=gE.1 qb id (gu hx);simpa [fC] using this
  have h2:H[id]?=some H[id]:=bc
  simp only[gK,gX,h2,Option.getD_some]at h;exact⟨id,H[id],rfl,h2,h.symm⟩
def DU(qb:sel.all (λid=>Nat.blt id H.length)=true)(iu:qw H=true)(h:qd (xJ sel H) i hops=some (sz,rows)):
  ∃id ob rows0,sel[i]?=some id/\H[id]?=some ob/\qd H id hops=some (sz,rows0)/\((ob.kind=2/\rows=rows0)\/(ob.kind=1/\hops=[]/\rows=rows0.map (λr=>r.map (xX sel 9))/\∀r∈rows0,∀c∈r,zB c=true)):=by
 obtain⟨ob',ho',hk',hg'⟩:=ju h;obtain⟨id,ob,h1,h2,rfl⟩:=yc ho' qb;obtain⟨kind,ty,sz0,rows0,fz⟩:=ob;rcases hk' with hk|hk
 .have hk:kind=1:=hk;subst hk
  have hno:∀r∈rows0,∀c∈r,zB c=true:=by
   have:=gE.1 iu _ (gu h2);dsimp only at this;simpa [gE] using this
  have hg2:kF sz0 (rows0.map λr=>r.map (xX sel 9)) hops=some (sz,rows):=hg'
  obtain⟨rfl,e⟩:=DW (λi k c hc=>by
   unfold cellAt at hc;rw[gy]at hc;cases hx:rows0[i]? with
   |none=>rw[hx]at hc;cases hc
   |some r=>
    rw[hx]at hc;simp only[gK,gW,gy]at hc;cases hy:r[k]? with
    |none=>rw[hy]at hc;cases hc
    |some c0=>
     rw[hy]at hc;cases hc
     exact Qq sel 9 (hno r (gu hx) c0 (gu hy))) hg2
  cases e
  exact⟨id,_,rows0,h1,h2,by unfold qd;rw[h2];simp[jc],.inr ⟨rfl,rfl,rfl,hno⟩⟩
 .have hk:kind=2:=hk;subst hk;exact⟨id,_,rows,h1,h2,bQ,.inl ⟨rfl,rfl⟩⟩
def qn.fL{w:World}{E:Env}{H:zn}(hh:qn w E H)(sel:List Nat)(qb:sel.all (λid=>Nat.blt id H.length)=true)(iL:yw sel=true)(iu:qw H=true):qn w (E.fL sel) (xJ sel H) where
 n:=by simp[Env.fL,xJ]
 fR i ob' hops sz rows hob' hx:=by
  obtain⟨id,ob,rows0,h1,h2,h3,h4⟩:=DU qb iu hx;obtain⟨id2,ob2,e1,e2,rfl⟩:=yc hob' qb;rw[h1]at e1;cases e1
  rw[h2]at e2;cases e2
  have hb:=hh.fR id ob hops sz rows0 h2 h3;obtain⟨cur,e,hg,hcs,hcell⟩:=hb.fR;have hβ:∀hops,(E.fL sel).β i hops=E.β id hops:=λhops=>by simp[Env.fL,h1]
  have hκ:∀hops,(E.fL sel).κ i hops=E.κ id hops:=λhops=>by simp[Env.fL,h1]
  have hkind:(zL sel ob).kind=ob.kind:=by obtain⟨kind,ty,sz,rows,fz⟩:=ob;rfl
  rw[hkind];rcases h4 with⟨hk,rfl⟩|⟨hk,rfl,rfl,hno⟩
  .refine⟨by rw[hκ];exact hb.len,hb.row,cur,e,by rw[hβ];exact hg,by rw[hκ];exact hcs,?_⟩;intro i' k c hc;obtain⟨u,hu,ho⟩:=hcell i' k c hc;refine⟨u,hu,?_⟩;unfold jf at ho|-;split at ho
   .rw[hβ,hκ];exact ho
   .refine⟨?_,ho.2⟩;have h5:=ho.1;simp only[Env.at,hk,if_true]at h5|-;exact h5.mono (E.HF sel)
  .refine⟨by rw[hκ];simpa using hb.len,?_,cur,e,by rw[hβ];exact hg,by rw[hκ];exact hcs,?_⟩
   .intro r hr;obtain⟨r0,h5,rfl⟩:=gY.1 hr;simpa using hb.row r0 h5
   .intro i' k c hc;unfold cellAt at hc;rw[gy]at hc;cases hx1:rows0[i']? with
    |none=>rw[hx1]at hc;cases hc
    |some r=>
     rw[hx1]at hc;simp only[gK,gW,gy]at hc;cases hy:r[k]? with
     |none=>rw[hy]at hc;cases hc
     |some c0=>
      rw[hy]at hc;cases hc
      obtain⟨u,hu,ho⟩:=hcell i' k c0 (by unfold cellAt;rw[hx1];exact hy);have hn0:=hno r (gu hx1) c0 (gu hy);rw[jf.loose hn0]at ho;refine⟨u,hu,(jf.loose (Qq sel 9 hn0)).2 ⟨?_,ho.2⟩⟩;have h5:=ho.1;have hk2:¬ob.kind=2:=by rw[hk];decide
      simp only[Env.at,gp hk2]at h5|-;exact h5.fL sel 9
 inj i hops i' hops' x y hx hy he:=by
  obtain⟨id,ob,rows0,h1,h2,h3,_⟩:=DU qb iu (sz:=x.1) (rows:=x.2) (aq hx);obtain⟨id',ob',rows0',h1',h2',h3',_⟩:=DU qb iu (sz:=y.1) (rows:=y.2) (aq hy);simp only[Env.fL,h1,h1',Option.getD_some]at he;obtain⟨rfl,rfl⟩:=hh.inj id hops id' hops' _ _ h3 h3' he;exact⟨wN iL _ _ _ h1 h1',rfl⟩
 qA:=hh.qA
 sep i hops x o u hx hu:=by
  obtain⟨id,ob,rows0,h1,h2,h3,_⟩:=DU qb iu (sz:=x.1) (rows:=x.2) (aq hx);simp only[Env.fL,h1,Option.getD_some]at hu;obtain⟨e1,ob2,e2,e3⟩:=hh.sep id hops _ o u h3 hu;rw[h2]at e2;cases e2
  refine⟨e1,zL sel ob,?_,?_⟩
  .unfold xJ;rw[gy,h1];simp[h2]
  .obtain⟨kind,ty,sz,rows,fz⟩:=ob;exact e3
 ty i ob' hob' hk:=by
  obtain⟨id,ob,h1,h2,rfl⟩:=yc hob' qb;obtain⟨kind,ty,sz,rows,fz⟩:=ob;obtain⟨cur,hc⟩:=hh.ty id _ h2 hk;exact⟨cur,by simp only[Env.fL,h1,Option.getD_some];exact hc⟩
 fz i ob' hob':=by
  obtain⟨id,ob,h1,h2,rfl⟩:=yc hob' qb;obtain⟨kind,ty,sz,rows,fz⟩:=ob;have:=hh.fz id _ h2;dsimp only[zL]at this|-;split
  .exact dG
  .exact dG
  .simpa using this
def EE:Nat->Nat->List Nat->Bool
 |0,_,_=>true
 |n+1,k,x::xs=>x == k && EE n (k+1) xs
 |_+1,_,[]=>false
def Pq:∀{n k:Nat} {l:List Nat},EE n k l=true->n<=l.length/\∀i,i<n->l[i]?=some (k+i)
 |0,k,l,h=>⟨pa _,λi hi=>absurd hi (pG _)⟩
 |n+1,k,x::xs,h=>by
  simp only[EE,gH,pT]at h;obtain⟨h1,h2⟩:=Pq h.2;refine⟨aq h1,λi hi=>?_⟩;cases i with
  |zero=>simp[h.1]
  |succ i=>simp[h2 i aw];omega
 |n+1,k,[],h=>by simp[EE]at h
def k9(sel:List Nat)(ob:Ob):(zL sel ob).kind=ob.kind/\(zL sel ob).ty=ob.ty/\(zL sel ob).sz=ob.sz/\(zL sel ob).rows.length=ob.rows.length:=by
 obtain⟨kind,ty,sz,rows,fz⟩:=ob;refine⟨rfl,rfl,rfl,?_⟩;unfold zL;dsimp only;split <;> simp
def qP.fL{E:Env}{H:zn}{sel:List Nat}(qb:sel.all (λid=>Nat.blt id H.length)=true){i b:Nat}(h:qP (E.fL sel) (xJ sel H) i b):∃id,sel[i]?=some id/\qP E H id b:=by
 obtain⟨ob',cap,h1,h2,h3,h4⟩:=h;obtain⟨id,ob,e1,e2,rfl⟩:=yc h1 qb;obtain⟨l1,l2,l3,l4⟩:=k9 sel ob;rw[l4]at h3 h4;simp only[Env.fL,e1,Option.getD_some]at h3;exact⟨id,e1,ob,cap,e2,bR,h3,h4⟩
def H8(h:ob.kind=4):zL sel ob=ob:=by
 obtain⟨kind,ty,sz,rows,fz⟩:=ob;cases h
 rfl
def jQ.fL(qb:sel.all (λid=>Nat.blt id H.length)=true){b:Nat}(h:jQ (xJ sel H) i b):∃id,sel[i]?=some id/\jQ H id b:=by
 obtain⟨ob',r,t,h1,h2,h3,h4⟩:=h;obtain⟨id,ob,e1,e2,rfl⟩:=yc h1 qb;have hk4:ob.kind=4:=by rw[<-(k9 sel ob).1];exact h2
 rw[H8 hk4]at h3 h4;exact⟨id,e1,ob,r,t,e2,hk4,h3,h4⟩
def jr.fL{E:Env}{H:zn}{sel:List Nat}(qb:sel.all (λid=>Nat.blt id H.length)=true)(iu:qw H=true){b:Nat}(h:jr (E.fL sel) (xJ sel H) b):jr E H b:=by
 obtain⟨i,hops,⟨sz,rows⟩,hx,rfl⟩:=h;obtain⟨id,ob,rows0,h3,h4,h5,_⟩:=DU qb iu hx;exact⟨id,hops,_,h5,by simp[Env.fL,h3]⟩
def qC.fL{w:World}{E:Env}{H:zn}(hh:qC w E H)(sel:List Nat)(qb:sel.all (λid=>Nat.blt id H.length)=true)(iL:yw sel=true)(iu:qw H=true):qC w (E.fL sel) (xJ sel H) where
 base:=hh.base.fL sel qb iL iu
 fH:={
  val:=λi ob' h1 h2=>by
   obtain⟨id,ob,e1,e2,rfl⟩:=yc h1 qb;obtain⟨l1,l2,l3,l4⟩:=k9 sel ob;rw[l4];simp only[Env.fL,e1,Option.getD_some];exact hh.fH.val id ob e2 bR
  fR:=λi b ob' h1 h2=>by
   obtain⟨id,e0,h3⟩:=h1.fL qb;obtain⟨id',ob,e1,e2,rfl⟩:=yc h2 qb;rw[e0]at e1;cases e1
   obtain⟨l1,l2,l3,l4⟩:=k9 sel ob;rw[l2,l3,l4];simp only[Env.fL,e0,Option.getD_some];exact hh.fH.fR id b ob h3 e2
  sep:=λi b h1 h2=>by
   obtain⟨id,e0,h3⟩:=h1.fL qb;exact hh.fH.sep id b h3 (h2.fL qb iu)
  inj:=λi i' b h1 h2=>by
   obtain⟨id,e0,h3⟩:=h1.fL qb;obtain⟨id',e1,h4⟩:=h2.fL qb;obtain rfl:=hh.fH.inj id id' b h3 h4;exact wN iL _ _ _ e0 e1
  st:=λi b ob' o u h1 h2 h3=>by
   obtain⟨id,e0,h4⟩:=h1.fL qb;obtain⟨id',ob,e1,e2,rfl⟩:=yc h2 qb;rw[e0]at e1;cases e1
   obtain⟨l1,l2,l3,l4⟩:=k9 sel ob;rw[l3,l4];exact hh.fH.st id b ob o u h4 e2 h3
  top:=λi ob' k u h1 h2 h3=>by
   obtain⟨id,ob,e1,e2,rfl⟩:=yc h1 qb;obtain⟨l1,l2,l3,l4⟩:=k9 sel ob;rw[l4];simp only[Env.fL,e1,Option.getD_some]at h3;exact hh.fH.top id ob k u e2 bR h3
  iW:=λi ob' r t h1 h2 h3=>by
   obtain⟨id,ob,e1,e2,rfl⟩:=yc h1 qb;have hk4:ob.kind=4:=by rw[<-(k9 sel ob).1];exact h2
   rw[H8 hk4]at h3;have:=gE.1 iu ob (gu e2);rw[hk4,h3.2,h3.1]at this;obtain⟨p1,p2⟩:=hh.fH.iW id ob r t e2 hk4 h3;have ht:t.all Dd=true:=aq this
   rw[H8 hk4];exact⟨p1,p2.map λys hl=>hl.closed ht ⟨pa _,λ_ _ h=>absurd h (pG _),λ_ _ h=>absurd h (pG _),λ_ _ _ h=>h,λ_ _ _ h=>absurd h (pG _)⟩⟩
  mb:=λi i' b h1 h2=>by
   obtain⟨id,e0,h3⟩:=h1.fL qb;obtain⟨id',e1,h4⟩:=h2.fL qb;obtain rfl:=hh.fH.mb id id' b h3 h4;exact wN iL _ _ _ e0 e1}
def zp.fL(sel m:List Nat)(t:List C)(H:zn)(hB:EE B 0 sel=true)(qb:sel.all (λid=>Nat.blt id H.length)=true)(iL:yw sel=true)(iu:qw H=true):zp B ⟨t,H⟩ ⟨(BA m 0 t).map (xX sel 9),xJ sel H⟩:=λmm w E a hs=>by
 obtain⟨h1,h2⟩:=Pq hB
 refine⟨E.fL sel,⟨hs.heap.fL sel qb iL iu,((Ks m t 0).LL hs.tmps).fL (λc y hl=>hl.fL sel 9),hs.defers,by simpa [xJ] using h1⟩,
  ⟨⟨λid hops hi=>by simp[Env.fL,h2 id hi],λid hops hi=>by simp[Env.fL,h2 id hi],λ_ _ _ h=>h,λid k u hi hu=>by simpa [Env.fL,h2 id hi] using hu⟩,rfl,rfl,rfl,gG _,λ_ _ _=>V,λb o u hu=>.inl hu,?_⟩⟩
 rintro b (hb|⟨i,hb|hb⟩)
 .exact .inr (.inl (hb.fL qb iu))
 .obtain⟨id,_,h3⟩:=hb.fL qb;exact .inr (.inr ⟨id,.inl h3⟩)
 .obtain⟨id,_,h3⟩:=hb.fL qb;exact .inr (.inr ⟨id,.inr h3⟩)
end
def WC.trans{c c' c'':C}(h:WC c c')(h':WC c' c''):WC c c'':=λE y hl=>h' E y (h E y hl)
def WC.nil(sz sz':Nat):WC (.fF 1 sz []) (.fF 0 sz' []):=(WC.none 1 sz sz').trans (WC.share 1 sz' [])
def i7.at:∀{cs:List C} {i:Nat} {c c':C},cs[i]?=some c->WC c c'->i7 cs (cs.set i c')
 |[],i,c,c',h,hw=>by simp at h
 |x::xs,0,c,c',h,hw=>by simp at h;subst h;exact .cons hw (i7.refl xs)
 |x::xs,i+1,c,c',h,hw=>.cons (.refl x) (i7.at tO hw)
def zp.cell(i:Nat){c c':C}(h:s.tmps[i]?=some c)(hw:WC c c'):zp B s ⟨s.tmps.set i c',s.H⟩:=zp.tmps (i7.at h hw)
def Cq(t2:List C):List C->Prop:=
 List.rec (motive:=λ_=>List C->Prop) (λt1=>match t1 with|[]=>True|_::_=>False)
  (λc' _ ih t1=>match t1 with
   |[]=>False
   |c::cs=>match c' with
    |.za=>ih cs
    |c'=>c=c'/\ih cs) t2
def Ls:∀{t2 t1:List C},Cq t2 t1->i7 t1 t2
 |[],[],_=>.nil
 |[],_::_,h=>h.elim
 |_::_,[],h=>h.elim
 |c'::t2,c::t1,h=>by
  cases c' with
  |za=>exact .cons (.za c) (Ls (t2:=t2) (t1:=t1) h)
  |_=>
   obtain⟨h1,h2⟩:=h;exact .cons (h1 ▸ .refl c) (Ls (t2:=t2) (t1:=t1) h2)
section
variable {P:Program} {B:Nat}
def zp.Cq{t1 t2:List C}(h:Ab.Cq t2 t1):zp B ⟨t1,H⟩ ⟨t2,H⟩:=zp.tmps (Ls h)
def zp.xO(n:Nat){t1 t2:List C}{H1 H2:zn}(h:Ab.Cq t2 t1)(hB:Nat.ble B n=true)(hn:Nat.ble n H1.length=true)(ht:t2.all (je n 9)=true)(hr:zW n (H1.take n)=true)(hH:H1.take n=H2):zp B ⟨t1,H1⟩ ⟨t2,H2⟩:=by
 subst hH;exact(zp.Cq h).trans (zp.drop (s:=⟨t2,H1⟩) n hB hn ht hr)
def zp.Lu(t:Nat){id len ty:Nat}(ht:s.tmps[t]?=some (.sl id [] sz 0 len full))(hob:s.H[id]?=some ⟨2,ty,sz,rows,0⟩)(hlen:len=rows.length)
 (hno:∀r∈rows,∀c∈r,zB c=true):
  zp B s ⟨s.tmps.set t (.fF (if full then 1 else 0) sz rows),s.H.set id ⟨2,ty,sz,rows,rows.length⟩⟩:=by
 have:=zp.freeze (B:=B) t ht hob V V (by simp[hlen]) hno;rw[vJ _ hob]at this;simpa [hlen] using this
def qC.OW(hh:qC w E H){id len ty:Nat}(hl:L E (.sl id [] sz 0 len full) y)(hob:H[id]?=some ⟨2,ty,sz,rows,0⟩)(hlen:len=rows.length)
 (hno:∀r∈rows,∀c∈r,zB c=true):
  ∃E1,qC w E1 (H.set id ⟨2,ty,sz,rows,rows.length⟩)/\L E1 (.fF (if full then 1 else 0) sz rows) y/\Grow w E H w E1 (H.set id ⟨2,ty,sz,rows,rows.length⟩):=by
 obtain⟨E1,hs,g⟩:=zp.Lu (B:=H.length) (s:=⟨[.sl id [] sz 0 len full],H⟩) 0 V hob hlen hno 0 w E ⟨#[y],[]⟩ ⟨hh,LL.one hl,pa _,gG _⟩;have hn:=hs.heap.n
 refine⟨E1,hs.heap,hs.tmps.cons_inv.1,⟨⟨by rw[hn,hh.n];simp,λid hops hi=>g.le.β id hops tE,λid hops hi=>g.le.κ id hops tE,g.le.St,λid k u hi=>g.le.G id k u tE⟩,
  g.os,g.tape,g.output,g.size,g.frame,g.jZ,g.own⟩⟩
def zp.R3(vid k:Nat){id len ty vty vsz:Nat}(hv:s.H[vid]?=some ⟨1,vty,vsz,[r],fz⟩)(hk:r[k]?=some (.sl id [] sz 0 len full))(hob:s.H[id]?=some ⟨2,ty,sz,rows,0⟩)(hlen:len=rows.length)
 (hno:∀r∈rows,∀c∈r,zB c=true)(hr:r.all zB=true)(hr':(r.set k (.fF (if full then 1 else 0) sz rows)).all zB=true):
  zp B s ⟨s.tmps,(s.H.set id ⟨2,ty,sz,rows,rows.length⟩).set vid ⟨1,vty,vsz,[r.set k (.fF (if full then 1 else 0) sz rows)],fz⟩⟩:=λm w E a hs=>by
 have hgb:qd s.H vid []=some (vsz,[r]):=by unfold qd;rw[hv];simp[jc]
 obtain⟨cur,e,h3,h4,h5⟩:=(hs.heap.base.fR _ _ _ _ _ hv hgb).fR;obtain⟨u,hu,ho⟩:=h5 0 k _ (vE.2 ⟨rfl,hk⟩);rw[jf.loose V]at ho;have hl:L E (.sl id [] sz 0 len full) u:=aF
 obtain⟨E1,hh1,hl1,g1⟩:=hs.heap.OW hl hob hlen hno;have hne:vid≠id:=by rintro rfl;rw[hv]at hob;cases hob
 have hob1:(s.H.set id ⟨2,ty,sz,rows,rows.length⟩)[vid]?=some ⟨1,vty,vsz,[r],fz⟩:=by rw[gJ,gp (Ne.symm hne)];exact hv
 have hβ:E1.β vid []=E.β vid []:=g1.le.β vid [] (by rw[hs.heap.n];exact(gh.1 hv).1)
 have hcu:w.cell? ⟨E1.β vid [],k,none⟩=some u:=by
  unfold World.cell?;rw[hβ,h3];simpa using hu
 obtain⟨hR,g2⟩:=hh1.Gd hob1 (r':=r.set k (.fF (if full then 1 else 0) sz rows)) aj hr hr' λj c c' v e1 e2 hl' hv=>by
  rw[gJ]at e2;split at e2
  .rename_i e;subst e;rw[hcu]at hv;cases hv
   split at e2
   .cases e2;exact hl1
   .cases e2
  .rw[e1]at e2;cases e2
   exact hl'
 exact dm
def qM.Ma{r:C}(h:qM P f [] args λc _=>xH 0 9 c=r):zb P f [] args r []:=λw E vs hh hl=>by
 refine(h w E vs hh hl).mono ?_;rintro e w' ⟨c,H',v,E',rfl,rfl,h1,h2,g⟩;have h3:=h1.drop 0 (pa _) (by simp[zW]);rw[tz]at h3;have hn:E.n=0:=hh.n
 exact⟨v,E'.cut 0,rfl,h3,h2.low 0 9,⟨⟨by rw[hn];exact pa _,λid hops hi=>by rw[hn]at hi;omega,λid hops hi=>by rw[hn]at hi;omega,g.le.St,λid k u hi=>by rw[hn]at hi;omega⟩,g.os,g.tape,g.output,g.size,g.frame,g.jZ,
  λb h=>absurd h xF.none⟩⟩
def zb.zr{r:C}(hf:P.funcs[f]?=some fn)(hb:fn.body=some c)
 (h:wpA P 0 c (entry fn args) [] λex t1 H1=>(ex=.ret\/ex=.normal)/\∃s2,zp 0 ⟨t1,H1⟩ s2/\(wa P fn s2).map (xH 0 9)=some r):zb P f [] args r []:=by
 refine qM.Ma (qM.AP (H:=[]) hf hb ((jJ h).mono λex s1 ⟨hex,s2,hw,h2⟩=>?_));cases h3:wa P fn s2 with
 |none=>rw[h3]at h2;cases h2
 |some r0=>
  rw[h3]at h2;cases h2
  exact⟨hex,s2,r0,hw,h3,rfl⟩
def ab{r:C}{zQ:Prop}(hf:P.funcs[f]?=some fn)(z0:zQ)(hb:fn.body=some c:=by exact V)(ze:zQ->wpA P 0 c (entry fn args) [] λex t1 H1=>(ex=.ret\/ex=.normal)/\∃s2,zp 0 ⟨t1,H1⟩ s2/\(wa P fn s2).map (xH 0 9)=some r:=by intro zh;(conv=>whnf);exact zh):zb P f [] args r []:=zb.zr hf hb (ze z0)
def qg.seq{t:List C}(N:Nat)(T:Nat->List C)(Hp:Nat->zn)(R:Nat->Prop)(h0:zp B ⟨t,H⟩ ⟨T 0,Hp 0⟩)(r0:R 0)
 (step:∀k,k<N->R k->wpA P B c (T k) (Hp k) λe t1 H1=>(e=.normal/\zp B ⟨t1,H1⟩ ⟨T (k+1),Hp (k+1)⟩/\R (k+1))\/(e≠.normal/\K e t1 H1))
 (done:R N->wpA P B c (T N) (Hp N) λe t1 H1=>e≠.normal/\K e t1 H1):
  Aw P B c t H K:=by
 have key:∀n k,k+n=N->R k->mu P B c (n+1) ⟨T k,Hp k⟩ λex s=>K ex s.tmps s.H:=by
  intro n
  induction n with
  |zero=>
   intro k hk hr;obtain rfl:k=N:=aw
   refine .step ((jJ (done hr)).mono λex s1 ⟨hne,hK⟩=>?_);cases ex with
   |normal=>exact absurd V hne
   |_=>exact hK
  |succ n ih=>
   intro k hk hr;refine .step ((jJ (step k aw hr)).post λex s1 h1=>?_);rcases h1 with⟨rfl,hw,hr'⟩|⟨hne,hK⟩
   .exact⟨_,hw,(ih (k+1) aw hr':mu P B c (n+1) _ _)⟩
   .refine⟨s1,.refl s1,?_⟩;cases ex with
    |normal=>exact absurd V hne
    |_=>exact hK
 exact⟨.pre h0 ⟨N+1,key N 0 aw r0⟩⟩
end
section
variable {P:Program} {B:Nat}
structure LoopN(P:Program)(B:Nat)(c:Code)(n:Nat)(t:List C)(H:zn)(K:Exit->List C->zn->Prop):Prop where
 out:mu P B c n ⟨t,H⟩ λex s=>K ex s.tmps s.H
def LoopN.step{c:Code}{n:Nat}{t:List C}{H:zn}{K:Exit->List C->zn->Prop}
 (h:wpA P B c t H λe t1 H1=>(e=.normal/\LoopN P B c n t1 H1 K)\/(e≠.normal/\K e t1 H1)):LoopN P B c (n+1) t H K:=by
 refine⟨.step ((jJ h).post λex s1 h1=>?_)⟩;rcases h1 with⟨rfl,h⟩|⟨hne,hK⟩
 .exact⟨s1,.refl s1,h.out⟩
 .refine⟨s1,.refl s1,?_⟩;cases ex with
  |normal=>exact absurd V hne
  |_=>exact hK
def Aw.BV(n:Nat){t:List C}(h:LoopN P B c n t H K):Aw P B c t H K:=⟨⟨n,h.out⟩⟩
end
section
variable {P:Program} {B:Nat}
def wC{x y:Code}{t:List C}{R:Exit->S->Prop}(h:wpA P B x t H λe t1 H1=>(e=.normal/\∃t2 H2,zp B ⟨t1,H1⟩ ⟨t2,H2⟩/\jb P B y ⟨t2,H2⟩ R)\/(e≠.normal/\R e ⟨t1,H1⟩)):jb P B (.seq x y) ⟨t,H⟩ R:=by
 refine .seq ((jJ h).post λex s1 h1=>?_);rcases h1 with⟨rfl,t2,H2,hw,hr⟩|⟨hne,hr⟩
 .exact⟨_,hw,hr⟩
 .refine⟨s1,.refl s1,?_⟩;cases ex with
  |normal=>exact absurd V hne
  |_=>exact hr
end
def behind:Nat->Code->Code
 |0,c=>c
 |n+1,.seq _ y=>behind n y
 |_,c=>c
def cE(n:Nat){t1 t2:List C}{H1 H2:zn}(h:Ab.Cq t2 t1:=by (conv=>whnf);refine hU ?_;exact trivial)(hB:Nat.ble B n=true:=by exact V)(hn:Nat.ble n H1.length=true:=by exact V)(ht:t2.all (je n 9)=true:=by exact V)(hr:zW n (H1.take n)=true:=by exact V)(hH:H1.take n=H2:=by exact V):zp B ⟨t1,H1⟩ ⟨t2,H2⟩:=zp.xO n h hB hn ht hr hH
def cC{t1 t2:List C}(h:Ab.Cq t2 t1:=by (conv=>whnf);refine hU ?_;exact trivial):zp B ⟨t1,H⟩ ⟨t2,H⟩:=zp.Cq h
end Go.Ab
