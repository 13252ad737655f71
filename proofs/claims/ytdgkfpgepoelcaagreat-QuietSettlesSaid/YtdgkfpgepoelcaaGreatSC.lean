import Derived.IntWalk
import Derived.Test.YtdgkfpgepoelcaaGreatSB
set_option linter.all false
set_option maxRecDepth 100000
set_option maxHeartbeats 4000000
namespace Go.Ab
variable{t e ty:TypeId}{α:Type}{x:Operand}{c:Code}{ob ob':Ob}{H H':zf}{dst:Option Tmp}{b full:Bool}{ρ:Operand->C}{P:Program}{hops:List rT}{sz i j fz B:Nat}{rows:List (List C)}{r cs caps args:List C}{K:Exit->List C->zf->Prop}{l:List α}{f:FuncId}{y z:Value}{op:BinOp}{cl:Call}{md:Region.Mode}{listed:Array Bool}{oi o:Oper}{w:World}{E:Env}{ps:Array Tmp}{R:C->zf->Prop}{ops:Array Oper}{X:zf->Prop}{s:S}{fn:Func}{ys:List Value}{sel:List Nat}
def mU(x:Value)(k:Value->Prop):Prop:=
 match x with
 |.int t n=>k (.int t n)
 |.bool b=>k (.bool b)
 |.string s=>k (.string s)
 |x=>k x
def qi(n:Nat)(k:Nat->Prop):Prop:=
 match n with
 |0=>k 0
 |1=>k 1
 |2=>k 2
 |3=>k 3
 |4=>k 4
 |5=>k 5
 |6=>k 6
 |7=>k 7
 |8=>k 8
 |9=>k 9
 |10=>k 10
 |11=>k 11
 |12=>k 12
 |13=>k 13
 |14=>k 14
 |15=>k 15
 |16=>k 16
 |17=>k 17
 |18=>k 18
 |19=>k 19
 |20=>k 20
 |21=>k 21
 |22=>k 22
 |23=>k 23
 |24=>k 24
 |25=>k 25
 |26=>k 26
 |27=>k 27
 |28=>k 28
 |29=>k 29
 |30=>k 30
 |31=>k 31
 |32=>k 32
 |33=>k 33
 |34=>k 34
 |35=>k 35
 |36=>k 36
 |37=>k 37
 |38=>k 38
 |39=>k 39
 |40=>k 40
 |41=>k 41
 |42=>k 42
 |43=>k 43
 |44=>k 44
 |45=>k 45
 |46=>k 46
 |47=>k 47
 |48=>k 48
 |49=>k 49
 |50=>k 50
 |51=>k 51
 |52=>k 52
 |53=>k 53
 |54=>k 54
 |55=>k 55
 |56=>k 56
 |57=>k 57
 |58=>k 58
 |59=>k 59
 |60=>k 60
 |61=>k 61
 |62=>k 62
 |63=>k 63
 |64=>k 64
 |n=>k n
def zI{n:Nat}{k:Nat->Prop}(h:qi n k):k n:=by
 unfold qi at h;split at h <;> exact h
def qM{α:Type}:List α->(List α->Prop)->Prop
 |[],k=>k []
 |x::xs,k=>qM xs λys=>k (x::ys)
def qa{α:Type}:∀{l:List α} {k:List α->Prop},qM l k->k l
 |[],k,h=>h
 |x::xs,k,h=>qa (l:=xs) (k:=λys=>k (x::ys)) h
def z2(c:C)(k:C->Prop):Prop:=
 match c with
 |.v x=>mU x λx=>k (.v x)
 |.rG o sz rows=>k (.rG o sz rows)
 |.qC cells=>qM cells λcells=>k (.qC cells)
 |.ref id hops sz i j=>qi id λid=>qi sz λsz=>qi j λj=>k (.ref id hops sz i j)
 |.sl id hops sz lo len full=>qi id λid=>k (.sl id hops sz lo len full)
 |.fn f first caps=>k (.fn f first caps)
 |.mp id=>qi id λid=>k (.mp id)
 |.agg cs=>qM cs λcs=>k (.agg cs)
 |.rO cs=>qM cs λcs=>k (.rO cs)
 |.un=>k .un
 |.za=>k .za
 |.gl id sz rows=>qi id λid=>k (.gl id sz rows)
 |.r4 t c=>k (.r4 t c)
 |.rc r=>k (.rc r)
def EJ{x:Value}{k:Value->Prop}(h:mU x k):k x:=by
 unfold mU at h;split at h <;> exact h
def zq{c:C}{k:C->Prop}(h:z2 c k):k c:=by
 cases c with
 |v x=>exact EJ (k:=λx=>k (.v x)) h
 |qC cells=>exact qa (k:=λcells=>k (.qC cells)) h
 |ref id hops sz i j=>exact zI (k:=λj=>k (.ref id hops sz i j)) (zI (k:=λsz=>qi j λj=>k (.ref id hops sz i j)) (zI (k:=λid=>qi sz λsz=>qi j λj=>k (.ref id hops sz i j)) h))
 |sl id hops sz lo len full=>exact zI (k:=λid=>k (.sl id hops sz lo len full)) h
 |mp id=>exact zI (k:=λid=>k (.mp id)) h
 |gl id sz rows=>exact zI (k:=λid=>k (.gl id sz rows)) h
 |agg cs=>exact qa (k:=λcs=>k (.agg cs)) h
 |rO cs=>exact qa (k:=λcs=>k (.rO cs)) h
 |_=>exact h
def jV{α:Type}(f:α->(α->Prop)->Prop):List α->(List α->Prop)->Prop
 |[],k=>k []
 |x::xs,k=>f x λx=>jV f xs λxs=>k (x::xs)
def zV{α:Type}{f:α->(α->Prop)->Prop}(hf:∀x k,f x k->k x):∀{l:List α} {k:List α->Prop},jV f l k->k l
 |[],k,h=>h
 |x::xs,k,h=>zV hf (l:=xs) (k:=λxs=>k (x::xs)) (hf x _ h)
def mI(ob:Ob)(k:Ob->Prop):Prop:=
 match ob with
 |⟨kind,ty,sz,rows,fz⟩=>match kind with
  |1=>qi sz λsz=>jV (jV z2) rows λrows=>k ⟨1,ty,sz,rows,fz⟩
  |kd=>k ⟨kd,ty,sz,rows,fz⟩
def D8{k:Ob->Prop}(h:mI ob k):k ob:=by
 obtain⟨kind,ty,sz,rows,fz⟩:=ob;unfold mI at h;dsimp only at h;split at h
 .exact zV (λ_ _ h=>zV (λ_ _ h=>zq h) h) (k:=λrows=>k ⟨1,ty,sz,rows,fz⟩) (zI (k:=λsz=>jV (jV z2) rows λrows=>k ⟨1,ty,sz,rows,fz⟩) h)
 .exact h
def eF(H:zf)(k:zf->Prop):Prop:=jV mI H k
def yv{k:zf->Prop}(h:eF H k):k H:=zV (λ_ _ h=>D8 h) h
def okB(c:C)(k:C->Prop):Prop:=
 match c with
 |.v (.bool b)=>(b=true->k (.v (.bool true)))/\(b=false->k (.v (.bool false)))
 |c=>k c
def nL(c:C)(k:C->Prop):Prop:=
 match c with
 |.v (.bool b)=>match b with
  |true=>k (.v (.bool true))
  |false=>k (.v (.bool false))
 |c=>z2 c k
def AU{c:C}{k:C->Prop}(h:nL c k):k c:=by
 unfold nL at h;split at h
 .rename_i b;cases b <;> exact h
 .exact zq h
def qh{c:C}{k:C->Prop}(h:okB c k):k c:=by
 unfold okB at h;split at h
 .rename_i b;cases b
  .exact h.2 V
  .exact h.1 V
 .exact h
def tU{α:Type}:List α->Nat->α->(List α->Prop)->Prop
 |[],_,_,k=>k []
 |_::xs,0,y,k=>k (y::xs)
 |x::xs,n+1,y,k=>tU xs n y λys=>k (x::ys)
def xZ{α:Type}:∀{l:List α} {n:Nat} {y:α} {k:List α->Prop},tU l n y k->k (l.set n y)
 |[],_,_,k,h=>h
 |_::xs,0,y,k,h=>h
 |x::xs,n+1,y,k,h=>xZ (l:=xs) (n:=n) (y:=y) (k:=λys=>k (x::ys)) h
def wT(tmps:List C)(dst:Option Tmp)(c:C)(k:List C->Prop):Prop:=
 match dst with
 |some d=>tU tmps d c k
 |none=>k tmps
def qx{tmps:List C}{c:C}{k:List C->Prop}(h:wT tmps dst c k):k (put tmps dst c):=by
 cases dst with
 |none=>exact h
 |some d=>exact xZ h
def bK(b:Bool)(k:Prop):Prop:=
 match b with
 |true=>k
 |false=>False
def zA{k:Prop}(h:bK b k):b=true/\k:=by
 cases b
 .exact bX
 .exact⟨rfl,h⟩
def td(ρ:Operand->C)(x:Option Operand)(dflt:Nat)(k:Nat->Prop):Prop:=
 match x with
 |none=>k dflt
 |some y=>match ρ y with
  |.v (.int _ n)=>0<=n/\k n.toNat
  |_=>False
def jo{x:Option Operand}{dflt:Nat}{k:Nat->Prop}(h:td ρ x dflt k):∃n,sM ρ x dflt n/\k n:=by
 unfold td at h;unfold sM;cases x with
 |none=>exact⟨dflt,rfl,h⟩
 |some y=>
  dsimp only at h;split at h
  .rename_i kd n e;exact⟨n.toNat,⟨kd,by rw[e,pt h.1]⟩,h.2⟩
  .exact bX
def wD(place:Nat->Option (Nat×Nat)):List C->List (Nat×C)->(List C->Prop)->Prop
 |cells,[],k=>k cells
 |cells,(i,c)::rest,k=>match place i with
  |none=>False
  |some (off,size)=>bK (k9 c && (c.cells.length == size) && decide (off+size<=cells.length)) <|jV z2 (jn off c.cells cells) λcells=>wD place cells rest k
def kP{place:Nat->Option (Nat×Nat)}:∀{parts:List (Nat×C)} {cells:List C} {k:List C->Prop},wD place cells parts k->∃cs,wC place cells parts=some cs/\k cs
 |[],cells,k,h=>⟨cells,rfl,h⟩
 |(i,c)::rest,cells,k,h=>by
  unfold wD at h;split at h
  .exact bX
  .rename_i off size hp;obtain⟨h1,h2⟩:=zA h;have h3:=zV (λ_ _ h=>zq h) (k:=λcells=>wD place cells rest k) h2;obtain⟨cs,h4,h5⟩:=kP h3;refine⟨cs,?_,h5⟩;simp only[wC,hp];rw[c7 h1];exact h4
def m9(P:Program)(t:TypeId)(parts:List (Nat×C))(k:List C->Prop):Prop:=
 match vr P t,P.underlying t with
 |some z,some (.array _ e)=>match P.info? e with
  |some ie=>jV z2 z λz=>wD (λi=>some (i*ie.size,ie.size)) z parts k
  |none=>False
 |some z,some (.struct fields)=>match fields.toList.mapM (λf=>(P.info? f.type).map λi=>(f.offset,i.size)) with
  |some places=>qM places λplaces=>jV z2 z λz=>wD (places.toArray[·]?) z parts k
  |none=>False
 |_,_=>False
def ow{parts:List (Nat×C)}{k:List C->Prop}(h:m9 P t parts k):∃cs,iy P t parts=some cs/\k cs:=by
 unfold m9 at h;unfold iy;split at h
 .rename_i z n e hz hu;simp only[hz,hu];split at h
  .rename_i ie hie;simp only[hie];exact kP (zV (λ_ _ h=>zq h) (k:=λz=>wD (λi=>some (i*ie.size,ie.size)) z parts k) h)
  .exact bX
 .rename_i z fields hz hu;simp only[hz,hu];split at h
  .rename_i places hpl;simp only[hpl];have h1:=qa (k:=λplaces:List (Nat×Nat)=>jV z2 z λz=>wD (places.toArray[·]?) z parts k) h;exact kP (zV (λ_ _ h=>zq h) (k:=λz=>wD (places.toArray[·]?) z parts k) h1)
  .exact bX
 .exact bX
def nh(P:Program)(H:zf)(ρ:Operand->C)(t:TypeId)(x:Operand)(lo hi mx:Option Operand)(K:C->zf->Prop):Prop:=
 match P.underlying t with
 |some (.slice e)=>match P.info? e with
  |some i=>match ρ x with
   |.rG fo sz rows=>(rows=[]\/sz=i.size)/\match mx with
    |none=>match hi with
     |none=>td ρ lo 0 λl=>l<=rows.length/\K (.rG (if fo == 1 then 1 else 0) sz (rows.drop l)) H
     |some hh=>td ρ lo 0 λl=>td ρ (some hh) rows.length λh=>l<=h/\h<=rows.length/\K (.rG 0 sz ((rows.drop l).take (h-l))) H
    |some m=>match hi with
     |some hh=>td ρ lo 0 λl=>td ρ (some hh) 0 λh=>td ρ (some m) 0 λm'=>m'=h/\l<=h/\h<=rows.length/\K (.rG 1 sz ((rows.drop l).take (h-l))) H
     |none=>False
   |.sl id hops sz lo0 len full=>match mx with
    |none=>sz=i.size/\td ρ lo 0 λl=>td ρ hi len λh=>l<=h/\h<=len/\(l=0\/l<h)/\(full=false\/h=len)/\K (.sl id hops sz (lo0+l) (h-l) full) H
    |some _=>False
   |_=>False
  |none=>False
 |some .string=>match ρ x with
  |.v (.string s)=>match s with
   |⟨⟨b⟩⟩=>match mx with
    |none=>td ρ lo 0 λl=>td ρ hi b.length λh=>l<=h/\h<=b.length/\K (.v (.string ⟨⟨(b.take h).drop l⟩⟩)) H
    |some _=>False
  |_=>False
 |_=>False
def mV(P:Program)(H:zf)(ρ:Operand->C)(t:TypeId)(x y:Operand)(K:C->zf->Prop):Prop:=
 match P.underlying t with
 |some (.slice e)=>match P.info? e with
  |some i=>match ρ y with
   |.v (.int _ n)=>match ρ x with
    |.rG o sz rows=>bK ((o == 0 || o == 1) && sz == i.size) <|0<=n/\∃r,rows[n.toNat]?=some r/\K (.qC r) H
    |.sl id hops sz lo len _=>bK (sz == i.size) <|0<=n/\n.toNat<len/\K (.ref id hops sz (lo+n.toNat) 0) H
    |_=>False
   |_=>False
  |none=>False
 |some (.array len e)=>match P.info? e with
  |some i=>match ρ y with
   |.v (.int _ n)=>match yw (ρ x) (n.toNat*i.size) with
    |some c=>0<=n/\n<len/\z2 c λc=>K c H
    |none=>False
   |_=>False
  |none=>False
 |_=>False
def mW(P:Program)(H:zf)(ρ:Operand->C)(t:TypeId)(x y:Operand)(K:C->zf->Prop):Prop:=
 match ρ y with
 |.v (.int _ n)=>match P.underlying t with
  |some .string=>match ρ x with
   |.v (.string s)=>match s with
    |⟨⟨b⟩⟩=>0<=n/\∃c,b[n.toNat]?=some c/\K (.v (.int .u8 c.toNat)) H
   |_=>False
  |some (.array len e)=>match P.info? e with
   |some i=>match ρ x with
    |.agg cs=>0<=n/\n<len/\∃c,kG P e cs (n.toNat*i.size)=some c/\okB c λc=>z2 c λc=>K c H
    |_=>False
   |none=>False
  |_=>False
 |_=>False
def mT(P:Program)(H:zf)(ρ:Operand->C)(t:TypeId)(x:Operand)(f:Nat)(K:C->zf->Prop):Prop:=
 match P.underlying t with
 |some (.struct fs)=>match fs[f]? with
  |some fd=>match ρ x with
   |.agg cs=>match kG P fd.type cs fd.offset with
    |some c=>okB c λc=>z2 c λc=>K c H
    |none=>False
   |_=>False
  |none=>False
 |_=>False
def mS(P:Program)(H:zf)(ρ:Operand->C)(t:TypeId)(x:Operand)(f:Nat)(K:C->zf->Prop):Prop:=
 match P.underlying t with
 |some (.struct fs)=>match fs[f]? with
  |some fd=>match P.info? fd.type with
   |some i=>match yw (ρ x) fd.offset with
    |some c=>bK (i.size != 0) <|z2 c λc=>K c H
    |none=>False
   |none=>False
  |none=>False
 |_=>False
def ir(P:Program)(H:zf)(x:C)(sz':Nat)(rows':List (List C))(e:TypeId)(i:TypeInfo)(K:C->zf->Prop):Prop:=
 match rows' with
 |[]=>(jc H (rX x)).isSome=true/\K (rX x) H
 |r'::rs'=>bK (sz' == i.size) <|qi i.size λsz0=>qi H.length λm=>match x with
  |.rG 1 sz rows=>(rows=[]\/sz=sz0)/\rows.length+(rs'.length+1)<=maxLen/\(rows.length+(rs'.length+1))*i.bytes<=140737488355328/\
    qM (H++[⟨2,e,sz0,rows++r'::rs',0⟩]) λH'=>K (.sl m [] sz0 0 (rows.length+(rs'.length+1)) false) H'
  |.sl id [] sz 0 n false=>match H[id]? with
   |some ob=>bK (sz == sz0 && ob.kind == 2 && ob.ty == e && ob.sz == sz0) <|ob.rows.length=n/\ob.rows.all (·.all zy)=true/\n+(rs'.length+1)<=maxLen/\(n+(rs'.length+1))*i.bytes<=140737488355328/\
     qM (jg H id++[⟨2,e,sz0,ob.rows++r'::rs',ob.fz⟩]) λH'=>K (.sl m [] sz0 0 (n+(rs'.length+1)) false) H'
   |none=>False
  |_=>False
def Bl(H:zf)(sz:Nat)(rows:List (List C))(sz':Nat)(rows':List (List C))(e:TypeId)(i:TypeInfo)(K:C->zf->Prop):Prop:=
 qi i.size λsz0=>qi H.length λm=>(rows=[]\/sz=sz0)/\(rows'=[]\/sz'=sz0)/\rows.length+rows'.length<=maxLen/\(rows.length+rows'.length)*i.bytes<=140737488355328/\
  qM (H++[⟨4,e,sz0,rows++rows',0⟩]) λH'=>K (.gl m sz0 (rows++rows')) H'
def my(P:Program)(H:zf)(ρ:Operand->C)(x y:Operand)(e:TypeId)(i:TypeInfo)(K:C->zf->Prop):Prop:=
 match jc H (rX (ρ y)) with
 |some (sz',rows')=>match ρ x with
  |.gl id sz rows=>match H[id]? with
   |some ob=>bK (sz == i.size) <|qi i.size λsz0=>ob=⟨4,e,sz,rows,0⟩/\(rows'=[]\/sz'=sz0)/\rows.length+rows'.length<=maxLen/\(rows.length+rows'.length)*i.bytes<=140737488355328/\
     tU H id ⟨4,e,sz0,rows++rows',0⟩ λH'=>K (.gl id sz0 (rows++rows')) H'
   |none=>False
  |.rG 1 sz rows=>Bl H sz rows sz' rows' e i K\/ir P H (.rG 1 sz rows) sz' rows' e i K
  |x=>ir P H x sz' rows' e i K
 |none=>False
def nG(H:zf)(op:BinOp)(a b:List UInt8)(K:C->zf->Prop):Prop:=
 match op with
 |.eql=>okB (.v (.bool (a == b))) λc=>K c H
 |.neq=>okB (.v (.bool (!(a == b)))) λc=>K c H
 |.add=>a.length+b.length<=9223372036854775807/\K (.v (.string ⟨⟨a++b⟩⟩)) H
 |_=>False
def iO(P:Program)(H:zf)(ρ:Operand->C)(o:Oper)(cl:Call)(K:C->zf->Prop):Prop:=
 match cl.callee with
 |.value x=>match ρ x with
  |.fn f first caps=>bK (zC P f) <| ∃r H',zb P f H (first++(cl.args.toList.map λx=>rX (ρ x))++caps) r H'/\okB r λr=>K r H'
  |.v (.func g first caps)=>match g with
   |.yield l=>bK (first.isEmpty && caps.isEmpty) <| ∃r H',qV P l H (cl.args.toList.map ρ) r H'/\okB r λr=>K r H'
   |_=>False
  |_=>False
 |.invoke x name=>match ρ x with
  |.r4 t c=>∃f,nt P t name f=true/\zC P f=true/\∃r H',zb P f H (c::(cl.args.toList.map ρ)) r H'/\okB r λr=>K r H'
  |_=>False
 |.builtin .len=>match cl.args.toList,cl.argTypes.toList with
  |[x],[t]=>match P.underlying t with
   |some (.slice _)=>match iT (rX (ρ x)) with
    |some n=>K (.v (.int .i64 n)) H
    |none=>False
   |some .string=>match ρ x with
    |.v (.string s)=>match s with
     |⟨⟨b⟩⟩=>K (.v (.int .i64 b.length)) H
    |_=>False
   |_=>match wZ P (execOp (λx=>tI (ρ x)) o) with
    |some (.value v)=>bK (o.op.operands.toList.all (λx=>rR (ρ x)) && v.oneCell') <|okB (.v v) λc=>K c H
    |_=>False
  |_,_=>False
 |.builtin .append=>match cl.args.toList,cl.argTypes.toList with
  |[x,y],[t,t']=>bK (t' == t) <|match P.underlying t with
   |some (.slice e)=>match P.info? e with
    |some i=>match i.zero with
     |some z=>bK (z.cells.size == i.size) <|my P H ρ x y e i K
     |none=>False
    |none=>False
   |_=>False
  |_,_=>False
 |_=>match wZ P (execOp (λx=>tI (ρ x)) o) with
  |some (.value v)=>bK (o.op.operands.toList.all (λx=>rR (ρ x)) && v.oneCell') <|okB (.v v) λc=>K c H
  |_=>False
def CG(P:Program)(H:zf)(o:Oper)(ρ:Operand->C)(op:BinOp)(t:TypeId)(xs ys:List C)(K:C->zf->Prop):Prop:=
 (!P.eqGuardType P.depth t && vG P 9 t)=true/\match tp P 9 t (.agg xs) (.agg ys) with
  |some b=>match op with
   |.eql=>okB (.v (.bool b)) λc=>K c H
   |.neq=>okB (.v (.bool (!b))) λc=>K c H
   |_=>False
  |none=>False
def fE(P:Program)(t:TypeId)(id:Nat)(hops:List rT)(i k:Nat)(r:List C)(K:C->Prop):Prop:=
 match P.underlying t,P.info? t with
 |some d,some inf=>match ki d with
  |true=>k+inf.size<=r.length/\jV z2 (j8 id hops i k ((r.drop k).take inf.size)) λcs=>K (.agg cs)
  |false=>k+1<=r.length/\match j8 id hops i k ((r.drop k).take 1) with
   |[x]=>okB x λx=>z2 x K
   |_=>False
 |_,_=>False
def fB(P:Program)(H:zf)(t:TypeId)(c:C)(K:C->Prop):Prop:=
 match c with
 |.ref id hops sz i k=>match H[id]? with
  |some ⟨kind,ty,osz,orows,fz⟩=>match kind with
   |2=>match hops with
    |[]=>bK (osz == sz) <| ∃r,orows[i]?=some r/\fE P t id [] i k r K
    |h::hs=>∃rows r,zB H id (h::hs)=some (sz,rows)/\rows[i]?=some r/\fE P t id (h::hs) i k r K
   |1=>match ty with
    |0=>bK (osz == sz && hops.isEmpty) <| ∃r,orows[i]?=some r/\fE P t id [] i k r K
    |_=>match yd P H t (.ref id hops sz i k) with
     |some c=>okB c λc=>z2 c K
     |none=>False
   |_=>match yd P H t (.ref id hops sz i k) with
    |some c=>okB c λc=>z2 c K
    |none=>False
  |none=>False
 |c=>match yd P H t c with
  |some c=>okB c λc=>z2 c K
  |none=>False
def kV{id:Nat}{k:Nat}{K:C->Prop}(hg:zB H id hops=some (sz,rows))(hr:rows[i]?=some r)(h:fE P t id hops i k r K):
  ∃c,yd P H t (.ref id hops sz i k)=some c/\K c:=by
 unfold fE at h;split at h
 .rename_i d inf hd hi;have hrd:∀n,k+n<=r.length->vN H (.ref id hops sz i k) n=some (j8 id hops i k ((r.drop k).take n)):=λn hn=>by simp[vN,hg,hr,hn]
  split at h
  .rename_i hag;obtain⟨h1,h2⟩:=h;refine⟨_,?_,zV (λ_ _ h=>zq h) (k:=λcs=>K (.agg cs)) h2⟩;unfold yd;rw[hd,hi];simp only[hag,if_true];rw[hrd _ h1]
   rfl
  .rename_i hag;obtain⟨h1,h2⟩:=h;split at h2
   .rename_i x hx;refine⟨x,?_,zq (qh (k:=λx=>z2 x K) h2)⟩;unfold yd;rw[hd,hi];simp only[hag];rw[hrd _ h1,hx]
    rfl
   .exact h2.elim
 .exact bX
def y9{c:C}{K:C->Prop}(h:fB P H t c K):∃c',yd P H t c=some c'/\K c':=by
 unfold fB at h;split at h
 .split at h
  .rename_i id hops sz i k kind ty osz orows fz hob;split at h
   .split at h
    .obtain⟨h1,r,h2,h3⟩:=zA h;simp only[dH]at h1;exact kV (by unfold zB;rw[hob];simp[z5,h1]) h2 h3
    .obtain⟨rows,r,h1,h2,h3⟩:=h;exact kV h1 h2 h3
   .split at h
    .obtain⟨h1,r,h2,h3⟩:=zA h;simp only[c9,dH,rz]at h1;obtain⟨h1,rfl⟩:=h1;exact kV (by unfold zB;rw[hob];simp[z5,h1]) h2 h3
    .split at h
     .rename_i c hc;exact⟨c,hc,zq (qh (k:=λc=>z2 c K) h)⟩
     .exact bX
   .split at h
    .rename_i c hc;exact⟨c,hc,zq (qh (k:=λc=>z2 c K) h)⟩
    .exact bX
  .exact bX
 .split at h
  .rename_i c hc;exact⟨c,hc,zq (qh (k:=λc=>z2 c K) h)⟩
  .exact bX
def xp(r:List C)(k:Nat)(cs:List C)(K:List C->Prop):Prop:=bK (Nat.ble (k+cs.length) r.length) <|qM (jn k cs r) K
def lK{k:Nat}{K:List C->Prop}(h:xp r k cs K):k+cs.length<=r.length/\K (jn k cs r):=
 ⟨gk (zA h).1,qa (zA h).2⟩
def iB(P:Program)(H:zf)(t:TypeId)(a x:C)(K:zf->Prop):Prop:=
 match a with
 |.ref id hops sz i k=>match H[id]? with
  |some ⟨kind,ty,osz,orows,fz⟩=>match kind with
   |2=>match P.info? t with
    |some inf=>bK (k9 x && (x.cells.length == inf.size) && x.cells.all jF) <|jV z2 x.cells λcs=>match hops with
     |[]=>bK (osz == sz && fz == 0) <| ∃r,orows[i]?=some r/\((r.drop k).take cs.length).all zy=true/\xp r k cs λr'=>tU H id ⟨2,ty,osz,orows.set i r',0⟩ K
     |h::hs=>bK (fz == 0) <| ∃rows r,zB H id (h::hs)=some (sz,rows)/\rows[i]?=some r/\((r.drop k).take cs.length).all zy=true/\xp r k cs λr'=>tU H id ⟨2,ty,osz,w7 orows (h::hs) (λrows=>rows.set i r'),0⟩ K
    |none=>False
   |1=>match ty with
    |0=>match P.info? t with
     |some inf=>bK (k9 x && (x.cells.length == inf.size)) <|jV z2 x.cells λcs=>bK (osz == sz && fz == 0 && hops.isEmpty) <| ∃r,orows[i]?=some r/\((r.drop k).take cs.length).all zy=true/\xp r k cs λr'=>tU H id ⟨1,0,osz,orows.set i r',0⟩ K
     |none=>False
    |_=>match hops,orows,i with
     |[],[r],0=>match P.info? t with
      |some inf=>bK (osz == sz && fz == 0 && k9 x && (x.cells.length == inf.size) && ((r.drop k).take x.cells.length).all zy) <|jV z2 x.cells λcs=>xp r k cs λr'=>tU H id ⟨1,ty,osz,[r'],0⟩ K
      |none=>False
     |hops,_,i=>match j7 P H t (.ref id hops sz i k) x with
      |some H'=>eF H' K
      |none=>False
   |_=>match j7 P H t (.ref id hops sz i k) x with
    |some H'=>eF H' K
    |none=>False
  |none=>False
 |a=>match j7 P H t a x with
  |some H'=>eF H' K
  |none=>False
def xk{r:α}(f:α->α)(h:l[i]?=some r):l.modify i f=l.set i (f r):=by
 apply dS
 intro j;rw[dR,df];split
 .rename_i e;subst e;rw[c7 (cW.1 h).1,h]
  rfl
 .simp
def Af{f g:List (List C)->List (List C)}:∀(hops:List rT) (sz:Nat) (rows:List (List C)) {sz':Nat} {rows':List (List C)},xh sz rows hops=some (sz',rows')->f rows'=g rows'->w7 rows hops f=w7 rows hops g
 |[],sz,rows,sz',rows',h,he=>by
  rw[z5]at h;cases h
  exact he
 |(i,k)::hs,sz,rows,sz',rows',h,he=>by
  rw[q5]at h;rw[km,km];split at h
  .rename_i sz2 rows2 hc
   try rw[hc]
   simp only[Af hs sz2 rows2 h he]
  .cases h
def Aa{a x:C}{K:zf->Prop}(h:iB P H t a x K):∃H',j7 P H t a x=some H'/\K H':=by
 unfold iB at h;cases a with
 |ref id hops sz i k=>
  dsimp only at h;split at h
  .rename_i kind ty osz orows fz hob;split at h
   .split at h
    .rename_i inf hinf;obtain⟨hv,h⟩:=zA h;have h:=zV (λ_ _ h=>zq h) h;simp only[c9,dH]at hv
     have go:∀hops rows r,zB H id hops=some (sz,rows)->rows[i]?=some r->fz=0->((r.drop k).take x.cells.length).all zy=true->(xp r k x.cells λr'=>tU H id ⟨2,ty,osz,w7 orows hops (λrows=>rows.set i r'),0⟩ K)->
       ∃H',j7 P H t (.ref id hops sz i k) x=some H'/\K H':=λhops rows r h1 h2 h0 h3 h4=>by
      obtain⟨h5,h6⟩:=lK h4;have h6:=xZ h6;refine⟨_,?_,h6⟩;unfold j7;rw[hinf];dsimp only;rw[h1,hob];dsimp only;rw[h2];dsimp only;rw[c7]
      .congr 1
       unfold w6;rw[xk _ hob]
       congr 1
       dsimp only;subst h0
       congr 1
       obtain⟨ob2,e1,_,e3⟩:=qd h1;rw[hob]at e1;cases e1
       exact Af hops _ _ e3 (by unfold xO;rw[xk _ h2])
      .simp only[c9,dH,gf,dm];exact⟨⟨⟨⟨⟨⟨⟨trivial,hv.1.1⟩,hv.1.2⟩,h5⟩,h3⟩,.inr hv.2⟩,.inr ah⟩,.inr h0⟩
     split at h
     .obtain⟨h1,r,h2,h3,h4⟩:=zA h;simp only[c9,dH]at h1;exact go [] orows r (by unfold zB;rw[hob];simp[z5,h1.1]) h2 h1.2 h3 h4
     .obtain⟨h1,rows,r,h2,h3,h4,h5⟩:=zA h;simp only[dH]at h1;exact go _ rows r h2 h3 h1 h4 h5
    .exact bX
   .split at h
    .split at h
     .rename_i inf hinf;obtain⟨hv,h⟩:=zA h;have h:=zV (λ_ _ h=>zq h) h;obtain⟨h1,r,h2,h3,h4⟩:=zA h;obtain⟨h5,h6⟩:=lK h4;have h6:=xZ h6;simp only[c9,dH,rz]at hv h1;obtain⟨⟨rfl,rfl⟩,rfl⟩:=h1;refine⟨_,?_,h6⟩;have hg:zB H id []=some (osz,orows):=by unfold zB;rw[hob];simp[z5]
      unfold j7;rw[hinf];dsimp only;rw[hg,hob];dsimp only;rw[h2];dsimp only;rw[c7]
      .congr 1
       unfold w6;rw[xk _ hob]
       congr 1
       dsimp only;rw[w8];unfold xO;rw[xk _ h2]
      .simp only[c9,dH,gf,dm];exact⟨⟨⟨⟨⟨⟨⟨trivial,hv.1⟩,hv.2⟩,h5⟩,h3⟩,.inl trivial⟩,.inr ah⟩,.inr trivial⟩
     .exact bX
    .split at h
     .rename_i r;split at h
      .rename_i inf hinf;obtain⟨hv,h⟩:=zA h;have h:=zV (λ_ _ h=>zq h) h;obtain⟨h5,h6⟩:=lK h;have h6:=xZ h6;simp only[c9,dH]at hv;refine⟨_,?_,h6⟩;have h1:zB H id []=some (osz,[r]):=by unfold zB;rw[hob];simp[z5]
       unfold j7;rw[hinf];dsimp only;rw[h1,hob];dsimp only;rw[show [r][0]?=some r from V];dsimp only;rw[c7]
       .congr 1
        unfold w6;rw[xk _ hob]
        congr 1
        dsimp only;obtain⟨⟨⟨⟨_,rfl⟩,_⟩,_⟩,_⟩:=hv;rw[w8];unfold xO
        rfl
       .simp only[c9,dH,gf,dm];obtain⟨⟨⟨⟨e1,e2⟩,e3⟩,e4⟩,e5⟩:=hv;exact⟨⟨⟨⟨⟨⟨⟨e1,e3⟩,e4⟩,h5⟩,e5⟩,.inl trivial⟩,.inr ah⟩,.inr e2⟩
      .exact bX
     .split at h
      .rename_i H' hc;exact⟨H',hc,yv h⟩
      .exact bX
   .split at h
    .rename_i H' hc;exact⟨H',hc,yv h⟩
    .exact bX
  .exact bX
 |_=>
  dsimp only at h;split at h
  .rename_i H' hc;exact⟨H',hc,yv h⟩
  .exact bX
def HG(H:zf)(a y:C):Bool:=
 match a with
 |.ref id _ _ _ _=>match H[id]? with
  |some ob=>match ob.kind with
   |2=>true
   |1=>match ob.ty with
    |0=>match y with
     |.gl ..=>false
     |_=>true
    |_=>false
   |_=>false
  |none=>false
 |_=>false
def nC(P:Program)(H:zf)(ρ:Operand->C)(o:Oper)(src dst:TypeId)(x:Operand)(K:C->zf->Prop):Prop:=
 match Ab.rX (ρ x) with
 |.rG _ sz rows=>match P.underlying src,P.underlying dst with
  |some (.slice e),some .string=>match P.underlying e with
   |some (.int .u8)=>bK (sz == 1) <| ∃bts:List UInt8,rows=bts.map uw/\K (.v (.string ⟨⟨bts⟩⟩)) H
   |_=>False
  |_,_=>False
 |_=>match wZ P (execOp (λx=>tI (ρ x)) o) with
  |some (.value v)=>bK (q7 o && o.op.operands.toList.all (λx=>rR (ρ x)) && v.oneCell') <|okB (.v v) λc=>K c H
  |_=>False
def ns(P:Program)(H:zf)(ρ:Operand->C)(t:TypeId)(x y:Operand)(K:C->zf->Prop):Prop:=
 match ρ x,ρ y with
 |.v (.int _ n),.v (.int _ n')=>match P.underlying t with
  |some (.slice e)=>match P.info? e with
   |some i=>match vr P e with
    |some cs=>bK (cs.all jF) <|n'=n/\0<=n/\(i.bytes:Int)*n<=281474976710656/\n<=9223372036854775807/\
      qi i.size λsz=>qi H.length λm=>qM (H++[⟨2,e,sz,List.replicate n.toNat cs,0⟩]) λH'=>K (.sl m [] sz 0 n.toNat false) H'
    |none=>False
   |none=>False
  |_=>False
 |_,_=>False
def nv(o:Oper):Option (BinOp×TypeId×Operand):=
 match o.op with
 |.binOp op t x y _=>match y with
  |.const v=>match v with
   |.slice none 0 0=>some (op,t,x)
   |_=>none
  |_=>none
 |_=>none
def nO(P:Program)(H:zf)(op:BinOp)(t:TypeId)(x:C)(K:C->zf->Prop):Prop:=
 match P.underlying t with
 |some (.slice _)=>match x with
  |.rG _ _ rows=>match rows with
   |[]=>match op with
    |.eql=>K (.v (.bool true)) H/\K (.v (.bool false)) H
    |.neq=>K (.v (.bool true)) H/\K (.v (.bool false)) H
    |_=>False
   |r::rs=>match op with
    |.eql=>r::rs≠[]/\K (.v (.bool false)) H
    |.neq=>r::rs≠[]/\K (.v (.bool true)) H
    |_=>False
  |.sl ..=>match op with
   |.eql=>K (.v (.bool false)) H
   |.neq=>K (.v (.bool true)) H
   |_=>False
  |_=>False
 |_=>False
def np(o:Oper):Option (BinOp×TypeId×Operand):=
 match o.op with
 |.binOp op t x y _=>match y with
  |.const v=>match v with
   |.pointer p=>match p with
    |none=>some (op,t,x)
    |some _=>none
   |_=>none
  |_=>none
 |_=>none
def mX(x:C):Option Bool:=
 match x with
 |.ref ..=>some false
 |.qC _=>some false
 |.v y=>match y with
  |.pointer p=>match p with
   |none=>some true
   |some _=>some false
  |_=>none
 |_=>none
def iW(P:Program)(t:TypeId):Bool:=
 match P.underlying t with
 |some (.pointer e)=>e == P.pointee t
 |_=>false
def nQ(P:Program)(H:zf)(op:BinOp)(t:TypeId)(x:C)(K:C->zf->Prop):Prop:=
 match mX x with
 |some b=>match op with
  |.eql=>bK (iW P t) <|K (.v (.bool b)) H
  |.neq=>bK (iW P t) <|K (.v (.bool (!b))) H
  |_=>False
 |none=>False
def vp(P:Program)(H:zf)(ρ:Operand->C)(o:Oper)(K:C->zf->Prop):Prop:=
 match o.op with
 |.move x=>z2 (ρ x) λc=>K c H
 |.assign x=>z2 (ρ x) λc=>K c H
 |.pick x y z=>match ρ x with
  |.v (.bool b)=>z2 (if b then ρ y else ρ z) λc=>K c H
  |_=>False
 |.alloc t=>match vr P t with
  |some cs=>qM cs λcs=>qi cs.length λn=>qi H.length λm=>qM (H++[⟨1,t,n,[cs],0⟩]) λH'=>K (.ref m [] n 0 0) H'
  |none=>False
 |.box t x=>bK (k9 (ρ x)) <|jV z2 (ρ x).cells λcs=>qi cs.length λn=>qi H.length λm=>qM (H++[⟨1,t,n,[cs],0⟩]) λH'=>K (.ref m [] n 0 0) H'
 |.fieldAddr t x f=>mS P H ρ t x f K
 |.indexAddr t x y=>mV P H (λx=>rX (ρ x)) t x y K
 |.index t x y=>mW P H ρ t x y K
 |.field t x f=>mT P H ρ t x f K
 |.load t x=>fB P H t (ρ x) λc=>K c H
 |.store t x y=>match HG H (ρ x) (ρ y) with
  |true=>iB P H t (ρ x) (yh (ρ y)) λH'=>K .un H'
  |false=>iB P H t (ρ x) (ρ y) λH'=>K .un H'
 |.extract x n=>match ρ x with
  |.rO vs=>match vs[n]? with
   |some c=>okB c λc=>z2 c λc=>K c H
   |none=>False
  |_=>False
 |.nilCheck x=>bK (mP (ρ x)) <|z2 (ρ x) λc=>K c H
 |.makeFunc f first caps=>match f with
  |.func f=>jV z2 (first.toList.map ρ) λa=>jV z2 (caps.toList.map ρ) λb=>K (.fn f a b) H
  |_=>False
 |.build t parts=>m9 P t (parts.toList.map λp=>(p.1,ρ p.2)) λcs=>K (.agg cs) H
 |.makeInterface t x=>match P.underlying t with
  |some d=>bK (j5 d) <|z2 (ρ x) λc=>K (.r4 t c) H
  |none=>False
 |.typeAssert x _ t ok=>bK ok <|match ρ x with
  |.r4 t' c=>match P.underlying t with
   |some d=>match t' == t with
    |true=>bK (j5 d) <|K (.rO [c,.v (.bool true)]) H
    |false=>match P.info? t with
     |some i=>bK (j5 d && i.zero.isSome) <|K (.rO [.za,.v (.bool false)]) H
     |none=>False
   |none=>False
  |_=>False
 |.buildSlice t len parts=>match nM P t len (parts.toList.map λp=>(p.1,yh (ρ p.2))) with
  |some c=>match c with
   |.rG o sz rows=>jV (jV z2) rows λrows=>qi sz λsz=>K (.rG o sz rows) H
   |_=>False
  |none=>False
 |.slice t x lo hi mx=>nh P H (λx=>rX (ρ x)) t x lo hi mx K
 |.makeSlice t x y=>ns P H ρ t x y K
 |.lookup ..=>∃c H',rQ P o ρ H c H'/\K c H'
 |.mapUpdate ..=>∃c H',rQ P o ρ H c H'/\K c H'
 |.mapEntry ..=>∃c H',rQ P o ρ H c H'/\K c H'
 |.entryStore ..=>∃c H',rQ P o ρ H c H'/\K c H'
 |.call cl=>iO P H ρ o cl K
 |.binOp op t x y _=>match ρ x,ρ y with
  |.agg xs,.agg ys=>CG P H o ρ op t xs ys K
  |.v (.string s),.v (.string s')=>match s,s' with
   |⟨⟨a⟩⟩,⟨⟨b⟩⟩=>nG H op a b K
  |_,_=>match wZ P (execOp (λx=>tI (ρ x)) o) with
   |some (.value v)=>bK (q7 o && o.op.operands.toList.all (λx=>rR (ρ x)) && v.oneCell') <|okB (.v v) λc=>K c H
   |_=>False
 |.convert src dst x=>nC P H ρ o src dst x K
 |.unOp _ _ _=>match wZ P (execOp (λx=>tI (ρ x)) o) with
  |some (.value v)=>bK (q7 o && o.op.operands.toList.all (λx=>rR (ρ x)) && v.oneCell') <|nL (.v v) λc=>K c H
  |_=>False
 |_=>match wZ P (execOp (λx=>tI (ρ x)) o) with
  |some (.value v)=>bK (q7 o && o.op.operands.toList.all (λx=>rR (ρ x)) && v.oneCell') <|okB (.v v) λc=>K c H
  |_=>False
section
variable {P:Program} {o:Oper} {ρ:Operand->C} {H:zf} {K:C->zf->Prop}
def rQ.i5{c c':C}(h:rQ P o ρ H c H')(hw:WC c c'):rQ P o ρ H c' H':=λw E σ hh hl K hk=>h w E σ hh hl K λv w' E' h1 h2 g=>hk v w' E' h1 (hw E' v h2) g
def rQ.nA(cl:Call)(ho:o.op=.call cl)(x:Operand)(hcl:cl.callee=.value x){first:List C}(hf:ρ x=.fn f first caps)(hcb:zC P f=true){r:C}
 (hs:zb P f H (first++(cl.args.toList.map λx=>Ab.rX (ρ x))++caps) r H'):rQ P o ρ H r H':=.rX <|.call cl ho x hcl (by rw[hf];rfl) hcb hs
def rQ.Iv(t:TypeId)(x y:Operand)(ho:o.op=.store t x y)(hs:j7 P H t (ρ x) (yh (ρ y))=some H'):rQ P o ρ H .un H':=by
 classical
 have hρ:∀z,∃c,(c=ρ z\/c=yh (ρ z))/\(z=y->c=yh (ρ z))/\(z≠y->c=ρ z):=λz=>by
  by_cases e:z=y
  .exact⟨yh (ρ z),.inr V,λ_=>V,λh=>absurd e h⟩
  .exact⟨ρ z,.inl V,λh=>absurd h e,λ_=>V⟩
 obtain⟨ρ',hρ'⟩:∃ρ':Operand->C,∀z,(ρ' z=ρ z\/ρ' z=yh (ρ z))/\(z=y->ρ' z=yh (ρ z))/\(z≠y->ρ' z=ρ z):=⟨λz=>(hρ z).choose,λz=>(hρ z).choose_spec⟩
 have hx:ρ' x=ρ x:=by
  rcases(hρ' x).1 with e|e
  .exact e
  .rw[e];unfold j7 at hs;split at hs
   .rename_i e2 _;rw[e2];rfl
   .cases hs
 have h0:zU P o ρ' H .un H':=zU.store t x y ho (by rw[hx,(hρ' y).2.1 V];exact hs);refine .fa (h0.weaken λz E v hl=>?_) (o9 hs);rcases(hρ' z).1 with e|e
 .rw[e];exact hl
 .rw[e];exact ma hl
def xD(h:match wZ P (execOp (λx=>tI (ρ x)) o) with
  |some (.value v)=>bK (q7 o && o.op.operands.toList.all (λx=>rR (ρ x)) && v.oneCell') <|okB (.v v) λc=>K c H
  |_=>False):∃c,(∀H2,rQ P o ρ H2 c H2)/\K c H:=by
 split at h
 .rename_i v e;obtain⟨h1,h2⟩:=zA h;simp only[c9,gV]at h1;exact⟨.v v,λH2=>.same <|.scalar h1.1.1 h1.1.2 e h1.2,qh (k:=λc=>K c H) h2⟩
 .exact bX
def o7{lo hi mx:Option Operand}(ho:o.op=.slice t x lo hi mx)(h:nh P H ρ t x lo hi mx K):∃c,(∀H2,rQ P o ρ H2 c H2)/\K c H:=by
 unfold nh at h;split at h
 rotate_left
 .rename_i hu;split at h
  .rename_i s hx;obtain⟨⟨b⟩⟩:=s;dsimp only at h;split at h
   .obtain⟨l,h1,h⟩:=jo h;obtain⟨h',h2,h3,h4,h5⟩:=jo h;exact⟨_,λH2=>.same <|.Ib t x lo hi ho hu hx h1 h2 h3 h4,h5⟩
   .exact bX
  .exact bX
 .exact bX
 rename_i e hu;split at h
 rotate_left
 .exact bX
 rename_i i hi';split at h
 .rename_i fo sz rows hx;obtain⟨hsz,h⟩:=h;split at h
  .split at h
   .obtain⟨l,h1,h3,h5⟩:=jo h;have:=λH2=>rQ.same <|zU.A1 (H:=H2) t x lo none ho hu hi' hx hsz h1 (rfl:sM ρ none rows.length rows.length) h3 (de _)
    refine⟨_,this,?_⟩;rw[gP aj];by_cases hfo:fo=1
    .simpa [hfo] using h5
    .simpa [hfo] using h5
   .rename_i hh;obtain⟨l,h1,h⟩:=jo h;obtain⟨h',h2,h3,h4,h5⟩:=jo h;exact⟨_,λH2=>.i5 (.same <|.A1 t x lo (some hh) ho hu hi' hx hsz h1 h2 h3 h4) (.share _ _ _),h5⟩
  .split at h
   .obtain⟨l,h1,h⟩:=jo h;obtain⟨h',h2,h⟩:=jo h;obtain⟨m,h3,rfl,h4,h5,h6⟩:=jo h;exact⟨_,λH2=>.same <|.F2 t x lo _ _ ho hu hi' hx hsz h1 h2 h3 h4 h5,h6⟩
   .exact bX
 .rename_i id hops sz lo0 len full hx;split at h
  .obtain⟨hsz,h⟩:=h;obtain⟨l,h1,h⟩:=jo h;obtain⟨h',h2,h3,h4,h5,h6,h7⟩:=jo h;exact⟨_,λH2=>.same <|.HF t x lo hi ho hu hi' hx hsz h1 h2 h3 h4 h5 h6,h7⟩
  .exact bX
 .exact bX
def og{y:Operand}(ho:o.op=.indexAddr t x y)(h:mV P H ρ t x y K):∃c,(∀H2,rQ P o ρ H2 c H2)/\K c H:=by
 unfold mV at h;split at h
 rotate_left
 .rename_i len e hu;split at h
  .rename_i i hi;split at h
   .rename_i k n hy;split at h
    .rename_i c hx;exact⟨c,λH2=>.same <|.G9 t x y ho hu hi hy h.1 h.2.1 hx,zq (k:=λc=>K c H) h.2.2⟩
    .exact bX
   .exact bX
  .exact bX
 .exact bX
 rename_i e hu;split at h
 rotate_left
 .exact bX
 rename_i i hi;split at h
 rotate_left
 .exact bX
 rename_i k n hy;split at h
 .rename_i fo sz rows hx;obtain⟨h1,h3,r,h4,h5⟩:=zA h;refine⟨_,λH2=>.same <|.indexAddr t x y ho hu hi hy h3 (c:=.qC r) ?_,h5⟩;rw[hx];simp only[uc];rw[c7 h1,h4]
  rfl
 .rename_i id hops sz lo len full hx;obtain⟨h2,h3,h4,h5⟩:=zA h;simp only[dH]at h2;refine⟨_,λH2=>.same <|.indexAddr t x y ho hu hi hy h3 (c:=.ref id hops sz (lo+n.toNat) 0) ?_,h5⟩;rw[hx];simp only[uc];rw[c7 (by simp[h4,h2])]
 .exact bX
def oh{y:Operand}(ho:o.op=.index t x y)(h:mW P H ρ t x y K):∃c,(∀H2,rQ P o ρ H2 c H2)/\K c H:=by
 unfold mW at h;split at h
 .rename_i k n hy;split at h
  .rename_i hu;split at h
   .rename_i s hx;obtain⟨⟨b⟩⟩:=s;obtain⟨h1,c,h2,h3⟩:=h;exact⟨_,λH2=>.same <|.Ia t x y ho hu hx hy h1 h2,h3⟩
   .exact bX
  .rename_i len e hu;split at h
   .rename_i i hi;split at h
    .rename_i cs hx;obtain⟨h1,h2,c,h3,h4⟩:=h;exact⟨c,λH2=>.same <|.Fi t x y ho hu hi hx hy h1 h2 h3,zq (k:=λc=>K c H) (qh (k:=λc=>z2 c λc=>K c H) h4)⟩
    .exact bX
   .exact bX
  .exact bX
 .exact bX
def oG{f:Nat}(ho:o.op=.field t x f)(h:mT P H ρ t x f K):∃c,(∀H2,rQ P o ρ H2 c H2)/\K c H:=by
 unfold mT at h;split at h
 .rename_i fs hu;split at h
  .rename_i fd hf;split at h
   .rename_i cs hx;split at h
    .rename_i c hc;exact⟨c,λH2=>.same <|.field t x f ho hu hf hx hc,zq (k:=λc=>K c H) (qh (k:=λc=>z2 c λc=>K c H) h)⟩
    .exact bX
   .exact bX
  .exact bX
 .exact bX
def Az{t':TypeId}{y:Operand}{a b:List UInt8}(ho:o.op=.binOp op t x y t')(hx:ρ x=.v (.string (bs a)))(hy:ρ y=.v (.string (bs b)))(h:nG H op a b K):∃c,(∀H2,rQ P o ρ H2 c H2)/\K c H:=by
 unfold nG at h;split at h
 .exact⟨_,λH2=>.same <|.Cb .eql t t' x y ho (.inl V) hx hy,qh (k:=λc=>K c H) h⟩
 .exact⟨_,λH2=>.same <|.Cb .neq t t' x y ho (.inr V) hx hy,qh (k:=λc=>K c H) h⟩
 .exact⟨_,λH2=>.same <|.Iw t t' x y ho hx hy h.1,h.2⟩
 .exact bX
def oF{f:Nat}(ho:o.op=.fieldAddr t x f)(h:mS P H ρ t x f K):∃c,(∀H2,rQ P o ρ H2 c H2)/\K c H:=by
 unfold mS at h;split at h
 rotate_left
 .exact bX
 rename_i fs hu;split at h
 rotate_left
 .exact bX
 rename_i fd hf;split at h
 rotate_left
 .exact bX
 rename_i i hi;split at h
 rotate_left
 .exact bX
 rename_i c hc;obtain⟨h1,h2⟩:=zA h;exact⟨c,λH2=>.same <|.fieldAddr t x f ho hu hf hi tD hc,zq (k:=λc=>K c H) h2⟩
def wi(ho:o.op=.call cl){y:Operand}{i:TypeInfo}(ht:tP P cl x y e i z){sz':Nat}{rows':List (List C)}(hy:jc H (rX (ρ y))=some (sz',rows'))
 (h:ir P H (ρ x) sz' rows' e i K):∃c H',rQ P o ρ H c H'/\K c H':=by
 unfold ir at h;split at h
 .obtain⟨h1,h2⟩:=h;obtain⟨⟨sz,rows⟩,hx⟩:=Option.isSome_iff_exists.1 h1;exact⟨_,H,.rX (ρ:=ρ) (.same <|.Fs cl ho x y ht hx hy),h2⟩
 .rename_i r' rs'
  replace h:=zA h
  obtain⟨hz,h⟩:=h;have hz:=eq_of_beq hz;subst hz;have h:=zI h;have h:=zI h;split at h
  .rename_i sz rows hx;obtain⟨h1,h2,h3,h4⟩:=h;exact⟨_,_,.rX (ρ:=ρ) (.iK (.Fq cl ho x y ht (by rw[hx];rfl) h1 hy aj (ak h2) (ak h3)) _ (λe=>by cases e) rfl),by simpa using qa h4⟩
  .rename_i id sz n hx;split at h
   .rename_i ob hob
    replace h:=zA h
    obtain⟨hb,h4,h5,h6,h7,h8⟩:=h;simp only[c9,dH]at hb;obtain⟨⟨⟨rfl,h1⟩,h2⟩,h3⟩:=hb;exact⟨_,_,.rX (ρ:=ρ) (.fa (.GB cl ho x y ht (by rw[hx];rfl) hob h1 h2 h3 h4 h5 hy aj (ak h6) (ak h7)) (qs.trans (qs.jg H id λob' h'=>by rw[hob]at h';cases h';rw[h1];decide) (qs.push _ _ (λe=>by cases e)))),by simpa using qa h8⟩
   .exact bX
  .exact bX
def DK(ho:o.op=.call cl){y:Operand}{i:TypeInfo}(ht:tP P cl x y e i z)(h:my P H ρ x y e i K):∃c H',rQ P o ρ H c H'/\K c H':=by
 unfold my at h;split at h
 rotate_left
 .exact bX
 rename_i sz' rows' hy;split at h
 .rename_i id sz rows hx;split at h
  .rename_i ob hob
   replace h:=zA h
   obtain⟨hz,h⟩:=h;have hz:=eq_of_beq hz;subst hz;have h:=zI h;obtain⟨h1,h2,h3,h4,h5⟩:=h;exact⟨_,_,.AZ cl ho x y ht hx hob h1 hy h2 h3 h4,xZ h5⟩
  .exact bX
 .rename_i sz rows hx;rcases h with h|h
  .unfold Bl at h;have h:=zI h;have h:=zI h;obtain⟨h1,h2,h3,h4,h5⟩:=h;exact⟨_,_,.DJ cl ho x y ht hx h1 hy h2 h3 h4,qa h5⟩
  .exact wi ho ht hy (hx ▸ h)
 .exact wi ho ht hy h
def Array.jr{a:Array α}(h:a.toList=l):a=l.toArray:=by subst h;simp
def Fw(ho:o.op=.call cl)(h:iO P H ρ o cl K):∃c H',rQ P o ρ H c H'/\K c H':=by
 have hns:q7 o=true:=by simp[q7,ho]
 have scal:∀(h:match wZ P (execOp (λx=>tI (ρ x)) o) with
   |some (.value v)=>bK (o.op.operands.toList.all (λx=>rR (ρ x)) && v.oneCell') <|okB (.v v) λc=>K c H
   |_=>False),∃c H',rQ P o ρ H c H'/\K c H':=by
  intro h;split at h
  .rename_i v e;obtain⟨h1,h2⟩:=zA h;simp only[c9,gV]at h1;exact⟨.v v,H,.same <|.scalar hns h1.1 e h1.2,qh (k:=λc=>K c H) h2⟩
  .exact bX
 unfold iO at h;split at h
 .rename_i x hcl;split at h
  .rename_i f first caps hf;obtain⟨h1,r,H',h2,h3⟩:=zA h;exact⟨r,H',.nA cl ho x hcl hf h1 h2,qh (k:=λc=>K c H') h3⟩
  .rename_i g first caps hf;split at h
   .rename_i l;obtain⟨h1,r,H',h2,h3⟩:=zA h;simp only[c9,Array.isEmpty_iff]at h1;obtain⟨rfl,rfl⟩:=h1;exact⟨r,H',.yield cl ho x hcl hf h2,qh (k:=λc=>K c H') h3⟩
   .exact bX
  .exact bX
 .rename_i x name hcl;split at h
  .rename_i t c hx;obtain⟨f,hm,hcb,r,H',h2,h3⟩:=h;exact⟨r,H',.invoke cl ho x name hcl hx hm hcb h2,qh (k:=λc=>K c H') h3⟩
  .exact bX
 .rename_i hcl;split at h
  .rename_i x t hx ht;split at h
   .rename_i e hu;split at h
    .rename_i n hn;exact⟨_,H,.rX (ρ:=ρ) <|.same <|.len cl ho hcl x (Array.jr hx) (Array.jr ht) hu hn,h⟩
    .exact bX
   .rename_i hu;split at h
    .rename_i s hs;obtain⟨⟨b⟩⟩:=s;exact⟨_,H,.same <|.BR cl ho hcl x (Array.jr hx) (Array.jr ht) hu hs,h⟩
    .exact bX
   .exact scal h
  .exact bX
 .rename_i hcl;split at h
  .rename_i x y t t' hx ht;obtain⟨ht',h⟩:=zA h;simp only[dH]at ht';subst ht';split at h
   .rename_i e hu;split at h
    .rename_i i hi;split at h
     .rename_i z hz;exact DK ho ⟨hcl,Array.jr hx,⟨_,Array.jr ht,hu⟩,hi,hz,by simpa using (zA h).1⟩ (zA h).2
     .exact bX
    .exact bX
   .exact bX
  .exact bX
 .exact scal h
def Gc(ho:nv o=some (op,t,x))(h:nO P H op t (ρ x) K):qz P o ρ H K:=by
 obtain⟨t',ho⟩:∃t',o.op=.binOp op t x (.const (.slice none 0 0)) t':=by
  unfold nv at ho;split at ho
  .rename_i h1;split at ho
   .split at ho
    .cases ho;exact⟨_,h1⟩
    .cases ho
   .cases ho
  .cases ho
 unfold nO at h;split at h
 .rename_i e hu;split at h
  .rename_i fo sz rows hx;split at h
   .split at h
    .exact .BL .eql t t' x ho (.inl V) hu hx h.1 h.2
    .exact .BL .neq t t' x ho (.inr V) hu hx h.1 h.2
    .exact bX
   .split at h
    .exact(wg.iF .eql t t' x ho (.inl V) hu (.inl ⟨_,_,_,hx,h.1⟩)).sX h.2
    .exact(wg.iF .neq t t' x ho (.inr V) hu (.inl ⟨_,_,_,hx,h.1⟩)).sX h.2
    .exact bX
  .rename_i hx;split at h
   .exact(wg.iF .eql t t' x ho (.inl V) hu (.inr ⟨_,_,_,_,_,_,hx⟩)).sX h
   .exact(wg.iF .neq t t' x ho (.inr V) hu (.inr ⟨_,_,_,_,_,_,hx⟩)).sX h
   .exact bX
  .exact bX
 .exact bX
def om{x:C}(h:mX x=some b):∀E u,L E x u->∃a,u=.pointer a/\a.isNone=b:=by
 intro E u hl;unfold mX at h;split at h
 .cases h;cases hl;exact⟨_,rfl,rfl⟩
 .cases h;cases hl;exact⟨_,rfl,rfl⟩
 .split at h
  .split at h <;> (cases h;cases hl;exact⟨_,rfl,rfl⟩)
  .cases h
 .cases h
def Gq(ho:np o=some (op,t,x))(h:nQ P H op t (ρ x) K):∃c,wg P o ρ H c H/\K c H:=by
 obtain⟨t',ho⟩:∃t',o.op=.binOp op t x (.const (.pointer none)) t':=by
  unfold np at ho;split at ho
  .rename_i h1;split at ho
   .split at ho
    .split at ho
     .cases ho;exact⟨_,h1⟩
     .cases ho
    .cases ho
   .cases ho
  .cases ho
 have hT:iW P t=true->P.underlying t=some (.pointer (P.pointee t)):=λhp=>by
  unfold iW at hp;split at hp
  .rename_i e hu;have he:e=P.pointee t:=by simpa using hp
   rw[hu,he]
  .cases hp
 unfold nQ at h;split at h
 .rename_i b hb;split at h
  .exact⟨_,.BG .eql t t' x ho (.inl V) (hT (zA h).1) b (om hb),(zA h).2⟩
  .exact⟨_,.BG .neq t t' x ho (.inr V) (hT (zA h).1) b (om hb),(zA h).2⟩
  .exact bX
 .exact bX
def EP{y:Operand}(ho:o.op=.makeSlice t x y)(h:ns P H ρ t x y K):∃c H',rQ P o ρ H c H'/\K c H':=by
 unfold ns at h;split at h
 .rename_i k n k' n' hx hy;split at h
  .rename_i e hu;split at h
   .rename_i i hi;split at h
    .rename_i cs hz;obtain⟨h1,rfl,h2,h3,h4,h5⟩:=zA h;have h5:=zI h5;have h5:=zI h5;exact⟨_,_,.iK (.makeSlice t x y ho hu hi hz h1 hx hy h2 h3 h4) _ (λe=>by cases e) rfl,qa h5⟩
    .exact bX
   .exact bX
  .exact bX
 .exact bX
def oX{src dst:TypeId}(ho:o.op=.convert src dst x)(h:nC P H ρ o src dst x K):∃c,(∀H2,rQ P o ρ H2 c H2)/\K c H:=by
 unfold nC at h;split at h
 .rename_i fo sz rows hx;split at h
  .rename_i e hs hd;split at h
   .rename_i he;obtain⟨h1,bts,rfl,h2⟩:=zA h;have h1:=eq_of_beq h1;subst h1;exact⟨_,λH2=>.rX (ρ:=ρ) <|.same <|.GM src dst x ho hs he hd hx,h2⟩
   .exact bX
  .exact bX
 .exact xD h
def k8(h:vp P H ρ o K):∃c H',rQ P o ρ H c H'/\K c H':=by
 unfold vp at h;split at h
 .rename_i x ho;exact⟨_,H,.same <|.move x (.inl ho),zq (k:=λc=>K c H) h⟩
 .rename_i x ho;exact⟨_,H,.same <|.move x (.inr ho),zq (k:=λc=>K c H) h⟩
 .rename_i x y z ho;split at h
  .rename_i b hb;exact⟨_,H,.same <|.pick x y z ho b hb,zq (k:=λc=>K c H) h⟩
  .exact bX
 .rename_i t ho;split at h
  .rename_i cs hz;have h:=qa (k:=λcs=>qi cs.length λn=>qi H.length λm=>qM (H++[⟨1,t,n,[cs],0⟩]) λH'=>K (.ref m [] n 0 0) H') h;have h:=zI (k:=λn=>qi H.length λm=>qM (H++[⟨1,t,n,[cs],0⟩]) λH'=>K (.ref m [] n 0 0) H') h;have h:=zI (k:=λm=>qM (H++[⟨1,t,cs.length,[cs],0⟩]) λH'=>K (.ref m [] cs.length 0 0) H') h;exact⟨_,_,.iK (.alloc t ho hz) _ (λe=>by cases e) rfl,qa (k:=λH'=>K (.ref H.length [] cs.length 0 0) H') h⟩
  .exact bX
 .rename_i t x ho;obtain⟨h0,h⟩:=zA h;have h:=zV (λ_ _ h=>zq h) (k:=λcs=>qi cs.length λn=>qi H.length λm=>qM (H++[⟨1,t,n,[cs],0⟩]) λH'=>K (.ref m [] n 0 0) H') h;have h:=zI (k:=λn=>qi H.length λm=>qM (H++[⟨1,t,n,[(ρ x).cells],0⟩]) λH'=>K (.ref m [] n 0 0) H') h;have h:=zI (k:=λm=>qM (H++[⟨1,t,(ρ x).cells.length,[(ρ x).cells],0⟩]) λH'=>K (.ref m [] (ρ x).cells.length 0 0) H') h;exact⟨_,_,.iK (.box t x ho h0) _ (λe=>by cases e) rfl,qa (k:=λH'=>K (.ref H.length [] (ρ x).cells.length 0 0) H') h⟩
 .rename_i t x f ho;obtain⟨c,h1,h2⟩:=oF ho h;exact⟨c,H,h1 H,h2⟩
 .rename_i t x y ho;obtain⟨c,h1,h2⟩:=og (ρ:=λx=>rX (ρ x)) ho h;exact⟨c,H,(h1 H).rX,h2⟩
 .rename_i t x y ho;obtain⟨c,h1,h2⟩:=oh ho h;exact⟨c,H,h1 H,h2⟩
 .rename_i t x f ho;obtain⟨c,h1,h2⟩:=oG ho h;exact⟨c,H,h1 H,h2⟩
 .rename_i t x ho;obtain⟨c,h1,h2⟩:=y9 h;exact⟨c,H,.same <|.load t x ho h1,h2⟩
 .rename_i t x y ho;split at h
  .obtain⟨H',h1,h2⟩:=Aa h;exact⟨_,H',.Iv t x y ho h1,h2⟩
  .obtain⟨H',h1,h2⟩:=Aa h;exact⟨_,H',.fa (.store t x y ho h1) (o9 h1),h2⟩
 .rename_i x n ho;split at h
  .rename_i vs hx;split at h
   .rename_i c hc;exact⟨c,H,.same <|.extract x n ho hx hc,zq (k:=λc=>K c H) (qh (k:=λc=>z2 c λc=>K c H) h)⟩
   .exact bX
  .exact bX
 .rename_i x ho;exact⟨_,H,.same <|.nilCheck x ho (zA h).1,zq (k:=λc=>K c H) (zA h).2⟩
 .rename_i f first caps ho;split at h
  .have h:=zV (λ_ _ h=>zq h) h;exact⟨_,H,.same <|.makeFunc _ first caps ho,zV (λ_ _ h=>zq h) (k:=λb=>K (.fn _ (first.toList.map ρ) b) H) h⟩
  .exact bX
 .rename_i t parts ho;obtain⟨cs,hc,h⟩:=ow h;exact⟨_,H,.same <|.build t parts ho hc,h⟩
 .rename_i t x ho;split at h
  .rename_i d hd;obtain⟨h1,h2⟩:=zA h;exact⟨_,H,.F9 t x ho hd h1,zq (k:=λc=>K (.r4 t c) H) h2⟩
  .exact bX
 .rename_i x xT t ok ho
  replace h:=zA h
  obtain⟨h1,h⟩:=h;subst h1;split at h
  .rename_i t' c hx;split at h
   .rename_i d hd;split at h
    .rename_i he;obtain rfl:t'=t:=by simpa using he
     exact⟨_,H,.GF x xT t' ho hx hd (zA h).1,(zA h).2⟩
    .rename_i he;split at h
     .rename_i i hi;have h2:=(zA h).1;rw[c9]at h2;exact⟨_,H,.Ho x xT t ho hx he hd h2.1 hi h2.2,(zA h).2⟩
     .exact bX
   .exact bX
  .exact bX
 .rename_i t len parts ho;split at h
  .rename_i c hc;split at h
   .rename_i o' sz rows;have h:=zV (λ_ _ h=>zV (λ_ _ h=>zq h) h) (k:=λrows=>qi sz λsz=>K (.rG o' sz rows) H) h;exact⟨_,H,.same <|(zU.buildSlice (ρ:=λz=>yh (ρ z)) t len parts ho hc).weaken λz E v hl=>ma hl,zI (k:=λsz=>K (.rG o' sz rows) H) h⟩
   .exact bX
  .exact bX
 .rename_i t x lo hi mx ho;obtain⟨c,h1,h2⟩:=o7 (ρ:=λx=>rX (ρ x)) ho h;exact⟨c,H,(h1 H).rX,h2⟩
 .rename_i t x y ho;exact EP ho h
 .exact h
 .exact h
 .exact h
 .exact h
 .rename_i cl ho;exact Fw ho h
 .rename_i op t x y t' ho;split at h
  .rename_i xs ys hx hy;obtain⟨h1,h⟩:=h;simp only[c9,dG]at h1;split at h
   .rename_i b hb;split at h
    .exact⟨_,H,.same <|.wB .eql t t' x y ho (.inl V) h1.1 h1.2 hx hy hb,qh (k:=λc=>K c H) h⟩
    .exact⟨_,H,.same <|.wB .neq t t' x y ho (.inr V) h1.1 h1.2 hx hy hb,qh (k:=λc=>K c H) h⟩
    .exact bX
   .exact bX
  .rename_i s s' hx hy;obtain⟨⟨a⟩⟩:=s;obtain⟨⟨b⟩⟩:=s';obtain⟨c,h1,h2⟩:=Az ho hx hy h;exact⟨c,H,h1 H,h2⟩
  .obtain⟨c,h1,h2⟩:=xD h;exact⟨c,H,h1 H,h2⟩
 .rename_i src dst x ho;obtain⟨c,h1,h2⟩:=oX ho h;exact⟨c,H,h1 H,h2⟩
 .split at h
  .rename_i v e;obtain⟨h1,h2⟩:=zA h;simp only[c9,gV]at h1;exact⟨.v v,H,.same <|.scalar h1.1.1 h1.1.2 e h1.2,AU (k:=λc=>K c H) h2⟩
  .exact bX
 .obtain⟨c,h1,h2⟩:=xD h;exact⟨c,H,h1 H,h2⟩
end
def fk(calls:Bool)(o:Oper):Bool:=
 match o.op with
 |.alloc _|.box .. |.store .. |.makeSlice .. |.makeMap .. |.mapUpdate .. |.insert .. |.mapEntry .. |.entryStore ..=>true
 |.call cl=>match cl.callee with
  |.builtin .len=>false
  |.builtin _=>true
  |_=>calls
 |_=>false
def qY(o:Oper):Bool:=
 match o.op with
 |.move _|.assign _|.pick .. |.fieldAddr .. |.indexAddr .. |.extract .. |.nilCheck _|.makeFunc .. |.build .. |.buildSlice .. |.slice .. |.index .. |.field .. |.binOp .. |.unOp .. |.convert ..=>true
 |.call cl=>match cl.callee with
  |.builtin .len=>true
  |_=>false
 |_=>false
section
variable {P:Program} {o:Oper} {ρ:Operand->C} {H:zf} {K:C->zf->Prop}
def o8(hb:qY o=true)(h:vp P H ρ o K):∃c,(∀H2,rQ P o ρ H2 c H2)/\K c H:=by
 unfold vp at h;split at h
 .rename_i x ho;exact⟨_,λH2=>.same <|.move x (.inl ho),zq (k:=λc=>K c H) h⟩
 .rename_i x ho;exact⟨_,λH2=>.same <|.move x (.inr ho),zq (k:=λc=>K c H) h⟩
 .rename_i x y z ho;split at h
  .rename_i b hb;exact⟨_,λH2=>.same <|.pick x y z ho b hb,zq (k:=λc=>K c H) h⟩
  .exact bX
 .rename_i t ho;simp[qY,ho]at hb
 .rename_i t x ho;simp[qY,ho]at hb
 .rename_i t x f ho;exact oF ho h
 .rename_i t x y ho;obtain⟨c,h1,h2⟩:=og (ρ:=λx=>rX (ρ x)) ho h;exact⟨c,λH2=>(h1 H2).rX,h2⟩
 .rename_i t x y ho;exact oh ho h
 .rename_i t x f ho;exact oG ho h
 .rename_i t x ho;simp[qY,ho]at hb
 .rename_i t x y ho;simp[qY,ho]at hb
 .rename_i x n ho;split at h
  .rename_i vs hx;split at h
   .rename_i c hc;exact⟨c,λH2=>.same <|.extract x n ho hx hc,zq (k:=λc=>K c H) (qh (k:=λc=>z2 c λc=>K c H) h)⟩
   .exact bX
  .exact bX
 .rename_i x ho;exact⟨_,λH2=>.same <|.nilCheck x ho (zA h).1,zq (k:=λc=>K c H) (zA h).2⟩
 .rename_i f first caps ho;split at h
  .have h:=zV (λ_ _ h=>zq h) h;exact⟨_,λH2=>.same <|.makeFunc _ first caps ho,zV (λ_ _ h=>zq h) (k:=λb=>K (.fn _ (first.toList.map ρ) b) H) h⟩
  .exact bX
 .rename_i t parts ho;obtain⟨cs,hc,h⟩:=ow h;exact⟨_,λH2=>.same <|.build t parts ho hc,h⟩
 .rename_i t x ho;simp[qY,ho]at hb
 .rename_i x xT t ok ho;simp[qY,ho]at hb
 .rename_i t len parts ho;split at h
  .rename_i c hc;split at h
   .rename_i o' sz rows;have h:=zV (λ_ _ h=>zV (λ_ _ h=>zq h) h) (k:=λrows=>qi sz λsz=>K (.rG o' sz rows) H) h;exact⟨_,λH2=>.same <|(zU.buildSlice (ρ:=λz=>yh (ρ z)) t len parts ho hc).weaken λz E v hl=>ma hl,zI (k:=λsz=>K (.rG o' sz rows) H) h⟩
   .exact bX
  .exact bX
 .rename_i t x lo hi mx ho;obtain⟨c,h1,h2⟩:=o7 (ρ:=λx=>rX (ρ x)) ho h;exact⟨c,λH2=>(h1 H2).rX,h2⟩
 .rename_i t x y ho;simp[qY,ho]at hb
 .rename_i ho;simp[qY,ho]at hb
 .rename_i ho;simp[qY,ho]at hb
 .rename_i ho;simp[qY,ho]at hb
 .rename_i ho;simp[qY,ho]at hb
 .rename_i cl ho
  have hc:cl.callee=.builtin .len:=by
   simp only[qY,ho]at hb;split at hb
   .assumption
   .cases hb
  have hns:q7 o=true:=by simp[q7,ho]
  unfold iO at h;rw[hc]at h;dsimp only at h;split at h
  .rename_i x t hx ht;split at h
   .rename_i e hu;split at h
    .rename_i n hn;exact⟨_,λH2=>.rX (ρ:=ρ) <|.same <|.len cl ho hc x (Array.jr hx) (Array.jr ht) hu hn,h⟩
    .exact bX
   .rename_i hu;split at h
    .rename_i s hs;obtain⟨⟨b⟩⟩:=s;exact⟨_,λH2=>.same <|.BR cl ho hc x (Array.jr hx) (Array.jr ht) hu hs,h⟩
    .exact bX
   .split at h
    .rename_i v e;obtain⟨h1,h2⟩:=zA h;simp only[c9,gV]at h1;exact⟨.v v,λH2=>.same <|.scalar hns h1.1 e h1.2,qh (k:=λc=>K c H) h2⟩
    .exact bX
  .exact bX
 .rename_i op t x y t' ho;split at h
  .rename_i xs ys hx hy;obtain⟨h1,h⟩:=h;simp only[c9,dG]at h1;split at h
   .rename_i b hb;split at h
    .exact⟨_,λH2=>.same <|.wB .eql t t' x y ho (.inl V) h1.1 h1.2 hx hy hb,qh (k:=λc=>K c H) h⟩
    .exact⟨_,λH2=>.same <|.wB .neq t t' x y ho (.inr V) h1.1 h1.2 hx hy hb,qh (k:=λc=>K c H) h⟩
    .exact bX
   .exact bX
  .rename_i s s' hx hy;obtain⟨⟨a⟩⟩:=s;obtain⟨⟨b⟩⟩:=s';exact Az ho hx hy h
  .exact xD h
 .rename_i src dst x ho;exact oX ho h
 .split at h
  .rename_i v e;obtain⟨h1,h2⟩:=zA h;simp only[c9,gV]at h1;exact⟨.v v,λH2=>.same <|.scalar h1.1.1 h1.1.2 e h1.2,AU (k:=λc=>K c H) h2⟩
  .exact bX
 .exact xD h
end
section
variable {P:Program} {B:Nat} {ops:Array Oper} {md:Region.Mode} {Hs:Nat->zf} {eff:Nat->Bool} {idx:Nat->Nat} {inR:Nat->Nat->Bool}
def vL(md:Region.Mode)(ms:List Nat)(o:Oper):List Nat:=
 ms++[o.after.toList.foldl (λm e=>if Region.binds md e then m ||| (1 <<< e.on) ||| (ms[e.on]?).getD 0 else m) 0]
def yX(md:Region.Mode)(ops:Array Oper):List Nat:=ops.toList.foldl (vL md) []
def te(md:Region.Mode)(ops:Array Oper)(ms:List Nat)(j i:Nat):Bool:=Nat.testBit ((ms[j]?).getD 0) i
def AW{md:Region.Mode}{ms:List Nat}{i:Nat}:∀{l:List Edge} {m0:Nat},Nat.testBit (l.foldl (λm e=>if Region.binds md e then m ||| (1 <<< e.on) ||| (ms[e.on]?).getD 0 else m) m0) i=true->
  Nat.testBit m0 i=true\/∃e∈l,Region.binds md e=true/\(e.on=i\/Nat.testBit ((ms[e.on]?).getD 0) i=true)
 |[],m0,h=>.inl h
 |e::l,m0,h=>by
  rw[List.foldl_cons]at h;rcases AW h with h1|⟨e',h1,h2⟩
  .split at h1
   .rename_i hb;simp only[Nat.testBit_or,gf]at h1;rcases h1 with(h1|h1)|h1
    .exact .inl h1
    .refine .inr ⟨e,aj,hb,.inl ?_⟩;rw[Nat.testBit_shiftLeft]at h1;simp only[c9,dm]at h1;obtain⟨h2,h3⟩:=h1;have:=Nat.testBit_one_eq_true_iff_self_eq_zero.1 h3;omega
    .exact .inr ⟨e,aj,hb,.inr h1⟩
   .exact .inl h1
  .exact .inr ⟨e',bw,h2⟩
def vw(md:Region.Mode)(l:List Oper)(ms:List Nat):Prop:=ms.length=l.length/\∀(j i:Nat),Nat.testBit ((ms[j]?).getD 0) i=true->
  ∃oj,l[j]?=some oj/\∃e∈oj.after,Region.binds md e=true/\(e.on=i\/(e.on<j/\Nat.testBit ((ms[e.on]?).getD 0) i=true))
def vw.step{l:List Oper}{ms:List Nat}(h0:vw md l ms)(o:Oper):vw md (l++[o]) (vL md ms o):=by
 obtain⟨ih1,ih2⟩:=h0;refine⟨by simp[vL,ih1],?_⟩;intro j i h;unfold vL at h|-;by_cases hj:j<ms.length
 .rw[da hj]at h;obtain⟨oj,h1,e,h2,h3,h4⟩:=ih2 j i h;refine⟨oj,by rw[da ah];exact h1,e,h2,h3,h4.imp id λ⟨h5,h6⟩=>⟨h5,?_⟩⟩;rw[da ah];exact h6
 .rw[dg ah]at h
  have hj0:j-ms.length=0:=by
   rcases pC (j-ms.length) with h0|h0
   .exact h0
   .rw[dZ aw]at h;simp at h
  rw[hj0]at h;simp only[pI,dL]at h;rcases AW h with h1|⟨e,h1,h2,h3⟩
  .simp at h1
  .refine⟨o,by rw[dg ah,<-ih1,hj0];rfl,e,ak h1,h2,h3.imp id λh4=>?_⟩
   have rF:e.on<ms.length:=by
    rcases pD e.on ms.length with h5|h5
    .exact h5
    .rw[dZ h5]at h4;simp at h4
   exact⟨ah,by rw[da rF];exact h4⟩
def vw.fold{md:Region.Mode}:∀{l pre:List Oper} {ms:List Nat},vw md pre ms->vw md (pre++l) (l.foldl (vL md) ms)
 |[],pre,ms,h=>by simpa using h
 |o::l,pre,ms,h=>by
  have:=(h.step o).fold (l:=l);simpa using this
def Aj(ops:Array Oper):vw md ops.toList (yX md ops):=by
 have:=vw.fold (md:=md) (l:=ops.toList) (pre:=[]) (ms:=[]) ⟨rfl,aj⟩;simpa [yX] using this
def Down(md:Region.Mode)(ops:Array Oper)(listed:Array Bool):Prop:=∀j oj,ops[j]?=some oj->listed.getD j false=true->∀e∈oj.after,Region.binds md e=true->listed.getD e.on false=true
def Down.start:Down md ops (Array.replicate ops.size false):=λj oj _ h=>by
 exfalso
 rw[dE,Array.getElem?_replicate]at h;split at h <;> simp at h
def Down.dep(hd:Down md ops listed)(j i:Nat)(hj:listed.getD j false=true)(h:te md ops (yX md ops) j i=true):listed.getD i false=true:=by
 induction j using Nat.strongRecOn with
 |_ j ih=>
  obtain⟨oj,h1,e,h2,h3,h4⟩:=(Aj (md:=md) ops).2 j i h;have h5:=hd j oj tD hj e h2 h3;rcases h4 with rfl|⟨h6,h7⟩
  .exact h5
  .exact ih e.on h6 h5 h7
def Down.ready(hd:Down md ops listed)(hj:j∈Region.ready md ops listed)(h:te md ops (yX md ops) j i=true):listed.getD i false=true:=by
 obtain⟨_,oj,ho,zF⟩:=mem_ready.1 hj;obtain⟨oj',h1,e,h2,h3,h4⟩:=(Aj (md:=md) ops).2 j i h
 have e1:oj'=oj:=by
  have:ops[j]?=some oj':=ak h1
  rw[ho]at this;cases this
  rfl
 subst e1;have h5:=zF e h2 h3;rcases h4 with rfl|⟨h6,h7⟩
 .exact h5
 .exact hd.dep e.on i h5 h7
def Down.step(hd:Down md ops listed)(hi:i∈Region.ready md ops listed):Down md ops (listed.setIfInBounds i true):=λj oj ho hj e he hb=>by
 by_cases hji:i=j
 .subst hji;obtain⟨_,oi,ho',zF⟩:=mem_ready.1 hi;rw[ho]at ho';cases ho'
  exact getD_set_true (zF e he hb)
 .rw[getD_set_ne false hji]at hj;exact getD_set_true (hd j oj ho hj e he hb)
def QA(P:Program)(ops:Array Oper)(Hs:Nat->zf)(r:Nat->Bool)(o:Oper)(c:C)(t:List C):Prop:=
 (qt ops t o=some true/\∀k,r k=true->rQ P o (ev t) (Hs k) c (Hs k))\/(qt ops t o=some false/\c=.un)
def EA(P:Program)(ops:Array Oper)(H H':zf)(o:Oper)(c:C)(t:List C):Prop:=
 (qt ops t o=some true/\rQ P o (ev t) H c H')\/(qt ops t o=some false/\c=.un/\H'=H)
def QA.put{r:Nat->Bool}{o:Oper}{c x:C}{t:List C}{dst:Option Tmp}(h:∀d,dst=some d->d∉o.looksAt ops):QA P ops Hs r o c (put t dst x)↔QA P ops Hs r o c t:=by
 unfold QA;rw[jU h];constructor
 .rintro(⟨h1,h2⟩|h1)
  .exact .inl ⟨h1,λk hk=>(rQ.put h).1 (h2 k hk)⟩
  .exact .inr h1
 .rintro(⟨h1,h2⟩|h1)
  .exact .inl ⟨h1,λk hk=>(rQ.put h).2 (h2 k hk)⟩
  .exact .inr h1
def EA.put{H H':zf}{o:Oper}{c x:C}{t:List C}{dst:Option Tmp}(h:∀d,dst=some d->d∉o.looksAt ops):EA P ops H H' o c (put t dst x)↔EA P ops H H' o c t:=by
 unfold EA;rw[jU h,rQ.put h]
def iX(P:Program)(ops:Array Oper)(Hs:Nat->zf)(eff:Nat->Bool)(idx:Nat->Nat)(inR:Nat->Nat->Bool)(i:Nat)(o:Oper)(c:C)(n':Nat)(t:List C)(n:Nat):Prop:=
 (eff i=false/\inR i n=true/\QA P ops Hs (inR i) o c t/\n'=n)\/(eff i=true/\idx i=n/\EA P ops (Hs n) (Hs (n+1)) o c t/\n'=n+1)
def kL(P:Program)(ops:Array Oper)(Hs:Nat->zf)(eff:Nat->Bool)(idx:Nat->Nat)(inR:Nat->Nat->Bool)(i:Nat)(K:List C->Nat->Prop)(t:List C)(n:Nat):Prop:=
 match ops[i]? with
 |none=>K t n
 |some o=>∃c n',iX P ops Hs eff idx inR i o c n' t n/\K (put t o.dst c) n'
def FA{t:List C}{n:Nat}{K K':List C->Nat->Prop}(h:∀t n,K t n->K' t n)(hh:kL P ops Hs eff idx inR i K t n):kL P ops Hs eff idx inR i K' t n:=by
 unfold kL at *;split
 .exact h _ _ (by simpa [*] using hh)
 .rename_i o ho;simp only[ho]at hh;obtain⟨c,n',h1,h2⟩:=hh;exact⟨c,n',h1,h _ _ h2⟩
def tN(P:Program)(ops:Array Oper)(Hs:Nat->zf)(eff:Nat->Bool)(idx:Nat->Nat)(inR:Nat->Nat->Bool)(Q:List C->Nat->Prop):List Oper->Nat->List C->Nat->Prop
 |[],_,t,n=>Q t n
 |_::l,k,t,n=>kL P ops Hs eff idx inR k (tN P ops Hs eff idx inR Q l (k+1)) t n
def fK(P:Program)(md:Region.Mode)(ops:Array Oper)(Hs:Nat->zf)(eff:Nat->Bool)(idx:Nat->Nat)(inR:Nat->Nat->Bool)(Q:List C->Nat->Prop):Nat->Array Bool->List C->Nat->Prop
 |0,listed,t,n=>Region.ready md ops listed=[]/\Q t n
 |fuel+1,listed,t,n=>(Region.ready md ops listed=[]->Q t n)/\∀i∈Region.ready md ops listed,kL P ops Hs eff idx inR i (fK P md ops Hs eff idx inR Q fuel (listed.setIfInBounds i true)) t n
def ju{q:Option Nat}{m:Nat}{H0:zf}{Q:List C->Nat->Prop}{w0:World}{E0:Env}{Q':Exit->Act->World->Prop}(hQ:∀t n w E a,Q t n->je B m w E ⟨t,Hs n⟩ a->qq B w0 E0 H0 w E (Hs n)->Q' .normal a w):
  ∀(fuel:Nat) (listed:Array Bool) (t:List C) (n:Nat) (w:World) (E:Env) (a:Act),je B m w E ⟨t,Hs n⟩ a->qq B w0 E0 H0 w E (Hs n)->fK P md ops Hs eff idx inR Q fuel listed t n->wpAnyIn (fw q) 0 P md ops Q' fuel listed a w
 |0,_,t,n,w,E,a,hs,hg,h=>⟨h.1,hQ t n w E a h.2 hs hg⟩
 |fuel+1,listed,t,n,w,E,a,hs,hg,h=>⟨λh0=>hQ t n w E a (h.1 h0) hs hg,λi hi=>by
   have h1:=h.2 i hi;unfold kL at h1;unfold wpOpIn;split
   .rename_i ho;simp only[ho]at h1;exact ju hQ fuel _ t n w E a hs hg h1
   .rename_i o ho;simp only[ho]at h1;obtain⟨c,n',hf,hK⟩:=h1;rcases hf with⟨_,hin,⟨hw,hv⟩|⟨hw,rfl⟩,rfl⟩|⟨_,_,⟨hw,hv⟩|⟨hw,rfl,he⟩,rfl⟩
    .rw[c7 (qA hs.tmps hw)];exact kB.iG (s:=⟨t,Hs n'⟩) (hv _ hin) q m w E a _ Q' hs λw' E' a' h2 g2=>ju hQ fuel _ (put t o.dst c) n' w' E' a' h2 (hg.trans g2) hK
    .rw[c6 bj];exact⟨λ_ _=>trivial,ju hQ fuel _ (put t o.dst .un) n' w E _ (hs.put .un o.dst) hg hK⟩
    .rw[c7 (qA hs.tmps hw)];exact kB.iG (s:=⟨t,Hs n⟩) hv q m w E a _ Q' hs λw' E' a' h2 g2=>ju hQ fuel _ (put t o.dst c) (n+1) w' E' a' h2 (hg.trans g2) hK
    .rw[c6 bj];have hs':=hs.put .un o.dst;exact⟨λ_ _=>trivial,ju hQ fuel _ (put t o.dst .un) (n+1) w E _ (by rw[he];exact hs') (by rw[he];exact hg) hK⟩⟩
structure eS(md:Region.Mode)(ops:Array Oper)(eff:Nat->Bool)(idx:Nat->Nat)(inR:Nat->Nat->Bool)(i j:Nat):Prop where
 c1:eff i=false->eff j=true->te md ops (yX md ops) j i=false->inR i (idx j)=true->inR i (idx j+1)=true
 c2:eff i=true->eff j=false->te md ops (yX md ops) j i=false->inR j (idx i+1)=true->inR j (idx i)=true
def FB{oj:Oper}{c:C}{n ni:Nat}(hj:ops[j]?=some oj)(hap:oi.apart ops oj=true)(he:eff i=true->eff j=false)(hp:eS md ops eff idx inR i j)(hno:te md ops (yX md ops) j i=false){K:List C->Nat->Prop}{t:List C}
 (hf:iX P ops Hs eff idx inR i oi c ni t n)(h:kL P ops Hs eff idx inR j K (put t oi.dst c) ni):
  kL P ops Hs eff idx inR j (λt' n'=>∃n2,iX P ops Hs eff idx inR i oi c n2 t' n'/\K (put t' oi.dst c) n2) t n:=by
 obtain⟨h1,h2,h3⟩:=Oper.apart_spec hap;unfold kL at *;simp only[hj] at *;obtain⟨cj,nj,hfj,hK⟩:=h;rw[put_comm _ _ h2]at hK;rcases hf with⟨e1,e2,e3,rfl⟩|⟨e1,e2,e3,rfl⟩
 .rcases hfj with⟨f1,f2,f3,rfl⟩|⟨f1,f2,f3,rfl⟩
  .exact⟨cj,nj,.inl ⟨f1,f2,(QA.put h1).1 f3,rfl⟩,nj,.inl ⟨e1,e2,(QA.put h3).2 e3,rfl⟩,hK⟩
  .refine⟨cj,ni+1,.inr ⟨f1,f2,(EA.put h1).1 f3,rfl⟩,ni+1,.inl ⟨e1,?_,(QA.put h3).2 e3,rfl⟩,hK⟩;rw[<-f2];exact hp.c1 e1 f1 hno (by rw[f2];exact e2)
 .rcases hfj with⟨f1,f2,f3,rfl⟩|⟨f1,f2,f3,rfl⟩
  .refine⟨cj,n,.inl ⟨f1,?_,(QA.put h1).1 f3,rfl⟩,n+1,.inr ⟨e1,e2,(EA.put h3).2 e3,rfl⟩,hK⟩;rw[<-e2];exact hp.c2 e1 f1 hno (by rw[e2];exact f2)
  .rw[he e1]at f1;cases f1
def Fm{Q:List C->Nat->Prop}{c:C}(hi:ops[i]?=some oi):
  ∀(fuel:Nat) (listed:Array Bool) (t:List C) (n ni:Nat),Down md ops listed->
   (∀j oj,ops[j]?=some oj->j≠i->listed.getD j true=false->(∀e∈oj.after,Region.binds md e=true->e.on≠i)->oi.apart ops oj=true/\(eff i=true->eff j=false)/\eS md ops eff idx inR i j)->
   i∈Region.ready md ops listed->iX P ops Hs eff idx inR i oi c ni t n->
   fK P md ops Hs eff idx inR Q fuel (listed.setIfInBounds i true) (put t oi.dst c) ni->fK P md ops Hs eff idx inR Q (fuel+1) listed t n:=by
 intro fuel
 induction fuel with
 |zero=>
  intro listed t n ni _ _ hr hy H;refine⟨λh=>bk,λj hj=>?_⟩;by_cases hji:j=i
  .subst hji;unfold kL;simp only[hi];exact⟨c,ni,hy,H⟩
  .have:=ready_mono hj hji;rw[H.1]at this;cases this
 |succ fuel ih=>
  intro listed t n ni hdown hfree hr hy H;refine⟨λh=>bk,λj hj=>?_⟩;by_cases hji:j=i
  .subst hji;unfold kL;simp only[hi];exact⟨c,ni,hy,H⟩
  .have h1:=H.2 j (ready_mono hj hji);obtain⟨hjun,oj,hoj,zF⟩:=mem_ready.1 hj
   have hiun:listed.getD i false=false:=by
    have h0:=(mem_ready.1 hr).1;rcases pD i listed.size with h'|h'
    .simp[h']at h0|-;exact h0
    .simp[gO h']
   have hnot:∀e∈oj.after,Region.binds md e=true->e.on≠i:=λe he hb heq=>by
    have h1:=zF e he hb;rw[heq,hiun]at h1;cases h1
   have hno:te md ops (yX md ops) j i=false:=by
    cases hd:te md ops (yX md ops) j i with
    |false=>rfl
    |true=>have:=hdown.ready hj hd;rw[hiun]at this;cases this
   obtain⟨hap,hee,hp⟩:=hfree j oj hoj hji hjun hnot;have h2:=FB hoj hap hee hp hno hy h1
   have hfree':∀k ok,ops[k]?=some ok->k≠i->(listed.setIfInBounds j true).getD k true=false->
     (∀e∈ok.after,Region.binds md e=true->e.on≠i)->oi.apart ops ok=true/\(eff i=true->eff k=false)/\eS md ops eff idx inR i k:=λk ok hk hki hun hno=>by
    refine hfree k ok hk hki ?_ hno;by_cases hjk:j=k
    .subst hjk;exact hjun
    .rw[getD_set_ne true hjk]at hun;exact hun
   refine FA (λt' n' ⟨n2,h3,h4⟩=>ih (listed.setIfInBounds j true) t' n' n2 (hdown.step hj) hfree' (ready_mono hr (Ne.symm hji)) h3 ?_) h2;rw[pE _ _ hji];exact h4
def AX{Q:List C->Nat->Prop}(hE:ug md ops eff=true)(hP:∀i j,eS md ops eff idx inR i j):∀(l:List Oper) (k:Nat) (listed:Array Bool) (t:List C) (n:Nat),Down md ops listed->(∀j,l[j]?=ops[k+j]?)->(∀j,j<k->listed.getD j true=true)->
  Region.lexFrom md ops l.length k listed=true->tN P ops Hs eff idx inR Q l k t n->fK P md ops Hs eff idx inR Q l.length listed t n
 |[],_,_,_,_,_,_,_,hB,h=>⟨by simpa [Region.lexFrom] using hB,h⟩
 |o::l,k,listed,t,n,hd,hl,hk,hB,h=>by
  have h0:ops[k]?=some o:=by simpa using (hl 0).symm
  simp only[gA,Region.lexFrom,c9]at hB;obtain⟨⟨hr,hf⟩,hB'⟩:=hB;have h':kL P ops Hs eff idx inR k (tN P ops Hs eff idx inR Q l (k+1)) t n:=h;unfold kL at h';simp only[h0]at h';obtain⟨c,n',hfst,hK⟩:=h';have hr':k∈Region.ready md ops listed:=ak hr
  refine Fm h0 l.length listed t n n' hd (λj oj hj hne hun hno=>⟨Region.free_spec h0 hf j oj hj hne hun hno,λhe=>?_,hP k j⟩) hr' hfst
   (AX hE hP l (k+1) _ _ _ (hd.step hr') (λj=>by have:=hl (j+1);simpa [gM,ru 1 j] using this) ?_ hB' hK)
  .refine AL hE he ?_ hj hno;rcases g6 j k with rF|heq|rF
   .rw[hk j rF]at hun;cases hun
   .exact absurd heq hne
   .exact rF
  .intro j hj;by_cases hjk:k=j
   .subst hjk;by_cases rF:k<listed.size
    .simp[rF]
    .simp[rF]
   .rw[getD_set_ne true hjk];exact hk j ah
def tW.Ju{id n':Nat}{t t':List C}(hm:P.follows .mixedOrders=true)(hB:Region.lexB .any ops=true)(hE:ug .any ops eff=true)(hP:∀i j,eS .any ops eff idx inR i j)(hH:Hs 0=H)
 (h:tN P ops Hs eff idx inR (λt n=>t=t'/\n=n') ops.toList 0 t 0):tW P B (.region id ops true) ⟨t,H⟩ .normal ⟨t',Hs n'⟩:=λq m w E a Q _ hs hq=>by
 simp only[Region.lexB,c9]at hB;subst hH;refine wpIn_region_any hm (ju (Hs:=Hs) (eff:=eff) (idx:=idx) (inR:=inR) (H0:=Hs 0) (Q:=λt n=>t=t'/\n=n') (w0:=w) (E0:=E) (λt1 n1 w1 E1 a1 he h1 g1=>by obtain⟨rfl,rfl⟩:=he;exact hq _ _ w1 E1 a1 ⟨rfl,rfl⟩ h1 g1) _ _ t 0 _ E a hs.drew ((Grow.drew w E (Hs 0)).sB uW) ?_);have:=AX (Hs:=Hs) (eff:=eff) (idx:=idx) (inR:=inR) (Q:=λt n=>t=t'/\n=n') (P:=P) (md:=.any) hE hP ops.toList 0 (Array.replicate ops.size false) t 0 Down.start aj (λj hj=>absurd hj (dx j)) (ak hB.2) h;simpa using this
structure vt where
 calls:Bool
 bl:List Nat
 keep:List Nat:=[]
 calm:List Nat:=[]
def tg:List Nat->Nat->Bool
 |[],_=>false
 |x::xs,k=>match Nat.beq x k with|true=>true|false=>tg xs k
def vt.blind(T:vt)(k:Nat):Bool:=tg T.bl k
def vt.wo(T:vt)(k:Nat):Bool:=match T.calls with|true=>!tg T.calm k|false=>false
def yo(T:vt)(ops:Array Oper)(i:Nat):Bool:=match ops[i]? with|some o=>fk (T.wo i) o && !T.blind i|none=>false
def jx(T:vt)(ops:Array Oper)(i:Nat):Nat:=((List.range i).filter (yo T ops)).length
def sO(T:vt)(ops:Array Oper)(i k:Nat):Bool:=match ops[i]? with|some o=>(qY o || T.blind i) || k == jx T ops i|none=>true
def nk(md:Region.Mode)(T:vt)(ops:Array Oper)(ms:List Nat):Bool:=
 ug md ops (yo T ops) && (List.range ops.size).all λi=>(List.range ops.size).all λj=>
  (!(yo T ops j) || yo T ops i || sO T ops i (jx T ops j+1) || !(sO T ops i (jx T ops j)) || te md ops ms j i) &&
  (!(yo T ops i) || yo T ops j || sO T ops j (jx T ops i) || !(sO T ops j (jx T ops i+1)) || te md ops ms j i)
def eL(md:Region.Mode)(T:vt)(ops:Array Oper):Bool:=nk md T ops (yX md ops)
def FZ{T:vt}(h:eL md T ops=true)(i j:Nat):eS md ops (yo T ops) (jx T ops) (sO T ops) i j:=by
 simp only[eL,nk,c9,c8,gG]at h
 have he:∀i,yo T ops i=true->i<ops.size:=λi hi=>by
  unfold yo at hi;split at hi
  .rename_i o ho;exact(db.1 ho).1
  .cases hi
 have hin:∀i k,¬i<ops.size->sO T ops i k=true:=λi k hi=>by
  unfold sO;rw[gO ah]
 constructor
 .intro h1 h2 h3 h4;by_cases hi:i<ops.size
  .have:=(h.2 i hi j (he j h2)).1;simp only[h1,h2,h3,h4,pM,gD,ri]at this;exact cQ
  .exact hin i _ hi
 .intro h1 h2 h3 h4;by_cases hj:j<ops.size
  .have:=(h.2 i (he i h1) j hj).2;simp only[h1,h2,h3,h4,pM,gD,ri]at this;exact cQ
  .exact hin j _ hj
def fC(o:Oper):Bool:=match o.op with|.load ..=>true|_=>false
def Ag{K:C->zf->Prop}(hb:fC o=true)(h:vp P H ρ o K):∃c,rQ P o ρ H c H/\K c H:=by
 unfold fC at hb;split at hb
 .rename_i t x ho;unfold vp at h;rw[ho]at h;dsimp only at h;obtain⟨c,h1,h2⟩:=y9 h;exact⟨c,.same <|.load t x ho h1,h2⟩
 .cases hb
def xG(keep:List Nat)(H H':zf):Prop:=∀id,tg keep id=true->H'[id]?=H[id]?
def xG.refl(keep:List Nat)(H:zf):xG keep H H:=λ_ _=>rfl
def xG.trans{keep:List Nat}{H H' H'':zf}(h:xG keep H H')(h':xG keep H' H''):xG keep H H'':=λid hi=>(h' id hi).trans (h id hi)
def fF(H H':zf)(k:Prop):List Nat->Prop
 |[]=>k
 |id::ids=>H'[id]?=H[id]?/\fF H H' k ids
def vf{H H':zf}{k:Prop}:∀{keep:List Nat},fF H H' k keep->xG keep H H'/\k
 |[],h=>⟨λid hi=>by simp[tg]at hi,h⟩
 |x::xs,h=>by
  obtain⟨h1,h2⟩:=h;obtain⟨h3,h4⟩:=vf h2;refine⟨λid hi=>?_,h4⟩;unfold tg at hi;split at hi
  .rename_i e;obtain rfl:=pQ e;exact h1
  .exact h3 id hi
def GR{id:Nat}(h:H'[id]?=H[id]?)(hops:List rT):zB H' id hops=zB H id hops:=by unfold zB;rw[h]
def EO{id:Nat}{k:Nat}(h:H'[id]?=H[id]?):yd P H' t (.ref id hops sz i k)=yd P H t (.ref id hops sz i k):=by
 unfold yd vN;simp only[GR h]
def ix(P:Program)(keep:List Nat)(H:zf)(ρ:Operand->C)(o:Oper)(K:C->zf->Prop):Prop:=
 match o.op with
 |.load t x=>match ρ x with
  |.qC cells=>fB P H t (.qC cells) λc=>K c H
  |.ref id hops sz i k=>bK (tg keep id) <|fB P H t (.ref id hops sz i k) λc=>K c H
  |_=>False
 |.call cl=>match cl.callee with
  |.value x=>match ρ x with
   |.fn f first caps=>bK (zC P f) <| ∃r,(∀H2,zb P f H2 (first++(cl.args.toList.map λx=>rX (ρ x))++caps) r H2)/\okB r λr=>K r H
   |_=>False
  |_=>False
 |.makeSlice t x y=>match ρ x,ρ y with
  |.v (.int _ n),.v (.int _ n')=>match P.underlying t with
   |some (.slice e)=>match P.info? e with
    |some i=>match vr P e with
     |some cs=>bK (cs.all jF) <|n'=n/\0<=n/\(i.bytes:Int)*n<=281474976710656/\n<=9223372036854775807/\qi i.size λsz=>K (.rG 0 sz (List.replicate n.toNat cs)) H
     |none=>False
    |none=>False
   |_=>False
  |_,_=>False
 |_=>False
def ov{keep:List Nat}{K:C->zf->Prop}(h:ix P keep H ρ o K):∃c,(∀H2,xG keep H H2->rQ P o ρ H2 c H2)/\K c H:=by
 unfold ix at h;split at h
 .rename_i t x ho;split at h
  .rename_i cells hx;obtain⟨c,h1,h2⟩:=y9 h;refine⟨c,λH2 _=>.same <|.load t x ho ?_,h2⟩;rw[hx,<-h1]
   rfl
  .rename_i id hops sz i k hx;obtain⟨h0,h⟩:=zA h;obtain⟨c,h1,h2⟩:=y9 h;refine⟨c,λH2 hs=>.same <|.load t x ho ?_,h2⟩;rw[hx,<-h1];exact EO (hs id h0)
  .exact bX
 .rename_i cl ho;split at h
  .rename_i x hcl;split at h
   .rename_i f first caps hf;obtain⟨h1,r,h2,h3⟩:=zA h;exact⟨r,λH2 _=>.nA cl ho x hcl hf h1 (h2 H2),qh (k:=λc=>K c H) h3⟩
   .exact bX
  .exact bX
 .rename_i t x y ho;split at h
  .rename_i k n k' n' hx hy;split at h
   .rename_i e hu;split at h
    .rename_i i hi;split at h
     .rename_i cs hz;obtain⟨h1,rfl,h2,h3,h4,h5⟩:=zA h;exact⟨_,λH2 _=>.same <|.ER t x y ho hu hi hz h1 hx hy h2 h3 h4,zI (k:=λsz=>K (.rG 0 sz (List.replicate n'.toNat cs)) H) h5⟩
     .exact bX
    .exact bX
   .exact bX
  .exact bX
 .exact bX
def nP(P:Program)(T:vt)(ops:Array Oper)(o:Oper)(next:Nat->List C->zf->(List C->zf->Prop)->Prop)(k:Nat)(t:List C)(H:zf)(K:List C->zf->Prop):Prop:=
 match qt ops t o with
 |some true=>match T.blind k with
  |true=>ix P T.keep H (ev t) o λc H'=>wT t o.dst c λt=>next (k+1) t H K
  |false=>match fk (T.wo k) o with
   |true=>vp P H (ev t) o λc H'=>fF H H' (wT t o.dst c λt=>next (k+1) t H' K) T.keep
   |false=>match qY o || fC o with
    |true=>vp P H (ev t) o λc H'=>wT t o.dst c λt=>next (k+1) t H' K
    |false=>vp P H (ev t) o λc H'=>H'=H/\wT t o.dst c λt=>next (k+1) t H K
 |some false=>wT t o.dst .un λt=>next (k+1) t H K
 |none=>False
def wQ(P:Program)(T:vt)(ops:Array Oper)(l:List Oper):Nat->List C->zf->(List C->zf->Prop)->Prop:=
 List.rec (motive:=λ_=>Nat->List C->zf->(List C->zf->Prop)->Prop) (λ_ t H K=>K t H) (λo _ next=>nP P T ops o next) l
theorem Gm(T:vt)(o:Oper)(l:List Oper)(k:Nat)(t:List C)(H:zf)(K:List C->zf->Prop):wQ P T ops (o::l) k t H K=nP P T ops o (wQ P T ops l) k t H K:=rfl
def AI(T:vt)(k:Nat):jx T ops (k+1)=jx T ops k+if yo T ops k then 1 else 0:=by
 unfold jx;rw[List.range_succ,List.filter_append,dX];cases h:yo T ops k <;> simp[h]
def mq{T:vt}{D:zf}:∀{l:List Oper} {k:Nat} {t:List C} {H:zf} {K:List C->zf->Prop},(∀j,l[j]?=ops[k+j]?)->xG T.keep H D->wQ P T ops l k t H K->
  ∃(L:List zf) (t':List C),K t' ((H::L).getLast aj)/\(∀X∈L,xG T.keep H X)/\∀past:List zf,past.length=jx T ops k->(∀X∈past,xG T.keep H X)->
   tN P ops (λi=>((past++H::L)[i]?).getD D) (yo T ops) (jx T ops) (sO T ops) (λt n=>t=t'/\n=jx T ops k+L.length) l k t (jx T ops k)
 |[],k,t,H,K,hl,hD,h=>⟨[],t,h,aj,λpast hp _=>⟨rfl,rfl⟩⟩
 |o::l,k,t,H,K,hl,hD,h=>by
  have h0:ops[k]?=some o:=by simpa using (hl 0).symm
  have hl':∀j,l[j]?=ops[k+1+j]?:=λj=>by have:=hl (j+1);simpa [gM,ru 1 j] using this
  have he:yo T ops k=(fk (T.wo k) o && !T.blind k):=by unfold yo;rw[h0]
  have hin:∀m,sO T ops k m=((qY o || T.blind k) || m == jx T ops k):=λm=>by unfold sO;rw[h0]
  have all:∀(past L:List zf),(∀X∈past,xG T.keep H X)->(∀X∈L,xG T.keep H X)->∀m:Nat,xG T.keep H (((past++H::L)[m]?).getD D):=λpast L hp hL m=>by
   cases hx:(past++H::L)[m]? with
   |none=>exact hD
   |some X=>
    have:=cZ hx;rcases dU.1 this with h1|h1
    .exact hp X h1
    .rcases gS.1 h1 with rfl|h1
     .exact .refl _ _
     .exact hL X h1
  have quiet:∀c,yo T ops k=false->(∀past L,past.length=jx T ops k->(∀X∈past,xG T.keep H X)->(∀X∈L,xG T.keep H X)->QA P ops (λi=>((past++H::L)[i]?).getD D) (sO T ops k) o c t)->wQ P T ops l (k+1) (put t o.dst c) H K->
    ∃(L:List zf) (t':List C),K t' ((H::L).getLast aj)/\(∀X∈L,xG T.keep H X)/\∀past:List zf,past.length=jx T ops k->(∀X∈past,xG T.keep H X)->
     tN P ops (λi=>((past++H::L)[i]?).getD D) (yo T ops) (jx T ops) (sO T ops) (λt n=>t=t'/\n=jx T ops k+L.length) (o::l) k t (jx T ops k):=λc ht hq hK=>by
   obtain⟨L,t',h1,hL,h2⟩:=mq hl' hD hK;have hc:jx T ops (k+1)=jx T ops k:=by rw[AI,ht];rfl
   rw[hc]at h2;refine⟨L,t',h1,hL,λpast hp hs=>?_⟩;unfold tN kL;rw[h0];exact⟨c,_,.inl ⟨ht,by rw[hin];simp,hq past L hp hs hL,rfl⟩,h2 past hp hs⟩
  have ec:∀c H',yo T ops k=true->EA P ops H H' o c t->xG T.keep H H'->wQ P T ops l (k+1) (put t o.dst c) H' K->
    ∃(L:List zf) (t':List C),K t' ((H::L).getLast aj)/\(∀X∈L,xG T.keep H X)/\∀past:List zf,past.length=jx T ops k->(∀X∈past,xG T.keep H X)->
     tN P ops (λi=>((past++H::L)[i]?).getD D) (yo T ops) (jx T ops) (sO T ops) (λt n=>t=t'/\n=jx T ops k+L.length) (o::l) k t (jx T ops k):=λc H' ht hq hsm hK=>by
   have back:xG T.keep H' H:=λid hi=>(hsm id hi).symm
   obtain⟨L,t',h1,hL,h2⟩:=mq hl' (back.trans hD) hK;have hc:jx T ops (k+1)=jx T ops k+1:=by rw[AI,ht];rfl
   rw[hc]at h2;refine⟨H'::L,t',ak h1,λX hX=>?_,λpast hp hs=>?_⟩
   .rcases gS.1 hX with rfl|hX
    .exact hsm
    .exact hsm.trans (hL X hX)
   have h3:=h2 (past++[H]) (by simp[hp]) (λX hX=>by
    rcases dU.1 hX with h|h
    .exact back.trans (hs X h)
    .rw[dC.1 h];exact back)
   unfold tN kL;rw[h0];refine⟨c,jx T ops k+1,.inr ⟨ht,rfl,?_,rfl⟩,?_⟩
   .have e1:((past++H::H'::L)[jx T ops k]?).getD D=H:=by rw[<-hp];simp
    have e2:((past++H::H'::L)[jx T ops k+1]?).getD D=H':=by rw[<-hp,dg ah];simp
    dsimp only;rw[e1,e2];exact hq
   .simpa [gL,gM,ru 1] using h3
  have same:∀(past L:List zf),past.length=jx T ops k->((past++H::L)[jx T ops k]?).getD D=H:=λpast L hp=>by rw[<-hp];simp
  rw[Gm]at h;unfold nP at h;split at h
  .rename_i hw;cases hbl:T.blind k with
   |true=>
    rw[hbl]at h;obtain⟨c,h1,h2⟩:=ov h;exact quiet c (by rw[he,hbl];simp) (λpast L _ hs hL=>.inl ⟨hw,λm _=>h1 _ (all past L hs hL m)⟩) (qx (k:=λt=>wQ P T ops l (k+1) t H K) h2)
   |false=>
   rw[hbl]at h;simp only at h;have he2:yo T ops k=fk (T.wo k) o:=by rw[he,hbl];simp
   cases ht:fk (T.wo k) o with
   |true=>
    rw[ht]at h;obtain⟨c,H',h1,h2⟩:=k8 h;obtain⟨h3,h4⟩:=vf h2;exact ec c H' (he2.trans ht) (.inl ⟨hw,h1⟩) h3 (qx (k:=λt=>wQ P T ops l (k+1) t H' K) h4)
   |false=>
    rw[ht]at h;simp only at h;cases hb:qY o with
    |true=>
     rw[hb,Bool.true_or]at h;obtain⟨c,h1,h2⟩:=o8 hb h;exact quiet c (he2.trans ht) (λpast L _ _ _=>.inl ⟨hw,λm _=>h1 _⟩) (qx (k:=λt=>wQ P T ops l (k+1) t H K) h2)
    |false=>
     rw[hb,gD]at h
     have only:∀c,rQ P o (ev t) H c H->∀past L,past.length=jx T ops k->(∀X∈past,xG T.keep H X)->(∀X∈L,xG T.keep H X)->QA P ops (λi=>((past++H::L)[i]?).getD D) (sO T ops k) o c t:=λc h1 past L hp _ _=>.inl ⟨hw,λm hm=>by
      rw[hin,hb,hbl,gD,gD,dH]at hm;subst hm;dsimp only;rw[same past L hp];exact h1⟩
     cases hlo:fC o with
     |true=>
      rw[hlo]at h;obtain⟨c,h1,h2⟩:=Ag hlo h;exact quiet c (he2.trans ht) (only c h1) (qx (k:=λt=>wQ P T ops l (k+1) t H K) h2)
     |false=>
      rw[hlo]at h;obtain⟨c,H',h1,rfl,h2⟩:=k8 h;exact quiet c (he2.trans ht) (only c h1) (qx (k:=λt=>wQ P T ops l (k+1) t _ K) h2)
  .rename_i hw;have hK:=qx (k:=λt=>wQ P T ops l (k+1) t H K) h;cases ht:yo T ops k with
   |true=>exact ec .un H ht (.inr ⟨hw,rfl,rfl⟩) (.refl _ _) hK
   |false=>exact quiet .un ht (λpast L _ _ _=>.inr ⟨hw,rfl⟩) hK
  .exact bX
def tW.Jv{id:Nat}{T:vt}{t:List C}{K:List C->zf->Prop}(hm:P.follows .mixedOrders=true)(hB:Region.lexB .any ops=true)(hT:eL .any T ops=true)(h:wQ P T ops ops.toList 0 t H K):
  ∃s',tW P B (.region id ops true) ⟨t,H⟩ .normal s'/\K s'.tmps s'.H:=by
 obtain⟨L,t',h1,_,h2⟩:=mq (k:=0) (D:=H) aj (.refl _ _) h;have h3:=h2 [] V aj;have hE:ug .any ops (yo T ops)=true:=by simp only[eL,nk,c9]at hT;exact hT.1
 have:=tW.Ju (B:=B) (id:=id) (Hs:=λi=>((H::L)[i]?).getD H) (eff:=yo T ops) (idx:=jx T ops) (inR:=sO T ops) (n':=L.length) (t':=t') hm hB hE (λi j=>FZ hT i j) V (by simpa [jx] using h3);refine⟨_,this,?_⟩
 have e:((H::L)[L.length]?).getD H=(H::L).getLast aj:=by
  rw[List.getLast_eq_getElem];simp
 dsimp only;rw[e];exact h1
end
def kh:C->Bool
 |.agg cs=>cs.all jF
 |c=>jF c
def jf(H:zf):Bool:=H.all λob=>match ob.kind with
 |1=>ob.rows.all λr=>r.all zy
 |4=>ob.fz == 0 || (match ob.rows with|[.rc _::t]=>t.all kh|_=>false)
 |_=>true
def yx{id:Nat}{r':List C}(hob:H[id]?=some ⟨1,ty,sz,[r],fz⟩)(hno:r.all zy=true)(hno':r'.all zy=true){id':Nat}{p:List rT}{x:Nat×List (List C)}
 (h:zB (H.set id ⟨1,ty,sz,[r'],fz⟩) id' p=some x):(id'≠id/\zB H id' p=some x)\/(id'=id/\p=[]/\x=(sz,[r'])/\zB H id []=some (sz,[r])):=by
 obtain⟨ob,ho,hk,hg⟩:=qd h;by_cases hi:id'=id
 .subst hi
  right
  rw[df,c7 V,c7 (cW.1 hob).1]at ho;cases ho
  obtain⟨rfl,rfl⟩:=xV (λi k c hc=>by
   obtain⟨rfl,hc⟩:=jP.1 hc;exact c8.1 hno' c (cZ hc)) hg
  exact⟨rfl,rfl,rfl,by unfold zB;rw[hob];simp[z5]⟩
 .left
  refine⟨hi,?_⟩;rw[df,c6 (Ne.symm hi)]at ho;unfold zB;rw[ho];simp only[hk,if_true];exact hg
def zD.fm(h:zD w E H){id:Nat}{r':List C}(hob:H[id]?=some ⟨1,ty,sz,[r],fz⟩)(hlen:r'.length=r.length)(hno:r.all zy=true)(hno':r'.all zy=true)
 (hc:∀(k:Nat) c c' u,r[k]?=some c->r'[k]?=some c'->L E c u->w.cell? ⟨E.β id [],k,none⟩=some u->L E c' u):zD w E (H.set id ⟨1,ty,sz,[r'],fz⟩) where
 n:=ak h.n
 rM id' ob p sz' rows' hob' hx:=by
  rcases yx hob hno hno' hx with⟨h1,h2⟩|⟨rfl,rfl,h1,h2⟩
  .rw[df,c6 (Ne.symm h1)]at hob';exact h.rM id' ob p sz' rows' hob' h2
  .rw[df,c7 V,c7 (cW.1 hob).1]at hob';cases hob'
   cases h1
   have hb:=h.rM _ _ _ _ _ hob h2;refine⟨hb.len,λq hq=>?_,?_⟩
   .rw[dC.1 hq,hlen];exact hb.row r (dC.2 V)
   .obtain⟨cur,e,h3,h4,h5⟩:=hb.rM;refine⟨cur,e,h3,h4,?_⟩;intro i k c' hc';obtain⟨rfl,hc'⟩:=jP.1 hc';have hk:k<r.length:=by rw[<-hlen];exact(cW.1 hc').1
    have hk':r[k]?=some r[k]:=by simp[hk]
    obtain⟨u,hu,ho⟩:=h5 0 k r[k] (jP.2 ⟨rfl,hk'⟩);refine⟨u,hu,?_⟩;rw[z6.loose (c8.1 hno _ (cZ hk'))]at ho;rw[z6.loose (c8.1 hno' c' (cZ hc'))];refine⟨?_,ho.2⟩;have h6:L E r[k] u:=bx
    have h7:L E c' u:=hc k _ _ u hk' hc' h6 (by
     unfold World.cell?;rw[h3];simpa using hu)
    simpa [Env.at] using h7
 inj i p j q x y hx hy he:=by
  have key:∀i p x,zB (H.set id ⟨1,ty,sz,[r'],fz⟩) i p=some x->∃x',zB H i p=some x':=λi p x hx=>by
   rcases yx hob hno hno' hx with⟨h1,h2⟩|⟨rfl,rfl,h1,h2⟩
   .exact⟨x,h2⟩
   .exact⟨_,h2⟩
  obtain⟨x',hx'⟩:=key i p x hx;obtain⟨y',hy'⟩:=key j q y hy;exact h.inj i p j q x' y' hx' hy' he
 zK:=h.zK
 sep i p x o u hx hu:=by
  rcases yx hob hno hno' hx with⟨h1,h2⟩|⟨rfl,rfl,h1,h2⟩
  .obtain⟨e1,ob,e2,e3⟩:=h.sep i p x o u h2 hu;exact⟨e1,ob,by rw[df,c6 (Ne.symm h1)];exact e2,e3⟩
  .obtain⟨e1,ob,e2,e3⟩:=h.sep _ [] _ o u h2 hu;rw[hob]at e2;cases e2
   exact⟨rfl,⟨1,ty,sz,[r'],fz⟩,by rw[df,c7 V,c7 (cW.1 hob).1],e3⟩
 ty i ob ho hk:=by
  rw[df]at ho;split at ho
  .split at ho
   .cases ho;cases hk
   .cases ho
  .exact h.ty i ob ho hk
 fz i ob ho:=by
  rw[df]at ho;split at ho
  .split at ho
   .cases ho;have:=h.fz id _ hob;exact cQ
   .cases ho
  .exact h.fz i ob ho
def qs.Cl{id:Nat}(hob:H[id]?=some ob)(h1:ob.kind≠4)(h2:ob'.kind≠4):qs H (H.set id ob'):=λi o h4=>by
 rw[df];split
 .rename_i e;subst e;rw[c7 (cW.1 hob).1,hob];constructor
  .intro e;cases e;exact absurd h4 h2
  .intro e;cases e;exact absurd h4 h1
 .exact Iff.rfl
def zL.fm{w:World}{E:Env}{H:zf}(h:zL w E H){id:Nat}{ty:TypeId}{sz fz:Nat}{r r':List C}(hob:H[id]?=some ⟨1,ty,sz,[r],fz⟩)(hlen:r'.length=r.length)(hno:r.all zy=true)(hno':r'.all zy=true)
 (hc:∀(k:Nat) c c' u,r[k]?=some c->r'[k]?=some c'->L E c u->w.cell? ⟨E.β id [],k,none⟩=some u->L E c' u):zL w E (H.set id ⟨1,ty,sz,[r'],fz⟩)/\Grow w E H w E (H.set id ⟨1,ty,sz,[r'],fz⟩):=by
 have hR:=h.base.fm hob hlen hno hno' hc
 have hG:zR w E H w E (H.set id ⟨1,ty,sz,[r'],fz⟩):=⟨Env.le.refl E,λ_ _ _=>V,rfl,rfl,rfl,de _,λ_ _ _=>V,λ_ _ _ h=>.inl h,λb ⟨i,p,x,hx,he⟩=>by
  rcases yx hob hno hno' hx with⟨h1,h2⟩|⟨rfl,rfl,h1,h2⟩
  .exact .inr ⟨i,p,x,h2,he⟩
  .exact .inr ⟨_,[],_,h2,he⟩⟩
 have hk:=qs.Cl (ob':=⟨1,ty,sz,[r'],fz⟩) hob (λe=>by cases e) (λe=>by cases e);exact⟨⟨hR,sR.step h hG hk⟩,hG.up h hk⟩
section
variable {B:Nat} {s:S}
def zm.var(id:Nat){r':List C}(hob:s.H[id]?=some ⟨1,ty,sz,[r],fz⟩)(hno:r.all zy=true)(hno':r'.all zy=true)(hw:sA r r'):zm B s ⟨s.tmps,s.H.set id ⟨1,ty,sz,[r'],fz⟩⟩:=λm w E a hs=>by
 have hlen:∀{a b:List C},sA a b->b.length=a.length:=by
  intro a b h
  induction h with
  |nil=>rfl
  |cons _ _ ih=>simp[ih]
 have hget:∀{a b:List C},sA a b->∀(k:Nat) c c',a[k]?=some c->b[k]?=some c'->WC c c':=by
  intro a b h
  induction h with
  |nil=>intro k c c' h;simp at h
  |cons h1 _ ih=>
   intro k c c' e1 e2;cases k with
   |zero=>simp at e1 e2;subst e1 e2;exact h1
   |succ k=>exact ih k c c' (ak e1) uS
 obtain⟨hR,g⟩:=hs.heap.fm hob (hlen hw) hno hno' λk c c' u e1 e2 hl _=>hget hw k c c' e1 e2 E u hl
 exact⟨E,⟨hR,hs.tmps,hs.defers,ak hs.base⟩,g.sB uW⟩
def zm.xc(id k:Nat)(ty':TypeId)(sz':Nat){sz0:Nat}(hob:s.H[id]?=some ⟨1,ty,sz,[r],fz⟩)(hk:r[k]?=some (.rG 1 sz0 rows))(hz:rows=[]\/sz'=sz0)(hno:r.all zy=true)
 (hno':(r.set k (.gl s.H.length sz' rows)).all zy=true):
  zm B s ⟨s.tmps,s.H.set id ⟨1,ty,sz,[r.set k (.gl s.H.length sz' rows)],fz⟩++[⟨4,ty',sz',rows,0⟩]⟩:=λm w E a hs=>by
 have hgb:zB s.H id []=some (sz,[r]):=by unfold zB;rw[hob];simp[z5]
 have hb:=hs.heap.base.rM _ _ _ _ _ hob hgb;obtain⟨cur,e,h3,h4,h5⟩:=hb.rM;obtain⟨u,hu,ho⟩:=h5 0 k _ (jP.2 ⟨rfl,hk⟩);rw[z6.loose V]at ho;have hl:L E (.rG 1 sz0 rows) u:=bx
 obtain⟨E1,hh1,hl1,g1⟩:=hs.heap.AS hl ty' hz;have rF:id<s.H.length:=(cW.1 hob).1;have hob1:(s.H++[⟨4,ty',sz',rows,0⟩])[id]?=some ⟨1,ty,sz,[r],fz⟩:=by rw[da rF];exact hob
 have hβ:E1.β id []=E.β id []:=g1.le.β id [] (by rw[hs.heap.n];exact rF)
 have hcu:w.cell? ⟨E1.β id [],k,none⟩=some u:=by
  unfold World.cell?;rw[hβ,h3];simpa using hu
 obtain⟨hR,g2⟩:=hh1.fm hob1 (r':=r.set k (.gl s.H.length sz' rows)) aj hno hno' λj c c' v e1 e2 hl' hv=>by
  rw[df]at e2;split at e2
  .rename_i e;subst e;rw[hcu]at hv;cases hv
   split at e2
   .cases e2;exact hl1
   .cases e2
  .rw[e1]at e2;cases e2
   exact hl'
 rw[List.set_append_left _ _ rF]at hR g2;exact cP
end
def lM(w:World)(o:Obj){k:Nat}(h:k<w.heap.size):(w.alloc o).heap[k]?=w.heap[k]?:=by
 show(w.heap.push o)[k]?=_;rw[Array.getElem?_push,c6 ah]
def FF{g:Operand}{assign body:Code}{m:Nat}{t:List C}{a:Act}{Q:Exit->Act->World->Prop}
 (hs:je B m w E ⟨t,H⟩ a)(hg:ev t g=.fn f [] caps)(hcb:zC P f=true)
 (hit:∀(l:Nat) (r:Loop),r.state=.ready->r.pending=none->r.params=ps->r.assign=assign->r.body=body->
   ∃(rr:C) (Hf:zf) (rf:Loop),zb P f (H++[r8 l r t]) (.v (.func (.yield l) #[] #[])::caps) rr Hf/\Hf[H.length]?=some (r8 l rf t)/\rf.state≠.busy/\rf.tmps=r.tmps/\B<=Hf.length/\
   ∀w' E' a',je B m w' E' ⟨t,Hf.set H.length (r8 l {rf with state:=.exhausted} t)⟩ a'->qq B w E H w' E' (Hf.set H.length (r8 l {rf with state:=.exhausted} t))->
    match rf.pending with|none=>Q .normal a' w'|some c=>c.wpIn (fw none) 0 P Q a' w'):
  (Code.rangeFunc g ps assign body).wpIn (fw none) 0 P Q a w:=by
 have hm:=hs.defers.le;refine wpIn_rangeFunc ?_;intro fn _;obtain⟨r,hr⟩:∃r:Loop,r={state:=.ready,pending:=none,fn,tmps:=a.tmps,params:=ps,assign,body,defers:=w.heap.size}:=⟨_,rfl⟩;obtain⟨W1,hW1⟩:∃W1,W1=(w.alloc (.deferred (some []))).alloc (.loop r):=⟨_,rfl⟩
 have hL1:W1.heap[w.heap.size+1]?=some (.loop r):=by
  rw[hW1];have:=World.alloc_heap_new (w.alloc (.deferred (some []))) (.loop r);rwa [World.size_alloc]at this
 have hK1:W1.heap[w.heap.size]?=some (.deferred (some [])):=by
  rw[hW1];exact(lM _ _ aj).trans (World.alloc_heap_new w _)
 have hsame:∀k,k<w.heap.size->W1.heap[k]?=w.heap[k]?:=λk hk=>by
  rw[hW1];exact(lM _ _ aw).trans (lM _ _ hk)
 have hsz:W1.heap.size=w.heap.size+2:=by rw[hW1];simp
 have hv:=fP hs.tmps g;rw[hg]at hv
 obtain⟨zs,hσ,hzs⟩:∃zs,a.eval g=.func (.func f) #[] zs/\LL E caps zs.toList:=by
  generalize a.eval g=u at *;cases hv with
  |fn f first caps ys zs h1 h2 h3 h4=>
   have:ys= #[]:=ak h1.symm
   subst this;exact⟨zs,rfl,ak h2,λi c y e1 e2=>h4 i c y e1 uS⟩
 obtain⟨E1,hR1,G1⟩:=hs.heap.HW (w:=W1) (l:=w.heap.size+1) (r:=r) (t:=t) hsame (by rw[hW1];rfl) (by rw[hW1];rfl) (by rw[hW1];rfl) ah hL1 ah (by rw[hr];exact hs.tmps);obtain⟨rr,Hf,rf,hS,hHf,hbusy,htm,hB,hQ⟩:=hit (w.heap.size+1) r (by rw[hr]) (by rw[hr]) (by rw[hr]) (by rw[hr]) (by rw[hr])
 have eg:∀(args:Array Value),(callFunc f args).run P W1=.ok (.enter f args) W1:=by
  intro args;unfold zC at hcb;split at hcb
  rotate_left
  .cases hcb
  rename_i fn hfn;simp only[c9,dG]at hcb;have hname : fn.name ≠ "runtime.NumGoroutine" := by simpa using hcb.1
  have hbody:fn.body≠none:=bu
  simp[callFunc,hfn,hname,hbody]
 refine⟨w.heap.size+1,[uo w.heap.size],W1,{target:=.fn (.func f) zs,args:= #[.func (.yield (w.heap.size+1)) #[] #[]]},W1,f, #[.func (.yield (w.heap.size+1)) #[] #[]]++zs,W1,?_,?_,λ_ _=>trivial,?_,λh=>(by cases h),?_⟩
 .rw[hW1,hr];exact run_enterLoop_outer _ _ _ _ _
 .simp only[resolve,hσ];simp[go_sem]
 .simp[invoke,go_sem,eg]
 .refine(callsIn_wide (n:=0)).2 ((hS W1 E1 _ hR1 ?_).mono ?_)
  .have:=(LL.one (.v _ rfl:L E1 (.v (.func (.yield (w.heap.size+1)) #[] #[])) (.func (.yield (w.heap.size+1)) #[] #[]))).append (hzs.mono G1.le);simpa using this
  .rintro e w3 ⟨v,E3,rfl,hR3,_,G3⟩;obtain⟨⟨hL3,_⟩,ht3⟩:=hR3.rI.sa H.length _ (.loop rf) t hHf V ⟨rfl,rfl⟩;obtain⟨hR4,G4⟩:=hR3.ik (r':={rf with state:=.exhausted}) hHf V;have hend:=run_endLoop (P:=P) hL3 hbusy;have G:=(G1.trans G3).trans G4;have hn:B<=E.n:=by rw[hs.heap.n];exact hs.base
   have hD:(w3.putObj (w.heap.size+1) (.loop {rf with state:=.exhausted})).heap[w.heap.size]?=some (.deferred (some [])):=by
    rw[World.putObj_heap_other ah];exact(G3.frame _ ah (hR1.free hK1)).trans hK1
   have h4:je B m (w3.putObj (w.heap.size+1) (.loop {rf with state:=.exhausted})) E3 ⟨t,Hf.set H.length (r8 (w.heap.size+1) {rf with state:=.exhausted} t)⟩ {a with defers:=[uo w.heap.size]++a.defers}:=by
    refine⟨hR4,hs.tmps.mono G.le,⟨⟨w.heap.size,rfl,hm,hD,?_⟩,hs.defers.grow hs.heap G⟩,ak hB⟩;intro hmem
    have key:∀{ds:List Deferred},Marks m w ds->uo w.heap.size∉ds:=by
     intro ds
     induction ds with
     |nil=>intro _ h;cases h
     |cons d ds ih=>
      rintro⟨⟨D,h1,_,h3,_⟩,ht⟩ h;rcases gS.1 h with h5|h5
      .rw[h1]at h5;have:w.heap.size=D:=by simpa [uo] using h5
       have:=(db.1 h3).1;omega
      .exact ih ht h5
    exact key hs.defers hmem
   have:=hQ _ _ _ h4 (G.sB hn);refine⟨rf.pending,_,hend,?_⟩;exact cQ
def Cg:Option Code->Exit->Prop
 |none,.normal=>True
 |some .ret,.ret=>True
 |some (.exit i),.exit j=>i=j
 |_,_=>False
def qb.rangeFunc{P:Program}{g:Operand}{ps:Array Tmp}{assign body:Code}{B:Nat}{H:zf}{t:List C}{f:FuncId}{caps:List C}{R:Exit->S->Prop}(hg:ev t g=.fn f [] caps)(hcb:zC P f=true)
 (hit:∀(l:Nat) (r:Loop),r.state=.ready->r.pending=none->r.params=ps->r.assign=assign->r.body=body->
   ∃(rr:C) (Hf:zf) (rf:Loop) (ex:Exit) (s':S),zb P f (H++[r8 l r t]) (.v (.func (.yield l) #[] #[])::caps) rr Hf/\Hf[H.length]?=some (r8 l rf t)/\rf.state≠.busy/\rf.tmps=r.tmps/\B<=Hf.length/\Cg rf.pending ex/\
    zm B ⟨t,Hf.set H.length (r8 l {rf with state:=.exhausted} t)⟩ s'/\R ex s'):qb P B (.rangeFunc g ps assign body) ⟨t,H⟩ R:=λq m w E a Q hr hs hq=>by
 obtain rfl:=hr V;refine FF hs hg hcb λl r h1 h2 h3 h4 h5=>?_
 obtain⟨rr,Hf,rf,ex,s',a1,a2,a3,a4,a5,a6,a7,a8⟩:=hit l r h1 h2 h3 h4 h5;refine⟨rr,Hf,rf,a1,a2,a3,a4,a5,λw' E' a' hs' g'=>?_⟩;obtain⟨E2,hs2,g2⟩:=a7 m w' E' a' hs';have hq':=hq ex s' w' E2 a' a8 hs2 (g'.trans g2);generalize rf.pending=pe at a6
 match pe,ex,a6 with
 |none,.normal,_=>exact hq'
 |some .ret,.ret,_=>exact wpIn_ret hq'
 |some (.exit i),.exit j,h=>cases h;exact wpIn_exit hq'
def A5(o:Oper):Option TypeId:=match o.op with
 |.makeMap t r=>match r with
  |none=>some t
  |some _=>none
 |_=>none
def HV(P:Program)(t:TypeId):Bool:=match P.underlying t with
 |some (.map _ e)=>match P.underlying e with
  |some (.int _)=>false
  |some .bool=>false
  |some .string=>false
  |_=>true
 |_=>false
noncomputable def hasC(H:zf):Bool:=List.rec (motive:=λ_=>Bool) false (λob _ next=>match ob with
 |⟨kind,_,sz,_,fz⟩=>match kind with
  |4=>match sz with
   |2=>match fz with
    |1=>true
    |_=>next
   |_=>next
  |_=>next) H
noncomputable def mapRel(H:zf)(ρ:Operand->C)(o:Oper):Bool:=match o.op with
 |.range _ _=>true
 |.next _ _=>true
 |.entry _=>true
 |.insert _ _ _ _=>true
 |.mapUpdate _ _ _ _=>hasC H
 |.call cl=>match cl.callee with
  |.builtin b=>match b with
   |.delete=>true
   |.append=>match cl.args.toList with
    |x::_=>match ρ x with
     |.gl _ _ _=>hasC H
     |.rG _ sz _=>match sz with
      |99=>true
      |_=>false
     |_=>false
    |[]=>false
   |_=>false
  |_=>false
 |_=>false
def I4(P:Program)(t:TypeId):Bool:=
 match P.underlying t with
 |some (.pointer _)=>true
 |some (.map _ _)=>true
 |some (.tuple es)=>match es.toList with
  |u::_=>match P.underlying u with
   |some (.pointer _)=>true
   |_=>false
  |[]=>false
 |_=>false
def Ci(P:Program)(ρ:Operand->C)(o:Oper):Option (FuncId×List C):=
 match o.op with
 |.call cl=>match cl.callee with
  |.value x=>match ρ x with
   |.fn f first caps=>match zC P f with
    |true=>some (f,first++(cl.args.toList.map λx=>rX (ρ x))++caps)
    |false=>none
   |_=>none
  |_=>none
 |_=>none
def nq(P:Program)(ρ:Operand->C)(o:Oper):Option (FuncId×List C):=
 match I4 P o.type with
 |true=>Ci P ρ o
 |false=>none
def qz.call(h:nq P ρ o=some (f,args))(hs:ql P f H args R):qz P o ρ H R:=λw E σ hh hl _ K hk=>by
 unfold nq at h;split at h
 rotate_left
 .cases h
 unfold Ci at h;split at h
 rotate_left
 .cases h
 rename_i cl ho;split at h
 rotate_left
 .cases h
 rename_i x hcl;split at h
 rotate_left
 .cases h
 rename_i f' first caps hf;split at h
 rotate_left
 .cases h
 rename_i hcb;cases h
 have hl:∀x∈o.op.operands,L E (Ab.rX (ρ x)) (σ x):=λx hx=>wj (hl x hx)
 have h0:=hl x bt;rw[hf]at h0;have h0:L E (.fn f first caps) (σ x):=h0
 obtain⟨ys,zs,hv,h1,h2,h3,h4⟩:∃ys zs,σ x=.func (.func f) ys zs/\first.length=ys.size/\caps.length=zs.size/\(∀(i:Nat) c y,first[i]?=some c->ys[i]?=some y->L E c y)/\(∀(i:Nat) c y,caps[i]?=some c->zs[i]?=some y->L E c y):=by
  generalize σ x=u at *;cases h0 with
  |fn f first caps ys zs h1 h2 h3 h4=>exact⟨ys,zs,rfl,h1,h2,h3,h4⟩
 unfold zC at hcb;split at hcb
 rotate_left
 .cases hcb
 rename_i fn hfn;simp only[c9,dG]at hcb;have hname : fn.name ≠ "runtime.NumGoroutine" := by simpa using hcb.1
 have hbody:fn.body≠none:=bu
 have hr:(execOp σ o).run P w=.ok (.enter f (ys++cl.args.map σ++zs)) w:=by
  unfold execOp;simp[ho,resolve,hcl,hv,Deferred.ofValue,invoke,callFunc,hfn,hname,hbody]
 rw[hr];refine(hs w E (ys++cl.args.map σ++zs) hh ?_).mono ?_
 .have e1:LL E first ys.toList:=⟨ak h1,λi c y e1 e2=>h3 i c y e1 uS⟩;have e2:LL E caps zs.toList:=⟨ak h2,λi c y e1 e2=>h4 i c y e1 uS⟩
  have e3:LL E (cl.args.toList.map λx=>Ab.rX (ρ x)) (cl.args.map σ).toList:=by
   refine⟨aj,?_⟩;intro i c y hc hy;rw[cX]at hc;rw[pO,cX]at hy;cases ha:cl.args.toList[i]? with
   |none=>rw[ha]at hc;cases hc
   |some a=>
    rw[ha]at hc hy;cases hc
    cases hy
    exact cM
  have:=(e1.append e3).append e2;simpa using this
 .rintro e w' ⟨c,H',v,E',hR,rfl,h5,h6,h7⟩;exact⟨v,rfl,hk c H' v w' E' hR h5 h6 h7⟩
def nJ(o:Oper):Option (BinOp×TypeId×Operand):=
 match o.op with
 |.binOp op t x y _=>match y with
  |.const v=>match v with
   |.nilFunc=>some (op,t,x)
   |_=>none
  |_=>none
 |_=>none
def mY(x:C):Option Bool:=
 match x with
 |.fn ..=>some false
 |.v y=>match y with
  |.nilFunc=>some true
  |_=>none
 |_=>none
def oo{x:C}(h:mY x=some b):∀E u,L E x u->(b=true/\u=.nilFunc)\/(b=false/\∃f ys zs,u=.func f ys zs):=by
 intro E u hl;unfold mY at h;split at h
 .cases h;cases hl;exact .inr ⟨rfl,_,_,_,rfl⟩
 .split at h
  .cases h;cases hl;exact .inl ⟨rfl,rfl⟩
  .cases h
 .cases h
def ei(P:Program)(t:TypeId):Bool:=
 match P.underlying t with
 |some (.func ..)=>true
 |_=>false
def lp(P:Program)(H:zf)(op:BinOp)(t:TypeId)(x:C)(K:C->zf->Prop):Prop:=
 match mY x with
 |some b=>match op with
  |.eql=>bK (ei P t) <|K (.v (.bool b)) H
  |.neq=>bK (ei P t) <|K (.v (.bool (!b))) H
  |_=>False
 |none=>False
def D4(w:World)(d:Nat)(t:TypeId)(ht:ei P t=true)(y:Value)(n:Bool)(hy:(n=true/\y=.nilFunc)\/(n=false/\∃f xs ys,y=.func f xs ys)):(Op.equalIn (d+1) t y .nilFunc).run P w=.ok n w:=by
 unfold ei at ht;split at ht
 rotate_left
 .cases ht
 rename_i a b c hu;rcases hy with⟨rfl,rfl⟩|⟨rfl,f,xs,ys,rfl⟩ <;> simp[Op.equalIn,run_underlying hu]
def FT(w:World)(t:TypeId)(ht:ei P t=true)(y:Value)(n:Bool)(hy:(n=true/\y=.nilFunc)\/(n=false/\∃f xs ys,y=.func f xs ys)):(Op.equal t y .nilFunc).run P w=.ok n w:=D4 w 9999 t ht y n hy
def wg.B3(op:BinOp)(t t':TypeId)(x:Operand)(ho:o.op=.binOp op t x (.const .nilFunc) t')(hop:op=.eql\/op=.neq)(ht:ei P t=true)(b:Bool)
 (hx:∀E u,L E (ρ x) u->(b=true/\u=.nilFunc)\/(b=false/\∃f ys zs,u=.func f ys zs)):wg P o ρ H (.v (.bool (if op=.eql then b else !b))) H:=λw E σ hh hl hc K hk=>by
 have hv:=hx E _ (hl x uR);have he:=FT w t ht _ _ hv
 have hr:(execOp σ o).run P w=.ok (.value (.bool (if op=.eql then b else !b))) w:=by
  unfold execOp;rcases hv with⟨rfl,hv⟩|⟨rfl,f,ys,zs,hv⟩ <;> rw[hv]at he <;> rcases hop with rfl|rfl <;> simp[ho,hv,hc,eqGuard,binOp,he]
 rw[hr];exact hk _ w E hh (.v _ V) (Grow.refl w E H)
def G0{K:C->zf->Prop}(ho:nJ o=some (op,t,x))(h:lp P H op t (ρ x) K):∃c,wg P o ρ H c H/\K c H:=by
 obtain⟨t',ho⟩:∃t',o.op=.binOp op t x (.const .nilFunc) t':=by
  unfold nJ at ho;split at ho
  .rename_i h1;split at ho
   .split at ho
    .cases ho;exact⟨_,h1⟩
    .cases ho
   .cases ho
  .cases ho
 unfold lp at h;split at h
 .rename_i b hb;split at h
  .exact⟨_,.B3 .eql t t' x ho (.inl V) (zA h).1 b (oo hb),(zA h).2⟩
  .exact⟨_,.B3 .neq t t' x ho (.inr V) (zA h).1 b (oo hb),(zA h).2⟩
  .exact bX
 .exact bX
def fX(P:Program)(H:zf)(ρ:Operand->C)(o:Oper)(K:C->zf->Prop):Prop:=
 match nv o with
 |some (op,ty,x)=>nO P H op ty (ρ x) K
 |none=>match np o with
  |some (op,ty,x)=>nQ P H op ty (ρ x) K
  |none=>match nJ o with
  |some (op,ty,x)=>lp P H op ty (ρ x) K
  |none=>match nq P ρ o with
  |some (f,args)=>∃R,ql P f H args R/\∀r H',R r H'->K r H'
  |none=>match mapRel H ρ o with
   |true=>qz P o ρ H K
   |false=>match A5 o with
    |some t=>match HV P t with
     |true=>∀b:Nat,qM (H++[e7 b [] 0 []]) λH'=>K (.v (.map (some b))) H'
     |false=>∀b:Nat,qM (H++[sK b #[] 0]) λH'=>K (.v (.map (some b))) H'
    |none=>vp P H ρ o K
def mi{K:C->zf->Prop}(h:fX P H ρ o K):qz P o ρ H K:=by
 unfold fX at h;split at h
 .rename_i op ty x hn;exact Gc hn h
 .split at h
  .rename_i op ty x hn;obtain⟨c,h1,h2⟩:=Gq hn h;exact h1.sX h2
  split at h
  .rename_i op ty x hn;obtain⟨c,h1,h2⟩:=G0 hn h;exact h1.sX h2
  .split at h
   .rename_i f args hn;obtain⟨R,h1,h2⟩:=h;exact qz.call hn (λw E vs hh hl=>(h1 w E vs hh hl).mono λe w' ⟨r,H',v,E',hR,h3⟩=>⟨r,H',v,E',h2 r H' hR,h3⟩)
   split at h
   .exact h
   split at h
   .rename_i t hm
    have ho:o.op=.makeMap t none:=by
     unfold A5 at hm;split at hm
     .rename_i ho;split at hm
      .cases hm;exact ho
      .cases hm
     .cases hm
    split at h
    .exact .Hd t ho λb=>qa (h b)
    .exact .makeMap t ho λb=>qa (h b)
   .obtain⟨c,H',h1,h2⟩:=k8 h;exact h1.sX h2
def fW(P:Program)(ops:Array Oper)(o:Oper)(next:List C->zf->(List C->zf->Prop)->Prop)(t:List C)(H:zf)(K:List C->zf->Prop):Prop:=
 match qt ops t o with
 |some true=>fX P H (ev t) o λc H'=>wT t o.dst c λt=>next t H' K
 |some false=>wT t o.dst .un λt=>next t H K
 |none=>False
def sZ(P:Program)(ops:Array Oper)(l:List Oper):List C->zf->(List C->zf->Prop)->Prop:=
 List.rec (motive:=λ_=>List C->zf->(List C->zf->Prop)->Prop) (λt H K=>K t H) (λo _ next=>fW P ops o next) l
theorem Au(P:Program)(ops:Array Oper)(o:Oper)(l:List Oper)(t:List C)(H:zf)(K:List C->zf->Prop):sZ P ops (o::l) t H K=fW P ops o (sZ P ops l) t H K:=rfl
section
variable {P:Program} {B:Nat} {ops:Array Oper}
def lD:∀{l:List Oper} {t:List C} {H:zf} {K:List C->zf->Prop},sZ P ops l t H K->x2 P B ops l ⟨t,H⟩ λs'=>K s'.tmps s'.H
 |[],t,H,K,h=>.nil h
 |o::l,t,H,K,h=>by
  rw[Au]at h;unfold fW at h;split at h
  .rename_i hw;refine .run (s:=⟨t,H⟩) hw (.ic (s:=⟨t,H⟩) (mi h)) ?_;rintro s1 ⟨c,H',h1,rfl⟩;exact lD (qx (k:=λt=>sZ P ops l t H' K) h1)
  .rename_i hw;exact .pass (s:=⟨t,H⟩) hw (lD (qx (k:=λt=>sZ P ops l t H K) h))
  .exact bX
abbrev WK:=List C->zf->(Exit->List C->zf->Prop)->Prop
def I5(x y:WK):WK:=λt H K=>x t H λex t H=>match ex with
 |.normal=>y t H K
 |ex=>K ex t H
def IB(id:Nat)(c:WK):WK:=λt H K=>c t H λex t H=>match ex with
 |.exit id'=>if id'=id then K .normal t H else K (.exit id') t H
 |ex=>K ex t H
def nB(c:Operand)(x y:WK):WK:=λt H K=>match ev t c with
 |.v (.bool b)=>match b with
  |true=>x t H K
  |false=>y t H K
 |_=>False
noncomputable def readyB(all:List Bool)(ops:List Oper):List Bool->Nat->List Nat:=
 List.rec (motive:=λ_=>List Bool->Nat->List Nat) (λ_ _=>[]) (λo _ ih bs k=>match bs with
  |[]=>[]
  |b::bs=>match b with
   |true=>ih bs (k+1)
   |false=>match o.after.toList.all (λe=>!Region.binds .any e || all.getD e.on false) with
    |true=>k::ih bs (k+1)
    |false=>ih bs (k+1)) ops
noncomputable def bothK(f:Nat->Prop)(l:List Nat):Prop:=List.rec (motive:=λ_=>Prop) True (λi _ ih=>f i/\ih) l
structure sI where
 bl:List Nat:=[]
 keep:List Nat:=[]
 flat:Bool:=false
def XC(T:sI)(H0 H:zf):Prop:=xG T.keep H0 H/\(T.flat=true->jf H=true)
noncomputable def pickE(bl:List Nat)(ops:Array Oper)(t:List C)(l:List Nat):Option Nat:=
 List.rec (motive:=λ_=>Option Nat) none (λi _ ih=>match ops[i]? with
  |some o=>match qY o || tg bl i with
   |true=>some i
   |false=>match qt ops t o with
    |some b=>match b with
     |true=>ih
     |false=>some i
    |none=>ih
  |none=>ih) l
def mZ(P:Program)(T:sI)(H:zf)(ρ:Operand->C)(o:Oper)(K:C->zf->Prop):Prop:=
 match o.op with
 |.call cl=>match cl.callee with
  |.value x=>match ρ x with
   |.fn f first caps=>bK (zC P f) <| ∃r,(∀H2,XC T H H2->zb P f H2 (first++(cl.args.toList.map λx=>rX (ρ x))++caps) r H2)/\okB r λr=>K r H
   |_=>False
  |_=>False
 |_=>ix P T.keep H ρ o K
def lu(P:Program)(T:sI)(ops:Array Oper)(o:Oper)(k:Nat)(next:List C->zf->(List C->zf->Prop)->Prop)(t:List C)(H:zf)(K:List C->zf->Prop):Prop:=
 match qt ops t o with
 |some true=>match tg T.bl k with
  |true=>mZ P T H (ev t) o λc H'=>wT t o.dst c λt=>next t H' K
  |false=>match qY o with
   |true=>vp P H (ev t) o λc H'=>wT t o.dst c λt=>next t H' K
   |false=>False
 |some false=>wT t o.dst .un λt=>next t H K
 |none=>False
def nE(T:sI)(H H':zf)(k:Prop):Prop:=match T.flat with
 |true=>jf H'=true/\fF H H' k T.keep
 |false=>fF H H' k T.keep
def lx(P:Program)(T:sI)(ops:Array Oper)(o:Oper)(next:List C->zf->(List C->zf->Prop)->Prop)(t:List C)(H:zf)(K:List C->zf->Prop):Prop:=
 match qt ops t o with
 |some true=>match fC o with
  |true=>vp P H (ev t) o λc H'=>wT t o.dst c λt=>next t H' K
  |false=>fX P H (ev t) o λc H'=>nE T H H' (wT t o.dst c λt=>next t H' K)
 |some false=>wT t o.dst .un λt=>next t H K
 |none=>False
noncomputable def bruteK(P:Program)(T:sI)(ops:Array Oper)(n:Nat):List Bool->List C->zf->(List C->zf->Prop)->Prop:=
 Nat.rec (motive:=λ_=>List Bool->List C->zf->(List C->zf->Prop)->Prop)
  (λlisted t H K=>match readyB listed ops.toList listed 0 with
   |[]=>K t H
   |_::_=>False)
  (λ_ ih listed t H K=>match readyB listed ops.toList listed 0 with
   |[]=>K t H
   |i::is=>match pickE T.bl ops t (i::is) with
    |some i=>match ops[i]? with
     |some o=>lu P T ops o i (λt H K=>ih (listed.set i true) t H K) t H K
     |none=>False
    |none=>bothK (λi=>match ops[i]? with
     |some o=>lx P T ops o (λt H K=>ih (listed.set i true) t H K) t H K
     |none=>False) (i::is)) n
def BO(md:Region.Mode)(ops:Array Oper)(ms:List Nat):Bool:=
 (List.range ops.size).all λi=>(List.range ops.size).all λj=>Nat.beq j i || te md ops ms i j || match ops[i]?,ops[j]? with
  |some oi,some oj=>(oj.after.any λe=>Region.binds md e && e.on == i) || oi.apart ops oj
  |_,_=>true
def yK(md:Region.Mode)(ops:Array Oper):Bool:=BO md ops (yX md ops)
noncomputable def regionK(P:Program)(B:Nat)(ops:Array Oper)(draw:Bool):WK:=λt H K=>match draw with
 |false=>sZ P ops ops.toList t H λt H=>K .normal t H
 |true=>(∃T:vt,(P.follows .mixedOrders && Region.lexB .any ops && eL .any T ops)=true/\wQ P T ops ops.toList 0 t H λt H=>K .normal t H)\/
  ∃T:sI,(P.follows .mixedOrders && yK .any ops)=true/\(T.flat=true->jf H=true)/\∃R:List C->zf->Prop,bruteK P T ops ops.size (ops.toList.map λ_=>false) t H (λt1 H1=>∃t2 H2,zm B ⟨t1,H1⟩ ⟨t2,H2⟩/\R t2 H2)/\∀t2 H2,R t2 H2->K .normal t2 H2
def Ak{all:List Bool}:∀{os:List Oper} {bs:List Bool} {k i:Nat},i∈readyB all os bs k↔∃j o,i=k+j/\os[j]?=some o/\bs[j]?=some false/\o.after.toList.all (λe=>!Region.binds .any e || all.getD e.on false)=true
 |[],bs,k,i=>by simp[readyB]
 |o::os,[],k,i=>by
  have e:readyB all (o::os) [] k=[]:=rfl;rw[e];simp
 |o::os,b::bs,k,i=>by
  have e:readyB all (o::os) (b::bs) k=match b with
   |true=>readyB all os bs (k+1)
   |false=>match o.after.toList.all (λe=>!Region.binds .any e || all.getD e.on false) with
    |true=>k::readyB all os bs (k+1)
    |false=>readyB all os bs (k+1):=rfl
  have ih:=Ak (all:=all) (os:=os) (bs:=bs) (k:=k+1) (i:=i)
  have split:(∃j o',i=k+j/\(o::os)[j]?=some o'/\(b::bs)[j]?=some false/\o'.after.toList.all (λe=>!Region.binds .any e || all.getD e.on false)=true)↔
    (i=k/\b=false/\o.after.toList.all (λe=>!Region.binds .any e || all.getD e.on false)=true)\/i∈readyB all os bs (k+1):=by
   rw[ih];constructor
   .rintro⟨j,o',h1,h2,h3,h4⟩;cases j with
    |zero=>simp at h2 h3;subst h2;exact .inl ⟨ah,h3,h4⟩
    |succ j=>exact .inr ⟨j,o',ah,ak h2,ak h3,h4⟩
   .rintro(⟨h1,h2,h3⟩|⟨j,o',h1,h2,h3,h4⟩)
    .exact⟨0,o,ah,rfl,bz,h3⟩
    .exact⟨j+1,o',ah,ak h2,ak h3,h4⟩
  rw[split,e];cases b with
  |true=>simp
  |false=>
   dsimp only;split
   .rename_i h;rw[h];simp only[gS,and_true]
   .rename_i h;rw[h];simp only[rh,and_false,false_or]
def wU(hl:listed.size=ops.size)(i:Nat):i∈Region.ready .any ops listed↔i∈readyB listed.toList ops.toList listed.toList 0:=by
 rw[Ak];unfold Region.ready;rw[List.mem_filter,gG]
 have zF:∀o:Oper,o.after.toList.all (λe=>!Region.binds .any e || listed.toList.getD e.on false)=o.after.all (λe=>!Region.binds .any e || listed.getD e.on false):=λo=>by
  rw[<-gV]
  congr 1
  funext e
  rw[rj,dw,dE]
 constructor
 .rintro⟨h1,h2⟩;rw[c9]at h2;obtain⟨h2,h3⟩:=h2;obtain⟨o,ho⟩:∃o,ops[i]?=some o:=⟨ops[i],bw⟩;rw[ho]at h3;simp only[dc,dL]at h3;refine⟨i,o,ah,by rw[dw];exact ho,?_,by rw[zF];exact h3⟩;rw[dw];rw[dE,gz ah]at h2;simp only[dL]at h2;rw[gz ah];simpa using h2
 .rintro⟨j,o,h1,h2,h3,h4⟩;obtain rfl:i=j:=by omega
  rw[dw]at h2 h3;have rF:=(db.1 h2).1;refine⟨rF,?_⟩;rw[c9];rw[zF]at h4;refine⟨?_,by rw[h2];simpa using h4⟩;rw[dE,h3]
  rfl
def AG{f:Nat->Prop}:∀{l:List Nat},bothK f l->∀i∈l,f i
 |[],_,i,hi=>by cases hi
 |j::l,h,i,hi=>by
  have h:f j/\bothK f l:=h;rcases gS.1 hi with rfl|hi
  .exact h.1
  .exact AG h.2 i hi
def qz.I3{tmps:List C}{x:C}(h:∀d,dst=some d->d∉o.looksAt ops)(h':qz P o (ev (put tmps dst x)) H R):qz P o (ev tmps) H R:=
 λw E σ hh hl hc K hk=>h' w E σ hh (λy hy=>by rw[mR (mc h y hy)];exact hl y hy) hc K hk
def qz.nu{R':C->zf->Prop}(hR:∀c H',R c H'->R' c H')(h:qz P o ρ H R):qz P o ρ H R':=
 λw E σ hh hl hc K hk=>h w E σ hh hl hc K λc H' v w' E' h1=>hk c H' v w' E' (hR c H' h1)
def tw(P:Program)(ops:Array Oper)(X:zf->Prop)(i:Nat)(K:S->Prop)(s:S):Prop:=
 match ops[i]? with
 |none=>K s
 |some o=>(qt ops s.tmps o=some true/\qz P o (ev s.tmps) s.H λc H'=>X H'/\K ⟨put s.tmps o.dst c,H'⟩)\/(qt ops s.tmps o=some false/\K ⟨put s.tmps o.dst .un,s.H⟩)
def FC{K K':S->Prop}(hX:X s.H)(h:∀s,X s.H->K s->K' s)(hh:tw P ops X i K s):tw P ops X i K' s:=by
 unfold tw at *;split
 .exact h _ hX (by simpa [*] using hh)
 .rename_i o ho;simp only[ho]at hh;rcases hh with⟨h1,h2⟩|⟨h1,h2⟩
  .exact .inl ⟨h1,h2.nu λc H' ⟨h3,h4⟩=>⟨h3,h _ h3 h4⟩⟩
  .exact .inr ⟨h1,h _ hX h2⟩
def u6(P:Program)(md:Region.Mode)(ops:Array Oper)(X:zf->Prop)(Q:S->Prop):Nat->Array Bool->S->Prop
 |0,listed,s=>Region.ready md ops listed=[]/\Q s
 |fuel+1,listed,s=>(Region.ready md ops listed=[]->Q s)/\∀i∈Region.ready md ops listed,tw P ops X i (u6 P md ops X Q fuel (listed.setIfInBounds i true)) s
def xx{P:Program}{B:Nat}{ops:Array Oper}{md:Region.Mode}{X:zf->Prop}{q:Option Nat}{m:Nat}{H0:zf}{Q:S->Prop}{w0:World}{E0:Env}{Q':Exit->Act->World->Prop}(hQ:∀s w E a,Q s->je B m w E s a->qq B w0 E0 H0 w E s.H->Q' .normal a w):
  ∀(fuel:Nat) (listed:Array Bool) (s:S) (w:World) (E:Env) (a:Act),je B m w E s a->qq B w0 E0 H0 w E s.H->u6 P md ops X Q fuel listed s->wpAnyIn (fw q) 0 P md ops Q' fuel listed a w
 |0,_,s,w,E,a,hs,hg,h=>⟨h.1,hQ s w E a h.2 hs hg⟩
 |fuel+1,listed,s,w,E,a,hs,hg,h=>⟨λh0=>hQ s w E a (h.1 h0) hs hg,λi hi=>by
   have h1:=h.2 i hi;unfold tw at h1;unfold wpOpIn;split
   .rename_i ho;simp only[ho]at h1;exact xx hQ fuel _ s w E a hs hg h1
   .rename_i o ho;simp only[ho]at h1;rcases h1 with⟨hw,hv⟩|⟨hw,hK⟩
    .rw[c7 (qA hs.tmps hw)];refine kB.ic (s:=s) hv q m w E a _ Q' hs λs' w' E' a' hR h2 g2=>?_
     obtain⟨c,H',⟨_,h3⟩,rfl⟩:=hR;exact xx hQ fuel _ _ w' E' a' h2 (hg.trans g2) h3
    .rw[c6 bj];exact⟨λ_ _=>trivial,xx hQ fuel _ ⟨put s.tmps o.dst .un,s.H⟩ w E _ (hs.put .un o.dst) hg hK⟩⟩
def FD{oj:Oper}{c:C}(hj:ops[j]?=some oj)(hap:oi.apart ops oj=true){K:S->Prop}(hy:YA P ops X oi c s.tmps)
 (h:tw P ops X j K ⟨put s.tmps oi.dst c,s.H⟩):tw P ops X j (λs'=>YA P ops X oi c s'.tmps/\K ⟨put s'.tmps oi.dst c,s'.H⟩) s:=by
 obtain⟨h1,h2,h3⟩:=Oper.apart_spec hap;unfold tw at *;simp only[hj] at *;rcases h with⟨hw,hv⟩|⟨hw,hK⟩
 .refine .inl ⟨(jU h1) ▸ hw,(hv.nu λc' H' ⟨h4,h5⟩=>⟨h4,(YA.put h3).2 hy,?_⟩).I3 h1⟩;rw[put_comm _ _ h2]at h5;exact h5
 .refine .inr ⟨(jU h1) ▸ hw,(YA.put h3).2 hy,?_⟩;rw[put_comm _ _ h2]at hK;exact hK
def Fp{Q:S->Prop}{c:C}(hi:ops[i]?=some oi):
  ∀(fuel:Nat) (listed:Array Bool) (s:S),X s.H->
   (∀j oj,ops[j]?=some oj->j≠i->listed.getD j true=false->(∀e∈oj.after,Region.binds md e=true->e.on≠i)->oi.apart ops oj=true)->
   i∈Region.ready md ops listed->YA P ops X oi c s.tmps->
   u6 P md ops X Q fuel (listed.setIfInBounds i true) ⟨put s.tmps oi.dst c,s.H⟩->u6 P md ops X Q (fuel+1) listed s:=by
 have here:∀(s:S) (K:S->Prop),X s.H->YA P ops X oi c s.tmps->K ⟨put s.tmps oi.dst c,s.H⟩->tw P ops X i K s:=λs K hX hy hK=>by
  unfold tw;simp only[hi];rcases hy with⟨h1,h2⟩|⟨h1,rfl⟩
  .exact .inl ⟨h1,(h2 s.H hX).sX ⟨hX,hK⟩⟩
  .exact .inr ⟨h1,hK⟩
 intro fuel
 induction fuel with
 |zero=>
  intro listed s hX _ hr hy H;refine⟨λh=>bk,λj hj=>?_⟩;by_cases hji:j=i
  .subst hji;exact here s _ hX hy H
  .have:=ready_mono hj hji;rw[H.1]at this;cases this
 |succ fuel ih=>
  intro listed s hX hfree hr hy H;refine⟨λh=>bk,λj hj=>?_⟩;by_cases hji:j=i
  .subst hji;exact here s _ hX hy H
  .have h1:=H.2 j (ready_mono hj hji);obtain⟨hjun,oj,hoj,zF⟩:=mem_ready.1 hj
   have hnot:∀e∈oj.after,Region.binds md e=true->e.on≠i:=λe he hb heq=>by
    have h1:=zF e he hb;have h0:=(mem_ready.1 hr).1;rw[heq]at h1;rcases pD i listed.size with h'|h'
    .simp[h']at h0 h1;rw[h0]at h1;cases h1
    .simp[gO h']at h1
   have hap:=hfree j oj hoj hji hjun hnot;have h2:=FD hoj hap hy h1
   have hfree':∀k ok,ops[k]?=some ok->k≠i->(listed.setIfInBounds j true).getD k true=false->
     (∀e∈ok.after,Region.binds md e=true->e.on≠i)->oi.apart ops ok=true:=λk ok hk hki hun hno=>by
    refine hfree k ok hk hki ?_ hno;by_cases hjk:j=k
    .subst hjk;exact hjun
    .rw[getD_set_ne true hjk]at hun;exact hun
   refine FC hX (λs' hX' ⟨h3,h4⟩=>ih (listed.setIfInBounds j true) s' hX' hfree' (ready_mono hr (Ne.symm hji)) h3 ?_) h2;rw[pE _ _ hji];exact h4
def Dg(h:yK md ops=true){oj:Oper}(hi:ops[i]?=some oi)(hj:ops[j]?=some oj)(hne:j≠i)(hd:te md ops (yX md ops) i j=false)
 (hno:∀e∈oj.after,Region.binds md e=true->e.on≠i):oi.apart ops oj=true:=by
 simp only[yK,BO,c8,gG]at h;have h1:=h i (db.1 hi).1 j (db.1 hj).1
 have hb:Nat.beq j i=false:=by
  cases hb:Nat.beq j i with
  |false=>rfl
  |true=>exact absurd (pQ hb) hne
 simp only[hb,hd,gD,hi,hj,gf]at h1;rcases h1 with h1|h1
 .obtain⟨e,hem,hb⟩:=Array.any_eq_true'.1 h1;simp only[c9,dH]at hb;exact absurd hb.2 (hno e hem hb.1)
 .exact h1
def XC.trans{T:sI}{H H' H'':zf}(h:XC T H H')(h':XC T H' H''):XC T H H'':=⟨h.1.trans h'.1,h'.2⟩
def XC.back{T:sI}{H'':zf}(h:XC T H H')(h':XC T H H''):XC T H' H'':=⟨λid hi=>(h'.1 id hi).trans (h.1 id hi).symm,h'.2⟩
def EE{T:sI}{K:C->zf->Prop}(h:mZ P T H ρ o K):∃c,(∀H2,XC T H H2->rQ P o ρ H2 c H2)/\K c H:=by
 unfold mZ at h;split at h
 .rename_i cl ho;split at h
  .rename_i x hcl;split at h
   .rename_i f first caps hf;obtain⟨h1,r,h2,h3⟩:=zA h;exact⟨r,λH2 hx=>.nA cl ho x hcl hf h1 (h2 H2 hx),qh (k:=λc=>K c H) h3⟩
   .exact bX
  .exact bX
 .obtain⟨c,h1,h2⟩:=ov h;exact⟨c,λH2 hx=>h1 H2 hx.1,h2⟩
def FX{T:sI}{H0:zf}{k:Prop}(hX:XC T H0 H)(h:nE T H H' k):XC T H0 H'/\k:=by
 unfold nE at h;split at h
 .obtain⟨h1,h2⟩:=vf h.2;exact⟨⟨hX.1.trans h1,λ_=>h.1⟩,h2⟩
 .rename_i hf;obtain⟨h1,h2⟩:=vf h;exact⟨⟨hX.1.trans h1,λh=>by rw[hf]at h;cases h⟩,h2⟩
def kl{bl:List Nat}{ops:Array Oper}{t:List C}:∀{l:List Nat} {i:Nat},pickE bl ops t l=some i->i∈l
 |[],i,h=>by cases h
 |j::l,i,h=>by
  have h:(match ops[j]? with
   |some o=>match qY o || tg bl j with
    |true=>some j
    |false=>match qt ops t o with
     |some b=>match b with
      |true=>pickE bl ops t l
      |false=>some j
     |none=>pickE bl ops t l
   |none=>pickE bl ops t l)=some i:=h
  split at h
  .split at h
   .cases h;exact gm ..
   .split at h
    .split at h
     .exact dV _ (kl h)
     .cases h;exact gm ..
    .exact dV _ (kl h)
  .exact dV _ (kl h)
def kN{T:sI}{ops:Array Oper}{H0:zf}{K:List C->zf->Prop}(hap:yK .any ops=true):
  ∀(fuel:Nat) (listed:Array Bool) (t:List C) (H:zf),Down .any ops listed->listed.size=ops.size->XC T H0 H->bruteK P T ops fuel listed.toList t H K->
   u6 P .any ops (XC T H0) (λs=>K s.tmps s.H) fuel listed ⟨t,H⟩
 |0,listed,t,H,hd,hl,hX,h=>by
  have h:match readyB listed.toList ops.toList listed.toList 0 with
   |[]=>K t H
   |_::_=>False:=h
  split at h
  .rename_i hr;refine⟨?_,h⟩;rw[pV];intro i hi;have:=(wU hl i).1 hi;rw[hr]at this;cases this
  .exact bX
 |fuel+1,listed,t,H,hd,hl,hX,h=>by
  have h:match readyB listed.toList ops.toList listed.toList 0 with
   |[]=>K t H
   |i::is=>match pickE T.bl ops t (i::is) with
    |some i=>match ops[i]? with
     |some o=>lu P T ops o i (λt H K=>bruteK P T ops fuel (listed.toList.set i true) t H K) t H K
     |none=>False
    |none=>bothK (λi=>match ops[i]? with
     |some o=>lx P T ops o (λt H K=>bruteK P T ops fuel (listed.toList.set i true) t H K) t H K
     |none=>False) (i::is):=h
  split at h
  .rename_i hr
   have h0:Region.ready .any ops listed=[]:=by
    rw[pV];intro i hi;have:=(wU hl i).1 hi;rw[hr]at this;cases this
   exact⟨λ_=>h,λi hi=>by rw[h0]at hi;cases hi⟩
  .rename_i j js hr;have hset:∀i,(listed.setIfInBounds i true).toList=listed.toList.set i true:=λi=>by simp
   have hsz:∀i,(listed.setIfInBounds i true).size=ops.size:=λi=>by simpa using hl
   split at h
   .rename_i i hp;have hi:i∈Region.ready .any ops listed:=(wU hl i).2 (by rw[hr];exact kl hp);split at h
    rotate_left
    .exact bX
    rename_i o ho
    have go:∀c,YA P ops (XC T H0) o c t->bruteK P T ops fuel (listed.toList.set i true) (put t o.dst c) H K->u6 P .any ops (XC T H0) (λs=>K s.tmps s.H) (fuel+1) listed ⟨t,H⟩:=λc hy hb=>
     Fp ho fuel listed ⟨t,H⟩ hX (λj oj hj hne hun hno=>Dg hap ho hj hne (by
       cases hdp:te .any ops (yX .any ops) i j with
       |false=>rfl
       |true=>
        have h1:=hd.ready hi hdp;rcases pD j listed.size with h'|h'
        .simp[h']at h1 hun;rw[h1]at hun;cases hun
        .simp[gO h']at h1) hno) hi hy
      (kN hap fuel _ _ _ (hd.step hi) (hsz i) hX (by rw[hset];exact hb))
    unfold lu at h;split at h
    .rename_i hw;split at h
     .obtain⟨c,h1,h2⟩:=EE h;exact go c (.inl ⟨hw,λH2 h3=>h1 H2 (hX.back h3)⟩) (qx (k:=λt=>bruteK P T ops fuel (listed.toList.set i true) t H K) h2)
     .split at h
      .rename_i hb;obtain⟨c,h1,h2⟩:=o8 hb h;exact go c (.inl ⟨hw,λH2 _=>h1 H2⟩) (qx (k:=λt=>bruteK P T ops fuel (listed.toList.set i true) t H K) h2)
      .exact bX
    .rename_i hw;exact go .un (.inr ⟨hw,rfl⟩) (qx (k:=λt=>bruteK P T ops fuel (listed.toList.set i true) t H K) h)
    .exact bX
   .have hne:Region.ready .any ops listed≠[]:=λh0=>by
     have:j∈readyB listed.toList ops.toList listed.toList 0:=by rw[hr];exact gm ..
     have:=(wU hl j).2 this;rw[h0]at this;cases this
    refine⟨λh0=>absurd h0 hne,λi hi=>?_⟩;have hi2:=(wU hl i).1 hi;rw[hr]at hi2;have h1:=AG h i hi2;split at h1
    rotate_left
    .exact h1.elim
    rename_i o ho;unfold tw;rw[ho];dsimp only
    have next:∀t' H',XC T H0 H'->bruteK P T ops fuel (listed.toList.set i true) t' H' K->u6 P .any ops (XC T H0) (λs=>K s.tmps s.H) fuel (listed.setIfInBounds i true) ⟨t',H'⟩:=λt' H' hX' hb=>
     kN hap fuel _ _ _ (hd.step hi) (hsz i) hX' (by rw[hset];exact hb)
    unfold lx at h1;split at h1
    .rename_i hw;refine .inl ⟨hw,?_⟩;split at h1
     .rename_i hlo;obtain⟨c,h2,h3⟩:=Ag hlo h1;exact h2.sX ⟨hX,next _ _ hX (qx (k:=λt=>bruteK P T ops fuel (listed.toList.set i true) t H K) h3)⟩
     .refine(mi h1).nu λc H' h2=>?_
      obtain⟨h3,h4⟩:=FX hX h2;exact⟨h3,next _ _ h3 (qx (k:=λt=>bruteK P T ops fuel (listed.toList.set i true) t H' K) h4)⟩
    .rename_i hw;exact .inr ⟨hw,next _ _ hX (qx (k:=λt=>bruteK P T ops fuel (listed.toList.set i true) t H K) h1)⟩
    .exact h1.elim
def qb.Jt{id:Nat}{t:List C}{R:Exit->S->Prop}{R':List C->zf->Prop}{T:sI}(hm:P.follows .mixedOrders=true)(hap:yK .any ops=true)(hf:T.flat=true->jf H=true)
 (h:bruteK P T ops ops.size (ops.toList.map λ_=>false) t H (λt1 H1=>∃t2 H2,zm B ⟨t1,H1⟩ ⟨t2,H2⟩/\R' t2 H2))(hR:∀t2 H2,R' t2 H2->R .normal ⟨t2,H2⟩):qb P B (.region id ops true) ⟨t,H⟩ R:=λq m w E a Q _ hs hq=>by
 refine wpIn_region_any hm (xx (X:=XC T H) (H0:=H) (Q:=λs=>∃t2 H2,zm B s ⟨t2,H2⟩/\R' t2 H2) (w0:=w) (E0:=E) (λs1 w1 E1 a1 he h1 g1=>?_) _ _ ⟨t,H⟩ _ E a hs.drew ((Grow.drew w E H).sB uW) ?_)
 .obtain⟨t2,H2,hw,hR2⟩:=he;obtain⟨E2,h2,g2⟩:=hw m w1 E1 a1 h1;exact hq _ _ w1 E2 a1 (hR t2 H2 hR2) h2 (g1.trans g2)
 .have e:(Array.replicate ops.size false).toList=ops.toList.map λ_=>false:=by
   rw[Array.toList_replicate,List.map_const'];simp
  refine kN (K:=λt1 H1=>∃t2 H2,zm B ⟨t1,H1⟩ ⟨t2,H2⟩/\R' t2 H2) hap _ _ _ _ Down.start aj ⟨.refl _ _,hf⟩ ?_;rw[e];exact h
structure wc(P:Program)(B:Nat)(c:Code)(t:List C)(H:zf)(K:Exit->List C->zf->Prop):Prop where
 out:zp P B c ⟨t,H⟩ λex s=>K ex s.tmps s.H
def JA(P:Program)(B:Nat)(c:Code):WK:=λt H K=>wc P B c t H K
def ng(P:Program)(B:Nat)(g:Operand)(ps:Array Tmp)(assign body:Code):WK:=λt H K=>match ev t g with
 |.fn f first caps=>bK (zC P f && first.isEmpty) <| ∃H0,zm B ⟨t,H⟩ ⟨t,H0⟩/\∃ex t' H',(∀(l:Nat) (r:Loop),r.state=.ready->r.pending=none->r.params=ps->r.assign=assign->r.body=body->
   ∃(rr:C) (Hf:zf) (rf:Loop),zb P f (H0++[r8 l r t]) (.v (.func (.yield l) #[] #[])::caps) rr Hf/\Hf[H0.length]?=some (r8 l rf t)/\rf.state≠.busy/\rf.tmps=r.tmps/\B<=Hf.length/\Cg rf.pending ex/\
    zm B ⟨t,Hf.set H0.length (r8 l {rf with state:=.exhausted} t)⟩ ⟨t',H'⟩)/\K ex t' H'
 |_=>False
structure uu(P:Program)(B:Nat)(c:Code)(l:Nat)(t:List C)(H:zf)(K:Exit->List C->zf->Prop):Prop where
 out:uv P B c (λex s=>K ex s.tmps s.H) l ⟨t,H⟩
def IP(P:Program)(B:Nat)(c:Code)(x:WK):WK:=λt H K=>x t H λex t H=>match ex with
 |.goto l=>uu P B c l t H K
 |ex=>K ex t H
def CL:WK:=λ_ _ _=>False
noncomputable def wpA(P:Program)(B:Nat)(c:Code):WK:=
 Code.rec (motive:=λ_=>WK) (λt H K=>K .normal t H) (λ_ ops draw=>regionK P B ops draw) (λ_ _ x y=>I5 x y) (λc _ _ x y=>nB c x y) (λid _ x=>IB id x) (λc _=>JA P B c)
  (λg ps assign body _ _=>ng P B g ps assign body) (λid t H K=>K (.exit id) t H) (λc x=>IP P B c x) (λ_ t H K=>K .normal t H) (λl t H K=>K (.goto l) t H) (λt H K=>K .ret t H) (λ_=>CL) c
def qD:∀{c:Code} {t:List C} {H:zf} {K:Exit->List C->zf->Prop},wpA P B c t H K->qb P B c ⟨t,H⟩ λex s=>K ex s.tmps s.H:=by
 intro c
 induction c with
 |skip=>intro t H K h;exact .skip h
 |exit id=>intro t H K h;exact .exit id h
 |ret=>intro t H K h;exact .ret h
 |label l=>intro t H K h;exact .label l h
 |seq x y ihx ihy=>
  intro t H K h;refine .seq ((ihx (t:=t) (H:=H) (K:=λex t H=>match ex with|.normal=>wpA P B y t H K|ex=>K ex t H) h).mono λex s1 h1=>?_);cases ex with
  |normal=>exact ihy h1
  |_=>exact h1
 |block id c ih=>
  intro t H K h;refine .block ((ih (t:=t) (H:=H) (K:=λex t H=>match ex with|.exit id'=>if id'=id then K .normal t H else K (.exit id') t H|ex=>K ex t H) h).mono λex s1 h1=>?_);cases ex with
  |exit id'=>exact h1
  |_=>exact h1
 |scope c ih=>
  intro t H K h;refine .IN ((ih (t:=t) (H:=H) (K:=λex t H=>match ex with|.goto l=>uu P B c l t H K|ex=>K ex t H) h).mono λex s1 h1=>?_);cases ex with
  |goto l=>exact(show uu P B c l s1.tmps s1.H K from h1).out
  |_=>exact h1
 |goto l=>intro t H K h;exact .goto l h
 |cond c x y ihx ihy=>
  intro t H K h
  change nB c (wpA P B x) (wpA P B y) t H K at h
  unfold nB at h;split at h
  .rename_i b hb;cases b with
   |true=>exact .cond (s:=⟨t,H⟩) hb (ihx h)
   |false=>exact .cond (s:=⟨t,H⟩) hb (ihy h)
  .exact bX
 |region id ops draw=>
  intro t H K h;cases draw with
  |false=>exact .region (lD (show sZ P ops ops.toList t H (λt H=>K .normal t H) from h))
  |true=>
   rcases(show(∃T:vt,(P.follows .mixedOrders && Region.lexB .any ops && eL .any T ops)=true/\wQ P T ops ops.toList 0 t H λt H=>K .normal t H)\/
    ∃T:sI,(P.follows .mixedOrders && yK .any ops)=true/\(T.flat=true->jf H=true)/\∃R:List C->zf->Prop,bruteK P T ops ops.size (ops.toList.map λ_=>false) t H (λt1 H1=>∃t2 H2,zm B ⟨t1,H1⟩ ⟨t2,H2⟩/\R t2 H2)/\∀t2 H2,R t2 H2->K .normal t2 H2 from h) with h|⟨T,hm,hf,R,h1,h2⟩
   rotate_left
   .rw[c9]at hm;exact qb.Jt hm.1 hm.2 hf h1 h2
   obtain⟨T,h1,h2⟩:=h;simp only[c9]at h1;obtain⟨s',h3,h4⟩:=tW.Jv (B:=B) (id:=id) h1.1.1 h1.1.2 h1.2 h2;exact qb.mono h3 λex s1 ⟨e1,e2⟩=>by subst e1 e2;exact h4
 |loop c ih=>intro t H K h;exact .loop (show wc P B c t H K from h).out
 |rangeFunc g ps assign body=>
  intro t H K h
  change ng P B g ps assign body t H K at h
  unfold ng at h;split at h
  .rename_i f first caps hg;obtain⟨h1,H0,h0,ex,t',H',h2,h3⟩:=zA h;simp only[c9,rz]at h1;obtain⟨h1,rfl⟩:=h1;refine .pre h0 (.rangeFunc hg h1 λl r a1 a2 a3 a4 a5=>?_);obtain⟨rr,Hf,rf,b1,b2,b3,b4,b5,b6,b7⟩:=h2 l r a1 a2 a3 a4 a5;exact⟨rr,Hf,rf,ex,⟨t',H'⟩,b1,b2,b3,b4,b5,b6,b7,h3⟩
  .exact bX
 |_=>intro t H K h;exact(show False from h).elim
def uu.go{rest:Code}{l:Nat}{t:List C}(hf:findLabel c l=some rest)
 (h:wpA P B rest t H λex t H=>match ex with|.goto l=>uu P B c l t H K|ex=>K ex t H):uu P B c l t H K:=by
 refine⟨.mk _ hf (qD h) (λe s h1 he=>?_) λl s h1=>(show uu P B c l s.tmps s.H K from h1).out⟩;cases e with
 |goto l=>exact absurd V (he l)
 |_=>exact h1
def qV.zJ{H1:zf}{id l:Nat}{r:Loop}{t:List C}{rv:Bool}{assign body:Code}(hob:H1[id]?=some (r8 l r t))(hst:r.state=.ready)(hpe:r.pending=none)(hps:r.params=ps)(ha:r.assign=assign)(hb:r.body=body)
 (hn:args.length=ps.size)(hna:qW assign=false)(hnb:qW body=false)
 (h:wpA P H1.length assign (ea t ps.toList args) H1 λe t1 H1'=>e=.normal/\H1'[id]?=some (r8 l r t)/\wpA P H1.length body t1 (H1'.set id (r8 l (busy r) t)) λe t2 H2=>
   ∃t3 H3,zm H1.length ⟨t2,H2⟩ ⟨t3,H3⟩/\BJ id l r t rv H' e H3):
  qV P l H1 args (.v (.bool rv)) H':=by
 subst hps ha hb;refine qV.ye hob hst hpe hn hna hnb ((qD h).mono λe s1 ⟨h1,h2,h3⟩=>⟨h1,h2,(qD h3).mono λe s2 ⟨t3,H3,h4,h5⟩=>⟨⟨t3,H3⟩,h4,h5⟩⟩)
def zp.inv{t:List C}(I:Nat->List C->zf->Prop)(n:Nat)(h0:∃t0 H0,zm B ⟨t,H⟩ ⟨t0,H0⟩/\I n t0 H0)
 (step:∀n t H,I n t H->wpA P B c t H λe t1 H1=>(e=.normal/\∃m t2 H2,m<n/\zm B ⟨t1,H1⟩ ⟨t2,H2⟩/\I m t2 H2)\/(e≠.normal/\K e t1 H1)):
  wc P B c t H K:=by
 obtain⟨t0,H0,hw,hI⟩:=h0;refine⟨.pre hw ?_⟩
 suffices key:∀n t H,I n t H->vx P B c (n+1) ⟨t,H⟩ λex s=>K ex s.tmps s.H from⟨n+1,key n t0 H0 hI⟩
 intro n
 induction n using Nat.strongRecOn with
 |_ n ih=>
  intro t H hI;refine .step ((qD (step n t H hI)).post λex s1 h1=>?_);rcases h1 with⟨rfl,m,t2,H2,hm,hw2,hI2⟩|⟨hne,hK⟩
  .exact⟨⟨t2,H2⟩,hw2,(vx.more ah (ih m hm t2 H2 hI2):vx P B c n ⟨t2,H2⟩ _)⟩
  .refine⟨s1,.refl s1,?_⟩;cases ex with
   |normal=>exact absurd V hne
   |_=>exact hK
def zb.zJ{r:C}(hf:P.funcs[f]?=some fn)(hb:fn.body=some c)
 (h:wpA P H.length c (entry fn args) H λex t1 H1=>(ex=.ret\/ex=.normal)/\∃s2,zm H.length ⟨t1,H1⟩ s2/\s2.H=H'/\yJ P fn s2=some r):zb P f H args r H':=
 ql.at (ql.ye hf hb ((qD h).mono λex s1 ⟨hex,s2,hw,h2,h3⟩=>⟨hex,s2,r,hw,h3,rfl,h2⟩))
def ql.zJ(hf:P.funcs[f]?=some fn)(hb:fn.body=some c)
 (h:wpA P H.length c (entry fn args) H λex t1 H1=>(ex=.ret\/ex=.normal)/\∃s2 r,zm H.length ⟨t1,H1⟩ s2/\yJ P fn s2=some r/\R r s2.H):ql P f H args R:=
 ql.ye hf hb (qD h)
def zb.vc{r:C}(hf:P.funcs[f]?=some fn)(hb:fn.body=some c)
 (h:wpA P 0 c (entry fn args) [] λex t1 H1=>(ex=.ret\/ex=.normal)/\∃s2,zm 0 ⟨t1,H1⟩ s2/\yJ P fn s2=some r)(hr:j9 0 9 r=true):zb P f [] args r []:=
 ql.close (R:=λc=>c=r) (ql.ye (H:=[]) (R:=λc _=>c=r) hf hb ((qD h).mono λex s1 ⟨hex,s2,hw,h2⟩=>⟨hex,s2,r,hw,h2,rfl⟩)) λc h=>⟨h,hr⟩
end
def z7{n:Int}(h0: -9223372036854775808<=n)(h1:n<=9223372036854775807):IntKind.i64.wrap n=n:=IntWalk.i64_in n ⟨h0,h1⟩
def zk{n:Nat}(h:n<9223372036854775807):IntKind.i64.wrap ((n:Int)+1)=((n+1:Nat):Int):=by rw[z7 ah ah];rfl
section
variable {P:Program} {f:FuncId} {H H':zf}
def zb.pre{args':List C}{r:C}(h:zb P f H args' r H')(hw:sA args args'):zb P f H args r H':=λw E vs hh hl=>h w E vs hh (hw.LL hl)
def zb.post{r r':C}(h:zb P f H args r H')(hw:WC r r'):zb P f H args r' H':=λw E vs hh hl=>(h w E vs hh hl).mono λe w' ⟨v,E',h1,h2,h3,h4⟩=>⟨v,E',h1,h2,hw E' v h3,h4⟩
def toNat_cast(n:Nat):((n:Int)).toNat=n:=by simp
end
def wO{vs:Array Value}{v:Value}{r:C}(H:zf)(hc:∀w,Calls P f vs w λe w'=>e=.returned v/\w'=w)(ha:∀E (us:Array Value),LL E args us.toList->us=vs)(hr:∀E,L E r v):zb P f H args r H:=λw E us hh hl=>by
 obtain rfl:=ha E us hl;refine(hc w).mono ?_;rintro e w' ⟨rfl,rfl⟩;exact⟨v,E,rfl,hh,hr E,Grow.refl _ _ _⟩
def BY{a:Value}(E:Env)(us:Array Value)(h:LL E [.v a] us.toList):us= #[a]:=by
 obtain⟨l⟩:=us
 match l,h with
 |[],h=>have:=h.1;simp at this
 |[x],h=>
  obtain⟨h1,_⟩:=h.cons_inv;cases h1;rfl
 |_::_::_,h=>have:=h.1;simp at this
def BZ{a b:Value}(E:Env)(us:Array Value)(h:LL E [.v a,.v b] us.toList):us= #[a,b]:=by
 obtain⟨l⟩:=us
 match l,h with
 |[],h=>have:=h.1;simp at this
 |[_],h=>have:=h.1;simp at this
 |[x,y],h=>
  obtain⟨h1,h2⟩:=h.cons_inv;obtain⟨h2,_⟩:=h2.cons_inv;cases h1;cases h2;rfl
 |_::_::_::_,h=>have:=h.1;simp at this
theorem yg{t:Nat}{y:α}(h:l[t]?=some y):l.set t y=l:=by
 apply dS
 intro i;rw[df];split
 .rename_i e;subst e;obtain⟨h1,h2⟩:=cW.1 h;rw[c7 h1,h]
 .rfl
section
variable {B:Nat} {s:S}
def zD.freeze(h:zD w E H){id:Nat}(hob:H[id]?=some ob)(hk:ob.kind=2)(hno:∀i k c,cellAt ob.rows i k=some c->zy c=true):
  ∃E',E.le E'/\zD w E' (H.modify id λob=>⟨ob.kind,ob.ty,ob.sz,ob.rows,ob.rows.length⟩)/\(∀b o u,E'.St b o=some u->E.St b o=some u\/b=E.β id [])/\E'.β=E.β/\E'.G=E.G/\
   ∀i k c,cellAt ob.rows i k=some c->∃u,E'.St (E.β id []) (i*ob.sz+k)=some u/\L E'.shut c u:=by
 have hgb:zB H id []=some (ob.sz,ob.rows):=by unfold zB;rw[hob];simp[hk,z5]
 have hB:=h.rM id ob [] _ _ hob hgb;obtain⟨cur,e,hg,hcs,hcell⟩:=hB.rM
 have key:∀o,o<ob.rows.length*ob.sz->∃u,cur[o]?=some u/\u.oneCell'=true/\w.cell? ⟨E.β id [],o,none⟩=some u:=by
  intro o ho;obtain⟨h1,h2,h3⟩:=vI ho;obtain⟨c,hc⟩:=yt hB.row h1 h2;obtain⟨u,hu,hok⟩:=hcell _ _ c hc;rw[z6.loose (hno _ _ c hc)]at hok;rw[h3]at hu;exact⟨u,hu,hok.2,by unfold World.cell?;rw[hg];simpa using hu⟩
 obtain⟨E',hE'⟩:∃E':Env,E'={E with St:=λb o=>if b=E.β id []/\o<ob.rows.length*ob.sz then cur[o]? else E.St b o}:=⟨_,rfl⟩
 have hle:E.le E':=by
  subst hE';refine⟨de _,λ_ _ _=>V,λ_ _ _=>V,λb o u hu=>?_,λ_ _ _ _ hu=>hu⟩;show(if b=E.β id []/\o<ob.rows.length*ob.sz then cur[o]? else E.St b o)=some u;split
  .rename_i hc;obtain⟨rfl,ho⟩:=hc;obtain⟨u',h1,_,h2⟩:=key o ho;have:=(h.zK _ _ _ hu).1;rw[h2]at this;rw[h1,<-this]
  .exact hu
 have hSt:∀b o u,E'.St b o=some u->E.St b o=some u\/(b=E.β id []/\o<ob.rows.length*ob.sz/\cur[o]?=some u):=by
  subst hE';intro b o u hu
  change (if b=E.β id []/\o<ob.rows.length*ob.sz then cur[o]? else E.St b o)=some u at hu
  split at hu
  .rename_i hc;exact .inr ⟨hc.1,hc.2,hu⟩
  .exact .inl hu
 have hβ:E'.β=E.β:=by subst hE';rfl
 have hn:E'.n=E.n:=by subst hE';rfl
 have get:∀id' hops x,zB (H.modify id λob=>⟨ob.kind,ob.ty,ob.sz,ob.rows,ob.rows.length⟩) id' hops=some x->zB H id' hops=some x:=by
  intro id' hops x hx;obtain⟨ob',ho',hk',hg'⟩:=qd hx;rw[dR]at ho';cases hx':H[id']? with
  |none=>rw[hx']at ho';cases ho'
  |some ob0=>
   rw[hx']at ho';simp only[gE,dc,dj]at ho';unfold zB;rw[hx'];split at ho'
   .subst ho';simp only[hk',if_true];exact hg'
   .subst ho';simp only[hk',if_true];exact hg'
 have obs:∀(id':Nat) (ob':Ob),(H.modify id λob=>⟨ob.kind,ob.ty,ob.sz,ob.rows,ob.rows.length⟩)[id']?=some ob'->∃ob0,H[id']?=some ob0/\ob'.kind=ob0.kind/\ob'.ty=ob0.ty/\ob'.sz=ob0.sz/\ob'.rows=ob0.rows/\ob0.fz<=ob'.fz/\ob'.fz<=ob'.rows.length/\(id'=id->ob'.fz=ob0.rows.length):=by
  intro id' ob' ho';rw[dR]at ho';cases hx':H[id']? with
  |none=>rw[hx']at ho';cases ho'
  |some ob0=>
   rw[hx']at ho';simp only[gE,dc,dj]at ho';have:=h.fz id' ob0 hx';split at ho'
   .subst ho';exact⟨ob0,rfl,rfl,rfl,rfl,rfl,this,de _,λ_=>V⟩
   .rename_i hne;subst ho';exact⟨ob0,rfl,rfl,rfl,rfl,rfl,de _,this,λe=>absurd e.symm hne⟩
 refine⟨E',hle,⟨by rw[hn,h.n];simp,?_,?_,?_,?_,?_,?_⟩,λb o u hu=>(hSt b o u hu).imp_right (·.1),hβ,by subst hE';rfl,?_⟩
 .intro id' ob' hops sz rows hob' hx;obtain⟨ob0,h1,h2,_⟩:=obs id' ob' hob';have hx':=get _ _ _ hx;rw[h2];exact(h.rM id' ob0 hops sz rows h1 hx').step hle (by rw[h.n];exact y8 hx') V
 .intro id1 p1 id2 p2 x y hx hy he;rw[hβ]at he;exact h.inj id1 p1 id2 p2 x y (get _ _ _ hx) (get _ _ _ hy) he
 .intro b o u hu;rcases hSt b o u hu with h1|⟨rfl,h2,h3⟩
  .exact h.zK b o u h1
  .obtain⟨u',h4,h5,h6⟩:=key o h2;rw[h3]at h4;cases h4
   exact⟨h6,h5⟩
 .intro id' hops x o u hx hu;have hx':=get _ _ _ hx;rw[hβ]at hu;obtain⟨ob1,ho1,_,_⟩:=qd hx;obtain⟨ob0,h1,h2,h3,h4,h5,h6,h7,h8⟩:=obs id' ob1 ho1;rcases hSt _ o u hu with h9|⟨h9,h10,_⟩
  .obtain⟨e1,ob2,e2,e3⟩:=h.sep id' hops x o u hx' h9;rw[h1]at e2;cases e2
   exact⟨e1,ob1,ho1,by rw[h4];exact dD e3 (dJ _ h6)⟩
  .obtain⟨rfl,rfl⟩:=h.inj id' hops id [] x _ hx' hgb h9;rw[hob]at h1;cases h1
   exact⟨rfl,ob1,ho1,by rw[h8 V,h4];exact h10⟩
 .intro id' ob' hob' hk';obtain⟨ob0,h1,h2,h3,_⟩:=obs id' ob' hob';obtain⟨cur',hc⟩:=h.ty id' ob0 h1 (by rw[<-h2];exact hk');exact⟨cur',by rw[hβ,h3];exact hc⟩
 .intro id' ob' hob';obtain⟨ob0,h1,h2,h3,h4,h5,h6,h7,h8⟩:=obs id' ob' hob';exact h7
 .intro i k c hc;obtain⟨u,hu,hok⟩:=hcell i k c hc;rw[z6.loose (hno _ _ c hc)]at hok;obtain⟨h1,h2⟩:=kf hB.row hc
  have rF:i*ob.sz+k<ob.rows.length*ob.sz:=by
   have:(i+1)*ob.sz<=ob.rows.length*ob.sz:=dJ _ h1;rw[dN]at this;omega
  refine⟨u,?_,?_⟩
  .subst hE';show(if E.β id []=E.β id []/\i*ob.sz+k<ob.rows.length*ob.sz then cur[i*ob.sz+k]? else _)=some u;rw[c7 ⟨rfl,rF⟩];exact hu
  .have h3:=hok.1;simp only[Env.at,hk,if_true]at h3;exact h3.mono hle.shut
def zm.freeze(t:Nat){id sz lo len:Nat}{full:Bool}{ob:Ob}(ht:s.tmps[t]?=some (.sl id [] sz lo len full))(hob:s.H[id]?=some ob)(hk:ob.kind=2)(hsz:ob.sz=sz)(hlen:lo+len<=ob.rows.length)
 (hno:∀r∈ob.rows,∀c∈r,zy c=true):
  zm B s ⟨s.tmps.set t (.rG (if full then 1 else 0) sz ((ob.rows.drop lo).take len)),s.H.modify id λob=>⟨ob.kind,ob.ty,ob.sz,ob.rows,ob.rows.length⟩⟩:=λm w E a hs=>by
 subst hsz
 have hno':∀i k c,cellAt ob.rows i k=some c->zy c=true:=λi k c hc=>by
  unfold cellAt at hc;cases hx:ob.rows[i]? with
  |none=>rw[hx]at hc;cases hc
  |some r=>rw[hx]at hc;exact hno r (cZ hx) c (cZ hc)
 obtain⟨E',hle,hR,hnew,hβ,hKG0,hcells⟩:=hs.heap.base.freeze hob hk hno';have hgb:zB s.H id []=some (ob.sz,ob.rows):=by unfold zB;rw[hob];simp[hk,z5]
 have hrow:=(hs.heap.base.rM id ob [] _ _ hob hgb).row;obtain⟨y,hy,hl⟩:=hs.tmps.get ht
 have hnl:L E' (.rG (if full then 1 else 0) ob.sz ((ob.rows.drop lo).take len)) y:=by
  generalize hc:C.sl id [] ob.sz lo len full=c at hl;cases hl with
  |sl id' hops' sz' lo' len' full' cap hn hlen' hf hf'=>
   cases hc
   have hrl:((ob.rows.drop lo).take len).length=len:=aw
   have hsub:∀i k,cellAt ((ob.rows.drop lo).take len) i k=if i<len then cellAt ob.rows (lo+i) k else none:=by
    intro i k;unfold cellAt;rw[du];split
    .rw[dM]
    .rfl
   have ex:∀i r k c,((ob.rows.drop lo).take len)[i]?=some r->r[k]?=some c->∃u,E'.St (E.β id []) (lo*ob.sz+i*ob.sz+k)=some u/\L E'.shut c u:=by
    intro i r k c hr hc;have hcc:cellAt ((ob.rows.drop lo).take len) i k=some c:=by unfold cellAt;rw[hr];exact hc
    rw[hsub]at hcc;split at hcc
    .obtain⟨u,h1,h2⟩:=hcells _ _ c hcc;exact⟨u,by rw[<-dN];exact h1,h2⟩
    .cases hcc
   have:=L.rG (E:=E') (if full then 1 else 0) ob.sz ((ob.rows.drop lo).take len) (E.β id []) (lo*ob.sz) cap (λi k=>(E'.St (E.β id []) (lo*ob.sz+i*ob.sz+k)).getD undef) ?_ ?_ ?_ ?_ ?_
   .rw[hrl]at this;exact cQ
   .cases full with
    |false=>exact .inl V
    |true=>exact .inr ⟨rfl,by rw[hrl];exact hf V⟩
   .rw[hrl];exact hlen'
   .exactλr hr=>hrow r (pf (gK hr))
   .intro i r k c hr hc;obtain⟨u,h1,h2⟩:=ex i r k c hr hc;rw[h1];rfl
   .intro i r k c hr hc;obtain⟨u,h1,h2⟩:=ex i r k c hr hc;rw[h1];exact h2
  |_=>cases hc
 have hG:zR w E s.H w E' (s.H.modify id λob=>⟨ob.kind,ob.ty,ob.sz,ob.rows,ob.rows.length⟩):=by
  have hKG:∀(id k:Nat),id<E.n->E'.G id k=E.G id k:=λ_ _ _=>by rw[hKG0]
  refine⟨hle,hKG,rfl,rfl,rfl,de _,λ_ _ _=>V,λb o u hu=>?_,?_⟩
  .rcases hnew b o u hu with h1|h1
   .exact .inl h1
   .exact .inr (.inr ⟨id,[],_,hgb,h1.symm⟩)
  .rintro b ⟨id',p,x,hx,rfl⟩
   right
   refine⟨id',p,x,?_,by rw[hβ]⟩;obtain⟨ob',ho',hk',hg'⟩:=qd hx;rw[dR]at ho';cases hx':s.H[id']? with
   |none=>rw[hx']at ho';cases ho'
   |some ob0=>
    rw[hx']at ho';simp only[gE,dc,dj]at ho';unfold zB;rw[hx'];split at ho'
    .subst ho';simp only[hk',if_true];exact hg'
    .subst ho';simp only[hk',if_true];exact hg'
 have hk4:qs s.H (s.H.modify id λob=>⟨ob.kind,ob.ty,ob.sz,ob.rows,ob.rows.length⟩):=qs.modify _ _ _ λob' h'=>by
  rw[hob]at h';cases h'
  exact⟨bb,by show ob.kind≠4;rw[hk];decide⟩
 refine⟨E',⟨⟨hR,sR.step hs.heap hG hk4⟩,?_,hs.defers,ak hs.base⟩,(hG.up hs.heap hk4).sB uW⟩;have:=(hs.tmps.mono hle).set hnl t;rw[yg hy]at this;exact cQ
end
def posOf:List Nat->Nat->Nat->Option Nat
 |[],_,_=>none
 |x::xs,i,id=>if x == id then some i else posOf xs (i+1) id
def jj:∀{sel:List Nat} {k id i:Nat},posOf sel k id=some i->k<=i/\sel[i-k]?=some id
 |[],k,id,i,h=>by simp[posOf]at h
 |x::xs,k,id,i,h=>by
  unfold posOf at h;split at h
  .rename_i e;cases h
   exact⟨de _,ak e⟩
  .obtain⟨h1,h2⟩:=jj h;refine⟨ah,?_⟩;rw[show i-k=(i-(k+1))+1 from ah];simpa using h2
def xa(sel:List Nat):Nat->C->C
 |0,_=>.za
 |k+1,c=>match c with
  |.ref id hops sz i j=>match posOf sel 0 id with
   |some id'=>.ref id' hops sz i j
   |none=>.za
  |.sl id hops sz lo len full=>match posOf sel 0 id with
   |some id'=>.sl id' hops sz lo len full
   |none=>.za
  |.mp id=>match posOf sel 0 id with
   |some id'=>.mp id'
   |none=>.za
  |.gl id sz rows=>match posOf sel 0 id with
   |some id'=>.gl id' sz rows
   |none=>.rG 0 sz rows
  |.r4 t c=>.r4 t (xa sel k c)
  |.rc r=>.rc r
  |.agg cs=>.agg (cs.map (xa sel k))
  |.rO cs=>.rO (cs.map (xa sel k))
  |.fn f first caps=>.fn f (first.map (xa sel k)) (caps.map (xa sel k))
  |.v x=>.v x
  |.rG o sz rows=>.rG o sz rows
  |.qC cells=>.qC cells
  |.un=>.un
  |.za=>.za
def Env.rJ(E:Env)(sel:List Nat):Env:={n:=sel.length,β:=λi hops=>E.β ((sel[i]?).getD 0) hops,κ:=λi hops=>E.κ ((sel[i]?).getD 0) hops,St:=E.St,G:=λi k=>E.G ((sel[i]?).getD 0) k}
def Env.wV(E:Env)(sel:List Nat):E.shut.le (E.rJ sel).shut:=⟨de _,λid hops hi=>absurd hi (dx _),λid hops hi=>absurd hi (dx _),λb o u hu=>hu,λid _ _ hi=>absurd hi (dx _)⟩
def LL.rJ{E':Env}{f:C->C}(h:LL E cs ys)(hf:∀c y,L E c y->L E' (f c) y):LL E' (cs.map f) ys:=
 ⟨ak h.1,λi c y e1 e2=>by
  rw[cX]at e1;cases hx:cs[i]? with
  |none=>rw[hx]at e1;cases e1
  |some c0=>rw[hx]at e1;cases e1;exact hf c0 y (h.2 i c0 y hx e2)⟩
def L.rJ{E:Env}(sel:List Nat):∀(k:Nat) {c:C} {y:Value},L E c y->L (E.rJ sel) (xa sel k c) y:=by
 intro k
 induction k with
 |zero=>intro c y h;exact .za y
 |succ k ih=>
  intro c y h
  have pos:∀{id i},posOf sel 0 id=some i->i<sel.length/\(sel[i]?).getD 0=id:=λ{id i} e=>by
   obtain⟨_,h2⟩:=jj e;rw[gu]at h2;exact⟨(cW.1 h2).1,by rw[h2];rfl⟩
  cases h with
  |v x hx=>exact .v _ hx
  |rG o sz rows b off cap us ho hc hsz hst hL=>
   exact .rG o sz rows b off cap us ho hc hsz hst (λi r k c e1 e2=>(hL i r k c e1 e2).mono (E.wV sel))
  |q6 o sz ho a=>exact .q6 o sz ho a
  |qC cells b off us hst hL=>
   exact .qC cells b off us hst (λk c e1=>(hL k c e1).mono (E.wV sel))
  |ref id hops sz i j hn=>
   unfold xa;dsimp only;split
   .rename_i id' e;obtain⟨h1,h2⟩:=pos e;have:=L.ref (E:=E.rJ sel) id' hops sz i j h1;simp only[Env.rJ,h2]at this;exact cQ
   .exact .za _
  |sl id hops sz lo len full cap hn hlen hf hf'=>
   unfold xa;dsimp only;split
   .rename_i id' e;obtain⟨h1,h2⟩:=pos e;have:=L.sl (E:=E.rJ sel) id' hops sz lo len full cap h1 hlen hf (by simp only[Env.rJ,h2];exact hf');simp only[Env.rJ,h2]at this;exact cQ
   .exact .za _
  |mp id hn=>
   unfold xa;dsimp only;split
   .rename_i id' e;obtain⟨h1,h2⟩:=pos e;have:=L.mp (E:=E.rJ sel) id' h1;simp only[Env.rJ,h2]at this;exact cQ
   .exact .za _
  |agg cs ys h1 h2 h3=>
   have:=LL.rJ (f:=xa sel k) (E':=E.rJ sel) (cs:=cs) (ys:=ys.toList) ⟨ak h1,λi c y e1 e2=>h2 i c y e1 uS⟩ (λc y hl=>ih hl);exact cG
  |rO cs ys h1 h2=>
   have:=LL.rJ (f:=xa sel k) (E':=E.rJ sel) (cs:=cs) (ys:=ys.toList) ⟨ak h1,λi c y e1 e2=>h2 i c y e1 uS⟩ (λc y hl=>ih hl);exact .rO _ ys (ak this.1) (λi c y e1 e2=>this.2 i c y e1 uS)
  |fn f first caps ys zs h1 h2 h3 h4=>
   have t1:=LL.rJ (f:=xa sel k) (E':=E.rJ sel) (cs:=first) (ys:=ys.toList) ⟨ak h1,λi c y e1 e2=>h3 i c y e1 uS⟩ (λc y hl=>ih hl);have t2:=LL.rJ (f:=xa sel k) (E':=E.rJ sel) (cs:=caps) (ys:=zs.toList) ⟨ak h2,λi c y e1 e2=>h4 i c y e1 uS⟩ (λc y hl=>ih hl);exact cK
  |un=>exact .un
  |za y=>exact .za y
  |gl id sz rows y hn hg hl=>
   unfold xa;dsimp only;split
   .rename_i id' e;obtain⟨h1,h2⟩:=pos e;exact .gl id' sz rows y h1 (by simp only[Env.rJ,h2];exact hg) (hl.mono (E.wV sel))
   .have h3:E.shut.le (E.rJ sel):=⟨dA _,λid hops hi=>absurd hi (dx _),λid hops hi=>absurd hi (dx _),λb o u hu=>hu,λid _ _ hi=>absurd hi (dx _)⟩;exact hl.mono h3
  |r4 t c y hl=>exact .r4 t _ y (ih hl)
def At(sel:List Nat)(k:Nat){c:C}(h:zy c=true):zy (xa sel k c)=true:=by
 cases k with
 |zero=>rfl
 |succ k=>
  cases c with
  |rG o sz rows=>exact h
  |ref id hops sz i j=>unfold xa;dsimp only;split <;> rfl
  |sl id hops sz lo len full=>unfold xa;dsimp only;split <;> rfl
  |mp id=>unfold xa;dsimp only;split <;> rfl
  |gl id sz rows=>unfold xa;dsimp only;split <;> rfl
  |_=>rfl
def vm(sel:List Nat)(ob:Ob):Ob:=
 match ob with
 |⟨kind,ty,sz,rows,fz⟩=>⟨kind,ty,sz,match kind with
  |2=>rows
  |4=>rows
  |_=>rows.map λr=>r.map (xa sel 9),fz⟩
def dead:Ob:=⟨0,0,0,[],0⟩
def jT(sel:List Nat)(H:zf):zf:=sel.map λid=>vm sel ((H[id]?).getD dead)
def xl:List Nat->Bool
 |[]=>true
 |x::xs=>!(xs.any (· == x)) && xl xs
def xC:∀{l:List Nat},xl l=true->∀(i j x:Nat),l[i]?=some x->l[j]?=some x->i=j
 |[],_,i,j,x,h,_=>by simp at h
 |y::l,h,i,j,x,h1,h2=>by
  simp only[xl,c9,dG,dv]at h;cases i with
  |zero=>
   cases j with
   |zero=>rfl
   |succ j=>
    simp at h1 h2;subst h1;exact absurd aj (h.1 _ (cZ h2))
  |succ i=>
   cases j with
   |zero=>
    simp at h1 h2;subst h2;exact absurd aj (h.1 _ (cZ h1))
   |succ j=>
    simp at h1 h2;rw[xC h.2 i j x h1 h2]
def L.Ie{c:C}(h:L E c y)(hc:kh c=true):L E.shut c y:=by
 cases h with
 |agg cs ys h1 h2 h3=>
  refine .agg cs ys h1 (λi c y e1 e2=>(h2 i c y e1 e2).xv ?_) h3;exact c8.1 (show cs.all jF=true from hc) _ (cZ e1)
 |v x hx=>exact(L.v (E:=E) _ hx).xv hc
 |rG o sz rows b off cap us ho h2 hsz hst hL=>exact(L.rG (E:=E) o sz rows b off cap us ho h2 hsz hst hL).xv hc
 |q6 o sz ho a=>exact(L.q6 (E:=E) o sz ho a).xv hc
 |qC cells b off us hst hL=>exact(L.qC (E:=E) cells b off us hst hL).xv hc
 |fn f first caps ys zs h1 h2 h3 h4=>exact(L.fn (E:=E) f first caps ys zs h1 h2 h3 h4).xv hc
 |_=>simp[kh,jF,w9]at hc
def LL.closed{E':Env}{t:List C}(h:LL E t ys)(hc:t.all kh=true)(hs:E.shut.le E'):LL E' t ys:=
 ⟨h.1,λi c y e1 e2=>((h.2 i c y e1 e2).Ie (c8.1 hc _ (cZ e1))).mono hs⟩
section
variable {B:Nat}
def jb(h:(jT sel H)[i]?=some ob')(zF:sel.all (λid=>Nat.blt id H.length)=true):∃id ob,sel[i]?=some id/\H[id]?=some ob/\ob'=vm sel ob:=by
 unfold jT at h;rw[cX]at h;cases hx:sel[i]? with
 |none=>rw[hx]at h;cases h
 |some id=>
  rw[hx]at h
  have rF:id<H.length:=by
   have:=c8.1 zF id (cZ hx);simpa [Nat.blt_eq] using this
  have h2:H[id]?=some H[id]:=al
  simp only[dc,dj,h2,dL]at h;exact⟨id,H[id],rfl,h2,h.symm⟩
def xS(zF:sel.all (λid=>Nat.blt id H.length)=true)(r6:jf H=true)(h:zB (jT sel H) i hops=some (sz,rows)):
  ∃id ob rows0,sel[i]?=some id/\H[id]?=some ob/\zB H id hops=some (sz,rows0)/\((ob.kind=2/\rows=rows0)\/(ob.kind=1/\hops=[]/\rows=rows0.map (λr=>r.map (xa sel 9))/\∀r∈rows0,∀c∈r,zy c=true)):=by
 obtain⟨ob',ho',hk',hg'⟩:=qd h;obtain⟨id,ob,h1,h2,rfl⟩:=jb ho' zF;obtain⟨kind,ty,sz0,rows0,fz⟩:=ob;rcases hk' with hk|hk
 .have hk:kind=1:=hk;subst hk
  have hno:∀r∈rows0,∀c∈r,zy c=true:=by
   have:=c8.1 r6 _ (cZ h2);dsimp only at this;simpa [c8] using this
  have hg2:xh sz0 (rows0.map λr=>r.map (xa sel 9)) hops=some (sz,rows):=hg'
  obtain⟨rfl,e⟩:=xV (λi k c hc=>by
   unfold cellAt at hc;rw[cX]at hc;cases hx:rows0[i]? with
   |none=>rw[hx]at hc;cases hc
   |some r=>
    rw[hx]at hc;simp only[dc,dB,cX]at hc;cases hy:r[k]? with
    |none=>rw[hy]at hc;cases hc
    |some c0=>
     rw[hy]at hc;cases hc
     exact At sel 9 (hno r (cZ hx) c0 (cZ hy))) hg2
  cases e
  exact⟨id,_,rows0,h1,h2,by unfold zB;rw[h2];simp[z5],.inr ⟨rfl,rfl,rfl,hno⟩⟩
 .have hk:kind=2:=hk;subst hk;exact⟨id,_,rows,h1,h2,bA,.inl ⟨rfl,rfl⟩⟩
def zD.rJ{w:World}{E:Env}{H:zf}(hh:zD w E H)(sel:List Nat)(zF:sel.all (λid=>Nat.blt id H.length)=true)(r9:xl sel=true)(r6:jf H=true):zD w (E.rJ sel) (jT sel H) where
 n:=by simp[Env.rJ,jT]
 rM i ob' hops sz rows hob' hx:=by
  obtain⟨id,ob,rows0,h1,h2,h3,h4⟩:=xS zF r6 hx;obtain⟨id2,ob2,e1,e2,rfl⟩:=jb hob' zF;rw[h1]at e1;cases e1
  rw[h2]at e2;cases e2
  have hb:=hh.rM id ob hops sz rows0 h2 h3;obtain⟨cur,e,hg,hcs,hcell⟩:=hb.rM;have hβ:∀hops,(E.rJ sel).β i hops=E.β id hops:=λhops=>by simp[Env.rJ,h1]
  have hκ:∀hops,(E.rJ sel).κ i hops=E.κ id hops:=λhops=>by simp[Env.rJ,h1]
  have hkind:(vm sel ob).kind=ob.kind:=by obtain⟨kind,ty,sz,rows,fz⟩:=ob;rfl
  rw[hkind];rcases h4 with⟨hk,rfl⟩|⟨hk,rfl,rfl,hno⟩
  .refine⟨by rw[hκ];exact hb.len,hb.row,cur,e,by rw[hβ];exact hg,by rw[hκ];exact hcs,?_⟩;intro i' k c hc;obtain⟨u,hu,ho⟩:=hcell i' k c hc;refine⟨u,hu,?_⟩;unfold z6 at ho|-;split at ho
   .rw[hβ,hκ];exact ho
   .refine⟨?_,ho.2⟩;have h5:=ho.1;simp only[Env.at,hk,if_true]at h5|-;exact h5.mono (E.wV sel)
  .refine⟨by rw[hκ];simpa using hb.len,?_,cur,e,by rw[hβ];exact hg,by rw[hκ];exact hcs,?_⟩
   .intro r hr;obtain⟨r0,h5,rfl⟩:=dT.1 hr;simpa using hb.row r0 h5
   .intro i' k c hc;unfold cellAt at hc;rw[cX]at hc;cases hx1:rows0[i']? with
    |none=>rw[hx1]at hc;cases hc
    |some r=>
     rw[hx1]at hc;simp only[dc,dB,cX]at hc;cases hy:r[k]? with
     |none=>rw[hy]at hc;cases hc
     |some c0=>
      rw[hy]at hc;cases hc
      obtain⟨u,hu,ho⟩:=hcell i' k c0 (by unfold cellAt;rw[hx1];exact hy);have hn0:=hno r (cZ hx1) c0 (cZ hy);rw[z6.loose hn0]at ho;refine⟨u,hu,(z6.loose (At sel 9 hn0)).2 ⟨?_,ho.2⟩⟩;have h5:=ho.1;have hk2:¬ob.kind=2:=bb
      simp only[Env.at,c6 hk2]at h5|-;exact h5.rJ sel 9
 inj i hops i' hops' x y hx hy he:=by
  obtain⟨id,ob,rows0,h1,h2,h3,_⟩:=xS zF r6 (sz:=x.1) (rows:=x.2) (ak hx);obtain⟨id',ob',rows0',h1',h2',h3',_⟩:=xS zF r6 (sz:=y.1) (rows:=y.2) (ak hy);simp only[Env.rJ,h1,h1',dL]at he;obtain⟨rfl,rfl⟩:=hh.inj id hops id' hops' _ _ h3 h3' he;exact⟨xC r9 _ _ _ h1 h1',rfl⟩
 zK:=hh.zK
 sep i hops x o u hx hu:=by
  obtain⟨id,ob,rows0,h1,h2,h3,_⟩:=xS zF r6 (sz:=x.1) (rows:=x.2) (ak hx);simp only[Env.rJ,h1,dL]at hu;obtain⟨e1,ob2,e2,e3⟩:=hh.sep id hops _ o u h3 hu;rw[h2]at e2;cases e2
  refine⟨e1,vm sel ob,?_,?_⟩
  .unfold jT;rw[cX,h1];simp[h2]
  .obtain⟨kind,ty,sz,rows,fz⟩:=ob;exact e3
 ty i ob' hob' hk:=by
  obtain⟨id,ob,h1,h2,rfl⟩:=jb hob' zF;obtain⟨kind,ty,sz,rows,fz⟩:=ob;obtain⟨cur,hc⟩:=hh.ty id _ h2 hk;exact⟨cur,by simp only[Env.rJ,h1,dL];exact hc⟩
 fz i ob' hob':=by
  obtain⟨id,ob,h1,h2,rfl⟩:=jb hob' zF;obtain⟨kind,ty,sz,rows,fz⟩:=ob;have:=hh.fz id _ h2;dsimp only[vm]at this|-;split
  .exact cQ
  .exact cQ
  .simpa using this
def eO:Nat->Nat->List Nat->Bool
 |0,_,_=>true
 |n+1,k,x::xs=>x == k && eO n (k+1) xs
 |_+1,_,[]=>false
def oN:∀{n k:Nat} {l:List Nat},eO n k l=true->n<=l.length/\∀i,i<n->l[i]?=some (k+i)
 |0,k,l,h=>⟨dA _,λi hi=>absurd hi (dx _)⟩
 |n+1,k,x::xs,h=>by
  simp only[eO,c9,dH]at h;obtain⟨h1,h2⟩:=oN h.2;refine⟨ak h1,λi hi=>?_⟩;cases i with
  |zero=>simp[h.1]
  |succ i=>simp[h2 i ah];omega
 |n+1,k,[],h=>by simp[eO]at h
def xn(sel:List Nat)(ob:Ob):(vm sel ob).kind=ob.kind/\(vm sel ob).ty=ob.ty/\(vm sel ob).sz=ob.sz/\(vm sel ob).rows.length=ob.rows.length:=by
 obtain⟨kind,ty,sz,rows,fz⟩:=ob;refine⟨rfl,rfl,rfl,?_⟩;unfold vm;dsimp only;split <;> simp
def zT.rJ{E:Env}{H:zf}{sel:List Nat}(zF:sel.all (λid=>Nat.blt id H.length)=true){i b:Nat}(h:zT (E.rJ sel) (jT sel H) i b):∃id,sel[i]?=some id/\zT E H id b:=by
 obtain⟨ob',cap,h1,h2,h3,h4⟩:=h;obtain⟨id,ob,e1,e2,rfl⟩:=jb h1 zF;obtain⟨l1,l2,l3,l4⟩:=xn sel ob;rw[l4]at h3 h4;simp only[Env.rJ,e1,dL]at h3;exact⟨id,e1,ob,cap,e2,bB,h3,h4⟩
def mE(h:ob.kind=4):vm sel ob=ob:=by
 obtain⟨kind,ty,sz,rows,fz⟩:=ob;cases h
 rfl
def qo.rJ(zF:sel.all (λid=>Nat.blt id H.length)=true){b:Nat}(h:qo (jT sel H) i b):∃id,sel[i]?=some id/\qo H id b:=by
 obtain⟨ob',r,t,h1,h2,h3,h4⟩:=h;obtain⟨id,ob,e1,e2,rfl⟩:=jb h1 zF;have hk4:ob.kind=4:=by rw[<-(xn sel ob).1];exact h2
 rw[mE hk4]at h3 h4;exact⟨id,e1,ob,r,t,e2,hk4,h3,h4⟩
def qc.rJ{E:Env}{H:zf}{sel:List Nat}(zF:sel.all (λid=>Nat.blt id H.length)=true)(r6:jf H=true){b:Nat}(h:qc (E.rJ sel) (jT sel H) b):qc E H b:=by
 obtain⟨i,hops,⟨sz,rows⟩,hx,rfl⟩:=h;obtain⟨id,ob,rows0,h3,h4,h5,_⟩:=xS zF r6 hx;exact⟨id,hops,_,h5,by simp[Env.rJ,h3]⟩
def zL.rJ{w:World}{E:Env}{H:zf}(hh:zL w E H)(sel:List Nat)(zF:sel.all (λid=>Nat.blt id H.length)=true)(r9:xl sel=true)(r6:jf H=true):zL w (E.rJ sel) (jT sel H) where
 base:=hh.base.rJ sel zF r9 r6
 rI:={
  val:=λi ob' h1 h2=>by
   obtain⟨id,ob,e1,e2,rfl⟩:=jb h1 zF;obtain⟨l1,l2,l3,l4⟩:=xn sel ob;rw[l4];simp only[Env.rJ,e1,dL];exact hh.rI.val id ob e2 bB
  rM:=λi b ob' h1 h2=>by
   obtain⟨id,e0,h3⟩:=h1.rJ zF;obtain⟨id',ob,e1,e2,rfl⟩:=jb h2 zF;rw[e0]at e1;cases e1
   obtain⟨l1,l2,l3,l4⟩:=xn sel ob;rw[l2,l3,l4];simp only[Env.rJ,e0,dL];exact hh.rI.rM id b ob h3 e2
  sep:=λi b h1 h2=>by
   obtain⟨id,e0,h3⟩:=h1.rJ zF;exact hh.rI.sep id b h3 (h2.rJ zF r6)
  inj:=λi i' b h1 h2=>by
   obtain⟨id,e0,h3⟩:=h1.rJ zF;obtain⟨id',e1,h4⟩:=h2.rJ zF;obtain rfl:=hh.rI.inj id id' b h3 h4;exact xC r9 _ _ _ e0 e1
  st:=λi b ob' o u h1 h2 h3=>by
   obtain⟨id,e0,h4⟩:=h1.rJ zF;obtain⟨id',ob,e1,e2,rfl⟩:=jb h2 zF;rw[e0]at e1;cases e1
   obtain⟨l1,l2,l3,l4⟩:=xn sel ob;rw[l3,l4];exact hh.rI.st id b ob o u h4 e2 h3
  top:=λi ob' k u h1 h2 h3=>by
   obtain⟨id,ob,e1,e2,rfl⟩:=jb h1 zF;obtain⟨l1,l2,l3,l4⟩:=xn sel ob;rw[l4];simp only[Env.rJ,e1,dL]at h3;exact hh.rI.top id ob k u e2 bB h3
  sa:=λi ob' r t h1 h2 h3=>by
   obtain⟨id,ob,e1,e2,rfl⟩:=jb h1 zF;have hk4:ob.kind=4:=by rw[<-(xn sel ob).1];exact h2
   rw[mE hk4]at h3;have:=c8.1 r6 ob (cZ e2);rw[hk4,h3.2,h3.1]at this;obtain⟨p1,p2⟩:=hh.rI.sa id ob r t e2 hk4 h3;have ht:t.all kh=true:=ak this
   rw[mE hk4];exact⟨p1,p2.map λys hl=>hl.closed ht ⟨dA _,λ_ _ h=>absurd h (dx _),λ_ _ h=>absurd h (dx _),λ_ _ _ h=>h,λ_ _ _ h=>absurd h (dx _)⟩⟩
  yq:=λi i' b h1 h2=>by
   obtain⟨id,e0,h3⟩:=h1.rJ zF;obtain⟨id',e1,h4⟩:=h2.rJ zF;obtain rfl:=hh.rI.yq id id' b h3 h4;exact xC r9 _ _ _ e0 e1}
def zm.rJ(sel m:List Nat)(t:List C)(H:zf)(hB:eO B 0 sel=true)(zF:sel.all (λid=>Nat.blt id H.length)=true)(r9:xl sel=true)(r6:jf H=true):zm B ⟨t,H⟩ ⟨(tZ m 0 t).map (xa sel 9),jT sel H⟩:=λmm w E a hs=>by
 obtain⟨h1,h2⟩:=oN hB
 refine⟨E.rJ sel,⟨hs.heap.rJ sel zF r9 r6,((lz m t 0).LL hs.tmps).rJ (λc y hl=>hl.rJ sel 9),hs.defers,by simpa [jT] using h1⟩,
  ⟨⟨λid hops hi=>by simp[Env.rJ,h2 id hi],λid hops hi=>by simp[Env.rJ,h2 id hi],λ_ _ _ h=>h,λid k u hi hu=>by simpa [Env.rJ,h2 id hi] using hu⟩,rfl,rfl,rfl,de _,λ_ _ _=>V,λb o u hu=>.inl hu,?_⟩⟩
 rintro b (hb|⟨i,hb|hb⟩)
 .exact .inr (.inl (hb.rJ zF r6))
 .obtain⟨id,_,h3⟩:=hb.rJ zF;exact .inr (.inr ⟨id,.inl h3⟩)
 .obtain⟨id,_,h3⟩:=hb.rJ zF;exact .inr (.inr ⟨id,.inr h3⟩)
end
def WC.trans{c c' c'':C}(h:WC c c')(h':WC c' c''):WC c c'':=λE y hl=>h' E y (h E y hl)
def WC.nil(sz sz':Nat):WC (.rG 1 sz []) (.rG 0 sz' []):=(WC.none 1 sz sz').trans (WC.share 1 sz' [])
def sA.at:∀{cs:List C} {i:Nat} {c c':C},cs[i]?=some c->WC c c'->sA cs (cs.set i c')
 |[],i,c,c',h,hw=>by simp at h
 |x::xs,0,c,c',h,hw=>by simp at h;subst h;exact .cons hw (sA.refl xs)
 |x::xs,i+1,c,c',h,hw=>.cons (.refl x) (sA.at uY hw)
def zm.cell(i:Nat){c c':C}(h:s.tmps[i]?=some c)(hw:WC c c'):zm B s ⟨s.tmps.set i c',s.H⟩:=zm.tmps (sA.at h hw)
def tX(t2:List C):List C->Prop:=
 List.rec (motive:=λ_=>List C->Prop) (λt1=>match t1 with|[]=>True|_::_=>False)
  (λc' _ ih t1=>match t1 with
   |[]=>False
   |c::cs=>match c' with
    |.za=>ih cs
    |c'=>c=c'/\ih cs) t2
def mw:∀{t2 t1:List C},tX t2 t1->sA t1 t2
 |[],[],_=>.nil
 |[],_::_,h=>h.elim
 |_::_,[],h=>h.elim
 |c'::t2,c::t1,h=>by
  cases c' with
  |za=>exact .cons (.za c) (mw (t2:=t2) (t1:=t1) h)
  |_=>
   obtain⟨h1,h2⟩:=h;exact .cons (h1 ▸ .refl c) (mw (t2:=t2) (t1:=t1) h2)
section
variable {P:Program} {B:Nat}
def zm.tX{t1 t2:List C}(h:Ab.tX t2 t1):zm B ⟨t1,H⟩ ⟨t2,H⟩:=zm.tmps (mw h)
def zm.fM(n:Nat){t1 t2:List C}{H1 H2:zf}(h:Ab.tX t2 t1)(hB:Nat.ble B n=true)(hn:Nat.ble n H1.length=true)(ht:t2.all (j9 n 9)=true)(hr:jk n (H1.take n)=true)(hH:H1.take n=H2):zm B ⟨t1,H1⟩ ⟨t2,H2⟩:=by
 subst hH;exact(zm.tX h).trans (zm.drop (s:=⟨t2,H1⟩) n hB hn ht hr)
def zm.Br(t:Nat){id len ty:Nat}(ht:s.tmps[t]?=some (.sl id [] sz 0 len full))(hob:s.H[id]?=some ⟨2,ty,sz,rows,0⟩)(hlen:len=rows.length)
 (hno:∀r∈rows,∀c∈r,zy c=true):
  zm B s ⟨s.tmps.set t (.rG (if full then 1 else 0) sz rows),s.H.set id ⟨2,ty,sz,rows,rows.length⟩⟩:=by
 have:=zm.freeze (B:=B) t ht hob V V (by simp[hlen]) hno;rw[xk _ hob]at this;simpa [hlen] using this
def zL.oe(hh:zL w E H){id len ty:Nat}(hl:L E (.sl id [] sz 0 len full) y)(hob:H[id]?=some ⟨2,ty,sz,rows,0⟩)(hlen:len=rows.length)
 (hno:∀r∈rows,∀c∈r,zy c=true):
  ∃E1,zL w E1 (H.set id ⟨2,ty,sz,rows,rows.length⟩)/\L E1 (.rG (if full then 1 else 0) sz rows) y/\Grow w E H w E1 (H.set id ⟨2,ty,sz,rows,rows.length⟩):=by
 obtain⟨E1,hs,g⟩:=zm.Br (B:=H.length) (s:=⟨[.sl id [] sz 0 len full],H⟩) 0 V hob hlen hno 0 w E ⟨#[y],[]⟩ ⟨hh,LL.one hl,dA _,de _⟩;have hn:=hs.heap.n
 refine⟨E1,hs.heap,hs.tmps.cons_inv.1,⟨⟨by rw[hn,hh.n];simp,λid hops hi=>g.le.β id hops uU,λid hops hi=>g.le.κ id hops uU,g.le.St,λid k u hi=>g.le.G id k u uU⟩,
  g.os,g.tape,g.output,g.size,g.frame,g.qB,g.own⟩⟩
def zm.Bs(vid k:Nat){id len ty vty vsz:Nat}(hv:s.H[vid]?=some ⟨1,vty,vsz,[r],fz⟩)(hk:r[k]?=some (.sl id [] sz 0 len full))(hob:s.H[id]?=some ⟨2,ty,sz,rows,0⟩)(hlen:len=rows.length)
 (hno:∀r∈rows,∀c∈r,zy c=true)(hr:r.all zy=true)(hr':(r.set k (.rG (if full then 1 else 0) sz rows)).all zy=true):
  zm B s ⟨s.tmps,(s.H.set id ⟨2,ty,sz,rows,rows.length⟩).set vid ⟨1,vty,vsz,[r.set k (.rG (if full then 1 else 0) sz rows)],fz⟩⟩:=λm w E a hs=>by
 have hgb:zB s.H vid []=some (vsz,[r]):=by unfold zB;rw[hv];simp[z5]
 obtain⟨cur,e,h3,h4,h5⟩:=(hs.heap.base.rM _ _ _ _ _ hv hgb).rM;obtain⟨u,hu,ho⟩:=h5 0 k _ (jP.2 ⟨rfl,hk⟩);rw[z6.loose V]at ho;have hl:L E (.sl id [] sz 0 len full) u:=bx
 obtain⟨E1,hh1,hl1,g1⟩:=hs.heap.oe hl hob hlen hno;have hne:vid≠id:=by rintro rfl;rw[hv]at hob;cases hob
 have hob1:(s.H.set id ⟨2,ty,sz,rows,rows.length⟩)[vid]?=some ⟨1,vty,vsz,[r],fz⟩:=by rw[df,c6 (Ne.symm hne)];exact hv
 have hβ:E1.β vid []=E.β vid []:=g1.le.β vid [] (by rw[hs.heap.n];exact(cW.1 hv).1)
 have hcu:w.cell? ⟨E1.β vid [],k,none⟩=some u:=by
  unfold World.cell?;rw[hβ,h3];simpa using hu
 obtain⟨hR,g2⟩:=hh1.fm hob1 (r':=r.set k (.rG (if full then 1 else 0) sz rows)) aj hr hr' λj c c' v e1 e2 hl' hv=>by
  rw[df]at e2;split at e2
  .rename_i e;subst e;rw[hcu]at hv;cases hv
   split at e2
   .cases e2;exact hl1
   .cases e2
  .rw[e1]at e2;cases e2
   exact hl'
 exact cP
def ql.na{r:C}(h:ql P f [] args λc _=>jL 0 9 c=r):zb P f [] args r []:=λw E vs hh hl=>by
 refine(h w E vs hh hl).mono ?_;rintro e w' ⟨c,H',v,E',rfl,rfl,h1,h2,g⟩;have h3:=h1.drop 0 (dA _) (by simp[jk]);rw[pZ]at h3;have hn:E.n=0:=hh.n
 exact⟨v,E'.cut 0,rfl,h3,h2.low 0 9,⟨⟨by rw[hn];exact dA _,λid hops hi=>by rw[hn]at hi;omega,λid hops hi=>by rw[hn]at hi;omega,g.le.St,λid k u hi=>by rw[hn]at hi;omega⟩,g.os,g.tape,g.output,g.size,g.frame,g.qB,
  λb h=>absurd h qK.none⟩⟩
def zb.zj{r:C}(hf:P.funcs[f]?=some fn)(hb:fn.body=some c)
 (h:wpA P 0 c (entry fn args) [] λex t1 H1=>(ex=.ret\/ex=.normal)/\∃s2,zm 0 ⟨t1,H1⟩ s2/\(yJ P fn s2).map (jL 0 9)=some r):zb P f [] args r []:=by
 refine ql.na (ql.ye (H:=[]) hf hb ((qD h).mono λex s1 ⟨hex,s2,hw,h2⟩=>?_));cases h3:yJ P fn s2 with
 |none=>rw[h3]at h2;cases h2
 |some r0=>
  rw[h3]at h2;cases h2
  exact⟨hex,s2,r0,hw,h3,rfl⟩
def ab{r:C}{zQ:Prop}(hf:P.funcs[f]?=some fn)(z0:zQ)(hb:fn.body=some c:=by exact V)(ze:zQ->wpA P 0 c (entry fn args) [] λex t1 H1=>(ex=.ret\/ex=.normal)/\∃s2,zm 0 ⟨t1,H1⟩ s2/\(yJ P fn s2).map (jL 0 9)=some r:=by intro zh;(conv=>whnf);exact zh):zb P f [] args r []:=zb.zj hf hb (ze z0)
def zp.seq{t:List C}(N:Nat)(T:Nat->List C)(Hp:Nat->zf)(R:Nat->Prop)(h0:zm B ⟨t,H⟩ ⟨T 0,Hp 0⟩)(r0:R 0)
 (step:∀k,k<N->R k->wpA P B c (T k) (Hp k) λe t1 H1=>(e=.normal/\zm B ⟨t1,H1⟩ ⟨T (k+1),Hp (k+1)⟩/\R (k+1))\/(e≠.normal/\K e t1 H1))
 (done:R N->wpA P B c (T N) (Hp N) λe t1 H1=>e≠.normal/\K e t1 H1):
  wc P B c t H K:=by
 have key:∀n k,k+n=N->R k->vx P B c (n+1) ⟨T k,Hp k⟩ λex s=>K ex s.tmps s.H:=by
  intro n
  induction n with
  |zero=>
   intro k hk hr;obtain rfl:k=N:=ah
   refine .step ((qD (done hr)).mono λex s1 ⟨hne,hK⟩=>?_);cases ex with
   |normal=>exact absurd V hne
   |_=>exact hK
  |succ n ih=>
   intro k hk hr;refine .step ((qD (step k ah hr)).post λex s1 h1=>?_);rcases h1 with⟨rfl,hw,hr'⟩|⟨hne,hK⟩
   .exact⟨_,hw,(ih (k+1) ah hr':vx P B c (n+1) _ _)⟩
   .refine⟨s1,.refl s1,?_⟩;cases ex with
    |normal=>exact absurd V hne
    |_=>exact hK
 exact⟨.pre h0 ⟨N+1,key N 0 ah r0⟩⟩
end
section
variable {P:Program} {B:Nat}
structure LoopN(P:Program)(B:Nat)(c:Code)(n:Nat)(t:List C)(H:zf)(K:Exit->List C->zf->Prop):Prop where
 out:vx P B c n ⟨t,H⟩ λex s=>K ex s.tmps s.H
def LoopN.step{c:Code}{n:Nat}{t:List C}{H:zf}{K:Exit->List C->zf->Prop}
 (h:wpA P B c t H λe t1 H1=>(e=.normal/\LoopN P B c n t1 H1 K)\/(e≠.normal/\K e t1 H1)):LoopN P B c (n+1) t H K:=by
 refine⟨.step ((qD h).post λex s1 h1=>?_)⟩;rcases h1 with⟨rfl,h⟩|⟨hne,hK⟩
 .exact⟨s1,.refl s1,h.out⟩
 .refine⟨s1,.refl s1,?_⟩;cases ex with
  |normal=>exact absurd V hne
  |_=>exact hK
def wc.fU(n:Nat){t:List C}(h:LoopN P B c n t H K):wc P B c t H K:=⟨⟨n,h.out⟩⟩
end
section
variable {P:Program} {B:Nat}
def kO{x y:Code}{t:List C}{R:Exit->S->Prop}(h:wpA P B x t H λe t1 H1=>(e=.normal/\∃t2 H2,zm B ⟨t1,H1⟩ ⟨t2,H2⟩/\qb P B y ⟨t2,H2⟩ R)\/(e≠.normal/\R e ⟨t1,H1⟩)):qb P B (.seq x y) ⟨t,H⟩ R:=by
 refine .seq ((qD h).post λex s1 h1=>?_);rcases h1 with⟨rfl,t2,H2,hw,hr⟩|⟨hne,hr⟩
 .exact⟨_,hw,hr⟩
 .refine⟨s1,.refl s1,?_⟩;cases ex with
  |normal=>exact absurd V hne
  |_=>exact hr
end
def behind:Nat->Code->Code
 |0,c=>c
 |n+1,.seq _ y=>behind n y
 |_,c=>c
def cE(n:Nat){t1 t2:List C}{H1 H2:zf}(h:Ab.tX t2 t1:=by (conv=>whnf);refine hO ?_;exact trivial)(hB:Nat.ble B n=true:=by exact V)(hn:Nat.ble n H1.length=true:=by exact V)(ht:t2.all (j9 n 9)=true:=by exact V)(hr:jk n (H1.take n)=true:=by exact V)(hH:H1.take n=H2:=by exact V):zm B ⟨t1,H1⟩ ⟨t2,H2⟩:=zm.fM n h hB hn ht hr hH
def cC{t1 t2:List C}(h:Ab.tX t2 t1:=by (conv=>whnf);refine hO ?_;exact trivial):zm B ⟨t1,H⟩ ⟨t2,H⟩:=zm.tX h
end Go.Ab
