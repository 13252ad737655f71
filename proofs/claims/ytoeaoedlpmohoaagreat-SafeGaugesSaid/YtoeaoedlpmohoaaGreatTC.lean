import Derived.IntWalk
import Derived.Test.YtoeaoedlpmohoaaGreatTB
set_option linter.all false
set_option maxRecDepth 100000
set_option maxHeartbeats 4000000
namespace Go.Ab
def JA(x:Value)(k:Value->Prop):Prop:=
 match x with
 |.int t n=>k (.int t n)
 |.bool b=>k (.bool b)
 |.string s=>k (.string s)
 |x=>k x
def jw(n:Nat)(k:Nat->Prop):Prop:=
 match n with
 |0=>k 0
 |1=>k 1
 |2=>k 2
 |3=>k 3
 |4=>k 4
 |5=>k 5
 |6=>k 6
 |7=>k 7
 |8=>k 8
 |9=>k 9
 |10=>k 10
 |11=>k 11
 |12=>k 12
 |13=>k 13
 |14=>k 14
 |15=>k 15
 |16=>k 16
 |17=>k 17
 |18=>k 18
 |19=>k 19
 |20=>k 20
 |21=>k 21
 |22=>k 22
 |23=>k 23
 |24=>k 24
 |25=>k 25
 |26=>k 26
 |27=>k 27
 |28=>k 28
 |29=>k 29
 |30=>k 30
 |31=>k 31
 |32=>k 32
 |33=>k 33
 |34=>k 34
 |35=>k 35
 |36=>k 36
 |37=>k 37
 |38=>k 38
 |39=>k 39
 |40=>k 40
 |41=>k 41
 |42=>k 42
 |43=>k 43
 |44=>k 44
 |45=>k 45
 |46=>k 46
 |47=>k 47
 |48=>k 48
 |49=>k 49
 |50=>k 50
 |51=>k 51
 |52=>k 52
 |53=>k 53
 |54=>k 54
 |55=>k 55
 |56=>k 56
 |57=>k 57
 |58=>k 58
 |59=>k 59
 |60=>k 60
 |61=>k 61
 |62=>k 62
 |63=>k 63
 |64=>k 64
 |n=>k n
def qy{n:Nat}{k:Nat->Prop}(h:jw n k):k n:=by
 unfold jw at h;split at h <;> exact h
def xB{α:Type}:List α->(List α->Prop)->Prop
 |[],k=>k []
 |x::xs,k=>xB xs λys=>k (x::ys)
def jh{α:Type}:∀{l:List α} {k:List α->Prop},xB l k->k l
 |[],k,h=>h
 |x::xs,k,h=>jh (l:=xs) (k:=λys=>k (x::ys)) h
def qR(c:C)(k:C->Prop):Prop:=
 match c with
 |.v x=>JA x λx=>k (.v x)
 |.fh o sz rows=>k (.fh o sz rows)
 |.jt cells=>xB cells λcells=>k (.jt cells)
 |.ref id hops sz i j=>jw id λid=>jw sz λsz=>jw j λj=>k (.ref id hops sz i j)
 |.sl id hops sz lo len full=>jw id λid=>k (.sl id hops sz lo len full)
 |.fn f first caps=>k (.fn f first caps)
 |.mp id=>jw id λid=>k (.mp id)
 |.agg cs=>xB cs λcs=>k (.agg cs)
 |.fq cs=>xB cs λcs=>k (.fq cs)
 |.un=>k .un
 |.za=>k .za
 |.gl id sz rows=>jw id λid=>k (.gl id sz rows)
 |.ig t c=>k (.ig t c)
 |.rc r=>k (.rc r)
def Sx{x:Value}{k:Value->Prop}(h:JA x k):k x:=by
 unfold JA at h;split at h <;> exact h
def zO{c:C}{k:C->Prop}(h:qR c k):k c:=by
 cases c with
 |v x=>exact Sx (k:=λx=>k (.v x)) h
 |jt cells=>exact jh (k:=λcells=>k (.jt cells)) h
 |ref id hops sz i j=>exact qy (k:=λj=>k (.ref id hops sz i j)) (qy (k:=λsz=>jw j λj=>k (.ref id hops sz i j)) (qy (k:=λid=>jw sz λsz=>jw j λj=>k (.ref id hops sz i j)) h))
 |sl id hops sz lo len full=>exact qy (k:=λid=>k (.sl id hops sz lo len full)) h
 |mp id=>exact qy (k:=λid=>k (.mp id)) h
 |gl id sz rows=>exact qy (k:=λid=>k (.gl id sz rows)) h
 |agg cs=>exact jh (k:=λcs=>k (.agg cs)) h
 |fq cs=>exact jh (k:=λcs=>k (.fq cs)) h
 |_=>exact h
def vt{α:Type}(f:α->(α->Prop)->Prop):List α->(List α->Prop)->Prop
 |[],k=>k []
 |x::xs,k=>f x λx=>vt f xs λxs=>k (x::xs)
def qQ{α:Type}{f:α->(α->Prop)->Prop}(hf:∀x k,f x k->k x):∀{l:List α} {k:List α->Prop},vt f l k->k l
 |[],k,h=>h
 |x::xs,k,h=>qQ hf (l:=xs) (k:=λxs=>k (x::xs)) (hf x _ h)
def IU(ob:Ob)(k:Ob->Prop):Prop:=
 match ob with
 |⟨kind,ty,sz,rows,fz⟩=>match kind with
  |1=>jw sz λsz=>vt (vt qR) rows λrows=>k ⟨1,ty,sz,rows,fz⟩
  |kd=>k ⟨kd,ty,sz,rows,fz⟩
def RJ{ob:Ob}{k:Ob->Prop}(h:IU ob k):k ob:=by
 obtain⟨kind,ty,sz,rows,fz⟩:=ob;unfold IU at h;dsimp only at h;split at h
 ·exact qQ (λ_ _ h=>qQ (λ_ _ h=>zO h) h) (k:=λrows=>k ⟨1,ty,sz,rows,fz⟩) (qy (k:=λsz=>vt (vt qR) rows λrows=>k ⟨1,ty,sz,rows,fz⟩) h)
 ·exact h
def BM(H:zm)(k:zm->Prop):Prop:=vt IU H k
def kU{H:zm}{k:zm->Prop}(h:BM H k):k H:=qQ (λ_ _ h=>RJ h) h
def okB(c:C)(k:C->Prop):Prop:=
 match c with
 |.v (.bool b)=>(b=true->k (.v (.bool true)))/\(b=false->k (.v (.bool false)))
 |c=>k c
def Ki(c:C)(k:C->Prop):Prop:=
 match c with
 |.v (.bool b)=>match b with
  |true=>k (.v (.bool true))
  |false=>k (.v (.bool false))
 |c=>qR c k
def MB{c:C}{k:C->Prop}(h:Ki c k):k c:=by
 unfold Ki at h;split at h
 ·rename_i b;cases b <;> exact h
 ·exact zO h
def jq{c:C}{k:C->Prop}(h:okB c k):k c:=by
 unfold okB at h;split at h
 ·rename_i b;cases b
  ·exact h.2 J
  ·exact h.1 J
 ·exact h
def Bu{α:Type}:List α->Nat->α->(List α->Prop)->Prop
 |[],_,_,k=>k []
 |_::xs,0,y,k=>k (y::xs)
 |x::xs,n+1,y,k=>Bu xs n y λys=>k (x::ys)
def wU{α:Type}:∀{l:List α} {n:Nat} {y:α} {k:List α->Prop},Bu l n y k->k (l.set n y)
 |[],_,_,k,h=>h
 |_::xs,0,y,k,h=>h
 |x::xs,n+1,y,k,h=>wU (l:=xs) (n:=n) (y:=y) (k:=λys=>k (x::ys)) h
def nF(tmps:List C)(dst:Option Tmp)(c:C)(k:List C->Prop):Prop:=
 match dst with
 |some d=>Bu tmps d c k
 |none=>k tmps
def jD{tmps:List C}{dst:Option Tmp}{c:C}{k:List C->Prop}(h:nF tmps dst c k):k (put tmps dst c):=by
 cases dst with
 |none=>exact h
 |some d=>exact wU h
def bK(b:Bool)(k:Prop):Prop:=
 match b with
 |true=>k
 |false=>False
def z7{b:Bool}{k:Prop}(h:bK b k):b=true/\k:=by
 cases b
 ·exact cT
 ·exact⟨rfl,h⟩
def oQ(ρ:Operand->C)(x:Option Operand)(dflt:Nat)(k:Nat->Prop):Prop:=
 match x with
 |none=>k dflt
 |some y=>match ρ y with
  |.v (.int _ n)=>0<=n/\k n.toNat
  |_=>False
def yz{ρ:Operand->C}{x:Option Operand}{dflt:Nat}{k:Nat->Prop}(h:oQ ρ x dflt k):∃n,mJ ρ x dflt n/\k n:=by
 unfold oQ at h;unfold mJ;cases x with
 |none=>exact⟨dflt,rfl,h⟩
 |some y=>
  dsimp only at h;split at h
  ·rename_i kd n e;exact⟨n.toNat,⟨kd,by rw[e,rF h.1]⟩,h.2⟩
  ·exact cT
def Be(place:Nat->Option (Nat×Nat)):List C->List (Nat×C)->(List C->Prop)->Prop
 |cells,[],k=>k cells
 |cells,(i,c)::rest,k=>match place i with
  |none=>False
  |some (off,size)=>bK (mH c && (c.cells.length == size) && decide (off+size<=cells.length)) <|vt qR (x7 off c.cells cells) λcells=>Be place cells rest k
def HT{place:Nat->Option (Nat×Nat)}:∀{parts:List (Nat×C)} {cells:List C} {k:List C->Prop},Be place cells parts k->∃cs,Bc place cells parts=some cs/\k cs
 |[],cells,k,h=>⟨cells,rfl,h⟩
 |(i,c)::rest,cells,k,h=>by
  unfold Be at h;split at h
  ·exact cT
  ·rename_i off size hp;obtain⟨h1,h2⟩:=z7 h;have h3:=qQ (λ_ _ h=>zO h) (k:=λcells=>Be place cells rest k) h2;obtain⟨cs,h4,h5⟩:=HT h3;refine⟨cs,?_,h5⟩;simp only[Bc,hp];rw[gh h1];exact h4
def JG(P:Program)(t:TypeId)(parts:List (Nat×C))(k:List C->Prop):Prop:=
 match nk P t,P.underlying t with
 |some z,some (.array _ e)=>match P.info? e with
  |some ie=>vt qR z λz=>Be (λi=>some (i*ie.size,ie.size)) z parts k
  |none=>False
 |some z,some (.struct fields)=>match fields.toList.mapM (λf=>(P.info? f.type).map λi=>(f.offset,i.size)) with
  |some places=>xB places λplaces=>vt qR z λz=>Be (places.toArray[·]?) z parts k
  |none=>False
 |_,_=>False
def LC{P:Program}{t:TypeId}{parts:List (Nat×C)}{k:List C->Prop}(h:JG P t parts k):∃cs,Gh P t parts=some cs/\k cs:=by
 unfold JG at h;unfold Gh;split at h
 ·rename_i z n e hz hu;simp only[hz,hu];split at h
  ·rename_i ie hie;simp only[hie];exact HT (qQ (λ_ _ h=>zO h) (k:=λz=>Be (λi=>some (i*ie.size,ie.size)) z parts k) h)
  ·exact cT
 ·rename_i z fields hz hu;simp only[hz,hu];split at h
  ·rename_i places hpl;simp only[hpl];have h1:=jh (k:=λplaces:List (Nat×Nat)=>vt qR z λz=>Be (places.toArray[·]?) z parts k) h;exact HT (qQ (λ_ _ h=>zO h) (k:=λz=>Be (places.toArray[·]?) z parts k) h1)
  ·exact cT
 ·exact cT
def JN(P:Program)(H:zm)(ρ:Operand->C)(t:TypeId)(x:Operand)(lo hi mx:Option Operand)(K:C->zm->Prop):Prop:=
 match P.underlying t with
 |some (.slice e)=>match P.info? e with
  |some i=>match ρ x with
   |.fh fo sz rows=>(rows=[]\/sz=i.size)/\match mx with
    |none=>match hi with
     |none=>oQ ρ lo 0 λl=>l<=rows.length/\K (.fh (if fo == 1 then 1 else 0) sz (rows.drop l)) H
     |some hh=>oQ ρ lo 0 λl=>oQ ρ (some hh) rows.length λh=>l<=h/\h<=rows.length/\K (.fh 0 sz ((rows.drop l).take (h-l))) H
    |some m=>match hi with
     |some hh=>oQ ρ lo 0 λl=>oQ ρ (some hh) 0 λh=>oQ ρ (some m) 0 λm'=>m'=h/\l<=h/\h<=rows.length/\K (.fh 1 sz ((rows.drop l).take (h-l))) H
     |none=>False
   |.sl id hops sz lo0 len full=>match mx with
    |none=>sz=i.size/\oQ ρ lo 0 λl=>oQ ρ hi len λh=>l<=h/\h<=len/\(l=0\/l<h)/\(full=false\/h=len)/\K (.sl id hops sz (lo0+l) (h-l) full) H
    |some _=>False
   |_=>False
  |none=>False
 |some .string=>match ρ x with
  |.v (.string s)=>match s with
   |⟨⟨b⟩⟩=>match mx with
    |none=>oQ ρ lo 0 λl=>oQ ρ hi b.length λh=>l<=h/\h<=b.length/\K (.v (.string ⟨⟨(b.take h).drop l⟩⟩)) H
    |some _=>False
  |_=>False
 |_=>False
def JD(P:Program)(H:zm)(ρ:Operand->C)(t:TypeId)(x y:Operand)(K:C->zm->Prop):Prop:=
 match P.underlying t with
 |some (.slice e)=>match P.info? e with
  |some i=>match ρ y with
   |.v (.int _ n)=>match ρ x with
    |.fh o sz rows=>bK ((o == 0 || o == 1) && sz == i.size) <|0<=n/\∃r,rows[n.toNat]?=some r/\K (.jt r) H
    |.sl id hops sz lo len _=>bK (sz == i.size) <|0<=n/\n.toNat<len/\K (.ref id hops sz (lo+n.toNat) 0) H
    |_=>False
   |_=>False
  |none=>False
 |some (.array len e)=>match P.info? e with
  |some i=>match ρ y with
   |.v (.int _ n)=>match BG (ρ x) (n.toNat*i.size) with
    |some c=>0<=n/\n<len/\qR c λc=>K c H
    |none=>False
   |_=>False
  |none=>False
 |_=>False
def JE(P:Program)(H:zm)(ρ:Operand->C)(t:TypeId)(x y:Operand)(K:C->zm->Prop):Prop:=
 match ρ y with
 |.v (.int _ n)=>match P.underlying t with
  |some .string=>match ρ x with
   |.v (.string s)=>match s with
    |⟨⟨b⟩⟩=>0<=n/\∃c,b[n.toNat]?=some c/\K (.v (.int .u8 c.toNat)) H
   |_=>False
  |some (.array len e)=>match P.info? e with
   |some i=>match ρ x with
    |.agg cs=>0<=n/\n<len/\∃c,AJ P e cs (n.toNat*i.size)=some c/\okB c λc=>qR c λc=>K c H
    |_=>False
   |none=>False
  |_=>False
 |_=>False
def JJ(P:Program)(H:zm)(ρ:Operand->C)(t:TypeId)(x:Operand)(f:Nat)(K:C->zm->Prop):Prop:=
 match P.underlying t with
 |some (.struct fs)=>match fs[f]? with
  |some fd=>match ρ x with
   |.agg cs=>match AJ P fd.type cs fd.offset with
    |some c=>okB c λc=>qR c λc=>K c H
    |none=>False
   |_=>False
  |none=>False
 |_=>False
def JI(P:Program)(H:zm)(ρ:Operand->C)(t:TypeId)(x:Operand)(f:Nat)(K:C->zm->Prop):Prop:=
 match P.underlying t with
 |some (.struct fs)=>match fs[f]? with
  |some fd=>match P.info? fd.type with
   |some i=>match BG (ρ x) fd.offset with
    |some c=>bK (i.size != 0) <|qR c λc=>K c H
    |none=>False
   |none=>False
  |none=>False
 |_=>False
def FX(P:Program)(H:zm)(x:C)(sz':Nat)(rows':List (List C))(e:TypeId)(i:TypeInfo)(K:C->zm->Prop):Prop:=
 match rows' with
 |[]=>(xJ H (fZ x)).isSome=true/\K (fZ x) H
 |r'::rs'=>bK (sz' == i.size) <|jw i.size λsz0=>jw H.length λm=>match x with
  |.fh 1 sz rows=>(rows=[]\/sz=sz0)/\rows.length+(rs'.length+1)<=maxLen/\(rows.length+(rs'.length+1))*i.bytes<=140737488355328/\
    xB (H++[⟨2,e,sz0,rows++r'::rs',0⟩]) λH'=>K (.sl m [] sz0 0 (rows.length+(rs'.length+1)) false) H'
  |.sl id [] sz 0 n false=>match H[id]? with
   |some ob=>bK (sz == sz0 && ob.kind == 2 && ob.ty == e && ob.sz == sz0) <|ob.rows.length=n/\ob.rows.all (·.all zx)=true/\n+(rs'.length+1)<=maxLen/\(n+(rs'.length+1))*i.bytes<=140737488355328/\
     xB (jP H id++[⟨2,e,sz0,ob.rows++r'::rs',ob.fz⟩]) λH'=>K (.sl m [] sz0 0 (n+(rs'.length+1)) false) H'
   |none=>False
  |_=>False
def OP(H:zm)(sz:Nat)(rows:List (List C))(sz':Nat)(rows':List (List C))(e:TypeId)(i:TypeInfo)(K:C->zm->Prop):Prop:=
 jw i.size λsz0=>jw H.length λm=>(rows=[]\/sz=sz0)/\(rows'=[]\/sz'=sz0)/\rows.length+rows'.length<=maxLen/\(rows.length+rows'.length)*i.bytes<=140737488355328/\
  xB (H++[⟨4,e,sz0,rows++rows',0⟩]) λH'=>K (.gl m sz0 (rows++rows')) H'
def I5(P:Program)(H:zm)(ρ:Operand->C)(x y:Operand)(e:TypeId)(i:TypeInfo)(K:C->zm->Prop):Prop:=
 match xJ H (fZ (ρ y)) with
 |some (sz',rows')=>match ρ x with
  |.gl id sz rows=>match H[id]? with
   |some ob=>bK (sz == i.size) <|jw i.size λsz0=>ob=⟨4,e,sz,rows,0⟩/\(rows'=[]\/sz'=sz0)/\rows.length+rows'.length<=maxLen/\(rows.length+rows'.length)*i.bytes<=140737488355328/\
     Bu H id ⟨4,e,sz0,rows++rows',0⟩ λH'=>K (.gl id sz0 (rows++rows')) H'
   |none=>False
  |.fh 1 sz rows=>OP H sz rows sz' rows' e i K\/FX P H (.fh 1 sz rows) sz' rows' e i K
  |x=>FX P H x sz' rows' e i K
 |none=>False
def Kv(H:zm)(op:BinOp)(a b:List UInt8)(K:C->zm->Prop):Prop:=
 match op with
 |.eql=>okB (.v (.bool (a == b))) λc=>K c H
 |.neq=>okB (.v (.bool (!(a == b)))) λc=>K c H
 |.add=>a.length+b.length<=9223372036854775807/\K (.v (.string ⟨⟨a++b⟩⟩)) H
 |_=>False
def GH(P:Program)(H:zm)(ρ:Operand->C)(o:Oper)(cl:Call)(K:C->zm->Prop):Prop:=
 match cl.callee with
 |.value x=>match ρ x with
  |.fn f first caps=>bK (qp P f) <| ∃r H',zb P f H (first++(cl.args.toList.map λx=>fZ (ρ x))++caps) r H'/\okB r λr=>K r H'
  |.v (.func g first caps)=>match g with
   |.yield l=>bK (first.isEmpty && caps.isEmpty) <| ∃r H',jI P l H (cl.args.toList.map ρ) r H'/\okB r λr=>K r H'
   |_=>False
  |_=>False
 |.invoke x name=>match ρ x with
  |.ig t c=>∃f,J9 P t name f=true/\qp P f=true/\∃r H',zb P f H (c::(cl.args.toList.map ρ)) r H'/\okB r λr=>K r H'
  |_=>False
 |.builtin .len=>match cl.args.toList,cl.argTypes.toList with
  |[x],[t]=>match P.underlying t with
   |some (.slice _)=>match GM (fZ (ρ x)) with
    |some n=>K (.v (.int .i64 n)) H
    |none=>False
   |some .string=>match ρ x with
    |.v (.string s)=>match s with
     |⟨⟨b⟩⟩=>K (.v (.int .i64 b.length)) H
    |_=>False
   |_=>match mE P (execOp (λx=>AU (ρ x)) o) with
    |some (.value v)=>bK (o.op.operands.toList.all (λx=>fE (ρ x)) && v.oneCell') <|okB (.v v) λc=>K c H
    |_=>False
  |_,_=>False
 |.builtin .append=>match cl.args.toList,cl.argTypes.toList with
  |[x,y],[t,t']=>bK (t' == t) <|match P.underlying t with
   |some (.slice e)=>match P.info? e with
    |some i=>match i.zero with
     |some z=>bK (z.cells.size == i.size) <|I5 P H ρ x y e i K
     |none=>False
    |none=>False
   |_=>False
  |_,_=>False
 |_=>match mE P (execOp (λx=>AU (ρ x)) o) with
  |some (.value v)=>bK (o.op.operands.toList.all (λx=>fE (ρ x)) && v.oneCell') <|okB (.v v) λc=>K c H
  |_=>False
def Qv(P:Program)(H:zm)(o:Oper)(ρ:Operand->C)(op:BinOp)(t:TypeId)(xs ys:List C)(K:C->zm->Prop):Prop:=
 (!P.eqGuardType P.depth t && oz P 9 t)=true/\match oo P 9 t (.agg xs) (.agg ys) with
  |some b=>match op with
   |.eql=>okB (.v (.bool b)) λc=>K c H
   |.neq=>okB (.v (.bool (!b))) λc=>K c H
   |_=>False
  |none=>False
def EE(P:Program)(t:TypeId)(id:Nat)(hops:List fT)(i k:Nat)(r:List C)(K:C->Prop):Prop:=
 match P.underlying t,P.info? t with
 |some d,some inf=>match CY d with
  |true=>k+inf.size<=r.length/\vt qR (vW id hops i k ((r.drop k).take inf.size)) λcs=>K (.agg cs)
  |false=>k+1<=r.length/\match vW id hops i k ((r.drop k).take 1) with
   |[x]=>okB x λx=>qR x K
   |_=>False
 |_,_=>False
def Ew(P:Program)(H:zm)(t:TypeId)(c:C)(K:C->Prop):Prop:=
 match c with
 |.ref id hops sz i k=>match H[id]? with
  |some ⟨kind,ty,osz,orows,fz⟩=>match kind with
   |2=>match hops with
    |[]=>bK (osz == sz) <| ∃r,orows[i]?=some r/\EE P t id [] i k r K
    |h::hs=>∃rows r,qf H id (h::hs)=some (sz,rows)/\rows[i]?=some r/\EE P t id (h::hs) i k r K
   |1=>match ty with
    |0=>bK (osz == sz && hops.isEmpty) <| ∃r,orows[i]?=some r/\EE P t id [] i k r K
    |_=>match mS P H t (.ref id hops sz i k) with
     |some c=>okB c λc=>qR c K
     |none=>False
   |_=>match mS P H t (.ref id hops sz i k) with
    |some c=>okB c λc=>qR c K
    |none=>False
  |none=>False
 |c=>match mS P H t c with
  |some c=>okB c λc=>qR c K
  |none=>False
def HL{P:Program}{H:zm}{t:TypeId}{id:Nat}{hops:List fT}{sz i k:Nat}{rows:List (List C)}{r:List C}{K:C->Prop}(hg:qf H id hops=some (sz,rows))(hr:rows[i]?=some r)(h:EE P t id hops i k r K):
  ∃c,mS P H t (.ref id hops sz i k)=some c/\K c:=by
 unfold EE at h;split at h
 ·rename_i d inf hd hi;have hrd:∀n,k+n<=r.length->Ae H (.ref id hops sz i k) n=some (vW id hops i k ((r.drop k).take n)):=λn hn=>by simp[Ae,hg,hr,hn]
  split at h
  ·rename_i hag;obtain⟨h1,h2⟩:=h;refine⟨_,?_,qQ (λ_ _ h=>zO h) (k:=λcs=>K (.agg cs)) h2⟩;unfold mS;rw[hd,hi];simp only[hag,if_true];rw[hrd _ h1]
   rfl
  ·rename_i hag;obtain⟨h1,h2⟩:=h;split at h2
   ·rename_i x hx;refine⟨x,?_,zO (jq (k:=λx=>qR x K) h2)⟩;unfold mS;rw[hd,hi];simp only[hag];rw[hrd _ h1,hx]
    rfl
   ·exact h2.elim
 ·exact cT
def Fe{P:Program}{H:zm}{t:TypeId}{c:C}{K:C->Prop}(h:Ew P H t c K):∃c',mS P H t c=some c'/\K c':=by
 unfold Ew at h;split at h
 ·split at h
  ·rename_i id hops sz i k kind ty osz orows fz hob;split at h
   ·split at h
    ·obtain⟨h1,r,h2,h3⟩:=z7 h;simp only[pF]at h1;exact HL (by unfold qf;rw[hob];simp[qW,h1]) h2 h3
    ·obtain⟨rows,r,h1,h2,h3⟩:=h;exact HL h1 h2 h3
   ·split at h
    ·obtain⟨h1,r,h2,h3⟩:=z7 h;simp only[gA,pF,eU]at h1;obtain⟨h1,rfl⟩:=h1;exact HL (by unfold qf;rw[hob];simp[qW,h1]) h2 h3
    ·split at h
     ·rename_i c hc;exact⟨c,hc,zO (jq (k:=λc=>qR c K) h)⟩
     ·exact cT
   ·split at h
    ·rename_i c hc;exact⟨c,hc,zO (jq (k:=λc=>qR c K) h)⟩
    ·exact cT
  ·exact cT
 ·split at h
  ·rename_i c hc;exact⟨c,hc,zO (jq (k:=λc=>qR c K) h)⟩
  ·exact cT
def kC(r:List C)(k:Nat)(cs:List C)(K:List C->Prop):Prop:=bK (Nat.ble (k+cs.length) r.length) <|xB (x7 k cs r) K
def H5{r:List C}{k:Nat}{cs:List C}{K:List C->Prop}(h:kC r k cs K):k+cs.length<=r.length/\K (x7 k cs r):=
 ⟨rR (z7 h).1,jh (z7 h).2⟩
def Gm(P:Program)(H:zm)(t:TypeId)(a x:C)(K:zm->Prop):Prop:=
 match a with
 |.ref id hops sz i k=>match H[id]? with
  |some ⟨kind,ty,osz,orows,fz⟩=>match kind with
   |2=>match P.info? t with
    |some inf=>bK (mH x && (x.cells.length == inf.size) && x.cells.all jc) <|vt qR x.cells λcs=>match hops with
     |[]=>bK (osz == sz && fz == 0) <| ∃r,orows[i]?=some r/\((r.drop k).take cs.length).all zx=true/\kC r k cs λr'=>Bu H id ⟨2,ty,osz,orows.set i r',0⟩ K
     |h::hs=>bK (fz == 0) <| ∃rows r,qf H id (h::hs)=some (sz,rows)/\rows[i]?=some r/\((r.drop k).take cs.length).all zx=true/\kC r k cs λr'=>Bu H id ⟨2,ty,osz,qn orows (h::hs) (λrows=>rows.set i r'),0⟩ K
    |none=>False
   |1=>match ty with
    |0=>match P.info? t with
     |some inf=>bK (mH x && (x.cells.length == inf.size)) <|vt qR x.cells λcs=>bK (osz == sz && fz == 0 && hops.isEmpty) <| ∃r,orows[i]?=some r/\((r.drop k).take cs.length).all zx=true/\kC r k cs λr'=>Bu H id ⟨1,0,osz,orows.set i r',0⟩ K
     |none=>False
    |_=>match hops,orows,i with
     |[],[r],0=>match P.info? t with
      |some inf=>bK (osz == sz && fz == 0 && mH x && (x.cells.length == inf.size) && ((r.drop k).take x.cells.length).all zx) <|vt qR x.cells λcs=>kC r k cs λr'=>Bu H id ⟨1,ty,osz,[r'],0⟩ K
      |none=>False
     |hops,_,i=>match y7 P H t (.ref id hops sz i k) x with
      |some H'=>BM H' K
      |none=>False
   |_=>match y7 P H t (.ref id hops sz i k) x with
    |some H'=>BM H' K
    |none=>False
  |none=>False
 |a=>match y7 P H t a x with
  |some H'=>BM H' K
  |none=>False
def vo{α:Type}{l:List α}{i:Nat}{r:α}(f:α->α)(h:l[i]?=some r):l.modify i f=l.set i (f r):=by
 apply pq
 intro j;rw[pL,gD];split
 ·rename_i e;subst e;rw[gh (dW.1 h).1,h]
  rfl
 ·simp
def Mm{f g:List (List C)->List (List C)}:∀(hops:List fT) (sz:Nat) (rows:List (List C)) {sz':Nat} {rows':List (List C)},v7 sz rows hops=some (sz',rows')->f rows'=g rows'->qn rows hops f=qn rows hops g
 |[],sz,rows,sz',rows',h,he=>by
  rw[qW]at h;cases h
  exact he
 |(i,k)::hs,sz,rows,sz',rows',h,he=>by
  rw[xV]at h;rw[Fy,Fy];split at h
  ·rename_i sz2 rows2 hc
   try rw[hc]
   simp only[Mm hs sz2 rows2 h he]
  ·cases h
def Lx{P:Program}{H:zm}{t:TypeId}{a x:C}{K:zm->Prop}(h:Gm P H t a x K):∃H',y7 P H t a x=some H'/\K H':=by
 unfold Gm at h;cases a with
 |ref id hops sz i k=>
  dsimp only at h;split at h
  ·rename_i kind ty osz orows fz hob;split at h
   ·split at h
    ·rename_i inf hinf;obtain⟨hv,h⟩:=z7 h;have h:=qQ (λ_ _ h=>zO h) h;simp only[gA,pF]at hv
     have go:∀hops rows r,qf H id hops=some (sz,rows)->rows[i]?=some r->fz=0->((r.drop k).take x.cells.length).all zx=true->(kC r k x.cells λr'=>Bu H id ⟨2,ty,osz,qn orows hops (λrows=>rows.set i r'),0⟩ K)->
       ∃H',y7 P H t (.ref id hops sz i k) x=some H'/\K H':=λhops rows r h1 h2 h0 h3 h4=>by
      obtain⟨h5,h6⟩:=H5 h4;have h6:=wU h6;refine⟨_,?_,h6⟩;unfold y7;rw[hinf];dsimp only;rw[h1,hob];dsimp only;rw[h2];dsimp only;rw[gh]
      ·congr 1
       unfold mV;rw[vo _ hob]
       congr 1
       dsimp only;subst h0
       congr 1
       obtain⟨ob2,e1,_,e3⟩:=jo h1;rw[hob]at e1;cases e1
       exact Mm hops _ _ e3 (by unfold kK;rw[vo _ h2])
      ·simp only[gA,pF,pX,gH];exact⟨⟨⟨⟨⟨⟨⟨trivial,hv.1.1⟩,hv.1.2⟩,h5⟩,h3⟩,.inr hv.2⟩,.inr aw⟩,.inr h0⟩
     split at h
     ·obtain⟨h1,r,h2,h3,h4⟩:=z7 h;simp only[gA,pF]at h1;exact go [] orows r (by unfold qf;rw[hob];simp[qW,h1.1]) h2 h1.2 h3 h4
     ·obtain⟨h1,rows,r,h2,h3,h4,h5⟩:=z7 h;simp only[pF]at h1;exact go _ rows r h2 h3 h1 h4 h5
    ·exact cT
   ·split at h
    ·split at h
     ·rename_i inf hinf;obtain⟨hv,h⟩:=z7 h;have h:=qQ (λ_ _ h=>zO h) h;obtain⟨h1,r,h2,h3,h4⟩:=z7 h;obtain⟨h5,h6⟩:=H5 h4;have h6:=wU h6;simp only[gA,pF,eU]at hv h1;obtain⟨⟨rfl,rfl⟩,rfl⟩:=h1;refine⟨_,?_,h6⟩;have hg:qf H id []=some (osz,orows):=by unfold qf;rw[hob];simp[qW]
      unfold y7;rw[hinf];dsimp only;rw[hg,hob];dsimp only;rw[h2];dsimp only;rw[gh]
      ·congr 1
       unfold mV;rw[vo _ hob]
       congr 1
       dsimp only;rw[FU];unfold kK;rw[vo _ h2]
      ·simp only[gA,pF,pX,gH];exact⟨⟨⟨⟨⟨⟨⟨trivial,hv.1⟩,hv.2⟩,h5⟩,h3⟩,.inl trivial⟩,.inr aw⟩,.inr trivial⟩
     ·exact cT
    ·split at h
     ·rename_i r;split at h
      ·rename_i inf hinf;obtain⟨hv,h⟩:=z7 h;have h:=qQ (λ_ _ h=>zO h) h;obtain⟨h5,h6⟩:=H5 h;have h6:=wU h6;simp only[gA,pF]at hv;refine⟨_,?_,h6⟩;have h1:qf H id []=some (osz,[r]):=by unfold qf;rw[hob];simp[qW]
       unfold y7;rw[hinf];dsimp only;rw[h1,hob];dsimp only;rw[show [r][0]?=some r from J];dsimp only;rw[gh]
       ·congr 1
        unfold mV;rw[vo _ hob]
        congr 1
        dsimp only;obtain⟨⟨⟨⟨_,rfl⟩,_⟩,_⟩,_⟩:=hv;rw[FU];unfold kK
        rfl
       ·simp only[gA,pF,pX,gH];obtain⟨⟨⟨⟨e1,e2⟩,e3⟩,e4⟩,e5⟩:=hv;exact⟨⟨⟨⟨⟨⟨⟨e1,e3⟩,e4⟩,h5⟩,e5⟩,.inl trivial⟩,.inr aw⟩,.inr e2⟩
      ·exact cT
     ·split at h
      ·rename_i H' hc;exact⟨H',hc,kU h⟩
      ·exact cT
   ·split at h
    ·rename_i H' hc;exact⟨H',hc,kU h⟩
    ·exact cT
  ·exact cT
 |_=>
  dsimp only at h;split at h
  ·rename_i H' hc;exact⟨H',hc,kU h⟩
  ·exact cT
def Zi(H:zm)(a y:C):Bool:=
 match a with
 |.ref id _ _ _ _=>match H[id]? with
  |some ob=>match ob.kind with
   |2=>true
   |1=>match ob.ty with
    |0=>match y with
     |.gl ..=>false
     |_=>true
    |_=>false
   |_=>false
  |none=>false
 |_=>false
def J1(P:Program)(H:zm)(ρ:Operand->C)(o:Oper)(src dst:TypeId)(x:Operand)(K:C->zm->Prop):Prop:=
 match Ab.fZ (ρ x) with
 |.fh _ sz rows=>match P.underlying src,P.underlying dst with
  |some (.slice e),some .string=>match P.underlying e with
   |some (.int .u8)=>bK (sz == 1) <| ∃bts:List UInt8,rows=bts.map Ch/\K (.v (.string ⟨⟨bts⟩⟩)) H
   |_=>False
  |_,_=>False
 |_=>match mE P (execOp (λx=>AU (ρ x)) o) with
  |some (.value v)=>bK (xX o && o.op.operands.toList.all (λx=>fE (ρ x)) && v.oneCell') <|okB (.v v) λc=>K c H
  |_=>False
def J8(P:Program)(H:zm)(ρ:Operand->C)(t:TypeId)(x y:Operand)(K:C->zm->Prop):Prop:=
 match ρ x,ρ y with
 |.v (.int _ n),.v (.int _ n')=>match P.underlying t with
  |some (.slice e)=>match P.info? e with
   |some i=>match nk P e with
    |some cs=>bK (cs.all jc) <|n'=n/\0<=n/\(i.bytes:Int)*n<=281474976710656/\n<=9223372036854775807/\
      jw i.size λsz=>jw H.length λm=>xB (H++[⟨2,e,sz,List.replicate n.toNat cs,0⟩]) λH'=>K (.sl m [] sz 0 n.toNat false) H'
    |none=>False
   |none=>False
  |_=>False
 |_,_=>False
def Kc(o:Oper):Option (BinOp×TypeId×Operand):=
 match o.op with
 |.binOp op t x y _=>match y with
  |.const v=>match v with
   |.slice none 0 0=>some (op,t,x)
   |_=>none
  |_=>none
 |_=>none
def Kl(P:Program)(H:zm)(op:BinOp)(t:TypeId)(x:C)(K:C->zm->Prop):Prop:=
 match P.underlying t with
 |some (.slice _)=>match x with
  |.fh _ _ rows=>match rows with
   |[]=>match op with
    |.eql=>K (.v (.bool true)) H/\K (.v (.bool false)) H
    |.neq=>K (.v (.bool true)) H/\K (.v (.bool false)) H
    |_=>False
   |r::rs=>match op with
    |.eql=>r::rs≠[]/\K (.v (.bool false)) H
    |.neq=>r::rs≠[]/\K (.v (.bool true)) H
    |_=>False
  |.sl ..=>match op with
   |.eql=>K (.v (.bool false)) H
   |.neq=>K (.v (.bool true)) H
   |_=>False
  |_=>False
 |_=>False
def J6(o:Oper):Option (BinOp×TypeId×Operand):=
 match o.op with
 |.binOp op t x y _=>match y with
  |.const v=>match v with
   |.pointer p=>match p with
    |none=>some (op,t,x)
    |some _=>none
   |_=>none
  |_=>none
 |_=>none
def Jy(x:C):Option Bool:=
 match x with
 |.ref ..=>some false
 |.jt _=>some false
 |.v y=>match y with
  |.pointer p=>match p with
   |none=>some true
   |some _=>some false
  |_=>none
 |_=>none
def GW(P:Program)(t:TypeId):Bool:=
 match P.underlying t with
 |some (.pointer e)=>e == P.pointee t
 |_=>false
def Ks(P:Program)(H:zm)(op:BinOp)(t:TypeId)(x:C)(K:C->zm->Prop):Prop:=
 match Jy x with
 |some b=>match op with
  |.eql=>bK (GW P t) <|K (.v (.bool b)) H
  |.neq=>bK (GW P t) <|K (.v (.bool (!b))) H
  |_=>False
 |none=>False
def oG(P:Program)(H:zm)(ρ:Operand->C)(o:Oper)(K:C->zm->Prop):Prop:=
 match o.op with
 |.move x=>qR (ρ x) λc=>K c H
 |.assign x=>qR (ρ x) λc=>K c H
 |.pick x y z=>match ρ x with
  |.v (.bool b)=>qR (if b then ρ y else ρ z) λc=>K c H
  |_=>False
 |.alloc t=>match nk P t with
  |some cs=>xB cs λcs=>jw cs.length λn=>jw H.length λm=>xB (H++[⟨1,t,n,[cs],0⟩]) λH'=>K (.ref m [] n 0 0) H'
  |none=>False
 |.box t x=>bK (mH (ρ x)) <|vt qR (ρ x).cells λcs=>jw cs.length λn=>jw H.length λm=>xB (H++[⟨1,t,n,[cs],0⟩]) λH'=>K (.ref m [] n 0 0) H'
 |.fieldAddr t x f=>JI P H ρ t x f K
 |.indexAddr t x y=>JD P H (λx=>fZ (ρ x)) t x y K
 |.index t x y=>JE P H ρ t x y K
 |.field t x f=>JJ P H ρ t x f K
 |.load t x=>Ew P H t (ρ x) λc=>K c H
 |.store t x y=>match Zi H (ρ x) (ρ y) with
  |true=>Gm P H t (ρ x) (o9 (ρ y)) λH'=>K .un H'
  |false=>Gm P H t (ρ x) (ρ y) λH'=>K .un H'
 |.extract x n=>match ρ x with
  |.fq vs=>match vs[n]? with
   |some c=>okB c λc=>qR c λc=>K c H
   |none=>False
  |_=>False
 |.nilCheck x=>bK (Jn (ρ x)) <|qR (ρ x) λc=>K c H
 |.makeFunc f first caps=>match f with
  |.func f=>vt qR (first.toList.map ρ) λa=>vt qR (caps.toList.map ρ) λb=>K (.fn f a b) H
  |_=>False
 |.build t parts=>JG P t (parts.toList.map λp=>(p.1,ρ p.2)) λcs=>K (.agg cs) H
 |.makeInterface t x=>match P.underlying t with
  |some d=>bK (vS d) <|qR (ρ x) λc=>K (.ig t c) H
  |none=>False
 |.typeAssert x _ t ok=>bK ok <|match ρ x with
  |.ig t' c=>match P.underlying t with
   |some d=>match t' == t with
    |true=>bK (vS d) <|K (.fq [c,.v (.bool true)]) H
    |false=>match P.info? t with
     |some i=>bK (vS d && i.zero.isSome) <|K (.fq [.za,.v (.bool false)]) H
     |none=>False
   |none=>False
  |_=>False
 |.buildSlice t len parts=>match Kj P t len (parts.toList.map λp=>(p.1,o9 (ρ p.2))) with
  |some c=>match c with
   |.fh o sz rows=>vt (vt qR) rows λrows=>jw sz λsz=>K (.fh o sz rows) H
   |_=>False
  |none=>False
 |.slice t x lo hi mx=>JN P H (λx=>fZ (ρ x)) t x lo hi mx K
 |.makeSlice t x y=>J8 P H ρ t x y K
 |.lookup ..=>∃c H',fy P o ρ H c H'/\K c H'
 |.mapUpdate ..=>∃c H',fy P o ρ H c H'/\K c H'
 |.mapEntry ..=>∃c H',fy P o ρ H c H'/\K c H'
 |.entryStore ..=>∃c H',fy P o ρ H c H'/\K c H'
 |.call cl=>GH P H ρ o cl K
 |.binOp op t x y _=>match ρ x,ρ y with
  |.agg xs,.agg ys=>Qv P H o ρ op t xs ys K
  |.v (.string s),.v (.string s')=>match s,s' with
   |⟨⟨a⟩⟩,⟨⟨b⟩⟩=>Kv H op a b K
  |_,_=>match mE P (execOp (λx=>AU (ρ x)) o) with
   |some (.value v)=>bK (xX o && o.op.operands.toList.all (λx=>fE (ρ x)) && v.oneCell') <|okB (.v v) λc=>K c H
   |_=>False
 |.convert src dst x=>J1 P H ρ o src dst x K
 |.unOp _ _ _=>match mE P (execOp (λx=>AU (ρ x)) o) with
  |some (.value v)=>bK (xX o && o.op.operands.toList.all (λx=>fE (ρ x)) && v.oneCell') <|Ki (.v v) λc=>K c H
  |_=>False
 |_=>match mE P (execOp (λx=>AU (ρ x)) o) with
  |some (.value v)=>bK (xX o && o.op.operands.toList.all (λx=>fE (ρ x)) && v.oneCell') <|okB (.v v) λc=>K c H
  |_=>False
section
variable {P:Program} {o:Oper} {ρ:Operand->C} {H:zm} {K:C->zm->Prop}
def fy.nZ{c c':C}{H':zm}(h:fy P o ρ H c H')(hw:WC c c'):fy P o ρ H c' H':=λw E σ hh hl K hk=>h w E σ hh hl K λv w' E' h1 h2 g=>hk v w' E' h1 (hw E' v h2) g
def fy.JZ(cl:Call)(ho:o.op=.call cl)(x:Operand)(hcl:cl.callee=.value x){f:FuncId}{first caps:List C}(hf:ρ x=.fn f first caps)(hcb:qp P f=true){r:C}{H':zm}
 (hs:zb P f H (first++(cl.args.toList.map λx=>Ab.fZ (ρ x))++caps) r H'):fy P o ρ H r H':=.fZ <|.call cl ho x hcl (by rw[hf];rfl) hcb hs
def fy.zyo(t:TypeId)(x y:Operand)(ho:o.op=.store t x y){H':zm}(hs:y7 P H t (ρ x) (o9 (ρ y))=some H'):fy P o ρ H .un H':=by
 classical
 have hρ:∀z,∃c,(c=ρ z\/c=o9 (ρ z))/\(z=y->c=o9 (ρ z))/\(z≠y->c=ρ z):=λz=>by
  by_cases e:z=y
  ·exact⟨o9 (ρ z),.inr J,λ_=>J,λh=>absurd e h⟩
  ·exact⟨ρ z,.inl J,λh=>absurd h e,λ_=>J⟩
 obtain⟨ρ',hρ'⟩:∃ρ':Operand->C,∀z,(ρ' z=ρ z\/ρ' z=o9 (ρ z))/\(z=y->ρ' z=o9 (ρ z))/\(z≠y->ρ' z=ρ z):=⟨λz=>(hρ z).choose,λz=>(hρ z).choose_spec⟩
 have hx:ρ' x=ρ x:=by
  rcases(hρ' x).1 with e|e
  ·exact e
  ·rw[e];unfold y7 at hs;split at hs
   ·rename_i e2 _;rw[e2];rfl
   ·cases hs
 have h0:qO P o ρ' H .un H':=qO.store t x y ho (by rw[hx,(hρ' y).2.1 J];exact hs);refine .Ay (h0.weaken λz E v hl=>?_) (HC hs);rcases(hρ' z).1 with e|e
 ·rw[e];exact hl
 ·rw[e];exact IH hl
def wa(h:match mE P (execOp (λx=>AU (ρ x)) o) with
  |some (.value v)=>bK (xX o && o.op.operands.toList.all (λx=>fE (ρ x)) && v.oneCell') <|okB (.v v) λc=>K c H
  |_=>False):∃c,(∀H2,fy P o ρ H2 c H2)/\K c H:=by
 split at h
 ·rename_i v e;obtain⟨h1,h2⟩:=z7 h;simp only[gA,sB]at h1;exact⟨.v v,λH2=>.same <|.scalar h1.1.1 h1.1.2 e h1.2,jq (k:=λc=>K c H) h2⟩
 ·exact cT
def Lu{t:TypeId}{x:Operand}{lo hi mx:Option Operand}(ho:o.op=.slice t x lo hi mx)(h:JN P H ρ t x lo hi mx K):∃c,(∀H2,fy P o ρ H2 c H2)/\K c H:=by
 unfold JN at h;split at h
 rotate_left
 ·rename_i hu;split at h
  ·rename_i s hx;obtain⟨⟨b⟩⟩:=s;dsimp only at h;split at h
   ·obtain⟨l,h1,h⟩:=yz h;obtain⟨h',h2,h3,h4,h5⟩:=yz h;exact⟨_,λH2=>.same <|.XZ t x lo hi ho hu hx h1 h2 h3 h4,h5⟩
   ·exact cT
  ·exact cT
 ·exact cT
 rename_i e hu;split at h
 rotate_left
 ·exact cT
 rename_i i hi';split at h
 ·rename_i fo sz rows hx;obtain⟨hsz,h⟩:=h;split at h
  ·split at h
   ·obtain⟨l,h1,h3,h5⟩:=yz h;have:=λH2=>fy.same <|qO.Oq (H:=H2) t x lo none ho hu hi' hx hsz h1 (rfl:mJ ρ none rows.length rows.length) h3 (gC _)
    refine⟨_,this,?_⟩;rw[r9 aj];by_cases hfo:fo=1
    ·simpa [hfo] using h5
    ·simpa [hfo] using h5
   ·rename_i hh;obtain⟨l,h1,h⟩:=yz h;obtain⟨h',h2,h3,h4,h5⟩:=yz h;exact⟨_,λH2=>.nZ (.same <|.Oq t x lo (some hh) ho hu hi' hx hsz h1 h2 h3 h4) (.share _ _ _),h5⟩
  ·split at h
   ·obtain⟨l,h1,h⟩:=yz h;obtain⟨h',h2,h⟩:=yz h;obtain⟨m,h3,rfl,h4,h5,h6⟩:=yz h;exact⟨_,λH2=>.same <|.Wr t x lo _ _ ho hu hi' hx hsz h1 h2 h3 h4 h5,h6⟩
   ·exact cT
 ·rename_i id hops sz lo0 len full hx;split at h
  ·obtain⟨hsz,h⟩:=h;obtain⟨l,h1,h⟩:=yz h;obtain⟨h',h2,h3,h4,h5,h6,h7⟩:=yz h;exact⟨_,λH2=>.same <|.ZJ t x lo hi ho hu hi' hx hsz h1 h2 h3 h4 h5 h6,h7⟩
  ·exact cT
 ·exact cT
def LV{t:TypeId}{x y:Operand}(ho:o.op=.indexAddr t x y)(h:JD P H ρ t x y K):∃c,(∀H2,fy P o ρ H2 c H2)/\K c H:=by
 unfold JD at h;split at h
 rotate_left
 ·rename_i len e hu;split at h
  ·rename_i i hi;split at h
   ·rename_i k n hy;split at h
    ·rename_i c hx;exact⟨c,λH2=>.same <|.Xf t x y ho hu hi hy h.1 h.2.1 hx,zO (k:=λc=>K c H) h.2.2⟩
    ·exact cT
   ·exact cT
  ·exact cT
 ·exact cT
 rename_i e hu;split at h
 rotate_left
 ·exact cT
 rename_i i hi;split at h
 rotate_left
 ·exact cT
 rename_i k n hy;split at h
 ·rename_i fo sz rows hx;obtain⟨h1,h3,r,h4,h5⟩:=z7 h;refine⟨_,λH2=>.same <|.indexAddr t x y ho hu hi hy h3 (c:=.jt r) ?_,h5⟩;rw[hx];simp only[BQ];rw[gh h1,h4]
  rfl
 ·rename_i id hops sz lo len full hx;obtain⟨h2,h3,h4,h5⟩:=z7 h;simp only[pF]at h2;refine⟨_,λH2=>.same <|.indexAddr t x y ho hu hi hy h3 (c:=.ref id hops sz (lo+n.toNat) 0) ?_,h5⟩;rw[hx];simp only[BQ];rw[gh (by simp[h4,h2])]
 ·exact cT
def LW{t:TypeId}{x y:Operand}(ho:o.op=.index t x y)(h:JE P H ρ t x y K):∃c,(∀H2,fy P o ρ H2 c H2)/\K c H:=by
 unfold JE at h;split at h
 ·rename_i k n hy;split at h
  ·rename_i hu;split at h
   ·rename_i s hx;obtain⟨⟨b⟩⟩:=s;obtain⟨h1,c,h2,h3⟩:=h;exact⟨_,λH2=>.same <|.XY t x y ho hu hx hy h1 h2,h3⟩
   ·exact cT
  ·rename_i len e hu;split at h
   ·rename_i i hi;split at h
    ·rename_i cs hx;obtain⟨h1,h2,c,h3,h4⟩:=h;exact⟨c,λH2=>.same <|.TZ t x y ho hu hi hx hy h1 h2 h3,zO (k:=λc=>K c H) (jq (k:=λc=>qR c λc=>K c H) h4)⟩
    ·exact cT
   ·exact cT
  ·exact cT
 ·exact cT
def LO{t:TypeId}{x:Operand}{f:Nat}(ho:o.op=.field t x f)(h:JJ P H ρ t x f K):∃c,(∀H2,fy P o ρ H2 c H2)/\K c H:=by
 unfold JJ at h;split at h
 ·rename_i fs hu;split at h
  ·rename_i fd hf;split at h
   ·rename_i cs hx;split at h
    ·rename_i c hc;exact⟨c,λH2=>.same <|.field t x f ho hu hf hx hc,zO (k:=λc=>K c H) (jq (k:=λc=>qR c λc=>K c H) h)⟩
    ·exact cT
   ·exact cT
  ·exact cT
 ·exact cT
def Nq{t t':TypeId}{op:BinOp}{x y:Operand}{a b:List UInt8}(ho:o.op=.binOp op t x y t')(hx:ρ x=.v (.string (bs a)))(hy:ρ y=.v (.string (bs b)))(h:Kv H op a b K):∃c,(∀H2,fy P o ρ H2 c H2)/\K c H:=by
 unfold Kv at h;split at h
 ·exact⟨_,λH2=>.same <|.PX .eql t t' x y ho (.inl J) hx hy,jq (k:=λc=>K c H) h⟩
 ·exact⟨_,λH2=>.same <|.PX .neq t t' x y ho (.inr J) hx hy,jq (k:=λc=>K c H) h⟩
 ·exact⟨_,λH2=>.same <|.zyp t t' x y ho hx hy h.1,h.2⟩
 ·exact cT
def LN{t:TypeId}{x:Operand}{f:Nat}(ho:o.op=.fieldAddr t x f)(h:JI P H ρ t x f K):∃c,(∀H2,fy P o ρ H2 c H2)/\K c H:=by
 unfold JI at h;split at h
 rotate_left
 ·exact cT
 rename_i fs hu;split at h
 rotate_left
 ·exact cT
 rename_i fd hf;split at h
 rotate_left
 ·exact cT
 rename_i i hi;split at h
 rotate_left
 ·exact cT
 rename_i c hc;obtain⟨h1,h2⟩:=z7 h;exact⟨c,λH2=>.same <|.fieldAddr t x f ho hu hf hi tE hc,zO (k:=λc=>K c H) h2⟩
def K4{cl:Call}(ho:o.op=.call cl){x y:Operand}{e:TypeId}{i:TypeInfo}{z:Value}(ht:Ap P cl x y e i z){sz':Nat}{rows':List (List C)}(hy:xJ H (fZ (ρ y))=some (sz',rows'))
 (h:FX P H (ρ x) sz' rows' e i K):∃c H',fy P o ρ H c H'/\K c H':=by
 unfold FX at h;split at h
 ·obtain⟨h1,h2⟩:=h;obtain⟨⟨sz,rows⟩,hx⟩:=Option.isSome_iff_exists.1 h1;exact⟨_,H,.fZ (ρ:=ρ) (.same <|.SW cl ho x y ht hx hy),h2⟩
 ·rename_i r' rs'
  replace h:=z7 h
  obtain⟨hz,h⟩:=h;have hz:=eq_of_beq hz;subst hz;have h:=qy h;have h:=qy h;split at h
  ·rename_i sz rows hx;obtain⟨h1,h2,h3,h4⟩:=h;exact⟨_,_,.fZ (ρ:=ρ) (.Dh (.Mg cl ho x y ht (by rw[hx];rfl) h1 hy aj tT (aq h3)) _ (λe=>by cases e) rfl),by simpa using jh h4⟩
  ·rename_i id sz n hx;split at h
   ·rename_i ob hob
    replace h:=z7 h
    obtain⟨hb,h4,h5,h6,h7,h8⟩:=h;simp only[gA,pF]at hb;obtain⟨⟨⟨rfl,h1⟩,h2⟩,h3⟩:=hb;exact⟨_,_,.fZ (ρ:=ρ) (.Ay (.Nb cl ho x y ht (by rw[hx];rfl) hob h1 h2 h3 h4 h5 hy aj (aq h6) (aq h7)) (jH.trans (jH.jP H id λob' h'=>by rw[hob]at h';cases h';rw[h1];decide) (jH.push _ _ (λe=>by cases e)))),by simpa using jh h8⟩
   ·exact cT
  ·exact cT
def RN{cl:Call}(ho:o.op=.call cl){x y:Operand}{e:TypeId}{i:TypeInfo}{z:Value}(ht:Ap P cl x y e i z)(h:I5 P H ρ x y e i K):∃c H',fy P o ρ H c H'/\K c H':=by
 unfold I5 at h;split at h
 rotate_left
 ·exact cT
 rename_i sz' rows' hy;split at h
 ·rename_i id sz rows hx;split at h
  ·rename_i ob hob
   replace h:=z7 h
   obtain⟨hz,h⟩:=h;have hz:=eq_of_beq hz;subst hz;have h:=qy h;obtain⟨h1,h2,h3,h4,h5⟩:=h;exact⟨_,_,.FP cl ho x y ht hx hob h1 hy h2 h3 h4,wU h5⟩
  ·exact cT
 ·rename_i sz rows hx;rcases h with h|h
  ·unfold OP at h;have h:=qy h;have h:=qy h;obtain⟨h1,h2,h3,h4,h5⟩:=h;exact⟨_,_,.Hz cl ho x y ht hx h1 hy h2 h3 h4,jh h5⟩
  ·exact K4 ho ht hy (hx ▸ h)
 ·exact K4 ho ht hy h
def Array.yB{α:Type}{a:Array α}{l:List α}(h:a.toList=l):a=l.toArray:=by subst h;simp
def T0{cl:Call}(ho:o.op=.call cl)(h:GH P H ρ o cl K):∃c H',fy P o ρ H c H'/\K c H':=by
 have hns:xX o=true:=by simp[xX,ho]
 have scal:∀(h:match mE P (execOp (λx=>AU (ρ x)) o) with
   |some (.value v)=>bK (o.op.operands.toList.all (λx=>fE (ρ x)) && v.oneCell') <|okB (.v v) λc=>K c H
   |_=>False),∃c H',fy P o ρ H c H'/\K c H':=by
  intro h;split at h
  ·rename_i v e;obtain⟨h1,h2⟩:=z7 h;simp only[gA,sB]at h1;exact⟨.v v,H,.same <|.scalar hns h1.1 e h1.2,jq (k:=λc=>K c H) h2⟩
  ·exact cT
 unfold GH at h;split at h
 ·rename_i x hcl;split at h
  ·rename_i f first caps hf;obtain⟨h1,r,H',h2,h3⟩:=z7 h;exact⟨r,H',.JZ cl ho x hcl hf h1 h2,jq (k:=λc=>K c H') h3⟩
  ·rename_i g first caps hf;split at h
   ·rename_i l;obtain⟨h1,r,H',h2,h3⟩:=z7 h;simp only[gA,Array.isEmpty_iff]at h1;obtain⟨rfl,rfl⟩:=h1;exact⟨r,H',.yield cl ho x hcl hf h2,jq (k:=λc=>K c H') h3⟩
   ·exact cT
  ·exact cT
 ·rename_i x name hcl;split at h
  ·rename_i t c hx;obtain⟨f,hm,hcb,r,H',h2,h3⟩:=h;exact⟨r,H',.invoke cl ho x name hcl hx hm hcb h2,jq (k:=λc=>K c H') h3⟩
  ·exact cT
 ·rename_i hcl;split at h
  ·rename_i x t hx ht;split at h
   ·rename_i e hu;split at h
    ·rename_i n hn;exact⟨_,H,.fZ (ρ:=ρ) <|.same <|.len cl ho hcl x (Array.yB hx) (Array.yB ht) hu hn,h⟩
    ·exact cT
   ·rename_i hu;split at h
    ·rename_i s hs;obtain⟨⟨b⟩⟩:=s;exact⟨_,H,.same <|.Pf cl ho hcl x (Array.yB hx) (Array.yB ht) hu hs,h⟩
    ·exact cT
   ·exact scal h
  ·exact cT
 ·rename_i hcl;split at h
  ·rename_i x y t t' hx ht;obtain⟨ht',h⟩:=z7 h;simp only[pF]at ht';subst ht';split at h
   ·rename_i e hu;split at h
    ·rename_i i hi;split at h
     ·rename_i z hz;exact RN ho ⟨hcl,Array.yB hx,⟨_,Array.yB ht,hu⟩,hi,hz,by simpa using (z7 h).1⟩ (z7 h).2
     ·exact cT
    ·exact cT
   ·exact cT
  ·exact cT
 ·exact scal h
def Vp{op:BinOp}{t:TypeId}{x:Operand}(ho:Kc o=some (op,t,x))(h:Kl P H op t (ρ x) K):qT P o ρ H K:=by
 obtain⟨t',ho⟩:∃t',o.op=.binOp op t x (.const (.slice none 0 0)) t':=by
  unfold Kc at ho;split at ho
  ·rename_i h1;split at ho
   ·split at ho
    ·cases ho;exact⟨_,h1⟩
    ·cases ho
   ·cases ho
  ·cases ho
 unfold Kl at h;split at h
 ·rename_i e hu;split at h
  ·rename_i fo sz rows hx;split at h
   ·split at h
    ·exact .Pr .eql t t' x ho (.inl J) hu hx h.1 h.2
    ·exact .Pr .neq t t' x ho (.inr J) hu hx h.1 h.2
    ·exact cT
   ·split at h
    ·exact(nA.Gu .eql t t' x ho (.inl J) hu (.inl ⟨_,_,_,hx,h.1⟩)).iO h.2
    ·exact(nA.Gu .neq t t' x ho (.inr J) hu (.inl ⟨_,_,_,hx,h.1⟩)).iO h.2
    ·exact cT
  ·rename_i hx;split at h
   ·exact(nA.Gu .eql t t' x ho (.inl J) hu (.inr ⟨_,_,_,_,_,_,hx⟩)).iO h
   ·exact(nA.Gu .neq t t' x ho (.inr J) hu (.inr ⟨_,_,_,_,_,_,hx⟩)).iO h
   ·exact cT
  ·exact cT
 ·exact cT
def LX{x:C}{b:Bool}(h:Jy x=some b):∀E u,L E x u->∃a,u=.pointer a/\a.isNone=b:=by
 intro E u hl;unfold Jy at h;split at h
 ·cases h;cases hl;exact⟨_,rfl,rfl⟩
 ·cases h;cases hl;exact⟨_,rfl,rfl⟩
 ·split at h
  ·split at h <;> (cases h;cases hl;exact⟨_,rfl,rfl⟩)
  ·cases h
 ·cases h
def WY{op:BinOp}{t:TypeId}{x:Operand}(ho:J6 o=some (op,t,x))(h:Ks P H op t (ρ x) K):∃c,nA P o ρ H c H/\K c H:=by
 obtain⟨t',ho⟩:∃t',o.op=.binOp op t x (.const (.pointer none)) t':=by
  unfold J6 at ho;split at ho
  ·rename_i h1;split at ho
   ·split at ho
    ·split at ho
     ·cases ho;exact⟨_,h1⟩
     ·cases ho
    ·cases ho
   ·cases ho
  ·cases ho
 have hT:GW P t=true->P.underlying t=some (.pointer (P.pointee t)):=λhp=>by
  unfold GW at hp;split at hp
  ·rename_i e hu;have he:e=P.pointee t:=by simpa using hp
   rw[hu,he]
  ·cases hp
 unfold Ks at h;split at h
 ·rename_i b hb;split at h
  ·exact⟨_,.Pj .eql t t' x ho (.inl J) (hT (z7 h).1) b (LX hb),(z7 h).2⟩
  ·exact⟨_,.Pj .neq t t' x ho (.inr J) (hT (z7 h).1) b (LX hb),(z7 h).2⟩
  ·exact cT
 ·exact cT
def TC{t:TypeId}{x y:Operand}(ho:o.op=.makeSlice t x y)(h:J8 P H ρ t x y K):∃c H',fy P o ρ H c H'/\K c H':=by
 unfold J8 at h;split at h
 ·rename_i k n k' n' hx hy;split at h
  ·rename_i e hu;split at h
   ·rename_i i hi;split at h
    ·rename_i cs hz;obtain⟨h1,rfl,h2,h3,h4,h5⟩:=z7 h;have h5:=qy h5;have h5:=qy h5;exact⟨_,_,.Dh (.makeSlice t x y ho hu hi hz h1 hx hy h2 h3 h4) _ (λe=>by cases e) rfl,jh h5⟩
    ·exact cT
   ·exact cT
  ·exact cT
 ·exact cT
def Mb{src dst:TypeId}{x:Operand}(ho:o.op=.convert src dst x)(h:J1 P H ρ o src dst x K):∃c,(∀H2,fy P o ρ H2 c H2)/\K c H:=by
 unfold J1 at h;split at h
 ·rename_i fo sz rows hx;split at h
  ·rename_i e hs hd;split at h
   ·rename_i he;obtain⟨h1,bts,rfl,h2⟩:=z7 h;have h1:=eq_of_beq h1;subst h1;exact⟨_,λH2=>.fZ (ρ:=ρ) <|.same <|.VY src dst x ho hs he hd hx,h2⟩
   ·exact cT
  ·exact cT
 ·exact wa h
def HN(h:oG P H ρ o K):∃c H',fy P o ρ H c H'/\K c H':=by
 unfold oG at h;split at h
 ·rename_i x ho;exact⟨_,H,.same <|.move x (.inl ho),zO (k:=λc=>K c H) h⟩
 ·rename_i x ho;exact⟨_,H,.same <|.move x (.inr ho),zO (k:=λc=>K c H) h⟩
 ·rename_i x y z ho;split at h
  ·rename_i b hb;exact⟨_,H,.same <|.pick x y z ho b hb,zO (k:=λc=>K c H) h⟩
  ·exact cT
 ·rename_i t ho;split at h
  ·rename_i cs hz;have h:=jh (k:=λcs=>jw cs.length λn=>jw H.length λm=>xB (H++[⟨1,t,n,[cs],0⟩]) λH'=>K (.ref m [] n 0 0) H') h;have h:=qy (k:=λn=>jw H.length λm=>xB (H++[⟨1,t,n,[cs],0⟩]) λH'=>K (.ref m [] n 0 0) H') h;have h:=qy (k:=λm=>xB (H++[⟨1,t,cs.length,[cs],0⟩]) λH'=>K (.ref m [] cs.length 0 0) H') h;exact⟨_,_,.Dh (.alloc t ho hz) _ (λe=>by cases e) rfl,jh (k:=λH'=>K (.ref H.length [] cs.length 0 0) H') h⟩
  ·exact cT
 ·rename_i t x ho;obtain⟨h0,h⟩:=z7 h;have h:=qQ (λ_ _ h=>zO h) (k:=λcs=>jw cs.length λn=>jw H.length λm=>xB (H++[⟨1,t,n,[cs],0⟩]) λH'=>K (.ref m [] n 0 0) H') h;have h:=qy (k:=λn=>jw H.length λm=>xB (H++[⟨1,t,n,[(ρ x).cells],0⟩]) λH'=>K (.ref m [] n 0 0) H') h;have h:=qy (k:=λm=>xB (H++[⟨1,t,(ρ x).cells.length,[(ρ x).cells],0⟩]) λH'=>K (.ref m [] (ρ x).cells.length 0 0) H') h;exact⟨_,_,.Dh (.box t x ho h0) _ (λe=>by cases e) rfl,jh (k:=λH'=>K (.ref H.length [] (ρ x).cells.length 0 0) H') h⟩
 ·rename_i t x f ho;obtain⟨c,h1,h2⟩:=LN ho h;exact⟨c,H,h1 H,h2⟩
 ·rename_i t x y ho;obtain⟨c,h1,h2⟩:=LV (ρ:=λx=>fZ (ρ x)) ho h;exact⟨c,H,(h1 H).fZ,h2⟩
 ·rename_i t x y ho;obtain⟨c,h1,h2⟩:=LW ho h;exact⟨c,H,h1 H,h2⟩
 ·rename_i t x f ho;obtain⟨c,h1,h2⟩:=LO ho h;exact⟨c,H,h1 H,h2⟩
 ·rename_i t x ho;obtain⟨c,h1,h2⟩:=Fe h;exact⟨c,H,.same <|.load t x ho h1,h2⟩
 ·rename_i t x y ho;split at h
  ·obtain⟨H',h1,h2⟩:=Lx h;exact⟨_,H',.zyo t x y ho h1,h2⟩
  ·obtain⟨H',h1,h2⟩:=Lx h;exact⟨_,H',.Ay (.store t x y ho h1) (HC h1),h2⟩
 ·rename_i x n ho;split at h
  ·rename_i vs hx;split at h
   ·rename_i c hc;exact⟨c,H,.same <|.extract x n ho hx hc,zO (k:=λc=>K c H) (jq (k:=λc=>qR c λc=>K c H) h)⟩
   ·exact cT
  ·exact cT
 ·rename_i x ho;exact⟨_,H,.same <|.nilCheck x ho (z7 h).1,zO (k:=λc=>K c H) (z7 h).2⟩
 ·rename_i f first caps ho;split at h
  ·have h:=qQ (λ_ _ h=>zO h) h;exact⟨_,H,.same <|.makeFunc _ first caps ho,qQ (λ_ _ h=>zO h) (k:=λb=>K (.fn _ (first.toList.map ρ) b) H) h⟩
  ·exact cT
 ·rename_i t parts ho;obtain⟨cs,hc,h⟩:=LC h;exact⟨_,H,.same <|.build t parts ho hc,h⟩
 ·rename_i t x ho;split at h
  ·rename_i d hd;obtain⟨h1,h2⟩:=z7 h;exact⟨_,H,.VN t x ho hd h1,zO (k:=λc=>K (.ig t c) H) h2⟩
  ·exact cT
 ·rename_i x xT t ok ho
  replace h:=z7 h
  obtain⟨h1,h⟩:=h;subst h1;split at h
  ·rename_i t' c hx;split at h
   ·rename_i d hd;split at h
    ·rename_i he;obtain rfl:t'=t:=by simpa using he
     exact⟨_,H,.Va x xT t' ho hx hd (z7 h).1,(z7 h).2⟩
    ·rename_i he;split at h
     ·rename_i i hi;have h2:=(z7 h).1;rw[gA]at h2;exact⟨_,H,.XB x xT t ho hx he hd h2.1 hi h2.2,(z7 h).2⟩
     ·exact cT
   ·exact cT
  ·exact cT
 ·rename_i t len parts ho;split at h
  ·rename_i c hc;split at h
   ·rename_i o' sz rows;have h:=qQ (λ_ _ h=>qQ (λ_ _ h=>zO h) h) (k:=λrows=>jw sz λsz=>K (.fh o' sz rows) H) h;exact⟨_,H,.same <|(qO.buildSlice (ρ:=λz=>o9 (ρ z)) t len parts ho hc).weaken λz E v hl=>IH hl,qy (k:=λsz=>K (.fh o' sz rows) H) h⟩
   ·exact cT
  ·exact cT
 ·rename_i t x lo hi mx ho;obtain⟨c,h1,h2⟩:=Lu (ρ:=λx=>fZ (ρ x)) ho h;exact⟨c,H,(h1 H).fZ,h2⟩
 ·rename_i t x y ho;exact TC ho h
 ·exact h
 ·exact h
 ·exact h
 ·exact h
 ·rename_i cl ho;exact T0 ho h
 ·rename_i op t x y t' ho;split at h
  ·rename_i xs ys hx hy;obtain⟨h1,h⟩:=h;simp only[gA,pJ]at h1;split at h
   ·rename_i b hb;split at h
    ·exact⟨_,H,.same <|.FH .eql t t' x y ho (.inl J) h1.1 h1.2 hx hy hb,jq (k:=λc=>K c H) h⟩
    ·exact⟨_,H,.same <|.FH .neq t t' x y ho (.inr J) h1.1 h1.2 hx hy hb,jq (k:=λc=>K c H) h⟩
    ·exact cT
   ·exact cT
  ·rename_i s s' hx hy;obtain⟨⟨a⟩⟩:=s;obtain⟨⟨b⟩⟩:=s';obtain⟨c,h1,h2⟩:=Nq ho hx hy h;exact⟨c,H,h1 H,h2⟩
  ·obtain⟨c,h1,h2⟩:=wa h;exact⟨c,H,h1 H,h2⟩
 ·rename_i src dst x ho;obtain⟨c,h1,h2⟩:=Mb ho h;exact⟨c,H,h1 H,h2⟩
 ·split at h
  ·rename_i v e;obtain⟨h1,h2⟩:=z7 h;simp only[gA,sB]at h1;exact⟨.v v,H,.same <|.scalar h1.1.1 h1.1.2 e h1.2,MB (k:=λc=>K c H) h2⟩
  ·exact cT
 ·obtain⟨c,h1,h2⟩:=wa h;exact⟨c,H,h1 H,h2⟩
end
def Em(calls:Bool)(o:Oper):Bool:=
 match o.op with
 |.alloc _|.box .. |.store .. |.makeSlice .. |.makeMap .. |.mapUpdate .. |.insert .. |.mapEntry .. |.entryStore ..=>true
 |.call cl=>match cl.callee with
  |.builtin .len=>false
  |.builtin _=>true
  |_=>calls
 |_=>false
def xQ(o:Oper):Bool:=
 match o.op with
 |.move _|.assign _|.pick .. |.fieldAddr .. |.indexAddr .. |.extract .. |.nilCheck _|.makeFunc .. |.build .. |.buildSlice .. |.slice .. |.index .. |.field .. |.binOp .. |.unOp .. |.convert ..=>true
 |.call cl=>match cl.callee with
  |.builtin .len=>true
  |_=>false
 |_=>false
section
variable {P:Program} {o:Oper} {ρ:Operand->C} {H:zm} {K:C->zm->Prop}
def Lw(hb:xQ o=true)(h:oG P H ρ o K):∃c,(∀H2,fy P o ρ H2 c H2)/\K c H:=by
 unfold oG at h;split at h
 ·rename_i x ho;exact⟨_,λH2=>.same <|.move x (.inl ho),zO (k:=λc=>K c H) h⟩
 ·rename_i x ho;exact⟨_,λH2=>.same <|.move x (.inr ho),zO (k:=λc=>K c H) h⟩
 ·rename_i x y z ho;split at h
  ·rename_i b hb;exact⟨_,λH2=>.same <|.pick x y z ho b hb,zO (k:=λc=>K c H) h⟩
  ·exact cT
 ·rename_i t ho;simp[xQ,ho]at hb
 ·rename_i t x ho;simp[xQ,ho]at hb
 ·rename_i t x f ho;exact LN ho h
 ·rename_i t x y ho;obtain⟨c,h1,h2⟩:=LV (ρ:=λx=>fZ (ρ x)) ho h;exact⟨c,λH2=>(h1 H2).fZ,h2⟩
 ·rename_i t x y ho;exact LW ho h
 ·rename_i t x f ho;exact LO ho h
 ·rename_i t x ho;simp[xQ,ho]at hb
 ·rename_i t x y ho;simp[xQ,ho]at hb
 ·rename_i x n ho;split at h
  ·rename_i vs hx;split at h
   ·rename_i c hc;exact⟨c,λH2=>.same <|.extract x n ho hx hc,zO (k:=λc=>K c H) (jq (k:=λc=>qR c λc=>K c H) h)⟩
   ·exact cT
  ·exact cT
 ·rename_i x ho;exact⟨_,λH2=>.same <|.nilCheck x ho (z7 h).1,zO (k:=λc=>K c H) (z7 h).2⟩
 ·rename_i f first caps ho;split at h
  ·have h:=qQ (λ_ _ h=>zO h) h;exact⟨_,λH2=>.same <|.makeFunc _ first caps ho,qQ (λ_ _ h=>zO h) (k:=λb=>K (.fn _ (first.toList.map ρ) b) H) h⟩
  ·exact cT
 ·rename_i t parts ho;obtain⟨cs,hc,h⟩:=LC h;exact⟨_,λH2=>.same <|.build t parts ho hc,h⟩
 ·rename_i t x ho;simp[xQ,ho]at hb
 ·rename_i x xT t ok ho;simp[xQ,ho]at hb
 ·rename_i t len parts ho;split at h
  ·rename_i c hc;split at h
   ·rename_i o' sz rows;have h:=qQ (λ_ _ h=>qQ (λ_ _ h=>zO h) h) (k:=λrows=>jw sz λsz=>K (.fh o' sz rows) H) h;exact⟨_,λH2=>.same <|(qO.buildSlice (ρ:=λz=>o9 (ρ z)) t len parts ho hc).weaken λz E v hl=>IH hl,qy (k:=λsz=>K (.fh o' sz rows) H) h⟩
   ·exact cT
  ·exact cT
 ·rename_i t x lo hi mx ho;obtain⟨c,h1,h2⟩:=Lu (ρ:=λx=>fZ (ρ x)) ho h;exact⟨c,λH2=>(h1 H2).fZ,h2⟩
 ·rename_i t x y ho;simp[xQ,ho]at hb
 ·rename_i ho;simp[xQ,ho]at hb
 ·rename_i ho;simp[xQ,ho]at hb
 ·rename_i ho;simp[xQ,ho]at hb
 ·rename_i ho;simp[xQ,ho]at hb
 ·rename_i cl ho
  have hc:cl.callee=.builtin .len:=by
   simp only[xQ,ho]at hb;split at hb
   ·assumption
   ·cases hb
  have hns:xX o=true:=by simp[xX,ho]
  unfold GH at h;rw[hc]at h;dsimp only at h;split at h
  ·rename_i x t hx ht;split at h
   ·rename_i e hu;split at h
    ·rename_i n hn;exact⟨_,λH2=>.fZ (ρ:=ρ) <|.same <|.len cl ho hc x (Array.yB hx) (Array.yB ht) hu hn,h⟩
    ·exact cT
   ·rename_i hu;split at h
    ·rename_i s hs;obtain⟨⟨b⟩⟩:=s;exact⟨_,λH2=>.same <|.Pf cl ho hc x (Array.yB hx) (Array.yB ht) hu hs,h⟩
    ·exact cT
   ·split at h
    ·rename_i v e;obtain⟨h1,h2⟩:=z7 h;simp only[gA,sB]at h1;exact⟨.v v,λH2=>.same <|.scalar hns h1.1 e h1.2,jq (k:=λc=>K c H) h2⟩
    ·exact cT
  ·exact cT
 ·rename_i op t x y t' ho;split at h
  ·rename_i xs ys hx hy;obtain⟨h1,h⟩:=h;simp only[gA,pJ]at h1;split at h
   ·rename_i b hb;split at h
    ·exact⟨_,λH2=>.same <|.FH .eql t t' x y ho (.inl J) h1.1 h1.2 hx hy hb,jq (k:=λc=>K c H) h⟩
    ·exact⟨_,λH2=>.same <|.FH .neq t t' x y ho (.inr J) h1.1 h1.2 hx hy hb,jq (k:=λc=>K c H) h⟩
    ·exact cT
   ·exact cT
  ·rename_i s s' hx hy;obtain⟨⟨a⟩⟩:=s;obtain⟨⟨b⟩⟩:=s';exact Nq ho hx hy h
  ·exact wa h
 ·rename_i src dst x ho;exact Mb ho h
 ·split at h
  ·rename_i v e;obtain⟨h1,h2⟩:=z7 h;simp only[gA,sB]at h1;exact⟨.v v,λH2=>.same <|.scalar h1.1.1 h1.1.2 e h1.2,MB (k:=λc=>K c H) h2⟩
  ·exact cT
 ·exact wa h
end
section
variable {P:Program} {B:Nat} {ops:Array Oper} {md:Region.Mode} {Hs:Nat->zm} {eff:Nat->Bool} {idx:Nat->Nat} {inR:Nat->Nat->Bool}
def DU(md:Region.Mode)(ms:List Nat)(o:Oper):List Nat:=
 ms++[o.after.toList.foldl (λm e=>if Region.binds md e then m ||| (1 <<< e.on) ||| (ms[e.on]?).getD 0 else m) 0]
def nS(md:Region.Mode)(ops:Array Oper):List Nat:=ops.toList.foldl (DU md) []
def oI(md:Region.Mode)(ops:Array Oper)(ms:List Nat)(j i:Nat):Bool:=Nat.testBit ((ms[j]?).getD 0) i
def MD{md:Region.Mode}{ms:List Nat}{i:Nat}:∀{l:List Edge} {m0:Nat},Nat.testBit (l.foldl (λm e=>if Region.binds md e then m ||| (1 <<< e.on) ||| (ms[e.on]?).getD 0 else m) m0) i=true->
  Nat.testBit m0 i=true\/∃e∈l,Region.binds md e=true/\(e.on=i\/Nat.testBit ((ms[e.on]?).getD 0) i=true)
 |[],m0,h=>.inl h
 |e::l,m0,h=>by
  rw[ec]at h;rcases MD h with h1|⟨e',h1,h2⟩
  ·split at h1
   ·rename_i hb;simp only[Nat.testBit_or,pX]at h1;rcases h1 with(h1|h1)|h1
    ·exact .inl h1
    ·refine .inr ⟨e,aj,hb,.inl ?_⟩;rw[Nat.testBit_shiftLeft]at h1;simp only[gA,gH]at h1;obtain⟨h2,h3⟩:=h1;have:=Nat.testBit_one_eq_true_iff_self_eq_zero.1 h3;omega
    ·exact .inr ⟨e,aj,hb,.inr h1⟩
   ·exact .inl h1
  ·exact .inr ⟨e',aD,h2⟩
def BL(md:Region.Mode)(l:List Oper)(ms:List Nat):Prop:=ms.length=l.length/\∀(j i:Nat),Nat.testBit ((ms[j]?).getD 0) i=true->
  ∃oj,l[j]?=some oj/\∃e∈oj.after,Region.binds md e=true/\(e.on=i\/(e.on<j/\Nat.testBit ((ms[e.on]?).getD 0) i=true))
def BL.step{md:Region.Mode}{l:List Oper}{ms:List Nat}(h0:BL md l ms)(o:Oper):BL md (l++[o]) (DU md ms o):=by
 obtain⟨ih1,ih2⟩:=h0;refine⟨by simp[DU,ih1],?_⟩;intro j i h;unfold DU at h ⊢;by_cases hj:j<ms.length
 ·rw[gy hj]at h;obtain⟨oj,h1,e,h2,h3,h4⟩:=ih2 j i h;refine⟨oj,by rw[gy aw];exact h1,e,h2,h3,h4.imp id λ⟨h5,h6⟩=>⟨h5,?_⟩⟩;rw[gy aw];exact h6
 ·rw[gG aw]at h
  have hj0:j-ms.length=0:=by
   rcases sJ (j-ms.length) with h0|h0
   ·exact h0
   ·rw[pG aA]at h;simp at h
  rw[hj0]at h;simp only[uo,Option.getD_some]at h;rcases MD h with h1|⟨e,h1,h2,h3⟩
  ·simp at h1
  ·refine⟨o,by rw[gG aw,<-ih1,hj0];rfl,e,aq h1,h2,h3.imp id λh4=>?_⟩
   have fj:e.on<ms.length:=by
    rcases rU e.on ms.length with h5|h5
    ·exact h5
    ·rw[pG h5]at h4;simp at h4
   exact⟨aw,by rw[gy fj];exact h4⟩
def BL.fold{md:Region.Mode}:∀{l pre:List Oper} {ms:List Nat},BL md pre ms->BL md (pre++l) (l.foldl (DU md) ms)
 |[],pre,ms,h=>by simpa using h
 |o::l,pre,ms,h=>by
  have:=(h.step o).fold (l:=l);simpa using this
def Ms{md:Region.Mode}(ops:Array Oper):BL md ops.toList (nS md ops):=by
 have:=BL.fold (md:=md) (l:=ops.toList) (pre:=[]) (ms:=[]) ⟨rfl,aj⟩;simpa [nS] using this
def Down(md:Region.Mode)(ops:Array Oper)(listed:Array Bool):Prop:=∀j oj,ops[j]?=some oj->listed.getD j false=true->∀e∈oj.after,Region.binds md e=true->listed.getD e.on false=true
def Down.start:Down md ops (Array.replicate ops.size false):=λj oj _ h=>by
 exfalso
 rw[pI,Array.getElem?_replicate]at h;split at h <;> simp at h
def Down.dep{listed:Array Bool}(hd:Down md ops listed)(j i:Nat)(hj:listed.getD j false=true)(h:oI md ops (nS md ops) j i=true):listed.getD i false=true:=by
 induction j using Nat.strongRecOn with
 |_ j ih=>
  obtain⟨oj,h1,e,h2,h3,h4⟩:=(Ms (md:=md) ops).2 j i h;have h5:=hd j oj tE hj e h2 h3;rcases h4 with rfl|⟨h6,h7⟩
  ·exact h5
  ·exact ih e.on h6 h5 h7
def Down.ready{listed:Array Bool}(hd:Down md ops listed){j i:Nat}(hj:j∈Region.ready md ops listed)(h:oI md ops (nS md ops) j i=true):listed.getD i false=true:=by
 obtain⟨_,oj,ho,z8⟩:=mem_ready.1 hj;obtain⟨oj',h1,e,h2,h3,h4⟩:=(Ms (md:=md) ops).2 j i h
 have e1:oj'=oj:=by
  have:ops[j]?=some oj':=aq h1
  rw[ho]at this;cases this
  rfl
 subst e1;have h5:=z8 e h2 h3;rcases h4 with rfl|⟨h6,h7⟩
 ·exact h5
 ·exact hd.dep e.on i h5 h7
def Down.step{listed:Array Bool}(hd:Down md ops listed){i:Nat}(hi:i∈Region.ready md ops listed):Down md ops (listed.setIfInBounds i true):=λj oj ho hj e he hb=>by
 by_cases hji:i=j
 ·subst hji;obtain⟨_,oi,ho',z8⟩:=mem_ready.1 hi;rw[ho]at ho';cases ho'
  exact getD_set_true (z8 e he hb)
 ·rw[getD_set_ne false hji]at hj;exact getD_set_true (hd j oj ho hj e he hb)
def QA(P:Program)(ops:Array Oper)(Hs:Nat->zm)(r:Nat->Bool)(o:Oper)(c:C)(t:List C):Prop:=
 (jm ops t o=some true/\∀k,r k=true->fy P o (ev t) (Hs k) c (Hs k))\/(jm ops t o=some false/\c=.un)
def EA(P:Program)(ops:Array Oper)(H H':zm)(o:Oper)(c:C)(t:List C):Prop:=
 (jm ops t o=some true/\fy P o (ev t) H c H')\/(jm ops t o=some false/\c=.un/\H'=H)
def QA.put{r:Nat->Bool}{o:Oper}{c x:C}{t:List C}{dst:Option Tmp}(h:∀d,dst=some d->d∉o.looksAt ops):QA P ops Hs r o c (put t dst x)↔QA P ops Hs r o c t:=by
 unfold QA;rw[vr h];constructor
 ·rintro(⟨h1,h2⟩|h1)
  ·exact .inl ⟨h1,λk hk=>(fy.put h).1 (h2 k hk)⟩
  ·exact .inr h1
 ·rintro(⟨h1,h2⟩|h1)
  ·exact .inl ⟨h1,λk hk=>(fy.put h).2 (h2 k hk)⟩
  ·exact .inr h1
def EA.put{H H':zm}{o:Oper}{c x:C}{t:List C}{dst:Option Tmp}(h:∀d,dst=some d->d∉o.looksAt ops):EA P ops H H' o c (put t dst x)↔EA P ops H H' o c t:=by
 unfold EA;rw[vr h,fy.put h]
def GO(P:Program)(ops:Array Oper)(Hs:Nat->zm)(eff:Nat->Bool)(idx:Nat->Nat)(inR:Nat->Nat->Bool)(i:Nat)(o:Oper)(c:C)(n':Nat)(t:List C)(n:Nat):Prop:=
 (eff i=false/\inR i n=true/\QA P ops Hs (inR i) o c t/\n'=n)\/(eff i=true/\idx i=n/\EA P ops (Hs n) (Hs (n+1)) o c t/\n'=n+1)
def mW(P:Program)(ops:Array Oper)(Hs:Nat->zm)(eff:Nat->Bool)(idx:Nat->Nat)(inR:Nat->Nat->Bool)(i:Nat)(K:List C->Nat->Prop)(t:List C)(n:Nat):Prop:=
 match ops[i]? with
 |none=>K t n
 |some o=>∃c n',GO P ops Hs eff idx inR i o c n' t n/\K (put t o.dst c) n'
def Vh{i:Nat}{t:List C}{n:Nat}{K K':List C->Nat->Prop}(h:∀t n,K t n->K' t n)(hh:mW P ops Hs eff idx inR i K t n):mW P ops Hs eff idx inR i K' t n:=by
 unfold mW at *;split
 ·exact h _ _ (by simpa [*] using hh)
 ·rename_i o ho;simp only[ho]at hh;obtain⟨c,n',h1,h2⟩:=hh;exact⟨c,n',h1,h _ _ h2⟩
def Bq(P:Program)(ops:Array Oper)(Hs:Nat->zm)(eff:Nat->Bool)(idx:Nat->Nat)(inR:Nat->Nat->Bool)(Q:List C->Nat->Prop):List Oper->Nat->List C->Nat->Prop
 |[],_,t,n=>Q t n
 |_::l,k,t,n=>mW P ops Hs eff idx inR k (Bq P ops Hs eff idx inR Q l (k+1)) t n
def EJ(P:Program)(md:Region.Mode)(ops:Array Oper)(Hs:Nat->zm)(eff:Nat->Bool)(idx:Nat->Nat)(inR:Nat->Nat->Bool)(Q:List C->Nat->Prop):Nat->Array Bool->List C->Nat->Prop
 |0,listed,t,n=>Region.ready md ops listed=[]/\Q t n
 |fuel+1,listed,t,n=>(Region.ready md ops listed=[]->Q t n)/\∀i∈Region.ready md ops listed,mW P ops Hs eff idx inR i (EJ P md ops Hs eff idx inR Q fuel (listed.setIfInBounds i true)) t n
def yD{q:Option Nat}{m:Nat}{H0:zm}{Q:List C->Nat->Prop}{w0:World}{E0:Env}{Q':Exit->Act->World->Prop}(hQ:∀t n w E a,Q t n->x8 B m w E ⟨t,Hs n⟩ a->jN B w0 E0 H0 w E (Hs n)->Q' .normal a w):
  ∀(fuel:Nat) (listed:Array Bool) (t:List C) (n:Nat) (w:World) (E:Env) (a:Act),x8 B m w E ⟨t,Hs n⟩ a->jN B w0 E0 H0 w E (Hs n)->EJ P md ops Hs eff idx inR Q fuel listed t n->wpAnyIn (fw q) 0 P md ops Q' fuel listed a w
 |0,_,t,n,w,E,a,hs,hg,h=>⟨h.1,hQ t n w E a h.2 hs hg⟩
 |fuel+1,listed,t,n,w,E,a,hs,hg,h=>⟨λh0=>hQ t n w E a (h.1 h0) hs hg,λi hi=>by
   have h1:=h.2 i hi;unfold mW at h1;unfold wpOpIn;split
   ·rename_i ho;simp only[ho]at h1;exact yD hQ fuel _ t n w E a hs hg h1
   ·rename_i o ho;simp only[ho]at h1;obtain⟨c,n',hf,hK⟩:=h1;rcases hf with⟨_,hin,⟨hw,hv⟩|⟨hw,rfl⟩,rfl⟩|⟨_,_,⟨hw,hv⟩|⟨hw,rfl,he⟩,rfl⟩
    ·rw[gh (j4 hs.tmps hw)];exact ox.Gv (s:=⟨t,Hs n'⟩) (hv _ hin) q m w E a _ Q' hs λw' E' a' h2 g2=>yD hQ fuel _ (put t o.dst c) n' w' E' a' h2 (hg.trans g2) hK
    ·rw[dZ bt];exact⟨λ_ _=>trivial,yD hQ fuel _ (put t o.dst .un) n' w E _ (hs.put .un o.dst) hg hK⟩
    ·rw[gh (j4 hs.tmps hw)];exact ox.Gv (s:=⟨t,Hs n⟩) hv q m w E a _ Q' hs λw' E' a' h2 g2=>yD hQ fuel _ (put t o.dst c) (n+1) w' E' a' h2 (hg.trans g2) hK
    ·rw[dZ bt];have hs':=hs.put .un o.dst;exact⟨λ_ _=>trivial,yD hQ fuel _ (put t o.dst .un) (n+1) w E _ (by rw[he];exact hs') (by rw[he];exact hg) hK⟩⟩
structure Dp(md:Region.Mode)(ops:Array Oper)(eff:Nat->Bool)(idx:Nat->Nat)(inR:Nat->Nat->Bool)(i j:Nat):Prop where
 c1:eff i=false->eff j=true->oI md ops (nS md ops) j i=false->inR i (idx j)=true->inR i (idx j+1)=true
 c2:eff i=true->eff j=false->oI md ops (nS md ops) j i=false->inR j (idx i+1)=true->inR j (idx i)=true
def Vi{i j:Nat}{oi oj:Oper}{c:C}{n ni:Nat}(hj:ops[j]?=some oj)(hap:oi.apart ops oj=true)(he:eff i=true->eff j=false)(hp:Dp md ops eff idx inR i j)(hno:oI md ops (nS md ops) j i=false){K:List C->Nat->Prop}{t:List C}
 (hf:GO P ops Hs eff idx inR i oi c ni t n)(h:mW P ops Hs eff idx inR j K (put t oi.dst c) ni):
  mW P ops Hs eff idx inR j (λt' n'=>∃n2,GO P ops Hs eff idx inR i oi c n2 t' n'/\K (put t' oi.dst c) n2) t n:=by
 obtain⟨h1,h2,h3⟩:=Oper.apart_spec hap;unfold mW at *;simp only[hj] at *;obtain⟨cj,nj,hfj,hK⟩:=h;rw[put_comm _ _ h2]at hK;rcases hf with⟨e1,e2,e3,rfl⟩|⟨e1,e2,e3,rfl⟩
 ·rcases hfj with⟨f1,f2,f3,rfl⟩|⟨f1,f2,f3,rfl⟩
  ·exact⟨cj,nj,.inl ⟨f1,f2,(QA.put h1).1 f3,rfl⟩,nj,.inl ⟨e1,e2,(QA.put h3).2 e3,rfl⟩,hK⟩
  ·refine⟨cj,ni+1,.inr ⟨f1,f2,(EA.put h1).1 f3,rfl⟩,ni+1,.inl ⟨e1,?_,(QA.put h3).2 e3,rfl⟩,hK⟩;rw[<-f2];exact hp.c1 e1 f1 hno (by rw[f2];exact e2)
 ·rcases hfj with⟨f1,f2,f3,rfl⟩|⟨f1,f2,f3,rfl⟩
  ·refine⟨cj,n,.inl ⟨f1,?_,(QA.put h1).1 f3,rfl⟩,n+1,.inr ⟨e1,e2,(EA.put h3).2 e3,rfl⟩,hK⟩;rw[<-e2];exact hp.c2 e1 f1 hno (by rw[e2];exact f2)
  ·rw[he e1]at f1;cases f1
def Tb{Q:List C->Nat->Prop}{i:Nat}{oi:Oper}{c:C}(hi:ops[i]?=some oi):
  ∀(fuel:Nat) (listed:Array Bool) (t:List C) (n ni:Nat),Down md ops listed->
   (∀j oj,ops[j]?=some oj->j≠i->listed.getD j true=false->(∀e∈oj.after,Region.binds md e=true->e.on≠i)->oi.apart ops oj=true/\(eff i=true->eff j=false)/\Dp md ops eff idx inR i j)->
   i∈Region.ready md ops listed->GO P ops Hs eff idx inR i oi c ni t n->
   EJ P md ops Hs eff idx inR Q fuel (listed.setIfInBounds i true) (put t oi.dst c) ni->EJ P md ops Hs eff idx inR Q (fuel+1) listed t n:=by
 intro fuel
 induction fuel with
 |zero=>
  intro listed t n ni _ _ hr hy H;refine⟨λh=>bu,λj hj=>?_⟩;by_cases hji:j=i
  ·subst hji;unfold mW;simp only[hi];exact⟨c,ni,hy,H⟩
  ·have:=ready_mono hj hji;rw[H.1]at this;cases this
 |succ fuel ih=>
  intro listed t n ni hdown hfree hr hy H;refine⟨λh=>bu,λj hj=>?_⟩;by_cases hji:j=i
  ·subst hji;unfold mW;simp only[hi];exact⟨c,ni,hy,H⟩
  ·have h1:=H.2 j (ready_mono hj hji);obtain⟨hjun,oj,hoj,z8⟩:=mem_ready.1 hj
   have hiun:listed.getD i false=false:=by
    have h0:=(mem_ready.1 hr).1;rcases rU i listed.size with h'|h'
    ·simp[h']at h0 ⊢;exact h0
    ·simp[r8 h']
   have hnot:∀e∈oj.after,Region.binds md e=true->e.on≠i:=λe he hb heq=>by
    have h1:=z8 e he hb;rw[heq,hiun]at h1;cases h1
   have hno:oI md ops (nS md ops) j i=false:=by
    cases hd:oI md ops (nS md ops) j i with
    |false=>rfl
    |true=>have:=hdown.ready hj hd;rw[hiun]at this;cases this
   obtain⟨hap,hee,hp⟩:=hfree j oj hoj hji hjun hnot;have h2:=Vi hoj hap hee hp hno hy h1
   have hfree':∀k ok,ops[k]?=some ok->k≠i->(listed.setIfInBounds j true).getD k true=false->
     (∀e∈ok.after,Region.binds md e=true->e.on≠i)->oi.apart ops ok=true/\(eff i=true->eff k=false)/\Dp md ops eff idx inR i k:=λk ok hk hki hun hno=>by
    refine hfree k ok hk hki ?_ hno;by_cases hjk:j=k
    ·subst hjk;exact hjun
    ·rw[getD_set_ne true hjk]at hun;exact hun
   refine Vh (λt' n' ⟨n2,h3,h4⟩=>ih (listed.setIfInBounds j true) t' n' n2 (hdown.step hj) hfree' (ready_mono hr (Ne.symm hji)) h3 ?_) h2;rw[uk _ _ hji];exact h4
def Nw{Q:List C->Nat->Prop}(hE:BV md ops eff=true)(hP:∀i j,Dp md ops eff idx inR i j):∀(l:List Oper) (k:Nat) (listed:Array Bool) (t:List C) (n:Nat),Down md ops listed->(∀j,l[j]?=ops[k+j]?)->(∀j,j<k->listed.getD j true=true)->
  Region.lexFrom md ops l.length k listed=true->Bq P ops Hs eff idx inR Q l k t n->EJ P md ops Hs eff idx inR Q l.length listed t n
 |[],_,_,_,_,_,_,_,hB,h=>⟨by simpa [Region.lexFrom] using hB,h⟩
 |o::l,k,listed,t,n,hd,hl,hk,hB,h=>by
  have h0:ops[k]?=some o:=by simpa using (hl 0).symm
  simp only[rk,Region.lexFrom,gA]at hB;obtain⟨⟨hr,hf⟩,hB'⟩:=hB;have h':mW P ops Hs eff idx inR k (Bq P ops Hs eff idx inR Q l (k+1)) t n:=h;unfold mW at h';simp only[h0]at h';obtain⟨c,n',hfst,hK⟩:=h';have hr':k∈Region.ready md ops listed:=aq hr
  refine Tb h0 l.length listed t n n' hd (λj oj hj hne hun hno=>⟨Region.free_spec h0 hf j oj hj hne hun hno,λhe=>?_,hP k j⟩) hr' hfst
   (Nw hE hP l (k+1) _ _ _ (hd.step hr') (λj=>by have:=hl (j+1);simpa [rV,eR 1 j] using this) ?_ hB' hK)
  ·refine MQ hE he ?_ hj hno;rcases rO j k with fj|heq|fj
   ·rw[hk j fj]at hun;cases hun
   ·exact absurd heq hne
   ·exact fj
  ·intro j hj;by_cases hjk:k=j
   ·subst hjk;by_cases fj:k<listed.size
    ·simp[fj]
    ·simp[fj]
   ·rw[getD_set_ne true hjk];exact hk j aw
def Run.zyF{id n':Nat}{t t':List C}{H:zm}(hm:P.follows .mixedOrders=true)(hB:Region.lexB .any ops=true)(hE:BV .any ops eff=true)(hP:∀i j,Dp .any ops eff idx inR i j)(hH:Hs 0=H)
 (h:Bq P ops Hs eff idx inR (λt n=>t=t'/\n=n') ops.toList 0 t 0):Run P B (.region id ops true) ⟨t,H⟩ .normal ⟨t',Hs n'⟩:=λq m w E a Q _ hs hq=>by
 simp only[Region.lexB,gA]at hB;subst hH;refine wpIn_region_any hm (yD (Hs:=Hs) (eff:=eff) (idx:=idx) (inR:=inR) (H0:=Hs 0) (Q:=λt n=>t=t'/\n=n') (w0:=w) (E0:=E) (λt1 n1 w1 E1 a1 he h1 g1=>by obtain⟨rfl,rfl⟩:=he;exact hq _ _ w1 E1 a1 ⟨rfl,rfl⟩ h1 g1) _ _ t 0 _ E a hs.drew ((Grow.drew w E (Hs 0)).iG tA) ?_);have:=Nw (Hs:=Hs) (eff:=eff) (idx:=idx) (inR:=inR) (Q:=λt n=>t=t'/\n=n') (P:=P) (md:=.any) hE hP ops.toList 0 (Array.replicate ops.size false) t 0 Down.start aj (λj hj=>absurd hj (pz j)) (aq hB.2) h;simpa using this
structure lS where
 calls:Bool
 bl:List Nat
 keep:List Nat:=[]
 calm:List Nat:=[]
def oR:List Nat->Nat->Bool
 |[],_=>false
 |x::xs,k=>match Nat.beq x k with|true=>true|false=>oR xs k
def lS.blind(T:lS)(k:Nat):Bool:=oR T.bl k
def lS.Ee(T:lS)(k:Nat):Bool:=match T.calls with|true=>!oR T.calm k|false=>false
def i6(T:lS)(ops:Array Oper)(i:Nat):Bool:=match ops[i]? with|some o=>Em (T.Ee i) o && !T.blind i|none=>false
def yJ(T:lS)(ops:Array Oper)(i:Nat):Nat:=((List.range i).filter (i6 T ops)).length
def mP(T:lS)(ops:Array Oper)(i k:Nat):Bool:=match ops[i]? with|some o=>(xQ o || T.blind i) || k == yJ T ops i|none=>true
def JO(md:Region.Mode)(T:lS)(ops:Array Oper)(ms:List Nat):Bool:=
 BV md ops (i6 T ops) && (List.range ops.size).all λi=>(List.range ops.size).all λj=>
  (!(i6 T ops j) || i6 T ops i || mP T ops i (yJ T ops j+1) || !(mP T ops i (yJ T ops j)) || oI md ops ms j i) &&
  (!(i6 T ops i) || i6 T ops j || mP T ops j (yJ T ops i) || !(mP T ops j (yJ T ops i+1)) || oI md ops ms j i)
def Dl(md:Region.Mode)(T:lS)(ops:Array Oper):Bool:=JO md T ops (nS md ops)
def UI{T:lS}(h:Dl md T ops=true)(i j:Nat):Dp md ops (i6 T ops) (yJ T ops) (mP T ops) i j:=by
 simp only[Dl,JO,gA,gz,p7]at h
 have he:∀i,i6 T ops i=true->i<ops.size:=λi hi=>by
  unfold i6 at hi;split at hi
  ·rename_i o ho;exact(gI.1 ho).1
  ·cases hi
 have hin:∀i k,¬i<ops.size->mP T ops i k=true:=λi k hi=>by
  unfold mP;rw[r8 aw]
 constructor
 ·intro h1 h2 h3 h4;by_cases hi:i<ops.size
  ·have:=(h.2 i hi j (he j h2)).1;simp only[h1,h2,h3,h4,uw,rL,Bool.or_false]at this;exact dG
  ·exact hin i _ hi
 ·intro h1 h2 h3 h4;by_cases hj:j<ops.size
  ·have:=(h.2 i (he i h1) j hj).2;simp only[h1,h2,h3,h4,uw,rL,Bool.or_false]at this;exact dG
  ·exact hin j _ hj
def Ex(o:Oper):Bool:=match o.op with|.load ..=>true|_=>false
def Mn{o:Oper}{ρ:Operand->C}{H:zm}{K:C->zm->Prop}(hb:Ex o=true)(h:oG P H ρ o K):∃c,fy P o ρ H c H/\K c H:=by
 unfold Ex at hb;split at hb
 ·rename_i t x ho;unfold oG at h;rw[ho]at h;dsimp only at h;obtain⟨c,h1,h2⟩:=Fe h;exact⟨c,.same <|.load t x ho h1,h2⟩
 ·cases hb
def wg(keep:List Nat)(H H':zm):Prop:=∀id,oR keep id=true->H'[id]?=H[id]?
def wg.refl(keep:List Nat)(H:zm):wg keep H H:=λ_ _=>rfl
def wg.trans{keep:List Nat}{H H' H'':zm}(h:wg keep H H')(h':wg keep H' H''):wg keep H H'':=λid hi=>(h' id hi).trans (h id hi)
def EF(H H':zm)(k:Prop):List Nat->Prop
 |[]=>k
 |id::ids=>H'[id]?=H[id]?/\EF H H' k ids
def Fi{H H':zm}{k:Prop}:∀{keep:List Nat},EF H H' k keep->wg keep H H'/\k
 |[],h=>⟨λid hi=>by simp[oR]at hi,h⟩
 |x::xs,h=>by
  obtain⟨h1,h2⟩:=h;obtain⟨h3,h4⟩:=Fi h2;refine⟨λid hi=>?_,h4⟩;unfold oR at hi;split at hi
  ·rename_i e;obtain rfl:=Nat.eq_of_beq_eq_true e;exact h1
  ·exact h3 id hi
def V9{H H':zm}{id:Nat}(h:H'[id]?=H[id]?)(hops:List fT):qf H' id hops=qf H id hops:=by unfold qf;rw[h]
def Tz{H H':zm}{t:TypeId}{id:Nat}{hops:List fT}{sz i k:Nat}(h:H'[id]?=H[id]?):mS P H' t (.ref id hops sz i k)=mS P H t (.ref id hops sz i k):=by
 unfold mS Ae;simp only[V9 h]
def Gg(P:Program)(keep:List Nat)(H:zm)(ρ:Operand->C)(o:Oper)(K:C->zm->Prop):Prop:=
 match o.op with
 |.load t x=>match ρ x with
  |.jt cells=>Ew P H t (.jt cells) λc=>K c H
  |.ref id hops sz i k=>bK (oR keep id) <|Ew P H t (.ref id hops sz i k) λc=>K c H
  |_=>False
 |.call cl=>match cl.callee with
  |.value x=>match ρ x with
   |.fn f first caps=>bK (qp P f) <| ∃r,(∀H2,zb P f H2 (first++(cl.args.toList.map λx=>fZ (ρ x))++caps) r H2)/\okB r λr=>K r H
   |_=>False
  |_=>False
 |.makeSlice t x y=>match ρ x,ρ y with
  |.v (.int _ n),.v (.int _ n')=>match P.underlying t with
   |some (.slice e)=>match P.info? e with
    |some i=>match nk P e with
     |some cs=>bK (cs.all jc) <|n'=n/\0<=n/\(i.bytes:Int)*n<=281474976710656/\n<=9223372036854775807/\jw i.size λsz=>K (.fh 0 sz (List.replicate n.toNat cs)) H
     |none=>False
    |none=>False
   |_=>False
  |_,_=>False
 |_=>False
def LB{keep:List Nat}{o:Oper}{ρ:Operand->C}{H:zm}{K:C->zm->Prop}(h:Gg P keep H ρ o K):∃c,(∀H2,wg keep H H2->fy P o ρ H2 c H2)/\K c H:=by
 unfold Gg at h;split at h
 ·rename_i t x ho;split at h
  ·rename_i cells hx;obtain⟨c,h1,h2⟩:=Fe h;refine⟨c,λH2 _=>.same <|.load t x ho ?_,h2⟩;rw[hx,<-h1]
   rfl
  ·rename_i id hops sz i k hx;obtain⟨h0,h⟩:=z7 h;obtain⟨c,h1,h2⟩:=Fe h;refine⟨c,λH2 hs=>.same <|.load t x ho ?_,h2⟩;rw[hx,<-h1];exact Tz (hs id h0)
  ·exact cT
 ·rename_i cl ho;split at h
  ·rename_i x hcl;split at h
   ·rename_i f first caps hf;obtain⟨h1,r,h2,h3⟩:=z7 h;exact⟨r,λH2 _=>.JZ cl ho x hcl hf h1 (h2 H2),jq (k:=λc=>K c H) h3⟩
   ·exact cT
  ·exact cT
 ·rename_i t x y ho;split at h
  ·rename_i k n k' n' hx hy;split at h
   ·rename_i e hu;split at h
    ·rename_i i hi;split at h
     ·rename_i cs hz;obtain⟨h1,rfl,h2,h3,h4,h5⟩:=z7 h;exact⟨_,λH2 _=>.same <|.TD t x y ho hu hi hz h1 hx hy h2 h3 h4,qy (k:=λsz=>K (.fh 0 sz (List.replicate n'.toNat cs)) H) h5⟩
     ·exact cT
    ·exact cT
   ·exact cT
  ·exact cT
 ·exact cT
def Kn(P:Program)(T:lS)(ops:Array Oper)(o:Oper)(next:Nat->List C->zm->(List C->zm->Prop)->Prop)(k:Nat)(t:List C)(H:zm)(K:List C->zm->Prop):Prop:=
 match jm ops t o with
 |some true=>match T.blind k with
  |true=>Gg P T.keep H (ev t) o λc H'=>nF t o.dst c λt=>next (k+1) t H K
  |false=>match Em (T.Ee k) o with
   |true=>oG P H (ev t) o λc H'=>EF H H' (nF t o.dst c λt=>next (k+1) t H' K) T.keep
   |false=>match xQ o || Ex o with
    |true=>oG P H (ev t) o λc H'=>nF t o.dst c λt=>next (k+1) t H' K
    |false=>oG P H (ev t) o λc H'=>H'=H/\nF t o.dst c λt=>next (k+1) t H K
 |some false=>nF t o.dst .un λt=>next (k+1) t H K
 |none=>False
def nu(P:Program)(T:lS)(ops:Array Oper)(l:List Oper):Nat->List C->zm->(List C->zm->Prop)->Prop:=
 List.rec (motive:=λ_=>Nat->List C->zm->(List C->zm->Prop)->Prop) (λ_ t H K=>K t H) (λo _ next=>Kn P T ops o next) l
theorem WR(T:lS)(o:Oper)(l:List Oper)(k:Nat)(t:List C)(H:zm)(K:List C->zm->Prop):nu P T ops (o::l) k t H K=Kn P T ops o (nu P T ops l) k t H K:=rfl
def MN(T:lS)(k:Nat):yJ T ops (k+1)=yJ T ops k+if i6 T ops k then 1 else 0:=by
 unfold yJ;rw[fc,sK,pj];cases h:i6 T ops k <;> simp[h]
def IT{T:lS}{D:zm}:∀{l:List Oper} {k:Nat} {t:List C} {H:zm} {K:List C->zm->Prop},(∀j,l[j]?=ops[k+j]?)->wg T.keep H D->nu P T ops l k t H K->
  ∃(L:List zm) (t':List C),K t' ((H::L).getLast aj)/\(∀X∈L,wg T.keep H X)/\∀past:List zm,past.length=yJ T ops k->(∀X∈past,wg T.keep H X)->
   Bq P ops (λi=>((past++H::L)[i]?).getD D) (i6 T ops) (yJ T ops) (mP T ops) (λt n=>t=t'/\n=yJ T ops k+L.length) l k t (yJ T ops k)
 |[],k,t,H,K,hl,hD,h=>⟨[],t,h,aj,λpast hp _=>⟨rfl,rfl⟩⟩
 |o::l,k,t,H,K,hl,hD,h=>by
  have h0:ops[k]?=some o:=by simpa using (hl 0).symm
  have hl':∀j,l[j]?=ops[k+1+j]?:=λj=>by have:=hl (j+1);simpa [rV,eR 1 j] using this
  have he:i6 T ops k=(Em (T.Ee k) o && !T.blind k):=by unfold i6;rw[h0]
  have hin:∀m,mP T ops k m=((xQ o || T.blind k) || m == yJ T ops k):=λm=>by unfold mP;rw[h0]
  have all:∀(past L:List zm),(∀X∈past,wg T.keep H X)->(∀X∈L,wg T.keep H X)->∀m:Nat,wg T.keep H (((past++H::L)[m]?).getD D):=λpast L hp hL m=>by
   cases hx:(past++H::L)[m]? with
   |none=>exact hD
   |some X=>
    have:=dY hx;rcases gY.1 this with h1|h1
    ·exact hp X h1
    ·rcases rz.1 h1 with rfl|h1
     ·exact .refl _ _
     ·exact hL X h1
  have quiet:∀c,i6 T ops k=false->(∀past L,past.length=yJ T ops k->(∀X∈past,wg T.keep H X)->(∀X∈L,wg T.keep H X)->QA P ops (λi=>((past++H::L)[i]?).getD D) (mP T ops k) o c t)->nu P T ops l (k+1) (put t o.dst c) H K->
    ∃(L:List zm) (t':List C),K t' ((H::L).getLast aj)/\(∀X∈L,wg T.keep H X)/\∀past:List zm,past.length=yJ T ops k->(∀X∈past,wg T.keep H X)->
     Bq P ops (λi=>((past++H::L)[i]?).getD D) (i6 T ops) (yJ T ops) (mP T ops) (λt n=>t=t'/\n=yJ T ops k+L.length) (o::l) k t (yJ T ops k):=λc ht hq hK=>by
   obtain⟨L,t',h1,hL,h2⟩:=IT hl' hD hK;have hc:yJ T ops (k+1)=yJ T ops k:=by rw[MN,ht];rfl
   rw[hc]at h2;refine⟨L,t',h1,hL,λpast hp hs=>?_⟩;unfold Bq mW;rw[h0];exact⟨c,_,.inl ⟨ht,by rw[hin];simp,hq past L hp hs hL,rfl⟩,h2 past hp hs⟩
  have mG:∀c H',i6 T ops k=true->EA P ops H H' o c t->wg T.keep H H'->nu P T ops l (k+1) (put t o.dst c) H' K->
    ∃(L:List zm) (t':List C),K t' ((H::L).getLast aj)/\(∀X∈L,wg T.keep H X)/\∀past:List zm,past.length=yJ T ops k->(∀X∈past,wg T.keep H X)->
     Bq P ops (λi=>((past++H::L)[i]?).getD D) (i6 T ops) (yJ T ops) (mP T ops) (λt n=>t=t'/\n=yJ T ops k+L.length) (o::l) k t (yJ T ops k):=λc H' ht hq hsm hK=>by
   have back:wg T.keep H' H:=λid hi=>(hsm id hi).symm
   obtain⟨L,t',h1,hL,h2⟩:=IT hl' (back.trans hD) hK;have hc:yJ T ops (k+1)=yJ T ops k+1:=by rw[MN,ht];rfl
   rw[hc]at h2;refine⟨H'::L,t',aq h1,λX hX=>?_,λpast hp hs=>?_⟩
   ·rcases rz.1 hX with rfl|hX
    ·exact hsm
    ·exact hsm.trans (hL X hX)
   have h3:=h2 (past++[H]) (by simp[hp]) (λX hX=>by
    rcases gY.1 hX with h|h
    ·exact back.trans (hs X h)
    ·rw[gX.1 h];exact back)
   unfold Bq mW;rw[h0];refine⟨c,yJ T ops k+1,.inr ⟨ht,rfl,?_,rfl⟩,?_⟩
   ·have e1:((past++H::H'::L)[yJ T ops k]?).getD D=H:=by rw[<-hp];simp
    have e2:((past++H::H'::L)[yJ T ops k+1]?).getD D=H':=by rw[<-hp,gG aw];simp
    dsimp only;rw[e1,e2];exact hq
   ·simpa [rG,rV,eR 1] using h3
  have same:∀(past L:List zm),past.length=yJ T ops k->((past++H::L)[yJ T ops k]?).getD D=H:=λpast L hp=>by rw[<-hp];simp
  rw[WR]at h;unfold Kn at h;split at h
  ·rename_i hw;cases hbl:T.blind k with
   |true=>
    rw[hbl]at h;obtain⟨c,h1,h2⟩:=LB h;exact quiet c (by rw[he,hbl];simp) (λpast L _ hs hL=>.inl ⟨hw,λm _=>h1 _ (all past L hs hL m)⟩) (jD (k:=λt=>nu P T ops l (k+1) t H K) h2)
   |false=>
   rw[hbl]at h;simp only at h;have he2:i6 T ops k=Em (T.Ee k) o:=by rw[he,hbl];simp
   cases ht:Em (T.Ee k) o with
   |true=>
    rw[ht]at h;obtain⟨c,H',h1,h2⟩:=HN h;obtain⟨h3,h4⟩:=Fi h2;exact mG c H' (he2.trans ht) (.inl ⟨hw,h1⟩) h3 (jD (k:=λt=>nu P T ops l (k+1) t H' K) h4)
   |false=>
    rw[ht]at h;simp only at h;cases hb:xQ o with
    |true=>
     rw[hb,ef]at h;obtain⟨c,h1,h2⟩:=Lw hb h;exact quiet c (he2.trans ht) (λpast L _ _ _=>.inl ⟨hw,λm _=>h1 _⟩) (jD (k:=λt=>nu P T ops l (k+1) t H K) h2)
    |false=>
     rw[hb,rL]at h
     have only:∀c,fy P o (ev t) H c H->∀past L,past.length=yJ T ops k->(∀X∈past,wg T.keep H X)->(∀X∈L,wg T.keep H X)->QA P ops (λi=>((past++H::L)[i]?).getD D) (mP T ops k) o c t:=λc h1 past L hp _ _=>.inl ⟨hw,λm hm=>by
      rw[hin,hb,hbl,rL,rL,pF]at hm;subst hm;dsimp only;rw[same past L hp];exact h1⟩
     cases hlo:Ex o with
     |true=>
      rw[hlo]at h;obtain⟨c,h1,h2⟩:=Mn hlo h;exact quiet c (he2.trans ht) (only c h1) (jD (k:=λt=>nu P T ops l (k+1) t H K) h2)
     |false=>
      rw[hlo]at h;obtain⟨c,H',h1,rfl,h2⟩:=HN h;exact quiet c (he2.trans ht) (only c h1) (jD (k:=λt=>nu P T ops l (k+1) t _ K) h2)
  ·rename_i hw;have hK:=jD (k:=λt=>nu P T ops l (k+1) t H K) h;cases ht:i6 T ops k with
   |true=>exact mG .un H ht (.inr ⟨hw,rfl,rfl⟩) (.refl _ _) hK
   |false=>exact quiet .un ht (λpast L _ _ _=>.inr ⟨hw,rfl⟩) hK
  ·exact cT
def Run.zyG{id:Nat}{T:lS}{t:List C}{H:zm}{K:List C->zm->Prop}(hm:P.follows .mixedOrders=true)(hB:Region.lexB .any ops=true)(hT:Dl .any T ops=true)(h:nu P T ops ops.toList 0 t H K):
  ∃s',Run P B (.region id ops true) ⟨t,H⟩ .normal s'/\K s'.tmps s'.H:=by
 obtain⟨L,t',h1,_,h2⟩:=IT (k:=0) (D:=H) aj (.refl _ _) h;have h3:=h2 [] J aj;have hE:BV .any ops (i6 T ops)=true:=by simp only[Dl,JO,gA]at hT;exact hT.1
 have:=Run.zyF (B:=B) (id:=id) (Hs:=λi=>((H::L)[i]?).getD H) (eff:=i6 T ops) (idx:=yJ T ops) (inR:=mP T ops) (n':=L.length) (t':=t') hm hB hE (λi j=>UI hT i j) J (by simpa [yJ] using h3);refine⟨_,this,?_⟩
 have e:((H::L)[L.length]?).getD H=(H::L).getLast aj:=by
  rw[List.getLast_eq_getElem];simp
 dsimp only;rw[e];exact h1
end
def B0:C->Bool
 |.agg cs=>cs.all jc
 |c=>jc c
def qt(H:zm):Bool:=H.all λob=>match ob.kind with
 |1=>ob.rows.all λr=>r.all zx
 |4=>ob.fz == 0 || (match ob.rows with|[.rc _::t]=>t.all B0|_=>false)
 |_=>true
def E4{H:zm}{id:Nat}{ty:TypeId}{sz fz:Nat}{r r':List C}(hob:H[id]?=some ⟨1,ty,sz,[r],fz⟩)(hno:r.all zx=true)(hno':r'.all zx=true){id':Nat}{p:List fT}{x:Nat×List (List C)}
 (h:qf (H.set id ⟨1,ty,sz,[r'],fz⟩) id' p=some x):(id'≠id/\qf H id' p=some x)\/(id'=id/\p=[]/\x=(sz,[r'])/\qf H id []=some (sz,[r])):=by
 obtain⟨ob,ho,hk,hg⟩:=jo h;by_cases hi:id'=id
 ·subst hi
  right
  rw[gD,gh J,gh (dW.1 hob).1]at ho;cases ho
  obtain⟨rfl,rfl⟩:=wM (λi k c hc=>by
   obtain⟨rfl,hc⟩:=vg.1 hc;exact gz.1 hno' c (dY hc)) hg
  exact⟨rfl,rfl,rfl,by unfold qf;rw[hob];simp[qW]⟩
 ·left
  refine⟨hi,?_⟩;rw[gD,dZ (Ne.symm hi)]at ho;unfold qf;rw[ho];simp only[hk,if_true];exact hg
def ql.El{w:World}{E:Env}{H:zm}(h:ql w E H){id:Nat}{ty:TypeId}{sz fz:Nat}{r r':List C}(hob:H[id]?=some ⟨1,ty,sz,[r],fz⟩)(hlen:r'.length=r.length)(hno:r.all zx=true)(hno':r'.all zx=true)
 (hc:∀(k:Nat) c c' u,r[k]?=some c->r'[k]?=some c'->L E c u->w.cell? ⟨E.β id [],k,none⟩=some u->L E c' u):ql w E (H.set id ⟨1,ty,sz,[r'],fz⟩) where
 n:=aq h.n
 fD id' ob p sz' rows' hob' hx:=by
  rcases E4 hob hno hno' hx with⟨h1,h2⟩|⟨rfl,rfl,h1,h2⟩
  ·rw[gD,dZ (Ne.symm h1)]at hob';exact h.fD id' ob p sz' rows' hob' h2
  ·rw[gD,gh J,gh (dW.1 hob).1]at hob';cases hob'
   cases h1
   have hb:=h.fD _ _ _ _ _ hob h2;refine⟨hb.len,λq hq=>?_,?_⟩
   ·rw[gX.1 hq,hlen];exact hb.row r (gX.2 J)
   ·obtain⟨cur,e,h3,h4,h5⟩:=hb.fD;refine⟨cur,e,h3,h4,?_⟩;intro i k c' hc';obtain⟨rfl,hc'⟩:=vg.1 hc';have hk:k<r.length:=by rw[<-hlen];exact(dW.1 hc').1
    have hk':r[k]?=some r[k]:=by simp[hk]
    obtain⟨u,hu,ho⟩:=h5 0 k r[k] (vg.2 ⟨rfl,hk'⟩);refine⟨u,hu,?_⟩;rw[qZ.loose (gz.1 hno _ (dY hk'))]at ho;rw[qZ.loose (gz.1 hno' c' (dY hc'))];refine⟨?_,ho.2⟩;have h6:L E r[k] u:=aF
    have h7:L E c' u:=hc k _ _ u hk' hc' h6 (by
     unfold World.cell?;rw[h3];simpa using hu)
    simpa [Env.at] using h7
 inj i p j q x y hx hy he:=by
  have key:∀i p x,qf (H.set id ⟨1,ty,sz,[r'],fz⟩) i p=some x->∃x',qf H i p=some x':=λi p x hx=>by
   rcases E4 hob hno hno' hx with⟨h1,h2⟩|⟨rfl,rfl,h1,h2⟩
   ·exact⟨x,h2⟩
   ·exact⟨_,h2⟩
  obtain⟨x',hx'⟩:=key i p x hx;obtain⟨y',hy'⟩:=key j q y hy;exact h.inj i p j q x' y' hx' hy' he
 qz:=h.qz
 sep i p x o u hx hu:=by
  rcases E4 hob hno hno' hx with⟨h1,h2⟩|⟨rfl,rfl,h1,h2⟩
  ·obtain⟨e1,ob,e2,e3⟩:=h.sep i p x o u h2 hu;exact⟨e1,ob,by rw[gD,dZ (Ne.symm h1)];exact e2,e3⟩
  ·obtain⟨e1,ob,e2,e3⟩:=h.sep _ [] _ o u h2 hu;rw[hob]at e2;cases e2
   exact⟨rfl,⟨1,ty,sz,[r'],fz⟩,by rw[gD,gh J,gh (dW.1 hob).1],e3⟩
 ty i ob ho hk:=by
  rw[gD]at ho;split at ho
  ·split at ho
   ·cases ho;cases hk
   ·cases ho
  ·exact h.ty i ob ho hk
 fz i ob ho:=by
  rw[gD]at ho;split at ho
  ·split at ho
   ·cases ho;have:=h.fz id _ hob;exact dG
   ·cases ho
  ·exact h.fz i ob ho
def jH.P1{H:zm}{id:Nat}{ob ob':Ob}(hob:H[id]?=some ob)(h1:ob.kind≠4)(h2:ob'.kind≠4):jH H (H.set id ob'):=λi o h4=>by
 rw[gD];split
 ·rename_i e;subst e;rw[gh (dW.1 hob).1,hob];constructor
  ·intro e;cases e;exact absurd h4 h2
  ·intro e;cases e;exact absurd h4 h1
 ·exact Iff.rfl
def qA.El{w:World}{E:Env}{H:zm}(h:qA w E H){id:Nat}{ty:TypeId}{sz fz:Nat}{r r':List C}(hob:H[id]?=some ⟨1,ty,sz,[r],fz⟩)(hlen:r'.length=r.length)(hno:r.all zx=true)(hno':r'.all zx=true)
 (hc:∀(k:Nat) c c' u,r[k]?=some c->r'[k]?=some c'->L E c u->w.cell? ⟨E.β id [],k,none⟩=some u->L E c' u):qA w E (H.set id ⟨1,ty,sz,[r'],fz⟩)/\Grow w E H w E (H.set id ⟨1,ty,sz,[r'],fz⟩):=by
 have hR:=h.base.El hob hlen hno hno' hc
 have hG:qH w E H w E (H.set id ⟨1,ty,sz,[r'],fz⟩):=⟨Env.le.refl E,λ_ _ _=>J,rfl,rfl,rfl,gC _,λ_ _ _=>J,λ_ _ _ h=>.inl h,λb ⟨i,p,x,hx,he⟩=>by
  rcases E4 hob hno hno' hx with⟨h1,h2⟩|⟨rfl,rfl,h1,h2⟩
  ·exact .inr ⟨i,p,x,h2,he⟩
  ·exact .inr ⟨_,[],_,h2,he⟩⟩
 have hk:=jH.P1 (ob':=⟨1,ty,sz,[r'],fz⟩) hob (λe=>by cases e) (λe=>by cases e);exact⟨⟨hR,mY.step h hG hk⟩,hG.up h hk⟩
section
variable {B:Nat} {s:S}
def zq.var(id:Nat){ty:TypeId}{sz fz:Nat}{r r':List C}(hob:s.H[id]?=some ⟨1,ty,sz,[r],fz⟩)(hno:r.all zx=true)(hno':r'.all zx=true)(hw:iL r r'):zq B s ⟨s.tmps,s.H.set id ⟨1,ty,sz,[r'],fz⟩⟩:=λm w E a hs=>by
 have hlen:∀{a b:List C},iL a b->b.length=a.length:=by
  intro a b h
  induction h with
  |nil=>rfl
  |cons _ _ ih=>simp[ih]
 have hget:∀{a b:List C},iL a b->∀(k:Nat) c c',a[k]?=some c->b[k]?=some c'->WC c c':=by
  intro a b h
  induction h with
  |nil=>intro k c c' h;simp at h
  |cons h1 _ ih=>
   intro k c c' e1 e2;cases k with
   |zero=>simp at e1 e2;subst e1 e2;exact h1
   |succ k=>exact ih k c c' (aq e1) uY
 obtain⟨hR,g⟩:=hs.heap.El hob (hlen hw) hno hno' λk c c' u e1 e2 hl _=>hget hw k c c' e1 e2 E u hl
 exact⟨E,⟨hR,hs.tmps,hs.defers,aq hs.base⟩,g.iG tA⟩
def zq.Bf(id k:Nat)(ty':TypeId)(sz':Nat){ty:TypeId}{sz fz sz0:Nat}{r:List C}{rows:List (List C)}(hob:s.H[id]?=some ⟨1,ty,sz,[r],fz⟩)(hk:r[k]?=some (.fh 1 sz0 rows))(hz:rows=[]\/sz'=sz0)(hno:r.all zx=true)
 (hno':(r.set k (.gl s.H.length sz' rows)).all zx=true):
  zq B s ⟨s.tmps,s.H.set id ⟨1,ty,sz,[r.set k (.gl s.H.length sz' rows)],fz⟩++[⟨4,ty',sz',rows,0⟩]⟩:=λm w E a hs=>by
 have hgb:qf s.H id []=some (sz,[r]):=by unfold qf;rw[hob];simp[qW]
 have hb:=hs.heap.base.fD _ _ _ _ _ hob hgb;obtain⟨cur,e,h3,h4,h5⟩:=hb.fD;obtain⟨u,hu,ho⟩:=h5 0 k _ (vg.2 ⟨rfl,hk⟩);rw[qZ.loose J]at ho;have hl:L E (.fh 1 sz0 rows) u:=aF
 obtain⟨E1,hh1,hl1,g1⟩:=hs.heap.Fp hl ty' hz;have fj:id<s.H.length:=(dW.1 hob).1;have hob1:(s.H++[⟨4,ty',sz',rows,0⟩])[id]?=some ⟨1,ty,sz,[r],fz⟩:=by rw[gy fj];exact hob
 have hβ:E1.β id []=E.β id []:=g1.le.β id [] (by rw[hs.heap.n];exact fj)
 have hcu:w.cell? ⟨E1.β id [],k,none⟩=some u:=by
  unfold World.cell?;rw[hβ,h3];simpa using hu
 obtain⟨hR,g2⟩:=hh1.El hob1 (r':=r.set k (.gl s.H.length sz' rows)) aj hno hno' λj c c' v e1 e2 hl' hv=>by
  rw[gD]at e2;split at e2
  ·rename_i e;subst e;rw[hcu]at hv;cases hv
   split at e2
   ·cases e2;exact hl1
   ·cases e2
  ·rw[e1]at e2;cases e2
   exact hl'
 rw[tp _ _ fj]at hR g2;exact df
end
def Ip(w:World)(o:Obj){k:Nat}(h:k<w.heap.size):(w.alloc o).heap[k]?=w.heap[k]?:=by
 show(w.heap.push o)[k]?=_;rw[Array.getElem?_push,dZ aw]
def Ur{P:Program}{g:Operand}{ps:Array Tmp}{assign body:Code}{B m:Nat}{H:zm}{t:List C}{f:FuncId}{caps:List C}{w:World}{E:Env}{a:Act}{Q:Exit->Act->World->Prop}
 (hs:x8 B m w E ⟨t,H⟩ a)(hg:ev t g=.fn f [] caps)(hcb:qp P f=true)
 (hit:∀(l:Nat) (r:Loop),r.state=.ready->r.pending=none->r.params=ps->r.assign=assign->r.body=body->
   ∃(rr:C) (Hf:zm) (rf:Loop),zb P f (H++[iy l r t]) (.v (.func (.yield l) #[] #[])::caps) rr Hf/\Hf[H.length]?=some (iy l rf t)/\rf.state≠.busy/\rf.tmps=r.tmps/\B<=Hf.length/\
   ∀w' E' a',x8 B m w' E' ⟨t,Hf.set H.length (iy l {rf with state:=.exhausted} t)⟩ a'->jN B w E H w' E' (Hf.set H.length (iy l {rf with state:=.exhausted} t))->
    match rf.pending with|none=>Q .normal a' w'|some c=>c.wpIn (fw none) 0 P Q a' w'):
  (Code.rangeFunc g ps assign body).wpIn (fw none) 0 P Q a w:=by
 have hm:=hs.defers.le;refine wpIn_rangeFunc ?_;intro fn _;obtain⟨r,hr⟩:∃r:Loop,r={state:=.ready,pending:=none,fn,tmps:=a.tmps,params:=ps,assign,body,defers:=w.heap.size}:=⟨_,rfl⟩;obtain⟨W1,hW1⟩:∃W1,W1=(w.alloc (.deferred (some []))).alloc (.loop r):=⟨_,rfl⟩
 have hL1:W1.heap[w.heap.size+1]?=some (.loop r):=by
  rw[hW1];have:=World.alloc_heap_new (w.alloc (.deferred (some []))) (.loop r);rwa [World.size_alloc]at this
 have hK1:W1.heap[w.heap.size]?=some (.deferred (some [])):=by
  rw[hW1];exact(Ip _ _ aj).trans (World.alloc_heap_new w _)
 have hsame:∀k,k<w.heap.size->W1.heap[k]?=w.heap[k]?:=λk hk=>by
  rw[hW1];exact(Ip _ _ aA).trans (Ip _ _ hk)
 have hsz:W1.heap.size=w.heap.size+2:=by rw[hW1];simp
 have hv:=EN hs.tmps g;rw[hg]at hv
 obtain⟨zs,hσ,hzs⟩:∃zs,a.eval g=.func (.func f) #[] zs/\LL E caps zs.toList:=by
  generalize a.eval g=u at *;cases hv with
  |fn f first caps ys zs h1 h2 h3 h4=>
   have:ys= #[]:=aq h1.symm
   subst this;exact⟨zs,rfl,aq h2,λi c y e1 e2=>h4 i c y e1 uY⟩
 obtain⟨E1,hR1,G1⟩:=hs.heap.ZS (w:=W1) (l:=w.heap.size+1) (r:=r) (t:=t) hsame (by rw[hW1];rfl) (by rw[hW1];rfl) (by rw[hW1];rfl) aw hL1 aw (by rw[hr];exact hs.tmps);obtain⟨rr,Hf,rf,hS,hHf,hbusy,htm,hB,hQ⟩:=hit (w.heap.size+1) r (by rw[hr]) (by rw[hr]) (by rw[hr]) (by rw[hr]) (by rw[hr])
 have eg:∀(args:Array Value),(callFunc f args).run P W1=.ok (.enter f args) W1:=by
  intro args;unfold qp at hcb;split at hcb
  rotate_left
  ·cases hcb
  rename_i fn hfn;simp only[gA,pJ]at hcb;have hname : fn.name ≠ "runtime.NumGoroutine" := by simpa using hcb.1
  have hbody:fn.body≠none:=bE
  simp[callFunc,hfn,hname,hbody]
 refine⟨w.heap.size+1,[BY w.heap.size],W1,{target:=.fn (.func f) zs,args:= #[.func (.yield (w.heap.size+1)) #[] #[]]},W1,f, #[.func (.yield (w.heap.size+1)) #[] #[]]++zs,W1,?_,?_,λ_ _=>trivial,?_,λh=>aR,?_⟩
 ·rw[hW1,hr];exact run_enterLoop_outer _ _ _ _ _
 ·simp only[resolve,hσ];simp[go_sem]
 ·simp[invoke,go_sem,eg]
 ·refine(callsIn_wide (n:=0)).2 ((hS W1 E1 _ hR1 ?_).mono ?_)
  ·have:=(LL.one (.v _ rfl:L E1 (.v (.func (.yield (w.heap.size+1)) #[] #[])) (.func (.yield (w.heap.size+1)) #[] #[]))).append (hzs.mono G1.le);simpa using this
  ·rintro e w3 ⟨v,E3,rfl,hR3,_,G3⟩;obtain⟨⟨hL3,_⟩,ht3⟩:=hR3.fm.iD H.length _ (.loop rf) t hHf J ⟨rfl,rfl⟩;obtain⟨hR4,G4⟩:=hR3.Ga (r':={rf with state:=.exhausted}) hHf J;have hend:=run_endLoop (P:=P) hL3 hbusy;have G:=(G1.trans G3).trans G4;have hn:B<=E.n:=by rw[hs.heap.n];exact hs.base
   have hD:(w3.putObj (w.heap.size+1) (.loop {rf with state:=.exhausted})).heap[w.heap.size]?=some (.deferred (some [])):=by
    rw[World.putObj_heap_other aw];exact(G3.frame _ aw (hR1.free hK1)).trans hK1
   have h4:x8 B m (w3.putObj (w.heap.size+1) (.loop {rf with state:=.exhausted})) E3 ⟨t,Hf.set H.length (iy (w.heap.size+1) {rf with state:=.exhausted} t)⟩ {a with defers:=[BY w.heap.size]++a.defers}:=by
    refine⟨hR4,hs.tmps.mono G.le,⟨⟨w.heap.size,rfl,hm,hD,?_⟩,hs.defers.grow hs.heap G⟩,aq hB⟩;intro hmem
    have key:∀{ds:List Deferred},Marks m w ds->BY w.heap.size∉ds:=by
     intro ds
     induction ds with
     |nil=>intro _ h;cases h
     |cons d ds ih=>
      rintro⟨⟨D,h1,_,h3,_⟩,ht⟩ h;rcases rz.1 h with h5|h5
      ·rw[h1]at h5;have:w.heap.size=D:=by simpa [BY] using h5
       have:=(gI.1 h3).1;omega
      ·exact ih ht h5
    exact key hs.defers hmem
   have:=hQ _ _ _ h4 (G.iG hn);refine⟨rf.pending,_,hend,?_⟩;exact dG
def Qa:Option Code->Exit->Prop
 |none,.normal=>True
 |some .ret,.ret=>True
 |some (.exit i),.exit j=>i=j
 |_,_=>False
def qU.rangeFunc{P:Program}{g:Operand}{ps:Array Tmp}{assign body:Code}{B:Nat}{H:zm}{t:List C}{f:FuncId}{caps:List C}{R:Exit->S->Prop}(hg:ev t g=.fn f [] caps)(hcb:qp P f=true)
 (hit:∀(l:Nat) (r:Loop),r.state=.ready->r.pending=none->r.params=ps->r.assign=assign->r.body=body->
   ∃(rr:C) (Hf:zm) (rf:Loop) (ex:Exit) (s':S),zb P f (H++[iy l r t]) (.v (.func (.yield l) #[] #[])::caps) rr Hf/\Hf[H.length]?=some (iy l rf t)/\rf.state≠.busy/\rf.tmps=r.tmps/\B<=Hf.length/\Qa rf.pending ex/\
    zq B ⟨t,Hf.set H.length (iy l {rf with state:=.exhausted} t)⟩ s'/\R ex s'):qU P B (.rangeFunc g ps assign body) ⟨t,H⟩ R:=λq m w E a Q hr hs hq=>by
 obtain rfl:=hr J;refine Ur hs hg hcb λl r h1 h2 h3 h4 h5=>?_
 obtain⟨rr,Hf,rf,ex,s',a1,a2,a3,a4,a5,a6,a7,a8⟩:=hit l r h1 h2 h3 h4 h5;refine⟨rr,Hf,rf,a1,a2,a3,a4,a5,λw' E' a' hs' g'=>?_⟩;obtain⟨E2,hs2,g2⟩:=a7 m w' E' a' hs';have hq':=hq ex s' w' E2 a' a8 hs2 (g'.trans g2);generalize rf.pending=pe at a6
 match pe,ex,a6 with
 |none,.normal,_=>exact hq'
 |some .ret,.ret,_=>exact wpIn_ret hq'
 |some (.exit i),.exit j,h=>cases h;exact wpIn_exit hq'
def NB(o:Oper):Option TypeId:=match o.op with
 |.makeMap t r=>match r with
  |none=>some t
  |some _=>none
 |_=>none
def YC(P:Program)(t:TypeId):Bool:=match P.underlying t with
 |some (.map _ e)=>match P.underlying e with
  |some (.int _)=>false
  |some .bool=>false
  |some .string=>false
  |_=>true
 |_=>false
noncomputable def hasC(H:zm):Bool:=List.rec (motive:=λ_=>Bool) false (λob _ next=>match ob with
 |⟨kind,_,sz,_,fz⟩=>match kind with
  |4=>match sz with
   |2=>match fz with
    |1=>true
    |_=>next
   |_=>next
  |_=>next) H
noncomputable def mapRel(H:zm)(ρ:Operand->C)(o:Oper):Bool:=match o.op with
 |.range _ _=>true
 |.next _ _=>true
 |.entry _=>true
 |.insert _ _ _ _=>true
 |.mapUpdate _ _ _ _=>hasC H
 |.call cl=>match cl.callee with
  |.builtin b=>match b with
   |.delete=>true
   |.append=>match cl.args.toList with
    |x::_=>match ρ x with
     |.gl _ _ _=>hasC H
     |.fh _ sz _=>match sz with
      |99=>true
      |_=>false
     |_=>false
    |[]=>false
   |_=>false
  |_=>false
 |_=>false
def zzs(P:Program)(t:TypeId):Bool:=
 match P.underlying t with
 |some (.pointer _)=>true
 |some (.map _ _)=>true
 |some (.tuple es)=>match es.toList with
  |u::_=>match P.underlying u with
   |some (.pointer _)=>true
   |_=>false
  |[]=>false
 |_=>false
def Qd(P:Program)(ρ:Operand->C)(o:Oper):Option (FuncId×List C):=
 match o.op with
 |.call cl=>match cl.callee with
  |.value x=>match ρ x with
   |.fn f first caps=>match qp P f with
    |true=>some (f,first++(cl.args.toList.map λx=>fZ (ρ x))++caps)
    |false=>none
   |_=>none
  |_=>none
 |_=>none
def J7(P:Program)(ρ:Operand->C)(o:Oper):Option (FuncId×List C):=
 match zzs P o.type with
 |true=>Qd P ρ o
 |false=>none
def qT.call{P:Program}{H:zm}{ρ:Operand->C}{o:Oper}{f:FuncId}{args:List C}{R:C->zm->Prop}(h:J7 P ρ o=some (f,args))(hs:qI P f H args R):qT P o ρ H R:=λw E σ hh hl _ K hk=>by
 unfold J7 at h;split at h
 rotate_left
 ·cases h
 unfold Qd at h;split at h
 rotate_left
 ·cases h
 rename_i cl ho;split at h
 rotate_left
 ·cases h
 rename_i x hcl;split at h
 rotate_left
 ·cases h
 rename_i f' first caps hf;split at h
 rotate_left
 ·cases h
 rename_i hcb;cases h
 have hl:∀x∈o.op.operands,L E (Ab.fZ (ρ x)) (σ x):=λx hx=>Bi (hl x hx)
 have h0:=hl x bD;rw[hf]at h0;have h0:L E (.fn f first caps) (σ x):=h0
 obtain⟨ys,zs,hv,h1,h2,h3,h4⟩:∃ys zs,σ x=.func (.func f) ys zs/\first.length=ys.size/\caps.length=zs.size/\(∀(i:Nat) c y,first[i]?=some c->ys[i]?=some y->L E c y)/\(∀(i:Nat) c y,caps[i]?=some c->zs[i]?=some y->L E c y):=by
  generalize σ x=u at *;cases h0 with
  |fn f first caps ys zs h1 h2 h3 h4=>exact⟨ys,zs,rfl,h1,h2,h3,h4⟩
 unfold qp at hcb;split at hcb
 rotate_left
 ·cases hcb
 rename_i fn hfn;simp only[gA,pJ]at hcb;have hname : fn.name ≠ "runtime.NumGoroutine" := by simpa using hcb.1
 have hbody:fn.body≠none:=bE
 have hr:(execOp σ o).run P w=.ok (.enter f (ys++cl.args.map σ++zs)) w:=by
  unfold execOp;simp[ho,resolve,hcl,hv,Deferred.ofValue,invoke,callFunc,hfn,hname,hbody]
 rw[hr];refine(hs w E (ys++cl.args.map σ++zs) hh ?_).mono ?_
 ·have e1:LL E first ys.toList:=⟨aq h1,λi c y e1 e2=>h3 i c y e1 uY⟩;have e2:LL E caps zs.toList:=⟨aq h2,λi c y e1 e2=>h4 i c y e1 uY⟩
  have e3:LL E (cl.args.toList.map λx=>Ab.fZ (ρ x)) (cl.args.map σ).toList:=by
   refine⟨aj,?_⟩;intro i c y hc hy;rw[gf]at hc;rw[u3,gf]at hy;cases ha:cl.args.toList[i]? with
   |none=>rw[ha]at hc;cases hc
   |some a=>
    rw[ha]at hc hy;cases hc
    cases hy
    exact dM
  have:=(e1.append e3).append e2;simpa using this
 ·rintro e w' ⟨c,H',v,E',hR,rfl,h5,h6,h7⟩;exact⟨v,rfl,hk c H' v w' E' hR h5 h6 h7⟩
def Kg(o:Oper):Option (BinOp×TypeId×Operand):=
 match o.op with
 |.binOp op t x y _=>match y with
  |.const v=>match v with
   |.nilFunc=>some (op,t,x)
   |_=>none
  |_=>none
 |_=>none
def Jz(x:C):Option Bool:=
 match x with
 |.fn ..=>some false
 |.v y=>match y with
  |.nilFunc=>some true
  |_=>none
 |_=>none
def LY{x:C}{b:Bool}(h:Jz x=some b):∀E u,L E x u->(b=true/\u=.nilFunc)\/(b=false/\∃f ys zs,u=.func f ys zs):=by
 intro E u hl;unfold Jz at h;split at h
 ·cases h;cases hl;exact .inr ⟨rfl,_,_,_,rfl⟩
 ·split at h
  ·cases h;cases hl;exact .inl ⟨rfl,rfl⟩
  ·cases h
 ·cases h
def CC(P:Program)(t:TypeId):Bool:=
 match P.underlying t with
 |some (.func ..)=>true
 |_=>false
def Hg(P:Program)(H:zm)(op:BinOp)(t:TypeId)(x:C)(K:C->zm->Prop):Prop:=
 match Jz x with
 |some b=>match op with
  |.eql=>bK (CC P t) <|K (.v (.bool b)) H
  |.neq=>bK (CC P t) <|K (.v (.bool (!b))) H
  |_=>False
 |none=>False
def Sa{P:Program}(w:World)(d:Nat)(t:TypeId)(ht:CC P t=true)(y:Value)(n:Bool)(hy:(n=true/\y=.nilFunc)\/(n=false/\∃f xs ys,y=.func f xs ys)):(Op.equalIn (d+1) t y .nilFunc).run P w=.ok n w:=by
 unfold CC at ht;split at ht
 rotate_left
 ·cases ht
 rename_i a b c hu;rcases hy with⟨rfl,rfl⟩|⟨rfl,f,xs,ys,rfl⟩ <;> simp[Op.equalIn,run_underlying hu]
def Uw{P:Program}(w:World)(t:TypeId)(ht:CC P t=true)(y:Value)(n:Bool)(hy:(n=true/\y=.nilFunc)\/(n=false/\∃f xs ys,y=.func f xs ys)):(Op.equal t y .nilFunc).run P w=.ok n w:=Sa w 9999 t ht y n hy
def nA.PK{P:Program}{o:Oper}{ρ:Operand->C}{H:zm}(op:BinOp)(t t':TypeId)(x:Operand)(ho:o.op=.binOp op t x (.const .nilFunc) t')(hop:op=.eql\/op=.neq)(ht:CC P t=true)(b:Bool)
 (hx:∀E u,L E (ρ x) u->(b=true/\u=.nilFunc)\/(b=false/\∃f ys zs,u=.func f ys zs)):nA P o ρ H (.v (.bool (if op=.eql then b else !b))) H:=λw E σ hh hl hc K hk=>by
 have hv:=hx E _ (hl x uW);have he:=Uw w t ht _ _ hv
 have hr:(execOp σ o).run P w=.ok (.value (.bool (if op=.eql then b else !b))) w:=by
  unfold execOp;rcases hv with⟨rfl,hv⟩|⟨rfl,f,ys,zs,hv⟩ <;> rw[hv]at he <;> rcases hop with rfl|rfl <;> simp[ho,hv,hc,eqGuard,binOp,he]
 rw[hr];exact hk _ w E hh (.v _ J) (Grow.refl w E H)
def Xl{P:Program}{o:Oper}{ρ:Operand->C}{H:zm}{K:C->zm->Prop}{op:BinOp}{t:TypeId}{x:Operand}(ho:Kg o=some (op,t,x))(h:Hg P H op t (ρ x) K):∃c,nA P o ρ H c H/\K c H:=by
 obtain⟨t',ho⟩:∃t',o.op=.binOp op t x (.const .nilFunc) t':=by
  unfold Kg at ho;split at ho
  ·rename_i h1;split at ho
   ·split at ho
    ·cases ho;exact⟨_,h1⟩
    ·cases ho
   ·cases ho
  ·cases ho
 unfold Hg at h;split at h
 ·rename_i b hb;split at h
  ·exact⟨_,.PK .eql t t' x ho (.inl J) (z7 h).1 b (LY hb),(z7 h).2⟩
  ·exact⟨_,.PK .neq t t' x ho (.inr J) (z7 h).1 b (LY hb),(z7 h).2⟩
  ·exact cT
 ·exact cT
def EW(P:Program)(H:zm)(ρ:Operand->C)(o:Oper)(K:C->zm->Prop):Prop:=
 match Kc o with
 |some (op,ty,x)=>Kl P H op ty (ρ x) K
 |none=>match J6 o with
  |some (op,ty,x)=>Ks P H op ty (ρ x) K
  |none=>match Kg o with
  |some (op,ty,x)=>Hg P H op ty (ρ x) K
  |none=>match J7 P ρ o with
  |some (f,args)=>∃R,qI P f H args R/\∀r H',R r H'->K r H'
  |none=>match mapRel H ρ o with
   |true=>qT P o ρ H K
   |false=>match NB o with
    |some t=>match YC P t with
     |true=>∀b:Nat,xB (H++[iF b [] 0 []]) λH'=>K (.v (.map (some b))) H'
     |false=>∀b:Nat,xB (H++[fQ b #[] 0]) λH'=>K (.v (.map (some b))) H'
    |none=>oG P H ρ o K
def FF{P:Program}{H:zm}{ρ:Operand->C}{o:Oper}{K:C->zm->Prop}(h:EW P H ρ o K):qT P o ρ H K:=by
 unfold EW at h;split at h
 ·rename_i op ty x hn;exact Vp hn h
 ·split at h
  ·rename_i op ty x hn;obtain⟨c,h1,h2⟩:=WY hn h;exact h1.iO h2
  split at h
  ·rename_i op ty x hn;obtain⟨c,h1,h2⟩:=Xl hn h;exact h1.iO h2
  ·split at h
   ·rename_i f args hn;obtain⟨R,h1,h2⟩:=h;exact qT.call hn (λw E vs hh hl=>(h1 w E vs hh hl).mono λe w' ⟨r,H',v,E',hR,h3⟩=>⟨r,H',v,E',h2 r H' hR,h3⟩)
   split at h
   ·exact h
   split at h
   ·rename_i t hm
    have ho:o.op=.makeMap t none:=by
     unfold NB at hm;split at hm
     ·rename_i ho;split at hm
      ·cases hm;exact ho
      ·cases hm
     ·cases hm
    split at h
    ·exact .Yl t ho λb=>jh (h b)
    ·exact .makeMap t ho λb=>jh (h b)
   ·obtain⟨c,H',h1,h2⟩:=HN h;exact h1.iO h2
def DD(P:Program)(ops:Array Oper)(o:Oper)(next:List C->zm->(List C->zm->Prop)->Prop)(t:List C)(H:zm)(K:List C->zm->Prop):Prop:=
 match jm ops t o with
 |some true=>EW P H (ev t) o λc H'=>nF t o.dst c λt=>next t H' K
 |some false=>nF t o.dst .un λt=>next t H K
 |none=>False
def l7(P:Program)(ops:Array Oper)(l:List Oper):List C->zm->(List C->zm->Prop)->Prop:=
 List.rec (motive:=λ_=>List C->zm->(List C->zm->Prop)->Prop) (λt H K=>K t H) (λo _ next=>DD P ops o next) l
theorem Ig(P:Program)(ops:Array Oper)(o:Oper)(l:List Oper)(t:List C)(H:zm)(K:List C->zm->Prop):l7 P ops (o::l) t H K=DD P ops o (l7 P ops l) t H K:=rfl
section
variable {P:Program} {B:Nat} {ops:Array Oper}
def Ih:∀{l:List Oper} {t:List C} {H:zm} {K:List C->zm->Prop},l7 P ops l t H K->vd P B ops l ⟨t,H⟩ λs'=>K s'.tmps s'.H
 |[],t,H,K,h=>.nil h
 |o::l,t,H,K,h=>by
  rw[Ig]at h;unfold DD at h;split at h
  ·rename_i hw;refine .run (s:=⟨t,H⟩) hw (.B4 (s:=⟨t,H⟩) (FF h)) ?_;rintro s1 ⟨c,H',h1,rfl⟩;exact Ih (jD (k:=λt=>l7 P ops l t H' K) h1)
  ·rename_i hw;exact .pass (s:=⟨t,H⟩) hw (Ih (jD (k:=λt=>l7 P ops l t H K) h))
  ·exact cT
abbrev WK:=List C->zm->(Exit->List C->zm->Prop)->Prop
def zzw(x y:WK):WK:=λt H K=>x t H λex t H=>match ex with
 |.normal=>y t H K
 |ex=>K ex t H
def zxE(id:Nat)(c:WK):WK:=λt H K=>c t H λex t H=>match ex with
 |.exit id'=>if id'=id then K .normal t H else K (.exit id') t H
 |ex=>K ex t H
def J0(c:Operand)(x y:WK):WK:=λt H K=>match ev t c with
 |.v (.bool b)=>match b with
  |true=>x t H K
  |false=>y t H K
 |_=>False
noncomputable def readyB(all:List Bool)(ops:List Oper):List Bool->Nat->List Nat:=
 List.rec (motive:=λ_=>List Bool->Nat->List Nat) (λ_ _=>[]) (λo _ ih bs k=>match bs with
  |[]=>[]
  |b::bs=>match b with
   |true=>ih bs (k+1)
   |false=>match o.after.toList.all (λe=>!Region.binds .any e || all.getD e.on false) with
    |true=>k::ih bs (k+1)
    |false=>ih bs (k+1)) ops
noncomputable def bothK(f:Nat->Prop)(l:List Nat):Prop:=List.rec (motive:=λ_=>Prop) True (λi _ ih=>f i/\ih) l
structure mr where
 bl:List Nat:=[]
 keep:List Nat:=[]
 flat:Bool:=false
def XC(T:mr)(H0 H:zm):Prop:=wg T.keep H0 H/\(T.flat=true->qt H=true)
noncomputable def pickE(bl:List Nat)(ops:Array Oper)(t:List C)(l:List Nat):Option Nat:=
 List.rec (motive:=λ_=>Option Nat) none (λi _ ih=>match ops[i]? with
  |some o=>match xQ o || oR bl i with
   |true=>some i
   |false=>match jm ops t o with
    |some b=>match b with
     |true=>ih
     |false=>some i
    |none=>ih
  |none=>ih) l
def Jx(P:Program)(T:mr)(H:zm)(ρ:Operand->C)(o:Oper)(K:C->zm->Prop):Prop:=
 match o.op with
 |.call cl=>match cl.callee with
  |.value x=>match ρ x with
   |.fn f first caps=>bK (qp P f) <| ∃r,(∀H2,XC T H H2->zb P f H2 (first++(cl.args.toList.map λx=>fZ (ρ x))++caps) r H2)/\okB r λr=>K r H
   |_=>False
  |_=>False
 |_=>Gg P T.keep H ρ o K
def Hn(P:Program)(T:mr)(ops:Array Oper)(o:Oper)(k:Nat)(next:List C->zm->(List C->zm->Prop)->Prop)(t:List C)(H:zm)(K:List C->zm->Prop):Prop:=
 match jm ops t o with
 |some true=>match oR T.bl k with
  |true=>Jx P T H (ev t) o λc H'=>nF t o.dst c λt=>next t H' K
  |false=>match xQ o with
   |true=>oG P H (ev t) o λc H'=>nF t o.dst c λt=>next t H' K
   |false=>False
 |some false=>nF t o.dst .un λt=>next t H K
 |none=>False
def J5(T:mr)(H H':zm)(k:Prop):Prop:=match T.flat with
 |true=>qt H'=true/\EF H H' k T.keep
 |false=>EF H H' k T.keep
def EX(P:Program)(T:mr)(ops:Array Oper)(o:Oper)(next:List C->zm->(List C->zm->Prop)->Prop)(t:List C)(H:zm)(K:List C->zm->Prop):Prop:=
 match jm ops t o with
 |some true=>match Ex o with
  |true=>oG P H (ev t) o λc H'=>nF t o.dst c λt=>next t H' K
  |false=>EW P H (ev t) o λc H'=>J5 T H H' (nF t o.dst c λt=>next t H' K)
 |some false=>nF t o.dst .un λt=>next t H K
 |none=>False
noncomputable def bruteK(P:Program)(T:mr)(ops:Array Oper)(n:Nat):List Bool->List C->zm->(List C->zm->Prop)->Prop:=
 Nat.rec (motive:=λ_=>List Bool->List C->zm->(List C->zm->Prop)->Prop)
  (λlisted t H K=>match readyB listed ops.toList listed 0 with
   |[]=>K t H
   |_::_=>False)
  (λ_ ih listed t H K=>match readyB listed ops.toList listed 0 with
   |[]=>K t H
   |i::is=>match pickE T.bl ops t (i::is) with
    |some i=>match ops[i]? with
     |some o=>Hn P T ops o i (λt H K=>ih (listed.set i true) t H K) t H K
     |none=>False
    |none=>bothK (λi=>match ops[i]? with
     |some o=>EX P T ops o (λt H K=>ih (listed.set i true) t H K) t H K
     |none=>False) (i::is)) n
def O6(md:Region.Mode)(ops:Array Oper)(ms:List Nat):Bool:=
 (List.range ops.size).all λi=>(List.range ops.size).all λj=>Nat.beq j i || oI md ops ms i j || match ops[i]?,ops[j]? with
  |some oi,some oj=>(oj.after.any λe=>Region.binds md e && e.on == i) || oi.apart ops oj
  |_,_=>true
def CJ(md:Region.Mode)(ops:Array Oper):Bool:=O6 md ops (nS md ops)
noncomputable def regionK(P:Program)(B:Nat)(ops:Array Oper)(draw:Bool):WK:=λt H K=>match draw with
 |false=>l7 P ops ops.toList t H λt H=>K .normal t H
 |true=>(∃T:lS,(P.follows .mixedOrders && Region.lexB .any ops && Dl .any T ops)=true/\nu P T ops ops.toList 0 t H λt H=>K .normal t H)\/
  ∃T:mr,(P.follows .mixedOrders && CJ .any ops)=true/\(T.flat=true->qt H=true)/\∃R:List C->zm->Prop,bruteK P T ops ops.size (ops.toList.map λ_=>false) t H (λt1 H1=>∃t2 H2,zq B ⟨t1,H1⟩ ⟨t2,H2⟩/\R t2 H2)/\∀t2 H2,R t2 H2->K .normal t2 H2
def Mt{all:List Bool}:∀{os:List Oper} {bs:List Bool} {k i:Nat},i∈readyB all os bs k↔∃j o,i=k+j/\os[j]?=some o/\bs[j]?=some false/\o.after.toList.all (λe=>!Region.binds .any e || all.getD e.on false)=true
 |[],bs,k,i=>by simp[readyB]
 |o::os,[],k,i=>by
  have e:readyB all (o::os) [] k=[]:=rfl;rw[e];simp
 |o::os,b::bs,k,i=>by
  have e:readyB all (o::os) (b::bs) k=match b with
   |true=>readyB all os bs (k+1)
   |false=>match o.after.toList.all (λe=>!Region.binds .any e || all.getD e.on false) with
    |true=>k::readyB all os bs (k+1)
    |false=>readyB all os bs (k+1):=rfl
  have ih:=Mt (all:=all) (os:=os) (bs:=bs) (k:=k+1) (i:=i)
  have split:(∃j o',i=k+j/\(o::os)[j]?=some o'/\(b::bs)[j]?=some false/\o'.after.toList.all (λe=>!Region.binds .any e || all.getD e.on false)=true)↔
    (i=k/\b=false/\o.after.toList.all (λe=>!Region.binds .any e || all.getD e.on false)=true)\/i∈readyB all os bs (k+1):=by
   rw[ih];constructor
   ·rintro⟨j,o',h1,h2,h3,h4⟩;cases j with
    |zero=>simp at h2 h3;subst h2;exact .inl ⟨aw,h3,h4⟩
    |succ j=>exact .inr ⟨j,o',aw,aq h2,aq h3,h4⟩
   ·rintro(⟨h1,h2,h3⟩|⟨j,o',h1,h2,h3,h4⟩)
    ·exact⟨0,o,aw,rfl,bF,h3⟩
    ·exact⟨j+1,o',aw,aq h2,aq h3,h4⟩
  rw[split,e];cases b with
  |true=>simp
  |false=>
   dsimp only;split
   ·rename_i h;rw[h];simp only[rz,and_true]
   ·rename_i h;rw[h];simp only[sd,and_false,false_or]
def Eg{ops:Array Oper}{listed:Array Bool}(hl:listed.size=ops.size)(i:Nat):i∈Region.ready .any ops listed↔i∈readyB listed.toList ops.toList listed.toList 0:=by
 rw[Mt];unfold Region.ready;rw[eu,p7]
 have z8:∀o:Oper,o.after.toList.all (λe=>!Region.binds .any e || listed.toList.getD e.on false)=o.after.all (λe=>!Region.binds .any e || listed.getD e.on false):=λo=>by
  rw[<-sB]
  congr 1
  funext e
  rw[eJ,pt,pI]
 constructor
 ·rintro⟨h1,h2⟩;rw[gA]at h2;obtain⟨h2,h3⟩:=h2;obtain⟨o,ho⟩:∃o,ops[i]?=some o:=⟨ops[i],aD⟩;rw[ho]at h3;simp only[gF,Option.getD_some]at h3;refine⟨i,o,aw,by rw[pt];exact ho,?_,by rw[z8];exact h3⟩;rw[pt];rw[pI,rQ aw]at h2;simp only[Option.getD_some]at h2;rw[rQ aw];simpa using h2
 ·rintro⟨j,o,h1,h2,h3,h4⟩;obtain rfl:i=j:=by omega
  rw[pt]at h2 h3;have fj:=(gI.1 h2).1;refine⟨fj,?_⟩;rw[gA];rw[z8]at h4;refine⟨?_,by rw[h2];simpa using h4⟩;rw[pI,h3]
  rfl
def ML{f:Nat->Prop}:∀{l:List Nat},bothK f l->∀i∈l,f i
 |[],_,i,hi=>by cases hi
 |j::l,h,i,hi=>by
  have h:f j/\bothK f l:=h;rcases rz.1 hi with rfl|hi
  ·exact h.1
  ·exact ML h.2 i hi
def qT.zzp{o:Oper}{tmps:List C}{H:zm}{R:C->zm->Prop}{x:C}{dst:Option Tmp}{ops:Array Oper}(h:∀d,dst=some d->d∉o.looksAt ops)(h':qT P o (ev (put tmps dst x)) H R):qT P o (ev tmps) H R:=
 λw E σ hh hl hc K hk=>h' w E σ hh (λy hy=>by rw[Gj (IN h y hy)];exact hl y hy) hc K hk
def qT.Ka{o:Oper}{ρ:Operand->C}{H:zm}{R R':C->zm->Prop}(hR:∀c H',R c H'->R' c H')(h:qT P o ρ H R):qT P o ρ H R':=
 λw E σ hh hl hc K hk=>h w E σ hh hl hc K λc H' v w' E' h1=>hk c H' v w' E' (hR c H' h1)
def Ao(P:Program)(ops:Array Oper)(X:zm->Prop)(i:Nat)(K:S->Prop)(s:S):Prop:=
 match ops[i]? with
 |none=>K s
 |some o=>(jm ops s.tmps o=some true/\qT P o (ev s.tmps) s.H λc H'=>X H'/\K ⟨put s.tmps o.dst c,H'⟩)\/(jm ops s.tmps o=some false/\K ⟨put s.tmps o.dst .un,s.H⟩)
def Vj{ops:Array Oper}{X:zm->Prop}{i:Nat}{s:S}{K K':S->Prop}(hX:X s.H)(h:∀s,X s.H->K s->K' s)(hh:Ao P ops X i K s):Ao P ops X i K' s:=by
 unfold Ao at *;split
 ·exact h _ hX (by simpa [*] using hh)
 ·rename_i o ho;simp only[ho]at hh;rcases hh with⟨h1,h2⟩|⟨h1,h2⟩
  ·exact .inl ⟨h1,h2.Ka λc H' ⟨h3,h4⟩=>⟨h3,h _ h3 h4⟩⟩
  ·exact .inr ⟨h1,h _ hX h2⟩
def Cr(P:Program)(md:Region.Mode)(ops:Array Oper)(X:zm->Prop)(Q:S->Prop):Nat->Array Bool->S->Prop
 |0,listed,s=>Region.ready md ops listed=[]/\Q s
 |fuel+1,listed,s=>(Region.ready md ops listed=[]->Q s)/\∀i∈Region.ready md ops listed,Ao P ops X i (Cr P md ops X Q fuel (listed.setIfInBounds i true)) s
def kJ{P:Program}{B:Nat}{ops:Array Oper}{md:Region.Mode}{X:zm->Prop}{q:Option Nat}{m:Nat}{H0:zm}{Q:S->Prop}{w0:World}{E0:Env}{Q':Exit->Act->World->Prop}(hQ:∀s w E a,Q s->x8 B m w E s a->jN B w0 E0 H0 w E s.H->Q' .normal a w):
  ∀(fuel:Nat) (listed:Array Bool) (s:S) (w:World) (E:Env) (a:Act),x8 B m w E s a->jN B w0 E0 H0 w E s.H->Cr P md ops X Q fuel listed s->wpAnyIn (fw q) 0 P md ops Q' fuel listed a w
 |0,_,s,w,E,a,hs,hg,h=>⟨h.1,hQ s w E a h.2 hs hg⟩
 |fuel+1,listed,s,w,E,a,hs,hg,h=>⟨λh0=>hQ s w E a (h.1 h0) hs hg,λi hi=>by
   have h1:=h.2 i hi;unfold Ao at h1;unfold wpOpIn;split
   ·rename_i ho;simp only[ho]at h1;exact kJ hQ fuel _ s w E a hs hg h1
   ·rename_i o ho;simp only[ho]at h1;rcases h1 with⟨hw,hv⟩|⟨hw,hK⟩
    ·rw[gh (j4 hs.tmps hw)];refine ox.B4 (s:=s) hv q m w E a _ Q' hs λs' w' E' a' hR h2 g2=>?_
     obtain⟨c,H',⟨_,h3⟩,rfl⟩:=hR;exact kJ hQ fuel _ _ w' E' a' h2 (hg.trans g2) h3
    ·rw[dZ bt];exact⟨λ_ _=>trivial,kJ hQ fuel _ ⟨put s.tmps o.dst .un,s.H⟩ w E _ (hs.put .un o.dst) hg hK⟩⟩
def Vk{ops:Array Oper}{X:zm->Prop}{j:Nat}{oi oj:Oper}{c:C}(hj:ops[j]?=some oj)(hap:oi.apart ops oj=true){K:S->Prop}{s:S}(hy:YA P ops X oi c s.tmps)
 (h:Ao P ops X j K ⟨put s.tmps oi.dst c,s.H⟩):Ao P ops X j (λs'=>YA P ops X oi c s'.tmps/\K ⟨put s'.tmps oi.dst c,s'.H⟩) s:=by
 obtain⟨h1,h2,h3⟩:=Oper.apart_spec hap;unfold Ao at *;simp only[hj] at *;rcases h with⟨hw,hv⟩|⟨hw,hK⟩
 ·refine .inl ⟨(vr h1) ▸ hw,(hv.Ka λc' H' ⟨h4,h5⟩=>⟨h4,(YA.put h3).2 hy,?_⟩).zzp h1⟩;rw[put_comm _ _ h2]at h5;exact h5
 ·refine .inr ⟨(vr h1) ▸ hw,(YA.put h3).2 hy,?_⟩;rw[put_comm _ _ h2]at hK;exact hK
def Td{ops:Array Oper}{md:Region.Mode}{X:zm->Prop}{Q:S->Prop}{i:Nat}{oi:Oper}{c:C}(hi:ops[i]?=some oi):
  ∀(fuel:Nat) (listed:Array Bool) (s:S),X s.H->
   (∀j oj,ops[j]?=some oj->j≠i->listed.getD j true=false->(∀e∈oj.after,Region.binds md e=true->e.on≠i)->oi.apart ops oj=true)->
   i∈Region.ready md ops listed->YA P ops X oi c s.tmps->
   Cr P md ops X Q fuel (listed.setIfInBounds i true) ⟨put s.tmps oi.dst c,s.H⟩->Cr P md ops X Q (fuel+1) listed s:=by
 have here:∀(s:S) (K:S->Prop),X s.H->YA P ops X oi c s.tmps->K ⟨put s.tmps oi.dst c,s.H⟩->Ao P ops X i K s:=λs K hX hy hK=>by
  unfold Ao;simp only[hi];rcases hy with⟨h1,h2⟩|⟨h1,rfl⟩
  ·exact .inl ⟨h1,(h2 s.H hX).iO ⟨hX,hK⟩⟩
  ·exact .inr ⟨h1,hK⟩
 intro fuel
 induction fuel with
 |zero=>
  intro listed s hX _ hr hy H;refine⟨λh=>bu,λj hj=>?_⟩;by_cases hji:j=i
  ·subst hji;exact here s _ hX hy H
  ·have:=ready_mono hj hji;rw[H.1]at this;cases this
 |succ fuel ih=>
  intro listed s hX hfree hr hy H;refine⟨λh=>bu,λj hj=>?_⟩;by_cases hji:j=i
  ·subst hji;exact here s _ hX hy H
  ·have h1:=H.2 j (ready_mono hj hji);obtain⟨hjun,oj,hoj,z8⟩:=mem_ready.1 hj
   have hnot:∀e∈oj.after,Region.binds md e=true->e.on≠i:=λe he hb heq=>by
    have h1:=z8 e he hb;have h0:=(mem_ready.1 hr).1;rw[heq]at h1;rcases rU i listed.size with h'|h'
    ·simp[h']at h0 h1;rw[h0]at h1;cases h1
    ·simp[r8 h']at h1
   have hap:=hfree j oj hoj hji hjun hnot;have h2:=Vk hoj hap hy h1
   have hfree':∀k ok,ops[k]?=some ok->k≠i->(listed.setIfInBounds j true).getD k true=false->
     (∀e∈ok.after,Region.binds md e=true->e.on≠i)->oi.apart ops ok=true:=λk ok hk hki hun hno=>by
    refine hfree k ok hk hki ?_ hno;by_cases hjk:j=k
    ·subst hjk;exact hjun
    ·rw[getD_set_ne true hjk]at hun;exact hun
   refine Vj hX (λs' hX' ⟨h3,h4⟩=>ih (listed.setIfInBounds j true) s' hX' hfree' (ready_mono hr (Ne.symm hji)) h3 ?_) h2;rw[uk _ _ hji];exact h4
def Rr{md:Region.Mode}{ops:Array Oper}(h:CJ md ops=true){i j:Nat}{oi oj:Oper}(hi:ops[i]?=some oi)(hj:ops[j]?=some oj)(hne:j≠i)(hd:oI md ops (nS md ops) i j=false)
 (hno:∀e∈oj.after,Region.binds md e=true->e.on≠i):oi.apart ops oj=true:=by
 simp only[CJ,O6,gz,p7]at h;have h1:=h i (gI.1 hi).1 j (gI.1 hj).1
 have hb:Nat.beq j i=false:=by
  cases hb:Nat.beq j i with
  |false=>rfl
  |true=>exact absurd (Nat.eq_of_beq_eq_true hb) hne
 simp only[hb,hd,rL,hi,hj,pX]at h1;rcases h1 with h1|h1
 ·obtain⟨e,hem,hb⟩:=Array.any_eq_true'.1 h1;simp only[gA,pF]at hb;exact absurd hb.2 (hno e hem hb.1)
 ·exact h1
def XC.trans{T:mr}{H H' H'':zm}(h:XC T H H')(h':XC T H' H''):XC T H H'':=⟨h.1.trans h'.1,h'.2⟩
def XC.back{T:mr}{H H' H'':zm}(h:XC T H H')(h':XC T H H''):XC T H' H'':=⟨λid hi=>(h'.1 id hi).trans (h.1 id hi).symm,h'.2⟩
def SK{T:mr}{o:Oper}{ρ:Operand->C}{H:zm}{K:C->zm->Prop}(h:Jx P T H ρ o K):∃c,(∀H2,XC T H H2->fy P o ρ H2 c H2)/\K c H:=by
 unfold Jx at h;split at h
 ·rename_i cl ho;split at h
  ·rename_i x hcl;split at h
   ·rename_i f first caps hf;obtain⟨h1,r,h2,h3⟩:=z7 h;exact⟨r,λH2 hx=>.JZ cl ho x hcl hf h1 (h2 H2 hx),jq (k:=λc=>K c H) h3⟩
   ·exact cT
  ·exact cT
 ·obtain⟨c,h1,h2⟩:=LB h;exact⟨c,λH2 hx=>h1 H2 hx.1,h2⟩
def UF{T:mr}{H0 H H':zm}{k:Prop}(hX:XC T H0 H)(h:J5 T H H' k):XC T H0 H'/\k:=by
 unfold J5 at h;split at h
 ·obtain⟨h1,h2⟩:=Fi h.2;exact⟨⟨hX.1.trans h1,λ_=>h.1⟩,h2⟩
 ·rename_i hf;obtain⟨h1,h2⟩:=Fi h;exact⟨⟨hX.1.trans h1,λh=>by rw[hf]at h;cases h⟩,h2⟩
def Fu{bl:List Nat}{ops:Array Oper}{t:List C}:∀{l:List Nat} {i:Nat},pickE bl ops t l=some i->i∈l
 |[],i,h=>by cases h
 |j::l,i,h=>by
  have h:(match ops[j]? with
   |some o=>match xQ o || oR bl j with
    |true=>some j
    |false=>match jm ops t o with
     |some b=>match b with
      |true=>pickE bl ops t l
      |false=>some j
     |none=>pickE bl ops t l
   |none=>pickE bl ops t l)=some i:=h
  split at h
  ·split at h
   ·cases h;exact pT ..
   ·split at h
    ·split at h
     ·exact pP _ (Fu h)
     ·cases h;exact pT ..
    ·exact pP _ (Fu h)
  ·exact pP _ (Fu h)
def HP{T:mr}{ops:Array Oper}{H0:zm}{K:List C->zm->Prop}(hap:CJ .any ops=true):
  ∀(fuel:Nat) (listed:Array Bool) (t:List C) (H:zm),Down .any ops listed->listed.size=ops.size->XC T H0 H->bruteK P T ops fuel listed.toList t H K->
   Cr P .any ops (XC T H0) (λs=>K s.tmps s.H) fuel listed ⟨t,H⟩
 |0,listed,t,H,hd,hl,hX,h=>by
  have h:match readyB listed.toList ops.toList listed.toList 0 with
   |[]=>K t H
   |_::_=>False:=h
  split at h
  ·rename_i hr;refine⟨?_,h⟩;rw[ey];intro i hi;have:=(Eg hl i).1 hi;rw[hr]at this;cases this
  ·exact cT
 |fuel+1,listed,t,H,hd,hl,hX,h=>by
  have h:match readyB listed.toList ops.toList listed.toList 0 with
   |[]=>K t H
   |i::is=>match pickE T.bl ops t (i::is) with
    |some i=>match ops[i]? with
     |some o=>Hn P T ops o i (λt H K=>bruteK P T ops fuel (listed.toList.set i true) t H K) t H K
     |none=>False
    |none=>bothK (λi=>match ops[i]? with
     |some o=>EX P T ops o (λt H K=>bruteK P T ops fuel (listed.toList.set i true) t H K) t H K
     |none=>False) (i::is):=h
  split at h
  ·rename_i hr
   have h0:Region.ready .any ops listed=[]:=by
    rw[ey];intro i hi;have:=(Eg hl i).1 hi;rw[hr]at this;cases this
   exact⟨λ_=>h,λi hi=>by rw[h0]at hi;cases hi⟩
  ·rename_i j js hr;have hset:∀i,(listed.setIfInBounds i true).toList=listed.toList.set i true:=λi=>by simp
   have hsz:∀i,(listed.setIfInBounds i true).size=ops.size:=λi=>by simpa using hl
   split at h
   ·rename_i i hp;have hi:i∈Region.ready .any ops listed:=(Eg hl i).2 (by rw[hr];exact Fu hp);split at h
    rotate_left
    ·exact cT
    rename_i o ho
    have go:∀c,YA P ops (XC T H0) o c t->bruteK P T ops fuel (listed.toList.set i true) (put t o.dst c) H K->Cr P .any ops (XC T H0) (λs=>K s.tmps s.H) (fuel+1) listed ⟨t,H⟩:=λc hy hb=>
     Td ho fuel listed ⟨t,H⟩ hX (λj oj hj hne hun hno=>Rr hap ho hj hne (by
       cases hdp:oI .any ops (nS .any ops) i j with
       |false=>rfl
       |true=>
        have h1:=hd.ready hi hdp;rcases rU j listed.size with h'|h'
        ·simp[h']at h1 hun;rw[h1]at hun;cases hun
        ·simp[r8 h']at h1) hno) hi hy
      (HP hap fuel _ _ _ (hd.step hi) (hsz i) hX (by rw[hset];exact hb))
    unfold Hn at h;split at h
    ·rename_i hw;split at h
     ·obtain⟨c,h1,h2⟩:=SK h;exact go c (.inl ⟨hw,λH2 h3=>h1 H2 (hX.back h3)⟩) (jD (k:=λt=>bruteK P T ops fuel (listed.toList.set i true) t H K) h2)
     ·split at h
      ·rename_i hb;obtain⟨c,h1,h2⟩:=Lw hb h;exact go c (.inl ⟨hw,λH2 _=>h1 H2⟩) (jD (k:=λt=>bruteK P T ops fuel (listed.toList.set i true) t H K) h2)
      ·exact cT
    ·rename_i hw;exact go .un (.inr ⟨hw,rfl⟩) (jD (k:=λt=>bruteK P T ops fuel (listed.toList.set i true) t H K) h)
    ·exact cT
   ·have hne:Region.ready .any ops listed≠[]:=λh0=>by
     have:j∈readyB listed.toList ops.toList listed.toList 0:=by rw[hr];exact pT ..
     have:=(Eg hl j).2 this;rw[h0]at this;cases this
    refine⟨λh0=>absurd h0 hne,λi hi=>?_⟩;have hi2:=(Eg hl i).1 hi;rw[hr]at hi2;have h1:=ML h i hi2;split at h1
    rotate_left
    ·exact h1.elim
    rename_i o ho;unfold Ao;rw[ho];dsimp only
    have next:∀t' H',XC T H0 H'->bruteK P T ops fuel (listed.toList.set i true) t' H' K->Cr P .any ops (XC T H0) (λs=>K s.tmps s.H) fuel (listed.setIfInBounds i true) ⟨t',H'⟩:=λt' H' hX' hb=>
     HP hap fuel _ _ _ (hd.step hi) (hsz i) hX' (by rw[hset];exact hb)
    unfold EX at h1;split at h1
    ·rename_i hw;refine .inl ⟨hw,?_⟩;split at h1
     ·rename_i hlo;obtain⟨c,h2,h3⟩:=Mn hlo h1;exact h2.iO ⟨hX,next _ _ hX (jD (k:=λt=>bruteK P T ops fuel (listed.toList.set i true) t H K) h3)⟩
     ·refine(FF h1).Ka λc H' h2=>?_
      obtain⟨h3,h4⟩:=UF hX h2;exact⟨h3,next _ _ h3 (jD (k:=λt=>bruteK P T ops fuel (listed.toList.set i true) t H' K) h4)⟩
    ·rename_i hw;exact .inr ⟨hw,next _ _ hX (jD (k:=λt=>bruteK P T ops fuel (listed.toList.set i true) t H K) h1)⟩
    ·exact h1.elim
def qU.zyB{P:Program}{B:Nat}{ops:Array Oper}{id:Nat}{t:List C}{H:zm}{R:Exit->S->Prop}{R':List C->zm->Prop}{T:mr}(hm:P.follows .mixedOrders=true)(hap:CJ .any ops=true)(hf:T.flat=true->qt H=true)
 (h:bruteK P T ops ops.size (ops.toList.map λ_=>false) t H (λt1 H1=>∃t2 H2,zq B ⟨t1,H1⟩ ⟨t2,H2⟩/\R' t2 H2))(hR:∀t2 H2,R' t2 H2->R .normal ⟨t2,H2⟩):qU P B (.region id ops true) ⟨t,H⟩ R:=λq m w E a Q _ hs hq=>by
 refine wpIn_region_any hm (kJ (X:=XC T H) (H0:=H) (Q:=λs=>∃t2 H2,zq B s ⟨t2,H2⟩/\R' t2 H2) (w0:=w) (E0:=E) (λs1 w1 E1 a1 he h1 g1=>?_) _ _ ⟨t,H⟩ _ E a hs.drew ((Grow.drew w E H).iG tA) ?_)
 ·obtain⟨t2,H2,hw,hR2⟩:=he;obtain⟨E2,h2,g2⟩:=hw m w1 E1 a1 h1;exact hq _ _ w1 E2 a1 (hR t2 H2 hR2) h2 (g1.trans g2)
 ·have e:(Array.replicate ops.size false).toList=ops.toList.map λ_=>false:=by
   rw[Array.toList_replicate,List.map_const'];simp
  refine HP (K:=λt1 H1=>∃t2 H2,zq B ⟨t1,H1⟩ ⟨t2,H2⟩/\R' t2 H2) hap _ _ _ _ Down.start aj ⟨.refl _ _,hf⟩ ?_;rw[e];exact h
structure Bh(P:Program)(B:Nat)(c:Code)(t:List C)(H:zm)(K:Exit->List C->zm->Prop):Prop where
 out:qe P B c ⟨t,H⟩ λex s=>K ex s.tmps s.H
def zyN(P:Program)(B:Nat)(c:Code):WK:=λt H K=>Bh P B c t H K
def JM(P:Program)(B:Nat)(g:Operand)(ps:Array Tmp)(assign body:Code):WK:=λt H K=>match ev t g with
 |.fn f first caps=>bK (qp P f && first.isEmpty) <| ∃H0,zq B ⟨t,H⟩ ⟨t,H0⟩/\∃ex t' H',(∀(l:Nat) (r:Loop),r.state=.ready->r.pending=none->r.params=ps->r.assign=assign->r.body=body->
   ∃(rr:C) (Hf:zm) (rf:Loop),zb P f (H0++[iy l r t]) (.v (.func (.yield l) #[] #[])::caps) rr Hf/\Hf[H0.length]?=some (iy l rf t)/\rf.state≠.busy/\rf.tmps=r.tmps/\B<=Hf.length/\Qa rf.pending ex/\
    zq B ⟨t,Hf.set H0.length (iy l {rf with state:=.exhausted} t)⟩ ⟨t',H'⟩)/\K ex t' H'
 |_=>False
structure nn(P:Program)(B:Nat)(c:Code)(l:Nat)(t:List C)(H:zm)(K:Exit->List C->zm->Prop):Prop where
 out:Cj P B c (λex s=>K ex s.tmps s.H) l ⟨t,H⟩
def zyi(P:Program)(B:Nat)(c:Code)(x:WK):WK:=λt H K=>x t H λex t H=>match ex with
 |.goto l=>nn P B c l t H K
 |ex=>K ex t H
def lJ:WK:=λ_ _ _=>False
noncomputable def wpA(P:Program)(B:Nat)(c:Code):WK:=
 Code.rec (motive:=λ_=>WK) (λt H K=>K .normal t H) (λ_ ops draw=>regionK P B ops draw) (λ_ _ x y=>zzw x y) (λc _ _ x y=>J0 c x y) (λid _ x=>zxE id x) (λc _=>zyN P B c)
  (λg ps assign body _ _=>JM P B g ps assign body) (λid t H K=>K (.exit id) t H) (λc x=>zyi P B c x) (λ_ t H K=>K .normal t H) (λl t H K=>K (.goto l) t H) (λt H K=>K .ret t H) (λ_=>lJ) c
def jG:∀{c:Code} {t:List C} {H:zm} {K:Exit->List C->zm->Prop},wpA P B c t H K->qU P B c ⟨t,H⟩ λex s=>K ex s.tmps s.H:=by
 intro c
 induction c with
 |skip=>intro t H K h;exact .skip h
 |exit id=>intro t H K h;exact .exit id h
 |ret=>intro t H K h;exact .ret h
 |label l=>intro t H K h;exact .label l h
 |seq x y ihx ihy=>
  intro t H K h;refine .seq ((ihx (t:=t) (H:=H) (K:=λex t H=>match ex with|.normal=>wpA P B y t H K|ex=>K ex t H) h).mono λex s1 h1=>?_);cases ex with
  |normal=>exact ihy h1
  |_=>exact h1
 |block id c ih=>
  intro t H K h;refine .block ((ih (t:=t) (H:=H) (K:=λex t H=>match ex with|.exit id'=>if id'=id then K .normal t H else K (.exit id') t H|ex=>K ex t H) h).mono λex s1 h1=>?_);cases ex with
  |exit id'=>exact h1
  |_=>exact h1
 |scope c ih=>
  intro t H K h;refine .zyh ((ih (t:=t) (H:=H) (K:=λex t H=>match ex with|.goto l=>nn P B c l t H K|ex=>K ex t H) h).mono λex s1 h1=>?_);cases ex with
  |goto l=>exact(show nn P B c l s1.tmps s1.H K from h1).out
  |_=>exact h1
 |goto l=>intro t H K h;exact .goto l h
 |cond c x y ihx ihy=>
  intro t H K h
  change J0 c (wpA P B x) (wpA P B y) t H K at h
  unfold J0 at h;split at h
  ·rename_i b hb;cases b with
   |true=>exact .cond (s:=⟨t,H⟩) hb (ihx h)
   |false=>exact .cond (s:=⟨t,H⟩) hb (ihy h)
  ·exact cT
 |region id ops draw=>
  intro t H K h;cases draw with
  |false=>exact .region (Ih (show l7 P ops ops.toList t H (λt H=>K .normal t H) from h))
  |true=>
   rcases(show(∃T:lS,(P.follows .mixedOrders && Region.lexB .any ops && Dl .any T ops)=true/\nu P T ops ops.toList 0 t H λt H=>K .normal t H)\/
    ∃T:mr,(P.follows .mixedOrders && CJ .any ops)=true/\(T.flat=true->qt H=true)/\∃R:List C->zm->Prop,bruteK P T ops ops.size (ops.toList.map λ_=>false) t H (λt1 H1=>∃t2 H2,zq B ⟨t1,H1⟩ ⟨t2,H2⟩/\R t2 H2)/\∀t2 H2,R t2 H2->K .normal t2 H2 from h) with h|⟨T,hm,hf,R,h1,h2⟩
   rotate_left
   ·rw[gA]at hm;exact qU.zyB hm.1 hm.2 hf h1 h2
   obtain⟨T,h1,h2⟩:=h;simp only[gA]at h1;obtain⟨s',h3,h4⟩:=Run.zyG (B:=B) (id:=id) h1.1.1 h1.1.2 h1.2 h2;exact qU.mono h3 λex s1 ⟨e1,e2⟩=>by subst e1 e2;exact h4
 |loop c ih=>intro t H K h;exact .loop (show Bh P B c t H K from h).out
 |rangeFunc g ps assign body=>
  intro t H K h
  change JM P B g ps assign body t H K at h
  unfold JM at h;split at h
  ·rename_i f first caps hg;obtain⟨h1,H0,h0,ex,t',H',h2,h3⟩:=z7 h;simp only[gA,eU]at h1;obtain⟨h1,rfl⟩:=h1;refine .pre h0 (.rangeFunc hg h1 λl r a1 a2 a3 a4 a5=>?_);obtain⟨rr,Hf,rf,b1,b2,b3,b4,b5,b6,b7⟩:=h2 l r a1 a2 a3 a4 a5;exact⟨rr,Hf,rf,ex,⟨t',H'⟩,b1,b2,b3,b4,b5,b6,b7,h3⟩
  ·exact cT
 |_=>intro t H K h;exact(show False from h).elim
def nn.go{c rest:Code}{l:Nat}{t:List C}{H:zm}{K:Exit->List C->zm->Prop}(hf:findLabel c l=some rest)
 (h:wpA P B rest t H λex t H=>match ex with|.goto l=>nn P B c l t H K|ex=>K ex t H):nn P B c l t H K:=by
 refine⟨.mk _ hf (jG h) (λe s h1 he=>?_) λl s h1=>(show nn P B c l s.tmps s.H K from h1).out⟩;cases e with
 |goto l=>exact absurd J (he l)
 |_=>exact h1
def jI.zL{H1 H':zm}{id l:Nat}{r:Loop}{t:List C}{args:List C}{rv:Bool}{ps:Array Tmp}{assign body:Code}(hob:H1[id]?=some (iy l r t))(hst:r.state=.ready)(hpe:r.pending=none)(hps:r.params=ps)(ha:r.assign=assign)(hb:r.body=body)
 (hn:args.length=ps.size)(hna:xL assign=false)(hnb:xL body=false)
 (h:wpA P H1.length assign (Cx t ps.toList args) H1 λe t1 H1'=>e=.normal/\H1'[id]?=some (iy l r t)/\wpA P H1.length body t1 (H1'.set id (iy l (busy r) t)) λe t2 H2=>
   ∃t3 H3,zq H1.length ⟨t2,H2⟩ ⟨t3,H3⟩/\Pm id l r t rv H' e H3):
  jI P l H1 args (.v (.bool rv)) H':=by
 subst hps ha hb;refine jI.o7 hob hst hpe hn hna hnb ((jG h).mono λe s1 ⟨h1,h2,h3⟩=>⟨h1,h2,(jG h3).mono λe s2 ⟨t3,H3,h4,h5⟩=>⟨⟨t3,H3⟩,h4,h5⟩⟩)
def qe.inv{c:Code}{t:List C}{H:zm}{K:Exit->List C->zm->Prop}(I:Nat->List C->zm->Prop)(n:Nat)(h0:∃t0 H0,zq B ⟨t,H⟩ ⟨t0,H0⟩/\I n t0 H0)
 (step:∀n t H,I n t H->wpA P B c t H λe t1 H1=>(e=.normal/\∃m t2 H2,m<n/\zq B ⟨t1,H1⟩ ⟨t2,H2⟩/\I m t2 H2)\/(e≠.normal/\K e t1 H1)):
  Bh P B c t H K:=by
 obtain⟨t0,H0,hw,hI⟩:=h0;refine⟨.pre hw ?_⟩
 suffices key:∀n t H,I n t H->lH P B c (n+1) ⟨t,H⟩ λex s=>K ex s.tmps s.H from⟨n+1,key n t0 H0 hI⟩
 intro n
 induction n using Nat.strongRecOn with
 |_ n ih=>
  intro t H hI;refine .step ((jG (step n t H hI)).post λex s1 h1=>?_);rcases h1 with⟨rfl,m,t2,H2,hm,hw2,hI2⟩|⟨hne,hK⟩
  ·exact⟨⟨t2,H2⟩,hw2,(lH.more aw (ih m hm t2 H2 hI2):lH P B c n ⟨t2,H2⟩ _)⟩
  ·refine⟨s1,.refl s1,?_⟩;cases ex with
   |normal=>exact absurd J hne
   |_=>exact hK
def zb.zL{f:FuncId}{fn:Func}{c:Code}{H H':zm}{args:List C}{r:C}(hf:P.funcs[f]?=some fn)(hb:fn.body=some c)
 (h:wpA P H.length c (entry fn args) H λex t1 H1=>(ex=.ret\/ex=.normal)/\∃s2,zq H.length ⟨t1,H1⟩ s2/\s2.H=H'/\kB P fn s2=some r):zb P f H args r H':=
 qI.at (qI.o7 hf hb ((jG h).mono λex s1 ⟨hex,s2,hw,h2,h3⟩=>⟨hex,s2,r,hw,h3,rfl,h2⟩))
def qI.zL{f:FuncId}{fn:Func}{c:Code}{H:zm}{args:List C}{R:C->zm->Prop}(hf:P.funcs[f]?=some fn)(hb:fn.body=some c)
 (h:wpA P H.length c (entry fn args) H λex t1 H1=>(ex=.ret\/ex=.normal)/\∃s2 r,zq H.length ⟨t1,H1⟩ s2/\kB P fn s2=some r/\R r s2.H):qI P f H args R:=
 qI.o7 hf hb (jG h)
def zb.Jo{f:FuncId}{fn:Func}{c:Code}{args:List C}{r:C}(hf:P.funcs[f]?=some fn)(hb:fn.body=some c)
 (h:wpA P 0 c (entry fn args) [] λex t1 H1=>(ex=.ret\/ex=.normal)/\∃s2,zq 0 ⟨t1,H1⟩ s2/\kB P fn s2=some r)(hr:qX 0 9 r=true):zb P f [] args r []:=
 qI.close (R:=λc=>c=r) (qI.o7 (H:=[]) (R:=λc _=>c=r) hf hb ((jG h).mono λex s1 ⟨hex,s2,hw,h2⟩=>⟨hex,s2,r,hw,h2,rfl⟩)) λc h=>⟨h,hr⟩
end
def jx{n:Int}(h0: -9223372036854775808<=n)(h1:n<=9223372036854775807):IntKind.i64.wrap n=n:=IntWalk.i64_in n ⟨h0,h1⟩
def zw{n:Nat}(h:n<9223372036854775807):IntKind.i64.wrap ((n:Int)+1)=((n+1:Nat):Int):=by rw[jx aw aw];rfl
section
variable {P:Program} {f:FuncId} {H H':zm}
def zb.pre{args args':List C}{r:C}(h:zb P f H args' r H')(hw:iL args args'):zb P f H args r H':=λw E vs hh hl=>h w E vs hh (hw.LL hl)
def zb.post{args:List C}{r r':C}(h:zb P f H args r H')(hw:WC r r'):zb P f H args r' H':=λw E vs hh hl=>(h w E vs hh hl).mono λe w' ⟨v,E',h1,h2,h3,h4⟩=>⟨v,E',h1,h2,hw E' v h3,h4⟩
def toNat_cast(n:Nat):((n:Int)).toNat=n:=by simp
end
def FE{P:Program}{f:FuncId}{vs:Array Value}{v:Value}{args:List C}{r:C}(H:zm)(hc:∀w,Calls P f vs w λe w'=>e=.returned v/\w'=w)(ha:∀E (us:Array Value),LL E args us.toList->us=vs)(hr:∀E,L E r v):zb P f H args r H:=λw E us hh hl=>by
 obtain rfl:=ha E us hl;refine(hc w).mono ?_;rintro e w' ⟨rfl,rfl⟩;exact⟨v,E,rfl,hh,hr E,Grow.refl _ _ _⟩
def zyz{a:Value}(E:Env)(us:Array Value)(h:LL E [.v a] us.toList):us= #[a]:=by
 obtain⟨l⟩:=us
 match l,h with
 |[],h=>have:=h.1;simp at this
 |[x],h=>
  obtain⟨h1,_⟩:=h.cons_inv;cases h1;rfl
 |_::_::_,h=>have:=h.1;simp at this
def JV{a b:Value}(E:Env)(us:Array Value)(h:LL E [.v a,.v b] us.toList):us= #[a,b]:=by
 obtain⟨l⟩:=us
 match l,h with
 |[],h=>have:=h.1;simp at this
 |[_],h=>have:=h.1;simp at this
 |[x,y],h=>
  obtain⟨h1,h2⟩:=h.cons_inv;obtain⟨h2,_⟩:=h2.cons_inv;cases h1;cases h2;rfl
 |_::_::_::_,h=>have:=h.1;simp at this
def yy{α:Type}{l:List α}{t:Nat}{y:α}(h:l[t]?=some y):l.set t y=l:=by
 apply pq
 intro i;rw[gD];split
 ·rename_i e;subst e;obtain⟨h1,h2⟩:=dW.1 h;rw[gh h1,h]
 ·rfl
section
variable {B:Nat} {s:S}
def ql.freeze{w:World}{E:Env}{H:zm}(h:ql w E H){id:Nat}{ob:Ob}(hob:H[id]?=some ob)(hk:ob.kind=2)(hno:∀i k c,cellAt ob.rows i k=some c->zx c=true):
  ∃E',E.le E'/\ql w E' (H.modify id λob=>⟨ob.kind,ob.ty,ob.sz,ob.rows,ob.rows.length⟩)/\(∀b o u,E'.St b o=some u->E.St b o=some u\/b=E.β id [])/\E'.β=E.β/\E'.G=E.G/\
   ∀i k c,cellAt ob.rows i k=some c->∃u,E'.St (E.β id []) (i*ob.sz+k)=some u/\L E'.shut c u:=by
 have hgb:qf H id []=some (ob.sz,ob.rows):=by unfold qf;rw[hob];simp[hk,qW]
 have hB:=h.fD id ob [] _ _ hob hgb;obtain⟨cur,e,hg,hcs,hcell⟩:=hB.fD
 have key:∀o,o<ob.rows.length*ob.sz->∃u,cur[o]?=some u/\u.oneCell'=true/\w.cell? ⟨E.β id [],o,none⟩=some u:=by
  intro o ho;obtain⟨h1,h2,h3⟩:=HB ho;obtain⟨c,hc⟩:=E8 hB.row h1 h2;obtain⟨u,hu,hok⟩:=hcell _ _ c hc;rw[qZ.loose (hno _ _ c hc)]at hok;rw[h3]at hu;exact⟨u,hu,hok.2,by unfold World.cell?;rw[hg];simpa using hu⟩
 obtain⟨E',hE'⟩:∃E':Env,E'={E with St:=λb o=>if b=E.β id []/\o<ob.rows.length*ob.sz then cur[o]? else E.St b o}:=⟨_,rfl⟩
 have hle:E.le E':=by
  subst hE';refine⟨gC _,λ_ _ _=>J,λ_ _ _=>J,λb o u hu=>?_,λ_ _ _ _ hu=>hu⟩;show(if b=E.β id []/\o<ob.rows.length*ob.sz then cur[o]? else E.St b o)=some u;split
  ·rename_i hc;obtain⟨rfl,ho⟩:=hc;obtain⟨u',h1,_,h2⟩:=key o ho;have:=(h.qz _ _ _ hu).1;rw[h2]at this;rw[h1,<-this]
  ·exact hu
 have hSt:∀b o u,E'.St b o=some u->E.St b o=some u\/(b=E.β id []/\o<ob.rows.length*ob.sz/\cur[o]?=some u):=by
  subst hE';intro b o u hu
  change (if b=E.β id []/\o<ob.rows.length*ob.sz then cur[o]? else E.St b o)=some u at hu
  split at hu
  ·rename_i hc;exact .inr ⟨hc.1,hc.2,hu⟩
  ·exact .inl hu
 have hβ:E'.β=E.β:=by subst hE';rfl
 have hn:E'.n=E.n:=by subst hE';rfl
 have get:∀id' hops x,qf (H.modify id λob=>⟨ob.kind,ob.ty,ob.sz,ob.rows,ob.rows.length⟩) id' hops=some x->qf H id' hops=some x:=by
  intro id' hops x hx;obtain⟨ob',ho',hk',hg'⟩:=jo hx;rw[pL]at ho';cases hx':H[id']? with
  |none=>rw[hx']at ho';cases ho'
  |some ob0=>
   rw[hx']at ho';simp only[rT,gF,gQ]at ho';unfold qf;rw[hx'];split at ho'
   ·subst ho';simp only[hk',if_true];exact hg'
   ·subst ho';simp only[hk',if_true];exact hg'
 have obs:∀(id':Nat) (ob':Ob),(H.modify id λob=>⟨ob.kind,ob.ty,ob.sz,ob.rows,ob.rows.length⟩)[id']?=some ob'->∃ob0,H[id']?=some ob0/\ob'.kind=ob0.kind/\ob'.ty=ob0.ty/\ob'.sz=ob0.sz/\ob'.rows=ob0.rows/\ob0.fz<=ob'.fz/\ob'.fz<=ob'.rows.length/\(id'=id->ob'.fz=ob0.rows.length):=by
  intro id' ob' ho';rw[pL]at ho';cases hx':H[id']? with
  |none=>rw[hx']at ho';cases ho'
  |some ob0=>
   rw[hx']at ho';simp only[rT,gF,gQ]at ho';have:=h.fz id' ob0 hx';split at ho'
   ·subst ho';exact⟨ob0,rfl,rfl,rfl,rfl,rfl,this,gC _,λ_=>J⟩
   ·rename_i hne;subst ho';exact⟨ob0,rfl,rfl,rfl,rfl,rfl,gC _,this,λe=>absurd e.symm hne⟩
 refine⟨E',hle,⟨by rw[hn,h.n];simp,?_,?_,?_,?_,?_,?_⟩,λb o u hu=>(hSt b o u hu).imp_right (·.1),hβ,by subst hE';rfl,?_⟩
 ·intro id' ob' hops sz rows hob' hx;obtain⟨ob0,h1,h2,_⟩:=obs id' ob' hob';have hx':=get _ _ _ hx;rw[h2];exact(h.fD id' ob0 hops sz rows h1 hx').step hle (by rw[h.n];exact B2 hx') J
 ·intro id1 p1 id2 p2 x y hx hy he;rw[hβ]at he;exact h.inj id1 p1 id2 p2 x y (get _ _ _ hx) (get _ _ _ hy) he
 ·intro b o u hu;rcases hSt b o u hu with h1|⟨rfl,h2,h3⟩
  ·exact h.qz b o u h1
  ·obtain⟨u',h4,h5,h6⟩:=key o h2;rw[h3]at h4;cases h4
   exact⟨h6,h5⟩
 ·intro id' hops x o u hx hu;have hx':=get _ _ _ hx;rw[hβ]at hu;obtain⟨ob1,ho1,_,_⟩:=jo hx;obtain⟨ob0,h1,h2,h3,h4,h5,h6,h7,h8⟩:=obs id' ob1 ho1;rcases hSt _ o u hu with h9|⟨h9,h10,_⟩
  ·obtain⟨e1,ob2,e2,e3⟩:=h.sep id' hops x o u hx' h9;rw[h1]at e2;cases e2
   exact⟨e1,ob1,ho1,by rw[h4];exact pH e3 (pR _ h6)⟩
  ·obtain⟨rfl,rfl⟩:=h.inj id' hops id [] x _ hx' hgb h9;rw[hob]at h1;cases h1
   exact⟨rfl,ob1,ho1,by rw[h8 J,h4];exact h10⟩
 ·intro id' ob' hob' hk';obtain⟨ob0,h1,h2,h3,_⟩:=obs id' ob' hob';obtain⟨cur',hc⟩:=h.ty id' ob0 h1 (by rw[<-h2];exact hk');exact⟨cur',by rw[hβ,h3];exact hc⟩
 ·intro id' ob' hob';obtain⟨ob0,h1,h2,h3,h4,h5,h6,h7,h8⟩:=obs id' ob' hob';exact h7
 ·intro i k c hc;obtain⟨u,hu,hok⟩:=hcell i k c hc;rw[qZ.loose (hno _ _ c hc)]at hok;obtain⟨h1,h2⟩:=Fl hB.row hc
  have fj:i*ob.sz+k<ob.rows.length*ob.sz:=by
   have:(i+1)*ob.sz<=ob.rows.length*ob.sz:=pR _ h1;rw[rb]at this;omega
  refine⟨u,?_,?_⟩
  ·subst hE';show(if E.β id []=E.β id []/\i*ob.sz+k<ob.rows.length*ob.sz then cur[i*ob.sz+k]? else _)=some u;rw[gh ⟨rfl,fj⟩];exact hu
  ·have h3:=hok.1;simp only[Env.at,hk,if_true]at h3;exact h3.mono hle.shut
def zq.freeze(t:Nat){id sz lo len:Nat}{full:Bool}{ob:Ob}(ht:s.tmps[t]?=some (.sl id [] sz lo len full))(hob:s.H[id]?=some ob)(hk:ob.kind=2)(hsz:ob.sz=sz)(hlen:lo+len<=ob.rows.length)
 (hno:∀r∈ob.rows,∀c∈r,zx c=true):
  zq B s ⟨s.tmps.set t (.fh (if full then 1 else 0) sz ((ob.rows.drop lo).take len)),s.H.modify id λob=>⟨ob.kind,ob.ty,ob.sz,ob.rows,ob.rows.length⟩⟩:=λm w E a hs=>by
 subst hsz
 have hno':∀i k c,cellAt ob.rows i k=some c->zx c=true:=λi k c hc=>by
  unfold cellAt at hc;cases hx:ob.rows[i]? with
  |none=>rw[hx]at hc;cases hc
  |some r=>rw[hx]at hc;exact hno r (dY hx) c (dY hc)
 obtain⟨E',hle,hR,hnew,hβ,hKG0,hcells⟩:=hs.heap.base.freeze hob hk hno';have hgb:qf s.H id []=some (ob.sz,ob.rows):=by unfold qf;rw[hob];simp[hk,qW]
 have hrow:=(hs.heap.base.fD id ob [] _ _ hob hgb).row;obtain⟨y,hy,hl⟩:=hs.tmps.get ht
 have hnl:L E' (.fh (if full then 1 else 0) ob.sz ((ob.rows.drop lo).take len)) y:=by
  generalize hc:C.sl id [] ob.sz lo len full=c at hl;cases hl with
  |sl id' hops' sz' lo' len' full' cap hn hlen' hf hf'=>
   cases hc
   have hrl:((ob.rows.drop lo).take len).length=len:=aA
   have hsub:∀i k,cellAt ((ob.rows.drop lo).take len) i k=if i<len then cellAt ob.rows (lo+i) k else none:=by
    intro i k;unfold cellAt;rw[pa];split
    ·rw[pO]
    ·rfl
   have ex:∀i r k c,((ob.rows.drop lo).take len)[i]?=some r->r[k]?=some c->∃u,E'.St (E.β id []) (lo*ob.sz+i*ob.sz+k)=some u/\L E'.shut c u:=by
    intro i r k c hr hc;have hcc:cellAt ((ob.rows.drop lo).take len) i k=some c:=by unfold cellAt;rw[hr];exact hc
    rw[hsub]at hcc;split at hcc
    ·obtain⟨u,h1,h2⟩:=hcells _ _ c hcc;exact⟨u,by rw[<-rb];exact h1,h2⟩
    ·cases hcc
   have:=L.fh (E:=E') (if full then 1 else 0) ob.sz ((ob.rows.drop lo).take len) (E.β id []) (lo*ob.sz) cap (λi k=>(E'.St (E.β id []) (lo*ob.sz+i*ob.sz+k)).getD undef) ?_ ?_ ?_ ?_ ?_
   ·rw[hrl]at this;exact dG
   ·cases full with
    |false=>exact .inl J
    |true=>exact .inr ⟨rfl,by rw[hrl];exact hf J⟩
   ·rw[hrl];exact hlen'
   ·exactλr hr=>hrow r (r6 (rB hr))
   ·intro i r k c hr hc;obtain⟨u,h1,h2⟩:=ex i r k c hr hc;rw[h1];rfl
   ·intro i r k c hr hc;obtain⟨u,h1,h2⟩:=ex i r k c hr hc;rw[h1];exact h2
  |_=>cases hc
 have hG:qH w E s.H w E' (s.H.modify id λob=>⟨ob.kind,ob.ty,ob.sz,ob.rows,ob.rows.length⟩):=by
  have hKG:∀(id k:Nat),id<E.n->E'.G id k=E.G id k:=λ_ _ _=>by rw[hKG0]
  refine⟨hle,hKG,rfl,rfl,rfl,gC _,λ_ _ _=>J,λb o u hu=>?_,?_⟩
  ·rcases hnew b o u hu with h1|h1
   ·exact .inl h1
   ·exact .inr (.inr ⟨id,[],_,hgb,h1.symm⟩)
  ·rintro b ⟨id',p,x,hx,rfl⟩
   right
   refine⟨id',p,x,?_,by rw[hβ]⟩;obtain⟨ob',ho',hk',hg'⟩:=jo hx;rw[pL]at ho';cases hx':s.H[id']? with
   |none=>rw[hx']at ho';cases ho'
   |some ob0=>
    rw[hx']at ho';simp only[rT,gF,gQ]at ho';unfold qf;rw[hx'];split at ho'
    ·subst ho';simp only[hk',if_true];exact hg'
    ·subst ho';simp only[hk',if_true];exact hg'
 have hk4:jH s.H (s.H.modify id λob=>⟨ob.kind,ob.ty,ob.sz,ob.rows,ob.rows.length⟩):=jH.modify _ _ _ λob' h'=>by
  rw[hob]at h';cases h'
  exact⟨by rw[hk];decide,by show ob.kind≠4;rw[hk];decide⟩
 refine⟨E',⟨⟨hR,mY.step hs.heap hG hk4⟩,?_,hs.defers,aq hs.base⟩,(hG.up hs.heap hk4).iG tA⟩;have:=(hs.tmps.mono hle).set hnl t;rw[yy hy]at this;exact dG
end
def posOf:List Nat->Nat->Nat->Option Nat
 |[],_,_=>none
 |x::xs,i,id=>if x == id then some i else posOf xs (i+1) id
def ym:∀{sel:List Nat} {k id i:Nat},posOf sel k id=some i->k<=i/\sel[i-k]?=some id
 |[],k,id,i,h=>by simp[posOf]at h
 |x::xs,k,id,i,h=>by
  unfold posOf at h;split at h
  ·rename_i e;cases h
   exact⟨gC _,aq e⟩
  ·obtain⟨h1,h2⟩:=ym h;refine⟨aw,?_⟩;rw[show i-k=(i-(k+1))+1 from aw];simpa using h2
def xO(sel:List Nat):Nat->C->C
 |0,_=>.za
 |k+1,c=>match c with
  |.ref id hops sz i j=>match posOf sel 0 id with
   |some id'=>.ref id' hops sz i j
   |none=>.za
  |.sl id hops sz lo len full=>match posOf sel 0 id with
   |some id'=>.sl id' hops sz lo len full
   |none=>.za
  |.mp id=>match posOf sel 0 id with
   |some id'=>.mp id'
   |none=>.za
  |.gl id sz rows=>match posOf sel 0 id with
   |some id'=>.gl id' sz rows
   |none=>.fh 0 sz rows
  |.ig t c=>.ig t (xO sel k c)
  |.rc r=>.rc r
  |.agg cs=>.agg (cs.map (xO sel k))
  |.fq cs=>.fq (cs.map (xO sel k))
  |.fn f first caps=>.fn f (first.map (xO sel k)) (caps.map (xO sel k))
  |.v x=>.v x
  |.fh o sz rows=>.fh o sz rows
  |.jt cells=>.jt cells
  |.un=>.un
  |.za=>.za
def Env.fx(E:Env)(sel:List Nat):Env:={n:=sel.length,β:=λi hops=>E.β ((sel[i]?).getD 0) hops,κ:=λi hops=>E.κ ((sel[i]?).getD 0) hops,St:=E.St,G:=λi k=>E.G ((sel[i]?).getD 0) k}
def Env.FT(E:Env)(sel:List Nat):E.shut.le (E.fx sel).shut:=⟨gC _,λid hops hi=>absurd hi (pz _),λid hops hi=>absurd hi (pz _),λb o u hu=>hu,λid _ _ hi=>absurd hi (pz _)⟩
def LL.fx{E E':Env}{f:C->C}{cs:List C}{ys:List Value}(h:LL E cs ys)(hf:∀c y,L E c y->L E' (f c) y):LL E' (cs.map f) ys:=
 ⟨aq h.1,λi c y e1 e2=>by
  rw[gf]at e1;cases hx:cs[i]? with
  |none=>rw[hx]at e1;cases e1
  |some c0=>rw[hx]at e1;cases e1;exact hf c0 y (h.2 i c0 y hx e2)⟩
def L.fx{E:Env}(sel:List Nat):∀(k:Nat) {c:C} {y:Value},L E c y->L (E.fx sel) (xO sel k c) y:=by
 intro k
 induction k with
 |zero=>intro c y h;exact .za y
 |succ k ih=>
  intro c y h
  have pos:∀{id i},posOf sel 0 id=some i->i<sel.length/\(sel[i]?).getD 0=id:=λ{id i} e=>by
   obtain⟨_,h2⟩:=ym e;rw[rM]at h2;exact⟨(dW.1 h2).1,by rw[h2];rfl⟩
  cases h with
  |v x hx=>exact .v _ hx
  |fh o sz rows b off cap us ho hc hsz hst hL=>
   exact .fh o sz rows b off cap us ho hc hsz hst (λi r k c e1 e2=>(hL i r k c e1 e2).mono (E.FT sel))
  |xx o sz ho a=>exact .xx o sz ho a
  |jt cells b off us hst hL=>
   exact .jt cells b off us hst (λk c e1=>(hL k c e1).mono (E.FT sel))
  |ref id hops sz i j hn=>
   unfold xO;dsimp only;split
   ·rename_i id' e;obtain⟨h1,h2⟩:=pos e;have:=L.ref (E:=E.fx sel) id' hops sz i j h1;simp only[Env.fx,h2]at this;exact dG
   ·exact .za _
  |sl id hops sz lo len full cap hn hlen hf hf'=>
   unfold xO;dsimp only;split
   ·rename_i id' e;obtain⟨h1,h2⟩:=pos e;have:=L.sl (E:=E.fx sel) id' hops sz lo len full cap h1 hlen hf (by simp only[Env.fx,h2];exact hf');simp only[Env.fx,h2]at this;exact dG
   ·exact .za _
  |mp id hn=>
   unfold xO;dsimp only;split
   ·rename_i id' e;obtain⟨h1,h2⟩:=pos e;have:=L.mp (E:=E.fx sel) id' h1;simp only[Env.fx,h2]at this;exact dG
   ·exact .za _
  |agg cs ys h1 h2 h3=>
   have:=LL.fx (f:=xO sel k) (E':=E.fx sel) (cs:=cs) (ys:=ys.toList) ⟨aq h1,λi c y e1 e2=>h2 i c y e1 uY⟩ (λc y hl=>ih hl);exact dB
  |fq cs ys h1 h2=>
   have:=LL.fx (f:=xO sel k) (E':=E.fx sel) (cs:=cs) (ys:=ys.toList) ⟨aq h1,λi c y e1 e2=>h2 i c y e1 uY⟩ (λc y hl=>ih hl);exact .fq _ ys (aq this.1) (λi c y e1 e2=>this.2 i c y e1 uY)
  |fn f first caps ys zs h1 h2 h3 h4=>
   have t1:=LL.fx (f:=xO sel k) (E':=E.fx sel) (cs:=first) (ys:=ys.toList) ⟨aq h1,λi c y e1 e2=>h3 i c y e1 uY⟩ (λc y hl=>ih hl);have t2:=LL.fx (f:=xO sel k) (E':=E.fx sel) (cs:=caps) (ys:=zs.toList) ⟨aq h2,λi c y e1 e2=>h4 i c y e1 uY⟩ (λc y hl=>ih hl);exact dJ
  |un=>exact .un
  |za y=>exact .za y
  |gl id sz rows y hn hg hl=>
   unfold xO;dsimp only;split
   ·rename_i id' e;obtain⟨h1,h2⟩:=pos e;exact .gl id' sz rows y h1 (by simp only[Env.fx,h2];exact hg) (hl.mono (E.FT sel))
   ·have h3:E.shut.le (E.fx sel):=⟨gV _,λid hops hi=>absurd hi (pz _),λid hops hi=>absurd hi (pz _),λb o u hu=>hu,λid _ _ hi=>absurd hi (pz _)⟩;exact hl.mono h3
  |ig t c y hl=>exact .ig t _ y (ih hl)
def MF(sel:List Nat)(k:Nat){c:C}(h:zx c=true):zx (xO sel k c)=true:=by
 cases k with
 |zero=>rfl
 |succ k=>
  cases c with
  |fh o sz rows=>exact h
  |ref id hops sz i j=>unfold xO;dsimp only;split <;> rfl
  |sl id hops sz lo len full=>unfold xO;dsimp only;split <;> rfl
  |mp id=>unfold xO;dsimp only;split <;> rfl
  |gl id sz rows=>unfold xO;dsimp only;split <;> rfl
  |_=>rfl
def zK(sel:List Nat)(ob:Ob):Ob:=
 match ob with
 |⟨kind,ty,sz,rows,fz⟩=>⟨kind,ty,sz,match kind with
  |2=>rows
  |4=>rows
  |_=>rows.map λr=>r.map (xO sel 9),fz⟩
def dead:Ob:=⟨0,0,0,[],0⟩
def xC(sel:List Nat)(H:zm):zm:=sel.map λid=>zK sel ((H[id]?).getD dead)
def yl:List Nat->Bool
 |[]=>true
 |x::xs=>!(xs.any (· == x)) && yl xs
def kY:∀{l:List Nat},yl l=true->∀(i j x:Nat),l[i]?=some x->l[j]?=some x->i=j
 |[],_,i,j,x,h,_=>by simp at h
 |y::l,h,i,j,x,h1,h2=>by
  simp only[yl,gA,pJ,pC]at h;cases i with
  |zero=>
   cases j with
   |zero=>rfl
   |succ j=>
    simp at h1 h2;subst h1;exact absurd aj (h.1 _ (dY h2))
  |succ i=>
   cases j with
   |zero=>
    simp at h1 h2;subst h2;exact absurd aj (h.1 _ (dY h1))
   |succ j=>
    simp at h1 h2;rw[kY h.2 i j x h1 h2]
def L.Y8{E:Env}{c:C}{y:Value}(h:L E c y)(hc:B0 c=true):L E.shut c y:=by
 cases h with
 |agg cs ys h1 h2 h3=>
  refine .agg cs ys h1 (λi c y e1 e2=>(h2 i c y e1 e2).kE ?_) h3;exact gz.1 (show cs.all jc=true from hc) _ (dY e1)
 |v x hx=>exact(L.v (E:=E) _ hx).kE hc
 |fh o sz rows b off cap us ho h2 hsz hst hL=>exact(L.fh (E:=E) o sz rows b off cap us ho h2 hsz hst hL).kE hc
 |xx o sz ho a=>exact(L.xx (E:=E) o sz ho a).kE hc
 |jt cells b off us hst hL=>exact(L.jt (E:=E) cells b off us hst hL).kE hc
 |fn f first caps ys zs h1 h2 h3 h4=>exact(L.fn (E:=E) f first caps ys zs h1 h2 h3 h4).kE hc
 |_=>simp[B0,jc,Bp]at hc
def LL.closed{E E':Env}{t:List C}{ys:List Value}(h:LL E t ys)(hc:t.all B0=true)(hs:E.shut.le E'):LL E' t ys:=
 ⟨h.1,λi c y e1 e2=>((h.2 i c y e1 e2).Y8 (gz.1 hc _ (dY e1))).mono hs⟩
section
variable {B:Nat}
def xZ{sel:List Nat}{H:zm}{i:Nat}{ob':Ob}(h:(xC sel H)[i]?=some ob')(z8:sel.all (λid=>Nat.blt id H.length)=true):∃id ob,sel[i]?=some id/\H[id]?=some ob/\ob'=zK sel ob:=by
 unfold xC at h;rw[gf]at h;cases hx:sel[i]? with
 |none=>rw[hx]at h;cases h
 |some id=>
  rw[hx]at h
  have fj:id<H.length:=by
   have:=gz.1 z8 id (dY hx);simpa [fg] using this
  have h2:H[id]?=some H[id]:=aX
  simp only[gF,gQ,h2,Option.getD_some]at h;exact⟨id,H[id],rfl,h2,h.symm⟩
def wK{sel:List Nat}{H:zm}{i:Nat}{hops:List fT}{sz:Nat}{rows:List (List C)}(z8:sel.all (λid=>Nat.blt id H.length)=true)(fW:qt H=true)(h:qf (xC sel H) i hops=some (sz,rows)):
  ∃id ob rows0,sel[i]?=some id/\H[id]?=some ob/\qf H id hops=some (sz,rows0)/\((ob.kind=2/\rows=rows0)\/(ob.kind=1/\hops=[]/\rows=rows0.map (λr=>r.map (xO sel 9))/\∀r∈rows0,∀c∈r,zx c=true)):=by
 obtain⟨ob',ho',hk',hg'⟩:=jo h;obtain⟨id,ob,h1,h2,rfl⟩:=xZ ho' z8;obtain⟨kind,ty,sz0,rows0,fz⟩:=ob;rcases hk' with hk|hk
 ·have hk:kind=1:=hk;subst hk
  have hno:∀r∈rows0,∀c∈r,zx c=true:=by
   have:=gz.1 fW _ (dY h2);dsimp only at this;simpa [gz] using this
  have hg2:v7 sz0 (rows0.map λr=>r.map (xO sel 9)) hops=some (sz,rows):=hg'
  obtain⟨rfl,e⟩:=wM (λi k c hc=>by
   unfold cellAt at hc;rw[gf]at hc;cases hx:rows0[i]? with
   |none=>rw[hx]at hc;cases hc
   |some r=>
    rw[hx]at hc;simp only[gF,gT,gf]at hc;cases hy:r[k]? with
    |none=>rw[hy]at hc;cases hc
    |some c0=>
     rw[hy]at hc;cases hc
     exact MF sel 9 (hno r (dY hx) c0 (dY hy))) hg2
  cases e
  exact⟨id,_,rows0,h1,h2,by unfold qf;rw[h2];simp[qW],.inr ⟨rfl,rfl,rfl,hno⟩⟩
 ·have hk:kind=2:=hk;subst hk;exact⟨id,_,rows,h1,h2,bG,.inl ⟨rfl,rfl⟩⟩
def ql.fx{w:World}{E:Env}{H:zm}(hh:ql w E H)(sel:List Nat)(z8:sel.all (λid=>Nat.blt id H.length)=true)(iw:yl sel=true)(fW:qt H=true):ql w (E.fx sel) (xC sel H) where
 n:=by simp[Env.fx,xC]
 fD i ob' hops sz rows hob' hx:=by
  obtain⟨id,ob,rows0,h1,h2,h3,h4⟩:=wK z8 fW hx;obtain⟨id2,ob2,e1,e2,rfl⟩:=xZ hob' z8;rw[h1]at e1;cases e1
  rw[h2]at e2;cases e2
  have hb:=hh.fD id ob hops sz rows0 h2 h3;obtain⟨cur,e,hg,hcs,hcell⟩:=hb.fD;have hβ:∀hops,(E.fx sel).β i hops=E.β id hops:=λhops=>by simp[Env.fx,h1]
  have hκ:∀hops,(E.fx sel).κ i hops=E.κ id hops:=λhops=>by simp[Env.fx,h1]
  have hkind:(zK sel ob).kind=ob.kind:=by obtain⟨kind,ty,sz,rows,fz⟩:=ob;rfl
  rw[hkind];rcases h4 with⟨hk,rfl⟩|⟨hk,rfl,rfl,hno⟩
  ·refine⟨by rw[hκ];exact hb.len,hb.row,cur,e,by rw[hβ];exact hg,by rw[hκ];exact hcs,?_⟩;intro i' k c hc;obtain⟨u,hu,ho⟩:=hcell i' k c hc;refine⟨u,hu,?_⟩;unfold qZ at ho ⊢;split at ho
   ·rw[hβ,hκ];exact ho
   ·refine⟨?_,ho.2⟩;have h5:=ho.1;simp only[Env.at,hk,if_true]at h5 ⊢;exact h5.mono (E.FT sel)
  ·refine⟨by rw[hκ];simpa using hb.len,?_,cur,e,by rw[hβ];exact hg,by rw[hκ];exact hcs,?_⟩
   ·intro r hr;obtain⟨r0,h5,rfl⟩:=gR.1 hr;simpa using hb.row r0 h5
   ·intro i' k c hc;unfold cellAt at hc;rw[gf]at hc;cases hx1:rows0[i']? with
    |none=>rw[hx1]at hc;cases hc
    |some r=>
     rw[hx1]at hc;simp only[gF,gT,gf]at hc;cases hy:r[k]? with
     |none=>rw[hy]at hc;cases hc
     |some c0=>
      rw[hy]at hc;cases hc
      obtain⟨u,hu,ho⟩:=hcell i' k c0 (by unfold cellAt;rw[hx1];exact hy);have hn0:=hno r (dY hx1) c0 (dY hy);rw[qZ.loose hn0]at ho;refine⟨u,hu,(qZ.loose (MF sel 9 hn0)).2 ⟨?_,ho.2⟩⟩;have h5:=ho.1;have hk2:¬ob.kind=2:=by rw[hk];decide
      simp only[Env.at,dZ hk2]at h5 ⊢;exact h5.fx sel 9
 inj i hops i' hops' x y hx hy he:=by
  obtain⟨id,ob,rows0,h1,h2,h3,_⟩:=wK z8 fW (sz:=x.1) (rows:=x.2) (aq hx);obtain⟨id',ob',rows0',h1',h2',h3',_⟩:=wK z8 fW (sz:=y.1) (rows:=y.2) (aq hy);simp only[Env.fx,h1,h1',Option.getD_some]at he;obtain⟨rfl,rfl⟩:=hh.inj id hops id' hops' _ _ h3 h3' he;exact⟨kY iw _ _ _ h1 h1',rfl⟩
 qz:=hh.qz
 sep i hops x o u hx hu:=by
  obtain⟨id,ob,rows0,h1,h2,h3,_⟩:=wK z8 fW (sz:=x.1) (rows:=x.2) (aq hx);simp only[Env.fx,h1,Option.getD_some]at hu;obtain⟨e1,ob2,e2,e3⟩:=hh.sep id hops _ o u h3 hu;rw[h2]at e2;cases e2
  refine⟨e1,zK sel ob,?_,?_⟩
  ·unfold xC;rw[gf,h1];simp[h2]
  ·obtain⟨kind,ty,sz,rows,fz⟩:=ob;exact e3
 ty i ob' hob' hk:=by
  obtain⟨id,ob,h1,h2,rfl⟩:=xZ hob' z8;obtain⟨kind,ty,sz,rows,fz⟩:=ob;obtain⟨cur,hc⟩:=hh.ty id _ h2 hk;exact⟨cur,by simp only[Env.fx,h1,Option.getD_some];exact hc⟩
 fz i ob' hob':=by
  obtain⟨id,ob,h1,h2,rfl⟩:=xZ hob' z8;obtain⟨kind,ty,sz,rows,fz⟩:=ob;have:=hh.fz id _ h2;dsimp only[zK]at this ⊢;split
  ·exact dG
  ·exact dG
  ·simpa using this
def Dd:Nat->Nat->List Nat->Bool
 |0,_,_=>true
 |n+1,k,x::xs=>x == k && Dd n (k+1) xs
 |_+1,_,[]=>false
def Mq:∀{n k:Nat} {l:List Nat},Dd n k l=true->n<=l.length/\∀i,i<n->l[i]?=some (k+i)
 |0,k,l,h=>⟨gV _,λi hi=>absurd hi (pz _)⟩
 |n+1,k,x::xs,h=>by
  simp only[Dd,gA,pF]at h;obtain⟨h1,h2⟩:=Mq h.2;refine⟨aq h1,λi hi=>?_⟩;cases i with
  |zero=>simp[h.1]
  |succ i=>simp[h2 i aw];omega
 |n+1,k,[],h=>by simp[Dd]at h
def kA(sel:List Nat)(ob:Ob):(zK sel ob).kind=ob.kind/\(zK sel ob).ty=ob.ty/\(zK sel ob).sz=ob.sz/\(zK sel ob).rows.length=ob.rows.length:=by
 obtain⟨kind,ty,sz,rows,fz⟩:=ob;refine⟨rfl,rfl,rfl,?_⟩;unfold zK;dsimp only;split <;> simp
def qL.fx{E:Env}{H:zm}{sel:List Nat}(z8:sel.all (λid=>Nat.blt id H.length)=true){i b:Nat}(h:qL (E.fx sel) (xC sel H) i b):∃id,sel[i]?=some id/\qL E H id b:=by
 obtain⟨ob',cap,h1,h2,h3,h4⟩:=h;obtain⟨id,ob,e1,e2,rfl⟩:=xZ h1 z8;obtain⟨l1,l2,l3,l4⟩:=kA sel ob;rw[l4]at h3 h4;simp only[Env.fx,e1,Option.getD_some]at h3;exact⟨id,e1,ob,cap,e2,bH,h3,h4⟩
def F9{sel:List Nat}{ob:Ob}(h:ob.kind=4):zK sel ob=ob:=by
 obtain⟨kind,ty,sz,rows,fz⟩:=ob;cases h
 rfl
def jM.fx{H:zm}{sel:List Nat}(z8:sel.all (λid=>Nat.blt id H.length)=true){i b:Nat}(h:jM (xC sel H) i b):∃id,sel[i]?=some id/\jM H id b:=by
 obtain⟨ob',r,t,h1,h2,h3,h4⟩:=h;obtain⟨id,ob,e1,e2,rfl⟩:=xZ h1 z8;have hk4:ob.kind=4:=by rw[<-(kA sel ob).1];exact h2
 rw[F9 hk4]at h3 h4;exact⟨id,e1,ob,r,t,e2,hk4,h3,h4⟩
def jk.fx{E:Env}{H:zm}{sel:List Nat}(z8:sel.all (λid=>Nat.blt id H.length)=true)(fW:qt H=true){b:Nat}(h:jk (E.fx sel) (xC sel H) b):jk E H b:=by
 obtain⟨i,hops,⟨sz,rows⟩,hx,rfl⟩:=h;obtain⟨id,ob,rows0,h3,h4,h5,_⟩:=wK z8 fW hx;exact⟨id,hops,_,h5,by simp[Env.fx,h3]⟩
def qA.fx{w:World}{E:Env}{H:zm}(hh:qA w E H)(sel:List Nat)(z8:sel.all (λid=>Nat.blt id H.length)=true)(iw:yl sel=true)(fW:qt H=true):qA w (E.fx sel) (xC sel H) where
 base:=hh.base.fx sel z8 iw fW
 fm:={
  val:=λi ob' h1 h2=>by
   obtain⟨id,ob,e1,e2,rfl⟩:=xZ h1 z8;obtain⟨l1,l2,l3,l4⟩:=kA sel ob;rw[l4];simp only[Env.fx,e1,Option.getD_some];exact hh.fm.val id ob e2 bH
  fD:=λi b ob' h1 h2=>by
   obtain⟨id,e0,h3⟩:=h1.fx z8;obtain⟨id',ob,e1,e2,rfl⟩:=xZ h2 z8;rw[e0]at e1;cases e1
   obtain⟨l1,l2,l3,l4⟩:=kA sel ob;rw[l2,l3,l4];simp only[Env.fx,e0,Option.getD_some];exact hh.fm.fD id b ob h3 e2
  sep:=λi b h1 h2=>by
   obtain⟨id,e0,h3⟩:=h1.fx z8;exact hh.fm.sep id b h3 (h2.fx z8 fW)
  inj:=λi i' b h1 h2=>by
   obtain⟨id,e0,h3⟩:=h1.fx z8;obtain⟨id',e1,h4⟩:=h2.fx z8;obtain rfl:=hh.fm.inj id id' b h3 h4;exact kY iw _ _ _ e0 e1
  st:=λi b ob' o u h1 h2 h3=>by
   obtain⟨id,e0,h4⟩:=h1.fx z8;obtain⟨id',ob,e1,e2,rfl⟩:=xZ h2 z8;rw[e0]at e1;cases e1
   obtain⟨l1,l2,l3,l4⟩:=kA sel ob;rw[l3,l4];exact hh.fm.st id b ob o u h4 e2 h3
  top:=λi ob' k u h1 h2 h3=>by
   obtain⟨id,ob,e1,e2,rfl⟩:=xZ h1 z8;obtain⟨l1,l2,l3,l4⟩:=kA sel ob;rw[l4];simp only[Env.fx,e1,Option.getD_some]at h3;exact hh.fm.top id ob k u e2 bH h3
  iD:=λi ob' r t h1 h2 h3=>by
   obtain⟨id,ob,e1,e2,rfl⟩:=xZ h1 z8;have hk4:ob.kind=4:=by rw[<-(kA sel ob).1];exact h2
   rw[F9 hk4]at h3;have:=gz.1 fW ob (dY e2);rw[hk4,h3.2,h3.1]at this;obtain⟨p1,p2⟩:=hh.fm.iD id ob r t e2 hk4 h3;have ht:t.all B0=true:=aq this
   rw[F9 hk4];exact⟨p1,p2.map λys hl=>hl.closed ht ⟨gV _,λ_ _ h=>absurd h (pz _),λ_ _ h=>absurd h (pz _),λ_ _ _ h=>h,λ_ _ _ h=>absurd h (pz _)⟩⟩
  lb:=λi i' b h1 h2=>by
   obtain⟨id,e0,h3⟩:=h1.fx z8;obtain⟨id',e1,h4⟩:=h2.fx z8;obtain rfl:=hh.fm.lb id id' b h3 h4;exact kY iw _ _ _ e0 e1}
def zq.fx(sel m:List Nat)(t:List C)(H:zm)(hB:Dd B 0 sel=true)(z8:sel.all (λid=>Nat.blt id H.length)=true)(iw:yl sel=true)(fW:qt H=true):zq B ⟨t,H⟩ ⟨(AH m 0 t).map (xO sel 9),xC sel H⟩:=λmm w E a hs=>by
 obtain⟨h1,h2⟩:=Mq hB
 refine⟨E.fx sel,⟨hs.heap.fx sel z8 iw fW,((Ic m t 0).LL hs.tmps).fx (λc y hl=>hl.fx sel 9),hs.defers,by simpa [xC] using h1⟩,
  ⟨⟨λid hops hi=>by simp[Env.fx,h2 id hi],λid hops hi=>by simp[Env.fx,h2 id hi],λ_ _ _ h=>h,λid k u hi hu=>by simpa [Env.fx,h2 id hi] using hu⟩,rfl,rfl,rfl,gC _,λ_ _ _=>J,λb o u hu=>.inl hu,?_⟩⟩
 rintro b (hb|⟨i,hb|hb⟩)
 ·exact .inr (.inl (hb.fx z8 fW))
 ·obtain⟨id,_,h3⟩:=hb.fx z8;exact .inr (.inr ⟨id,.inl h3⟩)
 ·obtain⟨id,_,h3⟩:=hb.fx z8;exact .inr (.inr ⟨id,.inr h3⟩)
end
def WC.trans{c c' c'':C}(h:WC c c')(h':WC c' c''):WC c c'':=λE y hl=>h' E y (h E y hl)
def WC.nil(sz sz':Nat):WC (.fh 1 sz []) (.fh 0 sz' []):=(WC.none 1 sz sz').trans (WC.share 1 sz' [])
def iL.at:∀{cs:List C} {i:Nat} {c c':C},cs[i]?=some c->WC c c'->iL cs (cs.set i c')
 |[],i,c,c',h,hw=>by simp at h
 |x::xs,0,c,c',h,hw=>by simp at h;subst h;exact .cons hw (iL.refl xs)
 |x::xs,i+1,c,c',h,hw=>.cons (.refl x) (iL.at (aq h) hw)
def zq.cell{B:Nat}{s:S}(i:Nat){c c':C}(h:s.tmps[i]?=some c)(hw:WC c c'):zq B s ⟨s.tmps.set i c',s.H⟩:=zq.tmps (iL.at h hw)
def Bz(t2:List C):List C->Prop:=
 List.rec (motive:=λ_=>List C->Prop) (λt1=>match t1 with|[]=>True|_::_=>False)
  (λc' _ ih t1=>match t1 with
   |[]=>False
   |c::cs=>match c' with
    |.za=>ih cs
    |c'=>c=c'/\ih cs) t2
def I2:∀{t2 t1:List C},Bz t2 t1->iL t1 t2
 |[],[],_=>.nil
 |[],_::_,h=>h.elim
 |_::_,[],h=>h.elim
 |c'::t2,c::t1,h=>by
  cases c' with
  |za=>exact .cons (.za c) (I2 (t2:=t2) (t1:=t1) h)
  |_=>
   obtain⟨h1,h2⟩:=h;exact .cons (h1 ▸ .refl c) (I2 (t2:=t2) (t1:=t1) h2)
section
variable {P:Program} {B:Nat}
def zq.Bz{t1 t2:List C}{H:zm}(h:Ab.Bz t2 t1):zq B ⟨t1,H⟩ ⟨t2,H⟩:=zq.tmps (I2 h)
def zq.xG(n:Nat){t1 t2:List C}{H1 H2:zm}(h:Ab.Bz t2 t1)(hB:Nat.ble B n=true)(hn:Nat.ble n H1.length=true)(ht:t2.all (qX n 9)=true)(hr:zX n (H1.take n)=true)(hH:H1.take n=H2):zq B ⟨t1,H1⟩ ⟨t2,H2⟩:=by
 subst hH;exact(zq.Bz h).trans (zq.drop (s:=⟨t2,H1⟩) n hB hn ht hr)
def zq.IV{s:S}(t:Nat){id sz len ty:Nat}{full:Bool}{rows:List (List C)}(ht:s.tmps[t]?=some (.sl id [] sz 0 len full))(hob:s.H[id]?=some ⟨2,ty,sz,rows,0⟩)(hlen:len=rows.length)
 (hno:∀r∈rows,∀c∈r,zx c=true):
  zq B s ⟨s.tmps.set t (.fh (if full then 1 else 0) sz rows),s.H.set id ⟨2,ty,sz,rows,rows.length⟩⟩:=by
 have:=zq.freeze (B:=B) t ht hob J J (by simp[hlen]) hno;rw[vo _ hob]at this;simpa [hlen] using this
def qA.LR{w:World}{E:Env}{H:zm}(hh:qA w E H){id sz len ty:Nat}{full:Bool}{rows:List (List C)}{y:Value}(hl:L E (.sl id [] sz 0 len full) y)(hob:H[id]?=some ⟨2,ty,sz,rows,0⟩)(hlen:len=rows.length)
 (hno:∀r∈rows,∀c∈r,zx c=true):
  ∃E1,qA w E1 (H.set id ⟨2,ty,sz,rows,rows.length⟩)/\L E1 (.fh (if full then 1 else 0) sz rows) y/\Grow w E H w E1 (H.set id ⟨2,ty,sz,rows,rows.length⟩):=by
 obtain⟨E1,hs,g⟩:=zq.IV (B:=H.length) (s:=⟨[.sl id [] sz 0 len full],H⟩) 0 J hob hlen hno 0 w E ⟨#[y],[]⟩ ⟨hh,LL.one hl,gV _,gC _⟩;have hn:=hs.heap.n
 refine⟨E1,hs.heap,hs.tmps.cons_inv.1,⟨⟨by rw[hn,hh.n];simp,λid hops hi=>g.le.β id hops tD,λid hops hi=>g.le.κ id hops tD,g.le.St,λid k u hi=>g.le.G id k u tD⟩,
  g.os,g.tape,g.output,g.size,g.frame,g.jX,g.own⟩⟩
def zq.YY{s:S}(vid k:Nat){id sz len ty vty vsz fz:Nat}{full:Bool}{r:List C}{rows:List (List C)}(hv:s.H[vid]?=some ⟨1,vty,vsz,[r],fz⟩)(hk:r[k]?=some (.sl id [] sz 0 len full))(hob:s.H[id]?=some ⟨2,ty,sz,rows,0⟩)(hlen:len=rows.length)
 (hno:∀r∈rows,∀c∈r,zx c=true)(hr:r.all zx=true)(hr':(r.set k (.fh (if full then 1 else 0) sz rows)).all zx=true):
  zq B s ⟨s.tmps,(s.H.set id ⟨2,ty,sz,rows,rows.length⟩).set vid ⟨1,vty,vsz,[r.set k (.fh (if full then 1 else 0) sz rows)],fz⟩⟩:=λm w E a hs=>by
 have hgb:qf s.H vid []=some (vsz,[r]):=by unfold qf;rw[hv];simp[qW]
 obtain⟨cur,e,h3,h4,h5⟩:=(hs.heap.base.fD _ _ _ _ _ hv hgb).fD;obtain⟨u,hu,ho⟩:=h5 0 k _ (vg.2 ⟨rfl,hk⟩);rw[qZ.loose J]at ho;have hl:L E (.sl id [] sz 0 len full) u:=aF
 obtain⟨E1,hh1,hl1,g1⟩:=hs.heap.LR hl hob hlen hno;have hne:vid≠id:=by rintro rfl;rw[hv]at hob;cases hob
 have hob1:(s.H.set id ⟨2,ty,sz,rows,rows.length⟩)[vid]?=some ⟨1,vty,vsz,[r],fz⟩:=by rw[gD,dZ (Ne.symm hne)];exact hv
 have hβ:E1.β vid []=E.β vid []:=g1.le.β vid [] (by rw[hs.heap.n];exact(dW.1 hv).1)
 have hcu:w.cell? ⟨E1.β vid [],k,none⟩=some u:=by
  unfold World.cell?;rw[hβ,h3];simpa using hu
 obtain⟨hR,g2⟩:=hh1.El hob1 (r':=r.set k (.fh (if full then 1 else 0) sz rows)) aj hr hr' λj c c' v e1 e2 hl' hv=>by
  rw[gD]at e2;split at e2
  ·rename_i e;subst e;rw[hcu]at hv;cases hv
   split at e2
   ·cases e2;exact hl1
   ·cases e2
  ·rw[e1]at e2;cases e2
   exact hl'
 exact df
def qI.JH{f:FuncId}{args:List C}{r:C}(h:qI P f [] args λc _=>xz 0 9 c=r):zb P f [] args r []:=λw E vs hh hl=>by
 refine(h w E vs hh hl).mono ?_;rintro e w' ⟨c,H',v,E',rfl,rfl,h1,h2,g⟩;have h3:=h1.drop 0 (gV _) (by simp[zX]);rw[sV]at h3;have hn:E.n=0:=hh.n
 exact⟨v,E'.cut 0,rfl,h3,h2.low 0 9,⟨⟨by rw[hn];exact gV _,λid hops hi=>by rw[hn]at hi;omega,λid hops hi=>by rw[hn]at hi;omega,g.le.St,λid k u hi=>by rw[hn]at hi;omega⟩,g.os,g.tape,g.output,g.size,g.frame,g.jX,
  λb h=>absurd h xy.none⟩⟩
def zb.zr{f:FuncId}{fn:Func}{c:Code}{args:List C}{r:C}(hf:P.funcs[f]?=some fn)(hb:fn.body=some c)
 (h:wpA P 0 c (entry fn args) [] λex t1 H1=>(ex=.ret\/ex=.normal)/\∃s2,zq 0 ⟨t1,H1⟩ s2/\(kB P fn s2).map (xz 0 9)=some r):zb P f [] args r []:=by
 refine qI.JH (qI.o7 (H:=[]) hf hb ((jG h).mono λex s1 ⟨hex,s2,hw,h2⟩=>?_));cases h3:kB P fn s2 with
 |none=>rw[h3]at h2;cases h2
 |some r0=>
  rw[h3]at h2;cases h2
  exact⟨hex,s2,r0,hw,h3,rfl⟩
def ab{f:FuncId}{fn:Func}{c:Code}{args:List C}{r:C}{zQ:Prop}(hf:P.funcs[f]?=some fn)(z0:zQ)(hb:fn.body=some c:=by exact J)(ze:zQ->wpA P 0 c (entry fn args) [] λex t1 H1=>(ex=.ret\/ex=.normal)/\∃s2,zq 0 ⟨t1,H1⟩ s2/\(kB P fn s2).map (xz 0 9)=some r:=by intro zh;(conv=>whnf);exact zh):zb P f [] args r []:=zb.zr hf hb (ze z0)
def qe.seq{c:Code}{t:List C}{H:zm}{K:Exit->List C->zm->Prop}(N:Nat)(T:Nat->List C)(Hp:Nat->zm)(R:Nat->Prop)(h0:zq B ⟨t,H⟩ ⟨T 0,Hp 0⟩)(r0:R 0)
 (step:∀k,k<N->R k->wpA P B c (T k) (Hp k) λe t1 H1=>(e=.normal/\zq B ⟨t1,H1⟩ ⟨T (k+1),Hp (k+1)⟩/\R (k+1))\/(e≠.normal/\K e t1 H1))
 (done:R N->wpA P B c (T N) (Hp N) λe t1 H1=>e≠.normal/\K e t1 H1):
  Bh P B c t H K:=by
 have key:∀n k,k+n=N->R k->lH P B c (n+1) ⟨T k,Hp k⟩ λex s=>K ex s.tmps s.H:=by
  intro n
  induction n with
  |zero=>
   intro k hk hr;obtain rfl:k=N:=aw
   refine .step ((jG (done hr)).mono λex s1 ⟨hne,hK⟩=>?_);cases ex with
   |normal=>exact absurd J hne
   |_=>exact hK
  |succ n ih=>
   intro k hk hr;refine .step ((jG (step k aw hr)).post λex s1 h1=>?_);rcases h1 with⟨rfl,hw,hr'⟩|⟨hne,hK⟩
   ·exact⟨_,hw,(ih (k+1) aw hr':lH P B c (n+1) _ _)⟩
   ·refine⟨s1,.refl s1,?_⟩;cases ex with
    |normal=>exact absurd J hne
    |_=>exact hK
 exact⟨.pre h0 ⟨N+1,key N 0 aw r0⟩⟩
end
section
variable {P:Program} {B:Nat}
structure LoopN(P:Program)(B:Nat)(c:Code)(n:Nat)(t:List C)(H:zm)(K:Exit->List C->zm->Prop):Prop where
 out:lH P B c n ⟨t,H⟩ λex s=>K ex s.tmps s.H
def LoopN.step{c:Code}{n:Nat}{t:List C}{H:zm}{K:Exit->List C->zm->Prop}
 (h:wpA P B c t H λe t1 H1=>(e=.normal/\LoopN P B c n t1 H1 K)\/(e≠.normal/\K e t1 H1)):LoopN P B c (n+1) t H K:=by
 refine⟨.step ((jG h).post λex s1 h1=>?_)⟩;rcases h1 with⟨rfl,h⟩|⟨hne,hK⟩
 ·exact⟨s1,.refl s1,h.out⟩
 ·refine⟨s1,.refl s1,?_⟩;cases ex with
  |normal=>exact absurd J hne
  |_=>exact hK
def Bh.CG{c:Code}(n:Nat){t:List C}{H:zm}{K:Exit->List C->zm->Prop}(h:LoopN P B c n t H K):Bh P B c t H K:=⟨⟨n,h.out⟩⟩
end
section
variable {P:Program} {B:Nat}
def kP{x y:Code}{t:List C}{H:zm}{R:Exit->S->Prop}(h:wpA P B x t H λe t1 H1=>(e=.normal/\∃t2 H2,zq B ⟨t1,H1⟩ ⟨t2,H2⟩/\qU P B y ⟨t2,H2⟩ R)\/(e≠.normal/\R e ⟨t1,H1⟩)):qU P B (.seq x y) ⟨t,H⟩ R:=by
 refine .seq ((jG h).post λex s1 h1=>?_);rcases h1 with⟨rfl,t2,H2,hw,hr⟩|⟨hne,hr⟩
 ·exact⟨_,hw,hr⟩
 ·refine⟨s1,.refl s1,?_⟩;cases ex with
  |normal=>exact absurd J hne
  |_=>exact hr
end
def behind:Nat->Code->Code
 |0,c=>c
 |n+1,.seq _ y=>behind n y
 |_,c=>c
def cE{B:Nat}(n:Nat){t1 t2:List C}{H1 H2:zm}(h:Ab.Bz t2 t1:=by (conv=>whnf);refine hU ?_;exact trivial)(hB:Nat.ble B n=true:=by exact J)(hn:Nat.ble n H1.length=true:=by exact J)(ht:t2.all (qX n 9)=true:=by exact J)(hr:zX n (H1.take n)=true:=by exact J)(hH:H1.take n=H2:=by exact J):zq B ⟨t1,H1⟩ ⟨t2,H2⟩:=zq.xG n h hB hn ht hr hH
def cC{B:Nat}{t1 t2:List C}{H:zm}(h:Ab.Bz t2 t1:=by (conv=>whnf);refine hU ?_;exact trivial):zq B ⟨t1,H⟩ ⟨t2,H⟩:=zq.Bz h
end Go.Ab
