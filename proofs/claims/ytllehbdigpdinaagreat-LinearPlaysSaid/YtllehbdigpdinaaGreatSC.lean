import Derived.IntWalk
import Derived.Test.YtllehbdigpdinaaGreatSB
set_option linter.all false
set_option maxRecDepth 100000
set_option maxHeartbeats 4000000
namespace Go.Ab
def Jw(x:Value)(k:Value->Prop):Prop:=
 match x with
 |.int t n=>k (.int t n)
 |.bool b=>k (.bool b)
 |.string s=>k (.string s)
 |x=>k x
def jq(n:Nat)(k:Nat->Prop):Prop:=
 match n with
 |0=>k 0
 |1=>k 1
 |2=>k 2
 |3=>k 3
 |4=>k 4
 |5=>k 5
 |6=>k 6
 |7=>k 7
 |8=>k 8
 |9=>k 9
 |10=>k 10
 |11=>k 11
 |12=>k 12
 |13=>k 13
 |14=>k 14
 |15=>k 15
 |16=>k 16
 |17=>k 17
 |18=>k 18
 |19=>k 19
 |20=>k 20
 |21=>k 21
 |22=>k 22
 |23=>k 23
 |24=>k 24
 |25=>k 25
 |26=>k 26
 |27=>k 27
 |28=>k 28
 |29=>k 29
 |30=>k 30
 |31=>k 31
 |32=>k 32
 |33=>k 33
 |34=>k 34
 |35=>k 35
 |36=>k 36
 |37=>k 37
 |38=>k 38
 |39=>k 39
 |40=>k 40
 |41=>k 41
 |42=>k 42
 |43=>k 43
 |44=>k 44
 |45=>k 45
 |46=>k 46
 |47=>k 47
 |48=>k 48
 |49=>k 49
 |50=>k 50
 |51=>k 51
 |52=>k 52
 |53=>k 53
 |54=>k 54
 |55=>k 55
 |56=>k 56
 |57=>k 57
 |58=>k 58
 |59=>k 59
 |60=>k 60
 |61=>k 61
 |62=>k 62
 |63=>k 63
 |64=>k 64
 |n=>k n
def qq{n:Nat}{k:Nat->Prop}(h:jq n k):k n:=by
 unfold jq at h;split at h <;> exact h
def xp{α:Type}:List α->(List α->Prop)->Prop
 |[],k=>k []
 |x::xs,k=>xp xs λys=>k (x::ys)
def jf{α:Type}:∀{l:List α} {k:List α->Prop},xp l k->k l
 |[],k,h=>h
 |x::xs,k,h=>jf (l:=xs) (k:=λys=>k (x::ys)) h
def qL(c:C)(k:C->Prop):Prop:=
 match c with
 |.v x=>Jw x λx=>k (.v x)
 |.eS o sz rows=>k (.eS o sz rows)
 |.jP cells=>xp cells λcells=>k (.jP cells)
 |.ref id hops sz i j=>jq id λid=>jq sz λsz=>jq j λj=>k (.ref id hops sz i j)
 |.sl id hops sz lo len full=>jq id λid=>k (.sl id hops sz lo len full)
 |.fn f first caps=>k (.fn f first caps)
 |.mp id=>jq id λid=>k (.mp id)
 |.agg cs=>xp cs λcs=>k (.agg cs)
 |.fb cs=>xp cs λcs=>k (.fb cs)
 |.un=>k .un
 |.za=>k .za
 |.gl id sz rows=>jq id λid=>k (.gl id sz rows)
 |.fR t c=>k (.fR t c)
 |.rc r=>k (.rc r)
def Tb{x:Value}{k:Value->Prop}(h:Jw x k):k x:=by
 unfold Jw at h;split at h <;> exact h
def zR{c:C}{k:C->Prop}(h:qL c k):k c:=by
 cases c with
 |v x=>exact Tb (k:=λx=>k (.v x)) h
 |jP cells=>exact jf (k:=λcells=>k (.jP cells)) h
 |ref id hops sz i j=>exact qq (k:=λj=>k (.ref id hops sz i j)) (qq (k:=λsz=>jq j λj=>k (.ref id hops sz i j)) (qq (k:=λid=>jq sz λsz=>jq j λj=>k (.ref id hops sz i j)) h))
 |sl id hops sz lo len full=>exact qq (k:=λid=>k (.sl id hops sz lo len full)) h
 |mp id=>exact qq (k:=λid=>k (.mp id)) h
 |gl id sz rows=>exact qq (k:=λid=>k (.gl id sz rows)) h
 |agg cs=>exact jf (k:=λcs=>k (.agg cs)) h
 |fb cs=>exact jf (k:=λcs=>k (.fb cs)) h
 |_=>exact h
def vh{α:Type}(f:α->(α->Prop)->Prop):List α->(List α->Prop)->Prop
 |[],k=>k []
 |x::xs,k=>f x λx=>vh f xs λxs=>k (x::xs)
def qK{α:Type}{f:α->(α->Prop)->Prop}(hf:∀x k,f x k->k x):∀{l:List α} {k:List α->Prop},vh f l k->k l
 |[],k,h=>h
 |x::xs,k,h=>qK hf (l:=xs) (k:=λxs=>k (x::xs)) (hf x _ h)
def IJ(ob:Ob)(k:Ob->Prop):Prop:=
 match ob with
 |⟨kind,ty,sz,rows,fz⟩=>match kind with
  |1=>jq sz λsz=>vh (vh qL) rows λrows=>k ⟨1,ty,sz,rows,fz⟩
  |kd=>k ⟨kd,ty,sz,rows,fz⟩
def RZ{ob:Ob}{k:Ob->Prop}(h:IJ ob k):k ob:=by
 obtain⟨kind,ty,sz,rows,fz⟩:=ob;unfold IJ at h;dsimp only at h;split at h
 ·exact qK (λ_ _ h=>qK (λ_ _ h=>zR h) h) (k:=λrows=>k ⟨1,ty,sz,rows,fz⟩) (qq (k:=λsz=>vh (vh qL) rows λrows=>k ⟨1,ty,sz,rows,fz⟩) h)
 ·exact h
def AI(H:zl)(k:zl->Prop):Prop:=vh IJ H k
def vm{H:zl}{k:zl->Prop}(h:AI H k):k H:=qK (λ_ _ h=>RZ h) h
def okB(c:C)(k:C->Prop):Prop:=
 match c with
 |.v (.bool b)=>(b=true->k (.v (.bool true)))/\(b=false->k (.v (.bool false)))
 |c=>k c
def Kf(c:C)(k:C->Prop):Prop:=
 match c with
 |.v (.bool b)=>match b with
  |true=>k (.v (.bool true))
  |false=>k (.v (.bool false))
 |c=>qL c k
def MG{c:C}{k:C->Prop}(h:Kf c k):k c:=by
 unfold Kf at h;split at h
 ·rename_i b;cases b <;> exact h
 ·exact zR h
def jm{c:C}{k:C->Prop}(h:okB c k):k c:=by
 unfold okB at h;split at h
 ·rename_i b;cases b
  ·exact h.2 O
  ·exact h.1 O
 ·exact h
def AY{α:Type}:List α->Nat->α->(List α->Prop)->Prop
 |[],_,_,k=>k []
 |_::xs,0,y,k=>k (y::xs)
 |x::xs,n+1,y,k=>AY xs n y λys=>k (x::ys)
def wI{α:Type}:∀{l:List α} {n:Nat} {y:α} {k:List α->Prop},AY l n y k->k (l.set n y)
 |[],_,_,k,h=>h
 |_::xs,0,y,k,h=>h
 |x::xs,n+1,y,k,h=>wI (l:=xs) (n:=n) (y:=y) (k:=λys=>k (x::ys)) h
def mW(tmps:List C)(dst:Option Tmp)(c:C)(k:List C->Prop):Prop:=
 match dst with
 |some d=>AY tmps d c k
 |none=>k tmps
def jx{tmps:List C}{dst:Option Tmp}{c:C}{k:List C->Prop}(h:mW tmps dst c k):k (put tmps dst c):=by
 cases dst with
 |none=>exact h
 |some d=>exact wI h
def bK(b:Bool)(k:Prop):Prop:=
 match b with
 |true=>k
 |false=>False
def zV{b:Bool}{k:Prop}(h:bK b k):b=true/\k:=by
 cases b
 ·exact c6
 ·exact⟨rfl,h⟩
def nW(ρ:Operand->C)(x:Option Operand)(dflt:Nat)(k:Nat->Prop):Prop:=
 match x with
 |none=>k dflt
 |some y=>match ρ y with
  |.v (.int _ n)=>0<=n/\k n.toNat
  |_=>False
def yn{ρ:Operand->C}{x:Option Operand}{dflt:Nat}{k:Nat->Prop}(h:nW ρ x dflt k):∃n,mw ρ x dflt n/\k n:=by
 unfold nW at h;unfold mw;cases x with
 |none=>exact⟨dflt,rfl,h⟩
 |some y=>
  dsimp only at h;split at h
  ·rename_i kd n e;exact⟨n.toNat,⟨kd,by rw[e,rH h.1]⟩,h.2⟩
  ·exact c6
def AR(place:Nat->Option (Nat×Nat)):List C->List (Nat×C)->(List C->Prop)->Prop
 |cells,[],k=>k cells
 |cells,(i,c)::rest,k=>match place i with
  |none=>False
  |some (off,size)=>bK (mF c && (c.cells.length == size) && decide (off+size<=cells.length)) <|vh qL (ym off c.cells cells) λcells=>AR place cells rest k
def Ht{place:Nat->Option (Nat×Nat)}:∀{parts:List (Nat×C)} {cells:List C} {k:List C->Prop},AR place cells parts k->∃cs,AQ place cells parts=some cs/\k cs
 |[],cells,k,h=>⟨cells,rfl,h⟩
 |(i,c)::rest,cells,k,h=>by
  unfold AR at h;split at h
  ·exact c6
  ·rename_i off size hp;obtain⟨h1,h2⟩:=zV h;have h3:=qK (λ_ _ h=>zR h) (k:=λcells=>AR place cells rest k) h2;obtain⟨cs,h4,h5⟩:=Ht h3;refine⟨cs,?_,h5⟩;simp only[AQ,hp];rw[gk h1];exact h4
def Ji(P:Program)(t:TypeId)(parts:List (Nat×C))(k:List C->Prop):Prop:=
 match nV P t,P.underlying t with
 |some z,some (.array _ e)=>match P.info? e with
  |some ie=>vh qL z λz=>AR (λi=>some (i*ie.size,ie.size)) z parts k
  |none=>False
 |some z,some (.struct fields)=>match fields.toList.mapM (λf=>(P.info? f.type).map λi=>(f.offset,i.size)) with
  |some places=>xp places λplaces=>vh qL z λz=>AR (places.toArray[·]?) z parts k
  |none=>False
 |_,_=>False
def Lm{P:Program}{t:TypeId}{parts:List (Nat×C)}{k:List C->Prop}(h:Ji P t parts k):∃cs,F8 P t parts=some cs/\k cs:=by
 unfold Ji at h;unfold F8;split at h
 ·rename_i z n e hz hu;simp only[hz,hu];split at h
  ·rename_i ie hie;simp only[hie];exact Ht (qK (λ_ _ h=>zR h) (k:=λz=>AR (λi=>some (i*ie.size,ie.size)) z parts k) h)
  ·exact c6
 ·rename_i z fields hz hu;simp only[hz,hu];split at h
  ·rename_i places hpl;simp only[hpl];have h1:=jf (k:=λplaces:List (Nat×Nat)=>vh qL z λz=>AR (places.toArray[·]?) z parts k) h;exact Ht (qK (λ_ _ h=>zR h) (k:=λz=>AR (places.toArray[·]?) z parts k) h1)
  ·exact c6
 ·exact c6
def JB(P:Program)(H:zl)(ρ:Operand->C)(t:TypeId)(x:Operand)(lo hi mx:Option Operand)(K:C->zl->Prop):Prop:=
 match P.underlying t with
 |some (.slice e)=>match P.info? e with
  |some i=>match ρ x with
   |.eS fo sz rows=>(rows=[]\/sz=i.size)/\match mx with
    |none=>match hi with
     |none=>nW ρ lo 0 λl=>l<=rows.length/\K (.eS (if fo == 1 then 1 else 0) sz (rows.drop l)) H
     |some hh=>nW ρ lo 0 λl=>nW ρ (some hh) rows.length λh=>l<=h/\h<=rows.length/\K (.eS 0 sz ((rows.drop l).take (h-l))) H
    |some m=>match hi with
     |some hh=>nW ρ lo 0 λl=>nW ρ (some hh) 0 λh=>nW ρ (some m) 0 λm'=>m'=h/\l<=h/\h<=rows.length/\K (.eS 1 sz ((rows.drop l).take (h-l))) H
     |none=>False
   |.sl id hops sz lo0 len full=>match mx with
    |none=>sz=i.size/\nW ρ lo 0 λl=>nW ρ hi len λh=>l<=h/\h<=len/\(l=0\/l<h)/\(full=false\/h=len)/\K (.sl id hops sz (lo0+l) (h-l) full) H
    |some _=>False
   |_=>False
  |none=>False
 |some .string=>match ρ x with
  |.v (.string s)=>match s with
   |⟨⟨b⟩⟩=>match mx with
    |none=>nW ρ lo 0 λl=>nW ρ hi b.length λh=>l<=h/\h<=b.length/\K (.v (.string ⟨⟨(b.take h).drop l⟩⟩)) H
    |some _=>False
  |_=>False
 |_=>False
def Jo(P:Program)(H:zl)(ρ:Operand->C)(t:TypeId)(x y:Operand)(K:C->zl->Prop):Prop:=
 match P.underlying t with
 |some (.slice e)=>match P.info? e with
  |some i=>match ρ y with
   |.v (.int _ n)=>match ρ x with
    |.eS o sz rows=>bK ((o == 0 || o == 1) && sz == i.size) <|0<=n/\∃r,rows[n.toNat]?=some r/\K (.jP r) H
    |.sl id hops sz lo len _=>bK (sz == i.size) <|0<=n/\n.toNat<len/\K (.ref id hops sz (lo+n.toNat) 0) H
    |_=>False
   |_=>False
  |none=>False
 |some (.array len e)=>match P.info? e with
  |some i=>match ρ y with
   |.v (.int _ n)=>match Bm (ρ x) (n.toNat*i.size) with
    |some c=>0<=n/\n<len/\qL c λc=>K c H
    |none=>False
   |_=>False
  |none=>False
 |_=>False
def Jp(P:Program)(H:zl)(ρ:Operand->C)(t:TypeId)(x y:Operand)(K:C->zl->Prop):Prop:=
 match ρ y with
 |.v (.int _ n)=>match P.underlying t with
  |some .string=>match ρ x with
   |.v (.string s)=>match s with
    |⟨⟨b⟩⟩=>0<=n/\∃c,b[n.toNat]?=some c/\K (.v (.int .u8 c.toNat)) H
   |_=>False
  |some (.array len e)=>match P.info? e with
   |some i=>match ρ x with
    |.agg cs=>0<=n/\n<len/\∃c,Ag P e cs (n.toNat*i.size)=some c/\okB c λc=>qL c λc=>K c H
    |_=>False
   |none=>False
  |_=>False
 |_=>False
def Jv(P:Program)(H:zl)(ρ:Operand->C)(t:TypeId)(x:Operand)(f:Nat)(K:C->zl->Prop):Prop:=
 match P.underlying t with
 |some (.struct fs)=>match fs[f]? with
  |some fd=>match ρ x with
   |.agg cs=>match Ag P fd.type cs fd.offset with
    |some c=>okB c λc=>qL c λc=>K c H
    |none=>False
   |_=>False
  |none=>False
 |_=>False
def Ju(P:Program)(H:zl)(ρ:Operand->C)(t:TypeId)(x:Operand)(f:Nat)(K:C->zl->Prop):Prop:=
 match P.underlying t with
 |some (.struct fs)=>match fs[f]? with
  |some fd=>match P.info? fd.type with
   |some i=>match Bm (ρ x) fd.offset with
    |some c=>bK (i.size != 0) <|qL c λc=>K c H
    |none=>False
   |none=>False
  |none=>False
 |_=>False
def FO(P:Program)(H:zl)(x:C)(sz':Nat)(rows':List (List C))(e:TypeId)(i:TypeInfo)(K:C->zl->Prop):Prop:=
 match rows' with
 |[]=>(xN H (fU x)).isSome=true/\K (fU x) H
 |r'::rs'=>bK (sz' == i.size) <|jq i.size λsz0=>jq H.length λm=>match x with
  |.eS 1 sz rows=>(rows=[]\/sz=sz0)/\rows.length+(rs'.length+1)<=maxLen/\(rows.length+(rs'.length+1))*i.bytes<=140737488355328/\
    xp (H++[⟨2,e,sz0,rows++r'::rs',0⟩]) λH'=>K (.sl m [] sz0 0 (rows.length+(rs'.length+1)) false) H'
  |.sl id [] sz 0 n false=>match H[id]? with
   |some ob=>bK (sz == sz0 && ob.kind == 2 && ob.ty == e && ob.sz == sz0) <|ob.rows.length=n/\ob.rows.all (·.all zB)=true/\n+(rs'.length+1)<=maxLen/\(n+(rs'.length+1))*i.bytes<=140737488355328/\
     xp (xV H id++[⟨2,e,sz0,ob.rows++r'::rs',ob.fz⟩]) λH'=>K (.sl m [] sz0 0 (n+(rs'.length+1)) false) H'
   |none=>False
  |_=>False
def Oi(H:zl)(sz:Nat)(rows:List (List C))(sz':Nat)(rows':List (List C))(e:TypeId)(i:TypeInfo)(K:C->zl->Prop):Prop:=
 jq i.size λsz0=>jq H.length λm=>(rows=[]\/sz=sz0)/\(rows'=[]\/sz'=sz0)/\rows.length+rows'.length<=maxLen/\(rows.length+rows'.length)*i.bytes<=140737488355328/\
  xp (H++[⟨4,e,sz0,rows++rows',0⟩]) λH'=>K (.gl m sz0 (rows++rows')) H'
def IX(P:Program)(H:zl)(ρ:Operand->C)(x y:Operand)(e:TypeId)(i:TypeInfo)(K:C->zl->Prop):Prop:=
 match xN H (fU (ρ y)) with
 |some (sz',rows')=>match ρ x with
  |.gl id sz rows=>match H[id]? with
   |some ob=>bK (sz == i.size) <|jq i.size λsz0=>ob=⟨4,e,sz,rows,0⟩/\(rows'=[]\/sz'=sz0)/\rows.length+rows'.length<=maxLen/\(rows.length+rows'.length)*i.bytes<=140737488355328/\
     AY H id ⟨4,e,sz0,rows++rows',0⟩ λH'=>K (.gl id sz0 (rows++rows')) H'
   |none=>False
  |.eS 1 sz rows=>Oi H sz rows sz' rows' e i K\/FO P H (.eS 1 sz rows) sz' rows' e i K
  |x=>FO P H x sz' rows' e i K
 |none=>False
def J6(H:zl)(op:BinOp)(a b:List UInt8)(K:C->zl->Prop):Prop:=
 match op with
 |.eql=>okB (.v (.bool (a == b))) λc=>K c H
 |.neq=>okB (.v (.bool (!(a == b)))) λc=>K c H
 |.add=>a.length+b.length<=9223372036854775807/\K (.v (.string ⟨⟨a++b⟩⟩)) H
 |_=>False
def Gs(P:Program)(H:zl)(ρ:Operand->C)(o:Oper)(cl:Call)(K:C->zl->Prop):Prop:=
 match cl.callee with
 |.value x=>match ρ x with
  |.fn f first caps=>bK (qi P f) <| ∃r H',zb P f H (first++(cl.args.toList.map λx=>fU (ρ x))++caps) r H'/\okB r λr=>K r H'
  |.v (.func g first caps)=>match g with
   |.yield l=>bK (first.isEmpty && caps.isEmpty) <| ∃r H',jC P l H (cl.args.toList.map ρ) r H'/\okB r λr=>K r H'
   |_=>False
  |_=>False
 |.invoke x name=>match ρ x with
  |.fR t c=>∃f,JR P t name f=true/\qi P f=true/\∃r H',zb P f H (c::(cl.args.toList.map ρ)) r H'/\okB r λr=>K r H'
  |_=>False
 |.builtin .len=>match cl.args.toList,cl.argTypes.toList with
  |[x],[t]=>match P.underlying t with
   |some (.slice _)=>match GD (fU (ρ x)) with
    |some n=>K (.v (.int .i64 n)) H
    |none=>False
   |some .string=>match ρ x with
    |.v (.string s)=>match s with
     |⟨⟨b⟩⟩=>K (.v (.int .i64 b.length)) H
    |_=>False
   |_=>match mq P (execOp (λx=>An (ρ x)) o) with
    |some (.value v)=>bK (o.op.operands.toList.all (λx=>ft (ρ x)) && v.oneCell') <|okB (.v v) λc=>K c H
    |_=>False
  |_,_=>False
 |.builtin .append=>match cl.args.toList,cl.argTypes.toList with
  |[x,y],[t,t']=>bK (t' == t) <|match P.underlying t with
   |some (.slice e)=>match P.info? e with
    |some i=>match i.zero with
     |some z=>bK (z.cells.size == i.size) <|IX P H ρ x y e i K
     |none=>False
    |none=>False
   |_=>False
  |_,_=>False
 |_=>match mq P (execOp (λx=>An (ρ x)) o) with
  |some (.value v)=>bK (o.op.operands.toList.all (λx=>ft (ρ x)) && v.oneCell') <|okB (.v v) λc=>K c H
  |_=>False
def Qp(P:Program)(H:zl)(o:Oper)(ρ:Operand->C)(op:BinOp)(t:TypeId)(xs ys:List C)(K:C->zl->Prop):Prop:=
 (!P.eqGuardType P.depth t && nO P 9 t)=true/\match nH P 9 t (.agg xs) (.agg ys) with
  |some b=>match op with
   |.eql=>okB (.v (.bool b)) λc=>K c H
   |.neq=>okB (.v (.bool (!b))) λc=>K c H
   |_=>False
  |none=>False
def Er(P:Program)(t:TypeId)(id:Nat)(hops:List fJ)(i k:Nat)(r:List C)(K:C->Prop):Prop:=
 match P.underlying t,P.info? t with
 |some d,some inf=>match CT d with
  |true=>k+inf.size<=r.length/\vh qL (vJ id hops i k ((r.drop k).take inf.size)) λcs=>K (.agg cs)
  |false=>k+1<=r.length/\match vJ id hops i k ((r.drop k).take 1) with
   |[x]=>okB x λx=>qL x K
   |_=>False
 |_,_=>False
def Eu(P:Program)(H:zl)(t:TypeId)(c:C)(K:C->Prop):Prop:=
 match c with
 |.ref id hops sz i k=>match H[id]? with
  |some ⟨kind,ty,osz,orows,fz⟩=>match kind with
   |2=>match hops with
    |[]=>bK (osz == sz) <| ∃r,orows[i]?=some r/\Er P t id [] i k r K
    |h::hs=>∃rows r,z7 H id (h::hs)=some (sz,rows)/\rows[i]?=some r/\Er P t id (h::hs) i k r K
   |1=>match ty with
    |0=>bK (osz == sz && hops.isEmpty) <| ∃r,orows[i]?=some r/\Er P t id [] i k r K
    |_=>match wX P H t (.ref id hops sz i k) with
     |some c=>okB c λc=>qL c K
     |none=>False
   |_=>match wX P H t (.ref id hops sz i k) with
    |some c=>okB c λc=>qL c K
    |none=>False
  |none=>False
 |c=>match wX P H t c with
  |some c=>okB c λc=>qL c K
  |none=>False
def HJ{P:Program}{H:zl}{t:TypeId}{id:Nat}{hops:List fJ}{sz i k:Nat}{rows:List (List C)}{r:List C}{K:C->Prop}(hg:z7 H id hops=some (sz,rows))(hr:rows[i]?=some r)(h:Er P t id hops i k r K):
  ∃c,wX P H t (.ref id hops sz i k)=some c/\K c:=by
 unfold Er at h;split at h
 ·rename_i d inf hd hi;have hrd:∀n,k+n<=r.length->oP H (.ref id hops sz i k) n=some (vJ id hops i k ((r.drop k).take n)):=λn hn=>by simp[oP,hg,hr,hn]
  split at h
  ·rename_i hag;obtain⟨h1,h2⟩:=h;refine⟨_,?_,qK (λ_ _ h=>zR h) (k:=λcs=>K (.agg cs)) h2⟩;unfold wX;rw[hd,hi];simp only[hag,if_true];rw[hrd _ h1]
   rfl
  ·rename_i hag;obtain⟨h1,h2⟩:=h;split at h2
   ·rename_i x hx;refine⟨x,?_,zR (jm (k:=λx=>qL x K) h2)⟩;unfold wX;rw[hd,hi];simp only[hag];rw[hrd _ h1,hx]
    rfl
   ·exact h2.elim
 ·exact c6
def Fe{P:Program}{H:zl}{t:TypeId}{c:C}{K:C->Prop}(h:Eu P H t c K):∃c',wX P H t c=some c'/\K c':=by
 unfold Eu at h;split at h
 ·split at h
  ·rename_i id hops sz i k kind ty osz orows fz hob;split at h
   ·split at h
    ·obtain⟨h1,r,h2,h3⟩:=zV h;simp only[pq]at h1;exact HJ (by unfold z7;rw[hob];simp[qS,h1]) h2 h3
    ·obtain⟨rows,r,h1,h2,h3⟩:=h;exact HJ h1 h2 h3
   ·split at h
    ·obtain⟨h1,r,h2,h3⟩:=zV h;simp only[gC,pq,eK]at h1;obtain⟨h1,rfl⟩:=h1;exact HJ (by unfold z7;rw[hob];simp[qS,h1]) h2 h3
    ·split at h
     ·rename_i c hc;exact⟨c,hc,zR (jm (k:=λc=>qL c K) h)⟩
     ·exact c6
   ·split at h
    ·rename_i c hc;exact⟨c,hc,zR (jm (k:=λc=>qL c K) h)⟩
    ·exact c6
  ·exact c6
 ·split at h
  ·rename_i c hc;exact⟨c,hc,zR (jm (k:=λc=>qL c K) h)⟩
  ·exact c6
def ko(r:List C)(k:Nat)(cs:List C)(K:List C->Prop):Prop:=bK (Nat.ble (k+cs.length) r.length) <|xp (ym k cs r) K
def HV{r:List C}{k:Nat}{cs:List C}{K:List C->Prop}(h:ko r k cs K):k+cs.length<=r.length/\K (ym k cs r):=
 ⟨g9 (zV h).1,jf (zV h).2⟩
def Ge(P:Program)(H:zl)(t:TypeId)(a x:C)(K:zl->Prop):Prop:=
 match a with
 |.ref id hops sz i k=>match H[id]? with
  |some ⟨kind,ty,osz,orows,fz⟩=>match kind with
   |2=>match P.info? t with
    |some inf=>bK (mF x && (x.cells.length == inf.size) && x.cells.all xm) <|vh qL x.cells λcs=>match hops with
     |[]=>bK (osz == sz && fz == 0) <| ∃r,orows[i]?=some r/\((r.drop k).take cs.length).all zB=true/\ko r k cs λr'=>AY H id ⟨2,ty,osz,orows.set i r',0⟩ K
     |h::hs=>bK (fz == 0) <| ∃rows r,z7 H id (h::hs)=some (sz,rows)/\rows[i]?=some r/\((r.drop k).take cs.length).all zB=true/\ko r k cs λr'=>AY H id ⟨2,ty,osz,jj orows (h::hs) (λrows=>rows.set i r'),0⟩ K
    |none=>False
   |1=>match ty with
    |0=>match P.info? t with
     |some inf=>bK (mF x && (x.cells.length == inf.size)) <|vh qL x.cells λcs=>bK (osz == sz && fz == 0 && hops.isEmpty) <| ∃r,orows[i]?=some r/\((r.drop k).take cs.length).all zB=true/\ko r k cs λr'=>AY H id ⟨1,0,osz,orows.set i r',0⟩ K
     |none=>False
    |_=>match hops,orows,i with
     |[],[r],0=>match P.info? t with
      |some inf=>bK (osz == sz && fz == 0 && mF x && (x.cells.length == inf.size) && ((r.drop k).take x.cells.length).all zB) <|vh qL x.cells λcs=>ko r k cs λr'=>AY H id ⟨1,ty,osz,[r'],0⟩ K
      |none=>False
     |hops,_,i=>match vH P H t (.ref id hops sz i k) x with
      |some H'=>AI H' K
      |none=>False
   |_=>match vH P H t (.ref id hops sz i k) x with
    |some H'=>AI H' K
    |none=>False
  |none=>False
 |a=>match vH P H t a x with
  |some H'=>AI H' K
  |none=>False
def va{α:Type}{l:List α}{i:Nat}{r:α}(f:α->α)(h:l[i]?=some r):l.modify i f=l.set i (f r):=by
 apply pI
 intro j;rw[pS,gG];split
 ·rename_i e;subst e;rw[gk (dY.1 h).1,h]
  rfl
 ·simp
def Mo{f g:List (List C)->List (List C)}:∀(hops:List fJ) (sz:Nat) (rows:List (List C)) {sz':Nat} {rows':List (List C)},vY sz rows hops=some (sz',rows')->f rows'=g rows'->jj rows hops f=jj rows hops g
 |[],sz,rows,sz',rows',h,he=>by
  rw[qS]at h;cases h
  exact he
 |(i,k)::hs,sz,rows,sz',rows',h,he=>by
  rw[xH]at h;rw[Fi,Fi];split at h
  ·rename_i sz2 rows2 hc
   try rw[hc]
   simp only[Mo hs sz2 rows2 h he]
  ·cases h
def LK{P:Program}{H:zl}{t:TypeId}{a x:C}{K:zl->Prop}(h:Ge P H t a x K):∃H',vH P H t a x=some H'/\K H':=by
 unfold Ge at h;cases a with
 |ref id hops sz i k=>
  dsimp only at h;split at h
  ·rename_i kind ty osz orows fz hob;split at h
   ·split at h
    ·rename_i inf hinf;obtain⟨hv,h⟩:=zV h;have h:=qK (λ_ _ h=>zR h) h;simp only[gC,pq]at hv
     have go:∀hops rows r,z7 H id hops=some (sz,rows)->rows[i]?=some r->fz=0->((r.drop k).take x.cells.length).all zB=true->(ko r k x.cells λr'=>AY H id ⟨2,ty,osz,jj orows hops (λrows=>rows.set i r'),0⟩ K)->
       ∃H',vH P H t (.ref id hops sz i k) x=some H'/\K H':=λhops rows r h1 h2 h0 h3 h4=>by
      obtain⟨h5,h6⟩:=HV h4;have h6:=wI h6;refine⟨_,?_,h6⟩;unfold vH;rw[hinf];dsimp only;rw[h1,hob];dsimp only;rw[h2];dsimp only;rw[gk]
      ·congr 1
       unfold mX;rw[va _ hob]
       congr 1
       dsimp only;subst h0
       congr 1
       obtain⟨ob2,e1,_,e3⟩:=ji h1;rw[hob]at e1;cases e1
       exact Mo hops _ _ e3 (by unfold wu;rw[va _ h2])
      ·simp only[gC,pq,p8,gM];exact⟨⟨⟨⟨⟨⟨⟨trivial,hv.1.1⟩,hv.1.2⟩,h5⟩,h3⟩,.inr hv.2⟩,.inr aw⟩,.inr h0⟩
     split at h
     ·obtain⟨h1,r,h2,h3,h4⟩:=zV h;simp only[gC,pq]at h1;exact go [] orows r (by unfold z7;rw[hob];simp[qS,h1.1]) h2 h1.2 h3 h4
     ·obtain⟨h1,rows,r,h2,h3,h4,h5⟩:=zV h;simp only[pq]at h1;exact go _ rows r h2 h3 h1 h4 h5
    ·exact c6
   ·split at h
    ·split at h
     ·rename_i inf hinf;obtain⟨hv,h⟩:=zV h;have h:=qK (λ_ _ h=>zR h) h;obtain⟨h1,r,h2,h3,h4⟩:=zV h;obtain⟨h5,h6⟩:=HV h4;have h6:=wI h6;simp only[gC,pq,eK]at hv h1;obtain⟨⟨rfl,rfl⟩,rfl⟩:=h1;refine⟨_,?_,h6⟩;have hg:z7 H id []=some (osz,orows):=by unfold z7;rw[hob];simp[qS]
      unfold vH;rw[hinf];dsimp only;rw[hg,hob];dsimp only;rw[h2];dsimp only;rw[gk]
      ·congr 1
       unfold mX;rw[va _ hob]
       congr 1
       dsimp only;rw[Fx];unfold wu;rw[va _ h2]
      ·simp only[gC,pq,p8,gM];exact⟨⟨⟨⟨⟨⟨⟨trivial,hv.1⟩,hv.2⟩,h5⟩,h3⟩,.inl trivial⟩,.inr aw⟩,.inr trivial⟩
     ·exact c6
    ·split at h
     ·rename_i r;split at h
      ·rename_i inf hinf;obtain⟨hv,h⟩:=zV h;have h:=qK (λ_ _ h=>zR h) h;obtain⟨h5,h6⟩:=HV h;have h6:=wI h6;simp only[gC,pq]at hv;refine⟨_,?_,h6⟩;have h1:z7 H id []=some (osz,[r]):=by unfold z7;rw[hob];simp[qS]
       unfold vH;rw[hinf];dsimp only;rw[h1,hob];dsimp only;rw[show [r][0]?=some r from O];dsimp only;rw[gk]
       ·congr 1
        unfold mX;rw[va _ hob]
        congr 1
        dsimp only;obtain⟨⟨⟨⟨_,rfl⟩,_⟩,_⟩,_⟩:=hv;rw[Fx];unfold wu
        rfl
       ·simp only[gC,pq,p8,gM];obtain⟨⟨⟨⟨e1,e2⟩,e3⟩,e4⟩,e5⟩:=hv;exact⟨⟨⟨⟨⟨⟨⟨e1,e3⟩,e4⟩,h5⟩,e5⟩,.inl trivial⟩,.inr aw⟩,.inr e2⟩
      ·exact c6
     ·split at h
      ·rename_i H' hc;exact⟨H',hc,vm h⟩
      ·exact c6
   ·split at h
    ·rename_i H' hc;exact⟨H',hc,vm h⟩
    ·exact c6
  ·exact c6
 |_=>
  dsimp only at h;split at h
  ·rename_i H' hc;exact⟨H',hc,vm h⟩
  ·exact c6
def zwu(H:zl)(a y:C):Bool:=
 match a with
 |.ref id _ _ _ _=>match H[id]? with
  |some ob=>match ob.kind with
   |2=>true
   |1=>match ob.ty with
    |0=>match y with
     |.gl ..=>false
     |_=>true
    |_=>false
   |_=>false
  |none=>false
 |_=>false
def JU(P:Program)(H:zl)(ρ:Operand->C)(o:Oper)(src dst:TypeId)(x:Operand)(K:C->zl->Prop):Prop:=
 match Ab.fU (ρ x) with
 |.eS _ sz rows=>match P.underlying src,P.underlying dst with
  |some (.slice e),some .string=>match P.underlying e with
   |some (.int .u8)=>bK (sz == 1) <| ∃bts:List UInt8,rows=bts.map B8/\K (.v (.string ⟨⟨bts⟩⟩)) H
   |_=>False
  |_,_=>False
 |_=>match mq P (execOp (λx=>An (ρ x)) o) with
  |some (.value v)=>bK (xK o && o.op.operands.toList.all (λx=>ft (ρ x)) && v.oneCell') <|okB (.v v) λc=>K c H
  |_=>False
def JQ(P:Program)(H:zl)(ρ:Operand->C)(t:TypeId)(x y:Operand)(K:C->zl->Prop):Prop:=
 match ρ x,ρ y with
 |.v (.int _ n),.v (.int _ n')=>match P.underlying t with
  |some (.slice e)=>match P.info? e with
   |some i=>match nV P e with
    |some cs=>bK (cs.all xm) <|n'=n/\0<=n/\(i.bytes:Int)*n<=281474976710656/\n<=9223372036854775807/\
      jq i.size λsz=>jq H.length λm=>xp (H++[⟨2,e,sz,List.replicate n.toNat cs,0⟩]) λH'=>K (.sl m [] sz 0 n.toNat false) H'
    |none=>False
   |none=>False
  |_=>False
 |_,_=>False
def JO(o:Oper):Option (BinOp×TypeId×Operand):=
 match o.op with
 |.binOp op t x y _=>match y with
  |.const v=>match v with
   |.slice none 0 0=>some (op,t,x)
   |_=>none
  |_=>none
 |_=>none
def Kj(P:Program)(H:zl)(op:BinOp)(t:TypeId)(x:C)(K:C->zl->Prop):Prop:=
 match P.underlying t with
 |some (.slice _)=>match x with
  |.eS _ _ rows=>match rows with
   |[]=>match op with
    |.eql=>K (.v (.bool true)) H/\K (.v (.bool false)) H
    |.neq=>K (.v (.bool true)) H/\K (.v (.bool false)) H
    |_=>False
   |r::rs=>match op with
    |.eql=>r::rs≠[]/\K (.v (.bool false)) H
    |.neq=>r::rs≠[]/\K (.v (.bool true)) H
    |_=>False
  |.sl ..=>match op with
   |.eql=>K (.v (.bool false)) H
   |.neq=>K (.v (.bool true)) H
   |_=>False
  |_=>False
 |_=>False
def J1(o:Oper):Option (BinOp×TypeId×Operand):=
 match o.op with
 |.binOp op t x y _=>match y with
  |.const v=>match v with
   |.pointer p=>match p with
    |none=>some (op,t,x)
    |some _=>none
   |_=>none
  |_=>none
 |_=>none
def Jr(x:C):Option Bool:=
 match x with
 |.ref ..=>some false
 |.jP _=>some false
 |.v y=>match y with
  |.pointer p=>match p with
   |none=>some true
   |some _=>some false
  |_=>none
 |_=>none
def GK(P:Program)(t:TypeId):Bool:=
 match P.underlying t with
 |some (.pointer e)=>e == P.pointee t
 |_=>false
def J8(P:Program)(H:zl)(op:BinOp)(t:TypeId)(x:C)(K:C->zl->Prop):Prop:=
 match Jr x with
 |some b=>match op with
  |.eql=>bK (GK P t) <|K (.v (.bool b)) H
  |.neq=>bK (GK P t) <|K (.v (.bool (!b))) H
  |_=>False
 |none=>False
def nS(P:Program)(H:zl)(ρ:Operand->C)(o:Oper)(K:C->zl->Prop):Prop:=
 match o.op with
 |.move x=>qL (ρ x) λc=>K c H
 |.assign x=>qL (ρ x) λc=>K c H
 |.pick x y z=>match ρ x with
  |.v (.bool b)=>qL (if b then ρ y else ρ z) λc=>K c H
  |_=>False
 |.alloc t=>match nV P t with
  |some cs=>xp cs λcs=>jq cs.length λn=>jq H.length λm=>xp (H++[⟨1,t,n,[cs],0⟩]) λH'=>K (.ref m [] n 0 0) H'
  |none=>False
 |.box t x=>bK (mF (ρ x)) <|vh qL (ρ x).cells λcs=>jq cs.length λn=>jq H.length λm=>xp (H++[⟨1,t,n,[cs],0⟩]) λH'=>K (.ref m [] n 0 0) H'
 |.fieldAddr t x f=>Ju P H ρ t x f K
 |.indexAddr t x y=>Jo P H (λx=>fU (ρ x)) t x y K
 |.index t x y=>Jp P H ρ t x y K
 |.field t x f=>Jv P H ρ t x f K
 |.load t x=>Eu P H t (ρ x) λc=>K c H
 |.store t x y=>match zwu H (ρ x) (ρ y) with
  |true=>Ge P H t (ρ x) (w6 (ρ y)) λH'=>K .un H'
  |false=>Ge P H t (ρ x) (ρ y) λH'=>K .un H'
 |.extract x n=>match ρ x with
  |.fb vs=>match vs[n]? with
   |some c=>okB c λc=>qL c λc=>K c H
   |none=>False
  |_=>False
 |.nilCheck x=>bK (IF (ρ x)) <|qL (ρ x) λc=>K c H
 |.makeFunc f first caps=>match f with
  |.func f=>vh qL (first.toList.map ρ) λa=>vh qL (caps.toList.map ρ) λb=>K (.fn f a b) H
  |_=>False
 |.build t parts=>Ji P t (parts.toList.map λp=>(p.1,ρ p.2)) λcs=>K (.agg cs) H
 |.makeInterface t x=>match P.underlying t with
  |some d=>bK (vF d) <|qL (ρ x) λc=>K (.fR t c) H
  |none=>False
 |.typeAssert x _ t ok=>bK ok <|match ρ x with
  |.fR t' c=>match P.underlying t with
   |some d=>match t' == t with
    |true=>bK (vF d) <|K (.fb [c,.v (.bool true)]) H
    |false=>match P.info? t with
     |some i=>bK (vF d && i.zero.isSome) <|K (.fb [.za,.v (.bool false)]) H
     |none=>False
   |none=>False
  |_=>False
 |.buildSlice t len parts=>match Kg P t len (parts.toList.map λp=>(p.1,w6 (ρ p.2))) with
  |some c=>match c with
   |.eS o sz rows=>vh (vh qL) rows λrows=>jq sz λsz=>K (.eS o sz rows) H
   |_=>False
  |none=>False
 |.slice t x lo hi mx=>JB P H (λx=>fU (ρ x)) t x lo hi mx K
 |.makeSlice t x y=>JQ P H ρ t x y K
 |.lookup ..=>∃c H',fg P o ρ H c H'/\K c H'
 |.mapUpdate ..=>∃c H',fg P o ρ H c H'/\K c H'
 |.mapEntry ..=>∃c H',fg P o ρ H c H'/\K c H'
 |.entryStore ..=>∃c H',fg P o ρ H c H'/\K c H'
 |.call cl=>Gs P H ρ o cl K
 |.binOp op t x y _=>match ρ x,ρ y with
  |.agg xs,.agg ys=>Qp P H o ρ op t xs ys K
  |.v (.string s),.v (.string s')=>match s,s' with
   |⟨⟨a⟩⟩,⟨⟨b⟩⟩=>J6 H op a b K
  |_,_=>match mq P (execOp (λx=>An (ρ x)) o) with
   |some (.value v)=>bK (xK o && o.op.operands.toList.all (λx=>ft (ρ x)) && v.oneCell') <|okB (.v v) λc=>K c H
   |_=>False
 |.convert src dst x=>JU P H ρ o src dst x K
 |.unOp _ _ _=>match mq P (execOp (λx=>An (ρ x)) o) with
  |some (.value v)=>bK (xK o && o.op.operands.toList.all (λx=>ft (ρ x)) && v.oneCell') <|Kf (.v v) λc=>K c H
  |_=>False
 |_=>match mq P (execOp (λx=>An (ρ x)) o) with
  |some (.value v)=>bK (xK o && o.op.operands.toList.all (λx=>ft (ρ x)) && v.oneCell') <|okB (.v v) λc=>K c H
  |_=>False
section
variable {P:Program} {o:Oper} {ρ:Operand->C} {H:zl} {K:C->zl->Prop}
def fg.n8{c c':C}{H':zl}(h:fg P o ρ H c H')(hw:WC c c'):fg P o ρ H c' H':=λw E σ hh hl K hk=>h w E σ hh hl K λv w' E' h1 h2 g=>hk v w' E' h1 (hw E' v h2) g
def fg.JL(cl:Call)(ho:o.op=.call cl)(x:Operand)(hcl:cl.callee=.value x){f:FuncId}{first caps:List C}(hf:ρ x=.fn f first caps)(hcb:qi P f=true){r:C}{H':zl}
 (hs:zb P f H (first++(cl.args.toList.map λx=>Ab.fU (ρ x))++caps) r H'):fg P o ρ H r H':=.fU <|.call cl ho x hcl (by rw[hf];rfl) hcb hs
def fg.zxY(t:TypeId)(x y:Operand)(ho:o.op=.store t x y){H':zl}(hs:vH P H t (ρ x) (w6 (ρ y))=some H'):fg P o ρ H .un H':=by
 classical
 have hρ:∀z,∃c,(c=ρ z\/c=w6 (ρ z))/\(z=y->c=w6 (ρ z))/\(z≠y->c=ρ z):=λz=>by
  by_cases e:z=y
  ·exact⟨w6 (ρ z),.inr O,λ_=>O,λh=>absurd e h⟩
  ·exact⟨ρ z,.inl O,λh=>absurd h e,λ_=>O⟩
 obtain⟨ρ',hρ'⟩:∃ρ':Operand->C,∀z,(ρ' z=ρ z\/ρ' z=w6 (ρ z))/\(z=y->ρ' z=w6 (ρ z))/\(z≠y->ρ' z=ρ z):=⟨λz=>(hρ z).choose,λz=>(hρ z).choose_spec⟩
 have hx:ρ' x=ρ x:=by
  rcases(hρ' x).1 with e|e
  ·exact e
  ·rw[e];unfold vH at hs;split at hs
   ·rename_i e2 _;rw[e2];rfl
   ·cases hs
 have h0:qJ P o ρ' H .un H':=qJ.store t x y ho (by rw[hx,(hρ' y).2.1 O];exact hs);refine .Ct (h0.weaken λz E v hl=>?_) (LJ hs);rcases(hρ' z).1 with e|e
 ·rw[e];exact hl
 ·rw[e];exact IC hl
def kQ(h:match mq P (execOp (λx=>An (ρ x)) o) with
  |some (.value v)=>bK (xK o && o.op.operands.toList.all (λx=>ft (ρ x)) && v.oneCell') <|okB (.v v) λc=>K c H
  |_=>False):∃c,(∀H2,fg P o ρ H2 c H2)/\K c H:=by
 split at h
 ·rename_i v e;obtain⟨h1,h2⟩:=zV h;simp only[gC,sI]at h1;exact⟨.v v,λH2=>.same <|.scalar h1.1.1 h1.1.2 e h1.2,jm (k:=λc=>K c H) h2⟩
 ·exact c6
def LH{t:TypeId}{x:Operand}{lo hi mx:Option Operand}(ho:o.op=.slice t x lo hi mx)(h:JB P H ρ t x lo hi mx K):∃c,(∀H2,fg P o ρ H2 c H2)/\K c H:=by
 unfold JB at h;split at h
 rotate_left
 ·rename_i hu;split at h
  ·rename_i s hx;obtain⟨⟨b⟩⟩:=s;dsimp only at h;split at h
   ·obtain⟨l,h1,h⟩:=yn h;obtain⟨h',h2,h3,h4,h5⟩:=yn h;exact⟨_,λH2=>.same <|.Yq t x lo hi ho hu hx h1 h2 h3 h4,h5⟩
   ·exact c6
  ·exact c6
 ·exact c6
 rename_i e hu;split at h
 rotate_left
 ·exact c6
 rename_i i hi';split at h
 ·rename_i fo sz rows hx;obtain⟨hsz,h⟩:=h;split at h
  ·split at h
   ·obtain⟨l,h1,h3,h5⟩:=yn h;have:=λH2=>fg.same <|qJ.NI (H:=H2) t x lo none ho hu hi' hx hsz h1 (rfl:mw ρ none rows.length rows.length) h3 (gD _)
    refine⟨_,this,?_⟩;rw[sf aj];by_cases hfo:fo=1
    ·simpa [hfo] using h5
    ·simpa [hfo] using h5
   ·rename_i hh;obtain⟨l,h1,h⟩:=yn h;obtain⟨h',h2,h3,h4,h5⟩:=yn h;exact⟨_,λH2=>.n8 (.same <|.NI t x lo (some hh) ho hu hi' hx hsz h1 h2 h3 h4) (.share _ _ _),h5⟩
  ·split at h
   ·obtain⟨l,h1,h⟩:=yn h;obtain⟨h',h2,h⟩:=yn h;obtain⟨m,h3,rfl,h4,h5,h6⟩:=yn h;exact⟨_,λH2=>.same <|.Xt t x lo _ _ ho hu hi' hx hsz h1 h2 h3 h4 h5,h6⟩
   ·exact c6
 ·rename_i id hops sz lo0 len full hx;split at h
  ·obtain⟨hsz,h⟩:=h;obtain⟨l,h1,h⟩:=yn h;obtain⟨h',h2,h3,h4,h5,h6,h7⟩:=yn h;exact⟨_,λH2=>.same <|.zwt t x lo hi ho hu hi' hx hsz h1 h2 h3 h4 h5 h6,h7⟩
  ·exact c6
 ·exact c6
def Lf{t:TypeId}{x y:Operand}(ho:o.op=.indexAddr t x y)(h:Jo P H ρ t x y K):∃c,(∀H2,fg P o ρ H2 c H2)/\K c H:=by
 unfold Jo at h;split at h
 rotate_left
 ·rename_i len e hu;split at h
  ·rename_i i hi;split at h
   ·rename_i k n hy;split at h
    ·rename_i c hx;exact⟨c,λH2=>.same <|.XO t x y ho hu hi hy h.1 h.2.1 hx,zR (k:=λc=>K c H) h.2.2⟩
    ·exact c6
   ·exact c6
  ·exact c6
 ·exact c6
 rename_i e hu;split at h
 rotate_left
 ·exact c6
 rename_i i hi;split at h
 rotate_left
 ·exact c6
 rename_i k n hy;split at h
 ·rename_i fo sz rows hx;obtain⟨h1,h3,r,h4,h5⟩:=zV h;refine⟨_,λH2=>.same <|.indexAddr t x y ho hu hi hy h3 (c:=.jP r) ?_,h5⟩;rw[hx];simp only[Bz];rw[gk h1,h4]
  rfl
 ·rename_i id hops sz lo len full hx;obtain⟨h2,h3,h4,h5⟩:=zV h;simp only[pq]at h2;refine⟨_,λH2=>.same <|.indexAddr t x y ho hu hi hy h3 (c:=.ref id hops sz (lo+n.toNat) 0) ?_,h5⟩;rw[hx];simp only[Bz];rw[gk (by simp[h4,h2])]
 ·exact c6
def Lg{t:TypeId}{x y:Operand}(ho:o.op=.index t x y)(h:Jp P H ρ t x y K):∃c,(∀H2,fg P o ρ H2 c H2)/\K c H:=by
 unfold Jp at h;split at h
 ·rename_i k n hy;split at h
  ·rename_i hu;split at h
   ·rename_i s hx;obtain⟨⟨b⟩⟩:=s;obtain⟨h1,c,h2,h3⟩:=h;exact⟨_,λH2=>.same <|.Yp t x y ho hu hx hy h1 h2,h3⟩
   ·exact c6
  ·rename_i len e hu;split at h
   ·rename_i i hi;split at h
    ·rename_i cs hx;obtain⟨h1,h2,c,h3,h4⟩:=h;exact⟨c,λH2=>.same <|.Ui t x y ho hu hi hx hy h1 h2 h3,zR (k:=λc=>K c H) (jm (k:=λc=>qL c λc=>K c H) h4)⟩
    ·exact c6
   ·exact c6
  ·exact c6
 ·exact c6
def Lu{t:TypeId}{x:Operand}{f:Nat}(ho:o.op=.field t x f)(h:Jv P H ρ t x f K):∃c,(∀H2,fg P o ρ H2 c H2)/\K c H:=by
 unfold Jv at h;split at h
 ·rename_i fs hu;split at h
  ·rename_i fd hf;split at h
   ·rename_i cs hx;split at h
    ·rename_i c hc;exact⟨c,λH2=>.same <|.field t x f ho hu hf hx hc,zR (k:=λc=>K c H) (jm (k:=λc=>qL c λc=>K c H) h)⟩
    ·exact c6
   ·exact c6
  ·exact c6
 ·exact c6
def Ms{t t':TypeId}{op:BinOp}{x y:Operand}{a b:List UInt8}(ho:o.op=.binOp op t x y t')(hx:ρ x=.v (.string (bs a)))(hy:ρ y=.v (.string (bs b)))(h:J6 H op a b K):∃c,(∀H2,fg P o ρ H2 c H2)/\K c H:=by
 unfold J6 at h;split at h
 ·exact⟨_,λH2=>.same <|.PO .eql t t' x y ho (.inl O) hx hy,jm (k:=λc=>K c H) h⟩
 ·exact⟨_,λH2=>.same <|.PO .neq t t' x y ho (.inr O) hx hy,jm (k:=λc=>K c H) h⟩
 ·exact⟨_,λH2=>.same <|.zxZ t t' x y ho hx hy h.1,h.2⟩
 ·exact c6
def Lt{t:TypeId}{x:Operand}{f:Nat}(ho:o.op=.fieldAddr t x f)(h:Ju P H ρ t x f K):∃c,(∀H2,fg P o ρ H2 c H2)/\K c H:=by
 unfold Ju at h;split at h
 rotate_left
 ·exact c6
 rename_i fs hu;split at h
 rotate_left
 ·exact c6
 rename_i fd hf;split at h
 rotate_left
 ·exact c6
 rename_i i hi;split at h
 rotate_left
 ·exact c6
 rename_i c hc;obtain⟨h1,h2⟩:=zV h;exact⟨c,λH2=>.same <|.fieldAddr t x f ho hu hf hi tD hc,zR (k:=λc=>K c H) h2⟩
def KR{cl:Call}(ho:o.op=.call cl){x y:Operand}{e:TypeId}{i:TypeInfo}{z:Value}(ht:AS P cl x y e i z){sz':Nat}{rows':List (List C)}(hy:xN H (fU (ρ y))=some (sz',rows'))
 (h:FO P H (ρ x) sz' rows' e i K):∃c H',fg P o ρ H c H'/\K c H':=by
 unfold FO at h;split at h
 ·obtain⟨h1,h2⟩:=h;obtain⟨⟨sz,rows⟩,hx⟩:=Option.isSome_iff_exists.1 h1;exact⟨_,H,.fU (ρ:=ρ) (.same <|.Tz cl ho x y ht hx hy),h2⟩
 ·rename_i r' rs'
  replace h:=zV h
  obtain⟨hz,h⟩:=h;have hz:=eq_of_beq hz;subst hz;have h:=qq h;have h:=qq h;split at h
  ·rename_i sz rows hx;obtain⟨h1,h2,h3,h4⟩:=h;exact⟨_,_,.fU (ρ:=ρ) (.Gp (.Ty cl ho x y ht (by rw[hx];rfl) h1 hy aj tR (aq h3)) _ (λe=>by cases e) rfl),by simpa using jf h4⟩
  ·rename_i id sz n hx;split at h
   ·rename_i ob hob
    replace h:=zV h
    obtain⟨hb,h4,h5,h6,h7,h8⟩:=h;simp only[gC,pq]at hb;obtain⟨⟨⟨rfl,h1⟩,h2⟩,h3⟩:=hb;exact⟨_,_,.fU (ρ:=ρ) (.Ct (.VJ cl ho x y ht (by rw[hx];rfl) hob h1 h2 h3 h4 h5 hy aj (aq h6) (aq h7)) (jI.trans (jI.xV H id λob' h'=>by rw[hob]at h';cases h';rw[h1];decide) (jI.push _ _ (λe=>by cases e)))),by simpa using jf h8⟩
   ·exact c6
  ·exact c6
def Sc{cl:Call}(ho:o.op=.call cl){x y:Operand}{e:TypeId}{i:TypeInfo}{z:Value}(ht:AS P cl x y e i z)(h:IX P H ρ x y e i K):∃c H',fg P o ρ H c H'/\K c H':=by
 unfold IX at h;split at h
 rotate_left
 ·exact c6
 rename_i sz' rows' hy;split at h
 ·rename_i id sz rows hx;split at h
  ·rename_i ob hob
   replace h:=zV h
   obtain⟨hz,h⟩:=h;have hz:=eq_of_beq hz;subst hz;have h:=qq h;obtain⟨h1,h2,h3,h4,h5⟩:=h;exact⟨_,_,.Ny cl ho x y ht hx hob h1 hy h2 h3 h4,wI h5⟩
  ·exact c6
 ·rename_i sz rows hx;rcases h with h|h
  ·unfold Oi at h;have h:=qq h;have h:=qq h;obtain⟨h1,h2,h3,h4,h5⟩:=h;exact⟨_,_,.Sb cl ho x y ht hx h1 hy h2 h3 h4,jf h5⟩
  ·exact KR ho ht hy (hx ▸ h)
 ·exact KR ho ht hy h
def Array.yo{α:Type}{a:Array α}{l:List α}(h:a.toList=l):a=l.toArray:=by subst h;simp
def TG{cl:Call}(ho:o.op=.call cl)(h:Gs P H ρ o cl K):∃c H',fg P o ρ H c H'/\K c H':=by
 have hns:xK o=true:=by simp[xK,ho]
 have scal:∀(h:match mq P (execOp (λx=>An (ρ x)) o) with
   |some (.value v)=>bK (o.op.operands.toList.all (λx=>ft (ρ x)) && v.oneCell') <|okB (.v v) λc=>K c H
   |_=>False),∃c H',fg P o ρ H c H'/\K c H':=by
  intro h;split at h
  ·rename_i v e;obtain⟨h1,h2⟩:=zV h;simp only[gC,sI]at h1;exact⟨.v v,H,.same <|.scalar hns h1.1 e h1.2,jm (k:=λc=>K c H) h2⟩
  ·exact c6
 unfold Gs at h;split at h
 ·rename_i x hcl;split at h
  ·rename_i f first caps hf;obtain⟨h1,r,H',h2,h3⟩:=zV h;exact⟨r,H',.JL cl ho x hcl hf h1 h2,jm (k:=λc=>K c H') h3⟩
  ·rename_i g first caps hf;split at h
   ·rename_i l;obtain⟨h1,r,H',h2,h3⟩:=zV h;simp only[gC,Array.isEmpty_iff]at h1;obtain⟨rfl,rfl⟩:=h1;exact⟨r,H',.yield cl ho x hcl hf h2,jm (k:=λc=>K c H') h3⟩
   ·exact c6
  ·exact c6
 ·rename_i x name hcl;split at h
  ·rename_i t c hx;obtain⟨f,hm,hcb,r,H',h2,h3⟩:=h;exact⟨r,H',.invoke cl ho x name hcl hx hm hcb h2,jm (k:=λc=>K c H') h3⟩
  ·exact c6
 ·rename_i hcl;split at h
  ·rename_i x t hx ht;split at h
   ·rename_i e hu;split at h
    ·rename_i n hn;exact⟨_,H,.fU (ρ:=ρ) <|.same <|.len cl ho hcl x (Array.yo hx) (Array.yo ht) hu hn,h⟩
    ·exact c6
   ·rename_i hu;split at h
    ·rename_i s hs;obtain⟨⟨b⟩⟩:=s;exact⟨_,H,.same <|.Pf cl ho hcl x (Array.yo hx) (Array.yo ht) hu hs,h⟩
    ·exact c6
   ·exact scal h
  ·exact c6
 ·rename_i hcl;split at h
  ·rename_i x y t t' hx ht;obtain⟨ht',h⟩:=zV h;simp only[pq]at ht';subst ht';split at h
   ·rename_i e hu;split at h
    ·rename_i i hi;split at h
     ·rename_i z hz;exact Sc ho ⟨hcl,Array.yo hx,⟨_,Array.yo ht,hu⟩,hi,hz,by simpa using (zV h).1⟩ (zV h).2
     ·exact c6
    ·exact c6
   ·exact c6
  ·exact c6
 ·exact scal h
def VN{op:BinOp}{t:TypeId}{x:Operand}(ho:JO o=some (op,t,x))(h:Kj P H op t (ρ x) K):jJ P o ρ H K:=by
 obtain⟨t',ho⟩:∃t',o.op=.binOp op t x (.const (.slice none 0 0)) t':=by
  unfold JO at ho;split at ho
  ·rename_i h1;split at ho
   ·split at ho
    ·cases ho;exact⟨_,h1⟩
    ·cases ho
   ·cases ho
  ·cases ho
 unfold Kj at h;split at h
 ·rename_i e hu;split at h
  ·rename_i fo sz rows hx;split at h
   ·split at h
    ·exact .O3 .eql t t' x ho (.inl O) hu hx h.1 h.2
    ·exact .O3 .neq t t' x ho (.inr O) hu hx h.1 h.2
    ·exact c6
   ·split at h
    ·exact(mT.F1 .eql t t' x ho (.inl O) hu (.inl ⟨_,_,_,hx,h.1⟩)).lM h.2
    ·exact(mT.F1 .neq t t' x ho (.inr O) hu (.inl ⟨_,_,_,hx,h.1⟩)).lM h.2
    ·exact c6
  ·rename_i hx;split at h
   ·exact(mT.F1 .eql t t' x ho (.inl O) hu (.inr ⟨_,_,_,_,_,_,hx⟩)).lM h
   ·exact(mT.F1 .neq t t' x ho (.inr O) hu (.inr ⟨_,_,_,_,_,_,hx⟩)).lM h
   ·exact c6
  ·exact c6
 ·exact c6
def Lh{x:C}{b:Bool}(h:Jr x=some b):∀E u,L E x u->∃a,u=.pointer a/\a.isNone=b:=by
 intro E u hl;unfold Jr at h;split at h
 ·cases h;cases hl;exact⟨_,rfl,rfl⟩
 ·cases h;cases hl;exact⟨_,rfl,rfl⟩
 ·split at h
  ·split at h <;> (cases h;cases hl;exact⟨_,rfl,rfl⟩)
  ·cases h
 ·cases h
def Xi{op:BinOp}{t:TypeId}{x:Operand}(ho:J1 o=some (op,t,x))(h:J8 P H op t (ρ x) K):∃c,mT P o ρ H c H/\K c H:=by
 obtain⟨t',ho⟩:∃t',o.op=.binOp op t x (.const (.pointer none)) t':=by
  unfold J1 at ho;split at ho
  ·rename_i h1;split at ho
   ·split at ho
    ·split at ho
     ·cases ho;exact⟨_,h1⟩
     ·cases ho
    ·cases ho
   ·cases ho
  ·cases ho
 have hT:GK P t=true->P.underlying t=some (.pointer (P.pointee t)):=λhp=>by
  unfold GK at hp;split at hp
  ·rename_i e hu;have he:e=P.pointee t:=by simpa using hp
   rw[hu,he]
  ·cases hp
 unfold J8 at h;split at h
 ·rename_i b hb;split at h
  ·exact⟨_,.Pm .eql t t' x ho (.inl O) (hT (zV h).1) b (Lh hb),(zV h).2⟩
  ·exact⟨_,.Pm .neq t t' x ho (.inr O) (hT (zV h).1) b (Lh hb),(zV h).2⟩
  ·exact c6
 ·exact c6
def Up{t:TypeId}{x y:Operand}(ho:o.op=.makeSlice t x y)(h:JQ P H ρ t x y K):∃c H',fg P o ρ H c H'/\K c H':=by
 unfold JQ at h;split at h
 ·rename_i k n k' n' hx hy;split at h
  ·rename_i e hu;split at h
   ·rename_i i hi;split at h
    ·rename_i cs hz;obtain⟨h1,rfl,h2,h3,h4,h5⟩:=zV h;have h5:=qq h5;have h5:=qq h5;exact⟨_,_,.Gp (.makeSlice t x y ho hu hi hz h1 hx hy h2 h3 h4) _ (λe=>by cases e) rfl,jf h5⟩
    ·exact c6
   ·exact c6
  ·exact c6
 ·exact c6
def L9{src dst:TypeId}{x:Operand}(ho:o.op=.convert src dst x)(h:JU P H ρ o src dst x K):∃c,(∀H2,fg P o ρ H2 c H2)/\K c H:=by
 unfold JU at h;split at h
 ·rename_i fo sz rows hx;split at h
  ·rename_i e hs hd;split at h
   ·rename_i he;obtain⟨h1,bts,rfl,h2⟩:=zV h;have h1:=eq_of_beq h1;subst h1;exact⟨_,λH2=>.fU (ρ:=ρ) <|.same <|.Wn src dst x ho hs he hd hx,h2⟩
   ·exact c6
  ·exact c6
 ·exact kQ h
def HK(h:nS P H ρ o K):∃c H',fg P o ρ H c H'/\K c H':=by
 unfold nS at h;split at h
 ·rename_i x ho;exact⟨_,H,.same <|.move x (.inl ho),zR (k:=λc=>K c H) h⟩
 ·rename_i x ho;exact⟨_,H,.same <|.move x (.inr ho),zR (k:=λc=>K c H) h⟩
 ·rename_i x y z ho;split at h
  ·rename_i b hb;exact⟨_,H,.same <|.pick x y z ho b hb,zR (k:=λc=>K c H) h⟩
  ·exact c6
 ·rename_i t ho;split at h
  ·rename_i cs hz;have h:=jf (k:=λcs=>jq cs.length λn=>jq H.length λm=>xp (H++[⟨1,t,n,[cs],0⟩]) λH'=>K (.ref m [] n 0 0) H') h;have h:=qq (k:=λn=>jq H.length λm=>xp (H++[⟨1,t,n,[cs],0⟩]) λH'=>K (.ref m [] n 0 0) H') h;have h:=qq (k:=λm=>xp (H++[⟨1,t,cs.length,[cs],0⟩]) λH'=>K (.ref m [] cs.length 0 0) H') h;exact⟨_,_,.Gp (.alloc t ho hz) _ (λe=>by cases e) rfl,jf (k:=λH'=>K (.ref H.length [] cs.length 0 0) H') h⟩
  ·exact c6
 ·rename_i t x ho;obtain⟨h0,h⟩:=zV h;have h:=qK (λ_ _ h=>zR h) (k:=λcs=>jq cs.length λn=>jq H.length λm=>xp (H++[⟨1,t,n,[cs],0⟩]) λH'=>K (.ref m [] n 0 0) H') h;have h:=qq (k:=λn=>jq H.length λm=>xp (H++[⟨1,t,n,[(ρ x).cells],0⟩]) λH'=>K (.ref m [] n 0 0) H') h;have h:=qq (k:=λm=>xp (H++[⟨1,t,(ρ x).cells.length,[(ρ x).cells],0⟩]) λH'=>K (.ref m [] (ρ x).cells.length 0 0) H') h;exact⟨_,_,.Gp (.box t x ho h0) _ (λe=>by cases e) rfl,jf (k:=λH'=>K (.ref H.length [] (ρ x).cells.length 0 0) H') h⟩
 ·rename_i t x f ho;obtain⟨c,h1,h2⟩:=Lt ho h;exact⟨c,H,h1 H,h2⟩
 ·rename_i t x y ho;obtain⟨c,h1,h2⟩:=Lf (ρ:=λx=>fU (ρ x)) ho h;exact⟨c,H,(h1 H).fU,h2⟩
 ·rename_i t x y ho;obtain⟨c,h1,h2⟩:=Lg ho h;exact⟨c,H,h1 H,h2⟩
 ·rename_i t x f ho;obtain⟨c,h1,h2⟩:=Lu ho h;exact⟨c,H,h1 H,h2⟩
 ·rename_i t x ho;obtain⟨c,h1,h2⟩:=Fe h;exact⟨c,H,.same <|.load t x ho h1,h2⟩
 ·rename_i t x y ho;split at h
  ·obtain⟨H',h1,h2⟩:=LK h;exact⟨_,H',.zxY t x y ho h1,h2⟩
  ·obtain⟨H',h1,h2⟩:=LK h;exact⟨_,H',.Ct (.store t x y ho h1) (LJ h1),h2⟩
 ·rename_i x n ho;split at h
  ·rename_i vs hx;split at h
   ·rename_i c hc;exact⟨c,H,.same <|.extract x n ho hx hc,zR (k:=λc=>K c H) (jm (k:=λc=>qL c λc=>K c H) h)⟩
   ·exact c6
  ·exact c6
 ·rename_i x ho;exact⟨_,H,.same <|.nilCheck x ho (zV h).1,zR (k:=λc=>K c H) (zV h).2⟩
 ·rename_i f first caps ho;split at h
  ·have h:=qK (λ_ _ h=>zR h) h;exact⟨_,H,.same <|.makeFunc _ first caps ho,qK (λ_ _ h=>zR h) (k:=λb=>K (.fn _ (first.toList.map ρ) b) H) h⟩
  ·exact c6
 ·rename_i t parts ho;obtain⟨cs,hc,h⟩:=Lm h;exact⟨_,H,.same <|.build t parts ho hc,h⟩
 ·rename_i t x ho;split at h
  ·rename_i d hd;obtain⟨h1,h2⟩:=zV h;exact⟨_,H,.Wb t x ho hd h1,zR (k:=λc=>K (.fR t c) H) h2⟩
  ·exact c6
 ·rename_i x xT t ok ho
  replace h:=zV h
  obtain⟨h1,h⟩:=h;subst h1;split at h
  ·rename_i t' c hx;split at h
   ·rename_i d hd;split at h
    ·rename_i he;obtain rfl:t'=t:=by simpa using he
     exact⟨_,H,.Vs x xT t' ho hx hd (zV h).1,(zV h).2⟩
    ·rename_i he;split at h
     ·rename_i i hi;have h2:=(zV h).1;rw[gC]at h2;exact⟨_,H,.WL x xT t ho hx he hd h2.1 hi h2.2,(zV h).2⟩
     ·exact c6
   ·exact c6
  ·exact c6
 ·rename_i t len parts ho;split at h
  ·rename_i c hc;split at h
   ·rename_i o' sz rows;have h:=qK (λ_ _ h=>qK (λ_ _ h=>zR h) h) (k:=λrows=>jq sz λsz=>K (.eS o' sz rows) H) h;exact⟨_,H,.same <|(qJ.buildSlice (ρ:=λz=>w6 (ρ z)) t len parts ho hc).weaken λz E v hl=>IC hl,qq (k:=λsz=>K (.eS o' sz rows) H) h⟩
   ·exact c6
  ·exact c6
 ·rename_i t x lo hi mx ho;obtain⟨c,h1,h2⟩:=LH (ρ:=λx=>fU (ρ x)) ho h;exact⟨c,H,(h1 H).fU,h2⟩
 ·rename_i t x y ho;exact Up ho h
 ·exact h
 ·exact h
 ·exact h
 ·exact h
 ·rename_i cl ho;exact TG ho h
 ·rename_i op t x y t' ho;split at h
  ·rename_i xs ys hx hy;obtain⟨h1,h⟩:=h;simp only[gC,pJ]at h1;split at h
   ·rename_i b hb;split at h
    ·exact⟨_,H,.same <|.FH .eql t t' x y ho (.inl O) h1.1 h1.2 hx hy hb,jm (k:=λc=>K c H) h⟩
    ·exact⟨_,H,.same <|.FH .neq t t' x y ho (.inr O) h1.1 h1.2 hx hy hb,jm (k:=λc=>K c H) h⟩
    ·exact c6
   ·exact c6
  ·rename_i s s' hx hy;obtain⟨⟨a⟩⟩:=s;obtain⟨⟨b⟩⟩:=s';obtain⟨c,h1,h2⟩:=Ms ho hx hy h;exact⟨c,H,h1 H,h2⟩
  ·obtain⟨c,h1,h2⟩:=kQ h;exact⟨c,H,h1 H,h2⟩
 ·rename_i src dst x ho;obtain⟨c,h1,h2⟩:=L9 ho h;exact⟨c,H,h1 H,h2⟩
 ·split at h
  ·rename_i v e;obtain⟨h1,h2⟩:=zV h;simp only[gC,sI]at h1;exact⟨.v v,H,.same <|.scalar h1.1.1 h1.1.2 e h1.2,MG (k:=λc=>K c H) h2⟩
  ·exact c6
 ·obtain⟨c,h1,h2⟩:=kQ h;exact⟨c,H,h1 H,h2⟩
end
def El(calls:Bool)(o:Oper):Bool:=
 match o.op with
 |.alloc _|.box .. |.store .. |.makeSlice .. |.makeMap .. |.mapUpdate .. |.insert .. |.mapEntry .. |.entryStore ..=>true
 |.call cl=>match cl.callee with
  |.builtin .len=>false
  |.builtin _=>true
  |_=>calls
 |_=>false
def xD(o:Oper):Bool:=
 match o.op with
 |.move _|.assign _|.pick .. |.fieldAddr .. |.indexAddr .. |.extract .. |.nilCheck _|.makeFunc .. |.build .. |.buildSlice .. |.slice .. |.index .. |.field .. |.binOp .. |.unOp .. |.convert ..=>true
 |.call cl=>match cl.callee with
  |.builtin .len=>true
  |_=>false
 |_=>false
section
variable {P:Program} {o:Oper} {ρ:Operand->C} {H:zl} {K:C->zl->Prop}
def LI(hb:xD o=true)(h:nS P H ρ o K):∃c,(∀H2,fg P o ρ H2 c H2)/\K c H:=by
 unfold nS at h;split at h
 ·rename_i x ho;exact⟨_,λH2=>.same <|.move x (.inl ho),zR (k:=λc=>K c H) h⟩
 ·rename_i x ho;exact⟨_,λH2=>.same <|.move x (.inr ho),zR (k:=λc=>K c H) h⟩
 ·rename_i x y z ho;split at h
  ·rename_i b hb;exact⟨_,λH2=>.same <|.pick x y z ho b hb,zR (k:=λc=>K c H) h⟩
  ·exact c6
 ·rename_i t ho;simp[xD,ho]at hb
 ·rename_i t x ho;simp[xD,ho]at hb
 ·rename_i t x f ho;exact Lt ho h
 ·rename_i t x y ho;obtain⟨c,h1,h2⟩:=Lf (ρ:=λx=>fU (ρ x)) ho h;exact⟨c,λH2=>(h1 H2).fU,h2⟩
 ·rename_i t x y ho;exact Lg ho h
 ·rename_i t x f ho;exact Lu ho h
 ·rename_i t x ho;simp[xD,ho]at hb
 ·rename_i t x y ho;simp[xD,ho]at hb
 ·rename_i x n ho;split at h
  ·rename_i vs hx;split at h
   ·rename_i c hc;exact⟨c,λH2=>.same <|.extract x n ho hx hc,zR (k:=λc=>K c H) (jm (k:=λc=>qL c λc=>K c H) h)⟩
   ·exact c6
  ·exact c6
 ·rename_i x ho;exact⟨_,λH2=>.same <|.nilCheck x ho (zV h).1,zR (k:=λc=>K c H) (zV h).2⟩
 ·rename_i f first caps ho;split at h
  ·have h:=qK (λ_ _ h=>zR h) h;exact⟨_,λH2=>.same <|.makeFunc _ first caps ho,qK (λ_ _ h=>zR h) (k:=λb=>K (.fn _ (first.toList.map ρ) b) H) h⟩
  ·exact c6
 ·rename_i t parts ho;obtain⟨cs,hc,h⟩:=Lm h;exact⟨_,λH2=>.same <|.build t parts ho hc,h⟩
 ·rename_i t x ho;simp[xD,ho]at hb
 ·rename_i x xT t ok ho;simp[xD,ho]at hb
 ·rename_i t len parts ho;split at h
  ·rename_i c hc;split at h
   ·rename_i o' sz rows;have h:=qK (λ_ _ h=>qK (λ_ _ h=>zR h) h) (k:=λrows=>jq sz λsz=>K (.eS o' sz rows) H) h;exact⟨_,λH2=>.same <|(qJ.buildSlice (ρ:=λz=>w6 (ρ z)) t len parts ho hc).weaken λz E v hl=>IC hl,qq (k:=λsz=>K (.eS o' sz rows) H) h⟩
   ·exact c6
  ·exact c6
 ·rename_i t x lo hi mx ho;obtain⟨c,h1,h2⟩:=LH (ρ:=λx=>fU (ρ x)) ho h;exact⟨c,λH2=>(h1 H2).fU,h2⟩
 ·rename_i t x y ho;simp[xD,ho]at hb
 ·rename_i ho;simp[xD,ho]at hb
 ·rename_i ho;simp[xD,ho]at hb
 ·rename_i ho;simp[xD,ho]at hb
 ·rename_i ho;simp[xD,ho]at hb
 ·rename_i cl ho
  have hc:cl.callee=.builtin .len:=by
   simp only[xD,ho]at hb;split at hb
   ·assumption
   ·cases hb
  have hns:xK o=true:=by simp[xK,ho]
  unfold Gs at h;rw[hc]at h;dsimp only at h;split at h
  ·rename_i x t hx ht;split at h
   ·rename_i e hu;split at h
    ·rename_i n hn;exact⟨_,λH2=>.fU (ρ:=ρ) <|.same <|.len cl ho hc x (Array.yo hx) (Array.yo ht) hu hn,h⟩
    ·exact c6
   ·rename_i hu;split at h
    ·rename_i s hs;obtain⟨⟨b⟩⟩:=s;exact⟨_,λH2=>.same <|.Pf cl ho hc x (Array.yo hx) (Array.yo ht) hu hs,h⟩
    ·exact c6
   ·split at h
    ·rename_i v e;obtain⟨h1,h2⟩:=zV h;simp only[gC,sI]at h1;exact⟨.v v,λH2=>.same <|.scalar hns h1.1 e h1.2,jm (k:=λc=>K c H) h2⟩
    ·exact c6
  ·exact c6
 ·rename_i op t x y t' ho;split at h
  ·rename_i xs ys hx hy;obtain⟨h1,h⟩:=h;simp only[gC,pJ]at h1;split at h
   ·rename_i b hb;split at h
    ·exact⟨_,λH2=>.same <|.FH .eql t t' x y ho (.inl O) h1.1 h1.2 hx hy hb,jm (k:=λc=>K c H) h⟩
    ·exact⟨_,λH2=>.same <|.FH .neq t t' x y ho (.inr O) h1.1 h1.2 hx hy hb,jm (k:=λc=>K c H) h⟩
    ·exact c6
   ·exact c6
  ·rename_i s s' hx hy;obtain⟨⟨a⟩⟩:=s;obtain⟨⟨b⟩⟩:=s';exact Ms ho hx hy h
  ·exact kQ h
 ·rename_i src dst x ho;exact L9 ho h
 ·split at h
  ·rename_i v e;obtain⟨h1,h2⟩:=zV h;simp only[gC,sI]at h1;exact⟨.v v,λH2=>.same <|.scalar h1.1.1 h1.1.2 e h1.2,MG (k:=λc=>K c H) h2⟩
  ·exact c6
 ·exact kQ h
end
section
variable {P:Program} {B:Nat} {ops:Array Oper} {md:Region.Mode} {Hs:Nat->zl} {eff:Nat->Bool} {idx:Nat->Nat} {inR:Nat->Nat->Bool}
def DX(md:Region.Mode)(ms:List Nat)(o:Oper):List Nat:=
 ms++[o.after.toList.foldl (λm e=>if Region.binds md e then m ||| (1 <<< e.on) ||| (ms[e.on]?).getD 0 else m) 0]
def ns(md:Region.Mode)(ops:Array Oper):List Nat:=ops.toList.foldl (DX md) []
def nY(md:Region.Mode)(ops:Array Oper)(ms:List Nat)(j i:Nat):Bool:=Nat.testBit ((ms[j]?).getD 0) i
def MJ{md:Region.Mode}{ms:List Nat}{i:Nat}:∀{l:List Edge} {m0:Nat},Nat.testBit (l.foldl (λm e=>if Region.binds md e then m ||| (1 <<< e.on) ||| (ms[e.on]?).getD 0 else m) m0) i=true->
  Nat.testBit m0 i=true\/∃e∈l,Region.binds md e=true/\(e.on=i\/Nat.testBit ((ms[e.on]?).getD 0) i=true)
 |[],m0,h=>.inl h
 |e::l,m0,h=>by
  rw[eh]at h;rcases MJ h with h1|⟨e',h1,h2⟩
  ·split at h1
   ·rename_i hb;simp only[Nat.testBit_or,p8]at h1;rcases h1 with(h1|h1)|h1
    ·exact .inl h1
    ·refine .inr ⟨e,aj,hb,.inl ?_⟩;rw[Nat.testBit_shiftLeft]at h1;simp only[gC,gM]at h1;obtain⟨h2,h3⟩:=h1;have:=Nat.testBit_one_eq_true_iff_self_eq_zero.1 h3;omega
    ·exact .inr ⟨e,aj,hb,.inr h1⟩
   ·exact .inl h1
  ·exact .inr ⟨e',aD,h2⟩
def Bn(md:Region.Mode)(l:List Oper)(ms:List Nat):Prop:=ms.length=l.length/\∀(j i:Nat),Nat.testBit ((ms[j]?).getD 0) i=true->
  ∃oj,l[j]?=some oj/\∃e∈oj.after,Region.binds md e=true/\(e.on=i\/(e.on<j/\Nat.testBit ((ms[e.on]?).getD 0) i=true))
def Bn.step{md:Region.Mode}{l:List Oper}{ms:List Nat}(h0:Bn md l ms)(o:Oper):Bn md (l++[o]) (DX md ms o):=by
 obtain⟨ih1,ih2⟩:=h0;refine⟨by simp[DX,ih1],?_⟩;intro j i h;unfold DX at h ⊢;by_cases hj:j<ms.length
 ·rw[gz hj]at h;obtain⟨oj,h1,e,h2,h3,h4⟩:=ih2 j i h;refine⟨oj,by rw[gz aw];exact h1,e,h2,h3,h4.imp id λ⟨h5,h6⟩=>⟨h5,?_⟩⟩;rw[gz aw];exact h6
 ·rw[gK aw]at h
  have hj0:j-ms.length=0:=by
   rcases sM (j-ms.length) with h0|h0
   ·exact h0
   ·rw[pV aA]at h;simp at h
  rw[hj0]at h;simp only[uk,pL]at h;rcases MJ h with h1|⟨e,h1,h2,h3⟩
  ·simp at h1
  ·refine⟨o,by rw[gK aw,<-ih1,hj0];rfl,e,aq h1,h2,h3.imp id λh4=>?_⟩
   have eU:e.on<ms.length:=by
    rcases pR e.on ms.length with h5|h5
    ·exact h5
    ·rw[pV h5]at h4;simp at h4
   exact⟨aw,by rw[gz eU];exact h4⟩
def Bn.fold{md:Region.Mode}:∀{l pre:List Oper} {ms:List Nat},Bn md pre ms->Bn md (pre++l) (l.foldl (DX md) ms)
 |[],pre,ms,h=>by simpa using h
 |o::l,pre,ms,h=>by
  have:=(h.step o).fold (l:=l);simpa using this
def L0{md:Region.Mode}(ops:Array Oper):Bn md ops.toList (ns md ops):=by
 have:=Bn.fold (md:=md) (l:=ops.toList) (pre:=[]) (ms:=[]) ⟨rfl,aj⟩;simpa [ns] using this
def Down(md:Region.Mode)(ops:Array Oper)(listed:Array Bool):Prop:=∀j oj,ops[j]?=some oj->listed.getD j false=true->∀e∈oj.after,Region.binds md e=true->listed.getD e.on false=true
def Down.start:Down md ops (Array.replicate ops.size false):=λj oj _ h=>by
 exfalso
 rw[pG,Array.getElem?_replicate]at h;split at h <;> simp at h
def Down.dep{listed:Array Bool}(hd:Down md ops listed)(j i:Nat)(hj:listed.getD j false=true)(h:nY md ops (ns md ops) j i=true):listed.getD i false=true:=by
 induction j using Nat.strongRecOn with
 |_ j ih=>
  obtain⟨oj,h1,e,h2,h3,h4⟩:=(L0 (md:=md) ops).2 j i h;have h5:=hd j oj tD hj e h2 h3;rcases h4 with rfl|⟨h6,h7⟩
  ·exact h5
  ·exact ih e.on h6 h5 h7
def Down.ready{listed:Array Bool}(hd:Down md ops listed){j i:Nat}(hj:j∈Region.ready md ops listed)(h:nY md ops (ns md ops) j i=true):listed.getD i false=true:=by
 obtain⟨_,oj,ho,z8⟩:=mem_ready.1 hj;obtain⟨oj',h1,e,h2,h3,h4⟩:=(L0 (md:=md) ops).2 j i h
 have e1:oj'=oj:=by
  have:ops[j]?=some oj':=aq h1
  rw[ho]at this;cases this
  rfl
 subst e1;have h5:=z8 e h2 h3;rcases h4 with rfl|⟨h6,h7⟩
 ·exact h5
 ·exact hd.dep e.on i h5 h7
def Down.step{listed:Array Bool}(hd:Down md ops listed){i:Nat}(hi:i∈Region.ready md ops listed):Down md ops (listed.setIfInBounds i true):=λj oj ho hj e he hb=>by
 by_cases hji:i=j
 ·subst hji;obtain⟨_,oi,ho',z8⟩:=mem_ready.1 hi;rw[ho]at ho';cases ho'
  exact getD_set_true (z8 e he hb)
 ·rw[getD_set_ne false hji]at hj;exact getD_set_true (hd j oj ho hj e he hb)
def QA(P:Program)(ops:Array Oper)(Hs:Nat->zl)(r:Nat->Bool)(o:Oper)(c:C)(t:List C):Prop:=
 (jK ops t o=some true/\∀k,r k=true->fg P o (ev t) (Hs k) c (Hs k))\/(jK ops t o=some false/\c=.un)
def EA(P:Program)(ops:Array Oper)(H H':zl)(o:Oper)(c:C)(t:List C):Prop:=
 (jK ops t o=some true/\fg P o (ev t) H c H')\/(jK ops t o=some false/\c=.un/\H'=H)
def QA.put{r:Nat->Bool}{o:Oper}{c x:C}{t:List C}{dst:Option Tmp}(h:∀d,dst=some d->d∉o.looksAt ops):QA P ops Hs r o c (put t dst x)↔QA P ops Hs r o c t:=by
 unfold QA;rw[ve h];constructor
 ·rintro(⟨h1,h2⟩|h1)
  ·exact .inl ⟨h1,λk hk=>(fg.put h).1 (h2 k hk)⟩
  ·exact .inr h1
 ·rintro(⟨h1,h2⟩|h1)
  ·exact .inl ⟨h1,λk hk=>(fg.put h).2 (h2 k hk)⟩
  ·exact .inr h1
def EA.put{H H':zl}{o:Oper}{c x:C}{t:List C}{dst:Option Tmp}(h:∀d,dst=some d->d∉o.looksAt ops):EA P ops H H' o c (put t dst x)↔EA P ops H H' o c t:=by
 unfold EA;rw[ve h,fg.put h]
def Gz(P:Program)(ops:Array Oper)(Hs:Nat->zl)(eff:Nat->Bool)(idx:Nat->Nat)(inR:Nat->Nat->Bool)(i:Nat)(o:Oper)(c:C)(n':Nat)(t:List C)(n:Nat):Prop:=
 (eff i=false/\inR i n=true/\QA P ops Hs (inR i) o c t/\n'=n)\/(eff i=true/\idx i=n/\EA P ops (Hs n) (Hs (n+1)) o c t/\n'=n+1)
def mG(P:Program)(ops:Array Oper)(Hs:Nat->zl)(eff:Nat->Bool)(idx:Nat->Nat)(inR:Nat->Nat->Bool)(i:Nat)(K:List C->Nat->Prop)(t:List C)(n:Nat):Prop:=
 match ops[i]? with
 |none=>K t n
 |some o=>∃c n',Gz P ops Hs eff idx inR i o c n' t n/\K (put t o.dst c) n'
def VB{i:Nat}{t:List C}{n:Nat}{K K':List C->Nat->Prop}(h:∀t n,K t n->K' t n)(hh:mG P ops Hs eff idx inR i K t n):mG P ops Hs eff idx inR i K' t n:=by
 unfold mG at *;split
 ·exact h _ _ (by simpa [*] using hh)
 ·rename_i o ho;simp only[ho]at hh;obtain⟨c,n',h1,h2⟩:=hh;exact⟨c,n',h1,h _ _ h2⟩
def AN(P:Program)(ops:Array Oper)(Hs:Nat->zl)(eff:Nat->Bool)(idx:Nat->Nat)(inR:Nat->Nat->Bool)(Q:List C->Nat->Prop):List Oper->Nat->List C->Nat->Prop
 |[],_,t,n=>Q t n
 |_::l,k,t,n=>mG P ops Hs eff idx inR k (AN P ops Hs eff idx inR Q l (k+1)) t n
def EG(P:Program)(md:Region.Mode)(ops:Array Oper)(Hs:Nat->zl)(eff:Nat->Bool)(idx:Nat->Nat)(inR:Nat->Nat->Bool)(Q:List C->Nat->Prop):Nat->Array Bool->List C->Nat->Prop
 |0,listed,t,n=>Region.ready md ops listed=[]/\Q t n
 |fuel+1,listed,t,n=>(Region.ready md ops listed=[]->Q t n)/\∀i∈Region.ready md ops listed,mG P ops Hs eff idx inR i (EG P md ops Hs eff idx inR Q fuel (listed.setIfInBounds i true)) t n
def yr{q:Option Nat}{m:Nat}{H0:zl}{Q:List C->Nat->Prop}{w0:World}{E0:Env}{Q':Exit->Act->World->Prop}(hQ:∀t n w E a,Q t n->xR B m w E ⟨t,Hs n⟩ a->jG B w0 E0 H0 w E (Hs n)->Q' .normal a w):
  ∀(fuel:Nat) (listed:Array Bool) (t:List C) (n:Nat) (w:World) (E:Env) (a:Act),xR B m w E ⟨t,Hs n⟩ a->jG B w0 E0 H0 w E (Hs n)->EG P md ops Hs eff idx inR Q fuel listed t n->wpAnyIn (fw q) 0 P md ops Q' fuel listed a w
 |0,_,t,n,w,E,a,hs,hg,h=>⟨h.1,hQ t n w E a h.2 hs hg⟩
 |fuel+1,listed,t,n,w,E,a,hs,hg,h=>⟨λh0=>hQ t n w E a (h.1 h0) hs hg,λi hi=>by
   have h1:=h.2 i hi;unfold mG at h1;unfold wpOpIn;split
   ·rename_i ho;simp only[ho]at h1;exact yr hQ fuel _ t n w E a hs hg h1
   ·rename_i o ho;simp only[ho]at h1;obtain⟨c,n',hf,hK⟩:=h1;rcases hf with⟨_,hin,⟨hw,hv⟩|⟨hw,rfl⟩,rfl⟩|⟨_,_,⟨hw,hv⟩|⟨hw,rfl,he⟩,rfl⟩
    ·rw[gk (jU hs.tmps hw)];exact Ad.F2 (s:=⟨t,Hs n'⟩) (hv _ hin) q m w E a _ Q' hs λw' E' a' h2 g2=>yr hQ fuel _ (put t o.dst c) n' w' E' a' h2 (hg.trans g2) hK
    ·rw[gf bu];exact⟨λ_ _=>trivial,yr hQ fuel _ (put t o.dst .un) n' w E _ (hs.put .un o.dst) hg hK⟩
    ·rw[gk (jU hs.tmps hw)];exact Ad.F2 (s:=⟨t,Hs n⟩) hv q m w E a _ Q' hs λw' E' a' h2 g2=>yr hQ fuel _ (put t o.dst c) (n+1) w' E' a' h2 (hg.trans g2) hK
    ·rw[gf bu];have hs':=hs.put .un o.dst;exact⟨λ_ _=>trivial,yr hQ fuel _ (put t o.dst .un) (n+1) w E _ (by rw[he];exact hs') (by rw[he];exact hg) hK⟩⟩
structure Dc(md:Region.Mode)(ops:Array Oper)(eff:Nat->Bool)(idx:Nat->Nat)(inR:Nat->Nat->Bool)(i j:Nat):Prop where
 c1:eff i=false->eff j=true->nY md ops (ns md ops) j i=false->inR i (idx j)=true->inR i (idx j+1)=true
 c2:eff i=true->eff j=false->nY md ops (ns md ops) j i=false->inR j (idx i+1)=true->inR j (idx i)=true
def VC{i j:Nat}{oi oj:Oper}{c:C}{n ni:Nat}(hj:ops[j]?=some oj)(hap:oi.apart ops oj=true)(he:eff i=true->eff j=false)(hp:Dc md ops eff idx inR i j)(hno:nY md ops (ns md ops) j i=false){K:List C->Nat->Prop}{t:List C}
 (hf:Gz P ops Hs eff idx inR i oi c ni t n)(h:mG P ops Hs eff idx inR j K (put t oi.dst c) ni):
  mG P ops Hs eff idx inR j (λt' n'=>∃n2,Gz P ops Hs eff idx inR i oi c n2 t' n'/\K (put t' oi.dst c) n2) t n:=by
 obtain⟨h1,h2,h3⟩:=Oper.apart_spec hap;unfold mG at *;simp only[hj] at *;obtain⟨cj,nj,hfj,hK⟩:=h;rw[put_comm _ _ h2]at hK;rcases hf with⟨e1,e2,e3,rfl⟩|⟨e1,e2,e3,rfl⟩
 ·rcases hfj with⟨f1,f2,f3,rfl⟩|⟨f1,f2,f3,rfl⟩
  ·exact⟨cj,nj,.inl ⟨f1,f2,(QA.put h1).1 f3,rfl⟩,nj,.inl ⟨e1,e2,(QA.put h3).2 e3,rfl⟩,hK⟩
  ·refine⟨cj,ni+1,.inr ⟨f1,f2,(EA.put h1).1 f3,rfl⟩,ni+1,.inl ⟨e1,?_,(QA.put h3).2 e3,rfl⟩,hK⟩;rw[<-f2];exact hp.c1 e1 f1 hno (by rw[f2];exact e2)
 ·rcases hfj with⟨f1,f2,f3,rfl⟩|⟨f1,f2,f3,rfl⟩
  ·refine⟨cj,n,.inl ⟨f1,?_,(QA.put h1).1 f3,rfl⟩,n+1,.inr ⟨e1,e2,(EA.put h3).2 e3,rfl⟩,hK⟩;rw[<-e2];exact hp.c2 e1 f1 hno (by rw[e2];exact f2)
  ·rw[he e1]at f1;cases f1
def Tu{Q:List C->Nat->Prop}{i:Nat}{oi:Oper}{c:C}(hi:ops[i]?=some oi):
  ∀(fuel:Nat) (listed:Array Bool) (t:List C) (n ni:Nat),Down md ops listed->
   (∀j oj,ops[j]?=some oj->j≠i->listed.getD j true=false->(∀e∈oj.after,Region.binds md e=true->e.on≠i)->oi.apart ops oj=true/\(eff i=true->eff j=false)/\Dc md ops eff idx inR i j)->
   i∈Region.ready md ops listed->Gz P ops Hs eff idx inR i oi c ni t n->
   EG P md ops Hs eff idx inR Q fuel (listed.setIfInBounds i true) (put t oi.dst c) ni->EG P md ops Hs eff idx inR Q (fuel+1) listed t n:=by
 intro fuel
 induction fuel with
 |zero=>
  intro listed t n ni _ _ hr hy H;refine⟨λh=>bw,λj hj=>?_⟩;by_cases hji:j=i
  ·subst hji;unfold mG;simp only[hi];exact⟨c,ni,hy,H⟩
  ·have:=ready_mono hj hji;rw[H.1]at this;cases this
 |succ fuel ih=>
  intro listed t n ni hdown hfree hr hy H;refine⟨λh=>bw,λj hj=>?_⟩;by_cases hji:j=i
  ·subst hji;unfold mG;simp only[hi];exact⟨c,ni,hy,H⟩
  ·have h1:=H.2 j (ready_mono hj hji);obtain⟨hjun,oj,hoj,z8⟩:=mem_ready.1 hj
   have hiun:listed.getD i false=false:=by
    have h0:=(mem_ready.1 hr).1;rcases pR i listed.size with h'|h'
    ·simp[h']at h0 ⊢;exact h0
    ·simp[se h']
   have hnot:∀e∈oj.after,Region.binds md e=true->e.on≠i:=λe he hb heq=>by
    have h1:=z8 e he hb;rw[heq,hiun]at h1;cases h1
   have hno:nY md ops (ns md ops) j i=false:=by
    cases hd:nY md ops (ns md ops) j i with
    |false=>rfl
    |true=>have:=hdown.ready hj hd;rw[hiun]at this;cases this
   obtain⟨hap,hee,hp⟩:=hfree j oj hoj hji hjun hnot;have h2:=VC hoj hap hee hp hno hy h1
   have hfree':∀k ok,ops[k]?=some ok->k≠i->(listed.setIfInBounds j true).getD k true=false->
     (∀e∈ok.after,Region.binds md e=true->e.on≠i)->oi.apart ops ok=true/\(eff i=true->eff k=false)/\Dc md ops eff idx inR i k:=λk ok hk hki hun hno=>by
    refine hfree k ok hk hki ?_ hno;by_cases hjk:j=k
    ·subst hjk;exact hjun
    ·rw[getD_set_ne true hjk]at hun;exact hun
   refine VB (λt' n' ⟨n2,h3,h4⟩=>ih (listed.setIfInBounds j true) t' n' n2 (hdown.step hj) hfree' (ready_mono hr (Ne.symm hji)) h3 ?_) h2;rw[uh _ _ hji];exact h4
def Nv{Q:List C->Nat->Prop}(hE:BG md ops eff=true)(hP:∀i j,Dc md ops eff idx inR i j):∀(l:List Oper) (k:Nat) (listed:Array Bool) (t:List C) (n:Nat),Down md ops listed->(∀j,l[j]?=ops[k+j]?)->(∀j,j<k->listed.getD j true=true)->
  Region.lexFrom md ops l.length k listed=true->AN P ops Hs eff idx inR Q l k t n->EG P md ops Hs eff idx inR Q l.length listed t n
 |[],_,_,_,_,_,_,_,hB,h=>⟨by simpa [Region.lexFrom] using hB,h⟩
 |o::l,k,listed,t,n,hd,hl,hk,hB,h=>by
  have h0:ops[k]?=some o:=by simpa using (hl 0).symm
  simp only[pC,Region.lexFrom,gC]at hB;obtain⟨⟨hr,hf⟩,hB'⟩:=hB;have h':mG P ops Hs eff idx inR k (AN P ops Hs eff idx inR Q l (k+1)) t n:=h;unfold mG at h';simp only[h0]at h';obtain⟨c,n',hfst,hK⟩:=h';have hr':k∈Region.ready md ops listed:=aq hr
  refine Tu h0 l.length listed t n n' hd (λj oj hj hne hun hno=>⟨Region.free_spec h0 hf j oj hj hne hun hno,λhe=>?_,hP k j⟩) hr' hfst
   (Nv hE hP l (k+1) _ _ _ (hd.step hr') (λj=>by have:=hl (j+1);simpa [r9,eJ 1 j] using this) ?_ hB' hK)
  ·refine M9 hE he ?_ hj hno;rcases rU j k with eU|heq|eU
   ·rw[hk j eU]at hun;cases hun
   ·exact absurd heq hne
   ·exact eU
  ·intro j hj;by_cases hjk:k=j
   ·subst hjk;by_cases eU:k<listed.size
    ·simp[eU]
    ·simp[eU]
   ·rw[getD_set_ne true hjk];exact hk j aw
def Run.zyi{id n':Nat}{t t':List C}{H:zl}(hm:P.follows .mixedOrders=true)(hB:Region.lexB .any ops=true)(hE:BG .any ops eff=true)(hP:∀i j,Dc .any ops eff idx inR i j)(hH:Hs 0=H)
 (h:AN P ops Hs eff idx inR (λt n=>t=t'/\n=n') ops.toList 0 t 0):Run P B (.region id ops true) ⟨t,H⟩ .normal ⟨t',Hs n'⟩:=λq m w E a Q _ hs hq=>by
 simp only[Region.lexB,gC]at hB;subst hH;refine wpIn_region_any hm (yr (Hs:=Hs) (eff:=eff) (idx:=idx) (inR:=inR) (H0:=Hs 0) (Q:=λt n=>t=t'/\n=n') (w0:=w) (E0:=E) (λt1 n1 w1 E1 a1 he h1 g1=>by obtain⟨rfl,rfl⟩:=he;exact hq _ _ w1 E1 a1 ⟨rfl,rfl⟩ h1 g1) _ _ t 0 _ E a hs.drew ((Grow.drew w E (Hs 0)).ix tG) ?_);have:=Nv (Hs:=Hs) (eff:=eff) (idx:=idx) (inR:=inR) (Q:=λt n=>t=t'/\n=n') (P:=P) (md:=.any) hE hP ops.toList 0 (Array.replicate ops.size false) t 0 Down.start aj (λj hj=>absurd hj (pj j)) (aq hB.2) h;simpa using this
structure lF where
 calls:Bool
 bl:List Nat
 keep:List Nat:=[]
 calm:List Nat:=[]
def oo:List Nat->Nat->Bool
 |[],_=>false
 |x::xs,k=>match Nat.beq x k with|true=>true|false=>oo xs k
def lF.blind(T:lF)(k:Nat):Bool:=oo T.bl k
def lF.Ea(T:lF)(k:Nat):Bool:=match T.calls with|true=>!oo T.calm k|false=>false
def iM(T:lF)(ops:Array Oper)(i:Nat):Bool:=match ops[i]? with|some o=>El (T.Ea i) o && !T.blind i|none=>false
def yC(T:lF)(ops:Array Oper)(i:Nat):Nat:=((List.range i).filter (iM T ops)).length
def mB(T:lF)(ops:Array Oper)(i k:Nat):Bool:=match ops[i]? with|some o=>(xD o || T.blind i) || k == yC T ops i|none=>true
def JC(md:Region.Mode)(T:lF)(ops:Array Oper)(ms:List Nat):Bool:=
 BG md ops (iM T ops) && (List.range ops.size).all λi=>(List.range ops.size).all λj=>
  (!(iM T ops j) || iM T ops i || mB T ops i (yC T ops j+1) || !(mB T ops i (yC T ops j)) || nY md ops ms j i) &&
  (!(iM T ops i) || iM T ops j || mB T ops j (yC T ops i) || !(mB T ops j (yC T ops i+1)) || nY md ops ms j i)
def C1(md:Region.Mode)(T:lF)(ops:Array Oper):Bool:=JC md T ops (ns md ops)
def UT{T:lF}(h:C1 md T ops=true)(i j:Nat):Dc md ops (iM T ops) (yC T ops) (mB T ops) i j:=by
 simp only[C1,JC,gC,gA,rp]at h
 have he:∀i,iM T ops i=true->i<ops.size:=λi hi=>by
  unfold iM at hi;split at hi
  ·rename_i o ho;exact(gL.1 ho).1
  ·cases hi
 have hin:∀i k,¬i<ops.size->mB T ops i k=true:=λi k hi=>by
  unfold mB;rw[se aw]
 constructor
 ·intro h1 h2 h3 h4;by_cases hi:i<ops.size
  ·have:=(h.2 i hi j (he j h2)).1;simp only[h1,h2,h3,h4,ur,rS,Bool.or_false]at this;exact dF
  ·exact hin i _ hi
 ·intro h1 h2 h3 h4;by_cases hj:j<ops.size
  ·have:=(h.2 i (he i h1) j hj).2;simp only[h1,h2,h3,h4,ur,rS,Bool.or_false]at this;exact dF
  ·exact hin j _ hj
def Ew(o:Oper):Bool:=match o.op with|.load ..=>true|_=>false
def Mp{o:Oper}{ρ:Operand->C}{H:zl}{K:C->zl->Prop}(hb:Ew o=true)(h:nS P H ρ o K):∃c,fg P o ρ H c H/\K c H:=by
 unfold Ew at hb;split at hb
 ·rename_i t x ho;unfold nS at h;rw[ho]at h;dsimp only at h;obtain⟨c,h1,h2⟩:=Fe h;exact⟨c,.same <|.load t x ho h1,h2⟩
 ·cases hb
def xh(keep:List Nat)(H H':zl):Prop:=∀id,oo keep id=true->H'[id]?=H[id]?
def xh.refl(keep:List Nat)(H:zl):xh keep H H:=λ_ _=>rfl
def xh.trans{keep:List Nat}{H H' H'':zl}(h:xh keep H H')(h':xh keep H' H''):xh keep H H'':=λid hi=>(h' id hi).trans (h id hi)
def Es(H H':zl)(k:Prop):List Nat->Prop
 |[]=>k
 |id::ids=>H'[id]?=H[id]?/\Es H H' k ids
def E7{H H':zl}{k:Prop}:∀{keep:List Nat},Es H H' k keep->xh keep H H'/\k
 |[],h=>⟨λid hi=>by simp[oo]at hi,h⟩
 |x::xs,h=>by
  obtain⟨h1,h2⟩:=h;obtain⟨h3,h4⟩:=E7 h2;refine⟨λid hi=>?_,h4⟩;unfold oo at hi;split at hi
  ·rename_i e;obtain rfl:=Nat.eq_of_beq_eq_true e;exact h1
  ·exact h3 id hi
def Wx{H H':zl}{id:Nat}(h:H'[id]?=H[id]?)(hops:List fJ):z7 H' id hops=z7 H id hops:=by unfold z7;rw[h]
def Uo{H H':zl}{t:TypeId}{id:Nat}{hops:List fJ}{sz i k:Nat}(h:H'[id]?=H[id]?):wX P H' t (.ref id hops sz i k)=wX P H t (.ref id hops sz i k):=by
 unfold wX oP;simp only[Wx h]
def F6(P:Program)(keep:List Nat)(H:zl)(ρ:Operand->C)(o:Oper)(K:C->zl->Prop):Prop:=
 match o.op with
 |.load t x=>match ρ x with
  |.jP cells=>Eu P H t (.jP cells) λc=>K c H
  |.ref id hops sz i k=>bK (oo keep id) <|Eu P H t (.ref id hops sz i k) λc=>K c H
  |_=>False
 |.call cl=>match cl.callee with
  |.value x=>match ρ x with
   |.fn f first caps=>bK (qi P f) <| ∃r,(∀H2,zb P f H2 (first++(cl.args.toList.map λx=>fU (ρ x))++caps) r H2)/\okB r λr=>K r H
   |_=>False
  |_=>False
 |.makeSlice t x y=>match ρ x,ρ y with
  |.v (.int _ n),.v (.int _ n')=>match P.underlying t with
   |some (.slice e)=>match P.info? e with
    |some i=>match nV P e with
     |some cs=>bK (cs.all xm) <|n'=n/\0<=n/\(i.bytes:Int)*n<=281474976710656/\n<=9223372036854775807/\jq i.size λsz=>K (.eS 0 sz (List.replicate n.toNat cs)) H
     |none=>False
    |none=>False
   |_=>False
  |_,_=>False
 |_=>False
def Ll{keep:List Nat}{o:Oper}{ρ:Operand->C}{H:zl}{K:C->zl->Prop}(h:F6 P keep H ρ o K):∃c,(∀H2,xh keep H H2->fg P o ρ H2 c H2)/\K c H:=by
 unfold F6 at h;split at h
 ·rename_i t x ho;split at h
  ·rename_i cells hx;obtain⟨c,h1,h2⟩:=Fe h;refine⟨c,λH2 _=>.same <|.load t x ho ?_,h2⟩;rw[hx,<-h1]
   rfl
  ·rename_i id hops sz i k hx;obtain⟨h0,h⟩:=zV h;obtain⟨c,h1,h2⟩:=Fe h;refine⟨c,λH2 hs=>.same <|.load t x ho ?_,h2⟩;rw[hx,<-h1];exact Uo (hs id h0)
  ·exact c6
 ·rename_i cl ho;split at h
  ·rename_i x hcl;split at h
   ·rename_i f first caps hf;obtain⟨h1,r,h2,h3⟩:=zV h;exact⟨r,λH2 _=>.JL cl ho x hcl hf h1 (h2 H2),jm (k:=λc=>K c H) h3⟩
   ·exact c6
  ·exact c6
 ·rename_i t x y ho;split at h
  ·rename_i k n k' n' hx hy;split at h
   ·rename_i e hu;split at h
    ·rename_i i hi;split at h
     ·rename_i cs hz;obtain⟨h1,rfl,h2,h3,h4,h5⟩:=zV h;exact⟨_,λH2 _=>.same <|.Uq t x y ho hu hi hz h1 hx hy h2 h3 h4,qq (k:=λsz=>K (.eS 0 sz (List.replicate n'.toNat cs)) H) h5⟩
     ·exact c6
    ·exact c6
   ·exact c6
  ·exact c6
 ·exact c6
def Kl(P:Program)(T:lF)(ops:Array Oper)(o:Oper)(next:Nat->List C->zl->(List C->zl->Prop)->Prop)(k:Nat)(t:List C)(H:zl)(K:List C->zl->Prop):Prop:=
 match jK ops t o with
 |some true=>match T.blind k with
  |true=>F6 P T.keep H (ev t) o λc H'=>mW t o.dst c λt=>next (k+1) t H K
  |false=>match El (T.Ea k) o with
   |true=>nS P H (ev t) o λc H'=>Es H H' (mW t o.dst c λt=>next (k+1) t H' K) T.keep
   |false=>match xD o || Ew o with
    |true=>nS P H (ev t) o λc H'=>mW t o.dst c λt=>next (k+1) t H' K
    |false=>nS P H (ev t) o λc H'=>H'=H/\mW t o.dst c λt=>next (k+1) t H K
 |some false=>mW t o.dst .un λt=>next (k+1) t H K
 |none=>False
def mV(P:Program)(T:lF)(ops:Array Oper)(l:List Oper):Nat->List C->zl->(List C->zl->Prop)->Prop:=
 List.rec (motive:=λ_=>Nat->List C->zl->(List C->zl->Prop)->Prop) (λ_ t H K=>K t H) (λo _ next=>Kl P T ops o next) l
theorem Xc(T:lF)(o:Oper)(l:List Oper)(k:Nat)(t:List C)(H:zl)(K:List C->zl->Prop):mV P T ops (o::l) k t H K=Kl P T ops o (mV P T ops l) k t H K:=rfl
def M6(T:lF)(k:Nat):yC T ops (k+1)=yC T ops k+if iM T ops k then 1 else 0:=by
 unfold yC;rw[List.range_succ,List.filter_append,gE];cases h:iM T ops k <;> simp[h]
def Ic{T:lF}{D:zl}:∀{l:List Oper} {k:Nat} {t:List C} {H:zl} {K:List C->zl->Prop},(∀j,l[j]?=ops[k+j]?)->xh T.keep H D->mV P T ops l k t H K->
  ∃(L:List zl) (t':List C),K t' ((H::L).getLast aj)/\(∀X∈L,xh T.keep H X)/\∀past:List zl,past.length=yC T ops k->(∀X∈past,xh T.keep H X)->
   AN P ops (λi=>((past++H::L)[i]?).getD D) (iM T ops) (yC T ops) (mB T ops) (λt n=>t=t'/\n=yC T ops k+L.length) l k t (yC T ops k)
 |[],k,t,H,K,hl,hD,h=>⟨[],t,h,aj,λpast hp _=>⟨rfl,rfl⟩⟩
 |o::l,k,t,H,K,hl,hD,h=>by
  have h0:ops[k]?=some o:=by simpa using (hl 0).symm
  have hl':∀j,l[j]?=ops[k+1+j]?:=λj=>by have:=hl (j+1);simpa [r9,eJ 1 j] using this
  have he:iM T ops k=(El (T.Ea k) o && !T.blind k):=by unfold iM;rw[h0]
  have hin:∀m,mB T ops k m=((xD o || T.blind k) || m == yC T ops k):=λm=>by unfold mB;rw[h0]
  have all:∀(past L:List zl),(∀X∈past,xh T.keep H X)->(∀X∈L,xh T.keep H X)->∀m:Nat,xh T.keep H (((past++H::L)[m]?).getD D):=λpast L hp hL m=>by
   cases hx:(past++H::L)[m]? with
   |none=>exact hD
   |some X=>
    have:=gh hx;rcases gO.1 this with h1|h1
    ·exact hp X h1
    ·rcases pP.1 h1 with rfl|h1
     ·exact .refl _ _
     ·exact hL X h1
  have quiet:∀c,iM T ops k=false->(∀past L,past.length=yC T ops k->(∀X∈past,xh T.keep H X)->(∀X∈L,xh T.keep H X)->QA P ops (λi=>((past++H::L)[i]?).getD D) (mB T ops k) o c t)->mV P T ops l (k+1) (put t o.dst c) H K->
    ∃(L:List zl) (t':List C),K t' ((H::L).getLast aj)/\(∀X∈L,xh T.keep H X)/\∀past:List zl,past.length=yC T ops k->(∀X∈past,xh T.keep H X)->
     AN P ops (λi=>((past++H::L)[i]?).getD D) (iM T ops) (yC T ops) (mB T ops) (λt n=>t=t'/\n=yC T ops k+L.length) (o::l) k t (yC T ops k):=λc ht hq hK=>by
   obtain⟨L,t',h1,hL,h2⟩:=Ic hl' hD hK;have hc:yC T ops (k+1)=yC T ops k:=by rw[M6,ht];rfl
   rw[hc]at h2;refine⟨L,t',h1,hL,λpast hp hs=>?_⟩;unfold AN mG;rw[h0];exact⟨c,_,.inl ⟨ht,by rw[hin];simp,hq past L hp hs hL,rfl⟩,h2 past hp hs⟩
  have lD:∀c H',iM T ops k=true->EA P ops H H' o c t->xh T.keep H H'->mV P T ops l (k+1) (put t o.dst c) H' K->
    ∃(L:List zl) (t':List C),K t' ((H::L).getLast aj)/\(∀X∈L,xh T.keep H X)/\∀past:List zl,past.length=yC T ops k->(∀X∈past,xh T.keep H X)->
     AN P ops (λi=>((past++H::L)[i]?).getD D) (iM T ops) (yC T ops) (mB T ops) (λt n=>t=t'/\n=yC T ops k+L.length) (o::l) k t (yC T ops k):=λc H' ht hq hsm hK=>by
   have back:xh T.keep H' H:=λid hi=>(hsm id hi).symm
   obtain⟨L,t',h1,hL,h2⟩:=Ic hl' (back.trans hD) hK;have hc:yC T ops (k+1)=yC T ops k+1:=by rw[M6,ht];rfl
   rw[hc]at h2;refine⟨H'::L,t',aq h1,λX hX=>?_,λpast hp hs=>?_⟩
   ·rcases pP.1 hX with rfl|hX
    ·exact hsm
    ·exact hsm.trans (hL X hX)
   have h3:=h2 (past++[H]) (by simp[hp]) (λX hX=>by
    rcases gO.1 hX with h|h
    ·exact back.trans (hs X h)
    ·rw[gN.1 h];exact back)
   unfold AN mG;rw[h0];refine⟨c,yC T ops k+1,.inr ⟨ht,rfl,?_,rfl⟩,?_⟩
   ·have e1:((past++H::H'::L)[yC T ops k]?).getD D=H:=by rw[<-hp];simp
    have e2:((past++H::H'::L)[yC T ops k+1]?).getD D=H':=by rw[<-hp,gK aw];simp
    dsimp only;rw[e1,e2];exact hq
   ·simpa [pA,r9,eJ 1] using h3
  have same:∀(past L:List zl),past.length=yC T ops k->((past++H::L)[yC T ops k]?).getD D=H:=λpast L hp=>by rw[<-hp];simp
  rw[Xc]at h;unfold Kl at h;split at h
  ·rename_i hw;cases hbl:T.blind k with
   |true=>
    rw[hbl]at h;obtain⟨c,h1,h2⟩:=Ll h;exact quiet c (by rw[he,hbl];simp) (λpast L _ hs hL=>.inl ⟨hw,λm _=>h1 _ (all past L hs hL m)⟩) (jx (k:=λt=>mV P T ops l (k+1) t H K) h2)
   |false=>
   rw[hbl]at h;simp only at h;have he2:iM T ops k=El (T.Ea k) o:=by rw[he,hbl];simp
   cases ht:El (T.Ea k) o with
   |true=>
    rw[ht]at h;obtain⟨c,H',h1,h2⟩:=HK h;obtain⟨h3,h4⟩:=E7 h2;exact lD c H' (he2.trans ht) (.inl ⟨hw,h1⟩) h3 (jx (k:=λt=>mV P T ops l (k+1) t H' K) h4)
   |false=>
    rw[ht]at h;simp only at h;cases hb:xD o with
    |true=>
     rw[hb,eL]at h;obtain⟨c,h1,h2⟩:=LI hb h;exact quiet c (he2.trans ht) (λpast L _ _ _=>.inl ⟨hw,λm _=>h1 _⟩) (jx (k:=λt=>mV P T ops l (k+1) t H K) h2)
    |false=>
     rw[hb,rS]at h
     have only:∀c,fg P o (ev t) H c H->∀past L,past.length=yC T ops k->(∀X∈past,xh T.keep H X)->(∀X∈L,xh T.keep H X)->QA P ops (λi=>((past++H::L)[i]?).getD D) (mB T ops k) o c t:=λc h1 past L hp _ _=>.inl ⟨hw,λm hm=>by
      rw[hin,hb,hbl,rS,rS,pq]at hm;subst hm;dsimp only;rw[same past L hp];exact h1⟩
     cases hlo:Ew o with
     |true=>
      rw[hlo]at h;obtain⟨c,h1,h2⟩:=Mp hlo h;exact quiet c (he2.trans ht) (only c h1) (jx (k:=λt=>mV P T ops l (k+1) t H K) h2)
     |false=>
      rw[hlo]at h;obtain⟨c,H',h1,rfl,h2⟩:=HK h;exact quiet c (he2.trans ht) (only c h1) (jx (k:=λt=>mV P T ops l (k+1) t _ K) h2)
  ·rename_i hw;have hK:=jx (k:=λt=>mV P T ops l (k+1) t H K) h;cases ht:iM T ops k with
   |true=>exact lD .un H ht (.inr ⟨hw,rfl,rfl⟩) (.refl _ _) hK
   |false=>exact quiet .un ht (λpast L _ _ _=>.inr ⟨hw,rfl⟩) hK
  ·exact c6
def Run.zyj{id:Nat}{T:lF}{t:List C}{H:zl}{K:List C->zl->Prop}(hm:P.follows .mixedOrders=true)(hB:Region.lexB .any ops=true)(hT:C1 .any T ops=true)(h:mV P T ops ops.toList 0 t H K):
  ∃s',Run P B (.region id ops true) ⟨t,H⟩ .normal s'/\K s'.tmps s'.H:=by
 obtain⟨L,t',h1,_,h2⟩:=Ic (k:=0) (D:=H) aj (.refl _ _) h;have h3:=h2 [] O aj;have hE:BG .any ops (iM T ops)=true:=by simp only[C1,JC,gC]at hT;exact hT.1
 have:=Run.zyi (B:=B) (id:=id) (Hs:=λi=>((H::L)[i]?).getD H) (eff:=iM T ops) (idx:=yC T ops) (inR:=mB T ops) (n':=L.length) (t':=t') hm hB hE (λi j=>UT hT i j) O (by simpa [yC] using h3);refine⟨_,this,?_⟩
 have e:((H::L)[L.length]?).getD H=(H::L).getLast aj:=by
  rw[List.getLast_eq_getElem];simp
 dsimp only;rw[e];exact h1
end
def CS:C->Bool
 |.agg cs=>cs.all xm
 |c=>xm c
def qP(H:zl):Bool:=H.all λob=>match ob.kind with
 |1=>ob.rows.all λr=>r.all zB
 |4=>ob.fz == 0 || (match ob.rows with|[.rc _::t]=>t.all CS|_=>false)
 |_=>true
def EY{H:zl}{id:Nat}{ty:TypeId}{sz fz:Nat}{r r':List C}(hob:H[id]?=some ⟨1,ty,sz,[r],fz⟩)(hno:r.all zB=true)(hno':r'.all zB=true){id':Nat}{p:List fJ}{x:Nat×List (List C)}
 (h:z7 (H.set id ⟨1,ty,sz,[r'],fz⟩) id' p=some x):(id'≠id/\z7 H id' p=some x)\/(id'=id/\p=[]/\x=(sz,[r'])/\z7 H id []=some (sz,[r])):=by
 obtain⟨ob,ho,hk,hg⟩:=ji h;by_cases hi:id'=id
 ·subst hi
  right
  rw[gG,gk O,gk (dY.1 hob).1]at ho;cases ho
  obtain⟨rfl,rfl⟩:=wC (λi k c hc=>by
   obtain⟨rfl,hc⟩:=y7.1 hc;exact gA.1 hno' c (gh hc)) hg
  exact⟨rfl,rfl,rfl,by unfold z7;rw[hob];simp[qS]⟩
 ·left
  refine⟨hi,?_⟩;rw[gG,gf (Ne.symm hi)]at ho;unfold z7;rw[ho];simp only[hk,if_true];exact hg
def qd.Ej{w:World}{E:Env}{H:zl}(h:qd w E H){id:Nat}{ty:TypeId}{sz fz:Nat}{r r':List C}(hob:H[id]?=some ⟨1,ty,sz,[r],fz⟩)(hlen:r'.length=r.length)(hno:r.all zB=true)(hno':r'.all zB=true)
 (hc:∀(k:Nat) c c' u,r[k]?=some c->r'[k]?=some c'->L E c u->w.cell? ⟨E.β id [],k,none⟩=some u->L E c' u):qd w E (H.set id ⟨1,ty,sz,[r'],fz⟩) where
 n:=aq h.n
 fj id' ob p sz' rows' hob' hx:=by
  rcases EY hob hno hno' hx with⟨h1,h2⟩|⟨rfl,rfl,h1,h2⟩
  ·rw[gG,gf (Ne.symm h1)]at hob';exact h.fj id' ob p sz' rows' hob' h2
  ·rw[gG,gk O,gk (dY.1 hob).1]at hob';cases hob'
   cases h1
   have hb:=h.fj _ _ _ _ _ hob h2;refine⟨hb.len,λq hq=>?_,?_⟩
   ·rw[gN.1 hq,hlen];exact hb.row r (gN.2 O)
   ·obtain⟨cur,e,h3,h4,h5⟩:=hb.fj;refine⟨cur,e,h3,h4,?_⟩;intro i k c' hc';obtain⟨rfl,hc'⟩:=y7.1 hc';have hk:k<r.length:=by rw[<-hlen];exact(dY.1 hc').1
    have hk':r[k]?=some r[k]:=by simp[hk]
    obtain⟨u,hu,ho⟩:=h5 0 k r[k] (y7.2 ⟨rfl,hk'⟩);refine⟨u,hu,?_⟩;rw[qW.loose (gA.1 hno _ (gh hk'))]at ho;rw[qW.loose (gA.1 hno' c' (gh hc'))];refine⟨?_,ho.2⟩;have h6:L E r[k] u:=aG
    have h7:L E c' u:=hc k _ _ u hk' hc' h6 (by
     unfold World.cell?;rw[h3];simpa using hu)
    simpa [Env.at] using h7
 inj i p j q x y hx hy he:=by
  have key:∀i p x,z7 (H.set id ⟨1,ty,sz,[r'],fz⟩) i p=some x->∃x',z7 H i p=some x':=λi p x hx=>by
   rcases EY hob hno hno' hx with⟨h1,h2⟩|⟨rfl,rfl,h1,h2⟩
   ·exact⟨x,h2⟩
   ·exact⟨_,h2⟩
  obtain⟨x',hx'⟩:=key i p x hx;obtain⟨y',hy'⟩:=key j q y hy;exact h.inj i p j q x' y' hx' hy' he
 qs:=h.qs
 sep i p x o u hx hu:=by
  rcases EY hob hno hno' hx with⟨h1,h2⟩|⟨rfl,rfl,h1,h2⟩
  ·obtain⟨e1,ob,e2,e3⟩:=h.sep i p x o u h2 hu;exact⟨e1,ob,by rw[gG,gf (Ne.symm h1)];exact e2,e3⟩
  ·obtain⟨e1,ob,e2,e3⟩:=h.sep _ [] _ o u h2 hu;rw[hob]at e2;cases e2
   exact⟨rfl,⟨1,ty,sz,[r'],fz⟩,by rw[gG,gk O,gk (dY.1 hob).1],e3⟩
 ty i ob ho hk:=by
  rw[gG]at ho;split at ho
  ·split at ho
   ·cases ho;cases hk
   ·cases ho
  ·exact h.ty i ob ho hk
 fz i ob ho:=by
  rw[gG]at ho;split at ho
  ·split at ho
   ·cases ho;have:=h.fz id _ hob;exact dF
   ·cases ho
  ·exact h.fz i ob ho
def jI.P2{H:zl}{id:Nat}{ob ob':Ob}(hob:H[id]?=some ob)(h1:ob.kind≠4)(h2:ob'.kind≠4):jI H (H.set id ob'):=λi o h4=>by
 rw[gG];split
 ·rename_i e;subst e;rw[gk (dY.1 hob).1,hob];constructor
  ·intro e;cases e;exact absurd h4 h2
  ·intro e;cases e;exact absurd h4 h1
 ·exact Iff.rfl
def qu.Ej{w:World}{E:Env}{H:zl}(h:qu w E H){id:Nat}{ty:TypeId}{sz fz:Nat}{r r':List C}(hob:H[id]?=some ⟨1,ty,sz,[r],fz⟩)(hlen:r'.length=r.length)(hno:r.all zB=true)(hno':r'.all zB=true)
 (hc:∀(k:Nat) c c' u,r[k]?=some c->r'[k]?=some c'->L E c u->w.cell? ⟨E.β id [],k,none⟩=some u->L E c' u):qu w E (H.set id ⟨1,ty,sz,[r'],fz⟩)/\Grow w E H w E (H.set id ⟨1,ty,sz,[r'],fz⟩):=by
 have hR:=h.base.Ej hob hlen hno hno' hc
 have hG:qA w E H w E (H.set id ⟨1,ty,sz,[r'],fz⟩):=⟨Env.le.refl E,λ_ _ _=>O,rfl,rfl,rfl,gD _,λ_ _ _=>O,λ_ _ _ h=>.inl h,λb ⟨i,p,x,hx,he⟩=>by
  rcases EY hob hno hno' hx with⟨h1,h2⟩|⟨rfl,rfl,h1,h2⟩
  ·exact .inr ⟨i,p,x,h2,he⟩
  ·exact .inr ⟨_,[],_,h2,he⟩⟩
 have hk:=jI.P2 (ob':=⟨1,ty,sz,[r'],fz⟩) hob (λe=>by cases e) (λe=>by cases e);exact⟨⟨hR,mK.step h hG hk⟩,hG.up h hk⟩
section
variable {B:Nat} {s:S}
def zn.var(id:Nat){ty:TypeId}{sz fz:Nat}{r r':List C}(hob:s.H[id]?=some ⟨1,ty,sz,[r],fz⟩)(hno:r.all zB=true)(hno':r'.all zB=true)(hw:iH r r'):zn B s ⟨s.tmps,s.H.set id ⟨1,ty,sz,[r'],fz⟩⟩:=λm w E a hs=>by
 have hlen:∀{a b:List C},iH a b->b.length=a.length:=by
  intro a b h
  induction h with
  |nil=>rfl
  |cons _ _ ih=>simp[ih]
 have hget:∀{a b:List C},iH a b->∀(k:Nat) c c',a[k]?=some c->b[k]?=some c'->WC c c':=by
  intro a b h
  induction h with
  |nil=>intro k c c' h;simp at h
  |cons h1 _ ih=>
   intro k c c' e1 e2;cases k with
   |zero=>simp at e1 e2;subst e1 e2;exact h1
   |succ k=>exact ih k c c' (aq e1) uZ
 obtain⟨hR,g⟩:=hs.heap.Ej hob (hlen hw) hno hno' λk c c' u e1 e2 hl _=>hget hw k c c' e1 e2 E u hl
 exact⟨E,⟨hR,hs.tmps,hs.defers,aq hs.base⟩,g.ix tG⟩
def zn.Ae(id k:Nat)(ty':TypeId)(sz':Nat){ty:TypeId}{sz fz sz0:Nat}{r:List C}{rows:List (List C)}(hob:s.H[id]?=some ⟨1,ty,sz,[r],fz⟩)(hk:r[k]?=some (.eS 1 sz0 rows))(hz:rows=[]\/sz'=sz0)(hno:r.all zB=true)
 (hno':(r.set k (.gl s.H.length sz' rows)).all zB=true):
  zn B s ⟨s.tmps,s.H.set id ⟨1,ty,sz,[r.set k (.gl s.H.length sz' rows)],fz⟩++[⟨4,ty',sz',rows,0⟩]⟩:=λm w E a hs=>by
 have hgb:z7 s.H id []=some (sz,[r]):=by unfold z7;rw[hob];simp[qS]
 have hb:=hs.heap.base.fj _ _ _ _ _ hob hgb;obtain⟨cur,e,h3,h4,h5⟩:=hb.fj;obtain⟨u,hu,ho⟩:=h5 0 k _ (y7.2 ⟨rfl,hk⟩);rw[qW.loose O]at ho;have hl:L E (.eS 1 sz0 rows) u:=aG
 obtain⟨E1,hh1,hl1,g1⟩:=hs.heap.Ft hl ty' hz;have eU:id<s.H.length:=(dY.1 hob).1;have hob1:(s.H++[⟨4,ty',sz',rows,0⟩])[id]?=some ⟨1,ty,sz,[r],fz⟩:=by rw[gz eU];exact hob
 have hβ:E1.β id []=E.β id []:=g1.le.β id [] (by rw[hs.heap.n];exact eU)
 have hcu:w.cell? ⟨E1.β id [],k,none⟩=some u:=by
  unfold World.cell?;rw[hβ,h3];simpa using hu
 obtain⟨hR,g2⟩:=hh1.Ej hob1 (r':=r.set k (.gl s.H.length sz' rows)) aj hno hno' λj c c' v e1 e2 hl' hv=>by
  rw[gG]at e2;split at e2
  ·rename_i e;subst e;rw[hcu]at hv;cases hv
   split at e2
   ·cases e2;exact hl1
   ·cases e2
  ·rw[e1]at e2;cases e2
   exact hl'
 rw[u6 _ _ eU]at hR g2;exact dm
end
def HZ(w:World)(o:Obj){k:Nat}(h:k<w.heap.size):(w.alloc o).heap[k]?=w.heap[k]?:=by
 show(w.heap.push o)[k]?=_;rw[Array.getElem?_push,gf aw]
def U6{P:Program}{g:Operand}{ps:Array Tmp}{assign body:Code}{B m:Nat}{H:zl}{t:List C}{f:FuncId}{caps:List C}{w:World}{E:Env}{a:Act}{Q:Exit->Act->World->Prop}
 (hs:xR B m w E ⟨t,H⟩ a)(hg:ev t g=.fn f [] caps)(hcb:qi P f=true)
 (hit:∀(l:Nat) (r:Loop),r.state=.ready->r.pending=none->r.params=ps->r.assign=assign->r.body=body->
   ∃(rr:C) (Hf:zl) (rf:Loop),zb P f (H++[fZ l r t]) (.v (.func (.yield l) #[] #[])::caps) rr Hf/\Hf[H.length]?=some (fZ l rf t)/\rf.state≠.busy/\rf.tmps=r.tmps/\B<=Hf.length/\
   ∀w' E' a',xR B m w' E' ⟨t,Hf.set H.length (fZ l {rf with state:=.exhausted} t)⟩ a'->jG B w E H w' E' (Hf.set H.length (fZ l {rf with state:=.exhausted} t))->
    match rf.pending with|none=>Q .normal a' w'|some c=>c.wpIn (fw none) 0 P Q a' w'):
  (Code.rangeFunc g ps assign body).wpIn (fw none) 0 P Q a w:=by
 have hm:=hs.defers.le;refine wpIn_rangeFunc ?_;intro fn _;obtain⟨r,hr⟩:∃r:Loop,r={state:=.ready,pending:=none,fn,tmps:=a.tmps,params:=ps,assign,body,defers:=w.heap.size}:=⟨_,rfl⟩;obtain⟨W1,hW1⟩:∃W1,W1=(w.alloc (.deferred (some []))).alloc (.loop r):=⟨_,rfl⟩
 have hL1:W1.heap[w.heap.size+1]?=some (.loop r):=by
  rw[hW1];have:=World.alloc_heap_new (w.alloc (.deferred (some []))) (.loop r);rwa [World.size_alloc]at this
 have hK1:W1.heap[w.heap.size]?=some (.deferred (some [])):=by
  rw[hW1];exact(HZ _ _ aj).trans (World.alloc_heap_new w _)
 have hsame:∀k,k<w.heap.size->W1.heap[k]?=w.heap[k]?:=λk hk=>by
  rw[hW1];exact(HZ _ _ aA).trans (HZ _ _ hk)
 have hsz:W1.heap.size=w.heap.size+2:=by rw[hW1];simp
 have hv:=EL hs.tmps g;rw[hg]at hv
 obtain⟨zs,hσ,hzs⟩:∃zs,a.eval g=.func (.func f) #[] zs/\LL E caps zs.toList:=by
  generalize a.eval g=u at *;cases hv with
  |fn f first caps ys zs h1 h2 h3 h4=>
   have:ys= #[]:=aq h1.symm
   subst this;exact⟨zs,rfl,aq h2,λi c y e1 e2=>h4 i c y e1 uZ⟩
 obtain⟨E1,hR1,G1⟩:=hs.heap.Zi (w:=W1) (l:=w.heap.size+1) (r:=r) (t:=t) hsame (by rw[hW1];rfl) (by rw[hW1];rfl) (by rw[hW1];rfl) aw hL1 aw (by rw[hr];exact hs.tmps);obtain⟨rr,Hf,rf,hS,hHf,hbusy,htm,hB,hQ⟩:=hit (w.heap.size+1) r (by rw[hr]) (by rw[hr]) (by rw[hr]) (by rw[hr]) (by rw[hr])
 have eg:∀(args:Array Value),(callFunc f args).run P W1=.ok (.enter f args) W1:=by
  intro args;unfold qi at hcb;split at hcb
  rotate_left
  ·cases hcb
  rename_i fn hfn;simp only[gC,pJ]at hcb;have hname : fn.name ≠ "runtime.NumGoroutine" := by simpa using hcb.1
  have hbody:fn.body≠none:=bF
  simp[callFunc,hfn,hname,hbody]
 refine⟨w.heap.size+1,[BO w.heap.size],W1,{target:=.fn (.func f) zs,args:= #[.func (.yield (w.heap.size+1)) #[] #[]]},W1,f, #[.func (.yield (w.heap.size+1)) #[] #[]]++zs,W1,?_,?_,λ_ _=>trivial,?_,λh=>aT,?_⟩
 ·rw[hW1,hr];exact run_enterLoop_outer _ _ _ _ _
 ·simp only[resolve,hσ];simp[go_sem]
 ·simp[invoke,go_sem,eg]
 ·refine(callsIn_wide (n:=0)).2 ((hS W1 E1 _ hR1 ?_).mono ?_)
  ·have:=(LL.one (.v _ rfl:L E1 (.v (.func (.yield (w.heap.size+1)) #[] #[])) (.func (.yield (w.heap.size+1)) #[] #[]))).append (hzs.mono G1.le);simpa using this
  ·rintro e w3 ⟨v,E3,rfl,hR3,_,G3⟩;obtain⟨⟨hL3,_⟩,ht3⟩:=hR3.eX.iw H.length _ (.loop rf) t hHf O ⟨rfl,rfl⟩;obtain⟨hR4,G4⟩:=hR3.FL (r':={rf with state:=.exhausted}) hHf O;have hend:=run_endLoop (P:=P) hL3 hbusy;have G:=(G1.trans G3).trans G4;have hn:B<=E.n:=by rw[hs.heap.n];exact hs.base
   have hD:(w3.putObj (w.heap.size+1) (.loop {rf with state:=.exhausted})).heap[w.heap.size]?=some (.deferred (some [])):=by
    rw[World.putObj_heap_other aw];exact(G3.frame _ aw (hR1.free hK1)).trans hK1
   have h4:xR B m (w3.putObj (w.heap.size+1) (.loop {rf with state:=.exhausted})) E3 ⟨t,Hf.set H.length (fZ (w.heap.size+1) {rf with state:=.exhausted} t)⟩ {a with defers:=[BO w.heap.size]++a.defers}:=by
    refine⟨hR4,hs.tmps.mono G.le,⟨⟨w.heap.size,rfl,hm,hD,?_⟩,hs.defers.grow hs.heap G⟩,aq hB⟩;intro hmem
    have key:∀{ds:List Deferred},Marks m w ds->BO w.heap.size∉ds:=by
     intro ds
     induction ds with
     |nil=>intro _ h;cases h
     |cons d ds ih=>
      rintro⟨⟨D,h1,_,h3,_⟩,ht⟩ h;rcases pP.1 h with h5|h5
      ·rw[h1]at h5;have:w.heap.size=D:=by simpa [BO] using h5
       have:=(gL.1 h3).1;omega
      ·exact ih ht h5
    exact key hs.defers hmem
   have:=hQ _ _ _ h4 (G.ix hn);refine⟨rf.pending,_,hend,?_⟩;exact dF
def PW:Option Code->Exit->Prop
 |none,.normal=>True
 |some .ret,.ret=>True
 |some (.exit i),.exit j=>i=j
 |_,_=>False
def qO.rangeFunc{P:Program}{g:Operand}{ps:Array Tmp}{assign body:Code}{B:Nat}{H:zl}{t:List C}{f:FuncId}{caps:List C}{R:Exit->S->Prop}(hg:ev t g=.fn f [] caps)(hcb:qi P f=true)
 (hit:∀(l:Nat) (r:Loop),r.state=.ready->r.pending=none->r.params=ps->r.assign=assign->r.body=body->
   ∃(rr:C) (Hf:zl) (rf:Loop) (ex:Exit) (s':S),zb P f (H++[fZ l r t]) (.v (.func (.yield l) #[] #[])::caps) rr Hf/\Hf[H.length]?=some (fZ l rf t)/\rf.state≠.busy/\rf.tmps=r.tmps/\B<=Hf.length/\PW rf.pending ex/\
    zn B ⟨t,Hf.set H.length (fZ l {rf with state:=.exhausted} t)⟩ s'/\R ex s'):qO P B (.rangeFunc g ps assign body) ⟨t,H⟩ R:=λq m w E a Q hr hs hq=>by
 obtain rfl:=hr O;refine U6 hs hg hcb λl r h1 h2 h3 h4 h5=>?_
 obtain⟨rr,Hf,rf,ex,s',a1,a2,a3,a4,a5,a6,a7,a8⟩:=hit l r h1 h2 h3 h4 h5;refine⟨rr,Hf,rf,a1,a2,a3,a4,a5,λw' E' a' hs' g'=>?_⟩;obtain⟨E2,hs2,g2⟩:=a7 m w' E' a' hs';have hq':=hq ex s' w' E2 a' a8 hs2 (g'.trans g2);generalize rf.pending=pe at a6
 match pe,ex,a6 with
 |none,.normal,_=>exact hq'
 |some .ret,.ret,_=>exact wpIn_ret hq'
 |some (.exit i),.exit j,h=>cases h;exact wpIn_exit hq'
def NM(o:Oper):Option TypeId:=match o.op with
 |.makeMap t r=>match r with
  |none=>some t
  |some _=>none
 |_=>none
def Y9(P:Program)(t:TypeId):Bool:=match P.underlying t with
 |some (.map _ e)=>match P.underlying e with
  |some (.int _)=>false
  |some .bool=>false
  |some .string=>false
  |_=>true
 |_=>false
noncomputable def hasC(H:zl):Bool:=List.rec (motive:=λ_=>Bool) false (λob _ next=>match ob with
 |⟨kind,_,sz,_,fz⟩=>match kind with
  |4=>match sz with
   |2=>match fz with
    |1=>true
    |_=>next
   |_=>next
  |_=>next) H
noncomputable def mapRel(H:zl)(ρ:Operand->C)(o:Oper):Bool:=match o.op with
 |.range _ _=>true
 |.next _ _=>true
 |.entry _=>true
 |.insert _ _ _ _=>true
 |.mapUpdate _ _ _ _=>hasC H
 |.call cl=>match cl.callee with
  |.builtin b=>match b with
   |.delete=>true
   |.append=>match cl.args.toList with
    |x::_=>match ρ x with
     |.gl _ _ _=>hasC H
     |.eS _ sz _=>match sz with
      |99=>true
      |_=>false
     |_=>false
    |[]=>false
   |_=>false
  |_=>false
 |_=>false
def zy5(P:Program)(t:TypeId):Bool:=
 match P.underlying t with
 |some (.pointer _)=>true
 |some (.map _ _)=>true
 |some (.tuple es)=>match es.toList with
  |u::_=>match P.underlying u with
   |some (.pointer _)=>true
   |_=>false
  |[]=>false
 |_=>false
def PZ(P:Program)(ρ:Operand->C)(o:Oper):Option (FuncId×List C):=
 match o.op with
 |.call cl=>match cl.callee with
  |.value x=>match ρ x with
   |.fn f first caps=>match qi P f with
    |true=>some (f,first++(cl.args.toList.map λx=>fU (ρ x))++caps)
    |false=>none
   |_=>none
  |_=>none
 |_=>none
def J2(P:Program)(ρ:Operand->C)(o:Oper):Option (FuncId×List C):=
 match zy5 P o.type with
 |true=>PZ P ρ o
 |false=>none
def jJ.call{P:Program}{H:zl}{ρ:Operand->C}{o:Oper}{f:FuncId}{args:List C}{R:C->zl->Prop}(h:J2 P ρ o=some (f,args))(hs:ql P f H args R):jJ P o ρ H R:=λw E σ hh hl _ K hk=>by
 unfold J2 at h;split at h
 rotate_left
 ·cases h
 unfold PZ at h;split at h
 rotate_left
 ·cases h
 rename_i cl ho;split at h
 rotate_left
 ·cases h
 rename_i x hcl;split at h
 rotate_left
 ·cases h
 rename_i f' first caps hf;split at h
 rotate_left
 ·cases h
 rename_i hcb;cases h
 have hl:∀x∈o.op.operands,L E (Ab.fU (ρ x)) (σ x):=λx hx=>AL (hl x hx)
 have h0:=hl x bE;rw[hf]at h0;have h0:L E (.fn f first caps) (σ x):=h0
 obtain⟨ys,zs,hv,h1,h2,h3,h4⟩:∃ys zs,σ x=.func (.func f) ys zs/\first.length=ys.size/\caps.length=zs.size/\(∀(i:Nat) c y,first[i]?=some c->ys[i]?=some y->L E c y)/\(∀(i:Nat) c y,caps[i]?=some c->zs[i]?=some y->L E c y):=by
  generalize σ x=u at *;cases h0 with
  |fn f first caps ys zs h1 h2 h3 h4=>exact⟨ys,zs,rfl,h1,h2,h3,h4⟩
 unfold qi at hcb;split at hcb
 rotate_left
 ·cases hcb
 rename_i fn hfn;simp only[gC,pJ]at hcb;have hname : fn.name ≠ "runtime.NumGoroutine" := by simpa using hcb.1
 have hbody:fn.body≠none:=bF
 have hr:(execOp σ o).run P w=.ok (.enter f (ys++cl.args.map σ++zs)) w:=by
  unfold execOp;simp[ho,resolve,hcl,hv,Deferred.ofValue,invoke,callFunc,hfn,hname,hbody]
 rw[hr];refine(hs w E (ys++cl.args.map σ++zs) hh ?_).mono ?_
 ·have e1:LL E first ys.toList:=⟨aq h1,λi c y e1 e2=>h3 i c y e1 uZ⟩;have e2:LL E caps zs.toList:=⟨aq h2,λi c y e1 e2=>h4 i c y e1 uZ⟩
  have e3:LL E (cl.args.toList.map λx=>Ab.fU (ρ x)) (cl.args.map σ).toList:=by
   refine⟨aj,?_⟩;intro i c y hc hy;rw[gj]at hc;rw[uy,gj]at hy;cases ha:cl.args.toList[i]? with
   |none=>rw[ha]at hc;cases hc
   |some a=>
    rw[ha]at hc hy;cases hc
    cases hy
    exact dN
  have:=(e1.append e3).append e2;simpa using this
 ·rintro e w' ⟨c,H',v,E',hR,rfl,h5,h6,h7⟩;exact⟨v,rfl,hk c H' v w' E' hR h5 h6 h7⟩
def Kd(o:Oper):Option (BinOp×TypeId×Operand):=
 match o.op with
 |.binOp op t x y _=>match y with
  |.const v=>match v with
   |.nilFunc=>some (op,t,x)
   |_=>none
  |_=>none
 |_=>none
def Js(x:C):Option Bool:=
 match x with
 |.fn ..=>some false
 |.v y=>match y with
  |.nilFunc=>some true
  |_=>none
 |_=>none
def Lj{x:C}{b:Bool}(h:Js x=some b):∀E u,L E x u->(b=true/\u=.nilFunc)\/(b=false/\∃f ys zs,u=.func f ys zs):=by
 intro E u hl;unfold Js at h;split at h
 ·cases h;cases hl;exact .inr ⟨rfl,_,_,_,rfl⟩
 ·split at h
  ·cases h;cases hl;exact .inl ⟨rfl,rfl⟩
  ·cases h
 ·cases h
def Co(P:Program)(t:TypeId):Bool:=
 match P.underlying t with
 |some (.func ..)=>true
 |_=>false
def GW(P:Program)(H:zl)(op:BinOp)(t:TypeId)(x:C)(K:C->zl->Prop):Prop:=
 match Js x with
 |some b=>match op with
  |.eql=>bK (Co P t) <|K (.v (.bool b)) H
  |.neq=>bK (Co P t) <|K (.v (.bool (!b))) H
  |_=>False
 |none=>False
def SO{P:Program}(w:World)(d:Nat)(t:TypeId)(ht:Co P t=true)(y:Value)(n:Bool)(hy:(n=true/\y=.nilFunc)\/(n=false/\∃f xs ys,y=.func f xs ys)):(Op.equalIn (d+1) t y .nilFunc).run P w=.ok n w:=by
 unfold Co at ht;split at ht
 rotate_left
 ·cases ht
 rename_i a b c hu;rcases hy with⟨rfl,rfl⟩|⟨rfl,f,xs,ys,rfl⟩ <;> simp[Op.equalIn,run_underlying hu]
def Vo{P:Program}(w:World)(t:TypeId)(ht:Co P t=true)(y:Value)(n:Bool)(hy:(n=true/\y=.nilFunc)\/(n=false/\∃f xs ys,y=.func f xs ys)):(Op.equal t y .nilFunc).run P w=.ok n w:=SO w 9999 t ht y n hy
def mT.PA{P:Program}{o:Oper}{ρ:Operand->C}{H:zl}(op:BinOp)(t t':TypeId)(x:Operand)(ho:o.op=.binOp op t x (.const .nilFunc) t')(hop:op=.eql\/op=.neq)(ht:Co P t=true)(b:Bool)
 (hx:∀E u,L E (ρ x) u->(b=true/\u=.nilFunc)\/(b=false/\∃f ys zs,u=.func f ys zs)):mT P o ρ H (.v (.bool (if op=.eql then b else !b))) H:=λw E σ hh hl hc K hk=>by
 have hv:=hx E _ (hl x uY);have he:=Vo w t ht _ _ hv
 have hr:(execOp σ o).run P w=.ok (.value (.bool (if op=.eql then b else !b))) w:=by
  unfold execOp;rcases hv with⟨rfl,hv⟩|⟨rfl,f,ys,zs,hv⟩ <;> rw[hv]at he <;> rcases hop with rfl|rfl <;> simp[ho,hv,hc,eqGuard,binOp,he]
 rw[hr];exact hk _ w E hh (.v _ O) (Grow.refl w E H)
def Ya{P:Program}{o:Oper}{ρ:Operand->C}{H:zl}{K:C->zl->Prop}{op:BinOp}{t:TypeId}{x:Operand}(ho:Kd o=some (op,t,x))(h:GW P H op t (ρ x) K):∃c,mT P o ρ H c H/\K c H:=by
 obtain⟨t',ho⟩:∃t',o.op=.binOp op t x (.const .nilFunc) t':=by
  unfold Kd at ho;split at ho
  ·rename_i h1;split at ho
   ·split at ho
    ·cases ho;exact⟨_,h1⟩
    ·cases ho
   ·cases ho
  ·cases ho
 unfold GW at h;split at h
 ·rename_i b hb;split at h
  ·exact⟨_,.PA .eql t t' x ho (.inl O) (zV h).1 b (Lj hb),(zV h).2⟩
  ·exact⟨_,.PA .neq t t' x ho (.inr O) (zV h).1 b (Lj hb),(zV h).2⟩
  ·exact c6
 ·exact c6
def lq(P:Program)(H:zl)(ρ:Operand->C)(o:Oper)(K:C->zl->Prop):Prop:=
 match JO o with
 |some (op,ty,x)=>Kj P H op ty (ρ x) K
 |none=>match J1 o with
  |some (op,ty,x)=>J8 P H op ty (ρ x) K
  |none=>match Kd o with
  |some (op,ty,x)=>GW P H op ty (ρ x) K
  |none=>match J2 P ρ o with
  |some (f,args)=>∃R,ql P f H args R/\∀r H',R r H'->K r H'
  |none=>match mapRel H ρ o with
   |true=>jJ P o ρ H K
   |false=>match NM o with
    |some t=>match Y9 P t with
     |true=>∀b:Nat,xp (H++[Cr b [] 0 []]) λH'=>K (.v (.map (some b))) H'
     |false=>∀b:Nat,xp (H++[fN b #[] 0]) λH'=>K (.v (.map (some b))) H'
    |none=>nS P H ρ o K
def FB{P:Program}{H:zl}{ρ:Operand->C}{o:Oper}{K:C->zl->Prop}(h:lq P H ρ o K):jJ P o ρ H K:=by
 unfold lq at h;split at h
 ·rename_i op ty x hn;exact VN hn h
 ·split at h
  ·rename_i op ty x hn;obtain⟨c,h1,h2⟩:=Xi hn h;exact h1.lM h2
  split at h
  ·rename_i op ty x hn;obtain⟨c,h1,h2⟩:=Ya hn h;exact h1.lM h2
  ·split at h
   ·rename_i f args hn;obtain⟨R,h1,h2⟩:=h;exact jJ.call hn (λw E vs hh hl=>(h1 w E vs hh hl).mono λe w' ⟨r,H',v,E',hR,h3⟩=>⟨r,H',v,E',h2 r H' hR,h3⟩)
   split at h
   ·exact h
   split at h
   ·rename_i t hm
    have ho:o.op=.makeMap t none:=by
     unfold NM at hm;split at hm
     ·rename_i ho;split at hm
      ·cases hm;exact ho
      ·cases hm
     ·cases hm
    split at h
    ·exact .XS t ho λb=>jf (h b)
    ·exact .makeMap t ho λb=>jf (h b)
   ·obtain⟨c,H',h1,h2⟩:=HK h;exact h1.lM h2
def Dw(P:Program)(ops:Array Oper)(o:Oper)(next:List C->zl->(List C->zl->Prop)->Prop)(t:List C)(H:zl)(K:List C->zl->Prop):Prop:=
 match jK ops t o with
 |some true=>lq P H (ev t) o λc H'=>mW t o.dst c λt=>next t H' K
 |some false=>mW t o.dst .un λt=>next t H K
 |none=>False
def lY(P:Program)(ops:Array Oper)(l:List Oper):List C->zl->(List C->zl->Prop)->Prop:=
 List.rec (motive:=λ_=>List C->zl->(List C->zl->Prop)->Prop) (λt H K=>K t H) (λo _ next=>Dw P ops o next) l
theorem HQ(P:Program)(ops:Array Oper)(o:Oper)(l:List Oper)(t:List C)(H:zl)(K:List C->zl->Prop):lY P ops (o::l) t H K=Dw P ops o (lY P ops l) t H K:=rfl
section
variable {P:Program} {B:Nat} {ops:Array Oper}
def HR:∀{l:List Oper} {t:List C} {H:zl} {K:List C->zl->Prop},lY P ops l t H K->kS P B ops l ⟨t,H⟩ λs'=>K s'.tmps s'.H
 |[],t,H,K,h=>.nil h
 |o::l,t,H,K,h=>by
  rw[HQ]at h;unfold Dw at h;split at h
  ·rename_i hw;refine .run (s:=⟨t,H⟩) hw (.D6 (s:=⟨t,H⟩) (FB h)) ?_;rintro s1 ⟨c,H',h1,rfl⟩;exact HR (jx (k:=λt=>lY P ops l t H' K) h1)
  ·rename_i hw;exact .pass (s:=⟨t,H⟩) hw (HR (jx (k:=λt=>lY P ops l t H K) h))
  ·exact c6
abbrev WK:=List C->zl->(Exit->List C->zl->Prop)->Prop
def zy9(x y:WK):WK:=λt H K=>x t H λex t H=>match ex with
 |.normal=>y t H K
 |ex=>K ex t H
def ZU(id:Nat)(c:WK):WK:=λt H K=>c t H λex t H=>match ex with
 |.exit id'=>if id'=id then K .normal t H else K (.exit id') t H
 |ex=>K ex t H
def JT(c:Operand)(x y:WK):WK:=λt H K=>match ev t c with
 |.v (.bool b)=>match b with
  |true=>x t H K
  |false=>y t H K
 |_=>False
noncomputable def readyB(all:List Bool)(ops:List Oper):List Bool->Nat->List Nat:=
 List.rec (motive:=λ_=>List Bool->Nat->List Nat) (λ_ _=>[]) (λo _ ih bs k=>match bs with
  |[]=>[]
  |b::bs=>match b with
   |true=>ih bs (k+1)
   |false=>match o.after.toList.all (λe=>!Region.binds .any e || all.getD e.on false) with
    |true=>k::ih bs (k+1)
    |false=>ih bs (k+1)) ops
noncomputable def bothK(f:Nat->Prop)(l:List Nat):Prop:=List.rec (motive:=λ_=>Prop) True (λi _ ih=>f i/\ih) l
structure lZ where
 bl:List Nat:=[]
 keep:List Nat:=[]
 flat:Bool:=false
def XC(T:lZ)(H0 H:zl):Prop:=xh T.keep H0 H/\(T.flat=true->qP H=true)
noncomputable def pickE(bl:List Nat)(ops:Array Oper)(t:List C)(l:List Nat):Option Nat:=
 List.rec (motive:=λ_=>Option Nat) none (λi _ ih=>match ops[i]? with
  |some o=>match xD o || oo bl i with
   |true=>some i
   |false=>match jK ops t o with
    |some b=>match b with
     |true=>ih
     |false=>some i
    |none=>ih
  |none=>ih) l
def Jh(P:Program)(T:lZ)(H:zl)(ρ:Operand->C)(o:Oper)(K:C->zl->Prop):Prop:=
 match o.op with
 |.call cl=>match cl.callee with
  |.value x=>match ρ x with
   |.fn f first caps=>bK (qi P f) <| ∃r,(∀H2,XC T H H2->zb P f H2 (first++(cl.args.toList.map λx=>fU (ρ x))++caps) r H2)/\okB r λr=>K r H
   |_=>False
  |_=>False
 |_=>F6 P T.keep H ρ o K
def iC(P:Program)(T:lZ)(ops:Array Oper)(o:Oper)(k:Nat)(next:List C->zl->(List C->zl->Prop)->Prop)(t:List C)(H:zl)(K:List C->zl->Prop):Prop:=
 match jK ops t o with
 |some true=>match oo T.bl k with
  |true=>Jh P T H (ev t) o λc H'=>mW t o.dst c λt=>next t H' K
  |false=>match xD o with
   |true=>nS P H (ev t) o λc H'=>mW t o.dst c λt=>next t H' K
   |false=>False
 |some false=>mW t o.dst .un λt=>next t H K
 |none=>False
def JW(T:lZ)(H H':zl)(k:Prop):Prop:=match T.flat with
 |true=>qP H'=true/\Es H H' k T.keep
 |false=>Es H H' k T.keep
def oB(P:Program)(T:lZ)(ops:Array Oper)(o:Oper)(next:List C->zl->(List C->zl->Prop)->Prop)(t:List C)(H:zl)(K:List C->zl->Prop):Prop:=
 match jK ops t o with
 |some true=>match Ew o with
  |true=>nS P H (ev t) o λc H'=>mW t o.dst c λt=>next t H' K
  |false=>lq P H (ev t) o λc H'=>JW T H H' (mW t o.dst c λt=>next t H' K)
 |some false=>mW t o.dst .un λt=>next t H K
 |none=>False
noncomputable def bruteK(P:Program)(T:lZ)(ops:Array Oper)(n:Nat):List Bool->List C->zl->(List C->zl->Prop)->Prop:=
 Nat.rec (motive:=λ_=>List Bool->List C->zl->(List C->zl->Prop)->Prop)
  (λlisted t H K=>match readyB listed ops.toList listed 0 with
   |[]=>K t H
   |_::_=>False)
  (λ_ ih listed t H K=>match readyB listed ops.toList listed 0 with
   |[]=>K t H
   |i::is=>match pickE T.bl ops t (i::is) with
    |some i=>match ops[i]? with
     |some o=>iC P T ops o i (λt H K=>ih (listed.set i true) t H K) t H K
     |none=>False
    |none=>bothK (λi=>match ops[i]? with
     |some o=>oB P T ops o (λt H K=>ih (listed.set i true) t H K) t H K
     |none=>False) (i::is)) n
def OZ(md:Region.Mode)(ops:Array Oper)(ms:List Nat):Bool:=
 (List.range ops.size).all λi=>(List.range ops.size).all λj=>Nat.beq j i || nY md ops ms i j || match ops[i]?,ops[j]? with
  |some oi,some oj=>(oj.after.any λe=>Region.binds md e && e.on == i) || oi.apart ops oj
  |_,_=>true
def CC(md:Region.Mode)(ops:Array Oper):Bool:=OZ md ops (ns md ops)
noncomputable def regionK(P:Program)(B:Nat)(ops:Array Oper)(draw:Bool):WK:=λt H K=>match draw with
 |false=>lY P ops ops.toList t H λt H=>K .normal t H
 |true=>(∃T:lF,(P.follows .mixedOrders && Region.lexB .any ops && C1 .any T ops)=true/\mV P T ops ops.toList 0 t H λt H=>K .normal t H)\/
  ∃T:lZ,(P.follows .mixedOrders && CC .any ops)=true/\(T.flat=true->qP H=true)/\∃R:List C->zl->Prop,bruteK P T ops ops.size (ops.toList.map λ_=>false) t H (λt1 H1=>∃t2 H2,zn B ⟨t1,H1⟩ ⟨t2,H2⟩/\R t2 H2)/\∀t2 H2,R t2 H2->K .normal t2 H2
def L3{all:List Bool}:∀{os:List Oper} {bs:List Bool} {k i:Nat},i∈readyB all os bs k↔∃j o,i=k+j/\os[j]?=some o/\bs[j]?=some false/\o.after.toList.all (λe=>!Region.binds .any e || all.getD e.on false)=true
 |[],bs,k,i=>by simp[readyB]
 |o::os,[],k,i=>by
  have e:readyB all (o::os) [] k=[]:=rfl;rw[e];simp
 |o::os,b::bs,k,i=>by
  have e:readyB all (o::os) (b::bs) k=match b with
   |true=>readyB all os bs (k+1)
   |false=>match o.after.toList.all (λe=>!Region.binds .any e || all.getD e.on false) with
    |true=>k::readyB all os bs (k+1)
    |false=>readyB all os bs (k+1):=rfl
  have ih:=L3 (all:=all) (os:=os) (bs:=bs) (k:=k+1) (i:=i)
  have split:(∃j o',i=k+j/\(o::os)[j]?=some o'/\(b::bs)[j]?=some false/\o'.after.toList.all (λe=>!Region.binds .any e || all.getD e.on false)=true)↔
    (i=k/\b=false/\o.after.toList.all (λe=>!Region.binds .any e || all.getD e.on false)=true)\/i∈readyB all os bs (k+1):=by
   rw[ih];constructor
   ·rintro⟨j,o',h1,h2,h3,h4⟩;cases j with
    |zero=>simp at h2 h3;subst h2;exact .inl ⟨aw,h3,h4⟩
    |succ j=>exact .inr ⟨j,o',aw,aq h2,aq h3,h4⟩
   ·rintro(⟨h1,h2,h3⟩|⟨j,o',h1,h2,h3,h4⟩)
    ·exact⟨0,o,aw,rfl,bG,h3⟩
    ·exact⟨j+1,o',aw,aq h2,aq h3,h4⟩
  rw[split,e];cases b with
  |true=>simp
  |false=>
   dsimp only;split
   ·rename_i h;rw[h];simp only[pP,and_true]
   ·rename_i h;rw[h];simp only[sj,and_false,false_or]
def D8{ops:Array Oper}{listed:Array Bool}(hl:listed.size=ops.size)(i:Nat):i∈Region.ready .any ops listed↔i∈readyB listed.toList ops.toList listed.toList 0:=by
 rw[L3];unfold Region.ready;rw[List.mem_filter,rp]
 have z8:∀o:Oper,o.after.toList.all (λe=>!Region.binds .any e || listed.toList.getD e.on false)=o.after.all (λe=>!Region.binds .any e || listed.getD e.on false):=λo=>by
  rw[<-sI]
  congr 1
  funext e
  rw[rA,pa,pG]
 constructor
 ·rintro⟨h1,h2⟩;rw[gC]at h2;obtain⟨h2,h3⟩:=h2;obtain⟨o,ho⟩:∃o,ops[i]?=some o:=⟨ops[i],aD⟩;rw[ho]at h3;simp only[gF,pL]at h3;refine⟨i,o,aw,by rw[pa];exact ho,?_,by rw[z8];exact h3⟩;rw[pa];rw[pG,rO aw]at h2;simp only[pL]at h2;rw[rO aw];simpa using h2
 ·rintro⟨j,o,h1,h2,h3,h4⟩;obtain rfl:i=j:=by omega
  rw[pa]at h2 h3;have eU:=(gL.1 h2).1;refine⟨eU,?_⟩;rw[gC];rw[z8]at h4;refine⟨?_,by rw[h2];simpa using h4⟩;rw[pG,h3]
  rfl
def M5{f:Nat->Prop}:∀{l:List Nat},bothK f l->∀i∈l,f i
 |[],_,i,hi=>by cases hi
 |j::l,h,i,hi=>by
  have h:f j/\bothK f l:=h;rcases pP.1 hi with rfl|hi
  ·exact h.1
  ·exact M5 h.2 i hi
def jJ.zy4{o:Oper}{tmps:List C}{H:zl}{R:C->zl->Prop}{x:C}{dst:Option Tmp}{ops:Array Oper}(h:∀d,dst=some d->d∉o.looksAt ops)(h':jJ P o (ev (put tmps dst x)) H R):jJ P o (ev tmps) H R:=
 λw E σ hh hl hc K hk=>h' w E σ hh (λy hy=>by rw[Jt (Ik h y hy)];exact hl y hy) hc K hk
def jJ.JS{o:Oper}{ρ:Operand->C}{H:zl}{R R':C->zl->Prop}(hR:∀c H',R c H'->R' c H')(h:jJ P o ρ H R):jJ P o ρ H R':=
 λw E σ hh hl hc K hk=>h w E σ hh hl hc K λc H' v w' E' h1=>hk c H' v w' E' (hR c H' h1)
def oQ(P:Program)(ops:Array Oper)(X:zl->Prop)(i:Nat)(K:S->Prop)(s:S):Prop:=
 match ops[i]? with
 |none=>K s
 |some o=>(jK ops s.tmps o=some true/\jJ P o (ev s.tmps) s.H λc H'=>X H'/\K ⟨put s.tmps o.dst c,H'⟩)\/(jK ops s.tmps o=some false/\K ⟨put s.tmps o.dst .un,s.H⟩)
def VD{ops:Array Oper}{X:zl->Prop}{i:Nat}{s:S}{K K':S->Prop}(hX:X s.H)(h:∀s,X s.H->K s->K' s)(hh:oQ P ops X i K s):oQ P ops X i K' s:=by
 unfold oQ at *;split
 ·exact h _ hX (by simpa [*] using hh)
 ·rename_i o ho;simp only[ho]at hh;rcases hh with⟨h1,h2⟩|⟨h1,h2⟩
  ·exact .inl ⟨h1,h2.JS λc H' ⟨h3,h4⟩=>⟨h3,h _ h3 h4⟩⟩
  ·exact .inr ⟨h1,h _ hX h2⟩
def Cg(P:Program)(md:Region.Mode)(ops:Array Oper)(X:zl->Prop)(Q:S->Prop):Nat->Array Bool->S->Prop
 |0,listed,s=>Region.ready md ops listed=[]/\Q s
 |fuel+1,listed,s=>(Region.ready md ops listed=[]->Q s)/\∀i∈Region.ready md ops listed,oQ P ops X i (Cg P md ops X Q fuel (listed.setIfInBounds i true)) s
def kD{P:Program}{B:Nat}{ops:Array Oper}{md:Region.Mode}{X:zl->Prop}{q:Option Nat}{m:Nat}{H0:zl}{Q:S->Prop}{w0:World}{E0:Env}{Q':Exit->Act->World->Prop}(hQ:∀s w E a,Q s->xR B m w E s a->jG B w0 E0 H0 w E s.H->Q' .normal a w):
  ∀(fuel:Nat) (listed:Array Bool) (s:S) (w:World) (E:Env) (a:Act),xR B m w E s a->jG B w0 E0 H0 w E s.H->Cg P md ops X Q fuel listed s->wpAnyIn (fw q) 0 P md ops Q' fuel listed a w
 |0,_,s,w,E,a,hs,hg,h=>⟨h.1,hQ s w E a h.2 hs hg⟩
 |fuel+1,listed,s,w,E,a,hs,hg,h=>⟨λh0=>hQ s w E a (h.1 h0) hs hg,λi hi=>by
   have h1:=h.2 i hi;unfold oQ at h1;unfold wpOpIn;split
   ·rename_i ho;simp only[ho]at h1;exact kD hQ fuel _ s w E a hs hg h1
   ·rename_i o ho;simp only[ho]at h1;rcases h1 with⟨hw,hv⟩|⟨hw,hK⟩
    ·rw[gk (jU hs.tmps hw)];refine Ad.D6 (s:=s) hv q m w E a _ Q' hs λs' w' E' a' hR h2 g2=>?_
     obtain⟨c,H',⟨_,h3⟩,rfl⟩:=hR;exact kD hQ fuel _ _ w' E' a' h2 (hg.trans g2) h3
    ·rw[gf bu];exact⟨λ_ _=>trivial,kD hQ fuel _ ⟨put s.tmps o.dst .un,s.H⟩ w E _ (hs.put .un o.dst) hg hK⟩⟩
def VE{ops:Array Oper}{X:zl->Prop}{j:Nat}{oi oj:Oper}{c:C}(hj:ops[j]?=some oj)(hap:oi.apart ops oj=true){K:S->Prop}{s:S}(hy:YA P ops X oi c s.tmps)
 (h:oQ P ops X j K ⟨put s.tmps oi.dst c,s.H⟩):oQ P ops X j (λs'=>YA P ops X oi c s'.tmps/\K ⟨put s'.tmps oi.dst c,s'.H⟩) s:=by
 obtain⟨h1,h2,h3⟩:=Oper.apart_spec hap;unfold oQ at *;simp only[hj] at *;rcases h with⟨hw,hv⟩|⟨hw,hK⟩
 ·refine .inl ⟨(ve h1) ▸ hw,(hv.JS λc' H' ⟨h4,h5⟩=>⟨h4,(YA.put h3).2 hy,?_⟩).zy4 h1⟩;rw[put_comm _ _ h2]at h5;exact h5
 ·refine .inr ⟨(ve h1) ▸ hw,(YA.put h3).2 hy,?_⟩;rw[put_comm _ _ h2]at hK;exact hK
def Tw{ops:Array Oper}{md:Region.Mode}{X:zl->Prop}{Q:S->Prop}{i:Nat}{oi:Oper}{c:C}(hi:ops[i]?=some oi):
  ∀(fuel:Nat) (listed:Array Bool) (s:S),X s.H->
   (∀j oj,ops[j]?=some oj->j≠i->listed.getD j true=false->(∀e∈oj.after,Region.binds md e=true->e.on≠i)->oi.apart ops oj=true)->
   i∈Region.ready md ops listed->YA P ops X oi c s.tmps->
   Cg P md ops X Q fuel (listed.setIfInBounds i true) ⟨put s.tmps oi.dst c,s.H⟩->Cg P md ops X Q (fuel+1) listed s:=by
 have here:∀(s:S) (K:S->Prop),X s.H->YA P ops X oi c s.tmps->K ⟨put s.tmps oi.dst c,s.H⟩->oQ P ops X i K s:=λs K hX hy hK=>by
  unfold oQ;simp only[hi];rcases hy with⟨h1,h2⟩|⟨h1,rfl⟩
  ·exact .inl ⟨h1,(h2 s.H hX).lM ⟨hX,hK⟩⟩
  ·exact .inr ⟨h1,hK⟩
 intro fuel
 induction fuel with
 |zero=>
  intro listed s hX _ hr hy H;refine⟨λh=>bw,λj hj=>?_⟩;by_cases hji:j=i
  ·subst hji;exact here s _ hX hy H
  ·have:=ready_mono hj hji;rw[H.1]at this;cases this
 |succ fuel ih=>
  intro listed s hX hfree hr hy H;refine⟨λh=>bw,λj hj=>?_⟩;by_cases hji:j=i
  ·subst hji;exact here s _ hX hy H
  ·have h1:=H.2 j (ready_mono hj hji);obtain⟨hjun,oj,hoj,z8⟩:=mem_ready.1 hj
   have hnot:∀e∈oj.after,Region.binds md e=true->e.on≠i:=λe he hb heq=>by
    have h1:=z8 e he hb;have h0:=(mem_ready.1 hr).1;rw[heq]at h1;rcases pR i listed.size with h'|h'
    ·simp[h']at h0 h1;rw[h0]at h1;cases h1
    ·simp[se h']at h1
   have hap:=hfree j oj hoj hji hjun hnot;have h2:=VE hoj hap hy h1
   have hfree':∀k ok,ops[k]?=some ok->k≠i->(listed.setIfInBounds j true).getD k true=false->
     (∀e∈ok.after,Region.binds md e=true->e.on≠i)->oi.apart ops ok=true:=λk ok hk hki hun hno=>by
    refine hfree k ok hk hki ?_ hno;by_cases hjk:j=k
    ·subst hjk;exact hjun
    ·rw[getD_set_ne true hjk]at hun;exact hun
   refine VD hX (λs' hX' ⟨h3,h4⟩=>ih (listed.setIfInBounds j true) s' hX' hfree' (ready_mono hr (Ne.symm hji)) h3 ?_) h2;rw[uh _ _ hji];exact h4
def Rw{md:Region.Mode}{ops:Array Oper}(h:CC md ops=true){i j:Nat}{oi oj:Oper}(hi:ops[i]?=some oi)(hj:ops[j]?=some oj)(hne:j≠i)(hd:nY md ops (ns md ops) i j=false)
 (hno:∀e∈oj.after,Region.binds md e=true->e.on≠i):oi.apart ops oj=true:=by
 simp only[CC,OZ,gA,rp]at h;have h1:=h i (gL.1 hi).1 j (gL.1 hj).1
 have hb:Nat.beq j i=false:=by
  cases hb:Nat.beq j i with
  |false=>rfl
  |true=>exact absurd (Nat.eq_of_beq_eq_true hb) hne
 simp only[hb,hd,rS,hi,hj,p8]at h1;rcases h1 with h1|h1
 ·obtain⟨e,hem,hb⟩:=Array.any_eq_true'.1 h1;simp only[gC,pq]at hb;exact absurd hb.2 (hno e hem hb.1)
 ·exact h1
def XC.trans{T:lZ}{H H' H'':zl}(h:XC T H H')(h':XC T H' H''):XC T H H'':=⟨h.1.trans h'.1,h'.2⟩
def XC.back{T:lZ}{H H' H'':zl}(h:XC T H H')(h':XC T H H''):XC T H' H'':=⟨λid hi=>(h'.1 id hi).trans (h.1 id hi).symm,h'.2⟩
def SD{T:lZ}{o:Oper}{ρ:Operand->C}{H:zl}{K:C->zl->Prop}(h:Jh P T H ρ o K):∃c,(∀H2,XC T H H2->fg P o ρ H2 c H2)/\K c H:=by
 unfold Jh at h;split at h
 ·rename_i cl ho;split at h
  ·rename_i x hcl;split at h
   ·rename_i f first caps hf;obtain⟨h1,r,h2,h3⟩:=zV h;exact⟨r,λH2 hx=>.JL cl ho x hcl hf h1 (h2 H2 hx),jm (k:=λc=>K c H) h3⟩
   ·exact c6
  ·exact c6
 ·obtain⟨c,h1,h2⟩:=Ll h;exact⟨c,λH2 hx=>h1 H2 hx.1,h2⟩
def UR{T:lZ}{H0 H H':zl}{k:Prop}(hX:XC T H0 H)(h:JW T H H' k):XC T H0 H'/\k:=by
 unfold JW at h;split at h
 ·obtain⟨h1,h2⟩:=E7 h.2;exact⟨⟨hX.1.trans h1,λ_=>h.1⟩,h2⟩
 ·rename_i hf;obtain⟨h1,h2⟩:=E7 h;exact⟨⟨hX.1.trans h1,λh=>by rw[hf]at h;cases h⟩,h2⟩
def Fg{bl:List Nat}{ops:Array Oper}{t:List C}:∀{l:List Nat} {i:Nat},pickE bl ops t l=some i->i∈l
 |[],i,h=>by cases h
 |j::l,i,h=>by
  have h:(match ops[j]? with
   |some o=>match xD o || oo bl j with
    |true=>some j
    |false=>match jK ops t o with
     |some b=>match b with
      |true=>pickE bl ops t l
      |false=>some j
     |none=>pickE bl ops t l
   |none=>pickE bl ops t l)=some i:=h
  split at h
  ·split at h
   ·cases h;exact pW ..
   ·split at h
    ·split at h
     ·exact pT _ (Fg h)
     ·cases h;exact pW ..
    ·exact pT _ (Fg h)
  ·exact pT _ (Fg h)
def HM{T:lZ}{ops:Array Oper}{H0:zl}{K:List C->zl->Prop}(hap:CC .any ops=true):
  ∀(fuel:Nat) (listed:Array Bool) (t:List C) (H:zl),Down .any ops listed->listed.size=ops.size->XC T H0 H->bruteK P T ops fuel listed.toList t H K->
   Cg P .any ops (XC T H0) (λs=>K s.tmps s.H) fuel listed ⟨t,H⟩
 |0,listed,t,H,hd,hl,hX,h=>by
  have h:match readyB listed.toList ops.toList listed.toList 0 with
   |[]=>K t H
   |_::_=>False:=h
  split at h
  ·rename_i hr;refine⟨?_,h⟩;rw[eu];intro i hi;have:=(D8 hl i).1 hi;rw[hr]at this;cases this
  ·exact c6
 |fuel+1,listed,t,H,hd,hl,hX,h=>by
  have h:match readyB listed.toList ops.toList listed.toList 0 with
   |[]=>K t H
   |i::is=>match pickE T.bl ops t (i::is) with
    |some i=>match ops[i]? with
     |some o=>iC P T ops o i (λt H K=>bruteK P T ops fuel (listed.toList.set i true) t H K) t H K
     |none=>False
    |none=>bothK (λi=>match ops[i]? with
     |some o=>oB P T ops o (λt H K=>bruteK P T ops fuel (listed.toList.set i true) t H K) t H K
     |none=>False) (i::is):=h
  split at h
  ·rename_i hr
   have h0:Region.ready .any ops listed=[]:=by
    rw[eu];intro i hi;have:=(D8 hl i).1 hi;rw[hr]at this;cases this
   exact⟨λ_=>h,λi hi=>by rw[h0]at hi;cases hi⟩
  ·rename_i j js hr;have hset:∀i,(listed.setIfInBounds i true).toList=listed.toList.set i true:=λi=>by simp
   have hsz:∀i,(listed.setIfInBounds i true).size=ops.size:=λi=>by simpa using hl
   split at h
   ·rename_i i hp;have hi:i∈Region.ready .any ops listed:=(D8 hl i).2 (by rw[hr];exact Fg hp);split at h
    rotate_left
    ·exact c6
    rename_i o ho
    have go:∀c,YA P ops (XC T H0) o c t->bruteK P T ops fuel (listed.toList.set i true) (put t o.dst c) H K->Cg P .any ops (XC T H0) (λs=>K s.tmps s.H) (fuel+1) listed ⟨t,H⟩:=λc hy hb=>
     Tw ho fuel listed ⟨t,H⟩ hX (λj oj hj hne hun hno=>Rw hap ho hj hne (by
       cases hdp:nY .any ops (ns .any ops) i j with
       |false=>rfl
       |true=>
        have h1:=hd.ready hi hdp;rcases pR j listed.size with h'|h'
        ·simp[h']at h1 hun;rw[h1]at hun;cases hun
        ·simp[se h']at h1) hno) hi hy
      (HM hap fuel _ _ _ (hd.step hi) (hsz i) hX (by rw[hset];exact hb))
    unfold iC at h;split at h
    ·rename_i hw;split at h
     ·obtain⟨c,h1,h2⟩:=SD h;exact go c (.inl ⟨hw,λH2 h3=>h1 H2 (hX.back h3)⟩) (jx (k:=λt=>bruteK P T ops fuel (listed.toList.set i true) t H K) h2)
     ·split at h
      ·rename_i hb;obtain⟨c,h1,h2⟩:=LI hb h;exact go c (.inl ⟨hw,λH2 _=>h1 H2⟩) (jx (k:=λt=>bruteK P T ops fuel (listed.toList.set i true) t H K) h2)
      ·exact c6
    ·rename_i hw;exact go .un (.inr ⟨hw,rfl⟩) (jx (k:=λt=>bruteK P T ops fuel (listed.toList.set i true) t H K) h)
    ·exact c6
   ·have hne:Region.ready .any ops listed≠[]:=λh0=>by
     have:j∈readyB listed.toList ops.toList listed.toList 0:=by rw[hr];exact pW ..
     have:=(D8 hl j).2 this;rw[h0]at this;cases this
    refine⟨λh0=>absurd h0 hne,λi hi=>?_⟩;have hi2:=(D8 hl i).1 hi;rw[hr]at hi2;have h1:=M5 h i hi2;split at h1
    rotate_left
    ·exact h1.elim
    rename_i o ho;unfold oQ;rw[ho];dsimp only
    have next:∀t' H',XC T H0 H'->bruteK P T ops fuel (listed.toList.set i true) t' H' K->Cg P .any ops (XC T H0) (λs=>K s.tmps s.H) fuel (listed.setIfInBounds i true) ⟨t',H'⟩:=λt' H' hX' hb=>
     HM hap fuel _ _ _ (hd.step hi) (hsz i) hX' (by rw[hset];exact hb)
    unfold oB at h1;split at h1
    ·rename_i hw;refine .inl ⟨hw,?_⟩;split at h1
     ·rename_i hlo;obtain⟨c,h2,h3⟩:=Mp hlo h1;exact h2.lM ⟨hX,next _ _ hX (jx (k:=λt=>bruteK P T ops fuel (listed.toList.set i true) t H K) h3)⟩
     ·refine(FB h1).JS λc H' h2=>?_
      obtain⟨h3,h4⟩:=UR hX h2;exact⟨h3,next _ _ h3 (jx (k:=λt=>bruteK P T ops fuel (listed.toList.set i true) t H' K) h4)⟩
    ·rename_i hw;exact .inr ⟨hw,next _ _ hX (jx (k:=λt=>bruteK P T ops fuel (listed.toList.set i true) t H K) h1)⟩
    ·exact h1.elim
def qO.zye{P:Program}{B:Nat}{ops:Array Oper}{id:Nat}{t:List C}{H:zl}{R:Exit->S->Prop}{R':List C->zl->Prop}{T:lZ}(hm:P.follows .mixedOrders=true)(hap:CC .any ops=true)(hf:T.flat=true->qP H=true)
 (h:bruteK P T ops ops.size (ops.toList.map λ_=>false) t H (λt1 H1=>∃t2 H2,zn B ⟨t1,H1⟩ ⟨t2,H2⟩/\R' t2 H2))(hR:∀t2 H2,R' t2 H2->R .normal ⟨t2,H2⟩):qO P B (.region id ops true) ⟨t,H⟩ R:=λq m w E a Q _ hs hq=>by
 refine wpIn_region_any hm (kD (X:=XC T H) (H0:=H) (Q:=λs=>∃t2 H2,zn B s ⟨t2,H2⟩/\R' t2 H2) (w0:=w) (E0:=E) (λs1 w1 E1 a1 he h1 g1=>?_) _ _ ⟨t,H⟩ _ E a hs.drew ((Grow.drew w E H).ix tG) ?_)
 ·obtain⟨t2,H2,hw,hR2⟩:=he;obtain⟨E2,h2,g2⟩:=hw m w1 E1 a1 h1;exact hq _ _ w1 E2 a1 (hR t2 H2 hR2) h2 (g1.trans g2)
 ·have e:(Array.replicate ops.size false).toList=ops.toList.map λ_=>false:=by
   rw[Array.toList_replicate,List.map_const'];simp
  refine HM (K:=λt1 H1=>∃t2 H2,zn B ⟨t1,H1⟩ ⟨t2,H2⟩/\R' t2 H2) hap _ _ _ _ Down.start aj ⟨.refl _ _,hf⟩ ?_;rw[e];exact h
structure AK(P:Program)(B:Nat)(c:Code)(t:List C)(H:zl)(K:Exit->List C->zl->Prop):Prop where
 out:qa P B c ⟨t,H⟩ λex s=>K ex s.tmps s.H
def zyq(P:Program)(B:Nat)(c:Code):WK:=λt H K=>AK P B c t H K
def JJ(P:Program)(B:Nat)(g:Operand)(ps:Array Tmp)(assign body:Code):WK:=λt H K=>match ev t g with
 |.fn f first caps=>bK (qi P f && first.isEmpty) <| ∃H0,zn B ⟨t,H⟩ ⟨t,H0⟩/\∃ex t' H',(∀(l:Nat) (r:Loop),r.state=.ready->r.pending=none->r.params=ps->r.assign=assign->r.body=body->
   ∃(rr:C) (Hf:zl) (rf:Loop),zb P f (H0++[fZ l r t]) (.v (.func (.yield l) #[] #[])::caps) rr Hf/\Hf[H0.length]?=some (fZ l rf t)/\rf.state≠.busy/\rf.tmps=r.tmps/\B<=Hf.length/\PW rf.pending ex/\
    zn B ⟨t,Hf.set H0.length (fZ l {rf with state:=.exhausted} t)⟩ ⟨t',H'⟩)/\K ex t' H'
 |_=>False
structure mP(P:Program)(B:Nat)(c:Code)(l:Nat)(t:List C)(H:zl)(K:Exit->List C->zl->Prop):Prop where
 out:B3 P B c (λex s=>K ex s.tmps s.H) l ⟨t,H⟩
def zxR(P:Program)(B:Nat)(c:Code)(x:WK):WK:=λt H K=>x t H λex t H=>match ex with
 |.goto l=>mP P B c l t H K
 |ex=>K ex t H
def Qt:WK:=λ_ _ _=>False
noncomputable def wpA(P:Program)(B:Nat)(c:Code):WK:=
 Code.rec (motive:=λ_=>WK) (λt H K=>K .normal t H) (λ_ ops draw=>regionK P B ops draw) (λ_ _ x y=>zy9 x y) (λc _ _ x y=>JT c x y) (λid _ x=>ZU id x) (λc _=>zyq P B c)
  (λg ps assign body _ _=>JJ P B g ps assign body) (λid t H K=>K (.exit id) t H) (λc x=>zxR P B c x) (λ_ t H K=>K .normal t H) (λl t H K=>K (.goto l) t H) (λt H K=>K .ret t H) (λ_=>Qt) c
def jy:∀{c:Code} {t:List C} {H:zl} {K:Exit->List C->zl->Prop},wpA P B c t H K->qO P B c ⟨t,H⟩ λex s=>K ex s.tmps s.H:=by
 intro c
 induction c with
 |skip=>intro t H K h;exact .skip h
 |exit id=>intro t H K h;exact .exit id h
 |ret=>intro t H K h;exact .ret h
 |label l=>intro t H K h;exact .label l h
 |seq x y ihx ihy=>
  intro t H K h;refine .seq ((ihx (t:=t) (H:=H) (K:=λex t H=>match ex with|.normal=>wpA P B y t H K|ex=>K ex t H) h).mono λex s1 h1=>?_);cases ex with
  |normal=>exact ihy h1
  |_=>exact h1
 |block id c ih=>
  intro t H K h;refine .block ((ih (t:=t) (H:=H) (K:=λex t H=>match ex with|.exit id'=>if id'=id then K .normal t H else K (.exit id') t H|ex=>K ex t H) h).mono λex s1 h1=>?_);cases ex with
  |exit id'=>exact h1
  |_=>exact h1
 |scope c ih=>
  intro t H K h;refine .zxQ ((ih (t:=t) (H:=H) (K:=λex t H=>match ex with|.goto l=>mP P B c l t H K|ex=>K ex t H) h).mono λex s1 h1=>?_);cases ex with
  |goto l=>exact(show mP P B c l s1.tmps s1.H K from h1).out
  |_=>exact h1
 |goto l=>intro t H K h;exact .goto l h
 |cond c x y ihx ihy=>
  intro t H K h
  change JT c (wpA P B x) (wpA P B y) t H K at h
  unfold JT at h;split at h
  ·rename_i b hb;cases b with
   |true=>exact .cond (s:=⟨t,H⟩) hb (ihx h)
   |false=>exact .cond (s:=⟨t,H⟩) hb (ihy h)
  ·exact c6
 |region id ops draw=>
  intro t H K h;cases draw with
  |false=>exact .region (HR (show lY P ops ops.toList t H (λt H=>K .normal t H) from h))
  |true=>
   rcases(show(∃T:lF,(P.follows .mixedOrders && Region.lexB .any ops && C1 .any T ops)=true/\mV P T ops ops.toList 0 t H λt H=>K .normal t H)\/
    ∃T:lZ,(P.follows .mixedOrders && CC .any ops)=true/\(T.flat=true->qP H=true)/\∃R:List C->zl->Prop,bruteK P T ops ops.size (ops.toList.map λ_=>false) t H (λt1 H1=>∃t2 H2,zn B ⟨t1,H1⟩ ⟨t2,H2⟩/\R t2 H2)/\∀t2 H2,R t2 H2->K .normal t2 H2 from h) with h|⟨T,hm,hf,R,h1,h2⟩
   rotate_left
   ·rw[gC]at hm;exact qO.zye hm.1 hm.2 hf h1 h2
   obtain⟨T,h1,h2⟩:=h;simp only[gC]at h1;obtain⟨s',h3,h4⟩:=Run.zyj (B:=B) (id:=id) h1.1.1 h1.1.2 h1.2 h2;exact qO.mono h3 λex s1 ⟨e1,e2⟩=>by subst e1 e2;exact h4
 |loop c ih=>intro t H K h;exact .loop (show AK P B c t H K from h).out
 |rangeFunc g ps assign body=>
  intro t H K h
  change JJ P B g ps assign body t H K at h
  unfold JJ at h;split at h
  ·rename_i f first caps hg;obtain⟨h1,H0,h0,ex,t',H',h2,h3⟩:=zV h;simp only[gC,eK]at h1;obtain⟨h1,rfl⟩:=h1;refine .pre h0 (.rangeFunc hg h1 λl r a1 a2 a3 a4 a5=>?_);obtain⟨rr,Hf,rf,b1,b2,b3,b4,b5,b6,b7⟩:=h2 l r a1 a2 a3 a4 a5;exact⟨rr,Hf,rf,ex,⟨t',H'⟩,b1,b2,b3,b4,b5,b6,b7,h3⟩
  ·exact c6
 |_=>intro t H K h;exact(show False from h).elim
def mP.go{c rest:Code}{l:Nat}{t:List C}{H:zl}{K:Exit->List C->zl->Prop}(hf:findLabel c l=some rest)
 (h:wpA P B rest t H λex t H=>match ex with|.goto l=>mP P B c l t H K|ex=>K ex t H):mP P B c l t H K:=by
 refine⟨.mk _ hf (jy h) (λe s h1 he=>?_) λl s h1=>(show mP P B c l s.tmps s.H K from h1).out⟩;cases e with
 |goto l=>exact absurd O (he l)
 |_=>exact h1
def jC.zG{H1 H':zl}{id l:Nat}{r:Loop}{t:List C}{args:List C}{rv:Bool}{ps:Array Tmp}{assign body:Code}(hob:H1[id]?=some (fZ l r t))(hst:r.state=.ready)(hpe:r.pending=none)(hps:r.params=ps)(ha:r.assign=assign)(hb:r.body=body)
 (hn:args.length=ps.size)(hna:xx assign=false)(hnb:xx body=false)
 (h:wpA P H1.length assign (Ck t ps.toList args) H1 λe t1 H1'=>e=.normal/\H1'[id]?=some (fZ l r t)/\wpA P H1.length body t1 (H1'.set id (fZ l (busy r) t)) λe t2 H2=>
   ∃t3 H3,zn H1.length ⟨t2,H2⟩ ⟨t3,H3⟩/\Pq id l r t rv H' e H3):
  jC P l H1 args (.v (.bool rv)) H':=by
 subst hps ha hb;refine jC.kY hob hst hpe hn hna hnb ((jy h).mono λe s1 ⟨h1,h2,h3⟩=>⟨h1,h2,(jy h3).mono λe s2 ⟨t3,H3,h4,h5⟩=>⟨⟨t3,H3⟩,h4,h5⟩⟩)
def qa.inv{c:Code}{t:List C}{H:zl}{K:Exit->List C->zl->Prop}(I:Nat->List C->zl->Prop)(n:Nat)(h0:∃t0 H0,zn B ⟨t,H⟩ ⟨t0,H0⟩/\I n t0 H0)
 (step:∀n t H,I n t H->wpA P B c t H λe t1 H1=>(e=.normal/\∃m t2 H2,m<n/\zn B ⟨t1,H1⟩ ⟨t2,H2⟩/\I m t2 H2)\/(e≠.normal/\K e t1 H1)):
  AK P B c t H K:=by
 obtain⟨t0,H0,hw,hI⟩:=h0;refine⟨.pre hw ?_⟩
 suffices key:∀n t H,I n t H->lQ P B c (n+1) ⟨t,H⟩ λex s=>K ex s.tmps s.H from⟨n+1,key n t0 H0 hI⟩
 intro n
 induction n using Nat.strongRecOn with
 |_ n ih=>
  intro t H hI;refine .step ((jy (step n t H hI)).post λex s1 h1=>?_);rcases h1 with⟨rfl,m,t2,H2,hm,hw2,hI2⟩|⟨hne,hK⟩
  ·exact⟨⟨t2,H2⟩,hw2,(lQ.more aw (ih m hm t2 H2 hI2):lQ P B c n ⟨t2,H2⟩ _)⟩
  ·refine⟨s1,.refl s1,?_⟩;cases ex with
   |normal=>exact absurd O hne
   |_=>exact hK
def zb.zG{f:FuncId}{fn:Func}{c:Code}{H H':zl}{args:List C}{r:C}(hf:P.funcs[f]?=some fn)(hb:fn.body=some c)
 (h:wpA P H.length c (entry fn args) H λex t1 H1=>(ex=.ret\/ex=.normal)/\∃s2,zn H.length ⟨t1,H1⟩ s2/\s2.H=H'/\vL P fn s2=some r):zb P f H args r H':=
 ql.at (ql.kY hf hb ((jy h).mono λex s1 ⟨hex,s2,hw,h2,h3⟩=>⟨hex,s2,r,hw,h3,rfl,h2⟩))
def ql.zG{f:FuncId}{fn:Func}{c:Code}{H:zl}{args:List C}{R:C->zl->Prop}(hf:P.funcs[f]?=some fn)(hb:fn.body=some c)
 (h:wpA P H.length c (entry fn args) H λex t1 H1=>(ex=.ret\/ex=.normal)/\∃s2 r,zn H.length ⟨t1,H1⟩ s2/\vL P fn s2=some r/\R r s2.H):ql P f H args R:=
 ql.kY hf hb (jy h)
def zb.IG{f:FuncId}{fn:Func}{c:Code}{args:List C}{r:C}(hf:P.funcs[f]?=some fn)(hb:fn.body=some c)
 (h:wpA P 0 c (entry fn args) [] λex t1 H1=>(ex=.ret\/ex=.normal)/\∃s2,zn 0 ⟨t1,H1⟩ s2/\vL P fn s2=some r)(hr:jc 0 9 r=true):zb P f [] args r []:=
 ql.close (R:=λc=>c=r) (ql.kY (H:=[]) (R:=λc _=>c=r) hf hb ((jy h).mono λex s1 ⟨hex,s2,hw,h2⟩=>⟨hex,s2,r,hw,h2,rfl⟩)) λc h=>⟨h,hr⟩
end
def qb{n:Int}(h0: -9223372036854775808<=n)(h1:n<=9223372036854775807):IntKind.i64.wrap n=n:=IntWalk.i64_in n ⟨h0,h1⟩
def zw{n:Nat}(h:n<9223372036854775807):IntKind.i64.wrap ((n:Int)+1)=((n+1:Nat):Int):=by rw[qb aw aw];rfl
section
variable {P:Program} {f:FuncId} {H H':zl}
def zb.pre{args args':List C}{r:C}(h:zb P f H args' r H')(hw:iH args args'):zb P f H args r H':=λw E vs hh hl=>h w E vs hh (hw.LL hl)
def zb.post{args:List C}{r r':C}(h:zb P f H args r H')(hw:WC r r'):zb P f H args r' H':=λw E vs hh hl=>(h w E vs hh hl).mono λe w' ⟨v,E',h1,h2,h3,h4⟩=>⟨v,E',h1,h2,hw E' v h3,h4⟩
def toNat_cast(n:Nat):((n:Int)).toNat=n:=by simp
end
def FA{P:Program}{f:FuncId}{vs:Array Value}{v:Value}{args:List C}{r:C}(H:zl)(hc:∀w,Calls P f vs w λe w'=>e=.returned v/\w'=w)(ha:∀E (us:Array Value),LL E args us.toList->us=vs)(hr:∀E,L E r v):zb P f H args r H:=λw E us hh hl=>by
 obtain rfl:=ha E us hl;refine(hc w).mono ?_;rintro e w' ⟨rfl,rfl⟩;exact⟨v,E,rfl,hh,hr E,Grow.refl _ _ _⟩
def zya{a:Value}(E:Env)(us:Array Value)(h:LL E [.v a] us.toList):us= #[a]:=by
 obtain⟨l⟩:=us
 match l,h with
 |[],h=>have:=h.1;simp at this
 |[x],h=>
  obtain⟨h1,_⟩:=h.cons_inv;cases h1;rfl
 |_::_::_,h=>have:=h.1;simp at this
def JK{a b:Value}(E:Env)(us:Array Value)(h:LL E [.v a,.v b] us.toList):us= #[a,b]:=by
 obtain⟨l⟩:=us
 match l,h with
 |[],h=>have:=h.1;simp at this
 |[_],h=>have:=h.1;simp at this
 |[x,y],h=>
  obtain⟨h1,h2⟩:=h.cons_inv;obtain⟨h2,_⟩:=h2.cons_inv;cases h1;cases h2;rfl
 |_::_::_::_,h=>have:=h.1;simp at this
def yk{α:Type}{l:List α}{t:Nat}{y:α}(h:l[t]?=some y):l.set t y=l:=by
 apply pI
 intro i;rw[gG];split
 ·rename_i e;subst e;obtain⟨h1,h2⟩:=dY.1 h;rw[gk h1,h]
 ·rfl
section
variable {B:Nat} {s:S}
def qd.freeze{w:World}{E:Env}{H:zl}(h:qd w E H){id:Nat}{ob:Ob}(hob:H[id]?=some ob)(hk:ob.kind=2)(hno:∀i k c,cellAt ob.rows i k=some c->zB c=true):
  ∃E',E.le E'/\qd w E' (H.modify id λob=>⟨ob.kind,ob.ty,ob.sz,ob.rows,ob.rows.length⟩)/\(∀b o u,E'.St b o=some u->E.St b o=some u\/b=E.β id [])/\E'.β=E.β/\E'.G=E.G/\
   ∀i k c,cellAt ob.rows i k=some c->∃u,E'.St (E.β id []) (i*ob.sz+k)=some u/\L E'.shut c u:=by
 have hgb:z7 H id []=some (ob.sz,ob.rows):=by unfold z7;rw[hob];simp[hk,qS]
 have hB:=h.fj id ob [] _ _ hob hgb;obtain⟨cur,e,hg,hcs,hcell⟩:=hB.fj
 have key:∀o,o<ob.rows.length*ob.sz->∃u,cur[o]?=some u/\u.oneCell'=true/\w.cell? ⟨E.β id [],o,none⟩=some u:=by
  intro o ho;obtain⟨h1,h2,h3⟩:=Hn ho;obtain⟨c,hc⟩:=EX hB.row h1 h2;obtain⟨u,hu,hok⟩:=hcell _ _ c hc;rw[qW.loose (hno _ _ c hc)]at hok;rw[h3]at hu;exact⟨u,hu,hok.2,by unfold World.cell?;rw[hg];simpa using hu⟩
 obtain⟨E',hE'⟩:∃E':Env,E'={E with St:=λb o=>if b=E.β id []/\o<ob.rows.length*ob.sz then cur[o]? else E.St b o}:=⟨_,rfl⟩
 have hle:E.le E':=by
  subst hE';refine⟨gD _,λ_ _ _=>O,λ_ _ _=>O,λb o u hu=>?_,λ_ _ _ _ hu=>hu⟩;show(if b=E.β id []/\o<ob.rows.length*ob.sz then cur[o]? else E.St b o)=some u;split
  ·rename_i hc;obtain⟨rfl,ho⟩:=hc;obtain⟨u',h1,_,h2⟩:=key o ho;have:=(h.qs _ _ _ hu).1;rw[h2]at this;rw[h1,<-this]
  ·exact hu
 have hSt:∀b o u,E'.St b o=some u->E.St b o=some u\/(b=E.β id []/\o<ob.rows.length*ob.sz/\cur[o]?=some u):=by
  subst hE';intro b o u hu
  change (if b=E.β id []/\o<ob.rows.length*ob.sz then cur[o]? else E.St b o)=some u at hu
  split at hu
  ·rename_i hc;exact .inr ⟨hc.1,hc.2,hu⟩
  ·exact .inl hu
 have hβ:E'.β=E.β:=by subst hE';rfl
 have hn:E'.n=E.n:=by subst hE';rfl
 have get:∀id' hops x,z7 (H.modify id λob=>⟨ob.kind,ob.ty,ob.sz,ob.rows,ob.rows.length⟩) id' hops=some x->z7 H id' hops=some x:=by
  intro id' hops x hx;obtain⟨ob',ho',hk',hg'⟩:=ji hx;rw[pS]at ho';cases hx':H[id']? with
  |none=>rw[hx']at ho';cases ho'
  |some ob0=>
   rw[hx']at ho';simp only[rV,gF,gS]at ho';unfold z7;rw[hx'];split at ho'
   ·subst ho';simp only[hk',if_true];exact hg'
   ·subst ho';simp only[hk',if_true];exact hg'
 have obs:∀(id':Nat) (ob':Ob),(H.modify id λob=>⟨ob.kind,ob.ty,ob.sz,ob.rows,ob.rows.length⟩)[id']?=some ob'->∃ob0,H[id']?=some ob0/\ob'.kind=ob0.kind/\ob'.ty=ob0.ty/\ob'.sz=ob0.sz/\ob'.rows=ob0.rows/\ob0.fz<=ob'.fz/\ob'.fz<=ob'.rows.length/\(id'=id->ob'.fz=ob0.rows.length):=by
  intro id' ob' ho';rw[pS]at ho';cases hx':H[id']? with
  |none=>rw[hx']at ho';cases ho'
  |some ob0=>
   rw[hx']at ho';simp only[rV,gF,gS]at ho';have:=h.fz id' ob0 hx';split at ho'
   ·subst ho';exact⟨ob0,rfl,rfl,rfl,rfl,rfl,this,gD _,λ_=>O⟩
   ·rename_i hne;subst ho';exact⟨ob0,rfl,rfl,rfl,rfl,rfl,gD _,this,λe=>absurd e.symm hne⟩
 refine⟨E',hle,⟨by rw[hn,h.n];simp,?_,?_,?_,?_,?_,?_⟩,λb o u hu=>(hSt b o u hu).imp_right (·.1),hβ,by subst hE';rfl,?_⟩
 ·intro id' ob' hops sz rows hob' hx;obtain⟨ob0,h1,h2,_⟩:=obs id' ob' hob';have hx':=get _ _ _ hx;rw[h2];exact(h.fj id' ob0 hops sz rows h1 hx').step hle (by rw[h.n];exact BV hx') O
 ·intro id1 p1 id2 p2 x y hx hy he;rw[hβ]at he;exact h.inj id1 p1 id2 p2 x y (get _ _ _ hx) (get _ _ _ hy) he
 ·intro b o u hu;rcases hSt b o u hu with h1|⟨rfl,h2,h3⟩
  ·exact h.qs b o u h1
  ·obtain⟨u',h4,h5,h6⟩:=key o h2;rw[h3]at h4;cases h4
   exact⟨h6,h5⟩
 ·intro id' hops x o u hx hu;have hx':=get _ _ _ hx;rw[hβ]at hu;obtain⟨ob1,ho1,_,_⟩:=ji hx;obtain⟨ob0,h1,h2,h3,h4,h5,h6,h7,h8⟩:=obs id' ob1 ho1;rcases hSt _ o u hu with h9|⟨h9,h10,_⟩
  ·obtain⟨e1,ob2,e2,e3⟩:=h.sep id' hops x o u hx' h9;rw[h1]at e2;cases e2
   exact⟨e1,ob1,ho1,by rw[h4];exact pF e3 (pU _ h6)⟩
  ·obtain⟨rfl,rfl⟩:=h.inj id' hops id [] x _ hx' hgb h9;rw[hob]at h1;cases h1
   exact⟨rfl,ob1,ho1,by rw[h8 O,h4];exact h10⟩
 ·intro id' ob' hob' hk';obtain⟨ob0,h1,h2,h3,_⟩:=obs id' ob' hob';obtain⟨cur',hc⟩:=h.ty id' ob0 h1 (by rw[<-h2];exact hk');exact⟨cur',by rw[hβ,h3];exact hc⟩
 ·intro id' ob' hob';obtain⟨ob0,h1,h2,h3,h4,h5,h6,h7,h8⟩:=obs id' ob' hob';exact h7
 ·intro i k c hc;obtain⟨u,hu,hok⟩:=hcell i k c hc;rw[qW.loose (hno _ _ c hc)]at hok;obtain⟨h1,h2⟩:=Fo hB.row hc
  have eU:i*ob.sz+k<ob.rows.length*ob.sz:=by
   have:(i+1)*ob.sz<=ob.rows.length*ob.sz:=pU _ h1;rw[rj]at this;omega
  refine⟨u,?_,?_⟩
  ·subst hE';show(if E.β id []=E.β id []/\i*ob.sz+k<ob.rows.length*ob.sz then cur[i*ob.sz+k]? else _)=some u;rw[gk ⟨rfl,eU⟩];exact hu
  ·have h3:=hok.1;simp only[Env.at,hk,if_true]at h3;exact h3.mono hle.shut
def zn.freeze(t:Nat){id sz lo len:Nat}{full:Bool}{ob:Ob}(ht:s.tmps[t]?=some (.sl id [] sz lo len full))(hob:s.H[id]?=some ob)(hk:ob.kind=2)(hsz:ob.sz=sz)(hlen:lo+len<=ob.rows.length)
 (hno:∀r∈ob.rows,∀c∈r,zB c=true):
  zn B s ⟨s.tmps.set t (.eS (if full then 1 else 0) sz ((ob.rows.drop lo).take len)),s.H.modify id λob=>⟨ob.kind,ob.ty,ob.sz,ob.rows,ob.rows.length⟩⟩:=λm w E a hs=>by
 subst hsz
 have hno':∀i k c,cellAt ob.rows i k=some c->zB c=true:=λi k c hc=>by
  unfold cellAt at hc;cases hx:ob.rows[i]? with
  |none=>rw[hx]at hc;cases hc
  |some r=>rw[hx]at hc;exact hno r (gh hx) c (gh hc)
 obtain⟨E',hle,hR,hnew,hβ,hKG0,hcells⟩:=hs.heap.base.freeze hob hk hno';have hgb:z7 s.H id []=some (ob.sz,ob.rows):=by unfold z7;rw[hob];simp[hk,qS]
 have hrow:=(hs.heap.base.fj id ob [] _ _ hob hgb).row;obtain⟨y,hy,hl⟩:=hs.tmps.get ht
 have hnl:L E' (.eS (if full then 1 else 0) ob.sz ((ob.rows.drop lo).take len)) y:=by
  generalize hc:C.sl id [] ob.sz lo len full=c at hl;cases hl with
  |sl id' hops' sz' lo' len' full' cap hn hlen' hf hf'=>
   cases hc
   have hrl:((ob.rows.drop lo).take len).length=len:=aA
   have hsub:∀i k,cellAt ((ob.rows.drop lo).take len) i k=if i<len then cellAt ob.rows (lo+i) k else none:=by
    intro i k;unfold cellAt;rw[g5];split
    ·rw[pX]
    ·rfl
   have ex:∀i r k c,((ob.rows.drop lo).take len)[i]?=some r->r[k]?=some c->∃u,E'.St (E.β id []) (lo*ob.sz+i*ob.sz+k)=some u/\L E'.shut c u:=by
    intro i r k c hr hc;have hcc:cellAt ((ob.rows.drop lo).take len) i k=some c:=by unfold cellAt;rw[hr];exact hc
    rw[hsub]at hcc;split at hcc
    ·obtain⟨u,h1,h2⟩:=hcells _ _ c hcc;exact⟨u,by rw[<-rj];exact h1,h2⟩
    ·cases hcc
   have:=L.eS (E:=E') (if full then 1 else 0) ob.sz ((ob.rows.drop lo).take len) (E.β id []) (lo*ob.sz) cap (λi k=>(E'.St (E.β id []) (lo*ob.sz+i*ob.sz+k)).getD undef) ?_ ?_ ?_ ?_ ?_
   ·rw[hrl]at this;exact dF
   ·cases full with
    |false=>exact .inl O
    |true=>exact .inr ⟨rfl,by rw[hrl];exact hf O⟩
   ·rw[hrl];exact hlen'
   ·exactλr hr=>hrow r (sG (rG hr))
   ·intro i r k c hr hc;obtain⟨u,h1,h2⟩:=ex i r k c hr hc;rw[h1];rfl
   ·intro i r k c hr hc;obtain⟨u,h1,h2⟩:=ex i r k c hr hc;rw[h1];exact h2
  |_=>cases hc
 have hG:qA w E s.H w E' (s.H.modify id λob=>⟨ob.kind,ob.ty,ob.sz,ob.rows,ob.rows.length⟩):=by
  have hKG:∀(id k:Nat),id<E.n->E'.G id k=E.G id k:=λ_ _ _=>by rw[hKG0]
  refine⟨hle,hKG,rfl,rfl,rfl,gD _,λ_ _ _=>O,λb o u hu=>?_,?_⟩
  ·rcases hnew b o u hu with h1|h1
   ·exact .inl h1
   ·exact .inr (.inr ⟨id,[],_,hgb,h1.symm⟩)
  ·rintro b ⟨id',p,x,hx,rfl⟩
   right
   refine⟨id',p,x,?_,by rw[hβ]⟩;obtain⟨ob',ho',hk',hg'⟩:=ji hx;rw[pS]at ho';cases hx':s.H[id']? with
   |none=>rw[hx']at ho';cases ho'
   |some ob0=>
    rw[hx']at ho';simp only[rV,gF,gS]at ho';unfold z7;rw[hx'];split at ho'
    ·subst ho';simp only[hk',if_true];exact hg'
    ·subst ho';simp only[hk',if_true];exact hg'
 have hk4:jI s.H (s.H.modify id λob=>⟨ob.kind,ob.ty,ob.sz,ob.rows,ob.rows.length⟩):=jI.modify _ _ _ λob' h'=>by
  rw[hob]at h';cases h'
  exact⟨by rw[hk];decide,by show ob.kind≠4;rw[hk];decide⟩
 refine⟨E',⟨⟨hR,mK.step hs.heap hG hk4⟩,?_,hs.defers,aq hs.base⟩,(hG.up hs.heap hk4).ix tG⟩;have:=(hs.tmps.mono hle).set hnl t;rw[yk hy]at this;exact dF
end
def posOf:List Nat->Nat->Nat->Option Nat
 |[],_,_=>none
 |x::xs,i,id=>if x == id then some i else posOf xs (i+1) id
def yd:∀{sel:List Nat} {k id i:Nat},posOf sel k id=some i->k<=i/\sel[i-k]?=some id
 |[],k,id,i,h=>by simp[posOf]at h
 |x::xs,k,id,i,h=>by
  unfold posOf at h;split at h
  ·rename_i e;cases h
   exact⟨gD _,aq e⟩
  ·obtain⟨h1,h2⟩:=yd h;refine⟨aw,?_⟩;rw[show i-k=(i-(k+1))+1 from aw];simpa using h2
def xU(sel:List Nat):Nat->C->C
 |0,_=>.za
 |k+1,c=>match c with
  |.ref id hops sz i j=>match posOf sel 0 id with
   |some id'=>.ref id' hops sz i j
   |none=>.za
  |.sl id hops sz lo len full=>match posOf sel 0 id with
   |some id'=>.sl id' hops sz lo len full
   |none=>.za
  |.mp id=>match posOf sel 0 id with
   |some id'=>.mp id'
   |none=>.za
  |.gl id sz rows=>match posOf sel 0 id with
   |some id'=>.gl id' sz rows
   |none=>.eS 0 sz rows
  |.fR t c=>.fR t (xU sel k c)
  |.rc r=>.rc r
  |.agg cs=>.agg (cs.map (xU sel k))
  |.fb cs=>.fb (cs.map (xU sel k))
  |.fn f first caps=>.fn f (first.map (xU sel k)) (caps.map (xU sel k))
  |.v x=>.v x
  |.eS o sz rows=>.eS o sz rows
  |.jP cells=>.jP cells
  |.un=>.un
  |.za=>.za
def Env.fe(E:Env)(sel:List Nat):Env:={n:=sel.length,β:=λi hops=>E.β ((sel[i]?).getD 0) hops,κ:=λi hops=>E.κ ((sel[i]?).getD 0) hops,St:=E.St,G:=λi k=>E.G ((sel[i]?).getD 0) k}
def Env.FC(E:Env)(sel:List Nat):E.shut.le (E.fe sel).shut:=⟨gD _,λid hops hi=>absurd hi (pj _),λid hops hi=>absurd hi (pj _),λb o u hu=>hu,λid _ _ hi=>absurd hi (pj _)⟩
def LL.fe{E E':Env}{f:C->C}{cs:List C}{ys:List Value}(h:LL E cs ys)(hf:∀c y,L E c y->L E' (f c) y):LL E' (cs.map f) ys:=
 ⟨aq h.1,λi c y e1 e2=>by
  rw[gj]at e1;cases hx:cs[i]? with
  |none=>rw[hx]at e1;cases e1
  |some c0=>rw[hx]at e1;cases e1;exact hf c0 y (h.2 i c0 y hx e2)⟩
def L.fe{E:Env}(sel:List Nat):∀(k:Nat) {c:C} {y:Value},L E c y->L (E.fe sel) (xU sel k c) y:=by
 intro k
 induction k with
 |zero=>intro c y h;exact .za y
 |succ k ih=>
  intro c y h
  have pos:∀{id i},posOf sel 0 id=some i->i<sel.length/\(sel[i]?).getD 0=id:=λ{id i} e=>by
   obtain⟨_,h2⟩:=yd e;rw[rM]at h2;exact⟨(dY.1 h2).1,by rw[h2];rfl⟩
  cases h with
  |v x hx=>exact .v _ hx
  |eS o sz rows b off cap us ho hc hsz hst hL=>
   exact .eS o sz rows b off cap us ho hc hsz hst (λi r k c e1 e2=>(hL i r k c e1 e2).mono (E.FC sel))
  |xq o sz ho a=>exact .xq o sz ho a
  |jP cells b off us hst hL=>
   exact .jP cells b off us hst (λk c e1=>(hL k c e1).mono (E.FC sel))
  |ref id hops sz i j hn=>
   unfold xU;dsimp only;split
   ·rename_i id' e;obtain⟨h1,h2⟩:=pos e;have:=L.ref (E:=E.fe sel) id' hops sz i j h1;simp only[Env.fe,h2]at this;exact dF
   ·exact .za _
  |sl id hops sz lo len full cap hn hlen hf hf'=>
   unfold xU;dsimp only;split
   ·rename_i id' e;obtain⟨h1,h2⟩:=pos e;have:=L.sl (E:=E.fe sel) id' hops sz lo len full cap h1 hlen hf (by simp only[Env.fe,h2];exact hf');simp only[Env.fe,h2]at this;exact dF
   ·exact .za _
  |mp id hn=>
   unfold xU;dsimp only;split
   ·rename_i id' e;obtain⟨h1,h2⟩:=pos e;have:=L.mp (E:=E.fe sel) id' h1;simp only[Env.fe,h2]at this;exact dF
   ·exact .za _
  |agg cs ys h1 h2 h3=>
   have:=LL.fe (f:=xU sel k) (E':=E.fe sel) (cs:=cs) (ys:=ys.toList) ⟨aq h1,λi c y e1 e2=>h2 i c y e1 uZ⟩ (λc y hl=>ih hl);exact dw
  |fb cs ys h1 h2=>
   have:=LL.fe (f:=xU sel k) (E':=E.fe sel) (cs:=cs) (ys:=ys.toList) ⟨aq h1,λi c y e1 e2=>h2 i c y e1 uZ⟩ (λc y hl=>ih hl);exact .fb _ ys tT (λi c y e1 e2=>this.2 i c y e1 uZ)
  |fn f first caps ys zs h1 h2 h3 h4=>
   have t1:=LL.fe (f:=xU sel k) (E':=E.fe sel) (cs:=first) (ys:=ys.toList) ⟨aq h1,λi c y e1 e2=>h3 i c y e1 uZ⟩ (λc y hl=>ih hl);have t2:=LL.fe (f:=xU sel k) (E':=E.fe sel) (cs:=caps) (ys:=zs.toList) ⟨aq h2,λi c y e1 e2=>h4 i c y e1 uZ⟩ (λc y hl=>ih hl);exact dK
  |un=>exact .un
  |za y=>exact .za y
  |gl id sz rows y hn hg hl=>
   unfold xU;dsimp only;split
   ·rename_i id' e;obtain⟨h1,h2⟩:=pos e;exact .gl id' sz rows y h1 (by simp only[Env.fe,h2];exact hg) (hl.mono (E.FC sel))
   ·have h3:E.shut.le (E.fe sel):=⟨gY _,λid hops hi=>absurd hi (pj _),λid hops hi=>absurd hi (pj _),λb o u hu=>hu,λid _ _ hi=>absurd hi (pj _)⟩;exact hl.mono h3
  |fR t c y hl=>exact .fR t _ y (ih hl)
def ML(sel:List Nat)(k:Nat){c:C}(h:zB c=true):zB (xU sel k c)=true:=by
 cases k with
 |zero=>rfl
 |succ k=>
  cases c with
  |eS o sz rows=>exact h
  |ref id hops sz i j=>unfold xU;dsimp only;split <;> rfl
  |sl id hops sz lo len full=>unfold xU;dsimp only;split <;> rfl
  |mp id=>unfold xU;dsimp only;split <;> rfl
  |gl id sz rows=>unfold xU;dsimp only;split <;> rfl
  |_=>rfl
def zL(sel:List Nat)(ob:Ob):Ob:=
 match ob with
 |⟨kind,ty,sz,rows,fz⟩=>⟨kind,ty,sz,match kind with
  |2=>rows
  |4=>rows
  |_=>rows.map λr=>r.map (xU sel 9),fz⟩
def dead:Ob:=⟨0,0,0,[],0⟩
def xy(sel:List Nat)(H:zl):zl:=sel.map λid=>zL sel ((H[id]?).getD dead)
def yc:List Nat->Bool
 |[]=>true
 |x::xs=>!(xs.any (· == x)) && yc xs
def kL:∀{l:List Nat},yc l=true->∀(i j x:Nat),l[i]?=some x->l[j]?=some x->i=j
 |[],_,i,j,x,h,_=>by simp at h
 |y::l,h,i,j,x,h1,h2=>by
  simp only[yc,gC,pJ,pd]at h;cases i with
  |zero=>
   cases j with
   |zero=>rfl
   |succ j=>
    simp at h1 h2;subst h1;exact absurd aj (h.1 _ (gh h2))
  |succ i=>
   cases j with
   |zero=>
    simp at h1 h2;subst h2;exact absurd aj (h.1 _ (gh h1))
   |succ j=>
    simp at h1 h2;rw[kL h.2 i j x h1 h2]
def L.Yy{E:Env}{c:C}{y:Value}(h:L E c y)(hc:CS c=true):L E.shut c y:=by
 cases h with
 |agg cs ys h1 h2 h3=>
  refine .agg cs ys h1 (λi c y e1 e2=>(h2 i c y e1 e2).kz ?_) h3;exact gA.1 (show cs.all xm=true from hc) _ (gh e1)
 |v x hx=>exact(L.v (E:=E) _ hx).kz hc
 |eS o sz rows b off cap us ho h2 hsz hst hL=>exact(L.eS (E:=E) o sz rows b off cap us ho h2 hsz hst hL).kz hc
 |xq o sz ho a=>exact(L.xq (E:=E) o sz ho a).kz hc
 |jP cells b off us hst hL=>exact(L.jP (E:=E) cells b off us hst hL).kz hc
 |fn f first caps ys zs h1 h2 h3 h4=>exact(L.fn (E:=E) f first caps ys zs h1 h2 h3 h4).kz hc
 |_=>simp[CS,xm,AM]at hc
def LL.closed{E E':Env}{t:List C}{ys:List Value}(h:LL E t ys)(hc:t.all CS=true)(hs:E.shut.le E'):LL E' t ys:=
 ⟨h.1,λi c y e1 e2=>((h.2 i c y e1 e2).Yy (gA.1 hc _ (gh e1))).mono hs⟩
section
variable {B:Nat}
def xM{sel:List Nat}{H:zl}{i:Nat}{ob':Ob}(h:(xy sel H)[i]?=some ob')(z8:sel.all (λid=>Nat.blt id H.length)=true):∃id ob,sel[i]?=some id/\H[id]?=some ob/\ob'=zL sel ob:=by
 unfold xy at h;rw[gj]at h;cases hx:sel[i]? with
 |none=>rw[hx]at h;cases h
 |some id=>
  rw[hx]at h
  have eU:id<H.length:=by
   have:=gA.1 z8 id (gh hx);simpa [Nat.blt_eq] using this
  have h2:H[id]?=some H[id]:=aZ
  simp only[gF,gS,h2,pL]at h;exact⟨id,H[id],rfl,h2,h.symm⟩
def wz{sel:List Nat}{H:zl}{i:Nat}{hops:List fJ}{sz:Nat}{rows:List (List C)}(z8:sel.all (λid=>Nat.blt id H.length)=true)(fP:qP H=true)(h:z7 (xy sel H) i hops=some (sz,rows)):
  ∃id ob rows0,sel[i]?=some id/\H[id]?=some ob/\z7 H id hops=some (sz,rows0)/\((ob.kind=2/\rows=rows0)\/(ob.kind=1/\hops=[]/\rows=rows0.map (λr=>r.map (xU sel 9))/\∀r∈rows0,∀c∈r,zB c=true)):=by
 obtain⟨ob',ho',hk',hg'⟩:=ji h;obtain⟨id,ob,h1,h2,rfl⟩:=xM ho' z8;obtain⟨kind,ty,sz0,rows0,fz⟩:=ob;rcases hk' with hk|hk
 ·have hk:kind=1:=hk;subst hk
  have hno:∀r∈rows0,∀c∈r,zB c=true:=by
   have:=gA.1 fP _ (gh h2);dsimp only at this;simpa [gA] using this
  have hg2:vY sz0 (rows0.map λr=>r.map (xU sel 9)) hops=some (sz,rows):=hg'
  obtain⟨rfl,e⟩:=wC (λi k c hc=>by
   unfold cellAt at hc;rw[gj]at hc;cases hx:rows0[i]? with
   |none=>rw[hx]at hc;cases hc
   |some r=>
    rw[hx]at hc;simp only[gF,gX,gj]at hc;cases hy:r[k]? with
    |none=>rw[hy]at hc;cases hc
    |some c0=>
     rw[hy]at hc;cases hc
     exact ML sel 9 (hno r (gh hx) c0 (gh hy))) hg2
  cases e
  exact⟨id,_,rows0,h1,h2,by unfold z7;rw[h2];simp[qS],.inr ⟨rfl,rfl,rfl,hno⟩⟩
 ·have hk:kind=2:=hk;subst hk;exact⟨id,_,rows,h1,h2,bH,.inl ⟨rfl,rfl⟩⟩
def qd.fe{w:World}{E:Env}{H:zl}(hh:qd w E H)(sel:List Nat)(z8:sel.all (λid=>Nat.blt id H.length)=true)(fV:yc sel=true)(fP:qP H=true):qd w (E.fe sel) (xy sel H) where
 n:=by simp[Env.fe,xy]
 fj i ob' hops sz rows hob' hx:=by
  obtain⟨id,ob,rows0,h1,h2,h3,h4⟩:=wz z8 fP hx;obtain⟨id2,ob2,e1,e2,rfl⟩:=xM hob' z8;rw[h1]at e1;cases e1
  rw[h2]at e2;cases e2
  have hb:=hh.fj id ob hops sz rows0 h2 h3;obtain⟨cur,e,hg,hcs,hcell⟩:=hb.fj;have hβ:∀hops,(E.fe sel).β i hops=E.β id hops:=λhops=>by simp[Env.fe,h1]
  have hκ:∀hops,(E.fe sel).κ i hops=E.κ id hops:=λhops=>by simp[Env.fe,h1]
  have hkind:(zL sel ob).kind=ob.kind:=by obtain⟨kind,ty,sz,rows,fz⟩:=ob;rfl
  rw[hkind];rcases h4 with⟨hk,rfl⟩|⟨hk,rfl,rfl,hno⟩
  ·refine⟨by rw[hκ];exact hb.len,hb.row,cur,e,by rw[hβ];exact hg,by rw[hκ];exact hcs,?_⟩;intro i' k c hc;obtain⟨u,hu,ho⟩:=hcell i' k c hc;refine⟨u,hu,?_⟩;unfold qW at ho ⊢;split at ho
   ·rw[hβ,hκ];exact ho
   ·refine⟨?_,ho.2⟩;have h5:=ho.1;simp only[Env.at,hk,if_true]at h5 ⊢;exact h5.mono (E.FC sel)
  ·refine⟨by rw[hκ];simpa using hb.len,?_,cur,e,by rw[hβ];exact hg,by rw[hκ];exact hcs,?_⟩
   ·intro r hr;obtain⟨r0,h5,rfl⟩:=gZ.1 hr;simpa using hb.row r0 h5
   ·intro i' k c hc;unfold cellAt at hc;rw[gj]at hc;cases hx1:rows0[i']? with
    |none=>rw[hx1]at hc;cases hc
    |some r=>
     rw[hx1]at hc;simp only[gF,gX,gj]at hc;cases hy:r[k]? with
     |none=>rw[hy]at hc;cases hc
     |some c0=>
      rw[hy]at hc;cases hc
      obtain⟨u,hu,ho⟩:=hcell i' k c0 (by unfold cellAt;rw[hx1];exact hy);have hn0:=hno r (gh hx1) c0 (gh hy);rw[qW.loose hn0]at ho;refine⟨u,hu,(qW.loose (ML sel 9 hn0)).2 ⟨?_,ho.2⟩⟩;have h5:=ho.1;have hk2:¬ob.kind=2:=by rw[hk];decide
      simp only[Env.at,gf hk2]at h5 ⊢;exact h5.fe sel 9
 inj i hops i' hops' x y hx hy he:=by
  obtain⟨id,ob,rows0,h1,h2,h3,_⟩:=wz z8 fP (sz:=x.1) (rows:=x.2) (aq hx);obtain⟨id',ob',rows0',h1',h2',h3',_⟩:=wz z8 fP (sz:=y.1) (rows:=y.2) (aq hy);simp only[Env.fe,h1,h1',pL]at he;obtain⟨rfl,rfl⟩:=hh.inj id hops id' hops' _ _ h3 h3' he;exact⟨kL fV _ _ _ h1 h1',rfl⟩
 qs:=hh.qs
 sep i hops x o u hx hu:=by
  obtain⟨id,ob,rows0,h1,h2,h3,_⟩:=wz z8 fP (sz:=x.1) (rows:=x.2) (aq hx);simp only[Env.fe,h1,pL]at hu;obtain⟨e1,ob2,e2,e3⟩:=hh.sep id hops _ o u h3 hu;rw[h2]at e2;cases e2
  refine⟨e1,zL sel ob,?_,?_⟩
  ·unfold xy;rw[gj,h1];simp[h2]
  ·obtain⟨kind,ty,sz,rows,fz⟩:=ob;exact e3
 ty i ob' hob' hk:=by
  obtain⟨id,ob,h1,h2,rfl⟩:=xM hob' z8;obtain⟨kind,ty,sz,rows,fz⟩:=ob;obtain⟨cur,hc⟩:=hh.ty id _ h2 hk;exact⟨cur,by simp only[Env.fe,h1,pL];exact hc⟩
 fz i ob' hob':=by
  obtain⟨id,ob,h1,h2,rfl⟩:=xM hob' z8;obtain⟨kind,ty,sz,rows,fz⟩:=ob;have:=hh.fz id _ h2;dsimp only[zL]at this ⊢;split
  ·exact dF
  ·exact dF
  ·simpa using this
def C3:Nat->Nat->List Nat->Bool
 |0,_,_=>true
 |n+1,k,x::xs=>x == k && C3 n (k+1) xs
 |_+1,_,[]=>false
def LW:∀{n k:Nat} {l:List Nat},C3 n k l=true->n<=l.length/\∀i,i<n->l[i]?=some (k+i)
 |0,k,l,h=>⟨gY _,λi hi=>absurd hi (pj _)⟩
 |n+1,k,x::xs,h=>by
  simp only[C3,gC,pq]at h;obtain⟨h1,h2⟩:=LW h.2;refine⟨aq h1,λi hi=>?_⟩;cases i with
  |zero=>simp[h.1]
  |succ i=>simp[h2 i aw];omega
 |n+1,k,[],h=>by simp[C3]at h
def kj(sel:List Nat)(ob:Ob):(zL sel ob).kind=ob.kind/\(zL sel ob).ty=ob.ty/\(zL sel ob).sz=ob.sz/\(zL sel ob).rows.length=ob.rows.length:=by
 obtain⟨kind,ty,sz,rows,fz⟩:=ob;refine⟨rfl,rfl,rfl,?_⟩;unfold zL;dsimp only;split <;> simp
def qH.fe{E:Env}{H:zl}{sel:List Nat}(z8:sel.all (λid=>Nat.blt id H.length)=true){i b:Nat}(h:qH (E.fe sel) (xy sel H) i b):∃id,sel[i]?=some id/\qH E H id b:=by
 obtain⟨ob',cap,h1,h2,h3,h4⟩:=h;obtain⟨id,ob,e1,e2,rfl⟩:=xM h1 z8;obtain⟨l1,l2,l3,l4⟩:=kj sel ob;rw[l4]at h3 h4;simp only[Env.fe,e1,pL]at h3;exact⟨id,e1,ob,cap,e2,bJ,h3,h4⟩
def I6{sel:List Nat}{ob:Ob}(h:ob.kind=4):zL sel ob=ob:=by
 obtain⟨kind,ty,sz,rows,fz⟩:=ob;cases h
 rfl
def jE.fe{H:zl}{sel:List Nat}(z8:sel.all (λid=>Nat.blt id H.length)=true){i b:Nat}(h:jE (xy sel H) i b):∃id,sel[i]?=some id/\jE H id b:=by
 obtain⟨ob',r,t,h1,h2,h3,h4⟩:=h;obtain⟨id,ob,e1,e2,rfl⟩:=xM h1 z8;have hk4:ob.kind=4:=by rw[<-(kj sel ob).1];exact h2
 rw[I6 hk4]at h3 h4;exact⟨id,e1,ob,r,t,e2,hk4,h3,h4⟩
def jh.fe{E:Env}{H:zl}{sel:List Nat}(z8:sel.all (λid=>Nat.blt id H.length)=true)(fP:qP H=true){b:Nat}(h:jh (E.fe sel) (xy sel H) b):jh E H b:=by
 obtain⟨i,hops,⟨sz,rows⟩,hx,rfl⟩:=h;obtain⟨id,ob,rows0,h3,h4,h5,_⟩:=wz z8 fP hx;exact⟨id,hops,_,h5,by simp[Env.fe,h3]⟩
def qu.fe{w:World}{E:Env}{H:zl}(hh:qu w E H)(sel:List Nat)(z8:sel.all (λid=>Nat.blt id H.length)=true)(fV:yc sel=true)(fP:qP H=true):qu w (E.fe sel) (xy sel H) where
 base:=hh.base.fe sel z8 fV fP
 eX:={
  val:=λi ob' h1 h2=>by
   obtain⟨id,ob,e1,e2,rfl⟩:=xM h1 z8;obtain⟨l1,l2,l3,l4⟩:=kj sel ob;rw[l4];simp only[Env.fe,e1,pL];exact hh.eX.val id ob e2 bJ
  fj:=λi b ob' h1 h2=>by
   obtain⟨id,e0,h3⟩:=h1.fe z8;obtain⟨id',ob,e1,e2,rfl⟩:=xM h2 z8;rw[e0]at e1;cases e1
   obtain⟨l1,l2,l3,l4⟩:=kj sel ob;rw[l2,l3,l4];simp only[Env.fe,e0,pL];exact hh.eX.fj id b ob h3 e2
  sep:=λi b h1 h2=>by
   obtain⟨id,e0,h3⟩:=h1.fe z8;exact hh.eX.sep id b h3 (h2.fe z8 fP)
  inj:=λi i' b h1 h2=>by
   obtain⟨id,e0,h3⟩:=h1.fe z8;obtain⟨id',e1,h4⟩:=h2.fe z8;obtain rfl:=hh.eX.inj id id' b h3 h4;exact kL fV _ _ _ e0 e1
  st:=λi b ob' o u h1 h2 h3=>by
   obtain⟨id,e0,h4⟩:=h1.fe z8;obtain⟨id',ob,e1,e2,rfl⟩:=xM h2 z8;rw[e0]at e1;cases e1
   obtain⟨l1,l2,l3,l4⟩:=kj sel ob;rw[l3,l4];exact hh.eX.st id b ob o u h4 e2 h3
  top:=λi ob' k u h1 h2 h3=>by
   obtain⟨id,ob,e1,e2,rfl⟩:=xM h1 z8;obtain⟨l1,l2,l3,l4⟩:=kj sel ob;rw[l4];simp only[Env.fe,e1,pL]at h3;exact hh.eX.top id ob k u e2 bJ h3
  iw:=λi ob' r t h1 h2 h3=>by
   obtain⟨id,ob,e1,e2,rfl⟩:=xM h1 z8;have hk4:ob.kind=4:=by rw[<-(kj sel ob).1];exact h2
   rw[I6 hk4]at h3;have:=gA.1 fP ob (gh e2);rw[hk4,h3.2,h3.1]at this;obtain⟨p1,p2⟩:=hh.eX.iw id ob r t e2 hk4 h3;have ht:t.all CS=true:=aq this
   rw[I6 hk4];exact⟨p1,p2.map λys hl=>hl.closed ht ⟨gY _,λ_ _ h=>absurd h (pj _),λ_ _ h=>absurd h (pj _),λ_ _ _ h=>h,λ_ _ _ h=>absurd h (pj _)⟩⟩
  iO:=λi i' b h1 h2=>by
   obtain⟨id,e0,h3⟩:=h1.fe z8;obtain⟨id',e1,h4⟩:=h2.fe z8;obtain rfl:=hh.eX.iO id id' b h3 h4;exact kL fV _ _ _ e0 e1}
def zn.fe(sel m:List Nat)(t:List C)(H:zl)(hB:C3 B 0 sel=true)(z8:sel.all (λid=>Nat.blt id H.length)=true)(fV:yc sel=true)(fP:qP H=true):zn B ⟨t,H⟩ ⟨(Bx m 0 t).map (xU sel 9),xy sel H⟩:=λmm w E a hs=>by
 obtain⟨h1,h2⟩:=LW hB
 refine⟨E.fe sel,⟨hs.heap.fe sel z8 fV fP,((H8 m t 0).LL hs.tmps).fe (λc y hl=>hl.fe sel 9),hs.defers,by simpa [xy] using h1⟩,
  ⟨⟨λid hops hi=>by simp[Env.fe,h2 id hi],λid hops hi=>by simp[Env.fe,h2 id hi],λ_ _ _ h=>h,λid k u hi hu=>by simpa [Env.fe,h2 id hi] using hu⟩,rfl,rfl,rfl,gD _,λ_ _ _=>O,λb o u hu=>.inl hu,?_⟩⟩
 rintro b (hb|⟨i,hb|hb⟩)
 ·exact .inr (.inl (hb.fe z8 fP))
 ·obtain⟨id,_,h3⟩:=hb.fe z8;exact .inr (.inr ⟨id,.inl h3⟩)
 ·obtain⟨id,_,h3⟩:=hb.fe z8;exact .inr (.inr ⟨id,.inr h3⟩)
end
def WC.trans{c c' c'':C}(h:WC c c')(h':WC c' c''):WC c c'':=λE y hl=>h' E y (h E y hl)
def WC.nil(sz sz':Nat):WC (.eS 1 sz []) (.eS 0 sz' []):=(WC.none 1 sz sz').trans (WC.share 1 sz' [])
def iH.at:∀{cs:List C} {i:Nat} {c c':C},cs[i]?=some c->WC c c'->iH cs (cs.set i c')
 |[],i,c,c',h,hw=>by simp at h
 |x::xs,0,c,c',h,hw=>by simp at h;subst h;exact .cons hw (iH.refl xs)
 |x::xs,i+1,c,c',h,hw=>.cons (.refl x) (iH.at (aq h) hw)
def zn.cell{B:Nat}{s:S}(i:Nat){c c':C}(h:s.tmps[i]?=some c)(hw:WC c c'):zn B s ⟨s.tmps.set i c',s.H⟩:=zn.tmps (iH.at h hw)
def ng(t2:List C):List C->Prop:=
 List.rec (motive:=λ_=>List C->Prop) (λt1=>match t1 with|[]=>True|_::_=>False)
  (λc' _ ih t1=>match t1 with
   |[]=>False
   |c::cs=>match c' with
    |.za=>ih cs
    |c'=>c=c'/\ih cs) t2
def I0:∀{t2 t1:List C},ng t2 t1->iH t1 t2
 |[],[],_=>.nil
 |[],_::_,h=>h.elim
 |_::_,[],h=>h.elim
 |c'::t2,c::t1,h=>by
  cases c' with
  |za=>exact .cons (.za c) (I0 (t2:=t2) (t1:=t1) h)
  |_=>
   obtain⟨h1,h2⟩:=h;exact .cons (h1 ▸ .refl c) (I0 (t2:=t2) (t1:=t1) h2)
section
variable {P:Program} {B:Nat}
def zn.ng{t1 t2:List C}{H:zl}(h:Ab.ng t2 t1):zn B ⟨t1,H⟩ ⟨t2,H⟩:=zn.tmps (I0 h)
def zn.xw(n:Nat){t1 t2:List C}{H1 H2:zl}(h:Ab.ng t2 t1)(hB:Nat.ble B n=true)(hn:Nat.ble n H1.length=true)(ht:t2.all (jc n 9)=true)(hr:qM n (H1.take n)=true)(hH:H1.take n=H2):zn B ⟨t1,H1⟩ ⟨t2,H2⟩:=by
 subst hH;exact(zn.ng h).trans (zn.drop (s:=⟨t2,H1⟩) n hB hn ht hr)
def zn.FW{s:S}(t:Nat){id sz len ty:Nat}{full:Bool}{rows:List (List C)}(ht:s.tmps[t]?=some (.sl id [] sz 0 len full))(hob:s.H[id]?=some ⟨2,ty,sz,rows,0⟩)(hlen:len=rows.length)
 (hno:∀r∈rows,∀c∈r,zB c=true):
  zn B s ⟨s.tmps.set t (.eS (if full then 1 else 0) sz rows),s.H.set id ⟨2,ty,sz,rows,rows.length⟩⟩:=by
 have:=zn.freeze (B:=B) t ht hob O O (by simp[hlen]) hno;rw[va _ hob]at this;simpa [hlen] using this
def qu.Lb{w:World}{E:Env}{H:zl}(hh:qu w E H){id sz len ty:Nat}{full:Bool}{rows:List (List C)}{y:Value}(hl:L E (.sl id [] sz 0 len full) y)(hob:H[id]?=some ⟨2,ty,sz,rows,0⟩)(hlen:len=rows.length)
 (hno:∀r∈rows,∀c∈r,zB c=true):
  ∃E1,qu w E1 (H.set id ⟨2,ty,sz,rows,rows.length⟩)/\L E1 (.eS (if full then 1 else 0) sz rows) y/\Grow w E H w E1 (H.set id ⟨2,ty,sz,rows,rows.length⟩):=by
 obtain⟨E1,hs,g⟩:=zn.FW (B:=H.length) (s:=⟨[.sl id [] sz 0 len full],H⟩) 0 O hob hlen hno 0 w E ⟨#[y],[]⟩ ⟨hh,LL.one hl,gY _,gD _⟩;have hn:=hs.heap.n
 refine⟨E1,hs.heap,hs.tmps.cons_inv.1,⟨⟨by rw[hn,hh.n];simp,λid hops hi=>g.le.β id hops tH,λid hops hi=>g.le.κ id hops tH,g.le.St,λid k u hi=>g.le.G id k u tH⟩,
  g.os,g.tape,g.output,g.size,g.frame,g.jO,g.own⟩⟩
def zn.ZK{s:S}(vid k:Nat){id sz len ty vty vsz fz:Nat}{full:Bool}{r:List C}{rows:List (List C)}(hv:s.H[vid]?=some ⟨1,vty,vsz,[r],fz⟩)(hk:r[k]?=some (.sl id [] sz 0 len full))(hob:s.H[id]?=some ⟨2,ty,sz,rows,0⟩)(hlen:len=rows.length)
 (hno:∀r∈rows,∀c∈r,zB c=true)(hr:r.all zB=true)(hr':(r.set k (.eS (if full then 1 else 0) sz rows)).all zB=true):
  zn B s ⟨s.tmps,(s.H.set id ⟨2,ty,sz,rows,rows.length⟩).set vid ⟨1,vty,vsz,[r.set k (.eS (if full then 1 else 0) sz rows)],fz⟩⟩:=λm w E a hs=>by
 have hgb:z7 s.H vid []=some (vsz,[r]):=by unfold z7;rw[hv];simp[qS]
 obtain⟨cur,e,h3,h4,h5⟩:=(hs.heap.base.fj _ _ _ _ _ hv hgb).fj;obtain⟨u,hu,ho⟩:=h5 0 k _ (y7.2 ⟨rfl,hk⟩);rw[qW.loose O]at ho;have hl:L E (.sl id [] sz 0 len full) u:=aG
 obtain⟨E1,hh1,hl1,g1⟩:=hs.heap.Lb hl hob hlen hno;have hne:vid≠id:=by rintro rfl;rw[hv]at hob;cases hob
 have hob1:(s.H.set id ⟨2,ty,sz,rows,rows.length⟩)[vid]?=some ⟨1,vty,vsz,[r],fz⟩:=by rw[gG,gf (Ne.symm hne)];exact hv
 have hβ:E1.β vid []=E.β vid []:=g1.le.β vid [] (by rw[hs.heap.n];exact(dY.1 hv).1)
 have hcu:w.cell? ⟨E1.β vid [],k,none⟩=some u:=by
  unfold World.cell?;rw[hβ,h3];simpa using hu
 obtain⟨hR,g2⟩:=hh1.Ej hob1 (r':=r.set k (.eS (if full then 1 else 0) sz rows)) aj hr hr' λj c c' v e1 e2 hl' hv=>by
  rw[gG]at e2;split at e2
  ·rename_i e;subst e;rw[hcu]at hv;cases hv
   split at e2
   ·cases e2;exact hl1
   ·cases e2
  ·rw[e1]at e2;cases e2
   exact hl'
 exact dm
def ql.Jj{f:FuncId}{args:List C}{r:C}(h:ql P f [] args λc _=>yx 0 9 c=r):zb P f [] args r []:=λw E vs hh hl=>by
 refine(h w E vs hh hl).mono ?_;rintro e w' ⟨c,H',v,E',rfl,rfl,h1,h2,g⟩;have h3:=h1.drop 0 (gY _) (by simp[qM]);rw[eC]at h3;have hn:E.n=0:=hh.n
 exact⟨v,E'.cut 0,rfl,h3,h2.low 0 9,⟨⟨by rw[hn];exact gY _,λid hops hi=>by rw[hn]at hi;omega,λid hops hi=>by rw[hn]at hi;omega,g.le.St,λid k u hi=>by rw[hn]at hi;omega⟩,g.os,g.tape,g.output,g.size,g.frame,g.jO,
  λb h=>absurd h xj.none⟩⟩
def zb.zp{f:FuncId}{fn:Func}{c:Code}{args:List C}{r:C}(hf:P.funcs[f]?=some fn)(hb:fn.body=some c)
 (h:wpA P 0 c (entry fn args) [] λex t1 H1=>(ex=.ret\/ex=.normal)/\∃s2,zn 0 ⟨t1,H1⟩ s2/\(vL P fn s2).map (yx 0 9)=some r):zb P f [] args r []:=by
 refine ql.Jj (ql.kY (H:=[]) hf hb ((jy h).mono λex s1 ⟨hex,s2,hw,h2⟩=>?_));cases h3:vL P fn s2 with
 |none=>rw[h3]at h2;cases h2
 |some r0=>
  rw[h3]at h2;cases h2
  exact⟨hex,s2,r0,hw,h3,rfl⟩
def ab{f:FuncId}{fn:Func}{c:Code}{args:List C}{r:C}{zQ:Prop}(hf:P.funcs[f]?=some fn)(z0:zQ)(hb:fn.body=some c:=by exact O)(ze:zQ->wpA P 0 c (entry fn args) [] λex t1 H1=>(ex=.ret\/ex=.normal)/\∃s2,zn 0 ⟨t1,H1⟩ s2/\(vL P fn s2).map (yx 0 9)=some r:=by intro zh;(conv=>whnf);exact zh):zb P f [] args r []:=zb.zp hf hb (ze z0)
def qa.seq{c:Code}{t:List C}{H:zl}{K:Exit->List C->zl->Prop}(N:Nat)(T:Nat->List C)(Hp:Nat->zl)(R:Nat->Prop)(h0:zn B ⟨t,H⟩ ⟨T 0,Hp 0⟩)(r0:R 0)
 (step:∀k,k<N->R k->wpA P B c (T k) (Hp k) λe t1 H1=>(e=.normal/\zn B ⟨t1,H1⟩ ⟨T (k+1),Hp (k+1)⟩/\R (k+1))\/(e≠.normal/\K e t1 H1))
 (done:R N->wpA P B c (T N) (Hp N) λe t1 H1=>e≠.normal/\K e t1 H1):
  AK P B c t H K:=by
 have key:∀n k,k+n=N->R k->lQ P B c (n+1) ⟨T k,Hp k⟩ λex s=>K ex s.tmps s.H:=by
  intro n
  induction n with
  |zero=>
   intro k hk hr;obtain rfl:k=N:=aw
   refine .step ((jy (done hr)).mono λex s1 ⟨hne,hK⟩=>?_);cases ex with
   |normal=>exact absurd O hne
   |_=>exact hK
  |succ n ih=>
   intro k hk hr;refine .step ((jy (step k aw hr)).post λex s1 h1=>?_);rcases h1 with⟨rfl,hw,hr'⟩|⟨hne,hK⟩
   ·exact⟨_,hw,(ih (k+1) aw hr':lQ P B c (n+1) _ _)⟩
   ·refine⟨s1,.refl s1,?_⟩;cases ex with
    |normal=>exact absurd O hne
    |_=>exact hK
 exact⟨.pre h0 ⟨N+1,key N 0 aw r0⟩⟩
end
section
variable {P:Program} {B:Nat}
structure LoopN(P:Program)(B:Nat)(c:Code)(n:Nat)(t:List C)(H:zl)(K:Exit->List C->zl->Prop):Prop where
 out:lQ P B c n ⟨t,H⟩ λex s=>K ex s.tmps s.H
def LoopN.step{c:Code}{n:Nat}{t:List C}{H:zl}{K:Exit->List C->zl->Prop}
 (h:wpA P B c t H λe t1 H1=>(e=.normal/\LoopN P B c n t1 H1 K)\/(e≠.normal/\K e t1 H1)):LoopN P B c (n+1) t H K:=by
 refine⟨.step ((jy h).post λex s1 h1=>?_)⟩;rcases h1 with⟨rfl,h⟩|⟨hne,hK⟩
 ·exact⟨s1,.refl s1,h.out⟩
 ·refine⟨s1,.refl s1,?_⟩;cases ex with
  |normal=>exact absurd O hne
  |_=>exact hK
def AK.Bc{c:Code}(n:Nat){t:List C}{H:zl}{K:Exit->List C->zl->Prop}(h:LoopN P B c n t H K):AK P B c t H K:=⟨⟨n,h.out⟩⟩
end
section
variable {P:Program} {B:Nat}
def vK{x y:Code}{t:List C}{H:zl}{R:Exit->S->Prop}(h:wpA P B x t H λe t1 H1=>(e=.normal/\∃t2 H2,zn B ⟨t1,H1⟩ ⟨t2,H2⟩/\qO P B y ⟨t2,H2⟩ R)\/(e≠.normal/\R e ⟨t1,H1⟩)):qO P B (.seq x y) ⟨t,H⟩ R:=by
 refine .seq ((jy h).post λex s1 h1=>?_);rcases h1 with⟨rfl,t2,H2,hw,hr⟩|⟨hne,hr⟩
 ·exact⟨_,hw,hr⟩
 ·refine⟨s1,.refl s1,?_⟩;cases ex with
  |normal=>exact absurd O hne
  |_=>exact hr
def zb.zxu{f:FuncId}{fn:Func}{c:Code}{H H':zl}{args:List C}{r:C}(hf:P.funcs[f]?=some fn)(hb:fn.body=some c)
 (h:qO P H.length c ⟨entry fn args,H⟩ λex s=>(ex=.ret\/ex=.normal)/\s.H=H'/\vL P fn s=some r):zb P f H args r H':=
 ql.at (ql.kY hf hb (h.mono λex s1 ⟨hex,h2,h3⟩=>⟨hex,s1,r,.refl _,h3,rfl,h2⟩))
end
def behind:Nat->Code->Code
 |0,c=>c
 |n+1,.seq _ y=>behind n y
 |_,c=>c
def cE{B:Nat}(n:Nat){t1 t2:List C}{H1 H2:zl}(h:Ab.ng t2 t1:=by (conv=>whnf);refine hZ ?_;exact trivial)(hB:Nat.ble B n=true:=by exact O)(hn:Nat.ble n H1.length=true:=by exact O)(ht:t2.all (jc n 9)=true:=by exact O)(hr:qM n (H1.take n)=true:=by exact O)(hH:H1.take n=H2:=by exact O):zn B ⟨t1,H1⟩ ⟨t2,H2⟩:=zn.xw n h hB hn ht hr hH
def cC{B:Nat}{t1 t2:List C}{H:zl}(h:Ab.ng t2 t1:=by (conv=>whnf);refine hZ ?_;exact trivial):zn B ⟨t1,H⟩ ⟨t2,H⟩:=zn.ng h
end Go.Ab
