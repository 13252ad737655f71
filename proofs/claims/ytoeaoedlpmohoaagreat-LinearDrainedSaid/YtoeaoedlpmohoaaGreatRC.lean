import Derived.IntWalk
import Derived.Test.YtoeaoedlpmohoaaGreatRB
set_option linter.all false
set_option maxRecDepth 100000
set_option maxHeartbeats 4000000
namespace Go.Ab
def Jb(x:Value)(k:Value->Prop):Prop:=
 match x with
 |.int t n=>k (.int t n)
 |.bool b=>k (.bool b)
 |.string s=>k (.string s)
 |x=>k x
def jw(n:Nat)(k:Nat->Prop):Prop:=
 match n with
 |0=>k 0
 |1=>k 1
 |2=>k 2
 |3=>k 3
 |4=>k 4
 |5=>k 5
 |6=>k 6
 |7=>k 7
 |8=>k 8
 |9=>k 9
 |10=>k 10
 |11=>k 11
 |12=>k 12
 |13=>k 13
 |14=>k 14
 |15=>k 15
 |16=>k 16
 |17=>k 17
 |18=>k 18
 |19=>k 19
 |20=>k 20
 |21=>k 21
 |22=>k 22
 |23=>k 23
 |24=>k 24
 |25=>k 25
 |26=>k 26
 |27=>k 27
 |28=>k 28
 |29=>k 29
 |30=>k 30
 |31=>k 31
 |32=>k 32
 |33=>k 33
 |34=>k 34
 |35=>k 35
 |36=>k 36
 |37=>k 37
 |38=>k 38
 |39=>k 39
 |40=>k 40
 |41=>k 41
 |42=>k 42
 |43=>k 43
 |44=>k 44
 |45=>k 45
 |46=>k 46
 |47=>k 47
 |48=>k 48
 |49=>k 49
 |50=>k 50
 |51=>k 51
 |52=>k 52
 |53=>k 53
 |54=>k 54
 |55=>k 55
 |56=>k 56
 |57=>k 57
 |58=>k 58
 |59=>k 59
 |60=>k 60
 |61=>k 61
 |62=>k 62
 |63=>k 63
 |64=>k 64
 |n=>k n
def qx{n:Nat}{k:Nat->Prop}(h:jw n k):k n:=by
 unfold jw at h;split at h <;> exact h
def xn{α:Type}:List α->(List α->Prop)->Prop
 |[],k=>k []
 |x::xs,k=>xn xs λys=>k (x::ys)
def jj{α:Type}:∀{l:List α} {k:List α->Prop},xn l k->k l
 |[],k,h=>h
 |x::xs,k,h=>jj (l:=xs) (k:=λys=>k (x::ys)) h
def qT(c:C)(k:C->Prop):Prop:=
 match c with
 |.v x=>Jb x λx=>k (.v x)
 |.fp o sz rows=>k (.fp o sz rows)
 |.jU cells=>xn cells λcells=>k (.jU cells)
 |.ref id hops sz i j=>jw id λid=>jw sz λsz=>jw j λj=>k (.ref id hops sz i j)
 |.sl id hops sz lo len full=>jw id λid=>k (.sl id hops sz lo len full)
 |.fn f first caps=>k (.fn f first caps)
 |.mp id=>jw id λid=>k (.mp id)
 |.agg cs=>xn cs λcs=>k (.agg cs)
 |.fC cs=>xn cs λcs=>k (.fC cs)
 |.un=>k .un
 |.za=>k .za
 |.gl id sz rows=>jw id λid=>k (.gl id sz rows)
 |.iu t c=>k (.iu t c)
 |.rc r=>k (.rc r)
def Sg{x:Value}{k:Value->Prop}(h:Jb x k):k x:=by
 unfold Jb at h;split at h <;> exact h
def zQ{c:C}{k:C->Prop}(h:qT c k):k c:=by
 cases c with
 |v x=>exact Sg (k:=λx=>k (.v x)) h
 |jU cells=>exact jj (k:=λcells=>k (.jU cells)) h
 |ref id hops sz i j=>exact qx (k:=λj=>k (.ref id hops sz i j)) (qx (k:=λsz=>jw j λj=>k (.ref id hops sz i j)) (qx (k:=λid=>jw sz λsz=>jw j λj=>k (.ref id hops sz i j)) h))
 |sl id hops sz lo len full=>exact qx (k:=λid=>k (.sl id hops sz lo len full)) h
 |mp id=>exact qx (k:=λid=>k (.mp id)) h
 |gl id sz rows=>exact qx (k:=λid=>k (.gl id sz rows)) h
 |agg cs=>exact jj (k:=λcs=>k (.agg cs)) h
 |fC cs=>exact jj (k:=λcs=>k (.fC cs)) h
 |_=>exact h
def vb{α:Type}(f:α->(α->Prop)->Prop):List α->(List α->Prop)->Prop
 |[],k=>k []
 |x::xs,k=>f x λx=>vb f xs λxs=>k (x::xs)
def qS{α:Type}{f:α->(α->Prop)->Prop}(hf:∀x k,f x k->k x):∀{l:List α} {k:List α->Prop},vb f l k->k l
 |[],k,h=>h
 |x::xs,k,h=>qS hf (l:=xs) (k:=λxs=>k (x::xs)) (hf x _ h)
def IV(ob:Ob)(k:Ob->Prop):Prop:=
 match ob with
 |⟨kind,ty,sz,rows,fz⟩=>match kind with
  |1=>jw sz λsz=>vb (vb qT) rows λrows=>k ⟨1,ty,sz,rows,fz⟩
  |kd=>k ⟨kd,ty,sz,rows,fz⟩
def RR{ob:Ob}{k:Ob->Prop}(h:IV ob k):k ob:=by
 obtain⟨kind,ty,sz,rows,fz⟩:=ob;unfold IV at h;dsimp only at h;split at h
 ·exact qS (λ_ _ h=>qS (λ_ _ h=>zQ h) h) (k:=λrows=>k ⟨1,ty,sz,rows,fz⟩) (qx (k:=λsz=>vb (vb qT) rows λrows=>k ⟨1,ty,sz,rows,fz⟩) h)
 ·exact h
def AA(H:zl)(k:zl->Prop):Prop:=vb IV H k
def ve{H:zl}{k:zl->Prop}(h:AA H k):k H:=qS (λ_ _ h=>RR h) h
def okB(c:C)(k:C->Prop):Prop:=
 match c with
 |.v (.bool b)=>(b=true->k (.v (.bool true)))/\(b=false->k (.v (.bool false)))
 |c=>k c
def JU(c:C)(k:C->Prop):Prop:=
 match c with
 |.v (.bool b)=>match b with
  |true=>k (.v (.bool true))
  |false=>k (.v (.bool false))
 |c=>qT c k
def MT{c:C}{k:C->Prop}(h:JU c k):k c:=by
 unfold JU at h;split at h
 ·rename_i b;cases b <;> exact h
 ·exact zQ h
def jr{c:C}{k:C->Prop}(h:okB c k):k c:=by
 unfold okB at h;split at h
 ·rename_i b;cases b
  ·exact h.2 rfl
  ·exact h.1 rfl
 ·exact h
def AR{α:Type}:List α->Nat->α->(List α->Prop)->Prop
 |[],_,_,k=>k []
 |_::xs,0,y,k=>k (y::xs)
 |x::xs,n+1,y,k=>AR xs n y λys=>k (x::ys)
def wD{α:Type}:∀{l:List α} {n:Nat} {y:α} {k:List α->Prop},AR l n y k->k (l.set n y)
 |[],_,_,k,h=>h
 |_::xs,0,y,k,h=>h
 |x::xs,n+1,y,k,h=>wD (l:=xs) (n:=n) (y:=y) (k:=λys=>k (x::ys)) h
def nn(tmps:List C)(dst:Option Tmp)(c:C)(k:List C->Prop):Prop:=
 match dst with
 |some d=>AR tmps d c k
 |none=>k tmps
def jB{tmps:List C}{dst:Option Tmp}{c:C}{k:List C->Prop}(h:nn tmps dst c k):k (put tmps dst c):=by
 cases dst with
 |none=>exact h
 |some d=>exact wD h
def bK(b:Bool)(k:Prop):Prop:=
 match b with
 |true=>k
 |false=>False
def zX{b:Bool}{k:Prop}(h:bK b k):b=true/\k:=by
 cases b
 ·exact c6
 ·exact⟨rfl,h⟩
def ot(ρ:Operand->C)(x:Option Operand)(dflt:Nat)(k:Nat->Prop):Prop:=
 match x with
 |none=>k dflt
 |some y=>match ρ y with
  |.v (.int _ n)=>0<=n/\k n.toNat
  |_=>False
def yq{ρ:Operand->C}{x:Option Operand}{dflt:Nat}{k:Nat->Prop}(h:ot ρ x dflt k):∃n,mL ρ x dflt n/\k n:=by
 unfold ot at h;unfold mL;cases x with
 |none=>exact⟨dflt,rfl,h⟩
 |some y=>
  dsimp only at h;split at h
  ·rename_i kd n e;exact⟨n.toNat,⟨kd,by rw[e,rQ h.1]⟩,h.2⟩
  ·exact c6
def AO(place:Nat->Option (Nat×Nat)):List C->List (Nat×C)->(List C->Prop)->Prop
 |cells,[],k=>k cells
 |cells,(i,c)::rest,k=>match place i with
  |none=>False
  |some (off,size)=>bK (mQ c && (c.cells.length == size) && decide (off+size<=cells.length)) <|vb qT (yp off c.cells cells) λcells=>AO place cells rest k
def HL{place:Nat->Option (Nat×Nat)}:∀{parts:List (Nat×C)} {cells:List C} {k:List C->Prop},AO place cells parts k->∃cs,AN place cells parts=some cs/\k cs
 |[],cells,k,h=>⟨cells,rfl,h⟩
 |(i,c)::rest,cells,k,h=>by
  unfold AO at h;split at h
  ·exact c6
  ·rename_i off size hp;obtain⟨h1,h2⟩:=zX h;have h3:=qS (λ_ _ h=>zQ h) (k:=λcells=>AO place cells rest k) h2;obtain⟨cs,h4,h5⟩:=HL h3;refine⟨cs,?_,h5⟩;simp only[AN,hp];rw[gC h1];exact h4
def Ji(P:Program)(t:TypeId)(parts:List (Nat×C))(k:List C->Prop):Prop:=
 match n5 P t,P.underlying t with
 |some z,some (.array _ e)=>match P.info? e with
  |some ie=>vb qT z λz=>AO (λi=>some (i*ie.size,ie.size)) z parts k
  |none=>False
 |some z,some (.struct fields)=>match fields.toList.mapM (λf=>(P.info? f.type).map λi=>(f.offset,i.size)) with
  |some places=>xn places λplaces=>vb qT z λz=>AO (places.toArray[·]?) z parts k
  |none=>False
 |_,_=>False
def K3{P:Program}{t:TypeId}{parts:List (Nat×C)}{k:List C->Prop}(h:Ji P t parts k):∃cs,F7 P t parts=some cs/\k cs:=by
 unfold Ji at h;unfold F7;split at h
 ·rename_i z n e hz hu;simp only[hz,hu];split at h
  ·rename_i ie hie;simp only[hie];exact HL (qS (λ_ _ h=>zQ h) (k:=λz=>AO (λi=>some (i*ie.size,ie.size)) z parts k) h)
  ·exact c6
 ·rename_i z fields hz hu;simp only[hz,hu];split at h
  ·rename_i places hpl;simp only[hpl];have h1:=jj (k:=λplaces:List (Nat×Nat)=>vb qT z λz=>AO (places.toArray[·]?) z parts k) h;exact HL (qS (λ_ _ h=>zQ h) (k:=λz=>AO (places.toArray[·]?) z parts k) h1)
  ·exact c6
 ·exact c6
def Jj(P:Program)(H:zl)(ρ:Operand->C)(t:TypeId)(x:Operand)(lo hi mx:Option Operand)(K:C->zl->Prop):Prop:=
 match P.underlying t with
 |some (.slice e)=>match P.info? e with
  |some i=>match ρ x with
   |.fp fo sz rows=>(rows=[]\/sz=i.size)/\match mx with
    |none=>match hi with
     |none=>ot ρ lo 0 λl=>l<=rows.length/\K (.fp (if fo == 1 then 1 else 0) sz (rows.drop l)) H
     |some hh=>ot ρ lo 0 λl=>ot ρ (some hh) rows.length λh=>l<=h/\h<=rows.length/\K (.fp 0 sz ((rows.drop l).take (h-l))) H
    |some m=>match hi with
     |some hh=>ot ρ lo 0 λl=>ot ρ (some hh) 0 λh=>ot ρ (some m) 0 λm'=>m'=h/\l<=h/\h<=rows.length/\K (.fp 1 sz ((rows.drop l).take (h-l))) H
     |none=>False
   |.sl id hops sz lo0 len full=>match mx with
    |none=>sz=i.size/\ot ρ lo 0 λl=>ot ρ hi len λh=>l<=h/\h<=len/\(l=0\/l<h)/\(full=false\/h=len)/\K (.sl id hops sz (lo0+l) (h-l) full) H
    |some _=>False
   |_=>False
  |none=>False
 |some .string=>match ρ x with
  |.v (.string s)=>match s with
   |⟨⟨b⟩⟩=>match mx with
    |none=>ot ρ lo 0 λl=>ot ρ hi b.length λh=>l<=h/\h<=b.length/\K (.v (.string ⟨⟨(b.take h).drop l⟩⟩)) H
    |some _=>False
  |_=>False
 |_=>False
def Jp(P:Program)(H:zl)(ρ:Operand->C)(t:TypeId)(x y:Operand)(K:C->zl->Prop):Prop:=
 match P.underlying t with
 |some (.slice e)=>match P.info? e with
  |some i=>match ρ y with
   |.v (.int _ n)=>match ρ x with
    |.fp o sz rows=>bK ((o == 0 || o == 1) && sz == i.size) <|0<=n/\∃r,rows[n.toNat]?=some r/\K (.jU r) H
    |.sl id hops sz lo len _=>bK (sz == i.size) <|0<=n/\n.toNat<len/\K (.ref id hops sz (lo+n.toNat) 0) H
    |_=>False
   |_=>False
  |none=>False
 |some (.array len e)=>match P.info? e with
  |some i=>match ρ y with
   |.v (.int _ n)=>match Be (ρ x) (n.toNat*i.size) with
    |some c=>0<=n/\n<len/\qT c λc=>K c H
    |none=>False
   |_=>False
  |none=>False
 |_=>False
def Jq(P:Program)(H:zl)(ρ:Operand->C)(t:TypeId)(x y:Operand)(K:C->zl->Prop):Prop:=
 match ρ y with
 |.v (.int _ n)=>match P.underlying t with
  |some .string=>match ρ x with
   |.v (.string s)=>match s with
    |⟨⟨b⟩⟩=>0<=n/\∃c,b[n.toNat]?=some c/\K (.v (.int .u8 c.toNat)) H
   |_=>False
  |some (.array len e)=>match P.info? e with
   |some i=>match ρ x with
    |.agg cs=>0<=n/\n<len/\∃c,Af P e cs (n.toNat*i.size)=some c/\okB c λc=>qT c λc=>K c H
    |_=>False
   |none=>False
  |_=>False
 |_=>False
def Ja(P:Program)(H:zl)(ρ:Operand->C)(t:TypeId)(x:Operand)(f:Nat)(K:C->zl->Prop):Prop:=
 match P.underlying t with
 |some (.struct fs)=>match fs[f]? with
  |some fd=>match ρ x with
   |.agg cs=>match Af P fd.type cs fd.offset with
    |some c=>okB c λc=>qT c λc=>K c H
    |none=>False
   |_=>False
  |none=>False
 |_=>False
def I9(P:Program)(H:zl)(ρ:Operand->C)(t:TypeId)(x:Operand)(f:Nat)(K:C->zl->Prop):Prop:=
 match P.underlying t with
 |some (.struct fs)=>match fs[f]? with
  |some fd=>match P.info? fd.type with
   |some i=>match Be (ρ x) fd.offset with
    |some c=>bK (i.size != 0) <|qT c λc=>K c H
    |none=>False
   |none=>False
  |none=>False
 |_=>False
def FM(P:Program)(H:zl)(x:C)(sz':Nat)(rows':List (List C))(e:TypeId)(i:TypeInfo)(K:C->zl->Prop):Prop:=
 match rows' with
 |[]=>(xP H (ix x)).isSome=true/\K (ix x) H
 |r'::rs'=>bK (sz' == i.size) <|jw i.size λsz0=>jw H.length λm=>match x with
  |.fp 1 sz rows=>(rows=[]\/sz=sz0)/\rows.length+(rs'.length+1)<=maxLen/\(rows.length+(rs'.length+1))*i.bytes<=140737488355328/\
    xn (H++[⟨2,e,sz0,rows++r'::rs',0⟩]) λH'=>K (.sl m [] sz0 0 (rows.length+(rs'.length+1)) false) H'
  |.sl id [] sz 0 n false=>match H[id]? with
   |some ob=>bK (sz == sz0 && ob.kind == 2 && ob.ty == e && ob.sz == sz0) <|ob.rows.length=n/\ob.rows.all (·.all zy)=true/\n+(rs'.length+1)<=maxLen/\(n+(rs'.length+1))*i.bytes<=140737488355328/\
     xn (xX H id++[⟨2,e,sz0,ob.rows++r'::rs',ob.fz⟩]) λH'=>K (.sl m [] sz0 0 (n+(rs'.length+1)) false) H'
   |none=>False
  |_=>False
def N0(H:zl)(sz:Nat)(rows:List (List C))(sz':Nat)(rows':List (List C))(e:TypeId)(i:TypeInfo)(K:C->zl->Prop):Prop:=
 jw i.size λsz0=>jw H.length λm=>(rows=[]\/sz=sz0)/\(rows'=[]\/sz'=sz0)/\rows.length+rows'.length<=maxLen/\(rows.length+rows'.length)*i.bytes<=140737488355328/\
  xn (H++[⟨4,e,sz0,rows++rows',0⟩]) λH'=>K (.gl m sz0 (rows++rows')) H'
def IC(P:Program)(H:zl)(ρ:Operand->C)(x y:Operand)(e:TypeId)(i:TypeInfo)(K:C->zl->Prop):Prop:=
 match xP H (ix (ρ y)) with
 |some (sz',rows')=>match ρ x with
  |.gl id sz rows=>match H[id]? with
   |some ob=>bK (sz == i.size) <|jw i.size λsz0=>ob=⟨4,e,sz,rows,0⟩/\(rows'=[]\/sz'=sz0)/\rows.length+rows'.length<=maxLen/\(rows.length+rows'.length)*i.bytes<=140737488355328/\
     AR H id ⟨4,e,sz0,rows++rows',0⟩ λH'=>K (.gl id sz0 (rows++rows')) H'
   |none=>False
  |.fp 1 sz rows=>N0 H sz rows sz' rows' e i K\/FM P H (.fp 1 sz rows) sz' rows' e i K
  |x=>FM P H x sz' rows' e i K
 |none=>False
def J6(H:zl)(op:BinOp)(a b:List UInt8)(K:C->zl->Prop):Prop:=
 match op with
 |.eql=>okB (.v (.bool (a == b))) λc=>K c H
 |.neq=>okB (.v (.bool (!(a == b)))) λc=>K c H
 |.add=>a.length+b.length<=9223372036854775807/\K (.v (.string ⟨⟨a++b⟩⟩)) H
 |_=>False
def Gs(P:Program)(H:zl)(ρ:Operand->C)(o:Oper)(cl:Call)(K:C->zl->Prop):Prop:=
 match cl.callee with
 |.value x=>match ρ x with
  |.fn f first caps=>bK (qm P f) <| ∃r H',zb P f H (first++(cl.args.toList.map λx=>ix (ρ x))++caps) r H'/\okB r λr=>K r H'
  |.v (.func g first caps)=>match g with
   |.yield l=>bK (first.isEmpty && caps.isEmpty) <| ∃r H',jH P l H (cl.args.toList.map ρ) r H'/\okB r λr=>K r H'
   |_=>False
  |_=>False
 |.invoke x name=>match ρ x with
  |.iu t c=>∃f,JL P t name f=true/\qm P f=true/\∃r H',zb P f H (c::(cl.args.toList.map ρ)) r H'/\okB r λr=>K r H'
  |_=>False
 |.builtin .len=>match cl.args.toList,cl.argTypes.toList with
  |[x],[t]=>match P.underlying t with
   |some (.slice _)=>match GA (ix (ρ x)) with
    |some n=>K (.v (.int .i64 n)) H
    |none=>False
   |some .string=>match ρ x with
    |.v (.string s)=>match s with
     |⟨⟨b⟩⟩=>K (.v (.int .i64 b.length)) H
    |_=>False
   |_=>match mJ P (execOp (λx=>An (ρ x)) o) with
    |some (.value v)=>bK (o.op.operands.toList.all (λx=>fP (ρ x)) && v.oneCell') <|okB (.v v) λc=>K c H
    |_=>False
  |_,_=>False
 |.builtin .append=>match cl.args.toList,cl.argTypes.toList with
  |[x,y],[t,t']=>bK (t' == t) <|match P.underlying t with
   |some (.slice e)=>match P.info? e with
    |some i=>match i.zero with
     |some z=>bK (z.cells.size == i.size) <|IC P H ρ x y e i K
     |none=>False
    |none=>False
   |_=>False
  |_,_=>False
 |_=>match mJ P (execOp (λx=>An (ρ x)) o) with
  |some (.value v)=>bK (o.op.operands.toList.all (λx=>fP (ρ x)) && v.oneCell') <|okB (.v v) λc=>K c H
  |_=>False
def PQ(P:Program)(H:zl)(o:Oper)(ρ:Operand->C)(op:BinOp)(t:TypeId)(xs ys:List C)(K:C->zl->Prop):Prop:=
 (!P.eqGuardType P.depth t && nU P 9 t)=true/\match nP P 9 t (.agg xs) (.agg ys) with
  |some b=>match op with
   |.eql=>okB (.v (.bool b)) λc=>K c H
   |.neq=>okB (.v (.bool (!b))) λc=>K c H
   |_=>False
  |none=>False
def Eo(P:Program)(t:TypeId)(id:Nat)(hops:List fZ)(i k:Nat)(r:List C)(K:C->Prop):Prop:=
 match P.underlying t,P.info? t with
 |some d,some inf=>match CG d with
  |true=>k+inf.size<=r.length/\vb qT (vE id hops i k ((r.drop k).take inf.size)) λcs=>K (.agg cs)
  |false=>k+1<=r.length/\match vE id hops i k ((r.drop k).take 1) with
   |[x]=>okB x λx=>qT x K
   |_=>False
 |_,_=>False
def Ee(P:Program)(H:zl)(t:TypeId)(c:C)(K:C->Prop):Prop:=
 match c with
 |.ref id hops sz i k=>match H[id]? with
  |some ⟨kind,ty,osz,orows,fz⟩=>match kind with
   |2=>match hops with
    |[]=>bK (osz == sz) <| ∃r,orows[i]?=some r/\Eo P t id [] i k r K
    |h::hs=>∃rows r,qb H id (h::hs)=some (sz,rows)/\rows[i]?=some r/\Eo P t id (h::hs) i k r K
   |1=>match ty with
    |0=>bK (osz == sz && hops.isEmpty) <| ∃r,orows[i]?=some r/\Eo P t id [] i k r K
    |_=>match wP P H t (.ref id hops sz i k) with
     |some c=>okB c λc=>qT c K
     |none=>False
   |_=>match wP P H t (.ref id hops sz i k) with
    |some c=>okB c λc=>qT c K
    |none=>False
  |none=>False
 |c=>match wP P H t c with
  |some c=>okB c λc=>qT c K
  |none=>False
def HB{P:Program}{H:zl}{t:TypeId}{id:Nat}{hops:List fZ}{sz i k:Nat}{rows:List (List C)}{r:List C}{K:C->Prop}(hg:qb H id hops=some (sz,rows))(hr:rows[i]?=some r)(h:Eo P t id hops i k r K):
  ∃c,wP P H t (.ref id hops sz i k)=some c/\K c:=by
 unfold Eo at h;split at h
 ·rename_i d inf hd hi;have hrd:∀n,k+n<=r.length->oN H (.ref id hops sz i k) n=some (vE id hops i k ((r.drop k).take n)):=λn hn=>by simp[oN,hg,hr,hn]
  split at h
  ·rename_i hag;obtain⟨h1,h2⟩:=h;refine⟨_,?_,qS (λ_ _ h=>zQ h) (k:=λcs=>K (.agg cs)) h2⟩;unfold wP;rw[hd,hi];simp only[hag,if_true];rw[hrd _ h1]
   rfl
  ·rename_i hag;obtain⟨h1,h2⟩:=h;split at h2
   ·rename_i x hx;refine⟨x,?_,zQ (jr (k:=λx=>qT x K) h2)⟩;unfold wP;rw[hd,hi];simp only[hag];rw[hrd _ h1,hx]
    rfl
   ·exact h2.elim
 ·exact c6
def E5{P:Program}{H:zl}{t:TypeId}{c:C}{K:C->Prop}(h:Ee P H t c K):∃c',wP P H t c=some c'/\K c':=by
 unfold Ee at h;split at h
 ·split at h
  ·rename_i id hops sz i k kind ty osz orows fz hob;split at h
   ·split at h
    ·obtain⟨h1,r,h2,h3⟩:=zX h;simp only[pH]at h1;exact HB (by unfold qb;rw[hob];simp[ja,h1]) h2 h3
    ·obtain⟨rows,r,h1,h2,h3⟩:=h;exact HB h1 h2 h3
   ·split at h
    ·obtain⟨h1,r,h2,h3⟩:=zX h;simp only[gH,pH,ff]at h1;obtain⟨h1,rfl⟩:=h1;exact HB (by unfold qb;rw[hob];simp[ja,h1]) h2 h3
    ·split at h
     ·rename_i c hc;exact⟨c,hc,zQ (jr (k:=λc=>qT c K) h)⟩
     ·exact c6
   ·split at h
    ·rename_i c hc;exact⟨c,hc,zQ (jr (k:=λc=>qT c K) h)⟩
    ·exact c6
  ·exact c6
 ·split at h
  ·rename_i c hc;exact⟨c,hc,zQ (jr (k:=λc=>qT c K) h)⟩
  ·exact c6
def v7(r:List C)(k:Nat)(cs:List C)(K:List C->Prop):Prop:=bK (Nat.ble (k+cs.length) r.length) <|xn (yp k cs r) K
def HU{r:List C}{k:Nat}{cs:List C}{K:List C->Prop}(h:v7 r k cs K):k+cs.length<=r.length/\K (yp k cs r):=
 ⟨pz (zX h).1,jj (zX h).2⟩
def Gc(P:Program)(H:zl)(t:TypeId)(a x:C)(K:zl->Prop):Prop:=
 match a with
 |.ref id hops sz i k=>match H[id]? with
  |some ⟨kind,ty,osz,orows,fz⟩=>match kind with
   |2=>match P.info? t with
    |some inf=>bK (mQ x && (x.cells.length == inf.size) && x.cells.all ju) <|vb qT x.cells λcs=>match hops with
     |[]=>bK (osz == sz && fz == 0) <| ∃r,orows[i]?=some r/\((r.drop k).take cs.length).all zy=true/\v7 r k cs λr'=>AR H id ⟨2,ty,osz,orows.set i r',0⟩ K
     |h::hs=>bK (fz == 0) <| ∃rows r,qb H id (h::hs)=some (sz,rows)/\rows[i]?=some r/\((r.drop k).take cs.length).all zy=true/\v7 r k cs λr'=>AR H id ⟨2,ty,osz,jk orows (h::hs) (λrows=>rows.set i r'),0⟩ K
    |none=>False
   |1=>match ty with
    |0=>match P.info? t with
     |some inf=>bK (mQ x && (x.cells.length == inf.size)) <|vb qT x.cells λcs=>bK (osz == sz && fz == 0 && hops.isEmpty) <| ∃r,orows[i]?=some r/\((r.drop k).take cs.length).all zy=true/\v7 r k cs λr'=>AR H id ⟨1,0,osz,orows.set i r',0⟩ K
     |none=>False
    |_=>match hops,orows,i with
     |[],[r],0=>match P.info? t with
      |some inf=>bK (osz == sz && fz == 0 && mQ x && (x.cells.length == inf.size) && ((r.drop k).take x.cells.length).all zy) <|vb qT x.cells λcs=>v7 r k cs λr'=>AR H id ⟨1,ty,osz,[r'],0⟩ K
      |none=>False
     |hops,_,i=>match vC P H t (.ref id hops sz i k) x with
      |some H'=>AA H' K
      |none=>False
   |_=>match vC P H t (.ref id hops sz i k) x with
    |some H'=>AA H' K
    |none=>False
  |none=>False
 |a=>match vC P H t a x with
  |some H'=>AA H' K
  |none=>False
def y6{α:Type}{l:List α}{i:Nat}{r:α}(f:α->α)(h:l[i]?=some r):l.modify i f=l.set i (f r):=by
 apply pL
 intro j;rw[pZ,gM];split
 ·rename_i e;subst e;rw[gC (gm.1 h).1,h]
  rfl
 ·simp
def Mg{f g:List (List C)->List (List C)}:∀(hops:List fZ) (sz:Nat) (rows:List (List C)) {sz':Nat} {rows':List (List C)},vS sz rows hops=some (sz',rows')->f rows'=g rows'->jk rows hops f=jk rows hops g
 |[],sz,rows,sz',rows',h,he=>by
  rw[ja]at h;cases h
  exact he
 |(i,k)::hs,sz,rows,sz',rows',h,he=>by
  rw[xJ]at h;rw[Fq,Fq];split at h
  ·rename_i sz2 rows2 hc
   try rw[hc]
   simp only[Mg hs sz2 rows2 h he]
  ·cases h
def Ly{P:Program}{H:zl}{t:TypeId}{a x:C}{K:zl->Prop}(h:Gc P H t a x K):∃H',vC P H t a x=some H'/\K H':=by
 unfold Gc at h;cases a with
 |ref id hops sz i k=>
  dsimp only at h;split at h
  ·rename_i kind ty osz orows fz hob;split at h
   ·split at h
    ·rename_i inf hinf;obtain⟨hv,h⟩:=zX h;have h:=qS (λ_ _ h=>zQ h) h;simp only[gH,pH]at hv
     have go:∀hops rows r,qb H id hops=some (sz,rows)->rows[i]?=some r->fz=0->((r.drop k).take x.cells.length).all zy=true->(v7 r k x.cells λr'=>AR H id ⟨2,ty,osz,jk orows hops (λrows=>rows.set i r'),0⟩ K)->
       ∃H',vC P H t (.ref id hops sz i k) x=some H'/\K H':=λhops rows r h1 h2 h0 h3 h4=>by
      obtain⟨h5,h6⟩:=HU h4;have h6:=wD h6;refine⟨_,?_,h6⟩;unfold vC;rw[hinf];dsimp only;rw[h1,hob];dsimp only;rw[h2];dsimp only;rw[gC]
      ·congr 1
       unfold np;rw[y6 _ hob]
       congr 1
       dsimp only;subst h0
       congr 1
       obtain⟨ob2,e1,_,e3⟩:=jn h1;rw[hob]at e1;cases e1
       exact Mg hops _ _ e3 (by unfold wh;rw[y6 _ h2])
      ·simp only[gH,pH,rz,gQ];exact⟨⟨⟨⟨⟨⟨⟨trivial,hv.1.1⟩,hv.1.2⟩,h5⟩,h3⟩,.inr hv.2⟩,.inr aw⟩,.inr h0⟩
     split at h
     ·obtain⟨h1,r,h2,h3,h4⟩:=zX h;simp only[gH,pH]at h1;exact go [] orows r (by unfold qb;rw[hob];simp[ja,h1.1]) h2 h1.2 h3 h4
     ·obtain⟨h1,rows,r,h2,h3,h4,h5⟩:=zX h;simp only[pH]at h1;exact go _ rows r h2 h3 h1 h4 h5
    ·exact c6
   ·split at h
    ·split at h
     ·rename_i inf hinf;obtain⟨hv,h⟩:=zX h;have h:=qS (λ_ _ h=>zQ h) h;obtain⟨h1,r,h2,h3,h4⟩:=zX h;obtain⟨h5,h6⟩:=HU h4;have h6:=wD h6;simp only[gH,pH,ff]at hv h1;obtain⟨⟨rfl,rfl⟩,rfl⟩:=h1;refine⟨_,?_,h6⟩;have hg:qb H id []=some (osz,orows):=by unfold qb;rw[hob];simp[ja]
      unfold vC;rw[hinf];dsimp only;rw[hg,hob];dsimp only;rw[h2];dsimp only;rw[gC]
      ·congr 1
       unfold np;rw[y6 _ hob]
       congr 1
       dsimp only;rw[FC];unfold wh;rw[y6 _ h2]
      ·simp only[gH,pH,rz,gQ];exact⟨⟨⟨⟨⟨⟨⟨trivial,hv.1⟩,hv.2⟩,h5⟩,h3⟩,.inl trivial⟩,.inr aw⟩,.inr trivial⟩
     ·exact c6
    ·split at h
     ·rename_i r;split at h
      ·rename_i inf hinf;obtain⟨hv,h⟩:=zX h;have h:=qS (λ_ _ h=>zQ h) h;obtain⟨h5,h6⟩:=HU h;have h6:=wD h6;simp only[gH,pH]at hv;refine⟨_,?_,h6⟩;have h1:qb H id []=some (osz,[r]):=by unfold qb;rw[hob];simp[ja]
       unfold vC;rw[hinf];dsimp only;rw[h1,hob];dsimp only;rw[show [r][0]?=some r from rfl];dsimp only;rw[gC]
       ·congr 1
        unfold np;rw[y6 _ hob]
        congr 1
        dsimp only;obtain⟨⟨⟨⟨_,rfl⟩,_⟩,_⟩,_⟩:=hv;rw[FC];unfold wh
        rfl
       ·simp only[gH,pH,rz,gQ];obtain⟨⟨⟨⟨e1,e2⟩,e3⟩,e4⟩,e5⟩:=hv;exact⟨⟨⟨⟨⟨⟨⟨e1,e3⟩,e4⟩,h5⟩,e5⟩,.inl trivial⟩,.inr aw⟩,.inr e2⟩
      ·exact c6
     ·split at h
      ·rename_i H' hc;exact⟨H',hc,ve h⟩
      ·exact c6
   ·split at h
    ·rename_i H' hc;exact⟨H',hc,ve h⟩
    ·exact c6
  ·exact c6
 |_=>
  dsimp only at h;split at h
  ·rename_i H' hc;exact⟨H',hc,ve h⟩
  ·exact c6
def YX(H:zl)(a y:C):Bool:=
 match a with
 |.ref id _ _ _ _=>match H[id]? with
  |some ob=>match ob.kind with
   |2=>true
   |1=>match ob.ty with
    |0=>match y with
     |.gl ..=>false
     |_=>true
    |_=>false
   |_=>false
  |none=>false
 |_=>false
def Jz(P:Program)(H:zl)(ρ:Operand->C)(o:Oper)(src dst:TypeId)(x:Operand)(K:C->zl->Prop):Prop:=
 match Ab.ix (ρ x) with
 |.fp _ sz rows=>match P.underlying src,P.underlying dst with
  |some (.slice e),some .string=>match P.underlying e with
   |some (.int .u8)=>bK (sz == 1) <| ∃bts:List UInt8,rows=bts.map BX/\K (.v (.string ⟨⟨bts⟩⟩)) H
   |_=>False
  |_,_=>False
 |_=>match mJ P (execOp (λx=>An (ρ x)) o) with
  |some (.value v)=>bK (xN o && o.op.operands.toList.all (λx=>fP (ρ x)) && v.oneCell') <|okB (.v v) λc=>K c H
  |_=>False
def JK(P:Program)(H:zl)(ρ:Operand->C)(t:TypeId)(x y:Operand)(K:C->zl->Prop):Prop:=
 match ρ x,ρ y with
 |.v (.int _ n),.v (.int _ n')=>match P.underlying t with
  |some (.slice e)=>match P.info? e with
   |some i=>match n5 P e with
    |some cs=>bK (cs.all ju) <|n'=n/\0<=n/\(i.bytes:Int)*n<=281474976710656/\n<=9223372036854775807/\
      jw i.size λsz=>jw H.length λm=>xn (H++[⟨2,e,sz,List.replicate n.toNat cs,0⟩]) λH'=>K (.sl m [] sz 0 n.toNat false) H'
    |none=>False
   |none=>False
  |_=>False
 |_,_=>False
def JN(o:Oper):Option (BinOp×TypeId×Operand):=
 match o.op with
 |.binOp op t x y _=>match y with
  |.const v=>match v with
   |.slice none 0 0=>some (op,t,x)
   |_=>none
  |_=>none
 |_=>none
def JY(P:Program)(H:zl)(op:BinOp)(t:TypeId)(x:C)(K:C->zl->Prop):Prop:=
 match P.underlying t with
 |some (.slice _)=>match x with
  |.fp _ _ rows=>match rows with
   |[]=>match op with
    |.eql=>K (.v (.bool true)) H/\K (.v (.bool false)) H
    |.neq=>K (.v (.bool true)) H/\K (.v (.bool false)) H
    |_=>False
   |r::rs=>match op with
    |.eql=>r::rs≠[]/\K (.v (.bool false)) H
    |.neq=>r::rs≠[]/\K (.v (.bool true)) H
    |_=>False
  |.sl ..=>match op with
   |.eql=>K (.v (.bool false)) H
   |.neq=>K (.v (.bool true)) H
   |_=>False
  |_=>False
 |_=>False
def JH(o:Oper):Option (BinOp×TypeId×Operand):=
 match o.op with
 |.binOp op t x y _=>match y with
  |.const v=>match v with
   |.pointer p=>match p with
    |none=>some (op,t,x)
    |some _=>none
   |_=>none
  |_=>none
 |_=>none
def Js(x:C):Option Bool:=
 match x with
 |.ref ..=>some false
 |.jU _=>some false
 |.v y=>match y with
  |.pointer p=>match p with
   |none=>some true
   |some _=>some false
  |_=>none
 |_=>none
def GH(P:Program)(t:TypeId):Bool:=
 match P.underlying t with
 |some (.pointer e)=>e == P.pointee t
 |_=>false
def JQ(P:Program)(H:zl)(op:BinOp)(t:TypeId)(x:C)(K:C->zl->Prop):Prop:=
 match Js x with
 |some b=>match op with
  |.eql=>bK (GH P t) <|K (.v (.bool b)) H
  |.neq=>bK (GH P t) <|K (.v (.bool (!b))) H
  |_=>False
 |none=>False
def nY(P:Program)(H:zl)(ρ:Operand->C)(o:Oper)(K:C->zl->Prop):Prop:=
 match o.op with
 |.move x=>qT (ρ x) λc=>K c H
 |.assign x=>qT (ρ x) λc=>K c H
 |.pick x y z=>match ρ x with
  |.v (.bool b)=>qT (if b then ρ y else ρ z) λc=>K c H
  |_=>False
 |.alloc t=>match n5 P t with
  |some cs=>xn cs λcs=>jw cs.length λn=>jw H.length λm=>xn (H++[⟨1,t,n,[cs],0⟩]) λH'=>K (.ref m [] n 0 0) H'
  |none=>False
 |.box t x=>bK (mQ (ρ x)) <|vb qT (ρ x).cells λcs=>jw cs.length λn=>jw H.length λm=>xn (H++[⟨1,t,n,[cs],0⟩]) λH'=>K (.ref m [] n 0 0) H'
 |.fieldAddr t x f=>I9 P H ρ t x f K
 |.indexAddr t x y=>Jp P H (λx=>ix (ρ x)) t x y K
 |.index t x y=>Jq P H ρ t x y K
 |.field t x f=>Ja P H ρ t x f K
 |.load t x=>Ee P H t (ρ x) λc=>K c H
 |.store t x y=>match YX H (ρ x) (ρ y) with
  |true=>Gc P H t (ρ x) (wU (ρ y)) λH'=>K .un H'
  |false=>Gc P H t (ρ x) (ρ y) λH'=>K .un H'
 |.extract x n=>match ρ x with
  |.fC vs=>match vs[n]? with
   |some c=>okB c λc=>qT c λc=>K c H
   |none=>False
  |_=>False
 |.nilCheck x=>bK (IJ (ρ x)) <|qT (ρ x) λc=>K c H
 |.makeFunc f first caps=>match f with
  |.func f=>vb qT (first.toList.map ρ) λa=>vb qT (caps.toList.map ρ) λb=>K (.fn f a b) H
  |_=>False
 |.build t parts=>Ji P t (parts.toList.map λp=>(p.1,ρ p.2)) λcs=>K (.agg cs) H
 |.makeInterface t x=>match P.underlying t with
  |some d=>bK (vz d) <|qT (ρ x) λc=>K (.iu t c) H
  |none=>False
 |.typeAssert x _ t ok=>bK ok <|match ρ x with
  |.iu t' c=>match P.underlying t with
   |some d=>match t' == t with
    |true=>bK (vz d) <|K (.fC [c,.v (.bool true)]) H
    |false=>match P.info? t with
     |some i=>bK (vz d && i.zero.isSome) <|K (.fC [.za,.v (.bool false)]) H
     |none=>False
   |none=>False
  |_=>False
 |.buildSlice t len parts=>match JV P t len (parts.toList.map λp=>(p.1,wU (ρ p.2))) with
  |some c=>match c with
   |.fp o sz rows=>vb (vb qT) rows λrows=>jw sz λsz=>K (.fp o sz rows) H
   |_=>False
  |none=>False
 |.slice t x lo hi mx=>Jj P H (λx=>ix (ρ x)) t x lo hi mx K
 |.makeSlice t x y=>JK P H ρ t x y K
 |.lookup ..=>∃c H',fE P o ρ H c H'/\K c H'
 |.mapUpdate ..=>∃c H',fE P o ρ H c H'/\K c H'
 |.mapEntry ..=>∃c H',fE P o ρ H c H'/\K c H'
 |.entryStore ..=>∃c H',fE P o ρ H c H'/\K c H'
 |.call cl=>Gs P H ρ o cl K
 |.binOp op t x y _=>match ρ x,ρ y with
  |.agg xs,.agg ys=>PQ P H o ρ op t xs ys K
  |.v (.string s),.v (.string s')=>match s,s' with
   |⟨⟨a⟩⟩,⟨⟨b⟩⟩=>J6 H op a b K
  |_,_=>match mJ P (execOp (λx=>An (ρ x)) o) with
   |some (.value v)=>bK (xN o && o.op.operands.toList.all (λx=>fP (ρ x)) && v.oneCell') <|okB (.v v) λc=>K c H
   |_=>False
 |.convert src dst x=>Jz P H ρ o src dst x K
 |.unOp _ _ _=>match mJ P (execOp (λx=>An (ρ x)) o) with
  |some (.value v)=>bK (xN o && o.op.operands.toList.all (λx=>fP (ρ x)) && v.oneCell') <|JU (.v v) λc=>K c H
  |_=>False
 |_=>match mJ P (execOp (λx=>An (ρ x)) o) with
  |some (.value v)=>bK (xN o && o.op.operands.toList.all (λx=>fP (ρ x)) && v.oneCell') <|okB (.v v) λc=>K c H
  |_=>False
section
variable {P:Program} {o:Oper} {ρ:Operand->C} {H:zl} {K:C->zl->Prop}
def fE.n9{c c':C}{H':zl}(h:fE P o ρ H c H')(hw:WC c c'):fE P o ρ H c' H':=λw E σ hh hl K hk=>h w E σ hh hl K λv w' E' h1 h2 g=>hk v w' E' h1 (hw E' v h2) g
def fE.JD(cl:Call)(ho:o.op=.call cl)(x:Operand)(hcl:cl.callee=.value x){f:FuncId}{first caps:List C}(hf:ρ x=.fn f first caps)(hcb:qm P f=true){r:C}{H':zl}
 (hs:zb P f H (first++(cl.args.toList.map λx=>Ab.ix (ρ x))++caps) r H'):fE P o ρ H r H':=.ix <|.call cl ho x hcl (by rw[hf];rfl) hcb hs
def fE.zxd(t:TypeId)(x y:Operand)(ho:o.op=.store t x y){H':zl}(hs:vC P H t (ρ x) (wU (ρ y))=some H'):fE P o ρ H .un H':=by
 classical
 have hρ:∀z,∃c,(c=ρ z\/c=wU (ρ z))/\(z=y->c=wU (ρ z))/\(z≠y->c=ρ z):=λz=>by
  by_cases e:z=y
  ·exact⟨wU (ρ z),.inr rfl,λ_=>rfl,λh=>absurd e h⟩
  ·exact⟨ρ z,.inl rfl,λh=>absurd h e,λ_=>rfl⟩
 obtain⟨ρ',hρ'⟩:∃ρ':Operand->C,∀z,(ρ' z=ρ z\/ρ' z=wU (ρ z))/\(z=y->ρ' z=wU (ρ z))/\(z≠y->ρ' z=ρ z):=⟨λz=>(hρ z).choose,λz=>(hρ z).choose_spec⟩
 have hx:ρ' x=ρ x:=by
  rcases(hρ' x).1 with e|e
  ·exact e
  ·rw[e];unfold vC at hs;split at hs
   ·rename_i e2 _;rw[e2];rfl
   ·cases hs
 have h0:qR P o ρ' H .un H':=qR.store t x y ho (by rw[hx,(hρ' y).2.1 rfl];exact hs);refine .Ci (h0.weaken λz E v hl=>?_) (Lx hs);rcases(hρ' z).1 with e|e
 ·rw[e];exact hl
 ·rw[e];exact Iv hl
def kK(h:match mJ P (execOp (λx=>An (ρ x)) o) with
  |some (.value v)=>bK (xN o && o.op.operands.toList.all (λx=>fP (ρ x)) && v.oneCell') <|okB (.v v) λc=>K c H
  |_=>False):∃c,(∀H2,fE P o ρ H2 c H2)/\K c H:=by
 split at h
 ·rename_i v e;obtain⟨h1,h2⟩:=zX h;simp only[gH,sN]at h1;exact⟨.v v,λH2=>.same <|.scalar h1.1.1 h1.1.2 e h1.2,jr (k:=λc=>K c H) h2⟩
 ·exact c6
def Lv{t:TypeId}{x:Operand}{lo hi mx:Option Operand}(ho:o.op=.slice t x lo hi mx)(h:Jj P H ρ t x lo hi mx K):∃c,(∀H2,fE P o ρ H2 c H2)/\K c H:=by
 unfold Jj at h;split at h
 rotate_left
 ·rename_i hu;split at h
  ·rename_i s hx;obtain⟨⟨b⟩⟩:=s;dsimp only at h;split at h
   ·obtain⟨l,h1,h⟩:=yq h;obtain⟨h',h2,h3,h4,h5⟩:=yq h;exact⟨_,λH2=>.same <|.Xl t x lo hi ho hu hx h1 h2 h3 h4,h5⟩
   ·exact c6
  ·exact c6
 ·exact c6
 rename_i e hu;split at h
 rotate_left
 ·exact c6
 rename_i i hi';split at h
 ·rename_i fo sz rows hx;obtain⟨hsz,h⟩:=h;split at h
  ·split at h
   ·obtain⟨l,h1,h3,h5⟩:=yq h;have:=λH2=>fE.same <|qR.Ny (H:=H2) t x lo none ho hu hi' hx hsz h1 (rfl:mL ρ none rows.length rows.length) h3 (gJ _)
    refine⟨_,this,?_⟩;rw[sD aj];by_cases hfo:fo=1
    ·simpa [hfo] using h5
    ·simpa [hfo] using h5
   ·rename_i hh;obtain⟨l,h1,h⟩:=yq h;obtain⟨h',h2,h3,h4,h5⟩:=yq h;exact⟨_,λH2=>.n9 (.same <|.Ny t x lo (some hh) ho hu hi' hx hsz h1 h2 h3 h4) (.share _ _ _),h5⟩
  ·split at h
   ·obtain⟨l,h1,h⟩:=yq h;obtain⟨h',h2,h⟩:=yq h;obtain⟨m,h3,rfl,h4,h5,h6⟩:=yq h;exact⟨_,λH2=>.same <|.V9 t x lo _ _ ho hu hi' hx hsz h1 h2 h3 h4 h5,h6⟩
   ·exact c6
 ·rename_i id hops sz lo0 len full hx;split at h
  ·obtain⟨hsz,h⟩:=h;obtain⟨l,h1,h⟩:=yq h;obtain⟨h',h2,h3,h4,h5,h6,h7⟩:=yq h;exact⟨_,λH2=>.same <|.YW t x lo hi ho hu hi' hx hsz h1 h2 h3 h4 h5 h6,h7⟩
  ·exact c6
 ·exact c6
def KV{t:TypeId}{x y:Operand}(ho:o.op=.indexAddr t x y)(h:Jp P H ρ t x y K):∃c,(∀H2,fE P o ρ H2 c H2)/\K c H:=by
 unfold Jp at h;split at h
 rotate_left
 ·rename_i len e hu;split at h
  ·rename_i i hi;split at h
   ·rename_i k n hy;split at h
    ·rename_i c hx;exact⟨c,λH2=>.same <|.WM t x y ho hu hi hy h.1 h.2.1 hx,zQ (k:=λc=>K c H) h.2.2⟩
    ·exact c6
   ·exact c6
  ·exact c6
 ·exact c6
 rename_i e hu;split at h
 rotate_left
 ·exact c6
 rename_i i hi;split at h
 rotate_left
 ·exact c6
 rename_i k n hy;split at h
 ·rename_i fo sz rows hx;obtain⟨h1,h3,r,h4,h5⟩:=zX h;refine⟨_,λH2=>.same <|.indexAddr t x y ho hu hi hy h3 (c:=.jU r) ?_,h5⟩;rw[hx];simp only[Bs];rw[gC h1,h4]
  rfl
 ·rename_i id hops sz lo len full hx;obtain⟨h2,h3,h4,h5⟩:=zX h;simp only[pH]at h2;refine⟨_,λH2=>.same <|.indexAddr t x y ho hu hi hy h3 (c:=.ref id hops sz (lo+n.toNat) 0) ?_,h5⟩;rw[hx];simp only[Bs];rw[gC (by simp[h4,h2])]
 ·exact c6
def KW{t:TypeId}{x y:Operand}(ho:o.op=.index t x y)(h:Jq P H ρ t x y K):∃c,(∀H2,fE P o ρ H2 c H2)/\K c H:=by
 unfold Jq at h;split at h
 ·rename_i k n hy;split at h
  ·rename_i hu;split at h
   ·rename_i s hx;obtain⟨⟨b⟩⟩:=s;obtain⟨h1,c,h2,h3⟩:=h;exact⟨_,λH2=>.same <|.Xk t x y ho hu hx hy h1 h2,h3⟩
   ·exact c6
  ·rename_i len e hu;split at h
   ·rename_i i hi;split at h
    ·rename_i cs hx;obtain⟨h1,h2,c,h3,h4⟩:=h;exact⟨c,λH2=>.same <|.Uo t x y ho hu hi hx hy h1 h2 h3,zQ (k:=λc=>K c H) (jr (k:=λc=>qT c λc=>K c H) h4)⟩
    ·exact c6
   ·exact c6
  ·exact c6
 ·exact c6
def Lf{t:TypeId}{x:Operand}{f:Nat}(ho:o.op=.field t x f)(h:Ja P H ρ t x f K):∃c,(∀H2,fE P o ρ H2 c H2)/\K c H:=by
 unfold Ja at h;split at h
 ·rename_i fs hu;split at h
  ·rename_i fd hf;split at h
   ·rename_i cs hx;split at h
    ·rename_i c hc;exact⟨c,λH2=>.same <|.field t x f ho hu hf hx hc,zQ (k:=λc=>K c H) (jr (k:=λc=>qT c λc=>K c H) h)⟩
    ·exact c6
   ·exact c6
  ·exact c6
 ·exact c6
def Mt{t t':TypeId}{op:BinOp}{x y:Operand}{a b:List UInt8}(ho:o.op=.binOp op t x y t')(hx:ρ x=.v (.string (bs a)))(hy:ρ y=.v (.string (bs b)))(h:J6 H op a b K):∃c,(∀H2,fE P o ρ H2 c H2)/\K c H:=by
 unfold J6 at h;split at h
 ·exact⟨_,λH2=>.same <|.Pd .eql t t' x y ho (.inl rfl) hx hy,jr (k:=λc=>K c H) h⟩
 ·exact⟨_,λH2=>.same <|.Pd .neq t t' x y ho (.inr rfl) hx hy,jr (k:=λc=>K c H) h⟩
 ·exact⟨_,λH2=>.same <|.zxe t t' x y ho hx hy h.1,h.2⟩
 ·exact c6
def Lb{t:TypeId}{x:Operand}{f:Nat}(ho:o.op=.fieldAddr t x f)(h:I9 P H ρ t x f K):∃c,(∀H2,fE P o ρ H2 c H2)/\K c H:=by
 unfold I9 at h;split at h
 rotate_left
 ·exact c6
 rename_i fs hu;split at h
 rotate_left
 ·exact c6
 rename_i fd hf;split at h
 rotate_left
 ·exact c6
 rename_i i hi;split at h
 rotate_left
 ·exact c6
 rename_i c hc;obtain⟨h1,h2⟩:=zX h;exact⟨c,λH2=>.same <|.fieldAddr t x f ho hu hf hi tD hc,zQ (k:=λc=>K c H) h2⟩
def KF{cl:Call}(ho:o.op=.call cl){x y:Operand}{e:TypeId}{i:TypeInfo}{z:Value}(ht:AQ P cl x y e i z){sz':Nat}{rows':List (List C)}(hy:xP H (ix (ρ y))=some (sz',rows'))
 (h:FM P H (ρ x) sz' rows' e i K):∃c H',fE P o ρ H c H'/\K c H':=by
 unfold FM at h;split at h
 ·obtain⟨h1,h2⟩:=h;obtain⟨⟨sz,rows⟩,hx⟩:=Option.isSome_iff_exists.1 h1;exact⟨_,H,.ix (ρ:=ρ) (.same <|.TF cl ho x y ht hx hy),h2⟩
 ·rename_i r' rs'
  replace h:=zX h
  obtain⟨hz,h⟩:=h;have hz:=eq_of_beq hz;subst hz;have h:=qx h;have h:=qx h;split at h
  ·rename_i sz rows hx;obtain⟨h1,h2,h3,h4⟩:=h;exact⟨_,_,.ix (ρ:=ρ) (.Gk (.TE cl ho x y ht (by rw[hx];rfl) h1 hy aj tR (aq h3)) _ (λe=>by cases e) rfl),by simpa using jj h4⟩
  ·rename_i id sz n hx;split at h
   ·rename_i ob hob
    replace h:=zX h
    obtain⟨hb,h4,h5,h6,h7,h8⟩:=h;simp only[gH,pH]at hb;obtain⟨⟨⟨rfl,h1⟩,h2⟩,h3⟩:=hb;exact⟨_,_,.ix (ρ:=ρ) (.Ci (.Vt cl ho x y ht (by rw[hx];rfl) hob h1 h2 h3 h4 h5 hy aj (aq h6) (aq h7)) (jM.trans (jM.xX H id λob' h'=>by rw[hob]at h';cases h';rw[h1];decide) (jM.push _ _ (λe=>by cases e)))),by simpa using jj h8⟩
   ·exact c6
  ·exact c6
def Rs{cl:Call}(ho:o.op=.call cl){x y:Operand}{e:TypeId}{i:TypeInfo}{z:Value}(ht:AQ P cl x y e i z)(h:IC P H ρ x y e i K):∃c H',fE P o ρ H c H'/\K c H':=by
 unfold IC at h;split at h
 rotate_left
 ·exact c6
 rename_i sz' rows' hy;split at h
 ·rename_i id sz rows hx;split at h
  ·rename_i ob hob
   replace h:=zX h
   obtain⟨hz,h⟩:=h;have hz:=eq_of_beq hz;subst hz;have h:=qx h;obtain⟨h1,h2,h3,h4,h5⟩:=h;exact⟨_,_,.Nm cl ho x y ht hx hob h1 hy h2 h3 h4,wD h5⟩
  ·exact c6
 ·rename_i sz rows hx;rcases h with h|h
  ·unfold N0 at h;have h:=qx h;have h:=qx h;obtain⟨h1,h2,h3,h4,h5⟩:=h;exact⟨_,_,.Rr cl ho x y ht hx h1 hy h2 h3 h4,jj h5⟩
  ·exact KF ho ht hy (hx ▸ h)
 ·exact KF ho ht hy h
def Array.yr{α:Type}{a:Array α}{l:List α}(h:a.toList=l):a=l.toArray:=by subst h;simp
def TK{cl:Call}(ho:o.op=.call cl)(h:Gs P H ρ o cl K):∃c H',fE P o ρ H c H'/\K c H':=by
 have hns:xN o=true:=by simp[xN,ho]
 have scal:∀(h:match mJ P (execOp (λx=>An (ρ x)) o) with
   |some (.value v)=>bK (o.op.operands.toList.all (λx=>fP (ρ x)) && v.oneCell') <|okB (.v v) λc=>K c H
   |_=>False),∃c H',fE P o ρ H c H'/\K c H':=by
  intro h;split at h
  ·rename_i v e;obtain⟨h1,h2⟩:=zX h;simp only[gH,sN]at h1;exact⟨.v v,H,.same <|.scalar hns h1.1 e h1.2,jr (k:=λc=>K c H) h2⟩
  ·exact c6
 unfold Gs at h;split at h
 ·rename_i x hcl;split at h
  ·rename_i f first caps hf;obtain⟨h1,r,H',h2,h3⟩:=zX h;exact⟨r,H',.JD cl ho x hcl hf h1 h2,jr (k:=λc=>K c H') h3⟩
  ·rename_i g first caps hf;split at h
   ·rename_i l;obtain⟨h1,r,H',h2,h3⟩:=zX h;simp only[gH,Array.isEmpty_iff]at h1;obtain⟨rfl,rfl⟩:=h1;exact⟨r,H',.yield cl ho x hcl hf h2,jr (k:=λc=>K c H') h3⟩
   ·exact c6
  ·exact c6
 ·rename_i x name hcl;split at h
  ·rename_i t c hx;obtain⟨f,hm,hcb,r,H',h2,h3⟩:=h;exact⟨r,H',.invoke cl ho x name hcl hx hm hcb h2,jr (k:=λc=>K c H') h3⟩
  ·exact c6
 ·rename_i hcl;split at h
  ·rename_i x t hx ht;split at h
   ·rename_i e hu;split at h
    ·rename_i n hn;exact⟨_,H,.ix (ρ:=ρ) <|.same <|.len cl ho hcl x (Array.yr hx) (Array.yr ht) hu hn,h⟩
    ·exact c6
   ·rename_i hu;split at h
    ·rename_i s hs;obtain⟨⟨b⟩⟩:=s;exact⟨_,H,.same <|.Oz cl ho hcl x (Array.yr hx) (Array.yr ht) hu hs,h⟩
    ·exact c6
   ·exact scal h
  ·exact c6
 ·rename_i hcl;split at h
  ·rename_i x y t t' hx ht;obtain⟨ht',h⟩:=zX h;simp only[pH]at ht';subst ht';split at h
   ·rename_i e hu;split at h
    ·rename_i i hi;split at h
     ·rename_i z hz;exact Rs ho ⟨hcl,Array.yr hx,⟨_,Array.yr ht,hu⟩,hi,hz,by simpa using (zX h).1⟩ (zX h).2
     ·exact c6
    ·exact c6
   ·exact c6
  ·exact c6
 ·exact scal h
def Wr{op:BinOp}{t:TypeId}{x:Operand}(ho:JN o=some (op,t,x))(h:JY P H op t (ρ x) K):jN P o ρ H K:=by
 obtain⟨t',ho⟩:∃t',o.op=.binOp op t x (.const (.slice none 0 0)) t':=by
  unfold JN at ho;split at ho
  ·rename_i h1;split at ho
   ·split at ho
    ·cases ho;exact⟨_,h1⟩
    ·cases ho
   ·cases ho
  ·cases ho
 unfold JY at h;split at h
 ·rename_i e hu;split at h
  ·rename_i fo sz rows hx;split at h
   ·split at h
    ·exact .ON .eql t t' x ho (.inl rfl) hu hx h.1 h.2
    ·exact .ON .neq t t' x ho (.inr rfl) hu hx h.1 h.2
    ·exact c6
   ·split at h
    ·exact(ng.Ge .eql t t' x ho (.inl rfl) hu (.inl ⟨_,_,_,hx,h.1⟩)).mi h.2
    ·exact(ng.Ge .neq t t' x ho (.inr rfl) hu (.inl ⟨_,_,_,hx,h.1⟩)).mi h.2
    ·exact c6
  ·rename_i hx;split at h
   ·exact(ng.Ge .eql t t' x ho (.inl rfl) hu (.inr ⟨_,_,_,_,_,_,hx⟩)).mi h
   ·exact(ng.Ge .neq t t' x ho (.inr rfl) hu (.inr ⟨_,_,_,_,_,_,hx⟩)).mi h
   ·exact c6
  ·exact c6
 ·exact c6
def KX{x:C}{b:Bool}(h:Js x=some b):∀E u,L E x u->∃a,u=.pointer a/\a.isNone=b:=by
 intro E u hl;unfold Js at h;split at h
 ·cases h;cases hl;exact⟨_,rfl,rfl⟩
 ·cases h;cases hl;exact⟨_,rfl,rfl⟩
 ·split at h
  ·split at h <;> (cases h;cases hl;exact⟨_,rfl,rfl⟩)
  ·cases h
 ·cases h
def VU{op:BinOp}{t:TypeId}{x:Operand}(ho:JH o=some (op,t,x))(h:JQ P H op t (ρ x) K):∃c,ng P o ρ H c H/\K c H:=by
 obtain⟨t',ho⟩:∃t',o.op=.binOp op t x (.const (.pointer none)) t':=by
  unfold JH at ho;split at ho
  ·rename_i h1;split at ho
   ·split at ho
    ·split at ho
     ·cases ho;exact⟨_,h1⟩
     ·cases ho
    ·cases ho
   ·cases ho
  ·cases ho
 have hT:GH P t=true->P.underlying t=some (.pointer (P.pointee t)):=λhp=>by
  unfold GH at hp;split at hp
  ·rename_i e hu;have he:e=P.pointee t:=by simpa using hp
   rw[hu,he]
  ·cases hp
 unfold JQ at h;split at h
 ·rename_i b hb;split at h
  ·exact⟨_,.OD .eql t t' x ho (.inl rfl) (hT (zX h).1) b (KX hb),(zX h).2⟩
  ·exact⟨_,.OD .neq t t' x ho (.inr rfl) (hT (zX h).1) b (KX hb),(zX h).2⟩
  ·exact c6
 ·exact c6
def Uv{t:TypeId}{x y:Operand}(ho:o.op=.makeSlice t x y)(h:JK P H ρ t x y K):∃c H',fE P o ρ H c H'/\K c H':=by
 unfold JK at h;split at h
 ·rename_i k n k' n' hx hy;split at h
  ·rename_i e hu;split at h
   ·rename_i i hi;split at h
    ·rename_i cs hz;obtain⟨h1,rfl,h2,h3,h4,h5⟩:=zX h;have h5:=qx h5;have h5:=qx h5;exact⟨_,_,.Gk (.makeSlice t x y ho hu hi hz h1 hx hy h2 h3 h4) _ (λe=>by cases e) rfl,jj h5⟩
    ·exact c6
   ·exact c6
  ·exact c6
 ·exact c6
def LX{src dst:TypeId}{x:Operand}(ho:o.op=.convert src dst x)(h:Jz P H ρ o src dst x K):∃c,(∀H2,fE P o ρ H2 c H2)/\K c H:=by
 unfold Jz at h;split at h
 ·rename_i fo sz rows hx;split at h
  ·rename_i e hs hd;split at h
   ·rename_i he;obtain⟨h1,bts,rfl,h2⟩:=zX h;have h1:=eq_of_beq h1;subst h1;exact⟨_,λH2=>.ix (ρ:=ρ) <|.same <|.U2 src dst x ho hs he hd hx,h2⟩
   ·exact c6
  ·exact c6
 ·exact kK h
def HC(h:nY P H ρ o K):∃c H',fE P o ρ H c H'/\K c H':=by
 unfold nY at h;split at h
 ·rename_i x ho;exact⟨_,H,.same <|.move x (.inl ho),zQ (k:=λc=>K c H) h⟩
 ·rename_i x ho;exact⟨_,H,.same <|.move x (.inr ho),zQ (k:=λc=>K c H) h⟩
 ·rename_i x y z ho;split at h
  ·rename_i b hb;exact⟨_,H,.same <|.pick x y z ho b hb,zQ (k:=λc=>K c H) h⟩
  ·exact c6
 ·rename_i t ho;split at h
  ·rename_i cs hz;have h:=jj (k:=λcs=>jw cs.length λn=>jw H.length λm=>xn (H++[⟨1,t,n,[cs],0⟩]) λH'=>K (.ref m [] n 0 0) H') h;have h:=qx (k:=λn=>jw H.length λm=>xn (H++[⟨1,t,n,[cs],0⟩]) λH'=>K (.ref m [] n 0 0) H') h;have h:=qx (k:=λm=>xn (H++[⟨1,t,cs.length,[cs],0⟩]) λH'=>K (.ref m [] cs.length 0 0) H') h;exact⟨_,_,.Gk (.alloc t ho hz) _ (λe=>by cases e) rfl,jj (k:=λH'=>K (.ref H.length [] cs.length 0 0) H') h⟩
  ·exact c6
 ·rename_i t x ho;obtain⟨h0,h⟩:=zX h;have h:=qS (λ_ _ h=>zQ h) (k:=λcs=>jw cs.length λn=>jw H.length λm=>xn (H++[⟨1,t,n,[cs],0⟩]) λH'=>K (.ref m [] n 0 0) H') h;have h:=qx (k:=λn=>jw H.length λm=>xn (H++[⟨1,t,n,[(ρ x).cells],0⟩]) λH'=>K (.ref m [] n 0 0) H') h;have h:=qx (k:=λm=>xn (H++[⟨1,t,(ρ x).cells.length,[(ρ x).cells],0⟩]) λH'=>K (.ref m [] (ρ x).cells.length 0 0) H') h;exact⟨_,_,.Gk (.box t x ho h0) _ (λe=>by cases e) rfl,jj (k:=λH'=>K (.ref H.length [] (ρ x).cells.length 0 0) H') h⟩
 ·rename_i t x f ho;obtain⟨c,h1,h2⟩:=Lb ho h;exact⟨c,H,h1 H,h2⟩
 ·rename_i t x y ho;obtain⟨c,h1,h2⟩:=KV (ρ:=λx=>ix (ρ x)) ho h;exact⟨c,H,(h1 H).ix,h2⟩
 ·rename_i t x y ho;obtain⟨c,h1,h2⟩:=KW ho h;exact⟨c,H,h1 H,h2⟩
 ·rename_i t x f ho;obtain⟨c,h1,h2⟩:=Lf ho h;exact⟨c,H,h1 H,h2⟩
 ·rename_i t x ho;obtain⟨c,h1,h2⟩:=E5 h;exact⟨c,H,.same <|.load t x ho h1,h2⟩
 ·rename_i t x y ho;split at h
  ·obtain⟨H',h1,h2⟩:=Ly h;exact⟨_,H',.zxd t x y ho h1,h2⟩
  ·obtain⟨H',h1,h2⟩:=Ly h;exact⟨_,H',.Ci (.store t x y ho h1) (Lx h1),h2⟩
 ·rename_i x n ho;split at h
  ·rename_i vs hx;split at h
   ·rename_i c hc;exact⟨c,H,.same <|.extract x n ho hx hc,zQ (k:=λc=>K c H) (jr (k:=λc=>qT c λc=>K c H) h)⟩
   ·exact c6
  ·exact c6
 ·rename_i x ho;exact⟨_,H,.same <|.nilCheck x ho (zX h).1,zQ (k:=λc=>K c H) (zX h).2⟩
 ·rename_i f first caps ho;split at h
  ·have h:=qS (λ_ _ h=>zQ h) h;exact⟨_,H,.same <|.makeFunc _ first caps ho,qS (λ_ _ h=>zQ h) (k:=λb=>K (.fn _ (first.toList.map ρ) b) H) h⟩
  ·exact c6
 ·rename_i t parts ho;obtain⟨cs,hc,h⟩:=K3 h;exact⟨_,H,.same <|.build t parts ho hc,h⟩
 ·rename_i t x ho;split at h
  ·rename_i d hd;obtain⟨h1,h2⟩:=zX h;exact⟨_,H,.Wg t x ho hd h1,zQ (k:=λc=>K (.iu t c) H) h2⟩
  ·exact c6
 ·rename_i x xT t ok ho
  replace h:=zX h
  obtain⟨h1,h⟩:=h;subst h1;split at h
  ·rename_i t' c hx;split at h
   ·rename_i d hd;split at h
    ·rename_i he;obtain rfl:t'=t:=by simpa using he
     exact⟨_,H,.Vw x xT t' ho hx hd (zX h).1,(zX h).2⟩
    ·rename_i he;split at h
     ·rename_i i hi;have h2:=(zX h).1;rw[gH]at h2;exact⟨_,H,.Xc x xT t ho hx he hd h2.1 hi h2.2,(zX h).2⟩
     ·exact c6
   ·exact c6
  ·exact c6
 ·rename_i t len parts ho;split at h
  ·rename_i c hc;split at h
   ·rename_i o' sz rows;have h:=qS (λ_ _ h=>qS (λ_ _ h=>zQ h) h) (k:=λrows=>jw sz λsz=>K (.fp o' sz rows) H) h;exact⟨_,H,.same <|(qR.buildSlice (ρ:=λz=>wU (ρ z)) t len parts ho hc).weaken λz E v hl=>Iv hl,qx (k:=λsz=>K (.fp o' sz rows) H) h⟩
   ·exact c6
  ·exact c6
 ·rename_i t x lo hi mx ho;obtain⟨c,h1,h2⟩:=Lv (ρ:=λx=>ix (ρ x)) ho h;exact⟨c,H,(h1 H).ix,h2⟩
 ·rename_i t x y ho;exact Uv ho h
 ·exact h
 ·exact h
 ·exact h
 ·exact h
 ·rename_i cl ho;exact TK ho h
 ·rename_i op t x y t' ho;split at h
  ·rename_i xs ys hx hy;obtain⟨h1,h⟩:=h;simp only[gH,pO]at h1;split at h
   ·rename_i b hb;split at h
    ·exact⟨_,H,.same <|.FH .eql t t' x y ho (.inl rfl) h1.1 h1.2 hx hy hb,jr (k:=λc=>K c H) h⟩
    ·exact⟨_,H,.same <|.FH .neq t t' x y ho (.inr rfl) h1.1 h1.2 hx hy hb,jr (k:=λc=>K c H) h⟩
    ·exact c6
   ·exact c6
  ·rename_i s s' hx hy;obtain⟨⟨a⟩⟩:=s;obtain⟨⟨b⟩⟩:=s';obtain⟨c,h1,h2⟩:=Mt ho hx hy h;exact⟨c,H,h1 H,h2⟩
  ·obtain⟨c,h1,h2⟩:=kK h;exact⟨c,H,h1 H,h2⟩
 ·rename_i src dst x ho;obtain⟨c,h1,h2⟩:=LX ho h;exact⟨c,H,h1 H,h2⟩
 ·split at h
  ·rename_i v e;obtain⟨h1,h2⟩:=zX h;simp only[gH,sN]at h1;exact⟨.v v,H,.same <|.scalar h1.1.1 h1.1.2 e h1.2,MT (k:=λc=>K c H) h2⟩
  ·exact c6
 ·obtain⟨c,h1,h2⟩:=kK h;exact⟨c,H,h1 H,h2⟩
end
def Eb(calls:Bool)(o:Oper):Bool:=
 match o.op with
 |.alloc _|.box .. |.store .. |.makeSlice .. |.makeMap .. |.mapUpdate .. |.insert .. |.mapEntry .. |.entryStore ..=>true
 |.call cl=>match cl.callee with
  |.builtin .len=>false
  |.builtin _=>true
  |_=>calls
 |_=>false
def xF(o:Oper):Bool:=
 match o.op with
 |.move _|.assign _|.pick .. |.fieldAddr .. |.indexAddr .. |.extract .. |.nilCheck _|.makeFunc .. |.build .. |.buildSlice .. |.slice .. |.index .. |.field .. |.binOp .. |.unOp .. |.convert ..=>true
 |.call cl=>match cl.callee with
  |.builtin .len=>true
  |_=>false
 |_=>false
section
variable {P:Program} {o:Oper} {ρ:Operand->C} {H:zl} {K:C->zl->Prop}
def Lw(hb:xF o=true)(h:nY P H ρ o K):∃c,(∀H2,fE P o ρ H2 c H2)/\K c H:=by
 unfold nY at h;split at h
 ·rename_i x ho;exact⟨_,λH2=>.same <|.move x (.inl ho),zQ (k:=λc=>K c H) h⟩
 ·rename_i x ho;exact⟨_,λH2=>.same <|.move x (.inr ho),zQ (k:=λc=>K c H) h⟩
 ·rename_i x y z ho;split at h
  ·rename_i b hb;exact⟨_,λH2=>.same <|.pick x y z ho b hb,zQ (k:=λc=>K c H) h⟩
  ·exact c6
 ·rename_i t ho;simp[xF,ho]at hb
 ·rename_i t x ho;simp[xF,ho]at hb
 ·rename_i t x f ho;exact Lb ho h
 ·rename_i t x y ho;obtain⟨c,h1,h2⟩:=KV (ρ:=λx=>ix (ρ x)) ho h;exact⟨c,λH2=>(h1 H2).ix,h2⟩
 ·rename_i t x y ho;exact KW ho h
 ·rename_i t x f ho;exact Lf ho h
 ·rename_i t x ho;simp[xF,ho]at hb
 ·rename_i t x y ho;simp[xF,ho]at hb
 ·rename_i x n ho;split at h
  ·rename_i vs hx;split at h
   ·rename_i c hc;exact⟨c,λH2=>.same <|.extract x n ho hx hc,zQ (k:=λc=>K c H) (jr (k:=λc=>qT c λc=>K c H) h)⟩
   ·exact c6
  ·exact c6
 ·rename_i x ho;exact⟨_,λH2=>.same <|.nilCheck x ho (zX h).1,zQ (k:=λc=>K c H) (zX h).2⟩
 ·rename_i f first caps ho;split at h
  ·have h:=qS (λ_ _ h=>zQ h) h;exact⟨_,λH2=>.same <|.makeFunc _ first caps ho,qS (λ_ _ h=>zQ h) (k:=λb=>K (.fn _ (first.toList.map ρ) b) H) h⟩
  ·exact c6
 ·rename_i t parts ho;obtain⟨cs,hc,h⟩:=K3 h;exact⟨_,λH2=>.same <|.build t parts ho hc,h⟩
 ·rename_i t x ho;simp[xF,ho]at hb
 ·rename_i x xT t ok ho;simp[xF,ho]at hb
 ·rename_i t len parts ho;split at h
  ·rename_i c hc;split at h
   ·rename_i o' sz rows;have h:=qS (λ_ _ h=>qS (λ_ _ h=>zQ h) h) (k:=λrows=>jw sz λsz=>K (.fp o' sz rows) H) h;exact⟨_,λH2=>.same <|(qR.buildSlice (ρ:=λz=>wU (ρ z)) t len parts ho hc).weaken λz E v hl=>Iv hl,qx (k:=λsz=>K (.fp o' sz rows) H) h⟩
   ·exact c6
  ·exact c6
 ·rename_i t x lo hi mx ho;obtain⟨c,h1,h2⟩:=Lv (ρ:=λx=>ix (ρ x)) ho h;exact⟨c,λH2=>(h1 H2).ix,h2⟩
 ·rename_i t x y ho;simp[xF,ho]at hb
 ·rename_i ho;simp[xF,ho]at hb
 ·rename_i ho;simp[xF,ho]at hb
 ·rename_i ho;simp[xF,ho]at hb
 ·rename_i ho;simp[xF,ho]at hb
 ·rename_i cl ho
  have hc:cl.callee=.builtin .len:=by
   simp only[xF,ho]at hb;split at hb
   ·assumption
   ·cases hb
  have hns:xN o=true:=by simp[xN,ho]
  unfold Gs at h;rw[hc]at h;dsimp only at h;split at h
  ·rename_i x t hx ht;split at h
   ·rename_i e hu;split at h
    ·rename_i n hn;exact⟨_,λH2=>.ix (ρ:=ρ) <|.same <|.len cl ho hc x (Array.yr hx) (Array.yr ht) hu hn,h⟩
    ·exact c6
   ·rename_i hu;split at h
    ·rename_i s hs;obtain⟨⟨b⟩⟩:=s;exact⟨_,λH2=>.same <|.Oz cl ho hc x (Array.yr hx) (Array.yr ht) hu hs,h⟩
    ·exact c6
   ·split at h
    ·rename_i v e;obtain⟨h1,h2⟩:=zX h;simp only[gH,sN]at h1;exact⟨.v v,λH2=>.same <|.scalar hns h1.1 e h1.2,jr (k:=λc=>K c H) h2⟩
    ·exact c6
  ·exact c6
 ·rename_i op t x y t' ho;split at h
  ·rename_i xs ys hx hy;obtain⟨h1,h⟩:=h;simp only[gH,pO]at h1;split at h
   ·rename_i b hb;split at h
    ·exact⟨_,λH2=>.same <|.FH .eql t t' x y ho (.inl rfl) h1.1 h1.2 hx hy hb,jr (k:=λc=>K c H) h⟩
    ·exact⟨_,λH2=>.same <|.FH .neq t t' x y ho (.inr rfl) h1.1 h1.2 hx hy hb,jr (k:=λc=>K c H) h⟩
    ·exact c6
   ·exact c6
  ·rename_i s s' hx hy;obtain⟨⟨a⟩⟩:=s;obtain⟨⟨b⟩⟩:=s';exact Mt ho hx hy h
  ·exact kK h
 ·rename_i src dst x ho;exact LX ho h
 ·split at h
  ·rename_i v e;obtain⟨h1,h2⟩:=zX h;simp only[gH,sN]at h1;exact⟨.v v,λH2=>.same <|.scalar h1.1.1 h1.1.2 e h1.2,MT (k:=λc=>K c H) h2⟩
  ·exact c6
 ·exact kK h
end
section
variable {P:Program} {B:Nat} {ops:Array Oper} {md:Region.Mode} {Hs:Nat->zl} {eff:Nat->Bool} {idx:Nat->Nat} {inR:Nat->Nat->Bool}
def DJ(md:Region.Mode)(ms:List Nat)(o:Oper):List Nat:=
 ms++[o.after.toList.foldl (λm e=>if Region.binds md e then m ||| (1 <<< e.on) ||| (ms[e.on]?).getD 0 else m) 0]
def nF(md:Region.Mode)(ops:Array Oper):List Nat:=ops.toList.foldl (DJ md) []
def ou(md:Region.Mode)(ops:Array Oper)(ms:List Nat)(j i:Nat):Bool:=Nat.testBit ((ms[j]?).getD 0) i
def MV{md:Region.Mode}{ms:List Nat}{i:Nat}:∀{l:List Edge} {m0:Nat},Nat.testBit (l.foldl (λm e=>if Region.binds md e then m ||| (1 <<< e.on) ||| (ms[e.on]?).getD 0 else m) m0) i=true->
  Nat.testBit m0 i=true\/∃e∈l,Region.binds md e=true/\(e.on=i\/Nat.testBit ((ms[e.on]?).getD 0) i=true)
 |[],m0,h=>.inl h
 |e::l,m0,h=>by
  rw[eK]at h;rcases MV h with h1|⟨e',h1,h2⟩
  ·split at h1
   ·rename_i hb;simp only[Nat.testBit_or,rz]at h1;rcases h1 with(h1|h1)|h1
    ·exact .inl h1
    ·refine .inr ⟨e,aj,hb,.inl ?_⟩;rw[Nat.testBit_shiftLeft]at h1;simp only[gH,gQ]at h1;obtain⟨h2,h3⟩:=h1;have:=Nat.testBit_one_eq_true_iff_self_eq_zero.1 h3;omega
    ·exact .inr ⟨e,aj,hb,.inr h1⟩
   ·exact .inl h1
  ·exact .inr ⟨e',aD,h2⟩
def Bh(md:Region.Mode)(l:List Oper)(ms:List Nat):Prop:=ms.length=l.length/\∀(j i:Nat),Nat.testBit ((ms[j]?).getD 0) i=true->
  ∃oj,l[j]?=some oj/\∃e∈oj.after,Region.binds md e=true/\(e.on=i\/(e.on<j/\Nat.testBit ((ms[e.on]?).getD 0) i=true))
def Bh.step{md:Region.Mode}{l:List Oper}{ms:List Nat}(h0:Bh md l ms)(o:Oper):Bh md (l++[o]) (DJ md ms o):=by
 obtain⟨ih1,ih2⟩:=h0;refine⟨by simp[DJ,ih1],?_⟩;intro j i h;unfold DJ at h ⊢;by_cases hj:j<ms.length
 ·rw[gG hj]at h;obtain⟨oj,h1,e,h2,h3,h4⟩:=ih2 j i h;refine⟨oj,by rw[gG aw];exact h1,e,h2,h3,h4.imp id λ⟨h5,h6⟩=>⟨h5,?_⟩⟩;rw[gG aw];exact h6
 ·rw[gO aw]at h
  have hj0:j-ms.length=0:=by
   rcases sT (j-ms.length) with h0|h0
   ·exact h0
   ·rw[p9 aA]at h;simp at h
  rw[hj0]at h;simp only[ux,pS]at h;rcases MV h with h1|⟨e,h1,h2,h3⟩
  ·simp at h1
  ·refine⟨o,by rw[gO aw,<-ih1,hj0];rfl,e,aq h1,h2,h3.imp id λh4=>?_⟩
   have ft:e.on<ms.length:=by
    rcases pY e.on ms.length with h5|h5
    ·exact h5
    ·rw[p9 h5]at h4;simp at h4
   exact⟨aw,by rw[gG ft];exact h4⟩
def Bh.fold{md:Region.Mode}:∀{l pre:List Oper} {ms:List Nat},Bh md pre ms->Bh md (pre++l) (l.foldl (DJ md) ms)
 |[],pre,ms,h=>by simpa using h
 |o::l,pre,ms,h=>by
  have:=(h.step o).fold (l:=l);simpa using this
def LN{md:Region.Mode}(ops:Array Oper):Bh md ops.toList (nF md ops):=by
 have:=Bh.fold (md:=md) (l:=ops.toList) (pre:=[]) (ms:=[]) ⟨rfl,aj⟩;simpa [nF] using this
def Down(md:Region.Mode)(ops:Array Oper)(listed:Array Bool):Prop:=∀j oj,ops[j]?=some oj->listed.getD j false=true->∀e∈oj.after,Region.binds md e=true->listed.getD e.on false=true
def Down.start:Down md ops (Array.replicate ops.size false):=λj oj _ h=>by
 exfalso
 rw[pJ,Array.getElem?_replicate]at h;split at h <;> simp at h
def Down.dep{listed:Array Bool}(hd:Down md ops listed)(j i:Nat)(hj:listed.getD j false=true)(h:ou md ops (nF md ops) j i=true):listed.getD i false=true:=by
 induction j using Nat.strongRecOn with
 |_ j ih=>
  obtain⟨oj,h1,e,h2,h3,h4⟩:=(LN (md:=md) ops).2 j i h;have h5:=hd j oj tD hj e h2 h3;rcases h4 with rfl|⟨h6,h7⟩
  ·exact h5
  ·exact ih e.on h6 h5 h7
def Down.ready{listed:Array Bool}(hd:Down md ops listed){j i:Nat}(hj:j∈Region.ready md ops listed)(h:ou md ops (nF md ops) j i=true):listed.getD i false=true:=by
 obtain⟨_,oj,ho,qc⟩:=mem_ready.1 hj;obtain⟨oj',h1,e,h2,h3,h4⟩:=(LN (md:=md) ops).2 j i h
 have e1:oj'=oj:=by
  have:ops[j]?=some oj':=aq h1
  rw[ho]at this;cases this
  rfl
 subst e1;have h5:=qc e h2 h3;rcases h4 with rfl|⟨h6,h7⟩
 ·exact h5
 ·exact hd.dep e.on i h5 h7
def Down.step{listed:Array Bool}(hd:Down md ops listed){i:Nat}(hi:i∈Region.ready md ops listed):Down md ops (listed.setIfInBounds i true):=λj oj ho hj e he hb=>by
 by_cases hji:i=j
 ·subst hji;obtain⟨_,oi,ho',qc⟩:=mem_ready.1 hi;rw[ho]at ho';cases ho'
  exact getD_set_true (qc e he hb)
 ·rw[getD_set_ne false hji]at hj;exact getD_set_true (hd j oj ho hj e he hb)
def QA(P:Program)(ops:Array Oper)(Hs:Nat->zl)(r:Nat->Bool)(o:Oper)(c:C)(t:List C):Prop:=
 (jO ops t o=some true/\∀k,r k=true->fE P o (ev t) (Hs k) c (Hs k))\/(jO ops t o=some false/\c=.un)
def EA(P:Program)(ops:Array Oper)(H H':zl)(o:Oper)(c:C)(t:List C):Prop:=
 (jO ops t o=some true/\fE P o (ev t) H c H')\/(jO ops t o=some false/\c=.un/\H'=H)
def QA.put{r:Nat->Bool}{o:Oper}{c x:C}{t:List C}{dst:Option Tmp}(h:∀d,dst=some d->d∉o.looksAt ops):QA P ops Hs r o c (put t dst x)↔QA P ops Hs r o c t:=by
 unfold QA;rw[y9 h];constructor
 ·rintro(⟨h1,h2⟩|h1)
  ·exact .inl ⟨h1,λk hk=>(fE.put h).1 (h2 k hk)⟩
  ·exact .inr h1
 ·rintro(⟨h1,h2⟩|h1)
  ·exact .inl ⟨h1,λk hk=>(fE.put h).2 (h2 k hk)⟩
  ·exact .inr h1
def EA.put{H H':zl}{o:Oper}{c x:C}{t:List C}{dst:Option Tmp}(h:∀d,dst=some d->d∉o.looksAt ops):EA P ops H H' o c (put t dst x)↔EA P ops H H' o c t:=by
 unfold EA;rw[y9 h,fE.put h]
def GB(P:Program)(ops:Array Oper)(Hs:Nat->zl)(eff:Nat->Bool)(idx:Nat->Nat)(inR:Nat->Nat->Bool)(i:Nat)(o:Oper)(c:C)(n':Nat)(t:List C)(n:Nat):Prop:=
 (eff i=false/\inR i n=true/\QA P ops Hs (inR i) o c t/\n'=n)\/(eff i=true/\idx i=n/\EA P ops (Hs n) (Hs (n+1)) o c t/\n'=n+1)
def mR(P:Program)(ops:Array Oper)(Hs:Nat->zl)(eff:Nat->Bool)(idx:Nat->Nat)(inR:Nat->Nat->Bool)(i:Nat)(K:List C->Nat->Prop)(t:List C)(n:Nat):Prop:=
 match ops[i]? with
 |none=>K t n
 |some o=>∃c n',GB P ops Hs eff idx inR i o c n' t n/\K (put t o.dst c) n'
def Vo{i:Nat}{t:List C}{n:Nat}{K K':List C->Nat->Prop}(h:∀t n,K t n->K' t n)(hh:mR P ops Hs eff idx inR i K t n):mR P ops Hs eff idx inR i K' t n:=by
 unfold mR at *;split
 ·exact h _ _ (by simpa [*] using hh)
 ·rename_i o ho;simp only[ho]at hh;obtain⟨c,n',h1,h2⟩:=hh;exact⟨c,n',h1,h _ _ h2⟩
def AM(P:Program)(ops:Array Oper)(Hs:Nat->zl)(eff:Nat->Bool)(idx:Nat->Nat)(inR:Nat->Nat->Bool)(Q:List C->Nat->Prop):List Oper->Nat->List C->Nat->Prop
 |[],_,t,n=>Q t n
 |_::l,k,t,n=>mR P ops Hs eff idx inR k (AM P ops Hs eff idx inR Q l (k+1)) t n
def EB(P:Program)(md:Region.Mode)(ops:Array Oper)(Hs:Nat->zl)(eff:Nat->Bool)(idx:Nat->Nat)(inR:Nat->Nat->Bool)(Q:List C->Nat->Prop):Nat->Array Bool->List C->Nat->Prop
 |0,listed,t,n=>Region.ready md ops listed=[]/\Q t n
 |fuel+1,listed,t,n=>(Region.ready md ops listed=[]->Q t n)/\∀i∈Region.ready md ops listed,mR P ops Hs eff idx inR i (EB P md ops Hs eff idx inR Q fuel (listed.setIfInBounds i true)) t n
def yu{q:Option Nat}{m:Nat}{H0:zl}{Q:List C->Nat->Prop}{w0:World}{E0:Env}{Q':Exit->Act->World->Prop}(hQ:∀t n w E a,Q t n->xU B m w E ⟨t,Hs n⟩ a->jK B w0 E0 H0 w E (Hs n)->Q' .normal a w):
  ∀(fuel:Nat) (listed:Array Bool) (t:List C) (n:Nat) (w:World) (E:Env) (a:Act),xU B m w E ⟨t,Hs n⟩ a->jK B w0 E0 H0 w E (Hs n)->EB P md ops Hs eff idx inR Q fuel listed t n->wpAnyIn (fw q) 0 P md ops Q' fuel listed a w
 |0,_,t,n,w,E,a,hs,hg,h=>⟨h.1,hQ t n w E a h.2 hs hg⟩
 |fuel+1,listed,t,n,w,E,a,hs,hg,h=>⟨λh0=>hQ t n w E a (h.1 h0) hs hg,λi hi=>by
   have h1:=h.2 i hi;unfold mR at h1;unfold wpOpIn;split
   ·rename_i ho;simp only[ho]at h1;exact yu hQ fuel _ t n w E a hs hg h1
   ·rename_i o ho;simp only[ho]at h1;obtain⟨c,n',hf,hK⟩:=h1;rcases hf with⟨_,hin,⟨hw,hv⟩|⟨hw,rfl⟩,rfl⟩|⟨_,_,⟨hw,hv⟩|⟨hw,rfl,he⟩,rfl⟩
    ·rw[gC (jY hs.tmps hw)];exact Aa.Gf (s:=⟨t,Hs n'⟩) (hv _ hin) q m w E a _ Q' hs λw' E' a' h2 g2=>yu hQ fuel _ (put t o.dst c) n' w' E' a' h2 (hg.trans g2) hK
    ·rw[gu br];exact⟨λ_ _=>trivial,yu hQ fuel _ (put t o.dst .un) n' w E _ (hs.put .un o.dst) hg hK⟩
    ·rw[gC (jY hs.tmps hw)];exact Aa.Gf (s:=⟨t,Hs n⟩) hv q m w E a _ Q' hs λw' E' a' h2 g2=>yu hQ fuel _ (put t o.dst c) (n+1) w' E' a' h2 (hg.trans g2) hK
    ·rw[gu br];have hs':=hs.put .un o.dst;exact⟨λ_ _=>trivial,yu hQ fuel _ (put t o.dst .un) (n+1) w E _ (by rw[he];exact hs') (by rw[he];exact hg) hK⟩⟩
structure C4(md:Region.Mode)(ops:Array Oper)(eff:Nat->Bool)(idx:Nat->Nat)(inR:Nat->Nat->Bool)(i j:Nat):Prop where
 c1:eff i=false->eff j=true->ou md ops (nF md ops) j i=false->inR i (idx j)=true->inR i (idx j+1)=true
 c2:eff i=true->eff j=false->ou md ops (nF md ops) j i=false->inR j (idx i+1)=true->inR j (idx i)=true
def Vp{i j:Nat}{oi oj:Oper}{c:C}{n ni:Nat}(hj:ops[j]?=some oj)(hap:oi.apart ops oj=true)(he:eff i=true->eff j=false)(hp:C4 md ops eff idx inR i j)(hno:ou md ops (nF md ops) j i=false){K:List C->Nat->Prop}{t:List C}
 (hf:GB P ops Hs eff idx inR i oi c ni t n)(h:mR P ops Hs eff idx inR j K (put t oi.dst c) ni):
  mR P ops Hs eff idx inR j (λt' n'=>∃n2,GB P ops Hs eff idx inR i oi c n2 t' n'/\K (put t' oi.dst c) n2) t n:=by
 obtain⟨h1,h2,h3⟩:=Oper.apart_spec hap;unfold mR at *;simp only[hj] at *;obtain⟨cj,nj,hfj,hK⟩:=h;rw[put_comm _ _ h2]at hK;rcases hf with⟨e1,e2,e3,rfl⟩|⟨e1,e2,e3,rfl⟩
 ·rcases hfj with⟨f1,f2,f3,rfl⟩|⟨f1,f2,f3,rfl⟩
  ·exact⟨cj,nj,.inl ⟨f1,f2,(QA.put h1).1 f3,rfl⟩,nj,.inl ⟨e1,e2,(QA.put h3).2 e3,rfl⟩,hK⟩
  ·refine⟨cj,ni+1,.inr ⟨f1,f2,(EA.put h1).1 f3,rfl⟩,ni+1,.inl ⟨e1,?_,(QA.put h3).2 e3,rfl⟩,hK⟩;rw[<-f2];exact hp.c1 e1 f1 hno (by rw[f2];exact e2)
 ·rcases hfj with⟨f1,f2,f3,rfl⟩|⟨f1,f2,f3,rfl⟩
  ·refine⟨cj,n,.inl ⟨f1,?_,(QA.put h1).1 f3,rfl⟩,n+1,.inr ⟨e1,e2,(EA.put h3).2 e3,rfl⟩,hK⟩;rw[<-e2];exact hp.c2 e1 f1 hno (by rw[e2];exact f2)
  ·rw[he e1]at f1;cases f1
def Tz{Q:List C->Nat->Prop}{i:Nat}{oi:Oper}{c:C}(hi:ops[i]?=some oi):
  ∀(fuel:Nat) (listed:Array Bool) (t:List C) (n ni:Nat),Down md ops listed->
   (∀j oj,ops[j]?=some oj->j≠i->listed.getD j true=false->(∀e∈oj.after,Region.binds md e=true->e.on≠i)->oi.apart ops oj=true/\(eff i=true->eff j=false)/\C4 md ops eff idx inR i j)->
   i∈Region.ready md ops listed->GB P ops Hs eff idx inR i oi c ni t n->
   EB P md ops Hs eff idx inR Q fuel (listed.setIfInBounds i true) (put t oi.dst c) ni->EB P md ops Hs eff idx inR Q (fuel+1) listed t n:=by
 intro fuel
 induction fuel with
 |zero=>
  intro listed t n ni _ _ hr hy H;refine⟨λh=>bt,λj hj=>?_⟩;by_cases hji:j=i
  ·subst hji;unfold mR;simp only[hi];exact⟨c,ni,hy,H⟩
  ·have:=ready_mono hj hji;rw[H.1]at this;cases this
 |succ fuel ih=>
  intro listed t n ni hdown hfree hr hy H;refine⟨λh=>bt,λj hj=>?_⟩;by_cases hji:j=i
  ·subst hji;unfold mR;simp only[hi];exact⟨c,ni,hy,H⟩
  ·have h1:=H.2 j (ready_mono hj hji);obtain⟨hjun,oj,hoj,qc⟩:=mem_ready.1 hj
   have hiun:listed.getD i false=false:=by
    have h0:=(mem_ready.1 hr).1;rcases pY i listed.size with h'|h'
    ·simp[h']at h0 ⊢;exact h0
    ·simp[sC h']
   have hnot:∀e∈oj.after,Region.binds md e=true->e.on≠i:=λe he hb heq=>by
    have h1:=qc e he hb;rw[heq,hiun]at h1;cases h1
   have hno:ou md ops (nF md ops) j i=false:=by
    cases hd:ou md ops (nF md ops) j i with
    |false=>rfl
    |true=>have:=hdown.ready hj hd;rw[hiun]at this;cases this
   obtain⟨hap,hee,hp⟩:=hfree j oj hoj hji hjun hnot;have h2:=Vp hoj hap hee hp hno hy h1
   have hfree':∀k ok,ops[k]?=some ok->k≠i->(listed.setIfInBounds j true).getD k true=false->
     (∀e∈ok.after,Region.binds md e=true->e.on≠i)->oi.apart ops ok=true/\(eff i=true->eff k=false)/\C4 md ops eff idx inR i k:=λk ok hk hki hun hno=>by
    refine hfree k ok hk hki ?_ hno;by_cases hjk:j=k
    ·subst hjk;exact hjun
    ·rw[getD_set_ne true hjk]at hun;exact hun
   refine Vo (λt' n' ⟨n2,h3,h4⟩=>ih (listed.setIfInBounds j true) t' n' n2 (hdown.step hj) hfree' (ready_mono hr (Ne.symm hji)) h3 ?_) h2;rw[ur _ _ hji];exact h4
def Nk{Q:List C->Nat->Prop}(hE:Bw md ops eff=true)(hP:∀i j,C4 md ops eff idx inR i j):∀(l:List Oper) (k:Nat) (listed:Array Bool) (t:List C) (n:Nat),Down md ops listed->(∀j,l[j]?=ops[k+j]?)->(∀j,j<k->listed.getD j true=true)->
  Region.lexFrom md ops l.length k listed=true->AM P ops Hs eff idx inR Q l k t n->EB P md ops Hs eff idx inR Q l.length listed t n
 |[],_,_,_,_,_,_,_,hB,h=>⟨by simpa [Region.lexFrom] using hB,h⟩
 |o::l,k,listed,t,n,hd,hl,hk,hB,h=>by
  have h0:ops[k]?=some o:=by simpa using (hl 0).symm
  simp only[pR,Region.lexFrom,gH]at hB;obtain⟨⟨hr,hf⟩,hB'⟩:=hB;have h':mR P ops Hs eff idx inR k (AM P ops Hs eff idx inR Q l (k+1)) t n:=h;unfold mR at h';simp only[h0]at h';obtain⟨c,n',hfst,hK⟩:=h';have hr':k∈Region.ready md ops listed:=aq hr
  refine Tz h0 l.length listed t n n' hd (λj oj hj hne hun hno=>⟨Region.free_spec h0 hf j oj hj hne hun hno,λhe=>?_,hP k j⟩) hr' hfst
   (Nk hE hP l (k+1) _ _ _ (hd.step hr') (λj=>by have:=hl (j+1);simpa [r8,fe 1 j] using this) ?_ hB' hK)
  ·refine MA hE he ?_ hj hno;rcases sf j k with ft|heq|ft
   ·rw[hk j ft]at hun;cases hun
   ·exact absurd heq hne
   ·exact ft
  ·intro j hj;by_cases hjk:k=j
   ·subst hjk;by_cases ft:k<listed.size
    ·simp[ft]
    ·simp[ft]
   ·rw[getD_set_ne true hjk];exact hk j aw
def Run.zxy{id n':Nat}{t t':List C}{H:zl}(hm:P.follows .mixedOrders=true)(hB:Region.lexB .any ops=true)(hE:Bw .any ops eff=true)(hP:∀i j,C4 .any ops eff idx inR i j)(hH:Hs 0=H)
 (h:AM P ops Hs eff idx inR (λt n=>t=t'/\n=n') ops.toList 0 t 0):Run P B (.region id ops true) ⟨t,H⟩ .normal ⟨t',Hs n'⟩:=λq m w E a Q _ hs hq=>by
 simp only[Region.lexB,gH]at hB;subst hH;refine wpIn_region_any hm (yu (Hs:=Hs) (eff:=eff) (idx:=idx) (inR:=inR) (H0:=Hs 0) (Q:=λt n=>t=t'/\n=n') (w0:=w) (E0:=E) (λt1 n1 w1 E1 a1 he h1 g1=>by obtain⟨rfl,rfl⟩:=he;exact hq _ _ w1 E1 a1 ⟨rfl,rfl⟩ h1 g1) _ _ t 0 _ E a hs.drew ((Grow.drew w E (Hs 0)).iM tG) ?_);have:=Nk (Hs:=Hs) (eff:=eff) (idx:=idx) (inR:=inR) (Q:=λt n=>t=t'/\n=n') (P:=P) (md:=.any) hE hP ops.toList 0 (Array.replicate ops.size false) t 0 Down.start aj (λj hj=>absurd hj (pC j)) (aq hB.2) h;simpa using this
structure l7 where
 calls:Bool
 bl:List Nat
 keep:List Nat:=[]
 calm:List Nat:=[]
def oz:List Nat->Nat->Bool
 |[],_=>false
 |x::xs,k=>match Nat.beq x k with|true=>true|false=>oz xs k
def l7.blind(T:l7)(k:Nat):Bool:=oz T.bl k
def l7.DP(T:l7)(k:Nat):Bool:=match T.calls with|true=>!oz T.calm k|false=>false
def wY(T:l7)(ops:Array Oper)(i:Nat):Bool:=match ops[i]? with|some o=>Eb (T.DP i) o && !T.blind i|none=>false
def yz(T:l7)(ops:Array Oper)(i:Nat):Nat:=((List.range i).filter (wY T ops)).length
def mN(T:l7)(ops:Array Oper)(i k:Nat):Bool:=match ops[i]? with|some o=>(xF o || T.blind i) || k == yz T ops i|none=>true
def Ju(md:Region.Mode)(T:l7)(ops:Array Oper)(ms:List Nat):Bool:=
 Bw md ops (wY T ops) && (List.range ops.size).all λi=>(List.range ops.size).all λj=>
  (!(wY T ops j) || wY T ops i || mN T ops i (yz T ops j+1) || !(mN T ops i (yz T ops j)) || ou md ops ms j i) &&
  (!(wY T ops i) || wY T ops j || mN T ops j (yz T ops i) || !(mN T ops j (yz T ops i+1)) || ou md ops ms j i)
def CV(md:Region.Mode)(T:l7)(ops:Array Oper):Bool:=Ju md T ops (nF md ops)
def UF{T:l7}(h:CV md T ops=true)(i j:Nat):C4 md ops (wY T ops) (yz T ops) (mN T ops) i j:=by
 simp only[CV,Ju,gH,gI,rC]at h
 have he:∀i,wY T ops i=true->i<ops.size:=λi hi=>by
  unfold wY at hi;split at hi
  ·rename_i o ho;exact(gP.1 ho).1
  ·cases hi
 have hin:∀i k,¬i<ops.size->mN T ops i k=true:=λi k hi=>by
  unfold mN;rw[sC aw]
 constructor
 ·intro h1 h2 h3 h4;by_cases hi:i<ops.size
  ·have:=(h.2 i hi j (he j h2)).1;simp only[h1,h2,h3,h4,u7,rZ,eX]at this;exact dM
  ·exact hin i _ hi
 ·intro h1 h2 h3 h4;by_cases hj:j<ops.size
  ·have:=(h.2 i (he i h1) j hj).2;simp only[h1,h2,h3,h4,u7,rZ,eX]at this;exact dM
  ·exact hin j _ hj
def Em(o:Oper):Bool:=match o.op with|.load ..=>true|_=>false
def Mh{o:Oper}{ρ:Operand->C}{H:zl}{K:C->zl->Prop}(hb:Em o=true)(h:nY P H ρ o K):∃c,fE P o ρ H c H/\K c H:=by
 unfold Em at hb;split at hb
 ·rename_i t x ho;unfold nY at h;rw[ho]at h;dsimp only at h;obtain⟨c,h1,h2⟩:=E5 h;exact⟨c,.same <|.load t x ho h1,h2⟩
 ·cases hb
def yO(keep:List Nat)(H H':zl):Prop:=∀id,oz keep id=true->H'[id]?=H[id]?
def yO.refl(keep:List Nat)(H:zl):yO keep H H:=λ_ _=>rfl
def yO.trans{keep:List Nat}{H H' H'':zl}(h:yO keep H H')(h':yO keep H' H''):yO keep H H'':=λid hi=>(h' id hi).trans (h id hi)
def Ek(H H':zl)(k:Prop):List Nat->Prop
 |[]=>k
 |id::ids=>H'[id]?=H[id]?/\Ek H H' k ids
def E9{H H':zl}{k:Prop}:∀{keep:List Nat},Ek H H' k keep->yO keep H H'/\k
 |[],h=>⟨λid hi=>by simp[oz]at hi,h⟩
 |x::xs,h=>by
  obtain⟨h1,h2⟩:=h;obtain⟨h3,h4⟩:=E9 h2;refine⟨λid hi=>?_,h4⟩;unfold oz at hi;split at hi
  ·rename_i e;obtain rfl:=Nat.eq_of_beq_eq_true e;exact h1
  ·exact h3 id hi
def Vc{H H':zl}{id:Nat}(h:H'[id]?=H[id]?)(hops:List fZ):qb H' id hops=qb H id hops:=by unfold qb;rw[h]
def Uu{H H':zl}{t:TypeId}{id:Nat}{hops:List fZ}{sz i k:Nat}(h:H'[id]?=H[id]?):wP P H' t (.ref id hops sz i k)=wP P H t (.ref id hops sz i k):=by
 unfold wP oN;simp only[Vc h]
def F5(P:Program)(keep:List Nat)(H:zl)(ρ:Operand->C)(o:Oper)(K:C->zl->Prop):Prop:=
 match o.op with
 |.load t x=>match ρ x with
  |.jU cells=>Ee P H t (.jU cells) λc=>K c H
  |.ref id hops sz i k=>bK (oz keep id) <|Ee P H t (.ref id hops sz i k) λc=>K c H
  |_=>False
 |.call cl=>match cl.callee with
  |.value x=>match ρ x with
   |.fn f first caps=>bK (qm P f) <| ∃r,(∀H2,zb P f H2 (first++(cl.args.toList.map λx=>ix (ρ x))++caps) r H2)/\okB r λr=>K r H
   |_=>False
  |_=>False
 |.makeSlice t x y=>match ρ x,ρ y with
  |.v (.int _ n),.v (.int _ n')=>match P.underlying t with
   |some (.slice e)=>match P.info? e with
    |some i=>match n5 P e with
     |some cs=>bK (cs.all ju) <|n'=n/\0<=n/\(i.bytes:Int)*n<=281474976710656/\n<=9223372036854775807/\jw i.size λsz=>K (.fp 0 sz (List.replicate n.toNat cs)) H
     |none=>False
    |none=>False
   |_=>False
  |_,_=>False
 |_=>False
def K2{keep:List Nat}{o:Oper}{ρ:Operand->C}{H:zl}{K:C->zl->Prop}(h:F5 P keep H ρ o K):∃c,(∀H2,yO keep H H2->fE P o ρ H2 c H2)/\K c H:=by
 unfold F5 at h;split at h
 ·rename_i t x ho;split at h
  ·rename_i cells hx;obtain⟨c,h1,h2⟩:=E5 h;refine⟨c,λH2 _=>.same <|.load t x ho ?_,h2⟩;rw[hx,<-h1]
   rfl
  ·rename_i id hops sz i k hx;obtain⟨h0,h⟩:=zX h;obtain⟨c,h1,h2⟩:=E5 h;refine⟨c,λH2 hs=>.same <|.load t x ho ?_,h2⟩;rw[hx,<-h1];exact Uu (hs id h0)
  ·exact c6
 ·rename_i cl ho;split at h
  ·rename_i x hcl;split at h
   ·rename_i f first caps hf;obtain⟨h1,r,h2,h3⟩:=zX h;exact⟨r,λH2 _=>.JD cl ho x hcl hf h1 (h2 H2),jr (k:=λc=>K c H) h3⟩
   ·exact c6
  ·exact c6
 ·rename_i t x y ho;split at h
  ·rename_i k n k' n' hx hy;split at h
   ·rename_i e hu;split at h
    ·rename_i i hi;split at h
     ·rename_i cs hz;obtain⟨h1,rfl,h2,h3,h4,h5⟩:=zX h;exact⟨_,λH2 _=>.same <|.Uw t x y ho hu hi hz h1 hx hy h2 h3 h4,qx (k:=λsz=>K (.fp 0 sz (List.replicate n'.toNat cs)) H) h5⟩
     ·exact c6
    ·exact c6
   ·exact c6
  ·exact c6
 ·exact c6
def JZ(P:Program)(T:l7)(ops:Array Oper)(o:Oper)(next:Nat->List C->zl->(List C->zl->Prop)->Prop)(k:Nat)(t:List C)(H:zl)(K:List C->zl->Prop):Prop:=
 match jO ops t o with
 |some true=>match T.blind k with
  |true=>F5 P T.keep H (ev t) o λc H'=>nn t o.dst c λt=>next (k+1) t H K
  |false=>match Eb (T.DP k) o with
   |true=>nY P H (ev t) o λc H'=>Ek H H' (nn t o.dst c λt=>next (k+1) t H' K) T.keep
   |false=>match xF o || Em o with
    |true=>nY P H (ev t) o λc H'=>nn t o.dst c λt=>next (k+1) t H' K
    |false=>nY P H (ev t) o λc H'=>H'=H/\nn t o.dst c λt=>next (k+1) t H K
 |some false=>nn t o.dst .un λt=>next (k+1) t H K
 |none=>False
def nk(P:Program)(T:l7)(ops:Array Oper)(l:List Oper):Nat->List C->zl->(List C->zl->Prop)->Prop:=
 List.rec (motive:=λ_=>Nat->List C->zl->(List C->zl->Prop)->Prop) (λ_ t H K=>K t H) (λo _ next=>JZ P T ops o next) l
theorem VO(T:l7)(o:Oper)(l:List Oper)(k:Nat)(t:List C)(H:zl)(K:List C->zl->Prop):nk P T ops (o::l) k t H K=JZ P T ops o (nk P T ops l) k t H K:=rfl
def Me(T:l7)(k:Nat):yz T ops (k+1)=yz T ops k+if wY T ops k then 1 else 0:=by
 unfold yz;rw[fk,List.filter_append,gK];cases h:wY T ops k <;> simp[h]
def Io{T:l7}{D:zl}:∀{l:List Oper} {k:Nat} {t:List C} {H:zl} {K:List C->zl->Prop},(∀j,l[j]?=ops[k+j]?)->yO T.keep H D->nk P T ops l k t H K->
  ∃(L:List zl) (t':List C),K t' ((H::L).getLast aj)/\(∀X∈L,yO T.keep H X)/\∀past:List zl,past.length=yz T ops k->(∀X∈past,yO T.keep H X)->
   AM P ops (λi=>((past++H::L)[i]?).getD D) (wY T ops) (yz T ops) (mN T ops) (λt n=>t=t'/\n=yz T ops k+L.length) l k t (yz T ops k)
 |[],k,t,H,K,hl,hD,h=>⟨[],t,h,aj,λpast hp _=>⟨rfl,rfl⟩⟩
 |o::l,k,t,H,K,hl,hD,h=>by
  have h0:ops[k]?=some o:=by simpa using (hl 0).symm
  have hl':∀j,l[j]?=ops[k+1+j]?:=λj=>by have:=hl (j+1);simpa [r8,fe 1 j] using this
  have he:wY T ops k=(Eb (T.DP k) o && !T.blind k):=by unfold wY;rw[h0]
  have hin:∀m,mN T ops k m=((xF o || T.blind k) || m == yz T ops k):=λm=>by unfold mN;rw[h0]
  have all:∀(past L:List zl),(∀X∈past,yO T.keep H X)->(∀X∈L,yO T.keep H X)->∀m:Nat,yO T.keep H (((past++H::L)[m]?).getD D):=λpast L hp hL m=>by
   cases hx:(past++H::L)[m]? with
   |none=>exact hD
   |some X=>
    have:=gA hx;rcases gT.1 this with h1|h1
    ·exact hp X h1
    ·rcases rk.1 h1 with rfl|h1
     ·exact .refl _ _
     ·exact hL X h1
  have quiet:∀c,wY T ops k=false->(∀past L,past.length=yz T ops k->(∀X∈past,yO T.keep H X)->(∀X∈L,yO T.keep H X)->QA P ops (λi=>((past++H::L)[i]?).getD D) (mN T ops k) o c t)->nk P T ops l (k+1) (put t o.dst c) H K->
    ∃(L:List zl) (t':List C),K t' ((H::L).getLast aj)/\(∀X∈L,yO T.keep H X)/\∀past:List zl,past.length=yz T ops k->(∀X∈past,yO T.keep H X)->
     AM P ops (λi=>((past++H::L)[i]?).getD D) (wY T ops) (yz T ops) (mN T ops) (λt n=>t=t'/\n=yz T ops k+L.length) (o::l) k t (yz T ops k):=λc ht hq hK=>by
   obtain⟨L,t',h1,hL,h2⟩:=Io hl' hD hK;have hc:yz T ops (k+1)=yz T ops k:=by rw[Me,ht];rfl
   rw[hc]at h2;refine⟨L,t',h1,hL,λpast hp hs=>?_⟩;unfold AM mR;rw[h0];exact⟨c,_,.inl ⟨ht,by rw[hin];simp,hq past L hp hs hL,rfl⟩,h2 past hp hs⟩
  have ma:∀c H',wY T ops k=true->EA P ops H H' o c t->yO T.keep H H'->nk P T ops l (k+1) (put t o.dst c) H' K->
    ∃(L:List zl) (t':List C),K t' ((H::L).getLast aj)/\(∀X∈L,yO T.keep H X)/\∀past:List zl,past.length=yz T ops k->(∀X∈past,yO T.keep H X)->
     AM P ops (λi=>((past++H::L)[i]?).getD D) (wY T ops) (yz T ops) (mN T ops) (λt n=>t=t'/\n=yz T ops k+L.length) (o::l) k t (yz T ops k):=λc H' ht hq hsm hK=>by
   have back:yO T.keep H' H:=λid hi=>(hsm id hi).symm
   obtain⟨L,t',h1,hL,h2⟩:=Io hl' (back.trans hD) hK;have hc:yz T ops (k+1)=yz T ops k+1:=by rw[Me,ht];rfl
   rw[hc]at h2;refine⟨H'::L,t',aq h1,λX hX=>?_,λpast hp hs=>?_⟩
   ·rcases rk.1 hX with rfl|hX
    ·exact hsm
    ·exact hsm.trans (hL X hX)
   have h3:=h2 (past++[H]) (by simp[hp]) (λX hX=>by
    rcases gT.1 hX with h|h
    ·exact back.trans (hs X h)
    ·rw[gS.1 h];exact back)
   unfold AM mR;rw[h0];refine⟨c,yz T ops k+1,.inr ⟨ht,rfl,?_,rfl⟩,?_⟩
   ·have e1:((past++H::H'::L)[yz T ops k]?).getD D=H:=by rw[<-hp];simp
    have e2:((past++H::H'::L)[yz T ops k+1]?).getD D=H':=by rw[<-hp,gO aw];simp
    dsimp only;rw[e1,e2];exact hq
   ·simpa [pG,r8,fe 1] using h3
  have same:∀(past L:List zl),past.length=yz T ops k->((past++H::L)[yz T ops k]?).getD D=H:=λpast L hp=>by rw[<-hp];simp
  rw[VO]at h;unfold JZ at h;split at h
  ·rename_i hw;cases hbl:T.blind k with
   |true=>
    rw[hbl]at h;obtain⟨c,h1,h2⟩:=K2 h;exact quiet c (by rw[he,hbl];simp) (λpast L _ hs hL=>.inl ⟨hw,λm _=>h1 _ (all past L hs hL m)⟩) (jB (k:=λt=>nk P T ops l (k+1) t H K) h2)
   |false=>
   rw[hbl]at h;simp only at h;have he2:wY T ops k=Eb (T.DP k) o:=by rw[he,hbl];simp
   cases ht:Eb (T.DP k) o with
   |true=>
    rw[ht]at h;obtain⟨c,H',h1,h2⟩:=HC h;obtain⟨h3,h4⟩:=E9 h2;exact ma c H' (he2.trans ht) (.inl ⟨hw,h1⟩) h3 (jB (k:=λt=>nk P T ops l (k+1) t H' K) h4)
   |false=>
    rw[ht]at h;simp only at h;cases hb:xF o with
    |true=>
     rw[hb,fg]at h;obtain⟨c,h1,h2⟩:=Lw hb h;exact quiet c (he2.trans ht) (λpast L _ _ _=>.inl ⟨hw,λm _=>h1 _⟩) (jB (k:=λt=>nk P T ops l (k+1) t H K) h2)
    |false=>
     rw[hb,rZ]at h
     have only:∀c,fE P o (ev t) H c H->∀past L,past.length=yz T ops k->(∀X∈past,yO T.keep H X)->(∀X∈L,yO T.keep H X)->QA P ops (λi=>((past++H::L)[i]?).getD D) (mN T ops k) o c t:=λc h1 past L hp _ _=>.inl ⟨hw,λm hm=>by
      rw[hin,hb,hbl,rZ,rZ,pH]at hm;subst hm;dsimp only;rw[same past L hp];exact h1⟩
     cases hlo:Em o with
     |true=>
      rw[hlo]at h;obtain⟨c,h1,h2⟩:=Mh hlo h;exact quiet c (he2.trans ht) (only c h1) (jB (k:=λt=>nk P T ops l (k+1) t H K) h2)
     |false=>
      rw[hlo]at h;obtain⟨c,H',h1,rfl,h2⟩:=HC h;exact quiet c (he2.trans ht) (only c h1) (jB (k:=λt=>nk P T ops l (k+1) t _ K) h2)
  ·rename_i hw;have hK:=jB (k:=λt=>nk P T ops l (k+1) t H K) h;cases ht:wY T ops k with
   |true=>exact ma .un H ht (.inr ⟨hw,rfl,rfl⟩) (.refl _ _) hK
   |false=>exact quiet .un ht (λpast L _ _ _=>.inr ⟨hw,rfl⟩) hK
  ·exact c6
def Run.zxz{id:Nat}{T:l7}{t:List C}{H:zl}{K:List C->zl->Prop}(hm:P.follows .mixedOrders=true)(hB:Region.lexB .any ops=true)(hT:CV .any T ops=true)(h:nk P T ops ops.toList 0 t H K):
  ∃s',Run P B (.region id ops true) ⟨t,H⟩ .normal s'/\K s'.tmps s'.H:=by
 obtain⟨L,t',h1,_,h2⟩:=Io (k:=0) (D:=H) aj (.refl _ _) h;have h3:=h2 [] rfl aj;have hE:Bw .any ops (wY T ops)=true:=by simp only[CV,Ju,gH]at hT;exact hT.1
 have:=Run.zxy (B:=B) (id:=id) (Hs:=λi=>((H::L)[i]?).getD H) (eff:=wY T ops) (idx:=yz T ops) (inR:=mN T ops) (n':=L.length) (t':=t') hm hB hE (λi j=>UF hT i j) rfl (by simpa [yz] using h3);refine⟨_,this,?_⟩
 have e:((H::L)[L.length]?).getD H=(H::L).getLast aj:=by
  rw[List.getLast_eq_getElem];simp
 dsimp only;rw[e];exact h1
end
def CF:C->Bool
 |.agg cs=>cs.all ju
 |c=>ju c
def qY(H:zl):Bool:=H.all λob=>match ob.kind with
 |1=>ob.rows.all λr=>r.all zy
 |4=>ob.fz == 0 || (match ob.rows with|[.rc _::t]=>t.all CF|_=>false)
 |_=>true
def ES{H:zl}{id:Nat}{ty:TypeId}{sz fz:Nat}{r r':List C}(hob:H[id]?=some ⟨1,ty,sz,[r],fz⟩)(hno:r.all zy=true)(hno':r'.all zy=true){id':Nat}{p:List fZ}{x:Nat×List (List C)}
 (h:qb (H.set id ⟨1,ty,sz,[r'],fz⟩) id' p=some x):(id'≠id/\qb H id' p=some x)\/(id'=id/\p=[]/\x=(sz,[r'])/\qb H id []=some (sz,[r])):=by
 obtain⟨ob,ho,hk,hg⟩:=jn h;by_cases hi:id'=id
 ·subst hi
  right
  rw[gM,gC rfl,gC (gm.1 hob).1]at ho;cases ho
  obtain⟨rfl,rfl⟩:=wt (λi k c hc=>by
   obtain⟨rfl,hc⟩:=yY.1 hc;exact gI.1 hno' c (gA hc)) hg
  exact⟨rfl,rfl,rfl,by unfold qb;rw[hob];simp[ja]⟩
 ·left
  refine⟨hi,?_⟩;rw[gM,gu (Ne.symm hi)]at ho;unfold qb;rw[ho];simp only[hk,if_true];exact hg
def qg.D7{w:World}{E:Env}{H:zl}(h:qg w E H){id:Nat}{ty:TypeId}{sz fz:Nat}{r r':List C}(hob:H[id]?=some ⟨1,ty,sz,[r],fz⟩)(hlen:r'.length=r.length)(hno:r.all zy=true)(hno':r'.all zy=true)
 (hc:∀(k:Nat) c c' u,r[k]?=some c->r'[k]?=some c'->L E c u->w.cell? ⟨E.β id [],k,none⟩=some u->L E c' u):qg w E (H.set id ⟨1,ty,sz,[r'],fz⟩) where
 n:=aq h.n
 fJ id' ob p sz' rows' hob' hx:=by
  rcases ES hob hno hno' hx with⟨h1,h2⟩|⟨rfl,rfl,h1,h2⟩
  ·rw[gM,gu (Ne.symm h1)]at hob';exact h.fJ id' ob p sz' rows' hob' h2
  ·rw[gM,gC rfl,gC (gm.1 hob).1]at hob';cases hob'
   cases h1
   have hb:=h.fJ _ _ _ _ _ hob h2;refine⟨hb.len,λq hq=>?_,?_⟩
   ·rw[gS.1 hq,hlen];exact hb.row r (gS.2 rfl)
   ·obtain⟨cur,e,h3,h4,h5⟩:=hb.fJ;refine⟨cur,e,h3,h4,?_⟩;intro i k c' hc';obtain⟨rfl,hc'⟩:=yY.1 hc';have hk:k<r.length:=by rw[<-hlen];exact(gm.1 hc').1
    have hk':r[k]?=some r[k]:=by simp[hk]
    obtain⟨u,hu,ho⟩:=h5 0 k r[k] (yY.2 ⟨rfl,hk'⟩);refine⟨u,hu,?_⟩;rw[jb.loose (gI.1 hno _ (gA hk'))]at ho;rw[jb.loose (gI.1 hno' c' (gA hc'))];refine⟨?_,ho.2⟩;have h6:L E r[k] u:=aF
    have h7:L E c' u:=hc k _ _ u hk' hc' h6 (by
     unfold World.cell?;rw[h3];simpa using hu)
    simpa [Env.at] using h7
 inj i p j q x y hx hy he:=by
  have key:∀i p x,qb (H.set id ⟨1,ty,sz,[r'],fz⟩) i p=some x->∃x',qb H i p=some x':=λi p x hx=>by
   rcases ES hob hno hno' hx with⟨h1,h2⟩|⟨rfl,rfl,h1,h2⟩
   ·exact⟨x,h2⟩
   ·exact⟨_,h2⟩
  obtain⟨x',hx'⟩:=key i p x hx;obtain⟨y',hy'⟩:=key j q y hy;exact h.inj i p j q x' y' hx' hy' he
 qy:=h.qy
 sep i p x o u hx hu:=by
  rcases ES hob hno hno' hx with⟨h1,h2⟩|⟨rfl,rfl,h1,h2⟩
  ·obtain⟨e1,ob,e2,e3⟩:=h.sep i p x o u h2 hu;exact⟨e1,ob,by rw[gM,gu (Ne.symm h1)];exact e2,e3⟩
  ·obtain⟨e1,ob,e2,e3⟩:=h.sep _ [] _ o u h2 hu;rw[hob]at e2;cases e2
   exact⟨rfl,⟨1,ty,sz,[r'],fz⟩,by rw[gM,gC rfl,gC (gm.1 hob).1],e3⟩
 ty i ob ho hk:=by
  rw[gM]at ho;split at ho
  ·split at ho
   ·cases ho;cases hk
   ·cases ho
  ·exact h.ty i ob ho hk
 fz i ob ho:=by
  rw[gM]at ho;split at ho
  ·split at ho
   ·cases ho;have:=h.fz id _ hob;exact dM
   ·cases ho
  ·exact h.fz i ob ho
def jM.Po{H:zl}{id:Nat}{ob ob':Ob}(hob:H[id]?=some ob)(h1:ob.kind≠4)(h2:ob'.kind≠4):jM H (H.set id ob'):=λi o h4=>by
 rw[gM];split
 ·rename_i e;subst e;rw[gC (gm.1 hob).1,hob];constructor
  ·intro e;cases e;exact absurd h4 h2
  ·intro e;cases e;exact absurd h4 h1
 ·exact Iff.rfl
def qB.D7{w:World}{E:Env}{H:zl}(h:qB w E H){id:Nat}{ty:TypeId}{sz fz:Nat}{r r':List C}(hob:H[id]?=some ⟨1,ty,sz,[r],fz⟩)(hlen:r'.length=r.length)(hno:r.all zy=true)(hno':r'.all zy=true)
 (hc:∀(k:Nat) c c' u,r[k]?=some c->r'[k]?=some c'->L E c u->w.cell? ⟨E.β id [],k,none⟩=some u->L E c' u):qB w E (H.set id ⟨1,ty,sz,[r'],fz⟩)/\Grow w E H w E (H.set id ⟨1,ty,sz,[r'],fz⟩):=by
 have hR:=h.base.D7 hob hlen hno hno' hc
 have hG:qI w E H w E (H.set id ⟨1,ty,sz,[r'],fz⟩):=⟨Env.le.refl E,λ_ _ _=>rfl,rfl,rfl,rfl,gJ _,λ_ _ _=>rfl,λ_ _ _ h=>.inl h,λb ⟨i,p,x,hx,he⟩=>by
  rcases ES hob hno hno' hx with⟨h1,h2⟩|⟨rfl,rfl,h1,h2⟩
  ·exact .inr ⟨i,p,x,h2,he⟩
  ·exact .inr ⟨_,[],_,h2,he⟩⟩
 have hk:=jM.Po (ob':=⟨1,ty,sz,[r'],fz⟩) hob (λe=>by cases e) (λe=>by cases e);exact⟨⟨hR,mV.step h hG hk⟩,hG.up h hk⟩
section
variable {B:Nat} {s:S}
def zp.var(id:Nat){ty:TypeId}{sz fz:Nat}{r r':List C}(hob:s.H[id]?=some ⟨1,ty,sz,[r],fz⟩)(hno:r.all zy=true)(hno':r'.all zy=true)(hw:iU r r'):zp B s ⟨s.tmps,s.H.set id ⟨1,ty,sz,[r'],fz⟩⟩:=λm w E a hs=>by
 have hlen:∀{a b:List C},iU a b->b.length=a.length:=by
  intro a b h
  induction h with
  |nil=>rfl
  |cons _ _ ih=>simp[ih]
 have hget:∀{a b:List C},iU a b->∀(k:Nat) c c',a[k]?=some c->b[k]?=some c'->WC c c':=by
  intro a b h
  induction h with
  |nil=>intro k c c' h;simp at h
  |cons h1 _ ih=>
   intro k c c' e1 e2;cases k with
   |zero=>simp at e1 e2;subst e1 e2;exact h1
   |succ k=>exact ih k c c' (aq e1) uZ
 obtain⟨hR,g⟩:=hs.heap.D7 hob (hlen hw) hno hno' λk c c' u e1 e2 hl _=>hget hw k c c' e1 e2 E u hl
 exact⟨E,⟨hR,hs.tmps,hs.defers,aq hs.base⟩,g.iM tG⟩
def zp.Ac(id k:Nat)(ty':TypeId)(sz':Nat){ty:TypeId}{sz fz sz0:Nat}{r:List C}{rows:List (List C)}(hob:s.H[id]?=some ⟨1,ty,sz,[r],fz⟩)(hk:r[k]?=some (.fp 1 sz0 rows))(hz:rows=[]\/sz'=sz0)(hno:r.all zy=true)
 (hno':(r.set k (.gl s.H.length sz' rows)).all zy=true):
  zp B s ⟨s.tmps,s.H.set id ⟨1,ty,sz,[r.set k (.gl s.H.length sz' rows)],fz⟩++[⟨4,ty',sz',rows,0⟩]⟩:=λm w E a hs=>by
 have hgb:qb s.H id []=some (sz,[r]):=by unfold qb;rw[hob];simp[ja]
 have hb:=hs.heap.base.fJ _ _ _ _ _ hob hgb;obtain⟨cur,e,h3,h4,h5⟩:=hb.fJ;obtain⟨u,hu,ho⟩:=h5 0 k _ (yY.2 ⟨rfl,hk⟩);rw[jb.loose rfl]at ho;have hl:L E (.fp 1 sz0 rows) u:=aF
 obtain⟨E1,hh1,hl1,g1⟩:=hs.heap.Fj hl ty' hz;have ft:id<s.H.length:=(gm.1 hob).1;have hob1:(s.H++[⟨4,ty',sz',rows,0⟩])[id]?=some ⟨1,ty,sz,[r],fz⟩:=by rw[gG ft];exact hob
 have hβ:E1.β id []=E.β id []:=g1.le.β id [] (by rw[hs.heap.n];exact ft)
 have hcu:w.cell? ⟨E1.β id [],k,none⟩=some u:=by
  unfold World.cell?;rw[hβ,h3];simpa using hu
 obtain⟨hR,g2⟩:=hh1.D7 hob1 (r':=r.set k (.gl s.H.length sz' rows)) aj hno hno' λj c c' v e1 e2 hl' hv=>by
  rw[gM]at e2;split at e2
  ·rename_i e;subst e;rw[hcu]at hv;cases hv
   split at e2
   ·cases e2;exact hl1
   ·cases e2
  ·rw[e1]at e2;cases e2
   exact hl'
 rw[eG _ _ ft]at hR g2;exact du
end
def HQ(w:World)(o:Obj){k:Nat}(h:k<w.heap.size):(w.alloc o).heap[k]?=w.heap[k]?:=by
 show(w.heap.push o)[k]?=_;rw[Array.getElem?_push,gu aw]
def UQ{P:Program}{g:Operand}{ps:Array Tmp}{assign body:Code}{B m:Nat}{H:zl}{t:List C}{f:FuncId}{caps:List C}{w:World}{E:Env}{a:Act}{Q:Exit->Act->World->Prop}
 (hs:xU B m w E ⟨t,H⟩ a)(hg:ev t g=.fn f [] caps)(hcb:qm P f=true)
 (hit:∀(l:Nat) (r:Loop),r.state=.ready->r.pending=none->r.params=ps->r.assign=assign->r.body=body->
   ∃(rr:C) (Hf:zl) (rf:Loop),zb P f (H++[iD l r t]) (.v (.func (.yield l) #[] #[])::caps) rr Hf/\Hf[H.length]?=some (iD l rf t)/\rf.state≠.busy/\rf.tmps=r.tmps/\B<=Hf.length/\
   ∀w' E' a',xU B m w' E' ⟨t,Hf.set H.length (iD l { rf with state:=.exhausted } t)⟩ a'->jK B w E H w' E' (Hf.set H.length (iD l { rf with state:=.exhausted } t))->
    match rf.pending with|none=>Q .normal a' w'|some c=>c.wpIn (fw none) 0 P Q a' w'):
  (Code.rangeFunc g ps assign body).wpIn (fw none) 0 P Q a w:=by
 have hm:=hs.defers.le;refine wpIn_rangeFunc ?_;intro fn _;obtain⟨r,hr⟩:∃r:Loop,r={ state:=.ready,pending:=none,fn,tmps:=a.tmps,params:=ps,assign,body,defers:=w.heap.size }:=⟨_,rfl⟩;obtain⟨W1,hW1⟩:∃W1,W1=(w.alloc (.deferred (some []))).alloc (.loop r):=⟨_,rfl⟩
 have hL1:W1.heap[w.heap.size+1]?=some (.loop r):=by
  rw[hW1];have:=World.alloc_heap_new (w.alloc (.deferred (some []))) (.loop r);rwa [World.size_alloc]at this
 have hK1:W1.heap[w.heap.size]?=some (.deferred (some [])):=by
  rw[hW1];exact(HQ _ _ aj).trans (World.alloc_heap_new w _)
 have hsame:∀k,k<w.heap.size->W1.heap[k]?=w.heap[k]?:=λk hk=>by
  rw[hW1];exact(HQ _ _ aA).trans (HQ _ _ hk)
 have hsz:W1.heap.size=w.heap.size+2:=by rw[hW1];simp
 have hv:=Eu hs.tmps g;rw[hg]at hv
 obtain⟨zs,hσ,hzs⟩:∃zs,a.eval g=.func (.func f) #[] zs/\LL E caps zs.toList:=by
  generalize a.eval g=u at *;cases hv with
  |fn f first caps ys zs h1 h2 h3 h4=>
   have:ys= #[]:=aq h1.symm
   subst this;exact⟨zs,rfl,aq h2,λi c y e1 e2=>h4 i c y e1 uZ⟩
 obtain⟨E1,hR1,G1⟩:=hs.heap.X4 (w:=W1) (l:=w.heap.size+1) (r:=r) (t:=t) hsame (by rw[hW1];rfl) (by rw[hW1];rfl) (by rw[hW1];rfl) aw hL1 aw (by rw[hr];exact hs.tmps);obtain⟨rr,Hf,rf,hS,hHf,hbusy,htm,hB,hQ⟩:=hit (w.heap.size+1) r (by rw[hr]) (by rw[hr]) (by rw[hr]) (by rw[hr]) (by rw[hr])
 have eg:∀(args:Array Value),(callFunc f args).run P W1=.ok (.enter f args) W1:=by
  intro args;unfold qm at hcb;split at hcb
  rotate_left
  ·cases hcb
  rename_i fn hfn;simp only[gH,pO]at hcb;have hname : fn.name ≠ "runtime.NumGoroutine" := by simpa using hcb.1
  have hbody:fn.body≠none:=bD
  simp[callFunc,hfn,hname,hbody]
 refine⟨w.heap.size+1,[BF w.heap.size],W1,{ target:=.fn (.func f) zs,args:= #[.func (.yield (w.heap.size+1)) #[] #[]] },W1,f, #[.func (.yield (w.heap.size+1)) #[] #[]]++zs,W1,?_,?_,λ_ _=>trivial,?_,λh=>aR,?_⟩
 ·rw[hW1,hr];exact run_enterLoop_outer _ _ _ _ _
 ·simp only[resolve,hσ];simp[go_sem]
 ·simp[invoke,go_sem,eg]
 ·refine(callsIn_wide (n:=0)).2 ((hS W1 E1 _ hR1 ?_).mono ?_)
  ·have:=(LL.one (.v _ rfl:L E1 (.v (.func (.yield (w.heap.size+1)) #[] #[])) (.func (.yield (w.heap.size+1)) #[] #[]))).append (hzs.mono G1.le);simpa using this
  ·rintro e w3 ⟨v,E3,rfl,hR3,_,G3⟩;obtain⟨⟨hL3,_⟩,ht3⟩:=hR3.fy.iL H.length _ (.loop rf) t hHf rfl ⟨rfl,rfl⟩;obtain⟨hR4,G4⟩:=hR3.F1 (r':={ rf with state:=.exhausted }) hHf rfl;have hend:=run_endLoop (P:=P) hL3 hbusy;have G:=(G1.trans G3).trans G4;have hn:B<=E.n:=by rw[hs.heap.n];exact hs.base
   have hD:(w3.putObj (w.heap.size+1) (.loop { rf with state:=.exhausted })).heap[w.heap.size]?=some (.deferred (some [])):=by
    rw[World.putObj_heap_other aw];exact(G3.frame _ aw (hR1.free hK1)).trans hK1
   have h4:xU B m (w3.putObj (w.heap.size+1) (.loop { rf with state:=.exhausted })) E3 ⟨t,Hf.set H.length (iD (w.heap.size+1) { rf with state:=.exhausted } t)⟩ { a with defers:=[BF w.heap.size]++a.defers }:=by
    refine⟨hR4,hs.tmps.mono G.le,⟨⟨w.heap.size,rfl,hm,hD,?_⟩,hs.defers.grow hs.heap G⟩,aq hB⟩;intro hmem
    have key:∀{ds:List Deferred},Marks m w ds->BF w.heap.size∉ds:=by
     intro ds
     induction ds with
     |nil=>intro _ h;cases h
     |cons d ds ih=>
      rintro⟨⟨D,h1,_,h3,_⟩,ht⟩ h;rcases rk.1 h with h5|h5
      ·rw[h1]at h5;have:w.heap.size=D:=by simpa [BF] using h5
       have:=(gP.1 h3).1;omega
      ·exact ih ht h5
    exact key hs.defers hmem
   have:=hQ _ _ _ h4 (G.iM hn);refine⟨rf.pending,_,hend,?_⟩;exact dM
def Pk:Option Code->Exit->Prop
 |none,.normal=>True
 |some .ret,.ret=>True
 |some (.exit i),.exit j=>i=j
 |_,_=>False
def qX.rangeFunc{P:Program}{g:Operand}{ps:Array Tmp}{assign body:Code}{B:Nat}{H:zl}{t:List C}{f:FuncId}{caps:List C}{R:Exit->S->Prop}(hg:ev t g=.fn f [] caps)(hcb:qm P f=true)
 (hit:∀(l:Nat) (r:Loop),r.state=.ready->r.pending=none->r.params=ps->r.assign=assign->r.body=body->
   ∃(rr:C) (Hf:zl) (rf:Loop) (ex:Exit) (s':S),zb P f (H++[iD l r t]) (.v (.func (.yield l) #[] #[])::caps) rr Hf/\Hf[H.length]?=some (iD l rf t)/\rf.state≠.busy/\rf.tmps=r.tmps/\B<=Hf.length/\Pk rf.pending ex/\
    zp B ⟨t,Hf.set H.length (iD l { rf with state:=.exhausted } t)⟩ s'/\R ex s'):qX P B (.rangeFunc g ps assign body) ⟨t,H⟩ R:=λq m w E a Q hr hs hq=>by
 obtain rfl:=hr rfl;refine UQ hs hg hcb λl r h1 h2 h3 h4 h5=>?_
 obtain⟨rr,Hf,rf,ex,s',a1,a2,a3,a4,a5,a6,a7,a8⟩:=hit l r h1 h2 h3 h4 h5;refine⟨rr,Hf,rf,a1,a2,a3,a4,a5,λw' E' a' hs' g'=>?_⟩;obtain⟨E2,hs2,g2⟩:=a7 m w' E' a' hs';have hq':=hq ex s' w' E2 a' a8 hs2 (g'.trans g2);generalize rf.pending=pe at a6
 match pe,ex,a6 with
 |none,.normal,_=>exact hq'
 |some .ret,.ret,_=>exact wpIn_ret hq'
 |some (.exit i),.exit j,h=>cases h;exact wpIn_exit hq'
def NK(o:Oper):Option TypeId:=match o.op with
 |.makeMap t r=>match r with
  |none=>some t
  |some _=>none
 |_=>none
def Ys(P:Program)(t:TypeId):Bool:=match P.underlying t with
 |some (.map _ e)=>match P.underlying e with
  |some (.int _)=>false
  |some .bool=>false
  |some .string=>false
  |_=>true
 |_=>false
noncomputable def hasC(H:zl):Bool:=List.rec (motive:=λ_=>Bool) false (λob _ next=>match ob with
 |⟨kind,_,sz,_,fz⟩=>match kind with
  |4=>match sz with
   |2=>match fz with
    |1=>true
    |_=>next
   |_=>next
  |_=>next) H
noncomputable def mapRel(H:zl)(ρ:Operand->C)(o:Oper):Bool:=match o.op with
 |.range _ _=>true
 |.next _ _=>true
 |.entry _=>true
 |.insert _ _ _ _=>true
 |.mapUpdate _ _ _ _=>hasC H
 |.call cl=>match cl.callee with
  |.builtin b=>match b with
   |.delete=>true
   |.append=>match cl.args.toList with
    |x::_=>match ρ x with
     |.gl _ _ _=>hasC H
     |.fp _ sz _=>match sz with
      |99=>true
      |_=>false
     |_=>false
    |[]=>false
   |_=>false
  |_=>false
 |_=>false
def zyi(P:Program)(t:TypeId):Bool:=
 match P.underlying t with
 |some (.pointer _)=>true
 |some (.map _ _)=>true
 |some (.tuple es)=>match es.toList with
  |u::_=>match P.underlying u with
   |some (.pointer _)=>true
   |_=>false
  |[]=>false
 |_=>false
def Pm(P:Program)(ρ:Operand->C)(o:Oper):Option (FuncId×List C):=
 match o.op with
 |.call cl=>match cl.callee with
  |.value x=>match ρ x with
   |.fn f first caps=>match qm P f with
    |true=>some (f,first++(cl.args.toList.map λx=>ix (ρ x))++caps)
    |false=>none
   |_=>none
  |_=>none
 |_=>none
def JI(P:Program)(ρ:Operand->C)(o:Oper):Option (FuncId×List C):=
 match zyi P o.type with
 |true=>Pm P ρ o
 |false=>none
def jN.call{P:Program}{H:zl}{ρ:Operand->C}{o:Oper}{f:FuncId}{args:List C}{R:C->zl->Prop}(h:JI P ρ o=some (f,args))(hs:qs P f H args R):jN P o ρ H R:=λw E σ hh hl _ K hk=>by
 unfold JI at h;split at h
 rotate_left
 ·cases h
 unfold Pm at h;split at h
 rotate_left
 ·cases h
 rename_i cl ho;split at h
 rotate_left
 ·cases h
 rename_i x hcl;split at h
 rotate_left
 ·cases h
 rename_i f' first caps hf;split at h
 rotate_left
 ·cases h
 rename_i hcb;cases h
 have hl:∀x∈o.op.operands,L E (Ab.ix (ρ x)) (σ x):=λx hx=>AH (hl x hx)
 have h0:=hl x bC;rw[hf]at h0;have h0:L E (.fn f first caps) (σ x):=h0
 obtain⟨ys,zs,hv,h1,h2,h3,h4⟩:∃ys zs,σ x=.func (.func f) ys zs/\first.length=ys.size/\caps.length=zs.size/\(∀(i:Nat) c y,first[i]?=some c->ys[i]?=some y->L E c y)/\(∀(i:Nat) c y,caps[i]?=some c->zs[i]?=some y->L E c y):=by
  generalize σ x=u at *;cases h0 with
  |fn f first caps ys zs h1 h2 h3 h4=>exact⟨ys,zs,rfl,h1,h2,h3,h4⟩
 unfold qm at hcb;split at hcb
 rotate_left
 ·cases hcb
 rename_i fn hfn;simp only[gH,pO]at hcb;have hname : fn.name ≠ "runtime.NumGoroutine" := by simpa using hcb.1
 have hbody:fn.body≠none:=bD
 have hr:(execOp σ o).run P w=.ok (.enter f (ys++cl.args.map σ++zs)) w:=by
  unfold execOp;simp[ho,resolve,hcl,hv,Deferred.ofValue,invoke,callFunc,hfn,hname,hbody]
 rw[hr];refine(hs w E (ys++cl.args.map σ++zs) hh ?_).mono ?_
 ·have e1:LL E first ys.toList:=⟨aq h1,λi c y e1 e2=>h3 i c y e1 uZ⟩;have e2:LL E caps zs.toList:=⟨aq h2,λi c y e1 e2=>h4 i c y e1 uZ⟩
  have e3:LL E (cl.args.toList.map λx=>Ab.ix (ρ x)) (cl.args.map σ).toList:=by
   refine⟨aj,?_⟩;intro i c y hc hy;rw[gz]at hc;rw[ez,gz]at hy;cases ha:cl.args.toList[i]? with
   |none=>rw[ha]at hc;cases hc
   |some a=>
    rw[ha]at hc hy;cases hc
    cases hy
    exact dT
  have:=(e1.append e3).append e2;simpa using this
 ·rintro e w' ⟨c,H',v,E',hR,rfl,h5,h6,h7⟩;exact⟨v,rfl,hk c H' v w' E' hR h5 h6 h7⟩
def J4(o:Oper):Option (BinOp×TypeId×Operand):=
 match o.op with
 |.binOp op t x y _=>match y with
  |.const v=>match v with
   |.nilFunc=>some (op,t,x)
   |_=>none
  |_=>none
 |_=>none
def Jt(x:C):Option Bool:=
 match x with
 |.fn ..=>some false
 |.v y=>match y with
  |.nilFunc=>some true
  |_=>none
 |_=>none
def KY{x:C}{b:Bool}(h:Jt x=some b):∀E u,L E x u->(b=true/\u=.nilFunc)\/(b=false/\∃f ys zs,u=.func f ys zs):=by
 intro E u hl;unfold Jt at h;split at h
 ·cases h;cases hl;exact .inr ⟨rfl,_,_,_,rfl⟩
 ·split at h
  ·cases h;cases hl;exact .inl ⟨rfl,rfl⟩
  ·cases h
 ·cases h
def Cd(P:Program)(t:TypeId):Bool:=
 match P.underlying t with
 |some (.func ..)=>true
 |_=>false
def GY(P:Program)(H:zl)(op:BinOp)(t:TypeId)(x:C)(K:C->zl->Prop):Prop:=
 match Jt x with
 |some b=>match op with
  |.eql=>bK (Cd P t) <|K (.v (.bool b)) H
  |.neq=>bK (Cd P t) <|K (.v (.bool (!b))) H
  |_=>False
 |none=>False
def Rt{P:Program}(w:World)(d:Nat)(t:TypeId)(ht:Cd P t=true)(y:Value)(n:Bool)(hy:(n=true/\y=.nilFunc)\/(n=false/\∃f xs ys,y=.func f xs ys)):(Op.equalIn (d+1) t y .nilFunc).run P w=.ok n w:=by
 unfold Cd at ht;split at ht
 rotate_left
 ·cases ht
 rename_i a b c hu;rcases hy with⟨rfl,rfl⟩|⟨rfl,f,xs,ys,rfl⟩ <;> simp[Op.equalIn,run_underlying hu]
def TR{P:Program}(w:World)(t:TypeId)(ht:Cd P t=true)(y:Value)(n:Bool)(hy:(n=true/\y=.nilFunc)\/(n=false/\∃f xs ys,y=.func f xs ys)):(Op.equal t y .nilFunc).run P w=.ok n w:=Rt w 9999 t ht y n hy
def ng.OU{P:Program}{o:Oper}{ρ:Operand->C}{H:zl}(op:BinOp)(t t':TypeId)(x:Operand)(ho:o.op=.binOp op t x (.const .nilFunc) t')(hop:op=.eql\/op=.neq)(ht:Cd P t=true)(b:Bool)
 (hx:∀E u,L E (ρ x) u->(b=true/\u=.nilFunc)\/(b=false/\∃f ys zs,u=.func f ys zs)):ng P o ρ H (.v (.bool (if op=.eql then b else !b))) H:=λw E σ hh hl hc K hk=>by
 have hv:=hx E _ (hl x uY);have he:=TR w t ht _ _ hv
 have hr:(execOp σ o).run P w=.ok (.value (.bool (if op=.eql then b else !b))) w:=by
  unfold execOp;rcases hv with⟨rfl,hv⟩|⟨rfl,f,ys,zs,hv⟩ <;> rw[hv]at he <;> rcases hop with rfl|rfl <;> simp[ho,hv,hc,eqGuard,binOp,he]
 rw[hr];exact hk _ w E hh (.v _ rfl) (Grow.refl w E H)
def WX{P:Program}{o:Oper}{ρ:Operand->C}{H:zl}{K:C->zl->Prop}{op:BinOp}{t:TypeId}{x:Operand}(ho:J4 o=some (op,t,x))(h:GY P H op t (ρ x) K):∃c,ng P o ρ H c H/\K c H:=by
 obtain⟨t',ho⟩:∃t',o.op=.binOp op t x (.const .nilFunc) t':=by
  unfold J4 at ho;split at ho
  ·rename_i h1;split at ho
   ·split at ho
    ·cases ho;exact⟨_,h1⟩
    ·cases ho
   ·cases ho
  ·cases ho
 unfold GY at h;split at h
 ·rename_i b hb;split at h
  ·exact⟨_,.OU .eql t t' x ho (.inl rfl) (zX h).1 b (KY hb),(zX h).2⟩
  ·exact⟨_,.OU .neq t t' x ho (.inr rfl) (zX h).1 b (KY hb),(zX h).2⟩
  ·exact c6
 ·exact c6
def lZ(P:Program)(H:zl)(ρ:Operand->C)(o:Oper)(K:C->zl->Prop):Prop:=
 match JN o with
 |some (op,ty,x)=>JY P H op ty (ρ x) K
 |none=>match JH o with
  |some (op,ty,x)=>JQ P H op ty (ρ x) K
  |none=>match J4 o with
  |some (op,ty,x)=>GY P H op ty (ρ x) K
  |none=>match JI P ρ o with
  |some (f,args)=>∃R,qs P f H args R/\∀r H',R r H'->K r H'
  |none=>match mapRel H ρ o with
   |true=>jN P o ρ H K
   |false=>match NK o with
    |some t=>match Ys P t with
     |true=>∀b:Nat,xn (H++[Ch b [] 0 []]) λH'=>K (.v (.map (some b))) H'
     |false=>∀b:Nat,xn (H++[im b #[] 0]) λH'=>K (.v (.map (some b))) H'
    |none=>nY P H ρ o K
def FA{P:Program}{H:zl}{ρ:Operand->C}{o:Oper}{K:C->zl->Prop}(h:lZ P H ρ o K):jN P o ρ H K:=by
 unfold lZ at h;split at h
 ·rename_i op ty x hn;exact Wr hn h
 ·split at h
  ·rename_i op ty x hn;obtain⟨c,h1,h2⟩:=VU hn h;exact h1.mi h2
  split at h
  ·rename_i op ty x hn;obtain⟨c,h1,h2⟩:=WX hn h;exact h1.mi h2
  ·split at h
   ·rename_i f args hn;obtain⟨R,h1,h2⟩:=h;exact jN.call hn (λw E vs hh hl=>(h1 w E vs hh hl).mono λe w' ⟨r,H',v,E',hR,h3⟩=>⟨r,H',v,E',h2 r H' hR,h3⟩)
   split at h
   ·exact h
   split at h
   ·rename_i t hm
    have ho:o.op=.makeMap t none:=by
     unfold NK at hm;split at hm
     ·rename_i ho;split at hm
      ·cases hm;exact ho
      ·cases hm
     ·cases hm
    split at h
    ·exact .XI t ho λb=>jj (h b)
    ·exact .makeMap t ho λb=>jj (h b)
   ·obtain⟨c,H',h1,h2⟩:=HC h;exact h1.mi h2
def Dk(P:Program)(ops:Array Oper)(o:Oper)(next:List C->zl->(List C->zl->Prop)->Prop)(t:List C)(H:zl)(K:List C->zl->Prop):Prop:=
 match jO ops t o with
 |some true=>lZ P H (ev t) o λc H'=>nn t o.dst c λt=>next t H' K
 |some false=>nn t o.dst .un λt=>next t H K
 |none=>False
def mw(P:Program)(ops:Array Oper)(l:List Oper):List C->zl->(List C->zl->Prop)->Prop:=
 List.rec (motive:=λ_=>List C->zl->(List C->zl->Prop)->Prop) (λt H K=>K t H) (λo _ next=>Dk P ops o next) l
theorem H7(P:Program)(ops:Array Oper)(o:Oper)(l:List Oper)(t:List C)(H:zl)(K:List C->zl->Prop):mw P ops (o::l) t H K=Dk P ops o (mw P ops l) t H K:=rfl
section
variable {P:Program} {B:Nat} {ops:Array Oper}
def H8:∀{l:List Oper} {t:List C} {H:zl} {K:List C->zl->Prop},mw P ops l t H K->kM P B ops l ⟨t,H⟩ λs'=>K s'.tmps s'.H
 |[],t,H,K,h=>.nil h
 |o::l,t,H,K,h=>by
  rw[H7]at h;unfold Dk at h;split at h
  ·rename_i hw;refine .run (s:=⟨t,H⟩) hw (.D5 (s:=⟨t,H⟩) (FA h)) ?_;rintro s1 ⟨c,H',h1,rfl⟩;exact H8 (jB (k:=λt=>mw P ops l t H' K) h1)
  ·rename_i hw;exact .pass (s:=⟨t,H⟩) hw (H8 (jB (k:=λt=>mw P ops l t H K) h))
  ·exact c6
abbrev WK:=List C->zl->(Exit->List C->zl->Prop)->Prop
def zym(x y:WK):WK:=λt H K=>x t H λex t H=>match ex with
 |.normal=>y t H K
 |ex=>K ex t H
def ZY(id:Nat)(c:WK):WK:=λt H K=>c t H λex t H=>match ex with
 |.exit id'=>if id'=id then K .normal t H else K (.exit id') t H
 |ex=>K ex t H
def JE(c:Operand)(x y:WK):WK:=λt H K=>match ev t c with
 |.v (.bool b)=>match b with
  |true=>x t H K
  |false=>y t H K
 |_=>False
noncomputable def readyB(all:List Bool)(ops:List Oper):List Bool->Nat->List Nat:=
 List.rec (motive:=λ_=>List Bool->Nat->List Nat) (λ_ _=>[]) (λo _ ih bs k=>match bs with
  |[]=>[]
  |b::bs=>match b with
   |true=>ih bs (k+1)
   |false=>match o.after.toList.all (λe=>!Region.binds .any e || all.getD e.on false) with
    |true=>k::ih bs (k+1)
    |false=>ih bs (k+1)) ops
noncomputable def bothK(f:Nat->Prop)(l:List Nat):Prop:=List.rec (motive:=λ_=>Prop) True (λi _ ih=>f i/\ih) l
structure my where
 bl:List Nat:=[]
 keep:List Nat:=[]
 flat:Bool:=false
def XC(T:my)(H0 H:zl):Prop:=yO T.keep H0 H/\(T.flat=true->qY H=true)
noncomputable def pickE(bl:List Nat)(ops:Array Oper)(t:List C)(l:List Nat):Option Nat:=
 List.rec (motive:=λ_=>Option Nat) none (λi _ ih=>match ops[i]? with
  |some o=>match xF o || oz bl i with
   |true=>some i
   |false=>match jO ops t o with
    |some b=>match b with
     |true=>ih
     |false=>some i
    |none=>ih
  |none=>ih) l
def Jh(P:Program)(T:my)(H:zl)(ρ:Operand->C)(o:Oper)(K:C->zl->Prop):Prop:=
 match o.op with
 |.call cl=>match cl.callee with
  |.value x=>match ρ x with
   |.fn f first caps=>bK (qm P f) <| ∃r,(∀H2,XC T H H2->zb P f H2 (first++(cl.args.toList.map λx=>ix (ρ x))++caps) r H2)/\okB r λr=>K r H
   |_=>False
  |_=>False
 |_=>F5 P T.keep H ρ o K
def iY(P:Program)(T:my)(ops:Array Oper)(o:Oper)(k:Nat)(next:List C->zl->(List C->zl->Prop)->Prop)(t:List C)(H:zl)(K:List C->zl->Prop):Prop:=
 match jO ops t o with
 |some true=>match oz T.bl k with
  |true=>Jh P T H (ev t) o λc H'=>nn t o.dst c λt=>next t H' K
  |false=>match xF o with
   |true=>nY P H (ev t) o λc H'=>nn t o.dst c λt=>next t H' K
   |false=>False
 |some false=>nn t o.dst .un λt=>next t H K
 |none=>False
def JJ(T:my)(H H':zl)(k:Prop):Prop:=match T.flat with
 |true=>qY H'=true/\Ek H H' k T.keep
 |false=>Ek H H' k T.keep
def AY(P:Program)(T:my)(ops:Array Oper)(o:Oper)(next:List C->zl->(List C->zl->Prop)->Prop)(t:List C)(H:zl)(K:List C->zl->Prop):Prop:=
 match jO ops t o with
 |some true=>match Em o with
  |true=>nY P H (ev t) o λc H'=>nn t o.dst c λt=>next t H' K
  |false=>lZ P H (ev t) o λc H'=>JJ T H H' (nn t o.dst c λt=>next t H' K)
 |some false=>nn t o.dst .un λt=>next t H K
 |none=>False
noncomputable def bruteK(P:Program)(T:my)(ops:Array Oper)(n:Nat):List Bool->List C->zl->(List C->zl->Prop)->Prop:=
 Nat.rec (motive:=λ_=>List Bool->List C->zl->(List C->zl->Prop)->Prop)
  (λlisted t H K=>match readyB listed ops.toList listed 0 with
   |[]=>K t H
   |_::_=>False)
  (λ_ ih listed t H K=>match readyB listed ops.toList listed 0 with
   |[]=>K t H
   |i::is=>match pickE T.bl ops t (i::is) with
    |some i=>match ops[i]? with
     |some o=>iY P T ops o i (λt H K=>ih (listed.set i true) t H K) t H K
     |none=>False
    |none=>bothK (λi=>match ops[i]? with
     |some o=>AY P T ops o (λt H K=>ih (listed.set i true) t H K) t H K
     |none=>False) (i::is)) n
def Ox(md:Region.Mode)(ops:Array Oper)(ms:List Nat):Bool:=
 (List.range ops.size).all λi=>(List.range ops.size).all λj=>Nat.beq j i || ou md ops ms i j || match ops[i]?,ops[j]? with
  |some oi,some oj=>(oj.after.any λe=>Region.binds md e && e.on == i) || oi.apart ops oj
  |_,_=>true
def CB(md:Region.Mode)(ops:Array Oper):Bool:=Ox md ops (nF md ops)
noncomputable def regionK(P:Program)(B:Nat)(ops:Array Oper)(draw:Bool):WK:=λt H K=>match draw with
 |false=>mw P ops ops.toList t H λt H=>K .normal t H
 |true=>(∃T:l7,(P.follows .mixedOrders && Region.lexB .any ops && CV .any T ops)=true/\nk P T ops ops.toList 0 t H λt H=>K .normal t H)\/
  ∃T:my,(P.follows .mixedOrders && CB .any ops)=true/\(T.flat=true->qY H=true)/\∃R:List C->zl->Prop,bruteK P T ops ops.size (ops.toList.map λ_=>false) t H (λt1 H1=>∃t2 H2,zp B ⟨t1,H1⟩ ⟨t2,H2⟩/\R t2 H2)/\∀t2 H2,R t2 H2->K .normal t2 H2
def LO{all:List Bool}:∀{os:List Oper} {bs:List Bool} {k i:Nat},i∈readyB all os bs k↔∃j o,i=k+j/\os[j]?=some o/\bs[j]?=some false/\o.after.toList.all (λe=>!Region.binds .any e || all.getD e.on false)=true
 |[],bs,k,i=>by simp[readyB]
 |o::os,[],k,i=>by
  have e:readyB all (o::os) [] k=[]:=rfl;rw[e];simp
 |o::os,b::bs,k,i=>by
  have e:readyB all (o::os) (b::bs) k=match b with
   |true=>readyB all os bs (k+1)
   |false=>match o.after.toList.all (λe=>!Region.binds .any e || all.getD e.on false) with
    |true=>k::readyB all os bs (k+1)
    |false=>readyB all os bs (k+1):=rfl
  have ih:=LO (all:=all) (os:=os) (bs:=bs) (k:=k+1) (i:=i)
  have split:(∃j o',i=k+j/\(o::os)[j]?=some o'/\(b::bs)[j]?=some false/\o'.after.toList.all (λe=>!Region.binds .any e || all.getD e.on false)=true)↔
    (i=k/\b=false/\o.after.toList.all (λe=>!Region.binds .any e || all.getD e.on false)=true)\/i∈readyB all os bs (k+1):=by
   rw[ih];constructor
   ·rintro⟨j,o',h1,h2,h3,h4⟩;cases j with
    |zero=>simp at h2 h3;subst h2;exact .inl ⟨aw,h3,h4⟩
    |succ j=>exact .inr ⟨j,o',aw,aq h2,aq h3,h4⟩
   ·rintro(⟨h1,h2,h3⟩|⟨j,o',h1,h2,h3,h4⟩)
    ·exact⟨0,o,aw,rfl,bE,h3⟩
    ·exact⟨j+1,o',aw,aq h2,aq h3,h4⟩
  rw[split,e];cases b with
  |true=>simp
  |false=>
   dsimp only;split
   ·rename_i h;rw[h];simp only[rk,and_true]
   ·rename_i h;rw[h];simp only[sF,and_false,false_or]
def DU{ops:Array Oper}{listed:Array Bool}(hl:listed.size=ops.size)(i:Nat):i∈Region.ready .any ops listed↔i∈readyB listed.toList ops.toList listed.toList 0:=by
 rw[LO];unfold Region.ready;rw[List.mem_filter,rC]
 have qc:∀o:Oper,o.after.toList.all (λe=>!Region.binds .any e || listed.toList.getD e.on false)=o.after.all (λe=>!Region.binds .any e || listed.getD e.on false):=λo=>by
  rw[<-sN]
  congr 1
  funext e
  rw[rG,pB,pJ]
 constructor
 ·rintro⟨h1,h2⟩;rw[gH]at h2;obtain⟨h2,h3⟩:=h2;obtain⟨o,ho⟩:∃o,ops[i]?=some o:=⟨ops[i],aD⟩;rw[ho]at h3;simp only[gL,pS]at h3;refine⟨i,o,aw,by rw[pB];exact ho,?_,by rw[qc];exact h3⟩;rw[pB];rw[pJ,rW aw]at h2;simp only[pS]at h2;rw[rW aw];simpa using h2
 ·rintro⟨j,o,h1,h2,h3,h4⟩;obtain rfl:i=j:=by omega
  rw[pB]at h2 h3;have ft:=(gP.1 h2).1;refine⟨ft,?_⟩;rw[gH];rw[qc]at h4;refine⟨?_,by rw[h2];simpa using h4⟩;rw[pJ,h3]
  rfl
def Md{f:Nat->Prop}:∀{l:List Nat},bothK f l->∀i∈l,f i
 |[],_,i,hi=>by cases hi
 |j::l,h,i,hi=>by
  have h:f j/\bothK f l:=h;rcases rk.1 hi with rfl|hi
  ·exact h.1
  ·exact Md h.2 i hi
def jN.zyg{o:Oper}{tmps:List C}{H:zl}{R:C->zl->Prop}{x:C}{dst:Option Tmp}{ops:Array Oper}(h:∀d,dst=some d->d∉o.looksAt ops)(h':jN P o (ev (put tmps dst x)) H R):jN P o (ev tmps) H R:=
 λw E σ hh hl hc K hk=>h' w E σ hh (λy hy=>by rw[I8 (Ih h y hy)];exact hl y hy) hc K hk
def jN.JM{o:Oper}{ρ:Operand->C}{H:zl}{R R':C->zl->Prop}(hR:∀c H',R c H'->R' c H')(h:jN P o ρ H R):jN P o ρ H R':=
 λw E σ hh hl hc K hk=>h w E σ hh hl hc K λc H' v w' E' h1=>hk c H' v w' E' (hR c H' h1)
def oR(P:Program)(ops:Array Oper)(X:zl->Prop)(i:Nat)(K:S->Prop)(s:S):Prop:=
 match ops[i]? with
 |none=>K s
 |some o=>(jO ops s.tmps o=some true/\jN P o (ev s.tmps) s.H λc H'=>X H'/\K ⟨put s.tmps o.dst c,H'⟩)\/(jO ops s.tmps o=some false/\K ⟨put s.tmps o.dst .un,s.H⟩)
def Vq{ops:Array Oper}{X:zl->Prop}{i:Nat}{s:S}{K K':S->Prop}(hX:X s.H)(h:∀s,X s.H->K s->K' s)(hh:oR P ops X i K s):oR P ops X i K' s:=by
 unfold oR at *;split
 ·exact h _ hX (by simpa [*] using hh)
 ·rename_i o ho;simp only[ho]at hh;rcases hh with⟨h1,h2⟩|⟨h1,h2⟩
  ·exact .inl ⟨h1,h2.JM λc H' ⟨h3,h4⟩=>⟨h3,h _ h3 h4⟩⟩
  ·exact .inr ⟨h1,h _ hX h2⟩
def B3(P:Program)(md:Region.Mode)(ops:Array Oper)(X:zl->Prop)(Q:S->Prop):Nat->Array Bool->S->Prop
 |0,listed,s=>Region.ready md ops listed=[]/\Q s
 |fuel+1,listed,s=>(Region.ready md ops listed=[]->Q s)/\∀i∈Region.ready md ops listed,oR P ops X i (B3 P md ops X Q fuel (listed.setIfInBounds i true)) s
def ko{P:Program}{B:Nat}{ops:Array Oper}{md:Region.Mode}{X:zl->Prop}{q:Option Nat}{m:Nat}{H0:zl}{Q:S->Prop}{w0:World}{E0:Env}{Q':Exit->Act->World->Prop}(hQ:∀s w E a,Q s->xU B m w E s a->jK B w0 E0 H0 w E s.H->Q' .normal a w):
  ∀(fuel:Nat) (listed:Array Bool) (s:S) (w:World) (E:Env) (a:Act),xU B m w E s a->jK B w0 E0 H0 w E s.H->B3 P md ops X Q fuel listed s->wpAnyIn (fw q) 0 P md ops Q' fuel listed a w
 |0,_,s,w,E,a,hs,hg,h=>⟨h.1,hQ s w E a h.2 hs hg⟩
 |fuel+1,listed,s,w,E,a,hs,hg,h=>⟨λh0=>hQ s w E a (h.1 h0) hs hg,λi hi=>by
   have h1:=h.2 i hi;unfold oR at h1;unfold wpOpIn;split
   ·rename_i ho;simp only[ho]at h1;exact ko hQ fuel _ s w E a hs hg h1
   ·rename_i o ho;simp only[ho]at h1;rcases h1 with⟨hw,hv⟩|⟨hw,hK⟩
    ·rw[gC (jY hs.tmps hw)];refine Aa.D5 (s:=s) hv q m w E a _ Q' hs λs' w' E' a' hR h2 g2=>?_
     obtain⟨c,H',⟨_,h3⟩,rfl⟩:=hR;exact ko hQ fuel _ _ w' E' a' h2 (hg.trans g2) h3
    ·rw[gu br];exact⟨λ_ _=>trivial,ko hQ fuel _ ⟨put s.tmps o.dst .un,s.H⟩ w E _ (hs.put .un o.dst) hg hK⟩⟩
def Vr{ops:Array Oper}{X:zl->Prop}{j:Nat}{oi oj:Oper}{c:C}(hj:ops[j]?=some oj)(hap:oi.apart ops oj=true){K:S->Prop}{s:S}(hy:YA P ops X oi c s.tmps)
 (h:oR P ops X j K ⟨put s.tmps oi.dst c,s.H⟩):oR P ops X j (λs'=>YA P ops X oi c s'.tmps/\K ⟨put s'.tmps oi.dst c,s'.H⟩) s:=by
 obtain⟨h1,h2,h3⟩:=Oper.apart_spec hap;unfold oR at *;simp only[hj] at *;rcases h with⟨hw,hv⟩|⟨hw,hK⟩
 ·refine .inl ⟨(y9 h1) ▸ hw,(hv.JM λc' H' ⟨h4,h5⟩=>⟨h4,(YA.put h3).2 hy,?_⟩).zyg h1⟩;rw[put_comm _ _ h2]at h5;exact h5
 ·refine .inr ⟨(y9 h1) ▸ hw,(YA.put h3).2 hy,?_⟩;rw[put_comm _ _ h2]at hK;exact hK
def TD{ops:Array Oper}{md:Region.Mode}{X:zl->Prop}{Q:S->Prop}{i:Nat}{oi:Oper}{c:C}(hi:ops[i]?=some oi):
  ∀(fuel:Nat) (listed:Array Bool) (s:S),X s.H->
   (∀j oj,ops[j]?=some oj->j≠i->listed.getD j true=false->(∀e∈oj.after,Region.binds md e=true->e.on≠i)->oi.apart ops oj=true)->
   i∈Region.ready md ops listed->YA P ops X oi c s.tmps->
   B3 P md ops X Q fuel (listed.setIfInBounds i true) ⟨put s.tmps oi.dst c,s.H⟩->B3 P md ops X Q (fuel+1) listed s:=by
 have here:∀(s:S) (K:S->Prop),X s.H->YA P ops X oi c s.tmps->K ⟨put s.tmps oi.dst c,s.H⟩->oR P ops X i K s:=λs K hX hy hK=>by
  unfold oR;simp only[hi];rcases hy with⟨h1,h2⟩|⟨h1,rfl⟩
  ·exact .inl ⟨h1,(h2 s.H hX).mi ⟨hX,hK⟩⟩
  ·exact .inr ⟨h1,hK⟩
 intro fuel
 induction fuel with
 |zero=>
  intro listed s hX _ hr hy H;refine⟨λh=>bt,λj hj=>?_⟩;by_cases hji:j=i
  ·subst hji;exact here s _ hX hy H
  ·have:=ready_mono hj hji;rw[H.1]at this;cases this
 |succ fuel ih=>
  intro listed s hX hfree hr hy H;refine⟨λh=>bt,λj hj=>?_⟩;by_cases hji:j=i
  ·subst hji;exact here s _ hX hy H
  ·have h1:=H.2 j (ready_mono hj hji);obtain⟨hjun,oj,hoj,qc⟩:=mem_ready.1 hj
   have hnot:∀e∈oj.after,Region.binds md e=true->e.on≠i:=λe he hb heq=>by
    have h1:=qc e he hb;have h0:=(mem_ready.1 hr).1;rw[heq]at h1;rcases pY i listed.size with h'|h'
    ·simp[h']at h0 h1;rw[h0]at h1;cases h1
    ·simp[sC h']at h1
   have hap:=hfree j oj hoj hji hjun hnot;have h2:=Vr hoj hap hy h1
   have hfree':∀k ok,ops[k]?=some ok->k≠i->(listed.setIfInBounds j true).getD k true=false->
     (∀e∈ok.after,Region.binds md e=true->e.on≠i)->oi.apart ops ok=true:=λk ok hk hki hun hno=>by
    refine hfree k ok hk hki ?_ hno;by_cases hjk:j=k
    ·subst hjk;exact hjun
    ·rw[getD_set_ne true hjk]at hun;exact hun
   refine Vq hX (λs' hX' ⟨h3,h4⟩=>ih (listed.setIfInBounds j true) s' hX' hfree' (ready_mono hr (Ne.symm hji)) h3 ?_) h2;rw[ur _ _ hji];exact h4
def Rh{md:Region.Mode}{ops:Array Oper}(h:CB md ops=true){i j:Nat}{oi oj:Oper}(hi:ops[i]?=some oi)(hj:ops[j]?=some oj)(hne:j≠i)(hd:ou md ops (nF md ops) i j=false)
 (hno:∀e∈oj.after,Region.binds md e=true->e.on≠i):oi.apart ops oj=true:=by
 simp only[CB,Ox,gI,rC]at h;have h1:=h i (gP.1 hi).1 j (gP.1 hj).1
 have hb:Nat.beq j i=false:=by
  cases hb:Nat.beq j i with
  |false=>rfl
  |true=>exact absurd (Nat.eq_of_beq_eq_true hb) hne
 simp only[hb,hd,rZ,hi,hj,rz]at h1;rcases h1 with h1|h1
 ·obtain⟨e,hem,hb⟩:=Array.any_eq_true'.1 h1;simp only[gH,pH]at hb;exact absurd hb.2 (hno e hem hb.1)
 ·exact h1
def XC.trans{T:my}{H H' H'':zl}(h:XC T H H')(h':XC T H' H''):XC T H H'':=⟨h.1.trans h'.1,h'.2⟩
def XC.back{T:my}{H H' H'':zl}(h:XC T H H')(h':XC T H H''):XC T H' H'':=⟨λid hi=>(h'.1 id hi).trans (h.1 id hi).symm,h'.2⟩
def Ss{T:my}{o:Oper}{ρ:Operand->C}{H:zl}{K:C->zl->Prop}(h:Jh P T H ρ o K):∃c,(∀H2,XC T H H2->fE P o ρ H2 c H2)/\K c H:=by
 unfold Jh at h;split at h
 ·rename_i cl ho;split at h
  ·rename_i x hcl;split at h
   ·rename_i f first caps hf;obtain⟨h1,r,h2,h3⟩:=zX h;exact⟨r,λH2 hx=>.JD cl ho x hcl hf h1 (h2 H2 hx),jr (k:=λc=>K c H) h3⟩
   ·exact c6
  ·exact c6
 ·obtain⟨c,h1,h2⟩:=K2 h;exact⟨c,λH2 hx=>h1 H2 hx.1,h2⟩
def UC{T:my}{H0 H H':zl}{k:Prop}(hX:XC T H0 H)(h:JJ T H H' k):XC T H0 H'/\k:=by
 unfold JJ at h;split at h
 ·obtain⟨h1,h2⟩:=E9 h.2;exact⟨⟨hX.1.trans h1,λ_=>h.1⟩,h2⟩
 ·rename_i hf;obtain⟨h1,h2⟩:=E9 h;exact⟨⟨hX.1.trans h1,λh=>by rw[hf]at h;cases h⟩,h2⟩
def Fo{bl:List Nat}{ops:Array Oper}{t:List C}:∀{l:List Nat} {i:Nat},pickE bl ops t l=some i->i∈l
 |[],i,h=>by cases h
 |j::l,i,h=>by
  have h:(match ops[j]? with
   |some o=>match xF o || oz bl j with
    |true=>some j
    |false=>match jO ops t o with
     |some b=>match b with
      |true=>pickE bl ops t l
      |false=>some j
     |none=>pickE bl ops t l
   |none=>pickE bl ops t l)=some i:=h
  split at h
  ·split at h
   ·cases h;exact rh ..
   ·split at h
    ·split at h
     ·exact pV _ (Fo h)
     ·cases h;exact rh ..
    ·exact pV _ (Fo h)
  ·exact pV _ (Fo h)
def HE{T:my}{ops:Array Oper}{H0:zl}{K:List C->zl->Prop}(hap:CB .any ops=true):
  ∀(fuel:Nat) (listed:Array Bool) (t:List C) (H:zl),Down .any ops listed->listed.size=ops.size->XC T H0 H->bruteK P T ops fuel listed.toList t H K->
   B3 P .any ops (XC T H0) (λs=>K s.tmps s.H) fuel listed ⟨t,H⟩
 |0,listed,t,H,hd,hl,hX,h=>by
  have h:match readyB listed.toList ops.toList listed.toList 0 with
   |[]=>K t H
   |_::_=>False:=h
  split at h
  ·rename_i hr;refine⟨?_,h⟩;rw[eQ];intro i hi;have:=(DU hl i).1 hi;rw[hr]at this;cases this
  ·exact c6
 |fuel+1,listed,t,H,hd,hl,hX,h=>by
  have h:match readyB listed.toList ops.toList listed.toList 0 with
   |[]=>K t H
   |i::is=>match pickE T.bl ops t (i::is) with
    |some i=>match ops[i]? with
     |some o=>iY P T ops o i (λt H K=>bruteK P T ops fuel (listed.toList.set i true) t H K) t H K
     |none=>False
    |none=>bothK (λi=>match ops[i]? with
     |some o=>AY P T ops o (λt H K=>bruteK P T ops fuel (listed.toList.set i true) t H K) t H K
     |none=>False) (i::is):=h
  split at h
  ·rename_i hr
   have h0:Region.ready .any ops listed=[]:=by
    rw[eQ];intro i hi;have:=(DU hl i).1 hi;rw[hr]at this;cases this
   exact⟨λ_=>h,λi hi=>by rw[h0]at hi;cases hi⟩
  ·rename_i j js hr;have hset:∀i,(listed.setIfInBounds i true).toList=listed.toList.set i true:=λi=>by simp
   have hsz:∀i,(listed.setIfInBounds i true).size=ops.size:=λi=>by simpa using hl
   split at h
   ·rename_i i hp;have hi:i∈Region.ready .any ops listed:=(DU hl i).2 (by rw[hr];exact Fo hp);split at h
    rotate_left
    ·exact c6
    rename_i o ho
    have go:∀c,YA P ops (XC T H0) o c t->bruteK P T ops fuel (listed.toList.set i true) (put t o.dst c) H K->B3 P .any ops (XC T H0) (λs=>K s.tmps s.H) (fuel+1) listed ⟨t,H⟩:=λc hy hb=>
     TD ho fuel listed ⟨t,H⟩ hX (λj oj hj hne hun hno=>Rh hap ho hj hne (by
       cases hdp:ou .any ops (nF .any ops) i j with
       |false=>rfl
       |true=>
        have h1:=hd.ready hi hdp;rcases pY j listed.size with h'|h'
        ·simp[h']at h1 hun;rw[h1]at hun;cases hun
        ·simp[sC h']at h1) hno) hi hy
      (HE hap fuel _ _ _ (hd.step hi) (hsz i) hX (by rw[hset];exact hb))
    unfold iY at h;split at h
    ·rename_i hw;split at h
     ·obtain⟨c,h1,h2⟩:=Ss h;exact go c (.inl ⟨hw,λH2 h3=>h1 H2 (hX.back h3)⟩) (jB (k:=λt=>bruteK P T ops fuel (listed.toList.set i true) t H K) h2)
     ·split at h
      ·rename_i hb;obtain⟨c,h1,h2⟩:=Lw hb h;exact go c (.inl ⟨hw,λH2 _=>h1 H2⟩) (jB (k:=λt=>bruteK P T ops fuel (listed.toList.set i true) t H K) h2)
      ·exact c6
    ·rename_i hw;exact go .un (.inr ⟨hw,rfl⟩) (jB (k:=λt=>bruteK P T ops fuel (listed.toList.set i true) t H K) h)
    ·exact c6
   ·have hne:Region.ready .any ops listed≠[]:=λh0=>by
     have:j∈readyB listed.toList ops.toList listed.toList 0:=by rw[hr];exact rh ..
     have:=(DU hl j).2 this;rw[h0]at this;cases this
    refine⟨λh0=>absurd h0 hne,λi hi=>?_⟩;have hi2:=(DU hl i).1 hi;rw[hr]at hi2;have h1:=Md h i hi2;split at h1
    rotate_left
    ·exact h1.elim
    rename_i o ho;unfold oR;rw[ho];dsimp only
    have next:∀t' H',XC T H0 H'->bruteK P T ops fuel (listed.toList.set i true) t' H' K->B3 P .any ops (XC T H0) (λs=>K s.tmps s.H) fuel (listed.setIfInBounds i true) ⟨t',H'⟩:=λt' H' hX' hb=>
     HE hap fuel _ _ _ (hd.step hi) (hsz i) hX' (by rw[hset];exact hb)
    unfold AY at h1;split at h1
    ·rename_i hw;refine .inl ⟨hw,?_⟩;split at h1
     ·rename_i hlo;obtain⟨c,h2,h3⟩:=Mh hlo h1;exact h2.mi ⟨hX,next _ _ hX (jB (k:=λt=>bruteK P T ops fuel (listed.toList.set i true) t H K) h3)⟩
     ·refine(FA h1).JM λc H' h2=>?_
      obtain⟨h3,h4⟩:=UC hX h2;exact⟨h3,next _ _ h3 (jB (k:=λt=>bruteK P T ops fuel (listed.toList.set i true) t H' K) h4)⟩
    ·rename_i hw;exact .inr ⟨hw,next _ _ hX (jB (k:=λt=>bruteK P T ops fuel (listed.toList.set i true) t H K) h1)⟩
    ·exact h1.elim
def qX.zxu{P:Program}{B:Nat}{ops:Array Oper}{id:Nat}{t:List C}{H:zl}{R:Exit->S->Prop}{R':List C->zl->Prop}{T:my}(hm:P.follows .mixedOrders=true)(hap:CB .any ops=true)(hf:T.flat=true->qY H=true)
 (h:bruteK P T ops ops.size (ops.toList.map λ_=>false) t H (λt1 H1=>∃t2 H2,zp B ⟨t1,H1⟩ ⟨t2,H2⟩/\R' t2 H2))(hR:∀t2 H2,R' t2 H2->R .normal ⟨t2,H2⟩):qX P B (.region id ops true) ⟨t,H⟩ R:=λq m w E a Q _ hs hq=>by
 refine wpIn_region_any hm (ko (X:=XC T H) (H0:=H) (Q:=λs=>∃t2 H2,zp B s ⟨t2,H2⟩/\R' t2 H2) (w0:=w) (E0:=E) (λs1 w1 E1 a1 he h1 g1=>?_) _ _ ⟨t,H⟩ _ E a hs.drew ((Grow.drew w E H).iM tG) ?_)
 ·obtain⟨t2,H2,hw,hR2⟩:=he;obtain⟨E2,h2,g2⟩:=hw m w1 E1 a1 h1;exact hq _ _ w1 E2 a1 (hR t2 H2 hR2) h2 (g1.trans g2)
 ·have e:(Array.replicate ops.size false).toList=ops.toList.map λ_=>false:=by
   rw[Array.toList_replicate,List.map_const'];simp
  refine HE (K:=λt1 H1=>∃t2 H2,zp B ⟨t1,H1⟩ ⟨t2,H2⟩/\R' t2 H2) hap _ _ _ _ Down.start aj ⟨.refl _ _,hf⟩ ?_;rw[e];exact h
structure Bq(P:Program)(B:Nat)(c:Code)(t:List C)(H:zl)(K:Exit->List C->zl->Prop):Prop where
 out:zZ P B c ⟨t,H⟩ λex s=>K ex s.tmps s.H
def zxE(P:Program)(B:Nat)(c:Code):WK:=λt H K=>Bq P B c t H K
def Jo(P:Program)(B:Nat)(g:Operand)(ps:Array Tmp)(assign body:Code):WK:=λt H K=>match ev t g with
 |.fn f first caps=>bK (qm P f && first.isEmpty) <| ∃H0,zp B ⟨t,H⟩ ⟨t,H0⟩/\∃ex t' H',(∀(l:Nat) (r:Loop),r.state=.ready->r.pending=none->r.params=ps->r.assign=assign->r.body=body->
   ∃(rr:C) (Hf:zl) (rf:Loop),zb P f (H0++[iD l r t]) (.v (.func (.yield l) #[] #[])::caps) rr Hf/\Hf[H0.length]?=some (iD l rf t)/\rf.state≠.busy/\rf.tmps=r.tmps/\B<=Hf.length/\Pk rf.pending ex/\
    zp B ⟨t,Hf.set H0.length (iD l { rf with state:=.exhausted } t)⟩ ⟨t',H'⟩)/\K ex t' H'
 |_=>False
structure w7(P:Program)(B:Nat)(c:Code)(l:Nat)(t:List C)(H:zl)(K:Exit->List C->zl->Prop):Prop where
 out:BV P B c (λex s=>K ex s.tmps s.H) l ⟨t,H⟩
def Zy(P:Program)(B:Nat)(c:Code)(x:WK):WK:=λt H K=>x t H λex t H=>match ex with
 |.goto l=>w7 P B c l t H K
 |ex=>K ex t H
def PX:WK:=λ_ _ _=>False
noncomputable def wpA(P:Program)(B:Nat)(c:Code):WK:=
 Code.rec (motive:=λ_=>WK) (λt H K=>K .normal t H) (λ_ ops draw=>regionK P B ops draw) (λ_ _ x y=>zym x y) (λc _ _ x y=>JE c x y) (λid _ x=>ZY id x) (λc _=>zxE P B c)
  (λg ps assign body _ _=>Jo P B g ps assign body) (λid t H K=>K (.exit id) t H) (λc x=>Zy P B c x) (λ_ t H K=>K .normal t H) (λl t H K=>K (.goto l) t H) (λt H K=>K .ret t H) (λ_=>PX) c
def jD:∀{c:Code} {t:List C} {H:zl} {K:Exit->List C->zl->Prop},wpA P B c t H K->qX P B c ⟨t,H⟩ λex s=>K ex s.tmps s.H:=by
 intro c
 induction c with
 |skip=>intro t H K h;exact .skip h
 |exit id=>intro t H K h;exact .exit id h
 |ret=>intro t H K h;exact .ret h
 |label l=>intro t H K h;exact .label l h
 |seq x y ihx ihy=>
  intro t H K h;refine .seq ((ihx (t:=t) (H:=H) (K:=λex t H=>match ex with|.normal=>wpA P B y t H K|ex=>K ex t H) h).mono λex s1 h1=>?_);cases ex with
  |normal=>exact ihy h1
  |_=>exact h1
 |block id c ih=>
  intro t H K h;refine .block ((ih (t:=t) (H:=H) (K:=λex t H=>match ex with|.exit id'=>if id'=id then K .normal t H else K (.exit id') t H|ex=>K ex t H) h).mono λex s1 h1=>?_);cases ex with
  |exit id'=>exact h1
  |_=>exact h1
 |scope c ih=>
  intro t H K h;refine .Zx ((ih (t:=t) (H:=H) (K:=λex t H=>match ex with|.goto l=>w7 P B c l t H K|ex=>K ex t H) h).mono λex s1 h1=>?_);cases ex with
  |goto l=>exact(show w7 P B c l s1.tmps s1.H K from h1).out
  |_=>exact h1
 |goto l=>intro t H K h;exact .goto l h
 |cond c x y ihx ihy=>
  intro t H K h
  change JE c (wpA P B x) (wpA P B y) t H K at h
  unfold JE at h;split at h
  ·rename_i b hb;cases b with
   |true=>exact .cond (s:=⟨t,H⟩) hb (ihx h)
   |false=>exact .cond (s:=⟨t,H⟩) hb (ihy h)
  ·exact c6
 |region id ops draw=>
  intro t H K h;cases draw with
  |false=>exact .region (H8 (show mw P ops ops.toList t H (λt H=>K .normal t H) from h))
  |true=>
   rcases(show(∃T:l7,(P.follows .mixedOrders && Region.lexB .any ops && CV .any T ops)=true/\nk P T ops ops.toList 0 t H λt H=>K .normal t H)\/
    ∃T:my,(P.follows .mixedOrders && CB .any ops)=true/\(T.flat=true->qY H=true)/\∃R:List C->zl->Prop,bruteK P T ops ops.size (ops.toList.map λ_=>false) t H (λt1 H1=>∃t2 H2,zp B ⟨t1,H1⟩ ⟨t2,H2⟩/\R t2 H2)/\∀t2 H2,R t2 H2->K .normal t2 H2 from h) with h|⟨T,hm,hf,R,h1,h2⟩
   rotate_left
   ·rw[gH]at hm;exact qX.zxu hm.1 hm.2 hf h1 h2
   obtain⟨T,h1,h2⟩:=h;simp only[gH]at h1;obtain⟨s',h3,h4⟩:=Run.zxz (B:=B) (id:=id) h1.1.1 h1.1.2 h1.2 h2;exact qX.mono h3 λex s1 ⟨e1,e2⟩=>by subst e1 e2;exact h4
 |loop c ih=>intro t H K h;exact .loop (show Bq P B c t H K from h).out
 |rangeFunc g ps assign body=>
  intro t H K h
  change Jo P B g ps assign body t H K at h
  unfold Jo at h;split at h
  ·rename_i f first caps hg;obtain⟨h1,H0,h0,ex,t',H',h2,h3⟩:=zX h;simp only[gH,ff]at h1;obtain⟨h1,rfl⟩:=h1;refine .pre h0 (.rangeFunc hg h1 λl r a1 a2 a3 a4 a5=>?_);obtain⟨rr,Hf,rf,b1,b2,b3,b4,b5,b6,b7⟩:=h2 l r a1 a2 a3 a4 a5;exact⟨rr,Hf,rf,ex,⟨t',H'⟩,b1,b2,b3,b4,b5,b6,b7,h3⟩
  ·exact c6
 |_=>intro t H K h;exact(show False from h).elim
def w7.go{c rest:Code}{l:Nat}{t:List C}{H:zl}{K:Exit->List C->zl->Prop}(hf:findLabel c l=some rest)
 (h:wpA P B rest t H λex t H=>match ex with|.goto l=>w7 P B c l t H K|ex=>K ex t H):w7 P B c l t H K:=by
 refine⟨.mk _ hf (jD h) (λe s h1 he=>?_) λl s h1=>(show w7 P B c l s.tmps s.H K from h1).out⟩;cases e with
 |goto l=>exact absurd rfl (he l)
 |_=>exact h1
def jH.zI{H1 H':zl}{id l:Nat}{r:Loop}{t:List C}{args:List C}{rv:Bool}{ps:Array Tmp}{assign body:Code}(hob:H1[id]?=some (iD l r t))(hst:r.state=.ready)(hpe:r.pending=none)(hps:r.params=ps)(ha:r.assign=assign)(hb:r.body=body)
 (hn:args.length=ps.size)(hna:xz assign=false)(hnb:xz body=false)
 (h:wpA P H1.length assign (B4 t ps.toList args) H1 λe t1 H1'=>e=.normal/\H1'[id]?=some (iD l r t)/\wpA P H1.length body t1 (H1'.set id (iD l (busy r) t)) λe t2 H2=>
   ∃t3 H3,zp H1.length ⟨t2,H2⟩ ⟨t3,H3⟩/\OG id l r t rv H' e H3):
  jH P l H1 args (.v (.bool rv)) H':=by
 subst hps ha hb;refine jH.kQ hob hst hpe hn hna hnb ((jD h).mono λe s1 ⟨h1,h2,h3⟩=>⟨h1,h2,(jD h3).mono λe s2 ⟨t3,H3,h4,h5⟩=>⟨⟨t3,H3⟩,h4,h5⟩⟩)
def zZ.inv{c:Code}{t:List C}{H:zl}{K:Exit->List C->zl->Prop}(I:Nat->List C->zl->Prop)(n:Nat)(h0:∃t0 H0,zp B ⟨t,H⟩ ⟨t0,H0⟩/\I n t0 H0)
 (step:∀n t H,I n t H->wpA P B c t H λe t1 H1=>(e=.normal/\∃m t2 H2,m<n/\zp B ⟨t1,H1⟩ ⟨t2,H2⟩/\I m t2 H2)\/(e≠.normal/\K e t1 H1)):
  Bq P B c t H K:=by
 obtain⟨t0,H0,hw,hI⟩:=h0;refine⟨.pre hw ?_⟩
 suffices key:∀n t H,I n t H->mn P B c (n+1) ⟨t,H⟩ λex s=>K ex s.tmps s.H from⟨n+1,key n t0 H0 hI⟩
 intro n
 induction n using Nat.strongRecOn with
 |_ n ih=>
  intro t H hI;refine .step ((jD (step n t H hI)).post λex s1 h1=>?_);rcases h1 with⟨rfl,m,t2,H2,hm,hw2,hI2⟩|⟨hne,hK⟩
  ·exact⟨⟨t2,H2⟩,hw2,(mn.more aw (ih m hm t2 H2 hI2):mn P B c n ⟨t2,H2⟩ _)⟩
  ·refine⟨s1,.refl s1,?_⟩;cases ex with
   |normal=>exact absurd rfl hne
   |_=>exact hK
def zb.zI{f:FuncId}{fn:Func}{c:Code}{H H':zl}{args:List C}{r:C}(hf:P.funcs[f]?=some fn)(hb:fn.body=some c)
 (h:wpA P H.length c (entry fn args) H λex t1 H1=>(ex=.ret\/ex=.normal)/\∃s2,zp H.length ⟨t1,H1⟩ s2/\s2.H=H'/\vJ P fn s2=some r):zb P f H args r H':=
 qs.at (qs.kQ hf hb ((jD h).mono λex s1 ⟨hex,s2,hw,h2,h3⟩=>⟨hex,s2,r,hw,h3,rfl,h2⟩))
def qs.zI{f:FuncId}{fn:Func}{c:Code}{H:zl}{args:List C}{R:C->zl->Prop}(hf:P.funcs[f]?=some fn)(hb:fn.body=some c)
 (h:wpA P H.length c (entry fn args) H λex t1 H1=>(ex=.ret\/ex=.normal)/\∃s2 r,zp H.length ⟨t1,H1⟩ s2/\vJ P fn s2=some r/\R r s2.H):qs P f H args R:=
 qs.kQ hf hb (jD h)
def zb.IK{f:FuncId}{fn:Func}{c:Code}{args:List C}{r:C}(hf:P.funcs[f]?=some fn)(hb:fn.body=some c)
 (h:wpA P 0 c (entry fn args) [] λex t1 H1=>(ex=.ret\/ex=.normal)/\∃s2,zp 0 ⟨t1,H1⟩ s2/\vJ P fn s2=some r)(hr:jg 0 9 r=true):zb P f [] args r []:=
 qs.close (R:=λc=>c=r) (qs.kQ (H:=[]) (R:=λc _=>c=r) hf hb ((jD h).mono λex s1 ⟨hex,s2,hw,h2⟩=>⟨hex,s2,r,hw,h2,rfl⟩)) λc h=>⟨h,hr⟩
end
def qd{n:Int}(h0: -9223372036854775808<=n)(h1:n<=9223372036854775807):IntKind.i64.wrap n=n:=IntWalk.i64_in n ⟨h0,h1⟩
def zw{n:Nat}(h:n<9223372036854775807):IntKind.i64.wrap ((n:Int)+1)=((n+1:Nat):Int):=by rw[qd aw aw];rfl
section
variable {P:Program} {f:FuncId} {H H':zl}
def zb.pre{args args':List C}{r:C}(h:zb P f H args' r H')(hw:iU args args'):zb P f H args r H':=λw E vs hh hl=>h w E vs hh (hw.LL hl)
def zb.post{args:List C}{r r':C}(h:zb P f H args r H')(hw:WC r r'):zb P f H args r' H':=λw E vs hh hl=>(h w E vs hh hl).mono λe w' ⟨v,E',h1,h2,h3,h4⟩=>⟨v,E',h1,h2,hw E' v h3,h4⟩
def toNat_cast(n:Nat):((n:Int)).toNat=n:=by simp
end
def FL{P:Program}{f:FuncId}{vs:Array Value}{v:Value}{args:List C}{r:C}(H:zl)(hc:∀w,Calls P f vs w λe w'=>e=.returned v/\w'=w)(ha:∀E (us:Array Value),LL E args us.toList->us=vs)(hr:∀E,L E r v):zb P f H args r H:=λw E us hh hl=>by
 obtain rfl:=ha E us hl;refine(hc w).mono ?_;rintro e w' ⟨rfl,rfl⟩;exact⟨v,E,rfl,hh,hr E,Grow.refl _ _ _⟩
def zxq{a:Value}(E:Env)(us:Array Value)(h:LL E [.v a] us.toList):us= #[a]:=by
 obtain⟨l⟩:=us
 match l,h with
 |[],h=>have:=h.1;simp at this
 |[x],h=>
  obtain⟨h1,_⟩:=h.cons_inv;cases h1;rfl
 |_::_::_,h=>have:=h.1;simp at this
def JC{a b:Value}(E:Env)(us:Array Value)(h:LL E [.v a,.v b] us.toList):us= #[a,b]:=by
 obtain⟨l⟩:=us
 match l,h with
 |[],h=>have:=h.1;simp at this
 |[_],h=>have:=h.1;simp at this
 |[x,y],h=>
  obtain⟨h1,h2⟩:=h.cons_inv;obtain⟨h2,_⟩:=h2.cons_inv;cases h1;cases h2;rfl
 |_::_::_::_,h=>have:=h.1;simp at this
def yn{α:Type}{l:List α}{t:Nat}{y:α}(h:l[t]?=some y):l.set t y=l:=by
 apply pL
 intro i;rw[gM];split
 ·rename_i e;subst e;obtain⟨h1,h2⟩:=gm.1 h;rw[gC h1,h]
 ·rfl
section
variable {B:Nat} {s:S}
def qg.freeze{w:World}{E:Env}{H:zl}(h:qg w E H){id:Nat}{ob:Ob}(hob:H[id]?=some ob)(hk:ob.kind=2)(hno:∀i k c,cellAt ob.rows i k=some c->zy c=true):
  ∃E',E.le E'/\qg w E' (H.modify id λob=>⟨ob.kind,ob.ty,ob.sz,ob.rows,ob.rows.length⟩)/\(∀b o u,E'.St b o=some u->E.St b o=some u\/b=E.β id [])/\E'.β=E.β/\E'.G=E.G/\
   ∀i k c,cellAt ob.rows i k=some c->∃u,E'.St (E.β id []) (i*ob.sz+k)=some u/\L E'.shut c u:=by
 have hgb:qb H id []=some (ob.sz,ob.rows):=by unfold qb;rw[hob];simp[hk,ja]
 have hB:=h.fJ id ob [] _ _ hob hgb;obtain⟨cur,e,hg,hcs,hcell⟩:=hB.fJ
 have key:∀o,o<ob.rows.length*ob.sz->∃u,cur[o]?=some u/\u.oneCell'=true/\w.cell? ⟨E.β id [],o,none⟩=some u:=by
  intro o ho;obtain⟨h1,h2,h3⟩:=Hm ho;obtain⟨c,hc⟩:=w9 hB.row h1 h2;obtain⟨u,hu,hok⟩:=hcell _ _ c hc;rw[jb.loose (hno _ _ c hc)]at hok;rw[h3]at hu;exact⟨u,hu,hok.2,by unfold World.cell?;rw[hg];simpa using hu⟩
 obtain⟨E',hE'⟩:∃E':Env,E'={ E with St:=λb o=>if b=E.β id []/\o<ob.rows.length*ob.sz then cur[o]? else E.St b o }:=⟨_,rfl⟩
 have hle:E.le E':=by
  subst hE';refine⟨gJ _,λ_ _ _=>rfl,λ_ _ _=>rfl,λb o u hu=>?_,λ_ _ _ _ hu=>hu⟩;show(if b=E.β id []/\o<ob.rows.length*ob.sz then cur[o]? else E.St b o)=some u;split
  ·rename_i hc;obtain⟨rfl,ho⟩:=hc;obtain⟨u',h1,_,h2⟩:=key o ho;have:=(h.qy _ _ _ hu).1;rw[h2]at this;rw[h1,<-this]
  ·exact hu
 have hSt:∀b o u,E'.St b o=some u->E.St b o=some u\/(b=E.β id []/\o<ob.rows.length*ob.sz/\cur[o]?=some u):=by
  subst hE';intro b o u hu
  change (if b=E.β id []/\o<ob.rows.length*ob.sz then cur[o]? else E.St b o)=some u at hu
  split at hu
  ·rename_i hc;exact .inr ⟨hc.1,hc.2,hu⟩
  ·exact .inl hu
 have hβ:E'.β=E.β:=by subst hE';rfl
 have hn:E'.n=E.n:=by subst hE';rfl
 have get:∀id' hops x,qb (H.modify id λob=>⟨ob.kind,ob.ty,ob.sz,ob.rows,ob.rows.length⟩) id' hops=some x->qb H id' hops=some x:=by
  intro id' hops x hx;obtain⟨ob',ho',hk',hg'⟩:=jn hx;rw[pZ]at ho';cases hx':H[id']? with
  |none=>rw[hx']at ho';cases ho'
  |some ob0=>
   rw[hx']at ho';simp only[r6,gL,gV]at ho';unfold qb;rw[hx'];split at ho'
   ·subst ho';simp only[hk',if_true];exact hg'
   ·subst ho';simp only[hk',if_true];exact hg'
 have obs:∀(id':Nat) (ob':Ob),(H.modify id λob=>⟨ob.kind,ob.ty,ob.sz,ob.rows,ob.rows.length⟩)[id']?=some ob'->∃ob0,H[id']?=some ob0/\ob'.kind=ob0.kind/\ob'.ty=ob0.ty/\ob'.sz=ob0.sz/\ob'.rows=ob0.rows/\ob0.fz<=ob'.fz/\ob'.fz<=ob'.rows.length/\(id'=id->ob'.fz=ob0.rows.length):=by
  intro id' ob' ho';rw[pZ]at ho';cases hx':H[id']? with
  |none=>rw[hx']at ho';cases ho'
  |some ob0=>
   rw[hx']at ho';simp only[r6,gL,gV]at ho';have:=h.fz id' ob0 hx';split at ho'
   ·subst ho';exact⟨ob0,rfl,rfl,rfl,rfl,rfl,this,gJ _,λ_=>rfl⟩
   ·rename_i hne;subst ho';exact⟨ob0,rfl,rfl,rfl,rfl,rfl,gJ _,this,λe=>absurd e.symm hne⟩
 refine⟨E',hle,⟨by rw[hn,h.n];simp,?_,?_,?_,?_,?_,?_⟩,λb o u hu=>(hSt b o u hu).imp_right (·.1),hβ,by subst hE';rfl,?_⟩
 ·intro id' ob' hops sz rows hob' hx;obtain⟨ob0,h1,h2,_⟩:=obs id' ob' hob';have hx':=get _ _ _ hx;rw[h2];exact(h.fJ id' ob0 hops sz rows h1 hx').step hle (by rw[h.n];exact BJ hx') rfl
 ·intro id1 p1 id2 p2 x y hx hy he;rw[hβ]at he;exact h.inj id1 p1 id2 p2 x y (get _ _ _ hx) (get _ _ _ hy) he
 ·intro b o u hu;rcases hSt b o u hu with h1|⟨rfl,h2,h3⟩
  ·exact h.qy b o u h1
  ·obtain⟨u',h4,h5,h6⟩:=key o h2;rw[h3]at h4;cases h4
   exact⟨h6,h5⟩
 ·intro id' hops x o u hx hu;have hx':=get _ _ _ hx;rw[hβ]at hu;obtain⟨ob1,ho1,_,_⟩:=jn hx;obtain⟨ob0,h1,h2,h3,h4,h5,h6,h7,h8⟩:=obs id' ob1 ho1;rcases hSt _ o u hu with h9|⟨h9,h10,_⟩
  ·obtain⟨e1,ob2,e2,e3⟩:=h.sep id' hops x o u hx' h9;rw[h1]at e2;cases e2
   exact⟨e1,ob1,ho1,by rw[h4];exact pI e3 (p8 _ h6)⟩
  ·obtain⟨rfl,rfl⟩:=h.inj id' hops id [] x _ hx' hgb h9;rw[hob]at h1;cases h1
   exact⟨rfl,ob1,ho1,by rw[h8 rfl,h4];exact h10⟩
 ·intro id' ob' hob' hk';obtain⟨ob0,h1,h2,h3,_⟩:=obs id' ob' hob';obtain⟨cur',hc⟩:=h.ty id' ob0 h1 (by rw[<-h2];exact hk');exact⟨cur',by rw[hβ,h3];exact hc⟩
 ·intro id' ob' hob';obtain⟨ob0,h1,h2,h3,h4,h5,h6,h7,h8⟩:=obs id' ob' hob';exact h7
 ·intro i k c hc;obtain⟨u,hu,hok⟩:=hcell i k c hc;rw[jb.loose (hno _ _ c hc)]at hok;obtain⟨h1,h2⟩:=Ff hB.row hc
  have ft:i*ob.sz+k<ob.rows.length*ob.sz:=by
   have:(i+1)*ob.sz<=ob.rows.length*ob.sz:=p8 _ h1;rw[ru]at this;omega
  refine⟨u,?_,?_⟩
  ·subst hE';show(if E.β id []=E.β id []/\i*ob.sz+k<ob.rows.length*ob.sz then cur[i*ob.sz+k]? else _)=some u;rw[gC ⟨rfl,ft⟩];exact hu
  ·have h3:=hok.1;simp only[Env.at,hk,if_true]at h3;exact h3.mono hle.shut
def zp.freeze(t:Nat){id sz lo len:Nat}{full:Bool}{ob:Ob}(ht:s.tmps[t]?=some (.sl id [] sz lo len full))(hob:s.H[id]?=some ob)(hk:ob.kind=2)(hsz:ob.sz=sz)(hlen:lo+len<=ob.rows.length)
 (hno:∀r∈ob.rows,∀c∈r,zy c=true):
  zp B s ⟨s.tmps.set t (.fp (if full then 1 else 0) sz ((ob.rows.drop lo).take len)),s.H.modify id λob=>⟨ob.kind,ob.ty,ob.sz,ob.rows,ob.rows.length⟩⟩:=λm w E a hs=>by
 subst hsz
 have hno':∀i k c,cellAt ob.rows i k=some c->zy c=true:=λi k c hc=>by
  unfold cellAt at hc;cases hx:ob.rows[i]? with
  |none=>rw[hx]at hc;cases hc
  |some r=>rw[hx]at hc;exact hno r (gA hx) c (gA hc)
 obtain⟨E',hle,hR,hnew,hβ,hKG0,hcells⟩:=hs.heap.base.freeze hob hk hno';have hgb:qb s.H id []=some (ob.sz,ob.rows):=by unfold qb;rw[hob];simp[hk,ja]
 have hrow:=(hs.heap.base.fJ id ob [] _ _ hob hgb).row;obtain⟨y,hy,hl⟩:=hs.tmps.get ht
 have hnl:L E' (.fp (if full then 1 else 0) ob.sz ((ob.rows.drop lo).take len)) y:=by
  generalize hc:C.sl id [] ob.sz lo len full=c at hl;cases hl with
  |sl id' hops' sz' lo' len' full' cap hn hlen' hf hf'=>
   cases hc
   have hrl:((ob.rows.drop lo).take len).length=len:=aA
   have hsub:∀i k,cellAt ((ob.rows.drop lo).take len) i k=if i<len then cellAt ob.rows (lo+i) k else none:=by
    intro i k;unfold cellAt;rw[pn];split
    ·rw[rj]
    ·rfl
   have ex:∀i r k c,((ob.rows.drop lo).take len)[i]?=some r->r[k]?=some c->∃u,E'.St (E.β id []) (lo*ob.sz+i*ob.sz+k)=some u/\L E'.shut c u:=by
    intro i r k c hr hc;have hcc:cellAt ((ob.rows.drop lo).take len) i k=some c:=by unfold cellAt;rw[hr];exact hc
    rw[hsub]at hcc;split at hcc
    ·obtain⟨u,h1,h2⟩:=hcells _ _ c hcc;exact⟨u,by rw[<-ru];exact h1,h2⟩
    ·cases hcc
   have:=L.fp (E:=E') (if full then 1 else 0) ob.sz ((ob.rows.drop lo).take len) (E.β id []) (lo*ob.sz) cap (λi k=>(E'.St (E.β id []) (lo*ob.sz+i*ob.sz+k)).getD undef) ?_ ?_ ?_ ?_ ?_
   ·rw[hrl]at this;exact dM
   ·cases full with
    |false=>exact .inl rfl
    |true=>exact .inr ⟨rfl,by rw[hrl];exact hf rfl⟩
   ·rw[hrl];exact hlen'
   ·exactλr hr=>hrow r (sL (rP hr))
   ·intro i r k c hr hc;obtain⟨u,h1,h2⟩:=ex i r k c hr hc;rw[h1];rfl
   ·intro i r k c hr hc;obtain⟨u,h1,h2⟩:=ex i r k c hr hc;rw[h1];exact h2
  |_=>cases hc
 have hG:qI w E s.H w E' (s.H.modify id λob=>⟨ob.kind,ob.ty,ob.sz,ob.rows,ob.rows.length⟩):=by
  have hKG:∀(id k:Nat),id<E.n->E'.G id k=E.G id k:=λ_ _ _=>by rw[hKG0]
  refine⟨hle,hKG,rfl,rfl,rfl,gJ _,λ_ _ _=>rfl,λb o u hu=>?_,?_⟩
  ·rcases hnew b o u hu with h1|h1
   ·exact .inl h1
   ·exact .inr (.inr ⟨id,[],_,hgb,h1.symm⟩)
  ·rintro b ⟨id',p,x,hx,rfl⟩
   right
   refine⟨id',p,x,?_,by rw[hβ]⟩;obtain⟨ob',ho',hk',hg'⟩:=jn hx;rw[pZ]at ho';cases hx':s.H[id']? with
   |none=>rw[hx']at ho';cases ho'
   |some ob0=>
    rw[hx']at ho';simp only[r6,gL,gV]at ho';unfold qb;rw[hx'];split at ho'
    ·subst ho';simp only[hk',if_true];exact hg'
    ·subst ho';simp only[hk',if_true];exact hg'
 have hk4:jM s.H (s.H.modify id λob=>⟨ob.kind,ob.ty,ob.sz,ob.rows,ob.rows.length⟩):=jM.modify _ _ _ λob' h'=>by
  rw[hob]at h';cases h'
  exact⟨by rw[hk];decide,by show ob.kind≠4;rw[hk];decide⟩
 refine⟨E',⟨⟨hR,mV.step hs.heap hG hk4⟩,?_,hs.defers,aq hs.base⟩,(hG.up hs.heap hk4).iM tG⟩;have:=(hs.tmps.mono hle).set hnl t;rw[yn hy]at this;exact dM
end
def posOf:List Nat->Nat->Nat->Option Nat
 |[],_,_=>none
 |x::xs,i,id=>if x == id then some i else posOf xs (i+1) id
def yf:∀{sel:List Nat} {k id i:Nat},posOf sel k id=some i->k<=i/\sel[i-k]?=some id
 |[],k,id,i,h=>by simp[posOf]at h
 |x::xs,k,id,i,h=>by
  unfold posOf at h;split at h
  ·rename_i e;cases h
   exact⟨gJ _,aq e⟩
  ·obtain⟨h1,h2⟩:=yf h;refine⟨aw,?_⟩;rw[show i-k=(i-(k+1))+1 from aw];simpa using h2
def xW(sel:List Nat):Nat->C->C
 |0,_=>.za
 |k+1,c=>match c with
  |.ref id hops sz i j=>match posOf sel 0 id with
   |some id'=>.ref id' hops sz i j
   |none=>.za
  |.sl id hops sz lo len full=>match posOf sel 0 id with
   |some id'=>.sl id' hops sz lo len full
   |none=>.za
  |.mp id=>match posOf sel 0 id with
   |some id'=>.mp id'
   |none=>.za
  |.gl id sz rows=>match posOf sel 0 id with
   |some id'=>.gl id' sz rows
   |none=>.fp 0 sz rows
  |.iu t c=>.iu t (xW sel k c)
  |.rc r=>.rc r
  |.agg cs=>.agg (cs.map (xW sel k))
  |.fC cs=>.fC (cs.map (xW sel k))
  |.fn f first caps=>.fn f (first.map (xW sel k)) (caps.map (xW sel k))
  |.v x=>.v x
  |.fp o sz rows=>.fp o sz rows
  |.jU cells=>.jU cells
  |.un=>.un
  |.za=>.za
def Env.fD(E:Env)(sel:List Nat):Env:={ n:=sel.length,β:=λi hops=>E.β ((sel[i]?).getD 0) hops,κ:=λi hops=>E.κ ((sel[i]?).getD 0) hops,St:=E.St,G:=λi k=>E.G ((sel[i]?).getD 0) k }
def Env.FB(E:Env)(sel:List Nat):E.shut.le (E.fD sel).shut:=⟨gJ _,λid hops hi=>absurd hi (pC _),λid hops hi=>absurd hi (pC _),λb o u hu=>hu,λid _ _ hi=>absurd hi (pC _)⟩
def LL.fD{E E':Env}{f:C->C}{cs:List C}{ys:List Value}(h:LL E cs ys)(hf:∀c y,L E c y->L E' (f c) y):LL E' (cs.map f) ys:=
 ⟨aq h.1,λi c y e1 e2=>by
  rw[gz]at e1;cases hx:cs[i]? with
  |none=>rw[hx]at e1;cases e1
  |some c0=>rw[hx]at e1;cases e1;exact hf c0 y (h.2 i c0 y hx e2)⟩
def L.fD{E:Env}(sel:List Nat):∀(k:Nat) {c:C} {y:Value},L E c y->L (E.fD sel) (xW sel k c) y:=by
 intro k
 induction k with
 |zero=>intro c y h;exact .za y
 |succ k ih=>
  intro c y h
  have pos:∀{id i},posOf sel 0 id=some i->i<sel.length/\(sel[i]?).getD 0=id:=λ{id i} e=>by
   obtain⟨_,h2⟩:=yf e;rw[rV]at h2;exact⟨(gm.1 h2).1,by rw[h2];rfl⟩
  cases h with
  |v x hx=>exact .v _ hx
  |fp o sz rows b off cap us ho hc hsz hst hL=>
   exact .fp o sz rows b off cap us ho hc hsz hst (λi r k c e1 e2=>(hL i r k c e1 e2).mono (E.FB sel))
  |xp o sz ho a=>exact .xp o sz ho a
  |jU cells b off us hst hL=>
   exact .jU cells b off us hst (λk c e1=>(hL k c e1).mono (E.FB sel))
  |ref id hops sz i j hn=>
   unfold xW;dsimp only;split
   ·rename_i id' e;obtain⟨h1,h2⟩:=pos e;have:=L.ref (E:=E.fD sel) id' hops sz i j h1;simp only[Env.fD,h2]at this;exact dM
   ·exact .za _
  |sl id hops sz lo len full cap hn hlen hf hf'=>
   unfold xW;dsimp only;split
   ·rename_i id' e;obtain⟨h1,h2⟩:=pos e;have:=L.sl (E:=E.fD sel) id' hops sz lo len full cap h1 hlen hf (by simp only[Env.fD,h2];exact hf');simp only[Env.fD,h2]at this;exact dM
   ·exact .za _
  |mp id hn=>
   unfold xW;dsimp only;split
   ·rename_i id' e;obtain⟨h1,h2⟩:=pos e;have:=L.mp (E:=E.fD sel) id' h1;simp only[Env.fD,h2]at this;exact dM
   ·exact .za _
  |agg cs ys h1 h2 h3=>
   have:=LL.fD (f:=xW sel k) (E':=E.fD sel) (cs:=cs) (ys:=ys.toList) ⟨aq h1,λi c y e1 e2=>h2 i c y e1 uZ⟩ (λc y hl=>ih hl);exact dB
  |fC cs ys h1 h2=>
   have:=LL.fD (f:=xW sel k) (E':=E.fD sel) (cs:=cs) (ys:=ys.toList) ⟨aq h1,λi c y e1 e2=>h2 i c y e1 uZ⟩ (λc y hl=>ih hl);exact .fC _ ys tZ (λi c y e1 e2=>this.2 i c y e1 uZ)
  |fn f first caps ys zs h1 h2 h3 h4=>
   have t1:=LL.fD (f:=xW sel k) (E':=E.fD sel) (cs:=first) (ys:=ys.toList) ⟨aq h1,λi c y e1 e2=>h3 i c y e1 uZ⟩ (λc y hl=>ih hl);have t2:=LL.fD (f:=xW sel k) (E':=E.fD sel) (cs:=caps) (ys:=zs.toList) ⟨aq h2,λi c y e1 e2=>h4 i c y e1 uZ⟩ (λc y hl=>ih hl);exact dQ
  |un=>exact .un
  |za y=>exact .za y
  |gl id sz rows y hn hg hl=>
   unfold xW;dsimp only;split
   ·rename_i id' e;obtain⟨h1,h2⟩:=pos e;exact .gl id' sz rows y h1 (by simp only[Env.fD,h2];exact hg) (hl.mono (E.FB sel))
   ·have h3:E.shut.le (E.fD sel):=⟨pb _,λid hops hi=>absurd hi (pC _),λid hops hi=>absurd hi (pC _),λb o u hu=>hu,λid _ _ hi=>absurd hi (pC _)⟩;exact hl.mono h3
  |iu t c y hl=>exact .iu t _ y (ih hl)
def MX(sel:List Nat)(k:Nat){c:C}(h:zy c=true):zy (xW sel k c)=true:=by
 cases k with
 |zero=>rfl
 |succ k=>
  cases c with
  |fp o sz rows=>exact h
  |ref id hops sz i j=>unfold xW;dsimp only;split <;> rfl
  |sl id hops sz lo len full=>unfold xW;dsimp only;split <;> rfl
  |mp id=>unfold xW;dsimp only;split <;> rfl
  |gl id sz rows=>unfold xW;dsimp only;split <;> rfl
  |_=>rfl
def zN(sel:List Nat)(ob:Ob):Ob:=
 match ob with
 |⟨kind,ty,sz,rows,fz⟩=>⟨kind,ty,sz,match kind with
  |2=>rows
  |4=>rows
  |_=>rows.map λr=>r.map (xW sel 9),fz⟩
def dead:Ob:=⟨0,0,0,[],0⟩
def xA(sel:List Nat)(H:zl):zl:=sel.map λid=>zN sel ((H[id]?).getD dead)
def yd:List Nat->Bool
 |[]=>true
 |x::xs=>!(xs.any (· == x)) && yd xs
def kG:∀{l:List Nat},yd l=true->∀(i j x:Nat),l[i]?=some x->l[j]?=some x->i=j
 |[],_,i,j,x,h,_=>by simp at h
 |y::l,h,i,j,x,h1,h2=>by
  simp only[yd,gH,pO,pD]at h;cases i with
  |zero=>
   cases j with
   |zero=>rfl
   |succ j=>
    simp at h1 h2;subst h1;exact absurd aj (h.1 _ (gA h2))
  |succ i=>
   cases j with
   |zero=>
    simp at h1 h2;subst h2;exact absurd aj (h.1 _ (gA h1))
   |succ j=>
    simp at h1 h2;rw[kG h.2 i j x h1 h2]
def L.Yt{E:Env}{c:C}{y:Value}(h:L E c y)(hc:CF c=true):L E.shut c y:=by
 cases h with
 |agg cs ys h1 h2 h3=>
  refine .agg cs ys h1 (λi c y e1 e2=>(h2 i c y e1 e2).kh ?_) h3;exact gI.1 (show cs.all ju=true from hc) _ (gA e1)
 |v x hx=>exact(L.v (E:=E) _ hx).kh hc
 |fp o sz rows b off cap us ho h2 hsz hst hL=>exact(L.fp (E:=E) o sz rows b off cap us ho h2 hsz hst hL).kh hc
 |xp o sz ho a=>exact(L.xp (E:=E) o sz ho a).kh hc
 |jU cells b off us hst hL=>exact(L.jU (E:=E) cells b off us hst hL).kh hc
 |fn f first caps ys zs h1 h2 h3 h4=>exact(L.fn (E:=E) f first caps ys zs h1 h2 h3 h4).kh hc
 |_=>simp[CF,ju,AL]at hc
def LL.closed{E E':Env}{t:List C}{ys:List Value}(h:LL E t ys)(hc:t.all CF=true)(hs:E.shut.le E'):LL E' t ys:=
 ⟨h.1,λi c y e1 e2=>((h.2 i c y e1 e2).Yt (gI.1 hc _ (gA e1))).mono hs⟩
section
variable {B:Nat}
def xO{sel:List Nat}{H:zl}{i:Nat}{ob':Ob}(h:(xA sel H)[i]?=some ob')(qc:sel.all (λid=>Nat.blt id H.length)=true):∃id ob,sel[i]?=some id/\H[id]?=some ob/\ob'=zN sel ob:=by
 unfold xA at h;rw[gz]at h;cases hx:sel[i]? with
 |none=>rw[hx]at h;cases h
 |some id=>
  rw[hx]at h
  have ft:id<H.length:=by
   have:=gI.1 qc id (gA hx);simpa [Nat.blt_eq] using this
  have h2:H[id]?=some H[id]:=aX
  simp only[gL,gV,h2,pS]at h;exact⟨id,H[id],rfl,h2,h.symm⟩
def wo{sel:List Nat}{H:zl}{i:Nat}{hops:List fZ}{sz:Nat}{rows:List (List C)}(qc:sel.all (λid=>Nat.blt id H.length)=true)(ir:qY H=true)(h:qb (xA sel H) i hops=some (sz,rows)):
  ∃id ob rows0,sel[i]?=some id/\H[id]?=some ob/\qb H id hops=some (sz,rows0)/\((ob.kind=2/\rows=rows0)\/(ob.kind=1/\hops=[]/\rows=rows0.map (λr=>r.map (xW sel 9))/\∀r∈rows0,∀c∈r,zy c=true)):=by
 obtain⟨ob',ho',hk',hg'⟩:=jn h;obtain⟨id,ob,h1,h2,rfl⟩:=xO ho' qc;obtain⟨kind,ty,sz0,rows0,fz⟩:=ob;rcases hk' with hk|hk
 ·have hk:kind=1:=hk;subst hk
  have hno:∀r∈rows0,∀c∈r,zy c=true:=by
   have:=gI.1 ir _ (gA h2);dsimp only at this;simpa [gI] using this
  have hg2:vS sz0 (rows0.map λr=>r.map (xW sel 9)) hops=some (sz,rows):=hg'
  obtain⟨rfl,e⟩:=wt (λi k c hc=>by
   unfold cellAt at hc;rw[gz]at hc;cases hx:rows0[i]? with
   |none=>rw[hx]at hc;cases hc
   |some r=>
    rw[hx]at hc;simp only[gL,pa,gz]at hc;cases hy:r[k]? with
    |none=>rw[hy]at hc;cases hc
    |some c0=>
     rw[hy]at hc;cases hc
     exact MX sel 9 (hno r (gA hx) c0 (gA hy))) hg2
  cases e
  exact⟨id,_,rows0,h1,h2,by unfold qb;rw[h2];simp[ja],.inr ⟨rfl,rfl,rfl,hno⟩⟩
 ·have hk:kind=2:=hk;subst hk;exact⟨id,_,rows,h1,h2,bF,.inl ⟨rfl,rfl⟩⟩
def qg.fD{w:World}{E:Env}{H:zl}(hh:qg w E H)(sel:List Nat)(qc:sel.all (λid=>Nat.blt id H.length)=true)(iv:yd sel=true)(ir:qY H=true):qg w (E.fD sel) (xA sel H) where
 n:=by simp[Env.fD,xA]
 fJ i ob' hops sz rows hob' hx:=by
  obtain⟨id,ob,rows0,h1,h2,h3,h4⟩:=wo qc ir hx;obtain⟨id2,ob2,e1,e2,rfl⟩:=xO hob' qc;rw[h1]at e1;cases e1
  rw[h2]at e2;cases e2
  have hb:=hh.fJ id ob hops sz rows0 h2 h3;obtain⟨cur,e,hg,hcs,hcell⟩:=hb.fJ;have hβ:∀hops,(E.fD sel).β i hops=E.β id hops:=λhops=>by simp[Env.fD,h1]
  have hκ:∀hops,(E.fD sel).κ i hops=E.κ id hops:=λhops=>by simp[Env.fD,h1]
  have hkind:(zN sel ob).kind=ob.kind:=by obtain⟨kind,ty,sz,rows,fz⟩:=ob;rfl
  rw[hkind];rcases h4 with⟨hk,rfl⟩|⟨hk,rfl,rfl,hno⟩
  ·refine⟨by rw[hκ];exact hb.len,hb.row,cur,e,by rw[hβ];exact hg,by rw[hκ];exact hcs,?_⟩;intro i' k c hc;obtain⟨u,hu,ho⟩:=hcell i' k c hc;refine⟨u,hu,?_⟩;unfold jb at ho ⊢;split at ho
   ·rw[hβ,hκ];exact ho
   ·refine⟨?_,ho.2⟩;have h5:=ho.1;simp only[Env.at,hk,if_true]at h5 ⊢;exact h5.mono (E.FB sel)
  ·refine⟨by rw[hκ];simpa using hb.len,?_,cur,e,by rw[hβ];exact hg,by rw[hκ];exact hcs,?_⟩
   ·intro r hr;obtain⟨r0,h5,rfl⟩:=pd.1 hr;simpa using hb.row r0 h5
   ·intro i' k c hc;unfold cellAt at hc;rw[gz]at hc;cases hx1:rows0[i']? with
    |none=>rw[hx1]at hc;cases hc
    |some r=>
     rw[hx1]at hc;simp only[gL,pa,gz]at hc;cases hy:r[k]? with
     |none=>rw[hy]at hc;cases hc
     |some c0=>
      rw[hy]at hc;cases hc
      obtain⟨u,hu,ho⟩:=hcell i' k c0 (by unfold cellAt;rw[hx1];exact hy);have hn0:=hno r (gA hx1) c0 (gA hy);rw[jb.loose hn0]at ho;refine⟨u,hu,(jb.loose (MX sel 9 hn0)).2 ⟨?_,ho.2⟩⟩;have h5:=ho.1;have hk2:¬ob.kind=2:=by rw[hk];decide
      simp only[Env.at,gu hk2]at h5 ⊢;exact h5.fD sel 9
 inj i hops i' hops' x y hx hy he:=by
  obtain⟨id,ob,rows0,h1,h2,h3,_⟩:=wo qc ir (sz:=x.1) (rows:=x.2) (aq hx);obtain⟨id',ob',rows0',h1',h2',h3',_⟩:=wo qc ir (sz:=y.1) (rows:=y.2) (aq hy);simp only[Env.fD,h1,h1',pS]at he;obtain⟨rfl,rfl⟩:=hh.inj id hops id' hops' _ _ h3 h3' he;exact⟨kG iv _ _ _ h1 h1',rfl⟩
 qy:=hh.qy
 sep i hops x o u hx hu:=by
  obtain⟨id,ob,rows0,h1,h2,h3,_⟩:=wo qc ir (sz:=x.1) (rows:=x.2) (aq hx);simp only[Env.fD,h1,pS]at hu;obtain⟨e1,ob2,e2,e3⟩:=hh.sep id hops _ o u h3 hu;rw[h2]at e2;cases e2
  refine⟨e1,zN sel ob,?_,?_⟩
  ·unfold xA;rw[gz,h1];simp[h2]
  ·obtain⟨kind,ty,sz,rows,fz⟩:=ob;exact e3
 ty i ob' hob' hk:=by
  obtain⟨id,ob,h1,h2,rfl⟩:=xO hob' qc;obtain⟨kind,ty,sz,rows,fz⟩:=ob;obtain⟨cur,hc⟩:=hh.ty id _ h2 hk;exact⟨cur,by simp only[Env.fD,h1,pS];exact hc⟩
 fz i ob' hob':=by
  obtain⟨id,ob,h1,h2,rfl⟩:=xO hob' qc;obtain⟨kind,ty,sz,rows,fz⟩:=ob;have:=hh.fz id _ h2;dsimp only[zN]at this ⊢;split
  ·exact dM
  ·exact dM
  ·simpa using this
def CX:Nat->Nat->List Nat->Bool
 |0,_,_=>true
 |n+1,k,x::xs=>x == k && CX n (k+1) xs
 |_+1,_,[]=>false
def LK:∀{n k:Nat} {l:List Nat},CX n k l=true->n<=l.length/\∀i,i<n->l[i]?=some (k+i)
 |0,k,l,h=>⟨pb _,λi hi=>absurd hi (pC _)⟩
 |n+1,k,x::xs,h=>by
  simp only[CX,gH,pH]at h;obtain⟨h1,h2⟩:=LK h.2;refine⟨aq h1,λi hi=>?_⟩;cases i with
  |zero=>simp[h.1]
  |succ i=>simp[h2 i aw];omega
 |n+1,k,[],h=>by simp[CX]at h
def vZ(sel:List Nat)(ob:Ob):(zN sel ob).kind=ob.kind/\(zN sel ob).ty=ob.ty/\(zN sel ob).sz=ob.sz/\(zN sel ob).rows.length=ob.rows.length:=by
 obtain⟨kind,ty,sz,rows,fz⟩:=ob;refine⟨rfl,rfl,rfl,?_⟩;unfold zN;dsimp only;split <;> simp
def qL.fD{E:Env}{H:zl}{sel:List Nat}(qc:sel.all (λid=>Nat.blt id H.length)=true){i b:Nat}(h:qL (E.fD sel) (xA sel H) i b):∃id,sel[i]?=some id/\qL E H id b:=by
 obtain⟨ob',cap,h1,h2,h3,h4⟩:=h;obtain⟨id,ob,e1,e2,rfl⟩:=xO h1 qc;obtain⟨l1,l2,l3,l4⟩:=vZ sel ob;rw[l4]at h3 h4;simp only[Env.fD,e1,pS]at h3;exact⟨id,e1,ob,cap,e2,bG,h3,h4⟩
def IQ{sel:List Nat}{ob:Ob}(h:ob.kind=4):zN sel ob=ob:=by
 obtain⟨kind,ty,sz,rows,fz⟩:=ob;cases h
 rfl
def jJ.fD{H:zl}{sel:List Nat}(qc:sel.all (λid=>Nat.blt id H.length)=true){i b:Nat}(h:jJ (xA sel H) i b):∃id,sel[i]?=some id/\jJ H id b:=by
 obtain⟨ob',r,t,h1,h2,h3,h4⟩:=h;obtain⟨id,ob,e1,e2,rfl⟩:=xO h1 qc;have hk4:ob.kind=4:=by rw[<-(vZ sel ob).1];exact h2
 rw[IQ hk4]at h3 h4;exact⟨id,e1,ob,r,t,e2,hk4,h3,h4⟩
def jm.fD{E:Env}{H:zl}{sel:List Nat}(qc:sel.all (λid=>Nat.blt id H.length)=true)(ir:qY H=true){b:Nat}(h:jm (E.fD sel) (xA sel H) b):jm E H b:=by
 obtain⟨i,hops,⟨sz,rows⟩,hx,rfl⟩:=h;obtain⟨id,ob,rows0,h3,h4,h5,_⟩:=wo qc ir hx;exact⟨id,hops,_,h5,by simp[Env.fD,h3]⟩
def qB.fD{w:World}{E:Env}{H:zl}(hh:qB w E H)(sel:List Nat)(qc:sel.all (λid=>Nat.blt id H.length)=true)(iv:yd sel=true)(ir:qY H=true):qB w (E.fD sel) (xA sel H) where
 base:=hh.base.fD sel qc iv ir
 fy:={
  val:=λi ob' h1 h2=>by
   obtain⟨id,ob,e1,e2,rfl⟩:=xO h1 qc;obtain⟨l1,l2,l3,l4⟩:=vZ sel ob;rw[l4];simp only[Env.fD,e1,pS];exact hh.fy.val id ob e2 bG
  fJ:=λi b ob' h1 h2=>by
   obtain⟨id,e0,h3⟩:=h1.fD qc;obtain⟨id',ob,e1,e2,rfl⟩:=xO h2 qc;rw[e0]at e1;cases e1
   obtain⟨l1,l2,l3,l4⟩:=vZ sel ob;rw[l2,l3,l4];simp only[Env.fD,e0,pS];exact hh.fy.fJ id b ob h3 e2
  sep:=λi b h1 h2=>by
   obtain⟨id,e0,h3⟩:=h1.fD qc;exact hh.fy.sep id b h3 (h2.fD qc ir)
  inj:=λi i' b h1 h2=>by
   obtain⟨id,e0,h3⟩:=h1.fD qc;obtain⟨id',e1,h4⟩:=h2.fD qc;obtain rfl:=hh.fy.inj id id' b h3 h4;exact kG iv _ _ _ e0 e1
  st:=λi b ob' o u h1 h2 h3=>by
   obtain⟨id,e0,h4⟩:=h1.fD qc;obtain⟨id',ob,e1,e2,rfl⟩:=xO h2 qc;rw[e0]at e1;cases e1
   obtain⟨l1,l2,l3,l4⟩:=vZ sel ob;rw[l3,l4];exact hh.fy.st id b ob o u h4 e2 h3
  top:=λi ob' k u h1 h2 h3=>by
   obtain⟨id,ob,e1,e2,rfl⟩:=xO h1 qc;obtain⟨l1,l2,l3,l4⟩:=vZ sel ob;rw[l4];simp only[Env.fD,e1,pS]at h3;exact hh.fy.top id ob k u e2 bG h3
  iL:=λi ob' r t h1 h2 h3=>by
   obtain⟨id,ob,e1,e2,rfl⟩:=xO h1 qc;have hk4:ob.kind=4:=by rw[<-(vZ sel ob).1];exact h2
   rw[IQ hk4]at h3;have:=gI.1 ir ob (gA e2);rw[hk4,h3.2,h3.1]at this;obtain⟨p1,p2⟩:=hh.fy.iL id ob r t e2 hk4 h3;have ht:t.all CF=true:=aq this
   rw[IQ hk4];exact⟨p1,p2.map λys hl=>hl.closed ht ⟨pb _,λ_ _ h=>absurd h (pC _),λ_ _ h=>absurd h (pC _),λ_ _ _ h=>h,λ_ _ _ h=>absurd h (pC _)⟩⟩
  w6:=λi i' b h1 h2=>by
   obtain⟨id,e0,h3⟩:=h1.fD qc;obtain⟨id',e1,h4⟩:=h2.fD qc;obtain rfl:=hh.fy.w6 id id' b h3 h4;exact kG iv _ _ _ e0 e1 }
def zp.fD(sel m:List Nat)(t:List C)(H:zl)(hB:CX B 0 sel=true)(qc:sel.all (λid=>Nat.blt id H.length)=true)(iv:yd sel=true)(ir:qY H=true):zp B ⟨t,H⟩ ⟨(Bp m 0 t).map (xW sel 9),xA sel H⟩:=λmm w E a hs=>by
 obtain⟨h1,h2⟩:=LK hB
 refine⟨E.fD sel,⟨hs.heap.fD sel qc iv ir,((H5 m t 0).LL hs.tmps).fD (λc y hl=>hl.fD sel 9),hs.defers,by simpa [xA] using h1⟩,
  ⟨⟨λid hops hi=>by simp[Env.fD,h2 id hi],λid hops hi=>by simp[Env.fD,h2 id hi],λ_ _ _ h=>h,λid k u hi hu=>by simpa [Env.fD,h2 id hi] using hu⟩,rfl,rfl,rfl,gJ _,λ_ _ _=>rfl,λb o u hu=>.inl hu,?_⟩⟩
 rintro b (hb|⟨i,hb|hb⟩)
 ·exact .inr (.inl (hb.fD qc ir))
 ·obtain⟨id,_,h3⟩:=hb.fD qc;exact .inr (.inr ⟨id,.inl h3⟩)
 ·obtain⟨id,_,h3⟩:=hb.fD qc;exact .inr (.inr ⟨id,.inr h3⟩)
end
def WC.trans{c c' c'':C}(h:WC c c')(h':WC c' c''):WC c c'':=λE y hl=>h' E y (h E y hl)
def WC.nil(sz sz':Nat):WC (.fp 1 sz []) (.fp 0 sz' []):=(WC.none 1 sz sz').trans (WC.share 1 sz' [])
def iU.at:∀{cs:List C} {i:Nat} {c c':C},cs[i]?=some c->WC c c'->iU cs (cs.set i c')
 |[],i,c,c',h,hw=>by simp at h
 |x::xs,0,c,c',h,hw=>by simp at h;subst h;exact .cons hw (iU.refl xs)
 |x::xs,i+1,c,c',h,hw=>.cons (.refl x) (iU.at (aq h) hw)
def zp.cell{B:Nat}{s:S}(i:Nat){c c':C}(h:s.tmps[i]?=some c)(hw:WC c c'):zp B s ⟨s.tmps.set i c',s.H⟩:=zp.tmps (iU.at h hw)
def Ar(t2:List C):List C->Prop:=
 List.rec (motive:=λ_=>List C->Prop) (λt1=>match t1 with|[]=>True|_::_=>False)
  (λc' _ ih t1=>match t1 with
   |[]=>False
   |c::cs=>match c' with
    |.za=>ih cs
    |c'=>c=c'/\ih cs) t2
def IS:∀{t2 t1:List C},Ar t2 t1->iU t1 t2
 |[],[],_=>.nil
 |[],_::_,h=>h.elim
 |_::_,[],h=>h.elim
 |c'::t2,c::t1,h=>by
  cases c' with
  |za=>exact .cons (.za c) (IS (t2:=t2) (t1:=t1) h)
  |_=>
   obtain⟨h1,h2⟩:=h;exact .cons (h1 ▸ .refl c) (IS (t2:=t2) (t1:=t1) h2)
section
variable {P:Program} {B:Nat}
def zp.Ar{t1 t2:List C}{H:zl}(h:Ab.Ar t2 t1):zp B ⟨t1,H⟩ ⟨t2,H⟩:=zp.tmps (IS h)
def zp.xy(n:Nat){t1 t2:List C}{H1 H2:zl}(h:Ab.Ar t2 t1)(hB:Nat.ble B n=true)(hn:Nat.ble n H1.length=true)(ht:t2.all (jg n 9)=true)(hr:qV n (H1.take n)=true)(hH:H1.take n=H2):zp B ⟨t1,H1⟩ ⟨t2,H2⟩:=by
 subst hH;exact(zp.Ar h).trans (zp.drop (s:=⟨t2,H1⟩) n hB hn ht hr)
def zp.FU{s:S}(t:Nat){id sz len ty:Nat}{full:Bool}{rows:List (List C)}(ht:s.tmps[t]?=some (.sl id [] sz 0 len full))(hob:s.H[id]?=some ⟨2,ty,sz,rows,0⟩)(hlen:len=rows.length)
 (hno:∀r∈rows,∀c∈r,zy c=true):
  zp B s ⟨s.tmps.set t (.fp (if full then 1 else 0) sz rows),s.H.set id ⟨2,ty,sz,rows,rows.length⟩⟩:=by
 have:=zp.freeze (B:=B) t ht hob rfl rfl (by simp[hlen]) hno;rw[y6 _ hob]at this;simpa [hlen] using this
def qB.Lg{w:World}{E:Env}{H:zl}(hh:qB w E H){id sz len ty:Nat}{full:Bool}{rows:List (List C)}{y:Value}(hl:L E (.sl id [] sz 0 len full) y)(hob:H[id]?=some ⟨2,ty,sz,rows,0⟩)(hlen:len=rows.length)
 (hno:∀r∈rows,∀c∈r,zy c=true):
  ∃E1,qB w E1 (H.set id ⟨2,ty,sz,rows,rows.length⟩)/\L E1 (.fp (if full then 1 else 0) sz rows) y/\Grow w E H w E1 (H.set id ⟨2,ty,sz,rows,rows.length⟩):=by
 obtain⟨E1,hs,g⟩:=zp.FU (B:=H.length) (s:=⟨[.sl id [] sz 0 len full],H⟩) 0 rfl hob hlen hno 0 w E ⟨#[y],[]⟩ ⟨hh,LL.one hl,pb _,gJ _⟩;have hn:=hs.heap.n
 refine⟨E1,hs.heap,hs.tmps.cons_inv.1,⟨⟨by rw[hn,hh.n];simp,λid hops hi=>g.le.β id hops tH,λid hops hi=>g.le.κ id hops tH,g.le.St,λid k u hi=>g.le.G id k u tH⟩,
  g.os,g.tape,g.output,g.size,g.frame,g.jS,g.own⟩⟩
def zp.Yj{s:S}(vid k:Nat){id sz len ty vty vsz fz:Nat}{full:Bool}{r:List C}{rows:List (List C)}(hv:s.H[vid]?=some ⟨1,vty,vsz,[r],fz⟩)(hk:r[k]?=some (.sl id [] sz 0 len full))(hob:s.H[id]?=some ⟨2,ty,sz,rows,0⟩)(hlen:len=rows.length)
 (hno:∀r∈rows,∀c∈r,zy c=true)(hr:r.all zy=true)(hr':(r.set k (.fp (if full then 1 else 0) sz rows)).all zy=true):
  zp B s ⟨s.tmps,(s.H.set id ⟨2,ty,sz,rows,rows.length⟩).set vid ⟨1,vty,vsz,[r.set k (.fp (if full then 1 else 0) sz rows)],fz⟩⟩:=λm w E a hs=>by
 have hgb:qb s.H vid []=some (vsz,[r]):=by unfold qb;rw[hv];simp[ja]
 obtain⟨cur,e,h3,h4,h5⟩:=(hs.heap.base.fJ _ _ _ _ _ hv hgb).fJ;obtain⟨u,hu,ho⟩:=h5 0 k _ (yY.2 ⟨rfl,hk⟩);rw[jb.loose rfl]at ho;have hl:L E (.sl id [] sz 0 len full) u:=aF
 obtain⟨E1,hh1,hl1,g1⟩:=hs.heap.Lg hl hob hlen hno;have hne:vid≠id:=by rintro rfl;rw[hv]at hob;cases hob
 have hob1:(s.H.set id ⟨2,ty,sz,rows,rows.length⟩)[vid]?=some ⟨1,vty,vsz,[r],fz⟩:=by rw[gM,gu (Ne.symm hne)];exact hv
 have hβ:E1.β vid []=E.β vid []:=g1.le.β vid [] (by rw[hs.heap.n];exact(gm.1 hv).1)
 have hcu:w.cell? ⟨E1.β vid [],k,none⟩=some u:=by
  unfold World.cell?;rw[hβ,h3];simpa using hu
 obtain⟨hR,g2⟩:=hh1.D7 hob1 (r':=r.set k (.fp (if full then 1 else 0) sz rows)) aj hr hr' λj c c' v e1 e2 hl' hv=>by
  rw[gM]at e2;split at e2
  ·rename_i e;subst e;rw[hcu]at hv;cases hv
   split at e2
   ·cases e2;exact hl1
   ·cases e2
  ·rw[e1]at e2;cases e2
   exact hl'
 exact du
def qs.I7{f:FuncId}{args:List C}{r:C}(h:qs P f [] args λc _=>yw 0 9 c=r):zb P f [] args r []:=λw E vs hh hl=>by
 refine(h w E vs hh hl).mono ?_;rintro e w' ⟨c,H',v,E',rfl,rfl,h1,h2,g⟩;have h3:=h1.drop 0 (pb _) (by simp[qV]);rw[eS]at h3;have hn:E.n=0:=hh.n
 exact⟨v,E'.cut 0,rfl,h3,h2.low 0 9,⟨⟨by rw[hn];exact pb _,λid hops hi=>by rw[hn]at hi;omega,λid hops hi=>by rw[hn]at hi;omega,g.le.St,λid k u hi=>by rw[hn]at hi;omega⟩,g.os,g.tape,g.output,g.size,g.frame,g.jS,
  λb h=>absurd h xm.none⟩⟩
def zb.zq{f:FuncId}{fn:Func}{c:Code}{args:List C}{r:C}(hf:P.funcs[f]?=some fn)(hb:fn.body=some c)
 (h:wpA P 0 c (entry fn args) [] λex t1 H1=>(ex=.ret\/ex=.normal)/\∃s2,zp 0 ⟨t1,H1⟩ s2/\(vJ P fn s2).map (yw 0 9)=some r):zb P f [] args r []:=by
 refine qs.I7 (qs.kQ (H:=[]) hf hb ((jD h).mono λex s1 ⟨hex,s2,hw,h2⟩=>?_));cases h3:vJ P fn s2 with
 |none=>rw[h3]at h2;cases h2
 |some r0=>
  rw[h3]at h2;cases h2
  exact⟨hex,s2,r0,hw,h3,rfl⟩
def ab{f:FuncId}{fn:Func}{c:Code}{args:List C}{r:C}{zQ:Prop}(hf:P.funcs[f]?=some fn)(z0:zQ)(hb:fn.body=some c:=by exact rfl)(ze:zQ->wpA P 0 c (entry fn args) [] λex t1 H1=>(ex=.ret\/ex=.normal)/\∃s2,zp 0 ⟨t1,H1⟩ s2/\(vJ P fn s2).map (yw 0 9)=some r:=by intro zh;(conv=>whnf);exact zh):zb P f [] args r []:=zb.zq hf hb (ze z0)
def zZ.seq{c:Code}{t:List C}{H:zl}{K:Exit->List C->zl->Prop}(N:Nat)(T:Nat->List C)(Hp:Nat->zl)(R:Nat->Prop)(h0:zp B ⟨t,H⟩ ⟨T 0,Hp 0⟩)(r0:R 0)
 (step:∀k,k<N->R k->wpA P B c (T k) (Hp k) λe t1 H1=>(e=.normal/\zp B ⟨t1,H1⟩ ⟨T (k+1),Hp (k+1)⟩/\R (k+1))\/(e≠.normal/\K e t1 H1))
 (done:R N->wpA P B c (T N) (Hp N) λe t1 H1=>e≠.normal/\K e t1 H1):
  Bq P B c t H K:=by
 have key:∀n k,k+n=N->R k->mn P B c (n+1) ⟨T k,Hp k⟩ λex s=>K ex s.tmps s.H:=by
  intro n
  induction n with
  |zero=>
   intro k hk hr;obtain rfl:k=N:=aw
   refine .step ((jD (done hr)).mono λex s1 ⟨hne,hK⟩=>?_);cases ex with
   |normal=>exact absurd rfl hne
   |_=>exact hK
  |succ n ih=>
   intro k hk hr;refine .step ((jD (step k aw hr)).post λex s1 h1=>?_);rcases h1 with⟨rfl,hw,hr'⟩|⟨hne,hK⟩
   ·exact⟨_,hw,(ih (k+1) aw hr':mn P B c (n+1) _ _)⟩
   ·refine⟨s1,.refl s1,?_⟩;cases ex with
    |normal=>exact absurd rfl hne
    |_=>exact hK
 exact⟨.pre h0 ⟨N+1,key N 0 aw r0⟩⟩
end
section
variable {P:Program} {B:Nat}
structure LoopN(P:Program)(B:Nat)(c:Code)(n:Nat)(t:List C)(H:zl)(K:Exit->List C->zl->Prop):Prop where
 out:mn P B c n ⟨t,H⟩ λex s=>K ex s.tmps s.H
def LoopN.step{c:Code}{n:Nat}{t:List C}{H:zl}{K:Exit->List C->zl->Prop}
 (h:wpA P B c t H λe t1 H1=>(e=.normal/\LoopN P B c n t1 H1 K)\/(e≠.normal/\K e t1 H1)):LoopN P B c (n+1) t H K:=by
 refine⟨.step ((jD h).post λex s1 h1=>?_)⟩;rcases h1 with⟨rfl,h⟩|⟨hne,hK⟩
 ·exact⟨s1,.refl s1,h.out⟩
 ·refine⟨s1,.refl s1,?_⟩;cases ex with
  |normal=>exact absurd rfl hne
  |_=>exact hK
def Bq.BG{c:Code}(n:Nat){t:List C}{H:zl}{K:Exit->List C->zl->Prop}(h:LoopN P B c n t H K):Bq P B c t H K:=⟨⟨n,h.out⟩⟩
end
section
variable {P:Program} {B:Nat}
def vH{x y:Code}{t:List C}{H:zl}{R:Exit->S->Prop}(h:wpA P B x t H λe t1 H1=>(e=.normal/\∃t2 H2,zp B ⟨t1,H1⟩ ⟨t2,H2⟩/\qX P B y ⟨t2,H2⟩ R)\/(e≠.normal/\R e ⟨t1,H1⟩)):qX P B (.seq x y) ⟨t,H⟩ R:=by
 refine .seq ((jD h).post λex s1 h1=>?_);rcases h1 with⟨rfl,t2,H2,hw,hr⟩|⟨hne,hr⟩
 ·exact⟨_,hw,hr⟩
 ·refine⟨s1,.refl s1,?_⟩;cases ex with
  |normal=>exact absurd rfl hne
  |_=>exact hr
def zb.ZE{f:FuncId}{fn:Func}{c:Code}{H H':zl}{args:List C}{r:C}(hf:P.funcs[f]?=some fn)(hb:fn.body=some c)
 (h:qX P H.length c ⟨entry fn args,H⟩ λex s=>(ex=.ret\/ex=.normal)/\s.H=H'/\vJ P fn s=some r):zb P f H args r H':=
 qs.at (qs.kQ hf hb (h.mono λex s1 ⟨hex,h2,h3⟩=>⟨hex,s1,r,.refl _,h3,rfl,h2⟩))
end
def behind:Nat->Code->Code
 |0,c=>c
 |n+1,.seq _ y=>behind n y
 |_,c=>c
def cE{B:Nat}(n:Nat){t1 t2:List C}{H1 H2:zl}(h:Ab.Ar t2 t1:=by (conv=>whnf);refine hZ ?_;exact trivial)(hB:Nat.ble B n=true:=by exact rfl)(hn:Nat.ble n H1.length=true:=by exact rfl)(ht:t2.all (jg n 9)=true:=by exact rfl)(hr:qV n (H1.take n)=true:=by exact rfl)(hH:H1.take n=H2:=by exact rfl):zp B ⟨t1,H1⟩ ⟨t2,H2⟩:=zp.xy n h hB hn ht hr hH
def cC{B:Nat}{t1 t2:List C}{H:zl}(h:Ab.Ar t2 t1:=by (conv=>whnf);refine hZ ?_;exact trivial):zp B ⟨t1,H⟩ ⟨t2,H⟩:=zp.Ar h
end Go.Ab
