import Derived.IntWalk
import Derived.Test.YtkbnjgogjccmfaaGreatSB
set_option linter.all false
set_option maxRecDepth 100000
set_option maxHeartbeats 4000000
namespace Go.Ab
def GM (x:Value) (k:Value->Prop):Prop:=
 match x with
 | .int t n=>k (.int t n)
 | .bool b=>k (.bool b)
 | .string s=>k (.string s)
 | x=>k x
def jn (n:Nat) (k:Nat->Prop):Prop:=
 match n with
 | 0=>k 0
 | 1=>k 1
 | 2=>k 2
 | 3=>k 3
 | 4=>k 4
 | 5=>k 5
 | 6=>k 6
 | 7=>k 7
 | 8=>k 8
 | 9=>k 9
 | 10=>k 10
 | 11=>k 11
 | 12=>k 12
 | 13=>k 13
 | 14=>k 14
 | 15=>k 15
 | 16=>k 16
 | 17=>k 17
 | 18=>k 18
 | 19=>k 19
 | 20=>k 20
 | 21=>k 21
 | 22=>k 22
 | 23=>k 23
 | 24=>k 24
 | 25=>k 25
 | 26=>k 26
 | 27=>k 27
 | 28=>k 28
 | 29=>k 29
 | 30=>k 30
 | 31=>k 31
 | 32=>k 32
 | 33=>k 33
 | 34=>k 34
 | 35=>k 35
 | 36=>k 36
 | 37=>k 37
 | 38=>k 38
 | 39=>k 39
 | 40=>k 40
 | 41=>k 41
 | 42=>k 42
 | 43=>k 43
 | 44=>k 44
 | 45=>k 45
 | 46=>k 46
 | 47=>k 47
 | 48=>k 48
 | 49=>k 49
 | 50=>k 50
 | 51=>k 51
 | 52=>k 52
 | 53=>k 53
 | 54=>k 54
 | 55=>k 55
 | 56=>k 56
 | 57=>k 57
 | 58=>k 58
 | 59=>k 59
 | 60=>k 60
 | 61=>k 61
 | 62=>k 62
 | 63=>k 63
 | 64=>k 64
 | n=>k n
def qu {n:Nat} {k:Nat->Prop} (h:jn n k):k n:=by
 unfold jn at h;split at h <;> exact h
def xn {α:Type}:List α->(List α->Prop)->Prop
 | [],k=>k []
 | x::xs,k=>xn xs fun ys=>k (x::ys)
def jb {α:Type}:∀ {l:List α} {k:List α->Prop},xn l k->k l
 | [],k,h=>h
 | x::xs,k,h=>jb (l:=xs) (k:=fun ys=>k (x::ys)) h
def qO (c:C) (k:C->Prop):Prop:=
 match c with
 | .v x=>GM x fun x=>k (.v x)
 | .u1 o sz rows=>k (.u1 o sz rows)
 | .jS cells=>xn cells fun cells=>k (.jS cells)
 | .ref id hops sz i j=>jn id fun id=>jn sz fun sz=>jn j fun j=>k (.ref id hops sz i j)
 | .sl id hops sz lo len full=>jn id fun id=>k (.sl id hops sz lo len full)
 | .fn f first caps=>k (.fn f first caps)
 | .mp id=>jn id fun id=>k (.mp id)
 | .agg cs=>xn cs fun cs=>k (.agg cs)
 | .u7 cs=>xn cs fun cs=>k (.u7 cs)
 | .un=>k .un
 | .za=>k .za
 | .gl id sz rows=>jn id fun id=>k (.gl id sz rows)
 | .fh t c=>k (.fh t c)
 | .rc r=>k (.rc r)
def OU {x:Value} {k:Value->Prop} (h:GM x k):k x:=by
 unfold GM at h;split at h <;> exact h
def zQ {c:C} {k:C->Prop} (h:qO c k):k c:=by
 cases c with
 | v x=>exact OU (k:=fun x=>k (.v x)) h
 | jS cells=>exact jb (k:=fun cells=>k (.jS cells)) h
 | ref id hops sz i j=>exact qu (k:=fun j=>k (.ref id hops sz i j)) (qu (k:=fun sz=>jn j fun j=>k (.ref id hops sz i j)) (qu (k:=fun id=>jn sz fun sz=>jn j fun j=>k (.ref id hops sz i j)) h))
 | sl id hops sz lo len full=>exact qu (k:=fun id=>k (.sl id hops sz lo len full)) h
 | mp id=>exact qu (k:=fun id=>k (.mp id)) h
 | gl id sz rows=>exact qu (k:=fun id=>k (.gl id sz rows)) h
 | agg cs=>exact jb (k:=fun cs=>k (.agg cs)) h
 | u7 cs=>exact jb (k:=fun cs=>k (.u7 cs)) h
 | _=>exact h
def y4 {α:Type} (f:α->(α->Prop)->Prop):List α->(List α->Prop)->Prop
 | [],k=>k []
 | x::xs,k=>f x fun x=>y4 f xs fun xs=>k (x::xs)
def qM {α:Type} {f:α->(α->Prop)->Prop} (hf:∀ x k,f x k->k x):∀ {l:List α} {k:List α->Prop},y4 f l k->k l
 | [],k,h=>h
 | x::xs,k,h=>qM hf (l:=xs) (k:=fun xs=>k (x::xs)) (hf x _ h)
def Gl (ob:Ob) (k:Ob->Prop):Prop:=
 match ob with
 | ⟨kind,ty,sz,rows,fz⟩=>match kind with
  | 1=>jn sz fun sz=>y4 (y4 qO) rows fun rows=>k ⟨1,ty,sz,rows,fz⟩
  | kd=>k ⟨kd,ty,sz,rows,fz⟩
def OB {ob:Ob} {k:Ob->Prop} (h:Gl ob k):k ob:=by
 obtain ⟨kind,ty,sz,rows,fz⟩:=ob;unfold Gl at h;dsimp only at h;split at h
 ·exact qM (fun _ _ h=>qM (fun _ _ h=>zQ h) h) (k:=fun rows=>k ⟨1,ty,sz,rows,fz⟩) (qu (k:=fun sz=>y4 (y4 qO) rows fun rows=>k ⟨1,ty,sz,rows,fz⟩) h)
 ·exact h
def oU (H:zl) (k:zl->Prop):Prop:=y4 Gl H k
def ka {H:zl} {k:zl->Prop} (h:oU H k):k H:=qM (fun _ _ h=>OB h) h
def okB (c:C) (k:C->Prop):Prop:=
 match c with
 | .v (.bool b)=>(b=true->k (.v (.bool true)))∧(b=false->k (.v (.bool false)))
 | c=>k c
def HF (c:C) (k:C->Prop):Prop:=
 match c with
 | .v (.bool b)=>match b with
  | true=>k (.v (.bool true))
  | false=>k (.v (.bool false))
 | c=>qO c k
def Kf {c:C} {k:C->Prop} (h:HF c k):k c:=by
 unfold HF at h;split at h
 ·rename_i b;cases b <;> exact h
 ·exact zQ h
def jj {c:C} {k:C->Prop} (h:okB c k):k c:=by
 unfold okB at h;split at h
 ·rename_i b;cases b
  ·exact h.2 rfl
  ·exact h.1 rfl
 ·exact h
def oJ {α:Type}:List α->Nat->α->(List α->Prop)->Prop
 | [],_,_,k=>k []
 | _::xs,0,y,k=>k (y::xs)
 | x::xs,n+1,y,k=>oJ xs n y fun ys=>k (x::ys)
def k8 {α:Type}:∀ {l:List α} {n:Nat} {y:α} {k:List α->Prop},oJ l n y k->k (l.set n y)
 | [],_,_,k,h=>h
 | _::xs,0,y,k,h=>h
 | x::xs,n+1,y,k,h=>k8 (l:=xs) (n:=n) (y:=y) (k:=fun ys=>k (x::ys)) h
def lS (tmps:List C) (dst:Option Tmp) (c:C) (k:List C->Prop):Prop:=
 match dst with
 | some d=>oJ tmps d c k
 | none=>k tmps
def jN {tmps:List C} {dst:Option Tmp} {c:C} {k:List C->Prop} (h:lS tmps dst c k):k (put tmps dst c):=by
 cases dst with
 | none=>exact h
 | some d=>exact k8 h
def bK (b:Bool) (k:Prop):Prop:=
 match b with
 | true=>k
 | false=>False
def zX {b:Bool} {k:Prop} (h:bK b k):b=true∧k:=by
 cases b
 ·exact cN
 ·exact ⟨rfl,h⟩
def mS (ρ:Operand->C) (x:Option Operand) (dflt:Nat) (k:Nat->Prop):Prop:=
 match x with
 | none=>k dflt
 | some y=>match ρ y with
  | .v (.int _ n)=>0<=n∧k n.toNat
  | _=>False
def ym {ρ:Operand->C} {x:Option Operand} {dflt:Nat} {k:Nat->Prop} (h:mS ρ x dflt k):∃ n,iW ρ x dflt n∧k n:=by
 unfold mS at h;unfold iW;cases x with
 | none=>exact ⟨dflt,rfl,h⟩
 | some y=>
  dsimp only at h;split at h
  ·rename_i kd n e;exact ⟨n.toNat,⟨kd,by rw [e,pV h.1]⟩,h.2⟩
  ·exact cN
def ot (place:Nat->Option (Nat × Nat)):List C->List (Nat × C)->(List C->Prop)->Prop
 | cells,[],k=>k cells
 | cells,(i,c)::rest,k=>match place i with
  | none=>False
  | some (off,size)=>bK (lu c && (c.cells.length == size) && decide (off+size<=cells.length)) <| y4 qO (yl off c.cells cells) fun cells=>ot place cells rest k
def Fh {place:Nat->Option (Nat × Nat)}:∀ {parts:List (Nat × C)} {cells:List C} {k:List C->Prop},ot place cells parts k->∃ cs,oq place cells parts=some cs∧k cs
 | [],cells,k,h=>⟨cells,rfl,h⟩
 | (i,c)::rest,cells,k,h=>by
  unfold ot at h;split at h
  ·exact cN
  ·rename_i off size hp;obtain ⟨h1,h2⟩:=zX h;have h3:=qM (fun _ _ h=>zQ h) (k:=fun cells=>ot place cells rest k) h2;obtain ⟨cs,h4,h5⟩:=Fh h3;refine ⟨cs,?_,h5⟩;simp only [oq,hp];rw [dU h1];exact h4
def GZ (P:Program) (t:TypeId) (parts:List (Nat × C)) (k:List C->Prop):Prop:=
 match mN P t,P.underlying t with
 | some z,some (.array _ e)=>match P.info? e with
  | some ie=>y4 qO z fun z=>ot (fun i=>some (i * ie.size,ie.size)) z parts k
  | none=>False
 | some z,some (.struct fields)=>match fields.toList.mapM (fun f=>(P.info? f.type).map fun i=>(f.offset,i.size)) with
  | some places=>xn places fun places=>y4 qO z fun z=>ot (places.toArray[·]?) z parts k
  | none=>False
 | _,_=>False
def IM {P:Program} {t:TypeId} {parts:List (Nat × C)} {k:List C->Prop} (h:GZ P t parts k):∃ cs,D8 P t parts=some cs∧k cs:=by
 unfold GZ at h;unfold D8;split at h
 ·rename_i z n e hz hu;simp only [hz,hu];split at h
  ·rename_i ie hie;simp only [hie];exact Fh (qM (fun _ _ h=>zQ h) (k:=fun z=>ot (fun i=>some (i * ie.size,ie.size)) z parts k) h)
  ·exact cN
 ·rename_i z fields hz hu;simp only [hz,hu];split at h
  ·rename_i places hpl;simp only [hpl];have h1:=jb (k:=fun places:List (Nat × Nat)=>y4 qO z fun z=>ot (places.toArray[·]?) z parts k) h;exact Fh (qM (fun _ _ h=>zQ h) (k:=fun z=>ot (places.toArray[·]?) z parts k) h1)
  ·exact cN
 ·exact cN
def G5 (P:Program) (H:zl) (ρ:Operand->C) (t:TypeId) (x:Operand) (lo hi mx:Option Operand) (K:C->zl->Prop):Prop:=
 match P.underlying t with
 | some (.slice e)=>match P.info? e with
  | some i=>match ρ x with
   | .u1 fo sz rows=>(rows=[]∨sz=i.size)∧match mx with
    | none=>match hi with
     | none=>mS ρ lo 0 fun l=>l<=rows.length∧K (.u1 (if fo == 1 then 1 else 0) sz (rows.drop l)) H
     | some hh=>mS ρ lo 0 fun l=>mS ρ (some hh) rows.length fun h=>l<=h∧h<=rows.length∧K (.u1 0 sz ((rows.drop l).take (h - l))) H
    | some m=>match hi with
     | some hh=>mS ρ lo 0 fun l=>mS ρ (some hh) 0 fun h=>mS ρ (some m) 0 fun m'=>m'=h∧l<=h∧h<=rows.length∧K (.u1 1 sz ((rows.drop l).take (h - l))) H
     | none=>False
   | .sl id hops sz lo0 len full=>match mx with
    | none=>sz=i.size∧mS ρ lo 0 fun l=>mS ρ hi len fun h=>l<=h∧h<=len∧(l=0∨l < h)∧(full=false∨h=len)∧K (.sl id hops sz (lo0+l) (h - l) full) H
    | some _=>False
   | _=>False
  | none=>False
 | some .string=>match ρ x with
  | .v (.string s)=>match s with
   | ⟨⟨b⟩⟩=>match mx with
    | none=>mS ρ lo 0 fun l=>mS ρ hi b.length fun h=>l<=h∧h<=b.length∧K (.v (.string ⟨⟨(b.take h).drop l⟩⟩)) H
    | some _=>False
  | _=>False
 | _=>False
def Ha (P:Program) (H:zl) (ρ:Operand->C) (t:TypeId) (x y:Operand) (K:C->zl->Prop):Prop:=
 match P.underlying t with
 | some (.slice e)=>match P.info? e with
  | some i=>match ρ y with
   | .v (.int _ n)=>match ρ x with
    | .u1 o sz rows=>bK ((o == 0 || o == 1) && sz == i.size) <| 0<=n∧∃ r,rows[n.toNat]?= some r∧K (.jS r) H
    | .sl id hops sz lo len _=>bK (sz == i.size) <| 0<=n∧n.toNat < len∧K (.ref id hops sz (lo+n.toNat) 0) H
    | _=>False
   | _=>False
  | none=>False
 | some (.array len e)=>match P.info? e with
  | some i=>match ρ y with
   | .v (.int _ n)=>match wR (ρ x) (n.toNat * i.size) with
    | some c=>0<=n∧n < len∧qO c fun c=>K c H
    | none=>False
   | _=>False
  | none=>False
 | _=>False
def Hb (P:Program) (H:zl) (ρ:Operand->C) (t:TypeId) (x y:Operand) (K:C->zl->Prop):Prop:=
 match ρ y with
 | .v (.int _ n)=>match P.underlying t with
  | some .string=>match ρ x with
   | .v (.string s)=>match s with
    | ⟨⟨b⟩⟩=>0<=n∧∃ c,b[n.toNat]?= some c∧K (.v (.int .u8 c.toNat)) H
   | _=>False
  | some (.array len e)=>match P.info? e with
   | some i=>match ρ x with
    | .agg cs=>0<=n∧n < len∧∃ c,nO P e cs (n.toNat * i.size)=some c∧okB c fun c=>qO c fun c=>K c H
    | _=>False
   | none=>False
  | _=>False
 | _=>False
def GS (P:Program) (H:zl) (ρ:Operand->C) (t:TypeId) (x:Operand) (f:Nat) (K:C->zl->Prop):Prop:=
 match P.underlying t with
 | some (.struct fs)=>match fs[f]? with
  | some fd=>match ρ x with
   | .agg cs=>match nO P fd.type cs fd.offset with
    | some c=>okB c fun c=>qO c fun c=>K c H
    | none=>False
   | _=>False
  | none=>False
 | _=>False
def GR (P:Program) (H:zl) (ρ:Operand->C) (t:TypeId) (x:Operand) (f:Nat) (K:C->zl->Prop):Prop:=
 match P.underlying t with
 | some (.struct fs)=>match fs[f]? with
  | some fd=>match P.info? fd.type with
   | some i=>match wR (ρ x) fd.offset with
    | some c=>bK (i.size != 0) <| qO c fun c=>K c H
    | none=>False
   | none=>False
  | none=>False
 | _=>False
def DL (P:Program) (H:zl) (x:C) (sz':Nat) (rows':List (List C)) (e:TypeId) (i:TypeInfo) (K:C->zl->Prop):Prop:=
 match rows' with
 | []=>(xN H (ff x)).isSome=true∧K (ff x) H
 | r'::rs'=>bK (sz' == i.size) <| jn i.size fun sz0=>jn H.length fun m=>match x with
  | .u1 1 sz rows=>(rows=[]∨sz=sz0)∧rows.length+(rs'.length+1)<=maxLen∧(rows.length+(rs'.length+1)) * i.bytes<=140737488355328∧
    xn (H++[⟨2,e,sz0,rows++r'::rs',0⟩]) fun H'=>K (.sl m [] sz0 0 (rows.length+(rs'.length+1)) false) H'
  | .sl id [] sz 0 n false=>match H[id]? with
   | some ob=>bK (sz == sz0 && ob.kind == 2 && ob.ty == e && ob.sz == sz0) <| ob.rows.length=n∧ob.rows.all (·.all zy)=true∧n+(rs'.length+1)<=maxLen∧(n+(rs'.length+1)) * i.bytes<=140737488355328∧
     xn (xU H id++[⟨2,e,sz0,ob.rows++r'::rs',ob.fz⟩]) fun H'=>K (.sl m [] sz0 0 (n+(rs'.length+1)) false) H'
   | none=>False
  | _=>False
def L7 (H:zl) (sz:Nat) (rows:List (List C)) (sz':Nat) (rows':List (List C)) (e:TypeId) (i:TypeInfo) (K:C->zl->Prop):Prop:=
 jn i.size fun sz0=>jn H.length fun m=>(rows=[]∨sz=sz0)∧(rows'=[]∨sz'=sz0)∧rows.length+rows'.length<=maxLen∧(rows.length+rows'.length) * i.bytes<=140737488355328∧
  xn (H++[⟨4,e,sz0,rows++rows',0⟩]) fun H'=>K (.gl m sz0 (rows++rows')) H'
def Gz (P:Program) (H:zl) (ρ:Operand->C) (x y:Operand) (e:TypeId) (i:TypeInfo) (K:C->zl->Prop):Prop:=
 match xN H (ff (ρ y)) with
 | some (sz',rows')=>match ρ x with
  | .gl id sz rows=>match H[id]? with
   | some ob=>bK (sz == i.size) <| jn i.size fun sz0=>ob=⟨4,e,sz,rows,0⟩∧(rows'=[]∨sz'=sz0)∧rows.length+rows'.length<=maxLen∧(rows.length+rows'.length) * i.bytes<=140737488355328∧
     oJ H id ⟨4,e,sz0,rows++rows',0⟩ fun H'=>K (.gl id sz0 (rows++rows')) H'
   | none=>False
  | .u1 1 sz rows=>L7 H sz rows sz' rows' e i K∨DL P H (.u1 1 sz rows) sz' rows' e i K
  | x=>DL P H x sz' rows' e i K
 | none=>False
def HR (H:zl) (op:BinOp) (a b:List UInt8) (K:C->zl->Prop):Prop:=
 match op with
 | .eql=>okB (.v (.bool (a == b))) fun c=>K c H
 | .neq=>okB (.v (.bool (!(a == b)))) fun c=>K c H
 | .add=>a.length+b.length<=9223372036854775807∧K (.v (.string ⟨⟨a++b⟩⟩)) H
 | _=>False
def Ep (P:Program) (H:zl) (ρ:Operand->C) (o:Oper) (cl:Call) (K:C->zl->Prop):Prop:=
 match cl.callee with
 | .value x=>match ρ x with
  | .fn f first caps=>bK (qt P f) <| ∃ r H',zb P f H (first++(cl.args.toList.map fun x=>ff (ρ x))++caps) r H'∧okB r fun r=>K r H'
  | .v (.func g first caps)=>match g with
   | .yield l=>bK (first.isEmpty && caps.isEmpty) <| ∃ r H',jy P l H (cl.args.toList.map ρ) r H'∧okB r fun r=>K r H'
   | _=>False
  | _=>False
 | .invoke x name=>match ρ x with
  | .fh t c=>∃ f,Hq P t name f=true∧qt P f=true∧∃ r H',zb P f H (c::(cl.args.toList.map ρ)) r H'∧okB r fun r=>K r H'
  | _=>False
 | .builtin .len=>match cl.args.toList,cl.argTypes.toList with
  | [x],[t]=>match P.underlying t with
   | some (.slice _)=>match ED (ff (ρ x)) with
    | some n=>K (.v (.int .i64 n)) H
    | none=>False
   | some .string=>match ρ x with
    | .v (.string s)=>match s with
     | ⟨⟨b⟩⟩=>K (.v (.int .i64 b.length)) H
    | _=>False
   | _=>match iQ P (execOp (fun x=>nT (ρ x)) o) with
    | some (.value v)=>bK (o.op.operands.toList.all (fun x=>eF (ρ x)) && v.oneCell') <| okB (.v v) fun c=>K c H
    | _=>False
  | _,_=>False
 | .builtin .append=>match cl.args.toList,cl.argTypes.toList with
  | [x,y],[t,t']=>bK (t' == t) <| match P.underlying t with
   | some (.slice e)=>match P.info? e with
    | some i=>match i.zero with
     | some z=>bK (z.cells.size == i.size) <| Gz P H ρ x y e i K
     | none=>False
    | none=>False
   | _=>False
  | _,_=>False
 | _=>match iQ P (execOp (fun x=>nT (ρ x)) o) with
  | some (.value v)=>bK (o.op.operands.toList.all (fun x=>eF (ρ x)) && v.oneCell') <| okB (.v v) fun c=>K c H
  | _=>False
def Ng (P:Program) (H:zl) (o:Oper) (ρ:Operand->C) (op:BinOp) (t:TypeId) (xs ys:List C) (K:C->zl->Prop):Prop:=
 (!P.eqGuardType P.depth t && mH P 9 t)=true∧match mD P 9 t (.agg xs) (.agg ys) with
  | some b=>match op with
   | .eql=>okB (.v (.bool b)) fun c=>K c H
   | .neq=>okB (.v (.bool (!b))) fun c=>K c H
   | _=>False
  | none=>False
def CH (P:Program) (t:TypeId) (id:Nat) (hops:List eU) (i k:Nat) (r:List C) (K:C->Prop):Prop:=
 match P.underlying t,P.info? t with
 | some d,some inf=>match Bb d with
  | true=>k+inf.size<=r.length∧y4 qO (vp id hops i k ((r.drop k).take inf.size)) fun cs=>K (.agg cs)
  | false=>k+1<=r.length∧match vp id hops i k ((r.drop k).take 1) with
   | [x]=>okB x fun x=>qO x K
   | _=>False
 | _,_=>False
def CM (P:Program) (H:zl) (t:TypeId) (c:C) (K:C->Prop):Prop:=
 match c with
 | .ref id hops sz i k=>match H[id]? with
  | some ⟨kind,ty,osz,orows,fz⟩=>match kind with
   | 2=>match hops with
    | []=>bK (osz == sz) <| ∃ r,orows[i]?= some r∧CH P t id [] i k r K
    | h::hs=>∃ rows r,qb H id (h::hs)=some (sz,rows)∧rows[i]?= some r∧CH P t id (h::hs) i k r K
   | 1=>match ty with
    | 0=>bK (osz == sz && hops.isEmpty) <| ∃ r,orows[i]?= some r∧CH P t id [] i k r K
    | _=>match wy P H t (.ref id hops sz i k) with
     | some c=>okB c fun c=>qO c K
     | none=>False
   | _=>match wy P H t (.ref id hops sz i k) with
    | some c=>okB c fun c=>qO c K
    | none=>False
  | none=>False
 | c=>match wy P H t c with
  | some c=>okB c fun c=>qO c K
  | none=>False
def Fw {P:Program} {H:zl} {t:TypeId} {id:Nat} {hops:List eU} {sz i k:Nat} {rows:List (List C)} {r:List C} {K:C->Prop} (hg:qb H id hops=some (sz,rows)) (hr:rows[i]?= some r) (h:CH P t id hops i k r K):
  ∃ c,wy P H t (.ref id hops sz i k)=some c∧K c:=by
 unfold CH at h;split at h
 ·rename_i d inf hd hi;have hrd:∀ n,k+n<=r.length->m8 H (.ref id hops sz i k) n=some (vp id hops i k ((r.drop k).take n)):=fun n hn=>by simp [m8,hg,hr,hn]
  split at h
  ·rename_i hag;obtain ⟨h1,h2⟩:=h;refine ⟨_,?_,qM (fun _ _ h=>zQ h) (k:=fun cs=>K (.agg cs)) h2⟩;unfold wy;rw [hd,hi];simp only [hag,if_true];rw [hrd _ h1]
   rfl
  ·rename_i hag;obtain ⟨h1,h2⟩:=h;split at h2
   ·rename_i x hx;refine ⟨x,?_,zQ (jj (k:=fun x=>qO x K) h2)⟩;unfold wy;rw [hd,hi];simp only [hag];rw [hrd _ h1,hx]
    rfl
   ·exact h2.elim
 ·exact cN
def Db {P:Program} {H:zl} {t:TypeId} {c:C} {K:C->Prop} (h:CM P H t c K):∃ c',wy P H t c=some c'∧K c':=by
 unfold CM at h;split at h
 ·split at h
  ·rename_i id hops sz i k kind ty osz orows fz hob;split at h
   ·split at h
    ·obtain ⟨h1,r,h2,h3⟩:=zX h;simp only [gT] at h1;exact Fw (by unfold qb;rw [hob];simp [qT,h1]) h2 h3
    ·obtain ⟨rows,r,h1,h2,h3⟩:=h;exact Fw h1 h2 h3
   ·split at h
    ·obtain ⟨h1,r,h2,h3⟩:=zX h;simp only [dY,gT,ur] at h1;obtain ⟨h1,rfl⟩:=h1;exact Fw (by unfold qb;rw [hob];simp [qT,h1]) h2 h3
    ·split at h
     ·rename_i c hc;exact ⟨c,hc,zQ (jj (k:=fun c=>qO c K) h)⟩
     ·exact cN
   ·split at h
    ·rename_i c hc;exact ⟨c,hc,zQ (jj (k:=fun c=>qO c K) h)⟩
    ·exact cN
  ·exact cN
 ·split at h
  ·rename_i c hc;exact ⟨c,hc,zQ (jj (k:=fun c=>qO c K) h)⟩
  ·exact cN
def vK (r:List C) (k:Nat) (cs:List C) (K:List C->Prop):Prop:=bK (Nat.ble (k+cs.length) r.length) <| xn (yl k cs r) K
def Fz {r:List C} {k:Nat} {cs:List C} {K:List C->Prop} (h:vK r k cs K):k+cs.length<=r.length∧K (yl k cs r):=
 ⟨rE (zX h).1,jb (zX h).2⟩
def Ea (P:Program) (H:zl) (t:TypeId) (a x:C) (K:zl->Prop):Prop:=
 match a with
 | .ref id hops sz i k=>match H[id]? with
  | some ⟨kind,ty,osz,orows,fz⟩=>match kind with
   | 2=>match P.info? t with
    | some inf=>bK (lu x && (x.cells.length == inf.size) && x.cells.all jl) <| y4 qO x.cells fun cs=>match hops with
     | []=>bK (osz == sz && fz == 0) <| ∃ r,orows[i]?= some r∧((r.drop k).take cs.length).all zy=true∧vK r k cs fun r'=>oJ H id ⟨2,ty,osz,orows.set i r',0⟩ K
     | h::hs=>bK (fz == 0) <| ∃ rows r,qb H id (h::hs)=some (sz,rows)∧rows[i]?= some r∧((r.drop k).take cs.length).all zy=true∧vK r k cs fun r'=>oJ H id ⟨2,ty,osz,jE orows (h::hs) (fun rows=>rows.set i r'),0⟩ K
    | none=>False
   | 1=>match ty with
    | 0=>match P.info? t with
     | some inf=>bK (lu x && (x.cells.length == inf.size)) <| y4 qO x.cells fun cs=>bK (osz == sz && fz == 0 && hops.isEmpty) <| ∃ r,orows[i]?= some r∧((r.drop k).take cs.length).all zy=true∧vK r k cs fun r'=>oJ H id ⟨1,0,osz,orows.set i r',0⟩ K
     | none=>False
    | _=>match hops,orows,i with
     | [],[r],0=>match P.info? t with
      | some inf=>bK (osz == sz && fz == 0 && lu x && (x.cells.length == inf.size) && ((r.drop k).take x.cells.length).all zy) <| y4 qO x.cells fun cs=>vK r k cs fun r'=>oJ H id ⟨1,ty,osz,[r'],0⟩ K
      | none=>False
     | hops,_,i=>match vo P H t (.ref id hops sz i k) x with
      | some H'=>oU H' K
      | none=>False
   | _=>match vo P H t (.ref id hops sz i k) x with
    | some H'=>oU H' K
    | none=>False
  | none=>False
 | a=>match vo P H t a x with
  | some H'=>oU H' K
  | none=>False
def yY {α:Type} {l:List α} {i:Nat} {r:α} (f:α->α) (h:l[i]?= some r):l.modify i f=l.set i (f r):=by
 apply pq
 intro j;rw [pA,gj];split
 ·rename_i e;subst e;rw [dU (dP.1 h).1,h]
  rfl
 ·simp
def JZ {f g:List (List C)->List (List C)}:∀ (hops:List eU) (sz:Nat) (rows:List (List C)) {sz':Nat} {rows':List (List C)},vD sz rows hops=some (sz',rows')->f rows'=g rows'->jE rows hops f=jE rows hops g
 | [],sz,rows,sz',rows',h,he=>by
  rw [qT] at h;cases h
  exact he
 | (i,k)::hs,sz,rows,sz',rows',h,he=>by
  rw [xH] at h;rw [Dt,Dt];split at h
  ·rename_i sz2 rows2 hc
   try rw [hc]
   simp only [JZ hs sz2 rows2 h he]
  ·cases h
def I4 {P:Program} {H:zl} {t:TypeId} {a x:C} {K:zl->Prop} (h:Ea P H t a x K):∃ H',vo P H t a x=some H'∧K H':=by
 unfold Ea at h;cases a with
 | ref id hops sz i k=>
  dsimp only at h;split at h
  ·rename_i kind ty osz orows fz hob;split at h
   ·split at h
    ·rename_i inf hinf;obtain ⟨hv,h⟩:=zX h;have h:=qM (fun _ _ h=>zQ h) h;simp only [dY,gT] at hv
     have go:∀ hops rows r,qb H id hops=some (sz,rows)->rows[i]?= some r->fz=0->((r.drop k).take x.cells.length).all zy=true->(vK r k x.cells fun r'=>oJ H id ⟨2,ty,osz,jE orows hops (fun rows=>rows.set i r'),0⟩ K)->
       ∃ H',vo P H t (.ref id hops sz i k) x=some H'∧K H':=fun hops rows r h1 h2 h0 h3 h4=>by
      obtain ⟨h5,h6⟩:=Fz h4;have h6:=k8 h6;refine ⟨_,?_,h6⟩;unfold vo;rw [hinf];dsimp only;rw [h1,hob];dsimp only;rw [h2];dsimp only;rw [dU]
      ·congr 1
       unfold lY;rw [yY _ hob]
       congr 1
       dsimp only;subst h0
       congr 1
       obtain ⟨ob2,e1,_,e3⟩:=jh h1;rw [hob] at e1;cases e1
       exact JZ hops _ _ e3 (by unfold kO;rw [yY _ h2])
      ·simp only [dY,gT,pJ,gp];exact ⟨⟨⟨⟨⟨⟨⟨trivial,hv.1.1⟩,hv.1.2⟩,h5⟩,h3⟩,.inr hv.2⟩,.inr aw⟩,.inr h0⟩
     split at h
     ·obtain ⟨h1,r,h2,h3,h4⟩:=zX h;simp only [dY,gT] at h1;exact go [] orows r (by unfold qb;rw [hob];simp [qT,h1.1]) h2 h1.2 h3 h4
     ·obtain ⟨h1,rows,r,h2,h3,h4,h5⟩:=zX h;simp only [gT] at h1;exact go _ rows r h2 h3 h1 h4 h5
    ·exact cN
   ·split at h
    ·split at h
     ·rename_i inf hinf;obtain ⟨hv,h⟩:=zX h;have h:=qM (fun _ _ h=>zQ h) h;obtain ⟨h1,r,h2,h3,h4⟩:=zX h;obtain ⟨h5,h6⟩:=Fz h4;have h6:=k8 h6;simp only [dY,gT,ur] at hv h1;obtain ⟨⟨rfl,rfl⟩,rfl⟩:=h1;refine ⟨_,?_,h6⟩;have hg:qb H id []=some (osz,orows):=by unfold qb;rw [hob];simp [qT]
      unfold vo;rw [hinf];dsimp only;rw [hg,hob];dsimp only;rw [h2];dsimp only;rw [dU]
      ·congr 1
       unfold lY;rw [yY _ hob]
       congr 1
       dsimp only;rw [DH];unfold kO;rw [yY _ h2]
      ·simp only [dY,gT,pJ,gp];exact ⟨⟨⟨⟨⟨⟨⟨trivial,hv.1⟩,hv.2⟩,h5⟩,h3⟩,.inl trivial⟩,.inr aw⟩,.inr trivial⟩
     ·exact cN
    ·split at h
     ·rename_i r;split at h
      ·rename_i inf hinf;obtain ⟨hv,h⟩:=zX h;have h:=qM (fun _ _ h=>zQ h) h;obtain ⟨h5,h6⟩:=Fz h;have h6:=k8 h6;simp only [dY,gT] at hv;refine ⟨_,?_,h6⟩;have h1:qb H id []=some (osz,[r]):=by unfold qb;rw [hob];simp [qT]
       unfold vo;rw [hinf];dsimp only;rw [h1,hob];dsimp only;rw [show [r][0]?= some r from rfl];dsimp only;rw [dU]
       ·congr 1
        unfold lY;rw [yY _ hob]
        congr 1
        dsimp only;obtain ⟨⟨⟨⟨_,rfl⟩,_⟩,_⟩,_⟩:=hv;rw [DH];unfold kO
        rfl
       ·simp only [dY,gT,pJ,gp];obtain ⟨⟨⟨⟨e1,e2⟩,e3⟩,e4⟩,e5⟩:=hv;exact ⟨⟨⟨⟨⟨⟨⟨e1,e3⟩,e4⟩,h5⟩,e5⟩,.inl trivial⟩,.inr aw⟩,.inr e2⟩
      ·exact cN
     ·split at h
      ·rename_i H' hc;exact ⟨H',hc,ka h⟩
      ·exact cN
   ·split at h
    ·rename_i H' hc;exact ⟨H',hc,ka h⟩
    ·exact cN
  ·exact cN
 | _=>
  dsimp only at h;split at h
  ·rename_i H' hc;exact ⟨H',hc,ka h⟩
  ·exact cN
def V3 (H:zl) (a y:C):Bool:=
 match a with
 | .ref id _ _ _ _=>match H[id]? with
  | some ob=>match ob.kind with
   | 2=>true
   | 1=>match ob.ty with
    | 0=>match y with
     | .gl ..=>false
     | _=>true
    | _=>false
   | _=>false
  | none=>false
 | _=>false
def Hv (P:Program) (H:zl) (ρ:Operand->C) (o:Oper) (src dst:TypeId) (x:Operand) (K:C->zl->Prop):Prop:=
 match Ab.ff (ρ x) with
 | .u1 _ sz rows=>match P.underlying src,P.underlying dst with
  | some (.slice e),some .string=>match P.underlying e with
   | some (.int .u8)=>bK (sz == 1) <| ∃ bts:List UInt8,rows=bts.map Ax∧K (.v (.string ⟨⟨bts⟩⟩)) H
   | _=>False
  | _,_=>False
 | _=>match iQ P (execOp (fun x=>nT (ρ x)) o) with
  | some (.value v)=>bK (xK o && o.op.operands.toList.all (fun x=>eF (ρ x)) && v.oneCell') <| okB (.v v) fun c=>K c H
  | _=>False
def Ho (P:Program) (H:zl) (ρ:Operand->C) (t:TypeId) (x y:Operand) (K:C->zl->Prop):Prop:=
 match ρ x,ρ y with
 | .v (.int _ n),.v (.int _ n')=>match P.underlying t with
  | some (.slice e)=>match P.info? e with
   | some i=>match mN P e with
    | some cs=>bK (cs.all jl) <| n'=n∧0<=n∧(i.bytes:Int) * n<=281474976710656∧n<=9223372036854775807∧
      jn i.size fun sz=>jn H.length fun m=>xn (H++[⟨2,e,sz,List.replicate n.toNat cs,0⟩]) fun H'=>K (.sl m [] sz 0 n.toNat false) H'
    | none=>False
   | none=>False
  | _=>False
 | _,_=>False
def Hn (o:Oper):Option (BinOp × TypeId × Operand):=
 match o.op with
 | .binOp op t x y _=>match y with
  | .const v=>match v with
   | .slice none 0 0=>some (op,t,x)
   | _=>none
  | _=>none
 | _=>none
def HT (P:Program) (H:zl) (op:BinOp) (t:TypeId) (x:C) (K:C->zl->Prop):Prop:=
 match P.underlying t with
 | some (.slice _)=>match x with
  | .u1 _ _ rows=>match rows with
   | []=>match op with
    | .eql=>K (.v (.bool true)) H∧K (.v (.bool false)) H
    | .neq=>K (.v (.bool true)) H∧K (.v (.bool false)) H
    | _=>False
   | r::rs=>match op with
    | .eql=>r::rs≠[]∧K (.v (.bool false)) H
    | .neq=>r::rs≠[]∧K (.v (.bool true)) H
    | _=>False
  | .sl ..=>match op with
   | .eql=>K (.v (.bool false)) H
   | .neq=>K (.v (.bool true)) H
   | _=>False
  | _=>False
 | _=>False
def HB (o:Oper):Option (BinOp × TypeId × Operand):=
 match o.op with
 | .binOp op t x y _=>match y with
  | .const v=>match v with
   | .pointer p=>match p with
    | none=>some (op,t,x)
    | some _=>none
   | _=>none
  | _=>none
 | _=>none
def Hc (x:C):Option Bool:=
 match x with
 | .ref ..=>some false
 | .jS _=>some false
 | .v y=>match y with
  | .pointer p=>match p with
   | none=>some true
   | some _=>some false
  | _=>none
 | _=>none
def Ey (P:Program) (t:TypeId):Bool:=
 match P.underlying t with
 | some (.pointer e)=>e == P.pointee t
 | _=>false
def HV (P:Program) (H:zl) (op:BinOp) (t:TypeId) (x:C) (K:C->zl->Prop):Prop:=
 match Hc x with
 | some b=>match op with
  | .eql=>bK (Ey P t) <| K (.v (.bool b)) H
  | .neq=>bK (Ey P t) <| K (.v (.bool (!b))) H
  | _=>False
 | none=>False
def mL (P:Program) (H:zl) (ρ:Operand->C) (o:Oper) (K:C->zl->Prop):Prop:=
 match o.op with
 | .move x=>qO (ρ x) fun c=>K c H
 | .assign x=>qO (ρ x) fun c=>K c H
 | .pick x y z=>match ρ x with
  | .v (.bool b)=>qO (if b then ρ y else ρ z) fun c=>K c H
  | _=>False
 | .alloc t=>match mN P t with
  | some cs=>xn cs fun cs=>jn cs.length fun n=>jn H.length fun m=>xn (H++[⟨1,t,n,[cs],0⟩]) fun H'=>K (.ref m [] n 0 0) H'
  | none=>False
 | .box t x=>bK (lu (ρ x)) <| y4 qO (ρ x).cells fun cs=>jn cs.length fun n=>jn H.length fun m=>xn (H++[⟨1,t,n,[cs],0⟩]) fun H'=>K (.ref m [] n 0 0) H'
 | .fieldAddr t x f=>GR P H ρ t x f K
 | .indexAddr t x y=>Ha P H (fun x=>ff (ρ x)) t x y K
 | .index t x y=>Hb P H ρ t x y K
 | .field t x f=>GS P H ρ t x f K
 | .load t x=>CM P H t (ρ x) fun c=>K c H
 | .store t x y=>match V3 H (ρ x) (ρ y) with
  | true=>Ea P H t (ρ x) (wE (ρ y)) fun H'=>K .un H'
  | false=>Ea P H t (ρ x) (ρ y) fun H'=>K .un H'
 | .extract x n=>match ρ x with
  | .u7 vs=>match vs[n]? with
   | some c=>okB c fun c=>qO c fun c=>K c H
   | none=>False
  | _=>False
 | .nilCheck x=>bK (Gf (ρ x)) <| qO (ρ x) fun c=>K c H
 | .makeFunc f first caps=>match f with
  | .func f=>y4 qO (first.toList.map ρ) fun a=>y4 qO (caps.toList.map ρ) fun b=>K (.fn f a b) H
  | _=>False
 | .build t parts=>GZ P t (parts.toList.map fun p=>(p.1,ρ p.2)) fun cs=>K (.agg cs) H
 | .makeInterface t x=>match P.underlying t with
  | some d=>bK (vj d) <| qO (ρ x) fun c=>K (.fh t c) H
  | none=>False
 | .typeAssert x _ t ok=>bK ok <| match ρ x with
  | .fh t' c=>match P.underlying t with
   | some d=>match t' == t with
    | true=>bK (vj d) <| K (.u7 [c,.v (.bool true)]) H
    | false=>match P.info? t with
     | some i=>bK (vj d && i.zero.isSome) <| K (.u7 [.za,.v (.bool false)]) H
     | none=>False
   | none=>False
  | _=>False
 | .buildSlice t len parts=>match HG P t len (parts.toList.map fun p=>(p.1,wE (ρ p.2))) with
  | some c=>match c with
   | .u1 o sz rows=>y4 (y4 qO) rows fun rows=>jn sz fun sz=>K (.u1 o sz rows) H
   | _=>False
  | none=>False
 | .slice t x lo hi mx=>G5 P H (fun x=>ff (ρ x)) t x lo hi mx K
 | .makeSlice t x y=>Ho P H ρ t x y K
 | .lookup ..=>∃ c H',eh P o ρ H c H'∧K c H'
 | .mapUpdate ..=>∃ c H',eh P o ρ H c H'∧K c H'
 | .mapEntry ..=>∃ c H',eh P o ρ H c H'∧K c H'
 | .entryStore ..=>∃ c H',eh P o ρ H c H'∧K c H'
 | .call cl=>Ep P H ρ o cl K
 | .binOp op t x y _=>match ρ x,ρ y with
  | .agg xs,.agg ys=>Ng P H o ρ op t xs ys K
  | .v (.string s),.v (.string s')=>match s,s' with
   | ⟨⟨a⟩⟩,⟨⟨b⟩⟩=>HR H op a b K
  | _,_=>match iQ P (execOp (fun x=>nT (ρ x)) o) with
   | some (.value v)=>bK (xK o && o.op.operands.toList.all (fun x=>eF (ρ x)) && v.oneCell') <| okB (.v v) fun c=>K c H
   | _=>False
 | .convert src dst x=>Hv P H ρ o src dst x K
 | .unOp _ _ _=>match iQ P (execOp (fun x=>nT (ρ x)) o) with
  | some (.value v)=>bK (xK o && o.op.operands.toList.all (fun x=>eF (ρ x)) && v.oneCell') <| HF (.v v) fun c=>K c H
  | _=>False
 | _=>match iQ P (execOp (fun x=>nT (ρ x)) o) with
  | some (.value v)=>bK (xK o && o.op.operands.toList.all (fun x=>eF (ρ x)) && v.oneCell') <| okB (.v v) fun c=>K c H
  | _=>False
section
variable {P:Program} {o:Oper} {ρ:Operand->C} {H:zl} {K:C->zl->Prop}
def eh.mP {c c':C} {H':zl} (h:eh P o ρ H c H') (hw:WC c c'):eh P o ρ H c' H':=fun w E σ hh hl K hk=>h w E σ hh hl K fun v w' E' h1 h2 g=>hk v w' E' h1 (hw E' v h2) g
def eh.Ht (cl:Call) (ho:o.op=.call cl) (x:Operand) (hcl:cl.callee=.value x) {f:FuncId} {first caps:List C} (hf:ρ x=.fn f first caps) (hcb:qt P f=true) {r:C} {H':zl}
  (hs:zb P f H (first++(cl.args.toList.map fun x=>Ab.ff (ρ x))++caps) r H'):eh P o ρ H r H':=.ff <| .call cl ho x hcl (by rw [hf];rfl) hcb hs
def eh.Wn (t:TypeId) (x y:Operand) (ho:o.op=.store t x y) {H':zl} (hs:vo P H t (ρ x) (wE (ρ y))=some H'):eh P o ρ H .un H':=by
 classical
 have hρ:∀ z,∃ c,(c=ρ z∨c=wE (ρ z))∧(z=y->c=wE (ρ z))∧(z≠y->c=ρ z):=fun z=>by
  by_cases e:z=y
  ·exact ⟨wE (ρ z),.inr rfl,fun _=>rfl,fun h=>absurd e h⟩
  ·exact ⟨ρ z,.inl rfl,fun h=>absurd h e,fun _=>rfl⟩
 obtain ⟨ρ',hρ'⟩:∃ ρ':Operand->C,∀ z,(ρ' z=ρ z∨ρ' z=wE (ρ z))∧(z=y->ρ' z=wE (ρ z))∧(z≠y->ρ' z=ρ z):=⟨fun z=>(hρ z).choose,fun z=>(hρ z).choose_spec⟩
 have hx:ρ' x=ρ x:=by
  rcases (hρ' x).1 with e | e
  ·exact e
  ·rw [e];unfold vo at hs;split at hs
   ·rename_i e2 _;rw [e2];rfl
   ·cases hs
 have h0:qL P o ρ' H .un H':=qL.store t x y ho (by rw [hx,(hρ' y).2.1 rfl];exact hs);refine .BL (h0.weaken fun z E v hl=>?_) (I3 hs);rcases (hρ' z).1 with e | e
 ·rw [e];exact hl
 ·rw [e];exact Ge hl
def ks (h:match iQ P (execOp (fun x=>nT (ρ x)) o) with
  | some (.value v)=>bK (xK o && o.op.operands.toList.all (fun x=>eF (ρ x)) && v.oneCell') <| okB (.v v) fun c=>K c H
  | _=>False):∃ c,(∀ H2,eh P o ρ H2 c H2)∧K c H:=by
 split at h
 ·rename_i v e;obtain ⟨h1,h2⟩:=zX h;simp only [dY,rW] at h1;exact ⟨.v v,fun H2=>.same <| .scalar h1.1.1 h1.1.2 e h1.2,jj (k:=fun c=>K c H) h2⟩
 ·exact cN
def I1 {t:TypeId} {x:Operand} {lo hi mx:Option Operand} (ho:o.op=.slice t x lo hi mx) (h:G5 P H ρ t x lo hi mx K):∃ c,(∀ H2,eh P o ρ H2 c H2)∧K c H:=by
 unfold G5 at h;split at h
 rotate_left
 ·rename_i hu;split at h
  ·rename_i s hx;obtain ⟨⟨b⟩⟩:=s;dsimp only at h;split at h
   ·obtain ⟨l,h1,h⟩:=ym h;obtain ⟨h',h2,h3,h4,h5⟩:=ym h;exact ⟨_,fun H2=>.same <| .Uo t x lo hi ho hu hx h1 h2 h3 h4,h5⟩
   ·exact cN
  ·exact cN
 ·exact cN
 rename_i e hu;split at h
 rotate_left
 ·exact cN
 rename_i i hi';split at h
 ·rename_i fo sz rows hx;obtain ⟨hsz,h⟩:=h;split at h
  ·split at h
   ·obtain ⟨l,h1,h3,h5⟩:=ym h;have:=fun H2=>eh.same <| qL.Lk (H:=H2) t x lo none ho hu hi' hx hsz h1 (rfl:iW ρ none rows.length rows.length) h3 (gf _)
    refine ⟨_,this,?_⟩;rw [rM aj];by_cases hfo:fo=1
    ·simpa [hfo] using h5
    ·simpa [hfo] using h5
   ·rename_i hh;obtain ⟨l,h1,h⟩:=ym h;obtain ⟨h',h2,h3,h4,h5⟩:=ym h;exact ⟨_,fun H2=>.mP (.same <| .Lk t x lo (some hh) ho hu hi' hx hsz h1 h2 h3 h4) (.share _ _ _),h5⟩
  ·split at h
   ·obtain ⟨l,h1,h⟩:=ym h;obtain ⟨h',h2,h⟩:=ym h;obtain ⟨m,h3,rfl,h4,h5,h6⟩:=ym h;exact ⟨_,fun H2=>.same <| .Tk t x lo _ _ ho hu hi' hx hsz h1 h2 h3 h4 h5,h6⟩
   ·exact cN
 ·rename_i id hops sz lo0 len full hx;split at h
  ·obtain ⟨hsz,h⟩:=h;obtain ⟨l,h1,h⟩:=ym h;obtain ⟨h',h2,h3,h4,h5,h6,h7⟩:=ym h;exact ⟨_,fun H2=>.same <| .V1 t x lo hi ho hu hi' hx hsz h1 h2 h3 h4 h5 h6,h7⟩
  ·exact cN
 ·exact cN
def Jj {t:TypeId} {x y:Operand} (ho:o.op=.indexAddr t x y) (h:Ha P H ρ t x y K):∃ c,(∀ H2,eh P o ρ H2 c H2)∧K c H:=by
 unfold Ha at h;split at h
 rotate_left
 ·rename_i len e hu;split at h
  ·rename_i i hi;split at h
   ·rename_i k n hy;split at h
    ·rename_i c hx;exact ⟨c,fun H2=>.same <| .TK t x y ho hu hi hy h.1 h.2.1 hx,zQ (k:=fun c=>K c H) h.2.2⟩
    ·exact cN
   ·exact cN
  ·exact cN
 ·exact cN
 rename_i e hu;split at h
 rotate_left
 ·exact cN
 rename_i i hi;split at h
 rotate_left
 ·exact cN
 rename_i k n hy;split at h
 ·rename_i fo sz rows hx;obtain ⟨h1,h3,r,h4,h5⟩:=zX h;refine ⟨_,fun H2=>.same <| .indexAddr t x y ho hu hi hy h3 (c:=.jS r) ?_,h5⟩;rw [hx];simp only [oZ];rw [dU h1,h4]
  rfl
 ·rename_i id hops sz lo len full hx;obtain ⟨h2,h3,h4,h5⟩:=zX h;simp only [gT] at h2;refine ⟨_,fun H2=>.same <| .indexAddr t x y ho hu hi hy h3 (c:=.ref id hops sz (lo+n.toNat) 0) ?_,h5⟩;rw [hx];simp only [oZ];rw [dU (by simp [h4,h2])]
 ·exact cN
def Jk {t:TypeId} {x y:Operand} (ho:o.op=.index t x y) (h:Hb P H ρ t x y K):∃ c,(∀ H2,eh P o ρ H2 c H2)∧K c H:=by
 unfold Hb at h;split at h
 ·rename_i k n hy;split at h
  ·rename_i hu;split at h
   ·rename_i s hx;obtain ⟨⟨b⟩⟩:=s;obtain ⟨h1,c,h2,h3⟩:=h;exact ⟨_,fun H2=>.same <| .Un t x y ho hu hx hy h1 h2,h3⟩
   ·exact cN
  ·rename_i len e hu;split at h
   ·rename_i i hi;split at h
    ·rename_i cs hx;obtain ⟨h1,h2,c,h3,h4⟩:=h;exact ⟨c,fun H2=>.same <| .Q5 t x y ho hu hi hx hy h1 h2 h3,zQ (k:=fun c=>K c H) (jj (k:=fun c=>qO c fun c=>K c H) h4)⟩
    ·exact cN
   ·exact cN
  ·exact cN
 ·exact cN
def Jf {t:TypeId} {x:Operand} {f:Nat} (ho:o.op=.field t x f) (h:GS P H ρ t x f K):∃ c,(∀ H2,eh P o ρ H2 c H2)∧K c H:=by
 unfold GS at h;split at h
 ·rename_i fs hu;split at h
  ·rename_i fd hf;split at h
   ·rename_i cs hx;split at h
    ·rename_i c hc;exact ⟨c,fun H2=>.same <| .field t x f ho hu hf hx hc,zQ (k:=fun c=>K c H) (jj (k:=fun c=>qO c fun c=>K c H) h)⟩
    ·exact cN
   ·exact cN
  ·exact cN
 ·exact cN
def J2 {t t':TypeId} {op:BinOp} {x y:Operand} {a b:List UInt8} (ho:o.op=.binOp op t x y t') (hx:ρ x=.v (.string (bs a))) (hy:ρ y=.v (.string (bs b))) (h:HR H op a b K):∃ c,(∀ H2,eh P o ρ H2 c H2)∧K c H:=by
 unfold HR at h;split at h
 ·exact ⟨_,fun H2=>.same <| .MG .eql t t' x y ho (.inl rfl) hx hy,jj (k:=fun c=>K c H) h⟩
 ·exact ⟨_,fun H2=>.same <| .MG .neq t t' x y ho (.inr rfl) hx hy,jj (k:=fun c=>K c H) h⟩
 ·exact ⟨_,fun H2=>.same <| .Wo t t' x y ho hx hy h.1,h.2⟩
 ·exact cN
def Je {t:TypeId} {x:Operand} {f:Nat} (ho:o.op=.fieldAddr t x f) (h:GR P H ρ t x f K):∃ c,(∀ H2,eh P o ρ H2 c H2)∧K c H:=by
 unfold GR at h;split at h
 rotate_left
 ·exact cN
 rename_i fs hu;split at h
 rotate_left
 ·exact cN
 rename_i fd hf;split at h
 rotate_left
 ·exact cN
 rename_i i hi;split at h
 rotate_left
 ·exact cN
 rename_i c hc;obtain ⟨h1,h2⟩:=zX h;exact ⟨c,fun H2=>.same <| .fieldAddr t x f ho hu hf hi tH hc,zQ (k:=fun c=>K c H) h2⟩
def IJ {cl:Call} (ho:o.op=.call cl) {x y:Operand} {e:TypeId} {i:TypeInfo} {z:Value} (ht:oE P cl x y e i z) {sz':Nat} {rows':List (List C)} (hy:xN H (ff (ρ y))=some (sz',rows'))
  (h:DL P H (ρ x) sz' rows' e i K):∃ c H',eh P o ρ H c H'∧K c H':=by
 unfold DL at h;split at h
 ·obtain ⟨h1,h2⟩:=h;obtain ⟨⟨sz,rows⟩,hx⟩:=Option.isSome_iff_exists.1 h1;exact ⟨_,H,.ff (ρ:=ρ) (.same <| .Qn cl ho x y ht hx hy),h2⟩
 ·rename_i r' rs'
  replace h:=zX h
  obtain ⟨hz,h⟩:=h;have hz:=eq_of_beq hz;subst hz;have h:=qu h;have h:=qu h;split at h
  ·rename_i sz rows hx;obtain ⟨h1,h2,h3,h4⟩:=h;exact ⟨_,_,.ff (ρ:=ρ) (.Eh (.Qm cl ho x y ht (by rw [hx];rfl) h1 hy aj tU (aq h3)) _ (fun e=>by cases e) rfl),by simpa using jb h4⟩
  ·rename_i id sz n hx;split at h
   ·rename_i ob hob
    replace h:=zX h
    obtain ⟨hb,h4,h5,h6,h7,h8⟩:=h;simp only [dY,gT] at hb;obtain ⟨⟨⟨rfl,h1⟩,h2⟩,h3⟩:=hb;exact ⟨_,_,.ff (ρ:=ρ) (.BL (.Sa cl ho x y ht (by rw [hx];rfl) hob h1 h2 h3 h4 h5 hy aj (aq h6) (aq h7)) (jH.trans (jH.xU H id fun ob' h'=>by rw [hob] at h';cases h';rw [h1];decide) (jH.push _ _ (fun e=>by cases e)))),by simpa using jb h8⟩
   ·exact cN
  ·exact cN
def OJ {cl:Call} (ho:o.op=.call cl) {x y:Operand} {e:TypeId} {i:TypeInfo} {z:Value} (ht:oE P cl x y e i z) (h:Gz P H ρ x y e i K):∃ c H',eh P o ρ H c H'∧K c H':=by
 unfold Gz at h;split at h
 rotate_left
 ·exact cN
 rename_i sz' rows' hy;split at h
 ·rename_i id sz rows hx;split at h
  ·rename_i ob hob
   replace h:=zX h
   obtain ⟨hz,h⟩:=h;have hz:=eq_of_beq hz;subst hz;have h:=qu h;obtain ⟨h1,h2,h3,h4,h5⟩:=h;exact ⟨_,_,.KX cl ho x y ht hx hob h1 hy h2 h3 h4,k8 h5⟩
  ·exact cN
 ·rename_i sz rows hx;rcases h with h | h
  ·unfold L7 at h;have h:=qu h;have h:=qu h;obtain ⟨h1,h2,h3,h4,h5⟩:=h;exact ⟨_,_,.OI cl ho x y ht hx h1 hy h2 h3 h4,jb h5⟩
  ·exact IJ ho ht hy (hx ▸ h)
 ·exact IJ ho ht hy h
def Array.yn {α:Type} {a:Array α} {l:List α} (h:a.toList=l):a=l.toArray:=by subst h;simp
def Qr {cl:Call} (ho:o.op=.call cl) (h:Ep P H ρ o cl K):∃ c H',eh P o ρ H c H'∧K c H':=by
 have hns:xK o=true:=by simp [xK,ho]
 have scal:∀ (h:match iQ P (execOp (fun x=>nT (ρ x)) o) with
   | some (.value v)=>bK (o.op.operands.toList.all (fun x=>eF (ρ x)) && v.oneCell') <| okB (.v v) fun c=>K c H
   | _=>False),∃ c H',eh P o ρ H c H'∧K c H':=by
  intro h;split at h
  ·rename_i v e;obtain ⟨h1,h2⟩:=zX h;simp only [dY,rW] at h1;exact ⟨.v v,H,.same <| .scalar hns h1.1 e h1.2,jj (k:=fun c=>K c H) h2⟩
  ·exact cN
 unfold Ep at h;split at h
 ·rename_i x hcl;split at h
  ·rename_i f first caps hf;obtain ⟨h1,r,H',h2,h3⟩:=zX h;exact ⟨r,H',.Ht cl ho x hcl hf h1 h2,jj (k:=fun c=>K c H') h3⟩
  ·rename_i g first caps hf;split at h
   ·rename_i l;obtain ⟨h1,r,H',h2,h3⟩:=zX h;simp only [dY,Array.isEmpty_iff] at h1;obtain ⟨rfl,rfl⟩:=h1;exact ⟨r,H',.yield cl ho x hcl hf h2,jj (k:=fun c=>K c H') h3⟩
   ·exact cN
  ·exact cN
 ·rename_i x name hcl;split at h
  ·rename_i t c hx;obtain ⟨f,hm,hcb,r,H',h2,h3⟩:=h;exact ⟨r,H',.invoke cl ho x name hcl hx hm hcb h2,jj (k:=fun c=>K c H') h3⟩
  ·exact cN
 ·rename_i hcl;split at h
  ·rename_i x t hx ht;split at h
   ·rename_i e hu;split at h
    ·rename_i n hn;exact ⟨_,H,.ff (ρ:=ρ) <| .same <| .len cl ho hcl x (Array.yn hx) (Array.yn ht) hu hn,h⟩
    ·exact cN
   ·rename_i hu;split at h
    ·rename_i s hs;obtain ⟨⟨b⟩⟩:=s;exact ⟨_,H,.same <| .Mm cl ho hcl x (Array.yn hx) (Array.yn ht) hu hs,h⟩
    ·exact cN
   ·exact scal h
  ·exact cN
 ·rename_i hcl;split at h
  ·rename_i x y t t' hx ht;obtain ⟨ht',h⟩:=zX h;simp only [gT] at ht';subst ht';split at h
   ·rename_i e hu;split at h
    ·rename_i i hi;split at h
     ·rename_i z hz;exact OJ ho ⟨hcl,Array.yn hx,⟨_,Array.yn ht,hu⟩,hi,hz,by simpa using (zX h).1⟩ (zX h).2
     ·exact cN
    ·exact cN
   ·exact cN
  ·exact cN
 ·exact scal h
def RE {op:BinOp} {t:TypeId} {x:Operand} (ho:Hn o=some (op,t,x)) (h:HT P H op t (ρ x) K):jI P o ρ H K:=by
 obtain ⟨t',ho⟩:∃ t',o.op=.binOp op t x (.const (.slice none 0 0)) t':=by
  unfold Hn at ho;split at ho
  ·rename_i h1;split at ho
   ·split at ho
    ·cases ho;exact ⟨_,h1⟩
    ·cases ho
   ·cases ho
  ·cases ho
 unfold HT at h;split at h
 ·rename_i e hu;split at h
  ·rename_i fo sz rows hx;split at h
   ·split at h
    ·exact .Mg .eql t t' x ho (.inl rfl) hu hx h.1 h.2
    ·exact .Mg .neq t t' x ho (.inr rfl) hu hx h.1 h.2
    ·exact cN
   ·split at h
    ·exact (lW.D1 .eql t t' x ho (.inl rfl) hu (.inl ⟨_,_,_,hx,h.1⟩)).lf h.2
    ·exact (lW.D1 .neq t t' x ho (.inr rfl) hu (.inl ⟨_,_,_,hx,h.1⟩)).lf h.2
    ·exact cN
  ·rename_i hx;split at h
   ·exact (lW.D1 .eql t t' x ho (.inl rfl) hu (.inr ⟨_,_,_,_,_,_,hx⟩)).lf h
   ·exact (lW.D1 .neq t t' x ho (.inr rfl) hu (.inr ⟨_,_,_,_,_,_,hx⟩)).lf h
   ·exact cN
  ·exact cN
 ·exact cN
def Jl {x:C} {b:Bool} (h:Hc x=some b):∀ E u,L E x u->∃ a,u=.pointer a∧a.isNone=b:=by
 intro E u hl;unfold Hc at h;split at h
 ·cases h;cases hl;exact ⟨_,rfl,rfl⟩
 ·cases h;cases hl;exact ⟨_,rfl,rfl⟩
 ·split at h
  ·split at h <;> (cases h;cases hl;exact ⟨_,rfl,rfl⟩)
  ·cases h
 ·cases h
def S9 {op:BinOp} {t:TypeId} {x:Operand} (ho:HB o=some (op,t,x)) (h:HV P H op t (ρ x) K):∃ c,lW P o ρ H c H∧K c H:=by
 obtain ⟨t',ho⟩:∃ t',o.op=.binOp op t x (.const (.pointer none)) t':=by
  unfold HB at ho;split at ho
  ·rename_i h1;split at ho
   ·split at ho
    ·split at ho
     ·cases ho;exact ⟨_,h1⟩
     ·cases ho
    ·cases ho
   ·cases ho
  ·cases ho
 have hT:Ey P t=true->P.underlying t=some (.pointer (P.pointee t)):=fun hp=>by
  unfold Ey at hp;split at hp
  ·rename_i e hu;have he:e=P.pointee t:=by simpa using hp
   rw [hu,he]
  ·cases hp
 unfold HV at h;split at h
 ·rename_i b hb;split at h
  ·exact ⟨_,.Mr .eql t t' x ho (.inl rfl) (hT (zX h).1) b (Jl hb),(zX h).2⟩
  ·exact ⟨_,.Mr .neq t t' x ho (.inr rfl) (hT (zX h).1) b (Jl hb),(zX h).2⟩
  ·exact cN
 ·exact cN
def Rb {t:TypeId} {x y:Operand} (ho:o.op=.makeSlice t x y) (h:Ho P H ρ t x y K):∃ c H',eh P o ρ H c H'∧K c H':=by
 unfold Ho at h;split at h
 ·rename_i k n k' n' hx hy;split at h
  ·rename_i e hu;split at h
   ·rename_i i hi;split at h
    ·rename_i cs hz;obtain ⟨h1,rfl,h2,h3,h4,h5⟩:=zX h;have h5:=qu h5;have h5:=qu h5;exact ⟨_,_,.Eh (.makeSlice t x y ho hu hi hz h1 hx hy h2 h3 h4) _ (fun e=>by cases e) rfl,jb h5⟩
    ·exact cN
   ·exact cN
  ·exact cN
 ·exact cN
def Jv {src dst:TypeId} {x:Operand} (ho:o.op=.convert src dst x) (h:Hv P H ρ o src dst x K):∃ c,(∀ H2,eh P o ρ H2 c H2)∧K c H:=by
 unfold Hv at h;split at h
 ·rename_i fo sz rows hx;split at h
  ·rename_i e hs hd;split at h
   ·rename_i he;obtain ⟨h1,bts,rfl,h2⟩:=zX h;have h1:=eq_of_beq h1;subst h1;exact ⟨_,fun H2=>.ff (ρ:=ρ) <| .same <| .Sq src dst x ho hs he hd hx,h2⟩
   ·exact cN
  ·exact cN
 ·exact ks h
def Fx (h:mL P H ρ o K):∃ c H',eh P o ρ H c H'∧K c H':=by
 unfold mL at h;split at h
 ·rename_i x ho;exact ⟨_,H,.same <| .move x (.inl ho),zQ (k:=fun c=>K c H) h⟩
 ·rename_i x ho;exact ⟨_,H,.same <| .move x (.inr ho),zQ (k:=fun c=>K c H) h⟩
 ·rename_i x y z ho;split at h
  ·rename_i b hb;exact ⟨_,H,.same <| .pick x y z ho b hb,zQ (k:=fun c=>K c H) h⟩
  ·exact cN
 ·rename_i t ho;split at h
  ·rename_i cs hz;have h:=jb (k:=fun cs=>jn cs.length fun n=>jn H.length fun m=>xn (H++[⟨1,t,n,[cs],0⟩]) fun H'=>K (.ref m [] n 0 0) H') h;have h:=qu (k:=fun n=>jn H.length fun m=>xn (H++[⟨1,t,n,[cs],0⟩]) fun H'=>K (.ref m [] n 0 0) H') h;have h:=qu (k:=fun m=>xn (H++[⟨1,t,cs.length,[cs],0⟩]) fun H'=>K (.ref m [] cs.length 0 0) H') h;exact ⟨_,_,.Eh (.alloc t ho hz) _ (fun e=>by cases e) rfl,jb (k:=fun H'=>K (.ref H.length [] cs.length 0 0) H') h⟩
  ·exact cN
 ·rename_i t x ho;obtain ⟨h0,h⟩:=zX h;have h:=qM (fun _ _ h=>zQ h) (k:=fun cs=>jn cs.length fun n=>jn H.length fun m=>xn (H++[⟨1,t,n,[cs],0⟩]) fun H'=>K (.ref m [] n 0 0) H') h;have h:=qu (k:=fun n=>jn H.length fun m=>xn (H++[⟨1,t,n,[(ρ x).cells],0⟩]) fun H'=>K (.ref m [] n 0 0) H') h;have h:=qu (k:=fun m=>xn (H++[⟨1,t,(ρ x).cells.length,[(ρ x).cells],0⟩]) fun H'=>K (.ref m [] (ρ x).cells.length 0 0) H') h;exact ⟨_,_,.Eh (.box t x ho h0) _ (fun e=>by cases e) rfl,jb (k:=fun H'=>K (.ref H.length [] (ρ x).cells.length 0 0) H') h⟩
 ·rename_i t x f ho;obtain ⟨c,h1,h2⟩:=Je ho h;exact ⟨c,H,h1 H,h2⟩
 ·rename_i t x y ho;obtain ⟨c,h1,h2⟩:=Jj (ρ:=fun x=>ff (ρ x)) ho h;exact ⟨c,H,(h1 H).ff,h2⟩
 ·rename_i t x y ho;obtain ⟨c,h1,h2⟩:=Jk ho h;exact ⟨c,H,h1 H,h2⟩
 ·rename_i t x f ho;obtain ⟨c,h1,h2⟩:=Jf ho h;exact ⟨c,H,h1 H,h2⟩
 ·rename_i t x ho;obtain ⟨c,h1,h2⟩:=Db h;exact ⟨c,H,.same <| .load t x ho h1,h2⟩
 ·rename_i t x y ho;split at h
  ·obtain ⟨H',h1,h2⟩:=I4 h;exact ⟨_,H',.Wn t x y ho h1,h2⟩
  ·obtain ⟨H',h1,h2⟩:=I4 h;exact ⟨_,H',.BL (.store t x y ho h1) (I3 h1),h2⟩
 ·rename_i x n ho;split at h
  ·rename_i vs hx;split at h
   ·rename_i c hc;exact ⟨c,H,.same <| .extract x n ho hx hc,zQ (k:=fun c=>K c H) (jj (k:=fun c=>qO c fun c=>K c H) h)⟩
   ·exact cN
  ·exact cN
 ·rename_i x ho;exact ⟨_,H,.same <| .nilCheck x ho (zX h).1,zQ (k:=fun c=>K c H) (zX h).2⟩
 ·rename_i f first caps ho;split at h
  ·have h:=qM (fun _ _ h=>zQ h) h;exact ⟨_,H,.same <| .makeFunc _ first caps ho,qM (fun _ _ h=>zQ h) (k:=fun b=>K (.fn _ (first.toList.map ρ) b) H) h⟩
  ·exact cN
 ·rename_i t parts ho;obtain ⟨cs,hc,h⟩:=IM h;exact ⟨_,H,.same <| .build t parts ho hc,h⟩
 ·rename_i t x ho;split at h
  ·rename_i d hd;obtain ⟨h1,h2⟩:=zX h;exact ⟨_,H,.R3 t x ho hd h1,zQ (k:=fun c=>K (.fh t c) H) h2⟩
  ·exact cN
 ·rename_i x xT t ok ho
  replace h:=zX h
  obtain ⟨h1,h⟩:=h;subst h1;split at h
  ·rename_i t' c hx;split at h
   ·rename_i d hd;split at h
    ·rename_i he;obtain rfl:t'=t:=by simpa using he
     exact ⟨_,H,.Sd x xT t' ho hx hd (zX h).1,(zX h).2⟩
    ·rename_i he;split at h
     ·rename_i i hi;have h2:=(zX h).1;rw [dY] at h2;exact ⟨_,H,.SG x xT t ho hx he hd h2.1 hi h2.2,(zX h).2⟩
     ·exact cN
   ·exact cN
  ·exact cN
 ·rename_i t len parts ho;split at h
  ·rename_i c hc;split at h
   ·rename_i o' sz rows;have h:=qM (fun _ _ h=>qM (fun _ _ h=>zQ h) h) (k:=fun rows=>jn sz fun sz=>K (.u1 o' sz rows) H) h;exact ⟨_,H,.same <| (qL.buildSlice (ρ:=fun z=>wE (ρ z)) t len parts ho hc).weaken fun z E v hl=>Ge hl,qu (k:=fun sz=>K (.u1 o' sz rows) H) h⟩
   ·exact cN
  ·exact cN
 ·rename_i t x lo hi mx ho;obtain ⟨c,h1,h2⟩:=I1 (ρ:=fun x=>ff (ρ x)) ho h;exact ⟨c,H,(h1 H).ff,h2⟩
 ·rename_i t x y ho;exact Rb ho h
 ·exact h
 ·exact h
 ·exact h
 ·exact h
 ·rename_i cl ho;exact Qr ho h
 ·rename_i op t x y t' ho;split at h
  ·rename_i xs ys hx hy;obtain ⟨h1,h⟩:=h;simp only [dY,pd] at h1;split at h
   ·rename_i b hb;split at h
    ·exact ⟨_,H,.same <| .DB .eql t t' x y ho (.inl rfl) h1.1 h1.2 hx hy hb,jj (k:=fun c=>K c H) h⟩
    ·exact ⟨_,H,.same <| .DB .neq t t' x y ho (.inr rfl) h1.1 h1.2 hx hy hb,jj (k:=fun c=>K c H) h⟩
    ·exact cN
   ·exact cN
  ·rename_i s s' hx hy;obtain ⟨⟨a⟩⟩:=s;obtain ⟨⟨b⟩⟩:=s';obtain ⟨c,h1,h2⟩:=J2 ho hx hy h;exact ⟨c,H,h1 H,h2⟩
  ·obtain ⟨c,h1,h2⟩:=ks h;exact ⟨c,H,h1 H,h2⟩
 ·rename_i src dst x ho;obtain ⟨c,h1,h2⟩:=Jv ho h;exact ⟨c,H,h1 H,h2⟩
 ·split at h
  ·rename_i v e;obtain ⟨h1,h2⟩:=zX h;simp only [dY,rW] at h1;exact ⟨.v v,H,.same <| .scalar h1.1.1 h1.1.2 e h1.2,Kf (k:=fun c=>K c H) h2⟩
  ·exact cN
 ·obtain ⟨c,h1,h2⟩:=ks h;exact ⟨c,H,h1 H,h2⟩
end
def CC (calls:Bool) (o:Oper):Bool:=
 match o.op with
 | .alloc _ | .box .. | .store .. | .makeSlice .. | .makeMap .. | .mapUpdate .. | .insert .. | .mapEntry .. | .entryStore ..=>true
 | .call cl=>match cl.callee with
  | .builtin .len=>false
  | .builtin _=>true
  | _=>calls
 | _=>false
def xF (o:Oper):Bool:=
 match o.op with
 | .move _ | .assign _ | .pick .. | .fieldAddr .. | .indexAddr .. | .extract .. | .nilCheck _ | .makeFunc .. | .build .. | .buildSlice .. | .slice .. | .index .. | .field .. | .binOp .. | .unOp .. | .convert ..=>true
 | .call cl=>match cl.callee with
  | .builtin .len=>true
  | _=>false
 | _=>false
section
variable {P:Program} {o:Oper} {ρ:Operand->C} {H:zl} {K:C->zl->Prop}
def I2 (hb:xF o=true) (h:mL P H ρ o K):∃ c,(∀ H2,eh P o ρ H2 c H2)∧K c H:=by
 unfold mL at h;split at h
 ·rename_i x ho;exact ⟨_,fun H2=>.same <| .move x (.inl ho),zQ (k:=fun c=>K c H) h⟩
 ·rename_i x ho;exact ⟨_,fun H2=>.same <| .move x (.inr ho),zQ (k:=fun c=>K c H) h⟩
 ·rename_i x y z ho;split at h
  ·rename_i b hb;exact ⟨_,fun H2=>.same <| .pick x y z ho b hb,zQ (k:=fun c=>K c H) h⟩
  ·exact cN
 ·rename_i t ho;simp [xF,ho] at hb
 ·rename_i t x ho;simp [xF,ho] at hb
 ·rename_i t x f ho;exact Je ho h
 ·rename_i t x y ho;obtain ⟨c,h1,h2⟩:=Jj (ρ:=fun x=>ff (ρ x)) ho h;exact ⟨c,fun H2=>(h1 H2).ff,h2⟩
 ·rename_i t x y ho;exact Jk ho h
 ·rename_i t x f ho;exact Jf ho h
 ·rename_i t x ho;simp [xF,ho] at hb
 ·rename_i t x y ho;simp [xF,ho] at hb
 ·rename_i x n ho;split at h
  ·rename_i vs hx;split at h
   ·rename_i c hc;exact ⟨c,fun H2=>.same <| .extract x n ho hx hc,zQ (k:=fun c=>K c H) (jj (k:=fun c=>qO c fun c=>K c H) h)⟩
   ·exact cN
  ·exact cN
 ·rename_i x ho;exact ⟨_,fun H2=>.same <| .nilCheck x ho (zX h).1,zQ (k:=fun c=>K c H) (zX h).2⟩
 ·rename_i f first caps ho;split at h
  ·have h:=qM (fun _ _ h=>zQ h) h;exact ⟨_,fun H2=>.same <| .makeFunc _ first caps ho,qM (fun _ _ h=>zQ h) (k:=fun b=>K (.fn _ (first.toList.map ρ) b) H) h⟩
  ·exact cN
 ·rename_i t parts ho;obtain ⟨cs,hc,h⟩:=IM h;exact ⟨_,fun H2=>.same <| .build t parts ho hc,h⟩
 ·rename_i t x ho;simp [xF,ho] at hb
 ·rename_i x xT t ok ho;simp [xF,ho] at hb
 ·rename_i t len parts ho;split at h
  ·rename_i c hc;split at h
   ·rename_i o' sz rows;have h:=qM (fun _ _ h=>qM (fun _ _ h=>zQ h) h) (k:=fun rows=>jn sz fun sz=>K (.u1 o' sz rows) H) h;exact ⟨_,fun H2=>.same <| (qL.buildSlice (ρ:=fun z=>wE (ρ z)) t len parts ho hc).weaken fun z E v hl=>Ge hl,qu (k:=fun sz=>K (.u1 o' sz rows) H) h⟩
   ·exact cN
  ·exact cN
 ·rename_i t x lo hi mx ho;obtain ⟨c,h1,h2⟩:=I1 (ρ:=fun x=>ff (ρ x)) ho h;exact ⟨c,fun H2=>(h1 H2).ff,h2⟩
 ·rename_i t x y ho;simp [xF,ho] at hb
 ·rename_i ho;simp [xF,ho] at hb
 ·rename_i ho;simp [xF,ho] at hb
 ·rename_i ho;simp [xF,ho] at hb
 ·rename_i ho;simp [xF,ho] at hb
 ·rename_i cl ho
  have hc:cl.callee=.builtin .len:=by
   simp only [xF,ho] at hb;split at hb
   ·assumption
   ·cases hb
  have hns:xK o=true:=by simp [xK,ho]
  unfold Ep at h;rw [hc] at h;dsimp only at h;split at h
  ·rename_i x t hx ht;split at h
   ·rename_i e hu;split at h
    ·rename_i n hn;exact ⟨_,fun H2=>.ff (ρ:=ρ) <| .same <| .len cl ho hc x (Array.yn hx) (Array.yn ht) hu hn,h⟩
    ·exact cN
   ·rename_i hu;split at h
    ·rename_i s hs;obtain ⟨⟨b⟩⟩:=s;exact ⟨_,fun H2=>.same <| .Mm cl ho hc x (Array.yn hx) (Array.yn ht) hu hs,h⟩
    ·exact cN
   ·split at h
    ·rename_i v e;obtain ⟨h1,h2⟩:=zX h;simp only [dY,rW] at h1;exact ⟨.v v,fun H2=>.same <| .scalar hns h1.1 e h1.2,jj (k:=fun c=>K c H) h2⟩
    ·exact cN
  ·exact cN
 ·rename_i op t x y t' ho;split at h
  ·rename_i xs ys hx hy;obtain ⟨h1,h⟩:=h;simp only [dY,pd] at h1;split at h
   ·rename_i b hb;split at h
    ·exact ⟨_,fun H2=>.same <| .DB .eql t t' x y ho (.inl rfl) h1.1 h1.2 hx hy hb,jj (k:=fun c=>K c H) h⟩
    ·exact ⟨_,fun H2=>.same <| .DB .neq t t' x y ho (.inr rfl) h1.1 h1.2 hx hy hb,jj (k:=fun c=>K c H) h⟩
    ·exact cN
   ·exact cN
  ·rename_i s s' hx hy;obtain ⟨⟨a⟩⟩:=s;obtain ⟨⟨b⟩⟩:=s';exact J2 ho hx hy h
  ·exact ks h
 ·rename_i src dst x ho;exact Jv ho h
 ·split at h
  ·rename_i v e;obtain ⟨h1,h2⟩:=zX h;simp only [dY,rW] at h1;exact ⟨.v v,fun H2=>.same <| .scalar h1.1.1 h1.1.2 e h1.2,Kf (k:=fun c=>K c H) h2⟩
  ·exact cN
 ·exact ks h
end
section
variable {P:Program} {B:Nat} {ops:Array Oper} {md:Region.Mode} {Hs:Nat->zl} {eff:Nat->Bool} {idx:Nat->Nat} {inR:Nat->Nat->Bool}
def B8 (md:Region.Mode) (ms:List Nat) (o:Oper):List Nat:=
 ms++[o.after.toList.foldl (fun m e=>if Region.binds md e then m ||| (1 <<< e.on) ||| (ms[e.on]?).getD 0 else m) 0]
def mi (md:Region.Mode) (ops:Array Oper):List Nat:=ops.toList.foldl (B8 md) []
def mT (md:Region.Mode) (ops:Array Oper) (ms:List Nat) (j i:Nat):Bool:=Nat.testBit ((ms[j]?).getD 0) i
def Kh {md:Region.Mode} {ms:List Nat} {i:Nat}:∀ {l:List Edge} {m0:Nat},Nat.testBit (l.foldl (fun m e=>if Region.binds md e then m ||| (1 <<< e.on) ||| (ms[e.on]?).getD 0 else m) m0) i=true->
  Nat.testBit m0 i=true∨∃ e ∈ l,Region.binds md e=true∧(e.on=i∨Nat.testBit ((ms[e.on]?).getD 0) i=true)
 | [],m0,h=>.inl h
 | e::l,m0,h=>by
  rw [tY] at h;rcases Kh h with h1 | ⟨e',h1,h2⟩
  ·split at h1
   ·rename_i hb;simp only [Nat.testBit_or,pJ] at h1;rcases h1 with (h1 | h1) | h1
    ·exact .inl h1
    ·refine .inr ⟨e,aj,hb,.inl ?_⟩;rw [Nat.testBit_shiftLeft] at h1;simp only [dY,gp] at h1;obtain ⟨h2,h3⟩:=h1;have:=Nat.testBit_one_eq_true_iff_self_eq_zero.1 h3;omega
    ·exact .inr ⟨e,aj,hb,.inr h1⟩
   ·exact .inl h1
  ·exact .inr ⟨e',aD,h2⟩
def oT (md:Region.Mode) (l:List Oper) (ms:List Nat):Prop:=ms.length=l.length∧∀ (j i:Nat),Nat.testBit ((ms[j]?).getD 0) i=true->
  ∃ oj,l[j]?= some oj∧∃ e ∈ oj.after,Region.binds md e=true∧(e.on=i∨(e.on < j∧Nat.testBit ((ms[e.on]?).getD 0) i=true))
def oT.step {md:Region.Mode} {l:List Oper} {ms:List Nat} (h0:oT md l ms) (o:Oper):oT md (l++[o]) (B8 md ms o):=by
 obtain ⟨ih1,ih2⟩:=h0;refine ⟨by simp [B8,ih1],?_⟩;intro j i h;unfold B8 at h ⊢;by_cases hj:j < ms.length
 ·rw [dX hj] at h;obtain ⟨oj,h1,e,h2,h3,h4⟩:=ih2 j i h;refine ⟨oj,by rw [dX aw];exact h1,e,h2,h3,h4.imp id fun ⟨h5,h6⟩=>⟨h5,?_⟩⟩;rw [dX aw];exact h6
 ·rw [gu aw] at h
  have hj0:j - ms.length=0:=by
   rcases r6 (j - ms.length) with h0 | h0
   ·exact h0
   ·rw [pC aA] at h;simp at h
  rw [hj0] at h;simp only [sS,pj] at h;rcases Kh h with h1 | ⟨e,h1,h2,h3⟩
  ·simp at h1
  ·refine ⟨o,by rw [gu aw,<- ih1,hj0];rfl,e,aq h1,h2,h3.imp id fun h4=>?_⟩
   have u4:e.on < ms.length:=by
    rcases rz e.on ms.length with h5 | h5
    ·exact h5
    ·rw [pC h5] at h4;simp at h4
   exact ⟨aw,by rw [dX u4];exact h4⟩
def oT.fold {md:Region.Mode}:∀ {l pre:List Oper} {ms:List Nat},oT md pre ms->oT md (pre++l) (l.foldl (B8 md) ms)
 | [],pre,ms,h=>by simpa using h
 | o::l,pre,ms,h=>by
  have:=(h.step o).fold (l:=l);simpa using this
def Js {md:Region.Mode} (ops:Array Oper):oT md ops.toList (mi md ops):=by
 have:=oT.fold (md:=md) (l:=ops.toList) (pre:=[]) (ms:=[]) ⟨rfl,aj⟩;simpa [mi] using this
def Down (md:Region.Mode) (ops:Array Oper) (listed:Array Bool):Prop:=∀ j oj,ops[j]?= some oj->listed.getD j false=true->∀ e ∈ oj.after,Region.binds md e=true->listed.getD e.on false=true
def Down.start:Down md ops (Array.replicate ops.size false):=fun j oj _ h=>by
 exfalso
 rw [pa,Array.getElem?_replicate] at h;split at h <;> simp at h
def Down.dep {listed:Array Bool} (hd:Down md ops listed) (j i:Nat) (hj:listed.getD j false=true) (h:mT md ops (mi md ops) j i=true):listed.getD i false=true:=by
 induction j using Nat.strongRecOn with
 | _ j ih=>
  obtain ⟨oj,h1,e,h2,h3,h4⟩:=(Js (md:=md) ops).2 j i h;have h5:=hd j oj tH hj e h2 h3;rcases h4 with rfl | ⟨h6,h7⟩
  ·exact h5
  ·exact ih e.on h6 h5 h7
def Down.ready {listed:Array Bool} (hd:Down md ops listed) {j i:Nat} (hj:j ∈ Region.ready md ops listed) (h:mT md ops (mi md ops) j i=true):listed.getD i false=true:=by
 obtain ⟨_,oj,ho,z8⟩:=mem_ready.1 hj;obtain ⟨oj',h1,e,h2,h3,h4⟩:=(Js (md:=md) ops).2 j i h
 have e1:oj'=oj:=by
  have:ops[j]?= some oj':=aq h1
  rw [ho] at this;cases this
  rfl
 subst e1;have h5:=z8 e h2 h3;rcases h4 with rfl | ⟨h6,h7⟩
 ·exact h5
 ·exact hd.dep e.on i h5 h7
def Down.step {listed:Array Bool} (hd:Down md ops listed) {i:Nat} (hi:i ∈ Region.ready md ops listed):Down md ops (listed.setIfInBounds i true):=fun j oj ho hj e he hb=>by
 by_cases hji:i=j
 ·subst hji;obtain ⟨_,oi,ho',z8⟩:=mem_ready.1 hi;rw [ho] at ho';cases ho'
  exact getD_set_true (z8 e he hb)
 ·rw [getD_set_ne false hji] at hj;exact getD_set_true (hd j oj ho hj e he hb)
def QA (P:Program) (ops:Array Oper) (Hs:Nat->zl) (r:Nat->Bool) (o:Oper) (c:C) (t:List C):Prop:=
 (jJ ops t o=some true∧∀ k,r k=true->eh P o (ev t) (Hs k) c (Hs k))∨(jJ ops t o=some false∧c=.un)
def EA (P:Program) (ops:Array Oper) (H H':zl) (o:Oper) (c:C) (t:List C):Prop:=
 (jJ ops t o=some true∧eh P o (ev t) H c H')∨(jJ ops t o=some false∧c=.un∧H'=H)
def QA.put {r:Nat->Bool} {o:Oper} {c x:C} {t:List C} {dst:Option Tmp} (h:∀ d,dst=some d->d ∉ o.looksAt ops):QA P ops Hs r o c (put t dst x)↔QA P ops Hs r o c t:=by
 unfold QA;rw [y3 h];constructor
 ·rintro (⟨h1,h2⟩ | h1)
  ·exact .inl ⟨h1,fun k hk=>(eh.put h).1 (h2 k hk)⟩
  ·exact .inr h1
 ·rintro (⟨h1,h2⟩ | h1)
  ·exact .inl ⟨h1,fun k hk=>(eh.put h).2 (h2 k hk)⟩
  ·exact .inr h1
def EA.put {H H':zl} {o:Oper} {c x:C} {t:List C} {dst:Option Tmp} (h:∀ d,dst=some d->d ∉ o.looksAt ops):EA P ops H H' o c (put t dst x)↔EA P ops H H' o c t:=by
 unfold EA;rw [y3 h,eh.put h]
def Er (P:Program) (ops:Array Oper) (Hs:Nat->zl) (eff:Nat->Bool) (idx:Nat->Nat) (inR:Nat->Nat->Bool) (i:Nat) (o:Oper) (c:C) (n':Nat) (t:List C) (n:Nat):Prop:=
 (eff i=false∧inR i n=true∧QA P ops Hs (inR i) o c t∧n'=n)∨(eff i=true∧idx i=n∧EA P ops (Hs n) (Hs (n+1)) o c t∧n'=n+1)
def lh (P:Program) (ops:Array Oper) (Hs:Nat->zl) (eff:Nat->Bool) (idx:Nat->Nat) (inR:Nat->Nat->Bool) (i:Nat) (K:List C->Nat->Prop) (t:List C) (n:Nat):Prop:=
 match ops[i]? with
 | none=>K t n
 | some o=>∃ c n',Er P ops Hs eff idx inR i o c n' t n∧K (put t o.dst c) n'
def Rj {i:Nat} {t:List C} {n:Nat} {K K':List C->Nat->Prop} (h:∀ t n,K t n->K' t n) (hh:lh P ops Hs eff idx inR i K t n):lh P ops Hs eff idx inR i K' t n:=by
 unfold lh at *;split
 ·exact h _ _ (by simpa [*] using hh)
 ·rename_i o ho;simp only [ho] at hh;obtain ⟨c,n',h1,h2⟩:=hh;exact ⟨c,n',h1,h _ _ h2⟩
def oA (P:Program) (ops:Array Oper) (Hs:Nat->zl) (eff:Nat->Bool) (idx:Nat->Nat) (inR:Nat->Nat->Bool) (Q:List C->Nat->Prop):List Oper->Nat->List C->Nat->Prop
 | [],_,t,n=>Q t n
 | _::l,k,t,n=>lh P ops Hs eff idx inR k (oA P ops Hs eff idx inR Q l (k+1)) t n
def CX (P:Program) (md:Region.Mode) (ops:Array Oper) (Hs:Nat->zl) (eff:Nat->Bool) (idx:Nat->Nat) (inR:Nat->Nat->Bool) (Q:List C->Nat->Prop):Nat->Array Bool->List C->Nat->Prop
 | 0,listed,t,n=>Region.ready md ops listed=[]∧Q t n
 | fuel+1,listed,t,n=>(Region.ready md ops listed=[]->Q t n)∧∀ i ∈ Region.ready md ops listed,lh P ops Hs eff idx inR i (CX P md ops Hs eff idx inR Q fuel (listed.setIfInBounds i true)) t n
def yp {q:Option Nat} {m:Nat} {H0:zl} {Q:List C->Nat->Prop} {w0:World} {E0:Env} {Q':Exit->Act->World->Prop} (hQ:∀ t n w E a,Q t n->xR B m w E ⟨t,Hs n⟩ a->jF B w0 E0 H0 w E (Hs n)->Q' .normal a w):
  ∀ (fuel:Nat) (listed:Array Bool) (t:List C) (n:Nat) (w:World) (E:Env) (a:Act),xR B m w E ⟨t,Hs n⟩ a->jF B w0 E0 H0 w E (Hs n)->CX P md ops Hs eff idx inR Q fuel listed t n->wpAnyIn (fw q) 0 P md ops Q' fuel listed a w
 | 0,_,t,n,w,E,a,hs,hg,h=>⟨h.1,hQ t n w E a h.2 hs hg⟩
 | fuel+1,listed,t,n,w,E,a,hs,hg,h=>⟨fun h0=>hQ t n w E a (h.1 h0) hs hg,fun i hi=>by
   have h1:=h.2 i hi;unfold lh at h1;unfold wpOpIn;split
   ·rename_i ho;simp only [ho] at h1;exact yp hQ fuel _ t n w E a hs hg h1
   ·rename_i o ho;simp only [ho] at h1;obtain ⟨c,n',hf,hK⟩:=h1;rcases hf with ⟨_,hin,⟨hw,hv⟩ | ⟨hw,rfl⟩,rfl⟩ | ⟨_,_,⟨hw,hv⟩ | ⟨hw,rfl,he⟩,rfl⟩
    ·rw [dU (jV hs.tmps hw)];exact nI.D2 (s:=⟨t,Hs n'⟩) (hv _ hin) q m w E a _ Q' hs fun w' E' a' h2 g2=>yp hQ fuel _ (put t o.dst c) n' w' E' a' h2 (hg.trans g2) hK
    ·rw [dR bt];exact ⟨fun _ _=>trivial,yp hQ fuel _ (put t o.dst .un) n' w E _ (hs.put .un o.dst) hg hK⟩
    ·rw [dU (jV hs.tmps hw)];exact nI.D2 (s:=⟨t,Hs n⟩) hv q m w E a _ Q' hs fun w' E' a' h2 g2=>yp hQ fuel _ (put t o.dst c) (n+1) w' E' a' h2 (hg.trans g2) hK
    ·rw [dR bt];have hs':=hs.put .un o.dst;exact ⟨fun _ _=>trivial,yp hQ fuel _ (put t o.dst .un) (n+1) w E _ (by rw [he];exact hs') (by rw [he];exact hg) hK⟩⟩
structure Bx (md:Region.Mode) (ops:Array Oper) (eff:Nat->Bool) (idx:Nat->Nat) (inR:Nat->Nat->Bool) (i j:Nat):Prop where
 c1:eff i=false->eff j=true->mT md ops (mi md ops) j i=false->inR i (idx j)=true->inR i (idx j+1)=true
 c2:eff i=true->eff j=false->mT md ops (mi md ops) j i=false->inR j (idx i+1)=true->inR j (idx i)=true
def Rk {i j:Nat} {oi oj:Oper} {c:C} {n ni:Nat} (hj:ops[j]?= some oj) (hap:oi.apart ops oj=true) (he:eff i=true->eff j=false) (hp:Bx md ops eff idx inR i j) (hno:mT md ops (mi md ops) j i=false) {K:List C->Nat->Prop} {t:List C}
  (hf:Er P ops Hs eff idx inR i oi c ni t n) (h:lh P ops Hs eff idx inR j K (put t oi.dst c) ni):
  lh P ops Hs eff idx inR j (fun t' n'=>∃ n2,Er P ops Hs eff idx inR i oi c n2 t' n'∧K (put t' oi.dst c) n2) t n:=by
 obtain ⟨h1,h2,h3⟩:=Oper.apart_spec hap;unfold lh at *;simp only [hj] at *;obtain ⟨cj,nj,hfj,hK⟩:=h;rw [put_comm _ _ h2] at hK;rcases hf with ⟨e1,e2,e3,rfl⟩ | ⟨e1,e2,e3,rfl⟩
 ·rcases hfj with ⟨f1,f2,f3,rfl⟩ | ⟨f1,f2,f3,rfl⟩
  ·exact ⟨cj,nj,.inl ⟨f1,f2,(QA.put h1).1 f3,rfl⟩,nj,.inl ⟨e1,e2,(QA.put h3).2 e3,rfl⟩,hK⟩
  ·refine ⟨cj,ni+1,.inr ⟨f1,f2,(EA.put h1).1 f3,rfl⟩,ni+1,.inl ⟨e1,?_,(QA.put h3).2 e3,rfl⟩,hK⟩;rw [<- f2];exact hp.c1 e1 f1 hno (by rw [f2];exact e2)
 ·rcases hfj with ⟨f1,f2,f3,rfl⟩ | ⟨f1,f2,f3,rfl⟩
  ·refine ⟨cj,n,.inl ⟨f1,?_,(QA.put h1).1 f3,rfl⟩,n+1,.inr ⟨e1,e2,(EA.put h3).2 e3,rfl⟩,hK⟩;rw [<- e2];exact hp.c2 e1 f1 hno (by rw [e2];exact f2)
  ·rw [he e1] at f1;cases f1
def Qj {Q:List C->Nat->Prop} {i:Nat} {oi:Oper} {c:C} (hi:ops[i]?= some oi):
  ∀ (fuel:Nat) (listed:Array Bool) (t:List C) (n ni:Nat),Down md ops listed->
   (∀ j oj,ops[j]?= some oj->j≠i->listed.getD j true=false->(∀ e ∈ oj.after,Region.binds md e=true->e.on≠i)->oi.apart ops oj=true∧(eff i=true->eff j=false)∧Bx md ops eff idx inR i j)->
   i ∈ Region.ready md ops listed->Er P ops Hs eff idx inR i oi c ni t n->
   CX P md ops Hs eff idx inR Q fuel (listed.setIfInBounds i true) (put t oi.dst c) ni->CX P md ops Hs eff idx inR Q (fuel+1) listed t n:=by
 intro fuel
 induction fuel with
 | zero=>
  intro listed t n ni _ _ hr hy H;refine ⟨fun h=>bu,fun j hj=>?_⟩;by_cases hji:j=i
  ·subst hji;unfold lh;simp only [hi];exact ⟨c,ni,hy,H⟩
  ·have:=ready_mono hj hji;rw [H.1] at this;cases this
 | succ fuel ih=>
  intro listed t n ni hdown hfree hr hy H;refine ⟨fun h=>bu,fun j hj=>?_⟩;by_cases hji:j=i
  ·subst hji;unfold lh;simp only [hi];exact ⟨c,ni,hy,H⟩
  ·have h1:=H.2 j (ready_mono hj hji);obtain ⟨hjun,oj,hoj,z8⟩:=mem_ready.1 hj
   have hiun:listed.getD i false=false:=by
    have h0:=(mem_ready.1 hr).1;rcases rz i listed.size with h' | h'
    ·simp [h'] at h0 ⊢;exact h0
    ·simp [rL h']
   have hnot:∀ e ∈ oj.after,Region.binds md e=true->e.on≠i:=fun e he hb heq=>by
    have h1:=z8 e he hb;rw [heq,hiun] at h1;cases h1
   have hno:mT md ops (mi md ops) j i=false:=by
    cases hd:mT md ops (mi md ops) j i with
    | false=>rfl
    | true=>have:=hdown.ready hj hd;rw [hiun] at this;cases this
   obtain ⟨hap,hee,hp⟩:=hfree j oj hoj hji hjun hnot;have h2:=Rk hoj hap hee hp hno hy h1
   have hfree':∀ k ok,ops[k]?= some ok->k≠i->(listed.setIfInBounds j true).getD k true=false->
     (∀ e ∈ ok.after,Region.binds md e=true->e.on≠i)->oi.apart ops ok=true∧(eff i=true->eff k=false)∧Bx md ops eff idx inR i k:=fun k ok hk hki hun hno=>by
    refine hfree k ok hk hki ?_ hno;by_cases hjk:j=k
    ·subst hjk;exact hjun
    ·rw [getD_set_ne true hjk] at hun;exact hun
   refine Rj (fun t' n' ⟨n2,h3,h4⟩=>ih (listed.setIfInBounds j true) t' n' n2 (hdown.step hj) hfree' (ready_mono hr (Ne.symm hji)) h3 ?_) h2;rw [sP _ _ hji];exact h4
def KU {Q:List C->Nat->Prop} (hE:Aa md ops eff=true) (hP:∀ i j,Bx md ops eff idx inR i j):∀ (l:List Oper) (k:Nat) (listed:Array Bool) (t:List C) (n:Nat),Down md ops listed->(∀ j,l[j]?= ops[k+j]?)->(∀ j,j < k->listed.getD j true=true)->
  Region.lexFrom md ops l.length k listed=true->oA P ops Hs eff idx inR Q l k t n->CX P md ops Hs eff idx inR Q l.length listed t n
 | [],_,_,_,_,_,_,_,hB,h=>⟨by simpa [Region.lexFrom] using hB,h⟩
 | o::l,k,listed,t,n,hd,hl,hk,hB,h=>by
  have h0:ops[k]?= some o:=by simpa using (hl 0).symm
  simp only [pR,Region.lexFrom,dY] at hB;obtain ⟨⟨hr,hf⟩,hB'⟩:=hB;have h':lh P ops Hs eff idx inR k (oA P ops Hs eff idx inR Q l (k+1)) t n:=h;unfold lh at h';simp only [h0] at h';obtain ⟨c,n',hfst,hK⟩:=h';have hr':k ∈ Region.ready md ops listed:=aq hr
  refine Qj h0 l.length listed t n n' hd (fun j oj hj hne hun hno=>⟨Region.free_spec h0 hf j oj hj hne hun hno,fun he=>?_,hP k j⟩) hr' hfst
   (KU hE hP l (k+1) _ _ _ (hd.step hr') (fun j=>by have:=hl (j+1);simpa [rA,uq 1 j] using this) ?_ hB' hK)
  ·refine KH hE he ?_ hj hno;rcases rI j k with u4 | heq | u4
   ·rw [hk j u4] at hun;cases hun
   ·exact absurd heq hne
   ·exact u4
  ·intro j hj;by_cases hjk:k=j
   ·subst hjk;by_cases u4:k < listed.size
    ·simp [u4]
    ·simp [u4]
   ·rw [getD_set_ne true hjk];exact hk j aw
def Run.Wz {id n':Nat} {t t':List C} {H:zl} (hm:P.follows .mixedOrders=true) (hB:Region.lexB .any ops=true) (hE:Aa .any ops eff=true) (hP:∀ i j,Bx .any ops eff idx inR i j) (hH:Hs 0=H)
  (h:oA P ops Hs eff idx inR (fun t n=>t=t'∧n=n') ops.toList 0 t 0):Run P B (.region id ops true) ⟨t,H⟩ .normal ⟨t',Hs n'⟩:=fun q m w E a Q _ hs hq=>by
 simp only [Region.lexB,dY] at hB;subst hH;refine wpIn_region_any hm (yp (Hs:=Hs) (eff:=eff) (idx:=idx) (inR:=inR) (H0:=Hs 0) (Q:=fun t n=>t=t'∧n=n') (w0:=w) (E0:=E) (fun t1 n1 w1 E1 a1 he h1 g1=>by obtain ⟨rfl,rfl⟩:=he;exact hq _ _ w1 E1 a1 ⟨rfl,rfl⟩ h1 g1) _ _ t 0 _ E a hs.drew ((Grow.drew w E (Hs 0)).fI tD) ?_);have:=KU (Hs:=Hs) (eff:=eff) (idx:=idx) (inR:=inR) (Q:=fun t n=>t=t'∧n=n') (P:=P) (md:=.any) hE hP ops.toList 0 (Array.replicate ops.size false) t 0 Down.start aj (fun j hj=>absurd hj (gO j)) (aq hB.2) h;simpa using this
structure ix where
 calls:Bool
 bl:List Nat
 keep:List Nat:=[]
 calm:List Nat:=[]
def mW:List Nat->Nat->Bool
 | [],_=>false
 | x::xs,k=>match Nat.beq x k with | true=>true | false=>mW xs k
def ix.blind (T:ix) (k:Nat):Bool:=mW T.bl k
def ix.Ct (T:ix) (k:Nat):Bool:=match T.calls with | true=>!mW T.calm k | false=>false
def wI (T:ix) (ops:Array Oper) (i:Nat):Bool:=match ops[i]? with | some o=>CC (T.Ct i) o && !T.blind i | none=>false
def yz (T:ix) (ops:Array Oper) (i:Nat):Nat:=((List.range i).filter (wI T ops)).length
def iY (T:ix) (ops:Array Oper) (i k:Nat):Bool:=match ops[i]? with | some o=>(xF o || T.blind i) || k == yz T ops i | none=>true
def He (md:Region.Mode) (T:ix) (ops:Array Oper) (ms:List Nat):Bool:=
 Aa md ops (wI T ops) && (List.range ops.size).all fun i=>(List.range ops.size).all fun j=>
  (!(wI T ops j) || wI T ops i || iY T ops i (yz T ops j+1) || !(iY T ops i (yz T ops j)) || mT md ops ms j i) &&
  (!(wI T ops i) || wI T ops j || iY T ops j (yz T ops i) || !(iY T ops j (yz T ops i+1)) || mT md ops ms j i)
def Bp (md:Region.Mode) (T:ix) (ops:Array Oper):Bool:=He md T ops (mi md ops)
def Rp {T:ix} (h:Bp md T ops=true) (i j:Nat):Bx md ops (wI T ops) (yz T ops) (iY T ops) i j:=by
 simp only [Bp,He,dY,dZ,pN] at h
 have he:∀ i,wI T ops i=true->i < ops.size:=fun i hi=>by
  unfold wI at hi;split at hi
  ·rename_i o ho;exact (gm.1 ho).1
  ·cases hi
 have hin:∀ i k,¬i < ops.size->iY T ops i k=true:=fun i k hi=>by
  unfold iY;rw [rL aw]
 constructor
 ·intro h1 h2 h3 h4;by_cases hi:i < ops.size
  ·have:=(h.2 i hi j (he j h2)).1;simp only [h1,h2,h3,h4,sV,rq,Bool.or_false] at this;exact dB
  ·exact hin i _ hi
 ·intro h1 h2 h3 h4;by_cases hj:j < ops.size
  ·have:=(h.2 i (he i h1) j hj).2;simp only [h1,h2,h3,h4,sV,rq,Bool.or_false] at this;exact dB
  ·exact hin j _ hj
def CN (o:Oper):Bool:=match o.op with | .load ..=>true | _=>false
def JL {o:Oper} {ρ:Operand->C} {H:zl} {K:C->zl->Prop} (hb:CN o=true) (h:mL P H ρ o K):∃ c,eh P o ρ H c H∧K c H:=by
 unfold CN at hb;split at hb
 ·rename_i t x ho;unfold mL at h;rw [ho] at h;dsimp only at h;obtain ⟨c,h1,h2⟩:=Db h;exact ⟨c,.same <| .load t x ho h1,h2⟩
 ·cases hb
def ku (keep:List Nat) (H H':zl):Prop:=∀ id,mW keep id=true->H'[id]?= H[id]?
def ku.refl (keep:List Nat) (H:zl):ku keep H H:=fun _ _=>rfl
def ku.trans {keep:List Nat} {H H' H'':zl} (h:ku keep H H') (h':ku keep H' H''):ku keep H H'':=fun id hi=>(h' id hi).trans (h id hi)
def CJ (H H':zl) (k:Prop):List Nat->Prop
 | []=>k
 | id::ids=>H'[id]?= H[id]?∧CJ H H' k ids
def Dd {H H':zl} {k:Prop}:∀ {keep:List Nat},CJ H H' k keep->ku keep H H'∧k
 | [],h=>⟨fun id hi=>by simp [mW] at hi,h⟩
 | x::xs,h=>by
  obtain ⟨h1,h2⟩:=h;obtain ⟨h3,h4⟩:=Dd h2;refine ⟨fun id hi=>?_,h4⟩;unfold mW at hi;split at hi
  ·rename_i e;obtain rfl:=Nat.eq_of_beq_eq_true e;exact h1
  ·exact h3 id hi
def Sy {H H':zl} {id:Nat} (h:H'[id]?= H[id]?) (hops:List eU):qb H' id hops=qb H id hops:=by unfold qb;rw [h]
def Ra {H H':zl} {t:TypeId} {id:Nat} {hops:List eU} {sz i k:Nat} (h:H'[id]?= H[id]?):wy P H' t (.ref id hops sz i k)=wy P H t (.ref id hops sz i k):=by
 unfold wy m8;simp only [Sy h]
def D7 (P:Program) (keep:List Nat) (H:zl) (ρ:Operand->C) (o:Oper) (K:C->zl->Prop):Prop:=
 match o.op with
 | .load t x=>match ρ x with
  | .jS cells=>CM P H t (.jS cells) fun c=>K c H
  | .ref id hops sz i k=>bK (mW keep id) <| CM P H t (.ref id hops sz i k) fun c=>K c H
  | _=>False
 | .call cl=>match cl.callee with
  | .value x=>match ρ x with
   | .fn f first caps=>bK (qt P f) <| ∃ r,(∀ H2,zb P f H2 (first++(cl.args.toList.map fun x=>ff (ρ x))++caps) r H2)∧okB r fun r=>K r H
   | _=>False
  | _=>False
 | .makeSlice t x y=>match ρ x,ρ y with
  | .v (.int _ n),.v (.int _ n')=>match P.underlying t with
   | some (.slice e)=>match P.info? e with
    | some i=>match mN P e with
     | some cs=>bK (cs.all jl) <| n'=n∧0<=n∧(i.bytes:Int) * n<=281474976710656∧n<=9223372036854775807∧jn i.size fun sz=>K (.u1 0 sz (List.replicate n.toNat cs)) H
     | none=>False
    | none=>False
   | _=>False
  | _,_=>False
 | _=>False
def IL {keep:List Nat} {o:Oper} {ρ:Operand->C} {H:zl} {K:C->zl->Prop} (h:D7 P keep H ρ o K):∃ c,(∀ H2,ku keep H H2->eh P o ρ H2 c H2)∧K c H:=by
 unfold D7 at h;split at h
 ·rename_i t x ho;split at h
  ·rename_i cells hx;obtain ⟨c,h1,h2⟩:=Db h;refine ⟨c,fun H2 _=>.same <| .load t x ho ?_,h2⟩;rw [hx,<- h1]
   rfl
  ·rename_i id hops sz i k hx;obtain ⟨h0,h⟩:=zX h;obtain ⟨c,h1,h2⟩:=Db h;refine ⟨c,fun H2 hs=>.same <| .load t x ho ?_,h2⟩;rw [hx,<- h1];exact Ra (hs id h0)
  ·exact cN
 ·rename_i cl ho;split at h
  ·rename_i x hcl;split at h
   ·rename_i f first caps hf;obtain ⟨h1,r,h2,h3⟩:=zX h;exact ⟨r,fun H2 _=>.Ht cl ho x hcl hf h1 (h2 H2),jj (k:=fun c=>K c H) h3⟩
   ·exact cN
  ·exact cN
 ·rename_i t x y ho;split at h
  ·rename_i k n k' n' hx hy;split at h
   ·rename_i e hu;split at h
    ·rename_i i hi;split at h
     ·rename_i cs hz;obtain ⟨h1,rfl,h2,h3,h4,h5⟩:=zX h;exact ⟨_,fun H2 _=>.same <| .Rc t x y ho hu hi hz h1 hx hy h2 h3 h4,qu (k:=fun sz=>K (.u1 0 sz (List.replicate n'.toNat cs)) H) h5⟩
     ·exact cN
    ·exact cN
   ·exact cN
  ·exact cN
 ·exact cN
def HU (P:Program) (T:ix) (ops:Array Oper) (o:Oper) (next:Nat->List C->zl->(List C->zl->Prop)->Prop) (k:Nat) (t:List C) (H:zl) (K:List C->zl->Prop):Prop:=
 match jJ ops t o with
 | some true=>match T.blind k with
  | true=>D7 P T.keep H (ev t) o fun c H'=>lS t o.dst c fun t=>next (k+1) t H K
  | false=>match CC (T.Ct k) o with
   | true=>mL P H (ev t) o fun c H'=>CJ H H' (lS t o.dst c fun t=>next (k+1) t H' K) T.keep
   | false=>match xF o || CN o with
    | true=>mL P H (ev t) o fun c H'=>lS t o.dst c fun t=>next (k+1) t H' K
    | false=>mL P H (ev t) o fun c H'=>H'=H∧lS t o.dst c fun t=>next (k+1) t H K
 | some false=>lS t o.dst .un fun t=>next (k+1) t H K
 | none=>False
def lQ (P:Program) (T:ix) (ops:Array Oper) (l:List Oper):Nat->List C->zl->(List C->zl->Prop)->Prop:=
 List.rec (motive:=fun _=>Nat->List C->zl->(List C->zl->Prop)->Prop) (fun _ t H K=>K t H) (fun o _ next=>HU P T ops o next) l
theorem S3 (T:ix) (o:Oper) (l:List Oper) (k:Nat) (t:List C) (H:zl) (K:List C->zl->Prop):lQ P T ops (o::l) k t H K=HU P T ops o (lQ P T ops l) k t H K:=rfl
def KD (T:ix) (k:Nat):yz T ops (k+1)=yz T ops k+if wI T ops k then 1 else 0:=by
 unfold yz;rw [uw,List.filter_append,gW];cases h:wI T ops k <;> simp [h]
def F9 {T:ix} {D:zl}:∀ {l:List Oper} {k:Nat} {t:List C} {H:zl} {K:List C->zl->Prop},(∀ j,l[j]?= ops[k+j]?)->ku T.keep H D->lQ P T ops l k t H K->
  ∃ (L:List zl) (t':List C),K t' ((H::L).getLast aj)∧(∀ X ∈ L,ku T.keep H X)∧∀ past:List zl,past.length=yz T ops k->(∀ X ∈ past,ku T.keep H X)->
   oA P ops (fun i=>((past++H::L)[i]?).getD D) (wI T ops) (yz T ops) (iY T ops) (fun t n=>t=t'∧n=yz T ops k+L.length) l k t (yz T ops k)
 | [],k,t,H,K,hl,hD,h=>⟨[],t,h,aj,fun past hp _=>⟨rfl,rfl⟩⟩
 | o::l,k,t,H,K,hl,hD,h=>by
  have h0:ops[k]?= some o:=by simpa using (hl 0).symm
  have hl':∀ j,l[j]?= ops[k+1+j]?:=fun j=>by have:=hl (j+1);simpa [rA,uq 1 j] using this
  have he:wI T ops k=(CC (T.Ct k) o && !T.blind k):=by unfold wI;rw [h0]
  have hin:∀ m,iY T ops k m=((xF o || T.blind k) || m == yz T ops k):=fun m=>by unfold iY;rw [h0]
  have all:∀ (past L:List zl),(∀ X ∈ past,ku T.keep H X)->(∀ X ∈ L,ku T.keep H X)->∀ m:Nat,ku T.keep H (((past++H::L)[m]?).getD D):=fun past L hp hL m=>by
   cases hx:(past++H::L)[m]? with
   | none=>exact hD
   | some X=>
    have:=dS hx;rcases gJ.1 this with h1 | h1
    ·exact hp X h1
    ·rcases rB.1 h1 with rfl | h1
     ·exact .refl _ _
     ·exact hL X h1
  have quiet:∀ c,wI T ops k=false->(∀ past L,past.length=yz T ops k->(∀ X ∈ past,ku T.keep H X)->(∀ X ∈ L,ku T.keep H X)->QA P ops (fun i=>((past++H::L)[i]?).getD D) (iY T ops k) o c t)->lQ P T ops l (k+1) (put t o.dst c) H K->
    ∃ (L:List zl) (t':List C),K t' ((H::L).getLast aj)∧(∀ X ∈ L,ku T.keep H X)∧∀ past:List zl,past.length=yz T ops k->(∀ X ∈ past,ku T.keep H X)->
     oA P ops (fun i=>((past++H::L)[i]?).getD D) (wI T ops) (yz T ops) (iY T ops) (fun t n=>t=t'∧n=yz T ops k+L.length) (o::l) k t (yz T ops k):=fun c ht hq hK=>by
   obtain ⟨L,t',h1,hL,h2⟩:=F9 hl' hD hK;have hc:yz T ops (k+1)=yz T ops k:=by rw [KD,ht];rfl
   rw [hc] at h2;refine ⟨L,t',h1,hL,fun past hp hs=>?_⟩;unfold oA lh;rw [h0];exact ⟨c,_,.inl ⟨ht,by rw [hin];simp,hq past L hp hs hL,rfl⟩,h2 past hp hs⟩
  have iS:∀ c H',wI T ops k=true->EA P ops H H' o c t->ku T.keep H H'->lQ P T ops l (k+1) (put t o.dst c) H' K->
    ∃ (L:List zl) (t':List C),K t' ((H::L).getLast aj)∧(∀ X ∈ L,ku T.keep H X)∧∀ past:List zl,past.length=yz T ops k->(∀ X ∈ past,ku T.keep H X)->
     oA P ops (fun i=>((past++H::L)[i]?).getD D) (wI T ops) (yz T ops) (iY T ops) (fun t n=>t=t'∧n=yz T ops k+L.length) (o::l) k t (yz T ops k):=fun c H' ht hq hsm hK=>by
   have back:ku T.keep H' H:=fun id hi=>(hsm id hi).symm
   obtain ⟨L,t',h1,hL,h2⟩:=F9 hl' (back.trans hD) hK;have hc:yz T ops (k+1)=yz T ops k+1:=by rw [KD,ht];rfl
   rw [hc] at h2;refine ⟨H'::L,t',aq h1,fun X hX=>?_,fun past hp hs=>?_⟩
   ·rcases rB.1 hX with rfl | hX
    ·exact hsm
    ·exact hsm.trans (hL X hX)
   have h3:=h2 (past++[H]) (by simp [hp]) (fun X hX=>by
    rcases gJ.1 hX with h | h
    ·exact back.trans (hs X h)
    ·rw [gM.1 h];exact back)
   unfold oA lh;rw [h0];refine ⟨c,yz T ops k+1,.inr ⟨ht,rfl,?_,rfl⟩,?_⟩
   ·have e1:((past++H::H'::L)[yz T ops k]?).getD D=H:=by rw [<- hp];simp
    have e2:((past++H::H'::L)[yz T ops k+1]?).getD D=H':=by rw [<- hp,gu aw];simp
    dsimp only;rw [e1,e2];exact hq
   ·simpa [pW,rA,uq 1] using h3
  have same:∀ (past L:List zl),past.length=yz T ops k->((past++H::L)[yz T ops k]?).getD D=H:=fun past L hp=>by rw [<- hp];simp
  rw [S3] at h;unfold HU at h;split at h
  ·rename_i hw;cases hbl:T.blind k with
   | true=>
    rw [hbl] at h;obtain ⟨c,h1,h2⟩:=IL h;exact quiet c (by rw [he,hbl];simp) (fun past L _ hs hL=>.inl ⟨hw,fun m _=>h1 _ (all past L hs hL m)⟩) (jN (k:=fun t=>lQ P T ops l (k+1) t H K) h2)
   | false=>
   rw [hbl] at h;simp only at h;have he2:wI T ops k=CC (T.Ct k) o:=by rw [he,hbl];simp
   cases ht:CC (T.Ct k) o with
   | true=>
    rw [ht] at h;obtain ⟨c,H',h1,h2⟩:=Fx h;obtain ⟨h3,h4⟩:=Dd h2;exact iS c H' (he2.trans ht) (.inl ⟨hw,h1⟩) h3 (jN (k:=fun t=>lQ P T ops l (k+1) t H' K) h4)
   | false=>
    rw [ht] at h;simp only at h;cases hb:xF o with
    | true=>
     rw [hb,uu] at h;obtain ⟨c,h1,h2⟩:=I2 hb h;exact quiet c (he2.trans ht) (fun past L _ _ _=>.inl ⟨hw,fun m _=>h1 _⟩) (jN (k:=fun t=>lQ P T ops l (k+1) t H K) h2)
    | false=>
     rw [hb,rq] at h
     have only:∀ c,eh P o (ev t) H c H->∀ past L,past.length=yz T ops k->(∀ X ∈ past,ku T.keep H X)->(∀ X ∈ L,ku T.keep H X)->QA P ops (fun i=>((past++H::L)[i]?).getD D) (iY T ops k) o c t:=fun c h1 past L hp _ _=>.inl ⟨hw,fun m hm=>by
      rw [hin,hb,hbl,rq,rq,gT] at hm;subst hm;dsimp only;rw [same past L hp];exact h1⟩
     cases hlo:CN o with
     | true=>
      rw [hlo] at h;obtain ⟨c,h1,h2⟩:=JL hlo h;exact quiet c (he2.trans ht) (only c h1) (jN (k:=fun t=>lQ P T ops l (k+1) t H K) h2)
     | false=>
      rw [hlo] at h;obtain ⟨c,H',h1,rfl,h2⟩:=Fx h;exact quiet c (he2.trans ht) (only c h1) (jN (k:=fun t=>lQ P T ops l (k+1) t _ K) h2)
  ·rename_i hw;have hK:=jN (k:=fun t=>lQ P T ops l (k+1) t H K) h;cases ht:wI T ops k with
   | true=>exact iS .un H ht (.inr ⟨hw,rfl,rfl⟩) (.refl _ _) hK
   | false=>exact quiet .un ht (fun past L _ _ _=>.inr ⟨hw,rfl⟩) hK
  ·exact cN
def Run.WA {id:Nat} {T:ix} {t:List C} {H:zl} {K:List C->zl->Prop} (hm:P.follows .mixedOrders=true) (hB:Region.lexB .any ops=true) (hT:Bp .any T ops=true) (h:lQ P T ops ops.toList 0 t H K):
  ∃ s',Run P B (.region id ops true) ⟨t,H⟩ .normal s'∧K s'.tmps s'.H:=by
 obtain ⟨L,t',h1,_,h2⟩:=F9 (k:=0) (D:=H) aj (.refl _ _) h;have h3:=h2 [] rfl aj;have hE:Aa .any ops (wI T ops)=true:=by simp only [Bp,He,dY] at hT;exact hT.1
 have:=Run.Wz (B:=B) (id:=id) (Hs:=fun i=>((H::L)[i]?).getD H) (eff:=wI T ops) (idx:=yz T ops) (inR:=iY T ops) (n':=L.length) (t':=t') hm hB hE (fun i j=>Rp hT i j) rfl (by simpa [yz] using h3);refine ⟨_,this,?_⟩
 have e:((H::L)[L.length]?).getD H=(H::L).getLast aj:=by
  rw [List.getLast_eq_getElem];simp
 dsimp only;rw [e];exact h1
end
def Ba:C->Bool
 | .agg cs=>cs.all jl
 | c=>jl c
def qS (H:zl):Bool:=H.all fun ob=>match ob.kind with
 | 1=>ob.rows.all fun r=>r.all zy
 | 4=>ob.fz == 0 || (match ob.rows with | [.rc _::t]=>t.all Ba | _=>false)
 | _=>true
def wS {H:zl} {id:Nat} {ty:TypeId} {sz fz:Nat} {r r':List C} (hob:H[id]?= some ⟨1,ty,sz,[r],fz⟩) (hno:r.all zy=true) (hno':r'.all zy=true) {id':Nat} {p:List eU} {x:Nat × List (List C)}
  (h:qb (H.set id ⟨1,ty,sz,[r'],fz⟩) id' p=some x):(id'≠id∧qb H id' p=some x)∨(id'=id∧p=[]∧x=(sz,[r'])∧qb H id []=some (sz,[r])):=by
 obtain ⟨ob,ho,hk,hg⟩:=jh h;by_cases hi:id'=id
 ·subst hi
  right
  rw [gj,dU rfl,dU (dP.1 hob).1] at ho;cases ho
  obtain ⟨rfl,rfl⟩:=kU (fun i k c hc=>by
   obtain ⟨rfl,hc⟩:=yU.1 hc;exact dZ.1 hno' c (dS hc)) hg
  exact ⟨rfl,rfl,rfl,by unfold qb;rw [hob];simp [qT]⟩
 ·left
  refine ⟨hi,?_⟩;rw [gj,dR (Ne.symm hi)] at ho;unfold qb;rw [ho];simp only [hk,if_true];exact hg
def qe.CE {w:World} {E:Env} {H:zl} (h:qe w E H) {id:Nat} {ty:TypeId} {sz fz:Nat} {r r':List C} (hob:H[id]?= some ⟨1,ty,sz,[r],fz⟩) (hlen:r'.length=r.length) (hno:r.all zy=true) (hno':r'.all zy=true)
  (hc:∀ (k:Nat) c c' u,r[k]?= some c->r'[k]?= some c'->L E c u->w.cell? ⟨E.β id [],k,none⟩=some u->L E c' u):qe w E (H.set id ⟨1,ty,sz,[r'],fz⟩) where
 n:=aq h.n
 eu id' ob p sz' rows' hob' hx:=by
  rcases wS hob hno hno' hx with ⟨h1,h2⟩ | ⟨rfl,rfl,h1,h2⟩
  ·rw [gj,dR (Ne.symm h1)] at hob';exact h.eu id' ob p sz' rows' hob' h2
  ·rw [gj,dU rfl,dU (dP.1 hob).1] at hob';cases hob'
   cases h1
   have hb:=h.eu _ _ _ _ _ hob h2;refine ⟨hb.len,fun q hq=>?_,?_⟩
   ·rw [gM.1 hq,hlen];exact hb.row r (gM.2 rfl)
   ·obtain ⟨cur,e,h3,h4,h5⟩:=hb.eu;refine ⟨cur,e,h3,h4,?_⟩;intro i k c' hc';obtain ⟨rfl,hc'⟩:=yU.1 hc';have hk:k < r.length:=by rw [<- hlen];exact (dP.1 hc').1
    have hk':r[k]?= some r[k]:=by simp [hk]
    obtain ⟨u,hu,ho⟩:=h5 0 k r[k] (yU.2 ⟨rfl,hk'⟩);refine ⟨u,hu,?_⟩;rw [qU.loose (dZ.1 hno _ (dS hk'))] at ho;rw [qU.loose (dZ.1 hno' c' (dS hc'))];refine ⟨?_,ho.2⟩;have h6:L E r[k] u:=aF
    have h7:L E c' u:=hc k _ _ u hk' hc' h6 (by
     unfold World.cell?;rw [h3];simpa using hu)
    simpa [Env.at] using h7
 inj i p j q x y hx hy he:=by
  have key:∀ i p x,qb (H.set id ⟨1,ty,sz,[r'],fz⟩) i p=some x->∃ x',qb H i p=some x':=fun i p x hx=>by
   rcases wS hob hno hno' hx with ⟨h1,h2⟩ | ⟨rfl,rfl,h1,h2⟩
   ·exact ⟨x,h2⟩
   ·exact ⟨_,h2⟩
  obtain ⟨x',hx'⟩:=key i p x hx;obtain ⟨y',hy'⟩:=key j q y hy;exact h.inj i p j q x' y' hx' hy' he
 qv:=h.qv
 sep i p x o u hx hu:=by
  rcases wS hob hno hno' hx with ⟨h1,h2⟩ | ⟨rfl,rfl,h1,h2⟩
  ·obtain ⟨e1,ob,e2,e3⟩:=h.sep i p x o u h2 hu;exact ⟨e1,ob,by rw [gj,dR (Ne.symm h1)];exact e2,e3⟩
  ·obtain ⟨e1,ob,e2,e3⟩:=h.sep _ [] _ o u h2 hu;rw [hob] at e2;cases e2
   exact ⟨rfl,⟨1,ty,sz,[r'],fz⟩,by rw [gj,dU rfl,dU (dP.1 hob).1],e3⟩
 ty i ob ho hk:=by
  rw [gj] at ho;split at ho
  ·split at ho
   ·cases ho;cases hk
   ·cases ho
  ·exact h.ty i ob ho hk
 fz i ob ho:=by
  rw [gj] at ho;split at ho
  ·split at ho
   ·cases ho;have:=h.fz id _ hob;exact dB
   ·cases ho
  ·exact h.fz i ob ho
def jH.M4 {H:zl} {id:Nat} {ob ob':Ob} (hob:H[id]?= some ob) (h1:ob.kind≠4) (h2:ob'.kind≠4):jH H (H.set id ob'):=fun i o h4=>by
 rw [gj];split
 ·rename_i e;subst e;rw [dU (dP.1 hob).1,hob];constructor
  ·intro e;cases e;exact absurd h4 h2
  ·intro e;cases e;exact absurd h4 h1
 ·exact Iff.rfl
def qx.CE {w:World} {E:Env} {H:zl} (h:qx w E H) {id:Nat} {ty:TypeId} {sz fz:Nat} {r r':List C} (hob:H[id]?= some ⟨1,ty,sz,[r],fz⟩) (hlen:r'.length=r.length) (hno:r.all zy=true) (hno':r'.all zy=true)
  (hc:∀ (k:Nat) c c' u,r[k]?= some c->r'[k]?= some c'->L E c u->w.cell? ⟨E.β id [],k,none⟩=some u->L E c' u):qx w E (H.set id ⟨1,ty,sz,[r'],fz⟩)∧Grow w E H w E (H.set id ⟨1,ty,sz,[r'],fz⟩):=by
 have hR:=h.base.CE hob hlen hno hno' hc
 have hG:qD w E H w E (H.set id ⟨1,ty,sz,[r'],fz⟩):=⟨Env.le.refl E,fun _ _ _=>rfl,rfl,rfl,rfl,gf _,fun _ _ _=>rfl,fun _ _ _ h=>.inl h,fun b ⟨i,p,x,hx,he⟩=>by
  rcases wS hob hno hno' hx with ⟨h1,h2⟩ | ⟨rfl,rfl,h1,h2⟩
  ·exact .inr ⟨i,p,x,h2,he⟩
  ·exact .inr ⟨_,[],_,h2,he⟩⟩
 have hk:=jH.M4 (ob':=⟨1,ty,sz,[r'],fz⟩) hob (fun e=>by cases e) (fun e=>by cases e);exact ⟨⟨hR,ly.step h hG hk⟩,hG.up h hk⟩
section
variable {B:Nat} {s:S}
def zp.var (id:Nat) {ty:TypeId} {sz fz:Nat} {r r':List C} (hob:s.H[id]?= some ⟨1,ty,sz,[r],fz⟩) (hno:r.all zy=true) (hno':r'.all zy=true) (hw:fR r r'):zp B s ⟨s.tmps,s.H.set id ⟨1,ty,sz,[r'],fz⟩⟩:=fun m w E a hs=>by
 have hlen:∀ {a b:List C},fR a b->b.length=a.length:=by
  intro a b h
  induction h with
  | nil=>rfl
  | cons _ _ ih=>simp [ih]
 have hget:∀ {a b:List C},fR a b->∀ (k:Nat) c c',a[k]?= some c->b[k]?= some c'->WC c c':=by
  intro a b h
  induction h with
  | nil=>intro k c c' h;simp at h
  | cons h1 _ ih=>
   intro k c c' e1 e2;cases k with
   | zero=>simp at e1 e2;subst e1 e2;exact h1
   | succ k=>exact ih k c c' (aq e1) uZ
 obtain ⟨hR,g⟩:=hs.heap.CE hob (hlen hw) hno hno' fun k c c' u e1 e2 hl _=>hget hw k c c' e1 e2 E u hl
 exact ⟨E,⟨hR,hs.tmps,hs.defers,aq hs.base⟩,g.fI tD⟩
def zp.nK (id k:Nat) (ty':TypeId) (sz':Nat) {ty:TypeId} {sz fz sz0:Nat} {r:List C} {rows:List (List C)} (hob:s.H[id]?= some ⟨1,ty,sz,[r],fz⟩) (hk:r[k]?= some (.u1 1 sz0 rows)) (hz:rows=[]∨sz'=sz0) (hno:r.all zy=true)
  (hno':(r.set k (.gl s.H.length sz' rows)).all zy=true):
  zp B s ⟨s.tmps,s.H.set id ⟨1,ty,sz,[r.set k (.gl s.H.length sz' rows)],fz⟩++[⟨4,ty',sz',rows,0⟩]⟩:=fun m w E a hs=>by
 have hgb:qb s.H id []=some (sz,[r]):=by unfold qb;rw [hob];simp [qT]
 have hb:=hs.heap.base.eu _ _ _ _ _ hob hgb;obtain ⟨cur,e,h3,h4,h5⟩:=hb.eu;obtain ⟨u,hu,ho⟩:=h5 0 k _ (yU.2 ⟨rfl,hk⟩);rw [qU.loose rfl] at ho;have hl:L E (.u1 1 sz0 rows) u:=aF
 obtain ⟨E1,hh1,hl1,g1⟩:=hs.heap.Dm hl ty' hz;have u4:id < s.H.length:=(dP.1 hob).1;have hob1:(s.H++[⟨4,ty',sz',rows,0⟩])[id]?= some ⟨1,ty,sz,[r],fz⟩:=by rw [dX u4];exact hob
 have hβ:E1.β id []=E.β id []:=g1.le.β id [] (by rw [hs.heap.n];exact u4)
 have hcu:w.cell? ⟨E1.β id [],k,none⟩=some u:=by
  unfold World.cell?;rw [hβ,h3];simpa using hu
 obtain ⟨hR,g2⟩:=hh1.CE hob1 (r':=r.set k (.gl s.H.length sz' rows)) aj hno hno' fun j c c' v e1 e2 hl' hv=>by
  rw [gj] at e2;split at e2
  ·rename_i e;subst e;rw [hcu] at hv;cases hv
   split at e2
   ·cases e2;exact hl1
   ·cases e2
  ·rw [e1] at e2;cases e2
   exact hl'
 rw [tu _ _ u4] at hR g2;exact da
end
def FM (w:World) (o:Obj) {k:Nat} (h:k < w.heap.size):(w.alloc o).heap[k]?= w.heap[k]?:=by
 show (w.heap.push o)[k]?= _;rw [Array.getElem?_push,dR aw]
def RA {P:Program} {g:Operand} {ps:Array Tmp} {assign body:Code} {B m:Nat} {H:zl} {t:List C} {f:FuncId} {caps:List C} {w:World} {E:Env} {a:Act} {Q:Exit->Act->World->Prop}
  (hs:xR B m w E ⟨t,H⟩ a) (hg:ev t g=.fn f [] caps) (hcb:qt P f=true)
  (hit:∀ (l:Nat) (r:Loop),r.state=.ready->r.pending=none->r.params=ps->r.assign=assign->r.body=body->
   ∃ (rr:C) (Hf:zl) (rf:Loop),zb P f (H++[ft l r t]) (.v (.func (.yield l) #[] #[])::caps) rr Hf∧Hf[H.length]?= some (ft l rf t)∧rf.state≠.busy∧rf.tmps=r.tmps∧B<=Hf.length∧
   ∀ w' E' a',xR B m w' E' ⟨t,Hf.set H.length (ft l { rf with state:=.exhausted } t)⟩ a'->jF B w E H w' E' (Hf.set H.length (ft l { rf with state:=.exhausted } t))->
    match rf.pending with | none=>Q .normal a' w' | some c=>c.wpIn (fw none) 0 P Q a' w'):
  (Code.rangeFunc g ps assign body).wpIn (fw none) 0 P Q a w:=by
 have hm:=hs.defers.le;refine wpIn_rangeFunc ?_;intro fn _;obtain ⟨r,hr⟩:∃ r:Loop,r={ state:=.ready,pending:=none,fn,tmps:=a.tmps,params:=ps,assign,body,defers:=w.heap.size }:=⟨_,rfl⟩;obtain ⟨W1,hW1⟩:∃ W1,W1=(w.alloc (.deferred (some []))).alloc (.loop r):=⟨_,rfl⟩
 have hL1:W1.heap[w.heap.size+1]?= some (.loop r):=by
  rw [hW1];have:=World.alloc_heap_new (w.alloc (.deferred (some []))) (.loop r);rwa [World.size_alloc] at this
 have hK1:W1.heap[w.heap.size]?= some (.deferred (some [])):=by
  rw [hW1];exact (FM _ _ aj).trans (World.alloc_heap_new w _)
 have hsame:∀ k,k < w.heap.size->W1.heap[k]?= w.heap[k]?:=fun k hk=>by
  rw [hW1];exact (FM _ _ aA).trans (FM _ _ hk)
 have hsz:W1.heap.size=w.heap.size+2:=by rw [hW1];simp
 have hv:=C1 hs.tmps g;rw [hg] at hv
 obtain ⟨zs,hσ,hzs⟩:∃ zs,a.eval g=.func (.func f) #[] zs∧LL E caps zs.toList:=by
  generalize a.eval g=u at *;cases hv with
  | fn f first caps ys zs h1 h2 h3 h4=>
   have:ys= #[]:=aq h1.symm
   subst this;exact ⟨zs,rfl,aq h2,fun i c y e1 e2=>h4 i c y e1 uZ⟩
 obtain ⟨E1,hR1,G1⟩:=hs.heap.U1 (w:=W1) (l:=w.heap.size+1) (r:=r) (t:=t) hsame (by rw [hW1];rfl) (by rw [hW1];rfl) (by rw [hW1];rfl) aw hL1 aw (by rw [hr];exact hs.tmps);obtain ⟨rr,Hf,rf,hS,hHf,hbusy,htm,hB,hQ⟩:=hit (w.heap.size+1) r (by rw [hr]) (by rw [hr]) (by rw [hr]) (by rw [hr]) (by rw [hr])
 have eg:∀ (args:Array Value),(callFunc f args).run P W1=.ok (.enter f args) W1:=by
  intro args;unfold qt at hcb;split at hcb
  rotate_left
  ·cases hcb
  rename_i fn hfn;simp only [dY,pd] at hcb;have hname : fn.name ≠ "runtime.NumGoroutine" := by simpa using hcb.1
  have hbody:fn.body≠none:=bE
  simp [callFunc,hfn,hname,hbody]
 refine ⟨w.heap.size+1,[Ai w.heap.size],W1,{ target:=.fn (.func f) zs,args:= #[.func (.yield (w.heap.size+1)) #[] #[]] },W1,f, #[.func (.yield (w.heap.size+1)) #[] #[]]++zs,W1,?_,?_,fun _ _=>trivial,?_,fun h=>(by cases h),?_⟩
 ·rw [hW1,hr];exact run_enterLoop_outer _ _ _ _ _
 ·simp only [resolve,hσ];simp [go_sem]
 ·simp [invoke,go_sem,eg]
 ·refine (callsIn_wide (n:=0)).2 ((hS W1 E1 _ hR1 ?_).mono ?_)
  ·have:=(LL.one (.v _ rfl:L E1 (.v (.func (.yield (w.heap.size+1)) #[] #[])) (.func (.yield (w.heap.size+1)) #[] #[]))).append (hzs.mono G1.le);simpa using this
  ·rintro e w3 ⟨v,E3,rfl,hR3,_,G3⟩;obtain ⟨⟨hL3,_⟩,ht3⟩:=hR3.u5.fG H.length _ (.loop rf) t hHf rfl ⟨rfl,rfl⟩;obtain ⟨hR4,G4⟩:=hR3.DX (r':={ rf with state:=.exhausted }) hHf rfl;have hend:=run_endLoop (P:=P) hL3 hbusy;have G:=(G1.trans G3).trans G4;have hn:B<=E.n:=by rw [hs.heap.n];exact hs.base
   have hD:(w3.putObj (w.heap.size+1) (.loop { rf with state:=.exhausted })).heap[w.heap.size]?= some (.deferred (some [])):=by
    rw [World.putObj_heap_other aw];exact (G3.frame _ aw (hR1.free hK1)).trans hK1
   have h4:xR B m (w3.putObj (w.heap.size+1) (.loop { rf with state:=.exhausted })) E3 ⟨t,Hf.set H.length (ft (w.heap.size+1) { rf with state:=.exhausted } t)⟩ { a with defers:=[Ai w.heap.size]++a.defers }:=by
    refine ⟨hR4,hs.tmps.mono G.le,⟨⟨w.heap.size,rfl,hm,hD,?_⟩,hs.defers.grow hs.heap G⟩,aq hB⟩;intro hmem
    have key:∀ {ds:List Deferred},Marks m w ds->Ai w.heap.size ∉ ds:=by
     intro ds
     induction ds with
     | nil=>intro _ h;cases h
     | cons d ds ih=>
      rintro ⟨⟨D,h1,_,h3,_⟩,ht⟩ h;rcases rB.1 h with h5 | h5
      ·rw [h1] at h5;have:w.heap.size=D:=by simpa [Ai] using h5
       have:=(gm.1 h3).1;omega
      ·exact ih ht h5
    exact key hs.defers hmem
   have:=hQ _ _ _ h4 (G.fI hn);refine ⟨rf.pending,_,hend,?_⟩;exact dB
def M0:Option Code->Exit->Prop
 | none,.normal=>True
 | some .ret,.ret=>True
 | some (.exit i),.exit j=>i=j
 | _,_=>False
def qX.rangeFunc {P:Program} {g:Operand} {ps:Array Tmp} {assign body:Code} {B:Nat} {H:zl} {t:List C} {f:FuncId} {caps:List C} {R:Exit->S->Prop} (hg:ev t g=.fn f [] caps) (hcb:qt P f=true)
  (hit:∀ (l:Nat) (r:Loop),r.state=.ready->r.pending=none->r.params=ps->r.assign=assign->r.body=body->
   ∃ (rr:C) (Hf:zl) (rf:Loop) (ex:Exit) (s':S),zb P f (H++[ft l r t]) (.v (.func (.yield l) #[] #[])::caps) rr Hf∧Hf[H.length]?= some (ft l rf t)∧rf.state≠.busy∧rf.tmps=r.tmps∧B<=Hf.length∧M0 rf.pending ex∧
    zp B ⟨t,Hf.set H.length (ft l { rf with state:=.exhausted } t)⟩ s'∧R ex s'):qX P B (.rangeFunc g ps assign body) ⟨t,H⟩ R:=fun q m w E a Q hr hs hq=>by
 obtain rfl:=hr rfl;refine RA hs hg hcb fun l r h1 h2 h3 h4 h5=>?_
 obtain ⟨rr,Hf,rf,ex,s',a1,a2,a3,a4,a5,a6,a7,a8⟩:=hit l r h1 h2 h3 h4 h5;refine ⟨rr,Hf,rf,a1,a2,a3,a4,a5,fun w' E' a' hs' g'=>?_⟩;obtain ⟨E2,hs2,g2⟩:=a7 m w' E' a' hs';have hq':=hq ex s' w' E2 a' a8 hs2 (g'.trans g2);generalize rf.pending=pe at a6
 match pe,ex,a6 with
 | none,.normal,_=>exact hq'
 | some .ret,.ret,_=>exact wpIn_ret hq'
 | some (.exit i),.exit j,h=>cases h;exact wpIn_exit hq'
def Lx (o:Oper):Option TypeId:=match o.op with
 | .makeMap t r=>match r with
  | none=>some t
  | some _=>none
 | _=>none
def UU (P:Program) (t:TypeId):Bool:=match P.underlying t with
 | some (.map _ e)=>match P.underlying e with
  | some (.int _)=>false
  | some .bool=>false
  | some .string=>false
  | _=>true
 | _=>false
noncomputable def hasC (H:zl):Bool:=List.rec (motive:=fun _=>Bool) false (fun ob _ next=>match ob with
 | ⟨kind,_,sz,_,fz⟩=>match kind with
  | 4=>match sz with
   | 2=>match fz with
    | 1=>true
    | _=>next
   | _=>next
  | _=>next) H
noncomputable def mapRel (H:zl) (ρ:Operand->C) (o:Oper):Bool:=match o.op with
 | .range _ _=>true
 | .next _ _=>true
 | .entry _=>true
 | .insert _ _ _ _=>true
 | .mapUpdate _ _ _ _=>hasC H
 | .call cl=>match cl.callee with
  | .builtin b=>match b with
   | .delete=>true
   | .append=>match cl.args.toList with
    | x::_=>match ρ x with
     | .gl _ _ _=>hasC H
     | .u1 _ sz _=>match sz with
      | 99=>true
      | _=>false
     | _=>false
    | []=>false
   | _=>false
  | _=>false
 | _=>false
def W5 (P:Program) (t:TypeId):Bool:=
 match P.underlying t with
 | some (.pointer _)=>true
 | some (.map _ _)=>true
 | some (.tuple es)=>match es.toList with
  | u::_=>match P.underlying u with
   | some (.pointer _)=>true
   | _=>false
  | []=>false
 | _=>false
def M1 (P:Program) (ρ:Operand->C) (o:Oper):Option (FuncId × List C):=
 match o.op with
 | .call cl=>match cl.callee with
  | .value x=>match ρ x with
   | .fn f first caps=>match qt P f with
    | true=>some (f,first++(cl.args.toList.map fun x=>ff (ρ x))++caps)
    | false=>none
   | _=>none
  | _=>none
 | _=>none
def HD (P:Program) (ρ:Operand->C) (o:Oper):Option (FuncId × List C):=
 match W5 P o.type with
 | true=>M1 P ρ o
 | false=>none
def jI.call {P:Program} {H:zl} {ρ:Operand->C} {o:Oper} {f:FuncId} {args:List C} {R:C->zl->Prop} (h:HD P ρ o=some (f,args)) (hs:qE P f H args R):jI P o ρ H R:=fun w E σ hh hl _ K hk=>by
 unfold HD at h;split at h
 rotate_left
 ·cases h
 unfold M1 at h;split at h
 rotate_left
 ·cases h
 rename_i cl ho;split at h
 rotate_left
 ·cases h
 rename_i x hcl;split at h
 rotate_left
 ·cases h
 rename_i f' first caps hf;split at h
 rotate_left
 ·cases h
 rename_i hcb;cases h
 have hl:∀ x ∈ o.op.operands,L E (Ab.ff (ρ x)) (σ x):=fun x hx=>nJ (hl x hx)
 have h0:=hl x bD;rw [hf] at h0;have h0:L E (.fn f first caps) (σ x):=h0
 obtain ⟨ys,zs,hv,h1,h2,h3,h4⟩:∃ ys zs,σ x=.func (.func f) ys zs∧first.length=ys.size∧caps.length=zs.size∧(∀ (i:Nat) c y,first[i]?= some c->ys[i]?= some y->L E c y)∧(∀ (i:Nat) c y,caps[i]?= some c->zs[i]?= some y->L E c y):=by
  generalize σ x=u at *;cases h0 with
  | fn f first caps ys zs h1 h2 h3 h4=>exact ⟨ys,zs,rfl,h1,h2,h3,h4⟩
 unfold qt at hcb;split at hcb
 rotate_left
 ·cases hcb
 rename_i fn hfn;simp only [dY,pd] at hcb;have hname : fn.name ≠ "runtime.NumGoroutine" := by simpa using hcb.1
 have hbody:fn.body≠none:=bE
 have hr:(execOp σ o).run P w=.ok (.enter f (ys++cl.args.map σ++zs)) w:=by
  unfold execOp;simp [ho,resolve,hcl,hv,Deferred.ofValue,invoke,callFunc,hfn,hname,hbody]
 rw [hr];refine (hs w E (ys++cl.args.map σ++zs) hh ?_).mono ?_
 ·have e1:LL E first ys.toList:=⟨aq h1,fun i c y e1 e2=>h3 i c y e1 uZ⟩;have e2:LL E caps zs.toList:=⟨aq h2,fun i c y e1 e2=>h4 i c y e1 uZ⟩
  have e3:LL E (cl.args.toList.map fun x=>Ab.ff (ρ x)) (cl.args.map σ).toList:=by
   refine ⟨aj,?_⟩;intro i c y hc hy;rw [dT] at hc;rw [tq,dT] at hy;cases ha:cl.args.toList[i]? with
   | none=>rw [ha] at hc;cases hc
   | some a=>
    rw [ha] at hc hy;cases hc
    cases hy
    exact dD
  have:=(e1.append e3).append e2;simpa using this
 ·rintro e w' ⟨c,H',v,E',hR,rfl,h5,h6,h7⟩;exact ⟨v,rfl,hk c H' v w' E' hR h5 h6 h7⟩
def HQ (o:Oper):Option (BinOp × TypeId × Operand):=
 match o.op with
 | .binOp op t x y _=>match y with
  | .const v=>match v with
   | .nilFunc=>some (op,t,x)
   | _=>none
  | _=>none
 | _=>none
def Hd (x:C):Option Bool:=
 match x with
 | .fn ..=>some false
 | .v y=>match y with
  | .nilFunc=>some true
  | _=>none
 | _=>none
def Jm {x:C} {b:Bool} (h:Hd x=some b):∀ E u,L E x u->(b=true∧u=.nilFunc)∨(b=false∧∃ f ys zs,u=.func f ys zs):=by
 intro E u hl;unfold Hd at h;split at h
 ·cases h;cases hl;exact .inr ⟨rfl,_,_,_,rfl⟩
 ·split at h
  ·cases h;cases hl;exact .inl ⟨rfl,rfl⟩
  ·cases h
 ·cases h
def AI (P:Program) (t:TypeId):Bool:=
 match P.underlying t with
 | some (.func ..)=>true
 | _=>false
def ES (P:Program) (H:zl) (op:BinOp) (t:TypeId) (x:C) (K:C->zl->Prop):Prop:=
 match Hd x with
 | some b=>match op with
  | .eql=>bK (AI P t) <| K (.v (.bool b)) H
  | .neq=>bK (AI P t) <| K (.v (.bool (!b))) H
  | _=>False
 | none=>False
def Pb {P:Program} (w:World) (d:Nat) (t:TypeId) (ht:AI P t=true) (y:Value) (n:Bool) (hy:(n=true∧y=.nilFunc)∨(n=false∧∃ f xs ys,y=.func f xs ys)):(Op.equalIn (d+1) t y .nilFunc).run P w=.ok n w:=by
 unfold AI at ht;split at ht
 rotate_left
 ·cases ht
 rename_i a b c hu;rcases hy with ⟨rfl,rfl⟩ | ⟨rfl,f,xs,ys,rfl⟩ <;> simp [Op.equalIn,run_underlying hu]
def QU {P:Program} (w:World) (t:TypeId) (ht:AI P t=true) (y:Value) (n:Bool) (hy:(n=true∧y=.nilFunc)∨(n=false∧∃ f xs ys,y=.func f xs ys)):(Op.equal t y .nilFunc).run P w=.ok n w:=Pb w 9999 t ht y n hy
def lW.MS {P:Program} {o:Oper} {ρ:Operand->C} {H:zl} (op:BinOp) (t t':TypeId) (x:Operand) (ho:o.op=.binOp op t x (.const .nilFunc) t') (hop:op=.eql∨op=.neq) (ht:AI P t=true) (b:Bool)
  (hx:∀ E u,L E (ρ x) u->(b=true∧u=.nilFunc)∨(b=false∧∃ f ys zs,u=.func f ys zs)):lW P o ρ H (.v (.bool (if op=.eql then b else !b))) H:=fun w E σ hh hl hc K hk=>by
 have hv:=hx E _ (hl x uX);have he:=QU w t ht _ _ hv
 have hr:(execOp σ o).run P w=.ok (.value (.bool (if op=.eql then b else !b))) w:=by
  unfold execOp;rcases hv with ⟨rfl,hv⟩ | ⟨rfl,f,ys,zs,hv⟩ <;> rw [hv] at he <;> rcases hop with rfl | rfl <;> simp [ho,hv,hc,eqGuard,binOp,he]
 rw [hr];exact hk _ w E hh (.v _ rfl) (Grow.refl w E H)
def T7 {P:Program} {o:Oper} {ρ:Operand->C} {H:zl} {K:C->zl->Prop} {op:BinOp} {t:TypeId} {x:Operand} (ho:HQ o=some (op,t,x)) (h:ES P H op t (ρ x) K):∃ c,lW P o ρ H c H∧K c H:=by
 obtain ⟨t',ho⟩:∃ t',o.op=.binOp op t x (.const .nilFunc) t':=by
  unfold HQ at ho;split at ho
  ·rename_i h1;split at ho
   ·split at ho
    ·cases ho;exact ⟨_,h1⟩
    ·cases ho
   ·cases ho
  ·cases ho
 unfold ES at h;split at h
 ·rename_i b hb;split at h
  ·exact ⟨_,.MS .eql t t' x ho (.inl rfl) (zX h).1 b (Jm hb),(zX h).2⟩
  ·exact ⟨_,.MS .neq t t' x ho (.inr rfl) (zX h).1 b (Jm hb),(zX h).2⟩
  ·exact cN
 ·exact cN
def Da (P:Program) (H:zl) (ρ:Operand->C) (o:Oper) (K:C->zl->Prop):Prop:=
 match Hn o with
 | some (op,ty,x)=>HT P H op ty (ρ x) K
 | none=>match HB o with
  | some (op,ty,x)=>HV P H op ty (ρ x) K
  | none=>match HQ o with
  | some (op,ty,x)=>ES P H op ty (ρ x) K
  | none=>match HD P ρ o with
  | some (f,args)=>∃ R,qE P f H args R∧∀ r H',R r H'->K r H'
  | none=>match mapRel H ρ o with
   | true=>jI P o ρ H K
   | false=>match Lx o with
    | some t=>match UU P t with
     | true=>∀ b:Nat,xn (H++[AL b [] 0 []]) fun H'=>K (.v (.map (some b))) H'
     | false=>∀ b:Nat,xn (H++[fq b #[] 0]) fun H'=>K (.v (.map (some b))) H'
    | none=>mL P H ρ o K
def F8 {P:Program} {H:zl} {ρ:Operand->C} {o:Oper} {K:C->zl->Prop} (h:Da P H ρ o K):jI P o ρ H K:=by
 unfold Da at h;split at h
 ·rename_i op ty x hn;exact RE hn h
 ·split at h
  ·rename_i op ty x hn;obtain ⟨c,h1,h2⟩:=S9 hn h;exact h1.lf h2
  split at h
  ·rename_i op ty x hn;obtain ⟨c,h1,h2⟩:=T7 hn h;exact h1.lf h2
  ·split at h
   ·rename_i f args hn;obtain ⟨R,h1,h2⟩:=h;exact jI.call hn (fun w E vs hh hl=>(h1 w E vs hh hl).mono fun e w' ⟨r,H',v,E',hR,h3⟩=>⟨r,H',v,E',h2 r H' hR,h3⟩)
   split at h
   ·exact h
   split at h
   ·rename_i t hm
    have ho:o.op=.makeMap t none:=by
     unfold Lx at hm;split at hm
     ·rename_i ho;split at hm
      ·cases hm;exact ho
      ·cases hm
     ·cases hm
    split at h
    ·exact .TN t ho fun b=>jb (h b)
    ·exact .makeMap t ho fun b=>jb (h b)
   ·obtain ⟨c,H',h1,h2⟩:=Fx h;exact h1.lf h2
def C9 (P:Program) (ops:Array Oper) (o:Oper) (next:List C->zl->(List C->zl->Prop)->Prop) (t:List C) (H:zl) (K:List C->zl->Prop):Prop:=
 match jJ ops t o with
 | some true=>Da P H (ev t) o fun c H'=>lS t o.dst c fun t=>next t H' K
 | some false=>lS t o.dst .un fun t=>next t H K
 | none=>False
def mz (P:Program) (ops:Array Oper) (l:List Oper):List C->zl->(List C->zl->Prop)->Prop:=
 List.rec (motive:=fun _=>List C->zl->(List C->zl->Prop)->Prop) (fun t H K=>K t H) (fun o _ next=>C9 P ops o next) l
theorem Kk (P:Program) (ops:Array Oper) (o:Oper) (l:List Oper) (t:List C) (H:zl) (K:List C->zl->Prop):mz P ops (o::l) t H K=C9 P ops o (mz P ops l) t H K:=rfl
section
variable {P:Program} {B:Nat} {ops:Array Oper}
def FG:∀ {l:List Oper} {t:List C} {H:zl} {K:List C->zl->Prop},mz P ops l t H K->wa P B ops l ⟨t,H⟩ fun s'=>K s'.tmps s'.H
 | [],t,H,K,h=>.nil h
 | o::l,t,H,K,h=>by
  rw [Kk] at h;unfold C9 at h;split at h
  ·rename_i hw;refine .run (s:=⟨t,H⟩) hw (.DU (s:=⟨t,H⟩) (F8 h)) ?_;rintro s1 ⟨c,H',h1,rfl⟩;exact FG (jN (k:=fun t=>mz P ops l t H' K) h1)
  ·rename_i hw;exact .pass (s:=⟨t,H⟩) hw (FG (jN (k:=fun t=>mz P ops l t H K) h))
  ·exact cN
abbrev WK:=List C->zl->(Exit->List C->zl->Prop)->Prop
def W9 (x y:WK):WK:=fun t H K=>x t H fun ex t H=>match ex with
 | .normal=>y t H K
 | ex=>K ex t H
def VR (id:Nat) (c:WK):WK:=fun t H K=>c t H fun ex t H=>match ex with
 | .exit id'=>if id'=id then K .normal t H else K (.exit id') t H
 | ex=>K ex t H
def Hu (c:Operand) (x y:WK):WK:=fun t H K=>match ev t c with
 | .v (.bool b)=>match b with
  | true=>x t H K
  | false=>y t H K
 | _=>False
noncomputable def readyB (all:List Bool) (ops:List Oper):List Bool->Nat->List Nat:=
 List.rec (motive:=fun _=>List Bool->Nat->List Nat) (fun _ _=>[]) (fun o _ ih bs k=>match bs with
  | []=>[]
  | b::bs=>match b with
   | true=>ih bs (k+1)
   | false=>match o.after.toList.all (fun e=>!Region.binds .any e || all.getD e.on false) with
    | true=>k::ih bs (k+1)
    | false=>ih bs (k+1)) ops
noncomputable def bothK (f:Nat->Prop) (l:List Nat):Prop:=List.rec (motive:=fun _=>Prop) True (fun i _ ih=>f i∧ih) l
structure iL where
 bl:List Nat:=[]
 keep:List Nat:=[]
 flat:Bool:=false
def XC (T:iL) (H0 H:zl):Prop:=ku T.keep H0 H∧(T.flat=true->qS H=true)
noncomputable def pickE (bl:List Nat) (ops:Array Oper) (t:List C) (l:List Nat):Option Nat:=
 List.rec (motive:=fun _=>Option Nat) none (fun i _ ih=>match ops[i]? with
  | some o=>match xF o || mW bl i with
   | true=>some i
   | false=>match jJ ops t o with
    | some b=>match b with
     | true=>ih
     | false=>some i
    | none=>ih
  | none=>ih) l
def GX (P:Program) (T:iL) (H:zl) (ρ:Operand->C) (o:Oper) (K:C->zl->Prop):Prop:=
 match o.op with
 | .call cl=>match cl.callee with
  | .value x=>match ρ x with
   | .fn f first caps=>bK (qt P f) <| ∃ r,(∀ H2,XC T H H2->zb P f H2 (first++(cl.args.toList.map fun x=>ff (ρ x))++caps) r H2)∧okB r fun r=>K r H
   | _=>False
  | _=>False
 | _=>D7 P T.keep H ρ o K
def EV (P:Program) (T:iL) (ops:Array Oper) (o:Oper) (k:Nat) (next:List C->zl->(List C->zl->Prop)->Prop) (t:List C) (H:zl) (K:List C->zl->Prop):Prop:=
 match jJ ops t o with
 | some true=>match mW T.bl k with
  | true=>GX P T H (ev t) o fun c H'=>lS t o.dst c fun t=>next t H' K
  | false=>match xF o with
   | true=>mL P H (ev t) o fun c H'=>lS t o.dst c fun t=>next t H' K
   | false=>False
 | some false=>lS t o.dst .un fun t=>next t H K
 | none=>False
def Hx (T:iL) (H H':zl) (k:Prop):Prop:=match T.flat with
 | true=>qS H'=true∧CJ H H' k T.keep
 | false=>CJ H H' k T.keep
def Aj (P:Program) (T:iL) (ops:Array Oper) (o:Oper) (next:List C->zl->(List C->zl->Prop)->Prop) (t:List C) (H:zl) (K:List C->zl->Prop):Prop:=
 match jJ ops t o with
 | some true=>match CN o with
  | true=>mL P H (ev t) o fun c H'=>lS t o.dst c fun t=>next t H' K
  | false=>Da P H (ev t) o fun c H'=>Hx T H H' (lS t o.dst c fun t=>next t H' K)
 | some false=>lS t o.dst .un fun t=>next t H K
 | none=>False
noncomputable def bruteK (P:Program) (T:iL) (ops:Array Oper) (n:Nat):List Bool->List C->zl->(List C->zl->Prop)->Prop:=
 Nat.rec (motive:=fun _=>List Bool->List C->zl->(List C->zl->Prop)->Prop)
  (fun listed t H K=>match readyB listed ops.toList listed 0 with
   | []=>K t H
   | _::_=>False)
  (fun _ ih listed t H K=>match readyB listed ops.toList listed 0 with
   | []=>K t H
   | i::is=>match pickE T.bl ops t (i::is) with
    | some i=>match ops[i]? with
     | some o=>EV P T ops o i (fun t H K=>ih (listed.set i true) t H K) t H K
     | none=>False
    | none=>bothK (fun i=>match ops[i]? with
     | some o=>Aj P T ops o (fun t H K=>ih (listed.set i true) t H K) t H K
     | none=>False) (i::is)) n
def Mf (md:Region.Mode) (ops:Array Oper) (ms:List Nat):Bool:=
 (List.range ops.size).all fun i=>(List.range ops.size).all fun j=>Nat.beq j i || mT md ops ms i j || match ops[i]?,ops[j]? with
  | some oi,some oj=>(oj.after.any fun e=>Region.binds md e && e.on == i) || oi.apart ops oj
  | _,_=>true
def AT (md:Region.Mode) (ops:Array Oper):Bool:=Mf md ops (mi md ops)
noncomputable def regionK (P:Program) (B:Nat) (ops:Array Oper) (draw:Bool):WK:=fun t H K=>match draw with
 | false=>mz P ops ops.toList t H fun t H=>K .normal t H
 | true=>(∃ T:ix,(P.follows .mixedOrders && Region.lexB .any ops && Bp .any T ops)=true∧lQ P T ops ops.toList 0 t H fun t H=>K .normal t H)∨
  ∃ T:iL,(P.follows .mixedOrders && AT .any ops)=true∧(T.flat=true->qS H=true)∧∃ R:List C->zl->Prop,bruteK P T ops ops.size (ops.toList.map fun _=>false) t H (fun t1 H1=>∃ t2 H2,zp B ⟨t1,H1⟩ ⟨t2,H2⟩∧R t2 H2)∧∀ t2 H2,R t2 H2->K .normal t2 H2
def Jt {all:List Bool}:∀ {os:List Oper} {bs:List Bool} {k i:Nat},i ∈ readyB all os bs k↔∃ j o,i=k+j∧os[j]?= some o∧bs[j]?= some false∧o.after.toList.all (fun e=>!Region.binds .any e || all.getD e.on false)=true
 | [],bs,k,i=>by simp [readyB]
 | o::os,[],k,i=>by
  have e:readyB all (o::os) [] k=[]:=rfl;rw [e];simp
 | o::os,b::bs,k,i=>by
  have e:readyB all (o::os) (b::bs) k=match b with
   | true=>readyB all os bs (k+1)
   | false=>match o.after.toList.all (fun e=>!Region.binds .any e || all.getD e.on false) with
    | true=>k::readyB all os bs (k+1)
    | false=>readyB all os bs (k+1):=rfl
  have ih:=Jt (all:=all) (os:=os) (bs:=bs) (k:=k+1) (i:=i)
  have split:(∃ j o',i=k+j∧(o::os)[j]?= some o'∧(b::bs)[j]?= some false∧o'.after.toList.all (fun e=>!Region.binds .any e || all.getD e.on false)=true)↔
    (i=k∧b=false∧o.after.toList.all (fun e=>!Region.binds .any e || all.getD e.on false)=true)∨i ∈ readyB all os bs (k+1):=by
   rw [ih];constructor
   ·rintro ⟨j,o',h1,h2,h3,h4⟩;cases j with
    | zero=>simp at h2 h3;subst h2;exact .inl ⟨aw,h3,h4⟩
    | succ j=>exact .inr ⟨j,o',aw,aq h2,aq h3,h4⟩
   ·rintro (⟨h1,h2,h3⟩ | ⟨j,o',h1,h2,h3,h4⟩)
    ·exact ⟨0,o,aw,rfl,bF,h3⟩
    ·exact ⟨j+1,o',aw,aq h2,aq h3,h4⟩
  rw [split,e];cases b with
  | true=>simp
  | false=>
   dsimp only;split
   ·rename_i h;rw [h];simp only [rB,and_true]
   ·rename_i h;rw [h];simp only [rZ,and_false,false_or]
def Cg {ops:Array Oper} {listed:Array Bool} (hl:listed.size=ops.size) (i:Nat):i ∈ Region.ready .any ops listed↔i ∈ readyB listed.toList ops.toList listed.toList 0:=by
 rw [Jt];unfold Region.ready;rw [List.mem_filter,pN]
 have z8:∀ o:Oper,o.after.toList.all (fun e=>!Region.binds .any e || listed.toList.getD e.on false)=o.after.all (fun e=>!Region.binds .any e || listed.getD e.on false):=fun o=>by
  rw [<- rW]
  congr 1
  funext e
  rw [ui,gN,pa]
 constructor
 ·rintro ⟨h1,h2⟩;rw [dY] at h2;obtain ⟨h2,h3⟩:=h2;obtain ⟨o,ho⟩:∃ o,ops[i]?= some o:=⟨ops[i],aD⟩;rw [ho] at h3;simp only [gh,pj] at h3;refine ⟨i,o,aw,by rw [gN];exact ho,?_,by rw [z8];exact h3⟩;rw [gN];rw [pa,rj aw] at h2;simp only [pj] at h2;rw [rj aw];simpa using h2
 ·rintro ⟨j,o,h1,h2,h3,h4⟩;obtain rfl:i=j:=by omega
  rw [gN] at h2 h3;have u4:=(gm.1 h2).1;refine ⟨u4,?_⟩;rw [dY];rw [z8] at h4;refine ⟨?_,by rw [h2];simpa using h4⟩;rw [pa,h3]
  rfl
def KA {f:Nat->Prop}:∀ {l:List Nat},bothK f l->∀ i ∈ l,f i
 | [],_,i,hi=>by cases hi
 | j::l,h,i,hi=>by
  have h:f j∧bothK f l:=h;rcases rB.1 hi with rfl | hi
  ·exact h.1
  ·exact KA h.2 i hi
def jI.W4 {o:Oper} {tmps:List C} {H:zl} {R:C->zl->Prop} {x:C} {dst:Option Tmp} {ops:Array Oper} (h:∀ d,dst=some d->d ∉ o.looksAt ops) (h':jI P o (ev (put tmps dst x)) H R):jI P o (ev tmps) H R:=
 fun w E σ hh hl hc K hk=>h' w E σ hh (fun y hy=>by rw [GQ (FP h y hy)];exact hl y hy) hc K hk
def jI.Hr {o:Oper} {ρ:Operand->C} {H:zl} {R R':C->zl->Prop} (hR:∀ c H',R c H'->R' c H') (h:jI P o ρ H R):jI P o ρ H R':=
 fun w E σ hh hl hc K hk=>h w E σ hh hl hc K fun c H' v w' E' h1=>hk c H' v w' E' (hR c H' h1)
def nr (P:Program) (ops:Array Oper) (X:zl->Prop) (i:Nat) (K:S->Prop) (s:S):Prop:=
 match ops[i]? with
 | none=>K s
 | some o=>(jJ ops s.tmps o=some true∧jI P o (ev s.tmps) s.H fun c H'=>X H'∧K ⟨put s.tmps o.dst c,H'⟩)∨(jJ ops s.tmps o=some false∧K ⟨put s.tmps o.dst .un,s.H⟩)
def Rl {ops:Array Oper} {X:zl->Prop} {i:Nat} {s:S} {K K':S->Prop} (hX:X s.H) (h:∀ s,X s.H->K s->K' s) (hh:nr P ops X i K s):nr P ops X i K' s:=by
 unfold nr at *;split
 ·exact h _ hX (by simpa [*] using hh)
 ·rename_i o ho;simp only [ho] at hh;rcases hh with ⟨h1,h2⟩ | ⟨h1,h2⟩
  ·exact .inl ⟨h1,h2.Hr fun c H' ⟨h3,h4⟩=>⟨h3,h _ h3 h4⟩⟩
  ·exact .inr ⟨h1,h _ hX h2⟩
def AD (P:Program) (md:Region.Mode) (ops:Array Oper) (X:zl->Prop) (Q:S->Prop):Nat->Array Bool->S->Prop
 | 0,listed,s=>Region.ready md ops listed=[]∧Q s
 | fuel+1,listed,s=>(Region.ready md ops listed=[]->Q s)∧∀ i ∈ Region.ready md ops listed,nr P ops X i (AD P md ops X Q fuel (listed.setIfInBounds i true)) s
def vT {P:Program} {B:Nat} {ops:Array Oper} {md:Region.Mode} {X:zl->Prop} {q:Option Nat} {m:Nat} {H0:zl} {Q:S->Prop} {w0:World} {E0:Env} {Q':Exit->Act->World->Prop} (hQ:∀ s w E a,Q s->xR B m w E s a->jF B w0 E0 H0 w E s.H->Q' .normal a w):
  ∀ (fuel:Nat) (listed:Array Bool) (s:S) (w:World) (E:Env) (a:Act),xR B m w E s a->jF B w0 E0 H0 w E s.H->AD P md ops X Q fuel listed s->wpAnyIn (fw q) 0 P md ops Q' fuel listed a w
 | 0,_,s,w,E,a,hs,hg,h=>⟨h.1,hQ s w E a h.2 hs hg⟩
 | fuel+1,listed,s,w,E,a,hs,hg,h=>⟨fun h0=>hQ s w E a (h.1 h0) hs hg,fun i hi=>by
   have h1:=h.2 i hi;unfold nr at h1;unfold wpOpIn;split
   ·rename_i ho;simp only [ho] at h1;exact vT hQ fuel _ s w E a hs hg h1
   ·rename_i o ho;simp only [ho] at h1;rcases h1 with ⟨hw,hv⟩ | ⟨hw,hK⟩
    ·rw [dU (jV hs.tmps hw)];refine nI.DU (s:=s) hv q m w E a _ Q' hs fun s' w' E' a' hR h2 g2=>?_
     obtain ⟨c,H',⟨_,h3⟩,rfl⟩:=hR;exact vT hQ fuel _ _ w' E' a' h2 (hg.trans g2) h3
    ·rw [dR bt];exact ⟨fun _ _=>trivial,vT hQ fuel _ ⟨put s.tmps o.dst .un,s.H⟩ w E _ (hs.put .un o.dst) hg hK⟩⟩
def Rm {ops:Array Oper} {X:zl->Prop} {j:Nat} {oi oj:Oper} {c:C} (hj:ops[j]?= some oj) (hap:oi.apart ops oj=true) {K:S->Prop} {s:S} (hy:YA P ops X oi c s.tmps)
  (h:nr P ops X j K ⟨put s.tmps oi.dst c,s.H⟩):nr P ops X j (fun s'=>YA P ops X oi c s'.tmps∧K ⟨put s'.tmps oi.dst c,s'.H⟩) s:=by
 obtain ⟨h1,h2,h3⟩:=Oper.apart_spec hap;unfold nr at *;simp only [hj] at *;rcases h with ⟨hw,hv⟩ | ⟨hw,hK⟩
 ·refine .inl ⟨(y3 h1) ▸ hw,(hv.Hr fun c' H' ⟨h4,h5⟩=>⟨h4,(YA.put h3).2 hy,?_⟩).W4 h1⟩;rw [put_comm _ _ h2] at h5;exact h5
 ·refine .inr ⟨(y3 h1) ▸ hw,(YA.put h3).2 hy,?_⟩;rw [put_comm _ _ h2] at hK;exact hK
def Ql {ops:Array Oper} {md:Region.Mode} {X:zl->Prop} {Q:S->Prop} {i:Nat} {oi:Oper} {c:C} (hi:ops[i]?= some oi):
  ∀ (fuel:Nat) (listed:Array Bool) (s:S),X s.H->
   (∀ j oj,ops[j]?= some oj->j≠i->listed.getD j true=false->(∀ e ∈ oj.after,Region.binds md e=true->e.on≠i)->oi.apart ops oj=true)->
   i ∈ Region.ready md ops listed->YA P ops X oi c s.tmps->
   AD P md ops X Q fuel (listed.setIfInBounds i true) ⟨put s.tmps oi.dst c,s.H⟩->AD P md ops X Q (fuel+1) listed s:=by
 have here:∀ (s:S) (K:S->Prop),X s.H->YA P ops X oi c s.tmps->K ⟨put s.tmps oi.dst c,s.H⟩->nr P ops X i K s:=fun s K hX hy hK=>by
  unfold nr;simp only [hi];rcases hy with ⟨h1,h2⟩ | ⟨h1,rfl⟩
  ·exact .inl ⟨h1,(h2 s.H hX).lf ⟨hX,hK⟩⟩
  ·exact .inr ⟨h1,hK⟩
 intro fuel
 induction fuel with
 | zero=>
  intro listed s hX _ hr hy H;refine ⟨fun h=>bu,fun j hj=>?_⟩;by_cases hji:j=i
  ·subst hji;exact here s _ hX hy H
  ·have:=ready_mono hj hji;rw [H.1] at this;cases this
 | succ fuel ih=>
  intro listed s hX hfree hr hy H;refine ⟨fun h=>bu,fun j hj=>?_⟩;by_cases hji:j=i
  ·subst hji;exact here s _ hX hy H
  ·have h1:=H.2 j (ready_mono hj hji);obtain ⟨hjun,oj,hoj,z8⟩:=mem_ready.1 hj
   have hnot:∀ e ∈ oj.after,Region.binds md e=true->e.on≠i:=fun e he hb heq=>by
    have h1:=z8 e he hb;have h0:=(mem_ready.1 hr).1;rw [heq] at h1;rcases rz i listed.size with h' | h'
    ·simp [h'] at h0 h1;rw [h0] at h1;cases h1
    ·simp [rL h'] at h1
   have hap:=hfree j oj hoj hji hjun hnot;have h2:=Rm hoj hap hy h1
   have hfree':∀ k ok,ops[k]?= some ok->k≠i->(listed.setIfInBounds j true).getD k true=false->
     (∀ e ∈ ok.after,Region.binds md e=true->e.on≠i)->oi.apart ops ok=true:=fun k ok hk hki hun hno=>by
    refine hfree k ok hk hki ?_ hno;by_cases hjk:j=k
    ·subst hjk;exact hjun
    ·rw [getD_set_ne true hjk] at hun;exact hun
   refine Rl hX (fun s' hX' ⟨h3,h4⟩=>ih (listed.setIfInBounds j true) s' hX' hfree' (ready_mono hr (Ne.symm hji)) h3 ?_) h2;rw [sP _ _ hji];exact h4
def Oc {md:Region.Mode} {ops:Array Oper} (h:AT md ops=true) {i j:Nat} {oi oj:Oper} (hi:ops[i]?= some oi) (hj:ops[j]?= some oj) (hne:j≠i) (hd:mT md ops (mi md ops) i j=false)
  (hno:∀ e ∈ oj.after,Region.binds md e=true->e.on≠i):oi.apart ops oj=true:=by
 simp only [AT,Mf,dZ,pN] at h;have h1:=h i (gm.1 hi).1 j (gm.1 hj).1
 have hb:Nat.beq j i=false:=by
  cases hb:Nat.beq j i with
  | false=>rfl
  | true=>exact absurd (Nat.eq_of_beq_eq_true hb) hne
 simp only [hb,hd,rq,hi,hj,pJ] at h1;rcases h1 with h1 | h1
 ·obtain ⟨e,hem,hb⟩:=Array.any_eq_true'.1 h1;simp only [dY,gT] at hb;exact absurd hb.2 (hno e hem hb.1)
 ·exact h1
def XC.trans {T:iL} {H H' H'':zl} (h:XC T H H') (h':XC T H' H''):XC T H H'':=⟨h.1.trans h'.1,h'.2⟩
def XC.back {T:iL} {H H' H'':zl} (h:XC T H H') (h':XC T H H''):XC T H' H'':=⟨fun id hi=>(h'.1 id hi).trans (h.1 id hi).symm,h'.2⟩
def OY {T:iL} {o:Oper} {ρ:Operand->C} {H:zl} {K:C->zl->Prop} (h:GX P T H ρ o K):∃ c,(∀ H2,XC T H H2->eh P o ρ H2 c H2)∧K c H:=by
 unfold GX at h;split at h
 ·rename_i cl ho;split at h
  ·rename_i x hcl;split at h
   ·rename_i f first caps hf;obtain ⟨h1,r,h2,h3⟩:=zX h;exact ⟨r,fun H2 hx=>.Ht cl ho x hcl hf h1 (h2 H2 hx),jj (k:=fun c=>K c H) h3⟩
   ·exact cN
  ·exact cN
 ·obtain ⟨c,h1,h2⟩:=IL h;exact ⟨c,fun H2 hx=>h1 H2 hx.1,h2⟩
def Qy {T:iL} {H0 H H':zl} {k:Prop} (hX:XC T H0 H) (h:Hx T H H' k):XC T H0 H'∧k:=by
 unfold Hx at h;split at h
 ·obtain ⟨h1,h2⟩:=Dd h.2;exact ⟨⟨hX.1.trans h1,fun _=>h.1⟩,h2⟩
 ·rename_i hf;obtain ⟨h1,h2⟩:=Dd h;exact ⟨⟨hX.1.trans h1,fun h=>by rw [hf] at h;cases h⟩,h2⟩
def Dr {bl:List Nat} {ops:Array Oper} {t:List C}:∀ {l:List Nat} {i:Nat},pickE bl ops t l=some i->i ∈ l
 | [],i,h=>by cases h
 | j::l,i,h=>by
  have h:(match ops[j]? with
   | some o=>match xF o || mW bl j with
    | true=>some j
    | false=>match jJ ops t o with
     | some b=>match b with
      | true=>pickE bl ops t l
      | false=>some j
     | none=>pickE bl ops t l
   | none=>pickE bl ops t l)=some i:=h
  split at h
  ·split at h
   ·cases h;exact pD ..
   ·split at h
    ·split at h
     ·exact px _ (Dr h)
     ·cases h;exact pD ..
    ·exact px _ (Dr h)
  ·exact px _ (Dr h)
def Fl {T:iL} {ops:Array Oper} {H0:zl} {K:List C->zl->Prop} (hap:AT .any ops=true):
  ∀ (fuel:Nat) (listed:Array Bool) (t:List C) (H:zl),Down .any ops listed->listed.size=ops.size->XC T H0 H->bruteK P T ops fuel listed.toList t H K->
   AD P .any ops (XC T H0) (fun s=>K s.tmps s.H) fuel listed ⟨t,H⟩
 | 0,listed,t,H,hd,hl,hX,h=>by
  have h:match readyB listed.toList ops.toList listed.toList 0 with
   | []=>K t H
   | _::_=>False:=h
  split at h
  ·rename_i hr;refine ⟨?_,h⟩;rw [r7];intro i hi;have:=(Cg hl i).1 hi;rw [hr] at this;cases this
  ·exact cN
 | fuel+1,listed,t,H,hd,hl,hX,h=>by
  have h:match readyB listed.toList ops.toList listed.toList 0 with
   | []=>K t H
   | i::is=>match pickE T.bl ops t (i::is) with
    | some i=>match ops[i]? with
     | some o=>EV P T ops o i (fun t H K=>bruteK P T ops fuel (listed.toList.set i true) t H K) t H K
     | none=>False
    | none=>bothK (fun i=>match ops[i]? with
     | some o=>Aj P T ops o (fun t H K=>bruteK P T ops fuel (listed.toList.set i true) t H K) t H K
     | none=>False) (i::is):=h
  split at h
  ·rename_i hr
   have h0:Region.ready .any ops listed=[]:=by
    rw [r7];intro i hi;have:=(Cg hl i).1 hi;rw [hr] at this;cases this
   exact ⟨fun _=>h,fun i hi=>by rw [h0] at hi;cases hi⟩
  ·rename_i j js hr;have hset:∀ i,(listed.setIfInBounds i true).toList=listed.toList.set i true:=fun i=>by simp
   have hsz:∀ i,(listed.setIfInBounds i true).size=ops.size:=fun i=>by simpa using hl
   split at h
   ·rename_i i hp;have hi:i ∈ Region.ready .any ops listed:=(Cg hl i).2 (by rw [hr];exact Dr hp);split at h
    rotate_left
    ·exact cN
    rename_i o ho
    have go:∀ c,YA P ops (XC T H0) o c t->bruteK P T ops fuel (listed.toList.set i true) (put t o.dst c) H K->AD P .any ops (XC T H0) (fun s=>K s.tmps s.H) (fuel+1) listed ⟨t,H⟩:=fun c hy hb=>
     Ql ho fuel listed ⟨t,H⟩ hX (fun j oj hj hne hun hno=>Oc hap ho hj hne (by
       cases hdp:mT .any ops (mi .any ops) i j with
       | false=>rfl
       | true=>
        have h1:=hd.ready hi hdp;rcases rz j listed.size with h' | h'
        ·simp [h'] at h1 hun;rw [h1] at hun;cases hun
        ·simp [rL h'] at h1) hno) hi hy
      (Fl hap fuel _ _ _ (hd.step hi) (hsz i) hX (by rw [hset];exact hb))
    unfold EV at h;split at h
    ·rename_i hw;split at h
     ·obtain ⟨c,h1,h2⟩:=OY h;exact go c (.inl ⟨hw,fun H2 h3=>h1 H2 (hX.back h3)⟩) (jN (k:=fun t=>bruteK P T ops fuel (listed.toList.set i true) t H K) h2)
     ·split at h
      ·rename_i hb;obtain ⟨c,h1,h2⟩:=I2 hb h;exact go c (.inl ⟨hw,fun H2 _=>h1 H2⟩) (jN (k:=fun t=>bruteK P T ops fuel (listed.toList.set i true) t H K) h2)
      ·exact cN
    ·rename_i hw;exact go .un (.inr ⟨hw,rfl⟩) (jN (k:=fun t=>bruteK P T ops fuel (listed.toList.set i true) t H K) h)
    ·exact cN
   ·have hne:Region.ready .any ops listed≠[]:=fun h0=>by
     have:j ∈ readyB listed.toList ops.toList listed.toList 0:=by rw [hr];exact pD ..
     have:=(Cg hl j).2 this;rw [h0] at this;cases this
    refine ⟨fun h0=>absurd h0 hne,fun i hi=>?_⟩;have hi2:=(Cg hl i).1 hi;rw [hr] at hi2;have h1:=KA h i hi2;split at h1
    rotate_left
    ·exact h1.elim
    rename_i o ho;unfold nr;rw [ho];dsimp only
    have next:∀ t' H',XC T H0 H'->bruteK P T ops fuel (listed.toList.set i true) t' H' K->AD P .any ops (XC T H0) (fun s=>K s.tmps s.H) fuel (listed.setIfInBounds i true) ⟨t',H'⟩:=fun t' H' hX' hb=>
     Fl hap fuel _ _ _ (hd.step hi) (hsz i) hX' (by rw [hset];exact hb)
    unfold Aj at h1;split at h1
    ·rename_i hw;refine .inl ⟨hw,?_⟩;split at h1
     ·rename_i hlo;obtain ⟨c,h2,h3⟩:=JL hlo h1;exact h2.lf ⟨hX,next _ _ hX (jN (k:=fun t=>bruteK P T ops fuel (listed.toList.set i true) t H K) h3)⟩
     ·refine (F8 h1).Hr fun c H' h2=>?_
      obtain ⟨h3,h4⟩:=Qy hX h2;exact ⟨h3,next _ _ h3 (jN (k:=fun t=>bruteK P T ops fuel (listed.toList.set i true) t H' K) h4)⟩
    ·rename_i hw;exact .inr ⟨hw,next _ _ hX (jN (k:=fun t=>bruteK P T ops fuel (listed.toList.set i true) t H K) h1)⟩
    ·exact h1.elim
def qX.Ww {P:Program} {B:Nat} {ops:Array Oper} {id:Nat} {t:List C} {H:zl} {R:Exit->S->Prop} {R':List C->zl->Prop} {T:iL} (hm:P.follows .mixedOrders=true) (hap:AT .any ops=true) (hf:T.flat=true->qS H=true)
  (h:bruteK P T ops ops.size (ops.toList.map fun _=>false) t H (fun t1 H1=>∃ t2 H2,zp B ⟨t1,H1⟩ ⟨t2,H2⟩∧R' t2 H2)) (hR:∀ t2 H2,R' t2 H2->R .normal ⟨t2,H2⟩):qX P B (.region id ops true) ⟨t,H⟩ R:=fun q m w E a Q _ hs hq=>by
 refine wpIn_region_any hm (vT (X:=XC T H) (H0:=H) (Q:=fun s=>∃ t2 H2,zp B s ⟨t2,H2⟩∧R' t2 H2) (w0:=w) (E0:=E) (fun s1 w1 E1 a1 he h1 g1=>?_) _ _ ⟨t,H⟩ _ E a hs.drew ((Grow.drew w E H).fI tD) ?_)
 ·obtain ⟨t2,H2,hw,hR2⟩:=he;obtain ⟨E2,h2,g2⟩:=hw m w1 E1 a1 h1;exact hq _ _ w1 E2 a1 (hR t2 H2 hR2) h2 (g1.trans g2)
 ·have e:(Array.replicate ops.size false).toList=ops.toList.map fun _=>false:=by
   rw [Array.toList_replicate,List.map_const'];simp
  refine Fl (K:=fun t1 H1=>∃ t2 H2,zp B ⟨t1,H1⟩ ⟨t2,H2⟩∧R' t2 H2) hap _ _ _ _ Down.start aj ⟨.refl _ _,hf⟩ ?_;rw [e];exact h
structure nn (P:Program) (B:Nat) (c:Code) (t:List C) (H:zl) (K:Exit->List C->zl->Prop):Prop where
 out:zW P B c ⟨t,H⟩ fun ex s=>K ex s.tmps s.H
def Wd (P:Program) (B:Nat) (c:Code):WK:=fun t H K=>nn P B c t H K
def G9 (P:Program) (B:Nat) (g:Operand) (ps:Array Tmp) (assign body:Code):WK:=fun t H K=>match ev t g with
 | .fn f first caps=>bK (qt P f && first.isEmpty) <| ∃ H0,zp B ⟨t,H⟩ ⟨t,H0⟩∧∃ ex t' H',(∀ (l:Nat) (r:Loop),r.state=.ready->r.pending=none->r.params=ps->r.assign=assign->r.body=body->
   ∃ (rr:C) (Hf:zl) (rf:Loop),zb P f (H0++[ft l r t]) (.v (.func (.yield l) #[] #[])::caps) rr Hf∧Hf[H0.length]?= some (ft l rf t)∧rf.state≠.busy∧rf.tmps=r.tmps∧B<=Hf.length∧M0 rf.pending ex∧
    zp B ⟨t,Hf.set H0.length (ft l { rf with state:=.exhausted } t)⟩ ⟨t',H'⟩)∧K ex t' H'
 | _=>False
structure wM (P:Program) (B:Nat) (c:Code) (l:Nat) (t:List C) (H:zl) (K:Exit->List C->zl->Prop):Prop where
 out:Au P B c (fun ex s=>K ex s.tmps s.H) l ⟨t,H⟩
def WX (P:Program) (B:Nat) (c:Code) (x:WK):WK:=fun t H K=>x t H fun ex t H=>match ex with
 | .goto l=>wM P B c l t H K
 | ex=>K ex t H
def Nj:WK:=fun _ _ _=>False
noncomputable def wpA (P:Program) (B:Nat) (c:Code):WK:=
 Code.rec (motive:=fun _=>WK) (fun t H K=>K .normal t H) (fun _ ops draw=>regionK P B ops draw) (fun _ _ x y=>W9 x y) (fun c _ _ x y=>Hu c x y) (fun id _ x=>VR id x) (fun c _=>Wd P B c)
  (fun g ps assign body _ _=>G9 P B g ps assign body) (fun id t H K=>K (.exit id) t H) (fun c x=>WX P B c x) (fun _ t H K=>K .normal t H) (fun l t H K=>K (.goto l) t H) (fun t H K=>K .ret t H) (fun _=>Nj) c
def jC:∀ {c:Code} {t:List C} {H:zl} {K:Exit->List C->zl->Prop},wpA P B c t H K->qX P B c ⟨t,H⟩ fun ex s=>K ex s.tmps s.H:=by
 intro c
 induction c with
 | skip=>intro t H K h;exact .skip h
 | exit id=>intro t H K h;exact .exit id h
 | ret=>intro t H K h;exact .ret h
 | label l=>intro t H K h;exact .label l h
 | seq x y ihx ihy=>
  intro t H K h;refine .seq ((ihx (t:=t) (H:=H) (K:=fun ex t H=>match ex with | .normal=>wpA P B y t H K | ex=>K ex t H) h).mono fun ex s1 h1=>?_);cases ex with
  | normal=>exact ihy h1
  | _=>exact h1
 | block id c ih=>
  intro t H K h;refine .block ((ih (t:=t) (H:=H) (K:=fun ex t H=>match ex with | .exit id'=>if id'=id then K .normal t H else K (.exit id') t H | ex=>K ex t H) h).mono fun ex s1 h1=>?_);cases ex with
  | exit id'=>exact h1
  | _=>exact h1
 | scope c ih=>
  intro t H K h;refine .WW ((ih (t:=t) (H:=H) (K:=fun ex t H=>match ex with | .goto l=>wM P B c l t H K | ex=>K ex t H) h).mono fun ex s1 h1=>?_);cases ex with
  | goto l=>exact (show wM P B c l s1.tmps s1.H K from h1).out
  | _=>exact h1
 | goto l=>intro t H K h;exact .goto l h
 | cond c x y ihx ihy=>
  intro t H K h
  change Hu c (wpA P B x) (wpA P B y) t H K at h
  unfold Hu at h;split at h
  ·rename_i b hb;cases b with
   | true=>exact .cond (s:=⟨t,H⟩) hb (ihx h)
   | false=>exact .cond (s:=⟨t,H⟩) hb (ihy h)
  ·exact cN
 | region id ops draw=>
  intro t H K h;cases draw with
  | false=>exact .region (FG (show mz P ops ops.toList t H (fun t H=>K .normal t H) from h))
  | true=>
   rcases (show (∃ T:ix,(P.follows .mixedOrders && Region.lexB .any ops && Bp .any T ops)=true∧lQ P T ops ops.toList 0 t H fun t H=>K .normal t H)∨
    ∃ T:iL,(P.follows .mixedOrders && AT .any ops)=true∧(T.flat=true->qS H=true)∧∃ R:List C->zl->Prop,bruteK P T ops ops.size (ops.toList.map fun _=>false) t H (fun t1 H1=>∃ t2 H2,zp B ⟨t1,H1⟩ ⟨t2,H2⟩∧R t2 H2)∧∀ t2 H2,R t2 H2->K .normal t2 H2 from h) with h | ⟨T,hm,hf,R,h1,h2⟩
   rotate_left
   ·rw [dY] at hm;exact qX.Ww hm.1 hm.2 hf h1 h2
   obtain ⟨T,h1,h2⟩:=h;simp only [dY] at h1;obtain ⟨s',h3,h4⟩:=Run.WA (B:=B) (id:=id) h1.1.1 h1.1.2 h1.2 h2;exact qX.mono h3 fun ex s1 ⟨e1,e2⟩=>by subst e1 e2;exact h4
 | loop c ih=>intro t H K h;exact .loop (show nn P B c t H K from h).out
 | rangeFunc g ps assign body=>
  intro t H K h
  change G9 P B g ps assign body t H K at h
  unfold G9 at h;split at h
  ·rename_i f first caps hg;obtain ⟨h1,H0,h0,ex,t',H',h2,h3⟩:=zX h;simp only [dY,ur] at h1;obtain ⟨h1,rfl⟩:=h1;refine .pre h0 (.rangeFunc hg h1 fun l r a1 a2 a3 a4 a5=>?_);obtain ⟨rr,Hf,rf,b1,b2,b3,b4,b5,b6,b7⟩:=h2 l r a1 a2 a3 a4 a5;exact ⟨rr,Hf,rf,ex,⟨t',H'⟩,b1,b2,b3,b4,b5,b6,b7,h3⟩
  ·exact cN
 | _=>intro t H K h;exact (show False from h).elim
def wM.go {c rest:Code} {l:Nat} {t:List C} {H:zl} {K:Exit->List C->zl->Prop} (hf:findLabel c l=some rest)
  (h:wpA P B rest t H fun ex t H=>match ex with | .goto l=>wM P B c l t H K | ex=>K ex t H):wM P B c l t H K:=by
 refine ⟨.mk _ hf (jC h) (fun e s h1 he=>?_) fun l s h1=>(show wM P B c l s.tmps s.H K from h1).out⟩;cases e with
 | goto l=>exact absurd rfl (he l)
 | _=>exact h1
def jy.zT {H1 H':zl} {id l:Nat} {r:Loop} {t:List C} {args:List C} {rv:Bool} {ps:Array Tmp} {assign body:Code} (hob:H1[id]?= some (ft l r t)) (hst:r.state=.ready) (hpe:r.pending=none) (hps:r.params=ps) (ha:r.assign=assign) (hb:r.body=body)
  (hn:args.length=ps.size) (hna:xy assign=false) (hnb:xy body=false)
  (h:wpA P H1.length assign (AE t ps.toList args) H1 fun e t1 H1'=>e=.normal∧H1'[id]?= some (ft l r t)∧wpA P H1.length body t1 (H1'.set id (ft l (busy r) t)) fun e t2 H2=>
   ∃ t3 H3,zp H1.length ⟨t2,H2⟩ ⟨t3,H3⟩∧Mw id l r t rv H' e H3):
  jy P l H1 args (.v (.bool rv)) H':=by
 subst hps ha hb;refine jy.wz hob hst hpe hn hna hnb ((jC h).mono fun e s1 ⟨h1,h2,h3⟩=>⟨h1,h2,(jC h3).mono fun e s2 ⟨t3,H3,h4,h5⟩=>⟨⟨t3,H3⟩,h4,h5⟩⟩)
def zW.inv {c:Code} {t:List C} {H:zl} {K:Exit->List C->zl->Prop} (I:Nat->List C->zl->Prop) (n:Nat) (h0:∃ t0 H0,zp B ⟨t,H⟩ ⟨t0,H0⟩∧I n t0 H0)
  (step:∀ n t H,I n t H->wpA P B c t H fun e t1 H1=>(e=.normal∧∃ m t2 H2,m < n∧zp B ⟨t1,H1⟩ ⟨t2,H2⟩∧I m t2 H2)∨(e≠.normal∧K e t1 H1)):
  nn P B c t H K:=by
 obtain ⟨t0,H0,hw,hI⟩:=h0;refine ⟨.pre hw ?_⟩
 suffices key:∀ n t H,I n t H->iJ P B c (n+1) ⟨t,H⟩ fun ex s=>K ex s.tmps s.H from ⟨n+1,key n t0 H0 hI⟩
 intro n
 induction n using Nat.strongRecOn with
 | _ n ih=>
  intro t H hI;refine .step ((jC (step n t H hI)).post fun ex s1 h1=>?_);rcases h1 with ⟨rfl,m,t2,H2,hm,hw2,hI2⟩ | ⟨hne,hK⟩
  ·exact ⟨⟨t2,H2⟩,hw2,(iJ.more aw (ih m hm t2 H2 hI2):iJ P B c n ⟨t2,H2⟩ _)⟩
  ·refine ⟨s1,.refl s1,?_⟩;cases ex with
   | normal=>exact absurd rfl hne
   | _=>exact hK
def zb.zT {f:FuncId} {fn:Func} {c:Code} {H H':zl} {args:List C} {r:C} (hf:P.funcs[f]?= some fn) (hb:fn.body=some c)
  (h:wpA P H.length c (entry fn args) H fun ex t1 H1=>(ex=.ret∨ex=.normal)∧∃ s2,zp H.length ⟨t1,H1⟩ s2∧s2.H=H'∧kL P fn s2=some r):zb P f H args r H':=
 qE.at (qE.wz hf hb ((jC h).mono fun ex s1 ⟨hex,s2,hw,h2,h3⟩=>⟨hex,s2,r,hw,h3,rfl,h2⟩))
def qE.zT {f:FuncId} {fn:Func} {c:Code} {H:zl} {args:List C} {R:C->zl->Prop} (hf:P.funcs[f]?= some fn) (hb:fn.body=some c)
  (h:wpA P H.length c (entry fn args) H fun ex t1 H1=>(ex=.ret∨ex=.normal)∧∃ s2 r,zp H.length ⟨t1,H1⟩ s2∧kL P fn s2=some r∧R r s2.H):qE P f H args R:=
 qE.wz hf hb (jC h)
def zb.Gg {f:FuncId} {fn:Func} {c:Code} {args:List C} {r:C} (hf:P.funcs[f]?= some fn) (hb:fn.body=some c)
  (h:wpA P 0 c (entry fn args) [] fun ex t1 H1=>(ex=.ret∨ex=.normal)∧∃ s2,zp 0 ⟨t1,H1⟩ s2∧kL P fn s2=some r) (hr:q8 0 9 r=true):zb P f [] args r []:=
 qE.close (R:=fun c=>c=r) (qE.wz (H:=[]) (R:=fun c _=>c=r) hf hb ((jC h).mono fun ex s1 ⟨hex,s2,hw,h2⟩=>⟨hex,s2,r,hw,h2,rfl⟩)) fun c h=>⟨h,hr⟩
end
def jc {n:Int} (h0: -9223372036854775808<=n) (h1:n<=9223372036854775807):IntKind.i64.wrap n=n:=IntWalk.i64_in n ⟨h0,h1⟩
def zu {n:Nat} (h:n < 9223372036854775807):IntKind.i64.wrap ((n:Int)+1)=((n+1:Nat):Int):=by rw [jc aw aw];rfl
section
variable {P:Program} {f:FuncId} {H H':zl}
def zb.pre {args args':List C} {r:C} (h:zb P f H args' r H') (hw:fR args args'):zb P f H args r H':=fun w E vs hh hl=>h w E vs hh (hw.LL hl)
def zb.post {args:List C} {r r':C} (h:zb P f H args r H') (hw:WC r r'):zb P f H args r' H':=fun w E vs hh hl=>(h w E vs hh hl).mono fun e w' ⟨v,E',h1,h2,h3,h4⟩=>⟨v,E',h1,h2,hw E' v h3,h4⟩
def toNat_cast (n:Nat):((n:Int)).toNat=n:=by simp
end
def Dx {P:Program} {f:FuncId} {vs:Array Value} {v:Value} {args:List C} {r:C} (H:zl) (hc:∀ w,Calls P f vs w fun e w'=>e=.returned v∧w'=w) (ha:∀ E (us:Array Value),LL E args us.toList->us=vs) (hr:∀ E,L E r v):zb P f H args r H:=fun w E us hh hl=>by
 obtain rfl:=ha E us hl;refine (hc w).mono ?_;rintro e w' ⟨rfl,rfl⟩;exact ⟨v,E,rfl,hh,hr E,Grow.refl _ _ _⟩
def Wu {a:Value} (E:Env) (us:Array Value) (h:LL E [.v a] us.toList):us= #[a]:=by
 obtain ⟨l⟩:=us
 match l,h with
 | [],h=>have:=h.1;simp at this
 | [x],h=>
  obtain ⟨h1,_⟩:=h.cons_inv;cases h1;rfl
 | _::_::_,h=>have:=h.1;simp at this
def Hk {a b:Value} (E:Env) (us:Array Value) (h:LL E [.v a,.v b] us.toList):us= #[a,b]:=by
 obtain ⟨l⟩:=us
 match l,h with
 | [],h=>have:=h.1;simp at this
 | [_],h=>have:=h.1;simp at this
 | [x,y],h=>
  obtain ⟨h1,h2⟩:=h.cons_inv;obtain ⟨h2,_⟩:=h2.cons_inv;cases h1;cases h2;rfl
 | _::_::_::_,h=>have:=h.1;simp at this
def yI {α:Type} {l:List α} {t:Nat} {y:α} (h:l[t]?= some y):l.set t y=l:=by
 apply pq
 intro i;rw [gj];split
 ·rename_i e;subst e;obtain ⟨h1,h2⟩:=dP.1 h;rw [dU h1,h]
 ·rfl
section
variable {B:Nat} {s:S}
def qe.freeze {w:World} {E:Env} {H:zl} (h:qe w E H) {id:Nat} {ob:Ob} (hob:H[id]?= some ob) (hk:ob.kind=2) (hno:∀ i k c,cellAt ob.rows i k=some c->zy c=true):
  ∃ E',E.le E'∧qe w E' (H.modify id fun ob=>⟨ob.kind,ob.ty,ob.sz,ob.rows,ob.rows.length⟩)∧(∀ b o u,E'.St b o=some u->E.St b o=some u∨b=E.β id [])∧E'.β=E.β∧E'.G=E.G∧
   ∀ i k c,cellAt ob.rows i k=some c->∃ u,E'.St (E.β id []) (i * ob.sz+k)=some u∧L E'.shut c u:=by
 have hgb:qb H id []=some (ob.sz,ob.rows):=by unfold qb;rw [hob];simp [hk,qT]
 have hB:=h.eu id ob [] _ _ hob hgb;obtain ⟨cur,e,hg,hcs,hcell⟩:=hB.eu
 have key:∀ o,o < ob.rows.length * ob.sz->∃ u,cur[o]?= some u∧u.oneCell'=true∧w.cell? ⟨E.β id [],o,none⟩=some u:=by
  intro o ho;obtain ⟨h1,h2,h3⟩:=E8 ho;obtain ⟨c,hc⟩:=wO hB.row h1 h2;obtain ⟨u,hu,hok⟩:=hcell _ _ c hc;rw [qU.loose (hno _ _ c hc)] at hok;rw [h3] at hu;exact ⟨u,hu,hok.2,by unfold World.cell?;rw [hg];simpa using hu⟩
 obtain ⟨E',hE'⟩:∃ E':Env,E'={ E with St:=fun b o=>if b=E.β id []∧o < ob.rows.length * ob.sz then cur[o]? else E.St b o }:=⟨_,rfl⟩
 have hle:E.le E':=by
  subst hE';refine ⟨gf _,fun _ _ _=>rfl,fun _ _ _=>rfl,fun b o u hu=>?_,fun _ _ _ _ hu=>hu⟩;show (if b=E.β id []∧o < ob.rows.length * ob.sz then cur[o]? else E.St b o)=some u;split
  ·rename_i hc;obtain ⟨rfl,ho⟩:=hc;obtain ⟨u',h1,_,h2⟩:=key o ho;have:=(h.qv _ _ _ hu).1;rw [h2] at this;rw [h1,<- this]
  ·exact hu
 have hSt:∀ b o u,E'.St b o=some u->E.St b o=some u∨(b=E.β id []∧o < ob.rows.length * ob.sz∧cur[o]?= some u):=by
  subst hE';intro b o u hu
  change (if b=E.β id []∧o < ob.rows.length * ob.sz then cur[o]? else E.St b o)=some u at hu
  split at hu
  ·rename_i hc;exact .inr ⟨hc.1,hc.2,hu⟩
  ·exact .inl hu
 have hβ:E'.β=E.β:=by subst hE';rfl
 have hn:E'.n=E.n:=by subst hE';rfl
 have get:∀ id' hops x,qb (H.modify id fun ob=>⟨ob.kind,ob.ty,ob.sz,ob.rows,ob.rows.length⟩) id' hops=some x->qb H id' hops=some x:=by
  intro id' hops x hx;obtain ⟨ob',ho',hk',hg'⟩:=jh hx;rw [pA] at ho';cases hx':H[id']? with
  | none=>rw [hx'] at ho';cases ho'
  | some ob0=>
   rw [hx'] at ho';simp only [ru,gh,gC] at ho';unfold qb;rw [hx'];split at ho'
   ·subst ho';simp only [hk',if_true];exact hg'
   ·subst ho';simp only [hk',if_true];exact hg'
 have obs:∀ (id':Nat) (ob':Ob),(H.modify id fun ob=>⟨ob.kind,ob.ty,ob.sz,ob.rows,ob.rows.length⟩)[id']?= some ob'->∃ ob0,H[id']?= some ob0∧ob'.kind=ob0.kind∧ob'.ty=ob0.ty∧ob'.sz=ob0.sz∧ob'.rows=ob0.rows∧ob0.fz<=ob'.fz∧ob'.fz<=ob'.rows.length∧(id'=id->ob'.fz=ob0.rows.length):=by
  intro id' ob' ho';rw [pA] at ho';cases hx':H[id']? with
  | none=>rw [hx'] at ho';cases ho'
  | some ob0=>
   rw [hx'] at ho';simp only [ru,gh,gC] at ho';have:=h.fz id' ob0 hx';split at ho'
   ·subst ho';exact ⟨ob0,rfl,rfl,rfl,rfl,rfl,this,gf _,fun _=>rfl⟩
   ·rename_i hne;subst ho';exact ⟨ob0,rfl,rfl,rfl,rfl,rfl,gf _,this,fun e=>absurd e.symm hne⟩
 refine ⟨E',hle,⟨by rw [hn,h.n];simp,?_,?_,?_,?_,?_,?_⟩,fun b o u hu=>(hSt b o u hu).imp_right (·.1),hβ,by subst hE';rfl,?_⟩
 ·intro id' ob' hops sz rows hob' hx;obtain ⟨ob0,h1,h2,_⟩:=obs id' ob' hob';have hx':=get _ _ _ hx;rw [h2];exact (h.eu id' ob0 hops sz rows h1 hx').step hle (by rw [h.n];exact An hx') rfl
 ·intro id1 p1 id2 p2 x y hx hy he;rw [hβ] at he;exact h.inj id1 p1 id2 p2 x y (get _ _ _ hx) (get _ _ _ hy) he
 ·intro b o u hu;rcases hSt b o u hu with h1 | ⟨rfl,h2,h3⟩
  ·exact h.qv b o u h1
  ·obtain ⟨u',h4,h5,h6⟩:=key o h2;rw [h3] at h4;cases h4
   exact ⟨h6,h5⟩
 ·intro id' hops x o u hx hu;have hx':=get _ _ _ hx;rw [hβ] at hu;obtain ⟨ob1,ho1,_,_⟩:=jh hx;obtain ⟨ob0,h1,h2,h3,h4,h5,h6,h7,h8⟩:=obs id' ob1 ho1;rcases hSt _ o u hu with h9 | ⟨h9,h10,_⟩
  ·obtain ⟨e1,ob2,e2,e3⟩:=h.sep id' hops x o u hx' h9;rw [h1] at e2;cases e2
   exact ⟨e1,ob1,ho1,by rw [h4];exact g9 e3 (pB _ h6)⟩
  ·obtain ⟨rfl,rfl⟩:=h.inj id' hops id [] x _ hx' hgb h9;rw [hob] at h1;cases h1
   exact ⟨rfl,ob1,ho1,by rw [h8 rfl,h4];exact h10⟩
 ·intro id' ob' hob' hk';obtain ⟨ob0,h1,h2,h3,_⟩:=obs id' ob' hob';obtain ⟨cur',hc⟩:=h.ty id' ob0 h1 (by rw [<- h2];exact hk');exact ⟨cur',by rw [hβ,h3];exact hc⟩
 ·intro id' ob' hob';obtain ⟨ob0,h1,h2,h3,h4,h5,h6,h7,h8⟩:=obs id' ob' hob';exact h7
 ·intro i k c hc;obtain ⟨u,hu,hok⟩:=hcell i k c hc;rw [qU.loose (hno _ _ c hc)] at hok;obtain ⟨h1,h2⟩:=Dj hB.row hc
  have u4:i * ob.sz+k < ob.rows.length * ob.sz:=by
   have:(i+1) * ob.sz<=ob.rows.length * ob.sz:=pB _ h1;rw [pI] at this;omega
  refine ⟨u,?_,?_⟩
  ·subst hE';show (if E.β id []=E.β id []∧i * ob.sz+k < ob.rows.length * ob.sz then cur[i * ob.sz+k]? else _)=some u;rw [dU ⟨rfl,u4⟩];exact hu
  ·have h3:=hok.1;simp only [Env.at,hk,if_true] at h3;exact h3.mono hle.shut
def zp.freeze (t:Nat) {id sz lo len:Nat} {full:Bool} {ob:Ob} (ht:s.tmps[t]?= some (.sl id [] sz lo len full)) (hob:s.H[id]?= some ob) (hk:ob.kind=2) (hsz:ob.sz=sz) (hlen:lo+len<=ob.rows.length)
  (hno:∀ r ∈ ob.rows,∀ c ∈ r,zy c=true):
  zp B s ⟨s.tmps.set t (.u1 (if full then 1 else 0) sz ((ob.rows.drop lo).take len)),s.H.modify id fun ob=>⟨ob.kind,ob.ty,ob.sz,ob.rows,ob.rows.length⟩⟩:=fun m w E a hs=>by
 subst hsz
 have hno':∀ i k c,cellAt ob.rows i k=some c->zy c=true:=fun i k c hc=>by
  unfold cellAt at hc;cases hx:ob.rows[i]? with
  | none=>rw [hx] at hc;cases hc
  | some r=>rw [hx] at hc;exact hno r (dS hx) c (dS hc)
 obtain ⟨E',hle,hR,hnew,hβ,hKG0,hcells⟩:=hs.heap.base.freeze hob hk hno';have hgb:qb s.H id []=some (ob.sz,ob.rows):=by unfold qb;rw [hob];simp [hk,qT]
 have hrow:=(hs.heap.base.eu id ob [] _ _ hob hgb).row;obtain ⟨y,hy,hl⟩:=hs.tmps.get ht
 have hnl:L E' (.u1 (if full then 1 else 0) ob.sz ((ob.rows.drop lo).take len)) y:=by
  generalize hc:C.sl id [] ob.sz lo len full=c at hl;cases hl with
  | sl id' hops' sz' lo' len' full' cap hn hlen' hf hf'=>
   cases hc
   have hrl:((ob.rows.drop lo).take len).length=len:=aA
   have hsub:∀ i k,cellAt ((ob.rows.drop lo).take len) i k=if i < len then cellAt ob.rows (lo+i) k else none:=by
    intro i k;unfold cellAt;rw [gH];split
    ·rw [pE]
    ·rfl
   have ex:∀ i r k c,((ob.rows.drop lo).take len)[i]?= some r->r[k]?= some c->∃ u,E'.St (E.β id []) (lo * ob.sz+i * ob.sz+k)=some u∧L E'.shut c u:=by
    intro i r k c hr hc;have hcc:cellAt ((ob.rows.drop lo).take len) i k=some c:=by unfold cellAt;rw [hr];exact hc
    rw [hsub] at hcc;split at hcc
    ·obtain ⟨u,h1,h2⟩:=hcells _ _ c hcc;exact ⟨u,by rw [<- pI];exact h1,h2⟩
    ·cases hcc
   have:=L.u1 (E:=E') (if full then 1 else 0) ob.sz ((ob.rows.drop lo).take len) (E.β id []) (lo * ob.sz) cap (fun i k=>(E'.St (E.β id []) (lo * ob.sz+i * ob.sz+k)).getD undef) ?_ ?_ ?_ ?_ ?_
   ·rw [hrl] at this;exact dB
   ·cases full with
    | false=>exact .inl rfl
    | true=>exact .inr ⟨rfl,by rw [hrl];exact hf rfl⟩
   ·rw [hrl];exact hlen'
   ·exact fun r hr=>hrow r (rV (pK hr))
   ·intro i r k c hr hc;obtain ⟨u,h1,h2⟩:=ex i r k c hr hc;rw [h1];rfl
   ·intro i r k c hr hc;obtain ⟨u,h1,h2⟩:=ex i r k c hr hc;rw [h1];exact h2
  | _=>cases hc
 have hG:qD w E s.H w E' (s.H.modify id fun ob=>⟨ob.kind,ob.ty,ob.sz,ob.rows,ob.rows.length⟩):=by
  have hKG:∀ (id k:Nat),id < E.n->E'.G id k=E.G id k:=fun _ _ _=>by rw [hKG0]
  refine ⟨hle,hKG,rfl,rfl,rfl,gf _,fun _ _ _=>rfl,fun b o u hu=>?_,?_⟩
  ·rcases hnew b o u hu with h1 | h1
   ·exact .inl h1
   ·exact .inr (.inr ⟨id,[],_,hgb,h1.symm⟩)
  ·rintro b ⟨id',p,x,hx,rfl⟩
   right
   refine ⟨id',p,x,?_,by rw [hβ]⟩;obtain ⟨ob',ho',hk',hg'⟩:=jh hx;rw [pA] at ho';cases hx':s.H[id']? with
   | none=>rw [hx'] at ho';cases ho'
   | some ob0=>
    rw [hx'] at ho';simp only [ru,gh,gC] at ho';unfold qb;rw [hx'];split at ho'
    ·subst ho';simp only [hk',if_true];exact hg'
    ·subst ho';simp only [hk',if_true];exact hg'
 have hk4:jH s.H (s.H.modify id fun ob=>⟨ob.kind,ob.ty,ob.sz,ob.rows,ob.rows.length⟩):=jH.modify _ _ _ fun ob' h'=>by
  rw [hob] at h';cases h'
  exact ⟨by rw [hk];decide,by show ob.kind≠4;rw [hk];decide⟩
 refine ⟨E',⟨⟨hR,ly.step hs.heap hG hk4⟩,?_,hs.defers,aq hs.base⟩,(hG.up hs.heap hk4).fI tD⟩;have:=(hs.tmps.mono hle).set hnl t;rw [yI hy] at this;exact dB
end
def posOf:List Nat->Nat->Nat->Option Nat
 | [],_,_=>none
 | x::xs,i,id=>if x == id then some i else posOf xs (i+1) id
def ye:∀ {sel:List Nat} {k id i:Nat},posOf sel k id=some i->k<=i∧sel[i - k]?= some id
 | [],k,id,i,h=>by simp [posOf] at h
 | x::xs,k,id,i,h=>by
  unfold posOf at h;split at h
  ·rename_i e;cases h
   exact ⟨gf _,aq e⟩
  ·obtain ⟨h1,h2⟩:=ye h;refine ⟨aw,?_⟩;rw [show i - k=(i - (k+1))+1 from aw];simpa using h2
def yf (sel:List Nat):Nat->C->C
 | 0,_=>.za
 | k+1,c=>match c with
  | .ref id hops sz i j=>match posOf sel 0 id with
   | some id'=>.ref id' hops sz i j
   | none=>.za
  | .sl id hops sz lo len full=>match posOf sel 0 id with
   | some id'=>.sl id' hops sz lo len full
   | none=>.za
  | .mp id=>match posOf sel 0 id with
   | some id'=>.mp id'
   | none=>.za
  | .gl id sz rows=>match posOf sel 0 id with
   | some id'=>.gl id' sz rows
   | none=>.u1 0 sz rows
  | .fh t c=>.fh t (yf sel k c)
  | .rc r=>.rc r
  | .agg cs=>.agg (cs.map (yf sel k))
  | .u7 cs=>.u7 (cs.map (yf sel k))
  | .fn f first caps=>.fn f (first.map (yf sel k)) (caps.map (yf sel k))
  | .v x=>.v x
  | .u1 o sz rows=>.u1 o sz rows
  | .jS cells=>.jS cells
  | .un=>.un
  | .za=>.za
def Env.ed (E:Env) (sel:List Nat):Env:={ n:=sel.length,β:=fun i hops=>E.β ((sel[i]?).getD 0) hops,κ:=fun i hops=>E.κ ((sel[i]?).getD 0) hops,St:=E.St,G:=fun i k=>E.G ((sel[i]?).getD 0) k }
def Env.Dz (E:Env) (sel:List Nat):E.shut.le (E.ed sel).shut:=⟨gf _,fun id hops hi=>absurd hi (gO _),fun id hops hi=>absurd hi (gO _),fun b o u hu=>hu,fun id _ _ hi=>absurd hi (gO _)⟩
def LL.ed {E E':Env} {f:C->C} {cs:List C} {ys:List Value} (h:LL E cs ys) (hf:∀ c y,L E c y->L E' (f c) y):LL E' (cs.map f) ys:=
 ⟨aq h.1,fun i c y e1 e2=>by
  rw [dT] at e1;cases hx:cs[i]? with
  | none=>rw [hx] at e1;cases e1
  | some c0=>rw [hx] at e1;cases e1;exact hf c0 y (h.2 i c0 y hx e2)⟩
def L.ed {E:Env} (sel:List Nat):∀ (k:Nat) {c:C} {y:Value},L E c y->L (E.ed sel) (yf sel k c) y:=by
 intro k
 induction k with
 | zero=>intro c y h;exact .za y
 | succ k ih=>
  intro c y h
  have pos:∀ {id i},posOf sel 0 id=some i->i < sel.length∧(sel[i]?).getD 0=id:=fun {id i} e=>by
   obtain ⟨_,h2⟩:=ye e;rw [rh] at h2;exact ⟨(dP.1 h2).1,by rw [h2];rfl⟩
  cases h with
  | v x hx=>exact .v _ hx
  | u1 o sz rows b off cap us ho hc hsz hst hL=>
   exact .u1 o sz rows b off cap us ho hc hsz hst (fun i r k c e1 e2=>(hL i r k c e1 e2).mono (E.Dz sel))
  | xv o sz ho a=>exact .xv o sz ho a
  | jS cells b off us hst hL=>
   exact .jS cells b off us hst (fun k c e1=>(hL k c e1).mono (E.Dz sel))
  | ref id hops sz i j hn=>
   unfold yf;dsimp only;split
   ·rename_i id' e;obtain ⟨h1,h2⟩:=pos e;have:=L.ref (E:=E.ed sel) id' hops sz i j h1;simp only [Env.ed,h2] at this;exact dB
   ·exact .za _
  | sl id hops sz lo len full cap hn hlen hf hf'=>
   unfold yf;dsimp only;split
   ·rename_i id' e;obtain ⟨h1,h2⟩:=pos e;have:=L.sl (E:=E.ed sel) id' hops sz lo len full cap h1 hlen hf (by simp only [Env.ed,h2];exact hf');simp only [Env.ed,h2] at this;exact dB
   ·exact .za _
  | mp id hn=>
   unfold yf;dsimp only;split
   ·rename_i id' e;obtain ⟨h1,h2⟩:=pos e;have:=L.mp (E:=E.ed sel) id' h1;simp only [Env.ed,h2] at this;exact dB
   ·exact .za _
  | agg cs ys h1 h2 h3=>
   have:=LL.ed (f:=yf sel k) (E':=E.ed sel) (cs:=cs) (ys:=ys.toList) ⟨aq h1,fun i c y e1 e2=>h2 i c y e1 uZ⟩ (fun c y hl=>ih hl);exact dj
  | u7 cs ys h1 h2=>
   have:=LL.ed (f:=yf sel k) (E':=E.ed sel) (cs:=cs) (ys:=ys.toList) ⟨aq h1,fun i c y e1 e2=>h2 i c y e1 uZ⟩ (fun c y hl=>ih hl);exact .u7 _ ys tS (fun i c y e1 e2=>this.2 i c y e1 uZ)
  | fn f first caps ys zs h1 h2 h3 h4=>
   have t1:=LL.ed (f:=yf sel k) (E':=E.ed sel) (cs:=first) (ys:=ys.toList) ⟨aq h1,fun i c y e1 e2=>h3 i c y e1 uZ⟩ (fun c y hl=>ih hl);have t2:=LL.ed (f:=yf sel k) (E':=E.ed sel) (cs:=caps) (ys:=zs.toList) ⟨aq h2,fun i c y e1 e2=>h4 i c y e1 uZ⟩ (fun c y hl=>ih hl);exact dA
  | un=>exact .un
  | za y=>exact .za y
  | gl id sz rows y hn hg hl=>
   unfold yf;dsimp only;split
   ·rename_i id' e;obtain ⟨h1,h2⟩:=pos e;exact .gl id' sz rows y h1 (by simp only [Env.ed,h2];exact hg) (hl.mono (E.Dz sel))
   ·have h3:E.shut.le (E.ed sel):=⟨gF _,fun id hops hi=>absurd hi (gO _),fun id hops hi=>absurd hi (gO _),fun b o u hu=>hu,fun id _ _ hi=>absurd hi (gO _)⟩;exact hl.mono h3
  | fh t c y hl=>exact .fh t _ y (ih hl)
def Kj (sel:List Nat) (k:Nat) {c:C} (h:zy c=true):zy (yf sel k c)=true:=by
 cases k with
 | zero=>rfl
 | succ k=>
  cases c with
  | u1 o sz rows=>exact h
  | ref id hops sz i j=>unfold yf;dsimp only;split <;> rfl
  | sl id hops sz lo len full=>unfold yf;dsimp only;split <;> rfl
  | mp id=>unfold yf;dsimp only;split <;> rfl
  | gl id sz rows=>unfold yf;dsimp only;split <;> rfl
  | _=>rfl
def zK (sel:List Nat) (ob:Ob):Ob:=
 match ob with
 | ⟨kind,ty,sz,rows,fz⟩=>⟨kind,ty,sz,match kind with
  | 2=>rows
  | 4=>rows
  | _=>rows.map fun r=>r.map (yf sel 9),fz⟩
def dead:Ob:=⟨0,0,0,[],0⟩
def xC (sel:List Nat) (H:zl):zl:=sel.map fun id=>zK sel ((H[id]?).getD dead)
def yq:List Nat->Bool
 | []=>true
 | x::xs=>!(xs.any (· == x)) && yq xs
def kj:∀ {l:List Nat},yq l=true->∀ (i j x:Nat),l[i]?= some x->l[j]?= some x->i=j
 | [],_,i,j,x,h,_=>by simp at h
 | y::l,h,i,j,x,h1,h2=>by
  simp only [yq,dY,pd,gU] at h;cases i with
  | zero=>
   cases j with
   | zero=>rfl
   | succ j=>
    simp at h1 h2;subst h1;exact absurd aj (h.1 _ (dS h2))
  | succ i=>
   cases j with
   | zero=>
    simp at h1 h2;subst h2;exact absurd aj (h.1 _ (dS h1))
   | succ j=>
    simp at h1 h2;rw [kj h.2 i j x h1 h2]
def L.Ut {E:Env} {c:C} {y:Value} (h:L E c y) (hc:Ba c=true):L E.shut c y:=by
 cases h with
 | agg cs ys h1 h2 h3=>
  refine .agg cs ys h1 (fun i c y e1 e2=>(h2 i c y e1 e2).vP ?_) h3;exact dZ.1 (show cs.all jl=true from hc) _ (dS e1)
 | v x hx=>exact (L.v (E:=E) _ hx).vP hc
 | u1 o sz rows b off cap us ho h2 hsz hst hL=>exact (L.u1 (E:=E) o sz rows b off cap us ho h2 hsz hst hL).vP hc
 | xv o sz ho a=>exact (L.xv (E:=E) o sz ho a).vP hc
 | jS cells b off us hst hL=>exact (L.jS (E:=E) cells b off us hst hL).vP hc
 | fn f first caps ys zs h1 h2 h3 h4=>exact (L.fn (E:=E) f first caps ys zs h1 h2 h3 h4).vP hc
 | _=>simp [Ba,jl,oz] at hc
def LL.closed {E E':Env} {t:List C} {ys:List Value} (h:LL E t ys) (hc:t.all Ba=true) (hs:E.shut.le E'):LL E' t ys:=
 ⟨h.1,fun i c y e1 e2=>((h.2 i c y e1 e2).Ut (dZ.1 hc _ (dS e1))).mono hs⟩
section
variable {B:Nat}
def xM {sel:List Nat} {H:zl} {i:Nat} {ob':Ob} (h:(xC sel H)[i]?= some ob') (z8:sel.all (fun id=>Nat.blt id H.length)=true):∃ id ob,sel[i]?= some id∧H[id]?= some ob∧ob'=zK sel ob:=by
 unfold xC at h;rw [dT] at h;cases hx:sel[i]? with
 | none=>rw [hx] at h;cases h
 | some id=>
  rw [hx] at h
  have u4:id < H.length:=by
   have:=dZ.1 z8 id (dS hx);simpa [Nat.blt_eq] using this
  have h2:H[id]?= some H[id]:=aX
  simp only [gh,gC,h2,pj] at h;exact ⟨id,H[id],rfl,h2,h.symm⟩
def kS {sel:List Nat} {H:zl} {i:Nat} {hops:List eU} {sz:Nat} {rows:List (List C)} (z8:sel.all (fun id=>Nat.blt id H.length)=true) (fg:qS H=true) (h:qb (xC sel H) i hops=some (sz,rows)):
  ∃ id ob rows0,sel[i]?= some id∧H[id]?= some ob∧qb H id hops=some (sz,rows0)∧((ob.kind=2∧rows=rows0)∨(ob.kind=1∧hops=[]∧rows=rows0.map (fun r=>r.map (yf sel 9))∧∀ r ∈ rows0,∀ c ∈ r,zy c=true)):=by
 obtain ⟨ob',ho',hk',hg'⟩:=jh h;obtain ⟨id,ob,h1,h2,rfl⟩:=xM ho' z8;obtain ⟨kind,ty,sz0,rows0,fz⟩:=ob;rcases hk' with hk | hk
 ·have hk:kind=1:=hk;subst hk
  have hno:∀ r ∈ rows0,∀ c ∈ r,zy c=true:=by
   have:=dZ.1 fg _ (dS h2);dsimp only at this;simpa [dZ] using this
  have hg2:vD sz0 (rows0.map fun r=>r.map (yf sel 9)) hops=some (sz,rows):=hg'
  obtain ⟨rfl,e⟩:=kU (fun i k c hc=>by
   unfold cellAt at hc;rw [dT] at hc;cases hx:rows0[i]? with
   | none=>rw [hx] at hc;cases hc
   | some r=>
    rw [hx] at hc;simp only [gh,gE,dT] at hc;cases hy:r[k]? with
    | none=>rw [hy] at hc;cases hc
    | some c0=>
     rw [hy] at hc;cases hc
     exact Kj sel 9 (hno r (dS hx) c0 (dS hy))) hg2
  cases e
  exact ⟨id,_,rows0,h1,h2,by unfold qb;rw [h2];simp [qT],.inr ⟨rfl,rfl,rfl,hno⟩⟩
 ·have hk:kind=2:=hk;subst hk;exact ⟨id,_,rows,h1,h2,bG,.inl ⟨rfl,rfl⟩⟩
def qe.ed {w:World} {E:Env} {H:zl} (hh:qe w E H) (sel:List Nat) (z8:sel.all (fun id=>Nat.blt id H.length)=true) (fp:yq sel=true) (fg:qS H=true):qe w (E.ed sel) (xC sel H) where
 n:=by simp [Env.ed,xC]
 eu i ob' hops sz rows hob' hx:=by
  obtain ⟨id,ob,rows0,h1,h2,h3,h4⟩:=kS z8 fg hx;obtain ⟨id2,ob2,e1,e2,rfl⟩:=xM hob' z8;rw [h1] at e1;cases e1
  rw [h2] at e2;cases e2
  have hb:=hh.eu id ob hops sz rows0 h2 h3;obtain ⟨cur,e,hg,hcs,hcell⟩:=hb.eu;have hβ:∀ hops,(E.ed sel).β i hops=E.β id hops:=fun hops=>by simp [Env.ed,h1]
  have hκ:∀ hops,(E.ed sel).κ i hops=E.κ id hops:=fun hops=>by simp [Env.ed,h1]
  have hkind:(zK sel ob).kind=ob.kind:=by obtain ⟨kind,ty,sz,rows,fz⟩:=ob;rfl
  rw [hkind];rcases h4 with ⟨hk,rfl⟩ | ⟨hk,rfl,rfl,hno⟩
  ·refine ⟨by rw [hκ];exact hb.len,hb.row,cur,e,by rw [hβ];exact hg,by rw [hκ];exact hcs,?_⟩;intro i' k c hc;obtain ⟨u,hu,ho⟩:=hcell i' k c hc;refine ⟨u,hu,?_⟩;unfold qU at ho ⊢;split at ho
   ·rw [hβ,hκ];exact ho
   ·refine ⟨?_,ho.2⟩;have h5:=ho.1;simp only [Env.at,hk,if_true] at h5 ⊢;exact h5.mono (E.Dz sel)
  ·refine ⟨by rw [hκ];simpa using hb.len,?_,cur,e,by rw [hβ];exact hg,by rw [hκ];exact hcs,?_⟩
   ·intro r hr;obtain ⟨r0,h5,rfl⟩:=gL.1 hr;simpa using hb.row r0 h5
   ·intro i' k c hc;unfold cellAt at hc;rw [dT] at hc;cases hx1:rows0[i']? with
    | none=>rw [hx1] at hc;cases hc
    | some r=>
     rw [hx1] at hc;simp only [gh,gE,dT] at hc;cases hy:r[k]? with
     | none=>rw [hy] at hc;cases hc
     | some c0=>
      rw [hy] at hc;cases hc
      obtain ⟨u,hu,ho⟩:=hcell i' k c0 (by unfold cellAt;rw [hx1];exact hy);have hn0:=hno r (dS hx1) c0 (dS hy);rw [qU.loose hn0] at ho;refine ⟨u,hu,(qU.loose (Kj sel 9 hn0)).2 ⟨?_,ho.2⟩⟩;have h5:=ho.1;have hk2:¬ob.kind=2:=by rw [hk];decide
      simp only [Env.at,dR hk2] at h5 ⊢;exact h5.ed sel 9
 inj i hops i' hops' x y hx hy he:=by
  obtain ⟨id,ob,rows0,h1,h2,h3,_⟩:=kS z8 fg (sz:=x.1) (rows:=x.2) (aq hx);obtain ⟨id',ob',rows0',h1',h2',h3',_⟩:=kS z8 fg (sz:=y.1) (rows:=y.2) (aq hy);simp only [Env.ed,h1,h1',pj] at he;obtain ⟨rfl,rfl⟩:=hh.inj id hops id' hops' _ _ h3 h3' he;exact ⟨kj fp _ _ _ h1 h1',rfl⟩
 qv:=hh.qv
 sep i hops x o u hx hu:=by
  obtain ⟨id,ob,rows0,h1,h2,h3,_⟩:=kS z8 fg (sz:=x.1) (rows:=x.2) (aq hx);simp only [Env.ed,h1,pj] at hu;obtain ⟨e1,ob2,e2,e3⟩:=hh.sep id hops _ o u h3 hu;rw [h2] at e2;cases e2
  refine ⟨e1,zK sel ob,?_,?_⟩
  ·unfold xC;rw [dT,h1];simp [h2]
  ·obtain ⟨kind,ty,sz,rows,fz⟩:=ob;exact e3
 ty i ob' hob' hk:=by
  obtain ⟨id,ob,h1,h2,rfl⟩:=xM hob' z8;obtain ⟨kind,ty,sz,rows,fz⟩:=ob;obtain ⟨cur,hc⟩:=hh.ty id _ h2 hk;exact ⟨cur,by simp only [Env.ed,h1,pj];exact hc⟩
 fz i ob' hob':=by
  obtain ⟨id,ob,h1,h2,rfl⟩:=xM hob' z8;obtain ⟨kind,ty,sz,rows,fz⟩:=ob;have:=hh.fz id _ h2;dsimp only [zK] at this ⊢;split
  ·exact dB
  ·exact dB
  ·simpa using this
def Br:Nat->Nat->List Nat->Bool
 | 0,_,_=>true
 | n+1,k,x::xs=>x == k && Br n (k+1) xs
 | _+1,_,[]=>false
def JB:∀ {n k:Nat} {l:List Nat},Br n k l=true->n<=l.length∧∀ i,i < n->l[i]?= some (k+i)
 | 0,k,l,h=>⟨gF _,fun i hi=>absurd hi (gO _)⟩
 | n+1,k,x::xs,h=>by
  simp only [Br,dY,gT] at h;obtain ⟨h1,h2⟩:=JB h.2;refine ⟨aq h1,fun i hi=>?_⟩;cases i with
  | zero=>simp [h.1]
  | succ i=>simp [h2 i aw];omega
 | n+1,k,[],h=>by simp [Br] at h
def vJ (sel:List Nat) (ob:Ob):(zK sel ob).kind=ob.kind∧(zK sel ob).ty=ob.ty∧(zK sel ob).sz=ob.sz∧(zK sel ob).rows.length=ob.rows.length:=by
 obtain ⟨kind,ty,sz,rows,fz⟩:=ob;refine ⟨rfl,rfl,rfl,?_⟩;unfold zK;dsimp only;split <;> simp
def qI.ed {E:Env} {H:zl} {sel:List Nat} (z8:sel.all (fun id=>Nat.blt id H.length)=true) {i b:Nat} (h:qI (E.ed sel) (xC sel H) i b):∃ id,sel[i]?= some id∧qI E H id b:=by
 obtain ⟨ob',cap,h1,h2,h3,h4⟩:=h;obtain ⟨id,ob,e1,e2,rfl⟩:=xM h1 z8;obtain ⟨l1,l2,l3,l4⟩:=vJ sel ob;rw [l4] at h3 h4;simp only [Env.ed,e1,pj] at h3;exact ⟨id,e1,ob,cap,e2,bH,h3,h4⟩
def GG {sel:List Nat} {ob:Ob} (h:ob.kind=4):zK sel ob=ob:=by
 obtain ⟨kind,ty,sz,rows,fz⟩:=ob;cases h
 rfl
def jD.ed {H:zl} {sel:List Nat} (z8:sel.all (fun id=>Nat.blt id H.length)=true) {i b:Nat} (h:jD (xC sel H) i b):∃ id,sel[i]?= some id∧jD H id b:=by
 obtain ⟨ob',r,t,h1,h2,h3,h4⟩:=h;obtain ⟨id,ob,e1,e2,rfl⟩:=xM h1 z8;have hk4:ob.kind=4:=by rw [<- (vJ sel ob).1];exact h2
 rw [GG hk4] at h3 h4;exact ⟨id,e1,ob,r,t,e2,hk4,h3,h4⟩
def je.ed {E:Env} {H:zl} {sel:List Nat} (z8:sel.all (fun id=>Nat.blt id H.length)=true) (fg:qS H=true) {b:Nat} (h:je (E.ed sel) (xC sel H) b):je E H b:=by
 obtain ⟨i,hops,⟨sz,rows⟩,hx,rfl⟩:=h;obtain ⟨id,ob,rows0,h3,h4,h5,_⟩:=kS z8 fg hx;exact ⟨id,hops,_,h5,by simp [Env.ed,h3]⟩
def qx.ed {w:World} {E:Env} {H:zl} (hh:qx w E H) (sel:List Nat) (z8:sel.all (fun id=>Nat.blt id H.length)=true) (fp:yq sel=true) (fg:qS H=true):qx w (E.ed sel) (xC sel H) where
 base:=hh.base.ed sel z8 fp fg
 u5:={
  val:=fun i ob' h1 h2=>by
   obtain ⟨id,ob,e1,e2,rfl⟩:=xM h1 z8;obtain ⟨l1,l2,l3,l4⟩:=vJ sel ob;rw [l4];simp only [Env.ed,e1,pj];exact hh.u5.val id ob e2 bH
  eu:=fun i b ob' h1 h2=>by
   obtain ⟨id,e0,h3⟩:=h1.ed z8;obtain ⟨id',ob,e1,e2,rfl⟩:=xM h2 z8;rw [e0] at e1;cases e1
   obtain ⟨l1,l2,l3,l4⟩:=vJ sel ob;rw [l2,l3,l4];simp only [Env.ed,e0,pj];exact hh.u5.eu id b ob h3 e2
  sep:=fun i b h1 h2=>by
   obtain ⟨id,e0,h3⟩:=h1.ed z8;exact hh.u5.sep id b h3 (h2.ed z8 fg)
  inj:=fun i i' b h1 h2=>by
   obtain ⟨id,e0,h3⟩:=h1.ed z8;obtain ⟨id',e1,h4⟩:=h2.ed z8;obtain rfl:=hh.u5.inj id id' b h3 h4;exact kj fp _ _ _ e0 e1
  st:=fun i b ob' o u h1 h2 h3=>by
   obtain ⟨id,e0,h4⟩:=h1.ed z8;obtain ⟨id',ob,e1,e2,rfl⟩:=xM h2 z8;rw [e0] at e1;cases e1
   obtain ⟨l1,l2,l3,l4⟩:=vJ sel ob;rw [l3,l4];exact hh.u5.st id b ob o u h4 e2 h3
  top:=fun i ob' k u h1 h2 h3=>by
   obtain ⟨id,ob,e1,e2,rfl⟩:=xM h1 z8;obtain ⟨l1,l2,l3,l4⟩:=vJ sel ob;rw [l4];simp only [Env.ed,e1,pj] at h3;exact hh.u5.top id ob k u e2 bH h3
  fG:=fun i ob' r t h1 h2 h3=>by
   obtain ⟨id,ob,e1,e2,rfl⟩:=xM h1 z8;have hk4:ob.kind=4:=by rw [<- (vJ sel ob).1];exact h2
   rw [GG hk4] at h3;have:=dZ.1 fg ob (dS e2);rw [hk4,h3.2,h3.1] at this;obtain ⟨p1,p2⟩:=hh.u5.fG id ob r t e2 hk4 h3;have ht:t.all Ba=true:=aq this
   rw [GG hk4];exact ⟨p1,p2.map fun ys hl=>hl.closed ht ⟨gF _,fun _ _ h=>absurd h (gO _),fun _ _ h=>absurd h (gO _),fun _ _ _ h=>h,fun _ _ _ h=>absurd h (gO _)⟩⟩
  wK:=fun i i' b h1 h2=>by
   obtain ⟨id,e0,h3⟩:=h1.ed z8;obtain ⟨id',e1,h4⟩:=h2.ed z8;obtain rfl:=hh.u5.wK id id' b h3 h4;exact kj fp _ _ _ e0 e1 }
def zp.ed (sel m:List Nat) (t:List C) (H:zl) (hB:Br B 0 sel=true) (z8:sel.all (fun id=>Nat.blt id H.length)=true) (fp:yq sel=true) (fg:qS H=true):zp B ⟨t,H⟩ ⟨(o6 m 0 t).map (yf sel 9),xC sel H⟩:=fun mm w E a hs=>by
 obtain ⟨h1,h2⟩:=JB hB
 refine ⟨E.ed sel,⟨hs.heap.ed sel z8 fp fg,((FE m t 0).LL hs.tmps).ed (fun c y hl=>hl.ed sel 9),hs.defers,by simpa [xC] using h1⟩,
  ⟨⟨fun id hops hi=>by simp [Env.ed,h2 id hi],fun id hops hi=>by simp [Env.ed,h2 id hi],fun _ _ _ h=>h,fun id k u hi hu=>by simpa [Env.ed,h2 id hi] using hu⟩,rfl,rfl,rfl,gf _,fun _ _ _=>rfl,fun b o u hu=>.inl hu,?_⟩⟩
 rintro b (hb | ⟨i,hb | hb⟩)
 ·exact .inr (.inl (hb.ed z8 fg))
 ·obtain ⟨id,_,h3⟩:=hb.ed z8;exact .inr (.inr ⟨id,.inl h3⟩)
 ·obtain ⟨id,_,h3⟩:=hb.ed z8;exact .inr (.inr ⟨id,.inr h3⟩)
end
def WC.trans {c c' c'':C} (h:WC c c') (h':WC c' c''):WC c c'':=fun E y hl=>h' E y (h E y hl)
def WC.nil (sz sz':Nat):WC (.u1 1 sz []) (.u1 0 sz' []):=(WC.none 1 sz sz').trans (WC.share 1 sz' [])
def fR.at:∀ {cs:List C} {i:Nat} {c c':C},cs[i]?= some c->WC c c'->fR cs (cs.set i c')
 | [],i,c,c',h,hw=>by simp at h
 | x::xs,0,c,c',h,hw=>by simp at h;subst h;exact .cons hw (fR.refl xs)
 | x::xs,i+1,c,c',h,hw=>.cons (.refl x) (fR.at tX hw)
def zp.cell {B:Nat} {s:S} (i:Nat) {c c':C} (h:s.tmps[i]?= some c) (hw:WC c c'):zp B s ⟨s.tmps.set i c',s.H⟩:=zp.tmps (fR.at h hw)
def oL (t2:List C):List C->Prop:=
 List.rec (motive:=fun _=>List C->Prop) (fun t1=>match t1 with | []=>True | _::_=>False)
  (fun c' _ ih t1=>match t1 with
   | []=>False
   | c::cs=>match c' with
    | .za=>ih cs
    | c'=>c=c'∧ih cs) t2
def GC:∀ {t2 t1:List C},oL t2 t1->fR t1 t2
 | [],[],_=>.nil
 | [],_::_,h=>h.elim
 | _::_,[],h=>h.elim
 | c'::t2,c::t1,h=>by
  cases c' with
  | za=>exact .cons (.za c) (GC (t2:=t2) (t1:=t1) h)
  | _=>
   obtain ⟨h1,h2⟩:=h;exact .cons (h1 ▸ .refl c) (GC (t2:=t2) (t1:=t1) h2)
section
variable {P:Program} {B:Nat}
def zp.oL {t1 t2:List C} {H:zl} (h:Ab.oL t2 t1):zp B ⟨t1,H⟩ ⟨t2,H⟩:=zp.tmps (GC h)
def zp.xx (n:Nat) {t1 t2:List C} {H1 H2:zl} (h:Ab.oL t2 t1) (hB:Nat.ble B n=true) (hn:Nat.ble n H1.length=true) (ht:t2.all (q8 n 9)=true) (hr:qP n (H1.take n)=true) (hH:H1.take n=H2):zp B ⟨t1,H1⟩ ⟨t2,H2⟩:=by
 subst hH;exact (zp.oL h).trans (zp.drop (s:=⟨t2,H1⟩) n hB hn ht hr)
def zp.Gm {s:S} (t:Nat) {id sz len ty:Nat} {full:Bool} {rows:List (List C)} (ht:s.tmps[t]?= some (.sl id [] sz 0 len full)) (hob:s.H[id]?= some ⟨2,ty,sz,rows,0⟩) (hlen:len=rows.length)
  (hno:∀ r ∈ rows,∀ c ∈ r,zy c=true):
  zp B s ⟨s.tmps.set t (.u1 (if full then 1 else 0) sz rows),s.H.set id ⟨2,ty,sz,rows,rows.length⟩⟩:=by
 have:=zp.freeze (B:=B) t ht hob rfl rfl (by simp [hlen]) hno;rw [yY _ hob] at this;simpa [hlen] using this
def qx.Jh {w:World} {E:Env} {H:zl} (hh:qx w E H) {id sz len ty:Nat} {full:Bool} {rows:List (List C)} {y:Value} (hl:L E (.sl id [] sz 0 len full) y) (hob:H[id]?= some ⟨2,ty,sz,rows,0⟩) (hlen:len=rows.length)
  (hno:∀ r ∈ rows,∀ c ∈ r,zy c=true):
  ∃ E1,qx w E1 (H.set id ⟨2,ty,sz,rows,rows.length⟩)∧L E1 (.u1 (if full then 1 else 0) sz rows) y∧Grow w E H w E1 (H.set id ⟨2,ty,sz,rows,rows.length⟩):=by
 obtain ⟨E1,hs,g⟩:=zp.Gm (B:=H.length) (s:=⟨[.sl id [] sz 0 len full],H⟩) 0 rfl hob hlen hno 0 w E ⟨#[y],[]⟩ ⟨hh,LL.one hl,gF _,gf _⟩;have hn:=hs.heap.n
 refine ⟨E1,hs.heap,hs.tmps.cons_inv.1,⟨⟨by rw [hn,hh.n];simp,fun id hops hi=>g.le.β id hops tG,fun id hops hi=>g.le.κ id hops tG,g.le.St,fun id k u hi=>g.le.G id k u tG⟩,
  g.os,g.tape,g.output,g.size,g.frame,g.jP,g.own⟩⟩
def zp.VA {s:S} (vid k:Nat) {id sz len ty vty vsz fz:Nat} {full:Bool} {r:List C} {rows:List (List C)} (hv:s.H[vid]?= some ⟨1,vty,vsz,[r],fz⟩) (hk:r[k]?= some (.sl id [] sz 0 len full)) (hob:s.H[id]?= some ⟨2,ty,sz,rows,0⟩) (hlen:len=rows.length)
  (hno:∀ r ∈ rows,∀ c ∈ r,zy c=true) (hr:r.all zy=true) (hr':(r.set k (.u1 (if full then 1 else 0) sz rows)).all zy=true):
  zp B s ⟨s.tmps,(s.H.set id ⟨2,ty,sz,rows,rows.length⟩).set vid ⟨1,vty,vsz,[r.set k (.u1 (if full then 1 else 0) sz rows)],fz⟩⟩:=fun m w E a hs=>by
 have hgb:qb s.H vid []=some (vsz,[r]):=by unfold qb;rw [hv];simp [qT]
 obtain ⟨cur,e,h3,h4,h5⟩:=(hs.heap.base.eu _ _ _ _ _ hv hgb).eu;obtain ⟨u,hu,ho⟩:=h5 0 k _ (yU.2 ⟨rfl,hk⟩);rw [qU.loose rfl] at ho;have hl:L E (.sl id [] sz 0 len full) u:=aF
 obtain ⟨E1,hh1,hl1,g1⟩:=hs.heap.Jh hl hob hlen hno;have hne:vid≠id:=by rintro rfl;rw [hv] at hob;cases hob
 have hob1:(s.H.set id ⟨2,ty,sz,rows,rows.length⟩)[vid]?= some ⟨1,vty,vsz,[r],fz⟩:=by rw [gj,dR (Ne.symm hne)];exact hv
 have hβ:E1.β vid []=E.β vid []:=g1.le.β vid [] (by rw [hs.heap.n];exact (dP.1 hv).1)
 have hcu:w.cell? ⟨E1.β vid [],k,none⟩=some u:=by
  unfold World.cell?;rw [hβ,h3];simpa using hu
 obtain ⟨hR,g2⟩:=hh1.CE hob1 (r':=r.set k (.u1 (if full then 1 else 0) sz rows)) aj hr hr' fun j c c' v e1 e2 hl' hv=>by
  rw [gj] at e2;split at e2
  ·rename_i e;subst e;rw [hcu] at hv;cases hv
   split at e2
   ·cases e2;exact hl1
   ·cases e2
  ·rw [e1] at e2;cases e2
   exact hl'
 exact da
def qE.GO {f:FuncId} {args:List C} {r:C} (h:qE P f [] args fun c _=>yw 0 9 c=r):zb P f [] args r []:=fun w E vs hh hl=>by
 refine (h w E vs hh hl).mono ?_;rintro e w' ⟨c,H',v,E',rfl,rfl,h1,h2,g⟩;have h3:=h1.drop 0 (gF _) (by simp [qP]);rw [ue] at h3;have hn:E.n=0:=hh.n
 exact ⟨v,E'.cut 0,rfl,h3,h2.low 0 9,⟨⟨by rw [hn];exact gF _,fun id hops hi=>by rw [hn] at hi;omega,fun id hops hi=>by rw [hn] at hi;omega,g.le.St,fun id k u hi=>by rw [hn] at hi;omega⟩,g.os,g.tape,g.output,g.size,g.frame,g.jP,
  fun b h=>absurd h xk.none⟩⟩
def zb.zo {f:FuncId} {fn:Func} {c:Code} {args:List C} {r:C} (hf:P.funcs[f]?= some fn) (hb:fn.body=some c)
  (h:wpA P 0 c (entry fn args) [] fun ex t1 H1=>(ex=.ret∨ex=.normal)∧∃ s2,zp 0 ⟨t1,H1⟩ s2∧(kL P fn s2).map (yw 0 9)=some r):zb P f [] args r []:=by
 refine qE.GO (qE.wz (H:=[]) hf hb ((jC h).mono fun ex s1 ⟨hex,s2,hw,h2⟩=>?_));cases h3:kL P fn s2 with
 | none=>rw [h3] at h2;cases h2
 | some r0=>
  rw [h3] at h2;cases h2
  exact ⟨hex,s2,r0,hw,h3,rfl⟩
def ab {f:FuncId}{fn:Func}{c:Code}{args:List C}{r:C}{zQ:Prop}(hf:P.funcs[f]?= some fn)(z0:zQ)(hb:fn.body=some c:=by exact rfl)(ze:zQ->wpA P 0 c (entry fn args) [] fun ex t1 H1=>(ex=.ret∨ex=.normal)∧∃ s2,zp 0 ⟨t1,H1⟩ s2∧(kL P fn s2).map (yw 0 9)=some r:=by intro zh;(conv=>whnf);exact zh):zb P f [] args r []:=zb.zo hf hb (ze z0)
def zW.seq {c:Code} {t:List C} {H:zl} {K:Exit->List C->zl->Prop} (N:Nat) (T:Nat->List C) (Hp:Nat->zl) (R:Nat->Prop) (h0:zp B ⟨t,H⟩ ⟨T 0,Hp 0⟩) (r0:R 0)
  (step:∀ k,k < N->R k->wpA P B c (T k) (Hp k) fun e t1 H1=>(e=.normal∧zp B ⟨t1,H1⟩ ⟨T (k+1),Hp (k+1)⟩∧R (k+1))∨(e≠.normal∧K e t1 H1))
  (done:R N->wpA P B c (T N) (Hp N) fun e t1 H1=>e≠.normal∧K e t1 H1):
  nn P B c t H K:=by
 have key:∀ n k,k+n=N->R k->iJ P B c (n+1) ⟨T k,Hp k⟩ fun ex s=>K ex s.tmps s.H:=by
  intro n
  induction n with
  | zero=>
   intro k hk hr;obtain rfl:k=N:=aw
   refine .step ((jC (done hr)).mono fun ex s1 ⟨hne,hK⟩=>?_);cases ex with
   | normal=>exact absurd rfl hne
   | _=>exact hK
  | succ n ih=>
   intro k hk hr;refine .step ((jC (step k aw hr)).post fun ex s1 h1=>?_);rcases h1 with ⟨rfl,hw,hr'⟩ | ⟨hne,hK⟩
   ·exact ⟨_,hw,(ih (k+1) aw hr':iJ P B c (n+1) _ _)⟩
   ·refine ⟨s1,.refl s1,?_⟩;cases ex with
    | normal=>exact absurd rfl hne
    | _=>exact hK
 exact ⟨.pre h0 ⟨N+1,key N 0 aw r0⟩⟩
end
section
variable {P:Program} {B:Nat}
structure LoopN (P:Program) (B:Nat) (c:Code) (n:Nat) (t:List C) (H:zl) (K:Exit->List C->zl->Prop):Prop where
 out:iJ P B c n ⟨t,H⟩ fun ex s=>K ex s.tmps s.H
def LoopN.step {c:Code} {n:Nat} {t:List C} {H:zl} {K:Exit->List C->zl->Prop}
  (h:wpA P B c t H fun e t1 H1=>(e=.normal∧LoopN P B c n t1 H1 K)∨(e≠.normal∧K e t1 H1)):LoopN P B c (n+1) t H K:=by
 refine ⟨.step ((jC h).post fun ex s1 h1=>?_)⟩;rcases h1 with ⟨rfl,h⟩ | ⟨hne,hK⟩
 ·exact ⟨s1,.refl s1,h.out⟩
 ·refine ⟨s1,.refl s1,?_⟩;cases ex with
  | normal=>exact absurd rfl hne
  | _=>exact hK
def nn.AM {c:Code} (n:Nat) {t:List C} {H:zl} {K:Exit->List C->zl->Prop} (h:LoopN P B c n t H K):nn P B c t H K:=⟨⟨n,h.out⟩⟩
end
section
variable {P:Program} {B:Nat}
def iG {x y:Code} {t:List C} {H:zl} {R:Exit->S->Prop} (h:wpA P B x t H fun e t1 H1=>(e=.normal∧∃ t2 H2,zp B ⟨t1,H1⟩ ⟨t2,H2⟩∧qX P B y ⟨t2,H2⟩ R)∨(e≠.normal∧R e ⟨t1,H1⟩)):qX P B (.seq x y) ⟨t,H⟩ R:=by
 refine .seq ((jC h).post fun ex s1 h1=>?_);rcases h1 with ⟨rfl,t2,H2,hw,hr⟩ | ⟨hne,hr⟩
 ·exact ⟨_,hw,hr⟩
 ·refine ⟨s1,.refl s1,?_⟩;cases ex with
  | normal=>exact absurd rfl hne
  | _=>exact hr
end
def behind:Nat->Code->Code
 | 0,c=>c
 | n+1,.seq _ y=>behind n y
 | _,c=>c
def cE {B:Nat}(n:Nat){t1 t2:List C}{H1 H2:zl}(h:Ab.oL t2 t1:=by (conv=>whnf);refine tc ?_;exact trivial)(hB:Nat.ble B n=true:=by exact rfl)(hn:Nat.ble n H1.length=true:=by exact rfl)(ht:t2.all (q8 n 9)=true:=by exact rfl)(hr:qP n (H1.take n)=true:=by exact rfl)(hH:H1.take n=H2:=by exact rfl):zp B ⟨t1,H1⟩ ⟨t2,H2⟩:=zp.xx n h hB hn ht hr hH
def cC {B:Nat}{t1 t2:List C}{H:zl}(h:Ab.oL t2 t1:=by (conv=>whnf);refine tc ?_;exact trivial):zp B ⟨t1,H⟩ ⟨t2,H⟩:=zp.oL h
end Go.Ab
