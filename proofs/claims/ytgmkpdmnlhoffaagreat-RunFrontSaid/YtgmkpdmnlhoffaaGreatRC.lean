import Derived.IntWalk
import Derived.Test.YtgmkpdmnlhoffaaGreatRB
set_option linter.all false
set_option maxRecDepth 100000
set_option maxHeartbeats 4000000
namespace Go.Ab
def zlo (x:Value) (k:Value->Prop):Prop:=
 match x with
 | .int t n=>k (.int t n)
 | .bool b=>k (.bool b)
 | .string s=>k (.string s)
 | x=>k x
def q9 (n:Nat) (k:Nat->Prop):Prop:=
 match n with
 | 0=>k 0
 | 1=>k 1
 | 2=>k 2
 | 3=>k 3
 | 4=>k 4
 | 5=>k 5
 | 6=>k 6
 | 7=>k 7
 | 8=>k 8
 | 9=>k 9
 | 10=>k 10
 | 11=>k 11
 | 12=>k 12
 | 13=>k 13
 | 14=>k 14
 | 15=>k 15
 | 16=>k 16
 | 17=>k 17
 | 18=>k 18
 | 19=>k 19
 | 20=>k 20
 | 21=>k 21
 | 22=>k 22
 | 23=>k 23
 | 24=>k 24
 | 25=>k 25
 | 26=>k 26
 | 27=>k 27
 | 28=>k 28
 | 29=>k 29
 | 30=>k 30
 | 31=>k 31
 | 32=>k 32
 | 33=>k 33
 | 34=>k 34
 | 35=>k 35
 | 36=>k 36
 | 37=>k 37
 | 38=>k 38
 | 39=>k 39
 | 40=>k 40
 | 41=>k 41
 | 42=>k 42
 | 43=>k 43
 | 44=>k 44
 | 45=>k 45
 | 46=>k 46
 | 47=>k 47
 | 48=>k 48
 | 49=>k 49
 | 50=>k 50
 | 51=>k 51
 | 52=>k 52
 | 53=>k 53
 | 54=>k 54
 | 55=>k 55
 | 56=>k 56
 | 57=>k 57
 | 58=>k 58
 | 59=>k 59
 | 60=>k 60
 | 61=>k 61
 | 62=>k 62
 | 63=>k 63
 | 64=>k 64
 | n=>k n
theorem qn {n:Nat} {k:Nat->Prop} (h:q9 n k):k n:=by
 unfold q9 at h;split at h <;> exact h
def jX {α:Type}:List α->(List α->Prop)->Prop
 | [],k=>k []
 | x::xs,k=>jX xs fun ys=>k (x::ys)
theorem qV {α:Type}:∀ {l:List α} {k:List α->Prop},jX l k->k l
 | [],k,h=>h
 | x::xs,k,h=>qV (l:=xs) (k:=fun ys=>k (x::ys)) h
def qE (c:C) (k:C->Prop):Prop:=
 match c with
 | .v x=>zlo x fun x=>k (.v x)
 | .lst o sz rows=>k (.lst o sz rows)
 | .jG cells=>jX cells fun cells=>k (.jG cells)
 | .ref id hops sz i j=>q9 id fun id=>q9 sz fun sz=>q9 j fun j=>k (.ref id hops sz i j)
 | .sl id hops sz lo len full=>q9 id fun id=>k (.sl id hops sz lo len full)
 | .fn f first caps=>k (.fn f first caps)
 | .mp id=>q9 id fun id=>k (.mp id)
 | .agg cs=>jX cs fun cs=>k (.agg cs)
 | .tup cs=>jX cs fun cs=>k (.tup cs)
 | .un=>k .un
 | .za=>k .za
 | .gl id sz rows=>q9 id fun id=>k (.gl id sz rows)
 | .ifc t c=>k (.ifc t c)
 | .rc r=>k (.rc r)
theorem zjz {x:Value} {k:Value->Prop} (h:zlo x k):k x:=by
 unfold zlo at h;split at h <;> exact h
theorem zO {c:C} {k:C->Prop} (h:qE c k):k c:=by
 cases c with
 | v x=>exact zjz (k:=fun x=>k (.v x)) h
 | jG cells=>exact qV (k:=fun cells=>k (.jG cells)) h
 | ref id hops sz i j=>exact qn (k:=fun j=>k (.ref id hops sz i j)) (qn (k:=fun sz=>q9 j fun j=>k (.ref id hops sz i j)) (qn (k:=fun id=>q9 sz fun sz=>q9 j fun j=>k (.ref id hops sz i j)) h))
 | sl id hops sz lo len full=>exact qn (k:=fun id=>k (.sl id hops sz lo len full)) h
 | mp id=>exact qn (k:=fun id=>k (.mp id)) h
 | gl id sz rows=>exact qn (k:=fun id=>k (.gl id sz rows)) h
 | agg cs=>exact qV (k:=fun cs=>k (.agg cs)) h
 | tup cs=>exact qV (k:=fun cs=>k (.tup cs)) h
 | _=>exact h
def yC {α:Type} (f:α->(α->Prop)->Prop):List α->(List α->Prop)->Prop
 | [],k=>k []
 | x::xs,k=>f x fun x=>yC f xs fun xs=>k (x::xs)
theorem qD {α:Type} {f:α->(α->Prop)->Prop} (hf:∀ x k,f x k->k x):∀ {l:List α} {k:List α->Prop},yC f l k->k l
 | [],k,h=>h
 | x::xs,k,h=>qD hf (l:=xs) (k:=fun xs=>k (x::xs)) (hf x _ h)
def zio (ob:Ob) (k:Ob->Prop):Prop:=
 match ob with
 | ⟨kind,ty,sz,rows,fz⟩=>match kind with
  | 1=>q9 sz fun sz=>yC (yC qE) rows fun rows=>k ⟨1,ty,sz,rows,fz⟩
  | kd=>k ⟨kd,ty,sz,rows,fz⟩
theorem ziq {ob:Ob} {k:Ob->Prop} (h:zio ob k):k ob:=by
 obtain ⟨kind,ty,sz,rows,fz⟩:=ob;unfold zio at h;dsimp only at h;split at h
 ·exact qD (fun _ _ h=>qD (fun _ _ h=>zO h) h) (k:=fun rows=>k ⟨1,ty,sz,rows,fz⟩) (qn (k:=fun sz=>yC (yC qE) rows fun rows=>k ⟨1,ty,sz,rows,fz⟩) h)
 ·exact h
def zcd (H:zk) (k:zk->Prop):Prop:=yC zio H k
theorem vv {H:zk} {k:zk->Prop} (h:zcd H k):k H:=qD (fun _ _ h=>ziq h) h
def okB (c:C) (k:C->Prop):Prop:=
 match c with
 | .v (.bool b)=>(b=true->k (.v (.bool true)))∧(b=false->k (.v (.bool false)))
 | c=>k c
def zsY (c:C) (k:C->Prop):Prop:=
 match c with
 | .v (.bool b)=>match b with
  | true=>k (.v (.bool true))
  | false=>k (.v (.bool false))
 | c=>qE c k
theorem zhz {c:C} {k:C->Prop} (h:zsY c k):k c:=by
 unfold zsY at h;split at h
 ·rename_i b;cases b <;> exact h
 ·exact zO h
theorem q6 {c:C} {k:C->Prop} (h:okB c k):k c:=by
 unfold okB at h;split at h
 ·rename_i b;cases b
  ·exact h.2 rfl
  ·exact h.1 rfl
 ·exact h
def ziY {α:Type}:List α->Nat->α->(List α->Prop)->Prop
 | [],_,_,k=>k []
 | _::xs,0,y,k=>k (y::xs)
 | x::xs,n+1,y,k=>ziY xs n y fun ys=>k (x::ys)
theorem km {α:Type}:∀ {l:List α} {n:Nat} {y:α} {k:List α->Prop},ziY l n y k->k (l.set n y)
 | [],_,_,k,h=>h
 | _::xs,0,y,k,h=>h
 | x::xs,n+1,y,k,h=>km (l:=xs) (n:=n) (y:=y) (k:=fun ys=>k (x::ys)) h
def zdg (tmps:List C) (dst:Option Tmp) (c:C) (k:List C->Prop):Prop:=
 match dst with
 | some d=>ziY tmps d c k
 | none=>k tmps
theorem jx {tmps:List C} {dst:Option Tmp} {c:C} {k:List C->Prop} (h:zdg tmps dst c k):k (put tmps dst c):=by
 cases dst with
 | none=>exact h
 | some d=>exact km h
def bK (b:Bool) (k:Prop):Prop:=
 match b with
 | true=>k
 | false=>False
theorem zU {b:Bool} {k:Prop} (h:bK b k):b=true∧k:=by
 cases b
 ·exact h.elim
 ·exact ⟨rfl,h⟩
def zeU (ρ:Operand->C) (x:Option Operand) (dflt:Nat) (k:Nat->Prop):Prop:=
 match x with
 | none=>k dflt
 | some y=>match ρ y with
  | .v (.int _ n)=>0<=n∧k n.toNat
  | _=>False
theorem xO {ρ:Operand->C} {x:Option Operand} {dflt:Nat} {k:Nat->Prop} (h:zeU ρ x dflt k):∃ n,IsB ρ x dflt n∧k n:=by
 unfold zeU at h;unfold IsB;cases x with
 | none=>exact ⟨dflt,rfl,h⟩
 | some y=>
  dsimp only at h;split at h
  ·rename_i kd n e;exact ⟨n.toNat,⟨kd,by rw [e,Int.toNat_of_nonneg h.1]⟩,h.2⟩
  ·exact h.elim
def zcU (place:Nat->Option (Nat × Nat)):List C->List (Nat × C)->(List C->Prop)->Prop
 | cells,[],k=>k cells
 | cells,(i,c)::rest,k=>match place i with
  | none=>False
  | some (off,size)=>bK (zcw c && (c.cells.length == size) && decide (off+size<=cells.length)) <| yC qE (xN off c.cells cells) fun cells=>zcU place cells rest k
theorem zcc {place:Nat->Option (Nat × Nat)}:∀ {parts:List (Nat × C)} {cells:List C} {k:List C->Prop},zcU place cells parts k->∃ cs,zcT place cells parts=some cs∧k cs
 | [],cells,k,h=>⟨cells,rfl,h⟩
 | (i,c)::rest,cells,k,h=>by
  unfold zcU at h;split at h
  ·exact h.elim
  ·rename_i off size hp;obtain ⟨h1,h2⟩:=zU h;have h3:=qD (fun _ _ h=>zO h) (k:=fun cells=>zcU place cells rest k) h2;obtain ⟨cs,h4,h5⟩:=zcc h3;refine ⟨cs,?_,h5⟩;simp only [zcT,hp];rw [if_pos h1];exact h4
def zkX (P:Program) (t:TypeId) (parts:List (Nat × C)) (k:List C->Prop):Prop:=
 match zaz P t,P.underlying t with
 | some z,some (.array _ e)=>match P.info? e with
  | some ie=>yC qE z fun z=>zcU (fun i=>some (i * ie.size,ie.size)) z parts k
  | none=>False
 | some z,some (.struct fields)=>match fields.toList.mapM (fun f=>(P.info? f.type).map fun i=>(f.offset,i.size)) with
  | some places=>jX places fun places=>yC qE z fun z=>zcU (places.toArray[·]?) z parts k
  | none=>False
 | _,_=>False
theorem zec {P:Program} {t:TypeId} {parts:List (Nat × C)} {k:List C->Prop} (h:zkX P t parts k):∃ cs,zh8 P t parts=some cs∧k cs:=by
 unfold zkX at h;unfold zh8;split at h
 ·rename_i z n e hz hu;simp only [hz,hu];split at h
  ·rename_i ie hie;simp only [hie];exact zcc (qD (fun _ _ h=>zO h) (k:=fun z=>zcU (fun i=>some (i * ie.size,ie.size)) z parts k) h)
  ·exact h.elim
 ·rename_i z fields hz hu;simp only [hz,hu];split at h
  ·rename_i places hpl;simp only [hpl];have h1:=qV (k:=fun places:List (Nat × Nat)=>yC qE z fun z=>zcU (places.toArray[·]?) z parts k) h;exact zcc (qD (fun _ _ h=>zO h) (k:=fun z=>zcU (places.toArray[·]?) z parts k) h1)
  ·exact h.elim
 ·exact h.elim
def zmq (P:Program) (H:zk) (ρ:Operand->C) (t:TypeId) (x:Operand) (lo hi mx:Option Operand) (K:C->zk->Prop):Prop:=
 match P.underlying t with
 | some (.slice e)=>match P.info? e with
  | some i=>match ρ x with
   | .lst fo sz rows=>(rows=[]∨sz=i.size)∧match mx with
    | none=>match hi with
     | none=>zeU ρ lo 0 fun l=>l<=rows.length∧K (.lst (if fo == 1 then 1 else 0) sz (rows.drop l)) H
     | some hh=>zeU ρ lo 0 fun l=>zeU ρ (some hh) rows.length fun h=>l<=h∧h<=rows.length∧K (.lst 0 sz ((rows.drop l).take (h - l))) H
    | some m=>match hi with
     | some hh=>zeU ρ lo 0 fun l=>zeU ρ (some hh) 0 fun h=>zeU ρ (some m) 0 fun m'=>m'=h∧l<=h∧h<=rows.length∧K (.lst 1 sz ((rows.drop l).take (h - l))) H
     | none=>False
   | .sl id hops sz lo0 len full=>match mx with
    | none=>sz=i.size∧zeU ρ lo 0 fun l=>zeU ρ hi len fun h=>l<=h∧h<=len∧(l=0∨l < h)∧(full=false∨h=len)∧K (.sl id hops sz (lo0+l) (h - l) full) H
    | some _=>False
   | _=>False
  | none=>False
 | some .string=>match ρ x with
  | .v (.string s)=>match s with
   | ⟨⟨b⟩⟩=>match mx with
    | none=>zeU ρ lo 0 fun l=>zeU ρ hi b.length fun h=>l<=h∧h<=b.length∧K (.v (.string ⟨⟨(b.take h).drop l⟩⟩)) H
    | some _=>False
  | _=>False
 | _=>False
def zlG (P:Program) (H:zk) (ρ:Operand->C) (t:TypeId) (x y:Operand) (K:C->zk->Prop):Prop:=
 match P.underlying t with
 | some (.slice e)=>match P.info? e with
  | some i=>match ρ y with
   | .v (.int _ n)=>match ρ x with
    | .lst o sz rows=>bK ((o == 0 || o == 1) && sz == i.size) <| 0<=n∧∃ r,rows[n.toNat]?= some r∧K (.jG r) H
    | .sl id hops sz lo len _=>bK (sz == i.size) <| 0<=n∧n.toNat < len∧K (.ref id hops sz (lo+n.toNat) 0) H
    | _=>False
   | _=>False
  | none=>False
 | some (.array len e)=>match P.info? e with
  | some i=>match ρ y with
   | .v (.int _ n)=>match kV (ρ x) (n.toNat * i.size) with
    | some c=>0<=n∧n < len∧qE c fun c=>K c H
    | none=>False
   | _=>False
  | none=>False
 | _=>False
def zlH (P:Program) (H:zk) (ρ:Operand->C) (t:TypeId) (x y:Operand) (K:C->zk->Prop):Prop:=
 match ρ y with
 | .v (.int _ n)=>match P.underlying t with
  | some .string=>match ρ x with
   | .v (.string s)=>match s with
    | ⟨⟨b⟩⟩=>0<=n∧∃ c,b[n.toNat]?= some c∧K (.v (.int .u8 c.toNat)) H
   | _=>False
  | some (.array len e)=>match P.info? e with
   | some i=>match ρ x with
    | .agg cs=>0<=n∧n < len∧∃ c,zbW P e cs (n.toNat * i.size)=some c∧okB c fun c=>qE c fun c=>K c H
    | _=>False
   | none=>False
  | _=>False
 | _=>False
def zle (P:Program) (H:zk) (ρ:Operand->C) (t:TypeId) (x:Operand) (f:Nat) (K:C->zk->Prop):Prop:=
 match P.underlying t with
 | some (.struct fs)=>match fs[f]? with
  | some fd=>match ρ x with
   | .agg cs=>match zbW P fd.type cs fd.offset with
    | some c=>okB c fun c=>qE c fun c=>K c H
    | none=>False
   | _=>False
  | none=>False
 | _=>False
def zld (P:Program) (H:zk) (ρ:Operand->C) (t:TypeId) (x:Operand) (f:Nat) (K:C->zk->Prop):Prop:=
 match P.underlying t with
 | some (.struct fs)=>match fs[f]? with
  | some fd=>match P.info? fd.type with
   | some i=>match kV (ρ x) fd.offset with
    | some c=>bK (i.size != 0) <| qE c fun c=>K c H
    | none=>False
   | none=>False
  | none=>False
 | _=>False
def ze7 (P:Program) (H:zk) (x:C) (sz':Nat) (rows':List (List C)) (e:TypeId) (i:TypeInfo) (K:C->zk->Prop):Prop:=
 match rows' with
 | []=>(xr H (asL x)).isSome=true∧K (asL x) H
 | r'::rs'=>bK (sz' == i.size) <| q9 i.size fun sz0=>q9 H.length fun m=>match x with
  | .lst 1 sz rows=>(rows=[]∨sz=sz0)∧rows.length+(rs'.length+1)<=maxLen∧(rows.length+(rs'.length+1)) * i.bytes<=140737488355328∧
    jX (H++[⟨2,e,sz0,rows++r'::rs',0⟩]) fun H'=>K (.sl m [] sz0 0 (rows.length+(rs'.length+1)) false) H'
  | .sl id [] sz 0 n false=>match H[id]? with
   | some ob=>bK (sz == sz0 && ob.kind == 2 && ob.ty == e && ob.sz == sz0) <| ob.rows.length=n∧ob.rows.all (·.all zx)=true∧n+(rs'.length+1)<=maxLen∧(n+(rs'.length+1)) * i.bytes<=140737488355328∧
     jX (xy H id++[⟨2,e,sz0,ob.rows++r'::rs',ob.fz⟩]) fun H'=>K (.sl m [] sz0 0 (n+(rs'.length+1)) false) H'
   | none=>False
  | _=>False
def zmO (H:zk) (sz:Nat) (rows:List (List C)) (sz':Nat) (rows':List (List C)) (e:TypeId) (i:TypeInfo) (K:C->zk->Prop):Prop:=
 q9 i.size fun sz0=>q9 H.length fun m=>(rows=[]∨sz=sz0)∧(rows'=[]∨sz'=sz0)∧rows.length+rows'.length<=maxLen∧(rows.length+rows'.length) * i.bytes<=140737488355328∧
  jX (H++[⟨4,e,sz0,rows++rows',0⟩]) fun H'=>K (.gl m sz0 (rows++rows')) H'
def zh2 (P:Program) (H:zk) (ρ:Operand->C) (x y:Operand) (e:TypeId) (i:TypeInfo) (K:C->zk->Prop):Prop:=
 match xr H (asL (ρ y)) with
 | some (sz',rows')=>match ρ x with
  | .gl id sz rows=>match H[id]? with
   | some ob=>bK (sz == i.size) <| q9 i.size fun sz0=>ob=⟨4,e,sz,rows,0⟩∧(rows'=[]∨sz'=sz0)∧rows.length+rows'.length<=maxLen∧(rows.length+rows'.length) * i.bytes<=140737488355328∧
     ziY H id ⟨4,e,sz0,rows++rows',0⟩ fun H'=>K (.gl id sz0 (rows++rows')) H'
   | none=>False
  | .lst 1 sz rows=>zmO H sz rows sz' rows' e i K∨ze7 P H (.lst 1 sz rows) sz' rows' e i K
  | x=>ze7 P H x sz' rows' e i K
 | none=>False
def zty (H:zk) (op:BinOp) (a b:List UInt8) (K:C->zk->Prop):Prop:=
 match op with
 | .eql=>okB (.v (.bool (a == b))) fun c=>K c H
 | .neq=>okB (.v (.bool (!(a == b)))) fun c=>K c H
 | .add=>a.length+b.length<=9223372036854775807∧K (.v (.string ⟨⟨a++b⟩⟩)) H
 | _=>False
def zmS (P:Program) (H:zk) (ρ:Operand->C) (o:Oper) (cl:Call) (K:C->zk->Prop):Prop:=
 match cl.callee with
 | .value x=>match ρ x with
  | .fn f first caps=>bK (qm P f) <| ∃ r H',zb P f H (first++(cl.args.toList.map fun x=>asL (ρ x))++caps) r H'∧okB r fun r=>K r H'
  | .v (.func g first caps)=>match g with
   | .yield l=>bK (first.isEmpty && caps.isEmpty) <| ∃ r H',jh P l H (cl.args.toList.map ρ) r H'∧okB r fun r=>K r H'
   | _=>False
  | _=>False
 | .invoke x name=>match ρ x with
  | .ifc t c=>∃ f,zp7 P t name f=true∧qm P f=true∧∃ r H',zb P f H (c::(cl.args.toList.map ρ)) r H'∧okB r fun r=>K r H'
  | _=>False
 | .builtin .len=>match cl.args.toList,cl.argTypes.toList with
  | [x],[t]=>match P.underlying t with
   | some (.slice _)=>match zrA (asL (ρ x)) with
    | some n=>K (.v (.int .i64 n)) H
    | none=>False
   | some .string=>match ρ x with
    | .v (.string s)=>match s with
     | ⟨⟨b⟩⟩=>K (.v (.int .i64 b.length)) H
    | _=>False
   | _=>match zbK P (execOp (fun x=>zg5 (ρ x)) o) with
    | some (.value v)=>bK (o.op.operands.toList.all (fun x=>isV (ρ x)) && v.oneCell') <| okB (.v v) fun c=>K c H
    | _=>False
  | _,_=>False
 | .builtin .append=>match cl.args.toList,cl.argTypes.toList with
  | [x,y],[t,t']=>bK (t' == t) <| match P.underlying t with
   | some (.slice e)=>match P.info? e with
    | some i=>match i.zero with
     | some z=>bK (z.cells.size == i.size) <| zh2 P H ρ x y e i K
     | none=>False
    | none=>False
   | _=>False
  | _,_=>False
 | _=>match zbK P (execOp (fun x=>zg5 (ρ x)) o) with
  | some (.value v)=>bK (o.op.operands.toList.all (fun x=>isV (ρ x)) && v.oneCell') <| okB (.v v) fun c=>K c H
  | _=>False
def eqK (P:Program) (H:zk) (o:Oper) (ρ:Operand->C) (op:BinOp) (t:TypeId) (xs ys:List C) (K:C->zk->Prop):Prop:=
 (!P.eqGuardType P.depth t && zas P 9 t)=true∧match eqC P 9 t (.agg xs) (.agg ys) with
  | some b=>match op with
   | .eql=>okB (.v (.bool b)) fun c=>K c H
   | .neq=>okB (.v (.bool (!b))) fun c=>K c H
   | _=>False
  | none=>False
def zj7 (P:Program) (t:TypeId) (id:Nat) (hops:List Hop) (i k:Nat) (r:List C) (K:C->Prop):Prop:=
 match P.underlying t,P.info? t with
 | some d,some inf=>match zbv d with
  | true=>k+inf.size<=r.length∧yC qE (yV id hops i k ((r.drop k).take inf.size)) fun cs=>K (.agg cs)
  | false=>k+1<=r.length∧match yV id hops i k ((r.drop k).take 1) with
   | [x]=>okB x fun x=>qE x K
   | _=>False
 | _,_=>False
def zjM (P:Program) (H:zk) (t:TypeId) (c:C) (K:C->Prop):Prop:=
 match c with
 | .ref id hops sz i k=>match H[id]? with
  | some ⟨kind,ty,osz,orows,fz⟩=>match kind with
   | 2=>match hops with
    | []=>bK (osz == sz) <| ∃ r,orows[i]?= some r∧zj7 P t id [] i k r K
    | h::hs=>∃ rows r,zZ H id (h::hs)=some (sz,rows)∧rows[i]?= some r∧zj7 P t id (h::hs) i k r K
   | 1=>match ty with
    | 0=>bK (osz == sz && hops.isEmpty) <| ∃ r,orows[i]?= some r∧zj7 P t id [] i k r K
    | _=>match kG P H t (.ref id hops sz i k) with
     | some c=>okB c fun c=>qE c K
     | none=>False
   | _=>match kG P H t (.ref id hops sz i k) with
    | some c=>okB c fun c=>qE c K
    | none=>False
  | none=>False
 | c=>match kG P H t c with
  | some c=>okB c fun c=>qE c K
  | none=>False
theorem zcr {P:Program} {H:zk} {t:TypeId} {id:Nat} {hops:List Hop} {sz i k:Nat} {rows:List (List C)} {r:List C} {K:C->Prop} (hg:zZ H id hops=some (sz,rows)) (hr:rows[i]?= some r) (h:zj7 P t id hops i k r K):
  ∃ c,kG P H t (.ref id hops sz i k)=some c∧K c:=by
 unfold zj7 at h;split at h
 ·rename_i d inf hd hi;have hrd:∀ n,k+n<=r.length->za8 H (.ref id hops sz i k) n=some (yV id hops i k ((r.drop k).take n)):=fun n hn=>by simp [za8,hg,hr,hn]
  split at h
  ·rename_i hag;obtain ⟨h1,h2⟩:=h;refine ⟨_,?_,qD (fun _ _ h=>zO h) (k:=fun cs=>K (.agg cs)) h2⟩;unfold kG;rw [hd,hi];simp only [hag,if_true];rw [hrd _ h1]
   rfl
  ·rename_i hag;obtain ⟨h1,h2⟩:=h;split at h2
   ·rename_i x hx;refine ⟨x,?_,zO (q6 (k:=fun x=>qE x K) h2)⟩;unfold kG;rw [hd,hi];simp only [hag];rw [hrd _ h1,hx]
    rfl
   ·exact h2.elim
 ·exact h.elim
theorem zah {P:Program} {H:zk} {t:TypeId} {c:C} {K:C->Prop} (h:zjM P H t c K):∃ c',kG P H t c=some c'∧K c':=by
 unfold zjM at h;split at h
 ·split at h
  ·rename_i id hops sz i k kind ty osz orows fz hob;split at h
   ·split at h
    ·obtain ⟨h1,r,h2,h3⟩:=zU h;simp only [beq_iff_eq] at h1;exact zcr (by unfold zZ;rw [hob];simp [qL,h1]) h2 h3
    ·obtain ⟨rows,r,h1,h2,h3⟩:=h;exact zcr h1 h2 h3
   ·split at h
    ·obtain ⟨h1,r,h2,h3⟩:=zU h;simp only [Bool.and_eq_true,beq_iff_eq,List.isEmpty_iff] at h1;obtain ⟨h1,rfl⟩:=h1;exact zcr (by unfold zZ;rw [hob];simp [qL,h1]) h2 h3
    ·split at h
     ·rename_i c hc;exact ⟨c,hc,zO (q6 (k:=fun c=>qE c K) h)⟩
     ·exact h.elim
   ·split at h
    ·rename_i c hc;exact ⟨c,hc,zO (q6 (k:=fun c=>qE c K) h)⟩
    ·exact h.elim
  ·exact h.elim
 ·split at h
  ·rename_i c hc;exact ⟨c,hc,zO (q6 (k:=fun c=>qE c K) h)⟩
  ·exact h.elim
def vd (r:List C) (k:Nat) (cs:List C) (K:List C->Prop):Prop:=bK (Nat.ble (k+cs.length) r.length) <| jX (xN k cs r) K
theorem zd5 {r:List C} {k:Nat} {cs:List C} {K:List C->Prop} (h:vd r k cs K):k+cs.length<=r.length∧K (xN k cs r):=
 ⟨Nat.le_of_ble_eq_true (zU h).1,qV (zU h).2⟩
def zi2 (P:Program) (H:zk) (t:TypeId) (a x:C) (K:zk->Prop):Prop:=
 match a with
 | .ref id hops sz i k=>match H[id]? with
  | some ⟨kind,ty,osz,orows,fz⟩=>match kind with
   | 2=>match P.info? t with
    | some inf=>bK (zcw x && (x.cells.length == inf.size) && x.cells.all q8) <| yC qE x.cells fun cs=>match hops with
     | []=>bK (osz == sz && fz == 0) <| ∃ r,orows[i]?= some r∧((r.drop k).take cs.length).all zx=true∧vd r k cs fun r'=>ziY H id ⟨2,ty,osz,orows.set i r',0⟩ K
     | h::hs=>bK (fz == 0) <| ∃ rows r,zZ H id (h::hs)=some (sz,rows)∧rows[i]?= some r∧((r.drop k).take cs.length).all zx=true∧vd r k cs fun r'=>ziY H id ⟨2,ty,osz,xu orows (h::hs) (fun rows=>rows.set i r'),0⟩ K
    | none=>False
   | 1=>match ty with
    | 0=>match P.info? t with
     | some inf=>bK (zcw x && (x.cells.length == inf.size)) <| yC qE x.cells fun cs=>bK (osz == sz && fz == 0 && hops.isEmpty) <| ∃ r,orows[i]?= some r∧((r.drop k).take cs.length).all zx=true∧vd r k cs fun r'=>ziY H id ⟨1,0,osz,orows.set i r',0⟩ K
     | none=>False
    | _=>match hops,orows,i with
     | [],[r],0=>match P.info? t with
      | some inf=>bK (osz == sz && fz == 0 && zcw x && (x.cells.length == inf.size) && ((r.drop k).take x.cells.length).all zx) <| yC qE x.cells fun cs=>vd r k cs fun r'=>ziY H id ⟨1,ty,osz,[r'],0⟩ K
      | none=>False
     | hops,_,i=>match yU P H t (.ref id hops sz i k) x with
      | some H'=>zcd H' K
      | none=>False
   | _=>match yU P H t (.ref id hops sz i k) x with
    | some H'=>zcd H' K
    | none=>False
  | none=>False
 | a=>match yU P H t a x with
  | some H'=>zcd H' K
  | none=>False
theorem yy {α:Type} {l:List α} {i:Nat} {r:α} (f:α->α) (h:l[i]?= some r):l.modify i f=l.set i (f r):=by
 apply List.ext_getElem?
 intro j;rw [List.getElem?_modify,List.getElem?_set];split
 ·rename_i e;subst e;rw [if_pos (List.getElem?_eq_some_iff.1 h).1,h]
  rfl
 ·simp
theorem zgu {f g:List (List C)->List (List C)}:∀ (hops:List Hop) (sz:Nat) (rows:List (List C)) {sz':Nat} {rows':List (List C)},y8 sz rows hops=some (sz',rows')->f rows'=g rows'->xu rows hops f=xu rows hops g
 | [],sz,rows,sz',rows',h,he=>by
  rw [qL] at h;cases h
  exact he
 | (i,k)::hs,sz,rows,sz',rows',h,he=>by
  rw [xk] at h;rw [zbD,zbD];split at h
  ·rename_i sz2 rows2 hc
   try rw [hc]
   simp only [zgu hs sz2 rows2 h he]
  ·cases h
theorem zeN {P:Program} {H:zk} {t:TypeId} {a x:C} {K:zk->Prop} (h:zi2 P H t a x K):∃ H',yU P H t a x=some H'∧K H':=by
 unfold zi2 at h;cases a with
 | ref id hops sz i k=>
  dsimp only at h;split at h
  ·rename_i kind ty osz orows fz hob;split at h
   ·split at h
    ·rename_i inf hinf;obtain ⟨hv,h⟩:=zU h;have h:=qD (fun _ _ h=>zO h) h;simp only [Bool.and_eq_true,beq_iff_eq] at hv
     have go:∀ hops rows r,zZ H id hops=some (sz,rows)->rows[i]?= some r->fz=0->((r.drop k).take x.cells.length).all zx=true->(vd r k x.cells fun r'=>ziY H id ⟨2,ty,osz,xu orows hops (fun rows=>rows.set i r'),0⟩ K)->
       ∃ H',yU P H t (.ref id hops sz i k) x=some H'∧K H':=fun hops rows r h1 h2 h0 h3 h4=>by
      obtain ⟨h5,h6⟩:=zd5 h4;have h6:=km h6;refine ⟨_,?_,h6⟩;unfold yU;rw [hinf];dsimp only;rw [h1,hob];dsimp only;rw [h2];dsimp only;rw [if_pos]
      ·congr 1
       unfold zdn;rw [yy _ hob]
       congr 1
       dsimp only;subst h0
       congr 1
       obtain ⟨ob2,e1,_,e3⟩:=qZ h1;rw [hob] at e1;cases e1
       exact zgu hops _ _ e3 (by unfold vW;rw [yy _ h2])
      ·simp only [Bool.and_eq_true,beq_iff_eq,Bool.or_eq_true,decide_eq_true_eq];exact ⟨⟨⟨⟨⟨⟨⟨trivial,hv.1.1⟩,hv.1.2⟩,h5⟩,h3⟩,.inr hv.2⟩,.inr (by omega)⟩,.inr h0⟩
     split at h
     ·obtain ⟨h1,r,h2,h3,h4⟩:=zU h;simp only [Bool.and_eq_true,beq_iff_eq] at h1;exact go [] orows r (by unfold zZ;rw [hob];simp [qL,h1.1]) h2 h1.2 h3 h4
     ·obtain ⟨h1,rows,r,h2,h3,h4,h5⟩:=zU h;simp only [beq_iff_eq] at h1;exact go _ rows r h2 h3 h1 h4 h5
    ·exact h.elim
   ·split at h
    ·split at h
     ·rename_i inf hinf;obtain ⟨hv,h⟩:=zU h;have h:=qD (fun _ _ h=>zO h) h;obtain ⟨h1,r,h2,h3,h4⟩:=zU h;obtain ⟨h5,h6⟩:=zd5 h4;have h6:=km h6;simp only [Bool.and_eq_true,beq_iff_eq,List.isEmpty_iff] at hv h1;obtain ⟨⟨rfl,rfl⟩,rfl⟩:=h1;refine ⟨_,?_,h6⟩;have hg:zZ H id []=some (osz,orows):=by unfold zZ;rw [hob];simp [qL]
      unfold yU;rw [hinf];dsimp only;rw [hg,hob];dsimp only;rw [h2];dsimp only;rw [if_pos]
      ·congr 1
       unfold zdn;rw [yy _ hob]
       congr 1
       dsimp only;rw [zdo];unfold vW;rw [yy _ h2]
      ·simp only [Bool.and_eq_true,beq_iff_eq,Bool.or_eq_true,decide_eq_true_eq];exact ⟨⟨⟨⟨⟨⟨⟨trivial,hv.1⟩,hv.2⟩,h5⟩,h3⟩,.inl trivial⟩,.inr (by omega)⟩,.inr trivial⟩
     ·exact h.elim
    ·split at h
     ·rename_i r;split at h
      ·rename_i inf hinf;obtain ⟨hv,h⟩:=zU h;have h:=qD (fun _ _ h=>zO h) h;obtain ⟨h5,h6⟩:=zd5 h;have h6:=km h6;simp only [Bool.and_eq_true,beq_iff_eq] at hv;refine ⟨_,?_,h6⟩;have h1:zZ H id []=some (osz,[r]):=by unfold zZ;rw [hob];simp [qL]
       unfold yU;rw [hinf];dsimp only;rw [h1,hob];dsimp only;rw [show [r][0]?= some r from rfl];dsimp only;rw [if_pos]
       ·congr 1
        unfold zdn;rw [yy _ hob]
        congr 1
        dsimp only;obtain ⟨⟨⟨⟨_,rfl⟩,_⟩,_⟩,_⟩:=hv;rw [zdo];unfold vW
        rfl
       ·simp only [Bool.and_eq_true,beq_iff_eq,Bool.or_eq_true,decide_eq_true_eq];obtain ⟨⟨⟨⟨e1,e2⟩,e3⟩,e4⟩,e5⟩:=hv;exact ⟨⟨⟨⟨⟨⟨⟨e1,e3⟩,e4⟩,h5⟩,e5⟩,.inl trivial⟩,.inr (by omega)⟩,.inr e2⟩
      ·exact h.elim
     ·split at h
      ·rename_i H' hc;exact ⟨H',hc,vv h⟩
      ·exact h.elim
   ·split at h
    ·rename_i H' hc;exact ⟨H',hc,vv h⟩
    ·exact h.elim
  ·exact h.elim
 | _=>
  dsimp only at h;split at h
  ·rename_i H' hc;exact ⟨H',hc,vv h⟩
  ·exact h.elim
def zsj (H:zk) (a y:C):Bool:=
 match a with
 | .ref id _ _ _ _=>match H[id]? with
  | some ob=>match ob.kind with
   | 2=>true
   | 1=>match ob.ty with
    | 0=>match y with
     | .gl ..=>false
     | _=>true
    | _=>false
   | _=>false
  | none=>false
 | _=>false
def zpx (P:Program) (H:zk) (ρ:Operand->C) (o:Oper) (src dst:TypeId) (x:Operand) (K:C->zk->Prop):Prop:=
 match Ab.asL (ρ x) with
 | .lst _ sz rows=>match P.underlying src,P.underlying dst with
  | some (.slice e),some .string=>match P.underlying e with
   | some (.int .u8)=>bK (sz == 1) <| ∃ bts:List UInt8,rows=bts.map zfp∧K (.v (.string ⟨⟨bts⟩⟩)) H
   | _=>False
  | _,_=>False
 | _=>match zbK P (execOp (fun x=>zg5 (ρ x)) o) with
  | some (.value v)=>bK (xn o && o.op.operands.toList.all (fun x=>isV (ρ x)) && v.oneCell') <| okB (.v v) fun c=>K c H
  | _=>False
def zp5 (P:Program) (H:zk) (ρ:Operand->C) (t:TypeId) (x y:Operand) (K:C->zk->Prop):Prop:=
 match ρ x,ρ y with
 | .v (.int _ n),.v (.int _ n')=>match P.underlying t with
  | some (.slice e)=>match P.info? e with
   | some i=>match zaz P e with
    | some cs=>bK (cs.all q8) <| n'=n∧0<=n∧(i.bytes:Int) * n<=281474976710656∧n<=9223372036854775807∧
      q9 i.size fun sz=>q9 H.length fun m=>jX (H++[⟨2,e,sz,List.replicate n.toNat cs,0⟩]) fun H'=>K (.sl m [] sz 0 n.toNat false) H'
    | none=>False
   | none=>False
  | _=>False
 | _,_=>False
def zqd (o:Oper):Option (BinOp × TypeId × Operand):=
 match o.op with
 | .binOp op t x y _=>match y with
  | .const v=>match v with
   | .slice none 0 0=>some (op,t,x)
   | _=>none
  | _=>none
 | _=>none
def zs4 (P:Program) (H:zk) (op:BinOp) (t:TypeId) (x:C) (K:C->zk->Prop):Prop:=
 match P.underlying t with
 | some (.slice _)=>match x with
  | .lst _ _ rows=>match rows with
   | []=>match op with
    | .eql=>K (.v (.bool true)) H∧K (.v (.bool false)) H
    | .neq=>K (.v (.bool true)) H∧K (.v (.bool false)) H
    | _=>False
   | r::rs=>match op with
    | .eql=>r::rs≠[]∧K (.v (.bool false)) H
    | .neq=>r::rs≠[]∧K (.v (.bool true)) H
    | _=>False
  | .sl ..=>match op with
   | .eql=>K (.v (.bool false)) H
   | .neq=>K (.v (.bool true)) H
   | _=>False
  | _=>False
 | _=>False
def zqt (o:Oper):Option (BinOp × TypeId × Operand):=
 match o.op with
 | .binOp op t x y _=>match y with
  | .const v=>match v with
   | .pointer p=>match p with
    | none=>some (op,t,x)
    | some _=>none
   | _=>none
  | _=>none
 | _=>none
def zlI (x:C):Option Bool:=
 match x with
 | .ref ..=>some false
 | .jG _=>some false
 | .v y=>match y with
  | .pointer p=>match p with
   | none=>some true
   | some _=>some false
  | _=>none
 | _=>none
def zr8 (P:Program) (t:TypeId):Bool:=
 match P.underlying t with
 | some (.pointer e)=>e == P.pointee t
 | _=>false
def ztl (P:Program) (H:zk) (op:BinOp) (t:TypeId) (x:C) (K:C->zk->Prop):Prop:=
 match zlI x with
 | some b=>match op with
  | .eql=>bK (zr8 P t) <| K (.v (.bool b)) H
  | .neq=>bK (zr8 P t) <| K (.v (.bool (!b))) H
  | _=>False
 | none=>False
def zaw (P:Program) (H:zk) (ρ:Operand->C) (o:Oper) (K:C->zk->Prop):Prop:=
 match o.op with
 | .move x=>qE (ρ x) fun c=>K c H
 | .assign x=>qE (ρ x) fun c=>K c H
 | .pick x y z=>match ρ x with
  | .v (.bool b)=>qE (if b then ρ y else ρ z) fun c=>K c H
  | _=>False
 | .alloc t=>match zaz P t with
  | some cs=>jX cs fun cs=>q9 cs.length fun n=>q9 H.length fun m=>jX (H++[⟨1,t,n,[cs],0⟩]) fun H'=>K (.ref m [] n 0 0) H'
  | none=>False
 | .box t x=>bK (zcw (ρ x)) <| yC qE (ρ x).cells fun cs=>q9 cs.length fun n=>q9 H.length fun m=>jX (H++[⟨1,t,n,[cs],0⟩]) fun H'=>K (.ref m [] n 0 0) H'
 | .fieldAddr t x f=>zld P H ρ t x f K
 | .indexAddr t x y=>zlG P H (fun x=>asL (ρ x)) t x y K
 | .index t x y=>zlH P H ρ t x y K
 | .field t x f=>zle P H ρ t x f K
 | .load t x=>zjM P H t (ρ x) fun c=>K c H
 | .store t x y=>match zsj H (ρ x) (ρ y) with
  | true=>zi2 P H t (ρ x) (kL (ρ y)) fun H'=>K .un H'
  | false=>zi2 P H t (ρ x) (ρ y) fun H'=>K .un H'
 | .extract x n=>match ρ x with
  | .tup vs=>match vs[n]? with
   | some c=>okB c fun c=>qE c fun c=>K c H
   | none=>False
  | _=>False
 | .nilCheck x=>bK (ziH (ρ x)) <| qE (ρ x) fun c=>K c H
 | .makeFunc f first caps=>match f with
  | .func f=>yC qE (first.toList.map ρ) fun a=>yC qE (caps.toList.map ρ) fun b=>K (.fn f a b) H
  | _=>False
 | .build t parts=>zkX P t (parts.toList.map fun p=>(p.1,ρ p.2)) fun cs=>K (.agg cs) H
 | .makeInterface t x=>match P.underlying t with
  | some d=>bK (yR d) <| qE (ρ x) fun c=>K (.ifc t c) H
  | none=>False
 | .typeAssert x _ t ok=>bK ok <| match ρ x with
  | .ifc t' c=>match P.underlying t with
   | some d=>match t' == t with
    | true=>bK (yR d) <| K (.tup [c,.v (.bool true)]) H
    | false=>match P.info? t with
     | some i=>bK (yR d && i.zero.isSome) <| K (.tup [.za,.v (.bool false)]) H
     | none=>False
   | none=>False
  | _=>False
 | .buildSlice t len parts=>match zsZ P t len (parts.toList.map fun p=>(p.1,kL (ρ p.2))) with
  | some c=>match c with
   | .lst o sz rows=>yC (yC qE) rows fun rows=>q9 sz fun sz=>K (.lst o sz rows) H
   | _=>False
  | none=>False
 | .slice t x lo hi mx=>zmq P H (fun x=>asL (ρ x)) t x lo hi mx K
 | .makeSlice t x y=>zp5 P H ρ t x y K
 | .lookup ..=>∃ c H',OpV P o ρ H c H'∧K c H'
 | .mapUpdate ..=>∃ c H',OpV P o ρ H c H'∧K c H'
 | .mapEntry ..=>∃ c H',OpV P o ρ H c H'∧K c H'
 | .entryStore ..=>∃ c H',OpV P o ρ H c H'∧K c H'
 | .call cl=>zmS P H ρ o cl K
 | .binOp op t x y _=>match ρ x,ρ y with
  | .agg xs,.agg ys=>eqK P H o ρ op t xs ys K
  | .v (.string s),.v (.string s')=>match s,s' with
   | ⟨⟨a⟩⟩,⟨⟨b⟩⟩=>zty H op a b K
  | _,_=>match zbK P (execOp (fun x=>zg5 (ρ x)) o) with
   | some (.value v)=>bK (xn o && o.op.operands.toList.all (fun x=>isV (ρ x)) && v.oneCell') <| okB (.v v) fun c=>K c H
   | _=>False
 | .convert src dst x=>zpx P H ρ o src dst x K
 | .unOp _ _ _=>match zbK P (execOp (fun x=>zg5 (ρ x)) o) with
  | some (.value v)=>bK (xn o && o.op.operands.toList.all (fun x=>isV (ρ x)) && v.oneCell') <| zsY (.v v) fun c=>K c H
  | _=>False
 | _=>match zbK P (execOp (fun x=>zg5 (ρ x)) o) with
  | some (.value v)=>bK (xn o && o.op.operands.toList.all (fun x=>isV (ρ x)) && v.oneCell') <| okB (.v v) fun c=>K c H
  | _=>False
section
variable {P:Program} {o:Oper} {ρ:Operand->C} {H:zk} {K:C->zk->Prop}
theorem OpV.ze6 {c c':C} {H':zk} (h:OpV P o ρ H c H') (hw:WC c c'):OpV P o ρ H c' H':=fun w E σ hh hl K hk=>h w E σ hh hl K fun v w' E' h1 h2 g=>hk v w' E' h1 (hw E' v h2) g
theorem OpV.zpr (cl:Call) (ho:o.op=.call cl) (x:Operand) (hcl:cl.callee=.value x) {f:FuncId} {first caps:List C} (hf:ρ x=.fn f first caps) (hcb:qm P f=true) {r:C} {H':zk}
  (hs:zb P f H (first++(cl.args.toList.map fun x=>Ab.asL (ρ x))++caps) r H'):OpV P o ρ H r H':=.asL <| .call cl ho x hcl (by rw [hf];rfl) hcb hs
theorem OpV.ztw (t:TypeId) (x y:Operand) (ho:o.op=.store t x y) {H':zk} (hs:yU P H t (ρ x) (kL (ρ y))=some H'):OpV P o ρ H .un H':=by
 classical
 have hρ:∀ z,∃ c,(c=ρ z∨c=kL (ρ z))∧(z=y->c=kL (ρ z))∧(z≠y->c=ρ z):=fun z=>by
  by_cases e:z=y
  ·exact ⟨kL (ρ z),.inr rfl,fun _=>rfl,fun h=>absurd e h⟩
  ·exact ⟨ρ z,.inl rfl,fun h=>absurd h e,fun _=>rfl⟩
 obtain ⟨ρ',hρ'⟩:∃ ρ':Operand->C,∀ z,(ρ' z=ρ z∨ρ' z=kL (ρ z))∧(z=y->ρ' z=kL (ρ z))∧(z≠y->ρ' z=ρ z):=⟨fun z=>(hρ z).choose,fun z=>(hρ z).choose_spec⟩
 have hx:ρ' x=ρ x:=by
  rcases (hρ' x).1 with e | e
  ·exact e
  ·rw [e];unfold yU at hs;split at hs
   ·rename_i e2 _;rw [e2];rfl
   ·cases hs
 have h0:qB P o ρ' H .un H':=qB.store t x y ho (by rw [hx,(hρ' y).2.1 rfl];exact hs);refine .of0 (h0.weaken fun z E v hl=>?_) (zeL hs);rcases (hρ' z).1 with e | e
 ·rw [e];exact hl
 ·rw [e];exact zgw hl
theorem vF (h:match zbK P (execOp (fun x=>zg5 (ρ x)) o) with
  | some (.value v)=>bK (xn o && o.op.operands.toList.all (fun x=>isV (ρ x)) && v.oneCell') <| okB (.v v) fun c=>K c H
  | _=>False):∃ c,(∀ H2,OpV P o ρ H2 c H2)∧K c H:=by
 split at h
 ·rename_i v e;obtain ⟨h1,h2⟩:=zU h;simp only [Bool.and_eq_true,Array.all_toList] at h1;exact ⟨.v v,fun H2=>.same <| .scalar h1.1.1 h1.1.2 e h1.2,q6 (k:=fun c=>K c H) h2⟩
 ·exact h.elim
theorem zeJ {t:TypeId} {x:Operand} {lo hi mx:Option Operand} (ho:o.op=.slice t x lo hi mx) (h:zmq P H ρ t x lo hi mx K):∃ c,(∀ H2,OpV P o ρ H2 c H2)∧K c H:=by
 unfold zmq at h;split at h
 rotate_left
 ·rename_i hu;split at h
  ·rename_i s hx;obtain ⟨⟨b⟩⟩:=s;dsimp only at h;split at h
   ·obtain ⟨l,h1,h⟩:=xO h;obtain ⟨h',h2,h3,h4,h5⟩:=xO h;exact ⟨_,fun H2=>.same <| .zqM t x lo hi ho hu hx h1 h2 h3 h4,h5⟩
   ·exact h.elim
  ·exact h.elim
 ·exact h.elim
 rename_i e hu;split at h
 rotate_left
 ·exact h.elim
 rename_i i hi';split at h
 ·rename_i fo sz rows hx;obtain ⟨hsz,h⟩:=h;split at h
  ·split at h
   ·obtain ⟨l,h1,h3,h5⟩:=xO h;have:=fun H2=>OpV.same <| qB.zki (H:=H2) t x lo none ho hu hi' hx hsz h1 (rfl:IsB ρ none rows.length rows.length) h3 (Nat.le_refl _)
    refine ⟨_,this,?_⟩;rw [List.take_of_length_le (by simp)];by_cases hfo:fo=1
    ·simpa [hfo] using h5
    ·simpa [hfo] using h5
   ·rename_i hh;obtain ⟨l,h1,h⟩:=xO h;obtain ⟨h',h2,h3,h4,h5⟩:=xO h;exact ⟨_,fun H2=>.ze6 (.same <| .zki t x lo (some hh) ho hu hi' hx hsz h1 h2 h3 h4) (.share _ _ _),h5⟩
  ·split at h
   ·obtain ⟨l,h1,h⟩:=xO h;obtain ⟨h',h2,h⟩:=xO h;obtain ⟨m,h3,rfl,h4,h5,h6⟩:=xO h;exact ⟨_,fun H2=>.same <| .zoU t x lo _ _ ho hu hi' hx hsz h1 h2 h3 h4 h5,h6⟩
   ·exact h.elim
 ·rename_i id hops sz lo0 len full hx;split at h
  ·obtain ⟨hsz,h⟩:=h;obtain ⟨l,h1,h⟩:=xO h;obtain ⟨h',h2,h3,h4,h5,h6,h7⟩:=xO h;exact ⟨_,fun H2=>.same <| .zsh t x lo hi ho hu hi' hx hsz h1 h2 h3 h4 h5 h6,h7⟩
  ·exact h.elim
 ·exact h.elim
theorem zer {t:TypeId} {x y:Operand} (ho:o.op=.indexAddr t x y) (h:zlG P H ρ t x y K):∃ c,(∀ H2,OpV P o ρ H2 c H2)∧K c H:=by
 unfold zlG at h;split at h
 rotate_left
 ·rename_i len e hu;split at h
  ·rename_i i hi;split at h
   ·rename_i k n hy;split at h
    ·rename_i c hx;exact ⟨c,fun H2=>.same <| .zp1 t x y ho hu hi hy h.1 h.2.1 hx,zO (k:=fun c=>K c H) h.2.2⟩
    ·exact h.elim
   ·exact h.elim
  ·exact h.elim
 ·exact h.elim
 rename_i e hu;split at h
 rotate_left
 ·exact h.elim
 rename_i i hi;split at h
 rotate_left
 ·exact h.elim
 rename_i k n hy;split at h
 ·rename_i fo sz rows hx;obtain ⟨h1,h3,r,h4,h5⟩:=zU h;refine ⟨_,fun H2=>.same <| .indexAddr t x y ho hu hi hy h3 (c:=.jG r) ?_,h5⟩;rw [hx];simp only [zei];rw [if_pos h1,h4]
  rfl
 ·rename_i id hops sz lo len full hx;obtain ⟨h2,h3,h4,h5⟩:=zU h;simp only [beq_iff_eq] at h2;refine ⟨_,fun H2=>.same <| .indexAddr t x y ho hu hi hy h3 (c:=.ref id hops sz (lo+n.toNat) 0) ?_,h5⟩;rw [hx];simp only [zei];rw [if_pos (by simp [h4,h2])]
 ·exact h.elim
theorem zes {t:TypeId} {x y:Operand} (ho:o.op=.index t x y) (h:zlH P H ρ t x y K):∃ c,(∀ H2,OpV P o ρ H2 c H2)∧K c H:=by
 unfold zlH at h;split at h
 ·rename_i k n hy;split at h
  ·rename_i hu;split at h
   ·rename_i s hx;obtain ⟨⟨b⟩⟩:=s;obtain ⟨h1,c,h2,h3⟩:=h;exact ⟨_,fun H2=>.same <| .zqK t x y ho hu hx hy h1 h2,h3⟩
   ·exact h.elim
  ·rename_i len e hu;split at h
   ·rename_i i hi;split at h
    ·rename_i cs hx;obtain ⟨h1,h2,c,h3,h4⟩:=h;exact ⟨c,fun H2=>.same <| .zlF t x y ho hu hi hx hy h1 h2 h3,zO (k:=fun c=>K c H) (q6 (k:=fun c=>qE c fun c=>K c H) h4)⟩
    ·exact h.elim
   ·exact h.elim
  ·exact h.elim
 ·exact h.elim
theorem zel {t:TypeId} {x:Operand} {f:Nat} (ho:o.op=.field t x f) (h:zle P H ρ t x f K):∃ c,(∀ H2,OpV P o ρ H2 c H2)∧K c H:=by
 unfold zle at h;split at h
 ·rename_i fs hu;split at h
  ·rename_i fd hf;split at h
   ·rename_i cs hx;split at h
    ·rename_i c hc;exact ⟨c,fun H2=>.same <| .field t x f ho hu hf hx hc,zO (k:=fun c=>K c H) (q6 (k:=fun c=>qE c fun c=>K c H) h)⟩
    ·exact h.elim
   ·exact h.elim
  ·exact h.elim
 ·exact h.elim
theorem zhR {t t':TypeId} {op:BinOp} {x y:Operand} {a b:List UInt8} (ho:o.op=.binOp op t x y t') (hx:ρ x=.v (.string (bs a))) (hy:ρ y=.v (.string (bs b))) (h:zty H op a b K):∃ c,(∀ H2,OpV P o ρ H2 c H2)∧K c H:=by
 unfold zty at h;split at h
 ·exact ⟨_,fun H2=>.same <| .zsC .eql t t' x y ho (.inl rfl) hx hy,q6 (k:=fun c=>K c H) h⟩
 ·exact ⟨_,fun H2=>.same <| .zsC .neq t t' x y ho (.inr rfl) hx hy,q6 (k:=fun c=>K c H) h⟩
 ·exact ⟨_,fun H2=>.same <| .ztx t t' x y ho hx hy h.1,h.2⟩
 ·exact h.elim
theorem zek {t:TypeId} {x:Operand} {f:Nat} (ho:o.op=.fieldAddr t x f) (h:zld P H ρ t x f K):∃ c,(∀ H2,OpV P o ρ H2 c H2)∧K c H:=by
 unfold zld at h;split at h
 rotate_left
 ·exact h.elim
 rename_i fs hu;split at h
 rotate_left
 ·exact h.elim
 rename_i fd hf;split at h
 rotate_left
 ·exact h.elim
 rename_i i hi;split at h
 rotate_left
 ·exact h.elim
 rename_i c hc;obtain ⟨h1,h2⟩:=zU h;exact ⟨c,fun H2=>.same <| .fieldAddr t x f ho hu hf hi tE hc,zO (k:=fun c=>K c H) h2⟩
theorem zcD {cl:Call} (ho:o.op=.call cl) {x y:Operand} {e:TypeId} {i:TypeInfo} {z:Value} (ht:zhY P cl x y e i z) {sz':Nat} {rows':List (List C)} (hy:xr H (asL (ρ y))=some (sz',rows'))
  (h:ze7 P H (ρ x) sz' rows' e i K):∃ c H',OpV P o ρ H c H'∧K c H':=by
 unfold ze7 at h;split at h
 ·obtain ⟨h1,h2⟩:=h;obtain ⟨⟨sz,rows⟩,hx⟩:=Option.isSome_iff_exists.1 h1;exact ⟨_,H,.asL (ρ:=ρ) (.same <| .zkO cl ho x y ht hx hy),h2⟩
 ·rename_i r' rs'
  replace h:=zU h
  obtain ⟨hz,h⟩:=h;have hz:=eq_of_beq hz;subst hz;have h:=qn h;have h:=qn h;split at h
  ·rename_i sz rows hx;obtain ⟨h1,h2,h3,h4⟩:=h;exact ⟨_,_,.asL (ρ:=ρ) (.zng (.zkN cl ho x y ht (by rw [hx];rfl) h1 hy (by simp) tS (by simpa using h3)) _ (fun e=>by cases e) rfl),by simpa using qV h4⟩
  ·rename_i id sz n hx;split at h
   ·rename_i ob hob
    replace h:=zU h
    obtain ⟨hb,h4,h5,h6,h7,h8⟩:=h;simp only [Bool.and_eq_true,beq_iff_eq] at hb;obtain ⟨⟨⟨rfl,h1⟩,h2⟩,h3⟩:=hb;exact ⟨_,_,.asL (ρ:=ρ) (.of0 (.znu cl ho x y ht (by rw [hx];rfl) hob h1 h2 h3 h4 h5 hy (by simp) (by simpa using h6) (by simpa using h7)) (jr.trans (jr.xy H id fun ob' h'=>by rw [hob] at h';cases h';rw [h1];decide) (jr.push _ _ (fun e=>by cases e)))),by simpa using qV h8⟩
   ·exact h.elim
  ·exact h.elim
theorem zh3 {cl:Call} (ho:o.op=.call cl) {x y:Operand} {e:TypeId} {i:TypeInfo} {z:Value} (ht:zhY P cl x y e i z) (h:zh2 P H ρ x y e i K):∃ c H',OpV P o ρ H c H'∧K c H':=by
 unfold zh2 at h;split at h
 rotate_left
 ·exact h.elim
 rename_i sz' rows' hy;split at h
 ·rename_i id sz rows hx;split at h
  ·rename_i ob hob
   replace h:=zU h
   obtain ⟨hz,h⟩:=h;have hz:=eq_of_beq hz;subst hz;have h:=qn h;obtain ⟨h1,h2,h3,h4,h5⟩:=h;exact ⟨_,_,.zje cl ho x y ht hx hob h1 hy h2 h3 h4,km h5⟩
  ·exact h.elim
 ·rename_i sz rows hx;rcases h with h | h
  ·unfold zmO at h;have h:=qn h;have h:=qn h;obtain ⟨h1,h2,h3,h4,h5⟩:=h;exact ⟨_,_,.zh1 cl ho x y ht hx h1 hy h2 h3 h4,qV h5⟩
  ·exact zcD ho ht hy (hx ▸ h)
 ·exact zcD ho ht hy h
theorem Array.xP {α:Type} {a:Array α} {l:List α} (h:a.toList=l):a=l.toArray:=by subst h;simp
theorem zkY {cl:Call} (ho:o.op=.call cl) (h:zmS P H ρ o cl K):∃ c H',OpV P o ρ H c H'∧K c H':=by
 have hns:xn o=true:=by simp [xn,ho]
 have scal:∀ (h:match zbK P (execOp (fun x=>zg5 (ρ x)) o) with
   | some (.value v)=>bK (o.op.operands.toList.all (fun x=>isV (ρ x)) && v.oneCell') <| okB (.v v) fun c=>K c H
   | _=>False),∃ c H',OpV P o ρ H c H'∧K c H':=by
  intro h;split at h
  ·rename_i v e;obtain ⟨h1,h2⟩:=zU h;simp only [Bool.and_eq_true,Array.all_toList] at h1;exact ⟨.v v,H,.same <| .scalar hns h1.1 e h1.2,q6 (k:=fun c=>K c H) h2⟩
  ·exact h.elim
 unfold zmS at h;split at h
 ·rename_i x hcl;split at h
  ·rename_i f first caps hf;obtain ⟨h1,r,H',h2,h3⟩:=zU h;exact ⟨r,H',.zpr cl ho x hcl hf h1 h2,q6 (k:=fun c=>K c H') h3⟩
  ·rename_i g first caps hf;split at h
   ·rename_i l;obtain ⟨h1,r,H',h2,h3⟩:=zU h;simp only [Bool.and_eq_true,Array.isEmpty_iff] at h1;obtain ⟨rfl,rfl⟩:=h1;exact ⟨r,H',.yield cl ho x hcl hf h2,q6 (k:=fun c=>K c H') h3⟩
   ·exact h.elim
  ·exact h.elim
 ·rename_i x name hcl;split at h
  ·rename_i t c hx;obtain ⟨f,hm,hcb,r,H',h2,h3⟩:=h;exact ⟨r,H',.invoke cl ho x name hcl hx hm hcb h2,q6 (k:=fun c=>K c H') h3⟩
  ·exact h.elim
 ·rename_i hcl;split at h
  ·rename_i x t hx ht;split at h
   ·rename_i e hu;split at h
    ·rename_i n hn;exact ⟨_,H,.asL (ρ:=ρ) <| .same <| .len cl ho hcl x (Array.xP hx) (Array.xP ht) hu hn,h⟩
    ·exact h.elim
   ·rename_i hu;split at h
    ·rename_i s hs;obtain ⟨⟨b⟩⟩:=s;exact ⟨_,H,.same <| .zqL cl ho hcl x (Array.xP hx) (Array.xP ht) hu hs,h⟩
    ·exact h.elim
   ·exact scal h
  ·exact h.elim
 ·rename_i hcl;split at h
  ·rename_i x y t t' hx ht;obtain ⟨ht',h⟩:=zU h;simp only [beq_iff_eq] at ht';subst ht';split at h
   ·rename_i e hu;split at h
    ·rename_i i hi;split at h
     ·rename_i z hz;exact zh3 ho ⟨hcl,Array.xP hx,⟨_,Array.xP ht,hu⟩,hi,hz,by simpa using (zU h).1⟩ (zU h).2
     ·exact h.elim
    ·exact h.elim
   ·exact h.elim
  ·exact h.elim
 ·exact scal h
theorem zop {op:BinOp} {t:TypeId} {x:Operand} (ho:zqd o=some (op,t,x)) (h:zs4 P H op t (ρ x) K):jt P o ρ H K:=by
 obtain ⟨t',ho⟩:∃ t',o.op=.binOp op t x (.const (.slice none 0 0)) t':=by
  unfold zqd at ho;split at ho
  ·rename_i h1;split at ho
   ·split at ho
    ·cases ho;exact ⟨_,h1⟩
    ·cases ho
   ·cases ho
  ·cases ho
 unfold zs4 at h;split at h
 ·rename_i e hu;split at h
  ·rename_i fo sz rows hx;split at h
   ·split at h
    ·exact .zqc .eql t t' x ho (.inl rfl) hu hx h.1 h.2
    ·exact .zqc .neq t t' x ho (.inr rfl) hu hx h.1 h.2
    ·exact h.elim
   ·split at h
    ·exact (zcB.ziG .eql t t' x ho (.inl rfl) hu (.inl ⟨_,_,_,hx,h.1⟩)).toR h.2
    ·exact (zcB.ziG .neq t t' x ho (.inr rfl) hu (.inl ⟨_,_,_,hx,h.1⟩)).toR h.2
    ·exact h.elim
  ·rename_i hx;split at h
   ·exact (zcB.ziG .eql t t' x ho (.inl rfl) hu (.inr ⟨_,_,_,_,_,_,hx⟩)).toR h
   ·exact (zcB.ziG .neq t t' x ho (.inr rfl) hu (.inr ⟨_,_,_,_,_,_,hx⟩)).toR h
   ·exact h.elim
  ·exact h.elim
 ·exact h.elim
theorem zet {x:C} {b:Bool} (h:zlI x=some b):∀ E u,L E x u->∃ a,u=.pointer a∧a.isNone=b:=by
 intro E u hl;unfold zlI at h;split at h
 ·cases h;cases hl;exact ⟨_,rfl,rfl⟩
 ·cases h;cases hl;exact ⟨_,rfl,rfl⟩
 ·split at h
  ·split at h <;> (cases h;cases hl;exact ⟨_,rfl,rfl⟩)
  ·cases h
 ·cases h
theorem zoG {op:BinOp} {t:TypeId} {x:Operand} (ho:zqt o=some (op,t,x)) (h:ztl P H op t (ρ x) K):∃ c,zcB P o ρ H c H∧K c H:=by
 obtain ⟨t',ho⟩:∃ t',o.op=.binOp op t x (.const (.pointer none)) t':=by
  unfold zqt at ho;split at ho
  ·rename_i h1;split at ho
   ·split at ho
    ·split at ho
     ·cases ho;exact ⟨_,h1⟩
     ·cases ho
    ·cases ho
   ·cases ho
  ·cases ho
 have hT:zr8 P t=true->P.underlying t=some (.pointer (P.pointee t)):=fun hp=>by
  unfold zr8 at hp;split at hp
  ·rename_i e hu;have he:e=P.pointee t:=by simpa using hp
   rw [hu,he]
  ·cases hp
 unfold ztl at h;split at h
 ·rename_i b hb;split at h
  ·exact ⟨_,.zqs .eql t t' x ho (.inl rfl) (hT (zU h).1) b (zet hb),(zU h).2⟩
  ·exact ⟨_,.zqs .neq t t' x ho (.inr rfl) (hT (zU h).1) b (zet hb),(zU h).2⟩
  ·exact h.elim
 ·exact h.elim
theorem zlP {t:TypeId} {x y:Operand} (ho:o.op=.makeSlice t x y) (h:zp5 P H ρ t x y K):∃ c H',OpV P o ρ H c H'∧K c H':=by
 unfold zp5 at h;split at h
 ·rename_i k n k' n' hx hy;split at h
  ·rename_i e hu;split at h
   ·rename_i i hi;split at h
    ·rename_i cs hz;obtain ⟨h1,rfl,h2,h3,h4,h5⟩:=zU h;have h5:=qn h5;have h5:=qn h5;exact ⟨_,_,.zng (.makeSlice t x y ho hu hi hz h1 hx hy h2 h3 h4) _ (fun e=>by cases e) rfl,qV h5⟩
    ·exact h.elim
   ·exact h.elim
  ·exact h.elim
 ·exact h.elim
theorem zfA {src dst:TypeId} {x:Operand} (ho:o.op=.convert src dst x) (h:zpx P H ρ o src dst x K):∃ c,(∀ H2,OpV P o ρ H2 c H2)∧K c H:=by
 unfold zpx at h;split at h
 ·rename_i fo sz rows hx;split at h
  ·rename_i e hs hd;split at h
   ·rename_i he;obtain ⟨h1,bts,rfl,h2⟩:=zU h;have h1:=eq_of_beq h1;subst h1;exact ⟨_,fun H2=>.asL (ρ:=ρ) <| .same <| .znH src dst x ho hs he hd hx,h2⟩
   ·exact h.elim
  ·exact h.elim
 ·exact vF h
theorem zcu (h:zaw P H ρ o K):∃ c H',OpV P o ρ H c H'∧K c H':=by
 unfold zaw at h;split at h
 ·rename_i x ho;exact ⟨_,H,.same <| .move x (.inl ho),zO (k:=fun c=>K c H) h⟩
 ·rename_i x ho;exact ⟨_,H,.same <| .move x (.inr ho),zO (k:=fun c=>K c H) h⟩
 ·rename_i x y z ho;split at h
  ·rename_i b hb;exact ⟨_,H,.same <| .pick x y z ho b hb,zO (k:=fun c=>K c H) h⟩
  ·exact h.elim
 ·rename_i t ho;split at h
  ·rename_i cs hz;have h:=qV (k:=fun cs=>q9 cs.length fun n=>q9 H.length fun m=>jX (H++[⟨1,t,n,[cs],0⟩]) fun H'=>K (.ref m [] n 0 0) H') h;have h:=qn (k:=fun n=>q9 H.length fun m=>jX (H++[⟨1,t,n,[cs],0⟩]) fun H'=>K (.ref m [] n 0 0) H') h;have h:=qn (k:=fun m=>jX (H++[⟨1,t,cs.length,[cs],0⟩]) fun H'=>K (.ref m [] cs.length 0 0) H') h;exact ⟨_,_,.zng (.alloc t ho hz) _ (fun e=>by cases e) rfl,qV (k:=fun H'=>K (.ref H.length [] cs.length 0 0) H') h⟩
  ·exact h.elim
 ·rename_i t x ho;obtain ⟨h0,h⟩:=zU h;have h:=qD (fun _ _ h=>zO h) (k:=fun cs=>q9 cs.length fun n=>q9 H.length fun m=>jX (H++[⟨1,t,n,[cs],0⟩]) fun H'=>K (.ref m [] n 0 0) H') h;have h:=qn (k:=fun n=>q9 H.length fun m=>jX (H++[⟨1,t,n,[(ρ x).cells],0⟩]) fun H'=>K (.ref m [] n 0 0) H') h;have h:=qn (k:=fun m=>jX (H++[⟨1,t,(ρ x).cells.length,[(ρ x).cells],0⟩]) fun H'=>K (.ref m [] (ρ x).cells.length 0 0) H') h;exact ⟨_,_,.zng (.box t x ho h0) _ (fun e=>by cases e) rfl,qV (k:=fun H'=>K (.ref H.length [] (ρ x).cells.length 0 0) H') h⟩
 ·rename_i t x f ho;obtain ⟨c,h1,h2⟩:=zek ho h;exact ⟨c,H,h1 H,h2⟩
 ·rename_i t x y ho;obtain ⟨c,h1,h2⟩:=zer (ρ:=fun x=>asL (ρ x)) ho h;exact ⟨c,H,(h1 H).asL,h2⟩
 ·rename_i t x y ho;obtain ⟨c,h1,h2⟩:=zes ho h;exact ⟨c,H,h1 H,h2⟩
 ·rename_i t x f ho;obtain ⟨c,h1,h2⟩:=zel ho h;exact ⟨c,H,h1 H,h2⟩
 ·rename_i t x ho;obtain ⟨c,h1,h2⟩:=zah h;exact ⟨c,H,.same <| .load t x ho h1,h2⟩
 ·rename_i t x y ho;split at h
  ·obtain ⟨H',h1,h2⟩:=zeN h;exact ⟨_,H',.ztw t x y ho h1,h2⟩
  ·obtain ⟨H',h1,h2⟩:=zeN h;exact ⟨_,H',.of0 (.store t x y ho h1) (zeL h1),h2⟩
 ·rename_i x n ho;split at h
  ·rename_i vs hx;split at h
   ·rename_i c hc;exact ⟨c,H,.same <| .extract x n ho hx hc,zO (k:=fun c=>K c H) (q6 (k:=fun c=>qE c fun c=>K c H) h)⟩
   ·exact h.elim
  ·exact h.elim
 ·rename_i x ho;exact ⟨_,H,.same <| .nilCheck x ho (zU h).1,zO (k:=fun c=>K c H) (zU h).2⟩
 ·rename_i f first caps ho;split at h
  ·have h:=qD (fun _ _ h=>zO h) h;exact ⟨_,H,.same <| .makeFunc _ first caps ho,qD (fun _ _ h=>zO h) (k:=fun b=>K (.fn _ (first.toList.map ρ) b) H) h⟩
  ·exact h.elim
 ·rename_i t parts ho;obtain ⟨cs,hc,h⟩:=zec h;exact ⟨_,H,.same <| .build t parts ho hc,h⟩
 ·rename_i t x ho;split at h
  ·rename_i d hd;obtain ⟨h1,h2⟩:=zU h;exact ⟨_,H,.zoe t x ho hd h1,zO (k:=fun c=>K (.ifc t c) H) h2⟩
  ·exact h.elim
 ·rename_i x xT t ok ho
  replace h:=zU h
  obtain ⟨h1,h⟩:=h;subst h1;split at h
  ·rename_i t' c hx;split at h
   ·rename_i d hd;split at h
    ·rename_i he;obtain rfl:t'=t:=by simpa using he
     exact ⟨_,H,.znx x xT t' ho hx hd (zU h).1,(zU h).2⟩
    ·rename_i he;split at h
     ·rename_i i hi;have h2:=(zU h).1;rw [Bool.and_eq_true] at h2;exact ⟨_,H,.zpl x xT t ho hx he hd h2.1 hi h2.2,(zU h).2⟩
     ·exact h.elim
   ·exact h.elim
  ·exact h.elim
 ·rename_i t len parts ho;split at h
  ·rename_i c hc;split at h
   ·rename_i o' sz rows;have h:=qD (fun _ _ h=>qD (fun _ _ h=>zO h) h) (k:=fun rows=>q9 sz fun sz=>K (.lst o' sz rows) H) h;exact ⟨_,H,.same <| (qB.buildSlice (ρ:=fun z=>kL (ρ z)) t len parts ho hc).weaken fun z E v hl=>zgw hl,qn (k:=fun sz=>K (.lst o' sz rows) H) h⟩
   ·exact h.elim
  ·exact h.elim
 ·rename_i t x lo hi mx ho;obtain ⟨c,h1,h2⟩:=zeJ (ρ:=fun x=>asL (ρ x)) ho h;exact ⟨c,H,(h1 H).asL,h2⟩
 ·rename_i t x y ho;exact zlP ho h
 ·exact h
 ·exact h
 ·exact h
 ·exact h
 ·rename_i cl ho;exact zkY ho h
 ·rename_i op t x y t' ho;split at h
  ·rename_i xs ys hx hy;obtain ⟨h1,h⟩:=h;simp only [Bool.and_eq_true,Bool.not_eq_true'] at h1;split at h
   ·rename_i b hb;split at h
    ·exact ⟨_,H,.same <| .zcS .eql t t' x y ho (.inl rfl) h1.1 h1.2 hx hy hb,q6 (k:=fun c=>K c H) h⟩
    ·exact ⟨_,H,.same <| .zcS .neq t t' x y ho (.inr rfl) h1.1 h1.2 hx hy hb,q6 (k:=fun c=>K c H) h⟩
    ·exact h.elim
   ·exact h.elim
  ·rename_i s s' hx hy;obtain ⟨⟨a⟩⟩:=s;obtain ⟨⟨b⟩⟩:=s';obtain ⟨c,h1,h2⟩:=zhR ho hx hy h;exact ⟨c,H,h1 H,h2⟩
  ·obtain ⟨c,h1,h2⟩:=vF h;exact ⟨c,H,h1 H,h2⟩
 ·rename_i src dst x ho;obtain ⟨c,h1,h2⟩:=zfA ho h;exact ⟨c,H,h1 H,h2⟩
 ·split at h
  ·rename_i v e;obtain ⟨h1,h2⟩:=zU h;simp only [Bool.and_eq_true,Array.all_toList] at h1;exact ⟨.v v,H,.same <| .scalar h1.1.1 h1.1.2 e h1.2,zhz (k:=fun c=>K c H) h2⟩
  ·exact h.elim
 ·obtain ⟨c,h1,h2⟩:=vF h;exact ⟨c,H,h1 H,h2⟩
end
def zgC (calls:Bool) (o:Oper):Bool:=
 match o.op with
 | .alloc _ | .box .. | .store .. | .makeSlice .. | .makeMap .. | .mapUpdate .. | .insert .. | .mapEntry .. | .entryStore ..=>true
 | .call cl=>match cl.callee with
  | .builtin .len=>false
  | .builtin _=>true
  | _=>calls
 | _=>false
def xh (o:Oper):Bool:=
 match o.op with
 | .move _ | .assign _ | .pick .. | .fieldAddr .. | .indexAddr .. | .extract .. | .nilCheck _ | .makeFunc .. | .build .. | .buildSlice .. | .slice .. | .index .. | .field .. | .binOp .. | .unOp .. | .convert ..=>true
 | .call cl=>match cl.callee with
  | .builtin .len=>true
  | _=>false
 | _=>false
section
variable {P:Program} {o:Oper} {ρ:Operand->C} {H:zk} {K:C->zk->Prop}
theorem zeK (hb:xh o=true) (h:zaw P H ρ o K):∃ c,(∀ H2,OpV P o ρ H2 c H2)∧K c H:=by
 unfold zaw at h;split at h
 ·rename_i x ho;exact ⟨_,fun H2=>.same <| .move x (.inl ho),zO (k:=fun c=>K c H) h⟩
 ·rename_i x ho;exact ⟨_,fun H2=>.same <| .move x (.inr ho),zO (k:=fun c=>K c H) h⟩
 ·rename_i x y z ho;split at h
  ·rename_i b hb;exact ⟨_,fun H2=>.same <| .pick x y z ho b hb,zO (k:=fun c=>K c H) h⟩
  ·exact h.elim
 ·rename_i t ho;simp [xh,ho] at hb
 ·rename_i t x ho;simp [xh,ho] at hb
 ·rename_i t x f ho;exact zek ho h
 ·rename_i t x y ho;obtain ⟨c,h1,h2⟩:=zer (ρ:=fun x=>asL (ρ x)) ho h;exact ⟨c,fun H2=>(h1 H2).asL,h2⟩
 ·rename_i t x y ho;exact zes ho h
 ·rename_i t x f ho;exact zel ho h
 ·rename_i t x ho;simp [xh,ho] at hb
 ·rename_i t x y ho;simp [xh,ho] at hb
 ·rename_i x n ho;split at h
  ·rename_i vs hx;split at h
   ·rename_i c hc;exact ⟨c,fun H2=>.same <| .extract x n ho hx hc,zO (k:=fun c=>K c H) (q6 (k:=fun c=>qE c fun c=>K c H) h)⟩
   ·exact h.elim
  ·exact h.elim
 ·rename_i x ho;exact ⟨_,fun H2=>.same <| .nilCheck x ho (zU h).1,zO (k:=fun c=>K c H) (zU h).2⟩
 ·rename_i f first caps ho;split at h
  ·have h:=qD (fun _ _ h=>zO h) h;exact ⟨_,fun H2=>.same <| .makeFunc _ first caps ho,qD (fun _ _ h=>zO h) (k:=fun b=>K (.fn _ (first.toList.map ρ) b) H) h⟩
  ·exact h.elim
 ·rename_i t parts ho;obtain ⟨cs,hc,h⟩:=zec h;exact ⟨_,fun H2=>.same <| .build t parts ho hc,h⟩
 ·rename_i t x ho;simp [xh,ho] at hb
 ·rename_i x xT t ok ho;simp [xh,ho] at hb
 ·rename_i t len parts ho;split at h
  ·rename_i c hc;split at h
   ·rename_i o' sz rows;have h:=qD (fun _ _ h=>qD (fun _ _ h=>zO h) h) (k:=fun rows=>q9 sz fun sz=>K (.lst o' sz rows) H) h;exact ⟨_,fun H2=>.same <| (qB.buildSlice (ρ:=fun z=>kL (ρ z)) t len parts ho hc).weaken fun z E v hl=>zgw hl,qn (k:=fun sz=>K (.lst o' sz rows) H) h⟩
   ·exact h.elim
  ·exact h.elim
 ·rename_i t x lo hi mx ho;obtain ⟨c,h1,h2⟩:=zeJ (ρ:=fun x=>asL (ρ x)) ho h;exact ⟨c,fun H2=>(h1 H2).asL,h2⟩
 ·rename_i t x y ho;simp [xh,ho] at hb
 ·rename_i ho;simp [xh,ho] at hb
 ·rename_i ho;simp [xh,ho] at hb
 ·rename_i ho;simp [xh,ho] at hb
 ·rename_i ho;simp [xh,ho] at hb
 ·rename_i cl ho
  have hc:cl.callee=.builtin .len:=by
   simp only [xh,ho] at hb;split at hb
   ·assumption
   ·cases hb
  have hns:xn o=true:=by simp [xn,ho]
  unfold zmS at h;rw [hc] at h;dsimp only at h;split at h
  ·rename_i x t hx ht;split at h
   ·rename_i e hu;split at h
    ·rename_i n hn;exact ⟨_,fun H2=>.asL (ρ:=ρ) <| .same <| .len cl ho hc x (Array.xP hx) (Array.xP ht) hu hn,h⟩
    ·exact h.elim
   ·rename_i hu;split at h
    ·rename_i s hs;obtain ⟨⟨b⟩⟩:=s;exact ⟨_,fun H2=>.same <| .zqL cl ho hc x (Array.xP hx) (Array.xP ht) hu hs,h⟩
    ·exact h.elim
   ·split at h
    ·rename_i v e;obtain ⟨h1,h2⟩:=zU h;simp only [Bool.and_eq_true,Array.all_toList] at h1;exact ⟨.v v,fun H2=>.same <| .scalar hns h1.1 e h1.2,q6 (k:=fun c=>K c H) h2⟩
    ·exact h.elim
  ·exact h.elim
 ·rename_i op t x y t' ho;split at h
  ·rename_i xs ys hx hy;obtain ⟨h1,h⟩:=h;simp only [Bool.and_eq_true,Bool.not_eq_true'] at h1;split at h
   ·rename_i b hb;split at h
    ·exact ⟨_,fun H2=>.same <| .zcS .eql t t' x y ho (.inl rfl) h1.1 h1.2 hx hy hb,q6 (k:=fun c=>K c H) h⟩
    ·exact ⟨_,fun H2=>.same <| .zcS .neq t t' x y ho (.inr rfl) h1.1 h1.2 hx hy hb,q6 (k:=fun c=>K c H) h⟩
    ·exact h.elim
   ·exact h.elim
  ·rename_i s s' hx hy;obtain ⟨⟨a⟩⟩:=s;obtain ⟨⟨b⟩⟩:=s';exact zhR ho hx hy h
  ·exact vF h
 ·rename_i src dst x ho;exact zfA ho h
 ·split at h
  ·rename_i v e;obtain ⟨h1,h2⟩:=zU h;simp only [Bool.and_eq_true,Array.all_toList] at h1;exact ⟨.v v,fun H2=>.same <| .scalar h1.1.1 h1.1.2 e h1.2,zhz (k:=fun c=>K c H) h2⟩
  ·exact h.elim
 ·exact vF h
end
section
variable {P:Program} {B:Nat} {ops:Array Oper} {md:Region.Mode} {Hs:Nat->zk} {eff:Nat->Bool} {idx:Nat->Nat} {inR:Nat->Nat->Bool}
def za3 (md:Region.Mode) (ms:List Nat) (o:Oper):List Nat:=
 ms++[o.after.toList.foldl (fun m e=>if Region.binds md e then m ||| (1 <<< e.on) ||| (ms[e.on]?).getD 0 else m) 0]
def wJ (md:Region.Mode) (ops:Array Oper):List Nat:=ops.toList.foldl (za3 md) []
def zeY (md:Region.Mode) (ops:Array Oper) (ms:List Nat) (j i:Nat):Bool:=Nat.testBit ((ms[j]?).getD 0) i
theorem zhB {md:Region.Mode} {ms:List Nat} {i:Nat}:∀ {l:List Edge} {m0:Nat},Nat.testBit (l.foldl (fun m e=>if Region.binds md e then m ||| (1 <<< e.on) ||| (ms[e.on]?).getD 0 else m) m0) i=true->
  Nat.testBit m0 i=true∨∃ e ∈ l,Region.binds md e=true∧(e.on=i∨Nat.testBit ((ms[e.on]?).getD 0) i=true)
 | [],m0,h=>.inl h
 | e::l,m0,h=>by
  rw [List.foldl_cons] at h;rcases zhB h with h1 | ⟨e',h1,h2⟩
  ·split at h1
   ·rename_i hb;simp only [Nat.testBit_or,Bool.or_eq_true] at h1;rcases h1 with (h1 | h1) | h1
    ·exact .inl h1
    ·refine .inr ⟨e,by simp,hb,.inl ?_⟩;rw [Nat.testBit_shiftLeft] at h1;simp only [Bool.and_eq_true,decide_eq_true_eq] at h1;obtain ⟨h2,h3⟩:=h1;have:=Nat.testBit_one_eq_true_iff_self_eq_zero.1 h3;omega
    ·exact .inr ⟨e,by simp,hb,.inr h1⟩
   ·exact .inl h1
  ·exact .inr ⟨e',by simp [h1],h2⟩
def zaF (md:Region.Mode) (l:List Oper) (ms:List Nat):Prop:=ms.length=l.length∧∀ (j i:Nat),Nat.testBit ((ms[j]?).getD 0) i=true->
  ∃ oj,l[j]?= some oj∧∃ e ∈ oj.after,Region.binds md e=true∧(e.on=i∨(e.on < j∧Nat.testBit ((ms[e.on]?).getD 0) i=true))
theorem zaF.step {md:Region.Mode} {l:List Oper} {ms:List Nat} (h0:zaF md l ms) (o:Oper):zaF md (l++[o]) (za3 md ms o):=by
 obtain ⟨ih1,ih2⟩:=h0;refine ⟨by simp [za3,ih1],?_⟩;intro j i h;unfold za3 at h ⊢;by_cases hj:j < ms.length
 ·rw [List.getElem?_append_left hj] at h;obtain ⟨oj,h1,e,h2,h3,h4⟩:=ih2 j i h;refine ⟨oj,by rw [List.getElem?_append_left (by omega)];exact h1,e,h2,h3,h4.imp id fun ⟨h5,h6⟩=>⟨h5,?_⟩⟩;rw [List.getElem?_append_left (by omega)];exact h6
 ·rw [List.getElem?_append_right (by omega)] at h
  have hj0:j - ms.length=0:=by
   rcases Nat.eq_zero_or_pos (j - ms.length) with h0 | h0
   ·exact h0
   ·rw [List.getElem?_eq_none (by simp;omega)] at h;simp at h
  rw [hj0] at h;simp only [List.getElem?_cons_zero,Option.getD_some] at h;rcases zhB h with h1 | ⟨e,h1,h2,h3⟩
  ·simp at h1
  ·refine ⟨o,by rw [List.getElem?_append_right (by omega),<- ih1,hj0];rfl,e,by simpa using h1,h2,h3.imp id fun h4=>?_⟩
   have hlt:e.on < ms.length:=by
    rcases Nat.lt_or_ge e.on ms.length with h5 | h5
    ·exact h5
    ·rw [List.getElem?_eq_none h5] at h4;simp at h4
   exact ⟨by omega,by rw [List.getElem?_append_left hlt];exact h4⟩
theorem zaF.fold {md:Region.Mode}:∀ {l pre:List Oper} {ms:List Nat},zaF md pre ms->zaF md (pre++l) (l.foldl (za3 md) ms)
 | [],pre,ms,h=>by simpa using h
 | o::l,pre,ms,h=>by
  have:=(h.step o).fold (l:=l);simpa using this
theorem zf3 {md:Region.Mode} (ops:Array Oper):zaF md ops.toList (wJ md ops):=by
 have:=zaF.fold (md:=md) (l:=ops.toList) (pre:=[]) (ms:=[]) ⟨rfl,by simp⟩;simpa [wJ] using this
def Down (md:Region.Mode) (ops:Array Oper) (listed:Array Bool):Prop:=∀ j oj,ops[j]?= some oj->listed.getD j false=true->∀ e ∈ oj.after,Region.binds md e=true->listed.getD e.on false=true
theorem Down.start:Down md ops (Array.replicate ops.size false):=fun j oj _ h=>by
 exfalso
 rw [Array.getD_eq_getD_getElem?,Array.getElem?_replicate] at h;split at h <;> simp at h
theorem Down.dep {listed:Array Bool} (hd:Down md ops listed) (j i:Nat) (hj:listed.getD j false=true) (h:zeY md ops (wJ md ops) j i=true):listed.getD i false=true:=by
 induction j using Nat.strongRecOn with
 | _ j ih=>
  obtain ⟨oj,h1,e,h2,h3,h4⟩:=(zf3 (md:=md) ops).2 j i h;have h5:=hd j oj tE hj e h2 h3;rcases h4 with rfl | ⟨h6,h7⟩
  ·exact h5
  ·exact ih e.on h6 h5 h7
theorem Down.ready {listed:Array Bool} (hd:Down md ops listed) {j i:Nat} (hj:j ∈ Region.ready md ops listed) (h:zeY md ops (wJ md ops) j i=true):listed.getD i false=true:=by
 obtain ⟨_,oj,ho,z5⟩:=mem_ready.1 hj;obtain ⟨oj',h1,e,h2,h3,h4⟩:=(zf3 (md:=md) ops).2 j i h
 have e1:oj'=oj:=by
  have:ops[j]?= some oj':=by simpa using h1
  rw [ho] at this;cases this
  rfl
 subst e1;have h5:=z5 e h2 h3;rcases h4 with rfl | ⟨h6,h7⟩
 ·exact h5
 ·exact hd.dep e.on i h5 h7
theorem Down.step {listed:Array Bool} (hd:Down md ops listed) {i:Nat} (hi:i ∈ Region.ready md ops listed):Down md ops (listed.setIfInBounds i true):=fun j oj ho hj e he hb=>by
 by_cases hji:i=j
 ·subst hji;obtain ⟨_,oi,ho',z5⟩:=mem_ready.1 hi;rw [ho] at ho';cases ho'
  exact getD_set_true (z5 e he hb)
 ·rw [getD_set_ne false hji] at hj;exact getD_set_true (hd j oj ho hj e he hb)
def QA (P:Program) (ops:Array Oper) (Hs:Nat->zk) (r:Nat->Bool) (o:Oper) (c:C) (t:List C):Prop:=
 (ju ops t o=some true∧∀ k,r k=true->OpV P o (ev t) (Hs k) c (Hs k))∨(ju ops t o=some false∧c=.un)
def EA (P:Program) (ops:Array Oper) (H H':zk) (o:Oper) (c:C) (t:List C):Prop:=
 (ju ops t o=some true∧OpV P o (ev t) H c H')∨(ju ops t o=some false∧c=.un∧H'=H)
theorem QA.put {r:Nat->Bool} {o:Oper} {c x:C} {t:List C} {dst:Option Tmp} (h:∀ d,dst=some d->d ∉ o.looksAt ops):QA P ops Hs r o c (put t dst x)↔QA P ops Hs r o c t:=by
 unfold QA;rw [yB h];constructor
 ·rintro (⟨h1,h2⟩ | h1)
  ·exact .inl ⟨h1,fun k hk=>(OpV.put h).1 (h2 k hk)⟩
  ·exact .inr h1
 ·rintro (⟨h1,h2⟩ | h1)
  ·exact .inl ⟨h1,fun k hk=>(OpV.put h).2 (h2 k hk)⟩
  ·exact .inr h1
theorem EA.put {H H':zk} {o:Oper} {c x:C} {t:List C} {dst:Option Tmp} (h:∀ d,dst=some d->d ∉ o.looksAt ops):EA P ops H H' o c (put t dst x)↔EA P ops H H' o c t:=by
 unfold EA;rw [yB h,OpV.put h]
def zq0 (P:Program) (ops:Array Oper) (Hs:Nat->zk) (eff:Nat->Bool) (idx:Nat->Nat) (inR:Nat->Nat->Bool) (i:Nat) (o:Oper) (c:C) (n':Nat) (t:List C) (n:Nat):Prop:=
 (eff i=false∧inR i n=true∧QA P ops Hs (inR i) o c t∧n'=n)∨(eff i=true∧idx i=n∧EA P ops (Hs n) (Hs (n+1)) o c t∧n'=n+1)
def zb1 (P:Program) (ops:Array Oper) (Hs:Nat->zk) (eff:Nat->Bool) (idx:Nat->Nat) (inR:Nat->Nat->Bool) (i:Nat) (K:List C->Nat->Prop) (t:List C) (n:Nat):Prop:=
 match ops[i]? with
 | none=>K t n
 | some o=>∃ c n',zq0 P ops Hs eff idx inR i o c n' t n∧K (put t o.dst c) n'
theorem znm {i:Nat} {t:List C} {n:Nat} {K K':List C->Nat->Prop} (h:∀ t n,K t n->K' t n) (hh:zb1 P ops Hs eff idx inR i K t n):zb1 P ops Hs eff idx inR i K' t n:=by
 unfold zb1 at *;split
 ·exact h _ _ (by simpa [*] using hh)
 ·rename_i o ho;simp only [ho] at hh;obtain ⟨c,n',h1,h2⟩:=hh;exact ⟨c,n',h1,h _ _ h2⟩
def zdu (P:Program) (ops:Array Oper) (Hs:Nat->zk) (eff:Nat->Bool) (idx:Nat->Nat) (inR:Nat->Nat->Bool) (Q:List C->Nat->Prop):List Oper->Nat->List C->Nat->Prop
 | [],_,t,n=>Q t n
 | _::l,k,t,n=>zb1 P ops Hs eff idx inR k (zdu P ops Hs eff idx inR Q l (k+1)) t n
def zpf (P:Program) (md:Region.Mode) (ops:Array Oper) (Hs:Nat->zk) (eff:Nat->Bool) (idx:Nat->Nat) (inR:Nat->Nat->Bool) (Q:List C->Nat->Prop):Nat->Array Bool->List C->Nat->Prop
 | 0,listed,t,n=>Region.ready md ops listed=[]∧Q t n
 | fuel+1,listed,t,n=>(Region.ready md ops listed=[]->Q t n)∧∀ i ∈ Region.ready md ops listed,zb1 P ops Hs eff idx inR i (zpf P md ops Hs eff idx inR Q fuel (listed.setIfInBounds i true)) t n
theorem xR {q:Option Nat} {m:Nat} {H0:zk} {Q:List C->Nat->Prop} {w0:World} {E0:Env} {Q':Exit->Act->World->Prop} (hQ:∀ t n w E a,Q t n->xx B m w E ⟨t,Hs n⟩ a->jn B w0 E0 H0 w E (Hs n)->Q' .normal a w):
  ∀ (fuel:Nat) (listed:Array Bool) (t:List C) (n:Nat) (w:World) (E:Env) (a:Act),xx B m w E ⟨t,Hs n⟩ a->jn B w0 E0 H0 w E (Hs n)->zpf P md ops Hs eff idx inR Q fuel listed t n->wpAnyIn (fw q) 0 P md ops Q' fuel listed a w
 | 0,_,t,n,w,E,a,hs,hg,h=>⟨h.1,hQ t n w E a h.2 hs hg⟩
 | fuel+1,listed,t,n,w,E,a,hs,hg,h=>⟨fun h0=>hQ t n w E a (h.1 h0) hs hg,fun i hi=>by
   have h1:=h.2 i hi;unfold zb1 at h1;unfold wpOpIn;split
   ·rename_i ho;simp only [ho] at h1;exact xR hQ fuel _ t n w E a hs hg h1
   ·rename_i o ho;simp only [ho] at h1;obtain ⟨c,n',hf,hK⟩:=h1;rcases hf with ⟨_,hin,⟨hw,hv⟩ | ⟨hw,rfl⟩,rfl⟩ | ⟨_,_,⟨hw,hv⟩ | ⟨hw,rfl,he⟩,rfl⟩
    ·rw [if_pos (jD hs.tmps hw)];exact zbO.ziI (s:=⟨t,Hs n'⟩) (hv _ hin) q m w E a _ Q' hs fun w' E' a' h2 g2=>xR hQ fuel _ (put t o.dst c) n' w' E' a' h2 (hg.trans g2) hK
    ·rw [if_neg (by rw [jD hs.tmps hw];decide)];exact ⟨fun _ _=>trivial,xR hQ fuel _ (put t o.dst .un) n' w E _ (hs.put .un o.dst) hg hK⟩
    ·rw [if_pos (jD hs.tmps hw)];exact zbO.ziI (s:=⟨t,Hs n⟩) hv q m w E a _ Q' hs fun w' E' a' h2 g2=>xR hQ fuel _ (put t o.dst c) (n+1) w' E' a' h2 (hg.trans g2) hK
    ·rw [if_neg (by rw [jD hs.tmps hw];decide)];have hs':=hs.put .un o.dst;exact ⟨fun _ _=>trivial,xR hQ fuel _ (put t o.dst .un) (n+1) w E _ (by rw [he];exact hs') (by rw [he];exact hg) hK⟩⟩
structure znr (md:Region.Mode) (ops:Array Oper) (eff:Nat->Bool) (idx:Nat->Nat) (inR:Nat->Nat->Bool) (i j:Nat):Prop where
 c1:eff i=false->eff j=true->zeY md ops (wJ md ops) j i=false->inR i (idx j)=true->inR i (idx j+1)=true
 c2:eff i=true->eff j=false->zeY md ops (wJ md ops) j i=false->inR j (idx i+1)=true->inR j (idx i)=true
theorem znn {i j:Nat} {oi oj:Oper} {c:C} {n ni:Nat} (hj:ops[j]?= some oj) (hap:oi.apart ops oj=true) (he:eff i=true->eff j=false) (hp:znr md ops eff idx inR i j) (hno:zeY md ops (wJ md ops) j i=false) {K:List C->Nat->Prop} {t:List C}
  (hf:zq0 P ops Hs eff idx inR i oi c ni t n) (h:zb1 P ops Hs eff idx inR j K (put t oi.dst c) ni):
  zb1 P ops Hs eff idx inR j (fun t' n'=>∃ n2,zq0 P ops Hs eff idx inR i oi c n2 t' n'∧K (put t' oi.dst c) n2) t n:=by
 obtain ⟨h1,h2,h3⟩:=Oper.apart_spec hap;unfold zb1 at *;simp only [hj] at *;obtain ⟨cj,nj,hfj,hK⟩:=h;rw [put_comm _ _ h2] at hK;rcases hf with ⟨e1,e2,e3,rfl⟩ | ⟨e1,e2,e3,rfl⟩
 ·rcases hfj with ⟨f1,f2,f3,rfl⟩ | ⟨f1,f2,f3,rfl⟩
  ·exact ⟨cj,nj,.inl ⟨f1,f2,(QA.put h1).1 f3,rfl⟩,nj,.inl ⟨e1,e2,(QA.put h3).2 e3,rfl⟩,hK⟩
  ·refine ⟨cj,ni+1,.inr ⟨f1,f2,(EA.put h1).1 f3,rfl⟩,ni+1,.inl ⟨e1,?_,(QA.put h3).2 e3,rfl⟩,hK⟩;rw [<- f2];exact hp.c1 e1 f1 hno (by rw [f2];exact e2)
 ·rcases hfj with ⟨f1,f2,f3,rfl⟩ | ⟨f1,f2,f3,rfl⟩
  ·refine ⟨cj,n,.inl ⟨f1,?_,(QA.put h1).1 f3,rfl⟩,n+1,.inr ⟨e1,e2,(EA.put h3).2 e3,rfl⟩,hK⟩;rw [<- e2];exact hp.c2 e1 f1 hno (by rw [e2];exact f2)
  ·rw [he e1] at f1;cases f1
theorem zkJ {Q:List C->Nat->Prop} {i:Nat} {oi:Oper} {c:C} (hi:ops[i]?= some oi):
  ∀ (fuel:Nat) (listed:Array Bool) (t:List C) (n ni:Nat),Down md ops listed->
   (∀ j oj,ops[j]?= some oj->j≠i->listed.getD j true=false->(∀ e ∈ oj.after,Region.binds md e=true->e.on≠i)->oi.apart ops oj=true∧(eff i=true->eff j=false)∧znr md ops eff idx inR i j)->
   i ∈ Region.ready md ops listed->zq0 P ops Hs eff idx inR i oi c ni t n->
   zpf P md ops Hs eff idx inR Q fuel (listed.setIfInBounds i true) (put t oi.dst c) ni->zpf P md ops Hs eff idx inR Q (fuel+1) listed t n:=by
 intro fuel
 induction fuel with
 | zero=>
  intro listed t n ni _ _ hr hy H;refine ⟨fun h=>(by rw [h] at hr;cases hr),fun j hj=>?_⟩;by_cases hji:j=i
  ·subst hji;unfold zb1;simp only [hi];exact ⟨c,ni,hy,H⟩
  ·have:=ready_mono hj hji;rw [H.1] at this;cases this
 | succ fuel ih=>
  intro listed t n ni hdown hfree hr hy H;refine ⟨fun h=>(by rw [h] at hr;cases hr),fun j hj=>?_⟩;by_cases hji:j=i
  ·subst hji;unfold zb1;simp only [hi];exact ⟨c,ni,hy,H⟩
  ·have h1:=H.2 j (ready_mono hj hji);obtain ⟨hjun,oj,hoj,z5⟩:=mem_ready.1 hj
   have hiun:listed.getD i false=false:=by
    have h0:=(mem_ready.1 hr).1;rcases Nat.lt_or_ge i listed.size with h' | h'
    ·simp [h'] at h0 ⊢;exact h0
    ·simp [Array.getElem?_eq_none h']
   have hnot:∀ e ∈ oj.after,Region.binds md e=true->e.on≠i:=fun e he hb heq=>by
    have h1:=z5 e he hb;rw [heq,hiun] at h1;cases h1
   have hno:zeY md ops (wJ md ops) j i=false:=by
    cases hd:zeY md ops (wJ md ops) j i with
    | false=>rfl
    | true=>have:=hdown.ready hj hd;rw [hiun] at this;cases this
   obtain ⟨hap,hee,hp⟩:=hfree j oj hoj hji hjun hnot;have h2:=znn hoj hap hee hp hno hy h1
   have hfree':∀ k ok,ops[k]?= some ok->k≠i->(listed.setIfInBounds j true).getD k true=false->
     (∀ e ∈ ok.after,Region.binds md e=true->e.on≠i)->oi.apart ops ok=true∧(eff i=true->eff k=false)∧znr md ops eff idx inR i k:=fun k ok hk hki hun hno=>by
    refine hfree k ok hk hki ?_ hno;by_cases hjk:j=k
    ·subst hjk;exact hjun
    ·rw [getD_set_ne true hjk] at hun;exact hun
   refine znm (fun t' n' ⟨n2,h3,h4⟩=>ih (listed.setIfInBounds j true) t' n' n2 (hdown.step hj) hfree' (ready_mono hr (Ne.symm hji)) h3 ?_) h2;rw [Array.setIfInBounds_comm _ _ hji];exact h4
theorem zjc {Q:List C->Nat->Prop} (hE:zjo md ops eff=true) (hP:∀ i j,znr md ops eff idx inR i j):∀ (l:List Oper) (k:Nat) (listed:Array Bool) (t:List C) (n:Nat),Down md ops listed->(∀ j,l[j]?= ops[k+j]?)->(∀ j,j < k->listed.getD j true=true)->
  Region.lexFrom md ops l.length k listed=true->zdu P ops Hs eff idx inR Q l k t n->zpf P md ops Hs eff idx inR Q l.length listed t n
 | [],_,_,_,_,_,_,_,hB,h=>⟨by simpa [Region.lexFrom] using hB,h⟩
 | o::l,k,listed,t,n,hd,hl,hk,hB,h=>by
  have h0:ops[k]?= some o:=by simpa using (hl 0).symm
  simp only [List.length_cons,Region.lexFrom,Bool.and_eq_true] at hB;obtain ⟨⟨hr,hf⟩,hB'⟩:=hB;have h':zb1 P ops Hs eff idx inR k (zdu P ops Hs eff idx inR Q l (k+1)) t n:=h;unfold zb1 at h';simp only [h0] at h';obtain ⟨c,n',hfst,hK⟩:=h';have hr':k ∈ Region.ready md ops listed:=by simpa using hr
  refine zkJ h0 l.length listed t n n' hd (fun j oj hj hne hun hno=>⟨Region.free_spec h0 hf j oj hj hne hun hno,fun he=>?_,hP k j⟩) hr' hfst
   (zjc hE hP l (k+1) _ _ _ (hd.step hr') (fun j=>by have:=hl (j+1);simpa [Nat.add_assoc,Nat.add_comm 1 j] using this) ?_ hB' hK)
  ·refine zhk hE he ?_ hj hno;rcases Nat.lt_trichotomy j k with hlt | heq | hlt
   ·rw [hk j hlt] at hun;cases hun
   ·exact absurd heq hne
   ·exact hlt
  ·intro j hj;by_cases hjk:k=j
   ·subst hjk;by_cases hlt:k < listed.size
    ·simp [hlt]
    ·simp [hlt]
   ·rw [getD_set_ne true hjk];exact hk j (by omega)
theorem Run.ztM {id n':Nat} {t t':List C} {H:zk} (hm:P.follows .mixedOrders=true) (hB:Region.lexB .any ops=true) (hE:zjo .any ops eff=true) (hP:∀ i j,znr .any ops eff idx inR i j) (hH:Hs 0=H)
  (h:zdu P ops Hs eff idx inR (fun t n=>t=t'∧n=n') ops.toList 0 t 0):Run P B (.region id ops true) ⟨t,H⟩ .normal ⟨t',Hs n'⟩:=fun q m w E a Q _ hs hq=>by
 simp only [Region.lexB,Bool.and_eq_true] at hB;subst hH;refine wpIn_region_any hm (xR (Hs:=Hs) (eff:=eff) (idx:=idx) (inR:=inR) (H0:=Hs 0) (Q:=fun t n=>t=t'∧n=n') (w0:=w) (E0:=E) (fun t1 n1 w1 E1 a1 he h1 g1=>by obtain ⟨rfl,rfl⟩:=he;exact hq _ _ w1 E1 a1 ⟨rfl,rfl⟩ h1 g1) _ _ t 0 _ E a hs.drew ((Grow.drew w E (Hs 0)).toB tB) ?_);have:=zjc (Hs:=Hs) (eff:=eff) (idx:=idx) (inR:=inR) (Q:=fun t n=>t=t'∧n=n') (P:=P) (md:=.any) hE hP ops.toList 0 (Array.replicate ops.size false) t 0 Down.start (by simp) (fun j hj=>absurd hj (Nat.not_lt_zero j)) (by simpa using hB.2) h;simpa using this
structure zaA where
 calls:Bool
 bl:List Nat
 keep:List Nat:=[]
 calm:List Nat:=[]
def zf4:List Nat->Nat->Bool
 | [],_=>false
 | x::xs,k=>match Nat.beq x k with | true=>true | false=>zf4 xs k
def zaA.blind (T:zaA) (k:Nat):Bool:=zf4 T.bl k
def zaA.zcI (T:zaA) (k:Nat):Bool:=match T.calls with | true=>!zf4 T.calm k | false=>false
def kO (T:zaA) (ops:Array Oper) (i:Nat):Bool:=match ops[i]? with | some o=>zgC (T.zcI i) o && !T.blind i | none=>false
def xZ (T:zaA) (ops:Array Oper) (i:Nat):Nat:=((List.range i).filter (kO T ops)).length
def inS (T:zaA) (ops:Array Oper) (i k:Nat):Bool:=match ops[i]? with | some o=>(xh o || T.blind i) || k == xZ T ops i | none=>true
def zmu (md:Region.Mode) (T:zaA) (ops:Array Oper) (ms:List Nat):Bool:=
 zjo md ops (kO T ops) && (List.range ops.size).all fun i=>(List.range ops.size).all fun j=>
  (!(kO T ops j) || kO T ops i || inS T ops i (xZ T ops j+1) || !(inS T ops i (xZ T ops j)) || zeY md ops ms j i) &&
  (!(kO T ops i) || kO T ops j || inS T ops j (xZ T ops i) || !(inS T ops j (xZ T ops i+1)) || zeY md ops ms j i)
def zhU (md:Region.Mode) (T:zaA) (ops:Array Oper):Bool:=zmu md T ops (wJ md ops)
theorem zmv {T:zaA} (h:zhU md T ops=true) (i j:Nat):znr md ops (kO T ops) (xZ T ops) (inS T ops) i j:=by
 simp only [zhU,zmu,Bool.and_eq_true,List.all_eq_true,List.mem_range] at h
 have he:∀ i,kO T ops i=true->i < ops.size:=fun i hi=>by
  unfold kO at hi;split at hi
  ·rename_i o ho;exact (Array.getElem?_eq_some_iff.1 ho).1
  ·cases hi
 have hin:∀ i k,¬i < ops.size->inS T ops i k=true:=fun i k hi=>by
  unfold inS;rw [Array.getElem?_eq_none (by omega)]
 constructor
 ·intro h1 h2 h3 h4;by_cases hi:i < ops.size
  ·have:=(h.2 i hi j (he j h2)).1;simp only [h1,h2,h3,h4,Bool.not_true,Bool.false_or,Bool.or_false] at this;exact this
  ·exact hin i _ hi
 ·intro h1 h2 h3 h4;by_cases hj:j < ops.size
  ·have:=(h.2 i (he i h1) j hj).2;simp only [h1,h2,h3,h4,Bool.not_true,Bool.false_or,Bool.or_false] at this;exact this
  ·exact hin j _ hj
def zjN (o:Oper):Bool:=match o.op with | .load ..=>true | _=>false
theorem zgy {o:Oper} {ρ:Operand->C} {H:zk} {K:C->zk->Prop} (hb:zjN o=true) (h:zaw P H ρ o K):∃ c,OpV P o ρ H c H∧K c H:=by
 unfold zjN at hb;split at hb
 ·rename_i t x ho;unfold zaw at h;rw [ho] at h;dsimp only at h;obtain ⟨c,h1,h2⟩:=zah h;exact ⟨c,.same <| .load t x ho h1,h2⟩
 ·cases hb
def vG (keep:List Nat) (H H':zk):Prop:=∀ id,zf4 keep id=true->H'[id]?= H[id]?
theorem vG.refl (keep:List Nat) (H:zk):vG keep H H:=fun _ _=>rfl
theorem vG.trans {keep:List Nat} {H H' H'':zk} (h:vG keep H H') (h':vG keep H' H''):vG keep H H'':=fun id hi=>(h' id hi).trans (h id hi)
def zkc (H H':zk) (k:Prop):List Nat->Prop
 | []=>k
 | id::ids=>H'[id]?= H[id]?∧zkc H H' k ids
theorem zao {H H':zk} {k:Prop}:∀ {keep:List Nat},zkc H H' k keep->vG keep H H'∧k
 | [],h=>⟨fun id hi=>by simp [zf4] at hi,h⟩
 | x::xs,h=>by
  obtain ⟨h1,h2⟩:=h;obtain ⟨h3,h4⟩:=zao h2;refine ⟨fun id hi=>?_,h4⟩;unfold zf4 at hi;split at hi
  ·rename_i e;obtain rfl:=Nat.eq_of_beq_eq_true e;exact h1
  ·exact h3 id hi
theorem znP {H H':zk} {id:Nat} (h:H'[id]?= H[id]?) (hops:List Hop):zZ H' id hops=zZ H id hops:=by unfold zZ;rw [h]
theorem zlO {H H':zk} {t:TypeId} {id:Nat} {hops:List Hop} {sz i k:Nat} (h:H'[id]?= H[id]?):kG P H' t (.ref id hops sz i k)=kG P H t (.ref id hops sz i k):=by
 unfold kG za8;simp only [znP h]
def zh7 (P:Program) (keep:List Nat) (H:zk) (ρ:Operand->C) (o:Oper) (K:C->zk->Prop):Prop:=
 match o.op with
 | .load t x=>match ρ x with
  | .jG cells=>zjM P H t (.jG cells) fun c=>K c H
  | .ref id hops sz i k=>bK (zf4 keep id) <| zjM P H t (.ref id hops sz i k) fun c=>K c H
  | _=>False
 | .call cl=>match cl.callee with
  | .value x=>match ρ x with
   | .fn f first caps=>bK (qm P f) <| ∃ r,(∀ H2,zb P f H2 (first++(cl.args.toList.map fun x=>asL (ρ x))++caps) r H2)∧okB r fun r=>K r H
   | _=>False
  | _=>False
 | .makeSlice t x y=>match ρ x,ρ y with
  | .v (.int _ n),.v (.int _ n')=>match P.underlying t with
   | some (.slice e)=>match P.info? e with
    | some i=>match zaz P e with
     | some cs=>bK (cs.all q8) <| n'=n∧0<=n∧(i.bytes:Int) * n<=281474976710656∧n<=9223372036854775807∧q9 i.size fun sz=>K (.lst 0 sz (List.replicate n.toNat cs)) H
     | none=>False
    | none=>False
   | _=>False
  | _,_=>False
 | _=>False
theorem zeb {keep:List Nat} {o:Oper} {ρ:Operand->C} {H:zk} {K:C->zk->Prop} (h:zh7 P keep H ρ o K):∃ c,(∀ H2,vG keep H H2->OpV P o ρ H2 c H2)∧K c H:=by
 unfold zh7 at h;split at h
 ·rename_i t x ho;split at h
  ·rename_i cells hx;obtain ⟨c,h1,h2⟩:=zah h;refine ⟨c,fun H2 _=>.same <| .load t x ho ?_,h2⟩;rw [hx,<- h1]
   rfl
  ·rename_i id hops sz i k hx;obtain ⟨h0,h⟩:=zU h;obtain ⟨c,h1,h2⟩:=zah h;refine ⟨c,fun H2 hs=>.same <| .load t x ho ?_,h2⟩;rw [hx,<- h1];exact zlO (hs id h0)
  ·exact h.elim
 ·rename_i cl ho;split at h
  ·rename_i x hcl;split at h
   ·rename_i f first caps hf;obtain ⟨h1,r,h2,h3⟩:=zU h;exact ⟨r,fun H2 _=>.zpr cl ho x hcl hf h1 (h2 H2),q6 (k:=fun c=>K c H) h3⟩
   ·exact h.elim
  ·exact h.elim
 ·rename_i t x y ho;split at h
  ·rename_i k n k' n' hx hy;split at h
   ·rename_i e hu;split at h
    ·rename_i i hi;split at h
     ·rename_i cs hz;obtain ⟨h1,rfl,h2,h3,h4,h5⟩:=zU h;exact ⟨_,fun H2 _=>.same <| .zlQ t x y ho hu hi hz h1 hx hy h2 h3 h4,qn (k:=fun sz=>K (.lst 0 sz (List.replicate n'.toNat cs)) H) h5⟩
     ·exact h.elim
    ·exact h.elim
   ·exact h.elim
  ·exact h.elim
 ·exact h.elim
def zs7 (P:Program) (T:zaA) (ops:Array Oper) (o:Oper) (next:Nat->List C->zk->(List C->zk->Prop)->Prop) (k:Nat) (t:List C) (H:zk) (K:List C->zk->Prop):Prop:=
 match ju ops t o with
 | some true=>match T.blind k with
  | true=>zh7 P T.keep H (ev t) o fun c H'=>zdg t o.dst c fun t=>next (k+1) t H K
  | false=>match zgC (T.zcI k) o with
   | true=>zaw P H (ev t) o fun c H'=>zkc H H' (zdg t o.dst c fun t=>next (k+1) t H' K) T.keep
   | false=>match xh o || zjN o with
    | true=>zaw P H (ev t) o fun c H'=>zdg t o.dst c fun t=>next (k+1) t H' K
    | false=>zaw P H (ev t) o fun c H'=>H'=H∧zdg t o.dst c fun t=>next (k+1) t H K
 | some false=>zdg t o.dst .un fun t=>next (k+1) t H K
 | none=>False
def zdb (P:Program) (T:zaA) (ops:Array Oper) (l:List Oper):Nat->List C->zk->(List C->zk->Prop)->Prop:=
 List.rec (motive:=fun _=>Nat->List C->zk->(List C->zk->Prop)->Prop) (fun _ t H K=>K t H) (fun o _ next=>zs7 P T ops o next) l
theorem zoA (T:zaA) (o:Oper) (l:List Oper) (k:Nat) (t:List C) (H:zk) (K:List C->zk->Prop):zdb P T ops (o::l) k t H K=zs7 P T ops o (zdb P T ops l) k t H K:=rfl
theorem zhh (T:zaA) (k:Nat):xZ T ops (k+1)=xZ T ops k+if kO T ops k then 1 else 0:=by
 unfold xZ;rw [List.range_succ,List.filter_append,List.length_append];cases h:kO T ops k <;> simp [h]
theorem zge {T:zaA} {D:zk}:∀ {l:List Oper} {k:Nat} {t:List C} {H:zk} {K:List C->zk->Prop},(∀ j,l[j]?= ops[k+j]?)->vG T.keep H D->zdb P T ops l k t H K->
  ∃ (L:List zk) (t':List C),K t' ((H::L).getLast (by simp))∧(∀ X ∈ L,vG T.keep H X)∧∀ past:List zk,past.length=xZ T ops k->(∀ X ∈ past,vG T.keep H X)->
   zdu P ops (fun i=>((past++H::L)[i]?).getD D) (kO T ops) (xZ T ops) (inS T ops) (fun t n=>t=t'∧n=xZ T ops k+L.length) l k t (xZ T ops k)
 | [],k,t,H,K,hl,hD,h=>⟨[],t,h,by simp,fun past hp _=>⟨rfl,rfl⟩⟩
 | o::l,k,t,H,K,hl,hD,h=>by
  have h0:ops[k]?= some o:=by simpa using (hl 0).symm
  have hl':∀ j,l[j]?= ops[k+1+j]?:=fun j=>by have:=hl (j+1);simpa [Nat.add_assoc,Nat.add_comm 1 j] using this
  have he:kO T ops k=(zgC (T.zcI k) o && !T.blind k):=by unfold kO;rw [h0]
  have hin:∀ m,inS T ops k m=((xh o || T.blind k) || m == xZ T ops k):=fun m=>by unfold inS;rw [h0]
  have all:∀ (past L:List zk),(∀ X ∈ past,vG T.keep H X)->(∀ X ∈ L,vG T.keep H X)->∀ m:Nat,vG T.keep H (((past++H::L)[m]?).getD D):=fun past L hp hL m=>by
   cases hx:(past++H::L)[m]? with
   | none=>exact hD
   | some X=>
    have:=List.mem_of_getElem? hx;rcases List.mem_append.1 this with h1 | h1
    ·exact hp X h1
    ·rcases List.mem_cons.1 h1 with rfl | h1
     ·exact .refl _ _
     ·exact hL X h1
  have quiet:∀ c,kO T ops k=false->(∀ past L,past.length=xZ T ops k->(∀ X ∈ past,vG T.keep H X)->(∀ X ∈ L,vG T.keep H X)->QA P ops (fun i=>((past++H::L)[i]?).getD D) (inS T ops k) o c t)->zdb P T ops l (k+1) (put t o.dst c) H K->
    ∃ (L:List zk) (t':List C),K t' ((H::L).getLast (by simp))∧(∀ X ∈ L,vG T.keep H X)∧∀ past:List zk,past.length=xZ T ops k->(∀ X ∈ past,vG T.keep H X)->
     zdu P ops (fun i=>((past++H::L)[i]?).getD D) (kO T ops) (xZ T ops) (inS T ops) (fun t n=>t=t'∧n=xZ T ops k+L.length) (o::l) k t (xZ T ops k):=fun c ht hq hK=>by
   obtain ⟨L,t',h1,hL,h2⟩:=zge hl' hD hK;have hc:xZ T ops (k+1)=xZ T ops k:=by rw [zhh,ht];rfl
   rw [hc] at h2;refine ⟨L,t',h1,hL,fun past hp hs=>?_⟩;unfold zdu zb1;rw [h0];exact ⟨c,_,.inl ⟨ht,by rw [hin];simp,hq past L hp hs hL,rfl⟩,h2 past hp hs⟩
  have zbM:∀ c H',kO T ops k=true->EA P ops H H' o c t->vG T.keep H H'->zdb P T ops l (k+1) (put t o.dst c) H' K->
    ∃ (L:List zk) (t':List C),K t' ((H::L).getLast (by simp))∧(∀ X ∈ L,vG T.keep H X)∧∀ past:List zk,past.length=xZ T ops k->(∀ X ∈ past,vG T.keep H X)->
     zdu P ops (fun i=>((past++H::L)[i]?).getD D) (kO T ops) (xZ T ops) (inS T ops) (fun t n=>t=t'∧n=xZ T ops k+L.length) (o::l) k t (xZ T ops k):=fun c H' ht hq hsm hK=>by
   have back:vG T.keep H' H:=fun id hi=>(hsm id hi).symm
   obtain ⟨L,t',h1,hL,h2⟩:=zge hl' (back.trans hD) hK;have hc:xZ T ops (k+1)=xZ T ops k+1:=by rw [zhh,ht];rfl
   rw [hc] at h2;refine ⟨H'::L,t',by simpa using h1,fun X hX=>?_,fun past hp hs=>?_⟩
   ·rcases List.mem_cons.1 hX with rfl | hX
    ·exact hsm
    ·exact hsm.trans (hL X hX)
   have h3:=h2 (past++[H]) (by simp [hp]) (fun X hX=>by
    rcases List.mem_append.1 hX with h | h
    ·exact back.trans (hs X h)
    ·rw [List.mem_singleton.1 h];exact back)
   unfold zdu zb1;rw [h0];refine ⟨c,xZ T ops k+1,.inr ⟨ht,rfl,?_,rfl⟩,?_⟩
   ·have e1:((past++H::H'::L)[xZ T ops k]?).getD D=H:=by rw [<- hp];simp
    have e2:((past++H::H'::L)[xZ T ops k+1]?).getD D=H':=by rw [<- hp,List.getElem?_append_right (by omega)];simp
    dsimp only;rw [e1,e2];exact hq
   ·simpa [List.append_assoc,Nat.add_assoc,Nat.add_comm 1] using h3
  have same:∀ (past L:List zk),past.length=xZ T ops k->((past++H::L)[xZ T ops k]?).getD D=H:=fun past L hp=>by rw [<- hp];simp
  rw [zoA] at h;unfold zs7 at h;split at h
  ·rename_i hw;cases hbl:T.blind k with
   | true=>
    rw [hbl] at h;obtain ⟨c,h1,h2⟩:=zeb h;exact quiet c (by rw [he,hbl];simp) (fun past L _ hs hL=>.inl ⟨hw,fun m _=>h1 _ (all past L hs hL m)⟩) (jx (k:=fun t=>zdb P T ops l (k+1) t H K) h2)
   | false=>
   rw [hbl] at h;simp only at h;have he2:kO T ops k=zgC (T.zcI k) o:=by rw [he,hbl];simp
   cases ht:zgC (T.zcI k) o with
   | true=>
    rw [ht] at h;obtain ⟨c,H',h1,h2⟩:=zcu h;obtain ⟨h3,h4⟩:=zao h2;exact zbM c H' (he2.trans ht) (.inl ⟨hw,h1⟩) h3 (jx (k:=fun t=>zdb P T ops l (k+1) t H' K) h4)
   | false=>
    rw [ht] at h;simp only at h;cases hb:xh o with
    | true=>
     rw [hb,Bool.true_or] at h;obtain ⟨c,h1,h2⟩:=zeK hb h;exact quiet c (he2.trans ht) (fun past L _ _ _=>.inl ⟨hw,fun m _=>h1 _⟩) (jx (k:=fun t=>zdb P T ops l (k+1) t H K) h2)
    | false=>
     rw [hb,Bool.false_or] at h
     have only:∀ c,OpV P o (ev t) H c H->∀ past L,past.length=xZ T ops k->(∀ X ∈ past,vG T.keep H X)->(∀ X ∈ L,vG T.keep H X)->QA P ops (fun i=>((past++H::L)[i]?).getD D) (inS T ops k) o c t:=fun c h1 past L hp _ _=>.inl ⟨hw,fun m hm=>by
      rw [hin,hb,hbl,Bool.false_or,Bool.false_or,beq_iff_eq] at hm;subst hm;dsimp only;rw [same past L hp];exact h1⟩
     cases hlo:zjN o with
     | true=>
      rw [hlo] at h;obtain ⟨c,h1,h2⟩:=zgy hlo h;exact quiet c (he2.trans ht) (only c h1) (jx (k:=fun t=>zdb P T ops l (k+1) t H K) h2)
     | false=>
      rw [hlo] at h;obtain ⟨c,H',h1,rfl,h2⟩:=zcu h;exact quiet c (he2.trans ht) (only c h1) (jx (k:=fun t=>zdb P T ops l (k+1) t _ K) h2)
  ·rename_i hw;have hK:=jx (k:=fun t=>zdb P T ops l (k+1) t H K) h;cases ht:kO T ops k with
   | true=>exact zbM .un H ht (.inr ⟨hw,rfl,rfl⟩) (.refl _ _) hK
   | false=>exact quiet .un ht (fun past L _ _ _=>.inr ⟨hw,rfl⟩) hK
  ·exact h.elim
theorem Run.ztN {id:Nat} {T:zaA} {t:List C} {H:zk} {K:List C->zk->Prop} (hm:P.follows .mixedOrders=true) (hB:Region.lexB .any ops=true) (hT:zhU .any T ops=true) (h:zdb P T ops ops.toList 0 t H K):
  ∃ s',Run P B (.region id ops true) ⟨t,H⟩ .normal s'∧K s'.tmps s'.H:=by
 obtain ⟨L,t',h1,_,h2⟩:=zge (k:=0) (D:=H) (by simp) (.refl _ _) h;have h3:=h2 [] rfl (by simp);have hE:zjo .any ops (kO T ops)=true:=by simp only [zhU,zmu,Bool.and_eq_true] at hT;exact hT.1
 have:=Run.ztM (B:=B) (id:=id) (Hs:=fun i=>((H::L)[i]?).getD H) (eff:=kO T ops) (idx:=xZ T ops) (inR:=inS T ops) (n':=L.length) (t':=t') hm hB hE (fun i j=>zmv hT i j) rfl (by simpa [xZ] using h3);refine ⟨_,this,?_⟩
 have e:((H::L)[L.length]?).getD H=(H::L).getLast (by simp):=by
  rw [List.getLast_eq_getElem];simp
 dsimp only;rw [e];exact h1
end
def zbt:C->Bool
 | .agg cs=>cs.all q8
 | c=>q8 c
def qK (H:zk):Bool:=H.all fun ob=>match ob.kind with
 | 1=>ob.rows.all fun r=>r.all zx
 | 4=>ob.fz == 0 || (match ob.rows with | [.rc _::t]=>t.all zbt | _=>false)
 | _=>true
theorem kW {H:zk} {id:Nat} {ty:TypeId} {sz fz:Nat} {r r':List C} (hob:H[id]?= some ⟨1,ty,sz,[r],fz⟩) (hno:r.all zx=true) (hno':r'.all zx=true) {id':Nat} {p:List Hop} {x:Nat × List (List C)}
  (h:zZ (H.set id ⟨1,ty,sz,[r'],fz⟩) id' p=some x):(id'≠id∧zZ H id' p=some x)∨(id'=id∧p=[]∧x=(sz,[r'])∧zZ H id []=some (sz,[r])):=by
 obtain ⟨ob,ho,hk,hg⟩:=qZ h;by_cases hi:id'=id
 ·subst hi
  right
  rw [List.getElem?_set,if_pos rfl,if_pos (List.getElem?_eq_some_iff.1 hob).1] at ho;cases ho
  obtain ⟨rfl,rfl⟩:=kb (fun i k c hc=>by
   obtain ⟨rfl,hc⟩:=yt.1 hc;exact List.all_eq_true.1 hno' c (List.mem_of_getElem? hc)) hg
  exact ⟨rfl,rfl,rfl,by unfold zZ;rw [hob];simp [qL]⟩
 ·left
  refine ⟨hi,?_⟩;rw [List.getElem?_set,if_neg (Ne.symm hi)] at ho;unfold zZ;rw [ho];simp only [hk,if_true];exact hg
theorem z8.zgl {w:World} {E:Env} {H:zk} (h:z8 w E H) {id:Nat} {ty:TypeId} {sz fz:Nat} {r r':List C} (hob:H[id]?= some ⟨1,ty,sz,[r],fz⟩) (hlen:r'.length=r.length) (hno:r.all zx=true) (hno':r'.all zx=true)
  (hc:∀ (k:Nat) c c' u,r[k]?= some c->r'[k]?= some c'->L E c u->w.cell? ⟨E.β id [],k,none⟩=some u->L E c' u):z8 w E (H.set id ⟨1,ty,sz,[r'],fz⟩) where
 n:=by simpa using h.n
 blk id' ob p sz' rows' hob' hx:=by
  rcases kW hob hno hno' hx with ⟨h1,h2⟩ | ⟨rfl,rfl,h1,h2⟩
  ·rw [List.getElem?_set,if_neg (Ne.symm h1)] at hob';exact h.blk id' ob p sz' rows' hob' h2
  ·rw [List.getElem?_set,if_pos rfl,if_pos (List.getElem?_eq_some_iff.1 hob).1] at hob';cases hob'
   cases h1
   have hb:=h.blk _ _ _ _ _ hob h2;refine ⟨hb.len,fun q hq=>?_,?_⟩
   ·rw [List.mem_singleton.1 hq,hlen];exact hb.row r (List.mem_singleton.2 rfl)
   ·obtain ⟨cur,e,h3,h4,h5⟩:=hb.blk;refine ⟨cur,e,h3,h4,?_⟩;intro i k c' hc';obtain ⟨rfl,hc'⟩:=yt.1 hc';have hk:k < r.length:=by rw [<- hlen];exact (List.getElem?_eq_some_iff.1 hc').1
    have hk':r[k]?= some r[k]:=by simp [hk]
    obtain ⟨u,hu,ho⟩:=h5 0 k r[k] (yt.2 ⟨rfl,hk'⟩);refine ⟨u,hu,?_⟩;rw [qN.loose (List.all_eq_true.1 hno _ (List.mem_of_getElem? hk'))] at ho;rw [qN.loose (List.all_eq_true.1 hno' c' (List.mem_of_getElem? hc'))];refine ⟨?_,ho.2⟩;have h6:L E r[k] u:=by simpa [Env.at] using ho.1
    have h7:L E c' u:=hc k _ _ u hk' hc' h6 (by
     unfold World.cell?;rw [h3];simpa using hu)
    simpa [Env.at] using h7
 inj i p j q x y hx hy he:=by
  have key:∀ i p x,zZ (H.set id ⟨1,ty,sz,[r'],fz⟩) i p=some x->∃ x',zZ H i p=some x':=fun i p x hx=>by
   rcases kW hob hno hno' hx with ⟨h1,h2⟩ | ⟨rfl,rfl,h1,h2⟩
   ·exact ⟨x,h2⟩
   ·exact ⟨_,h2⟩
  obtain ⟨x',hx'⟩:=key i p x hx;obtain ⟨y',hy'⟩:=key j q y hy;exact h.inj i p j q x' y' hx' hy' he
 qo:=h.qo
 sep i p x o u hx hu:=by
  rcases kW hob hno hno' hx with ⟨h1,h2⟩ | ⟨rfl,rfl,h1,h2⟩
  ·obtain ⟨e1,ob,e2,e3⟩:=h.sep i p x o u h2 hu;exact ⟨e1,ob,by rw [List.getElem?_set,if_neg (Ne.symm h1)];exact e2,e3⟩
  ·obtain ⟨e1,ob,e2,e3⟩:=h.sep _ [] _ o u h2 hu;rw [hob] at e2;cases e2
   exact ⟨rfl,⟨1,ty,sz,[r'],fz⟩,by rw [List.getElem?_set,if_pos rfl,if_pos (List.getElem?_eq_some_iff.1 hob).1],e3⟩
 ty i ob ho hk:=by
  rw [List.getElem?_set] at ho;split at ho
  ·split at ho
   ·cases ho;cases hk
   ·cases ho
  ·exact h.ty i ob ho hk
 fz i ob ho:=by
  rw [List.getElem?_set] at ho;split at ho
  ·split at ho
   ·cases ho;have:=h.fz id _ hob;exact this
   ·cases ho
  ·exact h.fz i ob ho
theorem jr.zt5 {H:zk} {id:Nat} {ob ob':Ob} (hob:H[id]?= some ob) (h1:ob.kind≠4) (h2:ob'.kind≠4):jr H (H.set id ob'):=fun i o h4=>by
 rw [List.getElem?_set];split
 ·rename_i e;subst e;rw [if_pos (List.getElem?_eq_some_iff.1 hob).1,hob];constructor
  ·intro e;cases e;exact absurd h4 h2
  ·intro e;cases e;exact absurd h4 h1
 ·exact Iff.rfl
theorem qq.zgl {w:World} {E:Env} {H:zk} (h:qq w E H) {id:Nat} {ty:TypeId} {sz fz:Nat} {r r':List C} (hob:H[id]?= some ⟨1,ty,sz,[r],fz⟩) (hlen:r'.length=r.length) (hno:r.all zx=true) (hno':r'.all zx=true)
  (hc:∀ (k:Nat) c c' u,r[k]?= some c->r'[k]?= some c'->L E c u->w.cell? ⟨E.β id [],k,none⟩=some u->L E c' u):qq w E (H.set id ⟨1,ty,sz,[r'],fz⟩)∧Grow w E H w E (H.set id ⟨1,ty,sz,[r'],fz⟩):=by
 have hR:=h.base.zgl hob hlen hno hno' hc
 have hG:qv w E H w E (H.set id ⟨1,ty,sz,[r'],fz⟩):=⟨Env.le.refl E,fun _ _ _=>rfl,rfl,rfl,rfl,Nat.le_refl _,fun _ _ _=>rfl,fun _ _ _ h=>.inl h,fun b ⟨i,p,x,hx,he⟩=>by
  rcases kW hob hno hno' hx with ⟨h1,h2⟩ | ⟨rfl,rfl,h1,h2⟩
  ·exact .inr ⟨i,p,x,h2,he⟩
  ·exact .inr ⟨_,[],_,h2,he⟩⟩
 have hk:=jr.zt5 (ob':=⟨1,ty,sz,[r'],fz⟩) hob (fun e=>by cases e) (fun e=>by cases e);exact ⟨⟨hR,Gro.step h hG hk⟩,hG.up h hk⟩
section
variable {B:Nat} {s:S}
theorem zo.var (id:Nat) {ty:TypeId} {sz fz:Nat} {r r':List C} (hob:s.H[id]?= some ⟨1,ty,sz,[r],fz⟩) (hno:r.all zx=true) (hno':r'.all zx=true) (hw:WCs r r'):zo B s ⟨s.tmps,s.H.set id ⟨1,ty,sz,[r'],fz⟩⟩:=fun m w E a hs=>by
 have hlen:∀ {a b:List C},WCs a b->b.length=a.length:=by
  intro a b h
  induction h with
  | nil=>rfl
  | cons _ _ ih=>simp [ih]
 have hget:∀ {a b:List C},WCs a b->∀ (k:Nat) c c',a[k]?= some c->b[k]?= some c'->WC c c':=by
  intro a b h
  induction h with
  | nil=>intro k c c' h;simp at h
  | cons h1 _ ih=>
   intro k c c' e1 e2;cases k with
   | zero=>simp at e1 e2;subst e1 e2;exact h1
   | succ k=>exact ih k c c' (by simpa using e1) uY
 obtain ⟨hR,g⟩:=hs.heap.zgl hob (hlen hw) hno hno' fun k c c' u e1 e2 hl _=>hget hw k c c' e1 e2 E u hl
 exact ⟨E,⟨hR,hs.tmps,hs.defers,by simpa using hs.base⟩,g.toB tB⟩
theorem zo.zbS (id k:Nat) (ty':TypeId) (sz':Nat) {ty:TypeId} {sz fz sz0:Nat} {r:List C} {rows:List (List C)} (hob:s.H[id]?= some ⟨1,ty,sz,[r],fz⟩) (hk:r[k]?= some (.lst 1 sz0 rows)) (hz:rows=[]∨sz'=sz0) (hno:r.all zx=true)
  (hno':(r.set k (.gl s.H.length sz' rows)).all zx=true):
  zo B s ⟨s.tmps,s.H.set id ⟨1,ty,sz,[r.set k (.gl s.H.length sz' rows)],fz⟩++[⟨4,ty',sz',rows,0⟩]⟩:=fun m w E a hs=>by
 have hgb:zZ s.H id []=some (sz,[r]):=by unfold zZ;rw [hob];simp [qL]
 have hb:=hs.heap.base.blk _ _ _ _ _ hob hgb;obtain ⟨cur,e,h3,h4,h5⟩:=hb.blk;obtain ⟨u,hu,ho⟩:=h5 0 k _ (yt.2 ⟨rfl,hk⟩);rw [qN.loose rfl] at ho;have hl:L E (.lst 1 sz0 rows) u:=by simpa [Env.at] using ho.1
 obtain ⟨E1,hh1,hl1,g1⟩:=hs.heap.zbx hl ty' hz;have hlt:id < s.H.length:=(List.getElem?_eq_some_iff.1 hob).1;have hob1:(s.H++[⟨4,ty',sz',rows,0⟩])[id]?= some ⟨1,ty,sz,[r],fz⟩:=by rw [List.getElem?_append_left hlt];exact hob
 have hβ:E1.β id []=E.β id []:=g1.le.β id [] (by rw [hs.heap.n];exact hlt)
 have hcu:w.cell? ⟨E1.β id [],k,none⟩=some u:=by
  unfold World.cell?;rw [hβ,h3];simpa using hu
 obtain ⟨hR,g2⟩:=hh1.zgl hob1 (r':=r.set k (.gl s.H.length sz' rows)) (by simp) hno hno' fun j c c' v e1 e2 hl' hv=>by
  rw [List.getElem?_set] at e2;split at e2
  ·rename_i e;subst e;rw [hcu] at hv;cases hv
   split at e2
   ·cases e2;exact hl1
   ·cases e2
  ·rw [e1] at e2;cases e2
   exact hl'
 rw [List.set_append_left _ _ hlt] at hR g2;have g:=g1.trans g2;exact ⟨E1,⟨hR,hs.tmps.mono g.le,hs.defers.grow hs.heap g,by have:=hs.base;simp;omega⟩,g.toB tB⟩
end
theorem zdC (w:World) (o:Obj) {k:Nat} (h:k < w.heap.size):(w.alloc o).heap[k]?= w.heap[k]?:=by
 show (w.heap.push o)[k]?= _;rw [Array.getElem?_push,if_neg (by omega)]
theorem zmH {P:Program} {g:Operand} {ps:Array Tmp} {assign body:Code} {B m:Nat} {H:zk} {t:List C} {f:FuncId} {caps:List C} {w:World} {E:Env} {a:Act} {Q:Exit->Act->World->Prop}
  (hs:xx B m w E ⟨t,H⟩ a) (hg:ev t g=.fn f [] caps) (hcb:qm P f=true)
  (hit:∀ (l:Nat) (r:Loop),r.state=.ready->r.pending=none->r.params=ps->r.assign=assign->r.body=body->
   ∃ (rr:C) (Hf:zk) (rf:Loop),zb P f (H++[obR l r t]) (.v (.func (.yield l) #[] #[])::caps) rr Hf∧Hf[H.length]?= some (obR l rf t)∧rf.state≠.busy∧rf.tmps=r.tmps∧B<=Hf.length∧
   ∀ w' E' a',xx B m w' E' ⟨t,Hf.set H.length (obR l { rf with state:=.exhausted } t)⟩ a'->jn B w E H w' E' (Hf.set H.length (obR l { rf with state:=.exhausted } t))->
    match rf.pending with | none=>Q .normal a' w' | some c=>c.wpIn (fw none) 0 P Q a' w'):
  (Code.rangeFunc g ps assign body).wpIn (fw none) 0 P Q a w:=by
 have hm:=hs.defers.le;refine wpIn_rangeFunc ?_;intro fn _;obtain ⟨r,hr⟩:∃ r:Loop,r={ state:=.ready,pending:=none,fn,tmps:=a.tmps,params:=ps,assign,body,defers:=w.heap.size }:=⟨_,rfl⟩;obtain ⟨W1,hW1⟩:∃ W1,W1=(w.alloc (.deferred (some []))).alloc (.loop r):=⟨_,rfl⟩
 have hL1:W1.heap[w.heap.size+1]?= some (.loop r):=by
  rw [hW1];have:=World.alloc_heap_new (w.alloc (.deferred (some []))) (.loop r);rwa [World.size_alloc] at this
 have hK1:W1.heap[w.heap.size]?= some (.deferred (some [])):=by
  rw [hW1];exact (zdC _ _ (by simp)).trans (World.alloc_heap_new w _)
 have hsame:∀ k,k < w.heap.size->W1.heap[k]?= w.heap[k]?:=fun k hk=>by
  rw [hW1];exact (zdC _ _ (by simp;omega)).trans (zdC _ _ hk)
 have hsz:W1.heap.size=w.heap.size+2:=by rw [hW1];simp
 have hv:=zpE hs.tmps g;rw [hg] at hv
 obtain ⟨zs,hσ,hzs⟩:∃ zs,a.eval g=.func (.func f) #[] zs∧LL E caps zs.toList:=by
  generalize a.eval g=u at *;cases hv with
  | fn f first caps ys zs h1 h2 h3 h4=>
   have:ys= #[]:=by simpa using h1.symm
   subst this;exact ⟨zs,rfl,by simpa using h2,fun i c y e1 e2=>h4 i c y e1 uY⟩
 obtain ⟨E1,hR1,G1⟩:=hs.heap.zrH (w:=W1) (l:=w.heap.size+1) (r:=r) (t:=t) hsame (by rw [hW1];rfl) (by rw [hW1];rfl) (by rw [hW1];rfl) (by omega) hL1 (by omega) (by rw [hr];exact hs.tmps);obtain ⟨rr,Hf,rf,hS,hHf,hbusy,htm,hB,hQ⟩:=hit (w.heap.size+1) r (by rw [hr]) (by rw [hr]) (by rw [hr]) (by rw [hr]) (by rw [hr])
 have eg:∀ (args:Array Value),(callFunc f args).run P W1=.ok (.enter f args) W1:=by
  intro args;unfold qm at hcb;split at hcb
  rotate_left
  ·cases hcb
  rename_i fn hfn;simp only [Bool.and_eq_true,Bool.not_eq_true'] at hcb;have hname : fn.name ≠ "runtime.NumGoroutine" := by simpa using hcb.1
  have hbody:fn.body≠none:=by intro hb;simp [hb] at hcb
  simp [callFunc,hfn,hname,hbody]
 refine ⟨w.heap.size+1,[mkD w.heap.size],W1,{ target:=.fn (.func f) zs,args:= #[.func (.yield (w.heap.size+1)) #[] #[]] },W1,f, #[.func (.yield (w.heap.size+1)) #[] #[]]++zs,W1,?_,?_,fun _ _=>trivial,?_,fun h=>(by cases h),?_⟩
 ·rw [hW1,hr];exact run_enterLoop_outer _ _ _ _ _
 ·simp only [resolve,hσ];simp [go_sem]
 ·simp [invoke,go_sem,eg]
 ·refine (callsIn_wide (n:=0)).2 ((hS W1 E1 _ hR1 ?_).mono ?_)
  ·have:=(LL.one (.v _ rfl:L E1 (.v (.func (.yield (w.heap.size+1)) #[] #[])) (.func (.yield (w.heap.size+1)) #[] #[]))).append (hzs.mono G1.le);simpa using this
  ·rintro e w3 ⟨v,E3,rfl,hR3,_,G3⟩;obtain ⟨⟨hL3,_⟩,ht3⟩:=hR3.gro.lop H.length _ (.loop rf) t hHf rfl ⟨rfl,rfl⟩;obtain ⟨hR4,G4⟩:=hR3.zfh (r':={ rf with state:=.exhausted }) hHf rfl;have hend:=run_endLoop (P:=P) hL3 hbusy;have G:=(G1.trans G3).trans G4;have hn:B<=E.n:=by rw [hs.heap.n];exact hs.base
   have hD:(w3.putObj (w.heap.size+1) (.loop { rf with state:=.exhausted })).heap[w.heap.size]?= some (.deferred (some [])):=by
    rw [World.putObj_heap_other (by omega)];exact (G3.frame _ (by omega) (hR1.free hK1)).trans hK1
   have h4:xx B m (w3.putObj (w.heap.size+1) (.loop { rf with state:=.exhausted })) E3 ⟨t,Hf.set H.length (obR (w.heap.size+1) { rf with state:=.exhausted } t)⟩ { a with defers:=[mkD w.heap.size]++a.defers }:=by
    refine ⟨hR4,hs.tmps.mono G.le,⟨⟨w.heap.size,rfl,hm,hD,?_⟩,hs.defers.grow hs.heap G⟩,by simpa using hB⟩;intro hmem
    have key:∀ {ds:List Deferred},Marks m w ds->mkD w.heap.size ∉ ds:=by
     intro ds
     induction ds with
     | nil=>intro _ h;cases h
     | cons d ds ih=>
      rintro ⟨⟨D,h1,_,h3,_⟩,ht⟩ h;rcases List.mem_cons.1 h with h5 | h5
      ·rw [h1] at h5;have:w.heap.size=D:=by simpa [mkD] using h5
       have:=(Array.getElem?_eq_some_iff.1 h3).1;omega
      ·exact ih ht h5
    exact key hs.defers hmem
   have:=hQ _ _ _ h4 (G.toB hn);refine ⟨rf.pending,_,hend,?_⟩;exact this
def zt0:Option Code->Exit->Prop
 | none,.normal=>True
 | some .ret,.ret=>True
 | some (.exit i),.exit j=>i=j
 | _,_=>False
theorem qQ.rangeFunc {P:Program} {g:Operand} {ps:Array Tmp} {assign body:Code} {B:Nat} {H:zk} {t:List C} {f:FuncId} {caps:List C} {R:Exit->S->Prop} (hg:ev t g=.fn f [] caps) (hcb:qm P f=true)
  (hit:∀ (l:Nat) (r:Loop),r.state=.ready->r.pending=none->r.params=ps->r.assign=assign->r.body=body->
   ∃ (rr:C) (Hf:zk) (rf:Loop) (ex:Exit) (s':S),zb P f (H++[obR l r t]) (.v (.func (.yield l) #[] #[])::caps) rr Hf∧Hf[H.length]?= some (obR l rf t)∧rf.state≠.busy∧rf.tmps=r.tmps∧B<=Hf.length∧zt0 rf.pending ex∧
    zo B ⟨t,Hf.set H.length (obR l { rf with state:=.exhausted } t)⟩ s'∧R ex s'):qQ P B (.rangeFunc g ps assign body) ⟨t,H⟩ R:=fun q m w E a Q hr hs hq=>by
 obtain rfl:=hr rfl;refine zmH hs hg hcb fun l r h1 h2 h3 h4 h5=>?_
 obtain ⟨rr,Hf,rf,ex,s',a1,a2,a3,a4,a5,a6,a7,a8⟩:=hit l r h1 h2 h3 h4 h5;refine ⟨rr,Hf,rf,a1,a2,a3,a4,a5,fun w' E' a' hs' g'=>?_⟩;obtain ⟨E2,hs2,g2⟩:=a7 m w' E' a' hs';have hq':=hq ex s' w' E2 a' a8 hs2 (g'.trans g2);generalize rf.pending=pe at a6
 match pe,ex,a6 with
 | none,.normal,_=>exact hq'
 | some .ret,.ret,_=>exact wpIn_ret hq'
 | some (.exit i),.exit j,h=>cases h;exact wpIn_exit hq'
def zjX (o:Oper):Option TypeId:=match o.op with
 | .makeMap t r=>match r with
  | none=>some t
  | some _=>none
 | _=>none
def zrB (P:Program) (t:TypeId):Bool:=match P.underlying t with
 | some (.map _ e)=>match P.underlying e with
  | some (.int _)=>false
  | some .bool=>false
  | some .string=>false
  | _=>true
 | _=>false
noncomputable def hasC (H:zk):Bool:=List.rec (motive:=fun _=>Bool) false (fun ob _ next=>match ob with
 | ⟨kind,_,sz,_,fz⟩=>match kind with
  | 4=>match sz with
   | 2=>match fz with
    | 1=>true
    | _=>next
   | _=>next
  | _=>next) H
noncomputable def mapRel (H:zk) (ρ:Operand->C) (o:Oper):Bool:=match o.op with
 | .range _ _=>true
 | .next _ _=>true
 | .entry _=>true
 | .insert _ _ _ _=>true
 | .mapUpdate _ _ _ _=>hasC H
 | .call cl=>match cl.callee with
  | .builtin b=>match b with
   | .delete=>true
   | .append=>match cl.args.toList with
    | x::_=>match ρ x with
     | .gl _ _ _=>hasC H
     | .lst _ sz _=>match sz with
      | 99=>true
      | _=>false
     | _=>false
    | []=>false
   | _=>false
  | _=>false
 | _=>false
def zun (P:Program) (t:TypeId):Bool:=
 match P.underlying t with
 | some (.pointer _)=>true
 | some (.map _ _)=>true
 | some (.tuple es)=>match es.toList with
  | u::_=>match P.underlying u with
   | some (.pointer _)=>true
   | _=>false
  | []=>false
 | _=>false
def zt1 (P:Program) (ρ:Operand->C) (o:Oper):Option (FuncId × List C):=
 match o.op with
 | .call cl=>match cl.callee with
  | .value x=>match ρ x with
   | .fn f first caps=>match qm P f with
    | true=>some (f,first++(cl.args.toList.map fun x=>asL (ρ x))++caps)
    | false=>none
   | _=>none
  | _=>none
 | _=>none
def zqy (P:Program) (ρ:Operand->C) (o:Oper):Option (FuncId × List C):=
 match zun P o.type with
 | true=>zt1 P ρ o
 | false=>none
theorem jt.call {P:Program} {H:zk} {ρ:Operand->C} {o:Oper} {f:FuncId} {args:List C} {R:C->zk->Prop} (h:zqy P ρ o=some (f,args)) (hs:qw P f H args R):jt P o ρ H R:=fun w E σ hh hl _ K hk=>by
 unfold zqy at h;split at h
 rotate_left
 ·cases h
 unfold zt1 at h;split at h
 rotate_left
 ·cases h
 rename_i cl ho;split at h
 rotate_left
 ·cases h
 rename_i x hcl;split at h
 rotate_left
 ·cases h
 rename_i f' first caps hf;split at h
 rotate_left
 ·cases h
 rename_i hcb;cases h
 have hl:∀ x ∈ o.op.operands,L E (Ab.asL (ρ x)) (σ x):=fun x hx=>zcE (hl x hx)
 have h0:=hl x (by simp [ho,Op.operands,Call.operands,hcl]);rw [hf] at h0;have h0:L E (.fn f first caps) (σ x):=h0
 obtain ⟨ys,zs,hv,h1,h2,h3,h4⟩:∃ ys zs,σ x=.func (.func f) ys zs∧first.length=ys.size∧caps.length=zs.size∧(∀ (i:Nat) c y,first[i]?= some c->ys[i]?= some y->L E c y)∧(∀ (i:Nat) c y,caps[i]?= some c->zs[i]?= some y->L E c y):=by
  generalize σ x=u at *;cases h0 with
  | fn f first caps ys zs h1 h2 h3 h4=>exact ⟨ys,zs,rfl,h1,h2,h3,h4⟩
 unfold qm at hcb;split at hcb
 rotate_left
 ·cases hcb
 rename_i fn hfn;simp only [Bool.and_eq_true,Bool.not_eq_true'] at hcb;have hname : fn.name ≠ "runtime.NumGoroutine" := by simpa using hcb.1
 have hbody:fn.body≠none:=by intro hb;simp [hb] at hcb
 have hr:(execOp σ o).run P w=.ok (.enter f (ys++cl.args.map σ++zs)) w:=by
  unfold execOp;simp [ho,resolve,hcl,hv,Deferred.ofValue,invoke,callFunc,hfn,hname,hbody]
 rw [hr];refine (hs w E (ys++cl.args.map σ++zs) hh ?_).mono ?_
 ·have e1:LL E first ys.toList:=⟨by simpa using h1,fun i c y e1 e2=>h3 i c y e1 uY⟩;have e2:LL E caps zs.toList:=⟨by simpa using h2,fun i c y e1 e2=>h4 i c y e1 uY⟩
  have e3:LL E (cl.args.toList.map fun x=>Ab.asL (ρ x)) (cl.args.map σ).toList:=by
   refine ⟨by simp,?_⟩;intro i c y hc hy;rw [List.getElem?_map] at hc;rw [Array.toList_map,List.getElem?_map] at hy;cases ha:cl.args.toList[i]? with
   | none=>rw [ha] at hc;cases hc
   | some a=>
    rw [ha] at hc hy;cases hc
    cases hy
    exact hl a (by simp [ho,Op.operands,Call.operands];right;have:=List.mem_of_getElem? ha;simpa using this)
  have:=(e1.append e3).append e2;simpa using this
 ·rintro e w' ⟨c,H',v,E',hR,rfl,h5,h6,h7⟩;exact ⟨v,rfl,hk c H' v w' E' hR h5 h6 h7⟩
def zsT (o:Oper):Option (BinOp × TypeId × Operand):=
 match o.op with
 | .binOp op t x y _=>match y with
  | .const v=>match v with
   | .nilFunc=>some (op,t,x)
   | _=>none
  | _=>none
 | _=>none
def zlJ (x:C):Option Bool:=
 match x with
 | .fn ..=>some false
 | .v y=>match y with
  | .nilFunc=>some true
  | _=>none
 | _=>none
theorem zeu {x:C} {b:Bool} (h:zlJ x=some b):∀ E u,L E x u->(b=true∧u=.nilFunc)∨(b=false∧∃ f ys zs,u=.func f ys zs):=by
 intro E u hl;unfold zlJ at h;split at h
 ·cases h;cases hl;exact .inr ⟨rfl,_,_,_,rfl⟩
 ·split at h
  ·cases h;cases hl;exact .inl ⟨rfl,rfl⟩
  ·cases h
 ·cases h
def fnT (P:Program) (t:TypeId):Bool:=
 match P.underlying t with
 | some (.func ..)=>true
 | _=>false
def fnK (P:Program) (H:zk) (op:BinOp) (t:TypeId) (x:C) (K:C->zk->Prop):Prop:=
 match zlJ x with
 | some b=>match op with
  | .eql=>bK (fnT P t) <| K (.v (.bool b)) H
  | .neq=>bK (fnT P t) <| K (.v (.bool (!b))) H
  | _=>False
 | none=>False
theorem ziV {P:Program} (w:World) (d:Nat) (t:TypeId) (ht:fnT P t=true) (y:Value) (n:Bool) (hy:(n=true∧y=.nilFunc)∨(n=false∧∃ f xs ys,y=.func f xs ys)):(Op.equalIn (d+1) t y .nilFunc).run P w=.ok n w:=by
 unfold fnT at ht;split at ht
 rotate_left
 ·cases ht
 rename_i a b c hu;rcases hy with ⟨rfl,rfl⟩ | ⟨rfl,f,xs,ys,rfl⟩ <;> simp [Op.equalIn,run_underlying hu]
theorem zmk {P:Program} (w:World) (t:TypeId) (ht:fnT P t=true) (y:Value) (n:Bool) (hy:(n=true∧y=.nilFunc)∨(n=false∧∃ f xs ys,y=.func f xs ys)):(Op.equal t y .nilFunc).run P w=.ok n w:=ziV w 9999 t ht y n hy
theorem zcB.zsw {P:Program} {o:Oper} {ρ:Operand->C} {H:zk} (op:BinOp) (t t':TypeId) (x:Operand) (ho:o.op=.binOp op t x (.const .nilFunc) t') (hop:op=.eql∨op=.neq) (ht:fnT P t=true) (b:Bool)
  (hx:∀ E u,L E (ρ x) u->(b=true∧u=.nilFunc)∨(b=false∧∃ f ys zs,u=.func f ys zs)):zcB P o ρ H (.v (.bool (if op=.eql then b else !b))) H:=fun w E σ hh hl hc K hk=>by
 have hv:=hx E _ (hl x uX);have he:=zmk w t ht _ _ hv
 have hr:(execOp σ o).run P w=.ok (.value (.bool (if op=.eql then b else !b))) w:=by
  unfold execOp;rcases hv with ⟨rfl,hv⟩ | ⟨rfl,f,ys,zs,hv⟩ <;> rw [hv] at he <;> rcases hop with rfl | rfl <;> simp [ho,hv,hc,eqGuard,binOp,he]
 rw [hr];exact hk _ w E hh (.v _ rfl) (Grow.refl w E H)
theorem zpJ {P:Program} {o:Oper} {ρ:Operand->C} {H:zk} {K:C->zk->Prop} {op:BinOp} {t:TypeId} {x:Operand} (ho:zsT o=some (op,t,x)) (h:fnK P H op t (ρ x) K):∃ c,zcB P o ρ H c H∧K c H:=by
 obtain ⟨t',ho⟩:∃ t',o.op=.binOp op t x (.const .nilFunc) t':=by
  unfold zsT at ho;split at ho
  ·rename_i h1;split at ho
   ·split at ho
    ·cases ho;exact ⟨_,h1⟩
    ·cases ho
   ·cases ho
  ·cases ho
 unfold fnK at h;split at h
 ·rename_i b hb;split at h
  ·exact ⟨_,.zsw .eql t t' x ho (.inl rfl) (zU h).1 b (zeu hb),(zU h).2⟩
  ·exact ⟨_,.zsw .neq t t' x ho (.inr rfl) (zU h).1 b (zeu hb),(zU h).2⟩
  ·exact h.elim
 ·exact h.elim
def opR (P:Program) (H:zk) (ρ:Operand->C) (o:Oper) (K:C->zk->Prop):Prop:=
 match zqd o with
 | some (op,ty,x)=>zs4 P H op ty (ρ x) K
 | none=>match zqt o with
  | some (op,ty,x)=>ztl P H op ty (ρ x) K
  | none=>match zsT o with
  | some (op,ty,x)=>fnK P H op ty (ρ x) K
  | none=>match zqy P ρ o with
  | some (f,args)=>∃ R,qw P f H args R∧∀ r H',R r H'->K r H'
  | none=>match mapRel H ρ o with
   | true=>jt P o ρ H K
   | false=>match zjX o with
    | some t=>match zrB P t with
     | true=>∀ b:Nat,jX (H++[obC b [] 0 []]) fun H'=>K (.v (.map (some b))) H'
     | false=>∀ b:Nat,jX (H++[obM b #[] 0]) fun H'=>K (.v (.map (some b))) H'
    | none=>zaw P H ρ o K
theorem zgc {P:Program} {H:zk} {ρ:Operand->C} {o:Oper} {K:C->zk->Prop} (h:opR P H ρ o K):jt P o ρ H K:=by
 unfold opR at h;split at h
 ·rename_i op ty x hn;exact zop hn h
 ·split at h
  ·rename_i op ty x hn;obtain ⟨c,h1,h2⟩:=zoG hn h;exact h1.toR h2
  split at h
  ·rename_i op ty x hn;obtain ⟨c,h1,h2⟩:=zpJ hn h;exact h1.toR h2
  ·split at h
   ·rename_i f args hn;obtain ⟨R,h1,h2⟩:=h;exact jt.call hn (fun w E vs hh hl=>(h1 w E vs hh hl).mono fun e w' ⟨r,H',v,E',hR,h3⟩=>⟨r,H',v,E',h2 r H' hR,h3⟩)
   split at h
   ·exact h
   split at h
   ·rename_i t hm
    have ho:o.op=.makeMap t none:=by
     unfold zjX at hm;split at hm
     ·rename_i ho;split at hm
      ·cases hm;exact ho
      ·cases hm
     ·cases hm
    split at h
    ·exact .zp6 t ho fun b=>qV (h b)
    ·exact .makeMap t ho fun b=>qV (h b)
   ·obtain ⟨c,H',h1,h2⟩:=zcu h;exact h1.toR h2
def opK (P:Program) (ops:Array Oper) (o:Oper) (next:List C->zk->(List C->zk->Prop)->Prop) (t:List C) (H:zk) (K:List C->zk->Prop):Prop:=
 match ju ops t o with
 | some true=>opR P H (ev t) o fun c H'=>zdg t o.dst c fun t=>next t H' K
 | some false=>zdg t o.dst .un fun t=>next t H K
 | none=>False
def zdZ (P:Program) (ops:Array Oper) (l:List Oper):List C->zk->(List C->zk->Prop)->Prop:=
 List.rec (motive:=fun _=>List C->zk->(List C->zk->Prop)->Prop) (fun t H K=>K t H) (fun o _ next=>opK P ops o next) l
theorem zhF (P:Program) (ops:Array Oper) (o:Oper) (l:List Oper) (t:List C) (H:zk) (K:List C->zk->Prop):zdZ P ops (o::l) t H K=opK P ops o (zdZ P ops l) t H K:=rfl
section
variable {P:Program} {B:Nat} {ops:Array Oper}
theorem zd0:∀ {l:List Oper} {t:List C} {H:zk} {K:List C->zk->Prop},zdZ P ops l t H K->kn P B ops l ⟨t,H⟩ fun s'=>K s'.tmps s'.H
 | [],t,H,K,h=>.nil h
 | o::l,t,H,K,h=>by
  rw [zhF] at h;unfold opK at h;split at h
  ·rename_i hw;refine .run (s:=⟨t,H⟩) hw (.zfe (s:=⟨t,H⟩) (zgc h)) ?_;rintro s1 ⟨c,H',h1,rfl⟩;exact zd0 (jx (k:=fun t=>zdZ P ops l t H' K) h1)
  ·rename_i hw;exact .pass (s:=⟨t,H⟩) hw (zd0 (jx (k:=fun t=>zdZ P ops l t H K) h))
  ·exact h.elim
abbrev WK:=List C->zk->(Exit->List C->zk->Prop)->Prop
def zur (x y:WK):WK:=fun t H K=>x t H fun ex t H=>match ex with
 | .normal=>y t H K
 | ex=>K ex t H
def zsO (id:Nat) (c:WK):WK:=fun t H K=>c t H fun ex t H=>match ex with
 | .exit id'=>if id'=id then K .normal t H else K (.exit id') t H
 | ex=>K ex t H
def zpw (c:Operand) (x y:WK):WK:=fun t H K=>match ev t c with
 | .v (.bool b)=>match b with
  | true=>x t H K
  | false=>y t H K
 | _=>False
noncomputable def readyB (all:List Bool) (ops:List Oper):List Bool->Nat->List Nat:=
 List.rec (motive:=fun _=>List Bool->Nat->List Nat) (fun _ _=>[]) (fun o _ ih bs k=>match bs with
  | []=>[]
  | b::bs=>match b with
   | true=>ih bs (k+1)
   | false=>match o.after.toList.all (fun e=>!Region.binds .any e || all.getD e.on false) with
    | true=>k::ih bs (k+1)
    | false=>ih bs (k+1)) ops
noncomputable def bothK (f:Nat->Prop) (l:List Nat):Prop:=List.rec (motive:=fun _=>Prop) True (fun i _ ih=>f i∧ih) l
structure Eag where
 bl:List Nat:=[]
 keep:List Nat:=[]
 flat:Bool:=false
def XC (T:Eag) (H0 H:zk):Prop:=vG T.keep H0 H∧(T.flat=true->qK H=true)
noncomputable def pickE (bl:List Nat) (ops:Array Oper) (t:List C) (l:List Nat):Option Nat:=
 List.rec (motive:=fun _=>Option Nat) none (fun i _ ih=>match ops[i]? with
  | some o=>match xh o || zf4 bl i with
   | true=>some i
   | false=>match ju ops t o with
    | some b=>match b with
     | true=>ih
     | false=>some i
    | none=>ih
  | none=>ih) l
def zkU (P:Program) (T:Eag) (H:zk) (ρ:Operand->C) (o:Oper) (K:C->zk->Prop):Prop:=
 match o.op with
 | .call cl=>match cl.callee with
  | .value x=>match ρ x with
   | .fn f first caps=>bK (qm P f) <| ∃ r,(∀ H2,XC T H H2->zb P f H2 (first++(cl.args.toList.map fun x=>asL (ρ x))++caps) r H2)∧okB r fun r=>K r H
   | _=>False
  | _=>False
 | _=>zh7 P T.keep H ρ o K
def opE (P:Program) (T:Eag) (ops:Array Oper) (o:Oper) (k:Nat) (next:List C->zk->(List C->zk->Prop)->Prop) (t:List C) (H:zk) (K:List C->zk->Prop):Prop:=
 match ju ops t o with
 | some true=>match zf4 T.bl k with
  | true=>zkU P T H (ev t) o fun c H'=>zdg t o.dst c fun t=>next t H' K
  | false=>match xh o with
   | true=>zaw P H (ev t) o fun c H'=>zdg t o.dst c fun t=>next t H' K
   | false=>False
 | some false=>zdg t o.dst .un fun t=>next t H K
 | none=>False
def zqH (T:Eag) (H H':zk) (k:Prop):Prop:=match T.flat with
 | true=>qK H'=true∧zkc H H' k T.keep
 | false=>zkc H H' k T.keep
def opS (P:Program) (T:Eag) (ops:Array Oper) (o:Oper) (next:List C->zk->(List C->zk->Prop)->Prop) (t:List C) (H:zk) (K:List C->zk->Prop):Prop:=
 match ju ops t o with
 | some true=>match zjN o with
  | true=>zaw P H (ev t) o fun c H'=>zdg t o.dst c fun t=>next t H' K
  | false=>opR P H (ev t) o fun c H'=>zqH T H H' (zdg t o.dst c fun t=>next t H' K)
 | some false=>zdg t o.dst .un fun t=>next t H K
 | none=>False
noncomputable def bruteK (P:Program) (T:Eag) (ops:Array Oper) (n:Nat):List Bool->List C->zk->(List C->zk->Prop)->Prop:=
 Nat.rec (motive:=fun _=>List Bool->List C->zk->(List C->zk->Prop)->Prop)
  (fun listed t H K=>match readyB listed ops.toList listed 0 with
   | []=>K t H
   | _::_=>False)
  (fun _ ih listed t H K=>match readyB listed ops.toList listed 0 with
   | []=>K t H
   | i::is=>match pickE T.bl ops t (i::is) with
    | some i=>match ops[i]? with
     | some o=>opE P T ops o i (fun t H K=>ih (listed.set i true) t H K) t H K
     | none=>False
    | none=>bothK (fun i=>match ops[i]? with
     | some o=>opS P T ops o (fun t H K=>ih (listed.set i true) t H K) t H K
     | none=>False) (i::is)) n
def zph (md:Region.Mode) (ops:Array Oper) (ms:List Nat):Bool:=
 (List.range ops.size).all fun i=>(List.range ops.size).all fun j=>Nat.beq j i || zeY md ops ms i j || match ops[i]?,ops[j]? with
  | some oi,some oj=>(oj.after.any fun e=>Region.binds md e && e.on == i) || oi.apart ops oj
  | _,_=>true
def wo (md:Region.Mode) (ops:Array Oper):Bool:=zph md ops (wJ md ops)
noncomputable def regionK (P:Program) (B:Nat) (ops:Array Oper) (draw:Bool):WK:=fun t H K=>match draw with
 | false=>zdZ P ops ops.toList t H fun t H=>K .normal t H
 | true=>(∃ T:zaA,(P.follows .mixedOrders && Region.lexB .any ops && zhU .any T ops)=true∧zdb P T ops ops.toList 0 t H fun t H=>K .normal t H)∨
  ∃ T:Eag,(P.follows .mixedOrders && wo .any ops)=true∧(T.flat=true->qK H=true)∧∃ R:List C->zk->Prop,bruteK P T ops ops.size (ops.toList.map fun _=>false) t H (fun t1 H1=>∃ t2 H2,zo B ⟨t1,H1⟩ ⟨t2,H2⟩∧R t2 H2)∧∀ t2 H2,R t2 H2->K .normal t2 H2
theorem zf5 {all:List Bool}:∀ {os:List Oper} {bs:List Bool} {k i:Nat},i ∈ readyB all os bs k↔∃ j o,i=k+j∧os[j]?= some o∧bs[j]?= some false∧o.after.toList.all (fun e=>!Region.binds .any e || all.getD e.on false)=true
 | [],bs,k,i=>by simp [readyB]
 | o::os,[],k,i=>by
  have e:readyB all (o::os) [] k=[]:=rfl;rw [e];simp
 | o::os,b::bs,k,i=>by
  have e:readyB all (o::os) (b::bs) k=match b with
   | true=>readyB all os bs (k+1)
   | false=>match o.after.toList.all (fun e=>!Region.binds .any e || all.getD e.on false) with
    | true=>k::readyB all os bs (k+1)
    | false=>readyB all os bs (k+1):=rfl
  have ih:=zf5 (all:=all) (os:=os) (bs:=bs) (k:=k+1) (i:=i)
  have split:(∃ j o',i=k+j∧(o::os)[j]?= some o'∧(b::bs)[j]?= some false∧o'.after.toList.all (fun e=>!Region.binds .any e || all.getD e.on false)=true)↔
    (i=k∧b=false∧o.after.toList.all (fun e=>!Region.binds .any e || all.getD e.on false)=true)∨i ∈ readyB all os bs (k+1):=by
   rw [ih];constructor
   ·rintro ⟨j,o',h1,h2,h3,h4⟩;cases j with
    | zero=>simp at h2 h3;subst h2;exact .inl ⟨by omega,h3,h4⟩
    | succ j=>exact .inr ⟨j,o',by omega,by simpa using h2,by simpa using h3,h4⟩
   ·rintro (⟨h1,h2,h3⟩ | ⟨j,o',h1,h2,h3,h4⟩)
    ·exact ⟨0,o,by omega,rfl,by simp [h2],h3⟩
    ·exact ⟨j+1,o',by omega,by simpa using h2,by simpa using h3,h4⟩
  rw [split,e];cases b with
  | true=>simp
  | false=>
   dsimp only;split
   ·rename_i h;rw [h];simp only [List.mem_cons,and_true]
   ·rename_i h;rw [h];simp only [Bool.false_eq_true,and_false,false_or]
theorem zdh {ops:Array Oper} {listed:Array Bool} (hl:listed.size=ops.size) (i:Nat):i ∈ Region.ready .any ops listed↔i ∈ readyB listed.toList ops.toList listed.toList 0:=by
 rw [zf5];unfold Region.ready;rw [List.mem_filter,List.mem_range]
 have z5:∀ o:Oper,o.after.toList.all (fun e=>!Region.binds .any e || listed.toList.getD e.on false)=o.after.all (fun e=>!Region.binds .any e || listed.getD e.on false):=fun o=>by
  rw [<- Array.all_toList]
  congr 1
  funext e
  rw [List.getD_eq_getElem?_getD,Array.getElem?_toList,Array.getD_eq_getD_getElem?]
 constructor
 ·rintro ⟨h1,h2⟩;rw [Bool.and_eq_true] at h2;obtain ⟨h2,h3⟩:=h2;obtain ⟨o,ho⟩:∃ o,ops[i]?= some o:=⟨ops[i],by simp [h1]⟩;rw [ho] at h3;simp only [Option.map_some,Option.getD_some] at h3;refine ⟨i,o,by omega,by rw [Array.getElem?_toList];exact ho,?_,by rw [z5];exact h3⟩;rw [Array.getElem?_toList];rw [Array.getD_eq_getD_getElem?,Array.getElem?_eq_getElem (by omega)] at h2;simp only [Option.getD_some] at h2;rw [Array.getElem?_eq_getElem (by omega)];simpa using h2
 ·rintro ⟨j,o,h1,h2,h3,h4⟩;obtain rfl:i=j:=by omega
  rw [Array.getElem?_toList] at h2 h3;have hlt:=(Array.getElem?_eq_some_iff.1 h2).1;refine ⟨hlt,?_⟩;rw [Bool.and_eq_true];rw [z5] at h4;refine ⟨?_,by rw [h2];simpa using h4⟩;rw [Array.getD_eq_getD_getElem?,h3]
  rfl
theorem zhf {f:Nat->Prop}:∀ {l:List Nat},bothK f l->∀ i ∈ l,f i
 | [],_,i,hi=>by cases hi
 | j::l,h,i,hi=>by
  have h:f j∧bothK f l:=h;rcases List.mem_cons.1 hi with rfl | hi
  ·exact h.1
  ·exact zhf h.2 i hi
theorem jt.zum {o:Oper} {tmps:List C} {H:zk} {R:C->zk->Prop} {x:C} {dst:Option Tmp} {ops:Array Oper} (h:∀ d,dst=some d->d ∉ o.looksAt ops) (h':jt P o (ev (put tmps dst x)) H R):jt P o (ev tmps) H R:=
 fun w E σ hh hl hc K hk=>h' w E σ hh (fun y hy=>by rw [zlb (zf0 h y hy)];exact hl y hy) hc K hk
theorem jt.zp8 {o:Oper} {ρ:Operand->C} {H:zk} {R R':C->zk->Prop} (hR:∀ c H',R c H'->R' c H') (h:jt P o ρ H R):jt P o ρ H R':=
 fun w E σ hh hl hc K hk=>h w E σ hh hl hc K fun c H' v w' E' h1=>hk c H' v w' E' (hR c H' h1)
def zfj (P:Program) (ops:Array Oper) (X:zk->Prop) (i:Nat) (K:S->Prop) (s:S):Prop:=
 match ops[i]? with
 | none=>K s
 | some o=>(ju ops s.tmps o=some true∧jt P o (ev s.tmps) s.H fun c H'=>X H'∧K ⟨put s.tmps o.dst c,H'⟩)∨(ju ops s.tmps o=some false∧K ⟨put s.tmps o.dst .un,s.H⟩)
theorem zno {ops:Array Oper} {X:zk->Prop} {i:Nat} {s:S} {K K':S->Prop} (hX:X s.H) (h:∀ s,X s.H->K s->K' s) (hh:zfj P ops X i K s):zfj P ops X i K' s:=by
 unfold zfj at *;split
 ·exact h _ hX (by simpa [*] using hh)
 ·rename_i o ho;simp only [ho] at hh;rcases hh with ⟨h1,h2⟩ | ⟨h1,h2⟩
  ·exact .inl ⟨h1,h2.zp8 fun c H' ⟨h3,h4⟩=>⟨h3,h _ h3 h4⟩⟩
  ·exact .inr ⟨h1,h _ hX h2⟩
def zkL (P:Program) (md:Region.Mode) (ops:Array Oper) (X:zk->Prop) (Q:S->Prop):Nat->Array Bool->S->Prop
 | 0,listed,s=>Region.ready md ops listed=[]∧Q s
 | fuel+1,listed,s=>(Region.ready md ops listed=[]->Q s)∧∀ i ∈ Region.ready md ops listed,zfj P ops X i (zkL P md ops X Q fuel (listed.setIfInBounds i true)) s
theorem vo {P:Program} {B:Nat} {ops:Array Oper} {md:Region.Mode} {X:zk->Prop} {q:Option Nat} {m:Nat} {H0:zk} {Q:S->Prop} {w0:World} {E0:Env} {Q':Exit->Act->World->Prop} (hQ:∀ s w E a,Q s->xx B m w E s a->jn B w0 E0 H0 w E s.H->Q' .normal a w):
  ∀ (fuel:Nat) (listed:Array Bool) (s:S) (w:World) (E:Env) (a:Act),xx B m w E s a->jn B w0 E0 H0 w E s.H->zkL P md ops X Q fuel listed s->wpAnyIn (fw q) 0 P md ops Q' fuel listed a w
 | 0,_,s,w,E,a,hs,hg,h=>⟨h.1,hQ s w E a h.2 hs hg⟩
 | fuel+1,listed,s,w,E,a,hs,hg,h=>⟨fun h0=>hQ s w E a (h.1 h0) hs hg,fun i hi=>by
   have h1:=h.2 i hi;unfold zfj at h1;unfold wpOpIn;split
   ·rename_i ho;simp only [ho] at h1;exact vo hQ fuel _ s w E a hs hg h1
   ·rename_i o ho;simp only [ho] at h1;rcases h1 with ⟨hw,hv⟩ | ⟨hw,hK⟩
    ·rw [if_pos (jD hs.tmps hw)];refine zbO.zfe (s:=s) hv q m w E a _ Q' hs fun s' w' E' a' hR h2 g2=>?_
     obtain ⟨c,H',⟨_,h3⟩,rfl⟩:=hR;exact vo hQ fuel _ _ w' E' a' h2 (hg.trans g2) h3
    ·rw [if_neg (by rw [jD hs.tmps hw];decide)];exact ⟨fun _ _=>trivial,vo hQ fuel _ ⟨put s.tmps o.dst .un,s.H⟩ w E _ (hs.put .un o.dst) hg hK⟩⟩
theorem znp {ops:Array Oper} {X:zk->Prop} {j:Nat} {oi oj:Oper} {c:C} (hj:ops[j]?= some oj) (hap:oi.apart ops oj=true) {K:S->Prop} {s:S} (hy:YA P ops X oi c s.tmps)
  (h:zfj P ops X j K ⟨put s.tmps oi.dst c,s.H⟩):zfj P ops X j (fun s'=>YA P ops X oi c s'.tmps∧K ⟨put s'.tmps oi.dst c,s'.H⟩) s:=by
 obtain ⟨h1,h2,h3⟩:=Oper.apart_spec hap;unfold zfj at *;simp only [hj] at *;rcases h with ⟨hw,hv⟩ | ⟨hw,hK⟩
 ·refine .inl ⟨(yB h1) ▸ hw,(hv.zp8 fun c' H' ⟨h4,h5⟩=>⟨h4,(YA.put h3).2 hy,?_⟩).zum h1⟩;rw [put_comm _ _ h2] at h5;exact h5
 ·refine .inr ⟨(yB h1) ▸ hw,(YA.put h3).2 hy,?_⟩;rw [put_comm _ _ h2] at hK;exact hK
theorem zkM {ops:Array Oper} {md:Region.Mode} {X:zk->Prop} {Q:S->Prop} {i:Nat} {oi:Oper} {c:C} (hi:ops[i]?= some oi):
  ∀ (fuel:Nat) (listed:Array Bool) (s:S),X s.H->
   (∀ j oj,ops[j]?= some oj->j≠i->listed.getD j true=false->(∀ e ∈ oj.after,Region.binds md e=true->e.on≠i)->oi.apart ops oj=true)->
   i ∈ Region.ready md ops listed->YA P ops X oi c s.tmps->
   zkL P md ops X Q fuel (listed.setIfInBounds i true) ⟨put s.tmps oi.dst c,s.H⟩->zkL P md ops X Q (fuel+1) listed s:=by
 have here:∀ (s:S) (K:S->Prop),X s.H->YA P ops X oi c s.tmps->K ⟨put s.tmps oi.dst c,s.H⟩->zfj P ops X i K s:=fun s K hX hy hK=>by
  unfold zfj;simp only [hi];rcases hy with ⟨h1,h2⟩ | ⟨h1,rfl⟩
  ·exact .inl ⟨h1,(h2 s.H hX).toR ⟨hX,hK⟩⟩
  ·exact .inr ⟨h1,hK⟩
 intro fuel
 induction fuel with
 | zero=>
  intro listed s hX _ hr hy H;refine ⟨fun h=>(by rw [h] at hr;cases hr),fun j hj=>?_⟩;by_cases hji:j=i
  ·subst hji;exact here s _ hX hy H
  ·have:=ready_mono hj hji;rw [H.1] at this;cases this
 | succ fuel ih=>
  intro listed s hX hfree hr hy H;refine ⟨fun h=>(by rw [h] at hr;cases hr),fun j hj=>?_⟩;by_cases hji:j=i
  ·subst hji;exact here s _ hX hy H
  ·have h1:=H.2 j (ready_mono hj hji);obtain ⟨hjun,oj,hoj,z5⟩:=mem_ready.1 hj
   have hnot:∀ e ∈ oj.after,Region.binds md e=true->e.on≠i:=fun e he hb heq=>by
    have h1:=z5 e he hb;have h0:=(mem_ready.1 hr).1;rw [heq] at h1;rcases Nat.lt_or_ge i listed.size with h' | h'
    ·simp [h'] at h0 h1;rw [h0] at h1;cases h1
    ·simp [Array.getElem?_eq_none h'] at h1
   have hap:=hfree j oj hoj hji hjun hnot;have h2:=znp hoj hap hy h1
   have hfree':∀ k ok,ops[k]?= some ok->k≠i->(listed.setIfInBounds j true).getD k true=false->
     (∀ e ∈ ok.after,Region.binds md e=true->e.on≠i)->oi.apart ops ok=true:=fun k ok hk hki hun hno=>by
    refine hfree k ok hk hki ?_ hno;by_cases hjk:j=k
    ·subst hjk;exact hjun
    ·rw [getD_set_ne true hjk] at hun;exact hun
   refine zno hX (fun s' hX' ⟨h3,h4⟩=>ih (listed.setIfInBounds j true) s' hX' hfree' (ready_mono hr (Ne.symm hji)) h3 ?_) h2;rw [Array.setIfInBounds_comm _ _ hji];exact h4
theorem zgK {md:Region.Mode} {ops:Array Oper} (h:wo md ops=true) {i j:Nat} {oi oj:Oper} (hi:ops[i]?= some oi) (hj:ops[j]?= some oj) (hne:j≠i) (hd:zeY md ops (wJ md ops) i j=false)
  (hno:∀ e ∈ oj.after,Region.binds md e=true->e.on≠i):oi.apart ops oj=true:=by
 simp only [wo,zph,List.all_eq_true,List.mem_range] at h;have h1:=h i (Array.getElem?_eq_some_iff.1 hi).1 j (Array.getElem?_eq_some_iff.1 hj).1
 have hb:Nat.beq j i=false:=by
  cases hb:Nat.beq j i with
  | false=>rfl
  | true=>exact absurd (Nat.eq_of_beq_eq_true hb) hne
 simp only [hb,hd,Bool.false_or,hi,hj,Bool.or_eq_true] at h1;rcases h1 with h1 | h1
 ·obtain ⟨e,hem,hb⟩:=Array.any_eq_true'.1 h1;simp only [Bool.and_eq_true,beq_iff_eq] at hb;exact absurd hb.2 (hno e hem hb.1)
 ·exact h1
theorem XC.trans {T:Eag} {H H' H'':zk} (h:XC T H H') (h':XC T H' H''):XC T H H'':=⟨h.1.trans h'.1,h'.2⟩
theorem XC.back {T:Eag} {H H' H'':zk} (h:XC T H H') (h':XC T H H''):XC T H' H'':=⟨fun id hi=>(h'.1 id hi).trans (h.1 id hi).symm,h'.2⟩
theorem zjh {T:Eag} {o:Oper} {ρ:Operand->C} {H:zk} {K:C->zk->Prop} (h:zkU P T H ρ o K):∃ c,(∀ H2,XC T H H2->OpV P o ρ H2 c H2)∧K c H:=by
 unfold zkU at h;split at h
 ·rename_i cl ho;split at h
  ·rename_i x hcl;split at h
   ·rename_i f first caps hf;obtain ⟨h1,r,h2,h3⟩:=zU h;exact ⟨r,fun H2 hx=>.zpr cl ho x hcl hf h1 (h2 H2 hx),q6 (k:=fun c=>K c H) h3⟩
   ·exact h.elim
  ·exact h.elim
 ·obtain ⟨c,h1,h2⟩:=zeb h;exact ⟨c,fun H2 hx=>h1 H2 hx.1,h2⟩
theorem zms {T:Eag} {H0 H H':zk} {k:Prop} (hX:XC T H0 H) (h:zqH T H H' k):XC T H0 H'∧k:=by
 unfold zqH at h;split at h
 ·obtain ⟨h1,h2⟩:=zao h.2;exact ⟨⟨hX.1.trans h1,fun _=>h.1⟩,h2⟩
 ·rename_i hf;obtain ⟨h1,h2⟩:=zao h;exact ⟨⟨hX.1.trans h1,fun h=>by rw [hf] at h;cases h⟩,h2⟩
theorem zbA {bl:List Nat} {ops:Array Oper} {t:List C}:∀ {l:List Nat} {i:Nat},pickE bl ops t l=some i->i ∈ l
 | [],i,h=>by cases h
 | j::l,i,h=>by
  have h:(match ops[j]? with
   | some o=>match xh o || zf4 bl j with
    | true=>some j
    | false=>match ju ops t o with
     | some b=>match b with
      | true=>pickE bl ops t l
      | false=>some j
     | none=>pickE bl ops t l
   | none=>pickE bl ops t l)=some i:=h
  split at h
  ·split at h
   ·cases h;exact List.mem_cons_self ..
   ·split at h
    ·split at h
     ·exact List.mem_cons_of_mem _ (zbA h)
     ·cases h;exact List.mem_cons_self ..
    ·exact List.mem_cons_of_mem _ (zbA h)
  ·exact List.mem_cons_of_mem _ (zbA h)
theorem zb6 {T:Eag} {ops:Array Oper} {H0:zk} {K:List C->zk->Prop} (hap:wo .any ops=true):
  ∀ (fuel:Nat) (listed:Array Bool) (t:List C) (H:zk),Down .any ops listed->listed.size=ops.size->XC T H0 H->bruteK P T ops fuel listed.toList t H K->
   zkL P .any ops (XC T H0) (fun s=>K s.tmps s.H) fuel listed ⟨t,H⟩
 | 0,listed,t,H,hd,hl,hX,h=>by
  have h:match readyB listed.toList ops.toList listed.toList 0 with
   | []=>K t H
   | _::_=>False:=h
  split at h
  ·rename_i hr;refine ⟨?_,h⟩;rw [List.eq_nil_iff_forall_not_mem];intro i hi;have:=(zdh hl i).1 hi;rw [hr] at this;cases this
  ·exact h.elim
 | fuel+1,listed,t,H,hd,hl,hX,h=>by
  have h:match readyB listed.toList ops.toList listed.toList 0 with
   | []=>K t H
   | i::is=>match pickE T.bl ops t (i::is) with
    | some i=>match ops[i]? with
     | some o=>opE P T ops o i (fun t H K=>bruteK P T ops fuel (listed.toList.set i true) t H K) t H K
     | none=>False
    | none=>bothK (fun i=>match ops[i]? with
     | some o=>opS P T ops o (fun t H K=>bruteK P T ops fuel (listed.toList.set i true) t H K) t H K
     | none=>False) (i::is):=h
  split at h
  ·rename_i hr
   have h0:Region.ready .any ops listed=[]:=by
    rw [List.eq_nil_iff_forall_not_mem];intro i hi;have:=(zdh hl i).1 hi;rw [hr] at this;cases this
   exact ⟨fun _=>h,fun i hi=>by rw [h0] at hi;cases hi⟩
  ·rename_i j js hr;have hset:∀ i,(listed.setIfInBounds i true).toList=listed.toList.set i true:=fun i=>by simp
   have hsz:∀ i,(listed.setIfInBounds i true).size=ops.size:=fun i=>by simpa using hl
   split at h
   ·rename_i i hp;have hi:i ∈ Region.ready .any ops listed:=(zdh hl i).2 (by rw [hr];exact zbA hp);split at h
    rotate_left
    ·exact h.elim
    rename_i o ho
    have go:∀ c,YA P ops (XC T H0) o c t->bruteK P T ops fuel (listed.toList.set i true) (put t o.dst c) H K->zkL P .any ops (XC T H0) (fun s=>K s.tmps s.H) (fuel+1) listed ⟨t,H⟩:=fun c hy hb=>
     zkM ho fuel listed ⟨t,H⟩ hX (fun j oj hj hne hun hno=>zgK hap ho hj hne (by
       cases hdp:zeY .any ops (wJ .any ops) i j with
       | false=>rfl
       | true=>
        have h1:=hd.ready hi hdp;rcases Nat.lt_or_ge j listed.size with h' | h'
        ·simp [h'] at h1 hun;rw [h1] at hun;cases hun
        ·simp [Array.getElem?_eq_none h'] at h1) hno) hi hy
      (zb6 hap fuel _ _ _ (hd.step hi) (hsz i) hX (by rw [hset];exact hb))
    unfold opE at h;split at h
    ·rename_i hw;split at h
     ·obtain ⟨c,h1,h2⟩:=zjh h;exact go c (.inl ⟨hw,fun H2 h3=>h1 H2 (hX.back h3)⟩) (jx (k:=fun t=>bruteK P T ops fuel (listed.toList.set i true) t H K) h2)
     ·split at h
      ·rename_i hb;obtain ⟨c,h1,h2⟩:=zeK hb h;exact go c (.inl ⟨hw,fun H2 _=>h1 H2⟩) (jx (k:=fun t=>bruteK P T ops fuel (listed.toList.set i true) t H K) h2)
      ·exact h.elim
    ·rename_i hw;exact go .un (.inr ⟨hw,rfl⟩) (jx (k:=fun t=>bruteK P T ops fuel (listed.toList.set i true) t H K) h)
    ·exact h.elim
   ·have hne:Region.ready .any ops listed≠[]:=fun h0=>by
     have:j ∈ readyB listed.toList ops.toList listed.toList 0:=by rw [hr];exact List.mem_cons_self ..
     have:=(zdh hl j).2 this;rw [h0] at this;cases this
    refine ⟨fun h0=>absurd h0 hne,fun i hi=>?_⟩;have hi2:=(zdh hl i).1 hi;rw [hr] at hi2;have h1:=zhf h i hi2;split at h1
    rotate_left
    ·exact h1.elim
    rename_i o ho;unfold zfj;rw [ho];dsimp only
    have next:∀ t' H',XC T H0 H'->bruteK P T ops fuel (listed.toList.set i true) t' H' K->zkL P .any ops (XC T H0) (fun s=>K s.tmps s.H) fuel (listed.setIfInBounds i true) ⟨t',H'⟩:=fun t' H' hX' hb=>
     zb6 hap fuel _ _ _ (hd.step hi) (hsz i) hX' (by rw [hset];exact hb)
    unfold opS at h1;split at h1
    ·rename_i hw;refine .inl ⟨hw,?_⟩;split at h1
     ·rename_i hlo;obtain ⟨c,h2,h3⟩:=zgy hlo h1;exact h2.toR ⟨hX,next _ _ hX (jx (k:=fun t=>bruteK P T ops fuel (listed.toList.set i true) t H K) h3)⟩
     ·refine (zgc h1).zp8 fun c H' h2=>?_
      obtain ⟨h3,h4⟩:=zms hX h2;exact ⟨h3,next _ _ h3 (jx (k:=fun t=>bruteK P T ops fuel (listed.toList.set i true) t H' K) h4)⟩
    ·rename_i hw;exact .inr ⟨hw,next _ _ hX (jx (k:=fun t=>bruteK P T ops fuel (listed.toList.set i true) t H K) h1)⟩
    ·exact h1.elim
theorem qQ.ztJ {P:Program} {B:Nat} {ops:Array Oper} {id:Nat} {t:List C} {H:zk} {R:Exit->S->Prop} {R':List C->zk->Prop} {T:Eag} (hm:P.follows .mixedOrders=true) (hap:wo .any ops=true) (hf:T.flat=true->qK H=true)
  (h:bruteK P T ops ops.size (ops.toList.map fun _=>false) t H (fun t1 H1=>∃ t2 H2,zo B ⟨t1,H1⟩ ⟨t2,H2⟩∧R' t2 H2)) (hR:∀ t2 H2,R' t2 H2->R .normal ⟨t2,H2⟩):qQ P B (.region id ops true) ⟨t,H⟩ R:=fun q m w E a Q _ hs hq=>by
 refine wpIn_region_any hm (vo (X:=XC T H) (H0:=H) (Q:=fun s=>∃ t2 H2,zo B s ⟨t2,H2⟩∧R' t2 H2) (w0:=w) (E0:=E) (fun s1 w1 E1 a1 he h1 g1=>?_) _ _ ⟨t,H⟩ _ E a hs.drew ((Grow.drew w E H).toB tB) ?_)
 ·obtain ⟨t2,H2,hw,hR2⟩:=he;obtain ⟨E2,h2,g2⟩:=hw m w1 E1 a1 h1;exact hq _ _ w1 E2 a1 (hR t2 H2 hR2) h2 (g1.trans g2)
 ·have e:(Array.replicate ops.size false).toList=ops.toList.map fun _=>false:=by
   rw [Array.toList_replicate,List.map_const'];simp
  refine zb6 (K:=fun t1 H1=>∃ t2 H2,zo B ⟨t1,H1⟩ ⟨t2,H2⟩∧R' t2 H2) hap _ _ _ _ Down.start (by simp) ⟨.refl _ _,hf⟩ ?_;rw [e];exact h
structure zcA (P:Program) (B:Nat) (c:Code) (t:List C) (H:zk) (K:Exit->List C->zk->Prop):Prop where
 out:qf P B c ⟨t,H⟩ fun ex s=>K ex s.tmps s.H
def ztT (P:Program) (B:Nat) (c:Code):WK:=fun t H K=>zcA P B c t H K
def zmg (P:Program) (B:Nat) (g:Operand) (ps:Array Tmp) (assign body:Code):WK:=fun t H K=>match ev t g with
 | .fn f first caps=>bK (qm P f && first.isEmpty) <| ∃ H0,zo B ⟨t,H⟩ ⟨t,H0⟩∧∃ ex t' H',(∀ (l:Nat) (r:Loop),r.state=.ready->r.pending=none->r.params=ps->r.assign=assign->r.body=body->
   ∃ (rr:C) (Hf:zk) (rf:Loop),zb P f (H0++[obR l r t]) (.v (.func (.yield l) #[] #[])::caps) rr Hf∧Hf[H0.length]?= some (obR l rf t)∧rf.state≠.busy∧rf.tmps=r.tmps∧B<=Hf.length∧zt0 rf.pending ex∧
    zo B ⟨t,Hf.set H0.length (obR l { rf with state:=.exhausted } t)⟩ ⟨t',H'⟩)∧K ex t' H'
 | _=>False
structure kR (P:Program) (B:Nat) (c:Code) (l:Nat) (t:List C) (H:zk) (K:Exit->List C->zk->Prop):Prop where
 out:zfk P B c (fun ex s=>K ex s.tmps s.H) l ⟨t,H⟩
def ztp (P:Program) (B:Nat) (c:Code) (x:WK):WK:=fun t H K=>x t H fun ex t H=>match ex with
 | .goto l=>kR P B c l t H K
 | ex=>K ex t H
def noK:WK:=fun _ _ _=>False
noncomputable def wpA (P:Program) (B:Nat) (c:Code):WK:=
 Code.rec (motive:=fun _=>WK) (fun t H K=>K .normal t H) (fun _ ops draw=>regionK P B ops draw) (fun _ _ x y=>zur x y) (fun c _ _ x y=>zpw c x y) (fun id _ x=>zsO id x) (fun c _=>ztT P B c)
  (fun g ps assign body _ _=>zmg P B g ps assign body) (fun id t H K=>K (.exit id) t H) (fun c x=>ztp P B c x) (fun _ t H K=>K .normal t H) (fun l t H K=>K (.goto l) t H) (fun t H K=>K .ret t H) (fun _=>noK) c
theorem jl:∀ {c:Code} {t:List C} {H:zk} {K:Exit->List C->zk->Prop},wpA P B c t H K->qQ P B c ⟨t,H⟩ fun ex s=>K ex s.tmps s.H:=by
 intro c
 induction c with
 | skip=>intro t H K h;exact .skip h
 | exit id=>intro t H K h;exact .exit id h
 | ret=>intro t H K h;exact .ret h
 | label l=>intro t H K h;exact .label l h
 | seq x y ihx ihy=>
  intro t H K h;refine .seq ((ihx (t:=t) (H:=H) (K:=fun ex t H=>match ex with | .normal=>wpA P B y t H K | ex=>K ex t H) h).mono fun ex s1 h1=>?_);cases ex with
  | normal=>exact ihy h1
  | _=>exact h1
 | block id c ih=>
  intro t H K h;refine .block ((ih (t:=t) (H:=H) (K:=fun ex t H=>match ex with | .exit id'=>if id'=id then K .normal t H else K (.exit id') t H | ex=>K ex t H) h).mono fun ex s1 h1=>?_);cases ex with
  | exit id'=>exact h1
  | _=>exact h1
 | scope c ih=>
  intro t H K h;refine .zto ((ih (t:=t) (H:=H) (K:=fun ex t H=>match ex with | .goto l=>kR P B c l t H K | ex=>K ex t H) h).mono fun ex s1 h1=>?_);cases ex with
  | goto l=>exact (show kR P B c l s1.tmps s1.H K from h1).out
  | _=>exact h1
 | goto l=>intro t H K h;exact .goto l h
 | cond c x y ihx ihy=>
  intro t H K h
  change zpw c (wpA P B x) (wpA P B y) t H K at h
  unfold zpw at h;split at h
  ·rename_i b hb;cases b with
   | true=>exact .cond (s:=⟨t,H⟩) hb (ihx h)
   | false=>exact .cond (s:=⟨t,H⟩) hb (ihy h)
  ·exact h.elim
 | region id ops draw=>
  intro t H K h;cases draw with
  | false=>exact .region (zd0 (show zdZ P ops ops.toList t H (fun t H=>K .normal t H) from h))
  | true=>
   rcases (show (∃ T:zaA,(P.follows .mixedOrders && Region.lexB .any ops && zhU .any T ops)=true∧zdb P T ops ops.toList 0 t H fun t H=>K .normal t H)∨
    ∃ T:Eag,(P.follows .mixedOrders && wo .any ops)=true∧(T.flat=true->qK H=true)∧∃ R:List C->zk->Prop,bruteK P T ops ops.size (ops.toList.map fun _=>false) t H (fun t1 H1=>∃ t2 H2,zo B ⟨t1,H1⟩ ⟨t2,H2⟩∧R t2 H2)∧∀ t2 H2,R t2 H2->K .normal t2 H2 from h) with h | ⟨T,hm,hf,R,h1,h2⟩
   rotate_left
   ·rw [Bool.and_eq_true] at hm;exact qQ.ztJ hm.1 hm.2 hf h1 h2
   obtain ⟨T,h1,h2⟩:=h;simp only [Bool.and_eq_true] at h1;obtain ⟨s',h3,h4⟩:=Run.ztN (B:=B) (id:=id) h1.1.1 h1.1.2 h1.2 h2;exact qQ.mono h3 fun ex s1 ⟨e1,e2⟩=>by subst e1 e2;exact h4
 | loop c ih=>intro t H K h;exact .loop (show zcA P B c t H K from h).out
 | rangeFunc g ps assign body=>
  intro t H K h
  change zmg P B g ps assign body t H K at h
  unfold zmg at h;split at h
  ·rename_i f first caps hg;obtain ⟨h1,H0,h0,ex,t',H',h2,h3⟩:=zU h;simp only [Bool.and_eq_true,List.isEmpty_iff] at h1;obtain ⟨h1,rfl⟩:=h1;refine .pre h0 (.rangeFunc hg h1 fun l r a1 a2 a3 a4 a5=>?_);obtain ⟨rr,Hf,rf,b1,b2,b3,b4,b5,b6,b7⟩:=h2 l r a1 a2 a3 a4 a5;exact ⟨rr,Hf,rf,ex,⟨t',H'⟩,b1,b2,b3,b4,b5,b6,b7,h3⟩
  ·exact h.elim
 | _=>intro t H K h;exact (show False from h).elim
theorem kR.go {c rest:Code} {l:Nat} {t:List C} {H:zk} {K:Exit->List C->zk->Prop} (hf:findLabel c l=some rest)
  (h:wpA P B rest t H fun ex t H=>match ex with | .goto l=>kR P B c l t H K | ex=>K ex t H):kR P B c l t H K:=by
 refine ⟨.mk _ hf (jl h) (fun e s h1 he=>?_) fun l s h1=>(show kR P B c l s.tmps s.H K from h1).out⟩;cases e with
 | goto l=>exact absurd rfl (he l)
 | _=>exact h1
theorem jh.zS {H1 H':zk} {id l:Nat} {r:Loop} {t:List C} {args:List C} {rv:Bool} {ps:Array Tmp} {assign body:Code} (hob:H1[id]?= some (obR l r t)) (hst:r.state=.ready) (hpe:r.pending=none) (hps:r.params=ps) (ha:r.assign=assign) (hb:r.body=body)
  (hn:args.length=ps.size) (hna:xb assign=false) (hnb:xb body=false)
  (h:wpA P H1.length assign (zl4 t ps.toList args) H1 fun e t1 H1'=>e=.normal∧H1'[id]?= some (obR l r t)∧wpA P H1.length body t1 (H1'.set id (obR l (busy r) t)) fun e t2 H2=>
   ∃ t3 H3,zo H1.length ⟨t2,H2⟩ ⟨t3,H3⟩∧zqA id l r t rv H' e H3):
  jh P l H1 args (.v (.bool rv)) H':=by
 subst hps ha hb;refine jh.kH hob hst hpe hn hna hnb ((jl h).mono fun e s1 ⟨h1,h2,h3⟩=>⟨h1,h2,(jl h3).mono fun e s2 ⟨t3,H3,h4,h5⟩=>⟨⟨t3,H3⟩,h4,h5⟩⟩)
theorem qf.inv {c:Code} {t:List C} {H:zk} {K:Exit->List C->zk->Prop} (I:Nat->List C->zk->Prop) (n:Nat) (h0:∃ t0 H0,zo B ⟨t,H⟩ ⟨t0,H0⟩∧I n t0 H0)
  (step:∀ n t H,I n t H->wpA P B c t H fun e t1 H1=>(e=.normal∧∃ m t2 H2,m < n∧zo B ⟨t1,H1⟩ ⟨t2,H2⟩∧I m t2 H2)∨(e≠.normal∧K e t1 H1)):
  zcA P B c t H K:=by
 obtain ⟨t0,H0,hw,hI⟩:=h0;refine ⟨.pre hw ?_⟩
 suffices key:∀ n t H,I n t H->zaG P B c (n+1) ⟨t,H⟩ fun ex s=>K ex s.tmps s.H from ⟨n+1,key n t0 H0 hI⟩
 intro n
 induction n using Nat.strongRecOn with
 | _ n ih=>
  intro t H hI;refine .step ((jl (step n t H hI)).post fun ex s1 h1=>?_);rcases h1 with ⟨rfl,m,t2,H2,hm,hw2,hI2⟩ | ⟨hne,hK⟩
  ·exact ⟨⟨t2,H2⟩,hw2,(zaG.more (by omega) (ih m hm t2 H2 hI2):zaG P B c n ⟨t2,H2⟩ _)⟩
  ·refine ⟨s1,.refl s1,?_⟩;cases ex with
   | normal=>exact absurd rfl hne
   | _=>exact hK
theorem zb.zS {f:FuncId} {fn:Func} {c:Code} {H H':zk} {args:List C} {r:C} (hf:P.funcs[f]?= some fn) (hb:fn.body=some c)
  (h:wpA P H.length c (entry fn args) H fun ex t1 H1=>(ex=.ret∨ex=.normal)∧∃ s2,zo H.length ⟨t1,H1⟩ s2∧s2.H=H'∧vT P fn s2=some r):zb P f H args r H':=
 qw.at (qw.kH hf hb ((jl h).mono fun ex s1 ⟨hex,s2,hw,h2,h3⟩=>⟨hex,s2,r,hw,h3,rfl,h2⟩))
theorem qw.zS {f:FuncId} {fn:Func} {c:Code} {H:zk} {args:List C} {R:C->zk->Prop} (hf:P.funcs[f]?= some fn) (hb:fn.body=some c)
  (h:wpA P H.length c (entry fn args) H fun ex t1 H1=>(ex=.ret∨ex=.normal)∧∃ s2 r,zo H.length ⟨t1,H1⟩ s2∧vT P fn s2=some r∧R r s2.H):qw P f H args R:=
 qw.kH hf hb (jl h)
theorem zb.ziJ {f:FuncId} {fn:Func} {c:Code} {args:List C} {r:C} (hf:P.funcs[f]?= some fn) (hb:fn.body=some c)
  (h:wpA P 0 c (entry fn args) [] fun ex t1 H1=>(ex=.ret∨ex=.normal)∧∃ s2,zo 0 ⟨t1,H1⟩ s2∧vT P fn s2=some r) (hr:qS 0 9 r=true):zb P f [] args r []:=
 qw.close (R:=fun c=>c=r) (qw.kH (H:=[]) (R:=fun c _=>c=r) hf hb ((jl h).mono fun ex s1 ⟨hex,s2,hw,h2⟩=>⟨hex,s2,r,hw,h2,rfl⟩)) fun c h=>⟨h,hr⟩
end
theorem q0 {n:Int} (h0: -9223372036854775808<=n) (h1:n<=9223372036854775807):IntKind.i64.wrap n=n:=IntWalk.i64_in n ⟨h0,h1⟩
theorem zA {n:Nat} (h:n < 9223372036854775807):IntKind.i64.wrap ((n:Int)+1)=((n+1:Nat):Int):=by rw [q0 (by omega) (by omega)];rfl
section
variable {P:Program} {f:FuncId} {H H':zk}
theorem zb.pre {args args':List C} {r:C} (h:zb P f H args' r H') (hw:WCs args args'):zb P f H args r H':=fun w E vs hh hl=>h w E vs hh (hw.LL hl)
theorem zb.post {args:List C} {r r':C} (h:zb P f H args r H') (hw:WC r r'):zb P f H args r' H':=fun w E vs hh hl=>(h w E vs hh hl).mono fun e w' ⟨v,E',h1,h2,h3,h4⟩=>⟨v,E',h1,h2,hw E' v h3,h4⟩
theorem toNat_cast (n:Nat):((n:Int)).toNat=n:=by simp
end
theorem zc9 {P:Program} {f:FuncId} {vs:Array Value} {v:Value} {args:List C} {r:C} (H:zk) (hc:∀ w,Calls P f vs w fun e w'=>e=.returned v∧w'=w) (ha:∀ E (us:Array Value),LL E args us.toList->us=vs) (hr:∀ E,L E r v):zb P f H args r H:=fun w E us hh hl=>by
 obtain rfl:=ha E us hl;refine (hc w).mono ?_;rintro e w' ⟨rfl,rfl⟩;exact ⟨v,E,rfl,hh,hr E,Grow.refl _ _ _⟩
theorem ztI {a:Value} (E:Env) (us:Array Value) (h:LL E [.v a] us.toList):us= #[a]:=by
 obtain ⟨l⟩:=us
 match l,h with
 | [],h=>have:=h.1;simp at this
 | [x],h=>
  obtain ⟨h1,_⟩:=h.cons_inv;cases h1;rfl
 | _::_::_,h=>have:=h.1;simp at this
theorem zpk {a b:Value} (E:Env) (us:Array Value) (h:LL E [.v a,.v b] us.toList):us= #[a,b]:=by
 obtain ⟨l⟩:=us
 match l,h with
 | [],h=>have:=h.1;simp at this
 | [_],h=>have:=h.1;simp at this
 | [x,y],h=>
  obtain ⟨h1,h2⟩:=h.cons_inv;obtain ⟨h2,_⟩:=h2.cons_inv;cases h1;cases h2;rfl
 | _::_::_::_,h=>have:=h.1;simp at this
theorem yg {α:Type} {l:List α} {t:Nat} {y:α} (h:l[t]?= some y):l.set t y=l:=by
 apply List.ext_getElem?
 intro i;rw [List.getElem?_set];split
 ·rename_i e;subst e;obtain ⟨h1,h2⟩:=List.getElem?_eq_some_iff.1 h;rw [if_pos h1,h]
 ·rfl
section
variable {B:Nat} {s:S}
theorem z8.freeze {w:World} {E:Env} {H:zk} (h:z8 w E H) {id:Nat} {ob:Ob} (hob:H[id]?= some ob) (hk:ob.kind=2) (hno:∀ i k c,cellAt ob.rows i k=some c->zx c=true):
  ∃ E',E.le E'∧z8 w E' (H.modify id fun ob=>⟨ob.kind,ob.ty,ob.sz,ob.rows,ob.rows.length⟩)∧(∀ b o u,E'.St b o=some u->E.St b o=some u∨b=E.β id [])∧E'.β=E.β∧E'.G=E.G∧
   ∀ i k c,cellAt ob.rows i k=some c->∃ u,E'.St (E.β id []) (i * ob.sz+k)=some u∧L E'.shut c u:=by
 have hgb:zZ H id []=some (ob.sz,ob.rows):=by unfold zZ;rw [hob];simp [hk,qL]
 have hB:=h.blk id ob [] _ _ hob hgb;obtain ⟨cur,e,hg,hcs,hcell⟩:=hB.blk
 have key:∀ o,o < ob.rows.length * ob.sz->∃ u,cur[o]?= some u∧u.oneCell'=true∧w.cell? ⟨E.β id [],o,none⟩=some u:=by
  intro o ho;obtain ⟨h1,h2,h3⟩:=zaX ho;obtain ⟨c,hc⟩:=kS hB.row h1 h2;obtain ⟨u,hu,hok⟩:=hcell _ _ c hc;rw [qN.loose (hno _ _ c hc)] at hok;rw [h3] at hu;exact ⟨u,hu,hok.2,by unfold World.cell?;rw [hg];simpa using hu⟩
 obtain ⟨E',hE'⟩:∃ E':Env,E'={ E with St:=fun b o=>if b=E.β id []∧o < ob.rows.length * ob.sz then cur[o]? else E.St b o }:=⟨_,rfl⟩
 have hle:E.le E':=by
  subst hE';refine ⟨Nat.le_refl _,fun _ _ _=>rfl,fun _ _ _=>rfl,fun b o u hu=>?_,fun _ _ _ _ hu=>hu⟩;show (if b=E.β id []∧o < ob.rows.length * ob.sz then cur[o]? else E.St b o)=some u;split
  ·rename_i hc;obtain ⟨rfl,ho⟩:=hc;obtain ⟨u',h1,_,h2⟩:=key o ho;have:=(h.qo _ _ _ hu).1;rw [h2] at this;rw [h1,<- this]
  ·exact hu
 have hSt:∀ b o u,E'.St b o=some u->E.St b o=some u∨(b=E.β id []∧o < ob.rows.length * ob.sz∧cur[o]?= some u):=by
  subst hE';intro b o u hu
  change (if b=E.β id []∧o < ob.rows.length * ob.sz then cur[o]? else E.St b o)=some u at hu
  split at hu
  ·rename_i hc;exact .inr ⟨hc.1,hc.2,hu⟩
  ·exact .inl hu
 have hβ:E'.β=E.β:=by subst hE';rfl
 have hn:E'.n=E.n:=by subst hE';rfl
 have get:∀ id' hops x,zZ (H.modify id fun ob=>⟨ob.kind,ob.ty,ob.sz,ob.rows,ob.rows.length⟩) id' hops=some x->zZ H id' hops=some x:=by
  intro id' hops x hx;obtain ⟨ob',ho',hk',hg'⟩:=qZ hx;rw [List.getElem?_modify] at ho';cases hx':H[id']? with
  | none=>rw [hx'] at ho';cases ho'
  | some ob0=>
   rw [hx'] at ho';simp only [Option.map_eq_map,Option.map_some,Option.some.injEq] at ho';unfold zZ;rw [hx'];split at ho'
   ·subst ho';simp only [hk',if_true];exact hg'
   ·subst ho';simp only [hk',if_true];exact hg'
 have obs:∀ (id':Nat) (ob':Ob),(H.modify id fun ob=>⟨ob.kind,ob.ty,ob.sz,ob.rows,ob.rows.length⟩)[id']?= some ob'->∃ ob0,H[id']?= some ob0∧ob'.kind=ob0.kind∧ob'.ty=ob0.ty∧ob'.sz=ob0.sz∧ob'.rows=ob0.rows∧ob0.fz<=ob'.fz∧ob'.fz<=ob'.rows.length∧(id'=id->ob'.fz=ob0.rows.length):=by
  intro id' ob' ho';rw [List.getElem?_modify] at ho';cases hx':H[id']? with
  | none=>rw [hx'] at ho';cases ho'
  | some ob0=>
   rw [hx'] at ho';simp only [Option.map_eq_map,Option.map_some,Option.some.injEq] at ho';have:=h.fz id' ob0 hx';split at ho'
   ·subst ho';exact ⟨ob0,rfl,rfl,rfl,rfl,rfl,this,Nat.le_refl _,fun _=>rfl⟩
   ·rename_i hne;subst ho';exact ⟨ob0,rfl,rfl,rfl,rfl,rfl,Nat.le_refl _,this,fun e=>absurd e.symm hne⟩
 refine ⟨E',hle,⟨by rw [hn,h.n];simp,?_,?_,?_,?_,?_,?_⟩,fun b o u hu=>(hSt b o u hu).imp_right (·.1),hβ,by subst hE';rfl,?_⟩
 ·intro id' ob' hops sz rows hob' hx;obtain ⟨ob0,h1,h2,_⟩:=obs id' ob' hob';have hx':=get _ _ _ hx;rw [h2];exact (h.blk id' ob0 hops sz rows h1 hx').step hle (by rw [h.n];exact zad hx') rfl
 ·intro id1 p1 id2 p2 x y hx hy he;rw [hβ] at he;exact h.inj id1 p1 id2 p2 x y (get _ _ _ hx) (get _ _ _ hy) he
 ·intro b o u hu;rcases hSt b o u hu with h1 | ⟨rfl,h2,h3⟩
  ·exact h.qo b o u h1
  ·obtain ⟨u',h4,h5,h6⟩:=key o h2;rw [h3] at h4;cases h4
   exact ⟨h6,h5⟩
 ·intro id' hops x o u hx hu;have hx':=get _ _ _ hx;rw [hβ] at hu;obtain ⟨ob1,ho1,_,_⟩:=qZ hx;obtain ⟨ob0,h1,h2,h3,h4,h5,h6,h7,h8⟩:=obs id' ob1 ho1;rcases hSt _ o u hu with h9 | ⟨h9,h10,_⟩
  ·obtain ⟨e1,ob2,e2,e3⟩:=h.sep id' hops x o u hx' h9;rw [h1] at e2;cases e2
   exact ⟨e1,ob1,ho1,by rw [h4];exact Nat.lt_of_lt_of_le e3 (Nat.mul_le_mul_right _ h6)⟩
  ·obtain ⟨rfl,rfl⟩:=h.inj id' hops id [] x _ hx' hgb h9;rw [hob] at h1;cases h1
   exact ⟨rfl,ob1,ho1,by rw [h8 rfl,h4];exact h10⟩
 ·intro id' ob' hob' hk';obtain ⟨ob0,h1,h2,h3,_⟩:=obs id' ob' hob';obtain ⟨cur',hc⟩:=h.ty id' ob0 h1 (by rw [<- h2];exact hk');exact ⟨cur',by rw [hβ,h3];exact hc⟩
 ·intro id' ob' hob';obtain ⟨ob0,h1,h2,h3,h4,h5,h6,h7,h8⟩:=obs id' ob' hob';exact h7
 ·intro i k c hc;obtain ⟨u,hu,hok⟩:=hcell i k c hc;rw [qN.loose (hno _ _ c hc)] at hok;obtain ⟨h1,h2⟩:=zbr hB.row hc
  have hlt:i * ob.sz+k < ob.rows.length * ob.sz:=by
   have:(i+1) * ob.sz<=ob.rows.length * ob.sz:=Nat.mul_le_mul_right _ h1;rw [Nat.add_mul] at this;omega
  refine ⟨u,?_,?_⟩
  ·subst hE';show (if E.β id []=E.β id []∧i * ob.sz+k < ob.rows.length * ob.sz then cur[i * ob.sz+k]? else _)=some u;rw [if_pos ⟨rfl,hlt⟩];exact hu
  ·have h3:=hok.1;simp only [Env.at,hk,if_true] at h3;exact h3.mono hle.shut
theorem zo.freeze (t:Nat) {id sz lo len:Nat} {full:Bool} {ob:Ob} (ht:s.tmps[t]?= some (.sl id [] sz lo len full)) (hob:s.H[id]?= some ob) (hk:ob.kind=2) (hsz:ob.sz=sz) (hlen:lo+len<=ob.rows.length)
  (hno:∀ r ∈ ob.rows,∀ c ∈ r,zx c=true):
  zo B s ⟨s.tmps.set t (.lst (if full then 1 else 0) sz ((ob.rows.drop lo).take len)),s.H.modify id fun ob=>⟨ob.kind,ob.ty,ob.sz,ob.rows,ob.rows.length⟩⟩:=fun m w E a hs=>by
 subst hsz
 have hno':∀ i k c,cellAt ob.rows i k=some c->zx c=true:=fun i k c hc=>by
  unfold cellAt at hc;cases hx:ob.rows[i]? with
  | none=>rw [hx] at hc;cases hc
  | some r=>rw [hx] at hc;exact hno r (List.mem_of_getElem? hx) c (List.mem_of_getElem? hc)
 obtain ⟨E',hle,hR,hnew,hβ,hKG0,hcells⟩:=hs.heap.base.freeze hob hk hno';have hgb:zZ s.H id []=some (ob.sz,ob.rows):=by unfold zZ;rw [hob];simp [hk,qL]
 have hrow:=(hs.heap.base.blk id ob [] _ _ hob hgb).row;obtain ⟨y,hy,hl⟩:=hs.tmps.get ht
 have hnl:L E' (.lst (if full then 1 else 0) ob.sz ((ob.rows.drop lo).take len)) y:=by
  generalize hc:C.sl id [] ob.sz lo len full=c at hl;cases hl with
  | sl id' hops' sz' lo' len' full' cap hn hlen' hf hf'=>
   cases hc
   have hrl:((ob.rows.drop lo).take len).length=len:=by simp;omega
   have hsub:∀ i k,cellAt ((ob.rows.drop lo).take len) i k=if i < len then cellAt ob.rows (lo+i) k else none:=by
    intro i k;unfold cellAt;rw [List.getElem?_take];split
    ·rw [List.getElem?_drop]
    ·rfl
   have ex:∀ i r k c,((ob.rows.drop lo).take len)[i]?= some r->r[k]?= some c->∃ u,E'.St (E.β id []) (lo * ob.sz+i * ob.sz+k)=some u∧L E'.shut c u:=by
    intro i r k c hr hc;have hcc:cellAt ((ob.rows.drop lo).take len) i k=some c:=by unfold cellAt;rw [hr];exact hc
    rw [hsub] at hcc;split at hcc
    ·obtain ⟨u,h1,h2⟩:=hcells _ _ c hcc;exact ⟨u,by rw [<- Nat.add_mul];exact h1,h2⟩
    ·cases hcc
   have:=L.lst (E:=E') (if full then 1 else 0) ob.sz ((ob.rows.drop lo).take len) (E.β id []) (lo * ob.sz) cap (fun i k=>(E'.St (E.β id []) (lo * ob.sz+i * ob.sz+k)).getD undef) ?_ ?_ ?_ ?_ ?_
   ·rw [hrl] at this;exact this
   ·cases full with
    | false=>exact .inl rfl
    | true=>exact .inr ⟨rfl,by rw [hrl];exact hf rfl⟩
   ·rw [hrl];exact hlen'
   ·exact fun r hr=>hrow r (List.mem_of_mem_drop (List.mem_of_mem_take hr))
   ·intro i r k c hr hc;obtain ⟨u,h1,h2⟩:=ex i r k c hr hc;rw [h1];rfl
   ·intro i r k c hr hc;obtain ⟨u,h1,h2⟩:=ex i r k c hr hc;rw [h1];exact h2
  | _=>cases hc
 have hG:qv w E s.H w E' (s.H.modify id fun ob=>⟨ob.kind,ob.ty,ob.sz,ob.rows,ob.rows.length⟩):=by
  have hKG:∀ (id k:Nat),id < E.n->E'.G id k=E.G id k:=fun _ _ _=>by rw [hKG0]
  refine ⟨hle,hKG,rfl,rfl,rfl,Nat.le_refl _,fun _ _ _=>rfl,fun b o u hu=>?_,?_⟩
  ·rcases hnew b o u hu with h1 | h1
   ·exact .inl h1
   ·exact .inr (.inr ⟨id,[],_,hgb,h1.symm⟩)
  ·rintro b ⟨id',p,x,hx,rfl⟩
   right
   refine ⟨id',p,x,?_,by rw [hβ]⟩;obtain ⟨ob',ho',hk',hg'⟩:=qZ hx;rw [List.getElem?_modify] at ho';cases hx':s.H[id']? with
   | none=>rw [hx'] at ho';cases ho'
   | some ob0=>
    rw [hx'] at ho';simp only [Option.map_eq_map,Option.map_some,Option.some.injEq] at ho';unfold zZ;rw [hx'];split at ho'
    ·subst ho';simp only [hk',if_true];exact hg'
    ·subst ho';simp only [hk',if_true];exact hg'
 have hk4:jr s.H (s.H.modify id fun ob=>⟨ob.kind,ob.ty,ob.sz,ob.rows,ob.rows.length⟩):=jr.modify _ _ _ fun ob' h'=>by
  rw [hob] at h';cases h'
  exact ⟨by rw [hk];decide,by show ob.kind≠4;rw [hk];decide⟩
 refine ⟨E',⟨⟨hR,Gro.step hs.heap hG hk4⟩,?_,hs.defers,by simpa using hs.base⟩,(hG.up hs.heap hk4).toB tB⟩;have:=(hs.tmps.mono hle).set hnl t;rw [yg hy] at this;exact this
end
def posOf:List Nat->Nat->Nat->Option Nat
 | [],_,_=>none
 | x::xs,i,id=>if x == id then some i else posOf xs (i+1) id
theorem xG:∀ {sel:List Nat} {k id i:Nat},posOf sel k id=some i->k<=i∧sel[i - k]?= some id
 | [],k,id,i,h=>by simp [posOf] at h
 | x::xs,k,id,i,h=>by
  unfold posOf at h;split at h
  ·rename_i e;cases h
   exact ⟨Nat.le_refl _,by simpa using e⟩
  ·obtain ⟨h1,h2⟩:=xG h;refine ⟨by omega,?_⟩;rw [show i - k=(i - (k+1))+1 from by omega];simpa using h2
def xH (sel:List Nat):Nat->C->C
 | 0,_=>.za
 | k+1,c=>match c with
  | .ref id hops sz i j=>match posOf sel 0 id with
   | some id'=>.ref id' hops sz i j
   | none=>.za
  | .sl id hops sz lo len full=>match posOf sel 0 id with
   | some id'=>.sl id' hops sz lo len full
   | none=>.za
  | .mp id=>match posOf sel 0 id with
   | some id'=>.mp id'
   | none=>.za
  | .gl id sz rows=>match posOf sel 0 id with
   | some id'=>.gl id' sz rows
   | none=>.lst 0 sz rows
  | .ifc t c=>.ifc t (xH sel k c)
  | .rc r=>.rc r
  | .agg cs=>.agg (cs.map (xH sel k))
  | .tup cs=>.tup (cs.map (xH sel k))
  | .fn f first caps=>.fn f (first.map (xH sel k)) (caps.map (xH sel k))
  | .v x=>.v x
  | .lst o sz rows=>.lst o sz rows
  | .jG cells=>.jG cells
  | .un=>.un
  | .za=>.za
def Env.ren (E:Env) (sel:List Nat):Env:={ n:=sel.length,β:=fun i hops=>E.β ((sel[i]?).getD 0) hops,κ:=fun i hops=>E.κ ((sel[i]?).getD 0) hops,St:=E.St,G:=fun i k=>E.G ((sel[i]?).getD 0) k }
theorem Env.zdi (E:Env) (sel:List Nat):E.shut.le (E.ren sel).shut:=⟨Nat.le_refl _,fun id hops hi=>absurd hi (Nat.not_lt_zero _),fun id hops hi=>absurd hi (Nat.not_lt_zero _),fun b o u hu=>hu,fun id _ _ hi=>absurd hi (Nat.not_lt_zero _)⟩
theorem LL.ren {E E':Env} {f:C->C} {cs:List C} {ys:List Value} (h:LL E cs ys) (hf:∀ c y,L E c y->L E' (f c) y):LL E' (cs.map f) ys:=
 ⟨by simpa using h.1,fun i c y e1 e2=>by
  rw [List.getElem?_map] at e1;cases hx:cs[i]? with
  | none=>rw [hx] at e1;cases e1
  | some c0=>rw [hx] at e1;cases e1;exact hf c0 y (h.2 i c0 y hx e2)⟩
theorem L.ren {E:Env} (sel:List Nat):∀ (k:Nat) {c:C} {y:Value},L E c y->L (E.ren sel) (xH sel k c) y:=by
 intro k
 induction k with
 | zero=>intro c y h;exact .za y
 | succ k ih=>
  intro c y h
  have pos:∀ {id i},posOf sel 0 id=some i->i < sel.length∧(sel[i]?).getD 0=id:=fun {id i} e=>by
   obtain ⟨_,h2⟩:=xG e;rw [Nat.sub_zero] at h2;exact ⟨(List.getElem?_eq_some_iff.1 h2).1,by rw [h2];rfl⟩
  cases h with
  | v x hx=>exact .v _ hx
  | lst o sz rows b off cap us ho hc hsz hst hL=>
   exact .lst o sz rows b off cap us ho hc hsz hst (fun i r k c e1 e2=>(hL i r k c e1 e2).mono (E.zdi sel))
  | xd o sz ho a=>exact .xd o sz ho a
  | jG cells b off us hst hL=>
   exact .jG cells b off us hst (fun k c e1=>(hL k c e1).mono (E.zdi sel))
  | ref id hops sz i j hn=>
   unfold xH;dsimp only;split
   ·rename_i id' e;obtain ⟨h1,h2⟩:=pos e;have:=L.ref (E:=E.ren sel) id' hops sz i j h1;simp only [Env.ren,h2] at this;exact this
   ·exact .za _
  | sl id hops sz lo len full cap hn hlen hf hf'=>
   unfold xH;dsimp only;split
   ·rename_i id' e;obtain ⟨h1,h2⟩:=pos e;have:=L.sl (E:=E.ren sel) id' hops sz lo len full cap h1 hlen hf (by simp only [Env.ren,h2];exact hf');simp only [Env.ren,h2] at this;exact this
   ·exact .za _
  | mp id hn=>
   unfold xH;dsimp only;split
   ·rename_i id' e;obtain ⟨h1,h2⟩:=pos e;have:=L.mp (E:=E.ren sel) id' h1;simp only [Env.ren,h2] at this;exact this
   ·exact .za _
  | agg cs ys h1 h2 h3=>
   have:=LL.ren (f:=xH sel k) (E':=E.ren sel) (cs:=cs) (ys:=ys.toList) ⟨by simpa using h1,fun i c y e1 e2=>h2 i c y e1 uY⟩ (fun c y hl=>ih hl);exact .agg _ ys (by simpa using this.1) (fun i c y e1 e2=>this.2 i c y e1 uY) h3
  | tup cs ys h1 h2=>
   have:=LL.ren (f:=xH sel k) (E':=E.ren sel) (cs:=cs) (ys:=ys.toList) ⟨by simpa using h1,fun i c y e1 e2=>h2 i c y e1 uY⟩ (fun c y hl=>ih hl);exact .tup _ ys (by simpa using this.1) (fun i c y e1 e2=>this.2 i c y e1 uY)
  | fn f first caps ys zs h1 h2 h3 h4=>
   have t1:=LL.ren (f:=xH sel k) (E':=E.ren sel) (cs:=first) (ys:=ys.toList) ⟨by simpa using h1,fun i c y e1 e2=>h3 i c y e1 uY⟩ (fun c y hl=>ih hl);have t2:=LL.ren (f:=xH sel k) (E':=E.ren sel) (cs:=caps) (ys:=zs.toList) ⟨by simpa using h2,fun i c y e1 e2=>h4 i c y e1 uY⟩ (fun c y hl=>ih hl);exact .fn f _ _ ys zs (by simpa using t1.1) (by simpa using t2.1) (fun i c y e1 e2=>t1.2 i c y e1 uY) (fun i c y e1 e2=>t2.2 i c y e1 uY)
  | un=>exact .un
  | za y=>exact .za y
  | gl id sz rows y hn hg hl=>
   unfold xH;dsimp only;split
   ·rename_i id' e;obtain ⟨h1,h2⟩:=pos e;exact .gl id' sz rows y h1 (by simp only [Env.ren,h2];exact hg) (hl.mono (E.zdi sel))
   ·have h3:E.shut.le (E.ren sel):=⟨Nat.zero_le _,fun id hops hi=>absurd hi (Nat.not_lt_zero _),fun id hops hi=>absurd hi (Nat.not_lt_zero _),fun b o u hu=>hu,fun id _ _ hi=>absurd hi (Nat.not_lt_zero _)⟩;exact hl.mono h3
  | ifc t c y hl=>exact .ifc t _ y (ih hl)
theorem zhE (sel:List Nat) (k:Nat) {c:C} (h:zx c=true):zx (xH sel k c)=true:=by
 cases k with
 | zero=>rfl
 | succ k=>
  cases c with
  | lst o sz rows=>exact h
  | ref id hops sz i j=>unfold xH;dsimp only;split <;> rfl
  | sl id hops sz lo len full=>unfold xH;dsimp only;split <;> rfl
  | mp id=>unfold xH;dsimp only;split <;> rfl
  | gl id sz rows=>unfold xH;dsimp only;split <;> rfl
  | _=>rfl
def zK (sel:List Nat) (ob:Ob):Ob:=
 match ob with
 | ⟨kind,ty,sz,rows,fz⟩=>⟨kind,ty,sz,match kind with
  | 2=>rows
  | 4=>rows
  | _=>rows.map fun r=>r.map (xH sel 9),fz⟩
def dead:Ob:=⟨0,0,0,[],0⟩
def xe (sel:List Nat) (H:zk):zk:=sel.map fun id=>zK sel ((H[id]?).getD dead)
def xS:List Nat->Bool
 | []=>true
 | x::xs=>!(xs.any (· == x)) && xS xs
theorem vz:∀ {l:List Nat},xS l=true->∀ (i j x:Nat),l[i]?= some x->l[j]?= some x->i=j
 | [],_,i,j,x,h,_=>by simp at h
 | y::l,h,i,j,x,h1,h2=>by
  simp only [xS,Bool.and_eq_true,Bool.not_eq_true',List.any_eq_false] at h;cases i with
  | zero=>
   cases j with
   | zero=>rfl
   | succ j=>
    simp at h1 h2;subst h1;exact absurd (by simp) (h.1 _ (List.mem_of_getElem? h2))
  | succ i=>
   cases j with
   | zero=>
    simp at h1 h2;subst h2;exact absurd (by simp) (h.1 _ (List.mem_of_getElem? h1))
   | succ j=>
    simp at h1 h2;rw [vz h.2 i j x h1 h2]
theorem L.zqT {E:Env} {c:C} {y:Value} (h:L E c y) (hc:zbt c=true):L E.shut c y:=by
 cases h with
 | agg cs ys h1 h2 h3=>
  refine .agg cs ys h1 (fun i c y e1 e2=>(h2 i c y e1 e2).vi ?_) h3;exact List.all_eq_true.1 (show cs.all q8=true from hc) _ (List.mem_of_getElem? e1)
 | v x hx=>exact (L.v (E:=E) _ hx).vi hc
 | lst o sz rows b off cap us ho h2 hsz hst hL=>exact (L.lst (E:=E) o sz rows b off cap us ho h2 hsz hst hL).vi hc
 | xd o sz ho a=>exact (L.xd (E:=E) o sz ho a).vi hc
 | jG cells b off us hst hL=>exact (L.jG (E:=E) cells b off us hst hL).vi hc
 | fn f first caps ys zs h1 h2 h3 h4=>exact (L.fn (E:=E) f first caps ys zs h1 h2 h3 h4).vi hc
 | _=>simp [zbt,q8,zdq] at hc
theorem LL.closed {E E':Env} {t:List C} {ys:List Value} (h:LL E t ys) (hc:t.all zbt=true) (hs:E.shut.le E'):LL E' t ys:=
 ⟨h.1,fun i c y e1 e2=>((h.2 i c y e1 e2).zqT (List.all_eq_true.1 hc _ (List.mem_of_getElem? e1))).mono hs⟩
section
variable {B:Nat}
theorem xq {sel:List Nat} {H:zk} {i:Nat} {ob':Ob} (h:(xe sel H)[i]?= some ob') (z5:sel.all (fun id=>Nat.blt id H.length)=true):∃ id ob,sel[i]?= some id∧H[id]?= some ob∧ob'=zK sel ob:=by
 unfold xe at h;rw [List.getElem?_map] at h;cases hx:sel[i]? with
 | none=>rw [hx] at h;cases h
 | some id=>
  rw [hx] at h
  have hlt:id < H.length:=by
   have:=List.all_eq_true.1 z5 id (List.mem_of_getElem? hx);simpa [Nat.blt_eq] using this
  have h2:H[id]?= some H[id]:=by simp [hlt]
  simp only [Option.map_some,Option.some.injEq,h2,Option.getD_some] at h;exact ⟨id,H[id],rfl,h2,h.symm⟩
theorem v7 {sel:List Nat} {H:zk} {i:Nat} {hops:List Hop} {sz:Nat} {rows:List (List C)} (z5:sel.all (fun id=>Nat.blt id H.length)=true) (hfl:qK H=true) (h:zZ (xe sel H) i hops=some (sz,rows)):
  ∃ id ob rows0,sel[i]?= some id∧H[id]?= some ob∧zZ H id hops=some (sz,rows0)∧((ob.kind=2∧rows=rows0)∨(ob.kind=1∧hops=[]∧rows=rows0.map (fun r=>r.map (xH sel 9))∧∀ r ∈ rows0,∀ c ∈ r,zx c=true)):=by
 obtain ⟨ob',ho',hk',hg'⟩:=qZ h;obtain ⟨id,ob,h1,h2,rfl⟩:=xq ho' z5;obtain ⟨kind,ty,sz0,rows0,fz⟩:=ob;rcases hk' with hk | hk
 ·have hk:kind=1:=hk;subst hk
  have hno:∀ r ∈ rows0,∀ c ∈ r,zx c=true:=by
   have:=List.all_eq_true.1 hfl _ (List.mem_of_getElem? h2);dsimp only at this;simpa [List.all_eq_true] using this
  have hg2:y8 sz0 (rows0.map fun r=>r.map (xH sel 9)) hops=some (sz,rows):=hg'
  obtain ⟨rfl,e⟩:=kb (fun i k c hc=>by
   unfold cellAt at hc;rw [List.getElem?_map] at hc;cases hx:rows0[i]? with
   | none=>rw [hx] at hc;cases hc
   | some r=>
    rw [hx] at hc;simp only [Option.map_some,Option.bind_some,List.getElem?_map] at hc;cases hy:r[k]? with
    | none=>rw [hy] at hc;cases hc
    | some c0=>
     rw [hy] at hc;cases hc
     exact zhE sel 9 (hno r (List.mem_of_getElem? hx) c0 (List.mem_of_getElem? hy))) hg2
  cases e
  exact ⟨id,_,rows0,h1,h2,by unfold zZ;rw [h2];simp [qL],.inr ⟨rfl,rfl,rfl,hno⟩⟩
 ·have hk:kind=2:=hk;subst hk;exact ⟨id,_,rows,h1,h2,by unfold zZ;rw [h2];exact (show y8 sz0 rows0 hops=_ from hg'),.inl ⟨rfl,rfl⟩⟩
theorem z8.ren {w:World} {E:Env} {H:zk} (hh:z8 w E H) (sel:List Nat) (z5:sel.all (fun id=>Nat.blt id H.length)=true) (hnd:xS sel=true) (hfl:qK H=true):z8 w (E.ren sel) (xe sel H) where
 n:=by simp [Env.ren,xe]
 blk i ob' hops sz rows hob' hx:=by
  obtain ⟨id,ob,rows0,h1,h2,h3,h4⟩:=v7 z5 hfl hx;obtain ⟨id2,ob2,e1,e2,rfl⟩:=xq hob' z5;rw [h1] at e1;cases e1
  rw [h2] at e2;cases e2
  have hb:=hh.blk id ob hops sz rows0 h2 h3;obtain ⟨cur,e,hg,hcs,hcell⟩:=hb.blk;have hβ:∀ hops,(E.ren sel).β i hops=E.β id hops:=fun hops=>by simp [Env.ren,h1]
  have hκ:∀ hops,(E.ren sel).κ i hops=E.κ id hops:=fun hops=>by simp [Env.ren,h1]
  have hkind:(zK sel ob).kind=ob.kind:=by obtain ⟨kind,ty,sz,rows,fz⟩:=ob;rfl
  rw [hkind];rcases h4 with ⟨hk,rfl⟩ | ⟨hk,rfl,rfl,hno⟩
  ·refine ⟨by rw [hκ];exact hb.len,hb.row,cur,e,by rw [hβ];exact hg,by rw [hκ];exact hcs,?_⟩;intro i' k c hc;obtain ⟨u,hu,ho⟩:=hcell i' k c hc;refine ⟨u,hu,?_⟩;unfold qN at ho ⊢;split at ho
   ·rw [hβ,hκ];exact ho
   ·refine ⟨?_,ho.2⟩;have h5:=ho.1;simp only [Env.at,hk,if_true] at h5 ⊢;exact h5.mono (E.zdi sel)
  ·refine ⟨by rw [hκ];simpa using hb.len,?_,cur,e,by rw [hβ];exact hg,by rw [hκ];exact hcs,?_⟩
   ·intro r hr;obtain ⟨r0,h5,rfl⟩:=List.mem_map.1 hr;simpa using hb.row r0 h5
   ·intro i' k c hc;unfold cellAt at hc;rw [List.getElem?_map] at hc;cases hx1:rows0[i']? with
    | none=>rw [hx1] at hc;cases hc
    | some r=>
     rw [hx1] at hc;simp only [Option.map_some,Option.bind_some,List.getElem?_map] at hc;cases hy:r[k]? with
     | none=>rw [hy] at hc;cases hc
     | some c0=>
      rw [hy] at hc;cases hc
      obtain ⟨u,hu,ho⟩:=hcell i' k c0 (by unfold cellAt;rw [hx1];exact hy);have hn0:=hno r (List.mem_of_getElem? hx1) c0 (List.mem_of_getElem? hy);rw [qN.loose hn0] at ho;refine ⟨u,hu,(qN.loose (zhE sel 9 hn0)).2 ⟨?_,ho.2⟩⟩;have h5:=ho.1;have hk2:¬ob.kind=2:=by rw [hk];decide
      simp only [Env.at,if_neg hk2] at h5 ⊢;exact h5.ren sel 9
 inj i hops i' hops' x y hx hy he:=by
  obtain ⟨id,ob,rows0,h1,h2,h3,_⟩:=v7 z5 hfl (sz:=x.1) (rows:=x.2) (by simpa using hx);obtain ⟨id',ob',rows0',h1',h2',h3',_⟩:=v7 z5 hfl (sz:=y.1) (rows:=y.2) (by simpa using hy);simp only [Env.ren,h1,h1',Option.getD_some] at he;obtain ⟨rfl,rfl⟩:=hh.inj id hops id' hops' _ _ h3 h3' he;exact ⟨vz hnd _ _ _ h1 h1',rfl⟩
 qo:=hh.qo
 sep i hops x o u hx hu:=by
  obtain ⟨id,ob,rows0,h1,h2,h3,_⟩:=v7 z5 hfl (sz:=x.1) (rows:=x.2) (by simpa using hx);simp only [Env.ren,h1,Option.getD_some] at hu;obtain ⟨e1,ob2,e2,e3⟩:=hh.sep id hops _ o u h3 hu;rw [h2] at e2;cases e2
  refine ⟨e1,zK sel ob,?_,?_⟩
  ·unfold xe;rw [List.getElem?_map,h1];simp [h2]
  ·obtain ⟨kind,ty,sz,rows,fz⟩:=ob;exact e3
 ty i ob' hob' hk:=by
  obtain ⟨id,ob,h1,h2,rfl⟩:=xq hob' z5;obtain ⟨kind,ty,sz,rows,fz⟩:=ob;obtain ⟨cur,hc⟩:=hh.ty id _ h2 hk;exact ⟨cur,by simp only [Env.ren,h1,Option.getD_some];exact hc⟩
 fz i ob' hob':=by
  obtain ⟨id,ob,h1,h2,rfl⟩:=xq hob' z5;obtain ⟨kind,ty,sz,rows,fz⟩:=ob;have:=hh.fz id _ h2;dsimp only [zK] at this ⊢;split
  ·exact this
  ·exact this
  ·simpa using this
def zhw:Nat->Nat->List Nat->Bool
 | 0,_,_=>true
 | n+1,k,x::xs=>x == k && zhw n (k+1) xs
 | _+1,_,[]=>false
theorem zfR:∀ {n k:Nat} {l:List Nat},zhw n k l=true->n<=l.length∧∀ i,i < n->l[i]?= some (k+i)
 | 0,k,l,h=>⟨Nat.zero_le _,fun i hi=>absurd hi (Nat.not_lt_zero _)⟩
 | n+1,k,x::xs,h=>by
  simp only [zhw,Bool.and_eq_true,beq_iff_eq] at h;obtain ⟨h1,h2⟩:=zfR h.2;refine ⟨by simpa using h1,fun i hi=>?_⟩;cases i with
  | zero=>simp [h.1]
  | succ i=>simp [h2 i (by omega)];omega
 | n+1,k,[],h=>by simp [zhw] at h
theorem vc (sel:List Nat) (ob:Ob):(zK sel ob).kind=ob.kind∧(zK sel ob).ty=ob.ty∧(zK sel ob).sz=ob.sz∧(zK sel ob).rows.length=ob.rows.length:=by
 obtain ⟨kind,ty,sz,rows,fz⟩:=ob;refine ⟨rfl,rfl,rfl,?_⟩;unfold zK;dsimp only;split <;> simp
theorem qz.ren {E:Env} {H:zk} {sel:List Nat} (z5:sel.all (fun id=>Nat.blt id H.length)=true) {i b:Nat} (h:qz (E.ren sel) (xe sel H) i b):∃ id,sel[i]?= some id∧qz E H id b:=by
 obtain ⟨ob',cap,h1,h2,h3,h4⟩:=h;obtain ⟨id,ob,e1,e2,rfl⟩:=xq h1 z5;obtain ⟨l1,l2,l3,l4⟩:=vc sel ob;rw [l4] at h3 h4;simp only [Env.ren,e1,Option.getD_some] at h3;exact ⟨id,e1,ob,cap,e2,by rw [<- l1];exact h2,h3,h4⟩
theorem ziS {sel:List Nat} {ob:Ob} (h:ob.kind=4):zK sel ob=ob:=by
 obtain ⟨kind,ty,sz,rows,fz⟩:=ob;cases h
 rfl
theorem jm.ren {H:zk} {sel:List Nat} (z5:sel.all (fun id=>Nat.blt id H.length)=true) {i b:Nat} (h:jm (xe sel H) i b):∃ id,sel[i]?= some id∧jm H id b:=by
 obtain ⟨ob',r,t,h1,h2,h3,h4⟩:=h;obtain ⟨id,ob,e1,e2,rfl⟩:=xq h1 z5;have hk4:ob.kind=4:=by rw [<- (vc sel ob).1];exact h2
 rw [ziS hk4] at h3 h4;exact ⟨id,e1,ob,r,t,e2,hk4,h3,h4⟩
theorem qX.ren {E:Env} {H:zk} {sel:List Nat} (z5:sel.all (fun id=>Nat.blt id H.length)=true) (hfl:qK H=true) {b:Nat} (h:qX (E.ren sel) (xe sel H) b):qX E H b:=by
 obtain ⟨i,hops,⟨sz,rows⟩,hx,rfl⟩:=h;obtain ⟨id,ob,rows0,h3,h4,h5,_⟩:=v7 z5 hfl hx;exact ⟨id,hops,_,h5,by simp [Env.ren,h3]⟩
theorem qq.ren {w:World} {E:Env} {H:zk} (hh:qq w E H) (sel:List Nat) (z5:sel.all (fun id=>Nat.blt id H.length)=true) (hnd:xS sel=true) (hfl:qK H=true):qq w (E.ren sel) (xe sel H) where
 base:=hh.base.ren sel z5 hnd hfl
 gro:={
  val:=fun i ob' h1 h2=>by
   obtain ⟨id,ob,e1,e2,rfl⟩:=xq h1 z5;obtain ⟨l1,l2,l3,l4⟩:=vc sel ob;rw [l4];simp only [Env.ren,e1,Option.getD_some];exact hh.gro.val id ob e2 (by rw [<- l1];exact h2)
  blk:=fun i b ob' h1 h2=>by
   obtain ⟨id,e0,h3⟩:=h1.ren z5;obtain ⟨id',ob,e1,e2,rfl⟩:=xq h2 z5;rw [e0] at e1;cases e1
   obtain ⟨l1,l2,l3,l4⟩:=vc sel ob;rw [l2,l3,l4];simp only [Env.ren,e0,Option.getD_some];exact hh.gro.blk id b ob h3 e2
  sep:=fun i b h1 h2=>by
   obtain ⟨id,e0,h3⟩:=h1.ren z5;exact hh.gro.sep id b h3 (h2.ren z5 hfl)
  inj:=fun i i' b h1 h2=>by
   obtain ⟨id,e0,h3⟩:=h1.ren z5;obtain ⟨id',e1,h4⟩:=h2.ren z5;obtain rfl:=hh.gro.inj id id' b h3 h4;exact vz hnd _ _ _ e0 e1
  st:=fun i b ob' o u h1 h2 h3=>by
   obtain ⟨id,e0,h4⟩:=h1.ren z5;obtain ⟨id',ob,e1,e2,rfl⟩:=xq h2 z5;rw [e0] at e1;cases e1
   obtain ⟨l1,l2,l3,l4⟩:=vc sel ob;rw [l3,l4];exact hh.gro.st id b ob o u h4 e2 h3
  top:=fun i ob' k u h1 h2 h3=>by
   obtain ⟨id,ob,e1,e2,rfl⟩:=xq h1 z5;obtain ⟨l1,l2,l3,l4⟩:=vc sel ob;rw [l4];simp only [Env.ren,e1,Option.getD_some] at h3;exact hh.gro.top id ob k u e2 (by rw [<- l1];exact h2) h3
  lop:=fun i ob' r t h1 h2 h3=>by
   obtain ⟨id,ob,e1,e2,rfl⟩:=xq h1 z5;have hk4:ob.kind=4:=by rw [<- (vc sel ob).1];exact h2
   rw [ziS hk4] at h3;have:=List.all_eq_true.1 hfl ob (List.mem_of_getElem? e2);rw [hk4,h3.2,h3.1] at this;obtain ⟨p1,p2⟩:=hh.gro.lop id ob r t e2 hk4 h3;have ht:t.all zbt=true:=by simpa using this
   rw [ziS hk4];exact ⟨p1,p2.map fun ys hl=>hl.closed ht ⟨Nat.zero_le _,fun _ _ h=>absurd h (Nat.not_lt_zero _),fun _ _ h=>absurd h (Nat.not_lt_zero _),fun _ _ _ h=>h,fun _ _ _ h=>absurd h (Nat.not_lt_zero _)⟩⟩
  kQ:=fun i i' b h1 h2=>by
   obtain ⟨id,e0,h3⟩:=h1.ren z5;obtain ⟨id',e1,h4⟩:=h2.ren z5;obtain rfl:=hh.gro.kQ id id' b h3 h4;exact vz hnd _ _ _ e0 e1 }
theorem zo.ren (sel m:List Nat) (t:List C) (H:zk) (hB:zhw B 0 sel=true) (z5:sel.all (fun id=>Nat.blt id H.length)=true) (hnd:xS sel=true) (hfl:qK H=true):zo B ⟨t,H⟩ ⟨(zex m 0 t).map (xH sel 9),xe sel H⟩:=fun mm w E a hs=>by
 obtain ⟨h1,h2⟩:=zfR hB
 refine ⟨E.ren sel,⟨hs.heap.ren sel z5 hnd hfl,((zdW m t 0).LL hs.tmps).ren (fun c y hl=>hl.ren sel 9),hs.defers,by simpa [xe] using h1⟩,
  ⟨⟨fun id hops hi=>by simp [Env.ren,h2 id hi],fun id hops hi=>by simp [Env.ren,h2 id hi],fun _ _ _ h=>h,fun id k u hi hu=>by simpa [Env.ren,h2 id hi] using hu⟩,rfl,rfl,rfl,Nat.le_refl _,fun _ _ _=>rfl,fun b o u hu=>.inl hu,?_⟩⟩
 rintro b (hb | ⟨i,hb | hb⟩)
 ·exact .inr (.inl (hb.ren z5 hfl))
 ·obtain ⟨id,_,h3⟩:=hb.ren z5;exact .inr (.inr ⟨id,.inl h3⟩)
 ·obtain ⟨id,_,h3⟩:=hb.ren z5;exact .inr (.inr ⟨id,.inr h3⟩)
end
theorem WC.trans {c c' c'':C} (h:WC c c') (h':WC c' c''):WC c c'':=fun E y hl=>h' E y (h E y hl)
theorem WC.nil (sz sz':Nat):WC (.lst 1 sz []) (.lst 0 sz' []):=(WC.none 1 sz sz').trans (WC.share 1 sz' [])
theorem WCs.at:∀ {cs:List C} {i:Nat} {c c':C},cs[i]?= some c->WC c c'->WCs cs (cs.set i c')
 | [],i,c,c',h,hw=>by simp at h
 | x::xs,0,c,c',h,hw=>by simp at h;subst h;exact .cons hw (WCs.refl xs)
 | x::xs,i+1,c,c',h,hw=>.cons (.refl x) (WCs.at (by simpa using h) hw)
theorem zo.cell {B:Nat} {s:S} (i:Nat) {c c':C} (h:s.tmps[i]?= some c) (hw:WC c c'):zo B s ⟨s.tmps.set i c',s.H⟩:=zo.tmps (WCs.at h hw)
def cov (t2:List C):List C->Prop:=
 List.rec (motive:=fun _=>List C->Prop) (fun t1=>match t1 with | []=>True | _::_=>False)
  (fun c' _ ih t1=>match t1 with
   | []=>False
   | c::cs=>match c' with
    | .za=>ih cs
    | c'=>c=c'∧ih cs) t2
theorem zih:∀ {t2 t1:List C},cov t2 t1->WCs t1 t2
 | [],[],_=>.nil
 | [],_::_,h=>h.elim
 | _::_,[],h=>h.elim
 | c'::t2,c::t1,h=>by
  cases c' with
  | za=>exact .cons (.za c) (zih (t2:=t2) (t1:=t1) h)
  | _=>
   obtain ⟨h1,h2⟩:=h;exact .cons (h1 ▸ .refl c) (zih (t2:=t2) (t1:=t1) h2)
section
variable {P:Program} {B:Nat}
theorem zo.cov {t1 t2:List C} {H:zk} (h:Ab.cov t2 t1):zo B ⟨t1,H⟩ ⟨t2,H⟩:=zo.tmps (zih h)
theorem zo.xa (n:Nat) {t1 t2:List C} {H1 H2:zk} (h:Ab.cov t2 t1) (hB:Nat.ble B n=true) (hn:Nat.ble n H1.length=true) (ht:t2.all (qS n 9)=true) (hr:qF n (H1.take n)=true) (hH:H1.take n=H2):zo B ⟨t1,H1⟩ ⟨t2,H2⟩:=by
 subst hH;exact (zo.cov h).trans (zo.drop (s:=⟨t2,H1⟩) n hB hn ht hr)
theorem zo.zir {s:S} (t:Nat) {id sz len ty:Nat} {full:Bool} {rows:List (List C)} (ht:s.tmps[t]?= some (.sl id [] sz 0 len full)) (hob:s.H[id]?= some ⟨2,ty,sz,rows,0⟩) (hlen:len=rows.length)
  (hno:∀ r ∈ rows,∀ c ∈ r,zx c=true):
  zo B s ⟨s.tmps.set t (.lst (if full then 1 else 0) sz rows),s.H.set id ⟨2,ty,sz,rows,rows.length⟩⟩:=by
 have:=zo.freeze (B:=B) t ht hob rfl rfl (by simp [hlen]) hno;rw [yy _ hob] at this;simpa [hlen] using this
theorem qq.zeo {w:World} {E:Env} {H:zk} (hh:qq w E H) {id sz len ty:Nat} {full:Bool} {rows:List (List C)} {y:Value} (hl:L E (.sl id [] sz 0 len full) y) (hob:H[id]?= some ⟨2,ty,sz,rows,0⟩) (hlen:len=rows.length)
  (hno:∀ r ∈ rows,∀ c ∈ r,zx c=true):
  ∃ E1,qq w E1 (H.set id ⟨2,ty,sz,rows,rows.length⟩)∧L E1 (.lst (if full then 1 else 0) sz rows) y∧Grow w E H w E1 (H.set id ⟨2,ty,sz,rows,rows.length⟩):=by
 obtain ⟨E1,hs,g⟩:=zo.zir (B:=H.length) (s:=⟨[.sl id [] sz 0 len full],H⟩) 0 rfl hob hlen hno 0 w E ⟨#[y],[]⟩ ⟨hh,LL.one hl,Nat.zero_le _,Nat.le_refl _⟩;have hn:=hs.heap.n
 refine ⟨E1,hs.heap,hs.tmps.cons_inv.1,⟨⟨by rw [hn,hh.n];simp,fun id hops hi=>g.le.β id hops tD,fun id hops hi=>g.le.κ id hops tD,g.le.St,fun id k u hi=>g.le.G id k u tD⟩,
  g.os,g.tape,g.output,g.size,g.frame,g.jy,g.own⟩⟩
theorem zo.zrt {s:S} (vid k:Nat) {id sz len ty vty vsz fz:Nat} {full:Bool} {r:List C} {rows:List (List C)} (hv:s.H[vid]?= some ⟨1,vty,vsz,[r],fz⟩) (hk:r[k]?= some (.sl id [] sz 0 len full)) (hob:s.H[id]?= some ⟨2,ty,sz,rows,0⟩) (hlen:len=rows.length)
  (hno:∀ r ∈ rows,∀ c ∈ r,zx c=true) (hr:r.all zx=true) (hr':(r.set k (.lst (if full then 1 else 0) sz rows)).all zx=true):
  zo B s ⟨s.tmps,(s.H.set id ⟨2,ty,sz,rows,rows.length⟩).set vid ⟨1,vty,vsz,[r.set k (.lst (if full then 1 else 0) sz rows)],fz⟩⟩:=fun m w E a hs=>by
 have hgb:zZ s.H vid []=some (vsz,[r]):=by unfold zZ;rw [hv];simp [qL]
 obtain ⟨cur,e,h3,h4,h5⟩:=(hs.heap.base.blk _ _ _ _ _ hv hgb).blk;obtain ⟨u,hu,ho⟩:=h5 0 k _ (yt.2 ⟨rfl,hk⟩);rw [qN.loose rfl] at ho;have hl:L E (.sl id [] sz 0 len full) u:=by simpa [Env.at] using ho.1
 obtain ⟨E1,hh1,hl1,g1⟩:=hs.heap.zeo hl hob hlen hno;have hne:vid≠id:=by rintro rfl;rw [hv] at hob;cases hob
 have hob1:(s.H.set id ⟨2,ty,sz,rows,rows.length⟩)[vid]?= some ⟨1,vty,vsz,[r],fz⟩:=by rw [List.getElem?_set,if_neg (Ne.symm hne)];exact hv
 have hβ:E1.β vid []=E.β vid []:=g1.le.β vid [] (by rw [hs.heap.n];exact (List.getElem?_eq_some_iff.1 hv).1)
 have hcu:w.cell? ⟨E1.β vid [],k,none⟩=some u:=by
  unfold World.cell?;rw [hβ,h3];simpa using hu
 obtain ⟨hR,g2⟩:=hh1.zgl hob1 (r':=r.set k (.lst (if full then 1 else 0) sz rows)) (by simp) hr hr' fun j c c' v e1 e2 hl' hv=>by
  rw [List.getElem?_set] at e2;split at e2
  ·rename_i e;subst e;rw [hcu] at hv;cases hv
   split at e2
   ·cases e2;exact hl1
   ·cases e2
  ·rw [e1] at e2;cases e2
   exact hl'
 have g:=g1.trans g2;exact ⟨E1,⟨hR,hs.tmps.mono g.le,hs.defers.grow hs.heap g,by have:=hs.base;simp;omega⟩,g.toB tB⟩
theorem qw.zk0 {f:FuncId} {args:List C} {r:C} (h:qw P f [] args fun c _=>xW 0 9 c=r):zb P f [] args r []:=fun w E vs hh hl=>by
 refine (h w E vs hh hl).mono ?_;rintro e w' ⟨c,H',v,E',rfl,rfl,h1,h2,g⟩;have h3:=h1.drop 0 (Nat.zero_le _) (by simp [qF]);rw [List.take_zero] at h3;have hn:E.n=0:=hh.n
 exact ⟨v,E'.cut 0,rfl,h3,h2.low 0 9,⟨⟨by rw [hn];exact Nat.zero_le _,fun id hops hi=>by rw [hn] at hi;omega,fun id hops hi=>by rw [hn] at hi;omega,g.le.St,fun id k u hi=>by rw [hn] at hi;omega⟩,g.os,g.tape,g.output,g.size,g.frame,g.jy,
  fun b h=>absurd h jV.none⟩⟩
theorem zb.zp {f:FuncId} {fn:Func} {c:Code} {args:List C} {r:C} (hf:P.funcs[f]?= some fn) (hb:fn.body=some c)
  (h:wpA P 0 c (entry fn args) [] fun ex t1 H1=>(ex=.ret∨ex=.normal)∧∃ s2,zo 0 ⟨t1,H1⟩ s2∧(vT P fn s2).map (xW 0 9)=some r):zb P f [] args r []:=by
 refine qw.zk0 (qw.kH (H:=[]) hf hb ((jl h).mono fun ex s1 ⟨hex,s2,hw,h2⟩=>?_));cases h3:vT P fn s2 with
 | none=>rw [h3] at h2;cases h2
 | some r0=>
  rw [h3] at h2;cases h2
  exact ⟨hex,s2,r0,hw,h3,rfl⟩
theorem qf.seq {c:Code} {t:List C} {H:zk} {K:Exit->List C->zk->Prop} (N:Nat) (T:Nat->List C) (Hp:Nat->zk) (R:Nat->Prop) (h0:zo B ⟨t,H⟩ ⟨T 0,Hp 0⟩) (r0:R 0)
  (step:∀ k,k < N->R k->wpA P B c (T k) (Hp k) fun e t1 H1=>(e=.normal∧zo B ⟨t1,H1⟩ ⟨T (k+1),Hp (k+1)⟩∧R (k+1))∨(e≠.normal∧K e t1 H1))
  (done:R N->wpA P B c (T N) (Hp N) fun e t1 H1=>e≠.normal∧K e t1 H1):
  zcA P B c t H K:=by
 have key:∀ n k,k+n=N->R k->zaG P B c (n+1) ⟨T k,Hp k⟩ fun ex s=>K ex s.tmps s.H:=by
  intro n
  induction n with
  | zero=>
   intro k hk hr;obtain rfl:k=N:=by omega
   refine .step ((jl (done hr)).mono fun ex s1 ⟨hne,hK⟩=>?_);cases ex with
   | normal=>exact absurd rfl hne
   | _=>exact hK
  | succ n ih=>
   intro k hk hr;refine .step ((jl (step k (by omega) hr)).post fun ex s1 h1=>?_);rcases h1 with ⟨rfl,hw,hr'⟩ | ⟨hne,hK⟩
   ·exact ⟨_,hw,(ih (k+1) (by omega) hr':zaG P B c (n+1) _ _)⟩
   ·refine ⟨s1,.refl s1,?_⟩;cases ex with
    | normal=>exact absurd rfl hne
    | _=>exact hK
 exact ⟨.pre h0 ⟨N+1,key N 0 (by omega) r0⟩⟩
end
section
variable {P:Program} {B:Nat}
structure LoopN (P:Program) (B:Nat) (c:Code) (n:Nat) (t:List C) (H:zk) (K:Exit->List C->zk->Prop):Prop where
 out:zaG P B c n ⟨t,H⟩ fun ex s=>K ex s.tmps s.H
theorem LoopN.step {c:Code} {n:Nat} {t:List C} {H:zk} {K:Exit->List C->zk->Prop}
  (h:wpA P B c t H fun e t1 H1=>(e=.normal∧LoopN P B c n t1 H1 K)∨(e≠.normal∧K e t1 H1)):LoopN P B c (n+1) t H K:=by
 refine ⟨.step ((jl h).post fun ex s1 h1=>?_)⟩;rcases h1 with ⟨rfl,h⟩ | ⟨hne,hK⟩
 ·exact ⟨s1,.refl s1,h.out⟩
 ·refine ⟨s1,.refl s1,?_⟩;cases ex with
  | normal=>exact absurd rfl hne
  | _=>exact hK
theorem zcA.ofN {c:Code} (n:Nat) {t:List C} {H:zk} {K:Exit->List C->zk->Prop} (h:LoopN P B c n t H K):zcA P B c t H K:=⟨⟨n,h.out⟩⟩
end
section
variable {P:Program} {B:Nat}
theorem zaO {x y:Code} {t:List C} {H:zk} {R:Exit->S->Prop} (h:wpA P B x t H fun e t1 H1=>(e=.normal∧∃ t2 H2,zo B ⟨t1,H1⟩ ⟨t2,H2⟩∧qQ P B y ⟨t2,H2⟩ R)∨(e≠.normal∧R e ⟨t1,H1⟩)):qQ P B (.seq x y) ⟨t,H⟩ R:=by
 refine .seq ((jl h).post fun ex s1 h1=>?_);rcases h1 with ⟨rfl,t2,H2,hw,hr⟩ | ⟨hne,hr⟩
 ·exact ⟨_,hw,hr⟩
 ·refine ⟨s1,.refl s1,?_⟩;cases ex with
  | normal=>exact absurd rfl hne
  | _=>exact hr
end
def behind:Nat->Code->Code
 | 0,c=>c
 | n+1,.seq _ y=>behind n y
 | _,c=>c
theorem cE {B:Nat}(n:Nat){t1 t2:List C}{H1 H2:zk}(h:Ab.cov t2 t1:=by (conv=>whnf);(repeat (refine ⟨rfl,uH ?_⟩));exact trivial)(hB:Nat.ble B n=true:=by exact rfl)(hn:Nat.ble n H1.length=true:=by exact rfl)(ht:t2.all (qS n 9)=true:=by exact rfl)(hr:qF n (H1.take n)=true:=by exact rfl)(hH:H1.take n=H2:=by exact rfl):zo B ⟨t1,H1⟩ ⟨t2,H2⟩:=zo.xa n h hB hn ht hr hH
theorem cC {B:Nat}{t1 t2:List C}{H:zk}(h:Ab.cov t2 t1:=by (conv=>whnf);(repeat (refine ⟨rfl,uH ?_⟩));exact trivial):zo B ⟨t1,H⟩ ⟨t2,H⟩:=zo.cov h
end Go.Ab
